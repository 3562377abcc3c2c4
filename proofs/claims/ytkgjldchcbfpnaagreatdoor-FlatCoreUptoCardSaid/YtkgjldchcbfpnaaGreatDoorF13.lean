/- The evaluator's nodes of any form, whatever comes of them, walked. -/
import Derived.Test.YtkgjldchcbfpnaaGreatDoorF12
set_option maxRecDepth 10000
set_option linter.unusedVariables false
set_option linter.unusedSimpArgs false
namespace Go.Proofs.YtkgjldchcbfpnaaGreatDoor
open Go Go.Abs Go.CoreX
variable {Γ:List (Nat×List AC)}
structure FragU (fns:List Fun)(hi:Bool)(l:Lab):Prop where
 sh:shpQ l
 op:l.op=12∨l.op=13->hi=true
 bl:l.binds.length<=1048576
 al:l.alts.length<=1048576
 ab:∀a∈l.alts,a.binds.length<=1048576
 kl:l.ops.length<=1048576
 wd:l.op=1->inW l.n
 rc:l.op=5->∀i,i < l.binds.length->l.ops[i]?=some 2
 cl:l.op=14∨l.op=15->0<=l.n/\l.n < fns.length
 ar:l.op=14->(fns.getD l.n.toNat ⟨[],default⟩).params.length=l.ops.length
 sl:l.op=16->0<=l.n
 rb:l.op=9->rowOk l.binds
 rn:l.op=11->0<=l.n/\l.n < 1048576
structure FnsU (fns:List Fun)(hi:Bool):Prop where
 b:∀f∈fns,allT (FragU fns hi) f.body
 p:∀f∈fns,f.params.length<=1048576
def GU (fns:List Fun)(hi:Bool):GP:={ p:=FragU fns hi,S:=fun _=>True,W:=inW,fns:=fns,R:=hi=true,RW:=rowOk }
theorem GUok{fns:List Fun}{hi:Bool}(hf:FnsU fns hi):GPok (GU fns hi) where
 sh:=fun l h=>h.sh
 bnd:=fun _ _ _ _=>trivial
 wd:=fun l h h1=>h.wd h1
 rc:=fun l h h1=>h.rc h1
 wr:=fun n=>by show inW (wrapW n);unfold inW wrapW;omega
 wl:=fun n h0 h1=>by show inW n;unfold inW;omega
 wm:=fun a b ha hb=>Qc0 ha hb
 fn:=fun f h=>⟨hf.b f h,fun _ _=>trivial⟩
 cl:=fun l h ho=>h.cl ho
 rs:=fun l h ho=>h.op (.inl ho)
 rw:=fun l h ho=>h.rb ho
 ri:=fun l h ho ls hl hb=>Qf7 hl (h.rn ho) hb
theorem GUopn{fns:List Fun}{hi:Bool}{t:Tr}(h:allT (FragU fns hi) t):opdN t<=1048576:=by
 have F:FragU fns hi ⟨t.op,t.n,t.binds,t.kids.map Tr.op,t.alts⟩:=Q0w h
 have:=F.kl
 simp at this
 unfold opdN
 split <;> omega

section
variable {fu:Int}{ac:AC}
structure MoreU (fns:List Fun)(hi:Bool)(fu:Int)(ac:AC)(Γ:List (Nat×List AC)):Prop where
 res:hi=true->∀(ou:Outer) (H:Hm) (nm:Nm2) (m:Ms) (k fs:List Fm) (kc tc0 ec0 vc0:AC) (kt:Nat) (vc:AC) (a:Vl) (c:AC),M0 fu ⟨ac,kt⟩ ou H nm m tc0 ec0 vc0 kc->KR H nm k kc->VR H nm (.res fs) vc->VR H nm a c->gFs (GU fns hi) fs->(fs++k).length<=1048576->
  AFn Tryz.prog Γ 109 [.one (.ptr (.o 0) 0),.one vc,.one (.sl 1 [[c]])] ou (StQ fu ⟨ac,kt⟩ H nm (.ok { m with c:=.rt a,k:=fs++k }))
 kid:hi=true->∀(ou:Outer) (H:Hm) (nm:Nm2) (m m':Ms) (t:Tr) (e:En) (d:List Vl) (k:List Fm) (ec kc tc0 ec0 vc0 kc0:AC) (dc:List (List AC)) (kt:Nat),M0 fu ⟨ac,kt⟩ ou H nm m tc0 ec0 vc0 kc0->ER H nm e ec->VsR H nm d dc->KR H nm k kc->
  allT (FragU fns hi) t->gFs (GU fns hi) k->k.length<=1048576->d.length=1->t.op=12∨t.op=13->kidM fu fns m (.mk t e d) k=.ok m'->AFn Tryz.prog Γ 86 [.one (.ptr (.o 0) 0),.one (.box [.box (cTr t),ec,.sl 1 dc,kc])] ou (StQ fu ⟨ac,kt⟩ H nm (.ok m'))
theorem MoreU.no{fns:List Fun}{fu:Int}{ac:AC}:MoreU fns false fu ac Γ:=⟨(fun h=>by cases h),(fun h=>by cases h)⟩
theorem PR.k{ou:Outer}{m:Ms}{k:List Fm}(h:PR ou { m with k:=k }):PR ou m:=⟨h.ok,h.m0⟩
theorem M0.k{fc:FcT}{ou:Outer}{H:Hm}{nm:Nm2}{m:Ms}{k:List Fm}{tc ec vc kc:AC}(h:M0 fu fc ou H nm m tc ec vc kc):M0 fu fc ou H nm { m with k:=k } tc ec vc kc:=⟨h.ids,h.m0,h.w⟩
def KidP (fu:Int)(ac:AC)(G:GP)(Γ:List (Nat×List AC)):Prop:=∀(ou:Outer)(H:Hm)(nm:Nm2)(m:Ms)(t:Tr)(e:En)(d:List Vl)(k:List Fm)(ec kc tc0 ec0 vc0 kc0:AC)(dc:List (List AC))(kt:Nat),M0 fu ⟨ac,kt⟩ ou H nm m tc0 ec0 vc0 kc0->ER H nm e ec->VsR H nm d dc->KR H nm k kc->
 allT G.p t->gE G e->gVs G d->d.length<=opdN t->nLf t.op->gFs G k->(G.R->k.length<=1048576)->m.out.length<=1000->0<=m.steps/\m.steps<=1000000->(t.op=12->∃m',kidM fu G.fns m (.mk t e d) k=.ok m')->(∀m',kidM fu G.fns m (.mk t e d) k=.ok m'->G.R->m'.k.length<=1048576)->
 AFnP Tryz.prog Γ 86 [.one (.ptr (.o 0) 0),.one (.box [.box (cTr t),ec,.sl 1 dc,kc])] ou (StQ fu ⟨ac,kt⟩ H nm (kidM fu G.fns m (.mk t e d) k)) (StP m (kidM fu G.fns m (.mk t e d) k))
def StartP (fu:Int)(ac:AC)(G:GP)(Γ:List (Nat×List AC)):Prop:=∀(ou:Outer)(H:Hm)(nm:Nm2)(m:Ms)(t:Tr)(e:En)(ec vc kc:AC)(kt:Nat),M0 fu ⟨ac,kt⟩ ou H nm m (.box (cTr t)) ec vc kc->ER H nm e ec->KR H nm m.k kc->
 allT G.p t->gE G e->gFs G m.k->(G.R->m.k.length<=1048576)->m.out.length<=1000->0<=m.steps/\m.steps<=1000000->(t.op=12->∃m',Q0h fu G.fns m t e=.ok m')->(∀m',Q0h fu G.fns m t e=.ok m'->G.R->m'.k.length<=1048576)->
 AFnP Tryz.prog Γ 88 [.one (.ptr (.o 0) 0)] ou (StQ fu ⟨ac,kt⟩ H nm (Q0h fu G.fns m t e)) (StP m (Q0h fu G.fns m t e))
theorem kidU(hΓ:∀g cs,(g,cs)∈Γ->idsL isO cs){fns:List Fun}{hi:Bool}(hf:FnsU fns hi)(hfu:0<=fu/\fu<=1000000)(hmore:MoreU fns hi fu (.sl 2 (fns.map cFun)) Γ):KidP fu (.sl 2 (fns.map cFun)) (GU fns hi) Γ:=by
 intro ou H nm m t e d k ec kc tc0 ec0 vc0 kc0 dc kt h0 he hd hk ht hge hgd hle hn hgk hkb hol hst h12 hnx
 have F:FragU fns hi ⟨t.op,t.n,t.binds,t.kids.map Tr.op,t.alts⟩:=Q0w ht
 have hsh:=g_sh (GUok hf) ht
 have hopk:=g_opN (GUok hf) ht
 have hfc:(FcT.mk (.sl 2 (fns.map cFun)) kt).ids isO:=by show idsS isO _;simp
 show AFnP _ _ _ _ _ (StQ fu _ H nm (kidM fu fns m (.mk t e d) k)) (StP m (kidM fu fns m (.mk t e d) k))
 replace h12:t.op=12->∃m',kidM fu fns m (.mk t e d) k=.ok m':=h12
 replace hnx:∀m',kidM fu fns m (.mk t e d) k=.ok m'->hi=true->m'.k.length<=1048576:=hnx
 by_cases hlt:d.length < opdN t
 ·obtain⟨s,hs⟩:=Q01 (Nat.lt_of_lt_of_le hlt hopk)
  exact Qcs (fns:=fns) hΓ h0 hfc he hd hk hlt hs
 have hl:d.length=opdN t:=by omega
 have hnl:¬(Fm.mk t e d).done.length < opdN (Fm.mk t e d).t:=hlt
 have hkm:∀{x:Except Int Ms},x=kidM fu fns m (.mk t e d) k->AFnP Tryz.prog Γ 86 [.one (.ptr (.o 0) 0),.one (.box [.box (cTr t),ec,.sl 1 dc,kc])] ou (StQ fu ⟨.sl 2 (fns.map cFun),kt⟩ H nm x) (StP m x)->AFnP Tryz.prog Γ 86 [.one (.ptr (.o 0) 0),.one (.box [.box (cTr t),ec,.sl 1 dc,kc])] ou (StQ fu ⟨.sl 2 (fns.map cFun),kt⟩ H nm (kidM fu fns m (.mk t e d) k)) (StP m (kidM fu fns m (.mk t e d) k)):=fun h1 h2=>by rw[←h1];exact h2
 have hwr:∀v∈d,wdV v/\rowV v:=fun v hv=>by
  have hg:=Q1i.1 hgd v hv
  refine⟨fun n hn=>by rw[hn]at hg;exact hg,fun ls fs hr=>?_⟩
  rw[hr]at hg
  exact⟨hg.1,Qf6 hg.2.1⟩
 have hops:=Qex hsh
 obtain⟨o,n,b,ks,al⟩:=t
 simp only[Tr.op,Tr.n,Tr.binds,Tr.kids,Tr.alts]at F hsh h12 hops
 by_cases h1213:o=12∨o=13
 · -- an operation, a handler
  have hhi:hi=true:=F.op h1213
  have hl1:d.length=1:=by rw[hl];exact if_pos (show o=4∨o=7∨o=13∨o=12 by omega)
  obtain⟨m',hx⟩:∃m',kidM fu fns m (.mk (.mk o n b ks al) e d) k=.ok m':=by
   rcases h1213 with h|h
   ·exact h12 h
   ·have hx:kidM fu fns m (.mk (.mk o n b ks al) e d) k=.ok { m with c:=.ev (ks.getD 1 default) (.bind ((al.getD 0 ⟨0,[]⟩).binds.getD 0 0) (d.getD 0 .nil) e),k:=k }:=by
     unfold kidM
     rw[if_neg hnl]
     rw[if_neg (show ¬(Fm.mk (Tr.mk o n b ks al) e d).t.op=4 from (by omega:¬o=4)),if_neg (show ¬(Fm.mk (Tr.mk o n b ks al) e d).t.op=7 from (by omega:¬o=7)),if_neg (show ¬(Fm.mk (Tr.mk o n b ks al) e d).t.op=3 from (by omega:¬o=3)),if_pos (show (Fm.mk (Tr.mk o n b ks al) e d).t.op=13 from h)]
     rfl
    exact⟨_,hx⟩
  refine hkm hx.symm (AFn.toP ?_)
  exact hmore.kid hhi ou H nm m m' _ e d k ec kc tc0 ec0 vc0 kc0 dc kt h0 he hd hk ht hgk (hkb hhi) hl1 h1213 hx
 by_cases h3:o=3
 ·subst h3
  have hopn:opdN (.mk 3 n b ks al)=ks.length:=rfl
  have hkl:=hsh.app.1
  rw[hopn]at hl
  match d,hd,hl with
  |[],_,hl=>simp at hl;omega
  |v0::ds,hd,hl=>
   obtain⟨c0,dcs,rfl,hv0,hds⟩:=hd.consE
   have hke:callM fns { m with k:=k } v0 ds=kidM fu fns m (.mk (.mk 3 n b ks al) e (v0::ds)) k:=by
    unfold kidM;rw[if_neg hnl];rfl
   rw[←hke]at hnx ⊢
   refine Qif hΓ h0 hfc he hv0 hds hk (by simpa using hl) rfl (fun ou' h0'=>?_)
   cases v0 with
   |clo t' e'=>
    obtain⟨g1,g2,g3⟩:=hgd.1
    have F':FragU fns hi ⟨t'.op,t'.n,t'.binds,t'.kids.map Tr.op,t'.alts⟩:=Q0w g2
    have hsh':=g_sh (GUok hf) g2
    rw[g1]at hsh'
    obtain⟨s,hs⟩:=Q01 (l:=t'.kids) (i:=0) (by have:=hsh'.lam.1;omega)
    cases hv0 with
    |clo _ _ c he'=>exact Qiu hΓ h0' hfc hk he' hds hs F'.bl
    |cloP _ _ c q hq he'=>exact Qh3 hΓ h0' hfc hk hq he' hds hs F'.bl
   |cap g s=>
    obtain⟨⟨hg0,hg1⟩,_⟩:=hgd.1
    obtain⟨i,rfl⟩:∃i:Nat,g=(i:Int):=⟨g.toNat,by omega⟩
    have hi2:i < fns.length:=by have:((i:Int)) < ((GU fns hi).fns.length:Int):=hg1;simpa[GU]using this
    obtain⟨f,hfi⟩:=Q01 hi2
    have hgd':fns.getD (i:Int).toNat ⟨[],default⟩=f:=by rw[Int.toNat_natCast,List.getD_eq_getElem?_getD,hfi];rfl
    simp only[callM,hgd']
    by_cases hpl:f.params.length=ds.length+1
    ·rw[if_pos hpl]
     exact AFn.toP (Qd6 hΓ h0' hk hv0 hfi hds hpl (hf.p f (List.mem_of_getElem? hfi)))
    ·rw[if_neg hpl]
     exact Qe8 hΓ h0' hv0 hfi hds hpl (by have:=F.kl;simp at this;simp at hl;omega) rfl
   |res fs=>
    have hR:hi=true:=hgd.1.1
    by_cases h1:ds.length=1
    ·obtain⟨a,rfl⟩:=list1 h1
     obtain⟨c,ds2,rfl,hva,hnil⟩:=hds.consE
     have hz:=hnil.nilE
     subst hz
     exact AFn.toP (hmore.res hR ou' H nm m k fs kc tc0 ec0 vc0 kt _ a c h0' hk hv0 hva hgd.1.2 (hnx _ rfl hR))
    ·exact Qh2 hΓ h0' hv0 hds (by simp) (by simp) (.inr h1)
   |_=>exact Qh2 hΓ h0' hv0 hds (by simp) (by simp) (.inl (by simp))
 by_cases h4:o=4
 ·subst h4
  obtain⟨v,rfl⟩:=list1 (l:=d) hl
  obtain⟨hk2,hb1,_⟩:=hsh.lett
  obtain⟨id,rfl⟩:=list1 hb1
  obtain⟨s0,s1,rfl⟩:=list2 hk2
  exact kid_let (fns:=fns) (t:=.mk 4 n [id] [s0,s1] al) (s:=s1) (id:=id) hΓ h0 hfc he hd hk (v:=v) rfl rfl rfl rfl
 by_cases h7:o=7
 ·subst h7
  obtain⟨v,rfl⟩:=list1 (l:=d) hl
  have hke:Q2b { m with k:=k } (.mk 7 n b ks al) e v=kidM fu fns m (.mk (.mk 7 n b ks al) e [v]) k:=by
   unfold kidM;rw[if_neg hnl];rfl
  refine hkm hke (Qg2 hΓ h0 hfc he hd hk rfl rfl fun ou' h0'=>?_)
  exact Qh1 (t:=.mk 7 n b ks al) hΓ h0' hfc he hd hk (v:=v) rfl hsh.case.1 F.al F.ab kc hk.ids
 by_cases h14:o=14
 ·subst h14
  obtain⟨h1,h2⟩:=F.cl (.inl rfl)
  obtain⟨i,rfl⟩:∃i:Nat,n=(i:Int):=⟨n.toNat,by simp only at h1;omega⟩
  have hi2:i < fns.length:=by simpa using h2
  obtain⟨f,hfi⟩:=Q01 hi2
  have hgd':fns.getD (i:Int).toNat ⟨[],default⟩=f:=by rw[Int.toNat_natCast,List.getD_eq_getElem?_getD,hfi];rfl
  have har:=F.ar rfl
  simp only[hgd',List.length_map]at har
  have hdl:d.length=ks.length:=hl
  have hke:Except.ok { m with c:=.ev f.body (allE .nil f.params d),k:=k }=kidM fu fns m (.mk (.mk 14 (i:Int) b ks al) e d) k:=by
   unfold kidM;rw[if_neg hnl];rw[←hgd'];rfl
  exact hkm hke (AFn.toP (kid_fn (t:=.mk 14 (i:Int) b ks al) hΓ h0 he hd hk hdl rfl rfl hfi (by omega) (hf.p f (List.mem_of_getElem? hfi))))
 by_cases h15:o=15
 ·subst h15
  have hke:Except.ok { m with c:=.rt (.cap n d),k:=k }=kidM fu fns m (.mk (.mk 15 n b ks al) e d) k:=by
   unfold kidM;rw[if_neg hnl];rfl
  exact hkm hke (AFn.toP (Qct hΓ h0 hfc he hd hk hl rfl))
 by_cases h16:o=16
 ·subst h16
  have hn0:0<=n:=F.sl rfl
  obtain⟨i,rfl⟩:∃i:Nat,n=(i:Int):=⟨n.toNat,by omega⟩
  have hopn:opdN (.mk 16 (i:Int) b ks al)=ks.length:=rfl
  have hk1:ks.length=1:=(hsh.one (.inr (.inr rfl))).1
  obtain⟨v,rfl⟩:=list1 (l:=d) (by omega)
  obtain⟨c,dd,rfl,hv,hdd⟩:=hd.consE
  have hz:=hdd.nilE
  subst hz
  have hke:(match (generalizing:=false) v with
   |.cap _ slots=>if (i:Int) < slots.length then (Except.ok { m with c:=.rt (slots.getD (i:Int).toNat .nil),k:=k }:Except Int Ms)else .error 5
   |_=>.error 5)=kidM fu fns m (.mk (.mk 16 (i:Int) b ks al) e [v]) k:=by
   unfold kidM;rw[if_neg hnl];rfl
  refine hkm hke ?_
  rcases hv.isCap with ⟨g,s,l,rfl,rfl,hsl⟩|⟨hvn,hno⟩
  ·have hsll:=hsl.len
   simp only
   by_cases hlt2:(i:Int) < s.length
   ·rw[if_pos hlt2]
    obtain⟨y,hy⟩:=Q01 (show i < s.length by omega)
    have hgy:s.getD (i:Int).toNat .nil=y:=by rw[Int.toNat_natCast,List.getD_eq_getElem?_getD,hy];rfl
    rw[hgy]
    exact AFn.toP (Qcq (t:=.mk 16 (i:Int) b ks al) hΓ h0 hfc he hv hk hk1 rfl rfl hy)
   ·rw[if_neg hlt2]
    exact Q7u (t:=.mk 16 (i:Int) b ks al) hΓ h0 hfc he hv.ids hk hk1 rfl rfl (.inr ⟨g,l,rfl,by omega⟩) rfl
  ·refine Q7u (t:=.mk 16 (i:Int) b ks al) hΓ h0 hfc he hv.ids hk hk1 rfl rfl (.inl hno) ?_
   cases v <;> first|rfl|exact absurd rfl (hvn _ _)
 · -- a plain node
  have hpo:o=6∨o=8∨o=9∨o=10∨o=11:=by
   unfold nLf at hn
   simp only[Tr.op]at hn
   omega
  have hdl:d.length=ks.length:=by rw[hl];exact if_neg (show ¬(o=4∨o=7∨o=13∨o=12) by omega)
  have hke:(Q0r fu { m with k:=k } (.mk o n b ks al) d).map (fun (m1,v)=>{ m1 with c:=.rt v,k:=k })=kidM fu fns m (.mk (.mk o n b ks al) e d) k:=by
   unfold kidM
   rw[if_neg hnl]
   rw[if_neg (show ¬(Fm.mk (Tr.mk o n b ks al) e d).t.op=4 from h4),if_neg (show ¬(Fm.mk (Tr.mk o n b ks al) e d).t.op=7 from h7),if_neg (show ¬(Fm.mk (Tr.mk o n b ks al) e d).t.op=3 from h3),if_neg (show ¬(Fm.mk (Tr.mk o n b ks al) e d).t.op=13 from (by omega:¬o=13)),if_neg (show ¬(Fm.mk (Tr.mk o n b ks al) e d).t.op=12 from (by omega:¬o=12)),if_neg (show ¬(Fm.mk (Tr.mk o n b ks al) e d).t.op=14 from h14),if_neg (show ¬(Fm.mk (Tr.mk o n b ks al) e d).t.op=15 from h15),if_neg (show ¬(Fm.mk (Tr.mk o n b ks al) e d).t.op=16 from h16)]
   show _=(Q0r fu { m with k:=k } (.mk o n b ks al) d).map (fun (m',v)=>{ m' with c:=.rt v })
   cases hp:Q0r fu { m with k:=k } (.mk o n b ks al) d with
   |error c=>rfl
   |ok mv=>
    obtain⟨m1,v⟩:=mv
    have hpk:=(Q3t hp).2.2
    cases m1
    simp only at hpk
    rw[hpk];rfl
  refine hkm hke (Qdz hΓ h0 hfc he hd hk hl (by simp only[Tr.op];omega) fun ou' h0'=>?_)
  refine AFnP.mono (Qdp (m:={ m with k:=k }) (t:=.mk o n b ks al) hΓ h0'.k hfc hst hfu hol hd hpo hsh hdl hwr) (fun r ou2 hq=>?_) fun ps ou2 hq=>?_
  ·exact hq
  ·obtain⟨c,h1,h2,h3⟩:=hq
   exact⟨c,h1,h2,h3.k⟩
theorem startU(hΓ:∀g cs,(g,cs)∈Γ->idsL isO cs){fns:List Fun}{hi:Bool}(hf:FnsU fns hi)(hk:KidP fu (.sl 2 (fns.map cFun)) (GU fns hi) Γ):StartP fu (.sl 2 (fns.map cFun)) (GU fns hi) Γ:=by
 intro ou H nm m t e ec vc kc kt h0 he hkr ht hge hgk hkb hol hst h12 hnx
 have F:FragU fns hi ⟨t.op,t.n,t.binds,t.kids.map Tr.op,t.alts⟩:=Q0w ht
 have hsh:=g_sh (GUok hf) ht
 have hfc:(FcT.mk (.sl 2 (fns.map cFun)) kt).ids isO:=by show idsS isO _;simp
 show AFnP _ _ _ _ _ (StQ fu _ H nm (Q0h fu fns m t e)) (StP m (Q0h fu fns m t e))
 replace h12:t.op=12->∃m',Q0h fu fns m t e=.ok m':=h12
 replace hnx:∀m',Q0h fu fns m t e=.ok m'->hi=true->m'.k.length<=1048576:=hnx
 by_cases e0:t.op=0
 ·have hx:Q0h fu fns m t e=.ok { m with c:=.rt (findE t.n e) }:=by unfold Q0h;rw[if_pos e0]
  rw[hx];exact AFn.toP (Q9q hΓ h0 hfc he hkr e0)
 by_cases e1:t.op=1
 ·have hx:Q0h fu fns m t e=.ok { m with c:=.rt (.word t.n) }:=by unfold Q0h;rw[if_neg e0,if_pos e1]
  rw[hx];exact AFn.toP (Q9r hΓ h0 hfc hkr e1)
 by_cases e2:t.op=2
 ·have hx:Q0h fu fns m t e=.ok { m with c:=.rt (.clo t e) }:=by unfold Q0h;rw[if_neg e0,if_neg e1,if_pos e2]
  rw[hx];exact AFn.toP (Qev hΓ h0 hfc he hkr e2)
 by_cases e17:t.op=17
 ·exact Qdh hΓ h0 e17 (by unfold Q0h;rw[if_neg e0,if_neg e1,if_neg e2,if_pos e17])
 by_cases e5:t.op=5
 ·rw[e5]at hsh
  have hx:Q0h fu fns m t e=.ok { m with c:=.ev (t.kids.getD t.binds.length default) (.recs t e) }:=by unfold Q0h;rw[if_neg e0,if_neg e1,if_neg e2,if_neg e17,if_pos e5]
  rw[hx];exact AFn.toP (Qet hΓ h0 hfc he hkr e5 hsh.recs.1 F.bl)
 ·have hx:Q0h fu fns m t e=kidM fu fns m (.mk t e []) m.k:=by unfold Q0h;rw[if_neg e0,if_neg e1,if_neg e2,if_neg e17,if_neg e5]
  rw[hx]at h12 hnx ⊢
  have hnl:nLf t.op:=fun h=>by rcases h with h|h|h|h|h <;> contradiction
  exact Qdj hΓ h0 he hkr hnl (hk ou H nm m t e [] m.k ec kc _ _ _ _ [] kt h0 he .nil hkr ht hge trivial (Nat.zero_le _) hnl hgk hkb hol hst h12 hnx)
end
end Go.Proofs.YtkgjldchcbfpnaaGreatDoor
namespace Go.CoreX
theorem Qfg{fu:Int}{m m':Ms}{n:Int}{l:List Vl}{v:Vl}(h:primM fu m n l=.ok (m',v)):m.out.length<=1000->m'.out.length<=1000:=by
 unfold primM at h
 repeat' split at h
 all_goals try (simp only[bind,Except.bind,pure,Except.pure]at h;repeat' split at h)
 all_goals try (cases h;done)
 all_goals try (cases h;exact id)
 ·rename_i hne
  cases h;intro h1;simp;omega
 ·unfold Q34 at h
  repeat' split at h
  all_goals try (cases h;done)
  cases h;exact id
 ·unfold Q2c at h
  simp only[bind,Except.bind,pure,Except.pure]at h
  repeat' split at h
  all_goals try (cases h;done)
  all_goals (cases h;exact id)
theorem Qdo{fu:Int}{m m':Ms}{t:Tr}{l:List Vl}{v:Vl}(h:Q0r fu m t l=.ok (m',v)):m.out.length<=1000->m'.out.length<=1000:=by
 unfold Q0r at h
 repeat' split at h
 ·cases h;exact id
 ·exact Qfg h
 ·cases h;exact id
 ·simp only[bind,Except.bind,pure,Except.pure]at h
  repeat' split at h
  all_goals try (cases h;done)
  all_goals (cases h;exact id)
 ·simp only[bind,Except.bind,pure,Except.pure]at h
  repeat' split at h
  all_goals try (cases h;done)
  all_goals (cases h;exact id)
theorem Qcr{fu:Int}{fns:List Fun}{m m':Ms}{f:Fm}{k:List Fm}(h:kidM fu fns m f k=.ok m'):m.out.length<=1000->m'.out.length<=1000:=by
 unfold kidM at h
 repeat' split at h
 all_goals try (cases h;done)
 all_goals try (cases h;exact id)
 ·unfold Q2b at h
  split at h
  ·cases hc:Q19 _ _ f.e f.t.kids 0 f.t.alts <;> rw[hc]at h <;> cases h
   exact id
  ·cases h
 ·unfold callM at h
  repeat' split at h
  all_goals try (cases h;done)
  all_goals (cases h;exact id)
 ·rw[Q4j _ _ h];exact id
 ·cases hp:Q0r fu { m with k:=k } f.t f.done with
  |error c=>rw[hp]at h;cases h
  |ok mv=>
   rw[hp]at h;cases h
   obtain⟨m2,v2⟩:=mv
   exact Qdo (m:={ m with k:=k }) (m':=m2) hp
theorem Qdi{fu:Int}{fns:List Fun}{m m':Ms}{t:Tr}{e:En}(h:Q0h fu fns m t e=.ok m'):m.out.length<=1000->m'.out.length<=1000:=by
 unfold Q0h at h
 repeat' split at h
 all_goals try (cases h;done)
 all_goals try (cases h;exact id)
 exact Qcr h
theorem Q7m{fu:Int}{fns:List Fun}{m m':Ms}(h:Q0c fu fns m=.next m'):m.out.length<=1000->m'.out.length<=1000:=by
 unfold Q0c at h
 repeat' split at h
 all_goals try (cases h;done)
 ·rename_i hk;cases h;exact Qcr hk
 ·rename_i hk;cases h;exact Qdi (m:={ m with steps:=m.steps+1 }) hk

structure RunInv (fu:Int)(fns:List Fun)(R:Prop)(I:Ms->Prop):Prop where
 st:∀m m',I m->Q0c fu fns m=.next m'->I m'
 fr:R->∀m,I m->m.k.length<=1048576
 pf:∀m,I m->∀v f k,m.c=.rt v->m.k=f::k->f.t.op=12->∃m',kidM fu fns m (.mk f.t f.e (f.done++[v])) k=.ok m'
end Go.CoreX
namespace Go.Proofs.YtkgjldchcbfpnaaGreatDoor
open Go Go.Abs Go.CoreX
variable {Γ:List (Nat×List AC)}
section
variable {fu:Int}{ac:AC}{G:GP}
def RunQ (fu:Int)(ac:AC)(kt0:Nat)(r:Rd):FV->Outer->Prop:=fun b ou'=>match r with
 |.done mf vf=>b=.one (.lit (.bool true))/\mf.c=.rt vf/\mf.k=[]/\∃H' nm',MR fu ⟨ac,kt0⟩ ou' H' nm' mf
 |.fuel=>b=.one (.lit (.bool false))/\∃m H' nm',MR fu ⟨ac,kt0⟩ ou' H' nm' m
 |_=>False
def RunP (r:Rd):List PanicEntry->Outer->Prop:=fun ps ou'=>∃c m,r=.trap c m/\ps=trapE c/\PR ou' m
theorem Qhv(hΓ:∀g cs,(g,cs)∈Γ->idsL isO cs)(hac:ac.ids isO)(hG:GPok G)(hopn:∀t,allT G.p t->opdN t<=1048576)(hkid:KidP fu ac G Γ)(hstart:StartP fu ac G Γ){I:Ms->Prop}(hI:RunInv fu G.fns G.R I){ou:Outer}{H:Hm}{nm:Nm2}{m0:Ms}{kt0:Nat}(h0:MR fu ⟨ac,kt0⟩ ou H nm m0)(hg0:gM G m0){g0:Nat}{r0:Rd}(hgo:goX fu G.fns g0 m0=some r0)(hi0:I m0)(hol0:m0.out.length<=1000)(hfu:0<=fu/\fu<=1000000)(hst0:0<=m0.steps/\m0.steps<=fu):
  AFnP Tryz.prog Γ 50 [.one (.ptr (.o 0) 0)] ou (RunQ fu ac kt0 r0) (RunP r0):=by
 refine AFnP.walk 70 tabOk hΓ Tryz.func50 rfl (by kernel_rfl) rfl rfl fun hou=>?_
 refine zA ?_
 refine ACode.loopR hΓ (α:=Outer×Hm×Nm2×Ms) (fun a=>[(0,.one (.ptr (.o 0) 0))]) (fun a=>⟨0,[],a.1⟩) (fun g a=>MR fu ⟨ac,kt0⟩ a.1 a.2.1 a.2.2.1 a.2.2.2/\gM G a.2.2.2/\goX fu G.fns g a.2.2.2=some r0/\(0<=a.2.2.2.steps/\a.2.2.2.steps<=fu)/\I a.2.2.2/\a.2.2.2.out.length<=1000)
  (a0:=(ou,H,nm,m0)) (ρ:=_root_.id) ⟨h0,hg0,hgo,hst0,hi0,hol0⟩ (LessR.of rfl zFW (by simp) zLO rfl rfl hou) fun g a ha=>?_
 obtain⟨ou1,H1,nm1,m⟩:=a
 obtain⟨hM,hgm,hgo,hst,hIm,holm⟩:=ha
 dsimp only at hM hgm hgo hst hIm holm ⊢
 clear hou h0 hg0 hst0 hi0 hol0
 obtain⟨kt,tc,ec,vc,kc,hCR,hKR,h0⟩:=hM.ex
 have hou:=h0.w.ok
 obtain⟨g,rfl⟩:∃g',g=g'+1:=by
  cases g with
  |zero=>cases hgo
  |succ g=>exact⟨g,rfl⟩
 simp only[goX]at hgo
 have hkl:G.R->m.k.length<=1048576:=fun hR=>hI.fr hR m hIm
 have hIn:∀m1,Q0c fu G.fns m=.next m1->I m1:=fun m1 h1=>hI.st m m1 hIm h1
 have hpf:=hI.pf m hIm
 have hnle:∀m1,Q0c fu G.fns m=.next m1->m1.steps<=fu:=fun m1 h1=>(Q6j h1 hst.2).1
 have hnol:∀m1,Q0c fu G.fns m=.next m1->m1.out.length<=1000:=fun m1 h1=>Q7m h1 holm
 have hids:=h0.ids
 have hoX:=h0.ouX
 have hki:=hKR.ids
 have hw:=h0.w
 rw[hoX]at hw hou ⊢
 obtain⟨mc,mk,mo,ms,mh⟩:=m
 dsimp only at hgo hst hw hou hids hki holm h0 hkl hIn hpf hnle hnol ⊢
 cases hCR with
 |ev t e ec vc he=>
  have hei:=he.ids
  by_cases hsf:ms=fu
  ·have hr:Q0c fu G.fns ⟨.ev t e,mk,mo,ms,mh⟩=.fuel:=by simp[Q0c,hsf]
   rw[hr]at hgo
   cases hgo
   refine zA ?_
   refine zS (AStep.neNilBox Tryz.underlying65 rfl rfl rfl) ?_
   refine zM ?_
   refine zS (AStep.eqNilBox Tryz.underlying65 rfl rfl rfl) ?_
   refine zA ?_
   refine ACode.drawX tabOk 8 [] follows (by kernel_rfl) rfl rfl rfl rfl trivial ?_
   refine zA ?_
   refine ACode.cond rfl (fun _=>?_) (fun hb=>absurd hsf (by simpa using hb))
   refine zA ?_
   refine AFn.fin' rfl (WkF.ofEq rfl) (by simp) hou ⟨rfl,⟨.ev t e,mk,mo,ms,mh⟩,H1,nm1,⟨⟨kt,_,ec,vc,kc,.ev t e ec vc he,hKR,?_⟩⟩⟩
   rw[←hoX];exact h0
  rw[Q4x rfl hsf]at hgo
  refine zA ?_
  refine zS (AStep.neNilBox Tryz.underlying65 rfl rfl rfl) ?_
  refine zM ?_
  refine zS (AStep.eqNilBox Tryz.underlying65 rfl rfl rfl) ?_
  refine zA ?_
  refine ACode.drawX tabOk 8 [] follows (by kernel_rfl) rfl rfl rfl rfl trivial ?_
  refine zA ?_
  refine ACode.cond rfl (fun hb=>absurd (by simpa using hb) hsf) (fun _=>?_)
  refine zM ?_
  have hN:M0 fu ⟨ac,kt⟩ (St.set ⟨0,[],ouX (mC (.box (cTr t)) ec vc kc mo ms fu ⟨ac,kt⟩) mo.length ou1⟩ (.o 0) (.cells (mC (.box (cTr t)) ec vc kc mo (ms+1) fu ⟨ac,kt⟩))).ou H1 nm1 ⟨.ev t e,mk,mo,ms+1,mh⟩ (.box (cTr t)) ec vc kc:=
   ⟨hids,rfl,hw.put (mc':=mC (.box (cTr t)) ec vc kc mo (ms+1) fu ⟨ac,kt⟩) (by simp[mC,hids,hei,hki,hac]) rfl rfl (fun _=>rfl)⟩
  have hrn:∀m',Q0h fu G.fns ⟨.ev t e,mk,mo,ms+1,mh⟩ t e=.ok m'->Q0c fu G.fns ⟨.ev t e,mk,mo,ms,mh⟩=.next m':=fun m' hx=>by rw[Q4x rfl hsf,hx];rfl
  have h12:t.op=12->∃m',Q0h fu G.fns ⟨.ev t e,mk,mo,ms+1,mh⟩ t e=.ok m':=fun h=>by
   have ho1:opdN t=1:=by unfold opdN;rw[if_pos (by omega)]
   unfold Q0h
   rw[if_neg (by omega),if_neg (by omega),if_neg (by omega),if_neg (by omega),if_neg (by omega)]
   unfold kidM
   rw[if_pos (show (Fm.mk t e []).done.length < opdN (Fm.mk t e []).t by simp[ho1])]
   exact⟨_,rfl⟩
  refine AOps.callP hΓ (hstart _ H1 nm1 _ t e ec vc kc kt hN he hKR hgm.c.1 hgm.c.2 hgm.k hkl holm ⟨by dsimp only;omega,by dsimp only;omega⟩ h12 fun m' hx hR=>hI.fr hR m' (hIn m' (hrn m' hx))) rfl rfl rfl rfl rfl rfl hN.w.ok ⟨trivial,trivial⟩ (fun ps ou2 hq how=>⟨how,?_⟩) fun r ou2 hq _ how=>?_
  ·obtain⟨c,hx,h1,h2⟩:=hq
   rw[hx]at hgo
   cases hgo
   exact⟨c,_,rfl,h1,h2⟩
  obtain⟨rfl,H',nm',m',hx,hmo,hM2⟩:=hq
  have hgm':gM G m':=Q47 hG hgm (hrn m' hx)
  have haf:=Q8m (fu:=fu) (fns:=G.fns) hx
  simp only at haf
  simp only[hx,rdOf]at hgo
  refine zA ?_
  exact cInv ⟨g,(ou2,H',nm',m'),_root_.id,by omega,⟨⟨hM2.ex⟩,hgm',hgo,⟨by dsimp only;omega,hnle m' (hrn m' hx)⟩,hIn m' (hrn m' hx),hnol m' (hrn m' hx)⟩,LessR.of rfl zFW (by simp) zLO rfl rfl how⟩
 |rt v ec vc hv=>
  have hvi:=hv.ids
  cases hKR with
  |nil=>
   have hr:Q0c fu G.fns ⟨.rt v,[],mo,ms,mh⟩=.done ⟨.rt v,[],mo,ms,mh⟩ v:=by simp[Q0c]
   rw[hr]at hgo
   cases hgo
   refine zA ?_
   refine zS (AStep.neNil0 Tryz.underlying65 rfl rfl rfl) ?_
   refine zM ?_
   refine zS (AStep.neNil0 Tryz.underlying69 rfl rfl rfl) ?_
   refine zM ?_
   refine AFn.fin' rfl (WkF.ofEq rfl) (by simp) hou ⟨rfl,rfl,rfl,H1,nm1,⟨⟨kt,nilPE,ec,vc,nilPE,.rt _ ec vc hv,.nil,?_⟩⟩⟩
   rw[←hoX];exact h0
  |cons t e d k ec2 dc kc2 he hd hk=>
   have hei:=he.ids
   have hdi:=hd.ids
   have hk2i:=hk.ids
   have hgf:=hgm.k
   obtain⟨⟨g1,g2,g3,g4,gn⟩,g5⟩:=hgf
   have hdl:=hd.len
   rw[Q4w (f:=.mk t e d) (k:=k) rfl rfl]at hgo
   have hrn:∀m',kidM fu G.fns ⟨.rt v,.mk t e d::k,mo,ms,mh⟩ (.mk t e (d++[v])) k=.ok m'->Q0c fu G.fns ⟨.rt v,.mk t e d::k,mo,ms,mh⟩=.next m':=fun m' hx=>by rw[Q4w (f:=.mk t e d) (k:=k) rfl rfl];simp only[Fm.t_mk,Fm.e_mk,Fm.done_mk,hx];rfl
   have hopt:=hopn t g1
   have hD:VsR H1 nm1 (d++[v]) (dc++[[vc]]):=hd.snoc hv
   have hDi:=hD.ids
   have hcl:=Qag hΓ dc (by omega) hdi hd.ones
   refine zA ?_
   refine zS (AStep.neNil0 Tryz.underlying65 rfl rfl rfl) ?_
   refine zM ?_
   refine zS (AStep.neNilBox Tryz.underlying69 rfl rfl rfl) ?_
   refine zM ?_
   refine zS (AStep.eqNil0 Tryz.underlying65 rfl rfl rfl) ?_
   refine zA ?_
   have hkd:=hkid (ouX (mC nilPE ec vc (.box [.box (cTr t),ec2,.sl 1 dc,kc2]) mo ms fu ⟨ac,kt⟩) mo.length ou1) H1 nm1 ⟨.rt v,.mk t e d::k,mo,ms,mh⟩ t e (d++[v]) k ec2 kc2 nilPE ec vc (.box [.box (cTr t),ec2,.sl 1 dc,kc2]) (dc++[[vc]]) kt (by rw[←hoX];exact h0) he hD hk g1 g2 (Q6x g3 ⟨hgm.c,trivial⟩) (by simp;omega) gn g5 (fun hR=>by have:=hkl hR;simp only[List.length_cons]at this;omega) holm ⟨hst.1,by dsimp only;omega⟩ (fun h12=>hpf v (.mk t e d) k rfl rfl h12) fun m' hx hR=>hI.fr hR m' (hIn m' (hrn m' hx))
   refine ACode.drawC2 tabOk 26 [13,19,24,25] [(18,.one (.sl 1 [[vc]]))] (fun vs σ=>match vs with
    |[]=>σ=⟨0,[],ouX (mC nilPE ec vc (.box [.box (cTr t),ec2,.sl 1 dc,kc2]) mo ms fu ⟨ac,kt⟩) mo.length ou1⟩
    |[a]=>∃ou2,Qbu dc (ouX (mC nilPE ec vc (.box [.box (cTr t),ec2,.sl 1 dc,kc2]) mo ms fu ⟨ac,kt⟩) mo.length ou1) a (ouX (mC nilPE ec vc (.box [.box (cTr t),ec2,.sl 1 dc,kc2]) mo ms fu ⟨ac,kt⟩) mo.length ou2)/\σ=⟨0,[],ouX (mC nilPE ec vc (.box [.box (cTr t),ec2,.sl 1 dc,kc2]) mo ms fu ⟨ac,kt⟩) mo.length ou2⟩
    |[a,b]=>b=.one (.sl 1 (dc++[[vc]]))/\σ=⟨1,[],ouX (mC nilPE ec vc (.box [.box (cTr t),ec2,.sl 1 dc,kc2]) mo ms fu ⟨ac,kt⟩) mo.length ou1⟩
    |[a,b,c]=>b=.one (.sl 1 (dc++[[vc]]))/\c=.agg [.box (cTr t),ec2,.sl 1 (dc++[[vc]]),kc2]/\σ=⟨1,[],ouX (mC nilPE ec vc (.box [.box (cTr t),ec2,.sl 1 dc,kc2]) mo ms fu ⟨ac,kt⟩) mo.length ou1⟩
    |[a,b,c,g]=>b=.one (.sl 1 (dc++[[vc]]))/\c=.agg [.box (cTr t),ec2,.sl 1 (dc++[[vc]]),kc2]/\g=.one (.box [.box (cTr t),ec2,.sl 1 (dc++[[vc]]),kc2])/\σ=⟨1,[],ouX (mC nilPE ec vc (.box [.box (cTr t),ec2,.sl 1 dc,kc2]) mo ms fu ⟨ac,kt⟩) mo.length ou1⟩
    |_=>False) follows (by kernel_rfl) rfl rfl (by decide) (by kernel_rfl) (by kernel_rfl) rfl rfl ?_ ?_ (by decide) ?_ ?_
   ·intro vs σ h
    match vs with
    |[]=>subst h;rfl
    |[_]=>obtain⟨_,_,rfl⟩:=h;rfl
    |[_,_]=>obtain⟨_,rfl⟩:=h;rfl
    |[_,_,_]=>obtain⟨_,_,rfl⟩:=h;rfl
    |[_,_,_,_]=>obtain⟨_,_,_,rfl⟩:=h;rfl
    |_::_::_::_::_::_=>exact h.elim
   ·intro vs σ h
    exact⟨⟨_,rfl,HStep.auto tabOk rfl⟩,trivial⟩
   ·intro vs σ h i o hi ho
    match vs with
    |[]=>
     subst h;cases hi;cases ho
     refine⟨rfl,.inl (.inr ⟨rfl,Q0y.call hΓ rfl rfl rfl rfl ⟨hdi,trivial⟩ hou (hcl _) fun r ou' hq hr ho=>?_⟩)⟩
     have e:ou'=ouX (mC nilPE ec vc (.box [.box (cTr t),ec2,.sl 1 dc,kc2]) mo ms fu ⟨ac,kt⟩) mo.length ou':=Q7o (by
      rcases hq with ⟨_,_,rfl⟩|⟨q,_,_,h1,h2⟩
      ·rfl
      ·rw[h2 0 (by rintro rfl;cases h1)];rfl)
     exact⟨ou',by rw[←e];exact hq,by rw[←e]⟩
    |[a]=>
     obtain⟨ou2,hq,rfl⟩:=h;cases hi;cases ho
     rcases hq with ⟨rfl,rfl,h1⟩|⟨q,rfl,h1,h2,h3⟩
     ·refine⟨rfl,.inl (.inl ⟨_,_,AStep.less (σ2:=⟨1,[],ouX (mC nilPE ec vc (.box [.box (cTr t),ec2,.sl 1 _,kc2]) mo ms fu ⟨ac,kt⟩) mo.length ou1⟩) (AStep.weakV (AStep.append tabOk rfl rfl rfl rfl rfl rfl (Base.nil _ _) (.sl 1 [[vc]]) rfl (by show (0+1) * 16<=140737488355328;decide) (by simp)) (.one (.gsE (by simp)))) rfl ?_,rfl,rfl⟩)⟩
      intro i o hi
      cases i with
      |l j=>cases hi
      |o j=>exact (congrFun h1 j).trans hi
     ·refine⟨rfl,.inl (.inl ⟨_,_,AStep.less (σ2:=⟨1,[],ouX (mC nilPE ec vc (.box [.box (cTr t),ec2,.sl 1 _,kc2]) mo ms fu ⟨ac,kt⟩) mo.length ou1⟩) (AStep.weakV (AStep.append tabOk rfl rfl rfl rfl rfl rfl (Base.gs' _ _ _ _ _ h1 rfl) (.sl 1 [[vc]]) rfl (by simp;show _ * 16<=_;omega) (by simp;omega)) (.one (.gsE (by simp)))) rfl ?_,rfl,rfl⟩)⟩
      intro i o hi
      cases i with
      |l j=>cases hi
      |o j=>
       have hjq:j≠q:=by rintro rfl;have h5:=hi;simp only[St.get]at h5;rw[h2]at h5;cases h5
       have h4:=h3 j hjq
       show (bif Nat.beq j q then some AObj.dead else _)=some o
       rw[Q08 hjq]
       exact h4.trans hi
    |[_,_]=>obtain⟨rfl,rfl⟩:=h;cases hi;cases ho;exact⟨rfl,.inl (.inl ⟨_,_,AStep.ofOp tabOk rfl,rfl,rfl,rfl⟩)⟩
    |[_,_,_]=>obtain⟨rfl,rfl,rfl⟩:=h;cases hi;cases ho;exact⟨rfl,.inl (.inl ⟨_,_,AStep.boxI rfl rfl,rfl,rfl,rfl,rfl⟩)⟩
    |_::_::_::_::_=>cases hi
   ·intro vs σ hl h
    match vs with
    |[a,_,_,_]=>
     obtain⟨rfl,rfl,rfl,rfl⟩:=h
     refine AOps.callP hΓ hkd rfl rfl rfl rfl rfl rfl hou ⟨trivial,⟨by simp,hei,hDi,hk2i,trivial⟩,trivial⟩ (fun ps ou2 hq how=>⟨how,?_⟩) fun r ou2 hq _ how=>?_
     ·obtain⟨c,hx,h1,h2⟩:=hq
      simp only[Fm.t_mk,Fm.e_mk,Fm.done_mk,hx,rdOf]at hgo
      cases hgo
      exact⟨c,_,rfl,h1,h2⟩
     obtain⟨rfl,H',nm',m',hx,hmo,hM2⟩:=hq
     have hgm':gM G m':=Q47 hG hgm (hrn m' hx)
     have haf:=(Q2o hx d v (.inl rfl)).ge
     simp only at haf
     simp only[Fm.t_mk,Fm.e_mk,Fm.done_mk,hx,rdOf]at hgo
     refine zA ?_
     exact cInv ⟨g,(ou2,H',nm',m'),_root_.id,by omega,⟨⟨hM2.ex⟩,hgm',hgo,⟨by dsimp only;omega,hnle m' (hrn m' hx)⟩,hIn m' (hrn m' hx),hnol m' (hrn m' hx)⟩,LessR.of rfl zFW (by simp) zLO rfl rfl how⟩
    |[]|[_]|[_,_]|[_,_,_]=>cases hl
    |_::_::_::_::_::_=>exact h.elim
end
end Go.Proofs.YtkgjldchcbfpnaaGreatDoor
namespace Go.Abs
theorem Q5v{T:Tab}{fr:Fr}{σ:St}{a t:Nat}{ti:TI}{i:Id}{off:Nat}{cs:List AC}{x:FV}(ht:Tab.get t T=some ti)(hb:(ti.agg||Nat.beq ti.size 1)=true)(hf:Fr.get a fr=some (.one (.ptr i off)))(hσ:σ.get i=some (.cells cs))(hle:Nat.ble (off+ti.size) cs.length=true)(hx:Q2u ((cs.drop off).take ti.size) (mkFV ti.agg)=some x):aRes1 T fr σ (.cell a t)=some x:=by
 simp only[aRes1,ht,hb,cond_true,hf,aLoad,hσ,hle,hx]
theorem AStep.assertYesA{E:Env}{o:Oper}{fr:Fr}{σ:St}{t T0:TypeId}{x:Operand}{cs:List AC}(hc:E.P.concrete t=true)(ho:o.op=.typeAssert x T0 t true)(hx:aEval E.Γ fr x=some (.one (.ifc t true cs))):AStep E o fr σ (.tup [.agg cs,.one (.lit (.bool true))]) σ:=by
 refine AStep.quiet fun F w C tmps hi hf=>?_
 obtain⟨d,hd⟩:=Q2m hc
 obtain⟨xs,h1,h2⟩:=Q00 (a:=⟨tmps,E.ds⟩) hi hf hx
 rcases h2 with ⟨_,h2⟩|⟨h2,_⟩
 ·refine⟨.tuple #[.agg xs.toArray,.bool true],?_,[.agg xs.toArray,.bool true],rfl,.agg xs.toArray,[.bool true],rfl,⟨xs,rfl,h1⟩,.bool true,[],rfl,⟨rfl,rfl⟩,rfl⟩
  unfold execOp
  simp[ho,h2,Q4e w hd hc]
 ·cases h2
theorem Qcx{Γ:List (Nat×List AC)}{F:Nat->Prop}{w':World}{C':Ctx}{σ':St}(hΓ:∀g cs,(g,cs)∈Γ->idsL isO cs)(hi':Inv Γ F w' C' σ')(ho:OuOk σ'.ou):Chg isO w' C' w' { C' with nl:=0 }/\Inv Γ F w' { C' with nl:=0 } ⟨0,[],σ'.ou⟩:=by
 have hc:Chg isO w' C' w' { C' with nl:=0 }:=⟨fun _ _=>rfl,fun _ h=>h,fun i hp ho=>⟨by cases i with|l k=>cases hp|o k=>exact ho,rfl,rfl⟩⟩
 refine⟨hc,⟨hi'.base,rfl,fun g cs hm=>RG.chg hc (hΓ g cs hm) (hi'.glob g cs hm),hi'.prot,fun i o h=>?_,fun i j o o' g k1 k2 k3 k4=>?_⟩⟩
 ·cases i with
  |l k=>cases h
  |o k=>
   obtain⟨k1,k2⟩:=hi'.obj (.o k) o h
   exact⟨k1,k2.ctx isO (ho k o h) trivial k1 hc (fun _ h=>h) (fun _ h=>h)⟩
 ·cases i with
  |l k=>cases k1
  |o k=>cases j with
   |l k=>cases k2
   |o k'=>
    have e1:=AObj.block_ctx (o:=o) isO (i:=.o k) trivial (hi'.obj (.o k) o k1).1 hc
    have e2:=AObj.block_ctx (o:=o') isO (i:=.o k') trivial (hi'.obj (.o k') o' k2).1 hc
    exact hi'.inj (.o k) (.o k') o o' g k1 k2 (by rw[←e1];exact k3) (by rw[←e2];exact k4)
end Go.Abs
namespace Go.Proofs.YtkgjldchcbfpnaaGreatDoor
open Go Go.Abs Go.CoreX
variable {Γ:List (Nat×List AC)}
def resF (R:Rs):FV:=.tup [.agg [.sl 1 (R.out.map cI),int R.fin,int R.val],.one (int R.steps),.one (int R.err)]
abbrev whS (ou':Outer):St:=⟨4,[(3,.cells [int 0]),(2,.cells [int 0]),(1,.cells [.lit (.slice none 0 0),int 0,int 0]),(0,.cells [.ptr (.o 0) 0])],ou'⟩
abbrev whO:List AObj:=[.cells [.ptr (.o 0) 0],.cells [.lit (.slice none 0 0),int 0,int 0],.cells [int 0],.cells [int 0]]
def CatQ (k:Nat)(c:Int)(m:Ms)(ou2:Outer):Prop:=OuOk ou2/\∃r0,ou2 (k+1)=some (.cells [r0,int (rsOf (.trap c m)).fin,int (rsOf (.trap c m)).val])/\Wk r0 (.sl 1 ((rsOf (.trap c m)).out.map cI))/\ou2 (k+2)=some (.cells [int (rsOf (.trap c m)).steps])/\ou2 (k+3)=some (.cells [int (rsOf (.trap c m)).err])
theorem Qe6(hΓ:∀g cs,(g,cs)∈Γ->idsL isO cs){ouY:Outer}{k:Nat}{m:Ms}{c:Int}(hou:OuOk ouY)(hk:0 < k)(hm:∃tc ec vc kc fu fc,ouY 0=some (.cells (mC tc ec vc kc m.out m.steps fu fc)))
  (h0:ouY k=some (.cells [.ptr (.o 0) 0])) (h1:ouY (k+1)=some (.cells [.lit (.slice none 0 0),int 0,int 0])) (h2:ouY (k+2)=some (.cells [int 0])) (h3:ouY (k+3)=some (.cells [int 0]))
  (F:Nat->Prop) (w:World) (C:Ctx) (cargs:List Value) (hnl:C.nl=0) (hi:Inv Γ F w C ⟨0,[],ouY⟩) (hr:RFs w C [.one (.ptr (.o k) 0),.one (.ptr (.o (k+1)) 0),.one (.ptr (.o (k+2)) 0),.one (.ptr (.o (k+3)) 0)] cargs):
  CallsD Tryz.prog 49 cargs.toArray (.panicking (trapE c)) w fun e u' w'=>(∃v,e=.returned v)/\settle u'=.returning/\∃C' ou2,Goes F isO w C w' C'/\C'.nl=0/\Inv Γ F w' C' ⟨0,[],ou2⟩/\CatQ k c m ou2:=by
 obtain⟨tc,ec,vc,kc,fu,fc,hm0⟩:=hm
 simp only[RFs]at hr
 obtain⟨p,_,rfl,hp,q,_,rfl,hq,r,_,rfl,hrr,s,_,rfl,hs,rfl⟩:=hr
 generalize hR:(fun (e:Ending) (u':FrameMode) (w':World)=>(∃v,e=.returned v)/\settle u'=.returning/\∃C' ou2,Goes F isO w C w' C'/\C'.nl=0/\Inv Γ F w' C' ⟨0,[],ou2⟩/\CatQ k c m ou2)=RR
 refine callsD_of_wpS Tryz.func49 rfl fun c₀ cs hu=>?_
 apply wpS_seq
 apply wpS_region
 simp[wpOpsS,go_sem,recoverD,hu,Tryz.ntmps49,Exit.thenS,trapE]
 apply wpS_seq
 apply wpS_region
 simp[wpOpsS,go_sem,recoverD,hu,Exit.thenS]
 refine wpS_cond (t:=true) (by simp[Act.eval,Array.replicate]) ?_
 simp only[if_true]
 refine wpS_of_wp ?_
 have hpv:R w C (.ifc tTrap true [int c]) (.iface tTrap (.agg #[.int .i64 c])):=⟨[.int .i64 c],⟨_,_,rfl,⟨rfl,rfl⟩,rfl⟩,.inl ⟨rfl,rfl⟩⟩
 generalize htm:(#[p,q,r,s]++_:Array Value)=tmps
 have hsz:tmps.size=33:=by rw[←htm];simp
 have hfr:FrOk w C 33 [(4,.one (.ifc tTrap true [int c])),(3,.one (.ptr (.o (k+3)) 0)),(2,.one (.ptr (.o (k+2)) 0)),(1,.one (.ptr (.o (k+1)) 0)),(0,.one (.ptr (.o k) 0))] tmps:=by
  refine⟨hsz,fun j x hj=>?_⟩
  rw[←htm]
  match j,hj with
  |0,hj=>cases hj;exact⟨p,by simp,hp⟩
  |1,hj=>cases hj;exact⟨q,by simp,hq⟩
  |2,hj=>cases hj;exact⟨r,by simp,hrr⟩
  |3,hj=>cases hj;exact⟨s,by simp,hs⟩
  |4,hj=>cases hj;exact⟨_,by simp,hpv⟩
  |j+5,hj=>cases hj
 refine wp_mono ((show ACode ⟨Tryz.prog,tab,Γ,33,[]⟩ _ (Q02 ⟨Tryz.prog,tab,Γ,33,[]⟩ (fun fr σ=>CatQ k c m σ.ou) []) [(4,.one (.ifc tTrap true [int c])),(3,.one (.ptr (.o (k+3)) 0)),(2,.one (.ptr (.o (k+2)) 0)),(1,.one (.ptr (.o (k+1)) 0)),(0,.one (.ptr (.o k) 0))] ⟨0,[],ouY⟩from ?_) F w C w C tmps (Goes.refl _ _ _ _) hi hfr) fun e a w' hp=>?_
 ·refine ACode.seq ?_
  refine zA ?_
  refine zS (AStep.assertYesA Q0k rfl rfl) ?_
  refine zA ?_
  refine ACode.drawX tabOk 11 [(0,.one (.ptr (.o 0) 0)),(3,.one (.gs 1 (m.out.map cI) (.o fc.kt))),(7,.one (.ptr (.o 0) 0)),(10,.one (int m.steps))] follows (by kernel_rfl) rfl rfl rfl rfl ?_ ?_
  ·exact⟨⟨_,rfl,zLD rfl rfl h0 rfl⟩,⟨_,rfl,zLD rfl rfl hm0 rfl⟩,⟨_,rfl,zLD rfl rfl h0 rfl⟩,⟨_,rfl,zLD rfl rfl hm0 rfl⟩,trivial⟩
  obtain⟨r0,hr0⟩:∃r0:AC,r0=.gs 1 (m.out.map cI) (.o fc.kt):=⟨_,rfl⟩
  have hri:r0.ids isO:=by rw[hr0];exact⟨trivial,by simp⟩
  refine AOps.storeOwnA (cs:=[.lit (.slice none 0 0),int 0,int 0]) (vs:=[.gs 1 (m.out.map cI) (.o fc.kt),int c,int 0]) tabOk rfl rfl rfl rfl rfl rfl rfl rfl (show ouY (k+1)=_ from h1) ?_
  rw[Q1f,←hr0]
  refine AOps.storeOwn tabOk rfl rfl rfl rfl rfl rfl rfl (show updO _ _ _ _=_ by rw[Q05 _ (by omega)];exact h2) (by simp) ?_
  rw[Q1f]
  refine AOps.storeOwn tabOk rfl rfl rfl rfl rfl rfl rfl (show updO _ _ _ _=_ by rw[Q05 _ (by omega),Q05 _ (by omega)];exact h3) (by simp) ?_
  rw[Q1f]
  obtain⟨ou2,hou2⟩:∃ou2:Outer,ou2=updO (updO (updO ouY (k+1) (.cells [r0,int c,int 0])) (k+2) (.cells [int m.steps])) (k+3) (.cells [int 0]):=⟨_,rfl⟩
  have e1:ou2 (k+1)=some (.cells [r0,int c,int 0]):=by rw[hou2,Q05 _ (by omega),Q05 _ (by omega),Q03]
  have e2:ou2 (k+2)=some (.cells [int m.steps]):=by rw[hou2,Q05 _ (by omega),Q03]
  have e3:ou2 (k+3)=some (.cells [int 0]):=by rw[hou2,Q03]
  have ho2:OuOk ou2:=by rw[hou2];exact Q0i (Q0i (Q0i hou ⟨hri,trivial,trivial,trivial⟩) ⟨trivial,trivial⟩) ⟨trivial,trivial⟩
  refine AOps.stEq (σ':=⟨1,[(0,.cells [int c]),(0,.cells [int 0])],ou2⟩) (by rw[hou2];rfl) ?_
  refine zA ?_
  refine ACode.cond rfl (fun hb=>?_) (fun hb=>?_)
  ·have hlt:c < 0:=by simpa using hb
   refine zA ?_
   refine AOps.storeOwnA (cs:=[r0,int c,int 0]) (vs:=[.lit (.slice none 0 0),int 0,int 0]) tabOk rfl rfl rfl rfl rfl rfl rfl rfl (show ou2 (k+1)=_ from e1) ?_
   rw[Q1f]
   refine AOps.storeOwn tabOk rfl rfl rfl rfl rfl rfl rfl (show updO _ _ _ _=_ by rw[Q05 _ (by omega)];exact e2) (by simp) ?_
   rw[Q1f]
   refine AOps.storeOwn tabOk rfl rfl rfl rfl rfl rfl rfl (show updO _ _ _ _=_ by rw[Q05 _ (by omega),Q05 _ (by omega)];exact e3) (by simp) ?_
   rw[Q1f]
   refine zA ?_
   refine⟨Q0i (Q0i (Q0i ho2 ⟨trivial,trivial,trivial,trivial⟩) ⟨trivial,trivial⟩) ⟨trivial,trivial⟩,.lit (.slice none 0 0),?_,?_,?_,?_⟩
   ·simp only[rsOf,if_pos hlt]
    show updO _ _ _ _=_
    rw[Q05 _ (by omega),Q05 _ (by omega),Q03];rfl
   ·simp only[rsOf,if_pos hlt];exact .nilS 1
   ·simp only[rsOf,if_pos hlt]
    show updO _ _ _ _=_
    rw[Q05 _ (by omega),Q03];rfl
   ·simp only[rsOf,if_pos hlt]
    show updO _ _ _ _=_
    rw[Q03];rfl
  ·have hge:¬c < 0:=by simpa using hb
   refine zA ?_
   exact⟨ho2,r0,by simp only[rsOf,if_neg hge];exact e1,by simp only[rsOf,if_neg hge];rw[hr0];exact .gsE rfl,by simp only[rsOf,if_neg hge];exact e2,by simp only[rsOf,if_neg hge];exact e3⟩
 ·obtain⟨hd,fr',σ',C',hgo,hi',hf',hk⟩:=hp
  cases e with
  |normal=>
   have hk:CatQ k c m σ'.ou:=hk
   obtain⟨hc,hi2⟩:=Qcx hΓ hi' hk.1
   refine⟨hd,_,rfl,.tuple #[],by simp[results,Tryz.results49],?_⟩
   rw[←hR]
   exact⟨⟨_,rfl⟩,rfl,_,σ'.ou,⟨hgo.stp,hgo.chg.trans hc,hgo.no,hgo.newp⟩,rfl,hi2,hk⟩
  |ret=>
   have hk:CatQ k c m σ'.ou:=hk
   obtain⟨hc,hi2⟩:=Qcx hΓ hi' hk.1
   refine⟨hd,_,rfl,.tuple #[],by simp[results,Tryz.results49],?_⟩
   rw[←hR]
   exact⟨⟨_,rfl⟩,rfl,_,σ'.ou,⟨hgo.stp,hgo.chg.trans hc,hgo.no,hgo.newp⟩,rfl,hi2,hk⟩
  |panic ps=>exact hk.elim
  |exit id=>exact hk.elim
  |goto l=>exact hk.elim
  |outgrown=>exact hk.elim
theorem Qit(hΓ:∀g cs,(g,cs)∈Γ->idsL isO cs){ou':Outer}{m:Ms}(hpr:PR ou' m)(c:Int){x0 x5 x6:FV}:
  Caught Tryz.prog tab Γ Tryz.f23 49 [] [.ptr (.l 0) 0,.ptr (.l 1) 0,.ptr (.l 2) 0,.ptr (.l 3) 0] (fun r _=>r=resF (rsOf (.trap c m))) (trapE c)
   [(6,x6),(5,x5),(4,.one (.ptr (.l 3) 0)),(3,.one (.ptr (.l 2) 0)),(2,.one (.ptr (.l 1) 0)),(1,.one (.ptr (.l 0) 0)),(0,x0)] (whS ou'):=by
 intro F w C tmps xs ys hi hf hx hy
 simp only[RV]at hx hy
 subst hx
 obtain⟨y0,_,rfl,hy0,y1,_,rfl,hy1,y2,_,rfl,hy2,y3,_,rfl,hy3,rfl⟩:=hy
 obtain⟨C2,k,hnone,hgo2,hinv,hrf⟩:=Qih [0,1,2,3] (by intro j hj;simp only[List.mem_cons,List.not_mem_nil,or_false]at hj;show j < 4;omega) hi
 have hnone:∀m,k<=m->ou' m=none:=hnone
 have hk0:0 < k:=by
  rcases Nat.eq_zero_or_pos k with h|h
  ·obtain⟨_,_,_,_,_,_,h0⟩:=hpr.m0
   rw[hnone 0 (by omega)]at h0;cases h0
  ·exact h
 have hsub:∀i,isO i->toOs [0,1,2,3] k i=i:=fun i hi=>by cases i with|l q=>exact hi.elim|o q=>rfl
 have hnew:∀p,ouAdd ou' k whO (k+p)=whO[p]?:=fun p=>Q2q p
 have hi2:Inv Γ F w C2 ⟨4,[],ouAdd ou' k whO⟩:=hinv _ rfl fun i x hx=>by
  cases i with
  |l q=>cases hx
  |o q=>
   have hx':ouAdd ou' k whO q=some x:=hx
   rcases Nat.lt_or_ge q k with hq|hq
   ·rw[Q24 hq]at hx'
    exact⟨.o q,x,hx',rfl,(AObj.sub_f hsub x (hpr.ok q x hx')).symm⟩
   ·obtain⟨p,rfl⟩:∃p,q=k+p:=⟨q - k,by omega⟩
    rw[hnew]at hx'
    match p,hx' with
    |0,h=>cases h;exact⟨.l 0,_,rfl,rfl,rfl⟩
    |1,h=>cases h;exact⟨.l 1,_,rfl,rfl,rfl⟩
    |2,h=>cases h;exact⟨.l 2,_,rfl,rfl,rfl⟩
    |3,h=>cases h;exact⟨.l 3,_,rfl,rfl,rfl⟩
    |p+4,h=>cases h
 have hou2:OuOk (ouAdd ou' k whO):=fun q x hx=>by
  rcases Nat.lt_or_ge q k with hq|hq
  ·rw[Q24 hq]at hx
   exact hpr.ok q x hx
  ·obtain⟨p,rfl⟩:∃p,q=k+p:=⟨q - k,by omega⟩
   rw[hnew]at hx
   match p,hx with
   |0,h=>cases h;exact⟨trivial,trivial⟩
   |1,h=>cases h;exact⟨trivial,trivial,trivial,trivial⟩
   |2,h=>cases h;exact⟨trivial,trivial⟩
   |3,h=>cases h;exact⟨trivial,trivial⟩
   |p+4,h=>cases h
 have hr:RFs w C2 [.one (.ptr (.o k) 0),.one (.ptr (.o (k+1)) 0),.one (.ptr (.o (k+2)) 0),.one (.ptr (.o (k+3)) 0)] [y0,y1,y2,y3]:=
  ⟨y0,_,rfl,hrf (.one (.ptr (.l 0) 0)) y0 hy0,y1,_,rfl,hrf (.one (.ptr (.l 1) 0)) y1 hy1,y2,_,rfl,hrf (.one (.ptr (.l 2) 0)) y2 hy2,y3,_,rfl,hrf (.one (.ptr (.l 3) 0)) y3 hy3,rfl⟩
 have hc1:Chg isO w C2 w { C2 with nl:=0 }:=⟨fun _ _=>rfl,fun _ h=>h,fun i hp ho=>⟨by cases i with|l k=>cases hp|o k=>exact ho,rfl,rfl⟩⟩
 obtain⟨tc,ec,vc,kc,fu,fc,hm0⟩:=hpr.m0
 refine (Qe6 (c:=c) (m:=m) hΓ hou2 hk0 ⟨tc,ec,vc,kc,fu,fc,by rw[Q24 hk0];exact hm0⟩ (hnew 0) (hnew 1) (hnew 2) (hnew 3) (Q1w w C2 (ouAdd ou' k whO)) w { C2 with nl:=0 } [y0,y1,y2,y3] rfl (hi2.forCallee hou2 hΓ) (RFs.chg hc1 _ _ ⟨trivial,trivial,trivial,trivial,trivial⟩ hr)).mono ?_
 rintro e u' w' ⟨hv,hset,C',ou3,hgo,h0,hi',hQ⟩
 obtain⟨hb1,hb2,hb3⟩:=hi2.back hgo h0 hi'
 obtain⟨ho3,r0,q1,q2,q3,q4⟩:=hQ
 refine⟨hv,hset,C2.behind C',[(4,.one (.ptr (.o (k+3)) 0)),(3,.one (.ptr (.o (k+2)) 0)),(2,.one (.ptr (.o (k+1)) 0))],⟨4,[],ou3⟩,hgo2.toO.trans hb1.toO,hb2,⟨hf.1,fun j x hj=>?_⟩,fun ds=>?_⟩
 ·match j,hj with
  |0,hj=>cases hj
  |1,hj=>cases hj
  |2,hj=>cases hj;obtain⟨u,hu,hr⟩:=hf.2 2 (.one (.ptr (.l 1) 0)) rfl;exact⟨u,hu,(hrf _ _ hr).ext hb1.chg⟩
  |3,hj=>cases hj;obtain⟨u,hu,hr⟩:=hf.2 3 (.one (.ptr (.l 2) 0)) rfl;exact⟨u,hu,(hrf _ _ hr).ext hb1.chg⟩
  |4,hj=>cases hj;obtain⟨u,hu,hr⟩:=hf.2 4 (.one (.ptr (.l 3) 0)) rfl;exact⟨u,hu,(hrf _ _ hr).ext hb1.chg⟩
  |j+5,hj=>cases hj
 ·have ha:aRes tab [(4,.one (.ptr (.o (k+3)) 0)),(3,.one (.ptr (.o (k+2)) 0)),(2,.one (.ptr (.o (k+1)) 0))] ⟨4,[],ou3⟩ Tryz.f23.results.toList=some (.tup [.agg [r0,int (rsOf (.trap c m)).fin,int (rsOf (.trap c m)).val],.one (int (rsOf (.trap c m)).steps),.one (int (rsOf (.trap c m)).err)]):=by
   show aRes tab _ _ [.cell 2 27,.cell 3 3,.cell 4 28]=_
   unfold aRes aResL
   rw[Q5v (T:=tab) (x:=.agg [r0,int (rsOf (.trap c m)).fin,int (rsOf (.trap c m)).val]) (σ:=⟨4,[],ou3⟩) (i:=.o (k+1)) rfl rfl rfl q1 rfl rfl]
   unfold aResL
   rw[Q5v (T:=tab) (x:=.one (int (rsOf (.trap c m)).steps)) (σ:=⟨4,[],ou3⟩) (i:=.o (k+2)) rfl rfl rfl q3 rfl rfl]
   unfold aResL
   rw[Q5v (T:=tab) (x:=.one (int (rsOf (.trap c m)).err)) (σ:=⟨4,[],ou3⟩) (i:=.o (k+3)) rfl rfl rfl q4 rfl rfl]
   rfl
  exact⟨_,_,ha,WkF.tup (.cons (.agg (.cons q2 (.cons (.refl _) (.cons (.refl _) .nil)))) (.cons (.refl _) (.cons (.refl _) .nil))),by simp,ho3,rfl⟩
section
variable {fu:Int}{ac:AC}
theorem Qdg(hΓ:∀g cs,(g,cs)∈Γ->idsL isO cs){ou:Outer}{r0:Rd}{kt0:Nat}(hrun:AFnP Tryz.prog Γ 50 [.one (.ptr (.o 0) 0)] ou (RunQ fu ac kt0 r0) (RunP r0)):
  AFn Tryz.prog Γ 23 [.one (.ptr (.o 0) 0)] ou (fun r _=>r=resF (rsOf r0)):=by
 refine AFn.ofDeferP (gd:=49) (d5:=5) (d6:=6) (d7:=7) (d8:=8) (first:=[]) (caps:=[.ptr (.l 0) 0,.ptr (.l 1) 0,.ptr (.l 2) 0,.ptr (.l 3) 0]) (fr1:=[(4,.one (.ptr (.l 3) 0)),(3,.one (.ptr (.l 2) 0)),(2,.one (.ptr (.l 1) 0)),(1,.one (.ptr (.l 0) 0)),(0,.one (.ptr (.o 0) 0))])
  (σ1 := whS ou) (v0 := .one (.ptr (.o 0) 0)) (us := [.one (.ptr (.o 0) 0)]) (Q1 := RunQ fu ac kt0 r0) (QP1 := RunP r0)
  tabOk hΓ Tryz.func23 rfl (by kernel_rfl) (by decide) ?_ rfl rfl (by decide) (AStep.ofOp tabOk rfl) rfl rfl rfl rfl rfl (by decide) (fun ds=>AStep.ofOp tabOk rfl) rfl rfl (by decide) rfl rfl rfl ⟨trivial,trivial⟩ (fun h=>h) hrun rfl rfl (by decide) ?_ ?_ ?_
 ·intro hou
  refine zA ?_
  exact⟨rfl,rfl,rfl⟩
 ·intro hou r ou' hq hri how
  cases r0 with
  |next m=>exact hq.elim
  |trap c m=>exact hq.elim
  |fuel=>
   obtain⟨rfl,_⟩:=hq
   refine⟨.one (.lit (.bool true)),fun ds=>⟨AStep.ofOp tabOk rfl,?_⟩⟩
   refine zA ?_
   exact AFn.fin' rfl (WkF.tup (.cons (.agg (.cons (.nilS 1) (.cons (.refl _) (.cons (.refl _) .nil)))) (.cons (.refl _) (.cons (.refl _) .nil)))) (by simp[resF,rsOf,Q2s]) how rfl
  |done mf vf=>
   obtain⟨rfl,hc,hk,H',nm',hM⟩:=hq
   refine⟨.one (.lit (.bool false)),fun ds=>⟨AStep.ofOp tabOk rfl,?_⟩⟩
   obtain⟨kt,tc,ec,vc,kc,hCR,hKR,h0⟩:=hM.ex
   rw[hc]at hCR
   cases hCR with
   |rt _ ec vc hv=>
    have hvi:=hv.ids
    have hoX:=h0.ouX
    rw[hoX]at how ⊢
    refine zA ?_
    refine ACode.drawSt tabOk 15 14 [(8,.one (int (lastV vf)))] _ follows (by kernel_rfl) rfl rfl (by kernel_rfl) rfl ?_ rfl rfl rfl rfl ?_ ?_ (AStep.ofStore tabOk rfl) ?_
    ·rfl
    ·exact⟨⟨_,rfl,AStep.callPure hΓ rfl rfl rfl ⟨hvi,trivial⟩ how (Q8x hv)⟩,trivial⟩
    ·exact⟨⟨_,rfl,AStep.callPure hΓ rfl rfl rfl ⟨hvi,trivial⟩ how (Q8x hv)⟩,trivial⟩
    refine zA ?_
    exact AFn.fin' rfl (WkF.tup (.cons (.agg (.cons (.gsE rfl) (.cons (.refl _) (.cons (.refl _) .nil)))) (.cons (.refl _) (.cons (.refl _) .nil)))) (by simp[resF,rsOf]) how rfl
 ·intro us w
  refine⟨?_,fun hs=>?_⟩
  ·simp[callFunc,Tryz.func49,Tryz.f49]
  ·obtain⟨l⟩:=us
   match l,hs with
   |[a,b,c,d],_=>exact Qgj a b c d w
 ·intro hou ps ou' hq how
  obtain⟨c,m,rfl,rfl,hpr⟩:=hq
  exact Qit hΓ hpr c
end
end Go.Proofs.YtkgjldchcbfpnaaGreatDoor
namespace Go.CoreX
theorem adj_pw:∀{l:List Int},(∀i,0 < i->i < l.length->l.getD (i - 1) 0 < l.getD i 0)->l.Pairwise (· < ·)
 |[],_=>.nil
 |a::l,h=>by
  have ih:l.Pairwise (· < ·):=adj_pw fun i hi hl=>by
   have:=h (i+1) (by omega) (by simp;omega)
   obtain⟨j,rfl⟩:∃j,i=j+1:=⟨i - 1,by omega⟩
   simpa using this
  refine List.pairwise_cons.2 ⟨fun b hb=>?_,ih⟩
  match l,hb,h,ih with
  |c::l,hb,h,ih=>
   have h0:a < c:=by simpa using h 1 (by omega) (by simp)
   rcases List.mem_cons.1 hb with rfl|hb
   ·exact h0
   ·exact Int.lt_trans h0 ((List.pairwise_cons.1 ih).1 b hb)
structure NodeU (l:Lab):Prop where
 sh:shpQ l
 bl:l.binds.length<=1048576
 al:l.alts.length<=1048576
 ab:∀a∈l.alts,a.binds.length<=1048576
 kl:l.ops.length<=1048576
 wd:l.op=1->-1073741824<=l.n/\l.n<=1073741823
 rc:l.op=5->∀i,i < l.binds.length->l.ops[i]?=some 2
 sl:l.op=16->0<=l.n
 rb:l.op=9->rowOk l.binds
 rn:l.op=11->0<=l.n/\l.n < 1048576
theorem Q8t{e:List Ex}{x:Ex}(h:Q0z e x=0):shape x=true/\between x.n (lowN x.op) (highN x.op)=true/\x.binds.all Q2g=true/\(List.range x.binds.length).any (Q1k e x)=false:=by
 unfold Q0z at h
 split at h
 ·cases h
 rename_i h1
 split at h
 ·rename_i h2;exact absurd h h2
 rename_i h2
 split at h
 ·cases h
 rename_i h3
 have h2':ranges x=0:=by simpa using h2
 unfold ranges at h2'
 split at h2'
 ·cases h2'
 rename_i h4
 split at h2'
 ·cases h2'
 rename_i h5
 exact⟨by simpa using h1,by simpa using h4,by simpa using h5,by simpa using h3⟩
theorem Q4f{flat:Bool}{e:List Ex}{x:Ex}(h:Q0m flat e x=0):((flat&&Q3h x.op)||(!flat&&Q3g x.op))=false/\Q0z e x=0:=by
 unfold Q0m at h
 split at h
 ·cases h
 ·rename_i h1;exact⟨by simpa using h1,h⟩
end Go.CoreX
namespace Go.Proofs.YtkgjldchcbfpnaaGreatDoor
open Go Go.Abs Go.CoreX
theorem nodeU{e:List Ex}(ht:IsTree e)(he:okB e){x:Ex}(hx:x∈e)(hn:Q0z e x=0):NodeU (labE e x):=by
 obtain⟨h1,h2,h3,h4⟩:=Q8t hn
 have hsz:=he.eo.x x hx
 have hbt:lowN x.op<=x.n/\x.n<=highN x.op:=by simpa[between]using h2
 have hid:∀y∈x.binds,0<=y/\y < 1048576:=fun y hy=>by
  have:=List.all_eq_true.1 h3 y hy
  simp[Q2g,between]at this
  omega
 have hbb:∀i,i < x.binds.length->Q1k e x i=false:=fun i hi=>by
  have:=List.any_eq_false.1 h4 i (List.mem_range.2 hi)
  simpa using this
 refine⟨⟨⟨x.kids,by simp[labE],h1⟩⟩,hsz.b,hsz.a,hsz.ab,by simpa[labE]using hsz.k,fun h=>?_,fun h5 i hi=>?_,fun h=>?_,fun h=>⟨adj_pw fun i h0 hi=>?_,hid⟩,fun h=>?_⟩
 ·have h:x.op=1:=h
  rw[h]at hbt;simpa[lowN,highN,labE]using hbt
 ·simp only[labE]at h5 hi ⊢
  have h6:=hbb i hi
  simp only[Q1k,Bool.or_eq_false_iff]at h6
  have h6:=h6.1
  have hkl:x.kids.length=x.binds.length+1:=by
   have:ShN 5 x.n x.binds x.kids.length x.alts:=⟨⟨x.kids,rfl,by rw[←h5];exact h1⟩⟩
   exact this.recs.1
  have hil:i < x.kids.length:=by omega
  have hkk:=Qfz ht.k hx _ (List.getElem_mem hil)
  have h7:x.kids.getD i 0=x.kids[i]:=by rw[List.getD_eq_getElem?_getD,List.getElem?_eq_getElem hil];rfl
  rw[h7]at h6
  rw[List.getElem?_map,List.getElem?_eq_getElem hil,Option.map_some,op_grow e _ (by omega)]
  simpa[h5]using h6
 ·have h:x.op=16:=h
  rw[h]at hbt;exact hbt.1
 ·have h:x.op=9:=h
  have h6:=hbb i hi
  simp only[Q1k,Bool.or_eq_false_iff]at h6
  have h7:=h6.2
  simp[h]at h7
  have:=h7 h0
  simp only[labE]
  rw[List.getD_eq_getElem?_getD,List.getD_eq_getElem?_getD]
  exact this
 ·have h:x.op=11:=h
  rw[h]at hbt
  have:=hbt.1;have h8:=hbt.2
  simp[lowN,highN,labE]at *
  omega
theorem Q88{e:List Ex}(h:check e=0)(he:okB e){hi:Bool}(hh:∀x∈e,x.op=12∨x.op=13->hi=true)(fns:List Fun):allT (FragU fns hi) (grow e):=by
 have ht:=Q2x h
 refine Qan ht fun x hx=>?_
 obtain⟨h1,h2⟩:=Q4f ((Qbi h).2.1 x hx)
 have N:=nodeU ht he hx h2
 have hno:¬(x.op=14∨x.op=15∨x.op=16):=fun h=>by simp[Q3g]at h1;omega
 exact⟨N.sh,hh x hx,N.bl,N.al,N.ab,N.kl,N.wd,N.rc,fun h=>absurd (show x.op=14∨x.op=15∨x.op=16 from h.elim .inl fun h=>.inr (.inl h)) hno,fun h=>absurd (show x.op=14∨x.op=15∨x.op=16 from .inl h) hno,N.sl,N.rb,N.rn⟩
theorem RunInv.no{fu:Int}{fns:List Fun}(hf:FnsU fns false):RunInv fu fns (false=true) (gM (GU fns false)) where
 st:=fun m m' h hr=>Q47 (GUok hf) h hr
 fr:=fun h=>by cases h
 pf:=fun m h v f k hc hk h12=>by
  have hg:=h.k
  rw[hk]at hg
  have F:FragU fns false ⟨f.t.op,f.t.n,f.t.binds,f.t.kids.map Tr.op,f.t.alts⟩:=Q0w (Qgr.1 hg.1).1
  have:=F.op (.inl h12)
  cases this
theorem Q95{fns:List Fun}{hi:Bool}{t:Tr}(h:allT (FragU fns hi) t):gM (GU fns hi) (initM t):=⟨⟨h,trivial⟩,trivial,fun r hr=>by cases hr⟩
theorem Qd2{fu:Int}{fns:List Fun}{m:Ms}{R:Rs}(h:EndsM fu fns m R):∃g r,goX fu fns g m=some r/\rsOf r=R:=by
 obtain⟨g,hg⟩:=h
 rw[Qgn]at hg
 cases hx:goX fu fns g m with
 |none=>rw[hx]at hg;cases hg
 |some r=>rw[hx]at hg;exact⟨g,r,hx,Option.some.inj hg⟩
theorem Qj7(t:Tr)(fu:Int)(ac:AC)(ha:ac.ids isO):MR fu ⟨ac,1⟩ (ouOf [.cells (mC (.box (cTr t)) nilPE (.lit .nilIface) nilPE [] 0 fu ⟨ac,1⟩),.tok 3 1 0]) (fun _=>none) [] (initM t):=by
 refine⟨⟨1,_,_,_,_,.ev t .nil nilPE (.lit .nilIface) .nil,.nil,⟨⟨by simp,trivial,trivial,trivial⟩,rfl,⟨fun k cs hk=>(by cases hk),fun k o hk=>?_,rfl,fun a k n h=>(by simp at h),fun a k n h=>rfl,fun a b k n n' h=>(by simp at h),⟨rfl,fun a k n h=>(by simp at h)⟩,fun cs hc es i hi=>?_,fun k o hk=>?_⟩⟩⟩⟩
 ·match k,hk with
  |0,hk=>cases hk;exact⟨by simp,trivial,trivial,trivial,⟨trivial,trivial⟩,trivial,trivial,ha,trivial⟩
  |1,hk=>cases hk;trivial
  |k+2,hk=>simp[ouOf]at hk
 ·cases hc
  cases hi
  exact⟨1,rfl,Nat.le_refl _,rfl,rfl,fun a k n h=>by simp at h⟩
 ·match k,hk with
  |0,hk=>cases hk;trivial
  |1,hk=>cases hk;trivial
  |k+2,hk=>simp[ouOf]at hk
theorem Q9k{fns:List Fun}{hi:Bool}{fu:Int}(hf:FnsU fns hi)(hfu:1<=fu/\fu<=1000000)(hm:MoreU fns hi fu (.sl 2 (fns.map cFun)) Γc){t:Tr}(ht:allT (FragU fns hi) t){I:Ms->Prop}(hI:RunInv fu fns (hi=true) I)(hi0:I (initM t)){R:Rs}(hR:EndsM fu fns (initM t) R):
  AFn Tryz.prog Γc 23 [.one (.ptr (.o 0) 0)] (ouOf [.cells (mC (.box (cTr t)) nilPE (.lit .nilIface) nilPE [] 0 fu ⟨.sl 2 (fns.map cFun),1⟩),.tok 3 1 0]) (fun r ou'=>r=resF R/\ou'=ouOf [.dead,.dead]):=by
 obtain⟨g,r0,hg,rfl⟩:=Qd2 hR
 have hac:(AC.sl 2 (fns.map cFun)).ids isO:=by show idsS isO _;simp
 have hkc:=kidU hΓc hf (show 0<=fu/\fu<=1000000 by omega) hm
 have hsc:=startU hΓc hf hkc
 have hrun:=Qhv hΓc hac (GUok hf) (fun t ht=>GUopn ht) hkc hsc hI (Qj7 t fu _ hac) (Q95 ht) hg hi0 (by simp[initM]) (show 0<=fu/\fu<=1000000 by omega) (by simp[initM];omega)
 refine AFn.forgetD (AFn.mono (Qdg hΓc hrun) fun r ou' hq=>⟨ouOf [.dead,.dead],fun m o hmo=>?_,hq,rfl⟩)
 match m,hmo with
 |0,hmo=>cases hmo;exact .inr ⟨rfl,_,rfl⟩
 |1,hmo=>cases hmo;exact .inr ⟨rfl,_,rfl⟩
 |m+2,hmo=>simp[ouOf]at hmo
theorem Q3a(R:Rs)(p:Abs.Id->Prop):(resF R).ids p:=by simp[resF]
theorem Run_gen{hi:Bool}{fu:Int}{e:List Ex}(he:okB e)(hchk:check e=0)(hfu:1<=fu/\fu<=1000000)(hm:MoreU [] hi fu (.sl 2 []) Γc)(hf:allT (FragU [] hi) (grow e)){I:Ms->Prop}(hI:RunInv fu [] (hi=true) I)(hi0:I (initM (grow e))):
  APure Tryz.prog Γc 12 [.one (.sl 5 (e.map cEx)),.one (int fu)] (resF (evalT (grow e) fu)):=by
 have t1:=Q2x hchk
 have c1:=Q9j e he
 rw[hchk]at c1
 have hwh:=Q9k (fns:=[]) (hi:=hi) ⟨fun f h=>(by cases h),fun f h=>(by cases h)⟩ hfu hm hf hI hi0 (Q85 (grow e) (by omega))
 intro ou
 refine AFn.walk 30 tabOk Tryz.func12 rfl (by kernel_rfl) rfl rfl fun hou=>?_
 refine zA ?_
 refine zca hΓc c1 hou ?_
 refine zA ?_
 have hf1:decide (fu < 1)=false:=by simp;omega
 refine AOps.wk 16 rfl (y:=.one (.lit (.bool false))) (.ofEq (by show FV.one (.lit (.bool (decide (fu < 1))))=_;rw[hf1])) ?_
 refine zM ?_
 refine ACode.cond rfl (fun hb=>absurd (show 1000000 < fu by simpa using hb) (by omega)) (fun _=>?_)
 refine zM ?_
 refine zca hΓc (Q9i hΓc e he.eo t1.k t1.ne) hou ?_
 repeat ((fail_if_success ((with_reducible refine oj ?_);refine AOps.atDst 26 rfl ?_));first|refine zO ?_)
 refine AOps.growO 1 4 3 1 rfl rfl ?_
 refine AOps.wkObj (.l 1) rfl (cs':=[.box (cTr (grow e)),nilPE,.lit .nilIface,nilPE,.gs 1 [] (.l 2),int 0,int fu,.sl 2 []]) (fun w C xs h=>?_) ?_
 ·exact (show WkL _ _ from .cons (.refl _) (.cons (.refl _) (.cons (.refl _) (.cons (.refl _) (.cons (.refl _) (.cons (.refl _) (.cons (.refl _) (.cons (.nilS 2) .nil)))))))) w C xs h
 refine AOps.callR [.l 1,.l 2] [.one (.ptr (.o 0) 0)] [.cells (mC (.box (cTr (grow e))) nilPE (.lit .nilIface) nilPE [] 0 fu ⟨.sl 2 [],1⟩),.tok 3 1 0] hΓcF rfl rfl rfl rfl rfl rfl ?_ ?_ ?_ ?_ ?_ hwh ?_
 ·rfl
 ·simp[inO]
 ·simp
 ·refine⟨?_,rfl,trivial⟩
  simp only[AObj.sub,mC,subL,AC.sub,nameOf,List.map_nil,subS]
  rw[Q1e _ _ (by simp)]
  rfl
 ·simp[inO,mC]
 intro r ou' hq
 obtain⟨rfl,rfl⟩:=hq
 refine⟨[.dead,.dead],rfl,rfl,by simp,Q3a _ _,?_⟩
 rw[show FV.sub (nameOf [.l 1,.l 2]) (resF (evalT (grow e) fu))=resF (evalT (grow e) fu)from FV.sub_pure _ _ (Q3a _ _)]
 refine zA ?_
 exact APure.fin rfl (WkF.ofEq rfl) (Q3a _ _) hou rfl
theorem RunE_ok{e:List Ex}(he:okB e)(hnp:∀x∈e,¬(x.op=12∨x.op=13))(fu:Int):APure Tryz.prog Γc 12 [.one (.sl 5 (e.map cEx)),.one (int fu)] (resF (evalE e fu)):=by
 have c1:=Q9j e he
 by_cases hc:check e=0
 ·by_cases hfu:1<=fu/\fu<=1000000
  ·have hf:=Q88 hc he (hi:=false) (fun x hx h=>absurd h (hnp x hx)) []
   have hR:evalE e fu=evalT (grow e) fu:=by
    unfold evalE
    rw[if_neg (by simpa using hc),if_neg (by omega)]
   rw[hR]
   exact Run_gen he hc hfu MoreU.no hf (RunInv.no ⟨fun f h=>(by cases h),fun f h=>(by cases h)⟩) (Q95 hf)
  ·have hR:evalE e fu={ Q2s with err:=4 }:=by
    unfold evalE
    rw[if_neg (by simpa using hc),if_pos (by omega)]
   rw[hR]
   rw[hc]at c1
   intro ou
   refine AFn.walk 30 tabOk Tryz.func12 rfl (by kernel_rfl) rfl rfl fun hou=>?_
   refine zA ?_
   refine zca hΓc c1 hou ?_
   refine zA ?_
   by_cases h1:fu < 1
   ·have hf1:decide (fu < 1)=true:=by simpa using h1
    refine AOps.wk 16 rfl (y:=.one (.lit (.bool true))) (.ofEq (by show FV.one (.lit (.bool (decide (fu < 1))))=_;rw[hf1])) ?_
    refine zM ?_
    exact APure.fin rfl (WkF.tup (.cons (.agg (.cons (.nilS 1) (.cons (.refl _) (.cons (.refl _) .nil)))) (.cons (.refl _) (.cons (.refl _) .nil)))) (by simp[resF,Q2s]) hou rfl
   ·have hf1:decide (fu < 1)=false:=by simpa using h1
    refine AOps.wk 16 rfl (y:=.one (.lit (.bool false))) (.ofEq (by show FV.one (.lit (.bool (decide (fu < 1))))=_;rw[hf1])) ?_
    refine zM ?_
    refine ACode.cond rfl (fun _=>?_) (fun hb=>absurd (show ¬1000000 < fu by simpa using hb) (by omega))
    refine zM ?_
    exact APure.fin rfl (WkF.tup (.cons (.agg (.cons (.nilS 1) (.cons (.refl _) (.cons (.refl _) .nil)))) (.cons (.refl _) (.cons (.refl _) .nil)))) (by simp[resF,Q2s]) hou rfl
 ·have hR:evalE e fu={ Q2s with err:=check e }:=by
   unfold evalE
   rw[if_pos (by simpa using hc)]
  rw[hR]
  intro ou
  refine AFn.walk 30 tabOk Tryz.func12 rfl (by kernel_rfl) rfl rfl fun hou=>?_
  refine zA ?_
  refine zca hΓc c1 hou ?_
  refine zA ?_
  refine ACode.cond rfl (fun _=>?_) (fun hb=>absurd (show check e=0 by simpa using hb) hc)
  refine zM ?_
  exact APure.fin rfl (WkF.tup (.cons (.agg (.cons (.nilS 1) (.cons (.refl _) (.cons (.refl _) .nil)))) (.cons (.refl _) (.cons (.refl _) .nil)))) (by simp[resF,Q2s]) hou rfl
theorem Q6w{fu:Int}{fns:List Fun}:∀{g:Nat}{m:Ms}{r:Rd},goX fu fns g m=some r->m.out.length<=1000->(rsOf r).out.length<=1048576
 |0,_,_,h,_=>by cases h
 |g+1,m,r,h,hm=>by
  simp only[goX]at h
  cases hr:Q0c fu fns m with
  |next m'=>rw[hr]at h;exact Q6w h (Q7m hr hm)
  |done m' v=>
   rw[hr]at h;cases h
   obtain⟨_,hd⟩:=Q6i hr
   obtain⟨rfl,_⟩:=hd m' v rfl
   show m'.out.length<=_;omega
  |fuel=>rw[hr]at h;cases h;simp[rsOf,Q2s]
  |trap c m'=>
   rw[hr]at h;cases h
   have hmo:m'.out=m.out:=by
    unfold Q0c at hr
    repeat' split at hr
    all_goals try (cases hr;done)
    all_goals (cases hr;rfl)
   simp only[rsOf]
   split
   ·simp[Q2s]
   ·show m'.out.length<=_;rw[hmo];omega
def resA (R:Rs):FV:=.agg [.sl 1 (R.out.map cI),int R.fin,int R.val]
theorem Qbq(a b:Rs)(ha:a.out.length<=1048576):APure Tryz.prog Γc 9 [resA a,resA b] (.one (.lit (.bool (decide (a.fin=b.fin)&&decide (a.val=b.val)&&(a.out==b.out))))):=by
 have hs:=Qbr hΓc a.out b.out ha
 intro ou
 refine AFn.walk 24 tabOk Tryz.func9 rfl (by kernel_rfl) rfl rfl fun hou=>?_
 refine zM ?_
 by_cases h1:a.fin=b.fin
 ·refine AOps.wk 10 rfl (y:=.one (.lit (.bool true))) (.ofEq (by simp[h1])) ?_
  refine zM ?_
  by_cases h2:a.val=b.val
  ·refine AOps.wk 17 rfl (y:=.one (.lit (.bool true))) (.ofEq (by simp[h2])) ?_
   refine zM ?_
   refine zca hΓc hs hou ?_
   refine zM ?_
   exact APure.fin rfl (WkF.ofEq (by simp[h1,h2])) (by simp) hou rfl
  ·refine AOps.wk 17 rfl (y:=.one (.lit (.bool false))) (.ofEq (by simp[h2])) ?_
   refine zM ?_
   exact APure.fin rfl (WkF.ofEq (by simp[h1,h2])) (by simp) hou rfl
 ·refine AOps.wk 10 rfl (y:=.one (.lit (.bool false))) (.ofEq (by simp[h1])) ?_
  refine zM ?_
  exact APure.fin rfl (WkF.ofEq (by simp[h1])) (by simp) hou rfl
structure BodyK (e:List Ex):Prop where
 l:e.length<=1099511627776
 b:e.length<=4096->okB e
theorem BodyK.ofB{e:List Ex}(h:okB e):BodyK e:=⟨by have:=h.eo.l;omega,fun _=>h⟩
theorem Body_k{e:List Ex}(h:BodyK e){params:List Int}(hp:params.length<=6):∃r:Int,APure Tryz.prog Γc 21 [.one (.sl 5 (e.map cEx)),.one (.sl 1 (params.map cI)),.one (.lit (.bool true))] (.one (int r))/\(r=0->body e params true=0/\okB e):=by
 by_cases hl:e.length<=4096
 ·exact⟨_,Qbw e (h.b hl) params (by omega) true,fun h0=>⟨h0,h.b hl⟩⟩
 ·exact⟨2,Qjb e (by omega) h.l params true,fun h=>by cases h⟩
def ErrR (P:Prop)(ou:Outer):FV->Outer->Prop:=fun r ou'=>(∃k:Int,r=.one (int k)/\(k=0->P))/\ou'=ou
theorem Qgt(fs:List FnD)(hfl:fs.length<=1048576)(f:FnD)(hpl:f.params.length<=1099511627776)(hb0:BodyK f.body)(main:Int)(ou:Outer):AFn Tryz.prog Γc 22 [.agg [.sl 3 (fs.map encF),int main],.agg (encF f)] ou (ErrR (FnOkD fs f) ou):=by
 have hbl:=hb0.l
 refine AFn.walk 94 tabOk Tryz.func22 rfl (by kernel_rfl) rfl rfl fun hou=>?_
 refine zM ?_
 refine AOps.splitS rfl rfl rfl rfl (fun _=>?_) (fun hn1=>?_)
 ·refine zM ?_
  exact AFn.fin' rfl (.refl _) (by simp) hou ⟨⟨_,rfl,fun h=>absurd h (by decide)⟩,rfl⟩
 refine zM ?_
 refine ACode.cond rfl (fun _=>?_) (fun hn2=>?_)
 ·refine zM ?_
  exact AFn.fin' rfl (.refl _) (by simp) hou ⟨⟨_,rfl,fun h=>absurd h (by decide)⟩,rfl⟩
 refine zM ?_
 refine ACode.cond rfl (fun _=>?_) (fun hp6=>?_)
 ·refine zM ?_
  exact AFn.fin' rfl (.refl _) (by simp) hou ⟨⟨_,rfl,fun h=>absurd h (by decide)⟩,rfl⟩
 have hp6:f.params.length<=6:=by simp at hp6;omega
 have hn1:¬f.name < -1:=by simpa using hn1
 have hn2:¬1048576<=f.name:=by simpa using hn2
 obtain⟨rb,hB,hrb⟩:=Body_k hb0 hp6
 refine zM ?_
 refine ACode.freeze1 (.l 0) 2 rfl rfl ?_
 refine ACode.freeze1 (.l 1) 3 rfl rfl ?_
 refine ACode.loopR hΓc (α:=Nat) (fun j=>[(26,.one (int j)),(25,.one (int (f.params.map cI).length)),(24,.one (.sl 1 (f.params.map cI))),(3,.one (.box (encF f))),(2,.one (.box [.sl 3 (fs.map encF),int main]))]) (fun j=>⟨0,[],ou⟩) (fun m j=>j<=f.params.length/\m=f.params.length - j/\∀x∈f.params.take j,0<=x/\x < 1048576) (a0:=0) (ρ:=_root_.id) ⟨by omega,rfl,by simp⟩ (LessR.of rfl zFS (by simp) zLO rfl rfl hou) fun m j hj=>?_
 obtain⟨hjl,rfl,hpr⟩:=hj
 refine zA ?_
 refine ACode.cond rfl (fun hb2=>?_) (fun hb2=>?_)
 ·have hlt:j < f.params.length:=by simpa using hb2
  obtain⟨x,hx⟩:=Q01 hlt
  refine zA ?_
  refine zS (zIA rfl rfl rfl (by omega) (Q06 hx)) ?_
  refine zA ?_
  refine AOps.splitS rfl rfl rfl rfl (fun _=>?_) (fun hx1=>?_)
  ·refine zM ?_
   exact AFn.fin' rfl (.refl _) (by simp) hou ⟨⟨_,rfl,fun h=>absurd h (by decide)⟩,rfl⟩
  refine zM ?_
  refine ACode.cond rfl (fun _=>?_) (fun hx2=>?_)
  ·refine zM ?_
   exact AFn.fin' rfl (.refl _) (by simp) hou ⟨⟨_,rfl,fun h=>absurd h (by decide)⟩,rfl⟩
  refine zM ?_
  have hx1:¬x < 0:=by simpa using hx1
  have hx2:¬1048576<=x:=by simpa using hx2
  refine cInv ⟨f.params.length - (j+1),j+1,_root_.id,by omega,⟨by omega,rfl,fun y hy=>?_⟩,LessR.of rfl zFS (by simp) zLO rfl rfl hou⟩
  rw[Q2d hx]at hy
  rcases List.mem_append.1 hy with hy|hy
  ·exact hpr y hy
  ·rw[List.mem_singleton.1 hy];omega
 have hjj:j=f.params.length:=by simp at hb2;omega
 subst hjj
 rw[List.take_length]at hpr
 refine zA ?_
 refine zca hΓc hB hou ?_
 refine zM ?_
 refine ACode.cond rfl (fun hr0=>?_) (fun hr0=>?_)
 ·refine zM ?_
  exact AFn.fin' rfl (.refl _) (by simp) hou ⟨⟨_,rfl,fun h=>absurd h (by simpa using hr0)⟩,rfl⟩
 obtain⟨hbody,hokb⟩:=hrb (by simpa using hr0)
 refine zM ?_
 refine ACode.loopR hΓc (α:=Nat) (fun j=>[(48,.one (int j)),(47,.one (int (f.body.map cEx).length)),(46,.one (.sl 5 (f.body.map cEx))),(3,.one (.box (encF f))),(2,.one (.box [.sl 3 (fs.map encF),int main]))]) (fun j=>⟨0,[],ou⟩) (fun m j=>j<=f.body.length/\m=f.body.length - j/\∀x∈f.body.take j,Q79 fs x) (a0:=0) (ρ:=_root_.id) ⟨by omega,rfl,by simp⟩ (LessR.of rfl zFS (by simp) zLO rfl rfl hou) fun m j hj=>?_
 obtain⟨hjl,rfl,hcl⟩:=hj
 clear hb2
 refine zA ?_
 refine ACode.cond rfl (fun hb2=>?_) (fun hb2=>?_)
 ·have hlt:j < f.body.length:=by simpa using hb2
  obtain⟨x,hx⟩:=Q01 hlt
  have hstep:Q79 fs x->∀y∈f.body.take (j+1),Q79 fs y:=fun h y hy=>by
   rw[Q2d hx]at hy
   rcases List.mem_append.1 hy with hy|hy
   ·exact hcl y hy
   ·rw[List.mem_singleton.1 hy];exact h
  have hc:=Qeb hbody (List.mem_of_getElem? hx)
  obtain⟨o,n,b,k,al⟩:=x
  simp only at hc
  by_cases h14:o=14
  ·subst h14
   have hn0:=hc (.inl rfl)
   obtain⟨i,rfl⟩:∃i:Nat,n=(i:Int):=⟨n.toNat,by omega⟩
   refine zA ?_
   refine zS (zIA rfl rfl rfl (by omega) (Q06 hx)) ?_
   refine zA ?_
   refine ACode.cond rfl (fun _=>?_) (fun hb3=>?_)
   ·refine zM ?_
    exact AFn.fin' rfl (.refl _) (by simp) hou ⟨⟨_,rfl,fun h=>absurd h (by decide)⟩,rfl⟩
   have hgl:i < fs.length:=by simp at hb3;omega
   obtain⟨g,hg⟩:=Q01 hgl
   refine zA ?_
   refine zS (zIA rfl rfl rfl (Int.natCast_nonneg i) (Q06 hg)) ?_
   refine zA ?_
   refine AOps.splitS rfl rfl rfl rfl (fun _=>?_) (fun hb4=>?_)
   ·refine zM ?_
    exact AFn.fin' rfl (.refl _) (by simp) hou ⟨⟨_,rfl,fun h=>absurd h (by decide)⟩,rfl⟩
   refine zM ?_
   exact cInv ⟨f.body.length - (j+1),j+1,_root_.id,by omega,⟨by omega,rfl,hstep fun _=>⟨i,g,rfl,hg,fun _=>(show k.length=g.params.length by first|(simpa using hb4)|(simp at hb4;omega)),fun h=>absurd h (show ¬(14:Int)=15 by decide)⟩⟩,LessR.of rfl zFS (by simp) zLO rfl rfl hou⟩
  by_cases h15:o=15
  ·subst h15
   have hn0:=hc (.inr rfl)
   obtain⟨i,rfl⟩:∃i:Nat,n=(i:Int):=⟨n.toNat,by omega⟩
   refine zA ?_
   refine zS (zIA rfl rfl rfl (by omega) (Q06 hx)) ?_
   refine zA ?_
   refine ACode.cond rfl (fun _=>?_) (fun hb3=>?_)
   ·refine zM ?_
    exact AFn.fin' rfl (.refl _) (by simp) hou ⟨⟨_,rfl,fun h=>absurd h (by decide)⟩,rfl⟩
   have hgl:i < fs.length:=by simp at hb3;omega
   obtain⟨g,hg⟩:=Q01 hgl
   refine zA ?_
   refine zS (zIA rfl rfl rfl (Int.natCast_nonneg i) (Q06 hg)) ?_
   refine zA ?_
   refine ACode.cond rfl (fun _=>?_) (fun hb4=>?_)
   ·refine zM ?_
    exact AFn.fin' rfl (.refl _) (by simp) hou ⟨⟨_,rfl,fun h=>absurd h (by decide)⟩,rfl⟩
   refine zM ?_
   exact cInv ⟨f.body.length - (j+1),j+1,_root_.id,by omega,⟨by omega,rfl,hstep fun _=>⟨i,g,rfl,hg,fun h=>absurd h (show ¬(15:Int)=14 by decide),fun _=>(show g.params.length≠0 by simpa using hb4)⟩⟩,LessR.of rfl zFS (by simp) zLO rfl rfl hou⟩
  refine zA ?_
  refine zS (zIA rfl rfl rfl (by omega) (Q06 hx)) ?_
  refine zA ?_
  refine AOps.splitS rfl rfl rfl rfl (fun _=>?_) (fun hb=>absurd hb (by simpa using h14))
  refine zM ?_
  refine ACode.cond rfl (fun _=>?_) (fun hb=>absurd hb (by simpa using h15))
  refine zM ?_
  exact cInv ⟨f.body.length - (j+1),j+1,_root_.id,by omega,⟨by omega,rfl,hstep fun h=>absurd h (not_or.2 ⟨h14,h15⟩)⟩,LessR.of rfl zFS (by simp) zLO rfl rfl hou⟩
 have hjj:j=f.body.length:=by simp at hb2;omega
 subst hjj
 rw[List.take_length]at hcl
 refine zA ?_
 exact AFn.fin' rfl (.refl _) (by simp) hou ⟨⟨_,rfl,fun _=>⟨by omega,by omega,hpr,hokb,hbody,hcl⟩⟩,rfl⟩
theorem Qio(fs:List FnD)(hfl:fs.length<=1048576)(hb:∀f∈fs,f.params.length<=1099511627776/\BodyK f.body)(main:Int)(ou:Outer):AFn Tryz.prog Γc 11 [.agg [.sl 3 (fs.map encF),int main]] ou (ErrR (∃mn:Nat,main=mn/\PrgOk fs mn) ou):=by
 refine AFn.walk 52 tabOk Tryz.func11 rfl (by kernel_rfl) rfl rfl fun hou=>?_
 refine zM ?_
 refine ACode.cond rfl (fun _=>?_) (fun hb0=>?_)
 ·refine zM ?_
  exact AFn.fin' rfl (.refl _) (by simp) hou ⟨⟨_,rfl,fun h=>absurd h (by decide)⟩,rfl⟩
 have hpos:0 < fs.length:=by
  rcases Nat.eq_zero_or_pos fs.length with h0|h0
  ·simp[List.length_eq_zero_iff.1 h0]at hb0
  ·exact h0
 refine zM ?_
 refine ACode.cond rfl (fun _=>?_) (fun h256=>?_)
 ·refine zM ?_
  exact AFn.fin' rfl (.refl _) (by simp) hou ⟨⟨_,rfl,fun h=>absurd h (by decide)⟩,rfl⟩
 have h256:fs.length<=256:=by simp at h256;omega
 refine zM ?_
 refine AOps.splitS rfl rfl rfl rfl (fun _=>?_) (fun hm0=>?_)
 ·refine zM ?_
  exact AFn.fin' rfl (.refl _) (by simp) hou ⟨⟨_,rfl,fun h=>absurd h (by decide)⟩,rfl⟩
 have hm0:¬main < 0:=by simpa using hm0
 obtain⟨mn,rfl⟩:∃mn:Nat,main=mn:=⟨main.toNat,by omega⟩
 refine zM ?_
 refine ACode.cond rfl (fun _=>?_) (fun hm1=>?_)
 ·refine zM ?_
  exact AFn.fin' rfl (.refl _) (by simp) hou ⟨⟨_,rfl,fun h=>absurd h (by decide)⟩,rfl⟩
 have hm1:mn < fs.length:=by simp at hm1;omega
 obtain⟨f0,h0⟩:=Q01 hm1
 refine zA ?_
 refine zS (zIA rfl rfl rfl (Int.natCast_nonneg mn) (Q06 h0)) ?_
 refine zM ?_
 refine ACode.cond rfl (fun _=>?_) (fun hp0=>?_)
 ·refine zM ?_
  exact AFn.fin' rfl (.refl _) (by simp) hou ⟨⟨_,rfl,fun h=>absurd h (by decide)⟩,rfl⟩
 have hp0:f0.params=[]:=List.length_eq_zero_iff.1 (by simp at hp0;first|omega|simpa using hp0)
 refine zA ?_
 refine ACode.freeze1 (.l 0) 1 rfl rfl ?_
 refine ACode.loopR hΓc (α:=Nat) (fun j=>[(41,.one (int j)),(40,.one (int (fs.map encF).length)),(39,.one (.sl 3 (fs.map encF))),(1,.one (.box [.sl 3 (fs.map encF),int (mn:Int)]))]) (fun j=>⟨0,[],ou⟩) (fun m j=>j<=fs.length/\m=fs.length - j/\∀x∈fs.take j,FnOkD fs x) (a0:=0) (ρ:=_root_.id) ⟨by omega,rfl,by simp⟩ (LessR.of rfl zFS (by simp) zLO rfl rfl hou) fun m j hj=>?_
 obtain⟨hjl,rfl,hcl⟩:=hj
 refine zA ?_
 refine ACode.cond rfl (fun hb2=>?_) (fun hb2=>?_)
 ·have hlt:j < fs.length:=by simpa using hb2
  obtain⟨x,hx⟩:=Q01 hlt
  have hxm:=List.mem_of_getElem? hx
  refine zA ?_
  refine zS (zIA rfl rfl rfl (by omega) (Q06 hx)) ?_
  refine zA ?_
  refine AOps.call1 hΓc rfl rfl rfl rfl rfl rfl rfl (by simp[idsF]) hou (Qgt fs (by omega) x (hb x hxm).1 (hb x hxm).2 mn ou) fun r ou' hq _ how=>?_
  obtain⟨⟨k,rfl,hk⟩,rfl⟩:=hq
  refine zM ?_
  refine ACode.cond rfl (fun hk0=>?_) (fun hk0=>?_)
  ·refine zM ?_
   exact AFn.fin' rfl (.refl _) (by simp) hou ⟨⟨_,rfl,fun h=>absurd h (by simpa using hk0)⟩,rfl⟩
  have hk1:=hk (by simpa using hk0)
  have hstep:∀y∈fs.take (j+1),FnOkD fs y:=fun y hy=>by
   rw[Q2d hx]at hy
   rcases List.mem_append.1 hy with hy|hy
   ·exact hcl y hy
   ·rw[List.mem_singleton.1 hy];exact hk1
  refine zM ?_
  exact cInv ⟨fs.length - (j+1),j+1,_root_.id,by omega,⟨by omega,rfl,hstep⟩,LessR.of rfl zFS (by simp) zLO rfl rfl hou⟩
 have hjj:j=fs.length:=by simp at hb2;omega
 subst hjj
 rw[List.take_length]at hcl
 refine zA ?_
 exact AFn.fin' rfl (.refl _) (by simp) hou ⟨⟨_,rfl,fun _=>⟨mn,rfl,h256,hcl,f0,h0,hp0⟩⟩,rfl⟩
theorem Q82{fs:List FnD}{f:FnD}(h:FnOkD fs f):∀x∈f.body,Q0z f.body x=0/\¬(x.op=2∨x.op=5∨x.op=12∨x.op=13):=by
 have hz:∀x∈f.body,Q0m true f.body x=0:=(Q1l _ _).1 (by
  have h:=h.b
  unfold body at h
  split at h
  ·rename_i h0;exact absurd h h0
  split at h
  ·rename_i h0;exact absurd h h0
  ·rename_i h0;simpa using h0)
 intro x hx
 obtain⟨h1,h2⟩:=Q4f (hz x hx)
 exact⟨h2,fun h=>by simp[Q3h]at h1;omega⟩
theorem Q83{fs:List FnD}{f:FnD}(h:FnOkD fs f):allT (FragU (funsD fs) false) (grow f.body):=by
 have ht:=Q2x h.b
 refine Qan ht fun x hx=>?_
 obtain⟨h2,hno⟩:=Q82 h x hx
 have N:=nodeU ht h.okb hx h2
 refine⟨N.sh,fun h=>absurd (.inr (.inr h)) hno,N.bl,N.al,N.ab,N.kl,N.wd,N.rc,fun ho=>?_,fun ho=>?_,N.sl,N.rb,N.rn⟩
 ·obtain⟨i,g,hn,hg,_,_⟩:=h.c x hx ho
  show 0<=x.n/\x.n < ((funsD fs).length:Int)
  rw[hn,Q6z]
  have:=(List.getElem?_eq_some_iff.1 hg).1
  omega
 ·obtain⟨i,g,hn,hg,hk,_⟩:=h.c x hx (.inl ho)
  show ((funsD fs).getD x.n.toNat ⟨[],default⟩).params.length=(labE f.body x).ops.length
  rw[hn,Int.toNat_natCast,List.getD_eq_getElem?_getD,funsD,List.getElem?_map,hg]
  simp[funD,labE,hk ho]
theorem PrgOk.fnsU{fs:List FnD}{main:Nat}(h:PrgOk fs main):FnsU (funsD fs) false where
 b:=fun g hg=>by
  obtain⟨f,hf,rfl⟩:=List.mem_map.1 hg
  exact Q83 (h.b f hf)
 p:=fun g hg=>by
  obtain⟨f,hf,rfl⟩:=List.mem_map.1 hg
  have:=(h.b f hf).pl
  show f.params.length<=1048576
  omega
theorem Qap{fu:Int}{fs:List FnD}{main:Nat}(h:PrgOk fs main)(hfu:1<=fu/\fu<=1000000){f0:FnD}(hf0:fs[main]?=some f0){R:Rs}(hR:EndsM fu (funsD fs) (initM (grow f0.body)) R):
  APure Tryz.prog Γc 18 [.agg [.sl 3 (fs.map encF),int (main:Int)],.one (int fu)] (resF R):=by
 have hfl:=h.l
 have hfr:=Q83 (h.b f0 (List.mem_of_getElem? hf0))
 have hwh:=Q9k h.fnsU hfu MoreU.no hfr (RunInv.no h.fnsU) (Q95 hfr) hR
 intro ou
 refine AFn.walk 53 tabOk Tryz.func18 rfl (by kernel_rfl) rfl rfl fun hou=>?_
 refine zA ?_
 refine ACode.grow 2 7 97 2 rfl rfl ?_
 refine ACode.loopR hΓc (α:=Nat) (fun j=>[(16,.one (int j)),(15,.one (int (fs.map encF).length)),(14,.one (.sl 3 (fs.map encF))),(7,.one (.ptr (.l 2) 0)),(4,.one (.ptr (.l 1) 0)),(2,.one (.ptr (.l 0) 0)),(6,.one (int 0)),(5,.one (int 0))])
  (fun j=>⟨4,[(3,.tok 97 2 j),(2,.cells [nilPE,nilPE,.lit .nilIface,nilPE,nilS,int 0,int fu,.gs 2 ((funsD (fs.take j)).map cFun) (.l 3)]),(1,.cells [nilS,int 0,int 0]),(0,.cells [.sl 3 (fs.map encF),int (main:Int)])],ou⟩) (fun m j=>j<=fs.length/\m=fs.length - j) (a0:=0) (ρ:=_root_.id) ⟨by omega,rfl⟩
  (LessR.of rfl zFS (by simp) ?_ rfl rfl hou) fun m j hj=>?_
 ·repeat' first|exact LoSub.nil|refine zlc ?_|refine zld ?_ ?_|rfl
  all_goals (simp[AObj.ren,renL,AC.ren];rfl)
 obtain⟨hjl,rfl⟩:=hj
 refine zA ?_
 refine ACode.cond rfl (fun hb2=>?_) (fun hb2=>?_)
 ·have hlt:j < fs.length:=by simpa using hb2
  obtain⟨x,hx⟩:=Q01 hlt
  have hxb:=h.b x (List.mem_of_getElem? hx)
  have t1:=Q2x hxb.b
  have hgr:=Q9i hΓc x.body hxb.okb.eo t1.k t1.ne
  have hjl2:((funsD (fs.take j)).map cFun).length=j:=by simp[Q6z];omega
  refine zA ?_
  refine zS (zIA rfl rfl rfl (by omega) (Q06 hx)) ?_
  refine zA ?_
  refine ACode.drawXH (va:=.one (.gs 2 ((funsD (fs.take j)).map cFun++[cFun (funD x)]) (.l 5))) (σ1:=((((St.mk 4 [(3,.tok 97 2 j),(2,.cells [nilPE,nilPE,.lit .nilIface,nilPE,nilS,int 0,int fu,.gs 2 ((funsD (fs.take j)).map cFun) (.l 3)]),(1,.cells [nilS,int 0,int 0]),(0,.cells [.sl 3 (fs.map encF),int (main:Int)])] ou).push (.cells (ti36.zero.map .lit))).set (.l 4) (.cells (encF x))).set (.l 3) .dead).push (.tok 97 2 ((funsD (fs.take j)).map cFun++[cFun (funD x)]).length))
   tabOk 13 12 [(9,.one (.box (cTr (grow x.body))))] follows (by kernel_rfl) rfl rfl rfl rfl rfl rfl rfl ?_ ?_ ?_ ?_
  ·refine HStep.plain rfl (AStep.append (s:=2) (es:=(funsD (fs.take j)).map cFun) (news:=[cFun (funD x)]) (ti:=ti70) (σ:=((St.mk 4 [(3,.tok 97 2 j),(2,.cells [nilPE,nilPE,.lit .nilIface,nilPE,nilS,int 0,int fu,.gs 2 ((funsD (fs.take j)).map cFun) (.l 3)]),(1,.cells [nilS,int 0,int 0]),(0,.cells [.sl 3 (fs.map encF),int (main:Int)])] ou).push (.cells (ti36.zero.map .lit))).set (.l 4) (.cells (encF x))) tabOk rfl rfl rfl rfl rfl rfl (Base.gs' _ 97 2 ((funsD (fs.take j)).map cFun) (.l 3) rfl hjl2.symm) (.sl _ _) rfl ?_ ?_)
   ·rw[hjl2];show (j+1) * 32<=_;omega
   ·rw[hjl2];show j+1<=_;omega
  ·exact .call hΓc hgr hou (by simp) rfl rfl rfl rfl rfl rfl .nil
  ·exact .call hΓc hgr hou (by simp) rfl rfl rfl rfl rfl rfl .nil
  refine zM ?_
  refine cInv ⟨fs.length - (j+1),j+1,fun k=>if k=3 then 5 else k,by omega,⟨by omega,rfl⟩,LessR.of rfl zFS (by simp) ?_ rfl rfl hou⟩
  repeat' first|exact LoSub.nil|refine zlc ?_|refine zld ?_ ?_|rfl
  ·simp only[AObj.ren,List.length_append,hjl2];rfl
  ·rw[Q80 hx];simp only[AObj.ren,renL,AC.ren,Q9w];rw[List.map_append];rfl
 have hlt:j=fs.length:=by simp at hb2;omega
 subst hlt
 rw[List.take_length]
 refine zA ?_
 refine ACode.wkObj (.l 2) rfl (cs':=[nilPE,nilPE,.lit .nilIface,nilPE,nilS,int 0,int fu,.sl 2 ((funsD fs).map cFun)]) (fun w C xs h=>(show WkL _ _ from .cons (.refl _) (.cons (.refl _) (.cons (.refl _) (.cons (.refl _) (.cons (.refl _) (.cons (.refl _) (.cons (.refl _) (.cons (.gsE rfl) .nil)))))))) w C xs h) ?_
 refine ACode.drawX tabOk 12 [(7,.one (.box (cFun (funD f0))))] follows (by kernel_rfl) rfl rfl rfl rfl ?_ ?_
 ·exact .step rfl (zHP (zIA rfl rfl rfl (Int.natCast_nonneg main) (Qd7 hf0))) .nil
 repeat ((fail_if_success ((with_reducible refine oj ?_);refine AOps.atDst 49 rfl ?_));first|refine zO ?_)
 refine AOps.growO 2 4 3 1 rfl rfl ?_
 refine AOps.callR [.l 2,.l 4] [.one (.ptr (.o 0) 0)] [.cells (mC (.box (cTr (grow f0.body))) nilPE (.lit .nilIface) nilPE [] 0 fu ⟨.sl 2 ((funsD fs).map cFun),1⟩),.tok 3 1 0] hΓcF rfl rfl rfl rfl rfl rfl ?_ ?_ ?_ ?_ ?_ hwh ?_
 ·rfl
 ·simp[inO]
 ·simp
 ·refine⟨?_,rfl,trivial⟩
  simp only[AObj.sub,mC,subL,AC.sub,nameOf,List.map_nil,subS]
  rw[Q1e _ _ (by simp),Q4s _ _ (Q48 _ _)]
  rfl
 ·simp[inO,mC]
  exact Q48 _ _
 intro r ou' hq
 obtain⟨rfl,rfl⟩:=hq
 refine⟨[.dead,.dead],rfl,rfl,by simp,Q3a _ _,?_⟩
 rw[show FV.sub (nameOf [.l 2,.l 4]) (resF R)=resF R from FV.sub_pure _ _ (Q3a _ _)]
 refine zA ?_
 exact APure.fin rfl (WkF.ofEq rfl) (Q3a _ _) hou rfl
theorem Qgv{fu:Int}{fs:List FnD}{main:Nat}(h:PrgOk fs main)(hfu:1<=fu/\fu<=1000000){f0:FnD}(hf0:fs[main]?=some f0){R:Rs}(hR:EndsM fu (funsD fs) (initM (grow f0.body)) R):
  APure Tryz.prog Γc 7 [.agg [.sl 3 (fs.map encF),int (main:Int)],.one (int fu)] (resF R):=by
 intro ou
 refine AFn.walk 27 tabOk Tryz.func7 rfl (by kernel_rfl) rfl rfl fun hou=>?_
 refine zA ?_
 refine zca hΓc (Q73 fs main h) hou ?_
 refine zM ?_
 have hf1:decide (fu < 1)=false:=by simp;omega
 refine AOps.wk 16 rfl (y:=.one (.lit (.bool false))) (.ofEq (by show FV.one (.lit (.bool (decide (fu < 1))))=_;rw[hf1])) ?_
 refine zM ?_
 refine ACode.cond rfl (fun hb=>absurd (show 1000000 < fu by simpa using hb) (by omega)) (fun _=>?_)
 refine zM ?_
 refine zca hΓc (Qap h hfu hf0 hR) hou ?_
 refine zM ?_
 exact APure.fin rfl (WkF.ofEq rfl) (Q3a _ _) hou rfl
end Go.Proofs.YtkgjldchcbfpnaaGreatDoor
namespace Go.CoreX
section
variable {G:GP}(hG:GPok G)(h0:G.fns=[])
include hG h0
omit hG in
theorem Qh4(fns:List Fun){m:Ms}{f:Vl}{args:List Vl}(h:gV G f):callM fns m f args=callM [] m f args:=by
 cases f <;> try rfl
 rename_i n sl
 have:=h.1
 rw[h0]at this
 simp at this
 omega
theorem Qcu(fns:List Fun){fu:Int}{m:Ms}{f:Fm}{k:List Fm}(ht:allT G.p f.t)(hd:gVs G f.done):kidM fu fns m f k=kidM fu [] m f k:=by
 have hc:=hG.cl _ (Q0w ht)
 rw[h0]at hc
 simp only[List.length_nil]at hc
 unfold kidM
 rw[Qh4 h0 fns (Q2e hd 0)]
 by_cases h14:f.t.op=14
 ·exact absurd (hc (.inl h14)) (by omega)
 ·simp only[if_neg h14]
theorem Qdk(fns:List Fun){fu:Int}{m:Ms}{t:Tr}{e:En}(ht:allT G.p t):Q0h fu fns m t e=Q0h fu [] m t e:=by
 unfold Q0h
 rw[Qcu hG h0 fns (f:=.mk t e []) ht (by simp[gVs])]
theorem Qf9(fns:List Fun){fu:Int}{m:Ms}(h:gM G m):Q0c fu fns m=Q0c fu [] m:=by
 have hc:=h.c
 have hk:=h.k
 unfold Q0c
 split
 ·rename_i v hv
  split
  ·rfl
  ·rename_i f k hf
   rw[hv]at hc
   rw[hf]at hk
   have h1:=Qgr.1 hk.1
   rw[Qcu hG h0 fns (f:=.mk f.t f.e (f.done++[v])) h1.1 (Q6x h1.2.2.1 ⟨hc,trivial⟩)]
 ·rename_i t e hv
  rw[hv]at hc
  rw[Qdk hG h0 fns hc.1]
theorem Qgp(fns:List Fun){fu:Int}:∀{g:Nat}{m:Ms},gM G m->goM fu fns g m=goM fu [] g m
 |0,_,_=>rfl
 |g+1,m,h=>by
  simp only[goM]
  rw[Qf9 hG h0 fns h]
  cases hr:Q0c fu [] m with
  |next m'=>
   have hr':Q0c fu G.fns m=.next m':=by rw[h0];exact hr
   exact Qgp fns (Q47 hG h hr')
  |_=>rfl
theorem EndsM.fns(fns:List Fun){fu:Int}{m:Ms}{R:Rs}(h:gM G m)(he:EndsM fu [] m R):EndsM fu fns m R:=by
 obtain⟨g,hg⟩:=he
 exact⟨g,by rw[Qgp hG h0 fns h];exact hg⟩
end
end Go.CoreX
namespace Go.Proofs.YtkgjldchcbfpnaaGreatDoor
open Go Go.Abs Go.CoreX
theorem Qbs(e:List Ex)(he:okB e):APure Tryz.prog Γc 4 [.one (.sl 5 (e.map cEx))] (.one (.lit (.bool true))):=by
 have hel:=he.eo.l
 intro ou
 refine AFn.walk 49 tabOk Tryz.func4 rfl (by kernel_rfl) rfl rfl fun hou=>?_
 repeat ((fail_if_success ((with_reducible refine oj ?_);refine AOps.atDst 12 rfl ?_));first|refine zO ?_)
 refine AOps.wk 11 rfl (y:=.agg (encF ⟨-1,[],e⟩)) (.agg (.cons (.refl _) (.cons (.nilS 1) (.cons (.refl _) .nil)))) ?_
 refine zM ?_
 refine zca hΓc Qbe hou ?_
 refine zM ?_
 refine zca hΓc (Q9j e he) hou ?_
 repeat ((fail_if_success ((with_reducible refine oj ?_);refine AOps.atDst 19 rfl ?_));first|refine zO ?_)
 by_cases hc:check e=0
 ·refine AOps.wk 18 rfl (y:=.one (.lit (.bool false))) (.ofEq (by simp[hc])) ?_
  refine zM ?_
  by_cases hv:PrgOk [⟨-1,[],e⟩] 0
  ·have hf:FnOkD [⟨-1,[],e⟩] ⟨-1,[],e⟩:=hv.b _ (by simp)
   have hnp:∀x∈e,¬(x.op=12∨x.op=13):=fun x hx h=>(Q82 hf x hx).2 (.inr (.inr h))
   have hE:evalE e 3000=evalT (grow e) 3000:=by
    unfold evalE
    rw[if_neg (by simpa using hc),if_neg (by omega)]
   have hR1:=RunE_ok he hnp 3000
   rw[hE]at hR1
   have hfr:=Q88 hc he (hi:=false) (fun x hx h=>absurd h (hnp x hx)) []
   have hR0:=Q85 (grow e) (fu:=3000) (by omega)
   have hR2:=EndsM.fns (G:=GU [] false) (GUok ⟨fun f h=>(by cases h),fun f h=>(by cases h)⟩) rfl (funsD [⟨-1,[],e⟩]) (Q95 hfr) hR0
   have hP:=Qgv hv (show 1<=(3000:Int)/\(3000:Int)<=1000000 by omega) (f0:=⟨-1,[],e⟩) rfl hR2
   have hout:(evalT (grow e) 3000).out.length<=1048576:=by
    obtain⟨g,r,hg,hr⟩:=Qd2 hR0
    rw[←hr]
    exact Q6w hg (by simp[initM])
   generalize evalT (grow e) 3000=R at hR1 hP hout
   refine zca hΓc (Q73 _ 0 hv) hou ?_
   refine zM ?_
   refine zca hΓc hR1 hou ?_
   refine zM ?_
   refine zca hΓc hP hou ?_
   repeat ((fail_if_success ((with_reducible refine oj ?_);refine AOps.atDst 39 rfl ?_));first|refine zO ?_)
   refine AOps.wk 38 rfl (y:=.one (.lit (.bool true))) (.ofEq (by simp)) ?_
   repeat ((fail_if_success ((with_reducible refine oj ?_);refine AOps.atDst 43 rfl ?_));first|refine zO ?_)
   refine AOps.wk 42 rfl (y:=.one (.lit (.bool true))) (.ofEq (by simp)) ?_
   refine zM ?_
   refine AOps.callC hΓc (Qbq R R hout) rfl rfl rfl rfl rfl rfl rfl hou (by simp[resA]) ?_
   refine zM ?_
   exact APure.fin rfl (WkF.ofEq (by simp)) (by simp) hou rfl
  ·refine AOps.call1 hΓc rfl rfl rfl rfl rfl rfl rfl (by simp[idsF]) hou (Qio [⟨-1,[],e⟩] (by simp) (fun f hf=>by rw[List.mem_singleton.1 hf];exact⟨by simp,.ofB he⟩) 0 ou) fun r ou' hq _ how=>?_
   obtain⟨⟨k,rfl,hk⟩,rfl⟩:=hq
   have hk0:k≠0:=fun h0=>by
    obtain⟨mn,hm,hp⟩:=hk h0
    obtain rfl:mn=0:=by omega
    exact hv hp
   repeat ((fail_if_success ((with_reducible refine oj ?_);refine AOps.atDst 23 rfl ?_));first|refine zO ?_)
   refine AOps.wk 22 rfl (y:=.one (.lit (.bool true))) (.ofEq (by simp[hk0])) ?_
   refine zM ?_
   exact APure.fin rfl (WkF.ofEq rfl) (by simp) hou rfl
 ·refine AOps.wk 18 rfl (y:=.one (.lit (.bool true))) (.ofEq (by simp[hc])) ?_
  refine zM ?_
  exact APure.fin rfl (WkF.ofEq rfl) (by simp) hou rfl
end Go.Proofs.YtkgjldchcbfpnaaGreatDoor
