/- Closure conversion: a node, walked. -/
import Derived.Test.YtkgjldchcbfpnaaGreatDoorK11
import Derived.KernelRfl
set_option maxRecDepth 10000
set_option linter.unusedVariables false
set_option linter.unusedSimpArgs false
namespace Go.Proofs.YtkgjldchcbfpnaaGreatDoor
open Go Go.Abs Go.CoreX
structure TrOk (n:Nat)(t:Tr):Prop where
 c:cntN t<=n
 c4:cntN t<=4096
 fr:allT FragC t
 ok:okT t
 d:Q2b t<=1048576
theorem TrOk.kid{n:Nat}{o x:Int}{b:List Int}{ks:List Tr}{al:List Alt}(h:TrOk (n+1) (.mk o x b ks al)){t:Tr}(ht:t∈ks):TrOk n t:=by
 have h1:=Q5y ht
 have h2:=h.c
 have h3:=h.c4
 simp only[cntN]at h2 h3
 exact⟨by omega,by omega,Q5g h.fr ht,Q8f h.ok t ht,by have:=Q8z (o:=o) (n:=x) (b:=b) (a:=al) ht;have:=h.d;omega⟩
theorem TrOk.lam{n:Nat}{f:Tr}(h:TrOk n f)(hl:IsLam f):TrOk n (f.kids.getD 0 default)/\cntN (f.kids.getD 0 default)+1<=cntN f:=by
 obtain⟨o,x,b,ks,al⟩:=f
 obtain⟨ho,t,hk⟩:=hl
 simp only[Tr.kids]at hk
 subst hk
 have h1:=h.c
 have h2:=h.c4
 simp only[cntN,cntNs]at h1 h2
 exact⟨⟨by simp only[Tr.kids,List.getD_cons_zero];omega,by simp only[Tr.kids,List.getD_cons_zero];omega,Q5g h.fr (.head _),Q8f h.ok t (.head _),by have:=Q8z (o:=o) (n:=x) (b:=b) (a:=al) (List.mem_singleton.2 rfl:t∈[t]);have:=h.d;simp only[Tr.kids,List.getD_cons_zero];omega⟩,by simp only[Tr.kids,List.getD_cons_zero,cntN,cntNs];omega⟩
set_option maxHeartbeats 4000000 in
theorem Q2n:∀(n:Nat)(t:Tr),TrOk n t->CvOk n t
 |0,t,h=>by have:=Q4i t;have:=h.c;omega
 |n+1,.mk o x bs ks al,h=>by
  intro s b ou kb kf cap ksc hsm hb hs hB
  have ih:∀t∈ks,CvOk n t:=fun t ht=>Q2n n t (h.kid ht)
  have ihl:∀f,TrOk (n+1) f->IsLam f->CvOk n (f.kids.getD 0 default):=fun f hf hl=>by
   obtain⟨h1,h2⟩:=hf.lam hl
   have h3:=hf.c
   exact Q2n n _ ⟨by omega,h1.c4,h1.fr,h1.ok,h1.d⟩
  have F:=Q10 h.fr
  have hkl:ks.length<=4096:=by have:=Q4s ks;have:=h.c4;simp only[cntN]at this;omega
  refine AFn.walk 205 tabOk Tryz.func27 rfl (by kernel_rfl) rfl rfl fun hou=>?_
  by_cases e0:o=0
  ·subst e0
   have hcv:cv (n+1) s (.mk 0 x bs ks al) b=(varC s x,b):=by simp[cv]
   rw[hcv]
   refine zA ?_
   refine AOps.callK hΓc (Q84 s hsm hs x) rfl rfl rfl rfl rfl rfl rfl hou (by simp[idsF]) ?_
   refine zA ?_
   exact AFn.fin' rfl (.refl _) (by simp) hou ⟨rfl,kf,cap,hb,Kp.refl _ _ _⟩
  by_cases e2:o=2
  ·subst e2
   have hcv:cv (n+1) s (.mk 2 x bs ks al) b=(closC (b.fns.length:Int) (outside [.mk 2 x bs ks al] []) s,fnsM (cv n) [.mk 2 x bs ks al] [] [-1] b):=by simp[cv]
   rw[hcv]
   have hl:IsLam (.mk 2 x bs ks al):=Q2e h.fr rfl
   have hfs:FsOk n [.mk 2 x bs ks al]:=by
    have h2:=h.lam hl
    have h3:=h.c
    exact⟨fun f hf=>by simp at hf;subst hf;exact hl,fun f hf=>by simp at hf;subst hf;exact h.fr,fun f hf=>by simp at hf;subst hf;exact⟨h.ok,h.d⟩,by have:=h.c4;simp only[cntNs];omega,fun f hf=>by simp at hf;subst hf;omega,fun f hf=>by simp at hf;subst hf;exact ihl _ h hl⟩
   have hfn:=Q4v hfs [] [-1] (by simp) (by simp) (by simp) b ou kb kf cap hb ⟨hB.n0,by have:=hB.n1;simpa[cntNs]using this,by have:=hB.l;simpa[cntNs]using this⟩
   have hfn2:=hfn.wkArgs (xs:=[.one (.ptr (.o kb) 0),.one (.sl 1 [[.box (cTr (.mk 2 x bs ks al))]]),.one nilS2,.one (.sl 1 [[int (-1)]])]) (.cons (.refl _) (.cons (.refl _) (.cons (.one (.nilS 1)) (.cons (.refl _) .nil))))
   refine zA ?_
   refine AOps.call1 hΓc rfl rfl rfl rfl rfl rfl rfl (by simp[idsF]) hou hfn2 fun r ou' hq _ how=>?_
   obtain⟨rfl,kf',cap',hb',hk'⟩:=hq
   have hs':=hs.keep hb hk'
   refine zA ?_
   refine zS (AStep.indexAddr (n:=0) (e:=cI ((b.fns.length:Nat):Int)) tabOk rfl rfl rfl rfl rfl rfl (.inl rfl) rfl (by decide) rfl) ?_
   refine zA ?_
   have hol:=Q1x [.mk 2 x bs ks al] []
   refine AOps.callK hΓc (Q79 s hsm hs' (b.fns.length:Int) (outside [.mk 2 x bs ks al] []) (by have:=h.c4;simp only[cntNs]at hol;omega)) rfl rfl rfl rfl rfl rfl rfl how (by simp[idsF]) ?_
   refine zA ?_
   exact AFn.fin' rfl (.refl _) (by simp) how ⟨rfl,kf',cap',hb',hk'⟩
  by_cases e5:o=5
  ·subst e5
   have hcv:cv (n+1) s (.mk 5 x bs ks al) b=(letsC b.fns.length (outside (ks.take bs.length) bs) s bs bs.length (cv n s (ks.getD bs.length default) (fnsM (cv n) (ks.take bs.length) bs bs b)).1,(cv n s (ks.getD bs.length default) (fnsM (cv n) (ks.take bs.length) bs bs b)).2):=by simp[cv]
   rw[hcv]
   have hsh:ShN 5 x bs (ks.map Tr.op).length al:=F.sh
   have hkb:ks.length=bs.length+1:=by have:=hsh.recs.1;simpa using this
   have hbl:bs.length<=4096:=by omega
   have hmem:∀f∈ks.take bs.length,f∈ks:=fun f hf=>List.mem_of_mem_take hf
   have hlam:∀f∈ks.take bs.length,IsLam f:=fun f hf=>Q2e (h.kid (hmem f hf)).fr (Qak (F.rc rfl) f hf)
   have htk:(ks.take bs.length).length=bs.length:=by simp;omega
   have hcs0:cntNs ks=cntNs (ks.take bs.length)+cntNs (ks.drop bs.length):=by conv=>lhs;rw[←List.take_append_drop bs.length ks,Q37]
   have hc4:=h.c4
   simp only[cntN]at hc4
   have hfs:FsOk n (ks.take bs.length):=⟨hlam,fun f hf=>(h.kid (hmem f hf)).fr,fun f hf=>⟨(h.kid (hmem f hf)).ok,(h.kid (hmem f hf)).d⟩,by omega,fun f hf=>by
    obtain⟨h1,h2⟩:=(h.kid (hmem f hf)).lam (hlam f hf);exact h1.c,fun f hf=>Q2n n _ ((h.kid (hmem f hf)).lam (hlam f hf)).1⟩
   have hn1:=hB.n1
   have hnl:=hB.l
   simp only[cntN]at hn1 hnl
   have hfn:=Q4v hfs bs bs hbl (by omega) (by omega) b ou kb kf cap hb ⟨hB.n0,by omega,by omega⟩
   have hmov:=Q4e (cv:=cv n) (group:=bs) (names:=bs) hlam (fun f hf s b=>by
    obtain⟨h1,h2⟩:=(h.kid (hmem f hf)).lam (hlam f hf)
    exact Q41 n _ h1.c h1.fr s b) b
   have hls:=Q40 (ks.take bs.length)
   obtain⟨tk,htkk⟩:=Q01 (l:=ks) (i:=bs.length) (by omega)
   have htkd:ks.getD bs.length default=tk:=by rw[List.getD_eq_getElem?_getD,htkk];rfl
   have htkm:=List.mem_of_getElem? htkk
   have hol:=Q1x (ks.take bs.length) bs
   rw[htkd]
   rw[htk]at hfn
   obtain⟨b2,hb2e⟩:∃b2,b2=fnsM (cv n) (ks.take bs.length) bs bs b:=⟨_,rfl⟩
   obtain⟨needs,hnee⟩:∃needs,needs=outside (ks.take bs.length) bs:=⟨_,rfl⟩
   obtain⟨nums,hnum⟩:∃nums,nums=numsL b.fns.length bs.length:=⟨_,rfl⟩
   rw[←hb2e]at hfn hmov ⊢
   rw[←hnee]at hfn hol ⊢
   rw[←hnum]at hfn
   have hcT:cntNs (ks.drop bs.length)=cntN tk:=by
    rw[List.drop_eq_getElem_cons (by omega),List.drop_eq_nil_of_le (by omega)]
    rw[List.getElem?_eq_getElem (by omega)]at htkk
    rw[Option.some.inj htkk];simp[cntNs]
   have htc:=Q2n n tk (h.kid htkm)
   refine zA ?_
   refine ACode.drawXR (va:=.tup [.one (.sl 1 (nums.map cI)),.one (.sl 1 (needs.map cI))]) tabOk 24 19 [(10,.one (.sl 1 ((ks.take bs.length).map cB)))]
    (fun σ=>∃o' kf' cap',BR o' kb kf' cap' b2/\Kp ou o' kb kf kf'/\OuOk o'/\σ=⟨0,[],o'⟩)
    follows (by kernel_rfl) rfl rfl rfl rfl rfl ?_ rfl ⟨rfl,rfl⟩ rfl ?_ ?_ ?_ ?_
   ·rintro σ ⟨o',kf',cap',_,_,_,rfl⟩;rfl
   ·have hid:idsS isO (List.map cB (List.take bs.length ks)):=Qjt _ _
    refine Q0n.call hΓc rfl rfl rfl rfl ⟨trivial,hid,Qb8 _ _,Qb8 _ _,trivial⟩ hou hfn fun r ou' hq _ how=>?_
    obtain⟨rfl,kf',cap',h1,h2⟩:=hq
    exact⟨rfl,ou',kf',cap',h1,h2,how,rfl⟩
   ·exact .step rfl (zHP (AStep.wk (AStep.sliceTo (b:=(bs.map cI).length) (es:=Q0v ks) tabOk rfl rfl rfl rfl rfl rfl (by rw[Q0k];simp;omega)) (.ofEq (by rw[Q0k,List.length_map,List.map_take])))) .nil
   ·rintro σ ⟨o',kf',cap',_,_,_,rfl⟩
    exact .step rfl (zHP (AStep.wk (AStep.sliceTo (b:=(bs.map cI).length) (es:=Q0v ks) tabOk rfl rfl rfl rfl rfl rfl (by rw[Q0k];simp;omega)) (.ofEq (by rw[Q0k,List.length_map,List.map_take])))) .nil
   rintro σ ⟨o1,kf1,cap1,hb1,hk1,ho1,rfl⟩
   have hs1:=hs.keep hb hk1
   have hca:=htc s b2 o1 kb kf1 cap1 ksc hsm hb1 hs1 ⟨by have:=hB.n0;have:=hmov.nx;omega,by have:=hmov.nx;omega,by have:=hmov.len;omega⟩
   have hkk:(Q0v ks)[(bs.map cI).length]?=some [.box (cTr tk)]:=by rw[List.length_map];exact Q0u htkk
   refine zA ?_
   refine ACode.drawXR (va:=.one (.box (cTr (cv n s tk b2).1))) tabOk 14 13 [(10,.one (.box [.box (cTr tk)]))]
    (fun σ=>∃o' kf' cap',BR o' kb kf' cap' (cv n s tk b2).2/\Kp o1 o' kb kf1 kf'/\OuOk o'/\σ=⟨0,[],o'⟩)
    follows (by kernel_rfl) rfl rfl rfl rfl rfl ?_ rfl ⟨rfl,rfl⟩ rfl ?_ ?_ ?_ ?_
   ·rintro σ ⟨o',kf',cap',_,_,_,rfl⟩;rfl
   ·refine Q0n.call hΓc rfl rfl rfl rfl (by simp[idsF]) ho1 hca fun r ou' hq _ how=>?_
    obtain⟨rfl,kf',cap',h1,h2⟩:=hq
    exact⟨rfl,ou',kf',cap',h1,h2,how,rfl⟩
   ·exact .step rfl (zHP (zIA rfl rfl rfl (Int.natCast_nonneg _) hkk)) .nil
   ·rintro σ ⟨o',kf',cap',_,_,_,rfl⟩
    exact .step rfl (zHP (zIA rfl rfl rfl (Int.natCast_nonneg _) hkk)) .nil
   rintro σ ⟨o2,kf2,cap2,hb2,hk2,ho2,rfl⟩
   have hs2:=hs1.keep hb1 hk2
   have hk12:=hk1.trans hk2 (by rw[hb1.m];simp)
   refine zM ?_
   obtain⟨q0,hq0⟩:∃q0,q0=(cv n s tk b2).1:=⟨_,rfl⟩
   rw[←hq0]
   obtain⟨L,hL⟩:∃L,L=letsC b.fns.length needs s bs bs.length q0:=⟨_,rfl⟩
   rw[←hL]
   refine ACode.loopR hΓc (α:=Nat×Tr) (fun c=>[(12,.one (int ((c.1:Int) - 1))),(11,.one (.box (cTr c.2))),(10,.one (.sl 1 (needs.map cI))),(9,.one (.sl 1 (nums.map cI))),(2,.one (.ptr (.o ksc) 0)),(1,.one (.box (cTr (.mk 5 x bs ks al))))])
    (fun c=>⟨0,[],o2⟩) (fun m c=>c.1<=bs.length/\letsC b.fns.length needs s bs c.1 c.2=L/\m=c.1) (a0:=(bs.length,q0)) (ρ:=_root_.id) ⟨Nat.le_refl _,hL.symm,rfl⟩
    (LessR.of rfl (FrSub.consP rfl (.ofEq (by simp)) (by simp) zFW) (by simp) zLO rfl rfl ho2) fun m c hcc=>?_
   obtain⟨c,cur⟩:=c
   obtain⟨hcl,hcu,hme⟩:=hcc
   dsimp only at hcl hcu
   cases c with
   |zero=>
    have hcu:cur=L:=hcu
    subst hcu
    repeat ((fail_if_success ((with_reducible refine oj ?_);refine AOps.atDst 91 rfl ?_));first|refine zO ?_)
    refine AOps.wk 12 rfl (y:=.one (int (-1))) (.ofEq (by simp)) ?_
    refine zM ?_
    exact AFn.fin' rfl (.refl _) (by simp) ho2 ⟨rfl,kf2,cap2,hb2,hk12⟩
   |succ i=>
    obtain⟨bi,hbi⟩:=Q01 (l:=bs) (i:=i) (by omega)
    have hbd:bs.getD i 0=bi:=by rw[List.getD_eq_getElem?_getD,hbi];rfl
    have hni:nums[i]?=some ((b.fns.length+i:Nat):Int):=by rw[hnum];exact Q6a _ (by omega)
    have hclo:=Q79 s hsm hs2 ((b.fns.length+i:Nat):Int) needs (by omega)
    have hlc:letsC b.fns.length needs s bs i (.mk 4 0 [bi] [closC ((b.fns.length+i:Nat):Int) needs s,cur] [])=L:=by rw[←hcu];simp only[letsC];rw[hbd]
    repeat ((fail_if_success ((with_reducible refine oj ?_);refine AOps.atDst 91 rfl ?_));first|refine zO ?_)
    refine AOps.wk 12 rfl (y:=.one (int (i:Int))) (.ofEq (by simp)) ?_
    refine zA ?_
    refine ACode.drawXH (va:=.one (.ptr (.l 0) 0)) (σ1:=(⟨1,[(0,.cells [int 4,int 0,.sl 1 [cI bi],.sl 1 [cB (closC ((b.fns.length+i:Nat):Int) needs s),cB cur],nilS2])],o2⟩))
     tabOk 19 18 [(6,.one (int ((i+1:Nat):Int))),(7,.one (.sl 1 [cI bi])),(10,.one (.box [int ((b.fns.length+i:Nat):Int)])),(14,.one (.box (cTr (closC ((b.fns.length+i:Nat):Int) needs s))))] follows (by kernel_rfl) rfl rfl rfl rfl rfl rfl rfl (HStep.auto tabOk rfl) ?_ ?_ ?_
    ·exact .step rfl (zHP (AStep.wk (AStep.arith rfl rfl rfl (.inl ⟨rfl,rfl⟩) zI) (.ofEq (by simp)))) (.step rfl (zHP (AStep.sliceOne (a:=i) tabOk rfl rfl rfl rfl rfl rfl rfl rfl (Q06 hbi))) (.step rfl (zHP (zIA rfl rfl rfl (Int.natCast_nonneg i) (Q06 hni))) (.callK hΓc hclo ho2 (by simp[idsF]) rfl rfl rfl rfl rfl rfl .nil)))
    ·exact .step rfl (zHP (AStep.wk (AStep.arith rfl rfl rfl (.inl ⟨rfl,rfl⟩) zI) (.ofEq (by simp)))) (.step rfl (zHP (AStep.sliceOne (a:=i) tabOk rfl rfl rfl rfl rfl rfl rfl rfl (Q06 hbi))) (.step rfl (zHP (zIA rfl rfl rfl (Int.natCast_nonneg i) (Q06 hni))) (.callK hΓc hclo ho2 (by simp[idsF]) rfl rfl rfl rfl rfl rfl .nil)))
    refine AOps.freeze1 (.l 0) 113 rfl rfl ?_
    refine AOps.wk 113 rfl (y:=.one (.box (cTr (.mk 4 0 [bi] [closC ((b.fns.length+i:Nat):Int) needs s,cur] [])))) (.one (Wk.box (.cons (.refl _) (.cons (.refl _) (.cons (.refl _) (.cons (.ofEq (by rw[show (Tr.mk 4 0 [bi] [closC ((b.fns.length+i:Nat):Int) needs s,cur] []).kids=[closC ((b.fns.length+i:Nat):Int) needs s,cur]from rfl,Q0k];rfl)) (.cons (.nilS 2) .nil))))))) ?_
    refine zM ?_
    exact cInv ⟨i,(i,.mk 4 0 [bi] [closC ((b.fns.length+i:Nat):Int) needs s,cur] []),_root_.id,by omega,⟨by omega,hlc,rfl⟩,LessR.of rfl zFW (by simp) zLO rfl rfl ho2⟩
  have hc4:=h.c4
  have hn1:=hB.n1
  have hnl:=hB.l
  simp only[cntN]at hc4 hn1 hnl
  by_cases e4:o=4/\(ks.getD 0 default).op=2
  ·obtain⟨e4,e40⟩:=e4
   subst e4
   have hsh:ShN 4 x bs (ks.map Tr.op).length al:=F.sh
   have hk2:ks.length=2:=by have:=hsh.lett.1;simpa using this
   have hb1:bs.length=1:=hsh.lett.2.1
   obtain⟨k0,k1,rfl⟩:∃a b,ks=[a,b]:=by match ks,hk2 with|[a,b],_=>exact⟨a,b,rfl⟩
   have e40:k0.op=2:=by simpa using e40
   have hcv:cv (n+1) s (.mk 4 x bs [k0,k1] al) b=(.mk 4 0 bs [closC (b.fns.length:Int) (outside [k0] []) s,(cv n s k1 (fnsM (cv n) [k0] [] bs b)).1] [],(cv n s k1 (fnsM (cv n) [k0] [] bs b)).2):=by simp[cv,e40]
   rw[hcv]
   have hkt:=h.kid (t:=k0) (.head _)
   have hl:IsLam k0:=Q2e hkt.fr e40
   have hfs:FsOk n [k0]:=by
    have h2:=hkt.lam hl
    exact⟨fun f hf=>by simp at hf;subst hf;exact hl,fun f hf=>by simp at hf;subst hf;exact hkt.fr,fun f hf=>by simp at hf;subst hf;exact⟨hkt.ok,hkt.d⟩,by have:=hkt.c4;simp only[cntNs];omega,fun f hf=>by simp at hf;subst hf;exact h2.1.c,fun f hf=>by simp at hf;subst hf;exact Q2n n _ h2.1⟩
   simp only[cntNs]at hc4 hn1 hnl
   have hfn:=Q4v hfs [] bs (by simp) (by simp) (by simp;omega) b ou kb kf cap hb ⟨hB.n0,by simp only[cntNs];omega,by simp only[cntNs];omega⟩
   have hfn2:=hfn.wkArgs (xs:=[.one (.ptr (.o kb) 0),.one (.sl 1 ([k0].map cB)),.one nilS2,.one (.sl 1 (bs.map cI))]) (.cons (.refl _) (.cons (.refl _) (.cons (.one (.nilS 1)) (.cons (.refl _) .nil))))
   have hmov:=Q4e (cv:=cv n) (fns:=[k0]) (group:=[]) (names:=bs) (fun f hf=>by simp at hf;subst hf;exact hl) (fun f hf s b=>by
    simp at hf;subst hf
    obtain⟨h1,h2⟩:=hkt.lam hl
    exact Q41 n _ h1.c h1.fr s b) b
   have hls:=Q40 [k0]
   simp only[cntNs]at hls
   have hol:=Q1x [k0] []
   simp only[cntNs]at hol
   obtain⟨b2,hb2e⟩:∃b2,b2=fnsM (cv n) [k0] [] bs b:=⟨_,rfl⟩
   obtain⟨needs,hnee⟩:∃needs,needs=outside [k0] []:=⟨_,rfl⟩
   rw[←hb2e]at hfn2 hmov ⊢
   rw[←hnee]at hfn2 hol ⊢
   have hk0:(Q0v [k0,k1])[0]?=some [.box (cTr k0)]:=Q0u rfl
   have hk1:(Q0v [k0,k1])[1]?=some [.box (cTr k1)]:=Q0u rfl
   have htc:=Q2n n k1 (h.kid (.tail _ (.head _)))
   repeat ((fail_if_success ((with_reducible refine oj ?_);refine AOps.atDst 121 rfl ?_));first|refine zO ?_)
   refine zS (AStep.indexAddr (n:=0) tabOk rfl rfl rfl rfl rfl rfl (.inl rfl) rfl (by decide) hk0) ?_
   refine zA ?_
   refine ACode.cond rfl (fun _=>?_) (fun hb=>absurd hb (by simp[e40]))
   refine zA ?_
   refine ACode.drawXR (va:=.tup [.one (.sl 1 ((numsL b.fns.length 1).map cI)),.one (.sl 1 (needs.map cI))]) tabOk 15 10 [(5,.one (.sl 1 ([k0].map cB)))]
    (fun σ=>∃o' kf' cap',BR o' kb kf' cap' b2/\Kp ou o' kb kf kf'/\OuOk o'/\σ=⟨0,[],o'⟩)
    follows (by kernel_rfl) rfl rfl rfl rfl rfl ?_ rfl ⟨rfl,rfl⟩ rfl ?_ ?_ ?_ ?_
   ·rintro σ ⟨o',kf',cap',_,_,_,rfl⟩;rfl
   ·refine Q0n.call hΓc rfl rfl rfl rfl (by simp[idsF]) hou hfn2 fun r ou' hq _ how=>?_
    obtain⟨rfl,kf',cap',h1,h2⟩:=hq
    exact⟨rfl,ou',kf',cap',h1,h2,how,rfl⟩
   ·exact .step rfl (zHP (AStep.wk (AStep.sliceTo (b:=1) (es:=Q0v [k0,k1]) tabOk rfl rfl rfl rfl rfl rfl (by rw[Q0k];simp)) (.ofEq (by rw[Q0k];rfl)))) .nil
   ·rintro σ ⟨o',kf',cap',_,_,_,rfl⟩
    exact .step rfl (zHP (AStep.wk (AStep.sliceTo (b:=1) (es:=Q0v [k0,k1]) tabOk rfl rfl rfl rfl rfl rfl (by rw[Q0k];simp)) (.ofEq (by rw[Q0k];rfl)))) .nil
   rintro σ ⟨o1,kf1,cap1,hb1',hk1',ho1,rfl⟩
   have hs1:=hs.keep hb hk1'
   have hn0:=hB.n0
   have hml:=hmov.len
   have hmn:=hmov.nx
   have hca:=htc s b2 o1 kb kf1 cap1 ksc hsm hb1' hs1 ⟨by omega,by omega,by omega⟩
   obtain⟨rt,hrt⟩:∃rt,rt=cv n s k1 b2:=⟨_,rfl⟩
   rw[←hrt]at hca ⊢
   have hclo:∀oo,SR oo ksc s->AFn Tryz.prog Γc 57 [.one (int (b.fns.length:Int)),.one (.sl 1 (needs.map cI)),.one (.ptr (.o ksc) 0)] oo (fun r ou'=>r=.one (.box (cTr (closC (b.fns.length:Int) needs s)))/\ou'=oo):=fun oo hso=>Q79 s hsm hso (b.fns.length:Int) needs (by omega)
   dsimp only
   refine zA ?_
   refine ACode.drawC2 tabOk 22 [18,19,20,21] [(5,.one (.box [int (b.fns.length:Int)])),(9,.one (.box (cTr (closC (b.fns.length:Int) needs s)))),(15,.one (.box [.box (cTr k1)]))] (fun vs σ=>match vs with
    |[]=>σ=⟨0,[],o1⟩
    |[v]=>v=.one (.box (cTr rt.1))/\∃o' kf' cap',BR o' kb kf' cap' rt.2/\Kp o1 o' kb kf1 kf'/\OuOk o'/\σ=⟨0,[],o'⟩
    |[v,w]=>v=.one (.box (cTr rt.1))/\w=.one (.sl 1 [cB (closC (b.fns.length:Int) needs s),cB rt.1])/\∃o' kf' cap',BR o' kb kf' cap' rt.2/\Kp o1 o' kb kf1 kf'/\OuOk o'/\σ=⟨0,[],o'⟩
    |[v,w,y]=>v=.one (.box (cTr rt.1))/\w=.one (.sl 1 [cB (closC (b.fns.length:Int) needs s),cB rt.1])/\y=.agg [int 4,int 0,.sl 1 (bs.map cI),.sl 1 [cB (closC (b.fns.length:Int) needs s),cB rt.1],nilS2]/\∃o' kf' cap',BR o' kb kf' cap' rt.2/\Kp o1 o' kb kf1 kf'/\OuOk o'/\σ=⟨0,[],o'⟩
    |[v,w,y,z]=>v=.one (.box (cTr rt.1))/\w=.one (.sl 1 [cB (closC (b.fns.length:Int) needs s),cB rt.1])/\y=.agg [int 4,int 0,.sl 1 (bs.map cI),.sl 1 [cB (closC (b.fns.length:Int) needs s),cB rt.1],nilS2]/\z=.one (.ptr (.l 0) 0)/\∃o' kf' cap',BR o' kb kf' cap' rt.2/\Kp o1 o' kb kf1 kf'/\OuOk o'/\σ=St.push ⟨0,[],o'⟩ (.cells [int 4,int 0,.sl 1 (bs.map cI),.sl 1 [cB (closC (b.fns.length:Int) needs s),cB rt.1],nilS2])
    |_=>False) follows (by kernel_rfl) rfl rfl (by decide) (by kernel_rfl) (by kernel_rfl) rfl rfl ?_ ?_ (by decide) ?_ ?_
   ·intro vs σ h
    match vs with
    |[]=>subst h;rfl
    |[_]=>obtain⟨_,o',kf',cap',_,_,_,rfl⟩:=h;rfl
    |[_,_]=>obtain⟨_,_,o',kf',cap',_,_,_,rfl⟩:=h;rfl
    |[_,_,_]=>obtain⟨_,_,_,o',kf',cap',_,_,_,rfl⟩:=h;rfl
    |[_,_,_,_]=>obtain⟨_,_,_,_,o',kf',cap',_,_,_,rfl⟩:=h;rfl
    |_::_::_::_::_::_=>exact h.elim
   ·intro vs σ h
    have hso:SR σ.ou ksc s/\OuOk σ.ou:=by
     match vs with
     |[]=>subst h;exact⟨hs1,ho1⟩
     |[_]=>obtain⟨_,o',kf',cap',h1,h2,h3,rfl⟩:=h;exact⟨hs1.keep hb1' h2,h3⟩
     |[_,_]=>obtain⟨_,_,o',kf',cap',h1,h2,h3,rfl⟩:=h;exact⟨hs1.keep hb1' h2,h3⟩
     |[_,_,_]=>obtain⟨_,_,_,o',kf',cap',h1,h2,h3,rfl⟩:=h;exact⟨hs1.keep hb1' h2,h3⟩
     |[_,_,_,_]=>obtain⟨_,_,_,_,o',kf',cap',h1,h2,h3,rfl⟩:=h;exact⟨hs1.keep hb1' h2,h3⟩
     |_::_::_::_::_::_=>exact h.elim
    exact .step rfl (zHP (AStep.indexAddr (n:=0) tabOk rfl rfl rfl rfl rfl rfl (.inl rfl) rfl (by decide) rfl)) (.callK hΓc (hclo _ hso.1) hso.2 (by simp[idsF]) rfl rfl rfl rfl rfl rfl (.step rfl (zHP (AStep.indexAddr (n:=1) tabOk rfl rfl rfl rfl rfl rfl (.inl rfl) rfl (by decide) hk1)) .nil))
   ·intro vs σ h i op hi ho
    match vs with
    |[]=>
     subst h;cases hi;cases ho
     refine⟨rfl,.inl (.inr ⟨rfl,Q0n.call hΓc rfl rfl rfl rfl (by simp[idsF]) ho1 hca fun r ou' hq _ how=>?_⟩)⟩
     obtain⟨rfl,kf',cap',h1,h2⟩:=hq
     exact⟨rfl,ou',kf',cap',h1,h2,how,rfl⟩
    |[_]=>
     obtain⟨rfl,o',kf',cap',h1,h2,h3,rfl⟩:=h;cases hi;cases ho
     exact⟨rfl,.inl (.inl ⟨_,_,HStep.plain rfl (AStep.ofOp tabOk rfl),rfl,rfl,o',kf',cap',h1,h2,h3,rfl⟩)⟩
    |[_,_]=>
     obtain⟨rfl,rfl,o',kf',cap',h1,h2,h3,rfl⟩:=h;cases hi;cases ho
     exact⟨rfl,.inl (.inl ⟨_,_,HStep.plain rfl (AStep.ofOp tabOk rfl),rfl,rfl,rfl,o',kf',cap',h1,h2,h3,rfl⟩)⟩
    |[_,_,_]=>
     obtain⟨rfl,rfl,rfl,o',kf',cap',h1,h2,h3,rfl⟩:=h;cases hi;cases ho
     exact⟨rfl,.inl (.inl ⟨_,_,HStep.auto tabOk rfl,rfl,rfl,rfl,rfl,o',kf',cap',h1,h2,h3,rfl⟩)⟩
    |_::_::_::_::_=>cases hi
   ·intro vs σ hl h
    match vs,hl with
    |[_,_,_,_],_=>
     obtain⟨rfl,rfl,rfl,rfl,o2,kf2,cap2,hb3,hk3,ho3,rfl⟩:=h
     refine AOps.freeze1 (.l 0) 162 rfl rfl ?_
     refine zA ?_
     refine AFn.fin' rfl (.one (Wk.box (.cons (.refl _) (.cons (.refl _) (.cons (.refl _) (.cons (.ofEq (by rw[show (Tr.mk 4 0 bs [closC (b.fns.length:Int) needs s,rt.1] []).kids=[closC (b.fns.length:Int) needs s,rt.1]from rfl,Q0k];rfl)) (.cons (.nilS 2) .nil))))))) (by simp) ho3 ⟨rfl,kf2,cap2,hb3,hk1'.trans hk3 (by rw[hb1'.m];simp)⟩
  have hcv:cv (n+1) s (.mk o x bs ks al) b=(.mk o x bs (Q0w (cv n s) ks ks.length b).1 al,(Q0w (cv n s) ks ks.length b).2):=by simp only[cv];rw[if_neg e0,if_neg e2,if_neg e5,if_neg e4]
  rw[hcv]
  refine zA ?_
  refine ACode.cutN 1 rfl hΓc (α:=Unit) (fun _=>[(2,.one (.ptr (.o ksc) 0)),(1,.one (.box (cTr (.mk o x bs ks al)))),(0,.one (.ptr (.o kb) 0))]) (fun _=>⟨0,[],ou⟩) (fun _=>True) ?_ fun _ _=>?_
  ·dsimp only [List.take_succ_cons,List.take_zero,List.cons_append,List.nil_append]
   refine ACode.cond rfl (fun hb=>absurd hb (by simpa using e0)) (fun _=>?_)
   refine zA ?_
   refine ACode.cond rfl (fun hb=>absurd hb (by simpa using e2)) (fun _=>?_)
   refine zA ?_
   refine ACode.cond rfl (fun hb=>absurd hb (by simpa using e5)) (fun _=>?_)
   refine zA ?_
   refine ACode.cond rfl (fun hb4=>?_) (fun _=>?_)
   ·have h4:o=4:=by simpa using hb4
    subst h4
    have hsh:ShN 4 x bs (ks.map Tr.op).length al:=F.sh
    have hk2:ks.length=2:=by have:=hsh.lett.1;simpa using this
    obtain⟨k0,k1,rfl⟩:∃a b,ks=[a,b]:=by match ks,hk2 with|[a,b],_=>exact⟨a,b,rfl⟩
    have hk0:(Q0v [k0,k1])[0]?=some [.box (cTr k0)]:=Q0u rfl
    have e40:k0.op≠2:=fun e=>e4 ⟨rfl,by simpa using e⟩
    repeat ((fail_if_success ((with_reducible refine oj ?_);refine AOps.atDst 121 rfl ?_));first|refine zO ?_)
    refine zS (AStep.indexAddr (n:=0) tabOk rfl rfl rfl rfl rfl rfl (.inl rfl) rfl (by decide) hk0) ?_
    refine zA ?_
    refine ACode.cond rfl (fun hb=>absurd hb (by simpa using e40)) (fun _=>?_)
    refine zA ?_
    exact cInv ⟨(),_root_.id,trivial,LessR.of rfl zFW (by simp) zLO rfl rfl hou⟩
   ·refine zA ?_
    exact cInv ⟨(),_root_.id,trivial,LessR.of rfl zFW (by simp) zLO rfl rfl hou⟩
  refine zA ?_
  refine ACode.drawXH (va:=.one (.ptr (.l 0) 0)) (σ1:=(⟨1,[(0,.cells [int o,int x,.sl 1 (bs.map cI),nilS2,.sl 2 (al.map cAlt)])],ou⟩)) tabOk 18 17 [] follows (by kernel_rfl) rfl rfl rfl rfl rfl rfl rfl (HStep.auto tabOk rfl) .nil .nil ?_
  refine zA ?_
  refine ACode.grow 0 3 65 1 rfl rfl ?_
  have hmvA:∀j,j<=ks.length->MovB b (Q0w (cv n s) ks j b).2 (lamNs (ks.take j))/\(Q0w (cv n s) ks j b).1.length=j:=Q5d (fun t ht b=>Q41 n t (h.kid ht).c (h.kid ht).fr s b) b
  refine ACode.loopR hΓc (α:=Nat×Outer×Nat×Nat) (fun c=>[(186,.one (int c.1)),(185,.one (int (Q0v ks).length)),(184,.one (.sl 1 (Q0v ks))),(15,.one (.ptr (.l 0) 0)),(2,.one (.ptr (.o ksc) 0)),(0,.one (.ptr (.o kb) 0))])
   (fun c=>⟨2,[(1,.tok 65 1 c.1),(0,.cells [int o,int x,.sl 1 (bs.map cI),.gs 1 ((Q0w (cv n s) ks c.1 b).1.map cB) (.l 1),.sl 2 (al.map cAlt)])],c.2.1⟩) (fun m c=>c.1<=ks.length/\(BR c.2.1 kb c.2.2.1 c.2.2.2 (Q0w (cv n s) ks c.1 b).2/\Kp ou c.2.1 kb kf c.2.2.1/\OuOk c.2.1)/\m=ks.length - c.1) (a0:=(0,ou,kf,cap)) (ρ:=_root_.id) ⟨by omega,⟨hb,Kp.refl _ _ _,hou⟩,rfl⟩
   (LessR.of rfl (by refine zfc ?_;refine zfc ?_;refine FrSub.consP rfl (.ofEq rfl) (by rw[Q0k];simp) ?_;(repeat' first|exact FrSub.nil|refine zfc ?_|refine zfo ?_|refine zfp ?_ (hp:=by first|assumption|(simp;done)))) (by simp) ?_ rfl rfl hou) fun m c hcc=>?_
  ·repeat' first|exact LoSub.nil|refine zlc ?_|refine zld ?_ ?_|rfl
   all_goals (simp[AObj.ren,renL,AC.ren];exact⟨rfl,rfl⟩)
  obtain⟨j,o1,kf1,cap1⟩:=c
  obtain⟨hjl,⟨hb1,hk1,ho1⟩,rfl⟩:=hcc
  dsimp only at hjl hb1 hk1 ho1
  have hs1:=hs.keep hb hk1
  obtain⟨hmv,hpl⟩:=hmvA j hjl
  refine zA ?_
  refine ACode.cond rfl (fun hb2=>?_) (fun hb2=>?_)
  ·have hlt:j < ks.length:=by rw[Q0k]at hb2;simpa using hb2
   obtain⟨tj,htj⟩:=Q01 hlt
   have htd:ks.getD j default=tj:=by rw[List.getD_eq_getElem?_getD,htj];rfl
   have htm:=List.mem_of_getElem? htj
   have hcs:Q0w (cv n s) ks (j+1) b=((Q0w (cv n s) ks j b).1++[(cv n s tj (Q0w (cv n s) ks j b).2).1],(cv n s tj (Q0w (cv n s) ks j b).2).2):=by simp only[Q0w];rw[htd]
   have hcT:cntNs ks=cntNs (ks.take j)+cntNs (ks.drop j):=by conv=>lhs;rw[←List.take_append_drop j ks,Q37]
   have hcD:cntNs (ks.drop j)=cntN tj+cntNs (ks.drop (j+1)):=by
    rw[List.drop_eq_getElem_cons hlt]
    rw[List.getElem?_eq_getElem hlt]at htj
    rw[Option.some.inj htj];simp[cntNs]
   have hlT:=Q40 (ks.take j)
   have hml:=hmv.len
   have hmn:=hmv.nx
   obtain⟨pv,hpv⟩:∃pv,pv=(Q0w (cv n s) ks j b).1:=⟨_,rfl⟩
   obtain⟨bj,hbj⟩:∃bj,bj=(Q0w (cv n s) ks j b).2:=⟨_,rfl⟩
   rw[←hpv,←hbj]at hcs
   rw[←hpv]at hpl
   rw[←hbj]at hb1 hml hmn
   have hpl2:(pv.map cB).length=j:=by simpa using hpl
   have hn0:=hB.n0
   have hca:=Q2n n tj (h.kid htm) s bj o1 kb kf1 cap1 ksc hsm hb1 hs1 ⟨by omega,by omega,by omega⟩
   obtain⟨rt,hrt⟩:∃rt,rt=cv n s tj bj:=⟨_,rfl⟩
   rw[←hrt]at hca hcs
   dsimp only
   rw[←hpv]
   refine zA ?_
   refine zS (zIA rfl rfl rfl (by omega) (Q0u htj)) ?_
   refine zA ?_
   refine ACode.drawC2 tabOk 11 [8,9,10] [] (fun vs σ=>match vs with
    |[]=>σ=⟨2,[(1,.tok 65 1 j),(0,.cells [int o,int x,.sl 1 (bs.map cI),.gs 1 (pv.map cB) (.l 1),.sl 2 (al.map cAlt)])],o1⟩
    |[v]=>v=.one (.box (cTr rt.1))/\∃o' kf' cap',BR o' kb kf' cap' rt.2/\Kp o1 o' kb kf1 kf'/\OuOk o'/\σ=⟨2,[(1,.tok 65 1 j),(0,.cells [int o,int x,.sl 1 (bs.map cI),.gs 1 (pv.map cB) (.l 1),.sl 2 (al.map cAlt)])],o'⟩
    |[v,w]=>v=.one (.box (cTr rt.1))/\w=.one (.sl 1 [cB rt.1])/\∃o' kf' cap',BR o' kb kf' cap' rt.2/\Kp o1 o' kb kf1 kf'/\OuOk o'/\σ=⟨2,[(1,.tok 65 1 j),(0,.cells [int o,int x,.sl 1 (bs.map cI),.gs 1 (pv.map cB) (.l 1),.sl 2 (al.map cAlt)])],o'⟩
    |[v,w,y]=>v=.one (.box (cTr rt.1))/\w=.one (.sl 1 [cB rt.1])/\y=.one (.gs 1 (pv.map cB++[cB rt.1]) (.l 2))/\∃o' kf' cap',BR o' kb kf' cap' rt.2/\Kp o1 o' kb kf1 kf'/\OuOk o'/\σ=(St.set ⟨2,[(1,.tok 65 1 j),(0,.cells [int o,int x,.sl 1 (bs.map cI),.gs 1 (pv.map cB) (.l 1),.sl 2 (al.map cAlt)])],o'⟩ (.l 1) .dead).push (.tok 65 1 (pv.map cB++[cB rt.1]).length)
    |_=>False) follows (by kernel_rfl) rfl rfl (by decide) (by kernel_rfl) (by kernel_rfl) rfl rfl ?_ (fun _ _ _=>.nil) (by decide) ?_ ?_
   ·intro vs σ h
    match vs with
    |[]=>subst h;rfl
    |[_]=>obtain⟨_,o',kf',cap',_,_,_,rfl⟩:=h;rfl
    |[_,_]=>obtain⟨_,_,o',kf',cap',_,_,_,rfl⟩:=h;rfl
    |[_,_,_]=>obtain⟨_,_,_,o',kf',cap',_,_,_,rfl⟩:=h;rfl
    |_::_::_::_::_=>exact h.elim
   ·intro vs σ h i op hi ho
    match vs with
    |[]=>
     subst h;cases hi;cases ho
     refine⟨rfl,.inl (.inr ⟨rfl,Q0n.call hΓc rfl rfl rfl rfl (by simp[idsF]) ho1 hca fun r ou' hq _ how=>?_⟩)⟩
     obtain⟨rfl,kf',cap',h1,h2⟩:=hq
     exact⟨rfl,ou',kf',cap',h1,h2,how,rfl⟩
    |[_]=>
     obtain⟨rfl,o',kf',cap',h1,h2,h3,rfl⟩:=h;cases hi;cases ho
     exact⟨rfl,.inl (.inl ⟨_,_,HStep.plain rfl (AStep.ofOp tabOk rfl),rfl,rfl,o',kf',cap',h1,h2,h3,rfl⟩)⟩
    |[_,_]=>
     obtain⟨rfl,rfl,o',kf',cap',h1,h2,h3,rfl⟩:=h;cases hi;cases ho
     refine⟨rfl,.inl (.inl ⟨_,_,HStep.plain rfl (AStep.append (s:=1) (es:=pv.map cB) (news:=[cB rt.1]) (ti:=ti112) tabOk rfl rfl rfl rfl rfl rfl (Base.gs' _ 65 1 (pv.map cB) (.l 1) rfl hpl2.symm) (.sl _ _) rfl ?_ ?_),rfl,rfl,rfl,o',kf',cap',h1,h2,h3,rfl⟩)⟩
     ·rw[hpl2];show (j+1) * 8<=_;omega
     ·rw[hpl2];show j+1<=_;omega
    |_::_::_::_=>cases hi
   ·intro vs σ hl h
    match vs,hl with
    |[_,_,_],_=>
     obtain⟨rfl,rfl,rfl,o2,kf2,cap2,hb3,hk3,ho3,rfl⟩:=h
     refine zM ?_
     refine cInv ⟨ks.length - (j+1),(j+1,o2,kf2,cap2),fun k=>if k=1 then 2 else k,by omega,⟨by omega,⟨by dsimp only;rw[hcs];exact hb3,hk1.trans hk3 (by rw[hb1.m];simp),ho3⟩,rfl⟩,LessR.of rfl (by refine zfc ?_;refine zfc ?_;refine FrSub.consP rfl (.ofEq rfl) (by rw[Q0k];simp) ?_;(repeat' first|exact FrSub.nil|refine zfc ?_|refine zfo ?_|refine zfp ?_ (hp:=by first|assumption|(simp;done)))) (by simp) ?_ rfl rfl ho3⟩
     repeat' first|exact LoSub.nil|refine zlc ?_|refine zld ?_ ?_|rfl
     ·simp only[AObj.ren,List.length_append,hpl2];rfl
     ·dsimp only;rw[hcs];simp only[AObj.ren,renL,AC.ren,Q6r,Qar,Q67];rw[List.map_append];rfl
  ·have hje:j=ks.length:=by rw[Q0k]at hb2;simp at hb2;omega
   subst hje
   repeat ((fail_if_success ((with_reducible refine oj ?_);refine AOps.atDst 6 rfl ?_));first|refine zO ?_)
   refine AOps.freeze1 (.l 0) 204 rfl rfl ?_
   refine zA ?_
   refine AFn.fin' rfl (.one (Wk.box (.cons (.refl _) (.cons (.refl _) (.cons (.refl _) (.cons (.gsE (Q0k _).symm) (.cons (.refl _) .nil))))))) (by simp) ho1 ⟨rfl,kf1,cap1,hb1,hk1⟩
end Go.Proofs.YtkgjldchcbfpnaaGreatDoor
namespace Go.CoreX
mutual
def mxT:Tr->Int
 |.mk o n b k a=>mxTs ((Q09 o b a).foldl max (-1)) k
def mxTs (m:Int):List Tr->Int
 |[]=>m
 |t::l=>mxTs (max m (mxT t)) l
end
theorem Qdr:∀(l:List Tr)(m:Int),mxTs m l=(l.map mxT).foldl max m
 |[],_=>rfl
 |t::l,m=>by simp only[mxTs,List.map_cons,List.foldl_cons];exact Qdr l _
theorem maxX_if(a b:Int):max a b=if b > a then b else a:=by rw[Int.max_def];split <;> split <;> omega
def mxLX (c:Int)(l:Lab):Prop:=∀n∈Q09 l.op l.binds l.alts,n<=c
theorem Qcm(c:Int):∀(l:List Int)(m:Int),m<=c->(∀n∈l,n<=c)->l.foldl max m<=c
 |[],m,h,_=>h
 |x::l,m,h,hl=>by
  simp only[List.foldl_cons]
  have:=hl x (by simp)
  exact Qcm c l _ (by omega) fun n hn=>hl n (by simp[hn])
mutual
theorem mxT_le(c:Int)(hc:-1<=c):∀t:Tr,Go.CoreX.allT (mxLX c) t->mxT t<=c
 |.mk o n b k a,h=>by
  simp only[mxT]
  exact Qj2 c hc k _ (Qcm c _ _ hc h.1) h.2
theorem Qj2(c:Int)(hc:-1<=c):∀(l:List Tr)(m:Int),m<=c->Go.CoreX.allTs (mxLX c) l->mxTs m l<=c
 |[],m,h,_=>h
 |t::l,m,h,hl=>by
  simp only[mxTs]
  have:=mxT_le c hc t hl.1
  exact Qj2 c hc l _ (by omega) hl.2
end
theorem Qd2{e:List Ex}{x:Ex}(h:Q0r false e x=0):∀b∈Q0o x,b<=1048575:=by
 have hr:ranges x=0:=by
  unfold Q0r at h
  split at h
  ·cases h
  ·unfold Q14 at h
   split at h
   ·cases h
   ·split at h
    ·rename_i hr;exact absurd h hr
    ·rename_i hr;simpa using hr
 have hx:x.binds.all Q2i=true/\x.alts.all (Q3e x.op)=true:=by
  unfold ranges at hr
  split at hr
  ·cases hr
  split at hr
  ·cases hr
  rename_i h1
  split at hr
  ·cases hr
  rename_i h2
  exact⟨by simpa using h1,by simpa using h2⟩
 have ok:∀n,Q2i n=true->n<=1048575:=fun n hn=>by
  simp[Q2i,between]at hn;omega
 intro b hb
 unfold Q0o Q09 at hb
 rcases List.mem_append.1 hb with hb|hb
 ·split at hb
  ·exact ok b (List.all_eq_true.1 hx.1 b hb)
  ·cases hb
 ·obtain⟨a,ha,hba⟩:=List.mem_flatMap.1 hb
  have:=List.all_eq_true.1 hx.2 a ha
  unfold Q3e at this
  exact ok b (List.all_eq_true.1 (Bool.and_eq_true_iff.1 this).2 b hba)
theorem Qke{e:List Ex}(h:check e=0):allT (mxLX 1048575) (grow e):=by
 obtain⟨_,p2,_,_⟩:=Q2j h
 exact Q50 (Q1a h) fun x hx=>Qd2 (p2 x hx)
end Go.CoreX
namespace Go.Proofs.YtkgjldchcbfpnaaGreatDoor
open Go Go.Abs Go.CoreX
variable {Γ:List (Nat×List AC)}
theorem Q9w{l:List Int}{i:Nat}{n m:Int}(h:l[i]?=some n):(l.take (i+1)).foldl max m=if n > (l.take i).foldl max m then n else (l.take i).foldl max m:=by
 rw[Q1b h,List.foldl_append];exact maxX_if _ _
def MxOk (Γ:List (Nat×List AC))(t:Tr):Prop:=APure Tryz.prog Γ 25 [.one (.box (cTr t))] (.one (int (mxT t)))
theorem Qgg(hΓ:∀g cs,(g,cs)∈Γ->idsL isO cs):∀t:Tr,okT t->MxOk Γ t
 |.mk o n b ks a,hok=>by
  have ih:∀t∈ks,MxOk Γ t:=fun t ht=>Qgg hΓ t (Q8f hok t ht)
  have hk:ks.length<=1048576:=hok.2.1
  have hbl:Q7c (.mk o n b ks a)<=4194304:=by
   have h1:=hok.1
   have h2:=hok.2.2.2.1.2
   unfold Q7c
   simp only[Tr.binds,Tr.alts]
   omega
  have hB:=Qah hΓ (.mk o n b ks a) hbl hok.2.2.1
  have hbn:(Q09 o b a).length<=4194304:=by
   unfold Q7c at hbl
   simp only[Tr.binds,Tr.alts]at hbl
   unfold Q09
   rw[List.length_append]
   split
   ·exact hbl
   ·simp only[List.length_nil];omega
  have hm:mxT (.mk o n b ks a)=(ks.map mxT).foldl max ((Q09 o b a).foldl max (-1)):=by simp only[mxT,Qdr]
  intro ou
  rw[hm]
  clear hm
  obtain⟨bn,hbe⟩:∃bn,bn=Q09 o b a:=⟨_,rfl⟩
  rw[show Q09 (Tr.mk o n b ks a).op (Tr.mk o n b ks a).binds (Tr.mk o n b ks a).alts=bn from hbe.symm]at hB
  rw[←hbe]at hbn ⊢
  clear hbe hbl
  refine AFn.walk 34 tabOk Tryz.func25 rfl (by kernel_rfl) rfl rfl fun hou=>?_
  refine zA ?_
  refine zca hΓ hB hou ?_
  refine zA ?_
  refine ACode.loopR hΓ (α:=Nat) (fun i=>[(11,.one (int i)),(10,.one (int (bn.map cI).length)),(9,.one (.sl 1 (bn.map cI))),(3,.one (int ((bn.take i).foldl max (-1)))),(0,.one (.box (cTr (.mk o n b ks a))))])
   (fun i=>⟨0,[],ou⟩) (fun m i=>i<=bn.length/\m=bn.length - i) (a0:=0) (ρ:=id) ⟨by omega,rfl⟩ (LessR.of rfl zFS (by simp) zLO rfl rfl hou) fun m i hi=>?_
  obtain⟨hil,rfl⟩:=hi
  refine zA ?_
  refine ACode.cond rfl (fun hb3=>?_) (fun hb3=>?_)
  ·have hlt2:i < bn.length:=by simpa using hb3
   obtain⟨q,hn⟩:=Q01 hlt2
   have hsm:=Q9w (m:=-1) hn
   refine zA ?_
   refine zS (zIA rfl rfl rfl (by omega) (Q06 hn)) ?_
   refine zM ?_
   refine cInv ⟨bn.length - (i+1),i+1,id,by omega,⟨by omega,rfl⟩,?_⟩
   simp only[hsm]
   exact LessR.of rfl zFS (by simp) zLO rfl rfl hou
  have hlt:i=bn.length:=by simp at hb3;omega
  subst hlt
  rw[List.take_length]
  generalize bn.foldl max (-1)=m0
  refine zA ?_
  refine ACode.loopR hΓ (α:=Nat) (fun i=>[(24,.one (int i)),(23,.one (int (Q0v ks).length)),(22,.one (.sl 1 (Q0v ks))),(3,.one (int (((ks.map mxT).take i).foldl max m0)))])
   (fun i=>⟨0,[],ou⟩) (fun m i=>i<=ks.length/\m=ks.length - i) (a0:=0) (ρ:=id) ⟨by omega,rfl⟩ (LessR.of rfl zFS (by simp) zLO rfl rfl hou) fun m i hi=>?_
  obtain⟨hil,rfl⟩:=hi
  refine zA ?_
  refine ACode.cond rfl (fun hb3=>?_) (fun hb3=>?_)
  ·have hlt2:i < ks.length:=by simpa using hb3
   obtain⟨t,ht⟩:=Q01 hlt2
   have hsm:=Q9w (l:=ks.map mxT) (n:=mxT t) (m:=m0) (i:=i) (by simp[ht])
   refine zA ?_
   refine zS (zIA rfl rfl rfl (by omega) (Q0u ht)) ?_
   refine zA ?_
   refine zca hΓ (ih t (List.mem_of_getElem? ht)) hou ?_
   refine zM ?_
   refine cInv ⟨ks.length - (i+1),i+1,id,by omega,⟨by omega,rfl⟩,?_⟩
   simp only[hsm]
   exact LessR.of rfl zFS (by simp) zLO rfl rfl hou
  have hlt:i=ks.length:=by simp[Q0k]at hb3;omega
  subst hlt
  rw[show (ks.map mxT).take ks.length=ks.map mxT from List.take_of_length_le (by simp)]
  refine zA ?_
  exact APure.fin rfl (WkF.ofEq rfl) (by simp) hou rfl
def BodyQ (e:List Ex):Prop:=e=[]∨∃T,okT T/\cntN T<=1099511627776/\e=listT [] T
def FnsW (l:List FnD):Prop:=∀f∈l,f.params.length<=1099511627776/\BodyQ f.body
theorem FnsW.put{l:List FnD}(h:FnsW l)(j:Nat){ps:List Int}(hp:ps.length<=1099511627776){e:List Ex}(he:BodyQ e):FnsW (putD l j ps e):=fun f hf=>by
 unfold putD at hf
 rcases List.mem_or_eq_of_mem_set hf with h1|rfl
 ·exact h f h1
 ·exact⟨hp,he⟩
theorem newF_w(names:List Int):∀k,FnsW (newF names k)
 |0=>fun f hf=>by simp[newF]at hf
 |k+1=>fun f hf=>by
  rcases List.mem_append.1 hf with h|h
  ·exact newF_w names k f h
  ·simp at h;subst h;exact⟨by simp,.inl rfl⟩
theorem FnsW.app{l r:List FnD}(h:FnsW l)(h2:FnsW r):FnsW (l++r):=fun f hf=>(List.mem_append.1 hf).elim (h f) (h2 f)
theorem Qc7{f:Tr}(h:okT f):f.binds.length<=1048576:=by
 obtain⟨_,_,fb,_,_⟩:=f
 exact h.1
structure KidW (n:Nat)(t:Tr):Prop where
 w:∀(s:Sc) (b:Bs),s.many<=4096->FnsW b.fns->FnsW (cv n s t b).2.fns
 z:∀(s:Sc) (b:Bs),s.many<=4096->okT (cv n s t b).1/\cntN (cv n s t b).1<=1099511627776
theorem Qg1{n:Nat}{needs group:List Int}{base:Nat}{fns:List Tr}(hn:needs.length<=4096)(hk:∀f∈fns,KidW n (f.kids.getD 0 default)/\f.binds.length<=1048576)(b:Bs)(hb:FnsW b.fns):∀i,i<=fns.length->FnsW (Q0j (cv n) needs group base fns i b).fns
 |0,_=>hb
 |i+1,h=>by
  have ih:=Qg1 (group:=group) (base:=base) hn hk b hb i (by omega)
  obtain⟨hm,hbl⟩:=hk _ (Q15 (l:=fns) (i:=i) (by omega))
  simp only[Q0j,Q7j]
  refine FnsW.put (hm.w _ _ (by simpa[scF]using hn) (by simpa using ih)) _ (by simp only[List.length_cons];omega) (.inr ⟨_,?_,?_,rfl⟩)
  ·exact (hm.z _ _ (by simpa[scF]using hn)).1
  ·exact (hm.z _ _ (by simpa[scF]using hn)).2
theorem Qk2{n:Nat}{fns:List Tr}{group names:List Int}(hc:cntNs fns<=4096)(hk:∀f∈fns,KidW n (f.kids.getD 0 default)/\f.binds.length<=1048576)(b:Bs)(hb:FnsW b.fns):FnsW (fnsM (cv n) fns group names b).fns:=by
 have hol:=Q1x fns group
 exact Qg1 (by omega) hk _ (hb.app (newF_w names _)) _ (Nat.le_refl _)
theorem Qg7{cv:Tr->Bs->Tr×Bs}{ks:List Tr}(hcv:∀t∈ks,∀b,FnsW b.fns->FnsW (cv t b).2.fns)(b:Bs)(hb:FnsW b.fns):∀i,i<=ks.length->FnsW (Q0w cv ks i b).2.fns
 |0,_=>hb
 |i+1,h=>hcv _ (Q15 (l:=ks) (i:=i) (by omega)) _ (Qg7 hcv b hb i (by omega))
theorem Qjd{n:Nat}{t:Tr}(h:TrOk n t)(hw:∀(s:Sc)(b:Bs),s.many<=4096->FnsW b.fns->FnsW (cv n s t b).2.fns):KidW n t:=by
 refine⟨hw,fun s b hs=>?_⟩
 have h1:=cv_sz n t h.c h.c4 h.fr h.ok s b hs
 have h2:=h.c4
 exact⟨h1.2,by have:=h1.1;omega⟩
theorem cv_w:∀(n:Nat)(t:Tr),TrOk n t->∀(s:Sc)(b:Bs),s.many<=4096->FnsW b.fns->FnsW (cv n s t b).2.fns
 |0,t,h=>by have:=Q4i t;have:=h.c;omega
 |n+1,.mk o x bs ks al,h=>fun s b hs hb=>by
  have F:=Q10 h.fr
  have hc4:=h.c4
  simp only[cntN]at hc4
  have ih:∀t∈ks,∀(s:Sc) (b:Bs),s.many<=4096->FnsW b.fns->FnsW (cv n s t b).2.fns:=fun t ht=>cv_w n t (h.kid ht)
  have kl:∀f∈ks,IsLam f->KidW n (f.kids.getD 0 default)/\f.binds.length<=1048576:=fun f hf hl=>by
   have h1:=((h.kid hf).lam hl).1
   exact⟨Qjd h1 (cv_w n _ h1),Qc7 (h.kid hf).ok⟩
  simp only[cv]
  by_cases e0:o=0
  ·rw[if_pos e0];exact hb
  rw[if_neg e0]
  by_cases e2:o=2
  ·rw[if_pos e2]
   have hl:IsLam (.mk o x bs ks al):=Q2e h.fr e2
   refine Qk2 (by have:=h.c4;simp only[cntNs];omega) (fun f hf=>?_) b hb
   simp at hf;subst hf
   obtain⟨h1,h2⟩:=h.lam hl
   have h3:TrOk n ((Tr.mk o x bs ks al).kids.getD 0 default):=⟨by have:=h.c;omega,h1.c4,h1.fr,h1.ok,h1.d⟩
   exact⟨Qjd h3 (cv_w n _ h3),Qc7 h.ok⟩
  rw[if_neg e2]
  by_cases e5:o=5
  ·rw[if_pos e5]
   subst e5
   have hsh:ShN 5 x bs (ks.map Tr.op).length al:=F.sh
   have hkl:ks.length=bs.length+1:=by have:=hsh.recs.1;simpa using this
   have hcs:cntNs ks=cntNs (ks.take bs.length)+cntNs (ks.drop bs.length):=by conv=>lhs;rw[←List.take_append_drop bs.length ks,Q37]
   refine ih _ (Q15 (by omega)) s _ hs (Qk2 (by omega) (fun f hf=>?_) b hb)
   exact kl f (List.mem_of_mem_take hf) (Q2e (h.kid (List.mem_of_mem_take hf)).fr (Qak (F.rc rfl) f hf))
  rw[if_neg e5]
  by_cases e4:o=4/\(ks.getD 0 default).op=2
  ·rw[if_pos e4]
   obtain⟨e4,e40⟩:=e4
   subst e4
   have hsh:ShN 4 x bs (ks.map Tr.op).length al:=F.sh
   have hk2:ks.length=2:=by have:=hsh.lett.1;simpa using this
   obtain⟨k0,k1,rfl⟩:∃a b,ks=[a,b]:=by match ks,hk2 with|[a,b],_=>exact⟨a,b,rfl⟩
   refine ih k1 (.tail _ (.head _)) s _ hs (Qk2 (by simp only[cntNs]at hc4;simp only[List.take_succ_cons,List.take_zero,cntNs];omega) (fun f hf=>?_) b hb)
   have hf:f=k0:=by simpa using hf
   subst hf
   exact kl f (.head _) (Q2e (h.kid (.head _)).fr (by simpa using e40))
  rw[if_neg e4]
  exact Qg7 (fun t ht b hb=>ih t ht s b hs hb) b hb _ (Nat.le_refl _)
theorem Qde(e:List Ex)(h:4096 < e.length)(hl:e.length<=1099511627776):APure Tryz.prog Γc 41 [.one (.sl 5 (e.map cEx))] (.one (int 2)):=by
 intro ou
 refine AFn.walk 93 tabOk Tryz.func41 rfl (by kernel_rfl) rfl rfl fun hou=>?_
 refine zA ?_
 refine ACode.cond rfl (fun hb=>?_) (fun hb=>absurd hb (by simp;omega))
 refine zA ?_
 exact APure.fin rfl (WkF.ofEq rfl) (by simp) hou rfl
theorem Qn7(e:List Ex)(h:4096 < e.length)(hl:e.length<=1099511627776)(params:List Int)(flat:Bool):APure Tryz.prog Γc 21 [.one (.sl 5 (e.map cEx)),.one (.sl 1 (params.map cI)),.one (.lit (.bool flat))] (.one (int 2)):=by
 intro ou
 refine AFn.walk 62 tabOk Tryz.func21 rfl (by kernel_rfl) rfl rfl fun hou=>?_
 refine zA ?_
 refine AOps.freeze1 (.l 0) 3 rfl rfl ?_
 refine zca hΓc (Qde e h hl) hou ?_
 refine zA ?_
 exact APure.fin rfl (WkF.ofEq rfl) (by simp) hou rfl
theorem okB_nil:okB []:=⟨⟨by simp,by simp⟩,by simp⟩
theorem BodyQ.len{e:List Ex}(h:BodyQ e):e.length<=1099511627776:=by
 rcases h with rfl|⟨T,_,h2,rfl⟩
 ·simp
 ·have:=Q2c T [];simp at this;omega
theorem BodyQ.okB{e:List Ex}(h:BodyQ e)(hl:e.length<=4096):okB e:=by
 rcases h with rfl|⟨T,h1,h2,rfl⟩
 ·exact okB_nil
 ·exact Qfb (Qdq _ h1) (by have:=Q2c T [];simp at this;omega)
theorem Qhi{e:List Ex}{ps:List Int}(h:body e ps true=0){x:Ex}(hx:x∈e)(ho:x.op=14∨x.op=15):0<=x.n:=by
 have h1:Q1u (Q0r true e) e=0:=by
  unfold body at h
  split at h
  ·rename_i h0;exact absurd h h0
  split at h
  ·rename_i h0;exact absurd h h0
  ·rename_i h0;simpa using h0
 have h2:=(Q21 _ _).1 h1 x hx
 have h3:Q14 e x=0:=by
  unfold Q0r at h2
  split at h2
  ·cases h2
  ·exact h2
 unfold Q14 at h3
 split at h3
 ·cases h3
 split at h3
 ·rename_i h0;exact absurd h3 h0
 rename_i h4
 have h4:ranges x=0:=by simpa using h4
 unfold ranges at h4
 split at h4
 ·cases h4
 rename_i h5
 have h6:between x.n (lowN x.op) (highN x.op)=true:=by simpa using h5
 have h7:lowN x.op=0:=by rcases ho with h|h <;> rw[h] <;> rfl
 rw[h7]at h6
 simp[between]at h6
 exact h6.1
structure BodyK (e:List Ex):Prop where
 l:e.length<=1099511627776
 b:e.length<=4096->okB e
theorem BodyK.ofQ{e:List Ex}(h:BodyQ e):BodyK e:=⟨h.len,h.okB⟩
theorem Body_k{e:List Ex}(h:BodyK e){params:List Int}(hp:params.length<=6):∃r:Int,APure Tryz.prog Γc 21 [.one (.sl 5 (e.map cEx)),.one (.sl 1 (params.map cI)),.one (.lit (.bool true))] (.one (int r))/\(r=0->body e params true=0/\okB e):=by
 by_cases hl:e.length<=4096
 ·exact⟨_,Qel e (h.b hl) params (by omega) true,fun h0=>⟨h0,h.b hl⟩⟩
 ·exact⟨2,Qn7 e (by omega) h.l params true,fun h=>by cases h⟩
def ErrR (P:Prop)(ou:Outer):FV->Outer->Prop:=fun r ou'=>(∃k:Int,r=.one (int k)/\(k=0->P))/\ou'=ou
theorem Qk3(fs:List FnD)(hfl:fs.length<=1048576)(f:FnD)(hpl:f.params.length<=1099511627776)(hb0:BodyK f.body)(main:Int)(ou:Outer):AFn Tryz.prog Γc 22 [.agg [.sl 3 (fs.map encF),int main],.agg (encF f)] ou (ErrR (FnOkD fs f) ou):=by
 have hbl:=hb0.l
 refine AFn.walk 94 tabOk Tryz.func22 rfl (by kernel_rfl) rfl rfl fun hou=>?_
 refine zM ?_
 refine AOps.splitS rfl rfl rfl rfl (fun _=>?_) (fun hn1=>?_)
 ·refine zM ?_
  exact AFn.fin' rfl (.refl _) (by simp) hou ⟨⟨_,rfl,fun h=>absurd h (by decide)⟩,rfl⟩
 refine zM ?_
 refine ACode.cond rfl (fun _=>?_) (fun hn2=>?_)
 ·refine zM ?_
  exact AFn.fin' rfl (.refl _) (by simp) hou ⟨⟨_,rfl,fun h=>absurd h (by decide)⟩,rfl⟩
 refine zM ?_
 refine ACode.cond rfl (fun _=>?_) (fun hp6=>?_)
 ·refine zM ?_
  exact AFn.fin' rfl (.refl _) (by simp) hou ⟨⟨_,rfl,fun h=>absurd h (by decide)⟩,rfl⟩
 have hp6:f.params.length<=6:=by simp at hp6;omega
 have hn1:¬f.name < -1:=by simpa using hn1
 have hn2:¬1048576<=f.name:=by simpa using hn2
 obtain⟨rb,hB,hrb⟩:=Body_k hb0 hp6
 refine zM ?_
 refine ACode.freeze1 (.l 0) 2 rfl rfl ?_
 refine ACode.freeze1 (.l 1) 3 rfl rfl ?_
 refine ACode.loopR hΓc (α:=Nat) (fun j=>[(26,.one (int j)),(25,.one (int (f.params.map cI).length)),(24,.one (.sl 1 (f.params.map cI))),(3,.one (.box (encF f))),(2,.one (.box [.sl 3 (fs.map encF),int main]))]) (fun j=>⟨0,[],ou⟩) (fun m j=>j<=f.params.length/\m=f.params.length - j/\∀x∈f.params.take j,0<=x/\x < 1048576) (a0:=0) (ρ:=_root_.id) ⟨by omega,rfl,by simp⟩ (LessR.of rfl zFS (by simp) zLO rfl rfl hou) fun m j hj=>?_
 obtain⟨hjl,rfl,hpr⟩:=hj
 refine zA ?_
 refine ACode.cond rfl (fun hb2=>?_) (fun hb2=>?_)
 ·have hlt:j < f.params.length:=by simpa using hb2
  obtain⟨x,hx⟩:=Q01 hlt
  refine zA ?_
  refine zS (zIA rfl rfl rfl (by omega) (Q06 hx)) ?_
  refine zA ?_
  refine AOps.splitS rfl rfl rfl rfl (fun _=>?_) (fun hx1=>?_)
  ·refine zM ?_
   exact AFn.fin' rfl (.refl _) (by simp) hou ⟨⟨_,rfl,fun h=>absurd h (by decide)⟩,rfl⟩
  refine zM ?_
  refine ACode.cond rfl (fun _=>?_) (fun hx2=>?_)
  ·refine zM ?_
   exact AFn.fin' rfl (.refl _) (by simp) hou ⟨⟨_,rfl,fun h=>absurd h (by decide)⟩,rfl⟩
  refine zM ?_
  have hx1:¬x < 0:=by simpa using hx1
  have hx2:¬1048576<=x:=by simpa using hx2
  refine cInv ⟨f.params.length - (j+1),j+1,_root_.id,by omega,⟨by omega,rfl,fun y hy=>?_⟩,LessR.of rfl zFS (by simp) zLO rfl rfl hou⟩
  rw[Q1b hx]at hy
  rcases List.mem_append.1 hy with hy|hy
  ·exact hpr y hy
  ·rw[List.mem_singleton.1 hy];omega
 have hjj:j=f.params.length:=by simp at hb2;omega
 subst hjj
 rw[List.take_length]at hpr
 refine zA ?_
 refine zca hΓc hB hou ?_
 refine zM ?_
 refine ACode.cond rfl (fun hr0=>?_) (fun hr0=>?_)
 ·refine zM ?_
  exact AFn.fin' rfl (.refl _) (by simp) hou ⟨⟨_,rfl,fun h=>absurd h (by simpa using hr0)⟩,rfl⟩
 obtain⟨hbody,hokb⟩:=hrb (by simpa using hr0)
 refine zM ?_
 refine ACode.loopR hΓc (α:=Nat) (fun j=>[(48,.one (int j)),(47,.one (int (f.body.map cEx).length)),(46,.one (.sl 5 (f.body.map cEx))),(3,.one (.box (encF f))),(2,.one (.box [.sl 3 (fs.map encF),int main]))]) (fun j=>⟨0,[],ou⟩) (fun m j=>j<=f.body.length/\m=f.body.length - j/\∀x∈f.body.take j,Q7a fs x) (a0:=0) (ρ:=_root_.id) ⟨by omega,rfl,by simp⟩ (LessR.of rfl zFS (by simp) zLO rfl rfl hou) fun m j hj=>?_
 obtain⟨hjl,rfl,hcl⟩:=hj
 clear hb2
 refine zA ?_
 refine ACode.cond rfl (fun hb2=>?_) (fun hb2=>?_)
 ·have hlt:j < f.body.length:=by simpa using hb2
  obtain⟨x,hx⟩:=Q01 hlt
  have hstep:Q7a fs x->∀y∈f.body.take (j+1),Q7a fs y:=fun h y hy=>by
   rw[Q1b hx]at hy
   rcases List.mem_append.1 hy with hy|hy
   ·exact hcl y hy
   ·rw[List.mem_singleton.1 hy];exact h
  have hc:=Qhi hbody (List.mem_of_getElem? hx)
  obtain⟨o,n,b,k,al⟩:=x
  simp only at hc
  by_cases h14:o=14
  ·subst h14
   have hn0:=hc (.inl rfl)
   obtain⟨i,rfl⟩:∃i:Nat,n=(i:Int):=⟨n.toNat,by omega⟩
   refine zA ?_
   refine zS (zIA rfl rfl rfl (by omega) (Q06 hx)) ?_
   refine zA ?_
   refine ACode.cond rfl (fun _=>?_) (fun hb3=>?_)
   ·refine zM ?_
    exact AFn.fin' rfl (.refl _) (by simp) hou ⟨⟨_,rfl,fun h=>absurd h (by decide)⟩,rfl⟩
   have hgl:i < fs.length:=by simp at hb3;omega
   obtain⟨g,hg⟩:=Q01 hgl
   refine zA ?_
   refine zS (zIA rfl rfl rfl (Int.natCast_nonneg i) (Q06 hg)) ?_
   refine zA ?_
   refine AOps.splitS rfl rfl rfl rfl (fun _=>?_) (fun hb4=>?_)
   ·refine zM ?_
    exact AFn.fin' rfl (.refl _) (by simp) hou ⟨⟨_,rfl,fun h=>absurd h (by decide)⟩,rfl⟩
   refine zM ?_
   exact cInv ⟨f.body.length - (j+1),j+1,_root_.id,by omega,⟨by omega,rfl,hstep fun _=>⟨i,g,rfl,hg,fun _=>(show k.length=g.params.length by first|(simpa using hb4)|(simp at hb4;omega)),fun h=>absurd h (show ¬(14:Int)=15 by decide)⟩⟩,LessR.of rfl zFS (by simp) zLO rfl rfl hou⟩
  by_cases h15:o=15
  ·subst h15
   have hn0:=hc (.inr rfl)
   obtain⟨i,rfl⟩:∃i:Nat,n=(i:Int):=⟨n.toNat,by omega⟩
   refine zA ?_
   refine zS (zIA rfl rfl rfl (by omega) (Q06 hx)) ?_
   refine zA ?_
   refine ACode.cond rfl (fun _=>?_) (fun hb3=>?_)
   ·refine zM ?_
    exact AFn.fin' rfl (.refl _) (by simp) hou ⟨⟨_,rfl,fun h=>absurd h (by decide)⟩,rfl⟩
   have hgl:i < fs.length:=by simp at hb3;omega
   obtain⟨g,hg⟩:=Q01 hgl
   refine zA ?_
   refine zS (zIA rfl rfl rfl (Int.natCast_nonneg i) (Q06 hg)) ?_
   refine zA ?_
   refine ACode.cond rfl (fun _=>?_) (fun hb4=>?_)
   ·refine zM ?_
    exact AFn.fin' rfl (.refl _) (by simp) hou ⟨⟨_,rfl,fun h=>absurd h (by decide)⟩,rfl⟩
   refine zM ?_
   exact cInv ⟨f.body.length - (j+1),j+1,_root_.id,by omega,⟨by omega,rfl,hstep fun _=>⟨i,g,rfl,hg,fun h=>absurd h (show ¬(15:Int)=14 by decide),fun _=>(show g.params.length≠0 by simpa using hb4)⟩⟩,LessR.of rfl zFS (by simp) zLO rfl rfl hou⟩
  refine zA ?_
  refine zS (zIA rfl rfl rfl (by omega) (Q06 hx)) ?_
  refine zA ?_
  refine AOps.splitS rfl rfl rfl rfl (fun _=>?_) (fun hb=>absurd hb (by simpa using h14))
  refine zM ?_
  refine ACode.cond rfl (fun _=>?_) (fun hb=>absurd hb (by simpa using h15))
  refine zM ?_
  exact cInv ⟨f.body.length - (j+1),j+1,_root_.id,by omega,⟨by omega,rfl,hstep fun h=>absurd h (not_or.2 ⟨h14,h15⟩)⟩,LessR.of rfl zFS (by simp) zLO rfl rfl hou⟩
 have hjj:j=f.body.length:=by simp at hb2;omega
 subst hjj
 rw[List.take_length]at hcl
 refine zA ?_
 exact AFn.fin' rfl (.refl _) (by simp) hou ⟨⟨_,rfl,fun _=>⟨by omega,by omega,hpr,hokb,hbody,hcl⟩⟩,rfl⟩
theorem Qmg(fs:List FnD)(hfl:fs.length<=1048576)(hb:∀f∈fs,f.params.length<=1099511627776/\BodyK f.body)(main:Int)(ou:Outer):AFn Tryz.prog Γc 11 [.agg [.sl 3 (fs.map encF),int main]] ou (ErrR (∃mn:Nat,main=mn/\PrgOk fs mn) ou):=by
 refine AFn.walk 52 tabOk Tryz.func11 rfl (by kernel_rfl) rfl rfl fun hou=>?_
 refine zM ?_
 refine ACode.cond rfl (fun _=>?_) (fun hb0=>?_)
 ·refine zM ?_
  exact AFn.fin' rfl (.refl _) (by simp) hou ⟨⟨_,rfl,fun h=>absurd h (by decide)⟩,rfl⟩
 have hpos:0 < fs.length:=by
  rcases Nat.eq_zero_or_pos fs.length with h0|h0
  ·simp[List.length_eq_zero_iff.1 h0]at hb0
  ·exact h0
 refine zM ?_
 refine ACode.cond rfl (fun _=>?_) (fun h256=>?_)
 ·refine zM ?_
  exact AFn.fin' rfl (.refl _) (by simp) hou ⟨⟨_,rfl,fun h=>absurd h (by decide)⟩,rfl⟩
 have h256:fs.length<=256:=by simp at h256;omega
 refine zM ?_
 refine AOps.splitS rfl rfl rfl rfl (fun _=>?_) (fun hm0=>?_)
 ·refine zM ?_
  exact AFn.fin' rfl (.refl _) (by simp) hou ⟨⟨_,rfl,fun h=>absurd h (by decide)⟩,rfl⟩
 have hm0:¬main < 0:=by simpa using hm0
 obtain⟨mn,rfl⟩:∃mn:Nat,main=mn:=⟨main.toNat,by omega⟩
 refine zM ?_
 refine ACode.cond rfl (fun _=>?_) (fun hm1=>?_)
 ·refine zM ?_
  exact AFn.fin' rfl (.refl _) (by simp) hou ⟨⟨_,rfl,fun h=>absurd h (by decide)⟩,rfl⟩
 have hm1:mn < fs.length:=by simp at hm1;omega
 obtain⟨f0,h0⟩:=Q01 hm1
 refine zA ?_
 refine zS (zIA rfl rfl rfl (Int.natCast_nonneg mn) (Q06 h0)) ?_
 refine zM ?_
 refine ACode.cond rfl (fun _=>?_) (fun hp0=>?_)
 ·refine zM ?_
  exact AFn.fin' rfl (.refl _) (by simp) hou ⟨⟨_,rfl,fun h=>absurd h (by decide)⟩,rfl⟩
 have hp0:f0.params=[]:=List.length_eq_zero_iff.1 (by simp at hp0;first|omega|simpa using hp0)
 refine zA ?_
 refine ACode.freeze1 (.l 0) 1 rfl rfl ?_
 refine ACode.loopR hΓc (α:=Nat) (fun j=>[(41,.one (int j)),(40,.one (int (fs.map encF).length)),(39,.one (.sl 3 (fs.map encF))),(1,.one (.box [.sl 3 (fs.map encF),int (mn:Int)]))]) (fun j=>⟨0,[],ou⟩) (fun m j=>j<=fs.length/\m=fs.length - j/\∀x∈fs.take j,FnOkD fs x) (a0:=0) (ρ:=_root_.id) ⟨by omega,rfl,by simp⟩ (LessR.of rfl zFS (by simp) zLO rfl rfl hou) fun m j hj=>?_
 obtain⟨hjl,rfl,hcl⟩:=hj
 refine zA ?_
 refine ACode.cond rfl (fun hb2=>?_) (fun hb2=>?_)
 ·have hlt:j < fs.length:=by simpa using hb2
  obtain⟨x,hx⟩:=Q01 hlt
  have hxm:=List.mem_of_getElem? hx
  refine zA ?_
  refine zS (zIA rfl rfl rfl (by omega) (Q06 hx)) ?_
  refine zA ?_
  refine AOps.call1 hΓc rfl rfl rfl rfl rfl rfl rfl (by simp[idsF]) hou (Qk3 fs (by omega) x (hb x hxm).1 (hb x hxm).2 mn ou) fun r ou' hq _ how=>?_
  obtain⟨⟨k,rfl,hk⟩,rfl⟩:=hq
  refine zM ?_
  refine ACode.cond rfl (fun hk0=>?_) (fun hk0=>?_)
  ·refine zM ?_
   exact AFn.fin' rfl (.refl _) (by simp) hou ⟨⟨_,rfl,fun h=>absurd h (by simpa using hk0)⟩,rfl⟩
  have hk1:=hk (by simpa using hk0)
  have hstep:∀y∈fs.take (j+1),FnOkD fs y:=fun y hy=>by
   rw[Q1b hx]at hy
   rcases List.mem_append.1 hy with hy|hy
   ·exact hcl y hy
   ·rw[List.mem_singleton.1 hy];exact hk1
  refine zM ?_
  exact cInv ⟨fs.length - (j+1),j+1,_root_.id,by omega,⟨by omega,rfl,hstep⟩,LessR.of rfl zFS (by simp) zLO rfl rfl hou⟩
 have hjj:j=fs.length:=by simp at hb2;omega
 subst hjj
 rw[List.take_length]at hcl
 refine zA ?_
 exact AFn.fin' rfl (.refl _) (by simp) hou ⟨⟨_,rfl,fun _=>⟨mn,rfl,h256,hcl,f0,h0,hp0⟩⟩,rfl⟩
def bs0 (e:List Ex):Bs:=⟨[⟨-1,[],[]⟩],mxT (grow e)+1,false⟩
def sc0:Sc:=⟨0,0,fun _=>none⟩
def cvR (e:List Ex):Tr×Bs:=cv (cntN (grow e)) sc0 (grow e) (bs0 e)
def progC (e:List Ex):List FnD:=putD (cvR e).2.fns 0 ((cvR e).2.fns.getD 0 default).params (listT [] (cvR e).1)
def hasPH (e:List Ex):Bool:=e.any fun x=>x.op==12||x.op==13
def CvtR (e:List Ex)(r:FV):Prop:=
 (check e≠0/\r=.tup [.agg [nilS2,int 0],.one (int (check e))]) ∨
 (check e=0/\hasPH e=true/\r=.tup [.agg [nilS2,int 0],.one (int 3)]) ∨
 (check e=0/\hasPH e=false/\((r=.tup [.agg [nilS2,int 0],.one (int 2)]/\¬((cvR e).2.bad=false/\PrgOk (progC e) 0))∨(r=.tup [.agg [.sl 3 ((progC e).map encF),int 0],.one (int 0)]/\PrgOk (progC e) 0)))
theorem Qbw{e:List Ex}(he:okB e)(h:check e=0):TrOk (cntN (grow e)) (grow e):=by
 have t1:=Q1a h
 have h1:=Qb2 t1
 have h2:=Q2c (grow e) []
 have h3:=(Q5o e).1 (Q2j h).1
 simp only[List.length_nil]at h2
 exact⟨Nat.le_refl _,by have:=h3.1;omega,Qea h,he.t t1.k t1.ne,by have:=h3.2.2;omega⟩
theorem Q8s:∀(l:List Int)(m:Int),m<=l.foldl max m
 |[],m=>Int.le_refl _
 |x::l,m=>by
  have:=Q8s l (max m x)
  simp only[List.foldl_cons];omega
theorem mxT_ge:∀t:Tr,-1<=mxT t
 |.mk o n b k a=>by
  have h1:=Q8s (Q09 o b a) (-1)
  have h2:=Q8s (k.map mxT) ((Q09 o b a).foldl max (-1))
  simp only[mxT,Qdr];omega
set_option maxHeartbeats 2000000 in
theorem Qaf(e:List Ex)(he:okB e)(ou:Outer):AFn Tryz.prog Γc 13 [.one (.sl 5 (e.map cEx))] ou (fun r ou'=>ou'=ou/\CvtR e r):=by
 have hel:=he.eo.l
 refine AFn.walk 72 tabOk Tryz.func13 rfl (by kernel_rfl) rfl rfl fun hou=>?_
 refine zA ?_
 refine zca hΓc (Qbq e he) hou ?_
 refine zA ?_
 refine ACode.cond rfl (fun hb=>?_) (fun hb=>?_)
 ·have h1:check e≠0:=by simpa using hb
  refine zA ?_
  exact AFn.fin' rfl (.refl _) (by simp[idsF]) hou ⟨rfl,.inl ⟨h1,rfl⟩⟩
 have hck:check e=0:=by simpa using hb
 have t1:=Q1a hck
 clear hb
 refine zA ?_
 refine ACode.loopR hΓc (α:=Nat) (fun j=>[(19,.one (int j)),(18,.one (int (e.map cEx).length)),(17,.one (.sl 5 (e.map cEx))),(2,.one (.ptr (.l 0) 0)),(3,.one (int 0)),(0,.one (.sl 5 (e.map cEx)))]) (fun j=>⟨1,[(0,.cells [nilS2,int 0])],ou⟩) (fun m j=>j<=e.length/\(∀x∈e.take j,¬(x.op=12∨x.op=13))/\m=e.length - j) (a0:=0) (ρ:=_root_.id) ⟨by omega,by simp,rfl⟩ (LessR.of rfl zFS (by simp) zLO rfl rfl hou) fun m j hj=>?_
 obtain⟨hjl,hno,rfl⟩:=hj
 refine zA ?_
 refine ACode.cond rfl (fun hb2=>?_) (fun hb2=>?_)
 ·have hlt:j < e.length:=by simpa using hb2
  obtain⟨x,hx⟩:=Q01 hlt
  have hxm:=List.mem_of_getElem? hx
  have hyes:(x.op=12∨x.op=13)->hasPH e=true:=fun h=>by
   unfold hasPH
   rw[List.any_eq_true]
   exact⟨x,hxm,by rcases h with h|h <;> simp[h]⟩
  obtain⟨o,n,b,k,al⟩:=x
  simp only at hyes
  refine zA ?_
  refine zS (zIA rfl rfl rfl (by omega) (Q06 hx)) ?_
  refine zA ?_
  refine AOps.splitS rfl rfl rfl rfl (fun h12=>?_) (fun h12=>?_)
  ·refine zM ?_
   exact AFn.fin' rfl (.refl _) (by simp[idsF]) hou ⟨rfl,.inr (.inl ⟨hck,hyes (.inl (by simpa using h12)),rfl⟩)⟩
  refine zM ?_
  refine ACode.cond rfl (fun h13=>?_) (fun h13=>?_)
  ·refine zM ?_
   exact AFn.fin' rfl (.refl _) (by simp[idsF]) hou ⟨rfl,.inr (.inl ⟨hck,hyes (.inr (by simpa using h13)),rfl⟩)⟩
  refine zM ?_
  exact cInv ⟨e.length - (j+1),j+1,_root_.id,by omega,⟨by omega,Q1o hno hx (by simp at h12 h13;simp[h12,h13]),rfl⟩,LessR.of rfl zFS (by simp) zLO rfl rfl hou⟩
 have hje:j=e.length:=by simp at hb2;omega
 subst hje
 rw[List.take_length]at hno
 have hph:hasPH e=false:=by
  unfold hasPH
  rw[List.any_eq_false]
  intro x hx
  have:=hno x hx
  simp only[not_or]at this
  simp[this.1,this.2]
 clear hno hb2 hjl
 have hT:=Qbw he hck
 have hmx:=mxT_le 1048575 (by omega) (grow e) (Qke hck)
 have hm0:=mxT_ge (grow e)
 refine zA ?_
 refine zca hΓc (Qbo hΓc e he.eo t1.k t1.ne) hou ?_
 repeat ((fail_if_success ((with_reducible refine oj ?_);refine AOps.atDst 36 rfl ?_));first|refine zO ?_)
 refine zS (AStep.buildOwn (s:=3) tabOk rfl rfl rfl rfl rfl rfl rfl) ?_
 refine AOps.wkObj (.l 1) rfl (cs':=vec 3 ([(⟨-1,[],[]⟩:FnD)].map encF) 1) (fun w C xs h=>(show WkL _ _ from .cons (.refl _) (.cons (.nilS 1) (.cons (.nilS 5) .nil))) w C xs h) ?_
 refine zA ?_
 refine zca hΓc (Qgg hΓc (grow e) hT.ok) hou ?_
 refine zM ?_
 refine zS (AStep.makeMap rfl) ?_
 repeat ((fail_if_success ((with_reducible refine oj ?_);refine AOps.atDst 47 rfl ?_));first|refine zO ?_)
 refine AOps.cedes [1,2,3,4] rfl (by decide) hou fun q hq=>⟨[(46,.one (.ptr (.o (q+3)) 0)),(43,.one (.box (cTr (grow e)))),(42,.one (.ptr (.o (q+1)) 0)),(8,.one (.ptr (.o (q+1)) 0)),(3,.one (int 0)),(2,.one (.ptr (.l 0) 0))],[(0,.cells [nilS2,int 0])],[.cells (vec 3 ([(⟨-1,[],[]⟩:FnD)].map encF) 1),.cells [.arr (.o q) 3 0 1 1,int (mxT (grow e)+1),.lit (.bool false)],.map 0 [],.cells [int 0,.mp (.o (q+2)),int 0]],?_,?_,?_,?_⟩
 ·exact .cons rfl rfl (.consP rfl (by simp) (.cons rfl rfl (.cons rfl rfl (.consP rfl (by simp) (.cons rfl rfl .nil)))))
 ·exact .cons rfl rfl rfl .nil
 ·exact .cons rfl rfl (.cons rfl rfl (.cons rfl rfl (.cons rfl rfl .nil)))
 have hq:∀m,q<=m->ou m=none:=hq
 have hold:∀j,ou j≠none->j < q:=fun j hj=>by
  rcases Nat.lt_or_ge j q with h1|h1
  ·exact h1
  ·exact absurd (hq j h1) hj
 obtain⟨ou1,hou1⟩:∃x,x=ouAdd ou q [.cells (vec 3 ([(⟨-1,[],[]⟩:FnD)].map encF) 1),.cells [.arr (.o q) 3 0 1 1,int (mxT (grow e)+1),.lit (.bool false)],.map 0 [],.cells [int 0,.mp (.o (q+2)),int 0]]:=⟨_,rfl⟩
 refine AOps.stEq (σ':=⟨5,[(0,.cells [nilS2,int 0])],ou1⟩) (by rw[hou1];rfl) ?_
 have hb1:BR ou1 (q+1) q 1 (bs0 e):=by rw[hou1];exact⟨Q1e 1,Q1e 0,Nat.le_refl _⟩
 have hs1:SR ou1 (q+3) sc0:=by rw[hou1];exact⟨q+2,0,[],Q1e 3,Q1e 2,IMOk.nil⟩
 have ho1:OuOk ou1:=by
  rw[hou1]
  refine Q7s hou fun o ho=>?_
  simp only[List.mem_cons,List.not_mem_nil,or_false]at ho
  rcases ho with rfl|rfl|rfl|rfl
  ·exact Q08 _ (Q58 _)
  ·exact⟨trivial,trivial,trivial,trivial⟩
  ·simp
  ·exact⟨trivial,trivial,trivial,trivial⟩
 have hkeep:∀j,ou j≠none->ou1 j=ou j:=fun j hj=>by rw[hou1];exact Q18 (hold j hj)
 clear hou1
 have hcn:=hT.c4
 have hB:Bn (bs0 e) (cntN (grow e)):=⟨by show (0:Int)<=mxT (grow e)+1;omega,by show mxT (grow e)+1+_<=_;omega,by show 1+_<=_;omega⟩
 have hca:=Q2n (cntN (grow e)) (grow e) hT sc0 (bs0 e) ou1 (q+1) q 1 (q+3) (by decide) hb1 hs1 hB
 refine AOps.call1 hΓc rfl rfl rfl rfl rfl rfl rfl ⟨trivial,by simp,trivial,trivial⟩ ho1 hca fun r o2 hqq _ ho2=>?_
 obtain⟨rfl,kf,cap,hb2,hk2⟩:=hqq
 have hsz:=cv_sz (cntN (grow e)) (grow e) (Nat.le_refl _) hcn hT.fr hT.ok sc0 (bs0 e) (by decide)
 have hmo:=Q41 (cntN (grow e)) (grow e) hT.c hT.fr sc0 (bs0 e)
 have hws:=cv_w (cntN (grow e)) (grow e) hT sc0 (bs0 e) (by decide) (fun f hf=>by
  have:f=⟨-1,[],[]⟩:=by simpa[bs0]using hf
  subst this
  exact⟨by simp,.inl rfl⟩)
 have hlc:=Qfo (grow e)
 have hpC:progC e=putD (cvR e).2.fns 0 ((cvR e).2.fns.getD 0 default).params (listT [] (cvR e).1):=rfl
 change BR o2 (q+1) kf cap (cvR e).2 at hb2
 change FnsW (cvR e).2.fns at hws
 change MovB (bs0 e) (cvR e).2 _ at hmo
 change cntN (cvR e).1<=_/\okT (cvR e).1 at hsz
 refine AOps.wk 47 rfl (y:=.one (.box (cTr (cvR e).1))) (.refl _) ?_
 generalize hR:cvR e=R at hb2 hws hmo hsz hpC ⊢
 obtain⟨rt,b⟩:=R
 dsimp only at hb2 hws hmo hsz hpC ⊢
 clear hca
 have hsb:(listT [] rt).length<=1099511627776:=by have:=Q2c rt [];simp at this;omega
 have hLs:=Qgh hΓc rt hsz.2 hsb
 refine zca hΓc hLs ho2 ?_
 have hm2:=hb2.m
 have hln:b.fns.length=1+lamN (grow e):=hmo.len
 have hpos:0 < b.fns.length:=by omega
 repeat ((fail_if_success ((with_reducible refine oj ?_);refine AOps.atDst 54 rfl ?_));first|refine zO ?_|((with_reducible refine oj ?_);first|refine zix ?_|refine zow rfl rfl hm2 ?_))
 refine zS (AStep.idxOwn (n:=0) (s:=3) (off:=0) (j:=.o kf) (len:=b.fns.length) (cap:=cap) tabOk rfl rfl rfl rfl rfl rfl rfl hpos) ?_
 refine zA ?_
 refine AOps.storeOwn (j:=.o kf) (off:=0 * 3+0 * 3+2) (cs:=vec 3 (b.fns.map encF) cap) tabOk rfl rfl rfl rfl rfl rfl rfl hb2.f (by have:=Q3g (cap:=cap) (Q4f b.fns) (by simpa using hb2.c);have:=hb2.c;omega) ?_
 rw[show 0 * 3+0 * 3+2=0 * 3+2 from rfl,Qk8 hpos (listT [] rt),←hpC]
 have hpl:(progC e).length=b.fns.length:=by rw[hpC,Q39]
 obtain⟨hb3,hk3,ho3⟩:=Qdl hb2 ho2 hpl
 refine AOps.stEq (σ':=⟨5,[(0,.cells [nilS2,int 0])],setA o2 kf cap (progC e)⟩) rfl ?_
 have hm3:=hb3.m
 simp only at hm3
 repeat ((fail_if_success ((with_reducible refine oj ?_);refine AOps.atDst 60 rfl ?_));first|refine zO ?_|((with_reducible refine oj ?_);first|refine zix ?_|refine zow rfl rfl hm3 ?_))
 refine AOps.freezeArr (.o kf) 59 hb3.f (Q4f _) (by show _=some (FV.one (.arr (.o kf) 3 0 _ cap));rw[List.length_map];rfl) ?_
 obtain⟨o4,ho4e⟩:∃x:Outer,x=fun j=>bif Nat.beq j kf then some .dead else setA o2 kf cap (progC e) j:=⟨_,rfl⟩
 refine AOps.stEq (σ':=⟨5,[(0,.cells [nilS2,int 0])],o4⟩) (by rw[ho4e];rfl) ?_
 have ho4:OuOk o4:=by rw[ho4e];exact Qbf ho3 kf
 have hm4:o4 (q+1)=some (.cells [.arr (.o kf) 3 0 (progC e).length cap,int b.next,.lit (.bool b.bad)]):=by
  rw[ho4e]
  show (bif Nat.beq (q+1) kf then some AObj.dead else _)=_
  rw[Q07 hb3.ne];exact hm3
 have hk4:∀j o,ou j=some o->o4 j=some o:=fun j o hj=>by
  have h1:ou j≠none:=by rw[hj];simp
  have h2:=hold j h1
  have h3:=hkeep j h1
  have h5:j≠kf:=fun e=>by
   rcases hk2.nw with h|h
   ·omega
   ·rw[←e,h3]at h;exact h1 h
  rw[ho4e]
  show (bif Nat.beq j kf then some AObj.dead else _)=_
  rw[Q07 h5,cond_false,hk3.old j (by omega) h5 (by rw[hk2.old j (by omega) (by omega) (by rw[h3];exact h1),h3];exact h1),hk2.old j (by omega) (by omega) (by rw[h3];exact h1),h3]
  exact hj
 refine AOps.wk 59 rfl (y:=.one (.sl 3 ((progC e).map encF))) (.refl _) ?_
 refine zA ?_
 repeat ((fail_if_success ((with_reducible refine oj ?_);refine AOps.atDst 65 rfl ?_));first|refine zO ?_|((with_reducible refine oj ?_);first|refine zix ?_|refine zow rfl rfl hm4 ?_))
 refine AOps.lessO ⟨6,[(5,.cells [.sl 3 ((progC e).map encF),int 0]),(5,.cells [nilS2,int 0]),(0,.cells [nilS2,int 0])],ou⟩ rfl (fun i o ho=>?_) ?_
 ·cases i with
  |l m=>exact ho
  |o m=>exact hk4 m o ho
 clear hk4 hm4 ho4 ho4e hm3 hk3 hb3 ho3 hb2 hm2 hk2 hkeep ho1 hs1 hb1 hold hq
 cases hbd:b.bad with
 |true=>
  refine zM ?_
  exact AFn.fin' rfl (.refl _) (by simp[idsF]) hou ⟨rfl,.inr (.inr ⟨hck,hph,.inl ⟨rfl,fun h=>by rw[hR]at h;simp[hbd]at h⟩⟩)⟩
 |false=>
  refine zM ?_
  by_cases hok:PrgOk (progC e) 0
  ·refine zca hΓc (Q8w (progC e) 0 hok) hou ?_
   refine zM ?_
   exact AFn.fin' rfl (.refl _) (by simp) hou ⟨rfl,.inr (.inr ⟨hck,hph,.inr ⟨rfl,hok⟩⟩)⟩
  have hPW:FnsW (progC e):=by
   rw[hpC]
   refine FnsW.put hws 0 ?_ (.inr ⟨rt,hsz.2,by omega,rfl⟩)
   rw[List.getD_eq_getElem?_getD,List.getElem?_eq_getElem hpos]
   exact (hws _ (List.getElem_mem hpos)).1
  refine AOps.call1 hΓc rfl rfl rfl rfl rfl rfl rfl (by simp) hou (Qmg (progC e) (by omega) (fun f hf=>⟨(hPW f hf).1,.ofQ (hPW f hf).2⟩) 0 ou) fun r ou' hqq _ _=>?_
  obtain⟨⟨k,rfl,hkz⟩,rfl⟩:=hqq
  have hk0:k≠0:=fun h0=>by
   obtain⟨mn,hmn,hp⟩:=hkz h0
   obtain rfl:mn=0:=by omega
   exact hok hp
  refine zM ?_
  refine ACode.cond rfl (fun _=>?_) (fun hb=>absurd (by simpa using hb) hk0)
  refine zM ?_
  exact AFn.fin' rfl (.refl _) (by simp[idsF]) hou ⟨rfl,.inr (.inr ⟨hck,hph,.inl ⟨rfl,fun h=>hok h.2⟩⟩)⟩
set_option maxRecDepth 100000
theorem Qil{e:List Ex}(he:okB e)(hck:check e=0):FnsW (progC e)/\(progC e).length=1+lamN (grow e):=by
 have hT:=Qbw he hck
 have hcn:=hT.c4
 have hsz:=cv_sz (cntN (grow e)) (grow e) (Nat.le_refl _) hcn hT.fr hT.ok sc0 (bs0 e) (by decide)
 have hmo:=Q41 (cntN (grow e)) (grow e) hT.c hT.fr sc0 (bs0 e)
 have hws:=cv_w (cntN (grow e)) (grow e) hT sc0 (bs0 e) (by decide) (fun f hf=>by
  have:f=⟨-1,[],[]⟩:=by simpa[bs0]using hf
  subst this
  exact⟨by simp,.inl rfl⟩)
 change FnsW (cvR e).2.fns at hws
 change MovB (bs0 e) (cvR e).2 _ at hmo
 change cntN (cvR e).1<=_/\okT (cvR e).1 at hsz
 have hln:(cvR e).2.fns.length=1+lamN (grow e):=hmo.len
 have hpos:0 < (cvR e).2.fns.length:=by omega
 refine⟨?_,by rw[progC,Q39,hln]⟩
 refine FnsW.put hws 0 ?_ (.inr ⟨_,hsz.2,by omega,rfl⟩)
 rw[List.getD_eq_getElem?_getD,List.getElem?_eq_getElem hpos]
 exact (hws _ (List.getElem_mem hpos)).1
def callB (fs:List FnD)(x:Ex):Bool:=!(x.op==14||x.op==15)||(decide (0<=x.n)&&match fs[x.n.toNat]? with
 |some g=>(!(x.op==14)||x.kids.length==g.params.length)&&(!(x.op==15)||!(g.params.length==0))
 |none=>false)
theorem Qmq{fs:List FnD}{x:Ex}(h:callB fs x=true):Q7a fs x:=fun ho=>by
 unfold callB at h
 have h0:(x.op==14||x.op==15)=true:=by rcases ho with h|h <;> simp[h]
 rw[h0]at h
 simp only[Bool.not_true,Bool.false_or,Bool.and_eq_true,decide_eq_true_eq]at h
 obtain⟨h1,h2⟩:=h
 split at h2
 ·rename_i g hg
  simp only[Bool.and_eq_true,Bool.or_eq_true,Bool.not_eq_true',beq_eq_false_iff_ne,beq_iff_eq]at h2
  exact⟨x.n.toNat,g,by omega,hg,fun h=>h2.1.resolve_left (by simp[h]),fun h=>h2.2.resolve_left (by simp[h])⟩
 ·cases h2
def fnB (fs:List FnD)(f:FnD):Bool:=(decide (-1<=f.name)&&decide (f.name < 1048576))&&decide (f.params.length<=6)&&f.params.all (fun x=>decide (0<=x)&&decide (x < 1048576))&&decide (f.body.length<=4096)&&body f.body f.params true==0&&f.body.all (callB fs)
theorem fnB_ok{fs:List FnD}{f:FnD}(hq:BodyQ f.body)(h:fnB fs f=true):FnOkD fs f:=by
 unfold fnB at h
 simp only[Bool.and_eq_true,decide_eq_true_eq,List.all_eq_true,beq_iff_eq]at h
 obtain⟨⟨⟨⟨⟨h1,h2⟩,h3⟩,h4⟩,h5⟩,h6⟩:=h
 exact⟨h1,h2,h3,hq.okB h4,h5,fun x hx=>Qmq (h6 x hx)⟩
def eLoop:List Ex:=listT [] (loopT 3)
theorem Qc8:okB eLoop:=Qfb (Qdq _ (Qf9 3)) (by rw[Qg8];omega)
def runB:Bool:=match goX 999 (funsD (progC eLoop)) 500 ⟨.ev (grow ((progC eLoop).getD 0 default).body) .nil,[],[],0,[]⟩ with
 |some (.done m v)=>decide (m.steps<=999)&&m.out==[6]
 |_=>false
theorem runB_t:runB=true:=by kernel_rfl
theorem Qka:check eLoop=0:=by kernel_rfl
theorem eLoop_h:hasPH eLoop=false:=by kernel_rfl
theorem eLoop_b:(cvR eLoop).2.bad=false:=by kernel_rfl
theorem eLoop_f:((progC eLoop).all fun f=>fnB (progC eLoop) f)=true:=by kernel_rfl
theorem Qe5:decide ((progC eLoop).length=2)=true:=by kernel_rfl
theorem eLoop_m:((progC eLoop).getD 0 default).params=[]:=by kernel_rfl
theorem get0D{α:Type} [Inhabited α] {l:List α}(h:0 < l.length):l[0]?=some (l.getD 0 default):=by
 rw[List.getD_eq_getElem?_getD,List.getElem?_eq_getElem h];rfl
theorem Qg6:PrgOk (progC eLoop) 0 where
 l:=by have:=of_decide_eq_true Qe5;omega
 b:=fun f hf=>fnB_ok ((Qil Qc8 Qka).1 f hf).2 (List.all_eq_true.1 eLoop_f f hf)
 m:=⟨_,get0D (by have:=of_decide_eq_true Qe5;omega),eLoop_m⟩
theorem Qk9{r:FV}(h:CvtR eLoop r):r=.tup [.agg [.sl 3 ((progC eLoop).map encF),int 0],.one (int 0)]:=by
 rcases h with ⟨h,_⟩|⟨_,h,_⟩|⟨_,_,h|h⟩
 ·exact absurd Qka h
 ·rw[eLoop_h]at h;cases h
 ·exact absurd ⟨eLoop_b,Qg6⟩ h.2
 ·exact h.1
section
variable {fu:Int}{fc:FcT}{fns:List Fun}{ou:Outer}{H:Hm}{nm:Nm2}{m:Ms}{tc ec vc kc:AC}
def PlE (fu:Int)(fc:FcT)(H:Hm)(nm:Nm2)(x:Except Int (Ms×Vl))(tc ec vc kc:AC):FV->Outer->Prop:=fun r ou'=>∃m1 v,x=.ok (m1,v)/\PlQ fu fc H nm m1 v tc ec vc kc r ou'
def PlP (m:Ms)(x:Except Int (Ms×Vl)):List PanicEntry->Outer->Prop:=fun ps ou'=>∃c,x=.error c/\ps=trapE c/\PR ou' m
theorem Q1j{N:Nat}{ds:List Deferred}{o:Oper}{fr:Fr}{σ:St}{f:Operand}{x:Operand}{tys:Array TypeId}{c:AC}{K:Cont}{frb:Fr}(hΓ:∀g cs,(g,cs)∈Γ->idsL isO cs)(hc:notT 3 c)(hi:c.ids isO)(ho:o.op=.call { callee:=.value f,args:=#[x],argTypes:=tys })
  (hf:aEval Γ fr f=some (.one (.fn (.func 166) [] []))) (hx:aEval Γ fr x=some (.one c)) (hou:OuOk σ.ou) (hk:∀ps,ps=trapE 5->K (.panic ps) frb σ):Q1c ⟨Tryz.prog,tab,Γ,N,ds⟩ o fr σ (fun _ _=>False) (fun ps σ'=>K (.panic ps) frb σ'):=
 Q1c.callP (E:=⟨Tryz.prog,tab,Γ,N,ds⟩) (vs:=[.one c]) (us:=[.one c]) hΓ (Qdb hΓ hc _) ho hf (by simp[Q1h,hx]) rfl ⟨hi,trivial⟩ hou (fun r ou' h=>h.elim) fun ps ou' h ho2=>by
  obtain⟨h1,rfl⟩:=h
  exact hk ps h1

theorem Qf5(hΓ:∀g cs,(g,cs)∈Γ->idsL isO cs)(hpr:PR ou m){n:Int}{ca cb:AC}(hn:n=0∨n=1∨n=2∨n=3∨n=4∨n=5∨n=6)(hai:ca.ids isO)(hbi:cb.ids isO)(hbad:notT 3 ca∨(∃x,ca=iW x)/\notT 3 cb){x:Except Int (Ms×Vl)}(hx:x=.error 5){Q:FV->Outer->Prop}:
  AFnP Tryz.prog Γ 136 [.one (.ptr (.o 0) 0),.one (int n),.one (.sl 1 [[ca],[cb]])] ou Q (PlP m x):=by
 refine AFnP.walk 152 tabOk hΓ Tryz.func136 rfl (by kernel_rfl) rfl rfl fun hou=>?_
 have hfin:OuOk ou/\PlP m x (trapE 5) ou:=⟨hou,5,hx,rfl,hpr⟩
 rcases hn with rfl|rfl|rfl|rfl|rfl|rfl|rfl
 ·refine zA ?_
  rcases hbad with hno|⟨⟨y,rfl⟩,hno⟩
  ·refine ACode.drawPan tabOk 11 3 [7,8,9,10] [(1,.one (.box [ca])),(5,.one (.box [cb]))] follows (by kernel_rfl) rfl rfl (by kernel_rfl) (by kernel_rfl) rfl ?_ rfl rfl rfl (by kernel_rfl) rfl ?_
   ·exact⟨⟨_,rfl,zIA rfl rfl rfl (by decide) rfl⟩,⟨_,rfl,zIA rfl rfl rfl (by decide) rfl⟩,trivial⟩
   ·exact Q1j hΓ hno hai rfl rfl rfl hou fun ps hps=>by subst hps;exact hfin
  ·refine ACode.drawPan tabOk 11 7 [8,9,10] [(1,.one (.box [iW y])),(3,.one (int y)),(5,.one (.box [cb]))] follows (by kernel_rfl) rfl rfl (by kernel_rfl) (by kernel_rfl) rfl ?_ rfl rfl rfl (by kernel_rfl) rfl ?_
   ·exact⟨⟨_,rfl,zIA rfl rfl rfl (by decide) rfl⟩,⟨_,rfl,AStep.callPure hΓ rfl rfl rfl (by simp[idsF,iW]) hou (Q0h y)⟩,⟨_,rfl,zIA rfl rfl rfl (by decide) rfl⟩,trivial⟩
   ·exact Q1j hΓ hno hbi rfl rfl rfl hou fun ps hps=>by subst hps;exact hfin
 ·refine zA ?_
  rcases hbad with hno|⟨⟨y,rfl⟩,hno⟩
  ·refine ACode.drawPan tabOk 11 3 [7,8,9,10] [(1,.one (.box [ca])),(5,.one (.box [cb]))] follows (by kernel_rfl) rfl rfl (by kernel_rfl) (by kernel_rfl) rfl ?_ rfl rfl rfl (by kernel_rfl) rfl ?_
   ·exact⟨⟨_,rfl,zIA rfl rfl rfl (by decide) rfl⟩,⟨_,rfl,zIA rfl rfl rfl (by decide) rfl⟩,trivial⟩
   ·exact Q1j hΓ hno hai rfl rfl rfl hou fun ps hps=>by subst hps;exact hfin
  ·refine ACode.drawPan tabOk 11 7 [8,9,10] [(1,.one (.box [iW y])),(3,.one (int y)),(5,.one (.box [cb]))] follows (by kernel_rfl) rfl rfl (by kernel_rfl) (by kernel_rfl) rfl ?_ rfl rfl rfl (by kernel_rfl) rfl ?_
   ·exact⟨⟨_,rfl,zIA rfl rfl rfl (by decide) rfl⟩,⟨_,rfl,AStep.callPure hΓ rfl rfl rfl (by simp[idsF,iW]) hou (Q0h y)⟩,⟨_,rfl,zIA rfl rfl rfl (by decide) rfl⟩,trivial⟩
   ·exact Q1j hΓ hno hbi rfl rfl rfl hou fun ps hps=>by subst hps;exact hfin
 ·refine zA ?_
  rcases hbad with hno|⟨⟨y,rfl⟩,hno⟩
  ·refine ACode.drawPan tabOk 11 3 [7,8,9,10] [(1,.one (.box [ca])),(5,.one (.box [cb]))] follows (by kernel_rfl) rfl rfl (by kernel_rfl) (by kernel_rfl) rfl ?_ rfl rfl rfl (by kernel_rfl) rfl ?_
   ·exact⟨⟨_,rfl,zIA rfl rfl rfl (by decide) rfl⟩,⟨_,rfl,zIA rfl rfl rfl (by decide) rfl⟩,trivial⟩
   ·exact Q1j hΓ hno hai rfl rfl rfl hou fun ps hps=>by subst hps;exact hfin
  ·refine ACode.drawPan tabOk 11 7 [8,9,10] [(1,.one (.box [iW y])),(3,.one (int y)),(5,.one (.box [cb]))] follows (by kernel_rfl) rfl rfl (by kernel_rfl) (by kernel_rfl) rfl ?_ rfl rfl rfl (by kernel_rfl) rfl ?_
   ·exact⟨⟨_,rfl,zIA rfl rfl rfl (by decide) rfl⟩,⟨_,rfl,AStep.callPure hΓ rfl rfl rfl (by simp[idsF,iW]) hou (Q0h y)⟩,⟨_,rfl,zIA rfl rfl rfl (by decide) rfl⟩,trivial⟩
   ·exact Q1j hΓ hno hbi rfl rfl rfl hou fun ps hps=>by subst hps;exact hfin
 ·refine zA ?_
  rcases hbad with hno|⟨⟨y,rfl⟩,hno⟩
  ·refine ACode.drawPan tabOk 13 3 [7,8,9,10,11,12] [(1,.one (.box [ca])),(5,.one (.box [cb]))] follows (by kernel_rfl) rfl rfl (by kernel_rfl) (by kernel_rfl) rfl ?_ rfl rfl rfl (by kernel_rfl) rfl ?_
   ·exact⟨⟨_,rfl,zIA rfl rfl rfl (by decide) rfl⟩,⟨_,rfl,zIA rfl rfl rfl (by decide) rfl⟩,trivial⟩
   ·exact Q1j hΓ hno hai rfl rfl rfl hou fun ps hps=>by subst hps;exact hfin
  ·refine ACode.drawPan tabOk 13 7 [8,9,10,11,12] [(1,.one (.box [iW y])),(3,.one (int y)),(5,.one (.box [cb]))] follows (by kernel_rfl) rfl rfl (by kernel_rfl) (by kernel_rfl) rfl ?_ rfl rfl rfl (by kernel_rfl) rfl ?_
   ·exact⟨⟨_,rfl,zIA rfl rfl rfl (by decide) rfl⟩,⟨_,rfl,AStep.callPure hΓ rfl rfl rfl (by simp[idsF,iW]) hou (Q0h y)⟩,⟨_,rfl,zIA rfl rfl rfl (by decide) rfl⟩,trivial⟩
   ·exact Q1j hΓ hno hbi rfl rfl rfl hou fun ps hps=>by subst hps;exact hfin
 ·refine zA ?_
  rcases hbad with hno|⟨⟨y,rfl⟩,hno⟩
  ·refine ACode.drawPan tabOk 13 3 [7,8,9,10,11,12] [(1,.one (.box [ca])),(5,.one (.box [cb]))] follows (by kernel_rfl) rfl rfl (by kernel_rfl) (by kernel_rfl) rfl ?_ rfl rfl rfl (by kernel_rfl) rfl ?_
   ·exact⟨⟨_,rfl,zIA rfl rfl rfl (by decide) rfl⟩,⟨_,rfl,zIA rfl rfl rfl (by decide) rfl⟩,trivial⟩
   ·exact Q1j hΓ hno hai rfl rfl rfl hou fun ps hps=>by subst hps;exact hfin
  ·refine ACode.drawPan tabOk 13 7 [8,9,10,11,12] [(1,.one (.box [iW y])),(3,.one (int y)),(5,.one (.box [cb]))] follows (by kernel_rfl) rfl rfl (by kernel_rfl) (by kernel_rfl) rfl ?_ rfl rfl rfl (by kernel_rfl) rfl ?_
   ·exact⟨⟨_,rfl,zIA rfl rfl rfl (by decide) rfl⟩,⟨_,rfl,AStep.callPure hΓ rfl rfl rfl (by simp[idsF,iW]) hou (Q0h y)⟩,⟨_,rfl,zIA rfl rfl rfl (by decide) rfl⟩,trivial⟩
   ·exact Q1j hΓ hno hbi rfl rfl rfl hou fun ps hps=>by subst hps;exact hfin
 ·refine zA ?_
  rcases hbad with hno|⟨⟨y,rfl⟩,hno⟩
  ·refine ACode.drawPan tabOk 10 3 [7,8,9] [(1,.one (.box [ca])),(5,.one (.box [cb]))] follows (by kernel_rfl) rfl rfl (by kernel_rfl) (by kernel_rfl) rfl ?_ rfl rfl rfl (by kernel_rfl) rfl ?_
   ·exact⟨⟨_,rfl,zIA rfl rfl rfl (by decide) rfl⟩,⟨_,rfl,zIA rfl rfl rfl (by decide) rfl⟩,trivial⟩
   ·exact Q1j hΓ hno hai rfl rfl rfl hou fun ps hps=>by subst hps;exact hfin
  ·refine ACode.drawPan tabOk 10 7 [8,9] [(1,.one (.box [iW y])),(3,.one (int y)),(5,.one (.box [cb]))] follows (by kernel_rfl) rfl rfl (by kernel_rfl) (by kernel_rfl) rfl ?_ rfl rfl rfl (by kernel_rfl) rfl ?_
   ·exact⟨⟨_,rfl,zIA rfl rfl rfl (by decide) rfl⟩,⟨_,rfl,AStep.callPure hΓ rfl rfl rfl (by simp[idsF,iW]) hou (Q0h y)⟩,⟨_,rfl,zIA rfl rfl rfl (by decide) rfl⟩,trivial⟩
   ·exact Q1j hΓ hno hbi rfl rfl rfl hou fun ps hps=>by subst hps;exact hfin
 ·refine zA ?_
  rcases hbad with hno|⟨⟨y,rfl⟩,hno⟩
  ·refine ACode.drawPan tabOk 10 3 [7,8,9] [(1,.one (.box [ca])),(5,.one (.box [cb]))] follows (by kernel_rfl) rfl rfl (by kernel_rfl) (by kernel_rfl) rfl ?_ rfl rfl rfl (by kernel_rfl) rfl ?_
   ·exact⟨⟨_,rfl,zIA rfl rfl rfl (by decide) rfl⟩,⟨_,rfl,zIA rfl rfl rfl (by decide) rfl⟩,trivial⟩
   ·exact Q1j hΓ hno hai rfl rfl rfl hou fun ps hps=>by subst hps;exact hfin
  ·refine ACode.drawPan tabOk 10 7 [8,9] [(1,.one (.box [iW y])),(3,.one (int y)),(5,.one (.box [cb]))] follows (by kernel_rfl) rfl rfl (by kernel_rfl) (by kernel_rfl) rfl ?_ rfl rfl rfl (by kernel_rfl) rfl ?_
   ·exact⟨⟨_,rfl,zIA rfl rfl rfl (by decide) rfl⟩,⟨_,rfl,AStep.callPure hΓ rfl rfl rfl (by simp[idsF,iW]) hou (Q0h y)⟩,⟨_,rfl,zIA rfl rfl rfl (by decide) rfl⟩,trivial⟩
   ·exact Q1j hΓ hno hbi rfl rfl rfl hou fun ps hps=>by subst hps;exact hfin
theorem Qhv{x y:Int}(hx:inW x):-1073741824<=x.tdiv y/\x.tdiv y<=1073741824:=by
 have h1:(x.tdiv y).natAbs<=x.natAbs:=Int.natAbs_tdiv_le_natAbs x y
 obtain⟨h2,h3⟩:=hx
 omega
theorem Qin(hΓ:∀g cs,(g,cs)∈Γ->idsL isO cs)(hpr:PR ou m)(x:Int){z:Except Int (Ms×Vl)}(hz:z=.error 1){Q:FV->Outer->Prop}:
  AFnP Tryz.prog Γ 136 [.one (.ptr (.o 0) 0),.one (int 3),.one (.sl 1 [[iW x],[iW 0]])] ou Q (PlP m z):=by
 refine AFnP.walk 152 tabOk hΓ Tryz.func136 rfl (by kernel_rfl) rfl rfl fun hou=>?_
 have hfin:OuOk ou/\PlP m z (trapE 1) ou:=⟨hou,1,hz,rfl,hpr⟩
 refine zA ?_
 refine ACode.drawPan tabOk 13 8 [9,10,11,12] [(1,.one (.box [iW x])),(3,.one (int x)),(5,.one (.box [iW 0])),(7,.one (int 0))] follows (by kernel_rfl) rfl rfl (by kernel_rfl) (by kernel_rfl) rfl ?_ rfl rfl rfl (by kernel_rfl) rfl ?_
 ·exact⟨⟨_,rfl,zIA rfl rfl rfl (by decide) rfl⟩,⟨_,rfl,AStep.callPure hΓ rfl rfl rfl (by simp[idsF,iW]) hou (Q0h x)⟩,⟨_,rfl,zIA rfl rfl rfl (by decide) rfl⟩,⟨_,rfl,AStep.callPure hΓ rfl rfl rfl (by simp[idsF,iW]) hou (Q0h 0)⟩,trivial⟩
 ·refine Q1c.callP hΓ (Qa0 hΓ x _) rfl rfl rfl rfl (by simp[idsF]) hou (fun r ou' h=>h.elim) fun ps ou' h ho2=>?_
  obtain⟨rfl,rfl⟩:=h
  exact hfin
theorem Qlp(hΓ:∀g cs,(g,cs)∈Γ->idsL isO cs){x y:Int}(hx:inW x)(hy:inW y)(hy0:y≠0):
  AFn Tryz.prog Γ 136 [.one (.ptr (.o 0) 0),.one (int 3),.one (.sl 1 [[iW x],[iW y]])] ou (fun r ou'=>r=.one (iW (wrapW (x.tdiv y)))/\ou'=ou):=by
 have hq:=Qhv (y:=y) hx
 refine AFn.walk 152 tabOk Tryz.func136 rfl (by kernel_rfl) rfl rfl fun hou=>?_
 refine zA ?_
 refine ACode.drawX tabOk 13 [(1,.one (.box [iW x])),(3,.one (int x)),(5,.one (.box [iW y])),(7,.one (int y)),(8,.tup [.one (int (x.tdiv y)),.one (int (x.tmod y))])] follows (by kernel_rfl) rfl rfl rfl rfl ?_ ?_
 ·exact⟨⟨_,rfl,zIA rfl rfl rfl (by decide) rfl⟩,⟨_,rfl,AStep.callPure hΓ rfl rfl rfl (by simp[idsF,iW]) hou (Q0h x)⟩,⟨_,rfl,zIA rfl rfl rfl (by decide) rfl⟩,⟨_,rfl,AStep.callPure hΓ rfl rfl rfl (by simp[idsF,iW]) hou (Q0h y)⟩,⟨_,rfl,AStep.callPure hΓ rfl rfl rfl (by simp[idsF]) hou (Q9z hΓ x y hx hy hy0)⟩,trivial⟩
 refine zA ?_
 refine AOps.callC hΓ (Q7y _ (by omega) (by omega)) rfl rfl rfl rfl rfl rfl rfl hou (by simp[idsF]) ?_
 refine zA ?_
 refine zS (AStep.mkIfc conc3 rfl rfl) ?_
 refine zA ?_
 exact AFn.fin' rfl (WkF.ofEq rfl) (by simp[iW]) hou ⟨rfl,rfl⟩
theorem Qim(hΓ:∀g cs,(g,cs)∈Γ->idsL isO cs)(hpr:PR ou m)(x:Int){z:Except Int (Ms×Vl)}(hz:z=.error 1){Q:FV->Outer->Prop}:
  AFnP Tryz.prog Γ 136 [.one (.ptr (.o 0) 0),.one (int 4),.one (.sl 1 [[iW x],[iW 0]])] ou Q (PlP m z):=by
 refine AFnP.walk 152 tabOk hΓ Tryz.func136 rfl (by kernel_rfl) rfl rfl fun hou=>?_
 have hfin:OuOk ou/\PlP m z (trapE 1) ou:=⟨hou,1,hz,rfl,hpr⟩
 refine zA ?_
 refine ACode.drawPan tabOk 13 8 [9,10,11,12] [(1,.one (.box [iW x])),(3,.one (int x)),(5,.one (.box [iW 0])),(7,.one (int 0))] follows (by kernel_rfl) rfl rfl (by kernel_rfl) (by kernel_rfl) rfl ?_ rfl rfl rfl (by kernel_rfl) rfl ?_
 ·exact⟨⟨_,rfl,zIA rfl rfl rfl (by decide) rfl⟩,⟨_,rfl,AStep.callPure hΓ rfl rfl rfl (by simp[idsF,iW]) hou (Q0h x)⟩,⟨_,rfl,zIA rfl rfl rfl (by decide) rfl⟩,⟨_,rfl,AStep.callPure hΓ rfl rfl rfl (by simp[idsF,iW]) hou (Q0h 0)⟩,trivial⟩
 ·refine Q1c.callP hΓ (Qa0 hΓ x _) rfl rfl rfl rfl (by simp[idsF]) hou (fun r ou' h=>h.elim) fun ps ou' h ho2=>?_
  obtain⟨rfl,rfl⟩:=h
  exact hfin
theorem Qlo(hΓ:∀g cs,(g,cs)∈Γ->idsL isO cs){x y:Int}(hx:inW x)(hy:inW y)(hy0:y≠0):
  AFn Tryz.prog Γ 136 [.one (.ptr (.o 0) 0),.one (int 4),.one (.sl 1 [[iW x],[iW y]])] ou (fun r ou'=>r=.one (iW (x.tmod y))/\ou'=ou):=by
 have hq:=Qhv (y:=y) hx
 refine AFn.walk 152 tabOk Tryz.func136 rfl (by kernel_rfl) rfl rfl fun hou=>?_
 refine zA ?_
 refine ACode.drawX tabOk 13 [(1,.one (.box [iW x])),(3,.one (int x)),(5,.one (.box [iW y])),(7,.one (int y)),(8,.tup [.one (int (x.tdiv y)),.one (int (x.tmod y))])] follows (by kernel_rfl) rfl rfl rfl rfl ?_ ?_
 ·exact⟨⟨_,rfl,zIA rfl rfl rfl (by decide) rfl⟩,⟨_,rfl,AStep.callPure hΓ rfl rfl rfl (by simp[idsF,iW]) hou (Q0h x)⟩,⟨_,rfl,zIA rfl rfl rfl (by decide) rfl⟩,⟨_,rfl,AStep.callPure hΓ rfl rfl rfl (by simp[idsF,iW]) hou (Q0h y)⟩,⟨_,rfl,AStep.callPure hΓ rfl rfl rfl (by simp[idsF]) hou (Q9z hΓ x y hx hy hy0)⟩,trivial⟩
 refine zA ?_
 refine zS (AStep.mkIfc conc3 rfl rfl) ?_
 refine zA ?_
 exact AFn.fin' rfl (WkF.ofEq rfl) (by simp[iW]) hou ⟨rfl,rfl⟩
def wdV (v:Vl):Prop:=∀n,v=.word n->inW n
theorem Qlr(hΓ:∀g cs,(g,cs)∈Γ->idsL isO cs)(h0:M0 fu fc ou H nm m tc ec vc kc){n:Int}{a b:Vl}{ca cb:AC}(hn:n=0∨n=1∨n=2∨n=3∨n=4∨n=5∨n=6)(ha:VR H nm a ca)(hb:VR H nm b cb)(hwa:wdV a)(hwb:wdV b):
  AFnP Tryz.prog Γ 136 [.one (.ptr (.o 0) 0),.one (int n),.one (.sl 1 [[ca],[cb]])] ou (PlE fu fc H nm (primM fu m n [a,b]) tc ec vc kc) (PlP m (primM fu m n [a,b])):=by
 have hpr:=h0.pr
 have hai:=ha.ids
 have hbi:=hb.ids
 rcases ha.isWord with ⟨x,rfl,rfl⟩|⟨hav,han⟩
 ·rcases hb.isWord with ⟨y,rfl,rfl⟩|⟨hbv,hbn⟩
  ·have hx:=hwa x rfl
   have hy:=hwb y rfl
   have plain:∀{v:Vl}{c:AC},primM fu m n [.word x,.word y]=.ok (m,v)->VR H nm v c->AFn Tryz.prog Γ 136 [.one (.ptr (.o 0) 0),.one (int n),.one (.sl 1 [[iW x],[iW y]])] ou (fun r ou'=>r=.one c/\ou'=ou)->
     AFnP Tryz.prog Γ 136 [.one (.ptr (.o 0) 0),.one (int n),.one (.sl 1 [[iW x],[iW y]])] ou (PlE fu fc H nm (primM fu m n [.word x,.word y]) tc ec vc kc) (PlP m (primM fu m n [.word x,.word y])):=fun {v c} e hv h=>
    AFn.toP (h.mono fun r ou' hq=>by obtain⟨rfl,rfl⟩:=hq;exact⟨m,v,e,fc.kt,H,nm,c,rfl,.refl _ _,hv,h0⟩)
   have two:(n=0∨n=1∨n=2∨n=5∨n=6)->AFnP Tryz.prog Γ 136 [.one (.ptr (.o 0) 0),.one (int n),.one (.sl 1 [[iW x],[iW y]])] ou (PlE fu fc H nm (primM fu m n [.word x,.word y]) tc ec vc kc) (PlP m (primM fu m n [.word x,.word y])):=fun h=>by
    have hex:∃v,primM fu m n [.word x,.word y]=.ok (m,v):=by rcases h with rfl|rfl|rfl|rfl|rfl <;> exact⟨_,rfl⟩
    obtain⟨v,hv⟩:=hex
    obtain⟨_,c,hc,hf⟩:=Qlm (H:=H) (nm:=nm) hΓ h hx hy hv ou
    exact plain hv hc hf
   rcases hn with h|h|h|h|h|h|h
   ·exact two (.inl h)
   ·exact two (.inr (.inl h))
   ·exact two (.inr (.inr (.inl h)))
   ·subst h
    by_cases hy0:y=0
    ·subst hy0;exact Qin hΓ hpr x rfl
    ·exact plain (show primM fu m 3 [.word x,.word y]=.ok (m,.word (wrapW (x.tdiv y))) by simp[primM,wordV,hy0,bind,Except.bind,pure,Except.pure]) (.word _) (Qlp hΓ hx hy hy0)
   ·subst h
    by_cases hy0:y=0
    ·subst hy0;exact Qim hΓ hpr x rfl
    ·exact plain (show primM fu m 4 [.word x,.word y]=.ok (m,.word (x.tmod y)) by simp[primM,wordV,hy0,bind,Except.bind,pure,Except.pure]) (.word _) (Qlo hΓ hx hy hy0)
   ·exact two (.inr (.inr (.inr (.inl h))))
   ·exact two (.inr (.inr (.inr (.inr h))))
  ·have e:=Q54 hbv
   exact Qf5 hΓ hpr hn hai hbi (.inr ⟨⟨x,rfl⟩,hbn⟩) (by rcases hn with rfl|rfl|rfl|rfl|rfl|rfl|rfl <;> simp[primM,wordV,e,bind,Except.bind])
 ·have e:=Q54 hav
  exact Qf5 hΓ hpr hn hai hbi (.inl han) (by rcases hn with rfl|rfl|rfl|rfl|rfl|rfl|rfl <;> simp[primM,e,bind,Except.bind])
end
end Go.Proofs.YtkgjldchcbfpnaaGreatDoor
namespace Go.CoreX
theorem Qec(l:List Int)(x:Int):∀(g i j:Nat),i<=j->i<=bsGo l x g i j/\bsGo l x g i j<=j
 |0,i,j,h=>⟨Nat.le_refl _,h⟩
 |g+1,i,j,h=>by
  unfold bsGo
  split
  ·split
   ·have:=Qec l x g ((i+j) / 2+1) j (by omega);omega
   ·have:=Qec l x g i ((i+j) / 2) (by omega);omega
  ·exact⟨Nat.le_refl _,h⟩
theorem Q6m(l:List Int)(x:Int):∀(g g' i j:Nat),j - i<=g->j - i<=g'->bsGo l x g i j=bsGo l x g' i j
 |0,0,i,j,_,_=>rfl
 |0,g'+1,i,j,h,_=>by unfold bsGo;rw[if_neg (by omega)]
 |g+1,0,i,j,_,h=>by unfold bsGo;rw[if_neg (by omega)]
 |g+1,g'+1,i,j,h,h'=>by
  unfold bsGo
  split
  ·split
   ·exact Q6m l x g g' _ _ (by omega) (by omega)
   ·exact Q6m l x g g' _ _ (by omega) (by omega)
  ·rfl
theorem bsAt_le(l:List Int)(x:Int):bsAt l x<=l.length:=(Qec l x l.length 0 l.length (by omega)).2
theorem Qkh{l:List Int}{x:Int}{i j:Nat}(h:i < j):bsGo l x (j - i) i j=if l.getD ((i+j) / 2) 0 < x then bsGo l x (j - ((i+j) / 2+1)) ((i+j) / 2+1) j else bsGo l x ((i+j) / 2 - i) i ((i+j) / 2):=by
 obtain⟨g,hg⟩:∃g,j - i=g+1:=⟨j - i - 1,by omega⟩
 rw[hg]
 conv=>lhs;unfold bsGo
 rw[if_pos h]
 split
 ·exact Q6m _ _ _ _ _ _ (by omega) (by omega)
 ·exact Q6m _ _ _ _ _ _ (by omega) (by omega)
end Go.CoreX
namespace Go.Proofs.YtkgjldchcbfpnaaGreatDoor
open Go Go.Abs Go.CoreX
variable {Γ:List (Nat×List AC)}
theorem Qjj(a:Int):APure Tryz.prog Γ 162 [.one (int a)] (.one (.lit (.bool false))):=by
 intro ou
 refine AFn.walk 6 tabOk Tryz.func162 rfl (by kernel_rfl) rfl rfl fun hou=>?_
 refine zA ?_
 refine APure.fin rfl (WkF.ofEq ?_) (by simp) hou rfl
 simp
theorem Qji(a:Int):APure Tryz.prog Γ 171 [.one (int a)] (.one (.lit (.bool false))):=by
 intro ou
 refine AFn.walk 6 tabOk Tryz.func171 rfl (by kernel_rfl) rfl rfl fun hou=>?_
 refine zA ?_
 refine APure.fin rfl (WkF.ofEq ?_) (by simp) hou rfl
 simp
theorem Less_ok(hΓ:∀g cs,(g,cs)∈Γ->idsL isO cs)(a b:Int):APure Tryz.prog Γ 129 [.one (int a),.one (int b)] (.one (.lit (.bool (decide (a < b))))):=by
 intro ou
 refine AFn.walk 17 tabOk Tryz.func129 rfl (by kernel_rfl) rfl rfl fun hou=>?_
 refine zA ?_
 refine AOps.callC hΓ (Qjj a) rfl rfl rfl rfl rfl rfl rfl hou (by simp[idsF]) ?_
 refine zM ?_
 exact APure.fin rfl (WkF.ofEq rfl) (by simp) hou rfl
theorem Q52(hΓ:∀g cs,(g,cs)∈Γ->idsL isO cs)(l:List Int)(hl:l.length<=1048576)(x:Int):
  APure Tryz.prog Γ 138 [.one (.sl 1 (l.map cI)),.one (int x)] (.tup [.one (int (bsAt l x:Nat)),.one (.lit (.bool (bsIs l x)))]):=by
 intro ou
 refine AFn.walk 54 tabOk Tryz.func138 rfl (by kernel_rfl) rfl rfl fun hou=>?_
 refine zA ?_
 refine ACode.loopR hΓ (α:=Nat×Nat) (fun j=>[(8,.one (int j.2)),(7,.one (int j.1)),(6,.one (int (l.map cI).length)),(1,.one (int x)),(0,.one (.sl 1 (l.map cI)))])
  (fun j=>⟨0,[],ou⟩) (fun m j=>j.1<=j.2/\j.2<=l.length/\bsGo l x (j.2 - j.1) j.1 j.2=bsAt l x/\m=j.2 - j.1) (a0:=(0,(l.map cI).length)) (ρ:=id) ⟨by simp,by simp,by simp[bsAt],rfl⟩ (LessR.of rfl (by (repeat' first|exact FrSub.nil|refine zfc ?_|refine zfo ?_|refine zfp ?_);all_goals simp) (by simp) zLO rfl rfl hou) fun m j hj=>?_
 obtain⟨lo,hi'⟩:=j
 obtain⟨h2,h3,h4,rfl⟩:=hj
 simp only at h2 h3 h4 ⊢
 refine zA ?_
 refine ACode.cond rfl (fun hb2=>?_) (fun hb2=>?_)
 ·have hlt:lo < hi':=by simpa using hb2
  obtain⟨a,ha⟩:=Q01 (l:=l) (i:=(lo+hi') / 2) (by omega)
  have hga:l.getD ((lo+hi') / 2) 0=a:=by rw[List.getD_eq_getElem?_getD,ha];rfl
  rw[Qkh hlt,hga]at h4
  refine zA ?_
  refine zS (AStep.arith rfl rfl rfl (.inl ⟨rfl,rfl⟩) zI) ?_
  refine zA ?_
  refine zS (AStep.convInt rfl (by rw[Tryz.underlying3];rfl) Tryz.underlying187 rfl (by constructor <;> simp[IntKind.min,IntKind.max,IntKind.signed,IntKind.bits] <;> omega)) ?_
  refine zA ?_
  refine zS (AStep.shr rfl rfl rfl (by omega) (by decide)) ?_
  have hmid:((lo:Int)+(hi':Int)) / 2 ^ (1:Int).toNat=(((lo+hi') / 2:Nat):Int):=by simp
  rw[hmid]
  refine zA ?_
  refine zS (AStep.convInt rfl (by rw[Tryz.underlying187];rfl) Tryz.underlying3 rfl zI) ?_
  refine zA ?_
  refine zS (zIA rfl rfl rfl (by omega) (Q06 ha)) ?_
  refine zA ?_
  refine AOps.callC hΓ (Less_ok hΓ a x) rfl rfl rfl rfl rfl rfl rfl hou (by simp[idsF]) ?_
  refine zA ?_
  refine ACode.cond rfl (fun hb3=>?_) (fun hb3=>?_)
  ·rw[if_pos (by simpa using hb3)]at h4
   refine zA ?_
   refine zS (AStep.arith rfl rfl rfl (.inl ⟨rfl,rfl⟩) zI) ?_
   refine zA ?_
   exact cInv ⟨hi' - ((lo+hi') / 2+1),((lo+hi') / 2+1,hi'),id,by omega,⟨by simp;omega,by simp;omega,h4,rfl⟩,LessR.of rfl (by (repeat' first|exact FrSub.nil|refine zfc ?_|refine zfo ?_|refine zfp ?_);all_goals simp) (by simp) zLO rfl rfl hou⟩
  ·rw[if_neg (by simpa using hb3)]at h4
   refine zA ?_
   exact cInv ⟨(lo+hi') / 2 - lo,(lo,(lo+hi') / 2),id,by omega,⟨by simp;omega,by simp;omega,h4,rfl⟩,LessR.of rfl (by (repeat' first|exact FrSub.nil|refine zfc ?_|refine zfo ?_|refine zfp ?_);all_goals simp) (by simp) zLO rfl rfl hou⟩
 ·have hge:lo=hi':=by simp at hb2;omega
  subst hge
  have h5:bsAt l x=lo:=by rw[←h4,Nat.sub_self];rfl
  repeat ((fail_if_success ((with_reducible refine oj ?_);refine AOps.atDst 35 rfl ?_));first|refine zO ?_)
  by_cases hlt:lo < l.length
  ·obtain⟨a,ha⟩:=Q01 hlt
   have hga:l.getD lo 0=a:=by rw[List.getD_eq_getElem?_getD,ha];rfl
   refine AOps.wk 34 rfl (y:=.one (.lit (.bool true))) (.ofEq (by simpa using hlt)) ?_
   refine zM ?_
   refine zS (zIA rfl rfl rfl (by omega) (Q06 ha)) ?_
   repeat ((fail_if_success ((with_reducible refine oj ?_);refine AOps.atDst 42 rfl ?_));first|refine zO ?_)
   by_cases he:a=x
   ·refine AOps.wk 41 rfl (y:=.one (.lit (.bool true))) (.ofEq (by simpa using he)) ?_
    refine zM ?_
    refine APure.fin rfl (WkF.ofEq ?_) (by simp) hou rfl
    unfold bsIs;rw[h5,hga];simp[hlt,he]
   ·refine AOps.wk 41 rfl (y:=.one (.lit (.bool false))) (.ofEq (by simpa using he)) ?_
    refine zM ?_
    refine zS (zIA rfl rfl rfl (by omega) (Q06 ha)) ?_
    refine zM ?_
    refine AOps.callC hΓ (Qji a) rfl rfl rfl rfl rfl rfl rfl hou (by simp[idsF]) ?_
    refine zM ?_
    refine APure.fin rfl (WkF.ofEq ?_) (by simp) hou rfl
    unfold bsIs;rw[h5,hga];simp[hlt,he]
  ·refine AOps.wk 34 rfl (y:=.one (.lit (.bool false))) (.ofEq (by simpa using hlt)) ?_
   refine zM ?_
   refine APure.fin rfl (WkF.ofEq ?_) (by simp) hou rfl
   simp[h5,bsIs,hlt]
end Go.Proofs.YtkgjldchcbfpnaaGreatDoor
