/- Inlining, walked. No condition but the expression's size. -/
import Derived.Test.YtpaonemmbhbgoaaGreatDoorR12
import Derived.LaidEqlPtr
set_option maxRecDepth 10000
set_option linter.unusedVariables false
set_option linter.unusedSimpArgs false
namespace Go.Proofs.YtpaonemmbhbgoaaGreatDoor
open Go Go.Abs Go.CoreX
def inl1 (out:List Ex)(k:Int):List Ex×Int:=Q0p out 12 k 0
def inlAt (out nx:List Ex)(i:Nat):Int:=(i:Int)+nx.length - out.length
def inlGo:Nat->List Ex->List Ex×List Step3
 |0,out=>(out,[])
 |m+1,out=>match candE out with
  |none=>(out,[])
  |some (k,i)=>
   if (inl1 out k).2≠0 then (out,[]) else
   if (Q0p (inl1 out k).1 1 (inlAt out (inl1 out k).1 i) 0).2≠0 then (out,[]) else
   ((inlGo m (Q0p (inl1 out k).1 1 (inlAt out (inl1 out k).1 i) 0).1).1,(12,k,0)::(1,inlAt out (inl1 out k).1 i,0)::(inlGo m (Q0p (inl1 out k).1 1 (inlAt out (inl1 out k).1 i) 0).1).2)
def inlE (e:List Ex)(b:Int):List Ex×List Step3×Int:=
 if check e≠0 then ([],[],check e)else if b < 0∨500 < b then ([],[],4)else ((inlGo (b.toNat / 2) (listT [] (grow e))).1,(inlGo (b.toNat / 2) (listT [] (grow e))).2,0)
theorem Qin{e:List Ex}{f:Int->Option Int}{k:Int}{i:Nat}:∀{l:List Ex}{j:Nat},candL e f l j=some (k,i)->j<=i/\i < j+l.length
 |[],_,h=>by simp[candL]at h
 |x::l,j,h=>by
  simp only[candL]at h
  split at h
  ·cases h;simp
  ·have:=Qin h
   simp only[List.length_cons];omega
set_option maxHeartbeats 1000000 in
theorem Qn9(e:List Ex)(he:okB e)(b:Int):APure Tryz.prog Γc 22 [.one (.sl 5 (e.map cEx)),.one (int b)] (.tup [.one (.sl 5 ((inlE e b).1.map cEx)),.one (.sl 3 ((inlE e b).2.1.map cS)),.one (int (inlE e b).2.2)]):=by
 have c1:=Q2r e he
 intro ou
 refine AFn.walk 79 tabOk Tryz.func22 rfl (by kernel_rfl) rfl rfl fun hou=>?_
 refine zA ?_
 refine zca hΓc c1 hou ?_
 refine zA ?_
 refine ACode.cond rfl (fun hb=>?_) (fun hb=>?_)
 ·have h:check e≠0:=by simpa using hb
  have hR:inlE e b=([],[],check e):=by unfold inlE;rw[if_pos h]
  rw[hR]
  refine zA ?_
  exact APure.fin rfl (WkF.tup (.cons (.one (.nilS 5)) (.cons (.one (.nilS 3)) (.cons (.refl _) .nil)))) (by simp) hou rfl
 have h:check e=0:=by simpa using hb
 refine zA ?_
 refine AOps.splitS rfl rfl rfl rfl (fun hb1=>?_) (fun hb1=>?_)
 ·have h1:b < 0:=by simpa using hb1
  have hR:inlE e b=([],[],4):=by unfold inlE;rw[if_neg (by simpa using h),if_pos (.inl h1)]
  rw[hR]
  refine zA ?_
  exact APure.fin rfl (WkF.tup (.cons (.one (.nilS 5)) (.cons (.one (.nilS 3)) (.cons (.refl _) .nil)))) (by simp) hou rfl
 have h1:¬b < 0:=by simpa using hb1
 refine zA ?_
 refine ACode.cond rfl (fun hb2=>?_) (fun hb2=>?_)
 ·have h2:500 < b:=by simpa using hb2
  have hR:inlE e b=([],[],4):=by unfold inlE;rw[if_neg (by simpa using h),if_pos (.inr h2)]
  rw[hR]
  refine zA ?_
  exact APure.fin rfl (WkF.tup (.cons (.one (.nilS 5)) (.cons (.one (.nilS 3)) (.cons (.refl _) .nil)))) (by simp) hou rfl
 have h2:¬500 < b:=by simpa using hb2
 obtain⟨B,rfl⟩:∃B:Nat,b=B:=⟨b.toNat,by omega⟩
 have hR:inlE e (B:Int)=((inlGo (B / 2) (listT [] (grow e))).1,(inlGo (B / 2) (listT [] (grow e))).2,0):=by unfold inlE;rw[if_neg (by simpa using h),if_neg (by omega),Int.toNat_natCast]
 rw[hR]
 clear hR
 have t1:=Q0f h
 have hl:(listT [] (grow e)).length<=1048576:=by rw[Q8u t1];exact he.eo.l
 obtain⟨E0,hE0⟩:∃E0,E0=listT [] (grow e):=⟨_,rfl⟩
 have hOb:okB E0:=by rw[hE0];exact Q6t he h
 have hOc:check E0=0:=by rw[hE0];exact Q83 h
 have hLi:=Qaq hΓc (grow e) (he.t t1.k t1.ne) hl
 rw[←hE0]at hLi ⊢
 refine zA ?_
 refine zca hΓc (Q6c hΓc e he.eo t1.k t1.ne) hou ?_
 refine zca hΓc hLi hou ?_
 refine zA ?_
 refine ACode.growS 9 41 3 rfl ?_
 refine ACode.loopR hΓc (α:=List Ex×List Step3) (fun c=>[(9,.one (.gs 3 (c.2.map cS) (.l 0))),(8,.one (.sl 5 (c.1.map cEx))),(1,.one (int B))])
  (fun c=>⟨1,[(0,.tok 41 3 (c.2.map cS).length)],ou⟩) (fun m c=>(okB c.1/\check c.1=0/\∃t,c.2.length=2 * t/\t+m=B / 2/\inlGo (B / 2) E0=((inlGo m c.1).1,c.2++(inlGo m c.1).2))) (a0:=(E0,[])) (ρ:=id) ⟨hOb,hOc,0,rfl,Nat.zero_add _,by simp⟩
  (LessR.of rfl (FrSub.consGs rfl rfl (by simp) (FrSub.consP rfl (.ofEq rfl) (by simp) (FrSub.cons rfl (.ofEq rfl) .nil))) (by simp) zLO rfl rfl hou) fun m c hc=>?_
 obtain⟨out,L⟩:=c
 obtain⟨hob,hoc,t,hLl,hm,hst⟩:=hc
 dsimp only at hLl hob hoc hst
 have hlen:((L.map cS).length:Int)=(L.length:Int):=by simp
 have hstop:inlGo m out=(out,[])->inlGo (B / 2) E0=(out,L):=fun hs=>by rw[hst,hs];simp
 have hol:(out.map cEx).length<=1048576:=by rw[List.length_map];exact hob.eo.l
 refine zM ?_
 refine ACode.cond rfl (fun hb3=>?_) (fun hb3=>?_)
 ·have hlt:t+1<=B / 2:=by simp at hb3;omega
  obtain⟨m,rfl⟩:∃k,m=k+1:=⟨m - 1,by omega⟩
  have hca:=Qf6 hΓc out hob hoc
  simp only[inlGo]at hst hstop
  refine zA ?_
  cases hn:candE out with
  |none=>
   rw[show candR out=(0,0,false) by unfold candR;rw[hn]]at hca
   refine zca hΓc hca hou ?_
   refine zA ?_
   have hfin:=hstop (by rw[hn])
   rw[hfin]
   exact APure.fin (r':=.tup [.one (.sl 5 (out.map cEx)),.one (.sl 3 (L.map cS)),.one (int 0)]) rfl (WkF.tup (.cons (.refl _) (.cons (.one (.gsE rfl)) (.cons (.refl _) .nil)))) (by simp) hou rfl
  |some p=>
   obtain⟨k,i⟩:=p
   rw[show candR out=(k,(i:Int),true) by unfold candR;rw[hn]]at hca
   dsimp only at hca
   have hil:i < out.length:=by have:=Qin hn;omega
   rw[hn]at hst hstop
   dsimp only at hst hstop
   have hap:=Qne out hob 12 k 0 (by decide)
   rw[show Q0p out 12 k 0=inl1 out k from rfl]at hap
   have hob2:=Q3q (r:=12) (p:=k) (n:=0) hob
   rw[show Q0p out 12 k 0=inl1 out k from rfl]at hob2
   obtain⟨A,hA⟩:∃A,A=inl1 out k:=⟨_,rfl⟩
   rw[←hA]at hst hstop hap hob2
   refine zca hΓc hca hou ?_
   refine zA ?_
   refine AOps.callC hΓc hap rfl rfl rfl rfl rfl rfl rfl hou (by simp[idsF]) ?_
   refine zA ?_
   refine ACode.cond rfl (fun hb4=>?_) (fun hb4=>?_)
   ·have h4:A.2≠0:=by simpa using hb4
    refine zA ?_
    have hfin:=hstop (by rw[if_pos h4])
    rw[hfin]
    exact APure.fin (r':=.tup [.one (.sl 5 (out.map cEx)),.one (.sl 3 (L.map cS)),.one (int 0)]) rfl (WkF.tup (.cons (.refl _) (.cons (.one (.gsE rfl)) (.cons (.refl _) .nil)))) (by simp) hou rfl
   have h4:A.2=0:=by simpa using hb4
   have hob2:=hob2 h4
   rw[if_neg (by simpa using h4)]at hst hstop
   have hal:(A.1.map cEx).length<=1048576:=by rw[List.length_map];exact hob2.eo.l
   have hat:inlAt out A.1 i=(i:Int)+((A.1.map cEx).length:Nat) - ((out.map cEx).length:Nat):=by unfold inlAt;simp
   have hap2:=Qne A.1 hob2 1 (inlAt out A.1 i) 0 (by decide)
   have hob3:=Q3q (r:=1) (p:=inlAt out A.1 i) (n:=0) hob2
   have hord:=Q76 (e:=A.1) (r:=1) (p:=inlAt out A.1 i) (n:=0)
   obtain⟨C,hC⟩:∃C,C=Q0p A.1 1 (inlAt out A.1 i) 0:=⟨_,rfl⟩
   rw[←hC]at hst hstop hap2 hob3 hord
   rw[hat]at hap2
   have hil2:i < (out.map cEx).length:=by simpa using hil
   have hil3:i < ((out,L).1.map cEx).length:=hil2
   have hol3:((out,L).1.map cEx).length<=1048576:=hol
   refine zM ?_
   refine AOps.callC hΓc hap2 rfl rfl rfl rfl rfl rfl rfl hou (by simp[idsF]) ?_
   rw[←hat]
   refine zA ?_
   refine ACode.cond rfl (fun hb5=>?_) (fun hb5=>?_)
   ·have h5:C.2≠0:=by simpa using hb5
    refine zA ?_
    have hfin:=hstop (by rw[if_pos h5])
    rw[hfin]
    exact APure.fin (r':=.tup [.one (.sl 5 (out.map cEx)),.one (.sl 3 (L.map cS)),.one (int 0)]) rfl (WkF.tup (.cons (.refl _) (.cons (.one (.gsE rfl)) (.cons (.refl _) .nil)))) (by simp) hou rfl
   have h5:C.2=0:=by simpa using hb5
   rw[if_neg (by simpa using h5)]at hst
   have hob3:=hob3 h5
   have hord:=hord h5
   refine zA ?_
   refine AOps.app tabOk rfl rfl rfl rfl rfl rfl rfl rfl rfl (Base.gs' _ 41 3 _ _ rfl rfl) (.sl _ _) rfl ?_ ?_ ?_
   ·rw[List.length_map];show (L.length+2) * 24<=_;omega
   ·rw[List.length_map];show L.length+2<=_;omega
   refine zA ?_
   obtain⟨P,hP⟩:∃P,P=inlAt out A.1 i:=⟨_,rfl⟩
   rw[←hP]at hst ⊢
   obtain⟨L',hL'⟩:∃L',L'=L++[(12,k,0),(1,P,0)]:=⟨_,rfl⟩
   have hsn:L'.map cS=L.map cS++[[int 12,int k,int 0],[int 1,int P,int 0]]:=by rw[hL',List.map_append];rfl
   have hll:L'.length=L.length+2:=by rw[hL'];simp
   refine cInv ⟨m,(C.1,L'),fun q=>if q=0 then 3 else q,by omega,⟨hob3,hord.1,t+1,by show L'.length=_;omega,by omega,?_⟩,?_⟩
   ·rw[hst,hL'];simp
   ·show LessR _ _ _ [(9,.one (.gs 3 (L'.map cS) (.l 0))),(8,.one (.sl 5 (C.1.map cEx))),(1,.one (int B))] ⟨1,[(0,.tok 41 3 (L'.map cS).length)],ou⟩
    rw[hsn]
    exact LessR.of rfl (FrSub.consGs rfl rfl (by rw[←hsn];simp) (FrSub.consP rfl (.ofEq rfl) (by simp) (FrSub.cons rfl (.ofEq rfl) .nil))) (by rw[←hsn];simp) zLO rfl rfl hou
 ·have hlt:¬t+1<=B / 2:=by simp at hb3;omega
  have hm0:m=0:=by omega
  subst hm0
  refine zA ?_
  have hfin:=hstop rfl
  rw[hfin]
  exact APure.fin (r':=.tup [.one (.sl 5 (out.map cEx)),.one (.sl 3 (L.map cS)),.one (int 0)]) rfl (WkF.tup (.cons (.refl _) (.cons (.one (.gsE rfl)) (.cons (.refl _) .nil)))) (by simp) hou rfl
variable {Γ:List (Nat×List AC)}
theorem Qfv(t:Tr):APure Tryz.prog Γ 132 [.one (.box (cTr t))] (.one (int ((Q58 t:Nat):Int))):=by
 cases t with
 |mk o n b ks a=>
 intro ou
 refine AFn.walk 22 tabOk Tryz.func132 rfl (by kernel_rfl) rfl rfl fun hou=>?_
 have hV:Q58 (.mk o n b ks a)=if o=3∨o=6∨o=8∨o=9∨o=10∨o=11 then ks.length else if o=7∨o=12 then 1 else 0:=rfl
 rw[hV]
 by_cases h1:o=3∨o=6∨o=8∨o=9∨o=10∨o=11
 ·rw[if_pos h1]
  rcases h1 with rfl|rfl|rfl|rfl|rfl|rfl
  all_goals
   refine zA ?_
   exact APure.fin rfl (WkF.ofEq (by simp[Q4a])) (by simp) hou rfl
 rw[if_neg h1]
 by_cases h2:o=7∨o=12
 ·rw[if_pos h2]
  rcases h2 with rfl|rfl
  all_goals
   refine zA ?_
   exact APure.fin rfl (WkF.ofEq rfl) (by simp) hou rfl
 rw[if_neg h2]
 repeat' first|refine zN ?_|(with_reducible refine oj ?_;refine AOps.splitS rfl rfl rfl rfl (fun hb=>?_) (fun hb=>?_))|(with_reducible refine ok ?_;first|refine ACode.condS rfl (fun hb=>?_) (fun hb=>?_)|refine ACode.cond rfl (fun hb=>?_) (fun hb=>?_))
 all_goals first
  |exact APure.fin rfl (WkF.ofEq rfl) (by simp) hou rfl
  |(exfalso;simp at *;omega)
end Go.Proofs.YtpaonemmbhbgoaaGreatDoor
namespace Go.Abs
theorem RV.setC{w:World}{C:Ctx}{a b:AC}(hab:∀v,R w C a v->R w C b v):∀{cs:List AC}{off:Nat}{xs:List Value},RV w C cs xs->cs[off]?=some a->RV w C (cs.set off b) xs
 |[],_,_,_,h=>by simp at h
 |c::cs,0,xs,⟨x,xs',e,h1,h2⟩,h=>by
  simp only[List.getElem?_cons_zero,Option.some.injEq]at h
  subst h
  exact⟨x,xs',e,hab x h1,h2⟩
 |c::cs,off+1,xs,⟨x,xs',e,h1,h2⟩,h=>by
  simp only[List.getElem?_cons_succ]at h
  exact⟨x,xs',e,h1,RV.setC hab h2 h⟩
theorem AOps.freezeArrO{E:Env}{ops:Array Oper}{l:List Oper}{K:Cont}{fr:Fr}{σ:St}(i j:Id)(off:Nat){s cap:Nat}{es:List (List AC)}{cs:List AC}(hg:σ.get i=some (.cells (vec s es cap)))(hl:∀x∈es,x.length=s)(hgj:(σ.set i .dead).get j=some (.cells cs))(hoff:cs[off]?=some (.arr i s 0 es.length cap))
  (h : AOps E ops l K fr ((σ.set i .dead).set j (.cells (cs.set off (.sl s es))))) : AOps E ops l K fr σ := by
 intro F w0 C0 w C tmps hgo hi hf
 obtain⟨h1,h2,h3⟩:=Qd3 hi hf hg (fr':=[]) trivial
 obtain⟨hok,zs,T,b1,b2,b3,b4⟩:=hi.obj i _ hg
 have key:∀v,R w (C.froze (C.blk i)) (.arr i s 0 es.length cap) v->R w (C.froze (C.blk i)) (.sl s es) v:=by
  intro u hr
  simp only[R,Nat.zero_mul]at hr
  refine⟨some ⟨C.blk i,0,none⟩,cap,hr.2.1,hr.2.2,.inr ⟨_,rfl,rfl,?_⟩⟩
  have hfl:=Q3x hl
  have hzl:=RV.length b3
  have hv:RV w (C.froze (C.blk i)) es.flatten (zs.take (es.length * s)):=by
   have:=(b3.take (es.length * s)).ext h1.chg
   rwa [vec,List.take_append_of_le_length (by omega),List.take_of_length_le (by omega)]at this
  refine RS.ofVals 0 hl hv fun j v hj=>⟨?_,.inr rfl⟩
  have h2:j < es.length * s:=by have:=(List.getElem?_eq_some_iff.1 hj).1;simp at this;omega
  rw[List.getElem?_take_of_lt h2]at hj
  rw[Nat.zero_add,cell_of_row _ _ _ _ _ _ b1]
  simpa using hj
 obtain⟨hokj,xs,Tj,o1,o2,o3,o4⟩:=h2.obj j _ hgj
 obtain⟨he,hi'⟩:=h2.turn hgj (g:=(C.froze (C.blk i)).blk j) rfl (w':=w) rfl (fun _ _=>rfl) (fun _ _ _=>rfl) (o':=.cells (cs.set off (.sl s es))) rfl fun _=>⟨xs,Tj,o1,o2,RV.setC key o3 hoff,o4⟩
 refine h F w0 C0 w _ tmps (hgo.trans h1.toO) hi' ⟨hf.1,fun k x hk=>?_⟩
 obtain⟨u,hu,hr⟩:=hf.2 k x hk
 exact⟨u,hu,hr.ext h1.chg⟩
end Go.Abs
namespace Go.Proofs.YtpaonemmbhbgoaaGreatDoor
open Go Go.Abs Go.CoreX
variable {Γ:List (Nat×List AC)}
theorem Qni{ks:List LTr}{cap p:Nat}(v:LTr)(hp:p < ks.length):(vec 1 (kC ks) cap).set p (.ptr (.o v.id) 0)=vec 1 (kC (ks.set p v)) cap:=by
 have hf:∀l:List LTr,(kC l).flatten=l.map fun t=>AC.ptr (.o t.id) 0:=fun l=>by
  induction l with
  |nil=>rfl
  |cons t l ih=>simp only[kC,List.map_cons,List.flatten_cons]at ih ⊢;rw[ih];rfl
 unfold vec
 rw[hf,hf,Q0q,Q0q,List.length_set,List.set_append_left _ _ (by simpa using hp),List.map_set]
theorem kC_one(l:List LTr):∀x∈kC l,x.length=1:=fun x hx=>by
 obtain⟨t,_,rfl⟩:=List.mem_map.1 hx
 rfl
set_option maxHeartbeats 1000000 in
theorem Qo9(hΓ:∀g cs,(g,cs)∈Γ->idsL isO cs)(root t:LTr)(lts:List LTr)(hpt:Q24 t)(hkt:okT (erT t))(hst:allT shpL (erT t))(hkr:okT (erT root))(hm:mostT (erT root)<=1048576)(n:Int)(ou:Outer)(hot:Owns ou (objs t))(hor:Owns ou (objs root)):
  AFn Tryz.prog Γ 109 [.one (.box [.sl 1 (kC lts),.ptr (.o root.id) 0]),.one (.ptr (.o t.id) 0),.one (int n)] ou (ResD ou t (Q8d (erT root) (erT t) n)):=by
 have hM:=Qgq hΓ (erT root) hkr
 have hm0:=Qhs (erT root)
 unfold Qiv at hM
 obtain⟨X,hX⟩:∃X,X=Q8d (erT root) (erT t) n:=⟨_,rfl⟩
 rw[←hX]
 unfold Q8d at hX
 have hOp:=Qfv (Γ:=Γ) (erT t)
 obtain⟨P,hP⟩:∃P,P=Q58 (erT t):=⟨_,rfl⟩
 rw[←hP]at hX hOp
 generalize mostT (erT root)=M at hM hm0 hm hX
 have hkk:=Q41 t
 cases t with
 |mk i o nn nb b ks a=>
 obtain rfl:nb=none:=hpt.1
 have hi:ou i=some (.cells (lC (.mk i o nn none b ks a))):=Q09 hot
 simp only[lC,bC]at hi
 have hkl:ks.length<=1048576:=by have:=hkt.2.1;simpa[Q0g]using this
 have hPl:P<=ks.length:=by
  rw[hP]
  have:Q58 (erT (.mk i o nn none b ks a))=if o=3∨o=6∨o=8∨o=9∨o=10∨o=11 then (erTs ks).length else if o=7∨o=12 then 1 else 0:=rfl
  rw[this,Q0g,List.length_map]
  split
  ·omega
  ·split
   ·rename_i h1 h2
    rcases h2 with h2|h2
    ·have:=(Q8n (o:=o) (n:=nn) (b:=b) (k:=erTs ks) (a:=a.map LAlt.er) hst h2).1
     rw[Q0g,List.length_map]at this
     omega
    ·subst h2
     have:=(Q30 (o:=12) (n:=nn) (b:=b) (k:=erTs ks) (a:=a.map LAlt.er) hst (by decide) rfl).1
     rw[Q0g,List.length_map]at this
     simp at this
     omega
   ·omega
 refine AFn.walk 75 tabOk Tryz.func109 rfl (by kernel_rfl) rfl rfl fun hou=>?_
 have hnil:X=none->ResD ou (.mk i o nn none b ks a) X nilP ou:=fun h=>by rw[h];exact ResD.no rfl hou
 refine zA ?_
 refine AOps.splitS rfl rfl rfl rfl (fun hb1=>?_) (fun hb1=>?_)
 ·have h1:n < 0:=by simpa using hb1
  rw[if_pos (.inl h1)]at hX
  refine zA ?_
  exact AFn.fin' rfl (WkF.refl _) (by simp) hou (hnil hX)
 have h1:¬n < 0:=by simpa using hb1
 obtain⟨N,rfl⟩:∃N:Nat,n=N:=⟨n.toNat,by omega⟩
 refine zM ?_
 refine AOps.callS hΓ hOp (Plain.lit _) rfl rfl rfl rfl rfl rfl (Q2f.t1 (t:=.mk i o nn none b ks a) hot) ?_
 refine zM ?_
 refine AOps.splitS rfl rfl rfl rfl (fun hb2=>?_) (fun hb2=>?_)
 ·have h2:(P:Int)<=N:=by simpa using hb2
  rw[if_pos (.inr (.inl h2))]at hX
  refine zA ?_
  exact AFn.fin' rfl (WkF.refl _) (by simp) hou (hnil hX)
 have h2:¬(P:Int)<=N:=by simpa using hb2
 obtain⟨s,hs⟩:=Q00 (l:=ks) (i:=N) (by omega)
 have hsm:s∈(LTr.mk i o nn none b ks a).kids:=List.mem_of_getElem? hs
 have hso:=Q14 hot hsm
 have hks:kidT (erT (.mk i o nn none b ks a)) N=erT s:=Qi1 (by rw[hkk];simp[LTr.kids,hs])
 rw[Int.toNat_natCast,hks]at hX
 repeat' first|refine zN ?_|((with_reducible refine oj ?_);first|refine zix ?_|refine zow rfl rfl hi ?_)
 refine zS (zIA rfl rfl rfl (by omega) (by simpa using Q2n hs)) ?_
 refine zM ?_
 refine AOps.callS hΓ (Qdf (erT s)) (Plain.lit _) rfl rfl rfl rfl rfl rfl (Q2f.t1 hso) ?_
 refine zM ?_
 refine ACode.condS rfl (fun hb3=>?_) (fun hb3=>?_)
 ·have h3:atomT (erT s)=true:=by simpa using hb3
  rw[if_pos (.inr (.inr h3))]at hX
  refine zA ?_
  exact AFn.fin' rfl (WkF.refl _) (by simp) hou (hnil hX)
 have h3:¬atomT (erT s)=true:=by simpa using hb3
 rw[if_neg (by rintro (h|h|h);exact h1 h;exact h2 h;exact h3 h)]at hX
 rw[hkk]at hX
 have hNl:N<=(kC ks).length:=by rw[Q0q];omega
 repeat' first|refine zN ?_|((with_reducible refine oj ?_);first|refine zix ?_|refine zow rfl rfl hi ?_)
 refine zS (AStep.sliceTo (b:=N) (es:=kC ks) tabOk rfl rfl rfl rfl rfl rfl hNl) ?_
 refine AOps.wk 34 rfl (y:=.one (.sl 1 (kC (ks.take N)))) (.ofEq (by simp only[kC,List.map_take])) ?_
 refine zA ?_
 have hln:(kC (ks.take N)).length=N:=by rw[Q0q,List.length_take];omega
 refine ACode.loopR hΓ (α:=Nat) (fun p=>[(36,.one (int p)),(35,.one (int (kC (ks.take N)).length)),(34,.one (.sl 1 (kC (ks.take N)))),(2,.one (int N)),(1,.one (.ptr (.o i) 0)),(0,.one (.box [.sl 1 (kC lts),.ptr (.o root.id) 0]))])
  (fun p=>⟨0,[],ou⟩) (fun m p=>p<=N/\((ks.take p).map erT).all valT=true/\m=N - p) (a0:=0) (ρ:=id) ⟨by omega,rfl,rfl⟩ (LessR.of rfl zFS (by simp) zLO rfl rfl hou) fun m p hp=>?_
 obtain⟨hpl,hall,rfl⟩:=hp
 refine zA ?_
 refine ACode.cond rfl (fun hb4=>?_) (fun hb4=>?_)
 ·have hlt:p < N:=by simp[hln]at hb4;omega
  clear hb4
  obtain⟨q,hq⟩:=Q00 (l:=ks) (i:=p) (by omega)
  have hqm:q∈(LTr.mk i o nn none b ks a).kids:=List.mem_of_getElem? hq
  have hqo:=Q14 hot hqm
  have hqk:=Q2k hkt (Q1y hqm)
  have hqs:=Q1x hst (Q1y hqm)
  have hval:=Q43 hΓ (erT q) hqk hqs
  have htk:((ks.take (p+1)).map erT).all valT=(((ks.take p).map erT).all valT&&valT (erT q)):=by rw[Q0n hq];simp
  refine zA ?_
  refine zS (zIA rfl rfl rfl (by omega) (by rw[Int.toNat_natCast];exact Q2n (by rw[List.getElem?_take_of_lt hlt];exact hq))) ?_
  refine zA ?_
  refine AOps.callS hΓ hval (Plain.lit _) rfl rfl rfl rfl rfl rfl (Q2f.t1 hqo) ?_
  refine zA ?_
  refine ACode.condS rfl (fun hb5=>?_) (fun hb5=>?_)
  ·have h5:valT (erT q)=false:=by simpa using hb5
   have h6:((LTr.mk i o nn none b ks a).kids.map erT |>.take N).all valT=false:=by
    rw[List.all_eq_false]
    refine⟨erT q,?_,by rw[h5];simp⟩
    rw[←List.map_take]
    refine List.mem_map_of_mem (List.mem_of_getElem? (i:=p) ?_)
    rw[List.getElem?_take_of_lt hlt]
    exact hq
   rw[if_pos h6]at hX
   refine zA ?_
   exact AFn.fin' rfl (WkF.refl _) (by simp) hou (hnil hX)
  ·have h5:valT (erT q)=true:=by simpa using hb5
   refine zM ?_
   exact cInv ⟨N - (p+1),p+1,id,by omega,⟨by omega,by rw[htk,hall,h5];rfl,rfl⟩,LessR.of rfl zFS (by simp) zLO rfl rfl hou⟩
 have hpe:p=N:=by simp[hln]at hb4;omega
 subst hpe
 have h6:¬((LTr.mk i o nn none b ks a).kids.map erT |>.take p).all valT=false:=by
  rw[←List.map_take]
  show ¬((ks.take p).map erT).all valT=false
  rw[hall];simp
 rw[if_neg h6]at hX
 clear hb4
 refine zA ?_
 refine AOps.callS hΓ hM (Plain.lit _) rfl rfl rfl rfl rfl rfl (Q2f.t1 hor) ?_
 refine zM ?_
 refine zS (AStep.loadOwnA tabOk rfl rfl rfl rfl rfl hi) ?_
 repeat' first|refine zN ?_|((with_reducible refine oj ?_);first|refine zix ?_|refine zow rfl rfl hi ?_)
 refine AOps.appOwn tabOk rfl rfl rfl rfl rfl rfl rfl rfl rfl (.nil 1) (.sl 1 (kC ks)) (by intro h;have:=congrArg List.length h;rw[Q0q,List.length_nil]at this;omega) rfl (by rw[Q0q,List.length_nil,Nat.zero_add];show _ * 8<=_;omega) (by rw[Q0q,List.length_nil,Nat.zero_add];omega) fun cap hc=>?_
 simp only[List.nil_append]at hc ⊢
 refine zA ?_
 refine zS (idxI tabOk rfl rfl rfl rfl rfl rfl rfl (by rw[Q0q];omega)) ?_
 have hpl2:p < ks.length:=by omega
 refine AOps.wkObj (.l 2) rfl (cs':=[int 0,int (M+1),.sl 1 [],.sl 1 [],.sl 2 []]) (fun w C xs h=>?_) ?_
 ·exact (show WkL _ _ from .cons (.refl _) (.cons (.refl _) (.cons (.nilS 1) (.cons (.nilS 1) (.cons (.nilS 2) .nil))))) w C xs h
 have hθ:∀(k:Nat) (i:Abs.Id),isO i->toOs [2] k i=i:=fun k i hi=>by cases i with|l q=>exact hi.elim|o q=>rfl
 have hidK:∀(l:List LTr) (cap:Nat),idsL isO (vec 1 (kC l) cap):=fun l cap=>Qcz (Qd0 l)
 refine AOps.cedes [2] rfl (by decide) hou fun k1 hk1=>⟨[(65,.one (.ptr (.l 1) p)),(64,.one (.ptr (.o k1) 0)),(10,.one (.ptr (.l 0) 0)),(9,.one (int (M+1))),(2,.one (int p)),(1,.one (.ptr (.o i) 0))],
  [(1,.cells (vec 1 (kC ks) cap)),(0,.cells [int o,int nn,.sl 1 (b.map cI),.arr (.l 1) 1 0 (kC ks).length cap,.sl 2 (a.map lAlt)])],[.cells [int 0,int (M+1),.sl 1 [],.sl 1 [],.sl 2 []]],?_,?_,?_,?_⟩
 ·exact .cons rfl rfl (.cons rfl rfl (.cons rfl rfl (.cons rfl rfl (.cons rfl rfl (.cons rfl rfl .nil)))))
 ·refine .cons rfl rfl (AObj.sub_f (hθ k1) _ (hidK _ _)) (.cons rfl rfl ?_ .nil)
  simp only[AObj.sub,subL,AC.sub]
  rw[Q95 (hθ k1) (b.map cI) (by simp),Q95 (hθ k1) (a.map lAlt) (Q5b _ (fun _=>trivial) _)]
  rfl
 ·exact .cons rfl rfl .nil
 obtain⟨v,hv⟩:∃v:LTr,v=.mk k1 0 (M+1) none [] [] []:=⟨_,rfl⟩
 have hN1:NewO ou (ouAdd ou k1 [.cells [int 0,int (M+1),.sl 1 [],.sl 1 [],.sl 2 []]]) [(v.id,.cells (lC v))]:=by
  rw[hv]
  exact NewO.add hk1 hou (by simp)
 obtain⟨ou1,hou1⟩:∃ou1,ou1=ouAdd ou k1 [.cells [int 0,int (M+1),.sl 1 [],.sl 1 [],.sl 2 []]]:=⟨_,rfl⟩
 rw[←hou1]at hN1
 show AOps _ _ _ _ _ ⟨3,_,ouAdd ou k1 [.cells [int 0,int (M+1),.sl 1 [],.sl 1 [],.sl 2 []]]⟩
 rw[←hou1]
 have hvs:=Qni (cap:=cap) v hpl2
 rw[show v.id=k1 by rw[hv];rfl]at hvs
 refine AOps.storeOwn (cs:=vec 1 (kC ks) cap) (c:=.ptr (.o k1) 0) tabOk rfl rfl rfl rfl rfl rfl rfl rfl (by rw[vec,List.length_append,Q3x (kC_one ks),Q0q];omega) ?_
 rw[hvs]
 obtain⟨ks',hks'⟩:∃ks',ks'=ks.set p v:=⟨_,rfl⟩
 rw[←hks']
 have hkl':(kC ks).length=(kC ks').length:=by rw[Q0q,Q0q,hks',List.length_set]
 rw[hkl']
 refine AOps.freezeArrO (.l 1) (.l 0) 3 (s:=1) (cap:=cap) (es:=kC ks') (cs:=[int o,int nn,.sl 1 (b.map cI),.arr (.l 1) 1 0 (kC ks').length cap,.sl 2 (a.map lAlt)]) rfl (kC_one ks') rfl rfl ?_
 have hθ0:∀(k:Nat) (i:Abs.Id),isO i->toOs [0] k i=i:=fun k i hi=>by cases i with|l q=>exact hi.elim|o q=>rfl
 refine AOps.cedes [0] rfl (by decide) hN1.ok fun k2 hk2=>⟨[(10,.one (.ptr (.o k2) 0)),(9,.one (int (M+1))),(2,.one (int p)),(1,.one (.ptr (.o i) 0))],
  [],[.cells [int o,int nn,.sl 1 (b.map cI),.sl 1 (kC ks'),.sl 2 (a.map lAlt)]],?_,.nil,?_,?_⟩
 ·exact .cons rfl rfl (.cons rfl rfl (.cons rfl rfl (.cons rfl rfl .nil)))
 ·exact .cons rfl (AObj.sub_f (hθ0 k2) _ (Q3v o nn none b ks' a)) .nil
 obtain⟨ux,hux⟩:∃ux:LTr,ux=.mk k2 o nn none b ks' a:=⟨_,rfl⟩
 have hN2:NewO ou1 (ouAdd ou1 k2 [.cells [int o,int nn,.sl 1 (b.map cI),.sl 1 (kC ks'),.sl 2 (a.map lAlt)]]) [(ux.id,.cells (lC ux))]:=by
  rw[hux]
  exact NewO.add hk2 hN1.ok (Q3v o nn none b ks' a)
 show AOps _ _ _ _ _ ⟨3,_,ouAdd ou1 k2 [.cells [int o,int nn,.sl 1 (b.map cI),.sl 1 (kC ks'),.sl 2 (a.map lAlt)]]⟩
 obtain⟨ou2,hou2⟩:∃ou2,ou2=ouAdd ou1 k2 [.cells [int o,int nn,.sl 1 (b.map cI),.sl 1 (kC ks'),.sl 2 (a.map lAlt)]]:=⟨_,rfl⟩
 rw[←hou2]at hN2 ⊢
 have hi1:ou1 i=_:=hN1.oldS hi
 have hi2:ou2 i=_:=hN2.oldS hi1
 have hlet:=Qej hΓ (M+1) s ux ou2
 rw[show ux.id=k2 by rw[hux];rfl]at hlet
 repeat' first|refine zN ?_|((with_reducible refine oj ?_);first|refine zix ?_|refine zow rfl rfl hi2 ?_)
 refine zS (zIA rfl rfl rfl (by omega) (by simpa using Q2n hs)) ?_
 repeat' first|refine zN ?_|((with_reducible refine oj ?_);first|refine zix ?_|refine zow rfl rfl hi2 ?_)
 refine AOps.call1 hΓ rfl rfl rfl rfl rfl rfl rfl (by simp[idsF]) hN2.ok hlet fun r ou3 hq hids hou3=>?_
 obtain⟨k3,rfl,hN3⟩:=hq
 refine zA ?_
 refine AFn.fin' rfl (WkF.refl _) (by simp) hou3 ?_
 rw[hX]
 have hP1:PartO ou ou1 (tailO (.mk i o nn none b ks a)) (tailO ux):=fun q hq=>by
  rw[hux]at hq
  simp only[tailO,bO,Q6s hpt.2.1,List.nil_append]at hq
  rw[Q3s]at hq
  obtain⟨w,hw,hqw⟩:=List.mem_flatMap.1 hq
  rw[hks']at hw
  rcases List.mem_or_eq_of_mem_set hw with hw|rfl
  ·exact .inl (Q1f (t:=.mk i o nn none b ks a) hw hqw)
  ·have hqv:q=(w.id,.cells (lC w)):=by
    rw[hv]at hqw ⊢
    simpa[objs,bO,aO,objss,lC,LTr.id]using hqw
   subst hqv
   exact .inr ⟨hN1.new _ (by simp[keys]),hN1.own _ (by simp)⟩
 have hD1:Der ou ou2 (tailO (.mk i o nn none b ks a)) ux:=Der.node (fun j o' hj=>hN1.oldS hj) hN2 hP1
 have hD2:Der ou ou3 (tailO (.mk i o nn none b ks a)) (letN k3 (M+1) s ux):=Der.let hD1 hN3 fun q hq=>.inl (Q1f hsm hq)
 refine⟨letN k3 (M+1) s ux,rfl,?_,hD2⟩
 rw[Q9t,hux,hks']
 simp only[erT,Q0g,List.map_set,LTr.kids]
 rw[hv]
 rfl
theorem nameA{e:List Ex}(he:okB e)(h:check e=0){rule n:Int}{at':Nat}:NameOk e rule n at':=by
 refine⟨fun _ ou lts root t hL hr ht hO hn=>?_,fun _ ou lts root t hL hr ht hO h0=>?_⟩
 ·have o:=Opened.of he h hL hr hO
  have htm:=List.mem_of_getElem? ht
  have hN:=Qo9 hΓc root t lts (o.pl t htm) (o.ok t htm) (o.sh t htm) (o.ok root o.rin) (by rw[o.rer];have:=o.most;omega) n ou (o.own t htm) (o.own root o.rin)
  rw[o.rer]at hN
  exact hN.mono fun r ou' hq=>ResD.w (o.own t htm) hn hq
 ·have o:=Opened.of he h hL hr hO
  have hU:=Qdq hΓc root t lts o.len o.pl o.ok (fun t ht=>by have:=o.ct t ht;omega) o.sh (by rw[o.rer];have:=o.most;omega) o.rin (List.mem_of_getElem? ht) h0 ou o.own
  rw[o.map,o.rer]at hU
  exact hU
theorem Qnf(e:List Ex)(he:okB e)(rule at' n:Int):APure Tryz.prog Γc 56 [.one (.sl 5 (e.map cEx)),.agg [int rule,int at',int n]] (.tup [.one (.sl 5 ((Q0p e rule at' n).1.map cEx)),.one (int (Q0p e rule at' n).2)]):=Qdl e he rule at' n fun h _ _=>nameA he h
theorem Q62:∀(l r:List Step3)(e:List Ex),Q2i e (l++r)=(Q2i e l).bind fun f=>Q2i f r
 |[],r,e=>rfl
 |(a,i,n)::l,r,e=>by
  simp only[List.cons_append,Q2i]
  split
  ·exact Q62 l r _
  ·rfl
theorem Qbo:∀(m:Nat)(e:List Ex),Q2i e (inlGo m e).2=some (inlGo m e).1
 |0,e=>rfl
 |m+1,e=>by
  simp only[inlGo]
  cases candE e with
  |none=>rfl
  |some p=>
   obtain⟨k,i⟩:=p
   dsimp only
   split
   ·rfl
   rename_i h1
   split
   ·rfl
   rename_i h2
   have h1:(inl1 e k).2=0:=by simpa using h1
   have h2:(Q0p (inl1 e k).1 1 (inlAt e (inl1 e k).1 i) 0).2=0:=by simpa using h2
   simp only[Q2i]
   rw[if_pos (by exact h1)]
   rw[if_pos (by exact h2)]
   exact Qbo m _
theorem Qm8:∀(m:Nat)(e:List Ex),Ordd e->Ordd (inlGo m e).1
 |0,e,h=>h
 |m+1,e,h=>by
  simp only[inlGo]
  cases candE e with
  |none=>exact h
  |some p=>
   obtain⟨k,i⟩:=p
   dsimp only
   split
   ·exact h
   split
   ·exact h
   rename_i h2
   exact Qm8 m _ (Q76 (by simpa using h2))
theorem Qk4(e f:List Ex)(he:okB e)(hf:okB f)(l:List Step3)(hl:l.length<=2000)(hce:check e=0)(hcf:check f=0)(g:List Ex)(hg:Q2i (listT [] (grow e)) l=some g)(b:Bool)
  (hs:APure Tryz.prog Γc 21 [.one (.sl 5 (g.map cEx)),.one (.sl 5 (f.map cEx))] (.one (.lit (.bool b)))):
  APure Tryz.prog Γc 23 [.one (.sl 5 (e.map cEx)),.one (.sl 5 (f.map cEx)),.one (.sl 3 (l.map cS))] (.one (int (if b then 0 else 14))):=by
 have c1:=Q2r e he
 have c2:=Q2r f hf
 rw[hce]at c1
 rw[hcf]at c2
 have t1:=Q0f hce
 have hll:(listT [] (grow e)).length<=1048576:=by rw[Qhy hce];exact he.eo.l
 intro ou
 refine AFn.walk 49 tabOk Tryz.func23 rfl (by kernel_rfl) rfl rfl fun hou=>?_
 refine zA ?_
 refine zca hΓc c1 hou ?_
 refine zA ?_
 refine zca hΓc c2 hou ?_
 refine zA ?_
 refine ACode.cond rfl (fun hb=>absurd hb (by simp;omega)) (fun hb=>?_)
 refine zA ?_
 refine zca hΓc (Q6c hΓc e he.eo t1.k t1.ne) hou ?_
 refine zca hΓc (Qaq hΓc (grow e) (he.t t1.k t1.ne) hll) hou ?_
 refine zA ?_
 refine ACode.loopR hΓc (α:=Nat×List Ex) (fun c=>[(31,.one (int c.1)),(30,.one (int (l.map cS).length)),(29,.one (.sl 3 (l.map cS))),(1,.one (.sl 5 (f.map cEx))),(0,.one (.sl 5 (c.2.map cEx)))])
  (fun c => ⟨0, [], ou⟩) (fun m c => c.1 <= l.length /\ Q2i c.2 (l.drop c.1) = some g /\ okB c.2 /\ m = l.length - c.1) (a0 := (0, listT [] (grow e))) (ρ := id) ⟨by simp, hg, Q6t he hce, rfl⟩ (LessR.of rfl zFS (by simp) zLO rfl rfl hou) fun m c hi => ?_
 obtain⟨i,cur⟩:=c
 obtain⟨hil,hrp,hoc,rfl⟩:=hi
 dsimp only at hil hrp hoc ⊢
 refine zA ?_
 refine ACode.cond rfl (fun hb2=>?_) (fun hb2=>?_)
 ·have hlt:i < l.length:=by simpa using hb2
  clear hb2
  obtain⟨s,hx⟩:=Q00 hlt
  obtain⟨r,p,n⟩:=s
  have hd:l.drop i=(r,p,n)::l.drop (i+1):=by
   rw[List.drop_eq_getElem_cons hlt]
   congr 1
   exact Option.some.inj ((List.getElem?_eq_getElem hlt).symm.trans hx)
  rw[hd]at hrp
  simp only[Q2i]at hrp
  split at hrp
  ·rename_i hk
   have hap:=Qnf cur hoc r p n
   have hon:=Q3q hoc hk
   rw[show Q0p cur r p n=((Q0p cur r p n).1,0)from Prod.ext rfl hk]at hap
   dsimp only at hap
   generalize (Q0p cur r p n).1=nx at hap hrp hon
   refine zA ?_
   refine zS (zIA rfl rfl rfl (by omega) (Q04 hx)) ?_
   refine zA ?_
   refine AOps.callC hΓc hap rfl rfl rfl rfl rfl rfl rfl hou (by simp[idsF]) ?_
   refine zM ?_
   exact cInv ⟨l.length - (i+1),(i+1,nx),id,by omega,⟨by omega,hrp,hon,rfl⟩,LessR.of rfl zFS (by simp) zLO rfl rfl hou⟩
  ·cases hrp
 ·have hlt:i=l.length:=by simp at hb2;omega
  subst hlt
  simp[Q2i]at hrp
  subst hrp
  refine zA ?_
  refine zca hΓc hs hou ?_
  refine zA ?_
  refine ACode.cond rfl (fun hb=>?_) (fun hb=>?_)
  ·have hbf:b=false:=by simpa using hb
   subst hbf
   refine zA ?_
   exact APure.fin rfl (WkF.ofEq rfl) (by simp) hou rfl
  ·have hbf:b=true:=by simpa using hb
   subst hbf
   refine zA ?_
   exact APure.fin rfl (WkF.ofEq rfl) (by simp) hou rfl
theorem Qj1(e:List Ex)(A M N:Nat):Q2i e ((Q0y A e).2++(inlGo M (Q0y A e).1).2++(Q0y N (inlGo M (Q0y A e).1).1).2)=some (Q0y N (inlGo M (Q0y A e).1).1).1:=by
 rw[Q62,Q62,Q51,Option.bind_some,Qbo,Option.bind_some,Q51]
theorem Qol{f:List Ex}(h:Ordd f){b:Nat}(hb:b<=500):inlE f b=((inlGo (b / 2) f).1,(inlGo (b / 2) f).2,0):=by
 unfold inlE
 rw[if_neg (by simpa using h.1),if_neg (by omega),Int.toNat_natCast,h.2]
end Go.Proofs.YtpaonemmbhbgoaaGreatDoor
namespace Go.CoreX
mutual
inductive Vl where
 |nil
 |word (n:Int)
 |clo (t:Tr) (e:En)
 |obj (tag:Int) (fs:List Vl)
 |row (ls:List Int) (fs:List Vl)
 |arr (a:Nat)
 |res (fs:List Fm)
 |cap (fn:Int) (slots:List Vl)
inductive En where
 |nil
 |bind (id:Int) (v:Vl) (next:En)
 |recs (t:Tr) (next:En)
inductive Fm where
 |mk (t:Tr) (e:En) (done:List Vl)
end
instance:Inhabited Vl:=⟨.nil⟩
instance:Inhabited Fm:=⟨.mk default .nil []⟩
def Fm.t:Fm->Tr|.mk t _ _=>t
def Fm.e:Fm->En|.mk _ e _=>e
def Fm.done:Fm->List Vl|.mk _ _ d=>d
@[simp] theorem Fm.t_mk (t e d):(Fm.mk t e d).t=t:=rfl
@[simp] theorem Fm.e_mk (t e d):(Fm.mk t e d).e=e:=rfl
@[simp] theorem Fm.done_mk (t e d):(Fm.mk t e d).done=d:=rfl

def Q9u (l:List Int)(id:Int):Nat->Option Nat
 |0=>none
 |i+1=>if l.getD i 0=id then some i else Q9u l id i
def findE (id:Int):En->Vl
 |.nil=>.nil
 |.bind i v n=>if i=id then v else findE id n
 |.recs t n=>match Q9u t.binds id t.binds.length with
  |some i=>.clo (t.kids.getD i default) (.recs t n)
  |none=>findE id n
def allE (e:En):List Int->List Vl->En
 |id::ids,l=>allE (.bind id (l.headD .nil) e) ids l.tail
 |[],_=>e

inductive Ctl where
 |ev (t:Tr) (e:En)
 |rt (v:Vl)
structure Ms where
 c:Ctl
 k:List Fm
 out:List Int
 steps:Int
 heap:List (List Vl)
structure Fun where
 params:List Int
 body:Tr

def condV (b:Bool):Vl:=.obj (if b then 1 else 0) []
def wrapW (n:Int):Int:=(n+1073741824) % 2147483648 - 1073741824
def wordV:Vl->Except Int Int
 |.word n=>.ok n
 |_=>.error 5
def Qm3 (h:List (List Vl)):Vl->Except Int (Nat×List Vl)
 |.arr a=>.ok (a,h.getD a [])
 |_=>.error 5
def rowsV:Vl->Except Int (List Int×List Vl)
 |.row ls fs=>.ok (ls,fs)
 |_=>.error 5

def bsGo (l:List Int)(x:Int):Nat->Nat->Nat->Nat
 |0,i,_=>i
 |g+1,i,j=>if i < j then (if l.getD ((i+j) / 2) 0 < x then bsGo l x g ((i+j) / 2+1) j else bsGo l x g i ((i+j) / 2))else i
def bsAt (l:List Int)(x:Int):Nat:=bsGo l x l.length 0 l.length
def bsIs (l:List Int)(x:Int):Bool:=decide (bsAt l x < l.length)&&l.getD (bsAt l x) 0==x

def Qic (fu:Int)(m:Ms)(many:Int)(v:Vl):Except Int (Ms×Vl):=
 if many < 0∨1024 < many then .error 6 else if fu - m.steps < many then .error (-1) else
 .ok ({ m with steps:=m.steps+many,heap:=m.heap++[List.replicate many.toNat v] },.arr m.heap.length)
def Qdg (m:Ms)(n:Int)(l:List Vl):Except Int (Ms×Vl):=do
 let (a,its) ←Qm3 m.heap (l.getD 0 .nil)
 if n=9 then return (m,.word its.length)
 let i ←wordV (l.getD 1 .nil)
 if i < 0∨(its.length:Int)<=i then .error 2
 else if n=10 then return (m,its.getD i.toNat .nil)
 else return ({ m with heap:=m.heap.set a (its.set i.toNat (l.getD 2 .nil)) },.obj 0 [])
def primM (fu:Int)(m:Ms)(n:Int)(l:List Vl):Except Int (Ms×Vl):=
 if n=0 then do return (m,.word (wrapW ((←wordV (l.getD 0 .nil))+(←wordV (l.getD 1 .nil))))) else
 if n=1 then do return (m,.word (wrapW ((←wordV (l.getD 0 .nil)) - (←wordV (l.getD 1 .nil))))) else
 if n=2 then do return (m,.word (wrapW ((←wordV (l.getD 0 .nil)) * (←wordV (l.getD 1 .nil))))) else
 if n=3 then do
  let a ←wordV (l.getD 0 .nil)
  let b ←wordV (l.getD 1 .nil)
  if b=0 then .error 1 else return (m,.word (wrapW (a.tdiv b))) else
 if n=4 then do
  let a ←wordV (l.getD 0 .nil)
  let b ←wordV (l.getD 1 .nil)
  if b=0 then .error 1 else return (m,.word (a.tmod b)) else
 if n=5 then do return (m,condV (decide ((←wordV (l.getD 0 .nil)) < (←wordV (l.getD 1 .nil))))) else
 if n=6 then do return (m,condV (decide ((←wordV (l.getD 0 .nil))=(←wordV (l.getD 1 .nil))))) else
 if n=7 then do
  let a ←wordV (l.getD 0 .nil)
  if m.out.length=1000 then .error 6 else return ({ m with out:=m.out++[a] },.obj 0 []) else
 if n=8 then do
  let a ←wordV (l.getD 0 .nil)
  Qic fu m a (l.getD 1 .nil) else
 Qdg m n l
def withR (ls:List Int)(fs:List Vl)(n:Int)(v:Vl):Vl:=
 if bsIs ls n then .row ls (fs.set (bsAt ls n) v)
 else .row (ls.take (bsAt ls n)++n::ls.drop (bsAt ls n)) (fs.take (bsAt ls n)++v::fs.drop (bsAt ls n))
def Q4u (fu:Int)(m:Ms)(t:Tr)(l:List Vl):Except Int (Ms×Vl):=
 if t.op=6 then .ok (m,.obj t.n l) else
 if t.op=8 then primM fu m t.n l else
 if t.op=9 then .ok (m,.row t.binds l) else
 if t.op=10 then do
  let (ls,fs) ←rowsV (l.getD 0 .nil)
  if bsIs ls t.n then return (m,fs.getD (bsAt ls t.n) .nil)else .error 3
 else do
  let (ls,fs) ←rowsV (l.getD 0 .nil)
  return (m,withR ls fs t.n (l.getD 1 .nil))
def opdN (t:Tr):Nat:=if t.op=4∨t.op=7∨t.op=13∨t.op=12 then 1 else t.kids.length
def Q4o (tag:Int)(fs:List Vl)(e:En)(kids:List Tr):Nat->List Alt->Except Int Ctl
 |_,[]=>.error 3
 |i,a::al=>if a.tag=tag then (if a.binds.length=fs.length then .ok (.ev (kids.getD (1+i) default) (allE e a.binds fs))else .error 5)
  else if a.tag=-1 then .ok (.ev (kids.getD (1+i) default) e)else Q4o tag fs e kids (i+1) al
def Qdc (m:Ms)(t:Tr)(e:En)(v:Vl):Except Int Ms:=
 match v with
 |.obj tag fs=>(Q4o tag fs e t.kids 0 t.alts).map fun c=>{ m with c:=c }
 |_=>.error 5
def callM (fns:List Fun)(m:Ms)(f:Vl)(args:List Vl):Except Int Ms:=
 match f with
 |.clo t e=>if t.binds.length=args.length then .ok { m with c:=.ev (t.kids.getD 0 default) (allE e t.binds args) }else .error 5
 |.cap n slots=>if (fns.getD n.toNat ⟨[],default⟩).params.length=args.length+1 then .ok { m with c:=.ev (fns.getD n.toNat ⟨[],default⟩).body (allE .nil (fns.getD n.toNat ⟨[],default⟩).params (.cap n slots::args)) }else .error 5
 |.res fs=>match args with
  |[a]=>.ok { m with c:=.rt a,k:=fs++m.k }
  |_=>.error 5
 |_=>.error 5
def Q2p (op:Int):Nat->List Alt->Option Nat
 |_,[]=>none
 |i,a::al=>if a.tag=op/\0 < i then some i else Q2p op (i+1) al
def Q17 (m:Ms)(op:Int)(v:Vl):List Fm->List Fm->Except Int Ms
 |_,[]=>.error 4
 |l,f::k=>match (if f.t.op=13 then Q2p op 0 f.t.alts else none) with
  |some i=>.ok { m with c:=.ev (f.t.kids.getD (1+i) default) (.bind ((f.t.alts.getD i ⟨0,[]⟩).binds.getD 1 0) (.res (l++[f])) (.bind ((f.t.alts.getD i ⟨0,[]⟩).binds.getD 0 0) v f.e)),k:=k }
  |none=>Q17 m op v (l++[f]) k
def kidM (fu:Int)(fns:List Fun)(m:Ms)(f:Fm)(k:List Fm):Except Int Ms:=
 if f.done.length < opdN f.t then .ok { m with c:=.ev (f.t.kids.getD f.done.length default) f.e,k:=f::k } else
 if f.t.op=4 then .ok { m with c:=.ev (f.t.kids.getD 1 default) (.bind (f.t.binds.getD 0 0) (f.done.getD 0 .nil) f.e),k:=k } else
 if f.t.op=7 then Qdc { m with k:=k } f.t f.e (f.done.getD 0 .nil) else
 if f.t.op=3 then callM fns { m with k:=k } (f.done.getD 0 .nil) (f.done.drop 1) else
 if f.t.op=13 then .ok { m with c:=.ev (f.t.kids.getD 1 default) (.bind ((f.t.alts.getD 0 ⟨0,[]⟩).binds.getD 0 0) (f.done.getD 0 .nil) f.e),k:=k } else
 if f.t.op=12 then Q17 m f.t.n (f.done.getD 0 .nil) [] k else
 if f.t.op=14 then .ok { m with c:=.ev (fns.getD f.t.n.toNat ⟨[],default⟩).body (allE .nil (fns.getD f.t.n.toNat ⟨[],default⟩).params f.done),k:=k } else
 if f.t.op=15 then .ok { m with c:=.rt (.cap f.t.n f.done),k:=k } else
 if f.t.op=16 then (match f.done.getD 0 .nil with
  |.cap _ slots=>if f.t.n < slots.length then .ok { m with c:=.rt (slots.getD f.t.n.toNat .nil),k:=k }else .error 5
  |_=>.error 5) else
 (Q4u fu { m with k:=k } f.t f.done).map fun (m',v)=>{ m' with c:=.rt v }
def Q3i (fu:Int)(fns:List Fun)(m:Ms)(t:Tr)(e:En):Except Int Ms:=
 if t.op=0 then .ok { m with c:=.rt (findE t.n e) } else
 if t.op=1 then .ok { m with c:=.rt (.word t.n) } else
 if t.op=2 then .ok { m with c:=.rt (.clo t e) } else
 if t.op=17 then .error t.n else
 if t.op=5 then .ok { m with c:=.ev (t.kids.getD t.binds.length default) (.recs t e) } else
 kidM fu fns m (.mk t e []) m.k
inductive Rd where
 |next (m:Ms)
 |done (m:Ms) (v:Vl)
 |fuel
 |trap (code:Int) (m:Ms)
def Q1e (fu:Int)(fns:List Fun)(m:Ms):Rd:=
 match m.c with
 |.rt v=>match m.k with
  |[]=>.done m v
  |f::k=>match kidM fu fns m (.mk f.t f.e (f.done++[v])) k with
   |.ok m'=>.next m'
   |.error c=>.trap c m
 |.ev t e=>if m.steps=fu then .fuel else
  match Q3i fu fns { m with steps:=m.steps+1 } t e with
  |.ok m'=>.next m'
  |.error c=>.trap c { m with steps:=m.steps+1 }
structure Rs where
 out:List Int
 fin:Int
 val:Int
 steps:Int
 err:Int
 deriving DecidableEq
def lastV:Vl->Int
 |.word n=>n
 |.obj t _=>t
 |_=>0
def noFuel:Rs:=⟨[],0,0,0,13⟩
def goM (fu:Int)(fns:List Fun):Nat->Ms->Option Rs
 |0,_=>none
 |g+1,m=>match Q1e fu fns m with
  |.next m'=>goM fu fns g m'
  |.done m v=>some ⟨m.out,0,lastV v,m.steps,0⟩
  |.fuel=>some noFuel
  |.trap c m=>some (if c < 0 then noFuel else ⟨m.out,c,0,m.steps,0⟩)
end Go.CoreX
namespace Go.CoreX
inductive Rn (fu:Int)(fns:List Fun):Nat->Ms->Ms->Prop
 |zero (m:Ms):Rn fu fns 0 m m
 |succ {n:Nat}{m m1 m':Ms}(h:Q1e fu fns m=.next m1) (k:Rn fu fns n m1 m'):Rn fu fns (n+1) m m'
section
variable {fu:Int}{fns:List Fun}
theorem Rn.trans{n n':Nat}{m m1 m2:Ms}(a:Rn fu fns n m m1)(b:Rn fu fns n' m1 m2):Rn fu fns (n'+n) m m2:=by
 induction a with
 |zero m=>exact b
 |succ h k ih=>exact .succ h (ih b)
theorem Rn.go{n:Nat}{m m':Ms}(a:Rn fu fns n m m')(g:Nat):goM fu fns (g+n) m=goM fu fns g m':=by
 induction a with
 |zero m=>rfl
 |succ h k ih=>
  rw[←Nat.add_assoc,goM,h]
  exact ih
def Rs' (fu:Int)(fns:List Fun)(m m':Ms):Prop:=∃n,Rn fu fns n m m'
theorem Rs'.trans{m m1 m2:Ms}(a:Rs' fu fns m m1)(b:Rs' fu fns m1 m2):Rs' fu fns m m2:=by
 obtain⟨n,a⟩:=a;obtain⟨k,b⟩:=b;exact⟨_,a.trans b⟩
theorem Rs'.one{m m1 m2:Ms}(h:Q1e fu fns m=.next m1)(b:Rs' fu fns m1 m2):Rs' fu fns m m2:=by
 obtain⟨k,b⟩:=b;exact⟨_,.succ h b⟩
end
end Go.CoreX
namespace Go.CoreX
section
variable {fu:Int}{fns:List Fun}
def tV (n:Int):Tr:=.mk 0 n [] [] []
def tW (n:Int):Tr:=.mk 1 n [] [] []
end
end Go.CoreX
namespace Go.CoreX
mutual
def szV:Vl->Nat
 |.res fs=>szFs fs
 |_=>0
def szVs:List Vl->Nat
 |[]=>0
 |v::vs=>szV v+szVs vs
def szF:Fm->Nat
 |.mk _ _ d=>1+szVs d
def szFs:List Fm->Nat
 |[]=>0
 |f::fs=>szF f+szFs fs
end
theorem Qno(a b:List Fm):szFs (a++b)=szFs a+szFs b:=by
 induction a with
 |nil=>simp[szFs]
 |cons x a ih=>simp[szFs,ih];omega
def phase (m:Ms):Nat:=match m.c with
 |.ev _ _=>0
 |.rt _=>1+szFs m.k
structure After (fu:Int)(m m':Ms)(b:Nat):Prop where
 ge:m.steps<=m'.steps
 le:m.steps<=fu->m'.steps<=fu
 ph:phase m' < 1+b
theorem Qby{tag:Int}{fs:List Vl}{e:En}{kids:List Tr}{c:Ctl}:∀(i:Nat)(l:List Alt),Q4o tag fs e kids i l=.ok c->∃t e',c=.ev t e'
 |_,[],h=>by cases h
 |i,a::al,h=>by
  unfold Q4o at h
  split at h
  ·split at h
   ·cases h;exact⟨_,_,rfl⟩
   ·cases h
  ·split at h
   ·cases h;exact⟨_,_,rfl⟩
   ·exact Qby _ al h
theorem Q9k{m m':Ms}{op:Int}{v:Vl}:∀(l k:List Fm),Q17 m op v l k=.ok m'->(∃t e',m'.c=.ev t e')/\m'.steps=m.steps
 |_,[],h=>by cases h
 |l,f::k,h=>by
  unfold Q17 at h
  split at h
  ·cases h;exact⟨⟨_,_,rfl⟩,rfl⟩
  ·exact Q9k _ k h
theorem Qfr{fu:Int}{m m':Ms}{n:Int}{l:List Vl}{v:Vl}(h:primM fu m n l=.ok (m',v)):m.steps<=m'.steps/\(m.steps<=fu->m'.steps<=fu)/\m'.k=m.k:=by
 have bd:∀{α β:Type}{x:Except Int α}{f:α->Except Int β}{r:β},x.bind f=.ok r->∃a,x=.ok a/\f a=.ok r:=by
  intro α β x f r hh
  cases x with
  |error c=>cases hh
  |ok a=>exact⟨a,rfl,hh⟩
 unfold primM at h
 repeat' split at h
 all_goals try (simp only[bind,Except.bind,pure,Except.pure]at h;repeat' split at h)
 all_goals try (cases h;done)
 all_goals try (cases h;exact⟨Int.le_refl _,id,rfl⟩)
 ·unfold Qic at h
  repeat' split at h
  all_goals try (cases h;done)
  cases h
  refine⟨?_,?_,rfl⟩ <;> simp <;> omega
 ·unfold Qdg at h
  simp only[bind,Except.bind,pure,Except.pure]at h
  repeat' split at h
  all_goals try (cases h;done)
  all_goals (cases h;exact⟨Int.le_refl _,id,rfl⟩)
theorem Q8b{fu:Int}{m m':Ms}{t:Tr}{l:List Vl}{v:Vl}(h:Q4u fu m t l=.ok (m',v)):m.steps<=m'.steps/\(m.steps<=fu->m'.steps<=fu)/\m'.k=m.k:=by
 unfold Q4u at h
 repeat' split at h
 ·cases h;exact⟨Int.le_refl _,id,rfl⟩
 ·exact Qfr h
 ·cases h;exact⟨Int.le_refl _,id,rfl⟩
 ·simp only[bind,Except.bind,pure,Except.pure]at h
  repeat' split at h
  all_goals try (cases h;done)
  all_goals (cases h;exact⟨Int.le_refl _,id,rfl⟩)
 ·simp only[bind,Except.bind,pure,Except.pure]at h
  repeat' split at h
  all_goals try (cases h;done)
  all_goals (cases h;exact⟨Int.le_refl _,id,rfl⟩)
theorem Q7s{fu:Int}{fns:List Fun}{m m':Ms}{f:Fm}{k:List Fm}(h:kidM fu fns m f k=.ok m')(d0:List Vl)(v:Vl)(hd:f.done=d0++[v]∨(f.done=[]/\d0=[])):After fu m m' (1+szVs d0+szFs k):=by
 unfold kidM at h
 split at h
 ·cases h;exact⟨Int.le_refl _,id,by simp[phase];omega⟩
 split at h
 ·cases h;exact⟨Int.le_refl _,id,by simp[phase];omega⟩
 split at h
 ·unfold Qdc at h
  split at h
  ·cases hc:Q4o _ _ f.e f.t.kids 0 f.t.alts with
   |error c=>rw[hc]at h;cases h
   |ok c=>
    rw[hc]at h
    obtain⟨t,e',rfl⟩:=Qby _ _ hc
    cases h
    exact⟨Int.le_refl _,id,by simp[phase];omega⟩
  ·cases h
 split at h
 ·unfold callM at h
  split at h
  ·split at h
   ·cases h;exact⟨Int.le_refl _,id,by simp[phase];omega⟩
   ·cases h
  ·split at h
   ·cases h;exact⟨Int.le_refl _,id,by simp[phase];omega⟩
   ·cases h
  ·rename_i fs hf
   split at h
   ·rename_i a ha
    cases h
    refine⟨Int.le_refl _,id,?_⟩
    simp only[phase,Qno]
    rcases hd with hd|⟨hd,_⟩
    ·rw[hd]at hf ha
     have:d0=[.res fs]:=by
      have hl:=congrArg List.length ha
      simp at hl
      match d0,hl with
      |[x],_=>simp at hf;rw[hf]
     subst this
     simp[szVs,szV]
    ·rw[hd]at ha;cases ha
   ·cases h
  ·cases h
 split at h
 ·cases h;exact⟨Int.le_refl _,id,by simp[phase];omega⟩
 split at h
 ·obtain⟨⟨t,e',hc⟩,hs⟩:=Q9k _ _ h
  refine⟨by rw[hs];exact Int.le_refl _,fun hh=>by rw[hs];exact hh,?_⟩
  simp[phase,hc];omega
 split at h
 ·cases h;exact⟨Int.le_refl _,id,by simp[phase];omega⟩
 split at h
 ·cases h;exact⟨Int.le_refl _,id,by simp[phase];omega⟩
 split at h
 ·split at h
  ·split at h
   ·cases h;exact⟨Int.le_refl _,id,by simp[phase];omega⟩
   ·cases h
  ·cases h
 ·cases hp:Q4u fu { m with k:=k } f.t f.done with
  |error c=>rw[hp]at h;cases h
  |ok mv=>
   obtain⟨m2,v2⟩:=mv
   rw[hp]at h
   cases h
   obtain⟨h1,h2,h3⟩:=Q8b hp
   refine⟨h1,h2,?_⟩
   simp only[phase,h3];omega
end Go.CoreX
namespace Go.CoreX
structure GP where
 p:Lab->Prop
 S:Int->Prop
 W:Int->Prop
 fns:List Fun
 R:Prop:=True
structure GPok (G:GP):Prop where
 sh:∀l,G.p l->shpQ l
 bnd:∀l,G.p l->∀i∈Q07 l.op l.binds l.alts,G.S i
 wd:∀l,G.p l->l.op=1->G.W l.n
 rc:∀l,G.p l->l.op=5->∀i,i < l.binds.length->l.ops[i]?=some 2
 wr:∀n,G.W (wrapW n)
 wl:∀n:Int,0<=n->n<=1024->G.W n
 wm:∀a b:Int,G.W a->G.W b->G.W (a.tmod b)
 fn:∀f∈G.fns,allT G.p f.body/\∀i∈f.params,G.S i
 cl:∀l,G.p l->l.op=14∨l.op=15->0<=l.n/\l.n < G.fns.length
 rs:∀l,G.p l->l.op=12->G.R
def nLf (o:Int):Prop:=¬(o=0∨o=1∨o=2∨o=17∨o=5)
mutual
def gV (G:GP):Vl->Prop
 |.nil=>True
 |.word n=>G.W n
 |.clo t e=>t.op=2/\allT G.p t/\gE G e
 |.obj _ fs=>gVs G fs
 |.row ls fs=>ls.length=fs.length/\gVs G fs
 |.arr _=>True
 |.res fs=>G.R/\gFs G fs
 |.cap n sl=>(0<=n/\n < G.fns.length)/\gVs G sl
def gVs (G:GP):List Vl->Prop
 |[]=>True
 |v::l=>gV G v/\gVs G l
def gE (G:GP):En->Prop
 |.nil=>True
 |.bind i v n=>G.S i/\gV G v/\gE G n
 |.recs t n=>t.op=5/\allT G.p t/\gE G n
def gF (G:GP):Fm->Prop
 |.mk t e d=>allT G.p t/\gE G e/\gVs G d/\d.length < opdN t/\nLf t.op
def gFs (G:GP):List Fm->Prop
 |[]=>True
 |f::l=>gF G f/\gFs G l
end
def gC (G:GP):Ctl->Prop
 |.ev t e=>allT G.p t/\gE G e
 |.rt v=>gV G v
structure gM (G:GP)(m:Ms):Prop where
 c:gC G m.c
 k:gFs G m.k
 h:∀r∈m.heap,r.length<=1024/\gVs G r
section
variable {G:GP}(hG:GPok G)
theorem Q21:∀{l:List Vl},gVs G l↔∀v∈l,gV G v
 |[]=>by simp[gVs]
 |v::l=>by simp[gVs,Q21 (l:=l)]
theorem Qd2:∀{l:List Fm},gFs G l↔∀v∈l,gF G v
 |[]=>by simp[gFs]
 |v::l=>by simp[gFs,Qd2 (l:=l)]
theorem gF_iff{f:Fm}:gF G f↔allT G.p f.t/\gE G f.e/\gVs G f.done/\f.done.length < opdN f.t/\nLf f.t.op:=by cases f;exact Iff.rfl
theorem Q3b{l:List Vl}(h:gVs G l)(i:Nat):gV G (l.getD i .nil):=by
 rw[List.getD_eq_getElem?_getD]
 cases hi:l[i]? with
 |none=>simp[gV]
 |some v=>exact Q21.1 h v (List.mem_of_getElem? hi)
theorem Qg7{a b:List Vl}(ha:gVs G a)(hb:gVs G b):gVs G (a++b):=Q21.2 fun v hv=>(List.mem_append.1 hv).elim (Q21.1 ha v) (Q21.1 hb v)
theorem Qg8{a b:List Fm}(ha:gFs G a)(hb:gFs G b):gFs G (a++b):=Qd2.2 fun v hv=>(List.mem_append.1 hv).elim (Qd2.1 ha v) (Qd2.1 hb v)
theorem Qa5:∀{ids:List Int}{l:List Vl}{e:En},gE G e->gVs G l->(∀i∈ids,G.S i)->gE G (allE e ids l)
 |[],_,_,he,_,_=>he
 |i::ids,l,e,he,hl,hs=>by
  refine Qa5 (ids:=ids) ⟨hs i (by simp),?_,he⟩ ?_ fun j hj=>hs j (by simp[hj])
  ·cases l with
   |nil=>simp[gV]
   |cons v l=>exact hl.1
  ·cases l with
   |nil=>simp[gVs]
   |cons v l=>exact hl.2
include hG
theorem g_sh{t:Tr}(h:allT G.p t):ShN t.op t.n t.binds t.kids.length t.alts:=Qkn (Q79 hG.sh t h)
theorem g_bnd{t:Tr}(h:allT G.p t):∀i∈Q07 t.op t.binds t.alts,G.S i:=hG.bnd _ (Q2q h)
theorem Qml{t:Tr}(h:allT G.p t){i:Nat}{a:Alt}(ha:t.alts[i]?=some a):∀j∈a.binds,G.S j:=fun j hj=>g_bnd hG h j (by
 unfold Q07
 exact List.mem_append.2 (.inr (List.mem_flatMap.2 ⟨a,List.mem_of_getElem? ha,hj⟩)))
omit hG in
theorem Qek{l:List Int}{id:Int}:∀{n i:Nat},Q9u l id n=some i->i < n/\l.getD i 0=id
 |0,_,h=>by cases h
 |n+1,i,h=>by
  unfold Q9u at h
  split at h
  ·rename_i he;cases h;exact⟨by omega,he⟩
  ·have:=Qek h;exact⟨by omega,this.2⟩
theorem Qop{t:Tr}(h:allT G.p t)(h5:t.op=5){i:Nat}(hi:i < t.binds.length):(t.kids.getD i default).op=2/\allT G.p (t.kids.getD i default)/\i < t.kids.length:=by
 have h1:=hG.rc _ (Q2q h) h5 i hi
 simp only at h1
 rw[List.getElem?_map]at h1
 cases hk:t.kids[i]? with
 |none=>rw[hk]at h1;cases h1
 |some s=>
  rw[hk]at h1
  have hl:=(List.getElem?_eq_some_iff.1 hk).1
  refine⟨?_,Q3e h hl,hl⟩
  rw[List.getD_eq_getElem?_getD,hk]
  simpa using h1
theorem Qg9{id:Int}:∀{e:En},gE G e->gV G (findE id e)
 |.nil,_=>by simp[findE,gV]
 |.bind i v n,h=>by
  unfold findE
  split
  ·exact h.2.1
  ·exact Qg9 h.2.2
 |.recs t n,h=>by
  unfold findE
  split
  ·rename_i i hi
   have h1:=(Qek hi).1
   have h2:=Qop hG h.2.1 h.1 h1
   exact⟨h2.1,h2.2.1,h.1,h.2.1,h.2.2⟩
  ·exact Qg9 h.2.2
theorem Qf5{t:Tr}{e:En}{tag:Int}{fs:List Vl}{c:Ctl}(ht:allT G.p t)(h7:t.op=7)(he:gE G e)(hf:gVs G fs):∀(l:List Alt)(i:Nat),t.alts.drop i=l->Q4o tag fs e t.kids i l=.ok c->gC G c
 |[],_,_,h=>by cases h
 |a::al,i,hd,h=>by
  have ha:t.alts[i]?=some a:=by
   have:=congrArg (·[0]?) hd
   simpa using this
  have hl:=(List.getElem?_eq_some_iff.1 ha).1
  have hsh:=g_sh hG ht
  rw[h7]at hsh
  have hk:1+i < t.kids.length:=by rw[hsh.case.1];omega
  unfold Q4o at h
  split at h
  ·split at h
   ·cases h;exact⟨Q3e ht hk,Qa5 he hf (Qml hG ht ha)⟩
   ·cases h
  ·split at h
   ·cases h;exact⟨Q3e ht hk,he⟩
   ·exact Qf5 ht h7 he hf al (i+1) (by rw[←List.drop_drop,hd];rfl) h
omit hG in
theorem Q75{op:Int}:∀{l:List Alt}{i j:Nat},Q2p op i l=some j->0 < j/\i<=j/\∃a,l[j - i]?=some a/\a.tag=op
 |[],_,_,h=>by cases h
 |a::al,i,j,h=>by
  unfold Q2p at h
  split at h
  ·rename_i hc;cases h;exact⟨hc.2,by omega,a,by simp,hc.1⟩
  ·obtain⟨h1,h2,b,h3,h4⟩:=Q75 h
   refine⟨h1,by omega,b,?_,h4⟩
   rw[show j - i=(j - (i+1))+1 by omega];simpa using h3
theorem Qbc{op:Int}{v:Vl}{m m':Ms}(hR:G.R)(hv:gV G v)(hh:∀r∈m.heap,r.length<=1024/\gVs G r):∀{k l:List Fm},gFs G l->gFs G k->Q17 m op v l k=.ok m'->gM G m'
 | [], _, _, _, h => by cases h
 |f::k,l,hl,hk,h=>by
  unfold Q17 at h
  split at h
  ·rename_i i hi
   split at hi
   ·rename_i h13
    obtain⟨h1,h2,a,h3,h4⟩:=Q75 hi
    cases h
    cases f with
    |mk t e d=>
     obtain⟨g1,g2,g3,g4⟩:=hk.1
     simp only[Fm.t_mk,Fm.e_mk]at *
     have hsh:=g_sh hG g1
     rw[h13]at hsh
     have h3:t.alts[i]?=some a:=by simpa using h3
     have hil:=(List.getElem?_eq_some_iff.1 h3).1
     have hb:=(hsh.handle.2.2.2 i a h3).2
     rw[if_neg (by omega)]at hb
     have hS:=Qml hG g1 h3
     have hga:t.alts.getD i ⟨0,[]⟩=a:=by rw[List.getD_eq_getElem?_getD,h3];rfl
     match hab:a.binds,hb with
     |[x,y],_=>
      refine⟨⟨Q3e g1 (by rw[hsh.handle.1];omega),?_,?_,?_,hv,g2⟩,hk.2,hh⟩
      ·rw[hga,hab];exact hS _ (by rw[hab];simp)
      ·exact⟨hR,Qg8 (b:=[_]) hl ⟨⟨g1,g2,g3,g4⟩,trivial⟩⟩
      ·rw[hga,hab];exact hS _ (by rw[hab];simp)
   ·cases hi
  ·exact Qbc hR hv hh (Qg8 (b:=[f]) hl ⟨hk.1,trivial⟩) hk.2 h
theorem primM_g{fu:Int}{m m':Ms}{n:Int}{l:List Vl}{v:Vl}(hl:gVs G l)(hh:∀r∈m.heap,r.length<=1024/\gVs G r)(h:primM fu m n l=.ok (m',v)):gV G v/\∀r∈m'.heap,r.length<=1024/\gVs G r:=by
 have hw:∀{i:Nat}{a:Int},wordV (l.getD i .nil)=.ok a->G.W a:=by
  intro i a ha
  have:=Q3b hl i
  cases hv:l.getD i Vl.nil <;> rw[hv]at ha this <;> first|(cases ha;done)|(cases ha;exact this)
 unfold primM at h
 repeat' split at h
 all_goals try (simp only[bind,Except.bind,pure,Except.pure]at h;repeat' split at h)
 all_goals try (cases h;done)
 all_goals try (cases h;refine⟨?_,hh⟩;first|exact hG.wr _|(simp only[condV,gV,gVs];done))
 ·rename_i a ha _ b hb _
  cases h;exact⟨hG.wm _ _ (hw ha) (hw hb),hh⟩
 ·unfold Qic at h
  repeat' split at h
  all_goals try (cases h;done)
  cases h
  refine⟨trivial,fun r hr=>?_⟩
  rcases List.mem_append.1 hr with hr|hr
  ·exact hh r hr
  ·simp at hr
   subst hr
   refine⟨by simp;omega,Q21.2 fun v hv=>?_⟩
   rw[(List.mem_replicate.1 hv).2]
   exact Q3b hl 1
 ·unfold Qdg at h
  simp only[bind,Except.bind,pure,Except.pure]at h
  have hit:∀{a:Nat}{its:List Vl},Qm3 m.heap (l.getD 0 .nil)=.ok (a,its)->its.length<=1024/\gVs G its:=by
   intro a its ha
   cases hv:l.getD 0 Vl.nil <;> rw[hv]at ha <;> try (cases ha;done)
   cases ha
   rw[List.getD_eq_getElem?_getD]
   cases hr:m.heap[a]? with
   |none=>simp[gVs]
   |some r=>exact hh r (List.mem_of_getElem? hr)
  cases hp:Qm3 m.heap (l.getD 0 .nil) with
  |error c=>rw[hp]at h;cases h
  |ok p=>
   obtain⟨a,its⟩:=p
   rw[hp]at h
   simp only at h
   by_cases h9:n=9
   ·rw[if_pos h9]at h
    cases h
    exact⟨hG.wl _ (by omega) (by have:=(hit hp).1;omega),hh⟩
   rw[if_neg h9]at h
   cases hw1:wordV (l.getD 1 .nil) with
   |error c=>rw[hw1]at h;cases h
   |ok i=>
    rw[hw1]at h
    simp only at h
    split at h
    ·cases h
    split at h
    ·cases h
     exact⟨Q3b (hit hp).2 _,hh⟩
    ·cases h
     refine⟨by simp only[gV,gVs],fun r hr=>?_⟩
     rcases List.mem_or_eq_of_mem_set hr with hr|hr
     ·exact hh r hr
     ·subst hr
      refine⟨by simpa using (hit hp).1,Q21.2 fun v hv=>?_⟩
      rcases List.mem_or_eq_of_mem_set hv with hv|hv
      ·exact Q21.1 (hit hp).2 v hv
      ·rw[hv];exact Q3b hl 2
theorem Qo4{fu:Int}{m m':Ms}{t:Tr}{l:List Vl}{v:Vl}(ht:allT G.p t)(hlen:l.length=t.kids.length)(hl:gVs G l)(hh:∀r∈m.heap,r.length<=1024/\gVs G r)(h:Q4u fu m t l=.ok (m',v)):gV G v/\∀r∈m'.heap,r.length<=1024/\gVs G r:=by
 have hr:∀{ls:List Int}{fs:List Vl},rowsV (l.getD 0 .nil)=.ok (ls,fs)->ls.length=fs.length/\gVs G fs:=by
  intro ls fs ha
  have:=Q3b hl 0
  cases hv:l.getD 0 Vl.nil <;> rw[hv]at ha this <;> first|(cases ha;done)|(cases ha;exact this)
 unfold Q4u at h
 split at h
 ·cases h;exact⟨hl,hh⟩
 split at h
 ·exact primM_g hG hl hh h
 split at h
 ·rename_i h9
  cases h
  have:=g_sh hG ht
  rw[h9]at this
  exact⟨⟨by rw[hlen];exact this.row.1.symm,hl⟩,hh⟩
 split at h
 ·simp only[bind,Except.bind,pure,Except.pure]at h
  repeat' split at h
  all_goals try (cases h;done)
  rename_i _ p hp _
  obtain⟨ls,fs⟩:=p
  cases h
  exact⟨Q3b (hr hp).2 _,hh⟩
 ·simp only[bind,Except.bind,pure,Except.pure]at h
  repeat' split at h
  all_goals try (cases h;done)
  rename_i _ p hp
  obtain⟨ls,fs⟩:=p
  cases h
  refine⟨?_,hh⟩
  have hv:=Q3b hl 1
  obtain⟨h1,h2⟩:=hr hp
  unfold withR
  split
  ·refine⟨by simpa using h1,Q21.2 fun v hv'=>?_⟩
   rcases List.mem_or_eq_of_mem_set hv' with h3|h3
   ·exact Q21.1 h2 v h3
   ·rw[h3];exact hv
  ·refine⟨by simp[h1],Qg7 (Q21.2 fun v hv'=>Q21.1 h2 v (List.mem_of_mem_take hv')) ⟨hv,Q21.2 fun v hv'=>Q21.1 h2 v (List.mem_of_mem_drop hv')⟩⟩
theorem g_fn(n:Int)(h:0<=n/\n < G.fns.length):allT G.p (G.fns.getD n.toNat ⟨[],default⟩).body/\∀i∈(G.fns.getD n.toNat ⟨[],default⟩).params,G.S i:=by
 have hl:n.toNat < G.fns.length:=by omega
 rw[List.getD_eq_getElem?_getD,List.getElem?_eq_getElem hl]
 exact hG.fn _ (List.getElem_mem hl)
theorem g_opN{t:Tr}(ht:allT G.p t):opdN t<=t.kids.length:=by
 have hsh:=g_sh hG ht
 unfold opdN
 split
 ·rename_i h
  rcases h with h|h|h|h <;> rw[h]at hsh
  ·rw[hsh.lett.1];omega
  ·rw[hsh.case.1];omega
  ·rw[hsh.handle.1];omega
  ·rw[(hsh.one (.inr (.inl rfl))).1];omega
 ·omega
theorem kidM_g{fu:Int}{m m':Ms}{f:Fm}{k:List Fm}(ht:allT G.p f.t)(he:gE G f.e)(hd:gVs G f.done)(hl:f.done.length<=opdN f.t)(hn:nLf f.t.op)(hk:gFs G k)(hh:∀r∈m.heap,r.length<=1024/\gVs G r)(h:kidM fu G.fns m f k=.ok m'):gM G m':=by
 have hsh:=g_sh hG ht
 have hop:=g_opN hG ht
 have hv:=Q3b hd 0
 unfold kidM at h
 split at h
 ·rename_i hlt
  cases h
  refine⟨⟨Q3e ht (by omega),he⟩,⟨?_,hk⟩,hh⟩
  cases f;exact⟨ht,he,hd,hlt,hn⟩
 rename_i hge
 split at h
 ·rename_i h4
  cases h
  rw[h4]at hsh
  obtain⟨h1,h2,h3⟩:=hsh.lett
  refine⟨⟨Q3e ht (by omega),?_,hv,he⟩,hk,hh⟩
  have:=g_bnd hG ht
  unfold Q07 at this
  rw[if_pos (by omega)]at this
  match hb:f.t.binds,h2 with
  |[x],_=>rw[hb]at this;exact this x (by simp)
 split at h
 ·rename_i h7
  unfold Qdc at h
  split at h
  ·rename_i tag fs hobj
   cases hc:Q4o tag fs f.e f.t.kids 0 f.t.alts with
   |error c=>rw[hc]at h;cases h
   |ok c=>
    rw[hc]at h
    cases h
    rw[hobj]at hv
    exact⟨Qf5 hG ht h7 he hv _ 0 rfl hc,hk,hh⟩
  ·cases h
 split at h
 ·rename_i h3
  have hd1:gVs G (f.done.drop 1):=Q21.2 fun v hv'=>Q21.1 hd v (List.mem_of_mem_drop hv')
  unfold callM at h
  split at h
  ·rename_i t e hclo
   rw[hclo]at hv
   split at h
   ·cases h
    have h1:=g_sh hG hv.2.1
    have h2:=g_bnd hG hv.2.1
    rw[hv.1]at h1
    unfold Q07 at h2
    rw[hv.1,if_pos (by simp)]at h2
    refine⟨⟨Q3e hv.2.1 (by have:=h1.lam.1;omega),Qa5 hv.2.2 hd1 fun i hi=>h2 i (List.mem_append.2 (.inl hi))⟩,hk,hh⟩
   ·cases h
  ·rename_i n slots hcap
   rw[hcap]at hv
   split at h
   ·cases h
    have:=g_fn hG n hv.1
    exact⟨⟨this.1,Qa5 trivial ⟨hv,hd1⟩ this.2⟩,hk,hh⟩
   ·cases h
  ·rename_i fs hres
   rw[hres]at hv
   split at h
   ·rename_i a ha
    cases h
    rw[ha]at hd1
    exact⟨hd1.1,Qg8 hv.2 hk,hh⟩
   ·cases h
  ·cases h
 split at h
 ·rename_i h13
  cases h
  rw[h13]at hsh
  obtain⟨h1,h2,h3,h4⟩:=hsh.handle
  refine⟨⟨Q3e ht (by omega),?_,hv,he⟩,hk,hh⟩
  obtain⟨a,ha⟩:∃a,f.t.alts[0]?=some a:=⟨_,List.getElem?_eq_getElem (by omega)⟩
  have hb:=(h4 0 a ha).2
  rw[if_pos rfl]at hb
  have hS:=Qml hG ht ha
  have hga:f.t.alts.getD 0 ⟨0,[]⟩=a:=by rw[List.getD_eq_getElem?_getD,ha];rfl
  rw[hga]
  match hab:a.binds,hb with
  |[x],_=>rw[hab]at hS;exact hS x (by simp)
 split at h
 ·rename_i h12
  exact Qbc hG (hG.rs _ (Q2q ht) h12) (l:=[]) hv hh trivial hk h
 split at h
 ·rename_i h14
  cases h
  have:=g_fn hG f.t.n (hG.cl _ (Q2q ht) (.inl h14))
  exact⟨⟨this.1,Qa5 trivial hd this.2⟩,hk,hh⟩
 split at h
 ·rename_i h15
  cases h
  exact⟨⟨hG.cl _ (Q2q ht) (.inr h15),hd⟩,hk,hh⟩
 split at h
 ·split at h
  ·rename_i n slots hcap
   rw[hcap]at hv
   split at h
   ·cases h;exact⟨Q3b hv.2 _,hk,hh⟩
   ·cases h
  ·cases h
 ·rename_i h4 h7 h3 h13 h12 h14 h15 h16
  cases hp:Q4u fu { m with k:=k } f.t f.done with
  |error c=>rw[hp]at h;cases h
  |ok mv=>
   obtain⟨m2,v2⟩:=mv
   rw[hp]at h
   cases h
   have hlen:f.done.length=f.t.kids.length:=by
    unfold opdN at hge hl
    rw[if_neg (by omega)]at hge hl
    omega
   obtain⟨g1,g2⟩:=Qo4 hG (m:={ m with k:=k }) ht hlen hd hh hp
   refine⟨g1,?_,g2⟩
   rw[(Q8b hp).2.2];exact hk
theorem Qnr{fu:Int}{m m':Ms}{t:Tr}{e:En}(ht:allT G.p t)(he:gE G e)(hk:gFs G m.k)(hh:∀r∈m.heap,r.length<=1024/\gVs G r)(h:Q3i fu G.fns m t e=.ok m'):gM G m':=by
 unfold Q3i at h
 split at h
 ·cases h;exact⟨Qg9 hG he,hk,hh⟩
 split at h
 ·rename_i h1
  cases h;exact⟨hG.wd _ (Q2q ht) h1,hk,hh⟩
 split at h
 ·rename_i h2
  cases h;exact⟨⟨h2,ht,he⟩,hk,hh⟩
 split at h
 ·cases h
 split at h
 ·rename_i h5
  cases h
  have hsh:=g_sh hG ht
  rw[h5]at hsh
  exact⟨⟨Q3e ht (by have:=hsh.recs.1;omega),h5,ht,he⟩,hk,hh⟩
 ·rename_i h0 h1 h2 h17 h5
  exact kidM_g hG (f:=.mk t e []) ht he trivial (Nat.zero_le _) (fun hh=>hh.elim h0 fun hh=>hh.elim h1 fun hh=>hh.elim h2 fun hh=>hh.elim h17 h5) hk hh h
theorem Qh8{fu:Int}{m m':Ms}(hm:gM G m)(h:Q1e fu G.fns m=.next m'):gM G m':=by
 unfold Q1e at h
 split at h
 ·rename_i v hc
  have hv:gV G v:=by have:=hm.c;rw[hc]at this;exact this
  split at h
  ·cases h
  ·rename_i f k hk
   have hf:=hm.k
   rw[hk]at hf
   split at h
   ·rename_i m2 hkid
    cases h
    obtain⟨g1,g2,g3,g4,g5⟩:=gF_iff.1 hf.1
    exact kidM_g hG (f:=.mk f.t f.e (f.done++[v])) g1 g2 (Qg7 (b:=[v]) g3 ⟨hv,trivial⟩) (by simp only[Fm.done_mk,Fm.t_mk,List.length_append,List.length_singleton];omega) g5 hf.2 hm.h hkid
   ·cases h
 ·rename_i t e hc
  have ht:allT G.p t/\gE G e:=by have:=hm.c;rw[hc]at this;exact this
  split at h
  ·cases h
  ·split at h
   ·rename_i m2 hst
    cases h
    exact Qnr hG (m:={ m with steps:=m.steps+1 }) ht.1 ht.2 hm.k hm.h hst
   ·cases h
end
end Go.CoreX
namespace Go.CoreX
structure Sim where
 ν:Int->Int
 eb:En
 kb:List Fm
 ob:List Int
 hb:List (List Vl)
 st:Int
section
variable {s:Sim}{G:GP}
section
variable (ν:Int->Int)(t:Tr)
end
end
end Go.CoreX
namespace Go.CoreX
section
variable {s:Sim}{G:GP}
def goX (fu:Int)(fns:List Fun):Nat->Ms->Option Rd
 |0,_=>none
 |g+1,m=>match Q1e fu fns m with
  |.next m'=>goX fu fns g m'
  |r=>some r
def outR:Rd->Nat
 |.done m _=>m.out.length
 |.trap _ m=>m.out.length
 |.next m=>m.out.length
 |.fuel=>1001
theorem Qo2{fu:Int}{m m':Ms}{n:Int}{l:List Vl}{v:Vl}(h:primM fu m n l=.ok (m',v)):m.out.length<=m'.out.length:=by
 unfold primM at h
 repeat' split at h
 all_goals try (simp only[bind,Except.bind,pure,Except.pure]at h;repeat' split at h)
 all_goals try (cases h;done)
 all_goals try (cases h;exact Nat.le_refl _)
 ·cases h;simp
 ·unfold Qic at h
  repeat' split at h
  all_goals try (cases h;done)
  cases h;exact Nat.le_refl _
 ·unfold Qdg at h
  simp only[bind,Except.bind,pure,Except.pure]at h
  repeat' split at h
  all_goals try (cases h;done)
  all_goals (cases h;exact Nat.le_refl _)
theorem Qla{fu:Int}{m m':Ms}{t:Tr}{l:List Vl}{v:Vl}(h:Q4u fu m t l=.ok (m',v)):m.out.length<=m'.out.length:=by
 unfold Q4u at h
 repeat' split at h
 ·cases h;exact Nat.le_refl _
 ·exact Qo2 h
 ·cases h;exact Nat.le_refl _
 ·simp only[bind,Except.bind,pure,Except.pure]at h
  repeat' split at h
  all_goals try (cases h;done)
  all_goals (cases h;exact Nat.le_refl _)
 ·simp only[bind,Except.bind,pure,Except.pure]at h
  repeat' split at h
  all_goals try (cases h;done)
  all_goals (cases h;exact Nat.le_refl _)
theorem Q9j{m m':Ms}{op:Int}{v:Vl}:∀(l k:List Fm),Q17 m op v l k=.ok m'->m'.out=m.out
 |_,[],h=>by cases h
 |l,f::k,h=>by
  unfold Q17 at h
  split at h
  ·cases h;rfl
  ·exact Q9j _ k h
theorem Qm1{fu:Int}{fns:List Fun}{m m':Ms}{f:Fm}{k:List Fm}(h:kidM fu fns m f k=.ok m'):m.out.length<=m'.out.length:=by
 unfold kidM at h
 repeat' split at h
 all_goals try (cases h;done)
 all_goals try (cases h;exact Nat.le_refl _)
 ·unfold Qdc at h
  split at h
  ·cases hc:Q4o _ _ f.e f.t.kids 0 f.t.alts <;> rw[hc]at h <;> cases h
   exact Nat.le_refl _
  ·cases h
 ·unfold callM at h
  repeat' split at h
  all_goals try (cases h;done)
  all_goals (cases h;exact Nat.le_refl _)
 ·rw[Q9j _ _ h];exact Nat.le_refl _
 ·cases hp:Q4u fu { m with k:=k } f.t f.done with
  |error c=>rw[hp]at h;cases h
  |ok mv=>
   rw[hp]at h;cases h
   obtain⟨m2,v2⟩:=mv
   exact Qla (m:={ m with k:=k }) (m':=m2) hp
theorem Qkj{fu:Int}{fns:List Fun}{m m':Ms}{t:Tr}{e:En}(h:Q3i fu fns m t e=.ok m'):m.out.length<=m'.out.length:=by
 unfold Q3i at h
 repeat' split at h
 all_goals try (cases h;done)
 all_goals try (cases h;exact Nat.le_refl _)
 exact Qm1 h
theorem Qkt{fu:Int}{fns:List Fun}{m m':Ms}(h:Q1e fu fns m=.next m'):m.out.length<=m'.out.length:=by
 unfold Q1e at h
 repeat' split at h
 all_goals try (cases h;done)
 ·rename_i hk;cases h;exact Qm1 hk
 ·rename_i hk;cases h;exact Qkj (m:={ m with steps:=m.steps+1 }) hk
theorem Qmk{fu:Int}{fns:List Fun}:∀{g:Nat}{m:Ms}{r:Rd},goX fu fns g m=some r->m.out.length<=outR r∨r=.fuel
 |0,_,_,h=>by cases h
 |g+1,m,r,h=>by
  simp only[goX]at h
  cases hr:Q1e fu fns m with
  |next m'=>
   rw[hr]at h
   rcases Qmk h with h1|h1
   ·exact .inl (Nat.le_trans (Qkt hr) h1)
   ·exact .inr h1
  |done m' v=>
   rw[hr]at h;cases h
   unfold Q1e at hr
   repeat' split at hr
   all_goals try (cases hr;done)
   cases hr;exact .inl (Nat.le_refl _)
  |fuel=>rw[hr]at h;cases h;exact .inr rfl
  |trap c m'=>
   rw[hr]at h;cases h
   unfold Q1e at hr
   repeat' split at hr
   all_goals try (cases hr;done)
   all_goals (cases hr;exact .inl (Nat.le_refl _))
def rdOf (m:Ms):Except Int Ms->Rd
 |.ok m'=>.next m'
 |.error c=>.trap c m
theorem Qch{fu:Int}{fns:List Fun}{m:Ms}{t:Tr}{e:En}(hc:m.c=.ev t e)(h:¬m.steps=fu):Q1e fu fns m=rdOf { m with steps:=m.steps+1 } (Q3i fu fns { m with steps:=m.steps+1 } t e):=by
 unfold Q1e
 split
 ·rename_i hv;rw[hc]at hv;cases hv
 ·rename_i hv;rw[hc]at hv;cases hv;rw[if_neg h];rfl
theorem Qcg{fu:Int}{fns:List Fun}{m:Ms}{v:Vl}{f:Fm}{k:List Fm}(hc:m.c=.rt v)(hk:m.k=f::k):Q1e fu fns m=rdOf m (kidM fu fns m (.mk f.t f.e (f.done++[v])) k):=by
 simp only[Q1e,hc,hk];rfl
end
end Go.CoreX
namespace Go.CoreX
theorem Qh1{fu:Int}{fns:List Fun}{m m':Ms}{t:Tr}{e:En}(h:Q3i fu fns m t e=.ok m'):m.steps<=m'.steps:=by
 unfold Q3i at h
 repeat' split at h
 all_goals try (cases h;done)
 all_goals try (cases h;exact Int.le_refl _)
 exact (Q7s h [] .nil (.inr ⟨rfl,rfl⟩)).ge
def stepsR:Rd->Int
 |.done m _=>m.steps
 |.trap _ m=>m.steps
 |.next m=>m.steps
 |.fuel=>0
theorem Qny{fu:Int}{fns:List Fun}{m m':Ms}(h:Q1e fu fns m=.next m'):m.steps<=m'.steps:=by
 unfold Q1e at h
 repeat' split at h
 all_goals try (cases h;done)
 ·rename_i f k hk _ _ hkid;cases h;exact (Q7s hkid f.done _ (.inl rfl)).ge
 ·rename_i hst;cases h
  have:=Qh1 hst
  simp only at this;omega
theorem Qe3{fu:Int}{fns:List Fun}{m:Ms}{r:Rd}(h:Q1e fu fns m=r):(∀c m',r=.trap c m'->m.steps<=m'.steps)/\(∀m' v,r=.done m' v->m'=m/\m.c=.rt v/\m.k=[]):=by
 subst h
 constructor
 ·intro c m' h
  unfold Q1e at h
  repeat' split at h
  all_goals try (cases h;done)
  ·cases h;exact Int.le_refl _
  ·cases h;simp only;omega
 ·intro m' v h
  unfold Q1e at h
  repeat' split at h
  all_goals try (cases h;done)
  rename_i hc _ hk
  cases h;exact⟨rfl,hc,hk⟩
theorem goX_ge{fu:Int}{fns:List Fun}:∀{g:Nat}{m:Ms}{r:Rd},goX fu fns g m=some r->r≠.fuel->m.steps<=stepsR r
 |0,_,_,h,_=>by cases h
 |g+1,m,r,h,hf=>by
  simp only[goX]at h
  cases hr:Q1e fu fns m with
  |next m'=>rw[hr]at h;exact Int.le_trans (Qny hr) (goX_ge h hf)
  |done m' v=>rw[hr]at h;cases h;rw[((Qe3 hr).2 _ _ rfl).1];exact Int.le_refl _
  |fuel=>rw[hr]at h;cases h;exact absurd rfl hf
  |trap c m'=>rw[hr]at h;cases h;exact (Qe3 hr).1 _ _ rfl
end Go.CoreX
namespace Go.Proofs.YtpaonemmbhbgoaaGreatDoor
open Go Go.Abs Go.CoreX
set_option linter.unusedSectionVars false
abbrev tClo:Nat:=185
abbrev tObj:Nat:=154
abbrev tRow:Nat:=221
abbrev tArr:Nat:=246
abbrev tRes:Nat:=212
abbrev tCap:Nat:=179
abbrev tTrap:Nat:=132
abbrev nilPE:AC:=.lit (.pointer none)
abbrev Hm:=Nat->Option (List AC)
abbrev Nm2:=List (Nat×Nat)
def iW (n:Int):AC:=.ifc 3 false [int n]
def iB (t:Nat)(cs:List AC):AC:=.ifc t false [.box cs]
inductive RecC (H:Hm)(t:Tr)(top:AC):Nat->AC->AC->Prop
 |zero (c:AC):RecC H t top 0 c c
 |succ (i k q:Nat) (c b:AC) (hk:H k=some [int (t.binds.getD i 0),.ifc tClo false [.ptr (.o q) 0],c]) (hq:H q=some [.box (cTr (t.kids.getD i default)),top]) (h:RecC H t top i c b):RecC H t top (i+1) (.ptr (.o k) 0) b
mutual
inductive VR (H:Hm)(nm:Nm2):Vl->AC->Prop
 |nil:VR H nm .nil (.lit .nilIface)
 |word (n:Int):VR H nm (.word n) (iW n)
 |clo (t:Tr) (e:En) (c:AC) (he:ER H nm e c):VR H nm (.clo t e) (iB tClo [.box (cTr t),c])
 |cloP (t:Tr) (e:En) (c:AC) (k:Nat) (hk:H k=some [.box (cTr t),c]) (he:ER H nm e c):VR H nm (.clo t e) (.ifc tClo false [.ptr (.o k) 0])
 |obj (g:Int) (fs:List Vl) (cs:List (List AC)) (h:VsR H nm fs cs):VR H nm (.obj g fs) (iB tObj [int g,.sl 1 cs])
 |row (ls:List Int) (fs:List Vl) (cs:List (List AC)) (h:VsR H nm fs cs):VR H nm (.row ls fs) (iB tRow [.sl 1 (ls.map cI),.sl 1 cs])
 |arr (a k n:Nat) (h:nm[a]?=some (k,n)):VR H nm (.arr a) (iB tArr [.arr (.o k) 1 0 n n])
 |res (fs:List Fm) (l:List (List AC)) (h:FsR H nm fs l):VR H nm (.res fs) (iB tRes [.sl 1 l])
 |cap (n:Int) (fs:List Vl) (cs:List (List AC)) (h:VsR H nm fs cs):VR H nm (.cap n fs) (iB tCap [int n,.sl 1 cs])
inductive VsR (H:Hm)(nm:Nm2):List Vl->List (List AC)->Prop
 |nil:VsR H nm [] []
 |cons (v:Vl) (c:AC) (vs:List Vl) (cs:List (List AC)) (hv:VR H nm v c) (h:VsR H nm vs cs):VsR H nm (v::vs) ([c]::cs)
inductive ER (H:Hm)(nm:Nm2):En->AC->Prop
 |nil:ER H nm .nil nilPE
 |bind (i:Int) (v:Vl) (n:En) (k:Nat) (vc nc:AC) (hk:H k=some [int i,vc,nc]) (hv:VR H nm v vc) (hn:ER H nm n nc):ER H nm (.bind i v n) (.ptr (.o k) 0)
 |recs (t:Tr) (n:En) (c nc:AC) (hc:RecC H t c t.binds.length c nc) (hn:ER H nm n nc):ER H nm (.recs t n) c
inductive FR (H:Hm)(nm:Nm2):Fm->AC->Prop
 |mk (t:Tr) (e:En) (d:List Vl) (ec:AC) (dc:List (List AC)) (nx:AC) (hx:nx.ids isO) (he:ER H nm e ec) (hd:VsR H nm d dc):FR H nm (.mk t e d) (.box [.box (cTr t),ec,.sl 1 dc,nx])
inductive FsR (H:Hm)(nm:Nm2):List Fm->List (List AC)->Prop
 |nil:FsR H nm [] []
 |cons (f:Fm) (c:AC) (fs:List Fm) (cs:List (List AC)) (hf:FR H nm f c) (h:FsR H nm fs cs):FsR H nm (f::fs) ([c]::cs)
end
inductive KR (H:Hm)(nm:Nm2):List Fm->AC->Prop
 |nil:KR H nm [] nilPE
 |cons (t:Tr) (e:En) (d:List Vl) (k:List Fm) (ec:AC) (dc:List (List AC)) (kc:AC) (he:ER H nm e ec) (hd:VsR H nm d dc) (hk:KR H nm k kc):KR H nm (.mk t e d::k) (.box [.box (cTr t),ec,.sl 1 dc,kc])
structure Mo (H:Hm)(nm:Nm2)(H':Hm)(nm':Nm2):Prop where
 h:∀k cs,H k=some cs->H' k=some cs
 n:∀(a:Nat) (x:Nat×Nat),nm[a]?=some x->nm'[a]?=some x
theorem Mo.refl(H:Hm)(nm:Nm2):Mo H nm H nm:=⟨fun _ _ h=>h,fun _ _ h=>h⟩
theorem Mo.trans{H H1 H2:Hm}{n n1 n2:Nm2}(a:Mo H n H1 n1)(b:Mo H1 n1 H2 n2):Mo H n H2 n2:=⟨fun k cs h=>b.h k cs (a.h k cs h),fun k x h=>b.n k x (a.n k x h)⟩
section
variable {H H':Hm}{nm nm':Nm2}(hm:Mo H nm H' nm')
include hm
theorem RecC.mo{t:Tr}{top:AC}:∀{i:Nat}{c b:AC},RecC H t top i c b->RecC H' t top i c b
 |_,_,_,.zero c=>.zero c
 |_,_,_,.succ i k q c b hk hq h=>.succ i k q c b (hm.h _ _ hk) (hm.h _ _ hq) (RecC.mo h)
mutual
theorem VR.mo:∀{v:Vl}{c:AC},VR H nm v c->VR H' nm' v c
 |_,_,.nil=>.nil
 |_,_,.word n=>.word n
 |_,_,.clo t e c he=>.clo t e c (ER.mo he)
 |_,_,.cloP t e c k hk he=>.cloP t e c k (hm.h _ _ hk) (ER.mo he)
 |_,_,.obj g fs cs h=>.obj g fs cs (VsR.mo h)
 |_,_,.row ls fs cs h=>.row ls fs cs (VsR.mo h)
 |_,_,.arr a k n h=>.arr a k n (hm.n _ _ h)
 |_,_,.res fs l h=>.res fs l (FsR.mo h)
 |_,_,.cap n fs cs h=>.cap n fs cs (VsR.mo h)
theorem VsR.mo:∀{v:List Vl}{c:List (List AC)},VsR H nm v c->VsR H' nm' v c
 |_,_,.nil=>.nil
 |_,_,.cons v c vs cs hv h=>.cons v c vs cs (VR.mo hv) (VsR.mo h)
theorem ER.mo:∀{e:En}{c:AC},ER H nm e c->ER H' nm' e c
 |_,_,.nil=>.nil
 |_,_,.bind i v n k vc nc hk hv hn=>.bind i v n k vc nc (hm.h _ _ hk) (VR.mo hv) (ER.mo hn)
 |_,_,.recs t n c nc hc hn=>.recs t n c nc (RecC.mo hm hc) (ER.mo hn)
theorem FR.mo:∀{f:Fm}{c:AC},FR H nm f c->FR H' nm' f c
 |_,_,.mk t e d ec dc nx hx he hd=>.mk t e d ec dc nx hx (ER.mo he) (VsR.mo hd)
theorem FsR.mo:∀{f:List Fm}{c:List (List AC)},FsR H nm f c->FsR H' nm' f c
 |_,_,.nil=>.nil
 |_,_,.cons f c fs cs hf h=>.cons f c fs cs (FR.mo hf) (FsR.mo h)
end
theorem KR.mo:∀{k:List Fm}{c:AC},KR H nm k c->KR H' nm' k c
 |_,_,.nil=>.nil
 |_,_,.cons t e d k ec dc kc he hd hk=>.cons t e d k ec dc kc (ER.mo hm he) (VsR.mo hm hd) (KR.mo hk)
end
section
variable {H:Hm}{nm:Nm2}
theorem RecC.ids{t:Tr}{top:AC}:∀{i:Nat}{c b:AC},RecC H t top i c b->b.ids isO->c.ids isO
 |_,_,_,.zero c,h=>h
 |_,_,_,.succ i k q c b hk hq h,_=>trivial
mutual
theorem VR.ids:∀{v:Vl}{c:AC},VR H nm v c->c.ids isO
 |_,_,.nil=>trivial
 |_,_,.word n=>by simp[iW,AC.ids,idsL]
 |_,_,.clo t e c he=>⟨⟨by simp,ER.ids he,trivial⟩,trivial⟩
 |_,_,.cloP t e c k hk he=>⟨trivial,trivial⟩
 |_,_,.obj g fs cs h=>⟨⟨trivial,VsR.ids h,trivial⟩,trivial⟩
 |_,_,.row ls fs cs h=>⟨⟨by simp,VsR.ids h,trivial⟩,trivial⟩
 |_,_,.arr a k n h=>⟨⟨trivial,trivial⟩,trivial⟩
 |_,_,.res fs l h=>⟨⟨FsR.ids h,trivial⟩,trivial⟩
 |_,_,.cap n fs cs h=>⟨⟨trivial,VsR.ids h,trivial⟩,trivial⟩
theorem VsR.ids:∀{v:List Vl}{c:List (List AC)},VsR H nm v c->idsS isO c
 |_,_,.nil=>trivial
 |_,_,.cons v c vs cs hv h=>⟨⟨VR.ids hv,trivial⟩,VsR.ids h⟩
theorem ER.ids:∀{e:En}{c:AC},ER H nm e c->c.ids isO
 |_,_,.nil=>trivial
 |_,_,.bind i v n k vc nc hk hv hn=>trivial
 |_,_,.recs t n c nc hc hn=>RecC.ids hc (ER.ids hn)
theorem FR.ids:∀{f:Fm}{c:AC},FR H nm f c->c.ids isO
 |_,_,.mk t e d ec dc nx hx he hd=>⟨by simp,ER.ids he,VsR.ids hd,hx,trivial⟩
theorem FsR.ids:∀{f:List Fm}{c:List (List AC)},FsR H nm f c->idsS isO c
 |_,_,.nil=>trivial
 |_,_,.cons f c fs cs hf h=>⟨⟨FR.ids hf,trivial⟩,FsR.ids h⟩
end
theorem KR.ids:∀{k:List Fm}{c:AC},KR H nm k c->c.ids isO
 |_,_,.nil=>trivial
 |_,_,.cons t e d k ec dc kc he hd hk=>⟨by simp,ER.ids he,VsR.ids hd,KR.ids hk,trivial⟩
theorem VsR.len:∀{v:List Vl}{c:List (List AC)},VsR H nm v c->c.length=v.length
 |_,_,.nil=>rfl
 |_,_,.cons v c vs cs hv h=>by simp[VsR.len h]
theorem VsR.get:∀{v:List Vl}{c:List (List AC)}{i:Nat}{x:Vl},VsR H nm v c->v[i]?=some x->∃y,c[i]?=some [y]/\VR H nm x y
 |_,_,i,x,.nil,hx=>by simp at hx
 |_,_,0,x,.cons v c vs cs hv h,hx=>by simp at hx;subst hx;exact⟨c,rfl,hv⟩
 |_,_,i+1,x,.cons v c vs cs hv h,hx=>VsR.get (i:=i) h (by simpa using hx)
theorem VsR.snoc:∀{v:List Vl}{c:List (List AC)}{x:Vl}{y:AC},VsR H nm v c->VR H nm x y->VsR H nm (v++[x]) (c++[[y]])
 |_,_,x,y,.nil,hx=>.cons x y [] [] hx .nil
 |_,_,x,y,.cons v c vs cs hv h,hx=>.cons v c _ _ hv (VsR.snoc h hx)
theorem FsR.snoc:∀{v:List Fm}{c:List (List AC)}{x:Fm}{y:AC},FsR H nm v c->FR H nm x y->FsR H nm (v++[x]) (c++[[y]])
 |_,_,x,y,.nil,hx=>.cons x y [] [] hx .nil
 |_,_,x,y,.cons v c vs cs hv h,hx=>.cons v c _ _ hv (FsR.snoc h hx)
end
variable {Γ:List (Nat×List AC)}
def unitF:FV:=.tup []
def trapE (c:Int):List PanicEntry:=[{ v:=.iface tTrap (.agg #[.int .i64 c]),recovered:=false }]
theorem conc3:Tryz.prog.concrete 3=true:=by kernel_rfl
theorem concClo:Tryz.prog.concrete tClo=true:=by kernel_rfl
theorem Qmt:Tryz.prog.concrete tObj=true:=by kernel_rfl
theorem concRes:Tryz.prog.concrete tRes=true:=by kernel_rfl
theorem concCap:Tryz.prog.concrete tCap=true:=by kernel_rfl
theorem z3(w:World):(zeroValue 3).run Tryz.prog w=.ok (.int .i64 0) w:=Q8l (by kernel_rfl) w
theorem zClo(w:World):(zeroValue tClo).run Tryz.prog w=.ok (.pointer none) w:=Q8l (by kernel_rfl) w
theorem zObj(w:World):(zeroValue tObj).run Tryz.prog w=.ok (.pointer none) w:=Q8l (by kernel_rfl) w
theorem zCap(w:World):(zeroValue tCap).run Tryz.prog w=.ok (.pointer none) w:=Q8l (by kernel_rfl) w
def notT (t:Nat)(c:AC):Prop:=c=.lit .nilIface∨∃t' ag cs,c=.ifc t' ag cs/\Nat.beq t' t=false
section
variable {H:Hm}{nm:Nm2}{v:Vl}{c:AC}
theorem VR.isWord(h:VR H nm v c):(∃n,v=.word n/\c=iW n)∨((∀n,v≠.word n)/\notT 3 c):=by
 cases h <;> first|exact .inl ⟨_,rfl,rfl⟩|exact .inr ⟨by simp,.inl rfl⟩|exact .inr ⟨by simp,.inr ⟨_,_,_,rfl,rfl⟩⟩
theorem VR.isObj(h:VR H nm v c):(∃g fs cs,v=.obj g fs/\c=iB tObj [int g,.sl 1 cs]/\VsR H nm fs cs)∨((∀g fs,v≠.obj g fs)/\notT tObj c):=by
 cases h <;> first|exact .inl ⟨_,_,_,rfl,rfl,‹_›⟩|exact .inr ⟨by simp,.inl rfl⟩|exact .inr ⟨by simp,.inr ⟨_,_,_,rfl,rfl⟩⟩
theorem VR.isRes(h:VR H nm v c):(∃fs l,v=.res fs/\c=iB tRes [.sl 1 l]/\FsR H nm fs l)∨((∀fs,v≠.res fs)/\notT tRes c):=by
 cases h <;> first|exact .inl ⟨_,_,rfl,rfl,‹_›⟩|exact .inr ⟨by simp,.inl rfl⟩|exact .inr ⟨by simp,.inr ⟨_,_,_,rfl,rfl⟩⟩
end
theorem Qgw(n:Int):APure Tryz.prog Γ 186 [.one (iW n)] (.one (int n)):=by
 intro ou
 refine AFn.walk 15 tabOk Tryz.func186 rfl (by kernel_rfl) rfl rfl fun hou=>?_
 refine zA ?_
 refine zS (AStep.assertYes conc3 rfl rfl) ?_
 refine zA ?_
 exact APure.fin rfl (WkF.ofEq rfl) (by simp) hou rfl
theorem Qou(n:Int)(h0:-2305843009213693952<=n)(h1:n<=2305843009213693952):APure Tryz.prog Γ 185 [.one (int n)] (.one (int (wrapW n))):=by
 intro ou
 refine AFn.walk 7 tabOk Tryz.func185 rfl (by kernel_rfl) rfl rfl fun hou=>?_
 refine zM ?_
 refine zS (AStep.and rfl rfl rfl) ?_
 rw[Qis]
 have h4:0<=(n - (-1073741824)) % 2147483648:=Int.emod_nonneg _ (by decide)
 have h5:(n - (-1073741824)) % 2147483648 < 2147483648:=Int.emod_lt_of_pos _ (by decide)
 refine zM ?_
 refine APure.fin rfl (WkF.ofEq ?_) (by simp) hou rfl
 unfold wrapW
 congr 3
theorem Qlv{H:Hm}{nm:Nm2}{v:Vl}{c:AC}(h:VR H nm v c):APure Tryz.prog Γ 91 [.one c] (.one (int (lastV v))):=by
 intro ou
 refine AFn.walk 17 tabOk Tryz.func91 rfl (by kernel_rfl) rfl rfl fun hou=>?_
 rcases h.isWord with ⟨n,rfl,rfl⟩|⟨hw,hn⟩
 ·refine zA ?_
  refine zS (AStep.assertYes conc3 rfl rfl) ?_
  refine zA ?_
  exact APure.fin rfl (WkF.ofEq rfl) (by simp) hou rfl
 ·refine zA ?_
  refine zS (AStep.assertNo conc3 rfl z3 rfl rfl hn) ?_
  refine zA ?_
  rcases h.isObj with ⟨g,fs,cs,rfl,rfl,h2⟩|⟨ho,hn2⟩
  ·refine zS (AStep.assertYes Qmt rfl rfl) ?_
   refine zA ?_
   exact APure.fin rfl (WkF.ofEq rfl) (by simp) hou rfl
  ·refine zS (AStep.assertNo Qmt rfl zObj rfl rfl hn2) ?_
   refine zA ?_
   refine APure.fin rfl (WkF.ofEq ?_) (by simp) hou rfl
   cases v <;> first|rfl|exact absurd rfl (hw _)|exact absurd rfl (ho _ _)
theorem Q9n(t:Tr):APure Tryz.prog Γ 135 [.one (.box (cTr t))] (.one (int (opdN t))):=by
 intro ou
 refine AFn.walk 17 tabOk Tryz.func135 rfl (by kernel_rfl) rfl rfl fun hou=>?_
 unfold opdN
 repeat' first|refine zN ?_|(with_reducible refine oj ?_;refine AOps.splitS rfl rfl rfl rfl (fun hb=>?_) (fun hb=>?_))|(with_reducible refine ok ?_;first|refine ACode.condS rfl (fun hb=>?_) (fun hb=>?_)|refine ACode.cond rfl (fun hb=>?_) (fun hb=>?_))
 all_goals (refine APure.fin rfl (WkF.ofEq ?_) (by simp) hou rfl)
 all_goals (simp_all[int,Q5g])
theorem Qfi(id:Int)(vc ec:AC)(hv:vc.ids isO)(he:ec.ids isO)(ou:Outer):AFn Tryz.prog Γ 136 [.one ec,.one (int id),.one vc] ou
  (fun r ou'=>∃k,r=.one (.ptr (.o k) 0)/\NewO ou ou' [(k,.cells [int id,vc,ec])]):=by
 refine AFn.walk 12 tabOk Tryz.func136 rfl (by kernel_rfl) rfl rfl fun hou=>?_
 repeat ((fail_if_success ((with_reducible refine oj ?_);refine AOps.atDst 11 rfl ?_));first|refine zO ?_)
 (first|((with_reducible refine oj ?_);refine zau ?_)|(with_reducible refine zst ?_)|((with_reducible refine Q0j ?_ ?_);rfl)|(with_reducible refine ok ?_;first|refine ACode.condT rfl ?_|refine ACode.condF rfl ?_))
 refine AOps.cedes [0] rfl (by decide) hou fun k hk=>⟨[(11,.one (.ptr (.o k) 0))],[],[.cells [int id,vc,ec]],.cons rfl rfl .nil,.nil,?_,?_⟩
 ·exact .cons rfl (AObj.sub_f (fun i hi=>by cases i with|l q=>exact hi.elim|o q=>rfl) _ ⟨trivial,hv,he,trivial⟩) .nil
 have hN:=NewO.add hk hou (show (AObj.cells [int id,vc,ec]).ids isO from ⟨trivial,hv,he,trivial⟩)
 refine zA ?_
 exact AFn.fin' rfl (WkF.ofEq rfl) (by simp) hN.ok ⟨k,rfl,hN⟩
inductive Ch (H:Hm):AC->List (Int×AC)->Prop
 |nil:Ch H nilPE []
 |cons (i:Int) (k:Nat) (vc nc:AC) (l:List (Int×AC)) (hk:H k=some [int i,vc,nc]) (h:Ch H nc l):Ch H (.ptr (.o k) 0) ((i,vc)::l)
def lookI (id:Int):List (Int×AC)->AC
 |[]=>.lit .nilIface
 |(i,c)::l=>if i=id then c else lookI id l
theorem RecC.ch{H:Hm}{t:Tr}{top:AC}{b:AC}{lb:List (Int×AC)}(hb:Ch H b lb):∀{i:Nat}{c:AC},RecC H t top i c b->
  ∃l,Ch H c l/\∀id,(∃j q,Q9u t.binds id i=some j/\lookI id l=.ifc tClo false [.ptr (.o q) 0]/\H q=some [.box (cTr (t.kids.getD j default)),top])∨(Q9u t.binds id i=none/\lookI id l=lookI id lb)
 |_,_,.zero c=>⟨lb,hb,fun id=>.inr ⟨rfl,rfl⟩⟩
 |_,_,.succ i k q c b hk hq h=>by
  obtain⟨l,h1,h2⟩:=RecC.ch hb h
  refine⟨_,.cons _ k _ _ l hk h1,fun id=>?_⟩
  simp only[lookI,Q9u]
  by_cases e:t.binds.getD i 0=id
  ·exact .inl ⟨i,q,by rw[if_pos e],by rw[if_pos e],hq⟩
  ·rw[if_neg e,if_neg e];exact h2 id
theorem ER.ch{H:Hm}{nm:Nm2}:∀{e:En}{c:AC},ER H nm e c->∃l,Ch H c l/\∀id,VR H nm (findE id e) (lookI id l)
 |_,_,.nil=>⟨[],.nil,fun id=>by simp only[findE,lookI];exact .nil⟩
 |_,_,.bind i v n k vc nc hk hv hn=>by
  obtain⟨l,h1,h2⟩:=ER.ch hn
  refine⟨_,.cons i k vc nc l hk h1,fun id=>?_⟩
  simp only[findE,lookI]
  by_cases e:i=id
  ·rw[if_pos e,if_pos e];exact hv
  ·rw[if_neg e,if_neg e];exact h2 id
 |_,_,.recs t n c nc hc hn=>by
  obtain⟨l,h1,h2⟩:=ER.ch hn
  obtain⟨l',h3,h4⟩:=hc.ch h1
  refine⟨l',h3,fun id=>?_⟩
  simp only[findE]
  rcases h4 id with ⟨j,q,h5,h6,h7⟩|⟨h5,h6⟩
  ·rw[h5,h6]
   exact .cloP _ _ _ q h7 (.recs t n c nc hc hn)
  ·rw[h5,h6];exact h2 id
theorem Q1r{c:AC}(h:c.ids isO)(n:Nat):c.ids (inL n):=AC.ids_mono (fun i hi=>by cases i with|l k=>exact hi.elim|o k=>trivial) c h
theorem Q4j{c:List (List AC)}(h:idsS isO c)(n:Nat):idsS (inL n) c:=Q6x (fun i hi=>by cases i with|l k=>exact hi.elim|o k=>trivial) c h
def InOu (H:Hm)(ou:Outer):Prop:=∀k cs,H k=some cs->ou k=some (.cells cs)
theorem Qmo(hΓ:∀g cs,(g,cs)∈Γ->idsL isO cs){H:Hm}{c:AC}{l:List (Int×AC)}(hc:Ch H c l)(id:Int)(ou:Outer)(hH:InOu H ou)(hci:c.ids isO)(hli:(lookI id l).ids isO):
  AFn Tryz.prog Γ 143 [.one c,.one (int id)] ou (fun r ou'=>r=.one (lookI id l)/\ou'=ou):=by
 refine AFn.walk 21 tabOk Tryz.func143 rfl (by kernel_rfl) rfl rfl fun hou=>?_
 refine zA ?_
 refine ACode.loopR hΓ (α:=AC×List (Int×AC)) (fun a=>[(1,.one (int id)),(0,.one a.1)]) (fun a=>⟨0,[],ou⟩) (fun m a=>Ch H a.1 a.2/\lookI id a.2=lookI id l/\a.1.ids isO/\m=a.2.length) (a0:=(c,l)) (ρ:=_root_.id) ⟨hc,rfl,hci,rfl⟩ (LessR.of rfl zFW (by simp[Q1r hci]) zLO rfl rfl hou) fun m a ha=>?_
 obtain⟨c1,l1⟩:=a
 obtain⟨h1,h2,h3,rfl⟩:=ha
 dsimp only at h1 h2 h3 ⊢
 cases h1 with
 |nil=>
  refine zA ?_
  refine zS (AStep.neNil0 Tryz.underlying93 rfl rfl rfl) ?_
  refine zA ?_
  exact AFn.fin' (r':=.one (lookI id l)) rfl (WkF.ofEq (by rw[←h2];rfl)) hli hou ⟨rfl,rfl⟩
 |cons i k vc nc l2 hk hch=>
  have hx:=hH k _ hk
  have hids:idsL isO [int i,vc,nc]:=hou k _ hx
  have hnc:nc.ids isO:=hids.2.2.1
  refine zA ?_
  refine zS (AStep.neNil Tryz.underlying93 rfl rfl rfl) ?_
  repeat' first|refine zN ?_|((with_reducible refine oj ?_);first|refine zix ?_|refine zow rfl rfl hx ?_)
  refine ACode.cond rfl (fun hb=>?_) (fun hb=>?_)
  ·have he:i=id:=by simpa using hb
   repeat' first|refine zN ?_|((with_reducible refine oj ?_);first|refine zix ?_|refine zow rfl rfl hx ?_)
   exact AFn.fin' (r':=.one (lookI id l)) rfl (WkF.ofEq (by rw[←h2];simp[lookI,he])) hli hou ⟨rfl,rfl⟩
  ·have he:i≠id:=by simpa using hb
   repeat' first|refine zN ?_|((with_reducible refine oj ?_);first|refine zix ?_|refine zow rfl rfl hx ?_)
   exact cInv ⟨l2.length,(nc,l2),_root_.id,by simp,⟨hch,by rw[←h2];simp[lookI,he],hnc,rfl⟩,LessR.of rfl zFW (by simp[Q1r hnc]) zLO rfl rfl hou⟩
def Qlb:AObj->Prop
 |.cells _=>True
 |.tok _ _ _=>True
 |.dead=>True
 |_=>False
structure Gro (ou:Outer)(H:Hm)(ou':Outer)(H':Hm):Prop where
 h:∀k cs,H k=some cs->H' k=some cs
 new:∀k,H k=none->H' k≠none->ou k=none
 old:∀k o,ou k=some o->ou' k=some o
 inO:InOu H' ou'
 ok:OuOk ou'
 pl:∀k o,ou' k=some o->ou k=some o∨Qlb o
theorem Gro.trans{ou ou1 ou2:Outer}{H H1 H2:Hm}(a:Gro ou H ou1 H1)(b:Gro ou1 H1 ou2 H2):Gro ou H ou2 H2:=by
 refine⟨fun k cs h=>b.h k cs (a.h k cs h),fun k h1 h2=>?_,fun k o h=>b.old k o (a.old k o h),b.inO,b.ok,fun k o h=>(b.pl k o h).elim (a.pl k o) .inr⟩
 by_cases h3:H1 k=none
 ·have:=b.new k h3 h2
  cases h4:ou k with
  |none=>rfl
  |some o=>rw[a.old k o h4]at this;cases this
 ·exact a.new k h1 h3
theorem Gro.mo{ou ou':Outer}{H H':Hm}(g:Gro ou H ou' H')(nm:Nm2):Mo H nm H' nm:=⟨g.h,fun _ _ h=>h⟩
def addH (H:Hm)(k:Nat)(cs:List AC):Hm:=fun j=>if j=k then some cs else H j
theorem Gro.add{ou ou':Outer}{H:Hm}(h:InOu H ou){k:Nat}{cs:List AC}(hN:NewO ou ou' [(k,.cells cs)]):Gro ou H ou' (addH H k cs):=by
 have hk:ou k=none:=hN.new k (by simp[keys])
 have hHk:H k=none:=by
  cases h1:H k with
  |none=>rfl
  |some c=>rw[h k c h1]at hk;cases hk
 have hold:∀j o,ou j=some o->ou' j=some o:=fun j o hj=>by
  rw[hN.old j (by simp[keys];rintro rfl;rw[hk]at hj;cases hj)];exact hj
 refine⟨fun j c hj=>?_,fun j h1 h2=>?_,hold,fun j c hj=>?_,hN.ok,fun j o hj=>?_⟩
 ·unfold addH
  rw[if_neg (by rintro rfl;rw[hHk]at hj;cases hj)];exact hj
 ·unfold addH at h2
  split at h2
  ·rename_i e;rw[e];exact hk
  ·exact absurd h1 h2
 ·unfold addH at hj
  split at hj
  ·rename_i e;subst e;cases hj
   exact hN.own (j,_) (by simp)
  ·exact hold j _ (h j c hj)
 ·by_cases e:j=k
  ·subst e
   have:=hN.own (j,_) (List.mem_singleton.2 rfl)
   rw[this]at hj;cases hj;exact .inr trivial
  ·rw[hN.old j (by simp[keys];exact e)]at hj;exact .inl hj
structure FcT where
 ac:AC
 kt:Nat
abbrev FcT.ids (fc:FcT)(p:Abs.Id->Prop):Prop:=fc.ac.ids p
def mC (tc ec vc kc:AC)(out:List Int)(st fu:Int)(fc:FcT):List AC:=[tc,ec,vc,kc,.gs 1 (out.map cI) (.o fc.kt),int st,int fu,fc.ac]
def ouX (mc:List AC)(n:Nat)(ou:Outer):Outer:=fun k=>match k with
 |0=>some (.cells mc)
 |k+1=>ou (k+1)
theorem Qec{ou:Outer}{mc:List AC}{n:Nat}(h0:ou 0=some (.cells mc)):ou=ouX mc n ou:=by
 funext k
 match k with
 |0=>exact h0
 |k+1=>rfl
theorem setX(mc mc':List AC)(n:Nat)(ou:Outer):(⟨0,[],ouX mc n ou⟩:St).set (.o 0) (.cells mc')=⟨0,[],ouX mc' n ou⟩:=by
 simp only[St.set,St.mk.injEq,true_and]
 funext k
 match k with
 |0=>rfl
 |k+1=>simp[Q05 (show k+1≠0 by omega)];rfl
def TkR (ou:Outer)(H:Hm)(nm:Nm2):Prop:=∀cs,ou 0=some (.cells cs)->∀es i,cs[4]?=some (.gs 1 es i)->∃kt,i=.o kt/\1<=kt/\ou kt=some (.tok 3 1 es.length)/\H kt=none/\∀(a k n:Nat),nm[a]?=some (k,n)->k≠kt
structure WR (ou:Outer)(H:Hm)(nm:Nm2)(heap:List (List Vl)):Prop where
 inO:InOu H ou
 ok:OuOk ou
 len:nm.length=heap.length
 arr:∀(a k n:Nat),nm[a]?=some (k,n)->∃cs:List AC,ou k=some (.cells cs)/\VsR H nm (heap.getD a []) (cs.map fun c=>[c])/\n=cs.length
 aH:∀(a k n:Nat),nm[a]?=some (k,n)->H k=none
 aa:∀(a b k n n':Nat),nm[a]?=some (k,n)->nm[b]?=some (k,n')->a=b
 sep:H 0=none/\∀(a k n:Nat),nm[a]?=some (k,n)->1<=k
 tk:TkR ou H nm
 pl:∀k o,ou k=some o->Qlb o
theorem WR.gro{ou ou':Outer}{H H':Hm}{nm:Nm2}{heap:List (List Vl)}(w:WR ou H nm heap)(g:Gro ou H ou' H')(h0:ou 0≠none)(h1:True):WR ou' H' nm heap:=by
 have hH:∀k,ou k≠none->H k=none->H' k=none:=fun k hk hh=>by
  cases h:H' k with
  |none=>rfl
  |some c=>exact absurd (g.new k hh (by rw[h];simp)) hk
 refine⟨g.inO,g.ok,w.len,fun a k n h=>?_,fun a k n h=>?_,w.aa,⟨hH 0 h0 w.sep.1,w.sep.2⟩,fun cs hc es i hi=>?_,fun k o hk=>(g.pl k o hk).elim (w.pl k o) id⟩
 ·obtain⟨cs,c1,c2,c3⟩:=w.arr a k n h
  exact⟨cs,g.old k _ c1,c2.mo (g.mo nm),c3⟩
 ·obtain⟨cs,c1,c2,c3⟩:=w.arr a k n h
  exact hH k (by rw[c1];simp) (w.aH a k n h)
 ·cases ho:ou 0 with
  |none=>exact absurd ho h0
  |some o=>
   have:=g.old 0 _ ho
   rw[hc]at this
   cases this
   obtain⟨kt,e1,e2,e3,e4,e5⟩:=w.tk cs ho es i hi
   exact⟨kt,e1,e2,g.old _ _ e3,hH kt (by rw[e3];simp) e4,e5⟩
theorem WR.put{mc mc':List AC}{n:Nat}{ou:Outer}{H:Hm}{nm:Nm2}{heap:List (List Vl)}(w:WR (ouX mc n ou) H nm heap)(hi:idsL isO mc'){ou':Outer}(h0:ou' 0=some (.cells mc'))(h1:mc'[4]?=mc[4]?)(h2:∀k,ou' (k+1)=ou (k+1)):WR ou' H nm heap:=by
 have e:∀k,1<=k->ou' k=ouX mc n ou k:=fun k hk=>by
  obtain⟨j,rfl⟩:∃j,k=j+1:=⟨k - 1,by omega⟩
  rw[h2];rfl
 have hk2:∀k cs,H k=some cs->1<=k:=fun k cs hk=>by
  match k with
  |0=>rw[w.sep.1]at hk;cases hk
  |k+1=>omega
 refine⟨fun k cs hk=>?_,fun k o hk=>?_,w.len,fun a k n h=>?_,w.aH,w.aa,w.sep,fun cs hc es i hi=>?_,fun k o hk=>?_⟩
 ·rw[e k (hk2 k cs hk)];exact w.inO k cs hk
 ·match k with
  |0=>rw[h0]at hk;cases hk;exact hi
  |k+1=>rw[e _ (by omega)]at hk;exact w.ok _ o hk
 ·rw[e k (w.sep.2 a k n h)];exact w.arr a k n h
 ·rw[h0]at hc;cases hc
  rw[h1]at hi
  obtain⟨kt,e1,e2,e3,e4,e5⟩:=w.tk mc rfl es i hi
  exact⟨kt,e1,e2,(e kt e2).trans e3,e4,e5⟩
 ·match k with
  |0=>rw[h0]at hk;cases hk;trivial
  |k+1=>rw[e _ (by omega)]at hk;exact w.pl _ o hk
inductive CR (H:Hm)(nm:Nm2):Ctl->AC->AC->AC->Prop
 |ev (t:Tr) (e:En) (ec vc:AC) (he:ER H nm e ec):CR H nm (.ev t e) (.box (cTr t)) ec vc
 |rt (v:Vl) (ec vc:AC) (hv:VR H nm v vc):CR H nm (.rt v) nilPE ec vc
structure M0 (fu:Int)(fc:FcT)(ou:Outer)(H:Hm)(nm:Nm2)(m:Ms)(tc ec vc kc:AC):Prop where
 ids:tc.ids isO/\ec.ids isO/\vc.ids isO/\kc.ids isO
 m0:ou 0=some (.cells (mC tc ec vc kc m.out m.steps fu fc))
 w:WR ou H nm m.heap
structure MR (fu:Int)(fc:FcT)(ou:Outer)(H:Hm)(nm:Nm2)(m:Ms):Prop where
 ex:∃kt tc ec vc kc,CR H nm m.c tc ec vc/\KR H nm m.k kc/\M0 fu ⟨fc.ac,kt⟩ ou H nm m tc ec vc kc
theorem MR.ok{fu:Int}{fc:FcT}{H:Hm}{nm:Nm2}{m:Ms}{ou:Outer}(h:MR fu fc ou H nm m):OuOk ou:=h.ex.choose_spec.choose_spec.choose_spec.choose_spec.choose_spec.2.2.w.ok
structure PR (ou:Outer)(m:Ms):Prop where
 ok:OuOk ou
 m0:∃tc ec vc kc fu fc,ou 0=some (.cells (mC tc ec vc kc m.out m.steps fu fc))
theorem M0.pr{fu:Int}{fc:FcT}{ou:Outer}{H:Hm}{nm:Nm2}{m:Ms}{tc ec vc kc:AC}(h:M0 fu fc ou H nm m tc ec vc kc):PR ou m:=⟨h.w.ok,⟨_,_,_,_,_,_,h.m0⟩⟩
def StQ (fu:Int)(fc:FcT)(H:Hm)(nm:Nm2)(x:Except Int Ms):FV->Outer->Prop:=fun r ou'=>r=unitF/\∃H' nm' m',x=.ok m'/\Mo H nm H' nm'/\MR fu fc ou' H' nm' m'
def StP (m:Ms)(x:Except Int Ms):List PanicEntry->Outer->Prop:=fun ps ou'=>∃c,x=.error c/\ps=trapE c/\PR ou' m
theorem M0.ouX{fu:Int}{fc:FcT}{ou:Outer}{H:Hm}{nm:Nm2}{m:Ms}{tc ec vc kc:AC}(h:M0 fu fc ou H nm m tc ec vc kc):ou=ouX (mC tc ec vc kc m.out m.steps fu fc) m.out.length ou:=Qec h.m0
theorem KR.cell{H:Hm}{nm:Nm2}{t:Tr}{e:En}{d:List Vl}{k:List Fm}{c:AC}(h:KR H nm (.mk t e d::k) c):∃ec dc kc,c=.box [.box (cTr t),ec,.sl 1 dc,kc]/\ER H nm e ec/\VsR H nm d dc/\KR H nm k kc:=by
 cases h with
 |cons _ _ _ _ ec dc kc he hd hk=>exact⟨ec,dc,kc,rfl,he,hd,hk⟩
theorem MR.ofEv{fu:Int}{fc:FcT}{mc:List AC}{n:Nat}{ou0 ou':Outer}{H:Hm}{nm:Nm2}{m:Ms}{e:En}{s:Tr}{k:List Fm}{ec vc kc:AC}(w:WR (ouX mc n ou0) H nm m.heap)(he:ER H nm e ec)(hk:KR H nm k kc)(hv:vc.ids isO)(hf:fc.ids isO)
  (h0:ou' 0=some (.cells (mC (.box (cTr s)) ec vc kc m.out m.steps fu fc))) (h1:mc[4]?=some (.gs 1 (m.out.map cI) (.o fc.kt))) (h2:∀k,ou' (k+1)=ou0 (k+1)):MR fu fc ou' H nm { m with c:=.ev s e,k:=k }:=
 have hi:idsL isO (mC (.box (cTr s)) ec vc kc m.out m.steps fu fc):=by simp[mC,he.ids,hk.ids,hv,hf]
 ⟨fc.kt,_,_,_,_,.ev s e ec vc he,hk,⟨by simp,he.ids,hv,hk.ids⟩,h0,w.put hi h0 h1.symm h2⟩
theorem MR.ofRt{fu:Int}{fc:FcT}{mc:List AC}{n:Nat}{ou0 ou':Outer}{H:Hm}{nm:Nm2}{m:Ms}{v:Vl}{k:List Fm}{ec vc kc:AC}(w:WR (ouX mc n ou0) H nm m.heap)(he:VR H nm v vc)(hk:KR H nm k kc)(hv:ec.ids isO)(hf:fc.ids isO)
  (h0:ou' 0=some (.cells (mC nilPE ec vc kc m.out m.steps fu fc))) (h1:mc[4]?=some (.gs 1 (m.out.map cI) (.o fc.kt))) (h2:∀k,ou' (k+1)=ou0 (k+1)):MR fu fc ou' H nm { m with c:=.rt v,k:=k }:=
 have hi:idsL isO (mC nilPE ec vc kc m.out m.steps fu fc):=by simp[mC,he.ids,hk.ids,hv,hf,nilPE]
 ⟨fc.kt,_,_,_,_,.rt v ec vc he,hk,⟨trivial,hv,he.ids,hk.ids⟩,h0,w.put hi h0 h1.symm h2⟩
theorem Qoi(hΓ:∀g cs,(g,cs)∈Γ->idsL isO cs){fu:Int}{fc:FcT}{fns:List Fun}{ou:Outer}{H:Hm}{nm:Nm2}{m:Ms}{tc0 ec0 vc0 kc0:AC}(h0:M0 fu fc ou H nm m tc0 ec0 vc0 kc0)(hfc:fc.ids isO)
  {t:Tr}{e:En}{d:List Vl}{k:List Fm}{ec:AC}{dc:List (List AC)}{kc:AC}(he:ER H nm e ec) (hd:VsR H nm d dc) (hk:KR H nm k kc){s:Tr}(hlt:d.length < opdN t) (hs:t.kids[d.length]?=some s):
  AFnP Tryz.prog Γ 111 [.one (.ptr (.o 0) 0),.one (.box [.box (cTr t),ec,.sl 1 dc,kc])] ou (StQ fu fc H nm (kidM fu fns m (.mk t e d) k)) (StP m (kidM fu fns m (.mk t e d) k)):=by
 have hoX:=h0.ouX
 have hei:=he.ids
 have hdi:=hd.ids
 have hki:=hk.ids
 have hdl:=hd.len
 rw[hoX]
 have hw:=h0.w
 rw[hoX]at hw
 generalize hmc:ou=ou0 at hw
 clear hoX
 refine AFnP.walk 262 tabOk hΓ Tryz.func111 rfl (by kernel_rfl) rfl rfl fun hou=>?_
 refine zA ?_
 refine ACode.drawX tabOk 10 [(9,.one (int (opdN t)))] follows (by kernel_rfl) rfl rfl rfl rfl ?_ ?_
 ·exact⟨⟨_,rfl,AStep.callPure hΓ rfl rfl rfl (by simp[idsF]) hou (Q9n t)⟩,trivial⟩
 refine zA ?_
 refine ACode.cond rfl (fun hb=>?_) (fun hb=>absurd hb (by simp[hdl];exact hlt))
 refine zA ?_
 have hsc:(Q10 t.kids)[d.length]?=some [.box (cTr s)]:=Q1v hs
 generalize hM:ouX (mC tc0 ec0 vc0 kc0 m.out m.steps fu fc) m.out.length ou0=ou1 at hou hw ⊢
 subst hM
 refine ACode.drawC2 tabOk 28 [24,25,26,27] [(15,.one (.box [.box (cTr s)]))] (fun vs σ=>match vs with
   |[]=>σ=⟨0,[],ouX (mC tc0 ec0 vc0 kc0 m.out m.steps fu fc) m.out.length ou0⟩
   |[_]=>σ=⟨0,[],ouX (mC (.box (cTr s)) ec0 vc0 kc0 m.out m.steps fu fc) m.out.length ou0⟩
   |[_,v]=>v=.one (.ptr (.o 0) 0)/\σ=⟨0,[],ouX (mC (.box (cTr s)) ec0 vc0 kc0 m.out m.steps fu fc) m.out.length ou0⟩
   |[_,v,w]=>v=.one (.ptr (.o 0) 0)/\w=.one (.ptr (.o 0) 1)/\σ=⟨0,[],ouX (mC (.box (cTr s)) ec0 vc0 kc0 m.out m.steps fu fc) m.out.length ou0⟩
   |[_,v,w,_]=>v=.one (.ptr (.o 0) 0)/\w=.one (.ptr (.o 0) 1)/\σ=⟨0,[],ouX (mC (.box (cTr s)) ec vc0 kc0 m.out m.steps fu fc) m.out.length ou0⟩
   |_=>False) follows (by kernel_rfl) rfl rfl (by decide) (by kernel_rfl) (by kernel_rfl) rfl rfl ?_ ?_ (by decide) ?_ ?_
 ·intro vs σ h
  match vs with
  |[]=>subst h;rfl
  |[_]=>subst h;rfl
  |[_,_]=>obtain⟨_,rfl⟩:=h;rfl
  |[_,_,_]=>obtain⟨_,_,rfl⟩:=h;rfl
  |[_,_,_,_]=>obtain⟨_,_,rfl⟩:=h;rfl
  |_::_::_::_::_::_=>exact h.elim
 ·intro vs σ h
  exact⟨⟨_,rfl,zIA rfl rfl rfl (by omega) (by simpa[hdl]using hsc)⟩,trivial⟩
 ·intro vs σ h i o hi ho
  match vs with
  |[]=>subst h;cases hi;cases ho;exact⟨rfl,.inl (.inl ⟨.bot,_,AStep.ofStore tabOk rfl,setX _ _ _ _⟩)⟩
  |[_]=>subst h;cases hi;cases ho;exact⟨rfl,.inl (.inl ⟨_,_,AStep.ofOp tabOk rfl,rfl,rfl⟩)⟩
  |[_,_]=>obtain⟨rfl,rfl⟩:=h;cases hi;cases ho;exact⟨rfl,.inl (.inl ⟨_,_,AStep.ofOp tabOk rfl,rfl,rfl,rfl⟩)⟩
  |[_,_,_]=>obtain⟨rfl,rfl,rfl⟩:=h;cases hi;cases ho;exact⟨rfl,.inl (.inl ⟨.bot,_,AStep.ofStore tabOk rfl,rfl,rfl,setX _ _ _ _⟩)⟩
  |_::_::_::_::_=>cases hi
 ·intro vs σ hl h
  match vs with
  |[_,_,_,_]=>
   obtain⟨rfl,rfl,rfl⟩:=h
   refine zA ?_
   have hM:MR fu fc _ H nm { m with c:=.ev s e,k:=.mk t e d::k }:=MR.ofEv (ou':=(St.set ⟨0,[],ouX (mC (.box (cTr s)) ec vc0 kc0 m.out m.steps fu fc) m.out.length ou0⟩ (.o 0) (.cells (mC (.box (cTr s)) ec vc0 (.box [.box (cTr t),ec,.sl 1 dc,kc]) m.out m.steps fu fc))).ou) hw he (.cons t e d k ec dc kc he hd hk) h0.ids.2.2.1 hfc rfl rfl (fun _=>rfl)
   refine AFn.fin' rfl (WkF.refl _) (by simp) hM.ok ⟨rfl,H,nm,_,?_,.refl _ _,hM⟩
   unfold kidM
   rw[if_pos (show (Fm.mk t e d).done.length < opdN (Fm.mk t e d).t from hlt)]
   simp only[Fm.done_mk,Fm.t_mk,Fm.e_mk]
   rw[List.getD_eq_getElem?_getD,hs]
   rfl
  |[]|[_]|[_,_]|[_,_,_]=>cases hl
  |_::_::_::_::_::_=>exact h.elim
theorem ACode.stEq{E:Env}{c:Code}{K:Cont}{fr:Fr}{σ σ':St}(h:σ=σ')(k:ACode E c K fr σ'):ACode E c K fr σ:=h▸k
def GrP (mc:List AC)(n:Nat)(ou0:Outer)(H:Hm)(mc':List AC)(R:FV->Hm->Prop):FV->St->Prop:=fun v σ=>∃ou1 H1,σ=⟨0,[],ouX mc' n ou1⟩/\Gro (ouX mc n ou0) H (ouX mc n ou1) H1/\R v H1
theorem GrP.of{mc:List AC}{n:Nat}{ou0 ou':Outer}{H H1:Hm}{R:FV->Hm->Prop}{v:FV}(g:Gro (ouX mc n ou0) H ou' H1)(h:R v H1):GrP mc n ou0 H mc R v ⟨0,[],ou'⟩:=by
 have e:=Qec (n:=n) (g.old 0 _ rfl)
 refine⟨ou',H1,by rw[←e],?_,h⟩
 rw[←e];exact g
section
variable {fu:Int}{fc:FcT}{fns:List Fun}{ou:Outer}{H:Hm}{nm:Nm2}{m:Ms}{tc0 ec0 vc0 kc0:AC}{t:Tr}{e:En}{d:List Vl}{k:List Fm}{ec:AC}{dc:List (List AC)}{kc:AC}
end
section
variable {fu:Int}{fc:FcT}{fns:List Fun}{ou:Outer}{H:Hm}{nm:Nm2}{m:Ms}{tc0 ec0 vc0 kc:AC}{t:Tr}{e:En}{d:List Vl}{k:List Fm}{ec:AC}{dc:List (List AC)}
end
section
variable {fu:Int}{fc:FcT}{fns:List Fun}{ou:Outer}{H:Hm}{nm:Nm2}{m:Ms}{tc0 ec0 vc0 kc:AC}{k:List Fm}
end
theorem AFnP.toF{P:Program}{g:Nat}{args:List FV}{ou:Outer}{Q:FV->Outer->Prop}{QP:List PanicEntry->Outer->Prop}(h:AFnP P Γ g args ou Q QP)(hn:∀ps ou',¬QP ps ou'):AFn P Γ g args ou Q:=
 ⟨h.1,fun F w C cargs h0 hi hr=>(h.2 F w C cargs h0 hi hr).mono fun e w' hh=>hh.elim id fun ⟨ps,ou',C',_,_,_,_,hq⟩=>(hn _ _ hq).elim⟩
theorem AFnP.okStep{fu:Int}{fc:FcT}{H:Hm}{nm:Nm2}{m:Ms}{x:Except Int Ms}{m':Ms}{g:Nat}{args:List FV}{ou:Outer}(h:AFnP Tryz.prog Γ g args ou (StQ fu fc H nm x) (StP m x))(hx:x=.ok m'):AFn Tryz.prog Γ g args ou (StQ fu fc H nm x):=
 AFnP.toF h fun ps ou' ⟨c,hc,_⟩=>by rw[hx]at hc;cases hc
def inW (n:Int):Prop:=-1073741824<=n/\n<=1073741823
section
variable {H:Hm}{nm:Nm2}
theorem VsR.nilE{cs:List (List AC)}(h:VsR H nm [] cs):cs=[]:=by cases h;rfl
theorem VsR.consE{v:Vl}{l:List Vl}{cs:List (List AC)}(h:VsR H nm (v::l) cs):∃c ds,cs=[c]::ds/\VR H nm v c/\VsR H nm l ds:=by
 cases h with
 |cons _ c _ ds hv hl=>exact⟨c,ds,rfl,hv,hl⟩
theorem VR.wordE{n:Int}{c:AC}(h:VR H nm (.word n) c):c=iW n:=by cases h;rfl
end
end Go.Proofs.YtpaonemmbhbgoaaGreatDoor
namespace Go.Abs
section
variable {E:Env}{o:Oper}{fr:Fr}{σ:St}{t T0 el yt:TypeId}{x y:Operand}
end
end Go.Abs
namespace Go.Proofs.YtpaonemmbhbgoaaGreatDoor
open Go Go.Abs Go.CoreX
variable {Γ:List (Nat×List AC)}
section
variable {fu:Int}{fc:FcT}{fns:List Fun}{ou:Outer}{H:Hm}{nm:Nm2}{m:Ms}{ec vc kc:AC}{t:Tr}{e:En}
theorem StQ.fin{E:Env}{fn:Func}{fr:Fr}{σ:St}{H':Hm}{nm':Nm2}{x:Except Int Ms}{m':Ms}(h:aRes E.T fr σ fn.results.toList=some unitF)(hx:x=.ok m')(hm:Mo H nm H' nm')(hM:MR fu fc σ.ou H' nm' m'):Fin E fn (StQ fu fc H nm x) fr σ:=
 AFn.fin' h (WkF.refl _) (by simp[unitF]) hM.ok ⟨rfl,H',nm',m',hx,hm,hM⟩
def Qdj (fu:Int)(fc:FcT)(ou:Outer)(H:Hm)(nm:Nm2)(m':Ms)(Γ:List (Nat×List AC)):Prop:=AFn Tryz.prog Γ 113 [.one (.ptr (.o 0) 0)] ou (StQ fu fc H nm (.ok m'))
theorem Qkk(hΓ:∀g cs,(g,cs)∈Γ->idsL isO cs)(h0:M0 fu fc ou H nm m (.box (cTr t)) ec vc kc)(hfc:fc.ids isO)(hk:KR H nm m.k kc)(h1:t.op=1):Qdj fu fc ou H nm { m with c:=.rt (.word t.n) } Γ:=by
 unfold Qdj
 have hoX:=h0.ouX
 rw[hoX]
 have hw:=h0.w
 rw[hoX]at hw
 generalize hmc:ou=ou0 at hw
 clear hoX
 refine AFn.walk 149 tabOk Tryz.func113 rfl (by kernel_rfl) rfl rfl fun hou=>?_
 cases t with
 |mk to tn tb tk ta=>
 obtain rfl:to=1:=h1
 refine zA ?_
 refine zS (AStep.mkIfc conc3 rfl rfl) ?_
 refine zA ?_
 exact StQ.fin rfl rfl (.refl _ _) (MR.ofRt hw (.word tn) hk h0.ids.2.1 hfc rfl rfl (fun _=>rfl))
theorem Qki(hΓ:∀g cs,(g,cs)∈Γ->idsL isO cs)(h0:M0 fu fc ou H nm m (.box (cTr t)) ec vc kc)(hfc:fc.ids isO)(he:ER H nm e ec)(hk:KR H nm m.k kc)(h1:t.op=0):Qdj fu fc ou H nm { m with c:=.rt (findE t.n e) } Γ:=by
 unfold Qdj
 have hei:=he.ids
 have hki:=hk.ids
 have hoX:=h0.ouX
 rw[hoX]
 have hw:=h0.w
 rw[hoX]at hw
 generalize hmc:ou=ou0 at hw
 clear hoX
 obtain⟨l,hch,hfd⟩:=he.ch
 have hv:=hfd t.n
 have hvi:=hv.ids
 refine AFn.walk 149 tabOk Tryz.func113 rfl (by kernel_rfl) rfl rfl fun hou=>?_
 cases t with
 |mk to tn tb tk ta=>
 obtain rfl:to=0:=h1
 have hw1:WR (ouX (mC nilPE ec vc kc m.out m.steps fu fc) m.out.length ou0) H nm m.heap:=hw.put (by simp[mC,h0.ids.2.2.1,hei,hki,hfc,nilPE]) rfl rfl (fun _=>rfl)
 refine zA ?_
 refine ACode.drawSt tabOk 14 13 [(10,.one (lookI tn l))] _ follows (by kernel_rfl) rfl rfl (by kernel_rfl) rfl ?_ rfl rfl rfl rfl ?_ ?_ (AStep.ofStore tabOk rfl) ?_
 ·rfl
 ·exact⟨⟨_,rfl,AStep.callE hΓ rfl rfl rfl rfl ⟨hei,trivial,trivial⟩ hou (Qmo hΓ hch tn _ hw.inO hei hvi)⟩,trivial⟩
 ·show Q0h _ _ _ (St.set ⟨0,[],ouX (mC (.box (cTr (.mk 0 tn tb tk ta))) ec vc kc m.out m.steps fu fc) m.out.length ou0⟩ (.o 0) (.cells (mC nilPE ec vc kc m.out m.steps fu fc))) _ _
  rw[setX]
  exact⟨⟨_,rfl,AStep.callE hΓ rfl rfl rfl rfl ⟨hei,trivial,trivial⟩ hw1.ok (Qmo hΓ hch tn _ hw1.inO hei hvi)⟩,trivial⟩
 refine zA ?_
 exact StQ.fin rfl rfl (.refl _ _) (MR.ofRt hw hv hk hei hfc rfl rfl (fun _=>rfl))
theorem Qkl(hΓ:∀g cs,(g,cs)∈Γ->idsL isO cs)(h0:M0 fu fc ou H nm m (.box (cTr t)) ec vc kc)(he:ER H nm e ec)(hk:KR H nm m.k kc)(h1:¬(t.op=0∨t.op=1∨t.op=2∨t.op=17∨t.op=5)){x:Except Int Ms}
  (hkid:AFn Tryz.prog Γ 111 [.one (.ptr (.o 0) 0),.one (.box [.box (cTr t),ec,.sl 1 [],kc])] ou (StQ fu fc H nm x)):AFn Tryz.prog Γ 113 [.one (.ptr (.o 0) 0)] ou (StQ fu fc H nm x):=by
 have hei:=he.ids
 have hki:=hk.ids
 have hoX:=h0.ouX
 rw[hoX]at hkid ⊢
 generalize hmc:ou=ou0 at hkid
 clear hoX
 refine AFn.walk 149 tabOk Tryz.func113 rfl (by kernel_rfl) rfl rfl fun hou=>?_
 cases t with
 |mk to tn tb tk ta=>
 simp only[Tr.op]at h1
 have e0:to≠0:=fun e=>h1 (.inl e)
 have e1:to≠1:=fun e=>h1 (.inr (.inl e))
 have e2:to≠2:=fun e=>h1 (.inr (.inr (.inl e)))
 have e17:to≠17:=fun e=>h1 (.inr (.inr (.inr (.inl e))))
 have e5:to≠5:=fun e=>h1 (.inr (.inr (.inr (.inr e))))
 refine zA ?_
 refine ACode.cond rfl (fun hb=>absurd (by simpa using hb) e0) (fun _=>?_)
 refine zA ?_
 refine ACode.cond rfl (fun hb=>absurd (by simpa using hb) e1) (fun _=>?_)
 refine zA ?_
 refine ACode.cond rfl (fun hb=>absurd (by simpa using hb) e2) (fun _=>?_)
 refine zA ?_
 refine ACode.cond rfl (fun hb=>absurd (by simpa using hb) e17) (fun _=>?_)
 refine zA ?_
 refine ACode.cond rfl (fun hb=>absurd (by simpa using hb) e5) (fun _=>?_)
 refine zA ?_
 refine ACode.drawXH (va:=.one (.ptr (.l 0) 0)) (σ1:=St.push ⟨0,[],ouX (mC (.box (cTr (.mk to tn tb tk ta))) ec vc kc m.out m.steps fu fc) m.out.length ou0⟩ (.cells [.box (cTr (.mk to tn tb tk ta)),ec,.lit (.slice none 0 0),kc])) tabOk 12 11 [] follows (by kernel_rfl) rfl rfl rfl rfl rfl rfl rfl (HStep.auto tabOk rfl) trivial trivial ?_
 refine AOps.freeze1 (.l 0) 26 rfl rfl ?_
 refine AOps.wk 26 rfl (y:=.one (.box [.box (cTr (.mk to tn tb tk ta)),ec,.sl 1 [],kc])) (.one (Wk.box (.cons (.refl _) (.cons (.refl _) (.cons (.nilS 1) (.cons (.refl _) .nil)))))) ?_
 refine AOps.call1 hΓ rfl rfl rfl rfl rfl rfl rfl ⟨trivial,⟨by simp,hei,trivial,hki,trivial⟩,trivial⟩ hou hkid fun r ou' hq _ how=>?_
 obtain⟨rfl,H',nm',m',hx,hmo,hM⟩:=hq
 refine zA ?_
 exact StQ.fin rfl hx hmo hM
end
end Go.Proofs.YtpaonemmbhbgoaaGreatDoor
namespace Go.Abs
end Go.Abs
namespace Go.Proofs.YtpaonemmbhbgoaaGreatDoor
open Go Go.Abs Go.CoreX
variable {Γ:List (Nat×List AC)}
section
variable {t:Tr}{base top:AC}
end
section
variable {fu:Int}{fc:FcT}{fns:List Fun}{ou:Outer}{H:Hm}{nm:Nm2}{m:Ms}{ec vc kc:AC}{t:Tr}{e:En}
end
end Go.Proofs.YtpaonemmbhbgoaaGreatDoor
namespace Go.Abs
theorem CedFrN.gs{js:List Nat}{kk k j k' s:Nat}{es:List (List AC)}{fr r:Fr}(h:Fr.get k fr=some (.one (.gs s es (.l j))))(hes:idsS isO es)(hj:toOs js kk (.l j)=.o k')(hr:CedFrN (toOs js kk) fr r):CedFrN (toOs js kk) fr ((k,.one (.gs s es (.o k')))::r):=
 .cons h (by simp only[FV.sub,AC.sub];rw[hj,Q95 (fun i hi=>by cases i with|l q=>exact hi.elim|o q=>rfl) es hes]) hr
end Go.Abs
namespace Go.Proofs.YtpaonemmbhbgoaaGreatDoor
open Go Go.Abs Go.CoreX
variable {Γ:List (Nat×List AC)}
section
variable {fu:Int}{fc:FcT}{fns:List Fun}{ou:Outer}{H:Hm}{nm:Nm2}{m:Ms}{tc ec vc kc:AC}{t:Tr}{e:En}
def PlQ (fu:Int)(fc:FcT)(H:Hm)(nm:Nm2)(m1:Ms)(v:Vl)(tc ec vc kc:AC):FV->Outer->Prop:=fun r ou'=>∃kt H1 nm1 c,r=.one c/\Mo H nm H1 nm1/\VR H1 nm1 v c/\M0 fu ⟨fc.ac,kt⟩ ou' H1 nm1 m1 tc ec vc kc
end
end Go.Proofs.YtpaonemmbhbgoaaGreatDoor
