/- The evaluator's whole run, whatever comes of it: a trap is caught. -/
import Derived.Test.YtmdkenkhaicbeaaGreatDoorD13
set_option maxRecDepth 10000
set_option linter.unusedVariables false
set_option linter.unusedSimpArgs false
namespace Go.Abs
theorem Q6j{T:Tab}{fr:Fr}{σ:St}{a t:Nat}{ti:TI}{i:Id}{off:Nat}{cs:List AC}{x:FV}(ht:Tab.get t T=some ti)(hb:(ti.agg||Nat.beq ti.size 1)=true)(hf:Fr.get a fr=some (.one (.ptr i off)))(hσ:σ.get i=some (.cells cs))(hle:Nat.ble (off+ti.size) cs.length=true)(hx:Q3a ((cs.drop off).take ti.size) (mkFV ti.agg)=some x):aRes1 T fr σ (.cell a t)=some x:=by
 simp only[aRes1,ht,hb,cond_true,hf,aLoad,hσ,hle,hx]
theorem AStep.assertYesA{E:Env}{o:Oper}{fr:Fr}{σ:St}{t T0:TypeId}{x:Operand}{cs:List AC}(hc:E.P.concrete t=true)(ho:o.op=.typeAssert x T0 t true)(hx:aEval E.Γ fr x=some (.one (.ifc t true cs))):AStep E o fr σ (.tup [.agg cs,.one (.lit (.bool true))]) σ:=by
 refine AStep.quiet fun F w C tmps hi hf=>?_
 obtain⟨d,hd⟩:=Q2z hc
 obtain⟨xs,h1,h2⟩:=Q00 (a:=⟨tmps,E.ds⟩) hi hf hx
 rcases h2 with ⟨_,h2⟩|⟨h2,_⟩
 ·refine⟨.tuple #[.agg xs.toArray,.bool true],?_,[.agg xs.toArray,.bool true],rfl,.agg xs.toArray,[.bool true],rfl,⟨xs,rfl,h1⟩,.bool true,[],rfl,⟨rfl,rfl⟩,rfl⟩
  unfold execOp
  simp[ho,h2,Q4y w hd hc]
 ·cases h2
theorem Qef{Γ:List (Nat×List AC)}{F:Nat->Prop}{w':World}{C':Ctx}{σ':St}(hΓ:∀g cs,(g,cs)∈Γ->idsL isO cs)(hi':Inv Γ F w' C' σ')(ho:OuOk σ'.ou):Chg isO w' C' w' { C' with nl:=0 }/\Inv Γ F w' { C' with nl:=0 } ⟨0,[],σ'.ou⟩:=by
 have hc:Chg isO w' C' w' { C' with nl:=0 }:=⟨fun _ _=>rfl,fun _ h=>h,fun i hp ho=>⟨by cases i with|l k=>cases hp|o k=>exact ho,rfl,rfl⟩⟩
 refine⟨hc,⟨hi'.base,rfl,fun g cs hm=>RG.chg hc (hΓ g cs hm) (hi'.glob g cs hm),hi'.prot,fun i o h=>?_,fun i j o o' g k1 k2 k3 k4=>?_⟩⟩
 ·cases i with
  |l k=>cases h
  |o k=>
   obtain⟨k1,k2⟩:=hi'.obj (.o k) o h
   exact⟨k1,k2.ctx isO (ho k o h) trivial k1 hc (fun _ h=>h) (fun _ h=>h)⟩
 ·cases i with
  |l k=>cases k1
  |o k=>cases j with
   |l k=>cases k2
   |o k'=>
    have e1:=AObj.block_ctx (o:=o) isO (i:=.o k) trivial (hi'.obj (.o k) o k1).1 hc
    have e2:=AObj.block_ctx (o:=o') isO (i:=.o k') trivial (hi'.obj (.o k') o' k2).1 hc
    exact hi'.inj (.o k) (.o k') o o' g k1 k2 (by rw[←e1];exact k3) (by rw[←e2];exact k4)
end Go.Abs
namespace Go.Proofs.YtmdkenkhaicbeaaGreatDoor
open Go Go.Abs Go.CoreX
variable {Γ:List (Nat×List AC)}
def resF (R:Rs):FV:=.tup [.agg [.sl 1 (R.out.map cI),int R.fin,int R.val],.one (int R.steps),.one (int R.err)]
abbrev whS (ou':Outer):St:=⟨4,[(3,.cells [int 0]),(2,.cells [int 0]),(1,.cells [.lit (.slice none 0 0),int 0,int 0]),(0,.cells [.ptr (.o 0) 0])],ou'⟩
abbrev whO:List AObj:=[.cells [.ptr (.o 0) 0],.cells [.lit (.slice none 0 0),int 0,int 0],.cells [int 0],.cells [int 0]]
def CatQ (k:Nat)(c:Int)(m:Ms)(ou2:Outer):Prop:=OuOk ou2/\∃r0,ou2 (k+1)=some (.cells [r0,int (rsOf (.trap c m)).fin,int (rsOf (.trap c m)).val])/\Wk r0 (.sl 1 ((rsOf (.trap c m)).out.map cI))/\ou2 (k+2)=some (.cells [int (rsOf (.trap c m)).steps])/\ou2 (k+3)=some (.cells [int (rsOf (.trap c m)).err])
theorem Qfs(hΓ:∀g cs,(g,cs)∈Γ->idsL isO cs){ouY:Outer}{k:Nat}{m:Ms}{c:Int}(hou:OuOk ouY)(hk:0 < k)(hm:∃tc ec vc kc fu fc,ouY 0=some (.cells (mC tc ec vc kc m.out m.steps fu fc)))
  (h0:ouY k=some (.cells [.ptr (.o 0) 0])) (h1:ouY (k+1)=some (.cells [.lit (.slice none 0 0),int 0,int 0])) (h2:ouY (k+2)=some (.cells [int 0])) (h3:ouY (k+3)=some (.cells [int 0]))
  (F:Nat->Prop) (w:World) (C:Ctx) (cargs:List Value) (hnl:C.nl=0) (hi:Inv Γ F w C ⟨0,[],ouY⟩) (hr:RFs w C [.one (.ptr (.o k) 0),.one (.ptr (.o (k+1)) 0),.one (.ptr (.o (k+2)) 0),.one (.ptr (.o (k+3)) 0)] cargs):
  CallsD Tryz.prog 93 cargs.toArray (.panicking (trapE c)) w fun e u' w'=>(∃v,e=.returned v)/\settle u'=.returning/\∃C' ou2,Goes F isO w C w' C'/\C'.nl=0/\Inv Γ F w' C' ⟨0,[],ou2⟩/\CatQ k c m ou2:=by
 obtain⟨tc,ec,vc,kc,fu,fc,hm0⟩:=hm
 simp only[RFs]at hr
 obtain⟨p,_,rfl,hp,q,_,rfl,hq,r,_,rfl,hrr,s,_,rfl,hs,rfl⟩:=hr
 generalize hR:(fun (e:Ending) (u':FrameMode) (w':World)=>(∃v,e=.returned v)/\settle u'=.returning/\∃C' ou2,Goes F isO w C w' C'/\C'.nl=0/\Inv Γ F w' C' ⟨0,[],ou2⟩/\CatQ k c m ou2)=RR
 refine callsD_of_wpS Tryz.func93 rfl fun c₀ cs hu=>?_
 apply wpS_seq
 apply wpS_region
 simp[wpOpsS,go_sem,recoverD,hu,Tryz.ntmps93,Exit.thenS,trapE]
 apply wpS_seq
 apply wpS_region
 simp[wpOpsS,go_sem,recoverD,hu,Exit.thenS]
 refine wpS_cond (t:=true) (by simp[Act.eval,Array.replicate]) ?_
 simp only[if_true]
 refine wpS_of_wp ?_
 have hpv:R w C (.ifc tTrap true [int c]) (.iface tTrap (.agg #[.int .i64 c])):=⟨[.int .i64 c],⟨_,_,rfl,⟨rfl,rfl⟩,rfl⟩,.inl ⟨rfl,rfl⟩⟩
 generalize htm:(#[p,q,r,s]++_:Array Value)=tmps
 have hsz:tmps.size=33:=by rw[←htm];simp
 have hfr:FrOk w C 33 [(4,.one (.ifc tTrap true [int c])),(3,.one (.ptr (.o (k+3)) 0)),(2,.one (.ptr (.o (k+2)) 0)),(1,.one (.ptr (.o (k+1)) 0)),(0,.one (.ptr (.o k) 0))] tmps:=by
  refine⟨hsz,fun j x hj=>?_⟩
  rw[←htm]
  match j,hj with
  |0,hj=>cases hj;exact⟨p,by simp,hp⟩
  |1,hj=>cases hj;exact⟨q,by simp,hq⟩
  |2,hj=>cases hj;exact⟨r,by simp,hrr⟩
  |3,hj=>cases hj;exact⟨s,by simp,hs⟩
  |4,hj=>cases hj;exact⟨_,by simp,hpv⟩
  |j+5,hj=>cases hj
 refine wp_mono ((show ACode ⟨Tryz.prog,tab,Γ,33,[]⟩ _ (Q02 ⟨Tryz.prog,tab,Γ,33,[]⟩ (fun fr σ=>CatQ k c m σ.ou) []) [(4,.one (.ifc tTrap true [int c])),(3,.one (.ptr (.o (k+3)) 0)),(2,.one (.ptr (.o (k+2)) 0)),(1,.one (.ptr (.o (k+1)) 0)),(0,.one (.ptr (.o k) 0))] ⟨0,[],ouY⟩from ?_) F w C w C tmps (Goes.refl _ _ _ _) hi hfr) fun e a w' hp=>?_
 ·refine ACode.seq ?_
  refine zA ?_
  refine zS (AStep.assertYesA Q0p rfl rfl) ?_
  refine zA ?_
  refine ACode.drawX tabOk 11 [(0,.one (.ptr (.o 0) 0)),(3,.one (.gs 1 (m.out.map cI) (.o fc.kt))),(7,.one (.ptr (.o 0) 0)),(10,.one (int m.steps))] follows (by kernel_rfl) rfl rfl rfl rfl ?_ ?_
  ·exact⟨⟨_,rfl,zLD rfl rfl h0 rfl⟩,⟨_,rfl,zLD rfl rfl hm0 rfl⟩,⟨_,rfl,zLD rfl rfl h0 rfl⟩,⟨_,rfl,zLD rfl rfl hm0 rfl⟩,trivial⟩
  obtain⟨r0,hr0⟩:∃r0:AC,r0=.gs 1 (m.out.map cI) (.o fc.kt):=⟨_,rfl⟩
  have hri:r0.ids isO:=by rw[hr0];exact⟨trivial,by simp⟩
  refine AOps.storeOwnA (cs:=[.lit (.slice none 0 0),int 0,int 0]) (vs:=[.gs 1 (m.out.map cI) (.o fc.kt),int c,int 0]) tabOk rfl rfl rfl rfl rfl rfl rfl rfl (show ouY (k+1)=_ from h1) ?_
  rw[Q1n,←hr0]
  refine AOps.storeOwn tabOk rfl rfl rfl rfl rfl rfl rfl (show updO _ _ _ _=_ by rw[Q06 _ (by omega)];exact h2) (by simp) ?_
  rw[Q1n]
  refine AOps.storeOwn tabOk rfl rfl rfl rfl rfl rfl rfl (show updO _ _ _ _=_ by rw[Q06 _ (by omega),Q06 _ (by omega)];exact h3) (by simp) ?_
  rw[Q1n]
  obtain⟨ou2,hou2⟩:∃ou2:Outer,ou2=updO (updO (updO ouY (k+1) (.cells [r0,int c,int 0])) (k+2) (.cells [int m.steps])) (k+3) (.cells [int 0]):=⟨_,rfl⟩
  have e1:ou2 (k+1)=some (.cells [r0,int c,int 0]):=by rw[hou2,Q06 _ (by omega),Q06 _ (by omega),Q03]
  have e2:ou2 (k+2)=some (.cells [int m.steps]):=by rw[hou2,Q06 _ (by omega),Q03]
  have e3:ou2 (k+3)=some (.cells [int 0]):=by rw[hou2,Q03]
  have ho2:OuOk ou2:=by rw[hou2];exact Q0o (Q0o (Q0o hou ⟨hri,trivial,trivial,trivial⟩) ⟨trivial,trivial⟩) ⟨trivial,trivial⟩
  refine AOps.stEq (σ':=⟨1,[(0,.cells [int c]),(0,.cells [int 0])],ou2⟩) (by rw[hou2];rfl) ?_
  refine zA ?_
  refine ACode.cond rfl (fun hb=>?_) (fun hb=>?_)
  ·have hlt:c < 0:=by simpa using hb
   refine zA ?_
   refine AOps.storeOwnA (cs:=[r0,int c,int 0]) (vs:=[.lit (.slice none 0 0),int 0,int 0]) tabOk rfl rfl rfl rfl rfl rfl rfl rfl (show ou2 (k+1)=_ from e1) ?_
   rw[Q1n]
   refine AOps.storeOwn tabOk rfl rfl rfl rfl rfl rfl rfl (show updO _ _ _ _=_ by rw[Q06 _ (by omega)];exact e2) (by simp) ?_
   rw[Q1n]
   refine AOps.storeOwn tabOk rfl rfl rfl rfl rfl rfl rfl (show updO _ _ _ _=_ by rw[Q06 _ (by omega),Q06 _ (by omega)];exact e3) (by simp) ?_
   rw[Q1n]
   refine zA ?_
   refine⟨Q0o (Q0o (Q0o ho2 ⟨trivial,trivial,trivial,trivial⟩) ⟨trivial,trivial⟩) ⟨trivial,trivial⟩,.lit (.slice none 0 0),?_,?_,?_,?_⟩
   ·simp only[rsOf,if_pos hlt]
    show updO _ _ _ _=_
    rw[Q06 _ (by omega),Q06 _ (by omega),Q03];rfl
   ·simp only[rsOf,if_pos hlt];exact .nilS 1
   ·simp only[rsOf,if_pos hlt]
    show updO _ _ _ _=_
    rw[Q06 _ (by omega),Q03];rfl
   ·simp only[rsOf,if_pos hlt]
    show updO _ _ _ _=_
    rw[Q03];rfl
  ·have hge:¬c < 0:=by simpa using hb
   refine zA ?_
   exact⟨ho2,r0,by simp only[rsOf,if_neg hge];exact e1,by simp only[rsOf,if_neg hge];rw[hr0];exact .gsE rfl,by simp only[rsOf,if_neg hge];exact e2,by simp only[rsOf,if_neg hge];exact e3⟩
 ·obtain⟨hd,fr',σ',C',hgo,hi',hf',hk⟩:=hp
  cases e with
  |normal=>
   have hk:CatQ k c m σ'.ou:=hk
   obtain⟨hc,hi2⟩:=Qef hΓ hi' hk.1
   refine⟨hd,_,rfl,.tuple #[],by simp[results,Tryz.results93],?_⟩
   rw[←hR]
   exact⟨⟨_,rfl⟩,rfl,_,σ'.ou,⟨hgo.stp,hgo.chg.trans hc,hgo.no,hgo.newp⟩,rfl,hi2,hk⟩
  |ret=>
   have hk:CatQ k c m σ'.ou:=hk
   obtain⟨hc,hi2⟩:=Qef hΓ hi' hk.1
   refine⟨hd,_,rfl,.tuple #[],by simp[results,Tryz.results93],?_⟩
   rw[←hR]
   exact⟨⟨_,rfl⟩,rfl,_,σ'.ou,⟨hgo.stp,hgo.chg.trans hc,hgo.no,hgo.newp⟩,rfl,hi2,hk⟩
  |panic ps=>exact hk.elim
  |exit id=>exact hk.elim
  |goto l=>exact hk.elim
  |outgrown=>exact hk.elim
theorem Qku(hΓ:∀g cs,(g,cs)∈Γ->idsL isO cs){ou':Outer}{m:Ms}(hpr:PR ou' m)(c:Int){x0 x5 x6:FV}:
  Caught Tryz.prog tab Γ Tryz.f63 93 [] [.ptr (.l 0) 0,.ptr (.l 1) 0,.ptr (.l 2) 0,.ptr (.l 3) 0] (fun r _=>r=resF (rsOf (.trap c m))) (trapE c)
   [(6,x6),(5,x5),(4,.one (.ptr (.l 3) 0)),(3,.one (.ptr (.l 2) 0)),(2,.one (.ptr (.l 1) 0)),(1,.one (.ptr (.l 0) 0)),(0,x0)] (whS ou'):=by
 intro F w C tmps xs ys hi hf hx hy
 simp only[RV]at hx hy
 subst hx
 obtain⟨y0,_,rfl,hy0,y1,_,rfl,hy1,y2,_,rfl,hy2,y3,_,rfl,hy3,rfl⟩:=hy
 obtain⟨C2,k,hnone,hgo2,hinv,hrf⟩:=Qkj [0,1,2,3] (by intro j hj;simp only[List.mem_cons,List.not_mem_nil,or_false]at hj;show j < 4;omega) hi
 have hnone:∀m,k<=m->ou' m=none:=hnone
 have hk0:0 < k:=by
  rcases Nat.eq_zero_or_pos k with h|h
  ·obtain⟨_,_,_,_,_,_,h0⟩:=hpr.m0
   rw[hnone 0 (by omega)]at h0;cases h0
  ·exact h
 have hsub:∀i,isO i->toOs [0,1,2,3] k i=i:=fun i hi=>by cases i with|l q=>exact hi.elim|o q=>rfl
 have hnew:∀p,ouAdd ou' k whO (k+p)=whO[p]?:=fun p=>Q36 p
 have hi2:Inv Γ F w C2 ⟨4,[],ouAdd ou' k whO⟩:=hinv _ rfl fun i x hx=>by
  cases i with
  |l q=>cases hx
  |o q=>
   have hx':ouAdd ou' k whO q=some x:=hx
   rcases Nat.lt_or_ge q k with hq|hq
   ·rw[Q2c hq]at hx'
    exact⟨.o q,x,hx',rfl,(AObj.sub_f hsub x (hpr.ok q x hx')).symm⟩
   ·obtain⟨p,rfl⟩:∃p,q=k+p:=⟨q - k,by omega⟩
    rw[hnew]at hx'
    match p,hx' with
    |0,h=>cases h;exact⟨.l 0,_,rfl,rfl,rfl⟩
    |1,h=>cases h;exact⟨.l 1,_,rfl,rfl,rfl⟩
    |2,h=>cases h;exact⟨.l 2,_,rfl,rfl,rfl⟩
    |3,h=>cases h;exact⟨.l 3,_,rfl,rfl,rfl⟩
    |p+4,h=>cases h
 have hou2:OuOk (ouAdd ou' k whO):=fun q x hx=>by
  rcases Nat.lt_or_ge q k with hq|hq
  ·rw[Q2c hq]at hx
   exact hpr.ok q x hx
  ·obtain⟨p,rfl⟩:∃p,q=k+p:=⟨q - k,by omega⟩
   rw[hnew]at hx
   match p,hx with
   |0,h=>cases h;exact⟨trivial,trivial⟩
   |1,h=>cases h;exact⟨trivial,trivial,trivial,trivial⟩
   |2,h=>cases h;exact⟨trivial,trivial⟩
   |3,h=>cases h;exact⟨trivial,trivial⟩
   |p+4,h=>cases h
 have hr:RFs w C2 [.one (.ptr (.o k) 0),.one (.ptr (.o (k+1)) 0),.one (.ptr (.o (k+2)) 0),.one (.ptr (.o (k+3)) 0)] [y0,y1,y2,y3]:=
  ⟨y0,_,rfl,hrf (.one (.ptr (.l 0) 0)) y0 hy0,y1,_,rfl,hrf (.one (.ptr (.l 1) 0)) y1 hy1,y2,_,rfl,hrf (.one (.ptr (.l 2) 0)) y2 hy2,y3,_,rfl,hrf (.one (.ptr (.l 3) 0)) y3 hy3,rfl⟩
 have hc1:Chg isO w C2 w { C2 with nl:=0 }:=⟨fun _ _=>rfl,fun _ h=>h,fun i hp ho=>⟨by cases i with|l k=>cases hp|o k=>exact ho,rfl,rfl⟩⟩
 obtain⟨tc,ec,vc,kc,fu,fc,hm0⟩:=hpr.m0
 refine (Qfs (c:=c) (m:=m) hΓ hou2 hk0 ⟨tc,ec,vc,kc,fu,fc,by rw[Q2c hk0];exact hm0⟩ (hnew 0) (hnew 1) (hnew 2) (hnew 3) (Q27 w C2 (ouAdd ou' k whO)) w { C2 with nl:=0 } [y0,y1,y2,y3] rfl (hi2.forCallee hou2 hΓ) (RFs.chg hc1 _ _ ⟨trivial,trivial,trivial,trivial,trivial⟩ hr)).mono ?_
 rintro e u' w' ⟨hv,hset,C',ou3,hgo,h0,hi',hQ⟩
 obtain⟨hb1,hb2,hb3⟩:=hi2.back hgo h0 hi'
 obtain⟨ho3,r0,q1,q2,q3,q4⟩:=hQ
 refine⟨hv,hset,C2.behind C',[(4,.one (.ptr (.o (k+3)) 0)),(3,.one (.ptr (.o (k+2)) 0)),(2,.one (.ptr (.o (k+1)) 0))],⟨4,[],ou3⟩,hgo2.toO.trans hb1.toO,hb2,⟨hf.1,fun j x hj=>?_⟩,fun ds=>?_⟩
 ·match j,hj with
  |0,hj=>cases hj
  |1,hj=>cases hj
  |2,hj=>cases hj;obtain⟨u,hu,hr⟩:=hf.2 2 (.one (.ptr (.l 1) 0)) rfl;exact⟨u,hu,(hrf _ _ hr).ext hb1.chg⟩
  |3,hj=>cases hj;obtain⟨u,hu,hr⟩:=hf.2 3 (.one (.ptr (.l 2) 0)) rfl;exact⟨u,hu,(hrf _ _ hr).ext hb1.chg⟩
  |4,hj=>cases hj;obtain⟨u,hu,hr⟩:=hf.2 4 (.one (.ptr (.l 3) 0)) rfl;exact⟨u,hu,(hrf _ _ hr).ext hb1.chg⟩
  |j+5,hj=>cases hj
 ·have ha:aRes tab [(4,.one (.ptr (.o (k+3)) 0)),(3,.one (.ptr (.o (k+2)) 0)),(2,.one (.ptr (.o (k+1)) 0))] ⟨4,[],ou3⟩ Tryz.f63.results.toList=some (.tup [.agg [r0,int (rsOf (.trap c m)).fin,int (rsOf (.trap c m)).val],.one (int (rsOf (.trap c m)).steps),.one (int (rsOf (.trap c m)).err)]):=by
   show aRes tab _ _ [.cell 2 53,.cell 3 3,.cell 4 24]=_
   unfold aRes aResL
   rw[Q6j (T:=tab) (x:=.agg [r0,int (rsOf (.trap c m)).fin,int (rsOf (.trap c m)).val]) (σ:=⟨4,[],ou3⟩) (i:=.o (k+1)) rfl rfl rfl q1 rfl rfl]
   unfold aResL
   rw[Q6j (T:=tab) (x:=.one (int (rsOf (.trap c m)).steps)) (σ:=⟨4,[],ou3⟩) (i:=.o (k+2)) rfl rfl rfl q3 rfl rfl]
   unfold aResL
   rw[Q6j (T:=tab) (x:=.one (int (rsOf (.trap c m)).err)) (σ:=⟨4,[],ou3⟩) (i:=.o (k+3)) rfl rfl rfl q4 rfl rfl]
   rfl
  exact⟨_,_,ha,WkF.tup (.cons (.agg (.cons q2 (.cons (.refl _) (.cons (.refl _) .nil)))) (.cons (.refl _) (.cons (.refl _) .nil))),by simp,ho3,rfl⟩
section
variable {fu:Int}{ac:AC}
theorem Qf0(hΓ:∀g cs,(g,cs)∈Γ->idsL isO cs){ou:Outer}{r0:Rd}{kt0:Nat}(hrun:AFnP Tryz.prog Γ 94 [.one (.ptr (.o 0) 0)] ou (RunQ fu ac kt0 r0) (RunP r0)):
  AFn Tryz.prog Γ 63 [.one (.ptr (.o 0) 0)] ou (fun r _=>r=resF (rsOf r0)):=by
 refine AFn.ofDeferP (gd:=93) (d5:=5) (d6:=6) (d7:=7) (d8:=8) (first:=[]) (caps:=[.ptr (.l 0) 0,.ptr (.l 1) 0,.ptr (.l 2) 0,.ptr (.l 3) 0]) (fr1:=[(4,.one (.ptr (.l 3) 0)),(3,.one (.ptr (.l 2) 0)),(2,.one (.ptr (.l 1) 0)),(1,.one (.ptr (.l 0) 0)),(0,.one (.ptr (.o 0) 0))])
  (σ1 := whS ou) (v0 := .one (.ptr (.o 0) 0)) (us := [.one (.ptr (.o 0) 0)]) (Q1 := RunQ fu ac kt0 r0) (QP1 := RunP r0)
  tabOk hΓ Tryz.func63 rfl (by kernel_rfl) (by decide) ?_ rfl rfl (by decide) (AStep.ofOp tabOk rfl) rfl rfl rfl rfl rfl (by decide) (fun ds=>AStep.ofOp tabOk rfl) rfl rfl (by decide) rfl rfl rfl ⟨trivial,trivial⟩ (fun h=>h) hrun rfl rfl (by decide) ?_ ?_ ?_
 ·intro hou
  refine zA ?_
  exact⟨rfl,rfl,rfl⟩
 ·intro hou r ou' hq hri how
  cases r0 with
  |next m=>exact hq.elim
  |trap c m=>exact hq.elim
  |fuel=>
   obtain⟨rfl,_⟩:=hq
   refine⟨.one (.lit (.bool true)),fun ds=>⟨AStep.ofOp tabOk rfl,?_⟩⟩
   refine zA ?_
   exact AFn.fin' rfl (WkF.tup (.cons (.agg (.cons (.nilS 1) (.cons (.refl _) (.cons (.refl _) .nil)))) (.cons (.refl _) (.cons (.refl _) .nil)))) (by simp[resF,rsOf,Q1q]) how rfl
  |done mf vf=>
   obtain⟨rfl,hc,hk,H',nm',hM⟩:=hq
   refine⟨.one (.lit (.bool false)),fun ds=>⟨AStep.ofOp tabOk rfl,?_⟩⟩
   obtain⟨kt,tc,ec,vc,kc,hCR,hKR,h0⟩:=hM.ex
   rw[hc]at hCR
   cases hCR with
   |rt _ ec vc hv=>
    have hvi:=hv.ids
    have hoX:=h0.ouX
    rw[hoX]at how ⊢
    refine zA ?_
    refine ACode.drawSt tabOk 15 14 [(8,.one (int (lastV vf)))] _ follows (by kernel_rfl) rfl rfl (by kernel_rfl) rfl ?_ rfl rfl rfl rfl ?_ ?_ (AStep.ofStore tabOk rfl) ?_
    ·rfl
    ·exact⟨⟨_,rfl,AStep.callPure hΓ rfl rfl rfl ⟨hvi,trivial⟩ how (Qa2 hv)⟩,trivial⟩
    ·exact⟨⟨_,rfl,AStep.callPure hΓ rfl rfl rfl ⟨hvi,trivial⟩ how (Qa2 hv)⟩,trivial⟩
    refine zA ?_
    exact AFn.fin' rfl (WkF.tup (.cons (.agg (.cons (.gsE rfl) (.cons (.refl _) (.cons (.refl _) .nil)))) (.cons (.refl _) (.cons (.refl _) .nil)))) (by simp[resF,rsOf]) how rfl
 ·intro us w
  refine⟨?_,fun hs=>?_⟩
  ·simp[callFunc,Tryz.func93,Tryz.f93]
  ·obtain⟨l⟩:=us
   match l,hs with
   |[a,b,c,d],_=>exact Qib a b c d w
 ·intro hou ps ou' hq how
  obtain⟨c,m,rfl,rfl,hpr⟩:=hq
  exact Qku hΓ hpr c
end
end Go.Proofs.YtmdkenkhaicbeaaGreatDoor
namespace Go.CoreX
theorem adj_pw:∀{l:List Int},(∀i,0 < i->i < l.length->l.getD (i - 1) 0 < l.getD i 0)->l.Pairwise (· < ·)
 |[],_=>.nil
 |a::l,h=>by
  have ih:l.Pairwise (· < ·):=adj_pw fun i hi hl=>by
   have:=h (i+1) (by omega) (by simp;omega)
   obtain⟨j,rfl⟩:∃j,i=j+1:=⟨i - 1,by omega⟩
   simpa using this
  refine List.pairwise_cons.2 ⟨fun b hb=>?_,ih⟩
  match l,hb,h,ih with
  |c::l,hb,h,ih=>
   have h0:a < c:=by simpa using h 1 (by omega) (by simp)
   rcases List.mem_cons.1 hb with rfl|hb
   ·exact h0
   ·exact Int.lt_trans h0 ((List.pairwise_cons.1 ih).1 b hb)
structure NodeU (l:Lab):Prop where
 sh:shpQ l
 bl:l.binds.length<=1048576
 al:l.alts.length<=1048576
 ab:∀a∈l.alts,a.binds.length<=1048576
 kl:l.ops.length<=1048576
 wd:l.op=1->-1073741824<=l.n/\l.n<=1073741823
 rc:l.op=5->∀i,i < l.binds.length->l.ops[i]?=some 2
 sl:l.op=16->0<=l.n
 rb:l.op=9->rowOk l.binds
 rn:l.op=11->0<=l.n/\l.n < 1048576
theorem Q9w{e:List Ex}{x:Ex}(h:Q1i e x=0):shape x=true/\between x.n (lowN x.op) (highN x.op)=true/\x.binds.all Q26=true/\(List.range x.binds.length).any (Q1s e x)=false:=by
 unfold Q1i at h
 split at h
 ·cases h
 rename_i h1
 split at h
 ·rename_i h2;exact absurd h h2
 rename_i h2
 split at h
 ·cases h
 rename_i h3
 have h2':ranges x=0:=by simpa using h2
 unfold ranges at h2'
 split at h2'
 ·cases h2'
 rename_i h4
 split at h2'
 ·cases h2'
 rename_i h5
 exact⟨by simpa using h1,by simpa using h4,by simpa using h5,by simpa using h3⟩
theorem Q8h{flat:Bool}{e:List Ex}{x:Ex}(h:Q14 flat e x=0):((flat&&Q5s x.op)||(!flat&&Q4u x.op))=false/\Q1i e x=0:=by
 unfold Q14 at h
 split at h
 ·cases h
 ·rename_i h1;exact⟨by simpa using h1,h⟩
end Go.CoreX
namespace Go.Proofs.YtmdkenkhaicbeaaGreatDoor
open Go Go.Abs Go.CoreX
theorem nodeU{e:List Ex}(ht:IsTree e)(he:okB e){x:Ex}(hx:x∈e)(hn:Q1i e x=0):NodeU (labE e x):=by
 obtain⟨h1,h2,h3,h4⟩:=Q9w hn
 have hsz:=he.eo.x x hx
 have hbt:lowN x.op<=x.n/\x.n<=highN x.op:=by simpa[between]using h2
 have hid:∀y∈x.binds,0<=y/\y < 1048576:=fun y hy=>by
  have:=List.all_eq_true.1 h3 y hy
  simp[Q26,between]at this
  omega
 have hbb:∀i,i < x.binds.length->Q1s e x i=false:=fun i hi=>by
  have:=List.any_eq_false.1 h4 i (List.mem_range.2 hi)
  simpa using this
 refine⟨⟨⟨x.kids,by simp[labE],h1⟩⟩,hsz.b,hsz.a,hsz.ab,by simpa[labE]using hsz.k,fun h=>?_,fun h5 i hi=>?_,fun h=>?_,fun h=>⟨adj_pw fun i h0 hi=>?_,hid⟩,fun h=>?_⟩
 ·have h:x.op=1:=h
  rw[h]at hbt;simpa[lowN,highN,labE]using hbt
 ·simp only[labE]at h5 hi ⊢
  have h6:=hbb i hi
  simp only[Q1s,Bool.or_eq_false_iff]at h6
  have h6:=h6.1
  have hkl:x.kids.length=x.binds.length+1:=by
   have:ShN 5 x.n x.binds x.kids.length x.alts:=⟨⟨x.kids,rfl,by rw[←h5];exact h1⟩⟩
   exact this.recs.1
  have hil:i < x.kids.length:=by omega
  have hkk:=Qhq ht.k hx _ (List.getElem_mem hil)
  have h7:x.kids.getD i 0=x.kids[i]:=by rw[List.getD_eq_getElem?_getD,List.getElem?_eq_getElem hil];rfl
  rw[h7]at h6
  rw[List.getElem?_map,List.getElem?_eq_getElem hil,Option.map_some,op_grow e _ (by omega)]
  simpa[h5]using h6
 ·have h:x.op=16:=h
  rw[h]at hbt;exact hbt.1
 ·have h:x.op=9:=h
  have h6:=hbb i hi
  simp only[Q1s,Bool.or_eq_false_iff]at h6
  have h7:=h6.2
  simp[h]at h7
  have:=h7 h0
  simp only[labE]
  rw[List.getD_eq_getElem?_getD,List.getD_eq_getElem?_getD]
  exact this
 ·have h:x.op=11:=h
  rw[h]at hbt
  have:=hbt.1;have h8:=hbt.2
  simp[lowN,highN,labE]at *
  omega
theorem Q6g{e:List Ex}(h:check e=0)(he:okB e){hi:Bool}(hh:∀x∈e,x.op=12∨x.op=13->hi=true)(fns:List Fun):allT (FragU fns hi) (grow e):=by
 have ht:=Q42 h
 refine Qir ht fun x hx=>?_
 obtain⟨h1,h2⟩:=Q8h ((Q85 h).2.1 x hx)
 have N:=nodeU ht he hx h2
 have hno:¬(x.op=14∨x.op=15∨x.op=16):=fun h=>by simp[Q4u]at h1;omega
 exact⟨N.sh,hh x hx,N.bl,N.al,N.ab,N.kl,N.wd,N.rc,fun h=>absurd (show x.op=14∨x.op=15∨x.op=16 from h.elim .inl fun h=>.inr (.inl h)) hno,fun h=>absurd (show x.op=14∨x.op=15∨x.op=16 from .inl h) hno,N.sl,N.rb,N.rn⟩
theorem RunInv.no{fu:Int}{fns:List Fun}(hf:FnsU fns false):RunInv fu fns (false=true) (gM (GU fns false)) where
 st:=fun m m' h hr=>Q3f (GUok hf) h hr
 fr:=fun h=>by cases h
 pf:=fun m h v f k hc hk h12=>by
  have hg:=h.k
  rw[hk]at hg
  have F:FragU fns false ⟨f.t.op,f.t.n,f.t.binds,f.t.kids.map Tr.op,f.t.alts⟩:=Q0n (Qih.1 hg.1).1
  have:=F.op (.inl h12)
  cases this
theorem Qa8{fns:List Fun}{hi:Bool}{t:Tr}(h:allT (FragU fns hi) t):gM (GU fns hi) (initM t):=⟨⟨h,trivial⟩,trivial,fun r hr=>by cases hr⟩
theorem Q70{fu:Int}{fns:List Fun}{m:Ms}{R:Rs}(h:EndsM fu fns m R):∃g r,goX fu fns g m=some r/\rsOf r=R:=by
 obtain⟨g,hg⟩:=h
 rw[Qie]at hg
 cases hx:goX fu fns g m with
 |none=>rw[hx]at hg;cases hg
 |some r=>rw[hx]at hg;exact⟨g,r,hx,Option.some.inj hg⟩
theorem Ql8(t:Tr)(fu:Int)(ac:AC)(ha:ac.ids isO):MR fu ⟨ac,1⟩ (ouOf [.cells (mC (.box (cTr t)) nilPE (.lit .nilIface) nilPE [] 0 fu ⟨ac,1⟩),.tok 3 1 0]) (fun _=>none) [] (initM t):=by
 refine⟨⟨1,_,_,_,_,.ev t .nil nilPE (.lit .nilIface) .nil,.nil,⟨⟨by simp,trivial,trivial,trivial⟩,rfl,⟨fun k cs hk=>(by cases hk),fun k o hk=>?_,rfl,fun a k n h=>(by simp at h),fun a k n h=>rfl,fun a b k n n' h=>(by simp at h),⟨rfl,fun a k n h=>(by simp at h)⟩,fun cs hc es i hi=>?_,fun k o hk=>?_⟩⟩⟩⟩
 ·match k,hk with
  |0,hk=>cases hk;exact⟨by simp,trivial,trivial,trivial,⟨trivial,trivial⟩,trivial,trivial,ha,trivial⟩
  |1,hk=>cases hk;trivial
  |k+2,hk=>simp[ouOf]at hk
 ·cases hc
  cases hi
  exact⟨1,rfl,Nat.le_refl _,rfl,rfl,fun a k n h=>by simp at h⟩
 ·match k,hk with
  |0,hk=>cases hk;trivial
  |1,hk=>cases hk;trivial
  |k+2,hk=>simp[ouOf]at hk
theorem Qg9{fns:List Fun}{hi:Bool}{fu:Int}(hf:FnsU fns hi)(hfu:1<=fu/\fu<=1000000)(hm:MoreU fns hi fu (.sl 2 (fns.map cFun)) Γc){t:Tr}(ht:allT (FragU fns hi) t){I:Ms->Prop}(hI:RunInv fu fns (hi=true) I)(hi0:I (initM t)){R:Rs}(hR:EndsM fu fns (initM t) R):
  AFn Tryz.prog Γc 63 [.one (.ptr (.o 0) 0)] (ouOf [.cells (mC (.box (cTr t)) nilPE (.lit .nilIface) nilPE [] 0 fu ⟨.sl 2 (fns.map cFun),1⟩),.tok 3 1 0]) (fun r ou'=>r=resF R/\ou'=ouOf [.dead,.dead]):=by
 obtain⟨g,r0,hg,rfl⟩:=Q70 hR
 have hac:(AC.sl 2 (fns.map cFun)).ids isO:=by show idsS isO _;simp
 have hkc:=kidU hΓc hf (show 0<=fu/\fu<=1000000 by omega) hm
 have hsc:=startU hΓc hf hkc
 have hrun:=Qjm hΓc hac (GUok hf) (fun t ht=>GUopn ht) hkc hsc hI (Ql8 t fu _ hac) (Qa8 ht) hg hi0 (by simp[initM]) (show 0<=fu/\fu<=1000000 by omega) (by simp[initM];omega)
 refine AFn.forgetD (AFn.mono (Qf0 hΓc hrun) fun r ou' hq=>⟨ouOf [.dead,.dead],fun m o hmo=>?_,hq,rfl⟩)
 match m,hmo with
 |0,hmo=>cases hmo;exact .inr ⟨rfl,_,rfl⟩
 |1,hmo=>cases hmo;exact .inr ⟨rfl,_,rfl⟩
 |m+2,hmo=>simp[ouOf]at hmo
theorem Q9q(R:Rs)(p:Abs.Id->Prop):(resF R).ids p:=by simp[resF]
theorem Qiy{hi:Bool}{fu:Int}{e:List Ex}(he:okB e)(hchk:check e=0)(hfu:1<=fu/\fu<=1000000)(hm:MoreU [] hi fu (.sl 2 []) Γc)(hf:allT (FragU [] hi) (grow e)){I:Ms->Prop}(hI:RunInv fu [] (hi=true) I)(hi0:I (initM (grow e))):
  APure Tryz.prog Γc 34 [.one (.sl 5 (e.map cEx)),.one (int fu)] (resF (evalT (grow e) fu)):=by
 have t1:=Q42 hchk
 have c1:=Q5u e he
 rw[hchk]at c1
 have hwh:=Qg9 (fns:=[]) (hi:=hi) ⟨fun f h=>(by cases h),fun f h=>(by cases h)⟩ hfu hm hf hI hi0 (Q4v (grow e) (by omega))
 intro ou
 refine AFn.walk 30 tabOk Tryz.func34 rfl (by kernel_rfl) rfl rfl fun hou=>?_
 refine zA ?_
 refine zca hΓc c1 hou ?_
 refine zA ?_
 have hf1:decide (fu < 1)=false:=by simp;omega
 refine AOps.wk 16 rfl (y:=.one (.lit (.bool false))) (.ofEq (by show FV.one (.lit (.bool (decide (fu < 1))))=_;rw[hf1])) ?_
 refine zM ?_
 refine ACode.cond rfl (fun hb=>absurd (show 1000000 < fu by simpa using hb) (by omega)) (fun _=>?_)
 refine zM ?_
 refine zca hΓc (Qda hΓc e he.eo t1.k t1.ne) hou ?_
 repeat ((fail_if_success ((with_reducible refine oj ?_);refine AOps.atDst 26 rfl ?_));first|refine zO ?_)
 refine AOps.growO 1 4 3 1 rfl rfl ?_
 refine AOps.wkObj (.l 1) rfl (cs':=[.box (cTr (grow e)),nilPE,.lit .nilIface,nilPE,.gs 1 [] (.l 2),int 0,int fu,.sl 2 []]) (fun w C xs h=>?_) ?_
 ·exact (show WkL _ _ from .cons (.refl _) (.cons (.refl _) (.cons (.refl _) (.cons (.refl _) (.cons (.refl _) (.cons (.refl _) (.cons (.refl _) (.cons (.nilS 2) .nil)))))))) w C xs h
 refine AOps.callR [.l 1,.l 2] [.one (.ptr (.o 0) 0)] [.cells (mC (.box (cTr (grow e))) nilPE (.lit .nilIface) nilPE [] 0 fu ⟨.sl 2 [],1⟩),.tok 3 1 0] hΓcF rfl rfl rfl rfl rfl rfl ?_ ?_ ?_ ?_ ?_ hwh ?_
 ·rfl
 ·simp[inO]
 ·simp
 ·refine⟨?_,rfl,trivial⟩
  simp only[AObj.sub,mC,subL,AC.sub,nameOf,List.map_nil,subS]
  rw[Q1z _ _ (by simp)]
  rfl
 ·simp[inO,mC]
 intro r ou' hq
 obtain⟨rfl,rfl⟩:=hq
 refine⟨[.dead,.dead],rfl,rfl,by simp,Q9q _ _,?_⟩
 rw[show FV.sub (nameOf [.l 1,.l 2]) (resF (evalT (grow e) fu))=resF (evalT (grow e) fu)from FV.sub_pure _ _ (Q9q _ _)]
 refine zA ?_
 exact APure.fin rfl (WkF.ofEq rfl) (Q9q _ _) hou rfl
theorem RunE_ok{e:List Ex}(he:okB e)(hnp:∀x∈e,¬(x.op=12∨x.op=13))(fu:Int):APure Tryz.prog Γc 34 [.one (.sl 5 (e.map cEx)),.one (int fu)] (resF (evalE e fu)):=by
 have c1:=Q5u e he
 by_cases hc:check e=0
 ·by_cases hfu:1<=fu/\fu<=1000000
  ·have hf:=Q6g hc he (hi:=false) (fun x hx h=>absurd h (hnp x hx)) []
   have hR:evalE e fu=evalT (grow e) fu:=by
    unfold evalE
    rw[if_neg (by simpa using hc),if_neg (by omega)]
   rw[hR]
   exact Qiy he hc hfu MoreU.no hf (RunInv.no ⟨fun f h=>(by cases h),fun f h=>(by cases h)⟩) (Qa8 hf)
  ·have hR:evalE e fu={ Q1q with err:=4 }:=by
    unfold evalE
    rw[if_neg (by simpa using hc),if_pos (by omega)]
   rw[hR]
   rw[hc]at c1
   intro ou
   refine AFn.walk 30 tabOk Tryz.func34 rfl (by kernel_rfl) rfl rfl fun hou=>?_
   refine zA ?_
   refine zca hΓc c1 hou ?_
   refine zA ?_
   by_cases h1:fu < 1
   ·have hf1:decide (fu < 1)=true:=by simpa using h1
    refine AOps.wk 16 rfl (y:=.one (.lit (.bool true))) (.ofEq (by show FV.one (.lit (.bool (decide (fu < 1))))=_;rw[hf1])) ?_
    refine zM ?_
    exact APure.fin rfl (WkF.tup (.cons (.agg (.cons (.nilS 1) (.cons (.refl _) (.cons (.refl _) .nil)))) (.cons (.refl _) (.cons (.refl _) .nil)))) (by simp[resF,Q1q]) hou rfl
   ·have hf1:decide (fu < 1)=false:=by simpa using h1
    refine AOps.wk 16 rfl (y:=.one (.lit (.bool false))) (.ofEq (by show FV.one (.lit (.bool (decide (fu < 1))))=_;rw[hf1])) ?_
    refine zM ?_
    refine ACode.cond rfl (fun _=>?_) (fun hb=>absurd (show ¬1000000 < fu by simpa using hb) (by omega))
    refine zM ?_
    exact APure.fin rfl (WkF.tup (.cons (.agg (.cons (.nilS 1) (.cons (.refl _) (.cons (.refl _) .nil)))) (.cons (.refl _) (.cons (.refl _) .nil)))) (by simp[resF,Q1q]) hou rfl
 ·have hR:evalE e fu={ Q1q with err:=check e }:=by
   unfold evalE
   rw[if_pos (by simpa using hc)]
  rw[hR]
  intro ou
  refine AFn.walk 30 tabOk Tryz.func34 rfl (by kernel_rfl) rfl rfl fun hou=>?_
  refine zA ?_
  refine zca hΓc c1 hou ?_
  refine zA ?_
  refine ACode.cond rfl (fun _=>?_) (fun hb=>absurd (show check e=0 by simpa using hb) hc)
  refine zM ?_
  exact APure.fin rfl (WkF.tup (.cons (.agg (.cons (.nilS 1) (.cons (.refl _) (.cons (.refl _) .nil)))) (.cons (.refl _) (.cons (.refl _) .nil)))) (by simp[resF,Q1q]) hou rfl
variable {Γ:List (Nat×List AC)}
theorem MoreU.yes(hΓ:∀g cs,(g,cs)∈Γ->idsL isO cs){fu:Int}:MoreU [] true fu (.sl 2 ([].map cFun)) Γ:=
 ⟨fun _ ou H nm m k fs kc tc0 ec0 vc0 kt vc a c h0 hk hv ha _ hfl=>Qep hΓ (ac:=.sl 2 []) trivial ou H nm m k fs kc tc0 ec0 vc0 kt vc a c h0 hk hv ha hfl,
 fun _ ou H nm m m' t e d k ec kc tc0 ec0 vc0 kc0 dc kt h0 he hd hk ht hg hkl hl ho hx=>kid_hi hΓ (ac:=.sl 2 []) trivial ou H nm m m' t e d k ec kc tc0 ec0 vc0 kc0 dc kt h0 he hd hk (Q44 (fun _ h=>⟨FragU.sh h,FragU.al h⟩) t ht) (G:=GU [] true) (fun _ h=>⟨FragU.sh h,FragU.al h⟩) hg hkl hl ho hx⟩
end Go.Proofs.YtmdkenkhaicbeaaGreatDoor
namespace Go.CoreX
mutual
theorem Qhi:∀t:Tr,mapT id t=t
 |.mk o n b k a=>by
  simp only[mapT,Qe6 k,id,List.map_id_fun,ite_self]
  congr 1
  induction a with
  |nil=>rfl
  |cons x a ih=>simp only[List.map_cons,ih];cases x;simp[mapA]
theorem Qe6:∀l:List Tr,mapTs id l=l
 |[]=>rfl
 |t::l=>by simp only[mapTs,Qhi t,Qe6 l]
end
section
variable {s:Sim}{G:GP}
theorem Qjh(hG:GPok G)(hs:SimOk s G){fu fu2:Int}(hf:s.st+fu<=fu2)(hob:s.ob=[]){m m':Ms}(hm:gM G m)(hle:m.steps<=fu)(h:Q05 fu [] m=.next m'):Q05 fu2 [] (mapM s m)=.next (mapM s m'):=by
 cases hc:m.c with
 |rt v=>
  have hmc:(mapM s m).c=.rt (mapV s v):=by simp[mapM,hc,mapC]
  have hv:gV G v:=by have:=hm.c;rw[hc]at this;exact this
  cases hk:m.k with
  |nil=>simp[Q05,hc,hk]at h
  |cons f k=>
   have hmk:(mapM s m).k=mapF s f::(mapFs s k++s.kb):=by simp[mapM,hk,mapFs]
   have hf1:=hm.k
   rw[hk]at hf1
   obtain⟨t,e,d⟩:=f
   obtain⟨g1,g2,g3,g4,g5⟩:=hf1.1
   have hne:t.op≠0:=fun h0=>g5 (.inl h0)
   rw[Q1t hc hk]at h
   simp only[Fm.t_mk,Fm.e_mk,Fm.done_mk]at h
   have hround2:Q05 fu2 [] (mapM s m)=rdOf (mapM s m) (kidM fu2 [] (mapM s m) (mapF s (.mk t e (d++[v]))) (mapFs s k++s.kb)):=by
    have e2:mapF s (.mk t e (d++[v]))=.mk (mapF s (.mk t e d)).t (mapF s (.mk t e d)).e ((mapF s (.mk t e d)).done++[mapV s v]):=by simp[mapF,Q7l,mapVs]
    rw[e2]
    exact Q1t hmc hmk
   cases hkid:kidM fu [] m (.mk t e (d++[v])) k with
   |error c=>rw[hkid]at h;cases h
   |ok m2=>
    rw[hkid]at h
    cases h
    rw[hround2,Qed hG hs hf (m:=m) (f:=.mk t e (d++[v])) (k:=k) (x:=.ok m') g1 g2 (Q4k g3 ⟨hv,trivial⟩) (by simp;omega) hf1.2 hne hkid (fun m2 hx=>.inl hob) (fun c' hx=>by cases hx)]
    rfl
 |ev t e=>
  have hmc:(mapM s m).c=.ev (mapT s.ν t) (mapE s e):=by simp[mapM,hc,mapC]
  have ht:allT G.p t/\gE G e:=by have:=hm.c;rw[hc]at this;exact this
  by_cases hst:m.steps=fu
  ·simp[Q05,hc,hst]at h
  ·have hst2:¬s.st+m.steps=fu2:=by omega
   have hround2:Q05 fu2 [] (mapM s m)=rdOf (mapM s { m with steps:=m.steps+1 }) (Q0d fu2 [] (mapM s { m with steps:=m.steps+1 }) (mapT s.ν t) (mapE s e)):=by
    have e3:mapM s { m with steps:=m.steps+1 }={ mapM s m with steps:=(mapM s m).steps+1 }:=by simp only[mapM,Int.add_assoc]
    rw[e3]
    exact Q12 hmc hst2
   rw[Q12 hc hst]at h
   cases hkid:Q0d fu [] { m with steps:=m.steps+1 } t e with
   |error c=>rw[hkid]at h;cases h
   |ok m2=>
    rw[hkid]at h
    cases h
    rw[hround2,Q7b hG hs hf (m:={ m with steps:=m.steps+1 }) (t:=t) (e:=e) (x:=.ok m') ht.1 ht.2 hm.k hkid (fun m2 hx=>.inl hob) (fun c' hx=>by cases hx)]
    rfl
theorem Qjg(hG:GPok G)(hs:SimOk s G){fu fu2:Int}(hf:s.st+fu<=fu2)(hob:s.ob=[]){m m2:Ms}{c:Int}(hc0:0<=c)(hm:gM G m)(hle:m.steps<=fu)(h:Q05 fu [] m=.trap c m2):Q05 fu2 [] (mapM s m)=.trap c (mapM s m2):=by
 cases hc:m.c with
 |rt v=>
  have hmc:(mapM s m).c=.rt (mapV s v):=by simp[mapM,hc,mapC]
  have hv:gV G v:=by have:=hm.c;rw[hc]at this;exact this
  cases hk:m.k with
  |nil=>simp[Q05,hc,hk]at h
  |cons f k=>
   have hmk:(mapM s m).k=mapF s f::(mapFs s k++s.kb):=by simp[mapM,hk,mapFs]
   have hf1:=hm.k
   rw[hk]at hf1
   obtain⟨t,e,d⟩:=f
   obtain⟨g1,g2,g3,g4,g5⟩:=hf1.1
   have hne:t.op≠0:=fun h0=>g5 (.inl h0)
   rw[Q1t hc hk]at h
   simp only[Fm.t_mk,Fm.e_mk,Fm.done_mk]at h
   have hround2:Q05 fu2 [] (mapM s m)=rdOf (mapM s m) (kidM fu2 [] (mapM s m) (mapF s (.mk t e (d++[v]))) (mapFs s k++s.kb)):=by
    have e2:mapF s (.mk t e (d++[v]))=.mk (mapF s (.mk t e d)).t (mapF s (.mk t e d)).e ((mapF s (.mk t e d)).done++[mapV s v]):=by simp[mapF,Q7l,mapVs]
    rw[e2]
    exact Q1t hmc hmk
   cases hkid:kidM fu [] m (.mk t e (d++[v])) k with
   |ok m2=>rw[hkid]at h;cases h
   |error c'=>
    rw[hkid]at h
    cases h
    rw[hround2,Qed hG hs hf (m:=m) (f:=.mk t e (d++[v])) (k:=k) (x:=.error c) g1 g2 (Q4k g3 ⟨hv,trivial⟩) (by simp;omega) hf1.2 hne hkid (fun m2 hx=>by cases hx) (fun c' hx=>by cases hx;exact⟨.inl hc0,.inl hob⟩)]
    rfl
 |ev t e=>
  have hmc:(mapM s m).c=.ev (mapT s.ν t) (mapE s e):=by simp[mapM,hc,mapC]
  have ht:allT G.p t/\gE G e:=by have:=hm.c;rw[hc]at this;exact this
  by_cases hst:m.steps=fu
  ·simp[Q05,hc,hst]at h
  ·have hst2:¬s.st+m.steps=fu2:=by omega
   have hround2:Q05 fu2 [] (mapM s m)=rdOf (mapM s { m with steps:=m.steps+1 }) (Q0d fu2 [] (mapM s { m with steps:=m.steps+1 }) (mapT s.ν t) (mapE s e)):=by
    have e3:mapM s { m with steps:=m.steps+1 }={ mapM s m with steps:=(mapM s m).steps+1 }:=by simp only[mapM,Int.add_assoc]
    rw[e3]
    exact Q12 hmc hst2
   rw[Q12 hc hst]at h
   cases hkid:Q0d fu [] { m with steps:=m.steps+1 } t e with
   |ok m2=>rw[hkid]at h;cases h
   |error c'=>
    rw[hkid]at h
    cases h
    rw[hround2,Q7b hG hs hf (m:={ m with steps:=m.steps+1 }) (t:=t) (e:=e) (x:=.error c) ht.1 ht.2 hm.k hkid (fun m2 hx=>by cases hx) (fun c' hx=>by cases hx;exact⟨.inl hc0,.inl hob⟩)]
    rfl
end
theorem Qht{fu:Int}{fns:List Fun}{m m':Ms}{f:Fm}{k:List Fm}(h12:f.t.op≠12)(hr:∀fs,f.done.getD 0 .nil≠.res fs)(h:kidM fu fns m f k=.ok m'):m'.k.length<=k.length+1:=by
 unfold kidM at h
 split at h
 ·cases h;simp
 split at h
 ·cases h;simp
 split at h
 ·unfold Q1y at h
  split at h
  ·cases hc:Q0w _ _ f.e f.t.kids 0 f.t.alts <;> rw[hc]at h <;> cases h
   simp
  ·cases h
 split at h
 ·unfold callM at h
  split at h
  ·split at h
   ·cases h;simp
   ·cases h
  ·split at h
   ·cases h;simp
   ·cases h
  ·rename_i fs hf;exact absurd hf (hr fs)
  ·cases h
 split at h
 ·cases h;simp
 try rw[if_neg h12]at h
 split at h
 ·cases h;simp
 split at h
 ·cases h;simp
 split at h
 ·split at h
  ·split at h
   ·cases h;simp
   ·cases h
  ·cases h
 ·cases hp:Q0r fu { m with k:=k } f.t f.done with
  |error c=>rw[hp]at h;cases h
  |ok mv=>
   obtain⟨m2,v2⟩:=mv
   rw[hp]at h
   cases h
   have:=(Q2o hp).2.2
   simp only
   rw[this];simp
theorem Qgh{fu:Int}{fns:List Fun}{m m':Ms}{t:Tr}{e:En}(h12:t.op≠12)(h:Q0d fu fns m t e=.ok m'):m'.k.length<=m.k.length+1:=by
 unfold Q0d at h
 repeat' split at h
 all_goals try (cases h;done)
 all_goals try (cases h;simp)
 exact Qht (f:=.mk t e []) h12 (fun fs h=>by cases h) h
end Go.CoreX
namespace Go.Proofs.YtmdkenkhaicbeaaGreatDoor
open Go Go.Abs Go.CoreX
def rsC (ix:Int):Tr:=.mk 3 0 [] [.mk 0 (ix+2) [] [] [],.mk 0 (ix+1) [] [] []] []
def rsP (op:Int)(t0:Tr):Tr:=.mk 12 op [] [t0] []
def rsT (op ix:Int)(t0:Tr):Tr:=.mk 13 0 [] [rsP op t0,.mk 0 ix [] [] [],rsC ix] [⟨-1,[ix]⟩,⟨op,[ix+1,ix+2]⟩]
def rsH (op ix:Int)(t0:Tr):Fm:=.mk (rsT op ix t0) .nil []
def rsS (op ix:Int)(t0:Tr):Sim:=⟨id,.nil,[.mk (rsP op t0) .nil [],rsH op ix t0],[],[],2⟩
def rsE (op ix:Int)(t0:Tr)(v:Vl):En:=.bind (ix+2) (.res [rsH op ix t0]) (.bind (ix+1) v .nil)
theorem Qgr(op ix:Int)(t0:Tr):SimOk (rsS op ix t0) (GU [] false) where
 inj:=fun a b _ _ h=>h
 eb:=fun a _=>rfl
 var:=fun l _ _=>trivial
 kb:=fun l hl h12=>by have:=FragU.op hl (.inl h12);cases this
 fns:=rfl
section
variable (op ix:Int)(t0:Tr)(v:Vl)(o:List Int)(st:Int)(h:List (List Vl))
def rsA:Nat->Ms
 |0=>⟨.rt v,[.mk (rsP op t0) .nil [],rsH op ix t0],o,st,h⟩
 |1=>⟨.ev (rsC ix) (rsE op ix t0 v),[],o,st,h⟩
 |2=>⟨.ev (.mk 0 (ix+2) [] [] []) (rsE op ix t0 v),[.mk (rsC ix) (rsE op ix t0 v) []],o,st+1,h⟩
 |3=>⟨.rt (.res [rsH op ix t0]),[.mk (rsC ix) (rsE op ix t0 v) []],o,st+1+1,h⟩
 |4=>⟨.ev (.mk 0 (ix+1) [] [] []) (rsE op ix t0 v),[.mk (rsC ix) (rsE op ix t0 v) [.res [rsH op ix t0]]],o,st+1+1,h⟩
 |5=>⟨.rt v,[.mk (rsC ix) (rsE op ix t0 v) [.res [rsH op ix t0]]],o,st+1+1+1,h⟩
 |6=>⟨.rt v,[rsH op ix t0],o,st+1+1+1,h⟩
 |7=>⟨.ev (.mk 0 ix [] [] []) (.bind ix v .nil),[],o,st+1+1+1,h⟩
 |_=>⟨.rt v,[],o,st+1+1+1+1,h⟩
theorem Q5d{fu:Int}(hop:0<=op)(hfu:st+4 < fu):∀i,i < 8->Q05 fu [] (rsA op ix t0 v o st h i)=.next (rsA op ix t0 v o st h (i+1)):=by
 intro i hi
 have hcl:Q0k op 0 [⟨-1,[ix]⟩,⟨op,[ix+1,ix+2]⟩]=some 1:=by
  simp[Q0k,show ¬(-1:Int)=op by omega]
 have hne:¬st=fu:=by omega
 have hne1:¬st+1=fu:=by omega
 have hne2:¬st+1+1=fu:=by omega
 have hne3:¬st+1+1+1=fu:=by omega
 match i,hi with
 |0,_=>
  rw[rsA,Q1t (f:=.mk (rsP op t0) .nil []) (k:=[rsH op ix t0]) rfl rfl]
  have:kidM fu [] (⟨.rt v,[.mk (rsP op t0) .nil [],rsH op ix t0],o,st,h⟩:Ms) (.mk (rsP op t0) .nil [v]) [rsH op ix t0]=.ok (rsA op ix t0 v o st h 1):=by
   show Q0m _ op v [] [rsH op ix t0]=_
   unfold Q0m
   rw[if_pos (show (rsH op ix t0).t.op=13 from rfl)]
   show (match Q0k op 0 [⟨-1,[ix]⟩,⟨op,[ix+1,ix+2]⟩] with|some i=>_|none=>_)=_
   rw[hcl]
   rfl
  exact congrArg _ this
 |1,_=>
  rw[rsA,Q12 rfl hne];rfl
 |2,_=>
  rw[rsA,Q12 rfl hne1]
  show Rd.next _=_
  simp[findE,rsE,rsA]
 |3,_=>rfl
 |4,_=>
  rw[rsA,Q12 rfl hne2]
  show Rd.next _=_
  simp[findE,rsE,rsA,show ¬ix+2=ix+1 by omega]
 |5,_=>rfl
 |6,_=>rfl
 |7,_=>
  rw[rsA,Q12 rfl hne3]
  show Rd.next _=_
  simp[findE,rsA]
theorem Qjo{fu:Int}(hop:0<=op)(hfu:st+4 < fu):EndsM fu [] (rsA op ix t0 v o st h 0) ⟨o,0,lastV v,st+1+1+1+1,0⟩:=by
 have key:∀j,j<=8->EndsM fu [] (rsA op ix t0 v o st h (8 - j)) ⟨o,0,lastV v,st+1+1+1+1,0⟩:=by
  intro j
  induction j with
  |zero=>intro _;exact⟨1,rfl⟩
  |succ j ih=>
   intro hj
   have:=Q5d op ix t0 v o st h hop hfu (8 - (j+1)) (by omega)
   rw[show 8 - (j+1)+1=8 - j by omega]at this
   exact EndsM.step this (ih (by omega))
 exact key 8 (Nat.le_refl _)
theorem Qgq{fu:Int}(hfu:2 < fu):Q05 fu [] (initM (rsT op ix t0))=.next ⟨.ev (rsP op t0) .nil,[rsH op ix t0],[],1,[]⟩/\Q05 fu [] (⟨.ev (rsP op t0) .nil,[rsH op ix t0],[],1,[]⟩:Ms)=.next (mapM (rsS op ix t0) (initM t0)):=by
 constructor
 ·rw[initM,Q12 rfl (show ¬(0:Int)=fu by omega)];rfl
 ·rw[Q12 rfl (show ¬(1:Int)=fu by omega)]
  have e:mapM (rsS op ix t0) (initM t0)=⟨.ev t0 .nil,[.mk (rsP op t0) .nil [],rsH op ix t0],[],2,[]⟩:=by
   show Ms.mk (.ev (mapT id t0) .nil) _ _ _ _=_
   rw[Qhi];rfl
  rw[e];rfl
theorem Qcf{m:Ms}(hc:m.c=.rt v)(hk:m.k=[]):mapM (rsS op ix t0) m=rsA op ix t0 (mapV (rsS op ix t0) v) m.out (2+m.steps) (m.heap.map (mapVs (rsS op ix t0))) 0:=by
 obtain⟨c,k,o,st,h⟩:=m
 simp only at hc hk
 subst hc;subst hk
 rfl
theorem Qhl(s:Sim):lastV (mapV s v)=lastV v:=by cases v <;> rfl
end
theorem rs_run{op ix:Int}{t0:Tr}(hop:0<=op)(ht:allT (FragU [] false) t0)(he:(evalT t0 3000).err=0):
  (evalT (rsT op ix t0) 1000000).err=0/\(evalT (rsT op ix t0) 1000000).out=(evalT t0 3000).out/\(evalT (rsT op ix t0) 1000000).fin=(evalT t0 3000).fin/\(evalT (rsT op ix t0) 1000000).val=(evalT t0 3000).val:=by
 obtain⟨g,r,hg,hr⟩:=Q70 (Q4v t0 (fu:=3000) (by omega))
 obtain⟨h1,h2⟩:=Qgq op ix t0 (fu:=1000000) (by omega)
 have hf:FnsU [] false:=⟨fun f h=>(by cases h),fun f h=>(by cases h)⟩
 rw[←hr]at he ⊢
 have hsim:=Qcc (GUok hf) (Qgr op ix t0) (fu:=3000) (fu2:=1000000) (by show (2:Int)+3000<=_;omega) g (initM t0) r (Qa8 ht) (by simp[initM]) hg (.inl rfl) (.inl he)
 cases hsim with
 |done m v hc hk h=>
  have hle:=goX_le hg (by simp[initM]) (by simp)
  simp only[Qdo]at hle
  have hA:=Qjo op ix t0 (mapV (rsS op ix t0) v) m.out (2+m.steps) (m.heap.map (mapVs (rsS op ix t0))) (fu:=1000000) hop (by omega)
  rw[←Qcf op ix t0 v hc hk]at hA
  have hE:=Qae (EndsM.step h1 (EndsM.step h2 (h _ hA)))
  rw[hE]
  exact⟨rfl,rfl,rfl,Qhl _ _⟩
 |trap c m h h'=>
  have hc:0<=c:=by
   simp only[rsOf]at he
   split at he
   ·simp[Q1q]at he
   ·omega
  have hE:=Qae (EndsM.step h1 (EndsM.step h2 (h hc)))
  rw[hE]
  simp only[rsOf]
  rw[if_neg (by omega)]
  simp[rsS]
 |fuel h=>simp[rsOf,Q1q]at he
structure RsJ (m:Ms):Prop where
 g:gM (GU [] false) m
 st:0<=m.steps/\m.steps<=3000
 k:(m.k.length:Int)<=m.steps
 go:∃g r,goX 3000 [] g m=some r/\(rsOf r).err=0
inductive RsI (op ix:Int)(t0:Tr):Ms->Prop
 |init:RsI op ix t0 (initM (rsT op ix t0))
 |perf:RsI op ix t0 ⟨.ev (rsP op t0) .nil,[rsH op ix t0],[],1,[]⟩
 |own (m:Ms) (h:RsJ m):RsI op ix t0 (mapM (rsS op ix t0) m)
 |tail (v:Vl) (o:List Int) (st:Int) (h:List (List Vl)) (i:Nat) (hi:i<=8) (hst:st<=3002):RsI op ix t0 (rsA op ix t0 v o st h i)
theorem GU0_no{m:Ms}(hg:gM (GU [] false) m){f:Fm}{k:List Fm}(hk:m.k=f::k):f.t.op≠12/\∀(v:Vl),gV (GU [] false) v->∀fs,(f.done++[v]).getD 0 .nil≠.res fs:=by
 have h:=hg.k
 rw[hk]at h
 have hf:=Qih.1 h.1
 refine⟨fun h12=>?_,fun v hv fs he=>?_⟩
 ·have F:FragU [] false ⟨f.t.op,f.t.n,f.t.binds,f.t.kids.map Tr.op,f.t.alts⟩:=Q0n hf.1
  have:=F.op (.inl h12)
  cases this
 ·have h2:gV (GU [] false) ((f.done++[v]).getD 0 .nil):=Q23 (Q4k hf.2.2.1 (show gVs (GU [] false) [v]from ⟨hv,trivial⟩)) 0
  rw[he]at h2
  have:=h2.1
  cases this
theorem RsJ.next{m m':Ms}(h:RsJ m)(hr:Q05 3000 [] m=.next m'):RsJ m':=by
 have hf:FnsU [] false:=⟨fun f h=>(by cases h),fun f h=>(by cases h)⟩
 obtain⟨g,r,hg,he⟩:=h.go
 have hge:=Qdu hr
 refine⟨Q3f (GUok hf) h.g hr,⟨by have:=h.st.1;omega,(Q2l hr h.st.2).1⟩,?_,?_⟩
 ·have hk:=h.k
  cases hc:m.c with
  |rt v=>
   cases hmk:m.k with
   |nil=>simp[Q05,hc,hmk]at hr
   |cons f k=>
    obtain⟨n1,n2⟩:=GU0_no h.g hmk
    rw[Q1t hc hmk]at hr
    cases hkd:kidM 3000 [] m (.mk f.t f.e (f.done++[v])) k with
    |error c=>rw[hkd]at hr;cases hr
    |ok m2=>
     rw[hkd]at hr;cases hr
     have hv:gV (GU [] false) v:=by have:=h.g.c;rw[hc]at this;exact this
     have:=Qht (f:=.mk f.t f.e (f.done++[v])) n1 (fun fs=>n2 v hv fs) hkd
     rw[hmk]at hk
     simp only[List.length_cons]at hk
     omega
  |ev t e=>
   by_cases hs:m.steps=3000
   ·simp[Q05,hc,hs]at hr
   ·rw[Q12 hc hs]at hr
    have ht:allT (FragU [] false) t:=by have:=h.g.c;rw[hc]at this;exact this.1
    have n1:t.op≠12:=fun h12=>by
     have F:FragU [] false ⟨t.op,t.n,t.binds,t.kids.map Tr.op,t.alts⟩:=Q0n ht
     have:=F.op (.inl h12)
     cases this
    cases hkd:Q0d 3000 [] { m with steps:=m.steps+1 } t e with
    |error c=>rw[hkd]at hr;cases hr
    |ok m2=>
     rw[hkd]at hr;cases hr
     have h1:=Qgh n1 hkd
     have h2:=Q6u hkd
     simp only at h1 h2
     omega
 ·cases g with
  |zero=>cases hg
  |succ g=>
   simp only[goX,hr]at hg
   exact⟨g,r,hg,he⟩
theorem RsI.inv{op ix:Int}{t0:Tr}(hop:0<=op)(ht:allT (FragU [] false) t0)(he:(evalT t0 3000).err=0):RunInv 1000000 [] (true=true) (RsI op ix t0) where
 st:=fun m m' hm hr=>by
  have hf:FnsU [] false:=⟨fun f h=>(by cases h),fun f h=>(by cases h)⟩
  obtain⟨h1,h2⟩:=Qgq op ix t0 (fu:=1000000) (by omega)
  cases hm with
  |init=>rw[h1]at hr;cases hr;exact .perf
  |perf=>
   rw[h2]at hr;cases hr
   refine .own _ ⟨Qa8 ht,by simp[initM],by simp[initM],?_⟩
   obtain⟨g,r,hg,hr⟩:=Q70 (Q4v t0 (fu:=3000) (by omega))
   exact⟨g,r,hg,by rw[hr];exact he⟩
  |own m1 hJ=>
   have hle:(rsS op ix t0).st+3000<=1000000:=by show (2:Int)+3000<=_;omega
   cases hr1:Q05 3000 [] m1 with
   |next m2=>
    rw[Qjh (GUok hf) (Qgr op ix t0) hle rfl hJ.g hJ.st.2 hr1]at hr
    cases hr
    exact .own _ (hJ.next hr1)
   |done m2 v=>
    obtain⟨_,hd⟩:=Q4f hr1
    obtain⟨rfl,hc,hk⟩:=hd m2 v rfl
    rw[Qcf op ix t0 v hc hk]at hr
    have:=hJ.st
    rw[Q5d op ix t0 _ _ _ _ hop (by omega) 0 (by omega)]at hr
    cases hr
    exact .tail _ _ _ _ 1 (by omega) (by omega)
   |trap c m2=>
    obtain⟨g,r,hg,her⟩:=hJ.go
    cases g with
    |zero=>cases hg
    |succ g=>
     simp only[goX,hr1]at hg
     cases hg
     have hc:0<=c:=by
      simp only[rsOf]at her
      split at her
      ·simp[Q1q]at her
      ·omega
     rw[Qjg (GUok hf) (Qgr op ix t0) hle rfl hc hJ.g hJ.st.2 hr1]at hr
     cases hr
   |fuel=>
    obtain⟨g,r,hg,her⟩:=hJ.go
    cases g with
    |zero=>cases hg
    |succ g=>
     simp only[goX,hr1]at hg
     cases hg
     simp[rsOf,Q1q]at her
  |tail v o st h i hi hst=>
   rcases Nat.lt_or_ge i 8 with h8|h8
   ·rw[Q5d op ix t0 v o st h hop (by omega) i h8]at hr
    cases hr
    exact .tail v o st h (i+1) h8 hst
   ·obtain rfl:i=8:=by omega
    cases hr
 fr:=fun _ m hm=>by
  cases hm with
  |init=>simp[initM]
  |perf=>simp
  |own m1 hJ=>
   have h1:=hJ.st
   have h2:=hJ.k
   show (mapFs (rsS op ix t0) m1.k++(rsS op ix t0).kb).length<=_
   rw[List.length_append,Q9y,List.length_map]
   simp only[rsS,List.length_cons,List.length_nil]
   omega
  |tail v o st h i hi hst=>
   match i,hi with
   |0,_|1,_|2,_|3,_|4,_|5,_|6,_|7,_|8,_=>simp[rsA]
 pf:=fun m hm v f k hc hk h12=>by
  cases hm with
  |init=>cases hc
  |perf=>cases hc
  |own m1 hJ=>
   have hk':mapFs (rsS op ix t0) m1.k++(rsS op ix t0).kb=f::k:=hk
   cases hmk:m1.k with
   |nil=>
    cases hc1:m1.c with
    |ev t e=>have h:mapC (rsS op ix t0) m1.c=.rt v:=hc;rw[hc1]at h;cases h
    |rt v1=>
     have hd:=Qcf op ix t0 v1 hc1 hmk
     rw[hd]at hc hk ⊢
     cases hc
     cases hk
     have:=hJ.st
     have hs:=Q5d op ix t0 (mapV (rsS op ix t0) v1) m1.out (2+m1.steps) (m1.heap.map (mapVs (rsS op ix t0))) (fu:=1000000) hop (by omega) 0 (by omega)
     rw[Q1t (f:=.mk (rsP op t0) .nil []) (k:=[rsH op ix t0]) rfl rfl]at hs
     cases hx:kidM 1000000 [] (rsA op ix t0 (mapV (rsS op ix t0) v1) m1.out (2+m1.steps) (m1.heap.map (mapVs (rsS op ix t0))) 0) (.mk (rsP op t0) .nil ([]++[mapV (rsS op ix t0) v1])) [rsH op ix t0] with
     |ok m2=>exact⟨m2,hx⟩
     |error c=>
      have hx':=hx
      simp only[Fm.t_mk,Fm.e_mk,Fm.done_mk]at hs
      rw[hx']at hs
      cases hs
   |cons f1 k1=>
    rw[hmk]at hk'
    simp only[mapFs,List.cons_append,List.cons.injEq]at hk'
    obtain⟨hf1,_⟩:=hk'
    exfalso
    refine (GU0_no hJ.g hmk).1 ?_
    rw[←hf1]at h12
    cases f1 with
    |mk t e d=>simpa[mapF,Q66]using h12
  |tail v' o st h i hi hst=>
   match i,hi with
   |0,_=>
    cases hc;cases hk
    have hs:=Q5d op ix t0 v o st h (fu:=1000000) hop (by omega) 0 (by omega)
    rw[Q1t (f:=.mk (rsP op t0) .nil []) (k:=[rsH op ix t0]) rfl rfl]at hs
    cases hx:kidM 1000000 [] (rsA op ix t0 v o st h 0) (.mk (rsP op t0) .nil ([]++[v])) [rsH op ix t0] with
    |ok m2=>exact⟨m2,hx⟩
    |error c=>
     simp only[Fm.t_mk,Fm.e_mk,Fm.done_mk]at hs
     rw[hx]at hs
     cases hs
   |1,_|2,_|4,_|7,_=>cases hc
   |3,_|5,_|6,_=>cases hk;cases h12
   |8,_=>cases hk
end Go.Proofs.YtmdkenkhaicbeaaGreatDoor
namespace Go.Abs
theorem AStep.weak{E:Env}{o:Oper}{fr:Fr}{σ σ':St}{x y:FV}(h:AStep E o fr σ x σ')(hw:WkF x y):AStep E o fr σ y σ':=
 fun F w C tmps hi hf next Q hk=>h F w C tmps hi hf next Q fun u w' C' hg hi' hr=>hk u w' C' hg hi' (hw _ _ _ hr)
end Go.Abs
namespace Go.Proofs.YtmdkenkhaicbeaaGreatDoor
open Go Go.Abs Go.CoreX
variable {Γ:List (Nat×List AC)}
def cNB (t:Tr):List AC:=[.box (cNd t)]
@[simp] theorem ids_cNBl (k:Nat) (l:List Tr):idsS (inL k) (l.map cNB):=Q1u (f:=cNB) (fun t=>by simp[cNB]) l
@[simp] theorem Qkm (l:List Tr):idsS isO (l.map cNB):=Q1u (f:=cNB) (fun t=>by simp[cNB]) l
theorem ren_cNB(ρ:Nat->Nat)(l:List Tr):renS ρ (l.map cNB)=l.map cNB:=Q1o _ _ (Qkm l)
def gN (e:List Ex)(j:Nat):List Tr:=growL (e.take j)
def kN (e:List Ex)(j:Nat)(x:Ex)(i:Nat):List Tr:=kidsT (growL (e.take j)) (x.kids.take i)
theorem Qla(hΓ:∀g cs,(g,cs)∈Γ->idsL isO cs)(e:List Ex)(he:okE e)(hin:Q19 e)(hne:e≠[]):APure Tryz.prog Γ 18 [.one (.sl 5 (e.map cEx))] (.one (.box (cNd (grow e)))):=by
 have hel:=he.l
 intro ou
 refine AFn.walk 50 tabOk Tryz.func18 rfl (by kernel_rfl) rfl rfl fun hou=>?_
 refine zA ?_
 refine ACode.growS 3 33 1 rfl ?_
 refine ACode.loopR hΓ (α:=Nat) (fun j=>[(11,.one (int j)),(10,.one (int (e.map cEx).length)),(9,.one (.sl 5 (e.map cEx))),(3,.one (.gs 1 ((gN e j).map cNB) (.l 0)))])
  (fun j=>⟨1,[(0,.tok 33 1 j)],ou⟩) (fun m j=>j<=e.length/\m=e.length - j) (a0:=0) (ρ:=id) ⟨by omega,rfl⟩ (LessR.of rfl ?_ (by simp) zLO rfl rfl hou) fun m j hj=>?_
 ·exact FrSub.cons rfl (.ofEq rfl) (FrSub.cons rfl (.ofEq rfl) (FrSub.consP rfl (.ofEq rfl) (by simp) (FrSub.cons rfl (.ofEq rfl) .nil)))
 obtain⟨hjl,rfl⟩:=hj
 refine zA ?_
 refine ACode.cond rfl (fun hb2=>?_) (fun hb2=>?_)
 ·have hlt:j < e.length:=by simpa using hb2
  obtain⟨x,hx⟩:=Q01 hlt
  have hxo:=he.x x (List.mem_of_getElem? hx)
  have hxk:=hxo.k
  have hxin:=hin j x hx
  have hgl:(gN e j).length=j:=by unfold gN;rw[Q11];simp;omega
  refine zA ?_
  refine zS (zIA rfl rfl rfl (by omega) (Q0a hx)) ?_
  refine zA ?_
  refine ACode.grow 2 5 33 1 rfl rfl ?_
  refine ACode.loopR hΓ (α:=Nat) (fun i=>[(21,.one (int i)),(20,.one (int (x.kids.map cI).length)),(19,.one (.sl 1 (x.kids.map cI))),(6,.one (.ptr (.l 2) 0)),(11,.one (int j)),(10,.one (int (e.map cEx).length)),(9,.one (.sl 5 (e.map cEx))),(3,.one (.gs 1 ((gN e j).map cNB) (.l 0)))])
   (fun i=>⟨4,[(3,.tok 33 1 i),(2,.cells [int x.op,int x.n,.sl 1 (x.binds.map cI),.sl 1 (x.kids.map cI),.sl 2 (x.alts.map cAlt),.gs 1 ((kN e j x i).map cNB) (.l 3)]),(0,.tok 33 1 j)],ou⟩)
   (fun m i=>i<=x.kids.length/\m=x.kids.length - i) (a0:=0) (ρ:=id) ⟨by omega,rfl⟩ (LessR.of rfl ?_ (by simp) ?_ rfl rfl hou) fun m i hi=>?_
  ·exact zfc (zfc (zfp (zfc (zfc (zfc (zfp (FrSub.consGs rfl rfl (by simp) .nil)))))))
  ·repeat' first|exact LoSub.nil|refine zlc ?_|refine zld ?_ ?_|rfl
   all_goals (simp[AObj.ren,renL,AC.ren,kN,kidsT];rfl)
  obtain⟨hil,rfl⟩:=hi
  refine zA ?_
  refine ACode.cond rfl (fun hb3=>?_) (fun hb3=>?_)
  ·have hlt2:i < x.kids.length:=by simpa using hb3
   obtain⟨k,hk⟩:=Q01 hlt2
   have hkb:=hxin k (List.mem_of_getElem? hk)
   obtain⟨k',rfl⟩:∃k':Nat,k=k':=⟨k.toNat,by omega⟩
   obtain⟨tk,htk⟩:=Q01 (l:=gN e j) (i:=k') (by omega)
   have htd:(growL (e.take j)).getD (k':Int).toNat default=tk:=by rw[Int.toNat_natCast,List.getD_eq_getElem?_getD];unfold gN at htk;rw[htk];rfl
   have hks:kN e j x (i+1)=kN e j x i++[tk]:=by unfold kN;rw[Q8z hk,htd]
   have hkl:((kN e j x i).map cNB).length=i:=by simp[kN,kidsT];omega
   refine zA ?_
   refine zS (zIA rfl rfl rfl (by omega) (Q0a hk)) ?_
   refine zA ?_
   refine ACode.drawXH (va:=.one (.gs 1 ((kN e j x i).map cNB++[cNB tk]) (.l 4))) (σ1:=((St.mk 4 [(3,.tok 33 1 i),(2,.cells [int x.op,int x.n,.sl 1 (x.binds.map cI),.sl 1 (x.kids.map cI),.sl 2 (x.alts.map cAlt),.gs 1 ((kN e j x i).map cNB) (.l 3)]),(0,.tok 33 1 j)] ou).set (.l 3) .dead).push (.tok 33 1 ((kN e j x i).map cNB++[cNB tk]).length))
    tabOk 11 10 [(5,.one (.sl 1 ((gN e j).map cNB))),(7,.one (.box (cNB tk)))] follows (by kernel_rfl) rfl rfl rfl rfl rfl rfl rfl ?_ ?_ ?_ ?_
   ·refine HStep.plain rfl (AStep.append (s:=1) (es:=(kN e j x i).map cNB) (news:=[cNB tk]) (ti:=ti60) (σ:=⟨4,[(3,.tok 33 1 i),(2,.cells [int x.op,int x.n,.sl 1 (x.binds.map cI),.sl 1 (x.kids.map cI),.sl 2 (x.alts.map cAlt),.gs 1 ((kN e j x i).map cNB) (.l 3)]),(0,.tok 33 1 j)],ou⟩) tabOk rfl rfl rfl rfl rfl rfl (Base.gs' _ 33 1 ((kN e j x i).map cNB) (.l 3) rfl hkl.symm) (.sl _ _) rfl ?_ ?_)
    ·rw[hkl];show (i+1) * 8<=_;omega
    ·rw[hkl];show i+1<=_;omega
   ·refine .step rfl (zHP ((AStep.ofOp tabOk rfl).weak (.one (.gsE rfl)))) ?_
    exact .step rfl (zHP (zIA rfl rfl rfl (by omega) (Q0a htk))) .nil
   ·refine .step rfl (zHP ((AStep.ofOp tabOk rfl).weak (.one (.gsE rfl)))) ?_
    exact .step rfl (zHP (zIA rfl rfl rfl (by omega) (Q0a htk))) .nil
   refine zM ?_
   refine cInv ⟨x.kids.length - (i+1),i+1,fun k=>if k=3 then 4 else k,by omega,⟨by omega,rfl⟩,LessR.of rfl ?_ (by simp) ?_ rfl rfl hou⟩
   ·exact zfc (zfc (zfp (zfc (zfc (zfc (zfp (FrSub.consGs rfl rfl (by simp) .nil)))))))
   ·repeat' first|exact LoSub.nil|refine zlc ?_|refine zld ?_ ?_|rfl
    ·simp only[AObj.ren,List.length_append,hkl];rfl
    ·rw[hks];simp only[AObj.ren,renL,AC.ren,Q9s,ren_cNB,Q7f];rw[List.map_append];rfl
    all_goals skip
  have hlt2:i=x.kids.length:=by simp at hb3;omega
  subst hlt2
  repeat ((fail_if_success ((with_reducible refine oj ?_);refine AOps.atDst 41 rfl ?_));first|refine zO ?_)
  refine AOps.freeze1 (.l 2) 40 rfl rfl ?_
  have hkn:kN e j x x.kids.length=kidsT (growL (e.take j)) x.kids:=by unfold kN;rw[List.take_length]
  refine AOps.wk 40 rfl (y:=.one (.box (cNd (Q2f (growL (e.take j)) x)))) (.one (Wk.box ?_)) ?_
  ·rw[Qb7]
   exact .cons (.refl _) (.cons (.refl _) (.cons (.refl _) (.cons (.any _) (.cons (.refl _) (.cons (.gsE (by rw[hkn,Tr.kids_mk,Q3b];rfl)) .nil)))))
  have hsn:gN e (j+1)=gN e j++[Q2f (growL (e.take j)) x]:=by unfold gN;rw[Q3d hx,Q1w]
  generalize Q2f (growL (e.take j)) x=nd at hsn
  refine zA ?_
  refine AOps.app tabOk rfl rfl rfl rfl rfl rfl rfl rfl rfl (Base.gs' _ 33 1 _ _ rfl (by simp[hgl])) (.sl 1 [cNB nd]) rfl ?_ ?_ ?_
  ·simp[hgl];show (j+1) * 8<=_;omega
  ·simp[hgl];omega
  refine zM ?_
  have hcn:(gN e (j+1)).map cNB=(gN e j).map cNB++[cNB nd]:=by rw[hsn,List.map_append];rfl
  refine cInv ⟨e.length - (j+1),j+1,fun k=>if k=0 then 4 else k,by omega,⟨by omega,rfl⟩,?_⟩
  simp only[hcn]
  refine LessR.of rfl (zfc (zfc (zfp (FrSub.consGs rfl rfl (by rw[←hcn];simp) .nil)))) (by rw[←hcn];simp) ?_ rfl rfl hou
  exact LoSub.cons rfl (by simp only[AObj.ren,List.length_append,List.length_map,hgl];rfl) rfl (by simp) .nil
 ·have hlt:j=e.length:=by simp at hb2;omega
  subst hlt
  have hg:gN e e.length=growL e:=by unfold gN;rw[List.take_length]
  obtain⟨M,hM⟩:∃M,e.length=M+1:=⟨e.length - 1,by have:=List.length_pos_iff.2 hne;omega⟩
  obtain⟨t,ht⟩:=Q01 (l:=growL e) (i:=M) (by rw[Q11];omega)
  have hgt:grow e=t:=by unfold grow;rw[hM,Nat.add_sub_cancel,List.getD_eq_getElem?_getD,ht];rfl
  repeat ((fail_if_success ((with_reducible refine oj ?_);refine AOps.atDst 44 rfl ?_));first|refine zO ?_)
  refine AOps.wk 3 rfl (y:=.one (.sl 1 ((growL e).map cNB))) (.one (.gsE (by rw[hg]))) ?_
  refine zM ?_
  have hgle:=Q11 e
  refine AOps.wk 46 rfl (y:=.one (int ((M+1:Nat):Int))) (.ofEq (by rw[List.length_map,hgle,hM])) ?_
  refine zM ?_
  refine AOps.wk 47 rfl (y:=.one (int (M:Nat))) (.ofEq (by congr 3;omega)) ?_
  refine zS (zIA rfl rfl rfl (by omega) (Q0a ht)) ?_
  refine zA ?_
  refine APure.fin rfl (WkF.ofEq ?_) (by simp) hou rfl
  rw[hgt]
end Go.Proofs.YtmdkenkhaicbeaaGreatDoor
namespace Go.CoreX
def upMax (m:Int)(l:List Int):Int:=l.foldl (fun m n=>if n > m then n else m) m
def mostB (e:List Ex):Int:=upMax (-1) (Q0c e)
theorem Qap(m:Int)(l r:List Int):upMax m (l++r)=upMax (upMax m l) r:=by simp[upMax]
theorem Qdi:∀(l:List Int)(m:Int),m<=upMax m l
 |[],m=>Int.le_refl _
 |n::l,m=>by
  have:=Qdi l (if n > m then n else m)
  simp only[upMax,List.foldl_cons]at this ⊢
  split at this <;> rename_i h <;> simp only[h,if_true,if_false] <;> omega
end Go.CoreX
namespace Go.Proofs.YtmdkenkhaicbeaaGreatDoor
open Go Go.Abs Go.CoreX
variable {Γ:List (Nat×List AC)}
def mB (e:List Ex)(j:Nat):Int:=upMax (-1) (Q0c (e.take j))
theorem Ql7(hΓ:∀g cs,(g,cs)∈Γ->idsL isO cs)(e:List Ex)(he:okB e):APure Tryz.prog Γ 12 [.one (.sl 5 (e.map cEx))] (.one (int (mostB e))):=by
 have hel:=he.eo.l
 intro ou
 refine AFn.walk 27 tabOk Tryz.func12 rfl (by kernel_rfl) rfl rfl fun hou=>?_
 refine zA ?_
 refine ACode.loopR hΓ (α:=Nat) (fun j=>[(10,.one (int j)),(9,.one (int (e.map cEx).length)),(8,.one (.sl 5 (e.map cEx))),(3,.one (int (mB e j)))])
  (fun j=>⟨0,[],ou⟩) (fun m j=>j<=e.length/\m=e.length - j) (a0:=0) (ρ:=id) ⟨by omega,rfl⟩ (LessR.of rfl zFS (by simp) zLO rfl rfl hou) fun m j hj=>?_
 obtain⟨hjl,rfl⟩:=hj
 refine zA ?_
 refine ACode.cond rfl (fun hb2=>?_) (fun hb2=>?_)
 ·have hlt:j < e.length:=by simpa using hb2
  obtain⟨x,hx⟩:=Q01 hlt
  have hxm:=List.mem_of_getElem? hx
  have hsn:mB e (j+1)=upMax (mB e j) (Q07 x):=by unfold mB;rw[Q1m hx,Q0c,Q0c,List.flatMap_append,Qap];simp
  refine zA ?_
  refine zS (zIA rfl rfl rfl (by omega) (Q0a hx)) ?_
  refine zA ?_
  refine AOps.callC hΓ (Qj5 hΓ x (he.eo.x x hxm) (he.b x hxm)) rfl rfl rfl rfl rfl rfl rfl hou (by simp[cEx]) ?_
  refine zA ?_
  refine ACode.loopR hΓ (α:=Nat) (fun i=>[(17,.one (int i)),(16,.one (int ((Q07 x).map cI).length)),(15,.one (.sl 1 ((Q07 x).map cI))),(10,.one (int j)),(9,.one (int (e.map cEx).length)),(8,.one (.sl 5 (e.map cEx))),(3,.one (int (upMax (mB e j) ((Q07 x).take i))))])
   (fun i=>⟨0,[],ou⟩) (fun m i=>i<=(Q07 x).length/\m=(Q07 x).length - i) (a0:=0) (ρ:=id) ⟨by omega,rfl⟩ (LessR.of rfl zFS (by simp) zLO rfl rfl hou) fun m i hi=>?_
  obtain⟨hil,rfl⟩:=hi
  have hbl:=(he.ex x hxm).1
  refine zA ?_
  refine ACode.cond rfl (fun hb3=>?_) (fun hb3=>?_)
  ·have hlt2:i < (Q07 x).length:=by simpa using hb3
   obtain⟨n,hn⟩:=Q01 hlt2
   have hsm:upMax (mB e j) ((Q07 x).take (i+1))=if n > upMax (mB e j) ((Q07 x).take i)then n else upMax (mB e j) ((Q07 x).take i):=by rw[Q3d hn,Qap];rfl
   refine zA ?_
   refine zS (zIA rfl rfl rfl (by omega) (Q0a hn)) ?_
   refine zM ?_
   refine cInv ⟨(Q07 x).length - (i+1),i+1,id,by omega,⟨by omega,rfl⟩,?_⟩
   simp only[hsm]
   exact LessR.of rfl zFS (by simp) zLO rfl rfl hou
  have hlt2:i=(Q07 x).length:=by simp at hb3;omega
  subst hlt2
  rw[List.take_length,←hsn]
  refine zM ?_
  exact cInv ⟨e.length - (j+1),j+1,id,by omega,⟨by omega,rfl⟩,LessR.of rfl zFS (by simp) zLO rfl rfl hou⟩
 ·have hlt:j=e.length:=by simp at hb2;omega
  subst hlt
  refine zA ?_
  refine APure.fin rfl (WkF.ofEq ?_) (by simp) hou rfl
  unfold mB mostB;rw[List.take_length]
set_option maxRecDepth 100000
theorem Qgm{hi:Bool}{fu:Int}{t:Tr}(g:Nat){m:Ms}{v:Vl}(hc:check (listT [] t)=0)(hf:allT (FragL hi) t)(hfu:1<=fu/\fu<=1000000)(hg:goX fu [] g ⟨.ev t .nil,[],[],0,[]⟩=some (.done m v))(hb:bndX fu [] g ⟨.ev t .nil,[],[],0,[]⟩=true)
  (ho:m.out.length<=1000) (hs:m.steps<=fu):RunsTo hi fu (listT [] t) m v:=
 ⟨hc,by rw[Q4i];exact hf,hfu,by rw[Q4i];exact⟨g,hg,fun _=>hb⟩,ho,hs⟩
-- R.Twice
def Qah:Tr:=.mk 8 0 [] [.mk 3 0 [] [tV 3,tV 2] [],.mk 3 0 [] [tV 3,.mk 8 0 [] [tV 2,tV 2] []] []] []
def Q49:Tr:=.mk 13 0 [] [.mk 8 0 [] [tW 1,.mk 12 5 [] [tW 3] []] [],tV 1,Qah] [⟨-1,[1]⟩,⟨5,[2,3]⟩]
theorem Qfn:allT (FragL true) Q49 :=
 ⟨Q1d rfl, ⟨Q1d rfl, ⟨Q1d rfl, trivial⟩, ⟨Q1d rfl, ⟨Q1d rfl, trivial⟩, trivial⟩, trivial⟩, ⟨Q1d rfl, trivial⟩,
  ⟨Q1d rfl,⟨Q1d rfl,⟨Q1d rfl,trivial⟩,⟨Q1d rfl,trivial⟩,trivial⟩,⟨Q1d rfl,⟨Q1d rfl,trivial⟩,⟨Q1d rfl,⟨Q1d rfl,trivial⟩,⟨Q1d rfl,trivial⟩,trivial⟩,trivial⟩,trivial⟩,trivial⟩
theorem Qcz:check (listT [] Q49)=0:=by decide +kernel
theorem Qf4{fu:Int}(h:fu=999∨fu=2000∨fu=1000000):∃m,RunsTo true fu (listT [] Q49) m (.word 11):=by
 refine⟨⟨.rt (.word 11),[],[],16,[]⟩,Qgm 100 Qcz Qfn (by omega) ?_ ?_ (by simp) (by show (16:Int)<=fu;omega)⟩
 ·rcases h with rfl|rfl|rfl <;> kernel_rfl
 ·rcases h with rfl|rfl|rfl <;> kernel_rfl
theorem N2(o n:Int)(a b:Tr):APure Tryz.prog Γ 15 [.one (int o),.one (int n),.one (.sl 1 [[.box (cNd a)],[.box (cNd b)]])] (.one (.box (cNd (.mk o n [] [a,b] [])))):=by
 have:=N_ok (Γ:=Γ) o n [a,b]
 rwa [Q3b]at this
theorem N1(o n:Int)(a:Tr):APure Tryz.prog Γ 15 [.one (int o),.one (int n),.one (.sl 1 [[.box (cNd a)]])] (.one (.box (cNd (.mk o n [] [a] [])))):=by
 have:=N_ok (Γ:=Γ) o n [a]
 rwa [Q3b]at this
theorem A3(o:Int)(al:List Alt)(a b c:Tr):APure Tryz.prog Γ 32 [.one (int o),.one (.sl 2 (al.map cAlt)),.one (.sl 1 [[.box (cNd a)],[.box (cNd b)],[.box (cNd c)]])] (.one (.box (cNd (.mk o 0 [] [a,b,c] al)))):=by
 have:=A_ok (Γ:=Γ) o al [a,b,c]
 rwa [Q3b]at this
theorem Qgb(hΓ:∀g cs,(g,cs)∈Γ->idsL isO cs)(a b:Tr):APure Tryz.prog Γ 64 [.one (.box (cNd a)),.one (.box (cNd b))] (.one (.box (cNd (.mk 8 0 [] [a,b] [])))):=by
 have hN:=N2 (Γ:=Γ) 8 0 a b
 intro ou
 refine AFn.walk 9 tabOk Tryz.func64 rfl (by kernel_rfl) rfl rfl fun hou=>?_
 refine zA ?_
 refine zca hΓ hN hou ?_
 refine zA ?_
 exact APure.fin rfl (WkF.ofEq rfl) (by simp) hou rfl
theorem Qet(hΓ:∀g cs,(g,cs)∈Γ->idsL isO cs)(a:Tr):APure Tryz.prog Γ 65 [.one (.box (cNd a))] (.one (.box (cNd (.mk 3 0 [] [tV 3,a] [])))):=by
 have hN:=N2 (Γ:=Γ) 3 0 (tV 3) a
 intro ou
 refine AFn.walk 7 tabOk Tryz.func65 rfl (by kernel_rfl) rfl rfl fun hou=>?_
 refine zA ?_
 refine zca hΓ (V_ok hΓ 3) hou ?_
 refine zA ?_
 refine zca hΓ hN hou ?_
 refine zA ?_
 exact APure.fin rfl (WkF.ofEq rfl) (by simp) hou rfl
theorem Qb5:okT Q49:=by
 simp only[Q49,Qah,tV,tW,okT,okTs]
 simp
theorem Qbo:cntN Q49=15:=by simp[Q49,Qah,tV,tW,cntN,cntNs]
theorem Qiw(hΓ:∀g cs,(g,cs)∈Γ->idsL isO cs):APure Tryz.prog Γ 37 [] (.one (.sl 5 ((listT [] Q49).map cEx))):=by
 have hL:=Q8b hΓ Q49 Qb5 (by have:=Q4m Q49 [];rw[Qbo]at this;simp at this;omega)
 intro ou
 refine AFn.walk 31 tabOk Tryz.func37 rfl (by kernel_rfl) rfl rfl fun hou=>?_
 refine zA ?_
 refine zca hΓ (V_ok hΓ 2) hou ?_
 refine zca hΓ (Qet hΓ (tV 2)) hou ?_
 refine zA ?_
 refine zca hΓ (V_ok hΓ 2) hou ?_
 refine zca hΓ (V_ok hΓ 2) hou ?_
 refine zca hΓ (Qgb hΓ (tV 2) (tV 2)) hou ?_
 refine zca hΓ (Qet hΓ (.mk 8 0 [] [tV 2,tV 2] [])) hou ?_
 refine zca hΓ (Qgb hΓ (.mk 3 0 [] [tV 3,tV 2] []) (.mk 3 0 [] [tV 3,.mk 8 0 [] [tV 2,tV 2] []] [])) hou ?_
 refine zA ?_
 refine zca hΓ (W_ok hΓ 1) hou ?_
 refine zca hΓ (W_ok hΓ 3) hou ?_
 refine zA ?_
 refine zca hΓ (N_ok (Γ:=Γ) 12 5 [tW 3]) hou ?_
 refine zca hΓ (Qgb hΓ (tW 1) (.mk 12 5 [] [tW 3] [])) hou ?_
 refine zca hΓ (V_ok hΓ 1) hou ?_
 refine zA ?_
 refine zca hΓ (A_ok (Γ:=Γ) 13 [⟨-1,[1]⟩,⟨5,[2,3]⟩] [.mk 8 0 [] [tW 1,.mk 12 5 [] [tW 3] []] [],tV 1,Qah]) hou ?_
 refine zca hΓ hL hou ?_
 refine zA ?_
 exact APure.fin rfl (WkF.ofEq rfl) (by simp) hou rfl
theorem Qhd:okB (listT [] Q49):=Qe3 (Qci _ Qb5) (by rw[Qbo];omega)
theorem Qcu:APure Tryz.prog Γc 10 [] (.one (.lit (.bool true))):=by
 obtain⟨m,hm⟩:=Qf4 (fu:=999) (.inl rfl)
 have hR:=Run_ok (MoreC.yes hΓc trivial) Qhd hm
 intro ou
 refine AFn.walk 22 tabOk Tryz.func10 rfl (by kernel_rfl) rfl rfl fun hou=>?_
 refine zA ?_
 refine zca hΓc (Qiw hΓc) hou ?_
 refine zca hΓc hR hou ?_
 refine zM ?_
 exact APure.fin rfl (WkF.ofEq rfl) (by simp) hou rfl
theorem Qj3(hΓ:∀g cs,(g,cs)∈Γ->idsL isO cs)(gf:Nat)(caps:List AC)(hcap:idsL isO caps)(p:Ex->Bool)(xs:List Ex)(hx:xs.length<=1048576)(hf:∀a∈xs,APure Tryz.prog Γ gf (.agg (cEx a)::caps.map .one) (.one (.lit (.bool (p a))))):
  APure Tryz.prog Γ 40 [.one (.sl 5 (xs.map cEx)),.one (.fn (.func gf) [] caps)] (.one (int (idxOf p xs))):=by
 intro ou
 refine AFn.walk 19 tabOk Tryz.func40 rfl (by kernel_rfl) rfl rfl fun hou=>?_
 refine zA ?_
 refine ACode.loopR hΓ (α:=Nat) (fun j=>[(8,.one (int j)),(7,.one (int (xs.map cEx).length)),(1,.one (.fn (.func gf) [] caps)),(0,.one (.sl 5 (xs.map cEx)))])
  (fun j=>⟨0,[],ou⟩) (fun m j=>j<=xs.length/\(∀x∈xs.take j,p x=false)/\m=xs.length - j) (a0:=0) (ρ:=id) ⟨by omega,by simp,rfl⟩ (LessR.of rfl ?_ ?_ zLO rfl rfl hou) fun m j hj=>?_
 ·refine .cons rfl (.ofEq rfl) (.cons rfl (.ofEq rfl) (.consP rfl (.ofEq rfl) (by simp[hcap]) (.consP rfl (.ofEq rfl) (by simp) .nil)))
 ·simp[Q10 (Q2s _) caps hcap]
 obtain⟨hjl,hno,rfl⟩:=hj
 refine zA ?_
 refine ACode.cond rfl (fun hb2=>?_) (fun hb2=>?_)
 ·have hlt:j < xs.length:=by simpa using hb2
  obtain⟨a,ha⟩:=Q01 hlt
  have hca:=hf a (List.mem_of_getElem? ha)
  refine zA ?_
  refine zS (zIA rfl rfl rfl (by omega) (by simpa using Q0a ha)) ?_
  refine zA ?_
  refine AOps.callC hΓ hca rfl rfl rfl rfl rfl rfl rfl hou (by simp[Qbh hcap]) ?_
  refine zA ?_
  refine ACode.cond rfl (fun hb3=>?_) (fun hb3=>?_)
  ·refine zA ?_
   refine APure.fin rfl (WkF.ofEq ?_) (by simp) hou rfl
   rw[Q6x hno ha hb3]
  ·refine zA ?_
   refine zS (AStep.arith rfl rfl rfl (.inl ⟨rfl,rfl⟩) zI) ?_
   refine zA ?_
   refine cInv ⟨xs.length - (j+1),j+1,id,by omega,⟨by omega,Q1b hno ha hb3,rfl⟩,LessR.of rfl ?_ ?_ zLO rfl rfl hou⟩
   ·refine .cons rfl (.ofEq rfl) (.cons rfl (.ofEq rfl) (.consP rfl (.ofEq rfl) (by simp[hcap]) (.consP rfl (.ofEq rfl) (by simp) .nil)))
   ·simp[Q10 (Q2s _) caps hcap]
 ·have hlt:j=xs.length:=by simp at hb2;omega
  subst hlt
  rw[List.take_length]at hno
  refine zA ?_
  refine APure.fin rfl (WkF.ofEq ?_) (by simp) hou rfl
  rw[Q4s hno]
theorem Qj4(hΓ:∀g cs,(g,cs)∈Γ->idsL isO cs)(gf:Nat)(caps:List AC)(hcap:idsL isO caps)(p:Ex->Bool)(xs:List Ex)(hx:xs.length<=1048576)(hf:∀a∈xs,APure Tryz.prog Γ gf (.agg (cEx a)::caps.map .one) (.one (.lit (.bool (p a))))):
  APure Tryz.prog Γ 13 [.one (.sl 5 (xs.map cEx)),.one (.fn (.func gf) [] caps)] (.one (.lit (.bool (xs.any p)))):=by
 intro ou
 refine AFn.walk 9 tabOk Tryz.func13 rfl (by kernel_rfl) rfl rfl fun hou=>?_
 refine zA ?_
 refine AOps.callC hΓ (Qj3 hΓ gf caps hcap p xs hx hf) rfl rfl rfl rfl rfl rfl rfl hou (by simp[hcap]) ?_
 refine zA ?_
 refine APure.fin rfl (WkF.ofEq ?_) (by simp) hou rfl
 rw[←Q7u]

def resA (R:Rs):FV:=.agg [.sl 1 (R.out.map cI),int R.fin,int R.val]
theorem Qd8(a b:Rs)(ha:a.out.length<=1048576):APure Tryz.prog Γc 43 [resA a,resA b] (.one (.lit (.bool (decide (a.fin=b.fin)&&decide (a.val=b.val)&&(a.out==b.out))))):=by
 have hs:=Qd9 hΓc a.out b.out ha
 intro ou
 refine AFn.walk 24 tabOk Tryz.func43 rfl (by kernel_rfl) rfl rfl fun hou=>?_
 refine zM ?_
 by_cases h1:a.fin=b.fin
 ·refine AOps.wk 10 rfl (y:=.one (.lit (.bool true))) (.ofEq (by simp[h1])) ?_
  refine zM ?_
  by_cases h2:a.val=b.val
  ·refine AOps.wk 17 rfl (y:=.one (.lit (.bool true))) (.ofEq (by simp[h2])) ?_
   refine zM ?_
   refine zca hΓc hs hou ?_
   refine zM ?_
   exact APure.fin rfl (WkF.ofEq (by simp[h1,h2])) (by simp) hou rfl
  ·refine AOps.wk 17 rfl (y:=.one (.lit (.bool false))) (.ofEq (by simp[h2])) ?_
   refine zM ?_
   exact APure.fin rfl (WkF.ofEq (by simp[h1,h2])) (by simp) hou rfl
 ·refine AOps.wk 10 rfl (y:=.one (.lit (.bool false))) (.ofEq (by simp[h1])) ?_
  refine zM ?_
  exact APure.fin rfl (WkF.ofEq (by simp[h1])) (by simp) hou rfl
theorem Qjn{e:List Ex}{R:Rs}(hR:APure Tryz.prog Γc 34 [.one (.sl 5 (e.map cEx)),.one (int 3000)] (resF R)):APure Tryz.prog Γc 42 [.one (.sl 5 (e.map cEx))] (.tup [resA R,.one (.lit (.bool (decide (R.err=0))))]):=by
 intro ou
 refine AFn.walk 16 tabOk Tryz.func42 rfl (by kernel_rfl) rfl rfl fun hou=>?_
 refine zM ?_
 refine zca hΓc hR hou ?_
 refine zM ?_
 exact APure.fin rfl (WkF.ofEq rfl) (by simp[resA]) hou rfl
theorem Qhv{e f:List Ex}{R1 R2:Rs}(ho:R1.out.length<=1048576)(h1:APure Tryz.prog Γc 34 [.one (.sl 5 (e.map cEx)),.one (int 3000)] (resF R1))
  (h2:R1.err=0->R1.fin≠5->APure Tryz.prog Γc 34 [.one (.sl 5 (f.map cEx)),.one (int 1000000)] (resF R2)/\(R2.err=13∨R2.err=0/\R2.out=R1.out/\R2.fin=R1.fin/\R2.val=R1.val)):
  APure Tryz.prog Γc 20 [.one (.sl 5 (e.map cEx)),.one (.sl 5 (f.map cEx))] (.one (.lit (.bool true))):=by
 have hr:=Qjn h1
 intro ou
 refine AFn.walk 39 tabOk Tryz.func20 rfl (by kernel_rfl) rfl rfl fun hou=>?_
 refine zM ?_
 refine zca hΓc hr hou ?_
 repeat ((fail_if_success ((with_reducible refine oj ?_);refine AOps.atDst 18 rfl ?_));first|refine zO ?_)
 by_cases he:R1.err=0
 ·refine AOps.wk 17 rfl (y:=.one (.lit (.bool false))) (.ofEq (by simp[he])) ?_
  refine zM ?_
  by_cases h5:R1.fin=5
  ·refine ACode.cond rfl (fun _=>?_) (fun hb=>absurd h5 (by simpa using hb))
   refine zM ?_
   exact APure.fin rfl (WkF.ofEq rfl) (by simp) hou rfl
  ·obtain⟨h3,h4⟩:=h2 he h5
   refine ACode.cond rfl (fun hb=>absurd (by simpa using hb) h5) (fun _=>?_)
   refine zM ?_
   refine zca hΓc h3 hou ?_
   repeat ((fail_if_success ((with_reducible refine oj ?_);refine AOps.atDst 31 rfl ?_));first|refine zO ?_)
   rcases h4 with h4|⟨h4,h6,h7,h8⟩
   ·refine AOps.wk 30 rfl (y:=.one (.lit (.bool true))) (.ofEq (by simp[h4])) ?_
    refine zM ?_
    exact APure.fin rfl (WkF.ofEq rfl) (by simp) hou rfl
   ·refine AOps.wk 30 rfl (y:=.one (.lit (.bool false))) (.ofEq (by simp[h4])) ?_
    repeat ((fail_if_success ((with_reducible refine oj ?_);refine AOps.atDst 34 rfl ?_));first|refine zO ?_)
    refine AOps.wk 33 rfl (y:=.one (.lit (.bool true))) (.ofEq (by simp[h4])) ?_
    refine zM ?_
    refine AOps.callC hΓc (Qd8 R1 R2 ho) rfl rfl rfl rfl rfl rfl rfl hou (by simp[resA]) ?_
    refine zM ?_
    exact APure.fin rfl (WkF.ofEq (by simp[h6,h7,h8])) (by simp) hou rfl
 ·refine AOps.wk 17 rfl (y:=.one (.lit (.bool true))) (.ofEq (by simp[he])) ?_
  refine zM ?_
  exact APure.fin rfl (WkF.ofEq rfl) (by simp) hou rfl
theorem Qg2(t c:Tr)(op ix:Int)(h0:-1<=ix/\ix<=1048576):APure Tryz.prog Γc 17 [.one (.box (cNd t)),.one (int op),.one (int ix),.one (.box (cNd c))] (.one (.box (cNd (.mk 13 0 [] [t,.mk 0 ix [] [] [],c] [⟨-1,[ix]⟩,⟨op,[ix+1,ix+2]⟩])))):=by
 intro ou
 refine AFn.walk 26 tabOk Tryz.func17 rfl (by kernel_rfl) rfl rfl fun hou=>?_
 refine zM ?_
 refine zca hΓc (V_ok hΓc ix) hou ?_
 refine zM ?_
 refine zca hΓc (A3 (Γ:=Γc) 13 [⟨-1,[ix]⟩,⟨op,[ix+1,ix+2]⟩] t (.mk 0 ix [] [] []) c) hou ?_
 refine zA ?_
 exact APure.fin rfl (WkF.ofEq rfl) (by simp) hou rfl
theorem Q7w{fu:Int}{fns:List Fun}:∀{g:Nat}{m:Ms}{r:Rd},goX fu fns g m=some r->m.out.length<=1000->(rsOf r).out.length<=1048576
 |0,_,_,h,_=>by cases h
 |g+1,m,r,h,hm=>by
  simp only[goX]at h
  cases hr:Q05 fu fns m with
  |next m'=>rw[hr]at h;exact Q7w h (Q8n hr hm)
  |done m' v=>
   rw[hr]at h;cases h
   obtain⟨_,hd⟩:=Q4f hr
   obtain⟨rfl,_⟩:=hd m' v rfl
   show m'.out.length<=_;omega
  |fuel=>rw[hr]at h;cases h;simp[rsOf,Q1q]
  |trap c m'=>
   rw[hr]at h;cases h
   have hmo:m'.out=m.out:=by
    unfold Q05 at hr
    repeat' split at hr
    all_goals try (cases hr;done)
    all_goals (cases hr;rfl)
   simp only[rsOf]
   split
   ·simp[Q1q]
   ·show m'.out.length<=_;rw[hmo];omega
theorem cntER{e:List Ex}(h:IsTree e):cntN (grow e)=e.length:=by
 have h1:=Q4m (grow e) []
 have h2:=Qa1 h
 simp only[List.length_nil]at h1
 omega
def perfX (x:Ex):Bool:=decide (x.op=12)||decide (x.op=13)
theorem Qk2(x:Ex):APure Tryz.prog Γc 14 [.agg (cEx x)] (.one (.lit (.bool (perfX x)))):=by
 intro ou
 refine AFn.walk 11 tabOk Tryz.func14 rfl (by kernel_rfl) rfl rfl fun hou=>?_
 refine zM ?_
 by_cases h1:x.op=12
 ·refine AOps.wk 6 rfl (y:=.one (.lit (.bool true))) (.ofEq (by simp[h1])) ?_
  refine zM ?_
  exact APure.fin rfl (WkF.ofEq (by simp[perfX,h1])) (by simp) hou rfl
 ·refine AOps.wk 6 rfl (y:=.one (.lit (.bool false))) (.ofEq (by simp[h1])) ?_
  refine zM ?_
  exact APure.fin rfl (WkF.ofEq (by simp[perfX,h1];rfl)) (by simp) hou rfl
theorem Qk7{e:List Ex}(hc:check e=0):-1<=mostB e/\mostB e<=1048575:=by
 refine⟨Qdi _ _,?_⟩
 have key:∀(l:List Int) (m c:Int),m<=c->(∀x∈l,x<=c)->upMax m l<=c:=by
  intro l
  induction l with
  |nil=>intro m c h _;exact h
  |cons x l ih=>
   intro m c h hx
   simp only[upMax,List.foldl_cons]
   exact ih _ c (by split;exact hx x (by simp);exact h) fun y hy=>hx y (by simp[hy])
 refine key _ _ _ (by omega) fun n hn=>?_
 obtain⟨x,hx,hnx⟩:=List.mem_flatMap.1 hn
 exact Qbw ((Q85 hc).2.1 x hx) n hnx
theorem Q8j(e:List Ex)(he:okB e)(op:Int)(hop:-9223372036854775808<=op/\op<=9223372036854775807):APure Tryz.prog Γc 3 [.one (.sl 5 (e.map cEx)),.one (int op)] (.one (.lit (.bool true))):=by
 have c1:=Q5u e he
 intro ou
 refine AFn.walk 55 tabOk Tryz.func3 rfl (by kernel_rfl) rfl rfl fun hou=>?_
 refine zA ?_
 refine zca hΓc Qcu hou ?_
 refine zA ?_
 refine zca hΓc c1 hou ?_
 repeat ((fail_if_success ((with_reducible refine oj ?_);refine AOps.atDst 14 rfl ?_));first|refine zO ?_)
 by_cases hc:¬check e=0
 ·refine AOps.wk 13 rfl (y:=.one (.lit (.bool true))) (.ofEq (by simp[hc])) ?_
  refine zM ?_
  exact APure.fin rfl (WkF.ofEq rfl) (by simp) hou rfl
 have hc:check e=0:=by simpa using hc
 refine AOps.wk 13 rfl (y:=.one (.lit (.bool false))) (.ofEq (by simp[hc])) ?_
 refine zM ?_
 by_cases hl:¬e.length<=1000
 ·refine ACode.cond rfl (fun _=>?_) (fun hb=>absurd hb (by simp;omega))
  refine zA ?_
  exact APure.fin rfl (WkF.ofEq rfl) (by simp) hou rfl
 have hl:e.length<=1000:=by omega
 refine ACode.cond rfl (fun hb=>absurd hb (by simp;omega)) (fun _=>?_)
 have hmb:=Qk7 hc
 have hmx:0<=max 0 op/\max 0 op<=9223372036854775807:=by omega
 have hrm:0<=(max 0 op).tmod 1000/\(max 0 op).tmod 1000<=999:=by
  refine⟨Int.tmod_nonneg _ hmx.1,?_⟩
  have:=Int.tmod_lt_of_pos (max 0 op) (show (0:Int) < 1000 by omega)
  omega
 refine zM ?_
 refine zS (AStep.rem rfl rfl rfl (by decide)) ?_
 obtain⟨o,ho⟩:∃o,o=(max 0 op).tmod 1000:=⟨_,rfl⟩
 rw[←ho]at hrm
 refine AOps.wk 20 rfl (y:=.one (int o)) (.ofEq (by rw[ho,show max 0 op=(if op > 0 then op else 0) by rw[Int.max_def];split <;> split <;> omega])) ?_
 refine zA ?_
 refine zca hΓc (Ql7 hΓc e he) hou ?_
 refine zM ?_
 refine zca hΓc (Qj4 hΓc 14 [] trivial perfX e he.eo.l (fun a _=>Qk2 a)) hou ?_
 repeat ((fail_if_success ((with_reducible refine oj ?_);refine AOps.atDst 27 rfl ?_));first|refine zO ?_)
 by_cases hp:e.any perfX=true
 ·refine AOps.wk 26 rfl (y:=.one (.lit (.bool true))) (.ofEq (by rw[hp])) ?_
  refine zM ?_
  exact APure.fin rfl (WkF.ofEq rfl) (by simp) hou rfl
 have hp:e.any perfX=false:=by simpa using hp
 refine AOps.wk 26 rfl (y:=.one (.lit (.bool false))) (.ofEq (by rw[hp])) ?_
 refine zM ?_
 by_cases hx:1048576<=mostB e+1+3
 ·refine ACode.cond rfl (fun _=>?_) (fun hb=>absurd hb (by simp;omega))
  refine zA ?_
  exact APure.fin rfl (WkF.ofEq rfl) (by simp) hou rfl
 refine ACode.cond rfl (fun hb=>absurd hb (by simp;omega)) (fun _=>?_)
 obtain⟨ix,hix⟩:∃ix,ix=mostB e+1:=⟨_,rfl⟩
 refine ACode.wk 5 rfl (y:=.one (int ix)) (.ofEq (by rw[hix])) ?_
 have hixb:0<=ix/\ix<=1048573:=by omega
 clear hix
 have t1:=Q42 hc
 refine zM ?_
 refine zca hΓc (V_ok hΓc (ix+2)) hou ?_
 refine zM ?_
 refine zca hΓc (V_ok hΓc (ix+1)) hou ?_
 refine zM ?_
 refine zca hΓc (N2 (Γ:=Γc) 3 0 (.mk 0 (ix+2) [] [] []) (.mk 0 (ix+1) [] [] [])) hou ?_
 refine zM ?_
 refine zca hΓc (Qla hΓc e he.eo t1.k t1.ne) hou ?_
 refine zM ?_
 refine zca hΓc (N1 (Γ:=Γc) 12 o (grow e)) hou ?_
 refine zM ?_
 refine zca hΓc (Qg2 (rsP o (grow e)) (rsC ix) o ix (by omega)) hou ?_
 refine zM ?_
 have hT:okT (rsT o ix (grow e)):=by
  simp only[rsT,rsP,rsC,okT,okTs]
  simp[he.t t1.k t1.ne]
 have hcn:cntN (rsT o ix (grow e))<=1100:=by
  have:=cntER t1
  simp only[rsT,rsP,rsC,cntN,cntNs]
  omega
 refine zca hΓc (Q8b hΓc (rsT o ix (grow e)) hT (by have:=Q4m (rsT o ix (grow e)) [];simp at this;omega)) hou ?_
 refine zM ?_
 have hfB:okB (listT [] (rsT o ix (grow e))):=Qe3 (Qci _ hT) (by omega)
 refine zca hΓc (Q5u _ hfB) hou ?_
 refine zM ?_
 by_cases hcf:¬check (listT [] (rsT o ix (grow e)))=0
 ·refine ACode.cond rfl (fun _=>?_) (fun hb=>absurd hb (by simpa using hcf))
  refine zA ?_
  exact APure.fin rfl (WkF.ofEq rfl) (by simp) hou rfl
 have hcf:check (listT [] (rsT o ix (grow e)))=0:=by simpa using hcf
 refine ACode.cond rfl (fun hb=>absurd (by simpa using hb) (not_not_intro hcf)) (fun _=>?_)
 have hnp:∀x∈e,¬(x.op=12∨x.op=13):=fun x hx h=>by
  have:=List.any_eq_false.1 hp x hx
  exact this (by simp[perfX,h])
 have hE:evalE e 3000=evalT (grow e) 3000:=by
  unfold evalE
  rw[if_neg (by simpa using hc),if_neg (by omega)]
 have hR1:=RunE_ok he hnp 3000
 rw[hE]at hR1
 have hfr:=Q6g hc he (hi:=false) (fun x hx h=>absurd h (hnp x hx)) []
 have hout:(evalT (grow e) 3000).out.length<=1048576:=by
  obtain⟨g,r,hg,hr⟩:=Q70 (Q4v (grow e) (fu:=3000) (by omega))
  rw[←hr]
  exact Q7w hg (by simp[initM])
 have hk:=Qhv (e:=e) (f:=listT [] (rsT o ix (grow e))) (R1:=evalT (grow e) 3000) (R2:=evalT (rsT o ix (grow e)) 1000000) hout hR1 fun he0 _=>by
  obtain⟨q1,q2,q3,q4⟩:=rs_run (ix:=ix) hrm.1 hfr he0
  refine⟨?_,.inr ⟨q1,q2,q3,q4⟩⟩
  have hg:grow (listT [] (rsT o ix (grow e)))=rsT o ix (grow e):=Q4i _
  have hfr2:=Q6g hcf hfB (hi:=true) (fun _ _ _=>rfl) []
  have hR2:=Qiy (hi:=true) (fu:=1000000) hfB hcf (by omega) (MoreU.yes hΓc) hfr2 (RsI.inv (op:=o) (ix:=ix) hrm.1 hfr he0) (by rw[hg];exact .init)
  rw[hg]at hR2
  exact hR2
 refine zM ?_
 refine zca hΓc hk hou ?_
 refine zA ?_
 exact APure.fin rfl (WkF.ofEq rfl) (by simp) hou rfl
theorem Q8e(e:List Ex)(he:okB e)(op:Int)(hop:IntKind.i64.min<=op/\op<=IntKind.i64.max):APure Tryz.prog Γc 3 [.one (.sl 5 (e.map cEx)),.one (int op)] (.one (.lit (.bool true))):=
 Q8j e he op (by simpa[IntKind.min,IntKind.max,IntKind.signed,IntKind.bits]using hop)
end Go.Proofs.YtmdkenkhaicbeaaGreatDoor
