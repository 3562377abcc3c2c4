/- The abstract layer, part I: contracts of functions: a call by its contract, a contract out of a body. No condition. -/
import Derived.Test.YthboaankaaeemaaDoorC1
import Derived.Laws.Append
import Derived.Maps.AppendAt
set_option maxRecDepth 10000
set_option linter.unusedVariables false
set_option linter.unusedSimpArgs false
namespace Go.Abs

abbrev Outer:=Nat->Option AObj
def AObj.ids (p:Id->Prop):AObj->Prop
 |.cells cs=>idsL p cs
 |.map ck es=>∀x∈es,x.2.2.ids p
 |.iter m _ _ _=>p m
 |.sit _ _=>True
 |.tok _ _ _=>True
 |.dead=>True
def OuOk (ou:Outer):Prop:=∀k o,ou k=some o->o.ids isO

mutual
theorem RF.idsOk{w:World}{C:Ctx}:∀(x:FV)(v:Value),RF w C x v->x.ids C.ok
 |.bot,v,h=>by simp[FV.ids]
 |.one c,v,h=>by simp only[RF,FV.ids]at *;exact R.idsOk c v h
 |.agg cs,v,h=>by
  simp only[RF,FV.ids]at *
  obtain⟨xs,rfl,h⟩:=h
  exact RV.idsOk cs xs h
 |.tup vs,v,h=>by
  simp only[RF,FV.ids]at *
  obtain⟨xs,rfl,h⟩:=h
  exact RFs.idsOk vs xs h
theorem RFs.idsOk{w:World}{C:Ctx}:∀(vs:List FV)(xs:List Value),RFs w C vs xs->idsF C.ok vs
 |[],_,_=>by simp[idsF]
 |v::vs,xs,h=>by
  simp only[RFs,idsF]at *
  obtain⟨u,us,rfl,h1,h2⟩:=h
  exact⟨RF.idsOk v u h1,RFs.idsOk vs us h2⟩
end
theorem RM.idsOk{w:World}{C:Ctx}:∀{r:List (Nat×Value×FV)}{es:List MapEntry},RM w C r es->∀x∈r,x.2.2.ids C.ok
 |[],_,_,x,hx=>by cases hx
 |(b,k,cs)::r,es,h,x,hx=>by
  simp only[RM]at h
  obtain⟨e,es',rfl,hk,h1,h3⟩:=h
  rcases List.mem_cons.1 hx with rfl|hx
  ·exact RF.idsOk _ _ h1
  ·exact RM.idsOk h3 x hx
mutual
theorem FV.ids_mono{p q:Id->Prop}(h:∀i,p i->q i):∀x:FV,x.ids p->x.ids q
 |.bot,_=>by simp[FV.ids]
 |.one c,hx=>by simp only[FV.ids]at *;exact AC.ids_mono h c hx
 |.agg cs,hx=>by simp only[FV.ids]at *;exact Q12 h cs hx
 |.tup vs,hx=>by simp only[FV.ids]at *;exact Qcm h vs hx
theorem Qcm{p q:Id->Prop}(h:∀i,p i->q i):∀vs:List FV,idsF p vs->idsF q vs
 |[],_=>by simp[idsF]
 |v::vs,hx=>by simp only[idsF]at *;exact⟨FV.ids_mono h v hx.1,Qcm h vs hx.2⟩
end
theorem ObjOk.idsOk{w:World}{C:Ctx}{F:Nat->Prop}{i:Id}{o:AObj}(h:ObjOk w C F i o):o.ids C.ok:=by
 cases o with
 |cells cs=>obtain⟨xs,T,_,_,h,_⟩:=h;exact RV.idsOk cs xs h
 |map ck es=>obtain⟨ents,_,_,h⟩:=h;exact RM.idsOk h
 |iter m since seen last=>exact h.2.2
 |sit s p=>trivial
 |tok e s u=>trivial
 |dead=>trivial
theorem Q52{C:Ctx}(h:C.nl=0):∀i,C.ok i->isO i:=by
 intro i hi
 cases i with
 |l k=>simp only[Ctx.ok,h]at hi;omega
 |o k=>trivial
theorem OuOk.of_inv{Γ:List (Nat×List AC)}{F:Nat->Prop}{w:World}{C:Ctx}{σ:St}(hi:Inv Γ F w C σ)(h0:C.nl=0):OuOk σ.ou:=by
 intro k o ho
 have:=(hi.obj (.o k) o ho).2.idsOk
 cases o with
 |cells cs=>exact Q12 (Q52 h0) cs this
 |map ck es=>exact fun x hx=>FV.ids_mono (Q52 h0) x.2.2 (this x hx)
 |iter m since seen last=>exact Q52 h0 m this
 |sit s p=>trivial
 |tok e s u=>trivial
 |dead=>trivial
theorem ObjOk.ctx{w:World}{C C':Ctx}{F F':Nat->Prop}{i:Id}{o:AObj}(h:ObjOk w C F i o)(p:Id->Prop)(hids:o.ids p)(hp:p i)(hok:C.ok i)(hc:Chg p w C w C')(hprot:∀a,C'.prot a->C.prot a)(hF:∀k,F' k->F k):ObjOk w C' F' i o:=by
 obtain⟨_,hblk,htok⟩:=hc.id i hp hok
 cases o with
 |cells cs=>
  obtain⟨xs,T,h1,h2,h3,h4⟩:=h
  exact⟨xs,T,by rw[hblk];exact h1,by rw[hblk];exact fun hf=>h2 (hF _ hf),RV.chg hc cs xs hids h3,fun a ha hpa=>h4 a (by rw[ha,hblk]) (hprot a hpa)⟩
 |map ck es=>
  obtain⟨ents,h1,h2,h3⟩:=h
  exact⟨ents,by rw[hblk];exact h1,by rw[hblk];exact fun hf=>h2 (hF _ hf),RM.chg hc es ents hids h3⟩
 |iter m since seen last=>
  obtain⟨h1,h2,h3⟩:=h
  obtain⟨m1,m2,_⟩:=hc.id m hids h3
  exact⟨by rw[hblk,m2];exact h1,by rw[hblk];exact fun hf=>h2 (hF _ hf),m1⟩
 |sit s p=>
  obtain⟨h1,h2⟩:=h
  exact⟨by rw[hblk];exact h1,by rw[hblk];exact fun hf=>h2 (hF _ hf)⟩
 |tok e s used=>
  simp only[ObjOk,htok]at *
  cases ht:C.tok i with
  |none=>rw[ht]at h;exact h
  |some gc=>
   obtain⟨g,cap⟩:=gc
   simp only[ht]at h ⊢
   obtain⟨xs,h1,h2,h3,h4,h6,h5⟩:=h
   exact⟨xs,h1,fun hf=>h2 (hF _ hf),h3,h4,h6,fun a ha hpa=>h5 a ha (hprot a hpa)⟩
 |dead=>trivial
theorem AObj.block_ctx{w:World}{C C':Ctx}{i:Id}{o:AObj}(p:Id->Prop)(hp:p i)(hok:C.ok i)(hc:Chg p w C w C'):o.block C' i=o.block C i:=by
 obtain⟨_,hblk,htok⟩:=hc.id i hp hok
 cases o <;> simp[AObj.block,hblk,htok]

def AFn (P:Program)(Γ:List (Nat×List AC))(g:Nat)(args:List FV)(ou:Outer)(Q:FV->Outer->Prop):Prop :=
 (∀ (as : Array Value) (w : World), (callFunc g as).run P w = .ok (.enter g as) w) /\
 ∀(F:Nat->Prop) (w:World) (C:Ctx) (cargs:List Value),C.nl=0->Inv Γ F w C ⟨0,[],ou⟩->RFs w C args cargs->Calls P g cargs.toArray w fun e w'=>
  ∃v r ou' C',e=.returned v/\Goes F isO w C w' C'/\C'.nl=0/\Inv Γ F w' C' ⟨0,[],ou'⟩/\RF w' C' r v/\Q r ou'
def APure (P:Program)(Γ:List (Nat×List AC))(g:Nat)(args:List FV)(r:FV):Prop:=∀ou,AFn P Γ g args ou (fun r' ou'=>r'=r/\ou'=ou)

theorem AFn.mono{P:Program}{Γ:List (Nat×List AC)}{g:Nat}{args:List FV}{ou:Outer}{Q Q':FV->Outer->Prop}(h:AFn P Γ g args ou Q)(hq:∀r ou',Q r ou'->Q' r ou'):AFn P Γ g args ou Q':=
 ⟨h.1,fun F w C cargs h0 hi hr=>(h.2 F w C cargs h0 hi hr).mono fun e w' ⟨v,r,ou',C',h1,h2,h3,h4,h5,h6⟩=>⟨v,r,ou',C',h1,h2,h3,h4,h5,hq _ _ h6⟩⟩

def Q2p (Γ:List (Nat×List AC))(fr:Fr):List Operand->Option (List FV)
 |[]=>some []
 |x::r=>match aEval Γ fr x with
  |some v=>match Q2p Γ fr r with
   |some vs=>some (v::vs)
   |none=>none
  |none=>none
theorem Q2x{Γ:List (Nat×List AC)}{F:Nat->Prop}{w:World}{C:Ctx}{σ:St}{N:Nat}{fr:Fr}{a:Act}(hi:Inv Γ F w C σ)(hf:FrOk w C N fr a.tmps):∀{l:List Operand}{vs:List FV},Q2p Γ fr l=some vs->RFs w C vs (l.map a.eval)
 | [], vs, h => by simp only [Q2p, Option.some.injEq] at h; subst h; simp [RFs]
 |x::l,vs,h=>by
  simp only[Q2p]at h
  cases h1:aEval Γ fr x with
  |none=>rw[h1]at h;cases h
  |some v=>
   rw[h1]at h;simp only[]at h
   cases h2:Q2p Γ fr l with
   |none=>rw[h2]at h;cases h
   |some us=>
    rw[h2]at h;simp only[Option.some.injEq]at h;subst h
    exact⟨a.eval x,l.map a.eval,rfl,Q01 hi hf h1,Q2x hi hf h2⟩
theorem RFs.append{w:World}{C:Ctx}:∀{vs:List FV}{xs:List Value}{us:List FV}{ys:List Value},RFs w C vs xs->RFs w C us ys->RFs w C (vs++us) (xs++ys)
 |[],xs,us,ys,h,k=>by simp only[RFs]at h;subst h;simpa using k
 |v::vs,xs,us,ys,h,k=>by
  simp only[RFs]at h
  obtain⟨u,us',rfl,h1,h2⟩:=h
  exact⟨u,us'++ys,rfl,h1,RFs.append h2 k⟩
theorem RFs.ones{w:World}{C:Ctx}:∀{cs:List AC}{xs:List Value},RV w C cs xs->RFs w C (cs.map .one) xs
 |[],xs,h=>by simp only[RV]at h;subst h;simp[RFs]
 |c::cs,xs,h=>by
  simp only[RV]at h
  obtain⟨u,us,rfl,h1,h2⟩:=h
  exact⟨u,us,rfl,h1,RFs.ones h2⟩

def Q3l (w:World)(C:Ctx)(ou:Outer):Nat->Prop:=fun k=>k < w.heap.size/\∀i o,ou i=some o->o.block C (.o i)≠some k
def Ctx.behind (C C':Ctx):Ctx:=
 { prot:=C'.prot,nl:=C.nl,no:=C'.no,phi:=fun i=>match i with|.l k=>C.phi (.l k)|.o k=>C'.phi (.o k),tk:=fun i=>match i with|.l k=>C.tk (.l k)|.o k=>C'.tk (.o k) }

section
variable {Γ:List (Nat×List AC)}{F:Nat->Prop}{w:World}{C:Ctx}{σ:St}
theorem Qh2(hi:Inv Γ F w C σ):∀k,F k->Q3l w C σ.ou k:=fun k hk=>⟨hi.base k hk,fun i o ho hb=>by
 have:=(AObj.block_lt (hi.obj (.o i) o ho).2 hb).1
 exact this hk⟩
theorem Inv.forCallee(hi:Inv Γ F w C σ)(hou:OuOk σ.ou)(hΓ:∀g cs,(g,cs)∈Γ->idsL isO cs):Inv Γ (Q3l w C σ.ou) w { C with nl:=0 } ⟨0,[],σ.ou⟩:=by
 have hc:Chg isO w C w { C with nl:=0 }:=⟨fun _ _=>rfl,fun _ h=>h,fun i hp ho=>⟨by cases i with|l k=>cases hp|o k=>exact ho,rfl,rfl⟩⟩
 refine⟨fun k hk=>hk.1,rfl,fun g cs h=>RG.chg hc (hΓ g cs h) (hi.glob g cs h),hi.prot,fun i o h=>?_,fun i j o o' g h1 h2 h3 h4=>?_⟩
 ·cases i with
  |l k=>cases h
  |o k=>
   obtain⟨h1,h2⟩:=hi.obj (.o k) o h
   refine⟨h1,?_⟩
   have h5:ObjOk w C (Q3l w C σ.ou) (.o k) o:=by
    cases o with
    |cells cs=>
     obtain⟨xs,T,g1,g2,g3,g4⟩:=h2
     exact⟨xs,T,g1,fun hf=>hf.2 k _ h rfl,g3,g4⟩
    |map ck es=>
     obtain⟨ents,g1,g2,g3⟩:=h2
     exact⟨ents,g1,fun hf=>hf.2 k _ h rfl,g3⟩
    |iter m since seen last=>
     obtain⟨g1,g2,g3⟩:=h2
     exact⟨g1,fun hf=>hf.2 k _ h rfl,g3⟩
    |sit s p=>
     obtain⟨g1,g2⟩:=h2
     exact⟨g1,fun hf=>hf.2 k _ h rfl⟩
    |tok e s used=>
     simp only[ObjOk]at *
     cases ht:C.tok (.o k) with
     |none=>rw[ht]at h2;exact h2
     |some gc=>
      obtain⟨g,cap⟩:=gc
      simp only[ht]at h2 ⊢
      obtain⟨xs,k1,k2,k3⟩:=h2
      exact⟨xs,k1,fun hf=>hf.2 k _ h (by simp[AObj.block,ht]),k3⟩
    |dead=>trivial
   exact h5.ctx isO (hou k o h) trivial h1 hc (fun _ h=>h) (fun _ h=>h)
 ·cases i with
  |l k=>cases h1
  |o k=>cases j with
   |l k=>cases h2
   |o k'=>
    have e1:=AObj.block_ctx (o:=o) isO (i:=.o k) trivial (hi.obj (.o k) o h1).1 hc
    have e2:=AObj.block_ctx (o:=o') isO (i:=.o k') trivial (hi.obj (.o k') o' h2).1 hc
    exact hi.inj (.o k) (.o k') o o' g h1 h2 (by rw[←e1];exact h3) (by rw[←e2];exact h4)

theorem Inv.back(hi:Inv Γ F w C σ){w':World}{C':Ctx}{ou':Outer}(hg:Goes (Q3l w C σ.ou) isO w { C with nl:=0 } w' C')(h0:C'.nl=0)(hi':Inv Γ (Q3l w C σ.ou) w' C' ⟨0,[],ou'⟩):
  Goes F (fun _=>True) w C w' (C.behind C')/\Inv Γ F w' (C.behind C') { σ with ou:=ou' }/\Chg isO w' C' w' (C.behind C'):=by
 have hc:Chg isO w' C' w' (C.behind C'):=⟨fun _ _=>rfl,fun _ h=>h,fun i hp ho=>by cases i with|l k=>cases hp|o k=>exact⟨ho,rfl,rfl⟩⟩
 have he:Ext w C w' (C.behind C'):=⟨hg.chg.cell,hg.chg.prot,fun i _ ho=>by
  cases i with
  |l k=>exact⟨ho,rfl,rfl⟩
  |o k=>exact hg.chg.id (.o k) trivial ho⟩
 have hF:=Qh2 hi
 have hnp:NewP F C (C.behind C'):=fun a ha=>(hg.newp a ha).imp id (fun h hf=>h (hF _ hf))
 refine⟨⟨hg.stp.mono hF,he,hg.no,hnp⟩,⟨fun k hk=>Nat.lt_of_lt_of_le (hi.base k hk) hg.stp.size,hi.next,fun g cs h=>(hi.glob g cs h).ext he,hi'.prot,fun i o h=>?_,fun i j o o' g h1 h2 h3 h4=>?_⟩,hc⟩
 ·cases i with
  |l k=>
   obtain⟨h1,h2⟩:=hi.obj (.l k) o h
   have hcf:∀g,o.block C (.l k)=some g->Q3l w C σ.ou g:=fun g hb=>⟨(AObj.block_lt h2 hb).2,fun j p hp hbp=>by
    have:=hi.inj (.l k) (.o j) o p g h hp hb hbp
    cases this⟩
   refine⟨(he.id _ trivial h1).1,h2.keep he h1 (fun g x hb hx=>?_) (fun a hb _ ha=>?_)⟩
   ·rw[hg.stp.block g (hcf g hb)];exact hx
   ·exact (hg.newp a ha).resolve_right (fun hn=>hn (hcf _ hb))
  |o k=>
   obtain⟨h1,h2⟩:=hi'.obj (.o k) o h
   have hids:o.ids isO:=OuOk.of_inv hi' h0 k o h
   exact⟨(hc.id (.o k) trivial h1).1,h2.ctx isO hids trivial h1 hc (fun _ h=>h) hF⟩
 ·have key:∀(k k':Nat) (p q:AObj),σ.get (.l k)=some p->ou' k'=some q->p.block (C.behind C') (.l k)=some g->q.block (C.behind C') (.o k')=some g->False:=by
   intro k k' p q hp hq hbp hbq
   have e1:=AObj.block_ext he (hi.obj (.l k) p hp).1 (o:=p)
   rw[e1]at hbp
   have e2:=AObj.block_ctx (o:=q) isO (i:=.o k') trivial (hi'.obj (.o k') q hq).1 hc
   rw[e2]at hbq
   refine (AObj.block_lt (hi'.obj (.o k') q hq).2 hbq).1 ⟨(AObj.block_lt (hi.obj _ _ hp).2 hbp).2,fun j r hr hbr=>?_⟩
   have:=hi.inj (.l k) (.o j) p r g hp hr hbp hbr
   cases this
  cases i with
  |l k=>cases j with
   |l k'=>
    refine hi.inj _ _ o o' g h1 h2 ?_ ?_
    ·rw[←AObj.block_ext he (hi.obj (.l k) o h1).1];exact h3
    ·rw[←AObj.block_ext he (hi.obj (.l k') o' h2).1];exact h4
   |o k'=>exact (key k k' o o' h1 h2 h3 h4).elim
  |o k=>cases j with
   |l k'=>exact (key k' k o' o h2 h1 h4 h3).elim
   |o k'=>
    have e1:=AObj.block_ctx (o:=o) isO (i:=.o k) trivial (hi'.obj (.o k) o h1).1 hc
    have e2:=AObj.block_ctx (o:=o') isO (i:=.o k') trivial (hi'.obj (.o k') o' h2).1 hc
    exact hi'.inj (.o k) (.o k') o o' g h1 h2 (by rw[←e1];exact h3) (by rw[←e2];exact h4)
end

theorem AOps.call{E:Env}{ops:Array Oper}{rest:List Oper}{o:Oper}{K:Cont}{fr:Fr}{σ:St}{f:Operand}{args:Array Operand}{tys:Array TypeId}{g:Nat}{first caps:List AC}{vs:List FV}{Q:FV->Outer->Prop}
  (hΓ:∀g cs,(g,cs)∈E.Γ->idsL isO cs) (hgd:o.guard=none) (hd:dstOk E.N o.dst=true) (ho:o.op=.call { callee:=.value f,args:=args,argTypes:=tys })
  (hf:aEval E.Γ fr f=some (.one (.fn (.func g) first caps))) (hargs:Q2p E.Γ fr args.toList=some vs) (hids:idsF isO (first.map .one++vs++caps.map .one)) (hou:OuOk σ.ou)
  (hc:AFn E.P E.Γ g (first.map .one++vs++caps.map .one) σ.ou Q)
  (h:∀r ou',Q r ou'->r.ids isO->OuOk ou'->AOps E ops rest K (putFr o.dst r fr) { σ with ou:=ou' }):AOps E ops (o::rest) K fr σ:=by
 intro F w0 C0 w C tmps hg hi hfr
 refine wpList_plain hgd fun N' hN=>?_
 have hcallee:=Q01 (a:=⟨tmps,E.ds⟩) hi hfr hf
 simp only[RF,R]at hcallee
 obtain⟨xs,ys,hfv,hx,hy⟩:=hcallee
 have hvs:=Q2x (a:=⟨tmps,E.ds⟩) hi hfr hargs
 have hall:RFs w C (first.map .one++vs++caps.map .one) (xs++args.toList.map (Act.eval ⟨tmps,E.ds⟩)++ys):=(RFs.ones hx |>.append hvs).append (RFs.ones hy)
 have hrun:(execOp (Act.eval ⟨tmps,E.ds⟩) o).run E.P w=.ok (.enter g (xs++args.toList.map (Act.eval ⟨tmps,E.ds⟩)++ys).toArray) w:=by
  unfold execOp
  simp only[ho,resolve,Sem.run_bind,hfv,Deferred.ofValue,Sem.run_pure,Result.andThen_ok,invoke,hc.1]
  congr 2
  apply Array.ext'
  simp
 unfold Oper.wp
 rw[hrun,Oper.upon_enter]
 have hc1:Chg isO w C w { C with nl:=0 }:=⟨fun _ _=>rfl,fun _ h=>h,fun i hp ho=>⟨by cases i with|l k=>cases hp|o k=>exact ho,rfl,rfl⟩⟩
 refine (hc.2 (Q3l w C σ.ou) w { C with nl:=0 } _ rfl (hi.forCallee hou hΓ) (RFs.chg hc1 _ _ hids hall)).mono fun e w' ⟨v,r,ou',C',he,hgo,h0,hi',hr,hQ⟩=>?_
 subst he
 obtain⟨hb1,hb2,hb3⟩:=hi.back hgo h0 hi'
 refine hN _ _ ?_
 rw[Q37]
 have hrid:r.ids isO:=FV.ids_mono (Q52 h0) r (RF.idsOk r v hr)
 exact h r ou' hQ hrid (OuOk.of_inv hi' h0) F w0 C0 w' _ _ (hg.trans hb1.toO) hb2 (Q2j (hfr.ext hb1.chg) hd (RF.chg hb3 r v hrid hr))
theorem AStep.callPure{E:Env}{o:Oper}{fr:Fr}{σ:St}{f:Operand}{args:Array Operand}{tys:Array TypeId}{g:Nat}{first caps:List AC}{vs:List FV}{r:FV}
  (hΓ:∀g cs,(g,cs)∈E.Γ->idsL isO cs) (ho:o.op=.call { callee:=.value f,args:=args,argTypes:=tys })
  (hf:aEval E.Γ fr f=some (.one (.fn (.func g) first caps))) (hargs:Q2p E.Γ fr args.toList=some vs) (hids:idsF isO (first.map .one++vs++caps.map .one)) (hou:OuOk σ.ou)
  (hc:APure E.P E.Γ g (first.map .one++vs++caps.map .one) r):AStep E o fr σ r σ:=by
 intro F w C tmps hi hfr next Q hk
 have hcallee:=Q01 (a:=⟨tmps,E.ds⟩) hi hfr hf
 simp only[RF,R]at hcallee
 obtain⟨xs,ys,hfv,hx,hy⟩:=hcallee
 have hvs:=Q2x (a:=⟨tmps,E.ds⟩) hi hfr hargs
 have hall:RFs w C (first.map .one++vs++caps.map .one) (xs++args.toList.map (Act.eval ⟨tmps,E.ds⟩)++ys):=(RFs.ones hx |>.append hvs).append (RFs.ones hy)
 have hrun:(execOp (Act.eval ⟨tmps,E.ds⟩) o).run E.P w=.ok (.enter g (xs++args.toList.map (Act.eval ⟨tmps,E.ds⟩)++ys).toArray) w:=by
  unfold execOp
  simp only[ho,resolve,Sem.run_bind,hfv,Deferred.ofValue,Sem.run_pure,Result.andThen_ok,invoke,(hc σ.ou).1]
  congr 2
  apply Array.ext'
  simp
 unfold Oper.wp
 rw[hrun,Oper.upon_enter]
 have hc1:Chg isO w C w { C with nl:=0 }:=⟨fun _ _=>rfl,fun _ h=>h,fun i hp ho=>⟨by cases i with|l k=>cases hp|o k=>exact ho,rfl,rfl⟩⟩
 refine ((hc σ.ou).2 (Q3l w C σ.ou) w { C with nl:=0 } _ rfl (hi.forCallee hou hΓ) (RFs.chg hc1 _ _ hids hall)).mono fun e w' ⟨v,r',ou',C',he,hgo,h0,hi',hr,hQ1,hQ2⟩=>?_
 subst he;subst hQ1;subst hQ2
 obtain⟨hb1,hb2,hb3⟩:=hi.back hgo h0 hi'
 have hrid:r'.ids isO:=FV.ids_mono (Q52 h0) r' (RF.idsOk r' v hr)
 exact hk v w' _ hb1 hb2 (RF.chg hb3 r' v hrid hr)

def aRes1 (T:Tab)(fr:Fr)(σ:St):ResultVar->Option FV
 |.tmp t=>Fr.get t fr
 |.cell a t=>match Tab.get t T with
  |some ti=>bif ti.agg||Nat.beq ti.size 1 then (match Fr.get a fr with|some v=>aLoad ti σ v|none=>none)else none
  |none=>none
def aResL (T:Tab)(fr:Fr)(σ:St):List ResultVar->Option (List FV)
 |[]=>some []
 |r::rs=>match aRes1 T fr σ r with
  |some v=>match aResL T fr σ rs with
   |some vs=>some (v::vs)
   |none=>none
  |none=>none
def aRes (T:Tab)(fr:Fr)(σ:St)(rs:List ResultVar):Option FV:=
 match aResL T fr σ rs with
 |some [v]=>some v
 |some vs=>some (.tup vs)
 |none=>none

def WkF (x y:FV):Prop:=∀(w:World)(C:Ctx)(v:Value),RF w C x v->RF w C y v
theorem WkF.refl(x:FV):WkF x x:=fun _ _ _ h=>h

theorem Qma{P:Program}{T:Tab}{Γ:List (Nat×List AC)}{F:Nat->Prop}{w:World}{C:Ctx}{σ:St}{N:Nat}{fr:Fr}{tmps:Array Value}(hT:TabOk P T)(hi:Inv Γ F w C σ)(hf:FrOk w C N fr tmps){r:ResultVar}{x:FV}(h:aRes1 T fr σ r=some x):
  ∃u,((match r with|.tmp t=>pure (tmps.getD t undef)|.cell a t=>do loadVar t (←asAddr (tmps.getD a undef))):Sem Value).run P w=.ok u w/\RF w C x u:=by
 cases r with
 |tmp t=>
  obtain⟨u,hu,hr⟩:=hf.2 t x h
  exact⟨u,by simp[Array.getD_eq_getD_getElem?,hu],hr⟩
 |cell a t=>
  simp only[aRes1]at h
  cases h1:Tab.get t T with
  |none=>rw[h1]at h;cases h
  |some ti=>
   rw[h1]at h;simp only[]at h
   cases hb:(ti.agg||Nat.beq ti.size 1) with
   |false=>rw[hb]at h;cases h
   |true=>
    rw[hb]at h;simp only[cond_true]at h
    cases h2:Fr.get a fr with
    |none=>rw[h2]at h;cases h
    |some v=>
     rw[h2]at h;simp only[]at h
     obtain⟨p,hp,hr⟩:=hf.2 a v h2
     obtain⟨u,hu,hru⟩:=Qg3 (hT t ti h1) hb hi hr h
     have hgp:tmps.getD a undef=p:=by simp[Array.getD_eq_getD_getElem?,hp]
     refine⟨u,?_,hru⟩
     simp only[hgp]
     simp only[Instr.loadAt,Sem.run_bind]at hu ⊢
     cases p with
     |pointer q=>cases q with
      |some ad=>simpa[Instr.sureAddr,asAddr]using hu
      |none=>simp[Instr.sureAddr]at hu
     |_=>simp[Instr.sureAddr]at hu
theorem Qg2{P:Program}{T:Tab}{Γ:List (Nat×List AC)}{F:Nat->Prop}{w:World}{C:Ctx}{σ:St}{N:Nat}{fr:Fr}{tmps:Array Value}(hT:TabOk P T)(hi:Inv Γ F w C σ)(hf:FrOk w C N fr tmps):
  ∀{rs:List ResultVar}{xs:List FV},aResL T fr σ rs=some xs->∃us:List Value,(rs.mapM (fun r=>(match r with|.tmp t=>pure (tmps.getD t undef)|.cell a t=>do loadVar t (←asAddr (tmps.getD a undef))):ResultVar->Sem Value)).run P w=.ok us w/\RFs w C xs us
 | [], xs, h => by simp only [aResL, Option.some.injEq] at h; subst h; exact ⟨[], rfl, rfl⟩
 |r::rs,xs,h=>by
  simp only[aResL]at h
  cases h1:aRes1 T fr σ r with
  |none=>rw[h1]at h;cases h
  |some v=>
   rw[h1]at h;simp only[]at h
   cases h2:aResL T fr σ rs with
   |none=>rw[h2]at h;cases h
   |some vs=>
    rw[h2]at h;simp only[Option.some.injEq]at h;subst h
    obtain⟨u,hu,hr⟩:=Qma (tmps:=tmps) hT hi hf h1
    obtain⟨us,hus,hrs⟩:=Qg2 (tmps:=tmps) hT hi hf h2
    refine⟨u::us,?_,u,us,rfl,hr,hrs⟩
    simp only[List.mapM_cons,Sem.run_bind,hu,Result.andThen_ok,hus,Sem.run_pure]
theorem Qjx{P:Program}{T:Tab}{Γ:List (Nat×List AC)}{F:Nat->Prop}{w:World}{C:Ctx}{σ:St}{N:Nat}{fr:Fr}{tmps:Array Value}(hT:TabOk P T)(hi:Inv Γ F w C σ)(hf:FrOk w C N fr tmps){fn:Func}{x:FV}(h:aRes T fr σ fn.results.toList=some x):
  ∃u,(results fn tmps).run P w=.ok u w/\RF w C x u:=by
 unfold aRes at h
 cases h1:aResL T fr σ fn.results.toList with
 |none=>rw[h1]at h;cases h
 |some vs=>
  rw[h1]at h
  obtain⟨us,hus,hrs⟩:=Qg2 (tmps:=tmps) hT hi hf h1
  have hrun:(results fn tmps).run P w=.ok (if h:us.toArray.size=1 then us.toArray[0]else .tuple us.toArray) w:=by
   unfold results
   rw[Sem.run_bind,Array.mapM_eq_mapM_toList]
   simp only[Sem.run_map,Sem.run_pure]
   erw[hus]
   rfl
  match vs,hrs,h with
  |[v],hrs,h=>
   simp only[Option.some.injEq]at h;subst h
   obtain⟨u,us',rfl,hr,hrs'⟩:=hrs
   simp only[RFs]at hrs'
   subst hrs'
   exact⟨u,by rw[hrun];rfl,hr⟩
  |[],hrs,h=>
   simp only[Option.some.injEq]at h;subst h
   simp only[RFs]at hrs;subst hrs
   exact⟨.tuple #[],by rw[hrun];rfl,[],rfl,rfl⟩
  |v::v'::vs,hrs,h=>
   simp only[Option.some.injEq]at h;subst h
   have hrs':=hrs
   obtain⟨u,us',rfl,hr,u',us'',rfl,hr',hr''⟩:=hrs
   exact⟨.tuple (u::u'::us'').toArray,by rw[hrun];rfl,_,rfl,hrs'⟩

def Fin (E:Env)(fn:Func)(Q:FV->Outer->Prop)(fr:Fr)(σ:St):Prop:=∃r r',aRes E.T fr σ fn.results.toList=some r/\WkF r r'/\r'.ids isO/\OuOk σ.ou/\Q r' σ.ou
def argFr:Nat->List FV->Fr
 |_,[]=>[]
 |k,v::vs=>(k,v)::argFr (k+1) vs

theorem Q8w:∀(vs:List FV)(k j:Nat)(x:FV),Fr.get j (argFr k vs)=some x->k<=j/\vs[j - k]?=some x
 |[],k,j,x,h=>by cases h
 |v::vs,k,j,x,h=>by
  simp only[argFr,Fr.get]at h
  by_cases e:k=j
  ·subst e;simp at h;subst h;simp
  ·rw[Q09 e]at h
   obtain⟨h1,h2⟩:=Q8w vs (k+1) j x h
   refine⟨by omega,?_⟩
   rw[show j - k=(j - (k+1))+1 by omega]
   simpa using h2

theorem AFn.ofBody{P:Program}{T:Tab}{Γ:List (Nat×List AC)}{g:Nat}{fn:Func}{c:Code}{args:List FV}{ou:Outer}{Q:FV->Outer->Prop}(hT:TabOk P T)(hf:P.funcs[g]?=some fn)(hb:fn.body=some c)(hname:(fn.name == "runtime.NumGoroutine")=false)
  (hlen : args.length <= fn.ntmps)
  (h : OuOk ou -> ACode ⟨P, T, Γ, fn.ntmps, []⟩ c (Q03 ⟨P, T, Γ, fn.ntmps, []⟩ (Fin ⟨P, T, Γ, fn.ntmps, []⟩ fn Q) []) (argFr 0 args) ⟨0, [], ou⟩) : AFn P Γ g args ou Q := by
 refine⟨fun as w=>?_,fun F w C cargs h0 hi hr=>?_⟩
 ·simp[callFunc,hf,hb]
  simpa using hname
 ·have hcl:cargs.length=args.length:=by
   have:∀(vs:List FV) (xs:List Value),RFs w C vs xs->xs.length=vs.length:=by
    intro vs
    induction vs with
    |nil=>intro xs h;simp only[RFs]at h;simp[h]
    |cons v vs ih=>intro xs h;simp only[RFs]at h;obtain⟨u,us,rfl,_,h2⟩:=h;simp[ih us h2]
   exact this _ _ hr
  refine calls_of_wp hf hb ?_
  have hfr:FrOk w C fn.ntmps (argFr 0 args) (cargs.toArray++Array.replicate (fn.ntmps - cargs.toArray.size) undef):=by
   refine⟨by simp;omega,fun k x hk=>?_⟩
   obtain⟨_,h2⟩:=Q8w args 0 k x hk
   simp only[Nat.sub_zero]at h2
   obtain⟨u,hu,hru⟩:=RFs.get hr h2
   refine⟨u,?_,hru⟩
   have hlt:k < cargs.length:=(List.getElem?_eq_some_iff.1 hu).1
   rw[Array.getElem?_append_left (by simpa using hlt)]
   simpa using hu
  refine wp_mono (h (OuOk.of_inv hi h0) F w C w C _ (Goes.refl _ _ _ _) hi hfr) fun e a w' hp=>?_
  obtain⟨hd,fr',σ',C',hgo,hi',hf',hk⟩:=hp
  have fin:Fin ⟨P,T,Γ,fn.ntmps,[]⟩ fn Q fr' σ'->a.defers=[]/\∃v,(results fn a.tmps).run P w'=.ok v w'/\(∃v' r ou' C',Ending.returned v=.returned v'/\Goes F isO w C w' C'/\C'.nl=0/\Inv Γ F w' C' ⟨0,[],ou'⟩/\RF w' C' r v'/\Q r ou'):=by
   rintro⟨r,r',h1,h2,h3,h4,h5⟩
   obtain⟨u,hu,hru⟩:=Qjx (tmps:=a.tmps) hT hi' hf' h1
   have hc:Chg isO w' C' w' { C' with nl:=0 }:=⟨fun _ _=>rfl,fun _ h=>h,fun i hp ho=>⟨by cases i with|l k=>cases hp|o k=>exact ho,rfl,rfl⟩⟩
   have hc0:∀i,C.ok i->isO i:=Q52 h0
   refine⟨hd,u,hu,u,r',σ'.ou,{ C' with nl:=0 },rfl,⟨hgo.stp,hgo.chg.trans hc,hgo.no,hgo.newp⟩,rfl,⟨hi'.base,rfl,fun g cs hm=>?_,hi'.prot,fun i o ho=>?_,fun i j o o' g k1 k2 k3 k4=>?_⟩,RF.chg hc r' u h3 (h2 _ _ _ hru),h5⟩
   ·have:=hi.glob g cs hm
    have hids:=Q12 hc0 cs (RL.idsOk cs _ this.rl)
    exact RG.chg (hgo.chg.trans hc) hids this
   ·cases i with
    |l k=>cases ho
    |o k=>
     obtain⟨k1,k2⟩:=hi'.obj (.o k) o ho
     exact⟨k1,k2.ctx isO (h4 k o ho) trivial k1 hc (fun _ h=>h) (fun _ h=>h)⟩
   ·cases i with
    |l k=>cases k1
    |o k=>cases j with
     |l k=>cases k2
     |o k'=>
      have e1:=AObj.block_ctx (o:=o) isO (i:=.o k) trivial (hi'.obj (.o k) o k1).1 hc
      have e2:=AObj.block_ctx (o:=o') isO (i:=.o k') trivial (hi'.obj (.o k') o' k2).1 hc
      exact hi'.inj (.o k) (.o k') o o' g k1 k2 (by rw[←e1];exact k3) (by rw[←e2];exact k4)
  cases e with
  |normal=>exact fin hk
  |ret=>exact fin hk
  |exit id=>exact hk.elim
  |goto l=>exact hk.elim
  |panic ch=>exact hk.elim
  |outgrown=>exact hk.elim
end Go.Abs
namespace Go.Abs

theorem TIOk.of{P:Program}{t:TypeId}{ti:TI}{d:TypeDesc}{z:Value}(hI:(P.info? t).map (fun i=>(i.zero,i.size,i.bytes))=some (some z,ti.size,ti.bytes))(hU:P.underlying t=some d)(hz:z.cells.toList=ti.zero)(ha:aggOf d=ti.agg)
  (hk:kindOf ti d) (h1:ti.zero.all Value.oneCell'=true) (hl:ti.zero.length=ti.size) (hp:Nat.beq ti.size 0=false):TIOk P t ti:=by
 cases hi:P.info? t with
 |none=>rw[hi]at hI;cases hI
 |some i=>
  rw[hi]at hI
  simp only[Option.map_some,Option.some.injEq,Prod.mk.injEq]at hI
  exact⟨⟨i,d,z,hi,hU,hI.2.1,hI.2.2,hI.1,hz,ha,hk⟩,h1,hl,fun e=>by rw[e]at hp;simp at hp⟩

theorem AStep.quiet{E:Env}{o:Oper}{fr:Fr}{σ:St}{x:FV}(h:∀(F:Nat->Prop)(w:World)(C:Ctx)(tmps:Array Value),Inv E.Γ F w C σ->FrOk w C E.N fr tmps->∃u,(execOp (Act.eval ⟨tmps,E.ds⟩) o).run E.P w=.ok (.value u) w/\RF w C x u):AStep E o fr σ x σ:=by
 intro F w C tmps hi hf next Q hk
 obtain⟨u,hu,hr⟩:=h F w C tmps hi hf
 unfold Oper.wp
 rw[hu,Oper.upon_value]
 exact hk u w C (Goes.refl _ _ _ _) hi hr

def Q4j (k:IntKind)(n:Int):Prop:=k.min<=n/\n<=k.max
theorem Qd5{k:IntKind}{n:Int}(h:Q4j k n):k.wrap n=n:=by
 obtain⟨h1,h2⟩:=h
 cases k <;> simp[IntKind.wrap,IntKind.min,IntKind.max,IntKind.signed,IntKind.bits]at * <;> omega
theorem Q2r{n:Int}(h1:-9223372036854775808<=n)(h2:n<=9223372036854775807):Q4j .i64 n:=by
 constructor <;> simp[IntKind.min,IntKind.max,IntKind.signed,IntKind.bits] <;> omega

section
variable {E:Env}{o:Oper}{fr:Fr}{σ:St}
theorem AStep.arith{op:BinOp}{t yt:TypeId}{x y:Operand}{k:IntKind}{a b r:Int}(ho:o.op=.binOp op t x y yt)(hx:aEval E.Γ fr x=some (.one (.lit (.int k a))))(hy:aEval E.Γ fr y=some (.one (.lit (.int k b))))
  (hop:(op=.add/\r=a+b)∨(op=.sub/\r=a - b)∨(op=.mul/\r=a * b)) (hr:Q4j k r):AStep E o fr σ (.one (.lit (.int k r))) σ:=by
 refine AStep.quiet fun F w C tmps hi hf=>⟨.int k r,?_,rfl,rfl⟩
 have h1:=Q01 (a:=⟨tmps,E.ds⟩) hi hf hx
 have h2:=Q01 (a:=⟨tmps,E.ds⟩) hi hf hy
 simp only[RF,R]at h1 h2
 unfold execOp
 simp only[ho,h1.1,h2.1,eqGuard_at_int,Sem.run_bind,Sem.run_pure,Result.andThen_ok]
 rcases hop with ⟨rfl,rfl⟩|⟨rfl,rfl⟩|⟨rfl,rfl⟩ <;> simp[binOp,Op.intArith,Qd5 hr]
theorem AStep.rem{t yt:TypeId}{x y:Operand}{k:IntKind}{a b:Int}(ho:o.op=.binOp .rem t x y yt)(hx:aEval E.Γ fr x=some (.one (.lit (.int k a))))(hy:aEval E.Γ fr y=some (.one (.lit (.int k b))))
  (hb:b≠0):AStep E o fr σ (.one (.lit (.int k (a.tmod b)))) σ:=by
 refine AStep.quiet fun F w C tmps hi hf=>⟨.int k (a.tmod b),?_,rfl,rfl⟩
 have h1:=Q01 (a:=⟨tmps,E.ds⟩) hi hf hx
 have h2:=Q01 (a:=⟨tmps,E.ds⟩) hi hf hy
 simp only[RF,R]at h1 h2
 unfold execOp
 simp only[ho,h1.1,h2.1,eqGuard_at_int,Sem.run_bind,Sem.run_pure,Result.andThen_ok]
 simp[binOp,Op.intDiv,hb]
theorem AStep.quo{t yt:TypeId}{x y:Operand}{k:IntKind}{a b:Int}(ho:o.op=.binOp .quo t x y yt)(hx:aEval E.Γ fr x=some (.one (.lit (.int k a))))(hy:aEval E.Γ fr y=some (.one (.lit (.int k b))))
  (hb:b≠0) (hr:Q4j k (a.tdiv b)):AStep E o fr σ (.one (.lit (.int k (a.tdiv b)))) σ:=by
 refine AStep.quiet fun F w C tmps hi hf=>⟨.int k (a.tdiv b),?_,rfl,rfl⟩
 have h1:=Q01 (a:=⟨tmps,E.ds⟩) hi hf hx
 have h2:=Q01 (a:=⟨tmps,E.ds⟩) hi hf hy
 simp only[RF,R]at h1 h2
 unfold execOp
 simp only[ho,h1.1,h2.1,eqGuard_at_int,Sem.run_bind,Sem.run_pure,Result.andThen_ok]
 simp[binOp,Op.intDiv,hb,Qd5 hr]
theorem AStep.max2{t ty:TypeId}{x y:Operand}{k:IntKind}{a b:Int}{tys:Array TypeId}(ho:o.op=.call { callee:=.builtin .max,args:=#[x,y],argTypes:=tys })(hx:aEval E.Γ fr x=some (.one (.lit (.int k a))))(hy:aEval E.Γ fr y=some (.one (.lit (.int k b)))):
  AStep E o fr σ (.one (.lit (.int k (if b > a then b else a)))) σ:=by
 refine AStep.quiet fun F w C tmps hi hf=>⟨.int k (if b > a then b else a),?_,rfl,rfl⟩
 have h1:=Q01 (a:=⟨tmps,E.ds⟩) hi hf hx
 have h2:=Q01 (a:=⟨tmps,E.ds⟩) hi hf hy
 simp only[RF,R]at h1 h2
 unfold execOp
 simp[ho,h1.1,h2.1,resolve,invoke,builtin,Builtin.max_,Builtin.max2]
theorem RS.at{w:World}{C:Ctx}{s:Nat}:∀{es:List (List AC)}{ad:Addr}{i:Nat}{e:List AC},ad.spot=none->RS w C s es ad->es[i]?=some e->e.length=s/\RL w C e ⟨ad.block,ad.off+i * s,none⟩
 |[],ad,i,e,_,h,hi=>by simp at hi
 |x::es,ad,i,e,hs,h,hi=>by
  simp only[RS]at h
  cases i with
  |zero=>
   simp at hi;subst hi
   refine⟨h.1,?_⟩
   have:=h.2.1
   cases ad
   simp_all
  |succ i=>
   have:=RS.at (ad:=⟨ad.block,ad.off+s,none⟩) rfl h.2.2 (by simpa using hi)
   refine⟨this.1,?_⟩
   have h2:=this.2
   simp only[Nat.add_assoc]at h2
   rw[show s+i * s=(i+1) * s by rw[Nat.add_mul];omega]at h2
   exact h2
theorem AStep.indexAddr{t:TypeId}{ti tj:TI}{x i:Operand}{k:IntKind}{n:Int}{s:Nat}{es:List (List AC)}{e:List AC}{v:AC}(hT:TabOk E.P E.T)(ho:o.op=.indexAddr t x i)(ht:Tab.get t E.T=some ti)(hk:Nat.beq ti.kind 2=true)(hj:Tab.get ti.elem E.T=some tj)
  (hs:Nat.beq tj.size s=true) (hx:aEval E.Γ fr x=some (.one v)) (hv:v=.sl s es∨∃i,v=.gs s es i) (hi':aEval E.Γ fr i=some (.one (.lit (.int k n)))) (h0:0<=n) (he:es[n.toNat]?=some e):AStep E o fr σ (.one (.box e)) σ:=by
 refine AStep.quiet fun F w C tmps hi hf=>?_
 have h1:=Q01 (a:=⟨tmps,E.ds⟩) hi hf hx
 have h2:=Q01 (a:=⟨tmps,E.ds⟩) hi hf hi'
 have hlt:n.toNat < es.length:=(List.getElem?_eq_some_iff.1 he).1
 have hlt':n < es.length:=by omega
 have hsz:=(hT _ _ hj).run_sizeOf w
 have hsl:=(hT t ti ht).slice (Nat.eq_of_beq_eq_true hk)
 have hs':tj.size=s:=Nat.eq_of_beq_eq_true hs
 simp only[RF,R]at h2
 have key:∃ad cap,(Act.eval ⟨tmps,E.ds⟩ x)=.slice (some ad) es.length cap/\ad.spot=none/\RS w C s es ad:=by
  rcases hv with rfl|⟨j,rfl⟩
  ·simp only[RF,R]at h1
   obtain⟨b,cap,hx1,_,rfl|⟨ad,rfl,hsp,hrs⟩⟩:=h1
   ·simp at hlt
   ·exact⟨ad,cap,hx1,hsp,hrs⟩
  ·simp only[RF,R]at h1
   obtain⟨_,⟨_,rfl,_⟩|⟨g,cap,hx1,_,_,hrs⟩⟩:=h1
   ·simp at hlt
   ·exact⟨_,cap,hx1,rfl,hrs⟩
 obtain⟨ad,cap,hx1,hsp,hrs⟩:=key
 obtain⟨_,hrl⟩:=RS.at hsp hrs he
 refine⟨.pointer (some (ad.add (n.toNat * s))),?_,_,rfl,?_,?_⟩
 ·unfold execOp
  simp only[ho,hx1,h2.1]
  simp[Instr.indexAt,asIntOf,run_underlying hsl,h0,hlt',hsz,hs']
 ·rw[Addr.add_none hsp]
 ·rw[Addr.add_none hsp];exact hrl
end

def inL (m:Nat):Id->Prop
 |.l k=>k < m
 |.o _=>True
def Fr.ids (p:Id->Prop):Fr->Prop
 |[]=>True
 |(_,v)::r=>v.ids p/\Fr.ids p r
theorem Fr.ids_get{p:Id->Prop}:∀{fr:Fr}{k:Nat}{x:FV},Fr.ids p fr->Fr.get k fr=some x->x.ids p
 |(j,v)::r,k,x,h,hg=>by
  simp only[Fr.ids]at h
  simp only[Fr.get]at hg
  by_cases e:j=k
  ·subst e;simp at hg;subst hg;exact h.1
  ·rw[Q09 e]at hg;exact Fr.ids_get h.2 hg
theorem Q8a{m:Nat}:∀i,isO i->inL m i:=by intro i h;cases i <;> simp_all[isO,inL]
theorem AObj.ids_mono{p q:Id->Prop}(h:∀i,p i->q i):∀o:AObj,o.ids p->o.ids q
 |.cells cs,hx=>Q12 h cs hx
 |.iter m _ _ _,hx=>h m hx
 |.sit _ _,_=>trivial
 |.map ck es,hx=>fun x hm=>FV.ids_mono h x.2.2 (hx x hm)
 |.tok _ _ _,_=>trivial
 |.dead,_=>trivial
end Go.Abs
namespace Go.Abs

theorem RS.lens{w:World}{C:Ctx}{s:Nat}:∀{es:List (List AC)}{ad:Addr},RS w C s es ad->∀e∈es,e.length=s
 |[],ad,h,e,he=>by cases he
 |x::es,ad,h,e,he=>by
  simp only[RS]at h
  rcases List.mem_cons.1 he with rfl|he
  ·exact h.1
  ·exact RS.lens h.2.2 e he
theorem RS.vals{w:World}{C:Ctx}{s:Nat}:∀(es:List (List AC))(ad:Addr),ad.spot=none->RS w C s es ad->∃xs:List Value,xs.length=es.length * s/\RV w C es.flatten xs/\Held w xs ad
 |[],ad,_,_=>⟨[],by simp,by simp[RV],fun j v h=>by simp at h⟩
 |e::es,ad,hs,h=>by
  simp only[RS]at h
  obtain⟨xs,h1,h2,h3⟩:=RL.held e ad hs h.2.1
  obtain⟨ys,h4,h5,h6⟩:=RS.vals es ⟨ad.block,ad.off+s,none⟩ rfl h.2.2
  have hxl:xs.length=s:=by rw[h2,h.1]
  refine⟨xs++ys,by simp[hxl,h4,Nat.add_mul];omega,by simpa using RV.append h1 h5,fun j v hj=>?_⟩
  by_cases hlt:j < xs.length
  ·rw[List.getElem?_append_left hlt]at hj
   exact h3 j v hj
  ·rw[List.getElem?_append_right (by omega)]at hj
   have:=h6 _ v hj
   rw[Addr.add_none hs]
   rw[Addr.add_none rfl]at this
   rw[←this];congr 2;simp;omega
theorem RL.ofVals{w:World}{C:Ctx}{g:Nat}:∀{cs:List AC}{xs:List Value}(k:Nat),RV w C cs xs->(∀(j:Nat)(v:Value),xs[j]?=some v->w.cell? ⟨g,k+j,none⟩=some v/\C.prot ⟨g,k+j,none⟩)->RL w C cs ⟨g,k,none⟩
 |[],xs,k,_,_=>by simp[RL]
 |c::cs,xs,k,h,h1=>by
  simp only[RV]at h
  obtain⟨u,us,rfl,h3,h4⟩:=h
  refine⟨⟨u,(h1 0 u rfl).1,(h1 0 u rfl).2,h3⟩,RL.ofVals (k+1) h4 (fun j v hj=>?_)⟩
  have:=h1 (j+1) v (by simpa using hj)
  rw[show k+1+j=k+(j+1) by omega];exact this
theorem RS.ofVals{w:World}{C:Ctx}{s g:Nat}:∀{es:List (List AC)}{xs:List Value}(k:Nat),(∀e∈es,e.length=s)->RV w C es.flatten xs->(∀(j:Nat)(v:Value),xs[j]?=some v->w.cell? ⟨g,k+j,none⟩=some v/\C.prot ⟨g,k+j,none⟩)->RS w C s es ⟨g,k,none⟩
 |[],xs,k,_,_,_=>by simp[RS]
 |e::es,xs,k,hl,h,h1=>by
  simp only[List.flatten_cons]at h
  have he:e.length=s:=hl e (by simp)
  have h2:=RV.take e.length h
  have h3:=RV.drop e.length h
  rw[List.take_left]at h2
  rw[List.drop_left]at h3
  refine⟨he,RL.ofVals k h2 (fun j v hj=>h1 j v ?_),RS.ofVals (k+s) (fun x hx=>hl x (by simp[hx])) h3 (fun j v hj=>?_)⟩
  ·have hlt:=(List.getElem?_eq_some_iff.1 hj).1
   simp at hlt
   rwa [List.getElem?_take_of_lt (by omega)]at hj
  ·rw[List.getElem?_drop]at hj
   have:=h1 _ v hj
   rw[show k+s+j=k+(e.length+j) by omega];exact this

inductive Src:AC->Nat->List (List AC)->Prop
 |sl (s:Nat) (es:List (List AC)):Src (.sl s es) s es
 |gs (s:Nat) (es:List (List AC)) (i:Id):Src (.gs s es i) s es
 |nil (s:Nat):Src (.lit (.slice none 0 0)) s []
theorem Src.held{w:World}{C:Ctx}{c:AC}{s:Nat}{es:List (List AC)}(h:Src c s es){v:Value}(hr:R w C c v) :
  (∀ e ∈ es, e.length = s) /\ ∃ (a : Option Addr) (cap : Nat) (news : List Value), v = .slice a es.length cap /\ news.length = es.length * s /\ RV w C es.flatten news /\ (es = [] ∨ ∃ ad, a = some ad /\ Held w news ad) /\ (a = none -> cap = 0 ∨ es = []) := by
 cases h with
 |sl=>
  simp only[R]at hr
  obtain⟨a,cap,rfl,_,rfl|⟨ad,rfl,hs,hrs⟩⟩:=hr
  ·exact⟨by simp,a,cap,[],rfl,by simp,by simp[RV],.inl rfl,fun _=>.inr rfl⟩
  ·obtain⟨xs,h1,h2,h3⟩:=RS.vals es ad hs hrs
   exact⟨hrs.lens,_,cap,xs,rfl,h1,h2,.inr ⟨ad,rfl,h3⟩,fun h=>by cases h⟩
 |gs=>
  simp only[R]at hr
  obtain⟨_,⟨rfl,rfl,_⟩|⟨g,cap,rfl,_,_,hrs⟩⟩:=hr
  ·exact⟨by simp,none,0,[],rfl,by simp,by simp[RV],.inl rfl,fun _=>.inr rfl⟩
  ·obtain⟨xs,h1,h2,h3⟩:=RS.vals es _ rfl hrs
   exact⟨hrs.lens,_,cap,xs,rfl,h1,h2,.inr ⟨_,rfl,h3⟩,fun h=>by cases h⟩
 |nil=>
  simp only[R]at hr
  exact⟨by simp,none,0,[],hr.1,by simp,by simp[RV],.inl rfl,fun _=>.inr rfl⟩

theorem Q4d{P:Program}{w:World}{t ty e:TypeId}{i:TypeInfo}(ht:P.underlying t=some (.slice e))(hi:P.info? e=some i)(a b:Option Addr)(n c cap:Nat)(hn:n<=cap):
  (Builtin.append_ #[t,t] ty #[.slice a n cap,.slice b 0 c]).run P w=.ok (.slice a n cap) w:=by
 cases b <;> cases a <;> simp[Builtin.append_,run_underlying ht,sizeOf,typeInfo,hi,Builtin.lenOf,Builtin.firstCells,hn,storeCells,loadCells,loadCellsFrom]

inductive Base (σ:St):AC->TypeId->Nat->List (List AC)->St->Prop
 |nil (e:TypeId) (s:Nat):Base σ (.lit (.slice none 0 0)) e s [] σ
 |gs (e:TypeId) (s:Nat) (es:List (List AC)) (i:Id) (h:σ.get i=some (.tok e s es.length)):Base σ (.gs s es i) e s es (σ.set i .dead)

section
variable {Γ:List (Nat×List AC)}{F:Nat->Prop}{w:World}{C:Ctx}{σ:St}
theorem Inv.kill(hi:Inv Γ F w C σ){i:Id}{o:AObj}(h:σ.get i=some o):Inv Γ F w C (σ.set i .dead):=by
 refine⟨hi.base,by rw[St.n_set];exact hi.next,hi.glob,hi.prot,fun j p hp=>?_,fun j k p q g h1 h2 h3 h4=>?_⟩
 ·by_cases e:i=j
  ·subst e;rw[St.get_set_same]at hp;cases hp;exact⟨(hi.obj i o h).1,trivial⟩
  ·rw[St.get_set_ne σ e]at hp;exact hi.obj j p hp
 ·by_cases e:i=j
  ·subst e;rw[St.get_set_same]at h1;cases h1;simp[AObj.block]at h3
  ·by_cases e':i=k
   ·subst e';rw[St.get_set_same]at h2;cases h2;simp[AObj.block]at h4
   ·rw[St.get_set_ne σ e]at h1;rw[St.get_set_ne σ e']at h2
    exact hi.inj j k p q g h1 h2 h3 h4

def Ctx.tokd (C:Ctx)(tk:Option (Nat×Nat))(p:Addr->Prop):Ctx:={ C.more 0 tk with prot:=fun a=>C.prot a∨p a }
theorem Ctx.tokd_old(C:Ctx)(tk:Option (Nat×Nat))(p:Addr->Prop){i:Id}(h:C.ok i):(C.tokd tk p).ok i/\(C.tokd tk p).blk i=C.blk i/\(C.tokd tk p).tok i=C.tok i:=by
 have:=Ctx.more_old C 0 tk h
 cases i <;> exact this
theorem Ctx.tokd_new(C:Ctx)(tk:Option (Nat×Nat))(p:Addr->Prop){n:Nat}(h:C.nl=n):(C.tokd tk p).ok (.l n)/\(C.tokd tk p).tok (.l n)=tk:=by
 have:=Ctx.more_new C 0 tk h
 exact⟨this.1,this.2.2⟩

theorem Inv.append(hi:Inv Γ F w C σ){P:Program}{t ty:TypeId}{e:TypeId}{tj:TI}(hsl:P.underlying t=some (.slice e))(hj:TIOk P e tj){c d:AC}{s:Nat}{es news:List (List AC)}{σ1:St}(hb:Base σ c e s es σ1)(hsrc:Src d s news)
  (hs : tj.size = s) (hbytes : (es.length + news.length) * tj.bytes <= 140737488355328) (h63 : es.length + news.length <= 140737488355328) {v u : Value} (hv : R w C c v) (hu : R w C d u) :
  ∃v' w' C',(Builtin.append_ #[t,t] ty #[v,u]).run P w=.ok v' w'/\Goes F (fun _=>True) w C w' C'/\Inv Γ F w' C' (σ1.push (.tok e s (es++news).length))/\R w' C' (.gs s (es++news) (.l σ.n)) v':=by
 obtain⟨i0,dd,z,g1,g2,g3,g4,g5,g6,g7,g8⟩:=hj.ex
 have hzl:z.cells.size=tj.size:=by have:=hj.len;rw[←g6]at this;simpa using this
 have hpos:=hj.pos
 obtain⟨hnl,b,capn,nv,rfl,hnvl,hnr,hheld,_⟩:=hsrc.held hu
 -- what is known of the base
 have hbase:(∀x∈es,x.length=s)/\Inv Γ F w C σ1/\σ1.n=σ.n/\((v=.slice none 0 0/\es=[]) ∨
   ∃g cap xs cur,v=.slice (some ⟨g,0,none⟩) es.length cap/\es.length<=cap/\cap<=maxLen/\w.heap[g]?=some (.cells cur e (0,0))/\¬F g/\cur.size=cap * s/\(∀a:Addr,a.block=g->C.prot a->a.off < es.length * s)/\
    xs.length=es.length * s/\RV w C es.flatten xs/\Held w xs ⟨g,0,none⟩/\(∀i o,σ1.get i=some o->o.block C i≠some g)):=by
  cases hb with
  |nil=>
   simp only[R]at hv
   exact⟨by simp,hi,rfl,.inl ⟨hv.1,rfl⟩⟩
  |gs _ _ _ i h=>
   simp only[R]at hv
   obtain⟨hok,hv⟩:=hv
   have hio:=(hi.obj i _ h).2
   refine⟨?_,hi.kill h,St.n_set ..,?_⟩
   ·rcases hv with ⟨_,rfl,_⟩|⟨g,cap,_,_,_,hrs⟩
    ·simp
    ·exact hrs.lens
   ·rcases hv with ⟨rfl,rfl,_⟩|⟨g,cap,rfl,hc,htk,hrs⟩
    ·exact .inl ⟨rfl,rfl⟩
    ·right
     simp only[ObjOk,htk]at hio
     obtain⟨cur,k1,k2,k3,k4,k5,k6⟩:=hio
     obtain⟨xs,k7,k8,k9⟩:=RS.vals es _ rfl hrs
     refine⟨g,cap,xs,cur,rfl,hc,k5,k1,k2,k3,k6,k7,k8,k9,fun j p hp hbp=>?_⟩
     by_cases e':i=j
     ·subst e';rw[St.get_set_same]at hp;cases hp;simp[AObj.block]at hbp
     ·rw[St.get_set_ne σ e']at hp
      exact e' (hi.inj i j _ p g h hp (by simp[AObj.block,htk]) hbp)
 obtain⟨hel,hi1,hn1,hbase⟩:=hbase
 have hall:∀x∈es++news,x.length=s:=by
  intro x hx
  rcases List.mem_append.1 hx with h|h
  ·exact hel x h
  ·exact hnl x h
 have hnx:σ1.n=C.nl:=by rw[←hi1.next]
 -- the store with the token
 have fin:∀(w':World) (tk:Option (Nat×Nat)) (p:Addr->Prop),Stp F w w'->(∀a,C.prot a->w'.cell? a=w.cell? a)->(∀a,p a->a.block < w'.heap.size/\¬F a.block)->
   (∀i o,σ1.get i=some o->∀g x,o.block C i=some g->w.heap[g]?=some x->w'.heap[g]?=some x)->(∀i o,σ1.get i=some o->∀a:Addr,o.block C i=some a.block->p a->C.prot a)->
   (ObjOk w' (C.tokd tk p) F (.l σ1.n) (.tok e s (es++news).length))->(∀i o g cap,σ1.get i=some o->o.block C i=some g->tk≠some (g,cap))->
   Ext w C w' (C.tokd tk p)/\Goes F (fun _=>True) w C w' (C.tokd tk p)/\Inv Γ F w' (C.tokd tk p) (σ1.push (.tok e s (es++news).length)):=by
  intro w' tk p h1 h2 h3 h4 h5 h6 h7
  have he:Ext w C w' (C.tokd tk p):=⟨h2,fun a ha=>.inl ha,fun i _ ho=>Ctx.tokd_old C tk p ho⟩
  refine⟨he,⟨h1,he,by simp[Ctx.tokd,Ctx.more],fun a ha=>ha.imp id (fun h=>(h3 a h).2)⟩,hi1.addObj (σ1.get_push _) he (by simp[Ctx.tokd,Ctx.more,St.push,hnx]) (fun k hk=>Nat.lt_of_lt_of_le (hi1.base k hk) h1.size) (fun a ha=>?_) (fun i o ho g x hg hx=>h4 i o ho g x hg hx) (fun i o ho a hb _ ha=>?_) (Ctx.tokd_new C tk p hnx.symm).1 h6 (fun i o g ho hg hb=>?_)⟩
  ·rcases ha with ha|ha
   ·exact Nat.lt_of_lt_of_le (hi1.prot a ha) h1.size
   ·exact (h3 a ha).1
  ·rcases ha with ha|ha
   ·exact ha
   ·exact h5 i o ho a hb ha
  ·simp only[AObj.block,(Ctx.tokd_new C tk p hnx.symm).2,Option.map_eq_some_iff]at hb
   obtain⟨⟨g',cap⟩,hk,rfl⟩:=hb
   exact h7 i o _ cap ho hg hk
 have hokn:∀tk p,(C.tokd tk p).ok (.l σ.n)/\(C.tokd tk p).tok (.l σ.n)=tk:=fun tk p=>by rw[←hn1];exact Ctx.tokd_new C tk p hnx.symm
 by_cases hm:news=[]
 · -- nothing is appended
  subst hm
  simp only[List.append_nil,List.length_nil,Nat.add_zero]at *
  rcases hbase with ⟨rfl,rfl⟩|⟨g,cap,xs,cur,rfl,hc,hcm,hg,hgF,hcs,hpr,hxl,hxr,hxh,hdis⟩
  ·obtain⟨f1,f2,f3⟩:=fin w none (fun _=>False) (Stp.refl _ _) (fun _ _=>rfl) (fun _ h=>h.elim) (fun _ _ _ _ _ _ h=>h) (fun _ _ _ _ _ h=>h.elim) (by simp only[ObjOk,(Ctx.tokd_new C none (fun _=>False) hnx.symm).2];rfl) (fun _ _ _ _ _ _ h=>by cases h)
   exact⟨_,w,_,Q4d hsl g1 none b 0 capn 0 (Nat.le_refl _),f2,f3,(hokn _ _).1,.inl ⟨rfl,rfl,(hokn _ _).2⟩⟩
  ·obtain⟨f1,f2,f3⟩:=fin w (some (g,cap)) (fun _=>False) (Stp.refl _ _) (fun _ _=>rfl) (fun _ h=>h.elim) (fun _ _ _ _ _ _ h=>h) (fun _ _ _ _ _ h=>h.elim)
    (by simp only [ObjOk, (Ctx.tokd_new C (some (g, cap)) (fun _ => False) hnx.symm).2]; exact ⟨cur, hg, hgF, hcs, hc, hcm, fun a ha hp => hpr a ha (hp.resolve_right id)⟩) (fun i o g' cap' ho hb h => by cases h; exact hdis i o ho hb)
   refine⟨_,w,_,Q4d hsl g1 _ b _ capn cap hc,f2,f3,(hokn _ _).1,.inr ⟨g,cap,rfl,hc,(hokn _ _).2,?_⟩⟩
   have hrs:RS w C s es ⟨g,0,none⟩:=by
    cases hb with
    |nil=>simp[RS]
    |gs _ _ _ i h=>
     simp only[R]at hv
     obtain⟨_,⟨h1,_⟩|⟨g',cap',h1,_,_,h2⟩⟩:=hv
     ·cases h1
     ·cases h1;exact h2
   exact hrs.ext f1
 ·have hm0:0 < news.length:=List.length_pos_iff.2 hm
  obtain⟨ad,rfl,hh2⟩:=hheld.resolve_left hm
  have hnv1:∀x∈nv,x.oneCell'=true:=RV.one hnr
  have hnvl':nv.length=news.length * i0.size:=by rw[hnvl,g3,hs]
  -- a new row
  have newrow:∀(xs:List Value) (capk:Nat) (zs:Array Value),xs.length=es.length * s->RV w C es.flatten xs->(es++news).length<=capk->capk<=maxLen->zs.size=(capk - (es++news).length) * s->
    ∃C',Goes F (fun _=>True) w C (w.drew.alloc (.cells (xs.toArray++nv.toArray++zs) e)) C'/\Inv Γ F (w.drew.alloc (.cells (xs.toArray++nv.toArray++zs) e)) C' (σ1.push (.tok e s (es++news).length))/\R (w.drew.alloc (.cells (xs.toArray++nv.toArray++zs) e)) C' (.gs s (es++news) (.l σ.n)) (.slice (some ⟨w.heap.size,0,none⟩) (es++news).length capk):=by
   intro xs capk zs hxl hxr hck hcm hzs
   have hstp:Stp F w (w.drew.alloc (.cells (xs.toArray++nv.toArray++zs) e)):=(Stp.drew F w).trans (Stp.alloc (w:=w.drew) hi.base _ _)
   have hcell:∀j:Nat,(w.drew.alloc (.cells (xs.toArray++nv.toArray++zs) e)).cell? ⟨w.heap.size,j,none⟩=(xs.toArray++nv.toArray++zs)[j]?:=fun j=>cell_of_row _ _ _ _ _ _ (heap_alloc_new w.drew _)
   obtain⟨f1,f2,f3⟩:=fin _ (some (w.heap.size,capk)) (fun a=>a.block=w.heap.size/\a.off < (es++news).length * s) hstp (fun a ha=>(World.cell?_alloc_lt _ _ _ (hi.prot a ha)).trans rfl) (fun a ha=>⟨by rw[ha.1];simp,fun hF=>by have:=hi.base _ hF;omega⟩)
    (fun i o ho g x hb hx => Q2m w.drew _ hx) (fun i o ho a hb ha => by have := (AObj.block_lt (hi1.obj i o ho).2 hb).2; omega)
    (by
     simp only[ObjOk,(Ctx.tokd_new C (some (w.heap.size,capk)) _ hnx.symm).2]
     refine⟨_,heap_alloc_new w.drew _,fun hF=>by have:=hi.base _ hF;omega,?_,hck,hcm,fun a ha hp=>?_⟩
     ·simp only[Array.size_append,List.size_toArray,hxl,hnvl,hzs,←Nat.add_mul]
      congr 1
      simp at hck ⊢;omega
     ·rcases hp with hp|hp
      ·have:=hi.prot a hp;omega
      ·exact hp.2) (fun i o g cap' ho hb h=>by cases h;have:=(AObj.block_lt (hi1.obj i o ho).2 hb).2;omega)
   refine⟨_,f2,f3,(hokn _ _).1,.inr ⟨_,capk,rfl,hck,(hokn _ _).2,?_⟩⟩
   refine RS.ofVals (xs:=xs++nv) 0 hall ?_ (fun j v hj=>⟨?_,.inr ⟨rfl,?_⟩⟩)
   ·rw[List.flatten_append]
    exact RV.append (hxr.ext f1) (hnr.ext f1)
   ·rw[Nat.zero_add,hcell]
    have hlt:=(List.getElem?_eq_some_iff.1 hj).1
    rw[Array.getElem?_append_left (by simpa using hlt)]
    rw[←hj]
    simp
   ·have hlt:=(List.getElem?_eq_some_iff.1 hj).1
    simp only[List.length_append,hxl,hnvl,←Nat.add_mul]at hlt
    simpa using hlt
  rcases hbase with ⟨rfl,rfl⟩|⟨g,cap,xs,cur,rfl,hc,hcm,hg,hgF,hcs,hpr,hxl,hxr,hxh,hdis⟩
  ·have hr:=run_append_nil (P:=P) w t ty e i0 z hsl g1 g5 ad news.length capn nv hnvl' hh2 hm0 (by simp at h63;omega) (by rw[g4];simp at hbytes;omega)
   have hge:=grownCap_ge w news.length 0 e
   have hcm:=grownCap_le_maxLen w news.length 0 e (by simp at h63;simp[maxLen];omega)
   obtain⟨C',k1,k2,k3⟩:=newrow [] (grownCap w news.length 0 e) (Builtin.zeroCells z.cells (grownCap w news.length 0 e - news.length)) (by simp) (by simp[RV]) (by simpa using hge) hcm (by rw[size_zeroCells,hzl,hs];simp)
   refine⟨_,_,C',hr,?_,?_,?_⟩
   ·simpa using k1
   ·simpa using k2
   ·simpa using k3
  ·by_cases hroom:es.length+news.length<=cap
   ·have hfit:es.length * i0.size+nv.length<=cur.size:=by rw[hnvl,hcs,g3,hs,←Nat.add_mul];exact Nat.mul_le_mul_right _ hroom
    have hr:=run_append_room (P:=P) w t ty e i0 hsl g1 g es.length cap cur hg ad news.length capn nv hnvl' hh2 hnv1 hroom hfit
    rw[g3,hs]at hr hfit
    have hgh:=Q4c w g cur (cur.toList.take (es.length * s)++nv++cur.toList.drop (es.length * s+nv.length)).toArray e hg
    have hstp:Stp F w (w.setRow g (cur.toList.take (es.length * s)++nv++cur.toList.drop (es.length * s+nv.length)).toArray) :=
     ⟨rfl, rfl, rfl, by simp, fun k hk => setRow_other w _ k _ (by rintro rfl; exact hgF hk), fun a _ => by
      by_cases e':a.block=g
      ·simp only[World.frozen?,e',hgh,hg]
      ·exact World.frozen?_of_block (setRow_other w _ a.block _ e')⟩
    have hcell:∀j:Nat,(w.setRow g (cur.toList.take (es.length * s)++nv++cur.toList.drop (es.length * s+nv.length)).toArray).cell? ⟨g,j,none⟩=(cur.toList.take (es.length * s)++nv++cur.toList.drop (es.length * s+nv.length))[j]?:=fun j=>by
     rw[cell_of_row _ _ _ _ _ _ hgh];simp
    have hold:∀j:Nat,j < es.length * s->(cur.toList.take (es.length * s)++nv++cur.toList.drop (es.length * s+nv.length))[j]?=cur[j]?:=fun j hj=>by
     have h1:j < (cur.toList.take (es.length * s)).length:=by simp;omega
     rw[List.append_assoc,List.getElem?_append_left h1,List.getElem?_take_of_lt hj]
     simp
    have hxc:∀(j:Nat) (v:Value),xs[j]?=some v->cur[j]?=some v:=fun j v hj=>by
     have h1:=hxh j v hj
     rw[Addr.add_none rfl,cell_of_row _ _ _ _ _ _ hg]at h1
     simpa using h1
    obtain⟨f1,f2,f3⟩:=fin _ (some (g,cap)) (fun a=>a.block=g/\a.off < (es++news).length * s) hstp (fun a ha=>by
      by_cases e':a.block=g
      ·have hlt:=hpr a e' ha
       cases hsp:a.spot with
       |none=>
        have:a=⟨g,a.off,none⟩:=by cases a;simp_all
        rw[this,hcell,hold _ hlt,cell_of_row _ _ _ _ _ _ hg]
       |some q=>simp only[World.cell?,e',hgh,hg,hsp];rfl
      ·exact World.cell?_of_block (setRow_other w _ _ _ e')) (fun a ha=>⟨by rw[ha.1];simp;exact Q0b hg,by rw[ha.1];exact hgF⟩)
     (fun i o ho g' x hb hx => by
      have:g'≠g:=by rintro rfl;exact hdis i o ho hb
      rw[setRow_other w _ g' _ this];exact hx) (fun i o ho a hb ha=>by rw[ha.1]at hb;exact absurd hb (hdis i o ho))
     (by
      simp only[ObjOk,(Ctx.tokd_new C (some (g,cap)) _ hnx.symm).2]
      refine⟨_,hgh,hgF,?_,by simpa using hroom,hcm,fun a ha hp=>?_⟩
      ·rw[←hcs];simp;omega
      ·rcases hp with hp|hp
       ·have:=hpr a ha hp
        have h2:es.length * s<=(es++news).length * s:=Nat.mul_le_mul_right _ (by simp)
        omega
       ·exact hp.2) (fun i o g' cap' ho hb h=>by cases h;exact hdis i o ho hb)
    refine⟨_,_,_,hr,f2,f3,(hokn _ _).1,.inr ⟨g,cap,by simp,by simpa using hroom,(hokn _ _).2,?_⟩⟩
    refine RS.ofVals (xs:=xs++nv) 0 hall ?_ (fun j v hj=>⟨?_,.inr ⟨rfl,?_⟩⟩)
    ·rw[List.flatten_append]
     exact RV.append (hxr.ext f1) (hnr.ext f1)
    ·rw[Nat.zero_add,hcell]
     by_cases hlt:j < xs.length
     ·rw[List.getElem?_append_left hlt]at hj
      rw[hold j (by omega)]
      exact hxc j v hj
     ·rw[List.getElem?_append_right (by omega)]at hj
      have hlt2:=(List.getElem?_eq_some_iff.1 hj).1
      have htl:(cur.toList.take (es.length * s)).length=es.length * s:=by simp;omega
      rw[List.append_assoc,List.getElem?_append_right (by omega),htl,List.getElem?_append_left (by omega),←hxl]
      exact hj
    ·have hlt:=(List.getElem?_eq_some_iff.1 hj).1
     simp only[List.length_append,hxl,hnvl,←Nat.add_mul]at hlt
     simpa using hlt
   ·have hr:=run_append_grow (P:=P) w t ty e i0 z hsl g1 g5 ⟨g,0,none⟩ es.length cap xs (by rw[hxl,g3,hs]) hxh ad news.length capn nv hnvl' hh2 (by omega) (by omega) (growslice_fits (by omega) (by rw[g4];exact hbytes))
    have hge:=grownCap_ge w (es.length+news.length) cap e
    have hcm2:=grownCap_le_maxLen w (es.length+news.length) cap e (by simp[maxLen];omega)
    obtain⟨C',k1,k2,k3⟩:=newrow xs (grownCap w (es.length+news.length) cap e) (Builtin.zeroCells z.cells (grownCap w (es.length+news.length) cap e - (es.length+news.length))) hxl hxr (by simpa using hge) hcm2 (by rw[size_zeroCells,hzl,hs];simp)
    exact⟨_,_,C',hr,k1,k2,by simpa using k3⟩
end

theorem AStep.append{E:Env}{o:Oper}{fr:Fr}{σ σ1:St}{t:TypeId}{ti tj:TI}{x y:Operand}{c d:AC}{s:Nat}{es news:List (List AC)}(hT:TabOk E.P E.T)(ho:o.op=.call { callee:=.builtin .append,args:=#[x,y],argTypes:=#[t,t] })
  (ht:Tab.get t E.T=some ti) (hk:Nat.beq ti.kind 2=true) (hj:Tab.get ti.elem E.T=some tj) (hx:aEval E.Γ fr x=some (.one c)) (hy:aEval E.Γ fr y=some (.one d)) (hb:Base σ c ti.elem s es σ1) (hsrc:Src d s news)
  (hs:Nat.beq tj.size s=true) (hbytes:(es.length+news.length) * tj.bytes<=140737488355328) (h63:es.length+news.length<=140737488355328):AStep E o fr σ (.one (.gs s (es++news) (.l σ.n))) (σ1.push (.tok ti.elem s (es++news).length)):=by
 intro F w C tmps hi hf next Q hk'
 have h1:=Q01 (a:=⟨tmps,E.ds⟩) hi hf hx
 have h2:=Q01 (a:=⟨tmps,E.ds⟩) hi hf hy
 simp only[RF]at h1 h2
 obtain⟨v',w',C',hrun,hg,hi',hr⟩:=hi.append (ty:=o.type) ((hT t ti ht).slice (Nat.eq_of_beq_eq_true hk)) (hT _ _ hj) hb hsrc (Nat.eq_of_beq_eq_true hs) hbytes h63 h1 h2
 have:(execOp (Act.eval ⟨tmps,E.ds⟩) o).run E.P w=.ok (.value v') w':=by
  unfold execOp
  simp only[ho,resolve,invoke,builtin,Sem.run_bind,Sem.run_pure,Result.andThen_ok,List.map_toArray,List.map_cons,List.map_nil,hrun]
 unfold Oper.wp
 rw[this,Oper.upon_value]
 exact hk' v' w' C' hg hi' hr
end Go.Abs
namespace Go.Abs

def HStep (E:Env)(ops:Array Oper)(o:Oper)(fr:Fr)(σ σ':St)(v:FV):Prop:=
 match o.guard with
 |none=>AStep E o fr σ v σ'
 |some (j,want)=>∃d x,Q0y ops j=some d/\Fr.get d fr=some x/\((x=.one (.lit (.bool want))/\AStep E o fr σ v σ')∨(gNo x want=true/\v=.tup []/\σ'=σ))

def depFr (l:List Oper)(vs:List FV)(o:Oper):Fr:=
 o.after.toList.filterMap fun e=>bif Region.binds .any e then (match (l[e.on]?).bind (·.dst),vs[e.on]? with|some d,some v=>some (d,v)|_,_=>none)else none

def Heads (E:Env)(ops:Array Oper)(l:List Oper)(vs:List FV)(frb:Fr)(σ0 σ1:St)(al:Nat):Nat->List Oper->List FV->Prop
 |_,[],[]=>True
 | k, o :: os, v :: ws => (o.dst.isSome = true /\ dstOk E.N o.dst = true /\
   (if k=al then HStep E ops o (depFr l vs o++frb) σ0 σ1 v else HStep E ops o (depFr l vs o++frb) σ0 σ0 v/\HStep E ops o (depFr l vs o++frb) σ1 σ1 v))/\Heads E ops l vs frb σ0 σ1 al (k+1) os ws
 |_,_,_=>False

def dsts (l:List Oper):List Nat:=l.filterMap (·.dst)
def Q2q:List Oper->List FV->Fr
 |o::os,v::vs=>match o.dst with
  |some d=>(d,v)::Q2q os vs
  |none=>Q2q os vs
 |_,_=>[]
def distinct:List Nat->Bool
 |[]=>true
 |d::ds=>!(ds.contains d)&&distinct ds
def Q07 (m n:Nat):Array Bool:=(Array.range m).map (fun i=>decide (i < n))
def drawB (l:List Oper)(n:Nat):Bool:=
 decide (n < l.length)&&Region.sinkB .any l.toArray n&&Region.chainB .any l.toArray n&&Region.seqB .any l.toArray (l.length - n) n (Q07 l.length n)&&distinct (dsts (l.take n)) &&
  (l.take n).zipIdx.all fun x=>x.1.after.all fun e=>!Region.binds .any e||decide (e.on < x.2)

theorem Fr.get_append{k:Nat}:∀{fr fr':Fr}{x:FV},Fr.get k (fr++fr')=some x->Fr.get k fr=some x∨(Fr.get k fr=none/\Fr.get k fr'=some x)
 |[],fr',x,h=>.inr ⟨rfl,h⟩
 |(j,v)::fr,fr',x,h=>by
  simp only[List.cons_append,Fr.get]at h ⊢
  by_cases e:j=k
  ·subst e;simp at h ⊢;exact h
  ·rw[Q09 e]at h ⊢
   exact Fr.get_append h
theorem Fr.get_mem{k:Nat}:∀{fr:Fr}{x:FV},Fr.get k fr=some x->(k,x)∈fr
 |(j,v)::fr,x,h=>by
  simp only[Fr.get]at h
  by_cases e:j=k
  ·subst e;simp at h;subst h;simp
  ·rw[Q09 e]at h;exact List.mem_cons_of_mem _ (Fr.get_mem h)
theorem Q6m:∀{os:List Oper}{vs:List FV}{d:Nat}{v:FV},(d,v)∈Q2q os vs->∃(i:Nat)(o:Oper),os[i]?=some o/\o.dst=some d/\vs[i]?=some v
 |[],vs,d,v,h=>by simp[Q2q]at h
 |o::os,[],d,v,h=>by simp[Q2q]at h
 |o::os,w::vs,d,v,h=>by
  simp only[Q2q]at h
  cases ho:o.dst with
  |none=>
   rw[ho]at h
   obtain⟨i,o',h1,h2,h3⟩:=Q6m h
   exact⟨i+1,o',by simpa using h1,h2,by simpa using h3⟩
  |some d'=>
   rw[ho]at h
   rcases List.mem_cons.1 h with h|h
   ·cases h;exact⟨0,o,rfl,ho,rfl⟩
   ·obtain⟨i,o',h1,h2,h3⟩:=Q6m h
    exact⟨i+1,o',by simpa using h1,h2,by simpa using h3⟩
theorem Q1y:∀{os:List Oper},distinct (dsts os)=true->∀{i j:Nat}{o o':Oper}{d:Nat},os[i]?=some o->os[j]?=some o'->o.dst=some d->o'.dst=some d->i=j
 | [], _, i, j, o, o', d, h, _, _, _ => by simp at h
 |x::os,hd,i,j,o,o',d,h1,h2,h3,h4=>by
  cases hx:x.dst with
  |none=>
   have hd':distinct (dsts os)=true:=by simpa[dsts,hx]using hd
   cases i with
   |zero=>simp at h1;subst h1;rw[hx]at h3;cases h3
   |succ i=>cases j with
    |zero=>simp at h2;subst h2;rw[hx]at h4;cases h4
    |succ j=>exact congrArg (·+1) (Q1y hd' (by simpa using h1) (by simpa using h2) h3 h4)
  |some e=>
   have hd':¬e∈dsts os/\distinct (dsts os)=true:=by simpa[dsts,hx,distinct]using hd
   have key:∀(k:Nat) (p:Oper),os[k]?=some p->p.dst≠some e:=fun k p hk hp=>hd'.1 (List.mem_filterMap.2 ⟨p,List.mem_of_getElem? hk,hp⟩)
   cases i with
   |zero=>cases j with
    |zero=>rfl
    |succ j=>simp at h1;subst h1;rw[hx]at h3;cases h3;exact absurd h4 (key j o' (by simpa using h2))
   |succ i=>cases j with
    |zero=>simp at h2;subst h2;rw[hx]at h4;cases h4;exact absurd h3 (key i o (by simpa using h1))
    |succ j=>exact congrArg (·+1) (Q1y hd'.2 (by simpa using h1) (by simpa using h2) h3 h4)

section
variable {E:Env}{l:List Oper}{vs:List FV}{frb:Fr}{σ0 σ1:St}{al n:Nat}{K:Cont}
theorem Heads.at{ops:Array Oper}:∀{os:List Oper}{ws:List FV}{k:Nat},Heads E ops l vs frb σ0 σ1 al k os ws->os.length=ws.length/\∀(i:Nat)(o:Oper),os[i]?=some o->∃v,ws[i]?=some v/\o.dst.isSome=true/\dstOk E.N o.dst=true/\
   (if k+i=al then HStep E ops o (depFr l vs o++frb) σ0 σ1 v else HStep E ops o (depFr l vs o++frb) σ0 σ0 v/\HStep E ops o (depFr l vs o++frb) σ1 σ1 v)
 |[],[],k,_=>⟨rfl,fun i o h=>by simp at h⟩
 |[],_::_,k,h=>h.elim
 |_::_,[],k,h=>h.elim
 |o::os,v::ws,k,h=>by
  obtain⟨⟨h1,h2,h3⟩,h4⟩:=h
  obtain⟨h5,h6⟩:=Heads.at h4
  refine⟨by simp[h5],fun i p hi=>?_⟩
  cases i with
  |zero=>simp at hi;subst hi;exact⟨v,rfl,h1,h2,by simpa using h3⟩
  |succ i=>
   obtain⟨v',k1,k2,k3,k4⟩:=h6 i p (by simpa using hi)
   refine⟨v',by simpa using k1,k2,k3,?_⟩
   rw[show k+(i+1)=k+1+i by omega]
   exact k4

theorem Q5y:∀(L:List Nat)(p:Nat->Bool)(i:Nat),L.Nodup->i∈L->p i=true->(L.filter fun j=>p j&&decide (j≠i)).length+1=(L.filter p).length
 | [], p, i, _, hm, _ => by cases hm
 |x::L,p,i,hnd,hm,hp=>by
  have hnd':=List.nodup_cons.1 hnd
  simp only[List.filter_cons]
  by_cases e:x=i
  ·subst e
   have:(L.filter fun j=>p j&&decide (j≠x))=L.filter p:=by
    apply List.filter_congr
    intro j hj
    have:j≠x:=fun e=>hnd'.1 (e▸hj)
    simp[this]
   rw[this]
   simp[hp]
  ·have hm':i∈L:=by
    rcases List.mem_cons.1 hm with h|h
    ·exact absurd h.symm e
    ·exact h
   have ih:=Q5y L p i hnd'.2 hm' hp
   cases hx:p x with
   |true=>simp[e]at ih ⊢;exact ih
   |false=>simpa using ih
structure Mid (E:Env)(l:List Oper)(vs:List FV)(n al:Nat)(frb:Fr)(σ0 σ1:St)(F:Nat->Prop)(w0:World)(C0:Ctx)(listed:Array Bool)(a:Act)(w:World):Prop where
 defers:a.defers=E.ds
 ex:∃C,Goes F isO w0 C0 w C/\Inv E.Γ F w C (if listed.getD al false=true then σ1 else σ0)/\FrOk w C E.N frb a.tmps/\
  ∀(i:Nat) (o:Oper) (d:Nat) (v:FV),i < n->l[i]?=some o->o.dst=some d->vs[i]?=some v->listed.getD i false=true->∃u,a.tmps[d]?=some u/\RF w C v u
theorem Q7g{listed:Array Bool}{i n:Nat}(hi:i < n)(hun:listed.getD i false=false)(hs:i < listed.size) :
  ((List.range n).filter fun j => !(listed.setIfInBounds i true).getD j false).length + 1 = ((List.range n).filter fun j => !listed.getD j false).length := by
 have h1:∀j,(!(listed.setIfInBounds i true).getD j false)=((!listed.getD j false)&&decide (j≠i)):=by
  intro j
  by_cases e:i=j
  ·subst e
   have:(listed.setIfInBounds i true).getD i false=true:=by simp[hs]
   rw[this];simp
  ·rw[getD_set_ne false e];simp[Ne.symm e]
 simp only[h1]
 exact Q5y (List.range n) (fun j=>!listed.getD j false) i List.nodup_range (List.mem_range.2 hi) (by simp[hun])
theorem Q40{listed:Array Bool}{i:Nat}(hi:i < listed.size):listed.getD i true=listed.getD i false:=by simp[hi]
theorem Q8g{ops:Array Oper}{o:Oper}{fr:Fr}{σ σ':St}{v:FV}(h:HStep E ops o fr σ σ' v){F:Nat->Prop}{w:World}{C:Ctx}{tmps:Array Value}(hi:Inv E.Γ F w C σ)(hf:FrOk w C E.N fr tmps){i:Nat}(ho:ops[i]?=some o)
  {next:Act->World->Prop}{Q:Exit->Act->World->Prop}(hk:∀(u:Value) (w':World) (C':Ctx),Goes F (fun _=>True) w C w' C'->Inv E.Γ F w' C' σ'->RF w' C' v u->next (Act.put ⟨tmps,E.ds⟩ o.dst u) w'):wpOp E.P ops Q i next ⟨tmps,E.ds⟩ w:=by
 unfold wpOp
 simp only[ho]
 unfold HStep at h
 cases hg:o.guard with
 |none=>
  rw[hg]at h
  rw[if_pos (by simp[Region.wanted,hg])]
  exact .inl (h F w C tmps hi hf next Q hk)
 |some jw=>
  obtain⟨j,want⟩:=jw
  rw[hg]at h
  obtain⟨d,x,hd,hb,h⟩:=h
  rcases h with ⟨rfl,h⟩|⟨hne,rfl,rfl⟩
  ·have hy:=Q4s hf hd hb
   rw[if_pos (by simp[Region.wanted,hg,hy])]
   exact .inl (h F w C tmps hi hf next Q hk)
  ·rw[if_neg (by rw[Qbq (o:=o) hf hg hd hb hne];simp)]
   exact hk undef w C (Goes.refl _ _ _ _) hi ⟨[],rfl,rfl⟩

theorem mid_any(hB:drawB l n=true)(hfb:(dsts (l.take n)).all (fun d=>(Fr.get d frb).isNone)=true)(hH:Heads E l.toArray l vs frb σ0 σ1 al 0 (l.take n) vs)
  (htail : AOps E l.toArray (l.drop n) K (Q2q (l.take n) vs ++ frb) (if al < n then σ1 else σ0)) {F : Nat -> Prop} {w0 : World} {C0 : Ctx} :
  ∀(c:Nat) (listed:Array Bool) (a:Act) (w:World),((List.range n).filter fun j=>!listed.getD j false).length=c->HeadInv .any l.toArray n listed->Mid E l vs n al frb σ0 σ1 F w0 C0 listed a w->
   wpAny E.P .any l.toArray (Post E F w0 C0 K) (c+(l.length - n)) listed a w:=by
 simp only[drawB,Bool.and_eq_true,decide_eq_true_eq]at hB
 obtain⟨⟨⟨⟨⟨hn,hs⟩,hc⟩,hsq⟩,hdi⟩,haf⟩:=hB
 obtain⟨hlen,hat⟩:=hH.at
 have hsz:l.toArray.size=l.length:=by simp
 intro c
 induction c with
 |zero=>
  intro listed a w hcnt hinv hmid
  have hall:∀j,j < n->listed.getD j false=true:=by
   intro j hj
   have:(List.range n).filter (fun j=>!listed.getD j false)=[]:=List.eq_nil_of_length_eq_zero hcnt
   have h2:=List.filter_eq_nil_iff.1 this j (List.mem_range.2 hj)
   simpa using h2
  have hl:listed=Q07 l.length n:=by
   apply Array.ext
   ·simp[Q07,hinv.size]
   ·intro j h1 h2
    have hj:j < l.length:=by simpa[Q07]using h2
    have h3:listed.getD j false=listed[j]:=by simp[h1]
    simp only[Q07,Array.getElem_map,Array.getElem_range]
    by_cases hjn:j < n
    ·rw[←h3,hall j hjn];simp[hjn]
    ·have:=hinv.tail j (by omega) (by rw[hsz];exact hj)
     rw[Q40 h1]at this
     rw[←h3,this];simp[hjn]
  have hdl:(l.drop n).length=l.length - n:=by simp
  rw [Nat.zero_add, ← hdl]
  refine wpAny_of_seq (md:=.any) (l.drop n) n listed a w (fun j=>by simp[List.getElem?_drop]) (by rw[hl,hdl];exact hsq) ?_
  obtain⟨hd,C,hg,hi,hf,hv⟩:=hmid
  have ha:a=⟨a.tmps,E.ds⟩:=by cases a;simp_all
  rw [ha]
  have hσ:(if listed.getD al false=true then σ1 else σ0)=(if al < n then σ1 else σ0):=by
   by_cases hal:al < n
   ·rw[hall al hal,if_pos rfl,if_pos hal]
   ·have:listed.getD al false=false:=by
     by_cases h2:al < l.length
     ·have:=hinv.tail al (by omega) (by rw[hsz];exact h2)
      rwa [Q40 (by rw[hinv.size,hsz];exact h2)]at this
     ·have:¬al < listed.size:=by rw[hinv.size,hsz];exact h2
      simp[this]
    rw[this,if_neg (by simp),if_neg hal]
  rw[hσ]at hi
  refine htail F w0 C0 w C a.tmps hg hi ⟨hf.1,fun k x hk=>?_⟩
  rcases Fr.get_append hk with hk|⟨_,hk⟩
  ·obtain⟨i,o,h1,h2,h3⟩:=Q6m (Fr.get_mem hk)
   have hin:i < n:=by
    have:=(List.getElem?_eq_some_iff.1 h1).1
    simp at this;omega
   rw[List.getElem?_take_of_lt hin]at h1
   exact hv i o k x hin h1 h2 h3 (hall i hin)
  ·exact hf.2 k x hk
 |succ c ih=>
  intro listed a w hcnt hinv hmid
  -- some head is not listed
  have hex:∃i,i < n/\listed.getD i false=false/\∀j,j < i->listed.getD j false=true:=by
   have hne:∃i,i < n/\listed.getD i false=false:=by
    cases hL:(List.range n).filter (fun j=>!listed.getD j false) with
    |nil=>rw[hL]at hcnt;simp at hcnt
    |cons i L=>
     have:i∈(List.range n).filter (fun j=>!listed.getD j false):=by rw[hL];simp
     obtain⟨h1,h2⟩:=List.mem_filter.1 this
     exact⟨i,List.mem_range.1 h1,by simpa using h2⟩
   obtain⟨i,hi⟩:=hne
   induction i using Nat.strongRecOn with
   |_ i ih2=>
    by_cases h:∃j,j < i/\listed.getD j false=false
    ·obtain⟨j,hj,hj2⟩:=h
     exact ih2 j hj ⟨by omega,hj2⟩
    ·exact⟨i,hi.1,hi.2,fun j hj=>(Bool.not_eq_false _).mp (fun hb=>h ⟨j,hj,hb⟩)⟩
  obtain⟨i0,hi0n,hi0u,hi0m⟩:=hex
  have hready:i0∈Region.ready .any l.toArray listed:=by
   rw[mem_ready]
   have hlt:i0 < l.length:=by omega
   refine⟨by rw[Q40 (by rw[hinv.size,hsz];exact hlt)];exact hi0u,l[i0],by simp[hlt],fun e he hb=>?_⟩
   have h1:=List.all_eq_true.1 haf (l[i0],i0) (by
    rw[List.mem_zipIdx_iff_getElem?]
    rw[List.getElem?_take_of_lt hi0n]
    simp[hlt])
   have h2:=Array.all_eq_true_iff_forall_mem.1 h1 e he
   simp only[hb,Bool.not_true,Bool.false_or,decide_eq_true_eq]at h2
   exact hi0m _ h2
  rw[show c+1+(l.length - n)=(c+(l.length - n))+1 by omega]
  refine⟨fun h=>absurd hready (by rw[h];simp),fun i hi=>?_⟩
  have hi0t:listed.getD i0 true=false:=(mem_ready.1 hready).1
  have hin:i < n:=by
   rcases Nat.lt_or_ge i n with h|h
   ·exact h
   ·exact absurd hi (tail_waits hs hc (by rw[hsz];exact hn) hinv _ i0 rfl hi0n hi0t i h)
  obtain⟨hun,o,ho,hall⟩:=mem_ready.1 hi
  have hlo:l[i]?=some o:=by simpa using ho
  obtain⟨v,hv,hds,hdo,hst⟩:=hat i o (by rw[List.getElem?_take_of_lt hin];exact hlo)
  rw[Nat.zero_add]at hst
  obtain⟨hd,C,hg,hinvw,hf,hvals⟩:=hmid
  have ha:a=⟨a.tmps,E.ds⟩:=by cases a;simp_all
  rw[ha]
  have hfr:FrOk w C E.N (depFr l vs o++frb) a.tmps:=by
   refine⟨hf.1,fun k x hk=>?_⟩
   rcases Fr.get_append hk with hk|⟨_,hk⟩
   ·have hm:=Fr.get_mem hk
    obtain⟨e,he,he2⟩:=List.mem_filterMap.1 hm
    cases hb:Region.binds .any e with
    |false=>rw[hb]at he2;cases he2
    |true=>
     rw[hb]at he2;simp only[cond_true]at he2
     cases h1:(l[e.on]?).bind (·.dst) with
     |none=>rw[h1]at he2;cases he2
     |some d=>
      cases h2:vs[e.on]? with
      |none=>rw[h1,h2]at he2;cases he2
      |some v'=>
       rw[h1,h2]at he2;cases he2
       cases h3:l[e.on]? with
       |none=>rw[h3]at h1;cases h1
       |some oe=>
        rw[h3]at h1
        have hen:e.on < n:=by
         have:=(List.getElem?_eq_some_iff.1 h2).1
         rw[←hlen]at this
         simp at this;omega
        exact hvals e.on oe k x hen h3 h1 h2 (hall e (by simpa using he) hb)
   ·exact hf.2 k x hk
  have huni:listed.getD i false=false:=getD_both hun
  have hil:i < listed.size:=by rw[hinv.size,hsz];omega
  obtain⟨d,hdd⟩:=Option.isSome_iff_exists.1 hds
  -- the step
  have hstep:HStep E l.toArray o (depFr l vs o++frb) (if listed.getD al false=true then σ1 else σ0) (if (listed.setIfInBounds i true).getD al false=true then σ1 else σ0) v:=by
   by_cases e:i=al
   ·subst e
    rw[if_pos rfl]at hst
    have h1:(listed.setIfInBounds i true).getD i false=true:=by simp[hil]
    rw[huni,h1,if_neg (by simp),if_pos rfl]
    exact hst
   ·rw[if_neg e]at hst
    rw[getD_set_ne false e]
    split
    ·exact hst.2
    ·exact hst.1
  refine Q8g hstep hinvw hfr ho fun u w' C' hgo hi' hr=>?_
  refine ih _ _ _ ?_ (hinv.set hi hin) ⟨put_defers ..,C',hg.trans hgo.toO,hi',?_,fun j oj dj vj hj hoj hdj hvj hlj=>?_⟩
  ·have h2:((List.range n).filter fun j=>!(listed.setIfInBounds i true).getD j false).length+1=((List.range n).filter fun j=>!listed.getD j false).length:=Q7g hin huni hil
   omega
  ·refine⟨by rw[hdd];simp[Act.put,hf.1],fun k x hk=>?_⟩
   obtain⟨u',hu',hr'⟩:=hf.2 k x hk
   have hne:d≠k:=by
    rintro rfl
    have h1:=List.all_eq_true.1 hfb d (List.mem_filterMap.2 ⟨o,List.mem_of_getElem? (i:=i) (by rw[List.getElem?_take_of_lt hin];exact hlo),hdd⟩)
    rw[hk]at h1;cases h1
   refine⟨u',?_,hr'.ext hgo.chg⟩
   rw[hdd]
   simp only[Act.put]
   rw[Array.getElem?_setIfInBounds_ne hne];exact hu'
  ·by_cases e:i=j
   ·subst e
    rw[hlo]at hoj;cases hoj
    rw[hdd]at hdj;cases hdj
    rw[hv]at hvj;cases hvj
    have hdN:d < a.tmps.size:=by
     rw[hf.1]
     rw[hdd]at hdo
     exact Nat.le_of_ble_eq_true (show Nat.ble (d+1) E.N=true from hdo)
    exact⟨u,by rw[hdd];simp[Act.put,hdN],hr⟩
   ·rw[getD_set_ne false e]at hlj
    obtain⟨u',hu',hr'⟩:=hvals j oj dj vj hj hoj hdj hvj hlj
    have hne:d≠dj:=by
     rintro rfl
     exact e (Q1y hdi (by rw[List.getElem?_take_of_lt hin];exact hlo) (by rw[List.getElem?_take_of_lt hj];exact hoj) hdd hdj)
    refine⟨u',?_,hr'.ext hgo.chg⟩
    rw[hdd]
    simp only[Act.put]
    rw[Array.getElem?_setIfInBounds_ne hne];exact hu'

theorem ACode.draw{id:Nat}{fr:Fr}(n al:Nat)(vs:List FV)(frb:Fr)(hm:E.P.follows .mixedOrders=true)(hB:drawB l n=true)(hfb:(dsts (l.take n)).all (fun d=>(Fr.get d frb).isNone)=true)(hsub:∀k x,Fr.get k frb=some x->Fr.get k fr=some x)
  (hH : Heads E l.toArray l vs frb σ0 σ1 al 0 (l.take n) vs) (htail : AOps E l.toArray (l.drop n) K (Q2q (l.take n) vs ++ frb) (if al < n then σ1 else σ0)) : ACode E (.region id l.toArray true) K fr σ0 := by
 intro F w0 C0 w C tmps hg hi hf
 have hn:n < l.length:=by
  simp only[drawB,Bool.and_eq_true,decide_eq_true_eq]at hB
  exact hB.1.1.1.1.1
 have hrep:∀j:Nat,(Array.replicate l.length false).getD j false=false:=getD_replicate_false _
 refine wp_region_any hm ?_
 have h:=mid_any (F:=F) (w0:=w0) (C0:=C0) hB hfb hH htail n (Array.replicate l.toArray.size false) ⟨tmps,E.ds⟩ w.drew (by
   have:∀j,(!(Array.replicate l.toArray.size false).getD j false)=true:=fun j=>by rw[getD_replicate_false];rfl
   simp only[this];rw[List.filter_eq_self.2 (fun _ _=>rfl),List.length_range])
  ⟨by simp,fun j oj _ hl=>(by rw[getD_replicate_false]at hl;cases hl),fun t _ ht=>getD_in (by simpa using ht) (getD_replicate_false _ _)⟩
  ⟨rfl,C,hg.trans (Goes.drew hi).toO,by rw[getD_replicate_false,if_neg (by simp)];exact hi.drew.2,⟨hf.1,fun k x hk=>by
    obtain⟨u,hu,hr⟩:=hf.2 k x (hsub k x hk)
    exact⟨u,hu,hr.ext hi.drew.1⟩⟩,fun i o d v _ _ _ _ hl=>by rw[getD_replicate_false]at hl;cases hl⟩
 rw[show n+(l.length - n)=l.toArray.size by simp;omega]at h
 exact h
end
end Go.Abs
namespace Go.Abs

section
variable {E:Env}{Fin:Fr->St->Prop}{k:List AItem}{fr:Fr}{σ:St}{c:Code}{id j:Nat}{J:Fr->St->Prop}
theorem cInv(h:J fr σ):Q03 E Fin (.inv J::k) .normal fr σ:=h
theorem Qm3(h:Q03 E Fin k .normal fr σ):Q03 E Fin (.blk id::k) (.exit id) fr σ:=by simpa[Q03]using h
theorem Q0s(hne:Nat.beq j id=false)(h:Q03 E Fin k (.exit j) fr σ):Q03 E Fin (.blk id::k) (.exit j) fr σ:=by simpa only [Q03,hne,cond_false]using h
end
theorem AFn.walk{P:Program}{T:Tab}{Γ:List (Nat×List AC)}{g:Nat}{fn:Func}{c:Code}{args:List FV}{ou:Outer}{Q:FV->Outer->Prop}(N:Nat)(hT:TabOk P T)(hf:P.funcs[g]?=some fn)(hb:fn.body=some c)(hname:(fn.name == "runtime.NumGoroutine")=false)
  (hN:fn.ntmps=N) (hlen:Nat.ble args.length N=true) (h:OuOk ou->ACode ⟨P,T,Γ,N,[]⟩ c (Q03 ⟨P,T,Γ,N,[]⟩ (Fin ⟨P,T,Γ,N,[]⟩ fn Q) []) (argFr 0 args) ⟨0,[],ou⟩):AFn P Γ g args ou Q:=by
 subst hN
 exact AFn.ofBody hT hf hb hname (Nat.le_of_ble_eq_true hlen) h
theorem APure.fin{E:Env}{fn:Func}{fr:Fr}{σ:St}{ou:Outer}{r r':FV}(h:aRes E.T fr σ fn.results.toList=some r)(hw:WkF r r')(hi:r'.ids isO)(ho:OuOk ou)(hs:σ.ou=ou):Fin E fn (fun x y=>x=r'/\y=ou) fr σ:=
 ⟨r,r',h,hw,hi,by rw[hs];exact ho,rfl,hs⟩

def aPut (N:Nat)(dst:Option Tmp)(r:Option (Option FV×St))(fr:Fr):Option (Fr×St):=
 match r with
 |some (some x,σ)=>match dst with
  |some d=>bif Nat.ble (d+1) N then some ((d,x)::fr,σ)else none
  |none=>some (fr,σ)
 |some (none,σ)=>match dst with
  |some _=>none
  |none=>some (fr,σ)
 |none=>none
def aAuto (E:Env)(ops:Array Oper)(o:Oper)(fr:Fr)(σ:St):Option (Fr×St):=
 match o.guard with
 |none=>aPut E.N o.dst (aOp E.T E.Γ o.op fr σ) fr
 |some (j,want)=>match Q0y ops j with
  |some d=>match Fr.get d fr,want with
   |some (.one (.lit (.bool true))),true=>aPut E.N o.dst (aOp E.T E.Γ o.op fr σ) fr
   |some (.one (.lit (.bool false))),false=>aPut E.N o.dst (aOp E.T E.Γ o.op fr σ) fr
   |some (.one (.lit (.bool true))),false=>aPut E.N o.dst (some (some (.tup []),σ)) fr
   |some (.one (.lit (.bool false))),true=>aPut E.N o.dst (some (some (.tup []),σ)) fr
   |some (.tup []),_=>aPut E.N o.dst (some (some (.tup []),σ)) fr
   |_,_=>none
  |none=>none
section
variable {E:Env}{ops:Array Oper}{rest:List Oper}{o:Oper}{K:Cont}{fr fr':Fr}{σ σ':St}{x:FV}
theorem Qai{dst:Option Tmp}{r:Option (Option FV×St)}(h:aPut E.N dst r fr=some (fr',σ')):(∃x,r=some (some x,σ')/\dstOk E.N dst=true/\fr'=putFr dst x fr)∨(r=some (none,σ')/\dst=none/\fr'=fr):=by
 unfold aPut at h
 split at h
 ·rename_i x σ2
  cases dst with
  |none=>simp only[Option.some.injEq,Prod.mk.injEq]at h;obtain⟨rfl,rfl⟩:=h;exact .inl ⟨x,rfl,rfl,rfl⟩
  |some d=>
   simp only at h
   cases hb:Nat.ble (d+1) E.N with
   |false=>rw[hb]at h;cases h
   |true=>rw[hb]at h;simp only[cond_true,Option.some.injEq,Prod.mk.injEq]at h;obtain⟨rfl,rfl⟩:=h;exact .inl ⟨x,rfl,hb,rfl⟩
 ·cases dst with
  |none=>simp only[Option.some.injEq,Prod.mk.injEq]at h;obtain⟨rfl,rfl⟩:=h;exact .inr ⟨rfl,rfl,rfl⟩
  |some d=>cases h
 ·cases h
theorem AOps.auto(hT:TabOk E.P E.T)(h:aAuto E ops o fr σ=some (fr',σ'))(hk:AOps E ops rest K fr' σ'):AOps E ops (o::rest) K fr σ:=by
 have key:∀{r:Option (Option FV×St)},aPut E.N o.dst r fr=some (fr',σ')->r=aOp E.T E.Γ o.op fr σ->∃x,AStep E o fr σ x σ'/\dstOk E.N o.dst=true/\fr'=putFr o.dst x fr:=by
  intro r h hr
  rcases Qai h with ⟨x,h1,h2,h3⟩|⟨h1,h2,h3⟩
  ·exact⟨x,AStep.ofOp hT (by rw[←hr,h1]),h2,h3⟩
  ·exact⟨.bot,AStep.ofStore hT (by rw[←hr,h1]),by rw[h2];rfl,by rw[h2];exact h3⟩
 have skip:∀{d:Nat}{j:Nat}{b:Bool}{y:FV},o.guard=some (j,b)->Q0y ops j=some d->Fr.get d fr=some y->gNo y b=true->aPut E.N o.dst (some (some (.tup []),σ)) fr=some (fr',σ')->AOps E ops (o::rest) K fr σ:=by
  intro d j b y hg hs hb hne h
  rcases Qai h with ⟨x,h1,h2,h3⟩|⟨h1,h2,h3⟩
  ·cases h1
   exact AOps.guardNo hg hs hb hne h2 (by rw[←h3];exact hk)
  ·cases h1
 unfold aAuto at h
 cases hg:o.guard with
 |none=>
  rw[hg]at h
  obtain⟨x,h1,h2,h3⟩:=key h rfl
  exact AOps.step hg h2 h1 (by rw[←h3];exact hk)
 |some jw=>
  obtain⟨j,want⟩:=jw
  rw[hg]at h
  simp only at h
  cases hs:Q0y ops j with
  |none=>rw[hs]at h;cases h
  |some d=>
   rw[hs]at h
   simp only at h
   split at h
   ·rename_i hb
    obtain⟨x,h1,h2,h3⟩:=key h rfl
    exact AOps.guardYes hg hs hb h2 h1 (by rw[←h3];exact hk)
   ·rename_i hb
    obtain⟨x,h1,h2,h3⟩:=key h rfl
    exact AOps.guardYes hg hs hb h2 h1 (by rw[←h3];exact hk)
   ·rename_i hb
    exact skip hg hs hb rfl h
   ·rename_i hb
    exact skip hg hs hb rfl h
   ·rename_i hb
    exact skip hg hs hb rfl h
   ·cases h
theorem AOps.splitG{j d:Nat}{b want:Bool}(hg:o.guard=some (j,want))(hs:Q0y ops j=some d)(hb:Fr.get d fr=some (.one (.lit (.bool b))))(ht:b=true->AOps E ops (o::rest) K ((d,.one (.lit (.bool true)))::fr) σ)(hf:b=false->AOps E ops (o::rest) K ((d,.one (.lit (.bool false)))::fr) σ):
  AOps E ops (o::rest) K fr σ:=AOps.split hb ht hf
theorem AOps.step1{d:Nat}(hgd:o.guard=none)(hdst:o.dst=some d)(hd:Nat.ble (d+1) E.N=true)(hs:AStep E o fr σ x σ')(h:AOps E ops rest K ((d,x)::fr) σ'):AOps E ops (o::rest) K fr σ:=
 AOps.step hgd (by rw[hdst];exact hd) hs (by rw[hdst];exact h)
theorem AOps.call1{d:Nat}{f:Operand}{args:Array Operand}{tys:Array TypeId}{g:Nat}{first caps:List AC}{vs as:List FV}{Q:FV->Outer->Prop}
  (hΓ:∀g cs,(g,cs)∈E.Γ->idsL isO cs) (hgd:o.guard=none) (hdst:o.dst=some d) (hd:Nat.ble (d+1) E.N=true) (ho:o.op=.call { callee:=.value f,args:=args,argTypes:=tys })
  (hf:aEval E.Γ fr f=some (.one (.fn (.func g) first caps))) (hargs:Q2p E.Γ fr args.toList=some vs) (has:first.map .one++vs++caps.map .one=as) (hids:idsF isO as) (hou:OuOk σ.ou)
  (hc:AFn E.P E.Γ g as σ.ou Q) (h:∀r ou',Q r ou'->r.ids isO->OuOk ou'->AOps E ops rest K ((d,r)::fr) { σ with ou:=ou' }):AOps E ops (o::rest) K fr σ:=by
 subst has
 exact AOps.call hΓ hgd (by rw[hdst];exact hd) ho hf hargs hids hou hc (fun r ou' h1 h2 h3=>by rw[hdst];exact h r ou' h1 h2 h3)
theorem AStep.callP{f:Operand}{args:Array Operand}{tys:Array TypeId}{g:Nat}{first caps:List AC}{vs as:List FV}{r:FV}
  (hΓ:∀g cs,(g,cs)∈E.Γ->idsL isO cs) (ho:o.op=.call { callee:=.value f,args:=args,argTypes:=tys })
  (hf:aEval E.Γ fr f=some (.one (.fn (.func g) first caps))) (hargs:Q2p E.Γ fr args.toList=some vs) (has:first.map .one++vs++caps.map .one=as) (hids:idsF isO as) (hou:OuOk σ.ou)
  (hc:APure E.P E.Γ g as r):AStep E o fr σ r σ:=by
 subst has
 exact AStep.callPure hΓ ho hf hargs hids hou hc
theorem ACode.condT{c:Operand}{x y:Code}(hc:aEval E.Γ fr c=some (.one (.lit (.bool true))))(h:ACode E x K fr σ):ACode E (.cond c x y) K fr σ:=ACode.cond hc (fun _=>h) (fun e=>by cases e)
theorem ACode.condF{c:Operand}{x y:Code}(hc:aEval E.Γ fr c=some (.one (.lit (.bool false))))(h:ACode E y K fr σ):ACode E (.cond c x y) K fr σ:=ACode.cond hc (fun e=>by cases e) (fun _=>h)
end
section
variable {E:Env}{Fin:Fr->St->Prop}{k:List AItem}{fr:Fr}{σ:St}{c x y:Code}{id j:Nat}{J:Fr->St->Prop}{ops:Array Oper}{K:Cont}{l:List Oper}
theorem o1(h:K .normal fr σ):AOps E ops [] K fr σ:=AOps.nil h
theorem o2(h:ACode E x (Q03 E Fin (.code y::k)) fr σ):ACode E (.seq x y) (Q03 E Fin k) fr σ:=ACode.seq h
theorem o3(h:AOps E l.toArray l K fr σ):ACode E (.region id l.toArray false) K fr σ:=ACode.region h
theorem o4(h:ACode E c (Q03 E Fin k) fr σ):Q03 E Fin (.code c::k) .normal fr σ:=h
theorem o5(h:Q03 E Fin k .ret fr σ):ACode E .ret (Q03 E Fin k) fr σ:=ACode.ret h
theorem o6(h:Fin fr σ):Q03 E Fin [] .ret fr σ:=h
theorem o7(h:Fin fr σ):Q03 E Fin [] .normal fr σ:=h
theorem o8(h:Q03 E Fin k .normal fr σ):ACode E .skip (Q03 E Fin k) fr σ:=ACode.skip h
theorem o9(h:ACode E c (Q03 E Fin (.blk id::k)) fr σ):ACode E (.block id c) (Q03 E Fin k) fr σ:=ACode.block h
theorem oa(h:Q03 E Fin k .normal fr σ):Q03 E Fin (.blk id::k) .normal fr σ:=h
theorem ob(h:Q03 E Fin k .ret fr σ):Q03 E Fin (.code c::k) .ret fr σ:=h
theorem oc(h:Q03 E Fin k .ret fr σ):Q03 E Fin (.blk id::k) .ret fr σ:=h
theorem od(h:Q03 E Fin k .ret fr σ):Q03 E Fin (.inv J::k) .ret fr σ:=h
theorem oe(h:Q03 E Fin k (.exit id) fr σ):ACode E (.exit id) (Q03 E Fin k) fr σ:=ACode.exit h
theorem og(h:Q03 E Fin k (.exit id) fr σ):Q03 E Fin (.code c::k) (.exit id) fr σ:=h
theorem oh(h:Q03 E Fin k .normal fr σ):Q03 E Fin (.blk id::k) (.exit id) fr σ:=Qm3 h
theorem oi(h:Q03 E Fin k (.exit id) fr σ):Q03 E Fin (.inv J::k) (.exit id) fr σ:=h
theorem oj{o:Oper}(h:AOps E ops (o::l) K fr σ):AOps E ops (o::l) K fr σ:=h
theorem ok{c:Operand}(h:ACode E (.cond c x y) K fr σ):ACode E (.cond c x y) K fr σ:=h
end
end Go.Abs
namespace Go.Abs

def Id.ren (ρ:Nat->Nat):Id->Id
 |.l k=>.l (ρ k)
 |.o k=>.o k
mutual
def AC.ren (ρ:Nat->Nat):AC->AC
 |.lit v=>.lit v
 |.any=>.any
 |.sl s es=>.sl s (renS ρ es)
 |.box cs=>.box (renL ρ cs)
 |.ptr i off=>.ptr (i.ren ρ) off
 |.gs s es i=>.gs s (renS ρ es) (i.ren ρ)
 |.arr i s off len cap=>.arr (i.ren ρ) s off len cap
 |.mp i=>.mp (i.ren ρ)
 |.fn f a b=>.fn f (renL ρ a) (renL ρ b)
 |.ifc t ag cs=>.ifc t ag (renL ρ cs)
def renS (ρ:Nat->Nat):List (List AC)->List (List AC)
 |[]=>[]
 |e::es=>renL ρ e::renS ρ es
def renL (ρ:Nat->Nat):List AC->List AC
 |[]=>[]
 |c::cs=>c.ren ρ::renL ρ cs
end
mutual
def FV.ren (ρ:Nat->Nat):FV->FV
 |.bot=>.bot
 |.one c=>.one (c.ren ρ)
 |.agg cs=>.agg (renL ρ cs)
 |.tup vs=>.tup (renF ρ vs)
def renF (ρ:Nat->Nat):List FV->List FV
 |[]=>[]
 |v::vs=>v.ren ρ::renF ρ vs
end
def AObj.ren (ρ:Nat->Nat):AObj->AObj
 |.cells cs=>.cells (renL ρ cs)
 |.map ck es=>.map ck (es.map fun x=>(x.1,x.2.1,x.2.2.ren ρ))
 |.iter m a b d=>.iter (m.ren ρ) a b d
 |.sit s p=>.sit s p
 |.tok e s u=>.tok e s u
 |.dead=>.dead
theorem Q5m(ρ:Nat->Nat):∀es:List (List AC),(renS ρ es).length=es.length
 |[]=>rfl
 |e::es=>by simp[renS,Q5m ρ es]
theorem Qet(ρ:Nat->Nat):∀es:List AC,(renL ρ es).length=es.length
 |[]=>rfl
 |e::es=>by simp[renL,Qet ρ es]
mutual
theorem AC.ren_pure(ρ:Nat->Nat):∀c:AC,c.ids isO->c.ren ρ=c
 |.lit _,_=>rfl
 |.any,_=>rfl
 |.sl s es,h=>by simp only[AC.ren];rw[Q1s ρ es h]
 |.box cs,h=>by simp only[AC.ren];rw[Q2i ρ cs h]
 |.ptr i off,h=>by cases i with|l k=>exact h.elim|o k=>rfl
 |.gs s es i,h=>by cases i with|l k=>exact h.1.elim|o k=>simp only[AC.ren];rw[Q1s ρ es h.2];rfl
 |.arr i s off len cap,h=>by cases i with|l k=>exact h.elim|o k=>rfl
 |.mp i,h=>by cases i with|l k=>exact h.elim|o k=>rfl
 |.fn f a b,h=>by simp only[AC.ren];rw[Q2i ρ a h.1,Q2i ρ b h.2]
 |.ifc t ag cs,h=>by simp only[AC.ren];rw[Q2i ρ cs h]
theorem Q1s(ρ:Nat->Nat):∀es:List (List AC),idsS isO es->renS ρ es=es
 |[],_=>rfl
 |e::es,h=>by simp only[renS];rw[Q2i ρ e h.1,Q1s ρ es h.2]
theorem Q2i(ρ:Nat->Nat):∀cs:List AC,idsL isO cs->renL ρ cs=cs
 |[],_=>rfl
 |c::cs,h=>by simp only[renL];rw[AC.ren_pure ρ c h.1,Q2i ρ cs h.2]
end

structure Ren (ρ:Nat->Nat)(p:Id->Prop)(w:World)(C C':Ctx):Prop where
 prot:∀a,C.prot a->C'.prot a
 id:∀i,p i->C.ok (i.ren ρ)->C'.ok i/\C'.blk i=C.blk (i.ren ρ)/\C'.tok i=C.tok (i.ren ρ)
section
variable {ρ:Nat->Nat}{p:Id->Prop}{w:World}{C C':Ctx}
mutual
theorem R.ren(h:Ren ρ p w C C'):∀(c:AC)(v:Value),c.ids p->R w C (c.ren ρ) v->R w C' c v
 |.lit u,v,_,hr=>hr
 |.any,v,_,hr=>hr
 |.sl s es,v,hi,hr=>by
  simp only[AC.ids,AC.ren,R,Q5m]at *
  obtain⟨a,cap,rfl,hc,h2⟩:=hr
  refine⟨a,cap,rfl,hc,?_⟩
  rcases h2 with h2|⟨ad,rfl,hs,h2⟩
  ·left
   have:=Q5m ρ es
   rw[h2]at this
   exact List.eq_nil_of_length_eq_zero (by simpa using this.symm)
  ·exact .inr ⟨ad,rfl,hs,RS.ren h s es ad hi h2⟩
 |.box cs,v,hi,hr=>by
  simp only[AC.ids,AC.ren,R]at *
  obtain⟨ad,rfl,hs,h2⟩:=hr
  exact⟨ad,rfl,hs,RL.ren h cs ad hi h2⟩
 |.ptr i off,v,hi,hr=>by
  simp only[AC.ids,AC.ren,R]at *
  obtain⟨ho,rfl⟩:=hr
  obtain⟨h1,h2,_⟩:=h.id i hi ho
  exact⟨h1,by rw[h2]⟩
 |.gs s es i,v,hi,hr=>by
  simp only[AC.ids,AC.ren,R,Q5m]at *
  obtain⟨ho,hr⟩:=hr
  obtain⟨h1,_,h3⟩:=h.id i hi.1 ho
  refine⟨h1,?_⟩
  rcases hr with ⟨rfl,he,ht⟩|⟨g,cap,rfl,hc,ht,h2⟩
  ·left
   refine⟨rfl,?_,h3.trans ht⟩
   have:=Q5m ρ es
   rw[he]at this
   exact List.eq_nil_of_length_eq_zero (by simpa using this.symm)
  ·exact .inr ⟨g,cap,rfl,hc,h3.trans ht,RS.ren h s es _ hi.2 h2⟩
 |.arr i s off len cap,v,hi,hr=>by
  simp only[AC.ids,AC.ren,R]at *
  obtain⟨ho,rfl,hc⟩:=hr
  obtain⟨h1,h2,_⟩:=h.id i hi ho
  exact⟨h1,by rw[h2],hc⟩
 |.mp i,v,hi,hr=>by
  simp only[AC.ids,AC.ren,R]at *
  obtain⟨ho,rfl⟩:=hr
  obtain⟨h1,h2,_⟩:=h.id i hi ho
  exact⟨h1,by rw[h2]⟩
 |.fn f first caps,v,hi,hr=>by
  simp only[AC.ids,AC.ren,R]at *
  obtain⟨xs,ys,rfl,h1,h2⟩:=hr
  exact⟨xs,ys,rfl,RV.ren h first xs hi.1 h1,RV.ren h caps ys hi.2 h2⟩
 |.ifc t ag cs,v,hi,hr=>by
  simp only[AC.ids,AC.ren,R]at *
  obtain⟨xs,h1,h2⟩:=hr
  exact⟨xs,RV.ren h cs xs hi h1,h2⟩
theorem RS.ren(h:Ren ρ p w C C')(s:Nat):∀(es:List (List AC))(ad:Addr),idsS p es->RS w C s (renS ρ es) ad->RS w C' s es ad
 |[],_,_,_=>by simp[RS]
 |e::es,ad,hi,hr=>by
  simp only[idsS,renS,RS,Qet]at *
  exact⟨hr.1,RL.ren h e ad hi.1 hr.2.1,RS.ren h s es _ hi.2 hr.2.2⟩
theorem RL.ren(h:Ren ρ p w C C'):∀(cs:List AC)(ad:Addr),idsL p cs->RL w C (renL ρ cs) ad->RL w C' cs ad
 |[],_,_,_=>by simp[RL]
 |c::cs,ad,hi,hr=>by
  simp only[idsL,renL,RL]at *
  obtain⟨⟨u,hu,hp,hr⟩,h2⟩:=hr
  exact⟨⟨u,hu,h.prot _ hp,R.ren h c u hi.1 hr⟩,RL.ren h cs _ hi.2 h2⟩
theorem RV.ren(h:Ren ρ p w C C'):∀(cs:List AC)(vs:List Value),idsL p cs->RV w C (renL ρ cs) vs->RV w C' cs vs
 |[],_,_,hr=>by simpa[RV,renL]using hr
 |c::cs,vs,hi,hr=>by
  simp only[idsL,renL,RV]at *
  obtain⟨u,us,rfl,h1,h2⟩:=hr
  exact⟨u,us,rfl,R.ren h c u hi.1 h1,RV.ren h cs us hi.2 h2⟩
end
mutual
theorem RF.ren(h:Ren ρ p w C C'):∀(x:FV)(v:Value),x.ids p->RF w C (x.ren ρ) v->RF w C' x v
 |.bot,v,_,_=>by simp[RF]
 |.one c,v,hi,hr=>by simp only[FV.ids,FV.ren,RF]at *;exact R.ren h c v hi hr
 |.agg cs,v,hi,hr=>by
  simp only[FV.ids,FV.ren,RF]at *
  obtain⟨xs,rfl,h2⟩:=hr
  exact⟨xs,rfl,RV.ren h cs xs hi h2⟩
 |.tup vs,v,hi,hr=>by
  simp only[FV.ids,FV.ren,RF]at *
  obtain⟨xs,rfl,h2⟩:=hr
  exact⟨xs,rfl,RFs.ren h vs xs hi h2⟩
theorem RFs.ren(h:Ren ρ p w C C'):∀(vs:List FV)(xs:List Value),idsF p vs->RFs w C (renF ρ vs) xs->RFs w C' vs xs
 |[],xs,_,hr=>by simpa[RFs,renF]using hr
 |v::vs,xs,hi,hr=>by
  simp only[idsF,renF,RFs]at *
  obtain⟨u,us,rfl,h1,h2⟩:=hr
  exact⟨u,us,rfl,RF.ren h v u hi.1 h1,RFs.ren h vs us hi.2 h2⟩
end
theorem RM.ren(h:Ren ρ p w C C'):∀(r:List (Nat×Value×FV))(es:List MapEntry),(∀x∈r,x.2.2.ids p)->RM w C (r.map fun x=>(x.1,x.2.1,x.2.2.ren ρ)) es->RM w C' r es
 |[],_,_,hr=>by simpa[RM]using hr
 |(b,k,cs)::r,es,hi,hr=>by
  simp only[List.map_cons,RM]at *
  obtain⟨e,es',rfl,hk,h1,h2⟩:=hr
  exact⟨e,es',rfl,hk,RF.ren h cs _ (hi (b,k,cs) (by simp)) h1,RM.ren h r es' (fun x hx=>hi x (by simp[hx])) h2⟩
theorem ObjOk.ren{F:Nat->Prop}{i:Id}{o:AObj}(h:Ren ρ p w C C')(hids:o.ids p)(hp:p i)(hok:C.ok (i.ren ρ))(hprot:∀a,C'.prot a->C.prot a)(ho:ObjOk w C F (i.ren ρ) (o.ren ρ)):ObjOk w C' F i o:=by
 obtain⟨_,hblk,htok⟩:=h.id i hp hok
 cases o with
 |cells cs=>
  obtain⟨xs,T,h1,h2,h3,h4⟩:=ho
  exact⟨xs,T,by rw[hblk];exact h1,by rw[hblk];exact h2,RV.ren h cs xs hids h3,fun a ha hpa=>h4 a (by rw[ha,hblk]) (hprot a hpa)⟩
 |map ck es=>
  obtain⟨ents,h1,h2,h3⟩:=ho
  exact⟨ents,by rw[hblk];exact h1,by rw[hblk];exact h2,RM.ren h es ents hids h3⟩
 |iter m since seen last=>
  obtain⟨h1,h2,h3⟩:=ho
  obtain⟨m1,m2,_⟩:=h.id m hids h3
  exact⟨by rw[hblk,m2];exact h1,by rw[hblk];exact h2,m1⟩
 |sit s p=>
  obtain⟨h1,h2⟩:=ho
  exact⟨by rw[hblk];exact h1,by rw[hblk];exact h2⟩
 |tok e s used=>
  simp only[ObjOk,AObj.ren,htok]at *
  cases ht:C.tok (i.ren ρ) with
  |none=>rw[ht]at ho;exact ho
  |some gc=>
   obtain⟨g,cap⟩:=gc
   simp only[ht]at ho ⊢
   obtain⟨xs,h1,h2,h3,h4,h6,h5⟩:=ho
   exact⟨xs,h1,h2,h3,h4,h6,fun a ha hpa=>h5 a ha (hprot a hpa)⟩
 |dead=>trivial
theorem AObj.block_ren{i:Id}{o:AObj}(h:Ren ρ p w C C')(hp:p i)(hok:C.ok (i.ren ρ)):o.block C' i=(o.ren ρ).block C (i.ren ρ):=by
 obtain⟨_,hblk,htok⟩:=h.id i hp hok
 cases o <;> simp[AObj.block,AObj.ren,hblk,htok]
end

structure LessR (ρ:Nat->Nat)(fr:Fr)(σ:St)(fr':Fr)(σ':St):Prop where
 n:∀k,k < σ'.n->ρ k < σ.n
 get:∀k x,Fr.get k fr'=some x->∃y,Fr.get k fr=some y/\WkF y (x.ren ρ)
 ids:Fr.ids (inL σ'.n) fr'
 obj:∀k o,lookL k σ'.lo=some o->lookL (ρ k) σ.lo=some (o.ren ρ)/\k < σ'.n/\o.ids (inL σ'.n)
 inj:∀k k' o o',lookL k σ'.lo=some o->lookL k' σ'.lo=some o'->ρ k=ρ k'->k=k'
 ou:σ'.ou=σ.ou
 ouOk:OuOk σ.ou
mutual
theorem FV.ren_pure(ρ:Nat->Nat):∀x:FV,x.ids isO->x.ren ρ=x
 |.bot,_=>rfl
 |.one c,h=>by simp only[FV.ren,FV.ids]at *;rw[AC.ren_pure ρ c h]
 |.agg cs,h=>by simp only[FV.ren,FV.ids]at *;rw[Q2i ρ cs h]
 |.tup vs,h=>by simp only[FV.ren,FV.ids]at *;rw[Qc4 ρ vs h]
theorem Qc4(ρ:Nat->Nat):∀vs:List FV,idsF isO vs->renF ρ vs=vs
 |[],_=>rfl
 |v::vs,h=>by simp only[renF,idsF]at *;rw[FV.ren_pure ρ v h.1,Qc4 ρ vs h.2]
end
theorem AObj.ren_pure(ρ:Nat->Nat):∀o:AObj,o.ids isO->o.ren ρ=o
 |.cells cs,h=>by simp only[AObj.ren];rw[Q2i ρ cs h]
 |.map ck es,h=>by
  simp only[AObj.ren]
  congr 1
  have:∀x∈es,(x.1,x.2.1,x.2.2.ren ρ)=x:=fun x hx=>by rw[FV.ren_pure ρ x.2.2 (h x hx)]
  rw[List.map_congr_left this];simp
 |.iter m a b d,h=>by cases m with|l k=>exact h.elim|o k=>rfl
 |.sit s p,_=>rfl
 |.tok _ _ _,_=>rfl
 |.dead,_=>rfl
theorem LessR.run{Γ:List (Nat×List AC)}{F:Nat->Prop}{w:World}{C:Ctx}{ρ:Nat->Nat}{σ σ':St}{fr fr':Fr}{N:Nat}{tmps:Array Value}(hΓ:∀g cs,(g,cs)∈Γ->idsL isO cs)(h:LessR ρ fr σ fr' σ')(hi:Inv Γ F w C σ)(hf:FrOk w C N fr tmps):
  ∃C',Goes F isO w C w C'/\Inv Γ F w C' σ'/\FrOk w C' N fr' tmps:=by
 let C':Ctx:={ prot:=C.prot,nl:=σ'.n,no:=C.no,phi:=fun i=>C.phi (i.ren ρ),tk:=fun i=>C.tk (i.ren ρ) }
 have hc:Ren ρ (inL σ'.n) w C C':=⟨fun _ h=>h,fun i hp ho=>⟨by cases i with|l k=>exact hp|o k=>exact ho,rfl,rfl⟩⟩
 have hco:Chg isO w C w C':=⟨fun _ _=>rfl,fun _ h=>h,fun i hp ho=>by cases i with|l k=>cases hp|o k=>exact⟨ho,rfl,rfl⟩⟩
 have hobj:∀i o,σ'.get i=some o->σ.get (i.ren ρ)=some (o.ren ρ)/\o.ids (inL σ'.n)/\inL σ'.n i:=by
  intro i o ho
  cases i with
  |l k=>obtain⟨h1,h2,h3⟩:=h.obj k o ho;exact⟨h1,h3,h2⟩
  |o k=>
   have:σ.ou k=some o:=by rw[←h.ou];exact ho
   have hids:=h.ouOk k o this
   exact⟨by rw[AObj.ren_pure ρ o hids];exact this,AObj.ids_mono Q8a o hids,trivial⟩
 refine⟨C',⟨Stp.refl _ _,hco,Nat.le_refl _,fun _ h=>.inl h⟩,⟨hi.base,rfl,fun g cs hm=>RG.chg hco (hΓ g cs hm) (hi.glob g cs hm),hi.prot,fun i o ho=>?_,fun i j o o' g k1 k2 k3 k4=>?_⟩,⟨hf.1,fun k x hk=>?_⟩⟩
 ·obtain⟨h1,h2,h3⟩:=hobj i o ho
  obtain⟨h4,h5⟩:=hi.obj _ _ h1
  exact⟨(hc.id i h3 h4).1,ObjOk.ren hc h2 h3 h4 (fun _ h=>h) h5⟩
 ·obtain⟨h1,h2,h3⟩:=hobj i o k1
  obtain⟨h1',h2',h3'⟩:=hobj j o' k2
  have h4:=(hi.obj _ _ h1).1
  have h4':=(hi.obj _ _ h1').1
  rw[AObj.block_ren hc h3 h4]at k3
  rw[AObj.block_ren hc h3' h4']at k4
  have hij:=hi.inj _ _ _ _ g h1 h1' k3 k4
  cases i with
  |l k=>cases j with
   |l k'=>simp only[Id.ren,Id.l.injEq]at hij;rw[h.inj k k' o o' k1 k2 hij]
   |o k'=>simp[Id.ren]at hij
  |o k=>cases j with
   |l k'=>simp[Id.ren]at hij
   |o k'=>simpa[Id.ren]using hij
 ·obtain⟨y,hy,hw⟩:=h.get k x hk
  obtain⟨u,hu,hr⟩:=hf.2 k y hy
  exact⟨u,hu,RF.ren hc x u (Fr.ids_get h.ids hk) (hw _ _ _ hr)⟩
theorem ACode.lessR{E:Env}{c:Code}{K:Cont}{fr fr':Fr}{σ σ':St}{ρ:Nat->Nat}(hΓ:∀g cs,(g,cs)∈E.Γ->idsL isO cs)(hl:LessR ρ fr σ fr' σ')(h:ACode E c K fr' σ'):ACode E c K fr σ:=by
 intro F w0 C0 w C tmps hg hi hf
 obtain⟨C',h1,h2,h3⟩:=hl.run hΓ hi hf
 exact h F w0 C0 w C' tmps (hg.trans h1) h2 h3

theorem ACode.loopR{E:Env}{c:Code}{Fin:Fr->St->Prop}{k:List AItem}{α:Type}(hΓ:∀g cs,(g,cs)∈E.Γ->idsL isO cs)(frI:α->Fr)(σI:α->St)(I:Nat->α->Prop){m:Nat}{a0:α}{ρ:Nat->Nat}{fr:Fr}{σ:St}(h0:I m a0)(hl:LessR ρ fr σ (frI a0) (σI a0))
  (round:∀m a,I m a->ACode E c (Q03 E Fin (.inv (fun fr' σ'=>∃m' a' ρ',m' < m/\I m' a'/\LessR ρ' fr' σ' (frI a') (σI a'))::k)) (frI a) (σI a)):ACode E (.loop c) (Q03 E Fin k) fr σ:=by
 refine ACode.loop (fun m fr' σ'=>∃a ρ',I m a/\LessR ρ' fr' σ' (frI a) (σI a)) (m:=m) ⟨a0,ρ,h0,hl⟩ fun m fr' σ' ⟨a,ρ',ha,hl'⟩=>ACode.lessR hΓ hl' ?_
 have:=round m a ha
 intro F w0 C0 w C tmps hg hi hf
 refine wp_mono (this F w0 C0 w C tmps hg hi hf) fun e act w' hp=>?_
 obtain⟨hd,fr2,σ2,C2,h1,h2,h3,hk⟩:=hp
 refine⟨hd,fr2,σ2,C2,h1,h2,h3,?_⟩
 cases e with
 |normal=>
  obtain⟨m',a',ρ2,h4,h5,h6⟩:=hk
  exact⟨m',h4,a',ρ2,h5,h6⟩
 |_=>exact hk

theorem Qbd{σ:St}{k:Nat}{A B:AObj}{i:Id}(hk:k≠σ.n):((σ.set (.l k) A).push B).get i=((σ.push B).set (.l k) A).get i:=by
 rw[St.get_push,St.n_set]
 by_cases e:i=.l k
 ·subst e
  rw[St.get_set_same,if_neg (by simpa using hk),St.get_set_same]
 ·rw[St.get_set_ne _ (Ne.symm e),St.get_set_ne _ (Ne.symm e),St.get_push]
theorem ACode.grow{E:Env}{c:Code}{K:Cont}{fr:Fr}{σ:St}(k off:Nat)(e:TypeId)(s:Nat){cs:List AC}(h:σ.get (.l k)=some (.cells cs))(hoff:cs[off]?=some (.lit (.slice none 0 0)))
  (hk : ACode E c K fr ((σ.set (.l k) (.cells (cs.set off (.gs s [] (.l σ.n))))).push (.tok e s 0))) : ACode E c K fr σ := by
 intro F w0 C0 w C tmps hg hi hf
 have hno:=Ctx.tokd_new C none (fun _=>False) hi.next
 have he:Ext w C w (C.tokd none (fun _=>False)):=⟨fun _ _=>rfl,fun _ h=>.inl h,fun i _ ho=>Ctx.tokd_old C _ _ ho⟩
 -- first the token
 have hi1:Inv E.Γ F w (C.tokd none (fun _=>False)) (σ.push (.tok e s 0)):=
  hi.addObj (σ.get_push _) he (by simp[Ctx.tokd,Ctx.more,St.push,hi.next]) hi.base (fun a ha=>hi.prot a (ha.resolve_right id)) (fun _ _ _ _ _ _ h=>h) (fun _ _ _ _ _ _ ha=>ha.resolve_right id) hno.1
   (by simp only[ObjOk,hno.2]) (fun i p g _ _ hb=>by simp[AObj.block,hno.2]at hb)
 have hget:(σ.push (.tok e s 0)).get (.l k)=some (.cells cs):=by
  rw[St.get_push]
  have:¬(Id.l k=Id.l σ.n):=by
   intro e'
   have:=(hi.obj _ _ h).1
   rw[e']at this
   simp only[Ctx.ok]at this
   have:=hi.next
   omega
  rw[if_neg this];exact h
 obtain⟨hok,xs,T,h1,h2,h3,h4⟩:=hi1.obj _ _ hget
 have hxs:xs[off]?=some (.slice none 0 0):=by
  have:∀(cs:List AC) (xs:List Value) (off:Nat),RV w (C.tokd none (fun _=>False)) cs xs->cs[off]?=some (.lit (.slice none 0 0))->xs[off]?=some (.slice none 0 0):=by
   intro cs
   induction cs with
   |nil=>intro xs off _ h;simp at h
   |cons c cs ih=>
    intro xs off h h'
    simp only[RV]at h
    obtain⟨u,us,rfl,g1,g2⟩:=h
    cases off with
    |zero=>simp at h';subst h';simp only[R]at g1;simp[g1.1]
    |succ off=>simpa using ih us off g2 (by simpa using h')
  exact this cs xs off h3 hoff
 have hr':RV w (C.tokd none (fun _=>False)) (cs.set off (.gs s [] (.l σ.n))) xs:=by
  have:∀(cs:List AC) (xs:List Value) (off:Nat),RV w (C.tokd none (fun _=>False)) cs xs->xs[off]?=some (.slice none 0 0)->RV w (C.tokd none (fun _=>False)) (cs.set off (.gs s [] (.l σ.n))) xs:=by
   intro cs
   induction cs with
   |nil=>intro xs off h _;simpa using h
   |cons c cs ih=>
    intro xs off h h'
    simp only[RV]at h
    obtain⟨u,us,rfl,g1,g2⟩:=h
    cases off with
    |zero=>simp at h';subst h';exact⟨_,us,rfl,⟨hno.1,.inl ⟨rfl,rfl,hno.2⟩⟩,g2⟩
    |succ off=>exact⟨u,us,rfl,g1,ih us off g2 (by simpa using h')⟩
  exact this cs xs off h3 hxs
 have hi2:=(hi1.turn (o':=.cells (cs.set off (.gs s [] (.l σ.n)))) hget rfl rfl (fun _ _=>rfl) (fun _ _ _=>rfl) rfl (fun he'=>⟨xs,T,h1,h2,hr',h4⟩)).2
 refine hk F w0 C0 w _ tmps (hg.trans ⟨Stp.refl _ _,he.weaken (fun _ _=>trivial),by simp[Ctx.tokd,Ctx.more],fun a ha=>.inl (ha.resolve_right id)⟩) ?_ (hf.ext he)
 have hkn:k≠σ.n:=by
  rintro rfl
  have h5:=(hi.obj _ _ h).1
  simp only[Ctx.ok]at h5
  have:=hi.next
  omega
 exact⟨hi2.base,by have:=hi2.next;simpa[St.push,St.set]using this,hi2.glob,hi2.prot,fun i o ho=>hi2.obj i o (by rw[←Qbd hkn];exact ho),fun i j o o' g a b c d=>hi2.inj i j o o' g (by rw[←Qbd hkn];exact a) (by rw[←Qbd hkn];exact b) c d⟩

theorem WkF.ofEq{x y:FV}(h:x=y):WkF x y:=by subst h;exact WkF.refl x
def FrSub (ρ:Nat->Nat)(fr:Fr):Fr->Prop
 |[]=>True
 |(k,x)::r=>(∃y,Fr.get k fr=some y/\WkF y (x.ren ρ))/\FrSub ρ fr r
def LoSub (ρ:Nat->Nat)(n:Nat)(lo:List (Nat×AObj)):List (Nat×AObj)->Prop
 |[]=>True
 |(k,o)::r=>(∃p,lookL (ρ k) lo=some p/\p=o.ren ρ/\k < n/\o.ids (inL n))/\LoSub ρ n lo r
theorem FrSub.get{ρ:Nat->Nat}{fr:Fr}:∀{fr':Fr},FrSub ρ fr fr'->∀k x,Fr.get k fr'=some x->∃y,Fr.get k fr=some y/\WkF y (x.ren ρ)
 |[],_,k,x,h=>by cases h
 |(j,v)::r,hs,k,x,h=>by
  simp only[FrSub]at hs
  simp only[Fr.get]at h
  by_cases e:j=k
  ·subst e;simp at h;subst h;exact hs.1
  ·rw[Q09 e]at h;exact FrSub.get hs.2 k x h
theorem LoSub.get{ρ:Nat->Nat}{n:Nat}{lo:List (Nat×AObj)}:∀{lo':List (Nat×AObj)},LoSub ρ n lo lo'->∀k o,lookL k lo'=some o->lookL (ρ k) lo=some (o.ren ρ)/\k < n/\o.ids (inL n)
 |[],_,k,x,h=>by cases h
 |(j,v)::r,hs,k,x,h=>by
  simp only[LoSub]at hs
  simp only[lookL]at h
  by_cases e:j=k
  ·subst e;simp at h;subst h
   obtain⟨⟨p,h1,h2,h3,h4⟩,_⟩:=hs
   exact⟨by rw[h1,h2],h3,h4⟩
  ·rw[Q09 e]at h;exact LoSub.get hs.2 k x h
theorem Q83{k:Nat}{o:AObj}:∀{lo:List (Nat×AObj)},lookL k lo=some o->k∈lo.map (·.1)
 |[],h=>by cases h
 |(j,v)::r,h=>by
  simp only[lookL]at h
  by_cases e:j=k
  ·subst e;simp
  ·rw[Q09 e]at h;exact List.mem_cons_of_mem _ (Q83 h)
def injOn (ρ:Nat->Nat)(l:List Nat):Bool:=l.all fun a=>l.all fun b=>!(Nat.beq (ρ a) (ρ b))||Nat.beq a b
theorem LessR.of{ρ:Nat->Nat}{fr fr':Fr}{σ σ':St}(h1:(List.range σ'.n).all (fun k=>Nat.blt (ρ k) σ.n)=true)(h2:FrSub ρ fr fr')(h3:Fr.ids (inL σ'.n) fr')(h4:LoSub ρ σ'.n σ.lo σ'.lo)(h5:injOn ρ (σ'.lo.map (·.1))=true)(h6:σ'.ou=σ.ou)(h7:OuOk σ.ou):
  LessR ρ fr σ fr' σ':=by
 refine⟨fun k hk=>?_,h2.get,h3,h4.get,fun k k' o o' hk hk' e=>?_,h6,h7⟩
 ·have:=List.all_eq_true.1 h1 k (List.mem_range.2 hk)
  exact Nat.le_of_ble_eq_true (show Nat.ble (ρ k+1) σ.n=true from this)
 ·have h8:=List.all_eq_true.1 (List.all_eq_true.1 h5 k (Q83 hk)) k' (Q83 hk')
  rw[e]at h8
  simp at h8
  exact h8

def Qk4 (fr:Fr):Fr->Prop
 |[]=>True
 |(k,x)::r=>Fr.get k fr=some x/\Qk4 fr r
theorem Qk4.nil{fr:Fr}:Qk4 fr []:=trivial
theorem FrSub.nil{ρ:Nat->Nat}{fr:Fr}:FrSub ρ fr []:=trivial
theorem FrSub.cons{ρ:Nat->Nat}{fr r:Fr}{k:Nat}{x y:FV}(h:Fr.get k fr=some y)(hw:WkF y (x.ren ρ))(hr:FrSub ρ fr r):FrSub ρ fr ((k,x)::r):=⟨⟨y,h,hw⟩,hr⟩
theorem LoSub.nil{ρ:Nat->Nat}{n:Nat}{lo:List (Nat×AObj)}:LoSub ρ n lo []:=trivial
theorem LoSub.cons{ρ:Nat->Nat}{n k:Nat}{lo r:List (Nat×AObj)}{o p:AObj}(h:lookL (ρ k) lo=some p)(he:p=o.ren ρ)(hk:Nat.blt k n=true)(hi:o.ids (inL n))(hr:LoSub ρ n lo r):LoSub ρ n lo ((k,o)::r):=
 ⟨⟨p,h,he,Nat.le_of_ble_eq_true (show Nat.ble (k+1) n=true from hk),hi⟩,hr⟩
def aHead (E:Env)(ops:Array Oper)(o:Oper)(fr:Fr)(σ:St):Option (FV×St):=
 match o.guard with
 |none=>match aOp E.T E.Γ o.op fr σ with
  |some (some x,σ')=>some (x,σ')
  |_=>none
 |some (j,want)=>match Q0y ops j with
  |some d=>match Fr.get d fr,want with
   |some (.one (.lit (.bool true))),true=>match aOp E.T E.Γ o.op fr σ with
    |some (some x,σ')=>some (x,σ')
    |_=>none
   |some (.one (.lit (.bool false))),false=>match aOp E.T E.Γ o.op fr σ with
    |some (some x,σ')=>some (x,σ')
    |_=>none
   |some (.one (.lit (.bool true))),false=>some (.tup [],σ)
   |some (.one (.lit (.bool false))),true=>some (.tup [],σ)
   |some (.tup []),_=>some (.tup [],σ)
   |_,_=>none
  |none=>none
section
variable {E:Env}{ops:Array Oper}{o:Oper}{fr:Fr}{σ σ':St}{v:FV}
theorem HStep.auto(hT:TabOk E.P E.T)(h:aHead E ops o fr σ=some (v,σ')):HStep E ops o fr σ σ' v:=by
 have key:(match aOp E.T E.Γ o.op fr σ with|some (some x,σ')=>some (x,σ')|_=>none)=some (v,σ')->AStep E o fr σ v σ':=by
  intro h
  split at h
  ·rename_i x σ2 h1
   simp only[Option.some.injEq,Prod.mk.injEq]at h
   obtain⟨rfl,rfl⟩:=h
   exact AStep.ofOp hT h1
  ·cases h
 unfold aHead at h
 unfold HStep
 cases hg:o.guard with
 |none=>rw[hg]at h;exact key h
 |some jw=>
  obtain⟨j,want⟩:=jw
  rw[hg]at h
  simp only at h ⊢
  cases hs:Q0y ops j with
  |none=>rw[hs]at h;cases h
  |some d=>
   rw[hs]at h
   simp only at h
   split at h
   ·rename_i hb;exact⟨d,_,rfl,hb,.inl ⟨rfl,key h⟩⟩
   ·rename_i hb;exact⟨d,_,rfl,hb,.inl ⟨rfl,key h⟩⟩
   ·rename_i hb;cases h;exact⟨d,_,rfl,hb,.inr ⟨rfl,rfl,rfl⟩⟩
   ·rename_i hb;cases h;exact⟨d,_,rfl,hb,.inr ⟨rfl,rfl,rfl⟩⟩
   ·rename_i hb;cases h;exact⟨d,_,rfl,hb,.inr ⟨rfl,rfl,rfl⟩⟩
   ·cases h
theorem HStep.plain(hg:o.guard=none)(h:AStep E o fr σ v σ'):HStep E ops o fr σ σ' v:=by unfold HStep;rw[hg];exact h
theorem HStep.guarded{j d:Nat}{b:Bool}(hg:o.guard=some (j,b))(hj:Q0y ops j=some d)(hb:Fr.get d fr=some (.one (.lit (.bool b))))(h:AStep E o fr σ v σ'):HStep E ops o fr σ σ' v:=by
 unfold HStep;rw[hg];exact⟨d,_,hj,hb,.inl ⟨rfl,h⟩⟩
variable {l os:List Oper}{vs ws:List FV}{frb:Fr}{σ0 σ1:St}{al k:Nat}
theorem Heads.nil:Heads E ops l vs frb σ0 σ1 al k [] []:=trivial
theorem Heads.op(h1:o.dst.isSome=true)(h2:dstOk E.N o.dst=true)(hne:Nat.beq k al=false)(s0:HStep E ops o (depFr l vs o++frb) σ0 σ0 v)(s1:HStep E ops o (depFr l vs o++frb) σ1 σ1 v)(h:Heads E ops l vs frb σ0 σ1 al (k+1) os ws):Heads E ops l vs frb σ0 σ1 al k (o::os) (v::ws):=by
 have:¬k=al:=by rintro rfl;simp at hne
 exact⟨⟨h1,h2,by rw[if_neg this];exact⟨s0,s1⟩⟩,h⟩
theorem Heads.alloc(h1:o.dst.isSome=true)(h2:dstOk E.N o.dst=true)(he:Nat.beq k al=true)(s:HStep E ops o (depFr l vs o++frb) σ0 σ1 v)(h:Heads E ops l vs frb σ0 σ1 al (k+1) os ws):Heads E ops l vs frb σ0 σ1 al k (o::os) (v::ws):=
 ⟨⟨h1,h2,by rw[if_pos (Nat.eq_of_beq_eq_true he)];exact s⟩,h⟩
theorem Heads.call{f:Operand}{args:Array Operand}{tys:Array TypeId}{g:Nat}{first caps:List AC}{us as:List FV}(hΓ:∀g cs,(g,cs)∈E.Γ->idsL isO cs)(h1:o.dst.isSome=true)(h2:dstOk E.N o.dst=true)(hne:Nat.beq k al=false)(hgd:o.guard=none)
  (ho:o.op=.call { callee:=.value f,args:=args,argTypes:=tys }) (hf:aEval E.Γ (depFr l vs o++frb) f=some (.one (.fn (.func g) first caps))) (hargs:Q2p E.Γ (depFr l vs o++frb) args.toList=some us) (has:first.map .one++us++caps.map .one=as) (hids:idsF isO as)
  (hou0:OuOk σ0.ou) (hou1:OuOk σ1.ou) (hc:APure E.P E.Γ g as v) (h:Heads E ops l vs frb σ0 σ1 al (k+1) os ws):Heads E ops l vs frb σ0 σ1 al k (o::os) (v::ws):=
 Heads.op h1 h2 hne (HStep.plain hgd (AStep.callP hΓ ho hf hargs has hids hou0 hc)) (HStep.plain hgd (AStep.callP hΓ ho hf hargs has hids hou1 hc)) h
end
end Go.Abs
