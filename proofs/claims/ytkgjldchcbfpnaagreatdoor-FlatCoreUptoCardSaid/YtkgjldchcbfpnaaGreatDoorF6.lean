/- The abstract layer, part Bb: interface values, type assertions, panics, pointers that are compared; functions that may panic. No condition of its own. -/
import Derived.Test.YtkgjldchcbfpnaaGreatDoorF5
import Derived.Laws.Build
import Derived.Recover
import Derived.Laws.Bits64b
set_option maxRecDepth 10000
set_option linter.unusedVariables false
set_option linter.unusedSimpArgs false
namespace Go.Abs
section
variable {E:Env}{o:Oper}{fr:Fr}{σ:St}{t t' T0 el yt:TypeId}{x y:Operand}
theorem AStep.mkIfc{c:AC}(hc:E.P.concrete t=true)(ho:o.op=.makeInterface t x)(hx:aEval E.Γ fr x=some (.one c)):AStep E o fr σ (.one (.ifc t false [c])) σ:=by
 refine AStep.quiet fun F w C tmps hi hf=>?_
 have h1:=Q00 (a:=⟨tmps,E.ds⟩) hi hf hx
 refine⟨.iface t (Act.eval ⟨tmps,E.ds⟩ x),?_,[Act.eval ⟨tmps,E.ds⟩ x],⟨_,[],rfl,h1,rfl⟩,.inr ⟨rfl,_,rfl,rfl⟩⟩
 unfold execOp
 simp[ho,run_makeInterface w t _ hc]
theorem AStep.mkIfcA{cs:List AC}(hc:E.P.concrete t=true)(ho:o.op=.makeInterface t x)(hx:aEval E.Γ fr x=some (.agg cs)):AStep E o fr σ (.one (.ifc t true cs)) σ:=by
 refine AStep.quiet fun F w C tmps hi hf=>?_
 obtain⟨xs,h1,h2⟩:=Q00 (a:=⟨tmps,E.ds⟩) hi hf hx
 refine⟨.iface t (.agg xs.toArray),?_,xs,h2,.inl ⟨rfl,rfl⟩⟩
 unfold execOp
 simp[ho,h1,run_makeInterface w t _ hc]
theorem Q4e{P:Program}(w:World){d:TypeDesc}(hd:P.underlying t=some d)(hc:P.concrete t=true)(v:Value):(Instr.typeAssert (.iface t v) T0 t true).run P w=.ok (.tuple #[v,.bool true]) w:=by
 unfold Program.concrete at hc
 rw[hd]at hc
 cases d <;> first|(simp at hc;done)|simp[Instr.typeAssert,run_underlying hd]
theorem Q8o{P:Program}(w:World){d:TypeDesc}(hd:P.underlying t=some d)(hc:P.concrete t=true){u z:Value}(hu:u=.nilIface∨∃t' v,u=.iface t' v/\t'≠t)(hz:(zeroValue t).run P w=.ok z w):
  (Instr.typeAssert u T0 t true).run P w=.ok (.tuple #[z,.bool false]) w:=by
 unfold Program.concrete at hc
 rw[hd]at hc
 rcases hu with rfl|⟨t',v,rfl,hne⟩
 ·cases d <;> first|(simp at hc;done)|simp[Instr.typeAssert,run_underlying hd,hz]
 ·cases d <;> first|(simp at hc;done)|simp[Instr.typeAssert,run_underlying hd,hz,hne]
theorem Q2m{P:Program}(hc:P.concrete t=true):∃d,P.underlying t=some d:=by
 unfold Program.concrete at hc
 cases h:P.underlying t with
 |none=>rw[h]at hc;cases hc
 |some d=>exact⟨d,rfl⟩
theorem AStep.assertYes{c:AC}(hc:E.P.concrete t=true)(ho:o.op=.typeAssert x T0 t true)(hx:aEval E.Γ fr x=some (.one (.ifc t false [c]))):AStep E o fr σ (.tup [.one c,.one (.lit (.bool true))]) σ:=by
 refine AStep.quiet fun F w C tmps hi hf=>?_
 obtain⟨d,hd⟩:=Q2m hc
 obtain⟨xs,h1,h2⟩:=Q00 (a:=⟨tmps,E.ds⟩) hi hf hx
 simp only[RV]at h1
 obtain⟨u,us,rfl,h3,rfl⟩:=h1
 rcases h2 with ⟨h2,_⟩|⟨_,v,hv,h2⟩
 ·cases h2
 ·cases hv
  refine⟨.tuple #[u,.bool true],?_,[u,.bool true],rfl,u,[.bool true],rfl,h3,.bool true,[],rfl,⟨rfl,rfl⟩,rfl⟩
  unfold execOp
  simp[ho,h2,Q4e w hd hc]
theorem AStep.assertNo{c:AC}{z:Value}(hc:E.P.concrete t=true)(ho:o.op=.typeAssert x T0 t true)(hz:∀w,(zeroValue t).run E.P w=.ok z w)(h1z:z.oneCell'=true)(hx:aEval E.Γ fr x=some (.one c))
  (hno : c = .lit .nilIface ∨ ∃ t' ag cs, c = .ifc t' ag cs /\ Nat.beq t' t = false) : AStep E o fr σ (.tup [.one (.lit z), .one (.lit (.bool false))]) σ := by
 refine AStep.quiet fun F w C tmps hi hf=>?_
 obtain⟨d,hd⟩:=Q2m hc
 have h1:=Q00 (a:=⟨tmps,E.ds⟩) hi hf hx
 refine⟨.tuple #[z,.bool false],?_,[z,.bool false],rfl,z,[.bool false],rfl,⟨rfl,h1z⟩,.bool false,[],rfl,⟨rfl,rfl⟩,rfl⟩
 have hu:Act.eval ⟨tmps,E.ds⟩ x=.nilIface∨∃t' v,Act.eval ⟨tmps,E.ds⟩ x=.iface t' v/\t'≠t:=by
  rcases hno with rfl|⟨t',ag,cs,rfl,hne⟩
  ·exact .inl h1.1
  ·obtain⟨xs,_,h2⟩:=h1
   have hne':t'≠t:=fun e=>by subst e;simp at hne
   rcases h2 with ⟨_,h2⟩|⟨_,v,_,h2⟩
   ·exact .inr ⟨t',_,h2,hne'⟩
   ·exact .inr ⟨t',_,h2,hne'⟩
 unfold execOp
 simp[ho,Q8o w hd hc hu (hz w)]
theorem AStep.neNilBox{cs:List AC}(ht:E.P.underlying t=some (.pointer el))(ho:o.op=.binOp .neq t x y yt)(hx:aEval E.Γ fr x=some (.one (.box cs)))(hy:aEval E.Γ fr y=some (.one (.lit (.pointer none)))):AStep E o fr σ (.one (.lit (.bool true))) σ:=by
 refine AStep.quiet fun F w C tmps hi hf=>⟨.bool true,?_,rfl,rfl⟩
 obtain⟨ad,h1,_⟩:=Q00 (a:=⟨tmps,E.ds⟩) hi hf hx
 have h2:=Q00 (a:=⟨tmps,E.ds⟩) hi hf hy
 simp only[RF,R]at h2
 unfold execOp
 simp only[ho,h1,h2.1,eqGuard_at_pointer,Sem.run_bind,Sem.run_pure,Result.andThen_ok]
 simp[binOp,Q11 _ _ _ _ ht]
theorem AStep.eqNilBox{cs:List AC}(ht:E.P.underlying t=some (.pointer el))(ho:o.op=.binOp .eql t x y yt)(hx:aEval E.Γ fr x=some (.one (.box cs)))(hy:aEval E.Γ fr y=some (.one (.lit (.pointer none)))):AStep E o fr σ (.one (.lit (.bool false))) σ:=by
 refine AStep.quiet fun F w C tmps hi hf=>⟨.bool false,?_,rfl,rfl⟩
 obtain⟨ad,h1,_⟩:=Q00 (a:=⟨tmps,E.ds⟩) hi hf hx
 have h2:=Q00 (a:=⟨tmps,E.ds⟩) hi hf hy
 simp only[RF,R]at h2
 unfold execOp
 simp only[ho,h1,h2.1,eqGuard_at_pointer,Sem.run_bind,Sem.run_pure,Result.andThen_ok]
 simp[binOp,Q11 _ _ _ _ ht]
end

def AFnP (P:Program)(Γ:List (Nat×List AC))(g:Nat)(args:List FV)(ou:Outer)(Q:FV->Outer->Prop)(QP:List PanicEntry->Outer->Prop):Prop :=
 (∀ (as' : Array Value) (w : World), (callFunc g as').run P w = .ok (.enter g as') w) /\
 ∀(F:Nat->Prop) (w:World) (C:Ctx) (cargs:List Value),C.nl=0->Inv Γ F w C ⟨0,[],ou⟩->RFs w C args cargs->Calls P g cargs.toArray w fun e w'=>
  (∃v r ou' C',e=.returned v/\Goes F isO w C w' C'/\C'.nl=0/\Inv Γ F w' C' ⟨0,[],ou'⟩/\RF w' C' r v/\Q r ou') ∨
  (∃ps ou' C',e=.panicked ps/\Goes F isO w C w' C'/\C'.nl=0/\Inv Γ F w' C' ⟨0,[],ou'⟩/\QP ps ou')
theorem AFn.toP{P:Program}{Γ:List (Nat×List AC)}{g:Nat}{args:List FV}{ou:Outer}{Q:FV->Outer->Prop}{QP:List PanicEntry->Outer->Prop}(h:AFn P Γ g args ou Q):AFnP P Γ g args ou Q QP:=
 ⟨h.1,fun F w C cargs h0 hi hr=>(h.2 F w C cargs h0 hi hr).mono fun e w' hh=>.inl hh⟩
theorem AFnP.mono{P:Program}{Γ:List (Nat×List AC)}{g:Nat}{args:List FV}{ou:Outer}{Q Q':FV->Outer->Prop}{QP QP':List PanicEntry->Outer->Prop}(h:AFnP P Γ g args ou Q QP)(hq:∀r ou',Q r ou'->Q' r ou')(hp:∀ps ou',QP ps ou'->QP' ps ou'):AFnP P Γ g args ou Q' QP':=
 ⟨h.1,fun F w C cargs h0 hi hr=>(h.2 F w C cargs h0 hi hr).mono fun e w' hh=>hh.elim (fun ⟨v,r,ou',C',a,b,c,d,f,g⟩=>.inl ⟨v,r,ou',C',a,b,c,d,f,hq _ _ g⟩) (fun ⟨ps,ou',C',a,b,c,d,g⟩=>.inr ⟨ps,ou',C',a,b,c,d,hp _ _ g⟩)⟩
theorem AOps.panicI{E:Env}{ops:Array Oper}{rest:List Oper}{o:Oper}{K:Cont}{fr:Fr}{σ:St}{x:Operand}{t:TypeId}{ag:Bool}{cs:List AC}(hgd:o.guard=none)(ho:o.op=.panic x)(hx:aEval E.Γ fr x=some (.one (.ifc t ag cs)))
  (h:∀(w:World) (C:Ctx) (v:Value),R w C (.ifc t ag cs) v->K (.panic [{ v:=v,recovered:=false }]) fr σ):AOps E ops (o::rest) K fr σ:=by
 intro F w0 C0 w C tmps hg hi hf
 refine wpList_plain hgd fun N' hN=>?_
 have h1:=Q00 (a:=⟨tmps,E.ds⟩) hi hf hx
 have hv:∃u,Act.eval ⟨tmps,E.ds⟩ x=.iface t u:=by
  obtain⟨xs,_,⟨_,h2⟩|⟨_,v,_,h2⟩⟩:=h1 <;> exact⟨_,h2⟩
 obtain⟨u,hu⟩:=hv
 have hrun:(execOp (Act.eval ⟨tmps,E.ds⟩) o).run E.P w=.halt (.panic (.iface t u)) w:=by
  unfold execOp
  simp only[ho,hu]
  simp[Instr.panic,goPanic]
 unfold Oper.wp
 rw[hrun,Oper.upon_panic]
 exact⟨rfl,fr,σ,C,hg,hi,hf,h w C _ (by rw[←hu];exact h1)⟩
theorem AOps.callP{E:Env}{ops:Array Oper}{rest:List Oper}{o:Oper}{K:Cont}{fr:Fr}{σ:St}{f:Operand}{args:Array Operand}{tys:Array TypeId}{g:Nat}{first caps:List AC}{vs us:List FV}{Q:FV->Outer->Prop}{QP:List PanicEntry->Outer->Prop}
  (hΓ:∀g cs,(g,cs)∈E.Γ->idsL isO cs) (hc:AFnP E.P E.Γ g us σ.ou Q QP) (hgd:o.guard=none) (hd:dstOk E.N o.dst=true) (ho:o.op=.call { callee:=.value f,args:=args,argTypes:=tys })
  (hf:aEval E.Γ fr f=some (.one (.fn (.func g) first caps))) (hargs:Q16 E.Γ fr args.toList=some vs) (has:first.map .one++vs++caps.map .one=us) (hou:OuOk σ.ou) (hids:idsF isO us)
  (hp:∀ps ou',QP ps ou'->OuOk ou'->K (.panic ps) fr { σ with ou:=ou' })
  (h:∀r ou',Q r ou'->r.ids isO->OuOk ou'->AOps E ops rest K (putFr o.dst r fr) { σ with ou:=ou' }):AOps E ops (o::rest) K fr σ:=by
 subst has
 intro F w0 C0 w C tmps hg hi hfr
 refine wpList_plain hgd fun N' hN=>?_
 have hcallee:=Q00 (a:=⟨tmps,E.ds⟩) hi hfr hf
 simp only[RF,R]at hcallee
 obtain⟨xs,ys,hfv,hx,hy⟩:=hcallee
 have hvs:=Q14 (a:=⟨tmps,E.ds⟩) hi hfr hargs
 have hall:RFs w C (first.map .one++vs++caps.map .one) (xs++args.toList.map (Act.eval ⟨tmps,E.ds⟩)++ys):=(RFs.ones hx |>.append hvs).append (RFs.ones hy)
 have hrun:(execOp (Act.eval ⟨tmps,E.ds⟩) o).run E.P w=.ok (.enter g (xs++args.toList.map (Act.eval ⟨tmps,E.ds⟩)++ys).toArray) w:=by
  unfold execOp
  simp only[ho,resolve,Sem.run_bind,hfv,Deferred.ofValue,Sem.run_pure,Result.andThen_ok,invoke,hc.1]
  congr 2
  apply Array.ext'
  simp
 unfold Oper.wp
 rw[hrun,Oper.upon_enter]
 have hc1:Chg isO w C w { C with nl:=0 }:=⟨fun _ _=>rfl,fun _ h=>h,fun i hp ho=>⟨by cases i with|l k=>cases hp|o k=>exact ho,rfl,rfl⟩⟩
 refine (hc.2 (Q1w w C σ.ou) w { C with nl:=0 } _ rfl (hi.forCallee hou hΓ) (RFs.chg hc1 _ _ hids hall)).mono fun e w' hh=>?_
 rcases hh with ⟨v,r,ou',C',he,hgo,h0,hi',hr,hQ⟩|⟨ps,ou',C',he,hgo,h0,hi',hQ⟩
 ·subst he
  obtain⟨hb1,hb2,hb3⟩:=hi.back hgo h0 hi'
  refine hN _ _ ?_
  rw[Q1h]
  have hrid:r.ids isO:=FV.ids_mono (Q31 h0) r (RF.idsOk r v hr)
  exact h r ou' hQ hrid (OuOk.of_inv hi' h0) F w0 C0 w' _ _ (hg.trans hb1.toO) hb2 (Q0v (hfr.ext hb1.chg) hd (RF.chg hb3 r v hrid hr))
 ·subst he
  obtain⟨hb1,hb2,hb3⟩:=hi.back hgo h0 hi'
  exact⟨rfl,fr,_,_,hg.trans hb1.toO,hb2,hfr.ext hb1.chg,hp ps ou' hQ (OuOk.of_inv hi' h0)⟩
theorem AFnP.ofBody{P:Program}{T:Tab}{Γ:List (Nat×List AC)}{g:Nat}{fn:Func}{c:Code}{args:List FV}{ou:Outer}{Q:FV->Outer->Prop}{QP:List PanicEntry->Outer->Prop}(hT:TabOk P T)(hΓ:∀g cs,(g,cs)∈Γ->idsL isO cs)(hf:P.funcs[g]?=some fn)(hb:fn.body=some c)(hname:(fn.name == "runtime.NumGoroutine")=false)
  (hlen : args.length <= fn.ntmps)
  (h : OuOk ou -> ACode ⟨P, T, Γ, fn.ntmps, []⟩ c (Q02 ⟨P, T, Γ, fn.ntmps, []⟩ (Fin ⟨P, T, Γ, fn.ntmps, []⟩ fn Q) [.pan fun ps σ => OuOk σ.ou /\ QP ps σ.ou]) (argFr 0 args) ⟨0, [], ou⟩) : AFnP P Γ g args ou Q QP := by
 refine⟨fun as' w=>?_,fun F w C cargs h0 hi hr=>?_⟩
 ·simp[callFunc,hf,hb]
  simpa using hname
 ·have hcl:cargs.length=args.length:=by
   have:∀(vs:List FV) (xs:List Value),RFs w C vs xs->xs.length=vs.length:=by
    intro vs
    induction vs with
    |nil=>intro xs h;simp only[RFs]at h;simp[h]
    |cons v vs ih=>intro xs h;simp only[RFs]at h;obtain⟨u,us,rfl,_,h2⟩:=h;simp[ih us h2]
   exact this _ _ hr
  refine calls_of_wp hf hb ?_
  have hfr:FrOk w C fn.ntmps (argFr 0 args) (cargs.toArray++Array.replicate (fn.ntmps - cargs.toArray.size) undef):=by
   refine⟨by simp;omega,fun k x hk=>?_⟩
   obtain⟨_,h2⟩:=Q41 args 0 k x hk
   simp only[Nat.sub_zero]at h2
   obtain⟨u,hu,hru⟩:=RFs.get hr h2
   refine⟨u,?_,hru⟩
   have hlt:k < cargs.length:=(List.getElem?_eq_some_iff.1 hu).1
   rw[Array.getElem?_append_left (by simpa using hlt)]
   simpa using hu
  refine wp_mono (h (OuOk.of_inv hi h0) F w C w C _ (Goes.refl _ _ _ _) hi hfr) fun e a w' hp=>?_
  obtain⟨hd,fr',σ',C',hgo,hi',hf',hk⟩:=hp
  have hc:Chg isO w' C' w' { C' with nl:=0 }:=⟨fun _ _=>rfl,fun _ h=>h,fun i hp ho=>⟨by cases i with|l k=>cases hp|o k=>exact ho,rfl,rfl⟩⟩
  have hc0:∀i,C.ok i->isO i:=Q31 h0
  have drop:OuOk σ'.ou->Inv Γ F w' { C' with nl:=0 } ⟨0,[],σ'.ou⟩:=fun h4=>by
   refine⟨hi'.base,rfl,fun g cs hm=>?_,hi'.prot,fun i o ho=>?_,fun i j o o' g k1 k2 k3 k4=>?_⟩
   ·have:=hi'.glob g cs hm
    exact RG.chg hc (hΓ g cs hm) this
   ·cases i with
    |l k=>cases ho
    |o k=>
     obtain⟨k1,k2⟩:=hi'.obj (.o k) o ho
     exact⟨k1,k2.ctx isO (h4 k o ho) trivial k1 hc (fun _ h=>h) (fun _ h=>h)⟩
   ·cases i with
    |l k=>cases k1
    |o k=>cases j with
     |l k=>cases k2
     |o k'=>
      have e1:=AObj.block_ctx (o:=o) isO (i:=.o k) trivial (hi'.obj (.o k) o k1).1 hc
      have e2:=AObj.block_ctx (o:=o') isO (i:=.o k') trivial (hi'.obj (.o k') o' k2).1 hc
      exact hi'.inj (.o k) (.o k') o o' g k1 k2 (by rw[←e1];exact k3) (by rw[←e2];exact k4)
  have fin:Fin ⟨P,T,Γ,fn.ntmps,[]⟩ fn Q fr' σ'->a.defers=[]/\∃v,(results fn a.tmps).run P w'=.ok v w'/\((∃v' r ou' C',Ending.returned v=.returned v'/\Goes F isO w C w' C'/\C'.nl=0/\Inv Γ F w' C' ⟨0,[],ou'⟩/\RF w' C' r v'/\Q r ou') ∨
    (∃ps ou' C',Ending.returned v=.panicked ps/\Goes F isO w C w' C'/\C'.nl=0/\Inv Γ F w' C' ⟨0,[],ou'⟩/\QP ps ou')):=by
   rintro⟨r,r',h1,h2,h3,h4,h5⟩
   obtain⟨u,hu,hru⟩:=Qbp (tmps:=a.tmps) hT hi' hf' h1
   exact⟨hd,u,hu,.inl ⟨u,r',σ'.ou,{ C' with nl:=0 },rfl,⟨hgo.stp,hgo.chg.trans hc,hgo.no,hgo.newp⟩,rfl,drop h4,RF.chg hc r' u h3 (h2 _ _ _ hru),h5⟩⟩
  cases e with
  |normal=>exact fin hk
  |ret=>exact fin hk
  |panic ps=>exact⟨hd,.inr ⟨ps,σ'.ou,{ C' with nl:=0 },rfl,⟨hgo.stp,hgo.chg.trans hc,hgo.no,hgo.newp⟩,rfl,drop hk.1,hk.2⟩⟩
  |exit id=>exact hk.elim
  |goto l=>exact hk.elim
  |outgrown=>exact hk.elim
theorem AFnP.walk{P:Program}{T:Tab}{Γ:List (Nat×List AC)}{g:Nat}{fn:Func}{c:Code}{args:List FV}{ou:Outer}{Q:FV->Outer->Prop}{QP:List PanicEntry->Outer->Prop}(N:Nat)(hT:TabOk P T)(hΓ:∀g cs,(g,cs)∈Γ->idsL isO cs)(hf:P.funcs[g]?=some fn)(hb:fn.body=some c)(hname:(fn.name == "runtime.NumGoroutine")=false)
  (hN:fn.ntmps=N) (hlen:Nat.ble args.length N=true) (h:OuOk ou->ACode ⟨P,T,Γ,N,[]⟩ c (Q02 ⟨P,T,Γ,N,[]⟩ (Fin ⟨P,T,Γ,N,[]⟩ fn Q) [.pan fun ps σ=>OuOk σ.ou/\QP ps σ.ou]) (argFr 0 args) ⟨0,[],ou⟩):AFnP P Γ g args ou Q QP:=by
 subst hN
 exact AFnP.ofBody hT hΓ hf hb hname (Nat.le_of_ble_eq_true hlen) h
theorem Q0u.callP{E:Env}{o:Oper}{fr:Fr}{σ:St}{f:Operand}{args:Array Operand}{tys:Array TypeId}{g:Nat}{first caps:List AC}{vs us:List FV}{Q:FV->Outer->Prop}{QP:List PanicEntry->Outer->Prop}{P:FV->St->Prop}{PP:List PanicEntry->St->Prop}
  (hΓ:∀g cs,(g,cs)∈E.Γ->idsL isO cs) (hc:AFnP E.P E.Γ g us σ.ou Q QP) (ho:o.op=.call { callee:=.value f,args:=args,argTypes:=tys })
  (hf:aEval E.Γ fr f=some (.one (.fn (.func g) first caps))) (hargs:Q16 E.Γ fr args.toList=some vs) (has:first.map .one++vs++caps.map .one=us) (hids:idsF isO us) (hou:OuOk σ.ou)
  (h:∀r ou',Q r ou'->r.ids isO->OuOk ou'->P r { σ with ou:=ou' }) (hp:∀ps ou',QP ps ou'->OuOk ou'->PP ps { σ with ou:=ou' }):Q0u E o fr σ P PP:=by
 subst has
 intro F w C tmps hi hfr next Qx hk hpk
 have hcallee:=Q00 (a:=⟨tmps,E.ds⟩) hi hfr hf
 simp only[RF,R]at hcallee
 obtain⟨xs,ys,hfv,hx,hy⟩:=hcallee
 have hvs:=Q14 (a:=⟨tmps,E.ds⟩) hi hfr hargs
 have hall:RFs w C (first.map .one++vs++caps.map .one) (xs++args.toList.map (Act.eval ⟨tmps,E.ds⟩)++ys):=(RFs.ones hx |>.append hvs).append (RFs.ones hy)
 have hrun:(execOp (Act.eval ⟨tmps,E.ds⟩) o).run E.P w=.ok (.enter g (xs++args.toList.map (Act.eval ⟨tmps,E.ds⟩)++ys).toArray) w:=by
  unfold execOp
  simp only[ho,resolve,Sem.run_bind,hfv,Deferred.ofValue,Sem.run_pure,Result.andThen_ok,invoke,hc.1]
  congr 2
  apply Array.ext'
  simp
 unfold Oper.wp
 rw[hrun,Oper.upon_enter]
 have hc1:Chg isO w C w { C with nl:=0 }:=⟨fun _ _=>rfl,fun _ h=>h,fun i hp ho=>⟨by cases i with|l k=>cases hp|o k=>exact ho,rfl,rfl⟩⟩
 refine (hc.2 (Q1w w C σ.ou) w { C with nl:=0 } _ rfl (hi.forCallee hou hΓ) (RFs.chg hc1 _ _ hids hall)).mono fun e w' hh=>?_
 rcases hh with ⟨v,r,ou',C',he,hgo,h0,hi',hr,hQ⟩|⟨ps,ou',C',he,hgo,h0,hi',hQ⟩
 ·subst he
  obtain⟨hb1,hb2,hb3⟩:=hi.back hgo h0 hi'
  have hrid:r.ids isO:=FV.ids_mono (Q31 h0) r (RF.idsOk r v hr)
  exact hk _ _ _ r _ (h r ou' hQ hrid (OuOk.of_inv hi' h0)) hb1 hb2 (RF.chg hb3 r v hrid hr)
 ·subst he
  obtain⟨hb1,hb2,hb3⟩:=hi.back hgo h0 hi'
  exact hpk _ _ _ _ (hp ps ou' hQ (OuOk.of_inv hi' h0)) hb1 hb2
theorem Q38{P:Program}{t:TypeId}{z:Value}(h:((P.info? t).bind (·.zero))=some z)(w:World):(zeroValue t).run P w=.ok z w:=by
 cases hi:P.info? t with
 |none=>rw[hi]at h;cases h
 |some i=>rw[hi]at h;simp only[Option.bind_some]at h;simp[zeroValue,typeInfo,hi,h]
end Go.Abs
namespace Go.Abs
def adI (a b:Int):Int:=bI (BitVec.ofInt 64 a &&& BitVec.ofInt 64 b)
theorem AStep.and{E:Env}{o:Oper}{fr:Fr}{σ:St}{t yt:TypeId}{x y:Operand}{a b:Int}(ho:o.op=.binOp .and t x y yt)(hx:aEval E.Γ fr x=some (.one (.lit (.int .i64 a))))(hy:aEval E.Γ fr y=some (.one (.lit (.int .i64 b)))):AStep E o fr σ (.one (.lit (.int .i64 (adI a b)))) σ:=by
 refine AStep.quiet fun F w C tmps hi hf=>⟨.int .i64 (adI a b),?_,rfl,rfl⟩
 have h1:=Q00 (a:=⟨tmps,E.ds⟩) hi hf hx
 have h2:=Q00 (a:=⟨tmps,E.ds⟩) hi hf hy
 simp only[RF,R]at h1 h2
 unfold execOp
 simp only[ho,h1.1,h2.1,eqGuard_at_int,Sem.run_bind,Sem.run_pure,Result.andThen_ok]
 rfl
theorem Qj3(a:Int):adI a 2147483647=a % 2147483648:=by
 have h1:(BitVec.ofInt 64 a &&& BitVec.ofInt 64 2147483647).toNat=(a % 2147483648).toNat:=by
  rw[BitVec.toNat_and,show (BitVec.ofInt 64 2147483647).toNat=2 ^ 31 - 1 by decide,Nat.and_two_pow_sub_one_eq_mod]
  rw[BitVec.toNat_ofInt]
  have h2:a % 2147483648=a % 18446744073709551616 % 2147483648:=(Int.emod_emod_of_dvd a (by decide)).symm
  rw[h2]
  have h3:0<=a % 18446744073709551616:=Int.emod_nonneg _ (by decide)
  rw[show ((2 ^ 64:Nat):Int)=18446744073709551616 by decide]
  omega
 unfold adI bI
 rw[h1]
 have h4:0<=a % 2147483648:=Int.emod_nonneg _ (by decide)
 have h5:a % 2147483648 < 2147483648:=Int.emod_lt_of_pos _ (by decide)
 simp[IntKind.wrap,IntKind.signed,IntKind.bits,Int.bmod]
 omega
end Go.Abs
namespace Go.Abs
section
variable {E:Env}{l:List Oper}{frb:Fr}{K:Cont}
theorem AAny.drawSt{fr:Fr}{σ0:St}{hd tl:List Oper}{vs0:List FV}{op:Oper}(hT:TabOk E.P E.T)(n p:Nat)(cs:List (Nat×FV))(s1:St)(hm:E.P.follows .mixedOrders=true)(hB:drawB l n=true)(hsp:Q1y n l=some (hd,tl))(hfb:Fr.woO (dsts hd) fr=some frb)
  (hqb:Q50 l [p] n=true) (hrun0:Q0g E l.toArray l frb σ0 ((p,.bot)::cs) 0 hd []=some vs0) (hrun1:Q0g E l.toArray l frb s1 ((p,.bot)::cs) 0 hd []=some vs0) (hop:l[p]?=some op) (hpn:Nat.blt p n=true) (hgd:op.guard=none) (hd0:dstOk E.N op.dst=true)
  (hcs0:Q0a E l frb σ0 vs0 cs) (hcs1:Q0a E l frb s1 vs0 cs) (hst:AStep E op (Q0d l (mixV [p] vs0 (fC [p] [])) op++frb) σ0 .bot s1) (htail:AOps E l.toArray tl K (Q0f (mixV [p] vs0 (fC [p] [.bot])) 0 hd++frb) s1):AAny E l K fr σ0:=by
 refine AAny.drawC2 hT n [p] cs (fun vs σ=>match vs with|[]=>σ=σ0|[v]=>v=.bot/\σ=s1|_=>False) hm hB hsp hfb (by simp) rfl hqb rfl hrun0 ?_ ?_ (fun i hi=>by simp at hi;subst hi;exact Nat.le_of_ble_eq_true (show Nat.ble (i+1) n=true from hpn)) ?_ ?_
 ·intro vs σ h
  match vs with
  |[]=>subst h;exact hrun0
  |[_]=>obtain⟨_,rfl⟩:=h;exact hrun1
  |_::_::_=>exact h.elim
 ·intro vs σ h
  match vs with
  |[]=>subst h;exact hcs0
  |[_]=>obtain⟨_,rfl⟩:=h;exact hcs1
  |_::_::_=>exact h.elim
 ·intro vs σ h i o hi ho
  match vs with
  |[]=>
   subst h;cases hi;rw[hop]at ho;cases ho
   exact⟨hd0,.inl (.inl ⟨.bot,s1,by unfold HStep;rw[hgd];exact hst,rfl,rfl⟩)⟩
  |_::_=>cases hi
 ·intro vs σ hl h
  match vs with
  |[_]=>obtain⟨rfl,rfl⟩:=h;exact htail
  |[]=>cases hl
  |_::_::_=>exact h.elim
theorem ACode.drawSt{id:Nat}{fr:Fr}{σ0:St}{hd tl:List Oper}{vs0:List FV}{op:Oper}(hT:TabOk E.P E.T)(n p:Nat)(cs:List (Nat×FV))(s1:St)(hm:E.P.follows .mixedOrders=true)(hB:drawB l n=true)(hsp:Q1y n l=some (hd,tl))(hfb:Fr.woO (dsts hd) fr=some frb)
  (hqb:Q50 l [p] n=true) (hrun0:Q0g E l.toArray l frb σ0 ((p,.bot)::cs) 0 hd []=some vs0) (hrun1:Q0g E l.toArray l frb s1 ((p,.bot)::cs) 0 hd []=some vs0) (hop:l[p]?=some op) (hpn:Nat.blt p n=true) (hgd:op.guard=none) (hd0:dstOk E.N op.dst=true)
  (hcs0:Q0a E l frb σ0 vs0 cs) (hcs1:Q0a E l frb s1 vs0 cs) (hst:AStep E op (Q0d l (mixV [p] vs0 (fC [p] [])) op++frb) σ0 .bot s1) (htail:AOps E l.toArray tl K (Q0f (mixV [p] vs0 (fC [p] [.bot])) 0 hd++frb) s1):ACode E (.region id l.toArray true) K fr σ0:=AAny.code hm (AAny.drawSt hT n p cs s1 hm hB hsp hfb hqb hrun0 hrun1 hop hpn hgd hd0 hcs0 hcs1 hst htail)
theorem AAny.drawCS{fr:Fr}{σ0:St}{hd tl:List Oper}{vs0:List FV}{oc oa ob op:Oper}(hT:TabOk E.P E.T)(n pc a b p:Nat)(X Y:FV)(cs:List (Nat×FV))(P P2:FV->St->Prop)(hm:E.P.follows .mixedOrders=true)(hB:drawB l n=true)(hsp:Q1y n l=some (hd,tl))(hfb:Fr.woO (dsts hd) fr=some frb)
  (hnd:[pc,a,b,p].Nodup) (hch:chainB l [pc,a,b,p]=true) (hqb:Q50 l [pc,a,b,p] n=true) (hrun0:Q0g E l.toArray l frb σ0 ([(pc,.bot),(a,.bot),(b,.bot),(p,.bot)]++cs) 0 hd []=some vs0) (hoc:l[pc]?=some oc) (hoa:l[a]?=some oa) (hob:l[b]?=some ob) (hop:l[p]?=some op)
  (hn:([pc,a,b,p].all fun i=>Nat.blt i n)=true) (hds:([oc,oa,ob,op].all fun o=>dstOk E.N o.dst&&o.guard.isNone)=true)
  (hrunP:∀v σ,P v σ->Q0g E l.toArray l frb σ ([(pc,.bot),(a,.bot),(b,.bot),(p,.bot)]++cs) 0 hd []=some vs0) (hrunQ:∀v σ,P2 v σ->Q0g E l.toArray l frb σ ([(pc,.bot),(a,.bot),(b,.bot),(p,.bot)]++cs) 0 hd []=some vs0)
  (hcs0:Q0a E l frb σ0 vs0 cs) (hcsP:∀v σ,P v σ->Q0a E l frb σ vs0 cs) (hcsQ:∀v σ,P2 v σ->Q0a E l frb σ vs0 cs)
  (hcall:Q0u E oc (Q0d l (mixV [pc,a,b,p] vs0 (fC [pc,a,b,p] [])) oc++frb) σ0 P (fun ps σ'=>K (.panic ps) frb σ'))
  (ha:∀v σ,P v σ->AStep E oa (Q0d l (mixV [pc,a,b,p] vs0 (fC [pc,a,b,p] [v])) oa++frb) σ X σ)
  (hb:∀v σ,P v σ->AStep E ob (Q0d l (mixV [pc,a,b,p] vs0 (fC [pc,a,b,p] [v,X])) ob++frb) σ Y σ)
  (hst:∀v σ,P v σ->∃σ',P2 v σ'/\AStep E op (Q0d l (mixV [pc,a,b,p] vs0 (fC [pc,a,b,p] [v,X,Y])) op++frb) σ .bot σ')
  (htail:∀v σ,P2 v σ->AOps E l.toArray tl K (Q0f (mixV [pc,a,b,p] vs0 (fC [pc,a,b,p] [v,X,Y,.bot])) 0 hd++frb) σ):AAny E l K fr σ0:=by
 simp only[List.all_cons,List.all_nil,Bool.and_true,Bool.and_eq_true]at hds hn
 obtain⟨⟨d1,g1⟩,⟨d2,g2⟩,⟨d3,g3⟩,d4,g4⟩:=hds
 have g1:=Option.isNone_iff_eq_none.1 g1
 have g2:=Option.isNone_iff_eq_none.1 g2
 have g3:=Option.isNone_iff_eq_none.1 g3
 have g4:=Option.isNone_iff_eq_none.1 g4
 refine AAny.drawC2 hT n [pc,a,b,p] cs (fun vs σ=>match vs with|[]=>σ=σ0|[v]=>P v σ|[v,x]=>P v σ/\x=X|[v,x,y]=>P v σ/\x=X/\y=Y|[v,x,y,z]=>P2 v σ/\x=X/\y=Y/\z=.bot|_=>False) hm hB hsp hfb hnd hch hqb rfl hrun0 ?_ ?_ (fun i hi=>?_) ?_ ?_
 ·intro vs σ h
  match vs with
  |[]=>subst h;exact hrun0
  |[_]=>exact hrunP _ _ h
  |[_,_]=>exact hrunP _ _ h.1
  |[_,_,_]=>exact hrunP _ _ h.1
  |[_,_,_,_]=>exact hrunQ _ _ h.1
  |_::_::_::_::_::_=>exact h.elim
 ·intro vs σ h
  match vs with
  |[]=>subst h;exact hcs0
  |[_]=>exact hcsP _ _ h
  |[_,_]=>exact hcsP _ _ h.1
  |[_,_,_]=>exact hcsP _ _ h.1
  |[_,_,_,_]=>exact hcsQ _ _ h.1
  |_::_::_::_::_::_=>exact h.elim
 ·simp at hi
  rcases hi with rfl|rfl|rfl|rfl
  ·exact Nat.le_of_ble_eq_true (show Nat.ble (i+1) n=true from hn.1)
  ·exact Nat.le_of_ble_eq_true (show Nat.ble (i+1) n=true from hn.2.1)
  ·exact Nat.le_of_ble_eq_true (show Nat.ble (i+1) n=true from hn.2.2.1)
  ·exact Nat.le_of_ble_eq_true (show Nat.ble (i+1) n=true from hn.2.2.2)
 ·intro vs σ h i o hi ho
  match vs with
  |[]=>
   subst h;cases hi;rw[hoc]at ho;cases ho
   exact⟨d1,.inr ⟨g1,hcall⟩⟩
  |[v]=>
   cases hi;rw[hoa]at ho;cases ho
   exact⟨d2,.inl (.inl ⟨X,σ,by unfold HStep;rw[g2];exact ha v σ h,h,rfl⟩)⟩
  |[v,_]=>
   obtain⟨h,rfl⟩:=h
   cases hi;rw[hob]at ho;cases ho
   exact⟨d3,.inl (.inl ⟨Y,σ,by unfold HStep;rw[g3];exact hb v σ h,h,rfl,rfl⟩)⟩
  |[v,_,_]=>
   obtain⟨h,rfl,rfl⟩:=h
   cases hi;rw[hop]at ho;cases ho
   obtain⟨σ',h2,h3⟩:=hst v σ h
   exact⟨d4,.inl (.inl ⟨.bot,σ',by unfold HStep;rw[g4];exact h3,h2,rfl,rfl,rfl⟩)⟩
  |_::_::_::_::_=>cases hi
 ·intro vs σ hl h
  match vs with
  |[v,_,_,_]=>obtain⟨h,rfl,rfl,rfl⟩:=h;exact htail v σ h
  |[]|[_]|[_,_]|[_,_,_]=>cases hl
  |_::_::_::_::_::_=>exact h.elim
theorem ACode.drawCS{id:Nat}{fr:Fr}{σ0:St}{hd tl:List Oper}{vs0:List FV}{oc oa ob op:Oper}(hT:TabOk E.P E.T)(n pc a b p:Nat)(X Y:FV)(cs:List (Nat×FV))(P P2:FV->St->Prop)(hm:E.P.follows .mixedOrders=true)(hB:drawB l n=true)(hsp:Q1y n l=some (hd,tl))(hfb:Fr.woO (dsts hd) fr=some frb)
  (hnd:[pc,a,b,p].Nodup) (hch:chainB l [pc,a,b,p]=true) (hqb:Q50 l [pc,a,b,p] n=true) (hrun0:Q0g E l.toArray l frb σ0 ([(pc,.bot),(a,.bot),(b,.bot),(p,.bot)]++cs) 0 hd []=some vs0) (hoc:l[pc]?=some oc) (hoa:l[a]?=some oa) (hob:l[b]?=some ob) (hop:l[p]?=some op)
  (hn:([pc,a,b,p].all fun i=>Nat.blt i n)=true) (hds:([oc,oa,ob,op].all fun o=>dstOk E.N o.dst&&o.guard.isNone)=true)
  (hrunP:∀v σ,P v σ->Q0g E l.toArray l frb σ ([(pc,.bot),(a,.bot),(b,.bot),(p,.bot)]++cs) 0 hd []=some vs0) (hrunQ:∀v σ,P2 v σ->Q0g E l.toArray l frb σ ([(pc,.bot),(a,.bot),(b,.bot),(p,.bot)]++cs) 0 hd []=some vs0)
  (hcs0:Q0a E l frb σ0 vs0 cs) (hcsP:∀v σ,P v σ->Q0a E l frb σ vs0 cs) (hcsQ:∀v σ,P2 v σ->Q0a E l frb σ vs0 cs)
  (hcall:Q0u E oc (Q0d l (mixV [pc,a,b,p] vs0 (fC [pc,a,b,p] [])) oc++frb) σ0 P (fun ps σ'=>K (.panic ps) frb σ'))
  (ha:∀v σ,P v σ->AStep E oa (Q0d l (mixV [pc,a,b,p] vs0 (fC [pc,a,b,p] [v])) oa++frb) σ X σ)
  (hb:∀v σ,P v σ->AStep E ob (Q0d l (mixV [pc,a,b,p] vs0 (fC [pc,a,b,p] [v,X])) ob++frb) σ Y σ)
  (hst:∀v σ,P v σ->∃σ',P2 v σ'/\AStep E op (Q0d l (mixV [pc,a,b,p] vs0 (fC [pc,a,b,p] [v,X,Y])) op++frb) σ .bot σ')
  (htail:∀v σ,P2 v σ->AOps E l.toArray tl K (Q0f (mixV [pc,a,b,p] vs0 (fC [pc,a,b,p] [v,X,Y,.bot])) 0 hd++frb) σ):ACode E (.region id l.toArray true) K fr σ0:=AAny.code hm (AAny.drawCS hT n pc a b p X Y cs P P2 hm hB hsp hfb hnd hch hqb hrun0 hoc hoa hob hop hn hds hrunP hrunQ hcs0 hcsP hcsQ hcall ha hb hst htail)
theorem Q0u.ofR{o:Oper}{fr:Fr}{σ:St}{P:FV->St->Prop}{PP:List PanicEntry->St->Prop}(h:Q0y E o fr σ P):Q0u E o fr σ P PP:=fun F w C tmps hi hf next Q hk _=>h F w C tmps hi hf next Q hk
end
end Go.Abs
namespace Go.Abs
theorem Q07{p:Id->Prop}{s cap:Nat}(es:List (List AC))(h:idsS p es):(AObj.cells (vec s es cap)).ids p:=by
 show idsL p (vec s es cap)
 refine Q1u.2 fun c hc=>?_
 unfold vec at hc
 rcases List.mem_append.1 hc with hc|hc
 ·obtain⟨x,hx,hcx⟩:=List.mem_flatten.1 hc
  exact Q1u.1 (Q1d.1 h x hx) c hcx
 ·obtain⟨_,rfl⟩:=List.mem_replicate.1 hc
  trivial
theorem Q0i{ou:Outer}{k:Nat}{o:AObj}(h:OuOk ou)(ho:o.ids isO):OuOk (updO ou k o):=fun j x hx=>by
 by_cases e:k=j
 ·subst e;rw[Q03]at hx;cases hx;exact ho
 ·rw[Q05 _ e]at hx;exact h j x hx
end Go.Abs
namespace Go.Abs
theorem RV.flat{w:World}{C:Ctx}:∀{es:List (List AC)}{xss:List (List Value)},es.length=xss.length->(∀(i:Nat)(e:List AC)(x:List Value),es[i]?=some e->xss[i]?=some x->RV w C e x)->RV w C es.flatten xss.flatten
 |[],[],_,_=>by simp[RV]
 |[],_::_,h,_=>by simp at h
 |_::_,[],h,_=>by simp at h
 |e::es,x::xss,h,k=>by
  simp only[List.flatten_cons]
  have h1:=k 0 e x rfl rfl
  have h2:=RV.flat (es:=es) (xss:=xss) (by simpa using h) fun i e' x' he hx=>k (i+1) e' x' (by simpa using he) (by simpa using hx)
  exact RV.append h1 h2
theorem AStep.buildOwn{E:Env}{o:Oper}{fr:Fr}{σ:St}{t:TypeId}{ti tj:TI}{s len:Nat}{parts:Array (Nat×Operand)}{es:List (List AC)}(hT:TabOk E.P E.T)(ho:o.op=.buildSlice t len parts)(ht:Tab.get t E.T=some ti)(hk:Nat.beq ti.kind 2=true)(hj:Tab.get ti.elem E.T=some tj)(hs:tj.size=s)
  (he:Q63 E.Γ fr s 0 parts.toList=some es) (hc:(Nat.beq es.length len&&Nat.ble (len * s) 16777216&&!(Nat.beq len 0))=true):AStep E o fr σ (.one (.arr (.l σ.n) s 0 len len)) (σ.push (.cells es.flatten)):=by
 intro F w C tmps hi hf next Q hk2
 subst hs
 simp only[Bool.and_eq_true]at hc
 have e1:es.length=len:=Nat.eq_of_beq_eq_true hc.1.1
 have e2:len * tj.size<=16777216:=Nat.le_of_ble_eq_true hc.1.2
 have e3:len≠0:=by intro e;subst e;simp at hc
 obtain⟨g1,g2,xss,g3,g4⟩:=Q7d (a:=⟨tmps,E.ds⟩) hi hf tj.size he
 have hlen:xss.length=es.length:=by rw[g3];simpa using g2
 have hxs:∀x∈xss,x.length=tj.size:=by
  intro x hx
  obtain⟨i,hil,hie⟩:=List.getElem_of_mem hx
  have he:es[i]?=some (es[i]'(by omega)):=List.getElem?_eq_getElem (by omega)
  obtain⟨k1,k2⟩:=g4 i _ x he (by rw[List.getElem?_eq_getElem hil,hie])
  rw[RV.length k2,k1]
 have hrun:=Q4d (hT t ti ht) (Nat.eq_of_beq_eq_true hk) (hT _ _ hj) (n:=len) (vs:=parts.toList.map (fun p=>Act.eval ⟨tmps,E.ds⟩ p.2)) (xss:=xss) (by rw[g3];simp) (by omega) hxs e2 e3 w
 have hparts:Array.map (fun p:Nat×Operand=>(p.1,Act.eval ⟨tmps,E.ds⟩ p.2)) parts=((List.range' 0 len).zip (parts.toList.map (fun p=>Act.eval ⟨tmps,E.ds⟩ p.2))).toArray:=by
  apply Array.ext'
  rw[show len=parts.toList.length by rw[←e1,g2],←g1]
  simp[List.zip_map']
 have hrv:RV w C es.flatten xss.flatten:=RV.flat hlen.symm fun i e x h5 h6=>(g4 i e x h5 h6).2
 obtain⟨C',hE,hno,hnp,hin,hok,hblk⟩:=hi.newObj (cs:=es.flatten) (xs:=xss.flatten) hrv ti.elem
 unfold Oper.wp
 have hrun2:(execOp (Act.eval ⟨tmps,E.ds⟩) o).run E.P w=.ok (.value (.slice (some ⟨w.heap.size,0,none⟩) len len)) (w.alloc (.cells xss.flatten.toArray ti.elem)):=by
  unfold execOp
  simp only[ho,Sem.run_bind]
  rw[show (Array.map (fun x:Nat×Operand=>match x with|(i,x)=>(i,Act.eval ⟨tmps,E.ds⟩ x)) parts)=Array.map (fun p:Nat×Operand=>(p.1,Act.eval ⟨tmps,E.ds⟩ p.2)) parts from rfl,hparts,hrun]
  rfl
 rw[hrun2,Oper.upon_value]
 exact hk2 _ _ C' ⟨Stp.alloc hi.base _ _,hE,Nat.le_of_eq hno.symm,hnp⟩ hin (by simp only[RF,R];exact⟨hok,by rw[hblk,Nat.zero_mul],Nat.le_refl _⟩)
theorem LendF.agg{σ:St}:∀{xs ys:List AC},Q5b σ (xs.map .one) (ys.map .one)->LendF σ (.agg xs) (.agg ys):=fun {xs ys} h Γ F w C v hi hr=>by
 simp only[RF]at hr ⊢
 obtain⟨vs,rfl,hv⟩:=hr
 refine⟨vs,rfl,?_⟩
 have h1:=h Γ F w C vs hi (RFs.ones hv)
 have:∀(ys:List AC) (vs:List Value),RFs w (C.still w) (ys.map .one) vs->RV w (C.still w) ys vs:=by
  intro ys
  induction ys with
  |nil=>intro vs h;simp only[List.map_nil,RFs]at h;subst h;simp[RV]
  |cons y ys ih=>
   intro vs h
   simp only[List.map_cons,RFs,RF]at h
   obtain⟨u,us,rfl,h1,h2⟩:=h
   exact⟨u,us,rfl,h1,ih us h2⟩
 exact this _ _ h1
theorem ACode.wkObj{E:Env}{c:Code}{K:Cont}{fr:Fr}{σ:St}(i:Id){cs cs':List AC}(hg:σ.get i=some (.cells cs))(hw:∀(w:World)(C:Ctx)(xs:List Value),RV w C cs xs->RV w C cs' xs)(h:ACode E c K fr (σ.set i (.cells cs'))):ACode E c K fr σ:=by
 intro F w0 C0 w C tmps hgo hi hf
 obtain⟨hok,xs,T,o1,o2,o3,o4⟩:=hi.obj i _ hg
 obtain⟨he,hi'⟩:=hi.turn hg (g:=C.blk i) rfl (w':=w) rfl (fun _ _=>rfl) (fun _ _ _=>rfl) (o':=.cells cs') rfl fun _=>⟨xs,T,o1,o2,hw w C xs o3,o4⟩
 exact h F w0 C0 w C tmps hgo hi' hf
end Go.Abs
namespace Go.Abs
end Go.Abs
namespace Go.Abs
theorem Q98{P:Program}{T:Tab}{Γ:List (Nat×List AC)}{N:Nat}{fn:Func}{ds:List Deferred}{Q:FV->Outer->Prop}{F:Nat->Prop}{w w':World}{C C':Ctx}{ou:Outer}{fr':Fr}{σ':St}{tmps:Array Value}(hT:TabOk P T)(h0:C.nl=0)(hi:Inv Γ F w C ⟨0,[],ou⟩)
  (hgo:Goes F isO w C w' C') (hi':Inv Γ F w' C' σ') (hf':FrOk w' C' N fr' tmps) (h:Fin ⟨P,T,Γ,N,ds⟩ fn Q fr' σ'):∃v,(results fn tmps).run P w'=.ok v w'/\(∃v' r ou' C',Ending.returned v=.returned v'/\Goes F isO w C w' C'/\C'.nl=0/\Inv Γ F w' C' ⟨0,[],ou'⟩/\RF w' C' r v'/\Q r ou'):=by
 obtain⟨r,r',h1,h2,h3,h4,h5⟩:=h
 obtain⟨u,hu,hru⟩:=Qbp (tmps:=tmps) hT hi' hf' h1
 have hc:Chg isO w' C' w' { C' with nl:=0 }:=⟨fun _ _=>rfl,fun _ h=>h,fun i hp ho=>⟨by cases i with|l k=>cases hp|o k=>exact ho,rfl,rfl⟩⟩
 have hc0:∀i,C.ok i->isO i:=Q31 h0
 refine⟨u,hu,u,r',σ'.ou,{ C' with nl:=0 },rfl,⟨hgo.stp,hgo.chg.trans hc,hgo.no,hgo.newp⟩,rfl,⟨hi'.base,rfl,fun g cs hm=>?_,hi'.prot,fun i o ho=>?_,fun i j o o' g k1 k2 k3 k4=>?_⟩,RF.chg hc r' u h3 (h2 _ _ _ hru),h5⟩
 ·have:=hi.glob g cs hm
  have hids:=Q13 hc0 cs (RL.idsOk cs _ this.rl)
  exact RG.chg (hgo.chg.trans hc) hids this
 ·cases i with
  |l k=>cases ho
  |o k=>
   obtain⟨k1,k2⟩:=hi'.obj (.o k) o ho
   exact⟨k1,k2.ctx isO (h4 k o ho) trivial k1 hc (fun _ h=>h) (fun _ h=>h)⟩
 ·cases i with
  |l k=>cases k1
  |o k=>cases j with
   |l k=>cases k2
   |o k'=>
    have e1:=AObj.block_ctx (o:=o) isO (i:=.o k) trivial (hi'.obj (.o k) o k1).1 hc
    have e2:=AObj.block_ctx (o:=o') isO (i:=.o k') trivial (hi'.obj (.o k') o' k2).1 hc
    exact hi'.inj (.o k) (.o k') o o' g k1 k2 (by rw[←e1];exact k3) (by rw[←e2];exact k4)
theorem RV.len{w:World}{C:Ctx}:∀{cs:List AC}{xs:List Value},RV w C cs xs->xs.length=cs.length
 |[],xs,h=>by simp only[RV]at h;simp[h]
 |c::cs,xs,h=>by simp only[RV]at h;obtain⟨u,us,rfl,_,h2⟩:=h;simp[RV.len h2]
theorem AFn.ofDefer{P:Program}{T:Tab}{Γ:List (Nat×List AC)}{g gd i1 d5:Nat}{fn:Func}{r0 rest:Code}{o0 o1:Oper}{args:List FV}{ou:Outer}{Q:FV->Outer->Prop}{fr1:Fr}{σ1:St}{first caps:List AC}(hT:TabOk P T)(hf:P.funcs[g]?=some fn)(hb:fn.body=some (.seq r0 (.seq (.region i1 #[o0,o1] false) rest)))(hname:(fn.name == "runtime.NumGoroutine")=false)
  (hlen : args.length <= fn.ntmps) (h0 : OuOk ou -> ACode ⟨P, T, Γ, fn.ntmps, []⟩ r0 (fun e fr σ => e = .normal /\ fr = fr1 /\ σ = σ1) (argFr 0 args) ⟨0, [], ou⟩)
  (hg0 : o0.guard = none) (hd0 : o0.dst = some d5) (hdl : d5 < fn.ntmps) (hs0 : AStep ⟨P, T, Γ, fn.ntmps, []⟩ o0 fr1 σ1 (.one (.fn (.func gd) first caps)) σ1)
  (hg1 : o1.guard = none) (hd1 : o1.dst = none) (ho1 : o1.op = .defer { callee := .value (.tmp d5), args := #[], argTypes := #[] })
  (hdef : ∀ (us : Array Value) (w : World), (callFunc gd us).run P w = .ok (.enter gd us) w /\ (us.size = first.length + caps.length -> CallsD P gd us .returning w fun e u' w' => (∃ v, e = .returned v) /\ u' = .returning /\ w' = w))
  (hrest : OuOk ou -> ∀ ds, ACode ⟨P, T, Γ, fn.ntmps, ds⟩ rest (Q02 ⟨P, T, Γ, fn.ntmps, ds⟩ (Fin ⟨P, T, Γ, fn.ntmps, ds⟩ fn Q) []) ((d5, .one (.fn (.func gd) first caps)) :: fr1) σ1) : AFn P Γ g args ou Q := by
 refine⟨fun vs0 w=>?_,fun F w C cargs h0' hi hr=>?_⟩
 ·simp[callFunc,hf,hb]
  simpa using hname
 ·have hcl:cargs.length=args.length:=by
   have:∀(vs:List FV) (xs:List Value),RFs w C vs xs->xs.length=vs.length:=by
    intro vs
    induction vs with
    |nil=>intro xs h;simp only[RFs]at h;simp[h]
    |cons v vs ih=>intro xs h;simp only[RFs]at h;obtain⟨u,us,rfl,_,h2⟩:=h;simp[ih us h2]
   exact this _ _ hr
  refine calls_of_wp_defers hf hb ?_
  have hfr:FrOk w C fn.ntmps (argFr 0 args) (cargs.toArray++Array.replicate (fn.ntmps - cargs.toArray.size) undef):=by
   refine⟨by simp;omega,fun k x hk=>?_⟩
   obtain⟨_,h2⟩:=Q41 args 0 k x hk
   simp only[Nat.sub_zero]at h2
   obtain⟨u,hu,hru⟩:=RFs.get hr h2
   refine⟨u,?_,hru⟩
   have hlt:k < cargs.length:=(List.getElem?_eq_some_iff.1 hu).1
   rw[Array.getElem?_append_left (by simpa using hlt)]
   simpa using hu
  have hou:=OuOk.of_inv hi h0'
  refine wp_seq (wp_mono (h0 hou F w C w C _ (Goes.refl _ _ _ _) hi hfr) fun e a w1 hp=>?_)
  obtain⟨hda,fr',σ',C1,hg1',hi1,hf1,rfl,rfl,rfl⟩:=hp
  have ha:a=⟨a.tmps,[]⟩:=by cases a;simp_all
  rw[ha]
  refine wp_seq (wp_region_lit (l:=[o0,o1]) ?_)
  refine wpList_plain hg0 fun N' hN=>hs0 F w1 C1 a.tmps hi1 hf1 N' _ fun u w2 C2 hgo2 hi2 hr2=>?_
  refine hN _ _ ?_
  have hf2:FrOk w2 C2 fn.ntmps ((d5,.one (.fn (.func gd) first caps))::fr') (Act.put ⟨a.tmps,[]⟩ o0.dst u).tmps:=by
   have:=Q0v (ds:=[]) (dst:=some d5) (hf1.ext hgo2.chg) (by simp[dstOk,Nat.blt];omega) hr2
   rw[hd0];exact this
  rw[Q1h]
  generalize hat:(Act.put ⟨a.tmps,[]⟩ o0.dst u).tmps=tm2 at hf2
  refine wpList_plain hg1 fun N2 hN2=>?_
  obtain⟨u5,hu5,hr5⟩:=hf2.2 d5 (.one (.fn (.func gd) first caps)) (by simp[Fr.get])
  simp only[RF,R]at hr5
  obtain⟨xs,ys,rfl,hx,hy⟩:=hr5
  have hev:Act.eval ⟨tm2,[]⟩ (.tmp d5)=.func (.func gd) xs.toArray ys.toArray:=by
   simp[Act.eval,hu5]
  have hrun:(execOp (Act.eval ⟨tm2,[]⟩) o1).run P w2=.ok (.defer ⟨.fn (.func gd) ys.toArray,xs.toArray⟩) w2:=by
   unfold execOp
   simp only[ho1,resolve,Sem.run_bind,hev,Deferred.ofValue,Sem.run_pure,Result.andThen_ok]
   simp
  unfold Oper.wp
  rw[hrun,Oper.upon_defer]
  refine hN2 _ _ ?_
  rw[hd1]
  show rest.wp P _ ⟨tm2,[⟨.fn (.func gd) ys.toArray,xs.toArray⟩]⟩ w2
  refine wp_mono (hrest hou [⟨.fn (.func gd) ys.toArray,xs.toArray⟩] F w C w2 C2 tm2 (hg1'.trans hgo2.toO) hi2 hf2) fun e a3 w3 hp=>?_
  obtain⟨hd3,fr3,σ3,C3,hg3,hi3,hf3,hk⟩:=hp
  have hxs:xs.length=first.length:=RV.len hx
  have hys:ys.length=caps.length:=RV.len hy
  have key:Fin ⟨P,T,Γ,fn.ntmps,[⟨.fn (.func gd) ys.toArray,xs.toArray⟩]⟩ fn Q fr3 σ3->Leaves P fn a3.tmps (fun e w'=>∃v r ou' C',e=.returned v/\Goes F isO w C w' C'/\C'.nl=0/\Inv Γ F w' C' ⟨0,[],ou'⟩/\RF w' C' r v/\Q r ou') a3.defers .returning w3:=fun hfin=>by
   obtain⟨v,hv,hR⟩:=Q98 hT h0' hi hg3 hi3 hf3 hfin
   rw[hd3]
   refine⟨by simp,.func gd,ys.toArray,gd,xs.toArray++ys.toArray,rfl,?_,((hdef _ w3).2 (by simp[hxs,hys])).mono ?_⟩
   ·show (invoke (.fn (.func gd) ys.toArray) xs.toArray).run P w3=_
    simp only[invoke]
    exact (hdef _ w3).1
   ·rintro e u' w' ⟨⟨v',rfl⟩,rfl,rfl⟩
    exact⟨v,hv,hR⟩
  cases e with
  |normal=>exact key hk
  |ret=>exact key hk
  |panic ps=>exact hk.elim
  |exit id=>exact hk.elim
  |goto l=>exact hk.elim
  |outgrown=>exact hk.elim
theorem AOps.growO{E:Env}{ops:Array Oper}{l:List Oper}{K:Cont}{fr:Fr}{σ:St}(k off:Nat)(e:TypeId)(s:Nat){cs:List AC}(h:σ.get (.l k)=some (.cells cs))(hoff:cs[off]?=some (.lit (.slice none 0 0)))
  (hk : AOps E ops l K fr ((σ.set (.l k) (.cells (cs.set off (.gs s [] (.l σ.n))))).push (.tok e s 0))) : AOps E ops l K fr σ := by
 intro F w0 C0 w C tmps hg hi hf
 have hno:=Ctx.tokd_new C none (fun _=>False) hi.next
 have he:Ext w C w (C.tokd none (fun _=>False)):=⟨fun _ _=>rfl,fun _ h=>.inl h,fun i _ ho=>Ctx.tokd_old C _ _ ho⟩
 -- first the token
 have hi1:Inv E.Γ F w (C.tokd none (fun _=>False)) (σ.push (.tok e s 0)):=
  hi.addObj (σ.get_push _) he (by simp[Ctx.tokd,Ctx.more,St.push,hi.next]) hi.base (fun a ha=>hi.prot a (ha.resolve_right id)) (fun _ _ _ _ _ _ h=>h) (fun _ _ _ _ _ _ ha=>ha.resolve_right id) hno.1
   (by simp only[ObjOk,hno.2]) (fun i p g _ _ hb=>by simp[AObj.block,hno.2]at hb)
 have hget:(σ.push (.tok e s 0)).get (.l k)=some (.cells cs):=by
  rw[St.get_push]
  have:¬(Id.l k=Id.l σ.n):=by
   intro e'
   have:=(hi.obj _ _ h).1
   rw[e']at this
   simp only[Ctx.ok]at this
   have:=hi.next
   omega
  rw[if_neg this];exact h
 obtain⟨hok,xs,T,h1,h2,h3,h4⟩:=hi1.obj _ _ hget
 have hxs:xs[off]?=some (.slice none 0 0):=by
  have:∀(cs:List AC) (xs:List Value) (off:Nat),RV w (C.tokd none (fun _=>False)) cs xs->cs[off]?=some (.lit (.slice none 0 0))->xs[off]?=some (.slice none 0 0):=by
   intro cs
   induction cs with
   |nil=>intro xs off _ h;simp at h
   |cons c cs ih=>
    intro xs off h h'
    simp only[RV]at h
    obtain⟨u,us,rfl,g1,g2⟩:=h
    cases off with
    |zero=>simp at h';subst h';simp only[R]at g1;simp[g1.1]
    |succ off=>simpa using ih us off g2 (by simpa using h')
  exact this cs xs off h3 hoff
 have hr':RV w (C.tokd none (fun _=>False)) (cs.set off (.gs s [] (.l σ.n))) xs:=by
  have:∀(cs:List AC) (xs:List Value) (off:Nat),RV w (C.tokd none (fun _=>False)) cs xs->xs[off]?=some (.slice none 0 0)->RV w (C.tokd none (fun _=>False)) (cs.set off (.gs s [] (.l σ.n))) xs:=by
   intro cs
   induction cs with
   |nil=>intro xs off h _;simpa using h
   |cons c cs ih=>
    intro xs off h h'
    simp only[RV]at h
    obtain⟨u,us,rfl,g1,g2⟩:=h
    cases off with
    |zero=>simp at h';subst h';exact⟨_,us,rfl,⟨hno.1,.inl ⟨rfl,rfl,hno.2⟩⟩,g2⟩
    |succ off=>exact⟨u,us,rfl,g1,ih us off g2 (by simpa using h')⟩
  exact this cs xs off h3 hxs
 have hi2:=(hi1.turn (o':=.cells (cs.set off (.gs s [] (.l σ.n)))) hget rfl rfl (fun _ _=>rfl) (fun _ _ _=>rfl) rfl (fun he'=>⟨xs,T,h1,h2,hr',h4⟩)).2
 refine hk F w0 C0 w _ tmps (hg.trans ⟨Stp.refl _ _,he.weaken (fun _ _=>trivial),by simp[Ctx.tokd,Ctx.more],fun a ha=>.inl (ha.resolve_right id)⟩) ?_ (hf.ext he)
 have hkn:k≠σ.n:=by
  rintro rfl
  have h5:=(hi.obj _ _ h).1
  simp only[Ctx.ok]at h5
  have:=hi.next
  omega
 exact⟨hi2.base,by have:=hi2.next;simpa[St.push,St.set]using this,hi2.glob,hi2.prot,fun i o ho=>hi2.obj i o (by rw[←Q4a hkn];exact ho),fun i j o o' g a b c d=>hi2.inj i j o o' g (by rw[←Q4a hkn];exact a) (by rw[←Q4a hkn];exact b) c d⟩

theorem AFn.forgetD{P:Program}{Γ:List (Nat×List AC)}{g:Nat}{args:List FV}{ou:Outer}{Q:FV->Outer->Prop}(h:AFn P Γ g args ou (fun r ou'=>∃ou'':Outer,(∀m o,ou'' m=some o->ou' m=some o∨(o=.dead/\∃p,ou m=some p))/\Q r ou'')):AFn P Γ g args ou Q:=by
 refine⟨h.1,fun F w C cargs h0 hi hr=>(h.2 F w C cargs h0 hi hr).mono fun e w' ⟨v,r,ou',C',h1,h2,h3,h4,h5,ou'',h6,h7⟩=>⟨v,r,ou'',C',h1,h2,h3,?_,h5,h7⟩⟩
 have hs:∀i o,(St.mk 0 [] ou'').get i=some o->(St.mk 0 [] ou').get i=some o∨(o=.dead/\isO i/\∃p,(St.mk 0 [] ou).get i=some p):=fun i o hio=>by
  cases i with
  |l m=>cases hio
  |o m=>exact (h6 m o hio).imp id fun ⟨a,b⟩=>⟨a,trivial,b⟩
 refine⟨h4.base,h4.next,h4.glob,h4.prot,fun i o ho=>?_,fun i j o o' g k1 k2 h3 h5=>?_⟩
 ·rcases hs i o ho with hh|⟨rfl,hio,p,hp⟩
  ·exact h4.obj i o hh
  ·exact⟨(h2.chg.id i hio (hi.obj i p hp).1).1,trivial⟩
 ·rcases hs i o k1 with hh|⟨rfl,_,p,hp⟩
  ·rcases hs j o' k2 with hh2|⟨rfl,_,p,hp⟩
   ·exact h4.inj i j o o' g hh hh2 h3 h5
   ·simp[AObj.block]at h5
  ·simp[AObj.block]at h3
end Go.Abs
namespace Go.Abs
theorem Q1f(n:Nat)(lo:List (Nat×AObj))(ou:Outer)(k:Nat)(o:AObj):St.set ⟨n,lo,ou⟩ (.o k) o=⟨n,lo,updO ou k o⟩:=by
 have:(fun j=>bif Nat.beq j k then some o else ou j)=updO ou k o:=by
  funext j
  by_cases e:k=j
  ·subst e;rw[Q03];simp
  ·rw[Q05 _ e,Q08 (fun h=>e h.symm)];rfl
 show St.mk n lo (fun j=>bif Nat.beq j k then some o else ou j)=_
 rw[this]
theorem Q5d(ou:Outer)(k:Nat)(o p:AObj):updO (updO ou k o) k p=updO ou k p:=by
 funext j
 by_cases e:k=j
 ·subst e;rw[Q03,Q03]
 ·rw[Q05 _ e,Q05 _ e,Q05 _ e]
theorem AStep.sliceOwn'{E:Env}{o:Oper}{fr:Fr}{σ:St}{t:TypeId}{ti tj:TI}{x:Operand}{lo hi mx:Option Operand}{i:Id}{s len cap a b c off' m' c':Nat}(hT:TabOk E.P E.T)(ho:o.op=.slice t x lo hi mx)(ht:Tab.get t E.T=some ti)(hk:Nat.beq ti.kind 2=true)(hj:Tab.get ti.elem E.T=some tj)(hs:Nat.beq tj.size s=true)
  (hx:aEval E.Γ fr x=some (.one (.arr i s 0 len cap))) (hlo:optIs E.Γ fr lo a 0) (hhi:optIs E.Γ fr hi b len) (hmx:optIs E.Γ fr mx c cap) (hm:mx.isSome=true->hi.isSome=true) (h1:a<=b) (h2:b<=c) (h3:c<=cap)
  (e1:(if c=a then 0 else a)=off') (e2:b - a=m') (e3:c - a=c'):AStep E o fr σ (.one (.arr i s off' m' c')) σ:=by
 subst e1;subst e2;subst e3
 exact AStep.sliceOwn hT ho ht hk hj hs hx hlo hhi hmx hm h1 h2 h3
theorem AStep.sliceNil{E:Env}{o:Oper}{fr:Fr}{σ:St}{t:TypeId}{ti tj:TI}{x lo:Operand}{k:IntKind}(hT:TabOk E.P E.T)(ho:o.op=.slice t x (some lo) none none)(ht:Tab.get t E.T=some ti)(hk:Nat.beq ti.kind 2=true)(hj:Tab.get ti.elem E.T=some tj)
  (hx:aEval E.Γ fr x=some (.one (.lit (.slice none 0 0)))) (hlo:aEval E.Γ fr lo=some (.one (.lit (.int k 0)))):AStep E o fr σ (.one (.lit (.slice none 0 0))) σ:=by
 refine AStep.quiet fun F w C tmps hin hf=>⟨.slice none 0 0,?_,rfl,rfl⟩
 have e1:=Q00 (a:=⟨tmps,E.ds⟩) hin hf hx
 have e2:=Q00 (a:=⟨tmps,E.ds⟩) hin hf hlo
 simp only[RF,R]at e1 e2
 have hu:=(hT t ti ht).slice (Nat.eq_of_beq_eq_true hk)
 have hsz:=(hT _ _ hj).run_sizeOf (w:=w)
 unfold execOp
 simp[ho,e1.1,e2.1,Instr.sliceAt,Instr.slice,run_underlying hu,hsz,Instr.sliceBounds,Instr.sliceBound,asIntOf,Result.andThen]
theorem AStep.capArr{E:Env}{o:Oper}{fr:Fr}{σ:St}{t:TypeId}{ti:TI}{x:Operand}{i:Id}{s off m c:Nat}(hT:TabOk E.P E.T)(ho:o.op=.call { callee:=.builtin .cap,args:=#[x],argTypes:=#[t] })(ht:Tab.get t E.T=some ti)(hk:Nat.beq ti.kind 2=true)(hx:aEval E.Γ fr x=some (.one (.arr i s off m c))):AStep E o fr σ (.one (.lit (.int .i64 c))) σ:=by
 refine AStep.quiet fun F w C tmps hin hf=>⟨.int .i64 c,?_,rfl,rfl⟩
 have e1:=Q00 (a:=⟨tmps,E.ds⟩) hin hf hx
 have hu:=(hT t ti ht).slice (Nat.eq_of_beq_eq_true hk)
 simp only[RF,R]at e1
 unfold execOp
 simp[ho,resolve,invoke,builtin,e1.2.1,Builtin.cap_,run_underlying hu,goInt,Result.andThen]
end Go.Abs
namespace Go.Abs
theorem AStep.andU{E:Env}{o:Oper}{fr:Fr}{σ:St}{t yt:TypeId}{x y:Operand}{a b:Nat}(ha:a < 18446744073709551616)(hb:b < 18446744073709551616)(ho:o.op=.binOp .and t x y yt)(hx:aEval E.Γ fr x=some (.one (.lit (.int .u64 (a:Int)))))(hy:aEval E.Γ fr y=some (.one (.lit (.int .u64 (b:Int))))):AStep E o fr σ (.one (.lit (.int .u64 ((a &&& b:Nat):Int)))) σ:=by
 refine AStep.quiet fun F w C tmps hi hf=>⟨.int .u64 ((a &&& b:Nat):Int),?_,rfl,rfl⟩
 have h1:=Q00 (a:=⟨tmps,E.ds⟩) hi hf hx
 have h2:=Q00 (a:=⟨tmps,E.ds⟩) hi hf hy
 simp only[RF,R]at h1 h2
 unfold execOp
 simp only[ho,h1.1,h2.1,eqGuard_at_int,Sem.run_bind,Sem.run_pure,Result.andThen_ok]
 rw[←bits_and_u64_nat a b ha hb]
 rfl
theorem AStep.copy0{E:Env}{o:Oper}{fr:Fr}{σ:St}{t t':TypeId}{ti tj:TI}{x y:Operand}{i:Id}{s off m c1:Nat}{s2:Nat}{news:List (List AC)}(hT:TabOk E.P E.T)(ho:o.op=.call { callee:=.builtin .copy,args:=#[x,y],argTypes:=#[t,t'] })(ht:Tab.get t E.T=some ti)(hkd:Nat.beq ti.kind 2=true)(hj:Tab.get ti.elem E.T=some tj)
  (hx:aEval E.Γ fr x=some (.one (.arr i s off m c1))) (hm:m=0) (hy:aEval E.Γ fr y=some (.one (.sl s2 news))):AStep E o fr σ (.one (.lit (.int .i64 0))) σ:=by
 subst hm
 refine AStep.quiet fun F w C tmps hin hf=>⟨.int .i64 0,?_,rfl,rfl⟩
 have e1:=Q00 (a:=⟨tmps,E.ds⟩) hin hf hx
 have e2:=Q00 (a:=⟨tmps,E.ds⟩) hin hf hy
 simp only[RF,R]at e1 e2
 obtain⟨_,e1,_⟩:=e1
 obtain⟨a,cap,e2,_⟩:=e2
 have hu:=(hT t ti ht).slice (Nat.eq_of_beq_eq_true hkd)
 have hsz:=(hT _ _ hj).run_sizeOf (w:=w)
 unfold execOp
 cases a with
 |none=>simp[ho,resolve,invoke,builtin,e1,e2,Builtin.copy_,run_underlying hu,hsz,goInt,Result.andThen,Builtin.lenOf,Builtin.firstCells,storeCells]
 |some ad=>simp[ho,resolve,invoke,builtin,e1,e2,Builtin.copy_,run_underlying hu,hsz,goInt,Result.andThen,Builtin.lenOf,Builtin.firstCells,storeCells,loadCells,loadCellsFrom]
end Go.Abs
namespace Go.Abs
theorem RV.setC{w:World}{C:Ctx}{a b:AC}(hab:∀v,R w C a v->R w C b v):∀{cs:List AC}{off:Nat}{xs:List Value},RV w C cs xs->cs[off]?=some a->RV w C (cs.set off b) xs
 |[],_,_,_,h=>by simp at h
 |c::cs,0,xs,⟨x,xs',e,h1,h2⟩,h=>by
  simp only[List.getElem?_cons_zero,Option.some.injEq]at h
  subst h
  exact⟨x,xs',e,hab x h1,h2⟩
 |c::cs,off+1,xs,⟨x,xs',e,h1,h2⟩,h=>by
  simp only[List.getElem?_cons_succ]at h
  exact⟨x,xs',e,h1,RV.setC hab h2 h⟩
theorem AOps.freezeArrO{E:Env}{ops:Array Oper}{l:List Oper}{K:Cont}{fr:Fr}{σ:St}(i j:Id)(off:Nat){s cap:Nat}{es:List (List AC)}{cs:List AC}(hg:σ.get i=some (.cells (vec s es cap)))(hl:∀x∈es,x.length=s)(hgj:(σ.set i .dead).get j=some (.cells cs))(hoff:cs[off]?=some (.arr i s 0 es.length cap))
  (h : AOps E ops l K fr ((σ.set i .dead).set j (.cells (cs.set off (.sl s es))))) : AOps E ops l K fr σ := by
 intro F w0 C0 w C tmps hgo hi hf
 obtain⟨h1,h2,h3⟩:=Q97 hi hf hg (fr':=[]) trivial
 obtain⟨hok,zs,T,b1,b2,b3,b4⟩:=hi.obj i _ hg
 have key:∀v,R w (C.froze (C.blk i)) (.arr i s 0 es.length cap) v->R w (C.froze (C.blk i)) (.sl s es) v:=by
  intro u hr
  simp only[R,Nat.zero_mul]at hr
  refine⟨some ⟨C.blk i,0,none⟩,cap,hr.2.1,hr.2.2,.inr ⟨_,rfl,rfl,?_⟩⟩
  have hfl:=Q1v hl
  have hzl:=RV.length b3
  have hv:RV w (C.froze (C.blk i)) es.flatten (zs.take (es.length * s)):=by
   have:=(b3.take (es.length * s)).ext h1.chg
   rwa [vec,List.take_append_of_le_length (by omega),List.take_of_length_le (by omega)]at this
  refine RS.ofVals 0 hl hv fun j v hj=>⟨?_,.inr rfl⟩
  have h2:j < es.length * s:=by have:=(List.getElem?_eq_some_iff.1 hj).1;simp at this;omega
  rw[List.getElem?_take_of_lt h2]at hj
  rw[Nat.zero_add,cell_of_row _ _ _ _ _ _ b1]
  simpa using hj
 obtain⟨hokj,xs,Tj,o1,o2,o3,o4⟩:=h2.obj j _ hgj
 obtain⟨he,hi'⟩:=h2.turn hgj (g:=(C.froze (C.blk i)).blk j) rfl (w':=w) rfl (fun _ _=>rfl) (fun _ _ _=>rfl) (o':=.cells (cs.set off (.sl s es))) rfl fun _=>⟨xs,Tj,o1,o2,RV.setC key o3 hoff,o4⟩
 refine h F w0 C0 w _ tmps (hgo.trans h1.toO) hi' ⟨hf.1,fun k x hk=>?_⟩
 obtain⟨u,hu,hr⟩:=hf.2 k x hk
 exact⟨u,hu,hr.ext h1.chg⟩
end Go.Abs
namespace Go.Abs
theorem Qih{Γ:List (Nat×List AC)}{F:Nat->Prop}{w:World}{C:Ctx}{σ:St}(js:List Nat)(hj:∀j∈js,j < σ.n)(hi:Inv Γ F w C σ):∃C2 k,(∀m,k<=m->σ.ou m=none)/\Goes F (fun _=>True) w C w C2 /\
  (∀ σ' : St, σ'.n = σ.n -> (∀ i x, σ'.get i = some x -> ∃ i0 y, σ.get i0 = some y /\ toOs js k i0 = i /\ x = y.sub (toOs js k)) -> Inv Γ F w C2 σ') /\ (∀ y u, RF w C y u -> RF w C2 (y.sub (toOs js k)) u) := by
 have hnone:∀m,C.no<=m->σ.ou m=none:=fun m hm=>by
  cases hx:σ.ou m with
  |none=>rfl
  |some x=>
   have:m < C.no:=(hi.obj (.o m) x hx).1
   omega
 let C2:Ctx:={ C with no:=C.no+js.length,phi:=fun i=>match i with|.o m=>if m < C.no then C.phi (.o m)else (match js[m - C.no]? with|some j=>C.phi (.l j)|none=>C.phi (.o m))|.l m=>C.phi (.l m),tk:=fun i=>match i with|.o m=>if m < C.no then C.tk (.o m)else (match js[m - C.no]? with|some j=>C.tk (.l j)|none=>C.tk (.o m))|.l m=>C.tk (.l m) }
 have hx:Ext w C w C2:=⟨fun _ _=>rfl,fun _ h=>h,fun i _ ho=>by
  cases i with
  |l m=>exact⟨ho,rfl,rfl⟩
  |o m=>
   have hm:m < C.no:=ho
   refine⟨Nat.lt_of_lt_of_le hm (Nat.le_add_right _ _),?_,?_⟩
   ·show (if m < C.no then _ else _)=_;rw[if_pos hm];rfl
   ·show (if m < C.no then _ else _)=_;rw[if_pos hm];rfl⟩
 have hb:Bus (toOs js C.no) (fun _=>True) w C2 C:=⟨fun _ h=>h,fun i _ ho=>by
  cases i with
  |o m=>exact hx.id (.o m) trivial ho
  |l m=>
   simp only[toOs]
   cases hp:posOf m js with
   |none=>exact⟨ho,rfl,rfl⟩
   |some p=>
    have hjp:=Q5f hp
    have hlt:p < js.length:=(List.getElem?_eq_some_iff.1 hjp).1
    refine⟨Nat.add_lt_add_left hlt _,?_,?_⟩
    ·show (if C.no+p < C.no then _ else _)=_
     rw[if_neg (by omega),Nat.add_sub_cancel_left,hjp];rfl
    ·show (if C.no+p < C.no then _ else _)=_
     rw[if_neg (by omega),Nat.add_sub_cancel_left,hjp];rfl⟩
 have hok:∀i0 y,σ.get i0=some y->C.ok i0:=fun i0 y hy=>(hi.obj i0 y hy).1
 refine⟨C2,C.no,hnone,⟨Stp.refl _ _,hx.weaken (fun _ _=>trivial),Nat.le_add_right _ _,NewP.refl _ _⟩,fun σ' hcn hco=>?_,fun y u hr=>RF.bus hb y u (FV.ids_true y) hr⟩
 refine⟨hi.base,by rw[hcn];exact hi.next,fun g cs hm=>(hi.glob g cs hm).ext hx,hi.prot,fun i x hxx=>?_,fun i1 i2 x1 x2 g h1 h2 h3 h4=>?_⟩
 ·obtain⟨i0,y,hy,rfl,rfl⟩:=hco i x hxx
  obtain⟨k1,k2⟩:=hi.obj i0 y hy
  exact⟨(hb.id i0 trivial k1).1,ObjOk.bus hb (AObj.ids_all y) trivial k1 (fun _ h=>h) k2⟩
 ·obtain⟨a,y,hy,rfl,rfl⟩:=hco i1 x1 h1
  obtain⟨b,z,hz,rfl,rfl⟩:=hco i2 x2 h2
  rw[AObj.block_bus hb trivial (hok a y hy)]at h3
  rw[AObj.block_bus hb trivial (hok b z hz)]at h4
  rw[hi.inj a b y z g hy hz h3 h4]
end Go.Abs
namespace Go.Abs
def earlyB (l:List Oper)(S:List Nat)(D:List (Nat×Nat)):Bool:=D.all fun p=>!(inS S p.1)&&(match S[p.2]? with|some s=>(match l[s]? with|some o=>o.after.any (fun e=>Region.binds .any e&&Nat.beq e.on p.1)|none=>false)|none=>false) &&
 (match l[p.1]? with|some o=>o.after.toList.all (fun e=>!Region.binds .any e||!(inS (S++D.map (·.1)) e.on))|none=>false)
def fD (S:List Nat)(D:List (Nat×Nat))(vs0 vs:List FV)(B:Nat->Bool):Nat->Option FV:=fun j=>bif inS S j then fC S vs j else bif inS (D.map (·.1)) j&&B j then vs0[j]? else none
theorem Q4n(S T:List Nat)(j:Nat):inS (S++T) j=(inS S j||inS T j):=by simp[inS]
theorem Q6u{S:List Nat}{j:Nat}:inS S j=true↔j∈S:=by
 constructor
 ·intro h
  obtain⟨s,hs,he⟩:=List.any_eq_true.1 h
  obtain rfl:s=j:=Nat.eq_of_beq_eq_true he
  exact hs
 ·intro h;exact List.any_eq_true.2 ⟨j,h,by simp⟩
section
variable {E:Env}{l:List Oper}{K:Cont}{frb:Fr}
theorem AAny.drawC3{fr:Fr}{σ0:St}{hd tl:List Oper}{vs0:List FV}(hT:TabOk E.P E.T)(n:Nat)(S:List Nat)(D:List (Nat×Nat))(cs:List (Nat×FV))(G:List FV->St->Prop)(hm:E.P.follows .mixedOrders=true)(hB:drawB l n=true)(hsp:Q1y n l=some (hd,tl))(hfb:Fr.woO (dsts hd) fr=some frb)
  (hn:S.Nodup) (hch:chainB l S=true) (hqb:Q50 l (S++D.map (·.1)) n=true) (hea:earlyB l S D=true) (h0:G [] σ0)
  (hrun:∀vs σ,G vs σ->Q0g E l.toArray l frb σ (S.map (fun i=>(i,FV.bot))++cs) 0 hd []=some vs0) (hcs:∀vs σ,G vs σ->∀i v,lookC i cs=some v->inS (D.map (·.1)) i=false->∃o,l[i]?=some o/\HStep E l.toArray o (depFr l vs0 o++frb) σ σ v)
  (hD : ∀ vs σ, G vs σ -> ∀ p ∈ D, vs.length <= p.2 -> ∃ o v, l[p.1]? = some o /\ vs0[p.1]? = some v /\ dstOk E.N o.dst = true /\ HStep E l.toArray o (depFr l vs0 o ++ frb) σ σ v) (hSl : ∀ i ∈ S ++ D.map (·.1), i < n)
  (hs : ∀ vs σ, G vs σ -> ∀ i o, S[vs.length]? = some i -> l[i]? = some o -> dstOk E.N o.dst = true /\ Q2h E l.toArray o (Q0d l (mixV S vs0 (fC S vs)) o ++ frb) σ (fun v σ' => G (vs ++ [v]) σ') (fun ps σ' => K (.panic ps) frb σ'))
  (htail : ∀ vs σ, vs.length = S.length -> G vs σ -> AOps E l.toArray tl K (Q0f (mixV S vs0 (fC S vs)) 0 hd ++ frb) σ) : AAny E l K fr σ0 := by
 have hnl:n < l.length:=by
  have:=hB
  simp only[drawB,Bool.and_eq_true,decide_eq_true_eq]at this
  exact this.1.1.1.1.1
 have hlast:∀k o,l[k]?=some o->k < n->o.after.all (fun e=>!Region.binds .any e||decide (e.on < k))=true:=fun k o hk hkn=>by
  have hB2:=hB
  simp only[drawB,Bool.and_eq_true,decide_eq_true_eq]at hB2
  exact List.all_eq_true.1 hB2.2 (o,k) (by
   rw[List.mem_zipIdx_iff_getElem?,List.getElem?_take_of_lt hkn]
   simpa using hk)
 have depEq:∀(o:Oper) (v1 v2:Nat->Option FV),(∀e∈o.after.toList,Region.binds .any e=true->v1 e.on=v2 e.on)->Q0d l v1 o=Q0d l v2 o:=fun o v1 v2 h=>by
  unfold Q0d
  refine Q0p fun e he=>?_
  cases hb:Region.binds .any e with
  |false=>rfl
  |true=>simp only[cond_true];rw[h e he hb]
 have hDp:∀p∈D,inS S p.1=false/\(∃s o,S[p.2]?=some s/\l[s]?=some o/\∃e∈o.after.toList,Region.binds .any e=true/\e.on=p.1)/\∀o,l[p.1]?=some o->(o.after.toList.all fun e=>!Region.binds .any e||!(inS (S++D.map (·.1)) e.on))=true:=fun p hp=>by
  have h1:=List.all_eq_true.1 hea p hp
  simp only[Bool.and_eq_true,Bool.not_eq_true']at h1
  obtain⟨⟨h2,h3⟩,h4⟩:=h1
  refine⟨h2,?_,fun o ho=>?_⟩
  ·cases hs':S[p.2]? with
   |none=>rw[hs']at h3;cases h3
   |some s=>
    rw[hs']at h3
    cases ho:l[s]? with
    |none=>simp only[ho]at h3;cases h3
    |some o=>
     simp only[ho]at h3
     rw[←Array.any_toList]at h3
     obtain⟨e,he,hb⟩:=List.any_eq_true.1 h3
     simp only[Bool.and_eq_true]at hb
     exact⟨s,o,rfl,ho,e,he,hb.1,Nat.eq_of_beq_eq_true hb.2⟩
  ·rw[ho]at h4;exact h4
 obtain⟨hsp1,hsp2⟩:=Q1q hsp
 refine AAny.drawS2 n (S++D.map (·.1)) vs0 (fun f σ=>∃vs B,vs.length<=S.length/\f=fD S D vs0 vs B/\G vs σ/\∀p∈D,p.2 < vs.length->B p.1=true) hm hB hsp hfb
  ⟨[], fun _ => false, by simp, by funext j; simp only [fD, Bool.and_false, cond_false]; cases S <;> (cases inS _ j <;> rfl), h0, fun p hp h => by simp at h⟩ (fun f σ ⟨vs, B, _, hf, _⟩ i hi => ?_) ?_ ?_ ?_
 ·have hi:inS (S++D.map (·.1)) i=false:=hi
  rw[Q4n,Bool.or_eq_false_iff]at hi
  rw[hf,fD,hi.1,hi.2];rfl
 ·intro i o hi hS hlo
  have hS':inS (S++D.map (·.1)) i=false:=hS
  rw[Q4n,Bool.or_eq_false_iff]at hS'
  have hio:hd[i]?=some o:=by rw[←hsp1,List.getElem?_take_of_lt hi];exact hlo
  have key:∀vs σ,G vs σ->∃v,vs0[i]?=some v/\dstOk E.N o.dst=true/\HStep E l.toArray o (depFr l vs0 o++frb) σ σ v:=fun vs σ hG=>by
   obtain⟨v,h1,h3,h4⟩:=Q2y (vs:=vs0) hT hlast hd 0 [] vs0 rfl (fun i o hi=>by
    have hi2:i < n:=by
     have:=(List.getElem?_eq_some_iff.1 hi).1
     rw[←hsp1]at this;simp at this;omega
    rw[←hsp1,List.getElem?_take_of_lt hi2]at hi
    exact⟨by simpa using hi,by omega⟩) (hrun vs σ hG) (List.nil_append _) i o hio
   rw [Nat.zero_add] at h4
   refine⟨v,h1,h3,?_⟩
   rcases h4 with h4|h4
   ·have hl:lookC i cs=some v:=by
     have:∀{S:List Nat},(S.any fun k=>Nat.beq k i)=false->lookC i (S.map (fun i=>(i,FV.bot))++cs)=lookC i cs:=fun {S} hS=>by
      induction S with
      |nil=>rfl
      |cons s S ih=>
       simp only[List.any_cons,Bool.or_eq_false_iff]at hS
       simp only[List.map_cons,List.cons_append,lookC,hS.1,cond_false]
       exact ih hS.2
     rw[this hS'.1]at h4;exact h4
    obtain⟨o',ho',hst⟩:=hcs vs σ hG i v hl hS'.2
    rw[hlo]at ho'
    cases ho'
    exact hst
   ·exact h4.2
  have hq:(o.after.toList.all fun e=>!Region.binds .any e||!((S++D.map (·.1)).any fun k=>Nat.beq k e.on))=true:=by
   have h1:=List.all_eq_true.1 hqb (o,i) (by
    rw[List.mem_zipIdx_iff_getElem?,List.getElem?_take_of_lt hi]
    simpa using hlo)
   have h2:inS (S++D.map (·.1)) i=false:=hS
   simp only[h2,Bool.false_or]at h1
   exact h1
  obtain⟨v,h1,h3,_⟩:=key [] σ0 h0
  refine⟨v,h1,h3,hq,fun f σ ⟨vs,B,_,_,hG,_⟩=>?_⟩
  obtain⟨v',h1',_,h4⟩:=key vs σ hG
  rw[h1]at h1'
  cases h1'
  exact h4
 ·rintro f σ i o ⟨vs,B,hlen,rfl,hG,hBv⟩ hS hlo hfi hdep
  have hdB:∀e∈o.after.toList,Region.binds .any e=true->inS S e.on=false->inS (D.map (·.1)) e.on=true->B e.on=true:=fun e he hb h1 h2=>by
   have h3:=hdep e he hb (by show inS _ _=true;rw[Q4n,h1,h2];rfl)
   simp only[fD,h1,h2,cond_false,Bool.true_and]at h3
   cases hBe:B e.on with
   |true=>rfl
   |false=>rw[hBe]at h3;cases h3
  cases hiS:inS S i with
  |true=>
   obtain⟨s,hsS,he⟩:=List.any_eq_true.1 hiS
   obtain rfl:s=i:=Nat.eq_of_beq_eq_true he
   have hfi':fC S vs s=none:=by simpa[fD,hiS]using hfi
   obtain⟨p,hp⟩:=List.mem_iff_getElem?.1 hsS
   have hpS:=(List.getElem?_eq_some_iff.1 hp).1
   have hpv:p=vs.length:=by
    rcases Nat.lt_trichotomy p vs.length with h1|h1|h1
    ·rw[Q74 hn hp h1]at hfi'
     have:=(List.getElem?_eq_none_iff.1 hfi');omega
    ·exact h1
    ·exfalso
     obtain⟨q,rfl⟩:∃q,p=q+1:=⟨p - 1,by omega⟩
     obtain⟨i0,hi0⟩:∃i0,S[q]?=some i0:=⟨S[q],List.getElem?_eq_getElem (by omega)⟩
     obtain⟨e,he,hb,heo⟩:=Q78 hch hi0 hp hlo
     have hin:inS S e.on=true:=by rw[heo];exact Q6u.2 (List.mem_of_getElem? hi0)
     have h2:=hdep e he hb (by show inS _ _=true;rw[Q4n,hin];rfl)
     simp only[fD,hin,cond_true]at h2
     rw[heo,Q84 hn hi0 (by omega)]at h2
     cases h2
   subst hpv
   obtain⟨k2,k3⟩:=hs vs σ hG s o hp hlo
   have hdf:Q0d l (mixV (S++D.map (·.1)) vs0 (fD S D vs0 vs B)) o=Q0d l (mixV S vs0 (fC S vs)) o:=depEq o _ _ fun e he hb=>by
    show (bif inS (S++D.map (·.1)) e.on then fD S D vs0 vs B e.on else vs0[e.on]?)=(bif inS S e.on then fC S vs e.on else vs0[e.on]?)
    rw[Q4n]
    cases h1:inS S e.on with
    |true=>simp[fD,h1]
    |false=>
     cases h2:inS (D.map (·.1)) e.on with
     |true=>simp[fD,h1,h2,hdB e he hb h1 h2]
     |false=>rfl
   rw[hdf]
   refine⟨k2,k3.mono fun v σ' hG'=>⟨vs++[v],B,by simp;omega,?_,hG',fun q hq hql=>?_⟩⟩
   ·funext j
    have hup:=congrFun (fC_upd (vs:=vs) (v:=v) hn hp) j
    by_cases e:s=j
    ·subst e
     simp only[updV,if_true]at hup ⊢
     simp only[fD,hiS,cond_true];exact hup
    ·simp only[updV,if_neg e]at hup ⊢
     simp only[fD,hup]
   ·simp only[List.length_append,List.length_singleton]at hql
    rcases Nat.lt_or_ge q.2 vs.length with h|h
    ·exact hBv q hq h
    ·obtain⟨d1,⟨s2,o2,d2,d3,e,d4,d5,d6⟩,_⟩:=hDp q hq
     rw[show q.2=vs.length by omega]at d2
     rw[hp]at d2;cases d2
     rw[hlo]at d3;cases d3
     have:=hdB e d4 d5 (by rw[d6];exact d1) (by rw[d6];exact Q6u.2 (List.mem_map.2 ⟨q,hq,rfl⟩))
     rw[d6]at this;exact this
  |false=>
   have hS2:inS (S++D.map (·.1)) i=true:=hS
   rw[Q4n,hiS,Bool.false_or]at hS2
   obtain⟨q,hq,hqi⟩:=List.mem_map.1 (Q6u.1 hS2)
   subst hqi
   obtain⟨d1,_,d3⟩:=hDp q hq
   have hBi:B q.1=false:=by
    cases hBe:B q.1 with
    |false=>rfl
    |true=>
     exfalso
     have hvl:vs.length<=q.2∨q.2 < vs.length:=by omega
     obtain⟨o2,v2,h1,h2,_⟩:∃o v,l[q.1]?=some o/\vs0[q.1]?=some v/\True:=by
      obtain⟨o2,v2,h1,h2,_⟩:=hD [] σ0 h0 q hq (Nat.zero_le _)
      exact⟨o2,v2,h1,h2,trivial⟩
     simp[fD,hiS,hS2,hBe,h2]at hfi
   have hle:vs.length<=q.2:=by
    rcases Nat.lt_or_ge q.2 vs.length with h|h
    ·rw[hBv q hq h]at hBi;cases hBi
    ·exact h
   obtain⟨o2,v,e1,e2,e3,e4⟩:=hD vs σ hG q hq hle
   rw[hlo]at e1;cases e1
   have hdd:Q0d l (mixV (S++D.map (·.1)) vs0 (fD S D vs0 vs B)) o=depFr l vs0 o:=by
    unfold Q0d depFr
    refine Q0p fun e he=>?_
    cases hb:Region.binds .any e with
    |false=>rfl
    |true=>
     have h1:=List.all_eq_true.1 (d3 o hlo) e he
     rw[hb]at h1
     simp only[Bool.not_true,Bool.false_or,Bool.not_eq_true']at h1
     have h2:((S++D.map (·.1)).any fun k=>Nat.beq k e.on)=false:=h1
     simp only[cond_true,mixV,h2,cond_false]
     rfl
   rw[hdd]
   refine⟨e3,.inl (.inl ⟨v,σ,e4,vs,fun j=>Nat.beq q.1 j||B j,hlen,?_,hG,fun p hp hpl=>by show (_||B p.1)=true;rw[hBv p hp hpl,Bool.or_true]⟩)⟩
   funext j
   by_cases e:q.1=j
   ·subst e
    simp[updV,fD,hiS,hS2,e2]
   ·simp only[updV,if_neg e,fD,Q08 e,Bool.false_or]
 ·rintro f σ ⟨vs,B,hlen,rfl,hG,hBv⟩ hall
  have hvl:vs.length=S.length:=by
   rcases Nat.lt_or_ge vs.length S.length with h1|h1
   ·exfalso
    obtain⟨i0,hi0⟩:∃i0,S[vs.length]?=some i0:=⟨S[vs.length],List.getElem?_eq_getElem h1⟩
    have hm:=List.mem_of_getElem? hi0
    have:=hall i0 (List.mem_append.2 (.inl hm)) (hSl i0 (List.mem_append.2 (.inl hm)))
    simp only[fD,Q6u.2 hm,cond_true]at this
    rw[Q84 hn hi0 (Nat.le_refl _)]at this
    cases this
   ·omega
  have heq:mixV (S++D.map (·.1)) vs0 (fD S D vs0 vs B)=mixV S vs0 (fC S vs):=by
   funext j
   show (bif inS (S++D.map (·.1)) j then fD S D vs0 vs B j else vs0[j]?)=(bif inS S j then fC S vs j else vs0[j]?)
   rw[Q4n]
   cases h1:inS S j with
   |true=>simp[fD,h1]
   |false=>
    cases h2:inS (D.map (·.1)) j with
    |true=>
     have hm:=Q6u.1 h2
     have h3:=hall j (List.mem_append.2 (.inr hm)) (hSl j (List.mem_append.2 (.inr hm)))
     simp only[fD,h1,h2,cond_false,Bool.true_and]at h3
     cases hBe:B j with
     |true=>simp[fD,h1,h2,hBe]
     |false=>rw[hBe]at h3;cases h3
    |false=>rfl
  rw[heq]
  exact htail vs σ hvl hG
end
theorem ACode.drawC3{E:Env}{l:List Oper}{K:Cont}{frb:Fr}{id:Nat}{fr:Fr}{σ0:St}{hd tl:List Oper}{vs0:List FV}(hT:TabOk E.P E.T)(n:Nat)(S:List Nat)(D:List (Nat×Nat))(cs:List (Nat×FV))(G:List FV->St->Prop)(hm:E.P.follows .mixedOrders=true)(hB:drawB l n=true)(hsp:Q1y n l=some (hd,tl))(hfb:Fr.woO (dsts hd) fr=some frb)
  (hn:S.Nodup) (hch:chainB l S=true) (hqb:Q50 l (S++D.map (·.1)) n=true) (hea:earlyB l S D=true) (h0:G [] σ0) (hrun0:Q0g E l.toArray l frb σ0 (S.map (fun i=>(i,FV.bot))++cs) 0 hd []=some vs0)
  (hrun:∀vs σ,G vs σ->Q0g E l.toArray l frb σ (S.map (fun i=>(i,FV.bot))++cs) 0 hd []=some vs0) (hcs:∀vs σ,G vs σ->∀i v,lookC i cs=some v->inS (D.map (·.1)) i=false->∃o,l[i]?=some o/\HStep E l.toArray o (depFr l vs0 o++frb) σ σ v)
  (hD:∀vs σ,G vs σ->∀p∈D,vs.length<=p.2->∃o v,l[p.1]?=some o/\vs0[p.1]?=some v/\dstOk E.N o.dst=true/\HStep E l.toArray o (depFr l vs0 o++frb) σ σ v) (hSl:∀i∈S++D.map (·.1),i < n)
  (hs:∀vs σ,G vs σ->∀i o,S[vs.length]?=some i->l[i]?=some o->dstOk E.N o.dst=true/\Q2h E l.toArray o (Q0d l (mixV S vs0 (fC S vs)) o++frb) σ (fun v σ'=>G (vs++[v]) σ') (fun ps σ'=>K (.panic ps) frb σ'))
  (htail:∀vs σ,vs.length=S.length->G vs σ->AOps E l.toArray tl K (Q0f (mixV S vs0 (fC S vs)) 0 hd++frb) σ):ACode E (.region id l.toArray true) K fr σ0:=AAny.code hm (AAny.drawC3 hT n S D cs G hm hB hsp hfb hn hch hqb hea h0 hrun hcs hD hSl hs htail)
end Go.Abs
namespace Go.Abs
theorem frOk_in{w:World}{C:Ctx}{args:List FV}{cargs:List Value}{N:Nat}(hr:RFs w C args cargs)(hlen:args.length<=N):FrOk w C N (argFr 0 args) (cargs.toArray++Array.replicate (N - cargs.toArray.size) undef):=by
 have hcl:cargs.length=args.length:=by
  have:∀(vs:List FV) (xs:List Value),RFs w C vs xs->xs.length=vs.length:=by
   intro vs
   induction vs with
   |nil=>intro xs h;simp only[RFs]at h;simp[h]
   |cons v vs ih=>intro xs h;simp only[RFs]at h;obtain⟨u,us,rfl,_,h2⟩:=h;simp[ih us h2]
  exact this _ _ hr
 refine⟨by simp;omega,fun k x hk=>?_⟩
 obtain⟨_,h2⟩:=Q41 args 0 k x hk
 simp only[Nat.sub_zero]at h2
 obtain⟨u,hu,hru⟩:=RFs.get hr h2
 refine⟨u,?_,hru⟩
 have hlt:k < cargs.length:=(List.getElem?_eq_some_iff.1 hu).1
 rw[Array.getElem?_append_left (by simpa using hlt)]
 simpa using hu
def Caught (P:Program)(T:Tab)(Γ:List (Nat×List AC))(fn:Func)(gd:Nat)(first caps:List AC)(Q:FV->Outer->Prop)(ps:List PanicEntry)(fr:Fr)(σ:St):Prop:=
 ∀(F:Nat->Prop) (w:World) (C:Ctx) (tmps:Array Value) (xs ys:List Value),Inv Γ F w C σ->FrOk w C fn.ntmps fr tmps->RV w C first xs->RV w C caps ys->CallsD P gd (xs++ys).toArray (.panicking ps) w fun e m' w'=>(∃v,e=.returned v)/\settle m'=.returning/\
  ∃C' fr' σ',Goes F isO w C w' C'/\Inv Γ F w' C' σ'/\FrOk w' C' fn.ntmps fr' tmps/\∀ds,Fin ⟨P,T,Γ,fn.ntmps,ds⟩ fn Q fr' σ'
theorem AFn.ofDeferP{P:Program}{T:Tab}{Γ:List (Nat×List AC)}{g gd i1 i2 d5 d6 d7 d8 gc:Nat}{fn:Func}{r0 c2 rest:Code}{o0 o1 p0 p1 p2:Oper}{args:List FV}{ou:Outer}{Q:FV->Outer->Prop}{fr1:Fr}{σ1:St}{first caps:List AC}{v0:FV}{us:List FV}{Q1:FV->Outer->Prop}{QP1:List PanicEntry->Outer->Prop}{tys:Array TypeId}{pargs:Array Operand}
  (hT : TabOk P T) (hΓ : ∀ g cs, (g, cs) ∈ Γ -> idsL isO cs) (hf : P.funcs[g]? = some fn) (hb : fn.body = some (.seq r0 (.seq (.region i1 #[o0, o1] false) (.seq (.seq (.region i2 #[p0, p1, p2] false) c2) rest)))) (hname : (fn.name == "runtime.NumGoroutine") = false)
  (hlen : args.length <= fn.ntmps) (h0 : OuOk ou -> ACode ⟨P, T, Γ, fn.ntmps, []⟩ r0 (fun e fr σ => e = .normal /\ fr = fr1 /\ σ = σ1) (argFr 0 args) ⟨0, [], ou⟩)
  (hg0 : o0.guard = none) (hd0 : o0.dst = some d5) (hdl : d5 < fn.ntmps) (hs0 : AStep ⟨P, T, Γ, fn.ntmps, []⟩ o0 fr1 σ1 (.one (.fn (.func gd) first caps)) σ1)
  (hg1 : o1.guard = none) (hd1 : o1.dst = none) (ho1 : o1.op = .defer { callee := .value (.tmp d5), args := #[], argTypes := #[] })
  (kg0 : p0.guard = none) (kd0 : p0.dst = some d6) (kl0 : d6 < fn.ntmps) (ks0 : ∀ ds, AStep ⟨P, T, Γ, fn.ntmps, ds⟩ p0 ((d5, .one (.fn (.func gd) first caps)) :: fr1) σ1 v0 σ1)
  (kg1 : p1.guard = none) (kd1 : p1.dst = some d7) (kl1 : d7 < fn.ntmps) {gop : Operand} (ko1 : p1.op = .call { callee := .value gop, args := pargs, argTypes := tys })
  (kf1 : aEval Γ ((d6, v0) :: (d5, .one (.fn (.func gd) first caps)) :: fr1) gop = some (.one (.fn (.func gc) [] []))) (ka1 : Q16 Γ ((d6, v0) :: (d5, .one (.fn (.func gd) first caps)) :: fr1) pargs.toList = some us) (ki1 : idsF isO us) (hou1 : OuOk ou -> OuOk σ1.ou)
  (kc1 : AFnP P Γ gc us σ1.ou Q1 QP1)
  (kg2 : p2.guard = none) (kd2 : p2.dst = some d8) (kl2 : d8 < fn.ntmps)
  (hnext : OuOk ou -> ∀ r ou', Q1 r ou' -> r.ids isO -> OuOk ou' -> ∃ v2, ∀ ds, AStep ⟨P, T, Γ, fn.ntmps, ds⟩ p2 ((d7, r) :: (d6, v0) :: (d5, .one (.fn (.func gd) first caps)) :: fr1) { σ1 with ou := ou' } v2 { σ1 with ou := ou' } /\
   ACode ⟨P,T,Γ,fn.ntmps,ds⟩ c2 (Q02 ⟨P,T,Γ,fn.ntmps,ds⟩ (Fin ⟨P,T,Γ,fn.ntmps,ds⟩ fn Q) [.code rest]) ((d8,v2)::(d7,r)::(d6,v0)::(d5,.one (.fn (.func gd) first caps))::fr1) { σ1 with ou:=ou' })
  (hdef:∀(us:Array Value) (w:World),(callFunc gd us).run P w=.ok (.enter gd us) w/\(us.size=first.length+caps.length->CallsD P gd us .returning w fun e u' w'=>(∃v,e=.returned v)/\u'=.returning/\w'=w))
  (hcatch:OuOk ou->∀ps ou',QP1 ps ou'->OuOk ou'->Caught P T Γ fn gd first caps Q ps ((d6,v0)::(d5,.one (.fn (.func gd) first caps))::fr1) { σ1 with ou:=ou' }):AFn P Γ g args ou Q:=by
 refine⟨fun vs0 w=>?_,fun F w C cargs h0' hi hr=>?_⟩
 ·simp[callFunc,hf,hb]
  simpa using hname
 ·refine calls_of_wp_defers hf hb ?_
  have hfr:=frOk_in hr hlen
  have hou:=OuOk.of_inv hi h0'
  refine wp_seq (wp_mono (h0 hou F w C w C _ (Goes.refl _ _ _ _) hi hfr) fun e a w1 hp=>?_)
  obtain⟨hda,fr',σ',C1,hg1',hi1,hf1,rfl,rfl,rfl⟩:=hp
  have ha:a=⟨a.tmps,[]⟩:=by cases a;simp_all
  rw[ha]
  refine wp_seq (wp_region_lit (l:=[o0,o1]) ?_)
  refine wpList_plain hg0 fun N' hN=>hs0 F w1 C1 a.tmps hi1 hf1 N' _ fun u w2 C2 hgo2 hi2 hr2=>?_
  refine hN _ _ ?_
  have hf2:FrOk w2 C2 fn.ntmps ((d5,.one (.fn (.func gd) first caps))::fr') (Act.put ⟨a.tmps,[]⟩ o0.dst u).tmps:=by
   have:=Q0v (ds:=[]) (dst:=some d5) (hf1.ext hgo2.chg) (by simp[dstOk,Nat.blt];omega) hr2
   rw[hd0];exact this
  rw[Q1h]
  generalize hat:(Act.put ⟨a.tmps,[]⟩ o0.dst u).tmps=tm2 at hf2
  refine wpList_plain hg1 fun N2 hN2=>?_
  obtain⟨u5,hu5,hr5⟩:=hf2.2 d5 (.one (.fn (.func gd) first caps)) (by simp[Fr.get])
  simp only[RF,R]at hr5
  obtain⟨xs,ys,rfl,hx,hy⟩:=hr5
  have hev:Act.eval ⟨tm2,[]⟩ (.tmp d5)=.func (.func gd) xs.toArray ys.toArray:=by
   simp[Act.eval,hu5]
  have hrun:(execOp (Act.eval ⟨tm2,[]⟩) o1).run P w2=.ok (.defer ⟨.fn (.func gd) ys.toArray,xs.toArray⟩) w2:=by
   unfold execOp
   simp only[ho1,resolve,Sem.run_bind,hev,Deferred.ofValue,Sem.run_pure,Result.andThen_ok]
   simp
  unfold Oper.wp
  rw[hrun,Oper.upon_defer]
  refine hN2 _ _ ?_
  rw[hd1]
  show Code.wp P _ _ ⟨tm2,[⟨.fn (.func gd) ys.toArray,xs.toArray⟩]⟩ w2
  obtain⟨D,hD⟩:∃D:List Deferred,D=[⟨.fn (.func gd) ys.toArray,xs.toArray⟩]:=⟨_,rfl⟩
  rw[←hD]
  -- the region with the call
  refine wp_seq (wp_seq (wp_region_lit (l:=[p0,p1,p2]) ?_))
  refine wpList_plain kg0 fun N3 hN3=>ks0 D F w2 C2 tm2 hi2 hf2 N3 _ fun u3 w3 C3 hgo3 hi3 hr3=>?_
  refine hN3 _ _ ?_
  have hf3:FrOk w3 C3 fn.ntmps ((d6,v0)::(d5,.one (.fn (.func gd) first caps))::fr') (Act.put ⟨tm2,D⟩ p0.dst u3).tmps:=by
   have:=Q0v (ds:=D) (dst:=some d6) (hf2.ext hgo3.chg) (by simp[dstOk,Nat.blt];omega) hr3
   rw[kd0];exact this
  rw[Q1h]
  generalize hat3:(Act.put ⟨tm2,D⟩ p0.dst u3).tmps=tm3 at hf3
  refine wpList_plain kg1 fun N4 hN4=>?_
  have hcallee:=Q00 (a:=⟨tm3,D⟩) hi3 hf3 kf1
  simp only[RF,R]at hcallee
  obtain⟨cx,cy,hfv,hcx,hcy⟩:=hcallee
  simp only[RV]at hcx hcy
  subst hcx;subst hcy
  have hvs:=Q14 (a:=⟨tm3,D⟩) hi3 hf3 ka1
  have hrun4:(execOp (Act.eval ⟨tm3,D⟩) p1).run P w3=.ok (.enter gc (pargs.toList.map (Act.eval ⟨tm3,D⟩)).toArray) w3:=by
   unfold execOp
   simp only[ko1,resolve,Sem.run_bind,hfv,Deferred.ofValue,Sem.run_pure,Result.andThen_ok,invoke,kc1.1]
   congr 2
   apply Array.ext'
   simp
  unfold Oper.wp
  rw[hrun4,Oper.upon_enter]
  have hc1:Chg isO w3 C3 w3 { C3 with nl:=0 }:=⟨fun _ _=>rfl,fun _ h=>h,fun i hp ho=>⟨by cases i with|l k=>cases hp|o k=>exact ho,rfl,rfl⟩⟩
  have hgAll:Goes F isO w C w3 C3:=(hg1'.trans hgo2.toO).trans hgo3.toO
  have hxs:xs.length=first.length:=RV.len hx
  have hys:ys.length=caps.length:=RV.len hy
  have fin:∀(a3:Act) (wz:World) (frz:Fr) (σz:St) (Cz:Ctx),a3.defers=D->Goes F isO w C wz Cz->Inv Γ F wz Cz σz->FrOk wz Cz fn.ntmps frz a3.tmps->Fin ⟨P,T,Γ,fn.ntmps,D⟩ fn Q frz σz->Leaves P fn a3.tmps (fun e w'=>∃v r ou' C',e=.returned v/\Goes F isO w C w' C'/\C'.nl=0/\Inv Γ F w' C' ⟨0,[],ou'⟩/\RF w' C' r v/\Q r ou') a3.defers .returning wz:=fun a3 wz frz σz Cz hd3 hgz hiz hfz hfin=>by
   obtain⟨v,hv,hR⟩:=Q98 hT h0' hi hgz hiz hfz hfin
   rw[hd3,hD]
   refine⟨by simp,.func gd,ys.toArray,gd,xs.toArray++ys.toArray,rfl,?_,((hdef _ wz).2 (by simp[hxs,hys])).mono ?_⟩
   ·show (invoke (.fn (.func gd) ys.toArray) xs.toArray).run P wz=_
    simp only[invoke]
    exact (hdef _ wz).1
   ·rintro e u' w' ⟨⟨v',rfl⟩,rfl,rfl⟩
    exact⟨v,hv,hR⟩
  refine (kc1.2 (Q1w w3 C3 σ'.ou) w3 { C3 with nl:=0 } _ rfl (hi3.forCallee (hou1 hou) hΓ) (RFs.chg hc1 _ _ ki1 hvs)).mono fun e w4 hh=>?_
  rcases hh with ⟨v,r,ou',C',rfl,hgo,h04,hi',hr4,hQ⟩|⟨ps,ou',C',rfl,hgo,h04,hi',hQ⟩
  ·obtain⟨hb1,hb2,hb3⟩:=hi3.back hgo h04 hi'
   refine hN4 _ _ ?_
   have hrid:r.ids isO:=FV.ids_mono (Q31 h04) r (RF.idsOk r v hr4)
   obtain⟨v2,hv2⟩:=hnext hou r ou' hQ hrid (OuOk.of_inv hi' h04)
   obtain⟨hst2,hrest⟩:=hv2 D
   have hf4:FrOk w4 (C3.behind C') fn.ntmps ((d7,r)::(d6,v0)::(d5,.one (.fn (.func gd) first caps))::fr') (Act.put ⟨tm3,D⟩ p1.dst v).tmps:=by
    have:=Q0v (ds:=D) (dst:=some d7) (hf3.ext hb1.chg) (by simp[dstOk,Nat.blt];omega) (RF.chg hb3 r v hrid hr4)
    rw[kd1];exact this
   rw[Q1h]
   generalize hat4:(Act.put ⟨tm3,D⟩ p1.dst v).tmps=tm4 at hf4
   refine wpList_plain kg2 fun N5 hN5=>hst2 F w4 _ tm4 hb2 hf4 N5 _ fun u5 w5 C5 hgo5 hi5 hr5=>?_
   refine hN5 _ _ ?_
   have hf5:FrOk w5 C5 fn.ntmps ((d8,v2)::(d7,r)::(d6,v0)::(d5,.one (.fn (.func gd) first caps))::fr') (Act.put ⟨tm4,D⟩ p2.dst u5).tmps:=by
    have:=Q0v (ds:=D) (dst:=some d8) (hf4.ext hgo5.chg) (by simp[dstOk,Nat.blt];omega) hr5
    rw[kd2];exact this
   rw[Q1h]
   generalize hat5:(Act.put ⟨tm4,D⟩ p2.dst u5).tmps=tm5 at hf5
   show c2.wp P _ ⟨tm5,D⟩ w5
   refine wp_mono (hrest F w C w5 C5 tm5 ((hgAll.trans hb1.toO).trans hgo5.toO) hi5 hf5) fun e a3 w6 hp=>?_
   obtain⟨hd3,fr3,σ3,C6,hg6,hi6,hf6,hk⟩:=hp
   cases e with
   |normal=>
    have hk:ACode ⟨P,T,Γ,fn.ntmps,D⟩ rest (Q02 ⟨P,T,Γ,fn.ntmps,D⟩ (Fin ⟨P,T,Γ,fn.ntmps,D⟩ fn Q) []) fr3 σ3:=hk
    have ha3:a3=⟨a3.tmps,D⟩:=by
     obtain⟨t3,d3⟩:=a3
     have h:d3=D:=hd3
     rw[h]
    show rest.wp P _ a3 w6
    rw[ha3]
    refine wp_mono (hk F w C w6 C6 a3.tmps hg6 hi6 hf6) fun e a4 w7 hp=>?_
    obtain⟨hd4,fr4,σ4,C7,hg7,hi7,hf7,hk7⟩:=hp
    cases e with
    |normal=>exact fin a4 w7 fr4 σ4 C7 hd4 hg7 hi7 hf7 hk7
    |ret=>exact fin a4 w7 fr4 σ4 C7 hd4 hg7 hi7 hf7 hk7
    |panic ps=>exact hk7.elim
    |exit id=>exact hk7.elim
    |goto l=>exact hk7.elim
    |outgrown=>exact hk7.elim
   |ret=>exact fin a3 w6 fr3 σ3 C6 hd3 hg6 hi6 hf6 hk
   |panic ps=>exact hk.elim
   |exit id=>exact hk.elim
   |goto l=>exact hk.elim
   |outgrown=>exact hk.elim
  ·obtain⟨hb1,hb2,hb3⟩:=hi3.back hgo h04 hi'
   show Leaves P fn tm3 _ D (.panicking ps) w4
   have hx4:RV w4 (C3.behind C') first xs:=(hx.ext hgo3.chg).ext hb1.chg
   have hy4:RV w4 (C3.behind C') caps ys:=(hy.ext hgo3.chg).ext hb1.chg
   have hcd:=hcatch hou ps ou' hQ (OuOk.of_inv hi' h04) F w4 (C3.behind C') tm3 xs ys hb2 (hf3.ext hb1.chg) hx4 hy4
   rw[hD]
   refine⟨by simp,.func gd,ys.toArray,gd,xs.toArray++ys.toArray,rfl,?_,?_⟩
   ·show (invoke (.fn (.func gd) ys.toArray) xs.toArray).run P w4=_
    simp only[invoke]
    exact (hdef _ w4).1
   ·rw[show xs.toArray++ys.toArray=(xs++ys).toArray by simp]
    refine hcd.mono ?_
    rintro e m' w' ⟨⟨v',rfl⟩,hm,C7,fr7,σ7,k1,k2,k3,k4⟩
    obtain⟨v,hv,hR⟩:=Q98 (ds:=D) hT h0' hi ((hgAll.trans hb1.toO).trans k1) k2 k3 (k4 D)
    show Leaves P fn tm3 _ [] (settle m') w'
    rw[hm]
    exact⟨v,hv,hR⟩
end Go.Abs
namespace Go.CoreX
structure Alt where
 tag:Int
 binds:List Int
 deriving DecidableEq
structure Ex where
 op:Int
 n:Int
 binds:List Int
 kids:List Int
 alts:List Alt
 deriving DecidableEq
inductive Tr where
 |mk (op n:Int) (binds:List Int) (kids:List Tr) (alts:List Alt)
instance:Inhabited Tr:=⟨.mk 0 0 [] [] []⟩
def Tr.op:Tr->Int|.mk o _ _ _ _=>o
def Tr.n:Tr->Int|.mk _ n _ _ _=>n
def Tr.binds:Tr->List Int|.mk _ _ b _ _=>b
def Tr.kids:Tr->List Tr|.mk _ _ _ k _=>k
def Tr.alts:Tr->List Alt|.mk _ _ _ _ a=>a
@[simp] theorem Tr.op_mk (o n b k a):(Tr.mk o n b k a).op=o:=rfl
@[simp] theorem Tr.n_mk (o n b k a):(Tr.mk o n b k a).n=n:=rfl
@[simp] theorem Tr.binds_mk (o n b k a):(Tr.mk o n b k a).binds=b:=rfl
@[simp] theorem Tr.kids_mk (o n b k a):(Tr.mk o n b k a).kids=k:=rfl
@[simp] theorem Tr.alts_mk (o n b k a):(Tr.mk o n b k a).alts=a:=rfl

def Q2i (ts:List Tr)(x:Ex):Tr:=.mk x.op x.n x.binds (x.kids.map fun k=>ts.getD k.toNat default) x.alts
def Qd1 (ts:List Tr)(x:Ex):List Tr:=ts++[Q2i ts x]
def growL (e:List Ex):List Tr:=e.foldl Qd1 []
def grow (e:List Ex):Tr:=(growL e).getD (e.length - 1) default

mutual
def listT (out:List Ex):Tr->List Ex
 |.mk o n b k a=>(Q04 out k).1++[⟨o,n,b,(Q04 out k).2,a⟩]
def Q04 (out:List Ex):List Tr->List Ex×List Int
 |[]=>(out,[])
 |t::ts=>((Q04 (listT out t) ts).1,(((listT out t).length:Int) - 1)::(Q04 (listT out t) ts).2)
end

def Q1o (op:Int)(binds:List Int)(alts:List Alt):List Int:=(if op=2∨op=4∨op=5 then binds else [])++alts.flatMap (·.binds)
def Q2f (op:Int)(binds:List Int)(alts:List Alt)(k:Int):List Int:=
 if op=2∨op=5∨(op=4/\k=1)then binds else if 0 < (alts.length:Int)/\0 < k/\k<=alts.length then (alts.getD (k - 1).toNat ⟨0,[]⟩).binds else []

def Q17 (i:Nat)(s:Option (List Int×List Int))(k:Int):Option (List Int×List Int):=
 s.bind fun dp=>if k < 0∨(i:Int)<=k then none else some (dp.1.set i (if dp.1.getD k.toNat 0 > dp.1.getD i 0 then dp.1.getD k.toNat 0 else dp.1.getD i 0),dp.2.set k.toNat (dp.2.getD k.toNat 0+1))
def Q1c (s:Option (List Int×List Int))(x:Ex×Nat):Option (List Int×List Int):=
 (x.1.kids.foldl (Q17 x.2) s).map fun dp=>(dp.1.set x.2 (dp.1.getD x.2 0+1),dp.2)
def Q3o (e:List Ex):Option (List Int×List Int):=e.zipIdx.foldl Q1c (some (List.replicate e.length 0,List.replicate e.length 0))
def Q1r (n:Nat)(p:List Int)(i:Nat):Bool:=!((p.getD i 0==1)==decide ((i:Int) < n - 1))
def Q1p (e:List Ex):Int:=
 if 4096 < e.length then 2 else if e.length=0 then 3 else
 match Q3o e with
 |none=>3
 |some (d,p)=>if (List.range e.length).any (Q1r e.length p)=true then 3 else if 400 < d.getD (e.length - 1) 0 then 2 else 0

def between (n low high:Int):Bool:=decide (low<=n)&&decide (n<=high)
def Q3g (op:Int):Bool:=op==14||op==15||op==16
def Q3h (op:Int):Bool:=op==2||op==5||op==12||op==13
def Q42 (x:Ex)(i:Nat)(a:Alt):Bool:=
 ((x.alts.take i).any (fun b=>b.tag==a.tag)||decide (a.tag < -1)) ||
 (x.op==7&&a.tag==-1&&(decide ((i:Int) < x.alts.length - 1)||decide (0 < a.binds.length))) ||
 ((x.op==13&&!(((i:Int)==0)==(a.tag==-1)))||(x.op==13&&!((a.binds.length:Int)==(if 2 < (i:Int)+1 then 2 else (i:Int)+1))))
def Q62 (x:Ex):Bool:=!(x.alts.zipIdx.any fun ai=>Q42 x ai.2 ai.1)&&((x.kids.length:Int)==1+x.alts.length&&(x.op==7||decide (0 < x.alts.length)))
def Q2k:List Int:=[2,2,2,2,2,2,2,1,2,1,2,3]
def wants (x:Ex):Option (Int×Int×Bool):=
 if x.op=0∨x.op=1∨x.op=17 then some (0,0,true) else
 if x.op=2 then some (1,x.binds.length,false) else
 if x.op=3 then some (if (x.kids.length:Int) > 1 then x.kids.length else 1,0,false) else
 if x.op=4 then some (2,1,false) else
 if x.op=5 then some (x.binds.length+1,if (x.binds.length:Int) > 1 then x.binds.length else 1,false) else
 if x.op=6 then some (x.kids.length,0,true) else
 if x.op=8 then (if between x.n 0 11=true then some (Q2k.getD x.n.toNat 0,0,true)else none) else
 if x.op=9 then some (x.binds.length,x.binds.length,false) else
 if x.op=10∨x.op=12 then some (1,0,true) else
 if x.op=11 then some (2,0,true) else
 if x.op=14∨x.op=15 then some (x.kids.length,0,true) else
 if x.op=16 then some (1,0,true)else none
def shape (x:Ex):Bool:=
 if x.op=7∨x.op=13 then Q62 x&&x.binds.length==0&&x.n==0 else
 match wants x with
 |none=>false
 |some (k,b,u)=>(x.kids.length:Int)==k&&(x.binds.length:Int)==b&&x.alts.length==0&&(u||x.n==0)
def lowN (op:Int):Int:=if op=1 then -1073741824 else if op=17 then 1 else 0
def highN (op:Int):Int:=if op=1 then 1073741823 else if op=6 then 255 else if op=17 then 6 else if op=16 then 15 else 1048575
def Q2g (n:Int):Bool:=between n 0 1048575
def Q3l (op:Int)(a:Alt):Bool:=!((decide (255 < a.tag)&&op==7)||decide (1048576<=a.tag))&&a.binds.all Q2g
def fields (x:Ex):Int:=x.alts.foldl (fun f a=>if (a.binds.length:Int) > f then a.binds.length else f) x.binds.length
def ranges (x:Ex):Int:=
 if between x.n (lowN x.op) (highN x.op)=false then 4 else
 if x.binds.all Q2g=false then 4 else
 if x.alts.all (Q3l x.op)=false then 4 else
 if ((decide (fields x > (if x.op=2 then 6 else 16))||((x.op==6||x.op==15)&&decide (16 < (x.kids.length:Int))))||(x.op==3&&decide (7 < (x.kids.length:Int))))||(x.op==14&&decide (6 < (x.kids.length:Int)))then 2 else 0
def Q1k (e:List Ex)(x:Ex)(i:Nat):Bool:=
 (x.op==5&&!((e.getD (x.kids.getD i 0).toNat ⟨0,0,[],[],[]⟩).op==2))||(x.op==9&&decide (0 < i)&&decide (x.binds.getD (i - 1) 0 ≥ x.binds.getD i 0))
def Q0z (e:List Ex)(x:Ex):Int:=
 if shape x=false then 3 else if ranges x≠0 then ranges x else if (List.range x.binds.length).any (Q1k e x)=true then 3 else 0
def Q0m (flat:Bool)(e:List Ex)(x:Ex):Int:=if (flat&&Q3h x.op)||(!flat&&Q3g x.op)then 3 else Q0z e x
def Q1m {α:Type}(f:α->Int):List α->Int
 |[]=>0
 |a::l=>if f a≠0 then f a else Q1m f l

def Q4h:List Int->Bool
 |[]=>false
 |n::l=>l.contains n||Q4h l
def Q0n (x:Ex):List Int:=Q1o x.op x.binds x.alts
def Q0b (e:List Ex):List Int:=e.flatMap Q0n

mutual
def occT (sc:List Int):Tr->List Int
 |.mk o n b k a=>(if o=0/\sc.contains n=false then [n]else [])++occTs sc o b a 0 k
def occTs (sc:List Int)(o:Int)(b:List Int)(a:List Alt):Nat->List Tr->List Int
 |_,[]=>[]
 |i,t::ts=>occT (Q2f o b a i++sc) t++occTs sc o b a (i+1) ts
end
def Q3u (n:Int):List Int->List Int
 |[]=>[n]
 |m::l=>if n < m then n::m::l else if n=m then m::l else m::Q3u n l
def sortS (l:List Int):List Int:=l.foldr Q3u []
def Q2j (t:Tr):List Int:=sortS (occT [] t)

def body (e:List Ex)(params:List Int)(flat:Bool):Int:=
 if Q1p e≠0 then Q1p e else
 if Q1m (Q0m flat e) e≠0 then Q1m (Q0m flat e) e else
 if Q4h (params++Q0b e)=true then 7 else
 if (Q2j (grow e)).all (fun n=>params.contains n)=true then 0 else 6
def check (e:List Ex):Int:=body e [] false
end Go.CoreX
namespace Go.CoreX
structure Lab where
 op:Int
 n:Int
 binds:List Int
 ops:List Int
 alts:List Alt
 deriving DecidableEq
mutual
def sumT (g:Lab->Int):Tr->Int
 |.mk o n b k a=>g ⟨o,n,b,k.map Tr.op,a⟩+sumTs g k
def sumTs (g:Lab->Int):List Tr->Int
 |[]=>0
 |t::ts=>sumT g t+sumTs g ts
end
def mx (m d:Int):Int:=if d > m then d else m
mutual
def Q28:Tr->Int
 |.mk _ _ _ k _=>(Q76 k).foldl mx 0+1
def Q76:List Tr->List Int
 |[]=>[]
 |t::ts=>Q28 t::Q76 ts
end
theorem Q5t:∀l:List Tr,Q76 l=l.map Q28
 |[]=>rfl
 |t::ts=>by simp[Q76,Q5t ts]
theorem Qc2(g:Lab->Int):∀l:List Tr,sumTs g l=(l.map (sumT g)).sum
 |[]=>rfl
 |t::ts=>by simp[sumTs,Qc2 g ts]
theorem Q20(e:List Ex)(x:Ex):growL (e++[x])=growL e++[Q2i (growL e) x]:=by simp[growL,Qd1]
theorem Q4v{α:Type}{P:List α->Prop}(h0:P [])(h1:∀l x,P l->P (l++[x]))(l:List α):P l:=by
 have:∀l:List α,P l.reverse:=by
  intro l
  induction l with
  |nil=>exact h0
  |cons a l ih=>rw[List.reverse_cons];exact h1 _ _ ih
 simpa using this l.reverse
theorem Q1a(e:List Ex):(growL e).length=e.length:=by
 refine Q4v (P:=fun e=>(growL e).length=e.length) rfl (fun l x ih=>?_) e
 rw[Q20];simp[ih]
theorem Qgl(e l:List Ex):∃r,growL (e++l)=growL e++r:=by
 refine Q4v (P:=fun l=>∃r,growL (e++l)=growL e++r) ⟨[],by simp⟩ (fun l x ih=>?_) l
 obtain⟨r,h⟩:=ih
 exact⟨r++[Q2i (growL (e++l)) x],by rw[←List.append_assoc,Q20,h];simp⟩
theorem Q68{α:Type}{l r:List α}{i:Nat}{d:α}(h:i < l.length):(l++r).getD i d=l.getD i d:=by
 simp[List.getD,List.getElem?_append_left h]
theorem Q3w{e l:List Ex}{i:Nat}(h:i < e.length):(growL (e++l)).getD i default=(growL e).getD i default:=by
 obtain⟨r,hr⟩:=Qgl e l
 rw[hr,Q68 (by rw[Q1a];exact h)]
theorem Q67(e l:List Ex)(x:Ex):(growL (e++x::l)).getD e.length default=Q2i (growL e) x:=by
 rw[show e++x::l=(e++[x])++l by simp,Q3w (by simp),Q20]
 simp[List.getD,Q1a]
theorem Qgk(e:List Ex)(x:Ex):grow (e++[x])=Q2i (growL e) x:=by
 unfold grow
 have:=Q67 e [] x
 simpa using this
def cnt:List Ex->Nat->Nat
 |[],_=>0
 |x::e,i=>x.kids.count (i:Int)+cnt e i
theorem Qbh(e l:List Ex)(i:Nat):cnt (e++l) i=cnt e i+cnt l i:=by
 induction e with
 |nil=>simp[cnt]
 |cons x e ih=>simp[cnt,ih,Nat.add_assoc]
def Q15 (e:List Ex):Prop:=∀(j:Nat)(x:Ex),e[j]?=some x->∀k∈x.kids,0<=k/\k < (j:Int)
theorem Q2t{e:List Ex}{x:Ex}:Q15 (e++[x])↔Q15 e/\∀k∈x.kids,0<=k/\k < e.length:=by
 constructor
 ·intro h
  refine⟨fun j y hj=>h j y ?_,?_⟩
  ·rw[List.getElem?_append_left (List.getElem?_eq_some_iff.1 hj).1];exact hj
  ·exact h e.length x (by simp)
 ·intro ⟨h1,h2⟩ j y hj
  by_cases hl:j < e.length
  ·rw[List.getElem?_append_left hl]at hj;exact h1 j y hj
  ·rw[List.getElem?_append_right (by omega)]at hj
   have:j=e.length:=by
    have:=(List.getElem?_eq_some_iff.1 hj).1
    simp at this;omega
   subst this
   simp at hj;subst hj;exact h2
structure Run (pre:List Ex)(N:Nat)(d p:List Int):Prop where
 dl:d.length=N
 pl:p.length=N
 pv:∀i,i < N->p.getD i 0=cnt pre i
 dv:∀i,i < pre.length->d.getD i 0=Q28 ((growL pre).getD i default)
 d0:∀i,pre.length<=i->d.getD i 0=0
theorem Q32(i:Nat):∀ks:List Int,ks.foldl (Q17 i) none=none
 |[]=>rfl
 |k::ks=>by rw[List.foldl_cons];exact Q32 i ks
theorem Q3f{l:List Int}{i:Nat}{v:Int}(h:i < l.length):(l.set i v).getD i 0=v:=by simp[List.getD,h]
theorem getD_set_ne{l:List Int}{i j:Nat}{v:Int}(h:i≠j):(l.set i v).getD j 0=l.getD j 0:=by simp[List.getD,List.getElem?_set_ne h]
theorem Qhs{l:List Int}{i:Nat}(h:i < l.length):l.set i (l.getD i 0)=l:=by
 apply List.ext_getElem?
 intro j
 by_cases hj:i=j
 ·subst hj;simp[h,List.getD,List.getElem?_eq_getElem h]
 ·rw[List.getElem?_set_ne hj]
theorem Qco{i N:Nat}:∀(ks:List Int)(d p:List Int),d.length=N->p.length=N->i < N->(∀k∈ks,0<=k/\k < i)->
  ∃p',ks.foldl (Q17 i) (some (d,p))=some (d.set i (ks.foldl (fun m k=>mx m (d.getD k.toNat 0)) (d.getD i 0)),p')/\p'.length=N/\∀j,j < N->p'.getD j 0=p.getD j 0+ks.count (j:Int)
 | [], d, p, hd, hp, hi, _ => ⟨p, by rw [List.foldl_nil, List.foldl_nil, Qhs (show i < d.length by omega)], hp, by simp⟩
 |k::ks,d,p,hd,hp,hi,hk=>by
  obtain⟨k0,k1⟩:=hk k (by simp)
  have hks:∀k∈ks,0<=k/\k < i:=fun y hy=>hk y (by simp[hy])
  obtain⟨p',h1,h2,h3⟩:=Qco ks (d.set i (mx (d.getD i 0) (d.getD k.toNat 0))) (p.set k.toNat (p.getD k.toNat 0+1)) (by simpa using hd) (by simpa using hp) hi hks
  refine⟨p',?_,h2,fun j hj=>?_⟩
  ·rw[List.foldl_cons]
   have e1:Q17 i (some (d,p)) k=some (d.set i (mx (d.getD i 0) (d.getD k.toNat 0)),p.set k.toNat (p.getD k.toNat 0+1)):=by
    simp only[Q17,Option.bind_some,mx]
    rw[if_neg (by omega)]
   rw[e1,h1,List.set_set,Q3f (by omega),List.foldl_cons]
   congr 2
   have:∀(l:List Int) (m:Int),(∀k∈l,0<=k/\k < i)->l.foldl (fun m k'=>mx m ((d.set i (mx (d.getD i 0) (d.getD k.toNat 0))).getD k'.toNat 0)) m=l.foldl (fun m k'=>mx m (d.getD k'.toNat 0)) m:=by
    intro l
    induction l with
    |nil=>intro m _;rfl
    |cons y l ih=>
     intro m hl
     have hy:=hl y (by simp)
     simp only[List.foldl_cons]
     rw[getD_set_ne (by omega),ih _ (fun z hz=>hl z (by simp[hz]))]
   rw[this ks _ hks]
  ·rw[h3 j hj,List.count_cons]
   by_cases hkj:k.toNat=j
   ·subst hkj
    rw[Q3f (by omega)]
    have:(k==((k.toNat:Nat):Int))=true:=by simp;omega
    rw[if_pos this];omega
   ·rw[getD_set_ne hkj]
    have:¬(k==(j:Int))=true:=by simp;omega
    rw[if_neg this];omega
theorem Qcp{i N:Nat}:∀(ks:List Int)(d p:List Int),¬(∀k∈ks,0<=k/\k < i)->ks.foldl (Q17 i) (some (d,p))=none
 | [], d, p, h => absurd (by simp) h
 |k::ks,d,p,h=>by
  rw[List.foldl_cons]
  by_cases hk:0<=k/\k < i
  ·have e1:Q17 i (some (d,p)) k=some (d.set i (mx (d.getD i 0) (d.getD k.toNat 0)),p.set k.toNat (p.getD k.toNat 0+1)):=by
    simp only[Q17,Option.bind_some,mx]
    rw[if_neg (by omega)]
   rw[e1]
   refine Qcp (N:=N) ks _ _ fun h2=>h ?_
   intro y hy
   rcases List.mem_cons.1 hy with rfl|hy
   ·exact hk
   ·exact h2 y hy
  ·have e1:Q17 i (some (d,p)) k=none:=by
    simp only[Q17,Option.bind_some]
    rw[if_pos (by omega)]
   rw[e1,Q32]
theorem Q81(f:Int->Int):∀(l:List Int)(m:Int),l.foldl (fun m k=>mx m (f k)) m=(l.map f).foldl mx m
 |[],_=>rfl
 |k::l,m=>by simp[Q81 f l]
theorem Q9b(ts:List Tr)(x:Ex):Q28 (Q2i ts x)=(x.kids.map fun k=>Q28 (ts.getD k.toNat default)).foldl mx 0+1:=by
 simp only[Q2i,Q28,Q5t,List.map_map];rfl
theorem Run.step{pre:List Ex}{N:Nat}{d p:List Int}{x:Ex}(h:Run pre N d p)(hN:pre.length < N)(hk:∀k∈x.kids,0<=k/\k < pre.length):∃d' p',Q1c (some (d,p)) (x,pre.length)=some (d',p')/\Run (pre++[x]) N d' p':=by
 obtain⟨p',h1,h2,h3⟩:=Qco x.kids d p h.dl h.pl hN hk
 have hdl:=h.dl
 refine⟨_,p',by simp only[Q1c,h1,Option.map_some];rfl,by simpa using hdl,h2,fun i hi=>?_,fun i hi=>?_,fun i hi=>?_⟩
 ·rw[h3 i hi,h.pv i hi,Qbh];simp[cnt]
 ·rw[List.set_set]
  simp only[List.length_append,List.length_singleton]at hi
  by_cases e:pre.length=i
  ·subst e
   rw[Q3f (by omega),Q3f (by omega),Q67 pre [] x,Q9b,h.d0 _ (Nat.le_refl _),Q81]
   congr 2
   refine List.map_congr_left fun k hk2=>?_
   have:=hk k hk2
   exact h.dv _ (by omega)
  ·rw[getD_set_ne e,Q3w (by omega),h.dv i (by omega)]
 ·simp only[List.length_append,List.length_singleton]at hi
  rw[List.set_set,getD_set_ne (by omega),h.d0 i (by omega)]
theorem Q52(l:List (Ex×Nat)):l.foldl Q1c none=none:=by
 induction l with
 |nil=>rfl
 |cons x l ih=>
  have:Q1c none x=none:=by simp[Q1c,Q32]
  rw[List.foldl_cons,this,ih]
theorem Qc7{N:Nat}:∀(l pre:List Ex)(d p:List Int),Run pre N d p->Q15 pre->pre.length+l.length=N ->
  (Q15 (pre ++ l) /\ ∃ d' p', (l.zipIdx pre.length).foldl Q1c (some (d, p)) = some (d', p') /\ Run (pre ++ l) N d' p') ∨ (¬ Q15 (pre ++ l) /\ (l.zipIdx pre.length).foldl Q1c (some (d, p)) = none)
 |[],pre,d,p,h,hk,_=>.inl ⟨by simpa using hk,d,p,rfl,by simpa using h⟩
 |x::l,pre,d,p,h,hk,hN=>by
  rw[List.zipIdx_cons,List.foldl_cons]
  simp only[List.length_cons]at hN
  by_cases hx:∀k∈x.kids,0<=k/\k < pre.length
  ·obtain⟨d1,p1,e1,h1⟩:=h.step (by omega) hx
   rw[e1]
   have:=Qc7 l (pre++[x]) d1 p1 h1 (Q2t.2 ⟨hk,hx⟩) (by simp;omega)
   simpa[List.append_assoc]using this
  ·right
   have e1:Q1c (some (d,p)) (x,pre.length)=none:=by simp only[Q1c,Qcp (N:=N) x.kids d p hx,Option.map_none]
   rw[e1,Q52]
   refine⟨fun h2=>hx ?_,rfl⟩
   exact h2 pre.length x (by simp)
theorem Q9m(e:List Ex):(Q15 e/\∃d p,Q3o e=some (d,p)/\Run e e.length d p)∨(¬Q15 e/\Q3o e=none):=by
 have h0:Run [] e.length (List.replicate e.length 0) (List.replicate e.length 0):=by
  have z:∀i,(List.replicate e.length (0:Int)).getD i 0=0:=fun i=>by
   simp only[List.getD]
   rw[List.getElem?_replicate];split <;> rfl
  exact⟨by simp,by simp,fun i _=>by rw[z];rfl,fun i hi=>by simp at hi,fun i _=>z i⟩
 have:=Qc7 e [] _ _ h0 (fun j x hj=>by simp at hj) (by simp)
 simpa[Q3o]using this
structure IsTree (e:List Ex):Prop where
 ne:e≠[]
 k:Q15 e
 c:∀i,i < e.length->(cnt e i=1↔i+1 < e.length)
theorem Q6e(e:List Ex):Q1p e=0↔e.length<=4096/\IsTree e/\Q28 (grow e)<=400:=by
 unfold Q1p
 by_cases h1:4096 < e.length
 ·rw[if_pos h1];exact⟨fun h=>absurd h (by decide),fun h=>by omega⟩
 rw[if_neg h1]
 by_cases h2:e.length=0
 ·rw[if_pos h2]
  exact⟨fun h=>absurd h (by decide),fun h=>absurd (List.length_eq_zero_iff.1 h2) h.2.1.ne⟩
 rw[if_neg h2]
 rcases Q9m e with ⟨hk,d,p,h3,hr⟩|⟨hk,h3⟩
 ·rw[h3]
  have hd:d.getD (e.length - 1) 0=Q28 (grow e):=hr.dv _ (by omega)
  have hodd:(List.range e.length).any (Q1r e.length p)=true↔¬∀i,i < e.length->(cnt e i=1↔i+1 < e.length):=by
   rw[List.any_eq_true]
   constructor
   ·rintro⟨i,hi,hb⟩ h
    have hi':i < e.length:=by simpa using hi
    have:=h i hi'
    have hc:=hr.pv i hi'
    simp only[Q1r,Bool.not_eq_true',beq_eq_false_iff_ne,ne_eq]at hb
    apply hb
    rw[Bool.eq_iff_iff,beq_iff_eq,decide_eq_true_iff,hc]
    omega
   ·intro h
    simp only[Classical.not_forall]at h
    obtain⟨i,hi,hne⟩:=h
    refine⟨i,by simpa using hi,?_⟩
    have hc:=hr.pv i hi
    simp only[Q1r,Bool.not_eq_true',beq_eq_false_iff_ne,ne_eq]
    intro hb
    rw[Bool.eq_iff_iff,beq_iff_eq,decide_eq_true_iff,hc]at hb
    apply hne
    omega
  simp only
  by_cases h4:(List.range e.length).any (Q1r e.length p)=true
  ·rw[if_pos h4]
   exact⟨fun h=>absurd h (by decide),fun h=>absurd h.2.1.c (hodd.1 h4)⟩
  ·rw[if_neg h4,hd]
   have hc:∀i,i < e.length->(cnt e i=1↔i+1 < e.length):=by
    apply Classical.byContradiction
    intro hn
    exact h4 (hodd.2 hn)
   by_cases h5:400 < Q28 (grow e)
   ·rw[if_pos h5];exact⟨fun h=>absurd h (by decide),fun h=>by omega⟩
   ·rw[if_neg h5]
    exact⟨fun _=>⟨by omega,⟨fun h=>h2 (by simp[h]),hk,hc⟩,by omega⟩,fun _=>rfl⟩
 ·rw[h3]
  simp only
  exact⟨fun h=>absurd h (by decide),fun h=>absurd h.2.1.k hk⟩

def wsum (c:Nat->Int):Nat->List Int->Int
 |_,[]=>0
 |j,v::vs=>c j * v+wsum c (j+1) vs
theorem Q8h(c:Nat->Int):∀(vs us:List Int)(j:Nat),wsum c j (vs++us)=wsum c j vs+wsum c (j+vs.length) us
 |[],us,j=>by simp[wsum]
 |v::vs,us,j=>by
  simp only[List.cons_append,wsum,Q8h c vs us,List.length_cons]
  rw[show j+1+vs.length=j+(vs.length+1) by omega];omega
theorem Q5c{c c':Nat->Int}:∀(vs:List Int)(j:Nat),(∀i,j<=i->i < j+vs.length->c i=c' i)->wsum c j vs=wsum c' j vs
 |[],_,_=>rfl
 |v::vs,j,h=>by
  simp only[wsum]
  rw[h j (by omega) (by simp),Q5c vs (j+1) (fun i h1 h2=>h i (by omega) (by simp;omega))]
theorem Qbx(c c':Nat->Int):∀(vs:List Int)(j:Nat),wsum (fun i=>c i - c' i) j vs=wsum c j vs - wsum c' j vs
 |[],_=>by simp[wsum]
 |v::vs,j=>by
  simp only[wsum,Qbx c c' vs,Int.sub_mul];omega
theorem Qbz(c c':Nat->Int):∀(vs:List Int)(j:Nat),wsum (fun i=>c i+c' i) j vs=wsum c j vs+wsum c' j vs
 |[],_=>by simp[wsum]
 |v::vs,j=>by
  simp only[wsum,Qbz c c' vs,Int.add_mul];omega
theorem Q4p{c:Nat->Int}:∀(vs:List Int)(j:Nat),(∀i,j<=i->i < j+vs.length->c i=0)->wsum c j vs=0
 |[],_,_=>rfl
 |v::vs,j,h=>by
  simp only[wsum]
  rw[h j (by omega) (by simp),Q4p vs (j+1) (fun i h1 h2=>h i (by omega) (by simp;omega))];omega
theorem Qby(k:Int):∀(vs:List Int)(j:Nat),(j:Int)<=k->k < j+vs.length->wsum (fun i=>if k=(i:Int)then 1 else 0) j vs=vs.getD (k.toNat - j) 0
 |[],j,h1,h2=>by simp at h2;omega
 |v::vs,j,h1,h2=>by
  simp only[wsum]
  by_cases e:k=j
  ·subst e
   rw[Q4p vs (j+1) (fun i h3 h4=>if_neg (by omega))]
   simp[List.getD]
  ·rw[if_neg e,Qby k vs (j+1) (by omega) (by simp at h2;omega)]
   rw[show k.toNat - j=(k.toNat - (j+1))+1 by omega]
   simp[List.getD]
theorem Q7j(vs:List Int):∀ks:List Int,(∀k∈ks,0<=k/\k < vs.length)->wsum (fun i=>((ks.count (i:Int):Nat):Int)) 0 vs=(ks.map fun k=>vs.getD k.toNat 0).sum
 |[],_=>by simp;exact Q4p vs 0 (fun _ _ _=>by simp)
 |k::ks,h=>by
  have hk:=h k (by simp)
  have e:wsum (fun i=>(((k::ks).count (i:Int):Nat):Int)) 0 vs=wsum (fun i=>(if k=(i:Int)then 1 else 0)+((ks.count (i:Int):Nat):Int)) 0 vs:=by
   refine Q5c vs 0 fun i _ _=>?_
   rw[List.count_cons]
   by_cases e:k=(i:Int)
   ·simp[e];omega
   ·simp[e]
  rw[e,Qbz,Qby k vs 0 (by omega) (by omega),Q7j vs ks (fun y hy=>h y (by simp[hy]))]
  simp
def labE (e:List Ex)(x:Ex):Lab:=⟨x.op,x.n,x.binds,x.kids.map (fun k=>((growL e).getD k.toNat default).op),x.alts⟩
def labs (e:List Ex):List Lab:=e.map (labE e)
theorem Qfv{e:List Ex}{x:Ex}(h:Q15 (e++[x])):labs (e++[x])=labs e++[labE e x]:=by
 obtain⟨h1,h2⟩:=Q2t.1 h
 have same:∀y:Ex,(∀k∈y.kids,0<=k/\k < e.length)->labE (e++[x]) y=labE e y:=by
  intro y hy
  simp only[labE,Lab.mk.injEq,true_and,and_true]
  refine List.map_congr_left fun k hk=>?_
  have:=hy k hk
  rw[Q3w (by omega)]
 simp only[labs,List.map_append,List.map_cons,List.map_nil]
 rw[same x h2]
 congr 1
 refine List.map_congr_left fun y hy=>same y fun k hk=>?_
 obtain⟨j,hj⟩:=List.mem_iff_getElem?.1 hy
 have:=h1 j y hj k hk
 have hl:=(List.getElem?_eq_some_iff.1 hj).1
 omega
theorem Qax(g:Lab->Int)(e:List Ex)(x:Ex):sumT g (Q2i (growL e) x)=g (labE e x)+(x.kids.map fun k=>sumT g ((growL e).getD k.toNat default)).sum:=by
 simp only[Q2i,sumT,Qc2,labE,List.map_map];rfl
theorem sum_pre(g:Lab->Int)(e:List Ex)(h:Q15 e):wsum (fun i=>1 - (cnt e i:Int)) 0 ((growL e).map (sumT g))=((labs e).map g).sum:=by
 revert h
 refine Q4v (P:=fun e=>Q15 e->wsum (fun i=>1 - (cnt e i:Int)) 0 ((growL e).map (sumT g))=((labs e).map g).sum) (fun _=>rfl) (fun e x ih h=>?_) e
 obtain⟨h1,h2⟩:=Q2t.1 h
 have ih:=ih h1
 have hlen:((growL e).map (sumT g)).length=e.length:=by simp[Q1a]
 have hz:cnt (e++[x]) e.length=0:=by
  have:∀(l:List Ex) (n:Nat),(∀y∈l,∀k∈y.kids,k < (n:Int))->cnt l n=0:=by
   intro l
   induction l with
   |nil=>intro n _;rfl
   |cons y l ih2=>
    intro n hl
    simp only[cnt]
    rw[ih2 n (fun z hz=>hl z (by simp[hz])),Nat.add_zero,List.count_eq_zero]
    intro hm
    have:=hl y (by simp) _ hm
    omega
  refine this _ _ fun y hy k hk=>?_
  obtain⟨j,hj⟩:=List.mem_iff_getElem?.1 hy
  have:=h j y hj k hk
  have hl:=(List.getElem?_eq_some_iff.1 hj).1
  simp at hl
  omega
 rw[Q20,List.map_append,Q8h,hlen,Qfv h,List.map_append,List.sum_append,←ih]
 simp only[List.map_cons,List.map_nil,wsum,Nat.zero_add,hz,List.sum_cons,List.sum_nil,Qax]
 have e1:wsum (fun i=>1 - (cnt (e++[x]) i:Int)) 0 ((growL e).map (sumT g))=wsum (fun i=>(1 - (cnt e i:Int)) - ((x.kids.count (i:Int):Nat):Int)) 0 ((growL e).map (sumT g)):=by
  refine Q5c _ 0 fun i _ _=>?_
  rw[Qbh];simp[cnt];omega
 rw[e1,Qbx,Q7j _ _ (fun k hk=>by rw[hlen];exact h2 k hk)]
 have e2:(x.kids.map fun k=>((growL e).map (sumT g)).getD k.toNat 0)=x.kids.map fun k=>sumT g ((growL e).getD k.toNat default):=by
  refine List.map_congr_left fun k hk=>?_
  have:=h2 k hk
  have hl:k.toNat < (growL e).length:=by rw[Q1a];omega
  simp[List.getD,List.getElem?_eq_getElem hl]
 rw[e2]
 omega
theorem Qis{e:List Ex}(h:Q15 e){n:Nat}(hn:e.length<=n+1):cnt e n=0:=by
 have:∀(l:List Ex),(∀y∈l,∀k∈y.kids,k < (n:Int))->cnt l n=0:=by
  intro l
  induction l with
  |nil=>intro _;rfl
  |cons y l ih2=>
   intro hl
   simp only[cnt]
   rw[ih2 (fun z hz=>hl z (by simp[hz])),Nat.add_zero,List.count_eq_zero]
   intro hm
   have:=hl y (by simp) _ hm
   omega
 refine this _ fun y hy k hk=>?_
 obtain⟨j,hj⟩:=List.mem_iff_getElem?.1 hy
 have:=h j y hj k hk
 have hl:=(List.getElem?_eq_some_iff.1 hj).1
 omega
theorem Q8j(g:Lab->Int){e:List Ex}(h:IsTree e):((labs e).map g).sum=sumT g (grow e):=by
 rw[←sum_pre g e h.k]
 obtain⟨pre,x,rfl⟩:∃pre x,e=pre++[x]:=⟨e.dropLast,e.getLast h.ne,(List.dropLast_concat_getLast h.ne).symm⟩
 rw[Q20,List.map_append,Q8h]
 rw[Q4p _ 0 (fun i _ hi=>?_),Qgk]
 ·simp only[List.map_cons,List.map_nil,wsum,List.length_map,Q1a,Nat.zero_add]
  rw[Qis h.k (by simp)];omega
 ·have hi:i < pre.length:=by simpa[Q1a]using hi
  have:=(h.c i (by simp;omega)).2 (by simp;omega)
  rw[this];rfl
end Go.CoreX
namespace Go.CoreX
structure OkT (out:List Ex)(t:Tr):Prop where
 lt:out.length < (listT out t).length
 k:Q15 (listT out t)
 g:∃r,growL (listT out t)=growL out++r++[t]
 c:∀i,cnt (listT out t) i=cnt out i+if out.length<=i/\i+1 < (listT out t).length then 1 else 0
structure OkTs (out:List Ex)(ts:List Tr):Prop where
 le:out.length<=(Q04 out ts).1.length
 k:Q15 (Q04 out ts).1
 g:∃r,growL (Q04 out ts).1=growL out++r
 ix:∀k∈(Q04 out ts).2,(out.length:Int)<=k/\k < (Q04 out ts).1.length
 m:(Q04 out ts).2.map (fun k=>(growL (Q04 out ts).1).getD k.toNat default)=ts
 c:∀i,cnt (Q04 out ts).1 i+(Q04 out ts).2.count (i:Int)=cnt out i+if out.length<=i/\i < (Q04 out ts).1.length then 1 else 0
mutual
theorem Q8w:∀(t:Tr)(out:List Ex),Q15 out->OkT out t
 |.mk o n b ks a,out,h=>by
  have H:=Qa1 ks out h
  have e:listT out (.mk o n b ks a)=(Q04 out ks).1++[⟨o,n,b,(Q04 out ks).2,a⟩]:=by simp only[listT]
  refine⟨?_,?_,?_,fun i=>?_⟩
  ·rw[e];have:=H.le;simp;omega
  ·rw[e,Q2t]
   refine⟨H.k,fun k hk=>?_⟩
   have:=H.ix k hk
   exact⟨by omega,this.2⟩
  ·obtain⟨r,hr⟩:=H.g
   refine⟨r,?_⟩
   rw[e,Q20]
   have:Q2i (growL (Q04 out ks).1) ⟨o,n,b,(Q04 out ks).2,a⟩=.mk o n b ks a:=by
    simp only[Q2i,Tr.mk.injEq,true_and,and_true];exact H.m
   rw[this,hr]
  ·rw[e,Qbh]
   have:=H.c i
   simp only[cnt,Nat.add_zero,List.length_append,List.length_singleton]
   rw[this]
   congr 1
   by_cases h1:out.length<=i/\i < (Q04 out ks).1.length
   ·rw[if_pos h1,if_pos (by omega)]
   ·rw[if_neg h1,if_neg (by omega)]
theorem Qa1:∀(ts:List Tr)(out:List Ex),Q15 out->OkTs out ts
 |[],out,h=>⟨by simp[Q04],by simpa[Q04]using h,⟨[],by simp[Q04]⟩,by simp[Q04],by simp[Q04],fun i=>by
   have e1:(Q04 out []).1=out:=by simp only[Q04]
   have e2:(Q04 out []).2=[]:=by simp only[Q04]
   rw[e1,e2,if_neg (by omega)];rfl⟩
 |t::ts,out,h=>by
  have H1:=Q8w t out h
  have H2:=Qa1 ts (listT out t) H1.k
  have e1:(Q04 out (t::ts)).1=(Q04 (listT out t) ts).1:=by simp only[Q04]
  have e2:(Q04 out (t::ts)).2=(((listT out t).length:Int) - 1)::(Q04 (listT out t) ts).2:=by simp only[Q04]
  have l1:=H1.lt
  have l2:=H2.le
  obtain⟨r1,g1⟩:=H1.g
  obtain⟨r2,g2⟩:=H2.g
  refine⟨by rw[e1];omega,by rw[e1];exact H2.k,⟨r1++[t]++r2,?_⟩,?_,?_,fun i=>?_⟩
  ·rw[e1,g2,g1];simp
  ·intro k hk
   rw[e2]at hk
   rw[e1]
   rcases List.mem_cons.1 hk with rfl|hk
   ·omega
   ·have:=H2.ix k hk;omega
  ·rw[e1,e2,List.map_cons,H2.m]
   congr 1
   have hl:(growL (listT out t)).length=(listT out t).length:=Q1a _
   have hl2:(growL out++r1).length+1=(listT out t).length:=by rw[←hl,g1];simp;omega
   rw[g2,Q68 (by rw[hl];omega),g1]
   have:((((listT out t).length:Int) - 1)).toNat=(growL out++r1).length:=by omega
   rw[this]
   simp[List.getD]
  ·rw[e1,e2,List.count_cons]
   have c2:=H2.c i
   have c1:=H1.c i
   have hh:(((((listT out t).length:Int) - 1)==(i:Int))=true)↔i+1=(listT out t).length:=by
    rw[beq_iff_eq];omega
   by_cases h1:i+1=(listT out t).length
   ·rw[if_pos (hh.2 h1)]
    rw[if_neg (by omega)]at c2
    rw[if_neg (by omega)]at c1
    rw[if_pos (by omega)]
    omega
   ·rw[if_neg (fun h=>h1 (hh.1 h))]
    by_cases h2:out.length<=i/\i+1 < (listT out t).length
    ·rw[if_pos h2]at c1
     rw[if_neg (by omega)]at c2
     rw[if_pos (by omega)]
     omega
    ·rw[if_neg h2]at c1
     by_cases h3:(listT out t).length<=i/\i < (Q04 (listT out t) ts).1.length
     ·rw[if_pos h3]at c2
      rw[if_pos (by omega)]
      omega
     ·rw[if_neg h3]at c2
      rw[if_neg (by omega)]
      omega
end
theorem Q7t:Q15 []:=fun j x hj=>by simp at hj
theorem Q3v(t:Tr):grow (listT [] t)=t:=by
 have H:=Q8w t [] Q7t
 obtain⟨r,hr⟩:=H.g
 have hl:(growL (listT [] t)).length=(listT [] t).length:=Q1a _
 unfold grow
 rw[hr]at hl ⊢
 have:(listT [] t).length - 1=(growL []++r).length:=by simp at hl ⊢;omega
 rw[this]
 simp[List.getD]
theorem Q6t(t:Tr):IsTree (listT [] t):=by
 have H:=Q8w t [] Q7t
 refine⟨fun h=>?_,H.k,fun i hi=>?_⟩
 ·have:=H.lt;rw[h]at this;simp at this
 ·rw[H.c i]
  simp only[cnt,List.length_nil,Nat.zero_le,true_and,Nat.zero_add]
  split <;> omega
theorem Qep(ls:List Lab)(l0:Lab):(ls.map fun l=>if l=l0 then (1:Int)else 0).sum=ls.count l0:=by
 induction ls with
 |nil=>rfl
 |cons l ls ih=>
  simp only[List.map_cons,List.sum_cons,ih,List.count_cons]
  by_cases e:l=l0
  ·simp[e];omega
  ·simp[e]
theorem Qfw{e f:List Ex}(he:IsTree e)(hf:IsTree f)(h:grow e=grow f):(labs e).Perm (labs f):=by
 rw[List.perm_iff_count]
 intro l0
 have h1:=Q8j (fun l=>if l=l0 then (1:Int)else 0) he
 have h2:=Q8j (fun l=>if l=l0 then (1:Int)else 0) hf
 rw[Qep]at h1 h2
 rw[h]at h1
 omega
theorem Qcn(e:List Ex):(labs e).length=e.length:=by simp[labs]
theorem op_grow(e:List Ex):∀i,i < e.length->((growL e).getD i default).op=(e.getD i ⟨0,0,[],[],[]⟩).op:=by
 refine Q4v (P:=fun e=>∀i,i < e.length->((growL e).getD i default).op=(e.getD i ⟨0,0,[],[],[]⟩).op) (fun i hi=>by simp at hi) (fun e x ih i hi=>?_) e
 by_cases h:i < e.length
 ·rw[Q3w h,ih i h,Q68 h]
 ·have:i=e.length:=by simp at hi;omega
  subst this
  rw[Q67 e [] x]
  simp[Q2i,List.getD]
theorem Q1l{α:Type}(f:α->Int):∀l:List α,Q1m f l=0↔∀x∈l,f x=0
 |[]=>by simp[Q1m]
 |a::l=>by
  simp only[Q1m,List.mem_cons,forall_eq_or_imp]
  by_cases h:f a=0
  ·simp[h,Q1l f l]
  ·simp[h]
theorem Q33:∀l:List Int,Q4h l=false↔l.Nodup
 |[]=>by simp[Q4h]
 |n::l=>by simp[Q4h,List.nodup_cons,Q33 l]
theorem Qfz{e:List Ex}(h:Q15 e){x:Ex}(hx:x∈e):∀k∈x.kids,0<=k/\k < (e.length:Int):=by
 intro k hk
 obtain⟨j,hj⟩:=List.mem_iff_getElem?.1 hx
 have:=h j x hj k hk
 have hl:=(List.getElem?_eq_some_iff.1 hj).1
 omega
theorem Q2x{e:List Ex}{params:List Int}{flat:Bool}(hb:body e params flat=0):IsTree e:=by
 unfold body at hb
 by_cases h1:Q1p e=0
 ·exact ((Q6e e).1 h1).2.1
 ·rw[if_pos h1]at hb;exact absurd hb h1
end Go.CoreX
