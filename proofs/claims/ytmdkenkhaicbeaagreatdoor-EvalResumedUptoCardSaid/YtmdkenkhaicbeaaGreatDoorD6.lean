/- The abstract layer, part Bb: interface values, type assertions, panics, pointers that are compared; functions that may panic. No condition of its own. -/
import Derived.Test.YtmdkenkhaicbeaaGreatDoorD5
import Derived.Laws.Build
import Derived.Recover
import Derived.RangeFuncWrites
import Derived.OrdersIn
import Derived.Orders
import Derived.OwnWalkIn
import Derived.TacticsIn
import Derived.ControlIn
import Derived.RangeFuncKeeps
import Derived.RangeFuncLeaves
import Derived.RangeFuncOwn
import Derived.Laws.Bits64b
set_option maxRecDepth 10000
set_option linter.unusedVariables false
set_option linter.unusedSimpArgs false
namespace Go.Abs
section
variable {E:Env}{o:Oper}{fr:Fr}{σ:St}{t t' T0 el yt:TypeId}{x y:Operand}
theorem AStep.mkIfc{c:AC}(hc:E.P.concrete t=true)(ho:o.op=.makeInterface t x)(hx:aEval E.Γ fr x=some (.one c)):AStep E o fr σ (.one (.ifc t false [c])) σ:=by
 refine AStep.quiet fun F w C tmps hi hf=>?_
 have h1:=Q00 (a:=⟨tmps,E.ds⟩) hi hf hx
 refine⟨.iface t (Act.eval ⟨tmps,E.ds⟩ x),?_,[Act.eval ⟨tmps,E.ds⟩ x],⟨_,[],rfl,h1,rfl⟩,.inr ⟨rfl,_,rfl,rfl⟩⟩
 unfold execOp
 simp[ho,run_makeInterface w t _ hc]
theorem AStep.mkIfcA{cs:List AC}(hc:E.P.concrete t=true)(ho:o.op=.makeInterface t x)(hx:aEval E.Γ fr x=some (.agg cs)):AStep E o fr σ (.one (.ifc t true cs)) σ:=by
 refine AStep.quiet fun F w C tmps hi hf=>?_
 obtain⟨xs,h1,h2⟩:=Q00 (a:=⟨tmps,E.ds⟩) hi hf hx
 refine⟨.iface t (.agg xs.toArray),?_,xs,h2,.inl ⟨rfl,rfl⟩⟩
 unfold execOp
 simp[ho,h1,run_makeInterface w t _ hc]
theorem Q4y{P:Program}(w:World){d:TypeDesc}(hd:P.underlying t=some d)(hc:P.concrete t=true)(v:Value):(Instr.typeAssert (.iface t v) T0 t true).run P w=.ok (.tuple #[v,.bool true]) w:=by
 unfold Program.concrete at hc
 rw[hd]at hc
 cases d <;> first|(simp at hc;done)|simp[Instr.typeAssert,run_underlying hd]
theorem Q9p{P:Program}(w:World){d:TypeDesc}(hd:P.underlying t=some d)(hc:P.concrete t=true){u z:Value}(hu:u=.nilIface∨∃t' v,u=.iface t' v/\t'≠t)(hz:(zeroValue t).run P w=.ok z w):
  (Instr.typeAssert u T0 t true).run P w=.ok (.tuple #[z,.bool false]) w:=by
 unfold Program.concrete at hc
 rw[hd]at hc
 rcases hu with rfl|⟨t',v,rfl,hne⟩
 ·cases d <;> first|(simp at hc;done)|simp[Instr.typeAssert,run_underlying hd,hz]
 ·cases d <;> first|(simp at hc;done)|simp[Instr.typeAssert,run_underlying hd,hz,hne]
theorem Q2z{P:Program}(hc:P.concrete t=true):∃d,P.underlying t=some d:=by
 unfold Program.concrete at hc
 cases h:P.underlying t with
 |none=>rw[h]at hc;cases hc
 |some d=>exact⟨d,rfl⟩
theorem AStep.assertYes{c:AC}(hc:E.P.concrete t=true)(ho:o.op=.typeAssert x T0 t true)(hx:aEval E.Γ fr x=some (.one (.ifc t false [c]))):AStep E o fr σ (.tup [.one c,.one (.lit (.bool true))]) σ:=by
 refine AStep.quiet fun F w C tmps hi hf=>?_
 obtain⟨d,hd⟩:=Q2z hc
 obtain⟨xs,h1,h2⟩:=Q00 (a:=⟨tmps,E.ds⟩) hi hf hx
 simp only[RV]at h1
 obtain⟨u,us,rfl,h3,rfl⟩:=h1
 rcases h2 with ⟨h2,_⟩|⟨_,v,hv,h2⟩
 ·cases h2
 ·cases hv
  refine⟨.tuple #[u,.bool true],?_,[u,.bool true],rfl,u,[.bool true],rfl,h3,.bool true,[],rfl,⟨rfl,rfl⟩,rfl⟩
  unfold execOp
  simp[ho,h2,Q4y w hd hc]
theorem AStep.assertNo{c:AC}{z:Value}(hc:E.P.concrete t=true)(ho:o.op=.typeAssert x T0 t true)(hz:∀w,(zeroValue t).run E.P w=.ok z w)(h1z:z.oneCell'=true)(hx:aEval E.Γ fr x=some (.one c))
  (hno : c = .lit .nilIface ∨ ∃ t' ag cs, c = .ifc t' ag cs /\ Nat.beq t' t = false) : AStep E o fr σ (.tup [.one (.lit z), .one (.lit (.bool false))]) σ := by
 refine AStep.quiet fun F w C tmps hi hf=>?_
 obtain⟨d,hd⟩:=Q2z hc
 have h1:=Q00 (a:=⟨tmps,E.ds⟩) hi hf hx
 refine⟨.tuple #[z,.bool false],?_,[z,.bool false],rfl,z,[.bool false],rfl,⟨rfl,h1z⟩,.bool false,[],rfl,⟨rfl,rfl⟩,rfl⟩
 have hu:Act.eval ⟨tmps,E.ds⟩ x=.nilIface∨∃t' v,Act.eval ⟨tmps,E.ds⟩ x=.iface t' v/\t'≠t:=by
  rcases hno with rfl|⟨t',ag,cs,rfl,hne⟩
  ·exact .inl h1.1
  ·obtain⟨xs,_,h2⟩:=h1
   have hne':t'≠t:=fun e=>by subst e;simp at hne
   rcases h2 with ⟨_,h2⟩|⟨_,v,_,h2⟩
   ·exact .inr ⟨t',_,h2,hne'⟩
   ·exact .inr ⟨t',_,h2,hne'⟩
 unfold execOp
 simp[ho,Q9p w hd hc hu (hz w)]
theorem AStep.neNilBox{cs:List AC}(ht:E.P.underlying t=some (.pointer el))(ho:o.op=.binOp .neq t x y yt)(hx:aEval E.Γ fr x=some (.one (.box cs)))(hy:aEval E.Γ fr y=some (.one (.lit (.pointer none)))):AStep E o fr σ (.one (.lit (.bool true))) σ:=by
 refine AStep.quiet fun F w C tmps hi hf=>⟨.bool true,?_,rfl,rfl⟩
 obtain⟨ad,h1,_⟩:=Q00 (a:=⟨tmps,E.ds⟩) hi hf hx
 have h2:=Q00 (a:=⟨tmps,E.ds⟩) hi hf hy
 simp only[RF,R]at h2
 unfold execOp
 simp only[ho,h1,h2.1,eqGuard_at_pointer,Sem.run_bind,Sem.run_pure,Result.andThen_ok]
 simp[binOp,Q18 _ _ _ _ ht]
theorem AStep.eqNilBox{cs:List AC}(ht:E.P.underlying t=some (.pointer el))(ho:o.op=.binOp .eql t x y yt)(hx:aEval E.Γ fr x=some (.one (.box cs)))(hy:aEval E.Γ fr y=some (.one (.lit (.pointer none)))):AStep E o fr σ (.one (.lit (.bool false))) σ:=by
 refine AStep.quiet fun F w C tmps hi hf=>⟨.bool false,?_,rfl,rfl⟩
 obtain⟨ad,h1,_⟩:=Q00 (a:=⟨tmps,E.ds⟩) hi hf hx
 have h2:=Q00 (a:=⟨tmps,E.ds⟩) hi hf hy
 simp only[RF,R]at h2
 unfold execOp
 simp only[ho,h1,h2.1,eqGuard_at_pointer,Sem.run_bind,Sem.run_pure,Result.andThen_ok]
 simp[binOp,Q18 _ _ _ _ ht]
end

def AFnP (P:Program)(Γ:List (Nat×List AC))(g:Nat)(args:List FV)(ou:Outer)(Q:FV->Outer->Prop)(QP:List PanicEntry->Outer->Prop):Prop :=
 (∀ (as' : Array Value) (w : World), (callFunc g as').run P w = .ok (.enter g as') w) /\
 ∀(F:Nat->Prop) (w:World) (C:Ctx) (cargs:List Value),C.nl=0->Inv Γ F w C ⟨0,[],ou⟩->RFs w C args cargs->Calls P g cargs.toArray w fun e w'=>
  (∃v r ou' C',e=.returned v/\Goes F isO w C w' C'/\C'.nl=0/\Inv Γ F w' C' ⟨0,[],ou'⟩/\RF w' C' r v/\Q r ou') ∨
  (∃ps ou' C',e=.panicked ps/\Goes F isO w C w' C'/\C'.nl=0/\Inv Γ F w' C' ⟨0,[],ou'⟩/\QP ps ou')
theorem AFn.toP{P:Program}{Γ:List (Nat×List AC)}{g:Nat}{args:List FV}{ou:Outer}{Q:FV->Outer->Prop}{QP:List PanicEntry->Outer->Prop}(h:AFn P Γ g args ou Q):AFnP P Γ g args ou Q QP:=
 ⟨h.1,fun F w C cargs h0 hi hr=>(h.2 F w C cargs h0 hi hr).mono fun e w' hh=>.inl hh⟩
theorem AFnP.mono{P:Program}{Γ:List (Nat×List AC)}{g:Nat}{args:List FV}{ou:Outer}{Q Q':FV->Outer->Prop}{QP QP':List PanicEntry->Outer->Prop}(h:AFnP P Γ g args ou Q QP)(hq:∀r ou',Q r ou'->Q' r ou')(hp:∀ps ou',QP ps ou'->QP' ps ou'):AFnP P Γ g args ou Q' QP':=
 ⟨h.1,fun F w C cargs h0 hi hr=>(h.2 F w C cargs h0 hi hr).mono fun e w' hh=>hh.elim (fun ⟨v,r,ou',C',a,b,c,d,f,g⟩=>.inl ⟨v,r,ou',C',a,b,c,d,f,hq _ _ g⟩) (fun ⟨ps,ou',C',a,b,c,d,g⟩=>.inr ⟨ps,ou',C',a,b,c,d,hp _ _ g⟩)⟩
theorem AOps.panicI{E:Env}{ops:Array Oper}{rest:List Oper}{o:Oper}{K:Cont}{fr:Fr}{σ:St}{x:Operand}{t:TypeId}{ag:Bool}{cs:List AC}(hgd:o.guard=none)(ho:o.op=.panic x)(hx:aEval E.Γ fr x=some (.one (.ifc t ag cs)))
  (h:∀(w:World) (C:Ctx) (v:Value),R w C (.ifc t ag cs) v->K (.panic [{ v:=v,recovered:=false }]) fr σ):AOps E ops (o::rest) K fr σ:=by
 intro F w0 C0 w C tmps hg hi hf
 refine wpList_plain hgd fun N' hN=>?_
 have h1:=Q00 (a:=⟨tmps,E.ds⟩) hi hf hx
 have hv:∃u,Act.eval ⟨tmps,E.ds⟩ x=.iface t u:=by
  obtain⟨xs,_,⟨_,h2⟩|⟨_,v,_,h2⟩⟩:=h1 <;> exact⟨_,h2⟩
 obtain⟨u,hu⟩:=hv
 have hrun:(execOp (Act.eval ⟨tmps,E.ds⟩) o).run E.P w=.halt (.panic (.iface t u)) w:=by
  unfold execOp
  simp only[ho,hu]
  simp[Instr.panic,goPanic]
 unfold Oper.wp
 rw[hrun,Oper.upon_panic]
 exact⟨rfl,fr,σ,C,hg,hi,hf,h w C _ (by rw[←hu];exact h1)⟩
theorem AOps.callP{E:Env}{ops:Array Oper}{rest:List Oper}{o:Oper}{K:Cont}{fr:Fr}{σ:St}{f:Operand}{args:Array Operand}{tys:Array TypeId}{g:Nat}{first caps:List AC}{vs us:List FV}{Q:FV->Outer->Prop}{QP:List PanicEntry->Outer->Prop}
  (hΓ:∀g cs,(g,cs)∈E.Γ->idsL isO cs) (hc:AFnP E.P E.Γ g us σ.ou Q QP) (hgd:o.guard=none) (hd:dstOk E.N o.dst=true) (ho:o.op=.call { callee:=.value f,args:=args,argTypes:=tys })
  (hf:aEval E.Γ fr f=some (.one (.fn (.func g) first caps))) (hargs:Q1l E.Γ fr args.toList=some vs) (has:first.map .one++vs++caps.map .one=us) (hou:OuOk σ.ou) (hids:idsF isO us)
  (hp:∀ps ou',QP ps ou'->OuOk ou'->K (.panic ps) fr { σ with ou:=ou' })
  (h:∀r ou',Q r ou'->r.ids isO->OuOk ou'->AOps E ops rest K (putFr o.dst r fr) { σ with ou:=ou' }):AOps E ops (o::rest) K fr σ:=by
 subst has
 intro F w0 C0 w C tmps hg hi hfr
 refine wpList_plain hgd fun N' hN=>?_
 have hcallee:=Q00 (a:=⟨tmps,E.ds⟩) hi hfr hf
 simp only[RF,R]at hcallee
 obtain⟨xs,ys,hfv,hx,hy⟩:=hcallee
 have hvs:=Q1g (a:=⟨tmps,E.ds⟩) hi hfr hargs
 have hall:RFs w C (first.map .one++vs++caps.map .one) (xs++args.toList.map (Act.eval ⟨tmps,E.ds⟩)++ys):=(RFs.ones hx |>.append hvs).append (RFs.ones hy)
 have hrun:(execOp (Act.eval ⟨tmps,E.ds⟩) o).run E.P w=.ok (.enter g (xs++args.toList.map (Act.eval ⟨tmps,E.ds⟩)++ys).toArray) w:=by
  unfold execOp
  simp only[ho,resolve,Sem.run_bind,hfv,Deferred.ofValue,Sem.run_pure,Result.andThen_ok,invoke,hc.1]
  congr 2
  apply Array.ext'
  simp
 unfold Oper.wp
 rw[hrun,Oper.upon_enter]
 have hc1:Chg isO w C w { C with nl:=0 }:=⟨fun _ _=>rfl,fun _ h=>h,fun i hp ho=>⟨by cases i with|l k=>cases hp|o k=>exact ho,rfl,rfl⟩⟩
 refine (hc.2 (Q27 w C σ.ou) w { C with nl:=0 } _ rfl (hi.forCallee hou hΓ) (RFs.chg hc1 _ _ hids hall)).mono fun e w' hh=>?_
 rcases hh with ⟨v,r,ou',C',he,hgo,h0,hi',hr,hQ⟩|⟨ps,ou',C',he,hgo,h0,hi',hQ⟩
 ·subst he
  obtain⟨hb1,hb2,hb3⟩:=hi.back hgo h0 hi'
  refine hN _ _ ?_
  rw[Q1p]
  have hrid:r.ids isO:=FV.ids_mono (Q3h h0) r (RF.idsOk r v hr)
  exact h r ou' hQ hrid (OuOk.of_inv hi' h0) F w0 C0 w' _ _ (hg.trans hb1.toO) hb2 (Q13 (hfr.ext hb1.chg) hd (RF.chg hb3 r v hrid hr))
 ·subst he
  obtain⟨hb1,hb2,hb3⟩:=hi.back hgo h0 hi'
  exact⟨rfl,fr,_,_,hg.trans hb1.toO,hb2,hfr.ext hb1.chg,hp ps ou' hQ (OuOk.of_inv hi' h0)⟩
theorem AFnP.ofBody{P:Program}{T:Tab}{Γ:List (Nat×List AC)}{g:Nat}{fn:Func}{c:Code}{args:List FV}{ou:Outer}{Q:FV->Outer->Prop}{QP:List PanicEntry->Outer->Prop}(hT:TabOk P T)(hΓ:∀g cs,(g,cs)∈Γ->idsL isO cs)(hf:P.funcs[g]?=some fn)(hb:fn.body=some c)(hname:(fn.name == "runtime.NumGoroutine")=false)
  (hlen : args.length <= fn.ntmps)
  (h : OuOk ou -> ACode ⟨P, T, Γ, fn.ntmps, []⟩ c (Q02 ⟨P, T, Γ, fn.ntmps, []⟩ (Fin ⟨P, T, Γ, fn.ntmps, []⟩ fn Q) [.pan fun ps σ => OuOk σ.ou /\ QP ps σ.ou]) (argFr 0 args) ⟨0, [], ou⟩) : AFnP P Γ g args ou Q QP := by
 refine⟨fun as' w=>?_,fun F w C cargs h0 hi hr=>?_⟩
 ·simp[callFunc,hf,hb]
  simpa using hname
 ·have hcl:cargs.length=args.length:=by
   have:∀(vs:List FV) (xs:List Value),RFs w C vs xs->xs.length=vs.length:=by
    intro vs
    induction vs with
    |nil=>intro xs h;simp only[RFs]at h;simp[h]
    |cons v vs ih=>intro xs h;simp only[RFs]at h;obtain⟨u,us,rfl,_,h2⟩:=h;simp[ih us h2]
   exact this _ _ hr
  refine calls_of_wp hf hb ?_
  have hfr:FrOk w C fn.ntmps (argFr 0 args) (cargs.toArray++Array.replicate (fn.ntmps - cargs.toArray.size) undef):=by
   refine⟨by simp;omega,fun k x hk=>?_⟩
   obtain⟨_,h2⟩:=Q3r args 0 k x hk
   simp only[Nat.sub_zero]at h2
   obtain⟨u,hu,hru⟩:=RFs.get hr h2
   refine⟨u,?_,hru⟩
   have hlt:k < cargs.length:=(List.getElem?_eq_some_iff.1 hu).1
   rw[Array.getElem?_append_left (by simpa using hlt)]
   simpa using hu
  refine wp_mono (h (OuOk.of_inv hi h0) F w C w C _ (Goes.refl _ _ _ _) hi hfr) fun e a w' hp=>?_
  obtain⟨hd,fr',σ',C',hgo,hi',hf',hk⟩:=hp
  have hc:Chg isO w' C' w' { C' with nl:=0 }:=⟨fun _ _=>rfl,fun _ h=>h,fun i hp ho=>⟨by cases i with|l k=>cases hp|o k=>exact ho,rfl,rfl⟩⟩
  have hc0:∀i,C.ok i->isO i:=Q3h h0
  have drop:OuOk σ'.ou->Inv Γ F w' { C' with nl:=0 } ⟨0,[],σ'.ou⟩:=fun h4=>by
   refine⟨hi'.base,rfl,fun g cs hm=>?_,hi'.prot,fun i o ho=>?_,fun i j o o' g k1 k2 k3 k4=>?_⟩
   ·have:=hi'.glob g cs hm
    exact RG.chg hc (hΓ g cs hm) this
   ·cases i with
    |l k=>cases ho
    |o k=>
     obtain⟨k1,k2⟩:=hi'.obj (.o k) o ho
     exact⟨k1,k2.ctx isO (h4 k o ho) trivial k1 hc (fun _ h=>h) (fun _ h=>h)⟩
   ·cases i with
    |l k=>cases k1
    |o k=>cases j with
     |l k=>cases k2
     |o k'=>
      have e1:=AObj.block_ctx (o:=o) isO (i:=.o k) trivial (hi'.obj (.o k) o k1).1 hc
      have e2:=AObj.block_ctx (o:=o') isO (i:=.o k') trivial (hi'.obj (.o k') o' k2).1 hc
      exact hi'.inj (.o k) (.o k') o o' g k1 k2 (by rw[←e1];exact k3) (by rw[←e2];exact k4)
  have fin:Fin ⟨P,T,Γ,fn.ntmps,[]⟩ fn Q fr' σ'->a.defers=[]/\∃v,(results fn a.tmps).run P w'=.ok v w'/\((∃v' r ou' C',Ending.returned v=.returned v'/\Goes F isO w C w' C'/\C'.nl=0/\Inv Γ F w' C' ⟨0,[],ou'⟩/\RF w' C' r v'/\Q r ou') ∨
    (∃ps ou' C',Ending.returned v=.panicked ps/\Goes F isO w C w' C'/\C'.nl=0/\Inv Γ F w' C' ⟨0,[],ou'⟩/\QP ps ou')):=by
   rintro⟨r,r',h1,h2,h3,h4,h5⟩
   obtain⟨u,hu,hru⟩:=Qd7 (tmps:=a.tmps) hT hi' hf' h1
   exact⟨hd,u,hu,.inl ⟨u,r',σ'.ou,{ C' with nl:=0 },rfl,⟨hgo.stp,hgo.chg.trans hc,hgo.no,hgo.newp⟩,rfl,drop h4,RF.chg hc r' u h3 (h2 _ _ _ hru),h5⟩⟩
  cases e with
  |normal=>exact fin hk
  |ret=>exact fin hk
  |panic ps=>exact⟨hd,.inr ⟨ps,σ'.ou,{ C' with nl:=0 },rfl,⟨hgo.stp,hgo.chg.trans hc,hgo.no,hgo.newp⟩,rfl,drop hk.1,hk.2⟩⟩
  |exit id=>exact hk.elim
  |goto l=>exact hk.elim
  |outgrown=>exact hk.elim
theorem AFnP.walk{P:Program}{T:Tab}{Γ:List (Nat×List AC)}{g:Nat}{fn:Func}{c:Code}{args:List FV}{ou:Outer}{Q:FV->Outer->Prop}{QP:List PanicEntry->Outer->Prop}(N:Nat)(hT:TabOk P T)(hΓ:∀g cs,(g,cs)∈Γ->idsL isO cs)(hf:P.funcs[g]?=some fn)(hb:fn.body=some c)(hname:(fn.name == "runtime.NumGoroutine")=false)
  (hN:fn.ntmps=N) (hlen:Nat.ble args.length N=true) (h:OuOk ou->ACode ⟨P,T,Γ,N,[]⟩ c (Q02 ⟨P,T,Γ,N,[]⟩ (Fin ⟨P,T,Γ,N,[]⟩ fn Q) [.pan fun ps σ=>OuOk σ.ou/\QP ps σ.ou]) (argFr 0 args) ⟨0,[],ou⟩):AFnP P Γ g args ou Q QP:=by
 subst hN
 exact AFnP.ofBody hT hΓ hf hb hname (Nat.le_of_ble_eq_true hlen) h
theorem Q0x.callP{E:Env}{o:Oper}{fr:Fr}{σ:St}{f:Operand}{args:Array Operand}{tys:Array TypeId}{g:Nat}{first caps:List AC}{vs us:List FV}{Q:FV->Outer->Prop}{QP:List PanicEntry->Outer->Prop}{P:FV->St->Prop}{PP:List PanicEntry->St->Prop}
  (hΓ:∀g cs,(g,cs)∈E.Γ->idsL isO cs) (hc:AFnP E.P E.Γ g us σ.ou Q QP) (ho:o.op=.call { callee:=.value f,args:=args,argTypes:=tys })
  (hf:aEval E.Γ fr f=some (.one (.fn (.func g) first caps))) (hargs:Q1l E.Γ fr args.toList=some vs) (has:first.map .one++vs++caps.map .one=us) (hids:idsF isO us) (hou:OuOk σ.ou)
  (h:∀r ou',Q r ou'->r.ids isO->OuOk ou'->P r { σ with ou:=ou' }) (hp:∀ps ou',QP ps ou'->OuOk ou'->PP ps { σ with ou:=ou' }):Q0x E o fr σ P PP:=by
 subst has
 intro F w C tmps hi hfr next Qx hk hpk
 have hcallee:=Q00 (a:=⟨tmps,E.ds⟩) hi hfr hf
 simp only[RF,R]at hcallee
 obtain⟨xs,ys,hfv,hx,hy⟩:=hcallee
 have hvs:=Q1g (a:=⟨tmps,E.ds⟩) hi hfr hargs
 have hall:RFs w C (first.map .one++vs++caps.map .one) (xs++args.toList.map (Act.eval ⟨tmps,E.ds⟩)++ys):=(RFs.ones hx |>.append hvs).append (RFs.ones hy)
 have hrun:(execOp (Act.eval ⟨tmps,E.ds⟩) o).run E.P w=.ok (.enter g (xs++args.toList.map (Act.eval ⟨tmps,E.ds⟩)++ys).toArray) w:=by
  unfold execOp
  simp only[ho,resolve,Sem.run_bind,hfv,Deferred.ofValue,Sem.run_pure,Result.andThen_ok,invoke,hc.1]
  congr 2
  apply Array.ext'
  simp
 unfold Oper.wp
 rw[hrun,Oper.upon_enter]
 have hc1:Chg isO w C w { C with nl:=0 }:=⟨fun _ _=>rfl,fun _ h=>h,fun i hp ho=>⟨by cases i with|l k=>cases hp|o k=>exact ho,rfl,rfl⟩⟩
 refine (hc.2 (Q27 w C σ.ou) w { C with nl:=0 } _ rfl (hi.forCallee hou hΓ) (RFs.chg hc1 _ _ hids hall)).mono fun e w' hh=>?_
 rcases hh with ⟨v,r,ou',C',he,hgo,h0,hi',hr,hQ⟩|⟨ps,ou',C',he,hgo,h0,hi',hQ⟩
 ·subst he
  obtain⟨hb1,hb2,hb3⟩:=hi.back hgo h0 hi'
  have hrid:r.ids isO:=FV.ids_mono (Q3h h0) r (RF.idsOk r v hr)
  exact hk _ _ _ r _ (h r ou' hQ hrid (OuOk.of_inv hi' h0)) hb1 hb2 (RF.chg hb3 r v hrid hr)
 ·subst he
  obtain⟨hb1,hb2,hb3⟩:=hi.back hgo h0 hi'
  exact hpk _ _ _ _ (hp ps ou' hQ (OuOk.of_inv hi' h0)) hb1 hb2
theorem Q3s{P:Program}{t:TypeId}{z:Value}(h:((P.info? t).bind (·.zero))=some z)(w:World):(zeroValue t).run P w=.ok z w:=by
 cases hi:P.info? t with
 |none=>rw[hi]at h;cases h
 |some i=>rw[hi]at h;simp only[Option.bind_some]at h;simp[zeroValue,typeInfo,hi,h]
end Go.Abs
namespace Go.Abs
def adI (a b:Int):Int:=bI (BitVec.ofInt 64 a &&& BitVec.ofInt 64 b)
theorem AStep.and{E:Env}{o:Oper}{fr:Fr}{σ:St}{t yt:TypeId}{x y:Operand}{a b:Int}(ho:o.op=.binOp .and t x y yt)(hx:aEval E.Γ fr x=some (.one (.lit (.int .i64 a))))(hy:aEval E.Γ fr y=some (.one (.lit (.int .i64 b)))):AStep E o fr σ (.one (.lit (.int .i64 (adI a b)))) σ:=by
 refine AStep.quiet fun F w C tmps hi hf=>⟨.int .i64 (adI a b),?_,rfl,rfl⟩
 have h1:=Q00 (a:=⟨tmps,E.ds⟩) hi hf hx
 have h2:=Q00 (a:=⟨tmps,E.ds⟩) hi hf hy
 simp only[RF,R]at h1 h2
 unfold execOp
 simp only[ho,h1.1,h2.1,eqGuard_at_int,Sem.run_bind,Sem.run_pure,Result.andThen_ok]
 rfl
theorem Ql3(a:Int):adI a 2147483647=a % 2147483648:=by
 have h1:(BitVec.ofInt 64 a &&& BitVec.ofInt 64 2147483647).toNat=(a % 2147483648).toNat:=by
  rw[BitVec.toNat_and,show (BitVec.ofInt 64 2147483647).toNat=2 ^ 31 - 1 by decide,Nat.and_two_pow_sub_one_eq_mod]
  rw[BitVec.toNat_ofInt]
  have h2:a % 2147483648=a % 18446744073709551616 % 2147483648:=(Int.emod_emod_of_dvd a (by decide)).symm
  rw[h2]
  have h3:0<=a % 18446744073709551616:=Int.emod_nonneg _ (by decide)
  rw[show ((2 ^ 64:Nat):Int)=18446744073709551616 by decide]
  omega
 unfold adI bI
 rw[h1]
 have h4:0<=a % 2147483648:=Int.emod_nonneg _ (by decide)
 have h5:a % 2147483648 < 2147483648:=Int.emod_lt_of_pos _ (by decide)
 simp[IntKind.wrap,IntKind.signed,IntKind.bits,Int.bmod]
 omega
end Go.Abs
namespace Go.Abs
section
variable {E:Env}{l:List Oper}{frb:Fr}{K:Cont}
theorem AAny.drawSt{fr:Fr}{σ0:St}{hd tl:List Oper}{vs0:List FV}{op:Oper}(hT:TabOk E.P E.T)(n p:Nat)(cs:List (Nat×FV))(s1:St)(hm:E.P.follows .mixedOrders=true)(hB:drawB l n=true)(hsp:Q28 n l=some (hd,tl))(hfb:Fr.woO (dsts hd) fr=some frb)
  (hqb:Q5h l [p] n=true) (hrun0:Q0i E l.toArray l frb σ0 ((p,.bot)::cs) 0 hd []=some vs0) (hrun1:Q0i E l.toArray l frb s1 ((p,.bot)::cs) 0 hd []=some vs0) (hop:l[p]?=some op) (hpn:Nat.blt p n=true) (hgd:op.guard=none) (hd0:dstOk E.N op.dst=true)
  (hcs0:Q0e E l frb σ0 vs0 cs) (hcs1:Q0e E l frb s1 vs0 cs) (hst:AStep E op (Q0f l (mixV [p] vs0 (fC [p] [])) op++frb) σ0 .bot s1) (htail:AOps E l.toArray tl K (Q0h (mixV [p] vs0 (fC [p] [.bot])) 0 hd++frb) s1):AAny E l K fr σ0:=by
 refine AAny.drawC2 hT n [p] cs (fun vs σ=>match vs with|[]=>σ=σ0|[v]=>v=.bot/\σ=s1|_=>False) hm hB hsp hfb (by simp) rfl hqb rfl hrun0 ?_ ?_ (fun i hi=>by simp at hi;subst hi;exact Nat.le_of_ble_eq_true (show Nat.ble (i+1) n=true from hpn)) ?_ ?_
 ·intro vs σ h
  match vs with
  |[]=>subst h;exact hrun0
  |[_]=>obtain⟨_,rfl⟩:=h;exact hrun1
  |_::_::_=>exact h.elim
 ·intro vs σ h
  match vs with
  |[]=>subst h;exact hcs0
  |[_]=>obtain⟨_,rfl⟩:=h;exact hcs1
  |_::_::_=>exact h.elim
 ·intro vs σ h i o hi ho
  match vs with
  |[]=>
   subst h;cases hi;rw[hop]at ho;cases ho
   exact⟨hd0,.inl (.inl ⟨.bot,s1,by unfold HStep;rw[hgd];exact hst,rfl,rfl⟩)⟩
  |_::_=>cases hi
 ·intro vs σ hl h
  match vs with
  |[_]=>obtain⟨rfl,rfl⟩:=h;exact htail
  |[]=>cases hl
  |_::_::_=>exact h.elim
theorem ACode.drawSt{id:Nat}{fr:Fr}{σ0:St}{hd tl:List Oper}{vs0:List FV}{op:Oper}(hT:TabOk E.P E.T)(n p:Nat)(cs:List (Nat×FV))(s1:St)(hm:E.P.follows .mixedOrders=true)(hB:drawB l n=true)(hsp:Q28 n l=some (hd,tl))(hfb:Fr.woO (dsts hd) fr=some frb)
  (hqb:Q5h l [p] n=true) (hrun0:Q0i E l.toArray l frb σ0 ((p,.bot)::cs) 0 hd []=some vs0) (hrun1:Q0i E l.toArray l frb s1 ((p,.bot)::cs) 0 hd []=some vs0) (hop:l[p]?=some op) (hpn:Nat.blt p n=true) (hgd:op.guard=none) (hd0:dstOk E.N op.dst=true)
  (hcs0:Q0e E l frb σ0 vs0 cs) (hcs1:Q0e E l frb s1 vs0 cs) (hst:AStep E op (Q0f l (mixV [p] vs0 (fC [p] [])) op++frb) σ0 .bot s1) (htail:AOps E l.toArray tl K (Q0h (mixV [p] vs0 (fC [p] [.bot])) 0 hd++frb) s1):ACode E (.region id l.toArray true) K fr σ0:=AAny.code hm (AAny.drawSt hT n p cs s1 hm hB hsp hfb hqb hrun0 hrun1 hop hpn hgd hd0 hcs0 hcs1 hst htail)
theorem AAny.drawCS{fr:Fr}{σ0:St}{hd tl:List Oper}{vs0:List FV}{oc oa ob op:Oper}(hT:TabOk E.P E.T)(n pc a b p:Nat)(X Y:FV)(cs:List (Nat×FV))(P P2:FV->St->Prop)(hm:E.P.follows .mixedOrders=true)(hB:drawB l n=true)(hsp:Q28 n l=some (hd,tl))(hfb:Fr.woO (dsts hd) fr=some frb)
  (hnd:[pc,a,b,p].Nodup) (hch:chainB l [pc,a,b,p]=true) (hqb:Q5h l [pc,a,b,p] n=true) (hrun0:Q0i E l.toArray l frb σ0 ([(pc,.bot),(a,.bot),(b,.bot),(p,.bot)]++cs) 0 hd []=some vs0) (hoc:l[pc]?=some oc) (hoa:l[a]?=some oa) (hob:l[b]?=some ob) (hop:l[p]?=some op)
  (hn:([pc,a,b,p].all fun i=>Nat.blt i n)=true) (hds:([oc,oa,ob,op].all fun o=>dstOk E.N o.dst&&o.guard.isNone)=true)
  (hrunP:∀v σ,P v σ->Q0i E l.toArray l frb σ ([(pc,.bot),(a,.bot),(b,.bot),(p,.bot)]++cs) 0 hd []=some vs0) (hrunQ:∀v σ,P2 v σ->Q0i E l.toArray l frb σ ([(pc,.bot),(a,.bot),(b,.bot),(p,.bot)]++cs) 0 hd []=some vs0)
  (hcs0:Q0e E l frb σ0 vs0 cs) (hcsP:∀v σ,P v σ->Q0e E l frb σ vs0 cs) (hcsQ:∀v σ,P2 v σ->Q0e E l frb σ vs0 cs)
  (hcall:Q0x E oc (Q0f l (mixV [pc,a,b,p] vs0 (fC [pc,a,b,p] [])) oc++frb) σ0 P (fun ps σ'=>K (.panic ps) frb σ'))
  (ha:∀v σ,P v σ->AStep E oa (Q0f l (mixV [pc,a,b,p] vs0 (fC [pc,a,b,p] [v])) oa++frb) σ X σ)
  (hb:∀v σ,P v σ->AStep E ob (Q0f l (mixV [pc,a,b,p] vs0 (fC [pc,a,b,p] [v,X])) ob++frb) σ Y σ)
  (hst:∀v σ,P v σ->∃σ',P2 v σ'/\AStep E op (Q0f l (mixV [pc,a,b,p] vs0 (fC [pc,a,b,p] [v,X,Y])) op++frb) σ .bot σ')
  (htail:∀v σ,P2 v σ->AOps E l.toArray tl K (Q0h (mixV [pc,a,b,p] vs0 (fC [pc,a,b,p] [v,X,Y,.bot])) 0 hd++frb) σ):AAny E l K fr σ0:=by
 simp only[List.all_cons,List.all_nil,Bool.and_true,Bool.and_eq_true]at hds hn
 obtain⟨⟨d1,g1⟩,⟨d2,g2⟩,⟨d3,g3⟩,d4,g4⟩:=hds
 have g1:=Option.isNone_iff_eq_none.1 g1
 have g2:=Option.isNone_iff_eq_none.1 g2
 have g3:=Option.isNone_iff_eq_none.1 g3
 have g4:=Option.isNone_iff_eq_none.1 g4
 refine AAny.drawC2 hT n [pc,a,b,p] cs (fun vs σ=>match vs with|[]=>σ=σ0|[v]=>P v σ|[v,x]=>P v σ/\x=X|[v,x,y]=>P v σ/\x=X/\y=Y|[v,x,y,z]=>P2 v σ/\x=X/\y=Y/\z=.bot|_=>False) hm hB hsp hfb hnd hch hqb rfl hrun0 ?_ ?_ (fun i hi=>?_) ?_ ?_
 ·intro vs σ h
  match vs with
  |[]=>subst h;exact hrun0
  |[_]=>exact hrunP _ _ h
  |[_,_]=>exact hrunP _ _ h.1
  |[_,_,_]=>exact hrunP _ _ h.1
  |[_,_,_,_]=>exact hrunQ _ _ h.1
  |_::_::_::_::_::_=>exact h.elim
 ·intro vs σ h
  match vs with
  |[]=>subst h;exact hcs0
  |[_]=>exact hcsP _ _ h
  |[_,_]=>exact hcsP _ _ h.1
  |[_,_,_]=>exact hcsP _ _ h.1
  |[_,_,_,_]=>exact hcsQ _ _ h.1
  |_::_::_::_::_::_=>exact h.elim
 ·simp at hi
  rcases hi with rfl|rfl|rfl|rfl
  ·exact Nat.le_of_ble_eq_true (show Nat.ble (i+1) n=true from hn.1)
  ·exact Nat.le_of_ble_eq_true (show Nat.ble (i+1) n=true from hn.2.1)
  ·exact Nat.le_of_ble_eq_true (show Nat.ble (i+1) n=true from hn.2.2.1)
  ·exact Nat.le_of_ble_eq_true (show Nat.ble (i+1) n=true from hn.2.2.2)
 ·intro vs σ h i o hi ho
  match vs with
  |[]=>
   subst h;cases hi;rw[hoc]at ho;cases ho
   exact⟨d1,.inr ⟨g1,hcall⟩⟩
  |[v]=>
   cases hi;rw[hoa]at ho;cases ho
   exact⟨d2,.inl (.inl ⟨X,σ,by unfold HStep;rw[g2];exact ha v σ h,h,rfl⟩)⟩
  |[v,_]=>
   obtain⟨h,rfl⟩:=h
   cases hi;rw[hob]at ho;cases ho
   exact⟨d3,.inl (.inl ⟨Y,σ,by unfold HStep;rw[g3];exact hb v σ h,h,rfl,rfl⟩)⟩
  |[v,_,_]=>
   obtain⟨h,rfl,rfl⟩:=h
   cases hi;rw[hop]at ho;cases ho
   obtain⟨σ',h2,h3⟩:=hst v σ h
   exact⟨d4,.inl (.inl ⟨.bot,σ',by unfold HStep;rw[g4];exact h3,h2,rfl,rfl,rfl⟩)⟩
  |_::_::_::_::_=>cases hi
 ·intro vs σ hl h
  match vs with
  |[v,_,_,_]=>obtain⟨h,rfl,rfl,rfl⟩:=h;exact htail v σ h
  |[]|[_]|[_,_]|[_,_,_]=>cases hl
  |_::_::_::_::_::_=>exact h.elim
theorem ACode.drawCS{id:Nat}{fr:Fr}{σ0:St}{hd tl:List Oper}{vs0:List FV}{oc oa ob op:Oper}(hT:TabOk E.P E.T)(n pc a b p:Nat)(X Y:FV)(cs:List (Nat×FV))(P P2:FV->St->Prop)(hm:E.P.follows .mixedOrders=true)(hB:drawB l n=true)(hsp:Q28 n l=some (hd,tl))(hfb:Fr.woO (dsts hd) fr=some frb)
  (hnd:[pc,a,b,p].Nodup) (hch:chainB l [pc,a,b,p]=true) (hqb:Q5h l [pc,a,b,p] n=true) (hrun0:Q0i E l.toArray l frb σ0 ([(pc,.bot),(a,.bot),(b,.bot),(p,.bot)]++cs) 0 hd []=some vs0) (hoc:l[pc]?=some oc) (hoa:l[a]?=some oa) (hob:l[b]?=some ob) (hop:l[p]?=some op)
  (hn:([pc,a,b,p].all fun i=>Nat.blt i n)=true) (hds:([oc,oa,ob,op].all fun o=>dstOk E.N o.dst&&o.guard.isNone)=true)
  (hrunP:∀v σ,P v σ->Q0i E l.toArray l frb σ ([(pc,.bot),(a,.bot),(b,.bot),(p,.bot)]++cs) 0 hd []=some vs0) (hrunQ:∀v σ,P2 v σ->Q0i E l.toArray l frb σ ([(pc,.bot),(a,.bot),(b,.bot),(p,.bot)]++cs) 0 hd []=some vs0)
  (hcs0:Q0e E l frb σ0 vs0 cs) (hcsP:∀v σ,P v σ->Q0e E l frb σ vs0 cs) (hcsQ:∀v σ,P2 v σ->Q0e E l frb σ vs0 cs)
  (hcall:Q0x E oc (Q0f l (mixV [pc,a,b,p] vs0 (fC [pc,a,b,p] [])) oc++frb) σ0 P (fun ps σ'=>K (.panic ps) frb σ'))
  (ha:∀v σ,P v σ->AStep E oa (Q0f l (mixV [pc,a,b,p] vs0 (fC [pc,a,b,p] [v])) oa++frb) σ X σ)
  (hb:∀v σ,P v σ->AStep E ob (Q0f l (mixV [pc,a,b,p] vs0 (fC [pc,a,b,p] [v,X])) ob++frb) σ Y σ)
  (hst:∀v σ,P v σ->∃σ',P2 v σ'/\AStep E op (Q0f l (mixV [pc,a,b,p] vs0 (fC [pc,a,b,p] [v,X,Y])) op++frb) σ .bot σ')
  (htail:∀v σ,P2 v σ->AOps E l.toArray tl K (Q0h (mixV [pc,a,b,p] vs0 (fC [pc,a,b,p] [v,X,Y,.bot])) 0 hd++frb) σ):ACode E (.region id l.toArray true) K fr σ0:=AAny.code hm (AAny.drawCS hT n pc a b p X Y cs P P2 hm hB hsp hfb hnd hch hqb hrun0 hoc hoa hob hop hn hds hrunP hrunQ hcs0 hcsP hcsQ hcall ha hb hst htail)
theorem Q0x.ofR{o:Oper}{fr:Fr}{σ:St}{P:FV->St->Prop}{PP:List PanicEntry->St->Prop}(h:Q0y E o fr σ P):Q0x E o fr σ P PP:=fun F w C tmps hi hf next Q hk _=>h F w C tmps hi hf next Q hk
end
end Go.Abs
namespace Go.Abs
theorem Q09{p:Id->Prop}{s cap:Nat}(es:List (List AC))(h:idsS p es):(AObj.cells (vec s es cap)).ids p:=by
 show idsL p (vec s es cap)
 refine Q2x.2 fun c hc=>?_
 unfold vec at hc
 rcases List.mem_append.1 hc with hc|hc
 ·obtain⟨x,hx,hcx⟩:=List.mem_flatten.1 hc
  exact Q2x.1 (Q1k.1 h x hx) c hcx
 ·obtain⟨_,rfl⟩:=List.mem_replicate.1 hc
  trivial
theorem Q0o{ou:Outer}{k:Nat}{o:AObj}(h:OuOk ou)(ho:o.ids isO):OuOk (updO ou k o):=fun j x hx=>by
 by_cases e:k=j
 ·subst e;rw[Q03]at hx;cases hx;exact ho
 ·rw[Q06 _ e]at hx;exact h j x hx
end Go.Abs
namespace Go.Abs
end Go.Abs
namespace Go.Abs
theorem Q73{P:Program}{T:Tab}{Γ:List (Nat×List AC)}{N:Nat}{fn:Func}{ds:List Deferred}{Q:FV->Outer->Prop}{F:Nat->Prop}{w w':World}{C C':Ctx}{ou:Outer}{fr':Fr}{σ':St}{tmps:Array Value}(hT:TabOk P T)(h0:C.nl=0)(hi:Inv Γ F w C ⟨0,[],ou⟩)
  (hgo:Goes F isO w C w' C') (hi':Inv Γ F w' C' σ') (hf':FrOk w' C' N fr' tmps) (h:Fin ⟨P,T,Γ,N,ds⟩ fn Q fr' σ'):∃v,(results fn tmps).run P w'=.ok v w'/\(∃v' r ou' C',Ending.returned v=.returned v'/\Goes F isO w C w' C'/\C'.nl=0/\Inv Γ F w' C' ⟨0,[],ou'⟩/\RF w' C' r v'/\Q r ou'):=by
 obtain⟨r,r',h1,h2,h3,h4,h5⟩:=h
 obtain⟨u,hu,hru⟩:=Qd7 (tmps:=tmps) hT hi' hf' h1
 have hc:Chg isO w' C' w' { C' with nl:=0 }:=⟨fun _ _=>rfl,fun _ h=>h,fun i hp ho=>⟨by cases i with|l k=>cases hp|o k=>exact ho,rfl,rfl⟩⟩
 have hc0:∀i,C.ok i->isO i:=Q3h h0
 refine⟨u,hu,u,r',σ'.ou,{ C' with nl:=0 },rfl,⟨hgo.stp,hgo.chg.trans hc,hgo.no,hgo.newp⟩,rfl,⟨hi'.base,rfl,fun g cs hm=>?_,hi'.prot,fun i o ho=>?_,fun i j o o' g k1 k2 k3 k4=>?_⟩,RF.chg hc r' u h3 (h2 _ _ _ hru),h5⟩
 ·have:=hi.glob g cs hm
  have hids:=Q10 hc0 cs (RL.idsOk cs _ this.rl)
  exact RG.chg (hgo.chg.trans hc) hids this
 ·cases i with
  |l k=>cases ho
  |o k=>
   obtain⟨k1,k2⟩:=hi'.obj (.o k) o ho
   exact⟨k1,k2.ctx isO (h4 k o ho) trivial k1 hc (fun _ h=>h) (fun _ h=>h)⟩
 ·cases i with
  |l k=>cases k1
  |o k=>cases j with
   |l k=>cases k2
   |o k'=>
    have e1:=AObj.block_ctx (o:=o) isO (i:=.o k) trivial (hi'.obj (.o k) o k1).1 hc
    have e2:=AObj.block_ctx (o:=o') isO (i:=.o k') trivial (hi'.obj (.o k') o' k2).1 hc
    exact hi'.inj (.o k) (.o k') o o' g k1 k2 (by rw[←e1];exact k3) (by rw[←e2];exact k4)
theorem RV.len{w:World}{C:Ctx}:∀{cs:List AC}{xs:List Value},RV w C cs xs->xs.length=cs.length
 |[],xs,h=>by simp only[RV]at h;simp[h]
 |c::cs,xs,h=>by simp only[RV]at h;obtain⟨u,us,rfl,_,h2⟩:=h;simp[RV.len h2]
theorem AFn.ofDefer{P:Program}{T:Tab}{Γ:List (Nat×List AC)}{g gd i1 d5:Nat}{fn:Func}{r0 rest:Code}{o0 o1:Oper}{args:List FV}{ou:Outer}{Q:FV->Outer->Prop}{fr1:Fr}{σ1:St}{first caps:List AC}(hT:TabOk P T)(hf:P.funcs[g]?=some fn)(hb:fn.body=some (.seq r0 (.seq (.region i1 #[o0,o1] false) rest)))(hname:(fn.name == "runtime.NumGoroutine")=false)
  (hlen : args.length <= fn.ntmps) (h0 : OuOk ou -> ACode ⟨P, T, Γ, fn.ntmps, []⟩ r0 (fun e fr σ => e = .normal /\ fr = fr1 /\ σ = σ1) (argFr 0 args) ⟨0, [], ou⟩)
  (hg0 : o0.guard = none) (hd0 : o0.dst = some d5) (hdl : d5 < fn.ntmps) (hs0 : AStep ⟨P, T, Γ, fn.ntmps, []⟩ o0 fr1 σ1 (.one (.fn (.func gd) first caps)) σ1)
  (hg1 : o1.guard = none) (hd1 : o1.dst = none) (ho1 : o1.op = .defer { callee := .value (.tmp d5), args := #[], argTypes := #[] })
  (hdef : ∀ (us : Array Value) (w : World), (callFunc gd us).run P w = .ok (.enter gd us) w /\ (us.size = first.length + caps.length -> CallsD P gd us .returning w fun e u' w' => (∃ v, e = .returned v) /\ u' = .returning /\ w' = w))
  (hrest : OuOk ou -> ∀ ds, ACode ⟨P, T, Γ, fn.ntmps, ds⟩ rest (Q02 ⟨P, T, Γ, fn.ntmps, ds⟩ (Fin ⟨P, T, Γ, fn.ntmps, ds⟩ fn Q) []) ((d5, .one (.fn (.func gd) first caps)) :: fr1) σ1) : AFn P Γ g args ou Q := by
 refine⟨fun vs0 w=>?_,fun F w C cargs h0' hi hr=>?_⟩
 ·simp[callFunc,hf,hb]
  simpa using hname
 ·have hcl:cargs.length=args.length:=by
   have:∀(vs:List FV) (xs:List Value),RFs w C vs xs->xs.length=vs.length:=by
    intro vs
    induction vs with
    |nil=>intro xs h;simp only[RFs]at h;simp[h]
    |cons v vs ih=>intro xs h;simp only[RFs]at h;obtain⟨u,us,rfl,_,h2⟩:=h;simp[ih us h2]
   exact this _ _ hr
  refine calls_of_wp_defers hf hb ?_
  have hfr:FrOk w C fn.ntmps (argFr 0 args) (cargs.toArray++Array.replicate (fn.ntmps - cargs.toArray.size) undef):=by
   refine⟨by simp;omega,fun k x hk=>?_⟩
   obtain⟨_,h2⟩:=Q3r args 0 k x hk
   simp only[Nat.sub_zero]at h2
   obtain⟨u,hu,hru⟩:=RFs.get hr h2
   refine⟨u,?_,hru⟩
   have hlt:k < cargs.length:=(List.getElem?_eq_some_iff.1 hu).1
   rw[Array.getElem?_append_left (by simpa using hlt)]
   simpa using hu
  have hou:=OuOk.of_inv hi h0'
  refine wp_seq (wp_mono (h0 hou F w C w C _ (Goes.refl _ _ _ _) hi hfr) fun e a w1 hp=>?_)
  obtain⟨hda,fr',σ',C1,hg1',hi1,hf1,rfl,rfl,rfl⟩:=hp
  have ha:a=⟨a.tmps,[]⟩:=by cases a;simp_all
  rw[ha]
  refine wp_seq (wp_region_lit (l:=[o0,o1]) ?_)
  refine wpList_plain hg0 fun N' hN=>hs0 F w1 C1 a.tmps hi1 hf1 N' _ fun u w2 C2 hgo2 hi2 hr2=>?_
  refine hN _ _ ?_
  have hf2:FrOk w2 C2 fn.ntmps ((d5,.one (.fn (.func gd) first caps))::fr') (Act.put ⟨a.tmps,[]⟩ o0.dst u).tmps:=by
   have:=Q13 (ds:=[]) (dst:=some d5) (hf1.ext hgo2.chg) (by simp[dstOk,Nat.blt];omega) hr2
   rw[hd0];exact this
  rw[Q1p]
  generalize hat:(Act.put ⟨a.tmps,[]⟩ o0.dst u).tmps=tm2 at hf2
  refine wpList_plain hg1 fun N2 hN2=>?_
  obtain⟨u5,hu5,hr5⟩:=hf2.2 d5 (.one (.fn (.func gd) first caps)) (by simp[Fr.get])
  simp only[RF,R]at hr5
  obtain⟨xs,ys,rfl,hx,hy⟩:=hr5
  have hev:Act.eval ⟨tm2,[]⟩ (.tmp d5)=.func (.func gd) xs.toArray ys.toArray:=by
   simp[Act.eval,hu5]
  have hrun:(execOp (Act.eval ⟨tm2,[]⟩) o1).run P w2=.ok (.defer ⟨.fn (.func gd) ys.toArray,xs.toArray⟩) w2:=by
   unfold execOp
   simp only[ho1,resolve,Sem.run_bind,hev,Deferred.ofValue,Sem.run_pure,Result.andThen_ok]
   simp
  unfold Oper.wp
  rw[hrun,Oper.upon_defer]
  refine hN2 _ _ ?_
  rw[hd1]
  show rest.wp P _ ⟨tm2,[⟨.fn (.func gd) ys.toArray,xs.toArray⟩]⟩ w2
  refine wp_mono (hrest hou [⟨.fn (.func gd) ys.toArray,xs.toArray⟩] F w C w2 C2 tm2 (hg1'.trans hgo2.toO) hi2 hf2) fun e a3 w3 hp=>?_
  obtain⟨hd3,fr3,σ3,C3,hg3,hi3,hf3,hk⟩:=hp
  have hxs:xs.length=first.length:=RV.len hx
  have hys:ys.length=caps.length:=RV.len hy
  have key:Fin ⟨P,T,Γ,fn.ntmps,[⟨.fn (.func gd) ys.toArray,xs.toArray⟩]⟩ fn Q fr3 σ3->Leaves P fn a3.tmps (fun e w'=>∃v r ou' C',e=.returned v/\Goes F isO w C w' C'/\C'.nl=0/\Inv Γ F w' C' ⟨0,[],ou'⟩/\RF w' C' r v/\Q r ou') a3.defers .returning w3:=fun hfin=>by
   obtain⟨v,hv,hR⟩:=Q73 hT h0' hi hg3 hi3 hf3 hfin
   rw[hd3]
   refine⟨by simp,.func gd,ys.toArray,gd,xs.toArray++ys.toArray,rfl,?_,((hdef _ w3).2 (by simp[hxs,hys])).mono ?_⟩
   ·show (invoke (.fn (.func gd) ys.toArray) xs.toArray).run P w3=_
    simp only[invoke]
    exact (hdef _ w3).1
   ·rintro e u' w' ⟨⟨v',rfl⟩,rfl,rfl⟩
    exact⟨v,hv,hR⟩
  cases e with
  |normal=>exact key hk
  |ret=>exact key hk
  |panic ps=>exact hk.elim
  |exit id=>exact hk.elim
  |goto l=>exact hk.elim
  |outgrown=>exact hk.elim
theorem AOps.growO{E:Env}{ops:Array Oper}{l:List Oper}{K:Cont}{fr:Fr}{σ:St}(k off:Nat)(e:TypeId)(s:Nat){cs:List AC}(h:σ.get (.l k)=some (.cells cs))(hoff:cs[off]?=some (.lit (.slice none 0 0)))
  (hk : AOps E ops l K fr ((σ.set (.l k) (.cells (cs.set off (.gs s [] (.l σ.n))))).push (.tok e s 0))) : AOps E ops l K fr σ := by
 intro F w0 C0 w C tmps hg hi hf
 have hno:=Ctx.tokd_new C none (fun _=>False) hi.next
 have he:Ext w C w (C.tokd none (fun _=>False)):=⟨fun _ _=>rfl,fun _ h=>.inl h,fun i _ ho=>Ctx.tokd_old C _ _ ho⟩
 -- first the token
 have hi1:Inv E.Γ F w (C.tokd none (fun _=>False)) (σ.push (.tok e s 0)):=
  hi.addObj (σ.get_push _) he (by simp[Ctx.tokd,Ctx.more,St.push,hi.next]) hi.base (fun a ha=>hi.prot a (ha.resolve_right id)) (fun _ _ _ _ _ _ h=>h) (fun _ _ _ _ _ _ ha=>ha.resolve_right id) hno.1
   (by simp only[ObjOk,hno.2]) (fun i p g _ _ hb=>by simp[AObj.block,hno.2]at hb)
 have hget:(σ.push (.tok e s 0)).get (.l k)=some (.cells cs):=by
  rw[St.get_push]
  have:¬(Id.l k=Id.l σ.n):=by
   intro e'
   have:=(hi.obj _ _ h).1
   rw[e']at this
   simp only[Ctx.ok]at this
   have:=hi.next
   omega
  rw[if_neg this];exact h
 obtain⟨hok,xs,T,h1,h2,h3,h4⟩:=hi1.obj _ _ hget
 have hxs:xs[off]?=some (.slice none 0 0):=by
  have:∀(cs:List AC) (xs:List Value) (off:Nat),RV w (C.tokd none (fun _=>False)) cs xs->cs[off]?=some (.lit (.slice none 0 0))->xs[off]?=some (.slice none 0 0):=by
   intro cs
   induction cs with
   |nil=>intro xs off _ h;simp at h
   |cons c cs ih=>
    intro xs off h h'
    simp only[RV]at h
    obtain⟨u,us,rfl,g1,g2⟩:=h
    cases off with
    |zero=>simp at h';subst h';simp only[R]at g1;simp[g1.1]
    |succ off=>simpa using ih us off g2 (by simpa using h')
  exact this cs xs off h3 hoff
 have hr':RV w (C.tokd none (fun _=>False)) (cs.set off (.gs s [] (.l σ.n))) xs:=by
  have:∀(cs:List AC) (xs:List Value) (off:Nat),RV w (C.tokd none (fun _=>False)) cs xs->xs[off]?=some (.slice none 0 0)->RV w (C.tokd none (fun _=>False)) (cs.set off (.gs s [] (.l σ.n))) xs:=by
   intro cs
   induction cs with
   |nil=>intro xs off h _;simpa using h
   |cons c cs ih=>
    intro xs off h h'
    simp only[RV]at h
    obtain⟨u,us,rfl,g1,g2⟩:=h
    cases off with
    |zero=>simp at h';subst h';exact⟨_,us,rfl,⟨hno.1,.inl ⟨rfl,rfl,hno.2⟩⟩,g2⟩
    |succ off=>exact⟨u,us,rfl,g1,ih us off g2 (by simpa using h')⟩
  exact this cs xs off h3 hxs
 have hi2:=(hi1.turn (o':=.cells (cs.set off (.gs s [] (.l σ.n)))) hget rfl rfl (fun _ _=>rfl) (fun _ _ _=>rfl) rfl (fun he'=>⟨xs,T,h1,h2,hr',h4⟩)).2
 refine hk F w0 C0 w _ tmps (hg.trans ⟨Stp.refl _ _,he.weaken (fun _ _=>trivial),by simp[Ctx.tokd,Ctx.more],fun a ha=>.inl (ha.resolve_right id)⟩) ?_ (hf.ext he)
 have hkn:k≠σ.n:=by
  rintro rfl
  have h5:=(hi.obj _ _ h).1
  simp only[Ctx.ok]at h5
  have:=hi.next
  omega
 exact⟨hi2.base,by have:=hi2.next;simpa[St.push,St.set]using this,hi2.glob,hi2.prot,fun i o ho=>hi2.obj i o (by rw[←Q4t hkn];exact ho),fun i j o o' g a b c d=>hi2.inj i j o o' g (by rw[←Q4t hkn];exact a) (by rw[←Q4t hkn];exact b) c d⟩

theorem AFn.forgetD{P:Program}{Γ:List (Nat×List AC)}{g:Nat}{args:List FV}{ou:Outer}{Q:FV->Outer->Prop}(h:AFn P Γ g args ou (fun r ou'=>∃ou'':Outer,(∀m o,ou'' m=some o->ou' m=some o∨(o=.dead/\∃p,ou m=some p))/\Q r ou'')):AFn P Γ g args ou Q:=by
 refine⟨h.1,fun F w C cargs h0 hi hr=>(h.2 F w C cargs h0 hi hr).mono fun e w' ⟨v,r,ou',C',h1,h2,h3,h4,h5,ou'',h6,h7⟩=>⟨v,r,ou'',C',h1,h2,h3,?_,h5,h7⟩⟩
 have hs:∀i o,(St.mk 0 [] ou'').get i=some o->(St.mk 0 [] ou').get i=some o∨(o=.dead/\isO i/\∃p,(St.mk 0 [] ou).get i=some p):=fun i o hio=>by
  cases i with
  |l m=>cases hio
  |o m=>exact (h6 m o hio).imp id fun ⟨a,b⟩=>⟨a,trivial,b⟩
 refine⟨h4.base,h4.next,h4.glob,h4.prot,fun i o ho=>?_,fun i j o o' g k1 k2 h3 h5=>?_⟩
 ·rcases hs i o ho with hh|⟨rfl,hio,p,hp⟩
  ·exact h4.obj i o hh
  ·exact⟨(h2.chg.id i hio (hi.obj i p hp).1).1,trivial⟩
 ·rcases hs i o k1 with hh|⟨rfl,_,p,hp⟩
  ·rcases hs j o' k2 with hh2|⟨rfl,_,p,hp⟩
   ·exact h4.inj i j o o' g hh hh2 h3 h5
   ·simp[AObj.block]at h5
  ·simp[AObj.block]at h3
end Go.Abs
namespace Go.Abs
abbrev Q3p (l:Nat):Fence:=Fence.wide.inRound l
theorem Qd0{l n:Nat}{P:Program}{f:FuncId}{args:Array Value}{w:World}{R:Ending->World->Prop}(h:Calls P f args w R):CallsIn (Q3p l) n P f args w R:=(callsIn_wide (n:=n)).2 h
theorem Qf5{l n:Nat}{P:Program}{row:String}{args:Array Value}{w:World}{R:Value->World->Prop}(h:Rows P row args w R):RowsIn (Q3p l) n P row args w R:=fun c cs _=>by
 obtain⟨v,w',r,s⟩:=h c cs
 exact⟨v,w',r,stepsIn_wide.2 s⟩
theorem Q8t{l n:Nat}{P:Program}{o:Oper}{a:Act}{w:World}{K:Act->World->Prop}{Q:Exit->Act->World->Prop}(hnd:∀c,o.op≠.defer c)(h:o.wp P a w K Q):o.wpIn (Q3p l) n P a w K Q:=by
 refine⟨fun _ _=>trivial,?_⟩
 rw[Oper.semAt_plain _ _ _ hnd]
 unfold Oper.wp at h
 generalize (execOp a.eval o).run P w=r at h
 have hd:(Q3p l).depth.isSome=true->1<=n:=fun e=>by simp[Q3p,Fence.inRound,Fence.wide]at e
 cases r with
 |ok v w'=>
  cases v with
  |enter f args=>exact⟨hd,Qd0 h⟩
  |row row args=>exact⟨hd,Qf5 h⟩
  |value v=>exact h
  |skip=>exact h
  |defer d=>exact h
  |_=>exact h.elim
 |halt s w'=>cases s <;> exact h
theorem Qez{l n:Nat}{P:Program}{ops:Array Oper}{i:Nat}{K K':Act->World->Prop}{Q:Exit->Act->World->Prop}{a:Act}{w:World}(hnd:∀o∈ops,∀c,o.op≠.defer c)(hlo:¬LetsOut Q)(hK:∀a w,K a w->K' a w)(h:wpOp P ops Q i K a w):wpOpIn (Q3p l) n P ops Q i K' a w:=by
 unfold wpOp at h
 unfold wpOpIn
 cases ho:ops[i]? with
 |none=>rw[ho]at h;exact hK _ _ h
 |some o=>
  rw[ho]at h
  simp only at h ⊢
  split
  ·rename_i hw
   rw[if_pos hw]at h
   rcases h with h|h
   ·exact Oper.wpIn_mono hK (Q8t (hnd o (Array.mem_of_getElem? ho)) h)
   ·exact absurd h.2 hlo
  ·rename_i hw
   rw[if_neg hw]at h
   exact⟨fun _ _=>trivial,hK _ _ h⟩
theorem Q77{l n:Nat}{P:Program}{md:Region.Mode}{ops:Array Oper}{Q:Exit->Act->World->Prop}(hnd:∀o∈ops,∀c,o.op≠.defer c)(hlo:¬LetsOut Q):∀(fuel:Nat)(listed:Array Bool)(a:Act)(w:World),wpAny P md ops Q fuel listed a w->wpAnyIn (Q3p l) n P md ops Q fuel listed a w
 |0,_,_,_,h=>h
 |fuel+1,listed,a,w,h=>⟨h.1,fun i hi=>Qez hnd hlo (fun a w=>Q77 hnd hlo fuel _ a w) (h.2 i hi)⟩
theorem Q46{l n:Nat}{P:Program}{ops:Array Oper}{Q:Exit->Act->World->Prop}(hlo:¬LetsOut Q):∀(os:List Oper)(a:Act)(w:World),(∀o∈os,∀c,o.op≠.defer c)->wpList P ops Q os a w->wpListIn (Q3p l) n P ops Q os a w
 |[],_,_,_,h=>h
 |o::os,a,w,hnd,h=>by
  unfold wpList at h
  unfold wpListIn
  split
  ·rename_i hw
   rw[if_pos hw]at h
   rcases h with h|h
   ·exact Oper.wpIn_mono (fun a w h=>Q46 hlo os a w (fun o ho=>hnd o (by simp[ho])) h) (Q8t (hnd o (by simp)) h)
   ·exact absurd h.2 hlo
  ·rename_i hw
   rw[if_neg hw]at h
   exact⟨fun _ _=>trivial,Q46 hlo os _ w (fun o ho=>hnd o (by simp[ho])) h⟩
end Go.Abs
namespace Go.Abs
section
variable {E:Env}{l:List Oper}{fr frb:Fr}{K:Cont}{σ0:St}
theorem AAny.round{id r n:Nat}(hm:E.P.follows .mixedOrders=true)(hnd:∀o∈l.toArray,∀c,o.op≠.defer c)(h:AAny E l K fr σ0){F:Nat->Prop}{w0:World}{C0:Ctx}{w:World}{C:Ctx}{tmps:Array Value}(hg:Goes F isO w0 C0 w C)(hi:Inv E.Γ F w C σ0)(hf:FrOk w C E.N fr tmps)(hlo:¬LetsOut (Post E F w0 C0 K)):
  (Code.region id l.toArray true).wpIn (Q3p r) n E.P (Post E F w0 C0 K) ⟨tmps,E.ds⟩ w:=wpIn_region_any hm (Q77 hnd hlo _ _ _ _ (h F w0 C0 w C tmps hg hi hf))
end
end Go.Abs
namespace Go.Abs
def AIn (E:Env)(c:Code)(K:Cont)(fr:Fr)(σ:St):Prop:=
 ∀(F:Nat->Prop) (w0:World) (C0:Ctx) (w:World) (C:Ctx) (tmps:Array Value),Goes F isO w0 C0 w C->Inv E.Γ F w C σ->FrOk w C E.N fr tmps->∀r n,c.wpIn (Q3p r) n E.P (Post E F w0 C0 K) ⟨tmps,E.ds⟩ w
def Tame (K:Cont):Prop:=∀fr σ,¬K .outgrown fr σ
theorem Tame.lets{E:Env}{F:Nat->Prop}{w0:World}{C0:Ctx}{K:Cont}(h:Tame K):¬LetsOut (Post E F w0 C0 K):=fun ⟨a,w,_,fr,σ,_,_,_,_,hk⟩=>h fr σ hk
section
variable {E:Env}{l:List Oper}{fr:Fr}{K:Cont}{σ:St}
theorem AIn.drawn{id:Nat}(hm:E.P.follows .mixedOrders=true)(hK:Tame K)(hnd:∀o∈l.toArray,∀c,o.op≠.defer c)(h:AAny E l K fr σ):AIn E (.region id l.toArray true) K fr σ:=fun F w0 C0 w C tmps hg hi hf r n=>AAny.round hm hnd h hg hi hf hK.lets
def inBlk (id:Nat)(K:Cont):Cont:=fun e fr σ=>match e with
 |.exit j=>if j=id then K .normal fr σ else K (.exit j) fr σ
 |e=>K e fr σ
theorem AIn.block{id:Nat}{c:Code}(h:AIn E c (inBlk id K) fr σ):AIn E (.block id c) K fr σ:=fun F w0 C0 w C tmps hg hi hf r n=>by
 refine wpIn_block (wpIn_mono (h F w0 C0 w C tmps hg hi hf r n) fun e a w' ⟨hd,fr',σ',C',h1,h2,h3,hk⟩=>?_)
 cases e with
 |exit j=>
  simp only[inBlk]at hk
  simp only[Exit.inBlock]
  split
  ·rename_i e;rw[if_pos e]at hk;exact⟨hd,fr',σ',C',h1,h2,h3,hk⟩
  ·rename_i e;rw[if_neg e]at hk;exact⟨hd,fr',σ',C',h1,h2,h3,hk⟩
 |_=>exact⟨hd,fr',σ',C',h1,h2,h3,hk⟩
end
end Go.Abs
namespace Go.Abs
structure Trm (w:World)(C C':Ctx):Prop where
 prot:∀a u,w.cell? a=some u->C.prot a->C'.prot a
 id:∀i,C.ok i->C'.ok i/\C'.blk i=C.blk i/\C'.tok i=C.tok i
mutual
theorem R.trm{w:World}{C C':Ctx}(h:Trm w C C'):∀(c:AC)(v:Value),R w C c v->R w C' c v
 |.lit u,v,hr=>by simpa[R]using hr
 |.any,v,hr=>by simpa[R]using hr
 |.sl s es,v,hr=>by
  simp only[R]at *
  obtain⟨a,cap,rfl,hc,h2⟩:=hr
  refine⟨a,cap,rfl,hc,?_⟩
  rcases h2 with h2|⟨ad,rfl,hs,h2⟩
  ·exact .inl h2
  ·exact .inr ⟨ad,rfl,hs,RS.trm h s es ad h2⟩
 |.box cs,v,hr=>by
  simp only[R]at *
  obtain⟨ad,rfl,hs,h2⟩:=hr
  exact⟨ad,rfl,hs,RL.trm h cs ad h2⟩
 |.ptr i off,v,hr=>by
  simp only[R]at *
  obtain⟨ho,rfl⟩:=hr
  obtain⟨h1,h2,_⟩:=h.id i ho
  exact⟨h1,by rw[h2]⟩
 |.gs s es i,v,hr=>by
  simp only[R]at *
  obtain⟨ho,hr⟩:=hr
  obtain⟨h1,_,h3⟩:=h.id i ho
  refine⟨h1,?_⟩
  rcases hr with ⟨rfl,he,ht⟩|⟨g,cap,rfl,hc,ht,h2⟩
  ·exact .inl ⟨rfl,he,h3.trans ht⟩
  ·exact .inr ⟨g,cap,rfl,hc,h3.trans ht,RS.trm h s es _ h2⟩
 |.arr i s off len cap,v,hr=>by
  simp only[R]at *
  obtain⟨ho,rfl,hc⟩:=hr
  obtain⟨h1,h2,_⟩:=h.id i ho
  exact⟨h1,by rw[h2],hc⟩
 |.mp i,v,hr=>by
  simp only[R]at *
  obtain⟨ho,rfl⟩:=hr
  obtain⟨h1,h2,_⟩:=h.id i ho
  exact⟨h1,by rw[h2]⟩
 |.fn f first caps,v,hr=>by
  simp only[R]at *
  obtain⟨xs,ys,rfl,h1,h2⟩:=hr
  exact⟨xs,ys,rfl,RV.trm h first xs h1,RV.trm h caps ys h2⟩
 |.ifc t ag cs,v,hr=>by
  simp only[R]at *
  obtain⟨xs,h1,h2⟩:=hr
  exact⟨xs,RV.trm h cs xs h1,h2⟩
theorem RS.trm{w:World}{C C':Ctx}(h:Trm w C C')(s:Nat):∀(es:List (List AC))(ad:Addr),RS w C s es ad->RS w C' s es ad
 |[],_,_=>by simp[RS]
 |e::es,ad,hr=>by
  simp only[RS]at *
  exact⟨hr.1,RL.trm h e ad hr.2.1,RS.trm h s es _ hr.2.2⟩
theorem RL.trm{w:World}{C C':Ctx}(h:Trm w C C'):∀(cs:List AC)(ad:Addr),RL w C cs ad->RL w C' cs ad
 |[],_,_=>by simp[RL]
 |c::cs,ad,hr=>by
  simp only[RL]at *
  obtain⟨⟨u,hu,hp,hr⟩,h2⟩:=hr
  exact⟨⟨u,hu,h.prot _ _ hu hp,R.trm h c u hr⟩,RL.trm h cs _ h2⟩
theorem RV.trm{w:World}{C C':Ctx}(h:Trm w C C'):∀(cs:List AC)(vs:List Value),RV w C cs vs->RV w C' cs vs
 |[],_,hr=>by simpa[RV]using hr
 |c::cs,vs,hr=>by
  simp only[RV]at *
  obtain⟨u,us,rfl,h1,h2⟩:=hr
  exact⟨u,us,rfl,R.trm h c u h1,RV.trm h cs us h2⟩
end
mutual
theorem RF.trm{w:World}{C C':Ctx}(h:Trm w C C'):∀(x:FV)(v:Value),RF w C x v->RF w C' x v
 |.bot,v,_=>by simp[RF]
 |.one c,v,hr=>by simp only[RF]at *;exact R.trm h c v hr
 |.agg cs,v,hr=>by
  simp only[RF]at *
  obtain⟨xs,rfl,h2⟩:=hr
  exact⟨xs,rfl,RV.trm h cs xs h2⟩
 |.tup vs,v,hr=>by
  simp only[RF]at *
  obtain⟨xs,rfl,h2⟩:=hr
  exact⟨xs,rfl,RFs.trm h vs xs h2⟩
theorem RFs.trm{w:World}{C C':Ctx}(h:Trm w C C'):∀(vs:List FV)(xs:List Value),RFs w C vs xs->RFs w C' vs xs
 |[],xs,hr=>by simpa[RFs]using hr
 |v::vs,xs,hr=>by
  simp only[RFs]at *
  obtain⟨u,us,rfl,h1,h2⟩:=hr
  exact⟨u,us,rfl,RF.trm h v u h1,RFs.trm h vs us h2⟩
end
theorem FrOk.trm{w:World}{C C':Ctx}{N:Nat}{fr:Fr}{tmps:Array Value}(h:Trm w C C')(hf:FrOk w C N fr tmps):FrOk w C' N fr tmps:=⟨hf.1,fun k x hk=>let ⟨u,hu,hr⟩:=hf.2 k x hk;⟨u,hu,RF.trm h x u hr⟩⟩
def Q6h (w:World)(k:Nat):Prop:=∃o:Obj,w.heap[k]?=some o/\o.isCells=true
def Q3m (σ:St):Prop:=∀i o,σ.get i=some o->match o with|.cells _=>True|.tok _ _ _=>True|.dead=>True|_=>False
theorem Inv.trm{Γ:List (Nat×List AC)}{F:Nat->Prop}{w:World}{C C':Ctx}{σ:St}(hi:Inv Γ F w C σ)(h:Trm w C C')(hnl:C'.nl=C.nl)(hp:∀a,C'.prot a->C.prot a∨¬Q6h w a.block)(hlt:∀a,C'.prot a->a.block < w.heap.size)(hg:∀g cs,(g,cs)∈Γ->C'.prot ⟨g,cs.length,none⟩)(hpl:Q3m σ):Inv Γ F w C' σ:=by
 refine⟨hi.base,hnl.trans hi.next,fun g cs hm=>?_,hlt,fun i o ho=>?_,fun i j o o' g ho ho' hb hb'=>?_⟩
 ·have:=hi.glob g cs hm
  exact⟨RL.trm h cs _ this.rl,this.fin,hg g cs hm⟩
 ·obtain⟨h1,h2⟩:=hi.obj i o ho
  obtain⟨e1,e2,e3⟩:=h.id i h1
  refine⟨e1,?_⟩
  have hpo:=hpl i o ho
  cases o with
  |cells cs=>
   obtain⟨xs,T,g1,g2,g3,g4⟩:=h2
   refine⟨xs,T,by rw[e2];exact g1,by rw[e2];exact g2,RV.trm h cs xs g3,fun a ha hpa=>?_⟩
   rw[e2]at ha
   rcases hp a hpa with h3|h3
   ·exact g4 a ha h3
   ·exact h3 ⟨_,by rw[ha];exact g1,rfl⟩
  |tok e s used=>
   unfold ObjOk at h2 ⊢
   rw[e3]
   cases ht:C.tok i with
   |none=>rw[ht]at h2;exact h2
   |some p=>
    obtain⟨g,cap⟩:=p
    rw[ht]at h2
    obtain⟨xs,g1,g2,g3,g4,g5,g6⟩:=h2
    refine⟨xs,g1,g2,g3,g4,g5,fun a ha hpa=>?_⟩
    rcases hp a hpa with h3|h3
    ·exact g6 a ha h3
    ·exact absurd ⟨_,by rw[ha];exact g1,rfl⟩ h3
  |dead=>trivial
  |map ck es=>exact hpo.elim
  |iter m since seen last=>exact hpo.elim
  |sit s pos=>exact hpo.elim
 ·have bl:∀i o,σ.get i=some o->o.block C' i=o.block C i:=fun i o ho=>by
   obtain⟨e1,e2,e3⟩:=h.id i (hi.obj i o ho).1
   cases o <;> simp[AObj.block,e2,e3]
  rw[bl i o ho]at hb
  rw[bl j o' ho']at hb'
  exact hi.inj i j o o' g ho ho' hb hb'
end Go.Abs
namespace Go.Abs
def ProtB (B:Nat)(w:World)(C:Ctx):Prop:=∀a,C.prot a->a.block < B∨Q6h w a.block
def trimB (B:Nat)(w:World)(C:Ctx):Ctx:={ C with prot:=fun a=>C.prot a/\(a.block < B∨Q6h w a.block) }
theorem Qfr{w:World}{a:Addr}{u:Value}(h:w.cell? a=some u):Q6h w a.block:=by
 unfold World.cell? at h
 cases ho:w.heap[a.block]? with
 |none=>rw[ho]at h;cases h
 |some o=>
  rw[ho]at h
  cases o with
  |cells c t f=>exact⟨_,ho,rfl⟩
  |_=>cases h
theorem Q58(B:Nat)(w:World)(C:Ctx):Trm w C (trimB B w C):=⟨fun a u hu hp=>⟨hp,.inr (Qfr hu)⟩,fun i h=>⟨h,rfl,rfl⟩⟩
theorem Q5z(B:Nat)(w:World)(C:Ctx):ProtB B w (trimB B w C):=fun a h=>h.2
theorem Inv.trimB{Γ:List (Nat×List AC)}{F:Nat->Prop}{w:World}{C:Ctx}{σ:St}(hi:Inv Γ F w C σ)(B:Nat)(hpl:Q3m σ)(hg:∀g cs,(g,cs)∈Γ->g < B):Inv Γ F w (trimB B w C) σ:=
 hi.trm (Q58 B w C) rfl (fun a h=>.inl h.1) (fun a h=>hi.prot a h.1) (fun g cs hm=>⟨(hi.glob g cs hm).pr,.inl (hg g cs hm)⟩) hpl
theorem Goes.trimB{F:Nat->Prop}{w0 w:World}{C0 C:Ctx}(h:Goes F isO w0 C0 w C){B:Nat}(hB:∀a,C0.prot a->a.block < B):Goes F isO w0 C0 w (trimB B w C):=
 ⟨h.stp,⟨h.chg.cell,fun a ha=>⟨h.chg.prot a ha,.inl (hB a ha)⟩,h.chg.id⟩,h.no,fun a ha=>h.newp a ha.1⟩
section
variable {B:Nat}{w w':World}{row:Option Nat}(hg:w.grownBy w' row)(hr:∀r,row=some r->B<=r/\∃o:Obj,w.heap[r]?=some o/\o.isCells=false)
include hg hr
theorem Q5e{k:Nat}(hk:k < B)(hB:B<=w.heap.size):w'.heap[k]?=w.heap[k]?:=hg.block k (by omega) (fun e=>by have:=(hr k e.symm).1;omega)
theorem Q7e{k:Nat}(hk:Q6h w k):w'.heap[k]?=w.heap[k]?:=by
 obtain⟨o,ho,hc⟩:=hk
 refine hg.block k (Q0j ho) (fun e=>?_)
 obtain⟨_,o',ho',hc'⟩:=hr k e.symm
 rw[ho]at ho';cases ho';rw[hc]at hc';cases hc'
theorem Qjq{C:Ctx}(hB:B<=w.heap.size)(hp:ProtB B w C){a:Addr}(ha:C.prot a):w'.heap[a.block]?=w.heap[a.block]?:=(hp a ha).elim (fun h=>Q5e hg hr h hB) (Q7e hg hr)
theorem ProtB.rowed{C:Ctx}(hB:B<=w.heap.size)(hp:ProtB B w C):ProtB B w' C:=fun a ha=>(hp a ha).imp id fun ⟨o,ho,hc⟩=>⟨o,(Q7e hg hr ⟨o,ho,hc⟩).trans ho,hc⟩
theorem Ext.rowed{C:Ctx}(hB:B<=w.heap.size)(hp:ProtB B w C):Ext w C w' C:=⟨fun a ha=>by unfold World.cell?;rw[Qjq hg hr hB hp ha],fun a ha=>ha,fun i _ ho=>⟨ho,rfl,rfl⟩⟩
theorem Goes.rowed{F:Nat->Prop}{w0:World}{C0 C:Ctx}(h:Goes F isO w0 C0 w C)(hB:B<=w.heap.size)(h0:w0.heap.size<=B)(hF:∀k,F k->k < B)(hp0:∀a,C0.prot a->a.block < B):Goes F isO w0 C0 w' C :=
 ⟨⟨hg.os.trans h.stp.os, hg.tape.trans h.stp.tape, hg.output.trans h.stp.output, Nat.le_trans h.stp.size hg.size, fun k hk => (Q5e hg hr (hF k hk) hB).trans (h.stp.block k hk), fun a ha => (World.frozen?_of_block (Q5e hg hr (by omega) hB)).trans (h.stp.frozen a ha)⟩,
  ⟨fun a ha=>(World.cell?_of_block (Q5e hg hr (hp0 a ha) hB)).trans (h.chg.cell a ha),h.chg.prot,h.chg.id⟩,h.no,h.newp⟩
theorem Inv.rowed{Γ:List (Nat×List AC)}{F:Nat->Prop}{C:Ctx}{σ:St}(hi:Inv Γ F w C σ)(hB:B<=w.heap.size)(hp:ProtB B w C)(hpl:Q3m σ):Inv Γ F w' C σ:=by
 have he:=Ext.rowed hg hr hB hp
 refine⟨fun k hk=>Nat.lt_of_lt_of_le (hi.base k hk) hg.size,hi.next,fun g cs h=>(hi.glob g cs h).ext he,fun a ha=>Nat.lt_of_lt_of_le (hi.prot a ha) hg.size,fun i o h=>?_,hi.inj⟩
 obtain⟨h1,h2⟩:=hi.obj i o h
 have hpo:=hpl i o h
 refine⟨h1,h2.keep he h1 (fun g x hx1 hx=>?_) (fun a _ _ ha=>ha)⟩
 refine (Q7e hg hr ?_).trans hx
 cases o with
 |cells cs=>
  obtain⟨xs,T,g1,_⟩:=h2
  simp only[AObj.block,Option.some.injEq]at hx1
  subst hx1
  exact⟨_,g1,rfl⟩
 |tok e s used=>
  unfold ObjOk at h2
  simp only[AObj.block]at hx1
  cases ht:C.tok i with
  |none=>rw[ht]at hx1;cases hx1
  |some p=>
   obtain⟨g',cap⟩:=p
   rw[ht]at hx1 h2
   simp at hx1
   subst hx1
   obtain⟨ys,g1,_⟩:=h2
   exact⟨_,g1,rfl⟩
 |dead=>cases hx1
 |map ck es=>exact hpo.elim
 |iter m since seen last=>exact hpo.elim
 |sit s pos=>exact hpo.elim
end
end Go.Abs
namespace Go.Abs
def Q35 (F:Nat->Prop)(w:World):Nat->Prop:=fun k=>F k∨∃o:Obj,w.heap[k]?=some o/\o.isCells=false
theorem Inv.keepF{Γ:List (Nat×List AC)}{F F':Nat->Prop}{w:World}{C:Ctx}{σ:St}(hi:Inv Γ F w C σ)(hb:∀k,F' k->k < w.heap.size)(hF:∀i o g,σ.get i=some o->o.block C i=some g->F' g->False):Inv Γ F' w C σ:=
 ⟨hb,hi.next,hi.glob,hi.prot,fun i o h=>⟨(hi.obj i o h).1,(hi.obj i o h).2.memo (hF i o · h)⟩,hi.inj⟩
theorem Inv.blockCells{Γ:List (Nat×List AC)}{F:Nat->Prop}{w:World}{C:Ctx}{σ:St}(hi:Inv Γ F w C σ)(hpl:Q3m σ){i:Id}{o:AObj}{g:Nat}(h:σ.get i=some o)(hb:o.block C i=some g):Q6h w g/\¬F g:=by
 obtain⟨h1,h2⟩:=hi.obj i o h
 have hpo:=hpl i o h
 cases o with
 |cells cs=>
  obtain⟨xs,T,g1,g2,_⟩:=h2
  simp only[AObj.block,Option.some.injEq]at hb
  subst hb
  exact⟨⟨_,g1,rfl⟩,g2⟩
 |tok e s used=>
  unfold ObjOk at h2
  simp only[AObj.block]at hb
  cases ht:C.tok i with
  |none=>rw[ht]at hb;cases hb
  |some p=>
   obtain⟨g',cap⟩:=p
   rw[ht]at hb h2
   simp at hb
   subst hb
   obtain⟨ys,g1,g2,_⟩:=h2
   exact⟨⟨_,g1,rfl⟩,g2⟩
 |dead=>cases hb
 |map ck es=>exact hpo.elim
 |iter m since seen last=>exact hpo.elim
 |sit s pos=>exact hpo.elim
theorem Inv.intoRound{Γ:List (Nat×List AC)}{F:Nat->Prop}{w:World}{C:Ctx}{σ:St}(hi:Inv Γ F w C σ)(hpl:Q3m σ):Inv Γ (Q35 F w) w C σ:=by
 refine hi.keepF (fun k hk=>hk.elim (hi.base k) fun ⟨o,ho,_⟩=>Q0j ho) fun i o g h hb hF=>?_
 obtain⟨⟨o',ho',hc'⟩,hn⟩:=hi.blockCells hpl h hb
 rcases hF with hF|⟨o2,ho2,hc2⟩
 ·exact hn hF
 ·rw[ho']at ho2;cases ho2;rw[hc']at hc2;cases hc2
theorem Inv.outOfRound{Γ:List (Nat×List AC)}{F:Nat->Prop}{w w':World}{C:Ctx}{σ:St}(hi:Inv Γ (Q35 F w) w' C σ)(hpl:Q3m σ):Inv Γ F w' C σ:=
 hi.keepF (fun k hk=>hi.base k (.inl hk)) fun i o g h hb hF=>(hi.blockCells hpl h hb).2 (.inl hF)
theorem Goes.outOfRound{F:Nat->Prop}{w w':World}{C C':Ctx}(h:Goes (Q35 F w) isO w C w' C'):Goes F isO w C w' C':=⟨h.stp.mono fun k hk=>.inl hk,h.chg,h.no,fun a ha=>(h.newp a ha).imp id fun hn hF=>hn (.inl hF)⟩
theorem Goes.keepsFrom{F:Nat->Prop}{w w':World}{C C':Ctx}(h:Goes (Q35 F w) isO w C w' C')(B:Nat):KeepsFrom B w w':=⟨h.stp.size,fun k o _ ho hc=>(h.stp.block k (.inr ⟨o,ho,hc⟩)).trans ho⟩
theorem Goes.keepsWalks{F:Nat->Prop}{w w':World}{C C':Ctx}(h:Goes (Q35 F w) isO w C w' C'):KeepsWalks w w':=⟨h.stp.size,fun k o ho hw=>(h.stp.block k (.inr ⟨o,ho,Obj.not_cells_of_walk hw⟩)).trans ho⟩
end Go.Abs
namespace Go.Abs
def KpC (C:Ctx)(A B:World):Prop:=KeepsWalks A B/\∀a,C.prot a->B.cell? a=A.cell? a
theorem Qjt{E:Env}{α:Type}{g:Operand}{ps:Array Tmp}{assign body:Code}{Q:Exit->Act->World->Prop}{F:Nat->Prop}{w0 w:World}{C0 C:Ctx}{fr:Fr}{σ:St}{tmps:Array Value}{gf:Nat}{lb:Array Value}{encs:α->Array Value}{S Sp:List α->Prop}{N:Nat}(J:List α->St->Prop)(a1:α->Array Value)
  (hgo : Goes F isO w0 C0 w C) (hi : Inv E.Γ F w C σ) (hf : FrOk w C E.N fr tmps) (hJ : ∀ pre σ, J pre σ -> Q3m σ) (hj0 : J [] σ) (hfi : ∀ k x, Fr.get k fr = some x -> x.ids isO)
  (hg : Act.eval ⟨tmps, E.ds⟩ g = .func (.func gf) #[] lb) (eg : ∀ args w, (callFunc gf args).run E.P w = .ok (.enter gf args) w)
  (hseq : SeqStopsK Fence.wide 1 E.P gf lb encs (KpC C) S Sp N w) (hps : ∀ x, (encs x).size = ps.size)
  (hassign : ∀ (l : Nat) (x : α) (W : World) (K : Act -> World -> Prop), K ⟨a1 x, []⟩ W -> assign.wpIn (Q3p l) 0 E.P (Exit.then K (fun _ _ _ => False)) { tmps := (ps.zip (encs x)).foldl (fun t (p, v) => t.setIfInBounds p v) tmps, defers := [] } W)
  (hbody : ∀ (l : Nat) (pre : List α) (x : α) (W : World) (C' : Ctx) (σ' : St), pre.length < N -> Goes F isO w C W C' -> Inv E.Γ (Q35 F W) W C' σ' -> FrOk W C' E.N fr tmps -> J pre σ' ->
   body.wpIn (Q3p l) 0 E.P (Post { E with ds:=[] } (Q35 F W) W C' (fun e _ σ''=>e=.normal/\J (pre++[x]) σ'')) ⟨a1 x,[]⟩ W)
  (hdone:∀(D:Nat) (xs:List α) (W:World) (C':Ctx) (σ':St),w.heap.size<=D->S xs->Goes F isO w0 C0 W C'->Inv E.Γ F W C' σ'->FrOk W C' E.N fr tmps->J xs σ'->W.heap[D]?=some (.deferred (some []))->Q .normal ⟨tmps,{ target:=.collected D,args:=#[] }::E.ds⟩ W):
  (Code.rangeFunc g ps assign body).wp E.P Q ⟨tmps,E.ds⟩ w:=by
 have hgl:∀g cs,(g,cs)∈E.Γ->g < w.heap.size:=fun g cs hm=>hi.prot _ (hi.glob g cs hm).pr
 have hFb:∀k,F k->k < w.heap.size:=hi.base
 refine wpIn_wide.1 (wpIn_rangeFunc_ownG (F:=Fence.wide) (n:=2) rfl (by decide) hg trivial eg hseq (fun a b=>⟨a.1.trans b.1,fun x hx=>(b.2 x hx).trans (a.2 x hx)⟩) (fun W l o o' hl h hc hw=>⟨walksK_b (w:=w) W l o o' hl h hc hw,fun a ha=>World.cell?_of_block ((grownBy_putObj' W l o').block a.block (Nat.lt_of_lt_of_le (hi.prot a ha) (Nat.le_trans hl (Nat.le_of_lt (Q0j h)))) (fun e=>by have:=hi.prot a ha;cases e;omega))⟩) (RowKit.Below.refl _ _) hps
  (fun pre W=>w.heap.size<=W.heap.size/\∃C' σ',Goes F isO w C W C'/\Inv E.Γ F W C' σ'/\FrOk W C' E.N fr tmps/\ProtB w.heap.size W C'/\J pre σ')
  (fun _ _ _=>False) ?_ (fun c s W W' row h=>h.elim) ?_ (fun x=>⟨a1 x,[]⟩) hassign ?_ ?_ (fun D c pre W _ _ h=>h.elim))
 ·intro pre W W' row ⟨hsz,C',σ',h1,h2,h3,h4,h5⟩ hgr hrow
  exact⟨Nat.le_trans hsz hgr.size,C',σ',Goes.rowed hgr hrow h1 hsz (Nat.le_refl _) hFb hi.prot,Inv.rowed hgr hrow h2 hsz h4 (hJ _ _ h5),h3.ext (Ext.rowed hgr hrow hsz h4),ProtB.rowed hgr hrow hsz h4,h5⟩
 ·exact⟨Nat.le_refl _,trimB w.heap.size w C,σ,(Goes.refl F isO w C).trimB hi.prot,hi.trimB _ (hJ _ _ hj0) hgl,hf.trm (Q58 _ _ _),Q5z _ _ _,hj0⟩
 ·intro l pre x W ⟨hsz,C',σ',h1,h2,h3,h4,h5⟩ hlt
  refine wpIn_mono (hbody l pre x W C' σ' hlt h1 (h2.intoRound (hJ _ _ h5)) h3 h5) fun e a W' ⟨hd,fr',σ'',C'',g1,g2,g3,he,hj⟩=>?_
  subst he
  have hF2:FrOk W' C'' E.N fr tmps:=⟨h3.1,fun k x hk=>let ⟨u,hu,hr⟩:=h3.2 k x hk;⟨u,hu,RF.chg g1.chg x u (hfi k x hk) hr⟩⟩
  have hB2:∀a,C'.prot a->a.block < W.heap.size:=h2.prot
  have g4:=g2.outOfRound (hJ _ _ hj)
  refine⟨g1.keepsFrom _,⟨g1.keepsWalks,fun a ha=>g1.chg.cell a (h1.chg.prot a ha)⟩,Nat.le_trans hsz g1.stp.size,trimB w.heap.size W' C'',σ'',(h1.trans g1.outOfRound).trimB hi.prot,g4.trimB _ (hJ _ _ hj) hgl,hF2.trm (Q58 _ _ _),Q5z _ _ _,hj⟩
 ·intro D xs W hD hS ⟨hsz,C',σ',h1,h2,h3,h4,h5⟩ hmk
  exact hdone D xs W C' σ' hD hS (hgo.trans h1) h2 h3 h5 hmk
end Go.Abs
namespace Go.Abs
def Owes (Γ:List (Nat×List AC))(F:Nat->Prop)(w:World)(C:Ctx)(Q:FV->Outer->Prop):Ending->World->Prop:=fun e w'=>
 ∃v r ou' C',e=.returned v/\Goes F isO w C w' C'/\C'.nl=0/\Inv Γ F w' C' ⟨0,[],ou'⟩/\RF w' C' r v/\Q r ou'
theorem Qck{P:Program}{T:Tab}{Γ:List (Nat×List AC)}{N n D:Nat}{fn:Func}{ds:List Deferred}{Q:FV->Outer->Prop}{F:Nat->Prop}{w w3:World}{C C3:Ctx}{ou:Outer}{fr3:Fr}{σ3:St}{tmps:Array Value}(hT:TabOk P T)(h0:C.nl=0)(hi:Inv Γ F w C ⟨0,[],ou⟩)
  (hgo:Goes F isO w C w3 C3) (hi3:Inv Γ F w3 C3 σ3) (hf3:FrOk w3 C3 N fr3 tmps) (hfin:Fin ⟨P,T,Γ,N,ds⟩ fn Q fr3 σ3) (hpl:Q3m σ3) (hD:w.heap.size<=D) (hm:w3.heap[D]?=some (.deferred (some []))):
  LeavesInM Fence.wide n P fn tmps (Owes Γ F w C Q) [{ target:=.collected D,args:=#[] }] .returning w3:=by
 have hDl:D < w3.heap.size:=Q0j hm
 have hgr:=grownBy_putObj' w3 D (.deferred none)
 have hrow:∀r,some D=some r->D<=r/\∃o:Obj,w3.heap[r]?=some o/\o.isCells=false:=fun r e=>by cases e;exact⟨Nat.le_refl _,_,hm,rfl⟩
 have hgl:∀g cs,(g,cs)∈Γ->g < D:=fun g cs h=>Nat.lt_of_lt_of_le (hi.prot _ (hi.glob g cs h).pr) hD
 have hp0:∀a,C.prot a->a.block < D:=fun a ha=>Nat.lt_of_lt_of_le (hi.prot a ha) hD
 have hi4:=hi3.trimB D hpl hgl
 have hg4:=hgo.trimB (B:=D) hp0
 have hf4:=hf3.trm (Q58 D w3 C3)
 have hp4:=Q5z D w3 C3
 have hi5:=Inv.rowed hgr hrow hi4 (Nat.le_of_lt hDl) hp4 hpl
 have hg5:=Goes.rowed hgr hrow hg4 (Nat.le_of_lt hDl) hD (fun k hk=>Nat.lt_of_lt_of_le (hi.base k hk) hD) hp0
 have hf5:=hf4.ext (Ext.rowed hgr hrow (Nat.le_of_lt hDl) hp4)
 refine⟨by simp,.inl ⟨D,_,rfl,run_takeDeferred hm,?_⟩⟩
 exact Q73 hT h0 hi hg5 hi5 hf5 hfin
theorem AFn.ofMarks{P:Program}{Γ:List (Nat×List AC)}{g:Nat}{fn:Func}{c:Code}{args:List FV}{ou:Outer}{Q:FV->Outer->Prop}(hf:P.funcs[g]?=some fn)(hb:fn.body=some c)(hname:(fn.name == "runtime.NumGoroutine")=false)
  (hlen : args.length <= fn.ntmps)
  (h : OuOk ou -> ∀ (F : Nat -> Prop) (w : World) (C : Ctx) (tmps : Array Value), C.nl = 0 -> Inv Γ F w C ⟨0, [], ou⟩ -> FrOk w C fn.ntmps (argFr 0 args) tmps -> c.wp P (bodyPostM Fence.wide 0 P fn (Owes Γ F w C Q)) ⟨tmps, []⟩ w) : AFn P Γ g args ou Q := by
 refine⟨fun vs0 w=>?_,fun F w C cargs h0 hi hr=>?_⟩
 ·simp[callFunc,hf,hb]
  simpa using hname
 ·have hcl:cargs.length=args.length:=by
   have:∀(vs:List FV) (xs:List Value),RFs w C vs xs->xs.length=vs.length:=by
    intro vs
    induction vs with
    |nil=>intro xs h;simp only[RFs]at h;simp[h]
    |cons v vs ih=>intro xs h;simp only[RFs]at h;obtain⟨u,us,rfl,_,h2⟩:=h;simp[ih us h2]
   exact this _ _ hr
  have hfr:FrOk w C fn.ntmps (argFr 0 args) (cargs.toArray++Array.replicate (fn.ntmps - cargs.toArray.size) undef):=by
   refine⟨by simp;omega,fun k x hk=>?_⟩
   obtain⟨_,h2⟩:=Q3r args 0 k x hk
   simp only[Nat.sub_zero]at h2
   obtain⟨u,hu,hru⟩:=RFs.get hr h2
   refine⟨u,?_,hru⟩
   have hlt:k < cargs.length:=(List.getElem?_eq_some_iff.1 hu).1
   rw[Array.getElem?_append_left (by simpa using hlt)]
   simpa using hu
  exact callsIn_wide.1 (callsIn_of_wp_marks (n:=0) hf hb trivial (wpIn_wide.2 (h (OuOk.of_inv hi h0) F w C _ h0 hi hfr)))
theorem Qfx{E:Env}{D:Nat}{fn:Func}{c:Code}{Q:FV->Outer->Prop}{F:Nat->Prop}{w W:World}{C C':Ctx}{ou:Outer}{fr:Fr}{σ:St}{tmps:Array Value}{R:Exit->Act->World->Prop}(hT:TabOk E.P E.T)(h0:C.nl=0)(hi:Inv E.Γ F w C ⟨0,[],ou⟩)
  (hD:w.heap.size<=D) (hgo:Goes F isO w C W C') (hiW:Inv E.Γ F W C' σ) (hpl:Q3m σ) (hf:FrOk W C' E.N fr tmps) (hm:W.heap[D]?=some (.deferred (some [])))
  (hR:∀a w',bodyPostM Fence.wide 0 E.P fn (Owes E.Γ F w C Q) .ret a w'->R .ret a w')
  (h:∀ds,ACode { E with ds:=ds } c (Q02 { E with ds:=ds } (fun fr σ=>Fin { E with ds:=ds } fn Q fr σ/\Q3m σ) [.inv fun _ _=>False]) fr σ):c.wp E.P R ⟨tmps,[{ target:=.collected D,args:=#[] }]⟩ W:=by
 have hiF:Inv E.Γ (fun k=>F k∨k=D) W C' σ:=by
  refine hiW.keepF (fun k hk=>hk.elim (hiW.base k) fun e=>e▸Q0j hm) fun i o g h hb hF=>?_
  obtain⟨⟨o',ho',hc'⟩,hn⟩:=hiW.blockCells hpl h hb
  rcases hF with hF|rfl
  ·exact hn hF
  ·rw[ho']at hm;cases hm;cases hc'
 refine wp_mono (h [{ target:=.collected D,args:=#[] }] (fun k=>F k∨k=D) W C' W C' tmps (Goes.refl _ _ _ _) hiF hf) fun e a w3 hp=>?_
 obtain⟨hd,fr3,σ3,C3,hg3,hi3,hf3,hk⟩:=hp
 obtain⟨rfl,hfin,hpl3⟩:e=.ret/\Fin { E with ds:=[{ target:=.collected D,args:=#[] }] } fn Q fr3 σ3/\Q3m σ3:=by
  cases e with
  |ret=>exact⟨rfl,hk⟩
  |_=>exact (hk:False).elim
 refine hR a w3 ?_
 have hg3':Goes F isO W C' w3 C3:=⟨hg3.stp.mono fun k hk=>.inl hk,hg3.chg,hg3.no,fun a ha=>(hg3.newp a ha).imp id fun hn hF=>hn (.inl hF)⟩
 have hi3':Inv E.Γ F w3 C3 σ3:=hi3.keepF (fun k hk=>hi3.base k (.inl hk)) fun i o g h hb hF=>(hi3.blockCells hpl3 h hb).2 (.inl hF)
 show LeavesInM Fence.wide 0 E.P fn a.tmps (Owes E.Γ F w C Q) a.defers .returning w3
 rw[hd]
 exact Qck hT h0 hi (hgo.trans hg3') hi3' hf3 hfin hpl3 hD ((hg3.stp.block D (.inr rfl)).trans hm)
end Go.Abs
namespace Go.Abs
def XCode (E:Env)(F:Nat->Prop)(w0:World)(C0:Ctx)(Z:Exit->Act->World->Prop)(c:Code)(fr:Fr)(σ:St):Prop:=
 ∀(w:World) (C:Ctx) (tmps:Array Value),Goes F isO w0 C0 w C->Inv E.Γ F w C σ->FrOk w C E.N fr tmps->c.wp E.P Z ⟨tmps,E.ds⟩ w
def noFin:Fr->St->Prop:=fun _ _=>False
section
variable {E:Env}{F:Nat->Prop}{w0:World}{C0:Ctx}{Z:Exit->Act->World->Prop}{fr:Fr}{σ:St}
theorem XCode.seq{x y:Code}(h:ACode E x (Q02 E noFin [.inv fun fr σ=>XCode E F w0 C0 Z y fr σ]) fr σ):XCode E F w0 C0 Z (.seq x y) fr σ:=fun w C tmps hg hi hf=>by
 refine wp_seq (wp_mono (h F w0 C0 w C tmps hg hi hf) fun e a w' hp=>?_)
 obtain⟨hd,fr',σ',C',hg',hi',hf',hk⟩:=hp
 cases e with
 |normal=>
  have:a=⟨a.tmps,E.ds⟩:=by cases a;simp_all
  rw[this]
  exact hk w' C' a.tmps hg' hi' hf'
 |_=>exact (hk:False).elim
theorem XCode.block{id:Nat}{c:Code}(h:XCode E F w0 C0 (Exit.inBlock id Z) c fr σ):XCode E F w0 C0 Z (.block id c) fr σ:=fun w C tmps hg hi hf=>wp_block (h w C tmps hg hi hf)
theorem XCode.condT{c:Operand}{x y:Code}(hc:aEval E.Γ fr c=some (.one (.lit (.bool true))))(h:XCode E F w0 C0 Z x fr σ):XCode E F w0 C0 Z (.cond c x y) fr σ:=fun w C tmps hg hi hf=>by
 have hr:=Q00 (a:=⟨tmps,E.ds⟩) hi hf hc
 simp only[RF,R]at hr
 exact wp_cond_true hr.1 (h w C tmps hg hi hf)
theorem XCode.condF{c:Operand}{x y:Code}(hc:aEval E.Γ fr c=some (.one (.lit (.bool false))))(h:XCode E F w0 C0 Z y fr σ):XCode E F w0 C0 Z (.cond c x y) fr σ:=fun w C tmps hg hi hf=>by
 have hr:=Q00 (a:=⟨tmps,E.ds⟩) hi hf hc
 simp only[RF,R]at hr
 exact wp_cond_false hr.1 (h w C tmps hg hi hf)
theorem XCode.lessR{c:Code}{fr':Fr}{σ':St}{ρ:Nat->Nat}(hΓ:∀g cs,(g,cs)∈E.Γ->idsL isO cs)(hl:LessR ρ fr σ fr' σ')(h:XCode E F w0 C0 Z c fr' σ'):XCode E F w0 C0 Z c fr σ:=fun w C tmps hg hi hf=>by
 obtain⟨C',h1,h2,h3⟩:=hl.run hΓ hi hf
 exact h w C' tmps (hg.trans h1) h2 h3
theorem XCode.seqR{x y:Code}(h:XCode E F w0 C0 (Exit.then (y.wp E.P Z) Z) x fr σ):XCode E F w0 C0 Z (.seq x y) fr σ:=fun w C tmps hg hi hf=>wp_seq (h w C tmps hg hi hf)
end
theorem AFn.walkM{P:Program}{T:Tab}{Γ:List (Nat×List AC)}{g:Nat}{fn:Func}{c:Code}{args:List FV}{ou:Outer}{Q:FV->Outer->Prop}(N:Nat)(hT:TabOk P T)(hf:P.funcs[g]?=some fn)(hb:fn.body=some c)(hname:(fn.name == "runtime.NumGoroutine")=false)
  (hN:fn.ntmps=N) (hlen:Nat.ble args.length N=true) (h:OuOk ou->∀(F:Nat->Prop) (w:World) (C:Ctx),C.nl=0->Inv Γ F w C ⟨0,[],ou⟩->XCode ⟨P,T,Γ,N,[]⟩ F w C (bodyPostM Fence.wide 0 P fn (Owes Γ F w C Q)) c (argFr 0 args) ⟨0,[],ou⟩):AFn P Γ g args ou Q:=by
 subst hN
 exact AFn.ofMarks hf hb hname (Nat.le_of_ble_eq_true hlen) fun hou F w C tmps h0 hi hfr=>h hou F w C h0 hi w C tmps (Goes.refl _ _ _ _) hi hfr
end Go.Abs
namespace Go.Abs
theorem wpIn_assign{P:Program}{o:Oper}{x:Operand}{id l n d:Nat}{t:Array Value}{W:World}{K:Act->World->Prop}(ho:o.op=.assign x)(hg:o.guard=none)(hd:o.dst=some d)(h:K ⟨t.setIfInBounds d (Act.eval ⟨t,[]⟩ x),[]⟩ W):
  (Code.region id #[o] false).wpIn (Q3p l) n P (Exit.then K (fun _ _ _=>False)) ⟨t,[]⟩ W:=by
 refine wpIn_region_lit (l:=[o]) (Q46 ?_ _ _ _ ?_ ?_)
 ·rintro⟨a,w,h⟩;exact h
 ·simp[ho]
 ·refine wpList_plain hg fun N' hN=>?_
  unfold Oper.wp
  rw[show (execOp (Act.eval ⟨t,[]⟩) o).run P W=.ok (.value (Act.eval ⟨t,[]⟩ x)) W from by unfold execOp;simp[ho]]
  rw[Oper.upon_value]
  refine hN _ _ ?_
  rw[hd]
  exact h
theorem RS.ones{w:World}{C:Ctx}:∀{l:List (List AC)}{b off:Nat},RS w C 1 l ⟨b,off,none⟩->∃zs:List Value,zs.length=l.length/\∀j c,l[j]?=some [c]->w.cell? ⟨b,off+j,none⟩=some (zs.getD j undef)/\C.prot ⟨b,off+j,none⟩/\R w C c (zs.getD j undef)
 |[],b,off,_=>⟨[],rfl,fun j c h=>by simp at h⟩
 |e::es,b,off,h=>by
  simp only[RS]at h
  obtain⟨h1,h2,h3⟩:=h
  obtain⟨c,rfl⟩:∃c,e=[c]:=by
   match e,h1 with
   |[c],_=>exact⟨c,rfl⟩
  simp only[RL]at h2
  obtain⟨⟨u,hu,hp,hr⟩,_⟩:=h2
  obtain⟨zs,hz,hzs⟩:=RS.ones (l:=es) h3
  refine⟨u::zs,by simp[hz],fun j c' hj=>?_⟩
  cases j with
  |zero=>cases hj;exact⟨hu,hp,hr⟩
  |succ j=>
   have:=hzs j c' (by simpa using hj)
   rw[show off+(j+1)=off+1+j by omega]
   simpa using this
theorem RF.boxSl{w:World}{C:Ctx}{f:Fn}{l:List (List AC)}{u:Value}(h:RF w C (.one (.fn f [] [.box [.sl 1 l]])) u):∃Bs ob a cap,u=.func f #[] #[.pointer (some ⟨Bs,ob,none⟩)]/\C.prot ⟨Bs,ob,none⟩/\w.cell? ⟨Bs,ob,none⟩=some (.slice a l.length cap)/\
  ∃zs:List Value,(l.length=0∨∃b off,a=some ⟨b,off,none⟩/\∀j c,l[j]?=some [c]->w.cell? ⟨b,off+j,none⟩=some (zs.getD j undef)/\C.prot ⟨b,off+j,none⟩/\R w C c (zs.getD j undef)):=by
 simp only[RF,R,RV,RL]at h
 obtain⟨xs,ys,rfl,rfl,u,us,rfl,⟨ad,rfl,hs,⟨u',hu',hp,a,cap,rfl,hc,h4⟩,_⟩,rfl⟩:=h
 obtain⟨Bs,ob,sp⟩:=ad
 simp only at hs
 subst hs
 refine⟨Bs,ob,a,cap,rfl,hp,hu',?_⟩
 rcases h4 with h4|⟨ad,rfl,hs,h4⟩
 ·exact⟨[],.inl (by simp[h4])⟩
 ·obtain⟨b,off,sp⟩:=ad
  simp only at hs
  subst hs
  obtain⟨zs,_,hz⟩:=RS.ones h4
  exact⟨zs,.inr ⟨b,off,rfl,hz⟩⟩
theorem Qkq{P:Program}{g:Nat}{fn:Func}{c:Code}(hf:P.funcs[g]?=some fn)(hb:fn.body=some c)(hname:(fn.name == "runtime.NumGoroutine")=false)(args:Array Value)(w:World):(callFunc g args).run P w=.ok (.enter g args) w:=by
 simp[callFunc,hf,hb]
 simpa using hname
end Go.Abs
namespace Go.Abs
theorem RV.setC{w:World}{C:Ctx}{a b:AC}(hab:∀v,R w C a v->R w C b v):∀{cs:List AC}{off:Nat}{xs:List Value},RV w C cs xs->cs[off]?=some a->RV w C (cs.set off b) xs
 |[],_,_,_,h=>by simp at h
 |c::cs,0,xs,⟨x,xs',e,h1,h2⟩,h=>by
  simp only[List.getElem?_cons_zero,Option.some.injEq]at h
  subst h
  exact⟨x,xs',e,hab x h1,h2⟩
 |c::cs,off+1,xs,⟨x,xs',e,h1,h2⟩,h=>by
  simp only[List.getElem?_cons_succ]at h
  exact⟨x,xs',e,h1,RV.setC hab h2 h⟩
theorem AOps.freezeArrO{E:Env}{ops:Array Oper}{l:List Oper}{K:Cont}{fr:Fr}{σ:St}(i j:Id)(off:Nat){s cap:Nat}{es:List (List AC)}{cs:List AC}(hg:σ.get i=some (.cells (vec s es cap)))(hl:∀x∈es,x.length=s)(hgj:(σ.set i .dead).get j=some (.cells cs))(hoff:cs[off]?=some (.arr i s 0 es.length cap))
  (h : AOps E ops l K fr ((σ.set i .dead).set j (.cells (cs.set off (.sl s es))))) : AOps E ops l K fr σ := by
 intro F w0 C0 w C tmps hgo hi hf
 obtain⟨h1,h2,h3⟩:=Qaa hi hf hg (fr':=[]) trivial
 obtain⟨hok,zs,T,b1,b2,b3,b4⟩:=hi.obj i _ hg
 have key:∀v,R w (C.froze (C.blk i)) (.arr i s 0 es.length cap) v->R w (C.froze (C.blk i)) (.sl s es) v:=by
  intro u hr
  simp only[R,Nat.zero_mul]at hr
  refine⟨some ⟨C.blk i,0,none⟩,cap,hr.2.1,hr.2.2,.inr ⟨_,rfl,rfl,?_⟩⟩
  have hfl:=Q2h hl
  have hzl:=RV.length b3
  have hv:RV w (C.froze (C.blk i)) es.flatten (zs.take (es.length * s)):=by
   have:=(b3.take (es.length * s)).ext h1.chg
   rwa [vec,List.take_append_of_le_length (by omega),List.take_of_length_le (by omega)]at this
  refine RS.ofVals 0 hl hv fun j v hj=>⟨?_,.inr rfl⟩
  have h2:j < es.length * s:=by have:=(List.getElem?_eq_some_iff.1 hj).1;simp at this;omega
  rw[List.getElem?_take_of_lt h2]at hj
  rw[Nat.zero_add,cell_of_row _ _ _ _ _ _ b1]
  simpa using hj
 obtain⟨hokj,xs,Tj,o1,o2,o3,o4⟩:=h2.obj j _ hgj
 obtain⟨he,hi'⟩:=h2.turn hgj (g:=(C.froze (C.blk i)).blk j) rfl (w':=w) rfl (fun _ _=>rfl) (fun _ _ _=>rfl) (o':=.cells (cs.set off (.sl s es))) rfl fun _=>⟨xs,Tj,o1,o2,RV.setC key o3 hoff,o4⟩
 refine h F w0 C0 w _ tmps (hgo.trans h1.toO) hi' ⟨hf.1,fun k x hk=>?_⟩
 obtain⟨u,hu,hr⟩:=hf.2 k x hk
 exact⟨u,hu,hr.ext h1.chg⟩
end Go.Abs
namespace Go.Abs
theorem Q1n(n:Nat)(lo:List (Nat×AObj))(ou:Outer)(k:Nat)(o:AObj):St.set ⟨n,lo,ou⟩ (.o k) o=⟨n,lo,updO ou k o⟩:=by
 have:(fun j=>bif Nat.beq j k then some o else ou j)=updO ou k o:=by
  funext j
  by_cases e:k=j
  ·subst e;rw[Q03];simp
  ·rw[Q06 _ e,Q08 (fun h=>e h.symm)];rfl
 show St.mk n lo (fun j=>bif Nat.beq j k then some o else ou j)=_
 rw[this]
theorem Q5y(ou:Outer)(k:Nat)(o p:AObj):updO (updO ou k o) k p=updO ou k p:=by
 funext j
 by_cases e:k=j
 ·subst e;rw[Q03,Q03]
 ·rw[Q06 _ e,Q06 _ e,Q06 _ e]
theorem AStep.sliceOwn'{E:Env}{o:Oper}{fr:Fr}{σ:St}{t:TypeId}{ti tj:TI}{x:Operand}{lo hi mx:Option Operand}{i:Id}{s len cap a b c off' m' c':Nat}(hT:TabOk E.P E.T)(ho:o.op=.slice t x lo hi mx)(ht:Tab.get t E.T=some ti)(hk:Nat.beq ti.kind 2=true)(hj:Tab.get ti.elem E.T=some tj)(hs:Nat.beq tj.size s=true)
  (hx:aEval E.Γ fr x=some (.one (.arr i s 0 len cap))) (hlo:optIs E.Γ fr lo a 0) (hhi:optIs E.Γ fr hi b len) (hmx:optIs E.Γ fr mx c cap) (hm:mx.isSome=true->hi.isSome=true) (h1:a<=b) (h2:b<=c) (h3:c<=cap)
  (e1:(if c=a then 0 else a)=off') (e2:b - a=m') (e3:c - a=c'):AStep E o fr σ (.one (.arr i s off' m' c')) σ:=by
 subst e1;subst e2;subst e3
 exact AStep.sliceOwn hT ho ht hk hj hs hx hlo hhi hmx hm h1 h2 h3
theorem AStep.sliceNil{E:Env}{o:Oper}{fr:Fr}{σ:St}{t:TypeId}{ti tj:TI}{x lo:Operand}{k:IntKind}(hT:TabOk E.P E.T)(ho:o.op=.slice t x (some lo) none none)(ht:Tab.get t E.T=some ti)(hk:Nat.beq ti.kind 2=true)(hj:Tab.get ti.elem E.T=some tj)
  (hx:aEval E.Γ fr x=some (.one (.lit (.slice none 0 0)))) (hlo:aEval E.Γ fr lo=some (.one (.lit (.int k 0)))):AStep E o fr σ (.one (.lit (.slice none 0 0))) σ:=by
 refine AStep.quiet fun F w C tmps hin hf=>⟨.slice none 0 0,?_,rfl,rfl⟩
 have e1:=Q00 (a:=⟨tmps,E.ds⟩) hin hf hx
 have e2:=Q00 (a:=⟨tmps,E.ds⟩) hin hf hlo
 simp only[RF,R]at e1 e2
 have hu:=(hT t ti ht).slice (Nat.eq_of_beq_eq_true hk)
 have hsz:=(hT _ _ hj).run_sizeOf (w:=w)
 unfold execOp
 simp[ho,e1.1,e2.1,Instr.sliceAt,Instr.slice,run_underlying hu,hsz,Instr.sliceBounds,Instr.sliceBound,asIntOf,Result.andThen]
theorem AStep.capArr{E:Env}{o:Oper}{fr:Fr}{σ:St}{t:TypeId}{ti:TI}{x:Operand}{i:Id}{s off m c:Nat}(hT:TabOk E.P E.T)(ho:o.op=.call { callee:=.builtin .cap,args:=#[x],argTypes:=#[t] })(ht:Tab.get t E.T=some ti)(hk:Nat.beq ti.kind 2=true)(hx:aEval E.Γ fr x=some (.one (.arr i s off m c))):AStep E o fr σ (.one (.lit (.int .i64 c))) σ:=by
 refine AStep.quiet fun F w C tmps hin hf=>⟨.int .i64 c,?_,rfl,rfl⟩
 have e1:=Q00 (a:=⟨tmps,E.ds⟩) hin hf hx
 have hu:=(hT t ti ht).slice (Nat.eq_of_beq_eq_true hk)
 simp only[RF,R]at e1
 unfold execOp
 simp[ho,resolve,invoke,builtin,e1.2.1,Builtin.cap_,run_underlying hu,goInt,Result.andThen]
end Go.Abs
namespace Go.Abs
theorem AStep.andU{E:Env}{o:Oper}{fr:Fr}{σ:St}{t yt:TypeId}{x y:Operand}{a b:Nat}(ha:a < 18446744073709551616)(hb:b < 18446744073709551616)(ho:o.op=.binOp .and t x y yt)(hx:aEval E.Γ fr x=some (.one (.lit (.int .u64 (a:Int)))))(hy:aEval E.Γ fr y=some (.one (.lit (.int .u64 (b:Int))))):AStep E o fr σ (.one (.lit (.int .u64 ((a &&& b:Nat):Int)))) σ:=by
 refine AStep.quiet fun F w C tmps hi hf=>⟨.int .u64 ((a &&& b:Nat):Int),?_,rfl,rfl⟩
 have h1:=Q00 (a:=⟨tmps,E.ds⟩) hi hf hx
 have h2:=Q00 (a:=⟨tmps,E.ds⟩) hi hf hy
 simp only[RF,R]at h1 h2
 unfold execOp
 simp only[ho,h1.1,h2.1,eqGuard_at_int,Sem.run_bind,Sem.run_pure,Result.andThen_ok]
 rw[←bits_and_u64_nat a b ha hb]
 rfl
theorem AStep.copy0{E:Env}{o:Oper}{fr:Fr}{σ:St}{t t':TypeId}{ti tj:TI}{x y:Operand}{i:Id}{s off m c1:Nat}{s2:Nat}{news:List (List AC)}(hT:TabOk E.P E.T)(ho:o.op=.call { callee:=.builtin .copy,args:=#[x,y],argTypes:=#[t,t'] })(ht:Tab.get t E.T=some ti)(hkd:Nat.beq ti.kind 2=true)(hj:Tab.get ti.elem E.T=some tj)
  (hx:aEval E.Γ fr x=some (.one (.arr i s off m c1))) (hm:m=0) (hy:aEval E.Γ fr y=some (.one (.sl s2 news))):AStep E o fr σ (.one (.lit (.int .i64 0))) σ:=by
 subst hm
 refine AStep.quiet fun F w C tmps hin hf=>⟨.int .i64 0,?_,rfl,rfl⟩
 have e1:=Q00 (a:=⟨tmps,E.ds⟩) hin hf hx
 have e2:=Q00 (a:=⟨tmps,E.ds⟩) hin hf hy
 simp only[RF,R]at e1 e2
 obtain⟨_,e1,_⟩:=e1
 obtain⟨a,cap,e2,_⟩:=e2
 have hu:=(hT t ti ht).slice (Nat.eq_of_beq_eq_true hkd)
 have hsz:=(hT _ _ hj).run_sizeOf (w:=w)
 unfold execOp
 cases a with
 |none=>simp[ho,resolve,invoke,builtin,e1,e2,Builtin.copy_,run_underlying hu,hsz,goInt,Result.andThen,Builtin.lenOf,Builtin.firstCells,storeCells]
 |some ad=>simp[ho,resolve,invoke,builtin,e1,e2,Builtin.copy_,run_underlying hu,hsz,goInt,Result.andThen,Builtin.lenOf,Builtin.firstCells,storeCells,loadCells,loadCellsFrom]
end Go.Abs
namespace Go.Abs
theorem Qkj{Γ:List (Nat×List AC)}{F:Nat->Prop}{w:World}{C:Ctx}{σ:St}(js:List Nat)(hj:∀j∈js,j < σ.n)(hi:Inv Γ F w C σ):∃C2 k,(∀m,k<=m->σ.ou m=none)/\Goes F (fun _=>True) w C w C2 /\
  (∀ σ' : St, σ'.n = σ.n -> (∀ i x, σ'.get i = some x -> ∃ i0 y, σ.get i0 = some y /\ toOs js k i0 = i /\ x = y.sub (toOs js k)) -> Inv Γ F w C2 σ') /\ (∀ y u, RF w C y u -> RF w C2 (y.sub (toOs js k)) u) := by
 have hnone:∀m,C.no<=m->σ.ou m=none:=fun m hm=>by
  cases hx:σ.ou m with
  |none=>rfl
  |some x=>
   have:m < C.no:=(hi.obj (.o m) x hx).1
   omega
 let C2:Ctx:={ C with no:=C.no+js.length,phi:=fun i=>match i with|.o m=>if m < C.no then C.phi (.o m)else (match js[m - C.no]? with|some j=>C.phi (.l j)|none=>C.phi (.o m))|.l m=>C.phi (.l m),tk:=fun i=>match i with|.o m=>if m < C.no then C.tk (.o m)else (match js[m - C.no]? with|some j=>C.tk (.l j)|none=>C.tk (.o m))|.l m=>C.tk (.l m) }
 have hx:Ext w C w C2:=⟨fun _ _=>rfl,fun _ h=>h,fun i _ ho=>by
  cases i with
  |l m=>exact⟨ho,rfl,rfl⟩
  |o m=>
   have hm:m < C.no:=ho
   refine⟨Nat.lt_of_lt_of_le hm (Nat.le_add_right _ _),?_,?_⟩
   ·show (if m < C.no then _ else _)=_;rw[if_pos hm];rfl
   ·show (if m < C.no then _ else _)=_;rw[if_pos hm];rfl⟩
 have hb:Bus (toOs js C.no) (fun _=>True) w C2 C:=⟨fun _ h=>h,fun i _ ho=>by
  cases i with
  |o m=>exact hx.id (.o m) trivial ho
  |l m=>
   simp only[toOs]
   cases hp:posOf m js with
   |none=>exact⟨ho,rfl,rfl⟩
   |some p=>
    have hjp:=Q61 hp
    have hlt:p < js.length:=(List.getElem?_eq_some_iff.1 hjp).1
    refine⟨Nat.add_lt_add_left hlt _,?_,?_⟩
    ·show (if C.no+p < C.no then _ else _)=_
     rw[if_neg (by omega),Nat.add_sub_cancel_left,hjp];rfl
    ·show (if C.no+p < C.no then _ else _)=_
     rw[if_neg (by omega),Nat.add_sub_cancel_left,hjp];rfl⟩
 have hok:∀i0 y,σ.get i0=some y->C.ok i0:=fun i0 y hy=>(hi.obj i0 y hy).1
 refine⟨C2,C.no,hnone,⟨Stp.refl _ _,hx.weaken (fun _ _=>trivial),Nat.le_add_right _ _,NewP.refl _ _⟩,fun σ' hcn hco=>?_,fun y u hr=>RF.bus hb y u (FV.ids_true y) hr⟩
 refine⟨hi.base,by rw[hcn];exact hi.next,fun g cs hm=>(hi.glob g cs hm).ext hx,hi.prot,fun i x hxx=>?_,fun i1 i2 x1 x2 g h1 h2 h3 h4=>?_⟩
 ·obtain⟨i0,y,hy,rfl,rfl⟩:=hco i x hxx
  obtain⟨k1,k2⟩:=hi.obj i0 y hy
  exact⟨(hb.id i0 trivial k1).1,ObjOk.bus hb (AObj.ids_all y) trivial k1 (fun _ h=>h) k2⟩
 ·obtain⟨a,y,hy,rfl,rfl⟩:=hco i1 x1 h1
  obtain⟨b,z,hz,rfl,rfl⟩:=hco i2 x2 h2
  rw[AObj.block_bus hb trivial (hok a y hy)]at h3
  rw[AObj.block_bus hb trivial (hok b z hz)]at h4
  rw[hi.inj a b y z g hy hz h3 h4]
end Go.Abs
namespace Go.CoreX
structure Alt where
 tag:Int
 binds:List Int
 deriving DecidableEq
structure Ex where
 op:Int
 n:Int
 binds:List Int
 kids:List Int
 alts:List Alt
 deriving DecidableEq
inductive Tr where
 |mk (op n:Int) (binds:List Int) (kids:List Tr) (alts:List Alt)
instance:Inhabited Tr:=⟨.mk 0 0 [] [] []⟩
def Tr.op:Tr->Int|.mk o _ _ _ _=>o
def Tr.n:Tr->Int|.mk _ n _ _ _=>n
def Tr.binds:Tr->List Int|.mk _ _ b _ _=>b
def Tr.kids:Tr->List Tr|.mk _ _ _ k _=>k
def Tr.alts:Tr->List Alt|.mk _ _ _ _ a=>a
@[simp] theorem Tr.op_mk (o n b k a):(Tr.mk o n b k a).op=o:=rfl
@[simp] theorem Tr.n_mk (o n b k a):(Tr.mk o n b k a).n=n:=rfl
@[simp] theorem Tr.binds_mk (o n b k a):(Tr.mk o n b k a).binds=b:=rfl
@[simp] theorem Tr.kids_mk (o n b k a):(Tr.mk o n b k a).kids=k:=rfl
@[simp] theorem Tr.alts_mk (o n b k a):(Tr.mk o n b k a).alts=a:=rfl

def Q2f (ts:List Tr)(x:Ex):Tr:=.mk x.op x.n x.binds (x.kids.map fun k=>ts.getD k.toNat default) x.alts
def Qel (ts:List Tr)(x:Ex):List Tr:=ts++[Q2f ts x]
def growL (e:List Ex):List Tr:=e.foldl Qel []
def grow (e:List Ex):Tr:=(growL e).getD (e.length - 1) default

mutual
def listT (out:List Ex):Tr->List Ex
 |.mk o n b k a=>(Q04 out k).1++[⟨o,n,b,(Q04 out k).2,a⟩]
def Q04 (out:List Ex):List Tr->List Ex×List Int
 |[]=>(out,[])
 |t::ts=>((Q04 (listT out t) ts).1,(((listT out t).length:Int) - 1)::(Q04 (listT out t) ts).2)
end

def Q17 (op:Int)(binds:List Int)(alts:List Alt):List Int:=(if op=2∨op=4∨op=5 then binds else [])++alts.flatMap (·.binds)
def Q2p (op:Int)(binds:List Int)(alts:List Alt)(k:Int):List Int:=
 if op=2∨op=5∨(op=4/\k=1)then binds else if 0 < (alts.length:Int)/\0 < k/\k<=alts.length then (alts.getD (k - 1).toNat ⟨0,[]⟩).binds else []

def Q1c (i:Nat)(s:Option (List Int×List Int))(k:Int):Option (List Int×List Int):=
 s.bind fun dp=>if k < 0∨(i:Int)<=k then none else some (dp.1.set i (if dp.1.getD k.toNat 0 > dp.1.getD i 0 then dp.1.getD k.toNat 0 else dp.1.getD i 0),dp.2.set k.toNat (dp.2.getD k.toNat 0+1))
def Q1j (s:Option (List Int×List Int))(x:Ex×Nat):Option (List Int×List Int):=
 (x.1.kids.foldl (Q1c x.2) s).map fun dp=>(dp.1.set x.2 (dp.1.getD x.2 0+1),dp.2)
def Q4a (e:List Ex):Option (List Int×List Int):=e.zipIdx.foldl Q1j (some (List.replicate e.length 0,List.replicate e.length 0))
def Q21 (n:Nat)(p:List Int)(i:Nat):Bool:=!((p.getD i 0==1)==decide ((i:Int) < n - 1))
def Q25 (e:List Ex):Int:=
 if 4096 < e.length then 2 else if e.length=0 then 3 else
 match Q4a e with
 |none=>3
 |some (d,p)=>if (List.range e.length).any (Q21 e.length p)=true then 3 else if 400 < d.getD (e.length - 1) 0 then 2 else 0

def between (n low high:Int):Bool:=decide (low<=n)&&decide (n<=high)
def Q4u (op:Int):Bool:=op==14||op==15||op==16
def Q5s (op:Int):Bool:=op==2||op==5||op==12||op==13
def Q4n (x:Ex)(i:Nat)(a:Alt):Bool:=
 ((x.alts.take i).any (fun b=>b.tag==a.tag)||decide (a.tag < -1)) ||
 (x.op==7&&a.tag==-1&&(decide ((i:Int) < x.alts.length - 1)||decide (0 < a.binds.length))) ||
 ((x.op==13&&!(((i:Int)==0)==(a.tag==-1)))||(x.op==13&&!((a.binds.length:Int)==(if 2 < (i:Int)+1 then 2 else (i:Int)+1))))
def Q6s (x:Ex):Bool:=!(x.alts.zipIdx.any fun ai=>Q4n x ai.2 ai.1)&&((x.kids.length:Int)==1+x.alts.length&&(x.op==7||decide (0 < x.alts.length)))
def Q2r:List Int:=[2,2,2,2,2,2,2,1,2,1,2,3]
def wants (x:Ex):Option (Int×Int×Bool):=
 if x.op=0∨x.op=1∨x.op=17 then some (0,0,true) else
 if x.op=2 then some (1,x.binds.length,false) else
 if x.op=3 then some (if (x.kids.length:Int) > 1 then x.kids.length else 1,0,false) else
 if x.op=4 then some (2,1,false) else
 if x.op=5 then some (x.binds.length+1,if (x.binds.length:Int) > 1 then x.binds.length else 1,false) else
 if x.op=6 then some (x.kids.length,0,true) else
 if x.op=8 then (if between x.n 0 11=true then some (Q2r.getD x.n.toNat 0,0,true)else none) else
 if x.op=9 then some (x.binds.length,x.binds.length,false) else
 if x.op=10∨x.op=12 then some (1,0,true) else
 if x.op=11 then some (2,0,true) else
 if x.op=14∨x.op=15 then some (x.kids.length,0,true) else
 if x.op=16 then some (1,0,true)else none
def shape (x:Ex):Bool:=
 if x.op=7∨x.op=13 then Q6s x&&x.binds.length==0&&x.n==0 else
 match wants x with
 |none=>false
 |some (k,b,u)=>(x.kids.length:Int)==k&&(x.binds.length:Int)==b&&x.alts.length==0&&(u||x.n==0)
def lowN (op:Int):Int:=if op=1 then -1073741824 else if op=17 then 1 else 0
def highN (op:Int):Int:=if op=1 then 1073741823 else if op=6 then 255 else if op=17 then 6 else if op=16 then 15 else 1048575
def Q26 (n:Int):Bool:=between n 0 1048575
def Q30 (op:Int)(a:Alt):Bool:=!((decide (255 < a.tag)&&op==7)||decide (1048576<=a.tag))&&a.binds.all Q26
def fields (x:Ex):Int:=x.alts.foldl (fun f a=>if (a.binds.length:Int) > f then a.binds.length else f) x.binds.length
def ranges (x:Ex):Int:=
 if between x.n (lowN x.op) (highN x.op)=false then 4 else
 if x.binds.all Q26=false then 4 else
 if x.alts.all (Q30 x.op)=false then 4 else
 if ((decide (fields x > (if x.op=2 then 6 else 16))||((x.op==6||x.op==15)&&decide (16 < (x.kids.length:Int))))||(x.op==3&&decide (7 < (x.kids.length:Int))))||(x.op==14&&decide (6 < (x.kids.length:Int)))then 2 else 0
def Q1s (e:List Ex)(x:Ex)(i:Nat):Bool:=
 (x.op==5&&!((e.getD (x.kids.getD i 0).toNat ⟨0,0,[],[],[]⟩).op==2))||(x.op==9&&decide (0 < i)&&decide (x.binds.getD (i - 1) 0 ≥ x.binds.getD i 0))
def Q1i (e:List Ex)(x:Ex):Int:=
 if shape x=false then 3 else if ranges x≠0 then ranges x else if (List.range x.binds.length).any (Q1s e x)=true then 3 else 0
def Q14 (flat:Bool)(e:List Ex)(x:Ex):Int:=if (flat&&Q5s x.op)||(!flat&&Q4u x.op)then 3 else Q1i e x
def Q24 {α:Type}(f:α->Int):List α->Int
 |[]=>0
 |a::l=>if f a≠0 then f a else Q24 f l

def Q5p:List Int->Bool
 |[]=>false
 |n::l=>l.contains n||Q5p l
def Q07 (x:Ex):List Int:=Q17 x.op x.binds x.alts
def Q0c (e:List Ex):List Int:=e.flatMap Q07

mutual
def occT (sc:List Int):Tr->List Int
 |.mk o n b k a=>(if o=0/\sc.contains n=false then [n]else [])++occTs sc o b a 0 k
def occTs (sc:List Int)(o:Int)(b:List Int)(a:List Alt):Nat->List Tr->List Int
 |_,[]=>[]
 |i,t::ts=>occT (Q2p o b a i++sc) t++occTs sc o b a (i+1) ts
end
def Q4h (n:Int):List Int->List Int
 |[]=>[n]
 |m::l=>if n < m then n::m::l else if n=m then m::l else m::Q4h n l
def sortS (l:List Int):List Int:=l.foldr Q4h []
def Q3k (t:Tr):List Int:=sortS (occT [] t)

def body (e:List Ex)(params:List Int)(flat:Bool):Int:=
 if Q25 e≠0 then Q25 e else
 if Q24 (Q14 flat e) e≠0 then Q24 (Q14 flat e) e else
 if Q5p (params++Q0c e)=true then 7 else
 if (Q3k (grow e)).all (fun n=>params.contains n)=true then 0 else 6
def check (e:List Ex):Int:=body e [] false
end Go.CoreX
namespace Go.CoreX
structure Lab where
 op:Int
 n:Int
 binds:List Int
 ops:List Int
 alts:List Alt
 deriving DecidableEq
mutual
def sumT (g:Lab->Int):Tr->Int
 |.mk o n b k a=>g ⟨o,n,b,k.map Tr.op,a⟩+sumTs g k
def sumTs (g:Lab->Int):List Tr->Int
 |[]=>0
 |t::ts=>sumT g t+sumTs g ts
end
def mx (m d:Int):Int:=if d > m then d else m
mutual
def Q2k:Tr->Int
 |.mk _ _ _ k _=>(Q83 k).foldl mx 0+1
def Q83:List Tr->List Int
 |[]=>[]
 |t::ts=>Q2k t::Q83 ts
end
theorem Q6f:∀l:List Tr,Q83 l=l.map Q2k
 |[]=>rfl
 |t::ts=>by simp[Q83,Q6f ts]
theorem Qdl(g:Lab->Int):∀l:List Tr,sumTs g l=(l.map (sumT g)).sum
 |[]=>rfl
 |t::ts=>by simp[sumTs,Qdl g ts]
theorem Q1w(e:List Ex)(x:Ex):growL (e++[x])=growL e++[Q2f (growL e) x]:=by simp[growL,Qel]
theorem Q5c{α:Type}{P:List α->Prop}(h0:P [])(h1:∀l x,P l->P (l++[x]))(l:List α):P l:=by
 have:∀l:List α,P l.reverse:=by
  intro l
  induction l with
  |nil=>exact h0
  |cons a l ih=>rw[List.reverse_cons];exact h1 _ _ ih
 simpa using this l.reverse
theorem Q11(e:List Ex):(growL e).length=e.length:=by
 refine Q5c (P:=fun e=>(growL e).length=e.length) rfl (fun l x ih=>?_) e
 rw[Q1w];simp[ih]
theorem Qid(e l:List Ex):∃r,growL (e++l)=growL e++r:=by
 refine Q5c (P:=fun l=>∃r,growL (e++l)=growL e++r) ⟨[],by simp⟩ (fun l x ih=>?_) l
 obtain⟨r,h⟩:=ih
 exact⟨r++[Q2f (growL (e++l)) x],by rw[←List.append_assoc,Q1w,h];simp⟩
theorem Q71{α:Type}{l r:List α}{i:Nat}{d:α}(h:i < l.length):(l++r).getD i d=l.getD i d:=by
 simp[List.getD,List.getElem?_append_left h]
theorem Q4j{e l:List Ex}{i:Nat}(h:i < e.length):(growL (e++l)).getD i default=(growL e).getD i default:=by
 obtain⟨r,hr⟩:=Qid e l
 rw[hr,Q71 (by rw[Q11];exact h)]
theorem Q6z(e l:List Ex)(x:Ex):(growL (e++x::l)).getD e.length default=Q2f (growL e) x:=by
 rw[show e++x::l=(e++[x])++l by simp,Q4j (by simp),Q1w]
 simp[List.getD,Q11]
theorem Qic(e:List Ex)(x:Ex):grow (e++[x])=Q2f (growL e) x:=by
 unfold grow
 have:=Q6z e [] x
 simpa using this
def cnt:List Ex->Nat->Nat
 |[],_=>0
 |x::e,i=>x.kids.count (i:Int)+cnt e i
theorem Qcy(e l:List Ex)(i:Nat):cnt (e++l) i=cnt e i+cnt l i:=by
 induction e with
 |nil=>simp[cnt]
 |cons x e ih=>simp[cnt,ih,Nat.add_assoc]
def Q19 (e:List Ex):Prop:=∀(j:Nat)(x:Ex),e[j]?=some x->∀k∈x.kids,0<=k/\k < (j:Int)
theorem Q38{e:List Ex}{x:Ex}:Q19 (e++[x])↔Q19 e/\∀k∈x.kids,0<=k/\k < e.length:=by
 constructor
 ·intro h
  refine⟨fun j y hj=>h j y ?_,?_⟩
  ·rw[List.getElem?_append_left (List.getElem?_eq_some_iff.1 hj).1];exact hj
  ·exact h e.length x (by simp)
 ·intro ⟨h1,h2⟩ j y hj
  by_cases hl:j < e.length
  ·rw[List.getElem?_append_left hl]at hj;exact h1 j y hj
  ·rw[List.getElem?_append_right (by omega)]at hj
   have:j=e.length:=by
    have:=(List.getElem?_eq_some_iff.1 hj).1
    simp at this;omega
   subst this
   simp at hj;subst hj;exact h2
structure Run (pre:List Ex)(N:Nat)(d p:List Int):Prop where
 dl:d.length=N
 pl:p.length=N
 pv:∀i,i < N->p.getD i 0=cnt pre i
 dv:∀i,i < pre.length->d.getD i 0=Q2k ((growL pre).getD i default)
 d0:∀i,pre.length<=i->d.getD i 0=0
theorem Q3i(i:Nat):∀ks:List Int,ks.foldl (Q1c i) none=none
 |[]=>rfl
 |k::ks=>by rw[List.foldl_cons];exact Q3i i ks
theorem Q3x{l:List Int}{i:Nat}{v:Int}(h:i < l.length):(l.set i v).getD i 0=v:=by simp[List.getD,h]
theorem getD_set_ne{l:List Int}{i j:Nat}{v:Int}(h:i≠j):(l.set i v).getD j 0=l.getD j 0:=by simp[List.getD,List.getElem?_set_ne h]
theorem Qjj{l:List Int}{i:Nat}(h:i < l.length):l.set i (l.getD i 0)=l:=by
 apply List.ext_getElem?
 intro j
 by_cases hj:i=j
 ·subst hj;simp[h,List.getD,List.getElem?_eq_getElem h]
 ·rw[List.getElem?_set_ne hj]
theorem Qe9{i N:Nat}:∀(ks:List Int)(d p:List Int),d.length=N->p.length=N->i < N->(∀k∈ks,0<=k/\k < i)->
  ∃p',ks.foldl (Q1c i) (some (d,p))=some (d.set i (ks.foldl (fun m k=>mx m (d.getD k.toNat 0)) (d.getD i 0)),p')/\p'.length=N/\∀j,j < N->p'.getD j 0=p.getD j 0+ks.count (j:Int)
 | [], d, p, hd, hp, hi, _ => ⟨p, by rw [List.foldl_nil, List.foldl_nil, Qjj (show i < d.length by omega)], hp, by simp⟩
 |k::ks,d,p,hd,hp,hi,hk=>by
  obtain⟨k0,k1⟩:=hk k (by simp)
  have hks:∀k∈ks,0<=k/\k < i:=fun y hy=>hk y (by simp[hy])
  obtain⟨p',h1,h2,h3⟩:=Qe9 ks (d.set i (mx (d.getD i 0) (d.getD k.toNat 0))) (p.set k.toNat (p.getD k.toNat 0+1)) (by simpa using hd) (by simpa using hp) hi hks
  refine⟨p',?_,h2,fun j hj=>?_⟩
  ·rw[List.foldl_cons]
   have e1:Q1c i (some (d,p)) k=some (d.set i (mx (d.getD i 0) (d.getD k.toNat 0)),p.set k.toNat (p.getD k.toNat 0+1)):=by
    simp only[Q1c,Option.bind_some,mx]
    rw[if_neg (by omega)]
   rw[e1,h1,List.set_set,Q3x (by omega),List.foldl_cons]
   congr 2
   have:∀(l:List Int) (m:Int),(∀k∈l,0<=k/\k < i)->l.foldl (fun m k'=>mx m ((d.set i (mx (d.getD i 0) (d.getD k.toNat 0))).getD k'.toNat 0)) m=l.foldl (fun m k'=>mx m (d.getD k'.toNat 0)) m:=by
    intro l
    induction l with
    |nil=>intro m _;rfl
    |cons y l ih=>
     intro m hl
     have hy:=hl y (by simp)
     simp only[List.foldl_cons]
     rw[getD_set_ne (by omega),ih _ (fun z hz=>hl z (by simp[hz]))]
   rw[this ks _ hks]
  ·rw[h3 j hj,List.count_cons]
   by_cases hkj:k.toNat=j
   ·subst hkj
    rw[Q3x (by omega)]
    have:(k==((k.toNat:Nat):Int))=true:=by simp;omega
    rw[if_pos this];omega
   ·rw[getD_set_ne hkj]
    have:¬(k==(j:Int))=true:=by simp;omega
    rw[if_neg this];omega
theorem Qea{i N:Nat}:∀(ks:List Int)(d p:List Int),¬(∀k∈ks,0<=k/\k < i)->ks.foldl (Q1c i) (some (d,p))=none
 | [], d, p, h => absurd (by simp) h
 |k::ks,d,p,h=>by
  rw[List.foldl_cons]
  by_cases hk:0<=k/\k < i
  ·have e1:Q1c i (some (d,p)) k=some (d.set i (mx (d.getD i 0) (d.getD k.toNat 0)),p.set k.toNat (p.getD k.toNat 0+1)):=by
    simp only[Q1c,Option.bind_some,mx]
    rw[if_neg (by omega)]
   rw[e1]
   refine Qea (N:=N) ks _ _ fun h2=>h ?_
   intro y hy
   rcases List.mem_cons.1 hy with rfl|hy
   ·exact hk
   ·exact h2 y hy
  ·have e1:Q1c i (some (d,p)) k=none:=by
    simp only[Q1c,Option.bind_some]
    rw[if_pos (by omega)]
   rw[e1,Q3i]
theorem Q95(f:Int->Int):∀(l:List Int)(m:Int),l.foldl (fun m k=>mx m (f k)) m=(l.map f).foldl mx m
 |[],_=>rfl
 |k::l,m=>by simp[Q95 f l]
theorem Qaf(ts:List Tr)(x:Ex):Q2k (Q2f ts x)=(x.kids.map fun k=>Q2k (ts.getD k.toNat default)).foldl mx 0+1:=by
 simp only[Q2f,Q2k,Q6f,List.map_map];rfl
theorem Run.step{pre:List Ex}{N:Nat}{d p:List Int}{x:Ex}(h:Run pre N d p)(hN:pre.length < N)(hk:∀k∈x.kids,0<=k/\k < pre.length):∃d' p',Q1j (some (d,p)) (x,pre.length)=some (d',p')/\Run (pre++[x]) N d' p':=by
 obtain⟨p',h1,h2,h3⟩:=Qe9 x.kids d p h.dl h.pl hN hk
 have hdl:=h.dl
 refine⟨_,p',by simp only[Q1j,h1,Option.map_some];rfl,by simpa using hdl,h2,fun i hi=>?_,fun i hi=>?_,fun i hi=>?_⟩
 ·rw[h3 i hi,h.pv i hi,Qcy];simp[cnt]
 ·rw[List.set_set]
  simp only[List.length_append,List.length_singleton]at hi
  by_cases e:pre.length=i
  ·subst e
   rw[Q3x (by omega),Q3x (by omega),Q6z pre [] x,Qaf,h.d0 _ (Nat.le_refl _),Q95]
   congr 2
   refine List.map_congr_left fun k hk2=>?_
   have:=hk k hk2
   exact h.dv _ (by omega)
  ·rw[getD_set_ne e,Q4j (by omega),h.dv i (by omega)]
 ·simp only[List.length_append,List.length_singleton]at hi
  rw[List.set_set,getD_set_ne (by omega),h.d0 i (by omega)]
theorem Q5i(l:List (Ex×Nat)):l.foldl Q1j none=none:=by
 induction l with
 |nil=>rfl
 |cons x l ih=>
  have:Q1j none x=none:=by simp[Q1j,Q3i]
  rw[List.foldl_cons,this,ih]
theorem Qdr{N:Nat}:∀(l pre:List Ex)(d p:List Int),Run pre N d p->Q19 pre->pre.length+l.length=N ->
  (Q19 (pre ++ l) /\ ∃ d' p', (l.zipIdx pre.length).foldl Q1j (some (d, p)) = some (d', p') /\ Run (pre ++ l) N d' p') ∨ (¬ Q19 (pre ++ l) /\ (l.zipIdx pre.length).foldl Q1j (some (d, p)) = none)
 |[],pre,d,p,h,hk,_=>.inl ⟨by simpa using hk,d,p,rfl,by simpa using h⟩
 |x::l,pre,d,p,h,hk,hN=>by
  rw[List.zipIdx_cons,List.foldl_cons]
  simp only[List.length_cons]at hN
  by_cases hx:∀k∈x.kids,0<=k/\k < pre.length
  ·obtain⟨d1,p1,e1,h1⟩:=h.step (by omega) hx
   rw[e1]
   have:=Qdr l (pre++[x]) d1 p1 h1 (Q38.2 ⟨hk,hx⟩) (by simp;omega)
   simpa[List.append_assoc]using this
  ·right
   have e1:Q1j (some (d,p)) (x,pre.length)=none:=by simp only[Q1j,Qea (N:=N) x.kids d p hx,Option.map_none]
   rw[e1,Q5i]
   refine⟨fun h2=>hx ?_,rfl⟩
   exact h2 pre.length x (by simp)
theorem Qaq(e:List Ex):(Q19 e/\∃d p,Q4a e=some (d,p)/\Run e e.length d p)∨(¬Q19 e/\Q4a e=none):=by
 have h0:Run [] e.length (List.replicate e.length 0) (List.replicate e.length 0):=by
  have z:∀i,(List.replicate e.length (0:Int)).getD i 0=0:=fun i=>by
   simp only[List.getD]
   rw[List.getElem?_replicate];split <;> rfl
  exact⟨by simp,by simp,fun i _=>by rw[z];rfl,fun i hi=>by simp at hi,fun i _=>z i⟩
 have:=Qdr e [] _ _ h0 (fun j x hj=>by simp at hj) (by simp)
 simpa[Q4a]using this
structure IsTree (e:List Ex):Prop where
 ne:e≠[]
 k:Q19 e
 c:∀i,i < e.length->(cnt e i=1↔i+1 < e.length)
theorem Q78(e:List Ex):Q25 e=0↔e.length<=4096/\IsTree e/\Q2k (grow e)<=400:=by
 unfold Q25
 by_cases h1:4096 < e.length
 ·rw[if_pos h1];exact⟨fun h=>absurd h (by decide),fun h=>by omega⟩
 rw[if_neg h1]
 by_cases h2:e.length=0
 ·rw[if_pos h2]
  exact⟨fun h=>absurd h (by decide),fun h=>absurd (List.length_eq_zero_iff.1 h2) h.2.1.ne⟩
 rw[if_neg h2]
 rcases Qaq e with ⟨hk,d,p,h3,hr⟩|⟨hk,h3⟩
 ·rw[h3]
  have hd:d.getD (e.length - 1) 0=Q2k (grow e):=hr.dv _ (by omega)
  have hodd:(List.range e.length).any (Q21 e.length p)=true↔¬∀i,i < e.length->(cnt e i=1↔i+1 < e.length):=by
   rw[List.any_eq_true]
   constructor
   ·rintro⟨i,hi,hb⟩ h
    have hi':i < e.length:=by simpa using hi
    have:=h i hi'
    have hc:=hr.pv i hi'
    simp only[Q21,Bool.not_eq_true',beq_eq_false_iff_ne,ne_eq]at hb
    apply hb
    rw[Bool.eq_iff_iff,beq_iff_eq,decide_eq_true_iff,hc]
    omega
   ·intro h
    simp only[Classical.not_forall]at h
    obtain⟨i,hi,hne⟩:=h
    refine⟨i,by simpa using hi,?_⟩
    have hc:=hr.pv i hi
    simp only[Q21,Bool.not_eq_true',beq_eq_false_iff_ne,ne_eq]
    intro hb
    rw[Bool.eq_iff_iff,beq_iff_eq,decide_eq_true_iff,hc]at hb
    apply hne
    omega
  simp only
  by_cases h4:(List.range e.length).any (Q21 e.length p)=true
  ·rw[if_pos h4]
   exact⟨fun h=>absurd h (by decide),fun h=>absurd h.2.1.c (hodd.1 h4)⟩
  ·rw[if_neg h4,hd]
   have hc:∀i,i < e.length->(cnt e i=1↔i+1 < e.length):=by
    apply Classical.byContradiction
    intro hn
    exact h4 (hodd.2 hn)
   by_cases h5:400 < Q2k (grow e)
   ·rw[if_pos h5];exact⟨fun h=>absurd h (by decide),fun h=>by omega⟩
   ·rw[if_neg h5]
    exact⟨fun _=>⟨by omega,⟨fun h=>h2 (by simp[h]),hk,hc⟩,by omega⟩,fun _=>rfl⟩
 ·rw[h3]
  simp only
  exact⟨fun h=>absurd h (by decide),fun h=>absurd h.2.1.k hk⟩

def wsum (c:Nat->Int):Nat->List Int->Int
 |_,[]=>0
 |j,v::vs=>c j * v+wsum c (j+1) vs
theorem Q9j(c:Nat->Int):∀(vs us:List Int)(j:Nat),wsum c j (vs++us)=wsum c j vs+wsum c (j+vs.length) us
 |[],us,j=>by simp[wsum]
 |v::vs,us,j=>by
  simp only[List.cons_append,wsum,Q9j c vs us,List.length_cons]
  rw[show j+1+vs.length=j+(vs.length+1) by omega];omega
theorem Q5v{c c':Nat->Int}:∀(vs:List Int)(j:Nat),(∀i,j<=i->i < j+vs.length->c i=c' i)->wsum c j vs=wsum c' j vs
 |[],_,_=>rfl
 |v::vs,j,h=>by
  simp only[wsum]
  rw[h j (by omega) (by simp),Q5v vs (j+1) (fun i h1 h2=>h i (by omega) (by simp;omega))]
theorem Qdf(c c':Nat->Int):∀(vs:List Int)(j:Nat),wsum (fun i=>c i - c' i) j vs=wsum c j vs - wsum c' j vs
 |[],_=>by simp[wsum]
 |v::vs,j=>by
  simp only[wsum,Qdf c c' vs,Int.sub_mul];omega
theorem Qdh(c c':Nat->Int):∀(vs:List Int)(j:Nat),wsum (fun i=>c i+c' i) j vs=wsum c j vs+wsum c' j vs
 |[],_=>by simp[wsum]
 |v::vs,j=>by
  simp only[wsum,Qdh c c' vs,Int.add_mul];omega
theorem Q56{c:Nat->Int}:∀(vs:List Int)(j:Nat),(∀i,j<=i->i < j+vs.length->c i=0)->wsum c j vs=0
 |[],_,_=>rfl
 |v::vs,j,h=>by
  simp only[wsum]
  rw[h j (by omega) (by simp),Q56 vs (j+1) (fun i h1 h2=>h i (by omega) (by simp;omega))];omega
theorem Qdg(k:Int):∀(vs:List Int)(j:Nat),(j:Int)<=k->k < j+vs.length->wsum (fun i=>if k=(i:Int)then 1 else 0) j vs=vs.getD (k.toNat - j) 0
 |[],j,h1,h2=>by simp at h2;omega
 |v::vs,j,h1,h2=>by
  simp only[wsum]
  by_cases e:k=j
  ·subst e
   rw[Q56 vs (j+1) (fun i h3 h4=>if_neg (by omega))]
   simp[List.getD]
  ·rw[if_neg e,Qdg k vs (j+1) (by omega) (by simp at h2;omega)]
   rw[show k.toNat - j=(k.toNat - (j+1))+1 by omega]
   simp[List.getD]
theorem Q8k(vs:List Int):∀ks:List Int,(∀k∈ks,0<=k/\k < vs.length)->wsum (fun i=>((ks.count (i:Int):Nat):Int)) 0 vs=(ks.map fun k=>vs.getD k.toNat 0).sum
 |[],_=>by simp;exact Q56 vs 0 (fun _ _ _=>by simp)
 |k::ks,h=>by
  have hk:=h k (by simp)
  have e:wsum (fun i=>(((k::ks).count (i:Int):Nat):Int)) 0 vs=wsum (fun i=>(if k=(i:Int)then 1 else 0)+((ks.count (i:Int):Nat):Int)) 0 vs:=by
   refine Q5v vs 0 fun i _ _=>?_
   rw[List.count_cons]
   by_cases e:k=(i:Int)
   ·simp[e];omega
   ·simp[e]
  rw[e,Qdh,Qdg k vs 0 (by omega) (by omega),Q8k vs ks (fun y hy=>h y (by simp[hy]))]
  simp
def labE (e:List Ex)(x:Ex):Lab:=⟨x.op,x.n,x.binds,x.kids.map (fun k=>((growL e).getD k.toNat default).op),x.alts⟩
def labs (e:List Ex):List Lab:=e.map (labE e)
theorem Qhm{e:List Ex}{x:Ex}(h:Q19 (e++[x])):labs (e++[x])=labs e++[labE e x]:=by
 obtain⟨h1,h2⟩:=Q38.1 h
 have same:∀y:Ex,(∀k∈y.kids,0<=k/\k < e.length)->labE (e++[x]) y=labE e y:=by
  intro y hy
  simp only[labE,Lab.mk.injEq,true_and,and_true]
  refine List.map_congr_left fun k hk=>?_
  have:=hy k hk
  rw[Q4j (by omega)]
 simp only[labs,List.map_append,List.map_cons,List.map_nil]
 rw[same x h2]
 congr 1
 refine List.map_congr_left fun y hy=>same y fun k hk=>?_
 obtain⟨j,hj⟩:=List.mem_iff_getElem?.1 hy
 have:=h1 j y hj k hk
 have hl:=(List.getElem?_eq_some_iff.1 hj).1
 omega
theorem Qcb(g:Lab->Int)(e:List Ex)(x:Ex):sumT g (Q2f (growL e) x)=g (labE e x)+(x.kids.map fun k=>sumT g ((growL e).getD k.toNat default)).sum:=by
 simp only[Q2f,sumT,Qdl,labE,List.map_map];rfl
theorem sum_pre(g:Lab->Int)(e:List Ex)(h:Q19 e):wsum (fun i=>1 - (cnt e i:Int)) 0 ((growL e).map (sumT g))=((labs e).map g).sum:=by
 revert h
 refine Q5c (P:=fun e=>Q19 e->wsum (fun i=>1 - (cnt e i:Int)) 0 ((growL e).map (sumT g))=((labs e).map g).sum) (fun _=>rfl) (fun e x ih h=>?_) e
 obtain⟨h1,h2⟩:=Q38.1 h
 have ih:=ih h1
 have hlen:((growL e).map (sumT g)).length=e.length:=by simp[Q11]
 have hz:cnt (e++[x]) e.length=0:=by
  have:∀(l:List Ex) (n:Nat),(∀y∈l,∀k∈y.kids,k < (n:Int))->cnt l n=0:=by
   intro l
   induction l with
   |nil=>intro n _;rfl
   |cons y l ih2=>
    intro n hl
    simp only[cnt]
    rw[ih2 n (fun z hz=>hl z (by simp[hz])),Nat.add_zero,List.count_eq_zero]
    intro hm
    have:=hl y (by simp) _ hm
    omega
  refine this _ _ fun y hy k hk=>?_
  obtain⟨j,hj⟩:=List.mem_iff_getElem?.1 hy
  have:=h j y hj k hk
  have hl:=(List.getElem?_eq_some_iff.1 hj).1
  simp at hl
  omega
 rw[Q1w,List.map_append,Q9j,hlen,Qhm h,List.map_append,List.sum_append,←ih]
 simp only[List.map_cons,List.map_nil,wsum,Nat.zero_add,hz,List.sum_cons,List.sum_nil,Qcb]
 have e1:wsum (fun i=>1 - (cnt (e++[x]) i:Int)) 0 ((growL e).map (sumT g))=wsum (fun i=>(1 - (cnt e i:Int)) - ((x.kids.count (i:Int):Nat):Int)) 0 ((growL e).map (sumT g)):=by
  refine Q5v _ 0 fun i _ _=>?_
  rw[Qcy];simp[cnt];omega
 rw[e1,Qdf,Q8k _ _ (fun k hk=>by rw[hlen];exact h2 k hk)]
 have e2:(x.kids.map fun k=>((growL e).map (sumT g)).getD k.toNat 0)=x.kids.map fun k=>sumT g ((growL e).getD k.toNat default):=by
  refine List.map_congr_left fun k hk=>?_
  have:=h2 k hk
  have hl:k.toNat < (growL e).length:=by rw[Q11];omega
  simp[List.getD,List.getElem?_eq_getElem hl]
 rw[e2]
 omega
theorem Qkt{e:List Ex}(h:Q19 e){n:Nat}(hn:e.length<=n+1):cnt e n=0:=by
 have:∀(l:List Ex),(∀y∈l,∀k∈y.kids,k < (n:Int))->cnt l n=0:=by
  intro l
  induction l with
  |nil=>intro _;rfl
  |cons y l ih2=>
   intro hl
   simp only[cnt]
   rw[ih2 (fun z hz=>hl z (by simp[hz])),Nat.add_zero,List.count_eq_zero]
   intro hm
   have:=hl y (by simp) _ hm
   omega
 refine this _ fun y hy k hk=>?_
 obtain⟨j,hj⟩:=List.mem_iff_getElem?.1 hy
 have:=h j y hj k hk
 have hl:=(List.getElem?_eq_some_iff.1 hj).1
 omega
theorem Q9l(g:Lab->Int){e:List Ex}(h:IsTree e):((labs e).map g).sum=sumT g (grow e):=by
 rw[←sum_pre g e h.k]
 obtain⟨pre,x,rfl⟩:∃pre x,e=pre++[x]:=⟨e.dropLast,e.getLast h.ne,(List.dropLast_concat_getLast h.ne).symm⟩
 rw[Q1w,List.map_append,Q9j]
 rw[Q56 _ 0 (fun i _ hi=>?_),Qic]
 ·simp only[List.map_cons,List.map_nil,wsum,List.length_map,Q11,Nat.zero_add]
  rw[Qkt h.k (by simp)];omega
 ·have hi:i < pre.length:=by simpa[Q11]using hi
  have:=(h.c i (by simp;omega)).2 (by simp;omega)
  rw[this];rfl
end Go.CoreX
