/- The abstract layer, part Bf: a function that defers a closure, where nothing panics. No condition of its own. -/
import Derived.Test.YtpaonemmbhbgoaaGreatDoorV5
import Derived.Recover
import Derived.RangeFuncWrites
import Derived.OrdersIn
import Derived.Orders
import Derived.OwnWalkIn
import Derived.TacticsIn
import Derived.ControlIn
import Derived.RangeFuncKeeps
import Derived.RangeFuncLeaves
import Derived.RangeFuncOwn
set_option maxRecDepth 10000
set_option linter.unusedVariables false
set_option linter.unusedSimpArgs false
namespace Go.Abs
theorem Qik{P:Program}{T:Tab}{Γ:List (Nat×List AC)}{N:Nat}{fn:Func}{ds:List Deferred}{Q:FV->Outer->Prop}{F:Nat->Prop}{w w':World}{C C':Ctx}{ou:Outer}{fr':Fr}{σ':St}{tmps:Array Value}(hT:TabOk P T)(h0:C.nl=0)(hi:Inv Γ F w C ⟨0,[],ou⟩)
  (hgo:Goes F isO w C w' C') (hi':Inv Γ F w' C' σ') (hf':FrOk w' C' N fr' tmps) (h:Fin ⟨P,T,Γ,N,ds⟩ fn Q fr' σ'):∃v,(results fn tmps).run P w'=.ok v w'/\(∃v' r ou' C',Ending.returned v=.returned v'/\Goes F isO w C w' C'/\C'.nl=0/\Inv Γ F w' C' ⟨0,[],ou'⟩/\RF w' C' r v'/\Q r ou'):=by
 obtain⟨r,r',h1,h2,h3,h4,h5⟩:=h
 obtain⟨u,hu,hru⟩:=Qgr (tmps:=tmps) hT hi' hf' h1
 have hc:Chg isO w' C' w' { C' with nl:=0 }:=⟨fun _ _=>rfl,fun _ h=>h,fun i hp ho=>⟨by cases i with|l k=>cases hp|o k=>exact ho,rfl,rfl⟩⟩
 have hc0:∀i,C.ok i->isO i:=Q54 h0
 refine⟨u,hu,u,r',σ'.ou,{ C' with nl:=0 },rfl,⟨hgo.stp,hgo.chg.trans hc,hgo.no,hgo.newp⟩,rfl,⟨hi'.base,rfl,fun g cs hm=>?_,hi'.prot,fun i o ho=>?_,fun i j o o' g k1 k2 k3 k4=>?_⟩,RF.chg hc r' u h3 (h2 _ _ _ hru),h5⟩
 ·have:=hi.glob g cs hm
  have hids:=Q17 hc0 cs (RL.idsOk cs _ this.rl)
  exact RG.chg (hgo.chg.trans hc) hids this
 ·cases i with
  |l k=>cases ho
  |o k=>
   obtain⟨k1,k2⟩:=hi'.obj (.o k) o ho
   exact⟨k1,k2.ctx isO (h4 k o ho) trivial k1 hc (fun _ h=>h) (fun _ h=>h)⟩
 ·cases i with
  |l k=>cases k1
  |o k=>cases j with
   |l k=>cases k2
   |o k'=>
    have e1:=AObj.block_ctx (o:=o) isO (i:=.o k) trivial (hi'.obj (.o k) o k1).1 hc
    have e2:=AObj.block_ctx (o:=o') isO (i:=.o k') trivial (hi'.obj (.o k') o' k2).1 hc
    exact hi'.inj (.o k) (.o k') o o' g k1 k2 (by rw[←e1];exact k3) (by rw[←e2];exact k4)
theorem RV.len{w:World}{C:Ctx}:∀{cs:List AC}{xs:List Value},RV w C cs xs->xs.length=cs.length
 |[],xs,h=>by simp only[RV]at h;simp[h]
 |c::cs,xs,h=>by simp only[RV]at h;obtain⟨u,us,rfl,_,h2⟩:=h;simp[RV.len h2]
theorem AFn.ofDefer{P:Program}{T:Tab}{Γ:List (Nat×List AC)}{g gd i1 d5:Nat}{fn:Func}{r0 rest:Code}{o0 o1:Oper}{args:List FV}{ou:Outer}{Q:FV->Outer->Prop}{fr1:Fr}{σ1:St}{first caps:List AC}(hT:TabOk P T)(hf:P.funcs[g]?=some fn)(hb:fn.body=some (.seq r0 (.seq (.region i1 #[o0,o1] false) rest)))(hname:(fn.name == "runtime.NumGoroutine")=false)
  (hlen : args.length <= fn.ntmps) (h0 : OuOk ou -> ACode ⟨P, T, Γ, fn.ntmps, []⟩ r0 (fun e fr σ => e = .normal /\ fr = fr1 /\ σ = σ1) (argFr 0 args) ⟨0, [], ou⟩)
  (hg0 : o0.guard = none) (hd0 : o0.dst = some d5) (hdl : d5 < fn.ntmps) (hs0 : AStep ⟨P, T, Γ, fn.ntmps, []⟩ o0 fr1 σ1 (.one (.fn (.func gd) first caps)) σ1)
  (hg1 : o1.guard = none) (hd1 : o1.dst = none) (ho1 : o1.op = .defer { callee := .value (.tmp d5), args := #[], argTypes := #[] })
  (hdef : ∀ (us : Array Value) (w : World), (callFunc gd us).run P w = .ok (.enter gd us) w /\ (us.size = first.length + caps.length -> CallsD P gd us .returning w fun e u' w' => (∃ v, e = .returned v) /\ u' = .returning /\ w' = w))
  (hrest : OuOk ou -> ∀ ds, ACode ⟨P, T, Γ, fn.ntmps, ds⟩ rest (Q03 ⟨P, T, Γ, fn.ntmps, ds⟩ (Fin ⟨P, T, Γ, fn.ntmps, ds⟩ fn Q) []) ((d5, .one (.fn (.func gd) first caps)) :: fr1) σ1) : AFn P Γ g args ou Q := by
 refine⟨fun vs0 w=>?_,fun F w C cargs h0' hi hr=>?_⟩
 ·simp[callFunc,hf,hb]
  simpa using hname
 ·have hcl:cargs.length=args.length:=by
   have:∀(vs:List FV) (xs:List Value),RFs w C vs xs->xs.length=vs.length:=by
    intro vs
    induction vs with
    |nil=>intro xs h;simp only[RFs]at h;simp[h]
    |cons v vs ih=>intro xs h;simp only[RFs]at h;obtain⟨u,us,rfl,_,h2⟩:=h;simp[ih us h2]
   exact this _ _ hr
  refine calls_of_wp_defers hf hb ?_
  have hfr:FrOk w C fn.ntmps (argFr 0 args) (cargs.toArray++Array.replicate (fn.ntmps - cargs.toArray.size) undef):=by
   refine⟨by simp;omega,fun k x hk=>?_⟩
   obtain⟨_,h2⟩:=Q5d args 0 k x hk
   simp only[Nat.sub_zero]at h2
   obtain⟨u,hu,hru⟩:=RFs.get hr h2
   refine⟨u,?_,hru⟩
   have hlt:k < cargs.length:=(List.getElem?_eq_some_iff.1 hu).1
   rw[Array.getElem?_append_left (by simpa using hlt)]
   simpa using hu
  have hou:=OuOk.of_inv hi h0'
  refine wp_seq (wp_mono (h0 hou F w C w C _ (Goes.refl _ _ _ _) hi hfr) fun e a w1 hp=>?_)
  obtain⟨hda,fr',σ',C1,hg1',hi1,hf1,rfl,rfl,rfl⟩:=hp
  have ha:a=⟨a.tmps,[]⟩:=by cases a;simp_all
  rw[ha]
  refine wp_seq (wp_region_lit (l:=[o0,o1]) ?_)
  refine wpList_plain hg0 fun N' hN=>hs0 F w1 C1 a.tmps hi1 hf1 N' _ fun u w2 C2 hgo2 hi2 hr2=>?_
  refine hN _ _ ?_
  have hf2:FrOk w2 C2 fn.ntmps ((d5,.one (.fn (.func gd) first caps))::fr') (Act.put ⟨a.tmps,[]⟩ o0.dst u).tmps:=by
   have:=Q2b (ds:=[]) (dst:=some d5) (hf1.ext hgo2.chg) (by simp[dstOk,Nat.blt];omega) hr2
   rw[hd0];exact this
  rw[Q30]
  generalize hat:(Act.put ⟨a.tmps,[]⟩ o0.dst u).tmps=tm2 at hf2
  refine wpList_plain hg1 fun N2 hN2=>?_
  obtain⟨u5,hu5,hr5⟩:=hf2.2 d5 (.one (.fn (.func gd) first caps)) (by simp[Fr.get])
  simp only[RF,R]at hr5
  obtain⟨xs,ys,rfl,hx,hy⟩:=hr5
  have hev:Act.eval ⟨tm2,[]⟩ (.tmp d5)=.func (.func gd) xs.toArray ys.toArray:=by
   simp[Act.eval,hu5]
  have hrun:(execOp (Act.eval ⟨tm2,[]⟩) o1).run P w2=.ok (.defer ⟨.fn (.func gd) ys.toArray,xs.toArray⟩) w2:=by
   unfold execOp
   simp only[ho1,resolve,Sem.run_bind,hev,Deferred.ofValue,Sem.run_pure,Result.andThen_ok]
   simp
  unfold Oper.wp
  rw[hrun,Oper.upon_defer]
  refine hN2 _ _ ?_
  rw[hd1]
  show rest.wp P _ ⟨tm2,[⟨.fn (.func gd) ys.toArray,xs.toArray⟩]⟩ w2
  refine wp_mono (hrest hou [⟨.fn (.func gd) ys.toArray,xs.toArray⟩] F w C w2 C2 tm2 (hg1'.trans hgo2.toO) hi2 hf2) fun e a3 w3 hp=>?_
  obtain⟨hd3,fr3,σ3,C3,hg3,hi3,hf3,hk⟩:=hp
  have hxs:xs.length=first.length:=RV.len hx
  have hys:ys.length=caps.length:=RV.len hy
  have key:Fin ⟨P,T,Γ,fn.ntmps,[⟨.fn (.func gd) ys.toArray,xs.toArray⟩]⟩ fn Q fr3 σ3->Leaves P fn a3.tmps (fun e w'=>∃v r ou' C',e=.returned v/\Goes F isO w C w' C'/\C'.nl=0/\Inv Γ F w' C' ⟨0,[],ou'⟩/\RF w' C' r v/\Q r ou') a3.defers .returning w3:=fun hfin=>by
   obtain⟨v,hv,hR⟩:=Qik hT h0' hi hg3 hi3 hf3 hfin
   rw[hd3]
   refine⟨by simp,.func gd,ys.toArray,gd,xs.toArray++ys.toArray,rfl,?_,((hdef _ w3).2 (by simp[hxs,hys])).mono ?_⟩
   ·show (invoke (.fn (.func gd) ys.toArray) xs.toArray).run P w3=_
    simp only[invoke]
    exact (hdef _ w3).1
   ·rintro e u' w' ⟨⟨v',rfl⟩,rfl,rfl⟩
    exact⟨v,hv,hR⟩
  cases e with
  |normal=>exact key hk
  |ret=>exact key hk
  |panic ps=>exact hk.elim
  |exit id=>exact hk.elim
  |goto l=>exact hk.elim
  |outgrown=>exact hk.elim
theorem AOps.growO{E:Env}{ops:Array Oper}{l:List Oper}{K:Cont}{fr:Fr}{σ:St}(k off:Nat)(e:TypeId)(s:Nat){cs:List AC}(h:σ.get (.l k)=some (.cells cs))(hoff:cs[off]?=some (.lit (.slice none 0 0)))
  (hk : AOps E ops l K fr ((σ.set (.l k) (.cells (cs.set off (.gs s [] (.l σ.n))))).push (.tok e s 0))) : AOps E ops l K fr σ := by
 intro F w0 C0 w C tmps hg hi hf
 have hno:=Ctx.tokd_new C none (fun _=>False) hi.next
 have he:Ext w C w (C.tokd none (fun _=>False)):=⟨fun _ _=>rfl,fun _ h=>.inl h,fun i _ ho=>Ctx.tokd_old C _ _ ho⟩
 -- first the token
 have hi1:Inv E.Γ F w (C.tokd none (fun _=>False)) (σ.push (.tok e s 0)):=
  hi.addObj (σ.get_push _) he (by simp[Ctx.tokd,Ctx.more,St.push,hi.next]) hi.base (fun a ha=>hi.prot a (ha.resolve_right id)) (fun _ _ _ _ _ _ h=>h) (fun _ _ _ _ _ _ ha=>ha.resolve_right id) hno.1
   (by simp only[ObjOk,hno.2]) (fun i p g _ _ hb=>by simp[AObj.block,hno.2]at hb)
 have hget:(σ.push (.tok e s 0)).get (.l k)=some (.cells cs):=by
  rw[St.get_push]
  have:¬(Id.l k=Id.l σ.n):=by
   intro e'
   have:=(hi.obj _ _ h).1
   rw[e']at this
   simp only[Ctx.ok]at this
   have:=hi.next
   omega
  rw[if_neg this];exact h
 obtain⟨hok,xs,T,h1,h2,h3,h4⟩:=hi1.obj _ _ hget
 have hxs:xs[off]?=some (.slice none 0 0):=by
  have:∀(cs:List AC) (xs:List Value) (off:Nat),RV w (C.tokd none (fun _=>False)) cs xs->cs[off]?=some (.lit (.slice none 0 0))->xs[off]?=some (.slice none 0 0):=by
   intro cs
   induction cs with
   |nil=>intro xs off _ h;simp at h
   |cons c cs ih=>
    intro xs off h h'
    simp only[RV]at h
    obtain⟨u,us,rfl,g1,g2⟩:=h
    cases off with
    |zero=>simp at h';subst h';simp only[R]at g1;simp[g1.1]
    |succ off=>simpa using ih us off g2 (by simpa using h')
  exact this cs xs off h3 hoff
 have hr':RV w (C.tokd none (fun _=>False)) (cs.set off (.gs s [] (.l σ.n))) xs:=by
  have:∀(cs:List AC) (xs:List Value) (off:Nat),RV w (C.tokd none (fun _=>False)) cs xs->xs[off]?=some (.slice none 0 0)->RV w (C.tokd none (fun _=>False)) (cs.set off (.gs s [] (.l σ.n))) xs:=by
   intro cs
   induction cs with
   |nil=>intro xs off h _;simpa using h
   |cons c cs ih=>
    intro xs off h h'
    simp only[RV]at h
    obtain⟨u,us,rfl,g1,g2⟩:=h
    cases off with
    |zero=>simp at h';subst h';exact⟨_,us,rfl,⟨hno.1,.inl ⟨rfl,rfl,hno.2⟩⟩,g2⟩
    |succ off=>exact⟨u,us,rfl,g1,ih us off g2 (by simpa using h')⟩
  exact this cs xs off h3 hxs
 have hi2:=(hi1.turn (o':=.cells (cs.set off (.gs s [] (.l σ.n)))) hget rfl rfl (fun _ _=>rfl) (fun _ _ _=>rfl) rfl (fun he'=>⟨xs,T,h1,h2,hr',h4⟩)).2
 refine hk F w0 C0 w _ tmps (hg.trans ⟨Stp.refl _ _,he.weaken (fun _ _=>trivial),by simp[Ctx.tokd,Ctx.more],fun a ha=>.inl (ha.resolve_right id)⟩) ?_ (hf.ext he)
 have hkn:k≠σ.n:=by
  rintro rfl
  have h5:=(hi.obj _ _ h).1
  simp only[Ctx.ok]at h5
  have:=hi.next
  omega
 exact⟨hi2.base,by have:=hi2.next;simpa[St.push,St.set]using this,hi2.glob,hi2.prot,fun i o ho=>hi2.obj i o (by rw[←Q5h hkn];exact ho),fun i j o o' g a b c d=>hi2.inj i j o o' g (by rw[←Q5h hkn];exact a) (by rw[←Q5h hkn];exact b) c d⟩

theorem AFn.forgetD{P:Program}{Γ:List (Nat×List AC)}{g:Nat}{args:List FV}{ou:Outer}{Q:FV->Outer->Prop}(h:AFn P Γ g args ou (fun r ou'=>∃ou'':Outer,(∀m o,ou'' m=some o->ou' m=some o∨(o=.dead/\∃p,ou m=some p))/\Q r ou'')):AFn P Γ g args ou Q:=by
 refine⟨h.1,fun F w C cargs h0 hi hr=>(h.2 F w C cargs h0 hi hr).mono fun e w' ⟨v,r,ou',C',h1,h2,h3,h4,h5,ou'',h6,h7⟩=>⟨v,r,ou'',C',h1,h2,h3,?_,h5,h7⟩⟩
 have hs:∀i o,(St.mk 0 [] ou'').get i=some o->(St.mk 0 [] ou').get i=some o∨(o=.dead/\isO i/\∃p,(St.mk 0 [] ou).get i=some p):=fun i o hio=>by
  cases i with
  |l m=>cases hio
  |o m=>exact (h6 m o hio).imp id fun ⟨a,b⟩=>⟨a,trivial,b⟩
 refine⟨h4.base,h4.next,h4.glob,h4.prot,fun i o ho=>?_,fun i j o o' g k1 k2 h3 h5=>?_⟩
 ·rcases hs i o ho with hh|⟨rfl,hio,p,hp⟩
  ·exact h4.obj i o hh
  ·exact⟨(h2.chg.id i hio (hi.obj i p hp).1).1,trivial⟩
 ·rcases hs i o k1 with hh|⟨rfl,_,p,hp⟩
  ·rcases hs j o' k2 with hh2|⟨rfl,_,p,hp⟩
   ·exact h4.inj i j o o' g hh hh2 h3 h5
   ·simp[AObj.block]at h5
  ·simp[AObj.block]at h3
end Go.Abs
namespace Go.Abs
abbrev Q41 (l:Nat):Fence:=Fence.wide.inRound l
theorem Qgm{l n:Nat}{P:Program}{f:FuncId}{args:Array Value}{w:World}{R:Ending->World->Prop}(h:Calls P f args w R):CallsIn (Q41 l) n P f args w R:=(callsIn_wide (n:=n)).2 h
theorem Qj9{l n:Nat}{P:Program}{row:String}{args:Array Value}{w:World}{R:Value->World->Prop}(h:Rows P row args w R):RowsIn (Q41 l) n P row args w R:=fun c cs _=>by
 obtain⟨v,w',r,s⟩:=h c cs
 exact⟨v,w',r,stepsIn_wide.2 s⟩
theorem Qav{l n:Nat}{P:Program}{o:Oper}{a:Act}{w:World}{K:Act->World->Prop}{Q:Exit->Act->World->Prop}(hnd:∀c,o.op≠.defer c)(h:o.wp P a w K Q):o.wpIn (Q41 l) n P a w K Q:=by
 refine⟨fun _ _=>trivial,?_⟩
 rw[Oper.semAt_plain _ _ _ hnd]
 unfold Oper.wp at h
 generalize (execOp a.eval o).run P w=r at h
 have hd:(Q41 l).depth.isSome=true->1<=n:=fun e=>by simp[Q41,Fence.inRound,Fence.wide]at e
 cases r with
 |ok v w'=>
  cases v with
  |enter f args=>exact⟨hd,Qgm h⟩
  |row row args=>exact⟨hd,Qj9 h⟩
  |value v=>exact h
  |skip=>exact h
  |defer d=>exact h
  |_=>exact h.elim
 |halt s w'=>cases s <;> exact h
theorem Qj5{l n:Nat}{P:Program}{ops:Array Oper}{i:Nat}{K K':Act->World->Prop}{Q:Exit->Act->World->Prop}{a:Act}{w:World}(hnd:∀o∈ops,∀c,o.op≠.defer c)(hlo:¬LetsOut Q)(hK:∀a w,K a w->K' a w)(h:wpOp P ops Q i K a w):wpOpIn (Q41 l) n P ops Q i K' a w:=by
 unfold wpOp at h
 unfold wpOpIn
 cases ho:ops[i]? with
 |none=>rw[ho]at h;exact hK _ _ h
 |some o=>
  rw[ho]at h
  simp only at h ⊢
  split
  ·rename_i hw
   rw[if_pos hw]at h
   rcases h with h|h
   ·exact Oper.wpIn_mono hK (Qav (hnd o (Array.mem_of_getElem? ho)) h)
   ·exact absurd h.2 hlo
  ·rename_i hw
   rw[if_neg hw]at h
   exact⟨fun _ _=>trivial,hK _ _ h⟩
theorem Q8j{l n:Nat}{P:Program}{md:Region.Mode}{ops:Array Oper}{Q:Exit->Act->World->Prop}(hnd:∀o∈ops,∀c,o.op≠.defer c)(hlo:¬LetsOut Q):∀(fuel:Nat)(listed:Array Bool)(a:Act)(w:World),wpAny P md ops Q fuel listed a w->wpAnyIn (Q41 l) n P md ops Q fuel listed a w
 |0,_,_,_,h=>h
 |fuel+1,listed,a,w,h=>⟨h.1,fun i hi=>Qj5 hnd hlo (fun a w=>Q8j hnd hlo fuel _ a w) (h.2 i hi)⟩
theorem Q4s{l n:Nat}{P:Program}{ops:Array Oper}{Q:Exit->Act->World->Prop}(hlo:¬LetsOut Q):∀(os:List Oper)(a:Act)(w:World),(∀o∈os,∀c,o.op≠.defer c)->wpList P ops Q os a w->wpListIn (Q41 l) n P ops Q os a w
 |[],_,_,_,h=>h
 |o::os,a,w,hnd,h=>by
  unfold wpList at h
  unfold wpListIn
  split
  ·rename_i hw
   rw[if_pos hw]at h
   rcases h with h|h
   ·exact Oper.wpIn_mono (fun a w h=>Q4s hlo os a w (fun o ho=>hnd o (by simp[ho])) h) (Qav (hnd o (by simp)) h)
   ·exact absurd h.2 hlo
  ·rename_i hw
   rw[if_neg hw]at h
   exact⟨fun _ _=>trivial,Q4s hlo os _ w (fun o ho=>hnd o (by simp[ho])) h⟩
end Go.Abs
namespace Go.Abs
section
variable {E:Env}{l:List Oper}{fr frb:Fr}{K:Cont}{σ0:St}
theorem AAny.round{id r n:Nat}(hm:E.P.follows .mixedOrders=true)(hnd:∀o∈l.toArray,∀c,o.op≠.defer c)(h:AAny E l K fr σ0){F:Nat->Prop}{w0:World}{C0:Ctx}{w:World}{C:Ctx}{tmps:Array Value}(hg:Goes F isO w0 C0 w C)(hi:Inv E.Γ F w C σ0)(hf:FrOk w C E.N fr tmps)(hlo:¬LetsOut (Post E F w0 C0 K)):
  (Code.region id l.toArray true).wpIn (Q41 r) n E.P (Post E F w0 C0 K) ⟨tmps,E.ds⟩ w:=wpIn_region_any hm (Q8j hnd hlo _ _ _ _ (h F w0 C0 w C tmps hg hi hf))
end
end Go.Abs
namespace Go.Abs
def AIn (E:Env)(c:Code)(K:Cont)(fr:Fr)(σ:St):Prop:=
 ∀(F:Nat->Prop) (w0:World) (C0:Ctx) (w:World) (C:Ctx) (tmps:Array Value),Goes F isO w0 C0 w C->Inv E.Γ F w C σ->FrOk w C E.N fr tmps->∀r n,c.wpIn (Q41 r) n E.P (Post E F w0 C0 K) ⟨tmps,E.ds⟩ w
def Tame (K:Cont):Prop:=∀fr σ,¬K .outgrown fr σ
theorem Tame.lets{E:Env}{F:Nat->Prop}{w0:World}{C0:Ctx}{K:Cont}(h:Tame K):¬LetsOut (Post E F w0 C0 K):=fun ⟨a,w,_,fr,σ,_,_,_,_,hk⟩=>h fr σ hk
section
variable {E:Env}{l:List Oper}{fr:Fr}{K:Cont}{σ:St}
theorem AIn.drawn{id:Nat}(hm:E.P.follows .mixedOrders=true)(hK:Tame K)(hnd:∀o∈l.toArray,∀c,o.op≠.defer c)(h:AAny E l K fr σ):AIn E (.region id l.toArray true) K fr σ:=fun F w0 C0 w C tmps hg hi hf r n=>AAny.round hm hnd h hg hi hf hK.lets
def inBlk (id:Nat)(K:Cont):Cont:=fun e fr σ=>match e with
 |.exit j=>if j=id then K .normal fr σ else K (.exit j) fr σ
 |e=>K e fr σ
theorem AIn.block{id:Nat}{c:Code}(h:AIn E c (inBlk id K) fr σ):AIn E (.block id c) K fr σ:=fun F w0 C0 w C tmps hg hi hf r n=>by
 refine wpIn_block (wpIn_mono (h F w0 C0 w C tmps hg hi hf r n) fun e a w' ⟨hd,fr',σ',C',h1,h2,h3,hk⟩=>?_)
 cases e with
 |exit j=>
  simp only[inBlk]at hk
  simp only[Exit.inBlock]
  split
  ·rename_i e;rw[if_pos e]at hk;exact⟨hd,fr',σ',C',h1,h2,h3,hk⟩
  ·rename_i e;rw[if_neg e]at hk;exact⟨hd,fr',σ',C',h1,h2,h3,hk⟩
 |_=>exact⟨hd,fr',σ',C',h1,h2,h3,hk⟩
end
end Go.Abs
namespace Go.Abs
structure Trm (w:World)(C C':Ctx):Prop where
 prot:∀a u,w.cell? a=some u->C.prot a->C'.prot a
 id:∀i,C.ok i->C'.ok i/\C'.blk i=C.blk i/\C'.tok i=C.tok i
mutual
theorem R.trm{w:World}{C C':Ctx}(h:Trm w C C'):∀(c:AC)(v:Value),R w C c v->R w C' c v
 |.lit u,v,hr=>by simpa[R]using hr
 |.any,v,hr=>by simpa[R]using hr
 |.sl s es,v,hr=>by
  simp only[R]at *
  obtain⟨a,cap,rfl,hc,h2⟩:=hr
  refine⟨a,cap,rfl,hc,?_⟩
  rcases h2 with h2|⟨ad,rfl,hs,h2⟩
  ·exact .inl h2
  ·exact .inr ⟨ad,rfl,hs,RS.trm h s es ad h2⟩
 |.box cs,v,hr=>by
  simp only[R]at *
  obtain⟨ad,rfl,hs,h2⟩:=hr
  exact⟨ad,rfl,hs,RL.trm h cs ad h2⟩
 |.ptr i off,v,hr=>by
  simp only[R]at *
  obtain⟨ho,rfl⟩:=hr
  obtain⟨h1,h2,_⟩:=h.id i ho
  exact⟨h1,by rw[h2]⟩
 |.gs s es i,v,hr=>by
  simp only[R]at *
  obtain⟨ho,hr⟩:=hr
  obtain⟨h1,_,h3⟩:=h.id i ho
  refine⟨h1,?_⟩
  rcases hr with ⟨rfl,he,ht⟩|⟨g,cap,rfl,hc,ht,h2⟩
  ·exact .inl ⟨rfl,he,h3.trans ht⟩
  ·exact .inr ⟨g,cap,rfl,hc,h3.trans ht,RS.trm h s es _ h2⟩
 |.arr i s off len cap,v,hr=>by
  simp only[R]at *
  obtain⟨ho,rfl,hc⟩:=hr
  obtain⟨h1,h2,_⟩:=h.id i ho
  exact⟨h1,by rw[h2],hc⟩
 |.mp i,v,hr=>by
  simp only[R]at *
  obtain⟨ho,rfl⟩:=hr
  obtain⟨h1,h2,_⟩:=h.id i ho
  exact⟨h1,by rw[h2]⟩
 |.fn f first caps,v,hr=>by
  simp only[R]at *
  obtain⟨xs,ys,rfl,h1,h2⟩:=hr
  exact⟨xs,ys,rfl,RV.trm h first xs h1,RV.trm h caps ys h2⟩
 |.ifc t ag cs,v,hr=>by
  simp only[R]at *
  obtain⟨xs,h1,h2⟩:=hr
  exact⟨xs,RV.trm h cs xs h1,h2⟩
theorem RS.trm{w:World}{C C':Ctx}(h:Trm w C C')(s:Nat):∀(es:List (List AC))(ad:Addr),RS w C s es ad->RS w C' s es ad
 |[],_,_=>by simp[RS]
 |e::es,ad,hr=>by
  simp only[RS]at *
  exact⟨hr.1,RL.trm h e ad hr.2.1,RS.trm h s es _ hr.2.2⟩
theorem RL.trm{w:World}{C C':Ctx}(h:Trm w C C'):∀(cs:List AC)(ad:Addr),RL w C cs ad->RL w C' cs ad
 |[],_,_=>by simp[RL]
 |c::cs,ad,hr=>by
  simp only[RL]at *
  obtain⟨⟨u,hu,hp,hr⟩,h2⟩:=hr
  exact⟨⟨u,hu,h.prot _ _ hu hp,R.trm h c u hr⟩,RL.trm h cs _ h2⟩
theorem RV.trm{w:World}{C C':Ctx}(h:Trm w C C'):∀(cs:List AC)(vs:List Value),RV w C cs vs->RV w C' cs vs
 |[],_,hr=>by simpa[RV]using hr
 |c::cs,vs,hr=>by
  simp only[RV]at *
  obtain⟨u,us,rfl,h1,h2⟩:=hr
  exact⟨u,us,rfl,R.trm h c u h1,RV.trm h cs us h2⟩
end
mutual
theorem RF.trm{w:World}{C C':Ctx}(h:Trm w C C'):∀(x:FV)(v:Value),RF w C x v->RF w C' x v
 |.bot,v,_=>by simp[RF]
 |.one c,v,hr=>by simp only[RF]at *;exact R.trm h c v hr
 |.agg cs,v,hr=>by
  simp only[RF]at *
  obtain⟨xs,rfl,h2⟩:=hr
  exact⟨xs,rfl,RV.trm h cs xs h2⟩
 |.tup vs,v,hr=>by
  simp only[RF]at *
  obtain⟨xs,rfl,h2⟩:=hr
  exact⟨xs,rfl,RFs.trm h vs xs h2⟩
theorem RFs.trm{w:World}{C C':Ctx}(h:Trm w C C'):∀(vs:List FV)(xs:List Value),RFs w C vs xs->RFs w C' vs xs
 |[],xs,hr=>by simpa[RFs]using hr
 |v::vs,xs,hr=>by
  simp only[RFs]at *
  obtain⟨u,us,rfl,h1,h2⟩:=hr
  exact⟨u,us,rfl,RF.trm h v u h1,RFs.trm h vs us h2⟩
end
theorem FrOk.trm{w:World}{C C':Ctx}{N:Nat}{fr:Fr}{tmps:Array Value}(h:Trm w C C')(hf:FrOk w C N fr tmps):FrOk w C' N fr tmps:=⟨hf.1,fun k x hk=>let ⟨u,hu,hr⟩:=hf.2 k x hk;⟨u,hu,RF.trm h x u hr⟩⟩
def Q7s (w:World)(k:Nat):Prop:=∃o:Obj,w.heap[k]?=some o/\o.isCells=true
def Q3u (σ:St):Prop:=∀i o,σ.get i=some o->match o with|.cells _=>True|.tok _ _ _=>True|.dead=>True|_=>False
theorem Inv.trm{Γ:List (Nat×List AC)}{F:Nat->Prop}{w:World}{C C':Ctx}{σ:St}(hi:Inv Γ F w C σ)(h:Trm w C C')(hnl:C'.nl=C.nl)(hp:∀a,C'.prot a->C.prot a∨¬Q7s w a.block)(hlt:∀a,C'.prot a->a.block < w.heap.size)(hg:∀g cs,(g,cs)∈Γ->C'.prot ⟨g,cs.length,none⟩)(hpl:Q3u σ):Inv Γ F w C' σ:=by
 refine⟨hi.base,hnl.trans hi.next,fun g cs hm=>?_,hlt,fun i o ho=>?_,fun i j o o' g ho ho' hb hb'=>?_⟩
 ·have:=hi.glob g cs hm
  exact⟨RL.trm h cs _ this.rl,this.fin,hg g cs hm⟩
 ·obtain⟨h1,h2⟩:=hi.obj i o ho
  obtain⟨e1,e2,e3⟩:=h.id i h1
  refine⟨e1,?_⟩
  have hpo:=hpl i o ho
  cases o with
  |cells cs=>
   obtain⟨xs,T,g1,g2,g3,g4⟩:=h2
   refine⟨xs,T,by rw[e2];exact g1,by rw[e2];exact g2,RV.trm h cs xs g3,fun a ha hpa=>?_⟩
   rw[e2]at ha
   rcases hp a hpa with h3|h3
   ·exact g4 a ha h3
   ·exact h3 ⟨_,by rw[ha];exact g1,rfl⟩
  |tok e s used=>
   unfold ObjOk at h2 ⊢
   rw[e3]
   cases ht:C.tok i with
   |none=>rw[ht]at h2;exact h2
   |some p=>
    obtain⟨g,cap⟩:=p
    rw[ht]at h2
    obtain⟨xs,g1,g2,g3,g4,g5,g6⟩:=h2
    refine⟨xs,g1,g2,g3,g4,g5,fun a ha hpa=>?_⟩
    rcases hp a hpa with h3|h3
    ·exact g6 a ha h3
    ·exact absurd ⟨_,by rw[ha];exact g1,rfl⟩ h3
  |dead=>trivial
  |map ck es=>exact hpo.elim
  |iter m since seen last=>exact hpo.elim
  |sit s pos=>exact hpo.elim
 ·have bl:∀i o,σ.get i=some o->o.block C' i=o.block C i:=fun i o ho=>by
   obtain⟨e1,e2,e3⟩:=h.id i (hi.obj i o ho).1
   cases o <;> simp[AObj.block,e2,e3]
  rw[bl i o ho]at hb
  rw[bl j o' ho']at hb'
  exact hi.inj i j o o' g ho ho' hb hb'
end Go.Abs
namespace Go.Abs
def ProtB (B:Nat)(w:World)(C:Ctx):Prop:=∀a,C.prot a->a.block < B∨Q7s w a.block
def trimB (B:Nat)(w:World)(C:Ctx):Ctx:={ C with prot:=fun a=>C.prot a/\(a.block < B∨Q7s w a.block) }
theorem Qjv{w:World}{a:Addr}{u:Value}(h:w.cell? a=some u):Q7s w a.block:=by
 unfold World.cell? at h
 cases ho:w.heap[a.block]? with
 |none=>rw[ho]at h;cases h
 |some o=>
  rw[ho]at h
  cases o with
  |cells c t f=>exact⟨_,ho,rfl⟩
  |_=>cases h
theorem Q66(B:Nat)(w:World)(C:Ctx):Trm w C (trimB B w C):=⟨fun a u hu hp=>⟨hp,.inr (Qjv hu)⟩,fun i h=>⟨h,rfl,rfl⟩⟩
theorem Q74(B:Nat)(w:World)(C:Ctx):ProtB B w (trimB B w C):=fun a h=>h.2
theorem Inv.trimB{Γ:List (Nat×List AC)}{F:Nat->Prop}{w:World}{C:Ctx}{σ:St}(hi:Inv Γ F w C σ)(B:Nat)(hpl:Q3u σ)(hg:∀g cs,(g,cs)∈Γ->g < B):Inv Γ F w (trimB B w C) σ:=
 hi.trm (Q66 B w C) rfl (fun a h=>.inl h.1) (fun a h=>hi.prot a h.1) (fun g cs hm=>⟨(hi.glob g cs hm).pr,.inl (hg g cs hm)⟩) hpl
theorem Goes.trimB{F:Nat->Prop}{w0 w:World}{C0 C:Ctx}(h:Goes F isO w0 C0 w C){B:Nat}(hB:∀a,C0.prot a->a.block < B):Goes F isO w0 C0 w (trimB B w C):=
 ⟨h.stp,⟨h.chg.cell,fun a ha=>⟨h.chg.prot a ha,.inl (hB a ha)⟩,h.chg.id⟩,h.no,fun a ha=>h.newp a ha.1⟩
section
variable {B:Nat}{w w':World}{row:Option Nat}(hg:w.grownBy w' row)(hr:∀r,row=some r->B<=r/\∃o:Obj,w.heap[r]?=some o/\o.isCells=false)
include hg hr
theorem Q6b{k:Nat}(hk:k < B)(hB:B<=w.heap.size):w'.heap[k]?=w.heap[k]?:=hg.block k (by omega) (fun e=>by have:=(hr k e.symm).1;omega)
theorem Q90{k:Nat}(hk:Q7s w k):w'.heap[k]?=w.heap[k]?:=by
 obtain⟨o,ho,hc⟩:=hk
 refine hg.block k (Q0m ho) (fun e=>?_)
 obtain⟨_,o',ho',hc'⟩:=hr k e.symm
 rw[ho]at ho';cases ho';rw[hc]at hc';cases hc'
theorem Qne{C:Ctx}(hB:B<=w.heap.size)(hp:ProtB B w C){a:Addr}(ha:C.prot a):w'.heap[a.block]?=w.heap[a.block]?:=(hp a ha).elim (fun h=>Q6b hg hr h hB) (Q90 hg hr)
theorem ProtB.rowed{C:Ctx}(hB:B<=w.heap.size)(hp:ProtB B w C):ProtB B w' C:=fun a ha=>(hp a ha).imp id fun ⟨o,ho,hc⟩=>⟨o,(Q90 hg hr ⟨o,ho,hc⟩).trans ho,hc⟩
theorem Ext.rowed{C:Ctx}(hB:B<=w.heap.size)(hp:ProtB B w C):Ext w C w' C:=⟨fun a ha=>by unfold World.cell?;rw[Qne hg hr hB hp ha],fun a ha=>ha,fun i _ ho=>⟨ho,rfl,rfl⟩⟩
theorem Goes.rowed{F:Nat->Prop}{w0:World}{C0 C:Ctx}(h:Goes F isO w0 C0 w C)(hB:B<=w.heap.size)(h0:w0.heap.size<=B)(hF:∀k,F k->k < B)(hp0:∀a,C0.prot a->a.block < B):Goes F isO w0 C0 w' C :=
 ⟨⟨hg.os.trans h.stp.os, hg.tape.trans h.stp.tape, hg.output.trans h.stp.output, Nat.le_trans h.stp.size hg.size, fun k hk => (Q6b hg hr (hF k hk) hB).trans (h.stp.block k hk), fun a ha => (World.frozen?_of_block (Q6b hg hr (by omega) hB)).trans (h.stp.frozen a ha)⟩,
  ⟨fun a ha=>(World.cell?_of_block (Q6b hg hr (hp0 a ha) hB)).trans (h.chg.cell a ha),h.chg.prot,h.chg.id⟩,h.no,h.newp⟩
theorem Inv.rowed{Γ:List (Nat×List AC)}{F:Nat->Prop}{C:Ctx}{σ:St}(hi:Inv Γ F w C σ)(hB:B<=w.heap.size)(hp:ProtB B w C)(hpl:Q3u σ):Inv Γ F w' C σ:=by
 have he:=Ext.rowed hg hr hB hp
 refine⟨fun k hk=>Nat.lt_of_lt_of_le (hi.base k hk) hg.size,hi.next,fun g cs h=>(hi.glob g cs h).ext he,fun a ha=>Nat.lt_of_lt_of_le (hi.prot a ha) hg.size,fun i o h=>?_,hi.inj⟩
 obtain⟨h1,h2⟩:=hi.obj i o h
 have hpo:=hpl i o h
 refine⟨h1,h2.keep he h1 (fun g x hx1 hx=>?_) (fun a _ _ ha=>ha)⟩
 refine (Q90 hg hr ?_).trans hx
 cases o with
 |cells cs=>
  obtain⟨xs,T,g1,_⟩:=h2
  simp only[AObj.block,Option.some.injEq]at hx1
  subst hx1
  exact⟨_,g1,rfl⟩
 |tok e s used=>
  unfold ObjOk at h2
  simp only[AObj.block]at hx1
  cases ht:C.tok i with
  |none=>rw[ht]at hx1;cases hx1
  |some p=>
   obtain⟨g',cap⟩:=p
   rw[ht]at hx1 h2
   simp at hx1
   subst hx1
   obtain⟨ys,g1,_⟩:=h2
   exact⟨_,g1,rfl⟩
 |dead=>cases hx1
 |map ck es=>exact hpo.elim
 |iter m since seen last=>exact hpo.elim
 |sit s pos=>exact hpo.elim
end
end Go.Abs
namespace Go.Abs
def Q3f (F:Nat->Prop)(w:World):Nat->Prop:=fun k=>F k∨∃o:Obj,w.heap[k]?=some o/\o.isCells=false
theorem Inv.keepF{Γ:List (Nat×List AC)}{F F':Nat->Prop}{w:World}{C:Ctx}{σ:St}(hi:Inv Γ F w C σ)(hb:∀k,F' k->k < w.heap.size)(hF:∀i o g,σ.get i=some o->o.block C i=some g->F' g->False):Inv Γ F' w C σ:=
 ⟨hb,hi.next,hi.glob,hi.prot,fun i o h=>⟨(hi.obj i o h).1,(hi.obj i o h).2.memo (hF i o · h)⟩,hi.inj⟩
theorem Inv.blockCells{Γ:List (Nat×List AC)}{F:Nat->Prop}{w:World}{C:Ctx}{σ:St}(hi:Inv Γ F w C σ)(hpl:Q3u σ){i:Id}{o:AObj}{g:Nat}(h:σ.get i=some o)(hb:o.block C i=some g):Q7s w g/\¬F g:=by
 obtain⟨h1,h2⟩:=hi.obj i o h
 have hpo:=hpl i o h
 cases o with
 |cells cs=>
  obtain⟨xs,T,g1,g2,_⟩:=h2
  simp only[AObj.block,Option.some.injEq]at hb
  subst hb
  exact⟨⟨_,g1,rfl⟩,g2⟩
 |tok e s used=>
  unfold ObjOk at h2
  simp only[AObj.block]at hb
  cases ht:C.tok i with
  |none=>rw[ht]at hb;cases hb
  |some p=>
   obtain⟨g',cap⟩:=p
   rw[ht]at hb h2
   simp at hb
   subst hb
   obtain⟨ys,g1,g2,_⟩:=h2
   exact⟨⟨_,g1,rfl⟩,g2⟩
 |dead=>cases hb
 |map ck es=>exact hpo.elim
 |iter m since seen last=>exact hpo.elim
 |sit s pos=>exact hpo.elim
theorem Inv.intoRound{Γ:List (Nat×List AC)}{F:Nat->Prop}{w:World}{C:Ctx}{σ:St}(hi:Inv Γ F w C σ)(hpl:Q3u σ):Inv Γ (Q3f F w) w C σ:=by
 refine hi.keepF (fun k hk=>hk.elim (hi.base k) fun ⟨o,ho,_⟩=>Q0m ho) fun i o g h hb hF=>?_
 obtain⟨⟨o',ho',hc'⟩,hn⟩:=hi.blockCells hpl h hb
 rcases hF with hF|⟨o2,ho2,hc2⟩
 ·exact hn hF
 ·rw[ho']at ho2;cases ho2;rw[hc']at hc2;cases hc2
theorem Inv.outOfRound{Γ:List (Nat×List AC)}{F:Nat->Prop}{w w':World}{C:Ctx}{σ:St}(hi:Inv Γ (Q3f F w) w' C σ)(hpl:Q3u σ):Inv Γ F w' C σ:=
 hi.keepF (fun k hk=>hi.base k (.inl hk)) fun i o g h hb hF=>(hi.blockCells hpl h hb).2 (.inl hF)
theorem Goes.outOfRound{F:Nat->Prop}{w w':World}{C C':Ctx}(h:Goes (Q3f F w) isO w C w' C'):Goes F isO w C w' C':=⟨h.stp.mono fun k hk=>.inl hk,h.chg,h.no,fun a ha=>(h.newp a ha).imp id fun hn hF=>hn (.inl hF)⟩
theorem Goes.keepsFrom{F:Nat->Prop}{w w':World}{C C':Ctx}(h:Goes (Q3f F w) isO w C w' C')(B:Nat):KeepsFrom B w w':=⟨h.stp.size,fun k o _ ho hc=>(h.stp.block k (.inr ⟨o,ho,hc⟩)).trans ho⟩
theorem Goes.keepsWalks{F:Nat->Prop}{w w':World}{C C':Ctx}(h:Goes (Q3f F w) isO w C w' C'):KeepsWalks w w':=⟨h.stp.size,fun k o ho hw=>(h.stp.block k (.inr ⟨o,ho,Obj.not_cells_of_walk hw⟩)).trans ho⟩
end Go.Abs
namespace Go.Abs
def KpC (C:Ctx)(A B:World):Prop:=KeepsWalks A B/\∀a,C.prot a->B.cell? a=A.cell? a
theorem Qni{E:Env}{α:Type}{g:Operand}{ps:Array Tmp}{assign body:Code}{Q:Exit->Act->World->Prop}{F:Nat->Prop}{w0 w:World}{C0 C:Ctx}{fr:Fr}{σ:St}{tmps:Array Value}{gf:Nat}{lb:Array Value}{encs:α->Array Value}{S Sp:List α->Prop}{N:Nat}(J:List α->St->Prop)(a1:α->Array Value)
  (hgo : Goes F isO w0 C0 w C) (hi : Inv E.Γ F w C σ) (hf : FrOk w C E.N fr tmps) (hJ : ∀ pre σ, J pre σ -> Q3u σ) (hj0 : J [] σ) (hfi : ∀ k x, Fr.get k fr = some x -> x.ids isO)
  (hg : Act.eval ⟨tmps, E.ds⟩ g = .func (.func gf) #[] lb) (eg : ∀ args w, (callFunc gf args).run E.P w = .ok (.enter gf args) w)
  (hseq : SeqStopsK Fence.wide 1 E.P gf lb encs (KpC C) S Sp N w) (hps : ∀ x, (encs x).size = ps.size)
  (hassign : ∀ (l : Nat) (x : α) (W : World) (K : Act -> World -> Prop), K ⟨a1 x, []⟩ W -> assign.wpIn (Q41 l) 0 E.P (Exit.then K (fun _ _ _ => False)) { tmps := (ps.zip (encs x)).foldl (fun t (p, v) => t.setIfInBounds p v) tmps, defers := [] } W)
  (hbody : ∀ (l : Nat) (pre : List α) (x : α) (W : World) (C' : Ctx) (σ' : St), pre.length < N -> Goes F isO w C W C' -> Inv E.Γ (Q3f F W) W C' σ' -> FrOk W C' E.N fr tmps -> J pre σ' ->
   body.wpIn (Q41 l) 0 E.P (Post { E with ds:=[] } (Q3f F W) W C' (fun e _ σ''=>e=.normal/\J (pre++[x]) σ'')) ⟨a1 x,[]⟩ W)
  (hdone:∀(D:Nat) (xs:List α) (W:World) (C':Ctx) (σ':St),w.heap.size<=D->S xs->Goes F isO w0 C0 W C'->Inv E.Γ F W C' σ'->FrOk W C' E.N fr tmps->J xs σ'->W.heap[D]?=some (.deferred (some []))->Q .normal ⟨tmps,{ target:=.collected D,args:=#[] }::E.ds⟩ W):
  (Code.rangeFunc g ps assign body).wp E.P Q ⟨tmps,E.ds⟩ w:=by
 have hgl:∀g cs,(g,cs)∈E.Γ->g < w.heap.size:=fun g cs hm=>hi.prot _ (hi.glob g cs hm).pr
 have hFb:∀k,F k->k < w.heap.size:=hi.base
 refine wpIn_wide.1 (wpIn_rangeFunc_ownG (F:=Fence.wide) (n:=2) rfl (by decide) hg trivial eg hseq (fun a b=>⟨a.1.trans b.1,fun x hx=>(b.2 x hx).trans (a.2 x hx)⟩) (fun W l o o' hl h hc hw=>⟨walksK_b (w:=w) W l o o' hl h hc hw,fun a ha=>World.cell?_of_block ((grownBy_putObj' W l o').block a.block (Nat.lt_of_lt_of_le (hi.prot a ha) (Nat.le_trans hl (Nat.le_of_lt (Q0m h)))) (fun e=>by have:=hi.prot a ha;cases e;omega))⟩) (RowKit.Below.refl _ _) hps
  (fun pre W=>w.heap.size<=W.heap.size/\∃C' σ',Goes F isO w C W C'/\Inv E.Γ F W C' σ'/\FrOk W C' E.N fr tmps/\ProtB w.heap.size W C'/\J pre σ')
  (fun _ _ _=>False) ?_ (fun c s W W' row h=>h.elim) ?_ (fun x=>⟨a1 x,[]⟩) hassign ?_ ?_ (fun D c pre W _ _ h=>h.elim))
 ·intro pre W W' row ⟨hsz,C',σ',h1,h2,h3,h4,h5⟩ hgr hrow
  exact⟨Nat.le_trans hsz hgr.size,C',σ',Goes.rowed hgr hrow h1 hsz (Nat.le_refl _) hFb hi.prot,Inv.rowed hgr hrow h2 hsz h4 (hJ _ _ h5),h3.ext (Ext.rowed hgr hrow hsz h4),ProtB.rowed hgr hrow hsz h4,h5⟩
 ·exact⟨Nat.le_refl _,trimB w.heap.size w C,σ,(Goes.refl F isO w C).trimB hi.prot,hi.trimB _ (hJ _ _ hj0) hgl,hf.trm (Q66 _ _ _),Q74 _ _ _,hj0⟩
 ·intro l pre x W ⟨hsz,C',σ',h1,h2,h3,h4,h5⟩ hlt
  refine wpIn_mono (hbody l pre x W C' σ' hlt h1 (h2.intoRound (hJ _ _ h5)) h3 h5) fun e a W' ⟨hd,fr',σ'',C'',g1,g2,g3,he,hj⟩=>?_
  subst he
  have hF2:FrOk W' C'' E.N fr tmps:=⟨h3.1,fun k x hk=>let ⟨u,hu,hr⟩:=h3.2 k x hk;⟨u,hu,RF.chg g1.chg x u (hfi k x hk) hr⟩⟩
  have hB2:∀a,C'.prot a->a.block < W.heap.size:=h2.prot
  have g4:=g2.outOfRound (hJ _ _ hj)
  refine⟨g1.keepsFrom _,⟨g1.keepsWalks,fun a ha=>g1.chg.cell a (h1.chg.prot a ha)⟩,Nat.le_trans hsz g1.stp.size,trimB w.heap.size W' C'',σ'',(h1.trans g1.outOfRound).trimB hi.prot,g4.trimB _ (hJ _ _ hj) hgl,hF2.trm (Q66 _ _ _),Q74 _ _ _,hj⟩
 ·intro D xs W hD hS ⟨hsz,C',σ',h1,h2,h3,h4,h5⟩ hmk
  exact hdone D xs W C' σ' hD hS (hgo.trans h1) h2 h3 h5 hmk
end Go.Abs
namespace Go.Abs
def Owes (Γ:List (Nat×List AC))(F:Nat->Prop)(w:World)(C:Ctx)(Q:FV->Outer->Prop):Ending->World->Prop:=fun e w'=>
 ∃v r ou' C',e=.returned v/\Goes F isO w C w' C'/\C'.nl=0/\Inv Γ F w' C' ⟨0,[],ou'⟩/\RF w' C' r v/\Q r ou'
theorem Qg1{P:Program}{T:Tab}{Γ:List (Nat×List AC)}{N n D:Nat}{fn:Func}{ds:List Deferred}{Q:FV->Outer->Prop}{F:Nat->Prop}{w w3:World}{C C3:Ctx}{ou:Outer}{fr3:Fr}{σ3:St}{tmps:Array Value}(hT:TabOk P T)(h0:C.nl=0)(hi:Inv Γ F w C ⟨0,[],ou⟩)
  (hgo:Goes F isO w C w3 C3) (hi3:Inv Γ F w3 C3 σ3) (hf3:FrOk w3 C3 N fr3 tmps) (hfin:Fin ⟨P,T,Γ,N,ds⟩ fn Q fr3 σ3) (hpl:Q3u σ3) (hD:w.heap.size<=D) (hm:w3.heap[D]?=some (.deferred (some []))):
  LeavesInM Fence.wide n P fn tmps (Owes Γ F w C Q) [{ target:=.collected D,args:=#[] }] .returning w3:=by
 have hDl:D < w3.heap.size:=Q0m hm
 have hgr:=grownBy_putObj' w3 D (.deferred none)
 have hrow:∀r,some D=some r->D<=r/\∃o:Obj,w3.heap[r]?=some o/\o.isCells=false:=fun r e=>by cases e;exact⟨Nat.le_refl _,_,hm,rfl⟩
 have hgl:∀g cs,(g,cs)∈Γ->g < D:=fun g cs h=>Nat.lt_of_lt_of_le (hi.prot _ (hi.glob g cs h).pr) hD
 have hp0:∀a,C.prot a->a.block < D:=fun a ha=>Nat.lt_of_lt_of_le (hi.prot a ha) hD
 have hi4:=hi3.trimB D hpl hgl
 have hg4:=hgo.trimB (B:=D) hp0
 have hf4:=hf3.trm (Q66 D w3 C3)
 have hp4:=Q74 D w3 C3
 have hi5:=Inv.rowed hgr hrow hi4 (Nat.le_of_lt hDl) hp4 hpl
 have hg5:=Goes.rowed hgr hrow hg4 (Nat.le_of_lt hDl) hD (fun k hk=>Nat.lt_of_lt_of_le (hi.base k hk) hD) hp0
 have hf5:=hf4.ext (Ext.rowed hgr hrow (Nat.le_of_lt hDl) hp4)
 refine⟨by simp,.inl ⟨D,_,rfl,run_takeDeferred hm,?_⟩⟩
 exact Qik hT h0 hi hg5 hi5 hf5 hfin
theorem AFn.ofMarks{P:Program}{Γ:List (Nat×List AC)}{g:Nat}{fn:Func}{c:Code}{args:List FV}{ou:Outer}{Q:FV->Outer->Prop}(hf:P.funcs[g]?=some fn)(hb:fn.body=some c)(hname:(fn.name == "runtime.NumGoroutine")=false)
  (hlen : args.length <= fn.ntmps)
  (h : OuOk ou -> ∀ (F : Nat -> Prop) (w : World) (C : Ctx) (tmps : Array Value), C.nl = 0 -> Inv Γ F w C ⟨0, [], ou⟩ -> FrOk w C fn.ntmps (argFr 0 args) tmps -> c.wp P (bodyPostM Fence.wide 0 P fn (Owes Γ F w C Q)) ⟨tmps, []⟩ w) : AFn P Γ g args ou Q := by
 refine⟨fun vs0 w=>?_,fun F w C cargs h0 hi hr=>?_⟩
 ·simp[callFunc,hf,hb]
  simpa using hname
 ·have hcl:cargs.length=args.length:=by
   have:∀(vs:List FV) (xs:List Value),RFs w C vs xs->xs.length=vs.length:=by
    intro vs
    induction vs with
    |nil=>intro xs h;simp only[RFs]at h;simp[h]
    |cons v vs ih=>intro xs h;simp only[RFs]at h;obtain⟨u,us,rfl,_,h2⟩:=h;simp[ih us h2]
   exact this _ _ hr
  have hfr:FrOk w C fn.ntmps (argFr 0 args) (cargs.toArray++Array.replicate (fn.ntmps - cargs.toArray.size) undef):=by
   refine⟨by simp;omega,fun k x hk=>?_⟩
   obtain⟨_,h2⟩:=Q5d args 0 k x hk
   simp only[Nat.sub_zero]at h2
   obtain⟨u,hu,hru⟩:=RFs.get hr h2
   refine⟨u,?_,hru⟩
   have hlt:k < cargs.length:=(List.getElem?_eq_some_iff.1 hu).1
   rw[Array.getElem?_append_left (by simpa using hlt)]
   simpa using hu
  exact callsIn_wide.1 (callsIn_of_wp_marks (n:=0) hf hb trivial (wpIn_wide.2 (h (OuOk.of_inv hi h0) F w C _ h0 hi hfr)))
theorem Qjz{E:Env}{D:Nat}{fn:Func}{c:Code}{Q:FV->Outer->Prop}{F:Nat->Prop}{w W:World}{C C':Ctx}{ou:Outer}{fr:Fr}{σ:St}{tmps:Array Value}{R:Exit->Act->World->Prop}(hT:TabOk E.P E.T)(h0:C.nl=0)(hi:Inv E.Γ F w C ⟨0,[],ou⟩)
  (hD:w.heap.size<=D) (hgo:Goes F isO w C W C') (hiW:Inv E.Γ F W C' σ) (hpl:Q3u σ) (hf:FrOk W C' E.N fr tmps) (hm:W.heap[D]?=some (.deferred (some [])))
  (hR:∀a w',bodyPostM Fence.wide 0 E.P fn (Owes E.Γ F w C Q) .ret a w'->R .ret a w')
  (h:∀ds,ACode { E with ds:=ds } c (Q03 { E with ds:=ds } (fun fr σ=>Fin { E with ds:=ds } fn Q fr σ/\Q3u σ) [.inv fun _ _=>False]) fr σ):c.wp E.P R ⟨tmps,[{ target:=.collected D,args:=#[] }]⟩ W:=by
 have hiF:Inv E.Γ (fun k=>F k∨k=D) W C' σ:=by
  refine hiW.keepF (fun k hk=>hk.elim (hiW.base k) fun e=>e▸Q0m hm) fun i o g h hb hF=>?_
  obtain⟨⟨o',ho',hc'⟩,hn⟩:=hiW.blockCells hpl h hb
  rcases hF with hF|rfl
  ·exact hn hF
  ·rw[ho']at hm;cases hm;cases hc'
 refine wp_mono (h [{ target:=.collected D,args:=#[] }] (fun k=>F k∨k=D) W C' W C' tmps (Goes.refl _ _ _ _) hiF hf) fun e a w3 hp=>?_
 obtain⟨hd,fr3,σ3,C3,hg3,hi3,hf3,hk⟩:=hp
 obtain⟨rfl,hfin,hpl3⟩:e=.ret/\Fin { E with ds:=[{ target:=.collected D,args:=#[] }] } fn Q fr3 σ3/\Q3u σ3:=by
  cases e with
  |ret=>exact⟨rfl,hk⟩
  |_=>exact (hk:False).elim
 refine hR a w3 ?_
 have hg3':Goes F isO W C' w3 C3:=⟨hg3.stp.mono fun k hk=>.inl hk,hg3.chg,hg3.no,fun a ha=>(hg3.newp a ha).imp id fun hn hF=>hn (.inl hF)⟩
 have hi3':Inv E.Γ F w3 C3 σ3:=hi3.keepF (fun k hk=>hi3.base k (.inl hk)) fun i o g h hb hF=>(hi3.blockCells hpl3 h hb).2 (.inl hF)
 show LeavesInM Fence.wide 0 E.P fn a.tmps (Owes E.Γ F w C Q) a.defers .returning w3
 rw[hd]
 exact Qg1 hT h0 hi (hgo.trans hg3') hi3' hf3 hfin hpl3 hD ((hg3.stp.block D (.inr rfl)).trans hm)
end Go.Abs
namespace Go.Abs
def XCode (E:Env)(F:Nat->Prop)(w0:World)(C0:Ctx)(Z:Exit->Act->World->Prop)(c:Code)(fr:Fr)(σ:St):Prop:=
 ∀(w:World) (C:Ctx) (tmps:Array Value),Goes F isO w0 C0 w C->Inv E.Γ F w C σ->FrOk w C E.N fr tmps->c.wp E.P Z ⟨tmps,E.ds⟩ w
def noFin:Fr->St->Prop:=fun _ _=>False
section
variable {E:Env}{F:Nat->Prop}{w0:World}{C0:Ctx}{Z:Exit->Act->World->Prop}{fr:Fr}{σ:St}
theorem XCode.seq{x y:Code}(h:ACode E x (Q03 E noFin [.inv fun fr σ=>XCode E F w0 C0 Z y fr σ]) fr σ):XCode E F w0 C0 Z (.seq x y) fr σ:=fun w C tmps hg hi hf=>by
 refine wp_seq (wp_mono (h F w0 C0 w C tmps hg hi hf) fun e a w' hp=>?_)
 obtain⟨hd,fr',σ',C',hg',hi',hf',hk⟩:=hp
 cases e with
 |normal=>
  have:a=⟨a.tmps,E.ds⟩:=by cases a;simp_all
  rw[this]
  exact hk w' C' a.tmps hg' hi' hf'
 |_=>exact (hk:False).elim
theorem XCode.block{id:Nat}{c:Code}(h:XCode E F w0 C0 (Exit.inBlock id Z) c fr σ):XCode E F w0 C0 Z (.block id c) fr σ:=fun w C tmps hg hi hf=>wp_block (h w C tmps hg hi hf)
theorem XCode.condT{c:Operand}{x y:Code}(hc:aEval E.Γ fr c=some (.one (.lit (.bool true))))(h:XCode E F w0 C0 Z x fr σ):XCode E F w0 C0 Z (.cond c x y) fr σ:=fun w C tmps hg hi hf=>by
 have hr:=Q01 (a:=⟨tmps,E.ds⟩) hi hf hc
 simp only[RF,R]at hr
 exact wp_cond_true hr.1 (h w C tmps hg hi hf)
theorem XCode.condF{c:Operand}{x y:Code}(hc:aEval E.Γ fr c=some (.one (.lit (.bool false))))(h:XCode E F w0 C0 Z y fr σ):XCode E F w0 C0 Z (.cond c x y) fr σ:=fun w C tmps hg hi hf=>by
 have hr:=Q01 (a:=⟨tmps,E.ds⟩) hi hf hc
 simp only[RF,R]at hr
 exact wp_cond_false hr.1 (h w C tmps hg hi hf)
theorem XCode.lessR{c:Code}{fr':Fr}{σ':St}{ρ:Nat->Nat}(hΓ:∀g cs,(g,cs)∈E.Γ->idsL isO cs)(hl:LessR ρ fr σ fr' σ')(h:XCode E F w0 C0 Z c fr' σ'):XCode E F w0 C0 Z c fr σ:=fun w C tmps hg hi hf=>by
 obtain⟨C',h1,h2,h3⟩:=hl.run hΓ hi hf
 exact h w C' tmps (hg.trans h1) h2 h3
theorem XCode.seqR{x y:Code}(h:XCode E F w0 C0 (Exit.then (y.wp E.P Z) Z) x fr σ):XCode E F w0 C0 Z (.seq x y) fr σ:=fun w C tmps hg hi hf=>wp_seq (h w C tmps hg hi hf)
end
theorem AFn.walkM{P:Program}{T:Tab}{Γ:List (Nat×List AC)}{g:Nat}{fn:Func}{c:Code}{args:List FV}{ou:Outer}{Q:FV->Outer->Prop}(N:Nat)(hT:TabOk P T)(hf:P.funcs[g]?=some fn)(hb:fn.body=some c)(hname:(fn.name == "runtime.NumGoroutine")=false)
  (hN:fn.ntmps=N) (hlen:Nat.ble args.length N=true) (h:OuOk ou->∀(F:Nat->Prop) (w:World) (C:Ctx),C.nl=0->Inv Γ F w C ⟨0,[],ou⟩->XCode ⟨P,T,Γ,N,[]⟩ F w C (bodyPostM Fence.wide 0 P fn (Owes Γ F w C Q)) c (argFr 0 args) ⟨0,[],ou⟩):AFn P Γ g args ou Q:=by
 subst hN
 exact AFn.ofMarks hf hb hname (Nat.le_of_ble_eq_true hlen) fun hou F w C tmps h0 hi hfr=>h hou F w C h0 hi w C tmps (Goes.refl _ _ _ _) hi hfr
end Go.Abs
namespace Go.Abs
theorem wpIn_assign{P:Program}{o:Oper}{x:Operand}{id l n d:Nat}{t:Array Value}{W:World}{K:Act->World->Prop}(ho:o.op=.assign x)(hg:o.guard=none)(hd:o.dst=some d)(h:K ⟨t.setIfInBounds d (Act.eval ⟨t,[]⟩ x),[]⟩ W):
  (Code.region id #[o] false).wpIn (Q41 l) n P (Exit.then K (fun _ _ _=>False)) ⟨t,[]⟩ W:=by
 refine wpIn_region_lit (l:=[o]) (Q4s ?_ _ _ _ ?_ ?_)
 ·rintro⟨a,w,h⟩;exact h
 ·simp[ho]
 ·refine wpList_plain hg fun N' hN=>?_
  unfold Oper.wp
  rw[show (execOp (Act.eval ⟨t,[]⟩) o).run P W=.ok (.value (Act.eval ⟨t,[]⟩ x)) W from by unfold execOp;simp[ho]]
  rw[Oper.upon_value]
  refine hN _ _ ?_
  rw[hd]
  exact h
theorem RS.ones{w:World}{C:Ctx}:∀{l:List (List AC)}{b off:Nat},RS w C 1 l ⟨b,off,none⟩->∃zs:List Value,zs.length=l.length/\∀j c,l[j]?=some [c]->w.cell? ⟨b,off+j,none⟩=some (zs.getD j undef)/\C.prot ⟨b,off+j,none⟩/\R w C c (zs.getD j undef)
 |[],b,off,_=>⟨[],rfl,fun j c h=>by simp at h⟩
 |e::es,b,off,h=>by
  simp only[RS]at h
  obtain⟨h1,h2,h3⟩:=h
  obtain⟨c,rfl⟩:∃c,e=[c]:=by
   match e,h1 with
   |[c],_=>exact⟨c,rfl⟩
  simp only[RL]at h2
  obtain⟨⟨u,hu,hp,hr⟩,_⟩:=h2
  obtain⟨zs,hz,hzs⟩:=RS.ones (l:=es) h3
  refine⟨u::zs,by simp[hz],fun j c' hj=>?_⟩
  cases j with
  |zero=>cases hj;exact⟨hu,hp,hr⟩
  |succ j=>
   have:=hzs j c' (by simpa using hj)
   rw[show off+(j+1)=off+1+j by omega]
   simpa using this
theorem RF.boxSl{w:World}{C:Ctx}{f:Fn}{l:List (List AC)}{u:Value}(h:RF w C (.one (.fn f [] [.box [.sl 1 l]])) u):∃Bs ob a cap,u=.func f #[] #[.pointer (some ⟨Bs,ob,none⟩)]/\C.prot ⟨Bs,ob,none⟩/\w.cell? ⟨Bs,ob,none⟩=some (.slice a l.length cap)/\
  ∃zs:List Value,(l.length=0∨∃b off,a=some ⟨b,off,none⟩/\∀j c,l[j]?=some [c]->w.cell? ⟨b,off+j,none⟩=some (zs.getD j undef)/\C.prot ⟨b,off+j,none⟩/\R w C c (zs.getD j undef)):=by
 simp only[RF,R,RV,RL]at h
 obtain⟨xs,ys,rfl,rfl,u,us,rfl,⟨ad,rfl,hs,⟨u',hu',hp,a,cap,rfl,hc,h4⟩,_⟩,rfl⟩:=h
 obtain⟨Bs,ob,sp⟩:=ad
 simp only at hs
 subst hs
 refine⟨Bs,ob,a,cap,rfl,hp,hu',?_⟩
 rcases h4 with h4|⟨ad,rfl,hs,h4⟩
 ·exact⟨[],.inl (by simp[h4])⟩
 ·obtain⟨b,off,sp⟩:=ad
  simp only at hs
  subst hs
  obtain⟨zs,_,hz⟩:=RS.ones h4
  exact⟨zs,.inr ⟨b,off,rfl,hz⟩⟩
theorem Qo9{P:Program}{g:Nat}{fn:Func}{c:Code}(hf:P.funcs[g]?=some fn)(hb:fn.body=some c)(hname:(fn.name == "runtime.NumGoroutine")=false)(args:Array Value)(w:World):(callFunc g args).run P w=.ok (.enter g args) w:=by
 simp[callFunc,hf,hb]
 simpa using hname
end Go.Abs
namespace Go.CoreX
structure Alt where
 tag:Int
 binds:List Int
 deriving DecidableEq
structure Ex where
 op:Int
 n:Int
 binds:List Int
 kids:List Int
 alts:List Alt
 deriving DecidableEq
inductive Tr where
 |mk (op n:Int) (binds:List Int) (kids:List Tr) (alts:List Alt)
instance:Inhabited Tr:=⟨.mk 0 0 [] [] []⟩
def Tr.op:Tr->Int|.mk o _ _ _ _=>o
def Tr.n:Tr->Int|.mk _ n _ _ _=>n
def Tr.binds:Tr->List Int|.mk _ _ b _ _=>b
def Tr.kids:Tr->List Tr|.mk _ _ _ k _=>k
def Tr.alts:Tr->List Alt|.mk _ _ _ _ a=>a
@[simp] theorem Tr.op_mk (o n b k a):(Tr.mk o n b k a).op=o:=rfl
@[simp] theorem Tr.n_mk (o n b k a):(Tr.mk o n b k a).n=n:=rfl
@[simp] theorem Tr.binds_mk (o n b k a):(Tr.mk o n b k a).binds=b:=rfl
@[simp] theorem Tr.kids_mk (o n b k a):(Tr.mk o n b k a).kids=k:=rfl
@[simp] theorem Tr.alts_mk (o n b k a):(Tr.mk o n b k a).alts=a:=rfl

def Q1m (ts:List Tr)(x:Ex):Tr:=.mk x.op x.n x.binds (x.kids.map fun k=>ts.getD k.toNat default) x.alts
def Q4f (ts:List Tr)(x:Ex):List Tr:=ts++[Q1m ts x]
def growL (e:List Ex):List Tr:=e.foldl Q4f []
def grow (e:List Ex):Tr:=(growL e).getD (e.length - 1) default

mutual
def listT (out:List Ex):Tr->List Ex
 |.mk o n b k a=>(Q02 out k).1++[⟨o,n,b,(Q02 out k).2,a⟩]
def Q02 (out:List Ex):List Tr->List Ex×List Int
 |[]=>(out,[])
 |t::ts=>((Q02 (listT out t) ts).1,(((listT out t).length:Int) - 1)::(Q02 (listT out t) ts).2)
end

def Q08 (op:Int)(binds:List Int)(alts:List Alt):List Int:=(if op=2∨op=4∨op=5 then binds else [])++alts.flatMap (·.binds)
def Q1p (op:Int)(binds:List Int)(alts:List Alt)(k:Int):List Int:=
 if op=2∨op=5∨(op=4/\k=1)then binds else if 0 < (alts.length:Int)/\0 < k/\k<=alts.length then (alts.getD (k - 1).toNat ⟨0,[]⟩).binds else []

def Q1g (i:Nat)(s:Option (List Int×List Int))(k:Int):Option (List Int×List Int):=
 s.bind fun dp=>if k < 0∨(i:Int)<=k then none else some (dp.1.set i (if dp.1.getD k.toNat 0 > dp.1.getD i 0 then dp.1.getD k.toNat 0 else dp.1.getD i 0),dp.2.set k.toNat (dp.2.getD k.toNat 0+1))
def Q1u (s:Option (List Int×List Int))(x:Ex×Nat):Option (List Int×List Int):=
 (x.1.kids.foldl (Q1g x.2) s).map fun dp=>(dp.1.set x.2 (dp.1.getD x.2 0+1),dp.2)
def Q4w (e:List Ex):Option (List Int×List Int):=e.zipIdx.foldl Q1u (some (List.replicate e.length 0,List.replicate e.length 0))
def Q28 (n:Nat)(p:List Int)(i:Nat):Bool:=!((p.getD i 0==1)==decide ((i:Int) < n - 1))
def Q1q (e:List Ex):Int:=
 if 4096 < e.length then 2 else if e.length=0 then 3 else
 match Q4w e with
 |none=>3
 |some (d,p)=>if (List.range e.length).any (Q28 e.length p)=true then 3 else if 400 < d.getD (e.length - 1) 0 then 2 else 0

def between (n low high:Int):Bool:=decide (low<=n)&&decide (n<=high)
def Q4j (op:Int):Bool:=op==14||op==15||op==16
def Q5j (op:Int):Bool:=op==2||op==5||op==12||op==13
def Q4r (x:Ex)(i:Nat)(a:Alt):Bool:=
 ((x.alts.take i).any (fun b=>b.tag==a.tag)||decide (a.tag < -1)) ||
 (x.op==7&&a.tag==-1&&(decide ((i:Int) < x.alts.length - 1)||decide (0 < a.binds.length))) ||
 ((x.op==13&&!(((i:Int)==0)==(a.tag==-1)))||(x.op==13&&!((a.binds.length:Int)==(if 2 < (i:Int)+1 then 2 else (i:Int)+1))))
def Q5p (x:Ex):Bool:=!(x.alts.zipIdx.any fun ai=>Q4r x ai.2 ai.1)&&((x.kids.length:Int)==1+x.alts.length&&(x.op==7||decide (0 < x.alts.length)))
def Q5c:List Int:=[2,2,2,2,2,2,2,1,2,1,2,3]
def wants (x:Ex):Option (Int×Int×Bool):=
 if x.op=0∨x.op=1∨x.op=17 then some (0,0,true) else
 if x.op=2 then some (1,x.binds.length,false) else
 if x.op=3 then some (if (x.kids.length:Int) > 1 then x.kids.length else 1,0,false) else
 if x.op=4 then some (2,1,false) else
 if x.op=5 then some (x.binds.length+1,if (x.binds.length:Int) > 1 then x.binds.length else 1,false) else
 if x.op=6 then some (x.kids.length,0,true) else
 if x.op=8 then (if between x.n 0 11=true then some (Q5c.getD x.n.toNat 0,0,true)else none) else
 if x.op=9 then some (x.binds.length,x.binds.length,false) else
 if x.op=10∨x.op=12 then some (1,0,true) else
 if x.op=11 then some (2,0,true) else
 if x.op=14∨x.op=15 then some (x.kids.length,0,true) else
 if x.op=16 then some (1,0,true)else none
def shape (x:Ex):Bool:=
 if x.op=7∨x.op=13 then Q5p x&&x.binds.length==0&&x.n==0 else
 match wants x with
 |none=>false
 |some (k,b,u)=>(x.kids.length:Int)==k&&(x.binds.length:Int)==b&&x.alts.length==0&&(u||x.n==0)
def lowN (op:Int):Int:=if op=1 then -1073741824 else if op=17 then 1 else 0
def highN (op:Int):Int:=if op=1 then 1073741823 else if op=6 then 255 else if op=17 then 6 else if op=16 then 15 else 1048575
def Q2s (n:Int):Bool:=between n 0 1048575
def Q36 (op:Int)(a:Alt):Bool:=!((decide (255 < a.tag)&&op==7)||decide (1048576<=a.tag))&&a.binds.all Q2s
def fields (x:Ex):Int:=x.alts.foldl (fun f a=>if (a.binds.length:Int) > f then a.binds.length else f) x.binds.length
def ranges (x:Ex):Int:=
 if between x.n (lowN x.op) (highN x.op)=false then 4 else
 if x.binds.all Q2s=false then 4 else
 if x.alts.all (Q36 x.op)=false then 4 else
 if ((decide (fields x > (if x.op=2 then 6 else 16))||((x.op==6||x.op==15)&&decide (16 < (x.kids.length:Int))))||(x.op==3&&decide (7 < (x.kids.length:Int))))||(x.op==14&&decide (6 < (x.kids.length:Int)))then 2 else 0
def Q14 (e:List Ex)(x:Ex)(i:Nat):Bool:=
 (x.op==5&&!((e.getD (x.kids.getD i 0).toNat ⟨0,0,[],[],[]⟩).op==2))||(x.op==9&&decide (0 < i)&&decide (x.binds.getD (i - 1) 0 ≥ x.binds.getD i 0))
def Q1b (e:List Ex)(x:Ex):Int:=
 if shape x=false then 3 else if ranges x≠0 then ranges x else if (List.range x.binds.length).any (Q14 e x)=true then 3 else 0
def Q0g (flat:Bool)(e:List Ex)(x:Ex):Int:=if (flat&&Q5j x.op)||(!flat&&Q4j x.op)then 3 else Q1b e x
def Q1i {α:Type}(f:α->Int):List α->Int
 |[]=>0
 |a::l=>if f a≠0 then f a else Q1i f l

def Q56:List Int->Bool
 |[]=>false
 |n::l=>l.contains n||Q56 l
def Q07 (x:Ex):List Int:=Q08 x.op x.binds x.alts
def Q04 (e:List Ex):List Int:=e.flatMap Q07

mutual
def occT (sc:List Int):Tr->List Int
 |.mk o n b k a=>(if o=0/\sc.contains n=false then [n]else [])++occTs sc o b a 0 k
def occTs (sc:List Int)(o:Int)(b:List Int)(a:List Alt):Nat->List Tr->List Int
 |_,[]=>[]
 |i,t::ts=>occT (Q1p o b a i++sc) t++occTs sc o b a (i+1) ts
end
def Q55 (n:Int):List Int->List Int
 |[]=>[n]
 |m::l=>if n < m then n::m::l else if n=m then m::l else m::Q55 n l
def sortS (l:List Int):List Int:=l.foldr Q55 []
def Q3h (t:Tr):List Int:=sortS (occT [] t)

def body (e:List Ex)(params:List Int)(flat:Bool):Int:=
 if Q1q e≠0 then Q1q e else
 if Q1i (Q0g flat e) e≠0 then Q1i (Q0g flat e) e else
 if Q56 (params++Q04 e)=true then 7 else
 if (Q3h (grow e)).all (fun n=>params.contains n)=true then 0 else 6
def check (e:List Ex):Int:=body e [] false
end Go.CoreX
namespace Go.CoreX
structure Lab where
 op:Int
 n:Int
 binds:List Int
 ops:List Int
 alts:List Alt
 deriving DecidableEq
mutual
def sumT (g:Lab->Int):Tr->Int
 |.mk o n b k a=>g ⟨o,n,b,k.map Tr.op,a⟩+sumTs g k
def sumTs (g:Lab->Int):List Tr->Int
 |[]=>0
 |t::ts=>sumT g t+sumTs g ts
end
def mx (m d:Int):Int:=if d > m then d else m
mutual
def Q0v:Tr->Int
 |.mk _ _ _ k _=>(Q3j k).foldl mx 0+1
def Q3j:List Tr->List Int
 |[]=>[]
 |t::ts=>Q0v t::Q3j ts
end
theorem Q7q:∀l:List Tr,Q3j l=l.map Q0v
 |[]=>rfl
 |t::ts=>by simp[Q3j,Q7q ts]
theorem Q86(g:Lab->Int):∀l:List Tr,sumTs g l=(l.map (sumT g)).sum
 |[]=>rfl
 |t::ts=>by simp[sumTs,Q86 g ts]
theorem Q22(e:List Ex)(x:Ex):growL (e++[x])=growL e++[Q1m (growL e) x]:=by simp[growL,Q4f]
theorem Q6a{α:Type}{P:List α->Prop}(h0:P [])(h1:∀l x,P l->P (l++[x]))(l:List α):P l:=by
 have:∀l:List α,P l.reverse:=by
  intro l
  induction l with
  |nil=>exact h0
  |cons a l ih=>rw[List.reverse_cons];exact h1 _ _ ih
 simpa using this l.reverse
theorem Q0c(e:List Ex):(growL e).length=e.length:=by
 refine Q6a (P:=fun e=>(growL e).length=e.length) rfl (fun l x ih=>?_) e
 rw[Q22];simp[ih]
theorem Qm8(e l:List Ex):∃r,growL (e++l)=growL e++r:=by
 refine Q6a (P:=fun l=>∃r,growL (e++l)=growL e++r) ⟨[],by simp⟩ (fun l x ih=>?_) l
 obtain⟨r,h⟩:=ih
 exact⟨r++[Q1m (growL (e++l)) x],by rw[←List.append_assoc,Q22,h];simp⟩
theorem Q6n{α:Type}{l r:List α}{i:Nat}{d:α}(h:i < l.length):(l++r).getD i d=l.getD i d:=by
 simp[List.getD,List.getElem?_append_left h]
theorem Q57{e l:List Ex}{i:Nat}(h:i < e.length):(growL (e++l)).getD i default=(growL e).getD i default:=by
 obtain⟨r,hr⟩:=Qm8 e l
 rw[hr,Q6n (by rw[Q0c];exact h)]
theorem Q6m(e l:List Ex)(x:Ex):(growL (e++x::l)).getD e.length default=Q1m (growL e) x:=by
 rw[show e++x::l=(e++[x])++l by simp,Q57 (by simp),Q22]
 simp[List.getD,Q0c]
theorem Qm7(e:List Ex)(x:Ex):grow (e++[x])=Q1m (growL e) x:=by
 unfold grow
 have:=Q6m e [] x
 simpa using this
def cnt:List Ex->Nat->Nat
 |[],_=>0
 |x::e,i=>x.kids.count (i:Int)+cnt e i
theorem Qgk(e l:List Ex)(i:Nat):cnt (e++l) i=cnt e i+cnt l i:=by
 induction e with
 |nil=>simp[cnt]
 |cons x e ih=>simp[cnt,ih,Nat.add_assoc]
def Q0p (e:List Ex):Prop:=∀(j:Nat)(x:Ex),e[j]?=some x->∀k∈x.kids,0<=k/\k < (j:Int)
theorem Q2q{e:List Ex}{x:Ex}:Q0p (e++[x])↔Q0p e/\∀k∈x.kids,0<=k/\k < e.length:=by
 constructor
 ·intro h
  refine⟨fun j y hj=>h j y ?_,?_⟩
  ·rw[List.getElem?_append_left (List.getElem?_eq_some_iff.1 hj).1];exact hj
  ·exact h e.length x (by simp)
 ·intro ⟨h1,h2⟩ j y hj
  by_cases hl:j < e.length
  ·rw[List.getElem?_append_left hl]at hj;exact h1 j y hj
  ·rw[List.getElem?_append_right (by omega)]at hj
   have:j=e.length:=by
    have:=(List.getElem?_eq_some_iff.1 hj).1
    simp at this;omega
   subst this
   simp at hj;subst hj;exact h2
theorem Qb4{e l:List Ex}(h:Q0p (e++l)):Q0p e:=fun j y hj=>h j y (by
 rw[List.getElem?_append_left (List.getElem?_eq_some_iff.1 hj).1];exact hj)

structure Run (pre:List Ex)(N:Nat)(d p:List Int):Prop where
 dl:d.length=N
 pl:p.length=N
 pv:∀i,i < N->p.getD i 0=cnt pre i
 dv:∀i,i < pre.length->d.getD i 0=Q0v ((growL pre).getD i default)
 d0:∀i,pre.length<=i->d.getD i 0=0
theorem Q3q(i:Nat):∀ks:List Int,ks.foldl (Q1g i) none=none
 |[]=>rfl
 |k::ks=>by rw[List.foldl_cons];exact Q3q i ks
theorem Q4i{l:List Int}{i:Nat}{v:Int}(h:i < l.length):(l.set i v).getD i 0=v:=by simp[List.getD,h]
theorem getD_set_ne{l:List Int}{i j:Nat}{v:Int}(h:i≠j):(l.set i v).getD j 0=l.getD j 0:=by simp[List.getD,List.getElem?_set_ne h]
theorem Qnc{l:List Int}{i:Nat}(h:i < l.length):l.set i (l.getD i 0)=l:=by
 apply List.ext_getElem?
 intro j
 by_cases hj:i=j
 ·subst hj;simp[h,List.getD,List.getElem?_eq_getElem h]
 ·rw[List.getElem?_set_ne hj]
theorem Qi6{i N:Nat}:∀(ks:List Int)(d p:List Int),d.length=N->p.length=N->i < N->(∀k∈ks,0<=k/\k < i)->
  ∃p',ks.foldl (Q1g i) (some (d,p))=some (d.set i (ks.foldl (fun m k=>mx m (d.getD k.toNat 0)) (d.getD i 0)),p')/\p'.length=N/\∀j,j < N->p'.getD j 0=p.getD j 0+ks.count (j:Int)
 | [], d, p, hd, hp, hi, _ => ⟨p, by rw [List.foldl_nil, List.foldl_nil, Qnc (show i < d.length by omega)], hp, by simp⟩
 |k::ks,d,p,hd,hp,hi,hk=>by
  obtain⟨k0,k1⟩:=hk k (by simp)
  have hks:∀k∈ks,0<=k/\k < i:=fun y hy=>hk y (by simp[hy])
  obtain⟨p',h1,h2,h3⟩:=Qi6 ks (d.set i (mx (d.getD i 0) (d.getD k.toNat 0))) (p.set k.toNat (p.getD k.toNat 0+1)) (by simpa using hd) (by simpa using hp) hi hks
  refine⟨p',?_,h2,fun j hj=>?_⟩
  ·rw[List.foldl_cons]
   have e1:Q1g i (some (d,p)) k=some (d.set i (mx (d.getD i 0) (d.getD k.toNat 0)),p.set k.toNat (p.getD k.toNat 0+1)):=by
    simp only[Q1g,Option.bind_some,mx]
    rw[if_neg (by omega)]
   rw[e1,h1,List.set_set,Q4i (by omega),List.foldl_cons]
   congr 2
   have:∀(l:List Int) (m:Int),(∀k∈l,0<=k/\k < i)->l.foldl (fun m k'=>mx m ((d.set i (mx (d.getD i 0) (d.getD k.toNat 0))).getD k'.toNat 0)) m=l.foldl (fun m k'=>mx m (d.getD k'.toNat 0)) m:=by
    intro l
    induction l with
    |nil=>intro m _;rfl
    |cons y l ih=>
     intro m hl
     have hy:=hl y (by simp)
     simp only[List.foldl_cons]
     rw[getD_set_ne (by omega),ih _ (fun z hz=>hl z (by simp[hz]))]
   rw[this ks _ hks]
  ·rw[h3 j hj,List.count_cons]
   by_cases hkj:k.toNat=j
   ·subst hkj
    rw[Q4i (by omega)]
    have:(k==((k.toNat:Nat):Int))=true:=by simp;omega
    rw[if_pos this];omega
   ·rw[getD_set_ne hkj]
    have:¬(k==(j:Int))=true:=by simp;omega
    rw[if_neg this];omega
theorem Qi7{i N:Nat}:∀(ks:List Int)(d p:List Int),¬(∀k∈ks,0<=k/\k < i)->ks.foldl (Q1g i) (some (d,p))=none
 | [], d, p, h => absurd (by simp) h
 |k::ks,d,p,h=>by
  rw[List.foldl_cons]
  by_cases hk:0<=k/\k < i
  ·have e1:Q1g i (some (d,p)) k=some (d.set i (mx (d.getD i 0) (d.getD k.toNat 0)),p.set k.toNat (p.getD k.toNat 0+1)):=by
    simp only[Q1g,Option.bind_some,mx]
    rw[if_neg (by omega)]
   rw[e1]
   refine Qi7 (N:=N) ks _ _ fun h2=>h ?_
   intro y hy
   rcases List.mem_cons.1 hy with rfl|hy
   ·exact hk
   ·exact h2 y hy
  ·have e1:Q1g i (some (d,p)) k=none:=by
    simp only[Q1g,Option.bind_some]
    rw[if_pos (by omega)]
   rw[e1,Q3q]
theorem Qbb(f:Int->Int):∀(l:List Int)(m:Int),l.foldl (fun m k=>mx m (f k)) m=(l.map f).foldl mx m
 |[],_=>rfl
 |k::l,m=>by simp[Qbb f l]
theorem Qcu(ts:List Tr)(x:Ex):Q0v (Q1m ts x)=(x.kids.map fun k=>Q0v (ts.getD k.toNat default)).foldl mx 0+1:=by
 simp only[Q1m,Q0v,Q7q,List.map_map];rfl
theorem Run.step{pre:List Ex}{N:Nat}{d p:List Int}{x:Ex}(h:Run pre N d p)(hN:pre.length < N)(hk:∀k∈x.kids,0<=k/\k < pre.length):∃d' p',Q1u (some (d,p)) (x,pre.length)=some (d',p')/\Run (pre++[x]) N d' p':=by
 obtain⟨p',h1,h2,h3⟩:=Qi6 x.kids d p h.dl h.pl hN hk
 have hdl:=h.dl
 refine⟨_,p',by simp only[Q1u,h1,Option.map_some];rfl,by simpa using hdl,h2,fun i hi=>?_,fun i hi=>?_,fun i hi=>?_⟩
 ·rw[h3 i hi,h.pv i hi,Qgk];simp[cnt]
 ·rw[List.set_set]
  simp only[List.length_append,List.length_singleton]at hi
  by_cases e:pre.length=i
  ·subst e
   rw[Q4i (by omega),Q4i (by omega),Q6m pre [] x,Qcu,h.d0 _ (Nat.le_refl _),Qbb]
   congr 2
   refine List.map_congr_left fun k hk2=>?_
   have:=hk k hk2
   exact h.dv _ (by omega)
  ·rw[getD_set_ne e,Q57 (by omega),h.dv i (by omega)]
 ·simp only[List.length_append,List.length_singleton]at hi
  rw[List.set_set,getD_set_ne (by omega),h.d0 i (by omega)]
theorem Q6i(l:List (Ex×Nat)):l.foldl Q1u none=none:=by
 induction l with
 |nil=>rfl
 |cons x l ih=>
  have:Q1u none x=none:=by simp[Q1u,Q3q]
  rw[List.foldl_cons,this,ih]
theorem Qhc{N:Nat}:∀(l pre:List Ex)(d p:List Int),Run pre N d p->Q0p pre->pre.length+l.length=N ->
  (Q0p (pre ++ l) /\ ∃ d' p', (l.zipIdx pre.length).foldl Q1u (some (d, p)) = some (d', p') /\ Run (pre ++ l) N d' p') ∨ (¬ Q0p (pre ++ l) /\ (l.zipIdx pre.length).foldl Q1u (some (d, p)) = none)
 |[],pre,d,p,h,hk,_=>.inl ⟨by simpa using hk,d,p,rfl,by simpa using h⟩
 |x::l,pre,d,p,h,hk,hN=>by
  rw[List.zipIdx_cons,List.foldl_cons]
  simp only[List.length_cons]at hN
  by_cases hx:∀k∈x.kids,0<=k/\k < pre.length
  ·obtain⟨d1,p1,e1,h1⟩:=h.step (by omega) hx
   rw[e1]
   have:=Qhc l (pre++[x]) d1 p1 h1 (Q2q.2 ⟨hk,hx⟩) (by simp;omega)
   simpa[List.append_assoc]using this
  ·right
   have e1:Q1u (some (d,p)) (x,pre.length)=none:=by simp only[Q1u,Qi7 (N:=N) x.kids d p hx,Option.map_none]
   rw[e1,Q6i]
   refine⟨fun h2=>hx ?_,rfl⟩
   exact h2 pre.length x (by simp)
theorem Qdf(e:List Ex):(Q0p e/\∃d p,Q4w e=some (d,p)/\Run e e.length d p)∨(¬Q0p e/\Q4w e=none):=by
 have h0:Run [] e.length (List.replicate e.length 0) (List.replicate e.length 0):=by
  have z:∀i,(List.replicate e.length (0:Int)).getD i 0=0:=fun i=>by
   simp only[List.getD]
   rw[List.getElem?_replicate];split <;> rfl
  exact⟨by simp,by simp,fun i _=>by rw[z];rfl,fun i hi=>by simp at hi,fun i _=>z i⟩
 have:=Qhc e [] _ _ h0 (fun j x hj=>by simp at hj) (by simp)
 simpa[Q4w]using this
structure IsTree (e:List Ex):Prop where
 ne:e≠[]
 k:Q0p e
 c:∀i,i < e.length->(cnt e i=1↔i+1 < e.length)
theorem Q1f(e:List Ex):Q1q e=0↔e.length<=4096/\IsTree e/\Q0v (grow e)<=400:=by
 unfold Q1q
 by_cases h1:4096 < e.length
 ·rw[if_pos h1];exact⟨fun h=>absurd h (by decide),fun h=>by omega⟩
 rw[if_neg h1]
 by_cases h2:e.length=0
 ·rw[if_pos h2]
  exact⟨fun h=>absurd h (by decide),fun h=>absurd (List.length_eq_zero_iff.1 h2) h.2.1.ne⟩
 rw[if_neg h2]
 rcases Qdf e with ⟨hk,d,p,h3,hr⟩|⟨hk,h3⟩
 ·rw[h3]
  have hd:d.getD (e.length - 1) 0=Q0v (grow e):=hr.dv _ (by omega)
  have hodd:(List.range e.length).any (Q28 e.length p)=true↔¬∀i,i < e.length->(cnt e i=1↔i+1 < e.length):=by
   rw[List.any_eq_true]
   constructor
   ·rintro⟨i,hi,hb⟩ h
    have hi':i < e.length:=by simpa using hi
    have:=h i hi'
    have hc:=hr.pv i hi'
    simp only[Q28,Bool.not_eq_true',beq_eq_false_iff_ne,ne_eq]at hb
    apply hb
    rw[Bool.eq_iff_iff,beq_iff_eq,decide_eq_true_iff,hc]
    omega
   ·intro h
    simp only[Classical.not_forall]at h
    obtain⟨i,hi,hne⟩:=h
    refine⟨i,by simpa using hi,?_⟩
    have hc:=hr.pv i hi
    simp only[Q28,Bool.not_eq_true',beq_eq_false_iff_ne,ne_eq]
    intro hb
    rw[Bool.eq_iff_iff,beq_iff_eq,decide_eq_true_iff,hc]at hb
    apply hne
    omega
  simp only
  by_cases h4:(List.range e.length).any (Q28 e.length p)=true
  ·rw[if_pos h4]
   exact⟨fun h=>absurd h (by decide),fun h=>absurd h.2.1.c (hodd.1 h4)⟩
  ·rw[if_neg h4,hd]
   have hc:∀i,i < e.length->(cnt e i=1↔i+1 < e.length):=by
    apply Classical.byContradiction
    intro hn
    exact h4 (hodd.2 hn)
   by_cases h5:400 < Q0v (grow e)
   ·rw[if_pos h5];exact⟨fun h=>absurd h (by decide),fun h=>by omega⟩
   ·rw[if_neg h5]
    exact⟨fun _=>⟨by omega,⟨fun h=>h2 (by simp[h]),hk,hc⟩,by omega⟩,fun _=>rfl⟩
 ·rw[h3]
  simp only
  exact⟨fun h=>absurd h (by decide),fun h=>absurd h.2.1.k hk⟩

def wsum (c:Nat->Int):Nat->List Int->Int
 |_,[]=>0
 |j,v::vs=>c j * v+wsum c (j+1) vs
theorem Qbu(c:Nat->Int):∀(vs us:List Int)(j:Nat),wsum c j (vs++us)=wsum c j vs+wsum c (j+vs.length) us
 |[],us,j=>by simp[wsum]
 |v::vs,us,j=>by
  simp only[List.cons_append,wsum,Qbu c vs us,List.length_cons]
  rw[show j+1+vs.length=j+(vs.length+1) by omega];omega
theorem Q6z{c c':Nat->Int}:∀(vs:List Int)(j:Nat),(∀i,j<=i->i < j+vs.length->c i=c' i)->wsum c j vs=wsum c' j vs
 |[],_,_=>rfl
 |v::vs,j,h=>by
  simp only[wsum]
  rw[h j (by omega) (by simp),Q6z vs (j+1) (fun i h1 h2=>h i (by omega) (by simp;omega))]
theorem Qgw(c c':Nat->Int):∀(vs:List Int)(j:Nat),wsum (fun i=>c i - c' i) j vs=wsum c j vs - wsum c' j vs
 |[],_=>by simp[wsum]
 |v::vs,j=>by
  simp only[wsum,Qgw c c' vs,Int.sub_mul];omega
theorem Qgy(c c':Nat->Int):∀(vs:List Int)(j:Nat),wsum (fun i=>c i+c' i) j vs=wsum c j vs+wsum c' j vs
 |[],_=>by simp[wsum]
 |v::vs,j=>by
  simp only[wsum,Qgy c c' vs,Int.add_mul];omega
theorem Q62{c:Nat->Int}:∀(vs:List Int)(j:Nat),(∀i,j<=i->i < j+vs.length->c i=0)->wsum c j vs=0
 |[],_,_=>rfl
 |v::vs,j,h=>by
  simp only[wsum]
  rw[h j (by omega) (by simp),Q62 vs (j+1) (fun i h1 h2=>h i (by omega) (by simp;omega))];omega
theorem Qgx(k:Int):∀(vs:List Int)(j:Nat),(j:Int)<=k->k < j+vs.length->wsum (fun i=>if k=(i:Int)then 1 else 0) j vs=vs.getD (k.toNat - j) 0
 |[],j,h1,h2=>by simp at h2;omega
 |v::vs,j,h1,h2=>by
  simp only[wsum]
  by_cases e:k=j
  ·subst e
   rw[Q62 vs (j+1) (fun i h3 h4=>if_neg (by omega))]
   simp[List.getD]
  ·rw[if_neg e,Qgx k vs (j+1) (by omega) (by simp at h2;omega)]
   rw[show k.toNat - j=(k.toNat - (j+1))+1 by omega]
   simp[List.getD]
theorem Qaf(vs:List Int):∀ks:List Int,(∀k∈ks,0<=k/\k < vs.length)->wsum (fun i=>((ks.count (i:Int):Nat):Int)) 0 vs=(ks.map fun k=>vs.getD k.toNat 0).sum
 |[],_=>by simp;exact Q62 vs 0 (fun _ _ _=>by simp)
 |k::ks,h=>by
  have hk:=h k (by simp)
  have e:wsum (fun i=>(((k::ks).count (i:Int):Nat):Int)) 0 vs=wsum (fun i=>(if k=(i:Int)then 1 else 0)+((ks.count (i:Int):Nat):Int)) 0 vs:=by
   refine Q6z vs 0 fun i _ _=>?_
   rw[List.count_cons]
   by_cases e:k=(i:Int)
   ·simp[e];omega
   ·simp[e]
  rw[e,Qgy,Qgx k vs 0 (by omega) (by omega),Qaf vs ks (fun y hy=>h y (by simp[hy]))]
  simp
def labE (e:List Ex)(x:Ex):Lab:=⟨x.op,x.n,x.binds,x.kids.map (fun k=>((growL e).getD k.toNat default).op),x.alts⟩
def labs (e:List Ex):List Lab:=e.map (labE e)
theorem Qll{e:List Ex}{x:Ex}(h:Q0p (e++[x])):labs (e++[x])=labs e++[labE e x]:=by
 obtain⟨h1,h2⟩:=Q2q.1 h
 have same:∀y:Ex,(∀k∈y.kids,0<=k/\k < e.length)->labE (e++[x]) y=labE e y:=by
  intro y hy
  simp only[labE,Lab.mk.injEq,true_and,and_true]
  refine List.map_congr_left fun k hk=>?_
  have:=hy k hk
  rw[Q57 (by omega)]
 simp only[labs,List.map_append,List.map_cons,List.map_nil]
 rw[same x h2]
 congr 1
 refine List.map_congr_left fun y hy=>same y fun k hk=>?_
 obtain⟨j,hj⟩:=List.mem_iff_getElem?.1 hy
 have:=h1 j y hj k hk
 have hl:=(List.getElem?_eq_some_iff.1 hj).1
 omega
theorem Qfm(g:Lab->Int)(e:List Ex)(x:Ex):sumT g (Q1m (growL e) x)=g (labE e x)+(x.kids.map fun k=>sumT g ((growL e).getD k.toNat default)).sum:=by
 simp only[Q1m,sumT,Q86,labE,List.map_map];rfl
theorem sum_pre(g:Lab->Int)(e:List Ex)(h:Q0p e):wsum (fun i=>1 - (cnt e i:Int)) 0 ((growL e).map (sumT g))=((labs e).map g).sum:=by
 revert h
 refine Q6a (P:=fun e=>Q0p e->wsum (fun i=>1 - (cnt e i:Int)) 0 ((growL e).map (sumT g))=((labs e).map g).sum) (fun _=>rfl) (fun e x ih h=>?_) e
 obtain⟨h1,h2⟩:=Q2q.1 h
 have ih:=ih h1
 have hlen:((growL e).map (sumT g)).length=e.length:=by simp[Q0c]
 have hz:cnt (e++[x]) e.length=0:=by
  have:∀(l:List Ex) (n:Nat),(∀y∈l,∀k∈y.kids,k < (n:Int))->cnt l n=0:=by
   intro l
   induction l with
   |nil=>intro n _;rfl
   |cons y l ih2=>
    intro n hl
    simp only[cnt]
    rw[ih2 n (fun z hz=>hl z (by simp[hz])),Nat.add_zero,List.count_eq_zero]
    intro hm
    have:=hl y (by simp) _ hm
    omega
  refine this _ _ fun y hy k hk=>?_
  obtain⟨j,hj⟩:=List.mem_iff_getElem?.1 hy
  have:=h j y hj k hk
  have hl:=(List.getElem?_eq_some_iff.1 hj).1
  simp at hl
  omega
 rw[Q22,List.map_append,Qbu,hlen,Qll h,List.map_append,List.sum_append,←ih]
 simp only[List.map_cons,List.map_nil,wsum,Nat.zero_add,hz,List.sum_cons,List.sum_nil,Qfm]
 have e1:wsum (fun i=>1 - (cnt (e++[x]) i:Int)) 0 ((growL e).map (sumT g))=wsum (fun i=>(1 - (cnt e i:Int)) - ((x.kids.count (i:Int):Nat):Int)) 0 ((growL e).map (sumT g)):=by
  refine Q6z _ 0 fun i _ _=>?_
  rw[Qgk];simp[cnt];omega
 rw[e1,Qgw,Qaf _ _ (fun k hk=>by rw[hlen];exact h2 k hk)]
 have e2:(x.kids.map fun k=>((growL e).map (sumT g)).getD k.toNat 0)=x.kids.map fun k=>sumT g ((growL e).getD k.toNat default):=by
  refine List.map_congr_left fun k hk=>?_
  have:=h2 k hk
  have hl:k.toNat < (growL e).length:=by rw[Q0c];omega
  simp[List.getD,List.getElem?_eq_getElem hl]
 rw[e2]
 omega
theorem Qob{e:List Ex}(h:Q0p e){n:Nat}(hn:e.length<=n+1):cnt e n=0:=by
 have:∀(l:List Ex),(∀y∈l,∀k∈y.kids,k < (n:Int))->cnt l n=0:=by
  intro l
  induction l with
  |nil=>intro _;rfl
  |cons y l ih2=>
   intro hl
   simp only[cnt]
   rw[ih2 (fun z hz=>hl z (by simp[hz])),Nat.add_zero,List.count_eq_zero]
   intro hm
   have:=hl y (by simp) _ hm
   omega
 refine this _ fun y hy k hk=>?_
 obtain⟨j,hj⟩:=List.mem_iff_getElem?.1 hy
 have:=h j y hj k hk
 have hl:=(List.getElem?_eq_some_iff.1 hj).1
 omega
theorem Q32(g:Lab->Int){e:List Ex}(h:IsTree e):((labs e).map g).sum=sumT g (grow e):=by
 rw[←sum_pre g e h.k]
 obtain⟨pre,x,rfl⟩:∃pre x,e=pre++[x]:=⟨e.dropLast,e.getLast h.ne,(List.dropLast_concat_getLast h.ne).symm⟩
 rw[Q22,List.map_append,Qbu]
 rw[Q62 _ 0 (fun i _ hi=>?_),Qm7]
 ·simp only[List.map_cons,List.map_nil,wsum,List.length_map,Q0c,Nat.zero_add]
  rw[Qob h.k (by simp)];omega
 ·have hi:i < pre.length:=by simpa[Q0c]using hi
  have:=(h.c i (by simp;omega)).2 (by simp;omega)
  rw[this];rfl
end Go.CoreX
namespace Go.CoreX
structure OkT (out:List Ex)(t:Tr):Prop where
 lt:out.length < (listT out t).length
 k:Q0p (listT out t)
 g:∃r,growL (listT out t)=growL out++r++[t]
 c:∀i,cnt (listT out t) i=cnt out i+if out.length<=i/\i+1 < (listT out t).length then 1 else 0
structure OkTs (out:List Ex)(ts:List Tr):Prop where
 le:out.length<=(Q02 out ts).1.length
 k:Q0p (Q02 out ts).1
 g:∃r,growL (Q02 out ts).1=growL out++r
 ix:∀k∈(Q02 out ts).2,(out.length:Int)<=k/\k < (Q02 out ts).1.length
 m:(Q02 out ts).2.map (fun k=>(growL (Q02 out ts).1).getD k.toNat default)=ts
 c:∀i,cnt (Q02 out ts).1 i+(Q02 out ts).2.count (i:Int)=cnt out i+if out.length<=i/\i < (Q02 out ts).1.length then 1 else 0
mutual
theorem Qch:∀(t:Tr)(out:List Ex),Q0p out->OkT out t
 |.mk o n b ks a,out,h=>by
  have H:=Qeb ks out h
  have e:listT out (.mk o n b ks a)=(Q02 out ks).1++[⟨o,n,b,(Q02 out ks).2,a⟩]:=by simp only[listT]
  refine⟨?_,?_,?_,fun i=>?_⟩
  ·rw[e];have:=H.le;simp;omega
  ·rw[e,Q2q]
   refine⟨H.k,fun k hk=>?_⟩
   have:=H.ix k hk
   exact⟨by omega,this.2⟩
  ·obtain⟨r,hr⟩:=H.g
   refine⟨r,?_⟩
   rw[e,Q22]
   have:Q1m (growL (Q02 out ks).1) ⟨o,n,b,(Q02 out ks).2,a⟩=.mk o n b ks a:=by
    simp only[Q1m,Tr.mk.injEq,true_and,and_true];exact H.m
   rw[this,hr]
  ·rw[e,Qgk]
   have:=H.c i
   simp only[cnt,Nat.add_zero,List.length_append,List.length_singleton]
   rw[this]
   congr 1
   by_cases h1:out.length<=i/\i < (Q02 out ks).1.length
   ·rw[if_pos h1,if_pos (by omega)]
   ·rw[if_neg h1,if_neg (by omega)]
theorem Qeb:∀(ts:List Tr)(out:List Ex),Q0p out->OkTs out ts
 |[],out,h=>⟨by simp[Q02],by simpa[Q02]using h,⟨[],by simp[Q02]⟩,by simp[Q02],by simp[Q02],fun i=>by
   have e1:(Q02 out []).1=out:=by simp only[Q02]
   have e2:(Q02 out []).2=[]:=by simp only[Q02]
   rw[e1,e2,if_neg (by omega)];rfl⟩
 |t::ts,out,h=>by
  have H1:=Qch t out h
  have H2:=Qeb ts (listT out t) H1.k
  have e1:(Q02 out (t::ts)).1=(Q02 (listT out t) ts).1:=by simp only[Q02]
  have e2:(Q02 out (t::ts)).2=(((listT out t).length:Int) - 1)::(Q02 (listT out t) ts).2:=by simp only[Q02]
  have l1:=H1.lt
  have l2:=H2.le
  obtain⟨r1,g1⟩:=H1.g
  obtain⟨r2,g2⟩:=H2.g
  refine⟨by rw[e1];omega,by rw[e1];exact H2.k,⟨r1++[t]++r2,?_⟩,?_,?_,fun i=>?_⟩
  ·rw[e1,g2,g1];simp
  ·intro k hk
   rw[e2]at hk
   rw[e1]
   rcases List.mem_cons.1 hk with rfl|hk
   ·omega
   ·have:=H2.ix k hk;omega
  ·rw[e1,e2,List.map_cons,H2.m]
   congr 1
   have hl:(growL (listT out t)).length=(listT out t).length:=Q0c _
   have hl2:(growL out++r1).length+1=(listT out t).length:=by rw[←hl,g1];simp;omega
   rw[g2,Q6n (by rw[hl];omega),g1]
   have:((((listT out t).length:Int) - 1)).toNat=(growL out++r1).length:=by omega
   rw[this]
   simp[List.getD]
  ·rw[e1,e2,List.count_cons]
   have c2:=H2.c i
   have c1:=H1.c i
   have hh:(((((listT out t).length:Int) - 1)==(i:Int))=true)↔i+1=(listT out t).length:=by
    rw[beq_iff_eq];omega
   by_cases h1:i+1=(listT out t).length
   ·rw[if_pos (hh.2 h1)]
    rw[if_neg (by omega)]at c2
    rw[if_neg (by omega)]at c1
    rw[if_pos (by omega)]
    omega
   ·rw[if_neg (fun h=>h1 (hh.1 h))]
    by_cases h2:out.length<=i/\i+1 < (listT out t).length
    ·rw[if_pos h2]at c1
     rw[if_neg (by omega)]at c2
     rw[if_pos (by omega)]
     omega
    ·rw[if_neg h2]at c1
     by_cases h3:(listT out t).length<=i/\i < (Q02 (listT out t) ts).1.length
     ·rw[if_pos h3]at c2
      rw[if_pos (by omega)]
      omega
     ·rw[if_neg h3]at c2
      rw[if_neg (by omega)]
      omega
end
theorem Qb5:Q0p []:=fun j x hj=>by simp at hj
theorem Q0b(t:Tr):grow (listT [] t)=t:=by
 have H:=Qch t [] Qb5
 obtain⟨r,hr⟩:=H.g
 have hl:(growL (listT [] t)).length=(listT [] t).length:=Q0c _
 unfold grow
 rw[hr]at hl ⊢
 have:(listT [] t).length - 1=(growL []++r).length:=by simp at hl ⊢;omega
 rw[this]
 simp[List.getD]
theorem Q0s(t:Tr):IsTree (listT [] t):=by
 have H:=Qch t [] Qb5
 refine⟨fun h=>?_,H.k,fun i hi=>?_⟩
 ·have:=H.lt;rw[h]at this;simp at this
 ·rw[H.c i]
  simp only[cnt,List.length_nil,Nat.zero_le,true_and,Nat.zero_add]
  split <;> omega
theorem Q8r(ls:List Lab)(l0:Lab):(ls.map fun l=>if l=l0 then (1:Int)else 0).sum=ls.count l0:=by
 induction ls with
 |nil=>rfl
 |cons l ls ih=>
  simp only[List.map_cons,List.sum_cons,ih,List.count_cons]
  by_cases e:l=l0
  ·simp[e];omega
  ·simp[e]
theorem Q9f{e f:List Ex}(he:IsTree e)(hf:IsTree f)(h:grow e=grow f):(labs e).Perm (labs f):=by
 rw[List.perm_iff_count]
 intro l0
 have h1:=Q32 (fun l=>if l=l0 then (1:Int)else 0) he
 have h2:=Q32 (fun l=>if l=l0 then (1:Int)else 0) hf
 rw[Q8r]at h1 h2
 rw[h]at h1
 omega
theorem Q3p(e:List Ex):(labs e).length=e.length:=by simp[labs]
theorem Q97(e:List Ex):∀i,i < e.length->((growL e).getD i default).op=(e.getD i ⟨0,0,[],[],[]⟩).op:=by
 refine Q6a (P:=fun e=>∀i,i < e.length->((growL e).getD i default).op=(e.getD i ⟨0,0,[],[],[]⟩).op) (fun i hi=>by simp at hi) (fun e x ih i hi=>?_) e
 by_cases h:i < e.length
 ·rw[Q57 h,ih i h,Q6n h]
 ·have:i=e.length:=by simp at hi;omega
  subst this
  rw[Q6m e [] x]
  simp[Q1m,List.getD]
theorem Q8t{o n:Int}{b kx ky:List Int}{a:List Alt}(h:kx.length=ky.length):shape ⟨o,n,b,kx,a⟩=shape ⟨o,n,b,ky,a⟩:=by
 unfold shape wants Q5p Q4r
 simp only[h]
theorem Qap{o n:Int}{b kx ky:List Int}{a:List Alt}(h:kx.length=ky.length):ranges ⟨o,n,b,kx,a⟩=ranges ⟨o,n,b,ky,a⟩:=by
 unfold ranges fields
 simp only[h]
theorem Qam{x:Ex}(h:shape x=true)(h5:x.op=5):x.kids.length=x.binds.length+1:=by
 unfold shape wants at h
 simp[h5]at h
 omega
theorem Q7z{flat:Bool}{e f:List Ex}{x y:Ex}(hx:∀k∈x.kids,0<=k/\k < (e.length:Int))(hy:∀k∈y.kids,0<=k/\k < (f.length:Int))(h:labE e x=labE f y):Q0g flat e x=Q0g flat f y:=by
 obtain⟨o,n,b,kx,a⟩:=x
 obtain⟨o',n',b',ky,a'⟩:=y
 simp only[labE,Lab.mk.injEq]at h
 obtain⟨rfl,rfl,rfl,hk,rfl⟩:=h
 have hl:kx.length=ky.length:=by have:=congrArg List.length hk;simpa using this
 unfold Q0g Q1b
 rw [Q8t hl, Qap hl]
 cases hs:shape ⟨o,n,b,ky,a⟩ with
 |false=>simp
 |true=>
  have hb:(List.range b.length).any (Q14 e ⟨o,n,b,kx,a⟩)=(List.range b.length).any (Q14 f ⟨o,n,b,ky,a⟩):=by
   rw[Bool.eq_iff_iff,List.any_eq_true,List.any_eq_true]
   have key:∀i,i < b.length->Q14 e ⟨o,n,b,kx,a⟩ i=Q14 f ⟨o,n,b,ky,a⟩ i:=by
    intro i hi
    unfold Q14
    by_cases h5:o=5
    ·have hr:=Qam hs h5
     simp only at hr
     obtain⟨k,h1⟩:∃k,kx[i]?=some k:=⟨kx[i]'(by omega),List.getElem?_eq_getElem _⟩
     obtain⟨m,h2⟩:∃k,ky[i]?=some k:=⟨ky[i]'(by omega),List.getElem?_eq_getElem _⟩
     have k1:=hx k (List.mem_of_getElem? h1)
     have k2:=hy m (List.mem_of_getElem? h2)
     have h3:=congrArg (fun l=>l[i]?) hk
     simp only[List.getElem?_map,h1,h2,Option.map_some,Option.some.injEq]at h3
     rw[Q97 e _ (by omega),Q97 f _ (by omega)]at h3
     have e1:kx.getD i 0=k:=by rw[List.getD_eq_getElem?_getD,h1];rfl
     have e2:ky.getD i 0=m:=by rw[List.getD_eq_getElem?_getD,h2];rfl
     simp only[e1,e2,h3]
    ·have:(o==5)=false:=by simpa using h5
     simp only[this,Bool.false_and]
   constructor
   ·rintro⟨i,hi,hb⟩;exact⟨i,hi,by rw[←key i (by simpa using hi)];exact hb⟩
   ·rintro⟨i,hi,hb⟩;exact⟨i,hi,by rw[key i (by simpa using hi)];exact hb⟩
  simp only[hb]
theorem Q23{α:Type}(f:α->Int):∀l:List α,Q1i f l=0↔∀x∈l,f x=0
 |[]=>by simp[Q1i]
 |a::l=>by
  simp only[Q1i,List.mem_cons,forall_eq_or_imp]
  by_cases h:f a=0
  ·simp[h,Q23 f l]
  ·simp[h]
theorem Q1y:∀l:List Int,Q56 l=false↔l.Nodup
 |[]=>by simp[Q56]
 |n::l=>by simp[Q56,List.nodup_cons,Q1y l]
theorem Q7e{e:List Ex}(h:Q0p e){x:Ex}(hx:x∈e):∀k∈x.kids,0<=k/\k < (e.length:Int):=by
 intro k hk
 obtain⟨j,hj⟩:=List.mem_iff_getElem?.1 hx
 have:=h j x hj k hk
 have hl:=(List.getElem?_eq_some_iff.1 hj).1
 omega
theorem Q1z(e:List Ex):Q04 e=(labs e).flatMap fun l=>Q08 l.op l.binds l.alts:=by
 unfold Q04 labs
 rw[List.flatMap_map];rfl
theorem Qmm{e f:List Ex}{params:List Int}{flat:Bool}(hf:IsTree f)(h:grow e=grow f)(hb:body e params flat=0):body f params flat=0:=by
 unfold body at hb ⊢
 by_cases h1:Q1q e=0
 ·rw[if_neg (by simpa using h1)]at hb
  obtain⟨t1,t2,t3⟩:=(Q1f e).1 h1
  have hp:=Q9f t2 hf h
  have hl:e.length=f.length:=by rw[←Q3p e,←Q3p f];exact hp.length_eq
  rw[if_neg (by rw[Classical.not_not];exact (Q1f f).2 ⟨by omega,hf,by rw[←h];exact t3⟩)]
  by_cases h2:Q1i (Q0g flat e) e=0
  ·rw[if_neg (by simpa using h2)]at hb
   have h2f:Q1i (Q0g flat f) f=0:=by
    rw[Q23]at h2 ⊢
    intro y hy
    have hm:labE f y∈labs e:=hp.mem_iff.2 (List.mem_map_of_mem hy)
    obtain⟨x,hx,hxy⟩:=List.mem_map.1 hm
    rw[←Q7z (Q7e t2.k hx) (Q7e hf.k hy) hxy]
    exact h2 x hx
   rw[if_neg (by simpa using h2f)]
   by_cases h3:Q56 (params++Q04 e)=true
   ·rw[if_pos h3]at hb;exact absurd hb (by decide)
   ·rw[if_neg h3]at hb
    have hd:(params++Q04 e).Perm (params++Q04 f):=by
     rw[Q1z,Q1z]
     exact List.Perm.append_left _ (List.Perm.flatMap_right _ hp)
    have h3f:¬Q56 (params++Q04 f)=true:=by
     intro h4
     have h5:=(Q1y _).1 (by simpa using h3)
     have h6:=(Q1y _).2 (hd.nodup_iff.1 h5)
     rw[h6]at h4;cases h4
    rw[if_neg h3f,←h]
    exact hb
  ·rw[if_pos h2]at hb;exact absurd hb h2
 ·rw[if_pos h1]at hb;exact absurd hb h1
theorem Q0h{e:List Ex}{params:List Int}{flat:Bool}(hb:body e params flat=0):IsTree e:=by
 unfold body at hb
 by_cases h1:Q1q e=0
 ·exact ((Q1f e).1 h1).2.1
 ·rw[if_pos h1]at hb;exact absurd hb h1
theorem Qbm{e:List Ex}(h:check e=0):check (listT [] (grow e))=0:=Qmm (Q0s _) (Q0b _).symm h
theorem Qi5{e:List Ex}(h:check e=0):(listT [] (grow e)).length=e.length:=by
 have hp:=Q9f (Q0h h) (Q0s (grow e)) (Q0b _).symm
 rw[←Q3p e,←Q3p];exact hp.length_eq.symm
end Go.CoreX
namespace Go.CoreX
abbrev Nm:=Int->Option Int
def setN (m:Nm)(k v:Int):Nm:=fun j=>if k=j then some v else m j
def putsN (m:Nm):List Int->List Int->Nm
 |x::xs,y::ys=>putsN (setN m x y) xs ys
 |_,_=>m
def Q1k:List Alt->List Alt->Bool
 |a::l,b::r=>(a.tag==b.tag&&a.binds.length==b.binds.length)&&Q1k l r
 |_,_=>true
def Qh2 (o:Int)(nk nb na:Nat)(t:Tr):Bool:=!(o==t.op&&nk==t.kids.length&&nb==t.binds.length&&na==t.alts.length)
def Q8v (m:Nm)(n n':Int):Bool:=match m n with|some v=>v==n'|none=>n==n'
mutual
def sameT:Tr->Tr->Nm->Bool×Nm
 |.mk o n b k a,t,m=>
  if Qh2 o k.length b.length a.length t=true then (false,m) else
  if o=0 then (Q8v m n t.n,m) else
  if (!(n==t.n))||(o==9&&!(b==t.binds))then (false,m) else
  if Q1k a t.alts=false then (false,m) else
  Q2i k t.kids (putsN m (Q08 o b a) (Q08 t.op t.binds t.alts))
def Q2i:List Tr->List Tr->Nm->Bool×Nm
 |[],_,m=>(true,m)
 |a::l,r,m=>match r with
  |[]=>(true,m)
  |b::r=>if (sameT a b m).1=true then Q2i l r (sameT a b m).2 else (false,(sameT a b m).2)
end
def idN (m:Nm):Prop:=∀n v,m n=some v->v=n
theorem Qig:∀(l:List Int)(m:Nm),idN m->idN (putsN m l l)
 |[],m,h=>h
 |x::l,m,h=>Qig l _ fun n v hv=>by
  unfold setN at hv
  by_cases e:x=n
  ·rw[if_pos e]at hv;simp at hv;omega
  ·rw[if_neg e]at hv;exact h n v hv
theorem Q6s:∀l:List Alt,Q1k l l=true
 |[]=>rfl
 |a::l=>by simp[Q1k,Q6s l]
mutual
theorem Qan:∀(t:Tr)(m:Nm),idN m->(sameT t t m).1=true/\idN (sameT t t m).2
 |.mk o n b k a,m,h=>by
  unfold sameT
  rw[if_neg (by simp[Qh2])]
  by_cases e:o=0
  ·rw[if_pos e]
   refine⟨?_,h⟩
   simp only[Q8v,Tr.n_mk]
   cases hm:m n with
   |none=>simp
   |some v=>simp[h n v hm]
  ·rw[if_neg e,if_neg (by simp),if_neg (by simp[Q6s])]
   exact Q8x k _ (Qig _ m h)
theorem Q8x:∀(l:List Tr)(m:Nm),idN m->(Q2i l l m).1=true/\idN (Q2i l l m).2
 |[],m,h=>⟨rfl,h⟩
 |t::l,m,h=>by
  obtain⟨h1,h2⟩:=Qan t m h
  unfold Q2i
  simp only[h1,if_true]
  exact Q8x l _ h2
end
def Q87 (a b:Tr):Bool:=(sameT a b fun _=>none).1
theorem Qc5(t:Tr):Q87 t t=true:=(Qan t _ fun n v h=>by cases h).1
def same (a b:List Ex):Bool:=(check a==0&&check b==0)&&Q87 (grow a) (grow b)
def order (e:List Ex):List Ex×Int:=if check e≠0 then ([],check e)else (listT [] (grow e),0)
end Go.CoreX
namespace Go.Abs
theorem AOps.atDst{E:Env}{ops:Array Oper}{l:List Oper}{o:Oper}{K:Cont}{fr:Fr}{σ:St}(d:Nat)(h:o.dst=some d)(k:AOps E ops (o::l) K fr σ):AOps E ops (o::l) K fr σ:=k
class StpC (g:Prop) (h:outParam Prop):Prop where
 go:h->g
theorem zst{g h:Prop} [i:StpC g h] (x:h):g:=i.go x
section
variable {E:Env}{Fin:Fr->St->Prop}{k:List AItem}{fr:Fr}{σ:St}{c x y:Code}{id:Nat}{J:Fr->St->Prop}{ops:Array Oper}{K:Cont}{l:List Oper}
instance:StpC (AOps E ops [] K fr σ) (K .normal fr σ):=⟨o1⟩
instance:StpC (ACode E (.seq x y) (Q03 E Fin k) fr σ) (ACode E x (Q03 E Fin (.code y::k)) fr σ):=⟨o2⟩
instance:StpC (ACode E (.region id l.toArray false) K fr σ) (AOps E l.toArray l K fr σ):=⟨o3⟩
instance:StpC (Q03 E Fin (.code c::k) .normal fr σ) (ACode E c (Q03 E Fin k) fr σ):=⟨o4⟩
instance:StpC (ACode E .ret (Q03 E Fin k) fr σ) (Q03 E Fin k .ret fr σ):=⟨o5⟩
instance:StpC (Q03 E Fin [] .ret fr σ) (Fin fr σ):=⟨o6⟩
instance:StpC (Q03 E Fin [] .normal fr σ) (Fin fr σ):=⟨o7⟩
instance:StpC (ACode E .skip (Q03 E Fin k) fr σ) (Q03 E Fin k .normal fr σ):=⟨o8⟩
instance:StpC (ACode E (.block id c) (Q03 E Fin k) fr σ) (ACode E c (Q03 E Fin (.blk id::k)) fr σ):=⟨o9⟩
instance:StpC (Q03 E Fin (.blk id::k) .normal fr σ) (Q03 E Fin k .normal fr σ):=⟨oa⟩
instance:StpC (Q03 E Fin (.code c::k) .ret fr σ) (Q03 E Fin k .ret fr σ):=⟨ob⟩
instance:StpC (Q03 E Fin (.blk id::k) .ret fr σ) (Q03 E Fin k .ret fr σ):=⟨oc⟩
instance:StpC (Q03 E Fin (.inv J::k) .ret fr σ) (Q03 E Fin k .ret fr σ):=⟨od⟩
instance {J:List PanicEntry->St->Prop}:StpC (Q03 E Fin (.pan J::k) .normal fr σ) (Q03 E Fin k .normal fr σ):=⟨fun h=>h⟩
instance {J:List PanicEntry->St->Prop}:StpC (Q03 E Fin (.pan J::k) .ret fr σ) (Q03 E Fin k .ret fr σ):=⟨fun h=>h⟩
instance {J:List PanicEntry->St->Prop}:StpC (Q03 E Fin (.pan J::k) (.exit id) fr σ) (Q03 E Fin k (.exit id) fr σ):=⟨fun h=>h⟩
instance:StpC (ACode E (.exit id) (Q03 E Fin k) fr σ) (Q03 E Fin k (.exit id) fr σ):=⟨oe⟩
instance:StpC (Q03 E Fin (.code c::k) (.exit id) fr σ) (Q03 E Fin k (.exit id) fr σ):=⟨og⟩
instance:StpC (Q03 E Fin (.blk id::k) (.exit id) fr σ) (Q03 E Fin k .normal fr σ):=⟨oh⟩
instance:StpC (Q03 E Fin (.inv J::k) (.exit id) fr σ) (Q03 E Fin k (.exit id) fr σ):=⟨oi⟩
end
end Go.Abs
namespace Go.Proofs.YtpaonemmbhbgoaaGreatDoor
open Go Go.Abs
section
variable {E:Env}{ops:Array Oper}{rest:List Oper}{o:Oper}{K:Cont}{fr fr':Fr}{σ σ':St}{d:Nat}{t yt:TypeId}{x y:Operand}{a b:Int}{p q:Bool}{tys:Array TypeId}
theorem zau(h:AOps E ops rest K fr' σ')(hT:TabOk E.P E.T:=by exact tabOk)(h1:aAuto E ops o fr σ=some (fr',σ'):=by exact rfl):AOps E ops (o::rest) K fr σ:=AOps.auto hT h1 h
theorem zad(h:AOps E ops rest K ((d,.one (.lit (.int .i64 (a+b))))::fr) σ)(hgd:o.guard=none:=by exact rfl)(hdst:o.dst=some d:=by exact rfl)(hd:Nat.ble (d+1) E.N=true:=by exact rfl)(ho:o.op=.binOp .add t x y yt:=by exact rfl)
  (hx:aEval E.Γ fr x=some (.one (.lit (.int .i64 a))):=by exact rfl) (hy:aEval E.Γ fr y=some (.one (.lit (.int .i64 b))):=by exact rfl) (h0:-9223372036854775808<=a+b:=by first|omega|(simp;omega)) (h1:a+b<=9223372036854775807:=by first|omega|(simp;omega)):AOps E ops (o::rest) K fr σ:=
 AOps.step1 hgd hdst hd (AStep.arith ho hx hy (.inl ⟨rfl,rfl⟩) (Q2r h0 h1)) h
theorem zsu(h:AOps E ops rest K ((d,.one (.lit (.int .i64 (a - b))))::fr) σ)(hgd:o.guard=none:=by exact rfl)(hdst:o.dst=some d:=by exact rfl)(hd:Nat.ble (d+1) E.N=true:=by exact rfl)(ho:o.op=.binOp .sub t x y yt:=by exact rfl)
  (hx:aEval E.Γ fr x=some (.one (.lit (.int .i64 a))):=by exact rfl) (hy:aEval E.Γ fr y=some (.one (.lit (.int .i64 b))):=by exact rfl) (h0:-9223372036854775808<=a - b:=by first|omega|(simp;omega)) (h1:a - b<=9223372036854775807:=by first|omega|(simp;omega)):AOps E ops (o::rest) K fr σ:=
 AOps.step1 hgd hdst hd (AStep.arith ho hx hy (.inr (.inl ⟨rfl,rfl⟩)) (Q2r h0 h1)) h
theorem zne(h:AOps E ops rest K ((d,.one (.lit (.bool (!(p==q)))))::fr) σ)(hgd:o.guard=none:=by exact rfl)(hdst:o.dst=some d:=by exact rfl)(hd:Nat.ble (d+1) E.N=true:=by exact rfl)(ho:o.op=.binOp .neq t x y yt:=by exact rfl)(ht:E.P.underlying t=some .bool:=by exact Tryz.underlying4)
  (hx:aEval E.Γ fr x=some (.one (.lit (.bool p))):=by exact rfl) (hy:aEval E.Γ fr y=some (.one (.lit (.bool q))):=by exact rfl):AOps E ops (o::rest) K fr σ:=AOps.step1 hgd hdst hd (AStep.neBool ht ho hx hy) h
theorem zeq(h:AOps E ops rest K ((d,.one (.lit (.bool (p==q))))::fr) σ)(hgd:o.guard=none:=by exact rfl)(hdst:o.dst=some d:=by exact rfl)(hd:Nat.ble (d+1) E.N=true:=by exact rfl)(ho:o.op=.binOp .eql t x y yt:=by exact rfl)(ht:E.P.underlying t=some .bool:=by exact Tryz.underlying4)
  (hx:aEval E.Γ fr x=some (.one (.lit (.bool p))):=by exact rfl) (hy:aEval E.Γ fr y=some (.one (.lit (.bool q))):=by exact rfl):AOps E ops (o::rest) K fr σ:=AOps.step1 hgd hdst hd (AStep.eqBool ht ho hx hy) h
theorem zmx(h:AOps E ops rest K ((d,.one (.lit (.int .i64 (if b > a then b else a))))::fr) σ)(hgd:o.guard=none:=by exact rfl)(hdst:o.dst=some d:=by exact rfl)(hd:Nat.ble (d+1) E.N=true:=by exact rfl)(ho:o.op=.call { callee:=.builtin .max,args:=#[x,y],argTypes:=tys }:=by exact rfl)
  (hx:aEval E.Γ fr x=some (.one (.lit (.int .i64 a))):=by exact rfl) (hy:aEval E.Γ fr y=some (.one (.lit (.int .i64 b))):=by exact rfl):AOps E ops (o::rest) K fr σ:=AOps.step1 hgd hdst hd (AStep.max2 (t:=3) (ty:=3) ho hx hy) h
theorem zmn(h:AOps E ops rest K ((d,.one (.lit (.int .i64 (if b < a then b else a))))::fr) σ)(hgd:o.guard=none:=by exact rfl)(hdst:o.dst=some d:=by exact rfl)(hd:Nat.ble (d+1) E.N=true:=by exact rfl)(ho:o.op=.call { callee:=.builtin .min,args:=#[x,y],argTypes:=tys }:=by exact rfl)
  (hx:aEval E.Γ fr x=some (.one (.lit (.int .i64 a))):=by exact rfl) (hy:aEval E.Γ fr y=some (.one (.lit (.int .i64 b))):=by exact rfl):AOps E ops (o::rest) K fr σ:=AOps.step1 hgd hdst hd (AStep.min2 (t:=3) (ty:=3) ho hx hy) h
theorem zow{ti:TI}{j:Abs.Id}{off:Nat}{cs:List AC}{c:AC}(ho:o.op=.load t x)(hx:aEval E.Γ fr x=some (.one (.ptr j off)))(hg:σ.get j=some (.cells cs))(h:AOps E ops rest K ((d,.one c)::fr) σ)(hgd:o.guard=none:=by exact rfl)(hdst:o.dst=some d:=by exact rfl)(hd:Nat.ble (d+1) E.N=true:=by exact rfl)(hT:TabOk E.P E.T:=by exact tabOk)
  (ht:Tab.get t E.T=some ti:=by exact rfl) (ha:ti.agg=false:=by exact rfl) (hs:Nat.beq ti.size 1=true:=by exact rfl) (hc:cs[off]?=some c:=by exact rfl):AOps E ops (o::rest) K fr σ:=AOps.step1 hgd hdst hd (AStep.loadOwn hT ho ht ha hs hx hg hc) h
theorem zix{ti tj:TI}{k:IntKind}{n:Int}{s:Nat}{es:List (List AC)}{e:List AC}(h:AOps E ops rest K ((d,.one (.box e))::fr) σ)(hgd:o.guard=none:=by exact rfl)(hdst:o.dst=some d:=by exact rfl)(hd:Nat.ble (d+1) E.N=true:=by exact rfl)(ho:o.op=.indexAddr t x y:=by exact rfl)(hT:TabOk E.P E.T:=by exact tabOk)
  (ht:Tab.get t E.T=some ti:=by exact rfl) (hk:Nat.beq ti.kind 2=true:=by exact rfl) (hj:Tab.get ti.elem E.T=some tj:=by exact rfl) (hx:aEval E.Γ fr x=some (.one (.sl s es)):=by exact rfl) (hs:Nat.beq tj.size s=true:=by exact rfl) (hy:aEval E.Γ fr y=some (.one (.lit (.int k n))):=by exact rfl) (h0:0<=n:=by decide) (he:es[n.toNat]?=some e:=by exact rfl):AOps E ops (o::rest) K fr σ:=
 AOps.step1 hgd hdst hd (AStep.indexAddr hT ho ht hk hj hs hx (.inl rfl) hy h0 he) h
theorem zca{f:Operand}{args:Array Operand}{g:Nat}{first caps:List AC}{vs ws:List FV}{r:FV}(hΓ:∀g cs,(g,cs)∈E.Γ->idsL isO cs)(hc:APure E.P E.Γ g ws r)(hou:OuOk σ.ou)(h:AOps E ops rest K ((d,r)::fr) σ)(hgd:o.guard=none:=by exact rfl)(hdst:o.dst=some d:=by exact rfl)(hd:Nat.ble (d+1) E.N=true:=by exact rfl)
  (ho:o.op=.call { callee:=.value f,args:=args,argTypes:=tys }:=by exact rfl) (hf:aEval E.Γ fr f=some (.one (.fn (.func g) first caps)):=by exact rfl) (hargs:Q25 E.Γ fr args.toList=some vs:=by exact rfl) (has:first.map .one++vs++caps.map .one=ws:=by exact rfl) (hids:idsF isO ws:=by simp):AOps E ops (o::rest) K fr σ:=
 AOps.callC hΓ hc hgd hdst hd ho hf hargs has hou hids h
end
section
variable {ρ:Nat->Nat}{fr r:Fr}{k n s:Nat}{x v:FV}{es:List (List AC)}{oc:Option Nat}{lo lr:List (Nat×AObj)}{o p:AObj}{k':Nat}
theorem zfc(hr:FrSub ρ fr r)(h:Fr.get k fr=some v:=by exact rfl)(he:v=x.ren ρ:=by exact rfl):FrSub ρ fr ((k,x)::r):=FrSub.cons h (.ofEq he) hr
theorem zfo(hr:FrSub ρ fr r)(h:Fr.get n fr=some (.one (oaC k' s es oc)):=by exact rfl)(hk:k'=ρ k:=by exact rfl):FrSub ρ fr ((n,.one (oaC k s es oc))::r):=FrSub.oa h hk hr
theorem zfp(hr:FrSub ρ fr r)(h:Fr.get k fr=some v:=by exact rfl)(he:v=x:=by exact rfl)(hp:x.ids isO:=by simp):FrSub ρ fr ((k,x)::r):=FrSub.consP h (.ofEq he) hp hr
theorem zlc(hr:LoSub ρ n lo lr)(h:lookL (ρ k) lo=some p:=by exact rfl)(hk:Nat.blt k n=true:=by exact rfl)(he:p=o.ren ρ:=by first|rfl|(refine (AObj.ren_pure _ _ ?_).symm;simp;done)|exact (ren_oaO _ _ _ _ fun _=>Qlz (by simp;done)).symm|(simp[AObj.ren,renL,AC.ren];done)|(simp[AObj.ren,renL,AC.ren];rfl))(hi:o.ids (inL n):=by first|(simp;done)|exact Qm0 (by simp)):LoSub ρ n lo ((k,o)::lr):=LoSub.cons h he hk hi hr
theorem zld(he:p=o.ren ρ)(hr:LoSub ρ n lo lr)(h:lookL (ρ k) lo=some p:=by exact rfl)(hk:Nat.blt k n=true:=by exact rfl)(hi:o.ids (inL n):=by first|(simp;done)|exact Qm0 (by simp)):LoSub ρ n lo ((k,o)::lr):=LoSub.cons h he hk hi hr
end
section
variable {E:Env}{o:Oper}{fr:Fr}{σ σ':St}{ρ:Nat->Nat}{r:Fr}{n:Nat}{lo lr:List (Nat×AObj)}{ops:Array Oper}{v:FV}
theorem zFW(h:FrSub ρ fr r:=by (repeat' first|exact FrSub.nil|refine zfc ?_|refine zfo ?_|refine zfp ?_ (hp:=by first|assumption|(simp;done)))):FrSub ρ fr r:=h
theorem zFS(h:FrSub ρ fr r:=by (repeat' first|exact FrSub.nil|refine zfc ?_|refine zfo ?_|refine zfp ?_)):FrSub ρ fr r:=h
theorem zLO(h:LoSub ρ n lo lr:=by (repeat' first|exact LoSub.nil|refine zlc ?_|refine zld ?_ ?_|rfl)):LoSub ρ n lo lr:=h
theorem zI{k:Int}(h1:-9223372036854775808<=k:=by omega)(h2:k<=9223372036854775807:=by omega):Q9j .i64 k:=Q2r h1 h2
theorem zHP(h:AStep E o fr σ v σ')(hg:o.guard=none:=by exact rfl):HStep E ops o fr σ σ' v:=HStep.plain hg h
theorem zS{rest:List Oper}{K:Cont}{x:FV}{d:Nat}(hs:AStep E o fr σ x σ')(h:AOps E ops rest K ((d,x)::fr) σ')(hgd:o.guard=none:=by exact rfl)(hdst:o.dst=some d:=by exact rfl)(hd:Nat.ble (d+1) E.N=true:=by exact rfl):AOps E ops (o::rest) K fr σ:=AOps.step1 hgd hdst hd hs h
theorem zLD{t:TypeId}{ti:TI}{x:Operand}{j:Abs.Id}{off:Nat}{cs:List AC}{c:AC}(ho:o.op=.load t x)(hx:aEval E.Γ fr x=some (.one (.ptr j off)))(hg:σ.get j=some (.cells cs))(hc:cs[off]?=some c)(hT:TabOk E.P E.T:=by exact tabOk)(ht:Tab.get t E.T=some ti:=by exact rfl)(ha:ti.agg=false:=by exact rfl)(hs:Nat.beq ti.size 1=true:=by exact rfl):AStep E o fr σ (.one c) σ:=AStep.loadOwn hT ho ht ha hs hx hg hc
theorem zIA{t:TypeId}{ti tj:TI}{x i:Operand}{k:IntKind}{m:Int}{s:Nat}{es:List (List AC)}{e:List AC}(ho:o.op=.indexAddr t x i)(hx:aEval E.Γ fr x=some (.one (.sl s es)))(hi':aEval E.Γ fr i=some (.one (.lit (.int k m))))(h0:0<=m)(he:es[m.toNat]?=some e)(hT:TabOk E.P E.T:=by exact tabOk)(ht:Tab.get t E.T=some ti:=by exact rfl)(hk:Nat.beq ti.kind 2=true:=by exact rfl)(hj:Tab.get ti.elem E.T=some tj:=by exact rfl)(hs:Nat.beq tj.size s=true:=by exact rfl):AStep E o fr σ (.one (.box e)) σ:=AStep.indexAddr hT ho ht hk hj hs hx (.inl rfl) hi' h0 he
end
structure ZW (q:Prop):Prop where
 out:q
theorem zA{p q:Prop}(h:q)(f:ZW q->p:=by
  intro h
  repeat first|((with_reducible refine oj ?_);refine zau ?_)|(with_reducible refine zst ?_)|((with_reducible refine Q0k ?_ ?_);rfl)|(with_reducible refine ok ?_;first|refine ACode.condT rfl ?_|refine ACode.condF rfl ?_)
  exact h.out):p:=f ⟨h⟩
theorem zM{p q:Prop}(h:q)(f:ZW q->p:=by
  intro h
  repeat first|((with_reducible refine oj ?_);refine zau ?_)|(with_reducible refine zst ?_)|((with_reducible refine Q0k ?_ ?_);rfl)|(with_reducible refine ok ?_;first|refine ACode.condT rfl ?_|refine ACode.condF rfl ?_)|((with_reducible refine oj ?_);first|refine zad ?_|refine zsu ?_|refine zne ?_|refine zeq ?_|refine zmx ?_|refine zmn ?_|refine AOps.unG rfl rfl rfl ?_)
  exact h.out):p:=f ⟨h⟩
theorem zN{p q:Prop}(h:q)(f:ZW q->p:=by
  intro h
  first|((with_reducible refine oj ?_);refine zau ?_)|(with_reducible refine zst ?_)|((with_reducible refine Q0k ?_ ?_);rfl)|(with_reducible refine ok ?_;first|refine ACode.condT rfl ?_|refine ACode.condF rfl ?_)|((with_reducible refine oj ?_);first|refine zad ?_|refine zsu ?_|refine zne ?_|refine zeq ?_|refine zmx ?_|refine zmn ?_|refine AOps.unG rfl rfl rfl ?_)
  repeat first|((with_reducible refine oj ?_);refine zau ?_)|(with_reducible refine zst ?_)|((with_reducible refine Q0k ?_ ?_);rfl)|(with_reducible refine ok ?_;first|refine ACode.condT rfl ?_|refine ACode.condF rfl ?_)|((with_reducible refine oj ?_);first|refine zad ?_|refine zsu ?_|refine zne ?_|refine zeq ?_|refine zmx ?_|refine zmn ?_|refine AOps.unG rfl rfl rfl ?_)
  exact h.out):p:=f ⟨h⟩
theorem zO{p q:Prop}(h:q)(f:ZW q->p:=by
  intro h
  first|((with_reducible refine oj ?_);refine zau ?_)|(with_reducible refine zst ?_)|((with_reducible refine Q0k ?_ ?_);rfl)|(with_reducible refine ok ?_;first|refine ACode.condT rfl ?_|refine ACode.condF rfl ?_)|((with_reducible refine oj ?_);first|refine zad ?_|refine zsu ?_|refine zne ?_|refine zeq ?_|refine zmx ?_|refine zmn ?_|refine AOps.unG rfl rfl rfl ?_)
  exact h.out):p:=f ⟨h⟩
end Go.Proofs.YtpaonemmbhbgoaaGreatDoor
namespace Go.Proofs.YtpaonemmbhbgoaaGreatDoor
open Go Go.Abs Go.CoreX
abbrev int (n:Int):AC:=.lit (.int .i64 n)
def cI (n:Int):List AC:=[int n]
def cAlt (a:Alt):List AC:=[int a.tag,.sl 1 (a.binds.map cI)]
def cEx (x:Ex):List AC:=[int x.op,int x.n,.sl 1 (x.binds.map cI),.sl 1 (x.kids.map cI),.sl 2 (x.alts.map cAlt)]
mutual
def encTr:Tr->List AC
 |.mk o n b k a=>[int o,int n,.sl 1 (b.map cI),.sl 1 (Q0y k),.sl 2 (a.map cAlt)]
def Q0y:List Tr->List (List AC)
 |[]=>[]
 |t::ts=>[.box (encTr t)]::Q0y ts
end
def cTr (t:Tr):List AC:=[int t.op,int t.n,.sl 1 (t.binds.map cI),.sl 1 (Q0y t.kids),.sl 2 (t.alts.map cAlt)]
def cB (t:Tr):List AC:=[.box (cTr t)]
theorem Qin(t:Tr):encTr t=cTr t:=by cases t;simp[encTr,cTr]
theorem Q5a:∀l:List Tr,Q0y l=l.map cB
 |[]=>rfl
 |t::ts=>by simp[Q0y,Q5a ts,Qin,cB]
theorem Q2g{l:List Tr}{i:Nat}{t:Tr}(h:l[i]?=some t):(Q0y l)[i]?=some (cB t):=by rw[Q5a];simp[h]
attribute [simp] idsL idsS AC.ids FV.ids idsF Fr.ids inL isO AObj.ids
theorem Q2c{α:Type}{p:Abs.Id->Prop}{f:α->List AC}(h:∀x,idsL p (f x)):∀l:List α,idsS p (l.map f)
 |[]=>by simp
 |x::l=>by simp[h x,Q2c h l]
@[simp] theorem ids_cI (p:Abs.Id->Prop) (n:Int):idsL p (cI n):=by simp[cI]
@[simp] theorem Qg5 (p:Abs.Id->Prop) (l:List Int):idsS p (l.map cI):=Q2c (ids_cI p) l
@[simp] theorem Qo0 (p:Abs.Id->Prop) (a:Alt):idsL p (cAlt a):=by simp[cAlt]
@[simp] theorem Qei (p:Abs.Id->Prop) (l:List Alt):idsS p (l.map cAlt):=Q2c (Qo0 p) l
@[simp] theorem Qm5 (p:Abs.Id->Prop) (x:Ex):idsL p (cEx x):=by simp[cEx]
@[simp] theorem ids_cExs (p:Abs.Id->Prop) (l:List Ex):idsS p (l.map cEx):=Q2c (Qm5 p) l
mutual
theorem Qm2(p:Abs.Id->Prop):∀t:Tr,idsL p (encTr t)
 |.mk o n b k a=>by simp[encTr,Q7i p k]
theorem Q7i(p:Abs.Id->Prop):∀l:List Tr,idsS p (Q0y l)
 |[]=>by simp[Q0y]
 |t::ts=>by simp[Q0y,Qm2 p t,Q7i p ts]
end
attribute [simp] Q7i
@[simp] theorem ids_cTr (p:Abs.Id->Prop) (t:Tr):idsL p (cTr t):=by simp[cTr]
@[simp] theorem ids_cB (p:Abs.Id->Prop) (t:Tr):idsL p (cB t):=by simp[cB]
@[simp] theorem ids_cBs (p:Abs.Id->Prop) (l:List Tr):idsS p (l.map cB):=Q2c (ids_cB p) l
@[simp] theorem len_encTrs (l:List Tr):(Q0y l).length=l.length:=by rw[Q5a];simp
@[simp] theorem Q76 (ρ:Nat->Nat) (l:List Int):renS ρ (l.map cI)=l.map cI:=Q1w ρ _ (Qg5 _ l)
@[simp] theorem Q6c (ρ:Nat->Nat) (l:List Alt):renS ρ (l.map cAlt)=l.map cAlt:=Q1w ρ _ (Qei _ l)
@[simp] theorem Qkw (ρ:Nat->Nat) (l:List Tr):renS ρ (l.map cB)=l.map cB:=Q1w ρ _ (ids_cBs _ l)
@[simp] theorem ren_cEx (ρ:Nat->Nat) (x:Ex):renL ρ (cEx x)=cEx x:=Q2j ρ _ (Qm5 _ x)
theorem Q05{α:Type}{f:α->List AC}{l:List α}{i:Nat}{a:α}(h:l[i]?=some a):(l.map f)[i]?=some (f a):=by simp[h]
theorem Q00{α:Type}{l:List α}{i:Nat}(h:i < l.length):∃a,l[i]?=some a:=⟨l[i],List.getElem?_eq_getElem h⟩
def arC:List AC:=(Q5c.map fun n=>Value.int .i64 n).map .lit
def orC:List AC:=[3,4,6,7,5,1,2,11,8,9].map fun n=>.lit (.int .i64 n)
def Γc:List (Nat×List AC):=[(1,arC)]
theorem hΓc:∀g cs,(g,cs)∈Γc->idsL isO cs:=fun g cs h=>by
 simp[Γc]at h
 first
  |(obtain⟨rfl,rfl⟩:=h;simp[arC,Q5c];done)
  |(rcases h with ⟨rfl,rfl⟩|⟨rfl,rfl⟩ <;> simp[arC,orC,Q5c])
theorem follows:Tryz.prog.follows .mixedOrders=true:=by kernel_rfl
structure okX (x:Ex):Prop where
 b:x.binds.length<=1048576
 k:x.kids.length<=1048576
 a:x.alts.length<=1048576
 ab:∀a∈x.alts,a.binds.length<=1048576
structure okE (e:List Ex):Prop where
 l:e.length<=1048576
 x:∀x∈e,okX x
variable {Γ:List (Nat×List AC)}
def idxOf {α:Type}(p:α->Bool):List α->Int
 |[]=>-1
 |a::l=>if p a=true then 0 else if idxOf p l < 0 then -1 else idxOf p l+1
theorem Qia{α:Type}{p:α->Bool}:∀l:List α,-1<=idxOf p l
 |[]=>by simp[idxOf]
 |a::l=>by
  have:=Qia (p:=p) l
  simp only[idxOf];split
  ·omega
  ·split <;> omega
theorem Q7h{α:Type}{p:α->Bool}:∀{l:List α},(∀x∈l,p x=false)->idxOf p l=-1
 |[],_=>rfl
 |a::l,h=>by simp only[idxOf,h a (by simp),Q7h (l:=l) (fun x hx=>h x (by simp[hx]))];simp
theorem Qcn{α:Type}{p:α->Bool}:∀{l:List α}{j:Nat}{a:α},(∀x∈l.take j,p x=false)->l[j]?=some a->p a=true->idxOf p l=j
 |[],j,a,_,h,_=>by simp at h
 |x::l,0,a,_,h,hp=>by simp at h;subst h;simp[idxOf,hp]
 |x::l,j+1,a,h0,h,hp=>by
  have:=Qcn (l:=l) (j:=j) (fun y hy=>h0 y (by simp[hy])) (by simpa using h) hp
  simp only[idxOf,h0 x (by simp),this]
  rw[if_neg (by simp),if_neg (by omega)];simp
theorem Qef{α:Type}{p:α->Bool}:∀l:List α,0<=idxOf p l↔l.any p=true
 | [] => by simp [idxOf]
 |a::l=>by
  have ih:=Qef (p:=p) l
  have hge:=Qia (p:=p) l
  simp only[idxOf,List.any_cons,Bool.or_eq_true,←ih]
  by_cases hp:p a=true
  ·simp[hp]
  ·rw[if_neg hp]
   by_cases h:idxOf p l < 0
   ·rw[if_pos h]
    exact⟨fun h2=>by omega,fun h2=>h2.elim (fun h3=>absurd h3 hp) (fun h3=>by omega)⟩
   ·rw[if_neg h]
    exact⟨fun h2=>.inr (by omega),fun h2=>by omega⟩
theorem Qeg{α:Type}{p:α->Bool}(l:List α):decide (idxOf p l ≥ 0)=l.any p:=by
 rw[Bool.eq_iff_iff,decide_eq_true_iff]
 exact Qef l

theorem Q1s{α:Type}{p:α->Prop}{l:List α}{j:Nat}{a:α}(h:∀x∈l.take j,p x)(ha:l[j]?=some a)(hp:p a):∀x∈l.take (j+1),p x:=by
 intro x hx
 rw[List.take_add_one,ha]at hx
 rcases List.mem_append.1 hx with hx|hx
 ·exact h x hx
 ·simp at hx;subst hx;exact hp
theorem Qm6{caps:List AC}(h:idsL isO caps):idsF isO (caps.map .one):=by
 induction caps with
 |nil=>trivial
 |cons c l ih=>exact⟨h.1,ih h.2⟩
theorem Q5k(n low high:Int):APure Tryz.prog Γ 125 [.one (int n),.one (int low),.one (int high)] (.one (.lit (.bool (between n low high)))):=by
 intro ou
 refine AFn.walk 15 tabOk Tryz.func125 rfl (by kernel_rfl) rfl rfl fun hou=>?_
 repeat' first|((with_reducible refine oj ?_);refine zau ?_)|(with_reducible refine zst ?_)|((with_reducible refine Q0k ?_ ?_);rfl)|(with_reducible refine ok ?_;first|refine ACode.condT rfl ?_|refine ACode.condF rfl ?_)|(with_reducible refine oj ?_;refine AOps.splitS rfl rfl rfl rfl (fun hb=>?_) (fun hb=>?_))|(with_reducible refine ok ?_;refine ACode.cond rfl (fun hb=>?_) (fun hb=>?_))
 all_goals exact APure.fin rfl (WkF.ofEq (by simp[between];first|(simp_all;done)|(simp_all;omega))) (by simp) hou rfl
theorem Qgf(n:Int):APure Tryz.prog Γ 76 [.one (int n)] (.one (.lit (.bool (Q4j n)))):=by
 intro ou
 refine AFn.walk 13 tabOk Tryz.func76 rfl (by kernel_rfl) rfl rfl fun hou=>?_
 repeat' first|((with_reducible refine oj ?_);refine zau ?_)|(with_reducible refine zst ?_)|((with_reducible refine Q0k ?_ ?_);rfl)|(with_reducible refine ok ?_;first|refine ACode.condT rfl ?_|refine ACode.condF rfl ?_)|(with_reducible refine oj ?_;refine AOps.splitS rfl rfl rfl rfl (fun hb=>?_) (fun hb=>?_))|(with_reducible refine ok ?_;refine ACode.cond rfl (fun hb=>?_) (fun hb=>?_))
 all_goals exact APure.fin rfl (WkF.ofEq (by simp[Q4j];simp_all)) (by simp) hou rfl
theorem Qgh(n:Int):APure Tryz.prog Γ 75 [.one (int n)] (.one (.lit (.bool (Q5j n)))):=by
 intro ou
 refine AFn.walk 17 tabOk Tryz.func75 rfl (by kernel_rfl) rfl rfl fun hou=>?_
 repeat' first|((with_reducible refine oj ?_);refine zau ?_)|(with_reducible refine zst ?_)|((with_reducible refine Q0k ?_ ?_);rfl)|(with_reducible refine ok ?_;first|refine ACode.condT rfl ?_|refine ACode.condF rfl ?_)|(with_reducible refine oj ?_;refine AOps.splitS rfl rfl rfl rfl (fun hb=>?_) (fun hb=>?_))|(with_reducible refine ok ?_;refine ACode.cond rfl (fun hb=>?_) (fun hb=>?_))
 all_goals exact APure.fin rfl (WkF.ofEq (by simp[Q5j];simp_all)) (by simp) hou rfl
theorem Qon(hΓ:∀g cs,(g,cs)∈Γ->idsL isO cs)(xs:List Int)(hx:xs.length<=1048576)(n:Int):
  APure Tryz.prog Γ 70 [.one (.sl 1 (xs.map cI)),.one (int n)] (.one (int (idxOf (n==·) xs))):=by
 intro ou
 refine AFn.walk 19 tabOk Tryz.func70 rfl (by kernel_rfl) rfl rfl fun hou=>?_
 refine zA ?_
 refine ACode.loopR hΓ (α:=Nat) (fun j=>[(8,.one (int j)),(7,.one (int (xs.map cI).length)),(1,.one (int n)),(0,.one (.sl 1 (xs.map cI)))])
  (fun j => ⟨0, [], ou⟩) (fun m j => j <= xs.length /\ (∀ x ∈ xs.take j, (n == x) = false) /\ m = xs.length - j) (a0 := 0) (ρ := id) ⟨by omega, by simp, rfl⟩ (LessR.of rfl zFS (by simp) zLO rfl rfl hou) fun m j hj => ?_
 obtain⟨hjl,hno,rfl⟩:=hj
 refine zA ?_
 refine ACode.cond rfl (fun hb2=>?_) (fun hb2=>?_)
 ·have hlt:j < xs.length:=by simpa using hb2
  obtain⟨a,ha⟩:=Q00 hlt
  refine zA ?_
  refine zS (zIA rfl rfl rfl (by omega) (by simpa using Q05 ha)) ?_
  refine zA ?_
  refine ACode.cond rfl (fun hb3=>?_) (fun hb3=>?_)
  ·refine zA ?_
   refine APure.fin rfl (WkF.ofEq ?_) (by simp) hou rfl
   rw[Qcn hno ha hb3]
  ·refine zA ?_
   refine zS (AStep.arith rfl rfl rfl (.inl ⟨rfl,rfl⟩) zI) ?_
   refine zA ?_
   exact cInv ⟨xs.length - (j+1),j+1,id,by omega,⟨by omega,Q1s hno ha hb3,rfl⟩,LessR.of rfl zFS (by simp) zLO rfl rfl hou⟩
 ·have hlt:j=xs.length:=by simp at hb2;omega
  subst hlt
  rw[List.take_length]at hno
  refine zA ?_
  refine APure.fin rfl (WkF.ofEq ?_) (by simp) hou rfl
  rw[Q7h hno]
theorem Qgu(hΓ:∀g cs,(g,cs)∈Γ->idsL isO cs)(xs:List Int)(hx:xs.length<=1048576)(n:Int):
  APure Tryz.prog Γ 42 [.one (.sl 1 (xs.map cI)),.one (int n)] (.one (.lit (.bool (xs.contains n)))):=by
 intro ou
 refine AFn.walk 9 tabOk Tryz.func42 rfl (by kernel_rfl) rfl rfl fun hou=>?_
 refine zA ?_
 refine zca hΓ (Qon hΓ xs hx n) hou ?_
 refine zA ?_
 refine APure.fin rfl (WkF.ofEq ?_) (by simp) hou rfl
 rw[Qeg,List.any_beq]

theorem Qk3(hΓ:∀g cs,(g,cs)∈Γ->idsL isO cs)(gf:Nat)(caps:List AC)(hcap:idsL isO caps)(p:Alt->Bool)(xs:List Alt)(hx:xs.length<=1048576)(hf:∀a∈xs,APure Tryz.prog Γ gf (.agg (cAlt a)::caps.map .one) (.one (.lit (.bool (p a))))):
  APure Tryz.prog Γ 182 [.one (.sl 2 (xs.map cAlt)),.one (.fn (.func gf) [] caps)] (.one (int (idxOf p xs))):=by
 intro ou
 refine AFn.walk 19 tabOk Tryz.func182 rfl (by kernel_rfl) rfl rfl fun hou=>?_
 refine zA ?_
 refine ACode.loopR hΓ (α:=Nat) (fun j=>[(8,.one (int j)),(7,.one (int (xs.map cAlt).length)),(1,.one (.fn (.func gf) [] caps)),(0,.one (.sl 2 (xs.map cAlt)))])
  (fun j=>⟨0,[],ou⟩) (fun m j=>j<=xs.length/\(∀x∈xs.take j,p x=false)/\m=xs.length - j) (a0:=0) (ρ:=id) ⟨by omega,by simp,rfl⟩ (LessR.of rfl ?_ ?_ zLO rfl rfl hou) fun m j hj=>?_
 ·refine .cons rfl (.ofEq rfl) (.cons rfl (.ofEq rfl) (.consP rfl (.ofEq rfl) (by simp[hcap]) (.consP rfl (.ofEq rfl) (by simp) .nil)))
 ·simp[Q17 Qg3 caps hcap]
 obtain⟨hjl,hno,rfl⟩:=hj
 refine zA ?_
 refine ACode.cond rfl (fun hb2=>?_) (fun hb2=>?_)
 ·have hlt:j < xs.length:=by simpa using hb2
  obtain⟨a,ha⟩:=Q00 hlt
  have hca:=hf a (List.mem_of_getElem? ha)
  refine zA ?_
  refine zS (zIA rfl rfl rfl (by omega) (by simpa using Q05 ha)) ?_
  refine zA ?_
  refine AOps.callC hΓ hca rfl rfl rfl rfl rfl rfl rfl hou (by simp[Qm6 hcap]) ?_
  refine zA ?_
  refine ACode.cond rfl (fun hb3=>?_) (fun hb3=>?_)
  ·refine zA ?_
   refine APure.fin rfl (WkF.ofEq ?_) (by simp) hou rfl
   rw[Qcn hno ha hb3]
  ·refine zA ?_
   refine zS (AStep.arith rfl rfl rfl (.inl ⟨rfl,rfl⟩) zI) ?_
   refine zA ?_
   refine cInv ⟨xs.length - (j+1),j+1,id,by omega,⟨by omega,Q1s hno ha hb3,rfl⟩,LessR.of rfl ?_ ?_ zLO rfl rfl hou⟩
   ·refine .cons rfl (.ofEq rfl) (.cons rfl (.ofEq rfl) (.consP rfl (.ofEq rfl) (by simp[hcap]) (.consP rfl (.ofEq rfl) (by simp) .nil)))
   ·simp[Q17 Qg3 caps hcap]
 ·have hlt:j=xs.length:=by simp at hb2;omega
  subst hlt
  rw[List.take_length]at hno
  refine zA ?_
  refine APure.fin rfl (WkF.ofEq ?_) (by simp) hou rfl
  rw[Q7h hno]
theorem Qn1(hΓ:∀g cs,(g,cs)∈Γ->idsL isO cs)(gf:Nat)(caps:List AC)(hcap:idsL isO caps)(p:Alt->Bool)(xs:List Alt)(hx:xs.length<=1048576)(hf:∀a∈xs,APure Tryz.prog Γ gf (.agg (cAlt a)::caps.map .one) (.one (.lit (.bool (p a))))):
  APure Tryz.prog Γ 164 [.one (.sl 2 (xs.map cAlt)),.one (.fn (.func gf) [] caps)] (.one (.lit (.bool (xs.any p)))):=by
 intro ou
 refine AFn.walk 9 tabOk Tryz.func164 rfl (by kernel_rfl) rfl rfl fun hou=>?_
 refine zA ?_
 refine AOps.callC hΓ (Qk3 hΓ gf caps hcap p xs hx hf) rfl rfl rfl rfl rfl rfl rfl hou (by simp[hcap]) ?_
 refine zA ?_
 refine APure.fin rfl (WkF.ofEq ?_) (by simp) hou rfl
 rw[←Qeg]

theorem Qoh(b a:Alt):APure Tryz.prog Γ 165 [.agg (cAlt b),.one (.box (cAlt a))] (.one (.lit (.bool (b.tag==a.tag)))):=by
 intro ou
 refine AFn.walk 9 tabOk Tryz.func165 rfl (by kernel_rfl) rfl rfl fun hou=>?_
 refine zA ?_
 exact APure.fin rfl (WkF.ofEq rfl) (by simp) hou rfl
theorem Qof(e:List Ex)(k:Int)(x:Ex)(h0:0<=k)(hx:e[k.toNat]?=some x):APure Tryz.prog Γ 78 [.one (int k),.one (.box [.sl 5 (e.map cEx)])] (.agg (cEx x)):=by
 intro ou
 refine AFn.walk 8 tabOk Tryz.func78 rfl (by kernel_rfl) rfl rfl fun hou=>?_
 refine zA ?_
 refine zS (zIA rfl rfl rfl h0 (Q05 hx)) ?_
 refine zA ?_
 exact APure.fin rfl (WkF.ofEq rfl) (by simp) hou rfl
end Go.Proofs.YtpaonemmbhbgoaaGreatDoor
