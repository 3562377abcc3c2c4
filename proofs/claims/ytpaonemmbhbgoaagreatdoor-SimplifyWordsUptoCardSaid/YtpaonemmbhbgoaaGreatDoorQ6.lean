/- The abstract layer, part Bb: interface values, type assertions, panics, pointers that are compared; functions that may panic. No condition of its own. -/
import Derived.Test.YtpaonemmbhbgoaaGreatDoorQ5
import Derived.Laws.Build
import Derived.Recover
set_option maxRecDepth 10000
set_option linter.unusedVariables false
set_option linter.unusedSimpArgs false
namespace Go.Abs
section
variable {E : Env} {o : Oper} {fr : Fr} {σ : St} {t t' T0 el yt : TypeId} {x y : Operand}
theorem AStep.mkIfc {c : AC} (hc : E.P.concrete t = true) (ho : o.op = .makeInterface t x) (hx : aEval E.Γ fr x = some (.one c)) : AStep E o fr σ (.one (.ifc t false [c])) σ := by
 refine AStep.quiet fun F w C tmps hi hf => ?_
 have h1 := Q00 (a := ⟨tmps, E.ds⟩) hi hf hx
 refine ⟨.iface t (Act.eval ⟨tmps, E.ds⟩ x), ?_, [Act.eval ⟨tmps, E.ds⟩ x], ⟨_, [], rfl, h1, rfl⟩, .inr ⟨rfl, _, rfl, rfl⟩⟩
 unfold execOp
 simp [ho, run_makeInterface w t _ hc]
theorem AStep.mkIfcA {cs : List AC} (hc : E.P.concrete t = true) (ho : o.op = .makeInterface t x) (hx : aEval E.Γ fr x = some (.agg cs)) : AStep E o fr σ (.one (.ifc t true cs)) σ := by
 refine AStep.quiet fun F w C tmps hi hf => ?_
 obtain ⟨xs, h1, h2⟩ := Q00 (a := ⟨tmps, E.ds⟩) hi hf hx
 refine ⟨.iface t (.agg xs.toArray), ?_, xs, h2, .inl ⟨rfl, rfl⟩⟩
 unfold execOp
 simp [ho, h1, run_makeInterface w t _ hc]
theorem Q9i {P : Program} (w : World) {d : TypeDesc} (hd : P.underlying t = some d) (hc : P.concrete t = true) (v : Value) : (Instr.typeAssert (.iface t v) T0 t true).run P w = .ok (.tuple #[v, .bool true]) w := by
 unfold Program.concrete at hc
 rw [hd] at hc
 cases d <;> first | (simp at hc; done) | simp [Instr.typeAssert, run_underlying hd]
theorem Qav {P : Program} (w : World) {d : TypeDesc} (hd : P.underlying t = some d) (hc : P.concrete t = true) {u z : Value} (hu : u = .nilIface ∨ ∃ t' v, u = .iface t' v /\ t' ≠ t) (hz : (zeroValue t).run P w = .ok z w) :
  (Instr.typeAssert u T0 t true).run P w = .ok (.tuple #[z, .bool false]) w := by
 unfold Program.concrete at hc
 rw [hd] at hc
 rcases hu with rfl | ⟨t', v, rfl, hne⟩
 ·cases d <;> first | (simp at hc; done) | simp [Instr.typeAssert, run_underlying hd, hz]
 ·cases d <;> first | (simp at hc; done) | simp [Instr.typeAssert, run_underlying hd, hz, hne]
theorem Q46 {P : Program} (hc : P.concrete t = true) : ∃ d, P.underlying t = some d := by
 unfold Program.concrete at hc
 cases h : P.underlying t with
 | none => rw [h] at hc; cases hc
 | some d => exact ⟨d, rfl⟩
theorem AStep.assertYes {c : AC} (hc : E.P.concrete t = true) (ho : o.op = .typeAssert x T0 t true) (hx : aEval E.Γ fr x = some (.one (.ifc t false [c]))) : AStep E o fr σ (.tup [.one c, .one (.lit (.bool true))]) σ := by
 refine AStep.quiet fun F w C tmps hi hf => ?_
 obtain ⟨d, hd⟩ := Q46 hc
 obtain ⟨xs, h1, h2⟩ := Q00 (a := ⟨tmps, E.ds⟩) hi hf hx
 simp only [RV] at h1
 obtain ⟨u, us, rfl, h3, rfl⟩ := h1
 rcases h2 with ⟨h2, _⟩ | ⟨_, v, hv, h2⟩
 ·cases h2
 ·cases hv
  refine ⟨.tuple #[u, .bool true], ?_, [u, .bool true], rfl, u, [.bool true], rfl, h3, .bool true, [], rfl, ⟨rfl, rfl⟩, rfl⟩
  unfold execOp
  simp [ho, h2, Q9i w hd hc]
theorem AStep.assertNo {c : AC} {z : Value} (hc : E.P.concrete t = true) (ho : o.op = .typeAssert x T0 t true) (hz : ∀ w, (zeroValue t).run E.P w = .ok z w) (h1z : z.oneCell' = true) (hx : aEval E.Γ fr x = some (.one c))
  (hno : c = .lit .nilIface ∨ ∃ t' ag cs, c = .ifc t' ag cs /\ Nat.beq t' t = false) : AStep E o fr σ (.tup [.one (.lit z), .one (.lit (.bool false))]) σ := by
 refine AStep.quiet fun F w C tmps hi hf => ?_
 obtain ⟨d, hd⟩ := Q46 hc
 have h1 := Q00 (a := ⟨tmps, E.ds⟩) hi hf hx
 refine ⟨.tuple #[z, .bool false], ?_, [z, .bool false], rfl, z, [.bool false], rfl, ⟨rfl, h1z⟩, .bool false, [], rfl, ⟨rfl, rfl⟩, rfl⟩
 have hu : Act.eval ⟨tmps, E.ds⟩ x = .nilIface ∨ ∃ t' v, Act.eval ⟨tmps, E.ds⟩ x = .iface t' v /\ t' ≠ t := by
  rcases hno with rfl | ⟨t', ag, cs, rfl, hne⟩
  ·exact .inl h1.1
  ·obtain ⟨xs, _, h2⟩ := h1
   have hne' : t' ≠ t := fun e => by subst e; simp at hne
   rcases h2 with ⟨_, h2⟩ | ⟨_, v, _, h2⟩
   ·exact .inr ⟨t', _, h2, hne'⟩
   ·exact .inr ⟨t', _, h2, hne'⟩
 unfold execOp
 simp [ho, Qav w hd hc hu (hz w)]
theorem AStep.neNilBox {cs : List AC} (ht : E.P.underlying t = some (.pointer el)) (ho : o.op = .binOp .neq t x y yt) (hx : aEval E.Γ fr x = some (.one (.box cs))) (hy : aEval E.Γ fr y = some (.one (.lit (.pointer none)))) : AStep E o fr σ (.one (.lit (.bool true))) σ := by
 refine AStep.quiet fun F w C tmps hi hf => ⟨.bool true, ?_, rfl, rfl⟩
 obtain ⟨ad, h1, _⟩ := Q00 (a := ⟨tmps, E.ds⟩) hi hf hx
 have h2 := Q00 (a := ⟨tmps, E.ds⟩) hi hf hy
 simp only [RF, R] at h2
 unfold execOp
 simp only [ho, h1, h2.1, eqGuard_at_pointer, Sem.run_bind, Sem.run_pure, Result.andThen_ok]
 simp [binOp, Q0v _ _ _ _ ht]
theorem AStep.eqNilBox {cs : List AC} (ht : E.P.underlying t = some (.pointer el)) (ho : o.op = .binOp .eql t x y yt) (hx : aEval E.Γ fr x = some (.one (.box cs))) (hy : aEval E.Γ fr y = some (.one (.lit (.pointer none)))) : AStep E o fr σ (.one (.lit (.bool false))) σ := by
 refine AStep.quiet fun F w C tmps hi hf => ⟨.bool false, ?_, rfl, rfl⟩
 obtain ⟨ad, h1, _⟩ := Q00 (a := ⟨tmps, E.ds⟩) hi hf hx
 have h2 := Q00 (a := ⟨tmps, E.ds⟩) hi hf hy
 simp only [RF, R] at h2
 unfold execOp
 simp only [ho, h1, h2.1, eqGuard_at_pointer, Sem.run_bind, Sem.run_pure, Result.andThen_ok]
 simp [binOp, Q0v _ _ _ _ ht]
end

def AFnP (P : Program) (Γ : List (Nat × List AC)) (g : Nat) (args : List FV) (ou : Outer) (Q : FV -> Outer -> Prop) (QP : List PanicEntry -> Outer -> Prop) : Prop :=
 (∀ (as' : Array Value) (w : World), (callFunc g as').run P w = .ok (.enter g as') w) /\
 ∀ (F : Nat -> Prop) (w : World) (C : Ctx) (cargs : List Value), C.nl = 0 -> Inv Γ F w C ⟨0, [], ou⟩ -> RFs w C args cargs -> Calls P g cargs.toArray w fun e w' =>
  (∃ v r ou' C', e = .returned v /\ Goes F isO w C w' C' /\ C'.nl = 0 /\ Inv Γ F w' C' ⟨0, [], ou'⟩ /\ RF w' C' r v /\ Q r ou') ∨
  (∃ ps ou' C', e = .panicked ps /\ Goes F isO w C w' C' /\ C'.nl = 0 /\ Inv Γ F w' C' ⟨0, [], ou'⟩ /\ QP ps ou')
theorem AFnP.mono {P : Program} {Γ : List (Nat × List AC)} {g : Nat} {args : List FV} {ou : Outer} {Q Q' : FV -> Outer -> Prop} {QP QP' : List PanicEntry -> Outer -> Prop} (h : AFnP P Γ g args ou Q QP) (hq : ∀ r ou', Q r ou' -> Q' r ou') (hp : ∀ ps ou', QP ps ou' -> QP' ps ou') : AFnP P Γ g args ou Q' QP' :=
 ⟨h.1, fun F w C cargs h0 hi hr => (h.2 F w C cargs h0 hi hr).mono fun e w' hh => hh.elim (fun ⟨v, r, ou', C', a, b, c, d, f, g⟩ => .inl ⟨v, r, ou', C', a, b, c, d, f, hq _ _ g⟩) (fun ⟨ps, ou', C', a, b, c, d, g⟩ => .inr ⟨ps, ou', C', a, b, c, d, hp _ _ g⟩)⟩
theorem AOps.panicI {E : Env} {ops : Array Oper} {rest : List Oper} {o : Oper} {K : Cont} {fr : Fr} {σ : St} {x : Operand} {t : TypeId} {ag : Bool} {cs : List AC} (hgd : o.guard = none) (ho : o.op = .panic x) (hx : aEval E.Γ fr x = some (.one (.ifc t ag cs)))
  (h : ∀ (w : World) (C : Ctx) (v : Value), R w C (.ifc t ag cs) v -> K (.panic [{ v := v, recovered := false }]) fr σ) : AOps E ops (o :: rest) K fr σ := by
 intro F w0 C0 w C tmps hg hi hf
 refine wpList_plain hgd fun N' hN => ?_
 have h1 := Q00 (a := ⟨tmps, E.ds⟩) hi hf hx
 have hv : ∃ u, Act.eval ⟨tmps, E.ds⟩ x = .iface t u := by
  obtain ⟨xs, _, ⟨_, h2⟩ | ⟨_, v, _, h2⟩⟩ := h1 <;> exact ⟨_, h2⟩
 obtain ⟨u, hu⟩ := hv
 have hrun : (execOp (Act.eval ⟨tmps, E.ds⟩) o).run E.P w = .halt (.panic (.iface t u)) w := by
  unfold execOp
  simp only [ho, hu]
  simp [Instr.panic, goPanic]
 unfold Oper.wp
 rw [hrun, Oper.upon_panic]
 exact ⟨rfl, fr, σ, C, hg, hi, hf, h w C _ (by rw [← hu]; exact h1)⟩
theorem AOps.callP {E : Env} {ops : Array Oper} {rest : List Oper} {o : Oper} {K : Cont} {fr : Fr} {σ : St} {f : Operand} {args : Array Operand} {tys : Array TypeId} {g : Nat} {first caps : List AC} {vs us : List FV} {Q : FV -> Outer -> Prop} {QP : List PanicEntry -> Outer -> Prop}
  (hΓ : ∀ g cs, (g, cs) ∈ E.Γ -> idsL isO cs) (hc : AFnP E.P E.Γ g us σ.ou Q QP) (hgd : o.guard = none) (hd : dstOk E.N o.dst = true) (ho : o.op = .call { callee := .value f, args := args, argTypes := tys })
  (hf : aEval E.Γ fr f = some (.one (.fn (.func g) first caps))) (hargs : Q1d E.Γ fr args.toList = some vs) (has : first.map .one ++ vs ++ caps.map .one = us) (hou : OuOk σ.ou) (hids : idsF isO us)
  (hp : ∀ ps ou', QP ps ou' -> OuOk ou' -> K (.panic ps) fr { σ with ou := ou' })
  (h : ∀ r ou', Q r ou' -> r.ids isO -> OuOk ou' -> AOps E ops rest K (putFr o.dst r fr) { σ with ou := ou' }) : AOps E ops (o :: rest) K fr σ := by
 subst has
 intro F w0 C0 w C tmps hg hi hfr
 refine wpList_plain hgd fun N' hN => ?_
 have hcallee := Q00 (a := ⟨tmps, E.ds⟩) hi hfr hf
 simp only [RF, R] at hcallee
 obtain ⟨xs, ys, hfv, hx, hy⟩ := hcallee
 have hvs := Q1c (a := ⟨tmps, E.ds⟩) hi hfr hargs
 have hall : RFs w C (first.map .one ++ vs ++ caps.map .one) (xs ++ args.toList.map (Act.eval ⟨tmps, E.ds⟩) ++ ys) := (RFs.ones hx |>.append hvs).append (RFs.ones hy)
 have hrun : (execOp (Act.eval ⟨tmps, E.ds⟩) o).run E.P w = .ok (.enter g (xs ++ args.toList.map (Act.eval ⟨tmps, E.ds⟩) ++ ys).toArray) w := by
  unfold execOp
  simp only [ho, resolve, Sem.run_bind, hfv, Deferred.ofValue, Sem.run_pure, Result.andThen_ok, invoke, hc.1]
  congr 2
  apply Array.ext'
  simp
 unfold Oper.wp
 rw [hrun, Oper.upon_enter]
 have hc1 : Chg isO w C w { C with nl := 0 } := ⟨fun _ _ => rfl, fun _ h => h, fun i hp ho => ⟨by cases i with | l k => cases hp | o k => exact ho, rfl, rfl⟩⟩
 refine (hc.2 (Q2i w C σ.ou) w { C with nl := 0 } _ rfl (hi.forCallee hou hΓ) (RFs.chg hc1 _ _ hids hall)).mono fun e w' hh => ?_
 rcases hh with ⟨v, r, ou', C', he, hgo, h0, hi', hr, hQ⟩ | ⟨ps, ou', C', he, hgo, h0, hi', hQ⟩
 ·subst he
  obtain ⟨hb1, hb2, hb3⟩ := hi.back hgo h0 hi'
  refine hN _ _ ?_
  rw [Q2h]
  have hrid : r.ids isO := FV.ids_mono (Q3s h0) r (RF.idsOk r v hr)
  exact h r ou' hQ hrid (OuOk.of_inv hi' h0) F w0 C0 w' _ _ (hg.trans hb1.toO) hb2 (Q1t (hfr.ext hb1.chg) hd (RF.chg hb3 r v hrid hr))
 ·subst he
  obtain ⟨hb1, hb2, hb3⟩ := hi.back hgo h0 hi'
  exact ⟨rfl, fr, _, _, hg.trans hb1.toO, hb2, hfr.ext hb1.chg, hp ps ou' hQ (OuOk.of_inv hi' h0)⟩
theorem AFnP.ofBody {P : Program} {T : Tab} {Γ : List (Nat × List AC)} {g : Nat} {fn : Func} {c : Code} {args : List FV} {ou : Outer} {Q : FV -> Outer -> Prop} {QP : List PanicEntry -> Outer -> Prop} (hT : TabOk P T) (hΓ : ∀ g cs, (g, cs) ∈ Γ -> idsL isO cs) (hf : P.funcs[g]? = some fn) (hb : fn.body = some c) (hname : (fn.name == "runtime.NumGoroutine") = false)
  (hlen : args.length <= fn.ntmps)
  (h : OuOk ou -> ACode ⟨P, T, Γ, fn.ntmps, []⟩ c (Q02 ⟨P, T, Γ, fn.ntmps, []⟩ (Fin ⟨P, T, Γ, fn.ntmps, []⟩ fn Q) [.pan fun ps σ => OuOk σ.ou /\ QP ps σ.ou]) (argFr 0 args) ⟨0, [], ou⟩) : AFnP P Γ g args ou Q QP := by
 refine ⟨fun as' w => ?_, fun F w C cargs h0 hi hr => ?_⟩
 ·simp [callFunc, hf, hb]
  simpa using hname
 ·have hcl : cargs.length = args.length := by
   have : ∀ (vs : List FV) (xs : List Value), RFs w C vs xs -> xs.length = vs.length := by
    intro vs
    induction vs with
    | nil => intro xs h; simp only [RFs] at h; simp [h]
    | cons v vs ih => intro xs h; simp only [RFs] at h; obtain ⟨u, us, rfl, _, h2⟩ := h; simp [ih us h2]
   exact this _ _ hr
  refine calls_of_wp hf hb ?_
  have hfr : FrOk w C fn.ntmps (argFr 0 args) (cargs.toArray ++ Array.replicate (fn.ntmps - cargs.toArray.size) undef) := by
   refine ⟨by simp; omega, fun k x hk => ?_⟩
   obtain ⟨_, h2⟩ := Q6n args 0 k x hk
   simp only [Nat.sub_zero] at h2
   obtain ⟨u, hu, hru⟩ := RFs.get hr h2
   refine ⟨u, ?_, hru⟩
   have hlt : k < cargs.length := (List.getElem?_eq_some_iff.1 hu).1
   rw [Array.getElem?_append_left (by simpa using hlt)]
   simpa using hu
  refine wp_mono (h (OuOk.of_inv hi h0) F w C w C _ (Goes.refl _ _ _ _) hi hfr) fun e a w' hp => ?_
  obtain ⟨hd, fr', σ', C', hgo, hi', hf', hk⟩ := hp
  have hc : Chg isO w' C' w' { C' with nl := 0 } := ⟨fun _ _ => rfl, fun _ h => h, fun i hp ho => ⟨by cases i with | l k => cases hp | o k => exact ho, rfl, rfl⟩⟩
  have hc0 : ∀ i, C.ok i -> isO i := Q3s h0
  have drop : OuOk σ'.ou -> Inv Γ F w' { C' with nl := 0 } ⟨0, [], σ'.ou⟩ := fun h4 => by
   refine ⟨hi'.base, rfl, fun g cs hm => ?_, hi'.prot, fun i o ho => ?_, fun i j o o' g k1 k2 k3 k4 => ?_⟩
   ·have := hi'.glob g cs hm
    exact RG.chg hc (hΓ g cs hm) this
   ·cases i with
    | l k => cases ho
    | o k =>
     obtain ⟨k1, k2⟩ := hi'.obj (.o k) o ho
     exact ⟨k1, k2.ctx isO (h4 k o ho) trivial k1 hc (fun _ h => h) (fun _ h => h)⟩
   ·cases i with
    | l k => cases k1
    | o k => cases j with
     | l k => cases k2
     | o k' =>
      have e1 := AObj.block_ctx (o := o) isO (i := .o k) trivial (hi'.obj (.o k) o k1).1 hc
      have e2 := AObj.block_ctx (o := o') isO (i := .o k') trivial (hi'.obj (.o k') o' k2).1 hc
      exact hi'.inj (.o k) (.o k') o o' g k1 k2 (by rw [← e1]; exact k3) (by rw [← e2]; exact k4)
  have fin : Fin ⟨P, T, Γ, fn.ntmps, []⟩ fn Q fr' σ' -> a.defers = [] /\ ∃ v, (results fn a.tmps).run P w' = .ok v w' /\ ((∃ v' r ou' C', Ending.returned v = .returned v' /\ Goes F isO w C w' C' /\ C'.nl = 0 /\ Inv Γ F w' C' ⟨0, [], ou'⟩ /\ RF w' C' r v' /\ Q r ou') ∨
    (∃ ps ou' C', Ending.returned v = .panicked ps /\ Goes F isO w C w' C' /\ C'.nl = 0 /\ Inv Γ F w' C' ⟨0, [], ou'⟩ /\ QP ps ou')) := by
   rintro ⟨r, r', h1, h2, h3, h4, h5⟩
   obtain ⟨u, hu, hru⟩ := Qem (tmps := a.tmps) hT hi' hf' h1
   exact ⟨hd, u, hu, .inl ⟨u, r', σ'.ou, { C' with nl := 0 }, rfl, ⟨hgo.stp, hgo.chg.trans hc, hgo.no, hgo.newp⟩, rfl, drop h4, RF.chg hc r' u h3 (h2 _ _ _ hru), h5⟩⟩
  cases e with
  | normal => exact fin hk
  | ret => exact fin hk
  | panic ps => exact ⟨hd, .inr ⟨ps, σ'.ou, { C' with nl := 0 }, rfl, ⟨hgo.stp, hgo.chg.trans hc, hgo.no, hgo.newp⟩, rfl, drop hk.1, hk.2⟩⟩
  | exit id => exact hk.elim
  | goto l => exact hk.elim
  | outgrown => exact hk.elim
theorem AFnP.walk {P : Program} {T : Tab} {Γ : List (Nat × List AC)} {g : Nat} {fn : Func} {c : Code} {args : List FV} {ou : Outer} {Q : FV -> Outer -> Prop} {QP : List PanicEntry -> Outer -> Prop} (N : Nat) (hT : TabOk P T) (hΓ : ∀ g cs, (g, cs) ∈ Γ -> idsL isO cs) (hf : P.funcs[g]? = some fn) (hb : fn.body = some c) (hname : (fn.name == "runtime.NumGoroutine") = false)
  (hN : fn.ntmps = N) (hlen : Nat.ble args.length N = true) (h : OuOk ou -> ACode ⟨P, T, Γ, N, []⟩ c (Q02 ⟨P, T, Γ, N, []⟩ (Fin ⟨P, T, Γ, N, []⟩ fn Q) [.pan fun ps σ => OuOk σ.ou /\ QP ps σ.ou]) (argFr 0 args) ⟨0, [], ou⟩) : AFnP P Γ g args ou Q QP := by
 subst hN
 exact AFnP.ofBody hT hΓ hf hb hname (Nat.le_of_ble_eq_true hlen) h
theorem Q3e.callP {E : Env} {o : Oper} {fr : Fr} {σ : St} {f : Operand} {args : Array Operand} {tys : Array TypeId} {g : Nat} {first caps : List AC} {vs us : List FV} {Q : FV -> Outer -> Prop} {QP : List PanicEntry -> Outer -> Prop} {P : FV -> St -> Prop} {PP : List PanicEntry -> St -> Prop}
  (hΓ : ∀ g cs, (g, cs) ∈ E.Γ -> idsL isO cs) (hc : AFnP E.P E.Γ g us σ.ou Q QP) (ho : o.op = .call { callee := .value f, args := args, argTypes := tys })
  (hf : aEval E.Γ fr f = some (.one (.fn (.func g) first caps))) (hargs : Q1d E.Γ fr args.toList = some vs) (has : first.map .one ++ vs ++ caps.map .one = us) (hids : idsF isO us) (hou : OuOk σ.ou)
  (h : ∀ r ou', Q r ou' -> r.ids isO -> OuOk ou' -> P r { σ with ou := ou' }) (hp : ∀ ps ou', QP ps ou' -> OuOk ou' -> PP ps { σ with ou := ou' }) : Q3e E o fr σ P PP := by
 subst has
 intro F w C tmps hi hfr next Qx hk hpk
 have hcallee := Q00 (a := ⟨tmps, E.ds⟩) hi hfr hf
 simp only [RF, R] at hcallee
 obtain ⟨xs, ys, hfv, hx, hy⟩ := hcallee
 have hvs := Q1c (a := ⟨tmps, E.ds⟩) hi hfr hargs
 have hall : RFs w C (first.map .one ++ vs ++ caps.map .one) (xs ++ args.toList.map (Act.eval ⟨tmps, E.ds⟩) ++ ys) := (RFs.ones hx |>.append hvs).append (RFs.ones hy)
 have hrun : (execOp (Act.eval ⟨tmps, E.ds⟩) o).run E.P w = .ok (.enter g (xs ++ args.toList.map (Act.eval ⟨tmps, E.ds⟩) ++ ys).toArray) w := by
  unfold execOp
  simp only [ho, resolve, Sem.run_bind, hfv, Deferred.ofValue, Sem.run_pure, Result.andThen_ok, invoke, hc.1]
  congr 2
  apply Array.ext'
  simp
 unfold Oper.wp
 rw [hrun, Oper.upon_enter]
 have hc1 : Chg isO w C w { C with nl := 0 } := ⟨fun _ _ => rfl, fun _ h => h, fun i hp ho => ⟨by cases i with | l k => cases hp | o k => exact ho, rfl, rfl⟩⟩
 refine (hc.2 (Q2i w C σ.ou) w { C with nl := 0 } _ rfl (hi.forCallee hou hΓ) (RFs.chg hc1 _ _ hids hall)).mono fun e w' hh => ?_
 rcases hh with ⟨v, r, ou', C', he, hgo, h0, hi', hr, hQ⟩ | ⟨ps, ou', C', he, hgo, h0, hi', hQ⟩
 ·subst he
  obtain ⟨hb1, hb2, hb3⟩ := hi.back hgo h0 hi'
  have hrid : r.ids isO := FV.ids_mono (Q3s h0) r (RF.idsOk r v hr)
  exact hk _ _ _ r _ (h r ou' hQ hrid (OuOk.of_inv hi' h0)) hb1 hb2 (RF.chg hb3 r v hrid hr)
 ·subst he
  obtain ⟨hb1, hb2, hb3⟩ := hi.back hgo h0 hi'
  exact hpk _ _ _ _ (hp ps ou' hQ (OuOk.of_inv hi' h0)) hb1 hb2
theorem Qer {P : Program} {t : TypeId} {z : Value} (h : ((P.info? t).bind (·.zero)) = some z) (w : World) : (zeroValue t).run P w = .ok z w := by
 cases hi : P.info? t with
 | none => rw [hi] at h; cases h
 | some i => rw [hi] at h; simp only [Option.bind_some] at h; simp [zeroValue, typeInfo, hi, h]
end Go.Abs
namespace Go.Abs
def adI (a b : Int) : Int := bI (BitVec.ofInt 64 a &&& BitVec.ofInt 64 b)
theorem AStep.and {E : Env} {o : Oper} {fr : Fr} {σ : St} {t yt : TypeId} {x y : Operand} {a b : Int} (ho : o.op = .binOp .and t x y yt) (hx : aEval E.Γ fr x = some (.one (.lit (.int .i64 a)))) (hy : aEval E.Γ fr y = some (.one (.lit (.int .i64 b)))) : AStep E o fr σ (.one (.lit (.int .i64 (adI a b)))) σ := by
 refine AStep.quiet fun F w C tmps hi hf => ⟨.int .i64 (adI a b), ?_, rfl, rfl⟩
 have h1 := Q00 (a := ⟨tmps, E.ds⟩) hi hf hx
 have h2 := Q00 (a := ⟨tmps, E.ds⟩) hi hf hy
 simp only [RF, R] at h1 h2
 unfold execOp
 simp only [ho, h1.1, h2.1, eqGuard_at_int, Sem.run_bind, Sem.run_pure, Result.andThen_ok]
 rfl
theorem Qgk (a : Int) : adI a 2147483647 = a % 2147483648 := by
 have h1 : (BitVec.ofInt 64 a &&& BitVec.ofInt 64 2147483647).toNat = (a % 2147483648).toNat := by
  rw [BitVec.toNat_and, show (BitVec.ofInt 64 2147483647).toNat = 2 ^ 31 - 1 by decide, Nat.and_two_pow_sub_one_eq_mod]
  rw [BitVec.toNat_ofInt]
  have h2 : a % 2147483648 = a % 18446744073709551616 % 2147483648 := (Int.emod_emod_of_dvd a (by decide)).symm
  rw [h2]
  have h3 : 0 <= a % 18446744073709551616 := Int.emod_nonneg _ (by decide)
  rw [show ((2 ^ 64 : Nat) : Int) = 18446744073709551616 by decide]
  omega
 unfold adI bI
 rw [h1]
 have h4 : 0 <= a % 2147483648 := Int.emod_nonneg _ (by decide)
 have h5 : a % 2147483648 < 2147483648 := Int.emod_lt_of_pos _ (by decide)
 simp [IntKind.wrap, IntKind.signed, IntKind.bits, Int.bmod]
 omega
theorem Qj7 {a b : Int} (ha : -1073741824 <= a /\ a <= 1073741823) (hb : -1073741824 <= b /\ b <= 1073741823) : -1152921504606846976 <= a * b /\ a * b <= 1152921504606846976 := by
 have h1 : (a * b).natAbs <= 1073741824 * 1073741824 := by
  rw [Int.natAbs_mul]
  exact Nat.mul_le_mul (by omega) (by omega)
 omega
end Go.Abs
namespace Go.Abs
section
variable {E : Env} {l : List Oper} {frb : Fr} {K : Cont}
theorem ACode.drawSt {id : Nat} {fr : Fr} {σ0 : St} {hd tl : List Oper} {vs0 : List FV} {op : Oper} (hT : TabOk E.P E.T) (n p : Nat) (cs : List (Nat × FV)) (s1 : St) (hm : E.P.follows .mixedOrders = true) (hB : drawB l n = true) (hsp : Q35 n l = some (hd, tl)) (hfb : Fr.woO (dsts hd) fr = some frb)
  (hqb : Qfc l [p] n = true) (hrun0 : Q1a E l.toArray l frb σ0 ((p, .bot) :: cs) 0 hd [] = some vs0) (hrun1 : Q1a E l.toArray l frb s1 ((p, .bot) :: cs) 0 hd [] = some vs0) (hop : l[p]? = some op) (hpn : Nat.blt p n = true) (hgd : op.guard = none) (hd0 : dstOk E.N op.dst = true)
  (hcs0 : Q0h E l frb σ0 vs0 cs) (hcs1 : Q0h E l frb s1 vs0 cs) (hst : AStep E op (Q0i l (mixV [p] vs0 (fC [p] [])) op ++ frb) σ0 .bot s1) (htail : AOps E l.toArray tl K (Q0b (mixV [p] vs0 (fC [p] [.bot])) 0 hd ++ frb) s1) : ACode E (.region id l.toArray true) K fr σ0 := by
 refine ACode.drawC2 hT n [p] cs (fun vs σ => match vs with | [] => σ = σ0 | [v] => v = .bot /\ σ = s1 | _ => False) hm hB hsp hfb (by simp) rfl hqb rfl hrun0 ?_ ?_ (fun i hi => by simp at hi; subst hi; exact Nat.le_of_ble_eq_true (show Nat.ble (i + 1) n = true from hpn)) ?_ ?_
 ·intro vs σ h
  match vs with
  | [] => subst h; exact hrun0
  | [_] => obtain ⟨_, rfl⟩ := h; exact hrun1
  | _ :: _ :: _ => exact h.elim
 ·intro vs σ h
  match vs with
  | [] => subst h; exact hcs0
  | [_] => obtain ⟨_, rfl⟩ := h; exact hcs1
  | _ :: _ :: _ => exact h.elim
 ·intro vs σ h i o hi ho
  match vs with
  | [] =>
   subst h; cases hi; rw [hop] at ho; cases ho
   exact ⟨hd0, .inl (.inl ⟨.bot, s1, by unfold HStep; rw [hgd]; exact hst, rfl, rfl⟩)⟩
  | _ :: _ => cases hi
 ·intro vs σ hl h
  match vs with
  | [_] => obtain ⟨rfl, rfl⟩ := h; exact htail
  | [] => cases hl
  | _ :: _ :: _ => exact h.elim
theorem ACode.drawCS {id : Nat} {fr : Fr} {σ0 : St} {hd tl : List Oper} {vs0 : List FV} {oc oa ob op : Oper} (hT : TabOk E.P E.T) (n pc a b p : Nat) (X Y : FV) (cs : List (Nat × FV)) (P P2 : FV -> St -> Prop) (hm : E.P.follows .mixedOrders = true) (hB : drawB l n = true) (hsp : Q35 n l = some (hd, tl)) (hfb : Fr.woO (dsts hd) fr = some frb)
  (hnd : [pc, a, b, p].Nodup) (hch : chainB l [pc, a, b, p] = true) (hqb : Qfc l [pc, a, b, p] n = true) (hrun0 : Q1a E l.toArray l frb σ0 ([(pc, .bot), (a, .bot), (b, .bot), (p, .bot)] ++ cs) 0 hd [] = some vs0) (hoc : l[pc]? = some oc) (hoa : l[a]? = some oa) (hob : l[b]? = some ob) (hop : l[p]? = some op)
  (hn : ([pc, a, b, p].all fun i => Nat.blt i n) = true) (hds : ([oc, oa, ob, op].all fun o => dstOk E.N o.dst && o.guard.isNone) = true)
  (hrunP : ∀ v σ, P v σ -> Q1a E l.toArray l frb σ ([(pc, .bot), (a, .bot), (b, .bot), (p, .bot)] ++ cs) 0 hd [] = some vs0) (hrunQ : ∀ v σ, P2 v σ -> Q1a E l.toArray l frb σ ([(pc, .bot), (a, .bot), (b, .bot), (p, .bot)] ++ cs) 0 hd [] = some vs0)
  (hcs0 : Q0h E l frb σ0 vs0 cs) (hcsP : ∀ v σ, P v σ -> Q0h E l frb σ vs0 cs) (hcsQ : ∀ v σ, P2 v σ -> Q0h E l frb σ vs0 cs)
  (hcall : Q3e E oc (Q0i l (mixV [pc, a, b, p] vs0 (fC [pc, a, b, p] [])) oc ++ frb) σ0 P (fun ps σ' => K (.panic ps) frb σ'))
  (ha : ∀ v σ, P v σ -> AStep E oa (Q0i l (mixV [pc, a, b, p] vs0 (fC [pc, a, b, p] [v])) oa ++ frb) σ X σ)
  (hb : ∀ v σ, P v σ -> AStep E ob (Q0i l (mixV [pc, a, b, p] vs0 (fC [pc, a, b, p] [v, X])) ob ++ frb) σ Y σ)
  (hst : ∀ v σ, P v σ -> ∃ σ', P2 v σ' /\ AStep E op (Q0i l (mixV [pc, a, b, p] vs0 (fC [pc, a, b, p] [v, X, Y])) op ++ frb) σ .bot σ')
  (htail : ∀ v σ, P2 v σ -> AOps E l.toArray tl K (Q0b (mixV [pc, a, b, p] vs0 (fC [pc, a, b, p] [v, X, Y, .bot])) 0 hd ++ frb) σ) : ACode E (.region id l.toArray true) K fr σ0 := by
 simp only [List.all_cons, List.all_nil, Bool.and_true, Bool.and_eq_true] at hds hn
 obtain ⟨⟨d1, g1⟩, ⟨d2, g2⟩, ⟨d3, g3⟩, d4, g4⟩ := hds
 have g1 := Option.isNone_iff_eq_none.1 g1
 have g2 := Option.isNone_iff_eq_none.1 g2
 have g3 := Option.isNone_iff_eq_none.1 g3
 have g4 := Option.isNone_iff_eq_none.1 g4
 refine ACode.drawC2 hT n [pc, a, b, p] cs (fun vs σ => match vs with | [] => σ = σ0 | [v] => P v σ | [v, x] => P v σ /\ x = X | [v, x, y] => P v σ /\ x = X /\ y = Y | [v, x, y, z] => P2 v σ /\ x = X /\ y = Y /\ z = .bot | _ => False) hm hB hsp hfb hnd hch hqb rfl hrun0 ?_ ?_ (fun i hi => ?_) ?_ ?_
 ·intro vs σ h
  match vs with
  | [] => subst h; exact hrun0
  | [_] => exact hrunP _ _ h
  | [_, _] => exact hrunP _ _ h.1
  | [_, _, _] => exact hrunP _ _ h.1
  | [_, _, _, _] => exact hrunQ _ _ h.1
  | _ :: _ :: _ :: _ :: _ :: _ => exact h.elim
 ·intro vs σ h
  match vs with
  | [] => subst h; exact hcs0
  | [_] => exact hcsP _ _ h
  | [_, _] => exact hcsP _ _ h.1
  | [_, _, _] => exact hcsP _ _ h.1
  | [_, _, _, _] => exact hcsQ _ _ h.1
  | _ :: _ :: _ :: _ :: _ :: _ => exact h.elim
 ·simp at hi
  rcases hi with rfl | rfl | rfl | rfl
  ·exact Nat.le_of_ble_eq_true (show Nat.ble (i + 1) n = true from hn.1)
  ·exact Nat.le_of_ble_eq_true (show Nat.ble (i + 1) n = true from hn.2.1)
  ·exact Nat.le_of_ble_eq_true (show Nat.ble (i + 1) n = true from hn.2.2.1)
  ·exact Nat.le_of_ble_eq_true (show Nat.ble (i + 1) n = true from hn.2.2.2)
 ·intro vs σ h i o hi ho
  match vs with
  | [] =>
   subst h; cases hi; rw [hoc] at ho; cases ho
   exact ⟨d1, .inr ⟨g1, hcall⟩⟩
  | [v] =>
   cases hi; rw [hoa] at ho; cases ho
   exact ⟨d2, .inl (.inl ⟨X, σ, by unfold HStep; rw [g2]; exact ha v σ h, h, rfl⟩)⟩
  | [v, _] =>
   obtain ⟨h, rfl⟩ := h
   cases hi; rw [hob] at ho; cases ho
   exact ⟨d3, .inl (.inl ⟨Y, σ, by unfold HStep; rw [g3]; exact hb v σ h, h, rfl, rfl⟩)⟩
  | [v, _, _] =>
   obtain ⟨h, rfl, rfl⟩ := h
   cases hi; rw [hop] at ho; cases ho
   obtain ⟨σ', h2, h3⟩ := hst v σ h
   exact ⟨d4, .inl (.inl ⟨.bot, σ', by unfold HStep; rw [g4]; exact h3, h2, rfl, rfl, rfl⟩)⟩
  | _ :: _ :: _ :: _ :: _ => cases hi
 ·intro vs σ hl h
  match vs with
  | [v, _, _, _] => obtain ⟨h, rfl, rfl, rfl⟩ := h; exact htail v σ h
  | [] | [_] | [_, _] | [_, _, _] => cases hl
  | _ :: _ :: _ :: _ :: _ :: _ => exact h.elim
theorem Q3e.ofR {o : Oper} {fr : Fr} {σ : St} {P : FV -> St -> Prop} {PP : List PanicEntry -> St -> Prop} (h : Q0u E o fr σ P) : Q3e E o fr σ P PP := fun F w C tmps hi hf next Q hk _ => h F w C tmps hi hf next Q hk
end
end Go.Abs
namespace Go.Abs
theorem Qls {P : Program} {T : Tab} {Γ : List (Nat × List AC)} {N : Nat} {fn : Func} {ds : List Deferred} {Q : FV -> Outer -> Prop} {F : Nat -> Prop} {w w' : World} {C C' : Ctx} {ou : Outer} {fr' : Fr} {σ' : St} {tmps : Array Value} (hT : TabOk P T) (h0 : C.nl = 0) (hi : Inv Γ F w C ⟨0, [], ou⟩)
  (hgo : Goes F isO w C w' C') (hi' : Inv Γ F w' C' σ') (hf' : FrOk w' C' N fr' tmps) (h : Fin ⟨P, T, Γ, N, ds⟩ fn Q fr' σ') : ∃ v, (results fn tmps).run P w' = .ok v w' /\ (∃ v' r ou' C', Ending.returned v = .returned v' /\ Goes F isO w C w' C' /\ C'.nl = 0 /\ Inv Γ F w' C' ⟨0, [], ou'⟩ /\ RF w' C' r v' /\ Q r ou') := by
 obtain ⟨r, r', h1, h2, h3, h4, h5⟩ := h
 obtain ⟨u, hu, hru⟩ := Qem (tmps := tmps) hT hi' hf' h1
 have hc : Chg isO w' C' w' { C' with nl := 0 } := ⟨fun _ _ => rfl, fun _ h => h, fun i hp ho => ⟨by cases i with | l k => cases hp | o k => exact ho, rfl, rfl⟩⟩
 have hc0 : ∀ i, C.ok i -> isO i := Q3s h0
 refine ⟨u, hu, u, r', σ'.ou, { C' with nl := 0 }, rfl, ⟨hgo.stp, hgo.chg.trans hc, hgo.no, hgo.newp⟩, rfl, ⟨hi'.base, rfl, fun g cs hm => ?_, hi'.prot, fun i o ho => ?_, fun i j o o' g k1 k2 k3 k4 => ?_⟩, RF.chg hc r' u h3 (h2 _ _ _ hru), h5⟩
 ·have := hi.glob g cs hm
  have hids := Q12 hc0 cs (RL.idsOk cs _ this.rl)
  exact RG.chg (hgo.chg.trans hc) hids this
 ·cases i with
  | l k => cases ho
  | o k =>
   obtain ⟨k1, k2⟩ := hi'.obj (.o k) o ho
   exact ⟨k1, k2.ctx isO (h4 k o ho) trivial k1 hc (fun _ h => h) (fun _ h => h)⟩
 ·cases i with
  | l k => cases k1
  | o k => cases j with
   | l k => cases k2
   | o k' =>
    have e1 := AObj.block_ctx (o := o) isO (i := .o k) trivial (hi'.obj (.o k) o k1).1 hc
    have e2 := AObj.block_ctx (o := o') isO (i := .o k') trivial (hi'.obj (.o k') o' k2).1 hc
    exact hi'.inj (.o k) (.o k') o o' g k1 k2 (by rw [← e1]; exact k3) (by rw [← e2]; exact k4)
theorem RV.len {w : World} {C : Ctx} : ∀ {cs : List AC} {xs : List Value}, RV w C cs xs -> xs.length = cs.length
 | [], xs, h => by simp only [RV] at h; simp [h]
 | c :: cs, xs, h => by simp only [RV] at h; obtain ⟨u, us, rfl, _, h2⟩ := h; simp [RV.len h2]
theorem AFn.ofDefer {P : Program} {T : Tab} {Γ : List (Nat × List AC)} {g gd i1 d5 : Nat} {fn : Func} {r0 rest : Code} {o0 o1 : Oper} {args : List FV} {ou : Outer} {Q : FV -> Outer -> Prop} {fr1 : Fr} {σ1 : St} {first caps : List AC} (hT : TabOk P T) (hf : P.funcs[g]? = some fn) (hb : fn.body = some (.seq r0 (.seq (.region i1 #[o0, o1] false) rest))) (hname : (fn.name == "runtime.NumGoroutine") = false)
  (hlen : args.length <= fn.ntmps) (h0 : OuOk ou -> ACode ⟨P, T, Γ, fn.ntmps, []⟩ r0 (fun e fr σ => e = .normal /\ fr = fr1 /\ σ = σ1) (argFr 0 args) ⟨0, [], ou⟩)
  (hg0 : o0.guard = none) (hd0 : o0.dst = some d5) (hdl : d5 < fn.ntmps) (hs0 : AStep ⟨P, T, Γ, fn.ntmps, []⟩ o0 fr1 σ1 (.one (.fn (.func gd) first caps)) σ1)
  (hg1 : o1.guard = none) (hd1 : o1.dst = none) (ho1 : o1.op = .defer { callee := .value (.tmp d5), args := #[], argTypes := #[] })
  (hdef : ∀ (us : Array Value) (w : World), (callFunc gd us).run P w = .ok (.enter gd us) w /\ (us.size = first.length + caps.length -> CallsD P gd us .returning w fun e u' w' => (∃ v, e = .returned v) /\ u' = .returning /\ w' = w))
  (hrest : OuOk ou -> ∀ ds, ACode ⟨P, T, Γ, fn.ntmps, ds⟩ rest (Q02 ⟨P, T, Γ, fn.ntmps, ds⟩ (Fin ⟨P, T, Γ, fn.ntmps, ds⟩ fn Q) []) ((d5, .one (.fn (.func gd) first caps)) :: fr1) σ1) : AFn P Γ g args ou Q := by
 refine ⟨fun vs0 w => ?_, fun F w C cargs h0' hi hr => ?_⟩
 ·simp [callFunc, hf, hb]
  simpa using hname
 ·have hcl : cargs.length = args.length := by
   have : ∀ (vs : List FV) (xs : List Value), RFs w C vs xs -> xs.length = vs.length := by
    intro vs
    induction vs with
    | nil => intro xs h; simp only [RFs] at h; simp [h]
    | cons v vs ih => intro xs h; simp only [RFs] at h; obtain ⟨u, us, rfl, _, h2⟩ := h; simp [ih us h2]
   exact this _ _ hr
  refine calls_of_wp_defers hf hb ?_
  have hfr : FrOk w C fn.ntmps (argFr 0 args) (cargs.toArray ++ Array.replicate (fn.ntmps - cargs.toArray.size) undef) := by
   refine ⟨by simp; omega, fun k x hk => ?_⟩
   obtain ⟨_, h2⟩ := Q6n args 0 k x hk
   simp only [Nat.sub_zero] at h2
   obtain ⟨u, hu, hru⟩ := RFs.get hr h2
   refine ⟨u, ?_, hru⟩
   have hlt : k < cargs.length := (List.getElem?_eq_some_iff.1 hu).1
   rw [Array.getElem?_append_left (by simpa using hlt)]
   simpa using hu
  have hou := OuOk.of_inv hi h0'
  refine wp_seq (wp_mono (h0 hou F w C w C _ (Goes.refl _ _ _ _) hi hfr) fun e a w1 hp => ?_)
  obtain ⟨hda, fr', σ', C1, hg1', hi1, hf1, rfl, rfl, rfl⟩ := hp
  have ha : a = ⟨a.tmps, []⟩ := by cases a; simp_all
  rw [ha]
  refine wp_seq (wp_region_lit (l := [o0, o1]) ?_)
  refine wpList_plain hg0 fun N' hN => hs0 F w1 C1 a.tmps hi1 hf1 N' _ fun u w2 C2 hgo2 hi2 hr2 => ?_
  refine hN _ _ ?_
  have hf2 : FrOk w2 C2 fn.ntmps ((d5, .one (.fn (.func gd) first caps)) :: fr') (Act.put ⟨a.tmps, []⟩ o0.dst u).tmps := by
   have := Q1t (ds := []) (dst := some d5) (hf1.ext hgo2.chg) (by simp [dstOk, Nat.blt]; omega) hr2
   rw [hd0]; exact this
  rw [Q2h]
  generalize hat : (Act.put ⟨a.tmps, []⟩ o0.dst u).tmps = tm2 at hf2
  refine wpList_plain hg1 fun N2 hN2 => ?_
  obtain ⟨u5, hu5, hr5⟩ := hf2.2 d5 (.one (.fn (.func gd) first caps)) (by simp [Fr.get])
  simp only [RF, R] at hr5
  obtain ⟨xs, ys, rfl, hx, hy⟩ := hr5
  have hev : Act.eval ⟨tm2, []⟩ (.tmp d5) = .func (.func gd) xs.toArray ys.toArray := by
   simp [Act.eval, hu5]
  have hrun : (execOp (Act.eval ⟨tm2, []⟩) o1).run P w2 = .ok (.defer ⟨.fn (.func gd) ys.toArray, xs.toArray⟩) w2 := by
   unfold execOp
   simp only [ho1, resolve, Sem.run_bind, hev, Deferred.ofValue, Sem.run_pure, Result.andThen_ok]
   simp
  unfold Oper.wp
  rw [hrun, Oper.upon_defer]
  refine hN2 _ _ ?_
  rw [hd1]
  show rest.wp P _ ⟨tm2, [⟨.fn (.func gd) ys.toArray, xs.toArray⟩]⟩ w2
  refine wp_mono (hrest hou [⟨.fn (.func gd) ys.toArray, xs.toArray⟩] F w C w2 C2 tm2 (hg1'.trans hgo2.toO) hi2 hf2) fun e a3 w3 hp => ?_
  obtain ⟨hd3, fr3, σ3, C3, hg3, hi3, hf3, hk⟩ := hp
  have hxs : xs.length = first.length := RV.len hx
  have hys : ys.length = caps.length := RV.len hy
  have key : Fin ⟨P, T, Γ, fn.ntmps, [⟨.fn (.func gd) ys.toArray, xs.toArray⟩]⟩ fn Q fr3 σ3 -> Leaves P fn a3.tmps (fun e w' => ∃ v r ou' C', e = .returned v /\ Goes F isO w C w' C' /\ C'.nl = 0 /\ Inv Γ F w' C' ⟨0, [], ou'⟩ /\ RF w' C' r v /\ Q r ou') a3.defers .returning w3 := fun hfin => by
   obtain ⟨v, hv, hR⟩ := Qls hT h0' hi hg3 hi3 hf3 hfin
   rw [hd3]
   refine ⟨by simp, .func gd, ys.toArray, gd, xs.toArray ++ ys.toArray, rfl, ?_, ((hdef _ w3).2 (by simp [hxs, hys])).mono ?_⟩
   ·show (invoke (.fn (.func gd) ys.toArray) xs.toArray).run P w3 = _
    simp only [invoke]
    exact (hdef _ w3).1
   ·rintro e u' w' ⟨⟨v', rfl⟩, rfl, rfl⟩
    exact ⟨v, hv, hR⟩
  cases e with
  | normal => exact key hk
  | ret => exact key hk
  | panic ps => exact hk.elim
  | exit id => exact hk.elim
  | goto l => exact hk.elim
  | outgrown => exact hk.elim
theorem AOps.growO {E : Env} {ops : Array Oper} {l : List Oper} {K : Cont} {fr : Fr} {σ : St} (k off : Nat) (e : TypeId) (s : Nat) {cs : List AC} (h : σ.get (.l k) = some (.cells cs)) (hoff : cs[off]? = some (.lit (.slice none 0 0)))
  (hk : AOps E ops l K fr ((σ.set (.l k) (.cells (cs.set off (.gs s [] (.l σ.n))))).push (.tok e s 0))) : AOps E ops l K fr σ := by
 intro F w0 C0 w C tmps hg hi hf
 have hno := Ctx.tokd_new C none (fun _ => False) hi.next
 have he : Ext w C w (C.tokd none (fun _ => False)) := ⟨fun _ _ => rfl, fun _ h => .inl h, fun i _ ho => Ctx.tokd_old C _ _ ho⟩
 -- first the token
 have hi1 : Inv E.Γ F w (C.tokd none (fun _ => False)) (σ.push (.tok e s 0)) :=
  hi.addObj (σ.get_push _) he (by simp [Ctx.tokd, Ctx.more, St.push, hi.next]) hi.base (fun a ha => hi.prot a (ha.resolve_right id)) (fun _ _ _ _ _ _ h => h) (fun _ _ _ _ _ _ ha => ha.resolve_right id) hno.1
   (by simp only [ObjOk, hno.2]) (fun i p g _ _ hb => by simp [AObj.block, hno.2] at hb)
 have hget : (σ.push (.tok e s 0)).get (.l k) = some (.cells cs) := by
  rw [St.get_push]
  have : ¬ (Id.l k = Id.l σ.n) := by
   intro e'
   have := (hi.obj _ _ h).1
   rw [e'] at this
   simp only [Ctx.ok] at this
   have := hi.next
   omega
  rw [if_neg this]; exact h
 obtain ⟨hok, xs, T, h1, h2, h3, h4⟩ := hi1.obj _ _ hget
 have hxs : xs[off]? = some (.slice none 0 0) := by
  have : ∀ (cs : List AC) (xs : List Value) (off : Nat), RV w (C.tokd none (fun _ => False)) cs xs -> cs[off]? = some (.lit (.slice none 0 0)) -> xs[off]? = some (.slice none 0 0) := by
   intro cs
   induction cs with
   | nil => intro xs off _ h; simp at h
   | cons c cs ih =>
    intro xs off h h'
    simp only [RV] at h
    obtain ⟨u, us, rfl, g1, g2⟩ := h
    cases off with
    | zero => simp at h'; subst h'; simp only [R] at g1; simp [g1.1]
    | succ off => simpa using ih us off g2 (by simpa using h')
  exact this cs xs off h3 hoff
 have hr' : RV w (C.tokd none (fun _ => False)) (cs.set off (.gs s [] (.l σ.n))) xs := by
  have : ∀ (cs : List AC) (xs : List Value) (off : Nat), RV w (C.tokd none (fun _ => False)) cs xs -> xs[off]? = some (.slice none 0 0) -> RV w (C.tokd none (fun _ => False)) (cs.set off (.gs s [] (.l σ.n))) xs := by
   intro cs
   induction cs with
   | nil => intro xs off h _; simpa using h
   | cons c cs ih =>
    intro xs off h h'
    simp only [RV] at h
    obtain ⟨u, us, rfl, g1, g2⟩ := h
    cases off with
    | zero => simp at h'; subst h'; exact ⟨_, us, rfl, ⟨hno.1, .inl ⟨rfl, rfl, hno.2⟩⟩, g2⟩
    | succ off => exact ⟨u, us, rfl, g1, ih us off g2 (by simpa using h')⟩
  exact this cs xs off h3 hxs
 have hi2 := (hi1.turn (o' := .cells (cs.set off (.gs s [] (.l σ.n)))) hget rfl rfl (fun _ _ => rfl) (fun _ _ _ => rfl) rfl (fun he' => ⟨xs, T, h1, h2, hr', h4⟩)).2
 refine hk F w0 C0 w _ tmps (hg.trans ⟨Stp.refl _ _, he.weaken (fun _ _ => trivial), by simp [Ctx.tokd, Ctx.more], fun a ha => .inl (ha.resolve_right id)⟩) ?_ (hf.ext he)
 have hkn : k ≠ σ.n := by
  rintro rfl
  have h5 := (hi.obj _ _ h).1
  simp only [Ctx.ok] at h5
  have := hi.next
  omega
 exact ⟨hi2.base, by have := hi2.next; simpa [St.push, St.set] using this, hi2.glob, hi2.prot, fun i o ho => hi2.obj i o (by rw [← Q57 hkn]; exact ho), fun i j o o' g a b c d => hi2.inj i j o o' g (by rw [← Q57 hkn]; exact a) (by rw [← Q57 hkn]; exact b) c d⟩

theorem AFn.forgetD {P : Program} {Γ : List (Nat × List AC)} {g : Nat} {args : List FV} {ou : Outer} {Q : FV -> Outer -> Prop} (h : AFn P Γ g args ou (fun r ou' => ∃ ou'' : Outer, (∀ m o, ou'' m = some o -> ou' m = some o ∨ (o = .dead /\ ∃ p, ou m = some p)) /\ Q r ou'')) : AFn P Γ g args ou Q := by
 refine ⟨h.1, fun F w C cargs h0 hi hr => (h.2 F w C cargs h0 hi hr).mono fun e w' ⟨v, r, ou', C', h1, h2, h3, h4, h5, ou'', h6, h7⟩ => ⟨v, r, ou'', C', h1, h2, h3, ?_, h5, h7⟩⟩
 have hs : ∀ i o, (St.mk 0 [] ou'').get i = some o -> (St.mk 0 [] ou').get i = some o ∨ (o = .dead /\ isO i /\ ∃ p, (St.mk 0 [] ou).get i = some p) := fun i o hio => by
  cases i with
  | l m => cases hio
  | o m => exact (h6 m o hio).imp id fun ⟨a, b⟩ => ⟨a, trivial, b⟩
 refine ⟨h4.base, h4.next, h4.glob, h4.prot, fun i o ho => ?_, fun i j o o' g k1 k2 h3 h5 => ?_⟩
 ·rcases hs i o ho with hh | ⟨rfl, hio, p, hp⟩
  ·exact h4.obj i o hh
  ·exact ⟨(h2.chg.id i hio (hi.obj i p hp).1).1, trivial⟩
 ·rcases hs i o k1 with hh | ⟨rfl, _, p, hp⟩
  ·rcases hs j o' k2 with hh2 | ⟨rfl, _, p, hp⟩
   ·exact h4.inj i j o o' g hh hh2 h3 h5
   ·simp [AObj.block] at h5
  ·simp [AObj.block] at h3
end Go.Abs
namespace Go.CoreX
structure Alt where
 tag : Int
 binds : List Int
 deriving DecidableEq
structure Ex where
 op : Int
 n : Int
 binds : List Int
 kids : List Int
 alts : List Alt
 deriving DecidableEq
inductive Tr where
 | mk (op n : Int) (binds : List Int) (kids : List Tr) (alts : List Alt)
instance : Inhabited Tr := ⟨.mk 0 0 [] [] []⟩
def Tr.op : Tr -> Int | .mk o _ _ _ _ => o
def Tr.n : Tr -> Int | .mk _ n _ _ _ => n
def Tr.binds : Tr -> List Int | .mk _ _ b _ _ => b
def Tr.kids : Tr -> List Tr | .mk _ _ _ k _ => k
def Tr.alts : Tr -> List Alt | .mk _ _ _ _ a => a
@[simp] theorem Tr.op_mk (o n b k a) : (Tr.mk o n b k a).op = o := rfl
@[simp] theorem Tr.n_mk (o n b k a) : (Tr.mk o n b k a).n = n := rfl
@[simp] theorem Tr.binds_mk (o n b k a) : (Tr.mk o n b k a).binds = b := rfl
@[simp] theorem Tr.kids_mk (o n b k a) : (Tr.mk o n b k a).kids = k := rfl
@[simp] theorem Tr.alts_mk (o n b k a) : (Tr.mk o n b k a).alts = a := rfl

def Q2d (ts : List Tr) (x : Ex) : Tr := .mk x.op x.n x.binds (x.kids.map fun k => ts.getD k.toNat default) x.alts
def Qg6 (ts : List Tr) (x : Ex) : List Tr := ts ++ [Q2d ts x]
def growL (e : List Ex) : List Tr := e.foldl Qg6 []
def grow (e : List Ex) : Tr := (growL e).getD (e.length - 1) default

mutual
def listT (out : List Ex) : Tr -> List Ex
 | .mk o n b k a => (Q03 out k).1 ++ [⟨o, n, b, (Q03 out k).2, a⟩]
def Q03 (out : List Ex) : List Tr -> List Ex × List Int
 | [] => (out, [])
 | t :: ts => ((Q03 (listT out t) ts).1, (((listT out t).length : Int) - 1) :: (Q03 (listT out t) ts).2)
end

def Q0z (op : Int) (binds : List Int) (alts : List Alt) : List Int := (if op = 2 ∨ op = 4 ∨ op = 5 then binds else []) ++ alts.flatMap (·.binds)
def Q2f (op : Int) (binds : List Int) (alts : List Alt) (k : Int) : List Int :=
 if op = 2 ∨ op = 5 ∨ (op = 4 /\ k = 1) then binds else if 0 < (alts.length : Int) /\ 0 < k /\ k <= alts.length then (alts.getD (k - 1).toNat ⟨0, []⟩).binds else []

def Q16 (i : Nat) (s : Option (List Int × List Int)) (k : Int) : Option (List Int × List Int) :=
 s.bind fun dp => if k < 0 ∨ (i : Int) <= k then none else some (dp.1.set i (if dp.1.getD k.toNat 0 > dp.1.getD i 0 then dp.1.getD k.toNat 0 else dp.1.getD i 0), dp.2.set k.toNat (dp.2.getD k.toNat 0 + 1))
def Q1m (s : Option (List Int × List Int)) (x : Ex × Nat) : Option (List Int × List Int) :=
 (x.1.kids.foldl (Q16 x.2) s).map fun dp => (dp.1.set x.2 (dp.1.getD x.2 0 + 1), dp.2)
def Q4h (e : List Ex) : Option (List Int × List Int) := e.zipIdx.foldl Q1m (some (List.replicate e.length 0, List.replicate e.length 0))
def Q21 (n : Nat) (p : List Int) (i : Nat) : Bool := !((p.getD i 0 == 1) == decide ((i : Int) < n - 1))
def Q1f (e : List Ex) : Int :=
 if 4096 < e.length then 2 else if e.length = 0 then 3 else
 match Q4h e with
 | none => 3
 | some (d, p) => if (List.range e.length).any (Q21 e.length p) = true then 3 else if 400 < d.getD (e.length - 1) 0 then 2 else 0

def between (n low high : Int) : Bool := decide (low <= n) && decide (n <= high)
def Q45 (op : Int) : Bool := op == 14 || op == 15 || op == 16
def Q59 (op : Int) : Bool := op == 2 || op == 5 || op == 12 || op == 13
def Q4e (x : Ex) (i : Nat) (a : Alt) : Bool :=
 ((x.alts.take i).any (fun b => b.tag == a.tag) || decide (a.tag < -1)) ||
 (x.op == 7 && a.tag == -1 && (decide ((i : Int) < x.alts.length - 1) || decide (0 < a.binds.length))) ||
 ((x.op == 13 && !(((i : Int) == 0) == (a.tag == -1))) || (x.op == 13 && !((a.binds.length : Int) == (if 2 < (i : Int) + 1 then 2 else (i : Int) + 1))))
def Q5h (x : Ex) : Bool := !(x.alts.zipIdx.any fun ai => Q4e x ai.2 ai.1) && ((x.kids.length : Int) == 1 + x.alts.length && (x.op == 7 || decide (0 < x.alts.length)))
def Q4c : List Int := [2, 2, 2, 2, 2, 2, 2, 1, 2, 1, 2, 3]
def wants (x : Ex) : Option (Int × Int × Bool) :=
 if x.op = 0 ∨ x.op = 1 ∨ x.op = 17 then some (0, 0, true) else
 if x.op = 2 then some (1, x.binds.length, false) else
 if x.op = 3 then some (if (x.kids.length : Int) > 1 then x.kids.length else 1, 0, false) else
 if x.op = 4 then some (2, 1, false) else
 if x.op = 5 then some (x.binds.length + 1, if (x.binds.length : Int) > 1 then x.binds.length else 1, false) else
 if x.op = 6 then some (x.kids.length, 0, true) else
 if x.op = 8 then (if between x.n 0 11 = true then some (Q4c.getD x.n.toNat 0, 0, true) else none) else
 if x.op = 9 then some (x.binds.length, x.binds.length, false) else
 if x.op = 10 ∨ x.op = 12 then some (1, 0, true) else
 if x.op = 11 then some (2, 0, true) else
 if x.op = 14 ∨ x.op = 15 then some (x.kids.length, 0, true) else
 if x.op = 16 then some (1, 0, true) else none
def shape (x : Ex) : Bool :=
 if x.op = 7 ∨ x.op = 13 then Q5h x && x.binds.length == 0 && x.n == 0 else
 match wants x with
 | none => false
 | some (k, b, u) => (x.kids.length : Int) == k && (x.binds.length : Int) == b && x.alts.length == 0 && (u || x.n == 0)
def lowN (op : Int) : Int := if op = 1 then -1073741824 else if op = 17 then 1 else 0
def highN (op : Int) : Int := if op = 1 then 1073741823 else if op = 6 then 255 else if op = 17 then 6 else if op = 16 then 15 else 1048575
def Q3n (n : Int) : Bool := between n 0 1048575
def Q47 (op : Int) (a : Alt) : Bool := !((decide (255 < a.tag) && op == 7) || decide (1048576 <= a.tag)) && a.binds.all Q3n
def fields (x : Ex) : Int := x.alts.foldl (fun f a => if (a.binds.length : Int) > f then a.binds.length else f) x.binds.length
def ranges (x : Ex) : Int :=
 if between x.n (lowN x.op) (highN x.op) = false then 4 else
 if x.binds.all Q3n = false then 4 else
 if x.alts.all (Q47 x.op) = false then 4 else
 if ((decide (fields x > (if x.op = 2 then 6 else 16)) || ((x.op == 6 || x.op == 15) && decide (16 < (x.kids.length : Int)))) || (x.op == 3 && decide (7 < (x.kids.length : Int)))) || (x.op == 14 && decide (6 < (x.kids.length : Int))) then 2 else 0
def Q1j (e : List Ex) (x : Ex) (i : Nat) : Bool :=
 (x.op == 5 && !((e.getD (x.kids.getD i 0).toNat ⟨0, 0, [], [], []⟩).op == 2)) || (x.op == 9 && decide (0 < i) && decide (x.binds.getD (i - 1) 0 ≥ x.binds.getD i 0))
def Q1h (e : List Ex) (x : Ex) : Int :=
 if shape x = false then 3 else if ranges x ≠ 0 then ranges x else if (List.range x.binds.length).any (Q1j e x) = true then 3 else 0
def Q0f (flat : Bool) (e : List Ex) (x : Ex) : Int := if (flat && Q59 x.op) || (!flat && Q45 x.op) then 3 else Q1h e x
def Q18 {α : Type} (f : α -> Int) : List α -> Int
 | [] => 0
 | a :: l => if f a ≠ 0 then f a else Q18 f l

def Q4r : List Int -> Bool
 | [] => false
 | n :: l => l.contains n || Q4r l
def Q0n (x : Ex) : List Int := Q0z x.op x.binds x.alts
def Q07 (e : List Ex) : List Int := e.flatMap Q0n

mutual
def occT (sc : List Int) : Tr -> List Int
 | .mk o n b k a => (if o = 0 /\ sc.contains n = false then [n] else []) ++ occTs sc o b a 0 k
def occTs (sc : List Int) (o : Int) (b : List Int) (a : List Alt) : Nat -> List Tr -> List Int
 | _, [] => []
 | i, t :: ts => occT (Q2f o b a i ++ sc) t ++ occTs sc o b a (i + 1) ts
end
def Q4p (n : Int) : List Int -> List Int
 | [] => [n]
 | m :: l => if n < m then n :: m :: l else if n = m then m :: l else m :: Q4p n l
def sortS (l : List Int) : List Int := l.foldr Q4p []
def Q2n (t : Tr) : List Int := sortS (occT [] t)

def body (e : List Ex) (params : List Int) (flat : Bool) : Int :=
 if Q1f e ≠ 0 then Q1f e else
 if Q18 (Q0f flat e) e ≠ 0 then Q18 (Q0f flat e) e else
 if Q4r (params ++ Q07 e) = true then 7 else
 if (Q2n (grow e)).all (fun n => params.contains n) = true then 0 else 6
def check (e : List Ex) : Int := body e [] false
end Go.CoreX
namespace Go.CoreX
structure Lab where
 op : Int
 n : Int
 binds : List Int
 ops : List Int
 alts : List Alt
 deriving DecidableEq
mutual
def sumT (g : Lab -> Int) : Tr -> Int
 | .mk o n b k a => g ⟨o, n, b, k.map Tr.op, a⟩ + sumTs g k
def sumTs (g : Lab -> Int) : List Tr -> Int
 | [] => 0
 | t :: ts => sumT g t + sumTs g ts
end
def mx (m d : Int) : Int := if d > m then d else m
mutual
def Q1x : Tr -> Int
 | .mk _ _ _ k _ => (Q5r k).foldl mx 0 + 1
def Q5r : List Tr -> List Int
 | [] => []
 | t :: ts => Q1x t :: Q5r ts
end
theorem Q7d : ∀ l : List Tr, Q5r l = l.map Q1x
 | [] => rfl
 | t :: ts => by simp [Q5r, Q7d ts]
theorem Q7n (g : Lab -> Int) : ∀ l : List Tr, sumTs g l = (l.map (sumT g)).sum
 | [] => rfl
 | t :: ts => by simp [sumTs, Q7n g ts]
theorem Q25 (e : List Ex) (x : Ex) : growL (e ++ [x]) = growL e ++ [Q2d (growL e) x] := by simp [growL, Qg6]
theorem Q68 {α : Type} {P : List α -> Prop} (h0 : P []) (h1 : ∀ l x, P l -> P (l ++ [x])) (l : List α) : P l := by
 have : ∀ l : List α, P l.reverse := by
  intro l
  induction l with
  | nil => exact h0
  | cons a l ih => rw [List.reverse_cons]; exact h1 _ _ ih
 simpa using this l.reverse
theorem Q0e (e : List Ex) : (growL e).length = e.length := by
 refine Q68 (P := fun e => (growL e).length = e.length) rfl (fun l x ih => ?_) e
 rw [Q25]; simp [ih]
theorem Qju (e l : List Ex) : ∃ r, growL (e ++ l) = growL e ++ r := by
 refine Q68 (P := fun l => ∃ r, growL (e ++ l) = growL e ++ r) ⟨[], by simp⟩ (fun l x ih => ?_) l
 obtain ⟨r, h⟩ := ih
 exact ⟨r ++ [Q2d (growL (e ++ l)) x], by rw [← List.append_assoc, Q25, h]; simp⟩
theorem Q6h {α : Type} {l r : List α} {i : Nat} {d : α} (h : i < l.length) : (l ++ r).getD i d = l.getD i d := by
 simp [List.getD, List.getElem?_append_left h]
theorem Q4s {e l : List Ex} {i : Nat} (h : i < e.length) : (growL (e ++ l)).getD i default = (growL e).getD i default := by
 obtain ⟨r, hr⟩ := Qju e l
 rw [hr, Q6h (by rw [Q0e]; exact h)]
theorem Q7x (e l : List Ex) (x : Ex) : (growL (e ++ x :: l)).getD e.length default = Q2d (growL e) x := by
 rw [show e ++ x :: l = (e ++ [x]) ++ l by simp, Q4s (by simp), Q25]
 simp [List.getD, Q0e]
theorem Qjt (e : List Ex) (x : Ex) : grow (e ++ [x]) = Q2d (growL e) x := by
 unfold grow
 have := Q7x e [] x
 simpa using this
def cnt : List Ex -> Nat -> Nat
 | [], _ => 0
 | x :: e, i => x.kids.count (i : Int) + cnt e i
theorem Qeh (e l : List Ex) (i : Nat) : cnt (e ++ l) i = cnt e i + cnt l i := by
 induction e with
 | nil => simp [cnt]
 | cons x e ih => simp [cnt, ih, Nat.add_assoc]
def Q0k (e : List Ex) : Prop := ∀ (j : Nat) (x : Ex), e[j]? = some x -> ∀ k ∈ x.kids, 0 <= k /\ k < (j : Int)
theorem Q39 {e : List Ex} {x : Ex} : Q0k (e ++ [x]) ↔ Q0k e /\ ∀ k ∈ x.kids, 0 <= k /\ k < e.length := by
 constructor
 ·intro h
  refine ⟨fun j y hj => h j y ?_, ?_⟩
  ·rw [List.getElem?_append_left (List.getElem?_eq_some_iff.1 hj).1]; exact hj
  ·exact h e.length x (by simp)
 ·intro ⟨h1, h2⟩ j y hj
  by_cases hl : j < e.length
  ·rw [List.getElem?_append_left hl] at hj; exact h1 j y hj
  ·rw [List.getElem?_append_right (by omega)] at hj
   have : j = e.length := by
    have := (List.getElem?_eq_some_iff.1 hj).1
    simp at this; omega
   subst this
   simp at hj; subst hj; exact h2
theorem Qa3 {e l : List Ex} (h : Q0k (e ++ l)) : Q0k e := fun j y hj => h j y (by
 rw [List.getElem?_append_left (List.getElem?_eq_some_iff.1 hj).1]; exact hj)

structure Run (pre : List Ex) (N : Nat) (d p : List Int) : Prop where
 dl : d.length = N
 pl : p.length = N
 pv : ∀ i, i < N -> p.getD i 0 = cnt pre i
 dv : ∀ i, i < pre.length -> d.getD i 0 = Q1x ((growL pre).getD i default)
 d0 : ∀ i, pre.length <= i -> d.getD i 0 = 0
theorem Q3i (i : Nat) : ∀ ks : List Int, ks.foldl (Q16 i) none = none
 | [] => rfl
 | k :: ks => by rw [List.foldl_cons]; exact Q3i i ks
theorem Q44 {l : List Int} {i : Nat} {v : Int} (h : i < l.length) : (l.set i v).getD i 0 = v := by simp [List.getD, h]
theorem getD_set_ne {l : List Int} {i j : Nat} {v : Int} (h : i ≠ j) : (l.set i v).getD j 0 = l.getD j 0 := by simp [List.getD, List.getElem?_set_ne h]
theorem Ql1 {l : List Int} {i : Nat} (h : i < l.length) : l.set i (l.getD i 0) = l := by
 apply List.ext_getElem?
 intro j
 by_cases hj : i = j
 ·subst hj; simp [h, List.getD, List.getElem?_eq_getElem h]
 ·rw [List.getElem?_set_ne hj]
theorem Qfv {i N : Nat} : ∀ (ks : List Int) (d p : List Int), d.length = N -> p.length = N -> i < N -> (∀ k ∈ ks, 0 <= k /\ k < i) ->
  ∃ p', ks.foldl (Q16 i) (some (d, p)) = some (d.set i (ks.foldl (fun m k => mx m (d.getD k.toNat 0)) (d.getD i 0)), p') /\ p'.length = N /\ ∀ j, j < N -> p'.getD j 0 = p.getD j 0 + ks.count (j : Int)
 | [], d, p, hd, hp, hi, _ => ⟨p, by rw [List.foldl_nil, List.foldl_nil, Ql1 (show i < d.length by omega)], hp, by simp⟩
 | k :: ks, d, p, hd, hp, hi, hk => by
  obtain ⟨k0, k1⟩ := hk k (by simp)
  have hks : ∀ k ∈ ks, 0 <= k /\ k < i := fun y hy => hk y (by simp [hy])
  obtain ⟨p', h1, h2, h3⟩ := Qfv ks (d.set i (mx (d.getD i 0) (d.getD k.toNat 0))) (p.set k.toNat (p.getD k.toNat 0 + 1)) (by simpa using hd) (by simpa using hp) hi hks
  refine ⟨p', ?_, h2, fun j hj => ?_⟩
  ·rw [List.foldl_cons]
   have e1 : Q16 i (some (d, p)) k = some (d.set i (mx (d.getD i 0) (d.getD k.toNat 0)), p.set k.toNat (p.getD k.toNat 0 + 1)) := by
    simp only [Q16, Option.bind_some, mx]
    rw [if_neg (by omega)]
   rw [e1, h1, List.set_set, Q44 (by omega), List.foldl_cons]
   congr 2
   have : ∀ (l : List Int) (m : Int), (∀ k ∈ l, 0 <= k /\ k < i) -> l.foldl (fun m k' => mx m ((d.set i (mx (d.getD i 0) (d.getD k.toNat 0))).getD k'.toNat 0)) m = l.foldl (fun m k' => mx m (d.getD k'.toNat 0)) m := by
    intro l
    induction l with
    | nil => intro m _; rfl
    | cons y l ih =>
     intro m hl
     have hy := hl y (by simp)
     simp only [List.foldl_cons]
     rw [getD_set_ne (by omega), ih _ (fun z hz => hl z (by simp [hz]))]
   rw [this ks _ hks]
  ·rw [h3 j hj, List.count_cons]
   by_cases hkj : k.toNat = j
   ·subst hkj
    rw [Q44 (by omega)]
    have : (k == ((k.toNat : Nat) : Int)) = true := by simp; omega
    rw [if_pos this]; omega
   ·rw [getD_set_ne hkj]
    have : ¬ (k == (j : Int)) = true := by simp; omega
    rw [if_neg this]; omega
theorem Qfw {i N : Nat} : ∀ (ks : List Int) (d p : List Int), ¬ (∀ k ∈ ks, 0 <= k /\ k < i) -> ks.foldl (Q16 i) (some (d, p)) = none
 | [], d, p, h => absurd (by simp) h
 | k :: ks, d, p, h => by
  rw [List.foldl_cons]
  by_cases hk : 0 <= k /\ k < i
  ·have e1 : Q16 i (some (d, p)) k = some (d.set i (mx (d.getD i 0) (d.getD k.toNat 0)), p.set k.toNat (p.getD k.toNat 0 + 1)) := by
    simp only [Q16, Option.bind_some, mx]
    rw [if_neg (by omega)]
   rw [e1]
   refine Qfw (N := N) ks _ _ fun h2 => h ?_
   intro y hy
   rcases List.mem_cons.1 hy with rfl | hy
   ·exact hk
   ·exact h2 y hy
  ·have e1 : Q16 i (some (d, p)) k = none := by
    simp only [Q16, Option.bind_some]
    rw [if_pos (by omega)]
   rw [e1, Q3i]
theorem Qaa (f : Int -> Int) : ∀ (l : List Int) (m : Int), l.foldl (fun m k => mx m (f k)) m = (l.map f).foldl mx m
 | [], _ => rfl
 | k :: l, m => by simp [Qaa f l]
theorem Qbj (ts : List Tr) (x : Ex) : Q1x (Q2d ts x) = (x.kids.map fun k => Q1x (ts.getD k.toNat default)).foldl mx 0 + 1 := by
 simp only [Q2d, Q1x, Q7d, List.map_map]; rfl
theorem Run.step {pre : List Ex} {N : Nat} {d p : List Int} {x : Ex} (h : Run pre N d p) (hN : pre.length < N) (hk : ∀ k ∈ x.kids, 0 <= k /\ k < pre.length) : ∃ d' p', Q1m (some (d, p)) (x, pre.length) = some (d', p') /\ Run (pre ++ [x]) N d' p' := by
 obtain ⟨p', h1, h2, h3⟩ := Qfv x.kids d p h.dl h.pl hN hk
 have hdl := h.dl
 refine ⟨_, p', by simp only [Q1m, h1, Option.map_some]; rfl, by simpa using hdl, h2, fun i hi => ?_, fun i hi => ?_, fun i hi => ?_⟩
 ·rw [h3 i hi, h.pv i hi, Qeh]; simp [cnt]
 ·rw [List.set_set]
  simp only [List.length_append, List.length_singleton] at hi
  by_cases e : pre.length = i
  ·subst e
   rw [Q44 (by omega), Q44 (by omega), Q7x pre [] x, Qbj, h.d0 _ (Nat.le_refl _), Qaa]
   congr 2
   refine List.map_congr_left fun k hk2 => ?_
   have := hk k hk2
   exact h.dv _ (by omega)
  ·rw [getD_set_ne e, Q4s (by omega), h.dv i (by omega)]
 ·simp only [List.length_append, List.length_singleton] at hi
  rw [List.set_set, getD_set_ne (by omega), h.d0 i (by omega)]
theorem Q6b (l : List (Ex × Nat)) : l.foldl Q1m none = none := by
 induction l with
 | nil => rfl
 | cons x l ih =>
  have : Q1m none x = none := by simp [Q1m, Q3i]
  rw [List.foldl_cons, this, ih]
theorem Qf2 {N : Nat} : ∀ (l pre : List Ex) (d p : List Int), Run pre N d p -> Q0k pre -> pre.length + l.length = N ->
  (Q0k (pre ++ l) /\ ∃ d' p', (l.zipIdx pre.length).foldl Q1m (some (d, p)) = some (d', p') /\ Run (pre ++ l) N d' p') ∨ (¬ Q0k (pre ++ l) /\ (l.zipIdx pre.length).foldl Q1m (some (d, p)) = none)
 | [], pre, d, p, h, hk, _ => .inl ⟨by simpa using hk, d, p, rfl, by simpa using h⟩
 | x :: l, pre, d, p, h, hk, hN => by
  rw [List.zipIdx_cons, List.foldl_cons]
  simp only [List.length_cons] at hN
  by_cases hx : ∀ k ∈ x.kids, 0 <= k /\ k < pre.length
  ·obtain ⟨d1, p1, e1, h1⟩ := h.step (by omega) hx
   rw [e1]
   have := Qf2 l (pre ++ [x]) d1 p1 h1 (Q39.2 ⟨hk, hx⟩) (by simp; omega)
   simpa [List.append_assoc] using this
  ·right
   have e1 : Q1m (some (d, p)) (x, pre.length) = none := by simp only [Q1m, Qfw (N := N) x.kids d p hx, Option.map_none]
   rw [e1, Q6b]
   refine ⟨fun h2 => hx ?_, rfl⟩
   exact h2 pre.length x (by simp)
theorem Qbz (e : List Ex) : (Q0k e /\ ∃ d p, Q4h e = some (d, p) /\ Run e e.length d p) ∨ (¬ Q0k e /\ Q4h e = none) := by
 have h0 : Run [] e.length (List.replicate e.length 0) (List.replicate e.length 0) := by
  have z : ∀ i, (List.replicate e.length (0 : Int)).getD i 0 = 0 := fun i => by
   simp only [List.getD]
   rw [List.getElem?_replicate]; split <;> rfl
  exact ⟨by simp, by simp, fun i _ => by rw [z]; rfl, fun i hi => by simp at hi, fun i _ => z i⟩
 have := Qf2 e [] _ _ h0 (fun j x hj => by simp at hj) (by simp)
 simpa [Q4h] using this
structure IsTree (e : List Ex) : Prop where
 ne : e ≠ []
 k : Q0k e
 c : ∀ i, i < e.length -> (cnt e i = 1 ↔ i + 1 < e.length)
theorem Q23 (e : List Ex) : Q1f e = 0 ↔ e.length <= 4096 /\ IsTree e /\ Q1x (grow e) <= 400 := by
 unfold Q1f
 by_cases h1 : 4096 < e.length
 ·rw [if_pos h1]; exact ⟨fun h => absurd h (by decide), fun h => by omega⟩
 rw [if_neg h1]
 by_cases h2 : e.length = 0
 ·rw [if_pos h2]
  exact ⟨fun h => absurd h (by decide), fun h => absurd (List.length_eq_zero_iff.1 h2) h.2.1.ne⟩
 rw [if_neg h2]
 rcases Qbz e with ⟨hk, d, p, h3, hr⟩ | ⟨hk, h3⟩
 ·rw [h3]
  have hd : d.getD (e.length - 1) 0 = Q1x (grow e) := hr.dv _ (by omega)
  have hodd : (List.range e.length).any (Q21 e.length p) = true ↔ ¬ ∀ i, i < e.length -> (cnt e i = 1 ↔ i + 1 < e.length) := by
   rw [List.any_eq_true]
   constructor
   ·rintro ⟨i, hi, hb⟩ h
    have hi' : i < e.length := by simpa using hi
    have := h i hi'
    have hc := hr.pv i hi'
    simp only [Q21, Bool.not_eq_true', beq_eq_false_iff_ne, ne_eq] at hb
    apply hb
    rw [Bool.eq_iff_iff, beq_iff_eq, decide_eq_true_iff, hc]
    omega
   ·intro h
    simp only [Classical.not_forall] at h
    obtain ⟨i, hi, hne⟩ := h
    refine ⟨i, by simpa using hi, ?_⟩
    have hc := hr.pv i hi
    simp only [Q21, Bool.not_eq_true', beq_eq_false_iff_ne, ne_eq]
    intro hb
    rw [Bool.eq_iff_iff, beq_iff_eq, decide_eq_true_iff, hc] at hb
    apply hne
    omega
  simp only
  by_cases h4 : (List.range e.length).any (Q21 e.length p) = true
  ·rw [if_pos h4]
   exact ⟨fun h => absurd h (by decide), fun h => absurd h.2.1.c (hodd.1 h4)⟩
  ·rw [if_neg h4, hd]
   have hc : ∀ i, i < e.length -> (cnt e i = 1 ↔ i + 1 < e.length) := by
    apply Classical.byContradiction
    intro hn
    exact h4 (hodd.2 hn)
   by_cases h5 : 400 < Q1x (grow e)
   ·rw [if_pos h5]; exact ⟨fun h => absurd h (by decide), fun h => by omega⟩
   ·rw [if_neg h5]
    exact ⟨fun _ => ⟨by omega, ⟨fun h => h2 (by simp [h]), hk, hc⟩, by omega⟩, fun _ => rfl⟩
 ·rw [h3]
  simp only
  exact ⟨fun h => absurd h (by decide), fun h => absurd h.2.1.k hk⟩

def wsum (c : Nat -> Int) : Nat -> List Int -> Int
 | _, [] => 0
 | j, v :: vs => c j * v + wsum c (j + 1) vs
theorem Qal (c : Nat -> Int) : ∀ (vs us : List Int) (j : Nat), wsum c j (vs ++ us) = wsum c j vs + wsum c (j + vs.length) us
 | [], us, j => by simp [wsum]
 | v :: vs, us, j => by
  simp only [List.cons_append, wsum, Qal c vs us, List.length_cons]
  rw [show j + 1 + vs.length = j + (vs.length + 1) by omega]; omega
theorem Q6s {c c' : Nat -> Int} : ∀ (vs : List Int) (j : Nat), (∀ i, j <= i -> i < j + vs.length -> c i = c' i) -> wsum c j vs = wsum c' j vs
 | [], _, _ => rfl
 | v :: vs, j, h => by
  simp only [wsum]
  rw [h j (by omega) (by simp), Q6s vs (j + 1) (fun i h1 h2 => h i (by omega) (by simp; omega))]
theorem Qes (c c' : Nat -> Int) : ∀ (vs : List Int) (j : Nat), wsum (fun i => c i - c' i) j vs = wsum c j vs - wsum c' j vs
 | [], _ => by simp [wsum]
 | v :: vs, j => by
  simp only [wsum, Qes c c' vs, Int.sub_mul]; omega
theorem Qeu (c c' : Nat -> Int) : ∀ (vs : List Int) (j : Nat), wsum (fun i => c i + c' i) j vs = wsum c j vs + wsum c' j vs
 | [], _ => by simp [wsum]
 | v :: vs, j => by
  simp only [wsum, Qeu c c' vs, Int.add_mul]; omega
theorem Q5y {c : Nat -> Int} : ∀ (vs : List Int) (j : Nat), (∀ i, j <= i -> i < j + vs.length -> c i = 0) -> wsum c j vs = 0
 | [], _, _ => rfl
 | v :: vs, j, h => by
  simp only [wsum]
  rw [h j (by omega) (by simp), Q5y vs (j + 1) (fun i h1 h2 => h i (by omega) (by simp; omega))]; omega
theorem Qet (k : Int) : ∀ (vs : List Int) (j : Nat), (j : Int) <= k -> k < j + vs.length -> wsum (fun i => if k = (i : Int) then 1 else 0) j vs = vs.getD (k.toNat - j) 0
 | [], j, h1, h2 => by simp at h2; omega
 | v :: vs, j, h1, h2 => by
  simp only [wsum]
  by_cases e : k = j
  ·subst e
   rw [Q5y vs (j + 1) (fun i h3 h4 => if_neg (by omega))]
   simp [List.getD]
  ·rw [if_neg e, Qet k vs (j + 1) (by omega) (by simp at h2; omega)]
   rw [show k.toNat - j = (k.toNat - (j + 1)) + 1 by omega]
   simp [List.getD]
theorem Q9m (vs : List Int) : ∀ ks : List Int, (∀ k ∈ ks, 0 <= k /\ k < vs.length) -> wsum (fun i => ((ks.count (i : Int) : Nat) : Int)) 0 vs = (ks.map fun k => vs.getD k.toNat 0).sum
 | [], _ => by simp; exact Q5y vs 0 (fun _ _ _ => by simp)
 | k :: ks, h => by
  have hk := h k (by simp)
  have e : wsum (fun i => (((k :: ks).count (i : Int) : Nat) : Int)) 0 vs = wsum (fun i => (if k = (i : Int) then 1 else 0) + ((ks.count (i : Int) : Nat) : Int)) 0 vs := by
   refine Q6s vs 0 fun i _ _ => ?_
   rw [List.count_cons]
   by_cases e : k = (i : Int)
   ·simp [e]; omega
   ·simp [e]
  rw [e, Qeu, Qet k vs 0 (by omega) (by omega), Q9m vs ks (fun y hy => h y (by simp [hy]))]
  simp
def labE (e : List Ex) (x : Ex) : Lab := ⟨x.op, x.n, x.binds, x.kids.map (fun k => ((growL e).getD k.toNat default).op), x.alts⟩
def labs (e : List Ex) : List Lab := e.map (labE e)
theorem Qjc {e : List Ex} {x : Ex} (h : Q0k (e ++ [x])) : labs (e ++ [x]) = labs e ++ [labE e x] := by
 obtain ⟨h1, h2⟩ := Q39.1 h
 have same : ∀ y : Ex, (∀ k ∈ y.kids, 0 <= k /\ k < e.length) -> labE (e ++ [x]) y = labE e y := by
  intro y hy
  simp only [labE, Lab.mk.injEq, true_and, and_true]
  refine List.map_congr_left fun k hk => ?_
  have := hy k hk
  rw [Q4s (by omega)]
 simp only [labs, List.map_append, List.map_cons, List.map_nil]
 rw [same x h2]
 congr 1
 refine List.map_congr_left fun y hy => same y fun k hk => ?_
 obtain ⟨j, hj⟩ := List.mem_iff_getElem?.1 hy
 have := h1 j y hj k hk
 have hl := (List.getElem?_eq_some_iff.1 hj).1
 omega
theorem Qdp (g : Lab -> Int) (e : List Ex) (x : Ex) : sumT g (Q2d (growL e) x) = g (labE e x) + (x.kids.map fun k => sumT g ((growL e).getD k.toNat default)).sum := by
 simp only [Q2d, sumT, Q7n, labE, List.map_map]; rfl
theorem sum_pre (g : Lab -> Int) (e : List Ex) (h : Q0k e) : wsum (fun i => 1 - (cnt e i : Int)) 0 ((growL e).map (sumT g)) = ((labs e).map g).sum := by
 revert h
 refine Q68 (P := fun e => Q0k e -> wsum (fun i => 1 - (cnt e i : Int)) 0 ((growL e).map (sumT g)) = ((labs e).map g).sum) (fun _ => rfl) (fun e x ih h => ?_) e
 obtain ⟨h1, h2⟩ := Q39.1 h
 have ih := ih h1
 have hlen : ((growL e).map (sumT g)).length = e.length := by simp [Q0e]
 have hz : cnt (e ++ [x]) e.length = 0 := by
  have : ∀ (l : List Ex) (n : Nat), (∀ y ∈ l, ∀ k ∈ y.kids, k < (n : Int)) -> cnt l n = 0 := by
   intro l
   induction l with
   | nil => intro n _; rfl
   | cons y l ih2 =>
    intro n hl
    simp only [cnt]
    rw [ih2 n (fun z hz => hl z (by simp [hz])), Nat.add_zero, List.count_eq_zero]
    intro hm
    have := hl y (by simp) _ hm
    omega
  refine this _ _ fun y hy k hk => ?_
  obtain ⟨j, hj⟩ := List.mem_iff_getElem?.1 hy
  have := h j y hj k hk
  have hl := (List.getElem?_eq_some_iff.1 hj).1
  simp at hl
  omega
 rw [Q25, List.map_append, Qal, hlen, Qjc h, List.map_append, List.sum_append, ← ih]
 simp only [List.map_cons, List.map_nil, wsum, Nat.zero_add, hz, List.sum_cons, List.sum_nil, Qdp]
 have e1 : wsum (fun i => 1 - (cnt (e ++ [x]) i : Int)) 0 ((growL e).map (sumT g)) = wsum (fun i => (1 - (cnt e i : Int)) - ((x.kids.count (i : Int) : Nat) : Int)) 0 ((growL e).map (sumT g)) := by
  refine Q6s _ 0 fun i _ _ => ?_
  rw [Qeh]; simp [cnt]; omega
 rw [e1, Qes, Q9m _ _ (fun k hk => by rw [hlen]; exact h2 k hk)]
 have e2 : (x.kids.map fun k => ((growL e).map (sumT g)).getD k.toNat 0) = x.kids.map fun k => sumT g ((growL e).getD k.toNat default) := by
  refine List.map_congr_left fun k hk => ?_
  have := h2 k hk
  have hl : k.toNat < (growL e).length := by rw [Q0e]; omega
  simp [List.getD, List.getElem?_eq_getElem hl]
 rw [e2]
 omega
theorem Qlv {e : List Ex} (h : Q0k e) {n : Nat} (hn : e.length <= n + 1) : cnt e n = 0 := by
 have : ∀ (l : List Ex), (∀ y ∈ l, ∀ k ∈ y.kids, k < (n : Int)) -> cnt l n = 0 := by
  intro l
  induction l with
  | nil => intro _; rfl
  | cons y l ih2 =>
   intro hl
   simp only [cnt]
   rw [ih2 (fun z hz => hl z (by simp [hz])), Nat.add_zero, List.count_eq_zero]
   intro hm
   have := hl y (by simp) _ hm
   omega
 refine this _ fun y hy k hk => ?_
 obtain ⟨j, hj⟩ := List.mem_iff_getElem?.1 hy
 have := h j y hj k hk
 have hl := (List.getElem?_eq_some_iff.1 hj).1
 omega
theorem Q52 (g : Lab -> Int) {e : List Ex} (h : IsTree e) : ((labs e).map g).sum = sumT g (grow e) := by
 rw [← sum_pre g e h.k]
 obtain ⟨pre, x, rfl⟩ : ∃ pre x, e = pre ++ [x] := ⟨e.dropLast, e.getLast h.ne, (List.dropLast_concat_getLast h.ne).symm⟩
 rw [Q25, List.map_append, Qal]
 rw [Q5y _ 0 (fun i _ hi => ?_), Qjt]
 ·simp only [List.map_cons, List.map_nil, wsum, List.length_map, Q0e, Nat.zero_add]
  rw [Qlv h.k (by simp)]; omega
 ·have hi : i < pre.length := by simpa [Q0e] using hi
  have := (h.c i (by simp; omega)).2 (by simp; omega)
  rw [this]; rfl
end Go.CoreX
namespace Go.CoreX
structure OkT (out : List Ex) (t : Tr) : Prop where
 lt : out.length < (listT out t).length
 k : Q0k (listT out t)
 g : ∃ r, growL (listT out t) = growL out ++ r ++ [t]
 c : ∀ i, cnt (listT out t) i = cnt out i + if out.length <= i /\ i + 1 < (listT out t).length then 1 else 0
structure OkTs (out : List Ex) (ts : List Tr) : Prop where
 le : out.length <= (Q03 out ts).1.length
 k : Q0k (Q03 out ts).1
 g : ∃ r, growL (Q03 out ts).1 = growL out ++ r
 ix : ∀ k ∈ (Q03 out ts).2, (out.length : Int) <= k /\ k < (Q03 out ts).1.length
 m : (Q03 out ts).2.map (fun k => (growL (Q03 out ts).1).getD k.toNat default) = ts
 c : ∀ i, cnt (Q03 out ts).1 i + (Q03 out ts).2.count (i : Int) = cnt out i + if out.length <= i /\ i < (Q03 out ts).1.length then 1 else 0
mutual
theorem Qb5 : ∀ (t : Tr) (out : List Ex), Q0k out -> OkT out t
 | .mk o n b ks a, out, h => by
  have H := Qcn ks out h
  have e : listT out (.mk o n b ks a) = (Q03 out ks).1 ++ [⟨o, n, b, (Q03 out ks).2, a⟩] := by simp only [listT]
  refine ⟨?_, ?_, ?_, fun i => ?_⟩
  ·rw [e]; have := H.le; simp; omega
  ·rw [e, Q39]
   refine ⟨H.k, fun k hk => ?_⟩
   have := H.ix k hk
   exact ⟨by omega, this.2⟩
  ·obtain ⟨r, hr⟩ := H.g
   refine ⟨r, ?_⟩
   rw [e, Q25]
   have : Q2d (growL (Q03 out ks).1) ⟨o, n, b, (Q03 out ks).2, a⟩ = .mk o n b ks a := by
    simp only [Q2d, Tr.mk.injEq, true_and, and_true]; exact H.m
   rw [this, hr]
  ·rw [e, Qeh]
   have := H.c i
   simp only [cnt, Nat.add_zero, List.length_append, List.length_singleton]
   rw [this]
   congr 1
   by_cases h1 : out.length <= i /\ i < (Q03 out ks).1.length
   ·rw [if_pos h1, if_pos (by omega)]
   ·rw [if_neg h1, if_neg (by omega)]
theorem Qcn : ∀ (ts : List Tr) (out : List Ex), Q0k out -> OkTs out ts
 | [], out, h => ⟨by simp [Q03], by simpa [Q03] using h, ⟨[], by simp [Q03]⟩, by simp [Q03], by simp [Q03], fun i => by
   have e1 : (Q03 out []).1 = out := by simp only [Q03]
   have e2 : (Q03 out []).2 = [] := by simp only [Q03]
   rw [e1, e2, if_neg (by omega)]; rfl⟩
 | t :: ts, out, h => by
  have H1 := Qb5 t out h
  have H2 := Qcn ts (listT out t) H1.k
  have e1 : (Q03 out (t :: ts)).1 = (Q03 (listT out t) ts).1 := by simp only [Q03]
  have e2 : (Q03 out (t :: ts)).2 = (((listT out t).length : Int) - 1) :: (Q03 (listT out t) ts).2 := by simp only [Q03]
  have l1 := H1.lt
  have l2 := H2.le
  obtain ⟨r1, g1⟩ := H1.g
  obtain ⟨r2, g2⟩ := H2.g
  refine ⟨by rw [e1]; omega, by rw [e1]; exact H2.k, ⟨r1 ++ [t] ++ r2, ?_⟩, ?_, ?_, fun i => ?_⟩
  ·rw [e1, g2, g1]; simp
  ·intro k hk
   rw [e2] at hk
   rw [e1]
   rcases List.mem_cons.1 hk with rfl | hk
   ·omega
   ·have := H2.ix k hk; omega
  ·rw [e1, e2, List.map_cons, H2.m]
   congr 1
   have hl : (growL (listT out t)).length = (listT out t).length := Q0e _
   have hl2 : (growL out ++ r1).length + 1 = (listT out t).length := by rw [← hl, g1]; simp; omega
   rw [g2, Q6h (by rw [hl]; omega), g1]
   have : ((((listT out t).length : Int) - 1)).toNat = (growL out ++ r1).length := by omega
   rw [this]
   simp [List.getD]
  ·rw [e1, e2, List.count_cons]
   have c2 := H2.c i
   have c1 := H1.c i
   have hh : (((((listT out t).length : Int) - 1) == (i : Int)) = true) ↔ i + 1 = (listT out t).length := by
    rw [beq_iff_eq]; omega
   by_cases h1 : i + 1 = (listT out t).length
   ·rw [if_pos (hh.2 h1)]
    rw [if_neg (by omega)] at c2
    rw [if_neg (by omega)] at c1
    rw [if_pos (by omega)]
    omega
   ·rw [if_neg (fun h => h1 (hh.1 h))]
    by_cases h2 : out.length <= i /\ i + 1 < (listT out t).length
    ·rw [if_pos h2] at c1
     rw [if_neg (by omega)] at c2
     rw [if_pos (by omega)]
     omega
    ·rw [if_neg h2] at c1
     by_cases h3 : (listT out t).length <= i /\ i < (Q03 (listT out t) ts).1.length
     ·rw [if_pos h3] at c2
      rw [if_pos (by omega)]
      omega
     ·rw [if_neg h3] at c2
      rw [if_neg (by omega)]
      omega
end
theorem Qa4 : Q0k [] := fun j x hj => by simp at hj
theorem Q0w (t : Tr) : grow (listT [] t) = t := by
 have H := Qb5 t [] Qa4
 obtain ⟨r, hr⟩ := H.g
 have hl : (growL (listT [] t)).length = (listT [] t).length := Q0e _
 unfold grow
 rw [hr] at hl ⊢
 have : (listT [] t).length - 1 = (growL [] ++ r).length := by simp at hl ⊢; omega
 rw [this]
 simp [List.getD]
theorem Q17 (t : Tr) : IsTree (listT [] t) := by
 have H := Qb5 t [] Qa4
 refine ⟨fun h => ?_, H.k, fun i hi => ?_⟩
 ·have := H.lt; rw [h] at this; simp at this
 ·rw [H.c i]
  simp only [cnt, List.length_nil, Nat.zero_le, true_and, Nat.zero_add]
  split <;> omega
theorem Qhx (ls : List Lab) (l0 : Lab) : (ls.map fun l => if l = l0 then (1 : Int) else 0).sum = ls.count l0 := by
 induction ls with
 | nil => rfl
 | cons l ls ih =>
  simp only [List.map_cons, List.sum_cons, ih, List.count_cons]
  by_cases e : l = l0
  ·simp [e]; omega
  ·simp [e]
theorem Q8q {e f : List Ex} (he : IsTree e) (hf : IsTree f) (h : grow e = grow f) : (labs e).Perm (labs f) := by
 rw [List.perm_iff_count]
 intro l0
 have h1 := Q52 (fun l => if l = l0 then (1 : Int) else 0) he
 have h2 := Q52 (fun l => if l = l0 then (1 : Int) else 0) hf
 rw [Qhx] at h1 h2
 rw [h] at h1
 omega
theorem Q3h (e : List Ex) : (labs e).length = e.length := by simp [labs]
theorem Qj3 (e : List Ex) : ∀ i, i < e.length -> ((growL e).getD i default).op = (e.getD i ⟨0, 0, [], [], []⟩).op := by
 refine Q68 (P := fun e => ∀ i, i < e.length -> ((growL e).getD i default).op = (e.getD i ⟨0, 0, [], [], []⟩).op) (fun i hi => by simp at hi) (fun e x ih i hi => ?_) e
 by_cases h : i < e.length
 ·rw [Q4s h, ih i h, Q6h h]
 ·have : i = e.length := by simp at hi; omega
  subst this
  rw [Q7x e [] x]
  simp [Q2d, List.getD]
theorem Qc6 {o n : Int} {b kx ky : List Int} {a : List Alt} (h : kx.length = ky.length) : shape ⟨o, n, b, kx, a⟩ = shape ⟨o, n, b, ky, a⟩ := by
 unfold shape wants Q5h Q4e
 simp only [h]
theorem Qgt {o n : Int} {b kx ky : List Int} {a : List Alt} (h : kx.length = ky.length) : ranges ⟨o, n, b, kx, a⟩ = ranges ⟨o, n, b, ky, a⟩ := by
 unfold ranges fields
 simp only [h]
theorem Qgr {x : Ex} (h : shape x = true) (h5 : x.op = 5) : x.kids.length = x.binds.length + 1 := by
 unfold shape wants at h
 simp [h5] at h
 omega
theorem Qcl {flat : Bool} {e f : List Ex} {x y : Ex} (hx : ∀ k ∈ x.kids, 0 <= k /\ k < (e.length : Int)) (hy : ∀ k ∈ y.kids, 0 <= k /\ k < (f.length : Int)) (h : labE e x = labE f y) : Q0f flat e x = Q0f flat f y := by
 obtain ⟨o, n, b, kx, a⟩ := x
 obtain ⟨o', n', b', ky, a'⟩ := y
 simp only [labE, Lab.mk.injEq] at h
 obtain ⟨rfl, rfl, rfl, hk, rfl⟩ := h
 have hl : kx.length = ky.length := by have := congrArg List.length hk; simpa using this
 unfold Q0f Q1h
 rw [Qc6 hl, Qgt hl]
 cases hs : shape ⟨o, n, b, ky, a⟩ with
 | false => simp
 | true =>
  have hb : (List.range b.length).any (Q1j e ⟨o, n, b, kx, a⟩) = (List.range b.length).any (Q1j f ⟨o, n, b, ky, a⟩) := by
   rw [Bool.eq_iff_iff, List.any_eq_true, List.any_eq_true]
   have key : ∀ i, i < b.length -> Q1j e ⟨o, n, b, kx, a⟩ i = Q1j f ⟨o, n, b, ky, a⟩ i := by
    intro i hi
    unfold Q1j
    by_cases h5 : o = 5
    ·have hr := Qgr hs h5
     simp only at hr
     obtain ⟨k, h1⟩ : ∃ k, kx[i]? = some k := ⟨kx[i]'(by omega), List.getElem?_eq_getElem _⟩
     obtain ⟨m, h2⟩ : ∃ k, ky[i]? = some k := ⟨ky[i]'(by omega), List.getElem?_eq_getElem _⟩
     have k1 := hx k (List.mem_of_getElem? h1)
     have k2 := hy m (List.mem_of_getElem? h2)
     have h3 := congrArg (fun l => l[i]?) hk
     simp only [List.getElem?_map, h1, h2, Option.map_some, Option.some.injEq] at h3
     rw [Qj3 e _ (by omega), Qj3 f _ (by omega)] at h3
     have e1 : kx.getD i 0 = k := by rw [List.getD_eq_getElem?_getD, h1]; rfl
     have e2 : ky.getD i 0 = m := by rw [List.getD_eq_getElem?_getD, h2]; rfl
     simp only [e1, e2, h3]
    ·have : (o == 5) = false := by simpa using h5
     simp only [this, Bool.false_and]
   constructor
   ·rintro ⟨i, hi, hb⟩; exact ⟨i, hi, by rw [← key i (by simpa using hi)]; exact hb⟩
   ·rintro ⟨i, hi, hb⟩; exact ⟨i, hi, by rw [key i (by simpa using hi)]; exact hb⟩
  simp only [hb]
theorem Q1v {α : Type} (f : α -> Int) : ∀ l : List α, Q18 f l = 0 ↔ ∀ x ∈ l, f x = 0
 | [] => by simp [Q18]
 | a :: l => by
  simp only [Q18, List.mem_cons, forall_eq_or_imp]
  by_cases h : f a = 0
  ·simp [h, Q1v f l]
  ·simp [h]
theorem Q1q : ∀ l : List Int, Q4r l = false ↔ l.Nodup
 | [] => by simp [Q4r]
 | n :: l => by simp [Q4r, List.nodup_cons, Q1q l]
theorem Qb8 {e : List Ex} (h : Q0k e) {x : Ex} (hx : x ∈ e) : ∀ k ∈ x.kids, 0 <= k /\ k < (e.length : Int) := by
 intro k hk
 obtain ⟨j, hj⟩ := List.mem_iff_getElem?.1 hx
 have := h j x hj k hk
 have hl := (List.getElem?_eq_some_iff.1 hj).1
 omega
theorem Q3c (e : List Ex) : Q07 e = (labs e).flatMap fun l => Q0z l.op l.binds l.alts := by
 unfold Q07 labs
 rw [List.flatMap_map]; rfl
theorem Qkb {e f : List Ex} {params : List Int} {flat : Bool} (hf : IsTree f) (h : grow e = grow f) (hb : body e params flat = 0) : body f params flat = 0 := by
 unfold body at hb ⊢
 by_cases h1 : Q1f e = 0
 ·rw [if_neg (by simpa using h1)] at hb
  obtain ⟨t1, t2, t3⟩ := (Q23 e).1 h1
  have hp := Q8q t2 hf h
  have hl : e.length = f.length := by rw [← Q3h e, ← Q3h f]; exact hp.length_eq
  rw [if_neg (by rw [Classical.not_not]; exact (Q23 f).2 ⟨by omega, hf, by rw [← h]; exact t3⟩)]
  by_cases h2 : Q18 (Q0f flat e) e = 0
  ·rw [if_neg (by simpa using h2)] at hb
   have h2f : Q18 (Q0f flat f) f = 0 := by
    rw [Q1v] at h2 ⊢
    intro y hy
    have hm : labE f y ∈ labs e := hp.mem_iff.2 (List.mem_map_of_mem hy)
    obtain ⟨x, hx, hxy⟩ := List.mem_map.1 hm
    rw [← Qcl (Qb8 t2.k hx) (Qb8 hf.k hy) hxy]
    exact h2 x hx
   rw [if_neg (by simpa using h2f)]
   by_cases h3 : Q4r (params ++ Q07 e) = true
   ·rw [if_pos h3] at hb; exact absurd hb (by decide)
   ·rw [if_neg h3] at hb
    have hd : (params ++ Q07 e).Perm (params ++ Q07 f) := by
     rw [Q3c, Q3c]
     exact List.Perm.append_left _ (List.Perm.flatMap_right _ hp)
    have h3f : ¬ Q4r (params ++ Q07 f) = true := by
     intro h4
     have h5 := (Q1q _).1 (by simpa using h3)
     have h6 := (Q1q _).2 (hd.nodup_iff.1 h5)
     rw [h6] at h4; cases h4
    rw [if_neg h3f, ← h]
    exact hb
  ·rw [if_pos h2] at hb; exact absurd hb h2
 ·rw [if_pos h1] at hb; exact absurd hb h1
theorem Q0x {e : List Ex} {params : List Int} {flat : Bool} (hb : body e params flat = 0) : IsTree e := by
 unfold body at hb
 by_cases h1 : Q1f e = 0
 ·exact ((Q23 e).1 h1).2.1
 ·rw [if_pos h1] at hb; exact absurd hb h1
theorem Qhh {e : List Ex} (h : check e = 0) : check (listT [] (grow e)) = 0 := Qkb (Q17 _) (Q0w _).symm h
theorem Qlg {e : List Ex} (h : check e = 0) : (listT [] (grow e)).length = e.length := by
 have hp := Q8q (Q0x h) (Q17 (grow e)) (Q0w _).symm
 rw [← Q3h e, ← Q3h]; exact hp.length_eq.symm
end Go.CoreX
namespace Go.CoreX
abbrev Nm := Int -> Option Int
def setN (m : Nm) (k v : Int) : Nm := fun j => if k = j then some v else m j
def putsN (m : Nm) : List Int -> List Int -> Nm
 | x :: xs, y :: ys => putsN (setN m x y) xs ys
 | _, _ => m
def Qgi : List Alt -> List Alt -> Bool
 | a :: l, b :: r => (a.tag == b.tag && a.binds.length == b.binds.length) && Qgi l r
 | _, _ => true
def unlike (o : Int) (nk nb na : Nat) (t : Tr) : Bool := !(o == t.op && nk == t.kids.length && nb == t.binds.length && na == t.alts.length)
def sameVar (m : Nm) (n n' : Int) : Bool := match m n with | some v => v == n' | none => n == n'
mutual
def sameT : Tr -> Tr -> Nm -> Bool × Nm
 | .mk o n b k a, t, m =>
  if unlike o k.length b.length a.length t = true then (false, m) else
  if o = 0 then (sameVar m n t.n, m) else
  if (!(n == t.n)) || (o == 9 && !(b == t.binds)) then (false, m) else
  if Qgi a t.alts = false then (false, m) else
  sameTs k t.kids (putsN m (Q0z o b a) (Q0z t.op t.binds t.alts))
def sameTs : List Tr -> List Tr -> Nm -> Bool × Nm
 | [], _, m => (true, m)
 | a :: l, r, m => match r with
  | [] => (true, m)
  | b :: r => if (sameT a b m).1 = true then sameTs l r (sameT a b m).2 else (false, (sameT a b m).2)
end
def idN (m : Nm) : Prop := ∀ n v, m n = some v -> v = n
def Ql2 (a b : Tr) : Bool := (sameT a b fun _ => none).1
def same (a b : List Ex) : Bool := (check a == 0 && check b == 0) && Ql2 (grow a) (grow b)
def order (e : List Ex) : List Ex × Int := if check e ≠ 0 then ([], check e) else (listT [] (grow e), 0)
def coreOrdered (e : List Ex) : Bool :=
 if (order e).2 ≠ 0 then (order e).1.length == 0 else
 (((order (order e).1).2 == 0 && (order e).1 == (order (order e).1).1) && same e (order e).1) && (order e).1.length == e.length
end Go.CoreX
namespace Go.Abs
theorem AOps.atDst {E : Env} {ops : Array Oper} {l : List Oper} {o : Oper} {K : Cont} {fr : Fr} {σ : St} (d : Nat) (h : o.dst = some d) (k : AOps E ops (o :: l) K fr σ) : AOps E ops (o :: l) K fr σ := k
class StpC (g : Prop) (h : outParam Prop) : Prop where
 go : h -> g
theorem zst {g h : Prop} [i : StpC g h] (x : h) : g := i.go x
section
variable {E : Env} {Fin : Fr -> St -> Prop} {k : List AItem} {fr : Fr} {σ : St} {c x y : Code} {id : Nat} {J : Fr -> St -> Prop} {ops : Array Oper} {K : Cont} {l : List Oper}
instance : StpC (AOps E ops [] K fr σ) (K .normal fr σ) := ⟨o1⟩
instance : StpC (ACode E (.seq x y) (Q02 E Fin k) fr σ) (ACode E x (Q02 E Fin (.code y :: k)) fr σ) := ⟨o2⟩
instance : StpC (ACode E (.region id l.toArray false) K fr σ) (AOps E l.toArray l K fr σ) := ⟨o3⟩
instance : StpC (Q02 E Fin (.code c :: k) .normal fr σ) (ACode E c (Q02 E Fin k) fr σ) := ⟨o4⟩
instance : StpC (ACode E .ret (Q02 E Fin k) fr σ) (Q02 E Fin k .ret fr σ) := ⟨o5⟩
instance : StpC (Q02 E Fin [] .ret fr σ) (Fin fr σ) := ⟨o6⟩
instance : StpC (Q02 E Fin [] .normal fr σ) (Fin fr σ) := ⟨o7⟩
instance : StpC (ACode E .skip (Q02 E Fin k) fr σ) (Q02 E Fin k .normal fr σ) := ⟨o8⟩
instance : StpC (ACode E (.block id c) (Q02 E Fin k) fr σ) (ACode E c (Q02 E Fin (.blk id :: k)) fr σ) := ⟨o9⟩
instance : StpC (Q02 E Fin (.blk id :: k) .normal fr σ) (Q02 E Fin k .normal fr σ) := ⟨oa⟩
instance : StpC (Q02 E Fin (.code c :: k) .ret fr σ) (Q02 E Fin k .ret fr σ) := ⟨ob⟩
instance : StpC (Q02 E Fin (.blk id :: k) .ret fr σ) (Q02 E Fin k .ret fr σ) := ⟨oc⟩
instance : StpC (Q02 E Fin (.inv J :: k) .ret fr σ) (Q02 E Fin k .ret fr σ) := ⟨od⟩
instance {J : List PanicEntry -> St -> Prop} : StpC (Q02 E Fin (.pan J :: k) .normal fr σ) (Q02 E Fin k .normal fr σ) := ⟨fun h => h⟩
instance {J : List PanicEntry -> St -> Prop} : StpC (Q02 E Fin (.pan J :: k) .ret fr σ) (Q02 E Fin k .ret fr σ) := ⟨fun h => h⟩
instance {J : List PanicEntry -> St -> Prop} : StpC (Q02 E Fin (.pan J :: k) (.exit id) fr σ) (Q02 E Fin k (.exit id) fr σ) := ⟨fun h => h⟩
instance : StpC (ACode E (.exit id) (Q02 E Fin k) fr σ) (Q02 E Fin k (.exit id) fr σ) := ⟨oe⟩
instance : StpC (Q02 E Fin (.code c :: k) (.exit id) fr σ) (Q02 E Fin k (.exit id) fr σ) := ⟨og⟩
instance : StpC (Q02 E Fin (.blk id :: k) (.exit id) fr σ) (Q02 E Fin k .normal fr σ) := ⟨oh⟩
instance : StpC (Q02 E Fin (.inv J :: k) (.exit id) fr σ) (Q02 E Fin k (.exit id) fr σ) := ⟨oi⟩
end
end Go.Abs
namespace Go.Proofs.YtpaonemmbhbgoaaGreatDoor
open Go Go.Abs
section
variable {E : Env} {ops : Array Oper} {rest : List Oper} {o : Oper} {K : Cont} {fr fr' : Fr} {σ σ' : St} {d : Nat} {t yt : TypeId} {x y : Operand} {a b : Int} {p q : Bool} {tys : Array TypeId}
theorem zau (h : AOps E ops rest K fr' σ') (hT : TabOk E.P E.T := by exact tabOk) (h1 : aAuto E ops o fr σ = some (fr', σ') := by exact rfl) : AOps E ops (o :: rest) K fr σ := AOps.auto hT h1 h
theorem zad (h : AOps E ops rest K ((d, .one (.lit (.int .i64 (a + b)))) :: fr) σ) (hgd : o.guard = none := by exact rfl) (hdst : o.dst = some d := by exact rfl) (hd : Nat.ble (d + 1) E.N = true := by exact rfl) (ho : o.op = .binOp .add t x y yt := by exact rfl)
  (hx : aEval E.Γ fr x = some (.one (.lit (.int .i64 a))) := by exact rfl) (hy : aEval E.Γ fr y = some (.one (.lit (.int .i64 b))) := by exact rfl) (h0 : -9223372036854775808 <= a + b := by first | omega | (simp; omega)) (h1 : a + b <= 9223372036854775807 := by first | omega | (simp; omega)) : AOps E ops (o :: rest) K fr σ :=
 AOps.step1 hgd hdst hd (AStep.arith ho hx hy (.inl ⟨rfl, rfl⟩) (Q1o h0 h1)) h
theorem zsu (h : AOps E ops rest K ((d, .one (.lit (.int .i64 (a - b)))) :: fr) σ) (hgd : o.guard = none := by exact rfl) (hdst : o.dst = some d := by exact rfl) (hd : Nat.ble (d + 1) E.N = true := by exact rfl) (ho : o.op = .binOp .sub t x y yt := by exact rfl)
  (hx : aEval E.Γ fr x = some (.one (.lit (.int .i64 a))) := by exact rfl) (hy : aEval E.Γ fr y = some (.one (.lit (.int .i64 b))) := by exact rfl) (h0 : -9223372036854775808 <= a - b := by first | omega | (simp; omega)) (h1 : a - b <= 9223372036854775807 := by first | omega | (simp; omega)) : AOps E ops (o :: rest) K fr σ :=
 AOps.step1 hgd hdst hd (AStep.arith ho hx hy (.inr (.inl ⟨rfl, rfl⟩)) (Q1o h0 h1)) h
theorem zne (h : AOps E ops rest K ((d, .one (.lit (.bool (!(p == q))))) :: fr) σ) (hgd : o.guard = none := by exact rfl) (hdst : o.dst = some d := by exact rfl) (hd : Nat.ble (d + 1) E.N = true := by exact rfl) (ho : o.op = .binOp .neq t x y yt := by exact rfl) (ht : E.P.underlying t = some .bool := by exact Tryz.underlying4)
  (hx : aEval E.Γ fr x = some (.one (.lit (.bool p))) := by exact rfl) (hy : aEval E.Γ fr y = some (.one (.lit (.bool q))) := by exact rfl) : AOps E ops (o :: rest) K fr σ := AOps.step1 hgd hdst hd (AStep.neBool ht ho hx hy) h
theorem zeq (h : AOps E ops rest K ((d, .one (.lit (.bool (p == q)))) :: fr) σ) (hgd : o.guard = none := by exact rfl) (hdst : o.dst = some d := by exact rfl) (hd : Nat.ble (d + 1) E.N = true := by exact rfl) (ho : o.op = .binOp .eql t x y yt := by exact rfl) (ht : E.P.underlying t = some .bool := by exact Tryz.underlying4)
  (hx : aEval E.Γ fr x = some (.one (.lit (.bool p))) := by exact rfl) (hy : aEval E.Γ fr y = some (.one (.lit (.bool q))) := by exact rfl) : AOps E ops (o :: rest) K fr σ := AOps.step1 hgd hdst hd (AStep.eqBool ht ho hx hy) h
theorem zmx (h : AOps E ops rest K ((d, .one (.lit (.int .i64 (if b > a then b else a)))) :: fr) σ) (hgd : o.guard = none := by exact rfl) (hdst : o.dst = some d := by exact rfl) (hd : Nat.ble (d + 1) E.N = true := by exact rfl) (ho : o.op = .call { callee := .builtin .max, args := #[x, y], argTypes := tys } := by exact rfl)
  (hx : aEval E.Γ fr x = some (.one (.lit (.int .i64 a))) := by exact rfl) (hy : aEval E.Γ fr y = some (.one (.lit (.int .i64 b))) := by exact rfl) : AOps E ops (o :: rest) K fr σ := AOps.step1 hgd hdst hd (AStep.max2 (t := 3) (ty := 3) ho hx hy) h
theorem zmn (h : AOps E ops rest K ((d, .one (.lit (.int .i64 (if b < a then b else a)))) :: fr) σ) (hgd : o.guard = none := by exact rfl) (hdst : o.dst = some d := by exact rfl) (hd : Nat.ble (d + 1) E.N = true := by exact rfl) (ho : o.op = .call { callee := .builtin .min, args := #[x, y], argTypes := tys } := by exact rfl)
  (hx : aEval E.Γ fr x = some (.one (.lit (.int .i64 a))) := by exact rfl) (hy : aEval E.Γ fr y = some (.one (.lit (.int .i64 b))) := by exact rfl) : AOps E ops (o :: rest) K fr σ := AOps.step1 hgd hdst hd (AStep.min2 (t := 3) (ty := 3) ho hx hy) h
theorem zow {ti : TI} {j : Abs.Id} {off : Nat} {cs : List AC} {c : AC} (ho : o.op = .load t x) (hx : aEval E.Γ fr x = some (.one (.ptr j off))) (hg : σ.get j = some (.cells cs)) (h : AOps E ops rest K ((d, .one c) :: fr) σ) (hgd : o.guard = none := by exact rfl) (hdst : o.dst = some d := by exact rfl) (hd : Nat.ble (d + 1) E.N = true := by exact rfl) (hT : TabOk E.P E.T := by exact tabOk)
  (ht : Tab.get t E.T = some ti := by exact rfl) (ha : ti.agg = false := by exact rfl) (hs : Nat.beq ti.size 1 = true := by exact rfl) (hc : cs[off]? = some c := by exact rfl) : AOps E ops (o :: rest) K fr σ := AOps.step1 hgd hdst hd (AStep.loadOwn hT ho ht ha hs hx hg hc) h
theorem zix {ti tj : TI} {k : IntKind} {n : Int} {s : Nat} {es : List (List AC)} {e : List AC} (h : AOps E ops rest K ((d, .one (.box e)) :: fr) σ) (hgd : o.guard = none := by exact rfl) (hdst : o.dst = some d := by exact rfl) (hd : Nat.ble (d + 1) E.N = true := by exact rfl) (ho : o.op = .indexAddr t x y := by exact rfl) (hT : TabOk E.P E.T := by exact tabOk)
  (ht : Tab.get t E.T = some ti := by exact rfl) (hk : Nat.beq ti.kind 2 = true := by exact rfl) (hj : Tab.get ti.elem E.T = some tj := by exact rfl) (hx : aEval E.Γ fr x = some (.one (.sl s es)) := by exact rfl) (hs : Nat.beq tj.size s = true := by exact rfl) (hy : aEval E.Γ fr y = some (.one (.lit (.int k n))) := by exact rfl) (h0 : 0 <= n := by decide) (he : es[n.toNat]? = some e := by exact rfl) : AOps E ops (o :: rest) K fr σ :=
 AOps.step1 hgd hdst hd (AStep.indexAddr hT ho ht hk hj hs hx (.inl rfl) hy h0 he) h
theorem zca {f : Operand} {args : Array Operand} {g : Nat} {first caps : List AC} {vs ws : List FV} {r : FV} (hΓ : ∀ g cs, (g, cs) ∈ E.Γ -> idsL isO cs) (hc : APure E.P E.Γ g ws r) (hou : OuOk σ.ou) (h : AOps E ops rest K ((d, r) :: fr) σ) (hgd : o.guard = none := by exact rfl) (hdst : o.dst = some d := by exact rfl) (hd : Nat.ble (d + 1) E.N = true := by exact rfl)
  (ho : o.op = .call { callee := .value f, args := args, argTypes := tys } := by exact rfl) (hf : aEval E.Γ fr f = some (.one (.fn (.func g) first caps)) := by exact rfl) (hargs : Q1d E.Γ fr args.toList = some vs := by exact rfl) (has : first.map .one ++ vs ++ caps.map .one = ws := by exact rfl) (hids : idsF isO ws := by simp) : AOps E ops (o :: rest) K fr σ :=
 AOps.callC hΓ hc hgd hdst hd ho hf hargs has hou hids h
end
section
variable {ρ : Nat -> Nat} {fr r : Fr} {k n s : Nat} {x v : FV} {es : List (List AC)} {oc : Option Nat} {lo lr : List (Nat × AObj)} {o p : AObj} {k' : Nat}
theorem zfc (hr : FrSub ρ fr r) (h : Fr.get k fr = some v := by exact rfl) (he : v = x.ren ρ := by exact rfl) : FrSub ρ fr ((k, x) :: r) := FrSub.cons h (.ofEq he) hr
theorem zfo (hr : FrSub ρ fr r) (h : Fr.get n fr = some (.one (oaC k' s es oc)) := by exact rfl) (hk : k' = ρ k := by exact rfl) : FrSub ρ fr ((n, .one (oaC k s es oc)) :: r) := FrSub.oa h hk hr
theorem zfp (hr : FrSub ρ fr r) (h : Fr.get k fr = some v := by exact rfl) (he : v = x := by exact rfl) (hp : x.ids isO := by simp) : FrSub ρ fr ((k, x) :: r) := FrSub.consP h (.ofEq he) hp hr
theorem zlc (hr : LoSub ρ n lo lr) (h : lookL (ρ k) lo = some p := by exact rfl) (hk : Nat.blt k n = true := by exact rfl) (he : p = o.ren ρ := by first | rfl | (refine (AObj.ren_pure _ _ ?_).symm; simp; done) | exact (ren_oaO _ _ _ _ fun _ => Qjm (by simp; done)).symm | (simp [AObj.ren, renL, AC.ren]; done) | (simp [AObj.ren, renL, AC.ren]; rfl)) (hi : o.ids (inL n) := by first | (simp; done) | exact Qjn (by simp)) : LoSub ρ n lo ((k, o) :: lr) := LoSub.cons h he hk hi hr
theorem zld (he : p = o.ren ρ) (hr : LoSub ρ n lo lr) (h : lookL (ρ k) lo = some p := by exact rfl) (hk : Nat.blt k n = true := by exact rfl) (hi : o.ids (inL n) := by first | (simp; done) | exact Qjn (by simp)) : LoSub ρ n lo ((k, o) :: lr) := LoSub.cons h he hk hi hr
end
section
variable {E : Env} {o : Oper} {fr : Fr} {σ σ' : St} {ρ : Nat -> Nat} {r : Fr} {n : Nat} {lo lr : List (Nat × AObj)} {ops : Array Oper} {v : FV}
theorem zFW (h : FrSub ρ fr r := by (repeat' first | exact FrSub.nil | refine zfc ?_ | refine zfo ?_ | refine zfp ?_ (hp := by first | assumption | (simp; done)))) : FrSub ρ fr r := h
theorem zFS (h : FrSub ρ fr r := by (repeat' first | exact FrSub.nil | refine zfc ?_ | refine zfo ?_ | refine zfp ?_)) : FrSub ρ fr r := h
theorem zLO (h : LoSub ρ n lo lr := by (repeat' first | exact LoSub.nil | refine zlc ?_ | refine zld ?_ ?_ | rfl)) : LoSub ρ n lo lr := h
theorem zI {k : Int} (h1 : -9223372036854775808 <= k := by omega) (h2 : k <= 9223372036854775807 := by omega) : Q4q .i64 k := Q1o h1 h2
theorem zHP (h : AStep E o fr σ v σ') (hg : o.guard = none := by exact rfl) : HStep E ops o fr σ σ' v := HStep.plain hg h
theorem zS {rest : List Oper} {K : Cont} {x : FV} {d : Nat} (hs : AStep E o fr σ x σ') (h : AOps E ops rest K ((d, x) :: fr) σ') (hgd : o.guard = none := by exact rfl) (hdst : o.dst = some d := by exact rfl) (hd : Nat.ble (d + 1) E.N = true := by exact rfl) : AOps E ops (o :: rest) K fr σ := AOps.step1 hgd hdst hd hs h
theorem zLD {t : TypeId} {ti : TI} {x : Operand} {j : Abs.Id} {off : Nat} {cs : List AC} {c : AC} (ho : o.op = .load t x) (hx : aEval E.Γ fr x = some (.one (.ptr j off))) (hg : σ.get j = some (.cells cs)) (hc : cs[off]? = some c) (hT : TabOk E.P E.T := by exact tabOk) (ht : Tab.get t E.T = some ti := by exact rfl) (ha : ti.agg = false := by exact rfl) (hs : Nat.beq ti.size 1 = true := by exact rfl) : AStep E o fr σ (.one c) σ := AStep.loadOwn hT ho ht ha hs hx hg hc
theorem zIA {t : TypeId} {ti tj : TI} {x i : Operand} {k : IntKind} {m : Int} {s : Nat} {es : List (List AC)} {e : List AC} (ho : o.op = .indexAddr t x i) (hx : aEval E.Γ fr x = some (.one (.sl s es))) (hi' : aEval E.Γ fr i = some (.one (.lit (.int k m)))) (h0 : 0 <= m) (he : es[m.toNat]? = some e) (hT : TabOk E.P E.T := by exact tabOk) (ht : Tab.get t E.T = some ti := by exact rfl) (hk : Nat.beq ti.kind 2 = true := by exact rfl) (hj : Tab.get ti.elem E.T = some tj := by exact rfl) (hs : Nat.beq tj.size s = true := by exact rfl) : AStep E o fr σ (.one (.box e)) σ := AStep.indexAddr hT ho ht hk hj hs hx (.inl rfl) hi' h0 he
end
structure ZW (q : Prop) : Prop where
 out : q
theorem zA {p q : Prop} (h : q) (f : ZW q -> p := by
  intro h
  repeat first | ((with_reducible refine oj ?_); refine zau ?_) | (with_reducible refine zst ?_) | ((with_reducible refine Q0o ?_ ?_); rfl) | (with_reducible refine ok ?_; first | refine ACode.condT rfl ?_ | refine ACode.condF rfl ?_)
  exact h.out) : p := f ⟨h⟩
theorem zM {p q : Prop} (h : q) (f : ZW q -> p := by
  intro h
  repeat first | ((with_reducible refine oj ?_); refine zau ?_) | (with_reducible refine zst ?_) | ((with_reducible refine Q0o ?_ ?_); rfl) | (with_reducible refine ok ?_; first | refine ACode.condT rfl ?_ | refine ACode.condF rfl ?_) | ((with_reducible refine oj ?_); first | refine zad ?_ | refine zsu ?_ | refine zne ?_ | refine zeq ?_ | refine zmx ?_ | refine zmn ?_ | refine AOps.unG rfl rfl rfl ?_)
  exact h.out) : p := f ⟨h⟩
theorem zN {p q : Prop} (h : q) (f : ZW q -> p := by
  intro h
  first | ((with_reducible refine oj ?_); refine zau ?_) | (with_reducible refine zst ?_) | ((with_reducible refine Q0o ?_ ?_); rfl) | (with_reducible refine ok ?_; first | refine ACode.condT rfl ?_ | refine ACode.condF rfl ?_) | ((with_reducible refine oj ?_); first | refine zad ?_ | refine zsu ?_ | refine zne ?_ | refine zeq ?_ | refine zmx ?_ | refine zmn ?_ | refine AOps.unG rfl rfl rfl ?_)
  repeat first | ((with_reducible refine oj ?_); refine zau ?_) | (with_reducible refine zst ?_) | ((with_reducible refine Q0o ?_ ?_); rfl) | (with_reducible refine ok ?_; first | refine ACode.condT rfl ?_ | refine ACode.condF rfl ?_) | ((with_reducible refine oj ?_); first | refine zad ?_ | refine zsu ?_ | refine zne ?_ | refine zeq ?_ | refine zmx ?_ | refine zmn ?_ | refine AOps.unG rfl rfl rfl ?_)
  exact h.out) : p := f ⟨h⟩
theorem zO {p q : Prop} (h : q) (f : ZW q -> p := by
  intro h
  first | ((with_reducible refine oj ?_); refine zau ?_) | (with_reducible refine zst ?_) | ((with_reducible refine Q0o ?_ ?_); rfl) | (with_reducible refine ok ?_; first | refine ACode.condT rfl ?_ | refine ACode.condF rfl ?_) | ((with_reducible refine oj ?_); first | refine zad ?_ | refine zsu ?_ | refine zne ?_ | refine zeq ?_ | refine zmx ?_ | refine zmn ?_ | refine AOps.unG rfl rfl rfl ?_)
  exact h.out) : p := f ⟨h⟩
end Go.Proofs.YtpaonemmbhbgoaaGreatDoor
namespace Go.Proofs.YtpaonemmbhbgoaaGreatDoor
open Go Go.Abs Go.CoreX
abbrev int (n : Int) : AC := .lit (.int .i64 n)
def cI (n : Int) : List AC := [int n]
def cAlt (a : Alt) : List AC := [int a.tag, .sl 1 (a.binds.map cI)]
def cEx (x : Ex) : List AC := [int x.op, int x.n, .sl 1 (x.binds.map cI), .sl 1 (x.kids.map cI), .sl 2 (x.alts.map cAlt)]
mutual
def encTr : Tr -> List AC
 | .mk o n b k a => [int o, int n, .sl 1 (b.map cI), .sl 1 (Q0p k), .sl 2 (a.map cAlt)]
def Q0p : List Tr -> List (List AC)
 | [] => []
 | t :: ts => [.box (encTr t)] :: Q0p ts
end
def cTr (t : Tr) : List AC := [int t.op, int t.n, .sl 1 (t.binds.map cI), .sl 1 (Q0p t.kids), .sl 2 (t.alts.map cAlt)]
def cB (t : Tr) : List AC := [.box (cTr t)]
theorem Qgc (t : Tr) : encTr t = cTr t := by cases t; simp [encTr, cTr]
theorem Q4v : ∀ l : List Tr, Q0p l = l.map cB
 | [] => rfl
 | t :: ts => by simp [Q0p, Q4v ts, Qgc, cB]
theorem Q1e {l : List Tr} {i : Nat} {t : Tr} (h : l[i]? = some t) : (Q0p l)[i]? = some (cB t) := by rw [Q4v]; simp [h]
attribute [simp] idsL idsS AC.ids FV.ids idsF Fr.ids inL isO AObj.ids
theorem Q2x {α : Type} {p : Abs.Id -> Prop} {f : α -> List AC} (h : ∀ x, idsL p (f x)) : ∀ l : List α, idsS p (l.map f)
 | [] => by simp
 | x :: l => by simp [h x, Q2x h l]
@[simp] theorem ids_cI (p : Abs.Id -> Prop) (n : Int) : idsL p (cI n) := by simp [cI]
@[simp] theorem Qe5 (p : Abs.Id -> Prop) (l : List Int) : idsS p (l.map cI) := Q2x (ids_cI p) l
@[simp] theorem Qln (p : Abs.Id -> Prop) (a : Alt) : idsL p (cAlt a) := by simp [cAlt]
@[simp] theorem Qcv (p : Abs.Id -> Prop) (l : List Alt) : idsS p (l.map cAlt) := Q2x (Qln p) l
@[simp] theorem Qjr (p : Abs.Id -> Prop) (x : Ex) : idsL p (cEx x) := by simp [cEx]
@[simp] theorem ids_cExs (p : Abs.Id -> Prop) (l : List Ex) : idsS p (l.map cEx) := Q2x (Qjr p) l
mutual
theorem Qjp (p : Abs.Id -> Prop) : ∀ t : Tr, idsL p (encTr t)
 | .mk o n b k a => by simp [encTr, Q76 p k]
theorem Q76 (p : Abs.Id -> Prop) : ∀ l : List Tr, idsS p (Q0p l)
 | [] => by simp [Q0p]
 | t :: ts => by simp [Q0p, Qjp p t, Q76 p ts]
end
attribute [simp] Q76
@[simp] theorem ids_cTr (p : Abs.Id -> Prop) (t : Tr) : idsL p (cTr t) := by simp [cTr]
@[simp] theorem ids_cB (p : Abs.Id -> Prop) (t : Tr) : idsL p (cB t) := by simp [cB]
@[simp] theorem ids_cBs (p : Abs.Id -> Prop) (l : List Tr) : idsS p (l.map cB) := Q2x (ids_cB p) l
@[simp] theorem len_encTrs (l : List Tr) : (Q0p l).length = l.length := by rw [Q4v]; simp
@[simp] theorem Q8d (ρ : Nat -> Nat) (l : List Int) : renS ρ (l.map cI) = l.map cI := Q20 ρ _ (Qe5 _ l)
@[simp] theorem Q8e (ρ : Nat -> Nat) (l : List Alt) : renS ρ (l.map cAlt) = l.map cAlt := Q20 ρ _ (Qcv _ l)
@[simp] theorem Qil (ρ : Nat -> Nat) (l : List Tr) : renS ρ (l.map cB) = l.map cB := Q20 ρ _ (ids_cBs _ l)
@[simp] theorem ren_cEx (ρ : Nat -> Nat) (x : Ex) : renL ρ (cEx x) = cEx x := Q2b ρ _ (Qjr _ x)
theorem Q06 {α : Type} {f : α -> List AC} {l : List α} {i : Nat} {a : α} (h : l[i]? = some a) : (l.map f)[i]? = some (f a) := by simp [h]
theorem Q01 {α : Type} {l : List α} {i : Nat} (h : i < l.length) : ∃ a, l[i]? = some a := ⟨l[i], List.getElem?_eq_getElem h⟩
def arC : List AC := (Q4c.map fun n => Value.int .i64 n).map .lit
def orC : List AC := [3, 4, 6, 7, 5, 1, 2, 11, 8, 9].map fun n => .lit (.int .i64 n)
def Γc : List (Nat × List AC) := [(1, arC)]
theorem hΓc : ∀ g cs, (g, cs) ∈ Γc -> idsL isO cs := fun g cs h => by
 simp [Γc] at h
 first
  | (obtain ⟨rfl, rfl⟩ := h; simp [arC, Q4c]; done)
  | (rcases h with ⟨rfl, rfl⟩ | ⟨rfl, rfl⟩ <;> simp [arC, orC, Q4c])
theorem follows : Tryz.prog.follows .mixedOrders = true := by kernel_rfl
structure okX (x : Ex) : Prop where
 b : x.binds.length <= 1048576
 k : x.kids.length <= 1048576
 a : x.alts.length <= 1048576
 ab : ∀ a ∈ x.alts, a.binds.length <= 1048576
structure okE (e : List Ex) : Prop where
 l : e.length <= 1048576
 x : ∀ x ∈ e, okX x
variable {Γ : List (Nat × List AC)}
def idxOf {α : Type} (p : α -> Bool) : List α -> Int
 | [] => -1
 | a :: l => if p a = true then 0 else if idxOf p l < 0 then -1 else idxOf p l + 1
theorem Qg0 {α : Type} {p : α -> Bool} : ∀ l : List α, -1 <= idxOf p l
 | [] => by simp [idxOf]
 | a :: l => by
  have := Qg0 (p := p) l
  simp only [idxOf]; split
  ·omega
  ·split <;> omega
theorem Q75 {α : Type} {p : α -> Bool} : ∀ {l : List α}, (∀ x ∈ l, p x = false) -> idxOf p l = -1
 | [], _ => rfl
 | a :: l, h => by simp only [idxOf, h a (by simp), Q75 (l := l) (fun x hx => h x (by simp [hx]))]; simp
theorem Qbc {α : Type} {p : α -> Bool} : ∀ {l : List α} {j : Nat} {a : α}, (∀ x ∈ l.take j, p x = false) -> l[j]? = some a -> p a = true -> idxOf p l = j
 | [], j, a, _, h, _ => by simp at h
 | x :: l, 0, a, _, h, hp => by simp at h; subst h; simp [idxOf, hp]
 | x :: l, j + 1, a, h0, h, hp => by
  have := Qbc (l := l) (j := j) (fun y hy => h0 y (by simp [hy])) (by simpa using h) hp
  simp only [idxOf, h0 x (by simp), this]
  rw [if_neg (by simp), if_neg (by omega)]; simp
theorem Qcs {α : Type} {p : α -> Bool} : ∀ l : List α, 0 <= idxOf p l ↔ l.any p = true
 | [] => by simp [idxOf]
 | a :: l => by
  have ih := Qcs (p := p) l
  have hge := Qg0 (p := p) l
  simp only [idxOf, List.any_cons, Bool.or_eq_true, ← ih]
  by_cases hp : p a = true
  ·simp [hp]
  ·rw [if_neg hp]
   by_cases h : idxOf p l < 0
   ·rw [if_pos h]
    exact ⟨fun h2 => by omega, fun h2 => h2.elim (fun h3 => absurd h3 hp) (fun h3 => by omega)⟩
   ·rw [if_neg h]
    exact ⟨fun h2 => .inr (by omega), fun h2 => by omega⟩
theorem Qct {α : Type} {p : α -> Bool} (l : List α) : decide (idxOf p l ≥ 0) = l.any p := by
 rw [Bool.eq_iff_iff, decide_eq_true_iff]
 exact Qcs l

theorem Q1k {α : Type} {p : α -> Prop} {l : List α} {j : Nat} {a : α} (h : ∀ x ∈ l.take j, p x) (ha : l[j]? = some a) (hp : p a) : ∀ x ∈ l.take (j + 1), p x := by
 intro x hx
 rw [List.take_add_one, ha] at hx
 rcases List.mem_append.1 hx with hx | hx
 ·exact h x hx
 ·simp at hx; subst hx; exact hp
theorem Qjs {caps : List AC} (h : idsL isO caps) : idsF isO (caps.map .one) := by
 induction caps with
 | nil => trivial
 | cons c l ih => exact ⟨h.1, ih h.2⟩
theorem Q5a (n low high : Int) : APure Tryz.prog Γ 125 [.one (int n), .one (int low), .one (int high)] (.one (.lit (.bool (between n low high)))) := by
 intro ou
 refine AFn.walk 15 tabOk Tryz.func125 rfl (by kernel_rfl) rfl rfl fun hou => ?_
 repeat' first | ((with_reducible refine oj ?_); refine zau ?_) | (with_reducible refine zst ?_) | ((with_reducible refine Q0o ?_ ?_); rfl) | (with_reducible refine ok ?_; first | refine ACode.condT rfl ?_ | refine ACode.condF rfl ?_) | (with_reducible refine oj ?_; refine AOps.splitS rfl rfl rfl rfl (fun hb => ?_) (fun hb => ?_)) | (with_reducible refine ok ?_; refine ACode.cond rfl (fun hb => ?_) (fun hb => ?_))
 all_goals exact APure.fin rfl (WkF.ofEq (by simp [between]; first | (simp_all; done) | (simp_all; omega))) (by simp) hou rfl
theorem Qed (n : Int) : APure Tryz.prog Γ 76 [.one (int n)] (.one (.lit (.bool (Q45 n)))) := by
 intro ou
 refine AFn.walk 13 tabOk Tryz.func76 rfl (by kernel_rfl) rfl rfl fun hou => ?_
 repeat' first | ((with_reducible refine oj ?_); refine zau ?_) | (with_reducible refine zst ?_) | ((with_reducible refine Q0o ?_ ?_); rfl) | (with_reducible refine ok ?_; first | refine ACode.condT rfl ?_ | refine ACode.condF rfl ?_) | (with_reducible refine oj ?_; refine AOps.splitS rfl rfl rfl rfl (fun hb => ?_) (fun hb => ?_)) | (with_reducible refine ok ?_; refine ACode.cond rfl (fun hb => ?_) (fun hb => ?_))
 all_goals exact APure.fin rfl (WkF.ofEq (by simp [Q45]; simp_all)) (by simp) hou rfl
theorem Qef (n : Int) : APure Tryz.prog Γ 75 [.one (int n)] (.one (.lit (.bool (Q59 n)))) := by
 intro ou
 refine AFn.walk 17 tabOk Tryz.func75 rfl (by kernel_rfl) rfl rfl fun hou => ?_
 repeat' first | ((with_reducible refine oj ?_); refine zau ?_) | (with_reducible refine zst ?_) | ((with_reducible refine Q0o ?_ ?_); rfl) | (with_reducible refine ok ?_; first | refine ACode.condT rfl ?_ | refine ACode.condF rfl ?_) | (with_reducible refine oj ?_; refine AOps.splitS rfl rfl rfl rfl (fun hb => ?_) (fun hb => ?_)) | (with_reducible refine ok ?_; refine ACode.cond rfl (fun hb => ?_) (fun hb => ?_))
 all_goals exact APure.fin rfl (WkF.ofEq (by simp [Q59]; simp_all)) (by simp) hou rfl
theorem Qm7 (hΓ : ∀ g cs, (g, cs) ∈ Γ -> idsL isO cs) (xs : List Int) (hx : xs.length <= 1048576) (n : Int) :
  APure Tryz.prog Γ 70 [.one (.sl 1 (xs.map cI)), .one (int n)] (.one (int (idxOf (n == ·) xs))) := by
 intro ou
 refine AFn.walk 19 tabOk Tryz.func70 rfl (by kernel_rfl) rfl rfl fun hou => ?_
 refine zA ?_
 refine ACode.loopR hΓ (α := Nat) (fun j => [(8, .one (int j)), (7, .one (int (xs.map cI).length)), (1, .one (int n)), (0, .one (.sl 1 (xs.map cI)))])
  (fun j => ⟨0, [], ou⟩) (fun m j => j <= xs.length /\ (∀ x ∈ xs.take j, (n == x) = false) /\ m = xs.length - j) (a0 := 0) (ρ := id) ⟨by omega, by simp, rfl⟩ (LessR.of rfl zFS (by simp) zLO rfl rfl hou) fun m j hj => ?_
 obtain ⟨hjl, hno, rfl⟩ := hj
 refine zA ?_
 refine ACode.cond rfl (fun hb2 => ?_) (fun hb2 => ?_)
 ·have hlt : j < xs.length := by simpa using hb2
  obtain ⟨a, ha⟩ := Q01 hlt
  refine zA ?_
  refine zS (zIA rfl rfl rfl (by omega) (by simpa using Q06 ha)) ?_
  refine zA ?_
  refine ACode.cond rfl (fun hb3 => ?_) (fun hb3 => ?_)
  ·refine zA ?_
   refine APure.fin rfl (WkF.ofEq ?_) (by simp) hou rfl
   rw [Qbc hno ha hb3]
  ·refine zA ?_
   refine zS (AStep.arith rfl rfl rfl (.inl ⟨rfl, rfl⟩) zI) ?_
   refine zA ?_
   exact cInv ⟨xs.length - (j + 1), j + 1, id, by omega, ⟨by omega, Q1k hno ha hb3, rfl⟩, LessR.of rfl zFS (by simp) zLO rfl rfl hou⟩
 ·have hlt : j = xs.length := by simp at hb2; omega
  subst hlt
  rw [List.take_length] at hno
  refine zA ?_
  refine APure.fin rfl (WkF.ofEq ?_) (by simp) hou rfl
  rw [Q75 hno]
theorem Qeq (hΓ : ∀ g cs, (g, cs) ∈ Γ -> idsL isO cs) (xs : List Int) (hx : xs.length <= 1048576) (n : Int) :
  APure Tryz.prog Γ 42 [.one (.sl 1 (xs.map cI)), .one (int n)] (.one (.lit (.bool (xs.contains n)))) := by
 intro ou
 refine AFn.walk 9 tabOk Tryz.func42 rfl (by kernel_rfl) rfl rfl fun hou => ?_
 refine zA ?_
 refine zca hΓ (Qm7 hΓ xs hx n) hou ?_
 refine zA ?_
 refine APure.fin rfl (WkF.ofEq ?_) (by simp) hou rfl
 rw [Qct, List.any_beq]

theorem Qhr (hΓ : ∀ g cs, (g, cs) ∈ Γ -> idsL isO cs) (gf : Nat) (caps : List AC) (hcap : idsL isO caps) (p : Alt -> Bool) (xs : List Alt) (hx : xs.length <= 1048576) (hf : ∀ a ∈ xs, APure Tryz.prog Γ gf (.agg (cAlt a) :: caps.map .one) (.one (.lit (.bool (p a))))) :
  APure Tryz.prog Γ 182 [.one (.sl 2 (xs.map cAlt)), .one (.fn (.func gf) [] caps)] (.one (int (idxOf p xs))) := by
 intro ou
 refine AFn.walk 19 tabOk Tryz.func182 rfl (by kernel_rfl) rfl rfl fun hou => ?_
 refine zA ?_
 refine ACode.loopR hΓ (α := Nat) (fun j => [(8, .one (int j)), (7, .one (int (xs.map cAlt).length)), (1, .one (.fn (.func gf) [] caps)), (0, .one (.sl 2 (xs.map cAlt)))])
  (fun j => ⟨0, [], ou⟩) (fun m j => j <= xs.length /\ (∀ x ∈ xs.take j, p x = false) /\ m = xs.length - j) (a0 := 0) (ρ := id) ⟨by omega, by simp, rfl⟩ (LessR.of rfl ?_ ?_ zLO rfl rfl hou) fun m j hj => ?_
 ·refine .cons rfl (.ofEq rfl) (.cons rfl (.ofEq rfl) (.consP rfl (.ofEq rfl) (by simp [hcap]) (.consP rfl (.ofEq rfl) (by simp) .nil)))
 ·simp [Q12 Q8t caps hcap]
 obtain ⟨hjl, hno, rfl⟩ := hj
 refine zA ?_
 refine ACode.cond rfl (fun hb2 => ?_) (fun hb2 => ?_)
 ·have hlt : j < xs.length := by simpa using hb2
  obtain ⟨a, ha⟩ := Q01 hlt
  have hca := hf a (List.mem_of_getElem? ha)
  refine zA ?_
  refine zS (zIA rfl rfl rfl (by omega) (by simpa using Q06 ha)) ?_
  refine zA ?_
  refine AOps.callC hΓ hca rfl rfl rfl rfl rfl rfl rfl hou (by simp [Qjs hcap]) ?_
  refine zA ?_
  refine ACode.cond rfl (fun hb3 => ?_) (fun hb3 => ?_)
  ·refine zA ?_
   refine APure.fin rfl (WkF.ofEq ?_) (by simp) hou rfl
   rw [Qbc hno ha hb3]
  ·refine zA ?_
   refine zS (AStep.arith rfl rfl rfl (.inl ⟨rfl, rfl⟩) zI) ?_
   refine zA ?_
   refine cInv ⟨xs.length - (j + 1), j + 1, id, by omega, ⟨by omega, Q1k hno ha hb3, rfl⟩, LessR.of rfl ?_ ?_ zLO rfl rfl hou⟩
   ·refine .cons rfl (.ofEq rfl) (.cons rfl (.ofEq rfl) (.consP rfl (.ofEq rfl) (by simp [hcap]) (.consP rfl (.ofEq rfl) (by simp) .nil)))
   ·simp [Q12 Q8t caps hcap]
 ·have hlt : j = xs.length := by simp at hb2; omega
  subst hlt
  rw [List.take_length] at hno
  refine zA ?_
  refine APure.fin rfl (WkF.ofEq ?_) (by simp) hou rfl
  rw [Q75 hno]
theorem Qkp (hΓ : ∀ g cs, (g, cs) ∈ Γ -> idsL isO cs) (gf : Nat) (caps : List AC) (hcap : idsL isO caps) (p : Alt -> Bool) (xs : List Alt) (hx : xs.length <= 1048576) (hf : ∀ a ∈ xs, APure Tryz.prog Γ gf (.agg (cAlt a) :: caps.map .one) (.one (.lit (.bool (p a))))) :
  APure Tryz.prog Γ 164 [.one (.sl 2 (xs.map cAlt)), .one (.fn (.func gf) [] caps)] (.one (.lit (.bool (xs.any p)))) := by
 intro ou
 refine AFn.walk 9 tabOk Tryz.func164 rfl (by kernel_rfl) rfl rfl fun hou => ?_
 refine zA ?_
 refine AOps.callC hΓ (Qhr hΓ gf caps hcap p xs hx hf) rfl rfl rfl rfl rfl rfl rfl hou (by simp [hcap]) ?_
 refine zA ?_
 refine APure.fin rfl (WkF.ofEq ?_) (by simp) hou rfl
 rw [← Qct]

theorem Qm2 (b a : Alt) : APure Tryz.prog Γ 165 [.agg (cAlt b), .one (.box (cAlt a))] (.one (.lit (.bool (b.tag == a.tag)))) := by
 intro ou
 refine AFn.walk 9 tabOk Tryz.func165 rfl (by kernel_rfl) rfl rfl fun hou => ?_
 refine zA ?_
 exact APure.fin rfl (WkF.ofEq rfl) (by simp) hou rfl
theorem Qm0 (e : List Ex) (k : Int) (x : Ex) (h0 : 0 <= k) (hx : e[k.toNat]? = some x) : APure Tryz.prog Γ 78 [.one (int k), .one (.box [.sl 5 (e.map cEx)])] (.agg (cEx x)) := by
 intro ou
 refine AFn.walk 8 tabOk Tryz.func78 rfl (by kernel_rfl) rfl rfl fun hou => ?_
 refine zA ?_
 refine zS (zIA rfl rfl rfl h0 (Q06 hx)) ?_
 refine zA ?_
 exact APure.fin rfl (WkF.ofEq rfl) (by simp) hou rfl
set_option maxHeartbeats 400000 in
theorem alts_ok (hΓ : ∀ g cs, (g, cs) ∈ Γ -> idsL isO cs) (x : Ex) (hx : okX x) : APure Tryz.prog Γ 124 [.agg (cEx x)] (.one (.lit (.bool (Q5h x)))) := by
 have hxa := hx.a
 have hxb := hx.ab
 have hxk := hx.k
 intro ou
 refine AFn.walk 94 tabOk Tryz.func124 rfl (by kernel_rfl) rfl rfl fun hou => ?_
 refine zA ?_
 refine ACode.loopR hΓ (α := Nat) (fun j => [(9, .one (int j)), (8, .one (int (x.alts.map cAlt).length)), (7, .one (.sl 2 (x.alts.map cAlt))), (1, .one (.ptr (.l 0) 0))])
  (fun j => ⟨1, [(0, .cells (cEx x))], ou⟩) (fun m j => j <= x.alts.length /\ (∀ ai ∈ x.alts.zipIdx.take j, Q4e x ai.2 ai.1 = false) /\ m = x.alts.length - j) (a0 := 0) (ρ := id) ⟨by omega, by simp, rfl⟩ (LessR.of rfl zFS (by simp) zLO rfl rfl hou) fun m j hj => ?_
 obtain ⟨hjl, hno, rfl⟩ := hj
 refine zA ?_
 refine ACode.cond rfl (fun hb2 => ?_) (fun hb2 => ?_)
 ·have hlt : j < x.alts.length := by simpa using hb2
  obtain ⟨a, ha⟩ := Q01 hlt
  have haz : x.alts.zipIdx[j]? = some (a, j) := by simp [List.getElem?_zipIdx, ha]
  have hab := hxb a (List.mem_of_getElem? ha)
  have bad : Q4e x j a = true -> Q5h x = false := fun h => by
   have : x.alts.zipIdx.any (fun ai => Q4e x ai.2 ai.1) = true := List.any_eq_true.2 ⟨(a, j), List.mem_of_getElem? haz, h⟩
   simp [Q5h, this]
  refine zA ?_
  refine zS (zIA rfl rfl rfl (by omega) (Q06 ha)) ?_
  refine zA ?_
  refine zS (AStep.sliceTo tabOk rfl rfl rfl rfl rfl rfl (by simp; omega)) ?_
  refine AOps.freeze1 (.l 1) 4 rfl rfl ?_
  refine AOps.wk 17 rfl (y := .one (.sl 2 ((x.alts.take j).map cAlt))) (.ofEq (by rw [List.map_take])) ?_
  refine zA ?_
  have hca := Qkp hΓ 165 [.box (cAlt a)] (by simp) (fun b => b.tag == a.tag) (x.alts.take j) (by simp; omega) (fun b _ => Qm2 b a)
  obtain ⟨q, hq⟩ : ∃ q, (x.alts.take j).any (fun b => b.tag == a.tag) = q := ⟨_, rfl⟩
  rw [hq] at hca
  refine AOps.callC hΓ hca rfl rfl rfl rfl rfl rfl rfl hou (by simp [-List.map_take]) ?_
  have fin : ∀ fr' σ', Q4e x j a = true -> aRes tab fr' σ' Tryz.f124.results.toList = some (.one (.lit (.bool false))) -> σ'.ou = ou -> Abs.Fin ⟨Tryz.prog, tab, Γ, 94, []⟩ Tryz.f124 (fun r' ou' => r' = .one (.lit (.bool (Q5h x))) /\ ou' = ou) fr' σ' := fun fr' σ' h1 h2 h3 =>
   APure.fin h2 (WkF.ofEq (by rw [bad h1])) (by simp) hou h3
  repeat' first | refine zN ?_ | (with_reducible refine oj ?_; refine AOps.splitS rfl rfl rfl rfl (fun hb => ?_) (fun hb => ?_)) | (with_reducible refine ok ?_; first | refine ACode.condS rfl (fun hb => ?_) (fun hb => ?_) | refine ACode.cond rfl (fun hb => ?_) (fun hb => ?_))
  all_goals first
   | (refine fin _ _ ?_ rfl rfl
      subst hq
      simp_all [Q4e]
      done)
   | (refine cInv ⟨x.alts.length - (j + 1), j + 1, fun k => if k = 0 then 0 else k, by omega, ⟨by omega, Q1k hno haz ?_, rfl⟩, LessR.of rfl zFS (by simp) zLO rfl rfl hou⟩
      subst hq
      simp_all [Q4e]
      done)
 ·have hlt : j = x.alts.length := by simp at hb2; omega
  subst hlt
  have e : Q5h x = ((x.kids.length : Int) == 1 + x.alts.length && (x.op == 7 || decide (0 < x.alts.length))) := by
   have hall : x.alts.zipIdx.any (fun ai => Q4e x ai.2 ai.1) = false := by
    rw [List.any_eq_false]
    intro ai hai
    have := hno ai (by rw [List.take_of_length_le (by simp)]; exact hai)
    simp [this]
   simp only [Q5h, hall, Bool.not_false, Bool.true_and]
  clear hno
  repeat' first | refine zN ?_ | (with_reducible refine oj ?_; refine AOps.splitS rfl rfl rfl rfl (fun hb => ?_) (fun hb => ?_)) | (with_reducible refine ok ?_; first | refine ACode.condS rfl (fun hb => ?_) (fun hb => ?_) | refine ACode.cond rfl (fun hb => ?_) (fun hb => ?_))
  all_goals
   refine APure.fin rfl (WkF.ofEq ?_) (by simp) hou rfl
   rw [e]
   simp_all
theorem arC_get {n : Int} (h0 : 0 <= n) (h1 : n <= 11) : (arC.drop (n.toNat * ti3.size))[0]? = some (int (Q4c.getD n.toNat 0)) := by
 obtain ⟨m, rfl⟩ : ∃ m : Nat, n = m := ⟨n.toNat, by omega⟩
 have hm : m < 12 := by omega
 rw [Int.toNat_natCast, show ti3.size = 1 from rfl, Nat.mul_one]
 match m, hm with
 | 0, _ => rfl
 | 1, _ => rfl
 | 2, _ => rfl
 | 3, _ => rfl
 | 4, _ => rfl
 | 5, _ => rfl
 | 6, _ => rfl
 | 7, _ => rfl
 | 8, _ => rfl
 | 9, _ => rfl
 | 10, _ => rfl
 | 11, _ => rfl
def wk (x : Ex) : Int × Int × Bool := (wants x).getD (0, 0, false)
set_option maxHeartbeats 1000000 in
theorem Qkz (x : Ex) (hx : okX x) : APure Tryz.prog Γc 99 [.agg (cEx x)] (.one (.lit (.bool (CoreX.shape x)))) := by
 have hxa := hx.a
 have hxb := hx.b
 have hxk := hx.k
 have hal := alts_ok hΓc x hx
 intro ou
 refine AFn.walk 113 tabOk Tryz.func99 rfl (by kernel_rfl) rfl rfl fun hou => ?_
 repeat' first | (with_reducible refine oj ?_; refine AOps.auto tabOk rfl ?_) | (with_reducible first | refine o1 ?_ | refine o2 ?_ | refine o3 ?_ | refine o4 ?_ | refine o5 ?_ | refine o6 ?_ | refine o7 ?_ | refine o8 ?_ | refine oa ?_ | refine ob ?_ | refine oc ?_ | refine od ?_ | refine oe ?_ | refine og ?_ | refine oh ?_ | refine oi ?_) | (with_reducible refine Q0o ?_ ?_; rfl) | (with_reducible refine ok ?_; first | refine ACode.condT rfl ?_ | refine ACode.condF rfl ?_) | ((with_reducible refine oj ?_); first | refine zad ?_ | refine zsu ?_ | refine zne ?_ | refine zeq ?_ | refine zmx ?_ | refine zmn ?_ | refine AOps.unG rfl rfl rfl ?_)
 refine ACode.cutR hΓc (α := Unit) (fun _ => [(5, .one (.lit (.bool (wk x).2.2))), (4, .one (int (wk x).2.1)), (3, .one (int (wk x).1)), (1, .one (.ptr (.l 0) 0))])
  (fun _ => ⟨1, [(0, .cells (cEx x))], ou⟩) (fun _ => (wants x).isSome = true /\ ¬ (x.op = 7 ∨ x.op = 13)) ?_ fun _ ha => ?_
 ·repeat' first | refine zN ?_ | (with_reducible refine oj ?_; refine AOps.splitS rfl rfl rfl rfl (fun hb => ?_) (fun hb => ?_)) | (with_reducible refine ok ?_; first | refine ACode.condS rfl (fun hb => ?_) (fun hb => ?_) | refine ACode.cond rfl (fun hb => ?_) (fun hb => ?_))
  all_goals try (guard_hyp hb : (x.op == 2) = true; refine ACode.drawX tabOk 4 [] follows (by kernel_rfl) rfl rfl rfl rfl .nil ?_; repeat' first | refine zN ?_ | (with_reducible refine oj ?_; refine AOps.splitS rfl rfl rfl rfl (fun hb => ?_) (fun hb => ?_)) | (with_reducible refine ok ?_; first | refine ACode.condS rfl (fun hb => ?_) (fun hb => ?_) | refine ACode.cond rfl (fun hb => ?_) (fun hb => ?_)))
  all_goals try (guard_hyp hb : (x.op == 9) = true; refine ACode.drawX tabOk 7 [] follows (by kernel_rfl) rfl rfl rfl rfl .nil ?_; repeat' first | refine zN ?_ | (with_reducible refine oj ?_; refine AOps.splitS rfl rfl rfl rfl (fun hb => ?_) (fun hb => ?_)) | (with_reducible refine ok ?_; first | refine ACode.condS rfl (fun hb => ?_) (fun hb => ?_) | refine ACode.cond rfl (fun hb => ?_) (fun hb => ?_)))
  all_goals try (guard_hyp hb : (x.op == 5) = true; refine ACode.drawX tabOk 9 [(3, .one (int (((x.binds.map cI).length : Int) + 1))), (7, .one (int (if ((x.binds.map cI).length : Int) > 1 then ((x.binds.map cI).length : Int) else 1)))] follows (by kernel_rfl) rfl rfl rfl rfl (.step rfl (zHP (AStep.arith rfl rfl rfl (.inl ⟨rfl, rfl⟩) (Q1o (by simp; omega) (by simp; omega)))) (.step rfl (zHP (AStep.max2 (t := 3) (ty := 3) rfl rfl rfl)) .nil)) ?_; repeat' first | refine zN ?_ | (with_reducible refine oj ?_; refine AOps.splitS rfl rfl rfl rfl (fun hb => ?_) (fun hb => ?_)) | (with_reducible refine ok ?_; first | refine ACode.condS rfl (fun hb => ?_) (fun hb => ?_) | refine ACode.cond rfl (fun hb => ?_) (fun hb => ?_)))
  all_goals try (refine zca hΓc hal hou ?_; repeat' first | refine zN ?_ | (with_reducible refine oj ?_; refine AOps.splitS rfl rfl rfl rfl (fun hb => ?_) (fun hb => ?_)) | (with_reducible refine ok ?_; first | refine ACode.condS rfl (fun hb => ?_) (fun hb => ?_) | refine ACode.cond rfl (fun hb => ?_) (fun hb => ?_)))
  all_goals try (refine zca hΓc (Q5a x.n 0 11) hou ?_; repeat' first | refine zN ?_ | (with_reducible refine oj ?_; refine AOps.splitS rfl rfl rfl rfl (fun hb => ?_) (fun hb => ?_)) | (with_reducible refine ok ?_; first | refine ACode.condS rfl (fun hb => ?_) (fun hb => ?_) | refine ACode.cond rfl (fun hb => ?_) (fun hb => ?_)))
  all_goals try (refine zS (AStep.indexArr tabOk rfl rfl rfl rfl rfl rfl (by simp_all [between]) (by simp_all [between]; show x.n < 12; omega)) ?_; refine zS (AStep.loadBox tabOk rfl rfl rfl rfl rfl (arC_get (by simp_all [between]) (by simp_all [between]))) ?_; repeat' first | refine zN ?_ | (with_reducible refine oj ?_; refine AOps.splitS rfl rfl rfl rfl (fun hb => ?_) (fun hb => ?_)) | (with_reducible refine ok ?_; first | refine ACode.condS rfl (fun hb => ?_) (fun hb => ?_) | refine ACode.cond rfl (fun hb => ?_) (fun hb => ?_)))
  all_goals first
   | (refine cInv ⟨(), id, ⟨?_, ?_⟩, LessR.of rfl (FrSub.cons rfl (.ofEq ?_) (FrSub.cons rfl (.ofEq ?_) (FrSub.cons rfl (.ofEq ?_) (FrSub.cons rfl (.ofEq rfl) .nil)))) (by simp) zLO rfl rfl hou⟩ <;> simp_all [wants, wk, FV.ren, AC.ren] <;> done)
   | (refine APure.fin rfl (WkF.ofEq ?_) (by simp) hou rfl
      simp_all [CoreX.shape, wants]
      done)
 ·obtain ⟨hw0, hn⟩ := ha
  have hw : wants x = some (wk x) := by
   unfold wk
   cases h : wants x with
   | none => rw [h] at hw0; cases hw0
   | some v => rfl
  generalize wk x = kbu at hw
  obtain ⟨k, b, u⟩ := kbu
  have e : CoreX.shape x = ((x.kids.length : Int) == k && (x.binds.length : Int) == b && x.alts.length == 0 && (u || x.n == 0)) := by
   unfold CoreX.shape; rw [if_neg hn, hw]
  repeat' first | refine zN ?_ | (with_reducible refine oj ?_; refine AOps.splitS rfl rfl rfl rfl (fun hb => ?_) (fun hb => ?_)) | (with_reducible refine ok ?_; first | refine ACode.condS rfl (fun hb => ?_) (fun hb => ?_) | refine ACode.cond rfl (fun hb => ?_) (fun hb => ?_))
  all_goals
   refine APure.fin rfl (WkF.ofEq ?_) (by simp) hou rfl
   rw [e]
   simp_all
end Go.Proofs.YtpaonemmbhbgoaaGreatDoor
