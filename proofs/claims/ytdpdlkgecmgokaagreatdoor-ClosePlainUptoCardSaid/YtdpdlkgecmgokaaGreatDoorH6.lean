/- The abstract layer, part Bt: calls that leave the objects as they were. No condition of its own. -/
import Derived.Test.YtdpdlkgecmgokaaGreatDoorH5
import Derived.Recover
set_option maxRecDepth 10000
set_option linter.unusedVariables false
set_option linter.unusedSimpArgs false
namespace Go.Abs
theorem AStep.callK{E:Env}{o:Oper}{fr:Fr}{σ:St}{f:Operand}{args:Array Operand}{tys:Array TypeId}{g:Nat}{first caps:List AC}{vs:List FV}{r:FV}
  (hΓ:∀g cs,(g,cs)∈E.Γ->idsL isO cs) (ho:o.op=.call { callee:=.value f,args:=args,argTypes:=tys })
  (hf:aEval E.Γ fr f=some (.one (.fn (.func g) first caps))) (hargs:Q18 E.Γ fr args.toList=some vs) (hids:idsF isO (first.map .one++vs++caps.map .one)) (hou:OuOk σ.ou)
  (hc:AFn E.P E.Γ g (first.map .one++vs++caps.map .one) σ.ou (fun r' ou'=>r'=r/\ou'=σ.ou)):AStep E o fr σ r σ:=by
 intro F w C tmps hi hfr next Q hk
 have hcallee:=Q00 (a:=⟨tmps,E.ds⟩) hi hfr hf
 simp only[RF,R]at hcallee
 obtain⟨xs,ys,hfv,hx,hy⟩:=hcallee
 have hvs:=Q1f (a:=⟨tmps,E.ds⟩) hi hfr hargs
 have hall:RFs w C (first.map .one++vs++caps.map .one) (xs++args.toList.map (Act.eval ⟨tmps,E.ds⟩)++ys):=(RFs.ones hx |>.append hvs).append (RFs.ones hy)
 have hrun:(execOp (Act.eval ⟨tmps,E.ds⟩) o).run E.P w=.ok (.enter g (xs++args.toList.map (Act.eval ⟨tmps,E.ds⟩)++ys).toArray) w:=by
  unfold execOp
  simp only[ho,resolve,Sem.run_bind,hfv,Deferred.ofValue,Sem.run_pure,Result.andThen_ok,invoke,hc.1]
  congr 2
  apply Array.ext'
  simp
 unfold Oper.wp
 rw[hrun,Oper.upon_enter]
 have hc1:Chg isO w C w { C with nl:=0 }:=⟨fun _ _=>rfl,fun _ h=>h,fun i hp ho=>⟨by cases i with|l k=>cases hp|o k=>exact ho,rfl,rfl⟩⟩
 refine (hc.2 (Q2f w C σ.ou) w { C with nl:=0 } _ rfl (hi.forCallee hou hΓ) (RFs.chg hc1 _ _ hids hall)).mono fun e w' ⟨v,r',ou',C',he,hgo,h0,hi',hr,hQ1,hQ2⟩=>?_
 subst he;subst hQ1;subst hQ2
 obtain⟨hb1,hb2,hb3⟩:=hi.back hgo h0 hi'
 have hrid:r'.ids isO:=FV.ids_mono (Q3j h0) r' (RF.idsOk r' v hr)
 exact hk v w' _ hb1 hb2 (RF.chg hb3 r' v hrid hr)
theorem Q09.callK{E:Env}{l:List Oper}{frb:Fr}{σ:St}{vs:List FV}{k:Nat}{v:FV}{r:List (Nat×FV)}{o:Oper}{f:Operand}{args:Array Operand}{tys:Array TypeId}{g:Nat}{first caps:List AC}{us bs:List FV}(hΓ:∀g cs,(g,cs)∈E.Γ->idsL isO cs)
  (hc:AFn E.P E.Γ g bs σ.ou (fun r' ou'=>r'=v/\ou'=σ.ou)) (hou:OuOk σ.ou) (hids:idsF isO bs) (hk:l[k]?=some o) (hgd:o.guard=none)
  (ho:o.op=.call { callee:=.value f,args:=args,argTypes:=tys }) (hf:aEval E.Γ (depFr l vs o++frb) f=some (.one (.fn (.func g) first caps))) (hargs:Q18 E.Γ (depFr l vs o++frb) args.toList=some us) (has:first.map .one++us++caps.map .one=bs)
  (hr:Q09 E l frb σ vs r):Q09 E l frb σ vs ((k,v)::r):=by
 subst has
 exact .step hk (HStep.plain hgd (AStep.callK hΓ ho hf hargs hids hou hc)) hr
theorem AOps.callK{E:Env}{ops:Array Oper}{rest:List Oper}{o:Oper}{K:Cont}{fr:Fr}{σ:St}{d:Nat}{f:Operand}{args:Array Operand}{tys:Array TypeId}{g:Nat}{first caps:List AC}{vs bs:List FV}{r:FV}
  (hΓ:∀g cs,(g,cs)∈E.Γ->idsL isO cs) (hc:AFn E.P E.Γ g bs σ.ou (fun r' ou'=>r'=r/\ou'=σ.ou)) (hgd:o.guard=none) (hdst:o.dst=some d) (hd:Nat.ble (d+1) E.N=true) (ho:o.op=.call { callee:=.value f,args:=args,argTypes:=tys })
  (hf:aEval E.Γ fr f=some (.one (.fn (.func g) first caps))) (hargs:Q18 E.Γ fr args.toList=some vs) (has:first.map .one++vs++caps.map .one=bs) (hou:OuOk σ.ou) (hids:idsF isO bs)
  (h:AOps E ops rest K ((d,r)::fr) σ):AOps E ops (o::rest) K fr σ:=by
 subst has
 exact AOps.step1 hgd hdst hd (AStep.callK hΓ ho hf hargs hids hou hc) h
theorem Q0m.appOwn{E:Env}{o:Oper}{fr:Fr}{σ σ1:St}{t:TypeId}{ti tj:TI}{x y:Operand}{c d:AC}{s cap0:Nat}{es news:List (List AC)}(hT:TabOk E.P E.T)
  (ho:o.op=.call { callee:=.builtin .append,args:=#[x,y],argTypes:=#[t,t] }) (ht:Tab.get t E.T=some ti) (hk:Nat.beq ti.kind 2=true) (hj:Tab.get ti.elem E.T=some tj) (hx:aEval E.Γ fr x=some (.one c)) (hy:aEval E.Γ fr y=some (.one d)) (hb:BaseO σ c s es cap0 σ1) (hsrc:Src d s news) (hne:news≠[])
  (hs:Nat.beq tj.size s=true) (hbytes:(es.length+news.length) * tj.bytes<=140737488355328) (h63:es.length+news.length<=140737488355328):
  Q0m E o fr σ (fun v σ'=>∃cap,(es++news).length<=cap/\v=.one (.arr (.l σ.n) s 0 (es++news).length cap)/\σ'=σ1.push (.cells (vec s (es++news) cap))):=by
 intro F w C tmps hi hf next Q hk3
 have h1:=Q00 (a:=⟨tmps,E.ds⟩) hi hf hx
 have h2:=Q00 (a:=⟨tmps,E.ds⟩) hi hf hy
 simp only[RF]at h1 h2
 obtain⟨v',w',C',cap,hrun,hgo,hi',hr,hle⟩:=hi.appendOwn (ty:=o.type) ((hT t ti ht).slice (Nat.eq_of_beq_eq_true hk)) (hT _ _ hj) hb hsrc hne (Nat.eq_of_beq_eq_true hs) hbytes h63 h1 h2
 have hex:(execOp (Act.eval ⟨tmps,E.ds⟩) o).run E.P w=.ok (.value v') w':=by
  unfold execOp
  simp only[ho,resolve,invoke,builtin,Sem.run_bind,Sem.run_pure,Result.andThen_ok,List.map_toArray,List.map_cons,List.map_nil,hrun]
 unfold Oper.wp
 rw[hex,Oper.upon_value]
 exact hk3 _ _ C' _ _ ⟨cap,hle,rfl,rfl⟩ hgo hi' (by simp only[RF];exact hr)
theorem Q0m.appOwnF{E:Env}{o:Oper}{fr:Fr}{σ:St}{t:TypeId}{ti tj:TI}{x y:Operand}{i:Id}{s cap0:Nat}{es news:List (List AC)}(hT:TabOk E.P E.T)
  (ho : o.op = .call { callee := .builtin .append, args := #[x, y], argTypes := #[t, t] }) (ht : Tab.get t E.T = some ti) (hk : Nat.beq ti.kind 2 = true) (hj : Tab.get ti.elem E.T = some tj) (hx : aEval E.Γ fr x = some (.one (.arr i s 0 es.length cap0))) (hy : aEval E.Γ fr y = some (.one (.sl s news))) (hg : σ.get i = some (.cells (vec s es cap0))) (hl : ∀ x ∈ es, x.length = s) (hl2 : ∀ x ∈ news, x.length = s) (hn : es.length <= cap0)
  (hin : i ≠ .l σ.n) (hs : Nat.beq tj.size s = true) (hbytes : (es.length + news.length) * tj.bytes <= 140737488355328) (h63 : es.length + news.length <= 140737488355328) :
  Q0m E o fr σ (fun v σ'=>v=.one (.sl s (es++news))/\σ'=(σ.set i .dead).push .dead):=by
 by_cases hne:news=[]
 ·subst hne
  refine Q0m.frozen (P:=fun v σ'=>v=.one (.arr i s 0 es.length cap0)/\σ'=σ.push .dead) ?_ ?_
  ·intro F w C tmps hi hf next Q hk3
   refine AStep.appNone (σ:=σ) hT ho ht hk hj hx hy F w C tmps hi hf next Q fun u w' C' hg' hi' hr=>?_
   obtain⟨C2,g1,g2,g3,g4⟩:=hi'.ghost
   refine hk3 u w' C2 _ (σ.push .dead) ⟨rfl,rfl⟩ (hg'.trans ⟨Stp.refl _ _,g1.weaken (fun _ _=>trivial),by rw[g2];exact Nat.le_refl _,fun a ha=>.inl ((g3 a).1 ha)⟩) g4 (RF.ext g1 hr)
  ·rintro v σ' ⟨rfl,rfl⟩
   refine⟨i,s,cap0,es,(σ.set i .dead).push .dead,rfl,by rw[St.get_push,if_neg hin];exact hg,hl,?_,fun j p hj=>?_,by simp,rfl⟩
   ·show (σ.set i .dead).n+1=σ.n+1
    rw[St.n_set]
   ·rw[St.get_push]at hj
    rw[St.n_set]at hj
    by_cases e:j=.l σ.n
    ·rw[if_pos e]at hj
     rw[St.get_set_ne _ (by rw[e];exact hin),St.get_push,if_pos e];exact hj
    ·rw[if_neg e]at hj
     by_cases e2:i=j
     ·subst e2
      rw[St.get_set_same]at hj ⊢;exact hj
     ·rw[St.get_set_ne _ e2]at hj
      rw[St.get_set_ne _ e2,St.get_push,if_neg e];exact hj
 ·refine Q0m.frozen (Q0m.appOwn hT ho ht hk hj hx hy (.own s cap0 es i hg hl hn) (.sl s news) hne hs hbytes h63) ?_
  rintro v σ' ⟨cap,hc,rfl,rfl⟩
  have hn1:(σ.set i .dead).n=σ.n:=St.n_set ..
  refine⟨.l σ.n,s,cap,es++news,(σ.set i .dead).push .dead,rfl,by rw[St.get_push,hn1,if_pos rfl],?_,rfl,fun j p hj=>?_,rfl,rfl⟩
  ·intro x hx
   rcases List.mem_append.1 hx with hx|hx
   ·exact hl x hx
   ·exact hl2 x hx
  ·rw[St.get_push,hn1]at hj
   by_cases e:j=.l σ.n
   ·rw[if_pos e]at hj;rw[e,St.get_set_same];exact hj
   ·rw[if_neg e]at hj
    rw[St.get_set_ne _ (fun h=>e h.symm),St.get_push,hn1,if_neg e];exact hj
theorem ACode.drawR1{E:Env}{id:Nat}{l:List Oper}{K:Cont}{fr frb:Fr}{σ0:St}{hd tl:List Oper}{vs0:List FV}{oal:Oper}(hT:TabOk E.P E.T)(n al:Nat)(cs:List (Nat×FV))(P:FV->St->Prop)(hm:E.P.follows .mixedOrders=true)(hB:drawB l n=true)(hsp:Q28 n l=some (hd,tl))(hfb:Fr.woO (dsts hd) fr=some frb)
  (hch:chainB l [al]=true) (hqb:Q74 l [al] n=true) (hrun0:Q0d E l.toArray l frb σ0 ((al,.bot)::cs) 0 hd []=some vs0) (hal:l[al]?=some oal) (haln:Nat.blt al n=true) (hd1:dstOk E.N oal.dst=true)
  (hrunP:∀v σ,P v σ->Q0d E l.toArray l frb σ ((al,.bot)::cs) 0 hd []=some vs0) (hcs0:Q09 E l frb σ0 vs0 cs) (hcsP:∀v σ,P v σ->Q09 E l frb σ vs0 cs)
  (hs:Q2y E l.toArray oal (Q0i l (mixV [al] vs0 (fC [al] [])) oal++frb) σ0 P (fun ps σ'=>K (.panic ps) frb σ'))
  (htail:∀v σ,P v σ->AOps E l.toArray tl K (Q0c (mixV [al] vs0 (fC [al] [v])) 0 hd++frb) σ):ACode E (.region id l.toArray true) K fr σ0:=by
 refine ACode.drawC2 hT n [al] cs (fun vs σ=>match vs with|[]=>σ=σ0|[v]=>P v σ|_=>False) hm hB hsp hfb (by simp) hch hqb rfl hrun0 ?_ ?_ ?_ ?_ ?_
 ·intro vs σ h
  match vs with
  |[]=>subst h;exact hrun0
  |[v]=>exact hrunP v σ h
  |_::_::_=>exact h.elim
 ·intro vs σ h
  match vs with
  |[]=>subst h;exact hcs0
  |[v]=>exact hcsP v σ h
  |_::_::_=>exact h.elim
 ·intro i hi
  simp at hi;subst hi
  have:i+1<=n:=by simpa[Nat.blt]using haln
  omega
 ·intro vs σ h i o hi ho
  match vs with
  |[]=>
   subst h;cases hi
   rw[hal]at ho;cases ho
   exact⟨hd1,hs⟩
  |_::_=>cases hi
 ·intro vs σ hl h
  match vs,hl with
  |[v],_=>exact htail v σ h
theorem AStep.sliceOne{E:Env}{o:Oper}{fr:Fr}{σ:St}{t:TypeId}{ti tj:TI}{x l h:Operand}{k k':IntKind}{a sz:Nat}{e:List AC}{es:List (List AC)}(hT:TabOk E.P E.T)(ho:o.op=.slice t x (some l) (some h) none)(ht:Tab.get t E.T=some ti)(hk:Nat.beq ti.kind 2=true)(hj:Tab.get ti.elem E.T=some tj)(hsz:Nat.beq tj.size sz=true)
  (hx:aEval E.Γ fr x=some (.one (.sl sz es))) (hl:aEval E.Γ fr l=some (.one (.lit (.int k (a:Int))))) (hh:aEval E.Γ fr h=some (.one (.lit (.int k' ((a+1:Nat):Int))))) (he:es[a]?=some e):AStep E o fr σ (.one (.sl sz [e])) σ:=by
 have hb:a < es.length:=(List.getElem?_eq_some_iff.1 he).1
 refine AStep.quiet fun F w C tmps hi hf=>?_
 have e1:=Q00 (a:=⟨tmps,E.ds⟩) hi hf hx
 have e3:=Q00 (a:=⟨tmps,E.ds⟩) hi hf hl
 have e4:=Q00 (a:=⟨tmps,E.ds⟩) hi hf hh
 simp only[RF,R]at e1 e3 e4
 obtain⟨ad,cap,hv,hcap,hrs⟩:=e1
 have hsz':tj.size=sz:=Nat.eq_of_beq_eq_true hsz
 have hu:=(hT t ti ht).slice (Nat.eq_of_beq_eq_true hk)
 have hsz2:=(hT _ _ hj).run_sizeOf (w:=w)
 have h1:((a:Int))<=(((a+1:Nat)):Int):=by omega
 have h2:(((a+1:Nat)):Int)<=(cap:Int):=by omega
 have hrun:(execOp (Act.eval ⟨tmps,E.ds⟩) o).run E.P w=.ok (.value (.slice (if cap=a then ad else ad.map (·.add (a * tj.size))) 1 (cap - a))) w:=by
  have h3:a+1<=cap:=by omega
  unfold execOp
  simp only[ho,hv,e3.1,e4.1,Option.map_some,Option.map_none]
  have h4:(a:Int)+1<=(cap:Int):=by omega
  have h5:(0:Int)<=(a:Int)+1:=by omega
  simp[Instr.sliceAt,Instr.slice,run_underlying hu,hsz2,Instr.sliceBounds,Instr.sliceBound,asIntOf,Result.andThen,h3,h4,h5]
 refine⟨_,hrun,?_⟩
 simp only[RF,R]
 refine⟨_,_,rfl,by simp;omega,?_⟩
 rcases hrs with rfl|⟨b,rfl,hs,hr⟩
 ·simp at hb
 ·right
  have e2:b.add (a * tj.size)=⟨b.block,b.off+a * sz,none⟩:=by
   obtain⟨bl,of,sp⟩:=b
   simp only at hs;subst hs
   simp only[Addr.add,hsz']
   split
   ·rename_i h0;simp[h0]
   ·rfl
  rw[if_neg (by omega),Option.map_some,e2]
  refine⟨_,rfl,rfl,?_⟩
  have h5:=RS.drop a es b hs hr
  have h6:es.drop a=e::es.drop (a+1):=by
   rw[List.drop_eq_getElem_cons hb]
   congr 1
   rw[List.getElem?_eq_getElem hb]at he;exact Option.some.inj he
  rw[h6]at h5
  simp only[RS]at h5 ⊢
  exact⟨h5.1,h5.2.1,trivial⟩
theorem AFn.wkArgs{P:Program}{Γ:List (Nat×List AC)}{g:Nat}{xs ys:List FV}{ou:Outer}{Q:FV->Outer->Prop}(h:AFn P Γ g ys ou Q)(hw:WkFs xs ys):AFn P Γ g xs ou Q:=⟨h.1,fun F w C cargs h0 hi hr=>h.2 F w C cargs h0 hi (hw w C cargs hr)⟩
end Go.Abs
namespace Go.Abs
theorem Qin{P:Program}{T:Tab}{Γ:List (Nat×List AC)}{N:Nat}{fn:Func}{ds:List Deferred}{Q:FV->Outer->Prop}{F:Nat->Prop}{w w':World}{C C':Ctx}{ou:Outer}{fr':Fr}{σ':St}{tmps:Array Value}(hT:TabOk P T)(h0:C.nl=0)(hi:Inv Γ F w C ⟨0,[],ou⟩)
  (hgo:Goes F isO w C w' C') (hi':Inv Γ F w' C' σ') (hf':FrOk w' C' N fr' tmps) (h:Fin ⟨P,T,Γ,N,ds⟩ fn Q fr' σ'):∃v,(results fn tmps).run P w'=.ok v w'/\(∃v' r ou' C',Ending.returned v=.returned v'/\Goes F isO w C w' C'/\C'.nl=0/\Inv Γ F w' C' ⟨0,[],ou'⟩/\RF w' C' r v'/\Q r ou'):=by
 obtain⟨r,r',h1,h2,h3,h4,h5⟩:=h
 obtain⟨u,hu,hru⟩:=Qci (tmps:=tmps) hT hi' hf' h1
 have hc:Chg isO w' C' w' { C' with nl:=0 }:=⟨fun _ _=>rfl,fun _ h=>h,fun i hp ho=>⟨by cases i with|l k=>cases hp|o k=>exact ho,rfl,rfl⟩⟩
 have hc0:∀i,C.ok i->isO i:=Q3j h0
 refine⟨u,hu,u,r',σ'.ou,{ C' with nl:=0 },rfl,⟨hgo.stp,hgo.chg.trans hc,hgo.no,hgo.newp⟩,rfl,⟨hi'.base,rfl,fun g cs hm=>?_,hi'.prot,fun i o ho=>?_,fun i j o o' g k1 k2 k3 k4=>?_⟩,RF.chg hc r' u h3 (h2 _ _ _ hru),h5⟩
 ·have:=hi.glob g cs hm
  have hids:=Q0q hc0 cs (RL.idsOk cs _ this.rl)
  exact RG.chg (hgo.chg.trans hc) hids this
 ·cases i with
  |l k=>cases ho
  |o k=>
   obtain⟨k1,k2⟩:=hi'.obj (.o k) o ho
   exact⟨k1,k2.ctx isO (h4 k o ho) trivial k1 hc (fun _ h=>h) (fun _ h=>h)⟩
 ·cases i with
  |l k=>cases k1
  |o k=>cases j with
   |l k=>cases k2
   |o k'=>
    have e1:=AObj.block_ctx (o:=o) isO (i:=.o k) trivial (hi'.obj (.o k) o k1).1 hc
    have e2:=AObj.block_ctx (o:=o') isO (i:=.o k') trivial (hi'.obj (.o k') o' k2).1 hc
    exact hi'.inj (.o k) (.o k') o o' g k1 k2 (by rw[←e1];exact k3) (by rw[←e2];exact k4)
theorem RV.len{w:World}{C:Ctx}:∀{cs:List AC}{xs:List Value},RV w C cs xs->xs.length=cs.length
 |[],xs,h=>by simp only[RV]at h;simp[h]
 |c::cs,xs,h=>by simp only[RV]at h;obtain⟨u,us,rfl,_,h2⟩:=h;simp[RV.len h2]
theorem AFn.ofDefer{P:Program}{T:Tab}{Γ:List (Nat×List AC)}{g gd i1 d5:Nat}{fn:Func}{r0 rest:Code}{o0 o1:Oper}{args:List FV}{ou:Outer}{Q:FV->Outer->Prop}{fr1:Fr}{σ1:St}{first caps:List AC}(hT:TabOk P T)(hf:P.funcs[g]?=some fn)(hb:fn.body=some (.seq r0 (.seq (.region i1 #[o0,o1] false) rest)))(hname:(fn.name == "runtime.NumGoroutine")=false)
  (hlen : args.length <= fn.ntmps) (h0 : OuOk ou -> ACode ⟨P, T, Γ, fn.ntmps, []⟩ r0 (fun e fr σ => e = .normal /\ fr = fr1 /\ σ = σ1) (argFr 0 args) ⟨0, [], ou⟩)
  (hg0 : o0.guard = none) (hd0 : o0.dst = some d5) (hdl : d5 < fn.ntmps) (hs0 : AStep ⟨P, T, Γ, fn.ntmps, []⟩ o0 fr1 σ1 (.one (.fn (.func gd) first caps)) σ1)
  (hg1 : o1.guard = none) (hd1 : o1.dst = none) (ho1 : o1.op = .defer { callee := .value (.tmp d5), args := #[], argTypes := #[] })
  (hdef : ∀ (us : Array Value) (w : World), (callFunc gd us).run P w = .ok (.enter gd us) w /\ (us.size = first.length + caps.length -> CallsD P gd us .returning w fun e u' w' => (∃ v, e = .returned v) /\ u' = .returning /\ w' = w))
  (hrest : OuOk ou -> ∀ ds, ACode ⟨P, T, Γ, fn.ntmps, ds⟩ rest (Q03 ⟨P, T, Γ, fn.ntmps, ds⟩ (Fin ⟨P, T, Γ, fn.ntmps, ds⟩ fn Q) []) ((d5, .one (.fn (.func gd) first caps)) :: fr1) σ1) : AFn P Γ g args ou Q := by
 refine⟨fun vs0 w=>?_,fun F w C cargs h0' hi hr=>?_⟩
 ·simp[callFunc,hf,hb]
  simpa using hname
 ·have hcl:cargs.length=args.length:=by
   have:∀(vs:List FV) (xs:List Value),RFs w C vs xs->xs.length=vs.length:=by
    intro vs
    induction vs with
    |nil=>intro xs h;simp only[RFs]at h;simp[h]
    |cons v vs ih=>intro xs h;simp only[RFs]at h;obtain⟨u,us,rfl,_,h2⟩:=h;simp[ih us h2]
   exact this _ _ hr
  refine calls_of_wp_defers hf hb ?_
  have hfr:FrOk w C fn.ntmps (argFr 0 args) (cargs.toArray++Array.replicate (fn.ntmps - cargs.toArray.size) undef):=by
   refine⟨by simp;omega,fun k x hk=>?_⟩
   obtain⟨_,h2⟩:=Q5i args 0 k x hk
   simp only[Nat.sub_zero]at h2
   obtain⟨u,hu,hru⟩:=RFs.get hr h2
   refine⟨u,?_,hru⟩
   have hlt:k < cargs.length:=(List.getElem?_eq_some_iff.1 hu).1
   rw[Array.getElem?_append_left (by simpa using hlt)]
   simpa using hu
  have hou:=OuOk.of_inv hi h0'
  refine wp_seq (wp_mono (h0 hou F w C w C _ (Goes.refl _ _ _ _) hi hfr) fun e a w1 hp=>?_)
  obtain⟨hda,fr',σ',C1,hg1',hi1,hf1,rfl,rfl,rfl⟩:=hp
  have ha:a=⟨a.tmps,[]⟩:=by cases a;simp_all
  rw[ha]
  refine wp_seq (wp_region_lit (l:=[o0,o1]) ?_)
  refine wpList_plain hg0 fun N' hN=>hs0 F w1 C1 a.tmps hi1 hf1 N' _ fun u w2 C2 hgo2 hi2 hr2=>?_
  refine hN _ _ ?_
  have hf2:FrOk w2 C2 fn.ntmps ((d5,.one (.fn (.func gd) first caps))::fr') (Act.put ⟨a.tmps,[]⟩ o0.dst u).tmps:=by
   have:=Q1g (ds:=[]) (dst:=some d5) (hf1.ext hgo2.chg) (by simp[dstOk,Nat.blt];omega) hr2
   rw[hd0];exact this
  rw[Q2d]
  generalize hat:(Act.put ⟨a.tmps,[]⟩ o0.dst u).tmps=tm2 at hf2
  refine wpList_plain hg1 fun N2 hN2=>?_
  obtain⟨u5,hu5,hr5⟩:=hf2.2 d5 (.one (.fn (.func gd) first caps)) (by simp[Fr.get])
  simp only[RF,R]at hr5
  obtain⟨xs,ys,rfl,hx,hy⟩:=hr5
  have hev:Act.eval ⟨tm2,[]⟩ (.tmp d5)=.func (.func gd) xs.toArray ys.toArray:=by
   simp[Act.eval,hu5]
  have hrun:(execOp (Act.eval ⟨tm2,[]⟩) o1).run P w2=.ok (.defer ⟨.fn (.func gd) ys.toArray,xs.toArray⟩) w2:=by
   unfold execOp
   simp only[ho1,resolve,Sem.run_bind,hev,Deferred.ofValue,Sem.run_pure,Result.andThen_ok]
   simp
  unfold Oper.wp
  rw[hrun,Oper.upon_defer]
  refine hN2 _ _ ?_
  rw[hd1]
  show rest.wp P _ ⟨tm2,[⟨.fn (.func gd) ys.toArray,xs.toArray⟩]⟩ w2
  refine wp_mono (hrest hou [⟨.fn (.func gd) ys.toArray,xs.toArray⟩] F w C w2 C2 tm2 (hg1'.trans hgo2.toO) hi2 hf2) fun e a3 w3 hp=>?_
  obtain⟨hd3,fr3,σ3,C3,hg3,hi3,hf3,hk⟩:=hp
  have hxs:xs.length=first.length:=RV.len hx
  have hys:ys.length=caps.length:=RV.len hy
  have key:Fin ⟨P,T,Γ,fn.ntmps,[⟨.fn (.func gd) ys.toArray,xs.toArray⟩]⟩ fn Q fr3 σ3->Leaves P fn a3.tmps (fun e w'=>∃v r ou' C',e=.returned v/\Goes F isO w C w' C'/\C'.nl=0/\Inv Γ F w' C' ⟨0,[],ou'⟩/\RF w' C' r v/\Q r ou') a3.defers .returning w3:=fun hfin=>by
   obtain⟨v,hv,hR⟩:=Qin hT h0' hi hg3 hi3 hf3 hfin
   rw[hd3]
   refine⟨by simp,.func gd,ys.toArray,gd,xs.toArray++ys.toArray,rfl,?_,((hdef _ w3).2 (by simp[hxs,hys])).mono ?_⟩
   ·show (invoke (.fn (.func gd) ys.toArray) xs.toArray).run P w3=_
    simp only[invoke]
    exact (hdef _ w3).1
   ·rintro e u' w' ⟨⟨v',rfl⟩,rfl,rfl⟩
    exact⟨v,hv,hR⟩
  cases e with
  |normal=>exact key hk
  |ret=>exact key hk
  |panic ps=>exact hk.elim
  |exit id=>exact hk.elim
  |goto l=>exact hk.elim
  |outgrown=>exact hk.elim
theorem AOps.growO{E:Env}{ops:Array Oper}{l:List Oper}{K:Cont}{fr:Fr}{σ:St}(k off:Nat)(e:TypeId)(s:Nat){cs:List AC}(h:σ.get (.l k)=some (.cells cs))(hoff:cs[off]?=some (.lit (.slice none 0 0)))
  (hk : AOps E ops l K fr ((σ.set (.l k) (.cells (cs.set off (.gs s [] (.l σ.n))))).push (.tok e s 0))) : AOps E ops l K fr σ := by
 intro F w0 C0 w C tmps hg hi hf
 have hno:=Ctx.tokd_new C none (fun _=>False) hi.next
 have he:Ext w C w (C.tokd none (fun _=>False)):=⟨fun _ _=>rfl,fun _ h=>.inl h,fun i _ ho=>Ctx.tokd_old C _ _ ho⟩
 -- first the token
 have hi1:Inv E.Γ F w (C.tokd none (fun _=>False)) (σ.push (.tok e s 0)):=
  hi.addObj (σ.get_push _) he (by simp[Ctx.tokd,Ctx.more,St.push,hi.next]) hi.base (fun a ha=>hi.prot a (ha.resolve_right id)) (fun _ _ _ _ _ _ h=>h) (fun _ _ _ _ _ _ ha=>ha.resolve_right id) hno.1
   (by simp only[ObjOk,hno.2]) (fun i p g _ _ hb=>by simp[AObj.block,hno.2]at hb)
 have hget:(σ.push (.tok e s 0)).get (.l k)=some (.cells cs):=by
  rw[St.get_push]
  have:¬(Id.l k=Id.l σ.n):=by
   intro e'
   have:=(hi.obj _ _ h).1
   rw[e']at this
   simp only[Ctx.ok]at this
   have:=hi.next
   omega
  rw[if_neg this];exact h
 obtain⟨hok,xs,T,h1,h2,h3,h4⟩:=hi1.obj _ _ hget
 have hxs:xs[off]?=some (.slice none 0 0):=by
  have:∀(cs:List AC) (xs:List Value) (off:Nat),RV w (C.tokd none (fun _=>False)) cs xs->cs[off]?=some (.lit (.slice none 0 0))->xs[off]?=some (.slice none 0 0):=by
   intro cs
   induction cs with
   |nil=>intro xs off _ h;simp at h
   |cons c cs ih=>
    intro xs off h h'
    simp only[RV]at h
    obtain⟨u,us,rfl,g1,g2⟩:=h
    cases off with
    |zero=>simp at h';subst h';simp only[R]at g1;simp[g1.1]
    |succ off=>simpa using ih us off g2 (by simpa using h')
  exact this cs xs off h3 hoff
 have hr':RV w (C.tokd none (fun _=>False)) (cs.set off (.gs s [] (.l σ.n))) xs:=by
  have:∀(cs:List AC) (xs:List Value) (off:Nat),RV w (C.tokd none (fun _=>False)) cs xs->xs[off]?=some (.slice none 0 0)->RV w (C.tokd none (fun _=>False)) (cs.set off (.gs s [] (.l σ.n))) xs:=by
   intro cs
   induction cs with
   |nil=>intro xs off h _;simpa using h
   |cons c cs ih=>
    intro xs off h h'
    simp only[RV]at h
    obtain⟨u,us,rfl,g1,g2⟩:=h
    cases off with
    |zero=>simp at h';subst h';exact⟨_,us,rfl,⟨hno.1,.inl ⟨rfl,rfl,hno.2⟩⟩,g2⟩
    |succ off=>exact⟨u,us,rfl,g1,ih us off g2 (by simpa using h')⟩
  exact this cs xs off h3 hxs
 have hi2:=(hi1.turn (o':=.cells (cs.set off (.gs s [] (.l σ.n)))) hget rfl rfl (fun _ _=>rfl) (fun _ _ _=>rfl) rfl (fun he'=>⟨xs,T,h1,h2,hr',h4⟩)).2
 refine hk F w0 C0 w _ tmps (hg.trans ⟨Stp.refl _ _,he.weaken (fun _ _=>trivial),by simp[Ctx.tokd,Ctx.more],fun a ha=>.inl (ha.resolve_right id)⟩) ?_ (hf.ext he)
 have hkn:k≠σ.n:=by
  rintro rfl
  have h5:=(hi.obj _ _ h).1
  simp only[Ctx.ok]at h5
  have:=hi.next
  omega
 exact⟨hi2.base,by have:=hi2.next;simpa[St.push,St.set]using this,hi2.glob,hi2.prot,fun i o ho=>hi2.obj i o (by rw[←Q4e hkn];exact ho),fun i j o o' g a b c d=>hi2.inj i j o o' g (by rw[←Q4e hkn];exact a) (by rw[←Q4e hkn];exact b) c d⟩

theorem AFn.forgetD{P:Program}{Γ:List (Nat×List AC)}{g:Nat}{args:List FV}{ou:Outer}{Q:FV->Outer->Prop}(h:AFn P Γ g args ou (fun r ou'=>∃ou'':Outer,(∀m o,ou'' m=some o->ou' m=some o∨(o=.dead/\∃p,ou m=some p))/\Q r ou'')):AFn P Γ g args ou Q:=by
 refine⟨h.1,fun F w C cargs h0 hi hr=>(h.2 F w C cargs h0 hi hr).mono fun e w' ⟨v,r,ou',C',h1,h2,h3,h4,h5,ou'',h6,h7⟩=>⟨v,r,ou'',C',h1,h2,h3,?_,h5,h7⟩⟩
 have hs:∀i o,(St.mk 0 [] ou'').get i=some o->(St.mk 0 [] ou').get i=some o∨(o=.dead/\isO i/\∃p,(St.mk 0 [] ou).get i=some p):=fun i o hio=>by
  cases i with
  |l m=>cases hio
  |o m=>exact (h6 m o hio).imp id fun ⟨a,b⟩=>⟨a,trivial,b⟩
 refine⟨h4.base,h4.next,h4.glob,h4.prot,fun i o ho=>?_,fun i j o o' g k1 k2 h3 h5=>?_⟩
 ·rcases hs i o ho with hh|⟨rfl,hio,p,hp⟩
  ·exact h4.obj i o hh
  ·exact⟨(h2.chg.id i hio (hi.obj i p hp).1).1,trivial⟩
 ·rcases hs i o k1 with hh|⟨rfl,_,p,hp⟩
  ·rcases hs j o' k2 with hh2|⟨rfl,_,p,hp⟩
   ·exact h4.inj i j o o' g hh hh2 h3 h5
   ·simp[AObj.block]at h5
  ·simp[AObj.block]at h3
end Go.Abs
namespace Go.CoreX
structure Alt where
 tag:Int
 binds:List Int
 deriving DecidableEq
structure Ex where
 op:Int
 n:Int
 binds:List Int
 kids:List Int
 alts:List Alt
 deriving DecidableEq
inductive Tr where
 |mk (op n:Int) (binds:List Int) (kids:List Tr) (alts:List Alt)
instance:Inhabited Tr:=⟨.mk 0 0 [] [] []⟩
def Tr.op:Tr->Int|.mk o _ _ _ _=>o
def Tr.n:Tr->Int|.mk _ n _ _ _=>n
def Tr.binds:Tr->List Int|.mk _ _ b _ _=>b
def Tr.kids:Tr->List Tr|.mk _ _ _ k _=>k
def Tr.alts:Tr->List Alt|.mk _ _ _ _ a=>a
@[simp] theorem Tr.op_mk (o n b k a):(Tr.mk o n b k a).op=o:=rfl
@[simp] theorem Tr.n_mk (o n b k a):(Tr.mk o n b k a).n=n:=rfl
@[simp] theorem Tr.binds_mk (o n b k a):(Tr.mk o n b k a).binds=b:=rfl
@[simp] theorem Tr.kids_mk (o n b k a):(Tr.mk o n b k a).kids=k:=rfl
@[simp] theorem Tr.alts_mk (o n b k a):(Tr.mk o n b k a).alts=a:=rfl

def Q2g (ts:List Tr)(x:Ex):Tr:=.mk x.op x.n x.binds (x.kids.map fun k=>ts.getD k.toNat default) x.alts
def Qdn (ts:List Tr)(x:Ex):List Tr:=ts++[Q2g ts x]
def growL (e:List Ex):List Tr:=e.foldl Qdn []
def grow (e:List Ex):Tr:=(growL e).getD (e.length - 1) default

mutual
def listT (out:List Ex):Tr->List Ex
 |.mk o n b k a=>(Q02 out k).1++[⟨o,n,b,(Q02 out k).2,a⟩]
def Q02 (out:List Ex):List Tr->List Ex×List Int
 |[]=>(out,[])
 |t::ts=>((Q02 (listT out t) ts).1,(((listT out t).length:Int) - 1)::(Q02 (listT out t) ts).2)
end

def Q06 (op:Int)(binds:List Int)(alts:List Alt):List Int:=(if op=2∨op=4∨op=5 then binds else [])++alts.flatMap (·.binds)
def Q2c (op:Int)(binds:List Int)(alts:List Alt)(k:Int):List Int:=
 if op=2∨op=5∨(op=4/\k=1)then binds else if 0 < (alts.length:Int)/\0 < k/\k<=alts.length then (alts.getD (k - 1).toNat ⟨0,[]⟩).binds else []

def Q14 (i:Nat)(s:Option (List Int×List Int))(k:Int):Option (List Int×List Int):=
 s.bind fun dp=>if k < 0∨(i:Int)<=k then none else some (dp.1.set i (if dp.1.getD k.toNat 0 > dp.1.getD i 0 then dp.1.getD k.toNat 0 else dp.1.getD i 0),dp.2.set k.toNat (dp.2.getD k.toNat 0+1))
def Q1a (s:Option (List Int×List Int))(x:Ex×Nat):Option (List Int×List Int):=
 (x.1.kids.foldl (Q14 x.2) s).map fun dp=>(dp.1.set x.2 (dp.1.getD x.2 0+1),dp.2)
def Q3l (e:List Ex):Option (List Int×List Int):=e.zipIdx.foldl Q1a (some (List.replicate e.length 0,List.replicate e.length 0))
def Q1l (n:Nat)(p:List Int)(i:Nat):Bool:=!((p.getD i 0==1)==decide ((i:Int) < n - 1))
def Q1b (e:List Ex):Int:=
 if 4096 < e.length then 2 else if e.length=0 then 3 else
 match Q3l e with
 |none=>3
 |some (d,p)=>if (List.range e.length).any (Q1l e.length p)=true then 3 else if 400 < d.getD (e.length - 1) 0 then 2 else 0

def between (n low high:Int):Bool:=decide (low<=n)&&decide (n<=high)
def Q5b (op:Int):Bool:=op==14||op==15||op==16
def Q6r (op:Int):Bool:=op==2||op==5||op==12||op==13
def Q3k (x:Ex)(i:Nat)(a:Alt):Bool:=
 ((x.alts.take i).any (fun b=>b.tag==a.tag)||decide (a.tag < -1)) ||
 (x.op==7&&a.tag==-1&&(decide ((i:Int) < x.alts.length - 1)||decide (0 < a.binds.length))) ||
 ((x.op==13&&!(((i:Int)==0)==(a.tag==-1)))||(x.op==13&&!((a.binds.length:Int)==(if 2 < (i:Int)+1 then 2 else (i:Int)+1))))
def Q5j (x:Ex):Bool:=!(x.alts.zipIdx.any fun ai=>Q3k x ai.2 ai.1)&&((x.kids.length:Int)==1+x.alts.length&&(x.op==7||decide (0 < x.alts.length)))
def Q43:List Int:=[2,2,2,2,2,2,2,1,2,1,2,3]
def wants (x:Ex):Option (Int×Int×Bool):=
 if x.op=0∨x.op=1∨x.op=17 then some (0,0,true) else
 if x.op=2 then some (1,x.binds.length,false) else
 if x.op=3 then some (if (x.kids.length:Int) > 1 then x.kids.length else 1,0,false) else
 if x.op=4 then some (2,1,false) else
 if x.op=5 then some (x.binds.length+1,if (x.binds.length:Int) > 1 then x.binds.length else 1,false) else
 if x.op=6 then some (x.kids.length,0,true) else
 if x.op=8 then (if between x.n 0 11=true then some (Q43.getD x.n.toNat 0,0,true)else none) else
 if x.op=9 then some (x.binds.length,x.binds.length,false) else
 if x.op=10∨x.op=12 then some (1,0,true) else
 if x.op=11 then some (2,0,true) else
 if x.op=14∨x.op=15 then some (x.kids.length,0,true) else
 if x.op=16 then some (1,0,true)else none
def shape (x:Ex):Bool:=
 if x.op=7∨x.op=13 then Q5j x&&x.binds.length==0&&x.n==0 else
 match wants x with
 |none=>false
 |some (k,b,u)=>(x.kids.length:Int)==k&&(x.binds.length:Int)==b&&x.alts.length==0&&(u||x.n==0)
def lowN (op:Int):Int:=if op=1 then -1073741824 else if op=17 then 1 else 0
def highN (op:Int):Int:=if op=1 then 1073741823 else if op=6 then 255 else if op=17 then 6 else if op=16 then 15 else 1048575
def Q25 (n:Int):Bool:=between n 0 1048575
def Q2k (op:Int)(a:Alt):Bool:=!((decide (255 < a.tag)&&op==7)||decide (1048576<=a.tag))&&a.binds.all Q25
def fields (x:Ex):Int:=x.alts.foldl (fun f a=>if (a.binds.length:Int) > f then a.binds.length else f) x.binds.length
def ranges (x:Ex):Int:=
 if between x.n (lowN x.op) (highN x.op)=false then 4 else
 if x.binds.all Q25=false then 4 else
 if x.alts.all (Q2k x.op)=false then 4 else
 if ((decide (fields x > (if x.op=2 then 6 else 16))||((x.op==6||x.op==15)&&decide (16 < (x.kids.length:Int))))||(x.op==3&&decide (7 < (x.kids.length:Int))))||(x.op==14&&decide (6 < (x.kids.length:Int)))then 2 else 0
def Q11 (e:List Ex)(x:Ex)(i:Nat):Bool:=
 (x.op==5&&!((e.getD (x.kids.getD i 0).toNat ⟨0,0,[],[],[]⟩).op==2))||(x.op==9&&decide (0 < i)&&decide (x.binds.getD (i - 1) 0 ≥ x.binds.getD i 0))
def Q0y (e:List Ex)(x:Ex):Int:=
 if shape x=false then 3 else if ranges x≠0 then ranges x else if (List.range x.binds.length).any (Q11 e x)=true then 3 else 0
def Q0e (flat:Bool)(e:List Ex)(x:Ex):Int:=if (flat&&Q6r x.op)||(!flat&&Q5b x.op)then 3 else Q0y e x
def Q0u {α:Type}(f:α->Int):List α->Int
 |[]=>0
 |a::l=>if f a≠0 then f a else Q0u f l

def Q3v:List Int->Bool
 |[]=>false
 |n::l=>l.contains n||Q3v l
def Q0f (x:Ex):List Int:=Q06 x.op x.binds x.alts
def Q07 (e:List Ex):List Int:=e.flatMap Q0f

mutual
def occT (sc:List Int):Tr->List Int
 |.mk o n b k a=>(if o=0/\sc.contains n=false then [n]else [])++occTs sc o b a 0 k
def occTs (sc:List Int)(o:Int)(b:List Int)(a:List Alt):Nat->List Tr->List Int
 |_,[]=>[]
 |i,t::ts=>occT (Q2c o b a i++sc) t++occTs sc o b a (i+1) ts
end
def Q3u (n:Int):List Int->List Int
 |[]=>[n]
 |m::l=>if n < m then n::m::l else if n=m then m::l else m::Q3u n l
def sortS (l:List Int):List Int:=l.foldr Q3u []
def Q22 (t:Tr):List Int:=sortS (occT [] t)

def body (e:List Ex)(params:List Int)(flat:Bool):Int:=
 if Q1b e≠0 then Q1b e else
 if Q0u (Q0e flat e) e≠0 then Q0u (Q0e flat e) e else
 if Q3v (params++Q07 e)=true then 7 else
 if (Q22 (grow e)).all (fun n=>params.contains n)=true then 0 else 6
def check (e:List Ex):Int:=body e [] false
end Go.CoreX
namespace Go.CoreX
structure Lab where
 op:Int
 n:Int
 binds:List Int
 ops:List Int
 alts:List Alt
 deriving DecidableEq
mutual
def sumT (g:Lab->Int):Tr->Int
 |.mk o n b k a=>g ⟨o,n,b,k.map Tr.op,a⟩+sumTs g k
def sumTs (g:Lab->Int):List Tr->Int
 |[]=>0
 |t::ts=>sumT g t+sumTs g ts
end
def mx (m d:Int):Int:=if d > m then d else m
mutual
def Q1m:Tr->Int
 |.mk _ _ _ k _=>(Q7o k).foldl mx 0+1
def Q7o:List Tr->List Int
 |[]=>[]
 |t::ts=>Q1m t::Q7o ts
end
theorem Q63:∀l:List Tr,Q7o l=l.map Q1m
 |[]=>rfl
 |t::ts=>by simp[Q7o,Q63 ts]
theorem Qcs(g:Lab->Int):∀l:List Tr,sumTs g l=(l.map (sumT g)).sum
 |[]=>rfl
 |t::ts=>by simp[sumTs,Qcs g ts]
theorem Q1u(e:List Ex)(x:Ex):growL (e++[x])=growL e++[Q2g (growL e) x]:=by simp[growL,Qdn]
theorem Q51{α:Type}{P:List α->Prop}(h0:P [])(h1:∀l x,P l->P (l++[x]))(l:List α):P l:=by
 have:∀l:List α,P l.reverse:=by
  intro l
  induction l with
  |nil=>exact h0
  |cons a l ih=>rw[List.reverse_cons];exact h1 _ _ ih
 simpa using this l.reverse
theorem Q17(e:List Ex):(growL e).length=e.length:=by
 refine Q51 (P:=fun e=>(growL e).length=e.length) rfl (fun l x ih=>?_) e
 rw[Q1u];simp[ih]
theorem Qgl(e l:List Ex):∃r,growL (e++l)=growL e++r:=by
 refine Q51 (P:=fun l=>∃r,growL (e++l)=growL e++r) ⟨[],by simp⟩ (fun l x ih=>?_) l
 obtain⟨r,h⟩:=ih
 exact⟨r++[Q2g (growL (e++l)) x],by rw[←List.append_assoc,Q1u,h];simp⟩
theorem Q9l{α:Type}{l r:List α}{i:Nat}{d:α}(h:i < l.length):(l++r).getD i d=l.getD i d:=by
 simp[List.getD,List.getElem?_append_left h]
theorem Q3x{e l:List Ex}{i:Nat}(h:i < e.length):(growL (e++l)).getD i default=(growL e).getD i default:=by
 obtain⟨r,hr⟩:=Qgl e l
 rw[hr,Q9l (by rw[Q17];exact h)]
theorem Q6p(e l:List Ex)(x:Ex):(growL (e++x::l)).getD e.length default=Q2g (growL e) x:=by
 rw[show e++x::l=(e++[x])++l by simp,Q3x (by simp),Q1u]
 simp[List.getD,Q17]
theorem Qgk(e:List Ex)(x:Ex):grow (e++[x])=Q2g (growL e) x:=by
 unfold grow
 have:=Q6p e [] x
 simpa using this
def cnt:List Ex->Nat->Nat
 |[],_=>0
 |x::e,i=>x.kids.count (i:Int)+cnt e i
theorem Qcd(e l:List Ex)(i:Nat):cnt (e++l) i=cnt e i+cnt l i:=by
 induction e with
 |nil=>simp[cnt]
 |cons x e ih=>simp[cnt,ih,Nat.add_assoc]
def Q13 (e:List Ex):Prop:=∀(j:Nat)(x:Ex),e[j]?=some x->∀k∈x.kids,0<=k/\k < (j:Int)
theorem Q2o{e:List Ex}{x:Ex}:Q13 (e++[x])↔Q13 e/\∀k∈x.kids,0<=k/\k < e.length:=by
 constructor
 ·intro h
  refine⟨fun j y hj=>h j y ?_,?_⟩
  ·rw[List.getElem?_append_left (List.getElem?_eq_some_iff.1 hj).1];exact hj
  ·exact h e.length x (by simp)
 ·intro ⟨h1,h2⟩ j y hj
  by_cases hl:j < e.length
  ·rw[List.getElem?_append_left hl]at hj;exact h1 j y hj
  ·rw[List.getElem?_append_right (by omega)]at hj
   have:j=e.length:=by
    have:=(List.getElem?_eq_some_iff.1 hj).1
    simp at this;omega
   subst this
   simp at hj;subst hj;exact h2
structure Run (pre:List Ex)(N:Nat)(d p:List Int):Prop where
 dl:d.length=N
 pl:p.length=N
 pv:∀i,i < N->p.getD i 0=cnt pre i
 dv:∀i,i < pre.length->d.getD i 0=Q1m ((growL pre).getD i default)
 d0:∀i,pre.length<=i->d.getD i 0=0
theorem Q2t(i:Nat):∀ks:List Int,ks.foldl (Q14 i) none=none
 |[]=>rfl
 |k::ks=>by rw[List.foldl_cons];exact Q2t i ks
theorem Q3e{l:List Int}{i:Nat}{v:Int}(h:i < l.length):(l.set i v).getD i 0=v:=by simp[List.getD,h]
theorem getD_set_ne{l:List Int}{i j:Nat}{v:Int}(h:i≠j):(l.set i v).getD j 0=l.getD j 0:=by simp[List.getD,List.getElem?_set_ne h]
theorem Qhs{l:List Int}{i:Nat}(h:i < l.length):l.set i (l.getD i 0)=l:=by
 apply List.ext_getElem?
 intro j
 by_cases hj:i=j
 ·subst hj;simp[h,List.getD,List.getElem?_eq_getElem h]
 ·rw[List.getElem?_set_ne hj]
theorem Qdf{i N:Nat}:∀(ks:List Int)(d p:List Int),d.length=N->p.length=N->i < N->(∀k∈ks,0<=k/\k < i)->
  ∃p',ks.foldl (Q14 i) (some (d,p))=some (d.set i (ks.foldl (fun m k=>mx m (d.getD k.toNat 0)) (d.getD i 0)),p')/\p'.length=N/\∀j,j < N->p'.getD j 0=p.getD j 0+ks.count (j:Int)
 | [], d, p, hd, hp, hi, _ => ⟨p, by rw [List.foldl_nil, List.foldl_nil, Qhs (show i < d.length by omega)], hp, by simp⟩
 |k::ks,d,p,hd,hp,hi,hk=>by
  obtain⟨k0,k1⟩:=hk k (by simp)
  have hks:∀k∈ks,0<=k/\k < i:=fun y hy=>hk y (by simp[hy])
  obtain⟨p',h1,h2,h3⟩:=Qdf ks (d.set i (mx (d.getD i 0) (d.getD k.toNat 0))) (p.set k.toNat (p.getD k.toNat 0+1)) (by simpa using hd) (by simpa using hp) hi hks
  refine⟨p',?_,h2,fun j hj=>?_⟩
  ·rw[List.foldl_cons]
   have e1:Q14 i (some (d,p)) k=some (d.set i (mx (d.getD i 0) (d.getD k.toNat 0)),p.set k.toNat (p.getD k.toNat 0+1)):=by
    simp only[Q14,Option.bind_some,mx]
    rw[if_neg (by omega)]
   rw[e1,h1,List.set_set,Q3e (by omega),List.foldl_cons]
   congr 2
   have:∀(l:List Int) (m:Int),(∀k∈l,0<=k/\k < i)->l.foldl (fun m k'=>mx m ((d.set i (mx (d.getD i 0) (d.getD k.toNat 0))).getD k'.toNat 0)) m=l.foldl (fun m k'=>mx m (d.getD k'.toNat 0)) m:=by
    intro l
    induction l with
    |nil=>intro m _;rfl
    |cons y l ih=>
     intro m hl
     have hy:=hl y (by simp)
     simp only[List.foldl_cons]
     rw[getD_set_ne (by omega),ih _ (fun z hz=>hl z (by simp[hz]))]
   rw[this ks _ hks]
  ·rw[h3 j hj,List.count_cons]
   by_cases hkj:k.toNat=j
   ·subst hkj
    rw[Q3e (by omega)]
    have:(k==((k.toNat:Nat):Int))=true:=by simp;omega
    rw[if_pos this];omega
   ·rw[getD_set_ne hkj]
    have:¬(k==(j:Int))=true:=by simp;omega
    rw[if_neg this];omega
theorem Qdg{i N:Nat}:∀(ks:List Int)(d p:List Int),¬(∀k∈ks,0<=k/\k < i)->ks.foldl (Q14 i) (some (d,p))=none
 | [], d, p, h => absurd (by simp) h
 |k::ks,d,p,h=>by
  rw[List.foldl_cons]
  by_cases hk:0<=k/\k < i
  ·have e1:Q14 i (some (d,p)) k=some (d.set i (mx (d.getD i 0) (d.getD k.toNat 0)),p.set k.toNat (p.getD k.toNat 0+1)):=by
    simp only[Q14,Option.bind_some,mx]
    rw[if_neg (by omega)]
   rw[e1]
   refine Qdg (N:=N) ks _ _ fun h2=>h ?_
   intro y hy
   rcases List.mem_cons.1 hy with rfl|hy
   ·exact hk
   ·exact h2 y hy
  ·have e1:Q14 i (some (d,p)) k=none:=by
    simp only[Q14,Option.bind_some]
    rw[if_pos (by omega)]
   rw[e1,Q2t]
theorem Q8l(f:Int->Int):∀(l:List Int)(m:Int),l.foldl (fun m k=>mx m (f k)) m=(l.map f).foldl mx m
 |[],_=>rfl
 |k::l,m=>by simp[Q8l f l]
theorem Q9r(ts:List Tr)(x:Ex):Q1m (Q2g ts x)=(x.kids.map fun k=>Q1m (ts.getD k.toNat default)).foldl mx 0+1:=by
 simp only[Q2g,Q1m,Q63,List.map_map];rfl
theorem Run.step{pre:List Ex}{N:Nat}{d p:List Int}{x:Ex}(h:Run pre N d p)(hN:pre.length < N)(hk:∀k∈x.kids,0<=k/\k < pre.length):∃d' p',Q1a (some (d,p)) (x,pre.length)=some (d',p')/\Run (pre++[x]) N d' p':=by
 obtain⟨p',h1,h2,h3⟩:=Qdf x.kids d p h.dl h.pl hN hk
 have hdl:=h.dl
 refine⟨_,p',by simp only[Q1a,h1,Option.map_some];rfl,by simpa using hdl,h2,fun i hi=>?_,fun i hi=>?_,fun i hi=>?_⟩
 ·rw[h3 i hi,h.pv i hi,Qcd];simp[cnt]
 ·rw[List.set_set]
  simp only[List.length_append,List.length_singleton]at hi
  by_cases e:pre.length=i
  ·subst e
   rw[Q3e (by omega),Q3e (by omega),Q6p pre [] x,Q9r,h.d0 _ (Nat.le_refl _),Q8l]
   congr 2
   refine List.map_congr_left fun k hk2=>?_
   have:=hk k hk2
   exact h.dv _ (by omega)
  ·rw[getD_set_ne e,Q3x (by omega),h.dv i (by omega)]
 ·simp only[List.length_append,List.length_singleton]at hi
  rw[List.set_set,getD_set_ne (by omega),h.d0 i (by omega)]
theorem Q57(l:List (Ex×Nat)):l.foldl Q1a none=none:=by
 induction l with
 |nil=>rfl
 |cons x l ih=>
  have:Q1a none x=none:=by simp[Q1a,Q2t]
  rw[List.foldl_cons,this,ih]
theorem Qcw{N:Nat}:∀(l pre:List Ex)(d p:List Int),Run pre N d p->Q13 pre->pre.length+l.length=N ->
  (Q13 (pre ++ l) /\ ∃ d' p', (l.zipIdx pre.length).foldl Q1a (some (d, p)) = some (d', p') /\ Run (pre ++ l) N d' p') ∨ (¬ Q13 (pre ++ l) /\ (l.zipIdx pre.length).foldl Q1a (some (d, p)) = none)
 |[],pre,d,p,h,hk,_=>.inl ⟨by simpa using hk,d,p,rfl,by simpa using h⟩
 |x::l,pre,d,p,h,hk,hN=>by
  rw[List.zipIdx_cons,List.foldl_cons]
  simp only[List.length_cons]at hN
  by_cases hx:∀k∈x.kids,0<=k/\k < pre.length
  ·obtain⟨d1,p1,e1,h1⟩:=h.step (by omega) hx
   rw[e1]
   have:=Qcw l (pre++[x]) d1 p1 h1 (Q2o.2 ⟨hk,hx⟩) (by simp;omega)
   simpa[List.append_assoc]using this
  ·right
   have e1:Q1a (some (d,p)) (x,pre.length)=none:=by simp only[Q1a,Qdg (N:=N) x.kids d p hx,Option.map_none]
   rw[e1,Q57]
   refine⟨fun h2=>hx ?_,rfl⟩
   exact h2 pre.length x (by simp)
theorem Qa3(e:List Ex):(Q13 e/\∃d p,Q3l e=some (d,p)/\Run e e.length d p)∨(¬Q13 e/\Q3l e=none):=by
 have h0:Run [] e.length (List.replicate e.length 0) (List.replicate e.length 0):=by
  have z:∀i,(List.replicate e.length (0:Int)).getD i 0=0:=fun i=>by
   simp only[List.getD]
   rw[List.getElem?_replicate];split <;> rfl
  exact⟨by simp,by simp,fun i _=>by rw[z];rfl,fun i hi=>by simp at hi,fun i _=>z i⟩
 have:=Qcw e [] _ _ h0 (fun j x hj=>by simp at hj) (by simp)
 simpa[Q3l]using this
structure IsTree (e:List Ex):Prop where
 ne:e≠[]
 k:Q13 e
 c:∀i,i < e.length->(cnt e i=1↔i+1 < e.length)
theorem Q2l(e:List Ex):Q1b e=0↔e.length<=4096/\IsTree e/\Q1m (grow e)<=400:=by
 unfold Q1b
 by_cases h1:4096 < e.length
 ·rw[if_pos h1];exact⟨fun h=>absurd h (by decide),fun h=>by omega⟩
 rw[if_neg h1]
 by_cases h2:e.length=0
 ·rw[if_pos h2]
  exact⟨fun h=>absurd h (by decide),fun h=>absurd (List.length_eq_zero_iff.1 h2) h.2.1.ne⟩
 rw[if_neg h2]
 rcases Qa3 e with ⟨hk,d,p,h3,hr⟩|⟨hk,h3⟩
 ·rw[h3]
  have hd:d.getD (e.length - 1) 0=Q1m (grow e):=hr.dv _ (by omega)
  have hodd:(List.range e.length).any (Q1l e.length p)=true↔¬∀i,i < e.length->(cnt e i=1↔i+1 < e.length):=by
   rw[List.any_eq_true]
   constructor
   ·rintro⟨i,hi,hb⟩ h
    have hi':i < e.length:=by simpa using hi
    have:=h i hi'
    have hc:=hr.pv i hi'
    simp only[Q1l,Bool.not_eq_true',beq_eq_false_iff_ne,ne_eq]at hb
    apply hb
    rw[Bool.eq_iff_iff,beq_iff_eq,decide_eq_true_iff,hc]
    omega
   ·intro h
    simp only[Classical.not_forall]at h
    obtain⟨i,hi,hne⟩:=h
    refine⟨i,by simpa using hi,?_⟩
    have hc:=hr.pv i hi
    simp only[Q1l,Bool.not_eq_true',beq_eq_false_iff_ne,ne_eq]
    intro hb
    rw[Bool.eq_iff_iff,beq_iff_eq,decide_eq_true_iff,hc]at hb
    apply hne
    omega
  simp only
  by_cases h4:(List.range e.length).any (Q1l e.length p)=true
  ·rw[if_pos h4]
   exact⟨fun h=>absurd h (by decide),fun h=>absurd h.2.1.c (hodd.1 h4)⟩
  ·rw[if_neg h4,hd]
   have hc:∀i,i < e.length->(cnt e i=1↔i+1 < e.length):=by
    apply Classical.byContradiction
    intro hn
    exact h4 (hodd.2 hn)
   by_cases h5:400 < Q1m (grow e)
   ·rw[if_pos h5];exact⟨fun h=>absurd h (by decide),fun h=>by omega⟩
   ·rw[if_neg h5]
    exact⟨fun _=>⟨by omega,⟨fun h=>h2 (by simp[h]),hk,hc⟩,by omega⟩,fun _=>rfl⟩
 ·rw[h3]
  simp only
  exact⟨fun h=>absurd h (by decide),fun h=>absurd h.2.1.k hk⟩

def wsum (c:Nat->Int):Nat->List Int->Int
 |_,[]=>0
 |j,v::vs=>c j * v+wsum c (j+1) vs
theorem Q8v(c:Nat->Int):∀(vs us:List Int)(j:Nat),wsum c j (vs++us)=wsum c j vs+wsum c (j+vs.length) us
 |[],us,j=>by simp[wsum]
 |v::vs,us,j=>by
  simp only[List.cons_append,wsum,Q8v c vs us,List.length_cons]
  rw[show j+1+vs.length=j+(vs.length+1) by omega];omega
theorem Q5l{c c':Nat->Int}:∀(vs:List Int)(j:Nat),(∀i,j<=i->i < j+vs.length->c i=c' i)->wsum c j vs=wsum c' j vs
 |[],_,_=>rfl
 |v::vs,j,h=>by
  simp only[wsum]
  rw[h j (by omega) (by simp),Q5l vs (j+1) (fun i h1 h2=>h i (by omega) (by simp;omega))]
theorem Qcn(c c':Nat->Int):∀(vs:List Int)(j:Nat),wsum (fun i=>c i - c' i) j vs=wsum c j vs - wsum c' j vs
 |[],_=>by simp[wsum]
 |v::vs,j=>by
  simp only[wsum,Qcn c c' vs,Int.sub_mul];omega
theorem Qcp(c c':Nat->Int):∀(vs:List Int)(j:Nat),wsum (fun i=>c i+c' i) j vs=wsum c j vs+wsum c' j vs
 |[],_=>by simp[wsum]
 |v::vs,j=>by
  simp only[wsum,Qcp c c' vs,Int.add_mul];omega
theorem Q4w{c:Nat->Int}:∀(vs:List Int)(j:Nat),(∀i,j<=i->i < j+vs.length->c i=0)->wsum c j vs=0
 |[],_,_=>rfl
 |v::vs,j,h=>by
  simp only[wsum]
  rw[h j (by omega) (by simp),Q4w vs (j+1) (fun i h1 h2=>h i (by omega) (by simp;omega))];omega
theorem Qco(k:Int):∀(vs:List Int)(j:Nat),(j:Int)<=k->k < j+vs.length->wsum (fun i=>if k=(i:Int)then 1 else 0) j vs=vs.getD (k.toNat - j) 0
 |[],j,h1,h2=>by simp at h2;omega
 |v::vs,j,h1,h2=>by
  simp only[wsum]
  by_cases e:k=j
  ·subst e
   rw[Q4w vs (j+1) (fun i h3 h4=>if_neg (by omega))]
   simp[List.getD]
  ·rw[if_neg e,Qco k vs (j+1) (by omega) (by simp at h2;omega)]
   rw[show k.toNat - j=(k.toNat - (j+1))+1 by omega]
   simp[List.getD]
theorem Q83(vs:List Int):∀ks:List Int,(∀k∈ks,0<=k/\k < vs.length)->wsum (fun i=>((ks.count (i:Int):Nat):Int)) 0 vs=(ks.map fun k=>vs.getD k.toNat 0).sum
 |[],_=>by simp;exact Q4w vs 0 (fun _ _ _=>by simp)
 |k::ks,h=>by
  have hk:=h k (by simp)
  have e:wsum (fun i=>(((k::ks).count (i:Int):Nat):Int)) 0 vs=wsum (fun i=>(if k=(i:Int)then 1 else 0)+((ks.count (i:Int):Nat):Int)) 0 vs:=by
   refine Q5l vs 0 fun i _ _=>?_
   rw[List.count_cons]
   by_cases e:k=(i:Int)
   ·simp[e];omega
   ·simp[e]
  rw[e,Qcp,Qco k vs 0 (by omega) (by omega),Q83 vs ks (fun y hy=>h y (by simp[hy]))]
  simp
def labE (e:List Ex)(x:Ex):Lab:=⟨x.op,x.n,x.binds,x.kids.map (fun k=>((growL e).getD k.toNat default).op),x.alts⟩
def labs (e:List Ex):List Lab:=e.map (labE e)
theorem Qg1{e:List Ex}{x:Ex}(h:Q13 (e++[x])):labs (e++[x])=labs e++[labE e x]:=by
 obtain⟨h1,h2⟩:=Q2o.1 h
 have same:∀y:Ex,(∀k∈y.kids,0<=k/\k < e.length)->labE (e++[x]) y=labE e y:=by
  intro y hy
  simp only[labE,Lab.mk.injEq,true_and,and_true]
  refine List.map_congr_left fun k hk=>?_
  have:=hy k hk
  rw[Q3x (by omega)]
 simp only[labs,List.map_append,List.map_cons,List.map_nil]
 rw[same x h2]
 congr 1
 refine List.map_congr_left fun y hy=>same y fun k hk=>?_
 obtain⟨j,hj⟩:=List.mem_iff_getElem?.1 hy
 have:=h1 j y hj k hk
 have hl:=(List.getElem?_eq_some_iff.1 hj).1
 omega
theorem Qbo(g:Lab->Int)(e:List Ex)(x:Ex):sumT g (Q2g (growL e) x)=g (labE e x)+(x.kids.map fun k=>sumT g ((growL e).getD k.toNat default)).sum:=by
 simp only[Q2g,sumT,Qcs,labE,List.map_map];rfl
theorem sum_pre(g:Lab->Int)(e:List Ex)(h:Q13 e):wsum (fun i=>1 - (cnt e i:Int)) 0 ((growL e).map (sumT g))=((labs e).map g).sum:=by
 revert h
 refine Q51 (P:=fun e=>Q13 e->wsum (fun i=>1 - (cnt e i:Int)) 0 ((growL e).map (sumT g))=((labs e).map g).sum) (fun _=>rfl) (fun e x ih h=>?_) e
 obtain⟨h1,h2⟩:=Q2o.1 h
 have ih:=ih h1
 have hlen:((growL e).map (sumT g)).length=e.length:=by simp[Q17]
 have hz:cnt (e++[x]) e.length=0:=by
  have:∀(l:List Ex) (n:Nat),(∀y∈l,∀k∈y.kids,k < (n:Int))->cnt l n=0:=by
   intro l
   induction l with
   |nil=>intro n _;rfl
   |cons y l ih2=>
    intro n hl
    simp only[cnt]
    rw[ih2 n (fun z hz=>hl z (by simp[hz])),Nat.add_zero,List.count_eq_zero]
    intro hm
    have:=hl y (by simp) _ hm
    omega
  refine this _ _ fun y hy k hk=>?_
  obtain⟨j,hj⟩:=List.mem_iff_getElem?.1 hy
  have:=h j y hj k hk
  have hl:=(List.getElem?_eq_some_iff.1 hj).1
  simp at hl
  omega
 rw[Q1u,List.map_append,Q8v,hlen,Qg1 h,List.map_append,List.sum_append,←ih]
 simp only[List.map_cons,List.map_nil,wsum,Nat.zero_add,hz,List.sum_cons,List.sum_nil,Qbo]
 have e1:wsum (fun i=>1 - (cnt (e++[x]) i:Int)) 0 ((growL e).map (sumT g))=wsum (fun i=>(1 - (cnt e i:Int)) - ((x.kids.count (i:Int):Nat):Int)) 0 ((growL e).map (sumT g)):=by
  refine Q5l _ 0 fun i _ _=>?_
  rw[Qcd];simp[cnt];omega
 rw[e1,Qcn,Q83 _ _ (fun k hk=>by rw[hlen];exact h2 k hk)]
 have e2:(x.kids.map fun k=>((growL e).map (sumT g)).getD k.toNat 0)=x.kids.map fun k=>sumT g ((growL e).getD k.toNat default):=by
  refine List.map_congr_left fun k hk=>?_
  have:=h2 k hk
  have hl:k.toNat < (growL e).length:=by rw[Q17];omega
  simp[List.getD,List.getElem?_eq_getElem hl]
 rw[e2]
 omega
theorem Qit{e:List Ex}(h:Q13 e){n:Nat}(hn:e.length<=n+1):cnt e n=0:=by
 have:∀(l:List Ex),(∀y∈l,∀k∈y.kids,k < (n:Int))->cnt l n=0:=by
  intro l
  induction l with
  |nil=>intro _;rfl
  |cons y l ih2=>
   intro hl
   simp only[cnt]
   rw[ih2 (fun z hz=>hl z (by simp[hz])),Nat.add_zero,List.count_eq_zero]
   intro hm
   have:=hl y (by simp) _ hm
   omega
 refine this _ fun y hy k hk=>?_
 obtain⟨j,hj⟩:=List.mem_iff_getElem?.1 hy
 have:=h j y hj k hk
 have hl:=(List.getElem?_eq_some_iff.1 hj).1
 omega
theorem Q6h(g:Lab->Int){e:List Ex}(h:IsTree e):((labs e).map g).sum=sumT g (grow e):=by
 rw[←sum_pre g e h.k]
 obtain⟨pre,x,rfl⟩:∃pre x,e=pre++[x]:=⟨e.dropLast,e.getLast h.ne,(List.dropLast_concat_getLast h.ne).symm⟩
 rw[Q1u,List.map_append,Q8v]
 rw[Q4w _ 0 (fun i _ hi=>?_),Qgk]
 ·simp only[List.map_cons,List.map_nil,wsum,List.length_map,Q17,Nat.zero_add]
  rw[Qit h.k (by simp)];omega
 ·have hi:i < pre.length:=by simpa[Q17]using hi
  have:=(h.c i (by simp;omega)).2 (by simp;omega)
  rw[this];rfl
end Go.CoreX
namespace Go.CoreX
structure OkT (out:List Ex)(t:Tr):Prop where
 lt:out.length < (listT out t).length
 k:Q13 (listT out t)
 g:∃r,growL (listT out t)=growL out++r++[t]
 c:∀i,cnt (listT out t) i=cnt out i+if out.length<=i/\i+1 < (listT out t).length then 1 else 0
structure OkTs (out:List Ex)(ts:List Tr):Prop where
 le:out.length<=(Q02 out ts).1.length
 k:Q13 (Q02 out ts).1
 g:∃r,growL (Q02 out ts).1=growL out++r
 ix:∀k∈(Q02 out ts).2,(out.length:Int)<=k/\k < (Q02 out ts).1.length
 m:(Q02 out ts).2.map (fun k=>(growL (Q02 out ts).1).getD k.toNat default)=ts
 c:∀i,cnt (Q02 out ts).1 i+(Q02 out ts).2.count (i:Int)=cnt out i+if out.length<=i/\i < (Q02 out ts).1.length then 1 else 0
mutual
theorem Q9c:∀(t:Tr)(out:List Ex),Q13 out->OkT out t
 |.mk o n b ks a,out,h=>by
  have H:=Qal ks out h
  have e:listT out (.mk o n b ks a)=(Q02 out ks).1++[⟨o,n,b,(Q02 out ks).2,a⟩]:=by simp only[listT]
  refine⟨?_,?_,?_,fun i=>?_⟩
  ·rw[e];have:=H.le;simp;omega
  ·rw[e,Q2o]
   refine⟨H.k,fun k hk=>?_⟩
   have:=H.ix k hk
   exact⟨by omega,this.2⟩
  ·obtain⟨r,hr⟩:=H.g
   refine⟨r,?_⟩
   rw[e,Q1u]
   have:Q2g (growL (Q02 out ks).1) ⟨o,n,b,(Q02 out ks).2,a⟩=.mk o n b ks a:=by
    simp only[Q2g,Tr.mk.injEq,true_and,and_true];exact H.m
   rw[this,hr]
  ·rw[e,Qcd]
   have:=H.c i
   simp only[cnt,Nat.add_zero,List.length_append,List.length_singleton]
   rw[this]
   congr 1
   by_cases h1:out.length<=i/\i < (Q02 out ks).1.length
   ·rw[if_pos h1,if_pos (by omega)]
   ·rw[if_neg h1,if_neg (by omega)]
theorem Qal:∀(ts:List Tr)(out:List Ex),Q13 out->OkTs out ts
 |[],out,h=>⟨by simp[Q02],by simpa[Q02]using h,⟨[],by simp[Q02]⟩,by simp[Q02],by simp[Q02],fun i=>by
   have e1:(Q02 out []).1=out:=by simp only[Q02]
   have e2:(Q02 out []).2=[]:=by simp only[Q02]
   rw[e1,e2,if_neg (by omega)];rfl⟩
 |t::ts,out,h=>by
  have H1:=Q9c t out h
  have H2:=Qal ts (listT out t) H1.k
  have e1:(Q02 out (t::ts)).1=(Q02 (listT out t) ts).1:=by simp only[Q02]
  have e2:(Q02 out (t::ts)).2=(((listT out t).length:Int) - 1)::(Q02 (listT out t) ts).2:=by simp only[Q02]
  have l1:=H1.lt
  have l2:=H2.le
  obtain⟨r1,g1⟩:=H1.g
  obtain⟨r2,g2⟩:=H2.g
  refine⟨by rw[e1];omega,by rw[e1];exact H2.k,⟨r1++[t]++r2,?_⟩,?_,?_,fun i=>?_⟩
  ·rw[e1,g2,g1];simp
  ·intro k hk
   rw[e2]at hk
   rw[e1]
   rcases List.mem_cons.1 hk with rfl|hk
   ·omega
   ·have:=H2.ix k hk;omega
  ·rw[e1,e2,List.map_cons,H2.m]
   congr 1
   have hl:(growL (listT out t)).length=(listT out t).length:=Q17 _
   have hl2:(growL out++r1).length+1=(listT out t).length:=by rw[←hl,g1];simp;omega
   rw[g2,Q9l (by rw[hl];omega),g1]
   have:((((listT out t).length:Int) - 1)).toNat=(growL out++r1).length:=by omega
   rw[this]
   simp[List.getD]
  ·rw[e1,e2,List.count_cons]
   have c2:=H2.c i
   have c1:=H1.c i
   have hh:(((((listT out t).length:Int) - 1)==(i:Int))=true)↔i+1=(listT out t).length:=by
    rw[beq_iff_eq];omega
   by_cases h1:i+1=(listT out t).length
   ·rw[if_pos (hh.2 h1)]
    rw[if_neg (by omega)]at c2
    rw[if_neg (by omega)]at c1
    rw[if_pos (by omega)]
    omega
   ·rw[if_neg (fun h=>h1 (hh.1 h))]
    by_cases h2:out.length<=i/\i+1 < (listT out t).length
    ·rw[if_pos h2]at c1
     rw[if_neg (by omega)]at c2
     rw[if_pos (by omega)]
     omega
    ·rw[if_neg h2]at c1
     by_cases h3:(listT out t).length<=i/\i < (Q02 (listT out t) ts).1.length
     ·rw[if_pos h3]at c2
      rw[if_pos (by omega)]
      omega
     ·rw[if_neg h3]at c2
      rw[if_neg (by omega)]
      omega
end
theorem Q8f:Q13 []:=fun j x hj=>by simp at hj
theorem Q3w(t:Tr):grow (listT [] t)=t:=by
 have H:=Q9c t [] Q8f
 obtain⟨r,hr⟩:=H.g
 have hl:(growL (listT [] t)).length=(listT [] t).length:=Q17 _
 unfold grow
 rw[hr]at hl ⊢
 have:(listT [] t).length - 1=(growL []++r).length:=by simp at hl ⊢;omega
 rw[this]
 simp[List.getD]
theorem Q39(t:Tr):IsTree (listT [] t):=by
 have H:=Q9c t [] Q8f
 refine⟨fun h=>?_,H.k,fun i hi=>?_⟩
 ·have:=H.lt;rw[h]at this;simp at this
 ·rw[H.c i]
  simp only[cnt,List.length_nil,Nat.zero_le,true_and,Nat.zero_add]
  split <;> omega
theorem Qf4(ls:List Lab)(l0:Lab):(ls.map fun l=>if l=l0 then (1:Int)else 0).sum=ls.count l0:=by
 induction ls with
 |nil=>rfl
 |cons l ls ih=>
  simp only[List.map_cons,List.sum_cons,ih,List.count_cons]
  by_cases e:l=l0
  ·simp[e];omega
  ·simp[e]
theorem Q7d{e f:List Ex}(he:IsTree e)(hf:IsTree f)(h:grow e=grow f):(labs e).Perm (labs f):=by
 rw[List.perm_iff_count]
 intro l0
 have h1:=Q6h (fun l=>if l=l0 then (1:Int)else 0) he
 have h2:=Q6h (fun l=>if l=l0 then (1:Int)else 0) hf
 rw[Qf4]at h1 h2
 rw[h]at h1
 omega
theorem Q49(e:List Ex):(labs e).length=e.length:=by simp[labs]
theorem Qbx(e:List Ex):∀i,i < e.length->((growL e).getD i default).op=(e.getD i ⟨0,0,[],[],[]⟩).op:=by
 refine Q51 (P:=fun e=>∀i,i < e.length->((growL e).getD i default).op=(e.getD i ⟨0,0,[],[],[]⟩).op) (fun i hi=>by simp at hi) (fun e x ih i hi=>?_) e
 by_cases h:i < e.length
 ·rw[Q3x h,ih i h,Q9l h]
 ·have:i=e.length:=by simp at hi;omega
  subst this
  rw[Q6p e [] x]
  simp[Q2g,List.getD]
theorem Qff{o n:Int}{b kx ky:List Int}{a:List Alt}(h:kx.length=ky.length):shape ⟨o,n,b,kx,a⟩=shape ⟨o,n,b,ky,a⟩:=by
 unfold shape wants Q5j Q3k
 simp only[h]
theorem Qeb{o n:Int}{b kx ky:List Int}{a:List Alt}(h:kx.length=ky.length):ranges ⟨o,n,b,kx,a⟩=ranges ⟨o,n,b,ky,a⟩:=by
 unfold ranges fields
 simp only[h]
theorem Qe9{x:Ex}(h:shape x=true)(h5:x.op=5):x.kids.length=x.binds.length+1:=by
 unfold shape wants at h
 simp[h5]at h
 omega
theorem Qak{flat:Bool}{e f:List Ex}{x y:Ex}(hx:∀k∈x.kids,0<=k/\k < (e.length:Int))(hy:∀k∈y.kids,0<=k/\k < (f.length:Int))(h:labE e x=labE f y):Q0e flat e x=Q0e flat f y:=by
 obtain⟨o,n,b,kx,a⟩:=x
 obtain⟨o',n',b',ky,a'⟩:=y
 simp only[labE,Lab.mk.injEq]at h
 obtain⟨rfl,rfl,rfl,hk,rfl⟩:=h
 have hl:kx.length=ky.length:=by have:=congrArg List.length hk;simpa using this
 unfold Q0e Q0y
 rw [Qff hl, Qeb hl]
 cases hs:shape ⟨o,n,b,ky,a⟩ with
 |false=>simp
 |true=>
  have hb:(List.range b.length).any (Q11 e ⟨o,n,b,kx,a⟩)=(List.range b.length).any (Q11 f ⟨o,n,b,ky,a⟩):=by
   rw[Bool.eq_iff_iff,List.any_eq_true,List.any_eq_true]
   have key:∀i,i < b.length->Q11 e ⟨o,n,b,kx,a⟩ i=Q11 f ⟨o,n,b,ky,a⟩ i:=by
    intro i hi
    unfold Q11
    by_cases h5:o=5
    ·have hr:=Qe9 hs h5
     simp only at hr
     obtain⟨k,h1⟩:∃k,kx[i]?=some k:=⟨kx[i]'(by omega),List.getElem?_eq_getElem _⟩
     obtain⟨m,h2⟩:∃k,ky[i]?=some k:=⟨ky[i]'(by omega),List.getElem?_eq_getElem _⟩
     have k1:=hx k (List.mem_of_getElem? h1)
     have k2:=hy m (List.mem_of_getElem? h2)
     have h3:=congrArg (fun l=>l[i]?) hk
     simp only[List.getElem?_map,h1,h2,Option.map_some,Option.some.injEq]at h3
     rw[Qbx e _ (by omega),Qbx f _ (by omega)]at h3
     have e1:kx.getD i 0=k:=by rw[List.getD_eq_getElem?_getD,h1];rfl
     have e2:ky.getD i 0=m:=by rw[List.getD_eq_getElem?_getD,h2];rfl
     simp only[e1,e2,h3]
    ·have:(o==5)=false:=by simpa using h5
     simp only[this,Bool.false_and]
   constructor
   ·rintro⟨i,hi,hb⟩;exact⟨i,hi,by rw[←key i (by simpa using hi)];exact hb⟩
   ·rintro⟨i,hi,hb⟩;exact⟨i,hi,by rw[key i (by simpa using hi)];exact hb⟩
  simp only[hb]
theorem Q1h{α:Type}(f:α->Int):∀l:List α,Q0u f l=0↔∀x∈l,f x=0
 |[]=>by simp[Q0u]
 |a::l=>by
  simp only[Q0u,List.mem_cons,forall_eq_or_imp]
  by_cases h:f a=0
  ·simp[h,Q1h f l]
  ·simp[h]
theorem Q1t:∀l:List Int,Q3v l=false↔l.Nodup
 |[]=>by simp[Q3v]
 |n::l=>by simp[Q3v,List.nodup_cons,Q1t l]
theorem Q9e{e:List Ex}(h:Q13 e){x:Ex}(hx:x∈e):∀k∈x.kids,0<=k/\k < (e.length:Int):=by
 intro k hk
 obtain⟨j,hj⟩:=List.mem_iff_getElem?.1 hx
 have:=h j x hj k hk
 have hl:=(List.getElem?_eq_some_iff.1 hj).1
 omega
theorem Q44(e:List Ex):Q07 e=(labs e).flatMap fun l=>Q06 l.op l.binds l.alts:=by
 unfold Q07 labs
 rw[List.flatMap_map];rfl
theorem Qh6{e f:List Ex}{params:List Int}{flat:Bool}(hf:IsTree f)(h:grow e=grow f)(hb:body e params flat=0):body f params flat=0:=by
 unfold body at hb ⊢
 by_cases h1:Q1b e=0
 ·rw[if_neg (by simpa using h1)]at hb
  obtain⟨t1,t2,t3⟩:=(Q2l e).1 h1
  have hp:=Q7d t2 hf h
  have hl:e.length=f.length:=by rw[←Q49 e,←Q49 f];exact hp.length_eq
  rw[if_neg (by rw[Classical.not_not];exact (Q2l f).2 ⟨by omega,hf,by rw[←h];exact t3⟩)]
  by_cases h2:Q0u (Q0e flat e) e=0
  ·rw[if_neg (by simpa using h2)]at hb
   have h2f:Q0u (Q0e flat f) f=0:=by
    rw[Q1h]at h2 ⊢
    intro y hy
    have hm:labE f y∈labs e:=hp.mem_iff.2 (List.mem_map_of_mem hy)
    obtain⟨x,hx,hxy⟩:=List.mem_map.1 hm
    rw[←Qak (Q9e t2.k hx) (Q9e hf.k hy) hxy]
    exact h2 x hx
   rw[if_neg (by simpa using h2f)]
   by_cases h3:Q3v (params++Q07 e)=true
   ·rw[if_pos h3]at hb;exact absurd hb (by decide)
   ·rw[if_neg h3]at hb
    have hd:(params++Q07 e).Perm (params++Q07 f):=by
     rw[Q44,Q44]
     exact List.Perm.append_left _ (List.Perm.flatMap_right _ hp)
    have h3f:¬Q3v (params++Q07 f)=true:=by
     intro h4
     have h5:=(Q1t _).1 (by simpa using h3)
     have h6:=(Q1t _).2 (hd.nodup_iff.1 h5)
     rw[h6]at h4;cases h4
    rw[if_neg h3f,←h]
    exact hb
  ·rw[if_pos h2]at hb;exact absurd hb h2
 ·rw[if_pos h1]at hb;exact absurd hb h1
theorem Q15{e:List Ex}{params:List Int}{flat:Bool}(hb:body e params flat=0):IsTree e:=by
 unfold body at hb
 by_cases h1:Q1b e=0
 ·exact ((Q2l e).1 h1).2.1
 ·rw[if_pos h1]at hb;exact absurd hb h1
end Go.CoreX
namespace Go.CoreX
abbrev Nm:=Int->Option Int
def setN (m:Nm)(k v:Int):Nm:=fun j=>if k=j then some v else m j
def putsN (m:Nm):List Int->List Int->Nm
 |x::xs,y::ys=>putsN (setN m x y) xs ys
 |_,_=>m
def Q1j:List Alt->List Alt->Bool
 |a::l,b::r=>(a.tag==b.tag&&a.binds.length==b.binds.length)&&Q1j l r
 |_,_=>true
def Qcq (o:Int)(nk nb na:Nat)(t:Tr):Bool:=!(o==t.op&&nk==t.kids.length&&nb==t.binds.length&&na==t.alts.length)
def Q70 (m:Nm)(n n':Int):Bool:=match m n with|some v=>v==n'|none=>n==n'
mutual
def sameT:Tr->Tr->Nm->Bool×Nm
 |.mk o n b k a,t,m=>
  if Qcq o k.length b.length a.length t=true then (false,m) else
  if o=0 then (Q70 m n t.n,m) else
  if (!(n==t.n))||(o==9&&!(b==t.binds))then (false,m) else
  if Q1j a t.alts=false then (false,m) else
  Q1x k t.kids (putsN m (Q06 o b a) (Q06 t.op t.binds t.alts))
def Q1x:List Tr->List Tr->Nm->Bool×Nm
 |[],_,m=>(true,m)
 |a::l,r,m=>match r with
  |[]=>(true,m)
  |b::r=>if (sameT a b m).1=true then Q1x l r (sameT a b m).2 else (false,(sameT a b m).2)
end
def idN (m:Nm):Prop:=∀n v,m n=some v->v=n
theorem Qdm:∀(l:List Int)(m:Nm),idN m->idN (putsN m l l)
 |[],m,h=>h
 |x::l,m,h=>Qdm l _ fun n v hv=>by
  unfold setN at hv
  by_cases e:x=n
  ·rw[if_pos e]at hv;simp at hv;omega
  ·rw[if_neg e]at hv;exact h n v hv
theorem Q5k:∀l:List Alt,Q1j l l=true
 |[]=>rfl
 |a::l=>by simp[Q1j,Q5k l]
mutual
theorem Q85:∀(t:Tr)(m:Nm),idN m->(sameT t t m).1=true/\idN (sameT t t m).2
 |.mk o n b k a,m,h=>by
  unfold sameT
  rw[if_neg (by simp[Qcq])]
  by_cases e:o=0
  ·rw[if_pos e]
   refine⟨?_,h⟩
   simp only[Q70,Tr.n_mk]
   cases hm:m n with
   |none=>simp
   |some v=>simp[h n v hm]
  ·rw[if_neg e,if_neg (by simp),if_neg (by simp[Q5k])]
   exact Q72 k _ (Qdm _ m h)
theorem Q72:∀(l:List Tr)(m:Nm),idN m->(Q1x l l m).1=true/\idN (Q1x l l m).2
 |[],m,h=>⟨rfl,h⟩
 |t::l,m,h=>by
  obtain⟨h1,h2⟩:=Q85 t m h
  unfold Q1x
  simp only[h1,if_true]
  exact Q72 l _ h2
end
def Q6i (a b:Tr):Bool:=(sameT a b fun _=>none).1
theorem Q91(t:Tr):Q6i t t=true:=(Q85 t _ fun n v h=>by cases h).1
def same (a b:List Ex):Bool:=(check a==0&&check b==0)&&Q6i (grow a) (grow b)
def order (e:List Ex):List Ex×Int:=if check e≠0 then ([],check e)else (listT [] (grow e),0)
end Go.CoreX
namespace Go.Abs
theorem AOps.atDst{E:Env}{ops:Array Oper}{l:List Oper}{o:Oper}{K:Cont}{fr:Fr}{σ:St}(d:Nat)(h:o.dst=some d)(k:AOps E ops (o::l) K fr σ):AOps E ops (o::l) K fr σ:=k
class StpC (g:Prop) (h:outParam Prop):Prop where
 go:h->g
theorem zst{g h:Prop} [i:StpC g h] (x:h):g:=i.go x
section
variable {E:Env}{Fin:Fr->St->Prop}{k:List AItem}{fr:Fr}{σ:St}{c x y:Code}{id:Nat}{J:Fr->St->Prop}{ops:Array Oper}{K:Cont}{l:List Oper}
instance:StpC (AOps E ops [] K fr σ) (K .normal fr σ):=⟨o1⟩
instance:StpC (ACode E (.seq x y) (Q03 E Fin k) fr σ) (ACode E x (Q03 E Fin (.code y::k)) fr σ):=⟨o2⟩
instance:StpC (ACode E (.region id l.toArray false) K fr σ) (AOps E l.toArray l K fr σ):=⟨o3⟩
instance:StpC (Q03 E Fin (.code c::k) .normal fr σ) (ACode E c (Q03 E Fin k) fr σ):=⟨o4⟩
instance:StpC (ACode E .ret (Q03 E Fin k) fr σ) (Q03 E Fin k .ret fr σ):=⟨o5⟩
instance:StpC (Q03 E Fin [] .ret fr σ) (Fin fr σ):=⟨o6⟩
instance:StpC (Q03 E Fin [] .normal fr σ) (Fin fr σ):=⟨o7⟩
instance:StpC (ACode E .skip (Q03 E Fin k) fr σ) (Q03 E Fin k .normal fr σ):=⟨o8⟩
instance:StpC (ACode E (.block id c) (Q03 E Fin k) fr σ) (ACode E c (Q03 E Fin (.blk id::k)) fr σ):=⟨o9⟩
instance:StpC (Q03 E Fin (.blk id::k) .normal fr σ) (Q03 E Fin k .normal fr σ):=⟨oa⟩
instance:StpC (Q03 E Fin (.code c::k) .ret fr σ) (Q03 E Fin k .ret fr σ):=⟨ob⟩
instance:StpC (Q03 E Fin (.blk id::k) .ret fr σ) (Q03 E Fin k .ret fr σ):=⟨oc⟩
instance:StpC (Q03 E Fin (.inv J::k) .ret fr σ) (Q03 E Fin k .ret fr σ):=⟨od⟩
instance {J:List PanicEntry->St->Prop}:StpC (Q03 E Fin (.pan J::k) .normal fr σ) (Q03 E Fin k .normal fr σ):=⟨fun h=>h⟩
instance {J:List PanicEntry->St->Prop}:StpC (Q03 E Fin (.pan J::k) .ret fr σ) (Q03 E Fin k .ret fr σ):=⟨fun h=>h⟩
instance {J:List PanicEntry->St->Prop}:StpC (Q03 E Fin (.pan J::k) (.exit id) fr σ) (Q03 E Fin k (.exit id) fr σ):=⟨fun h=>h⟩
instance:StpC (ACode E (.exit id) (Q03 E Fin k) fr σ) (Q03 E Fin k (.exit id) fr σ):=⟨oe⟩
instance:StpC (Q03 E Fin (.code c::k) (.exit id) fr σ) (Q03 E Fin k (.exit id) fr σ):=⟨og⟩
instance:StpC (Q03 E Fin (.blk id::k) (.exit id) fr σ) (Q03 E Fin k .normal fr σ):=⟨oh⟩
instance:StpC (Q03 E Fin (.inv J::k) (.exit id) fr σ) (Q03 E Fin k (.exit id) fr σ):=⟨oi⟩
end
end Go.Abs
namespace Go.Proofs.YtdpdlkgecmgokaaGreatDoor
open Go Go.Abs
section
variable {E:Env}{ops:Array Oper}{rest:List Oper}{o:Oper}{K:Cont}{fr fr':Fr}{σ σ':St}{d:Nat}{t yt:TypeId}{x y:Operand}{a b:Int}{p q:Bool}{tys:Array TypeId}
theorem zau(h:AOps E ops rest K fr' σ')(hT:TabOk E.P E.T:=by exact tabOk)(h1:aAuto E ops o fr σ=some (fr',σ'):=by exact rfl):AOps E ops (o::rest) K fr σ:=AOps.auto hT h1 h
theorem zad(h:AOps E ops rest K ((d,.one (.lit (.int .i64 (a+b))))::fr) σ)(hgd:o.guard=none:=by exact rfl)(hdst:o.dst=some d:=by exact rfl)(hd:Nat.ble (d+1) E.N=true:=by exact rfl)(ho:o.op=.binOp .add t x y yt:=by exact rfl)
  (hx:aEval E.Γ fr x=some (.one (.lit (.int .i64 a))):=by exact rfl) (hy:aEval E.Γ fr y=some (.one (.lit (.int .i64 b))):=by exact rfl) (h0:-9223372036854775808<=a+b:=by first|omega|(simp;omega)) (h1:a+b<=9223372036854775807:=by first|omega|(simp;omega)):AOps E ops (o::rest) K fr σ:=
 AOps.step1 hgd hdst hd (AStep.arith ho hx hy (.inl ⟨rfl,rfl⟩) (Q2p h0 h1)) h
theorem zsu(h:AOps E ops rest K ((d,.one (.lit (.int .i64 (a - b))))::fr) σ)(hgd:o.guard=none:=by exact rfl)(hdst:o.dst=some d:=by exact rfl)(hd:Nat.ble (d+1) E.N=true:=by exact rfl)(ho:o.op=.binOp .sub t x y yt:=by exact rfl)
  (hx:aEval E.Γ fr x=some (.one (.lit (.int .i64 a))):=by exact rfl) (hy:aEval E.Γ fr y=some (.one (.lit (.int .i64 b))):=by exact rfl) (h0:-9223372036854775808<=a - b:=by first|omega|(simp;omega)) (h1:a - b<=9223372036854775807:=by first|omega|(simp;omega)):AOps E ops (o::rest) K fr σ:=
 AOps.step1 hgd hdst hd (AStep.arith ho hx hy (.inr (.inl ⟨rfl,rfl⟩)) (Q2p h0 h1)) h
theorem zne(h:AOps E ops rest K ((d,.one (.lit (.bool (!(p==q)))))::fr) σ)(hgd:o.guard=none:=by exact rfl)(hdst:o.dst=some d:=by exact rfl)(hd:Nat.ble (d+1) E.N=true:=by exact rfl)(ho:o.op=.binOp .neq t x y yt:=by exact rfl)(ht:E.P.underlying t=some .bool:=by exact Tryz.underlying4)
  (hx:aEval E.Γ fr x=some (.one (.lit (.bool p))):=by exact rfl) (hy:aEval E.Γ fr y=some (.one (.lit (.bool q))):=by exact rfl):AOps E ops (o::rest) K fr σ:=AOps.step1 hgd hdst hd (AStep.neBool ht ho hx hy) h
theorem zeq(h:AOps E ops rest K ((d,.one (.lit (.bool (p==q))))::fr) σ)(hgd:o.guard=none:=by exact rfl)(hdst:o.dst=some d:=by exact rfl)(hd:Nat.ble (d+1) E.N=true:=by exact rfl)(ho:o.op=.binOp .eql t x y yt:=by exact rfl)(ht:E.P.underlying t=some .bool:=by exact Tryz.underlying4)
  (hx:aEval E.Γ fr x=some (.one (.lit (.bool p))):=by exact rfl) (hy:aEval E.Γ fr y=some (.one (.lit (.bool q))):=by exact rfl):AOps E ops (o::rest) K fr σ:=AOps.step1 hgd hdst hd (AStep.eqBool ht ho hx hy) h
theorem zmx(h:AOps E ops rest K ((d,.one (.lit (.int .i64 (if b > a then b else a))))::fr) σ)(hgd:o.guard=none:=by exact rfl)(hdst:o.dst=some d:=by exact rfl)(hd:Nat.ble (d+1) E.N=true:=by exact rfl)(ho:o.op=.call { callee:=.builtin .max,args:=#[x,y],argTypes:=tys }:=by exact rfl)
  (hx:aEval E.Γ fr x=some (.one (.lit (.int .i64 a))):=by exact rfl) (hy:aEval E.Γ fr y=some (.one (.lit (.int .i64 b))):=by exact rfl):AOps E ops (o::rest) K fr σ:=AOps.step1 hgd hdst hd (AStep.max2 (t:=3) (ty:=3) ho hx hy) h
theorem zmn(h:AOps E ops rest K ((d,.one (.lit (.int .i64 (if b < a then b else a))))::fr) σ)(hgd:o.guard=none:=by exact rfl)(hdst:o.dst=some d:=by exact rfl)(hd:Nat.ble (d+1) E.N=true:=by exact rfl)(ho:o.op=.call { callee:=.builtin .min,args:=#[x,y],argTypes:=tys }:=by exact rfl)
  (hx:aEval E.Γ fr x=some (.one (.lit (.int .i64 a))):=by exact rfl) (hy:aEval E.Γ fr y=some (.one (.lit (.int .i64 b))):=by exact rfl):AOps E ops (o::rest) K fr σ:=AOps.step1 hgd hdst hd (AStep.min2 (t:=3) (ty:=3) ho hx hy) h
theorem zow{ti:TI}{j:Abs.Id}{off:Nat}{cs:List AC}{c:AC}(ho:o.op=.load t x)(hx:aEval E.Γ fr x=some (.one (.ptr j off)))(hg:σ.get j=some (.cells cs))(h:AOps E ops rest K ((d,.one c)::fr) σ)(hgd:o.guard=none:=by exact rfl)(hdst:o.dst=some d:=by exact rfl)(hd:Nat.ble (d+1) E.N=true:=by exact rfl)(hT:TabOk E.P E.T:=by exact tabOk)
  (ht:Tab.get t E.T=some ti:=by exact rfl) (ha:ti.agg=false:=by exact rfl) (hs:Nat.beq ti.size 1=true:=by exact rfl) (hc:cs[off]?=some c:=by exact rfl):AOps E ops (o::rest) K fr σ:=AOps.step1 hgd hdst hd (AStep.loadOwn hT ho ht ha hs hx hg hc) h
theorem zix{ti tj:TI}{k:IntKind}{n:Int}{s:Nat}{es:List (List AC)}{e:List AC}(h:AOps E ops rest K ((d,.one (.box e))::fr) σ)(hgd:o.guard=none:=by exact rfl)(hdst:o.dst=some d:=by exact rfl)(hd:Nat.ble (d+1) E.N=true:=by exact rfl)(ho:o.op=.indexAddr t x y:=by exact rfl)(hT:TabOk E.P E.T:=by exact tabOk)
  (ht:Tab.get t E.T=some ti:=by exact rfl) (hk:Nat.beq ti.kind 2=true:=by exact rfl) (hj:Tab.get ti.elem E.T=some tj:=by exact rfl) (hx:aEval E.Γ fr x=some (.one (.sl s es)):=by exact rfl) (hs:Nat.beq tj.size s=true:=by exact rfl) (hy:aEval E.Γ fr y=some (.one (.lit (.int k n))):=by exact rfl) (h0:0<=n:=by decide) (he:es[n.toNat]?=some e:=by exact rfl):AOps E ops (o::rest) K fr σ:=
 AOps.step1 hgd hdst hd (AStep.indexAddr hT ho ht hk hj hs hx (.inl rfl) hy h0 he) h
theorem zca{f:Operand}{args:Array Operand}{g:Nat}{first caps:List AC}{vs ws:List FV}{r:FV}(hΓ:∀g cs,(g,cs)∈E.Γ->idsL isO cs)(hc:APure E.P E.Γ g ws r)(hou:OuOk σ.ou)(h:AOps E ops rest K ((d,r)::fr) σ)(hgd:o.guard=none:=by exact rfl)(hdst:o.dst=some d:=by exact rfl)(hd:Nat.ble (d+1) E.N=true:=by exact rfl)
  (ho:o.op=.call { callee:=.value f,args:=args,argTypes:=tys }:=by exact rfl) (hf:aEval E.Γ fr f=some (.one (.fn (.func g) first caps)):=by exact rfl) (hargs:Q18 E.Γ fr args.toList=some vs:=by exact rfl) (has:first.map .one++vs++caps.map .one=ws:=by exact rfl) (hids:idsF isO ws:=by simp):AOps E ops (o::rest) K fr σ:=
 AOps.callC hΓ hc hgd hdst hd ho hf hargs has hou hids h
end
section
variable {ρ:Nat->Nat}{fr r:Fr}{k n s:Nat}{x v:FV}{es:List (List AC)}{oc:Option Nat}{lo lr:List (Nat×AObj)}{o p:AObj}{k':Nat}
theorem zfc(hr:FrSub ρ fr r)(h:Fr.get k fr=some v:=by exact rfl)(he:v=x.ren ρ:=by exact rfl):FrSub ρ fr ((k,x)::r):=FrSub.cons h (.ofEq he) hr
theorem zfo(hr:FrSub ρ fr r)(h:Fr.get n fr=some (.one (oaC k' s es oc)):=by exact rfl)(hk:k'=ρ k:=by exact rfl):FrSub ρ fr ((n,.one (oaC k s es oc))::r):=FrSub.oa h hk hr
theorem zfp(hr:FrSub ρ fr r)(h:Fr.get k fr=some v:=by exact rfl)(he:v=x:=by exact rfl)(hp:x.ids isO:=by simp):FrSub ρ fr ((k,x)::r):=FrSub.consP h (.ofEq he) hp hr
theorem zlc(hr:LoSub ρ n lo lr)(h:lookL (ρ k) lo=some p:=by exact rfl)(hk:Nat.blt k n=true:=by exact rfl)(he:p=o.ren ρ:=by first|rfl|(refine (AObj.ren_pure _ _ ?_).symm;simp;done)|exact (Qfl _ _ _ _ fun _=>Qc1 (by simp;done)).symm|(simp[AObj.ren,renL,AC.ren];done)|(simp[AObj.ren,renL,AC.ren];rfl))(hi:o.ids (inL n):=by first|(simp;done)|exact Qc2 (by simp)):LoSub ρ n lo ((k,o)::lr):=LoSub.cons h he hk hi hr
theorem zld(he:p=o.ren ρ)(hr:LoSub ρ n lo lr)(h:lookL (ρ k) lo=some p:=by exact rfl)(hk:Nat.blt k n=true:=by exact rfl)(hi:o.ids (inL n):=by first|(simp;done)|exact Qc2 (by simp)):LoSub ρ n lo ((k,o)::lr):=LoSub.cons h he hk hi hr
end
section
variable {E:Env}{o:Oper}{fr:Fr}{σ σ':St}{ρ:Nat->Nat}{r:Fr}{n:Nat}{lo lr:List (Nat×AObj)}{ops:Array Oper}{v:FV}
theorem zFW(h:FrSub ρ fr r:=by (repeat' first|exact FrSub.nil|refine zfc ?_|refine zfo ?_|refine zfp ?_ (hp:=by first|assumption|(simp;done)))):FrSub ρ fr r:=h
theorem zFS(h:FrSub ρ fr r:=by (repeat' first|exact FrSub.nil|refine zfc ?_|refine zfo ?_|refine zfp ?_)):FrSub ρ fr r:=h
theorem zLO(h:LoSub ρ n lo lr:=by (repeat' first|exact LoSub.nil|refine zlc ?_|refine zld ?_ ?_|rfl)):LoSub ρ n lo lr:=h
theorem zI{k:Int}(h1:-9223372036854775808<=k:=by omega)(h2:k<=9223372036854775807:=by omega):Q7f .i64 k:=Q2p h1 h2
theorem zHP(h:AStep E o fr σ v σ')(hg:o.guard=none:=by exact rfl):HStep E ops o fr σ σ' v:=HStep.plain hg h
theorem zS{rest:List Oper}{K:Cont}{x:FV}{d:Nat}(hs:AStep E o fr σ x σ')(h:AOps E ops rest K ((d,x)::fr) σ')(hgd:o.guard=none:=by exact rfl)(hdst:o.dst=some d:=by exact rfl)(hd:Nat.ble (d+1) E.N=true:=by exact rfl):AOps E ops (o::rest) K fr σ:=AOps.step1 hgd hdst hd hs h
theorem zLD{t:TypeId}{ti:TI}{x:Operand}{j:Abs.Id}{off:Nat}{cs:List AC}{c:AC}(ho:o.op=.load t x)(hx:aEval E.Γ fr x=some (.one (.ptr j off)))(hg:σ.get j=some (.cells cs))(hc:cs[off]?=some c)(hT:TabOk E.P E.T:=by exact tabOk)(ht:Tab.get t E.T=some ti:=by exact rfl)(ha:ti.agg=false:=by exact rfl)(hs:Nat.beq ti.size 1=true:=by exact rfl):AStep E o fr σ (.one c) σ:=AStep.loadOwn hT ho ht ha hs hx hg hc
theorem zIA{t:TypeId}{ti tj:TI}{x i:Operand}{k:IntKind}{m:Int}{s:Nat}{es:List (List AC)}{e:List AC}(ho:o.op=.indexAddr t x i)(hx:aEval E.Γ fr x=some (.one (.sl s es)))(hi':aEval E.Γ fr i=some (.one (.lit (.int k m))))(h0:0<=m)(he:es[m.toNat]?=some e)(hT:TabOk E.P E.T:=by exact tabOk)(ht:Tab.get t E.T=some ti:=by exact rfl)(hk:Nat.beq ti.kind 2=true:=by exact rfl)(hj:Tab.get ti.elem E.T=some tj:=by exact rfl)(hs:Nat.beq tj.size s=true:=by exact rfl):AStep E o fr σ (.one (.box e)) σ:=AStep.indexAddr hT ho ht hk hj hs hx (.inl rfl) hi' h0 he
end
structure ZW (q:Prop):Prop where
 out:q
theorem zA{p q:Prop}(h:q)(f:ZW q->p:=by
  intro h
  repeat first|((with_reducible refine oj ?_);refine zau ?_)|(with_reducible refine zst ?_)|((with_reducible refine Q0g ?_ ?_);rfl)|(with_reducible refine ok ?_;first|refine ACode.condT rfl ?_|refine ACode.condF rfl ?_)
  exact h.out):p:=f ⟨h⟩
theorem zM{p q:Prop}(h:q)(f:ZW q->p:=by
  intro h
  repeat first|((with_reducible refine oj ?_);refine zau ?_)|(with_reducible refine zst ?_)|((with_reducible refine Q0g ?_ ?_);rfl)|(with_reducible refine ok ?_;first|refine ACode.condT rfl ?_|refine ACode.condF rfl ?_)|((with_reducible refine oj ?_);first|refine zad ?_|refine zsu ?_|refine zne ?_|refine zeq ?_|refine zmx ?_|refine zmn ?_|refine AOps.unG rfl rfl rfl ?_)
  exact h.out):p:=f ⟨h⟩
theorem zN{p q:Prop}(h:q)(f:ZW q->p:=by
  intro h
  first|((with_reducible refine oj ?_);refine zau ?_)|(with_reducible refine zst ?_)|((with_reducible refine Q0g ?_ ?_);rfl)|(with_reducible refine ok ?_;first|refine ACode.condT rfl ?_|refine ACode.condF rfl ?_)|((with_reducible refine oj ?_);first|refine zad ?_|refine zsu ?_|refine zne ?_|refine zeq ?_|refine zmx ?_|refine zmn ?_|refine AOps.unG rfl rfl rfl ?_)
  repeat first|((with_reducible refine oj ?_);refine zau ?_)|(with_reducible refine zst ?_)|((with_reducible refine Q0g ?_ ?_);rfl)|(with_reducible refine ok ?_;first|refine ACode.condT rfl ?_|refine ACode.condF rfl ?_)|((with_reducible refine oj ?_);first|refine zad ?_|refine zsu ?_|refine zne ?_|refine zeq ?_|refine zmx ?_|refine zmn ?_|refine AOps.unG rfl rfl rfl ?_)
  exact h.out):p:=f ⟨h⟩
theorem zO{p q:Prop}(h:q)(f:ZW q->p:=by
  intro h
  first|((with_reducible refine oj ?_);refine zau ?_)|(with_reducible refine zst ?_)|((with_reducible refine Q0g ?_ ?_);rfl)|(with_reducible refine ok ?_;first|refine ACode.condT rfl ?_|refine ACode.condF rfl ?_)|((with_reducible refine oj ?_);first|refine zad ?_|refine zsu ?_|refine zne ?_|refine zeq ?_|refine zmx ?_|refine zmn ?_|refine AOps.unG rfl rfl rfl ?_)
  exact h.out):p:=f ⟨h⟩
end Go.Proofs.YtdpdlkgecmgokaaGreatDoor
namespace Go.Proofs.YtdpdlkgecmgokaaGreatDoor
open Go Go.Abs Go.CoreX
abbrev int (n:Int):AC:=.lit (.int .i64 n)
def cI (n:Int):List AC:=[int n]
def cAlt (a:Alt):List AC:=[int a.tag,.sl 1 (a.binds.map cI)]
def cEx (x:Ex):List AC:=[int x.op,int x.n,.sl 1 (x.binds.map cI),.sl 1 (x.kids.map cI),.sl 2 (x.alts.map cAlt)]
mutual
def encTr:Tr->List AC
 |.mk o n b k a=>[int o,int n,.sl 1 (b.map cI),.sl 1 (Q0l k),.sl 2 (a.map cAlt)]
def Q0l:List Tr->List (List AC)
 |[]=>[]
 |t::ts=>[.box (encTr t)]::Q0l ts
end
def cTr (t:Tr):List AC:=[int t.op,int t.n,.sl 1 (t.binds.map cI),.sl 1 (Q0l t.kids),.sl 2 (t.alts.map cAlt)]
def cB (t:Tr):List AC:=[.box (cTr t)]
theorem Qir(t:Tr):encTr t=cTr t:=by cases t;simp[encTr,cTr]
theorem Q0b:∀l:List Tr,Q0l l=l.map cB
 |[]=>rfl
 |t::ts=>by simp[Q0l,Q0b ts,Qir,cB]
theorem Q0n{l:List Tr}{i:Nat}{t:Tr}(h:l[i]?=some t):(Q0l l)[i]?=some (cB t):=by rw[Q0b];simp[h]
attribute [simp] idsL idsS AC.ids FV.ids idsF Fr.ids inL isO AObj.ids
theorem Q1q{α:Type}{p:Abs.Id->Prop}{f:α->List AC}(h:∀x,idsL p (f x)):∀l:List α,idsS p (l.map f)
 |[]=>by simp
 |x::l=>by simp[h x,Q1q h l]
@[simp] theorem ids_cI (p:Abs.Id->Prop) (n:Int):idsL p (cI n):=by simp[cI]
@[simp] theorem Q9k (p:Abs.Id->Prop) (l:List Int):idsS p (l.map cI):=Q1q (ids_cI p) l
@[simp] theorem Qii (p:Abs.Id->Prop) (a:Alt):idsL p (cAlt a):=by simp[cAlt]
@[simp] theorem Qar (p:Abs.Id->Prop) (l:List Alt):idsS p (l.map cAlt):=Q1q (Qii p) l
@[simp] theorem Qgh (p:Abs.Id->Prop) (x:Ex):idsL p (cEx x):=by simp[cEx]
@[simp] theorem ids_cExs (p:Abs.Id->Prop) (l:List Ex):idsS p (l.map cEx):=Q1q (Qgh p) l
mutual
theorem Qgd(p:Abs.Id->Prop):∀t:Tr,idsL p (encTr t)
 |.mk o n b k a=>by simp[encTr,Q5v p k]
theorem Q5v(p:Abs.Id->Prop):∀l:List Tr,idsS p (Q0l l)
 |[]=>by simp[Q0l]
 |t::ts=>by simp[Q0l,Qgd p t,Q5v p ts]
end
attribute [simp] Q5v
@[simp] theorem ids_cTr (p:Abs.Id->Prop) (t:Tr):idsL p (cTr t):=by simp[cTr]
@[simp] theorem ids_cB (p:Abs.Id->Prop) (t:Tr):idsL p (cB t):=by simp[cB]
@[simp] theorem Qgi (p:Abs.Id->Prop) (l:List Tr):idsS p (l.map cB):=Q1q (ids_cB p) l
@[simp] theorem len_encTrs (l:List Tr):(Q0l l).length=l.length:=by rw[Q0b];simp
@[simp] theorem Q5n (ρ:Nat->Nat) (l:List Int):renS ρ (l.map cI)=l.map cI:=Q1d ρ _ (Q9k _ l)
@[simp] theorem Q52 (ρ:Nat->Nat) (l:List Alt):renS ρ (l.map cAlt)=l.map cAlt:=Q1d ρ _ (Qar _ l)
@[simp] theorem Q96 (ρ:Nat->Nat) (l:List Tr):renS ρ (l.map cB)=l.map cB:=Q1d ρ _ (Qgi _ l)
@[simp] theorem ren_cEx (ρ:Nat->Nat) (x:Ex):renL ρ (cEx x)=cEx x:=Q1y ρ _ (Qgh _ x)
theorem Q04{α:Type}{f:α->List AC}{l:List α}{i:Nat}{a:α}(h:l[i]?=some a):(l.map f)[i]?=some (f a):=by simp[h]
theorem Q01{α:Type}{l:List α}{i:Nat}(h:i < l.length):∃a,l[i]?=some a:=⟨l[i],List.getElem?_eq_getElem h⟩
def arC:List AC:=(Q43.map fun n=>Value.int .i64 n).map .lit
def orC:List AC:=[3,4,6,7,5,1,2,11,8,9].map fun n=>.lit (.int .i64 n)
def Γc:List (Nat×List AC):=[(0,arC)]
theorem hΓc:∀g cs,(g,cs)∈Γc->idsL isO cs:=fun g cs h=>by
 simp[Γc]at h
 first
  |(obtain⟨rfl,rfl⟩:=h;simp[arC,Q43];done)
  |(rcases h with ⟨rfl,rfl⟩|⟨rfl,rfl⟩ <;> simp[arC,orC,Q43])
theorem follows:Tryz.prog.follows .mixedOrders=true:=by kernel_rfl
structure okX (x:Ex):Prop where
 b:x.binds.length<=1048576
 k:x.kids.length<=1048576
 a:x.alts.length<=1048576
 ab:∀a∈x.alts,a.binds.length<=1048576
structure okE (e:List Ex):Prop where
 l:e.length<=1048576
 x:∀x∈e,okX x
variable {Γ:List (Nat×List AC)}
def idxOf {α:Type}(p:α->Bool):List α->Int
 |[]=>-1
 |a::l=>if p a=true then 0 else if idxOf p l < 0 then -1 else idxOf p l+1
theorem Qdi{α:Type}{p:α->Bool}:∀l:List α,-1<=idxOf p l
 |[]=>by simp[idxOf]
 |a::l=>by
  have:=Qdi (p:=p) l
  simp only[idxOf];split
  ·omega
  ·split <;> omega
theorem Q4b{α:Type}{p:α->Bool}:∀{l:List α},(∀x∈l,p x=false)->idxOf p l=-1
 |[],_=>rfl
 |a::l,h=>by simp only[idxOf,h a (by simp),Q4b (l:=l) (fun x hx=>h x (by simp[hx]))];simp
theorem Q6m{α:Type}{p:α->Bool}:∀{l:List α}{j:Nat}{a:α},(∀x∈l.take j,p x=false)->l[j]?=some a->p a=true->idxOf p l=j
 |[],j,a,_,h,_=>by simp at h
 |x::l,0,a,_,h,hp=>by simp at h;subst h;simp[idxOf,hp]
 |x::l,j+1,a,h0,h,hp=>by
  have:=Q6m (l:=l) (j:=j) (fun y hy=>h0 y (by simp[hy])) (by simpa using h) hp
  simp only[idxOf,h0 x (by simp),this]
  rw[if_neg (by simp),if_neg (by omega)];simp
theorem Qap{α:Type}{p:α->Bool}:∀l:List α,0<=idxOf p l↔l.any p=true
 | [] => by simp [idxOf]
 |a::l=>by
  have ih:=Qap (p:=p) l
  have hge:=Qdi (p:=p) l
  simp only[idxOf,List.any_cons,Bool.or_eq_true,←ih]
  by_cases hp:p a=true
  ·simp[hp]
  ·rw[if_neg hp]
   by_cases h:idxOf p l < 0
   ·rw[if_pos h]
    exact⟨fun h2=>by omega,fun h2=>h2.elim (fun h3=>absurd h3 hp) (fun h3=>by omega)⟩
   ·rw[if_neg h]
    exact⟨fun h2=>.inr (by omega),fun h2=>by omega⟩
theorem Q7g{α:Type}{p:α->Bool}(l:List α):decide (idxOf p l ≥ 0)=l.any p:=by
 rw[Bool.eq_iff_iff,decide_eq_true_iff]
 exact Qap l

theorem Q0t{α:Type}{p:α->Prop}{l:List α}{j:Nat}{a:α}(h:∀x∈l.take j,p x)(ha:l[j]?=some a)(hp:p a):∀x∈l.take (j+1),p x:=by
 intro x hx
 rw[List.take_add_one,ha]at hx
 rcases List.mem_append.1 hx with hx|hx
 ·exact h x hx
 ·simp at hx;subst hx;exact hp
theorem Qau{caps:List AC}(h:idsL isO caps):idsF isO (caps.map .one):=by
 induction caps with
 |nil=>trivial
 |cons c l ih=>exact⟨h.1,ih h.2⟩
theorem Q4g(n low high:Int):APure Tryz.prog Γ 76 [.one (int n),.one (int low),.one (int high)] (.one (.lit (.bool (between n low high)))):=by
 intro ou
 refine AFn.walk 15 tabOk Tryz.func76 rfl (by kernel_rfl) rfl rfl fun hou=>?_
 repeat' first|((with_reducible refine oj ?_);refine zau ?_)|(with_reducible refine zst ?_)|((with_reducible refine Q0g ?_ ?_);rfl)|(with_reducible refine ok ?_;first|refine ACode.condT rfl ?_|refine ACode.condF rfl ?_)|(with_reducible refine oj ?_;refine AOps.splitS rfl rfl rfl rfl (fun hb=>?_) (fun hb=>?_))|(with_reducible refine ok ?_;refine ACode.cond rfl (fun hb=>?_) (fun hb=>?_))
 all_goals exact APure.fin rfl (WkF.ofEq (by simp[between];first|(simp_all;done)|(simp_all;omega))) (by simp) hou rfl
theorem Qca(n:Int):APure Tryz.prog Γ 45 [.one (int n)] (.one (.lit (.bool (Q5b n)))):=by
 intro ou
 refine AFn.walk 13 tabOk Tryz.func45 rfl (by kernel_rfl) rfl rfl fun hou=>?_
 repeat' first|((with_reducible refine oj ?_);refine zau ?_)|(with_reducible refine zst ?_)|((with_reducible refine Q0g ?_ ?_);rfl)|(with_reducible refine ok ?_;first|refine ACode.condT rfl ?_|refine ACode.condF rfl ?_)|(with_reducible refine oj ?_;refine AOps.splitS rfl rfl rfl rfl (fun hb=>?_) (fun hb=>?_))|(with_reducible refine ok ?_;refine ACode.cond rfl (fun hb=>?_) (fun hb=>?_))
 all_goals exact APure.fin rfl (WkF.ofEq (by simp[Q5b];simp_all)) (by simp) hou rfl
theorem Qcc(n:Int):APure Tryz.prog Γ 44 [.one (int n)] (.one (.lit (.bool (Q6r n)))):=by
 intro ou
 refine AFn.walk 17 tabOk Tryz.func44 rfl (by kernel_rfl) rfl rfl fun hou=>?_
 repeat' first|((with_reducible refine oj ?_);refine zau ?_)|(with_reducible refine zst ?_)|((with_reducible refine Q0g ?_ ?_);rfl)|(with_reducible refine ok ?_;first|refine ACode.condT rfl ?_|refine ACode.condF rfl ?_)|(with_reducible refine oj ?_;refine AOps.splitS rfl rfl rfl rfl (fun hb=>?_) (fun hb=>?_))|(with_reducible refine ok ?_;refine ACode.cond rfl (fun hb=>?_) (fun hb=>?_))
 all_goals exact APure.fin rfl (WkF.ofEq (by simp[Q6r];simp_all)) (by simp) hou rfl
theorem Qj8(hΓ:∀g cs,(g,cs)∈Γ->idsL isO cs)(xs:List Int)(hx:xs.length<=1048576)(n:Int):
  APure Tryz.prog Γ 68 [.one (.sl 1 (xs.map cI)),.one (int n)] (.one (int (idxOf (n==·) xs))):=by
 intro ou
 refine AFn.walk 19 tabOk Tryz.func68 rfl (by kernel_rfl) rfl rfl fun hou=>?_
 refine zA ?_
 refine ACode.loopR hΓ (α:=Nat) (fun j=>[(8,.one (int j)),(7,.one (int (xs.map cI).length)),(1,.one (int n)),(0,.one (.sl 1 (xs.map cI)))])
  (fun j => ⟨0, [], ou⟩) (fun m j => j <= xs.length /\ (∀ x ∈ xs.take j, (n == x) = false) /\ m = xs.length - j) (a0 := 0) (ρ := id) ⟨by omega, by simp, rfl⟩ (LessR.of rfl zFS (by simp) zLO rfl rfl hou) fun m j hj => ?_
 obtain⟨hjl,hno,rfl⟩:=hj
 refine zA ?_
 refine ACode.cond rfl (fun hb2=>?_) (fun hb2=>?_)
 ·have hlt:j < xs.length:=by simpa using hb2
  obtain⟨a,ha⟩:=Q01 hlt
  refine zA ?_
  refine zS (zIA rfl rfl rfl (by omega) (by simpa using Q04 ha)) ?_
  refine zA ?_
  refine ACode.cond rfl (fun hb3=>?_) (fun hb3=>?_)
  ·refine zA ?_
   refine APure.fin rfl (WkF.ofEq ?_) (by simp) hou rfl
   rw[Q6m hno ha hb3]
  ·refine zA ?_
   refine zS (AStep.arith rfl rfl rfl (.inl ⟨rfl,rfl⟩) zI) ?_
   refine zA ?_
   exact cInv ⟨xs.length - (j+1),j+1,id,by omega,⟨by omega,Q0t hno ha hb3,rfl⟩,LessR.of rfl zFS (by simp) zLO rfl rfl hou⟩
 ·have hlt:j=xs.length:=by simp at hb2;omega
  subst hlt
  rw[List.take_length]at hno
  refine zA ?_
  refine APure.fin rfl (WkF.ofEq ?_) (by simp) hou rfl
  rw[Q4b hno]
theorem Q4v(hΓ:∀g cs,(g,cs)∈Γ->idsL isO cs)(xs:List Int)(hx:xs.length<=1048576)(n:Int):
  APure Tryz.prog Γ 50 [.one (.sl 1 (xs.map cI)),.one (int n)] (.one (.lit (.bool (xs.contains n)))):=by
 intro ou
 refine AFn.walk 9 tabOk Tryz.func50 rfl (by kernel_rfl) rfl rfl fun hou=>?_
 refine zA ?_
 refine zca hΓ (Qj8 hΓ xs hx n) hou ?_
 refine zA ?_
 refine APure.fin rfl (WkF.ofEq ?_) (by simp) hou rfl
 rw[Q7g,List.any_beq]

theorem Qf0(hΓ:∀g cs,(g,cs)∈Γ->idsL isO cs)(gf:Nat)(caps:List AC)(hcap:idsL isO caps)(p:Alt->Bool)(xs:List Alt)(hx:xs.length<=1048576)(hf:∀a∈xs,APure Tryz.prog Γ gf (.agg (cAlt a)::caps.map .one) (.one (.lit (.bool (p a))))):
  APure Tryz.prog Γ 108 [.one (.sl 2 (xs.map cAlt)),.one (.fn (.func gf) [] caps)] (.one (int (idxOf p xs))):=by
 intro ou
 refine AFn.walk 19 tabOk Tryz.func108 rfl (by kernel_rfl) rfl rfl fun hou=>?_
 refine zA ?_
 refine ACode.loopR hΓ (α:=Nat) (fun j=>[(8,.one (int j)),(7,.one (int (xs.map cAlt).length)),(1,.one (.fn (.func gf) [] caps)),(0,.one (.sl 2 (xs.map cAlt)))])
  (fun j=>⟨0,[],ou⟩) (fun m j=>j<=xs.length/\(∀x∈xs.take j,p x=false)/\m=xs.length - j) (a0:=0) (ρ:=id) ⟨by omega,by simp,rfl⟩ (LessR.of rfl ?_ ?_ zLO rfl rfl hou) fun m j hj=>?_
 ·refine .cons rfl (.ofEq rfl) (.cons rfl (.ofEq rfl) (.consP rfl (.ofEq rfl) (by simp[hcap]) (.consP rfl (.ofEq rfl) (by simp) .nil)))
 ·simp[Q0q Q3t caps hcap]
 obtain⟨hjl,hno,rfl⟩:=hj
 refine zA ?_
 refine ACode.cond rfl (fun hb2=>?_) (fun hb2=>?_)
 ·have hlt:j < xs.length:=by simpa using hb2
  obtain⟨a,ha⟩:=Q01 hlt
  have hca:=hf a (List.mem_of_getElem? ha)
  refine zA ?_
  refine zS (zIA rfl rfl rfl (by omega) (by simpa using Q04 ha)) ?_
  refine zA ?_
  refine AOps.callC hΓ hca rfl rfl rfl rfl rfl rfl rfl hou (by simp[Qau hcap]) ?_
  refine zA ?_
  refine ACode.cond rfl (fun hb3=>?_) (fun hb3=>?_)
  ·refine zA ?_
   refine APure.fin rfl (WkF.ofEq ?_) (by simp) hou rfl
   rw[Q6m hno ha hb3]
  ·refine zA ?_
   refine zS (AStep.arith rfl rfl rfl (.inl ⟨rfl,rfl⟩) zI) ?_
   refine zA ?_
   refine cInv ⟨xs.length - (j+1),j+1,id,by omega,⟨by omega,Q0t hno ha hb3,rfl⟩,LessR.of rfl ?_ ?_ zLO rfl rfl hou⟩
   ·refine .cons rfl (.ofEq rfl) (.cons rfl (.ofEq rfl) (.consP rfl (.ofEq rfl) (by simp[hcap]) (.consP rfl (.ofEq rfl) (by simp) .nil)))
   ·simp[Q0q Q3t caps hcap]
 ·have hlt:j=xs.length:=by simp at hb2;omega
  subst hlt
  rw[List.take_length]at hno
  refine zA ?_
  refine APure.fin rfl (WkF.ofEq ?_) (by simp) hou rfl
  rw[Q4b hno]
theorem Qhi(hΓ:∀g cs,(g,cs)∈Γ->idsL isO cs)(gf:Nat)(caps:List AC)(hcap:idsL isO caps)(p:Alt->Bool)(xs:List Alt)(hx:xs.length<=1048576)(hf:∀a∈xs,APure Tryz.prog Γ gf (.agg (cAlt a)::caps.map .one) (.one (.lit (.bool (p a))))):
  APure Tryz.prog Γ 89 [.one (.sl 2 (xs.map cAlt)),.one (.fn (.func gf) [] caps)] (.one (.lit (.bool (xs.any p)))):=by
 intro ou
 refine AFn.walk 9 tabOk Tryz.func89 rfl (by kernel_rfl) rfl rfl fun hou=>?_
 refine zA ?_
 refine AOps.callC hΓ (Qf0 hΓ gf caps hcap p xs hx hf) rfl rfl rfl rfl rfl rfl rfl hou (by simp[hcap]) ?_
 refine zA ?_
 refine APure.fin rfl (WkF.ofEq ?_) (by simp) hou rfl
 rw[←Q7g]

theorem Qj1(b a:Alt):APure Tryz.prog Γ 90 [.agg (cAlt b),.one (.box (cAlt a))] (.one (.lit (.bool (b.tag==a.tag)))):=by
 intro ou
 refine AFn.walk 9 tabOk Tryz.func90 rfl (by kernel_rfl) rfl rfl fun hou=>?_
 refine zA ?_
 exact APure.fin rfl (WkF.ofEq rfl) (by simp) hou rfl
theorem Qj0(e:List Ex)(k:Int)(x:Ex)(h0:0<=k)(hx:e[k.toNat]?=some x):APure Tryz.prog Γ 47 [.one (int k),.one (.box [.sl 5 (e.map cEx)])] (.agg (cEx x)):=by
 intro ou
 refine AFn.walk 8 tabOk Tryz.func47 rfl (by kernel_rfl) rfl rfl fun hou=>?_
 refine zA ?_
 refine zS (zIA rfl rfl rfl h0 (Q04 hx)) ?_
 refine zA ?_
 exact APure.fin rfl (WkF.ofEq rfl) (by simp) hou rfl
set_option maxHeartbeats 400000 in
theorem alts_ok(hΓ:∀g cs,(g,cs)∈Γ->idsL isO cs)(x:Ex)(hx:okX x):APure Tryz.prog Γ 75 [.agg (cEx x)] (.one (.lit (.bool (Q5j x)))):=by
 have hxa:=hx.a
 have hxb:=hx.ab
 have hxk:=hx.k
 intro ou
 refine AFn.walk 94 tabOk Tryz.func75 rfl (by kernel_rfl) rfl rfl fun hou=>?_
 refine zA ?_
 refine ACode.loopR hΓ (α:=Nat) (fun j=>[(9,.one (int j)),(8,.one (int (x.alts.map cAlt).length)),(7,.one (.sl 2 (x.alts.map cAlt))),(1,.one (.ptr (.l 0) 0))])
  (fun j => ⟨1, [(0, .cells (cEx x))], ou⟩) (fun m j => j <= x.alts.length /\ (∀ ai ∈ x.alts.zipIdx.take j, Q3k x ai.2 ai.1 = false) /\ m = x.alts.length - j) (a0 := 0) (ρ := id) ⟨by omega, by simp, rfl⟩ (LessR.of rfl zFS (by simp) zLO rfl rfl hou) fun m j hj => ?_
 obtain⟨hjl,hno,rfl⟩:=hj
 refine zA ?_
 refine ACode.cond rfl (fun hb2=>?_) (fun hb2=>?_)
 ·have hlt:j < x.alts.length:=by simpa using hb2
  obtain⟨a,ha⟩:=Q01 hlt
  have haz:x.alts.zipIdx[j]?=some (a,j):=by simp[List.getElem?_zipIdx,ha]
  have hab:=hxb a (List.mem_of_getElem? ha)
  have bad:Q3k x j a=true->Q5j x=false:=fun h=>by
   have:x.alts.zipIdx.any (fun ai=>Q3k x ai.2 ai.1)=true:=List.any_eq_true.2 ⟨(a,j),List.mem_of_getElem? haz,h⟩
   simp[Q5j,this]
  refine zA ?_
  refine zS (zIA rfl rfl rfl (by omega) (Q04 ha)) ?_
  refine zA ?_
  refine zS (AStep.sliceTo tabOk rfl rfl rfl rfl rfl rfl (by simp;omega)) ?_
  refine AOps.freeze1 (.l 1) 4 rfl rfl ?_
  refine AOps.wk 17 rfl (y:=.one (.sl 2 ((x.alts.take j).map cAlt))) (.ofEq (by rw[List.map_take])) ?_
  refine zA ?_
  have hca:=Qhi hΓ 90 [.box (cAlt a)] (by simp) (fun b=>b.tag==a.tag) (x.alts.take j) (by simp;omega) (fun b _=>Qj1 b a)
  obtain⟨q,hq⟩:∃q,(x.alts.take j).any (fun b=>b.tag==a.tag)=q:=⟨_,rfl⟩
  rw[hq]at hca
  refine AOps.callC hΓ hca rfl rfl rfl rfl rfl rfl rfl hou (by simp[-List.map_take]) ?_
  have fin:∀fr' σ',Q3k x j a=true->aRes tab fr' σ' Tryz.f75.results.toList=some (.one (.lit (.bool false)))->σ'.ou=ou->Abs.Fin ⟨Tryz.prog,tab,Γ,94,[]⟩ Tryz.f75 (fun r' ou'=>r'=.one (.lit (.bool (Q5j x)))/\ou'=ou) fr' σ':=fun fr' σ' h1 h2 h3=>
   APure.fin h2 (WkF.ofEq (by rw[bad h1])) (by simp) hou h3
  repeat' first|refine zN ?_|(with_reducible refine oj ?_;refine AOps.splitS rfl rfl rfl rfl (fun hb=>?_) (fun hb=>?_))|(with_reducible refine ok ?_;first|refine ACode.condS rfl (fun hb=>?_) (fun hb=>?_)|refine ACode.cond rfl (fun hb=>?_) (fun hb=>?_))
  all_goals first
   |(
    refine fin _ _ ?_ rfl rfl
    subst hq
    simp_all[Q3k]
    done)
   |(
    refine cInv ⟨x.alts.length - (j+1),j+1,fun k=>if k=0 then 0 else k,by omega,⟨by omega,Q0t hno haz ?_,rfl⟩,LessR.of rfl zFS (by simp) zLO rfl rfl hou⟩
    subst hq
    simp_all[Q3k]
    done)
 ·have hlt:j=x.alts.length:=by simp at hb2;omega
  subst hlt
  have e:Q5j x=((x.kids.length:Int)==1+x.alts.length&&(x.op==7||decide (0 < x.alts.length))):=by
   have hall:x.alts.zipIdx.any (fun ai=>Q3k x ai.2 ai.1)=false:=by
    rw[List.any_eq_false]
    intro ai hai
    have:=hno ai (by rw[List.take_of_length_le (by simp)];exact hai)
    simp[this]
   simp only[Q5j,hall,Bool.not_false,Bool.true_and]
  clear hno
  repeat' first|refine zN ?_|(with_reducible refine oj ?_;refine AOps.splitS rfl rfl rfl rfl (fun hb=>?_) (fun hb=>?_))|(with_reducible refine ok ?_;first|refine ACode.condS rfl (fun hb=>?_) (fun hb=>?_)|refine ACode.cond rfl (fun hb=>?_) (fun hb=>?_))
  all_goals
   refine APure.fin rfl (WkF.ofEq ?_) (by simp) hou rfl
   rw[e]
   simp_all
theorem arC_get{n:Int}(h0:0<=n)(h1:n<=11):(arC.drop (n.toNat * ti3.size))[0]?=some (int (Q43.getD n.toNat 0)):=by
 obtain⟨m,rfl⟩:∃m:Nat,n=m:=⟨n.toNat,by omega⟩
 have hm:m < 12:=by omega
 rw[Int.toNat_natCast,show ti3.size=1 from rfl,Nat.mul_one]
 match m,hm with
 |0,_=>rfl
 |1,_=>rfl
 |2,_=>rfl
 |3,_=>rfl
 |4,_=>rfl
 |5,_=>rfl
 |6,_=>rfl
 |7,_=>rfl
 |8,_=>rfl
 |9,_=>rfl
 |10,_=>rfl
 |11,_=>rfl
def wk (x:Ex):Int×Int×Bool:=(wants x).getD (0,0,false)
set_option maxHeartbeats 1000000 in
theorem Qhq(x:Ex)(hx:okX x):APure Tryz.prog Γc 64 [.agg (cEx x)] (.one (.lit (.bool (CoreX.shape x)))):=by
 have hxa:=hx.a
 have hxb:=hx.b
 have hxk:=hx.k
 have hal:=alts_ok hΓc x hx
 intro ou
 refine AFn.walk 113 tabOk Tryz.func64 rfl (by kernel_rfl) rfl rfl fun hou=>?_
 repeat' first|(with_reducible refine oj ?_;refine AOps.auto tabOk rfl ?_)|(with_reducible first|refine o1 ?_|refine o2 ?_|refine o3 ?_|refine o4 ?_|refine o5 ?_|refine o6 ?_|refine o7 ?_|refine o8 ?_|refine oa ?_|refine ob ?_|refine oc ?_|refine od ?_|refine oe ?_|refine og ?_|refine oh ?_|refine oi ?_)|(with_reducible refine Q0g ?_ ?_;rfl)|(with_reducible refine ok ?_;first|refine ACode.condT rfl ?_|refine ACode.condF rfl ?_)|((with_reducible refine oj ?_);first|refine zad ?_|refine zsu ?_|refine zne ?_|refine zeq ?_|refine zmx ?_|refine zmn ?_|refine AOps.unG rfl rfl rfl ?_)
 refine ACode.cutR hΓc (α:=Unit) (fun _=>[(5,.one (.lit (.bool (wk x).2.2))),(4,.one (int (wk x).2.1)),(3,.one (int (wk x).1)),(1,.one (.ptr (.l 0) 0))])
  (fun _ => ⟨1, [(0, .cells (cEx x))], ou⟩) (fun _ => (wants x).isSome = true /\ ¬ (x.op = 7 ∨ x.op = 13)) ?_ fun _ ha => ?_
 ·repeat' first|refine zN ?_|(with_reducible refine oj ?_;refine AOps.splitS rfl rfl rfl rfl (fun hb=>?_) (fun hb=>?_))|(with_reducible refine ok ?_;first|refine ACode.condS rfl (fun hb=>?_) (fun hb=>?_)|refine ACode.cond rfl (fun hb=>?_) (fun hb=>?_))
  all_goals try (guard_hyp hb:(x.op==2)=true;refine ACode.drawX tabOk 4 [] follows (by kernel_rfl) rfl rfl rfl rfl .nil ?_;repeat' first|refine zN ?_|(with_reducible refine oj ?_;refine AOps.splitS rfl rfl rfl rfl (fun hb=>?_) (fun hb=>?_))|(with_reducible refine ok ?_;first|refine ACode.condS rfl (fun hb=>?_) (fun hb=>?_)|refine ACode.cond rfl (fun hb=>?_) (fun hb=>?_)))
  all_goals try (guard_hyp hb:(x.op==9)=true;refine ACode.drawX tabOk 7 [] follows (by kernel_rfl) rfl rfl rfl rfl .nil ?_;repeat' first|refine zN ?_|(with_reducible refine oj ?_;refine AOps.splitS rfl rfl rfl rfl (fun hb=>?_) (fun hb=>?_))|(with_reducible refine ok ?_;first|refine ACode.condS rfl (fun hb=>?_) (fun hb=>?_)|refine ACode.cond rfl (fun hb=>?_) (fun hb=>?_)))
  all_goals try (guard_hyp hb:(x.op==5)=true;refine ACode.drawX tabOk 9 [(3,.one (int (((x.binds.map cI).length:Int)+1))),(7,.one (int (if ((x.binds.map cI).length:Int) > 1 then ((x.binds.map cI).length:Int)else 1)))] follows (by kernel_rfl) rfl rfl rfl rfl (.step rfl (zHP (AStep.arith rfl rfl rfl (.inl ⟨rfl,rfl⟩) (Q2p (by simp;omega) (by simp;omega)))) (.step rfl (zHP (AStep.max2 (t:=3) (ty:=3) rfl rfl rfl)) .nil)) ?_;repeat' first|refine zN ?_|(with_reducible refine oj ?_;refine AOps.splitS rfl rfl rfl rfl (fun hb=>?_) (fun hb=>?_))|(with_reducible refine ok ?_;first|refine ACode.condS rfl (fun hb=>?_) (fun hb=>?_)|refine ACode.cond rfl (fun hb=>?_) (fun hb=>?_)))
  all_goals try (refine zca hΓc hal hou ?_;repeat' first|refine zN ?_|(with_reducible refine oj ?_;refine AOps.splitS rfl rfl rfl rfl (fun hb=>?_) (fun hb=>?_))|(with_reducible refine ok ?_;first|refine ACode.condS rfl (fun hb=>?_) (fun hb=>?_)|refine ACode.cond rfl (fun hb=>?_) (fun hb=>?_)))
  all_goals try (refine zca hΓc (Q4g x.n 0 11) hou ?_;repeat' first|refine zN ?_|(with_reducible refine oj ?_;refine AOps.splitS rfl rfl rfl rfl (fun hb=>?_) (fun hb=>?_))|(with_reducible refine ok ?_;first|refine ACode.condS rfl (fun hb=>?_) (fun hb=>?_)|refine ACode.cond rfl (fun hb=>?_) (fun hb=>?_)))
  all_goals try (refine zS (AStep.indexArr tabOk rfl rfl rfl rfl rfl rfl (by simp_all[between]) (by simp_all[between];show x.n < 12;omega)) ?_;refine zS (AStep.loadBox tabOk rfl rfl rfl rfl rfl (arC_get (by simp_all[between]) (by simp_all[between]))) ?_;repeat' first|refine zN ?_|(with_reducible refine oj ?_;refine AOps.splitS rfl rfl rfl rfl (fun hb=>?_) (fun hb=>?_))|(with_reducible refine ok ?_;first|refine ACode.condS rfl (fun hb=>?_) (fun hb=>?_)|refine ACode.cond rfl (fun hb=>?_) (fun hb=>?_)))
  all_goals first
   |(refine cInv ⟨(),id,⟨?_,?_⟩,LessR.of rfl (FrSub.cons rfl (.ofEq ?_) (FrSub.cons rfl (.ofEq ?_) (FrSub.cons rfl (.ofEq ?_) (FrSub.cons rfl (.ofEq rfl) .nil)))) (by simp) zLO rfl rfl hou⟩ <;> simp_all[wants,wk,FV.ren,AC.ren] <;> done)
   |(
    refine APure.fin rfl (WkF.ofEq ?_) (by simp) hou rfl
    simp_all[CoreX.shape,wants]
    done)
 ·obtain⟨hw0,hn⟩:=ha
  have hw:wants x=some (wk x):=by
   unfold wk
   cases h:wants x with
   |none=>rw[h]at hw0;cases hw0
   |some v=>rfl
  generalize wk x=kbu at hw
  obtain⟨k,b,u⟩:=kbu
  have e:CoreX.shape x=((x.kids.length:Int)==k&&(x.binds.length:Int)==b&&x.alts.length==0&&(u||x.n==0)):=by
   unfold CoreX.shape;rw[if_neg hn,hw]
  repeat' first|refine zN ?_|(with_reducible refine oj ?_;refine AOps.splitS rfl rfl rfl rfl (fun hb=>?_) (fun hb=>?_))|(with_reducible refine ok ?_;first|refine ACode.condS rfl (fun hb=>?_) (fun hb=>?_)|refine ACode.cond rfl (fun hb=>?_) (fun hb=>?_))
  all_goals
   refine APure.fin rfl (WkF.ofEq ?_) (by simp) hou rfl
   rw[e]
   simp_all
def Q2j (x:Ex)(j:Nat):Int:=(x.alts.take j).foldl (fun f a=>if (a.binds.length:Int) > f then a.binds.length else f) x.binds.length
theorem Q9n{x:Ex}{j:Nat}{a:Alt}(h:x.alts[j]?=some a):Q2j x (j+1)=if (a.binds.length:Int) > Q2j x j then (a.binds.length:Int)else Q2j x j:=by
 simp[Q2j,List.take_add_one,h,List.foldl_append]
theorem Q7t{α:Type}{p:α->Bool}{l:List α}{j:Nat}{a:α}(h:l[j]?=some a)(hp:p a=false):l.all p=false:=by
 rw[List.all_eq_false]
 exact⟨a,List.mem_of_getElem? h,by simp[hp]⟩
theorem Q9w{α:Type}{p:α->Bool}{l:List α}(h:∀x∈l.take l.length,p x=true):l.all p=true:=by
 rw[List.take_length]at h
 exact List.all_eq_true.2 h
set_option maxHeartbeats 1000000 in
theorem Qfn(hΓ:∀g cs,(g,cs)∈Γ->idsL isO cs)(x:Ex)(hx:okX x):APure Tryz.prog Γ 65 [.agg (cEx x)] (.one (int (ranges x))):=by
 have hxa:=hx.a
 have hxb:=hx.b
 have hxk:=hx.k
 have hab:=hx.ab
 intro ou
 refine AFn.walk 124 tabOk Tryz.func65 rfl (by kernel_rfl) rfl rfl fun hou=>?_
 repeat' first|(with_reducible refine oj ?_;refine AOps.auto tabOk rfl ?_)|(with_reducible first|refine o1 ?_|refine o2 ?_|refine o3 ?_|refine o4 ?_|refine o5 ?_|refine o6 ?_|refine o7 ?_|refine o8 ?_|refine oa ?_|refine ob ?_|refine oc ?_|refine od ?_|refine oe ?_|refine og ?_|refine oh ?_|refine oi ?_)|(with_reducible refine Q0g ?_ ?_;rfl)|(with_reducible refine ok ?_;first|refine ACode.condT rfl ?_|refine ACode.condF rfl ?_)|((with_reducible refine oj ?_);first|refine zad ?_|refine zsu ?_|refine zne ?_|refine zeq ?_|refine zmx ?_|refine zmn ?_|refine AOps.unG rfl rfl rfl ?_)
 refine ACode.cutR hΓ (α:=Unit) (fun _=>[(4,.one (int (lowN x.op))),(3,.one (int (highN x.op))),(1,.one (.ptr (.l 0) 0))])
  (fun _ => ⟨1, [(0, .cells (cEx x))], ou⟩) (fun _ => True) ?_ fun _ _ => ?_
 ·repeat' first|refine zN ?_|(with_reducible refine oj ?_;refine AOps.splitS rfl rfl rfl rfl (fun hb=>?_) (fun hb=>?_))|(with_reducible refine ok ?_;first|refine ACode.condS rfl (fun hb=>?_) (fun hb=>?_)|refine ACode.cond rfl (fun hb=>?_) (fun hb=>?_))
  all_goals
   refine cInv ⟨(),id,trivial,LessR.of rfl (FrSub.cons rfl (.ofEq ?_) (FrSub.cons rfl (.ofEq ?_) (FrSub.cons rfl (.ofEq rfl) .nil))) (by simp) zLO rfl rfl hou⟩
   all_goals simp_all[lowN,highN,FV.ren,AC.ren]
 refine zA ?_
 refine zca hΓ (Q4g x.n (lowN x.op) (highN x.op)) hou ?_
 refine zA ?_
 refine ACode.cond rfl (fun hb=>?_) (fun hb=>?_)
 ·refine zA ?_
  refine APure.fin rfl (WkF.ofEq ?_) (by simp) hou rfl
  simp_all[ranges]
 have hn:ranges x=if x.binds.all Q25=false then 4 else if x.alts.all (Q2k x.op)=false then 4 else if ((decide (fields x > (if x.op=2 then 6 else 16))||((x.op==6||x.op==15)&&decide (16 < (x.kids.length:Int))))||(x.op==3&&decide (7 < (x.kids.length:Int))))||(x.op==14&&decide (6 < (x.kids.length:Int)))then 2 else 0:=by
  unfold ranges;rw[if_neg (by simp_all)]
 clear hb
 refine zA ?_
 refine ACode.loopR hΓ (α:=Nat) (fun j=>[(35,.one (int j)),(34,.one (int (x.binds.map cI).length)),(33,.one (.sl 1 (x.binds.map cI))),(5,.one (int (x.binds.map cI).length)),(1,.one (.ptr (.l 0) 0))])
  (fun j=>⟨1,[(0,.cells (cEx x))],ou⟩) (fun m j=>j<=x.binds.length/\(∀b∈x.binds.take j,Q25 b=true)/\m=x.binds.length - j) (a0:=0) (ρ:=id) ⟨by omega,by simp,rfl⟩ (LessR.of rfl zFS (by simp) zLO rfl rfl hou) fun m j hj=>?_
 obtain⟨hjl,hno,rfl⟩:=hj
 refine zA ?_
 refine ACode.cond rfl (fun hb2=>?_) (fun hb2=>?_)
 ·have hlt:j < x.binds.length:=by simpa using hb2
  obtain⟨b,hbj⟩:=Q01 hlt
  refine zA ?_
  refine zS (zIA rfl rfl rfl (by omega) (Q04 hbj)) ?_
  refine zA ?_
  refine zca hΓ (Q4g b 0 1048575) hou ?_
  refine zA ?_
  refine ACode.cond rfl (fun hb=>?_) (fun hb=>?_)
  ·refine zA ?_
   refine APure.fin rfl (WkF.ofEq ?_) (by simp) hou rfl
   rw[hn,if_pos (Q7t hbj (by simpa[Q25]using hb))]
  ·refine zM ?_
   exact cInv ⟨x.binds.length - (j+1),j+1,id,by omega,⟨by omega,Q0t hno hbj (by simpa[Q25]using hb),rfl⟩,LessR.of rfl zFS (by simp) zLO rfl rfl hou⟩
 have hlt:j=x.binds.length:=by simp at hb2;omega
 subst hlt
 rw[if_neg (by simp[Q9w hno])]at hn
 clear hno hb2 hjl
 refine zA ?_
 refine ACode.loopR hΓ (α:=Nat) (fun j=>[(46,.one (int j)),(45,.one (int (x.alts.map cAlt).length)),(44,.one (.sl 2 (x.alts.map cAlt))),(5,.one (int (Q2j x j))),(1,.one (.ptr (.l 0) 0))])
  (fun j=>⟨1,[(0,.cells (cEx x))],ou⟩) (fun m j=>j<=x.alts.length/\(∀b∈x.alts.take j,Q2k x.op b=true)/\m=x.alts.length - j) (a0:=0) (ρ:=id) ⟨by omega,by simp,rfl⟩ (LessR.of rfl (FrSub.cons rfl (.ofEq rfl) (FrSub.cons rfl (.ofEq rfl) (FrSub.consP rfl (.ofEq rfl) (by simp) (FrSub.cons rfl (.ofEq (by simp[Q2j,FV.ren,AC.ren])) (FrSub.cons rfl (.ofEq rfl) .nil))))) (by simp) zLO rfl rfl hou) fun m j hj=>?_
 obtain⟨hjl,hno,rfl⟩:=hj
 refine zA ?_
 refine ACode.cond rfl (fun hb2=>?_) (fun hb2=>?_)
 ·have hlt:j < x.alts.length:=by simpa using hb2
  obtain⟨a,ha⟩:=Q01 hlt
  have hal:=hab a (List.mem_of_getElem? ha)
  refine zA ?_
  refine zS (zIA rfl rfl rfl (by omega) (Q04 ha)) ?_
  have bad:Q2k x.op a=false->ranges x=4:=fun h=>by rw[hn,if_pos (Q7t ha h)]
  repeat' first|refine zN ?_|(with_reducible refine oj ?_;refine AOps.splitS rfl rfl rfl rfl (fun hb=>?_) (fun hb=>?_))|(with_reducible refine ok ?_;first|refine ACode.condS rfl (fun hb=>?_) (fun hb=>?_)|refine ACode.cond rfl (fun hb=>?_) (fun hb=>?_))
  all_goals try (refine APure.fin rfl (WkF.ofEq ?_) (by simp) hou rfl;rw[bad (by simp_all[Q2k])];done)
  all_goals
   have hr:Q2k x.op a=a.binds.all Q25:=by
    have:((decide (255 < a.tag)&&x.op==7)||decide (1048576<=a.tag))=false:=by first|(simp_all;done)|(simp_all;intro h;omega)
    unfold Q2k
    rw[this];simp
   rw[hr]at bad
   refine ACode.loopR hΓ (α:=Nat) (fun i=>[(66,.one (int i)),(65,.one (int (a.binds.map cI).length)),(64,.one (.sl 1 (a.binds.map cI))),(9,.one (.ptr (.l 1) 0)),(46,.one (int j)),(45,.one (int (x.alts.map cAlt).length)),(44,.one (.sl 2 (x.alts.map cAlt))),(5,.one (int (Q2j x j))),(1,.one (.ptr (.l 0) 0))])
    (fun i=>⟨2,[(1,.cells (cAlt a)),(0,.cells (cEx x))],ou⟩) (fun m i=>i<=a.binds.length/\(∀b∈a.binds.take i,Q25 b=true)/\m=a.binds.length - i) (a0:=0) (ρ:=id) ⟨by omega,by simp,rfl⟩ (LessR.of rfl zFS (by simp) zLO rfl rfl hou) fun m i hi=>?_
   obtain⟨hil,hno2,rfl⟩:=hi
   refine zA ?_
   refine ACode.cond rfl (fun hb3=>?_) (fun hb3=>?_)
   ·have hlt2:i < a.binds.length:=by simpa using hb3
    obtain⟨b,hbj⟩:=Q01 hlt2
    refine zA ?_
    refine zS (zIA rfl rfl rfl (by omega) (Q04 hbj)) ?_
    refine zA ?_
    refine zca hΓ (Q4g b 0 1048575) hou ?_
    refine zA ?_
    refine ACode.cond rfl (fun hb4=>?_) (fun hb4=>?_)
    ·refine zA ?_
     refine APure.fin rfl (WkF.ofEq ?_) (by simp) hou rfl
     rw[bad (Q7t hbj (by simpa[Q25]using hb4))]
    ·refine zM ?_
     exact cInv ⟨a.binds.length - (i+1),i+1,id,by omega,⟨by omega,Q0t hno2 hbj (by simpa[Q25]using hb4),rfl⟩,LessR.of rfl zFS (by simp) zLO rfl rfl hou⟩
   ·have hlt2:i=a.binds.length:=by simp at hb3;omega
    subst hlt2
    refine zM ?_
    refine cInv ⟨x.alts.length - (j+1),j+1,id,by omega,⟨by omega,Q0t hno ha (by rw[hr];exact Q9w hno2),rfl⟩,LessR.of rfl (FrSub.cons rfl (.ofEq rfl) (FrSub.cons rfl (.ofEq rfl) (FrSub.consP rfl (.ofEq rfl) (by simp) (FrSub.cons rfl (.ofEq ?_) (FrSub.cons rfl (.ofEq rfl) .nil))))) (by simp) zLO rfl rfl hou⟩
    rw[Q9n ha];simp[FV.ren,AC.ren]
 ·have hlt:j=x.alts.length:=by simp at hb2;omega
  subst hlt
  rw[if_neg (by simp[Q9w hno])]at hn
  have hf:Q2j x x.alts.length=fields x:=by simp[Q2j,fields]
  rw[hf]
  clear hno hb2 hjl hf
  generalize fields x=f at hn
  repeat' first|refine zN ?_|(with_reducible refine oj ?_;refine AOps.splitS rfl rfl rfl rfl (fun hb=>?_) (fun hb=>?_))|(with_reducible refine ok ?_;first|refine ACode.condS rfl (fun hb=>?_) (fun hb=>?_)|refine ACode.cond rfl (fun hb=>?_) (fun hb=>?_))
  all_goals
   refine APure.fin rfl (WkF.ofEq ?_) (by simp) hou rfl
   rw[hn]
   simp_all
end Go.Proofs.YtdpdlkgecmgokaaGreatDoor
