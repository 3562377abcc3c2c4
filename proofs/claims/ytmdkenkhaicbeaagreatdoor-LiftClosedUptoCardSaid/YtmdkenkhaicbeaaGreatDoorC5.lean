/- The abstract layer, part Aj: a call of a function that only computes a number or a truth value; own objects are lent to it, to be read. No condition. -/
import Derived.Test.YtmdkenkhaicbeaaGreatDoorC4
import Derived.Laws.CopyRow
import Derived.Shelf.GgSortFunc.InsertionK
import Derived.Lib.Overlaps
import Derived.Lib.AppendZerosOnto
import Derived.Laws.Build
import Derived.Recover
set_option maxRecDepth 10000
set_option linter.unusedVariables false
set_option linter.unusedSimpArgs false
namespace Go.Abs
def Ctx.still (C:Ctx)(w:World):Ctx:=⟨fun a=>a.block < w.heap.size,0,C.no,C.phi,C.tk⟩
theorem Inv.stillChg{Γ:List (Nat×List AC)}{F:Nat->Prop}{w:World}{C:Ctx}{σ:St}(hi:Inv Γ F w C σ):Chg isO w C w (C.still w):=
 ⟨fun _ _=>rfl,fun a h=>hi.prot a h,fun i hp hok=>⟨by cases i with|l k=>cases hp|o k=>exact hok,rfl,rfl⟩⟩
theorem Inv.forStill{Γ:List (Nat×List AC)}{F:Nat->Prop}{w:World}{C:Ctx}{σ:St}(hi:Inv Γ F w C σ)(hΓ:∀g cs,(g,cs)∈Γ->idsL isO cs):Inv Γ (fun k=>k < w.heap.size) w (C.still w) ⟨0,[],fun _=>none⟩:=by
 have hn:∀i,St.get ⟨0,[],fun _=>none⟩ i=none:=fun i=>by cases i <;> rfl
 exact⟨fun _ h=>h,rfl,fun g cs h=>(hi.glob g cs h).chg hi.stillChg (hΓ g cs h),fun _ h=>h,fun i o h=>by (rw[hn]at h;cases h),fun i j o o' g h=>by (rw[hn]at h;cases h)⟩
def LendF (σ:St)(x y:FV):Prop:=∀(Γ:List (Nat×List AC))(F:Nat->Prop)(w:World)(C:Ctx)(v:Value),Inv Γ F w C σ->RF w C x v->RF w (C.still w) y v
def Q6p (σ:St)(xs ys:List FV):Prop:=∀(Γ:List (Nat×List AC))(F:Nat->Prop)(w:World)(C:Ctx)(vs:List Value),Inv Γ F w C σ->RFs w C xs vs->RFs w (C.still w) ys vs
theorem LendF.of{σ:St}{x y:FV}(h:WkF x y)(hy:y.ids isO):LendF σ x y:=fun Γ F w C v hi hr=>RF.chg hi.stillChg y v hy (h w C v hr)
theorem LendF.refl{σ:St}{x:FV}(hy:x.ids isO):LendF σ x x:=.of (.refl x) hy
theorem LendF.arr{σ:St}{i:Id}{s cap n:Nat}{es:List (List AC)}(hg:σ.get i=some (.cells (vec s es cap)))(hn:n=es.length)(hl:∀x∈es,x.length=s)(hids:idsS isO es):LendF σ (.one (.arr i s 0 n cap)) (.one (.sl s es)):=by
 subst hn
 intro Γ F w C v hi hr
 obtain⟨hok,zs,T,b1,b2,b3,b4⟩:=hi.obj i _ hg
 simp only[RF,R,Nat.zero_mul]at hr
 refine⟨some ⟨C.blk i,0,none⟩,cap,hr.2.1,hr.2.2,.inr ⟨_,rfl,rfl,?_⟩⟩
 have hfl:=Q3r hl
 have hzl:=RV.length b3
 have hfi:idsL isO es.flatten:=by
  clear hg hl hr hfl b3 hzl
  induction es with
  |nil=>trivial
  |cons x es ih=>
   simp only[idsS]at hids
   rw[List.flatten_cons]
   exact Q39.2 fun c hc=>(List.mem_append.1 hc).elim (fun h=>Q39.1 hids.1 c h) fun h=>Q39.1 (ih hids.2) c h
 have hv:RV w (C.still w) es.flatten (zs.take (es.length * s)):=by
  refine RV.chg hi.stillChg _ _ hfi ?_
  have:=b3.take (es.length * s)
  rwa [vec,List.take_append_of_le_length (by omega),List.take_of_length_le (by omega)]at this
 refine RS.ofVals 0 hl hv fun j v hj=>⟨?_,Q0b b1⟩
 have h2:j < es.length * s:=by have:=(List.getElem?_eq_some_iff.1 hj).1;simp at this;omega
 rw[List.getElem?_take_of_lt h2]at hj
 rw[Nat.zero_add,cell_of_row _ _ _ _ _ _ b1]
 simpa using hj
theorem Q6p.nil{σ:St}:Q6p σ [] []:=fun _ _ _ _ _ _ h=>h
theorem Q6p.cons{σ:St}{x y:FV}{xs ys:List FV}(h:LendF σ x y)(k:Q6p σ xs ys):Q6p σ (x::xs) (y::ys):=by
 intro Γ F w C vs hi hr
 simp only[RFs]at hr ⊢
 obtain⟨v,us,rfl,h1,h2⟩:=hr
 exact⟨v,us,rfl,h _ _ _ _ _ hi h1,k _ _ _ _ _ hi h2⟩
def Plain (r:FV):Prop:=∀(w w':World)(C C':Ctx)(v:Value),RF w C r v->RF w' C' r v
theorem Plain.lit(u:Value):Plain (.one (.lit u)):=fun w w' C C' v h=>by simpa only [RF,R]using h
theorem AStep.callS{E:Env}{o:Oper}{fr:Fr}{σ:St}{f:Operand}{args:Array Operand}{tys:Array TypeId}{g:Nat}{first caps:List AC}{vs ws:List FV}{r:FV}
  (hΓ:∀g cs,(g,cs)∈E.Γ->idsL isO cs) (hc:APure E.P E.Γ g ws r) (hp:Plain r) (ho:o.op=.call { callee:=.value f,args:=args,argTypes:=tys })
  (hf:aEval E.Γ fr f=some (.one (.fn (.func g) first caps))) (hargs:Q1h E.Γ fr args.toList=some vs) (hw:Q6p σ (first.map .one++vs++caps.map .one) ws):AStep E o fr σ r σ:=by
 intro F w C tmps hi hfr next Q hk
 have hcallee:=Q01 (a:=⟨tmps,E.ds⟩) hi hfr hf
 simp only[RF,R]at hcallee
 obtain⟨xs,ys,hfv,hx,hy⟩:=hcallee
 have hvs:=Q1n (a:=⟨tmps,E.ds⟩) hi hfr hargs
 have hall:RFs w (C.still w) ws (xs++args.toList.map (Act.eval ⟨tmps,E.ds⟩)++ys):=hw _ _ _ _ _ hi ((RFs.ones hx |>.append hvs).append (RFs.ones hy))
 have hrun:(execOp (Act.eval ⟨tmps,E.ds⟩) o).run E.P w=.ok (.enter g (xs++args.toList.map (Act.eval ⟨tmps,E.ds⟩)++ys).toArray) w:=by
  unfold execOp
  simp only[ho,resolve,Sem.run_bind,hfv,Deferred.ofValue,Sem.run_pure,Result.andThen_ok,invoke,(hc σ.ou).1]
  congr 2
  apply Array.ext'
  simp
 unfold Oper.wp
 rw[hrun,Oper.upon_enter]
 refine ((hc fun _=>none).2 (fun k=>k < w.heap.size) w (C.still w) _ rfl (hi.forStill hΓ) hall).mono fun e w' ⟨v,r',ou',C',he,hgo,h0,hi',hr,hQ1,hQ2⟩=>?_
 subst he;subst hQ1
 obtain⟨he,hi2⟩:=hi.grown hgo.stp.size (fun k hk=>hgo.stp.block k hk)
 exact hk v w' C ⟨hgo.stp.mono fun k hk=>hi.base k hk,he,Nat.le_refl _,NewP.refl _ _⟩ hi2 (hp _ _ _ _ _ hr)
theorem AOps.callS{E:Env}{ops:Array Oper}{rest:List Oper}{o:Oper}{K:Cont}{fr:Fr}{σ:St}{d:Nat}{f:Operand}{args:Array Operand}{tys:Array TypeId}{g:Nat}{first caps:List AC}{vs ws:List FV}{r:FV}
  (hΓ:∀g cs,(g,cs)∈E.Γ->idsL isO cs) (hc:APure E.P E.Γ g ws r) (hp:Plain r) (hgd:o.guard=none) (hdst:o.dst=some d) (hd:Nat.ble (d+1) E.N=true) (ho:o.op=.call { callee:=.value f,args:=args,argTypes:=tys })
  (hf:aEval E.Γ fr f=some (.one (.fn (.func g) first caps))) (hargs:Q1h E.Γ fr args.toList=some vs) (hw:Q6p σ (first.map .one++vs++caps.map .one) ws)
  (h:AOps E ops rest K ((d,r)::fr) σ):AOps E ops (o::rest) K fr σ:=
 AOps.step1 hgd hdst hd (AStep.callS hΓ hc hp ho hf hargs hw) h
end Go.Abs
namespace Go.Abs
section
variable {E:Env}{o:Oper}{fr:Fr}{σ:St}
end
section
variable {Γ:List (Nat×List AC)}{F:Nat->Prop}{w:World}{C:Ctx}{σ:St}
end
end Go.Abs
namespace Go.Abs
theorem Q80.mono{E:Env}{ops:Array Oper}{o:Oper}{fr:Fr}{σ:St}{P Q:FV->St->Prop}(h:Q80 E ops o fr σ P)(hq:∀v σ',P v σ'->Q v σ'):Q80 E ops o fr σ Q:=by
 rcases h with ⟨v,σ',h1,h2⟩|⟨h1,h2⟩
 ·exact .inl ⟨v,σ',h1,hq _ _ h2⟩
 ·exact .inr ⟨h1,fun F w C tmps hi hf next Q' hk=>h2 F w C tmps hi hf next Q' fun u w' C' v σ' hp=>hk u w' C' v σ' (hq _ _ hp)⟩
section
variable {E:Env}{l:List Oper}{frb:Fr}{n:Nat}{K:Cont}{J:Array Bool->St->(Nat->Option FV)->Prop}
end
theorem AOps.wkObj{E:Env}{ops:Array Oper}{l:List Oper}{K:Cont}{fr:Fr}{σ:St}(i:Id){cs cs':List AC}(hg:σ.get i=some (.cells cs))(hw:∀(w:World)(C:Ctx)(xs:List Value),RV w C cs xs->RV w C cs' xs)(h:AOps E ops l K fr (σ.set i (.cells cs'))):AOps E ops l K fr σ:=by
 intro F w0 C0 w C tmps hgo hi hf
 obtain⟨hok,xs,T,o1,o2,o3,o4⟩:=hi.obj i _ hg
 obtain⟨he,hi'⟩:=hi.turn hg (g:=C.blk i) rfl (w':=w) rfl (fun _ _=>rfl) (fun _ _ _=>rfl) (o':=.cells cs') rfl fun _=>⟨xs,T,o1,o2,hw w C xs o3,o4⟩
 exact h F w0 C0 w C tmps hgo hi' hf
theorem AStep.buildOwn0{E:Env}{o:Oper}{fr:Fr}{σ:St}{t:TypeId}{ti tj:TI}{s:Nat}(hT:TabOk E.P E.T)(ho:o.op=.buildSlice t 0 #[])(ht:Tab.get t E.T=some ti)(hk:Nat.beq ti.kind 2=true)(hj:Tab.get ti.elem E.T=some tj)(hs:tj.size=s):
  AStep E o fr σ (.one (.arr (.l σ.n) s 0 0 0)) (σ.push (.cells (vec s [] 0))):=by
 intro F w C tmps hi hf next Q hk2
 have hsl:=(hT t ti ht).slice (Nat.eq_of_beq_eq_true hk)
 have hsz:=(hT _ _ hj).run_sizeOf w
 have hrun:(execOp (Act.eval ⟨tmps,E.ds⟩) o).run E.P w=.ok (.value (.slice (some ⟨w.heap.size,0,none⟩) 0 0)) (w.alloc (.cells #[] ti.elem)):=by
  unfold execOp
  simp only[ho]
  simp[Instr.buildSlice,run_underlying hsl,hsz,Instr.fill,newRow,Array.range_zero']
 obtain⟨C',he,hno,hnp,hin,hok,hblk⟩:=hi.newObj (cs:=vec s [] 0) (xs:=[]) (by simp[vec,RV]) ti.elem
 unfold Oper.wp
 rw[hrun,Oper.upon_value]
 exact hk2 _ _ C' ⟨Stp.alloc hi.base _ _,he,Nat.le_of_eq hno.symm,hnp⟩ hin (by simp only[RF,R];exact⟨hok,by rw[hblk,Nat.zero_mul],Nat.le_refl _⟩)
theorem AStep.appNone{E:Env}{o:Oper}{fr:Fr}{σ:St}{t:TypeId}{ti tj:TI}{x y:Operand}{i:Id}{s n cap:Nat}(hT:TabOk E.P E.T)(ho:o.op=.call { callee:=.builtin .append,args:=#[x,y],argTypes:=#[t,t] })(ht:Tab.get t E.T=some ti)(hk:Nat.beq ti.kind 2=true)(hj:Tab.get ti.elem E.T=some tj)
  (hx:aEval E.Γ fr x=some (.one (.arr i s 0 n cap))) (hy:aEval E.Γ fr y=some (.one (.sl s []))):AStep E o fr σ (.one (.arr i s 0 n cap)) σ:=by
 refine AStep.quiet fun F w C tmps hi hf=>?_
 have h1:=Q01 (a:=⟨tmps,E.ds⟩) hi hf hx
 have h2:=Q01 (a:=⟨tmps,E.ds⟩) hi hf hy
 simp only[RF,R,Nat.zero_mul]at h1 h2
 obtain⟨hok,hv,hc⟩:=h1
 obtain⟨a,c,hv2,_,_⟩:=h2
 have hu:=(hT t ti ht).slice (Nat.eq_of_beq_eq_true hk)
 obtain⟨i0,dd,z,g1,g2,g3,g4,g5,g6,g7,g8⟩:=(hT _ _ hj).ex
 refine⟨.slice (some ⟨C.blk i,0,none⟩) n cap,?_,by simp only[RF,R,Nat.zero_mul];exact⟨hok,trivial,hc⟩⟩
 unfold execOp
 simp only[ho,resolve,invoke,builtin,Sem.run_bind,Sem.run_pure,Result.andThen_ok,List.map_toArray,List.map_cons,List.map_nil,hv,hv2]
 cases a with
 |none=>simp[Builtin.append_,run_underlying hu,sizeOf,typeInfo,g1,Builtin.lenOf,Builtin.firstCells,hc,storeCells]
 |some a=>simp[Builtin.append_,run_underlying hu,sizeOf,typeInfo,g1,Builtin.lenOf,Builtin.firstCells,hc,storeCells,loadCells,loadCellsFrom]
end Go.Abs
namespace Go.Abs
theorem AStep.boxI{E:Env}{o:Oper}{fr:Fr}{σ:St}{t:TypeId}{x:Operand}{cs:List AC}(ho:o.op=.box t x)(hx:aEval E.Γ fr x=some (.agg cs)):AStep E o fr σ (.one (.box cs)) σ:=by
 intro F w C tmps hi hf next Q hk
 have h1:=Q01 (a:=⟨tmps,E.ds⟩) hi hf hx
 simp only[RF]at h1
 obtain⟨xs,hv,hr⟩:=h1
 obtain⟨C',he,hno,hnp,hin,hpr⟩:=hi.newRow xs t
 have hrun:(execOp (Act.eval ⟨tmps,E.ds⟩) o).run E.P w=.ok (.value (.pointer (some ⟨w.heap.size,0,none⟩))) (w.alloc (.cells xs.toArray t)):=by
  unfold execOp
  simp only[ho,hv]
  simp[Instr.box,newVar,newRow,Value.cells]
 unfold Oper.wp
 rw[hrun,Oper.upon_value]
 refine hk _ _ C' ⟨Stp.alloc hi.base _ _,he,Nat.le_of_eq hno.symm,hnp⟩ hin ?_
 simp only[RF,R]
 refine⟨⟨w.heap.size,0,none⟩,rfl,rfl,RL.of_new 0 (hr.ext he) (fun j v hj=>?_) hpr⟩
 rw[Nat.zero_add,cell_of_row _ _ _ _ _ _ (heap_alloc_new w _)]
 simpa using hj
def bI (v:BitVec 64):Int:=IntKind.i64.wrap v.toNat
def orI (a b:Int):Int:=bI (BitVec.ofInt 64 a ||| BitVec.ofInt 64 b)
def anI (a b:Int):Int:=bI (BitVec.ofInt 64 a &&& ~~~BitVec.ofInt 64 b)
def subI (a b:Int):Prop:=BitVec.ofInt 64 a &&& ~~~BitVec.ofInt 64 b=0#64
theorem subI.an{a b:Int}(h:subI a b):anI a b=0:=by
 unfold anI;rw[h];decide
theorem bv_sub{a b:BitVec 64}:a &&& ~~~b=0#64↔a ||| b=b:=by
 constructor
 ·intro h
  ext i hi
  have:=congrArg (fun v:BitVec 64=>v.getLsbD i) h
  simp[hi]at this ⊢
  simp only[←BitVec.getLsbD_eq_getElem]at *
  cases ha:a.getLsbD i <;> simp_all
 ·intro h
  ext i hi
  have:=congrArg (fun v:BitVec 64=>v.getLsbD i) h
  simp[hi]at this ⊢
  simp only[←BitVec.getLsbD_eq_getElem]at *
  cases ha:a.getLsbD i <;> simp_all
theorem subI.trans{a b c:Int}(h:subI a b)(k:subI b c):subI a c:=by
 unfold subI at *
 rw[bv_sub]at *
 rw[←k,←BitVec.or_assoc,h]
section
variable {E:Env}{o:Oper}{fr:Fr}{σ:St}
end
end Go.Abs
namespace Go.Abs
open Go.Sort Go.Proofs
set_option linter.unusedSectionVars false
section
variable {α:Type} [Inhabited α]
end
end Go.Abs
namespace Go.Abs
def oaC (k s:Nat)(es:List (List AC)):Option Nat->AC
 |none=>.lit (.slice none 0 0)
 |some cap=>.arr (.l k) s 0 es.length cap
def oaO (s:Nat)(es:List (List AC)):Option Nat->AObj
 |none=>.dead
 |some cap=>.cells (vec s es cap)
def coO (es:List (List AC)):Option Nat->Prop
 |none=>es=[]
 |some cap=>es.length<=cap
section
variable {E:Env}{ops:Array Oper}{l rest:List Oper}{K:Cont}{fr:Fr}{σ:St}
theorem Inv.ghost{Γ:List (Nat×List AC)}{F:Nat->Prop}{w:World}{C:Ctx}(hi:Inv Γ F w C σ):∃C',Ext w C w C'/\C'.no=C.no/\(∀a,C'.prot a↔C.prot a)/\Inv Γ F w C' (σ.push .dead):=by
 have hn:=Ctx.more_new C 0 none hi.next
 have he:Ext w C w (C.more 0 none):=⟨fun _ _=>rfl,fun _ h=>h,fun i _ hok=>Ctx.more_old C 0 none hok⟩
 refine⟨C.more 0 none,he,rfl,fun a=>Iff.rfl,?_⟩
 refine hi.addObj (o:=.dead) (d:=.l σ.n) (fun i=>St.get_push σ _ i) he ?_ hi.base hi.prot (fun _ _ _ _ _ _ h=>h) (fun _ _ _ _ _ _ h=>h) hn.1 trivial (fun _ _ _ _ _ h=>by cases h)
 show C.nl+1=σ.n+1
 rw[hi.next]
theorem ACode.ghost{c:Code}(h:ACode E c K fr (σ.push .dead)):ACode E c K fr σ:=by
 intro F w0 C0 w C tmps hg hi hf
 obtain⟨C',h1,h2,h3,h4⟩:=hi.ghost
 exact h F w0 C0 w C' tmps (hg.trans ⟨Stp.refl _ _,h1.weaken (fun _ _=>trivial),by rw[h2];exact Nat.le_refl _,fun a ha=>.inl ((h3 a).1 ha)⟩) h4 (hf.ext h1)
theorem AOps.appG{o:Oper}{dd:Nat}{t:TypeId}{ti tj:TI}{x y:Operand}{d:AC}{s k:Nat}{es news:List (List AC)}{oc:Option Nat}(hT:TabOk E.P E.T)(hgd:o.guard=none)(hdst:o.dst=some dd)(hdd:Nat.ble (dd+1) E.N=true)
  (ho:o.op=.call { callee:=.builtin .append,args:=#[x,y],argTypes:=#[t,t] }) (ht:Tab.get t E.T=some ti) (hk:Nat.beq ti.kind 2=true) (hj:Tab.get ti.elem E.T=some tj) (hx:aEval E.Γ fr x=some (.one (oaC k s es oc))) (hy:aEval E.Γ fr y=some (.one d))
  (hg:σ.get (.l k)=some (oaO s es oc)) (hco:coO es oc) (hl:∀x∈es,x.length=s) (hsrc:Src d s news) (hne:news≠[])
  (hs : Nat.beq tj.size s = true) (hbytes : (es.length + news.length) * tj.bytes <= 140737488355328) (h63 : es.length + news.length <= 140737488355328)
  (h : ∀ cap, (es ++ news).length <= cap -> AOps E ops rest K ((dd, .one (oaC σ.n s (es ++ news) (some cap))) :: fr) ((σ.set (.l k) .dead).push (oaO s (es ++ news) (some cap)))) : AOps E ops (o :: rest) K fr σ := by
 cases oc with
 |none=>
  simp only[coO]at hco
  subst hco
  refine AOps.appOwn hT hgd hdst hdd ho ht hk hj hx hy (.nil s) hsrc hne hs hbytes h63 fun cap hc=>?_
  refine AOps.lessO ((σ.set (.l k) .dead).push (oaO s ([]++news) (some cap))) rfl (fun i q hq=>?_) (h cap hc)
  rw[St.get_push]at hq ⊢
  split
  ·rename_i e
   rw[if_pos (by rw[e];rfl)]at hq
   exact hq
  ·rename_i e
   rw[if_neg (by intro e2;exact e e2)]at hq
   by_cases e3:(Id.l k)=i
   ·subst e3
    rw[St.get_set_same]at hq
    rw[hg,←hq];rfl
   ·rw[St.get_set_ne _ e3]at hq;exact hq
 |some cap=>
  exact AOps.appOwn hT hgd hdst hdd ho ht hk hj hx hy (.own s cap es (.l k) hg hl hco) hsrc hne hs hbytes h63 h
end
section
variable {E:Env}{ops:Array Oper}{l:List Oper}{x y:Code}{Fin:Fr->St->Prop}{k:List AItem}{α:Type}{fr:Fr}{σ:St}
end
@[simp] theorem ren_oaC (ρ:Nat->Nat) (k s:Nat) (es:List (List AC)) (oc:Option Nat):(oaC k s es oc).ren ρ=oaC (ρ k) s es oc:=by cases oc <;> rfl
theorem ren_oaO(ρ:Nat->Nat)(s:Nat)(es:List (List AC))(oc:Option Nat)(h:∀cap,idsL isO (vec s es cap)):(oaO s es oc).ren ρ=oaO s es oc:=by
 cases oc with
 |none=>rfl
 |some cap=>exact AObj.ren_pure ρ (.cells (vec s es cap)) (h cap)
@[simp] theorem ids_oaC (n k s:Nat) (es:List (List AC)) (oc:Option Nat):(oaC k s es oc).ids (inL n)↔(oc=none∨inL n (.l k)):=by cases oc <;> simp[oaC,AC.ids]
theorem Qgy{p:Id->Prop}{s cap:Nat}{es:List (List AC)}(h:idsS p es):idsL p (vec s es cap):=by
 unfold vec
 refine Q39.2 fun c hc=>?_
 rcases List.mem_append.1 hc with hc|hc
 ·obtain⟨e,he,hc⟩:=List.mem_flatten.1 hc
  exact Q39.1 (Qdv.1 h e he) c hc
 ·rw[List.mem_replicate]at hc
  rw[hc.2];trivial
theorem Qgz{p:Id->Prop}{s:Nat}{es:List (List AC)}{oc:Option Nat}(h:idsS p es):(oaO s es oc).ids p:=by
 cases oc with
 |none=>trivial
 |some cap=>exact Qgy h
theorem FrSub.oa{ρ:Nat->Nat}{fr r:Fr}{d k k' s:Nat}{es:List (List AC)}{oc:Option Nat}(h:Fr.get d fr=some (.one (oaC k' s es oc)))(hk:k'=ρ k)(hr:FrSub ρ fr r):FrSub ρ fr ((d,.one (oaC k s es oc))::r):=
 FrSub.cons h (.ofEq (by subst hk;simp only[FV.ren,ren_oaC])) hr
theorem AStep.appNil{E:Env}{o:Oper}{fr:Fr}{σ:St}{t:TypeId}{ti tj:TI}{x y:Operand}{s:Nat}(hT:TabOk E.P E.T)(ho:o.op=.call { callee:=.builtin .append,args:=#[x,y],argTypes:=#[t,t] })(ht:Tab.get t E.T=some ti)(hk:Nat.beq ti.kind 2=true)(hj:Tab.get ti.elem E.T=some tj)
  (hx:aEval E.Γ fr x=some (.one (.lit (.slice none 0 0)))) (hy:aEval E.Γ fr y=some (.one (.sl s []))):AStep E o fr σ (.one (.lit (.slice none 0 0))) σ:=by
 refine AStep.quiet fun F w C tmps hi hf=>?_
 have h1:=Q01 (a:=⟨tmps,E.ds⟩) hi hf hx
 have h2:=Q01 (a:=⟨tmps,E.ds⟩) hi hf hy
 simp only[RF,R,Nat.zero_mul]at h1 h2
 obtain⟨hv,hc⟩:=h1
 obtain⟨a,c,hv2,_,_⟩:=h2
 have hu:=(hT t ti ht).slice (Nat.eq_of_beq_eq_true hk)
 obtain⟨i0,dd,z,g1,g2,g3,g4,g5,g6,g7,g8⟩:=(hT _ _ hj).ex
 refine⟨.slice none 0 0,?_,by simp only[RF,R];exact⟨trivial,rfl⟩⟩
 unfold execOp
 simp only[ho,resolve,invoke,builtin,Sem.run_bind,Sem.run_pure,Result.andThen_ok,List.map_toArray,List.map_cons,List.map_nil,hv,hv2]
 cases a with
 |none=>simp[Builtin.append_,run_underlying hu,sizeOf,typeInfo,g1,Builtin.lenOf,Builtin.firstCells,storeCells]
 |some a=>simp[Builtin.append_,run_underlying hu,sizeOf,typeInfo,g1,Builtin.lenOf,Builtin.firstCells,storeCells,loadCells,loadCellsFrom]
end Go.Abs
namespace Go.Abs
section
variable {θ:Id->Id}
mutual
theorem AC.sub_f(hθ:∀i:Id,isO i->θ i=i):∀c:AC,c.ids isO->c.sub θ=c
 |.lit _,_=>rfl
 |.any,_=>rfl
 |.sl s es,h=>by simp only[AC.ids]at h;simp only[AC.sub];rw[Qd0 hθ es h]
 |.box cs,h=>by simp only[AC.ids]at h;simp only[AC.sub];rw[Q6k hθ cs h]
 |.ptr i off,h=>by simp only[AC.ids]at h;simp only[AC.sub];rw[hθ i h]
 |.gs s es i,h=>by simp only[AC.ids]at h;simp only[AC.sub];rw[hθ i h.1,Qd0 hθ es h.2]
 |.arr i s off len cap,h=>by simp only[AC.ids]at h;simp only[AC.sub];rw[hθ i h]
 |.mp i,h=>by simp only[AC.ids]at h;simp only[AC.sub];rw[hθ i h]
 |.fn f a b,h=>by simp only[AC.ids]at h;simp only[AC.sub];rw[Q6k hθ a h.1,Q6k hθ b h.2]
 |.ifc t ag cs,h=>by simp only[AC.ids]at h;simp only[AC.sub];rw[Q6k hθ cs h]
theorem Qd0(hθ:∀i:Id,isO i->θ i=i):∀es:List (List AC),idsS isO es->subS θ es=es
 |[],_=>rfl
 |e::es,h=>by simp only[idsS]at h;simp only[subS];rw[Q6k hθ e h.1,Qd0 hθ es h.2]
theorem Q6k(hθ:∀i:Id,isO i->θ i=i):∀cs:List AC,idsL isO cs->subL θ cs=cs
 |[],_=>rfl
 |c::cs,h=>by simp only[idsL]at h;simp only[subL];rw[AC.sub_f hθ c h.1,Q6k hθ cs h.2]
end
mutual
theorem FV.sub_f(hθ:∀i:Id,isO i->θ i=i):∀x:FV,x.ids isO->x.sub θ=x
 |.bot,_=>rfl
 |.one c,h=>by simp only[FV.ids]at h;simp only[FV.sub];rw[AC.sub_f hθ c h]
 |.agg cs,h=>by simp only[FV.ids]at h;simp only[FV.sub];rw[Q6k hθ cs h]
 |.tup vs,h=>by simp only[FV.ids]at h;simp only[FV.sub];rw[subF_f hθ vs h]
theorem subF_f(hθ:∀i:Id,isO i->θ i=i):∀vs:List FV,idsF isO vs->subF θ vs=vs
 |[],_=>rfl
 |v::vs,h=>by simp only[idsF]at h;simp only[subF];rw[FV.sub_f hθ v h.1,subF_f hθ vs h.2]
end
theorem AObj.sub_f(hθ:∀i:Id,isO i->θ i=i)(o:AObj)(h:o.ids isO):o.sub θ=o:=by
 cases o with
 |cells cs=>simp only[AObj.sub];rw[Q6k hθ cs h]
 |map ck es=>
  simp only[AObj.sub]
  congr 1
  rw[List.map_congr_left (g:=id),List.map_id]
  intro x hx
  have:=h x hx
  obtain⟨a,b,c⟩:=x
  simp only[FV.sub_f hθ c this,id]
 |iter m a b d=>simp only[AObj.sub];rw[hθ m h]
 |sit s q=>rfl
 |tok e s u=>rfl
 |dead=>rfl
end
def posOf (i:Nat):List Nat->Option Nat
 |[]=>none
 |j::r=>bif Nat.beq i j then some 0 else match posOf i r with|some p=>some (p+1)|none=>none
theorem Q5y:∀{js:List Nat}{i p:Nat},posOf i js=some p->js[p]?=some i
 | [], i, p, h => by cases h
 |j::r,i,p,h=>by
  simp only[posOf]at h
  by_cases e:i=j
  ·subst e
   simp at h;subst h;rfl
  ·rw[Q07 e]at h
   cases hr:posOf i r with
   |none=>rw[hr]at h;cases h
   |some q=>
    rw[hr]at h
    simp at h;subst h
    simpa using Q5y hr
def toOs (js:List Nat)(k:Nat):Id->Id
 |.l i=>match posOf i js with|some p=>.o (k+p)|none=>.l i
 |.o i=>.o i
structure CedN (θ:Id->Id)(fr:Fr)(σ:St)(fr':Fr)(σ':St):Prop where
 fr:∀d x,Fr.get d fr'=some x->∃y,Fr.get d fr=some y/\WkF (y.sub θ) x
 n:σ'.n=σ.n
 obj:∀i x,σ'.get i=some x->∃i0 y,σ.get i0=some y/\θ i0=i/\x=y.sub θ
theorem AOps.cedeN{E:Env}{ops:Array Oper}{rest:List Oper}{K:Cont}{fr:Fr}{σ:St}(js:List Nat)(hj:∀j∈js,j < σ.n)(h:∀k,(∀m,k<=m->σ.ou m=none)->∃fr' σ',CedN (toOs js k) fr σ fr' σ'/\AOps E ops rest K fr' σ'):AOps E ops rest K fr σ:=by
 intro F w0 C0 w C tmps hg hi hf
 have hnone:∀m,C.no<=m->σ.ou m=none:=fun m hm=>by
  cases hx:σ.ou m with
  |none=>rfl
  |some x=>
   have:m < C.no:=(hi.obj (.o m) x hx).1
   omega
 obtain⟨fr',σ',hc,h⟩:=h _ hnone
 let C2:Ctx:={ C with no:=C.no+js.length,phi:=fun i=>match i with|.o m=>if m < C.no then C.phi (.o m)else (match js[m - C.no]? with|some j=>C.phi (.l j)|none=>C.phi (.o m))|.l m=>C.phi (.l m),tk:=fun i=>match i with|.o m=>if m < C.no then C.tk (.o m)else (match js[m - C.no]? with|some j=>C.tk (.l j)|none=>C.tk (.o m))|.l m=>C.tk (.l m) }
 have hx:Ext w C w C2:=⟨fun _ _=>rfl,fun _ h=>h,fun i _ ho=>by
  cases i with
  |l m=>exact⟨ho,rfl,rfl⟩
  |o m=>
   have hm:m < C.no:=ho
   refine⟨Nat.lt_of_lt_of_le hm (Nat.le_add_right _ _),?_,?_⟩
   ·show (if m < C.no then _ else _)=_;rw[if_pos hm];rfl
   ·show (if m < C.no then _ else _)=_;rw[if_pos hm];rfl⟩
 have hb:Bus (toOs js C.no) (fun _=>True) w C2 C:=⟨fun _ h=>h,fun i _ ho=>by
  cases i with
  |o m=>exact hx.id (.o m) trivial ho
  |l m=>
   simp only[toOs]
   cases hp:posOf m js with
   |none=>exact⟨ho,rfl,rfl⟩
   |some p=>
    have hjp:=Q5y hp
    have hlt:p < js.length:=(List.getElem?_eq_some_iff.1 hjp).1
    refine⟨Nat.add_lt_add_left hlt _,?_,?_⟩
    ·show (if C.no+p < C.no then _ else _)=_
     rw[if_neg (by omega),Nat.add_sub_cancel_left,hjp];rfl
    ·show (if C.no+p < C.no then _ else _)=_
     rw[if_neg (by omega),Nat.add_sub_cancel_left,hjp];rfl⟩
 have hok:∀i0 y,σ.get i0=some y->C.ok i0:=fun i0 y hy=>(hi.obj i0 y hy).1
 have hi':Inv E.Γ F w C2 σ':=by
  refine⟨hi.base,by rw[hc.n];exact hi.next,fun g cs hm=>(hi.glob g cs hm).ext hx,hi.prot,fun i x hxx=>?_,fun i1 i2 x1 x2 g h1 h2 h3 h4=>?_⟩
  ·obtain⟨i0,y,hy,rfl,rfl⟩:=hc.obj i x hxx
   obtain⟨k1,k2⟩:=hi.obj i0 y hy
   exact⟨(hb.id i0 trivial k1).1,ObjOk.bus hb (AObj.ids_all y) trivial k1 (fun _ h=>h) k2⟩
  ·obtain⟨a,y,hy,rfl,rfl⟩:=hc.obj i1 x1 h1
   obtain⟨b,z,hz,rfl,rfl⟩:=hc.obj i2 x2 h2
   rw[AObj.block_bus hb trivial (hok a y hy)]at h3
   rw[AObj.block_bus hb trivial (hok b z hz)]at h4
   rw[hi.inj a b y z g hy hz h3 h4]
 refine h F w0 C0 w C2 tmps (hg.trans ⟨Stp.refl _ _,hx.weaken (fun _ _=>trivial),Nat.le_add_right _ _,NewP.refl _ _⟩) hi' ⟨hf.1,fun d x hd=>?_⟩
 obtain⟨y,hy,hw⟩:=hc.fr d x hd
 obtain⟨u,hu,hr⟩:=hf.2 d y hy
 exact⟨u,hu,hw _ _ _ (RF.bus hb y u (FV.ids_true y) hr)⟩
def ouAdd (ou:Outer)(k:Nat)(os:List AObj):Outer:=fun m=>bif Nat.blt m k then ou m else os[m - k]?
theorem Q0f{ou:Outer}{k:Nat}{os:List AObj}{m:Nat}(h:m < k):ouAdd ou k os m=ou m:=by
 unfold ouAdd
 have:Nat.blt m k=true:=by simp[Nat.blt];exact h
 rw[this];rfl
theorem Q0e{ou:Outer}{k:Nat}{os:List AObj}(p:Nat):ouAdd ou k os (k+p)=os[p]?:=by
 unfold ouAdd
 have:Nat.blt (k+p) k=false:=by
  cases h:Nat.blt (k+p) k with
  |false=>rfl
  |true=>simp[Nat.blt]at h;omega
 rw[this,Nat.add_sub_cancel_left];rfl
theorem Q1d{ou:Outer}{k:Nat}(h:∀m,k<=m->ou m=none){m:Nat}{o:AObj}(hm:ou m=some o):m < k:=by
 rcases Nat.lt_or_ge m k with h1|h1
 ·exact h1
 ·rw[h m h1]at hm;cases hm
inductive CedFrN (θ:Id->Id)(fr:Fr):Fr->Prop
 |nil:CedFrN θ fr []
 |cons {k:Nat}{x y:FV}{r:Fr}(h:Fr.get k fr=some y) (hw:y.sub θ=x) (hr:CedFrN θ fr r):CedFrN θ fr ((k,x)::r)
theorem CedFrN.get{θ:Id->Id}{fr fr':Fr}(h:CedFrN θ fr fr'):∀d x,Fr.get d fr'=some x->∃y,Fr.get d fr=some y/\WkF (y.sub θ) x:=by
 induction h with
 |nil=>intro d x h;cases h
 |@cons k x y r h hw hr ih=>
  intro d z hz
  simp only[Fr.get]at hz
  by_cases e:k=d
  ·subst e;simp at hz;subst hz;exact⟨y,h,WkF.ofEq hw⟩
  ·rw[Q07 e]at hz;exact ih d z hz
inductive CedLo (θ:Id->Id)(lo:List (Nat×AObj))(js:List Nat):List (Nat×AObj)->Prop
 |nil:CedLo θ lo js []
 |cons {n:Nat}{o y:AObj}{r:List (Nat×AObj)}(h:lookL n lo=some y) (hn:posOf n js=none) (ho:y.sub θ=o) (hr:CedLo θ lo js r):CedLo θ lo js ((n,o)::r)
theorem CedLo.get{θ:Id->Id}{lo lo':List (Nat×AObj)}{js:List Nat}(h:CedLo θ lo js lo'):∀n o,lookL n lo'=some o->posOf n js=none/\∃y,lookL n lo=some y/\y.sub θ=o:=by
 induction h with
 |nil=>intro n o h;cases h
 |@cons m x y r h hn ho hr ih=>
  intro n o hz
  simp only[lookL]at hz
  by_cases e:m=n
  ·subst e;simp at hz;subst hz;exact⟨hn,y,h,ho⟩
  ·rw[Q07 e]at hz;exact ih n o hz
inductive CedOs (θ:Id->Id)(lo:List (Nat×AObj)):List Nat->List AObj->Prop
 |nil:CedOs θ lo [] []
 |cons {j:Nat}{o y:AObj}{js:List Nat}{os:List AObj}(h:lookL j lo=some y) (ho:y.sub θ=o) (hr:CedOs θ lo js os):CedOs θ lo (j::js) (o::os)
theorem CedOs.get{θ:Id->Id}{lo:List (Nat×AObj)}{js:List Nat}{os:List AObj}(h:CedOs θ lo js os):∀(p:Nat)(o:AObj),os[p]?=some o->∃j y,js[p]?=some j/\lookL j lo=some y/\y.sub θ=o:=by
 induction h with
 |nil=>intro p o h;simp at h
 |@cons j o y js os h ho hr ih=>
  intro p z hz
  cases p with
  |zero=>simp at hz;subst hz;exact⟨j,y,rfl,h,ho⟩
  |succ p=>simpa using ih p z (by simpa using hz)
theorem Q61:∀{js:List Nat}{p j:Nat},js.Nodup->js[p]?=some j->posOf j js=some p
 |[],p,j,_,h=>by simp at h
 |i::r,p,j,hn,h=>by
  simp only[List.nodup_cons]at hn
  cases p with
  |zero=>simp at h;subst h;simp[posOf]
  |succ p=>
   have h1:r[p]?=some j:=by simpa using h
   have hne:j≠i:=fun e=>hn.1 (e▸List.mem_of_getElem? h1)
   simp only[posOf,Q07 hne,cond_false,Q61 hn.2 h1]
theorem AOps.cedes{E:Env}{ops:Array Oper}{rest:List Oper}{K:Cont}{fr:Fr}{σ:St}(js:List Nat)(hj:js.all (fun j=>Nat.blt j σ.n)=true)(hnd:js.Nodup)(hou:OuOk σ.ou)
  (h:∀k,(∀m,k<=m->σ.ou m=none)->∃fr' lo' os,CedFrN (toOs js k) fr fr'/\CedLo (toOs js k) σ.lo js lo'/\CedOs (toOs js k) σ.lo js os/\AOps E ops rest K fr' ⟨σ.n,lo',ouAdd σ.ou k os⟩):AOps E ops rest K fr σ:=by
 refine AOps.cedeN js (fun j hjj=>?_) fun k hk=>?_
 ·have:=List.all_eq_true.1 hj j hjj
  exact Nat.le_of_ble_eq_true (show Nat.ble (j+1) σ.n=true from this)
 obtain⟨fr',lo',os,h1,h2,h3,h4⟩:=h k hk
 refine⟨fr',⟨σ.n,lo',ouAdd σ.ou k os⟩,⟨h1.get,rfl,fun i x hx=>?_⟩,h4⟩
 cases i with
 |l m=>
  obtain⟨hp,y,hy,rfl⟩:=h2.get m x hx
  exact⟨.l m,y,hy,by simp[toOs,hp],rfl⟩
 |o m=>
  have hx':ouAdd σ.ou k os m=some x:=hx
  rcases Nat.lt_or_ge m k with hm|hm
  ·rw[Q0f hm]at hx'
   exact⟨.o m,x,hx',rfl,(AObj.sub_f (fun i hi=>by cases i with|l q=>exact hi.elim|o q=>rfl) x (hou m x hx')).symm⟩
  ·obtain⟨p,rfl⟩:∃p,m=k+p:=⟨m - k,by omega⟩
   rw[Q0e]at hx'
   obtain⟨j,y,q1,q2,rfl⟩:=h3.get p x hx'
   exact⟨.l j,y,q2,by simp[toOs,Q61 hnd q1],rfl⟩
end Go.Abs
namespace Go.Abs
def inS (S:List Nat)(i:Nat):Bool:=S.any fun k=>Nat.beq k i
def fC:List Nat->List FV->Nat->Option FV
 |s::S,v::vs,i=>bif Nat.beq s i then some v else fC S vs i
 |_,_,_=>none
def chainB (l:List Oper):List Nat->Bool
 |s::s'::S=>(match l[s']? with|some o=>o.after.any fun e=>Region.binds .any e&&Nat.beq e.on s|none=>false)&&chainB l (s'::S)
 |_=>true
def Q8b (l:List Oper)(S:List Nat)(n:Nat):Bool:=(l.take n).zipIdx.all fun x=>inS S x.2||x.1.after.toList.all fun e=>!Region.binds .any e||!(inS S e.on)
theorem Qa0:∀{S:List Nat}{vs:List FV}{i:Nat},inS S i=false->fC S vs i=none
 |[],[],_,_=>rfl
 |[],_::_,_,_=>rfl
 |s::S,[],_,_=>rfl
 |s::S,v::vs,i,h=>by
  simp only[inS,List.any_cons,Bool.or_eq_false_iff]at h
  simp only[fC,h.1,cond_false]
  exact Qa0 h.2
theorem Q9z{S:List Nat}(hn:S.Nodup):∀{vs:List FV}{p i:Nat},S[p]?=some i->p < vs.length->fC S vs i=vs[p]?:=by
 induction S with
 |nil=>intro vs p i h;simp at h
 |cons s S ih=>
  intro vs p i h hp
  simp only[List.nodup_cons]at hn
  cases vs with
  |nil=>simp at hp
  |cons v vs=>
   cases p with
   |zero=>simp at h;subst h;simp[fC]
   |succ p=>
    have h1:S[p]?=some i:=by simpa using h
    have hne:s≠i:=fun e=>hn.1 (e▸List.mem_of_getElem? h1)
    simp only[fC,Q07 hne,cond_false]
    rw[ih hn.2 h1 (by simpa using hp)]
    simp
theorem Qe3{S:List Nat}(hn:S.Nodup):∀{vs:List FV}{p i:Nat},S[p]?=some i->vs.length<=p->fC S vs i=none:=by
 induction S with
 |nil=>intro vs p i h;simp at h
 |cons s S ih=>
  intro vs p i h hp
  simp only[List.nodup_cons]at hn
  cases vs with
  |nil=>rfl
  |cons v vs=>
   cases p with
   |zero=>simp at hp
   |succ p=>
    have h1:S[p]?=some i:=by simpa using h
    have hne:s≠i:=fun e=>hn.1 (e▸List.mem_of_getElem? h1)
    simp only[fC,Q07 hne,cond_false]
    exact ih hn.2 h1 (by simpa using hp)
theorem fC_upd{S:List Nat}(hn:S.Nodup){vs:List FV}{i:Nat}{v:FV}(h:S[vs.length]?=some i):updV (fC S vs) i v=fC S (vs++[v]):=by
 funext j
 unfold updV
 by_cases hj:inS S j=true
 ·obtain⟨s,hs,he⟩:=List.any_eq_true.1 hj
  obtain rfl:s=j:=Nat.eq_of_beq_eq_true he
  obtain⟨p,hp⟩:=List.mem_iff_getElem?.1 hs
  by_cases e:s=i
  ·subst e
   have hpv:p=vs.length:=(List.getElem?_inj (List.getElem?_eq_some_iff.1 hp).1 hn).1 (hp.trans h.symm)
   subst hpv
   rw[Q9z (vs:=vs++[v]) hn hp (by simp)]
   simp
  ·have hpv:p≠vs.length:=fun e2=>by subst e2;rw[h]at hp;exact e (by simpa using hp.symm)
   simp only[Ne.symm e,if_false,e]
   rcases Nat.lt_or_ge p vs.length with h1|h1
   ·rw[Q9z hn hp h1,Q9z hn hp (by simp;omega),List.getElem?_append_left h1]
   ·rw[Qe3 hn hp h1,Qe3 hn hp (by simp;omega)]
 ·have hj':inS S j=false:=by simpa using hj
  have hne:j≠i:=fun e=>by
   subst e
   have:inS S j=true:=List.any_eq_true.2 ⟨j,List.mem_of_getElem? h,by simp⟩
   rw[this]at hj';cases hj'
  rw[Qa0 hj',Qa0 hj']
  simp[Ne.symm hne,hne]
theorem Qbj{l:List Oper}:∀{S:List Nat},chainB l S=true->∀{p i j:Nat}{o:Oper},S[p]?=some i->S[p+1]?=some j->l[j]?=some o->∃e∈o.after.toList,Region.binds .any e=true/\e.on=i
 |[],_,p,i,j,o,h1,_,_=>by simp at h1
 |[s],_,p,i,j,o,_,h2,_=>by simp at h2
 |s::s'::S,h,p,i,j,o,h1,h2,h3=>by
  simp only[chainB,Bool.and_eq_true]at h
  cases p with
  |zero=>
   simp at h1 h2
   subst h1;subst h2
   rw[h3]at h
   obtain⟨e,he,hb⟩:=Array.any_eq_true'.1 h.1
   simp only[Bool.and_eq_true]at hb
   exact⟨e,by simpa using he,hb.1,Nat.eq_of_beq_eq_true hb.2⟩
  |succ p=>exact Qbj h.2 (by simpa using h1) (by simpa using h2) h3
section
variable {E:Env}{l:List Oper}{frb:Fr}{K:Cont}
end
end Go.Abs
namespace Go.Abs
section
variable {Γ:List (Nat×List AC)}{F:Nat->Prop}{w:World}{C:Ctx}{σ:St}
end
section
variable {E:Env}{o:Oper}{fr:Fr}{σ:St}
end
end Go.Abs
namespace Go.Abs
end Go.Abs
namespace Go.Abs
end Go.Abs
namespace Go.Abs
section
variable {E:Env}{o:Oper}{fr:Fr}{σ:St}
theorem AStep.loadOwnA{t:TypeId}{ti:TI}{x:Operand}{j:Id}{cs:List AC}(hT:TabOk E.P E.T)(ho:o.op=.load t x)(ht:Tab.get t E.T=some ti)(ha:ti.agg=true)(hs:Nat.beq ti.size cs.length=true)(hx:aEval E.Γ fr x=some (.one (.ptr j 0)))
  (hg:σ.get j=some (.cells cs)):AStep E o fr σ (.agg cs) σ:=by
 refine AStep.ofOp hT ?_
 have hs':ti.size=cs.length:=Nat.eq_of_beq_eq_true hs
 have hb:Nat.ble (0+cs.length) cs.length=true:=Nat.ble_eq▸(show 0+cs.length<=cs.length by omega)
 simp only[ho,aOp,ht,ha,hs',hx,aLoad,hg,hb,cond_true,Q0y,mkFV,Bool.true_or,List.drop_zero,List.take_length]
end
theorem AOps.storeOwnA{E:Env}{ops:Array Oper}{rest:List Oper}{o:Oper}{K:Cont}{fr:Fr}{σ:St}{t:TypeId}{ti:TI}{x y:Operand}{j:Id}{cs vs:List AC}(hT:TabOk E.P E.T)(hgd:o.guard=none)(hd:o.dst=none)(ho:o.op=.store t x y)(ht:Tab.get t E.T=some ti)(hs:Nat.beq vs.length ti.size=true)(hl:vs.length=cs.length)
  (hx : aEval E.Γ fr x = some (.one (.ptr j 0))) (hy : aEval E.Γ fr y = some (.agg vs)) (hg : σ.get j = some (.cells cs)) (h : AOps E ops rest K fr (σ.set j (.cells vs))) : AOps E ops (o :: rest) K fr σ := by
 refine AOps.store hT hgd hd ?_ h
 have hs':vs.length=ti.size:=Nat.eq_of_beq_eq_true hs
 have hb:Nat.ble (0+ti.size) cs.length=true:=Nat.ble_eq▸(show 0+ti.size<=cs.length by omega)
 have ov:∀(xs ws:List AC),ws.length=xs.length->over xs 0 ws=ws:=by
  intro xs
  induction xs with
  |nil=>intro ws h;cases ws with
   |nil=>rfl
   |cons a ws=>simp at h
  |cons a xs ih=>
   intro ws h
   cases ws with
   |nil=>simp at h
   |cons b ws=>simp only[over];rw[ih ws (by simpa using h)]
 simp only[ho,aOp,ht,hx,hy,Q8z,hg,FV.cells,hs,hb,cond_true,Bool.and_self,Q0y,ov cs vs hl]
theorem RS.drop{w:World}{C:Ctx}{s:Nat}:∀(b:Nat)(es:List (List AC))(ad:Addr),ad.spot=none->RS w C s es ad->RS w C s (es.drop b) ⟨ad.block,ad.off+b * s,none⟩
 |0,es,ad,hs,h=>by
  obtain⟨bl,of,sp⟩:=ad
  simp only at hs;subst hs
  simpa using h
 |b+1,[],ad,hs,h=>by simp[RS]
 |b+1,e::es,ad,hs,h=>by
  simp only[RS]at h
  have:=RS.drop b es _ rfl h.2.2
  simp only[List.drop_succ_cons]
  rw[show ad.off+(b+1) * s=ad.off+s+b * s by rw[Nat.add_mul];omega]
  exact this
section
variable {E:Env}{o:Oper}{fr:Fr}{σ:St}
theorem AStep.sliceFrom{t:TypeId}{ti tj:TI}{x l:Operand}{k:IntKind}{b sz:Nat}{es:List (List AC)}(hT:TabOk E.P E.T)(ho:o.op=.slice t x (some l) none none)(ht:Tab.get t E.T=some ti)(hk:Nat.beq ti.kind 2=true)(hj:Tab.get ti.elem E.T=some tj)(hsz:Nat.beq tj.size sz=true)
  (hx:aEval E.Γ fr x=some (.one (.sl sz es))) (hl:aEval E.Γ fr l=some (.one (.lit (.int k (b:Int))))) (hb:b<=es.length):AStep E o fr σ (.one (.sl sz (es.drop b))) σ:=by
 refine AStep.quiet fun F w C tmps hi hf=>?_
 have e1:=Q01 (a:=⟨tmps,E.ds⟩) hi hf hx
 have e3:=Q01 (a:=⟨tmps,E.ds⟩) hi hf hl
 simp only[RF,R]at e1 e3
 obtain⟨ad,cap,hv,hcap,hrs⟩:=e1
 have hsz':tj.size=sz:=Nat.eq_of_beq_eq_true hsz
 have hu:=(hT t ti ht).slice (Nat.eq_of_beq_eq_true hk)
 have hsz2:=(hT _ _ hj).run_sizeOf (w:=w)
 have hrun:(execOp (Act.eval ⟨tmps,E.ds⟩) o).run E.P w=.ok (.value (.slice (if cap=b then ad else ad.map (·.add (b * tj.size))) (es.length - b) (cap - b))) w:=by
  unfold execOp
  simp only[ho,hv,e3.1,Option.map_some,Option.map_none]
  simp[Instr.sliceAt,Instr.slice,run_underlying hu,hsz2,Instr.sliceBounds,Instr.sliceBound,asIntOf,hb,hcap,Result.andThen]
 have hlen:(es.drop b).length=es.length - b:=by simp
 refine⟨_,hrun,?_⟩
 simp only[RF,R,hlen]
 refine⟨_,_,rfl,by omega,?_⟩
 rcases hrs with rfl|⟨a,rfl,hs,hr⟩
 ·left;simp
 ·by_cases he:es.drop b=[]
  ·exact .inl he
  ·right
   have h1:b < es.length:=by
    rcases Nat.lt_or_ge b es.length with h|h
    ·exact h
    ·exact absurd (List.drop_eq_nil_of_le h) he
   have e2:a.add (b * tj.size)=⟨a.block,a.off+b * sz,none⟩:=by
    obtain⟨bl,of,sp⟩:=a
    simp only at hs;subst hs
    simp only[Addr.add,hsz']
    split
    ·rename_i h0;simp[h0]
    ·rfl
   rw[if_neg (by omega),Option.map_some,e2]
   exact⟨_,rfl,rfl,RS.drop b es a hs hr⟩
end
end Go.Abs
namespace Go.Abs
theorem AStep.callE{E:Env}{o:Oper}{fr:Fr}{σ:St}{f:Operand}{args:Array Operand}{tys:Array TypeId}{g:Nat}{first caps:List AC}{vs as':List FV}{r:FV}
  (hΓ:∀g cs,(g,cs)∈E.Γ->idsL isO cs) (ho:o.op=.call { callee:=.value f,args:=args,argTypes:=tys })
  (hf:aEval E.Γ fr f=some (.one (.fn (.func g) first caps))) (hargs:Q1h E.Γ fr args.toList=some vs) (has:first.map .one++vs++caps.map .one=as') (hids:idsF isO as') (hou:OuOk σ.ou)
  (hc:AFn E.P E.Γ g as' σ.ou (fun r' ou'=>r'=r/\ou'=σ.ou)):AStep E o fr σ r σ:=by
 subst has
 intro F w C tmps hi hfr next Q hk
 have hcallee:=Q01 (a:=⟨tmps,E.ds⟩) hi hfr hf
 simp only[RF,R]at hcallee
 obtain⟨xs,ys,hfv,hx,hy⟩:=hcallee
 have hvs:=Q1n (a:=⟨tmps,E.ds⟩) hi hfr hargs
 have hall:RFs w C (first.map .one++vs++caps.map .one) (xs++args.toList.map (Act.eval ⟨tmps,E.ds⟩)++ys):=(RFs.ones hx |>.append hvs).append (RFs.ones hy)
 have hrun:(execOp (Act.eval ⟨tmps,E.ds⟩) o).run E.P w=.ok (.enter g (xs++args.toList.map (Act.eval ⟨tmps,E.ds⟩)++ys).toArray) w:=by
  unfold execOp
  simp only[ho,resolve,Sem.run_bind,hfv,Deferred.ofValue,Sem.run_pure,Result.andThen_ok,invoke,hc.1]
  congr 2
  apply Array.ext'
  simp
 unfold Oper.wp
 rw[hrun,Oper.upon_enter]
 have hc1:Chg isO w C w { C with nl:=0 }:=⟨fun _ _=>rfl,fun _ h=>h,fun i hp ho=>⟨by cases i with|l k=>cases hp|o k=>exact ho,rfl,rfl⟩⟩
 refine (hc.2 (Q33 w C σ.ou) w { C with nl:=0 } _ rfl (hi.forCallee hou hΓ) (RFs.chg hc1 _ _ hids hall)).mono fun e w' ⟨v,r',ou',C',he,hgo,h0,hi',hr,hQ1,hQ2⟩=>?_
 subst he;subst hQ1;subst hQ2
 obtain⟨hb1,hb2,hb3⟩:=hi.back hgo h0 hi'
 have hrid:r'.ids isO:=FV.ids_mono (Q49 h0) r' (RF.idsOk r' v hr)
 exact hk v w' _ hb1 hb2 (RF.chg hb3 r' v hrid hr)
end Go.Abs
namespace Go.Abs
end Go.Abs
namespace Go.Abs
theorem Q14{P:Program}(w:World)(t el:TypeId)(p:Option Addr)(h:P.underlying t=some (.pointer el)):(Op.equal t (.pointer p) (.pointer none)).run P w=.ok p.isNone w:=by
 have:∀d:Nat,(Op.equalIn (d+1) t (.pointer p) (.pointer none)).run P w=.ok p.isNone w:=fun d=>by
  cases p <;> simp[Op.equalIn,run_underlying h]
 exact this 9999
section
variable {E:Env}{o:Oper}{fr:Fr}{σ:St}{t yt el:TypeId}{x y:Operand}
theorem AStep.eqNil0(ht:E.P.underlying t=some (.pointer el))(ho:o.op=.binOp .eql t x y yt)(hx:aEval E.Γ fr x=some (.one (.lit (.pointer none))))(hy:aEval E.Γ fr y=some (.one (.lit (.pointer none)))):AStep E o fr σ (.one (.lit (.bool true))) σ:=by
 refine AStep.quiet fun F w C tmps hi hf=>⟨.bool true,?_,rfl,rfl⟩
 have h1:=Q01 (a:=⟨tmps,E.ds⟩) hi hf hx
 have h2:=Q01 (a:=⟨tmps,E.ds⟩) hi hf hy
 simp only[RF,R]at h1 h2
 unfold execOp
 simp only[ho,h1.1,h2.1,eqGuard_at_pointer,Sem.run_bind,Sem.run_pure,Result.andThen_ok]
 simp[binOp,Q14 _ _ _ _ ht]
theorem AStep.neNil{i:Id}{off:Nat}(ht:E.P.underlying t=some (.pointer el))(ho:o.op=.binOp .neq t x y yt)(hx:aEval E.Γ fr x=some (.one (.ptr i off)))(hy:aEval E.Γ fr y=some (.one (.lit (.pointer none)))):AStep E o fr σ (.one (.lit (.bool true))) σ:=by
 refine AStep.quiet fun F w C tmps hi hf=>⟨.bool true,?_,rfl,rfl⟩
 have h1:=Q01 (a:=⟨tmps,E.ds⟩) hi hf hx
 have h2:=Q01 (a:=⟨tmps,E.ds⟩) hi hf hy
 simp only[RF,R]at h1 h2
 unfold execOp
 simp only[ho,h1.2,h2.1,eqGuard_at_pointer,Sem.run_bind,Sem.run_pure,Result.andThen_ok]
 simp[binOp,Q14 _ _ _ _ ht]
theorem AStep.neNil0(ht:E.P.underlying t=some (.pointer el))(ho:o.op=.binOp .neq t x y yt)(hx:aEval E.Γ fr x=some (.one (.lit (.pointer none))))(hy:aEval E.Γ fr y=some (.one (.lit (.pointer none)))):AStep E o fr σ (.one (.lit (.bool false))) σ:=by
 refine AStep.quiet fun F w C tmps hi hf=>⟨.bool false,?_,rfl,rfl⟩
 have h1:=Q01 (a:=⟨tmps,E.ds⟩) hi hf hx
 have h2:=Q01 (a:=⟨tmps,E.ds⟩) hi hf hy
 simp only[RF,R]at h1 h2
 unfold execOp
 simp only[ho,h1.1,h2.1,eqGuard_at_pointer,Sem.run_bind,Sem.run_pure,Result.andThen_ok]
 simp[binOp,Q14 _ _ _ _ ht]
end
end Go.Abs
namespace Go.Abs
section
variable {Γ:List (Nat×List AC)}{F:Nat->Prop}{w:World}{C:Ctx}{σ:St}
end
section
variable {E:Env}{o:Oper}{fr:Fr}{σ:St}
end
end Go.Abs
namespace Go.Abs
def Q3e (E:Env)(o:Oper)(fr:Fr)(σ:St)(P:FV->St->Prop)(PP:List PanicEntry->St->Prop):Prop:=
 ∀(F:Nat->Prop) (w:World) (C:Ctx) (tmps:Array Value),Inv E.Γ F w C σ->FrOk w C E.N fr tmps->
  ∀(next:Act->World->Prop) (Q:Exit->Act->World->Prop),
   (∀(u:Value) (w':World) (C':Ctx) (v:FV) (σ':St),P v σ'->Goes F (fun _=>True) w C w' C'->Inv E.Γ F w' C' σ'->RF w' C' v u->next (Act.put ⟨tmps,E.ds⟩ o.dst u) w')->
   (∀(ps:List PanicEntry) (w':World) (C':Ctx) (σ':St),PP ps σ'->Goes F (fun _=>True) w C w' C'->Inv E.Γ F w' C' σ'->Q (.panic ps) ⟨tmps,E.ds⟩ w')->o.wp E.P ⟨tmps,E.ds⟩ w next Q
def Q3x (E:Env)(ops:Array Oper)(o:Oper)(fr:Fr)(σ:St)(P:FV->St->Prop)(PP:List PanicEntry->St->Prop):Prop:=
 Q80 E ops o fr σ P∨(o.guard=none/\Q3e E o fr σ P PP)
theorem Q3x.mono{E:Env}{ops:Array Oper}{o:Oper}{fr:Fr}{σ:St}{P Q:FV->St->Prop}{PP:List PanicEntry->St->Prop}(h:Q3x E ops o fr σ P PP)(hq:∀v σ',P v σ'->Q v σ'):Q3x E ops o fr σ Q PP:=by
 rcases h with h|⟨h1,h2⟩
 ·exact .inl (h.mono hq)
 ·exact .inr ⟨h1,fun F w C tmps hi hf next Q' hk hp=>h2 F w C tmps hi hf next Q' (fun u w' C' v σ' hP=>hk u w' C' v σ' (hq _ _ hP)) hp⟩
theorem Qcc{E:Env}{ops:Array Oper}{o:Oper}{fr:Fr}{σ:St}{P:FV->St->Prop}{PP:List PanicEntry->St->Prop}(h:Q3x E ops o fr σ P PP){F:Nat->Prop}{w:World}{C:Ctx}{tmps:Array Value}(hi:Inv E.Γ F w C σ)(hf:FrOk w C E.N fr tmps){i:Nat}(ho:ops[i]?=some o)
  {next:Act->World->Prop}{Q:Exit->Act->World->Prop}(hk:∀(u:Value) (w':World) (C':Ctx) (v:FV) (σ':St),P v σ'->Goes F (fun _=>True) w C w' C'->Inv E.Γ F w' C' σ'->RF w' C' v u->next (Act.put ⟨tmps,E.ds⟩ o.dst u) w')
  (hp:∀(ps:List PanicEntry) (w':World) (C':Ctx) (σ':St),PP ps σ'->Goes F (fun _=>True) w C w' C'->Inv E.Γ F w' C' σ'->Q (.panic ps) ⟨tmps,E.ds⟩ w'):wpOp E.P ops Q i next ⟨tmps,E.ds⟩ w:=by
 rcases h with h|⟨hg,h⟩
 ·exact Q8s h hi hf ho hk
 ·unfold wpOp
  simp only[ho]
  rw[if_pos (by simp[Region.wanted,hg])]
  exact .inl (h F w C tmps hi hf next Q hk hp)
section
variable {E:Env}{l:List Oper}{frb:Fr}{n:Nat}{K:Cont}{J:Array Bool->St->(Nat->Option FV)->Prop}
theorem Qj2(hB:drawB l n=true)(hfb:(dsts (l.take n)).all (fun d=>(Fr.get d frb).isNone)=true)
  (hstep : ∀ (listed : Array Bool) (σ : St) (vals : Nat -> Option FV) (i : Nat) (o : Oper), i < n -> l[i]? = some o -> listed.getD i false = false -> listed.size = l.length -> (∀ e ∈ o.after.toList, Region.binds .any e = true -> listed.getD e.on false = true) -> J listed σ vals ->
   dstOk E.N o.dst=true/\Q3x E l.toArray o (Q0m l vals o++frb) σ (fun v σ'=>J (listed.setIfInBounds i true) σ' (updV vals i v)) (fun ps σ'=>K (.panic ps) frb σ'))
  (htail : ∀ σ vals, J (Q09 l.length n) σ vals -> AOps E l.toArray (l.drop n) K (Q0d vals 0 (l.take n) ++ frb) σ) {F : Nat -> Prop} {w0 : World} {C0 : Ctx} :
  ∀(c:Nat) (listed:Array Bool) (a:Act) (w:World),((List.range n).filter fun j=>!listed.getD j false).length=c->HeadInv .any l.toArray n listed->MidJ E l n frb J F w0 C0 listed a w->
   wpAny E.P .any l.toArray (Post E F w0 C0 K) (c+(l.length - n)) listed a w:=by
 simp only[drawB,Bool.and_eq_true,decide_eq_true_eq]at hB
 obtain⟨⟨⟨⟨⟨hn,hs⟩,hc⟩,hsq⟩,hdi⟩,haf⟩:=hB
 have hsz:l.toArray.size=l.length:=by simp
 intro c
 induction c with
 |zero=>
  intro listed a w hcnt hinv hmid
  have hall:∀j,j < n->listed.getD j false=true:=by
   intro j hj
   have:(List.range n).filter (fun j=>!listed.getD j false)=[]:=List.eq_nil_of_length_eq_zero hcnt
   have h2:=List.filter_eq_nil_iff.1 this j (List.mem_range.2 hj)
   simpa using h2
  have hl:listed=Q09 l.length n:=by
   apply Array.ext
   ·simp[Q09,hinv.size]
   ·intro j h1 h2
    have hj:j < l.length:=by simpa[Q09]using h2
    have h3:listed.getD j false=listed[j]:=by simp[h1]
    simp only[Q09,Array.getElem_map,Array.getElem_range]
    by_cases hjn:j < n
    ·rw[←h3,hall j hjn];simp[hjn]
    ·have:=hinv.tail j (by omega) (by rw[hsz];exact hj)
     rw[Q3p h1]at this
     rw[←h3,this];simp[hjn]
  have hdl:(l.drop n).length=l.length - n:=by simp
  rw[Nat.zero_add,←hdl]
  refine wpAny_of_seq (md:=.any) (l.drop n) n listed a w (fun j=>by simp[List.getElem?_drop]) (by rw[hl,hdl];exact hsq) ?_
  obtain⟨hd,C,σ,vals,hJ,hg,hi,hf,hv⟩:=hmid
  have ha:a=⟨a.tmps,E.ds⟩:=by cases a;simp_all
  rw[ha]
  rw[hl]at hJ
  refine htail σ vals hJ F w0 C0 w C a.tmps hg hi ⟨hf.1,fun k x hk=>?_⟩
  rcases Fr.get_append hk with hk|⟨_,hk⟩
  ·obtain⟨i,o,h1,h2,h3⟩:=Q3o (Fr.get_mem hk)
   rw[Nat.zero_add]at h3
   have hin:i < n:=by
    have:=(List.getElem?_eq_some_iff.1 h1).1
    simp at this;omega
   rw[List.getElem?_take_of_lt hin]at h1
   exact hv i o k x hin h1 h2 h3
  ·exact hf.2 k x hk
 |succ c ih=>
  intro listed a w hcnt hinv hmid
  -- some head is not listed
  have hex:∃i,i < n/\listed.getD i false=false/\∀j,j < i->listed.getD j false=true:=by
   have hne:∃i,i < n/\listed.getD i false=false:=by
    cases hL:(List.range n).filter (fun j=>!listed.getD j false) with
    |nil=>rw[hL]at hcnt;simp at hcnt
    |cons i L=>
     have:i∈(List.range n).filter (fun j=>!listed.getD j false):=by rw[hL];simp
     obtain⟨h1,h2⟩:=List.mem_filter.1 this
     exact⟨i,List.mem_range.1 h1,by simpa using h2⟩
   obtain⟨i,hi⟩:=hne
   induction i using Nat.strongRecOn with
   |_ i ih2=>
    by_cases h:∃j,j < i/\listed.getD j false=false
    ·obtain⟨j,hj,hj2⟩:=h
     exact ih2 j hj ⟨by omega,hj2⟩
    ·exact⟨i,hi.1,hi.2,fun j hj=>(Bool.not_eq_false _).mp (fun hb=>h ⟨j,hj,hb⟩)⟩
  obtain⟨i0,hi0n,hi0u,hi0m⟩:=hex
  have hready:i0∈Region.ready .any l.toArray listed:=by
   rw[mem_ready]
   have hlt:i0 < l.length:=by omega
   refine⟨by rw[Q3p (by rw[hinv.size,hsz];exact hlt)];exact hi0u,l[i0],by simp[hlt],fun e he hb=>?_⟩
   have h1:=List.all_eq_true.1 haf (l[i0],i0) (by
    rw[List.mem_zipIdx_iff_getElem?]
    rw[List.getElem?_take_of_lt hi0n]
    simp[hlt])
   have h2:=Array.all_eq_true_iff_forall_mem.1 h1 e he
   simp only[hb,Bool.not_true,Bool.false_or,decide_eq_true_eq]at h2
   exact hi0m _ h2
  rw[show c+1+(l.length - n)=(c+(l.length - n))+1 by omega]
  refine⟨fun h=>absurd hready (by rw[h];simp),fun i hi=>?_⟩
  have hi0t:listed.getD i0 true=false:=(mem_ready.1 hready).1
  have hin:i < n:=by
   rcases Nat.lt_or_ge i n with h|h
   ·exact h
   ·exact absurd hi (tail_waits hs hc (by rw[hsz];exact hn) hinv _ i0 rfl hi0n hi0t i h)
  obtain⟨hun,o,ho,hall⟩:=mem_ready.1 hi
  have hlo:l[i]?=some o:=by simpa using ho
  obtain⟨hd,C,σ,vals,hJ,hg,hinvw,hf,hvals⟩:=hmid
  have ha:a=⟨a.tmps,E.ds⟩:=by cases a;simp_all
  rw[ha]
  have huni:listed.getD i false=false:=getD_both hun
  have hil:i < listed.size:=by rw[hinv.size,hsz];omega
  have hlast:∀e∈o.after.toList,Region.binds .any e=true->e.on < n:=fun e he hb=>by
   have h1:=List.all_eq_true.1 haf (o,i) (by
    rw[List.mem_zipIdx_iff_getElem?]
    rw[List.getElem?_take_of_lt hin]
    simpa using hlo)
   have h2:=Array.all_eq_true_iff_forall_mem.1 h1 e (by simpa using he)
   simp only[hb,Bool.not_true,Bool.false_or,decide_eq_true_eq]at h2
   omega
  obtain⟨hdo,hst⟩:=hstep listed σ vals i o hin hlo huni (by rw[hinv.size,hsz]) (fun e he hb=>hall e (by simpa using he) hb) hJ
  have hfr:FrOk w C E.N (Q0m l vals o++frb) a.tmps:=by
   refine⟨hf.1,fun k x hk=>?_⟩
   rcases Fr.get_append hk with hk|⟨_,hk⟩
   ·have hm:=Fr.get_mem hk
    obtain⟨e,he,he2⟩:=List.mem_filterMap.1 hm
    cases hb:Region.binds .any e with
    |false=>rw[hb]at he2;cases he2
    |true=>
     rw[hb]at he2;simp only[cond_true]at he2
     cases h1:(l[e.on]?).bind (·.dst) with
     |none=>rw[h1]at he2;cases he2
     |some d=>
      cases h2:vals e.on with
      |none=>rw[h1,h2]at he2;cases he2
      |some v'=>
       rw[h1,h2]at he2;cases he2
       cases h3:l[e.on]? with
       |none=>rw[h3]at h1;cases h1
       |some oe=>
        rw[h3]at h1
        exact hvals e.on oe k x (hlast e he hb) h3 h1 h2
   ·exact hf.2 k x hk
  refine Qcc hst hinvw hfr ho (fun u w' C' v σ' hJ' hgo hi' hr=>?_) (fun ps w' C' σ' hps hgo hi'=>⟨rfl,frb,σ',C',hg.trans hgo.toO,hi',hf.ext hgo.chg,hps⟩)
  refine ih _ _ _ ?_ (hinv.set hi hin) ⟨put_defers ..,C',σ',_,hJ',hg.trans hgo.toO,hi',?_,fun j oj dj vj hj hoj hdj hvj=>?_⟩
  ·have h2:((List.range n).filter fun j=>!(listed.setIfInBounds i true).getD j false).length+1=((List.range n).filter fun j=>!listed.getD j false).length:=count_eq hin huni hil
   omega
  ·cases hdd:o.dst with
   |none=>exact hf.ext hgo.chg
   |some d=>
    refine⟨by simp[Act.put,hf.1],fun k x hk=>?_⟩
    obtain⟨u',hu',hr'⟩:=hf.2 k x hk
    have hne:d≠k:=by
     rintro rfl
     have h1:=List.all_eq_true.1 hfb d (List.mem_filterMap.2 ⟨o,List.mem_of_getElem? (i:=i) (by rw[List.getElem?_take_of_lt hin];exact hlo),hdd⟩)
     rw[hk]at h1;cases h1
    refine⟨u',?_,hr'.ext hgo.chg⟩
    simp only[Act.put]
    rw[Array.getElem?_setIfInBounds_ne hne];exact hu'
  ·by_cases e:i=j
   ·subst e
    rw[hlo]at hoj;cases hoj
    rw[updV,if_pos rfl]at hvj
    cases hvj
    have hdN:dj < a.tmps.size:=by
     rw[hf.1]
     rw[hdj]at hdo
     exact Nat.le_of_ble_eq_true (show Nat.ble (dj+1) E.N=true from hdo)
    exact⟨u,by rw[hdj];simp[Act.put,hdN],hr⟩
   ·simp only[updV,if_neg e]at hvj
    obtain⟨u',hu',hr'⟩:=hvals j oj dj vj hj hoj hdj hvj
    cases hdd:o.dst with
    |none=>exact⟨u',hu',hr'.ext hgo.chg⟩
    |some d=>
     have hne:d≠dj:=by
      rintro rfl
      exact e (Q1o hdi (by rw[List.getElem?_take_of_lt hin];exact hlo) (by rw[List.getElem?_take_of_lt hj];exact hoj) hdd hdj)
     refine⟨u',?_,hr'.ext hgo.chg⟩
     simp only[Act.put]
     rw[Array.getElem?_setIfInBounds_ne hne];exact hu'
def AAny (E:Env)(l:List Oper)(K:Cont)(fr:Fr)(σ:St):Prop:=
 ∀(F:Nat->Prop) (w0:World) (C0:Ctx) (w:World) (C:Ctx) (tmps:Array Value),Goes F isO w0 C0 w C->Inv E.Γ F w C σ->FrOk w C E.N fr tmps->wpAny E.P .any l.toArray (Post E F w0 C0 K) l.toArray.size (Array.replicate l.toArray.size false) ⟨tmps,E.ds⟩ w.drew
theorem AAny.code{fr:Fr}{σ0:St}{id:Nat}(hm:E.P.follows .mixedOrders=true)(h:AAny E l K fr σ0):ACode E (.region id l.toArray true) K fr σ0:=fun F w0 C0 w C tmps hg hi hf=>wp_region_any hm (h F w0 C0 w C tmps hg hi hf)
theorem AAny.drawJ2{fr:Fr}{σ0:St}(n:Nat)(J:Array Bool->St->(Nat->Option FV)->Prop)(hm:E.P.follows .mixedOrders=true)(hB:drawB l n=true)(hfb:Fr.woO (dsts (l.take n)) fr=some frb)(h0:J (Array.replicate l.length false) σ0 (fun _=>none))
  (hstep : ∀ (listed : Array Bool) (σ : St) (vals : Nat -> Option FV) (i : Nat) (o : Oper), i < n -> l[i]? = some o -> listed.getD i false = false -> listed.size = l.length -> (∀ e ∈ o.after.toList, Region.binds .any e = true -> listed.getD e.on false = true) -> J listed σ vals ->
   dstOk E.N o.dst=true/\Q3x E l.toArray o (Q0m l vals o++frb) σ (fun v σ'=>J (listed.setIfInBounds i true) σ' (updV vals i v)) (fun ps σ'=>K (.panic ps) frb σ'))
  (htail : ∀ σ vals, J (Q09 l.length n) σ vals -> AOps E l.toArray (l.drop n) K (Q0d vals 0 (l.take n) ++ frb) σ) : AAny E l K fr σ0 := by
 have h3:=Fr.woO_eq hfb
 intro F w0 C0 w C tmps hg hi hf
 have hn:n < l.length:=by
  simp only[drawB,Bool.and_eq_true,decide_eq_true_eq]at hB
  exact hB.1.1.1.1.1
 have h:=Qj2 (F:=F) (w0:=w0) (C0:=C0) (J:=J) hB (by rw[←h3];exact Fr.wo_none _ _) hstep htail n (Array.replicate l.toArray.size false) ⟨tmps,E.ds⟩ w.drew (by
   have:∀j,(!(Array.replicate l.toArray.size false).getD j false)=true:=fun j=>by rw[getD_replicate_false];rfl
   simp only[this];rw[List.filter_eq_self.2 (fun _ _=>rfl),List.length_range])
  ⟨by simp,fun j oj _ hl=>(by rw[getD_replicate_false]at hl;cases hl),fun t _ ht=>getD_in (by simpa using ht) (getD_replicate_false _ _)⟩
  ⟨rfl,C,σ0,fun _=>none,by simpa using h0,hg.trans (Goes.drew hi).toO,hi.drew.2,⟨hf.1,fun k x hk=>by
    obtain⟨u,hu,hr⟩:=hf.2 k x (by rw[←h3]at hk;exact (Fr.wo_get hk).1)
    exact⟨u,hu,hr.ext hi.drew.1⟩⟩,fun i o d v _ _ _ hv=>by cases hv⟩
 rw[show n+(l.length - n)=l.toArray.size by simp;omega]at h
 exact h
theorem AAny.drawS2{fr:Fr}{σ0:St}{hd tl:List Oper}(n:Nat)(S:List Nat)(vs:List FV)(M:(Nat->Option FV)->St->Prop)(hm:E.P.follows .mixedOrders=true)(hB:drawB l n=true)(hsp:Q2r n l=some (hd,tl))(hfb:Fr.woO (dsts hd) fr=some frb)(h0:M (fun _=>none) σ0)
  (hM : ∀ f σ, M f σ -> ∀ i, S.any (fun k => Nat.beq k i) = false -> f i = none)
  (hq : ∀ i o, i < n -> S.any (fun k => Nat.beq k i) = false -> l[i]? = some o -> ∃ v, vs[i]? = some v /\ dstOk E.N o.dst = true /\ (o.after.toList.all fun e => !Region.binds .any e || !(S.any fun k => Nat.beq k e.on)) = true /\ ∀ f σ, M f σ -> HStep E l.toArray o (depFr l vs o ++ frb) σ σ v)
  (hs : ∀ f σ i o, M f σ -> S.any (fun k => Nat.beq k i) = true -> l[i]? = some o -> f i = none -> (∀ e ∈ o.after.toList, Region.binds .any e = true -> S.any (fun k => Nat.beq k e.on) = true -> (f e.on).isSome = true) ->
   dstOk E.N o.dst=true/\Q3x E l.toArray o (Q0m l (mixV S vs f) o++frb) σ (fun v σ'=>M (updV f i v) σ') (fun ps σ'=>K (.panic ps) frb σ'))
  (htail:∀f σ,M f σ->(∀i∈S,i < n->(f i).isSome=true)->AOps E l.toArray tl K (Q0d (mixV S vs f) 0 hd++frb) σ):AAny E l K fr σ0:=by
 obtain⟨hsp1,hsp2⟩:=Q2i hsp
 subst hsp1;subst hsp2
 have depEq:∀(o:Oper) (v1 v2:Nat->Option FV),(∀e∈o.after.toList,Region.binds .any e=true->v1 e.on=v2 e.on)->Q0m l v1 o=Q0m l v2 o:=fun o v1 v2 h=>by
  unfold Q0m
  refine Q11 fun e he=>?_
  cases hb:Region.binds .any e with
  |false=>rfl
  |true=>simp only[cond_true];rw[h e he hb]
 refine AAny.drawJ2 n (fun listed σ vals=>listed.size=l.length/\∃f,M f σ/\(∀i,i < n->listed.getD i false=true->vals i=mixV S vs f i)/\(∀i,S.any (fun k=>Nat.beq k i)=true->listed.getD i false=(f i).isSome)) hm hB hfb
  ⟨by simp, _, h0, fun i _ h => absurd h (by rw [getD_replicate_false]; simp), fun i _ => by rw [getD_replicate_false]; rfl⟩ ?_ ?_
 ·intro listed σ vals i o hi hlo hun hsz hall ⟨_,f,hMf,hv,hf⟩
  have hn:n < l.length:=by
   have:=hB
   simp only[drawB,Bool.and_eq_true,decide_eq_true_eq]at this
   exact this.1.1.1.1.1
  have hset:∀(v:FV) j,(listed.setIfInBounds i true).getD j false=if i=j then true else listed.getD j false:=fun _ j=>by
   by_cases e:i=j
   ·subst e;simp[show i < listed.size by omega]
   ·rw[getD_set_ne false e,if_neg e]
  have hlast:∀e∈o.after.toList,Region.binds .any e=true->e.on < n:=fun e he hb=>by
   have hB2:=hB
   simp only[drawB,Bool.and_eq_true,decide_eq_true_eq]at hB2
   have h1:=List.all_eq_true.1 hB2.2 (o,i) (by
    rw[List.mem_zipIdx_iff_getElem?]
    rw[List.getElem?_take_of_lt hi]
    simpa using hlo)
   have h2:=Array.all_eq_true_iff_forall_mem.1 h1 e (by simpa using he)
   simp only[hb,Bool.not_true,Bool.false_or,decide_eq_true_eq]at h2
   omega
  have hdj:Q0m l vals o=Q0m l (mixV S vs f) o:=depEq o _ _ fun e he hb=>hv e.on (hlast e he hb) (hall e he hb)
  rw[hdj]
  cases hS:S.any (fun k=>Nat.beq k i) with
  |true=>
   have hfi:f i=none:=by
    have:=hf i hS
    rw[hun]at this
    cases h:f i with
    |none=>rfl
    |some v=>rw[h]at this;cases this
   obtain⟨k2,k3⟩:=hs f σ i o hMf hS hlo hfi fun e he hb hSe=>by rw[←hf _ hSe];exact hall e he hb
   refine⟨k2,k3.mono fun v σ' k4=>⟨by simp[hsz],updV f i v,k4,fun j hj hlj=>?_,fun j hj=>?_⟩⟩
   ·by_cases e:i=j
    ·subst e
     simp[mixV,hS,updV]
    ·rw[hset v,if_neg e]at hlj
     rw[updV,if_neg e,hv j hj hlj]
     simp only[mixV,updV,if_neg e]
   ·rw[hset v]
    by_cases e:i=j
    ·subst e;simp[updV]
    ·simp only[if_neg e,updV];exact hf j hj
  |false=>
   obtain⟨v,q1,q3,q4,q5⟩:=hq i o hi hS hlo
   have hdd:Q0m l (mixV S vs f) o=depFr l vs o:=by
    unfold Q0m depFr
    refine Q11 fun e he=>?_
    cases hb:Region.binds .any e with
    |false=>rfl
    |true=>
     have h1:=List.all_eq_true.1 q4 e he
     rw[hb]at h1
     simp only[Bool.not_true,Bool.false_or,Bool.not_eq_true']at h1
     simp only[cond_true,mixV,h1,cond_false]
     rfl
   rw[hdd]
   refine⟨q3,.inl (.inl ⟨v,σ,q5 f σ hMf,by simp[hsz],f,hMf,fun j hj hlj=>?_,fun j hj=>?_⟩)⟩
   ·by_cases e:i=j
    ·subst e
     rw[updV,if_pos rfl];simp only[mixV,hS,cond_false];exact q1.symm
    ·rw[hset v,if_neg e]at hlj
     rw[updV,if_neg e,hv j hj hlj]
   ·rw[hset v]
    by_cases e:i=j
    ·subst e;rw[hS]at hj;cases hj
    ·simp only[if_neg e];exact hf j hj
 ·intro σ vals ⟨_,f,hMf,hv,hf⟩
  have hn:n < l.length:=by
   have:=hB
   simp only[drawB,Bool.and_eq_true,decide_eq_true_eq]at this
   exact this.1.1.1.1.1
  have hl:∀j,j < n->(Q09 l.length n).getD j false=true:=fun j hj=>by
   have:j < (Q09 l.length n).size:=by simp[Q09];omega
   simp[Q09,show j < l.length by omega,hj]
  have heq:Q0d vals 0 (l.take n)=Q0d (mixV S vs f) 0 (l.take n):=by
   have:∀(os:List Oper) (k:Nat),k+os.length<=n->Q0d vals k os=Q0d (mixV S vs f) k os:=by
    intro os
    induction os with
    |nil=>intro k _;rfl
    |cons o os ih=>
     intro k hk
     simp only[List.length_cons]at hk
     simp only[Q0d]
     rw[hv k (by omega) (hl k (by omega)),ih (k+1) (by omega)]
   exact this _ 0 (by simp;omega)
  rw[heq]
  exact htail f σ hMf fun i hi hin=>by
   rw[←hf i (List.any_eq_true.2 ⟨i,hi,Q3w i⟩)]
   exact hl i hin
end
def Q0j (E:Env)(ops:Array Oper)(l:List Oper)(frb:Fr)(σ:St)(cs:List (Nat×FV)):Nat->List Oper->List FV->Option (List FV)
 |_,[],_=>some []
 |k,o::os,acc=>bif dstOk E.N o.dst then
   (match lookC k cs with
   |some v=>Q3a (acc++[v]) fun acc'=>(match Q0j E ops l frb σ cs (k+1) os acc' with|some vs=>some (v::vs)|none=>none)
   |none=>bif Q6m o.op then Q3a (depFr l acc o++frb) fun fr=>(match aHead E ops o fr σ with
    |some (v,_)=>Q3a (acc++[v]) fun acc'=>(match Q0j E ops l frb σ cs (k+1) os acc' with|some vs=>some (v::vs)|none=>none)
    |none=>none)else none)else none
theorem Q6l{E:Env}{l:List Oper}{frb:Fr}{σ:St}{cs:List (Nat×FV)}{n:Nat}{vs:List FV}(hT:TabOk E.P E.T)(hall:∀k o,l[k]?=some o->k < n->o.after.all (fun e=>!Region.binds .any e||decide (e.on < k))=true):
  ∀(os:List Oper) (k:Nat) (acc ws:List FV),acc.length=k->(∀i o,os[i]?=some o->l[k+i]?=some o/\k+i < n)->Q0j E l.toArray l frb σ cs k os acc=some ws->acc++ws=vs->
  ∀i o,os[i]?=some o->∃v,ws[i]?=some v/\dstOk E.N o.dst=true/\(lookC (k+i) cs=some v∨(lookC (k+i) cs=none/\HStep E l.toArray o (depFr l vs o++frb) σ σ v))
 |[],k,acc,ws,_,_,_,_,i,o,hi=>by simp at hi
 |o::os,k,acc,ws,hl,hos,h,hv,i,o',hi=>by
  have ho:=hos 0 o rfl
  simp only[Nat.add_zero]at ho
  simp only[Q0j,Q0y]at h
  cases hb:dstOk E.N o.dst with
  |false=>rw[hb]at h;cases h
  |true=>
   rw[hb]at h
   simp only[cond_true]at h
   have rest:∀{v:FV},(match Q0j E l.toArray l frb σ cs (k+1) os (acc++[v]) with|some vs=>some (v::vs)|none=>none)=some ws->(lookC k cs=some v∨(lookC k cs=none/\HStep E l.toArray o (depFr l vs o++frb) σ σ v))->
     ∃v,ws[i]?=some v/\dstOk E.N o'.dst=true/\(lookC (k+i) cs=some v∨(lookC (k+i) cs=none/\HStep E l.toArray o' (depFr l vs o'++frb) σ σ v)):=by
    intro v h hfirst
    split at h
    ·rename_i ws' hw
     simp only[Option.some.injEq]at h;subst h
     cases i with
     |zero=>
      simp at hi;subst hi
      exact⟨v,rfl,hb,hfirst⟩
     |succ i=>
      have:=Q6l hT hall os (k+1) (acc++[v]) ws' (by simp[hl]) (fun i o hi=>by have:=hos (i+1) o hi;rw[show k+1+i=k+(i+1) by omega];exact this) hw (by simpa using hv) i o' (by simpa using hi)
      rw[show k+1+i=k+(i+1) by omega]at this
      simpa using this
    ·cases h
   cases hc:lookC k cs with
   |some v=>
    rw[hc]at h
    exact rest h (.inl hc)
   |none=>
    rw[hc]at h
    simp only at h
    cases hp:Q6m o.op with
    |false=>rw[hp]at h;cases h
    |true=>
     rw[hp]at h
     simp only[cond_true]at h
     split at h
     ·rename_i v σ' ha
      have hdep:depFr l vs o=depFr l acc o:=by
       have:∃r,vs=acc++r:=⟨ws,hv.symm⟩
       obtain⟨r,rfl⟩:=this
       exact Q3b (by rw[hl];exact hall k o ho.1 ho.2)
      have hσ:σ'=σ:=by
       have key:∀{y:FV}{τ:St},(match aOp E.T E.Γ o.op (depFr l acc o++frb) σ with|some (some x,σ')=>some (x,σ')|_=>none)=some (y,τ)->τ=σ:=by
        intro y τ h
        split at h
        ·rename_i h1
         simp only[Option.some.injEq,Prod.mk.injEq]at h
         obtain⟨rfl,rfl⟩:=h
         exact Q71 hp h1
        ·cases h
       unfold aHead at ha
       split at ha
       ·exact key ha
       ·split at ha
        ·split at ha
         ·exact key ha
         ·exact key ha
         ·cases ha;rfl
         ·cases ha;rfl
         ·cases ha;rfl
         ·cases ha
        ·cases ha
      subst hσ
      have hs:=HStep.auto (ops:=l.toArray) hT ha
      rw[←hdep]at hs
      exact rest h (.inr ⟨hc,hs⟩)
     ·cases h
section
variable {E:Env}{l:List Oper}{frb:Fr}{K:Cont}
theorem AAny.drawC2{fr:Fr}{σ0:St}{hd tl:List Oper}{vs0:List FV}(hT:TabOk E.P E.T)(n:Nat)(S:List Nat)(cs:List (Nat×FV))(G:List FV->St->Prop)(hm:E.P.follows .mixedOrders=true)(hB:drawB l n=true)(hsp:Q2r n l=some (hd,tl))(hfb:Fr.woO (dsts hd) fr=some frb)
  (hn:S.Nodup) (hch:chainB l S=true) (hqb:Q8b l S n=true) (h0:G [] σ0) (hrun0:Q0j E l.toArray l frb σ0 (S.map (fun i=>(i,FV.bot))++cs) 0 hd []=some vs0)
  (hrun : ∀ vs σ, G vs σ -> Q0j E l.toArray l frb σ (S.map (fun i => (i, FV.bot)) ++ cs) 0 hd [] = some vs0) (hcs : ∀ vs σ, G vs σ -> Q0c E l frb σ vs0 cs) (hSl : ∀ i ∈ S, i < n)
  (hs : ∀ vs σ, G vs σ -> ∀ i o, S[vs.length]? = some i -> l[i]? = some o -> dstOk E.N o.dst = true /\ Q3x E l.toArray o (Q0m l (mixV S vs0 (fC S vs)) o ++ frb) σ (fun v σ' => G (vs ++ [v]) σ') (fun ps σ' => K (.panic ps) frb σ'))
  (htail : ∀ vs σ, vs.length = S.length -> G vs σ -> AOps E l.toArray tl K (Q0d (mixV S vs0 (fC S vs)) 0 hd ++ frb) σ) : AAny E l K fr σ0 := by
 have hnl:n < l.length:=by
  have:=hB
  simp only[drawB,Bool.and_eq_true,decide_eq_true_eq]at this
  exact this.1.1.1.1.1
 have hlast:∀k o,l[k]?=some o->k < n->o.after.all (fun e=>!Region.binds .any e||decide (e.on < k))=true:=fun k o hk hkn=>by
  have hB2:=hB
  simp only[drawB,Bool.and_eq_true,decide_eq_true_eq]at hB2
  exact List.all_eq_true.1 hB2.2 (o,k) (by
   rw[List.mem_zipIdx_iff_getElem?,List.getElem?_take_of_lt hkn]
   simpa using hk)
 obtain⟨hsp1,hsp2⟩:=Q2i hsp
 refine AAny.drawS2 n S vs0 (fun f σ=>∃vs,vs.length<=S.length/\f=fC S vs/\G vs σ) hm hB hsp hfb ⟨[],by simp,by funext i;cases S <;> rfl,h0⟩ (fun f σ ⟨vs,_,hf,_⟩ i hi=>by rw[hf];exact Qa0 hi) ?_ ?_ ?_
 ·intro i o hi hS hlo
  have hio:hd[i]?=some o:=by rw[←hsp1,List.getElem?_take_of_lt hi];exact hlo
  have key:∀vs σ,G vs σ->∃v,vs0[i]?=some v/\dstOk E.N o.dst=true/\HStep E l.toArray o (depFr l vs0 o++frb) σ σ v:=fun vs σ hG=>by
   obtain⟨v,h1,h3,h4⟩:=Q6l (vs:=vs0) hT hlast hd 0 [] vs0 rfl (fun i o hi=>by
    have hi2:i < n:=by
     have:=(List.getElem?_eq_some_iff.1 hi).1
     rw[←hsp1]at this;simp at this;omega
    rw[←hsp1,List.getElem?_take_of_lt hi2]at hi
    exact⟨by simpa using hi,by omega⟩) (hrun vs σ hG) (List.nil_append _) i o hio
   rw [Nat.zero_add] at h4
   refine⟨v,h1,h3,?_⟩
   rcases h4 with h4|h4
   ·have hl:lookC i cs=some v:=by
     have:∀{S:List Nat},(S.any fun k=>Nat.beq k i)=false->lookC i (S.map (fun i=>(i,FV.bot))++cs)=lookC i cs:=fun {S} hS=>by
      induction S with
      |nil=>rfl
      |cons s S ih=>
       simp only[List.any_cons,Bool.or_eq_false_iff]at hS
       simp only[List.map_cons,List.cons_append,lookC,hS.1,cond_false]
       exact ih hS.2
     rw[this hS]at h4;exact h4
    obtain⟨o',ho',hst⟩:=(hcs vs σ hG).get hl
    rw[hlo]at ho'
    cases ho'
    exact hst
   ·exact h4.2
  have hq:(o.after.toList.all fun e=>!Region.binds .any e||!(S.any fun k=>Nat.beq k e.on))=true:=by
   have h1:=List.all_eq_true.1 hqb (o,i) (by
    rw[List.mem_zipIdx_iff_getElem?,List.getElem?_take_of_lt hi]
    simpa using hlo)
   have h2:inS S i=false:=hS
   simp only[h2,Bool.false_or]at h1
   exact h1
  obtain⟨v,h1,h3,_⟩:=key [] σ0 h0
  refine⟨v,h1,h3,hq,fun f σ ⟨vs,_,_,hG⟩=>?_⟩
  obtain⟨v',h1',_,h4⟩:=key vs σ hG
  rw[h1]at h1'
  cases h1'
  exact h4
 ·rintro f σ i o ⟨vs,hlen,rfl,hG⟩ hS hlo hfi hdep
  obtain⟨s,hsS,he⟩:=List.any_eq_true.1 hS
  obtain rfl:s=i:=Nat.eq_of_beq_eq_true he
  obtain⟨p,hp⟩:=List.mem_iff_getElem?.1 hsS
  have hpS:=(List.getElem?_eq_some_iff.1 hp).1
  have hpv:p=vs.length:=by
   rcases Nat.lt_trichotomy p vs.length with h1|h1|h1
   ·rw[Q9z hn hp h1]at hfi
    have:=(List.getElem?_eq_none_iff.1 hfi);omega
   ·exact h1
   ·exfalso
    obtain⟨q,rfl⟩:∃q,p=q+1:=⟨p - 1,by omega⟩
    obtain⟨i0,hi0⟩:∃i0,S[q]?=some i0:=⟨S[q],List.getElem?_eq_getElem (by omega)⟩
    obtain⟨e,he,hb,heo⟩:=Qbj hch hi0 hp hlo
    have h2:=hdep e he hb (by rw[heo];exact List.any_eq_true.2 ⟨i0,List.mem_of_getElem? hi0,by simp⟩)
    rw[heo,Qe3 hn hi0 (by omega)]at h2
    cases h2
  subst hpv
  obtain⟨k2,k3⟩:=hs vs σ hG s o hp hlo
  exact⟨k2,k3.mono fun v σ' hG'=>⟨vs++[v],by simp;omega,fC_upd hn hp,hG'⟩⟩
 ·rintro f σ ⟨vs,hlen,rfl,hG⟩ hall
  refine htail vs σ ?_ hG
  rcases Nat.lt_or_ge vs.length S.length with h1|h1
  ·exfalso
   obtain⟨i0,hi0⟩:∃i0,S[vs.length]?=some i0:=⟨S[vs.length],List.getElem?_eq_getElem h1⟩
   have hm:=List.mem_of_getElem? hi0
   have:=hall i0 hm (hSl i0 hm)
   rw[Qe3 hn hi0 (Nat.le_refl _)]at this
   cases this
  ·omega
theorem ACode.drawC2{id:Nat}{fr:Fr}{σ0:St}{hd tl:List Oper}{vs0:List FV}(hT:TabOk E.P E.T)(n:Nat)(S:List Nat)(cs:List (Nat×FV))(G:List FV->St->Prop)(hm:E.P.follows .mixedOrders=true)(hB:drawB l n=true)(hsp:Q2r n l=some (hd,tl))(hfb:Fr.woO (dsts hd) fr=some frb)
  (hn:S.Nodup) (hch:chainB l S=true) (hqb:Q8b l S n=true) (h0:G [] σ0) (hrun0:Q0j E l.toArray l frb σ0 (S.map (fun i=>(i,FV.bot))++cs) 0 hd []=some vs0)
  (hrun:∀vs σ,G vs σ->Q0j E l.toArray l frb σ (S.map (fun i=>(i,FV.bot))++cs) 0 hd []=some vs0) (hcs:∀vs σ,G vs σ->Q0c E l frb σ vs0 cs) (hSl:∀i∈S,i < n)
  (hs:∀vs σ,G vs σ->∀i o,S[vs.length]?=some i->l[i]?=some o->dstOk E.N o.dst=true/\Q3x E l.toArray o (Q0m l (mixV S vs0 (fC S vs)) o++frb) σ (fun v σ'=>G (vs++[v]) σ') (fun ps σ'=>K (.panic ps) frb σ'))
  (htail:∀vs σ,vs.length=S.length->G vs σ->AOps E l.toArray tl K (Q0d (mixV S vs0 (fC S vs)) 0 hd++frb) σ):ACode E (.region id l.toArray true) K fr σ0:=AAny.code hm (AAny.drawC2 hT n S cs G hm hB hsp hfb hn hch hqb h0 hrun0 hrun hcs hSl hs htail)
end
end Go.Abs
namespace Go.Abs
section
variable {E:Env}{o:Oper}{fr:Fr}{σ:St}{t t' T0 el yt:TypeId}{x y:Operand}
theorem AStep.mkIfc{c:AC}(hc:E.P.concrete t=true)(ho:o.op=.makeInterface t x)(hx:aEval E.Γ fr x=some (.one c)):AStep E o fr σ (.one (.ifc t false [c])) σ:=by
 refine AStep.quiet fun F w C tmps hi hf=>?_
 have h1:=Q01 (a:=⟨tmps,E.ds⟩) hi hf hx
 refine⟨.iface t (Act.eval ⟨tmps,E.ds⟩ x),?_,[Act.eval ⟨tmps,E.ds⟩ x],⟨_,[],rfl,h1,rfl⟩,.inr ⟨rfl,_,rfl,rfl⟩⟩
 unfold execOp
 simp[ho,run_makeInterface w t _ hc]
theorem AStep.mkIfcA{cs:List AC}(hc:E.P.concrete t=true)(ho:o.op=.makeInterface t x)(hx:aEval E.Γ fr x=some (.agg cs)):AStep E o fr σ (.one (.ifc t true cs)) σ:=by
 refine AStep.quiet fun F w C tmps hi hf=>?_
 obtain⟨xs,h1,h2⟩:=Q01 (a:=⟨tmps,E.ds⟩) hi hf hx
 refine⟨.iface t (.agg xs.toArray),?_,xs,h2,.inl ⟨rfl,rfl⟩⟩
 unfold execOp
 simp[ho,h1,run_makeInterface w t _ hc]
theorem Q84{P:Program}(w:World){d:TypeDesc}(hd:P.underlying t=some d)(hc:P.concrete t=true)(v:Value):(Instr.typeAssert (.iface t v) T0 t true).run P w=.ok (.tuple #[v,.bool true]) w:=by
 unfold Program.concrete at hc
 rw[hd]at hc
 cases d <;> first|(simp at hc;done)|simp[Instr.typeAssert,run_underlying hd]
theorem Q9b{P:Program}(w:World){d:TypeDesc}(hd:P.underlying t=some d)(hc:P.concrete t=true){u z:Value}(hu:u=.nilIface∨∃t' v,u=.iface t' v/\t'≠t)(hz:(zeroValue t).run P w=.ok z w):
  (Instr.typeAssert u T0 t true).run P w=.ok (.tuple #[z,.bool false]) w:=by
 unfold Program.concrete at hc
 rw[hd]at hc
 rcases hu with rfl|⟨t',v,rfl,hne⟩
 ·cases d <;> first|(simp at hc;done)|simp[Instr.typeAssert,run_underlying hd,hz]
 ·cases d <;> first|(simp at hc;done)|simp[Instr.typeAssert,run_underlying hd,hz,hne]
theorem Q3u{P:Program}(hc:P.concrete t=true):∃d,P.underlying t=some d:=by
 unfold Program.concrete at hc
 cases h:P.underlying t with
 |none=>rw[h]at hc;cases hc
 |some d=>exact⟨d,rfl⟩
theorem AStep.assertYes{c:AC}(hc:E.P.concrete t=true)(ho:o.op=.typeAssert x T0 t true)(hx:aEval E.Γ fr x=some (.one (.ifc t false [c]))):AStep E o fr σ (.tup [.one c,.one (.lit (.bool true))]) σ:=by
 refine AStep.quiet fun F w C tmps hi hf=>?_
 obtain⟨d,hd⟩:=Q3u hc
 obtain⟨xs,h1,h2⟩:=Q01 (a:=⟨tmps,E.ds⟩) hi hf hx
 simp only[RV]at h1
 obtain⟨u,us,rfl,h3,rfl⟩:=h1
 rcases h2 with ⟨h2,_⟩|⟨_,v,hv,h2⟩
 ·cases h2
 ·cases hv
  refine⟨.tuple #[u,.bool true],?_,[u,.bool true],rfl,u,[.bool true],rfl,h3,.bool true,[],rfl,⟨rfl,rfl⟩,rfl⟩
  unfold execOp
  simp[ho,h2,Q84 w hd hc]
theorem AStep.assertNo{c:AC}{z:Value}(hc:E.P.concrete t=true)(ho:o.op=.typeAssert x T0 t true)(hz:∀w,(zeroValue t).run E.P w=.ok z w)(h1z:z.oneCell'=true)(hx:aEval E.Γ fr x=some (.one c))
  (hno : c = .lit .nilIface ∨ ∃ t' ag cs, c = .ifc t' ag cs /\ Nat.beq t' t = false) : AStep E o fr σ (.tup [.one (.lit z), .one (.lit (.bool false))]) σ := by
 refine AStep.quiet fun F w C tmps hi hf=>?_
 obtain⟨d,hd⟩:=Q3u hc
 have h1:=Q01 (a:=⟨tmps,E.ds⟩) hi hf hx
 refine⟨.tuple #[z,.bool false],?_,[z,.bool false],rfl,z,[.bool false],rfl,⟨rfl,h1z⟩,.bool false,[],rfl,⟨rfl,rfl⟩,rfl⟩
 have hu:Act.eval ⟨tmps,E.ds⟩ x=.nilIface∨∃t' v,Act.eval ⟨tmps,E.ds⟩ x=.iface t' v/\t'≠t:=by
  rcases hno with rfl|⟨t',ag,cs,rfl,hne⟩
  ·exact .inl h1.1
  ·obtain⟨xs,_,h2⟩:=h1
   have hne':t'≠t:=fun e=>by subst e;simp at hne
   rcases h2 with ⟨_,h2⟩|⟨_,v,_,h2⟩
   ·exact .inr ⟨t',_,h2,hne'⟩
   ·exact .inr ⟨t',_,h2,hne'⟩
 unfold execOp
 simp[ho,Q9b w hd hc hu (hz w)]
theorem AStep.neNilBox{cs:List AC}(ht:E.P.underlying t=some (.pointer el))(ho:o.op=.binOp .neq t x y yt)(hx:aEval E.Γ fr x=some (.one (.box cs)))(hy:aEval E.Γ fr y=some (.one (.lit (.pointer none)))):AStep E o fr σ (.one (.lit (.bool true))) σ:=by
 refine AStep.quiet fun F w C tmps hi hf=>⟨.bool true,?_,rfl,rfl⟩
 obtain⟨ad,h1,_⟩:=Q01 (a:=⟨tmps,E.ds⟩) hi hf hx
 have h2:=Q01 (a:=⟨tmps,E.ds⟩) hi hf hy
 simp only[RF,R]at h2
 unfold execOp
 simp only[ho,h1,h2.1,eqGuard_at_pointer,Sem.run_bind,Sem.run_pure,Result.andThen_ok]
 simp[binOp,Q14 _ _ _ _ ht]
theorem AStep.eqNilBox{cs:List AC}(ht:E.P.underlying t=some (.pointer el))(ho:o.op=.binOp .eql t x y yt)(hx:aEval E.Γ fr x=some (.one (.box cs)))(hy:aEval E.Γ fr y=some (.one (.lit (.pointer none)))):AStep E o fr σ (.one (.lit (.bool false))) σ:=by
 refine AStep.quiet fun F w C tmps hi hf=>⟨.bool false,?_,rfl,rfl⟩
 obtain⟨ad,h1,_⟩:=Q01 (a:=⟨tmps,E.ds⟩) hi hf hx
 have h2:=Q01 (a:=⟨tmps,E.ds⟩) hi hf hy
 simp only[RF,R]at h2
 unfold execOp
 simp only[ho,h1,h2.1,eqGuard_at_pointer,Sem.run_bind,Sem.run_pure,Result.andThen_ok]
 simp[binOp,Q14 _ _ _ _ ht]
end

def AFnP (P:Program)(Γ:List (Nat×List AC))(g:Nat)(args:List FV)(ou:Outer)(Q:FV->Outer->Prop)(QP:List PanicEntry->Outer->Prop):Prop :=
 (∀ (as' : Array Value) (w : World), (callFunc g as').run P w = .ok (.enter g as') w) /\
 ∀(F:Nat->Prop) (w:World) (C:Ctx) (cargs:List Value),C.nl=0->Inv Γ F w C ⟨0,[],ou⟩->RFs w C args cargs->Calls P g cargs.toArray w fun e w'=>
  (∃v r ou' C',e=.returned v/\Goes F isO w C w' C'/\C'.nl=0/\Inv Γ F w' C' ⟨0,[],ou'⟩/\RF w' C' r v/\Q r ou') ∨
  (∃ps ou' C',e=.panicked ps/\Goes F isO w C w' C'/\C'.nl=0/\Inv Γ F w' C' ⟨0,[],ou'⟩/\QP ps ou')
theorem AOps.panicI{E:Env}{ops:Array Oper}{rest:List Oper}{o:Oper}{K:Cont}{fr:Fr}{σ:St}{x:Operand}{t:TypeId}{ag:Bool}{cs:List AC}(hgd:o.guard=none)(ho:o.op=.panic x)(hx:aEval E.Γ fr x=some (.one (.ifc t ag cs)))
  (h:∀(w:World) (C:Ctx) (v:Value),R w C (.ifc t ag cs) v->K (.panic [{ v:=v,recovered:=false }]) fr σ):AOps E ops (o::rest) K fr σ:=by
 intro F w0 C0 w C tmps hg hi hf
 refine wpList_plain hgd fun N' hN=>?_
 have h1:=Q01 (a:=⟨tmps,E.ds⟩) hi hf hx
 have hv:∃u,Act.eval ⟨tmps,E.ds⟩ x=.iface t u:=by
  obtain⟨xs,_,⟨_,h2⟩|⟨_,v,_,h2⟩⟩:=h1 <;> exact⟨_,h2⟩
 obtain⟨u,hu⟩:=hv
 have hrun:(execOp (Act.eval ⟨tmps,E.ds⟩) o).run E.P w=.halt (.panic (.iface t u)) w:=by
  unfold execOp
  simp only[ho,hu]
  simp[Instr.panic,goPanic]
 unfold Oper.wp
 rw[hrun,Oper.upon_panic]
 exact⟨rfl,fr,σ,C,hg,hi,hf,h w C _ (by rw[←hu];exact h1)⟩
theorem AFnP.ofBody{P:Program}{T:Tab}{Γ:List (Nat×List AC)}{g:Nat}{fn:Func}{c:Code}{args:List FV}{ou:Outer}{Q:FV->Outer->Prop}{QP:List PanicEntry->Outer->Prop}(hT:TabOk P T)(hΓ:∀g cs,(g,cs)∈Γ->idsL isO cs)(hf:P.funcs[g]?=some fn)(hb:fn.body=some c)(hname:(fn.name == "runtime.NumGoroutine")=false)
  (hlen : args.length <= fn.ntmps)
  (h : OuOk ou -> ACode ⟨P, T, Γ, fn.ntmps, []⟩ c (Q03 ⟨P, T, Γ, fn.ntmps, []⟩ (Fin ⟨P, T, Γ, fn.ntmps, []⟩ fn Q) [.pan fun ps σ => OuOk σ.ou /\ QP ps σ.ou]) (argFr 0 args) ⟨0, [], ou⟩) : AFnP P Γ g args ou Q QP := by
 refine⟨fun as' w=>?_,fun F w C cargs h0 hi hr=>?_⟩
 ·simp[callFunc,hf,hb]
  simpa using hname
 ·have hcl:cargs.length=args.length:=by
   have:∀(vs:List FV) (xs:List Value),RFs w C vs xs->xs.length=vs.length:=by
    intro vs
    induction vs with
    |nil=>intro xs h;simp only[RFs]at h;simp[h]
    |cons v vs ih=>intro xs h;simp only[RFs]at h;obtain⟨u,us,rfl,_,h2⟩:=h;simp[ih us h2]
   exact this _ _ hr
  refine calls_of_wp hf hb ?_
  have hfr:FrOk w C fn.ntmps (argFr 0 args) (cargs.toArray++Array.replicate (fn.ntmps - cargs.toArray.size) undef):=by
   refine⟨by simp;omega,fun k x hk=>?_⟩
   obtain⟨_,h2⟩:=Q5r args 0 k x hk
   simp only[Nat.sub_zero]at h2
   obtain⟨u,hu,hru⟩:=RFs.get hr h2
   refine⟨u,?_,hru⟩
   have hlt:k < cargs.length:=(List.getElem?_eq_some_iff.1 hu).1
   rw[Array.getElem?_append_left (by simpa using hlt)]
   simpa using hu
  refine wp_mono (h (OuOk.of_inv hi h0) F w C w C _ (Goes.refl _ _ _ _) hi hfr) fun e a w' hp=>?_
  obtain⟨hd,fr',σ',C',hgo,hi',hf',hk⟩:=hp
  have hc:Chg isO w' C' w' { C' with nl:=0 }:=⟨fun _ _=>rfl,fun _ h=>h,fun i hp ho=>⟨by cases i with|l k=>cases hp|o k=>exact ho,rfl,rfl⟩⟩
  have hc0:∀i,C.ok i->isO i:=Q49 h0
  have drop:OuOk σ'.ou->Inv Γ F w' { C' with nl:=0 } ⟨0,[],σ'.ou⟩:=fun h4=>by
   refine⟨hi'.base,rfl,fun g cs hm=>?_,hi'.prot,fun i o ho=>?_,fun i j o o' g k1 k2 k3 k4=>?_⟩
   ·have:=hi'.glob g cs hm
    exact RG.chg hc (hΓ g cs hm) this
   ·cases i with
    |l k=>cases ho
    |o k=>
     obtain⟨k1,k2⟩:=hi'.obj (.o k) o ho
     exact⟨k1,k2.ctx isO (h4 k o ho) trivial k1 hc (fun _ h=>h) (fun _ h=>h)⟩
   ·cases i with
    |l k=>cases k1
    |o k=>cases j with
     |l k=>cases k2
     |o k'=>
      have e1:=AObj.block_ctx (o:=o) isO (i:=.o k) trivial (hi'.obj (.o k) o k1).1 hc
      have e2:=AObj.block_ctx (o:=o') isO (i:=.o k') trivial (hi'.obj (.o k') o' k2).1 hc
      exact hi'.inj (.o k) (.o k') o o' g k1 k2 (by rw[←e1];exact k3) (by rw[←e2];exact k4)
  have fin:Fin ⟨P,T,Γ,fn.ntmps,[]⟩ fn Q fr' σ'->a.defers=[]/\∃v,(results fn a.tmps).run P w'=.ok v w'/\((∃v' r ou' C',Ending.returned v=.returned v'/\Goes F isO w C w' C'/\C'.nl=0/\Inv Γ F w' C' ⟨0,[],ou'⟩/\RF w' C' r v'/\Q r ou') ∨
    (∃ps ou' C',Ending.returned v=.panicked ps/\Goes F isO w C w' C'/\C'.nl=0/\Inv Γ F w' C' ⟨0,[],ou'⟩/\QP ps ou')):=by
   rintro⟨r,r',h1,h2,h3,h4,h5⟩
   obtain⟨u,hu,hru⟩:=Qcr (tmps:=a.tmps) hT hi' hf' h1
   exact⟨hd,u,hu,.inl ⟨u,r',σ'.ou,{ C' with nl:=0 },rfl,⟨hgo.stp,hgo.chg.trans hc,hgo.no,hgo.newp⟩,rfl,drop h4,RF.chg hc r' u h3 (h2 _ _ _ hru),h5⟩⟩
  cases e with
  |normal=>exact fin hk
  |ret=>exact fin hk
  |panic ps=>exact⟨hd,.inr ⟨ps,σ'.ou,{ C' with nl:=0 },rfl,⟨hgo.stp,hgo.chg.trans hc,hgo.no,hgo.newp⟩,rfl,drop hk.1,hk.2⟩⟩
  |exit id=>exact hk.elim
  |goto l=>exact hk.elim
  |outgrown=>exact hk.elim
theorem AFnP.walk{P:Program}{T:Tab}{Γ:List (Nat×List AC)}{g:Nat}{fn:Func}{c:Code}{args:List FV}{ou:Outer}{Q:FV->Outer->Prop}{QP:List PanicEntry->Outer->Prop}(N:Nat)(hT:TabOk P T)(hΓ:∀g cs,(g,cs)∈Γ->idsL isO cs)(hf:P.funcs[g]?=some fn)(hb:fn.body=some c)(hname:(fn.name == "runtime.NumGoroutine")=false)
  (hN:fn.ntmps=N) (hlen:Nat.ble args.length N=true) (h:OuOk ou->ACode ⟨P,T,Γ,N,[]⟩ c (Q03 ⟨P,T,Γ,N,[]⟩ (Fin ⟨P,T,Γ,N,[]⟩ fn Q) [.pan fun ps σ=>OuOk σ.ou/\QP ps σ.ou]) (argFr 0 args) ⟨0,[],ou⟩):AFnP P Γ g args ou Q QP:=by
 subst hN
 exact AFnP.ofBody hT hΓ hf hb hname (Nat.le_of_ble_eq_true hlen) h
theorem Qct{P:Program}{t:TypeId}{z:Value}(h:((P.info? t).bind (·.zero))=some z)(w:World):(zeroValue t).run P w=.ok z w:=by
 cases hi:P.info? t with
 |none=>rw[hi]at h;cases h
 |some i=>rw[hi]at h;simp only[Option.bind_some]at h;simp[zeroValue,typeInfo,hi,h]
end Go.Abs
namespace Go.Abs
def adI (a b:Int):Int:=bI (BitVec.ofInt 64 a &&& BitVec.ofInt 64 b)
theorem AStep.and{E:Env}{o:Oper}{fr:Fr}{σ:St}{t yt:TypeId}{x y:Operand}{a b:Int}(ho:o.op=.binOp .and t x y yt)(hx:aEval E.Γ fr x=some (.one (.lit (.int .i64 a))))(hy:aEval E.Γ fr y=some (.one (.lit (.int .i64 b)))):AStep E o fr σ (.one (.lit (.int .i64 (adI a b)))) σ:=by
 refine AStep.quiet fun F w C tmps hi hf=>⟨.int .i64 (adI a b),?_,rfl,rfl⟩
 have h1:=Q01 (a:=⟨tmps,E.ds⟩) hi hf hx
 have h2:=Q01 (a:=⟨tmps,E.ds⟩) hi hf hy
 simp only[RF,R]at h1 h2
 unfold execOp
 simp only[ho,h1.1,h2.1,eqGuard_at_int,Sem.run_bind,Sem.run_pure,Result.andThen_ok]
 rfl
theorem Qjx(a:Int):adI a 2147483647=a % 2147483648:=by
 have h1:(BitVec.ofInt 64 a &&& BitVec.ofInt 64 2147483647).toNat=(a % 2147483648).toNat:=by
  rw[BitVec.toNat_and,show (BitVec.ofInt 64 2147483647).toNat=2 ^ 31 - 1 by decide,Nat.and_two_pow_sub_one_eq_mod]
  rw[BitVec.toNat_ofInt]
  have h2:a % 2147483648=a % 18446744073709551616 % 2147483648:=(Int.emod_emod_of_dvd a (by decide)).symm
  rw[h2]
  have h3:0<=a % 18446744073709551616:=Int.emod_nonneg _ (by decide)
  rw[show ((2 ^ 64:Nat):Int)=18446744073709551616 by decide]
  omega
 unfold adI bI
 rw[h1]
 have h4:0<=a % 2147483648:=Int.emod_nonneg _ (by decide)
 have h5:a % 2147483648 < 2147483648:=Int.emod_lt_of_pos _ (by decide)
 simp[IntKind.wrap,IntKind.signed,IntKind.bits,Int.bmod]
 omega
end Go.Abs
namespace Go.Abs
section
variable {E:Env}{l:List Oper}{frb:Fr}{K:Cont}
theorem AAny.drawSt{fr:Fr}{σ0:St}{hd tl:List Oper}{vs0:List FV}{op:Oper}(hT:TabOk E.P E.T)(n p:Nat)(cs:List (Nat×FV))(s1:St)(hm:E.P.follows .mixedOrders=true)(hB:drawB l n=true)(hsp:Q2r n l=some (hd,tl))(hfb:Fr.woO (dsts hd) fr=some frb)
  (hqb:Q8b l [p] n=true) (hrun0:Q0j E l.toArray l frb σ0 ((p,.bot)::cs) 0 hd []=some vs0) (hrun1:Q0j E l.toArray l frb s1 ((p,.bot)::cs) 0 hd []=some vs0) (hop:l[p]?=some op) (hpn:Nat.blt p n=true) (hgd:op.guard=none) (hd0:dstOk E.N op.dst=true)
  (hcs0:Q0c E l frb σ0 vs0 cs) (hcs1:Q0c E l frb s1 vs0 cs) (hst:AStep E op (Q0m l (mixV [p] vs0 (fC [p] [])) op++frb) σ0 .bot s1) (htail:AOps E l.toArray tl K (Q0d (mixV [p] vs0 (fC [p] [.bot])) 0 hd++frb) s1):AAny E l K fr σ0:=by
 refine AAny.drawC2 hT n [p] cs (fun vs σ=>match vs with|[]=>σ=σ0|[v]=>v=.bot/\σ=s1|_=>False) hm hB hsp hfb (by simp) rfl hqb rfl hrun0 ?_ ?_ (fun i hi=>by simp at hi;subst hi;exact Nat.le_of_ble_eq_true (show Nat.ble (i+1) n=true from hpn)) ?_ ?_
 ·intro vs σ h
  match vs with
  |[]=>subst h;exact hrun0
  |[_]=>obtain⟨_,rfl⟩:=h;exact hrun1
  |_::_::_=>exact h.elim
 ·intro vs σ h
  match vs with
  |[]=>subst h;exact hcs0
  |[_]=>obtain⟨_,rfl⟩:=h;exact hcs1
  |_::_::_=>exact h.elim
 ·intro vs σ h i o hi ho
  match vs with
  |[]=>
   subst h;cases hi;rw[hop]at ho;cases ho
   exact⟨hd0,.inl (.inl ⟨.bot,s1,by unfold HStep;rw[hgd];exact hst,rfl,rfl⟩)⟩
  |_::_=>cases hi
 ·intro vs σ hl h
  match vs with
  |[_]=>obtain⟨rfl,rfl⟩:=h;exact htail
  |[]=>cases hl
  |_::_::_=>exact h.elim
theorem ACode.drawSt{id:Nat}{fr:Fr}{σ0:St}{hd tl:List Oper}{vs0:List FV}{op:Oper}(hT:TabOk E.P E.T)(n p:Nat)(cs:List (Nat×FV))(s1:St)(hm:E.P.follows .mixedOrders=true)(hB:drawB l n=true)(hsp:Q2r n l=some (hd,tl))(hfb:Fr.woO (dsts hd) fr=some frb)
  (hqb:Q8b l [p] n=true) (hrun0:Q0j E l.toArray l frb σ0 ((p,.bot)::cs) 0 hd []=some vs0) (hrun1:Q0j E l.toArray l frb s1 ((p,.bot)::cs) 0 hd []=some vs0) (hop:l[p]?=some op) (hpn:Nat.blt p n=true) (hgd:op.guard=none) (hd0:dstOk E.N op.dst=true)
  (hcs0:Q0c E l frb σ0 vs0 cs) (hcs1:Q0c E l frb s1 vs0 cs) (hst:AStep E op (Q0m l (mixV [p] vs0 (fC [p] [])) op++frb) σ0 .bot s1) (htail:AOps E l.toArray tl K (Q0d (mixV [p] vs0 (fC [p] [.bot])) 0 hd++frb) s1):ACode E (.region id l.toArray true) K fr σ0:=AAny.code hm (AAny.drawSt hT n p cs s1 hm hB hsp hfb hqb hrun0 hrun1 hop hpn hgd hd0 hcs0 hcs1 hst htail)
theorem AAny.drawCS{fr:Fr}{σ0:St}{hd tl:List Oper}{vs0:List FV}{oc oa ob op:Oper}(hT:TabOk E.P E.T)(n pc a b p:Nat)(X Y:FV)(cs:List (Nat×FV))(P P2:FV->St->Prop)(hm:E.P.follows .mixedOrders=true)(hB:drawB l n=true)(hsp:Q2r n l=some (hd,tl))(hfb:Fr.woO (dsts hd) fr=some frb)
  (hnd:[pc,a,b,p].Nodup) (hch:chainB l [pc,a,b,p]=true) (hqb:Q8b l [pc,a,b,p] n=true) (hrun0:Q0j E l.toArray l frb σ0 ([(pc,.bot),(a,.bot),(b,.bot),(p,.bot)]++cs) 0 hd []=some vs0) (hoc:l[pc]?=some oc) (hoa:l[a]?=some oa) (hob:l[b]?=some ob) (hop:l[p]?=some op)
  (hn:([pc,a,b,p].all fun i=>Nat.blt i n)=true) (hds:([oc,oa,ob,op].all fun o=>dstOk E.N o.dst&&o.guard.isNone)=true)
  (hrunP:∀v σ,P v σ->Q0j E l.toArray l frb σ ([(pc,.bot),(a,.bot),(b,.bot),(p,.bot)]++cs) 0 hd []=some vs0) (hrunQ:∀v σ,P2 v σ->Q0j E l.toArray l frb σ ([(pc,.bot),(a,.bot),(b,.bot),(p,.bot)]++cs) 0 hd []=some vs0)
  (hcs0:Q0c E l frb σ0 vs0 cs) (hcsP:∀v σ,P v σ->Q0c E l frb σ vs0 cs) (hcsQ:∀v σ,P2 v σ->Q0c E l frb σ vs0 cs)
  (hcall:Q3e E oc (Q0m l (mixV [pc,a,b,p] vs0 (fC [pc,a,b,p] [])) oc++frb) σ0 P (fun ps σ'=>K (.panic ps) frb σ'))
  (ha:∀v σ,P v σ->AStep E oa (Q0m l (mixV [pc,a,b,p] vs0 (fC [pc,a,b,p] [v])) oa++frb) σ X σ)
  (hb:∀v σ,P v σ->AStep E ob (Q0m l (mixV [pc,a,b,p] vs0 (fC [pc,a,b,p] [v,X])) ob++frb) σ Y σ)
  (hst:∀v σ,P v σ->∃σ',P2 v σ'/\AStep E op (Q0m l (mixV [pc,a,b,p] vs0 (fC [pc,a,b,p] [v,X,Y])) op++frb) σ .bot σ')
  (htail:∀v σ,P2 v σ->AOps E l.toArray tl K (Q0d (mixV [pc,a,b,p] vs0 (fC [pc,a,b,p] [v,X,Y,.bot])) 0 hd++frb) σ):AAny E l K fr σ0:=by
 simp only[List.all_cons,List.all_nil,Bool.and_true,Bool.and_eq_true]at hds hn
 obtain⟨⟨d1,g1⟩,⟨d2,g2⟩,⟨d3,g3⟩,d4,g4⟩:=hds
 have g1:=Option.isNone_iff_eq_none.1 g1
 have g2:=Option.isNone_iff_eq_none.1 g2
 have g3:=Option.isNone_iff_eq_none.1 g3
 have g4:=Option.isNone_iff_eq_none.1 g4
 refine AAny.drawC2 hT n [pc,a,b,p] cs (fun vs σ=>match vs with|[]=>σ=σ0|[v]=>P v σ|[v,x]=>P v σ/\x=X|[v,x,y]=>P v σ/\x=X/\y=Y|[v,x,y,z]=>P2 v σ/\x=X/\y=Y/\z=.bot|_=>False) hm hB hsp hfb hnd hch hqb rfl hrun0 ?_ ?_ (fun i hi=>?_) ?_ ?_
 ·intro vs σ h
  match vs with
  |[]=>subst h;exact hrun0
  |[_]=>exact hrunP _ _ h
  |[_,_]=>exact hrunP _ _ h.1
  |[_,_,_]=>exact hrunP _ _ h.1
  |[_,_,_,_]=>exact hrunQ _ _ h.1
  |_::_::_::_::_::_=>exact h.elim
 ·intro vs σ h
  match vs with
  |[]=>subst h;exact hcs0
  |[_]=>exact hcsP _ _ h
  |[_,_]=>exact hcsP _ _ h.1
  |[_,_,_]=>exact hcsP _ _ h.1
  |[_,_,_,_]=>exact hcsQ _ _ h.1
  |_::_::_::_::_::_=>exact h.elim
 ·simp at hi
  rcases hi with rfl|rfl|rfl|rfl
  ·exact Nat.le_of_ble_eq_true (show Nat.ble (i+1) n=true from hn.1)
  ·exact Nat.le_of_ble_eq_true (show Nat.ble (i+1) n=true from hn.2.1)
  ·exact Nat.le_of_ble_eq_true (show Nat.ble (i+1) n=true from hn.2.2.1)
  ·exact Nat.le_of_ble_eq_true (show Nat.ble (i+1) n=true from hn.2.2.2)
 ·intro vs σ h i o hi ho
  match vs with
  |[]=>
   subst h;cases hi;rw[hoc]at ho;cases ho
   exact⟨d1,.inr ⟨g1,hcall⟩⟩
  |[v]=>
   cases hi;rw[hoa]at ho;cases ho
   exact⟨d2,.inl (.inl ⟨X,σ,by unfold HStep;rw[g2];exact ha v σ h,h,rfl⟩)⟩
  |[v,_]=>
   obtain⟨h,rfl⟩:=h
   cases hi;rw[hob]at ho;cases ho
   exact⟨d3,.inl (.inl ⟨Y,σ,by unfold HStep;rw[g3];exact hb v σ h,h,rfl,rfl⟩)⟩
  |[v,_,_]=>
   obtain⟨h,rfl,rfl⟩:=h
   cases hi;rw[hop]at ho;cases ho
   obtain⟨σ',h2,h3⟩:=hst v σ h
   exact⟨d4,.inl (.inl ⟨.bot,σ',by unfold HStep;rw[g4];exact h3,h2,rfl,rfl,rfl⟩)⟩
  |_::_::_::_::_=>cases hi
 ·intro vs σ hl h
  match vs with
  |[v,_,_,_]=>obtain⟨h,rfl,rfl,rfl⟩:=h;exact htail v σ h
  |[]|[_]|[_,_]|[_,_,_]=>cases hl
  |_::_::_::_::_::_=>exact h.elim
theorem ACode.drawCS{id:Nat}{fr:Fr}{σ0:St}{hd tl:List Oper}{vs0:List FV}{oc oa ob op:Oper}(hT:TabOk E.P E.T)(n pc a b p:Nat)(X Y:FV)(cs:List (Nat×FV))(P P2:FV->St->Prop)(hm:E.P.follows .mixedOrders=true)(hB:drawB l n=true)(hsp:Q2r n l=some (hd,tl))(hfb:Fr.woO (dsts hd) fr=some frb)
  (hnd:[pc,a,b,p].Nodup) (hch:chainB l [pc,a,b,p]=true) (hqb:Q8b l [pc,a,b,p] n=true) (hrun0:Q0j E l.toArray l frb σ0 ([(pc,.bot),(a,.bot),(b,.bot),(p,.bot)]++cs) 0 hd []=some vs0) (hoc:l[pc]?=some oc) (hoa:l[a]?=some oa) (hob:l[b]?=some ob) (hop:l[p]?=some op)
  (hn:([pc,a,b,p].all fun i=>Nat.blt i n)=true) (hds:([oc,oa,ob,op].all fun o=>dstOk E.N o.dst&&o.guard.isNone)=true)
  (hrunP:∀v σ,P v σ->Q0j E l.toArray l frb σ ([(pc,.bot),(a,.bot),(b,.bot),(p,.bot)]++cs) 0 hd []=some vs0) (hrunQ:∀v σ,P2 v σ->Q0j E l.toArray l frb σ ([(pc,.bot),(a,.bot),(b,.bot),(p,.bot)]++cs) 0 hd []=some vs0)
  (hcs0:Q0c E l frb σ0 vs0 cs) (hcsP:∀v σ,P v σ->Q0c E l frb σ vs0 cs) (hcsQ:∀v σ,P2 v σ->Q0c E l frb σ vs0 cs)
  (hcall:Q3e E oc (Q0m l (mixV [pc,a,b,p] vs0 (fC [pc,a,b,p] [])) oc++frb) σ0 P (fun ps σ'=>K (.panic ps) frb σ'))
  (ha:∀v σ,P v σ->AStep E oa (Q0m l (mixV [pc,a,b,p] vs0 (fC [pc,a,b,p] [v])) oa++frb) σ X σ)
  (hb:∀v σ,P v σ->AStep E ob (Q0m l (mixV [pc,a,b,p] vs0 (fC [pc,a,b,p] [v,X])) ob++frb) σ Y σ)
  (hst:∀v σ,P v σ->∃σ',P2 v σ'/\AStep E op (Q0m l (mixV [pc,a,b,p] vs0 (fC [pc,a,b,p] [v,X,Y])) op++frb) σ .bot σ')
  (htail:∀v σ,P2 v σ->AOps E l.toArray tl K (Q0d (mixV [pc,a,b,p] vs0 (fC [pc,a,b,p] [v,X,Y,.bot])) 0 hd++frb) σ):ACode E (.region id l.toArray true) K fr σ0:=AAny.code hm (AAny.drawCS hT n pc a b p X Y cs P P2 hm hB hsp hfb hnd hch hqb hrun0 hoc hoa hob hop hn hds hrunP hrunQ hcs0 hcsP hcsQ hcall ha hb hst htail)
theorem Q3e.ofR{o:Oper}{fr:Fr}{σ:St}{P:FV->St->Prop}{PP:List PanicEntry->St->Prop}(h:Q2k E o fr σ P):Q3e E o fr σ P PP:=fun F w C tmps hi hf next Q hk _=>h F w C tmps hi hf next Q hk
end
end Go.Abs
namespace Go.Abs
theorem Qcx{p:Id->Prop}{s cap:Nat}(es:List (List AC))(h:idsS p es):(AObj.cells (vec s es cap)).ids p:=by
 show idsL p (vec s es cap)
 refine Q39.2 fun c hc=>?_
 unfold vec at hc
 rcases List.mem_append.1 hc with hc|hc
 ·obtain⟨x,hx,hcx⟩:=List.mem_flatten.1 hc
  exact Q39.1 (Qdv.1 h x hx) c hcx
 ·obtain⟨_,rfl⟩:=List.mem_replicate.1 hc
  trivial
theorem Q2d{ou:Outer}{k:Nat}{o:AObj}(h:OuOk ou)(ho:o.ids isO):OuOk (updO ou k o):=fun j x hx=>by
 by_cases e:k=j
 ·subst e;rw[Q06]at hx;cases hx;exact ho
 ·rw[Q04 _ e]at hx;exact h j x hx
end Go.Abs
namespace Go.Abs
theorem Qjm{P:Program}{T:Tab}{Γ:List (Nat×List AC)}{N:Nat}{fn:Func}{ds:List Deferred}{Q:FV->Outer->Prop}{F:Nat->Prop}{w w':World}{C C':Ctx}{ou:Outer}{fr':Fr}{σ':St}{tmps:Array Value}(hT:TabOk P T)(h0:C.nl=0)(hi:Inv Γ F w C ⟨0,[],ou⟩)
  (hgo:Goes F isO w C w' C') (hi':Inv Γ F w' C' σ') (hf':FrOk w' C' N fr' tmps) (h:Fin ⟨P,T,Γ,N,ds⟩ fn Q fr' σ'):∃v,(results fn tmps).run P w'=.ok v w'/\(∃v' r ou' C',Ending.returned v=.returned v'/\Goes F isO w C w' C'/\C'.nl=0/\Inv Γ F w' C' ⟨0,[],ou'⟩/\RF w' C' r v'/\Q r ou'):=by
 obtain⟨r,r',h1,h2,h3,h4,h5⟩:=h
 obtain⟨u,hu,hru⟩:=Qcr (tmps:=tmps) hT hi' hf' h1
 have hc:Chg isO w' C' w' { C' with nl:=0 }:=⟨fun _ _=>rfl,fun _ h=>h,fun i hp ho=>⟨by cases i with|l k=>cases hp|o k=>exact ho,rfl,rfl⟩⟩
 have hc0:∀i,C.ok i->isO i:=Q49 h0
 refine⟨u,hu,u,r',σ'.ou,{ C' with nl:=0 },rfl,⟨hgo.stp,hgo.chg.trans hc,hgo.no,hgo.newp⟩,rfl,⟨hi'.base,rfl,fun g cs hm=>?_,hi'.prot,fun i o ho=>?_,fun i j o o' g k1 k2 k3 k4=>?_⟩,RF.chg hc r' u h3 (h2 _ _ _ hru),h5⟩
 ·have:=hi.glob g cs hm
  have hids:=Q0t hc0 cs (RL.idsOk cs _ this.rl)
  exact RG.chg (hgo.chg.trans hc) hids this
 ·cases i with
  |l k=>cases ho
  |o k=>
   obtain⟨k1,k2⟩:=hi'.obj (.o k) o ho
   exact⟨k1,k2.ctx isO (h4 k o ho) trivial k1 hc (fun _ h=>h) (fun _ h=>h)⟩
 ·cases i with
  |l k=>cases k1
  |o k=>cases j with
   |l k=>cases k2
   |o k'=>
    have e1:=AObj.block_ctx (o:=o) isO (i:=.o k) trivial (hi'.obj (.o k) o k1).1 hc
    have e2:=AObj.block_ctx (o:=o') isO (i:=.o k') trivial (hi'.obj (.o k') o' k2).1 hc
    exact hi'.inj (.o k) (.o k') o o' g k1 k2 (by rw[←e1];exact k3) (by rw[←e2];exact k4)
theorem RV.len{w:World}{C:Ctx}:∀{cs:List AC}{xs:List Value},RV w C cs xs->xs.length=cs.length
 |[],xs,h=>by simp only[RV]at h;simp[h]
 |c::cs,xs,h=>by simp only[RV]at h;obtain⟨u,us,rfl,_,h2⟩:=h;simp[RV.len h2]
theorem AFn.ofDefer{P:Program}{T:Tab}{Γ:List (Nat×List AC)}{g gd i1 d5:Nat}{fn:Func}{r0 rest:Code}{o0 o1:Oper}{args:List FV}{ou:Outer}{Q:FV->Outer->Prop}{fr1:Fr}{σ1:St}{first caps:List AC}(hT:TabOk P T)(hf:P.funcs[g]?=some fn)(hb:fn.body=some (.seq r0 (.seq (.region i1 #[o0,o1] false) rest)))(hname:(fn.name == "runtime.NumGoroutine")=false)
  (hlen : args.length <= fn.ntmps) (h0 : OuOk ou -> ACode ⟨P, T, Γ, fn.ntmps, []⟩ r0 (fun e fr σ => e = .normal /\ fr = fr1 /\ σ = σ1) (argFr 0 args) ⟨0, [], ou⟩)
  (hg0 : o0.guard = none) (hd0 : o0.dst = some d5) (hdl : d5 < fn.ntmps) (hs0 : AStep ⟨P, T, Γ, fn.ntmps, []⟩ o0 fr1 σ1 (.one (.fn (.func gd) first caps)) σ1)
  (hg1 : o1.guard = none) (hd1 : o1.dst = none) (ho1 : o1.op = .defer { callee := .value (.tmp d5), args := #[], argTypes := #[] })
  (hdef : ∀ (us : Array Value) (w : World), (callFunc gd us).run P w = .ok (.enter gd us) w /\ (us.size = first.length + caps.length -> CallsD P gd us .returning w fun e u' w' => (∃ v, e = .returned v) /\ u' = .returning /\ w' = w))
  (hrest : OuOk ou -> ∀ ds, ACode ⟨P, T, Γ, fn.ntmps, ds⟩ rest (Q03 ⟨P, T, Γ, fn.ntmps, ds⟩ (Fin ⟨P, T, Γ, fn.ntmps, ds⟩ fn Q) []) ((d5, .one (.fn (.func gd) first caps)) :: fr1) σ1) : AFn P Γ g args ou Q := by
 refine⟨fun vs0 w=>?_,fun F w C cargs h0' hi hr=>?_⟩
 ·simp[callFunc,hf,hb]
  simpa using hname
 ·have hcl:cargs.length=args.length:=by
   have:∀(vs:List FV) (xs:List Value),RFs w C vs xs->xs.length=vs.length:=by
    intro vs
    induction vs with
    |nil=>intro xs h;simp only[RFs]at h;simp[h]
    |cons v vs ih=>intro xs h;simp only[RFs]at h;obtain⟨u,us,rfl,_,h2⟩:=h;simp[ih us h2]
   exact this _ _ hr
  refine calls_of_wp_defers hf hb ?_
  have hfr:FrOk w C fn.ntmps (argFr 0 args) (cargs.toArray++Array.replicate (fn.ntmps - cargs.toArray.size) undef):=by
   refine⟨by simp;omega,fun k x hk=>?_⟩
   obtain⟨_,h2⟩:=Q5r args 0 k x hk
   simp only[Nat.sub_zero]at h2
   obtain⟨u,hu,hru⟩:=RFs.get hr h2
   refine⟨u,?_,hru⟩
   have hlt:k < cargs.length:=(List.getElem?_eq_some_iff.1 hu).1
   rw[Array.getElem?_append_left (by simpa using hlt)]
   simpa using hu
  have hou:=OuOk.of_inv hi h0'
  refine wp_seq (wp_mono (h0 hou F w C w C _ (Goes.refl _ _ _ _) hi hfr) fun e a w1 hp=>?_)
  obtain⟨hda,fr',σ',C1,hg1',hi1,hf1,rfl,rfl,rfl⟩:=hp
  have ha:a=⟨a.tmps,[]⟩:=by cases a;simp_all
  rw[ha]
  refine wp_seq (wp_region_lit (l:=[o0,o1]) ?_)
  refine wpList_plain hg0 fun N' hN=>hs0 F w1 C1 a.tmps hi1 hf1 N' _ fun u w2 C2 hgo2 hi2 hr2=>?_
  refine hN _ _ ?_
  have hf2:FrOk w2 C2 fn.ntmps ((d5,.one (.fn (.func gd) first caps))::fr') (Act.put ⟨a.tmps,[]⟩ o0.dst u).tmps:=by
   have:=Q1v (ds:=[]) (dst:=some d5) (hf1.ext hgo2.chg) (by simp[dstOk,Nat.blt];omega) hr2
   rw[hd0];exact this
  rw[Q2m]
  generalize hat:(Act.put ⟨a.tmps,[]⟩ o0.dst u).tmps=tm2 at hf2
  refine wpList_plain hg1 fun N2 hN2=>?_
  obtain⟨u5,hu5,hr5⟩:=hf2.2 d5 (.one (.fn (.func gd) first caps)) (by simp[Fr.get])
  simp only[RF,R]at hr5
  obtain⟨xs,ys,rfl,hx,hy⟩:=hr5
  have hev:Act.eval ⟨tm2,[]⟩ (.tmp d5)=.func (.func gd) xs.toArray ys.toArray:=by
   simp[Act.eval,hu5]
  have hrun:(execOp (Act.eval ⟨tm2,[]⟩) o1).run P w2=.ok (.defer ⟨.fn (.func gd) ys.toArray,xs.toArray⟩) w2:=by
   unfold execOp
   simp only[ho1,resolve,Sem.run_bind,hev,Deferred.ofValue,Sem.run_pure,Result.andThen_ok]
   simp
  unfold Oper.wp
  rw[hrun,Oper.upon_defer]
  refine hN2 _ _ ?_
  rw[hd1]
  show rest.wp P _ ⟨tm2,[⟨.fn (.func gd) ys.toArray,xs.toArray⟩]⟩ w2
  refine wp_mono (hrest hou [⟨.fn (.func gd) ys.toArray,xs.toArray⟩] F w C w2 C2 tm2 (hg1'.trans hgo2.toO) hi2 hf2) fun e a3 w3 hp=>?_
  obtain⟨hd3,fr3,σ3,C3,hg3,hi3,hf3,hk⟩:=hp
  have hxs:xs.length=first.length:=RV.len hx
  have hys:ys.length=caps.length:=RV.len hy
  have key:Fin ⟨P,T,Γ,fn.ntmps,[⟨.fn (.func gd) ys.toArray,xs.toArray⟩]⟩ fn Q fr3 σ3->Leaves P fn a3.tmps (fun e w'=>∃v r ou' C',e=.returned v/\Goes F isO w C w' C'/\C'.nl=0/\Inv Γ F w' C' ⟨0,[],ou'⟩/\RF w' C' r v/\Q r ou') a3.defers .returning w3:=fun hfin=>by
   obtain⟨v,hv,hR⟩:=Qjm hT h0' hi hg3 hi3 hf3 hfin
   rw[hd3]
   refine⟨by simp,.func gd,ys.toArray,gd,xs.toArray++ys.toArray,rfl,?_,((hdef _ w3).2 (by simp[hxs,hys])).mono ?_⟩
   ·show (invoke (.fn (.func gd) ys.toArray) xs.toArray).run P w3=_
    simp only[invoke]
    exact (hdef _ w3).1
   ·rintro e u' w' ⟨⟨v',rfl⟩,rfl,rfl⟩
    exact⟨v,hv,hR⟩
  cases e with
  |normal=>exact key hk
  |ret=>exact key hk
  |panic ps=>exact hk.elim
  |exit id=>exact hk.elim
  |goto l=>exact hk.elim
  |outgrown=>exact hk.elim
theorem AOps.growO{E:Env}{ops:Array Oper}{l:List Oper}{K:Cont}{fr:Fr}{σ:St}(k off:Nat)(e:TypeId)(s:Nat){cs:List AC}(h:σ.get (.l k)=some (.cells cs))(hoff:cs[off]?=some (.lit (.slice none 0 0)))
  (hk : AOps E ops l K fr ((σ.set (.l k) (.cells (cs.set off (.gs s [] (.l σ.n))))).push (.tok e s 0))) : AOps E ops l K fr σ := by
 intro F w0 C0 w C tmps hg hi hf
 have hno:=Ctx.tokd_new C none (fun _=>False) hi.next
 have he:Ext w C w (C.tokd none (fun _=>False)):=⟨fun _ _=>rfl,fun _ h=>.inl h,fun i _ ho=>Ctx.tokd_old C _ _ ho⟩
 -- first the token
 have hi1:Inv E.Γ F w (C.tokd none (fun _=>False)) (σ.push (.tok e s 0)):=
  hi.addObj (σ.get_push _) he (by simp[Ctx.tokd,Ctx.more,St.push,hi.next]) hi.base (fun a ha=>hi.prot a (ha.resolve_right id)) (fun _ _ _ _ _ _ h=>h) (fun _ _ _ _ _ _ ha=>ha.resolve_right id) hno.1
   (by simp only[ObjOk,hno.2]) (fun i p g _ _ hb=>by simp[AObj.block,hno.2]at hb)
 have hget:(σ.push (.tok e s 0)).get (.l k)=some (.cells cs):=by
  rw[St.get_push]
  have:¬(Id.l k=Id.l σ.n):=by
   intro e'
   have:=(hi.obj _ _ h).1
   rw[e']at this
   simp only[Ctx.ok]at this
   have:=hi.next
   omega
  rw[if_neg this];exact h
 obtain⟨hok,xs,T,h1,h2,h3,h4⟩:=hi1.obj _ _ hget
 have hxs:xs[off]?=some (.slice none 0 0):=by
  have:∀(cs:List AC) (xs:List Value) (off:Nat),RV w (C.tokd none (fun _=>False)) cs xs->cs[off]?=some (.lit (.slice none 0 0))->xs[off]?=some (.slice none 0 0):=by
   intro cs
   induction cs with
   |nil=>intro xs off _ h;simp at h
   |cons c cs ih=>
    intro xs off h h'
    simp only[RV]at h
    obtain⟨u,us,rfl,g1,g2⟩:=h
    cases off with
    |zero=>simp at h';subst h';simp only[R]at g1;simp[g1.1]
    |succ off=>simpa using ih us off g2 (by simpa using h')
  exact this cs xs off h3 hoff
 have hr':RV w (C.tokd none (fun _=>False)) (cs.set off (.gs s [] (.l σ.n))) xs:=by
  have:∀(cs:List AC) (xs:List Value) (off:Nat),RV w (C.tokd none (fun _=>False)) cs xs->xs[off]?=some (.slice none 0 0)->RV w (C.tokd none (fun _=>False)) (cs.set off (.gs s [] (.l σ.n))) xs:=by
   intro cs
   induction cs with
   |nil=>intro xs off h _;simpa using h
   |cons c cs ih=>
    intro xs off h h'
    simp only[RV]at h
    obtain⟨u,us,rfl,g1,g2⟩:=h
    cases off with
    |zero=>simp at h';subst h';exact⟨_,us,rfl,⟨hno.1,.inl ⟨rfl,rfl,hno.2⟩⟩,g2⟩
    |succ off=>exact⟨u,us,rfl,g1,ih us off g2 (by simpa using h')⟩
  exact this cs xs off h3 hxs
 have hi2:=(hi1.turn (o':=.cells (cs.set off (.gs s [] (.l σ.n)))) hget rfl rfl (fun _ _=>rfl) (fun _ _ _=>rfl) rfl (fun he'=>⟨xs,T,h1,h2,hr',h4⟩)).2
 refine hk F w0 C0 w _ tmps (hg.trans ⟨Stp.refl _ _,he.weaken (fun _ _=>trivial),by simp[Ctx.tokd,Ctx.more],fun a ha=>.inl (ha.resolve_right id)⟩) ?_ (hf.ext he)
 have hkn:k≠σ.n:=by
  rintro rfl
  have h5:=(hi.obj _ _ h).1
  simp only[Ctx.ok]at h5
  have:=hi.next
  omega
 exact⟨hi2.base,by have:=hi2.next;simpa[St.push,St.set]using this,hi2.glob,hi2.prot,fun i o ho=>hi2.obj i o (by rw[←Q4r hkn];exact ho),fun i j o o' g a b c d=>hi2.inj i j o o' g (by rw[←Q4r hkn];exact a) (by rw[←Q4r hkn];exact b) c d⟩

theorem AFn.forgetD{P:Program}{Γ:List (Nat×List AC)}{g:Nat}{args:List FV}{ou:Outer}{Q:FV->Outer->Prop}(h:AFn P Γ g args ou (fun r ou'=>∃ou'':Outer,(∀m o,ou'' m=some o->ou' m=some o∨(o=.dead/\∃p,ou m=some p))/\Q r ou'')):AFn P Γ g args ou Q:=by
 refine⟨h.1,fun F w C cargs h0 hi hr=>(h.2 F w C cargs h0 hi hr).mono fun e w' ⟨v,r,ou',C',h1,h2,h3,h4,h5,ou'',h6,h7⟩=>⟨v,r,ou'',C',h1,h2,h3,?_,h5,h7⟩⟩
 have hs:∀i o,(St.mk 0 [] ou'').get i=some o->(St.mk 0 [] ou').get i=some o∨(o=.dead/\isO i/\∃p,(St.mk 0 [] ou).get i=some p):=fun i o hio=>by
  cases i with
  |l m=>cases hio
  |o m=>exact (h6 m o hio).imp id fun ⟨a,b⟩=>⟨a,trivial,b⟩
 refine⟨h4.base,h4.next,h4.glob,h4.prot,fun i o ho=>?_,fun i j o o' g k1 k2 h3 h5=>?_⟩
 ·rcases hs i o ho with hh|⟨rfl,hio,p,hp⟩
  ·exact h4.obj i o hh
  ·exact⟨(h2.chg.id i hio (hi.obj i p hp).1).1,trivial⟩
 ·rcases hs i o k1 with hh|⟨rfl,_,p,hp⟩
  ·rcases hs j o' k2 with hh2|⟨rfl,_,p,hp⟩
   ·exact h4.inj i j o o' g hh hh2 h3 h5
   ·simp[AObj.block]at h5
  ·simp[AObj.block]at h3
end Go.Abs
namespace Go.Abs
theorem Q2l(n:Nat)(lo:List (Nat×AObj))(ou:Outer)(k:Nat)(o:AObj):St.set ⟨n,lo,ou⟩ (.o k) o=⟨n,lo,updO ou k o⟩:=by
 have:(fun j=>bif Nat.beq j k then some o else ou j)=updO ou k o:=by
  funext j
  by_cases e:k=j
  ·subst e;rw[Q06];simp
  ·rw[Q04 _ e,Q07 (fun h=>e h.symm)];rfl
 show St.mk n lo (fun j=>bif Nat.beq j k then some o else ou j)=_
 rw[this]
theorem Q88(ou:Outer)(k:Nat)(o p:AObj):updO (updO ou k o) k p=updO ou k p:=by
 funext j
 by_cases e:k=j
 ·subst e;rw[Q06,Q06]
 ·rw[Q04 _ e,Q04 _ e,Q04 _ e]
end Go.Abs
namespace Go.Abs
theorem Qje{Γ:List (Nat×List AC)}{F:Nat->Prop}{w:World}{C:Ctx}{σ:St}(js:List Nat)(hj:∀j∈js,j < σ.n)(hi:Inv Γ F w C σ):∃C2 k,(∀m,k<=m->σ.ou m=none)/\Goes F (fun _=>True) w C w C2 /\
  (∀ σ' : St, σ'.n = σ.n -> (∀ i x, σ'.get i = some x -> ∃ i0 y, σ.get i0 = some y /\ toOs js k i0 = i /\ x = y.sub (toOs js k)) -> Inv Γ F w C2 σ') /\ (∀ y u, RF w C y u -> RF w C2 (y.sub (toOs js k)) u) := by
 have hnone:∀m,C.no<=m->σ.ou m=none:=fun m hm=>by
  cases hx:σ.ou m with
  |none=>rfl
  |some x=>
   have:m < C.no:=(hi.obj (.o m) x hx).1
   omega
 let C2:Ctx:={ C with no:=C.no+js.length,phi:=fun i=>match i with|.o m=>if m < C.no then C.phi (.o m)else (match js[m - C.no]? with|some j=>C.phi (.l j)|none=>C.phi (.o m))|.l m=>C.phi (.l m),tk:=fun i=>match i with|.o m=>if m < C.no then C.tk (.o m)else (match js[m - C.no]? with|some j=>C.tk (.l j)|none=>C.tk (.o m))|.l m=>C.tk (.l m) }
 have hx:Ext w C w C2:=⟨fun _ _=>rfl,fun _ h=>h,fun i _ ho=>by
  cases i with
  |l m=>exact⟨ho,rfl,rfl⟩
  |o m=>
   have hm:m < C.no:=ho
   refine⟨Nat.lt_of_lt_of_le hm (Nat.le_add_right _ _),?_,?_⟩
   ·show (if m < C.no then _ else _)=_;rw[if_pos hm];rfl
   ·show (if m < C.no then _ else _)=_;rw[if_pos hm];rfl⟩
 have hb:Bus (toOs js C.no) (fun _=>True) w C2 C:=⟨fun _ h=>h,fun i _ ho=>by
  cases i with
  |o m=>exact hx.id (.o m) trivial ho
  |l m=>
   simp only[toOs]
   cases hp:posOf m js with
   |none=>exact⟨ho,rfl,rfl⟩
   |some p=>
    have hjp:=Q5y hp
    have hlt:p < js.length:=(List.getElem?_eq_some_iff.1 hjp).1
    refine⟨Nat.add_lt_add_left hlt _,?_,?_⟩
    ·show (if C.no+p < C.no then _ else _)=_
     rw[if_neg (by omega),Nat.add_sub_cancel_left,hjp];rfl
    ·show (if C.no+p < C.no then _ else _)=_
     rw[if_neg (by omega),Nat.add_sub_cancel_left,hjp];rfl⟩
 have hok:∀i0 y,σ.get i0=some y->C.ok i0:=fun i0 y hy=>(hi.obj i0 y hy).1
 refine⟨C2,C.no,hnone,⟨Stp.refl _ _,hx.weaken (fun _ _=>trivial),Nat.le_add_right _ _,NewP.refl _ _⟩,fun σ' hcn hco=>?_,fun y u hr=>RF.bus hb y u (FV.ids_true y) hr⟩
 refine⟨hi.base,by rw[hcn];exact hi.next,fun g cs hm=>(hi.glob g cs hm).ext hx,hi.prot,fun i x hxx=>?_,fun i1 i2 x1 x2 g h1 h2 h3 h4=>?_⟩
 ·obtain⟨i0,y,hy,rfl,rfl⟩:=hco i x hxx
  obtain⟨k1,k2⟩:=hi.obj i0 y hy
  exact⟨(hb.id i0 trivial k1).1,ObjOk.bus hb (AObj.ids_all y) trivial k1 (fun _ h=>h) k2⟩
 ·obtain⟨a,y,hy,rfl,rfl⟩:=hco i1 x1 h1
  obtain⟨b,z,hz,rfl,rfl⟩:=hco i2 x2 h2
  rw[AObj.block_bus hb trivial (hok a y hy)]at h3
  rw[AObj.block_bus hb trivial (hok b z hz)]at h4
  rw[hi.inj a b y z g hy hz h3 h4]
theorem Q2k.cede{E:Env}{o:Oper}{fr:Fr}{σ σ1:St}{v0:FV}{P:FV->St->Prop}(js:List Nat)(h:AStep E o fr σ v0 σ1)(hj:∀j∈js,j < σ1.n)(hnd:js.Nodup)(hou:OuOk σ1.ou)
  (hP:∀k,(∀m,k<=m->σ1.ou m=none)->∃lo' os,CedLo (toOs js k) σ1.lo js lo'/\CedOs (toOs js k) σ1.lo js os/\P (v0.sub (toOs js k)) ⟨σ1.n,lo',ouAdd σ1.ou k os⟩):Q2k E o fr σ P:=by
 intro F w C tmps hi hf next Q hk
 refine h F w C tmps hi hf next Q fun u w' C' hgo hi' hr=>?_
 obtain⟨C2,k,hnone,g1,g2,g3⟩:=Qje js hj hi'
 obtain⟨lo',os,h2,h3,h4⟩:=hP k hnone
 refine hk u w' C2 _ _ h4 (hgo.trans g1) (g2 _ rfl fun i x hx=>?_) (g3 _ _ hr)
 cases i with
 |l m=>
  obtain⟨hp,y,hy,rfl⟩:=h2.get m x hx
  exact⟨.l m,y,hy,by simp[toOs,hp],rfl⟩
 |o m=>
  have hx':ouAdd σ1.ou k os m=some x:=hx
  rcases Nat.lt_or_ge m k with hm|hm
  ·rw[Q0f hm]at hx'
   exact⟨.o m,x,hx',rfl,(AObj.sub_f (fun i hi=>by cases i with|l q=>exact hi.elim|o q=>rfl) x (hou m x hx')).symm⟩
  ·obtain⟨p,rfl⟩:∃p,m=k+p:=⟨m - k,by omega⟩
   rw[Q0e]at hx'
   obtain⟨j,y,q1,q2,rfl⟩:=h3.get p x hx'
   exact⟨.l j,y,q2,by simp[toOs,Q61 hnd q1],rfl⟩
end Go.Abs
