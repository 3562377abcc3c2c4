/- The abstract layer, part Aj: a call of a function that only computes a number or a truth value; own objects are lent to it, to be read. No condition. -/
import Derived.Test.YtkgjldchcbfpnaaGreatDoorF4
import Derived.Laws.CopyRow
import Derived.Shelf.GgSortFunc.InsertionK
import Derived.Lib.Overlaps
import Derived.Lib.AppendZerosOnto
set_option maxRecDepth 10000
set_option linter.unusedVariables false
set_option linter.unusedSimpArgs false
namespace Go.Abs
def Ctx.still (C:Ctx)(w:World):Ctx:=⟨fun a=>a.block < w.heap.size,0,C.no,C.phi,C.tk⟩
theorem Inv.stillChg{Γ:List (Nat×List AC)}{F:Nat->Prop}{w:World}{C:Ctx}{σ:St}(hi:Inv Γ F w C σ):Chg isO w C w (C.still w):=
 ⟨fun _ _=>rfl,fun a h=>hi.prot a h,fun i hp hok=>⟨by cases i with|l k=>cases hp|o k=>exact hok,rfl,rfl⟩⟩
theorem Inv.forStill{Γ:List (Nat×List AC)}{F:Nat->Prop}{w:World}{C:Ctx}{σ:St}(hi:Inv Γ F w C σ)(hΓ:∀g cs,(g,cs)∈Γ->idsL isO cs):Inv Γ (fun k=>k < w.heap.size) w (C.still w) ⟨0,[],fun _=>none⟩:=by
 have hn:∀i,St.get ⟨0,[],fun _=>none⟩ i=none:=fun i=>by cases i <;> rfl
 exact⟨fun _ h=>h,rfl,fun g cs h=>(hi.glob g cs h).chg hi.stillChg (hΓ g cs h),fun _ h=>h,fun i o h=>by (rw[hn]at h;cases h),fun i j o o' g h=>by (rw[hn]at h;cases h)⟩
def LendF (σ:St)(x y:FV):Prop:=∀(Γ:List (Nat×List AC))(F:Nat->Prop)(w:World)(C:Ctx)(v:Value),Inv Γ F w C σ->RF w C x v->RF w (C.still w) y v
def Q5b (σ:St)(xs ys:List FV):Prop:=∀(Γ:List (Nat×List AC))(F:Nat->Prop)(w:World)(C:Ctx)(vs:List Value),Inv Γ F w C σ->RFs w C xs vs->RFs w (C.still w) ys vs
theorem LendF.of{σ:St}{x y:FV}(h:WkF x y)(hy:y.ids isO):LendF σ x y:=fun Γ F w C v hi hr=>RF.chg hi.stillChg y v hy (h w C v hr)
theorem LendF.refl{σ:St}{x:FV}(hy:x.ids isO):LendF σ x x:=.of (.refl x) hy
theorem LendF.arr{σ:St}{i:Id}{s cap n:Nat}{es:List (List AC)}(hg:σ.get i=some (.cells (vec s es cap)))(hn:n=es.length)(hl:∀x∈es,x.length=s)(hids:idsS isO es):LendF σ (.one (.arr i s 0 n cap)) (.one (.sl s es)):=by
 subst hn
 intro Γ F w C v hi hr
 obtain⟨hok,zs,T,b1,b2,b3,b4⟩:=hi.obj i _ hg
 simp only[RF,R,Nat.zero_mul]at hr
 refine⟨some ⟨C.blk i,0,none⟩,cap,hr.2.1,hr.2.2,.inr ⟨_,rfl,rfl,?_⟩⟩
 have hfl:=Q1v hl
 have hzl:=RV.length b3
 have hfi:idsL isO es.flatten:=by
  clear hg hl hr hfl b3 hzl
  induction es with
  |nil=>trivial
  |cons x es ih=>
   simp only[idsS]at hids
   rw[List.flatten_cons]
   exact Q1u.2 fun c hc=>(List.mem_append.1 hc).elim (fun h=>Q1u.1 hids.1 c h) fun h=>Q1u.1 (ih hids.2) c h
 have hv:RV w (C.still w) es.flatten (zs.take (es.length * s)):=by
  refine RV.chg hi.stillChg _ _ hfi ?_
  have:=b3.take (es.length * s)
  rwa [vec,List.take_append_of_le_length (by omega),List.take_of_length_le (by omega)]at this
 refine RS.ofVals 0 hl hv fun j v hj=>⟨?_,Q0o b1⟩
 have h2:j < es.length * s:=by have:=(List.getElem?_eq_some_iff.1 hj).1;simp at this;omega
 rw[List.getElem?_take_of_lt h2]at hj
 rw[Nat.zero_add,cell_of_row _ _ _ _ _ _ b1]
 simpa using hj
theorem Q5b.nil{σ:St}:Q5b σ [] []:=fun _ _ _ _ _ _ h=>h
theorem Q5b.cons{σ:St}{x y:FV}{xs ys:List FV}(h:LendF σ x y)(k:Q5b σ xs ys):Q5b σ (x::xs) (y::ys):=by
 intro Γ F w C vs hi hr
 simp only[RFs]at hr ⊢
 obtain⟨v,us,rfl,h1,h2⟩:=hr
 exact⟨v,us,rfl,h _ _ _ _ _ hi h1,k _ _ _ _ _ hi h2⟩
def Plain (r:FV):Prop:=∀(w w':World)(C C':Ctx)(v:Value),RF w C r v->RF w' C' r v
theorem AStep.callS{E:Env}{o:Oper}{fr:Fr}{σ:St}{f:Operand}{args:Array Operand}{tys:Array TypeId}{g:Nat}{first caps:List AC}{vs ws:List FV}{r:FV}
  (hΓ:∀g cs,(g,cs)∈E.Γ->idsL isO cs) (hc:APure E.P E.Γ g ws r) (hp:Plain r) (ho:o.op=.call { callee:=.value f,args:=args,argTypes:=tys })
  (hf:aEval E.Γ fr f=some (.one (.fn (.func g) first caps))) (hargs:Q16 E.Γ fr args.toList=some vs) (hw:Q5b σ (first.map .one++vs++caps.map .one) ws):AStep E o fr σ r σ:=by
 intro F w C tmps hi hfr next Q hk
 have hcallee:=Q00 (a:=⟨tmps,E.ds⟩) hi hfr hf
 simp only[RF,R]at hcallee
 obtain⟨xs,ys,hfv,hx,hy⟩:=hcallee
 have hvs:=Q14 (a:=⟨tmps,E.ds⟩) hi hfr hargs
 have hall:RFs w (C.still w) ws (xs++args.toList.map (Act.eval ⟨tmps,E.ds⟩)++ys):=hw _ _ _ _ _ hi ((RFs.ones hx |>.append hvs).append (RFs.ones hy))
 have hrun:(execOp (Act.eval ⟨tmps,E.ds⟩) o).run E.P w=.ok (.enter g (xs++args.toList.map (Act.eval ⟨tmps,E.ds⟩)++ys).toArray) w:=by
  unfold execOp
  simp only[ho,resolve,Sem.run_bind,hfv,Deferred.ofValue,Sem.run_pure,Result.andThen_ok,invoke,(hc σ.ou).1]
  congr 2
  apply Array.ext'
  simp
 unfold Oper.wp
 rw[hrun,Oper.upon_enter]
 refine ((hc fun _=>none).2 (fun k=>k < w.heap.size) w (C.still w) _ rfl (hi.forStill hΓ) hall).mono fun e w' ⟨v,r',ou',C',he,hgo,h0,hi',hr,hQ1,hQ2⟩=>?_
 subst he;subst hQ1
 obtain⟨he,hi2⟩:=hi.grown hgo.stp.size (fun k hk=>hgo.stp.block k hk)
 exact hk v w' C ⟨hgo.stp.mono fun k hk=>hi.base k hk,he,Nat.le_refl _,NewP.refl _ _⟩ hi2 (hp _ _ _ _ _ hr)
theorem AOps.callS{E:Env}{ops:Array Oper}{rest:List Oper}{o:Oper}{K:Cont}{fr:Fr}{σ:St}{d:Nat}{f:Operand}{args:Array Operand}{tys:Array TypeId}{g:Nat}{first caps:List AC}{vs ws:List FV}{r:FV}
  (hΓ:∀g cs,(g,cs)∈E.Γ->idsL isO cs) (hc:APure E.P E.Γ g ws r) (hp:Plain r) (hgd:o.guard=none) (hdst:o.dst=some d) (hd:Nat.ble (d+1) E.N=true) (ho:o.op=.call { callee:=.value f,args:=args,argTypes:=tys })
  (hf:aEval E.Γ fr f=some (.one (.fn (.func g) first caps))) (hargs:Q16 E.Γ fr args.toList=some vs) (hw:Q5b σ (first.map .one++vs++caps.map .one) ws)
  (h:AOps E ops rest K ((d,r)::fr) σ):AOps E ops (o::rest) K fr σ:=
 AOps.step1 hgd hdst hd (AStep.callS hΓ hc hp ho hf hargs hw) h
end Go.Abs
namespace Go.Abs
def optIs (Γ:List (Nat×List AC))(fr:Fr)(x:Option Operand)(n d:Nat):Prop:=match x with
 |none=>n=d
 |some y=>∃k:IntKind,aEval Γ fr y=some (.one (.lit (.int k (n:Int))))
section
variable {E:Env}{o:Oper}{fr:Fr}{σ:St}
theorem AStep.sliceOwn{t:TypeId}{ti tj:TI}{x:Operand}{lo hi mx:Option Operand}{i:Id}{s len cap a b c:Nat}(hT:TabOk E.P E.T)(ho:o.op=.slice t x lo hi mx)(ht:Tab.get t E.T=some ti)(hk:Nat.beq ti.kind 2=true)(hj:Tab.get ti.elem E.T=some tj)(hs:Nat.beq tj.size s=true)
  (hx : aEval E.Γ fr x = some (.one (.arr i s 0 len cap))) (hlo : optIs E.Γ fr lo a 0) (hhi : optIs E.Γ fr hi b len) (hmx : optIs E.Γ fr mx c cap) (hm : mx.isSome = true -> hi.isSome = true) (h1 : a <= b) (h2 : b <= c) (h3 : c <= cap) :
  AStep E o fr σ (.one (.arr i s (if c=a then 0 else a) (b - a) (c - a))) σ:=by
 refine AStep.quiet fun F w C tmps hin hf=>?_
 have e1:=Q00 (a:=⟨tmps,E.ds⟩) hin hf hx
 have ev:∀(y:Option Operand) (n d:Nat),optIs E.Γ fr y n d->(y=none/\n=d)∨∃z k,y=some z/\Act.eval ⟨tmps,E.ds⟩ z=.int k (n:Int):=by
  intro y n d h
  cases y with
  |none=>exact .inl ⟨rfl,h⟩
  |some z=>
   obtain⟨k,hz⟩:=h
   have:=Q00 (a:=⟨tmps,E.ds⟩) hin hf hz
   simp only[RF,R]at this
   exact .inr ⟨z,k,rfl,this.1⟩
 have hu:=(hT t ti ht).slice (Nat.eq_of_beq_eq_true hk)
 have hsz:=(hT _ _ hj).run_sizeOf (w:=w)
 have hs':tj.size=s:=Nat.eq_of_beq_eq_true hs
 simp only[RF,R,Nat.zero_mul]at e1
 obtain⟨hok,hv,hcap⟩:=e1
 have hrun:(execOp (Act.eval ⟨tmps,E.ds⟩) o).run E.P w=.ok (.value (.slice (if c=a then some ⟨C.blk i,0,none⟩else some (Addr.add ⟨C.blk i,0,none⟩ (a * tj.size))) (b - a) (c - a))) w:=by
  have h1':(a:Int)<=(b:Int):=by omega
  have h2':(b:Int)<=(c:Int):=by omega
  have h3':(c:Int)<=(cap:Int):=by omega
  unfold execOp
  rcases ev lo a 0 hlo with ⟨rfl,rfl⟩|⟨z1,k1,rfl,q1⟩ <;> rcases ev hi b len hhi with ⟨rfl,rfl⟩|⟨z2,k2,rfl,q2⟩ <;> rcases ev mx c cap hmx with ⟨rfl,rfl⟩|⟨z3,k3,rfl,q3⟩ <;> simp_all[Instr.sliceAt,Instr.slice,run_underlying hu,hsz,Instr.sliceBounds,Instr.sliceBound,asIntOf,Result.andThen]
 refine⟨_,hrun,hok,?_,by omega⟩
 by_cases e:c=a
 ·rw[if_pos e,if_pos e,Nat.zero_mul]
 ·rw[if_neg e,if_neg e,hs',Addr.add_none rfl,Nat.zero_add]
end
section
variable {Γ:List (Nat×List AC)}{F:Nat->Prop}{w:World}{C:Ctx}{σ:St}
end
end Go.Abs
namespace Go.Abs
theorem Q7f.mono{E:Env}{ops:Array Oper}{o:Oper}{fr:Fr}{σ:St}{P Q:FV->St->Prop}(h:Q7f E ops o fr σ P)(hq:∀v σ',P v σ'->Q v σ'):Q7f E ops o fr σ Q:=by
 rcases h with ⟨v,σ',h1,h2⟩|⟨h1,h2⟩
 ·exact .inl ⟨v,σ',h1,hq _ _ h2⟩
 ·exact .inr ⟨h1,fun F w C tmps hi hf next Q' hk=>h2 F w C tmps hi hf next Q' fun u w' C' v σ' hp=>hk u w' C' v σ' (hq _ _ hp)⟩
section
variable {E:Env}{l:List Oper}{frb:Fr}{n:Nat}{K:Cont}{J:Array Bool->St->(Nat->Option FV)->Prop}
end
theorem AOps.stepR{E:Env}{ops:Array Oper}{rest:List Oper}{o:Oper}{K:Cont}{fr:Fr}{σ:St}{d:Nat}{P:FV->St->Prop}(hgd:o.guard=none)(hdst:o.dst=some d)(hd:Nat.ble (d+1) E.N=true)(hs:Q0y E o fr σ P)(h:∀v σ',P v σ'->AOps E ops rest K ((d,v)::fr) σ'):AOps E ops (o::rest) K fr σ:=by
 intro F w0 C0 w C tmps hg hi hf
 refine wpList_plain hgd fun N' hN=>?_
 refine hs F w C tmps hi hf _ _ fun u w' C' v σ' hp hgo hi' hr=>?_
 refine hN _ _ ?_
 rw[hdst]
 exact h v σ' hp F w0 C0 w' C' _ (hg.trans hgo.toO) hi' (Q0v (dst:=some d) (hf.ext hgo.chg) hd hr)
theorem AOps.wkObj{E:Env}{ops:Array Oper}{l:List Oper}{K:Cont}{fr:Fr}{σ:St}(i:Id){cs cs':List AC}(hg:σ.get i=some (.cells cs))(hw:∀(w:World)(C:Ctx)(xs:List Value),RV w C cs xs->RV w C cs' xs)(h:AOps E ops l K fr (σ.set i (.cells cs'))):AOps E ops l K fr σ:=by
 intro F w0 C0 w C tmps hgo hi hf
 obtain⟨hok,xs,T,o1,o2,o3,o4⟩:=hi.obj i _ hg
 obtain⟨he,hi'⟩:=hi.turn hg (g:=C.blk i) rfl (w':=w) rfl (fun _ _=>rfl) (fun _ _ _=>rfl) (o':=.cells cs') rfl fun _=>⟨xs,T,o1,o2,hw w C xs o3,o4⟩
 exact h F w0 C0 w C tmps hgo hi' hf
theorem AStep.buildOwn0{E:Env}{o:Oper}{fr:Fr}{σ:St}{t:TypeId}{ti tj:TI}{s:Nat}(hT:TabOk E.P E.T)(ho:o.op=.buildSlice t 0 #[])(ht:Tab.get t E.T=some ti)(hk:Nat.beq ti.kind 2=true)(hj:Tab.get ti.elem E.T=some tj)(hs:tj.size=s):
  AStep E o fr σ (.one (.arr (.l σ.n) s 0 0 0)) (σ.push (.cells (vec s [] 0))):=by
 intro F w C tmps hi hf next Q hk2
 have hsl:=(hT t ti ht).slice (Nat.eq_of_beq_eq_true hk)
 have hsz:=(hT _ _ hj).run_sizeOf w
 have hrun:(execOp (Act.eval ⟨tmps,E.ds⟩) o).run E.P w=.ok (.value (.slice (some ⟨w.heap.size,0,none⟩) 0 0)) (w.alloc (.cells #[] ti.elem)):=by
  unfold execOp
  simp only[ho]
  simp[Instr.buildSlice,run_underlying hsl,hsz,Instr.fill,newRow,Array.range_zero']
 obtain⟨C',he,hno,hnp,hin,hok,hblk⟩:=hi.newObj (cs:=vec s [] 0) (xs:=[]) (by simp[vec,RV]) ti.elem
 unfold Oper.wp
 rw[hrun,Oper.upon_value]
 exact hk2 _ _ C' ⟨Stp.alloc hi.base _ _,he,Nat.le_of_eq hno.symm,hnp⟩ hin (by simp only[RF,R];exact⟨hok,by rw[hblk,Nat.zero_mul],Nat.le_refl _⟩)
theorem AStep.appNone{E:Env}{o:Oper}{fr:Fr}{σ:St}{t:TypeId}{ti tj:TI}{x y:Operand}{i:Id}{s n cap:Nat}(hT:TabOk E.P E.T)(ho:o.op=.call { callee:=.builtin .append,args:=#[x,y],argTypes:=#[t,t] })(ht:Tab.get t E.T=some ti)(hk:Nat.beq ti.kind 2=true)(hj:Tab.get ti.elem E.T=some tj)
  (hx:aEval E.Γ fr x=some (.one (.arr i s 0 n cap))) (hy:aEval E.Γ fr y=some (.one (.sl s []))):AStep E o fr σ (.one (.arr i s 0 n cap)) σ:=by
 refine AStep.quiet fun F w C tmps hi hf=>?_
 have h1:=Q00 (a:=⟨tmps,E.ds⟩) hi hf hx
 have h2:=Q00 (a:=⟨tmps,E.ds⟩) hi hf hy
 simp only[RF,R,Nat.zero_mul]at h1 h2
 obtain⟨hok,hv,hc⟩:=h1
 obtain⟨a,c,hv2,_,_⟩:=h2
 have hu:=(hT t ti ht).slice (Nat.eq_of_beq_eq_true hk)
 obtain⟨i0,dd,z,g1,g2,g3,g4,g5,g6,g7,g8⟩:=(hT _ _ hj).ex
 refine⟨.slice (some ⟨C.blk i,0,none⟩) n cap,?_,by simp only[RF,R,Nat.zero_mul];exact⟨hok,trivial,hc⟩⟩
 unfold execOp
 simp only[ho,resolve,invoke,builtin,Sem.run_bind,Sem.run_pure,Result.andThen_ok,List.map_toArray,List.map_cons,List.map_nil,hv,hv2]
 cases a with
 |none=>simp[Builtin.append_,run_underlying hu,sizeOf,typeInfo,g1,Builtin.lenOf,Builtin.firstCells,hc,storeCells]
 |some a=>simp[Builtin.append_,run_underlying hu,sizeOf,typeInfo,g1,Builtin.lenOf,Builtin.firstCells,hc,storeCells,loadCells,loadCellsFrom]
end Go.Abs
namespace Go.Abs
theorem AStep.boxI{E:Env}{o:Oper}{fr:Fr}{σ:St}{t:TypeId}{x:Operand}{cs:List AC}(ho:o.op=.box t x)(hx:aEval E.Γ fr x=some (.agg cs)):AStep E o fr σ (.one (.box cs)) σ:=by
 intro F w C tmps hi hf next Q hk
 have h1:=Q00 (a:=⟨tmps,E.ds⟩) hi hf hx
 simp only[RF]at h1
 obtain⟨xs,hv,hr⟩:=h1
 obtain⟨C',he,hno,hnp,hin,hpr⟩:=hi.newRow xs t
 have hrun:(execOp (Act.eval ⟨tmps,E.ds⟩) o).run E.P w=.ok (.value (.pointer (some ⟨w.heap.size,0,none⟩))) (w.alloc (.cells xs.toArray t)):=by
  unfold execOp
  simp only[ho,hv]
  simp[Instr.box,newVar,newRow,Value.cells]
 unfold Oper.wp
 rw[hrun,Oper.upon_value]
 refine hk _ _ C' ⟨Stp.alloc hi.base _ _,he,Nat.le_of_eq hno.symm,hnp⟩ hin ?_
 simp only[RF,R]
 refine⟨⟨w.heap.size,0,none⟩,rfl,rfl,RL.of_new 0 (hr.ext he) (fun j v hj=>?_) hpr⟩
 rw[Nat.zero_add,cell_of_row _ _ _ _ _ _ (heap_alloc_new w _)]
 simpa using hj
def bI (v:BitVec 64):Int:=IntKind.i64.wrap v.toNat
def orI (a b:Int):Int:=bI (BitVec.ofInt 64 a ||| BitVec.ofInt 64 b)
def anI (a b:Int):Int:=bI (BitVec.ofInt 64 a &&& ~~~BitVec.ofInt 64 b)
def subI (a b:Int):Prop:=BitVec.ofInt 64 a &&& ~~~BitVec.ofInt 64 b=0#64
theorem subI.an{a b:Int}(h:subI a b):anI a b=0:=by
 unfold anI;rw[h];decide
theorem bv_sub{a b:BitVec 64}:a &&& ~~~b=0#64↔a ||| b=b:=by
 constructor
 ·intro h
  ext i hi
  have:=congrArg (fun v:BitVec 64=>v.getLsbD i) h
  simp[hi]at this ⊢
  simp only[←BitVec.getLsbD_eq_getElem]at *
  cases ha:a.getLsbD i <;> simp_all
 ·intro h
  ext i hi
  have:=congrArg (fun v:BitVec 64=>v.getLsbD i) h
  simp[hi]at this ⊢
  simp only[←BitVec.getLsbD_eq_getElem]at *
  cases ha:a.getLsbD i <;> simp_all
theorem subI.trans{a b c:Int}(h:subI a b)(k:subI b c):subI a c:=by
 unfold subI at *
 rw[bv_sub]at *
 rw[←k,←BitVec.or_assoc,h]
section
variable {E:Env}{o:Oper}{fr:Fr}{σ:St}
end
end Go.Abs
namespace Go.Abs
open Go.Sort Go.Proofs
set_option linter.unusedSectionVars false
section
variable {α:Type} [Inhabited α]
end
end Go.Abs
namespace Go.Abs
def oaC (k s:Nat)(es:List (List AC)):Option Nat->AC
 |none=>.lit (.slice none 0 0)
 |some cap=>.arr (.l k) s 0 es.length cap
def oaO (s:Nat)(es:List (List AC)):Option Nat->AObj
 |none=>.dead
 |some cap=>.cells (vec s es cap)
def coO (es:List (List AC)):Option Nat->Prop
 |none=>es=[]
 |some cap=>es.length<=cap
section
variable {E:Env}{ops:Array Oper}{l rest:List Oper}{K:Cont}{fr:Fr}{σ:St}
theorem Inv.ghost{Γ:List (Nat×List AC)}{F:Nat->Prop}{w:World}{C:Ctx}(hi:Inv Γ F w C σ):∃C',Ext w C w C'/\C'.no=C.no/\(∀a,C'.prot a↔C.prot a)/\Inv Γ F w C' (σ.push .dead):=by
 have hn:=Ctx.more_new C 0 none hi.next
 have he:Ext w C w (C.more 0 none):=⟨fun _ _=>rfl,fun _ h=>h,fun i _ hok=>Ctx.more_old C 0 none hok⟩
 refine⟨C.more 0 none,he,rfl,fun a=>Iff.rfl,?_⟩
 refine hi.addObj (o:=.dead) (d:=.l σ.n) (fun i=>St.get_push σ _ i) he ?_ hi.base hi.prot (fun _ _ _ _ _ _ h=>h) (fun _ _ _ _ _ _ h=>h) hn.1 trivial (fun _ _ _ _ _ h=>by cases h)
 show C.nl+1=σ.n+1
 rw[hi.next]
theorem AOps.ghost(h:AOps E ops l K fr (σ.push .dead)):AOps E ops l K fr σ:=by
 intro F w0 C0 w C tmps hg hi hf
 obtain⟨C',h1,h2,h3,h4⟩:=hi.ghost
 exact h F w0 C0 w C' tmps (hg.trans ⟨Stp.refl _ _,h1.weaken (fun _ _=>trivial),by rw[h2];exact Nat.le_refl _,fun a ha=>.inl ((h3 a).1 ha)⟩) h4 (hf.ext h1)
theorem AOps.appG{o:Oper}{dd:Nat}{t:TypeId}{ti tj:TI}{x y:Operand}{d:AC}{s k:Nat}{es news:List (List AC)}{oc:Option Nat}(hT:TabOk E.P E.T)(hgd:o.guard=none)(hdst:o.dst=some dd)(hdd:Nat.ble (dd+1) E.N=true)
  (ho:o.op=.call { callee:=.builtin .append,args:=#[x,y],argTypes:=#[t,t] }) (ht:Tab.get t E.T=some ti) (hk:Nat.beq ti.kind 2=true) (hj:Tab.get ti.elem E.T=some tj) (hx:aEval E.Γ fr x=some (.one (oaC k s es oc))) (hy:aEval E.Γ fr y=some (.one d))
  (hg:σ.get (.l k)=some (oaO s es oc)) (hco:coO es oc) (hl:∀x∈es,x.length=s) (hsrc:Src d s news) (hne:news≠[])
  (hs : Nat.beq tj.size s = true) (hbytes : (es.length + news.length) * tj.bytes <= 140737488355328) (h63 : es.length + news.length <= 140737488355328)
  (h : ∀ cap, (es ++ news).length <= cap -> AOps E ops rest K ((dd, .one (oaC σ.n s (es ++ news) (some cap))) :: fr) ((σ.set (.l k) .dead).push (oaO s (es ++ news) (some cap)))) : AOps E ops (o :: rest) K fr σ := by
 cases oc with
 |none=>
  simp only[coO]at hco
  subst hco
  refine AOps.appOwn hT hgd hdst hdd ho ht hk hj hx hy (.nil s) hsrc hne hs hbytes h63 fun cap hc=>?_
  refine AOps.lessO ((σ.set (.l k) .dead).push (oaO s ([]++news) (some cap))) rfl (fun i q hq=>?_) (h cap hc)
  rw[St.get_push]at hq ⊢
  split
  ·rename_i e
   rw[if_pos (by rw[e];rfl)]at hq
   exact hq
  ·rename_i e
   rw[if_neg (by intro e2;exact e e2)]at hq
   by_cases e3:(Id.l k)=i
   ·subst e3
    rw[St.get_set_same]at hq
    rw[hg,←hq];rfl
   ·rw[St.get_set_ne _ e3]at hq;exact hq
 |some cap=>
  exact AOps.appOwn hT hgd hdst hdd ho ht hk hj hx hy (.own s cap es (.l k) hg hl hco) hsrc hne hs hbytes h63 h
theorem AOps.freezeG(k d:Nat){s:Nat}{es:List (List AC)}{oc:Option Nat}(hg:σ.get (.l k)=some (oaO s es oc))(hco:coO es oc)(hl:∀x∈es,x.length=s)(hd:Fr.get d fr=some (.one (oaC k s es oc)))
  (h : AOps E ops l K ((d, .one (.sl s es)) :: fr) (σ.set (.l k) .dead)) : AOps E ops l K fr σ := by
 cases oc with
 |none=>
  simp only[coO]at hco
  subst hco
  refine AOps.wk d hd (.one (.nilS s)) ?_
  refine AOps.lessO (σ.set (.l k) .dead) rfl (fun i q hq=>?_) h
  by_cases e3:(Id.l k)=i
  ·subst e3
   rw[St.get_set_same]at hq
   rw[hg,←hq];rfl
  ·rw[St.get_set_ne _ e3]at hq;exact hq
 |some cap=>exact AOps.freezeArr (.l k) d hg hl hd h
end
theorem Q5z{Q Q':Exit->Act->World->Prop}(hq:∀e a w,Q e a w->Q' e a w)(h:LetsOut Q):LetsOut Q':=let ⟨a,w,h⟩:=h;⟨a,w,hq _ _ _ h⟩
theorem Qfq{P:Program}{Q Q':Exit->Act->World->Prop}(hq:∀e a w,Q e a w->Q' e a w){o:Oper}{a:Act}{w:World}{K K':Act->World->Prop}(h:∀a w,K a w->K' a w)(hh:o.wp P a w K Q):o.wp P a w K' Q':=by
 unfold Oper.wp at *
 generalize (execOp a.eval o).run P w=r at *
 cases r with
 |ok n w'=>
  cases n with
  |value v=>exact h _ _ hh
  |skip=>exact h _ _ hh
  |defer d=>exact h _ _ hh
  |enter f args=>
   exact Calls.mono hh (fun e w'' he=>by
    cases e with
    |returned v=>exact h _ _ he
    |panicked c=>exact hq _ _ _ he
    |outgrown=>exact Q5z hq he)
  |row row args=>exact Rows.mono hh (fun _ _ he=>h _ _ he)
  |_=>exact absurd hh (by simp only[Oper.upon];exact id)
 |halt x w'=>cases x <;> simp only[Oper.upon]at hh ⊢ <;> first|exact hq _ _ _ hh|exact hh
theorem Q4i{P:Program}{ops:Array Oper}{Q Q':Exit->Act->World->Prop}(hq:∀e a w,Q e a w->Q' e a w):∀{l:List Oper}{a:Act}{w:World},wpList P ops Q l a w->wpList P ops Q' l a w
 |[],a,w,h=>hq _ _ _ h
 |o::rest,a,w,h=>by
  simp only[wpList]at h ⊢
  split
  ·rename_i hw
   rw[if_pos hw]at h
   rcases h with h|⟨h1,h2⟩
   ·exact .inl (Qfq hq (fun a w h=>Q4i hq h) h)
   ·exact .inr ⟨h1,Q5z hq h2⟩
  ·rename_i hw
   rw[if_neg hw]at h
   exact Q4i hq h
theorem AOps.monoK{E:Env}{ops:Array Oper}{l:List Oper}{K K':Cont}{fr:Fr}{σ:St}(h:AOps E ops l K fr σ)(hk:∀e fr σ,K e fr σ->K' e fr σ):AOps E ops l K' fr σ:=by
 intro F w0 C0 w C tmps hg hi hf
 refine Q4i (fun e act w' hp=>?_) (h F w0 C0 w C tmps hg hi hf)
 obtain⟨hd,fr2,σ2,C2,h1,h2,h3,h4⟩:=hp
 exact⟨hd,fr2,σ2,C2,h1,h2,h3,hk _ _ _ h4⟩
theorem Q18{E:Env}{Fin:Fr->St->Prop}{k k':List AItem}(h:∀e fr σ,Q02 E Fin k e fr σ->Q02 E Fin k' e fr σ):∀(pre:List AItem)(e:Exit)(fr:Fr)(σ:St),Q02 E Fin (pre++k) e fr σ->Q02 E Fin (pre++k') e fr σ
 |[],e,fr,σ,hc=>h e fr σ hc
 |.code c::pre,e,fr,σ,hc=>by
  cases e with
  |normal=>exact ACode.monoK (show ACode E c (Q02 E Fin (pre++k)) fr σ from hc) (Q18 h pre)
  |_=>exact Q18 h pre _ fr σ hc
 |.blk id::pre,e,fr,σ,hc=>by
  cases e with
  |normal=>exact Q18 h pre _ fr σ hc
  |exit j=>
   simp only[List.cons_append,Q02]at hc ⊢
   cases hb:Nat.beq j id with
   |true=>rw[hb]at hc;exact Q18 h pre _ fr σ hc
   |false=>rw[hb]at hc;exact Q18 h pre _ fr σ hc
  |_=>exact Q18 h pre _ fr σ hc
 |.inv J::pre,e,fr,σ,hc=>by
  cases e with
  |normal=>exact hc
  |_=>exact Q18 h pre _ fr σ hc
 |.pan J::pre,e,fr,σ,hc=>by
  cases e with
  |panic ps=>exact hc
  |_=>exact Q18 h pre _ fr σ hc
section
variable {E:Env}{ops:Array Oper}{l:List Oper}{x y:Code}{Fin:Fr->St->Prop}{k:List AItem}{α:Type}{fr:Fr}{σ:St}
theorem Qgz(hΓ:∀g cs,(g,cs)∈E.Γ->idsL isO cs){frI:α->Fr}{σI:α->St}{I:α->Prop}(hy:∀a,I a->ACode E y (Q02 E Fin k) (frI a) (σI a))(e:Exit)(fr:Fr)(σ:St)
  (h:Q02 E Fin (.inv (fun fr' σ'=>∃a ρ,I a/\LessR ρ fr' σ' (frI a) (σI a))::k) e fr σ):Q02 E Fin (.code y::k) e fr σ:=by
 cases e with
 |normal=>
  obtain⟨a,ρ,ha,hl⟩:=h
  exact ACode.lessR hΓ hl (hy a ha)
 |_=>exact h
theorem AOps.cutP(pre:List AItem)(hΓ:∀g cs,(g,cs)∈E.Γ->idsL isO cs)(frI:α->Fr)(σI:α->St)(I:α->Prop)
  (hx:AOps E ops l (Q02 E Fin (pre++.inv (fun fr' σ'=>∃a ρ,I a/\LessR ρ fr' σ' (frI a) (σI a))::k)) fr σ) (hy:∀a,I a->ACode E y (Q02 E Fin k) (frI a) (σI a)):AOps E ops l (Q02 E Fin (pre++.code y::k)) fr σ:=
 AOps.monoK hx (Q18 (Qgz hΓ hy) pre)
theorem AOps.cutN{its:List AItem}(n:Nat)(hn:its.drop n=.code y::k)(hΓ:∀g cs,(g,cs)∈E.Γ->idsL isO cs)(frI:α->Fr)(σI:α->St)(I:α->Prop)
  (hx:AOps E ops l (Q02 E Fin (its.take n++.inv (fun fr' σ'=>∃a ρ,I a/\LessR ρ fr' σ' (frI a) (σI a))::k)) fr σ) (hy:∀a,I a->ACode E y (Q02 E Fin k) (frI a) (σI a)):AOps E ops l (Q02 E Fin its) fr σ:=by
 have h:=AOps.cutP (its.take n) hΓ frI σI I hx hy
 rwa [←hn,List.take_append_drop]at h
end
@[simp] theorem ren_oaC (ρ:Nat->Nat) (k s:Nat) (es:List (List AC)) (oc:Option Nat):(oaC k s es oc).ren ρ=oaC (ρ k) s es oc:=by cases oc <;> rfl
theorem Qfa(ρ:Nat->Nat)(s:Nat)(es:List (List AC))(oc:Option Nat)(h:∀cap,idsL isO (vec s es cap)):(oaO s es oc).ren ρ=oaO s es oc:=by
 cases oc with
 |none=>rfl
 |some cap=>exact AObj.ren_pure ρ (.cells (vec s es cap)) (h cap)
@[simp] theorem ids_oaC (n k s:Nat) (es:List (List AC)) (oc:Option Nat):(oaC k s es oc).ids (inL n)↔(oc=none∨inL n (.l k)):=by cases oc <;> simp[oaC,AC.ids]
theorem Qb6{p:Id->Prop}{s cap:Nat}{es:List (List AC)}(h:idsS p es):idsL p (vec s es cap):=by
 unfold vec
 refine Q1u.2 fun c hc=>?_
 rcases List.mem_append.1 hc with hc|hc
 ·obtain⟨e,he,hc⟩:=List.mem_flatten.1 hc
  exact Q1u.1 (Q1d.1 h e he) c hc
 ·rw[List.mem_replicate]at hc
  rw[hc.2];trivial
theorem Qb7{p:Id->Prop}{s:Nat}{es:List (List AC)}{oc:Option Nat}(h:idsS p es):(oaO s es oc).ids p:=by
 cases oc with
 |none=>trivial
 |some cap=>exact Qb6 h
theorem FrSub.oa{ρ:Nat->Nat}{fr r:Fr}{d k k' s:Nat}{es:List (List AC)}{oc:Option Nat}(h:Fr.get d fr=some (.one (oaC k' s es oc)))(hk:k'=ρ k)(hr:FrSub ρ fr r):FrSub ρ fr ((d,.one (oaC k s es oc))::r):=
 FrSub.cons h (.ofEq (by subst hk;simp only[FV.ren,ren_oaC])) hr
theorem AStep.appNil{E:Env}{o:Oper}{fr:Fr}{σ:St}{t:TypeId}{ti tj:TI}{x y:Operand}{s:Nat}(hT:TabOk E.P E.T)(ho:o.op=.call { callee:=.builtin .append,args:=#[x,y],argTypes:=#[t,t] })(ht:Tab.get t E.T=some ti)(hk:Nat.beq ti.kind 2=true)(hj:Tab.get ti.elem E.T=some tj)
  (hx:aEval E.Γ fr x=some (.one (.lit (.slice none 0 0)))) (hy:aEval E.Γ fr y=some (.one (.sl s []))):AStep E o fr σ (.one (.lit (.slice none 0 0))) σ:=by
 refine AStep.quiet fun F w C tmps hi hf=>?_
 have h1:=Q00 (a:=⟨tmps,E.ds⟩) hi hf hx
 have h2:=Q00 (a:=⟨tmps,E.ds⟩) hi hf hy
 simp only[RF,R,Nat.zero_mul]at h1 h2
 obtain⟨hv,hc⟩:=h1
 obtain⟨a,c,hv2,_,_⟩:=h2
 have hu:=(hT t ti ht).slice (Nat.eq_of_beq_eq_true hk)
 obtain⟨i0,dd,z,g1,g2,g3,g4,g5,g6,g7,g8⟩:=(hT _ _ hj).ex
 refine⟨.slice none 0 0,?_,by simp only[RF,R];exact⟨trivial,rfl⟩⟩
 unfold execOp
 simp only[ho,resolve,invoke,builtin,Sem.run_bind,Sem.run_pure,Result.andThen_ok,List.map_toArray,List.map_cons,List.map_nil,hv,hv2]
 cases a with
 |none=>simp[Builtin.append_,run_underlying hu,sizeOf,typeInfo,g1,Builtin.lenOf,Builtin.firstCells,storeCells]
 |some a=>simp[Builtin.append_,run_underlying hu,sizeOf,typeInfo,g1,Builtin.lenOf,Builtin.firstCells,storeCells,loadCells,loadCellsFrom]
theorem AOps.appG0{E:Env}{ops:Array Oper}{rest:List Oper}{K:Cont}{fr:Fr}{σ:St}{o:Oper}{dd:Nat}{t:TypeId}{ti tj:TI}{x y:Operand}{s k:Nat}{es:List (List AC)}{oc:Option Nat}(hT:TabOk E.P E.T)(hgd:o.guard=none)(hdst:o.dst=some dd)(hdd:Nat.ble (dd+1) E.N=true)
  (ho:o.op=.call { callee:=.builtin .append,args:=#[x,y],argTypes:=#[t,t] }) (ht:Tab.get t E.T=some ti) (hk:Nat.beq ti.kind 2=true) (hj:Tab.get ti.elem E.T=some tj) (hx:aEval E.Γ fr x=some (.one (oaC k s es oc))) (hy:aEval E.Γ fr y=some (.one (.sl s [])))
  (h:AOps E ops rest K ((dd,.one (oaC k s es oc))::fr) σ):AOps E ops (o::rest) K fr σ:=by
 cases oc with
 |none=>exact AOps.step1 hgd hdst hdd (AStep.appNil hT ho ht hk hj hx hy) h
 |some cap=>exact AOps.step1 hgd hdst hdd (AStep.appNone hT ho ht hk hj hx hy) h
end Go.Abs
namespace Go.Abs
section
variable {θ:Id->Id}
mutual
theorem AC.sub_f(hθ:∀i:Id,isO i->θ i=i):∀c:AC,c.ids isO->c.sub θ=c
 |.lit _,_=>rfl
 |.any,_=>rfl
 |.sl s es,h=>by simp only[AC.ids]at h;simp only[AC.sub];rw[Qc4 hθ es h]
 |.box cs,h=>by simp only[AC.ids]at h;simp only[AC.sub];rw[Q5x hθ cs h]
 |.ptr i off,h=>by simp only[AC.ids]at h;simp only[AC.sub];rw[hθ i h]
 |.gs s es i,h=>by simp only[AC.ids]at h;simp only[AC.sub];rw[hθ i h.1,Qc4 hθ es h.2]
 |.arr i s off len cap,h=>by simp only[AC.ids]at h;simp only[AC.sub];rw[hθ i h]
 |.mp i,h=>by simp only[AC.ids]at h;simp only[AC.sub];rw[hθ i h]
 |.fn f a b,h=>by simp only[AC.ids]at h;simp only[AC.sub];rw[Q5x hθ a h.1,Q5x hθ b h.2]
 |.ifc t ag cs,h=>by simp only[AC.ids]at h;simp only[AC.sub];rw[Q5x hθ cs h]
theorem Qc4(hθ:∀i:Id,isO i->θ i=i):∀es:List (List AC),idsS isO es->subS θ es=es
 |[],_=>rfl
 |e::es,h=>by simp only[idsS]at h;simp only[subS];rw[Q5x hθ e h.1,Qc4 hθ es h.2]
theorem Q5x(hθ:∀i:Id,isO i->θ i=i):∀cs:List AC,idsL isO cs->subL θ cs=cs
 |[],_=>rfl
 |c::cs,h=>by simp only[idsL]at h;simp only[subL];rw[AC.sub_f hθ c h.1,Q5x hθ cs h.2]
end
mutual
theorem FV.sub_f(hθ:∀i:Id,isO i->θ i=i):∀x:FV,x.ids isO->x.sub θ=x
 |.bot,_=>rfl
 |.one c,h=>by simp only[FV.ids]at h;simp only[FV.sub];rw[AC.sub_f hθ c h]
 |.agg cs,h=>by simp only[FV.ids]at h;simp only[FV.sub];rw[Q5x hθ cs h]
 |.tup vs,h=>by simp only[FV.ids]at h;simp only[FV.sub];rw[subF_f hθ vs h]
theorem subF_f(hθ:∀i:Id,isO i->θ i=i):∀vs:List FV,idsF isO vs->subF θ vs=vs
 |[],_=>rfl
 |v::vs,h=>by simp only[idsF]at h;simp only[subF];rw[FV.sub_f hθ v h.1,subF_f hθ vs h.2]
end
theorem AObj.sub_f(hθ:∀i:Id,isO i->θ i=i)(o:AObj)(h:o.ids isO):o.sub θ=o:=by
 cases o with
 |cells cs=>simp only[AObj.sub];rw[Q5x hθ cs h]
 |map ck es=>
  simp only[AObj.sub]
  congr 1
  rw[List.map_congr_left (g:=id),List.map_id]
  intro x hx
  have:=h x hx
  obtain⟨a,b,c⟩:=x
  simp only[FV.sub_f hθ c this,id]
 |iter m a b d=>simp only[AObj.sub];rw[hθ m h]
 |sit s q=>rfl
 |tok e s u=>rfl
 |dead=>rfl
end
def posOf (i:Nat):List Nat->Option Nat
 |[]=>none
 |j::r=>bif Nat.beq i j then some 0 else match posOf i r with|some p=>some (p+1)|none=>none
theorem Q5f:∀{js:List Nat}{i p:Nat},posOf i js=some p->js[p]?=some i
 | [], i, p, h => by cases h
 |j::r,i,p,h=>by
  simp only[posOf]at h
  by_cases e:i=j
  ·subst e
   simp at h;subst h;rfl
  ·rw[Q08 e]at h
   cases hr:posOf i r with
   |none=>rw[hr]at h;cases h
   |some q=>
    rw[hr]at h
    simp at h;subst h
    simpa using Q5f hr
def toOs (js:List Nat)(k:Nat):Id->Id
 |.l i=>match posOf i js with|some p=>.o (k+p)|none=>.l i
 |.o i=>.o i
structure CedN (θ:Id->Id)(fr:Fr)(σ:St)(fr':Fr)(σ':St):Prop where
 fr:∀d x,Fr.get d fr'=some x->∃y,Fr.get d fr=some y/\WkF (y.sub θ) x
 n:σ'.n=σ.n
 obj:∀i x,σ'.get i=some x->∃i0 y,σ.get i0=some y/\θ i0=i/\x=y.sub θ
theorem AOps.cedeN{E:Env}{ops:Array Oper}{rest:List Oper}{K:Cont}{fr:Fr}{σ:St}(js:List Nat)(hj:∀j∈js,j < σ.n)(h:∀k,(∀m,k<=m->σ.ou m=none)->∃fr' σ',CedN (toOs js k) fr σ fr' σ'/\AOps E ops rest K fr' σ'):AOps E ops rest K fr σ:=by
 intro F w0 C0 w C tmps hg hi hf
 have hnone:∀m,C.no<=m->σ.ou m=none:=fun m hm=>by
  cases hx:σ.ou m with
  |none=>rfl
  |some x=>
   have:m < C.no:=(hi.obj (.o m) x hx).1
   omega
 obtain⟨fr',σ',hc,h⟩:=h _ hnone
 let C2:Ctx:={ C with no:=C.no+js.length,phi:=fun i=>match i with|.o m=>if m < C.no then C.phi (.o m)else (match js[m - C.no]? with|some j=>C.phi (.l j)|none=>C.phi (.o m))|.l m=>C.phi (.l m),tk:=fun i=>match i with|.o m=>if m < C.no then C.tk (.o m)else (match js[m - C.no]? with|some j=>C.tk (.l j)|none=>C.tk (.o m))|.l m=>C.tk (.l m) }
 have hx:Ext w C w C2:=⟨fun _ _=>rfl,fun _ h=>h,fun i _ ho=>by
  cases i with
  |l m=>exact⟨ho,rfl,rfl⟩
  |o m=>
   have hm:m < C.no:=ho
   refine⟨Nat.lt_of_lt_of_le hm (Nat.le_add_right _ _),?_,?_⟩
   ·show (if m < C.no then _ else _)=_;rw[if_pos hm];rfl
   ·show (if m < C.no then _ else _)=_;rw[if_pos hm];rfl⟩
 have hb:Bus (toOs js C.no) (fun _=>True) w C2 C:=⟨fun _ h=>h,fun i _ ho=>by
  cases i with
  |o m=>exact hx.id (.o m) trivial ho
  |l m=>
   simp only[toOs]
   cases hp:posOf m js with
   |none=>exact⟨ho,rfl,rfl⟩
   |some p=>
    have hjp:=Q5f hp
    have hlt:p < js.length:=(List.getElem?_eq_some_iff.1 hjp).1
    refine⟨Nat.add_lt_add_left hlt _,?_,?_⟩
    ·show (if C.no+p < C.no then _ else _)=_
     rw[if_neg (by omega),Nat.add_sub_cancel_left,hjp];rfl
    ·show (if C.no+p < C.no then _ else _)=_
     rw[if_neg (by omega),Nat.add_sub_cancel_left,hjp];rfl⟩
 have hok:∀i0 y,σ.get i0=some y->C.ok i0:=fun i0 y hy=>(hi.obj i0 y hy).1
 have hi':Inv E.Γ F w C2 σ':=by
  refine⟨hi.base,by rw[hc.n];exact hi.next,fun g cs hm=>(hi.glob g cs hm).ext hx,hi.prot,fun i x hxx=>?_,fun i1 i2 x1 x2 g h1 h2 h3 h4=>?_⟩
  ·obtain⟨i0,y,hy,rfl,rfl⟩:=hc.obj i x hxx
   obtain⟨k1,k2⟩:=hi.obj i0 y hy
   exact⟨(hb.id i0 trivial k1).1,ObjOk.bus hb (AObj.ids_all y) trivial k1 (fun _ h=>h) k2⟩
  ·obtain⟨a,y,hy,rfl,rfl⟩:=hc.obj i1 x1 h1
   obtain⟨b,z,hz,rfl,rfl⟩:=hc.obj i2 x2 h2
   rw[AObj.block_bus hb trivial (hok a y hy)]at h3
   rw[AObj.block_bus hb trivial (hok b z hz)]at h4
   rw[hi.inj a b y z g hy hz h3 h4]
 refine h F w0 C0 w C2 tmps (hg.trans ⟨Stp.refl _ _,hx.weaken (fun _ _=>trivial),Nat.le_add_right _ _,NewP.refl _ _⟩) hi' ⟨hf.1,fun d x hd=>?_⟩
 obtain⟨y,hy,hw⟩:=hc.fr d x hd
 obtain⟨u,hu,hr⟩:=hf.2 d y hy
 exact⟨u,hu,hw _ _ _ (RF.bus hb y u (FV.ids_true y) hr)⟩
def ouAdd (ou:Outer)(k:Nat)(os:List AObj):Outer:=fun m=>bif Nat.blt m k then ou m else os[m - k]?
theorem Q24{ou:Outer}{k:Nat}{os:List AObj}{m:Nat}(h:m < k):ouAdd ou k os m=ou m:=by
 unfold ouAdd
 have:Nat.blt m k=true:=by simp[Nat.blt];exact h
 rw[this];rfl
theorem Q2q{ou:Outer}{k:Nat}{os:List AObj}(p:Nat):ouAdd ou k os (k+p)=os[p]?:=by
 unfold ouAdd
 have:Nat.blt (k+p) k=false:=by
  cases h:Nat.blt (k+p) k with
  |false=>rfl
  |true=>simp[Nat.blt]at h;omega
 rw[this,Nat.add_sub_cancel_left];rfl
inductive CedFrN (θ:Id->Id)(fr:Fr):Fr->Prop
 |nil:CedFrN θ fr []
 |cons {k:Nat}{x y:FV}{r:Fr}(h:Fr.get k fr=some y) (hw:y.sub θ=x) (hr:CedFrN θ fr r):CedFrN θ fr ((k,x)::r)
theorem CedFrN.get{θ:Id->Id}{fr fr':Fr}(h:CedFrN θ fr fr'):∀d x,Fr.get d fr'=some x->∃y,Fr.get d fr=some y/\WkF (y.sub θ) x:=by
 induction h with
 |nil=>intro d x h;cases h
 |@cons k x y r h hw hr ih=>
  intro d z hz
  simp only[Fr.get]at hz
  by_cases e:k=d
  ·subst e;simp at hz;subst hz;exact⟨y,h,WkF.ofEq hw⟩
  ·rw[Q08 e]at hz;exact ih d z hz
inductive CedLo (θ:Id->Id)(lo:List (Nat×AObj))(js:List Nat):List (Nat×AObj)->Prop
 |nil:CedLo θ lo js []
 |cons {n:Nat}{o y:AObj}{r:List (Nat×AObj)}(h:lookL n lo=some y) (hn:posOf n js=none) (ho:y.sub θ=o) (hr:CedLo θ lo js r):CedLo θ lo js ((n,o)::r)
theorem CedLo.get{θ:Id->Id}{lo lo':List (Nat×AObj)}{js:List Nat}(h:CedLo θ lo js lo'):∀n o,lookL n lo'=some o->posOf n js=none/\∃y,lookL n lo=some y/\y.sub θ=o:=by
 induction h with
 |nil=>intro n o h;cases h
 |@cons m x y r h hn ho hr ih=>
  intro n o hz
  simp only[lookL]at hz
  by_cases e:m=n
  ·subst e;simp at hz;subst hz;exact⟨hn,y,h,ho⟩
  ·rw[Q08 e]at hz;exact ih n o hz
inductive CedOs (θ:Id->Id)(lo:List (Nat×AObj)):List Nat->List AObj->Prop
 |nil:CedOs θ lo [] []
 |cons {j:Nat}{o y:AObj}{js:List Nat}{os:List AObj}(h:lookL j lo=some y) (ho:y.sub θ=o) (hr:CedOs θ lo js os):CedOs θ lo (j::js) (o::os)
theorem CedOs.get{θ:Id->Id}{lo:List (Nat×AObj)}{js:List Nat}{os:List AObj}(h:CedOs θ lo js os):∀(p:Nat)(o:AObj),os[p]?=some o->∃j y,js[p]?=some j/\lookL j lo=some y/\y.sub θ=o:=by
 induction h with
 |nil=>intro p o h;simp at h
 |@cons j o y js os h ho hr ih=>
  intro p z hz
  cases p with
  |zero=>simp at hz;subst hz;exact⟨j,y,rfl,h,ho⟩
  |succ p=>simpa using ih p z (by simpa using hz)
theorem Q7r:∀{js:List Nat}{p j:Nat},js.Nodup->js[p]?=some j->posOf j js=some p
 |[],p,j,_,h=>by simp at h
 |i::r,p,j,hn,h=>by
  simp only[List.nodup_cons]at hn
  cases p with
  |zero=>simp at h;subst h;simp[posOf]
  |succ p=>
   have h1:r[p]?=some j:=by simpa using h
   have hne:j≠i:=fun e=>hn.1 (e▸List.mem_of_getElem? h1)
   simp only[posOf,Q08 hne,cond_false,Q7r hn.2 h1]
theorem AOps.cedes{E:Env}{ops:Array Oper}{rest:List Oper}{K:Cont}{fr:Fr}{σ:St}(js:List Nat)(hj:js.all (fun j=>Nat.blt j σ.n)=true)(hnd:js.Nodup)(hou:OuOk σ.ou)
  (h:∀k,(∀m,k<=m->σ.ou m=none)->∃fr' lo' os,CedFrN (toOs js k) fr fr'/\CedLo (toOs js k) σ.lo js lo'/\CedOs (toOs js k) σ.lo js os/\AOps E ops rest K fr' ⟨σ.n,lo',ouAdd σ.ou k os⟩):AOps E ops rest K fr σ:=by
 refine AOps.cedeN js (fun j hjj=>?_) fun k hk=>?_
 ·have:=List.all_eq_true.1 hj j hjj
  exact Nat.le_of_ble_eq_true (show Nat.ble (j+1) σ.n=true from this)
 obtain⟨fr',lo',os,h1,h2,h3,h4⟩:=h k hk
 refine⟨fr',⟨σ.n,lo',ouAdd σ.ou k os⟩,⟨h1.get,rfl,fun i x hx=>?_⟩,h4⟩
 cases i with
 |l m=>
  obtain⟨hp,y,hy,rfl⟩:=h2.get m x hx
  exact⟨.l m,y,hy,by simp[toOs,hp],rfl⟩
 |o m=>
  have hx':ouAdd σ.ou k os m=some x:=hx
  rcases Nat.lt_or_ge m k with hm|hm
  ·rw[Q24 hm]at hx'
   exact⟨.o m,x,hx',rfl,(AObj.sub_f (fun i hi=>by cases i with|l q=>exact hi.elim|o q=>rfl) x (hou m x hx')).symm⟩
  ·obtain⟨p,rfl⟩:∃p,m=k+p:=⟨m - k,by omega⟩
   rw[Q2q]at hx'
   obtain⟨j,y,q1,q2,rfl⟩:=h3.get p x hx'
   exact⟨.l j,y,q2,by simp[toOs,Q7r hnd q1],rfl⟩
theorem AFn.forget{P:Program}{Γ:List (Nat×List AC)}{g:Nat}{args:List FV}{ou:Outer}{Q:FV->Outer->Prop}(h:AFn P Γ g args ou (fun r ou'=>∃ou'':Outer,(∀m o,ou'' m=some o->ou' m=some o)/\Q r ou'')):AFn P Γ g args ou Q:=by
 refine⟨h.1,fun F w C cargs h0 hi hr=>(h.2 F w C cargs h0 hi hr).mono fun e w' ⟨v,r,ou',C',h1,h2,h3,h4,h5,ou'',h6,h7⟩=>⟨v,r,ou'',C',h1,h2,h3,?_,h5,h7⟩⟩
 have hs:∀i o,(St.mk 0 [] ou'').get i=some o->(St.mk 0 [] ou').get i=some o:=fun i o hio=>by
  cases i with
  |l m=>cases hio
  |o m=>exact h6 m o hio
 exact⟨h4.base,h4.next,h4.glob,h4.prot,fun i o ho=>h4.obj i o (hs i o ho),fun i j o o' g h1 h2 h3 h5=>h4.inj i j o o' g (hs i o h1) (hs j o' h2) h3 h5⟩
end Go.Abs
namespace Go.Abs
def inS (S:List Nat)(i:Nat):Bool:=S.any fun k=>Nat.beq k i
def fC:List Nat->List FV->Nat->Option FV
 |s::S,v::vs,i=>bif Nat.beq s i then some v else fC S vs i
 |_,_,_=>none
def chainB (l:List Oper):List Nat->Bool
 |s::s'::S=>(match l[s']? with|some o=>o.after.any fun e=>Region.binds .any e&&Nat.beq e.on s|none=>false)&&chainB l (s'::S)
 |_=>true
def Q50 (l:List Oper)(S:List Nat)(n:Nat):Bool:=(l.take n).zipIdx.all fun x=>inS S x.2||x.1.after.toList.all fun e=>!Region.binds .any e||!(inS S e.on)
theorem Q9a:∀{S:List Nat}{vs:List FV}{i:Nat},inS S i=false->fC S vs i=none
 |[],[],_,_=>rfl
 |[],_::_,_,_=>rfl
 |s::S,[],_,_=>rfl
 |s::S,v::vs,i,h=>by
  simp only[inS,List.any_cons,Bool.or_eq_false_iff]at h
  simp only[fC,h.1,cond_false]
  exact Q9a h.2
theorem Q74{S:List Nat}(hn:S.Nodup):∀{vs:List FV}{p i:Nat},S[p]?=some i->p < vs.length->fC S vs i=vs[p]?:=by
 induction S with
 |nil=>intro vs p i h;simp at h
 |cons s S ih=>
  intro vs p i h hp
  simp only[List.nodup_cons]at hn
  cases vs with
  |nil=>simp at hp
  |cons v vs=>
   cases p with
   |zero=>simp at h;subst h;simp[fC]
   |succ p=>
    have h1:S[p]?=some i:=by simpa using h
    have hne:s≠i:=fun e=>hn.1 (e▸List.mem_of_getElem? h1)
    simp only[fC,Q08 hne,cond_false]
    rw[ih hn.2 h1 (by simpa using hp)]
    simp
theorem Q84{S:List Nat}(hn:S.Nodup):∀{vs:List FV}{p i:Nat},S[p]?=some i->vs.length<=p->fC S vs i=none:=by
 induction S with
 |nil=>intro vs p i h;simp at h
 |cons s S ih=>
  intro vs p i h hp
  simp only[List.nodup_cons]at hn
  cases vs with
  |nil=>rfl
  |cons v vs=>
   cases p with
   |zero=>simp at hp
   |succ p=>
    have h1:S[p]?=some i:=by simpa using h
    have hne:s≠i:=fun e=>hn.1 (e▸List.mem_of_getElem? h1)
    simp only[fC,Q08 hne,cond_false]
    exact ih hn.2 h1 (by simpa using hp)
theorem fC_upd{S:List Nat}(hn:S.Nodup){vs:List FV}{i:Nat}{v:FV}(h:S[vs.length]?=some i):updV (fC S vs) i v=fC S (vs++[v]):=by
 funext j
 unfold updV
 by_cases hj:inS S j=true
 ·obtain⟨s,hs,he⟩:=List.any_eq_true.1 hj
  obtain rfl:s=j:=Nat.eq_of_beq_eq_true he
  obtain⟨p,hp⟩:=List.mem_iff_getElem?.1 hs
  by_cases e:s=i
  ·subst e
   have hpv:p=vs.length:=(List.getElem?_inj (List.getElem?_eq_some_iff.1 hp).1 hn).1 (hp.trans h.symm)
   subst hpv
   rw[Q74 (vs:=vs++[v]) hn hp (by simp)]
   simp
  ·have hpv:p≠vs.length:=fun e2=>by subst e2;rw[h]at hp;exact e (by simpa using hp.symm)
   simp only[Ne.symm e,if_false,e]
   rcases Nat.lt_or_ge p vs.length with h1|h1
   ·rw[Q74 hn hp h1,Q74 hn hp (by simp;omega),List.getElem?_append_left h1]
   ·rw[Q84 hn hp h1,Q84 hn hp (by simp;omega)]
 ·have hj':inS S j=false:=by simpa using hj
  have hne:j≠i:=fun e=>by
   subst e
   have:inS S j=true:=List.any_eq_true.2 ⟨j,List.mem_of_getElem? h,by simp⟩
   rw[this]at hj';cases hj'
  rw[Q9a hj',Q9a hj']
  simp[Ne.symm hne,hne]
theorem Q78{l:List Oper}:∀{S:List Nat},chainB l S=true->∀{p i j:Nat}{o:Oper},S[p]?=some i->S[p+1]?=some j->l[j]?=some o->∃e∈o.after.toList,Region.binds .any e=true/\e.on=i
 |[],_,p,i,j,o,h1,_,_=>by simp at h1
 |[s],_,p,i,j,o,_,h2,_=>by simp at h2
 |s::s'::S,h,p,i,j,o,h1,h2,h3=>by
  simp only[chainB,Bool.and_eq_true]at h
  cases p with
  |zero=>
   simp at h1 h2
   subst h1;subst h2
   rw[h3]at h
   obtain⟨e,he,hb⟩:=Array.any_eq_true'.1 h.1
   simp only[Bool.and_eq_true]at hb
   exact⟨e,by simpa using he,hb.1,Nat.eq_of_beq_eq_true hb.2⟩
  |succ p=>exact Q78 h.2 (by simpa using h1) (by simpa using h2) h3
section
variable {E:Env}{l:List Oper}{frb:Fr}{K:Cont}
end
end Go.Abs
namespace Go.Abs
theorem Q71{s:Nat}:∀(l:List (List AC))(n:Nat),(∀x∈l,x.length=s)->n<=l.length->l.flatten.drop (n * s)=(l.drop n).flatten
 |[],n,_,hn=>by simp at hn;subst hn;simp
 |x::l,0,_,_=>by simp
 |x::l,n+1,h,hn=>by
  have hx:=h x (by simp)
  rw[List.flatten_cons,List.drop_succ_cons,Nat.add_mul,Nat.one_mul,Nat.add_comm,←hx,←List.drop_drop,List.drop_left,hx]
  exact Q71 l n (fun y hy=>h y (by simp[hy])) (by simpa using hn)
theorem Qab{s:Nat}(l:List (List AC))(n:Nat)(h:∀x∈l,x.length=s)(hn:n<=l.length):l.flatten.take (n * s)=(l.take n).flatten:=by
 have h1:=Q1v (fun x hx=>h x (List.mem_of_mem_take (i:=n) hx))
 have h2:(l.take n).length=n:=by simp;omega
 rw[h2]at h1
 conv=>lhs;rw[←List.take_append_drop n l,List.flatten_append]
 rw[List.take_append_of_le_length (by omega),List.take_of_length_le (by omega)]
section
variable {Γ:List (Nat×List AC)}{F:Nat->Prop}{w:World}{C:Ctx}{σ:St}
theorem Inv.part(hi:Inv Γ F w C σ){j:Id}{s cap off k:Nat}{es:List (List AC)}(hg:σ.get j=some (.cells (vec s es cap)))(hel:∀x∈es,x.length=s)(hn:es.length<=cap)(hk:off+k<=es.length):
  ∃nv,nv.length=k * s/\RV w C ((es.drop off).take k).flatten nv/\Held w nv ⟨C.blk j,off * s,none⟩:=by
 obtain⟨hok,xs,T,o1,o2,o3,o4⟩:=hi.obj j _ hg
 have hxl:xs.length=cap * s:=by rw[RV.length o3,Q3n hel hn]
 have hfe:=Q1v hel
 have hle:(off+k) * s<=es.length * s:=Nat.mul_le_mul_right _ hk
 have hle2:es.length * s<=cap * s:=Nat.mul_le_mul_right _ hn
 rw[Nat.add_mul]at hle
 refine⟨(xs.drop (off * s)).take (k * s),by simp;omega,?_,fun i u hu=>?_⟩
 ·have h1:=(o3.drop (off * s)).take (k * s)
  have e2:((vec s es cap).drop (off * s)).take (k * s)=((es.drop off).take k).flatten:=by
   rw[vec,List.drop_append_of_le_length (by omega),List.take_append_of_le_length (by rw[List.length_drop];omega),Q71 es off hel (by omega),Qab _ k (fun x hx=>hel x (List.mem_of_mem_drop hx)) (by simp;omega)]
  rwa [e2]at h1
 ·rw[Addr.add_none rfl,cell_of_row _ _ _ _ _ _ o1]
  have h2:i < k * s:=by have:=(List.getElem?_eq_some_iff.1 hu).1;simp at this;omega
  rw[List.getElem?_take_of_lt h2,List.getElem?_drop]at hu
  simpa using hu
theorem Qhm{s cap off:Nat}{es news:List (List AC)}{xs nv:List Value}(hel:∀x∈es,x.length=s)(hn:es.length<=cap)(ho:off<=es.length)(hnl:∀x∈news,x.length=s)(hroom:off+news.length<=cap)(hnr:RV w C news.flatten nv)(o3:RV w C (vec s es cap) xs):
  RV w C (vec s (es.take off++news++es.drop (off+news.length)) cap) (xs.take (off * s)++nv++xs.drop (off * s+nv.length)):=by
 have hnvl:nv.length=news.length * s:=by rw[RV.length hnr,Q1v hnl]
 have hfe:=Q1v hel
 have hle:off * s<=es.length * s:=Nat.mul_le_mul_right _ ho
 have e1:(vec s es cap).take (off * s)=(es.take off).flatten:=by
  rw[vec,List.take_append_of_le_length (by omega),Qab es off hel ho]
 have e2:∃l:List AC,vec s (es.take off++news++es.drop (off+news.length)) cap=(es.take off).flatten++news.flatten++l/\∀ys,RV w C ((vec s es cap).drop (off * s+nv.length)) ys->RV w C l ys:=by
  by_cases h:off+news.length<=es.length
  ·refine⟨(vec s es cap).drop (off * s+nv.length),?_,fun ys h=>h⟩
   have hle2:(off+news.length) * s<=es.length * s:=Nat.mul_le_mul_right _ h
   rw[hnvl,←Nat.add_mul,vec,vec,List.drop_append_of_le_length (by omega),Q71 es _ hel h]
   have hlen:(es.take off++news++es.drop (off+news.length)).length=es.length:=by simp;omega
   rw[hlen];simp
  ·have hd:es.drop (off+news.length)=[]:=List.drop_of_length_le (by omega)
   refine⟨List.replicate ((cap - (off+news.length)) * s) .any,?_,fun ys h=>?_⟩
   ·have hlen:(es.take off++news).length=off+news.length:=by simp;omega
    rw[hd,List.append_nil,vec,hlen,List.flatten_append]
   ·have h1:=h.toAny
    have h2:((vec s es cap).drop (off * s+nv.length)).length=(cap - (off+news.length)) * s:=by
     rw[List.length_drop,Q3n hel hn,hnvl,←Nat.add_mul,Nat.sub_mul]
    rwa [h2]at h1
 obtain⟨l,q1,q2⟩:=e2
 rw[q1]
 have h1:=o3.take (off * s)
 rw[e1]at h1
 exact (h1.append hnr).append (q2 _ (o3.drop _))
theorem Inv.copyRows(hi:Inv Γ F w C σ){P:Program}{t t' ty e:TypeId}{tj:TI}(hsl:P.underlying t=some (.slice e))(hj:TIOk P e tj){i:Id}{s cap off m c1 m2 c2 k:Nat}{es news:List (List AC)}{ad:Addr}{nv:List Value}(hg:σ.get i=some (.cells (vec s es cap)))(hel:∀x∈es,x.length=s)(hn:es.length<=cap)(ho:off<=es.length)
  (hnl:∀x∈news,x.length=s) (hnlen:news.length=k) (hnr:RV w C news.flatten nv) (hheld:Held w nv ad) (hs:tj.size=s) (hk:min m2 m=k) (hroom:off+k<=cap):
  ∃w',(Builtin.copy_ #[t,t'] ty #[.slice (some ⟨C.blk i,off * s,none⟩) m c1,.slice (some ad) m2 c2]).run P w=.ok (goInt k) w'/\Goes F (fun _=>True) w C w' C/\Inv Γ F w' C (σ.set i (.cells (vec s (es.take off++news++es.drop (off+k)) cap))):=by
 obtain⟨hok,xs,T,o1,o2,o3,o4⟩:=hi.obj i _ hg
 have hnvl:nv.length=k * s:=by rw[RV.length hnr,Q1v hnl,hnlen]
 have hxl:xs.length=cap * s:=by rw[RV.length o3,Q3n hel hn]
 have hle:(off+k) * s<=cap * s:=Nat.mul_le_mul_right _ hroom
 rw[Nat.add_mul]at hle
 have hrv:=Qhm hel hn ho hnl (by rw[hnlen];exact hroom) hnr o3
 rw[hnlen]at hrv
 have hz:=hj.run_sizeOf (w:=w)
 have k1:=run_firstCells_some (P:=P) w tj.size k ad m2 c2 nv (by rw[hnvl,hs]) hheld
 have k2:=run_storeCells_at P (C.blk i) (off * s) T nv 0 xs.toArray w o1 (by simp only[List.size_toArray,Nat.add_zero,hnvl,hxl];exact hle) (RV.one hnr)
 rw[Nat.add_zero]at k2
 simp only[List.toList_toArray]at k2
 obtain⟨g1,g2,g3⟩:=hi.storeRow hg o1 hrv
 have hk':Nat.min m2 m=k:=hk
 refine⟨_,?_,⟨g1,g2,Nat.le_refl _,NewP.refl _ _⟩,g3⟩
 simp[Builtin.copy_,run_underlying hsl,Builtin.lenOf,hk',hz,k1,k2,Result.andThen]
theorem Inv.appZeros(hi:Inv Γ F w C σ){P:Program}{t tn ty e:TypeId}{tj:TI}{kn kq:IntKind}(hsl:P.underlying t=some (.slice e))(htn:P.underlying tn=some (.int kn))(hj:TIOk P e tj){i:Id}{s cap a m:Nat}{es:List (List AC)}(hg:σ.get i=some (.cells (vec s es cap)))(hel:∀x∈es,x.length=s)(hn:es.length<=cap)(ha:a<=es.length)
  (hs:tj.size=s) (hm:0 < m) (hroom:cap < a+m) (hbytes:(a+m) * tj.bytes<=140737488355328) (h63:a+m<=140737488355328):
  ∃v' w' C' capn,(Builtin.append_ #[t,tn] ty #[.slice (some ⟨C.blk i,0,none⟩) a cap,.int kq m]).run P w=.ok v' w'/\Goes F (fun _=>True) w C w' C'/\Inv Γ F w' C' (σ.push (.cells (vec s (es.take a) capn)))/\R w' C' (.arr (.l σ.n) s 0 (a+m) capn) v'/\a+m<=capn:=by
 obtain⟨i0,dd,z,g1,g2,g3,g4,g5,g6,g7,g8⟩:=hj.ex
 obtain⟨he0,hid⟩:=hi.drew
 obtain⟨ov,hovl,hor,hohd⟩:=hid.part (off:=0) (k:=a) hg hel hn (by omega)
 rw[Nat.zero_mul]at hohd
 rw[List.drop_zero]at hor
 have hpos:=hj.pos
 have hone:=hj.one
 rw[←g6]at hone
 have hzl:z.cells.size=tj.size:=by have:=hj.len;rw[←g6]at this;simpa using this
 have hold:=run_firstCells_some (P:=P) w.drew i0.size a ⟨C.blk i,0,none⟩ a cap ov (by rw[hovl,g3,hs]) hohd
 have hmb:m * tj.bytes<=(a+m) * tj.bytes:=Nat.mul_le_mul_right _ (by omega)
 have hr:=Lib.run_append_grow_zeros (P:=P) w t tn ty e i0 z kq kn hsl htn g1 g5 (some ⟨C.blk i,0,none⟩) a cap ov hold m hm (by rw[g3];omega) hroom (by omega) (by rw[g4];omega) (growslice_fits (by omega) (by rw[g4];exact hbytes))
 have hge:=grownCap_ge w (a+m) cap e
 obtain⟨zs,hzs⟩:∃zs,zs=(Builtin.zeroCells z.cells m).toList++(Builtin.zeroCells z.cells (grownCap w (a+m) cap e - (a+m))).toList:=⟨_,rfl⟩
 have hz1:∀x∈zs,x.oneCell'=true:=fun x hx=>by
  rw[hzs]at hx
  rcases List.mem_append.1 hx with h|h
  ·exact Q22 hone (by rw[hzl];exact hpos) _ x h
  ·exact Q22 hone (by rw[hzl];exact hpos) _ x h
 have hzn:zs.length=(grownCap w (a+m) cap e - a) * s:=by
  rw[hzs,List.length_append,Array.length_toList,Array.length_toList,size_zeroCells,size_zeroCells,hzl,hs,←Nat.add_mul]
  congr 1;omega
 have hrv:RV w.drew C (vec s (es.take a) (grownCap w (a+m) cap e)) (ov++zs):=by
  have hl:(es.take a).length=a:=by simp;omega
  rw[vec,hl,←hzn]
  exact hor.append (RV.anys _ hz1)
 obtain⟨C',he,hno,hnp,hin,hok,hblk⟩:=hid.newObj hrv e
 have heq:(ov++zs).toArray=ov.toArray++Builtin.zeroCells z.cells m++Builtin.zeroCells z.cells (grownCap w (a+m) cap e - (a+m)):=by rw[hzs];apply Array.ext';simp
 rw[heq]at he hin
 refine⟨_,_,C',_,hr,⟨(Stp.drew F w).trans (Stp.alloc (w:=w.drew) hi.base _ _),he0.trans he,by rw[hno];exact Nat.le_refl _,hnp⟩,hin,⟨hok,?_,hge⟩,hge⟩
 rw[hblk,Nat.zero_mul];rfl
end
section
variable {E:Env}{o:Oper}{fr:Fr}{σ:St}
theorem AStep.copyOwn{t t':TypeId}{ti tj:TI}{x y:Operand}{i j:Id}{s cap off m c1 cap2 off2 m2 c2 k:Nat}{es es2 es':List (List AC)}(hT:TabOk E.P E.T)(ho:o.op=.call { callee:=.builtin .copy,args:=#[x,y],argTypes:=#[t,t'] })(ht:Tab.get t E.T=some ti)(hkd:Nat.beq ti.kind 2=true)(hj:Tab.get ti.elem E.T=some tj)(hs:Nat.beq tj.size s=true)
  (hx:aEval E.Γ fr x=some (.one (.arr i s off m c1))) (hy:aEval E.Γ fr y=some (.one (.arr j s off2 m2 c2))) (hg:σ.get i=some (.cells (vec s es cap))) (hel:∀x∈es,x.length=s) (hn:es.length<=cap) (hof:off<=es.length)
  (hg2:σ.get j=some (.cells (vec s es2 cap2))) (hel2:∀x∈es2,x.length=s) (hn2:es2.length<=cap2) (hk:min m2 m=k) (hk2:off2+k<=es2.length) (hroom:off+k<=cap) (he':es.take off++(es2.drop off2).take k++es.drop (off+k)=es'):
  AStep E o fr σ (.one (.lit (goInt k))) (σ.set i (.cells (vec s es' cap))):=by
 subst he'
 intro F w C tmps hi hf next Q hk3
 have h1:=Q00 (a:=⟨tmps,E.ds⟩) hi hf hx
 have h2:=Q00 (a:=⟨tmps,E.ds⟩) hi hf hy
 simp only[RF,R]at h1 h2
 obtain⟨nv,hnvl,hnr,hheld⟩:=hi.part hg2 hel2 hn2 hk2
 have hnl:∀x∈(es2.drop off2).take k,x.length=s:=fun x hx=>hel2 x (List.mem_of_mem_drop (List.mem_of_mem_take hx))
 obtain⟨w',hrun,hgo,hi'⟩:=hi.copyRows (t':=t') (ty:=o.type) (c1:=c1) (c2:=c2) ((hT t ti ht).slice (Nat.eq_of_beq_eq_true hkd)) (hT _ _ hj) hg hel hn hof hnl (by simp;omega) hnr hheld (Nat.eq_of_beq_eq_true hs) hk hroom
 have hex:(execOp (Act.eval ⟨tmps,E.ds⟩) o).run E.P w=.ok (.value (goInt k)) w':=by
  unfold execOp
  simp only[ho,resolve,invoke,builtin,Sem.run_bind,Sem.run_pure,Result.andThen_ok,List.map_toArray,List.map_cons,List.map_nil,h1.2.1,h2.2.1,hrun]
 unfold Oper.wp
 rw[hex,Oper.upon_value]
 exact hk3 _ _ C hgo hi' (by simp only[RF,R];exact⟨trivial,rfl⟩)
theorem AStep.copySl{t t':TypeId}{ti tj:TI}{x y:Operand}{i:Id}{d:AC}{s cap off m c1:Nat}{es news es':List (List AC)}(hT:TabOk E.P E.T)(ho:o.op=.call { callee:=.builtin .copy,args:=#[x,y],argTypes:=#[t,t'] })(ht:Tab.get t E.T=some ti)(hkd:Nat.beq ti.kind 2=true)(hj:Tab.get ti.elem E.T=some tj)(hs:Nat.beq tj.size s=true)
  (hx:aEval E.Γ fr x=some (.one (.arr i s off m c1))) (hy:aEval E.Γ fr y=some (.one d)) (hsrc:Src d s news) (hne:news≠[]) (hg:σ.get i=some (.cells (vec s es cap))) (hel:∀x∈es,x.length=s) (hn:es.length<=cap) (hof:off<=es.length)
  (hk:news.length<=m) (hroom:off+news.length<=cap) (he':es.take off++news++es.drop (off+news.length)=es'):
  AStep E o fr σ (.one (.lit (goInt news.length))) (σ.set i (.cells (vec s es' cap))):=by
 subst he'
 intro F w C tmps hi hf next Q hk3
 have h1:=Q00 (a:=⟨tmps,E.ds⟩) hi hf hx
 have h2:=Q00 (a:=⟨tmps,E.ds⟩) hi hf hy
 simp only[RF,R]at h1 h2
 obtain⟨hnl,b,capn,nv,hv2,hnvl,hnr,hheld,_⟩:=hsrc.held h2
 obtain⟨ad,rfl,hh2⟩:=hheld.resolve_left hne
 obtain⟨w',hrun,hgo,hi'⟩:=hi.copyRows (t':=t') (ty:=o.type) (m:=m) (c1:=c1) (m2:=news.length) (c2:=capn) ((hT t ti ht).slice (Nat.eq_of_beq_eq_true hkd)) (hT _ _ hj) hg hel hn hof hnl rfl hnr hh2 (Nat.eq_of_beq_eq_true hs) (by omega) hroom
 have hex:(execOp (Act.eval ⟨tmps,E.ds⟩) o).run E.P w=.ok (.value (goInt news.length)) w':=by
  unfold execOp
  simp only[ho,resolve,invoke,builtin,Sem.run_bind,Sem.run_pure,Result.andThen_ok,List.map_toArray,List.map_cons,List.map_nil,h1.2.1,hv2,hrun]
 unfold Oper.wp
 rw[hex,Oper.upon_value]
 exact hk3 _ _ C hgo hi' (by simp only[RF,R];exact⟨trivial,rfl⟩)
theorem Q0y.appZeros{t tn:TypeId}{ti tj:TI}{x y:Operand}{kn kq:IntKind}{i:Id}{s cap a m:Nat}{es:List (List AC)}(hT:TabOk E.P E.T)(ho:o.op=.call { callee:=.builtin .append,args:=#[x,y],argTypes:=#[t,tn] })(ht:Tab.get t E.T=some ti)(hkd:Nat.beq ti.kind 2=true)(hj:Tab.get ti.elem E.T=some tj)(hs:Nat.beq tj.size s=true)(htn:E.P.underlying tn=some (.int kn))
  (hx:aEval E.Γ fr x=some (.one (.arr i s 0 a cap))) (hy:aEval E.Γ fr y=some (.one (.lit (.int kq m)))) (hg:σ.get i=some (.cells (vec s es cap))) (hel:∀x∈es,x.length=s) (hn:es.length<=cap) (ha:a<=es.length)
  (hm:0 < m) (hroom:cap < a+m) (hbytes:(a+m) * tj.bytes<=140737488355328) (h63:a+m<=140737488355328):
  Q0y E o fr σ (fun v σ'=>∃capn,a+m<=capn/\v=.one (.arr (.l σ.n) s 0 (a+m) capn)/\σ'=σ.push (.cells (vec s (es.take a) capn))):=by
 intro F w C tmps hi hf next Q hk3
 have h1:=Q00 (a:=⟨tmps,E.ds⟩) hi hf hx
 have h2:=Q00 (a:=⟨tmps,E.ds⟩) hi hf hy
 simp only[RF,R,Nat.zero_mul]at h1 h2
 obtain⟨v',w',C',capn,hrun,hgo,hi',hr,hle⟩:=hi.appZeros (ty:=o.type) (kq:=kq) ((hT t ti ht).slice (Nat.eq_of_beq_eq_true hkd)) htn (hT _ _ hj) hg hel hn ha (Nat.eq_of_beq_eq_true hs) hm hroom hbytes h63
 have hex:(execOp (Act.eval ⟨tmps,E.ds⟩) o).run E.P w=.ok (.value v') w':=by
  unfold execOp
  simp only[ho,resolve,invoke,builtin,Sem.run_bind,Sem.run_pure,Result.andThen_ok,List.map_toArray,List.map_cons,List.map_nil,h1.2.1,h2.1,hrun]
 unfold Oper.wp
 rw[hex,Oper.upon_value]
 exact hk3 _ _ C' _ _ ⟨capn,hle,rfl,rfl⟩ hgo hi' (by simp only[RF];exact hr)
theorem AStep.overlapsSl{t tR:TypeId}{ti tj:TI}{f x y:Operand}{tys:Array TypeId}{g:Nat}{j:Id}{s off2 m2 c2:Nat}{news:List (List AC)}{csj:List AC}(hT:TabOk E.P E.T)(ho:o.op=.call { callee:=.value f,args:=#[x,y],argTypes:=tys })(hf:aEval E.Γ fr f=some (.one (.fn (.func g) [] [])))(ht:Tab.get t E.T=some ti)(hk:Nat.beq ti.kind 2=true)(hj:Tab.get ti.elem E.T=some tj)
  (hov:∀us v w,(Extern.SlicesOverlaps.overlaps #[t,t] #[tR] us).run E.P w=.ok v w->(callFunc g us).run E.P w=.ok (.value v) w)
  (hx:aEval E.Γ fr x=some (.one (.sl s news))) (hy:aEval E.Γ fr y=some (.one (.arr j s off2 m2 c2))) (hne:news≠[]) (hs:0 < s) (hg2:σ.get j=some (.cells csj)) (hc:csj.length≠0):
  AStep E o fr σ (.one (.lit (.bool false))) σ:=by
 refine AStep.quiet fun F w C tmps hi hfr=>⟨.bool false,?_,rfl,rfl⟩
 have hcallee:=Q00 (a:=⟨tmps,E.ds⟩) hi hfr hf
 have h1:=Q00 (a:=⟨tmps,E.ds⟩) hi hfr hx
 have h2:=Q00 (a:=⟨tmps,E.ds⟩) hi hfr hy
 simp only[RF,R]at h1 hcallee h2
 obtain⟨xs,ys,hfv,q1,q2⟩:=hcallee
 simp only[RV]at q1 q2
 subst q1;subst q2
 obtain⟨b,capn,hv1,_,hrs⟩:=h1
 obtain⟨ad,rfl,hsp,hrs⟩:=hrs.resolve_left hne
 obtain⟨r,rest,rfl⟩:∃r rest,news=r::rest:=List.exists_cons_of_ne_nil hne
 simp only[RS]at hrs
 obtain⟨hrl,hrr,_⟩:=hrs
 obtain⟨c,cs,rfl⟩:∃c cs,r=c::cs:=List.exists_cons_of_ne_nil (by rintro rfl;simp at hrl;omega)
 simp only[RL]at hrr
 obtain⟨⟨u,hu,hpr,_⟩,_⟩:=hrr
 obtain⟨hok2,vs2,T2,p1,p2,p3,p4⟩:=hi.obj j _ hg2
 have hne2:ad.block≠C.blk j:=fun e=>p4 ad e hpr
 have hnb:(ad.block != C.blk j)=true:=by simpa using hne2
 have hnb':(ad.block==C.blk j)=false:=by simpa using hne2
 have hz:∀w,(Go.sizeOf ti.elem).run E.P w=.ok tj.size w:=fun w=>(hT _ _ hj).run_sizeOf (w:=w)
 have ht':=(hT t ti ht).slice (Nat.eq_of_beq_eq_true hk)
 have hsa:∃T k,w.shape? ad.block=some (T,k+1):=by
  unfold World.cell? at hu
  unfold World.shape?
  split at hu
  ·rename_i cur T fr0 heq
   rw[if_neg (by simp[hsp])]at hu
   have:=(Array.getElem?_eq_some_iff.1 hu).1
   exact⟨T,cur.size - 1,by simp;omega⟩
  ·cases hu
 obtain⟨TA,kA,hsa⟩:=hsa
 have hsb:w.shape? (C.blk j)=some (T2,vs2.length):=by simp[World.shape?,p1]
 have hfb:∀n,w.frozen? ⟨C.blk j,n,none⟩=false:=fun n=>by simp[World.frozen?,p1]
 have hr:(Extern.SlicesOverlaps.overlaps #[t,t] #[tR] #[.slice (some ad) (List.length ((c::cs)::rest)) capn,.slice (some ⟨C.blk j,off2 * s,none⟩) m2 c2]).run E.P w=.ok (.bool false) w:=by
  change Sem.run E.P (α:=Value) (do
   let some t:=(#[t,t]:Array TypeId)[0]?|stuck "slices.overlaps: no parameter types"
   let .slice elem ←underlying t|stuck "slices.overlaps: slice type expected"
   let size ←sizeOf elem
   match (some ad:Option Addr),(some (⟨C.blk j,off2 * s,none⟩:Addr):Option Addr) with
   |some a,some b=>
    if (List.length ((c::cs)::rest))=0∨m2=0∨size=0 then pure (Value.bool false)
    else if a.block != b.block&&(←frozen a)&&(←frozen b)then unsupported .addressObserved
    else do
     if a.block != b.block then do
      noView a;noView b
      if ←mayBeOne a b then return Value.bool ((←choose (.extern "sameAddr.stringBytes" 2))==1)
     pure (Value.bool (a.block==b.block&&a.off < b.off+m2 * size&&b.off < a.off+(List.length ((c::cs)::rest)) * size))
   |_,_=>pure (Value.bool false)) w=_
  by_cases h0:(List.length ((c::cs)::rest))=0∨m2=0∨tj.size=0
  ·simp only[List.getElem?_toArray,List.getElem?_cons_zero,Sem.run_bind,run_underlying ht',Result.andThen_ok,hz,if_pos h0,Sem.run_pure]
  ·cases hfa:w.frozen? ad <;> cases hfe:w.frozen? ⟨ad.block,kA+1,none⟩ <;>
    simp[run_underlying ht',hz,h0,hnb,hnb',frozen,noView,viewAt,mayBeOne,stringish,shape,Sem.run,hsa,hsb,hfb,hfa,hfe]
 unfold execOp
 simp only[ho,resolve,Sem.run_bind,hfv,Deferred.ofValue,Sem.run_pure,Result.andThen_ok,invoke]
 have h5:Array.map (Act.eval ⟨tmps,E.ds⟩) #[x,y]=#[.slice (some ad) (List.length ((c::cs)::rest)) capn,.slice (some ⟨C.blk j,off2 * s,none⟩) m2 c2]:=by simp[hv1,h2.2.1]
 rw[h5]
 simpa using hov _ _ w hr
end
end Go.Abs
namespace Go.Abs
end Go.Abs
namespace Go.Abs
end Go.Abs
namespace Go.Abs
section
variable {E:Env}{o:Oper}{fr:Fr}{σ:St}
end
theorem AOps.storeOwnA{E:Env}{ops:Array Oper}{rest:List Oper}{o:Oper}{K:Cont}{fr:Fr}{σ:St}{t:TypeId}{ti:TI}{x y:Operand}{j:Id}{cs vs:List AC}(hT:TabOk E.P E.T)(hgd:o.guard=none)(hd:o.dst=none)(ho:o.op=.store t x y)(ht:Tab.get t E.T=some ti)(hs:Nat.beq vs.length ti.size=true)(hl:vs.length=cs.length)
  (hx : aEval E.Γ fr x = some (.one (.ptr j 0))) (hy : aEval E.Γ fr y = some (.agg vs)) (hg : σ.get j = some (.cells cs)) (h : AOps E ops rest K fr (σ.set j (.cells vs))) : AOps E ops (o :: rest) K fr σ := by
 refine AOps.store hT hgd hd ?_ h
 have hs':vs.length=ti.size:=Nat.eq_of_beq_eq_true hs
 have hb:Nat.ble (0+ti.size) cs.length=true:=Nat.ble_eq▸(show 0+ti.size<=cs.length by omega)
 have ov:∀(xs ws:List AC),ws.length=xs.length->over xs 0 ws=ws:=by
  intro xs
  induction xs with
  |nil=>intro ws h;cases ws with
   |nil=>rfl
   |cons a ws=>simp at h
  |cons a xs ih=>
   intro ws h
   cases ws with
   |nil=>simp at h
   |cons b ws=>simp only[over];rw[ih ws (by simpa using h)]
 simp only[ho,aOp,ht,hx,hy,Q8d,hg,FV.cells,hs,hb,cond_true,Bool.and_self,Q0x,ov cs vs hl]
theorem RS.drop{w:World}{C:Ctx}{s:Nat}:∀(b:Nat)(es:List (List AC))(ad:Addr),ad.spot=none->RS w C s es ad->RS w C s (es.drop b) ⟨ad.block,ad.off+b * s,none⟩
 |0,es,ad,hs,h=>by
  obtain⟨bl,of,sp⟩:=ad
  simp only at hs;subst hs
  simpa using h
 |b+1,[],ad,hs,h=>by simp[RS]
 |b+1,e::es,ad,hs,h=>by
  simp only[RS]at h
  have:=RS.drop b es _ rfl h.2.2
  simp only[List.drop_succ_cons]
  rw[show ad.off+(b+1) * s=ad.off+s+b * s by rw[Nat.add_mul];omega]
  exact this
section
variable {E:Env}{o:Oper}{fr:Fr}{σ:St}
theorem AStep.sliceFrom{t:TypeId}{ti tj:TI}{x l:Operand}{k:IntKind}{b sz:Nat}{es:List (List AC)}(hT:TabOk E.P E.T)(ho:o.op=.slice t x (some l) none none)(ht:Tab.get t E.T=some ti)(hk:Nat.beq ti.kind 2=true)(hj:Tab.get ti.elem E.T=some tj)(hsz:Nat.beq tj.size sz=true)
  (hx:aEval E.Γ fr x=some (.one (.sl sz es))) (hl:aEval E.Γ fr l=some (.one (.lit (.int k (b:Int))))) (hb:b<=es.length):AStep E o fr σ (.one (.sl sz (es.drop b))) σ:=by
 refine AStep.quiet fun F w C tmps hi hf=>?_
 have e1:=Q00 (a:=⟨tmps,E.ds⟩) hi hf hx
 have e3:=Q00 (a:=⟨tmps,E.ds⟩) hi hf hl
 simp only[RF,R]at e1 e3
 obtain⟨ad,cap,hv,hcap,hrs⟩:=e1
 have hsz':tj.size=sz:=Nat.eq_of_beq_eq_true hsz
 have hu:=(hT t ti ht).slice (Nat.eq_of_beq_eq_true hk)
 have hsz2:=(hT _ _ hj).run_sizeOf (w:=w)
 have hrun:(execOp (Act.eval ⟨tmps,E.ds⟩) o).run E.P w=.ok (.value (.slice (if cap=b then ad else ad.map (·.add (b * tj.size))) (es.length - b) (cap - b))) w:=by
  unfold execOp
  simp only[ho,hv,e3.1,Option.map_some,Option.map_none]
  simp[Instr.sliceAt,Instr.slice,run_underlying hu,hsz2,Instr.sliceBounds,Instr.sliceBound,asIntOf,hb,hcap,Result.andThen]
 have hlen:(es.drop b).length=es.length - b:=by simp
 refine⟨_,hrun,?_⟩
 simp only[RF,R,hlen]
 refine⟨_,_,rfl,by omega,?_⟩
 rcases hrs with rfl|⟨a,rfl,hs,hr⟩
 ·left;simp
 ·by_cases he:es.drop b=[]
  ·exact .inl he
  ·right
   have h1:b < es.length:=by
    rcases Nat.lt_or_ge b es.length with h|h
    ·exact h
    ·exact absurd (List.drop_eq_nil_of_le h) he
   have e2:a.add (b * tj.size)=⟨a.block,a.off+b * sz,none⟩:=by
    obtain⟨bl,of,sp⟩:=a
    simp only at hs;subst hs
    simp only[Addr.add,hsz']
    split
    ·rename_i h0;simp[h0]
    ·rfl
   rw[if_neg (by omega),Option.map_some,e2]
   exact⟨_,rfl,rfl,RS.drop b es a hs hr⟩
end
end Go.Abs
namespace Go.Abs
theorem AStep.callE{E:Env}{o:Oper}{fr:Fr}{σ:St}{f:Operand}{args:Array Operand}{tys:Array TypeId}{g:Nat}{first caps:List AC}{vs as':List FV}{r:FV}
  (hΓ:∀g cs,(g,cs)∈E.Γ->idsL isO cs) (ho:o.op=.call { callee:=.value f,args:=args,argTypes:=tys })
  (hf:aEval E.Γ fr f=some (.one (.fn (.func g) first caps))) (hargs:Q16 E.Γ fr args.toList=some vs) (has:first.map .one++vs++caps.map .one=as') (hids:idsF isO as') (hou:OuOk σ.ou)
  (hc:AFn E.P E.Γ g as' σ.ou (fun r' ou'=>r'=r/\ou'=σ.ou)):AStep E o fr σ r σ:=by
 subst has
 intro F w C tmps hi hfr next Q hk
 have hcallee:=Q00 (a:=⟨tmps,E.ds⟩) hi hfr hf
 simp only[RF,R]at hcallee
 obtain⟨xs,ys,hfv,hx,hy⟩:=hcallee
 have hvs:=Q14 (a:=⟨tmps,E.ds⟩) hi hfr hargs
 have hall:RFs w C (first.map .one++vs++caps.map .one) (xs++args.toList.map (Act.eval ⟨tmps,E.ds⟩)++ys):=(RFs.ones hx |>.append hvs).append (RFs.ones hy)
 have hrun:(execOp (Act.eval ⟨tmps,E.ds⟩) o).run E.P w=.ok (.enter g (xs++args.toList.map (Act.eval ⟨tmps,E.ds⟩)++ys).toArray) w:=by
  unfold execOp
  simp only[ho,resolve,Sem.run_bind,hfv,Deferred.ofValue,Sem.run_pure,Result.andThen_ok,invoke,hc.1]
  congr 2
  apply Array.ext'
  simp
 unfold Oper.wp
 rw[hrun,Oper.upon_enter]
 have hc1:Chg isO w C w { C with nl:=0 }:=⟨fun _ _=>rfl,fun _ h=>h,fun i hp ho=>⟨by cases i with|l k=>cases hp|o k=>exact ho,rfl,rfl⟩⟩
 refine (hc.2 (Q1w w C σ.ou) w { C with nl:=0 } _ rfl (hi.forCallee hou hΓ) (RFs.chg hc1 _ _ hids hall)).mono fun e w' ⟨v,r',ou',C',he,hgo,h0,hi',hr,hQ1,hQ2⟩=>?_
 subst he;subst hQ1;subst hQ2
 obtain⟨hb1,hb2,hb3⟩:=hi.back hgo h0 hi'
 have hrid:r'.ids isO:=FV.ids_mono (Q31 h0) r' (RF.idsOk r' v hr)
 exact hk v w' _ hb1 hb2 (RF.chg hb3 r' v hrid hr)
end Go.Abs
namespace Go.Abs
end Go.Abs
namespace Go.Abs
theorem Q11{P:Program}(w:World)(t el:TypeId)(p:Option Addr)(h:P.underlying t=some (.pointer el)):(Op.equal t (.pointer p) (.pointer none)).run P w=.ok p.isNone w:=by
 have:∀d:Nat,(Op.equalIn (d+1) t (.pointer p) (.pointer none)).run P w=.ok p.isNone w:=fun d=>by
  cases p <;> simp[Op.equalIn,run_underlying h]
 exact this 9999
section
variable {E:Env}{o:Oper}{fr:Fr}{σ:St}{t yt el:TypeId}{x y:Operand}
theorem AStep.eqNil0(ht:E.P.underlying t=some (.pointer el))(ho:o.op=.binOp .eql t x y yt)(hx:aEval E.Γ fr x=some (.one (.lit (.pointer none))))(hy:aEval E.Γ fr y=some (.one (.lit (.pointer none)))):AStep E o fr σ (.one (.lit (.bool true))) σ:=by
 refine AStep.quiet fun F w C tmps hi hf=>⟨.bool true,?_,rfl,rfl⟩
 have h1:=Q00 (a:=⟨tmps,E.ds⟩) hi hf hx
 have h2:=Q00 (a:=⟨tmps,E.ds⟩) hi hf hy
 simp only[RF,R]at h1 h2
 unfold execOp
 simp only[ho,h1.1,h2.1,eqGuard_at_pointer,Sem.run_bind,Sem.run_pure,Result.andThen_ok]
 simp[binOp,Q11 _ _ _ _ ht]
theorem AStep.neNil{i:Id}{off:Nat}(ht:E.P.underlying t=some (.pointer el))(ho:o.op=.binOp .neq t x y yt)(hx:aEval E.Γ fr x=some (.one (.ptr i off)))(hy:aEval E.Γ fr y=some (.one (.lit (.pointer none)))):AStep E o fr σ (.one (.lit (.bool true))) σ:=by
 refine AStep.quiet fun F w C tmps hi hf=>⟨.bool true,?_,rfl,rfl⟩
 have h1:=Q00 (a:=⟨tmps,E.ds⟩) hi hf hx
 have h2:=Q00 (a:=⟨tmps,E.ds⟩) hi hf hy
 simp only[RF,R]at h1 h2
 unfold execOp
 simp only[ho,h1.2,h2.1,eqGuard_at_pointer,Sem.run_bind,Sem.run_pure,Result.andThen_ok]
 simp[binOp,Q11 _ _ _ _ ht]
theorem AStep.neNil0(ht:E.P.underlying t=some (.pointer el))(ho:o.op=.binOp .neq t x y yt)(hx:aEval E.Γ fr x=some (.one (.lit (.pointer none))))(hy:aEval E.Γ fr y=some (.one (.lit (.pointer none)))):AStep E o fr σ (.one (.lit (.bool false))) σ:=by
 refine AStep.quiet fun F w C tmps hi hf=>⟨.bool false,?_,rfl,rfl⟩
 have h1:=Q00 (a:=⟨tmps,E.ds⟩) hi hf hx
 have h2:=Q00 (a:=⟨tmps,E.ds⟩) hi hf hy
 simp only[RF,R]at h1 h2
 unfold execOp
 simp only[ho,h1.1,h2.1,eqGuard_at_pointer,Sem.run_bind,Sem.run_pure,Result.andThen_ok]
 simp[binOp,Q11 _ _ _ _ ht]
end
end Go.Abs
namespace Go.Abs
section
variable {Γ:List (Nat×List AC)}{F:Nat->Prop}{w:World}{C:Ctx}{σ:St}
theorem Inv.appZeros0(hi:Inv Γ F w C σ){P:Program}{t tn ty e:TypeId}{tj:TI}{kn kq:IntKind}(hsl:P.underlying t=some (.slice e))(htn:P.underlying tn=some (.int kn))(hj:TIOk P e tj){s m:Nat}
  (hs:tj.size=s) (hm:0 < m) (hbytes:m * tj.bytes<=140737488355328) (h63:m<=140737488355328):
  ∃v' w' C' capn,(Builtin.append_ #[t,tn] ty #[.slice none 0 0,.int kq m]).run P w=.ok v' w'/\Goes F (fun _=>True) w C w' C'/\Inv Γ F w' C' (σ.push (.cells (vec s [] capn)))/\R w' C' (.arr (.l σ.n) s 0 m capn) v'/\m<=capn:=by
 obtain⟨i0,dd,z,g1,g2,g3,g4,g5,g6,g7,g8⟩:=hj.ex
 obtain⟨he0,hid⟩:=hi.drew
 have hpos:=hj.pos
 have hone:=hj.one
 rw[←g6]at hone
 have hzl:z.cells.size=tj.size:=by have:=hj.len;rw[←g6]at this;simpa using this
 have hold:(Builtin.firstCells i0.size 0 (.slice none 0 0)).run P w.drew=.ok ([]:List Value).toArray w.drew:=by simp[Builtin.firstCells]
 have hr:=Lib.run_append_grow_zeros (P:=P) w t tn ty e i0 z kq kn hsl htn g1 g5 none 0 0 [] hold m hm (by rw[g3];omega) (by omega) (by omega) (by rw[g4];omega) (growslice_fits (by omega) (by rw[g4];simpa using hbytes))
 have hge:=grownCap_ge w (0+m) 0 e
 rw[Nat.zero_add]at hr hge
 obtain⟨zs,hzs⟩:∃zs,zs=(Builtin.zeroCells z.cells m).toList++(Builtin.zeroCells z.cells (grownCap w m 0 e - m)).toList:=⟨_,rfl⟩
 have hz1:∀x∈zs,x.oneCell'=true:=fun x hx=>by
  rw[hzs]at hx
  rcases List.mem_append.1 hx with h|h
  ·exact Q22 hone (by rw[hzl];exact hpos) _ x h
  ·exact Q22 hone (by rw[hzl];exact hpos) _ x h
 have hzn:zs.length=(grownCap w m 0 e - 0) * s:=by
  rw[hzs,List.length_append,Array.length_toList,Array.length_toList,size_zeroCells,size_zeroCells,hzl,hs,←Nat.add_mul]
  congr 1;omega
 have hrv:RV w.drew C (vec s [] (grownCap w m 0 e)) zs:=by
  rw[vec,List.length_nil,←hzn]
  exact RV.anys _ hz1
 obtain⟨C',he,hno,hnp,hin,hok,hblk⟩:=hid.newObj hrv e
 have heq:zs.toArray=([]:List Value).toArray++Builtin.zeroCells z.cells m++Builtin.zeroCells z.cells (grownCap w m 0 e - m):=by rw[hzs];apply Array.ext';simp
 rw[heq]at he hin
 refine⟨_,_,C',_,hr,⟨(Stp.drew F w).trans (Stp.alloc (w:=w.drew) hi.base _ _),he0.trans he,by rw[hno];exact Nat.le_refl _,hnp⟩,hin,⟨hok,?_,hge⟩,hge⟩
 rw[hblk,Nat.zero_mul];rfl
end
section
variable {E:Env}{o:Oper}{fr:Fr}{σ:St}
theorem Q0y.appZeros0{t tn:TypeId}{ti tj:TI}{x y:Operand}{kn kq:IntKind}{s m:Nat}(hT:TabOk E.P E.T)(ho:o.op=.call { callee:=.builtin .append,args:=#[x,y],argTypes:=#[t,tn] })(ht:Tab.get t E.T=some ti)(hkd:Nat.beq ti.kind 2=true)(hj:Tab.get ti.elem E.T=some tj)(hs:Nat.beq tj.size s=true)(htn:E.P.underlying tn=some (.int kn))
  (hx:aEval E.Γ fr x=some (.one (.lit (.slice none 0 0)))) (hy:aEval E.Γ fr y=some (.one (.lit (.int kq m)))) (hm:0 < m) (hbytes:m * tj.bytes<=140737488355328) (h63:m<=140737488355328):
  Q0y E o fr σ (fun v σ'=>∃capn,m<=capn/\v=.one (.arr (.l σ.n) s 0 m capn)/\σ'=σ.push (.cells (vec s [] capn))):=by
 intro F w C tmps hi hf next Q hk3
 have h1:=Q00 (a:=⟨tmps,E.ds⟩) hi hf hx
 have h2:=Q00 (a:=⟨tmps,E.ds⟩) hi hf hy
 simp only[RF,R]at h1 h2
 obtain⟨v',w',C',capn,hrun,hgo,hi',hr,hle⟩:=hi.appZeros0 (ty:=o.type) (kq:=kq) ((hT t ti ht).slice (Nat.eq_of_beq_eq_true hkd)) htn (hT _ _ hj) (Nat.eq_of_beq_eq_true hs) hm hbytes h63
 have hex:(execOp (Act.eval ⟨tmps,E.ds⟩) o).run E.P w=.ok (.value v') w':=by
  unfold execOp
  simp only[ho,resolve,invoke,builtin,Sem.run_bind,Sem.run_pure,Result.andThen_ok,List.map_toArray,List.map_cons,List.map_nil,h1.1,h2.1,hrun]
 unfold Oper.wp
 rw[hex,Oper.upon_value]
 exact hk3 _ _ C' _ _ ⟨capn,hle,rfl,rfl⟩ hgo hi' (by simp only[RF];exact hr)
theorem AStep.capNil{t:TypeId}{ti:TI}{x:Operand}(hT:TabOk E.P E.T)(ho:o.op=.call { callee:=.builtin .cap,args:=#[x],argTypes:=#[t] })(ht:Tab.get t E.T=some ti)(hk:Nat.beq ti.kind 2=true)(hx:aEval E.Γ fr x=some (.one (.lit (.slice none 0 0)))):AStep E o fr σ (.one (.lit (.int .i64 0))) σ:=by
 refine AStep.quiet fun F w C tmps hin hf=>⟨.int .i64 0,?_,rfl,rfl⟩
 have e1:=Q00 (a:=⟨tmps,E.ds⟩) hin hf hx
 have hu:=(hT t ti ht).slice (Nat.eq_of_beq_eq_true hk)
 simp only[RF,R]at e1
 unfold execOp
 simp[ho,resolve,invoke,builtin,e1.1,Builtin.cap_,run_underlying hu,goInt,Result.andThen]
theorem AStep.sliceNilTo{t:TypeId}{ti tj:TI}{x h:Operand}{k:IntKind}(hT:TabOk E.P E.T)(ho:o.op=.slice t x none (some h) none)(ht:Tab.get t E.T=some ti)(hk:Nat.beq ti.kind 2=true)(hj:Tab.get ti.elem E.T=some tj)
  (hx:aEval E.Γ fr x=some (.one (.lit (.slice none 0 0)))) (hh:aEval E.Γ fr h=some (.one (.lit (.int k 0)))):AStep E o fr σ (.one (.lit (.slice none 0 0))) σ:=by
 refine AStep.quiet fun F w C tmps hin hf=>⟨.slice none 0 0,?_,rfl,rfl⟩
 have e1:=Q00 (a:=⟨tmps,E.ds⟩) hin hf hx
 have e2:=Q00 (a:=⟨tmps,E.ds⟩) hin hf hh
 simp only[RF,R]at e1 e2
 have hu:=(hT t ti ht).slice (Nat.eq_of_beq_eq_true hk)
 have hsz:=(hT _ _ hj).run_sizeOf (w:=w)
 unfold execOp
 simp[ho,e1.1,e2.1,Instr.sliceAt,Instr.slice,run_underlying hu,hsz,Instr.sliceBounds,Instr.sliceBound,asIntOf,Result.andThen]
end
end Go.Abs
namespace Go.Abs
def Q0u (E:Env)(o:Oper)(fr:Fr)(σ:St)(P:FV->St->Prop)(PP:List PanicEntry->St->Prop):Prop:=
 ∀(F:Nat->Prop) (w:World) (C:Ctx) (tmps:Array Value),Inv E.Γ F w C σ->FrOk w C E.N fr tmps->
  ∀(next:Act->World->Prop) (Q:Exit->Act->World->Prop),
   (∀(u:Value) (w':World) (C':Ctx) (v:FV) (σ':St),P v σ'->Goes F (fun _=>True) w C w' C'->Inv E.Γ F w' C' σ'->RF w' C' v u->next (Act.put ⟨tmps,E.ds⟩ o.dst u) w')->
   (∀(ps:List PanicEntry) (w':World) (C':Ctx) (σ':St),PP ps σ'->Goes F (fun _=>True) w C w' C'->Inv E.Γ F w' C' σ'->Q (.panic ps) ⟨tmps,E.ds⟩ w')->o.wp E.P ⟨tmps,E.ds⟩ w next Q
def Q2h (E:Env)(ops:Array Oper)(o:Oper)(fr:Fr)(σ:St)(P:FV->St->Prop)(PP:List PanicEntry->St->Prop):Prop:=
 Q7f E ops o fr σ P∨(o.guard=none/\Q0u E o fr σ P PP)
theorem Q2h.mono{E:Env}{ops:Array Oper}{o:Oper}{fr:Fr}{σ:St}{P Q:FV->St->Prop}{PP:List PanicEntry->St->Prop}(h:Q2h E ops o fr σ P PP)(hq:∀v σ',P v σ'->Q v σ'):Q2h E ops o fr σ Q PP:=by
 rcases h with h|⟨h1,h2⟩
 ·exact .inl (h.mono hq)
 ·exact .inr ⟨h1,fun F w C tmps hi hf next Q' hk hp=>h2 F w C tmps hi hf next Q' (fun u w' C' v σ' hP=>hk u w' C' v σ' (hq _ _ hP)) hp⟩
theorem Qb9{E:Env}{ops:Array Oper}{o:Oper}{fr:Fr}{σ:St}{P:FV->St->Prop}{PP:List PanicEntry->St->Prop}(h:Q2h E ops o fr σ P PP){F:Nat->Prop}{w:World}{C:Ctx}{tmps:Array Value}(hi:Inv E.Γ F w C σ)(hf:FrOk w C E.N fr tmps){i:Nat}(ho:ops[i]?=some o)
  {next:Act->World->Prop}{Q:Exit->Act->World->Prop}(hk:∀(u:Value) (w':World) (C':Ctx) (v:FV) (σ':St),P v σ'->Goes F (fun _=>True) w C w' C'->Inv E.Γ F w' C' σ'->RF w' C' v u->next (Act.put ⟨tmps,E.ds⟩ o.dst u) w')
  (hp:∀(ps:List PanicEntry) (w':World) (C':Ctx) (σ':St),PP ps σ'->Goes F (fun _=>True) w C w' C'->Inv E.Γ F w' C' σ'->Q (.panic ps) ⟨tmps,E.ds⟩ w'):wpOp E.P ops Q i next ⟨tmps,E.ds⟩ w:=by
 rcases h with h|⟨hg,h⟩
 ·exact Q7z h hi hf ho hk
 ·unfold wpOp
  simp only[ho]
  rw[if_pos (by simp[Region.wanted,hg])]
  exact .inl (h F w C tmps hi hf next Q hk hp)
section
variable {E:Env}{l:List Oper}{frb:Fr}{n:Nat}{K:Cont}{J:Array Bool->St->(Nat->Option FV)->Prop}
theorem Qic(hB:drawB l n=true)(hfb:(dsts (l.take n)).all (fun d=>(Fr.get d frb).isNone)=true)
  (hstep : ∀ (listed : Array Bool) (σ : St) (vals : Nat -> Option FV) (i : Nat) (o : Oper), i < n -> l[i]? = some o -> listed.getD i false = false -> listed.size = l.length -> (∀ e ∈ o.after.toList, Region.binds .any e = true -> listed.getD e.on false = true) -> J listed σ vals ->
   dstOk E.N o.dst=true/\Q2h E l.toArray o (Q0d l vals o++frb) σ (fun v σ'=>J (listed.setIfInBounds i true) σ' (updV vals i v)) (fun ps σ'=>K (.panic ps) frb σ'))
  (htail : ∀ σ vals, J (Q09 l.length n) σ vals -> AOps E l.toArray (l.drop n) K (Q0f vals 0 (l.take n) ++ frb) σ) {F : Nat -> Prop} {w0 : World} {C0 : Ctx} :
  ∀(c:Nat) (listed:Array Bool) (a:Act) (w:World),((List.range n).filter fun j=>!listed.getD j false).length=c->HeadInv .any l.toArray n listed->MidJ E l n frb J F w0 C0 listed a w->
   wpAny E.P .any l.toArray (Post E F w0 C0 K) (c+(l.length - n)) listed a w:=by
 simp only[drawB,Bool.and_eq_true,decide_eq_true_eq]at hB
 obtain⟨⟨⟨⟨⟨hn,hs⟩,hc⟩,hsq⟩,hdi⟩,haf⟩:=hB
 have hsz:l.toArray.size=l.length:=by simp
 intro c
 induction c with
 |zero=>
  intro listed a w hcnt hinv hmid
  have hall:∀j,j < n->listed.getD j false=true:=by
   intro j hj
   have:(List.range n).filter (fun j=>!listed.getD j false)=[]:=List.eq_nil_of_length_eq_zero hcnt
   have h2:=List.filter_eq_nil_iff.1 this j (List.mem_range.2 hj)
   simpa using h2
  have hl:listed=Q09 l.length n:=by
   apply Array.ext
   ·simp[Q09,hinv.size]
   ·intro j h1 h2
    have hj:j < l.length:=by simpa[Q09]using h2
    have h3:listed.getD j false=listed[j]:=by simp[h1]
    simp only[Q09,Array.getElem_map,Array.getElem_range]
    by_cases hjn:j < n
    ·rw[←h3,hall j hjn];simp[hjn]
    ·have:=hinv.tail j (by omega) (by rw[hsz];exact hj)
     rw[Q3e h1]at this
     rw[←h3,this];simp[hjn]
  have hdl:(l.drop n).length=l.length - n:=by simp
  rw[Nat.zero_add,←hdl]
  refine wpAny_of_seq (md:=.any) (l.drop n) n listed a w (fun j=>by simp[List.getElem?_drop]) (by rw[hl,hdl];exact hsq) ?_
  obtain⟨hd,C,σ,vals,hJ,hg,hi,hf,hv⟩:=hmid
  have ha:a=⟨a.tmps,E.ds⟩:=by cases a;simp_all
  rw[ha]
  rw[hl]at hJ
  refine htail σ vals hJ F w0 C0 w C a.tmps hg hi ⟨hf.1,fun k x hk=>?_⟩
  rcases Fr.get_append hk with hk|⟨_,hk⟩
  ·obtain⟨i,o,h1,h2,h3⟩:=Q3d (Fr.get_mem hk)
   rw[Nat.zero_add]at h3
   have hin:i < n:=by
    have:=(List.getElem?_eq_some_iff.1 h1).1
    simp at this;omega
   rw[List.getElem?_take_of_lt hin]at h1
   exact hv i o k x hin h1 h2 h3
  ·exact hf.2 k x hk
 |succ c ih=>
  intro listed a w hcnt hinv hmid
  -- some head is not listed
  have hex:∃i,i < n/\listed.getD i false=false/\∀j,j < i->listed.getD j false=true:=by
   have hne:∃i,i < n/\listed.getD i false=false:=by
    cases hL:(List.range n).filter (fun j=>!listed.getD j false) with
    |nil=>rw[hL]at hcnt;simp at hcnt
    |cons i L=>
     have:i∈(List.range n).filter (fun j=>!listed.getD j false):=by rw[hL];simp
     obtain⟨h1,h2⟩:=List.mem_filter.1 this
     exact⟨i,List.mem_range.1 h1,by simpa using h2⟩
   obtain⟨i,hi⟩:=hne
   induction i using Nat.strongRecOn with
   |_ i ih2=>
    by_cases h:∃j,j < i/\listed.getD j false=false
    ·obtain⟨j,hj,hj2⟩:=h
     exact ih2 j hj ⟨by omega,hj2⟩
    ·exact⟨i,hi.1,hi.2,fun j hj=>(Bool.not_eq_false _).mp (fun hb=>h ⟨j,hj,hb⟩)⟩
  obtain⟨i0,hi0n,hi0u,hi0m⟩:=hex
  have hready:i0∈Region.ready .any l.toArray listed:=by
   rw[mem_ready]
   have hlt:i0 < l.length:=by omega
   refine⟨by rw[Q3e (by rw[hinv.size,hsz];exact hlt)];exact hi0u,l[i0],by simp[hlt],fun e he hb=>?_⟩
   have h1:=List.all_eq_true.1 haf (l[i0],i0) (by
    rw[List.mem_zipIdx_iff_getElem?]
    rw[List.getElem?_take_of_lt hi0n]
    simp[hlt])
   have h2:=Array.all_eq_true_iff_forall_mem.1 h1 e he
   simp only[hb,Bool.not_true,Bool.false_or,decide_eq_true_eq]at h2
   exact hi0m _ h2
  rw[show c+1+(l.length - n)=(c+(l.length - n))+1 by omega]
  refine⟨fun h=>absurd hready (by rw[h];simp),fun i hi=>?_⟩
  have hi0t:listed.getD i0 true=false:=(mem_ready.1 hready).1
  have hin:i < n:=by
   rcases Nat.lt_or_ge i n with h|h
   ·exact h
   ·exact absurd hi (tail_waits hs hc (by rw[hsz];exact hn) hinv _ i0 rfl hi0n hi0t i h)
  obtain⟨hun,o,ho,hall⟩:=mem_ready.1 hi
  have hlo:l[i]?=some o:=by simpa using ho
  obtain⟨hd,C,σ,vals,hJ,hg,hinvw,hf,hvals⟩:=hmid
  have ha:a=⟨a.tmps,E.ds⟩:=by cases a;simp_all
  rw[ha]
  have huni:listed.getD i false=false:=getD_both hun
  have hil:i < listed.size:=by rw[hinv.size,hsz];omega
  have hlast:∀e∈o.after.toList,Region.binds .any e=true->e.on < n:=fun e he hb=>by
   have h1:=List.all_eq_true.1 haf (o,i) (by
    rw[List.mem_zipIdx_iff_getElem?]
    rw[List.getElem?_take_of_lt hin]
    simpa using hlo)
   have h2:=Array.all_eq_true_iff_forall_mem.1 h1 e (by simpa using he)
   simp only[hb,Bool.not_true,Bool.false_or,decide_eq_true_eq]at h2
   omega
  obtain⟨hdo,hst⟩:=hstep listed σ vals i o hin hlo huni (by rw[hinv.size,hsz]) (fun e he hb=>hall e (by simpa using he) hb) hJ
  have hfr:FrOk w C E.N (Q0d l vals o++frb) a.tmps:=by
   refine⟨hf.1,fun k x hk=>?_⟩
   rcases Fr.get_append hk with hk|⟨_,hk⟩
   ·have hm:=Fr.get_mem hk
    obtain⟨e,he,he2⟩:=List.mem_filterMap.1 hm
    cases hb:Region.binds .any e with
    |false=>rw[hb]at he2;cases he2
    |true=>
     rw[hb]at he2;simp only[cond_true]at he2
     cases h1:(l[e.on]?).bind (·.dst) with
     |none=>rw[h1]at he2;cases he2
     |some d=>
      cases h2:vals e.on with
      |none=>rw[h1,h2]at he2;cases he2
      |some v'=>
       rw[h1,h2]at he2;cases he2
       cases h3:l[e.on]? with
       |none=>rw[h3]at h1;cases h1
       |some oe=>
        rw[h3]at h1
        exact hvals e.on oe k x (hlast e he hb) h3 h1 h2
   ·exact hf.2 k x hk
  refine Qb9 hst hinvw hfr ho (fun u w' C' v σ' hJ' hgo hi' hr=>?_) (fun ps w' C' σ' hps hgo hi'=>⟨rfl,frb,σ',C',hg.trans hgo.toO,hi',hf.ext hgo.chg,hps⟩)
  refine ih _ _ _ ?_ (hinv.set hi hin) ⟨put_defers ..,C',σ',_,hJ',hg.trans hgo.toO,hi',?_,fun j oj dj vj hj hoj hdj hvj=>?_⟩
  ·have h2:((List.range n).filter fun j=>!(listed.setIfInBounds i true).getD j false).length+1=((List.range n).filter fun j=>!listed.getD j false).length:=Q6b hin huni hil
   omega
  ·cases hdd:o.dst with
   |none=>exact hf.ext hgo.chg
   |some d=>
    refine⟨by simp[Act.put,hf.1],fun k x hk=>?_⟩
    obtain⟨u',hu',hr'⟩:=hf.2 k x hk
    have hne:d≠k:=by
     rintro rfl
     have h1:=List.all_eq_true.1 hfb d (List.mem_filterMap.2 ⟨o,List.mem_of_getElem? (i:=i) (by rw[List.getElem?_take_of_lt hin];exact hlo),hdd⟩)
     rw[hk]at h1;cases h1
    refine⟨u',?_,hr'.ext hgo.chg⟩
    simp only[Act.put]
    rw[Array.getElem?_setIfInBounds_ne hne];exact hu'
  ·by_cases e:i=j
   ·subst e
    rw[hlo]at hoj;cases hoj
    rw[updV,if_pos rfl]at hvj
    cases hvj
    have hdN:dj < a.tmps.size:=by
     rw[hf.1]
     rw[hdj]at hdo
     exact Nat.le_of_ble_eq_true (show Nat.ble (dj+1) E.N=true from hdo)
    exact⟨u,by rw[hdj];simp[Act.put,hdN],hr⟩
   ·simp only[updV,if_neg e]at hvj
    obtain⟨u',hu',hr'⟩:=hvals j oj dj vj hj hoj hdj hvj
    cases hdd:o.dst with
    |none=>exact⟨u',hu',hr'.ext hgo.chg⟩
    |some d=>
     have hne:d≠dj:=by
      rintro rfl
      exact e (Q1n hdi (by rw[List.getElem?_take_of_lt hin];exact hlo) (by rw[List.getElem?_take_of_lt hj];exact hoj) hdd hdj)
     refine⟨u',?_,hr'.ext hgo.chg⟩
     simp only[Act.put]
     rw[Array.getElem?_setIfInBounds_ne hne];exact hu'
def AAny (E:Env)(l:List Oper)(K:Cont)(fr:Fr)(σ:St):Prop:=
 ∀(F:Nat->Prop) (w0:World) (C0:Ctx) (w:World) (C:Ctx) (tmps:Array Value),Goes F isO w0 C0 w C->Inv E.Γ F w C σ->FrOk w C E.N fr tmps->wpAny E.P .any l.toArray (Post E F w0 C0 K) l.toArray.size (Array.replicate l.toArray.size false) ⟨tmps,E.ds⟩ w.drew
theorem AAny.code{fr:Fr}{σ0:St}{id:Nat}(hm:E.P.follows .mixedOrders=true)(h:AAny E l K fr σ0):ACode E (.region id l.toArray true) K fr σ0:=fun F w0 C0 w C tmps hg hi hf=>wp_region_any hm (h F w0 C0 w C tmps hg hi hf)
theorem AAny.drawJ2{fr:Fr}{σ0:St}(n:Nat)(J:Array Bool->St->(Nat->Option FV)->Prop)(hm:E.P.follows .mixedOrders=true)(hB:drawB l n=true)(hfb:Fr.woO (dsts (l.take n)) fr=some frb)(h0:J (Array.replicate l.length false) σ0 (fun _=>none))
  (hstep : ∀ (listed : Array Bool) (σ : St) (vals : Nat -> Option FV) (i : Nat) (o : Oper), i < n -> l[i]? = some o -> listed.getD i false = false -> listed.size = l.length -> (∀ e ∈ o.after.toList, Region.binds .any e = true -> listed.getD e.on false = true) -> J listed σ vals ->
   dstOk E.N o.dst=true/\Q2h E l.toArray o (Q0d l vals o++frb) σ (fun v σ'=>J (listed.setIfInBounds i true) σ' (updV vals i v)) (fun ps σ'=>K (.panic ps) frb σ'))
  (htail : ∀ σ vals, J (Q09 l.length n) σ vals -> AOps E l.toArray (l.drop n) K (Q0f vals 0 (l.take n) ++ frb) σ) : AAny E l K fr σ0 := by
 have h3:=Fr.woO_eq hfb
 intro F w0 C0 w C tmps hg hi hf
 have hn:n < l.length:=by
  simp only[drawB,Bool.and_eq_true,decide_eq_true_eq]at hB
  exact hB.1.1.1.1.1
 have h:=Qic (F:=F) (w0:=w0) (C0:=C0) (J:=J) hB (by rw[←h3];exact Fr.wo_none _ _) hstep htail n (Array.replicate l.toArray.size false) ⟨tmps,E.ds⟩ w.drew (by
   have:∀j,(!(Array.replicate l.toArray.size false).getD j false)=true:=fun j=>by rw[getD_replicate_false];rfl
   simp only[this];rw[List.filter_eq_self.2 (fun _ _=>rfl),List.length_range])
  ⟨by simp,fun j oj _ hl=>(by rw[getD_replicate_false]at hl;cases hl),fun t _ ht=>getD_in (by simpa using ht) (getD_replicate_false _ _)⟩
  ⟨rfl,C,σ0,fun _=>none,by simpa using h0,hg.trans (Goes.drew hi).toO,hi.drew.2,⟨hf.1,fun k x hk=>by
    obtain⟨u,hu,hr⟩:=hf.2 k x (by rw[←h3]at hk;exact (Fr.wo_get hk).1)
    exact⟨u,hu,hr.ext hi.drew.1⟩⟩,fun i o d v _ _ _ hv=>by cases hv⟩
 rw[show n+(l.length - n)=l.toArray.size by simp;omega]at h
 exact h
theorem AAny.drawS2{fr:Fr}{σ0:St}{hd tl:List Oper}(n:Nat)(S:List Nat)(vs:List FV)(M:(Nat->Option FV)->St->Prop)(hm:E.P.follows .mixedOrders=true)(hB:drawB l n=true)(hsp:Q1y n l=some (hd,tl))(hfb:Fr.woO (dsts hd) fr=some frb)(h0:M (fun _=>none) σ0)
  (hM : ∀ f σ, M f σ -> ∀ i, S.any (fun k => Nat.beq k i) = false -> f i = none)
  (hq : ∀ i o, i < n -> S.any (fun k => Nat.beq k i) = false -> l[i]? = some o -> ∃ v, vs[i]? = some v /\ dstOk E.N o.dst = true /\ (o.after.toList.all fun e => !Region.binds .any e || !(S.any fun k => Nat.beq k e.on)) = true /\ ∀ f σ, M f σ -> HStep E l.toArray o (depFr l vs o ++ frb) σ σ v)
  (hs : ∀ f σ i o, M f σ -> S.any (fun k => Nat.beq k i) = true -> l[i]? = some o -> f i = none -> (∀ e ∈ o.after.toList, Region.binds .any e = true -> S.any (fun k => Nat.beq k e.on) = true -> (f e.on).isSome = true) ->
   dstOk E.N o.dst=true/\Q2h E l.toArray o (Q0d l (mixV S vs f) o++frb) σ (fun v σ'=>M (updV f i v) σ') (fun ps σ'=>K (.panic ps) frb σ'))
  (htail:∀f σ,M f σ->(∀i∈S,i < n->(f i).isSome=true)->AOps E l.toArray tl K (Q0f (mixV S vs f) 0 hd++frb) σ):AAny E l K fr σ0:=by
 obtain⟨hsp1,hsp2⟩:=Q1q hsp
 subst hsp1;subst hsp2
 have depEq:∀(o:Oper) (v1 v2:Nat->Option FV),(∀e∈o.after.toList,Region.binds .any e=true->v1 e.on=v2 e.on)->Q0d l v1 o=Q0d l v2 o:=fun o v1 v2 h=>by
  unfold Q0d
  refine Q0p fun e he=>?_
  cases hb:Region.binds .any e with
  |false=>rfl
  |true=>simp only[cond_true];rw[h e he hb]
 refine AAny.drawJ2 n (fun listed σ vals=>listed.size=l.length/\∃f,M f σ/\(∀i,i < n->listed.getD i false=true->vals i=mixV S vs f i)/\(∀i,S.any (fun k=>Nat.beq k i)=true->listed.getD i false=(f i).isSome)) hm hB hfb
  ⟨by simp, _, h0, fun i _ h => absurd h (by rw [getD_replicate_false]; simp), fun i _ => by rw [getD_replicate_false]; rfl⟩ ?_ ?_
 ·intro listed σ vals i o hi hlo hun hsz hall ⟨_,f,hMf,hv,hf⟩
  have hn:n < l.length:=by
   have:=hB
   simp only[drawB,Bool.and_eq_true,decide_eq_true_eq]at this
   exact this.1.1.1.1.1
  have hset:∀(v:FV) j,(listed.setIfInBounds i true).getD j false=if i=j then true else listed.getD j false:=fun _ j=>by
   by_cases e:i=j
   ·subst e;simp[show i < listed.size by omega]
   ·rw[getD_set_ne false e,if_neg e]
  have hlast:∀e∈o.after.toList,Region.binds .any e=true->e.on < n:=fun e he hb=>by
   have hB2:=hB
   simp only[drawB,Bool.and_eq_true,decide_eq_true_eq]at hB2
   have h1:=List.all_eq_true.1 hB2.2 (o,i) (by
    rw[List.mem_zipIdx_iff_getElem?]
    rw[List.getElem?_take_of_lt hi]
    simpa using hlo)
   have h2:=Array.all_eq_true_iff_forall_mem.1 h1 e (by simpa using he)
   simp only[hb,Bool.not_true,Bool.false_or,decide_eq_true_eq]at h2
   omega
  have hdj:Q0d l vals o=Q0d l (mixV S vs f) o:=depEq o _ _ fun e he hb=>hv e.on (hlast e he hb) (hall e he hb)
  rw[hdj]
  cases hS:S.any (fun k=>Nat.beq k i) with
  |true=>
   have hfi:f i=none:=by
    have:=hf i hS
    rw[hun]at this
    cases h:f i with
    |none=>rfl
    |some v=>rw[h]at this;cases this
   obtain⟨k2,k3⟩:=hs f σ i o hMf hS hlo hfi fun e he hb hSe=>by rw[←hf _ hSe];exact hall e he hb
   refine⟨k2,k3.mono fun v σ' k4=>⟨by simp[hsz],updV f i v,k4,fun j hj hlj=>?_,fun j hj=>?_⟩⟩
   ·by_cases e:i=j
    ·subst e
     simp[mixV,hS,updV]
    ·rw[hset v,if_neg e]at hlj
     rw[updV,if_neg e,hv j hj hlj]
     simp only[mixV,updV,if_neg e]
   ·rw[hset v]
    by_cases e:i=j
    ·subst e;simp[updV]
    ·simp only[if_neg e,updV];exact hf j hj
  |false=>
   obtain⟨v,q1,q3,q4,q5⟩:=hq i o hi hS hlo
   have hdd:Q0d l (mixV S vs f) o=depFr l vs o:=by
    unfold Q0d depFr
    refine Q0p fun e he=>?_
    cases hb:Region.binds .any e with
    |false=>rfl
    |true=>
     have h1:=List.all_eq_true.1 q4 e he
     rw[hb]at h1
     simp only[Bool.not_true,Bool.false_or,Bool.not_eq_true']at h1
     simp only[cond_true,mixV,h1,cond_false]
     rfl
   rw[hdd]
   refine⟨q3,.inl (.inl ⟨v,σ,q5 f σ hMf,by simp[hsz],f,hMf,fun j hj hlj=>?_,fun j hj=>?_⟩)⟩
   ·by_cases e:i=j
    ·subst e
     rw[updV,if_pos rfl];simp only[mixV,hS,cond_false];exact q1.symm
    ·rw[hset v,if_neg e]at hlj
     rw[updV,if_neg e,hv j hj hlj]
   ·rw[hset v]
    by_cases e:i=j
    ·subst e;rw[hS]at hj;cases hj
    ·simp only[if_neg e];exact hf j hj
 ·intro σ vals ⟨_,f,hMf,hv,hf⟩
  have hn:n < l.length:=by
   have:=hB
   simp only[drawB,Bool.and_eq_true,decide_eq_true_eq]at this
   exact this.1.1.1.1.1
  have hl:∀j,j < n->(Q09 l.length n).getD j false=true:=fun j hj=>by
   have:j < (Q09 l.length n).size:=by simp[Q09];omega
   simp[Q09,show j < l.length by omega,hj]
  have heq:Q0f vals 0 (l.take n)=Q0f (mixV S vs f) 0 (l.take n):=by
   have:∀(os:List Oper) (k:Nat),k+os.length<=n->Q0f vals k os=Q0f (mixV S vs f) k os:=by
    intro os
    induction os with
    |nil=>intro k _;rfl
    |cons o os ih=>
     intro k hk
     simp only[List.length_cons]at hk
     simp only[Q0f]
     rw[hv k (by omega) (hl k (by omega)),ih (k+1) (by omega)]
   exact this _ 0 (by simp;omega)
  rw[heq]
  exact htail f σ hMf fun i hi hin=>by
   rw[←hf i (List.any_eq_true.2 ⟨i,hi,Q3k i⟩)]
   exact hl i hin
theorem ACode.drawS2{id:Nat}{fr:Fr}{σ0:St}{hd tl:List Oper}(n:Nat)(S:List Nat)(vs:List FV)(M:(Nat->Option FV)->St->Prop)(hm:E.P.follows .mixedOrders=true)(hB:drawB l n=true)(hsp:Q1y n l=some (hd,tl))(hfb:Fr.woO (dsts hd) fr=some frb)(h0:M (fun _=>none) σ0)
  (hM : ∀ f σ, M f σ -> ∀ i, S.any (fun k => Nat.beq k i) = false -> f i = none)
  (hq : ∀ i o, i < n -> S.any (fun k => Nat.beq k i) = false -> l[i]? = some o -> ∃ v, vs[i]? = some v /\ dstOk E.N o.dst = true /\ (o.after.toList.all fun e => !Region.binds .any e || !(S.any fun k => Nat.beq k e.on)) = true /\ ∀ f σ, M f σ -> HStep E l.toArray o (depFr l vs o ++ frb) σ σ v)
  (hs : ∀ f σ i o, M f σ -> S.any (fun k => Nat.beq k i) = true -> l[i]? = some o -> f i = none -> (∀ e ∈ o.after.toList, Region.binds .any e = true -> S.any (fun k => Nat.beq k e.on) = true -> (f e.on).isSome = true) ->
   dstOk E.N o.dst=true/\Q2h E l.toArray o (Q0d l (mixV S vs f) o++frb) σ (fun v σ'=>M (updV f i v) σ') (fun ps σ'=>K (.panic ps) frb σ'))
  (htail:∀f σ,M f σ->(∀i∈S,i < n->(f i).isSome=true)->AOps E l.toArray tl K (Q0f (mixV S vs f) 0 hd++frb) σ):ACode E (.region id l.toArray true) K fr σ0:=AAny.code hm (AAny.drawS2 n S vs M hm hB hsp hfb h0 hM hq hs htail)
end
def Q0g (E:Env)(ops:Array Oper)(l:List Oper)(frb:Fr)(σ:St)(cs:List (Nat×FV)):Nat->List Oper->List FV->Option (List FV)
 |_,[],_=>some []
 |k,o::os,acc=>bif dstOk E.N o.dst then
   (match lookC k cs with
   |some v=>Q2u (acc++[v]) fun acc'=>(match Q0g E ops l frb σ cs (k+1) os acc' with|some vs=>some (v::vs)|none=>none)
   |none=>bif Q5y o.op then Q2u (depFr l acc o++frb) fun fr=>(match aHead E ops o fr σ with
    |some (v,_)=>Q2u (acc++[v]) fun acc'=>(match Q0g E ops l frb σ cs (k+1) os acc' with|some vs=>some (v::vs)|none=>none)
    |none=>none)else none)else none
theorem Q2y{E:Env}{l:List Oper}{frb:Fr}{σ:St}{cs:List (Nat×FV)}{n:Nat}{vs:List FV}(hT:TabOk E.P E.T)(hall:∀k o,l[k]?=some o->k < n->o.after.all (fun e=>!Region.binds .any e||decide (e.on < k))=true):
  ∀(os:List Oper) (k:Nat) (acc ws:List FV),acc.length=k->(∀i o,os[i]?=some o->l[k+i]?=some o/\k+i < n)->Q0g E l.toArray l frb σ cs k os acc=some ws->acc++ws=vs->
  ∀i o,os[i]?=some o->∃v,ws[i]?=some v/\dstOk E.N o.dst=true/\(lookC (k+i) cs=some v∨(lookC (k+i) cs=none/\HStep E l.toArray o (depFr l vs o++frb) σ σ v))
 |[],k,acc,ws,_,_,_,_,i,o,hi=>by simp at hi
 |o::os,k,acc,ws,hl,hos,h,hv,i,o',hi=>by
  have ho:=hos 0 o rfl
  simp only[Nat.add_zero]at ho
  simp only[Q0g,Q0x]at h
  cases hb:dstOk E.N o.dst with
  |false=>rw[hb]at h;cases h
  |true=>
   rw[hb]at h
   simp only[cond_true]at h
   have rest:∀{v:FV},(match Q0g E l.toArray l frb σ cs (k+1) os (acc++[v]) with|some vs=>some (v::vs)|none=>none)=some ws->(lookC k cs=some v∨(lookC k cs=none/\HStep E l.toArray o (depFr l vs o++frb) σ σ v))->
     ∃v,ws[i]?=some v/\dstOk E.N o'.dst=true/\(lookC (k+i) cs=some v∨(lookC (k+i) cs=none/\HStep E l.toArray o' (depFr l vs o'++frb) σ σ v)):=by
    intro v h hfirst
    split at h
    ·rename_i ws' hw
     simp only[Option.some.injEq]at h;subst h
     cases i with
     |zero=>
      simp at hi;subst hi
      exact⟨v,rfl,hb,hfirst⟩
     |succ i=>
      have:=Q2y hT hall os (k+1) (acc++[v]) ws' (by simp[hl]) (fun i o hi=>by have:=hos (i+1) o hi;rw[show k+1+i=k+(i+1) by omega];exact this) hw (by simpa using hv) i o' (by simpa using hi)
      rw[show k+1+i=k+(i+1) by omega]at this
      simpa using this
    ·cases h
   cases hc:lookC k cs with
   |some v=>
    rw[hc]at h
    exact rest h (.inl hc)
   |none=>
    rw[hc]at h
    simp only at h
    cases hp:Q5y o.op with
    |false=>rw[hp]at h;cases h
    |true=>
     rw[hp]at h
     simp only[cond_true]at h
     split at h
     ·rename_i v σ' ha
      have hdep:depFr l vs o=depFr l acc o:=by
       have:∃r,vs=acc++r:=⟨ws,hv.symm⟩
       obtain⟨r,rfl⟩:=this
       exact Q35 (by rw[hl];exact hall k o ho.1 ho.2)
      have hσ:σ'=σ:=by
       have key:∀{y:FV}{τ:St},(match aOp E.T E.Γ o.op (depFr l acc o++frb) σ with|some (some x,σ')=>some (x,σ')|_=>none)=some (y,τ)->τ=σ:=by
        intro y τ h
        split at h
        ·rename_i h1
         simp only[Option.some.injEq,Prod.mk.injEq]at h
         obtain⟨rfl,rfl⟩:=h
         exact Q6d hp h1
        ·cases h
       unfold aHead at ha
       split at ha
       ·exact key ha
       ·split at ha
        ·split at ha
         ·exact key ha
         ·exact key ha
         ·cases ha;rfl
         ·cases ha;rfl
         ·cases ha;rfl
         ·cases ha
        ·cases ha
      subst hσ
      have hs:=HStep.auto (ops:=l.toArray) hT ha
      rw[←hdep]at hs
      exact rest h (.inr ⟨hc,hs⟩)
     ·cases h
section
variable {E:Env}{l:List Oper}{frb:Fr}{K:Cont}
theorem AAny.drawC2{fr:Fr}{σ0:St}{hd tl:List Oper}{vs0:List FV}(hT:TabOk E.P E.T)(n:Nat)(S:List Nat)(cs:List (Nat×FV))(G:List FV->St->Prop)(hm:E.P.follows .mixedOrders=true)(hB:drawB l n=true)(hsp:Q1y n l=some (hd,tl))(hfb:Fr.woO (dsts hd) fr=some frb)
  (hn:S.Nodup) (hch:chainB l S=true) (hqb:Q50 l S n=true) (h0:G [] σ0) (hrun0:Q0g E l.toArray l frb σ0 (S.map (fun i=>(i,FV.bot))++cs) 0 hd []=some vs0)
  (hrun : ∀ vs σ, G vs σ -> Q0g E l.toArray l frb σ (S.map (fun i => (i, FV.bot)) ++ cs) 0 hd [] = some vs0) (hcs : ∀ vs σ, G vs σ -> Q0a E l frb σ vs0 cs) (hSl : ∀ i ∈ S, i < n)
  (hs : ∀ vs σ, G vs σ -> ∀ i o, S[vs.length]? = some i -> l[i]? = some o -> dstOk E.N o.dst = true /\ Q2h E l.toArray o (Q0d l (mixV S vs0 (fC S vs)) o ++ frb) σ (fun v σ' => G (vs ++ [v]) σ') (fun ps σ' => K (.panic ps) frb σ'))
  (htail : ∀ vs σ, vs.length = S.length -> G vs σ -> AOps E l.toArray tl K (Q0f (mixV S vs0 (fC S vs)) 0 hd ++ frb) σ) : AAny E l K fr σ0 := by
 have hnl:n < l.length:=by
  have:=hB
  simp only[drawB,Bool.and_eq_true,decide_eq_true_eq]at this
  exact this.1.1.1.1.1
 have hlast:∀k o,l[k]?=some o->k < n->o.after.all (fun e=>!Region.binds .any e||decide (e.on < k))=true:=fun k o hk hkn=>by
  have hB2:=hB
  simp only[drawB,Bool.and_eq_true,decide_eq_true_eq]at hB2
  exact List.all_eq_true.1 hB2.2 (o,k) (by
   rw[List.mem_zipIdx_iff_getElem?,List.getElem?_take_of_lt hkn]
   simpa using hk)
 obtain⟨hsp1,hsp2⟩:=Q1q hsp
 refine AAny.drawS2 n S vs0 (fun f σ=>∃vs,vs.length<=S.length/\f=fC S vs/\G vs σ) hm hB hsp hfb ⟨[],by simp,by funext i;cases S <;> rfl,h0⟩ (fun f σ ⟨vs,_,hf,_⟩ i hi=>by rw[hf];exact Q9a hi) ?_ ?_ ?_
 ·intro i o hi hS hlo
  have hio:hd[i]?=some o:=by rw[←hsp1,List.getElem?_take_of_lt hi];exact hlo
  have key:∀vs σ,G vs σ->∃v,vs0[i]?=some v/\dstOk E.N o.dst=true/\HStep E l.toArray o (depFr l vs0 o++frb) σ σ v:=fun vs σ hG=>by
   obtain⟨v,h1,h3,h4⟩:=Q2y (vs:=vs0) hT hlast hd 0 [] vs0 rfl (fun i o hi=>by
    have hi2:i < n:=by
     have:=(List.getElem?_eq_some_iff.1 hi).1
     rw[←hsp1]at this;simp at this;omega
    rw[←hsp1,List.getElem?_take_of_lt hi2]at hi
    exact⟨by simpa using hi,by omega⟩) (hrun vs σ hG) (List.nil_append _) i o hio
   rw [Nat.zero_add] at h4
   refine⟨v,h1,h3,?_⟩
   rcases h4 with h4|h4
   ·have hl:lookC i cs=some v:=by
     have:∀{S:List Nat},(S.any fun k=>Nat.beq k i)=false->lookC i (S.map (fun i=>(i,FV.bot))++cs)=lookC i cs:=fun {S} hS=>by
      induction S with
      |nil=>rfl
      |cons s S ih=>
       simp only[List.any_cons,Bool.or_eq_false_iff]at hS
       simp only[List.map_cons,List.cons_append,lookC,hS.1,cond_false]
       exact ih hS.2
     rw[this hS]at h4;exact h4
    obtain⟨o',ho',hst⟩:=(hcs vs σ hG).get hl
    rw[hlo]at ho'
    cases ho'
    exact hst
   ·exact h4.2
  have hq:(o.after.toList.all fun e=>!Region.binds .any e||!(S.any fun k=>Nat.beq k e.on))=true:=by
   have h1:=List.all_eq_true.1 hqb (o,i) (by
    rw[List.mem_zipIdx_iff_getElem?,List.getElem?_take_of_lt hi]
    simpa using hlo)
   have h2:inS S i=false:=hS
   simp only[h2,Bool.false_or]at h1
   exact h1
  obtain⟨v,h1,h3,_⟩:=key [] σ0 h0
  refine⟨v,h1,h3,hq,fun f σ ⟨vs,_,_,hG⟩=>?_⟩
  obtain⟨v',h1',_,h4⟩:=key vs σ hG
  rw[h1]at h1'
  cases h1'
  exact h4
 ·rintro f σ i o ⟨vs,hlen,rfl,hG⟩ hS hlo hfi hdep
  obtain⟨s,hsS,he⟩:=List.any_eq_true.1 hS
  obtain rfl:s=i:=Nat.eq_of_beq_eq_true he
  obtain⟨p,hp⟩:=List.mem_iff_getElem?.1 hsS
  have hpS:=(List.getElem?_eq_some_iff.1 hp).1
  have hpv:p=vs.length:=by
   rcases Nat.lt_trichotomy p vs.length with h1|h1|h1
   ·rw[Q74 hn hp h1]at hfi
    have:=(List.getElem?_eq_none_iff.1 hfi);omega
   ·exact h1
   ·exfalso
    obtain⟨q,rfl⟩:∃q,p=q+1:=⟨p - 1,by omega⟩
    obtain⟨i0,hi0⟩:∃i0,S[q]?=some i0:=⟨S[q],List.getElem?_eq_getElem (by omega)⟩
    obtain⟨e,he,hb,heo⟩:=Q78 hch hi0 hp hlo
    have h2:=hdep e he hb (by rw[heo];exact List.any_eq_true.2 ⟨i0,List.mem_of_getElem? hi0,by simp⟩)
    rw[heo,Q84 hn hi0 (by omega)]at h2
    cases h2
  subst hpv
  obtain⟨k2,k3⟩:=hs vs σ hG s o hp hlo
  exact⟨k2,k3.mono fun v σ' hG'=>⟨vs++[v],by simp;omega,fC_upd hn hp,hG'⟩⟩
 ·rintro f σ ⟨vs,hlen,rfl,hG⟩ hall
  refine htail vs σ ?_ hG
  rcases Nat.lt_or_ge vs.length S.length with h1|h1
  ·exfalso
   obtain⟨i0,hi0⟩:∃i0,S[vs.length]?=some i0:=⟨S[vs.length],List.getElem?_eq_getElem h1⟩
   have hm:=List.mem_of_getElem? hi0
   have:=hall i0 hm (hSl i0 hm)
   rw[Q84 hn hi0 (Nat.le_refl _)]at this
   cases this
  ·omega
theorem ACode.drawC2{id:Nat}{fr:Fr}{σ0:St}{hd tl:List Oper}{vs0:List FV}(hT:TabOk E.P E.T)(n:Nat)(S:List Nat)(cs:List (Nat×FV))(G:List FV->St->Prop)(hm:E.P.follows .mixedOrders=true)(hB:drawB l n=true)(hsp:Q1y n l=some (hd,tl))(hfb:Fr.woO (dsts hd) fr=some frb)
  (hn:S.Nodup) (hch:chainB l S=true) (hqb:Q50 l S n=true) (h0:G [] σ0) (hrun0:Q0g E l.toArray l frb σ0 (S.map (fun i=>(i,FV.bot))++cs) 0 hd []=some vs0)
  (hrun:∀vs σ,G vs σ->Q0g E l.toArray l frb σ (S.map (fun i=>(i,FV.bot))++cs) 0 hd []=some vs0) (hcs:∀vs σ,G vs σ->Q0a E l frb σ vs0 cs) (hSl:∀i∈S,i < n)
  (hs:∀vs σ,G vs σ->∀i o,S[vs.length]?=some i->l[i]?=some o->dstOk E.N o.dst=true/\Q2h E l.toArray o (Q0d l (mixV S vs0 (fC S vs)) o++frb) σ (fun v σ'=>G (vs++[v]) σ') (fun ps σ'=>K (.panic ps) frb σ'))
  (htail:∀vs σ,vs.length=S.length->G vs σ->AOps E l.toArray tl K (Q0f (mixV S vs0 (fC S vs)) 0 hd++frb) σ):ACode E (.region id l.toArray true) K fr σ0:=AAny.code hm (AAny.drawC2 hT n S cs G hm hB hsp hfb hn hch hqb h0 hrun0 hrun hcs hSl hs htail)
def waitsB (l:List Oper)(S D:List Nat):Bool:=D.all fun i=>match l[i]? with|some o=>o.after.any (fun e=>Region.binds .any e&&inS S e.on)|none=>true
theorem ACode.drawPan{id:Nat}{fr:Fr}{σ0:St}{hd tl:List Oper}{vs0:List FV}{op:Oper}(hT:TabOk E.P E.T)(n p:Nat)(D:List Nat)(cs:List (Nat×FV))(hm:E.P.follows .mixedOrders=true)(hB:drawB l n=true)(hsp:Q1y n l=some (hd,tl))(hfb:Fr.woO (dsts hd) fr=some frb)
  (hw : waitsB l (p :: D) D = true) (hqb : Q50 l (p :: D) n = true) (hrun : Q0g E l.toArray l frb σ0 ((p :: D).map (fun i => (i, FV.bot)) ++ cs) 0 hd [] = some vs0) (hcs : Q0a E l frb σ0 vs0 cs) (hop : l[p]? = some op) (hpn : Nat.blt p n = true) (hd0 : dstOk E.N op.dst = true) (hDd : (D.all fun i => match l[i]? with | some o => dstOk E.N o.dst | none => true) = true) (hg : op.guard = none)
  (hp : Q0u E op (Q0d l (mixV (p :: D) vs0 (fun _ => none)) op ++ frb) σ0 (fun _ _ => False) (fun ps σ' => K (.panic ps) frb σ')) : ACode E (.region id l.toArray true) K fr σ0 := by
 have hnl:n < l.length:=by
  have:=hB
  simp only[drawB,Bool.and_eq_true,decide_eq_true_eq]at this
  exact this.1.1.1.1.1
 have hlast:∀k o,l[k]?=some o->k < n->o.after.all (fun e=>!Region.binds .any e||decide (e.on < k))=true:=fun k o hk hkn=>by
  have hB2:=hB
  simp only[drawB,Bool.and_eq_true,decide_eq_true_eq]at hB2
  exact List.all_eq_true.1 hB2.2 (o,k) (by
   rw[List.mem_zipIdx_iff_getElem?,List.getElem?_take_of_lt hkn]
   simpa using hk)
 obtain⟨hsp1,hsp2⟩:=Q1q hsp
 refine ACode.drawS2 n (p::D) vs0 (fun f σ=>f=(fun _=>none)/\σ=σ0) hm hB hsp hfb ⟨rfl,rfl⟩ (fun f σ ⟨hf,_⟩ i hi=>by rw[hf]) ?_ ?_ ?_
 ·intro i o hi hS hlo
  have hio:hd[i]?=some o:=by rw[←hsp1,List.getElem?_take_of_lt hi];exact hlo
  obtain⟨v,h1,h3,h4⟩:=Q2y (vs:=vs0) hT hlast hd 0 [] vs0 rfl (fun i o hi=>by
    have hi2:i < n:=by
     have:=(List.getElem?_eq_some_iff.1 hi).1
     rw[←hsp1]at this;simp at this;omega
    rw[←hsp1,List.getElem?_take_of_lt hi2]at hi
    exact⟨by simpa using hi,by omega⟩) hrun (List.nil_append _) i o hio
  rw [Nat.zero_add] at h4
  have hst:HStep E l.toArray o (depFr l vs0 o++frb) σ0 σ0 v:=by
   rcases h4 with h4|h4
   ·have hl:lookC i cs=some v:=by
     have:∀{S:List Nat},(S.any fun k=>Nat.beq k i)=false->lookC i (S.map (fun i=>(i,FV.bot))++cs)=lookC i cs:=fun {S} hS=>by
      induction S with
      |nil=>rfl
      |cons s S ih=>
       simp only[List.any_cons,Bool.or_eq_false_iff]at hS
       simp only[List.map_cons,List.cons_append,lookC,hS.1,cond_false]
       exact ih hS.2
     rw[this hS]at h4;exact h4
    obtain⟨o',ho',hst⟩:=hcs.get hl
    rw[hlo]at ho'
    cases ho'
    exact hst
   ·exact h4.2
  have hq:(o.after.toList.all fun e=>!Region.binds .any e||!((p::D).any fun k=>Nat.beq k e.on))=true:=by
   have h1:=List.all_eq_true.1 hqb (o,i) (by
    rw[List.mem_zipIdx_iff_getElem?,List.getElem?_take_of_lt hi]
    simpa using hlo)
   have h2:inS (p::D) i=false:=hS
   simp only[h2,Bool.false_or]at h1
   exact h1
  exact⟨v,h1,h3,hq,fun f σ ⟨_,hσ⟩=>by rw[hσ];exact hst⟩
 ·rintro f σ i o ⟨rfl,rfl⟩ hS hlo hfi hdep
  by_cases hip:p=i
  ·subst hip
   rw[hop]at hlo
   cases hlo
   refine⟨hd0,.inr ⟨hg,fun F w C tmps hi hf next Q hk hpk=>hp F w C tmps hi hf next Q (fun u w' C' v σ' hP=>hP.elim) hpk⟩⟩
  ·have hD:i∈D:=by
    obtain⟨s,hsS,he⟩:=List.any_eq_true.1 hS
    obtain rfl:s=i:=Nat.eq_of_beq_eq_true he
    rcases List.mem_cons.1 hsS with h|h
    ·exact absurd h.symm hip
    ·exact h
   exfalso
   have h1:=List.all_eq_true.1 hw i hD
   rw[hlo]at h1
   obtain⟨e,he,hb⟩:=Array.any_eq_true'.1 h1
   simp only[Bool.and_eq_true]at hb
   have:=hdep e (by simpa using he) hb.1 hb.2
   simp at this
 ·rintro f σ ⟨rfl,rfl⟩ hall
  have:=hall p (by simp) (Nat.le_of_ble_eq_true (show Nat.ble (p+1) n=true from hpn))
  simp at this
end
end Go.Abs
