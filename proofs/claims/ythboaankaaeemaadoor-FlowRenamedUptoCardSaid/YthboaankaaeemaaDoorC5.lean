/- The abstract layer, part Al: a drawn head with calls of which not all is known; own arrays from nothing; an object of which less is said. No condition. -/
import Derived.Test.YthboaankaaeemaaDoorC4
import Derived.Shelf.GgSortFunc.InsertionK
import Derived.Lib.Overlaps
import Derived.Lib.AppendZerosOnto
import Derived.Laws.Build
import Derived.Recover
import Derived.RangeFuncWrites
import Derived.OrdersIn
import Derived.Orders
import Derived.OwnWalkIn
import Derived.TacticsIn
import Derived.ControlIn
import Derived.RangeFuncKeeps
import Derived.RangeFuncLeaves
import Derived.RangeFuncOwn
import Derived.Laws.Bits64b
set_option maxRecDepth 10000
set_option linter.unusedVariables false
set_option linter.unusedSimpArgs false
namespace Go.Abs
theorem Q64.mono{E:Env}{ops:Array Oper}{o:Oper}{fr:Fr}{σ:St}{P Q:FV->St->Prop}(h:Q64 E ops o fr σ P)(hq:∀v σ',P v σ'->Q v σ'):Q64 E ops o fr σ Q:=by
 rcases h with ⟨v,σ',h1,h2⟩|⟨h1,h2⟩
 ·exact .inl ⟨v,σ',h1,hq _ _ h2⟩
 ·exact .inr ⟨h1,fun F w C tmps hi hf next Q' hk=>h2 F w C tmps hi hf next Q' fun u w' C' v σ' hp=>hk u w' C' v σ' (hq _ _ hp)⟩
section
variable {E:Env}{l:List Oper}{frb:Fr}{n:Nat}{K:Cont}{J:Array Bool->St->(Nat->Option FV)->Prop}
theorem ACode.drawSR{id:Nat}{fr:Fr}{σ0:St}{hd tl:List Oper}(n:Nat)(S:List Nat)(vs:List FV)(M:(Nat->Option FV)->St->Prop)(hm:E.P.follows .mixedOrders=true)(hB:drawB l n=true)(hsp:Q35 n l=some (hd,tl))(hfb:Fr.woO (dsts hd) fr=some frb)(h0:M (fun _=>none) σ0)
  (hM : ∀ f σ, M f σ -> ∀ i, S.any (fun k => Nat.beq k i) = false -> f i = none)
  (hq : ∀ i o, i < n -> S.any (fun k => Nat.beq k i) = false -> l[i]? = some o -> ∃ v, vs[i]? = some v /\ o.dst.isSome = true /\ dstOk E.N o.dst = true /\ (o.after.toList.all fun e => !Region.binds .any e || !(S.any fun k => Nat.beq k e.on)) = true /\ ∀ f σ, M f σ -> HStep E l.toArray o (depFr l vs o ++ frb) σ σ v)
  (hs : ∀ f σ i o, M f σ -> S.any (fun k => Nat.beq k i) = true -> l[i]? = some o -> f i = none -> (∀ e ∈ o.after.toList, Region.binds .any e = true -> S.any (fun k => Nat.beq k e.on) = true -> (f e.on).isSome = true) ->
   o.dst.isSome=true/\dstOk E.N o.dst=true/\Q64 E l.toArray o (Q0m l (mixV S vs f) o++frb) σ (fun v σ'=>M (updV f i v) σ'))
  (htail:∀f σ,M f σ->(∀i∈S,i < n->(f i).isSome=true)->AOps E l.toArray tl K (Q0e (mixV S vs f) 0 hd++frb) σ):ACode E (.region id l.toArray true) K fr σ0:=by
 obtain⟨hsp1,hsp2⟩:=Q21 hsp
 subst hsp1;subst hsp2
 have depEq:∀(o:Oper) (v1 v2:Nat->Option FV),(∀e∈o.after.toList,Region.binds .any e=true->v1 e.on=v2 e.on)->Q0m l v1 o=Q0m l v2 o:=fun o v1 v2 h=>by
  unfold Q0m
  refine Q0t fun e he=>?_
  cases hb:Region.binds .any e with
  |false=>rfl
  |true=>simp only[cond_true];rw[h e he hb]
 refine ACode.drawJR n (fun listed σ vals=>listed.size=l.length/\∃f,M f σ/\(∀i,i < n->listed.getD i false=true->vals i=mixV S vs f i)/\(∀i,S.any (fun k=>Nat.beq k i)=true->listed.getD i false=(f i).isSome)) hm hB hfb
  ⟨by simp, _, h0, fun i _ h => absurd h (by rw [getD_replicate_false]; simp), fun i _ => by rw [getD_replicate_false]; rfl⟩ ?_ ?_
 ·intro listed σ vals i o hi hlo hun hsz hall ⟨_,f,hMf,hv,hf⟩
  have hn:n < l.length:=by
   have:=hB
   simp only[drawB,Bool.and_eq_true,decide_eq_true_eq]at this
   exact this.1.1.1.1.1
  have hset:∀(v:FV) j,(listed.setIfInBounds i true).getD j false=if i=j then true else listed.getD j false:=fun _ j=>by
   by_cases e:i=j
   ·subst e;simp[show i < listed.size by omega]
   ·rw[getD_set_ne false e,if_neg e]
  have hlast:∀e∈o.after.toList,Region.binds .any e=true->e.on < n:=fun e he hb=>by
   have hB2:=hB
   simp only[drawB,Bool.and_eq_true,decide_eq_true_eq]at hB2
   have h1:=List.all_eq_true.1 hB2.2 (o,i) (by
    rw[List.mem_zipIdx_iff_getElem?]
    rw[List.getElem?_take_of_lt hi]
    simpa using hlo)
   have h2:=Array.all_eq_true_iff_forall_mem.1 h1 e (by simpa using he)
   simp only[hb,Bool.not_true,Bool.false_or,decide_eq_true_eq]at h2
   omega
  have hdj:Q0m l vals o=Q0m l (mixV S vs f) o:=depEq o _ _ fun e he hb=>hv e.on (hlast e he hb) (hall e he hb)
  rw[hdj]
  cases hS:S.any (fun k=>Nat.beq k i) with
  |true=>
   have hfi:f i=none:=by
    have:=hf i hS
    rw[hun]at this
    cases h:f i with
    |none=>rfl
    |some v=>rw[h]at this;cases this
   obtain⟨k1,k2,k3⟩:=hs f σ i o hMf hS hlo hfi fun e he hb hSe=>by rw[←hf _ hSe];exact hall e he hb
   refine⟨k1,k2,k3.mono fun v σ' k4=>⟨by simp[hsz],updV f i v,k4,fun j hj hlj=>?_,fun j hj=>?_⟩⟩
   ·by_cases e:i=j
    ·subst e
     simp[mixV,hS,updV]
    ·rw[hset v,if_neg e]at hlj
     rw[updV,if_neg e,hv j hj hlj]
     simp only[mixV,updV,if_neg e]
   ·rw[hset v]
    by_cases e:i=j
    ·subst e;simp[updV]
    ·simp only[if_neg e,updV];exact hf j hj
  |false=>
   obtain⟨v,q1,q2,q3,q4,q5⟩:=hq i o hi hS hlo
   have hdd:Q0m l (mixV S vs f) o=depFr l vs o:=by
    unfold Q0m depFr
    refine Q0t fun e he=>?_
    cases hb:Region.binds .any e with
    |false=>rfl
    |true=>
     have h1:=List.all_eq_true.1 q4 e he
     rw[hb]at h1
     simp only[Bool.not_true,Bool.false_or,Bool.not_eq_true']at h1
     simp only[cond_true,mixV,h1,cond_false]
     rfl
   rw[hdd]
   refine⟨q2,q3,.inl ⟨v,σ,q5 f σ hMf,by simp[hsz],f,hMf,fun j hj hlj=>?_,fun j hj=>?_⟩⟩
   ·by_cases e:i=j
    ·subst e
     rw[updV,if_pos rfl];simp only[mixV,hS,cond_false];exact q1.symm
    ·rw[hset v,if_neg e]at hlj
     rw[updV,if_neg e,hv j hj hlj]
   ·rw[hset v]
    by_cases e:i=j
    ·subst e;rw[hS]at hj;cases hj
    ·simp only[if_neg e];exact hf j hj
 ·intro σ vals ⟨_,f,hMf,hv,hf⟩
  have hn:n < l.length:=by
   have:=hB
   simp only[drawB,Bool.and_eq_true,decide_eq_true_eq]at this
   exact this.1.1.1.1.1
  have hl:∀j,j < n->(Q07 l.length n).getD j false=true:=fun j hj=>by
   have:j < (Q07 l.length n).size:=by simp[Q07];omega
   simp[Q07,show j < l.length by omega,hj]
  have heq:Q0e vals 0 (l.take n)=Q0e (mixV S vs f) 0 (l.take n):=by
   have:∀(os:List Oper) (k:Nat),k+os.length<=n->Q0e vals k os=Q0e (mixV S vs f) k os:=by
    intro os
    induction os with
    |nil=>intro k _;rfl
    |cons o os ih=>
     intro k hk
     simp only[List.length_cons]at hk
     simp only[Q0e]
     rw[hv k (by omega) (hl k (by omega)),ih (k+1) (by omega)]
   exact this _ 0 (by simp;omega)
  rw[heq]
  exact htail f σ hMf fun i hi hin=>by
   rw[←hf i (List.any_eq_true.2 ⟨i,hi,Q3h i⟩)]
   exact hl i hin

end
theorem AOps.wkObj{E:Env}{ops:Array Oper}{l:List Oper}{K:Cont}{fr:Fr}{σ:St}(i:Id){cs cs':List AC}(hg:σ.get i=some (.cells cs))(hw:∀(w:World)(C:Ctx)(xs:List Value),RV w C cs xs->RV w C cs' xs)(h:AOps E ops l K fr (σ.set i (.cells cs'))):AOps E ops l K fr σ:=by
 intro F w0 C0 w C tmps hgo hi hf
 obtain⟨hok,xs,T,o1,o2,o3,o4⟩:=hi.obj i _ hg
 obtain⟨he,hi'⟩:=hi.turn hg (g:=C.blk i) rfl (w':=w) rfl (fun _ _=>rfl) (fun _ _ _=>rfl) (o':=.cells cs') rfl fun _=>⟨xs,T,o1,o2,hw w C xs o3,o4⟩
 exact h F w0 C0 w C tmps hgo hi' hf
theorem AStep.buildOwn0{E:Env}{o:Oper}{fr:Fr}{σ:St}{t:TypeId}{ti tj:TI}{s:Nat}(hT:TabOk E.P E.T)(ho:o.op=.buildSlice t 0 #[])(ht:Tab.get t E.T=some ti)(hk:Nat.beq ti.kind 2=true)(hj:Tab.get ti.elem E.T=some tj)(hs:tj.size=s):
  AStep E o fr σ (.one (.arr (.l σ.n) s 0 0 0)) (σ.push (.cells (vec s [] 0))):=by
 intro F w C tmps hi hf next Q hk2
 have hsl:=(hT t ti ht).slice (Nat.eq_of_beq_eq_true hk)
 have hsz:=(hT _ _ hj).run_sizeOf w
 have hrun:(execOp (Act.eval ⟨tmps,E.ds⟩) o).run E.P w=.ok (.value (.slice (some ⟨w.heap.size,0,none⟩) 0 0)) (w.alloc (.cells #[] ti.elem)):=by
  unfold execOp
  simp only[ho]
  simp[Instr.buildSlice,run_underlying hsl,hsz,Instr.fill,newRow,Array.range_zero']
 obtain⟨C',he,hno,hnp,hin,hok,hblk⟩:=hi.newObj (cs:=vec s [] 0) (xs:=[]) (by simp[vec,RV]) ti.elem
 unfold Oper.wp
 rw[hrun,Oper.upon_value]
 exact hk2 _ _ C' ⟨Stp.alloc hi.base _ _,he,Nat.le_of_eq hno.symm,hnp⟩ hin (by simp only[RF,R];exact⟨hok,by rw[hblk,Nat.zero_mul],Nat.le_refl _⟩)
theorem AStep.appNone{E:Env}{o:Oper}{fr:Fr}{σ:St}{t:TypeId}{ti tj:TI}{x y:Operand}{i:Id}{s n cap:Nat}(hT:TabOk E.P E.T)(ho:o.op=.call { callee:=.builtin .append,args:=#[x,y],argTypes:=#[t,t] })(ht:Tab.get t E.T=some ti)(hk:Nat.beq ti.kind 2=true)(hj:Tab.get ti.elem E.T=some tj)
  (hx:aEval E.Γ fr x=some (.one (.arr i s 0 n cap))) (hy:aEval E.Γ fr y=some (.one (.sl s []))):AStep E o fr σ (.one (.arr i s 0 n cap)) σ:=by
 refine AStep.quiet fun F w C tmps hi hf=>?_
 have h1:=Q01 (a:=⟨tmps,E.ds⟩) hi hf hx
 have h2:=Q01 (a:=⟨tmps,E.ds⟩) hi hf hy
 simp only[RF,R,Nat.zero_mul]at h1 h2
 obtain⟨hok,hv,hc⟩:=h1
 obtain⟨a,c,hv2,_,_⟩:=h2
 have hu:=(hT t ti ht).slice (Nat.eq_of_beq_eq_true hk)
 obtain⟨i0,dd,z,g1,g2,g3,g4,g5,g6,g7,g8⟩:=(hT _ _ hj).ex
 refine⟨.slice (some ⟨C.blk i,0,none⟩) n cap,?_,by simp only[RF,R,Nat.zero_mul];exact⟨hok,trivial,hc⟩⟩
 unfold execOp
 simp only[ho,resolve,invoke,builtin,Sem.run_bind,Sem.run_pure,Result.andThen_ok,List.map_toArray,List.map_cons,List.map_nil,hv,hv2]
 cases a with
 |none=>simp[Builtin.append_,run_underlying hu,sizeOf,typeInfo,g1,Builtin.lenOf,Builtin.firstCells,hc,storeCells]
 |some a=>simp[Builtin.append_,run_underlying hu,sizeOf,typeInfo,g1,Builtin.lenOf,Builtin.firstCells,hc,storeCells,loadCells,loadCellsFrom]
theorem AOps.dropO{E:Env}{ops:Array Oper}{rest:List Oper}{K:Cont}{fr:Fr}{n:Nat}{lo:List (Nat×AObj)}{ou ou':Outer}(hs:∀k o,ou k=some o->ou' k=some o)(h:AOps E ops rest K fr ⟨n,lo,ou⟩):AOps E ops rest K fr ⟨n,lo,ou'⟩:=by
 refine AOps.lessO ⟨n,lo,ou⟩ rfl (fun i o hi=>?_) h
 cases i with
 |l k=>exact hi
 |o k=>exact hs k o hi
end Go.Abs
namespace Go.Abs
def bI (v:BitVec 64):Int:=IntKind.i64.wrap v.toNat
def orI (a b:Int):Int:=bI (BitVec.ofInt 64 a ||| BitVec.ofInt 64 b)
def anI (a b:Int):Int:=bI (BitVec.ofInt 64 a &&& ~~~BitVec.ofInt 64 b)
def subI (a b:Int):Prop:=BitVec.ofInt 64 a &&& ~~~BitVec.ofInt 64 b=0#64
theorem subI.an{a b:Int}(h:subI a b):anI a b=0:=by
 unfold anI;rw[h];decide
theorem bv_sub{a b:BitVec 64}:a &&& ~~~b=0#64↔a ||| b=b:=by
 constructor
 ·intro h
  ext i hi
  have:=congrArg (fun v:BitVec 64=>v.getLsbD i) h
  simp[hi]at this ⊢
  simp only[←BitVec.getLsbD_eq_getElem]at *
  cases ha:a.getLsbD i <;> simp_all
 ·intro h
  ext i hi
  have:=congrArg (fun v:BitVec 64=>v.getLsbD i) h
  simp[hi]at this ⊢
  simp only[←BitVec.getLsbD_eq_getElem]at *
  cases ha:a.getLsbD i <;> simp_all
theorem subI.trans{a b c:Int}(h:subI a b)(k:subI b c):subI a c:=by
 unfold subI at *
 rw[bv_sub]at *
 rw[←k,←BitVec.or_assoc,h]
section
variable {E:Env}{o:Oper}{fr:Fr}{σ:St}
end
end Go.Abs
namespace Go.Abs
open Go.Sort Go.Proofs
set_option linter.unusedSectionVars false
section
variable {α:Type} [Inhabited α]
theorem RV.lits{w:World}{C:Ctx}:∀{vs:List Value}{cs:List AC}{xs:List Value},RV w C (vs.map .lit++cs) xs->xs=vs++xs.drop vs.length/\RV w C cs (xs.drop vs.length)
 |[],cs,xs,h=>⟨by simp,by simpa using h⟩
 |v::vs,cs,xs,h=>by
  simp only[List.map_cons,List.cons_append,RV]at h
  obtain⟨u,ys,rfl,h1,h2⟩:=h
  simp only[R]at h1
  obtain⟨h3,h4⟩:=RV.lits h2
  refine⟨?_,by simpa using h4⟩
  simp only[List.length_cons,List.drop_succ_cons,List.cons_append]
  rw[←h3,h1.1]
end
end Go.Abs
namespace Go.Abs
def oaC (k s:Nat)(es:List (List AC)):Option Nat->AC
 |none=>.lit (.slice none 0 0)
 |some cap=>.arr (.l k) s 0 es.length cap
def oaO (s:Nat)(es:List (List AC)):Option Nat->AObj
 |none=>.dead
 |some cap=>.cells (vec s es cap)
section
variable {E:Env}{ops:Array Oper}{l rest:List Oper}{K:Cont}{fr:Fr}{σ:St}
end
theorem Q72{Q Q':Exit->Act->World->Prop}(hq:∀e a w,Q e a w->Q' e a w)(h:LetsOut Q):LetsOut Q':=let ⟨a,w,h⟩:=h;⟨a,w,hq _ _ _ h⟩
theorem Qih{P:Program}{Q Q':Exit->Act->World->Prop}(hq:∀e a w,Q e a w->Q' e a w){o:Oper}{a:Act}{w:World}{K K':Act->World->Prop}(h:∀a w,K a w->K' a w)(hh:o.wp P a w K Q):o.wp P a w K' Q':=by
 unfold Oper.wp at *
 generalize (execOp a.eval o).run P w=r at *
 cases r with
 |ok n w'=>
  cases n with
  |value v=>exact h _ _ hh
  |skip=>exact h _ _ hh
  |defer d=>exact h _ _ hh
  |enter f args=>
   exact Calls.mono hh (fun e w'' he=>by
    cases e with
    |returned v=>exact h _ _ he
    |panicked c=>exact hq _ _ _ he
    |outgrown=>exact Q72 hq he)
  |row row args=>exact Rows.mono hh (fun _ _ he=>h _ _ he)
  |_=>exact absurd hh (by simp only[Oper.upon];exact id)
 |halt x w'=>cases x <;> simp only[Oper.upon]at hh ⊢ <;> first|exact hq _ _ _ hh|exact hh
theorem Q54{P:Program}{ops:Array Oper}{Q Q':Exit->Act->World->Prop}(hq:∀e a w,Q e a w->Q' e a w):∀{l:List Oper}{a:Act}{w:World},wpList P ops Q l a w->wpList P ops Q' l a w
 |[],a,w,h=>hq _ _ _ h
 |o::rest,a,w,h=>by
  simp only[wpList]at h ⊢
  split
  ·rename_i hw
   rw[if_pos hw]at h
   rcases h with h|⟨h1,h2⟩
   ·exact .inl (Qih hq (fun a w h=>Q54 hq h) h)
   ·exact .inr ⟨h1,Q72 hq h2⟩
  ·rename_i hw
   rw[if_neg hw]at h
   exact Q54 hq h
theorem AOps.monoK{E:Env}{ops:Array Oper}{l:List Oper}{K K':Cont}{fr:Fr}{σ:St}(h:AOps E ops l K fr σ)(hk:∀e fr σ,K e fr σ->K' e fr σ):AOps E ops l K' fr σ:=by
 intro F w0 C0 w C tmps hg hi hf
 refine Q54 (fun e act w' hp=>?_) (h F w0 C0 w C tmps hg hi hf)
 obtain⟨hd,fr2,σ2,C2,h1,h2,h3,h4⟩:=hp
 exact⟨hd,fr2,σ2,C2,h1,h2,h3,hk _ _ _ h4⟩
theorem Q1h{E:Env}{Fin:Fr->St->Prop}{k k':List AItem}(h:∀e fr σ,Q03 E Fin k e fr σ->Q03 E Fin k' e fr σ):∀(pre:List AItem)(e:Exit)(fr:Fr)(σ:St),Q03 E Fin (pre++k) e fr σ->Q03 E Fin (pre++k') e fr σ
 |[],e,fr,σ,hc=>h e fr σ hc
 |.code c::pre,e,fr,σ,hc=>by
  cases e with
  |normal=>exact ACode.monoK (show ACode E c (Q03 E Fin (pre++k)) fr σ from hc) (Q1h h pre)
  |_=>exact Q1h h pre _ fr σ hc
 |.blk id::pre,e,fr,σ,hc=>by
  cases e with
  |normal=>exact Q1h h pre _ fr σ hc
  |exit j=>
   simp only[List.cons_append,Q03]at hc ⊢
   cases hb:Nat.beq j id with
   |true=>rw[hb]at hc;exact Q1h h pre _ fr σ hc
   |false=>rw[hb]at hc;exact Q1h h pre _ fr σ hc
  |_=>exact Q1h h pre _ fr σ hc
 |.inv J::pre,e,fr,σ,hc=>by
  cases e with
  |normal=>exact hc
  |_=>exact Q1h h pre _ fr σ hc
 |.pan J::pre,e,fr,σ,hc=>by
  cases e with
  |panic ps=>exact hc
  |_=>exact Q1h h pre _ fr σ hc
section
variable {E:Env}{ops:Array Oper}{l:List Oper}{x y:Code}{Fin:Fr->St->Prop}{k:List AItem}{α:Type}{fr:Fr}{σ:St}
theorem Qjm(hΓ:∀g cs,(g,cs)∈E.Γ->idsL isO cs){frI:α->Fr}{σI:α->St}{I:α->Prop}(hy:∀a,I a->ACode E y (Q03 E Fin k) (frI a) (σI a))(e:Exit)(fr:Fr)(σ:St)
  (h:Q03 E Fin (.inv (fun fr' σ'=>∃a ρ,I a/\LessR ρ fr' σ' (frI a) (σI a))::k) e fr σ):Q03 E Fin (.code y::k) e fr σ:=by
 cases e with
 |normal=>
  obtain⟨a,ρ,ha,hl⟩:=h
  exact ACode.lessR hΓ hl (hy a ha)
 |_=>exact h
theorem AOps.cutP(pre:List AItem)(hΓ:∀g cs,(g,cs)∈E.Γ->idsL isO cs)(frI:α->Fr)(σI:α->St)(I:α->Prop)
  (hx:AOps E ops l (Q03 E Fin (pre++.inv (fun fr' σ'=>∃a ρ,I a/\LessR ρ fr' σ' (frI a) (σI a))::k)) fr σ) (hy:∀a,I a->ACode E y (Q03 E Fin k) (frI a) (σI a)):AOps E ops l (Q03 E Fin (pre++.code y::k)) fr σ:=
 AOps.monoK hx (Q1h (Qjm hΓ hy) pre)
theorem AOps.cutN{its:List AItem}(n:Nat)(hn:its.drop n=.code y::k)(hΓ:∀g cs,(g,cs)∈E.Γ->idsL isO cs)(frI:α->Fr)(σI:α->St)(I:α->Prop)
  (hx:AOps E ops l (Q03 E Fin (its.take n++.inv (fun fr' σ'=>∃a ρ,I a/\LessR ρ fr' σ' (frI a) (σI a))::k)) fr σ) (hy:∀a,I a->ACode E y (Q03 E Fin k) (frI a) (σI a)):AOps E ops l (Q03 E Fin its) fr σ:=by
 have h:=AOps.cutP (its.take n) hΓ frI σI I hx hy
 rwa [←hn,List.take_append_drop]at h
end
@[simp] theorem ren_oaC (ρ:Nat->Nat) (k s:Nat) (es:List (List AC)) (oc:Option Nat):(oaC k s es oc).ren ρ=oaC (ρ k) s es oc:=by cases oc <;> rfl
theorem ren_oaO(ρ:Nat->Nat)(s:Nat)(es:List (List AC))(oc:Option Nat)(h:∀cap,idsL isO (vec s es cap)):(oaO s es oc).ren ρ=oaO s es oc:=by
 cases oc with
 |none=>rfl
 |some cap=>exact AObj.ren_pure ρ (.cells (vec s es cap)) (h cap)
@[simp] theorem ids_oaC (n k s:Nat) (es:List (List AC)) (oc:Option Nat):(oaC k s es oc).ids (inL n)↔(oc=none∨inL n (.l k)):=by cases oc <;> simp[oaC,AC.ids]
theorem Qj5{p:Id->Prop}{s cap:Nat}{es:List (List AC)}(h:idsS p es):idsL p (vec s es cap):=by
 unfold vec
 refine Q5u.2 fun c hc=>?_
 rcases List.mem_append.1 hc with hc|hc
 ·obtain⟨e,he,hc⟩:=List.mem_flatten.1 hc
  exact Q5u.1 (Qfo.1 h e he) c hc
 ·rw[List.mem_replicate]at hc
  rw[hc.2];trivial
theorem Qj6{p:Id->Prop}{s:Nat}{es:List (List AC)}{oc:Option Nat}(h:idsS p es):(oaO s es oc).ids p:=by
 cases oc with
 |none=>trivial
 |some cap=>exact Qj5 h
theorem FrSub.oa{ρ:Nat->Nat}{fr r:Fr}{d k k' s:Nat}{es:List (List AC)}{oc:Option Nat}(h:Fr.get d fr=some (.one (oaC k' s es oc)))(hk:k'=ρ k)(hr:FrSub ρ fr r):FrSub ρ fr ((d,.one (oaC k s es oc))::r):=
 FrSub.cons h (.ofEq (by subst hk;simp only[FV.ren,ren_oaC])) hr
end Go.Abs
namespace Go.Abs
section
variable {θ:Id->Id}
mutual
theorem AC.sub_f(hθ:∀i:Id,isO i->θ i=i):∀c:AC,c.ids isO->c.sub θ=c
 |.lit _,_=>rfl
 |.any,_=>rfl
 |.sl s es,h=>by simp only[AC.ids]at h;simp only[AC.sub];rw[Qhn hθ es h]
 |.box cs,h=>by simp only[AC.ids]at h;simp only[AC.sub];rw[Q6y hθ cs h]
 |.ptr i off,h=>by simp only[AC.ids]at h;simp only[AC.sub];rw[hθ i h]
 |.gs s es i,h=>by simp only[AC.ids]at h;simp only[AC.sub];rw[hθ i h.1,Qhn hθ es h.2]
 |.arr i s off len cap,h=>by simp only[AC.ids]at h;simp only[AC.sub];rw[hθ i h]
 |.mp i,h=>by simp only[AC.ids]at h;simp only[AC.sub];rw[hθ i h]
 |.fn f a b,h=>by simp only[AC.ids]at h;simp only[AC.sub];rw[Q6y hθ a h.1,Q6y hθ b h.2]
 |.ifc t ag cs,h=>by simp only[AC.ids]at h;simp only[AC.sub];rw[Q6y hθ cs h]
theorem Qhn(hθ:∀i:Id,isO i->θ i=i):∀es:List (List AC),idsS isO es->subS θ es=es
 |[],_=>rfl
 |e::es,h=>by simp only[idsS]at h;simp only[subS];rw[Q6y hθ e h.1,Qhn hθ es h.2]
theorem Q6y(hθ:∀i:Id,isO i->θ i=i):∀cs:List AC,idsL isO cs->subL θ cs=cs
 |[],_=>rfl
 |c::cs,h=>by simp only[idsL]at h;simp only[subL];rw[AC.sub_f hθ c h.1,Q6y hθ cs h.2]
end
mutual
theorem FV.sub_f(hθ:∀i:Id,isO i->θ i=i):∀x:FV,x.ids isO->x.sub θ=x
 |.bot,_=>rfl
 |.one c,h=>by simp only[FV.ids]at h;simp only[FV.sub];rw[AC.sub_f hθ c h]
 |.agg cs,h=>by simp only[FV.ids]at h;simp only[FV.sub];rw[Q6y hθ cs h]
 |.tup vs,h=>by simp only[FV.ids]at h;simp only[FV.sub];rw[subF_f hθ vs h]
theorem subF_f(hθ:∀i:Id,isO i->θ i=i):∀vs:List FV,idsF isO vs->subF θ vs=vs
 |[],_=>rfl
 |v::vs,h=>by simp only[idsF]at h;simp only[subF];rw[FV.sub_f hθ v h.1,subF_f hθ vs h.2]
end
theorem AObj.sub_f(hθ:∀i:Id,isO i->θ i=i)(o:AObj)(h:o.ids isO):o.sub θ=o:=by
 cases o with
 |cells cs=>simp only[AObj.sub];rw[Q6y hθ cs h]
 |map ck es=>
  simp only[AObj.sub]
  congr 1
  rw[List.map_congr_left (g:=id),List.map_id]
  intro x hx
  have:=h x hx
  obtain⟨a,b,c⟩:=x
  simp only[FV.sub_f hθ c this,id]
 |iter m a b d=>simp only[AObj.sub];rw[hθ m h]
 |sit s q=>rfl
 |tok e s u=>rfl
 |dead=>rfl
end
def posOf (i:Nat):List Nat->Option Nat
 |[]=>none
 |j::r=>bif Nat.beq i j then some 0 else match posOf i r with|some p=>some (p+1)|none=>none
theorem Q6a:∀{js:List Nat}{i p:Nat},posOf i js=some p->js[p]?=some i
 | [], i, p, h => by cases h
 |j::r,i,p,h=>by
  simp only[posOf]at h
  by_cases e:i=j
  ·subst e
   simp at h;subst h;rfl
  ·rw[Q09 e]at h
   cases hr:posOf i r with
   |none=>rw[hr]at h;cases h
   |some q=>
    rw[hr]at h
    simp at h;subst h
    simpa using Q6a hr
def toOs (js:List Nat)(k:Nat):Id->Id
 |.l i=>match posOf i js with|some p=>.o (k+p)|none=>.l i
 |.o i=>.o i
structure CedN (θ:Id->Id)(fr:Fr)(σ:St)(fr':Fr)(σ':St):Prop where
 fr:∀d x,Fr.get d fr'=some x->∃y,Fr.get d fr=some y/\WkF (y.sub θ) x
 n:σ'.n=σ.n
 obj:∀i x,σ'.get i=some x->∃i0 y,σ.get i0=some y/\θ i0=i/\x=y.sub θ
theorem AOps.cedeN{E:Env}{ops:Array Oper}{rest:List Oper}{K:Cont}{fr:Fr}{σ:St}(js:List Nat)(hj:∀j∈js,j < σ.n)(h:∀k,(∀m,k<=m->σ.ou m=none)->∃fr' σ',CedN (toOs js k) fr σ fr' σ'/\AOps E ops rest K fr' σ'):AOps E ops rest K fr σ:=by
 intro F w0 C0 w C tmps hg hi hf
 have hnone:∀m,C.no<=m->σ.ou m=none:=fun m hm=>by
  cases hx:σ.ou m with
  |none=>rfl
  |some x=>
   have:m < C.no:=(hi.obj (.o m) x hx).1
   omega
 obtain⟨fr',σ',hc,h⟩:=h _ hnone
 let C2:Ctx:={ C with no:=C.no+js.length,phi:=fun i=>match i with|.o m=>if m < C.no then C.phi (.o m)else (match js[m - C.no]? with|some j=>C.phi (.l j)|none=>C.phi (.o m))|.l m=>C.phi (.l m),tk:=fun i=>match i with|.o m=>if m < C.no then C.tk (.o m)else (match js[m - C.no]? with|some j=>C.tk (.l j)|none=>C.tk (.o m))|.l m=>C.tk (.l m) }
 have hx:Ext w C w C2:=⟨fun _ _=>rfl,fun _ h=>h,fun i _ ho=>by
  cases i with
  |l m=>exact⟨ho,rfl,rfl⟩
  |o m=>
   have hm:m < C.no:=ho
   refine⟨Nat.lt_of_lt_of_le hm (Nat.le_add_right _ _),?_,?_⟩
   ·show (if m < C.no then _ else _)=_;rw[if_pos hm];rfl
   ·show (if m < C.no then _ else _)=_;rw[if_pos hm];rfl⟩
 have hb:Bus (toOs js C.no) (fun _=>True) w C2 C:=⟨fun _ h=>h,fun i _ ho=>by
  cases i with
  |o m=>exact hx.id (.o m) trivial ho
  |l m=>
   simp only[toOs]
   cases hp:posOf m js with
   |none=>exact⟨ho,rfl,rfl⟩
   |some p=>
    have hjp:=Q6a hp
    have hlt:p < js.length:=(List.getElem?_eq_some_iff.1 hjp).1
    refine⟨Nat.add_lt_add_left hlt _,?_,?_⟩
    ·show (if C.no+p < C.no then _ else _)=_
     rw[if_neg (by omega),Nat.add_sub_cancel_left,hjp];rfl
    ·show (if C.no+p < C.no then _ else _)=_
     rw[if_neg (by omega),Nat.add_sub_cancel_left,hjp];rfl⟩
 have hok:∀i0 y,σ.get i0=some y->C.ok i0:=fun i0 y hy=>(hi.obj i0 y hy).1
 have hi':Inv E.Γ F w C2 σ':=by
  refine⟨hi.base,by rw[hc.n];exact hi.next,fun g cs hm=>(hi.glob g cs hm).ext hx,hi.prot,fun i x hxx=>?_,fun i1 i2 x1 x2 g h1 h2 h3 h4=>?_⟩
  ·obtain⟨i0,y,hy,rfl,rfl⟩:=hc.obj i x hxx
   obtain⟨k1,k2⟩:=hi.obj i0 y hy
   exact⟨(hb.id i0 trivial k1).1,ObjOk.bus hb (AObj.ids_all y) trivial k1 (fun _ h=>h) k2⟩
  ·obtain⟨a,y,hy,rfl,rfl⟩:=hc.obj i1 x1 h1
   obtain⟨b,z,hz,rfl,rfl⟩:=hc.obj i2 x2 h2
   rw[AObj.block_bus hb trivial (hok a y hy)]at h3
   rw[AObj.block_bus hb trivial (hok b z hz)]at h4
   rw[hi.inj a b y z g hy hz h3 h4]
 refine h F w0 C0 w C2 tmps (hg.trans ⟨Stp.refl _ _,hx.weaken (fun _ _=>trivial),Nat.le_add_right _ _,NewP.refl _ _⟩) hi' ⟨hf.1,fun d x hd=>?_⟩
 obtain⟨y,hy,hw⟩:=hc.fr d x hd
 obtain⟨u,hu,hr⟩:=hf.2 d y hy
 exact⟨u,hu,hw _ _ _ (RF.bus hb y u (FV.ids_true y) hr)⟩
def ouAdd (ou:Outer)(k:Nat)(os:List AObj):Outer:=fun m=>bif Nat.blt m k then ou m else os[m - k]?
theorem Q1b{ou:Outer}{k:Nat}{os:List AObj}{m:Nat}(h:m < k):ouAdd ou k os m=ou m:=by
 unfold ouAdd
 have:Nat.blt m k=true:=by simp[Nat.blt];exact h
 rw[this];rfl
theorem Q0q{ou:Outer}{k:Nat}{os:List AObj}(p:Nat):ouAdd ou k os (k+p)=os[p]?:=by
 unfold ouAdd
 have:Nat.blt (k+p) k=false:=by
  cases h:Nat.blt (k+p) k with
  |false=>rfl
  |true=>simp[Nat.blt]at h;omega
 rw[this,Nat.add_sub_cancel_left];rfl
theorem Q4w{ou:Outer}{k:Nat}(h:∀m,k<=m->ou m=none){m:Nat}{o:AObj}(hm:ou m=some o):m < k:=by
 rcases Nat.lt_or_ge m k with h1|h1
 ·exact h1
 ·rw[h m h1]at hm;cases hm
inductive CedFrN (θ:Id->Id)(fr:Fr):Fr->Prop
 |nil:CedFrN θ fr []
 |cons {k:Nat}{x y:FV}{r:Fr}(h:Fr.get k fr=some y) (hw:y.sub θ=x) (hr:CedFrN θ fr r):CedFrN θ fr ((k,x)::r)
theorem CedFrN.get{θ:Id->Id}{fr fr':Fr}(h:CedFrN θ fr fr'):∀d x,Fr.get d fr'=some x->∃y,Fr.get d fr=some y/\WkF (y.sub θ) x:=by
 induction h with
 |nil=>intro d x h;cases h
 |@cons k x y r h hw hr ih=>
  intro d z hz
  simp only[Fr.get]at hz
  by_cases e:k=d
  ·subst e;simp at hz;subst hz;exact⟨y,h,WkF.ofEq hw⟩
  ·rw[Q09 e]at hz;exact ih d z hz
inductive CedLo (θ:Id->Id)(lo:List (Nat×AObj))(js:List Nat):List (Nat×AObj)->Prop
 |nil:CedLo θ lo js []
 |cons {n:Nat}{o y:AObj}{r:List (Nat×AObj)}(h:lookL n lo=some y) (hn:posOf n js=none) (ho:y.sub θ=o) (hr:CedLo θ lo js r):CedLo θ lo js ((n,o)::r)
theorem CedLo.get{θ:Id->Id}{lo lo':List (Nat×AObj)}{js:List Nat}(h:CedLo θ lo js lo'):∀n o,lookL n lo'=some o->posOf n js=none/\∃y,lookL n lo=some y/\y.sub θ=o:=by
 induction h with
 |nil=>intro n o h;cases h
 |@cons m x y r h hn ho hr ih=>
  intro n o hz
  simp only[lookL]at hz
  by_cases e:m=n
  ·subst e;simp at hz;subst hz;exact⟨hn,y,h,ho⟩
  ·rw[Q09 e]at hz;exact ih n o hz
inductive CedOs (θ:Id->Id)(lo:List (Nat×AObj)):List Nat->List AObj->Prop
 |nil:CedOs θ lo [] []
 |cons {j:Nat}{o y:AObj}{js:List Nat}{os:List AObj}(h:lookL j lo=some y) (ho:y.sub θ=o) (hr:CedOs θ lo js os):CedOs θ lo (j::js) (o::os)
theorem CedOs.get{θ:Id->Id}{lo:List (Nat×AObj)}{js:List Nat}{os:List AObj}(h:CedOs θ lo js os):∀(p:Nat)(o:AObj),os[p]?=some o->∃j y,js[p]?=some j/\lookL j lo=some y/\y.sub θ=o:=by
 induction h with
 |nil=>intro p o h;simp at h
 |@cons j o y js os h ho hr ih=>
  intro p z hz
  cases p with
  |zero=>simp at hz;subst hz;exact⟨j,y,rfl,h,ho⟩
  |succ p=>simpa using ih p z (by simpa using hz)
theorem Q6e:∀{js:List Nat}{p j:Nat},js.Nodup->js[p]?=some j->posOf j js=some p
 |[],p,j,_,h=>by simp at h
 |i::r,p,j,hn,h=>by
  simp only[List.nodup_cons]at hn
  cases p with
  |zero=>simp at h;subst h;simp[posOf]
  |succ p=>
   have h1:r[p]?=some j:=by simpa using h
   have hne:j≠i:=fun e=>hn.1 (e▸List.mem_of_getElem? h1)
   simp only[posOf,Q09 hne,cond_false,Q6e hn.2 h1]
theorem AOps.cedes{E:Env}{ops:Array Oper}{rest:List Oper}{K:Cont}{fr:Fr}{σ:St}(js:List Nat)(hj:js.all (fun j=>Nat.blt j σ.n)=true)(hnd:js.Nodup)(hou:OuOk σ.ou)
  (h:∀k,(∀m,k<=m->σ.ou m=none)->∃fr' lo' os,CedFrN (toOs js k) fr fr'/\CedLo (toOs js k) σ.lo js lo'/\CedOs (toOs js k) σ.lo js os/\AOps E ops rest K fr' ⟨σ.n,lo',ouAdd σ.ou k os⟩):AOps E ops rest K fr σ:=by
 refine AOps.cedeN js (fun j hjj=>?_) fun k hk=>?_
 ·have:=List.all_eq_true.1 hj j hjj
  exact Nat.le_of_ble_eq_true (show Nat.ble (j+1) σ.n=true from this)
 obtain⟨fr',lo',os,h1,h2,h3,h4⟩:=h k hk
 refine⟨fr',⟨σ.n,lo',ouAdd σ.ou k os⟩,⟨h1.get,rfl,fun i x hx=>?_⟩,h4⟩
 cases i with
 |l m=>
  obtain⟨hp,y,hy,rfl⟩:=h2.get m x hx
  exact⟨.l m,y,hy,by simp[toOs,hp],rfl⟩
 |o m=>
  have hx':ouAdd σ.ou k os m=some x:=hx
  rcases Nat.lt_or_ge m k with hm|hm
  ·rw[Q1b hm]at hx'
   exact⟨.o m,x,hx',rfl,(AObj.sub_f (fun i hi=>by cases i with|l q=>exact hi.elim|o q=>rfl) x (hou m x hx')).symm⟩
  ·obtain⟨p,rfl⟩:∃p,m=k+p:=⟨m - k,by omega⟩
   rw[Q0q]at hx'
   obtain⟨j,y,q1,q2,rfl⟩:=h3.get p x hx'
   exact⟨.l j,y,q2,by simp[toOs,Q6e hnd q1],rfl⟩
theorem AFn.forget{P:Program}{Γ:List (Nat×List AC)}{g:Nat}{args:List FV}{ou:Outer}{Q:FV->Outer->Prop}(h:AFn P Γ g args ou (fun r ou'=>∃ou'':Outer,(∀m o,ou'' m=some o->ou' m=some o)/\Q r ou'')):AFn P Γ g args ou Q:=by
 refine⟨h.1,fun F w C cargs h0 hi hr=>(h.2 F w C cargs h0 hi hr).mono fun e w' ⟨v,r,ou',C',h1,h2,h3,h4,h5,ou'',h6,h7⟩=>⟨v,r,ou'',C',h1,h2,h3,?_,h5,h7⟩⟩
 have hs:∀i o,(St.mk 0 [] ou'').get i=some o->(St.mk 0 [] ou').get i=some o:=fun i o hio=>by
  cases i with
  |l m=>cases hio
  |o m=>exact h6 m o hio
 exact⟨h4.base,h4.next,h4.glob,h4.prot,fun i o ho=>h4.obj i o (hs i o ho),fun i j o o' g h1 h2 h3 h5=>h4.inj i j o o' g (hs i o h1) (hs j o' h2) h3 h5⟩
end Go.Abs
namespace Go.Abs
theorem Q7p{E:Env}{l:List Oper}{frb:Fr}{σ:St}{cs:List (Nat×FV)}{n:Nat}{vs:List FV}(hT:TabOk E.P E.T)(hall:∀k o,l[k]?=some o->k < n->o.after.all (fun e=>!Region.binds .any e||decide (e.on < k))=true):
  ∀(os:List Oper) (k:Nat) (acc ws:List FV),acc.length=k->(∀i o,os[i]?=some o->l[k+i]?=some o/\k+i < n)->Q0f E l.toArray l frb σ cs k os acc=some ws->acc++ws=vs->
  ∀i o,os[i]?=some o->∃v,ws[i]?=some v/\o.dst.isSome=true/\dstOk E.N o.dst=true/\(lookC (k+i) cs=some v∨(lookC (k+i) cs=none/\HStep E l.toArray o (depFr l vs o++frb) σ σ v))
 |[],k,acc,ws,_,_,_,_,i,o,hi=>by simp at hi
 |o::os,k,acc,ws,hl,hos,h,hv,i,o',hi=>by
  have ho:=hos 0 o rfl
  simp only[Nat.add_zero]at ho
  simp only[Q0f,Q13]at h
  cases hb:(o.dst.isSome&&dstOk E.N o.dst) with
  |false=>rw[hb]at h;cases h
  |true=>
   rw[hb]at h
   simp only[Bool.and_eq_true]at hb
   simp only[cond_true]at h
   have rest:∀{v:FV},(match Q0f E l.toArray l frb σ cs (k+1) os (acc++[v]) with|some vs=>some (v::vs)|none=>none)=some ws->(lookC k cs=some v∨(lookC k cs=none/\HStep E l.toArray o (depFr l vs o++frb) σ σ v))->
     ∃v,ws[i]?=some v/\o'.dst.isSome=true/\dstOk E.N o'.dst=true/\(lookC (k+i) cs=some v∨(lookC (k+i) cs=none/\HStep E l.toArray o' (depFr l vs o'++frb) σ σ v)):=by
    intro v h hfirst
    split at h
    ·rename_i ws' hw
     simp only[Option.some.injEq]at h;subst h
     cases i with
     |zero=>
      simp at hi;subst hi
      exact⟨v,rfl,hb.1,hb.2,hfirst⟩
     |succ i=>
      have:=Q7p hT hall os (k+1) (acc++[v]) ws' (by simp[hl]) (fun i o hi=>by have:=hos (i+1) o hi;rw[show k+1+i=k+(i+1) by omega];exact this) hw (by simpa using hv) i o' (by simpa using hi)
      rw[show k+1+i=k+(i+1) by omega]at this
      simpa using this
    ·cases h
   cases hc:lookC k cs with
   |some v=>
    rw[hc]at h
    exact rest h (.inl hc)
   |none=>
    rw[hc]at h
    simp only at h
    cases hp:Q5n o.op with
    |false=>rw[hp]at h;cases h
    |true=>
     rw[hp]at h
     simp only[cond_true]at h
     split at h
     ·rename_i v σ' ha
      have hdep:depFr l vs o=depFr l acc o:=by
       have:∃r,vs=acc++r:=⟨ws,hv.symm⟩
       obtain⟨r,rfl⟩:=this
       exact Q2v (by rw[hl];exact hall k o ho.1 ho.2)
      have hσ:σ'=σ:=by
       have key:∀{y:FV}{τ:St},(match aOp E.T E.Γ o.op (depFr l acc o++frb) σ with|some (some x,σ')=>some (x,σ')|_=>none)=some (y,τ)->τ=σ:=by
        intro y τ h
        split at h
        ·rename_i h1
         simp only[Option.some.injEq,Prod.mk.injEq]at h
         obtain⟨rfl,rfl⟩:=h
         exact Q63 hp h1
        ·cases h
       unfold aHead at ha
       split at ha
       ·exact key ha
       ·split at ha
        ·split at ha
         ·exact key ha
         ·exact key ha
         ·cases ha;rfl
         ·cases ha;rfl
         ·cases ha;rfl
         ·cases ha
        ·cases ha
      subst hσ
      have hs:=HStep.auto (ops:=l.toArray) hT ha
      rw[←hdep]at hs
      exact rest h (.inr ⟨hc,hs⟩)
     ·cases h
def inS (S:List Nat)(i:Nat):Bool:=S.any fun k=>Nat.beq k i
def fC:List Nat->List FV->Nat->Option FV
 |s::S,v::vs,i=>bif Nat.beq s i then some v else fC S vs i
 |_,_,_=>none
def chainB (l:List Oper):List Nat->Bool
 |s::s'::S=>(match l[s']? with|some o=>o.after.any fun e=>Region.binds .any e&&Nat.beq e.on s|none=>false)&&chainB l (s'::S)
 |_=>true
def Qev (l:List Oper)(S:List Nat)(n:Nat):Bool:=(l.take n).zipIdx.all fun x=>inS S x.2||x.1.after.toList.all fun e=>!Region.binds .any e||!(inS S e.on)
theorem Q8m:∀{S:List Nat}{vs:List FV}{i:Nat},inS S i=false->fC S vs i=none
 |[],[],_,_=>rfl
 |[],_::_,_,_=>rfl
 |s::S,[],_,_=>rfl
 |s::S,v::vs,i,h=>by
  simp only[inS,List.any_cons,Bool.or_eq_false_iff]at h
  simp only[fC,h.1,cond_false]
  exact Q8m h.2
theorem Q8l{S:List Nat}(hn:S.Nodup):∀{vs:List FV}{p i:Nat},S[p]?=some i->p < vs.length->fC S vs i=vs[p]?:=by
 induction S with
 |nil=>intro vs p i h;simp at h
 |cons s S ih=>
  intro vs p i h hp
  simp only[List.nodup_cons]at hn
  cases vs with
  |nil=>simp at hp
  |cons v vs=>
   cases p with
   |zero=>simp at h;subst h;simp[fC]
   |succ p=>
    have h1:S[p]?=some i:=by simpa using h
    have hne:s≠i:=fun e=>hn.1 (e▸List.mem_of_getElem? h1)
    simp only[fC,Q09 hne,cond_false]
    rw[ih hn.2 h1 (by simpa using hp)]
    simp
theorem Qa9{S:List Nat}(hn:S.Nodup):∀{vs:List FV}{p i:Nat},S[p]?=some i->vs.length<=p->fC S vs i=none:=by
 induction S with
 |nil=>intro vs p i h;simp at h
 |cons s S ih=>
  intro vs p i h hp
  simp only[List.nodup_cons]at hn
  cases vs with
  |nil=>rfl
  |cons v vs=>
   cases p with
   |zero=>simp at hp
   |succ p=>
    have h1:S[p]?=some i:=by simpa using h
    have hne:s≠i:=fun e=>hn.1 (e▸List.mem_of_getElem? h1)
    simp only[fC,Q09 hne,cond_false]
    exact ih hn.2 h1 (by simpa using hp)
theorem fC_upd{S:List Nat}(hn:S.Nodup){vs:List FV}{i:Nat}{v:FV}(h:S[vs.length]?=some i):updV (fC S vs) i v=fC S (vs++[v]):=by
 funext j
 unfold updV
 by_cases hj:inS S j=true
 ·obtain⟨s,hs,he⟩:=List.any_eq_true.1 hj
  obtain rfl:s=j:=Nat.eq_of_beq_eq_true he
  obtain⟨p,hp⟩:=List.mem_iff_getElem?.1 hs
  by_cases e:s=i
  ·subst e
   have hpv:p=vs.length:=(List.getElem?_inj (List.getElem?_eq_some_iff.1 hp).1 hn).1 (hp.trans h.symm)
   subst hpv
   rw[Q8l (vs:=vs++[v]) hn hp (by simp)]
   simp
  ·have hpv:p≠vs.length:=fun e2=>by subst e2;rw[h]at hp;exact e (by simpa using hp.symm)
   simp only[Ne.symm e,if_false,e]
   rcases Nat.lt_or_ge p vs.length with h1|h1
   ·rw[Q8l hn hp h1,Q8l hn hp (by simp;omega),List.getElem?_append_left h1]
   ·rw[Qa9 hn hp h1,Qa9 hn hp (by simp;omega)]
 ·have hj':inS S j=false:=by simpa using hj
  have hne:j≠i:=fun e=>by
   subst e
   have:inS S j=true:=List.any_eq_true.2 ⟨j,List.mem_of_getElem? h,by simp⟩
   rw[this]at hj';cases hj'
  rw[Q8m hj',Q8m hj']
  simp[Ne.symm hne,hne]
theorem Q8s{l:List Oper}:∀{S:List Nat},chainB l S=true->∀{p i j:Nat}{o:Oper},S[p]?=some i->S[p+1]?=some j->l[j]?=some o->∃e∈o.after.toList,Region.binds .any e=true/\e.on=i
 |[],_,p,i,j,o,h1,_,_=>by simp at h1
 |[s],_,p,i,j,o,_,h2,_=>by simp at h2
 |s::s'::S,h,p,i,j,o,h1,h2,h3=>by
  simp only[chainB,Bool.and_eq_true]at h
  cases p with
  |zero=>
   simp at h1 h2
   subst h1;subst h2
   rw[h3]at h
   obtain⟨e,he,hb⟩:=Array.any_eq_true'.1 h.1
   simp only[Bool.and_eq_true]at hb
   exact⟨e,by simpa using he,hb.1,Nat.eq_of_beq_eq_true hb.2⟩
  |succ p=>exact Q8s h.2 (by simpa using h1) (by simpa using h2) h3
section
variable {E:Env}{l:List Oper}{frb:Fr}{K:Cont}
theorem ACode.drawC{id:Nat}{fr:Fr}{σ0:St}{hd tl:List Oper}{vs0:List FV}(hT:TabOk E.P E.T)(n:Nat)(S:List Nat)(cs:List (Nat×FV))(G:List FV->St->Prop)(hm:E.P.follows .mixedOrders=true)(hB:drawB l n=true)(hsp:Q35 n l=some (hd,tl))(hfb:Fr.woO (dsts hd) fr=some frb)
  (hn:S.Nodup) (hch:chainB l S=true) (hqb:Qev l S n=true) (h0:G [] σ0) (hrun0:Q0f E l.toArray l frb σ0 (S.map (fun i=>(i,FV.bot))++cs) 0 hd []=some vs0)
  (hrun : ∀ vs σ, G vs σ -> Q0f E l.toArray l frb σ (S.map (fun i => (i, FV.bot)) ++ cs) 0 hd [] = some vs0) (hcs : ∀ vs σ, G vs σ -> Q0n E l frb σ vs0 cs) (hSl : ∀ i ∈ S, i < n)
  (hs : ∀ vs σ, G vs σ -> ∀ i o, S[vs.length]? = some i -> l[i]? = some o -> o.dst.isSome = true /\ dstOk E.N o.dst = true /\ Q64 E l.toArray o (Q0m l (mixV S vs0 (fC S vs)) o ++ frb) σ (fun v σ' => G (vs ++ [v]) σ'))
  (htail : ∀ vs σ, vs.length = S.length -> G vs σ -> AOps E l.toArray tl K (Q0e (mixV S vs0 (fC S vs)) 0 hd ++ frb) σ) : ACode E (.region id l.toArray true) K fr σ0 := by
 have hnl:n < l.length:=by
  have:=hB
  simp only[drawB,Bool.and_eq_true,decide_eq_true_eq]at this
  exact this.1.1.1.1.1
 have hlast:∀k o,l[k]?=some o->k < n->o.after.all (fun e=>!Region.binds .any e||decide (e.on < k))=true:=fun k o hk hkn=>by
  have hB2:=hB
  simp only[drawB,Bool.and_eq_true,decide_eq_true_eq]at hB2
  exact List.all_eq_true.1 hB2.2 (o,k) (by
   rw[List.mem_zipIdx_iff_getElem?,List.getElem?_take_of_lt hkn]
   simpa using hk)
 obtain⟨hsp1,hsp2⟩:=Q21 hsp
 refine ACode.drawSR n S vs0 (fun f σ=>∃vs,vs.length<=S.length/\f=fC S vs/\G vs σ) hm hB hsp hfb ⟨[],by simp,by funext i;cases S <;> rfl,h0⟩ (fun f σ ⟨vs,_,hf,_⟩ i hi=>by rw[hf];exact Q8m hi) ?_ ?_ ?_
 ·intro i o hi hS hlo
  have hio:hd[i]?=some o:=by rw[←hsp1,List.getElem?_take_of_lt hi];exact hlo
  have key:∀vs σ,G vs σ->∃v,vs0[i]?=some v/\o.dst.isSome=true/\dstOk E.N o.dst=true/\HStep E l.toArray o (depFr l vs0 o++frb) σ σ v:=fun vs σ hG=>by
   obtain⟨v,h1,h2,h3,h4⟩:=Q7p (vs:=vs0) hT hlast hd 0 [] vs0 rfl (fun i o hi=>by
    have hi2:i < n:=by
     have:=(List.getElem?_eq_some_iff.1 hi).1
     rw[←hsp1]at this;simp at this;omega
    rw[←hsp1,List.getElem?_take_of_lt hi2]at hi
    exact⟨by simpa using hi,by omega⟩) (hrun vs σ hG) (List.nil_append _) i o hio
   rw [Nat.zero_add] at h4
   refine⟨v,h1,h2,h3,?_⟩
   rcases h4 with h4|h4
   ·have hl:lookC i cs=some v:=by
     have:∀{S:List Nat},(S.any fun k=>Nat.beq k i)=false->lookC i (S.map (fun i=>(i,FV.bot))++cs)=lookC i cs:=fun {S} hS=>by
      induction S with
      |nil=>rfl
      |cons s S ih=>
       simp only[List.any_cons,Bool.or_eq_false_iff]at hS
       simp only[List.map_cons,List.cons_append,lookC,hS.1,cond_false]
       exact ih hS.2
     rw[this hS]at h4;exact h4
    obtain⟨o',ho',hst⟩:=(hcs vs σ hG).get hl
    rw[hlo]at ho'
    cases ho'
    exact hst
   ·exact h4.2
  have hq:(o.after.toList.all fun e=>!Region.binds .any e||!(S.any fun k=>Nat.beq k e.on))=true:=by
   have h1:=List.all_eq_true.1 hqb (o,i) (by
    rw[List.mem_zipIdx_iff_getElem?,List.getElem?_take_of_lt hi]
    simpa using hlo)
   have h2:inS S i=false:=hS
   simp only[h2,Bool.false_or]at h1
   exact h1
  obtain⟨v,h1,h2,h3,_⟩:=key [] σ0 h0
  refine⟨v,h1,h2,h3,hq,fun f σ ⟨vs,_,_,hG⟩=>?_⟩
  obtain⟨v',h1',_,_,h4⟩:=key vs σ hG
  rw[h1]at h1'
  cases h1'
  exact h4
 ·rintro f σ i o ⟨vs,hlen,rfl,hG⟩ hS hlo hfi hdep
  obtain⟨s,hsS,he⟩:=List.any_eq_true.1 hS
  obtain rfl:s=i:=Nat.eq_of_beq_eq_true he
  obtain⟨p,hp⟩:=List.mem_iff_getElem?.1 hsS
  have hpS:=(List.getElem?_eq_some_iff.1 hp).1
  have hpv:p=vs.length:=by
   rcases Nat.lt_trichotomy p vs.length with h1|h1|h1
   ·rw[Q8l hn hp h1]at hfi
    have:=(List.getElem?_eq_none_iff.1 hfi);omega
   ·exact h1
   ·exfalso
    obtain⟨q,rfl⟩:∃q,p=q+1:=⟨p - 1,by omega⟩
    obtain⟨i0,hi0⟩:∃i0,S[q]?=some i0:=⟨S[q],List.getElem?_eq_getElem (by omega)⟩
    obtain⟨e,he,hb,heo⟩:=Q8s hch hi0 hp hlo
    have h2:=hdep e he hb (by rw[heo];exact List.any_eq_true.2 ⟨i0,List.mem_of_getElem? hi0,by simp⟩)
    rw[heo,Qa9 hn hi0 (by omega)]at h2
    cases h2
  subst hpv
  obtain⟨k1,k2,k3⟩:=hs vs σ hG s o hp hlo
  exact⟨k1,k2,k3.mono fun v σ' hG'=>⟨vs++[v],by simp;omega,fC_upd hn hp,hG'⟩⟩
 ·rintro f σ ⟨vs,hlen,rfl,hG⟩ hall
  refine htail vs σ ?_ hG
  rcases Nat.lt_or_ge vs.length S.length with h1|h1
  ·exfalso
   obtain⟨i0,hi0⟩:∃i0,S[vs.length]?=some i0:=⟨S[vs.length],List.getElem?_eq_getElem h1⟩
   have hm:=List.mem_of_getElem? hi0
   have:=hall i0 hm (hSl i0 hm)
   rw[Qa9 hn hi0 (Nat.le_refl _)]at this
   cases this
  ·omega
end
end Go.Abs
namespace Go.Abs
section
variable {Γ:List (Nat×List AC)}{F:Nat->Prop}{w:World}{C:Ctx}{σ:St}
end
section
variable {E:Env}{o:Oper}{fr:Fr}{σ:St}
end
end Go.Abs
namespace Go.Abs
end Go.Abs
namespace Go.Abs
theorem AFn.moreG{P:Program}{Γ Γ':List (Nat×List AC)}{g:Nat}{args:List FV}{ou:Outer}{Q:FV->Outer->Prop}(hs:∀g cs,(g,cs)∈Γ->(g,cs)∈Γ')(hΓ:∀g cs,(g,cs)∈Γ'->idsL isO cs)(h:AFn P Γ g args ou Q):AFn P Γ' g args ou Q :=
 ⟨h.1, fun F w C cargs h0 hi hr => (h.2 F w C cargs h0 ⟨hi.base, hi.next, fun k cs hk => hi.glob k cs (hs k cs hk), hi.prot, hi.obj, hi.inj⟩ hr).mono fun e w' ⟨v, r, ou', C', h1, h2, h3, h4, h5, h6⟩ =>
  ⟨v,r,ou',C',h1,h2,h3,⟨h4.base,h4.next,fun k cs hk=>(hi.glob k cs hk).chg h2.chg (hΓ k cs hk),h4.prot,h4.obj,h4.inj⟩,h5,h6⟩⟩
theorem APure.moreG{P:Program}{Γ Γ':List (Nat×List AC)}{g:Nat}{args:List FV}{r:FV}(hs:∀g cs,(g,cs)∈Γ->(g,cs)∈Γ')(hΓ:∀g cs,(g,cs)∈Γ'->idsL isO cs)(h:APure P Γ g args r):APure P Γ' g args r:=fun ou=>(h ou).moreG hs hΓ
end Go.Abs
namespace Go.Abs
section
variable {E:Env}{o:Oper}{fr:Fr}{σ:St}
theorem AStep.loadOwnA{t:TypeId}{ti:TI}{x:Operand}{j:Id}{cs:List AC}(hT:TabOk E.P E.T)(ho:o.op=.load t x)(ht:Tab.get t E.T=some ti)(ha:ti.agg=true)(hs:Nat.beq ti.size cs.length=true)(hx:aEval E.Γ fr x=some (.one (.ptr j 0)))
  (hg:σ.get j=some (.cells cs)):AStep E o fr σ (.agg cs) σ:=by
 refine AStep.ofOp hT ?_
 have hs':ti.size=cs.length:=Nat.eq_of_beq_eq_true hs
 have hb:Nat.ble (0+cs.length) cs.length=true:=Nat.ble_eq▸(show 0+cs.length<=cs.length by omega)
 simp only[ho,aOp,ht,ha,hs',hx,aLoad,hg,hb,cond_true,Q13,mkFV,Bool.true_or,List.drop_zero,List.take_length]
end
theorem RS.drop{w:World}{C:Ctx}{s:Nat}:∀(b:Nat)(es:List (List AC))(ad:Addr),ad.spot=none->RS w C s es ad->RS w C s (es.drop b) ⟨ad.block,ad.off+b * s,none⟩
 |0,es,ad,hs,h=>by
  obtain⟨bl,of,sp⟩:=ad
  simp only at hs;subst hs
  simpa using h
 |b+1,[],ad,hs,h=>by simp[RS]
 |b+1,e::es,ad,hs,h=>by
  simp only[RS]at h
  have:=RS.drop b es _ rfl h.2.2
  simp only[List.drop_succ_cons]
  rw[show ad.off+(b+1) * s=ad.off+s+b * s by rw[Nat.add_mul];omega]
  exact this
section
variable {E:Env}{o:Oper}{fr:Fr}{σ:St}
theorem AStep.sliceFrom{t:TypeId}{ti tj:TI}{x l:Operand}{k:IntKind}{b sz:Nat}{es:List (List AC)}(hT:TabOk E.P E.T)(ho:o.op=.slice t x (some l) none none)(ht:Tab.get t E.T=some ti)(hk:Nat.beq ti.kind 2=true)(hj:Tab.get ti.elem E.T=some tj)(hsz:Nat.beq tj.size sz=true)
  (hx:aEval E.Γ fr x=some (.one (.sl sz es))) (hl:aEval E.Γ fr l=some (.one (.lit (.int k (b:Int))))) (hb:b<=es.length):AStep E o fr σ (.one (.sl sz (es.drop b))) σ:=by
 refine AStep.quiet fun F w C tmps hi hf=>?_
 have e1:=Q01 (a:=⟨tmps,E.ds⟩) hi hf hx
 have e3:=Q01 (a:=⟨tmps,E.ds⟩) hi hf hl
 simp only[RF,R]at e1 e3
 obtain⟨ad,cap,hv,hcap,hrs⟩:=e1
 have hsz':tj.size=sz:=Nat.eq_of_beq_eq_true hsz
 have hu:=(hT t ti ht).slice (Nat.eq_of_beq_eq_true hk)
 have hsz2:=(hT _ _ hj).run_sizeOf (w:=w)
 have hrun:(execOp (Act.eval ⟨tmps,E.ds⟩) o).run E.P w=.ok (.value (.slice (if cap=b then ad else ad.map (·.add (b * tj.size))) (es.length - b) (cap - b))) w:=by
  unfold execOp
  simp only[ho,hv,e3.1,Option.map_some,Option.map_none]
  simp[Instr.sliceAt,Instr.slice,run_underlying hu,hsz2,Instr.sliceBounds,Instr.sliceBound,asIntOf,hb,hcap,Result.andThen]
 have hlen:(es.drop b).length=es.length - b:=by simp
 refine⟨_,hrun,?_⟩
 simp only[RF,R,hlen]
 refine⟨_,_,rfl,by omega,?_⟩
 rcases hrs with rfl|⟨a,rfl,hs,hr⟩
 ·left;simp
 ·by_cases he:es.drop b=[]
  ·exact .inl he
  ·right
   have h1:b < es.length:=by
    rcases Nat.lt_or_ge b es.length with h|h
    ·exact h
    ·exact absurd (List.drop_eq_nil_of_le h) he
   have e2:a.add (b * tj.size)=⟨a.block,a.off+b * sz,none⟩:=by
    obtain⟨bl,of,sp⟩:=a
    simp only at hs;subst hs
    simp only[Addr.add,hsz']
    split
    ·rename_i h0;simp[h0]
    ·rfl
   rw[if_neg (by omega),Option.map_some,e2]
   exact⟨_,rfl,rfl,RS.drop b es a hs hr⟩
end
end Go.Abs
namespace Go.Abs
end Go.Abs
namespace Go.Abs
end Go.Abs
namespace Go.Abs
section
variable {E:Env}{o:Oper}{fr:Fr}{σ:St}{t yt el:TypeId}{x y:Operand}
end
end Go.Abs
namespace Go.Abs
section
variable {Γ:List (Nat×List AC)}{F:Nat->Prop}{w:World}{C:Ctx}{σ:St}
end
section
variable {E:Env}{o:Oper}{fr:Fr}{σ:St}
end
end Go.Abs
namespace Go.Abs
def AStepRP (E:Env)(o:Oper)(fr:Fr)(σ:St)(P:FV->St->Prop)(PP:List PanicEntry->St->Prop):Prop:=
 ∀(F:Nat->Prop) (w:World) (C:Ctx) (tmps:Array Value),Inv E.Γ F w C σ->FrOk w C E.N fr tmps->
  ∀(next:Act->World->Prop) (Q:Exit->Act->World->Prop),
   (∀(u:Value) (w':World) (C':Ctx) (v:FV) (σ':St),P v σ'->Goes F (fun _=>True) w C w' C'->Inv E.Γ F w' C' σ'->RF w' C' v u->next (Act.put ⟨tmps,E.ds⟩ o.dst u) w')->
   (∀(ps:List PanicEntry) (w':World) (C':Ctx) (σ':St),PP ps σ'->Goes F (fun _=>True) w C w' C'->Inv E.Γ F w' C' σ'->Q (.panic ps) ⟨tmps,E.ds⟩ w')->o.wp E.P ⟨tmps,E.ds⟩ w next Q
def Q3m (E:Env)(ops:Array Oper)(o:Oper)(fr:Fr)(σ:St)(P:FV->St->Prop)(PP:List PanicEntry->St->Prop):Prop:=
 Q64 E ops o fr σ P∨(o.guard=none/\AStepRP E o fr σ P PP)
theorem Q3m.mono{E:Env}{ops:Array Oper}{o:Oper}{fr:Fr}{σ:St}{P Q:FV->St->Prop}{PP:List PanicEntry->St->Prop}(h:Q3m E ops o fr σ P PP)(hq:∀v σ',P v σ'->Q v σ'):Q3m E ops o fr σ Q PP:=by
 rcases h with h|⟨h1,h2⟩
 ·exact .inl (h.mono hq)
 ·exact .inr ⟨h1,fun F w C tmps hi hf next Q' hk hp=>h2 F w C tmps hi hf next Q' (fun u w' C' v σ' hP=>hk u w' C' v σ' (hq _ _ hP)) hp⟩
theorem Qdn{E:Env}{ops:Array Oper}{o:Oper}{fr:Fr}{σ:St}{P:FV->St->Prop}{PP:List PanicEntry->St->Prop}(h:Q3m E ops o fr σ P PP){F:Nat->Prop}{w:World}{C:Ctx}{tmps:Array Value}(hi:Inv E.Γ F w C σ)(hf:FrOk w C E.N fr tmps){i:Nat}(ho:ops[i]?=some o)
  {next:Act->World->Prop}{Q:Exit->Act->World->Prop}(hk:∀(u:Value) (w':World) (C':Ctx) (v:FV) (σ':St),P v σ'->Goes F (fun _=>True) w C w' C'->Inv E.Γ F w' C' σ'->RF w' C' v u->next (Act.put ⟨tmps,E.ds⟩ o.dst u) w')
  (hp:∀(ps:List PanicEntry) (w':World) (C':Ctx) (σ':St),PP ps σ'->Goes F (fun _=>True) w C w' C'->Inv E.Γ F w' C' σ'->Q (.panic ps) ⟨tmps,E.ds⟩ w'):wpOp E.P ops Q i next ⟨tmps,E.ds⟩ w:=by
 rcases h with h|⟨hg,h⟩
 ·exact Qa4 h hi hf ho hk
 ·unfold wpOp
  simp only[ho]
  rw[if_pos (by simp[Region.wanted,hg])]
  exact .inl (h F w C tmps hi hf next Q hk hp)
section
variable {E:Env}{l:List Oper}{frb:Fr}{n:Nat}{K:Cont}{J:Array Bool->St->(Nat->Option FV)->Prop}
theorem Ql9(hB:drawB l n=true)(hfb:(dsts (l.take n)).all (fun d=>(Fr.get d frb).isNone)=true)
  (hstep : ∀ (listed : Array Bool) (σ : St) (vals : Nat -> Option FV) (i : Nat) (o : Oper), i < n -> l[i]? = some o -> listed.getD i false = false -> listed.size = l.length -> (∀ e ∈ o.after.toList, Region.binds .any e = true -> listed.getD e.on false = true) -> J listed σ vals ->
   dstOk E.N o.dst=true/\Q3m E l.toArray o (Q0m l vals o++frb) σ (fun v σ'=>J (listed.setIfInBounds i true) σ' (updV vals i v)) (fun ps σ'=>K (.panic ps) frb σ'))
  (htail : ∀ σ vals, J (Q07 l.length n) σ vals -> AOps E l.toArray (l.drop n) K (Q0e vals 0 (l.take n) ++ frb) σ) {F : Nat -> Prop} {w0 : World} {C0 : Ctx} :
  ∀(c:Nat) (listed:Array Bool) (a:Act) (w:World),((List.range n).filter fun j=>!listed.getD j false).length=c->HeadInv .any l.toArray n listed->MidJ E l n frb J F w0 C0 listed a w->
   wpAny E.P .any l.toArray (Post E F w0 C0 K) (c+(l.length - n)) listed a w:=by
 simp only[drawB,Bool.and_eq_true,decide_eq_true_eq]at hB
 obtain⟨⟨⟨⟨⟨hn,hs⟩,hc⟩,hsq⟩,hdi⟩,haf⟩:=hB
 have hsz:l.toArray.size=l.length:=by simp
 intro c
 induction c with
 |zero=>
  intro listed a w hcnt hinv hmid
  have hall:∀j,j < n->listed.getD j false=true:=by
   intro j hj
   have:(List.range n).filter (fun j=>!listed.getD j false)=[]:=List.eq_nil_of_length_eq_zero hcnt
   have h2:=List.filter_eq_nil_iff.1 this j (List.mem_range.2 hj)
   simpa using h2
  have hl:listed=Q07 l.length n:=by
   apply Array.ext
   ·simp[Q07,hinv.size]
   ·intro j h1 h2
    have hj:j < l.length:=by simpa[Q07]using h2
    have h3:listed.getD j false=listed[j]:=by simp[h1]
    simp only[Q07,Array.getElem_map,Array.getElem_range]
    by_cases hjn:j < n
    ·rw[←h3,hall j hjn];simp[hjn]
    ·have:=hinv.tail j (by omega) (by rw[hsz];exact hj)
     rw[Q40 h1]at this
     rw[←h3,this];simp[hjn]
  have hdl:(l.drop n).length=l.length - n:=by simp
  rw[Nat.zero_add,←hdl]
  refine wpAny_of_seq (md:=.any) (l.drop n) n listed a w (fun j=>by simp[List.getElem?_drop]) (by rw[hl,hdl];exact hsq) ?_
  obtain⟨hd,C,σ,vals,hJ,hg,hi,hf,hv⟩:=hmid
  have ha:a=⟨a.tmps,E.ds⟩:=by cases a;simp_all
  rw[ha]
  rw[hl]at hJ
  refine htail σ vals hJ F w0 C0 w C a.tmps hg hi ⟨hf.1,fun k x hk=>?_⟩
  rcases Fr.get_append hk with hk|⟨_,hk⟩
  ·obtain⟨i,o,h1,h2,h3⟩:=Q3z (Fr.get_mem hk)
   rw[Nat.zero_add]at h3
   have hin:i < n:=by
    have:=(List.getElem?_eq_some_iff.1 h1).1
    simp at this;omega
   rw[List.getElem?_take_of_lt hin]at h1
   exact hv i o k x hin h1 h2 h3
  ·exact hf.2 k x hk
 |succ c ih=>
  intro listed a w hcnt hinv hmid
  -- some head is not listed
  have hex:∃i,i < n/\listed.getD i false=false/\∀j,j < i->listed.getD j false=true:=by
   have hne:∃i,i < n/\listed.getD i false=false:=by
    cases hL:(List.range n).filter (fun j=>!listed.getD j false) with
    |nil=>rw[hL]at hcnt;simp at hcnt
    |cons i L=>
     have:i∈(List.range n).filter (fun j=>!listed.getD j false):=by rw[hL];simp
     obtain⟨h1,h2⟩:=List.mem_filter.1 this
     exact⟨i,List.mem_range.1 h1,by simpa using h2⟩
   obtain⟨i,hi⟩:=hne
   induction i using Nat.strongRecOn with
   |_ i ih2=>
    by_cases h:∃j,j < i/\listed.getD j false=false
    ·obtain⟨j,hj,hj2⟩:=h
     exact ih2 j hj ⟨by omega,hj2⟩
    ·exact⟨i,hi.1,hi.2,fun j hj=>(Bool.not_eq_false _).mp (fun hb=>h ⟨j,hj,hb⟩)⟩
  obtain⟨i0,hi0n,hi0u,hi0m⟩:=hex
  have hready:i0∈Region.ready .any l.toArray listed:=by
   rw[mem_ready]
   have hlt:i0 < l.length:=by omega
   refine⟨by rw[Q40 (by rw[hinv.size,hsz];exact hlt)];exact hi0u,l[i0],by simp[hlt],fun e he hb=>?_⟩
   have h1:=List.all_eq_true.1 haf (l[i0],i0) (by
    rw[List.mem_zipIdx_iff_getElem?]
    rw[List.getElem?_take_of_lt hi0n]
    simp[hlt])
   have h2:=Array.all_eq_true_iff_forall_mem.1 h1 e he
   simp only[hb,Bool.not_true,Bool.false_or,decide_eq_true_eq]at h2
   exact hi0m _ h2
  rw[show c+1+(l.length - n)=(c+(l.length - n))+1 by omega]
  refine⟨fun h=>absurd hready (by rw[h];simp),fun i hi=>?_⟩
  have hi0t:listed.getD i0 true=false:=(mem_ready.1 hready).1
  have hin:i < n:=by
   rcases Nat.lt_or_ge i n with h|h
   ·exact h
   ·exact absurd hi (tail_waits hs hc (by rw[hsz];exact hn) hinv _ i0 rfl hi0n hi0t i h)
  obtain⟨hun,o,ho,hall⟩:=mem_ready.1 hi
  have hlo:l[i]?=some o:=by simpa using ho
  obtain⟨hd,C,σ,vals,hJ,hg,hinvw,hf,hvals⟩:=hmid
  have ha:a=⟨a.tmps,E.ds⟩:=by cases a;simp_all
  rw[ha]
  have huni:listed.getD i false=false:=getD_both hun
  have hil:i < listed.size:=by rw[hinv.size,hsz];omega
  have hlast:∀e∈o.after.toList,Region.binds .any e=true->e.on < n:=fun e he hb=>by
   have h1:=List.all_eq_true.1 haf (o,i) (by
    rw[List.mem_zipIdx_iff_getElem?]
    rw[List.getElem?_take_of_lt hin]
    simpa using hlo)
   have h2:=Array.all_eq_true_iff_forall_mem.1 h1 e (by simpa using he)
   simp only[hb,Bool.not_true,Bool.false_or,decide_eq_true_eq]at h2
   omega
  obtain⟨hdo,hst⟩:=hstep listed σ vals i o hin hlo huni (by rw[hinv.size,hsz]) (fun e he hb=>hall e (by simpa using he) hb) hJ
  have hfr:FrOk w C E.N (Q0m l vals o++frb) a.tmps:=by
   refine⟨hf.1,fun k x hk=>?_⟩
   rcases Fr.get_append hk with hk|⟨_,hk⟩
   ·have hm:=Fr.get_mem hk
    obtain⟨e,he,he2⟩:=List.mem_filterMap.1 hm
    cases hb:Region.binds .any e with
    |false=>rw[hb]at he2;cases he2
    |true=>
     rw[hb]at he2;simp only[cond_true]at he2
     cases h1:(l[e.on]?).bind (·.dst) with
     |none=>rw[h1]at he2;cases he2
     |some d=>
      cases h2:vals e.on with
      |none=>rw[h1,h2]at he2;cases he2
      |some v'=>
       rw[h1,h2]at he2;cases he2
       cases h3:l[e.on]? with
       |none=>rw[h3]at h1;cases h1
       |some oe=>
        rw[h3]at h1
        exact hvals e.on oe k x (hlast e he hb) h3 h1 h2
   ·exact hf.2 k x hk
  refine Qdn hst hinvw hfr ho (fun u w' C' v σ' hJ' hgo hi' hr=>?_) (fun ps w' C' σ' hps hgo hi'=>⟨rfl,frb,σ',C',hg.trans hgo.toO,hi',hf.ext hgo.chg,hps⟩)
  refine ih _ _ _ ?_ (hinv.set hi hin) ⟨put_defers ..,C',σ',_,hJ',hg.trans hgo.toO,hi',?_,fun j oj dj vj hj hoj hdj hvj=>?_⟩
  ·have h2:((List.range n).filter fun j=>!(listed.setIfInBounds i true).getD j false).length+1=((List.range n).filter fun j=>!listed.getD j false).length:=Q7g hin huni hil
   omega
  ·cases hdd:o.dst with
   |none=>exact hf.ext hgo.chg
   |some d=>
    refine⟨by simp[Act.put,hf.1],fun k x hk=>?_⟩
    obtain⟨u',hu',hr'⟩:=hf.2 k x hk
    have hne:d≠k:=by
     rintro rfl
     have h1:=List.all_eq_true.1 hfb d (List.mem_filterMap.2 ⟨o,List.mem_of_getElem? (i:=i) (by rw[List.getElem?_take_of_lt hin];exact hlo),hdd⟩)
     rw[hk]at h1;cases h1
    refine⟨u',?_,hr'.ext hgo.chg⟩
    simp only[Act.put]
    rw[Array.getElem?_setIfInBounds_ne hne];exact hu'
  ·by_cases e:i=j
   ·subst e
    rw[hlo]at hoj;cases hoj
    rw[updV,if_pos rfl]at hvj
    cases hvj
    have hdN:dj < a.tmps.size:=by
     rw[hf.1]
     rw[hdj]at hdo
     exact Nat.le_of_ble_eq_true (show Nat.ble (dj+1) E.N=true from hdo)
    exact⟨u,by rw[hdj];simp[Act.put,hdN],hr⟩
   ·simp only[updV,if_neg e]at hvj
    obtain⟨u',hu',hr'⟩:=hvals j oj dj vj hj hoj hdj hvj
    cases hdd:o.dst with
    |none=>exact⟨u',hu',hr'.ext hgo.chg⟩
    |some d=>
     have hne:d≠dj:=by
      rintro rfl
      exact e (Q1y hdi (by rw[List.getElem?_take_of_lt hin];exact hlo) (by rw[List.getElem?_take_of_lt hj];exact hoj) hdd hdj)
     refine⟨u',?_,hr'.ext hgo.chg⟩
     simp only[Act.put]
     rw[Array.getElem?_setIfInBounds_ne hne];exact hu'
def AAny (E:Env)(l:List Oper)(K:Cont)(fr:Fr)(σ:St):Prop:=
 ∀(F:Nat->Prop) (w0:World) (C0:Ctx) (w:World) (C:Ctx) (tmps:Array Value),Goes F isO w0 C0 w C->Inv E.Γ F w C σ->FrOk w C E.N fr tmps->wpAny E.P .any l.toArray (Post E F w0 C0 K) l.toArray.size (Array.replicate l.toArray.size false) ⟨tmps,E.ds⟩ w.drew
theorem AAny.code{fr:Fr}{σ0:St}{id:Nat}(hm:E.P.follows .mixedOrders=true)(h:AAny E l K fr σ0):ACode E (.region id l.toArray true) K fr σ0:=fun F w0 C0 w C tmps hg hi hf=>wp_region_any hm (h F w0 C0 w C tmps hg hi hf)
theorem AAny.drawJ2{fr:Fr}{σ0:St}(n:Nat)(J:Array Bool->St->(Nat->Option FV)->Prop)(hm:E.P.follows .mixedOrders=true)(hB:drawB l n=true)(hfb:Fr.woO (dsts (l.take n)) fr=some frb)(h0:J (Array.replicate l.length false) σ0 (fun _=>none))
  (hstep : ∀ (listed : Array Bool) (σ : St) (vals : Nat -> Option FV) (i : Nat) (o : Oper), i < n -> l[i]? = some o -> listed.getD i false = false -> listed.size = l.length -> (∀ e ∈ o.after.toList, Region.binds .any e = true -> listed.getD e.on false = true) -> J listed σ vals ->
   dstOk E.N o.dst=true/\Q3m E l.toArray o (Q0m l vals o++frb) σ (fun v σ'=>J (listed.setIfInBounds i true) σ' (updV vals i v)) (fun ps σ'=>K (.panic ps) frb σ'))
  (htail : ∀ σ vals, J (Q07 l.length n) σ vals -> AOps E l.toArray (l.drop n) K (Q0e vals 0 (l.take n) ++ frb) σ) : AAny E l K fr σ0 := by
 have h3:=Fr.woO_eq hfb
 intro F w0 C0 w C tmps hg hi hf
 have hn:n < l.length:=by
  simp only[drawB,Bool.and_eq_true,decide_eq_true_eq]at hB
  exact hB.1.1.1.1.1
 have h:=Ql9 (F:=F) (w0:=w0) (C0:=C0) (J:=J) hB (by rw[←h3];exact Fr.wo_none _ _) hstep htail n (Array.replicate l.toArray.size false) ⟨tmps,E.ds⟩ w.drew (by
   have:∀j,(!(Array.replicate l.toArray.size false).getD j false)=true:=fun j=>by rw[getD_replicate_false];rfl
   simp only[this];rw[List.filter_eq_self.2 (fun _ _=>rfl),List.length_range])
  ⟨by simp,fun j oj _ hl=>(by rw[getD_replicate_false]at hl;cases hl),fun t _ ht=>getD_in (by simpa using ht) (getD_replicate_false _ _)⟩
  ⟨rfl,C,σ0,fun _=>none,by simpa using h0,hg.trans (Goes.drew hi).toO,hi.drew.2,⟨hf.1,fun k x hk=>by
    obtain⟨u,hu,hr⟩:=hf.2 k x (by rw[←h3]at hk;exact (Fr.wo_get hk).1)
    exact⟨u,hu,hr.ext hi.drew.1⟩⟩,fun i o d v _ _ _ hv=>by cases hv⟩
 rw[show n+(l.length - n)=l.toArray.size by simp;omega]at h
 exact h
theorem AAny.drawS2{fr:Fr}{σ0:St}{hd tl:List Oper}(n:Nat)(S:List Nat)(vs:List FV)(M:(Nat->Option FV)->St->Prop)(hm:E.P.follows .mixedOrders=true)(hB:drawB l n=true)(hsp:Q35 n l=some (hd,tl))(hfb:Fr.woO (dsts hd) fr=some frb)(h0:M (fun _=>none) σ0)
  (hM : ∀ f σ, M f σ -> ∀ i, S.any (fun k => Nat.beq k i) = false -> f i = none)
  (hq : ∀ i o, i < n -> S.any (fun k => Nat.beq k i) = false -> l[i]? = some o -> ∃ v, vs[i]? = some v /\ dstOk E.N o.dst = true /\ (o.after.toList.all fun e => !Region.binds .any e || !(S.any fun k => Nat.beq k e.on)) = true /\ ∀ f σ, M f σ -> HStep E l.toArray o (depFr l vs o ++ frb) σ σ v)
  (hs : ∀ f σ i o, M f σ -> S.any (fun k => Nat.beq k i) = true -> l[i]? = some o -> f i = none -> (∀ e ∈ o.after.toList, Region.binds .any e = true -> S.any (fun k => Nat.beq k e.on) = true -> (f e.on).isSome = true) ->
   dstOk E.N o.dst=true/\Q3m E l.toArray o (Q0m l (mixV S vs f) o++frb) σ (fun v σ'=>M (updV f i v) σ') (fun ps σ'=>K (.panic ps) frb σ'))
  (htail:∀f σ,M f σ->(∀i∈S,i < n->(f i).isSome=true)->AOps E l.toArray tl K (Q0e (mixV S vs f) 0 hd++frb) σ):AAny E l K fr σ0:=by
 obtain⟨hsp1,hsp2⟩:=Q21 hsp
 subst hsp1;subst hsp2
 have depEq:∀(o:Oper) (v1 v2:Nat->Option FV),(∀e∈o.after.toList,Region.binds .any e=true->v1 e.on=v2 e.on)->Q0m l v1 o=Q0m l v2 o:=fun o v1 v2 h=>by
  unfold Q0m
  refine Q0t fun e he=>?_
  cases hb:Region.binds .any e with
  |false=>rfl
  |true=>simp only[cond_true];rw[h e he hb]
 refine AAny.drawJ2 n (fun listed σ vals=>listed.size=l.length/\∃f,M f σ/\(∀i,i < n->listed.getD i false=true->vals i=mixV S vs f i)/\(∀i,S.any (fun k=>Nat.beq k i)=true->listed.getD i false=(f i).isSome)) hm hB hfb
  ⟨by simp, _, h0, fun i _ h => absurd h (by rw [getD_replicate_false]; simp), fun i _ => by rw [getD_replicate_false]; rfl⟩ ?_ ?_
 ·intro listed σ vals i o hi hlo hun hsz hall ⟨_,f,hMf,hv,hf⟩
  have hn:n < l.length:=by
   have:=hB
   simp only[drawB,Bool.and_eq_true,decide_eq_true_eq]at this
   exact this.1.1.1.1.1
  have hset:∀(v:FV) j,(listed.setIfInBounds i true).getD j false=if i=j then true else listed.getD j false:=fun _ j=>by
   by_cases e:i=j
   ·subst e;simp[show i < listed.size by omega]
   ·rw[getD_set_ne false e,if_neg e]
  have hlast:∀e∈o.after.toList,Region.binds .any e=true->e.on < n:=fun e he hb=>by
   have hB2:=hB
   simp only[drawB,Bool.and_eq_true,decide_eq_true_eq]at hB2
   have h1:=List.all_eq_true.1 hB2.2 (o,i) (by
    rw[List.mem_zipIdx_iff_getElem?]
    rw[List.getElem?_take_of_lt hi]
    simpa using hlo)
   have h2:=Array.all_eq_true_iff_forall_mem.1 h1 e (by simpa using he)
   simp only[hb,Bool.not_true,Bool.false_or,decide_eq_true_eq]at h2
   omega
  have hdj:Q0m l vals o=Q0m l (mixV S vs f) o:=depEq o _ _ fun e he hb=>hv e.on (hlast e he hb) (hall e he hb)
  rw[hdj]
  cases hS:S.any (fun k=>Nat.beq k i) with
  |true=>
   have hfi:f i=none:=by
    have:=hf i hS
    rw[hun]at this
    cases h:f i with
    |none=>rfl
    |some v=>rw[h]at this;cases this
   obtain⟨k2,k3⟩:=hs f σ i o hMf hS hlo hfi fun e he hb hSe=>by rw[←hf _ hSe];exact hall e he hb
   refine⟨k2,k3.mono fun v σ' k4=>⟨by simp[hsz],updV f i v,k4,fun j hj hlj=>?_,fun j hj=>?_⟩⟩
   ·by_cases e:i=j
    ·subst e
     simp[mixV,hS,updV]
    ·rw[hset v,if_neg e]at hlj
     rw[updV,if_neg e,hv j hj hlj]
     simp only[mixV,updV,if_neg e]
   ·rw[hset v]
    by_cases e:i=j
    ·subst e;simp[updV]
    ·simp only[if_neg e,updV];exact hf j hj
  |false=>
   obtain⟨v,q1,q3,q4,q5⟩:=hq i o hi hS hlo
   have hdd:Q0m l (mixV S vs f) o=depFr l vs o:=by
    unfold Q0m depFr
    refine Q0t fun e he=>?_
    cases hb:Region.binds .any e with
    |false=>rfl
    |true=>
     have h1:=List.all_eq_true.1 q4 e he
     rw[hb]at h1
     simp only[Bool.not_true,Bool.false_or,Bool.not_eq_true']at h1
     simp only[cond_true,mixV,h1,cond_false]
     rfl
   rw[hdd]
   refine⟨q3,.inl (.inl ⟨v,σ,q5 f σ hMf,by simp[hsz],f,hMf,fun j hj hlj=>?_,fun j hj=>?_⟩)⟩
   ·by_cases e:i=j
    ·subst e
     rw[updV,if_pos rfl];simp only[mixV,hS,cond_false];exact q1.symm
    ·rw[hset v,if_neg e]at hlj
     rw[updV,if_neg e,hv j hj hlj]
   ·rw[hset v]
    by_cases e:i=j
    ·subst e;rw[hS]at hj;cases hj
    ·simp only[if_neg e];exact hf j hj
 ·intro σ vals ⟨_,f,hMf,hv,hf⟩
  have hn:n < l.length:=by
   have:=hB
   simp only[drawB,Bool.and_eq_true,decide_eq_true_eq]at this
   exact this.1.1.1.1.1
  have hl:∀j,j < n->(Q07 l.length n).getD j false=true:=fun j hj=>by
   have:j < (Q07 l.length n).size:=by simp[Q07];omega
   simp[Q07,show j < l.length by omega,hj]
  have heq:Q0e vals 0 (l.take n)=Q0e (mixV S vs f) 0 (l.take n):=by
   have:∀(os:List Oper) (k:Nat),k+os.length<=n->Q0e vals k os=Q0e (mixV S vs f) k os:=by
    intro os
    induction os with
    |nil=>intro k _;rfl
    |cons o os ih=>
     intro k hk
     simp only[List.length_cons]at hk
     simp only[Q0e]
     rw[hv k (by omega) (hl k (by omega)),ih (k+1) (by omega)]
   exact this _ 0 (by simp;omega)
  rw[heq]
  exact htail f σ hMf fun i hi hin=>by
   rw[←hf i (List.any_eq_true.2 ⟨i,hi,Q3h i⟩)]
   exact hl i hin
end
def Q1r (E:Env)(ops:Array Oper)(l:List Oper)(frb:Fr)(σ:St)(cs:List (Nat×FV)):Nat->List Oper->List FV->Option (List FV)
 |_,[],_=>some []
 |k,o::os,acc=>bif dstOk E.N o.dst then
   (match lookC k cs with
   |some v=>Q3g (acc++[v]) fun acc'=>(match Q1r E ops l frb σ cs (k+1) os acc' with|some vs=>some (v::vs)|none=>none)
   |none=>bif Q5n o.op then Q3g (depFr l acc o++frb) fun fr=>(match aHead E ops o fr σ with
    |some (v,_)=>Q3g (acc++[v]) fun acc'=>(match Q1r E ops l frb σ cs (k+1) os acc' with|some vs=>some (v::vs)|none=>none)
    |none=>none)else none)else none
theorem Q70{E:Env}{l:List Oper}{frb:Fr}{σ:St}{cs:List (Nat×FV)}{n:Nat}{vs:List FV}(hT:TabOk E.P E.T)(hall:∀k o,l[k]?=some o->k < n->o.after.all (fun e=>!Region.binds .any e||decide (e.on < k))=true):
  ∀(os:List Oper) (k:Nat) (acc ws:List FV),acc.length=k->(∀i o,os[i]?=some o->l[k+i]?=some o/\k+i < n)->Q1r E l.toArray l frb σ cs k os acc=some ws->acc++ws=vs->
  ∀i o,os[i]?=some o->∃v,ws[i]?=some v/\dstOk E.N o.dst=true/\(lookC (k+i) cs=some v∨(lookC (k+i) cs=none/\HStep E l.toArray o (depFr l vs o++frb) σ σ v))
 |[],k,acc,ws,_,_,_,_,i,o,hi=>by simp at hi
 |o::os,k,acc,ws,hl,hos,h,hv,i,o',hi=>by
  have ho:=hos 0 o rfl
  simp only[Nat.add_zero]at ho
  simp only[Q1r,Q13]at h
  cases hb:dstOk E.N o.dst with
  |false=>rw[hb]at h;cases h
  |true=>
   rw[hb]at h
   simp only[cond_true]at h
   have rest:∀{v:FV},(match Q1r E l.toArray l frb σ cs (k+1) os (acc++[v]) with|some vs=>some (v::vs)|none=>none)=some ws->(lookC k cs=some v∨(lookC k cs=none/\HStep E l.toArray o (depFr l vs o++frb) σ σ v))->
     ∃v,ws[i]?=some v/\dstOk E.N o'.dst=true/\(lookC (k+i) cs=some v∨(lookC (k+i) cs=none/\HStep E l.toArray o' (depFr l vs o'++frb) σ σ v)):=by
    intro v h hfirst
    split at h
    ·rename_i ws' hw
     simp only[Option.some.injEq]at h;subst h
     cases i with
     |zero=>
      simp at hi;subst hi
      exact⟨v,rfl,hb,hfirst⟩
     |succ i=>
      have:=Q70 hT hall os (k+1) (acc++[v]) ws' (by simp[hl]) (fun i o hi=>by have:=hos (i+1) o hi;rw[show k+1+i=k+(i+1) by omega];exact this) hw (by simpa using hv) i o' (by simpa using hi)
      rw[show k+1+i=k+(i+1) by omega]at this
      simpa using this
    ·cases h
   cases hc:lookC k cs with
   |some v=>
    rw[hc]at h
    exact rest h (.inl hc)
   |none=>
    rw[hc]at h
    simp only at h
    cases hp:Q5n o.op with
    |false=>rw[hp]at h;cases h
    |true=>
     rw[hp]at h
     simp only[cond_true]at h
     split at h
     ·rename_i v σ' ha
      have hdep:depFr l vs o=depFr l acc o:=by
       have:∃r,vs=acc++r:=⟨ws,hv.symm⟩
       obtain⟨r,rfl⟩:=this
       exact Q2v (by rw[hl];exact hall k o ho.1 ho.2)
      have hσ:σ'=σ:=by
       have key:∀{y:FV}{τ:St},(match aOp E.T E.Γ o.op (depFr l acc o++frb) σ with|some (some x,σ')=>some (x,σ')|_=>none)=some (y,τ)->τ=σ:=by
        intro y τ h
        split at h
        ·rename_i h1
         simp only[Option.some.injEq,Prod.mk.injEq]at h
         obtain⟨rfl,rfl⟩:=h
         exact Q63 hp h1
        ·cases h
       unfold aHead at ha
       split at ha
       ·exact key ha
       ·split at ha
        ·split at ha
         ·exact key ha
         ·exact key ha
         ·cases ha;rfl
         ·cases ha;rfl
         ·cases ha;rfl
         ·cases ha
        ·cases ha
      subst hσ
      have hs:=HStep.auto (ops:=l.toArray) hT ha
      rw[←hdep]at hs
      exact rest h (.inr ⟨hc,hs⟩)
     ·cases h
section
variable {E:Env}{l:List Oper}{frb:Fr}{K:Cont}
theorem AAny.drawC2{fr:Fr}{σ0:St}{hd tl:List Oper}{vs0:List FV}(hT:TabOk E.P E.T)(n:Nat)(S:List Nat)(cs:List (Nat×FV))(G:List FV->St->Prop)(hm:E.P.follows .mixedOrders=true)(hB:drawB l n=true)(hsp:Q35 n l=some (hd,tl))(hfb:Fr.woO (dsts hd) fr=some frb)
  (hn:S.Nodup) (hch:chainB l S=true) (hqb:Qev l S n=true) (h0:G [] σ0) (hrun0:Q1r E l.toArray l frb σ0 (S.map (fun i=>(i,FV.bot))++cs) 0 hd []=some vs0)
  (hrun : ∀ vs σ, G vs σ -> Q1r E l.toArray l frb σ (S.map (fun i => (i, FV.bot)) ++ cs) 0 hd [] = some vs0) (hcs : ∀ vs σ, G vs σ -> Q0n E l frb σ vs0 cs) (hSl : ∀ i ∈ S, i < n)
  (hs : ∀ vs σ, G vs σ -> ∀ i o, S[vs.length]? = some i -> l[i]? = some o -> dstOk E.N o.dst = true /\ Q3m E l.toArray o (Q0m l (mixV S vs0 (fC S vs)) o ++ frb) σ (fun v σ' => G (vs ++ [v]) σ') (fun ps σ' => K (.panic ps) frb σ'))
  (htail : ∀ vs σ, vs.length = S.length -> G vs σ -> AOps E l.toArray tl K (Q0e (mixV S vs0 (fC S vs)) 0 hd ++ frb) σ) : AAny E l K fr σ0 := by
 have hnl:n < l.length:=by
  have:=hB
  simp only[drawB,Bool.and_eq_true,decide_eq_true_eq]at this
  exact this.1.1.1.1.1
 have hlast:∀k o,l[k]?=some o->k < n->o.after.all (fun e=>!Region.binds .any e||decide (e.on < k))=true:=fun k o hk hkn=>by
  have hB2:=hB
  simp only[drawB,Bool.and_eq_true,decide_eq_true_eq]at hB2
  exact List.all_eq_true.1 hB2.2 (o,k) (by
   rw[List.mem_zipIdx_iff_getElem?,List.getElem?_take_of_lt hkn]
   simpa using hk)
 obtain⟨hsp1,hsp2⟩:=Q21 hsp
 refine AAny.drawS2 n S vs0 (fun f σ=>∃vs,vs.length<=S.length/\f=fC S vs/\G vs σ) hm hB hsp hfb ⟨[],by simp,by funext i;cases S <;> rfl,h0⟩ (fun f σ ⟨vs,_,hf,_⟩ i hi=>by rw[hf];exact Q8m hi) ?_ ?_ ?_
 ·intro i o hi hS hlo
  have hio:hd[i]?=some o:=by rw[←hsp1,List.getElem?_take_of_lt hi];exact hlo
  have key:∀vs σ,G vs σ->∃v,vs0[i]?=some v/\dstOk E.N o.dst=true/\HStep E l.toArray o (depFr l vs0 o++frb) σ σ v:=fun vs σ hG=>by
   obtain⟨v,h1,h3,h4⟩:=Q70 (vs:=vs0) hT hlast hd 0 [] vs0 rfl (fun i o hi=>by
    have hi2:i < n:=by
     have:=(List.getElem?_eq_some_iff.1 hi).1
     rw[←hsp1]at this;simp at this;omega
    rw[←hsp1,List.getElem?_take_of_lt hi2]at hi
    exact⟨by simpa using hi,by omega⟩) (hrun vs σ hG) (List.nil_append _) i o hio
   rw [Nat.zero_add] at h4
   refine⟨v,h1,h3,?_⟩
   rcases h4 with h4|h4
   ·have hl:lookC i cs=some v:=by
     have:∀{S:List Nat},(S.any fun k=>Nat.beq k i)=false->lookC i (S.map (fun i=>(i,FV.bot))++cs)=lookC i cs:=fun {S} hS=>by
      induction S with
      |nil=>rfl
      |cons s S ih=>
       simp only[List.any_cons,Bool.or_eq_false_iff]at hS
       simp only[List.map_cons,List.cons_append,lookC,hS.1,cond_false]
       exact ih hS.2
     rw[this hS]at h4;exact h4
    obtain⟨o',ho',hst⟩:=(hcs vs σ hG).get hl
    rw[hlo]at ho'
    cases ho'
    exact hst
   ·exact h4.2
  have hq:(o.after.toList.all fun e=>!Region.binds .any e||!(S.any fun k=>Nat.beq k e.on))=true:=by
   have h1:=List.all_eq_true.1 hqb (o,i) (by
    rw[List.mem_zipIdx_iff_getElem?,List.getElem?_take_of_lt hi]
    simpa using hlo)
   have h2:inS S i=false:=hS
   simp only[h2,Bool.false_or]at h1
   exact h1
  obtain⟨v,h1,h3,_⟩:=key [] σ0 h0
  refine⟨v,h1,h3,hq,fun f σ ⟨vs,_,_,hG⟩=>?_⟩
  obtain⟨v',h1',_,h4⟩:=key vs σ hG
  rw[h1]at h1'
  cases h1'
  exact h4
 ·rintro f σ i o ⟨vs,hlen,rfl,hG⟩ hS hlo hfi hdep
  obtain⟨s,hsS,he⟩:=List.any_eq_true.1 hS
  obtain rfl:s=i:=Nat.eq_of_beq_eq_true he
  obtain⟨p,hp⟩:=List.mem_iff_getElem?.1 hsS
  have hpS:=(List.getElem?_eq_some_iff.1 hp).1
  have hpv:p=vs.length:=by
   rcases Nat.lt_trichotomy p vs.length with h1|h1|h1
   ·rw[Q8l hn hp h1]at hfi
    have:=(List.getElem?_eq_none_iff.1 hfi);omega
   ·exact h1
   ·exfalso
    obtain⟨q,rfl⟩:∃q,p=q+1:=⟨p - 1,by omega⟩
    obtain⟨i0,hi0⟩:∃i0,S[q]?=some i0:=⟨S[q],List.getElem?_eq_getElem (by omega)⟩
    obtain⟨e,he,hb,heo⟩:=Q8s hch hi0 hp hlo
    have h2:=hdep e he hb (by rw[heo];exact List.any_eq_true.2 ⟨i0,List.mem_of_getElem? hi0,by simp⟩)
    rw[heo,Qa9 hn hi0 (by omega)]at h2
    cases h2
  subst hpv
  obtain⟨k2,k3⟩:=hs vs σ hG s o hp hlo
  exact⟨k2,k3.mono fun v σ' hG'=>⟨vs++[v],by simp;omega,fC_upd hn hp,hG'⟩⟩
 ·rintro f σ ⟨vs,hlen,rfl,hG⟩ hall
  refine htail vs σ ?_ hG
  rcases Nat.lt_or_ge vs.length S.length with h1|h1
  ·exfalso
   obtain⟨i0,hi0⟩:∃i0,S[vs.length]?=some i0:=⟨S[vs.length],List.getElem?_eq_getElem h1⟩
   have hm:=List.mem_of_getElem? hi0
   have:=hall i0 hm (hSl i0 hm)
   rw[Qa9 hn hi0 (Nat.le_refl _)]at this
   cases this
  ·omega
theorem ACode.drawC2{id:Nat}{fr:Fr}{σ0:St}{hd tl:List Oper}{vs0:List FV}(hT:TabOk E.P E.T)(n:Nat)(S:List Nat)(cs:List (Nat×FV))(G:List FV->St->Prop)(hm:E.P.follows .mixedOrders=true)(hB:drawB l n=true)(hsp:Q35 n l=some (hd,tl))(hfb:Fr.woO (dsts hd) fr=some frb)
  (hn:S.Nodup) (hch:chainB l S=true) (hqb:Qev l S n=true) (h0:G [] σ0) (hrun0:Q1r E l.toArray l frb σ0 (S.map (fun i=>(i,FV.bot))++cs) 0 hd []=some vs0)
  (hrun:∀vs σ,G vs σ->Q1r E l.toArray l frb σ (S.map (fun i=>(i,FV.bot))++cs) 0 hd []=some vs0) (hcs:∀vs σ,G vs σ->Q0n E l frb σ vs0 cs) (hSl:∀i∈S,i < n)
  (hs:∀vs σ,G vs σ->∀i o,S[vs.length]?=some i->l[i]?=some o->dstOk E.N o.dst=true/\Q3m E l.toArray o (Q0m l (mixV S vs0 (fC S vs)) o++frb) σ (fun v σ'=>G (vs++[v]) σ') (fun ps σ'=>K (.panic ps) frb σ'))
  (htail:∀vs σ,vs.length=S.length->G vs σ->AOps E l.toArray tl K (Q0e (mixV S vs0 (fC S vs)) 0 hd++frb) σ):ACode E (.region id l.toArray true) K fr σ0:=AAny.code hm (AAny.drawC2 hT n S cs G hm hB hsp hfb hn hch hqb h0 hrun0 hrun hcs hSl hs htail)
end
end Go.Abs
namespace Go.Abs
section
variable {E:Env}{o:Oper}{fr:Fr}{σ:St}{t t' T0 el yt:TypeId}{x y:Operand}
end

end Go.Abs
namespace Go.Abs
section
variable {E:Env}{l:List Oper}{frb:Fr}{K:Cont}
end
end Go.Abs
namespace Go.Abs
theorem Q5d{p:Id->Prop}{s cap:Nat}(es:List (List AC))(h:idsS p es):(AObj.cells (vec s es cap)).ids p:=by
 show idsL p (vec s es cap)
 refine Q5u.2 fun c hc=>?_
 unfold vec at hc
 rcases List.mem_append.1 hc with hc|hc
 ·obtain⟨x,hx,hcx⟩:=List.mem_flatten.1 hc
  exact Q5u.1 (Qfo.1 h x hx) c hcx
 ·obtain⟨_,rfl⟩:=List.mem_replicate.1 hc
  trivial
theorem Q17{ou:Outer}{k:Nat}{o:AObj}(h:OuOk ou)(ho:o.ids isO):OuOk (updO ou k o):=fun j x hx=>by
 by_cases e:k=j
 ·subst e;rw[Q04]at hx;cases hx;exact ho
 ·rw[Q05 _ e]at hx;exact h j x hx
end Go.Abs
namespace Go.Abs
end Go.Abs
namespace Go.Abs
theorem ACode.drawR1{E:Env}{id:Nat}{l:List Oper}{K:Cont}{fr frb:Fr}{σ0:St}{hd tl:List Oper}{vs0:List FV}{oal:Oper}(hT:TabOk E.P E.T)(n al:Nat)(cs:List (Nat×FV))(P:FV->St->Prop)(hm:E.P.follows .mixedOrders=true)(hB:drawB l n=true)(hsp:Q35 n l=some (hd,tl))(hfb:Fr.woO (dsts hd) fr=some frb)
  (hch:chainB l [al]=true) (hqb:Qev l [al] n=true) (hrun0:Q1r E l.toArray l frb σ0 ((al,.bot)::cs) 0 hd []=some vs0) (hal:l[al]?=some oal) (haln:Nat.blt al n=true) (hd1:dstOk E.N oal.dst=true)
  (hrunP:∀v σ,P v σ->Q1r E l.toArray l frb σ ((al,.bot)::cs) 0 hd []=some vs0) (hcs0:Q0n E l frb σ0 vs0 cs) (hcsP:∀v σ,P v σ->Q0n E l frb σ vs0 cs)
  (hs:Q3m E l.toArray oal (Q0m l (mixV [al] vs0 (fC [al] [])) oal++frb) σ0 P (fun ps σ'=>K (.panic ps) frb σ'))
  (htail:∀v σ,P v σ->AOps E l.toArray tl K (Q0e (mixV [al] vs0 (fC [al] [v])) 0 hd++frb) σ):ACode E (.region id l.toArray true) K fr σ0:=by
 refine ACode.drawC2 hT n [al] cs (fun vs σ=>match vs with|[]=>σ=σ0|[v]=>P v σ|_=>False) hm hB hsp hfb (by simp) hch hqb rfl hrun0 ?_ ?_ ?_ ?_ ?_
 ·intro vs σ h
  match vs with
  |[]=>subst h;exact hrun0
  |[v]=>exact hrunP v σ h
  |_::_::_=>exact h.elim
 ·intro vs σ h
  match vs with
  |[]=>subst h;exact hcs0
  |[v]=>exact hcsP v σ h
  |_::_::_=>exact h.elim
 ·intro i hi
  simp at hi;subst hi
  have:i+1<=n:=by simpa[Nat.blt]using haln
  omega
 ·intro vs σ h i o hi ho
  match vs with
  |[]=>
   subst h;cases hi
   rw[hal]at ho;cases ho
   exact⟨hd1,hs⟩
  |_::_=>cases hi
 ·intro vs σ hl h
  match vs,hl with
  |[v],_=>exact htail v σ h
end Go.Abs
namespace Go.Abs
theorem Qlv{P:Program}{T:Tab}{Γ:List (Nat×List AC)}{N:Nat}{fn:Func}{ds:List Deferred}{Q:FV->Outer->Prop}{F:Nat->Prop}{w w':World}{C C':Ctx}{ou:Outer}{fr':Fr}{σ':St}{tmps:Array Value}(hT:TabOk P T)(h0:C.nl=0)(hi:Inv Γ F w C ⟨0,[],ou⟩)
  (hgo:Goes F isO w C w' C') (hi':Inv Γ F w' C' σ') (hf':FrOk w' C' N fr' tmps) (h:Fin ⟨P,T,Γ,N,ds⟩ fn Q fr' σ'):∃v,(results fn tmps).run P w'=.ok v w'/\(∃v' r ou' C',Ending.returned v=.returned v'/\Goes F isO w C w' C'/\C'.nl=0/\Inv Γ F w' C' ⟨0,[],ou'⟩/\RF w' C' r v'/\Q r ou'):=by
 obtain⟨r,r',h1,h2,h3,h4,h5⟩:=h
 obtain⟨u,hu,hru⟩:=Qjx (tmps:=tmps) hT hi' hf' h1
 have hc:Chg isO w' C' w' { C' with nl:=0 }:=⟨fun _ _=>rfl,fun _ h=>h,fun i hp ho=>⟨by cases i with|l k=>cases hp|o k=>exact ho,rfl,rfl⟩⟩
 have hc0:∀i,C.ok i->isO i:=Q52 h0
 refine⟨u,hu,u,r',σ'.ou,{ C' with nl:=0 },rfl,⟨hgo.stp,hgo.chg.trans hc,hgo.no,hgo.newp⟩,rfl,⟨hi'.base,rfl,fun g cs hm=>?_,hi'.prot,fun i o ho=>?_,fun i j o o' g k1 k2 k3 k4=>?_⟩,RF.chg hc r' u h3 (h2 _ _ _ hru),h5⟩
 ·have:=hi.glob g cs hm
  have hids:=Q12 hc0 cs (RL.idsOk cs _ this.rl)
  exact RG.chg (hgo.chg.trans hc) hids this
 ·cases i with
  |l k=>cases ho
  |o k=>
   obtain⟨k1,k2⟩:=hi'.obj (.o k) o ho
   exact⟨k1,k2.ctx isO (h4 k o ho) trivial k1 hc (fun _ h=>h) (fun _ h=>h)⟩
 ·cases i with
  |l k=>cases k1
  |o k=>cases j with
   |l k=>cases k2
   |o k'=>
    have e1:=AObj.block_ctx (o:=o) isO (i:=.o k) trivial (hi'.obj (.o k) o k1).1 hc
    have e2:=AObj.block_ctx (o:=o') isO (i:=.o k') trivial (hi'.obj (.o k') o' k2).1 hc
    exact hi'.inj (.o k) (.o k') o o' g k1 k2 (by rw[←e1];exact k3) (by rw[←e2];exact k4)
end Go.Abs
namespace Go.Abs
abbrev Q47 (l:Nat):Fence:=Fence.wide.inRound l
theorem Qdx{l n:Nat}{P:Program}{f:FuncId}{args:Array Value}{w:World}{R:Ending->World->Prop}(h:Calls P f args w R):CallsIn (Q47 l) n P f args w R:=(callsIn_wide (n:=n)).2 h
theorem Qg8{l n:Nat}{P:Program}{row:String}{args:Array Value}{w:World}{R:Value->World->Prop}(h:Rows P row args w R):RowsIn (Q47 l) n P row args w R:=fun c cs _=>by
 obtain⟨v,w',r,s⟩:=h c cs
 exact⟨v,w',r,stepsIn_wide.2 s⟩
theorem Qgb{l n:Nat}{P:Program}{o:Oper}{a:Act}{w:World}{K:Act->World->Prop}{Q:Exit->Act->World->Prop}(hnd:∀c,o.op≠.defer c)(h:o.wp P a w K Q):o.wpIn (Q47 l) n P a w K Q:=by
 refine⟨fun _ _=>trivial,?_⟩
 rw[Oper.semAt_plain _ _ _ hnd]
 unfold Oper.wp at h
 generalize (execOp a.eval o).run P w=r at h
 have hd:(Q47 l).depth.isSome=true->1<=n:=fun e=>by simp[Q47,Fence.inRound,Fence.wide]at e
 cases r with
 |ok v w'=>
  cases v with
  |enter f args=>exact⟨hd,Qdx h⟩
  |row row args=>exact⟨hd,Qg8 h⟩
  |value v=>exact h
  |skip=>exact h
  |defer d=>exact h
  |_=>exact h.elim
 |halt s w'=>cases s <;> exact h
theorem Q3d{l n:Nat}{P:Program}{ops:Array Oper}{Q:Exit->Act->World->Prop}(hlo:¬LetsOut Q):∀(os:List Oper)(a:Act)(w:World),(∀o∈os,∀c,o.op≠.defer c)->wpList P ops Q os a w->wpListIn (Q47 l) n P ops Q os a w
 |[],_,_,_,h=>h
 |o::os,a,w,hnd,h=>by
  unfold wpList at h
  unfold wpListIn
  split
  ·rename_i hw
   rw[if_pos hw]at h
   rcases h with h|h
   ·exact Oper.wpIn_mono (fun a w h=>Q3d hlo os a w (fun o ho=>hnd o (by simp[ho])) h) (Qgb (hnd o (by simp)) h)
   ·exact absurd h.2 hlo
  ·rename_i hw
   rw[if_neg hw]at h
   exact⟨fun _ _=>trivial,Q3d hlo os _ w (fun o ho=>hnd o (by simp[ho])) h⟩
end Go.Abs
namespace Go.Abs
section
variable {E:Env}{l:List Oper}{fr frb:Fr}{K:Cont}{σ0:St}
end
end Go.Abs
namespace Go.Abs
def AIn (E:Env)(c:Code)(K:Cont)(fr:Fr)(σ:St):Prop:=
 ∀(F:Nat->Prop) (w0:World) (C0:Ctx) (w:World) (C:Ctx) (tmps:Array Value),Goes F isO w0 C0 w C->Inv E.Γ F w C σ->FrOk w C E.N fr tmps->∀r n,c.wpIn (Q47 r) n E.P (Post E F w0 C0 K) ⟨tmps,E.ds⟩ w
def Tame (K:Cont):Prop:=∀fr σ,¬K .outgrown fr σ
theorem Tame.lets{E:Env}{F:Nat->Prop}{w0:World}{C0:Ctx}{K:Cont}(h:Tame K):¬LetsOut (Post E F w0 C0 K):=fun ⟨a,w,_,fr,σ,_,_,_,_,hk⟩=>h fr σ hk
section
variable {E:Env}{l:List Oper}{fr:Fr}{K:Cont}{σ:St}
theorem AIn.region{id:Nat}(hK:Tame K)(hnd:∀o∈l,∀c,o.op≠.defer c)(h:AOps E l.toArray l K fr σ):AIn E (.region id l.toArray false) K fr σ:=fun F w0 C0 w C tmps hg hi hf r n=>wpIn_region_lit (Q3d hK.lets _ _ _ hnd (h F w0 C0 w C tmps hg hi hf))
def inBlk (id:Nat)(K:Cont):Cont:=fun e fr σ=>match e with
 |.exit j=>if j=id then K .normal fr σ else K (.exit j) fr σ
 |e=>K e fr σ
theorem AIn.block{id:Nat}{c:Code}(h:AIn E c (inBlk id K) fr σ):AIn E (.block id c) K fr σ:=fun F w0 C0 w C tmps hg hi hf r n=>by
 refine wpIn_block (wpIn_mono (h F w0 C0 w C tmps hg hi hf r n) fun e a w' ⟨hd,fr',σ',C',h1,h2,h3,hk⟩=>?_)
 cases e with
 |exit j=>
  simp only[inBlk]at hk
  simp only[Exit.inBlock]
  split
  ·rename_i e;rw[if_pos e]at hk;exact⟨hd,fr',σ',C',h1,h2,h3,hk⟩
  ·rename_i e;rw[if_neg e]at hk;exact⟨hd,fr',σ',C',h1,h2,h3,hk⟩
 |_=>exact⟨hd,fr',σ',C',h1,h2,h3,hk⟩
theorem Tame.inBlk{id:Nat}(h:Tame K):Tame (inBlk id K):=h
end
end Go.Abs
namespace Go.Abs
structure Trm (w:World)(C C':Ctx):Prop where
 prot:∀a u,w.cell? a=some u->C.prot a->C'.prot a
 id:∀i,C.ok i->C'.ok i/\C'.blk i=C.blk i/\C'.tok i=C.tok i
mutual
theorem R.trm{w:World}{C C':Ctx}(h:Trm w C C'):∀(c:AC)(v:Value),R w C c v->R w C' c v
 |.lit u,v,hr=>by simpa[R]using hr
 |.any,v,hr=>by simpa[R]using hr
 |.sl s es,v,hr=>by
  simp only[R]at *
  obtain⟨a,cap,rfl,hc,h2⟩:=hr
  refine⟨a,cap,rfl,hc,?_⟩
  rcases h2 with h2|⟨ad,rfl,hs,h2⟩
  ·exact .inl h2
  ·exact .inr ⟨ad,rfl,hs,RS.trm h s es ad h2⟩
 |.box cs,v,hr=>by
  simp only[R]at *
  obtain⟨ad,rfl,hs,h2⟩:=hr
  exact⟨ad,rfl,hs,RL.trm h cs ad h2⟩
 |.ptr i off,v,hr=>by
  simp only[R]at *
  obtain⟨ho,rfl⟩:=hr
  obtain⟨h1,h2,_⟩:=h.id i ho
  exact⟨h1,by rw[h2]⟩
 |.gs s es i,v,hr=>by
  simp only[R]at *
  obtain⟨ho,hr⟩:=hr
  obtain⟨h1,_,h3⟩:=h.id i ho
  refine⟨h1,?_⟩
  rcases hr with ⟨rfl,he,ht⟩|⟨g,cap,rfl,hc,ht,h2⟩
  ·exact .inl ⟨rfl,he,h3.trans ht⟩
  ·exact .inr ⟨g,cap,rfl,hc,h3.trans ht,RS.trm h s es _ h2⟩
 |.arr i s off len cap,v,hr=>by
  simp only[R]at *
  obtain⟨ho,rfl,hc⟩:=hr
  obtain⟨h1,h2,_⟩:=h.id i ho
  exact⟨h1,by rw[h2],hc⟩
 |.mp i,v,hr=>by
  simp only[R]at *
  obtain⟨ho,rfl⟩:=hr
  obtain⟨h1,h2,_⟩:=h.id i ho
  exact⟨h1,by rw[h2]⟩
 |.fn f first caps,v,hr=>by
  simp only[R]at *
  obtain⟨xs,ys,rfl,h1,h2⟩:=hr
  exact⟨xs,ys,rfl,RV.trm h first xs h1,RV.trm h caps ys h2⟩
 |.ifc t ag cs,v,hr=>by
  simp only[R]at *
  obtain⟨xs,h1,h2⟩:=hr
  exact⟨xs,RV.trm h cs xs h1,h2⟩
theorem RS.trm{w:World}{C C':Ctx}(h:Trm w C C')(s:Nat):∀(es:List (List AC))(ad:Addr),RS w C s es ad->RS w C' s es ad
 |[],_,_=>by simp[RS]
 |e::es,ad,hr=>by
  simp only[RS]at *
  exact⟨hr.1,RL.trm h e ad hr.2.1,RS.trm h s es _ hr.2.2⟩
theorem RL.trm{w:World}{C C':Ctx}(h:Trm w C C'):∀(cs:List AC)(ad:Addr),RL w C cs ad->RL w C' cs ad
 |[],_,_=>by simp[RL]
 |c::cs,ad,hr=>by
  simp only[RL]at *
  obtain⟨⟨u,hu,hp,hr⟩,h2⟩:=hr
  exact⟨⟨u,hu,h.prot _ _ hu hp,R.trm h c u hr⟩,RL.trm h cs _ h2⟩
theorem RV.trm{w:World}{C C':Ctx}(h:Trm w C C'):∀(cs:List AC)(vs:List Value),RV w C cs vs->RV w C' cs vs
 |[],_,hr=>by simpa[RV]using hr
 |c::cs,vs,hr=>by
  simp only[RV]at *
  obtain⟨u,us,rfl,h1,h2⟩:=hr
  exact⟨u,us,rfl,R.trm h c u h1,RV.trm h cs us h2⟩
end
mutual
theorem RF.trm{w:World}{C C':Ctx}(h:Trm w C C'):∀(x:FV)(v:Value),RF w C x v->RF w C' x v
 |.bot,v,_=>by simp[RF]
 |.one c,v,hr=>by simp only[RF]at *;exact R.trm h c v hr
 |.agg cs,v,hr=>by
  simp only[RF]at *
  obtain⟨xs,rfl,h2⟩:=hr
  exact⟨xs,rfl,RV.trm h cs xs h2⟩
 |.tup vs,v,hr=>by
  simp only[RF]at *
  obtain⟨xs,rfl,h2⟩:=hr
  exact⟨xs,rfl,RFs.trm h vs xs h2⟩
theorem RFs.trm{w:World}{C C':Ctx}(h:Trm w C C'):∀(vs:List FV)(xs:List Value),RFs w C vs xs->RFs w C' vs xs
 |[],xs,hr=>by simpa[RFs]using hr
 |v::vs,xs,hr=>by
  simp only[RFs]at *
  obtain⟨u,us,rfl,h1,h2⟩:=hr
  exact⟨u,us,rfl,RF.trm h v u h1,RFs.trm h vs us h2⟩
end
theorem FrOk.trm{w:World}{C C':Ctx}{N:Nat}{fr:Fr}{tmps:Array Value}(h:Trm w C C')(hf:FrOk w C N fr tmps):FrOk w C' N fr tmps:=⟨hf.1,fun k x hk=>let ⟨u,hu,hr⟩:=hf.2 k x hk;⟨u,hu,RF.trm h x u hr⟩⟩
def Q6v (w:World)(k:Nat):Prop:=∃o:Obj,w.heap[k]?=some o/\o.isCells=true
def Q1v (σ:St):Prop:=∀i o,σ.get i=some o->match o with|.cells _=>True|.tok _ _ _=>True|.dead=>True|_=>False
theorem Inv.trm{Γ:List (Nat×List AC)}{F:Nat->Prop}{w:World}{C C':Ctx}{σ:St}(hi:Inv Γ F w C σ)(h:Trm w C C')(hnl:C'.nl=C.nl)(hp:∀a,C'.prot a->C.prot a∨¬Q6v w a.block)(hlt:∀a,C'.prot a->a.block < w.heap.size)(hg:∀g cs,(g,cs)∈Γ->C'.prot ⟨g,cs.length,none⟩)(hpl:Q1v σ):Inv Γ F w C' σ:=by
 refine⟨hi.base,hnl.trans hi.next,fun g cs hm=>?_,hlt,fun i o ho=>?_,fun i j o o' g ho ho' hb hb'=>?_⟩
 ·have:=hi.glob g cs hm
  exact⟨RL.trm h cs _ this.rl,this.fin,hg g cs hm⟩
 ·obtain⟨h1,h2⟩:=hi.obj i o ho
  obtain⟨e1,e2,e3⟩:=h.id i h1
  refine⟨e1,?_⟩
  have hpo:=hpl i o ho
  cases o with
  |cells cs=>
   obtain⟨xs,T,g1,g2,g3,g4⟩:=h2
   refine⟨xs,T,by rw[e2];exact g1,by rw[e2];exact g2,RV.trm h cs xs g3,fun a ha hpa=>?_⟩
   rw[e2]at ha
   rcases hp a hpa with h3|h3
   ·exact g4 a ha h3
   ·exact h3 ⟨_,by rw[ha];exact g1,rfl⟩
  |tok e s used=>
   unfold ObjOk at h2 ⊢
   rw[e3]
   cases ht:C.tok i with
   |none=>rw[ht]at h2;exact h2
   |some p=>
    obtain⟨g,cap⟩:=p
    rw[ht]at h2
    obtain⟨xs,g1,g2,g3,g4,g5,g6⟩:=h2
    refine⟨xs,g1,g2,g3,g4,g5,fun a ha hpa=>?_⟩
    rcases hp a hpa with h3|h3
    ·exact g6 a ha h3
    ·exact absurd ⟨_,by rw[ha];exact g1,rfl⟩ h3
  |dead=>trivial
  |map ck es=>exact hpo.elim
  |iter m since seen last=>exact hpo.elim
  |sit s pos=>exact hpo.elim
 ·have bl:∀i o,σ.get i=some o->o.block C' i=o.block C i:=fun i o ho=>by
   obtain⟨e1,e2,e3⟩:=h.id i (hi.obj i o ho).1
   cases o <;> simp[AObj.block,e2,e3]
  rw[bl i o ho]at hb
  rw[bl j o' ho']at hb'
  exact hi.inj i j o o' g ho ho' hb hb'
end Go.Abs
namespace Go.Abs
def ProtB (B:Nat)(w:World)(C:Ctx):Prop:=∀a,C.prot a->a.block < B∨Q6v w a.block
def trimB (B:Nat)(w:World)(C:Ctx):Ctx:={ C with prot:=fun a=>C.prot a/\(a.block < B∨Q6v w a.block) }
theorem Qh1{w:World}{a:Addr}{u:Value}(h:w.cell? a=some u):Q6v w a.block:=by
 unfold World.cell? at h
 cases ho:w.heap[a.block]? with
 |none=>rw[ho]at h;cases h
 |some o=>
  rw[ho]at h
  cases o with
  |cells c t f=>exact⟨_,ho,rfl⟩
  |_=>cases h
theorem Q5f(B:Nat)(w:World)(C:Ctx):Trm w C (trimB B w C):=⟨fun a u hu hp=>⟨hp,.inr (Qh1 hu)⟩,fun i h=>⟨h,rfl,rfl⟩⟩
theorem Q67(B:Nat)(w:World)(C:Ctx):ProtB B w (trimB B w C):=fun a h=>h.2
theorem Inv.trimB{Γ:List (Nat×List AC)}{F:Nat->Prop}{w:World}{C:Ctx}{σ:St}(hi:Inv Γ F w C σ)(B:Nat)(hpl:Q1v σ)(hg:∀g cs,(g,cs)∈Γ->g < B):Inv Γ F w (trimB B w C) σ:=
 hi.trm (Q5f B w C) rfl (fun a h=>.inl h.1) (fun a h=>hi.prot a h.1) (fun g cs hm=>⟨(hi.glob g cs hm).pr,.inl (hg g cs hm)⟩) hpl
theorem Goes.trimB{F:Nat->Prop}{w0 w:World}{C0 C:Ctx}(h:Goes F isO w0 C0 w C){B:Nat}(hB:∀a,C0.prot a->a.block < B):Goes F isO w0 C0 w (trimB B w C):=
 ⟨h.stp,⟨h.chg.cell,fun a ha=>⟨h.chg.prot a ha,.inl (hB a ha)⟩,h.chg.id⟩,h.no,fun a ha=>h.newp a ha.1⟩
section
variable {B:Nat}{w w':World}{row:Option Nat}(hg:w.grownBy w' row)(hr:∀r,row=some r->B<=r/\∃o:Obj,w.heap[r]?=some o/\o.isCells=false)
include hg hr
theorem Q5k{k:Nat}(hk:k < B)(hB:B<=w.heap.size):w'.heap[k]?=w.heap[k]?:=hg.block k (by omega) (fun e=>by have:=(hr k e.symm).1;omega)
theorem Q7q{k:Nat}(hk:Q6v w k):w'.heap[k]?=w.heap[k]?:=by
 obtain⟨o,ho,hc⟩:=hk
 refine hg.block k (Q0b ho) (fun e=>?_)
 obtain⟨_,o',ho',hc'⟩:=hr k e.symm
 rw[ho]at ho';cases ho';rw[hc]at hc';cases hc'
theorem Qkk{C:Ctx}(hB:B<=w.heap.size)(hp:ProtB B w C){a:Addr}(ha:C.prot a):w'.heap[a.block]?=w.heap[a.block]?:=(hp a ha).elim (fun h=>Q5k hg hr h hB) (Q7q hg hr)
theorem ProtB.rowed{C:Ctx}(hB:B<=w.heap.size)(hp:ProtB B w C):ProtB B w' C:=fun a ha=>(hp a ha).imp id fun ⟨o,ho,hc⟩=>⟨o,(Q7q hg hr ⟨o,ho,hc⟩).trans ho,hc⟩
theorem Ext.rowed{C:Ctx}(hB:B<=w.heap.size)(hp:ProtB B w C):Ext w C w' C:=⟨fun a ha=>by unfold World.cell?;rw[Qkk hg hr hB hp ha],fun a ha=>ha,fun i _ ho=>⟨ho,rfl,rfl⟩⟩
theorem Goes.rowed{F:Nat->Prop}{w0:World}{C0 C:Ctx}(h:Goes F isO w0 C0 w C)(hB:B<=w.heap.size)(h0:w0.heap.size<=B)(hF:∀k,F k->k < B)(hp0:∀a,C0.prot a->a.block < B):Goes F isO w0 C0 w' C :=
 ⟨⟨hg.os.trans h.stp.os, hg.tape.trans h.stp.tape, hg.output.trans h.stp.output, Nat.le_trans h.stp.size hg.size, fun k hk => (Q5k hg hr (hF k hk) hB).trans (h.stp.block k hk), fun a ha => (World.frozen?_of_block (Q5k hg hr (by omega) hB)).trans (h.stp.frozen a ha)⟩,
  ⟨fun a ha=>(World.cell?_of_block (Q5k hg hr (hp0 a ha) hB)).trans (h.chg.cell a ha),h.chg.prot,h.chg.id⟩,h.no,h.newp⟩
theorem Inv.rowed{Γ:List (Nat×List AC)}{F:Nat->Prop}{C:Ctx}{σ:St}(hi:Inv Γ F w C σ)(hB:B<=w.heap.size)(hp:ProtB B w C)(hpl:Q1v σ):Inv Γ F w' C σ:=by
 have he:=Ext.rowed hg hr hB hp
 refine⟨fun k hk=>Nat.lt_of_lt_of_le (hi.base k hk) hg.size,hi.next,fun g cs h=>(hi.glob g cs h).ext he,fun a ha=>Nat.lt_of_lt_of_le (hi.prot a ha) hg.size,fun i o h=>?_,hi.inj⟩
 obtain⟨h1,h2⟩:=hi.obj i o h
 have hpo:=hpl i o h
 refine⟨h1,h2.keep he h1 (fun g x hx1 hx=>?_) (fun a _ _ ha=>ha)⟩
 refine (Q7q hg hr ?_).trans hx
 cases o with
 |cells cs=>
  obtain⟨xs,T,g1,_⟩:=h2
  simp only[AObj.block,Option.some.injEq]at hx1
  subst hx1
  exact⟨_,g1,rfl⟩
 |tok e s used=>
  unfold ObjOk at h2
  simp only[AObj.block]at hx1
  cases ht:C.tok i with
  |none=>rw[ht]at hx1;cases hx1
  |some p=>
   obtain⟨g',cap⟩:=p
   rw[ht]at hx1 h2
   simp at hx1
   subst hx1
   obtain⟨ys,g1,_⟩:=h2
   exact⟨_,g1,rfl⟩
 |dead=>cases hx1
 |map ck es=>exact hpo.elim
 |iter m since seen last=>exact hpo.elim
 |sit s pos=>exact hpo.elim
end
end Go.Abs
namespace Go.Abs
def Q11 (F:Nat->Prop)(w:World):Nat->Prop:=fun k=>F k∨∃o:Obj,w.heap[k]?=some o/\o.isCells=false
theorem Inv.keepF{Γ:List (Nat×List AC)}{F F':Nat->Prop}{w:World}{C:Ctx}{σ:St}(hi:Inv Γ F w C σ)(hb:∀k,F' k->k < w.heap.size)(hF:∀i o g,σ.get i=some o->o.block C i=some g->F' g->False):Inv Γ F' w C σ:=
 ⟨hb,hi.next,hi.glob,hi.prot,fun i o h=>⟨(hi.obj i o h).1,(hi.obj i o h).2.memo (hF i o · h)⟩,hi.inj⟩
theorem Inv.blockCells{Γ:List (Nat×List AC)}{F:Nat->Prop}{w:World}{C:Ctx}{σ:St}(hi:Inv Γ F w C σ)(hpl:Q1v σ){i:Id}{o:AObj}{g:Nat}(h:σ.get i=some o)(hb:o.block C i=some g):Q6v w g/\¬F g:=by
 obtain⟨h1,h2⟩:=hi.obj i o h
 have hpo:=hpl i o h
 cases o with
 |cells cs=>
  obtain⟨xs,T,g1,g2,_⟩:=h2
  simp only[AObj.block,Option.some.injEq]at hb
  subst hb
  exact⟨⟨_,g1,rfl⟩,g2⟩
 |tok e s used=>
  unfold ObjOk at h2
  simp only[AObj.block]at hb
  cases ht:C.tok i with
  |none=>rw[ht]at hb;cases hb
  |some p=>
   obtain⟨g',cap⟩:=p
   rw[ht]at hb h2
   simp at hb
   subst hb
   obtain⟨ys,g1,g2,_⟩:=h2
   exact⟨⟨_,g1,rfl⟩,g2⟩
 |dead=>cases hb
 |map ck es=>exact hpo.elim
 |iter m since seen last=>exact hpo.elim
 |sit s pos=>exact hpo.elim
theorem Inv.intoRound{Γ:List (Nat×List AC)}{F:Nat->Prop}{w:World}{C:Ctx}{σ:St}(hi:Inv Γ F w C σ)(hpl:Q1v σ):Inv Γ (Q11 F w) w C σ:=by
 refine hi.keepF (fun k hk=>hk.elim (hi.base k) fun ⟨o,ho,_⟩=>Q0b ho) fun i o g h hb hF=>?_
 obtain⟨⟨o',ho',hc'⟩,hn⟩:=hi.blockCells hpl h hb
 rcases hF with hF|⟨o2,ho2,hc2⟩
 ·exact hn hF
 ·rw[ho']at ho2;cases ho2;rw[hc']at hc2;cases hc2
theorem Inv.outOfRound{Γ:List (Nat×List AC)}{F:Nat->Prop}{w w':World}{C:Ctx}{σ:St}(hi:Inv Γ (Q11 F w) w' C σ)(hpl:Q1v σ):Inv Γ F w' C σ:=
 hi.keepF (fun k hk=>hi.base k (.inl hk)) fun i o g h hb hF=>(hi.blockCells hpl h hb).2 (.inl hF)
theorem Goes.outOfRound{F:Nat->Prop}{w w':World}{C C':Ctx}(h:Goes (Q11 F w) isO w C w' C'):Goes F isO w C w' C':=⟨h.stp.mono fun k hk=>.inl hk,h.chg,h.no,fun a ha=>(h.newp a ha).imp id fun hn hF=>hn (.inl hF)⟩
theorem Goes.keepsFrom{F:Nat->Prop}{w w':World}{C C':Ctx}(h:Goes (Q11 F w) isO w C w' C')(B:Nat):KeepsFrom B w w':=⟨h.stp.size,fun k o _ ho hc=>(h.stp.block k (.inr ⟨o,ho,hc⟩)).trans ho⟩
theorem Goes.keepsWalks{F:Nat->Prop}{w w':World}{C C':Ctx}(h:Goes (Q11 F w) isO w C w' C'):KeepsWalks w w':=⟨h.stp.size,fun k o ho hw=>(h.stp.block k (.inr ⟨o,ho,Obj.not_cells_of_walk hw⟩)).trans ho⟩
end Go.Abs
namespace Go.Abs
def KpC (C:Ctx)(A B:World):Prop:=KeepsWalks A B/\∀a,C.prot a->B.cell? a=A.cell? a
end Go.Abs
namespace Go.Abs
def Owes (Γ:List (Nat×List AC))(F:Nat->Prop)(w:World)(C:Ctx)(Q:FV->Outer->Prop):Ending->World->Prop:=fun e w'=>
 ∃v r ou' C',e=.returned v/\Goes F isO w C w' C'/\C'.nl=0/\Inv Γ F w' C' ⟨0,[],ou'⟩/\RF w' C' r v/\Q r ou'
theorem AFn.ofMarks{P:Program}{Γ:List (Nat×List AC)}{g:Nat}{fn:Func}{c:Code}{args:List FV}{ou:Outer}{Q:FV->Outer->Prop}(hf:P.funcs[g]?=some fn)(hb:fn.body=some c)(hname:(fn.name == "runtime.NumGoroutine")=false)
  (hlen : args.length <= fn.ntmps)
  (h : OuOk ou -> ∀ (F : Nat -> Prop) (w : World) (C : Ctx) (tmps : Array Value), C.nl = 0 -> Inv Γ F w C ⟨0, [], ou⟩ -> FrOk w C fn.ntmps (argFr 0 args) tmps -> c.wp P (bodyPostM Fence.wide 0 P fn (Owes Γ F w C Q)) ⟨tmps, []⟩ w) : AFn P Γ g args ou Q := by
 refine⟨fun vs0 w=>?_,fun F w C cargs h0 hi hr=>?_⟩
 ·simp[callFunc,hf,hb]
  simpa using hname
 ·have hcl:cargs.length=args.length:=by
   have:∀(vs:List FV) (xs:List Value),RFs w C vs xs->xs.length=vs.length:=by
    intro vs
    induction vs with
    |nil=>intro xs h;simp only[RFs]at h;simp[h]
    |cons v vs ih=>intro xs h;simp only[RFs]at h;obtain⟨u,us,rfl,_,h2⟩:=h;simp[ih us h2]
   exact this _ _ hr
  have hfr:FrOk w C fn.ntmps (argFr 0 args) (cargs.toArray++Array.replicate (fn.ntmps - cargs.toArray.size) undef):=by
   refine⟨by simp;omega,fun k x hk=>?_⟩
   obtain⟨_,h2⟩:=Q8w args 0 k x hk
   simp only[Nat.sub_zero]at h2
   obtain⟨u,hu,hru⟩:=RFs.get hr h2
   refine⟨u,?_,hru⟩
   have hlt:k < cargs.length:=(List.getElem?_eq_some_iff.1 hu).1
   rw[Array.getElem?_append_left (by simpa using hlt)]
   simpa using hu
  exact callsIn_wide.1 (callsIn_of_wp_marks (n:=0) hf hb trivial (wpIn_wide.2 (h (OuOk.of_inv hi h0) F w C _ h0 hi hfr)))
end Go.Abs
namespace Go.Abs
def noFin:Fr->St->Prop:=fun _ _=>False
section
variable {E:Env}{F:Nat->Prop}{w0:World}{C0:Ctx}{Z:Exit->Act->World->Prop}{fr:Fr}{σ:St}
end
end Go.Abs
namespace Go.Abs
theorem wpIn_assign{P:Program}{o:Oper}{x:Operand}{id l n d:Nat}{t:Array Value}{W:World}{K:Act->World->Prop}(ho:o.op=.assign x)(hg:o.guard=none)(hd:o.dst=some d)(h:K ⟨t.setIfInBounds d (Act.eval ⟨t,[]⟩ x),[]⟩ W):
  (Code.region id #[o] false).wpIn (Q47 l) n P (Exit.then K (fun _ _ _=>False)) ⟨t,[]⟩ W:=by
 refine wpIn_region_lit (l:=[o]) (Q3d ?_ _ _ _ ?_ ?_)
 ·rintro⟨a,w,h⟩;exact h
 ·simp[ho]
 ·refine wpList_plain hg fun N' hN=>?_
  unfold Oper.wp
  rw[show (execOp (Act.eval ⟨t,[]⟩) o).run P W=.ok (.value (Act.eval ⟨t,[]⟩ x)) W from by unfold execOp;simp[ho]]
  rw[Oper.upon_value]
  refine hN _ _ ?_
  rw[hd]
  exact h
theorem Qlw{P:Program}{g:Nat}{fn:Func}{c:Code}(hf:P.funcs[g]?=some fn)(hb:fn.body=some c)(hname:(fn.name == "runtime.NumGoroutine")=false)(args:Array Value)(w:World):(callFunc g args).run P w=.ok (.enter g args) w:=by
 simp[callFunc,hf,hb]
 simpa using hname
end Go.Abs
namespace Go.Abs
theorem RV.setC{w:World}{C:Ctx}{a b:AC}(hab:∀v,R w C a v->R w C b v):∀{cs:List AC}{off:Nat}{xs:List Value},RV w C cs xs->cs[off]?=some a->RV w C (cs.set off b) xs
 |[],_,_,_,h=>by simp at h
 |c::cs,0,xs,⟨x,xs',e,h1,h2⟩,h=>by
  simp only[List.getElem?_cons_zero,Option.some.injEq]at h
  subst h
  exact⟨x,xs',e,hab x h1,h2⟩
 |c::cs,off+1,xs,⟨x,xs',e,h1,h2⟩,h=>by
  simp only[List.getElem?_cons_succ]at h
  exact⟨x,xs',e,h1,RV.setC hab h2 h⟩
end Go.Abs
namespace Go.Abs
theorem Q10(n:Nat)(lo:List (Nat×AObj))(ou:Outer)(k:Nat)(o:AObj):St.set ⟨n,lo,ou⟩ (.o k) o=⟨n,lo,updO ou k o⟩:=by
 have:(fun j=>bif Nat.beq j k then some o else ou j)=updO ou k o:=by
  funext j
  by_cases e:k=j
  ·subst e;rw[Q04];simp
  ·rw[Q05 _ e,Q09 (fun h=>e h.symm)];rfl
 show St.mk n lo (fun j=>bif Nat.beq j k then some o else ou j)=_
 rw[this]
end Go.Abs
namespace Go.Abs
theorem AStep.andU{E:Env}{o:Oper}{fr:Fr}{σ:St}{t yt:TypeId}{x y:Operand}{a b:Nat}(ha:a < 18446744073709551616)(hb:b < 18446744073709551616)(ho:o.op=.binOp .and t x y yt)(hx:aEval E.Γ fr x=some (.one (.lit (.int .u64 (a:Int)))))(hy:aEval E.Γ fr y=some (.one (.lit (.int .u64 (b:Int))))):AStep E o fr σ (.one (.lit (.int .u64 ((a &&& b:Nat):Int)))) σ:=by
 refine AStep.quiet fun F w C tmps hi hf=>⟨.int .u64 ((a &&& b:Nat):Int),?_,rfl,rfl⟩
 have h1:=Q01 (a:=⟨tmps,E.ds⟩) hi hf hx
 have h2:=Q01 (a:=⟨tmps,E.ds⟩) hi hf hy
 simp only[RF,R]at h1 h2
 unfold execOp
 simp only[ho,h1.1,h2.1,eqGuard_at_int,Sem.run_bind,Sem.run_pure,Result.andThen_ok]
 rw[←bits_and_u64_nat a b ha hb]
 rfl
end Go.Abs
namespace Go.CoreX
structure Alt where
 tag:Int
 binds:List Int
 deriving DecidableEq
structure Ex where
 op:Int
 n:Int
 binds:List Int
 kids:List Int
 alts:List Alt
 deriving DecidableEq
inductive Tr where
 |mk (op n:Int) (binds:List Int) (kids:List Tr) (alts:List Alt)
instance:Inhabited Tr:=⟨.mk 0 0 [] [] []⟩
def Tr.op:Tr->Int|.mk o _ _ _ _=>o
def Tr.n:Tr->Int|.mk _ n _ _ _=>n
def Tr.binds:Tr->List Int|.mk _ _ b _ _=>b
def Tr.kids:Tr->List Tr|.mk _ _ _ k _=>k
def Tr.alts:Tr->List Alt|.mk _ _ _ _ a=>a
@[simp] theorem Tr.op_mk (o n b k a):(Tr.mk o n b k a).op=o:=rfl
@[simp] theorem Tr.n_mk (o n b k a):(Tr.mk o n b k a).n=n:=rfl
@[simp] theorem Tr.binds_mk (o n b k a):(Tr.mk o n b k a).binds=b:=rfl
@[simp] theorem Tr.kids_mk (o n b k a):(Tr.mk o n b k a).kids=k:=rfl
@[simp] theorem Tr.alts_mk (o n b k a):(Tr.mk o n b k a).alts=a:=rfl

def Q30 (ts:List Tr)(x:Ex):Tr:=.mk x.op x.n x.binds (x.kids.map fun k=>ts.getD k.toNat default) x.alts
def Qfp (ts:List Tr)(x:Ex):List Tr:=ts++[Q30 ts x]
def growL (e:List Ex):List Tr:=e.foldl Qfp []
def grow (e:List Ex):Tr:=(growL e).getD (e.length - 1) default

mutual
def listT (out:List Ex):Tr->List Ex
 |.mk o n b k a=>(Q02 out k).1++[⟨o,n,b,(Q02 out k).2,a⟩]
def Q02 (out:List Ex):List Tr->List Ex×List Int
 |[]=>(out,[])
 |t::ts=>((Q02 (listT out t) ts).1,(((listT out t).length:Int) - 1)::(Q02 (listT out t) ts).2)
end

def Q08 (op:Int)(binds:List Int)(alts:List Alt):List Int:=(if op=2∨op=4∨op=5 then binds else [])++alts.flatMap (·.binds)
def Q1c (op:Int)(binds:List Int)(alts:List Alt)(k:Int):List Int:=
 if op=2∨op=5∨(op=4/\k=1)then binds else if 0 < (alts.length:Int)/\0 < k/\k<=alts.length then (alts.getD (k - 1).toNat ⟨0,[]⟩).binds else []

def Q1e (i:Nat)(s:Option (List Int×List Int))(k:Int):Option (List Int×List Int):=
 s.bind fun dp=>if k < 0∨(i:Int)<=k then none else some (dp.1.set i (if dp.1.getD k.toNat 0 > dp.1.getD i 0 then dp.1.getD k.toNat 0 else dp.1.getD i 0),dp.2.set k.toNat (dp.2.getD k.toNat 0+1))
def Q1q (s:Option (List Int×List Int))(x:Ex×Nat):Option (List Int×List Int):=
 (x.1.kids.foldl (Q1e x.2) s).map fun dp=>(dp.1.set x.2 (dp.1.getD x.2 0+1),dp.2)
def Q49 (e:List Ex):Option (List Int×List Int):=e.zipIdx.foldl Q1q (some (List.replicate e.length 0,List.replicate e.length 0))
def Q22 (n:Nat)(p:List Int)(i:Nat):Bool:=!((p.getD i 0==1)==decide ((i:Int) < n - 1))
def Q1n (e:List Ex):Int:=
 if 4096 < e.length then 2 else if e.length=0 then 3 else
 match Q49 e with
 |none=>3
 |some (d,p)=>if (List.range e.length).any (Q22 e.length p)=true then 3 else if 400 < d.getD (e.length - 1) 0 then 2 else 0

def between (n low high:Int):Bool:=decide (low<=n)&&decide (n<=high)
def Q5x (op:Int):Bool:=op==14||op==15||op==16
def Q7h (op:Int):Bool:=op==2||op==5||op==12||op==13
def Q3i (x:Ex)(i:Nat)(a:Alt):Bool:=
 ((x.alts.take i).any (fun b=>b.tag==a.tag)||decide (a.tag < -1)) ||
 (x.op==7&&a.tag==-1&&(decide ((i:Int) < x.alts.length - 1)||decide (0 < a.binds.length))) ||
 ((x.op==13&&!(((i:Int)==0)==(a.tag==-1)))||(x.op==13&&!((a.binds.length:Int)==(if 2 < (i:Int)+1 then 2 else (i:Int)+1))))
def Q3s (x:Ex):Bool:=!(x.alts.zipIdx.any fun ai=>Q3i x ai.2 ai.1)&&((x.kids.length:Int)==1+x.alts.length&&(x.op==7||decide (0 < x.alts.length)))
def Q61:List Int:=[2,2,2,2,2,2,2,1,2,1,2,3]
def wants (x:Ex):Option (Int×Int×Bool):=
 if x.op=0∨x.op=1∨x.op=17 then some (0,0,true) else
 if x.op=2 then some (1,x.binds.length,false) else
 if x.op=3 then some (if (x.kids.length:Int) > 1 then x.kids.length else 1,0,false) else
 if x.op=4 then some (2,1,false) else
 if x.op=5 then some (x.binds.length+1,if (x.binds.length:Int) > 1 then x.binds.length else 1,false) else
 if x.op=6 then some (x.kids.length,0,true) else
 if x.op=8 then (if between x.n 0 11=true then some (Q61.getD x.n.toNat 0,0,true)else none) else
 if x.op=9 then some (x.binds.length,x.binds.length,false) else
 if x.op=10∨x.op=12 then some (1,0,true) else
 if x.op=11 then some (2,0,true) else
 if x.op=14∨x.op=15 then some (x.kids.length,0,true) else
 if x.op=16 then some (1,0,true)else none
def shape (x:Ex):Bool:=
 if x.op=7∨x.op=13 then Q3s x&&x.binds.length==0&&x.n==0 else
 match wants x with
 |none=>false
 |some (k,b,u)=>(x.kids.length:Int)==k&&(x.binds.length:Int)==b&&x.alts.length==0&&(u||x.n==0)
def lowN (op:Int):Int:=if op=1 then -1073741824 else if op=17 then 1 else 0
def highN (op:Int):Int:=if op=1 then 1073741823 else if op=6 then 255 else if op=17 then 6 else if op=16 then 15 else 1048575
def Q20 (n:Int):Bool:=between n 0 1048575
def Q28 (op:Int)(a:Alt):Bool:=!((decide (255 < a.tag)&&op==7)||decide (1048576<=a.tag))&&a.binds.all Q20
def fields (x:Ex):Int:=x.alts.foldl (fun f a=>if (a.binds.length:Int) > f then a.binds.length else f) x.binds.length
def ranges (x:Ex):Int:=
 if between x.n (lowN x.op) (highN x.op)=false then 4 else
 if x.binds.all Q20=false then 4 else
 if x.alts.all (Q28 x.op)=false then 4 else
 if ((decide (fields x > (if x.op=2 then 6 else 16))||((x.op==6||x.op==15)&&decide (16 < (x.kids.length:Int))))||(x.op==3&&decide (7 < (x.kids.length:Int))))||(x.op==14&&decide (6 < (x.kids.length:Int)))then 2 else 0
def Q1i (e:List Ex)(x:Ex)(i:Nat):Bool:=
 (x.op==5&&!((e.getD (x.kids.getD i 0).toNat ⟨0,0,[],[],[]⟩).op==2))||(x.op==9&&decide (0 < i)&&decide (x.binds.getD (i - 1) 0 ≥ x.binds.getD i 0))
def Q1o (e:List Ex)(x:Ex):Int:=
 if shape x=false then 3 else if ranges x≠0 then ranges x else if (List.range x.binds.length).any (Q1i e x)=true then 3 else 0
def Q0d (flat:Bool)(e:List Ex)(x:Ex):Int:=if (flat&&Q7h x.op)||(!flat&&Q5x x.op)then 3 else Q1o e x
def Q1g {α:Type}(f:α->Int):List α->Int
 |[]=>0
 |a::l=>if f a≠0 then f a else Q1g f l

def Q4k:List Int->Bool
 |[]=>false
 |n::l=>l.contains n||Q4k l
def Q0r (x:Ex):List Int:=Q08 x.op x.binds x.alts
def Q06 (e:List Ex):List Int:=e.flatMap Q0r

mutual
def occT (sc:List Int):Tr->List Int
 |.mk o n b k a=>(if o=0/\sc.contains n=false then [n]else [])++occTs sc o b a 0 k
def occTs (sc:List Int)(o:Int)(b:List Int)(a:List Alt):Nat->List Tr->List Int
 |_,[]=>[]
 |i,t::ts=>occT (Q1c o b a i++sc) t++occTs sc o b a (i+1) ts
end
def Q4i (n:Int):List Int->List Int
 |[]=>[n]
 |m::l=>if n < m then n::m::l else if n=m then m::l else m::Q4i n l
def sortS (l:List Int):List Int:=l.foldr Q4i []
def Q3a (t:Tr):List Int:=sortS (occT [] t)

def body (e:List Ex)(params:List Int)(flat:Bool):Int:=
 if Q1n e≠0 then Q1n e else
 if Q1g (Q0d flat e) e≠0 then Q1g (Q0d flat e) e else
 if Q4k (params++Q06 e)=true then 7 else
 if (Q3a (grow e)).all (fun n=>params.contains n)=true then 0 else 6
def check (e:List Ex):Int:=body e [] false
end Go.CoreX
