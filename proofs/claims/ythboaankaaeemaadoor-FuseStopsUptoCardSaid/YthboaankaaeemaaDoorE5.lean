/- The abstract layer, part Am: a value boxed and written no more; the bits of numbers. No condition. -/
import Derived.Test.YthboaankaaeemaaDoorE4
import Derived.Shelf.GgSortFunc.InsertionK
import Derived.Lib.Overlaps
import Derived.Lib.AppendZerosOnto
set_option maxRecDepth 10000
set_option linter.unusedVariables false
set_option linter.unusedSimpArgs false
namespace Go.Abs
def bI (v:BitVec 64):Int:=IntKind.i64.wrap v.toNat
def orI (a b:Int):Int:=bI (BitVec.ofInt 64 a ||| BitVec.ofInt 64 b)
def anI (a b:Int):Int:=bI (BitVec.ofInt 64 a &&& ~~~BitVec.ofInt 64 b)
def subI (a b:Int):Prop:=BitVec.ofInt 64 a &&& ~~~BitVec.ofInt 64 b=0#64
theorem subI.an{a b:Int}(h:subI a b):anI a b=0:=by
 unfold anI;rw[h];decide
theorem bv_sub{a b:BitVec 64}:a &&& ~~~b=0#64↔a ||| b=b:=by
 constructor
 ·intro h
  ext i hi
  have:=congrArg (fun v:BitVec 64=>v.getLsbD i) h
  simp[hi]at this ⊢
  simp only[←BitVec.getLsbD_eq_getElem]at *
  cases ha:a.getLsbD i <;> simp_all
 ·intro h
  ext i hi
  have:=congrArg (fun v:BitVec 64=>v.getLsbD i) h
  simp[hi]at this ⊢
  simp only[←BitVec.getLsbD_eq_getElem]at *
  cases ha:a.getLsbD i <;> simp_all
theorem subI.trans{a b c:Int}(h:subI a b)(k:subI b c):subI a c:=by
 unfold subI at *
 rw[bv_sub]at *
 rw[←k,←BitVec.or_assoc,h]
section
variable {E:Env}{o:Oper}{fr:Fr}{σ:St}
end
end Go.Abs
namespace Go.Abs
open Go.Sort Go.Proofs
set_option linter.unusedSectionVars false
section
variable {α:Type} [Inhabited α]
end
end Go.Abs
namespace Go.Abs
def oaC (k s:Nat)(es:List (List AC)):Option Nat->AC
 |none=>.lit (.slice none 0 0)
 |some cap=>.arr (.l k) s 0 es.length cap
def oaO (s:Nat)(es:List (List AC)):Option Nat->AObj
 |none=>.dead
 |some cap=>.cells (vec s es cap)
def coO (es:List (List AC)):Option Nat->Prop
 |none=>es=[]
 |some cap=>es.length<=cap
section
variable {E:Env}{ops:Array Oper}{l rest:List Oper}{K:Cont}{fr:Fr}{σ:St}
theorem Inv.ghost{Γ:List (Nat×List AC)}{F:Nat->Prop}{w:World}{C:Ctx}(hi:Inv Γ F w C σ):∃C',Ext w C w C'/\C'.no=C.no/\(∀a,C'.prot a↔C.prot a)/\Inv Γ F w C' (σ.push .dead):=by
 have hn:=Ctx.more_new C 0 none hi.next
 have he:Ext w C w (C.more 0 none):=⟨fun _ _=>rfl,fun _ h=>h,fun i _ hok=>Ctx.more_old C 0 none hok⟩
 refine⟨C.more 0 none,he,rfl,fun a=>Iff.rfl,?_⟩
 refine hi.addObj (o:=.dead) (d:=.l σ.n) (fun i=>St.get_push σ _ i) he ?_ hi.base hi.prot (fun _ _ _ _ _ _ h=>h) (fun _ _ _ _ _ _ h=>h) hn.1 trivial (fun _ _ _ _ _ h=>by cases h)
 show C.nl+1=σ.n+1
 rw[hi.next]
theorem ACode.ghost{c:Code}(h:ACode E c K fr (σ.push .dead)):ACode E c K fr σ:=by
 intro F w0 C0 w C tmps hg hi hf
 obtain⟨C',h1,h2,h3,h4⟩:=hi.ghost
 exact h F w0 C0 w C' tmps (hg.trans ⟨Stp.refl _ _,h1.weaken (fun _ _=>trivial),by rw[h2];exact Nat.le_refl _,fun a ha=>.inl ((h3 a).1 ha)⟩) h4 (hf.ext h1)
theorem AOps.appG{o:Oper}{dd:Nat}{t:TypeId}{ti tj:TI}{x y:Operand}{d:AC}{s k:Nat}{es news:List (List AC)}{oc:Option Nat}(hT:TabOk E.P E.T)(hgd:o.guard=none)(hdst:o.dst=some dd)(hdd:Nat.ble (dd+1) E.N=true)
  (ho:o.op=.call { callee:=.builtin .append,args:=#[x,y],argTypes:=#[t,t] }) (ht:Tab.get t E.T=some ti) (hk:Nat.beq ti.kind 2=true) (hj:Tab.get ti.elem E.T=some tj) (hx:aEval E.Γ fr x=some (.one (oaC k s es oc))) (hy:aEval E.Γ fr y=some (.one d))
  (hg:σ.get (.l k)=some (oaO s es oc)) (hco:coO es oc) (hl:∀x∈es,x.length=s) (hsrc:Src d s news) (hne:news≠[])
  (hs : Nat.beq tj.size s = true) (hbytes : (es.length + news.length) * tj.bytes <= 140737488355328) (h63 : es.length + news.length <= 140737488355328)
  (h : ∀ cap, (es ++ news).length <= cap -> AOps E ops rest K ((dd, .one (oaC σ.n s (es ++ news) (some cap))) :: fr) ((σ.set (.l k) .dead).push (oaO s (es ++ news) (some cap)))) : AOps E ops (o :: rest) K fr σ := by
 cases oc with
 |none=>
  simp only[coO]at hco
  subst hco
  refine AOps.appOwn hT hgd hdst hdd ho ht hk hj hx hy (.nil s) hsrc hne hs hbytes h63 fun cap hc=>?_
  refine AOps.lessO ((σ.set (.l k) .dead).push (oaO s ([]++news) (some cap))) rfl (fun i q hq=>?_) (h cap hc)
  rw[St.get_push]at hq ⊢
  split
  ·rename_i e
   rw[if_pos (by rw[e];rfl)]at hq
   exact hq
  ·rename_i e
   rw[if_neg (by intro e2;exact e e2)]at hq
   by_cases e3:(Id.l k)=i
   ·subst e3
    rw[St.get_set_same]at hq
    rw[hg,←hq];rfl
   ·rw[St.get_set_ne _ e3]at hq;exact hq
 |some cap=>
  exact AOps.appOwn hT hgd hdst hdd ho ht hk hj hx hy (.own s cap es (.l k) hg hl hco) hsrc hne hs hbytes h63 h
end
theorem Q17{E:Env}{Fin:Fr->St->Prop}{k k':List AItem}(h:∀e fr σ,Q03 E Fin k e fr σ->Q03 E Fin k' e fr σ):∀(pre:List AItem)(e:Exit)(fr:Fr)(σ:St),Q03 E Fin (pre++k) e fr σ->Q03 E Fin (pre++k') e fr σ
 |[],e,fr,σ,hc=>h e fr σ hc
 |.code c::pre,e,fr,σ,hc=>by
  cases e with
  |normal=>exact ACode.monoK (show ACode E c (Q03 E Fin (pre++k)) fr σ from hc) (Q17 h pre)
  |_=>exact Q17 h pre _ fr σ hc
 |.blk id::pre,e,fr,σ,hc=>by
  cases e with
  |normal=>exact Q17 h pre _ fr σ hc
  |exit j=>
   simp only[List.cons_append,Q03]at hc ⊢
   cases hb:Nat.beq j id with
   |true=>rw[hb]at hc;exact Q17 h pre _ fr σ hc
   |false=>rw[hb]at hc;exact Q17 h pre _ fr σ hc
  |_=>exact Q17 h pre _ fr σ hc
 |.inv J::pre,e,fr,σ,hc=>by
  cases e with
  |normal=>exact hc
  |_=>exact Q17 h pre _ fr σ hc
 |.pan J::pre,e,fr,σ,hc=>by
  cases e with
  |panic ps=>exact hc
  |_=>exact Q17 h pre _ fr σ hc
section
variable {E:Env}{ops:Array Oper}{l:List Oper}{x y:Code}{Fin:Fr->St->Prop}{k:List AItem}{α:Type}{fr:Fr}{σ:St}
theorem Qhi(hΓ:∀g cs,(g,cs)∈E.Γ->idsL isO cs){frI:α->Fr}{σI:α->St}{I:α->Prop}(hy:∀a,I a->ACode E y (Q03 E Fin k) (frI a) (σI a))(e:Exit)(fr:Fr)(σ:St)
  (h:Q03 E Fin (.inv (fun fr' σ'=>∃a ρ,I a/\LessR ρ fr' σ' (frI a) (σI a))::k) e fr σ):Q03 E Fin (.code y::k) e fr σ:=by
 cases e with
 |normal=>
  obtain⟨a,ρ,ha,hl⟩:=h
  exact ACode.lessR hΓ hl (hy a ha)
 |_=>exact h
theorem ACode.cutP(pre:List AItem)(hΓ:∀g cs,(g,cs)∈E.Γ->idsL isO cs)(frI:α->Fr)(σI:α->St)(I:α->Prop)
  (hx:ACode E x (Q03 E Fin (pre++.inv (fun fr' σ'=>∃a ρ,I a/\LessR ρ fr' σ' (frI a) (σI a))::k)) fr σ) (hy:∀a,I a->ACode E y (Q03 E Fin k) (frI a) (σI a)):ACode E x (Q03 E Fin (pre++.code y::k)) fr σ:=
 ACode.monoK hx (Q17 (Qhi hΓ hy) pre)
theorem ACode.cutN{its:List AItem}(n:Nat)(hn:its.drop n=.code y::k)(hΓ:∀g cs,(g,cs)∈E.Γ->idsL isO cs)(frI:α->Fr)(σI:α->St)(I:α->Prop)
  (hx:ACode E x (Q03 E Fin (its.take n++.inv (fun fr' σ'=>∃a ρ,I a/\LessR ρ fr' σ' (frI a) (σI a))::k)) fr σ) (hy:∀a,I a->ACode E y (Q03 E Fin k) (frI a) (σI a)):ACode E x (Q03 E Fin its) fr σ:=by
 have h:=ACode.cutP (its.take n) hΓ frI σI I hx hy
 rwa [←hn,List.take_append_drop]at h
end
@[simp] theorem ren_oaC (ρ:Nat->Nat) (k s:Nat) (es:List (List AC)) (oc:Option Nat):(oaC k s es oc).ren ρ=oaC (ρ k) s es oc:=by cases oc <;> rfl
theorem Qa8(ρ:Nat->Nat)(s:Nat)(es:List (List AC))(oc:Option Nat)(h:∀cap,idsL isO (vec s es cap)):(oaO s es oc).ren ρ=oaO s es oc:=by
 cases oc with
 |none=>rfl
 |some cap=>exact AObj.ren_pure ρ (.cells (vec s es cap)) (h cap)
@[simp] theorem ids_oaC (n k s:Nat) (es:List (List AC)) (oc:Option Nat):(oaC k s es oc).ids (inL n)↔(oc=none∨inL n (.l k)):=by cases oc <;> simp[oaC,AC.ids]
theorem Q2g{p:Id->Prop}{s cap:Nat}{es:List (List AC)}(h:idsS p es):idsL p (vec s es cap):=by
 unfold vec
 refine Q6r.2 fun c hc=>?_
 rcases List.mem_append.1 hc with hc|hc
 ·obtain⟨e,he,hc⟩:=List.mem_flatten.1 hc
  exact Q6r.1 (Qj6.1 h e he) c hc
 ·rw[List.mem_replicate]at hc
  rw[hc.2];trivial
theorem Qh3{p:Id->Prop}{s:Nat}{es:List (List AC)}{oc:Option Nat}(h:idsS p es):(oaO s es oc).ids p:=by
 cases oc with
 |none=>trivial
 |some cap=>exact Q2g h
theorem FrSub.oa{ρ:Nat->Nat}{fr r:Fr}{d k k' s:Nat}{es:List (List AC)}{oc:Option Nat}(h:Fr.get d fr=some (.one (oaC k' s es oc)))(hk:k'=ρ k)(hr:FrSub ρ fr r):FrSub ρ fr ((d,.one (oaC k s es oc))::r):=
 FrSub.cons h (.ofEq (by subst hk;simp only[FV.ren,ren_oaC])) hr
theorem AStep.appNil{E:Env}{o:Oper}{fr:Fr}{σ:St}{t:TypeId}{ti tj:TI}{x y:Operand}{s:Nat}(hT:TabOk E.P E.T)(ho:o.op=.call { callee:=.builtin .append,args:=#[x,y],argTypes:=#[t,t] })(ht:Tab.get t E.T=some ti)(hk:Nat.beq ti.kind 2=true)(hj:Tab.get ti.elem E.T=some tj)
  (hx:aEval E.Γ fr x=some (.one (.lit (.slice none 0 0)))) (hy:aEval E.Γ fr y=some (.one (.sl s []))):AStep E o fr σ (.one (.lit (.slice none 0 0))) σ:=by
 refine AStep.quiet fun F w C tmps hi hf=>?_
 have h1:=Q02 (a:=⟨tmps,E.ds⟩) hi hf hx
 have h2:=Q02 (a:=⟨tmps,E.ds⟩) hi hf hy
 simp only[RF,R,Nat.zero_mul]at h1 h2
 obtain⟨hv,hc⟩:=h1
 obtain⟨a,c,hv2,_,_⟩:=h2
 have hu:=(hT t ti ht).slice (Nat.eq_of_beq_eq_true hk)
 obtain⟨i0,dd,z,g1,g2,g3,g4,g5,g6,g7,g8⟩:=(hT _ _ hj).ex
 refine⟨.slice none 0 0,?_,by simp only[RF,R];exact⟨trivial,rfl⟩⟩
 unfold execOp
 simp only[ho,resolve,invoke,builtin,Sem.run_bind,Sem.run_pure,Result.andThen_ok,List.map_toArray,List.map_cons,List.map_nil,hv,hv2]
 cases a with
 |none=>simp[Builtin.append_,run_underlying hu,sizeOf,typeInfo,g1,Builtin.lenOf,Builtin.firstCells,storeCells]
 |some a=>simp[Builtin.append_,run_underlying hu,sizeOf,typeInfo,g1,Builtin.lenOf,Builtin.firstCells,storeCells,loadCells,loadCellsFrom]
theorem AOps.appG0{E:Env}{ops:Array Oper}{rest:List Oper}{K:Cont}{fr:Fr}{σ:St}{o:Oper}{dd:Nat}{t:TypeId}{ti tj:TI}{x y:Operand}{s k:Nat}{es:List (List AC)}{oc:Option Nat}(hT:TabOk E.P E.T)(hgd:o.guard=none)(hdst:o.dst=some dd)(hdd:Nat.ble (dd+1) E.N=true)
  (ho:o.op=.call { callee:=.builtin .append,args:=#[x,y],argTypes:=#[t,t] }) (ht:Tab.get t E.T=some ti) (hk:Nat.beq ti.kind 2=true) (hj:Tab.get ti.elem E.T=some tj) (hx:aEval E.Γ fr x=some (.one (oaC k s es oc))) (hy:aEval E.Γ fr y=some (.one (.sl s [])))
  (h:AOps E ops rest K ((dd,.one (oaC k s es oc))::fr) σ):AOps E ops (o::rest) K fr σ:=by
 cases oc with
 |none=>exact AOps.step1 hgd hdst hdd (AStep.appNil hT ho ht hk hj hx hy) h
 |some cap=>exact AOps.step1 hgd hdst hdd (AStep.appNone hT ho ht hk hj hx hy) h
end Go.Abs
namespace Go.Abs
section
variable {θ:Id->Id}
mutual
theorem AC.sub_f(hθ:∀i:Id,isO i->θ i=i):∀c:AC,c.ids isO->c.sub θ=c
 |.lit _,_=>rfl
 |.any,_=>rfl
 |.sl s es,h=>by simp only[AC.ids]at h;simp only[AC.sub];rw[Qg2 hθ es h]
 |.box cs,h=>by simp only[AC.ids]at h;simp only[AC.sub];rw[Q67 hθ cs h]
 |.ptr i off,h=>by simp only[AC.ids]at h;simp only[AC.sub];rw[hθ i h]
 |.gs s es i,h=>by simp only[AC.ids]at h;simp only[AC.sub];rw[hθ i h.1,Qg2 hθ es h.2]
 |.arr i s off len cap,h=>by simp only[AC.ids]at h;simp only[AC.sub];rw[hθ i h]
 |.mp i,h=>by simp only[AC.ids]at h;simp only[AC.sub];rw[hθ i h]
 |.fn f a b,h=>by simp only[AC.ids]at h;simp only[AC.sub];rw[Q67 hθ a h.1,Q67 hθ b h.2]
 |.ifc t ag cs,h=>by simp only[AC.ids]at h;simp only[AC.sub];rw[Q67 hθ cs h]
theorem Qg2(hθ:∀i:Id,isO i->θ i=i):∀es:List (List AC),idsS isO es->subS θ es=es
 |[],_=>rfl
 |e::es,h=>by simp only[idsS]at h;simp only[subS];rw[Q67 hθ e h.1,Qg2 hθ es h.2]
theorem Q67(hθ:∀i:Id,isO i->θ i=i):∀cs:List AC,idsL isO cs->subL θ cs=cs
 |[],_=>rfl
 |c::cs,h=>by simp only[idsL]at h;simp only[subL];rw[AC.sub_f hθ c h.1,Q67 hθ cs h.2]
end
mutual
theorem FV.sub_f(hθ:∀i:Id,isO i->θ i=i):∀x:FV,x.ids isO->x.sub θ=x
 |.bot,_=>rfl
 |.one c,h=>by simp only[FV.ids]at h;simp only[FV.sub];rw[AC.sub_f hθ c h]
 |.agg cs,h=>by simp only[FV.ids]at h;simp only[FV.sub];rw[Q67 hθ cs h]
 |.tup vs,h=>by simp only[FV.ids]at h;simp only[FV.sub];rw[subF_f hθ vs h]
theorem subF_f(hθ:∀i:Id,isO i->θ i=i):∀vs:List FV,idsF isO vs->subF θ vs=vs
 |[],_=>rfl
 |v::vs,h=>by simp only[idsF]at h;simp only[subF];rw[FV.sub_f hθ v h.1,subF_f hθ vs h.2]
end
theorem AObj.sub_f(hθ:∀i:Id,isO i->θ i=i)(o:AObj)(h:o.ids isO):o.sub θ=o:=by
 cases o with
 |cells cs=>simp only[AObj.sub];rw[Q67 hθ cs h]
 |map ck es=>
  simp only[AObj.sub]
  congr 1
  rw[List.map_congr_left (g:=id),List.map_id]
  intro x hx
  have:=h x hx
  obtain⟨a,b,c⟩:=x
  simp only[FV.sub_f hθ c this,id]
 |iter m a b d=>simp only[AObj.sub];rw[hθ m h]
 |sit s q=>rfl
 |tok e s u=>rfl
 |dead=>rfl
end
def posOf (i:Nat):List Nat->Option Nat
 |[]=>none
 |j::r=>bif Nat.beq i j then some 0 else match posOf i r with|some p=>some (p+1)|none=>none
theorem Q8r:∀{js:List Nat}{i p:Nat},posOf i js=some p->js[p]?=some i
 | [], i, p, h => by cases h
 |j::r,i,p,h=>by
  simp only[posOf]at h
  by_cases e:i=j
  ·subst e
   simp at h;subst h;rfl
  ·rw[Q09 e]at h
   cases hr:posOf i r with
   |none=>rw[hr]at h;cases h
   |some q=>
    rw[hr]at h
    simp at h;subst h
    simpa using Q8r hr
def toOs (js:List Nat)(k:Nat):Id->Id
 |.l i=>match posOf i js with|some p=>.o (k+p)|none=>.l i
 |.o i=>.o i
structure CedN (θ:Id->Id)(fr:Fr)(σ:St)(fr':Fr)(σ':St):Prop where
 fr:∀d x,Fr.get d fr'=some x->∃y,Fr.get d fr=some y/\WkF (y.sub θ) x
 n:σ'.n=σ.n
 obj:∀i x,σ'.get i=some x->∃i0 y,σ.get i0=some y/\θ i0=i/\x=y.sub θ
theorem AOps.cedeN{E:Env}{ops:Array Oper}{rest:List Oper}{K:Cont}{fr:Fr}{σ:St}(js:List Nat)(hj:∀j∈js,j < σ.n)(h:∀k,(∀m,k<=m->σ.ou m=none)->∃fr' σ',CedN (toOs js k) fr σ fr' σ'/\AOps E ops rest K fr' σ'):AOps E ops rest K fr σ:=by
 intro F w0 C0 w C tmps hg hi hf
 have hnone:∀m,C.no<=m->σ.ou m=none:=fun m hm=>by
  cases hx:σ.ou m with
  |none=>rfl
  |some x=>
   have:m < C.no:=(hi.obj (.o m) x hx).1
   omega
 obtain⟨fr',σ',hc,h⟩:=h _ hnone
 let C2:Ctx:={ C with no:=C.no+js.length,phi:=fun i=>match i with|.o m=>if m < C.no then C.phi (.o m)else (match js[m - C.no]? with|some j=>C.phi (.l j)|none=>C.phi (.o m))|.l m=>C.phi (.l m),tk:=fun i=>match i with|.o m=>if m < C.no then C.tk (.o m)else (match js[m - C.no]? with|some j=>C.tk (.l j)|none=>C.tk (.o m))|.l m=>C.tk (.l m) }
 have hx:Ext w C w C2:=⟨fun _ _=>rfl,fun _ h=>h,fun i _ ho=>by
  cases i with
  |l m=>exact⟨ho,rfl,rfl⟩
  |o m=>
   have hm:m < C.no:=ho
   refine⟨Nat.lt_of_lt_of_le hm (Nat.le_add_right _ _),?_,?_⟩
   ·show (if m < C.no then _ else _)=_;rw[if_pos hm];rfl
   ·show (if m < C.no then _ else _)=_;rw[if_pos hm];rfl⟩
 have hb:Bus (toOs js C.no) (fun _=>True) w C2 C:=⟨fun _ h=>h,fun i _ ho=>by
  cases i with
  |o m=>exact hx.id (.o m) trivial ho
  |l m=>
   simp only[toOs]
   cases hp:posOf m js with
   |none=>exact⟨ho,rfl,rfl⟩
   |some p=>
    have hjp:=Q8r hp
    have hlt:p < js.length:=(List.getElem?_eq_some_iff.1 hjp).1
    refine⟨Nat.add_lt_add_left hlt _,?_,?_⟩
    ·show (if C.no+p < C.no then _ else _)=_
     rw[if_neg (by omega),Nat.add_sub_cancel_left,hjp];rfl
    ·show (if C.no+p < C.no then _ else _)=_
     rw[if_neg (by omega),Nat.add_sub_cancel_left,hjp];rfl⟩
 have hok:∀i0 y,σ.get i0=some y->C.ok i0:=fun i0 y hy=>(hi.obj i0 y hy).1
 have hi':Inv E.Γ F w C2 σ':=by
  refine⟨hi.base,by rw[hc.n];exact hi.next,fun g cs hm=>(hi.glob g cs hm).ext hx,hi.prot,fun i x hxx=>?_,fun i1 i2 x1 x2 g h1 h2 h3 h4=>?_⟩
  ·obtain⟨i0,y,hy,rfl,rfl⟩:=hc.obj i x hxx
   obtain⟨k1,k2⟩:=hi.obj i0 y hy
   exact⟨(hb.id i0 trivial k1).1,ObjOk.bus hb (AObj.ids_all y) trivial k1 (fun _ h=>h) k2⟩
  ·obtain⟨a,y,hy,rfl,rfl⟩:=hc.obj i1 x1 h1
   obtain⟨b,z,hz,rfl,rfl⟩:=hc.obj i2 x2 h2
   rw[AObj.block_bus hb trivial (hok a y hy)]at h3
   rw[AObj.block_bus hb trivial (hok b z hz)]at h4
   rw[hi.inj a b y z g hy hz h3 h4]
 refine h F w0 C0 w C2 tmps (hg.trans ⟨Stp.refl _ _,hx.weaken (fun _ _=>trivial),Nat.le_add_right _ _,NewP.refl _ _⟩) hi' ⟨hf.1,fun d x hd=>?_⟩
 obtain⟨y,hy,hw⟩:=hc.fr d x hd
 obtain⟨u,hu,hr⟩:=hf.2 d y hy
 exact⟨u,hu,hw _ _ _ (RF.bus hb y u (FV.ids_true y) hr)⟩
def ouAdd (ou:Outer)(k:Nat)(os:List AObj):Outer:=fun m=>bif Nat.blt m k then ou m else os[m - k]?
theorem Q26{ou:Outer}{k:Nat}{os:List AObj}{m:Nat}(h:m < k):ouAdd ou k os m=ou m:=by
 unfold ouAdd
 have:Nat.blt m k=true:=by simp[Nat.blt];exact h
 rw[this];rfl
theorem Q0f{ou:Outer}{k:Nat}{os:List AObj}(p:Nat):ouAdd ou k os (k+p)=os[p]?:=by
 unfold ouAdd
 have:Nat.blt (k+p) k=false:=by
  cases h:Nat.blt (k+p) k with
  |false=>rfl
  |true=>simp[Nat.blt]at h;omega
 rw[this,Nat.add_sub_cancel_left];rfl
theorem Q1y{ou:Outer}{k:Nat}(h:∀m,k<=m->ou m=none){m:Nat}{o:AObj}(hm:ou m=some o):m < k:=by
 rcases Nat.lt_or_ge m k with h1|h1
 ·exact h1
 ·rw[h m h1]at hm;cases hm
inductive CedFrN (θ:Id->Id)(fr:Fr):Fr->Prop
 |nil:CedFrN θ fr []
 |cons {k:Nat}{x y:FV}{r:Fr}(h:Fr.get k fr=some y) (hw:y.sub θ=x) (hr:CedFrN θ fr r):CedFrN θ fr ((k,x)::r)
theorem CedFrN.get{θ:Id->Id}{fr fr':Fr}(h:CedFrN θ fr fr'):∀d x,Fr.get d fr'=some x->∃y,Fr.get d fr=some y/\WkF (y.sub θ) x:=by
 induction h with
 |nil=>intro d x h;cases h
 |@cons k x y r h hw hr ih=>
  intro d z hz
  simp only[Fr.get]at hz
  by_cases e:k=d
  ·subst e;simp at hz;subst hz;exact⟨y,h,WkF.ofEq hw⟩
  ·rw[Q09 e]at hz;exact ih d z hz
inductive CedLo (θ:Id->Id)(lo:List (Nat×AObj))(js:List Nat):List (Nat×AObj)->Prop
 |nil:CedLo θ lo js []
 |cons {n:Nat}{o y:AObj}{r:List (Nat×AObj)}(h:lookL n lo=some y) (hn:posOf n js=none) (ho:y.sub θ=o) (hr:CedLo θ lo js r):CedLo θ lo js ((n,o)::r)
theorem CedLo.get{θ:Id->Id}{lo lo':List (Nat×AObj)}{js:List Nat}(h:CedLo θ lo js lo'):∀n o,lookL n lo'=some o->posOf n js=none/\∃y,lookL n lo=some y/\y.sub θ=o:=by
 induction h with
 |nil=>intro n o h;cases h
 |@cons m x y r h hn ho hr ih=>
  intro n o hz
  simp only[lookL]at hz
  by_cases e:m=n
  ·subst e;simp at hz;subst hz;exact⟨hn,y,h,ho⟩
  ·rw[Q09 e]at hz;exact ih n o hz
inductive CedOs (θ:Id->Id)(lo:List (Nat×AObj)):List Nat->List AObj->Prop
 |nil:CedOs θ lo [] []
 |cons {j:Nat}{o y:AObj}{js:List Nat}{os:List AObj}(h:lookL j lo=some y) (ho:y.sub θ=o) (hr:CedOs θ lo js os):CedOs θ lo (j::js) (o::os)
theorem CedOs.get{θ:Id->Id}{lo:List (Nat×AObj)}{js:List Nat}{os:List AObj}(h:CedOs θ lo js os):∀(p:Nat)(o:AObj),os[p]?=some o->∃j y,js[p]?=some j/\lookL j lo=some y/\y.sub θ=o:=by
 induction h with
 |nil=>intro p o h;simp at h
 |@cons j o y js os h ho hr ih=>
  intro p z hz
  cases p with
  |zero=>simp at hz;subst hz;exact⟨j,y,rfl,h,ho⟩
  |succ p=>simpa using ih p z (by simpa using hz)
theorem Q8z:∀{js:List Nat}{p j:Nat},js.Nodup->js[p]?=some j->posOf j js=some p
 |[],p,j,_,h=>by simp at h
 |i::r,p,j,hn,h=>by
  simp only[List.nodup_cons]at hn
  cases p with
  |zero=>simp at h;subst h;simp[posOf]
  |succ p=>
   have h1:r[p]?=some j:=by simpa using h
   have hne:j≠i:=fun e=>hn.1 (e▸List.mem_of_getElem? h1)
   simp only[posOf,Q09 hne,cond_false,Q8z hn.2 h1]
theorem AOps.cedes{E:Env}{ops:Array Oper}{rest:List Oper}{K:Cont}{fr:Fr}{σ:St}(js:List Nat)(hj:js.all (fun j=>Nat.blt j σ.n)=true)(hnd:js.Nodup)(hou:OuOk σ.ou)
  (h:∀k,(∀m,k<=m->σ.ou m=none)->∃fr' lo' os,CedFrN (toOs js k) fr fr'/\CedLo (toOs js k) σ.lo js lo'/\CedOs (toOs js k) σ.lo js os/\AOps E ops rest K fr' ⟨σ.n,lo',ouAdd σ.ou k os⟩):AOps E ops rest K fr σ:=by
 refine AOps.cedeN js (fun j hjj=>?_) fun k hk=>?_
 ·have:=List.all_eq_true.1 hj j hjj
  exact Nat.le_of_ble_eq_true (show Nat.ble (j+1) σ.n=true from this)
 obtain⟨fr',lo',os,h1,h2,h3,h4⟩:=h k hk
 refine⟨fr',⟨σ.n,lo',ouAdd σ.ou k os⟩,⟨h1.get,rfl,fun i x hx=>?_⟩,h4⟩
 cases i with
 |l m=>
  obtain⟨hp,y,hy,rfl⟩:=h2.get m x hx
  exact⟨.l m,y,hy,by simp[toOs,hp],rfl⟩
 |o m=>
  have hx':ouAdd σ.ou k os m=some x:=hx
  rcases Nat.lt_or_ge m k with hm|hm
  ·rw[Q26 hm]at hx'
   exact⟨.o m,x,hx',rfl,(AObj.sub_f (fun i hi=>by cases i with|l q=>exact hi.elim|o q=>rfl) x (hou m x hx')).symm⟩
  ·obtain⟨p,rfl⟩:∃p,m=k+p:=⟨m - k,by omega⟩
   rw[Q0f]at hx'
   obtain⟨j,y,q1,q2,rfl⟩:=h3.get p x hx'
   exact⟨.l j,y,q2,by simp[toOs,Q8z hnd q1],rfl⟩
end Go.Abs
namespace Go.Abs
def inS (S:List Nat)(i:Nat):Bool:=S.any fun k=>Nat.beq k i
def fC:List Nat->List FV->Nat->Option FV
 |s::S,v::vs,i=>bif Nat.beq s i then some v else fC S vs i
 |_,_,_=>none
def chainB (l:List Oper):List Nat->Bool
 |s::s'::S=>(match l[s']? with|some o=>o.after.any fun e=>Region.binds .any e&&Nat.beq e.on s|none=>false)&&chainB l (s'::S)
 |_=>true
def Qgg (l:List Oper)(S:List Nat)(n:Nat):Bool:=(l.take n).zipIdx.all fun x=>inS S x.2||x.1.after.toList.all fun e=>!Region.binds .any e||!(inS S e.on)
theorem Qar:∀{S:List Nat}{vs:List FV}{i:Nat},inS S i=false->fC S vs i=none
 |[],[],_,_=>rfl
 |[],_::_,_,_=>rfl
 |s::S,[],_,_=>rfl
 |s::S,v::vs,i,h=>by
  simp only[inS,List.any_cons,Bool.or_eq_false_iff]at h
  simp only[fC,h.1,cond_false]
  exact Qar h.2
theorem Qaq{S:List Nat}(hn:S.Nodup):∀{vs:List FV}{p i:Nat},S[p]?=some i->p < vs.length->fC S vs i=vs[p]?:=by
 induction S with
 |nil=>intro vs p i h;simp at h
 |cons s S ih=>
  intro vs p i h hp
  simp only[List.nodup_cons]at hn
  cases vs with
  |nil=>simp at hp
  |cons v vs=>
   cases p with
   |zero=>simp at h;subst h;simp[fC]
   |succ p=>
    have h1:S[p]?=some i:=by simpa using h
    have hne:s≠i:=fun e=>hn.1 (e▸List.mem_of_getElem? h1)
    simp only[fC,Q09 hne,cond_false]
    rw[ih hn.2 h1 (by simpa using hp)]
    simp
theorem Qeu{S:List Nat}(hn:S.Nodup):∀{vs:List FV}{p i:Nat},S[p]?=some i->vs.length<=p->fC S vs i=none:=by
 induction S with
 |nil=>intro vs p i h;simp at h
 |cons s S ih=>
  intro vs p i h hp
  simp only[List.nodup_cons]at hn
  cases vs with
  |nil=>rfl
  |cons v vs=>
   cases p with
   |zero=>simp at hp
   |succ p=>
    have h1:S[p]?=some i:=by simpa using h
    have hne:s≠i:=fun e=>hn.1 (e▸List.mem_of_getElem? h1)
    simp only[fC,Q09 hne,cond_false]
    exact ih hn.2 h1 (by simpa using hp)
theorem fC_upd{S:List Nat}(hn:S.Nodup){vs:List FV}{i:Nat}{v:FV}(h:S[vs.length]?=some i):updV (fC S vs) i v=fC S (vs++[v]):=by
 funext j
 unfold updV
 by_cases hj:inS S j=true
 ·obtain⟨s,hs,he⟩:=List.any_eq_true.1 hj
  obtain rfl:s=j:=Nat.eq_of_beq_eq_true he
  obtain⟨p,hp⟩:=List.mem_iff_getElem?.1 hs
  by_cases e:s=i
  ·subst e
   have hpv:p=vs.length:=(List.getElem?_inj (List.getElem?_eq_some_iff.1 hp).1 hn).1 (hp.trans h.symm)
   subst hpv
   rw[Qaq (vs:=vs++[v]) hn hp (by simp)]
   simp
  ·have hpv:p≠vs.length:=fun e2=>by subst e2;rw[h]at hp;exact e (by simpa using hp.symm)
   simp only[Ne.symm e,if_false,e]
   rcases Nat.lt_or_ge p vs.length with h1|h1
   ·rw[Qaq hn hp h1,Qaq hn hp (by simp;omega),List.getElem?_append_left h1]
   ·rw[Qeu hn hp h1,Qeu hn hp (by simp;omega)]
 ·have hj':inS S j=false:=by simpa using hj
  have hne:j≠i:=fun e=>by
   subst e
   have:inS S j=true:=List.any_eq_true.2 ⟨j,List.mem_of_getElem? h,by simp⟩
   rw[this]at hj';cases hj'
  rw[Qar hj',Qar hj']
  simp[Ne.symm hne,hne]
theorem Qcf{l:List Oper}:∀{S:List Nat},chainB l S=true->∀{p i j:Nat}{o:Oper},S[p]?=some i->S[p+1]?=some j->l[j]?=some o->∃e∈o.after.toList,Region.binds .any e=true/\e.on=i
 |[],_,p,i,j,o,h1,_,_=>by simp at h1
 |[s],_,p,i,j,o,_,h2,_=>by simp at h2
 |s::s'::S,h,p,i,j,o,h1,h2,h3=>by
  simp only[chainB,Bool.and_eq_true]at h
  cases p with
  |zero=>
   simp at h1 h2
   subst h1;subst h2
   rw[h3]at h
   obtain⟨e,he,hb⟩:=Array.any_eq_true'.1 h.1
   simp only[Bool.and_eq_true]at hb
   exact⟨e,by simpa using he,hb.1,Nat.eq_of_beq_eq_true hb.2⟩
  |succ p=>exact Qcf h.2 (by simpa using h1) (by simpa using h2) h3
section
variable {E:Env}{l:List Oper}{frb:Fr}{K:Cont}
end
end Go.Abs
namespace Go.Abs
section
variable {Γ:List (Nat×List AC)}{F:Nat->Prop}{w:World}{C:Ctx}{σ:St}
end
section
variable {E:Env}{o:Oper}{fr:Fr}{σ:St}
end
end Go.Abs
namespace Go.Abs
end Go.Abs
namespace Go.Abs
end Go.Abs
namespace Go.Abs
section
variable {E:Env}{o:Oper}{fr:Fr}{σ:St}
theorem AStep.loadOwnA{t:TypeId}{ti:TI}{x:Operand}{j:Id}{cs:List AC}(hT:TabOk E.P E.T)(ho:o.op=.load t x)(ht:Tab.get t E.T=some ti)(ha:ti.agg=true)(hs:Nat.beq ti.size cs.length=true)(hx:aEval E.Γ fr x=some (.one (.ptr j 0)))
  (hg:σ.get j=some (.cells cs)):AStep E o fr σ (.agg cs) σ:=by
 refine AStep.ofOp hT ?_
 have hs':ti.size=cs.length:=Nat.eq_of_beq_eq_true hs
 have hb:Nat.ble (0+cs.length) cs.length=true:=Nat.ble_eq▸(show 0+cs.length<=cs.length by omega)
 simp only[ho,aOp,ht,ha,hs',hx,aLoad,hg,hb,cond_true,Q0v,mkFV,Bool.true_or,List.drop_zero,List.take_length]
end
theorem AOps.storeOwnA{E:Env}{ops:Array Oper}{rest:List Oper}{o:Oper}{K:Cont}{fr:Fr}{σ:St}{t:TypeId}{ti:TI}{x y:Operand}{j:Id}{cs vs:List AC}(hT:TabOk E.P E.T)(hgd:o.guard=none)(hd:o.dst=none)(ho:o.op=.store t x y)(ht:Tab.get t E.T=some ti)(hs:Nat.beq vs.length ti.size=true)(hl:vs.length=cs.length)
  (hx : aEval E.Γ fr x = some (.one (.ptr j 0))) (hy : aEval E.Γ fr y = some (.agg vs)) (hg : σ.get j = some (.cells cs)) (h : AOps E ops rest K fr (σ.set j (.cells vs))) : AOps E ops (o :: rest) K fr σ := by
 refine AOps.store hT hgd hd ?_ h
 have hs':vs.length=ti.size:=Nat.eq_of_beq_eq_true hs
 have hb:Nat.ble (0+ti.size) cs.length=true:=Nat.ble_eq▸(show 0+ti.size<=cs.length by omega)
 have ov:∀(xs ws:List AC),ws.length=xs.length->over xs 0 ws=ws:=by
  intro xs
  induction xs with
  |nil=>intro ws h;cases ws with
   |nil=>rfl
   |cons a ws=>simp at h
  |cons a xs ih=>
   intro ws h
   cases ws with
   |nil=>simp at h
   |cons b ws=>simp only[over];rw[ih ws (by simpa using h)]
 simp only[ho,aOp,ht,hx,hy,Q9s,hg,FV.cells,hs,hb,cond_true,Bool.and_self,Q0v,ov cs vs hl]
section
variable {E:Env}{o:Oper}{fr:Fr}{σ:St}
end
end Go.Abs
namespace Go.Abs
end Go.Abs
namespace Go.Abs
end Go.Abs
namespace Go.Abs
theorem Q3m{P:Program}(w:World)(t el:TypeId)(p:Option Addr)(h:P.underlying t=some (.pointer el)):(Op.equal t (.pointer p) (.pointer none)).run P w=.ok p.isNone w:=by
 have:∀d:Nat,(Op.equalIn (d+1) t (.pointer p) (.pointer none)).run P w=.ok p.isNone w:=fun d=>by
  cases p <;> simp[Op.equalIn,run_underlying h]
 exact this 9999
section
variable {E:Env}{o:Oper}{fr:Fr}{σ:St}{t yt el:TypeId}{x y:Operand}
theorem AStep.eqNil{i:Id}{off:Nat}(ht:E.P.underlying t=some (.pointer el))(ho:o.op=.binOp .eql t x y yt)(hx:aEval E.Γ fr x=some (.one (.ptr i off)))(hy:aEval E.Γ fr y=some (.one (.lit (.pointer none)))):AStep E o fr σ (.one (.lit (.bool false))) σ:=by
 refine AStep.quiet fun F w C tmps hi hf=>⟨.bool false,?_,rfl,rfl⟩
 have h1:=Q02 (a:=⟨tmps,E.ds⟩) hi hf hx
 have h2:=Q02 (a:=⟨tmps,E.ds⟩) hi hf hy
 simp only[RF,R]at h1 h2
 unfold execOp
 simp only[ho,h1.2,h2.1,eqGuard_at_pointer,Sem.run_bind,Sem.run_pure,Result.andThen_ok]
 simp[binOp,Q3m _ _ _ _ ht]
theorem AStep.eqNil0(ht:E.P.underlying t=some (.pointer el))(ho:o.op=.binOp .eql t x y yt)(hx:aEval E.Γ fr x=some (.one (.lit (.pointer none))))(hy:aEval E.Γ fr y=some (.one (.lit (.pointer none)))):AStep E o fr σ (.one (.lit (.bool true))) σ:=by
 refine AStep.quiet fun F w C tmps hi hf=>⟨.bool true,?_,rfl,rfl⟩
 have h1:=Q02 (a:=⟨tmps,E.ds⟩) hi hf hx
 have h2:=Q02 (a:=⟨tmps,E.ds⟩) hi hf hy
 simp only[RF,R]at h1 h2
 unfold execOp
 simp only[ho,h1.1,h2.1,eqGuard_at_pointer,Sem.run_bind,Sem.run_pure,Result.andThen_ok]
 simp[binOp,Q3m _ _ _ _ ht]
end
end Go.Abs
namespace Go.Abs
section
variable {Γ:List (Nat×List AC)}{F:Nat->Prop}{w:World}{C:Ctx}{σ:St}
end
section
variable {E:Env}{o:Oper}{fr:Fr}{σ:St}
end
end Go.Abs
namespace Go.Abs
def AStepRP (E:Env)(o:Oper)(fr:Fr)(σ:St)(P:FV->St->Prop)(PP:List PanicEntry->St->Prop):Prop:=
 ∀(F:Nat->Prop) (w:World) (C:Ctx) (tmps:Array Value),Inv E.Γ F w C σ->FrOk w C E.N fr tmps->
  ∀(next:Act->World->Prop) (Q:Exit->Act->World->Prop),
   (∀(u:Value) (w':World) (C':Ctx) (v:FV) (σ':St),P v σ'->Goes F (fun _=>True) w C w' C'->Inv E.Γ F w' C' σ'->RF w' C' v u->next (Act.put ⟨tmps,E.ds⟩ o.dst u) w')->
   (∀(ps:List PanicEntry) (w':World) (C':Ctx) (σ':St),PP ps σ'->Goes F (fun _=>True) w C w' C'->Inv E.Γ F w' C' σ'->Q (.panic ps) ⟨tmps,E.ds⟩ w')->o.wp E.P ⟨tmps,E.ds⟩ w next Q
def Q3k (E:Env)(ops:Array Oper)(o:Oper)(fr:Fr)(σ:St)(P:FV->St->Prop)(PP:List PanicEntry->St->Prop):Prop:=
 Q8a E ops o fr σ P∨(o.guard=none/\AStepRP E o fr σ P PP)
theorem Q3k.mono{E:Env}{ops:Array Oper}{o:Oper}{fr:Fr}{σ:St}{P Q:FV->St->Prop}{PP:List PanicEntry->St->Prop}(h:Q3k E ops o fr σ P PP)(hq:∀v σ',P v σ'->Q v σ'):Q3k E ops o fr σ Q PP:=by
 rcases h with h|⟨h1,h2⟩
 ·exact .inl (h.mono hq)
 ·exact .inr ⟨h1,fun F w C tmps hi hf next Q' hk hp=>h2 F w C tmps hi hf next Q' (fun u w' C' v σ' hP=>hk u w' C' v σ' (hq _ _ hP)) hp⟩
theorem Qd6{E:Env}{ops:Array Oper}{o:Oper}{fr:Fr}{σ:St}{P:FV->St->Prop}{PP:List PanicEntry->St->Prop}(h:Q3k E ops o fr σ P PP){F:Nat->Prop}{w:World}{C:Ctx}{tmps:Array Value}(hi:Inv E.Γ F w C σ)(hf:FrOk w C E.N fr tmps){i:Nat}(ho:ops[i]?=some o)
  {next:Act->World->Prop}{Q:Exit->Act->World->Prop}(hk:∀(u:Value) (w':World) (C':Ctx) (v:FV) (σ':St),P v σ'->Goes F (fun _=>True) w C w' C'->Inv E.Γ F w' C' σ'->RF w' C' v u->next (Act.put ⟨tmps,E.ds⟩ o.dst u) w')
  (hp:∀(ps:List PanicEntry) (w':World) (C':Ctx) (σ':St),PP ps σ'->Goes F (fun _=>True) w C w' C'->Inv E.Γ F w' C' σ'->Q (.panic ps) ⟨tmps,E.ds⟩ w'):wpOp E.P ops Q i next ⟨tmps,E.ds⟩ w:=by
 rcases h with h|⟨hg,h⟩
 ·exact Q9c h hi hf ho hk
 ·unfold wpOp
  simp only[ho]
  rw[if_pos (by simp[Region.wanted,hg])]
  exact .inl (h F w C tmps hi hf next Q hk hp)
section
variable {E:Env}{l:List Oper}{frb:Fr}{n:Nat}{K:Cont}{J:Array Bool->St->(Nat->Option FV)->Prop}
theorem Qiu(hB:drawB l n=true)(hfb:(dsts (l.take n)).all (fun d=>(Fr.get d frb).isNone)=true)
  (hstep : ∀ (listed : Array Bool) (σ : St) (vals : Nat -> Option FV) (i : Nat) (o : Oper), i < n -> l[i]? = some o -> listed.getD i false = false -> listed.size = l.length -> (∀ e ∈ o.after.toList, Region.binds .any e = true -> listed.getD e.on false = true) -> J listed σ vals ->
   dstOk E.N o.dst=true/\Q3k E l.toArray o (Q0x l vals o++frb) σ (fun v σ'=>J (listed.setIfInBounds i true) σ' (updV vals i v)) (fun ps σ'=>K (.panic ps) frb σ'))
  (htail : ∀ σ vals, J (Q0b l.length n) σ vals -> AOps E l.toArray (l.drop n) K (Q0p vals 0 (l.take n) ++ frb) σ) {F : Nat -> Prop} {w0 : World} {C0 : Ctx} :
  ∀(c:Nat) (listed:Array Bool) (a:Act) (w:World),((List.range n).filter fun j=>!listed.getD j false).length=c->HeadInv .any l.toArray n listed->MidJ E l n frb J F w0 C0 listed a w->
   wpAny E.P .any l.toArray (Post E F w0 C0 K) (c+(l.length - n)) listed a w:=by
 simp only[drawB,Bool.and_eq_true,decide_eq_true_eq]at hB
 obtain⟨⟨⟨⟨⟨hn,hs⟩,hc⟩,hsq⟩,hdi⟩,haf⟩:=hB
 have hsz:l.toArray.size=l.length:=by simp
 intro c
 induction c with
 |zero=>
  intro listed a w hcnt hinv hmid
  have hall:∀j,j < n->listed.getD j false=true:=by
   intro j hj
   have:(List.range n).filter (fun j=>!listed.getD j false)=[]:=List.eq_nil_of_length_eq_zero hcnt
   have h2:=List.filter_eq_nil_iff.1 this j (List.mem_range.2 hj)
   simpa using h2
  have hl:listed=Q0b l.length n:=by
   apply Array.ext
   ·simp[Q0b,hinv.size]
   ·intro j h1 h2
    have hj:j < l.length:=by simpa[Q0b]using h2
    have h3:listed.getD j false=listed[j]:=by simp[h1]
    simp only[Q0b,Array.getElem_map,Array.getElem_range]
    by_cases hjn:j < n
    ·rw[←h3,hall j hjn];simp[hjn]
    ·have:=hinv.tail j (by omega) (by rw[hsz];exact hj)
     rw[Q3y h1]at this
     rw[←h3,this];simp[hjn]
  have hdl:(l.drop n).length=l.length - n:=by simp
  rw[Nat.zero_add,←hdl]
  refine wpAny_of_seq (md:=.any) (l.drop n) n listed a w (fun j=>by simp[List.getElem?_drop]) (by rw[hl,hdl];exact hsq) ?_
  obtain⟨hd,C,σ,vals,hJ,hg,hi,hf,hv⟩:=hmid
  have ha:a=⟨a.tmps,E.ds⟩:=by cases a;simp_all
  rw[ha]
  rw[hl]at hJ
  refine htail σ vals hJ F w0 C0 w C a.tmps hg hi ⟨hf.1,fun k x hk=>?_⟩
  rcases Fr.get_append hk with hk|⟨_,hk⟩
  ·obtain⟨i,o,h1,h2,h3⟩:=Q3x (Fr.get_mem hk)
   rw[Nat.zero_add]at h3
   have hin:i < n:=by
    have:=(List.getElem?_eq_some_iff.1 h1).1
    simp at this;omega
   rw[List.getElem?_take_of_lt hin]at h1
   exact hv i o k x hin h1 h2 h3
  ·exact hf.2 k x hk
 |succ c ih=>
  intro listed a w hcnt hinv hmid
  -- some head is not listed
  have hex:∃i,i < n/\listed.getD i false=false/\∀j,j < i->listed.getD j false=true:=by
   have hne:∃i,i < n/\listed.getD i false=false:=by
    cases hL:(List.range n).filter (fun j=>!listed.getD j false) with
    |nil=>rw[hL]at hcnt;simp at hcnt
    |cons i L=>
     have:i∈(List.range n).filter (fun j=>!listed.getD j false):=by rw[hL];simp
     obtain⟨h1,h2⟩:=List.mem_filter.1 this
     exact⟨i,List.mem_range.1 h1,by simpa using h2⟩
   obtain⟨i,hi⟩:=hne
   induction i using Nat.strongRecOn with
   |_ i ih2=>
    by_cases h:∃j,j < i/\listed.getD j false=false
    ·obtain⟨j,hj,hj2⟩:=h
     exact ih2 j hj ⟨by omega,hj2⟩
    ·exact⟨i,hi.1,hi.2,fun j hj=>(Bool.not_eq_false _).mp (fun hb=>h ⟨j,hj,hb⟩)⟩
  obtain⟨i0,hi0n,hi0u,hi0m⟩:=hex
  have hready:i0∈Region.ready .any l.toArray listed:=by
   rw[mem_ready]
   have hlt:i0 < l.length:=by omega
   refine⟨by rw[Q3y (by rw[hinv.size,hsz];exact hlt)];exact hi0u,l[i0],by simp[hlt],fun e he hb=>?_⟩
   have h1:=List.all_eq_true.1 haf (l[i0],i0) (by
    rw[List.mem_zipIdx_iff_getElem?]
    rw[List.getElem?_take_of_lt hi0n]
    simp[hlt])
   have h2:=Array.all_eq_true_iff_forall_mem.1 h1 e he
   simp only[hb,Bool.not_true,Bool.false_or,decide_eq_true_eq]at h2
   exact hi0m _ h2
  rw[show c+1+(l.length - n)=(c+(l.length - n))+1 by omega]
  refine⟨fun h=>absurd hready (by rw[h];simp),fun i hi=>?_⟩
  have hi0t:listed.getD i0 true=false:=(mem_ready.1 hready).1
  have hin:i < n:=by
   rcases Nat.lt_or_ge i n with h|h
   ·exact h
   ·exact absurd hi (tail_waits hs hc (by rw[hsz];exact hn) hinv _ i0 rfl hi0n hi0t i h)
  obtain⟨hun,o,ho,hall⟩:=mem_ready.1 hi
  have hlo:l[i]?=some o:=by simpa using ho
  obtain⟨hd,C,σ,vals,hJ,hg,hinvw,hf,hvals⟩:=hmid
  have ha:a=⟨a.tmps,E.ds⟩:=by cases a;simp_all
  rw[ha]
  have huni:listed.getD i false=false:=getD_both hun
  have hil:i < listed.size:=by rw[hinv.size,hsz];omega
  have hlast:∀e∈o.after.toList,Region.binds .any e=true->e.on < n:=fun e he hb=>by
   have h1:=List.all_eq_true.1 haf (o,i) (by
    rw[List.mem_zipIdx_iff_getElem?]
    rw[List.getElem?_take_of_lt hin]
    simpa using hlo)
   have h2:=Array.all_eq_true_iff_forall_mem.1 h1 e (by simpa using he)
   simp only[hb,Bool.not_true,Bool.false_or,decide_eq_true_eq]at h2
   omega
  obtain⟨hdo,hst⟩:=hstep listed σ vals i o hin hlo huni (by rw[hinv.size,hsz]) (fun e he hb=>hall e (by simpa using he) hb) hJ
  have hfr:FrOk w C E.N (Q0x l vals o++frb) a.tmps:=by
   refine⟨hf.1,fun k x hk=>?_⟩
   rcases Fr.get_append hk with hk|⟨_,hk⟩
   ·have hm:=Fr.get_mem hk
    obtain⟨e,he,he2⟩:=List.mem_filterMap.1 hm
    cases hb:Region.binds .any e with
    |false=>rw[hb]at he2;cases he2
    |true=>
     rw[hb]at he2;simp only[cond_true]at he2
     cases h1:(l[e.on]?).bind (·.dst) with
     |none=>rw[h1]at he2;cases he2
     |some d=>
      cases h2:vals e.on with
      |none=>rw[h1,h2]at he2;cases he2
      |some v'=>
       rw[h1,h2]at he2;cases he2
       cases h3:l[e.on]? with
       |none=>rw[h3]at h1;cases h1
       |some oe=>
        rw[h3]at h1
        exact hvals e.on oe k x (hlast e he hb) h3 h1 h2
   ·exact hf.2 k x hk
  refine Qd6 hst hinvw hfr ho (fun u w' C' v σ' hJ' hgo hi' hr=>?_) (fun ps w' C' σ' hps hgo hi'=>⟨rfl,frb,σ',C',hg.trans hgo.toO,hi',hf.ext hgo.chg,hps⟩)
  refine ih _ _ _ ?_ (hinv.set hi hin) ⟨put_defers ..,C',σ',_,hJ',hg.trans hgo.toO,hi',?_,fun j oj dj vj hj hoj hdj hvj=>?_⟩
  ·have h2:((List.range n).filter fun j=>!(listed.setIfInBounds i true).getD j false).length+1=((List.range n).filter fun j=>!listed.getD j false).length:=Q6u hin huni hil
   omega
  ·cases hdd:o.dst with
   |none=>exact hf.ext hgo.chg
   |some d=>
    refine⟨by simp[Act.put,hf.1],fun k x hk=>?_⟩
    obtain⟨u',hu',hr'⟩:=hf.2 k x hk
    have hne:d≠k:=by
     rintro rfl
     have h1:=List.all_eq_true.1 hfb d (List.mem_filterMap.2 ⟨o,List.mem_of_getElem? (i:=i) (by rw[List.getElem?_take_of_lt hin];exact hlo),hdd⟩)
     rw[hk]at h1;cases h1
    refine⟨u',?_,hr'.ext hgo.chg⟩
    simp only[Act.put]
    rw[Array.getElem?_setIfInBounds_ne hne];exact hu'
  ·by_cases e:i=j
   ·subst e
    rw[hlo]at hoj;cases hoj
    rw[updV,if_pos rfl]at hvj
    cases hvj
    have hdN:dj < a.tmps.size:=by
     rw[hf.1]
     rw[hdj]at hdo
     exact Nat.le_of_ble_eq_true (show Nat.ble (dj+1) E.N=true from hdo)
    exact⟨u,by rw[hdj];simp[Act.put,hdN],hr⟩
   ·simp only[updV,if_neg e]at hvj
    obtain⟨u',hu',hr'⟩:=hvals j oj dj vj hj hoj hdj hvj
    cases hdd:o.dst with
    |none=>exact⟨u',hu',hr'.ext hgo.chg⟩
    |some d=>
     have hne:d≠dj:=by
      rintro rfl
      exact e (Q1o hdi (by rw[List.getElem?_take_of_lt hin];exact hlo) (by rw[List.getElem?_take_of_lt hj];exact hoj) hdd hdj)
     refine⟨u',?_,hr'.ext hgo.chg⟩
     simp only[Act.put]
     rw[Array.getElem?_setIfInBounds_ne hne];exact hu'
def AAny (E:Env)(l:List Oper)(K:Cont)(fr:Fr)(σ:St):Prop:=
 ∀(F:Nat->Prop) (w0:World) (C0:Ctx) (w:World) (C:Ctx) (tmps:Array Value),Goes F isO w0 C0 w C->Inv E.Γ F w C σ->FrOk w C E.N fr tmps->wpAny E.P .any l.toArray (Post E F w0 C0 K) l.toArray.size (Array.replicate l.toArray.size false) ⟨tmps,E.ds⟩ w.drew
theorem AAny.code{fr:Fr}{σ0:St}{id:Nat}(hm:E.P.follows .mixedOrders=true)(h:AAny E l K fr σ0):ACode E (.region id l.toArray true) K fr σ0:=fun F w0 C0 w C tmps hg hi hf=>wp_region_any hm (h F w0 C0 w C tmps hg hi hf)
theorem AAny.drawJ2{fr:Fr}{σ0:St}(n:Nat)(J:Array Bool->St->(Nat->Option FV)->Prop)(hm:E.P.follows .mixedOrders=true)(hB:drawB l n=true)(hfb:Fr.woO (dsts (l.take n)) fr=some frb)(h0:J (Array.replicate l.length false) σ0 (fun _=>none))
  (hstep : ∀ (listed : Array Bool) (σ : St) (vals : Nat -> Option FV) (i : Nat) (o : Oper), i < n -> l[i]? = some o -> listed.getD i false = false -> listed.size = l.length -> (∀ e ∈ o.after.toList, Region.binds .any e = true -> listed.getD e.on false = true) -> J listed σ vals ->
   dstOk E.N o.dst=true/\Q3k E l.toArray o (Q0x l vals o++frb) σ (fun v σ'=>J (listed.setIfInBounds i true) σ' (updV vals i v)) (fun ps σ'=>K (.panic ps) frb σ'))
  (htail : ∀ σ vals, J (Q0b l.length n) σ vals -> AOps E l.toArray (l.drop n) K (Q0p vals 0 (l.take n) ++ frb) σ) : AAny E l K fr σ0 := by
 have h3:=Fr.woO_eq hfb
 intro F w0 C0 w C tmps hg hi hf
 have hn:n < l.length:=by
  simp only[drawB,Bool.and_eq_true,decide_eq_true_eq]at hB
  exact hB.1.1.1.1.1
 have h:=Qiu (F:=F) (w0:=w0) (C0:=C0) (J:=J) hB (by rw[←h3];exact Fr.wo_none _ _) hstep htail n (Array.replicate l.toArray.size false) ⟨tmps,E.ds⟩ w.drew (by
   have:∀j,(!(Array.replicate l.toArray.size false).getD j false)=true:=fun j=>by rw[getD_replicate_false];rfl
   simp only[this];rw[List.filter_eq_self.2 (fun _ _=>rfl),List.length_range])
  ⟨by simp,fun j oj _ hl=>(by rw[getD_replicate_false]at hl;cases hl),fun t _ ht=>getD_in (by simpa using ht) (getD_replicate_false _ _)⟩
  ⟨rfl,C,σ0,fun _=>none,by simpa using h0,hg.trans (Goes.drew hi).toO,hi.drew.2,⟨hf.1,fun k x hk=>by
    obtain⟨u,hu,hr⟩:=hf.2 k x (by rw[←h3]at hk;exact (Fr.wo_get hk).1)
    exact⟨u,hu,hr.ext hi.drew.1⟩⟩,fun i o d v _ _ _ hv=>by cases hv⟩
 rw[show n+(l.length - n)=l.toArray.size by simp;omega]at h
 exact h
theorem AAny.drawS2{fr:Fr}{σ0:St}{hd tl:List Oper}(n:Nat)(S:List Nat)(vs:List FV)(M:(Nat->Option FV)->St->Prop)(hm:E.P.follows .mixedOrders=true)(hB:drawB l n=true)(hsp:Q3l n l=some (hd,tl))(hfb:Fr.woO (dsts hd) fr=some frb)(h0:M (fun _=>none) σ0)
  (hM : ∀ f σ, M f σ -> ∀ i, S.any (fun k => Nat.beq k i) = false -> f i = none)
  (hq : ∀ i o, i < n -> S.any (fun k => Nat.beq k i) = false -> l[i]? = some o -> ∃ v, vs[i]? = some v /\ dstOk E.N o.dst = true /\ (o.after.toList.all fun e => !Region.binds .any e || !(S.any fun k => Nat.beq k e.on)) = true /\ ∀ f σ, M f σ -> HStep E l.toArray o (depFr l vs o ++ frb) σ σ v)
  (hs : ∀ f σ i o, M f σ -> S.any (fun k => Nat.beq k i) = true -> l[i]? = some o -> f i = none -> (∀ e ∈ o.after.toList, Region.binds .any e = true -> S.any (fun k => Nat.beq k e.on) = true -> (f e.on).isSome = true) ->
   dstOk E.N o.dst=true/\Q3k E l.toArray o (Q0x l (mixV S vs f) o++frb) σ (fun v σ'=>M (updV f i v) σ') (fun ps σ'=>K (.panic ps) frb σ'))
  (htail:∀f σ,M f σ->(∀i∈S,i < n->(f i).isSome=true)->AOps E l.toArray tl K (Q0p (mixV S vs f) 0 hd++frb) σ):AAny E l K fr σ0:=by
 obtain⟨hsp1,hsp2⟩:=Q2l hsp
 subst hsp1;subst hsp2
 have depEq:∀(o:Oper) (v1 v2:Nat->Option FV),(∀e∈o.after.toList,Region.binds .any e=true->v1 e.on=v2 e.on)->Q0x l v1 o=Q0x l v2 o:=fun o v1 v2 h=>by
  unfold Q0x
  refine Q11 fun e he=>?_
  cases hb:Region.binds .any e with
  |false=>rfl
  |true=>simp only[cond_true];rw[h e he hb]
 refine AAny.drawJ2 n (fun listed σ vals=>listed.size=l.length/\∃f,M f σ/\(∀i,i < n->listed.getD i false=true->vals i=mixV S vs f i)/\(∀i,S.any (fun k=>Nat.beq k i)=true->listed.getD i false=(f i).isSome)) hm hB hfb
  ⟨by simp, _, h0, fun i _ h => absurd h (by rw [getD_replicate_false]; simp), fun i _ => by rw [getD_replicate_false]; rfl⟩ ?_ ?_
 ·intro listed σ vals i o hi hlo hun hsz hall ⟨_,f,hMf,hv,hf⟩
  have hn:n < l.length:=by
   have:=hB
   simp only[drawB,Bool.and_eq_true,decide_eq_true_eq]at this
   exact this.1.1.1.1.1
  have hset:∀(v:FV) j,(listed.setIfInBounds i true).getD j false=if i=j then true else listed.getD j false:=fun _ j=>by
   by_cases e:i=j
   ·subst e;simp[show i < listed.size by omega]
   ·rw[getD_set_ne false e,if_neg e]
  have hlast:∀e∈o.after.toList,Region.binds .any e=true->e.on < n:=fun e he hb=>by
   have hB2:=hB
   simp only[drawB,Bool.and_eq_true,decide_eq_true_eq]at hB2
   have h1:=List.all_eq_true.1 hB2.2 (o,i) (by
    rw[List.mem_zipIdx_iff_getElem?]
    rw[List.getElem?_take_of_lt hi]
    simpa using hlo)
   have h2:=Array.all_eq_true_iff_forall_mem.1 h1 e (by simpa using he)
   simp only[hb,Bool.not_true,Bool.false_or,decide_eq_true_eq]at h2
   omega
  have hdj:Q0x l vals o=Q0x l (mixV S vs f) o:=depEq o _ _ fun e he hb=>hv e.on (hlast e he hb) (hall e he hb)
  rw[hdj]
  cases hS:S.any (fun k=>Nat.beq k i) with
  |true=>
   have hfi:f i=none:=by
    have:=hf i hS
    rw[hun]at this
    cases h:f i with
    |none=>rfl
    |some v=>rw[h]at this;cases this
   obtain⟨k2,k3⟩:=hs f σ i o hMf hS hlo hfi fun e he hb hSe=>by rw[←hf _ hSe];exact hall e he hb
   refine⟨k2,k3.mono fun v σ' k4=>⟨by simp[hsz],updV f i v,k4,fun j hj hlj=>?_,fun j hj=>?_⟩⟩
   ·by_cases e:i=j
    ·subst e
     simp[mixV,hS,updV]
    ·rw[hset v,if_neg e]at hlj
     rw[updV,if_neg e,hv j hj hlj]
     simp only[mixV,updV,if_neg e]
   ·rw[hset v]
    by_cases e:i=j
    ·subst e;simp[updV]
    ·simp only[if_neg e,updV];exact hf j hj
  |false=>
   obtain⟨v,q1,q3,q4,q5⟩:=hq i o hi hS hlo
   have hdd:Q0x l (mixV S vs f) o=depFr l vs o:=by
    unfold Q0x depFr
    refine Q11 fun e he=>?_
    cases hb:Region.binds .any e with
    |false=>rfl
    |true=>
     have h1:=List.all_eq_true.1 q4 e he
     rw[hb]at h1
     simp only[Bool.not_true,Bool.false_or,Bool.not_eq_true']at h1
     simp only[cond_true,mixV,h1,cond_false]
     rfl
   rw[hdd]
   refine⟨q3,.inl (.inl ⟨v,σ,q5 f σ hMf,by simp[hsz],f,hMf,fun j hj hlj=>?_,fun j hj=>?_⟩)⟩
   ·by_cases e:i=j
    ·subst e
     rw[updV,if_pos rfl];simp only[mixV,hS,cond_false];exact q1.symm
    ·rw[hset v,if_neg e]at hlj
     rw[updV,if_neg e,hv j hj hlj]
   ·rw[hset v]
    by_cases e:i=j
    ·subst e;rw[hS]at hj;cases hj
    ·simp only[if_neg e];exact hf j hj
 ·intro σ vals ⟨_,f,hMf,hv,hf⟩
  have hn:n < l.length:=by
   have:=hB
   simp only[drawB,Bool.and_eq_true,decide_eq_true_eq]at this
   exact this.1.1.1.1.1
  have hl:∀j,j < n->(Q0b l.length n).getD j false=true:=fun j hj=>by
   have:j < (Q0b l.length n).size:=by simp[Q0b];omega
   simp[Q0b,show j < l.length by omega,hj]
  have heq:Q0p vals 0 (l.take n)=Q0p (mixV S vs f) 0 (l.take n):=by
   have:∀(os:List Oper) (k:Nat),k+os.length<=n->Q0p vals k os=Q0p (mixV S vs f) k os:=by
    intro os
    induction os with
    |nil=>intro k _;rfl
    |cons o os ih=>
     intro k hk
     simp only[List.length_cons]at hk
     simp only[Q0p]
     rw[hv k (by omega) (hl k (by omega)),ih (k+1) (by omega)]
   exact this _ 0 (by simp;omega)
  rw[heq]
  exact htail f σ hMf fun i hi hin=>by
   rw[←hf i (List.any_eq_true.2 ⟨i,hi,Q3f i⟩)]
   exact hl i hin
end
def Q1g (E:Env)(ops:Array Oper)(l:List Oper)(frb:Fr)(σ:St)(cs:List (Nat×FV)):Nat->List Oper->List FV->Option (List FV)
 |_,[],_=>some []
 |k,o::os,acc=>bif dstOk E.N o.dst then
   (match lookC k cs with
   |some v=>Q3c (acc++[v]) fun acc'=>(match Q1g E ops l frb σ cs (k+1) os acc' with|some vs=>some (v::vs)|none=>none)
   |none=>bif Q69 o.op then Q3c (depFr l acc o++frb) fun fr=>(match aHead E ops o fr σ with
    |some (v,_)=>Q3c (acc++[v]) fun acc'=>(match Q1g E ops l frb σ cs (k+1) os acc' with|some vs=>some (v::vs)|none=>none)
    |none=>none)else none)else none
theorem Q68{E:Env}{l:List Oper}{frb:Fr}{σ:St}{cs:List (Nat×FV)}{n:Nat}{vs:List FV}(hT:TabOk E.P E.T)(hall:∀k o,l[k]?=some o->k < n->o.after.all (fun e=>!Region.binds .any e||decide (e.on < k))=true):
  ∀(os:List Oper) (k:Nat) (acc ws:List FV),acc.length=k->(∀i o,os[i]?=some o->l[k+i]?=some o/\k+i < n)->Q1g E l.toArray l frb σ cs k os acc=some ws->acc++ws=vs->
  ∀i o,os[i]?=some o->∃v,ws[i]?=some v/\dstOk E.N o.dst=true/\(lookC (k+i) cs=some v∨(lookC (k+i) cs=none/\HStep E l.toArray o (depFr l vs o++frb) σ σ v))
 |[],k,acc,ws,_,_,_,_,i,o,hi=>by simp at hi
 |o::os,k,acc,ws,hl,hos,h,hv,i,o',hi=>by
  have ho:=hos 0 o rfl
  simp only[Nat.add_zero]at ho
  simp only[Q1g,Q0v]at h
  cases hb:dstOk E.N o.dst with
  |false=>rw[hb]at h;cases h
  |true=>
   rw[hb]at h
   simp only[cond_true]at h
   have rest:∀{v:FV},(match Q1g E l.toArray l frb σ cs (k+1) os (acc++[v]) with|some vs=>some (v::vs)|none=>none)=some ws->(lookC k cs=some v∨(lookC k cs=none/\HStep E l.toArray o (depFr l vs o++frb) σ σ v))->
     ∃v,ws[i]?=some v/\dstOk E.N o'.dst=true/\(lookC (k+i) cs=some v∨(lookC (k+i) cs=none/\HStep E l.toArray o' (depFr l vs o'++frb) σ σ v)):=by
    intro v h hfirst
    split at h
    ·rename_i ws' hw
     simp only[Option.some.injEq]at h;subst h
     cases i with
     |zero=>
      simp at hi;subst hi
      exact⟨v,rfl,hb,hfirst⟩
     |succ i=>
      have:=Q68 hT hall os (k+1) (acc++[v]) ws' (by simp[hl]) (fun i o hi=>by have:=hos (i+1) o hi;rw[show k+1+i=k+(i+1) by omega];exact this) hw (by simpa using hv) i o' (by simpa using hi)
      rw[show k+1+i=k+(i+1) by omega]at this
      simpa using this
    ·cases h
   cases hc:lookC k cs with
   |some v=>
    rw[hc]at h
    exact rest h (.inl hc)
   |none=>
    rw[hc]at h
    simp only at h
    cases hp:Q69 o.op with
    |false=>rw[hp]at h;cases h
    |true=>
     rw[hp]at h
     simp only[cond_true]at h
     split at h
     ·rename_i v σ' ha
      have hdep:depFr l vs o=depFr l acc o:=by
       have:∃r,vs=acc++r:=⟨ws,hv.symm⟩
       obtain⟨r,rfl⟩:=this
       exact Q3e (by rw[hl];exact hall k o ho.1 ho.2)
      have hσ:σ'=σ:=by
       have key:∀{y:FV}{τ:St},(match aOp E.T E.Γ o.op (depFr l acc o++frb) σ with|some (some x,σ')=>some (x,σ')|_=>none)=some (y,τ)->τ=σ:=by
        intro y τ h
        split at h
        ·rename_i h1
         simp only[Option.some.injEq,Prod.mk.injEq]at h
         obtain⟨rfl,rfl⟩:=h
         exact Q6w hp h1
        ·cases h
       unfold aHead at ha
       split at ha
       ·exact key ha
       ·split at ha
        ·split at ha
         ·exact key ha
         ·exact key ha
         ·cases ha;rfl
         ·cases ha;rfl
         ·cases ha;rfl
         ·cases ha
        ·cases ha
      subst hσ
      have hs:=HStep.auto (ops:=l.toArray) hT ha
      rw[←hdep]at hs
      exact rest h (.inr ⟨hc,hs⟩)
     ·cases h
section
variable {E:Env}{l:List Oper}{frb:Fr}{K:Cont}
theorem AAny.drawC2{fr:Fr}{σ0:St}{hd tl:List Oper}{vs0:List FV}(hT:TabOk E.P E.T)(n:Nat)(S:List Nat)(cs:List (Nat×FV))(G:List FV->St->Prop)(hm:E.P.follows .mixedOrders=true)(hB:drawB l n=true)(hsp:Q3l n l=some (hd,tl))(hfb:Fr.woO (dsts hd) fr=some frb)
  (hn:S.Nodup) (hch:chainB l S=true) (hqb:Qgg l S n=true) (h0:G [] σ0) (hrun0:Q1g E l.toArray l frb σ0 (S.map (fun i=>(i,FV.bot))++cs) 0 hd []=some vs0)
  (hrun : ∀ vs σ, G vs σ -> Q1g E l.toArray l frb σ (S.map (fun i => (i, FV.bot)) ++ cs) 0 hd [] = some vs0) (hcs : ∀ vs σ, G vs σ -> Q0m E l frb σ vs0 cs) (hSl : ∀ i ∈ S, i < n)
  (hs : ∀ vs σ, G vs σ -> ∀ i o, S[vs.length]? = some i -> l[i]? = some o -> dstOk E.N o.dst = true /\ Q3k E l.toArray o (Q0x l (mixV S vs0 (fC S vs)) o ++ frb) σ (fun v σ' => G (vs ++ [v]) σ') (fun ps σ' => K (.panic ps) frb σ'))
  (htail : ∀ vs σ, vs.length = S.length -> G vs σ -> AOps E l.toArray tl K (Q0p (mixV S vs0 (fC S vs)) 0 hd ++ frb) σ) : AAny E l K fr σ0 := by
 have hnl:n < l.length:=by
  have:=hB
  simp only[drawB,Bool.and_eq_true,decide_eq_true_eq]at this
  exact this.1.1.1.1.1
 have hlast:∀k o,l[k]?=some o->k < n->o.after.all (fun e=>!Region.binds .any e||decide (e.on < k))=true:=fun k o hk hkn=>by
  have hB2:=hB
  simp only[drawB,Bool.and_eq_true,decide_eq_true_eq]at hB2
  exact List.all_eq_true.1 hB2.2 (o,k) (by
   rw[List.mem_zipIdx_iff_getElem?,List.getElem?_take_of_lt hkn]
   simpa using hk)
 obtain⟨hsp1,hsp2⟩:=Q2l hsp
 refine AAny.drawS2 n S vs0 (fun f σ=>∃vs,vs.length<=S.length/\f=fC S vs/\G vs σ) hm hB hsp hfb ⟨[],by simp,by funext i;cases S <;> rfl,h0⟩ (fun f σ ⟨vs,_,hf,_⟩ i hi=>by rw[hf];exact Qar hi) ?_ ?_ ?_
 ·intro i o hi hS hlo
  have hio:hd[i]?=some o:=by rw[←hsp1,List.getElem?_take_of_lt hi];exact hlo
  have key:∀vs σ,G vs σ->∃v,vs0[i]?=some v/\dstOk E.N o.dst=true/\HStep E l.toArray o (depFr l vs0 o++frb) σ σ v:=fun vs σ hG=>by
   obtain⟨v,h1,h3,h4⟩:=Q68 (vs:=vs0) hT hlast hd 0 [] vs0 rfl (fun i o hi=>by
    have hi2:i < n:=by
     have:=(List.getElem?_eq_some_iff.1 hi).1
     rw[←hsp1]at this;simp at this;omega
    rw[←hsp1,List.getElem?_take_of_lt hi2]at hi
    exact⟨by simpa using hi,by omega⟩) (hrun vs σ hG) (List.nil_append _) i o hio
   rw [Nat.zero_add] at h4
   refine⟨v,h1,h3,?_⟩
   rcases h4 with h4|h4
   ·have hl:lookC i cs=some v:=by
     have:∀{S:List Nat},(S.any fun k=>Nat.beq k i)=false->lookC i (S.map (fun i=>(i,FV.bot))++cs)=lookC i cs:=fun {S} hS=>by
      induction S with
      |nil=>rfl
      |cons s S ih=>
       simp only[List.any_cons,Bool.or_eq_false_iff]at hS
       simp only[List.map_cons,List.cons_append,lookC,hS.1,cond_false]
       exact ih hS.2
     rw[this hS]at h4;exact h4
    obtain⟨o',ho',hst⟩:=(hcs vs σ hG).get hl
    rw[hlo]at ho'
    cases ho'
    exact hst
   ·exact h4.2
  have hq:(o.after.toList.all fun e=>!Region.binds .any e||!(S.any fun k=>Nat.beq k e.on))=true:=by
   have h1:=List.all_eq_true.1 hqb (o,i) (by
    rw[List.mem_zipIdx_iff_getElem?,List.getElem?_take_of_lt hi]
    simpa using hlo)
   have h2:inS S i=false:=hS
   simp only[h2,Bool.false_or]at h1
   exact h1
  obtain⟨v,h1,h3,_⟩:=key [] σ0 h0
  refine⟨v,h1,h3,hq,fun f σ ⟨vs,_,_,hG⟩=>?_⟩
  obtain⟨v',h1',_,h4⟩:=key vs σ hG
  rw[h1]at h1'
  cases h1'
  exact h4
 ·rintro f σ i o ⟨vs,hlen,rfl,hG⟩ hS hlo hfi hdep
  obtain⟨s,hsS,he⟩:=List.any_eq_true.1 hS
  obtain rfl:s=i:=Nat.eq_of_beq_eq_true he
  obtain⟨p,hp⟩:=List.mem_iff_getElem?.1 hsS
  have hpS:=(List.getElem?_eq_some_iff.1 hp).1
  have hpv:p=vs.length:=by
   rcases Nat.lt_trichotomy p vs.length with h1|h1|h1
   ·rw[Qaq hn hp h1]at hfi
    have:=(List.getElem?_eq_none_iff.1 hfi);omega
   ·exact h1
   ·exfalso
    obtain⟨q,rfl⟩:∃q,p=q+1:=⟨p - 1,by omega⟩
    obtain⟨i0,hi0⟩:∃i0,S[q]?=some i0:=⟨S[q],List.getElem?_eq_getElem (by omega)⟩
    obtain⟨e,he,hb,heo⟩:=Qcf hch hi0 hp hlo
    have h2:=hdep e he hb (by rw[heo];exact List.any_eq_true.2 ⟨i0,List.mem_of_getElem? hi0,by simp⟩)
    rw[heo,Qeu hn hi0 (by omega)]at h2
    cases h2
  subst hpv
  obtain⟨k2,k3⟩:=hs vs σ hG s o hp hlo
  exact⟨k2,k3.mono fun v σ' hG'=>⟨vs++[v],by simp;omega,fC_upd hn hp,hG'⟩⟩
 ·rintro f σ ⟨vs,hlen,rfl,hG⟩ hall
  refine htail vs σ ?_ hG
  rcases Nat.lt_or_ge vs.length S.length with h1|h1
  ·exfalso
   obtain⟨i0,hi0⟩:∃i0,S[vs.length]?=some i0:=⟨S[vs.length],List.getElem?_eq_getElem h1⟩
   have hm:=List.mem_of_getElem? hi0
   have:=hall i0 hm (hSl i0 hm)
   rw[Qeu hn hi0 (Nat.le_refl _)]at this
   cases this
  ·omega
theorem ACode.drawC2{id:Nat}{fr:Fr}{σ0:St}{hd tl:List Oper}{vs0:List FV}(hT:TabOk E.P E.T)(n:Nat)(S:List Nat)(cs:List (Nat×FV))(G:List FV->St->Prop)(hm:E.P.follows .mixedOrders=true)(hB:drawB l n=true)(hsp:Q3l n l=some (hd,tl))(hfb:Fr.woO (dsts hd) fr=some frb)
  (hn:S.Nodup) (hch:chainB l S=true) (hqb:Qgg l S n=true) (h0:G [] σ0) (hrun0:Q1g E l.toArray l frb σ0 (S.map (fun i=>(i,FV.bot))++cs) 0 hd []=some vs0)
  (hrun:∀vs σ,G vs σ->Q1g E l.toArray l frb σ (S.map (fun i=>(i,FV.bot))++cs) 0 hd []=some vs0) (hcs:∀vs σ,G vs σ->Q0m E l frb σ vs0 cs) (hSl:∀i∈S,i < n)
  (hs:∀vs σ,G vs σ->∀i o,S[vs.length]?=some i->l[i]?=some o->dstOk E.N o.dst=true/\Q3k E l.toArray o (Q0x l (mixV S vs0 (fC S vs)) o++frb) σ (fun v σ'=>G (vs++[v]) σ') (fun ps σ'=>K (.panic ps) frb σ'))
  (htail:∀vs σ,vs.length=S.length->G vs σ->AOps E l.toArray tl K (Q0p (mixV S vs0 (fC S vs)) 0 hd++frb) σ):ACode E (.region id l.toArray true) K fr σ0:=AAny.code hm (AAny.drawC2 hT n S cs G hm hB hsp hfb hn hch hqb h0 hrun0 hrun hcs hSl hs htail)
end
end Go.Abs
namespace Go.Abs
theorem Q6z{ou:Outer}{k:Nat}{o:AObj}(h:OuOk ou)(ho:o.ids isO):OuOk (updO ou k o):=fun j x hx=>by
 by_cases e:k=j
 ·subst e;rw[Q06]at hx;cases hx;exact ho
 ·rw[Q0a _ e]at hx;exact h j x hx
end Go.Abs
namespace Go.Abs
theorem RV.flat{w:World}{C:Ctx}:∀{es:List (List AC)}{xss:List (List Value)},es.length=xss.length->(∀(i:Nat)(e:List AC)(x:List Value),es[i]?=some e->xss[i]?=some x->RV w C e x)->RV w C es.flatten xss.flatten
 |[],[],_,_=>by simp[RV]
 |[],_::_,h,_=>by simp at h
 |_::_,[],h,_=>by simp at h
 |e::es,x::xss,h,k=>by
  simp only[List.flatten_cons]
  have h1:=k 0 e x rfl rfl
  have h2:=RV.flat (es:=es) (xss:=xss) (by simpa using h) fun i e' x' he hx=>k (i+1) e' x' (by simpa using he) (by simpa using hx)
  exact RV.append h1 h2
theorem AStep.buildOwn{E:Env}{o:Oper}{fr:Fr}{σ:St}{t:TypeId}{ti tj:TI}{s len:Nat}{parts:Array (Nat×Operand)}{es:List (List AC)}(hT:TabOk E.P E.T)(ho:o.op=.buildSlice t len parts)(ht:Tab.get t E.T=some ti)(hk:Nat.beq ti.kind 2=true)(hj:Tab.get ti.elem E.T=some tj)(hs:tj.size=s)
  (he:Q6i E.Γ fr s 0 parts.toList=some es) (hc:(Nat.beq es.length len&&Nat.ble (len * s) 16777216&&!(Nat.beq len 0))=true):AStep E o fr σ (.one (.arr (.l σ.n) s 0 len len)) (σ.push (.cells es.flatten)):=by
 intro F w C tmps hi hf next Q hk2
 subst hs
 simp only[Bool.and_eq_true]at hc
 have e1:es.length=len:=Nat.eq_of_beq_eq_true hc.1.1
 have e2:len * tj.size<=16777216:=Nat.le_of_ble_eq_true hc.1.2
 have e3:len≠0:=by intro e;subst e;simp at hc
 obtain⟨g1,g2,xss,g3,g4⟩:=Q89 (a:=⟨tmps,E.ds⟩) hi hf tj.size he
 have hlen:xss.length=es.length:=by rw[g3];simpa using g2
 have hxs:∀x∈xss,x.length=tj.size:=by
  intro x hx
  obtain⟨i,hil,hie⟩:=List.getElem_of_mem hx
  have he:es[i]?=some (es[i]'(by omega)):=List.getElem?_eq_getElem (by omega)
  obtain⟨k1,k2⟩:=g4 i _ x he (by rw[List.getElem?_eq_getElem hil,hie])
  rw[RV.length k2,k1]
 have hrun:=Q4n (hT t ti ht) (Nat.eq_of_beq_eq_true hk) (hT _ _ hj) (n:=len) (vs:=parts.toList.map (fun p=>Act.eval ⟨tmps,E.ds⟩ p.2)) (xss:=xss) (by rw[g3];simp) (by omega) hxs e2 e3 w
 have hparts:Array.map (fun p:Nat×Operand=>(p.1,Act.eval ⟨tmps,E.ds⟩ p.2)) parts=((List.range' 0 len).zip (parts.toList.map (fun p=>Act.eval ⟨tmps,E.ds⟩ p.2))).toArray:=by
  apply Array.ext'
  rw[show len=parts.toList.length by rw[←e1,g2],←g1]
  simp[List.zip_map']
 have hrv:RV w C es.flatten xss.flatten:=RV.flat hlen.symm fun i e x h5 h6=>(g4 i e x h5 h6).2
 obtain⟨C',hE,hno,hnp,hin,hok,hblk⟩:=hi.newObj (cs:=es.flatten) (xs:=xss.flatten) hrv ti.elem
 unfold Oper.wp
 have hrun2:(execOp (Act.eval ⟨tmps,E.ds⟩) o).run E.P w=.ok (.value (.slice (some ⟨w.heap.size,0,none⟩) len len)) (w.alloc (.cells xss.flatten.toArray ti.elem)):=by
  unfold execOp
  simp only[ho,Sem.run_bind]
  rw[show (Array.map (fun x:Nat×Operand=>match x with|(i,x)=>(i,Act.eval ⟨tmps,E.ds⟩ x)) parts)=Array.map (fun p:Nat×Operand=>(p.1,Act.eval ⟨tmps,E.ds⟩ p.2)) parts from rfl,hparts,hrun]
  rfl
 rw[hrun2,Oper.upon_value]
 exact hk2 _ _ C' ⟨Stp.alloc hi.base _ _,hE,Nat.le_of_eq hno.symm,hnp⟩ hin (by simp only[RF,R];exact⟨hok,by rw[hblk,Nat.zero_mul],Nat.le_refl _⟩)
end Go.Abs
namespace Go.Abs
theorem AStep.callK{E:Env}{o:Oper}{fr:Fr}{σ:St}{f:Operand}{args:Array Operand}{tys:Array TypeId}{g:Nat}{first caps:List AC}{vs:List FV}{r:FV}
  (hΓ:∀g cs,(g,cs)∈E.Γ->idsL isO cs) (ho:o.op=.call { callee:=.value f,args:=args,argTypes:=tys })
  (hf:aEval E.Γ fr f=some (.one (.fn (.func g) first caps))) (hargs:Q13 E.Γ fr args.toList=some vs) (hids:idsF isO (first.map .one++vs++caps.map .one)) (hou:OuOk σ.ou)
  (hc:AFn E.P E.Γ g (first.map .one++vs++caps.map .one) σ.ou (fun r' ou'=>r'=r/\ou'=σ.ou)):AStep E o fr σ r σ:=by
 intro F w C tmps hi hfr next Q hk
 have hcallee:=Q02 (a:=⟨tmps,E.ds⟩) hi hfr hf
 simp only[RF,R]at hcallee
 obtain⟨xs,ys,hfv,hx,hy⟩:=hcallee
 have hvs:=Q1k (a:=⟨tmps,E.ds⟩) hi hfr hargs
 have hall:RFs w C (first.map .one++vs++caps.map .one) (xs++args.toList.map (Act.eval ⟨tmps,E.ds⟩)++ys):=(RFs.ones hx |>.append hvs).append (RFs.ones hy)
 have hrun:(execOp (Act.eval ⟨tmps,E.ds⟩) o).run E.P w=.ok (.enter g (xs++args.toList.map (Act.eval ⟨tmps,E.ds⟩)++ys).toArray) w:=by
  unfold execOp
  simp only[ho,resolve,Sem.run_bind,hfv,Deferred.ofValue,Sem.run_pure,Result.andThen_ok,invoke,hc.1]
  congr 2
  apply Array.ext'
  simp
 unfold Oper.wp
 rw[hrun,Oper.upon_enter]
 have hc1:Chg isO w C w { C with nl:=0 }:=⟨fun _ _=>rfl,fun _ h=>h,fun i hp ho=>⟨by cases i with|l k=>cases hp|o k=>exact ho,rfl,rfl⟩⟩
 refine (hc.2 (Q36 w C σ.ou) w { C with nl:=0 } _ rfl (hi.forCallee hou hΓ) (RFs.chg hc1 _ _ hids hall)).mono fun e w' ⟨v,r',ou',C',he,hgo,h0,hi',hr,hQ1,hQ2⟩=>?_
 subst he;subst hQ1;subst hQ2
 obtain⟨hb1,hb2,hb3⟩:=hi.back hgo h0 hi'
 have hrid:r'.ids isO:=FV.ids_mono (Q56 h0) r' (RF.idsOk r' v hr)
 exact hk v w' _ hb1 hb2 (RF.chg hb3 r' v hrid hr)
theorem Q0m.callK{E:Env}{l:List Oper}{frb:Fr}{σ:St}{vs:List FV}{k:Nat}{v:FV}{r:List (Nat×FV)}{o:Oper}{f:Operand}{args:Array Operand}{tys:Array TypeId}{g:Nat}{first caps:List AC}{us bs:List FV}(hΓ:∀g cs,(g,cs)∈E.Γ->idsL isO cs)
  (hc:AFn E.P E.Γ g bs σ.ou (fun r' ou'=>r'=v/\ou'=σ.ou)) (hou:OuOk σ.ou) (hids:idsF isO bs) (hk:l[k]?=some o) (hgd:o.guard=none)
  (ho:o.op=.call { callee:=.value f,args:=args,argTypes:=tys }) (hf:aEval E.Γ (depFr l vs o++frb) f=some (.one (.fn (.func g) first caps))) (hargs:Q13 E.Γ (depFr l vs o++frb) args.toList=some us) (has:first.map .one++us++caps.map .one=bs)
  (hr:Q0m E l frb σ vs r):Q0m E l frb σ vs ((k,v)::r):=by
 subst has
 exact .step hk (HStep.plain hgd (AStep.callK hΓ ho hf hargs hids hou hc)) hr
theorem AOps.callK{E:Env}{ops:Array Oper}{rest:List Oper}{o:Oper}{K:Cont}{fr:Fr}{σ:St}{d:Nat}{f:Operand}{args:Array Operand}{tys:Array TypeId}{g:Nat}{first caps:List AC}{vs bs:List FV}{r:FV}
  (hΓ:∀g cs,(g,cs)∈E.Γ->idsL isO cs) (hc:AFn E.P E.Γ g bs σ.ou (fun r' ou'=>r'=r/\ou'=σ.ou)) (hgd:o.guard=none) (hdst:o.dst=some d) (hd:Nat.ble (d+1) E.N=true) (ho:o.op=.call { callee:=.value f,args:=args,argTypes:=tys })
  (hf:aEval E.Γ fr f=some (.one (.fn (.func g) first caps))) (hargs:Q13 E.Γ fr args.toList=some vs) (has:first.map .one++vs++caps.map .one=bs) (hou:OuOk σ.ou) (hids:idsF isO bs)
  (h:AOps E ops rest K ((d,r)::fr) σ):AOps E ops (o::rest) K fr σ:=by
 subst has
 exact AOps.step1 hgd hdst hd (AStep.callK hΓ ho hf hargs hids hou hc) h
theorem Q2q.appOwn{E:Env}{o:Oper}{fr:Fr}{σ σ1:St}{t:TypeId}{ti tj:TI}{x y:Operand}{c d:AC}{s cap0:Nat}{es news:List (List AC)}(hT:TabOk E.P E.T)
  (ho:o.op=.call { callee:=.builtin .append,args:=#[x,y],argTypes:=#[t,t] }) (ht:Tab.get t E.T=some ti) (hk:Nat.beq ti.kind 2=true) (hj:Tab.get ti.elem E.T=some tj) (hx:aEval E.Γ fr x=some (.one c)) (hy:aEval E.Γ fr y=some (.one d)) (hb:BaseO σ c s es cap0 σ1) (hsrc:Src d s news) (hne:news≠[])
  (hs:Nat.beq tj.size s=true) (hbytes:(es.length+news.length) * tj.bytes<=140737488355328) (h63:es.length+news.length<=140737488355328):
  Q2q E o fr σ (fun v σ'=>∃cap,(es++news).length<=cap/\v=.one (.arr (.l σ.n) s 0 (es++news).length cap)/\σ'=σ1.push (.cells (vec s (es++news) cap))):=by
 intro F w C tmps hi hf next Q hk3
 have h1:=Q02 (a:=⟨tmps,E.ds⟩) hi hf hx
 have h2:=Q02 (a:=⟨tmps,E.ds⟩) hi hf hy
 simp only[RF]at h1 h2
 obtain⟨v',w',C',cap,hrun,hgo,hi',hr,hle⟩:=hi.appendOwn (ty:=o.type) ((hT t ti ht).slice (Nat.eq_of_beq_eq_true hk)) (hT _ _ hj) hb hsrc hne (Nat.eq_of_beq_eq_true hs) hbytes h63 h1 h2
 have hex:(execOp (Act.eval ⟨tmps,E.ds⟩) o).run E.P w=.ok (.value v') w':=by
  unfold execOp
  simp only[ho,resolve,invoke,builtin,Sem.run_bind,Sem.run_pure,Result.andThen_ok,List.map_toArray,List.map_cons,List.map_nil,hrun]
 unfold Oper.wp
 rw[hex,Oper.upon_value]
 exact hk3 _ _ C' _ _ ⟨cap,hle,rfl,rfl⟩ hgo hi' (by simp only[RF];exact hr)
theorem ACode.drawR1{E:Env}{id:Nat}{l:List Oper}{K:Cont}{fr frb:Fr}{σ0:St}{hd tl:List Oper}{vs0:List FV}{oal:Oper}(hT:TabOk E.P E.T)(n al:Nat)(cs:List (Nat×FV))(P:FV->St->Prop)(hm:E.P.follows .mixedOrders=true)(hB:drawB l n=true)(hsp:Q3l n l=some (hd,tl))(hfb:Fr.woO (dsts hd) fr=some frb)
  (hch:chainB l [al]=true) (hqb:Qgg l [al] n=true) (hrun0:Q1g E l.toArray l frb σ0 ((al,.bot)::cs) 0 hd []=some vs0) (hal:l[al]?=some oal) (haln:Nat.blt al n=true) (hd1:dstOk E.N oal.dst=true)
  (hrunP:∀v σ,P v σ->Q1g E l.toArray l frb σ ((al,.bot)::cs) 0 hd []=some vs0) (hcs0:Q0m E l frb σ0 vs0 cs) (hcsP:∀v σ,P v σ->Q0m E l frb σ vs0 cs)
  (hs:Q3k E l.toArray oal (Q0x l (mixV [al] vs0 (fC [al] [])) oal++frb) σ0 P (fun ps σ'=>K (.panic ps) frb σ'))
  (htail:∀v σ,P v σ->AOps E l.toArray tl K (Q0p (mixV [al] vs0 (fC [al] [v])) 0 hd++frb) σ):ACode E (.region id l.toArray true) K fr σ0:=by
 refine ACode.drawC2 hT n [al] cs (fun vs σ=>match vs with|[]=>σ=σ0|[v]=>P v σ|_=>False) hm hB hsp hfb (by simp) hch hqb rfl hrun0 ?_ ?_ ?_ ?_ ?_
 ·intro vs σ h
  match vs with
  |[]=>subst h;exact hrun0
  |[v]=>exact hrunP v σ h
  |_::_::_=>exact h.elim
 ·intro vs σ h
  match vs with
  |[]=>subst h;exact hcs0
  |[v]=>exact hcsP v σ h
  |_::_::_=>exact h.elim
 ·intro i hi
  simp at hi;subst hi
  have:i+1<=n:=by simpa[Nat.blt]using haln
  omega
 ·intro vs σ h i o hi ho
  match vs with
  |[]=>
   subst h;cases hi
   rw[hal]at ho;cases ho
   exact⟨hd1,hs⟩
  |_::_=>cases hi
 ·intro vs σ hl h
  match vs,hl with
  |[v],_=>exact htail v σ h
theorem AFn.wkArgs{P:Program}{Γ:List (Nat×List AC)}{g:Nat}{xs ys:List FV}{ou:Outer}{Q:FV->Outer->Prop}(h:AFn P Γ g ys ou Q)(hw:WkFs xs ys):AFn P Γ g xs ou Q:=⟨h.1,fun F w C cargs h0 hi hr=>h.2 F w C cargs h0 hi (hw w C cargs hr)⟩
end Go.Abs
namespace Go.Abs
theorem RV.setC{w:World}{C:Ctx}{a b:AC}(hab:∀v,R w C a v->R w C b v):∀{cs:List AC}{off:Nat}{xs:List Value},RV w C cs xs->cs[off]?=some a->RV w C (cs.set off b) xs
 |[],_,_,_,h=>by simp at h
 |c::cs,0,xs,⟨x,xs',e,h1,h2⟩,h=>by
  simp only[List.getElem?_cons_zero,Option.some.injEq]at h
  subst h
  exact⟨x,xs',e,hab x h1,h2⟩
 |c::cs,off+1,xs,⟨x,xs',e,h1,h2⟩,h=>by
  simp only[List.getElem?_cons_succ]at h
  exact⟨x,xs',e,h1,RV.setC hab h2 h⟩
theorem AOps.freezeArrO{E:Env}{ops:Array Oper}{l:List Oper}{K:Cont}{fr:Fr}{σ:St}(i j:Id)(off:Nat){s cap:Nat}{es:List (List AC)}{cs:List AC}(hg:σ.get i=some (.cells (vec s es cap)))(hl:∀x∈es,x.length=s)(hgj:(σ.set i .dead).get j=some (.cells cs))(hoff:cs[off]?=some (.arr i s 0 es.length cap))
  (h : AOps E ops l K fr ((σ.set i .dead).set j (.cells (cs.set off (.sl s es))))) : AOps E ops l K fr σ := by
 intro F w0 C0 w C tmps hgo hi hf
 obtain⟨h1,h2,h3⟩:=Qd8 hi hf hg (fr':=[]) trivial
 obtain⟨hok,zs,T,b1,b2,b3,b4⟩:=hi.obj i _ hg
 have key:∀v,R w (C.froze (C.blk i)) (.arr i s 0 es.length cap) v->R w (C.froze (C.blk i)) (.sl s es) v:=by
  intro u hr
  simp only[R,Nat.zero_mul]at hr
  refine⟨some ⟨C.blk i,0,none⟩,cap,hr.2.1,hr.2.2,.inr ⟨_,rfl,rfl,?_⟩⟩
  have hfl:=Q3d hl
  have hzl:=RV.length b3
  have hv:RV w (C.froze (C.blk i)) es.flatten (zs.take (es.length * s)):=by
   have:=(b3.take (es.length * s)).ext h1.chg
   rwa [vec,List.take_append_of_le_length (by omega),List.take_of_length_le (by omega)]at this
  refine RS.ofVals 0 hl hv fun j v hj=>⟨?_,.inr rfl⟩
  have h2:j < es.length * s:=by have:=(List.getElem?_eq_some_iff.1 hj).1;simp at this;omega
  rw[List.getElem?_take_of_lt h2]at hj
  rw[Nat.zero_add,cell_of_row _ _ _ _ _ _ b1]
  simpa using hj
 obtain⟨hokj,xs,Tj,o1,o2,o3,o4⟩:=h2.obj j _ hgj
 obtain⟨he,hi'⟩:=h2.turn hgj (g:=(C.froze (C.blk i)).blk j) rfl (w':=w) rfl (fun _ _=>rfl) (fun _ _ _=>rfl) (o':=.cells (cs.set off (.sl s es))) rfl fun _=>⟨xs,Tj,o1,o2,RV.setC key o3 hoff,o4⟩
 refine h F w0 C0 w _ tmps (hgo.trans h1.toO) hi' ⟨hf.1,fun k x hk=>?_⟩
 obtain⟨u,hu,hr⟩:=hf.2 k x hk
 exact⟨u,hu,hr.ext h1.chg⟩
end Go.Abs
namespace Go.Abs
theorem Q4q(n:Nat)(lo:List (Nat×AObj))(ou:Outer)(k:Nat)(o:AObj):St.set ⟨n,lo,ou⟩ (.o k) o=⟨n,lo,updO ou k o⟩:=by
 have:(fun j=>bif Nat.beq j k then some o else ou j)=updO ou k o:=by
  funext j
  by_cases e:k=j
  ·subst e;rw[Q06];simp
  ·rw[Q0a _ e,Q09 (fun h=>e h.symm)];rfl
 show St.mk n lo (fun j=>bif Nat.beq j k then some o else ou j)=_
 rw[this]
end Go.Abs
namespace Go.CoreX
structure Alt where
 tag:Int
 binds:List Int
 deriving DecidableEq
structure Ex where
 op:Int
 n:Int
 binds:List Int
 kids:List Int
 alts:List Alt
 deriving DecidableEq
inductive Tr where
 |mk (op n:Int) (binds:List Int) (kids:List Tr) (alts:List Alt)
instance:Inhabited Tr:=⟨.mk 0 0 [] [] []⟩
def Tr.op:Tr->Int|.mk o _ _ _ _=>o
def Tr.n:Tr->Int|.mk _ n _ _ _=>n
def Tr.binds:Tr->List Int|.mk _ _ b _ _=>b
def Tr.kids:Tr->List Tr|.mk _ _ _ k _=>k
def Tr.alts:Tr->List Alt|.mk _ _ _ _ a=>a
@[simp] theorem Tr.op_mk (o n b k a):(Tr.mk o n b k a).op=o:=rfl
@[simp] theorem Tr.n_mk (o n b k a):(Tr.mk o n b k a).n=n:=rfl
@[simp] theorem Tr.binds_mk (o n b k a):(Tr.mk o n b k a).binds=b:=rfl
@[simp] theorem Tr.kids_mk (o n b k a):(Tr.mk o n b k a).kids=k:=rfl
@[simp] theorem Tr.alts_mk (o n b k a):(Tr.mk o n b k a).alts=a:=rfl

def Q2c (ts:List Tr)(x:Ex):Tr:=.mk x.op x.n x.binds (x.kids.map fun k=>ts.getD k.toNat default) x.alts
def Qer (ts:List Tr)(x:Ex):List Tr:=ts++[Q2c ts x]
def growL (e:List Ex):List Tr:=e.foldl Qer []
def grow (e:List Ex):Tr:=(growL e).getD (e.length - 1) default

mutual
def listT (out:List Ex):Tr->List Ex
 |.mk o n b k a=>(Q01 out k).1++[⟨o,n,b,(Q01 out k).2,a⟩]
def Q01 (out:List Ex):List Tr->List Ex×List Int
 |[]=>(out,[])
 |t::ts=>((Q01 (listT out t) ts).1,(((listT out t).length:Int) - 1)::(Q01 (listT out t) ts).2)
end

def Q04 (op:Int)(binds:List Int)(alts:List Alt):List Int:=(if op=2∨op=4∨op=5 then binds else [])++alts.flatMap (·.binds)
def Q1x (op:Int)(binds:List Int)(alts:List Alt)(k:Int):List Int:=
 if op=2∨op=5∨(op=4/\k=1)then binds else if 0 < (alts.length:Int)/\0 < k/\k<=alts.length then (alts.getD (k - 1).toNat ⟨0,[]⟩).binds else []

def Q15 (i:Nat)(s:Option (List Int×List Int))(k:Int):Option (List Int×List Int):=
 s.bind fun dp=>if k < 0∨(i:Int)<=k then none else some (dp.1.set i (if dp.1.getD k.toNat 0 > dp.1.getD i 0 then dp.1.getD k.toNat 0 else dp.1.getD i 0),dp.2.set k.toNat (dp.2.getD k.toNat 0+1))
def Q1c (s:Option (List Int×List Int))(x:Ex×Nat):Option (List Int×List Int):=
 (x.1.kids.foldl (Q15 x.2) s).map fun dp=>(dp.1.set x.2 (dp.1.getD x.2 0+1),dp.2)
def Q43 (e:List Ex):Option (List Int×List Int):=e.zipIdx.foldl Q1c (some (List.replicate e.length 0,List.replicate e.length 0))
def Q1t (n:Nat)(p:List Int)(i:Nat):Bool:=!((p.getD i 0==1)==decide ((i:Int) < n - 1))
def Q1f (e:List Ex):Int:=
 if 4096 < e.length then 2 else if e.length=0 then 3 else
 match Q43 e with
 |none=>3
 |some (d,p)=>if (List.range e.length).any (Q1t e.length p)=true then 3 else if 400 < d.getD (e.length - 1) 0 then 2 else 0

def between (n low high:Int):Bool:=decide (low<=n)&&decide (n<=high)
def Q6t (op:Int):Bool:=op==14||op==15||op==16
def Q6v (op:Int):Bool:=op==2||op==5||op==12||op==13
def Q5j (x:Ex)(i:Nat)(a:Alt):Bool:=
 ((x.alts.take i).any (fun b=>b.tag==a.tag)||decide (a.tag < -1)) ||
 (x.op==7&&a.tag==-1&&(decide ((i:Int) < x.alts.length - 1)||decide (0 < a.binds.length))) ||
 ((x.op==13&&!(((i:Int)==0)==(a.tag==-1)))||(x.op==13&&!((a.binds.length:Int)==(if 2 < (i:Int)+1 then 2 else (i:Int)+1))))
def Q6g (x:Ex):Bool:=!(x.alts.zipIdx.any fun ai=>Q5j x ai.2 ai.1)&&((x.kids.length:Int)==1+x.alts.length&&(x.op==7||decide (0 < x.alts.length)))
def Q86:List Int:=[2,2,2,2,2,2,2,1,2,1,2,3]
def wants (x:Ex):Option (Int×Int×Bool):=
 if x.op=0∨x.op=1∨x.op=17 then some (0,0,true) else
 if x.op=2 then some (1,x.binds.length,false) else
 if x.op=3 then some (if (x.kids.length:Int) > 1 then x.kids.length else 1,0,false) else
 if x.op=4 then some (2,1,false) else
 if x.op=5 then some (x.binds.length+1,if (x.binds.length:Int) > 1 then x.binds.length else 1,false) else
 if x.op=6 then some (x.kids.length,0,true) else
 if x.op=8 then (if between x.n 0 11=true then some (Q86.getD x.n.toNat 0,0,true)else none) else
 if x.op=9 then some (x.binds.length,x.binds.length,false) else
 if x.op=10∨x.op=12 then some (1,0,true) else
 if x.op=11 then some (2,0,true) else
 if x.op=14∨x.op=15 then some (x.kids.length,0,true) else
 if x.op=16 then some (1,0,true)else none
def shape (x:Ex):Bool:=
 if x.op=7∨x.op=13 then Q6g x&&x.binds.length==0&&x.n==0 else
 match wants x with
 |none=>false
 |some (k,b,u)=>(x.kids.length:Int)==k&&(x.binds.length:Int)==b&&x.alts.length==0&&(u||x.n==0)
def lowN (op:Int):Int:=if op=1 then -1073741824 else if op=17 then 1 else 0
def highN (op:Int):Int:=if op=1 then 1073741823 else if op=6 then 255 else if op=17 then 6 else if op=16 then 15 else 1048575
def Q2h (n:Int):Bool:=between n 0 1048575
def Q2w (op:Int)(a:Alt):Bool:=!((decide (255 < a.tag)&&op==7)||decide (1048576<=a.tag))&&a.binds.all Q2h
def fields (x:Ex):Int:=x.alts.foldl (fun f a=>if (a.binds.length:Int) > f then a.binds.length else f) x.binds.length
def ranges (x:Ex):Int:=
 if between x.n (lowN x.op) (highN x.op)=false then 4 else
 if x.binds.all Q2h=false then 4 else
 if x.alts.all (Q2w x.op)=false then 4 else
 if ((decide (fields x > (if x.op=2 then 6 else 16))||((x.op==6||x.op==15)&&decide (16 < (x.kids.length:Int))))||(x.op==3&&decide (7 < (x.kids.length:Int))))||(x.op==14&&decide (6 < (x.kids.length:Int)))then 2 else 0
def Q0y (e:List Ex)(x:Ex)(i:Nat):Bool:=
 (x.op==5&&!((e.getD (x.kids.getD i 0).toNat ⟨0,0,[],[],[]⟩).op==2))||(x.op==9&&decide (0 < i)&&decide (x.binds.getD (i - 1) 0 ≥ x.binds.getD i 0))
def Q1r (e:List Ex)(x:Ex):Int:=
 if shape x=false then 3 else if ranges x≠0 then ranges x else if (List.range x.binds.length).any (Q0y e x)=true then 3 else 0
def Q0k (flat:Bool)(e:List Ex)(x:Ex):Int:=if (flat&&Q6v x.op)||(!flat&&Q6t x.op)then 3 else Q1r e x
def Q1d {α:Type}(f:α->Int):List α->Int
 |[]=>0
 |a::l=>if f a≠0 then f a else Q1d f l

def Q4b:List Int->Bool
 |[]=>false
 |n::l=>l.contains n||Q4b l
def Q0n (x:Ex):List Int:=Q04 x.op x.binds x.alts
def Q07 (e:List Ex):List Int:=e.flatMap Q0n

mutual
def occT (sc:List Int):Tr->List Int
 |.mk o n b k a=>(if o=0/\sc.contains n=false then [n]else [])++occTs sc o b a 0 k
def occTs (sc:List Int)(o:Int)(b:List Int)(a:List Alt):Nat->List Tr->List Int
 |_,[]=>[]
 |i,t::ts=>occT (Q1x o b a i++sc) t++occTs sc o b a (i+1) ts
end
def Q49 (n:Int):List Int->List Int
 |[]=>[n]
 |m::l=>if n < m then n::m::l else if n=m then m::l else m::Q49 n l
def sortS (l:List Int):List Int:=l.foldr Q49 []
def Q0r (t:Tr):List Int:=sortS (occT [] t)

def body (e:List Ex)(params:List Int)(flat:Bool):Int:=
 if Q1f e≠0 then Q1f e else
 if Q1d (Q0k flat e) e≠0 then Q1d (Q0k flat e) e else
 if Q4b (params++Q07 e)=true then 7 else
 if (Q0r (grow e)).all (fun n=>params.contains n)=true then 0 else 6
def check (e:List Ex):Int:=body e [] false
end Go.CoreX
namespace Go.CoreX
structure Lab where
 op:Int
 n:Int
 binds:List Int
 ops:List Int
 alts:List Alt
 deriving DecidableEq
mutual
def sumT (g:Lab->Int):Tr->Int
 |.mk o n b k a=>g ⟨o,n,b,k.map Tr.op,a⟩+sumTs g k
def sumTs (g:Lab->Int):List Tr->Int
 |[]=>0
 |t::ts=>sumT g t+sumTs g ts
end
def mx (m d:Int):Int:=if d > m then d else m
mutual
def Q0w:Tr->Int
 |.mk _ _ _ k _=>(Q4d k).foldl mx 0+1
def Q4d:List Tr->List Int
 |[]=>[]
 |t::ts=>Q0w t::Q4d ts
end
theorem Q62:∀l:List Tr,Q4d l=l.map Q0w
 |[]=>rfl
 |t::ts=>by simp[Q4d,Q62 ts]
theorem Q6j(g:Lab->Int):∀l:List Tr,sumTs g l=(l.map (sumT g)).sum
 |[]=>rfl
 |t::ts=>by simp[sumTs,Q6j g ts]
theorem Q1m(e:List Ex)(x:Ex):growL (e++[x])=growL e++[Q2c (growL e) x]:=by simp[growL,Qer]
theorem Q53{α:Type}{P:List α->Prop}(h0:P [])(h1:∀l x,P l->P (l++[x]))(l:List α):P l:=by
 have:∀l:List α,P l.reverse:=by
  intro l
  induction l with
  |nil=>exact h0
  |cons a l ih=>rw[List.reverse_cons];exact h1 _ _ ih
 simpa using this l.reverse
theorem Q10(e:List Ex):(growL e).length=e.length:=by
 refine Q53 (P:=fun e=>(growL e).length=e.length) rfl (fun l x ih=>?_) e
 rw[Q1m];simp[ih]
theorem Qha(e l:List Ex):∃r,growL (e++l)=growL e++r:=by
 refine Q53 (P:=fun l=>∃r,growL (e++l)=growL e++r) ⟨[],by simp⟩ (fun l x ih=>?_) l
 obtain⟨r,h⟩:=ih
 exact⟨r++[Q2c (growL (e++l)) x],by rw[←List.append_assoc,Q1m,h];simp⟩
theorem Q5b{α:Type}{l r:List α}{i:Nat}{d:α}(h:i < l.length):(l++r).getD i d=l.getD i d:=by
 simp[List.getD,List.getElem?_append_left h]
theorem Q3p{e l:List Ex}{i:Nat}(h:i < e.length):(growL (e++l)).getD i default=(growL e).getD i default:=by
 obtain⟨r,hr⟩:=Qha e l
 rw[hr,Q5b (by rw[Q10];exact h)]
theorem Q6s(e l:List Ex)(x:Ex):(growL (e++x::l)).getD e.length default=Q2c (growL e) x:=by
 rw[show e++x::l=(e++[x])++l by simp,Q3p (by simp),Q1m]
 simp[List.getD,Q10]
theorem Qh9(e:List Ex)(x:Ex):grow (e++[x])=Q2c (growL e) x:=by
 unfold grow
 have:=Q6s e [] x
 simpa using this
def cnt:List Ex->Nat->Nat
 |[],_=>0
 |x::e,i=>x.kids.count (i:Int)+cnt e i
theorem Qde(e l:List Ex)(i:Nat):cnt (e++l) i=cnt e i+cnt l i:=by
 induction e with
 |nil=>simp[cnt]
 |cons x e ih=>simp[cnt,ih,Nat.add_assoc]
def Q0h (e:List Ex):Prop:=∀(j:Nat)(x:Ex),e[j]?=some x->∀k∈x.kids,0<=k/\k < (j:Int)
theorem Q33{e:List Ex}{x:Ex}:Q0h (e++[x])↔Q0h e/\∀k∈x.kids,0<=k/\k < e.length:=by
 constructor
 ·intro h
  refine⟨fun j y hj=>h j y ?_,?_⟩
  ·rw[List.getElem?_append_left (List.getElem?_eq_some_iff.1 hj).1];exact hj
  ·exact h e.length x (by simp)
 ·intro ⟨h1,h2⟩ j y hj
  by_cases hl:j < e.length
  ·rw[List.getElem?_append_left hl]at hj;exact h1 j y hj
  ·rw[List.getElem?_append_right (by omega)]at hj
   have:j=e.length:=by
    have:=(List.getElem?_eq_some_iff.1 hj).1
    simp at this;omega
   subst this
   simp at hj;subst hj;exact h2
theorem Q4k{e l:List Ex}(h:Q0h (e++l)):Q0h e:=fun j y hj=>h j y (by
 rw[List.getElem?_append_left (List.getElem?_eq_some_iff.1 hj).1];exact hj)

structure Run (pre:List Ex)(N:Nat)(d p:List Int):Prop where
 dl:d.length=N
 pl:p.length=N
 pv:∀i,i < N->p.getD i 0=cnt pre i
 dv:∀i,i < pre.length->d.getD i 0=Q0w ((growL pre).getD i default)
 d0:∀i,pre.length<=i->d.getD i 0=0
theorem Q39(i:Nat):∀ks:List Int,ks.foldl (Q15 i) none=none
 |[]=>rfl
 |k::ks=>by rw[List.foldl_cons];exact Q39 i ks
theorem Q3z{l:List Int}{i:Nat}{v:Int}(h:i < l.length):(l.set i v).getD i 0=v:=by simp[List.getD,h]
theorem getD_set_ne{l:List Int}{i j:Nat}{v:Int}(h:i≠j):(l.set i v).getD j 0=l.getD j 0:=by simp[List.getD,List.getElem?_set_ne h]
theorem Qid{l:List Int}{i:Nat}(h:i < l.length):l.set i (l.getD i 0)=l:=by
 apply List.ext_getElem?
 intro j
 by_cases hj:i=j
 ·subst hj;simp[h,List.getD,List.getElem?_eq_getElem h]
 ·rw[List.getElem?_set_ne hj]
theorem Qef{i N:Nat}:∀(ks:List Int)(d p:List Int),d.length=N->p.length=N->i < N->(∀k∈ks,0<=k/\k < i)->
  ∃p',ks.foldl (Q15 i) (some (d,p))=some (d.set i (ks.foldl (fun m k=>mx m (d.getD k.toNat 0)) (d.getD i 0)),p')/\p'.length=N/\∀j,j < N->p'.getD j 0=p.getD j 0+ks.count (j:Int)
 | [], d, p, hd, hp, hi, _ => ⟨p, by rw [List.foldl_nil, List.foldl_nil, Qid (show i < d.length by omega)], hp, by simp⟩
 |k::ks,d,p,hd,hp,hi,hk=>by
  obtain⟨k0,k1⟩:=hk k (by simp)
  have hks:∀k∈ks,0<=k/\k < i:=fun y hy=>hk y (by simp[hy])
  obtain⟨p',h1,h2,h3⟩:=Qef ks (d.set i (mx (d.getD i 0) (d.getD k.toNat 0))) (p.set k.toNat (p.getD k.toNat 0+1)) (by simpa using hd) (by simpa using hp) hi hks
  refine⟨p',?_,h2,fun j hj=>?_⟩
  ·rw[List.foldl_cons]
   have e1:Q15 i (some (d,p)) k=some (d.set i (mx (d.getD i 0) (d.getD k.toNat 0)),p.set k.toNat (p.getD k.toNat 0+1)):=by
    simp only[Q15,Option.bind_some,mx]
    rw[if_neg (by omega)]
   rw[e1,h1,List.set_set,Q3z (by omega),List.foldl_cons]
   congr 2
   have:∀(l:List Int) (m:Int),(∀k∈l,0<=k/\k < i)->l.foldl (fun m k'=>mx m ((d.set i (mx (d.getD i 0) (d.getD k.toNat 0))).getD k'.toNat 0)) m=l.foldl (fun m k'=>mx m (d.getD k'.toNat 0)) m:=by
    intro l
    induction l with
    |nil=>intro m _;rfl
    |cons y l ih=>
     intro m hl
     have hy:=hl y (by simp)
     simp only[List.foldl_cons]
     rw[getD_set_ne (by omega),ih _ (fun z hz=>hl z (by simp[hz]))]
   rw[this ks _ hks]
  ·rw[h3 j hj,List.count_cons]
   by_cases hkj:k.toNat=j
   ·subst hkj
    rw[Q3z (by omega)]
    have:(k==((k.toNat:Nat):Int))=true:=by simp;omega
    rw[if_pos this];omega
   ·rw[getD_set_ne hkj]
    have:¬(k==(j:Int))=true:=by simp;omega
    rw[if_neg this];omega
theorem Qeg{i N:Nat}:∀(ks:List Int)(d p:List Int),¬(∀k∈ks,0<=k/\k < i)->ks.foldl (Q15 i) (some (d,p))=none
 | [], d, p, h => absurd (by simp) h
 |k::ks,d,p,h=>by
  rw[List.foldl_cons]
  by_cases hk:0<=k/\k < i
  ·have e1:Q15 i (some (d,p)) k=some (d.set i (mx (d.getD i 0) (d.getD k.toNat 0)),p.set k.toNat (p.getD k.toNat 0+1)):=by
    simp only[Q15,Option.bind_some,mx]
    rw[if_neg (by omega)]
   rw[e1]
   refine Qeg (N:=N) ks _ _ fun h2=>h ?_
   intro y hy
   rcases List.mem_cons.1 hy with rfl|hy
   ·exact hk
   ·exact h2 y hy
  ·have e1:Q15 i (some (d,p)) k=none:=by
    simp only[Q15,Option.bind_some]
    rw[if_pos (by omega)]
   rw[e1,Q39]
theorem Q9f(f:Int->Int):∀(l:List Int)(m:Int),l.foldl (fun m k=>mx m (f k)) m=(l.map f).foldl mx m
 |[],_=>rfl
 |k::l,m=>by simp[Q9f f l]
theorem Qav(ts:List Tr)(x:Ex):Q0w (Q2c ts x)=(x.kids.map fun k=>Q0w (ts.getD k.toNat default)).foldl mx 0+1:=by
 simp only[Q2c,Q0w,Q62,List.map_map];rfl
theorem Run.step{pre:List Ex}{N:Nat}{d p:List Int}{x:Ex}(h:Run pre N d p)(hN:pre.length < N)(hk:∀k∈x.kids,0<=k/\k < pre.length):∃d' p',Q1c (some (d,p)) (x,pre.length)=some (d',p')/\Run (pre++[x]) N d' p':=by
 obtain⟨p',h1,h2,h3⟩:=Qef x.kids d p h.dl h.pl hN hk
 have hdl:=h.dl
 refine⟨_,p',by simp only[Q1c,h1,Option.map_some];rfl,by simpa using hdl,h2,fun i hi=>?_,fun i hi=>?_,fun i hi=>?_⟩
 ·rw[h3 i hi,h.pv i hi,Qde];simp[cnt]
 ·rw[List.set_set]
  simp only[List.length_append,List.length_singleton]at hi
  by_cases e:pre.length=i
  ·subst e
   rw[Q3z (by omega),Q3z (by omega),Q6s pre [] x,Qav,h.d0 _ (Nat.le_refl _),Q9f]
   congr 2
   refine List.map_congr_left fun k hk2=>?_
   have:=hk k hk2
   exact h.dv _ (by omega)
  ·rw[getD_set_ne e,Q3p (by omega),h.dv i (by omega)]
 ·simp only[List.length_append,List.length_singleton]at hi
  rw[List.set_set,getD_set_ne (by omega),h.d0 i (by omega)]
theorem Q57(l:List (Ex×Nat)):l.foldl Q1c none=none:=by
 induction l with
 |nil=>rfl
 |cons x l ih=>
  have:Q1c none x=none:=by simp[Q1c,Q39]
  rw[List.foldl_cons,this,ih]
theorem Qdw{N:Nat}:∀(l pre:List Ex)(d p:List Int),Run pre N d p->Q0h pre->pre.length+l.length=N ->
  (Q0h (pre ++ l) /\ ∃ d' p', (l.zipIdx pre.length).foldl Q1c (some (d, p)) = some (d', p') /\ Run (pre ++ l) N d' p') ∨ (¬ Q0h (pre ++ l) /\ (l.zipIdx pre.length).foldl Q1c (some (d, p)) = none)
 |[],pre,d,p,h,hk,_=>.inl ⟨by simpa using hk,d,p,rfl,by simpa using h⟩
 |x::l,pre,d,p,h,hk,hN=>by
  rw[List.zipIdx_cons,List.foldl_cons]
  simp only[List.length_cons]at hN
  by_cases hx:∀k∈x.kids,0<=k/\k < pre.length
  ·obtain⟨d1,p1,e1,h1⟩:=h.step (by omega) hx
   rw[e1]
   have:=Qdw l (pre++[x]) d1 p1 h1 (Q33.2 ⟨hk,hx⟩) (by simp;omega)
   simpa[List.append_assoc]using this
  ·right
   have e1:Q1c (some (d,p)) (x,pre.length)=none:=by simp only[Q1c,Qeg (N:=N) x.kids d p hx,Option.map_none]
   rw[e1,Q57]
   refine⟨fun h2=>hx ?_,rfl⟩
   exact h2 pre.length x (by simp)
theorem Qb3(e:List Ex):(Q0h e/\∃d p,Q43 e=some (d,p)/\Run e e.length d p)∨(¬Q0h e/\Q43 e=none):=by
 have h0:Run [] e.length (List.replicate e.length 0) (List.replicate e.length 0):=by
  have z:∀i,(List.replicate e.length (0:Int)).getD i 0=0:=fun i=>by
   simp only[List.getD]
   rw[List.getElem?_replicate];split <;> rfl
  exact⟨by simp,by simp,fun i _=>by rw[z];rfl,fun i hi=>by simp at hi,fun i _=>z i⟩
 have:=Qdw e [] _ _ h0 (fun j x hj=>by simp at hj) (by simp)
 simpa[Q43]using this
structure IsTree (e:List Ex):Prop where
 ne:e≠[]
 k:Q0h e
 c:∀i,i < e.length->(cnt e i=1↔i+1 < e.length)
theorem Q1z(e:List Ex):Q1f e=0↔e.length<=4096/\IsTree e/\Q0w (grow e)<=400:=by
 unfold Q1f
 by_cases h1:4096 < e.length
 ·rw[if_pos h1];exact⟨fun h=>absurd h (by decide),fun h=>by omega⟩
 rw[if_neg h1]
 by_cases h2:e.length=0
 ·rw[if_pos h2]
  exact⟨fun h=>absurd h (by decide),fun h=>absurd (List.length_eq_zero_iff.1 h2) h.2.1.ne⟩
 rw[if_neg h2]
 rcases Qb3 e with ⟨hk,d,p,h3,hr⟩|⟨hk,h3⟩
 ·rw[h3]
  have hd:d.getD (e.length - 1) 0=Q0w (grow e):=hr.dv _ (by omega)
  have hodd:(List.range e.length).any (Q1t e.length p)=true↔¬∀i,i < e.length->(cnt e i=1↔i+1 < e.length):=by
   rw[List.any_eq_true]
   constructor
   ·rintro⟨i,hi,hb⟩ h
    have hi':i < e.length:=by simpa using hi
    have:=h i hi'
    have hc:=hr.pv i hi'
    simp only[Q1t,Bool.not_eq_true',beq_eq_false_iff_ne,ne_eq]at hb
    apply hb
    rw[Bool.eq_iff_iff,beq_iff_eq,decide_eq_true_iff,hc]
    omega
   ·intro h
    simp only[Classical.not_forall]at h
    obtain⟨i,hi,hne⟩:=h
    refine⟨i,by simpa using hi,?_⟩
    have hc:=hr.pv i hi
    simp only[Q1t,Bool.not_eq_true',beq_eq_false_iff_ne,ne_eq]
    intro hb
    rw[Bool.eq_iff_iff,beq_iff_eq,decide_eq_true_iff,hc]at hb
    apply hne
    omega
  simp only
  by_cases h4:(List.range e.length).any (Q1t e.length p)=true
  ·rw[if_pos h4]
   exact⟨fun h=>absurd h (by decide),fun h=>absurd h.2.1.c (hodd.1 h4)⟩
  ·rw[if_neg h4,hd]
   have hc:∀i,i < e.length->(cnt e i=1↔i+1 < e.length):=by
    apply Classical.byContradiction
    intro hn
    exact h4 (hodd.2 hn)
   by_cases h5:400 < Q0w (grow e)
   ·rw[if_pos h5];exact⟨fun h=>absurd h (by decide),fun h=>by omega⟩
   ·rw[if_neg h5]
    exact⟨fun _=>⟨by omega,⟨fun h=>h2 (by simp[h]),hk,hc⟩,by omega⟩,fun _=>rfl⟩
 ·rw[h3]
  simp only
  exact⟨fun h=>absurd h (by decide),fun h=>absurd h.2.1.k hk⟩

def wsum (c:Nat->Int):Nat->List Int->Int
 |_,[]=>0
 |j,v::vs=>c j * v+wsum c (j+1) vs
theorem Q9x(c:Nat->Int):∀(vs us:List Int)(j:Nat),wsum c j (vs++us)=wsum c j vs+wsum c (j+vs.length) us
 |[],us,j=>by simp[wsum]
 |v::vs,us,j=>by
  simp only[List.cons_append,wsum,Q9x c vs us,List.length_cons]
  rw[show j+1+vs.length=j+(vs.length+1) by omega];omega
theorem Q5l{c c':Nat->Int}:∀(vs:List Int)(j:Nat),(∀i,j<=i->i < j+vs.length->c i=c' i)->wsum c j vs=wsum c' j vs
 |[],_,_=>rfl
 |v::vs,j,h=>by
  simp only[wsum]
  rw[h j (by omega) (by simp),Q5l vs (j+1) (fun i h1 h2=>h i (by omega) (by simp;omega))]
theorem Qdn(c c':Nat->Int):∀(vs:List Int)(j:Nat),wsum (fun i=>c i - c' i) j vs=wsum c j vs - wsum c' j vs
 |[],_=>by simp[wsum]
 |v::vs,j=>by
  simp only[wsum,Qdn c c' vs,Int.sub_mul];omega
theorem Qdp(c c':Nat->Int):∀(vs:List Int)(j:Nat),wsum (fun i=>c i+c' i) j vs=wsum c j vs+wsum c' j vs
 |[],_=>by simp[wsum]
 |v::vs,j=>by
  simp only[wsum,Qdp c c' vs,Int.add_mul];omega
theorem Q4y{c:Nat->Int}:∀(vs:List Int)(j:Nat),(∀i,j<=i->i < j+vs.length->c i=0)->wsum c j vs=0
 |[],_,_=>rfl
 |v::vs,j,h=>by
  simp only[wsum]
  rw[h j (by omega) (by simp),Q4y vs (j+1) (fun i h1 h2=>h i (by omega) (by simp;omega))];omega
theorem Qdo(k:Int):∀(vs:List Int)(j:Nat),(j:Int)<=k->k < j+vs.length->wsum (fun i=>if k=(i:Int)then 1 else 0) j vs=vs.getD (k.toNat - j) 0
 |[],j,h1,h2=>by simp at h2;omega
 |v::vs,j,h1,h2=>by
  simp only[wsum]
  by_cases e:k=j
  ·subst e
   rw[Q4y vs (j+1) (fun i h3 h4=>if_neg (by omega))]
   simp[List.getD]
  ·rw[if_neg e,Qdo k vs (j+1) (by omega) (by simp at h2;omega)]
   rw[show k.toNat - j=(k.toNat - (j+1))+1 by omega]
   simp[List.getD]
theorem Q8f(vs:List Int):∀ks:List Int,(∀k∈ks,0<=k/\k < vs.length)->wsum (fun i=>((ks.count (i:Int):Nat):Int)) 0 vs=(ks.map fun k=>vs.getD k.toNat 0).sum
 |[],_=>by simp;exact Q4y vs 0 (fun _ _ _=>by simp)
 |k::ks,h=>by
  have hk:=h k (by simp)
  have e:wsum (fun i=>(((k::ks).count (i:Int):Nat):Int)) 0 vs=wsum (fun i=>(if k=(i:Int)then 1 else 0)+((ks.count (i:Int):Nat):Int)) 0 vs:=by
   refine Q5l vs 0 fun i _ _=>?_
   rw[List.count_cons]
   by_cases e:k=(i:Int)
   ·simp[e];omega
   ·simp[e]
  rw[e,Qdp,Qdo k vs 0 (by omega) (by omega),Q8f vs ks (fun y hy=>h y (by simp[hy]))]
  simp
def labE (e:List Ex)(x:Ex):Lab:=⟨x.op,x.n,x.binds,x.kids.map (fun k=>((growL e).getD k.toNat default).op),x.alts⟩
def labs (e:List Ex):List Lab:=e.map (labE e)
theorem Qgq{e:List Ex}{x:Ex}(h:Q0h (e++[x])):labs (e++[x])=labs e++[labE e x]:=by
 obtain⟨h1,h2⟩:=Q33.1 h
 have same:∀y:Ex,(∀k∈y.kids,0<=k/\k < e.length)->labE (e++[x]) y=labE e y:=by
  intro y hy
  simp only[labE,Lab.mk.injEq,true_and,and_true]
  refine List.map_congr_left fun k hk=>?_
  have:=hy k hk
  rw[Q3p (by omega)]
 simp only[labs,List.map_append,List.map_cons,List.map_nil]
 rw[same x h2]
 congr 1
 refine List.map_congr_left fun y hy=>same y fun k hk=>?_
 obtain⟨j,hj⟩:=List.mem_iff_getElem?.1 hy
 have:=h1 j y hj k hk
 have hl:=(List.getElem?_eq_some_iff.1 hj).1
 omega
theorem Qct(g:Lab->Int)(e:List Ex)(x:Ex):sumT g (Q2c (growL e) x)=g (labE e x)+(x.kids.map fun k=>sumT g ((growL e).getD k.toNat default)).sum:=by
 simp only[Q2c,sumT,Q6j,labE,List.map_map];rfl
theorem sum_pre(g:Lab->Int)(e:List Ex)(h:Q0h e):wsum (fun i=>1 - (cnt e i:Int)) 0 ((growL e).map (sumT g))=((labs e).map g).sum:=by
 revert h
 refine Q53 (P:=fun e=>Q0h e->wsum (fun i=>1 - (cnt e i:Int)) 0 ((growL e).map (sumT g))=((labs e).map g).sum) (fun _=>rfl) (fun e x ih h=>?_) e
 obtain⟨h1,h2⟩:=Q33.1 h
 have ih:=ih h1
 have hlen:((growL e).map (sumT g)).length=e.length:=by simp[Q10]
 have hz:cnt (e++[x]) e.length=0:=by
  have:∀(l:List Ex) (n:Nat),(∀y∈l,∀k∈y.kids,k < (n:Int))->cnt l n=0:=by
   intro l
   induction l with
   |nil=>intro n _;rfl
   |cons y l ih2=>
    intro n hl
    simp only[cnt]
    rw[ih2 n (fun z hz=>hl z (by simp[hz])),Nat.add_zero,List.count_eq_zero]
    intro hm
    have:=hl y (by simp) _ hm
    omega
  refine this _ _ fun y hy k hk=>?_
  obtain⟨j,hj⟩:=List.mem_iff_getElem?.1 hy
  have:=h j y hj k hk
  have hl:=(List.getElem?_eq_some_iff.1 hj).1
  simp at hl
  omega
 rw[Q1m,List.map_append,Q9x,hlen,Qgq h,List.map_append,List.sum_append,←ih]
 simp only[List.map_cons,List.map_nil,wsum,Nat.zero_add,hz,List.sum_cons,List.sum_nil,Qct]
 have e1:wsum (fun i=>1 - (cnt (e++[x]) i:Int)) 0 ((growL e).map (sumT g))=wsum (fun i=>(1 - (cnt e i:Int)) - ((x.kids.count (i:Int):Nat):Int)) 0 ((growL e).map (sumT g)):=by
  refine Q5l _ 0 fun i _ _=>?_
  rw[Qde];simp[cnt];omega
 rw[e1,Qdn,Q8f _ _ (fun k hk=>by rw[hlen];exact h2 k hk)]
 have e2:(x.kids.map fun k=>((growL e).map (sumT g)).getD k.toNat 0)=x.kids.map fun k=>sumT g ((growL e).getD k.toNat default):=by
  refine List.map_congr_left fun k hk=>?_
  have:=h2 k hk
  have hl:k.toNat < (growL e).length:=by rw[Q10];omega
  simp[List.getD,List.getElem?_eq_getElem hl]
 rw[e2]
 omega
theorem Qjd{e:List Ex}(h:Q0h e){n:Nat}(hn:e.length<=n+1):cnt e n=0:=by
 have:∀(l:List Ex),(∀y∈l,∀k∈y.kids,k < (n:Int))->cnt l n=0:=by
  intro l
  induction l with
  |nil=>intro _;rfl
  |cons y l ih2=>
   intro hl
   simp only[cnt]
   rw[ih2 (fun z hz=>hl z (by simp[hz])),Nat.add_zero,List.count_eq_zero]
   intro hm
   have:=hl y (by simp) _ hm
   omega
 refine this _ fun y hy k hk=>?_
 obtain⟨j,hj⟩:=List.mem_iff_getElem?.1 hy
 have:=h j y hj k hk
 have hl:=(List.getElem?_eq_some_iff.1 hj).1
 omega
theorem Q38(g:Lab->Int){e:List Ex}(h:IsTree e):((labs e).map g).sum=sumT g (grow e):=by
 rw[←sum_pre g e h.k]
 obtain⟨pre,x,rfl⟩:∃pre x,e=pre++[x]:=⟨e.dropLast,e.getLast h.ne,(List.dropLast_concat_getLast h.ne).symm⟩
 rw[Q1m,List.map_append,Q9x]
 rw[Q4y _ 0 (fun i _ hi=>?_),Qh9]
 ·simp only[List.map_cons,List.map_nil,wsum,List.length_map,Q10,Nat.zero_add]
  rw[Qjd h.k (by simp)];omega
 ·have hi:i < pre.length:=by simpa[Q10]using hi
  have:=(h.c i (by simp;omega)).2 (by simp;omega)
  rw[this];rfl
end Go.CoreX
namespace Go.CoreX
structure OkT (out:List Ex)(t:Tr):Prop where
 lt:out.length < (listT out t).length
 k:Q0h (listT out t)
 g:∃r,growL (listT out t)=growL out++r++[t]
 c:∀i,cnt (listT out t) i=cnt out i+if out.length<=i/\i+1 < (listT out t).length then 1 else 0
structure OkTs (out:List Ex)(ts:List Tr):Prop where
 le:out.length<=(Q01 out ts).1.length
 k:Q0h (Q01 out ts).1
 g:∃r,growL (Q01 out ts).1=growL out++r
 ix:∀k∈(Q01 out ts).2,(out.length:Int)<=k/\k < (Q01 out ts).1.length
 m:(Q01 out ts).2.map (fun k=>(growL (Q01 out ts).1).getD k.toNat default)=ts
 c:∀i,cnt (Q01 out ts).1 i+(Q01 out ts).2.count (i:Int)=cnt out i+if out.length<=i/\i < (Q01 out ts).1.length then 1 else 0
mutual
theorem Qaf:∀(t:Tr)(out:List Ex),Q0h out->OkT out t
 |.mk o n b ks a,out,h=>by
  have H:=Qbr ks out h
  have e:listT out (.mk o n b ks a)=(Q01 out ks).1++[⟨o,n,b,(Q01 out ks).2,a⟩]:=by simp only[listT]
  refine⟨?_,?_,?_,fun i=>?_⟩
  ·rw[e];have:=H.le;simp;omega
  ·rw[e,Q33]
   refine⟨H.k,fun k hk=>?_⟩
   have:=H.ix k hk
   exact⟨by omega,this.2⟩
  ·obtain⟨r,hr⟩:=H.g
   refine⟨r,?_⟩
   rw[e,Q1m]
   have:Q2c (growL (Q01 out ks).1) ⟨o,n,b,(Q01 out ks).2,a⟩=.mk o n b ks a:=by
    simp only[Q2c,Tr.mk.injEq,true_and,and_true];exact H.m
   rw[this,hr]
  ·rw[e,Qde]
   have:=H.c i
   simp only[cnt,Nat.add_zero,List.length_append,List.length_singleton]
   rw[this]
   congr 1
   by_cases h1:out.length<=i/\i < (Q01 out ks).1.length
   ·rw[if_pos h1,if_pos (by omega)]
   ·rw[if_neg h1,if_neg (by omega)]
theorem Qbr:∀(ts:List Tr)(out:List Ex),Q0h out->OkTs out ts
 |[],out,h=>⟨by simp[Q01],by simpa[Q01]using h,⟨[],by simp[Q01]⟩,by simp[Q01],by simp[Q01],fun i=>by
   have e1:(Q01 out []).1=out:=by simp only[Q01]
   have e2:(Q01 out []).2=[]:=by simp only[Q01]
   rw[e1,e2,if_neg (by omega)];rfl⟩
 |t::ts,out,h=>by
  have H1:=Qaf t out h
  have H2:=Qbr ts (listT out t) H1.k
  have e1:(Q01 out (t::ts)).1=(Q01 (listT out t) ts).1:=by simp only[Q01]
  have e2:(Q01 out (t::ts)).2=(((listT out t).length:Int) - 1)::(Q01 (listT out t) ts).2:=by simp only[Q01]
  have l1:=H1.lt
  have l2:=H2.le
  obtain⟨r1,g1⟩:=H1.g
  obtain⟨r2,g2⟩:=H2.g
  refine⟨by rw[e1];omega,by rw[e1];exact H2.k,⟨r1++[t]++r2,?_⟩,?_,?_,fun i=>?_⟩
  ·rw[e1,g2,g1];simp
  ·intro k hk
   rw[e2]at hk
   rw[e1]
   rcases List.mem_cons.1 hk with rfl|hk
   ·omega
   ·have:=H2.ix k hk;omega
  ·rw[e1,e2,List.map_cons,H2.m]
   congr 1
   have hl:(growL (listT out t)).length=(listT out t).length:=Q10 _
   have hl2:(growL out++r1).length+1=(listT out t).length:=by rw[←hl,g1];simp;omega
   rw[g2,Q5b (by rw[hl];omega),g1]
   have:((((listT out t).length:Int) - 1)).toNat=(growL out++r1).length:=by omega
   rw[this]
   simp[List.getD]
  ·rw[e1,e2,List.count_cons]
   have c2:=H2.c i
   have c1:=H1.c i
   have hh:(((((listT out t).length:Int) - 1)==(i:Int))=true)↔i+1=(listT out t).length:=by
    rw[beq_iff_eq];omega
   by_cases h1:i+1=(listT out t).length
   ·rw[if_pos (hh.2 h1)]
    rw[if_neg (by omega)]at c2
    rw[if_neg (by omega)]at c1
    rw[if_pos (by omega)]
    omega
   ·rw[if_neg (fun h=>h1 (hh.1 h))]
    by_cases h2:out.length<=i/\i+1 < (listT out t).length
    ·rw[if_pos h2]at c1
     rw[if_neg (by omega)]at c2
     rw[if_pos (by omega)]
     omega
    ·rw[if_neg h2]at c1
     by_cases h3:(listT out t).length<=i/\i < (Q01 (listT out t) ts).1.length
     ·rw[if_pos h3]at c2
      rw[if_pos (by omega)]
      omega
     ·rw[if_neg h3]at c2
      rw[if_neg (by omega)]
      omega
end
theorem Q98:Q0h []:=fun j x hj=>by simp at hj
theorem Q0c(t:Tr):grow (listT [] t)=t:=by
 have H:=Qaf t [] Q98
 obtain⟨r,hr⟩:=H.g
 have hl:(growL (listT [] t)).length=(listT [] t).length:=Q10 _
 unfold grow
 rw[hr]at hl ⊢
 have:(listT [] t).length - 1=(growL []++r).length:=by simp at hl ⊢;omega
 rw[this]
 simp[List.getD]
theorem Q16(t:Tr):IsTree (listT [] t):=by
 have H:=Qaf t [] Q98
 refine⟨fun h=>?_,H.k,fun i hi=>?_⟩
 ·have:=H.lt;rw[h]at this;simp at this
 ·rw[H.c i]
  simp only[cnt,List.length_nil,Nat.zero_le,true_and,Nat.zero_add]
  split <;> omega
theorem Q71(ls:List Lab)(l0:Lab):(ls.map fun l=>if l=l0 then (1:Int)else 0).sum=ls.count l0:=by
 induction ls with
 |nil=>rfl
 |cons l ls ih=>
  simp only[List.map_cons,List.sum_cons,ih,List.count_cons]
  by_cases e:l=l0
  ·simp[e];omega
  ·simp[e]
theorem Qbs{e f:List Ex}(he:IsTree e)(hf:IsTree f)(h:grow e=grow f):(labs e).Perm (labs f):=by
 rw[List.perm_iff_count]
 intro l0
 have h1:=Q38 (fun l=>if l=l0 then (1:Int)else 0) he
 have h2:=Q38 (fun l=>if l=l0 then (1:Int)else 0) hf
 rw[Q71]at h1 h2
 rw[h]at h1
 omega
theorem Q4j(e:List Ex):(labs e).length=e.length:=by simp[labs]
theorem Q7c(e:List Ex):∀i,i < e.length->((growL e).getD i default).op=(e.getD i ⟨0,0,[],[],[]⟩).op:=by
 refine Q53 (P:=fun e=>∀i,i < e.length->((growL e).getD i default).op=(e.getD i ⟨0,0,[],[],[]⟩).op) (fun i hi=>by simp at hi) (fun e x ih i hi=>?_) e
 by_cases h:i < e.length
 ·rw[Q3p h,ih i h,Q5b h]
 ·have:i=e.length:=by simp at hi;omega
  subst this
  rw[Q6s e [] x]
  simp[Q2c,List.getD]
theorem Qb7{o n:Int}{b kx ky:List Int}{a:List Alt}(h:kx.length=ky.length):shape ⟨o,n,b,kx,a⟩=shape ⟨o,n,b,ky,a⟩:=by
 unfold shape wants Q6g Q5j
 simp only[h]
theorem Q8p{o n:Int}{b kx ky:List Int}{a:List Alt}(h:kx.length=ky.length):ranges ⟨o,n,b,kx,a⟩=ranges ⟨o,n,b,ky,a⟩:=by
 unfold ranges fields
 simp only[h]
theorem Q8m{x:Ex}(h:shape x=true)(h5:x.op=5):x.kids.length=x.binds.length+1:=by
 unfold shape wants at h
 simp[h5]at h
 omega
theorem Q6a{flat:Bool}{e f:List Ex}{x y:Ex}(hx:∀k∈x.kids,0<=k/\k < (e.length:Int))(hy:∀k∈y.kids,0<=k/\k < (f.length:Int))(h:labE e x=labE f y):Q0k flat e x=Q0k flat f y:=by
 obtain⟨o,n,b,kx,a⟩:=x
 obtain⟨o',n',b',ky,a'⟩:=y
 simp only[labE,Lab.mk.injEq]at h
 obtain⟨rfl,rfl,rfl,hk,rfl⟩:=h
 have hl:kx.length=ky.length:=by have:=congrArg List.length hk;simpa using this
 unfold Q0k Q1r
 rw [Qb7 hl, Q8p hl]
 cases hs:shape ⟨o,n,b,ky,a⟩ with
 |false=>simp
 |true=>
  have hb:(List.range b.length).any (Q0y e ⟨o,n,b,kx,a⟩)=(List.range b.length).any (Q0y f ⟨o,n,b,ky,a⟩):=by
   rw[Bool.eq_iff_iff,List.any_eq_true,List.any_eq_true]
   have key:∀i,i < b.length->Q0y e ⟨o,n,b,kx,a⟩ i=Q0y f ⟨o,n,b,ky,a⟩ i:=by
    intro i hi
    unfold Q0y
    by_cases h5:o=5
    ·have hr:=Q8m hs h5
     simp only at hr
     obtain⟨k,h1⟩:∃k,kx[i]?=some k:=⟨kx[i]'(by omega),List.getElem?_eq_getElem _⟩
     obtain⟨m,h2⟩:∃k,ky[i]?=some k:=⟨ky[i]'(by omega),List.getElem?_eq_getElem _⟩
     have k1:=hx k (List.mem_of_getElem? h1)
     have k2:=hy m (List.mem_of_getElem? h2)
     have h3:=congrArg (fun l=>l[i]?) hk
     simp only[List.getElem?_map,h1,h2,Option.map_some,Option.some.injEq]at h3
     rw[Q7c e _ (by omega),Q7c f _ (by omega)]at h3
     have e1:kx.getD i 0=k:=by rw[List.getD_eq_getElem?_getD,h1];rfl
     have e2:ky.getD i 0=m:=by rw[List.getD_eq_getElem?_getD,h2];rfl
     simp only[e1,e2,h3]
    ·have:(o==5)=false:=by simpa using h5
     simp only[this,Bool.false_and]
   constructor
   ·rintro⟨i,hi,hb⟩;exact⟨i,hi,by rw[←key i (by simpa using hi)];exact hb⟩
   ·rintro⟨i,hi,hb⟩;exact⟨i,hi,by rw[key i (by simpa using hi)];exact hb⟩
  simp only[hb]
theorem Q29{α:Type}(f:α->Int):∀l:List α,Q1d f l=0↔∀x∈l,f x=0
 |[]=>by simp[Q1d]
 |a::l=>by
  simp only[Q1d,List.mem_cons,forall_eq_or_imp]
  by_cases h:f a=0
  ·simp[h,Q29 f l]
  ·simp[h]
theorem Q1j:∀l:List Int,Q4b l=false↔l.Nodup
 |[]=>by simp[Q4b]
 |n::l=>by simp[Q4b,List.nodup_cons,Q1j l]
theorem Q7m{e:List Ex}(h:Q0h e){x:Ex}(hx:x∈e):∀k∈x.kids,0<=k/\k < (e.length:Int):=by
 intro k hk
 obtain⟨j,hj⟩:=List.mem_iff_getElem?.1 hx
 have:=h j x hj k hk
 have hl:=(List.getElem?_eq_some_iff.1 hj).1
 omega
theorem Q2b(e:List Ex):Q07 e=(labs e).flatMap fun l=>Q04 l.op l.binds l.alts:=by
 unfold Q07 labs
 rw[List.flatMap_map];rfl
theorem Qho{e f:List Ex}{params:List Int}{flat:Bool}(hf:IsTree f)(h:grow e=grow f)(hb:body e params flat=0):body f params flat=0:=by
 unfold body at hb ⊢
 by_cases h1:Q1f e=0
 ·rw[if_neg (by simpa using h1)]at hb
  obtain⟨t1,t2,t3⟩:=(Q1z e).1 h1
  have hp:=Qbs t2 hf h
  have hl:e.length=f.length:=by rw[←Q4j e,←Q4j f];exact hp.length_eq
  rw[if_neg (by rw[Classical.not_not];exact (Q1z f).2 ⟨by omega,hf,by rw[←h];exact t3⟩)]
  by_cases h2:Q1d (Q0k flat e) e=0
  ·rw[if_neg (by simpa using h2)]at hb
   have h2f:Q1d (Q0k flat f) f=0:=by
    rw[Q29]at h2 ⊢
    intro y hy
    have hm:labE f y∈labs e:=hp.mem_iff.2 (List.mem_map_of_mem hy)
    obtain⟨x,hx,hxy⟩:=List.mem_map.1 hm
    rw[←Q6a (Q7m t2.k hx) (Q7m hf.k hy) hxy]
    exact h2 x hx
   rw[if_neg (by simpa using h2f)]
   by_cases h3:Q4b (params++Q07 e)=true
   ·rw[if_pos h3]at hb;exact absurd hb (by decide)
   ·rw[if_neg h3]at hb
    have hd:(params++Q07 e).Perm (params++Q07 f):=by
     rw[Q2b,Q2b]
     exact List.Perm.append_left _ (List.Perm.flatMap_right _ hp)
    have h3f:¬Q4b (params++Q07 f)=true:=by
     intro h4
     have h5:=(Q1j _).1 (by simpa using h3)
     have h6:=(Q1j _).2 (hd.nodup_iff.1 h5)
     rw[h6]at h4;cases h4
    rw[if_neg h3f,←h]
    exact hb
  ·rw[if_pos h2]at hb;exact absurd hb h2
 ·rw[if_pos h1]at hb;exact absurd hb h1
theorem Q12{e:List Ex}{params:List Int}{flat:Bool}(hb:body e params flat=0):IsTree e:=by
 unfold body at hb
 by_cases h1:Q1f e=0
 ·exact ((Q1z e).1 h1).2.1
 ·rw[if_pos h1]at hb;exact absurd hb h1
theorem Q3r{e:List Ex}(h:check e=0):check (listT [] (grow e))=0:=Qho (Q16 _) (Q0c _).symm h
end Go.CoreX
namespace Go.CoreX
abbrev Nm:=Int->Option Int
def setN (m:Nm)(k v:Int):Nm:=fun j=>if k=j then some v else m j
def putsN (m:Nm):List Int->List Int->Nm
 |x::xs,y::ys=>putsN (setN m x y) xs ys
 |_,_=>m
def Q1p:List Alt->List Alt->Bool
 |a::l,b::r=>(a.tag==b.tag&&a.binds.length==b.binds.length)&&Q1p l r
 |_,_=>true
def Qdq (o:Int)(nk nb na:Nat)(t:Tr):Bool:=!(o==t.op&&nk==t.kids.length&&nb==t.binds.length&&na==t.alts.length)
def Q72 (m:Nm)(n n':Int):Bool:=match m n with|some v=>v==n'|none=>n==n'
mutual
def sameT:Tr->Tr->Nm->Bool×Nm
 |.mk o n b k a,t,m=>
  if Qdq o k.length b.length a.length t=true then (false,m) else
  if o=0 then (Q72 m n t.n,m) else
  if (!(n==t.n))||(o==9&&!(b==t.binds))then (false,m) else
  if Q1p a t.alts=false then (false,m) else
  Q23 k t.kids (putsN m (Q04 o b a) (Q04 t.op t.binds t.alts))
def Q23:List Tr->List Tr->Nm->Bool×Nm
 |[],_,m=>(true,m)
 |a::l,r,m=>match r with
  |[]=>(true,m)
  |b::r=>if (sameT a b m).1=true then Q23 l r (sameT a b m).2 else (false,(sameT a b m).2)
end
def idN (m:Nm):Prop:=∀n v,m n=some v->v=n
theorem Qeq:∀(l:List Int)(m:Nm),idN m->idN (putsN m l l)
 |[],m,h=>h
 |x::l,m,h=>Qeq l _ fun n v hv=>by
  unfold setN at hv
  by_cases e:x=n
  ·rw[if_pos e]at hv;simp at hv;omega
  ·rw[if_neg e]at hv;exact h n v hv
theorem Q5h:∀l:List Alt,Q1p l l=true
 |[]=>rfl
 |a::l=>by simp[Q1p,Q5h l]
mutual
theorem Q8n:∀(t:Tr)(m:Nm),idN m->(sameT t t m).1=true/\idN (sameT t t m).2
 |.mk o n b k a,m,h=>by
  unfold sameT
  rw[if_neg (by simp[Qdq])]
  by_cases e:o=0
  ·rw[if_pos e]
   refine⟨?_,h⟩
   simp only[Q72,Tr.n_mk]
   cases hm:m n with
   |none=>simp
   |some v=>simp[h n v hm]
  ·rw[if_neg e,if_neg (by simp),if_neg (by simp[Q5h])]
   exact Q74 k _ (Qeq _ m h)
theorem Q74:∀(l:List Tr)(m:Nm),idN m->(Q23 l l m).1=true/\idN (Q23 l l m).2
 |[],m,h=>⟨rfl,h⟩
 |t::l,m,h=>by
  obtain⟨h1,h2⟩:=Q8n t m h
  unfold Q23
  simp only[h1,if_true]
  exact Q74 l _ h2
end
def Q6k (a b:Tr):Bool:=(sameT a b fun _=>none).1
theorem Qa6(t:Tr):Q6k t t=true:=(Q8n t _ fun n v h=>by cases h).1
def same (a b:List Ex):Bool:=(check a==0&&check b==0)&&Q6k (grow a) (grow b)
def order (e:List Ex):List Ex×Int:=if check e≠0 then ([],check e)else (listT [] (grow e),0)
end Go.CoreX
