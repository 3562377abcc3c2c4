/- The abstract layer, part S: more steps with a condition. No condition of its own. -/
import Derived.Test.YtlmokgooijbcdaaGreatDoorE2
import Derived.Laws.Entries
import Derived.ChangeArms
import Derived.Carry
import Derived.Scope
import Derived.ProofKit
import Derived.OpenShut
import Derived.Deep.DeepHandedRow
import Derived.JoinedCond
import Derived.Test.YtlmokgooijbcdaaGreatDoorChecked
import Derived.KernelRfl
import Derived.Laws.MakeOwn
import Derived.Laws.Small
import Derived.Laws.Cover3
import Derived.Sort.Row
import Derived.Sort.Grow
import Derived.Laws.CopyRow
import Derived.Shelf.GgSortFunc.InsertionK
import Derived.Lib.Overlaps
import Derived.Lib.AppendZerosOnto
import Derived.Laws.Build
import Derived.Recover
import Derived.RangeFuncWrites
import Derived.OrdersIn
import Derived.Orders
import Derived.OwnWalkIn
import Derived.TacticsIn
import Derived.ControlIn
import Derived.RangeFuncKeeps
import Derived.RangeFuncLeaves
import Derived.RangeFuncOwn
import Derived.Laws.Bits64b
set_option maxRecDepth 10000
set_option linter.unusedVariables false
set_option linter.unusedSimpArgs false
theorem Qym:type_of% @Go.Abs.ACode.condF:=@Go.Abs.ACode.condF
theorem Qyn:type_of% @Go.Abs.ACode.condT:=@Go.Abs.ACode.condT
theorem Qyp:type_of% @Go.Abs.ACode.freeze1:=@Go.Abs.ACode.freeze1
theorem Qyq:type_of% @Go.Abs.ACode.grow:=@Go.Abs.ACode.grow
theorem Qyr:type_of% @Go.Abs.AObj.ren_pure:=@Go.Abs.AObj.ren_pure
theorem Qyx:type_of% @Go.Abs.AOps.freeze1:=@Go.Abs.AOps.freeze1
theorem Qyz:type_of% @Go.Abs.AOps.wk:=@Go.Abs.AOps.wk
theorem Qz0:type_of% @Go.Abs.APure.fin:=@Go.Abs.APure.fin
theorem Qz1:type_of% @Go.Abs.AStep.append:=@Go.Abs.AStep.append
theorem Qzh:type_of% @Bool.not_eq_true':=@Bool.not_eq_true'
theorem Qzo:type_of% @Go.Abs.FrSub.cons:=@Go.Abs.FrSub.cons
theorem Qzp:type_of% @Go.Abs.FrSub.consP:=@Go.Abs.FrSub.consP
theorem Qzq:type_of% @Go.Abs.FrSub.nil:=@Go.Abs.FrSub.nil
theorem Qzr:type_of% @Go.Abs.HStep.auto:=@Go.Abs.HStep.auto
theorem Qzs:type_of% @Go.Abs.HStep.plain:=@Go.Abs.HStep.plain
theorem Qzw:type_of% @Go.Abs.LessR.of:=@Go.Abs.LessR.of
theorem Z14:type_of% @List.length_drop:=@List.length_drop
theorem Z16:type_of% @List.length_map:=@List.length_map
theorem Z1b:type_of% @List.length_singleton:=@List.length_singleton
theorem Z1n:type_of% @List.mem_append_left:=@List.mem_append_left
theorem Z1o:type_of% @List.mem_append_right:=@List.mem_append_right
theorem Z1w:type_of% @List.mem_map:=@List.mem_map
theorem Z22:type_of% @List.mem_replicate:=@List.mem_replicate
theorem Z2b:type_of% @List.replicate_succ:=@List.replicate_succ
theorem Z2f:type_of% @List.sum_cons:=@List.sum_cons
theorem Z2j:type_of% @List.take_length:=@List.take_length
theorem Z2m:type_of% @Go.Abs.LoSub.cons:=@Go.Abs.LoSub.cons
theorem Z2n:type_of% @Go.Abs.LoSub.nil:=@Go.Abs.LoSub.nil
theorem Z34:type_of% @Nat.lt_succ_self:=@Nat.lt_succ_self
theorem Z3b:type_of% @Nat.zero_le:=@Nat.zero_le
theorem Z3c:type_of% @Nat.zero_mul:=@Nat.zero_mul
theorem Z40:type_of% @Go.Proofs.Tryz.underlying182:=@Go.Proofs.Tryz.underlying182
theorem Z41:type_of% @Go.Proofs.Tryz.underlying197:=@Go.Proofs.Tryz.underlying197
theorem Z42:type_of% @Go.Proofs.Tryz.underlying3:=@Go.Proofs.Tryz.underlying3
theorem Z43:type_of% @Go.Proofs.Tryz.underlying74:=@Go.Proofs.Tryz.underlying74
theorem Z44:type_of% @Go.Proofs.Tryz.underlying76:=@Go.Proofs.Tryz.underlying76
theorem Z46:type_of% @Go.Abs.WkF.ofEq:=@Go.Abs.WkF.ofEq
open Array renaming ext'->Qz6,getElem_map->Qza,getElem_range->Qzb
open Bool renaming not_true->Qzi,or_eq_false_iff->Qzj
open Int renaming le_refl->Qzt
open List renaming drop_succ_cons->Z09,drop_zero->Z0a,flatten_append->Z0i,getElem?_cons_zero->Z0r,mapM_cons->Z1d,map_id->Z1h,map_toArray->Z1l,mem_filter->Z1s,take_succ_cons->Z2l
open Nat renaming add_mul->Z2r,le_add_right->Z2w,le_of_eq->Z2y,sub_zero->Z38
open Option renaming bind_eq_some_iff->Z3g,bind_some->Z3h,isNone_iff_eq_none->Z3j,map_none->Z3l
open Go Go.Abs
variable {x y i f:Operand}{j k sz s id g off cap dd cap0 m:Nat}{t yt:TypeId}{ti tj:TI}{b:Bool}{es news:List (List AC)}{E:Env}{c:AC}{K:Cont}{fr frb fr':Fr}{σ σ1 σ0:St}{w w' w0:World}{C C0 C':Ctx}{l hd tl rest:List Oper}{vs ws vs0:List FV}{va r:FV}{oal o:Oper}{cs first caps:List AC}{ops:Array Oper}{Γ:List (Nat×List AC)}{P:Program}{xs:List Value}{F:Nat->Prop}{args:Array Operand}{a:Addr}{v z u:Value}{α:Type}{wt:α->Nat}{d:TypeDesc}{fn:Func}{tys:Array TypeId}{ρ:Nat->Nat}{tmps:Array Value}{next:Act->World->Prop}{Q:FV->Outer->Prop}{lo:List (Nat×AObj)}{ou:Outer}{oc:Option Nat}{Q':Exit->Act->World->Prop}{os:List AObj}{js S:List Nat}{PP:List PanicEntry->St->Prop}{T:Tab}{QP:List PanicEntry->Outer->Prop}
namespace Go.Abs
theorem Qrw(a:Addr):a.add 0=a:=by cases a;simp[Addr.add]
theorem RS.take{w:World}{C:Ctx}{s:Nat}:∀{es:List (List AC)}{ad:Addr}(n:Nat),RS w C s es ad->RS w C s (es.take n) ad
 |[],_,n,_=>by simp[RS]
 |e::es,ad,0,_=>by simp[RS]
 |e::es,ad,n+1,h=>by simp only[Z2l,RS]at *;exact⟨h.1,h.2.1,RS.take n h.2.2⟩
section
variable {E:Env}{o:Oper}{fr:Fr}{σ:St}
theorem Qrx{src dst:TypeId}{j k:IntKind}{n:Int}(ho:o.op=.convert src dst x)(hs:(E.P.underlying src).isSome=true)(hd:E.P.underlying dst=some (.int k))(hx:aEval E.Γ fr x=some (.one (.lit (.int j n))))(hr:Q4w k n):
  AStep E o fr σ (.one (.lit (.int k n))) σ:=by
 refine Qqz fun F w C tmps hi hf=>⟨.int k n,?_,rfl,rfl⟩;have h1:=Q01 (a:=⟨tmps,E.ds⟩) hi hf hx;simp only[RF,R]at h1;obtain⟨d,hd'⟩:=Option.isSome_iff_exists.mp hs;unfold execOp;simp only[ho,h1.1];simp[convert,run_underlying hd',run_underlying hd,Conv.intToInt,Qfm hr]
theorem AStep.shr{t yt:TypeId}{x y:Operand}{k j:IntKind}{a b:Int}(ho:o.op=.binOp .shr t x y yt)(hx:aEval E.Γ fr x=some (.one (.lit (.int k a))))(hy:aEval E.Γ fr y=some (.one (.lit (.int j b))))(h0:0<=b)(h1:b<=k.bits):
  AStep E o fr σ (.one (.lit (.int k (a / 2 ^ b.toNat)))) σ:=by
 refine Qqz fun F w C tmps hi hf=>⟨.int k (a / 2 ^ b.toNat),?_,rfl,rfl⟩;have e1:=Q01 (a:=⟨tmps,E.ds⟩) hi hf hx;have e2:=Q01 (a:=⟨tmps,E.ds⟩) hi hf hy;simp only[RF,R]at e1 e2;unfold execOp;simp only[ho,e1.1,e2.1,eqGuard_shr,Z3s,Z3t,Z3r,binOp_shr,shift_shr _ _ _ _ h0 h1]
theorem Qry{h:Operand}{k:IntKind}{b:Nat}(hT:TabOk E.P E.T)(ho:o.op=.slice t x none (some h) none)(ht:Tab.get t E.T=some ti)(hk:Nat.beq ti.kind 2=true)(hj:Tab.get ti.elem E.T=some tj)(hx:aEval E.Γ fr x=some (.one (.sl sz es)))(hh:aEval E.Γ fr h=some (.one (.lit (.int k (b:Int)))))(hb:b<=es.length):
  AStep E o fr σ (.one (.sl sz (es.take b))) σ:=by
 refine Qqz fun F w C tmps hi hf=>?_;have e1:=Q01 (a:=⟨tmps,E.ds⟩) hi hf hx;have e3:=Q01 (a:=⟨tmps,E.ds⟩) hi hf hh;simp only[RF,R]at e1 e3;obtain⟨ad,cap,hv,hcap,hrs⟩:=e1;have hu:=(hT t ti ht).slice (Z2v hk);have hsz:=(hT _ _ hj).run_sizeOf (w:=w);have hrun:(execOp (Act.eval ⟨tmps,E.ds⟩) o).run E.P w=.ok (.value (.slice (if cap=0 then ad else ad.map (·.add (0 * tj.size))) b cap)) w:=by
  have hb':(b:Int)<=(cap:Int):=by omega
  unfold execOp;simp only[ho,hv,e3.1,Z3m,Z3l];have hb2:b<=cap:=by omega
  simp[Instr.sliceAt,Instr.slice,run_underlying hu,hsz,Instr.sliceBounds,Instr.sliceBound,asIntOf,hb2,Result.andThen]
 have hlen:(es.take b).length=b:=by simp;omega
 refine⟨_,hrun,?_⟩;have hz:(if cap=0 then ad else ad.map (·.add (0 * tj.size)))=ad:=by
  split
  ·rfl
  ·cases ad with
   |none=>rfl
   |some a=>simp[Qrw]
 rw[hz];simp only[RF,R,hlen];refine⟨ad,cap,rfl,by omega,?_⟩;rcases hrs with rfl|⟨a,rfl,hs,hr⟩
 ·left;simp
 ·right;exact⟨a,rfl,hs,RS.take b hr⟩
end
theorem Qrz{c:Code}(d:Nat)(e:TypeId)(s:Nat)(hd:Fr.get d fr=some (.one (.lit (.slice none 0 0))))(hk:ACode E c K ((d,.one (.gs s [] (.l σ.n)))::fr) (σ.push (.tok e s 0))):ACode E c K fr σ:=by
 intro F w0 C0 w C tmps hg hi hf;have hno:=Qr4 C none (fun _=>False) hi.next;have he:Ext w C w (C.tokd none (fun _=>False)):=⟨fun _ _=>rfl,fun _ h=>.inl h,fun i _ ho=>Qr3 C _ _ ho⟩;have hi1:Inv E.Γ F w (C.tokd none (fun _=>False)) (σ.push (.tok e s 0)):=
  hi.addObj (σ.get_push _) he (by simp[Ctx.tokd,Ctx.more,St.push,hi.next]) hi.base (fun a ha=>hi.prot a (ha.resolve_right id)) (fun _ _ _ _ _ _ h=>h) (fun _ _ _ _ _ _ ha=>ha.resolve_right id) hno.1
   (by simp only[ObjOk,hno.2]) (fun i p g _ _ hb=>by simp[AObj.block,hno.2]at hb)
 refine hk F w0 C0 w _ tmps (hg.trans ⟨Z3v _ _,he.weaken (fun _ _=>trivial),by simp[Ctx.tokd,Ctx.more],fun a ha=>.inl (ha.resolve_right id)⟩) hi1 ?_;have hf':=hf.ext he;refine⟨hf'.1,fun k x hkx=>?_⟩;simp only[Fr.get]at hkx;by_cases e':d=k
 ·subst e';simp at hkx;subst hkx;obtain⟨u,hu,hr⟩:=hf.2 d _ hd;simp only[RF,R]at hr;refine⟨u,hu,hno.1,.inl ⟨hr.1,rfl,hno.2⟩⟩
 ·rw[Q06 e']at hkx;exact hf'.2 k x hkx
inductive WkC:List AC->List AC->Prop
 |nil:WkC [] []
 |cons {x y:AC}{xs ys:List AC}(h:Wk x y) (k:WkC xs ys):WkC (x::xs) (y::ys)
inductive WkS:List (List AC)->List (List AC)->Prop
 |nil:WkS [] []
 |cons {x y:List AC}{xs ys:List (List AC)}(h:WkC x y) (k:WkS xs ys):WkS (x::xs) (y::ys)
theorem WkC.len{x y:List AC}(h:WkC x y):x.length=y.length:=by induction h <;> simp_all
theorem WkS.len{x y:List (List AC)}(h:WkS x y):x.length=y.length:=by induction h <;> simp_all
theorem WkC.rl{x y:List AC}(h:WkC x y):∀{ad:Addr},RL w C x ad->RL w C y ad:=by
 induction h with
 |nil=>intro ad h;exact h
 |cons h k ih=>
  intro ad hr;simp only[RL]at *;obtain⟨⟨u,hu,hp,hr⟩,h2⟩:=hr;exact⟨⟨u,hu,hp,h _ _ _ hr⟩,ih h2⟩
theorem WkS.rs{x y:List (List AC)}(h:WkS x y):∀{ad:Addr},RS w C s x ad->RS w C s y ad:=by
 induction h with
 |nil=>intro ad h;exact h
 |cons h k ih=>
  intro ad hr;simp only[RS]at *;exact⟨h.len▸hr.1,h.rl hr.2.1,ih hr.2.2⟩
theorem Wk.sl{s:Nat}{x y:List (List AC)}(h:WkS x y):Wk (.sl s x) (.sl s y):=by
 intro w C v hr;simp only[R]at *;obtain⟨a,cap,rfl,hc,h2⟩:=hr;rw[←h.len];refine⟨a,cap,rfl,hc,?_⟩;rcases h2 with rfl|⟨ad,rfl,hs,h2⟩
 ·left;cases h;rfl
 ·exact .inr ⟨ad,rfl,hs,h.rs h2⟩
theorem Wk.box{x y:List AC}(h:WkC x y):Wk (.box x) (.box y):=by intro w C v hr;simp only[R]at *;obtain⟨ad,rfl,hs,h2⟩:=hr;exact⟨ad,rfl,hs,h.rl h2⟩
theorem Q5h{E:Env}{l:List Oper}{frb:Fr}{σ0 σ1:St}{cs:List (Nat×FV)}{n al:Nat}{vs:List FV}{va:FV}{oal:Oper}(hT:TabOk E.P E.T)(hall:∀k o,l[k]?=some o->k < n->o.after.all (fun e=>!Region.binds .any e||decide (e.on < k))=true)
  (Qwg:l[al]?=some oal) (hal:HStep E l.toArray oal (depFr l vs oal++frb) σ0 σ1 va) (Qwb:Q09 E l frb σ0 vs cs) (Qwc:Q09 E l frb σ1 vs cs):
  ∀(os:List Oper) (k:Nat) (acc ws:List FV),acc.length=k->(∀i o,os[i]?=some o->l[k+i]?=some o/\k+i < n)->Q0l E l.toArray l frb σ0 ((al,va)::cs) k os acc=some ws->Q0l E l.toArray l frb σ1 ((al,va)::cs) k os acc=some ws->acc++ws=vs->Heads E l.toArray l vs frb σ0 σ1 al k os ws
 |[],k,acc,ws,_,_,h,_,_=>by simp only[Q0l,Z3o]at h;subst h;trivial
 |o::os,k,acc,ws,hl,hos,h,h',hv=>by
  have ho:=hos 0 o rfl;simp only[Z2t]at ho;simp only[Q0l,Q1b]at h h';cases hb:(o.dst.isSome&&dstOk E.N o.dst) with
  |false=>rw[hb]at h;cases h
  |true=>
   rw[hb]at h h';simp only[Qzc]at hb;simp only[cond_true]at h h';have rest:∀{v v':FV},(match Q0l E l.toArray l frb σ0 ((al,va)::cs) (k+1) os (acc++[v]) with|some vs=>some (v::vs)|none=>none)=some ws->(match Q0l E l.toArray l frb σ1 ((al,va)::cs) (k+1) os (acc++[v']) with|some vs=>some (v'::vs)|none=>none)=some ws->v'=v/\∃ws',ws=v::ws'/\Heads E l.toArray l vs frb σ0 σ1 al (k+1) os ws':=by
    intro v v' h h';split at h
    ·rename_i ws' hw;simp only[Z3o]at h;subst h;split at h'
     ·rename_i ws2 hw2;simp only[Z3o,List.cons.injEq]at h';obtain⟨rfl,rfl⟩:=h';exact⟨rfl,ws2,rfl,Q5h hT hall Qwg hal Qwb Qwc os (k+1) (acc++[v']) ws2 (by simp[hl]) (fun i o hi=>by have:=hos (i+1) o hi;rw[show k+1+i=k+(i+1) by omega];exact this) hw hw2 (by simpa using hv)⟩
     ·cases h'
    ·cases h
   by_cases hka:al=k
   ·subst hka;have hc:lookC al ((al,va)::cs)=some va:=by simp[lookC]
    rw[hc]at h h';obtain⟨_,ws',rfl,hw⟩:=rest h h';rw[ho.1]at Qwg;cases Qwg;exact Heads.alloc hb.1 hb.2 zsy hal hw
   ·have hne:Nat.beq k al=false:=Q06 (Z3d hka);have hc:lookC k ((al,va)::cs)=lookC k cs:=by simp only[lookC,Q06 hka,cond_false]
    rw[hc]at h h';cases hc2:lookC k cs with
    |some v=>
     rw[hc2]at h h';obtain⟨_,ws',rfl,hw⟩:=rest h h';obtain⟨o',ho',hs0⟩:=Qwb.get hc2;obtain⟨o2,ho2,hs1⟩:=Qwc.get hc2;rw[ho.1]at ho' ho2;cases ho';cases ho2;exact Heads.op hb.1 hb.2 hne hs0 hs1 hw
    |none=>
     rw[hc2]at h h';simp only at h h';cases hp:Q8s o.op with
     |false=>rw[hp]at h;cases h
     |true=>
      rw[hp]at h h';simp only[cond_true]at h h';have Qw1:∀{τ τ':St}{v:FV},aHead E l.toArray o (depFr l acc o++frb) τ=some (v,τ')->τ'=τ:=by
       intro τ τ' v ha;have key:∀{y:FV}{τ2:St},(match aOp E.T E.Γ o.op (depFr l acc o++frb) τ with|some (some x,σ')=>some (x,σ')|_=>none)=some (y,τ2)->τ2=τ:=by
        intro y τ2 h;split at h
        ·rename_i h1;simp only[Z3o,Z3p]at h;obtain⟨rfl,rfl⟩:=h;exact Q9l hp h1
        ·cases h
       unfold aHead at ha;split at ha
       ·exact key ha
       ·split at ha
        ·split at ha
         ·exact key ha
         ·exact key ha
         ·cases ha;rfl
         ·cases ha;rfl
         ·cases ha;rfl
         ·cases ha
        ·cases ha
      split at h
      ·rename_i v σ' ha;split at h'
       ·rename_i v' σ2 ha';obtain⟨rfl,ws',rfl,hw⟩:=rest h h';have Qvw:depFr l vs o=depFr l acc o:=by rw[←hv];exact Q4d (by rw[hl];exact hall k o ho.1 ho.2)
        have e1:=Qw1 ha;have e2:=Qw1 ha';subst e1;subst e2;have hs0:=Qzr (ops:=l.toArray) hT ha;have hs1:=Qzr (ops:=l.toArray) hT ha';rw[←Qvw]at hs0 hs1;exact Heads.op hb.1 hb.2 hne hs0 hs1 hw
       ·cases h'
      ·cases h
theorem Qs0(hT:TabOk E.P E.T)(n al:Nat)(cs:List (Nat×FV))(hm:E.P.follows .mixedOrders=true)(hB:drawB l n=true)(Qwo:Nat.ble (al+1) n=true)(hsp:Q2s n l=some (hd,tl))(hfb:Qrn (dsts hd) fr=some frb)
  (Qwg:l[al]?=some oal) (hal:aHead E l.toArray oal (depFr l [] oal++frb) σ=some (va,σ1)) (hda:oal.after=#[]) (hrun:Q0l E l.toArray l frb σ ((al,va)::cs) 0 hd []=some vs) (Qvx:Q0l E l.toArray l frb σ1 ((al,va)::cs) 0 hd []=some vs) (hfr:frOf hd vs frb=some fr') (hcs:Q09 E l frb σ vs cs) (Qwc:Q09 E l frb σ1 vs cs) (Qvf:AOps E l.toArray tl K fr' σ1):ACode E (.region id l.toArray true) K fr σ:=by
 obtain⟨h1,h2⟩:=Q38 hsp;subst h1;subst h2;have h3:=Qro hfb;have h4:=Q6r hfr;have hn:n < l.length:=by simp only[drawB,Qzc,decide_eq_true_eq]at hB;exact hB.1.1.1.1.1
 have hlast:((l.take n).zipIdx.all fun x=>x.1.after.all fun e=>!Region.binds .any e||decide (e.on < x.2))=true:=by simp only[drawB,Qzc]at hB;exact hB.2
 have Qvw:∀ws:List FV,depFr l ws oal=[]:=fun ws=>by simp[depFr,hda]
 refine Qrk n al vs _ hm Qwo hB rfl frb h3 (Q5h (n:=n) (va:=va) hT (fun k o hk hkn=>?_) Qwg (by rw[Qvw,←Qvw []];exact Qzr hT hal) hcs Qwc _ 0 [] vs rfl (fun i o hi=>?_) hrun Qvx rfl) (by rw[h4];exact Qvf)
 ·have:=Qzy.1 hlast (o,k) (by rw[Z1v];exact⟨k,by rw[Z10,Z0z hkn,hk];simp⟩);exact this
 ·have hi2:i < n:=by have:=(Z0v.1 hi).1;simp at this;omega
  rw[Z0z hi2]at hi;exact⟨by simpa using hi,by omega⟩
section
variable {E:Env}{o:Oper}{fr:Fr}{σ:St}
theorem Qs1{k:IntKind}{n:Int}(hT:TabOk E.P E.T)(ho:o.op=.indexAddr t x i)(ht:Tab.get t E.T=some ti)(hk:Nat.beq ti.kind 3=true)(hj:Tab.get ti.elem E.T=some tj)(hx:aEval E.Γ fr x=some (.one (.box cs)))(hi':aEval E.Γ fr i=some (.one (.lit (.int k n))))(h0:0<=n)(hn:n < ti.len):
  AStep E o fr σ (.one (.box (cs.drop (n.toNat * tj.size)))) σ:=by
 refine Qqz fun F w C tmps hi hf=>?_;have h1:=Q01 (a:=⟨tmps,E.ds⟩) hi hf hx;have h2:=Q01 (a:=⟨tmps,E.ds⟩) hi hf hi';simp only[RF,R]at h1 h2;obtain⟨ad,hv,hs,hr⟩:=h1;obtain⟨inf,d,z,_,hu,_,_,_,_,_,hkd⟩:=(hT t ti ht).ex;have hkd':d=.array ti.len ti.elem:=by simpa[kindOf,Z2v hk]using hkd
 subst hkd';have hsz:=(hT _ _ hj).run_sizeOf (w:=w);refine⟨.pointer (some (ad.add (n.toNat * tj.size))),?_,ad.add (n.toNat * tj.size),rfl,by rw[Qqm hs],?_⟩
 ·unfold execOp;simp only[ho];simp[Instr.indexAt,hv,h2.1,asIntOf,run_underlying hu,Instr.sureAddr,h0,hn,hsz,Result.andThen]
 ·rw[Qqm hs];exact RL.drop _ hs hr
end
theorem Qs2{b':Bool}(hT:TabOk E.P E.T)(h:aHead E ops o fr σ=some (.one (.lit (.bool b)),σ))(hb:b=b'):HStep E ops o fr σ σ (.one (.lit (.bool b'))):=by subst hb;exact Qzr hT h
end Go.Abs
namespace Go.Abs
open Go.RowKit (Below)
open Go.ChangeShapes
def ctx0 (w:World):Ctx:=⟨fun a=>a.block < w.heap.size,0,0,fun _=>0,fun _=>none⟩
theorem inv0(hg:∀g cs,(g,cs)∈Γ->RG w (ctx0 w) cs g):Inv Γ (fun k=>k < w.heap.size) w (ctx0 w) ⟨0,[],fun _=>none⟩:=by
 have hget:∀i,(⟨0,[],fun _=>none⟩:St).get i=none:=by intro i;cases i <;> rfl
 refine⟨fun _ h=>h,rfl,hg,fun a h=>h,fun i o h=>?_,fun i j o o' g h _ _ _=>?_⟩
 ·rw[hget]at h;cases h
 ·rw[hget]at h;cases h
theorem Qs3{name:String}(hg:P.globalNamed name=some g)(hv:w.var? P name=some xs.toArray)(h1:xs.all Value.oneCell'=true):RG w (ctx0 w) (xs.map .lit) g:=by
 simp only[World.var?,hg,Z3h]at hv;cases ho:w.heap[g]? with
 |none=>rw[ho]at hv;cases hv
 |some o=>
  rw[ho]at hv;cases o with
  |cells c t fr=>
   simp only[Z3o]at hv;subst hv;have hlt:g < w.heap.size:=Q0f ho;have hc:∀j,w.cell? ⟨g,j,none⟩=xs[j]?:=fun j=>by simp[World.cell?,ho]
   have key:∀(l:List Value) (k:Nat),xs.drop k=l->l.all Value.oneCell'=true->RL w (ctx0 w) (l.map .lit) ⟨g,k,none⟩:=by
    intro l
    induction l with
    |nil=>intro k _ _;simp[RL]
    |cons x l ih=>
     intro k hk hl;simp only[List.all_cons,Qzc]at hl;have hx:xs[k]?=some x:=by have:=congrArg (·[0]?) hk;simpa using this
     refine⟨⟨x,(hc k).trans hx,hlt,by simp[R,hl.1]⟩,ih (k+1) ?_ hl.2⟩;rw[←List.drop_drop,hk];rfl
   exact⟨key xs 0 rfl h1,by rw[hc];simp,hlt⟩
  |_=>cases hv
theorem Stp.below(h:Stp F w w'){B:Nat}(hF:∀k,k < B->F k):Below B w w':=
 ⟨h.os,h.tape,h.output,h.size,fun k hk=>h.block k (hF k hk)⟩
theorem APure.calls{args:List FV}(h:APure P Γ g args r){vs:List Value}(hg:∀g cs,(g,cs)∈Γ->RG w (ctx0 w) cs g)
  (ha:RFs w (ctx0 w) args vs):Calls P g vs.toArray w fun e w'=>∃v C',e=.returned v/\RF w' C' r v/\Below w.heap.size w w':=
 ((h (fun _=>none)).2 _ w (ctx0 w) vs rfl (inv0 hg) ha).mono fun e w' ⟨v,r',ou',C',h1,h2,h3,h4,h5,h6,h7⟩=>
  ⟨v,C',h1,by rw[←h6];exact h5,h2.stp.below fun _ h=>h⟩
section
variable {H:Type}{enc:TypeId×Value->H}{P:Program}{w:World}{base:Nat}{sp:Nat->Bool}{held:Bool}
def Opens (enc:TypeId×Value->H)(P:Program)(w:World)(bulk:DataW H->Nat)(t:TypeId)(n:Nat){α:Type}(c:α->List AC)(wt:α->Nat):Prop:=
 ∀(cs:List Value) (x:DataW H×List MemPlace),DataW.trod enc P w 0 (fun _=>true) true n t cs=some x->∃a:α,RV w (ctx0 w) (c a) cs/\wt a<=bulk x.1
theorem cells?_held{n:Nat}{cs:List Value}(h:w.cells? base a n=some cs):cs.length=n/\∀j v,cs[j]?=some v->w.cell? (a.add j)=some v:=by
 unfold World.cells? at h;split at h
 ·have h1:∀(l:List Nat) (cs:List Value),l.mapM (fun i=>w.cell? (a.add i))=some cs->cs.length=l.length/\∀(j:Nat) (v:Value),cs[j]?=some v->∃i,l[j]?=some i/\w.cell? (a.add i)=some v:=by
   intro l
   induction l with
   |nil=>intro cs h;simp at h;subst h;simp
   |cons i l ih=>
    intro cs h;rw[Z1d]at h;obtain⟨u,hu,h⟩:=Z3g.1 h;obtain⟨us,hus,h⟩:=Z3g.1 h;simp at h;subst h;obtain⟨k1,k2⟩:=ih us hus;refine⟨by simp[k1],fun j v hj=>?_⟩;cases j with
    |zero=>simp at hj;subst hj;exact⟨i,rfl,hu⟩
    |succ j=>simpa using k2 j v (by simpa using hj)
  obtain⟨k1,k2⟩:=h1 _ _ h;refine⟨by simpa using k1,fun j v hj=>?_⟩;obtain⟨i,hi,hc⟩:=k2 j v hj;have:j < n:=by have:=(Z0v.1 hi).1;simpa using this
  rw[List.getElem?_range this]at hi;injection hi with hi;subst hi;exact hc
 ·cases h
theorem cell?_lt(h:w.cell? a=some v):a.block < w.heap.size/\a.spot=none:=by
 unfold World.cell? at h;split at h
 ·rename_i c e t he;refine⟨Q0f he,?_⟩;cases hs:a.spot with
  |none=>rfl
  |some x=>rw[hs]at h;simp at h
 ·cases h
theorem Qs4:∀{k g:Nat},RV w (ctx0 w) cs xs->(∀(j:Nat)(v:Value),xs[j]?=some v->w.cell? ⟨g,k+j,none⟩=some v)->RL w (ctx0 w) cs ⟨g,k,none⟩:=by
 induction cs generalizing xs with
 |nil=>intro k g _ _;trivial
 |cons c cs ih=>
  intro k g h hc;obtain⟨u,us,rfl,h1,h2⟩:=h;refine⟨⟨u,by simpa using hc 0 u rfl,(cell?_lt (by simpa using hc 0 u rfl)).1,h1⟩,ih h2 fun j v hj=>?_⟩;have:=hc (j+1) v (by simpa using hj);rw[show k+1+j=k+(j+1) by omega];exact this
theorem Opens.int{bulk:DataW H->Nat}{t:TypeId}{n:Nat}{k:IntKind}(ht:P.underlying t=some (.int k)):Opens enc P w bulk t n (fun i:{i:Int // k.min<=i/\i<=k.max}=>[.lit (.int k i.1)]) (fun _=>0):=by intro cs x h;obtain⟨i,rfl,rfl,hw⟩:=DataW.trod_int ht h;refine⟨⟨i,?_⟩,⟨_,_,rfl,⟨rfl,rfl⟩,rfl⟩,Z3b _⟩;simpa[Lit.wf]using hw
def Q52 (bulk:DataW H->Nat)(l:List (DataW H)):Nat:=(l.map bulk).sum
def wtAll {α:Type}(wt:α->Nat)(l:List α):Nat:=(l.map wt).sum
theorem Opens.slice{bulk:DataW H->Nat}(hb:∀l r,Q52 bulk l+1<=bulk (.slice l r))(hn:1<=bulk .nil){t e:TypeId}{n s:Nat}(ht:P.underlying t=some (.slice e))(hs:P.cellsOf e=s)(h0:0 < s)
  {α:Type}{c:α->List AC}{wt:α->Nat}(he:Opens enc P w bulk e n c wt):Opens enc P w bulk t (n+1) (fun l:List α=>[.sl s (l.map c)]) (fun l=>wtAll wt l+1):=by
 intro cs x h;rcases DataW.trod_slice ht h with ⟨rfl,rfl⟩|⟨a,len,cap,elems,rest,m,hm,rfl,rfl,_,hl,hmx,hlen,hel,_,_⟩
 ·exact⟨[],⟨_,_,rfl,⟨none,0,rfl,Z30 _,.inl rfl⟩,rfl⟩,by simpa[wtAll]using hn⟩
 obtain rfl:n=m:=by omega
 rw[hs]at hel;have hel':∀i,i < elems.length->∃cs',w.cells? 0 (a.add (i * s)) s=some cs'/\∃y,elems[i]?=some y/\DataW.trod enc P w 0 (fun _=>true) true n e cs'=some y:=fun i hi=>by have h1:=hel i zoy;rw[Z0t hi]at h1;obtain⟨cs',h2,h3⟩:=Z3g.1 h1;exact⟨cs',h2,_,Z0t hi,h3⟩
 have hspot:elems≠[]->a.spot=none:=fun hne=>by have hpos:0 < elems.length:=Z18.2 hne;obtain⟨cs',h1,_⟩:=hel' 0 hpos;obtain⟨hcl,hch⟩:=cells?_held h1;obtain⟨v,hv⟩:∃v,cs'[0]?=some v:=⟨_,Z0t zoy⟩;have:=(cell?_lt (hch 0 v hv)).2;simpa[Addr.add]using this
 have key:a.spot=none->∀(elems:List (DataW H×List MemPlace)) (off:Nat),(∀i,i < elems.length->∃cs',w.cells? 0 (a.add ((off+i) * s)) s=some cs'/\∃y,elems[i]?=some y/\DataW.trod enc P w 0 (fun _=>true) true n e cs'=some y)->
   ∃l:List α,l.length=elems.length/\wtAll wt l<=Q52 bulk (elems.map (·.1))/\RS w (ctx0 w) s (l.map c) ⟨a.block,a.off+off * s,none⟩:=by
  intro hsp elems
  induction elems with
  |nil=>intro off _;exact⟨[],rfl,by simp[wtAll,Q52],trivial⟩
  |cons y ys ih=>
   intro off h;obtain⟨cs',h1,y',hy,h2⟩:=h 0 zsy;simp at hy;subst hy;obtain⟨l,k1,k2,k3⟩:=ih (off+1) fun i hi=>by obtain⟨cs',j1,y',j2,j3⟩:=h (i+1) (by simpa using hi);refine⟨cs',by rw[show off+1+i=off+(i+1) by omega];exact j1,y',by simpa using j2,j3⟩
   obtain⟨b,hb1,hb2⟩:=he cs' y h2;obtain⟨hcl,hch⟩:=cells?_held h1;refine⟨b::l,by simp[k1],?_,?_⟩
   ·simp only[wtAll,Q52,Z1g,Z2f]at *;omega
   ·refine⟨by have:=hb1.length;omega,Qs4 hb1 fun j v hj=>?_,?_⟩
    ·have:=hch j v hj;rw[Qqm hsp,Qqm rfl]at this;simpa using this
    ·have:a.off+(off+1) * s=a.off+off * s+s:=by rw[Z2r];omega
     rw[this]at k3;exact k3
 have hbk:=hb (elems.map (·.1)) (rest.map (·.1));cases elems with
 |nil=>exact⟨[],⟨_,_,rfl,⟨some a,cap,by simp at hlen;simp[hlen],Z3b _,.inl rfl⟩,rfl⟩,by simp[wtAll]at *;omega⟩
 |cons y ys=>
  have hsp:=hspot zsy;obtain⟨l,k1,k2,k3⟩:=key hsp (y::ys) 0 fun i hi=>by simpa using hel' i hi
  refine⟨l,⟨_,_,rfl,⟨some a,cap,by simp[k1,←hlen],by simp[k1];simp at hlen;omega,.inr ⟨a,rfl,hsp,?_⟩⟩,rfl⟩,Z31 (Nat.add_le_add_right k2 1) hbk⟩;have e:a=⟨a.block,a.off,none⟩:=by cases a;simp_all
  rw[e];simpa using k3
inductive Parts (enc:TypeId×Value->H)(P:Program)(w:World)(bulk:DataW H->Nat)(n:Nat):List Field->Nat->{α:Type}->(α->List AC)->(α->Nat)->Prop
 |nil (off:Nat):Parts enc P w bulk n [] off (α:=Unit) (fun _=>[]) (fun _=>0)
 |cons {f:Field}{fs:List Field}{off s:Nat}{α β:Type}{c:α->List AC}{wt:α->Nat}{d:β->List AC}{ut:β->Nat}(ho:f.offset=off) (hs:P.cellsOf f.type=s) (h:Opens enc P w bulk f.type n c wt)
   (hl:∀a,(c a).length=s) (h2:Parts enc P w bulk n fs (off+s) d ut):Parts enc P w bulk n (f::fs) off (α:=α×β) (fun x=>c x.1++d x.2) (fun x=>wt x.1+ut x.2)
theorem Parts.ok{bulk:DataW H->Nat}{n:Nat}{fs:List Field}{c:α->List AC}(h:Parts enc P w bulk n fs off c wt):∀(cs:List Value)(xs:List (DataW H×List MemPlace)),xs.length=fs.length->
  (∀(i:Nat) (f:Field),fs[i]?=some f->DataW.trod enc P w 0 (fun _=>true) true n f.type ((cs.drop f.offset).take (P.cellsOf f.type))=xs[i]?)->
  ∃a:α,RV w (ctx0 w) (c a) ((cs.drop off).take (c a).length)/\wt a<=Q52 bulk (xs.map (·.1)):=by
 induction h with
 |nil off=>intro cs xs _ _;exact⟨(),by simp[RV],Z3b _⟩
 |@cons f fs off s α β c wt d ut ho hs h hl h2 ih=>
  intro cs xs hxl hx
  match xs,hxl with
  |y::ys,hxl=>
   have h0:=hx 0 f rfl;simp only[Z0r,ho,hs]at h0;obtain⟨a,ha,hw⟩:=h _ _ h0;obtain⟨b,hb,hu⟩:=ih cs ys (by simpa using hxl) fun i g hg=>by simpa using hx (i+1) g (by simpa using hg)
   refine⟨(a,b),?_,?_⟩
   ·have e:(cs.drop off).take (c a++d b).length=(cs.drop off).take s++((cs.drop (off+s)).take (d b).length):=by rw[Z12,hl,List.take_add,List.drop_drop]
    show RV w (ctx0 w) (c a++d b) ((cs.drop off).take (c a++d b).length);rw[e];exact ha.append hb
   ·simp only[Q52,Z1g,Z2f]at *;show wt a+ut b<=_;omega
theorem Opens.as{bulk:DataW H->Nat}{n:Nat}{β:Type}{c:α->List AC}{d:β->List AC}{ut:β->Nat}(h:Opens enc P w bulk t n c wt)(hf:∀a,∃b,d b=c a/\ut b<=wt a):Opens enc P w bulk t n d ut:=by intro cs x hx;obtain⟨a,ha,hw⟩:=h cs x hx;obtain⟨b,hb,hu⟩:=hf a;exact⟨b,by rw[hb];exact ha,Z31 hu hw⟩
theorem Opens.zero{bulk:DataW H->Nat}{c:α->List AC}:Opens enc P w bulk t 0 c wt:=by intro cs x hx;simp[DataW.trod]at hx
end
end Go.Abs
namespace Go.Abs
theorem ACode.monoK{c:Code}{K':Cont}(h:ACode E c K fr σ)(hk:∀e fr σ,K e fr σ->K' e fr σ):ACode E c K' fr σ:=by intro F w0 C0 w C tmps hg hi hf;refine wp_mono (h F w0 C0 w C tmps hg hi hf) fun e act w' hp=>?_;obtain⟨hd,fr2,σ2,C2,h1,h2,h3,h4⟩:=hp;exact⟨hd,fr2,σ2,C2,h1,h2,h3,hk _ _ _ h4⟩
theorem Qs5{x y:Code}{Fin:Fr->St->Prop}{k:List AItem}(hΓ:GI E.Γ)(frI:α->Fr)(σI:α->St)(I:α->Prop)
  (hx:ACode E x (Q05 E Fin (.inv (fun fr' σ'=>∃a ρ,I a/\LessR ρ fr' σ' (frI a) (σI a))::k)) fr σ) (hy:∀a,I a->ACode E y (Q05 E Fin k) (frI a) (σI a)):ACode E x (Q05 E Fin (.code y::k)) fr σ:=by
 refine ACode.monoK hx fun e fr2 σ2 h=>?_;cases e with
 |normal=>
  obtain⟨a,ρ,ha,hl⟩:=h;exact ACode.lessR hΓ hl (hy a ha)
 |_=>exact h
section
variable {E:Env}{o:Oper}{fr:Fr}{σ:St}
end
end Go.Abs
namespace Go.Abs
def Qj4 (E:Env)(ops:Array Oper)(l:List Oper)(vs:List FV)(frb:Fr)(σ0 σ1 σ2:St)(al st:Nat):Nat->List Oper->List FV->Prop
 |_,[],[]=>True
 |k,o::os,v::ws=>(dstOk E.N o.dst=true/\
   (if k=al then HStep E ops o (depFr l vs o++frb) σ0 σ1 v else if k=st then HStep E ops o (depFr l vs o++frb) σ1 σ2 v else
    HStep E ops o (depFr l vs o++frb) σ0 σ0 v/\HStep E ops o (depFr l vs o++frb) σ1 σ1 v/\HStep E ops o (depFr l vs o++frb) σ2 σ2 v))/\Qj4 E ops l vs frb σ0 σ1 σ2 al st (k+1) os ws
 |_,_,_=>False
section
variable {E:Env}{l:List Oper}{vs:List FV}{frb:Fr}{σ0 σ1 σ2:St}{al st n:Nat}{K:Cont}
theorem Qj4.at{ops:Array Oper}:∀{os:List Oper}{ws:List FV}{k:Nat},Qj4 E ops l vs frb σ0 σ1 σ2 al st k os ws->os.length=ws.length/\∀(i:Nat)(o:Oper),os[i]?=some o->∃v,ws[i]?=some v/\dstOk E.N o.dst=true/\
   (if k+i=al then HStep E ops o (depFr l vs o++frb) σ0 σ1 v else if k+i=st then HStep E ops o (depFr l vs o++frb) σ1 σ2 v else
    HStep E ops o (depFr l vs o++frb) σ0 σ0 v/\HStep E ops o (depFr l vs o++frb) σ1 σ1 v/\HStep E ops o (depFr l vs o++frb) σ2 σ2 v)
 |[],[],k,_=>⟨rfl,fun i o h=>by simp at h⟩
 |[],_::_,k,h=>h.elim
 |_::_,[],k,h=>h.elim
 |o::os,v::ws,k,h=>by
  obtain⟨⟨h2,h3⟩,h4⟩:=h;obtain⟨h5,h6⟩:=Qj4.at h4;refine⟨by simp[h5],fun i p hi=>?_⟩;cases i with
  |zero=>simp at hi;subst hi;exact⟨v,rfl,h2,by simpa using h3⟩
  |succ i=>
   obtain⟨v',k1,k3,k4⟩:=h6 i p (by simpa using hi);refine⟨v',by simpa using k1,k3,?_⟩;rw[show k+(i+1)=k+1+i by omega];exact k4
end
end Go.Abs
namespace Go.Abs
theorem Qs6{e:Nat}(hg:o.guard=some (j,b))(hj:Q11 ops j=some e)(hb:Fr.get e fr=some (.one (.lit (.bool b))))
  (h:AOps E ops ({ o with guard:=none }::rest) K fr σ):AOps E ops (o::rest) K fr σ:=by
 intro F w0 C0 w C tmps hgo hi hf;have h1:=h F w0 C0 w C tmps hgo hi hf;have hy:=Q5z hf hj hb;unfold wpList at h1 ⊢;rw[if_pos (by simp[Region.wanted,hg,hy])];rw[if_pos (by simp[Region.wanted])]at h1;exact h1
mutual
theorem AC.sub_pure(θ:Id->Id):∀c:AC,c.ids (fun _=>False)->c.sub θ=c
 |.lit _,_=>rfl
 |.any,_=>rfl
 |.sl s es,h=>by simp only[AC.ids]at h;simp only[AC.sub];rw[Qdz θ es h]
 |.box cs,h=>by simp only[AC.ids]at h;simp only[AC.sub];rw[Q2r θ cs h]
 |.ptr i off,h=>h.elim
 |.gs s es i,h=>h.1.elim
 |.arr i s off len cap,h=>h.elim
 |.mp i,h=>h.elim
 |.fn f a b,h=>by simp only[AC.ids]at h;simp only[AC.sub];rw[Q2r θ a h.1,Q2r θ b h.2]
 |.ifc t ag cs,h=>by simp only[AC.ids]at h;simp only[AC.sub];rw[Q2r θ cs h]
theorem Qdz(θ:Id->Id):∀es:List (List AC),idsS (fun _=>False) es->subS θ es=es
 |[],_=>rfl
 |e::es,h=>by simp only[idsS]at h;simp only[subS];rw[Q2r θ e h.1,Qdz θ es h.2]
theorem Q2r(θ:Id->Id):∀cs:List AC,idsL (fun _=>False) cs->subL θ cs=cs
 |[],_=>rfl
 |c::cs,h=>by simp only[idsL]at h;simp only[subL];rw[AC.sub_pure θ c h.1,Q2r θ cs h.2]
end
mutual
theorem FV.sub_pure(θ:Id->Id):∀x:FV,x.ids (fun _=>False)->x.sub θ=x
 |.bot,_=>rfl
 |.one c,h=>by simp only[FV.ids]at h;simp only[FV.sub];rw[AC.sub_pure θ c h]
 |.agg cs,h=>by simp only[FV.ids]at h;simp only[FV.sub];rw[Q2r θ cs h]
 |.tup vs,h=>by simp only[FV.ids]at h;simp only[FV.sub];rw[Qe0 θ vs h]
theorem Qe0(θ:Id->Id):∀vs:List FV,idsF (fun _=>False) vs->subF θ vs=vs
 |[],_=>rfl
 |v::vs,h=>by simp only[idsF]at h;simp only[subF];rw[FV.sub_pure θ v h.1,Qe0 θ vs h.2]
end
open Go.RowKit (Below)
open Go.ChangeShapes Go.WideShapes Go.ChangeAt Go.RowKit
section
variable {H:Type}{enc:TypeId×Value->H}{P:Program}{W W':World}
theorem rf_int{base:Nat}{r:Reach}{k:IntKind}(ht:P.underlying t=some (.int k))(h:Value.okWide P W r base t v)(hr:RV W C [c] v.cells.toList):RF W C (.one c) v:=by obtain⟨n,rfl⟩:=okWide_int ht h;obtain⟨u,us,he,h1,h2⟩:=hr;simp[Value.cells]at he;obtain⟨rfl,rfl⟩:=he;exact h1
theorem Q6x(hl:laidOutB P=true){sp:Nat->Bool}:∀{ts:List TypeId}{vs:List Value}{ds:List (DataW H)}{ps:List MemPlace},(∀t∈ts,P.readableRec t=true/\t < P.types.size)->
  DataW.TrodAll enc P W 0 (fun _=>true) true ts vs ds ps->(∀x∈ps,W.sameAt W' x)->(∀x∈ps,sp x.block=true)->DataW.TrodAll enc P W' 0 sp true ts vs ds ps
 |[],[],[],ps,_,h,_,_=>h
 |t::ts,v::vs,d::ds,ps,hr,h,hs,hb=>by obtain⟨p,q,h1,h2,rfl⟩:=h;refine⟨p,q,WideElems.Trod_stays hl (hr t zsy).1 (hr t zsy).2 h1 (fun x hx=>hs x (Z1n _ hx)) (fun x hx=>hb x (Z1n _ hx)),?_,rfl⟩;exact Q6x hl (fun t ht=>hr t (by simp[ht])) h2 (fun x hx=>hs x (Z1o _ hx)) (fun x hx=>hb x (Z1o _ hx))
 |[],_::_,_,_,_,h,_,_=>h.elim
 |[],[],_::_,_,_,h,_,_=>h.elim
 |_::_,[],_,_,_,h,_,_=>h.elim
 |_::_,_::_,[],_,_,h,_,_=>h.elim
theorem Qe4(hl:laidOutB P=true)(hr:∀t∈fn.params.toList,P.readableRec t=true/\t < P.types.size){s:ChangeSpec}(hv:s.vars=[]){tb:TypeId}(htb:P.underlying tb=some .bool)(hrt:fn.resultTypes=#[tb]){args:Array Value}{ds gs:List (DataW H)}{before:List MemPlace}
  (hW:DataW.Whole enc P fn.params.toList s.vars false W args.toList ds gs before) (hspec:s.fn H (ds++gs)={ results:=[.lit (.bool true)],args:=ds })
  (hc:Calls P g args W fun e w'=>∃v C',e=.returned v/\RF w' C' (.one (.lit (.bool true))) v/\Below W.heap.size W w'):
  Calls P g args W fun e W'=>∃v,e=.returned v/\s.post enc P fn false true false false W args v W':=by
 refine hc.mono fun e W' ⟨v,C',he,hr',hb⟩=>?_;simp only[RF,R]at hr';obtain rfl:=hr'.1;have hlt:=hW.lt;have hW0:=hW;obtain⟨p,q,hA,hV,rfl,hfz,hnd⟩:=hW0;rw[hv]at hV;obtain⟨rfl,rfl⟩:=trodVars_none hV;simp only[Z02]at hW hspec hlt;refine⟨_,he,⟨ds,[],_,[],p,[],hW,?_,?_,?_,World.keptBut_mono (fun p hp=>⟨hp,.inr (.inl hp)⟩) (hb.frame _),fun h=>by cases h⟩⟩
 ·rw[Z02,hspec,hrt];exact trodAll_cons_mk (shut_bool htb _) trodAll_mk0
 ·rw[Z02,hspec];exact Q6x hl hr hA (fun x hx=>hb.same (hlt x hx)) fun x hx=>by simpa using hlt x hx
 ·rw[Z02,hspec,hv];rfl
end
end Go.Abs
namespace Go.Abs
def updO (ou:Outer)(k:Nat)(o:AObj):Outer:=fun j=>bif Nat.beq k j then some o else ou j
theorem Q04(ou:Outer)(k:Nat)(o:AObj):updO ou k o k=some o:=by simp[updO]
theorem Q02(ou:Outer)(h:k≠j)(o:AObj):updO ou k o j=ou j:=by simp[updO,Q06 h]
def toO (j k:Nat):Id->Id
 |.l i=>bif Nat.beq i j then .o k else .l i
 |.o i=>.o i
theorem Qs7
  (hΓ:GI E.Γ) (ho:o.op=.call { callee:=.value f,args:=args,argTypes:=tys })
  (hf:aEval E.Γ fr f=some (.one (.fn (.func g) first caps))) (hargs:Q1g E.Γ fr args.toList=some vs) (hw:WkFs (first.map .one++vs++caps.map .one) ws) (Qvd:idsF isO ws) (hou:OuOk σ.ou)
  (hc:APure E.P E.Γ g ws r):AStep E o fr σ r σ:=by
 intro F w C tmps hi hfr next Q hk
 have Qve:=Q01 (a:=⟨tmps,E.ds⟩) hi hfr hf;simp only[RF,R]at Qve;obtain⟨xs,ys,hfv,hx,hy⟩:=Qve;have hvs:=Q27 (a:=⟨tmps,E.ds⟩) hi hfr hargs;have hall:RFs w C ws (xs++args.toList.map (Act.eval ⟨tmps,E.ds⟩)++ys):=hw _ _ _ ((Z3q hx |>.append hvs).append (Z3q hy));have hrun:(execOp (Act.eval ⟨tmps,E.ds⟩) o).run E.P w=.ok (.enter g (xs++args.toList.map (Act.eval ⟨tmps,E.ds⟩)++ys).toArray) w:=by unfold execOp;simp only[ho,resolve,Z3s,hfv,Deferred.ofValue,Z3t,Z3r,invoke,(hc σ.ou).1];congr 2;apply Qz6;simp
 unfold Oper.wp;rw[hrun,Z3e];have hc1:Chg isO w C w { C with nl:=0 }:=⟨fun _ _=>rfl,fun _ h=>h,fun i hp ho=>⟨by cases i with|l k=>cases hp|o k=>exact ho,rfl,rfl⟩⟩;refine ((hc σ.ou).2 (Q3h w C σ.ou) w { C with nl:=0 } _ rfl (hi.forCallee hou hΓ) (RFs.chg hc1 _ _ Qvd hall)).mono fun e w' ⟨v,r',ou',C',he,hgo,h0,hi',hr,hQ1,hQ2⟩=>?_;subst he;subst hQ1;subst hQ2;obtain⟨hb1,hb2,hb3⟩:=hi.back hgo h0 hi';have Qw7:r'.ids isO:=FV.ids_mono (Q4l h0) r' (RF.idsOk r' v hr);exact hk v w' _ hb1 hb2 (RF.chg hb3 r' v Qw7 hr)
theorem Qs8{d:Nat}
  (hΓ:GI E.Γ) (hc:APure E.P E.Γ g ws r) (hgd:o.guard=none) (Qvh:o.dst=some d) (hd:Nat.ble (d+1) E.N=true) (ho:o.op=.call { callee:=.value f,args:=args,argTypes:=tys })
  (hf:aEval E.Γ fr f=some (.one (.fn (.func g) first caps))) (hargs:Q1g E.Γ fr args.toList=some vs) (hw:WkFs (first.map .one++vs++caps.map .one) ws) (hou:OuOk σ.ou) (Qvd:idsF isO ws)
  (h:AOps E ops rest K ((d,r)::fr) σ):AOps E ops (o::rest) K fr σ:=
 Qr9 hgd Qvh hd (Qs7 hΓ ho hf hargs hw Qvd hou hc) h
theorem Qs9{r:Fr}{i:Nat}(h:Fr.get k fr=some (.one (.gs s es (.l j))))(hj:j=ρ i)(hp:idsS isO es)(hr:FrSub ρ fr r):FrSub ρ fr ((k,.one (.gs s es (.l i)))::r):=by refine Qzo h (.ofEq ?_) hr;simp only[FV.ren,AC.ren];rw[Q25 ρ es hp,hj];rfl
end Go.Abs
namespace Go.Proofs.YtlmokgooijbcdaaGreatDoor
open Go Go.Abs
theorem tokK(z:Value)(hU:Tryz.prog.underlying t=some d)(hk:kindOf ti d)(hI:(Tryz.prog.info? t).map (fun i=>(i.zero,i.size,i.bytes))=some (some z,ti.size,ti.bytes):=by kernel_rfl)(hz:z.cells.toList=ti.zero:=by rfl)(ha:aggOf d=ti.agg:=by rfl)(h1:ti.zero.all Value.oneCell'=true:=by rfl)(hl:ti.zero.length=ti.size:=by rfl)(hp:Nat.beq ti.size 0=false:=by rfl):TIOk Tryz.prog t ti:=TIOk.of hI hU hz ha hk h1 hl hp
def ti3:TI:=⟨1,8,false,[.int .i64 0],0,[],0,0⟩
theorem tok3:TIOk Tryz.prog 3 ti3:=tokK (.int .i64 0) Z42 trivial
def ti4:TI:=⟨1,1,false,[.bool false],0,[],0,0⟩
theorem tok4:TIOk Tryz.prog 4 ti4:=tokK (.bool false) Tryz.underlying4 trivial
def ti5:TI:=⟨1,1,false,[.int .u8 0],0,[],0,0⟩
theorem tok5:TIOk Tryz.prog 5 ti5:=tokK (.int .u8 0) Tryz.underlying5 trivial
def ti9:TI:=⟨1,16,false,[.string ⟨#[]⟩],5,[],0,0⟩
theorem tok9:TIOk Tryz.prog 9 ti9:=tokK (.string ⟨#[]⟩) Tryz.underlying9 rfl
def ti20:TI:=⟨1,16,false,[.nilIface],0,[],0,0⟩
theorem tok20:TIOk Tryz.prog 20 ti20:=tokK (.nilIface) Tryz.underlying20 trivial
def ti28:TI:=⟨1,8,false,[.int .i64 0],0,[],0,0⟩
theorem tok28:TIOk Tryz.prog 28 ti28:=tokK (.int .i64 0) Tryz.underlying28 trivial
def ti32:TI:=⟨1,24,false,[.slice none 0 0],2,[],3,0⟩
theorem tok32:TIOk Tryz.prog 32 ti32:=tokK (.slice none 0 0) Tryz.underlying32 rfl
def ti33:TI:=⟨1,24,false,[.slice none 0 0],2,[],62,0⟩
theorem tok33:TIOk Tryz.prog 33 ti33:=tokK (.slice none 0 0) Tryz.underlying33 rfl
def ti46:TI:=⟨1,8,false,[.pointer none],6,[],84,0⟩
theorem tok46:TIOk Tryz.prog 46 ti46:=tokK (.pointer none) Tryz.underlying46 rfl
def ti51:TI:=⟨2,32,true,[.int .i64 0,.slice none 0 0],1,[(0,3),(1,32)],0,0⟩
theorem tok51:TIOk Tryz.prog 51 ti51:=tokK (.agg #[.int .i64 0,.slice none 0 0]) Tryz.underlying51 ⟨_,rfl,rfl⟩
def ti52:TI:=⟨1,24,false,[.slice none 0 0],2,[],51,0⟩
theorem tok52:TIOk Tryz.prog 52 ti52:=tokK (.slice none 0 0) Tryz.underlying52 rfl
def ti57:TI:=⟨3,40,true,[.slice none 0 0,.int .i64 0,.int .i64 0],1,[(0,32),(1,3),(2,3)],0,0⟩
theorem tok57:TIOk Tryz.prog 57 ti57:=tokK (.agg #[.slice none 0 0,.int .i64 0,.int .i64 0]) Tryz.underlying57 ⟨_,rfl,rfl⟩
def ti62:TI:=⟨5,88,true,[.int .i64 0,.int .i64 0,.slice none 0 0,.slice none 0 0,.slice none 0 0],1,[(0,3),(1,3),(2,32),(3,32),(4,52)],0,0⟩
theorem tok62:TIOk Tryz.prog 62 ti62:=tokK (.agg #[.int .i64 0,.int .i64 0,.slice none 0 0,.slice none 0 0,.slice none 0 0]) Tryz.underlying62 ⟨_,rfl,rfl⟩
def ti73:TI:=⟨1,8,false,[.nilFunc],0,[],0,0⟩
theorem tok73:TIOk Tryz.prog 73 ti73:=tokK (.nilFunc) Tryz.underlying73 trivial
def ti74:TI:=⟨1,8,false,[.pointer none],6,[],119,0⟩
theorem tok74:TIOk Tryz.prog 74 ti74:=tokK (.pointer none) Z43 rfl
def ti76:TI:=⟨1,8,false,[.map none],4,[],3,0⟩
theorem tok76:TIOk Tryz.prog 76 ti76:=tokK (.map none) Z44 ⟨_,rfl⟩
def ti82:TI:=⟨1,24,false,[.slice none 0 0],2,[],46,0⟩
theorem tok82:TIOk Tryz.prog 82 ti82:=tokK (.slice none 0 0) Tryz.underlying82 rfl
def ti84:TI:=⟨6,112,true,[.int .i64 0,.int .i64 0,.slice none 0 0,.slice none 0 0,.slice none 0 0,.slice none 0 0],1,[(0,62),(5,82)],0,0⟩
theorem tok84:TIOk Tryz.prog 84 ti84:=tokK (.agg #[.int .i64 0,.int .i64 0,.slice none 0 0,.slice none 0 0,.slice none 0 0,.slice none 0 0]) Tryz.underlying84 ⟨_,rfl,rfl⟩
def ti86:TI:=⟨1,8,false,[.pointer none],6,[],33,0⟩
theorem tok86:TIOk Tryz.prog 86 ti86:=tokK (.pointer none) Tryz.underlying86 rfl
def ti88:TI:=⟨1,8,false,[.pointer none],6,[],135,0⟩
theorem tok88:TIOk Tryz.prog 88 ti88:=tokK (.pointer none) Tryz.underlying88 rfl
def ti90:TI:=⟨1,8,false,[.nilFunc],0,[],0,0⟩
theorem tok90:TIOk Tryz.prog 90 ti90:=tokK (.nilFunc) Tryz.underlying90 trivial
def ti91:TI:=⟨1,8,false,[.pointer none],6,[],94,0⟩
theorem tok91:TIOk Tryz.prog 91 ti91:=tokK (.pointer none) Tryz.underlying91 rfl
def ti92:TI:=⟨1,8,false,[.map none],4,[],3,0⟩
theorem tok92:TIOk Tryz.prog 92 ti92:=tokK (.map none) Tryz.underlying92 ⟨_,rfl⟩
def ti94:TI:=⟨4,32,true,[.pointer none,.map none,.int .i64 0,.int .i64 0],1,[(0,88),(1,92),(2,3),(3,3)],0,0⟩
theorem tok94:TIOk Tryz.prog 94 ti94:=tokK (.agg #[.pointer none,.map none,.int .i64 0,.int .i64 0]) Tryz.underlying94 ⟨_,rfl,rfl⟩
def ti96:TI:=⟨1,8,false,[.pointer none],6,[],3,0⟩
theorem tok96:TIOk Tryz.prog 96 ti96:=tokK (.pointer none) Tryz.underlying96 rfl
def ti99:TI:=⟨1,8,false,[.pointer none],6,[],105,0⟩
theorem tok99:TIOk Tryz.prog 99 ti99:=tokK (.pointer none) Tryz.underlying99 rfl
def ti100:TI:=⟨1,8,false,[.pointer none],6,[],248,0⟩
theorem tok100:TIOk Tryz.prog 100 ti100:=tokK (.pointer none) Tryz.underlying100 rfl
def ti101:TI:=⟨1,16,false,[.nilIface],0,[],0,0⟩
theorem tok101:TIOk Tryz.prog 101 ti101:=tokK (.nilIface) Tryz.underlying101 trivial
def ti102:TI:=⟨1,8,false,[.pointer none],6,[],191,0⟩
theorem tok102:TIOk Tryz.prog 102 ti102:=tokK (.pointer none) Tryz.underlying102 rfl
def ti103:TI:=⟨1,24,false,[.slice none 0 0],2,[],236,0⟩
theorem tok103:TIOk Tryz.prog 103 ti103:=tokK (.slice none 0 0) Tryz.underlying103 rfl
def ti105:TI:=⟨8,104,true,[.pointer none,.pointer none,.nilIface,.pointer none,.slice none 0 0,.int .i64 0,.int .i64 0,.slice none 0 0],1,[(0,74),(1,100),(2,101),(3,102),(4,32),(5,3),(6,3),(7,103)],0,0⟩
theorem tok105:TIOk Tryz.prog 105 ti105:=tokK (.agg #[.pointer none,.pointer none,.nilIface,.pointer none,.slice none 0 0,.int .i64 0,.int .i64 0,.slice none 0 0]) Tryz.underlying105 ⟨_,rfl,rfl⟩
def ti117:TI:=⟨1,24,false,[.slice none 0 0],2,[],74,0⟩
theorem tok117:TIOk Tryz.prog 117 ti117:=tokK (.slice none 0 0) Tryz.underlying117 rfl
def ti119:TI:=⟨5,88,true,[.int .i64 0,.int .i64 0,.slice none 0 0,.slice none 0 0,.slice none 0 0],1,[(0,3),(1,3),(2,32),(3,117),(4,52)],0,0⟩
theorem tok119:TIOk Tryz.prog 119 ti119:=tokK (.agg #[.int .i64 0,.int .i64 0,.slice none 0 0,.slice none 0 0,.slice none 0 0]) Tryz.underlying119 ⟨_,rfl,rfl⟩
def ti132:TI:=⟨1,8,false,[.map none],4,[],140,0⟩
theorem tok132:TIOk Tryz.prog 132 ti132:=tokK (.map none) Tryz.underlying132 ⟨_,rfl⟩
def ti133:TI:=⟨1,24,false,[.slice none 0 0],2,[],4,0⟩
theorem tok133:TIOk Tryz.prog 133 ti133:=tokK (.slice none 0 0) Tryz.underlying133 rfl
def ti135:TI:=⟨7,136,true,[.slice none 0 0,.map none,.slice none 0 0,.int .i64 0,.slice none 0 0,.slice none 0 0,.slice none 0 0],1,[(0,33),(1,132),(2,32),(3,3),(4,133),(5,133),(6,133)],0,0⟩
theorem tok135:TIOk Tryz.prog 135 ti135:=tokK (.agg #[.slice none 0 0,.map none,.slice none 0 0,.int .i64 0,.slice none 0 0,.slice none 0 0,.slice none 0 0]) Tryz.underlying135 ⟨_,rfl,rfl⟩
def ti136:TI:=⟨1,24,false,[.slice none 0 0],2,[],140,0⟩
theorem tok136:TIOk Tryz.prog 136 ti136:=tokK (.slice none 0 0) Tryz.underlying136 rfl
def ti140:TI:=⟨3,40,true,[.int .i64 0,.slice none 0 0,.bool false],1,[(0,3),(1,32),(2,4)],0,0⟩
theorem tok140:TIOk Tryz.prog 140 ti140:=tokK (.agg #[.int .i64 0,.slice none 0 0,.bool false]) Tryz.underlying140 ⟨_,rfl,rfl⟩
def ti151:TI:=⟨1,8,true,[.int .i64 0],1,[(0,3)],0,0⟩
theorem tok151:TIOk Tryz.prog 151 ti151:=tokK (.agg #[.int .i64 0]) Tryz.underlying151 ⟨_,rfl,rfl⟩
def ti157:TI:=⟨1,8,false,[.nilFunc],0,[],0,0⟩
theorem tok157:TIOk Tryz.prog 157 ti157:=tokK (.nilFunc) Tryz.underlying157 trivial
def ti176:TI:=⟨1,8,false,[.pointer none],6,[],184,0⟩
theorem tok176:TIOk Tryz.prog 176 ti176:=tokK (.pointer none) Tryz.underlying176 rfl
def ti180:TI:=⟨1,24,false,[.slice none 0 0],2,[],224,0⟩
theorem tok180:TIOk Tryz.prog 180 ti180:=tokK (.slice none 0 0) Tryz.underlying180 rfl
def ti181:TI:=⟨1,24,false,[.slice none 0 0],2,[],180,0⟩
theorem tok181:TIOk Tryz.prog 181 ti181:=tokK (.slice none 0 0) Tryz.underlying181 rfl
def ti182:TI:=⟨1,8,false,[.map none],4,[],180,0⟩
theorem tok182:TIOk Tryz.prog 182 ti182:=tokK (.map none) Z40 ⟨_,rfl⟩
def ti184:TI:=⟨6,112,true,[.slice none 0 0,.slice none 0 0,.map none,.slice none 0 0,.slice none 0 0,.bool false],1,[(0,33),(1,181),(2,182),(3,180),(4,180),(5,4)],0,0⟩
theorem tok184:TIOk Tryz.prog 184 ti184:=tokK (.agg #[.slice none 0 0,.slice none 0 0,.map none,.slice none 0 0,.slice none 0 0,.bool false]) Tryz.underlying184 ⟨_,rfl,rfl⟩
def ti189:TI:=⟨1,24,false,[.slice none 0 0],2,[],101,0⟩
theorem tok189:TIOk Tryz.prog 189 ti189:=tokK (.slice none 0 0) Tryz.underlying189 rfl
def ti191:TI:=⟨4,48,true,[.pointer none,.pointer none,.slice none 0 0,.pointer none],1,[(0,74),(1,100),(2,189),(3,102)],0,0⟩
theorem tok191:TIOk Tryz.prog 191 ti191:=tokK (.agg #[.pointer none,.pointer none,.slice none 0 0,.pointer none]) Tryz.underlying191 ⟨_,rfl,rfl⟩
def ti193:TI:=⟨1,8,false,[.pointer none],6,[],195,0⟩
theorem tok193:TIOk Tryz.prog 193 ti193:=tokK (.pointer none) Tryz.underlying193 rfl
def ti195:TI:=⟨2,32,true,[.int .i64 0,.slice none 0 0],1,[(0,3),(1,189)],0,0⟩
theorem tok195:TIOk Tryz.prog 195 ti195:=tokK (.agg #[.int .i64 0,.slice none 0 0]) Tryz.underlying195 ⟨_,rfl,rfl⟩
def ti197:TI:=⟨1,8,false,[.map none],4,[],198,0⟩
theorem tok197:TIOk Tryz.prog 197 ti197:=tokK (.map none) Z41 ⟨_,rfl⟩
def ti224:TI:=⟨1,8,false,[.int .u64 0],0,[],0,0⟩
theorem tok224:TIOk Tryz.prog 224 ti224:=tokK (.int .u64 0) Tryz.underlying224 trivial
def ti236:TI:=⟨2,32,true,[.slice none 0 0,.pointer none],1,[(0,32),(1,74)],0,0⟩
theorem tok236:TIOk Tryz.prog 236 ti236:=tokK (.agg #[.slice none 0 0,.pointer none]) Tryz.underlying236 ⟨_,rfl,rfl⟩
def ti238:TI:=⟨1,8,false,[.pointer none],6,[],240,0⟩
theorem tok238:TIOk Tryz.prog 238 ti238:=tokK (.pointer none) Tryz.underlying238 rfl
def ti240:TI:=⟨2,32,true,[.int .i64 0,.slice none 0 0],1,[(0,3),(1,189)],0,0⟩
theorem tok240:TIOk Tryz.prog 240 ti240:=tokK (.agg #[.int .i64 0,.slice none 0 0]) Tryz.underlying240 ⟨_,rfl,rfl⟩
def ti244:TI:=⟨1,8,false,[.pointer none],6,[],246,0⟩
theorem tok244:TIOk Tryz.prog 244 ti244:=tokK (.pointer none) Tryz.underlying244 rfl
def ti246:TI:=⟨2,16,true,[.pointer none,.pointer none],1,[(0,74),(1,100)],0,0⟩
theorem tok246:TIOk Tryz.prog 246 ti246:=tokK (.agg #[.pointer none,.pointer none]) Tryz.underlying246 ⟨_,rfl,rfl⟩
def ti248:TI:=⟨3,32,true,[.int .i64 0,.nilIface,.pointer none],1,[(0,3),(1,101),(2,100)],0,0⟩
theorem tok248:TIOk Tryz.prog 248 ti248:=tokK (.agg #[.int .i64 0,.nilIface,.pointer none]) Tryz.underlying248 ⟨_,rfl,rfl⟩
def ti249:TI:=⟨12,96,true,[.int .i64 0,.int .i64 0,.int .i64 0,.int .i64 0,.int .i64 0,.int .i64 0,.int .i64 0,.int .i64 0,.int .i64 0,.int .i64 0,.int .i64 0,.int .i64 0],3,[],3,12⟩
theorem tok249:TIOk Tryz.prog 249 ti249:=tokK (.agg #[.int .i64 0,.int .i64 0,.int .i64 0,.int .i64 0,.int .i64 0,.int .i64 0,.int .i64 0,.int .i64 0,.int .i64 0,.int .i64 0,.int .i64 0,.int .i64 0]) Tryz.underlying249 rfl
def ti253:TI:=⟨1,8,false,[.int .u64 0],0,[],0,0⟩
theorem tok253:TIOk Tryz.prog 253 ti253:=tokK (.int .u64 0) Tryz.underlying253 trivial
def ti277:TI:=⟨1,8,false,[.pointer none],6,[],283,0⟩
theorem tok277:TIOk Tryz.prog 277 ti277:=tokK (.pointer none) Tryz.underlying277 rfl
def ti281:TI:=⟨1,24,false,[.slice none 0 0],2,[],102,0⟩
theorem tok281:TIOk Tryz.prog 281 ti281:=tokK (.slice none 0 0) Tryz.underlying281 rfl
def ti283:TI:=⟨1,24,true,[.slice none 0 0],1,[(0,281)],0,0⟩
theorem tok283:TIOk Tryz.prog 283 ti283:=tokK (.agg #[.slice none 0 0]) Tryz.underlying283 ⟨_,rfl,rfl⟩
def ti286:TI:=⟨1,8,false,[.pointer none],6,[],288,0⟩
theorem tok286:TIOk Tryz.prog 286 ti286:=tokK (.pointer none) Tryz.underlying286 rfl
def ti288:TI:=⟨2,48,true,[.slice none 0 0,.slice none 0 0],1,[(0,32),(1,189)],0,0⟩
theorem tok288:TIOk Tryz.prog 288 ti288:=tokK (.agg #[.slice none 0 0,.slice none 0 0]) Tryz.underlying288 ⟨_,rfl,rfl⟩
def ti293:TI:=⟨1,8,false,[.nilFunc],0,[],0,0⟩
theorem tok293:TIOk Tryz.prog 293 ti293:=tokK (.nilFunc) Tryz.underlying293 trivial
def ti295:TI:=⟨1,8,false,[.int .i64 0],0,[],0,0⟩
theorem tok295:TIOk Tryz.prog 295 ti295:=tokK (.int .i64 0) Tryz.underlying295 trivial
def ti303:TI:=⟨1,4,false,[.int .u32 0],0,[],0,0⟩
theorem tok303:TIOk Tryz.prog 303 ti303:=tokK (.int .u32 0) Tryz.underlying303 trivial
def ti314:TI:=⟨1,24,false,[.slice none 0 0],2,[],189,0⟩
theorem tok314:TIOk Tryz.prog 314 ti314:=tokK (.slice none 0 0) Tryz.underlying314 rfl
def ti324:TI:=⟨1,8,false,[.int .u64 0],0,[],0,0⟩
theorem tok324:TIOk Tryz.prog 324 ti324:=tokK (.int .u64 0) Tryz.underlying324 trivial
def ti336:TI:=⟨1,8,false,[.pointer none],6,[],324,0⟩
theorem tok336:TIOk Tryz.prog 336 ti336:=tokK (.pointer none) Tryz.underlying336 rfl
def tab:Tab:=[(3,ti3),(4,ti4),(5,ti5),(9,ti9),(20,ti20),(28,ti28),(32,ti32),(33,ti33),(46,ti46),(51,ti51),(52,ti52),(57,ti57),(62,ti62),(73,ti73),(74,ti74),(76,ti76),(82,ti82),(84,ti84),(86,ti86),(88,ti88),(90,ti90),(91,ti91),(92,ti92),(94,ti94),(96,ti96),(99,ti99),(100,ti100),(101,ti101),(102,ti102),(103,ti103),(105,ti105),(117,ti117),(119,ti119),(132,ti132),(133,ti133),(135,ti135),(136,ti136),(140,ti140),(151,ti151),(157,ti157),(176,ti176),(180,ti180),(181,ti181),(182,ti182),(184,ti184),(189,ti189),(191,ti191),(193,ti193),(195,ti195),(197,ti197),(224,ti224),(236,ti236),(238,ti238),(240,ti240),(244,ti244),(246,ti246),(248,ti248),(249,ti249),(253,ti253),(277,ti277),(281,ti281),(283,ti283),(286,ti286),(288,ti288),(293,ti293),(295,ti295),(303,ti303),(314,ti314),(324,ti324),(336,ti336)]
set_option maxRecDepth 20000 in
theorem tabOk:TabOk Tryz.prog tab:=TabOk.of (by simp only[tab,List.forall_mem_cons];exact⟨tok3,tok4,tok5,tok9,tok20,tok28,tok32,tok33,tok46,tok51,tok52,tok57,tok62,tok73,tok74,tok76,tok82,tok84,tok86,tok88,tok90,tok91,tok92,tok94,tok96,tok99,tok100,tok101,tok102,tok103,tok105,tok117,tok119,tok132,tok133,tok135,tok136,tok140,tok151,tok157,tok176,tok180,tok181,tok182,tok184,tok189,tok191,tok193,tok195,tok197,tok224,tok236,tok238,tok240,tok244,tok246,tok248,tok249,tok253,tok277,tok281,tok283,tok286,tok288,tok293,tok295,tok303,tok314,tok324,tok336,fun _ h=>by cases h⟩)
end Go.Proofs.YtlmokgooijbcdaaGreatDoor
namespace Go.Abs
section
variable {E:Env}{o:Oper}{fr:Fr}{σ:St}
theorem RV.replicate{w:World}{C:Ctx}{c:AC}{v:Value}(h:R w C c v):∀n:Nat,RV w C (List.replicate n c) (List.replicate n v)
 |0=>by simp[RV]
 |n+1=>⟨v,List.replicate n v,by simp[Z2b],h,RV.replicate h n⟩
theorem Qsa{n:Nat}(hT:TabOk E.P E.T)(ho:o.op=.makeSlice t x y)(ht:Tab.get t E.T=some ti)(hk:Nat.beq ti.kind 2=true)(hj:Tab.get ti.elem E.T=some tj)(hs:Nat.beq tj.size 1=true)(hz:tj.zero=[z])
  (hx:aEval E.Γ fr x=some (.one (.lit (.int .i64 n)))) (hy:aEval E.Γ fr y=some (.one (.lit (.int .i64 n)))) (hb:tj.bytes * n<=281474976710656) (hn:n<=281474976710656):
  AStep E o fr σ (.one (.arr (.l σ.n) 1 0 n n)) (σ.push (.cells (List.replicate n (.lit z)))):=by
 intro F w C tmps hi hf next Q hk2
 have e1:=Q01 (a:=⟨tmps,E.ds⟩) hi hf hx;have e2:=Q01 (a:=⟨tmps,E.ds⟩) hi hf hy;simp only[RF,R]at e1 e2;have hs':tj.size=1:=Z2v hs;have hsl:=(hT t ti ht).slice (Z2v hk);have htj:=hT _ _ hj;obtain⟨i,d,z',h1,h2,h3,h4,h5,h6,h7,h8⟩:=htj.ex;have hone:z.oneCell'=true:=by have:=htj.one;rw[hz]at this;simpa using this
 have hbi:(i.bytes:Int) * (n:Int)<=281474976710656:=by
  rw[h4];have h:((tj.bytes * n:Nat):Int)<=281474976710656:=by omega
  rwa [Int.natCast_mul]at h
 have hr:=run_make (P:=E.P) w t ti.elem i z' hsl h1 h5 .i64 .i64 n n zoy (Qzt _) hbi zoy;have hcells:madeCells z'.cells ((n:Int).toNat * i.size)=(List.replicate n z).toArray:=by
  rw[h3,hs'];have:z'.cells=#[z]:=by apply Qz6;rw[h6,hz]
  rw[this];apply Qz6;simp[madeCells,Nat.mod_one];rw[List.map_const'];simp
 rw[hcells]at hr;obtain⟨C',he,hno,hnp,hin,hok,hblk⟩:=hi.newObj (cs:=List.replicate n (.lit z)) (xs:=List.replicate n z) (RV.replicate (by simp only[R];exact⟨trivial,hone⟩) n) ti.elem;have hrun:(execOp (Act.eval ⟨tmps,E.ds⟩) o).run E.P w=.ok (.value (.slice (some ⟨w.heap.size,0,none⟩) n n)) (w.alloc (.cells (List.replicate n z).toArray ti.elem)):=by unfold execOp;simp only[ho,e1.1,e2.1,Z3s,hr,Z3r];simp
 unfold Oper.wp;rw[hrun,Z3f];exact hk2 _ _ C' ⟨Stp.alloc hi.base _ _,he,Z2y hno.symm,hnp⟩ hin (by simp only[RF,R];exact⟨hok,by rw[hblk,Z3c],Z30 _⟩)
theorem Qsb{k:IntKind}{j:Id}{len:Nat}{n:Nat}(hT:TabOk E.P E.T)(ho:o.op=.indexAddr t x i)(ht:Tab.get t E.T=some ti)(hk:Nat.beq ti.kind 2=true)(hj:Tab.get ti.elem E.T=some tj)(hs:Nat.beq tj.size s=true)
  (hx:aEval E.Γ fr x=some (.one (.arr j s off len cap))) (hi':aEval E.Γ fr i=some (.one (.lit (.int k n)))) (hn:n < len):AStep E o fr σ (.one (.ptr j (off * s+n * s))) σ:=by
 refine Qqz fun F w C tmps hi hf=>?_;have h1:=Q01 (a:=⟨tmps,E.ds⟩) hi hf hx;have h2:=Q01 (a:=⟨tmps,E.ds⟩) hi hf hi';have hsz:=(hT _ _ hj).run_sizeOf w;have hsl:=(hT t ti ht).slice (Z2v hk);have hs':tj.size=s:=Z2v hs;simp only[RF,R]at h1 h2;obtain⟨hok,hx1,hc⟩:=h1;have Qxu:(n:Int) < len:=by omega
 refine⟨.pointer (some ((⟨C.blk j,off * s,none⟩:Addr).add (n * s))),?_,hok,?_⟩
 ·unfold execOp;simp only[ho,hx1,h2.1];simp[Instr.indexAt,asIntOf,run_underlying hsl,Qxu,hn,hsz,hs']
 ·rw[Qqm rfl]
theorem Qsc{j:Id}(hT:TabOk E.P E.T)(ho:o.op=.load t x)(ht:Tab.get t E.T=some ti)(ha:ti.agg=false)(hs:Nat.beq ti.size 1=true)(hx:aEval E.Γ fr x=some (.one (.ptr j off)))
  (hg:σ.get j=some (.cells cs)) (hc:cs[off]?=some c):AStep E o fr σ (.one c) σ:=by
 refine Qqs hT ?_;have hs':ti.size=1:=Z2v hs;have hlt:off < cs.length:=(Z0v.1 hc).1;have e1:(cs.drop off).take 1=[c]:=by rw[Z07 hlt];simp[(Z0v.1 hc).2]
 have hb:Nat.ble (off+1) cs.length=true:=Nat.ble_eq▸(show off+1<=cs.length by omega);simp only[ho,aOp,ht,ha,hs',hx,aLoad,hg,hb,cond_true,Q1b,e1,mkFV];rfl
theorem AStep.storeOwn{j:Id}(hT:TabOk E.P E.T)(ho:o.op=.store t x y)(ht:Tab.get t E.T=some ti)(hs:Nat.beq ti.size 1=true)(hx:aEval E.Γ fr x=some (.one (.ptr j off)))
  (hy:aEval E.Γ fr y=some (.one c)) (hg:σ.get j=some (.cells cs)) (hlt:off < cs.length):aOp E.T E.Γ o.op fr σ=some (none,σ.set j (.cells (cs.set off c))):=by
 have hs':ti.size=1:=Z2v hs;have hb:Nat.ble (off+1) cs.length=true:=Nat.ble_eq▸(show off+1<=cs.length by omega);have ov:∀(xs:List AC) (n:Nat),n < xs.length->over xs n [c]=xs.set n c:=by
  intro xs
  induction xs with
  |nil=>intro n h;simp at h
  |cons a xs ih=>
   intro n h;cases n with
   |zero=>cases xs <;> simp[over]
   |succ n=>simp only[over,List.set_cons_succ];rw[ih n (by simpa using h)]
 simp only[ho,aOp,ht,hx,hy,Qfj,hg,FV.cells,hs',hb,Z1b,Q4f,cond_true,Bool.and_self,Q1b,ov cs off hlt]
end
theorem AOps.storeOwn{E:Env}{ops:Array Oper}{rest:List Oper}{o:Oper}{K:Cont}{fr:Fr}{σ:St}{t:TypeId}{ti:TI}{x y:Operand}{j:Id}{off:Nat}{cs:List AC}{c:AC}(hT:TabOk E.P E.T)(hgd:o.guard=none)(hd:o.dst=none)(ho:o.op=.store t x y)(ht:Tab.get t E.T=some ti)(hs:Nat.beq ti.size 1=true)(hx:aEval E.Γ fr x=some (.one (.ptr j off)))
  (hy:aEval E.Γ fr y=some (.one c)) (hg:σ.get j=some (.cells cs)) (hlt:off < cs.length) (h:AOps E ops rest K fr (σ.set j (.cells (cs.set off c)))):AOps E ops (o::rest) K fr σ:=
 AOps.store hT hgd hd (AStep.storeOwn hT ho ht hs hx hy hg hlt) h
end Go.Abs
namespace Go.Abs
def vec (s:Nat)(es:List (List AC))(cap:Nat):List AC:=es.flatten++List.replicate ((cap - es.length) * s) .any
inductive BaseO (σ:St):AC->Nat->List (List AC)->Nat->St->Prop
 |nil (s:Nat):BaseO σ (.lit (.slice none 0 0)) s [] 0 σ
 |own (s cap:Nat) (es:List (List AC)) (i:Id) (h:σ.get i=some (.cells (vec s es cap))) (hl:∀x∈es,x.length=s) (hn:es.length<=cap):BaseO σ (.arr i s 0 es.length cap) s es cap (σ.set i .dead)
theorem Qcf{z:Array Value}(h:z.toList.all Value.oneCell'=true)(hp:z.size≠0)(n:Nat):∀x∈(Builtin.zeroCells z n).toList,x.oneCell'=true:=by intro x hx;simp only[Builtin.zeroCells,Array.toList_map,Z1w]at hx;obtain⟨i,_,rfl⟩:=hx;have hlt:i % z.size < z.size:=Nat.mod_lt _ zoy;rw[getElem!_pos z _ hlt];exact Qzy.1 h _ zsy
theorem Qsd{w:World}{C:Ctx}:∀(l:List Value),(∀x∈l,x.oneCell'=true)->RV w C (List.replicate l.length .any) l
 |[],_=>by simp[RV]
 |x::l,h=>⟨x,l,rfl,h x zsy,Qsd l fun y hy=>h y (by simp[hy])⟩
theorem RV.toAny{l:List Value}(h:RV w C cs l):RV w C (List.replicate cs.length .any) l:=by rw[←h.length];exact Qsd l h.one
theorem Q3o{s:Nat}:∀{es:List (List AC)},(∀x∈es,x.length=s)->es.flatten.length=es.length * s
 |[],_=>by simp
 |e::es,h=>by have ih:=Q3o (es:=es) (fun x hx=>h x (Z1q _ hx));have he:=h e (Z1r ..);simp only[Z0j,Z12,Z13,ih,he,Z2r,Nat.one_mul];omega
section
variable {Γ:List (Nat×List AC)}{F:Nat->Prop}{w:World}{C:Ctx}{σ:St}
theorem Qkf{w:World}(t ty e T:TypeId)(i:TypeInfo)(ht:P.underlying t=some (.slice e))(hi:P.info? e=some i)(g n cap:Nat)(cur:Array Value)(hg:w.heap[g]?=some (.cells cur T (0,0)))
  (a:Addr) (m c:Nat) (news:List Value) (hl:news.length=m * i.size) (hnews:∀j u,news[j]?=some u->w.cell? (a.add j)=some u) (h1:∀u∈news,u.oneCell'=true) (hroom:n+m<=cap) (hfit:n * i.size+news.length<=cur.size):
  (Builtin.append_ #[t,t] ty #[.slice (some ⟨g,0,none⟩) n cap,.slice (some a) m c]).run P w=.ok (.slice (some ⟨g,0,none⟩) (n+m) cap) (w.setRow g (cur.toList.take (n * i.size)++news++cur.toList.drop (n * i.size+news.length)).toArray):=by
 have k1:=run_firstCells_some (P:=P) w i.size m a m c news hl hnews;have k2:=run_storeCells_at P g (n * i.size) T news 0 cur w hg (by simpa using hfit) h1;rw[Z2t]at k2;simp[Builtin.append_,run_underlying ht,sizeOf,typeInfo,hi,Builtin.lenOf,hroom,k1,Addr.add_lit,k2]
theorem Qkj(hl:∀x∈es,x.length=s)(hn:es.length<=cap):(vec s es cap).length=cap * s:=by rw[vec,Z12,Q3o hl,List.length_replicate,←Z2r];congr 1;omega
theorem vec_put{nv:List Value}(hel:∀x∈es,x.length=s)(hnc:es.length<=cap)(hxe:RV w C es.flatten (xs.take (es.length * s)))(hnr:RV w C news.flatten nv)(Qwf:nv.length=news.length * s)(o3:RV w C (vec s es cap) xs):
  RV w C (vec s (es++news) cap) (xs.take (es.length * s)++nv++xs.drop (es.length * s+nv.length)):=by
 have e1:((vec s es cap).drop (es.length * s+nv.length)).length=(cap - (es++news).length) * s:=by rw[Z14,Qkj hel hnc,Qwf,←Z2r,Z12,Nat.sub_mul]
 have e2:vec s (es++news) cap=es.flatten++news.flatten++List.replicate ((cap - (es++news).length) * s) .any:=by rw[vec,Z0i]
 rw[e2,←e1];exact (hxe.append hnr).append (o3.drop _).toAny
theorem Inv.appendOwn(hi:Inv Γ F w C σ){P:Program}{t ty e:TypeId}{tj:TI}(hsl:P.underlying t=some (.slice e))(hj:TIOk P e tj){c d:AC}{s cap0:Nat}{es news:List (List AC)}{σ1:St}(hb:BaseO σ c s es cap0 σ1)(hsrc:Src d s news)(hne:news≠[])
  (hs:tj.size=s) (hbytes:(es.length+news.length) * tj.bytes<=140737488355328) (h63:es.length+news.length<=140737488355328){v u:Value}(hv:R w C c v) (hu:R w C d u):
  ∃v' w' C' cap,(Builtin.append_ #[t,t] ty #[v,u]).run P w=.ok v' w'/\Goes F (fun _=>True) w C w' C'/\Inv Γ F w' C' (σ1.push (.cells (vec s (es++news) cap)))/\R w' C' (.arr (.l σ.n) s 0 (es++news).length cap) v'/\(es++news).length<=cap:=by
 obtain⟨i0,dd,z,g1,g2,g3,g4,g5,g6,g7,g8⟩:=hj.ex;have hzl:z.cells.size=tj.size:=by have:=hj.len;rw[←g6]at this;simpa using this
 have hpos:=hj.pos;obtain⟨hnl,b,capn,nv,rfl,Qwf,hnr,hheld,_⟩:=hsrc.held hu;obtain⟨ad,rfl,hh2⟩:=hheld.resolve_left hne;have hm0:0 < news.length:=Z18.2 hne;have Qxv:∀x∈nv,x.oneCell'=true:=RV.one hnr;have Qw0:nv.length=news.length * i0.size:=by rw[Qwf,g3,hs]
 have hone:=hj.one;rw[←g6]at hone
 -- a new row
 have newrow:∀(σ1:St) (hi1:Inv Γ F w C σ1) (hn1:σ1.n=σ.n) (xs:List Value) (capk:Nat),RV w C es.flatten xs->(es++news).length<=capk->∀zc:Array Value,zc=Builtin.zeroCells z.cells (capk - (es++news).length)->
   ∃C',Goes F (fun _=>True) w C (w.drew.alloc (.cells (xs.toArray++nv.toArray++zc) e)) C'/\Inv Γ F (w.drew.alloc (.cells (xs.toArray++nv.toArray++zc) e)) C' (σ1.push (.cells (vec s (es++news) capk)))/\
    R (w.drew.alloc (.cells (xs.toArray++nv.toArray++zc) e)) C' (.arr (.l σ.n) s 0 (es++news).length capk) (.slice (some ⟨w.heap.size,0,none⟩) (es++news).length capk):=by
  intro σ1 hi1 hn1 xs capk hxr hck zc hzc;obtain⟨he0,hid⟩:=hi1.drew;have hz1:∀x∈zc.toList,x.oneCell'=true:=by rw[hzc];exact Qcf hone (by rw[hzl];exact hpos) _
  have hzn:zc.toList.length=(capk - (es++news).length) * s:=by rw[Array.length_toList,hzc,size_zeroCells,hzl,hs]
  have hr:RV w.drew C (vec s (es++news) capk) (xs++nv++zc.toList):=by rw[vec,Z0i,←hzn];exact ((hxr.append hnr).ext he0).append (Qsd _ hz1)
  obtain⟨C',he,hno,hnp,hin,hok,hblk⟩:=hid.newObj hr e;have heq:(xs++nv++zc.toList).toArray=xs.toArray++nv.toArray++zc:=by apply Qz6;simp
  rw[heq]at he hin;refine⟨C',⟨(Stp.drew F w).trans (Stp.alloc (w:=w.drew) hi.base _ _),he0.trans he,by rw[hno];exact Z30 _,hnp⟩,hin,⟨by rw[←hn1];exact hok,?_,hck⟩⟩;rw[←hn1,hblk,Z3c];rfl
 cases hb with
 |nil=>
  simp only[R]at hv;obtain⟨rfl,_⟩:=hv;have hr:=run_append_nil (P:=P) w t ty e i0 z hsl g1 g5 ad news.length capn nv Qw0 hh2 hm0 (by simp at h63;omega) (by rw[g4];simp at hbytes;omega);have hge:=grownCap_ge w news.length 0 e;obtain⟨C',k1,k2,k3⟩:=newrow σ hi rfl [] (grownCap w news.length 0 e) (by simp[RV]) (by simpa using hge) _ rfl;refine⟨_,_,C',_,hr,?_,?_,?_,by simpa using hge⟩
  ·simpa using k1
  ·simpa using k2
  ·simpa using k3
 |own _ _ _ i h hel hnc=>
  simp only[R,Z3c]at hv;obtain⟨hok,rfl,_⟩:=hv;obtain⟨xs,T,o1,o2,o3,o4⟩:=(hi.obj i _ h).2;have Qw9:=hi.kill h;have hxl:=RV.length o3;have hfl:=Q3o hel;have hle:es.length * s<=xs.length:=by rw[hxl,vec,Z12,hfl];omega
  have hxe:RV w C es.flatten (xs.take (es.length * s)):=by have:=o3.take (es.length * s);rwa [vec,Z2i zoy,Z2k zoy]at this
  have hall:∀x∈es++news,x.length=s:=fun x hx=>(Z1m.1 hx).elim (hel x) (hnl x);by_cases hroom:es.length+news.length<=cap0
  ·have hxs:xs.length=cap0 * s:=by rw[hxl,Qkj hel hnc]
   have hfit:es.length * i0.size+nv.length<=xs.toArray.size:=by rw[g3,hs,Qwf,←Z2r];simp only[Z2e,hxs];exact Z35 _ hroom
   have hr:=Qkf (P:=P) (w:=w) t ty e T i0 hsl g1 (C.blk i) es.length cap0 xs.toArray o1 ad news.length capn nv Qw0 hh2 Qxv hroom hfit;rw[g3,hs]at hr hfit;simp only[List.toList_toArray]at hr;have hrv:=vec_put hel hnc hxe hnr Qwf o3;have hgh:=Q5f w (C.blk i) xs.toArray (xs.take (es.length * s)++nv++xs.drop (es.length * s+nv.length)).toArray T o1;have Qx7:∀j p g,(σ.set i .dead).get j=some p->p.block C j=some g->g≠C.blk i:=fun j p g hp hbk e=>by
    by_cases e':i=j
    ·subst e';rw[Qqj]at hp;cases hp;simp[AObj.block]at hbk
    ·rw[Qqk σ e']at hp;exact e' (hi.inj i j _ p g h hp (by rw[e];rfl) hbk)
   have he:Ext w C (w.setRow (C.blk i) (xs.take (es.length * s)++nv++xs.drop (es.length * s+nv.length)).toArray) (C.more (C.blk i) none):=
    ⟨fun a ha=>Z49 (setRow_other w _ _ _ fun e'=>o4 a e' ha),fun a ha=>ha,fun j _ ho=>Qqp C _ _ ho⟩
   have hsz:(w.setRow (C.blk i) (xs.take (es.length * s)++nv++xs.drop (es.length * s+nv.length)).toArray).heap.size=w.heap.size:=by simp
   have hnw:=Qqq C (C.blk i) none (n:=(σ.set i .dead).n) (by rw[←Qw9.next]);have hadd:Inv Γ F (w.setRow (C.blk i) (xs.take (es.length * s)++nv++xs.drop (es.length * s+nv.length)).toArray) (C.more (C.blk i) none) ((σ.set i .dead).push (.cells (vec s (es++news) cap0))):=by
    refine Qw9.addObj (o:=.cells (vec s (es++news) cap0)) (d:=.l (σ.set i .dead).n) (Z3u _ _) he ?_ ?_ ?_ ?_ ?_ hnw.1 ?_ ?_
    ·show C.nl+1=(σ.set i .dead).n+1;rw[Qw9.next]
    ·intro k hk;rw[hsz];exact hi.base k hk
    ·intro a ha;rw[hsz];exact hi.prot a ha
    ·intro j p hp g x hbk hx;rw[setRow_other w _ g _ (Qx7 j p g hp hbk)];exact hx
    ·exact fun _ _ _ _ _ _ ha=>ha
    ·exact⟨_,T,by rw[hnw.2.1];exact hgh,by rw[hnw.2.1];exact o2,hrv.ext he,fun a ha hp=>o4 a (by rw[ha,hnw.2.1]) hp⟩
    ·intro j p g hp hbk hb2;simp only[AObj.block,Z3o]at hb2;exact Qx7 j p g hp hbk (by rw[←hb2,hnw.2.1])
   have hgo:Goes F (fun _=>True) w C (w.setRow (C.blk i) (xs.take (es.length * s)++nv++xs.drop (es.length * s+nv.length)).toArray) (C.more (C.blk i) none):=by
    refine⟨⟨rfl,rfl,rfl,Z2y hsz.symm,fun k hk=>setRow_other w _ k _ (by rintro rfl;exact o2 hk),fun a _=>?_⟩,he,Z30 _,fun a ha=>.inl ha⟩;by_cases e':a.block=C.blk i
    ·simp only[World.frozen?,e',hgh,o1]
    ·exact World.frozen?_of_block (setRow_other w _ a.block _ e')
   have hn2:(σ.set i .dead).n=σ.n:=Qql ..;rw[hn2]at hnw;refine⟨_,_,C.more (C.blk i) none,cap0,hr,hgo,hadd,?_,by rw[Z12];exact hroom⟩;simp only[R];exact⟨hnw.1,by rw[hnw.2.1,Z3c,Z12],by rw[Z12];exact hroom⟩
  ·clear Qw9;have Qw9:=hi.kill h;have Qx8:Held w (xs.take (es.length * s)) ⟨C.blk i,0,none⟩:=fun j v hj=>by
    have h2:j < es.length * s:=by have:=(Z0v.1 hj).1;simp at this;omega
    rw[Z0z h2]at hj;rw[Qqm rfl,cell_of_row _ _ _ _ _ _ o1];simpa using hj
   have hr:=run_append_grow (P:=P) w t ty e i0 z hsl g1 g5 ⟨C.blk i,0,none⟩ es.length cap0 (xs.take (es.length * s)) (by simp[g3,hs];omega) Qx8 ad news.length capn nv Qw0 hh2 zoy zoy (growslice_fits zoy (by rw[g4];exact hbytes));have hge:=grownCap_ge w (es.length+news.length) cap0 e;obtain⟨C',k1,k2,k3⟩:=newrow _ Qw9 (Qql ..) (xs.take (es.length * s)) (grownCap w (es.length+news.length) cap0 e) hxe (by simpa using hge) _ rfl;refine⟨_,_,C',_,?_,k1,k2,k3,by simpa using hge⟩;simpa using hr
end
theorem AOps.appOwn{d:AC}(hT:TabOk E.P E.T)(hgd:o.guard=none)(Qvh:o.dst=some dd)(hdd:Nat.ble (dd+1) E.N=true)
  (ho:o.op=.call { callee:=.builtin .append,args:=#[x,y],argTypes:=#[t,t] }) (ht:Tab.get t E.T=some ti) (hk:Nat.beq ti.kind 2=true) (hj:Tab.get ti.elem E.T=some tj) (hx:aEval E.Γ fr x=some (.one c)) (hy:aEval E.Γ fr y=some (.one d)) (hb:BaseO σ c s es cap0 σ1) (hsrc:Src d s news) (hne:news≠[])
  (hs:Nat.beq tj.size s=true) (hbytes:(es.length+news.length) * tj.bytes<=140737488355328) (h63:es.length+news.length<=140737488355328)
  (h:∀cap,(es++news).length<=cap->AOps E ops rest K ((dd,.one (.arr (.l σ.n) s 0 (es++news).length cap))::fr) (σ1.push (.cells (vec s (es++news) cap)))):AOps E ops (o::rest) K fr σ:=by
 intro F w0 C0 w C tmps hg hi hf;refine wpList_plain hgd fun N' hN=>?_;have h1:=Q01 (a:=⟨tmps,E.ds⟩) hi hf hx;have h2:=Q01 (a:=⟨tmps,E.ds⟩) hi hf hy;simp only[RF]at h1 h2;obtain⟨v',w',C',cap,hrun,hgo,hi',hr,hle⟩:=hi.appendOwn (ty:=o.type) ((hT t ti ht).slice (Z2v hk)) (hT _ _ hj) hb hsrc hne (Z2v hs) hbytes h63 h1 h2;have hex:(execOp (Act.eval ⟨tmps,E.ds⟩) o).run E.P w=.ok (.value v') w':=by unfold execOp;simp only[ho,resolve,invoke,builtin,Z3s,Z3t,Z3r,Z1l,Z1g,Z1j,hrun]
 unfold Oper.wp;rw[hex,Z3f];refine hN _ _ ?_;rw[Q3d,Qvh];exact h cap hle F w0 C0 w' C' _ (hg.trans hgo.toO) hi' (Q2i (dst:=some dd) (hf.ext hgo.chg) hdd hr)
end Go.Abs
namespace Go.Abs
open Go.MapKept
section
variable {E:Env}{o:Oper}{fr:Fr}{σ:St}
theorem Qse{kt et:TypeId}{m:Id}{ck:Nat}{es:List (Nat×Value×FV)}{zv:Value}{z v:FV}{cm:Bool}(ho:o.op=.lookup t x i cm)(hm:E.P.underlying t=some (.map kt et))(hd:E.P.underlying kt=some d)
  (hx:aEval E.Γ fr x=some (.one (.mp m))) (hg:σ.get m=some (.map ck es)) (hu:aEval E.Γ fr i=some (.one (.lit u))) (hku:IsKey d u) (hks:Qj3 d es) (hzv:(E.P.info? et).map (·.zero)=some (some zv)) (hz:∀w C,RF w C z zv) (hv:(match mFind u es with|some v=>v|none=>z)=v):
  AStep E o fr σ (if cm=true then .tup [v,.one (.lit (.bool (mFind u es).isSome))]else v) σ:=by
 refine Qqz fun F w C tmps hi hf=>?_;have h1:=Q01 (a:=⟨tmps,E.ds⟩) hi hf hx;have h2:=Q01 (a:=⟨tmps,E.ds⟩) hi hf hu;simp only[RF,R]at h1 h2;obtain⟨hok,ents,he,_,hrm⟩:=hi.obj m _ hg;have hzr:(zeroValue et).run E.P w=.ok zv w:=Qfl hzv;have hzf:RF w C z zv:=hz w C;rcases Q8e hku 0 hrm hks with ⟨a1,a2,a3⟩|⟨j,e,v0,a1,a2,a3,a4,a5,a6⟩
 ·rw[a1]at hv ⊢;simp only at hv;subst hv;cases cm with
  |true=>
   refine⟨.tuple #[zv,.bool false],?_,[zv,.bool false],rfl,zv,[.bool false],rfl,hzf,.bool false,[],rfl,⟨rfl,rfl⟩,rfl⟩;unfold execOp;simp only[ho];simp[Instr.lookup,run_underlying hm,h1.2,h2.1,Z2o he,run_checkKey hd hku,run_findKey hd a2,hzr,Result.andThen]
  |false=>
   refine⟨zv,?_,hzf⟩;unfold execOp;simp only[ho];simp[Instr.lookup,run_underlying hm,h1.2,h2.1,Z2o he,run_checkKey hd hku,run_findKey hd a2,hzr,Result.andThen]
 ·rw[a2]at hv ⊢;simp only at hv;subst hv;cases cm with
  |true=>
   refine⟨.tuple #[e.val,.bool true],?_,[e.val,.bool true],rfl,e.val,[.bool true],rfl,a3,.bool true,[],rfl,⟨rfl,rfl⟩,rfl⟩;unfold execOp;simp only[ho];simp[Instr.lookup,run_underlying hm,h1.2,h2.1,Z2o he,run_checkKey hd hku,run_findKey hd a5,Result.andThen]
  |false=>
   refine⟨e.val,?_,a3⟩;unfold execOp;simp only[ho];simp[Instr.lookup,run_underlying hm,h1.2,h2.1,Z2o he,run_checkKey hd hku,run_findKey hd a5,Result.andThen]
theorem Qsf(ho:o.op=.build t #[])(hu:E.P.underlying t=some (.struct #[]))(hz:(E.P.info? t).map (·.zero)=some (some (.agg #[]))):AStep E o fr σ (.agg []) σ:=by refine Qqz fun F w C tmps hi hf=>⟨.agg #[],?_,[],rfl,rfl⟩;unfold execOp;simp only[ho];simp[Instr.build,Qfl hz,run_underlying hu];rfl
theorem Qsg(ho:o.op=.alloc t)(hz:(E.P.info? t).map (·.zero)=some (some (.agg #[]))):AStep E o fr σ (.one (.ptr (.l σ.n) 0)) (σ.push (.cells [])):=by
 intro F w C tmps hi hf next Q hk
 obtain⟨C',he,hno,hnp,hin,hok,hblk⟩:=hi.newObj (cs:=[]) (xs:=[]) (by simp[RV]) t;have hrun:(execOp (Act.eval ⟨tmps,E.ds⟩) o).run E.P w=.ok (.value (.pointer (some ⟨w.heap.size,0,none⟩))) (w.alloc (.cells #[] t)):=by unfold execOp;simp only[ho];simp[Instr.alloc,Qfl hz,newVar,newRow,Value.cells]
 unfold Oper.wp;rw[hrun,Z3f];exact hk _ _ C' ⟨Stp.alloc hi.base _ _,he,Z2y hno.symm,hnp⟩ hin (by simp only[RF,R];exact⟨hok,by rw[hblk]⟩)
theorem Qsh{j:Id}(ho:o.op=.store t x y)(hz:(E.P.info? t).map (·.size)=some 0)(hx:aEval E.Γ fr x=some (.one (.ptr j 0)))(hy:aEval E.Γ fr y=some (.agg []))(hg:σ.get j=some (.cells [])):AStep E o fr σ .bot σ:=by
 intro F w C tmps hi hf next Q hk
 have h1:=Q01 (a:=⟨tmps,E.ds⟩) hi hf hx;have h2:=Q01 (a:=⟨tmps,E.ds⟩) hi hf hy;simp only[RF,R,RV]at h1 h2;obtain⟨xs,h2,rfl⟩:=h2;have hrun:(execOp (Act.eval ⟨tmps,E.ds⟩) o).run E.P w=.ok .skip w:=by
  unfold execOp;simp only[ho,h1.2,h2];cases hi:E.P.info? t with
  |none=>rw[hi]at hz;cases hz
  |some i=>
   rw[hi]at hz;simp only[Z3m,Z3o]at hz;simp[Instr.storeAt,Instr.sureAddr,storeVar,sizeOf,typeInfo,hi,hz,Value.cells,storeCells]
 unfold Oper.wp;rw[hrun,Oper.upon_skip];exact hk undef _ C (Goes.refl _ _ _ _) hi (by simp[RF])
theorem Qsi{a:Bool}(ht:E.P.underlying t=some .bool)(ho:o.op=.binOp .eql t x y yt)(hx:aEval E.Γ fr x=some (.one (.lit (.bool a))))(hy:aEval E.Γ fr y=some (.one (.lit (.bool b)))):AStep E o fr σ (.one (.lit (.bool (a==b)))) σ:=by refine Qqz fun F w C tmps hi hf=>⟨.bool (a==b),?_,rfl,rfl⟩;have h1:=Q01 (a:=⟨tmps,E.ds⟩) hi hf hx;have h2:=Q01 (a:=⟨tmps,E.ds⟩) hi hf hy;simp only[RF,R]at h1 h2;unfold execOp;simp only[ho,h1.1,h2.1,eqGuard_at_bool,Z3s,Z3t,Z3r];simp[binOp,run_equal_bool _ _ _ _ ht]
theorem Qsj{a:Bool}(ht:E.P.underlying t=some .bool)(ho:o.op=.binOp .neq t x y yt)(hx:aEval E.Γ fr x=some (.one (.lit (.bool a))))(hy:aEval E.Γ fr y=some (.one (.lit (.bool b)))):AStep E o fr σ (.one (.lit (.bool (!(a==b))))) σ:=by refine Qqz fun F w C tmps hi hf=>⟨.bool (!(a==b)),?_,rfl,rfl⟩;have h1:=Q01 (a:=⟨tmps,E.ds⟩) hi hf hx;have h2:=Q01 (a:=⟨tmps,E.ds⟩) hi hf hy;simp only[RF,R]at h1 h2;unfold execOp;simp only[ho,h1.1,h2.1,eqGuard_at_bool,Z3s,Z3t,Z3r];simp[binOp,run_equal_bool _ _ _ _ ht]
theorem AStep.min2{t ty:TypeId}{x y:Operand}{k:IntKind}{a b:Int}{tys:Array TypeId}(ho:o.op=.call { callee:=.builtin .min,args:=#[x,y],argTypes:=tys })(hx:aEval E.Γ fr x=some (.one (.lit (.int k a))))(hy:aEval E.Γ fr y=some (.one (.lit (.int k b)))):
  AStep E o fr σ (.one (.lit (.int k (if b < a then b else a)))) σ:=by
 refine Qqz fun F w C tmps hi hf=>⟨.int k (if b < a then b else a),?_,rfl,rfl⟩;have h1:=Q01 (a:=⟨tmps,E.ds⟩) hi hf hx;have h2:=Q01 (a:=⟨tmps,E.ds⟩) hi hf hy;simp only[RF,R]at h1 h2;unfold execOp;simp[ho,h1.1,h2.1,resolve,invoke,builtin,Builtin.min_,Builtin.min2]
end
theorem Qsk{x y:Code}{d:Nat}(hb:Fr.get d fr=some (.one (.lit (.bool b))))(ht:b=true->ACode E x K ((d,.one (.lit (.bool true)))::fr) σ)(hf:b=false->ACode E y K ((d,.one (.lit (.bool false)))::fr) σ):ACode E (.cond (.tmp d) x y) K fr σ:=by
 refine Qyl (c:=.tmp d) (b:=b) hb (fun h=>?_) (fun h=>?_)
 ·subst h;intro F w0 C0 w C tmps hg hi hfr;exact ht rfl F w0 C0 w C tmps hg hi (hfr.refine hb (fun _ h=>h))
 ·subst h;intro F w0 C0 w C tmps hg hi hfr;exact hf rfl F w0 C0 w C tmps hg hi (hfr.refine hb (fun _ h=>h))
theorem Qsl(hT:TabOk E.P E.T)(ho:o.op=.load t x)(ht:Tab.get t E.T=some ti)(ha:ti.agg=false)(hs:Nat.beq ti.size 1=true)(hx:aEval E.Γ fr x=some (.one (.box cs)))
  (hc:cs[0]?=some c):AStep E o fr σ (.one c) σ:=by
 refine Qqs hT ?_;have hs':ti.size=1:=Z2v hs;obtain⟨d,ds,rfl⟩:∃d ds,cs=d::ds:=by cases cs with|nil=>simp at hc|cons d ds=>exact⟨d,ds,rfl⟩
 simp only[Z0r,Z3o]at hc;subst hc;simp only[ho,aOp,ht,ha,hs',hx,aLoad,Q1b,Z13,Z2l,List.take_zero,mkFV];rfl
theorem Qsm{e:TypeId}(hgd:o.guard=none)(Qvh:o.dst=some dd)(hdd:Nat.ble (dd+1) E.N=true)(ho:o.op=.binOp .eql t x y yt)
  (ht:E.P.underlying t=some (.slice e)) (hx:aEval E.Γ fr x=some (.one (.sl s es))) (hy:aEval E.Γ fr y=some (.one (.lit (.slice none 0 0)))) (h:∀b,(b=true->es=[])->AOps E ops rest K ((dd,.one (.lit (.bool b)))::fr) σ):AOps E ops (o::rest) K fr σ:=by
 intro F w0 C0 w C tmps hg hi hf;refine wpList_plain hgd fun N' hN=>?_;have h1:=Q01 (a:=⟨tmps,E.ds⟩) hi hf hx;have h2:=Q01 (a:=⟨tmps,E.ds⟩) hi hf hy;simp only[RF,R]at h1 h2;obtain⟨a,cap,hv,hc,hor⟩:=h1;have hex:(execOp (Act.eval ⟨tmps,E.ds⟩) o).run E.P w=.ok (.value (.bool a.isNone)) w:=by unfold execOp;simp only[ho,hv,h2.1,eqGuard_at_slice,Z3s,Z3t,Z3r];simp[binOp,run_equal_slice_nil _ _ _ _ _ _ ht]
 unfold Oper.wp;rw[hex,Z3f];refine hN _ _ ?_;rw[Q3d,Qvh];refine h a.isNone (fun hb=>?_) F w0 C0 w C _ hg hi (Q2i (dst:=some dd) hf hdd (by simp only[RF,R];exact⟨trivial,rfl⟩));rcases hor with rfl|⟨ad,rfl,_⟩
 ·rfl
 ·cases hb
end Go.Abs
namespace Go.Abs
def Q0p (l:List Oper)(vals:Nat->Option FV)(o:Oper):Fr:=
 o.after.toList.filterMap fun e=>bif Region.binds .any e then (match (l[e.on]?).bind (·.dst),vals e.on with|some d,some v=>some (d,v)|_,_=>none)else none
def Q0j (vals:Nat->Option FV):Nat->List Oper->Fr
 |k,o::os=>match o.dst,vals k with
  |some d,some v=>(d,v)::Q0j vals (k+1) os
  |_,_=>Q0j vals (k+1) os
 |_,[]=>[]
def updV (vals:Nat->Option FV)(i:Nat)(v:FV):Nat->Option FV:=fun j=>if i=j then some v else vals j
theorem Q4x{vals:Nat->Option FV}:∀{os:List Oper}{k d:Nat}{v:FV},(d,v)∈Q0j vals k os->∃(i:Nat)(o:Oper),os[i]?=some o/\o.dst=some d/\vals (k+i)=some v
 |[],k,d,v,h=>by simp[Q0j]at h
 |o::os,k,d,v,h=>by
  simp only[Q0j]at h;have rec':(d,v)∈Q0j vals (k+1) os->∃(i:Nat) (o':Oper),(o::os)[i]?=some o'/\o'.dst=some d/\vals (k+i)=some v:=fun h=>by obtain⟨i,o',h1,h2,h3⟩:=Q4x h;exact⟨i+1,o',by simpa using h1,h2,by rw[show k+(i+1)=k+1+i by omega];exact h3⟩
  split at h
  ·rename_i d' w hd hw;rcases Z1p.1 h with h|h
   ·cases h;exact⟨0,o,rfl,hd,hw⟩
   ·exact rec' h
  ·exact rec' h
section
variable {E:Env}{l:List Oper}{frb:Fr}{n:Nat}{K:Cont}{J:Array Bool->St->(Nat->Option FV)->Prop}
structure MidJ (E:Env)(l:List Oper)(n:Nat)(frb:Fr)(J:Array Bool->St->(Nat->Option FV)->Prop)(F:Nat->Prop)(w0:World)(C0:Ctx)(listed:Array Bool)(a:Act)(w:World):Prop where
 defers:a.defers=E.ds
 ex:∃C σ vals,J listed σ vals/\Goes F isO w0 C0 w C/\Inv E.Γ F w C σ/\FrOk w C E.N frb a.tmps/\
  ∀(i:Nat) (o:Oper) (d:Nat) (v:FV),i < n->l[i]?=some o->o.dst=some d->vals i=some v->∃u,a.tmps[d]?=some u/\RF w C v u
theorem Qp8(hB:drawB l n=true)(hfb:(dsts (l.take n)).all (fun d=>(Fr.get d frb).isNone)=true)
  (Qvi:∀(listed:Array Bool) (σ:St) (vals:Nat->Option FV) (i:Nat) (o:Oper),i < n->l[i]?=some o->listed.getD i false=false->listed.size=l.length->(∀e∈o.after.toList,Region.binds .any e=true->listed.getD e.on false=true)->J listed σ vals->
   o.dst.isSome=true/\dstOk E.N o.dst=true/\∃σ' v,HStep E l.toArray o (Q0p l vals o++frb) σ σ' v/\J (listed.setIfInBounds i true) σ' (updV vals i v))
  (Qvf:∀σ vals,J (Q0d l.length n) σ vals->AOps E l.toArray (l.drop n) K (Q0j vals 0 (l.take n)++frb) σ):
  ∀(c:Nat) (listed:Array Bool) (a:Act) (w:World),((List.range n).filter fun j=>!listed.getD j false).length=c->HeadInv .any l.toArray n listed->MidJ E l n frb J F w0 C0 listed a w->
   wpAny E.P .any l.toArray (Post E F w0 C0 K) (c+(l.length - n)) listed a w:=by
 simp only[drawB,Qzc,decide_eq_true_eq]at hB;obtain⟨⟨⟨⟨⟨hn,hs⟩,hc⟩,hsq⟩,hdi⟩,haf⟩:=hB;have hsz:l.toArray.size=l.length:=by simp
 intro c
 induction c with
 |zero=>
  intro listed a w Qvo hinv Qvr;have hall:∀j,j < n->listed.getD j false=true:=by intro j hj;have:(List.range n).filter (fun j=>!listed.getD j false)=[]:=Z0b Qvo;have h2:=Z0d.1 this j (Z21.2 hj);simpa using h2
  have hl:listed=Q0d l.length n:=by
   apply Array.ext
   ·simp[Q0d,hinv.size]
   ·intro j h1 h2;have hj:j < l.length:=by simpa[Q0d]using h2
    have h3:listed.getD j false=listed[j]:=by simp[h1]
    simp only[Q0d,Qza,Qzb];by_cases hjn:j < n
    ·rw[←h3,hall j hjn];simp[hjn]
    ·have:=hinv.tail j zoy (by rw[hsz];exact hj);rw[Q4j h1]at this;rw[←h3,this];simp[hjn]
  have hdl:(l.drop n).length=l.length - n:=by simp
  rw[Z3a,←hdl];refine wpAny_of_seq (md:=.any) (l.drop n) n listed a w (fun j=>by simp[Z0s]) (by rw[hl,hdl];exact hsq) ?_;obtain⟨hd,C,σ,vals,hJ,hg,hi,hf,hv⟩:=Qvr;have ha:a=⟨a.tmps,E.ds⟩:=by cases a;simp_all
  rw[ha];rw[hl]at hJ;refine Qvf σ vals hJ F w0 C0 w C a.tmps hg hi ⟨hf.1,fun k x hk=>?_⟩;rcases Qr5 hk with hk|⟨_,hk⟩
  ·obtain⟨i,o,h1,h2,h3⟩:=Q4x (Qr6 hk);rw[Z3a]at h3;have hin:i < n:=by have:=(Z0v.1 h1).1;simp at this;omega
   rw[Z0z hin]at h1;exact hv i o k x hin h1 h2 h3
  ·exact hf.2 k x hk
 |succ c ih=>
  intro listed a w Qvo hinv Qvr
  -- some head is not listed
  have hex:∃i,i < n/\listed.getD i false=false/\∀j,j < i->listed.getD j false=true:=by
   have hne:∃i,i < n/\listed.getD i false=false:=by
    cases hL:(List.range n).filter (fun j=>!listed.getD j false) with
    |nil=>rw[hL]at Qvo;simp at Qvo
    |cons i L=>
     have:i∈(List.range n).filter (fun j=>!listed.getD j false):=by rw[hL];simp
     obtain⟨h1,h2⟩:=Z1s.1 this;exact⟨i,Z21.1 h1,by simpa using h2⟩
   obtain⟨i,hi⟩:=hne
   induction i using Nat.strongRecOn with
   |_ i ih2=>
    by_cases h:∃j,j < i/\listed.getD j false=false
    ·obtain⟨j,hj,hj2⟩:=h;exact ih2 j hj ⟨by omega,hj2⟩
    ·exact⟨i,hi.1,hi.2,fun j hj=>(Qzg _).mp (fun hb=>h ⟨j,hj,hb⟩)⟩
  obtain⟨i0,hi0n,hi0u,hi0m⟩:=hex;have Qvj:i0∈Region.ready .any l.toArray listed:=by
   rw[mem_ready];have hlt:i0 < l.length:=by omega
   refine⟨by rw[Q4j (by rw[hinv.size,hsz];exact hlt)];exact hi0u,l[i0],by simp[hlt],fun e he hb=>?_⟩;have h1:=Qzy.1 haf (l[i0],i0) (by rw[Z24];rw[Z0z hi0n];simp[hlt]);have h2:=Qz4.1 h1 e he;simp only[hb,Qzi,Qzf,decide_eq_true_eq]at h2;exact hi0m _ h2
  rw[show c+1+(l.length - n)=(c+(l.length - n))+1 by omega];refine⟨fun h=>absurd Qvj (by rw[h];simp),fun i hi=>?_⟩;have Qwr:listed.getD i0 true=false:=(mem_ready.1 Qvj).1;have hin:i < n:=by
   rcases Z33 i n with h|h
   ·exact h
   ·exact absurd hi (tail_waits hs hc (by rw[hsz];exact hn) hinv _ i0 rfl hi0n Qwr i h)
  obtain⟨hun,o,ho,hall⟩:=mem_ready.1 hi;have hlo:l[i]?=some o:=by simpa using ho
  obtain⟨hd,C,σ,vals,hJ,hg,hinvw,hf,hvals⟩:=Qvr;have ha:a=⟨a.tmps,E.ds⟩:=by cases a;simp_all
  rw[ha];have Qw8:listed.getD i false=false:=getD_both hun;have hil:i < listed.size:=by rw[hinv.size,hsz];omega
  have hlast:∀e∈o.after.toList,Region.binds .any e=true->e.on < n:=fun e he hb=>by have h1:=Qzy.1 haf (o,i) (by rw[Z24];rw[Z0z hin];simpa using hlo);have h2:=Qz4.1 h1 e (by simpa using he);simp only[hb,Qzi,Qzf,decide_eq_true_eq]at h2;omega
  obtain⟨hds,hdo,σ',v,hst,hJ'⟩:=Qvi listed σ vals i o hin hlo Qw8 (by rw[hinv.size,hsz]) (fun e he hb=>hall e (by simpa using he) hb) hJ;have hfr:FrOk w C E.N (Q0p l vals o++frb) a.tmps:=by
   refine⟨hf.1,fun k x hk=>?_⟩;rcases Qr5 hk with hk|⟨_,hk⟩
   ·have hm:=Qr6 hk;obtain⟨e,he,he2⟩:=Z1t.1 hm;cases hb:Region.binds .any e with
    |false=>rw[hb]at he2;cases he2
    |true=>
     rw[hb]at he2;simp only[cond_true]at he2;cases h1:(l[e.on]?).bind (·.dst) with
     |none=>rw[h1]at he2;cases he2
     |some d=>
      cases h2:vals e.on with
      |none=>rw[h1,h2]at he2;cases he2
      |some v'=>
       rw[h1,h2]at he2;cases he2;cases h3:l[e.on]? with
       |none=>rw[h3]at h1;cases h1
       |some oe=>
        rw[h3]at h1;exact hvals e.on oe k x (hlast e he hb) h3 h1 h2
   ·exact hf.2 k x hk
  obtain⟨d,hdd⟩:=Z3k.1 hds;refine Q7f hst hinvw hfr ho fun u w' C' hgo hi' hr=>?_;refine ih _ _ _ ?_ (hinv.set hi hin) ⟨put_defers ..,C',σ',_,hJ',hg.trans hgo.toO,hi',?_,fun j oj dj vj hj hoj hdj hvj=>?_⟩
  ·have h2:((List.range n).filter fun j=>!(listed.setIfInBounds i true).getD j false).length+1=((List.range n).filter fun j=>!listed.getD j false).length:=Q7n hin Qw8 hil;omega
  ·refine⟨by rw[hdd];simp[Act.put,hf.1],fun k x hk=>?_⟩;obtain⟨u',hu',hr'⟩:=hf.2 k x hk;have hne:d≠k:=by rintro rfl;have h1:=Qzy.1 hfb d (Z1t.2 ⟨o,Z1y (i:=i) (by rw[Z0z hin];exact hlo),hdd⟩);rw[hk]at h1;cases h1
   refine⟨u',?_,hr'.ext hgo.chg⟩;rw[hdd];simp only[Act.put];rw[Qz9 hne];exact hu'
  ·by_cases e:i=j
   ·subst e;rw[hlo]at hoj;cases hoj;rw[hdd]at hdj;cases hdj;rw[updV,if_pos rfl]at hvj;cases hvj;have hdN:d < a.tmps.size:=by rw[hf.1];rw[hdd]at hdo;exact Z2x (show Nat.ble (d+1) E.N=true from hdo)
    exact⟨u,by rw[hdd];simp[Act.put,hdN],hr⟩
   ·simp only[updV,if_neg e]at hvj;obtain⟨u',hu',hr'⟩:=hvals j oj dj vj hj hoj hdj hvj;have hne:d≠dj:=by rintro rfl;exact e (Q1s hdi (by rw[Z0z hin];exact hlo) (by rw[Z0z hj];exact hoj) hdd hdj)
    refine⟨u',?_,hr'.ext hgo.chg⟩;rw[hdd];simp only[Act.put];rw[Qz9 hne];exact hu'
theorem Qsn(n:Nat)(J:Array Bool->St->(Nat->Option FV)->Prop)(hm:E.P.follows .mixedOrders=true)(hB:drawB l n=true)(hfb:Qrn (dsts (l.take n)) fr=some frb)(h0:J (Array.replicate l.length false) σ0 (fun _=>none))
  (Qvi:∀(listed:Array Bool) (σ:St) (vals:Nat->Option FV) (i:Nat) (o:Oper),i < n->l[i]?=some o->listed.getD i false=false->listed.size=l.length->(∀e∈o.after.toList,Region.binds .any e=true->listed.getD e.on false=true)->J listed σ vals->
   o.dst.isSome=true/\dstOk E.N o.dst=true/\∃σ' v,HStep E l.toArray o (Q0p l vals o++frb) σ σ' v/\J (listed.setIfInBounds i true) σ' (updV vals i v))
  (Qvf:∀σ vals,J (Q0d l.length n) σ vals->AOps E l.toArray (l.drop n) K (Q0j vals 0 (l.take n)++frb) σ):ACode E (.region id l.toArray true) K fr σ0:=by
 have h3:=Qro hfb;intro F w0 C0 w C tmps hg hi hf;have hn:n < l.length:=by simp only[drawB,Qzc,decide_eq_true_eq]at hB;exact hB.1.1.1.1.1
 refine wp_region_any hm ?_;have h:=Qp8 (F:=F) (w0:=w0) (C0:=C0) (J:=J) hB (by rw[←h3];exact Qri _ _) Qvi Qvf n (Array.replicate l.toArray.size false) ⟨tmps,E.ds⟩ w.drew (by
   have:∀j,(!(Array.replicate l.toArray.size false).getD j false)=true:=fun j=>by rw[getD_replicate_false];rfl
   simp only[this];rw[Z0e.2 (fun _ _=>rfl),Z19])
  ⟨by simp,fun j oj _ hl=>(by rw[getD_replicate_false]at hl;cases hl),fun t _ ht=>getD_in (by simpa using ht) (getD_replicate_false _ _)⟩
  ⟨rfl,C,σ0,fun _=>none,by simpa using h0,hg.trans (Goes.drew hi).toO,hi.drew.2,⟨hf.1,fun k x hk=>by obtain⟨u,hu,hr⟩:=hf.2 k x (by rw[←h3]at hk;exact (Qrh hk).1);exact⟨u,hu,hr.ext hi.drew.1⟩⟩,fun i o d v _ _ _ hv=>by cases hv⟩
 rw[show n+(l.length - n)=l.toArray.size by simp;omega]at h;exact h
def mixV (S:List Nat)(vs:List FV)(f:Nat->Option FV):Nat->Option FV:=fun j=>bif S.any (fun k=>Nat.beq k j)then f j else vs[j]?
theorem Qso(n:Nat)(S:List Nat)(vs:List FV)(M:(Nat->Option FV)->St->Prop)(hm:E.P.follows .mixedOrders=true)(hB:drawB l n=true)(hsp:Q2s n l=some (hd,tl))(hfb:Qrn (dsts hd) fr=some frb)(h0:M (fun _=>none) σ0)
  (hM:∀f σ,M f σ->∀i,S.any (fun k=>Nat.beq k i)=false->f i=none)
  (hq:∀i o,i < n->S.any (fun k=>Nat.beq k i)=false->l[i]?=some o->∃v,vs[i]?=some v/\o.dst.isSome=true/\dstOk E.N o.dst=true/\(o.after.toList.all fun e=>!Region.binds .any e||!(S.any fun k=>Nat.beq k e.on))=true/\∀f σ,M f σ->HStep E l.toArray o (depFr l vs o++frb) σ σ v)
  (hs:∀f σ i o,M f σ->S.any (fun k=>Nat.beq k i)=true->l[i]?=some o->f i=none->(∀e∈o.after.toList,Region.binds .any e=true->S.any (fun k=>Nat.beq k e.on)=true->(f e.on).isSome=true)->
   o.dst.isSome=true/\dstOk E.N o.dst=true/\∃σ' v,HStep E l.toArray o (Q0p l (mixV S vs f) o++frb) σ σ' v/\M (updV f i v) σ')
  (Qvf:∀f σ,M f σ->(∀i∈S,i < n->(f i).isSome=true)->AOps E l.toArray tl K (Q0j (mixV S vs f) 0 hd++frb) σ):ACode E (.region id l.toArray true) K fr σ0:=by
 obtain⟨hsp1,hsp2⟩:=Q38 hsp;subst hsp1;subst hsp2;have depEq:∀(o:Oper) (v1 v2:Nat->Option FV),(∀e∈o.after.toList,Region.binds .any e=true->v1 e.on=v2 e.on)->Q0p l v1 o=Q0p l v2 o:=fun o v1 v2 h=>by
  unfold Q0p;refine Q1e fun e he=>?_;cases hb:Region.binds .any e with
  |false=>rfl
  |true=>simp only[cond_true];rw[h e he hb]
 refine Qsn n (fun listed σ vals=>listed.size=l.length/\∃f,M f σ/\(∀i,i < n->listed.getD i false=true->vals i=mixV S vs f i)/\(∀i,S.any (fun k=>Nat.beq k i)=true->listed.getD i false=(f i).isSome)) hm hB hfb
  ⟨by simp,_,h0,fun i _ h=>absurd h (by rw[getD_replicate_false];simp),fun i _=>by rw[getD_replicate_false];rfl⟩ ?_ ?_
 ·intro listed σ vals i o hi hlo hun hsz hall ⟨_,f,hMf,hv,hf⟩;have hn:n < l.length:=by have:=hB;simp only[drawB,Qzc,decide_eq_true_eq]at this;exact this.1.1.1.1.1
  have hset:∀(v:FV) j,(listed.setIfInBounds i true).getD j false=if i=j then true else listed.getD j false:=fun _ j=>by
   by_cases e:i=j
   ·subst e;simp[show i < listed.size by omega]
   ·rw[getD_set_ne false e,if_neg e]
  have hlast:∀e∈o.after.toList,Region.binds .any e=true->e.on < n:=fun e he hb=>by have hB2:=hB;simp only[drawB,Qzc,decide_eq_true_eq]at hB2;have h1:=Qzy.1 hB2.2 (o,i) (by rw[Z24];rw[Z0z hi];simpa using hlo);have h2:=Qz4.1 h1 e (by simpa using he);simp only[hb,Qzi,Qzf,decide_eq_true_eq]at h2;omega
  have hdj:Q0p l vals o=Q0p l (mixV S vs f) o:=depEq o _ _ fun e he hb=>hv e.on (hlast e he hb) (hall e he hb);rw[hdj];cases hS:S.any (fun k=>Nat.beq k i) with
  |true=>
   have hfi:f i=none:=by
    have:=hf i hS;rw[hun]at this;cases h:f i with
    |none=>rfl
    |some v=>rw[h]at this;cases this
   obtain⟨k1,k2,σ',v,k3,k4⟩:=hs f σ i o hMf hS hlo hfi fun e he hb hSe=>by rw[←hf _ hSe];exact hall e he hb
   refine⟨k1,k2,σ',v,k3,by simp[hsz],updV f i v,k4,fun j hj hlj=>?_,fun j hj=>?_⟩
   ·by_cases e:i=j
    ·subst e;simp[mixV,hS,updV]
    ·rw[hset v,if_neg e]at hlj;rw[updV,if_neg e,hv j hj hlj];simp only[mixV,updV,if_neg e]
   ·rw[hset v];by_cases e:i=j
    ·subst e;simp[updV]
    ·simp only[if_neg e,updV];exact hf j hj
  |false=>
   obtain⟨v,q1,q2,q3,q4,q5⟩:=hq i o hi hS hlo;have hdd:Q0p l (mixV S vs f) o=depFr l vs o:=by
    unfold Q0p depFr;refine Q1e fun e he=>?_;cases hb:Region.binds .any e with
    |false=>rfl
    |true=>
     have h1:=Qzy.1 q4 e he;rw[hb]at h1;simp only[Qzi,Qzf,Qzh]at h1;simp only[cond_true,mixV,h1,cond_false];rfl
   rw[hdd];refine⟨q2,q3,σ,v,q5 f σ hMf,by simp[hsz],f,hMf,fun j hj hlj=>?_,fun j hj=>?_⟩
   ·by_cases e:i=j
    ·subst e;rw[updV,if_pos rfl];simp only[mixV,hS,cond_false];exact q1.symm
    ·rw[hset v,if_neg e]at hlj;rw[updV,if_neg e,hv j hj hlj]
   ·rw[hset v];by_cases e:i=j
    ·subst e;rw[hS]at hj;cases hj
    ·simp only[if_neg e];exact hf j hj
 ·intro σ vals ⟨_,f,hMf,hv,hf⟩;have hn:n < l.length:=by have:=hB;simp only[drawB,Qzc,decide_eq_true_eq]at this;exact this.1.1.1.1.1
  have hl:∀j,j < n->(Q0d l.length n).getD j false=true:=fun j hj=>by
   have:j < (Q0d l.length n).size:=by simp[Q0d];omega
   simp[Q0d,show j < l.length by omega,hj]
  have heq:Q0j vals 0 (l.take n)=Q0j (mixV S vs f) 0 (l.take n):=by
   have:∀(os:List Oper) (k:Nat),k+os.length<=n->Q0j vals k os=Q0j (mixV S vs f) k os:=by
    intro os
    induction os with
    |nil=>intro k _;rfl
    |cons o os ih=>
     intro k hk;simp only[Z13]at hk;simp only[Q0j];rw[hv k zoy (hl k zoy),ih (k+1) zoy]
   exact this _ 0 zuy
  rw[heq];exact Qvf f σ hMf fun i hi hin=>by rw[←hf i (Z00.2 ⟨i,hi,Q4f i⟩)];exact hl i hin
end
end Go.Abs
namespace Go.Abs
def Q1m (E:Env)(o:Oper)(fr:Fr)(σ:St)(P:FV->St->Prop):Prop:=
 ∀(F:Nat->Prop) (w:World) (C:Ctx) (tmps:Array Value),Inv E.Γ F w C σ->FrOk w C E.N fr tmps->
  ∀(next:Act->World->Prop) (Q:Exit->Act->World->Prop),
   (∀(u:Value) (w':World) (C':Ctx) (v:FV) (σ':St),P v σ'->Goes F (fun _=>True) w C w' C'->Inv E.Γ F w' C' σ'->RF w' C' v u->next (Act.put ⟨tmps,E.ds⟩ o.dst u) w')->o.wp E.P ⟨tmps,E.ds⟩ w next Q
def Qb5 (E:Env)(ops:Array Oper)(o:Oper)(fr:Fr)(σ:St)(P:FV->St->Prop):Prop:=
 (∃v σ',HStep E ops o fr σ σ' v/\P v σ')∨(o.guard=none/\Q1m E o fr σ P)
theorem Qbv{P:FV->St->Prop}(h:Qb5 E ops o fr σ P)(hi:Inv E.Γ F w C σ)(hf:FrOk w C E.N fr tmps){i:Nat}(ho:ops[i]?=some o)
  {Q:Exit->Act->World->Prop}(hk:∀(u:Value) (w':World) (C':Ctx) (v:FV) (σ':St),P v σ'->Goes F (fun _=>True) w C w' C'->Inv E.Γ F w' C' σ'->RF w' C' v u->next (Act.put ⟨tmps,E.ds⟩ o.dst u) w'):wpOp E.P ops Q i next ⟨tmps,E.ds⟩ w:=by
 rcases h with ⟨v,σ',h1,h2⟩|⟨hg,h⟩
 ·exact Q7f h1 hi hf ho fun u w' C' a b c=>hk u w' C' v σ' h2 a b c
 ·unfold wpOp;simp only[ho];rw[if_pos (by simp[Region.wanted,hg])];exact .inl (h F w C tmps hi hf next Q hk)
theorem Q1m.call{E:Env}{o:Oper}{fr:Fr}{σ:St}{f:Operand}{args:Array Operand}{tys:Array TypeId}{g:Nat}{first caps:List AC}{vs us:List FV}{Q:FV->Outer->Prop}{P:FV->St->Prop}
  (hΓ:GI E.Γ) (ho:o.op=.call { callee:=.value f,args:=args,argTypes:=tys })
  (hf:aEval E.Γ fr f=some (.one (.fn (.func g) first caps))) (hargs:Q1g E.Γ fr args.toList=some vs) (has:first.map .one++vs++caps.map .one=us) (Qvd:idsF isO us) (hou:OuOk σ.ou)
  (hc:AFn E.P E.Γ g us σ.ou Q) (h:∀r ou',Q r ou'->r.ids isO->OuOk ou'->P r { σ with ou:=ou' }):Q1m E o fr σ P:=by
 subst has;intro F w C tmps hi hfr next Qx hk
 have Qve:=Q01 (a:=⟨tmps,E.ds⟩) hi hfr hf;simp only[RF,R]at Qve;obtain⟨xs,ys,hfv,hx,hy⟩:=Qve;have hvs:=Q27 (a:=⟨tmps,E.ds⟩) hi hfr hargs;have hall:RFs w C (first.map .one++vs++caps.map .one) (xs++args.toList.map (Act.eval ⟨tmps,E.ds⟩)++ys):=(Z3q hx |>.append hvs).append (Z3q hy);have hrun:(execOp (Act.eval ⟨tmps,E.ds⟩) o).run E.P w=.ok (.enter g (xs++args.toList.map (Act.eval ⟨tmps,E.ds⟩)++ys).toArray) w:=by unfold execOp;simp only[ho,resolve,Z3s,hfv,Deferred.ofValue,Z3t,Z3r,invoke,hc.1];congr 2;apply Qz6;simp
 unfold Oper.wp;rw[hrun,Z3e];have hc1:Chg isO w C w { C with nl:=0 }:=⟨fun _ _=>rfl,fun _ h=>h,fun i hp ho=>⟨by cases i with|l k=>cases hp|o k=>exact ho,rfl,rfl⟩⟩;refine (hc.2 (Q3h w C σ.ou) w { C with nl:=0 } _ rfl (hi.forCallee hou hΓ) (RFs.chg hc1 _ _ Qvd hall)).mono fun e w' ⟨v,r,ou',C',he,hgo,h0,hi',hr,hQ⟩=>?_;subst he;obtain⟨hb1,hb2,hb3⟩:=hi.back hgo h0 hi';have Qw7:r.ids isO:=FV.ids_mono (Q4l h0) r (RF.idsOk r v hr);exact hk _ _ _ r _ (h r ou' hQ Qw7 (Qqw hi' h0)) hb1 hb2 (RF.chg hb3 r v Qw7 hr)
theorem Q4h{E:Env}{l:List Oper}{frb:Fr}{σ:St}{cs:List (Nat×FV)}{n al:Nat}{vs:List FV}{va:FV}(hT:TabOk E.P E.T)(hall:∀(k:Nat)(o:Oper),l[k]?=some o->k < n->o.after.all (fun e=>!Region.binds .any e||decide (e.on < k))=true)(hcs:Q09 E l frb σ vs cs):
  ∀(os:List Oper) (k:Nat) (acc ws:List FV),acc.length=k->(∀(i:Nat) (o:Oper),os[i]?=some o->l[k+i]?=some o/\k+i < n)->Q0l E l.toArray l frb σ ((al,va)::cs) k os acc=some ws->acc++ws=vs->
   os.length=ws.length/\∀(i:Nat) (o:Oper),os[i]?=some o->∃v,ws[i]?=some v/\o.dst.isSome=true/\dstOk E.N o.dst=true/\(k+i=al->v=va)/\(k+i≠al->HStep E l.toArray o (depFr l vs o++frb) σ σ v)
 |[],k,acc,ws,_,_,h,_=>by simp only[Q0l,Z3o]at h;subst h;exact⟨rfl,fun i o h=>by simp at h⟩
 |o::os,k,acc,ws,hl,hos,h,hv=>by
  have ho:=hos 0 o rfl;simp only[Z2t]at ho;simp only[Q0l,Q1b]at h;cases hb:(o.dst.isSome&&dstOk E.N o.dst) with
  |false=>rw[hb]at h;cases h
  |true=>
   rw[hb]at h;simp only[Qzc]at hb;simp only[cond_true]at h;have rest:∀{v:FV},(k=al->v=va)->(k≠al->(∀ws',ws=v::ws'->HStep E l.toArray o (depFr l vs o++frb) σ σ v))->(match Q0l E l.toArray l frb σ ((al,va)::cs) (k+1) os (acc++[v]) with|some vs=>some (v::vs)|none=>none)=some ws->
     (o::os).length=ws.length/\∀(i:Nat) (p:Oper),(o::os)[i]?=some p->∃v,ws[i]?=some v/\p.dst.isSome=true/\dstOk E.N p.dst=true/\(k+i=al->v=va)/\(k+i≠al->HStep E l.toArray p (depFr l vs p++frb) σ σ v):=by
    intro v hva hst h;split at h
    ·rename_i ws' hw;simp only[Z3o]at h;subst h;obtain⟨q1,q2⟩:=Q4h hT hall hcs os (k+1) (acc++[v]) ws' (by simp[hl]) (fun i o hi=>by have:=hos (i+1) o hi;rw[show k+1+i=k+(i+1) by omega];exact this) hw (by simpa using hv);refine⟨by simp[q1],fun i p hi=>?_⟩;cases i with
     |zero=>simp at hi;subst hi;exact⟨v,rfl,hb.1,hb.2,hva,fun hne=>hst hne ws' rfl⟩
     |succ i=>
      obtain⟨u,u1,u2,u3,u4,u5⟩:=q2 i p (by simpa using hi);rw[show k+1+i=k+(i+1) by omega]at u4 u5;exact⟨u,by simpa using u1,u2,u3,u4,u5⟩
    ·cases h
   by_cases hka:al=k
   ·subst hka;have hc:lookC al ((al,va)::cs)=some va:=by simp[lookC]
    rw[hc]at h;exact rest (fun _=>rfl) (fun hne=>absurd rfl hne) h
   ·have hc:lookC k ((al,va)::cs)=lookC k cs:=by simp only[lookC,Q06 hka,cond_false]
    rw[hc]at h;cases hc2:lookC k cs with
    |some v=>
     rw[hc2]at h;obtain⟨o',ho',hs0⟩:=hcs.get hc2;rw[ho.1]at ho';cases ho';exact rest (fun e=>absurd e.symm hka) (fun _ _ _=>hs0) h
    |none=>
     rw[hc2]at h;simp only at h;cases hp:Q8s o.op with
     |false=>rw[hp]at h;cases h
     |true=>
      rw[hp]at h;simp only[cond_true]at h;have Qw1:∀{τ τ':St}{v:FV},aHead E l.toArray o (depFr l acc o++frb) τ=some (v,τ')->τ'=τ:=by
       intro τ τ' v ha;have key:∀{y:FV}{τ2:St},(match aOp E.T E.Γ o.op (depFr l acc o++frb) τ with|some (some x,σ')=>some (x,σ')|_=>none)=some (y,τ2)->τ2=τ:=by
        intro y τ2 h;split at h
        ·rename_i h1;simp only[Z3o,Z3p]at h;obtain⟨rfl,rfl⟩:=h;exact Q9l hp h1
        ·cases h
       unfold aHead at ha;split at ha
       ·exact key ha
       ·split at ha
        ·split at ha
         ·exact key ha
         ·exact key ha
         ·cases ha;rfl
         ·cases ha;rfl
         ·cases ha;rfl
         ·cases ha
        ·cases ha
      split at h
      ·rename_i v σ' ha;refine rest (fun e=>absurd e.symm hka) (fun _ ws' hw=>?_) h;have Qvw:depFr l vs o=depFr l acc o:=by rw[←hv];exact Q4d (by rw[hl];exact hall k o ho.1 ho.2)
       have e1:=Qw1 ha;subst e1;have hs0:=Qzr (ops:=l.toArray) hT ha;rw[←Qvw]at hs0;exact hs0
      ·cases h
section
variable {E:Env}{l:List Oper}{frb:Fr}{n:Nat}{K:Cont}{J:Array Bool->St->(Nat->Option FV)->Prop}
theorem Qp7(hB:drawB l n=true)(hfb:(dsts (l.take n)).all (fun d=>(Fr.get d frb).isNone)=true)
  (Qvi:∀(listed:Array Bool) (σ:St) (vals:Nat->Option FV) (i:Nat) (o:Oper),i < n->l[i]?=some o->listed.getD i false=false->listed.size=l.length->(∀e∈o.after.toList,Region.binds .any e=true->listed.getD e.on false=true)->J listed σ vals->
   o.dst.isSome=true/\dstOk E.N o.dst=true/\Qb5 E l.toArray o (Q0p l vals o++frb) σ (fun v σ'=>J (listed.setIfInBounds i true) σ' (updV vals i v)))
  (Qvf:∀σ vals,J (Q0d l.length n) σ vals->AOps E l.toArray (l.drop n) K (Q0j vals 0 (l.take n)++frb) σ):
  ∀(c:Nat) (listed:Array Bool) (a:Act) (w:World),((List.range n).filter fun j=>!listed.getD j false).length=c->HeadInv .any l.toArray n listed->MidJ E l n frb J F w0 C0 listed a w->
   wpAny E.P .any l.toArray (Post E F w0 C0 K) (c+(l.length - n)) listed a w:=by
 simp only[drawB,Qzc,decide_eq_true_eq]at hB;obtain⟨⟨⟨⟨⟨hn,hs⟩,hc⟩,hsq⟩,hdi⟩,haf⟩:=hB;have hsz:l.toArray.size=l.length:=by simp
 intro c
 induction c with
 |zero=>
  intro listed a w Qvo hinv Qvr;have hall:∀j,j < n->listed.getD j false=true:=by intro j hj;have:(List.range n).filter (fun j=>!listed.getD j false)=[]:=Z0b Qvo;have h2:=Z0d.1 this j (Z21.2 hj);simpa using h2
  have hl:listed=Q0d l.length n:=by
   apply Array.ext
   ·simp[Q0d,hinv.size]
   ·intro j h1 h2;have hj:j < l.length:=by simpa[Q0d]using h2
    have h3:listed.getD j false=listed[j]:=by simp[h1]
    simp only[Q0d,Qza,Qzb];by_cases hjn:j < n
    ·rw[←h3,hall j hjn];simp[hjn]
    ·have:=hinv.tail j zoy (by rw[hsz];exact hj);rw[Q4j h1]at this;rw[←h3,this];simp[hjn]
  have hdl:(l.drop n).length=l.length - n:=by simp
  rw[Z3a,←hdl];refine wpAny_of_seq (md:=.any) (l.drop n) n listed a w (fun j=>by simp[Z0s]) (by rw[hl,hdl];exact hsq) ?_;obtain⟨hd,C,σ,vals,hJ,hg,hi,hf,hv⟩:=Qvr;have ha:a=⟨a.tmps,E.ds⟩:=by cases a;simp_all
  rw[ha];rw[hl]at hJ;refine Qvf σ vals hJ F w0 C0 w C a.tmps hg hi ⟨hf.1,fun k x hk=>?_⟩;rcases Qr5 hk with hk|⟨_,hk⟩
  ·obtain⟨i,o,h1,h2,h3⟩:=Q4x (Qr6 hk);rw[Z3a]at h3;have hin:i < n:=by have:=(Z0v.1 h1).1;simp at this;omega
   rw[Z0z hin]at h1;exact hv i o k x hin h1 h2 h3
  ·exact hf.2 k x hk
 |succ c ih=>
  intro listed a w Qvo hinv Qvr
  -- some head is not listed
  have hex:∃i,i < n/\listed.getD i false=false/\∀j,j < i->listed.getD j false=true:=by
   have hne:∃i,i < n/\listed.getD i false=false:=by
    cases hL:(List.range n).filter (fun j=>!listed.getD j false) with
    |nil=>rw[hL]at Qvo;simp at Qvo
    |cons i L=>
     have:i∈(List.range n).filter (fun j=>!listed.getD j false):=by rw[hL];simp
     obtain⟨h1,h2⟩:=Z1s.1 this;exact⟨i,Z21.1 h1,by simpa using h2⟩
   obtain⟨i,hi⟩:=hne
   induction i using Nat.strongRecOn with
   |_ i ih2=>
    by_cases h:∃j,j < i/\listed.getD j false=false
    ·obtain⟨j,hj,hj2⟩:=h;exact ih2 j hj ⟨by omega,hj2⟩
    ·exact⟨i,hi.1,hi.2,fun j hj=>(Qzg _).mp (fun hb=>h ⟨j,hj,hb⟩)⟩
  obtain⟨i0,hi0n,hi0u,hi0m⟩:=hex;have Qvj:i0∈Region.ready .any l.toArray listed:=by
   rw[mem_ready];have hlt:i0 < l.length:=by omega
   refine⟨by rw[Q4j (by rw[hinv.size,hsz];exact hlt)];exact hi0u,l[i0],by simp[hlt],fun e he hb=>?_⟩;have h1:=Qzy.1 haf (l[i0],i0) (by rw[Z24];rw[Z0z hi0n];simp[hlt]);have h2:=Qz4.1 h1 e he;simp only[hb,Qzi,Qzf,decide_eq_true_eq]at h2;exact hi0m _ h2
  rw[show c+1+(l.length - n)=(c+(l.length - n))+1 by omega];refine⟨fun h=>absurd Qvj (by rw[h];simp),fun i hi=>?_⟩;have Qwr:listed.getD i0 true=false:=(mem_ready.1 Qvj).1;have hin:i < n:=by
   rcases Z33 i n with h|h
   ·exact h
   ·exact absurd hi (tail_waits hs hc (by rw[hsz];exact hn) hinv _ i0 rfl hi0n Qwr i h)
  obtain⟨hun,o,ho,hall⟩:=mem_ready.1 hi;have hlo:l[i]?=some o:=by simpa using ho
  obtain⟨hd,C,σ,vals,hJ,hg,hinvw,hf,hvals⟩:=Qvr;have ha:a=⟨a.tmps,E.ds⟩:=by cases a;simp_all
  rw[ha];have Qw8:listed.getD i false=false:=getD_both hun;have hil:i < listed.size:=by rw[hinv.size,hsz];omega
  have hlast:∀e∈o.after.toList,Region.binds .any e=true->e.on < n:=fun e he hb=>by have h1:=Qzy.1 haf (o,i) (by rw[Z24];rw[Z0z hin];simpa using hlo);have h2:=Qz4.1 h1 e (by simpa using he);simp only[hb,Qzi,Qzf,decide_eq_true_eq]at h2;omega
  obtain⟨hds,hdo,hst⟩:=Qvi listed σ vals i o hin hlo Qw8 (by rw[hinv.size,hsz]) (fun e he hb=>hall e (by simpa using he) hb) hJ;have hfr:FrOk w C E.N (Q0p l vals o++frb) a.tmps:=by
   refine⟨hf.1,fun k x hk=>?_⟩;rcases Qr5 hk with hk|⟨_,hk⟩
   ·have hm:=Qr6 hk;obtain⟨e,he,he2⟩:=Z1t.1 hm;cases hb:Region.binds .any e with
    |false=>rw[hb]at he2;cases he2
    |true=>
     rw[hb]at he2;simp only[cond_true]at he2;cases h1:(l[e.on]?).bind (·.dst) with
     |none=>rw[h1]at he2;cases he2
     |some d=>
      cases h2:vals e.on with
      |none=>rw[h1,h2]at he2;cases he2
      |some v'=>
       rw[h1,h2]at he2;cases he2;cases h3:l[e.on]? with
       |none=>rw[h3]at h1;cases h1
       |some oe=>
        rw[h3]at h1;exact hvals e.on oe k x (hlast e he hb) h3 h1 h2
   ·exact hf.2 k x hk
  obtain⟨d,hdd⟩:=Z3k.1 hds;refine Qbv hst hinvw hfr ho fun u w' C' v σ' hJ' hgo hi' hr=>?_;refine ih _ _ _ ?_ (hinv.set hi hin) ⟨put_defers ..,C',σ',_,hJ',hg.trans hgo.toO,hi',?_,fun j oj dj vj hj hoj hdj hvj=>?_⟩
  ·have h2:((List.range n).filter fun j=>!(listed.setIfInBounds i true).getD j false).length+1=((List.range n).filter fun j=>!listed.getD j false).length:=Q7n hin Qw8 hil;omega
  ·refine⟨by rw[hdd];simp[Act.put,hf.1],fun k x hk=>?_⟩;obtain⟨u',hu',hr'⟩:=hf.2 k x hk;have hne:d≠k:=by rintro rfl;have h1:=Qzy.1 hfb d (Z1t.2 ⟨o,Z1y (i:=i) (by rw[Z0z hin];exact hlo),hdd⟩);rw[hk]at h1;cases h1
   refine⟨u',?_,hr'.ext hgo.chg⟩;rw[hdd];simp only[Act.put];rw[Qz9 hne];exact hu'
  ·by_cases e:i=j
   ·subst e;rw[hlo]at hoj;cases hoj;rw[hdd]at hdj;cases hdj;rw[updV,if_pos rfl]at hvj;cases hvj;have hdN:d < a.tmps.size:=by rw[hf.1];rw[hdd]at hdo;exact Z2x (show Nat.ble (d+1) E.N=true from hdo)
    exact⟨u,by rw[hdd];simp[Act.put,hdN],hr⟩
   ·simp only[updV,if_neg e]at hvj;obtain⟨u',hu',hr'⟩:=hvals j oj dj vj hj hoj hdj hvj;have hne:d≠dj:=by rintro rfl;exact e (Q1s hdi (by rw[Z0z hin];exact hlo) (by rw[Z0z hj];exact hoj) hdd hdj)
    refine⟨u',?_,hr'.ext hgo.chg⟩;rw[hdd];simp only[Act.put];rw[Qz9 hne];exact hu'
theorem Qsp(n:Nat)(J:Array Bool->St->(Nat->Option FV)->Prop)(hm:E.P.follows .mixedOrders=true)(hB:drawB l n=true)(hfb:Qrn (dsts (l.take n)) fr=some frb)(h0:J (Array.replicate l.length false) σ0 (fun _=>none))
  (Qvi:∀(listed:Array Bool) (σ:St) (vals:Nat->Option FV) (i:Nat) (o:Oper),i < n->l[i]?=some o->listed.getD i false=false->listed.size=l.length->(∀e∈o.after.toList,Region.binds .any e=true->listed.getD e.on false=true)->J listed σ vals->
   o.dst.isSome=true/\dstOk E.N o.dst=true/\Qb5 E l.toArray o (Q0p l vals o++frb) σ (fun v σ'=>J (listed.setIfInBounds i true) σ' (updV vals i v)))
  (Qvf:∀σ vals,J (Q0d l.length n) σ vals->AOps E l.toArray (l.drop n) K (Q0j vals 0 (l.take n)++frb) σ):ACode E (.region id l.toArray true) K fr σ0:=by
 have h3:=Qro hfb;intro F w0 C0 w C tmps hg hi hf;have hn:n < l.length:=by simp only[drawB,Qzc,decide_eq_true_eq]at hB;exact hB.1.1.1.1.1
 refine wp_region_any hm ?_;have h:=Qp7 (F:=F) (w0:=w0) (C0:=C0) (J:=J) hB (by rw[←h3];exact Qri _ _) Qvi Qvf n (Array.replicate l.toArray.size false) ⟨tmps,E.ds⟩ w.drew (by
   have:∀j,(!(Array.replicate l.toArray.size false).getD j false)=true:=fun j=>by rw[getD_replicate_false];rfl
   simp only[this];rw[Z0e.2 (fun _ _=>rfl),Z19])
  ⟨by simp,fun j oj _ hl=>(by rw[getD_replicate_false]at hl;cases hl),fun t _ ht=>getD_in (by simpa using ht) (getD_replicate_false _ _)⟩
  ⟨rfl,C,σ0,fun _=>none,by simpa using h0,hg.trans (Goes.drew hi).toO,hi.drew.2,⟨hf.1,fun k x hk=>by obtain⟨u,hu,hr⟩:=hf.2 k x (by rw[←h3]at hk;exact (Qrh hk).1);exact⟨u,hu,hr.ext hi.drew.1⟩⟩,fun i o d v _ _ _ hv=>by cases hv⟩
 rw[show n+(l.length - n)=l.toArray.size by simp;omega]at h;exact h
theorem Qsq(hT:TabOk E.P E.T)(n al:Nat)(cs:List (Nat×FV))(S:St->Prop)(hm:E.P.follows .mixedOrders=true)(hB:drawB l n=true)(Qwo:Nat.ble (al+1) n=true)(hsp:Q2s n l=some (hd,tl))(hfb:Qrn (dsts hd) fr=some frb)
  (Qwg:l[al]?=some oal) (hrun:Q0l E l.toArray l frb σ0 ((al,va)::cs) 0 hd []=some vs) (Qvx:∀σ,S σ->Q0l E l.toArray l frb σ ((al,va)::cs) 0 hd []=some vs) (hfr:frOf hd vs frb=some fr')
  (hds:oal.dst.isSome=true/\dstOk E.N oal.dst=true) (hg:oal.guard=none) (hal:Q1m E oal (depFr l vs oal++frb) σ0 (fun v σ=>v=va/\S σ)) (hcs:Q09 E l frb σ0 vs cs) (Qwc:∀σ,S σ->Q09 E l frb σ vs cs)
  (Qvf:∀σ,S σ->AOps E l.toArray tl K fr' σ):ACode E (.region id l.toArray true) K fr σ0:=by
 obtain⟨hsp1,hsp2⟩:=Q38 hsp;subst hsp1;subst hsp2;have h4:=Q6r hfr;have hn:n < l.length:=by have:=hB;simp only[drawB,Qzc,decide_eq_true_eq]at this;exact this.1.1.1.1.1
 have hlast:∀(i:Nat) (o:Oper),l[i]?=some o->i < n->o.after.all (fun e=>!Region.binds .any e||decide (e.on < i))=true:=fun i o hlo hi=>by have hB2:=hB;simp only[drawB,Qzc,decide_eq_true_eq]at hB2;exact Qzy.1 hB2.2 (o,i) (by rw[Z24];rw[Z0z hi];simpa using hlo)
 have hos:∀i o,(l.take n)[i]?=some o->l[0+i]?=some o/\0+i < n:=fun i o hi=>by
  have hi2:i < n:=by have:=(Z0v.1 hi).1;simp at this;omega
  rw[Z0z hi2]at hi;exact⟨by simpa using hi,by omega⟩
 -- a head that turns nothing, seen from each state
 have H:∀σ,Q0l E l.toArray l frb σ ((al,va)::cs) 0 (l.take n) []=some vs->Q09 E l frb σ vs cs->(l.take n).length=vs.length/\∀i o,l[i]?=some o->i < n->i≠al->∃v,vs[i]?=some v/\o.dst.isSome=true/\dstOk E.N o.dst=true/\HStep E l.toArray o (depFr l vs o++frb) σ σ v:=fun σ hr hc=>by have hq:=Q4h (n:=n) (al:=al) (va:=va) hT hlast hc _ 0 [] vs rfl hos hr rfl;refine⟨hq.1,fun i o hlo hi hne=>?_⟩;obtain⟨v,q1,q2,q3,_,q4⟩:=hq.2 i o (by rw[Z0z hi];exact hlo);exact⟨v,q1,q2,q3,q4 zoy⟩
 have hva:vs[al]?=some va:=by have hq:=Q4h (n:=n) (al:=al) (va:=va) hT hlast hcs _ 0 [] vs rfl hos hrun rfl;obtain⟨v,q1,_,_,q4,_⟩:=hq.2 al oal (by rw[Z0z (Z2x Qwo)];exact Qwg);rw[q1,q4 zoy]
 obtain⟨hlen,H0⟩:=H σ0 hrun hcs;refine Qsp n (fun listed σ vals=>listed.size=l.length/\(∀i,i < n->listed.getD i false=true->vals i=vs[i]?)/\((listed.getD al false=false/\σ=σ0)∨(listed.getD al false=true/\S σ))) hm hB hfb ⟨by simp,fun i _ h=>absurd h (by rw[getD_replicate_false];simp),.inl ⟨getD_replicate_false _ _,rfl⟩⟩ ?_ ?_
 ·intro listed σ vals i o hi hlo hun hsz hall ⟨_,hv,hst⟩;have hset:∀j,(listed.setIfInBounds i true).getD j false=if i=j then true else listed.getD j false:=fun j=>by
   by_cases e:i=j
   ·subst e;simp[show i < listed.size by omega]
   ·rw[getD_set_ne false e,if_neg e]
  have hdd:Q0p l vals o=depFr l vs o:=by
   unfold Q0p depFr;refine Q1e fun e he=>?_;cases hb:Region.binds .any e with
   |false=>rfl
   |true=>
    have h1:=Qz4.1 (hlast i o hlo hi) e (by simpa using he);simp only[hb,Qzi,Qzf,decide_eq_true_eq]at h1;simp only[cond_true];rw[hv e.on zoy (hall e he hb)];rfl
  rw[hdd];have hnew:∀v,vs[i]?=some v->∀j,j < n->(listed.setIfInBounds i true).getD j false=true->updV vals i v j=vs[j]?:=fun v hvv j hj hlj=>by
   by_cases e:i=j
   ·subst e;rw[updV,if_pos rfl,hvv]
   ·rw[hset,if_neg e]at hlj;rw[updV,if_neg e];exact hv j hj hlj
  by_cases e:i=al
  ·subst e;rw[Qwg]at hlo;cases hlo;rcases hst with ⟨_,rfl⟩|⟨h,_⟩
   ·refine⟨hds.1,hds.2,.inr ⟨hg,?_⟩⟩;intro F w C tmps hi2 hf2 next Q hk
    refine hal F w C tmps hi2 hf2 next Q fun u w' C' v σ' ⟨hv1,hS⟩=>?_
    subst hv1;exact hk u w' C' _ σ' ⟨by simp[hsz],hnew _ hva,.inr ⟨by rw[hset,if_pos rfl],hS⟩⟩
   ·rw[hun]at h;cases h
  ·have hq:∃v,vs[i]?=some v/\o.dst.isSome=true/\dstOk E.N o.dst=true/\HStep E l.toArray o (depFr l vs o++frb) σ σ v:=by
    rcases hst with ⟨_,rfl⟩|⟨_,hS⟩
    ·exact H0 i o hlo hi e
    ·exact (H σ (Qvx σ hS) (Qwc σ hS)).2 i o hlo hi e
   obtain⟨v,q1,q2,q3,q4⟩:=hq;refine⟨q2,q3,.inl ⟨v,σ,q4,by simp[hsz],hnew v q1,?_⟩⟩;rw[hset,if_neg e];exact hst
 ·intro σ vals ⟨_,hv,hst⟩;have hl:∀j,j < n->(Q0d l.length n).getD j false=true:=fun j hj=>by
   have:j < (Q0d l.length n).size:=by simp[Q0d];omega
   simp[Q0d,show j < l.length by omega,hj]
  have hS:S σ:=by
   rcases hst with ⟨h,_⟩|⟨_,h⟩
   ·rw[hl al (Z2x Qwo)]at h;cases h
   ·exact h
  have heq:Q0j vals 0 (l.take n)=Q2x (l.take n) vs:=by
   have:∀(os:List Oper) (ws:List FV) (k:Nat),os.length=ws.length->(∀i,i < os.length->vals (k+i)=ws[i]?)->(∀o∈os,o.dst.isSome=true)->Q0j vals k os=Q2x os ws:=by
    intro os
    induction os with
    |nil=>intro ws k _ _ _;cases ws <;> rfl
    |cons o os ih=>
     intro ws k hl h hd;cases ws with
     |nil=>simp at hl
     |cons v ws=>
      have h0:=h 0 zsy;simp at h0;obtain⟨d,hdd⟩:=Z3k.1 (hd o zsy);simp only[Q0j,Q2x,hdd,h0];rw[ih ws (k+1) (by simpa using hl) (fun i hi=>by have:=h (i+1) (by simpa using hi);rw[show k+1+i=k+(i+1) by omega,this];simp) (fun o ho=>hd o (by simp[ho]))]
   refine this _ _ 0 hlen (fun i hi=>by rw[Z3a];exact hv i (by simp at hi;omega) (hl i (by simp at hi;omega))) fun o ho=>?_;obtain⟨i,hi⟩:=Z1v.1 ho;obtain⟨h1,h2⟩:=hos i o hi;rw[Z3a]at h1 h2;by_cases e:i=al
   ·subst e;rw[Qwg]at h1;cases h1;exact hds.1
   ·obtain⟨_,_,h,_⟩:=H0 i o h1 h2 e;exact h
  rw[heq,h4];exact Qvf σ hS
end
structure Ced (j k:Nat)(fr:Fr)(σ:St)(fr':Fr)(σ':St):Prop where
 fr:∀d x,Fr.get d fr'=some x->∃y,Fr.get d fr=some y/\WkF (y.sub (toO j k)) x
 n:σ'.n=σ.n
 obj:∀i x,σ'.get i=some x->∃i0 y,σ.get i0=some y/\toO j k i0=i/\x=y.sub (toO j k)
theorem Qsr(o:AObj):o.ids (fun _=>True):=by
 cases o with
 |cells cs=>exact Q2h cs
 |map ck es=>exact fun x hx=>FV.ids_true _
 |iter m a b c=>trivial
 |sit s q=>trivial
 |tok e s u=>trivial
 |dead=>trivial
theorem Qss(j:Nat)(hj:j < σ.n)(h:∀k,σ.ou k=none->∃fr' σ',Ced j k fr σ fr' σ'/\AOps E ops rest K fr' σ'):AOps E ops rest K fr σ:=by
 intro F w0 C0 w C tmps hg hi hf;have hnone:σ.ou C.no=none:=by
  cases hx:σ.ou C.no with
  |none=>rfl
  |some x=>exact absurd (hi.obj (.o C.no) x hx).1 (Nat.lt_irrefl _)
 obtain⟨fr',σ',hc,h⟩:=h _ hnone
 let C2:Ctx:={ C with no:=C.no+1,phi:=fun i=>match i with|.o m=>if m=C.no then C.phi (.l j)else C.phi (.o m)|.l m=>C.phi (.l m),tk:=fun i=>match i with|.o m=>if m=C.no then C.tk (.l j)else C.tk (.o m)|.l m=>C.tk (.l m) }
 have hx:Ext w C w C2:=⟨fun _ _=>rfl,fun _ h=>h,fun i _ ho=>by
  cases i with
  |l m=>exact⟨ho,rfl,rfl⟩
  |o m=>
   have hm:m < C.no:=ho;refine⟨Nat.lt_succ_of_lt hm,?_,?_⟩
   ·show (if m=C.no then _ else _)=_;rw[if_neg zoy];rfl
   ·show (if m=C.no then _ else _)=_;rw[if_neg zoy];rfl⟩
 have hb:Bus (toO j C.no) (fun _=>True) w C2 C:=⟨fun _ h=>h,fun i _ ho=>by
  cases i with
  |o m=>exact hx.id (.o m) trivial ho
  |l m=>
   by_cases e:m=j
   ·subst e;simp only[toO,Q4f,cond_true];refine⟨Z34 _,?_,?_⟩
    ·show (if C.no=C.no then _ else _)=_;rw[if_pos rfl];rfl
    ·show (if C.no=C.no then _ else _)=_;rw[if_pos rfl];rfl
   ·simp only[toO,Q06 e,cond_false];exact⟨ho,rfl,rfl⟩⟩
 have hok:∀i0 y,σ.get i0=some y->C.ok i0:=fun i0 y hy=>(hi.obj i0 y hy).1;have hi':Inv E.Γ F w C2 σ':=by
  refine⟨hi.base,by rw[hc.n];exact hi.next,fun g cs hm=>(hi.glob g cs hm).ext hx,hi.prot,fun i x hxx=>?_,fun i1 i2 x1 x2 g h1 h2 h3 h4=>?_⟩
  ·obtain⟨i0,y,hy,rfl,rfl⟩:=hc.obj i x hxx;obtain⟨k1,k2⟩:=hi.obj i0 y hy;exact⟨(hb.id i0 trivial k1).1,ObjOk.bus hb (Qsr y) trivial k1 (fun _ h=>h) k2⟩
  ·obtain⟨a,y,hy,rfl,rfl⟩:=hc.obj i1 x1 h1;obtain⟨b,z,hz,rfl,rfl⟩:=hc.obj i2 x2 h2;rw[Qrs hb trivial (hok a y hy)]at h3;rw[Qrs hb trivial (hok b z hz)]at h4;rw[hi.inj a b y z g hy hz h3 h4]
 refine h F w0 C0 w C2 tmps (hg.trans ⟨Z3v _ _,hx.weaken (fun _ _=>trivial),Nat.le_succ _,NewP.refl _ _⟩) hi' ⟨hf.1,fun d x hd=>?_⟩;obtain⟨y,hy,hw⟩:=hc.fr d x hd;obtain⟨u,hu,hr⟩:=hf.2 d y hy;exact⟨u,hu,hw _ _ _ (RF.bus hb y u (FV.ids_true y) hr)⟩
theorem AOps.lessO(σ':St)(hn:σ'.n=σ.n)(hs:∀i o,σ'.get i=some o->σ.get i=some o)(h:AOps E ops rest K fr σ'):AOps E ops rest K fr σ:=by intro F w0 C0 w C tmps hg hi hf;exact h F w0 C0 w C tmps hg ⟨hi.base,by rw[hn];exact hi.next,hi.glob,hi.prot,fun i o ho=>hi.obj i o (hs i o ho),fun i j o o' g h1 h2 h3 h4=>hi.inj i j o o' g (hs i o h1) (hs j o' h2) h3 h4⟩ hf
end Go.Abs
namespace Go.Abs
section
variable {j k:Nat}
theorem Q9p:∀i:Id,isO i->toO j k i=i
 |.o _,_=>rfl
 |.l _,h=>h.elim
mutual
theorem AC.sub_o:∀c:AC,c.ids isO->c.sub (toO j k)=c
 |.lit _,_=>rfl
 |.any,_=>rfl
 |.sl s es,h=>by simp only[AC.ids]at h;simp only[AC.sub];rw[Qbc es h]
 |.box cs,h=>by simp only[AC.ids]at h;simp only[AC.sub];rw[Q8m cs h]
 |.ptr i off,h=>by simp only[AC.ids]at h;simp only[AC.sub];rw[Q9p i h]
 |.gs s es i,h=>by simp only[AC.ids]at h;simp only[AC.sub];rw[Q9p i h.1,Qbc es h.2]
 |.arr i s off len cap,h=>by simp only[AC.ids]at h;simp only[AC.sub];rw[Q9p i h]
 |.mp i,h=>by simp only[AC.ids]at h;simp only[AC.sub];rw[Q9p i h]
 |.fn f a b,h=>by simp only[AC.ids]at h;simp only[AC.sub];rw[Q8m a h.1,Q8m b h.2]
 |.ifc t ag cs,h=>by simp only[AC.ids]at h;simp only[AC.sub];rw[Q8m cs h]
theorem Qbc:∀es:List (List AC),idsS isO es->subS (toO j k) es=es
 |[],_=>rfl
 |e::es,h=>by simp only[idsS]at h;simp only[subS];rw[Q8m e h.1,Qbc es h.2]
theorem Q8m:∀cs:List AC,idsL isO cs->subL (toO j k) cs=cs
 |[],_=>rfl
 |c::cs,h=>by simp only[idsL]at h;simp only[subL];rw[AC.sub_o c h.1,Q8m cs h.2]
end
mutual
theorem FV.sub_o:∀x:FV,x.ids isO->x.sub (toO j k)=x
 |.bot,_=>rfl
 |.one c,h=>by simp only[FV.ids]at h;simp only[FV.sub];rw[AC.sub_o c h]
 |.agg cs,h=>by simp only[FV.ids]at h;simp only[FV.sub];rw[Q8m cs h]
 |.tup vs,h=>by simp only[FV.ids]at h;simp only[FV.sub];rw[subF_o vs h]
theorem subF_o:∀vs:List FV,idsF isO vs->subF (toO j k) vs=vs
 |[],_=>rfl
 |v::vs,h=>by simp only[idsF]at h;simp only[subF];rw[FV.sub_o v h.1,subF_o vs h.2]
end
theorem AObj.sub_o(o:AObj)(h:o.ids isO):o.sub (toO j k)=o:=by
 cases o with
 |cells cs=>simp only[AObj.sub];rw[Q8m cs h]
 |map ck es=>
  simp only[AObj.sub];congr 1;rw[Z1f (g:=id),Z1h];intro x hx;have:=h x hx;obtain⟨a,b,c⟩:=x;simp only[FV.sub_o c this,id]
 |iter m a b d=>simp only[AObj.sub];rw[Q9p m h]
 |sit s q=>rfl
 |tok e s u=>rfl
 |dead=>rfl
end
theorem Qst{r':FV}(h:aRes E.T fr σ fn.results.toList=some r)(hw:WkF r r')(hi:r'.ids isO)(ho:OuOk σ.ou)(hq:Q r' σ.ou):Fin E fn Q fr σ:=⟨r,r',h,hw,hi,ho,hq⟩
end Go.Abs
namespace Go.Abs
open Go.Sort
abbrev iC (n:Int):List AC:=[.lit (.int .i64 n)]
theorem Qgj:∀l:List Int,(l.map iC).flatten=l.map fun n=>AC.lit (.int .i64 n)
 |[]=>rfl
 |n::l=>by simp[Qgj l]
theorem Qsu{w:World}{C:Ctx}:∀{l:List Int}{cs:List AC}{xs:List Value},RV w C ((l.map fun n=>AC.lit (.int .i64 n))++cs) xs->xs=l.map (Value.int .i64)++xs.drop l.length/\RV w C cs (xs.drop l.length)
 |[],cs,xs,h=>⟨by simp,by simpa using h⟩
 |n::l,cs,xs,h=>by simp only[Z1g,Z03,RV]at h;obtain⟨v,ys,rfl,h1,h2⟩:=h;simp only[R]at h1;obtain⟨h3,h4⟩:=Qsu h2;refine⟨?_,by simpa using h4⟩;simp only[Z1g,Z13,Z09,Z03];rw[←h3,h1.1]
theorem Qsv{w:World}{C:Ctx}:∀(l:List Int){cs:List AC}{xs:List Value},RV w C cs xs->RV w C ((l.map fun n=>AC.lit (.int .i64 n))++cs) (l.map (Value.int .i64)++xs)
 |[],cs,xs,h=>by simpa using h
 |n::l,cs,xs,h=>by simp only[Z1g,Z03,RV];exact⟨_,_,rfl,by simp[R,Value.oneCell'],Qsv l h⟩
theorem Qb9(d:List Int)(xs:List Value)(h:d.length<=xs.length):putCells (Value.int .i64) 0 d.toArray xs.toArray=(d.map (Value.int .i64)++xs.drop d.length).toArray:=by
 apply Array.ext_getElem?;intro k;unfold putCells;rw[Array.getElem?_mapIdx];simp only[List.getElem?_toArray,Z2e,Z3b,true_and,Z3a,Z38];by_cases hk:k < d.length
 ·rw[Z0p (by simpa using hk)];have hx:k < xs.length:=by omega
  simp[Z0t hx,hk]
 ·rw[Z0q zuy];simp only[Z16,Z0s];rw[show d.length+(k - d.length)=k by omega];simp[hk]
theorem Qsw{d:Nat}{i:Id}{l:List Int}(hgd:o.guard=none)(Qvh:o.dst=some d)(hd:Nat.ble (d+1) E.N=true)
  (ho:o.op=.call { callee:=.value f,args:=args,argTypes:=tys }) (hf:aEval E.Γ fr f=some (.one (.fn (.func g) [] []))) (hargs:Q1g E.Γ fr args.toList=some [.one (.arr i 1 0 l.length cap)])
  (hcf:∀us (w:World),(callFunc g us).run E.P w=.ok (.enter g us) w)
  (hc:∀(blk off cap:Nat) (zs:List Int) (w:World),Holds (Value.int .i64) w blk off zs.toArray->blk < w.heap.size->zs.length < 4611686018427387904->Calls E.P g #[.slice (some ⟨blk,off,none⟩) zs.length cap] w fun e w'=>
   e=.returned (.tuple #[])/\∃n os,w'=grow (putRow (Value.int .i64) (Sort.ahead w n) blk off (zs.mergeSort fun x y=>decide (x<=y)).toArray) os)
  (hg:σ.get i=some (.cells (vec 1 (l.map iC) cap))) (hlen:l.length < 4611686018427387904)
  (h:AOps E ops rest K ((d,.tup [])::fr) (σ.set i (.cells (vec 1 ((l.mergeSort fun x y=>decide (x<=y)).map iC) cap)))):AOps E ops (o::rest) K fr σ:=by
 intro F w0 C0 w C tmps hgo hi hfr;refine wpList_plain hgd fun N' hN=>?_;have Qve:=Q01 (a:=⟨tmps,E.ds⟩) hi hfr hf;simp only[RF,R]at Qve;obtain⟨xs,ys,hfv,hx,hy⟩:=Qve;simp only[RV]at hx hy;subst hx;subst hy;have hvs:=Q27 (a:=⟨tmps,E.ds⟩) hi hfr hargs;simp only[RFs,RF,R]at hvs;obtain⟨v,us,hv,⟨hok,hv2,hcapl⟩,hus⟩:=hvs;subst hus;rw[hv2]at hv;simp only[Z3c]at hv;obtain⟨hok',zs,T,b1,b2,b3,b4⟩:=hi.obj i _ hg;have hzs:=b3;unfold vec at hzs;rw[Qgj]at hzs;obtain⟨hz1,hz2⟩:=Qsu hzs;have hzl:l.length<=zs.length:=by rw[hz1];simp
 have hcell:∀j:Nat,w.cell? ⟨C.blk i,j,none⟩=zs[j]?:=fun j=>by rw[cell_of_row _ _ _ _ _ _ b1];simp
 have hH:Holds (Value.int .i64) w (C.blk i) 0 l.toArray:=fun j hj=>by
  have hj':j < l.length:=by simpa using hj
  refine⟨?_,?_⟩
  ·rw[Z3a,hcell,hz1,Z0p (by simpa using hj')];simp[hj']
  ·simp[World.frozen?,b1]
 have hblk:C.blk i < w.heap.size:=Q0f b1;have hrun:(execOp (Act.eval ⟨tmps,E.ds⟩) o).run E.P w=.ok (.enter g #[.slice (some ⟨C.blk i,0,none⟩) l.length cap]) w:=by unfold execOp;simp only[ho,resolve,Z3s,hfv,Deferred.ofValue,Z3t,Z3r,invoke,hcf];congr 2;apply Qz6;simpa using hv
 unfold Oper.wp;rw[hrun,Z3e];refine (hc (C.blk i) 0 cap l w hH hblk hlen).mono fun e w' ⟨he,n,os,hw'⟩=>?_;subst he;subst hw';obtain⟨l',hl'⟩:∃l',l'=(l.mergeSort fun x y=>decide (x<=y)):=⟨_,rfl⟩;rw[←hl']at h ⊢;have hll:l'.length=l.length:=by rw[hl'];simp
 -- the row, turned
 have hsz:(putRow (Value.int .i64) (Sort.ahead w n) (C.blk i) 0 l'.toArray).heap.size=w.heap.size:=by simp[Sort.ahead]
 have hoth:∀k,k≠C.blk i->(putRow (Value.int .i64) (Sort.ahead w n) (C.blk i) 0 l'.toArray).heap[k]?=w.heap[k]?:=fun k hk=>by unfold putRow mapBlock;show (w.heap.modify _ _)[k]?=_;rw[Array.getElem?_modify,if_neg (Z3d hk)]
 have hat:(putRow (Value.int .i64) (Sort.ahead w n) (C.blk i) 0 l'.toArray).heap[C.blk i]?=some (.cells (l'.map (Value.int .i64)++zs.drop l.length).toArray T (0,0)):=by unfold putRow mapBlock;show (w.heap.modify _ _)[C.blk i]?=_;rw[Array.getElem?_modify,if_pos rfl,b1];simp only[Z3m,onCells];rw[Qb9 l' zs zoy,hll]
 obtain⟨he1,hi1⟩:=hi.turn (o':=.cells (vec 1 (l'.map iC) cap)) hg (show AObj.block C i (.cells _)=some (C.blk i)from rfl) hsz hoth (fun a ha hp=>absurd hp (b4 a ha)) rfl fun he=>by
  refine⟨_,T,hat,b2,?_,b4⟩;unfold vec;rw[Qgj];have hcl:(l'.map iC).length=(l.map iC).length:=by simp[hll]
  rw[hcl];exact Qsv l' (hz2.ext he)
 have Qwj:(putRow (Value.int .i64) (Sort.ahead w n) (C.blk i) 0 l'.toArray).heap.size<=(grow (putRow (Value.int .i64) (Sort.ahead w n) (C.blk i) 0 l'.toArray) os).heap.size:=by simp[grow]
 have hold:∀k,k < (putRow (Value.int .i64) (Sort.ahead w n) (C.blk i) 0 l'.toArray).heap.size->(grow (putRow (Value.int .i64) (Sort.ahead w n) (C.blk i) 0 l'.toArray) os).heap[k]?=(putRow (Value.int .i64) (Sort.ahead w n) (C.blk i) 0 l'.toArray).heap[k]?:=fun k hk=>by show (_++os)[k]?=_;rw[Qz8 hk]
 obtain⟨he2,hi2⟩:=hi1.grown Qwj hold;have Qx3:Stp F w (grow (putRow (Value.int .i64) (Sort.ahead w n) (C.blk i) 0 l'.toArray) os):=by
  refine⟨rfl,rfl,rfl,by rw[←hsz];exact Qwj,fun k hk=>?_,fun a ha=>?_⟩
  ·have hk2:=hi.base k hk;rw[hold k (by rw[hsz];exact hk2),hoth k (fun e=>b2 (e▸hk))]
  ·have h1:World.frozen? (grow (putRow (Value.int .i64) (Sort.ahead w n) (C.blk i) 0 l'.toArray) os) a=World.frozen? (putRow (Value.int .i64) (Sort.ahead w n) (C.blk i) 0 l'.toArray) a:=by unfold World.frozen?;rw[hold a.block (by rw[hsz];exact ha)]
   rw[h1,frozen?_putRow];rfl
 refine hN _ _ ?_;rw[Q3d];have Qvt:=he1.trans he2;rw[Qvh];exact h F w0 C0 _ C _ (hgo.trans ⟨Qx3,Qvt.weaken (fun _ _=>trivial),Z30 _,NewP.refl _ _⟩) hi2 (Q2i (dst:=some d) (hfr.ext Qvt) hd (by simp only[RF,RFs];exact⟨[],rfl,rfl⟩))
end Go.Abs
namespace Go.Abs
theorem AOps.freezeArr(i:Id)(d:Nat)(hg:σ.get i=some (.cells (vec s es cap)))(hl:∀x∈es,x.length=s)(hd:Fr.get d fr=some (.one (.arr i s 0 es.length cap)))
  (h:AOps E ops l K ((d,.one (.sl s es))::fr) (σ.set i .dead)):AOps E ops l K fr σ:=by
 intro F w0 C0 w C tmps hgo hi hf;obtain⟨h1,h2,h3⟩:=Q6q hi hf hg (fr':=[]) trivial;obtain⟨hok,zs,T,b1,b2,b3,b4⟩:=hi.obj i _ hg;refine h F w0 C0 w _ tmps (hgo.trans h1.toO) h2 ⟨hf.1,fun k x hk=>?_⟩;simp only[Fr.get]at hk;by_cases e:d=k
 ·subst e;simp at hk;subst hk;obtain⟨u,hu,hr⟩:=hf.2 d _ hd;simp only[RF,R,Z3c]at hr;refine⟨u,hu,some ⟨C.blk i,0,none⟩,cap,hr.2.1,hr.2.2,.inr ⟨_,rfl,rfl,?_⟩⟩;have hfl:=Q3o hl;have hzl:=RV.length b3;have hv:RV w (C.froze (C.blk i)) es.flatten (zs.take (es.length * s)):=by have:=(b3.take (es.length * s)).ext h1.chg;rwa [vec,Z2i zoy,Z2k zoy]at this
  refine RS.ofVals 0 hl hv fun j v hj=>⟨?_,.inr rfl⟩;have h2:j < es.length * s:=by have:=(Z0v.1 hj).1;simp at this;omega
  rw[Z0z h2]at hj;rw[Z3a,cell_of_row _ _ _ _ _ _ b1];simpa using hj
 ·rw[Q06 e]at hk;obtain⟨u,hu,hr⟩:=hf.2 k x hk;exact⟨u,hu,hr.ext h1.chg⟩
theorem Qsx{d:Nat}(hgd:o.guard=none)(Qvh:o.dst=some d)(hd:Nat.ble (d+1) E.N=true)
  (ho:o.op=.call { callee:=.value f,args:=args,argTypes:=tys }) (hf:aEval E.Γ fr f=some (.one (.fn (.func g) [] []))) (hargs:Q1g E.Γ fr args.toList=some [.one (.lit u)])
  (hcf:∀us (w:World),(callFunc g us).run E.P w=.ok (.enter g us) w) (hc:∀w:World,Calls E.P g #[u] w fun e w'=>e=.returned (.tuple #[])/\w'=w)
  (h:AOps E ops rest K ((d,.tup [])::fr) σ):AOps E ops (o::rest) K fr σ:=by
 intro F w0 C0 w C tmps hgo hi hfr;refine wpList_plain hgd fun N' hN=>?_;have Qve:=Q01 (a:=⟨tmps,E.ds⟩) hi hfr hf;simp only[RF,R]at Qve;obtain⟨xs,ys,hfv,hx,hy⟩:=Qve;simp only[RV]at hx hy;subst hx;subst hy;have hvs:=Q27 (a:=⟨tmps,E.ds⟩) hi hfr hargs;simp only[RFs,RF,R]at hvs;obtain⟨v,us,hv,⟨hv2,_⟩,hus⟩:=hvs;subst hus;rw[hv2]at hv;have hrun:(execOp (Act.eval ⟨tmps,E.ds⟩) o).run E.P w=.ok (.enter g #[u]) w:=by unfold execOp;simp only[ho,resolve,Z3s,hfv,Deferred.ofValue,Z3t,Z3r,invoke,hcf];congr 2;apply Qz6;simpa using hv
 unfold Oper.wp;rw[hrun,Z3e];refine (hc w).mono fun e w' ⟨he,hw'⟩=>?_;subst he;subst hw';refine hN _ _ ?_;rw[Q3d];rw[Qvh];exact h F w0 C0 w' C _ hgo hi (Q2i (dst:=some d) hfr hd (by simp only[RF,RFs];exact⟨[],rfl,rfl⟩))
def Ctx.still (C:Ctx)(w:World):Ctx:=⟨fun a=>a.block < w.heap.size,0,C.no,C.phi,C.tk⟩
theorem Inv.stillChg(hi:Inv Γ F w C σ):Chg isO w C w (C.still w):=
 ⟨fun _ _=>rfl,fun a h=>hi.prot a h,fun i hp hok=>⟨by cases i with|l k=>cases hp|o k=>exact hok,rfl,rfl⟩⟩
theorem Inv.forStill(hi:Inv Γ F w C σ)(hΓ:GI Γ):Inv Γ (fun k=>k < w.heap.size) w (C.still w) ⟨0,[],fun _=>none⟩:=by
 have hn:∀i,St.get ⟨0,[],fun _=>none⟩ i=none:=fun i=>by cases i <;> rfl
 exact⟨fun _ h=>h,rfl,fun g cs h=>(hi.glob g cs h).chg hi.stillChg (hΓ g cs h),fun _ h=>h,fun i o h=>by (rw[hn]at h;cases h),fun i j o o' g h=>by (rw[hn]at h;cases h)⟩
def LendF (σ:St)(x y:FV):Prop:=∀(Γ:List (Nat×List AC))(F:Nat->Prop)(w:World)(C:Ctx)(v:Value),Inv Γ F w C σ->RF w C x v->RF w (C.still w) y v
def Qb4 (σ:St)(xs ys:List FV):Prop:=∀(Γ:List (Nat×List AC))(F:Nat->Prop)(w:World)(C:Ctx)(vs:List Value),Inv Γ F w C σ->RFs w C xs vs->RFs w (C.still w) ys vs
theorem Qb4.nil:Qb4 σ [] []:=fun _ _ _ _ _ _ h=>h
theorem Qb4.cons{σ:St}{x y:FV}{xs ys:List FV}(h:LendF σ x y)(k:Qb4 σ xs ys):Qb4 σ (x::xs) (y::ys):=by intro Γ F w C vs hi hr;simp only[RFs]at hr ⊢;obtain⟨v,us,rfl,h1,h2⟩:=hr;exact⟨v,us,rfl,h _ _ _ _ _ hi h1,k _ _ _ _ _ hi h2⟩
def Plain (r:FV):Prop:=∀(w w':World)(C C':Ctx)(v:Value),RF w C r v->RF w' C' r v
theorem Plain.lit(u:Value):Plain (.one (.lit u)):=fun w w' C C' v h=>by simpa only [RF,R]using h
theorem AStep.callS
  (hΓ:GI E.Γ) (hc:APure E.P E.Γ g ws r) (hp:Plain r) (ho:o.op=.call { callee:=.value f,args:=args,argTypes:=tys })
  (hf:aEval E.Γ fr f=some (.one (.fn (.func g) first caps))) (hargs:Q1g E.Γ fr args.toList=some vs) (hw:Qb4 σ (first.map .one++vs++caps.map .one) ws):AStep E o fr σ r σ:=by
 intro F w C tmps hi hfr next Q hk
 have Qve:=Q01 (a:=⟨tmps,E.ds⟩) hi hfr hf;simp only[RF,R]at Qve;obtain⟨xs,ys,hfv,hx,hy⟩:=Qve;have hvs:=Q27 (a:=⟨tmps,E.ds⟩) hi hfr hargs;have hall:RFs w (C.still w) ws (xs++args.toList.map (Act.eval ⟨tmps,E.ds⟩)++ys):=hw _ _ _ _ _ hi ((Z3q hx |>.append hvs).append (Z3q hy));have hrun:(execOp (Act.eval ⟨tmps,E.ds⟩) o).run E.P w=.ok (.enter g (xs++args.toList.map (Act.eval ⟨tmps,E.ds⟩)++ys).toArray) w:=by unfold execOp;simp only[ho,resolve,Z3s,hfv,Deferred.ofValue,Z3t,Z3r,invoke,(hc σ.ou).1];congr 2;apply Qz6;simp
 unfold Oper.wp;rw[hrun,Z3e];refine ((hc fun _=>none).2 (fun k=>k < w.heap.size) w (C.still w) _ rfl (hi.forStill hΓ) hall).mono fun e w' ⟨v,r',ou',C',he,hgo,h0,hi',hr,hQ1,hQ2⟩=>?_;subst he;subst hQ1;obtain⟨he,hi2⟩:=hi.grown hgo.stp.size (fun k hk=>hgo.stp.block k hk);exact hk v w' C ⟨hgo.stp.mono fun k hk=>hi.base k hk,he,Z30 _,NewP.refl _ _⟩ hi2 (hp _ _ _ _ _ hr)
theorem AOps.callS{E:Env}{ops:Array Oper}{rest:List Oper}{o:Oper}{K:Cont}{fr:Fr}{σ:St}{d:Nat}{f:Operand}{args:Array Operand}{tys:Array TypeId}{g:Nat}{first caps:List AC}{vs ws:List FV}{r:FV}
  (hΓ:GI E.Γ) (hc:APure E.P E.Γ g ws r) (hp:Plain r) (hgd:o.guard=none) (Qvh:o.dst=some d) (hd:Nat.ble (d+1) E.N=true) (ho:o.op=.call { callee:=.value f,args:=args,argTypes:=tys })
  (hf:aEval E.Γ fr f=some (.one (.fn (.func g) first caps))) (hargs:Q1g E.Γ fr args.toList=some vs) (hw:Qb4 σ (first.map .one++vs++caps.map .one) ws)
  (h:AOps E ops rest K ((d,r)::fr) σ):AOps E ops (o::rest) K fr σ:=
 Qr9 hgd Qvh hd (AStep.callS hΓ hc hp ho hf hargs hw) h
section
variable {E:Env}{o:Oper}{fr:Fr}{σ:St}
end
section
variable {Γ:List (Nat×List AC)}{F:Nat->Prop}{w:World}{C:Ctx}{σ:St}
end
end Go.Abs
namespace Go.Abs
theorem Qb5.mono{P Q:FV->St->Prop}(h:Qb5 E ops o fr σ P)(hq:∀v σ',P v σ'->Q v σ'):Qb5 E ops o fr σ Q:=by
 rcases h with ⟨v,σ',h1,h2⟩|⟨h1,h2⟩
 ·exact .inl ⟨v,σ',h1,hq _ _ h2⟩
 ·exact .inr ⟨h1,fun F w C tmps hi hf next Q' hk=>h2 F w C tmps hi hf next Q' fun u w' C' v σ' hp=>hk u w' C' v σ' (hq _ _ hp)⟩
section
variable {E:Env}{l:List Oper}{frb:Fr}{n:Nat}{K:Cont}{J:Array Bool->St->(Nat->Option FV)->Prop}
end
theorem AOps.wkObj(i:Id){cs':List AC}(hg:σ.get i=some (.cells cs))(hw:∀(w:World)(C:Ctx)(xs:List Value),RV w C cs xs->RV w C cs' xs)(h:AOps E ops l K fr (σ.set i (.cells cs'))):AOps E ops l K fr σ:=by intro F w0 C0 w C tmps hgo hi hf;obtain⟨hok,xs,T,o1,o2,o3,o4⟩:=hi.obj i _ hg;obtain⟨he,hi'⟩:=hi.turn hg (g:=C.blk i) rfl (w':=w) rfl (fun _ _=>rfl) (fun _ _ _=>rfl) (o':=.cells cs') rfl fun _=>⟨xs,T,o1,o2,hw w C xs o3,o4⟩;exact h F w0 C0 w C tmps hgo hi' hf
theorem Qsy{n:Nat}{ou':Outer}(hs:∀k o,ou k=some o->ou' k=some o)(h:AOps E ops rest K fr ⟨n,lo,ou⟩):AOps E ops rest K fr ⟨n,lo,ou'⟩:=by
 refine AOps.lessO ⟨n,lo,ou⟩ rfl (fun i o hi=>?_) h;cases i with
 |l k=>exact hi
 |o k=>exact hs k o hi
end Go.Abs
namespace Go.Abs
theorem Qsz(ho:o.op=.box t x)(hx:aEval E.Γ fr x=some (.agg cs)):AStep E o fr σ (.one (.box cs)) σ:=by
 intro F w C tmps hi hf next Q hk
 have h1:=Q01 (a:=⟨tmps,E.ds⟩) hi hf hx;simp only[RF]at h1;obtain⟨xs,hv,hr⟩:=h1;obtain⟨C',he,hno,hnp,hin,hpr⟩:=hi.newRow xs t;have hrun:(execOp (Act.eval ⟨tmps,E.ds⟩) o).run E.P w=.ok (.value (.pointer (some ⟨w.heap.size,0,none⟩))) (w.alloc (.cells xs.toArray t)):=by unfold execOp;simp only[ho,hv];simp[Instr.box,newVar,newRow,Value.cells]
 unfold Oper.wp;rw[hrun,Z3f];refine hk _ _ C' ⟨Stp.alloc hi.base _ _,he,Z2y hno.symm,hnp⟩ hin ?_;simp only[RF,R];refine⟨⟨w.heap.size,0,none⟩,rfl,rfl,RL.of_new 0 (hr.ext he) (fun j v hj=>?_) hpr⟩;rw[Z3a,cell_of_row _ _ _ _ _ _ (heap_alloc_new w _)];simpa using hj
def bI (v:BitVec 64):Int:=IntKind.i64.wrap v.toNat
def orI (a b:Int):Int:=bI (BitVec.ofInt 64 a ||| BitVec.ofInt 64 b)
def anI (a b:Int):Int:=bI (BitVec.ofInt 64 a &&& ~~~BitVec.ofInt 64 b)
def subI (a b:Int):Prop:=BitVec.ofInt 64 a &&& ~~~BitVec.ofInt 64 b=0#64
theorem subI.an{a b:Int}(h:subI a b):anI a b=0:=by unfold anI;rw[h];decide
theorem bv_sub{a b:BitVec 64}:a &&& ~~~b=0#64↔a ||| b=b:=by
 constructor
 ·intro h
  ext i hi
  have:=congrArg (fun v:BitVec 64=>v.getLsbD i) h;simp[hi]at this ⊢;simp only[←BitVec.getLsbD_eq_getElem]at *;cases ha:a.getLsbD i <;> simp_all
 ·intro h
  ext i hi
  have:=congrArg (fun v:BitVec 64=>v.getLsbD i) h;simp[hi]at this ⊢;simp only[←BitVec.getLsbD_eq_getElem]at *;cases ha:a.getLsbD i <;> simp_all
theorem subI.trans{a b c:Int}(h:subI a b)(k:subI b c):subI a c:=by unfold subI at *;rw[bv_sub]at *;rw[←k,←BitVec.or_assoc,h]
section
variable {E:Env}{o:Oper}{fr:Fr}{σ:St}
end
end Go.Abs
namespace Go.Abs
open Go.Sort Go.Proofs
set_option linter.unusedSectionVars false
section
variable {α:Type} [Inhabited α]
theorem Qt0{w:World}{C:Ctx}:∀{vs:List Value}{cs:List AC}{xs:List Value},RV w C (vs.map .lit++cs) xs->xs=vs++xs.drop vs.length/\RV w C cs (xs.drop vs.length)
 |[],cs,xs,h=>⟨by simp,by simpa using h⟩
 |v::vs,cs,xs,h=>by simp only[Z1g,Z03,RV]at h;obtain⟨u,ys,rfl,h1,h2⟩:=h;simp only[R]at h1;obtain⟨h3,h4⟩:=Qt0 h2;refine⟨?_,by simpa using h4⟩;simp only[Z13,Z09,Z03];rw[←h3,h1.1]
end
end Go.Abs
namespace Go.Abs
def oaC (k s:Nat)(es:List (List AC)):Option Nat->AC
 |none=>.lit (.slice none 0 0)
 |some cap=>.arr (.l k) s 0 es.length cap
def oaO (s:Nat)(es:List (List AC)):Option Nat->AObj
 |none=>.dead
 |some cap=>.cells (vec s es cap)
def coO (es:List (List AC)):Option Nat->Prop
 |none=>es=[]
 |some cap=>es.length<=cap
section
variable {E:Env}{ops:Array Oper}{l rest:List Oper}{K:Cont}{fr:Fr}{σ:St}
theorem Inv.ghost(hi:Inv Γ F w C σ):∃C',Ext w C w C'/\C'.no=C.no/\(∀a,C'.prot a↔C.prot a)/\Inv Γ F w C' (σ.push .dead):=by have hn:=Qqq C 0 none hi.next;have he:Ext w C w (C.more 0 none):=⟨fun _ _=>rfl,fun _ h=>h,fun i _ hok=>Qqp C 0 none hok⟩;refine⟨C.more 0 none,he,rfl,fun a=>Iff.rfl,?_⟩;refine hi.addObj (o:=.dead) (d:=.l σ.n) (fun i=>Z3u σ _ i) he ?_ hi.base hi.prot (fun _ _ _ _ _ _ h=>h) (fun _ _ _ _ _ _ h=>h) hn.1 trivial (fun _ _ _ _ _ h=>by cases h);show C.nl+1=σ.n+1;rw[hi.next]
theorem ACode.ghost{c:Code}(h:ACode E c K fr (σ.push .dead)):ACode E c K fr σ:=by intro F w0 C0 w C tmps hg hi hf;obtain⟨C',h1,h2,h3,h4⟩:=hi.ghost;exact h F w0 C0 w C' tmps (hg.trans ⟨Z3v _ _,h1.weaken (fun _ _=>trivial),by rw[h2];exact Z30 _,fun a ha=>.inl ((h3 a).1 ha)⟩) h4 (hf.ext h1)
theorem Qt1{d:AC}(hT:TabOk E.P E.T)(hgd:o.guard=none)(Qvh:o.dst=some dd)(hdd:Nat.ble (dd+1) E.N=true)
  (ho:o.op=.call { callee:=.builtin .append,args:=#[x,y],argTypes:=#[t,t] }) (ht:Tab.get t E.T=some ti) (hk:Nat.beq ti.kind 2=true) (hj:Tab.get ti.elem E.T=some tj) (hx:aEval E.Γ fr x=some (.one (oaC k s es oc))) (hy:aEval E.Γ fr y=some (.one d))
  (hg:σ.get (.l k)=some (oaO s es oc)) (hco:coO es oc) (hl:∀x∈es,x.length=s) (hsrc:Src d s news) (hne:news≠[])
  (hs:Nat.beq tj.size s=true) (hbytes:(es.length+news.length) * tj.bytes<=140737488355328) (h63:es.length+news.length<=140737488355328)
  (h:∀cap,(es++news).length<=cap->AOps E ops rest K ((dd,.one (oaC σ.n s (es++news) (some cap)))::fr) ((σ.set (.l k) .dead).push (oaO s (es++news) (some cap)))):AOps E ops (o::rest) K fr σ:=by
 cases oc with
 |none=>
  simp only[coO]at hco;subst hco;refine AOps.appOwn hT hgd Qvh hdd ho ht hk hj hx hy (.nil s) hsrc hne hs hbytes h63 fun cap hc=>?_;refine AOps.lessO ((σ.set (.l k) .dead).push (oaO s ([]++news) (some cap))) rfl (fun i q hq=>?_) (h cap hc);rw[Z3u]at hq ⊢;split
  ·rename_i e;rw[if_pos (by rw[e];rfl)]at hq;exact hq
  ·rename_i e;rw[if_neg (by intro e2;exact e e2)]at hq;by_cases e3:(Id.l k)=i
   ·subst e3;rw[Qqj]at hq;rw[hg,←hq];rfl
   ·rw[Qqk _ e3]at hq;exact hq
 |some cap=>
  exact AOps.appOwn hT hgd Qvh hdd ho ht hk hj hx hy (.own s cap es (.l k) hg hl hco) hsrc hne hs hbytes h63 h
end
theorem Q8u{Q:Exit->Act->World->Prop}(hq:∀e a w,Q e a w->Q' e a w)(h:LetsOut Q):LetsOut Q':=let ⟨a,w,h⟩:=h;⟨a,w,hq _ _ _ h⟩
theorem Qlk{Q:Exit->Act->World->Prop}(hq:∀e a w,Q e a w->Q' e a w){a:Act}{K K':Act->World->Prop}(h:∀a w,K a w->K' a w)(hh:o.wp P a w K Q):o.wp P a w K' Q':=by
 unfold Oper.wp at *;generalize (execOp a.eval o).run P w=r at *;cases r with
 |ok n w'=>
  cases n with
  |value v=>exact h _ _ hh
  |skip=>exact h _ _ hh
  |defer d=>exact h _ _ hh
  |enter f args=>
   exact Calls.mono hh (fun e w'' he=>by
    cases e with
    |returned v=>exact h _ _ he
    |panicked c=>exact hq _ _ _ he
    |outgrown=>exact Q8u hq he)
  |row row args=>exact Rows.mono hh (fun _ _ he=>h _ _ he)
  |_=>exact absurd hh (by simp only[Oper.upon];exact id)
 |halt x w'=>cases x <;> simp only[Oper.upon]at hh ⊢ <;> first|exact hq _ _ _ hh|exact hh
theorem Q6j{P:Program}{ops:Array Oper}{Q Q':Exit->Act->World->Prop}(hq:∀e a w,Q e a w->Q' e a w):∀{l:List Oper}{a:Act}{w:World},wpList P ops Q l a w->wpList P ops Q' l a w
 |[],a,w,h=>hq _ _ _ h
 |o::rest,a,w,h=>by
  simp only[wpList]at h ⊢;split
  ·rename_i hw;rw[if_pos hw]at h;rcases h with h|⟨h1,h2⟩
   ·exact .inl (Qlk hq (fun a w h=>Q6j hq h) h)
   ·exact .inr ⟨h1,Q8u hq h2⟩
  ·rename_i hw;rw[if_neg hw]at h;exact Q6j hq h
theorem AOps.monoK{K':Cont}(h:AOps E ops l K fr σ)(hk:∀e fr σ,K e fr σ->K' e fr σ):AOps E ops l K' fr σ:=by intro F w0 C0 w C tmps hg hi hf;refine Q6j (fun e act w' hp=>?_) (h F w0 C0 w C tmps hg hi hf);obtain⟨hd,fr2,σ2,C2,h1,h2,h3,h4⟩:=hp;exact⟨hd,fr2,σ2,C2,h1,h2,h3,hk _ _ _ h4⟩
section
variable {E:Env}{ops:Array Oper}{l:List Oper}{x y:Code}{Fin:Fr->St->Prop}{k:List AItem}{α:Type}{fr:Fr}{σ:St}
end
@[simp] theorem Qlb (ρ:Nat->Nat) (k s:Nat) (es:List (List AC)) (oc:Option Nat):(oaC k s es oc).ren ρ=oaC (ρ k) s es oc:=by cases oc <;> rfl
theorem Qla(ρ:Nat->Nat)(s:Nat)(es:List (List AC))(oc:Option Nat)(h:∀cap,idsL isO (vec s es cap)):(oaO s es oc).ren ρ=oaO s es oc:=by
 cases oc with
 |none=>rfl
 |some cap=>exact Qyr ρ (.cells (vec s es cap)) (h cap)
@[simp] theorem ids_oaC (n k s:Nat) (es:List (List AC)) (oc:Option Nat):(oaC k s es oc).ids (inL n)↔(oc=none∨inL n (.l k)):=by cases oc <;> simp[oaC,AC.ids]
theorem Qg9{p:Id->Prop}(h:idsS p es):idsL p (vec s es cap):=by
 unfold vec;refine Q2b.2 fun c hc=>?_;rcases Z1m.1 hc with hc|hc
 ·obtain⟨e,he,hc⟩:=List.mem_flatten.1 hc;exact Q2b.1 (Qih.1 h e he) c hc
 ·rw[Z22]at hc;rw[hc.2];trivial
theorem Qmh{p:Id->Prop}(h:idsS p es):(oaO s es oc).ids p:=by
 cases oc with
 |none=>trivial
 |some cap=>exact Qg9 h
theorem Qt2{r:Fr}{d k':Nat}(h:Fr.get d fr=some (.one (oaC k' s es oc)))(hk:k'=ρ k)(hr:FrSub ρ fr r):FrSub ρ fr ((d,.one (oaC k s es oc))::r):=
 Qzo h (.ofEq (by subst hk;simp only[FV.ren,Qlb])) hr
theorem Qt3(hT:TabOk E.P E.T)(ho:o.op=.call { callee:=.builtin .append,args:=#[x,y],argTypes:=#[t,t] })(ht:Tab.get t E.T=some ti)(hk:Nat.beq ti.kind 2=true)(hj:Tab.get ti.elem E.T=some tj)
  (hx:aEval E.Γ fr x=some (.one (.lit (.slice none 0 0)))) (hy:aEval E.Γ fr y=some (.one (.sl s []))):AStep E o fr σ (.one (.lit (.slice none 0 0))) σ:=by
 refine Qqz fun F w C tmps hi hf=>?_;have h1:=Q01 (a:=⟨tmps,E.ds⟩) hi hf hx;have h2:=Q01 (a:=⟨tmps,E.ds⟩) hi hf hy;simp only[RF,R,Z3c]at h1 h2;obtain⟨hv,hc⟩:=h1;obtain⟨a,c,hv2,_,_⟩:=h2;have hu:=(hT t ti ht).slice (Z2v hk);obtain⟨i0,dd,z,g1,g2,g3,g4,g5,g6,g7,g8⟩:=(hT _ _ hj).ex;refine⟨.slice none 0 0,?_,by simp only[RF,R];exact⟨trivial,rfl⟩⟩;unfold execOp;simp only[ho,resolve,invoke,builtin,Z3s,Z3t,Z3r,Z1l,Z1g,Z1j,hv,hv2];cases a with
 |none=>simp[Builtin.append_,run_underlying hu,sizeOf,typeInfo,g1,Builtin.lenOf,Builtin.firstCells,storeCells]
 |some a=>simp[Builtin.append_,run_underlying hu,sizeOf,typeInfo,g1,Builtin.lenOf,Builtin.firstCells,storeCells,loadCells,loadCellsFrom]
end Go.Abs
namespace Go.Abs
section
variable {θ:Id->Id}
mutual
theorem AC.sub_f(hθ:∀i:Id,isO i->θ i=i):∀c:AC,c.ids isO->c.sub θ=c
 |.lit _,_=>rfl
 |.any,_=>rfl
 |.sl s es,h=>by simp only[AC.ids]at h;simp only[AC.sub];rw[Qh7 hθ es h]
 |.box cs,h=>by simp only[AC.ids]at h;simp only[AC.sub];rw[Q8n hθ cs h]
 |.ptr i off,h=>by simp only[AC.ids]at h;simp only[AC.sub];rw[hθ i h]
 |.gs s es i,h=>by simp only[AC.ids]at h;simp only[AC.sub];rw[hθ i h.1,Qh7 hθ es h.2]
 |.arr i s off len cap,h=>by simp only[AC.ids]at h;simp only[AC.sub];rw[hθ i h]
 |.mp i,h=>by simp only[AC.ids]at h;simp only[AC.sub];rw[hθ i h]
 |.fn f a b,h=>by simp only[AC.ids]at h;simp only[AC.sub];rw[Q8n hθ a h.1,Q8n hθ b h.2]
 |.ifc t ag cs,h=>by simp only[AC.ids]at h;simp only[AC.sub];rw[Q8n hθ cs h]
theorem Qh7(hθ:∀i:Id,isO i->θ i=i):∀es:List (List AC),idsS isO es->subS θ es=es
 |[],_=>rfl
 |e::es,h=>by simp only[idsS]at h;simp only[subS];rw[Q8n hθ e h.1,Qh7 hθ es h.2]
theorem Q8n(hθ:∀i:Id,isO i->θ i=i):∀cs:List AC,idsL isO cs->subL θ cs=cs
 |[],_=>rfl
 |c::cs,h=>by simp only[idsL]at h;simp only[subL];rw[AC.sub_f hθ c h.1,Q8n hθ cs h.2]
end
mutual
theorem FV.sub_f(hθ:∀i:Id,isO i->θ i=i):∀x:FV,x.ids isO->x.sub θ=x
 |.bot,_=>rfl
 |.one c,h=>by simp only[FV.ids]at h;simp only[FV.sub];rw[AC.sub_f hθ c h]
 |.agg cs,h=>by simp only[FV.ids]at h;simp only[FV.sub];rw[Q8n hθ cs h]
 |.tup vs,h=>by simp only[FV.ids]at h;simp only[FV.sub];rw[subF_f hθ vs h]
theorem subF_f(hθ:∀i:Id,isO i->θ i=i):∀vs:List FV,idsF isO vs->subF θ vs=vs
 |[],_=>rfl
 |v::vs,h=>by simp only[idsF]at h;simp only[subF];rw[FV.sub_f hθ v h.1,subF_f hθ vs h.2]
end
theorem AObj.sub_f(hθ:∀i:Id,isO i->θ i=i)(o:AObj)(h:o.ids isO):o.sub θ=o:=by
 cases o with
 |cells cs=>simp only[AObj.sub];rw[Q8n hθ cs h]
 |map ck es=>
  simp only[AObj.sub];congr 1;rw[Z1f (g:=id),Z1h];intro x hx;have:=h x hx;obtain⟨a,b,c⟩:=x;simp only[FV.sub_f hθ c this,id]
 |iter m a b d=>simp only[AObj.sub];rw[hθ m h]
 |sit s q=>rfl
 |tok e s u=>rfl
 |dead=>rfl
end
def posOf (i:Nat):List Nat->Option Nat
 |[]=>none
 |j::r=>bif Nat.beq i j then some 0 else match posOf i r with|some p=>some (p+1)|none=>none
theorem Q7y:∀{js:List Nat}{i p:Nat},posOf i js=some p->js[p]?=some i
 |[],i,p,h=>by cases h
 |j::r,i,p,h=>by
  simp only[posOf]at h;by_cases e:i=j
  ·subst e;simp at h;subst h;rfl
  ·rw[Q06 e]at h;cases hr:posOf i r with
   |none=>rw[hr]at h;cases h
   |some q=>
    rw[hr]at h;simp at h;subst h;simpa using Q7y hr
def toOs (js:List Nat)(k:Nat):Id->Id
 |.l i=>match posOf i js with|some p=>.o (k+p)|none=>.l i
 |.o i=>.o i
structure CedN (θ:Id->Id)(fr:Fr)(σ:St)(fr':Fr)(σ':St):Prop where
 fr:∀d x,Fr.get d fr'=some x->∃y,Fr.get d fr=some y/\WkF (y.sub θ) x
 n:σ'.n=σ.n
 obj:∀i x,σ'.get i=some x->∃i0 y,σ.get i0=some y/\θ i0=i/\x=y.sub θ
theorem Qt4(js:List Nat)(hj:∀j∈js,j < σ.n)(h:∀k,(∀m,k<=m->σ.ou m=none)->∃fr' σ',CedN (toOs js k) fr σ fr' σ'/\AOps E ops rest K fr' σ'):AOps E ops rest K fr σ:=by
 intro F w0 C0 w C tmps hg hi hf;have hnone:∀m,C.no<=m->σ.ou m=none:=fun m hm=>by
  cases hx:σ.ou m with
  |none=>rfl
  |some x=>
   have:m < C.no:=(hi.obj (.o m) x hx).1;omega
 obtain⟨fr',σ',hc,h⟩:=h _ hnone
 let C2:Ctx:={ C with no:=C.no+js.length,phi:=fun i=>match i with|.o m=>if m < C.no then C.phi (.o m)else (match js[m - C.no]? with|some j=>C.phi (.l j)|none=>C.phi (.o m))|.l m=>C.phi (.l m),tk:=fun i=>match i with|.o m=>if m < C.no then C.tk (.o m)else (match js[m - C.no]? with|some j=>C.tk (.l j)|none=>C.tk (.o m))|.l m=>C.tk (.l m) }
 have hx:Ext w C w C2:=⟨fun _ _=>rfl,fun _ h=>h,fun i _ ho=>by
  cases i with
  |l m=>exact⟨ho,rfl,rfl⟩
  |o m=>
   have hm:m < C.no:=ho;refine⟨Z32 hm (Z2w _ _),?_,?_⟩
   ·show (if m < C.no then _ else _)=_;rw[if_pos hm];rfl
   ·show (if m < C.no then _ else _)=_;rw[if_pos hm];rfl⟩
 have hb:Bus (toOs js C.no) (fun _=>True) w C2 C:=⟨fun _ h=>h,fun i _ ho=>by
  cases i with
  |o m=>exact hx.id (.o m) trivial ho
  |l m=>
   simp only[toOs];cases hp:posOf m js with
   |none=>exact⟨ho,rfl,rfl⟩
   |some p=>
    have hjp:=Q7y hp;have hlt:p < js.length:=(Z0v.1 hjp).1;refine⟨Nat.add_lt_add_left hlt _,?_,?_⟩
    ·show (if C.no+p < C.no then _ else _)=_;rw[if_neg zoy,Z2s,hjp];rfl
    ·show (if C.no+p < C.no then _ else _)=_;rw[if_neg zoy,Z2s,hjp];rfl⟩
 have hok:∀i0 y,σ.get i0=some y->C.ok i0:=fun i0 y hy=>(hi.obj i0 y hy).1;have hi':Inv E.Γ F w C2 σ':=by
  refine⟨hi.base,by rw[hc.n];exact hi.next,fun g cs hm=>(hi.glob g cs hm).ext hx,hi.prot,fun i x hxx=>?_,fun i1 i2 x1 x2 g h1 h2 h3 h4=>?_⟩
  ·obtain⟨i0,y,hy,rfl,rfl⟩:=hc.obj i x hxx;obtain⟨k1,k2⟩:=hi.obj i0 y hy;exact⟨(hb.id i0 trivial k1).1,ObjOk.bus hb (Qsr y) trivial k1 (fun _ h=>h) k2⟩
  ·obtain⟨a,y,hy,rfl,rfl⟩:=hc.obj i1 x1 h1;obtain⟨b,z,hz,rfl,rfl⟩:=hc.obj i2 x2 h2;rw[Qrs hb trivial (hok a y hy)]at h3;rw[Qrs hb trivial (hok b z hz)]at h4;rw[hi.inj a b y z g hy hz h3 h4]
 refine h F w0 C0 w C2 tmps (hg.trans ⟨Z3v _ _,hx.weaken (fun _ _=>trivial),Z2w _ _,NewP.refl _ _⟩) hi' ⟨hf.1,fun d x hd=>?_⟩;obtain⟨y,hy,hw⟩:=hc.fr d x hd;obtain⟨u,hu,hr⟩:=hf.2 d y hy;exact⟨u,hu,hw _ _ _ (RF.bus hb y u (FV.ids_true y) hr)⟩
def ouAdd (ou:Outer)(k:Nat)(os:List AObj):Outer:=fun m=>bif Nat.blt m k then ou m else os[m - k]?
theorem Q14(h:m < k):ouAdd ou k os m=ou m:=by
 unfold ouAdd;have:Nat.blt m k=true:=by simp[Nat.blt];exact h
 rw[this];rfl
theorem Q0o(p:Nat):ouAdd ou k os (k+p)=os[p]?:=by
 unfold ouAdd;have:Nat.blt (k+p) k=false:=by
  cases h:Nat.blt (k+p) k with
  |false=>rfl
  |true=>simp[Nat.blt]at h;omega
 rw[this,Z2s];rfl
theorem Q4u(h:∀m,k<=m->ou m=none){o:AObj}(hm:ou m=some o):m < k:=by
 rcases Z33 m k with h1|h1
 ·exact h1
 ·rw[h m h1]at hm;cases hm
inductive CedFrN (θ:Id->Id)(fr:Fr):Fr->Prop
 |nil:CedFrN θ fr []
 |cons {k:Nat}{x y:FV}{r:Fr}(h:Fr.get k fr=some y) (hw:y.sub θ=x) (hr:CedFrN θ fr r):CedFrN θ fr ((k,x)::r)
theorem CedFrN.get{θ:Id->Id}{fr fr':Fr}(h:CedFrN θ fr fr'):∀d x,Fr.get d fr'=some x->∃y,Fr.get d fr=some y/\WkF (y.sub θ) x:=by
 induction h with
 |nil=>intro d x h;cases h
 |@cons k x y r h hw hr ih=>
  intro d z hz;simp only[Fr.get]at hz;by_cases e:k=d
  ·subst e;simp at hz;subst hz;exact⟨y,h,Z46 hw⟩
  ·rw[Q06 e]at hz;exact ih d z hz
inductive CedLo (θ:Id->Id)(lo:List (Nat×AObj))(js:List Nat):List (Nat×AObj)->Prop
 |nil:CedLo θ lo js []
 |cons {n:Nat}{o y:AObj}{r:List (Nat×AObj)}(h:lookL n lo=some y) (hn:posOf n js=none) (ho:y.sub θ=o) (hr:CedLo θ lo js r):CedLo θ lo js ((n,o)::r)
theorem CedLo.get{θ:Id->Id}{lo':List (Nat×AObj)}(h:CedLo θ lo js lo'):∀n o,lookL n lo'=some o->posOf n js=none/\∃y,lookL n lo=some y/\y.sub θ=o:=by
 induction h with
 |nil=>intro n o h;cases h
 |@cons m x y r h hn ho hr ih=>
  intro n o hz;simp only[lookL]at hz;by_cases e:m=n
  ·subst e;simp at hz;subst hz;exact⟨hn,y,h,ho⟩
  ·rw[Q06 e]at hz;exact ih n o hz
inductive CedOs (θ:Id->Id)(lo:List (Nat×AObj)):List Nat->List AObj->Prop
 |nil:CedOs θ lo [] []
 |cons {j:Nat}{o y:AObj}{js:List Nat}{os:List AObj}(h:lookL j lo=some y) (ho:y.sub θ=o) (hr:CedOs θ lo js os):CedOs θ lo (j::js) (o::os)
theorem CedOs.get{θ:Id->Id}(h:CedOs θ lo js os):∀(p:Nat)(o:AObj),os[p]?=some o->∃j y,js[p]?=some j/\lookL j lo=some y/\y.sub θ=o:=by
 induction h with
 |nil=>intro p o h;simp at h
 |@cons j o y js os h ho hr ih=>
  intro p z hz;cases p with
  |zero=>simp at hz;subst hz;exact⟨j,y,rfl,h,ho⟩
  |succ p=>simpa using ih p z (by simpa using hz)
theorem Q83:∀{js:List Nat}{p j:Nat},js.Nodup->js[p]?=some j->posOf j js=some p
 |[],p,j,_,h=>by simp at h
 |i::r,p,j,hn,h=>by
  simp only[Z27]at hn;cases p with
  |zero=>simp at h;subst h;simp[posOf]
  |succ p=>
   have h1:r[p]?=some j:=by simpa using h
   have hne:j≠i:=fun e=>hn.1 (e▸Z1y h1);simp only[posOf,Q06 hne,cond_false,Q83 hn.2 h1]
theorem AOps.cedes(js:List Nat)(hj:js.all (fun j=>Nat.blt j σ.n)=true)(hnd:js.Nodup)(hou:OuOk σ.ou)
  (h:∀k,(∀m,k<=m->σ.ou m=none)->∃fr' lo' os,CedFrN (toOs js k) fr fr'/\CedLo (toOs js k) σ.lo js lo'/\CedOs (toOs js k) σ.lo js os/\AOps E ops rest K fr' ⟨σ.n,lo',ouAdd σ.ou k os⟩):AOps E ops rest K fr σ:=by
 refine Qt4 js (fun j hjj=>?_) fun k hk=>?_
 ·have:=Qzy.1 hj j hjj;exact Z2x (show Nat.ble (j+1) σ.n=true from this)
 obtain⟨fr',lo',os,h1,h2,h3,h4⟩:=h k hk;refine⟨fr',⟨σ.n,lo',ouAdd σ.ou k os⟩,⟨h1.get,rfl,fun i x hx=>?_⟩,h4⟩;cases i with
 |l m=>
  obtain⟨hp,y,hy,rfl⟩:=h2.get m x hx;exact⟨.l m,y,hy,by simp[toOs,hp],rfl⟩
 |o m=>
  have hx':ouAdd σ.ou k os m=some x:=hx;rcases Z33 m k with hm|hm
  ·rw[Q14 hm]at hx';exact⟨.o m,x,hx',rfl,(AObj.sub_f (fun i hi=>by cases i with|l q=>exact hi.elim|o q=>rfl) x (hou m x hx')).symm⟩
  ·obtain⟨p,rfl⟩:∃p,m=k+p:=⟨m - k,by omega⟩;rw[Q0o]at hx';obtain⟨j,y,q1,q2,rfl⟩:=h3.get p x hx';exact⟨.l j,y,q2,by simp[toOs,Q83 hnd q1],rfl⟩
theorem Qt5{args:List FV}(h:AFn P Γ g args ou (fun r ou'=>∃ou'':Outer,(∀m o,ou'' m=some o->ou' m=some o)/\Q r ou'')):AFn P Γ g args ou Q:=by
 refine⟨h.1,fun F w C cargs h0 hi hr=>(h.2 F w C cargs h0 hi hr).mono fun e w' ⟨v,r,ou',C',h1,h2,h3,h4,h5,ou'',h6,h7⟩=>⟨v,r,ou'',C',h1,h2,h3,?_,h5,h7⟩⟩;have hs:∀i o,(St.mk 0 [] ou'').get i=some o->(St.mk 0 [] ou').get i=some o:=fun i o hio=>by
  cases i with
  |l m=>cases hio
  |o m=>exact h6 m o hio
 exact⟨h4.base,h4.next,h4.glob,h4.prot,fun i o ho=>h4.obj i o (hs i o ho),fun i j o o' g h1 h2 h3 h5=>h4.inj i j o o' g (hs i o h1) (hs j o' h2) h3 h5⟩
end Go.Abs
namespace Go.Abs
def inS (S:List Nat)(i:Nat):Bool:=S.any fun k=>Nat.beq k i
def fC:List Nat->List FV->Nat->Option FV
 |s::S,v::vs,i=>bif Nat.beq s i then some v else fC S vs i
 |_,_,_=>none
def chainB (l:List Oper):List Nat->Bool
 |s::s'::S=>(match l[s']? with|some o=>o.after.any fun e=>Region.binds .any e&&Nat.beq e.on s|none=>false)&&chainB l (s'::S)
 |_=>true
def Q8r (l:List Oper)(S:List Nat)(n:Nat):Bool:=(l.take n).zipIdx.all fun x=>inS S x.2||x.1.after.toList.all fun e=>!Region.binds .any e||!(inS S e.on)
theorem Qdf:∀{S:List Nat}{vs:List FV}{i:Nat},inS S i=false->fC S vs i=none
 |[],[],_,_=>rfl
 |[],_::_,_,_=>rfl
 |s::S,[],_,_=>rfl
 |s::S,v::vs,i,h=>by simp only[inS,List.any_cons,Qzj]at h;simp only[fC,h.1,cond_false];exact Qdf h.2
theorem Qde(hn:S.Nodup):∀{vs:List FV}{p i:Nat},S[p]?=some i->p < vs.length->fC S vs i=vs[p]?:=by
 induction S with
 |nil=>intro vs p i h;simp at h
 |cons s S ih=>
  intro vs p i h hp;simp only[Z27]at hn;cases vs with
  |nil=>simp at hp
  |cons v vs=>
   cases p with
   |zero=>simp at h;subst h;simp[fC]
   |succ p=>
    have h1:S[p]?=some i:=by simpa using h
    have hne:s≠i:=fun e=>hn.1 (e▸Z1y h1);simp only[fC,Q06 hne,cond_false];rw[ih hn.2 h1 (by simpa using hp)];simp
theorem Qio(hn:S.Nodup):∀{vs:List FV}{p i:Nat},S[p]?=some i->vs.length<=p->fC S vs i=none:=by
 induction S with
 |nil=>intro vs p i h;simp at h
 |cons s S ih=>
  intro vs p i h hp;simp only[Z27]at hn;cases vs with
  |nil=>rfl
  |cons v vs=>
   cases p with
   |zero=>simp at hp
   |succ p=>
    have h1:S[p]?=some i:=by simpa using h
    have hne:s≠i:=fun e=>hn.1 (e▸Z1y h1);simp only[fC,Q06 hne,cond_false];exact ih hn.2 h1 (by simpa using hp)
theorem fC_upd(hn:S.Nodup){i:Nat}{v:FV}(h:S[vs.length]?=some i):updV (fC S vs) i v=fC S (vs++[v]):=by
 funext j;unfold updV;by_cases hj:inS S j=true
 ·obtain⟨s,hs,he⟩:=Z00.1 hj;obtain rfl:s=j:=Z2v he;obtain⟨p,hp⟩:=Z1v.1 hs;by_cases e:s=i
  ·subst e;have hpv:p=vs.length:=(List.getElem?_inj (Z0v.1 hp).1 hn).1 (hp.trans h.symm);subst hpv;rw[Qde (vs:=vs++[v]) hn hp zsy];simp
  ·have hpv:p≠vs.length:=fun e2=>by subst e2;rw[h]at hp;exact e (by simpa using hp.symm)
   simp only[Z3d e,if_false,e];rcases Z33 p vs.length with h1|h1
   ·rw[Qde hn hp h1,Qde hn hp zuy,Z0p h1]
   ·rw[Qio hn hp h1,Qio hn hp zuy]
 ·have hj':inS S j=false:=by simpa using hj
  have hne:j≠i:=fun e=>by subst e;have:inS S j=true:=Z00.2 ⟨j,Z1y h,by simp⟩;rw[this]at hj';cases hj'
  rw[Qdf hj',Qdf hj'];simp[Z3d hne,hne]
theorem Qfd{l:List Oper}:∀{S:List Nat},chainB l S=true->∀{p i j:Nat}{o:Oper},S[p]?=some i->S[p+1]?=some j->l[j]?=some o->∃e∈o.after.toList,Region.binds .any e=true/\e.on=i
 |[],_,p,i,j,o,h1,_,_=>by simp at h1
 |[s],_,p,i,j,o,_,h2,_=>by simp at h2
 |s::s'::S,h,p,i,j,o,h1,h2,h3=>by
  simp only[chainB,Qzc]at h;cases p with
  |zero=>
   simp at h1 h2;subst h1;subst h2;rw[h3]at h;obtain⟨e,he,hb⟩:=Array.any_eq_true'.1 h.1;simp only[Qzc]at hb;exact⟨e,by simpa using he,hb.1,Z2v hb.2⟩
  |succ p=>exact Qfd h.2 (by simpa using h1) (by simpa using h2) h3
section
variable {E:Env}{l:List Oper}{frb:Fr}{K:Cont}
end
end Go.Abs
namespace Go.Abs
section
variable {Γ:List (Nat×List AC)}{F:Nat->Prop}{w:World}{C:Ctx}{σ:St}
end
section
variable {E:Env}{o:Oper}{fr:Fr}{σ:St}
end
end Go.Abs
namespace Go.Abs
theorem AFn.moreG{Γ':List (Nat×List AC)}{args:List FV}(hs:∀g cs,(g,cs)∈Γ->(g,cs)∈Γ')(hΓ:∀g cs,(g,cs)∈Γ'->idsL isO cs)(h:AFn P Γ g args ou Q):AFn P Γ' g args ou Q:=
 ⟨h.1,fun F w C cargs h0 hi hr=>(h.2 F w C cargs h0 ⟨hi.base,hi.next,fun k cs hk=>hi.glob k cs (hs k cs hk),hi.prot,hi.obj,hi.inj⟩ hr).mono fun e w' ⟨v,r,ou',C',h1,h2,h3,h4,h5,h6⟩=>
  ⟨v,r,ou',C',h1,h2,h3,⟨h4.base,h4.next,fun k cs hk=>(hi.glob k cs hk).chg h2.chg (hΓ k cs hk),h4.prot,h4.obj,h4.inj⟩,h5,h6⟩⟩
theorem APure.moreG{P:Program}{Γ Γ':List (Nat×List AC)}{g:Nat}{args:List FV}{r:FV}(hs:∀g cs,(g,cs)∈Γ->(g,cs)∈Γ')(hΓ:∀g cs,(g,cs)∈Γ'->idsL isO cs)(h:APure P Γ g args r):APure P Γ' g args r:=fun ou=>(h ou).moreG hs hΓ
section
variable {E:Env}{o:Oper}{fr:Fr}{σ:St}
theorem Qt6{j:Id}(hT:TabOk E.P E.T)(ho:o.op=.load t x)(ht:Tab.get t E.T=some ti)(ha:ti.agg=true)(hs:Nat.beq ti.size cs.length=true)(hx:aEval E.Γ fr x=some (.one (.ptr j 0)))
  (hg:σ.get j=some (.cells cs)):AStep E o fr σ (.agg cs) σ:=by
 refine Qqs hT ?_;have hs':ti.size=cs.length:=Z2v hs;have hb:Nat.ble (0+cs.length) cs.length=true:=Nat.ble_eq▸(show 0+cs.length<=cs.length by omega);simp only[ho,aOp,ht,ha,hs',hx,aLoad,hg,hb,cond_true,Q1b,mkFV,Bool.true_or,Z0a,Z2j]
end
theorem RS.drop{w:World}{C:Ctx}{s:Nat}:∀(b:Nat)(es:List (List AC))(ad:Addr),ad.spot=none->RS w C s es ad->RS w C s (es.drop b) ⟨ad.block,ad.off+b * s,none⟩
 |0,es,ad,hs,h=>by obtain⟨bl,of,sp⟩:=ad;simp only at hs;subst hs;simpa using h
 |b+1,[],ad,hs,h=>by simp[RS]
 |b+1,e::es,ad,hs,h=>by simp only[RS]at h;have:=RS.drop b es _ rfl h.2.2;simp only[Z09];rw[show ad.off+(b+1) * s=ad.off+s+b * s by rw[Z2r];omega];exact this
section
variable {E:Env}{o:Oper}{fr:Fr}{σ:St}
theorem Qt7{l:Operand}{k:IntKind}{b:Nat}(hT:TabOk E.P E.T)(ho:o.op=.slice t x (some l) none none)(ht:Tab.get t E.T=some ti)(hk:Nat.beq ti.kind 2=true)(hj:Tab.get ti.elem E.T=some tj)(hsz:Nat.beq tj.size sz=true)
  (hx:aEval E.Γ fr x=some (.one (.sl sz es))) (hl:aEval E.Γ fr l=some (.one (.lit (.int k (b:Int))))) (hb:b<=es.length):AStep E o fr σ (.one (.sl sz (es.drop b))) σ:=by
 refine Qqz fun F w C tmps hi hf=>?_;have e1:=Q01 (a:=⟨tmps,E.ds⟩) hi hf hx;have e3:=Q01 (a:=⟨tmps,E.ds⟩) hi hf hl;simp only[RF,R]at e1 e3;obtain⟨ad,cap,hv,hcap,hrs⟩:=e1;have Qxz:tj.size=sz:=Z2v hsz;have hu:=(hT t ti ht).slice (Z2v hk);have Qwj:=(hT _ _ hj).run_sizeOf (w:=w);have hrun:(execOp (Act.eval ⟨tmps,E.ds⟩) o).run E.P w=.ok (.value (.slice (if cap=b then ad else ad.map (·.add (b * tj.size))) (es.length - b) (cap - b))) w:=by unfold execOp;simp only[ho,hv,e3.1,Z3m,Z3l];simp[Instr.sliceAt,Instr.slice,run_underlying hu,Qwj,Instr.sliceBounds,Instr.sliceBound,asIntOf,hb,hcap,Result.andThen]
 have hlen:(es.drop b).length=es.length - b:=by simp
 refine⟨_,hrun,?_⟩;simp only[RF,R,hlen];refine⟨_,_,rfl,by omega,?_⟩;rcases hrs with rfl|⟨a,rfl,hs,hr⟩
 ·left;simp
 ·by_cases he:es.drop b=[]
  ·exact .inl he
  ·right;have h1:b < es.length:=by
    rcases Z33 b es.length with h|h
    ·exact h
    ·exact absurd (Z08 h) he
   have e2:a.add (b * tj.size)=⟨a.block,a.off+b * sz,none⟩:=by
    obtain⟨bl,of,sp⟩:=a;simp only at hs;subst hs;simp only[Addr.add,Qxz];split
    ·rename_i h0;simp[h0]
    ·rfl
   rw[if_neg zoy,Z3m,e2];exact⟨_,rfl,rfl,RS.drop b es a hs hr⟩
end
end Go.Abs
namespace Go.Abs
theorem Qt8{as':List FV}
  (hΓ:GI E.Γ) (ho:o.op=.call { callee:=.value f,args:=args,argTypes:=tys })
  (hf:aEval E.Γ fr f=some (.one (.fn (.func g) first caps))) (hargs:Q1g E.Γ fr args.toList=some vs) (has:first.map .one++vs++caps.map .one=as') (Qvd:idsF isO as') (hou:OuOk σ.ou)
  (hc:AFn E.P E.Γ g as' σ.ou (fun r' ou'=>r'=r/\ou'=σ.ou)):AStep E o fr σ r σ:=by
 subst has;intro F w C tmps hi hfr next Q hk
 have Qve:=Q01 (a:=⟨tmps,E.ds⟩) hi hfr hf;simp only[RF,R]at Qve;obtain⟨xs,ys,hfv,hx,hy⟩:=Qve;have hvs:=Q27 (a:=⟨tmps,E.ds⟩) hi hfr hargs;have hall:RFs w C (first.map .one++vs++caps.map .one) (xs++args.toList.map (Act.eval ⟨tmps,E.ds⟩)++ys):=(Z3q hx |>.append hvs).append (Z3q hy);have hrun:(execOp (Act.eval ⟨tmps,E.ds⟩) o).run E.P w=.ok (.enter g (xs++args.toList.map (Act.eval ⟨tmps,E.ds⟩)++ys).toArray) w:=by unfold execOp;simp only[ho,resolve,Z3s,hfv,Deferred.ofValue,Z3t,Z3r,invoke,hc.1];congr 2;apply Qz6;simp
 unfold Oper.wp;rw[hrun,Z3e];have hc1:Chg isO w C w { C with nl:=0 }:=⟨fun _ _=>rfl,fun _ h=>h,fun i hp ho=>⟨by cases i with|l k=>cases hp|o k=>exact ho,rfl,rfl⟩⟩;refine (hc.2 (Q3h w C σ.ou) w { C with nl:=0 } _ rfl (hi.forCallee hou hΓ) (RFs.chg hc1 _ _ Qvd hall)).mono fun e w' ⟨v,r',ou',C',he,hgo,h0,hi',hr,hQ1,hQ2⟩=>?_;subst he;subst hQ1;subst hQ2;obtain⟨hb1,hb2,hb3⟩:=hi.back hgo h0 hi';have Qw7:r'.ids isO:=FV.ids_mono (Q4l h0) r' (RF.idsOk r' v hr);exact hk v w' _ hb1 hb2 (RF.chg hb3 r' v Qw7 hr)
theorem Q1j(w:World)(t el:TypeId)(p:Option Addr)(h:P.underlying t=some (.pointer el)):(Op.equal t (.pointer p) (.pointer none)).run P w=.ok p.isNone w:=by
 have:∀d:Nat,(Op.equalIn (d+1) t (.pointer p) (.pointer none)).run P w=.ok p.isNone w:=fun d=>by cases p <;> simp[Op.equalIn,run_underlying h]
 exact this 9999
section
variable {E:Env}{o:Oper}{fr:Fr}{σ:St}{t yt el:TypeId}{x y:Operand}
theorem Qt9(ht:E.P.underlying t=some (.pointer el))(ho:o.op=.binOp .eql t x y yt)(hx:aEval E.Γ fr x=some (.one (.lit (.pointer none))))(hy:aEval E.Γ fr y=some (.one (.lit (.pointer none)))):AStep E o fr σ (.one (.lit (.bool true))) σ:=by refine Qqz fun F w C tmps hi hf=>⟨.bool true,?_,rfl,rfl⟩;have h1:=Q01 (a:=⟨tmps,E.ds⟩) hi hf hx;have h2:=Q01 (a:=⟨tmps,E.ds⟩) hi hf hy;simp only[RF,R]at h1 h2;unfold execOp;simp only[ho,h1.1,h2.1,eqGuard_at_pointer,Z3s,Z3t,Z3r];simp[binOp,Q1j _ _ _ _ ht]
theorem Qta{i:Id}(ht:E.P.underlying t=some (.pointer el))(ho:o.op=.binOp .neq t x y yt)(hx:aEval E.Γ fr x=some (.one (.ptr i off)))(hy:aEval E.Γ fr y=some (.one (.lit (.pointer none)))):AStep E o fr σ (.one (.lit (.bool true))) σ:=by refine Qqz fun F w C tmps hi hf=>⟨.bool true,?_,rfl,rfl⟩;have h1:=Q01 (a:=⟨tmps,E.ds⟩) hi hf hx;have h2:=Q01 (a:=⟨tmps,E.ds⟩) hi hf hy;simp only[RF,R]at h1 h2;unfold execOp;simp only[ho,h1.2,h2.1,eqGuard_at_pointer,Z3s,Z3t,Z3r];simp[binOp,Q1j _ _ _ _ ht]
theorem Qtb(ht:E.P.underlying t=some (.pointer el))(ho:o.op=.binOp .neq t x y yt)(hx:aEval E.Γ fr x=some (.one (.lit (.pointer none))))(hy:aEval E.Γ fr y=some (.one (.lit (.pointer none)))):AStep E o fr σ (.one (.lit (.bool false))) σ:=by refine Qqz fun F w C tmps hi hf=>⟨.bool false,?_,rfl,rfl⟩;have h1:=Q01 (a:=⟨tmps,E.ds⟩) hi hf hx;have h2:=Q01 (a:=⟨tmps,E.ds⟩) hi hf hy;simp only[RF,R]at h1 h2;unfold execOp;simp only[ho,h1.1,h2.1,eqGuard_at_pointer,Z3s,Z3t,Z3r];simp[binOp,Q1j _ _ _ _ ht]
end
end Go.Abs
namespace Go.Abs
section
variable {Γ:List (Nat×List AC)}{F:Nat->Prop}{w:World}{C:Ctx}{σ:St}
end
section
variable {E:Env}{o:Oper}{fr:Fr}{σ:St}
end
end Go.Abs
namespace Go.Abs
def Q4k (E:Env)(o:Oper)(fr:Fr)(σ:St)(P:FV->St->Prop)(PP:List PanicEntry->St->Prop):Prop:=
 ∀(F:Nat->Prop) (w:World) (C:Ctx) (tmps:Array Value),Inv E.Γ F w C σ->FrOk w C E.N fr tmps->
  ∀(next:Act->World->Prop) (Q:Exit->Act->World->Prop),
   (∀(u:Value) (w':World) (C':Ctx) (v:FV) (σ':St),P v σ'->Goes F (fun _=>True) w C w' C'->Inv E.Γ F w' C' σ'->RF w' C' v u->next (Act.put ⟨tmps,E.ds⟩ o.dst u) w')->
   (∀(ps:List PanicEntry) (w':World) (C':Ctx) (σ':St),PP ps σ'->Goes F (fun _=>True) w C w' C'->Inv E.Γ F w' C' σ'->Q (.panic ps) ⟨tmps,E.ds⟩ w')->o.wp E.P ⟨tmps,E.ds⟩ w next Q
def Q2n (E:Env)(ops:Array Oper)(o:Oper)(fr:Fr)(σ:St)(P:FV->St->Prop)(PP:List PanicEntry->St->Prop):Prop:=
 Qb5 E ops o fr σ P∨(o.guard=none/\Q4k E o fr σ P PP)
theorem Q2n.mono{E:Env}{ops:Array Oper}{o:Oper}{fr:Fr}{σ:St}{P Q:FV->St->Prop}{PP:List PanicEntry->St->Prop}(h:Q2n E ops o fr σ P PP)(hq:∀v σ',P v σ'->Q v σ'):Q2n E ops o fr σ Q PP:=by
 rcases h with h|⟨h1,h2⟩
 ·exact .inl (h.mono hq)
 ·exact .inr ⟨h1,fun F w C tmps hi hf next Q' hk hp=>h2 F w C tmps hi hf next Q' (fun u w' C' v σ' hP=>hk u w' C' v σ' (hq _ _ hP)) hp⟩
theorem Qgc{P:FV->St->Prop}(h:Q2n E ops o fr σ P PP)(hi:Inv E.Γ F w C σ)(hf:FrOk w C E.N fr tmps){i:Nat}(ho:ops[i]?=some o)
  {Q:Exit->Act->World->Prop}(hk:∀(u:Value) (w':World) (C':Ctx) (v:FV) (σ':St),P v σ'->Goes F (fun _=>True) w C w' C'->Inv E.Γ F w' C' σ'->RF w' C' v u->next (Act.put ⟨tmps,E.ds⟩ o.dst u) w')
  (hp:∀(ps:List PanicEntry) (w':World) (C':Ctx) (σ':St),PP ps σ'->Goes F (fun _=>True) w C w' C'->Inv E.Γ F w' C' σ'->Q (.panic ps) ⟨tmps,E.ds⟩ w'):wpOp E.P ops Q i next ⟨tmps,E.ds⟩ w:=by
 rcases h with h|⟨hg,h⟩
 ·exact Qbv h hi hf ho hk
 ·unfold wpOp;simp only[ho];rw[if_pos (by simp[Region.wanted,hg])];exact .inl (h F w C tmps hi hf next Q hk hp)
section
variable {E:Env}{l:List Oper}{frb:Fr}{n:Nat}{K:Cont}{J:Array Bool->St->(Nat->Option FV)->Prop}
theorem Qp9(hB:drawB l n=true)(hfb:(dsts (l.take n)).all (fun d=>(Fr.get d frb).isNone)=true)
  (Qvi:∀(listed:Array Bool) (σ:St) (vals:Nat->Option FV) (i:Nat) (o:Oper),i < n->l[i]?=some o->listed.getD i false=false->listed.size=l.length->(∀e∈o.after.toList,Region.binds .any e=true->listed.getD e.on false=true)->J listed σ vals->
   dstOk E.N o.dst=true/\Q2n E l.toArray o (Q0p l vals o++frb) σ (fun v σ'=>J (listed.setIfInBounds i true) σ' (updV vals i v)) (fun ps σ'=>K (.panic ps) frb σ'))
  (Qvf:∀σ vals,J (Q0d l.length n) σ vals->AOps E l.toArray (l.drop n) K (Q0j vals 0 (l.take n)++frb) σ):
  ∀(c:Nat) (listed:Array Bool) (a:Act) (w:World),((List.range n).filter fun j=>!listed.getD j false).length=c->HeadInv .any l.toArray n listed->MidJ E l n frb J F w0 C0 listed a w->
   wpAny E.P .any l.toArray (Post E F w0 C0 K) (c+(l.length - n)) listed a w:=by
 simp only[drawB,Qzc,decide_eq_true_eq]at hB;obtain⟨⟨⟨⟨⟨hn,hs⟩,hc⟩,hsq⟩,hdi⟩,haf⟩:=hB;have hsz:l.toArray.size=l.length:=by simp
 intro c
 induction c with
 |zero=>
  intro listed a w Qvo hinv Qvr;have hall:∀j,j < n->listed.getD j false=true:=by intro j hj;have:(List.range n).filter (fun j=>!listed.getD j false)=[]:=Z0b Qvo;have h2:=Z0d.1 this j (Z21.2 hj);simpa using h2
  have hl:listed=Q0d l.length n:=by
   apply Array.ext
   ·simp[Q0d,hinv.size]
   ·intro j h1 h2;have hj:j < l.length:=by simpa[Q0d]using h2
    have h3:listed.getD j false=listed[j]:=by simp[h1]
    simp only[Q0d,Qza,Qzb];by_cases hjn:j < n
    ·rw[←h3,hall j hjn];simp[hjn]
    ·have:=hinv.tail j zoy (by rw[hsz];exact hj);rw[Q4j h1]at this;rw[←h3,this];simp[hjn]
  have hdl:(l.drop n).length=l.length - n:=by simp
  rw[Z3a,←hdl];refine wpAny_of_seq (md:=.any) (l.drop n) n listed a w (fun j=>by simp[Z0s]) (by rw[hl,hdl];exact hsq) ?_;obtain⟨hd,C,σ,vals,hJ,hg,hi,hf,hv⟩:=Qvr;have ha:a=⟨a.tmps,E.ds⟩:=by cases a;simp_all
  rw[ha];rw[hl]at hJ;refine Qvf σ vals hJ F w0 C0 w C a.tmps hg hi ⟨hf.1,fun k x hk=>?_⟩;rcases Qr5 hk with hk|⟨_,hk⟩
  ·obtain⟨i,o,h1,h2,h3⟩:=Q4x (Qr6 hk);rw[Z3a]at h3;have hin:i < n:=by have:=(Z0v.1 h1).1;simp at this;omega
   rw[Z0z hin]at h1;exact hv i o k x hin h1 h2 h3
  ·exact hf.2 k x hk
 |succ c ih=>
  intro listed a w Qvo hinv Qvr
  -- some head is not listed
  have hex:∃i,i < n/\listed.getD i false=false/\∀j,j < i->listed.getD j false=true:=by
   have hne:∃i,i < n/\listed.getD i false=false:=by
    cases hL:(List.range n).filter (fun j=>!listed.getD j false) with
    |nil=>rw[hL]at Qvo;simp at Qvo
    |cons i L=>
     have:i∈(List.range n).filter (fun j=>!listed.getD j false):=by rw[hL];simp
     obtain⟨h1,h2⟩:=Z1s.1 this;exact⟨i,Z21.1 h1,by simpa using h2⟩
   obtain⟨i,hi⟩:=hne
   induction i using Nat.strongRecOn with
   |_ i ih2=>
    by_cases h:∃j,j < i/\listed.getD j false=false
    ·obtain⟨j,hj,hj2⟩:=h;exact ih2 j hj ⟨by omega,hj2⟩
    ·exact⟨i,hi.1,hi.2,fun j hj=>(Qzg _).mp (fun hb=>h ⟨j,hj,hb⟩)⟩
  obtain⟨i0,hi0n,hi0u,hi0m⟩:=hex;have Qvj:i0∈Region.ready .any l.toArray listed:=by
   rw[mem_ready];have hlt:i0 < l.length:=by omega
   refine⟨by rw[Q4j (by rw[hinv.size,hsz];exact hlt)];exact hi0u,l[i0],by simp[hlt],fun e he hb=>?_⟩;have h1:=Qzy.1 haf (l[i0],i0) (by rw[Z24];rw[Z0z hi0n];simp[hlt]);have h2:=Qz4.1 h1 e he;simp only[hb,Qzi,Qzf,decide_eq_true_eq]at h2;exact hi0m _ h2
  rw[show c+1+(l.length - n)=(c+(l.length - n))+1 by omega];refine⟨fun h=>absurd Qvj (by rw[h];simp),fun i hi=>?_⟩;have Qwr:listed.getD i0 true=false:=(mem_ready.1 Qvj).1;have hin:i < n:=by
   rcases Z33 i n with h|h
   ·exact h
   ·exact absurd hi (tail_waits hs hc (by rw[hsz];exact hn) hinv _ i0 rfl hi0n Qwr i h)
  obtain⟨hun,o,ho,hall⟩:=mem_ready.1 hi;have hlo:l[i]?=some o:=by simpa using ho
  obtain⟨hd,C,σ,vals,hJ,hg,hinvw,hf,hvals⟩:=Qvr;have ha:a=⟨a.tmps,E.ds⟩:=by cases a;simp_all
  rw[ha];have Qw8:listed.getD i false=false:=getD_both hun;have hil:i < listed.size:=by rw[hinv.size,hsz];omega
  have hlast:∀e∈o.after.toList,Region.binds .any e=true->e.on < n:=fun e he hb=>by have h1:=Qzy.1 haf (o,i) (by rw[Z24];rw[Z0z hin];simpa using hlo);have h2:=Qz4.1 h1 e (by simpa using he);simp only[hb,Qzi,Qzf,decide_eq_true_eq]at h2;omega
  obtain⟨hdo,hst⟩:=Qvi listed σ vals i o hin hlo Qw8 (by rw[hinv.size,hsz]) (fun e he hb=>hall e (by simpa using he) hb) hJ;have hfr:FrOk w C E.N (Q0p l vals o++frb) a.tmps:=by
   refine⟨hf.1,fun k x hk=>?_⟩;rcases Qr5 hk with hk|⟨_,hk⟩
   ·have hm:=Qr6 hk;obtain⟨e,he,he2⟩:=Z1t.1 hm;cases hb:Region.binds .any e with
    |false=>rw[hb]at he2;cases he2
    |true=>
     rw[hb]at he2;simp only[cond_true]at he2;cases h1:(l[e.on]?).bind (·.dst) with
     |none=>rw[h1]at he2;cases he2
     |some d=>
      cases h2:vals e.on with
      |none=>rw[h1,h2]at he2;cases he2
      |some v'=>
       rw[h1,h2]at he2;cases he2;cases h3:l[e.on]? with
       |none=>rw[h3]at h1;cases h1
       |some oe=>
        rw[h3]at h1;exact hvals e.on oe k x (hlast e he hb) h3 h1 h2
   ·exact hf.2 k x hk
  refine Qgc hst hinvw hfr ho (fun u w' C' v σ' hJ' hgo hi' hr=>?_) (fun ps w' C' σ' hps hgo hi'=>⟨rfl,frb,σ',C',hg.trans hgo.toO,hi',hf.ext hgo.chg,hps⟩);refine ih _ _ _ ?_ (hinv.set hi hin) ⟨put_defers ..,C',σ',_,hJ',hg.trans hgo.toO,hi',?_,fun j oj dj vj hj hoj hdj hvj=>?_⟩
  ·have h2:((List.range n).filter fun j=>!(listed.setIfInBounds i true).getD j false).length+1=((List.range n).filter fun j=>!listed.getD j false).length:=Q7n hin Qw8 hil;omega
  ·cases hdd:o.dst with
   |none=>exact hf.ext hgo.chg
   |some d=>
    refine⟨by simp[Act.put,hf.1],fun k x hk=>?_⟩;obtain⟨u',hu',hr'⟩:=hf.2 k x hk;have hne:d≠k:=by rintro rfl;have h1:=Qzy.1 hfb d (Z1t.2 ⟨o,Z1y (i:=i) (by rw[Z0z hin];exact hlo),hdd⟩);rw[hk]at h1;cases h1
    refine⟨u',?_,hr'.ext hgo.chg⟩;simp only[Act.put];rw[Qz9 hne];exact hu'
  ·by_cases e:i=j
   ·subst e;rw[hlo]at hoj;cases hoj;rw[updV,if_pos rfl]at hvj;cases hvj;have hdN:dj < a.tmps.size:=by rw[hf.1];rw[hdj]at hdo;exact Z2x (show Nat.ble (dj+1) E.N=true from hdo)
    exact⟨u,by rw[hdj];simp[Act.put,hdN],hr⟩
   ·simp only[updV,if_neg e]at hvj;obtain⟨u',hu',hr'⟩:=hvals j oj dj vj hj hoj hdj hvj;cases hdd:o.dst with
    |none=>exact⟨u',hu',hr'.ext hgo.chg⟩
    |some d=>
     have hne:d≠dj:=by rintro rfl;exact e (Q1s hdi (by rw[Z0z hin];exact hlo) (by rw[Z0z hj];exact hoj) hdd hdj)
     refine⟨u',?_,hr'.ext hgo.chg⟩;simp only[Act.put];rw[Qz9 hne];exact hu'
def AAny (E:Env)(l:List Oper)(K:Cont)(fr:Fr)(σ:St):Prop:=
 ∀(F:Nat->Prop) (w0:World) (C0:Ctx) (w:World) (C:Ctx) (tmps:Array Value),Goes F isO w0 C0 w C->Inv E.Γ F w C σ->FrOk w C E.N fr tmps->wpAny E.P .any l.toArray (Post E F w0 C0 K) l.toArray.size (Array.replicate l.toArray.size false) ⟨tmps,E.ds⟩ w.drew
theorem AAny.code(hm:E.P.follows .mixedOrders=true)(h:AAny E l K fr σ0):ACode E (.region id l.toArray true) K fr σ0:=fun F w0 C0 w C tmps hg hi hf=>wp_region_any hm (h F w0 C0 w C tmps hg hi hf)
theorem Qtc(n:Nat)(J:Array Bool->St->(Nat->Option FV)->Prop)(hm:E.P.follows .mixedOrders=true)(hB:drawB l n=true)(hfb:Qrn (dsts (l.take n)) fr=some frb)(h0:J (Array.replicate l.length false) σ0 (fun _=>none))
  (Qvi:∀(listed:Array Bool) (σ:St) (vals:Nat->Option FV) (i:Nat) (o:Oper),i < n->l[i]?=some o->listed.getD i false=false->listed.size=l.length->(∀e∈o.after.toList,Region.binds .any e=true->listed.getD e.on false=true)->J listed σ vals->
   dstOk E.N o.dst=true/\Q2n E l.toArray o (Q0p l vals o++frb) σ (fun v σ'=>J (listed.setIfInBounds i true) σ' (updV vals i v)) (fun ps σ'=>K (.panic ps) frb σ'))
  (Qvf:∀σ vals,J (Q0d l.length n) σ vals->AOps E l.toArray (l.drop n) K (Q0j vals 0 (l.take n)++frb) σ):AAny E l K fr σ0:=by
 have h3:=Qro hfb;intro F w0 C0 w C tmps hg hi hf;have hn:n < l.length:=by simp only[drawB,Qzc,decide_eq_true_eq]at hB;exact hB.1.1.1.1.1
 have h:=Qp9 (F:=F) (w0:=w0) (C0:=C0) (J:=J) hB (by rw[←h3];exact Qri _ _) Qvi Qvf n (Array.replicate l.toArray.size false) ⟨tmps,E.ds⟩ w.drew (by
   have:∀j,(!(Array.replicate l.toArray.size false).getD j false)=true:=fun j=>by rw[getD_replicate_false];rfl
   simp only[this];rw[Z0e.2 (fun _ _=>rfl),Z19])
  ⟨by simp,fun j oj _ hl=>(by rw[getD_replicate_false]at hl;cases hl),fun t _ ht=>getD_in (by simpa using ht) (getD_replicate_false _ _)⟩
  ⟨rfl,C,σ0,fun _=>none,by simpa using h0,hg.trans (Goes.drew hi).toO,hi.drew.2,⟨hf.1,fun k x hk=>by obtain⟨u,hu,hr⟩:=hf.2 k x (by rw[←h3]at hk;exact (Qrh hk).1);exact⟨u,hu,hr.ext hi.drew.1⟩⟩,fun i o d v _ _ _ hv=>by cases hv⟩
 rw[show n+(l.length - n)=l.toArray.size by simp;omega]at h;exact h
theorem Qtd(n:Nat)(S:List Nat)(vs:List FV)(M:(Nat->Option FV)->St->Prop)(hm:E.P.follows .mixedOrders=true)(hB:drawB l n=true)(hsp:Q2s n l=some (hd,tl))(hfb:Qrn (dsts hd) fr=some frb)(h0:M (fun _=>none) σ0)
  (hM:∀f σ,M f σ->∀i,S.any (fun k=>Nat.beq k i)=false->f i=none)
  (hq:∀i o,i < n->S.any (fun k=>Nat.beq k i)=false->l[i]?=some o->∃v,vs[i]?=some v/\dstOk E.N o.dst=true/\(o.after.toList.all fun e=>!Region.binds .any e||!(S.any fun k=>Nat.beq k e.on))=true/\∀f σ,M f σ->HStep E l.toArray o (depFr l vs o++frb) σ σ v)
  (hs:∀f σ i o,M f σ->S.any (fun k=>Nat.beq k i)=true->l[i]?=some o->f i=none->(∀e∈o.after.toList,Region.binds .any e=true->S.any (fun k=>Nat.beq k e.on)=true->(f e.on).isSome=true)->
   dstOk E.N o.dst=true/\Q2n E l.toArray o (Q0p l (mixV S vs f) o++frb) σ (fun v σ'=>M (updV f i v) σ') (fun ps σ'=>K (.panic ps) frb σ'))
  (Qvf:∀f σ,M f σ->(∀i∈S,i < n->(f i).isSome=true)->AOps E l.toArray tl K (Q0j (mixV S vs f) 0 hd++frb) σ):AAny E l K fr σ0:=by
 obtain⟨hsp1,hsp2⟩:=Q38 hsp;subst hsp1;subst hsp2;have depEq:∀(o:Oper) (v1 v2:Nat->Option FV),(∀e∈o.after.toList,Region.binds .any e=true->v1 e.on=v2 e.on)->Q0p l v1 o=Q0p l v2 o:=fun o v1 v2 h=>by
  unfold Q0p;refine Q1e fun e he=>?_;cases hb:Region.binds .any e with
  |false=>rfl
  |true=>simp only[cond_true];rw[h e he hb]
 refine Qtc n (fun listed σ vals=>listed.size=l.length/\∃f,M f σ/\(∀i,i < n->listed.getD i false=true->vals i=mixV S vs f i)/\(∀i,S.any (fun k=>Nat.beq k i)=true->listed.getD i false=(f i).isSome)) hm hB hfb
  ⟨by simp,_,h0,fun i _ h=>absurd h (by rw[getD_replicate_false];simp),fun i _=>by rw[getD_replicate_false];rfl⟩ ?_ ?_
 ·intro listed σ vals i o hi hlo hun hsz hall ⟨_,f,hMf,hv,hf⟩;have hn:n < l.length:=by have:=hB;simp only[drawB,Qzc,decide_eq_true_eq]at this;exact this.1.1.1.1.1
  have hset:∀(v:FV) j,(listed.setIfInBounds i true).getD j false=if i=j then true else listed.getD j false:=fun _ j=>by
   by_cases e:i=j
   ·subst e;simp[show i < listed.size by omega]
   ·rw[getD_set_ne false e,if_neg e]
  have hlast:∀e∈o.after.toList,Region.binds .any e=true->e.on < n:=fun e he hb=>by have hB2:=hB;simp only[drawB,Qzc,decide_eq_true_eq]at hB2;have h1:=Qzy.1 hB2.2 (o,i) (by rw[Z24];rw[Z0z hi];simpa using hlo);have h2:=Qz4.1 h1 e (by simpa using he);simp only[hb,Qzi,Qzf,decide_eq_true_eq]at h2;omega
  have hdj:Q0p l vals o=Q0p l (mixV S vs f) o:=depEq o _ _ fun e he hb=>hv e.on (hlast e he hb) (hall e he hb);rw[hdj];cases hS:S.any (fun k=>Nat.beq k i) with
  |true=>
   have hfi:f i=none:=by
    have:=hf i hS;rw[hun]at this;cases h:f i with
    |none=>rfl
    |some v=>rw[h]at this;cases this
   obtain⟨k2,k3⟩:=hs f σ i o hMf hS hlo hfi fun e he hb hSe=>by rw[←hf _ hSe];exact hall e he hb
   refine⟨k2,k3.mono fun v σ' k4=>⟨by simp[hsz],updV f i v,k4,fun j hj hlj=>?_,fun j hj=>?_⟩⟩
   ·by_cases e:i=j
    ·subst e;simp[mixV,hS,updV]
    ·rw[hset v,if_neg e]at hlj;rw[updV,if_neg e,hv j hj hlj];simp only[mixV,updV,if_neg e]
   ·rw[hset v];by_cases e:i=j
    ·subst e;simp[updV]
    ·simp only[if_neg e,updV];exact hf j hj
  |false=>
   obtain⟨v,q1,q3,q4,q5⟩:=hq i o hi hS hlo;have hdd:Q0p l (mixV S vs f) o=depFr l vs o:=by
    unfold Q0p depFr;refine Q1e fun e he=>?_;cases hb:Region.binds .any e with
    |false=>rfl
    |true=>
     have h1:=Qzy.1 q4 e he;rw[hb]at h1;simp only[Qzi,Qzf,Qzh]at h1;simp only[cond_true,mixV,h1,cond_false];rfl
   rw[hdd];refine⟨q3,.inl (.inl ⟨v,σ,q5 f σ hMf,by simp[hsz],f,hMf,fun j hj hlj=>?_,fun j hj=>?_⟩)⟩
   ·by_cases e:i=j
    ·subst e;rw[updV,if_pos rfl];simp only[mixV,hS,cond_false];exact q1.symm
    ·rw[hset v,if_neg e]at hlj;rw[updV,if_neg e,hv j hj hlj]
   ·rw[hset v];by_cases e:i=j
    ·subst e;rw[hS]at hj;cases hj
    ·simp only[if_neg e];exact hf j hj
 ·intro σ vals ⟨_,f,hMf,hv,hf⟩;have hn:n < l.length:=by have:=hB;simp only[drawB,Qzc,decide_eq_true_eq]at this;exact this.1.1.1.1.1
  have hl:∀j,j < n->(Q0d l.length n).getD j false=true:=fun j hj=>by
   have:j < (Q0d l.length n).size:=by simp[Q0d];omega
   simp[Q0d,show j < l.length by omega,hj]
  have heq:Q0j vals 0 (l.take n)=Q0j (mixV S vs f) 0 (l.take n):=by
   have:∀(os:List Oper) (k:Nat),k+os.length<=n->Q0j vals k os=Q0j (mixV S vs f) k os:=by
    intro os
    induction os with
    |nil=>intro k _;rfl
    |cons o os ih=>
     intro k hk;simp only[Z13]at hk;simp only[Q0j];rw[hv k zoy (hl k zoy),ih (k+1) zoy]
   exact this _ 0 zuy
  rw[heq];exact Qvf f σ hMf fun i hi hin=>by rw[←hf i (Z00.2 ⟨i,hi,Q4f i⟩)];exact hl i hin
end
def Q0g (E:Env)(ops:Array Oper)(l:List Oper)(frb:Fr)(σ:St)(cs:List (Nat×FV)):Nat->List Oper->List FV->Option (List FV)
 |_,[],_=>some []
 |k,o::os,acc=>bif dstOk E.N o.dst then
   (match lookC k cs with
   |some v=>Q4c (acc++[v]) fun acc'=>(match Q0g E ops l frb σ cs (k+1) os acc' with|some vs=>some (v::vs)|none=>none)
   |none=>bif Q8s o.op then Q4c (depFr l acc o++frb) fun fr=>(match aHead E ops o fr σ with
    |some (v,_)=>Q4c (acc++[v]) fun acc'=>(match Q0g E ops l frb σ cs (k+1) os acc' with|some vs=>some (v::vs)|none=>none)
    |none=>none)else none)else none
theorem Q8q{E:Env}{l:List Oper}{frb:Fr}{σ:St}{cs:List (Nat×FV)}{n:Nat}{vs:List FV}(hT:TabOk E.P E.T)(hall:∀k o,l[k]?=some o->k < n->o.after.all (fun e=>!Region.binds .any e||decide (e.on < k))=true):
  ∀(os:List Oper) (k:Nat) (acc ws:List FV),acc.length=k->(∀i o,os[i]?=some o->l[k+i]?=some o/\k+i < n)->Q0g E l.toArray l frb σ cs k os acc=some ws->acc++ws=vs->
  ∀i o,os[i]?=some o->∃v,ws[i]?=some v/\dstOk E.N o.dst=true/\(lookC (k+i) cs=some v∨(lookC (k+i) cs=none/\HStep E l.toArray o (depFr l vs o++frb) σ σ v))
 |[],k,acc,ws,_,_,_,_,i,o,hi=>by simp at hi
 |o::os,k,acc,ws,hl,hos,h,hv,i,o',hi=>by
  have ho:=hos 0 o rfl;simp only[Z2t]at ho;simp only[Q0g,Q1b]at h;cases hb:dstOk E.N o.dst with
  |false=>rw[hb]at h;cases h
  |true=>
   rw[hb]at h;simp only[cond_true]at h;have rest:∀{v:FV},(match Q0g E l.toArray l frb σ cs (k+1) os (acc++[v]) with|some vs=>some (v::vs)|none=>none)=some ws->(lookC k cs=some v∨(lookC k cs=none/\HStep E l.toArray o (depFr l vs o++frb) σ σ v))->
     ∃v,ws[i]?=some v/\dstOk E.N o'.dst=true/\(lookC (k+i) cs=some v∨(lookC (k+i) cs=none/\HStep E l.toArray o' (depFr l vs o'++frb) σ σ v)):=by
    intro v h Qx9;split at h
    ·rename_i ws' hw;simp only[Z3o]at h;subst h;cases i with
     |zero=>
      simp at hi;subst hi;exact⟨v,rfl,hb,Qx9⟩
     |succ i=>
      have:=Q8q hT hall os (k+1) (acc++[v]) ws' (by simp[hl]) (fun i o hi=>by have:=hos (i+1) o hi;rw[show k+1+i=k+(i+1) by omega];exact this) hw (by simpa using hv) i o' (by simpa using hi);rw[show k+1+i=k+(i+1) by omega]at this;simpa using this
    ·cases h
   cases hc:lookC k cs with
   |some v=>
    rw[hc]at h;exact rest h (.inl hc)
   |none=>
    rw[hc]at h;simp only at h;cases hp:Q8s o.op with
    |false=>rw[hp]at h;cases h
    |true=>
     rw[hp]at h;simp only[cond_true]at h;split at h
     ·rename_i v σ' ha;have Qvw:depFr l vs o=depFr l acc o:=by have:∃r,vs=acc++r:=⟨ws,hv.symm⟩;obtain⟨r,rfl⟩:=this;exact Q4d (by rw[hl];exact hall k o ho.1 ho.2)
      have hσ:σ'=σ:=by
       have key:∀{y:FV}{τ:St},(match aOp E.T E.Γ o.op (depFr l acc o++frb) σ with|some (some x,σ')=>some (x,σ')|_=>none)=some (y,τ)->τ=σ:=by
        intro y τ h;split at h
        ·rename_i h1;simp only[Z3o,Z3p]at h;obtain⟨rfl,rfl⟩:=h;exact Q9l hp h1
        ·cases h
       unfold aHead at ha;split at ha
       ·exact key ha
       ·split at ha
        ·split at ha
         ·exact key ha
         ·exact key ha
         ·cases ha;rfl
         ·cases ha;rfl
         ·cases ha;rfl
         ·cases ha
        ·cases ha
      subst hσ;have hs:=Qzr (ops:=l.toArray) hT ha;rw[←Qvw]at hs;exact rest h (.inr ⟨hc,hs⟩)
     ·cases h
section
variable {E:Env}{l:List Oper}{frb:Fr}{K:Cont}
theorem AAny.drawC2(hT:TabOk E.P E.T)(n:Nat)(S:List Nat)(cs:List (Nat×FV))(G:List FV->St->Prop)(hm:E.P.follows .mixedOrders=true)(hB:drawB l n=true)(hsp:Q2s n l=some (hd,tl))(hfb:Qrn (dsts hd) fr=some frb)
  (hn:S.Nodup) (hch:chainB l S=true) (hqb:Q8r l S n=true) (h0:G [] σ0) (Qvk:Q0g E l.toArray l frb σ0 (S.map (fun i=>(i,FV.bot))++cs) 0 hd []=some vs0)
  (hrun:∀vs σ,G vs σ->Q0g E l.toArray l frb σ (S.map (fun i=>(i,FV.bot))++cs) 0 hd []=some vs0) (hcs:∀vs σ,G vs σ->Q09 E l frb σ vs0 cs) (hSl:∀i∈S,i < n)
  (hs:∀vs σ,G vs σ->∀i o,S[vs.length]?=some i->l[i]?=some o->dstOk E.N o.dst=true/\Q2n E l.toArray o (Q0p l (mixV S vs0 (fC S vs)) o++frb) σ (fun v σ'=>G (vs++[v]) σ') (fun ps σ'=>K (.panic ps) frb σ'))
  (Qvf:∀vs σ,vs.length=S.length->G vs σ->AOps E l.toArray tl K (Q0j (mixV S vs0 (fC S vs)) 0 hd++frb) σ):AAny E l K fr σ0:=by
 have hnl:n < l.length:=by have:=hB;simp only[drawB,Qzc,decide_eq_true_eq]at this;exact this.1.1.1.1.1
 have hlast:∀k o,l[k]?=some o->k < n->o.after.all (fun e=>!Region.binds .any e||decide (e.on < k))=true:=fun k o hk hkn=>by have hB2:=hB;simp only[drawB,Qzc,decide_eq_true_eq]at hB2;exact Qzy.1 hB2.2 (o,k) (by rw[Z24,Z0z hkn];simpa using hk)
 obtain⟨hsp1,hsp2⟩:=Q38 hsp;refine Qtd n S vs0 (fun f σ=>∃vs,vs.length<=S.length/\f=fC S vs/\G vs σ) hm hB hsp hfb ⟨[],by simp,by funext i;cases S <;> rfl,h0⟩ (fun f σ ⟨vs,_,hf,_⟩ i hi=>by rw[hf];exact Qdf hi) ?_ ?_ ?_
 ·intro i o hi hS hlo;have hio:hd[i]?=some o:=by rw[←hsp1,Z0z hi];exact hlo
  have key:∀vs σ,G vs σ->∃v,vs0[i]?=some v/\dstOk E.N o.dst=true/\HStep E l.toArray o (depFr l vs0 o++frb) σ σ v:=fun vs σ hG=>by
   obtain⟨v,h1,h3,h4⟩:=Q8q (vs:=vs0) hT hlast hd 0 [] vs0 rfl (fun i o hi=>by
    have hi2:i < n:=by have:=(Z0v.1 hi).1;rw[←hsp1]at this;simp at this;omega
    rw[←hsp1,Z0z hi2]at hi;exact⟨by simpa using hi,by omega⟩) (hrun vs σ hG) (Z25 _) i o hio
   rw[Z3a]at h4;refine⟨v,h1,h3,?_⟩;rcases h4 with h4|h4
   ·have hl:lookC i cs=some v:=by
     have:∀{S:List Nat},(S.any fun k=>Nat.beq k i)=false->lookC i (S.map (fun i=>(i,FV.bot))++cs)=lookC i cs:=fun {S} hS=>by
      induction S with
      |nil=>rfl
      |cons s S ih=>
       simp only[List.any_cons,Qzj]at hS;simp only[Z1g,Z03,lookC,hS.1,cond_false];exact ih hS.2
     rw[this hS]at h4;exact h4
    obtain⟨o',ho',hst⟩:=(hcs vs σ hG).get hl;rw[hlo]at ho';cases ho';exact hst
   ·exact h4.2
  have hq:(o.after.toList.all fun e=>!Region.binds .any e||!(S.any fun k=>Nat.beq k e.on))=true:=by have h1:=Qzy.1 hqb (o,i) (by rw[Z24,Z0z hi];simpa using hlo);have h2:inS S i=false:=hS;simp only[h2,Qzf]at h1;exact h1
  obtain⟨v,h1,h3,_⟩:=key [] σ0 h0;refine⟨v,h1,h3,hq,fun f σ ⟨vs,_,_,hG⟩=>?_⟩;obtain⟨v',h1',_,h4⟩:=key vs σ hG;rw[h1]at h1';cases h1';exact h4
 ·rintro f σ i o ⟨vs,hlen,rfl,hG⟩ hS hlo hfi Qvw;obtain⟨s,hsS,he⟩:=Z00.1 hS;obtain rfl:s=i:=Z2v he;obtain⟨p,hp⟩:=Z1v.1 hsS;have hpS:=(Z0v.1 hp).1;have hpv:p=vs.length:=by
   rcases Nat.lt_trichotomy p vs.length with h1|h1|h1
   ·rw[Qde hn hp h1]at hfi;have:=(List.getElem?_eq_none_iff.1 hfi);omega
   ·exact h1
   ·exfalso;obtain⟨q,rfl⟩:∃q,p=q+1:=⟨p - 1,by omega⟩;obtain⟨i0,hi0⟩:∃i0,S[q]?=some i0:=⟨S[q],Z0t zoy⟩;obtain⟨e,he,hb,heo⟩:=Qfd hch hi0 hp hlo;have h2:=Qvw e he hb (by rw[heo];exact Z00.2 ⟨i0,Z1y hi0,by simp⟩);rw[heo,Qio hn hi0 zoy]at h2;cases h2
  subst hpv;obtain⟨k2,k3⟩:=hs vs σ hG s o hp hlo;exact⟨k2,k3.mono fun v σ' hG'=>⟨vs++[v],by simp;omega,fC_upd hn hp,hG'⟩⟩
 ·rintro f σ ⟨vs,hlen,rfl,hG⟩ hall;refine Qvf vs σ ?_ hG;rcases Z33 vs.length S.length with h1|h1
  ·exfalso;obtain⟨i0,hi0⟩:∃i0,S[vs.length]?=some i0:=⟨S[vs.length],Z0t h1⟩;have hm:=Z1y hi0;have:=hall i0 hm (hSl i0 hm);rw[Qio hn hi0 (Z30 _)]at this;cases this
  ·omega
theorem ACode.drawC2{id:Nat}{fr:Fr}{σ0:St}{hd tl:List Oper}{vs0:List FV}(hT:TabOk E.P E.T)(n:Nat)(S:List Nat)(cs:List (Nat×FV))(G:List FV->St->Prop)(hm:E.P.follows .mixedOrders=true)(hB:drawB l n=true)(hsp:Q2s n l=some (hd,tl))(hfb:Qrn (dsts hd) fr=some frb)
  (hn:S.Nodup) (hch:chainB l S=true) (hqb:Q8r l S n=true) (h0:G [] σ0) (Qvk:Q0g E l.toArray l frb σ0 (S.map (fun i=>(i,FV.bot))++cs) 0 hd []=some vs0)
  (hrun:∀vs σ,G vs σ->Q0g E l.toArray l frb σ (S.map (fun i=>(i,FV.bot))++cs) 0 hd []=some vs0) (hcs:∀vs σ,G vs σ->Q09 E l frb σ vs0 cs) (hSl:∀i∈S,i < n)
  (hs:∀vs σ,G vs σ->∀i o,S[vs.length]?=some i->l[i]?=some o->dstOk E.N o.dst=true/\Q2n E l.toArray o (Q0p l (mixV S vs0 (fC S vs)) o++frb) σ (fun v σ'=>G (vs++[v]) σ') (fun ps σ'=>K (.panic ps) frb σ'))
  (Qvf:∀vs σ,vs.length=S.length->G vs σ->AOps E l.toArray tl K (Q0j (mixV S vs0 (fC S vs)) 0 hd++frb) σ):ACode E (.region id l.toArray true) K fr σ0:=AAny.code hm (AAny.drawC2 hT n S cs G hm hB hsp hfb hn hch hqb h0 Qvk hrun hcs hSl hs Qvf)
end
end Go.Abs
namespace Go.Abs
section
variable {E:Env}{o:Oper}{fr:Fr}{σ:St}{t t' T0 el yt:TypeId}{x y:Operand}
theorem Qte(hc:E.P.concrete t=true)(ho:o.op=.makeInterface t x)(hx:aEval E.Γ fr x=some (.one c)):AStep E o fr σ (.one (.ifc t false [c])) σ:=by refine Qqz fun F w C tmps hi hf=>?_;have h1:=Q01 (a:=⟨tmps,E.ds⟩) hi hf hx;refine⟨.iface t (Act.eval ⟨tmps,E.ds⟩ x),?_,[Act.eval ⟨tmps,E.ds⟩ x],⟨_,[],rfl,h1,rfl⟩,.inr ⟨rfl,_,rfl,rfl⟩⟩;unfold execOp;simp[ho,run_makeInterface w t _ hc]
theorem Qtf(hc:E.P.concrete t=true)(ho:o.op=.makeInterface t x)(hx:aEval E.Γ fr x=some (.agg cs)):AStep E o fr σ (.one (.ifc t true cs)) σ:=by refine Qqz fun F w C tmps hi hf=>?_;obtain⟨xs,h1,h2⟩:=Q01 (a:=⟨tmps,E.ds⟩) hi hf hx;refine⟨.iface t (.agg xs.toArray),?_,xs,h2,.inl ⟨rfl,rfl⟩⟩;unfold execOp;simp[ho,h1,run_makeInterface w t _ hc]
theorem Qb8(w:World)(hd:P.underlying t=some d)(hc:P.concrete t=true)(v:Value):(Instr.typeAssert (.iface t v) T0 t true).run P w=.ok (.tuple #[v,.bool true]) w:=by unfold Program.concrete at hc;rw[hd]at hc;cases d <;> first|(simp at hc;done)|simp[Instr.typeAssert,run_underlying hd]
theorem Qcp(w:World)(hd:P.underlying t=some d)(hc:P.concrete t=true)(hu:u=.nilIface∨∃t' v,u=.iface t' v/\t'≠t)(hz:(zeroValue t).run P w=.ok z w):
  (Instr.typeAssert u T0 t true).run P w=.ok (.tuple #[z,.bool false]) w:=by
 unfold Program.concrete at hc;rw[hd]at hc;rcases hu with rfl|⟨t',v,rfl,hne⟩
 ·cases d <;> first|(simp at hc;done)|simp[Instr.typeAssert,run_underlying hd,hz]
 ·cases d <;> first|(simp at hc;done)|simp[Instr.typeAssert,run_underlying hd,hz,hne]
theorem Q51(hc:P.concrete t=true):∃d,P.underlying t=some d:=by
 unfold Program.concrete at hc;cases h:P.underlying t with
 |none=>rw[h]at hc;cases hc
 |some d=>exact⟨d,rfl⟩
theorem Qtg(hc:E.P.concrete t=true)(ho:o.op=.typeAssert x T0 t true)(hx:aEval E.Γ fr x=some (.one (.ifc t false [c]))):AStep E o fr σ (.tup [.one c,.one (.lit (.bool true))]) σ:=by
 refine Qqz fun F w C tmps hi hf=>?_;obtain⟨d,hd⟩:=Q51 hc;obtain⟨xs,h1,h2⟩:=Q01 (a:=⟨tmps,E.ds⟩) hi hf hx;simp only[RV]at h1;obtain⟨u,us,rfl,h3,rfl⟩:=h1;rcases h2 with ⟨h2,_⟩|⟨_,v,hv,h2⟩
 ·cases h2
 ·cases hv;refine⟨.tuple #[u,.bool true],?_,[u,.bool true],rfl,u,[.bool true],rfl,h3,.bool true,[],rfl,⟨rfl,rfl⟩,rfl⟩;unfold execOp;simp[ho,h2,Qb8 w hd hc]
theorem Qth(hc:E.P.concrete t=true)(ho:o.op=.typeAssert x T0 t true)(hz:∀w,(zeroValue t).run E.P w=.ok z w)(h1z:z.oneCell'=true)(hx:aEval E.Γ fr x=some (.one c))
  (hno:c=.lit .nilIface∨∃t' ag cs,c=.ifc t' ag cs/\Nat.beq t' t=false):AStep E o fr σ (.tup [.one (.lit z),.one (.lit (.bool false))]) σ:=by
 refine Qqz fun F w C tmps hi hf=>?_;obtain⟨d,hd⟩:=Q51 hc;have h1:=Q01 (a:=⟨tmps,E.ds⟩) hi hf hx;refine⟨.tuple #[z,.bool false],?_,[z,.bool false],rfl,z,[.bool false],rfl,⟨rfl,h1z⟩,.bool false,[],rfl,⟨rfl,rfl⟩,rfl⟩;have hu:Act.eval ⟨tmps,E.ds⟩ x=.nilIface∨∃t' v,Act.eval ⟨tmps,E.ds⟩ x=.iface t' v/\t'≠t:=by
  rcases hno with rfl|⟨t',ag,cs,rfl,hne⟩
  ·exact .inl h1.1
  ·obtain⟨xs,_,h2⟩:=h1;have Qxm:t'≠t:=fun e=>by subst e;simp at hne
   rcases h2 with ⟨_,h2⟩|⟨_,v,_,h2⟩
   ·exact .inr ⟨t',_,h2,Qxm⟩
   ·exact .inr ⟨t',_,h2,Qxm⟩
 unfold execOp;simp[ho,Qcp w hd hc hu (hz w)]
theorem Qti(ht:E.P.underlying t=some (.pointer el))(ho:o.op=.binOp .neq t x y yt)(hx:aEval E.Γ fr x=some (.one (.box cs)))(hy:aEval E.Γ fr y=some (.one (.lit (.pointer none)))):AStep E o fr σ (.one (.lit (.bool true))) σ:=by refine Qqz fun F w C tmps hi hf=>⟨.bool true,?_,rfl,rfl⟩;obtain⟨ad,h1,_⟩:=Q01 (a:=⟨tmps,E.ds⟩) hi hf hx;have h2:=Q01 (a:=⟨tmps,E.ds⟩) hi hf hy;simp only[RF,R]at h2;unfold execOp;simp only[ho,h1,h2.1,eqGuard_at_pointer,Z3s,Z3t,Z3r];simp[binOp,Q1j _ _ _ _ ht]
theorem Qtj(ht:E.P.underlying t=some (.pointer el))(ho:o.op=.binOp .eql t x y yt)(hx:aEval E.Γ fr x=some (.one (.box cs)))(hy:aEval E.Γ fr y=some (.one (.lit (.pointer none)))):AStep E o fr σ (.one (.lit (.bool false))) σ:=by refine Qqz fun F w C tmps hi hf=>⟨.bool false,?_,rfl,rfl⟩;obtain⟨ad,h1,_⟩:=Q01 (a:=⟨tmps,E.ds⟩) hi hf hx;have h2:=Q01 (a:=⟨tmps,E.ds⟩) hi hf hy;simp only[RF,R]at h2;unfold execOp;simp only[ho,h1,h2.1,eqGuard_at_pointer,Z3s,Z3t,Z3r];simp[binOp,Q1j _ _ _ _ ht]
end
def AFnP (P:Program)(Γ:List (Nat×List AC))(g:Nat)(args:List FV)(ou:Outer)(Q:FV->Outer->Prop)(QP:List PanicEntry->Outer->Prop):Prop:=
 (∀(as':Array Value) (w:World),(callFunc g as').run P w=.ok (.enter g as') w)/\
 ∀(F:Nat->Prop) (w:World) (C:Ctx) (cargs:List Value),C.nl=0->Inv Γ F w C ⟨0,[],ou⟩->RFs w C args cargs->Calls P g cargs.toArray w fun e w'=>
  (∃v r ou' C',e=.returned v/\Goes F isO w C w' C'/\C'.nl=0/\Inv Γ F w' C' ⟨0,[],ou'⟩/\RF w' C' r v/\Q r ou') ∨
  (∃ps ou' C',e=.panicked ps/\Goes F isO w C w' C'/\C'.nl=0/\Inv Γ F w' C' ⟨0,[],ou'⟩/\QP ps ou')
theorem Qtk{ag:Bool}(hgd:o.guard=none)(ho:o.op=.panic x)(hx:aEval E.Γ fr x=some (.one (.ifc t ag cs)))
  (h:∀(w:World) (C:Ctx) (v:Value),R w C (.ifc t ag cs) v->K (.panic [{ v:=v,recovered:=false }]) fr σ):AOps E ops (o::rest) K fr σ:=by
 intro F w0 C0 w C tmps hg hi hf;refine wpList_plain hgd fun N' hN=>?_;have h1:=Q01 (a:=⟨tmps,E.ds⟩) hi hf hx;have hv:∃u,Act.eval ⟨tmps,E.ds⟩ x=.iface t u:=by obtain⟨xs,_,⟨_,h2⟩|⟨_,v,_,h2⟩⟩:=h1 <;> exact⟨_,h2⟩
 obtain⟨u,hu⟩:=hv;have hrun:(execOp (Act.eval ⟨tmps,E.ds⟩) o).run E.P w=.halt (.panic (.iface t u)) w:=by unfold execOp;simp only[ho,hu];simp[Instr.panic,goPanic]
 unfold Oper.wp;rw[hrun,Oper.upon_panic];exact⟨rfl,fr,σ,C,hg,hi,hf,h w C _ (by rw[←hu];exact h1)⟩
theorem AFnP.ofBody{c:Code}{args:List FV}(hT:TabOk P T)(hΓ:GI Γ)(hf:P.funcs[g]?=some fn)(hb:fn.body=some c)(hname:(fn.name == "runtime.NumGoroutine")=false)
  (hlen:args.length<=fn.ntmps)
  (h:OuOk ou->ACode ⟨P,T,Γ,fn.ntmps,[]⟩ c (Q05 ⟨P,T,Γ,fn.ntmps,[]⟩ (Fin ⟨P,T,Γ,fn.ntmps,[]⟩ fn Q) [.pan fun ps σ=>OuOk σ.ou/\QP ps σ.ou]) (argFr 0 args) ⟨0,[],ou⟩):AFnP P Γ g args ou Q QP:=by
 refine⟨fun as' w=>?_,fun F w C cargs h0 hi hr=>?_⟩
 ·simp[callFunc,hf,hb];simpa using hname
 ·have hcl:cargs.length=args.length:=by
   have:∀(vs:List FV) (xs:List Value),RFs w C vs xs->xs.length=vs.length:=by
    intro vs
    induction vs with
    |nil=>intro xs h;simp only[RFs]at h;simp[h]
    |cons v vs ih=>intro xs h;simp only[RFs]at h;obtain⟨u,us,rfl,_,h2⟩:=h;simp[ih us h2]
   exact this _ _ hr
  refine calls_of_wp hf hb ?_;have hfr:FrOk w C fn.ntmps (argFr 0 args) (cargs.toArray++Array.replicate (fn.ntmps - cargs.toArray.size) undef):=by refine⟨by simp;omega,fun k x hk=>?_⟩;obtain⟨_,h2⟩:=Q5v args 0 k x hk;simp only[Z38]at h2;obtain⟨u,hu,hru⟩:=RFs.get hr h2;refine⟨u,?_,hru⟩;have hlt:k < cargs.length:=(Z0v.1 hu).1;rw[Qz8 (by simpa using hlt)];simpa using hu
  refine wp_mono (h (Qqw hi h0) F w C w C _ (Goes.refl _ _ _ _) hi hfr) fun e a w' hp=>?_;obtain⟨hd,fr',σ',C',hgo,hi',hf',hk⟩:=hp;have hc:Chg isO w' C' w' { C' with nl:=0 }:=⟨fun _ _=>rfl,fun _ h=>h,fun i hp ho=>⟨by cases i with|l k=>cases hp|o k=>exact ho,rfl,rfl⟩⟩;have hc0:∀i,C.ok i->isO i:=Q4l h0;have drop:OuOk σ'.ou->Inv Γ F w' { C' with nl:=0 } ⟨0,[],σ'.ou⟩:=fun h4=>by
   refine⟨hi'.base,rfl,fun g cs hm=>?_,hi'.prot,fun i o ho=>?_,fun i j o o' g k1 k2 k3 k4=>?_⟩
   ·have:=hi'.glob g cs hm;exact RG.chg hc (hΓ g cs hm) this
   ·cases i with
    |l k=>cases ho
    |o k=>
     obtain⟨k1,k2⟩:=hi'.obj (.o k) o ho;exact⟨k1,k2.ctx isO (h4 k o ho) trivial k1 hc (fun _ h=>h) (fun _ h=>h)⟩
   ·cases i with
    |l k=>cases k1
    |o k=>cases j with
     |l k=>cases k2
     |o k'=>
      have e1:=Qqx (o:=o) isO (i:=.o k) trivial (hi'.obj (.o k) o k1).1 hc;have e2:=Qqx (o:=o') isO (i:=.o k') trivial (hi'.obj (.o k') o' k2).1 hc;exact hi'.inj (.o k) (.o k') o o' g k1 k2 (by rw[←e1];exact k3) (by rw[←e2];exact k4)
  have fin:Fin ⟨P,T,Γ,fn.ntmps,[]⟩ fn Q fr' σ'->a.defers=[]/\∃v,(results fn a.tmps).run P w'=.ok v w'/\((∃v' r ou' C',Ending.returned v=.returned v'/\Goes F isO w C w' C'/\C'.nl=0/\Inv Γ F w' C' ⟨0,[],ou'⟩/\RF w' C' r v'/\Q r ou') ∨
    (∃ps ou' C',Ending.returned v=.panicked ps/\Goes F isO w C w' C'/\C'.nl=0/\Inv Γ F w' C' ⟨0,[],ou'⟩/\QP ps ou')):=by
   rintro⟨r,r',h1,h2,h3,h4,h5⟩;obtain⟨u,hu,hru⟩:=Qgu (tmps:=a.tmps) hT hi' hf' h1;exact⟨hd,u,hu,.inl ⟨u,r',σ'.ou,{ C' with nl:=0 },rfl,⟨hgo.stp,hgo.chg.trans hc,hgo.no,hgo.newp⟩,rfl,drop h4,RF.chg hc r' u h3 (h2 _ _ _ hru),h5⟩⟩
  cases e with
  |normal=>exact fin hk
  |ret=>exact fin hk
  |panic ps=>exact⟨hd,.inr ⟨ps,σ'.ou,{ C' with nl:=0 },rfl,⟨hgo.stp,hgo.chg.trans hc,hgo.no,hgo.newp⟩,rfl,drop hk.1,hk.2⟩⟩
  |exit id=>exact hk.elim
  |goto l=>exact hk.elim
  |outgrown=>exact hk.elim
theorem AFnP.walk{c:Code}{args:List FV}(N:Nat)(hT:TabOk P T)(hΓ:GI Γ)(hf:P.funcs[g]?=some fn)(hb:fn.body=some c)(hname:(fn.name == "runtime.NumGoroutine")=false)
  (hN:fn.ntmps=N) (hlen:Nat.ble args.length N=true) (h:OuOk ou->ACode ⟨P,T,Γ,N,[]⟩ c (Q05 ⟨P,T,Γ,N,[]⟩ (Fin ⟨P,T,Γ,N,[]⟩ fn Q) [.pan fun ps σ=>OuOk σ.ou/\QP ps σ.ou]) (argFr 0 args) ⟨0,[],ou⟩):AFnP P Γ g args ou Q QP:=by
 subst hN;exact AFnP.ofBody hT hΓ hf hb hname (Z2x hlen) h
theorem Qgw(h:((P.info? t).bind (·.zero))=some z)(w:World):(zeroValue t).run P w=.ok z w:=by
 cases hi:P.info? t with
 |none=>rw[hi]at h;cases h
 |some i=>rw[hi]at h;simp only[Z3h]at h;simp[zeroValue,typeInfo,hi,h]
end Go.Abs
namespace Go.Abs
def adI (a b:Int):Int:=bI (BitVec.ofInt 64 a &&& BitVec.ofInt 64 b)
theorem AStep.and{E:Env}{o:Oper}{fr:Fr}{σ:St}{t yt:TypeId}{x y:Operand}{a b:Int}(ho:o.op=.binOp .and t x y yt)(hx:aEval E.Γ fr x=some (.one (.lit (.int .i64 a))))(hy:aEval E.Γ fr y=some (.one (.lit (.int .i64 b)))):AStep E o fr σ (.one (.lit (.int .i64 (adI a b)))) σ:=by refine Qqz fun F w C tmps hi hf=>⟨.int .i64 (adI a b),?_,rfl,rfl⟩;have h1:=Q01 (a:=⟨tmps,E.ds⟩) hi hf hx;have h2:=Q01 (a:=⟨tmps,E.ds⟩) hi hf hy;simp only[RF,R]at h1 h2;unfold execOp;simp only[ho,h1.1,h2.1,eqGuard_at_int,Z3s,Z3t,Z3r];rfl
theorem Qqa(a:Int):adI a 2147483647=a % 2147483648:=by
 have h1:(BitVec.ofInt 64 a &&& BitVec.ofInt 64 2147483647).toNat=(a % 2147483648).toNat:=by rw[BitVec.toNat_and,show (BitVec.ofInt 64 2147483647).toNat=2 ^ 31 - 1 by decide,Nat.and_two_pow_sub_one_eq_mod];rw[BitVec.toNat_ofInt];have h2:a % 2147483648=a % 18446744073709551616 % 2147483648:=(Int.emod_emod_of_dvd a zdy).symm;rw[h2];have h3:0<=a % 18446744073709551616:=Int.emod_nonneg _ zdy;rw[show ((2 ^ 64:Nat):Int)=18446744073709551616 by decide];omega
 unfold adI bI;rw[h1];have h4:0<=a % 2147483648:=Int.emod_nonneg _ zdy;have h5:a % 2147483648 < 2147483648:=Int.emod_lt_of_pos _ zdy;simp[IntKind.wrap,IntKind.signed,IntKind.bits,Int.bmod];omega
section
variable {E:Env}{l:List Oper}{frb:Fr}{K:Cont}
theorem AAny.drawSt{op:Oper}(hT:TabOk E.P E.T)(n p:Nat)(cs:List (Nat×FV))(s1:St)(hm:E.P.follows .mixedOrders=true)(hB:drawB l n=true)(hsp:Q2s n l=some (hd,tl))(hfb:Qrn (dsts hd) fr=some frb)
  (hqb:Q8r l [p] n=true) (Qvk:Q0g E l.toArray l frb σ0 ((p,.bot)::cs) 0 hd []=some vs0) (Qvx:Q0g E l.toArray l frb s1 ((p,.bot)::cs) 0 hd []=some vs0) (hop:l[p]?=some op) (hpn:Nat.blt p n=true) (hgd:op.guard=none) (hd0:dstOk E.N op.dst=true)
  (Qwb:Q09 E l frb σ0 vs0 cs) (Qwc:Q09 E l frb s1 vs0 cs) (hst:AStep E op (Q0p l (mixV [p] vs0 (fC [p] [])) op++frb) σ0 .bot s1) (Qvf:AOps E l.toArray tl K (Q0j (mixV [p] vs0 (fC [p] [.bot])) 0 hd++frb) s1):AAny E l K fr σ0:=by
 refine AAny.drawC2 hT n [p] cs (fun vs σ=>match vs with|[]=>σ=σ0|[v]=>v=.bot/\σ=s1|_=>False) hm hB hsp hfb zsy rfl hqb rfl Qvk ?_ ?_ (fun i hi=>by simp at hi;subst hi;exact Z2x (show Nat.ble (i+1) n=true from hpn)) ?_ ?_
 ·intro vs σ h
  match vs with
  |[]=>subst h;exact Qvk
  |[_]=>obtain⟨_,rfl⟩:=h;exact Qvx
  |_::_::_=>exact h.elim
 ·intro vs σ h
  match vs with
  |[]=>subst h;exact Qwb
  |[_]=>obtain⟨_,rfl⟩:=h;exact Qwc
  |_::_::_=>exact h.elim
 ·intro vs σ h i o hi ho
  match vs with
  |[]=>
   subst h;cases hi;rw[hop]at ho;cases ho;exact⟨hd0,.inl (.inl ⟨.bot,s1,by unfold HStep;rw[hgd];exact hst,rfl,rfl⟩)⟩
  |_::_=>cases hi
 ·intro vs σ hl h
  match vs with
  |[_]=>obtain⟨rfl,rfl⟩:=h;exact Qvf
  |[]=>cases hl
  |_::_::_=>exact h.elim
theorem ACode.drawSt{id:Nat}{fr:Fr}{σ0:St}{hd tl:List Oper}{vs0:List FV}{op:Oper}(hT:TabOk E.P E.T)(n p:Nat)(cs:List (Nat×FV))(s1:St)(hm:E.P.follows .mixedOrders=true)(hB:drawB l n=true)(hsp:Q2s n l=some (hd,tl))(hfb:Qrn (dsts hd) fr=some frb)
  (hqb:Q8r l [p] n=true) (Qvk:Q0g E l.toArray l frb σ0 ((p,.bot)::cs) 0 hd []=some vs0) (Qvx:Q0g E l.toArray l frb s1 ((p,.bot)::cs) 0 hd []=some vs0) (hop:l[p]?=some op) (hpn:Nat.blt p n=true) (hgd:op.guard=none) (hd0:dstOk E.N op.dst=true)
  (Qwb:Q09 E l frb σ0 vs0 cs) (Qwc:Q09 E l frb s1 vs0 cs) (hst:AStep E op (Q0p l (mixV [p] vs0 (fC [p] [])) op++frb) σ0 .bot s1) (Qvf:AOps E l.toArray tl K (Q0j (mixV [p] vs0 (fC [p] [.bot])) 0 hd++frb) s1):ACode E (.region id l.toArray true) K fr σ0:=AAny.code hm (AAny.drawSt hT n p cs s1 hm hB hsp hfb hqb Qvk Qvx hop hpn hgd hd0 Qwb Qwc hst Qvf)
theorem AAny.drawCS{oc oa ob op:Oper}(hT:TabOk E.P E.T)(n pc a b p:Nat)(X Y:FV)(cs:List (Nat×FV))(P P2:FV->St->Prop)(hm:E.P.follows .mixedOrders=true)(hB:drawB l n=true)(hsp:Q2s n l=some (hd,tl))(hfb:Qrn (dsts hd) fr=some frb)
  (hnd:[pc,a,b,p].Nodup) (hch:chainB l [pc,a,b,p]=true) (hqb:Q8r l [pc,a,b,p] n=true) (Qvk:Q0g E l.toArray l frb σ0 ([(pc,.bot),(a,.bot),(b,.bot),(p,.bot)]++cs) 0 hd []=some vs0) (hoc:l[pc]?=some oc) (hoa:l[a]?=some oa) (hob:l[b]?=some ob) (hop:l[p]?=some op)
  (hn:([pc,a,b,p].all fun i=>Nat.blt i n)=true) (hds:([oc,oa,ob,op].all fun o=>dstOk E.N o.dst&&o.guard.isNone)=true)
  (Qw2:∀v σ,P v σ->Q0g E l.toArray l frb σ ([(pc,.bot),(a,.bot),(b,.bot),(p,.bot)]++cs) 0 hd []=some vs0) (Qws:∀v σ,P2 v σ->Q0g E l.toArray l frb σ ([(pc,.bot),(a,.bot),(b,.bot),(p,.bot)]++cs) 0 hd []=some vs0)
  (Qwb:Q09 E l frb σ0 vs0 cs) (Qwt:∀v σ,P v σ->Q09 E l frb σ vs0 cs) (Qy0:∀v σ,P2 v σ->Q09 E l frb σ vs0 cs)
  (hcall:Q4k E oc (Q0p l (mixV [pc,a,b,p] vs0 (fC [pc,a,b,p] [])) oc++frb) σ0 P (fun ps σ'=>K (.panic ps) frb σ'))
  (ha:∀v σ,P v σ->AStep E oa (Q0p l (mixV [pc,a,b,p] vs0 (fC [pc,a,b,p] [v])) oa++frb) σ X σ)
  (hb:∀v σ,P v σ->AStep E ob (Q0p l (mixV [pc,a,b,p] vs0 (fC [pc,a,b,p] [v,X])) ob++frb) σ Y σ)
  (hst:∀v σ,P v σ->∃σ',P2 v σ'/\AStep E op (Q0p l (mixV [pc,a,b,p] vs0 (fC [pc,a,b,p] [v,X,Y])) op++frb) σ .bot σ')
  (Qvf:∀v σ,P2 v σ->AOps E l.toArray tl K (Q0j (mixV [pc,a,b,p] vs0 (fC [pc,a,b,p] [v,X,Y,.bot])) 0 hd++frb) σ):AAny E l K fr σ0:=by
 simp only[List.all_cons,List.all_nil,Bool.and_true,Qzc]at hds hn;obtain⟨⟨d1,g1⟩,⟨d2,g2⟩,⟨d3,g3⟩,d4,g4⟩:=hds;have g1:=Z3j.1 g1;have g2:=Z3j.1 g2;have g3:=Z3j.1 g3;have g4:=Z3j.1 g4;refine AAny.drawC2 hT n [pc,a,b,p] cs (fun vs σ=>match vs with|[]=>σ=σ0|[v]=>P v σ|[v,x]=>P v σ/\x=X|[v,x,y]=>P v σ/\x=X/\y=Y|[v,x,y,z]=>P2 v σ/\x=X/\y=Y/\z=.bot|_=>False) hm hB hsp hfb hnd hch hqb rfl Qvk ?_ ?_ (fun i hi=>?_) ?_ ?_
 ·intro vs σ h
  match vs with
  |[]=>subst h;exact Qvk
  |[_]=>exact Qw2 _ _ h
  |[_,_]=>exact Qw2 _ _ h.1
  |[_,_,_]=>exact Qw2 _ _ h.1
  |[_,_,_,_]=>exact Qws _ _ h.1
  |_::_::_::_::_::_=>exact h.elim
 ·intro vs σ h
  match vs with
  |[]=>subst h;exact Qwb
  |[_]=>exact Qwt _ _ h
  |[_,_]=>exact Qwt _ _ h.1
  |[_,_,_]=>exact Qwt _ _ h.1
  |[_,_,_,_]=>exact Qy0 _ _ h.1
  |_::_::_::_::_::_=>exact h.elim
 ·simp at hi;rcases hi with rfl|rfl|rfl|rfl
  ·exact Z2x (show Nat.ble (i+1) n=true from hn.1)
  ·exact Z2x (show Nat.ble (i+1) n=true from hn.2.1)
  ·exact Z2x (show Nat.ble (i+1) n=true from hn.2.2.1)
  ·exact Z2x (show Nat.ble (i+1) n=true from hn.2.2.2)
 ·intro vs σ h i o hi ho
  match vs with
  |[]=>
   subst h;cases hi;rw[hoc]at ho;cases ho;exact⟨d1,.inr ⟨g1,hcall⟩⟩
  |[v]=>
   cases hi;rw[hoa]at ho;cases ho;exact⟨d2,.inl (.inl ⟨X,σ,by unfold HStep;rw[g2];exact ha v σ h,h,rfl⟩)⟩
  |[v,_]=>
   obtain⟨h,rfl⟩:=h;cases hi;rw[hob]at ho;cases ho;exact⟨d3,.inl (.inl ⟨Y,σ,by unfold HStep;rw[g3];exact hb v σ h,h,rfl,rfl⟩)⟩
  |[v,_,_]=>
   obtain⟨h,rfl,rfl⟩:=h;cases hi;rw[hop]at ho;cases ho;obtain⟨σ',h2,h3⟩:=hst v σ h;exact⟨d4,.inl (.inl ⟨.bot,σ',by unfold HStep;rw[g4];exact h3,h2,rfl,rfl,rfl⟩)⟩
  |_::_::_::_::_=>cases hi
 ·intro vs σ hl h
  match vs with
  |[v,_,_,_]=>obtain⟨h,rfl,rfl,rfl⟩:=h;exact Qvf v σ h
  |[]|[_]|[_,_]|[_,_,_]=>cases hl
  |_::_::_::_::_::_=>exact h.elim
theorem ACode.drawCS{id:Nat}{fr:Fr}{σ0:St}{hd tl:List Oper}{vs0:List FV}{oc oa ob op:Oper}(hT:TabOk E.P E.T)(n pc a b p:Nat)(X Y:FV)(cs:List (Nat×FV))(P P2:FV->St->Prop)(hm:E.P.follows .mixedOrders=true)(hB:drawB l n=true)(hsp:Q2s n l=some (hd,tl))(hfb:Qrn (dsts hd) fr=some frb)
  (hnd:[pc,a,b,p].Nodup) (hch:chainB l [pc,a,b,p]=true) (hqb:Q8r l [pc,a,b,p] n=true) (Qvk:Q0g E l.toArray l frb σ0 ([(pc,.bot),(a,.bot),(b,.bot),(p,.bot)]++cs) 0 hd []=some vs0) (hoc:l[pc]?=some oc) (hoa:l[a]?=some oa) (hob:l[b]?=some ob) (hop:l[p]?=some op)
  (hn:([pc,a,b,p].all fun i=>Nat.blt i n)=true) (hds:([oc,oa,ob,op].all fun o=>dstOk E.N o.dst&&o.guard.isNone)=true)
  (Qw2:∀v σ,P v σ->Q0g E l.toArray l frb σ ([(pc,.bot),(a,.bot),(b,.bot),(p,.bot)]++cs) 0 hd []=some vs0) (Qws:∀v σ,P2 v σ->Q0g E l.toArray l frb σ ([(pc,.bot),(a,.bot),(b,.bot),(p,.bot)]++cs) 0 hd []=some vs0)
  (Qwb:Q09 E l frb σ0 vs0 cs) (Qwt:∀v σ,P v σ->Q09 E l frb σ vs0 cs) (Qy0:∀v σ,P2 v σ->Q09 E l frb σ vs0 cs)
  (hcall:Q4k E oc (Q0p l (mixV [pc,a,b,p] vs0 (fC [pc,a,b,p] [])) oc++frb) σ0 P (fun ps σ'=>K (.panic ps) frb σ'))
  (ha:∀v σ,P v σ->AStep E oa (Q0p l (mixV [pc,a,b,p] vs0 (fC [pc,a,b,p] [v])) oa++frb) σ X σ)
  (hb:∀v σ,P v σ->AStep E ob (Q0p l (mixV [pc,a,b,p] vs0 (fC [pc,a,b,p] [v,X])) ob++frb) σ Y σ)
  (hst:∀v σ,P v σ->∃σ',P2 v σ'/\AStep E op (Q0p l (mixV [pc,a,b,p] vs0 (fC [pc,a,b,p] [v,X,Y])) op++frb) σ .bot σ')
  (Qvf:∀v σ,P2 v σ->AOps E l.toArray tl K (Q0j (mixV [pc,a,b,p] vs0 (fC [pc,a,b,p] [v,X,Y,.bot])) 0 hd++frb) σ):ACode E (.region id l.toArray true) K fr σ0:=AAny.code hm (AAny.drawCS hT n pc a b p X Y cs P P2 hm hB hsp hfb hnd hch hqb Qvk hoc hoa hob hop hn hds Qw2 Qws Qwb Qwt Qy0 hcall ha hb hst Qvf)
theorem Qtl{P:FV->St->Prop}(h:Q1m E o fr σ P):Q4k E o fr σ P PP:=fun F w C tmps hi hf next Q hk _=>h F w C tmps hi hf next Q hk
end
end Go.Abs
namespace Go.Abs
theorem Q29{p:Id->Prop}(es:List (List AC))(h:idsS p es):(AObj.cells (vec s es cap)).ids p:=by
 show idsL p (vec s es cap);refine Q2b.2 fun c hc=>?_;unfold vec at hc;rcases Z1m.1 hc with hc|hc
 ·obtain⟨x,hx,hcx⟩:=List.mem_flatten.1 hc;exact Q2b.1 (Qih.1 h x hx) c hcx
 ·obtain⟨_,rfl⟩:=Z22.1 hc;trivial
theorem Q0m{o:AObj}(h:OuOk ou)(ho:o.ids isO):OuOk (updO ou k o):=fun j x hx=>by
 by_cases e:k=j
 ·subst e;rw[Q04]at hx;cases hx;exact ho
 ·rw[Q02 _ e]at hx;exact h j x hx
theorem AStep.callK
  (hΓ:GI E.Γ) (ho:o.op=.call { callee:=.value f,args:=args,argTypes:=tys })
  (hf:aEval E.Γ fr f=some (.one (.fn (.func g) first caps))) (hargs:Q1g E.Γ fr args.toList=some vs) (Qvd:idsF isO (first.map .one++vs++caps.map .one)) (hou:OuOk σ.ou)
  (hc:AFn E.P E.Γ g (first.map .one++vs++caps.map .one) σ.ou (fun r' ou'=>r'=r/\ou'=σ.ou)):AStep E o fr σ r σ:=by
 intro F w C tmps hi hfr next Q hk
 have Qve:=Q01 (a:=⟨tmps,E.ds⟩) hi hfr hf;simp only[RF,R]at Qve;obtain⟨xs,ys,hfv,hx,hy⟩:=Qve;have hvs:=Q27 (a:=⟨tmps,E.ds⟩) hi hfr hargs;have hall:RFs w C (first.map .one++vs++caps.map .one) (xs++args.toList.map (Act.eval ⟨tmps,E.ds⟩)++ys):=(Z3q hx |>.append hvs).append (Z3q hy);have hrun:(execOp (Act.eval ⟨tmps,E.ds⟩) o).run E.P w=.ok (.enter g (xs++args.toList.map (Act.eval ⟨tmps,E.ds⟩)++ys).toArray) w:=by unfold execOp;simp only[ho,resolve,Z3s,hfv,Deferred.ofValue,Z3t,Z3r,invoke,hc.1];congr 2;apply Qz6;simp
 unfold Oper.wp;rw[hrun,Z3e];have hc1:Chg isO w C w { C with nl:=0 }:=⟨fun _ _=>rfl,fun _ h=>h,fun i hp ho=>⟨by cases i with|l k=>cases hp|o k=>exact ho,rfl,rfl⟩⟩;refine (hc.2 (Q3h w C σ.ou) w { C with nl:=0 } _ rfl (hi.forCallee hou hΓ) (RFs.chg hc1 _ _ Qvd hall)).mono fun e w' ⟨v,r',ou',C',he,hgo,h0,hi',hr,hQ1,hQ2⟩=>?_;subst he;subst hQ1;subst hQ2;obtain⟨hb1,hb2,hb3⟩:=hi.back hgo h0 hi';have Qw7:r'.ids isO:=FV.ids_mono (Q4l h0) r' (RF.idsOk r' v hr);exact hk v w' _ hb1 hb2 (RF.chg hb3 r' v Qw7 hr)
theorem Q09.callK{E:Env}{l:List Oper}{frb:Fr}{σ:St}{vs:List FV}{k:Nat}{v:FV}{r:List (Nat×FV)}{o:Oper}{f:Operand}{args:Array Operand}{tys:Array TypeId}{g:Nat}{first caps:List AC}{us bs:List FV}(hΓ:GI E.Γ)
  (hc:AFn E.P E.Γ g bs σ.ou (fun r' ou'=>r'=v/\ou'=σ.ou)) (hou:OuOk σ.ou) (Qvd:idsF isO bs) (hk:l[k]?=some o) (hgd:o.guard=none)
  (ho:o.op=.call { callee:=.value f,args:=args,argTypes:=tys }) (hf:aEval E.Γ (depFr l vs o++frb) f=some (.one (.fn (.func g) first caps))) (hargs:Q1g E.Γ (depFr l vs o++frb) args.toList=some us) (has:first.map .one++us++caps.map .one=bs)
  (hr:Q09 E l frb σ vs r):Q09 E l frb σ vs ((k,v)::r):=by
 subst has;exact .step hk (Qzs hgd (AStep.callK hΓ ho hf hargs Qvd hou hc)) hr
theorem AOps.callK{E:Env}{ops:Array Oper}{rest:List Oper}{o:Oper}{K:Cont}{fr:Fr}{σ:St}{d:Nat}{f:Operand}{args:Array Operand}{tys:Array TypeId}{g:Nat}{first caps:List AC}{vs bs:List FV}{r:FV}
  (hΓ:GI E.Γ) (hc:AFn E.P E.Γ g bs σ.ou (fun r' ou'=>r'=r/\ou'=σ.ou)) (hgd:o.guard=none) (Qvh:o.dst=some d) (hd:Nat.ble (d+1) E.N=true) (ho:o.op=.call { callee:=.value f,args:=args,argTypes:=tys })
  (hf:aEval E.Γ fr f=some (.one (.fn (.func g) first caps))) (hargs:Q1g E.Γ fr args.toList=some vs) (has:first.map .one++vs++caps.map .one=bs) (hou:OuOk σ.ou) (Qvd:idsF isO bs)
  (h:AOps E ops rest K ((d,r)::fr) σ):AOps E ops (o::rest) K fr σ:=by
 subst has;exact Qr9 hgd Qvh hd (AStep.callK hΓ ho hf hargs Qvd hou hc) h
theorem Q1m.appOwn{d:AC}(hT:TabOk E.P E.T)
  (ho:o.op=.call { callee:=.builtin .append,args:=#[x,y],argTypes:=#[t,t] }) (ht:Tab.get t E.T=some ti) (hk:Nat.beq ti.kind 2=true) (hj:Tab.get ti.elem E.T=some tj) (hx:aEval E.Γ fr x=some (.one c)) (hy:aEval E.Γ fr y=some (.one d)) (hb:BaseO σ c s es cap0 σ1) (hsrc:Src d s news) (hne:news≠[])
  (hs:Nat.beq tj.size s=true) (hbytes:(es.length+news.length) * tj.bytes<=140737488355328) (h63:es.length+news.length<=140737488355328):
  Q1m E o fr σ (fun v σ'=>∃cap,(es++news).length<=cap/\v=.one (.arr (.l σ.n) s 0 (es++news).length cap)/\σ'=σ1.push (.cells (vec s (es++news) cap))):=by
 intro F w C tmps hi hf next Q hk3
 have h1:=Q01 (a:=⟨tmps,E.ds⟩) hi hf hx;have h2:=Q01 (a:=⟨tmps,E.ds⟩) hi hf hy;simp only[RF]at h1 h2;obtain⟨v',w',C',cap,hrun,hgo,hi',hr,hle⟩:=hi.appendOwn (ty:=o.type) ((hT t ti ht).slice (Z2v hk)) (hT _ _ hj) hb hsrc hne (Z2v hs) hbytes h63 h1 h2;have hex:(execOp (Act.eval ⟨tmps,E.ds⟩) o).run E.P w=.ok (.value v') w':=by unfold execOp;simp only[ho,resolve,invoke,builtin,Z3s,Z3t,Z3r,Z1l,Z1g,Z1j,hrun]
 unfold Oper.wp;rw[hex,Z3f];exact hk3 _ _ C' _ _ ⟨cap,hle,rfl,rfl⟩ hgo hi' (by simp only[RF];exact hr)
theorem Qtm(hT:TabOk E.P E.T)(n al:Nat)(cs:List (Nat×FV))(P:FV->St->Prop)(hm:E.P.follows .mixedOrders=true)(hB:drawB l n=true)(hsp:Q2s n l=some (hd,tl))(hfb:Qrn (dsts hd) fr=some frb)
  (hch:chainB l [al]=true) (hqb:Q8r l [al] n=true) (Qvk:Q0g E l.toArray l frb σ0 ((al,.bot)::cs) 0 hd []=some vs0) (hal:l[al]?=some oal) (Qwo:Nat.blt al n=true) (hd1:dstOk E.N oal.dst=true)
  (Qw2:∀v σ,P v σ->Q0g E l.toArray l frb σ ((al,.bot)::cs) 0 hd []=some vs0) (Qwb:Q09 E l frb σ0 vs0 cs) (Qwt:∀v σ,P v σ->Q09 E l frb σ vs0 cs)
  (hs:Q2n E l.toArray oal (Q0p l (mixV [al] vs0 (fC [al] [])) oal++frb) σ0 P (fun ps σ'=>K (.panic ps) frb σ'))
  (Qvf:∀v σ,P v σ->AOps E l.toArray tl K (Q0j (mixV [al] vs0 (fC [al] [v])) 0 hd++frb) σ):ACode E (.region id l.toArray true) K fr σ0:=by
 refine ACode.drawC2 hT n [al] cs (fun vs σ=>match vs with|[]=>σ=σ0|[v]=>P v σ|_=>False) hm hB hsp hfb zsy hch hqb rfl Qvk ?_ ?_ ?_ ?_ ?_
 ·intro vs σ h
  match vs with
  |[]=>subst h;exact Qvk
  |[v]=>exact Qw2 v σ h
  |_::_::_=>exact h.elim
 ·intro vs σ h
  match vs with
  |[]=>subst h;exact Qwb
  |[v]=>exact Qwt v σ h
  |_::_::_=>exact h.elim
 ·intro i hi;simp at hi;subst hi;have:i+1<=n:=by simpa[Nat.blt]using Qwo
  omega
 ·intro vs σ h i o hi ho
  match vs with
  |[]=>
   subst h;cases hi;rw[hal]at ho;cases ho;exact⟨hd1,hs⟩
  |_::_=>cases hi
 ·intro vs σ hl h
  match vs,hl with
  |[v],_=>exact Qvf v σ h
theorem AFn.wkArgs{xs ys:List FV}(h:AFn P Γ g ys ou Q)(hw:WkFs xs ys):AFn P Γ g xs ou Q:=⟨h.1,fun F w C cargs h0 hi hr=>h.2 F w C cargs h0 hi (hw w C cargs hr)⟩
theorem Qim{N:Nat}{ds:List Deferred}{σ':St}(hT:TabOk P T)(h0:C.nl=0)(hi:Inv Γ F w C ⟨0,[],ou⟩)
  (hgo:Goes F isO w C w' C') (hi':Inv Γ F w' C' σ') (hf':FrOk w' C' N fr' tmps) (h:Fin ⟨P,T,Γ,N,ds⟩ fn Q fr' σ'):∃v,(results fn tmps).run P w'=.ok v w'/\(∃v' r ou' C',Ending.returned v=.returned v'/\Goes F isO w C w' C'/\C'.nl=0/\Inv Γ F w' C' ⟨0,[],ou'⟩/\RF w' C' r v'/\Q r ou'):=by
 obtain⟨r,r',h1,h2,h3,h4,h5⟩:=h;obtain⟨u,hu,hru⟩:=Qgu (tmps:=tmps) hT hi' hf' h1;have hc:Chg isO w' C' w' { C' with nl:=0 }:=⟨fun _ _=>rfl,fun _ h=>h,fun i hp ho=>⟨by cases i with|l k=>cases hp|o k=>exact ho,rfl,rfl⟩⟩;have hc0:∀i,C.ok i->isO i:=Q4l h0;refine⟨u,hu,u,r',σ'.ou,{ C' with nl:=0 },rfl,⟨hgo.stp,hgo.chg.trans hc,hgo.no,hgo.newp⟩,rfl,⟨hi'.base,rfl,fun g cs hm=>?_,hi'.prot,fun i o ho=>?_,fun i j o o' g k1 k2 k3 k4=>?_⟩,RF.chg hc r' u h3 (h2 _ _ _ hru),h5⟩
 ·have:=hi.glob g cs hm;have Qvd:=Q18 hc0 cs (RL.idsOk cs _ this.rl);exact RG.chg (hgo.chg.trans hc) Qvd this
 ·cases i with
  |l k=>cases ho
  |o k=>
   obtain⟨k1,k2⟩:=hi'.obj (.o k) o ho;exact⟨k1,k2.ctx isO (h4 k o ho) trivial k1 hc (fun _ h=>h) (fun _ h=>h)⟩
 ·cases i with
  |l k=>cases k1
  |o k=>cases j with
   |l k=>cases k2
   |o k'=>
    have e1:=Qqx (o:=o) isO (i:=.o k) trivial (hi'.obj (.o k) o k1).1 hc;have e2:=Qqx (o:=o') isO (i:=.o k') trivial (hi'.obj (.o k') o' k2).1 hc;exact hi'.inj (.o k) (.o k') o o' g k1 k2 (by rw[←e1];exact k3) (by rw[←e2];exact k4)
theorem RV.len{w:World}{C:Ctx}:∀{cs:List AC}{xs:List Value},RV w C cs xs->xs.length=cs.length
 |[],xs,h=>by simp only[RV]at h;simp[h]
 |c::cs,xs,h=>by simp only[RV]at h;obtain⟨u,us,rfl,_,h2⟩:=h;simp[RV.len h2]
theorem Qtn{gd i1 d5:Nat}{r0 rest:Code}{o0 o1:Oper}{args:List FV}{fr1:Fr}(hT:TabOk P T)(hf:P.funcs[g]?=some fn)(hb:fn.body=some (.seq r0 (.seq (.region i1 #[o0,o1] false) rest)))(hname:(fn.name == "runtime.NumGoroutine")=false)
  (hlen:args.length<=fn.ntmps) (h0:OuOk ou->ACode ⟨P,T,Γ,fn.ntmps,[]⟩ r0 (fun e fr σ=>e=.normal/\fr=fr1/\σ=σ1) (argFr 0 args) ⟨0,[],ou⟩)
  (hg0:o0.guard=none) (hd0:o0.dst=some d5) (hdl:d5 < fn.ntmps) (hs0:AStep ⟨P,T,Γ,fn.ntmps,[]⟩ o0 fr1 σ1 (.one (.fn (.func gd) first caps)) σ1)
  (hg1:o1.guard=none) (hd1:o1.dst=none) (ho1:o1.op=.defer { callee:=.value (.tmp d5),args:=#[],argTypes:=#[] })
  (Qy1:∀(us:Array Value) (w:World),(callFunc gd us).run P w=.ok (.enter gd us) w/\(us.size=first.length+caps.length->CallsD P gd us .returning w fun e u' w'=>(∃v,e=.returned v)/\u'=.returning/\w'=w))
  (hrest:OuOk ou->∀ds,ACode ⟨P,T,Γ,fn.ntmps,ds⟩ rest (Q05 ⟨P,T,Γ,fn.ntmps,ds⟩ (Fin ⟨P,T,Γ,fn.ntmps,ds⟩ fn Q) []) ((d5,.one (.fn (.func gd) first caps))::fr1) σ1):AFn P Γ g args ou Q:=by
 refine⟨fun vs0 w=>?_,fun F w C cargs h0' hi hr=>?_⟩
 ·simp[callFunc,hf,hb];simpa using hname
 ·have hcl:cargs.length=args.length:=by
   have:∀(vs:List FV) (xs:List Value),RFs w C vs xs->xs.length=vs.length:=by
    intro vs
    induction vs with
    |nil=>intro xs h;simp only[RFs]at h;simp[h]
    |cons v vs ih=>intro xs h;simp only[RFs]at h;obtain⟨u,us,rfl,_,h2⟩:=h;simp[ih us h2]
   exact this _ _ hr
  refine calls_of_wp_defers hf hb ?_;have hfr:FrOk w C fn.ntmps (argFr 0 args) (cargs.toArray++Array.replicate (fn.ntmps - cargs.toArray.size) undef):=by refine⟨by simp;omega,fun k x hk=>?_⟩;obtain⟨_,h2⟩:=Q5v args 0 k x hk;simp only[Z38]at h2;obtain⟨u,hu,hru⟩:=RFs.get hr h2;refine⟨u,?_,hru⟩;have hlt:k < cargs.length:=(Z0v.1 hu).1;rw[Qz8 (by simpa using hlt)];simpa using hu
  have hou:=Qqw hi h0';refine wp_seq (wp_mono (h0 hou F w C w C _ (Goes.refl _ _ _ _) hi hfr) fun e a w1 hp=>?_);obtain⟨hda,fr',σ',C1,hg1',hi1,hf1,rfl,rfl,rfl⟩:=hp;have ha:a=⟨a.tmps,[]⟩:=by cases a;simp_all
  rw[ha];refine wp_seq (wp_region_lit (l:=[o0,o1]) ?_);refine wpList_plain hg0 fun N' hN=>hs0 F w1 C1 a.tmps hi1 hf1 N' _ fun u w2 C2 Qwy hi2 hr2=>?_;refine hN _ _ ?_;have hf2:FrOk w2 C2 fn.ntmps ((d5,.one (.fn (.func gd) first caps))::fr') (Act.put ⟨a.tmps,[]⟩ o0.dst u).tmps:=by have:=Q2i (ds:=[]) (dst:=some d5) (hf1.ext Qwy.chg) (by simp[dstOk,Nat.blt];omega) hr2;rw[hd0];exact this
  rw[Q3d];generalize hat:(Act.put ⟨a.tmps,[]⟩ o0.dst u).tmps=tm2 at hf2;refine wpList_plain hg1 fun N2 hN2=>?_;obtain⟨u5,hu5,hr5⟩:=hf2.2 d5 (.one (.fn (.func gd) first caps)) (by simp[Fr.get]);simp only[RF,R]at hr5;obtain⟨xs,ys,rfl,hx,hy⟩:=hr5;have hev:Act.eval ⟨tm2,[]⟩ (.tmp d5)=.func (.func gd) xs.toArray ys.toArray:=by simp[Act.eval,hu5]
  have hrun:(execOp (Act.eval ⟨tm2,[]⟩) o1).run P w2=.ok (.defer ⟨.fn (.func gd) ys.toArray,xs.toArray⟩) w2:=by unfold execOp;simp only[ho1,resolve,Z3s,hev,Deferred.ofValue,Z3t,Z3r];simp
  unfold Oper.wp;rw[hrun,Oper.upon_defer];refine hN2 _ _ ?_;rw[hd1];show rest.wp P _ ⟨tm2,[⟨.fn (.func gd) ys.toArray,xs.toArray⟩]⟩ w2;refine wp_mono (hrest hou [⟨.fn (.func gd) ys.toArray,xs.toArray⟩] F w C w2 C2 tm2 (hg1'.trans Qwy.toO) hi2 hf2) fun e a3 w3 hp=>?_;obtain⟨hd3,fr3,σ3,C3,hg3,hi3,hf3,hk⟩:=hp;have hxs:xs.length=first.length:=RV.len hx;have hys:ys.length=caps.length:=RV.len hy;have key:Fin ⟨P,T,Γ,fn.ntmps,[⟨.fn (.func gd) ys.toArray,xs.toArray⟩]⟩ fn Q fr3 σ3->Leaves P fn a3.tmps (fun e w'=>∃v r ou' C',e=.returned v/\Goes F isO w C w' C'/\C'.nl=0/\Inv Γ F w' C' ⟨0,[],ou'⟩/\RF w' C' r v/\Q r ou') a3.defers .returning w3:=fun hfin=>by
   obtain⟨v,hv,hR⟩:=Qim hT h0' hi hg3 hi3 hf3 hfin;rw[hd3];refine⟨by simp,.func gd,ys.toArray,gd,xs.toArray++ys.toArray,rfl,?_,((Qy1 _ w3).2 (by simp[hxs,hys])).mono ?_⟩
   ·show (invoke (.fn (.func gd) ys.toArray) xs.toArray).run P w3=_;simp only[invoke];exact (Qy1 _ w3).1
   ·rintro e u' w' ⟨⟨v',rfl⟩,rfl,rfl⟩;exact⟨v,hv,hR⟩
  cases e with
  |normal=>exact key hk
  |ret=>exact key hk
  |panic ps=>exact hk.elim
  |exit id=>exact hk.elim
  |goto l=>exact hk.elim
  |outgrown=>exact hk.elim
theorem Qto(k off:Nat)(e:TypeId)(s:Nat)(h:σ.get (.l k)=some (.cells cs))(hoff:cs[off]?=some (.lit (.slice none 0 0)))
  (hk:AOps E ops l K fr ((σ.set (.l k) (.cells (cs.set off (.gs s [] (.l σ.n))))).push (.tok e s 0))):AOps E ops l K fr σ:=by
 intro F w0 C0 w C tmps hg hi hf;have hno:=Qr4 C none (fun _=>False) hi.next;have he:Ext w C w (C.tokd none (fun _=>False)):=⟨fun _ _=>rfl,fun _ h=>.inl h,fun i _ ho=>Qr3 C _ _ ho⟩
 -- first the token
 have hi1:Inv E.Γ F w (C.tokd none (fun _=>False)) (σ.push (.tok e s 0)):=
  hi.addObj (σ.get_push _) he (by simp[Ctx.tokd,Ctx.more,St.push,hi.next]) hi.base (fun a ha=>hi.prot a (ha.resolve_right id)) (fun _ _ _ _ _ _ h=>h) (fun _ _ _ _ _ _ ha=>ha.resolve_right id) hno.1
   (by simp only[ObjOk,hno.2]) (fun i p g _ _ hb=>by simp[AObj.block,hno.2]at hb)
 have hget:(σ.push (.tok e s 0)).get (.l k)=some (.cells cs):=by
  rw[Z3u];have:¬(Id.l k=Id.l σ.n):=by intro e';have:=(hi.obj _ _ h).1;rw[e']at this;simp only[Ctx.ok]at this;have:=hi.next;omega
  rw[if_neg this];exact h
 obtain⟨hok,xs,T,h1,h2,h3,h4⟩:=hi1.obj _ _ hget;have hxs:xs[off]?=some (.slice none 0 0):=by
  have:∀(cs:List AC) (xs:List Value) (off:Nat),RV w (C.tokd none (fun _=>False)) cs xs->cs[off]?=some (.lit (.slice none 0 0))->xs[off]?=some (.slice none 0 0):=by
   intro cs
   induction cs with
   |nil=>intro xs off _ h;simp at h
   |cons c cs ih=>
    intro xs off h h';simp only[RV]at h;obtain⟨u,us,rfl,g1,g2⟩:=h;cases off with
    |zero=>simp at h';subst h';simp only[R]at g1;simp[g1.1]
    |succ off=>simpa using ih us off g2 (by simpa using h')
  exact this cs xs off h3 hoff
 have hr':RV w (C.tokd none (fun _=>False)) (cs.set off (.gs s [] (.l σ.n))) xs:=by
  have:∀(cs:List AC) (xs:List Value) (off:Nat),RV w (C.tokd none (fun _=>False)) cs xs->xs[off]?=some (.slice none 0 0)->RV w (C.tokd none (fun _=>False)) (cs.set off (.gs s [] (.l σ.n))) xs:=by
   intro cs
   induction cs with
   |nil=>intro xs off h _;simpa using h
   |cons c cs ih=>
    intro xs off h h';simp only[RV]at h;obtain⟨u,us,rfl,g1,g2⟩:=h;cases off with
    |zero=>simp at h';subst h';exact⟨_,us,rfl,⟨hno.1,.inl ⟨rfl,rfl,hno.2⟩⟩,g2⟩
    |succ off=>exact⟨u,us,rfl,g1,ih us off g2 (by simpa using h')⟩
  exact this cs xs off h3 hxs
 have hi2:=(hi1.turn (o':=.cells (cs.set off (.gs s [] (.l σ.n)))) hget rfl rfl (fun _ _=>rfl) (fun _ _ _=>rfl) rfl (fun he'=>⟨xs,T,h1,h2,hr',h4⟩)).2;refine hk F w0 C0 w _ tmps (hg.trans ⟨Z3v _ _,he.weaken (fun _ _=>trivial),by simp[Ctx.tokd,Ctx.more],fun a ha=>.inl (ha.resolve_right id)⟩) ?_ (hf.ext he);have hkn:k≠σ.n:=by rintro rfl;have h5:=(hi.obj _ _ h).1;simp only[Ctx.ok]at h5;have:=hi.next;omega
 exact⟨hi2.base,by have:=hi2.next;simpa[St.push,St.set]using this,hi2.glob,hi2.prot,fun i o ho=>hi2.obj i o (by rw[←Q67 hkn];exact ho),fun i j o o' g a b c d=>hi2.inj i j o o' g (by rw[←Q67 hkn];exact a) (by rw[←Q67 hkn];exact b) c d⟩
theorem Qtp{args:List FV}(h:AFn P Γ g args ou (fun r ou'=>∃ou'':Outer,(∀m o,ou'' m=some o->ou' m=some o∨(o=.dead/\∃p,ou m=some p))/\Q r ou'')):AFn P Γ g args ou Q:=by
 refine⟨h.1,fun F w C cargs h0 hi hr=>(h.2 F w C cargs h0 hi hr).mono fun e w' ⟨v,r,ou',C',h1,h2,h3,h4,h5,ou'',h6,h7⟩=>⟨v,r,ou'',C',h1,h2,h3,?_,h5,h7⟩⟩;have hs:∀i o,(St.mk 0 [] ou'').get i=some o->(St.mk 0 [] ou').get i=some o∨(o=.dead/\isO i/\∃p,(St.mk 0 [] ou).get i=some p):=fun i o hio=>by
  cases i with
  |l m=>cases hio
  |o m=>exact (h6 m o hio).imp id fun ⟨a,b⟩=>⟨a,trivial,b⟩
 refine⟨h4.base,h4.next,h4.glob,h4.prot,fun i o ho=>?_,fun i j o o' g k1 k2 h3 h5=>?_⟩
 ·rcases hs i o ho with hh|⟨rfl,hio,p,hp⟩
  ·exact h4.obj i o hh
  ·exact⟨(h2.chg.id i hio (hi.obj i p hp).1).1,trivial⟩
 ·rcases hs i o k1 with hh|⟨rfl,_,p,hp⟩
  ·rcases hs j o' k2 with hh2|⟨rfl,_,p,hp⟩
   ·exact h4.inj i j o o' g hh hh2 h3 h5
   ·simp[AObj.block]at h5
  ·simp[AObj.block]at h3
abbrev Q56 (l:Nat):Fence:=Fence.wide.inRound l
theorem Qgo{l n:Nat}{f:FuncId}{args:Array Value}{R:Ending->World->Prop}(h:Calls P f args w R):CallsIn (Q56 l) n P f args w R:=(callsIn_wide (n:=n)).2 h
theorem Qj6{l n:Nat}{row:String}{args:Array Value}{R:Value->World->Prop}(h:Rows P row args w R):RowsIn (Q56 l) n P row args w R:=fun c cs _=>by obtain⟨v,w',r,s⟩:=h c cs;exact⟨v,w',r,stepsIn_wide.2 s⟩
theorem Qjc{l n:Nat}{a:Act}{K:Act->World->Prop}{Q:Exit->Act->World->Prop}(hnd:∀c,o.op≠.defer c)(h:o.wp P a w K Q):o.wpIn (Q56 l) n P a w K Q:=by
 refine⟨fun _ _=>trivial,?_⟩;rw[Oper.semAt_plain _ _ _ hnd];unfold Oper.wp at h;generalize (execOp a.eval o).run P w=r at h;have hd:(Q56 l).depth.isSome=true->1<=n:=fun e=>by simp[Q56,Fence.inRound,Fence.wide]at e
 cases r with
 |ok v w'=>
  cases v with
  |enter f args=>exact⟨hd,Qgo h⟩
  |row row args=>exact⟨hd,Qj6 h⟩
  |value v=>exact h
  |skip=>exact h
  |defer d=>exact h
  |_=>exact h.elim
 |halt s w'=>cases s <;> exact h
theorem Q45{l n:Nat}{P:Program}{ops:Array Oper}{Q:Exit->Act->World->Prop}(hlo:¬LetsOut Q):∀(os:List Oper)(a:Act)(w:World),(∀o∈os,∀c,o.op≠.defer c)->wpList P ops Q os a w->wpListIn (Q56 l) n P ops Q os a w
 |[],_,_,_,h=>h
 |o::os,a,w,hnd,h=>by
  unfold wpList at h;unfold wpListIn;split
  ·rename_i hw;rw[if_pos hw]at h;rcases h with h|h
   ·exact Oper.wpIn_mono (fun a w h=>Q45 hlo os a w (fun o ho=>hnd o (by simp[ho])) h) (Qjc (hnd o zsy) h)
   ·exact absurd h.2 hlo
  ·rename_i hw;rw[if_neg hw]at h;exact⟨fun _ _=>trivial,Q45 hlo os _ w (fun o ho=>hnd o (by simp[ho])) h⟩
section
variable {E:Env}{l:List Oper}{fr frb:Fr}{K:Cont}{σ0:St}
end
end Go.Abs
namespace Go.Abs
def AIn (E:Env)(c:Code)(K:Cont)(fr:Fr)(σ:St):Prop:=
 ∀(F:Nat->Prop) (w0:World) (C0:Ctx) (w:World) (C:Ctx) (tmps:Array Value),Goes F isO w0 C0 w C->Inv E.Γ F w C σ->FrOk w C E.N fr tmps->∀r n,c.wpIn (Q56 r) n E.P (Post E F w0 C0 K) ⟨tmps,E.ds⟩ w
def Tame (K:Cont):Prop:=∀fr σ,¬K .outgrown fr σ
theorem Tame.lets(h:Tame K):¬LetsOut (Post E F w0 C0 K):=fun ⟨a,w,_,fr,σ,_,_,_,_,hk⟩=>h fr σ hk
section
variable {E:Env}{l:List Oper}{fr:Fr}{K:Cont}{σ:St}
theorem AIn.region{id:Nat}(hK:Tame K)(hnd:∀o∈l,∀c,o.op≠.defer c)(h:AOps E l.toArray l K fr σ):AIn E (.region id l.toArray false) K fr σ:=fun F w0 C0 w C tmps hg hi hf r n=>wpIn_region_lit (Q45 hK.lets _ _ _ hnd (h F w0 C0 w C tmps hg hi hf))
def inBlk (id:Nat)(K:Cont):Cont:=fun e fr σ=>match e with
 |.exit j=>if j=id then K .normal fr σ else K (.exit j) fr σ
 |e=>K e fr σ
theorem AIn.block{id:Nat}{c:Code}(h:AIn E c (inBlk id K) fr σ):AIn E (.block id c) K fr σ:=fun F w0 C0 w C tmps hg hi hf r n=>by
 refine wpIn_block (wpIn_mono (h F w0 C0 w C tmps hg hi hf r n) fun e a w' ⟨hd,fr',σ',C',h1,h2,h3,hk⟩=>?_);cases e with
 |exit j=>
  simp only[inBlk]at hk;simp only[Exit.inBlock];split
  ·rename_i e;rw[if_pos e]at hk;exact⟨hd,fr',σ',C',h1,h2,h3,hk⟩
  ·rename_i e;rw[if_neg e]at hk;exact⟨hd,fr',σ',C',h1,h2,h3,hk⟩
 |_=>exact⟨hd,fr',σ',C',h1,h2,h3,hk⟩
theorem Qtq{id:Nat}(h:Tame K):Tame (inBlk id K):=h
end
end Go.Abs
namespace Go.Abs
structure Trm (w:World)(C C':Ctx):Prop where
 prot:∀a u,w.cell? a=some u->C.prot a->C'.prot a
 id:∀i,C.ok i->C'.ok i/\C'.blk i=C.blk i/\C'.tok i=C.tok i
mutual
theorem R.trm{w:World}{C C':Ctx}(h:Trm w C C'):∀(c:AC)(v:Value),R w C c v->R w C' c v
 |.lit u,v,hr=>by simpa[R]using hr
 |.any,v,hr=>by simpa[R]using hr
 |.sl s es,v,hr=>by
  simp only[R]at *;obtain⟨a,cap,rfl,hc,h2⟩:=hr;refine⟨a,cap,rfl,hc,?_⟩;rcases h2 with h2|⟨ad,rfl,hs,h2⟩
  ·exact .inl h2
  ·exact .inr ⟨ad,rfl,hs,RS.trm h s es ad h2⟩
 |.box cs,v,hr=>by simp only[R]at *;obtain⟨ad,rfl,hs,h2⟩:=hr;exact⟨ad,rfl,hs,RL.trm h cs ad h2⟩
 |.ptr i off,v,hr=>by simp only[R]at *;obtain⟨ho,rfl⟩:=hr;obtain⟨h1,h2,_⟩:=h.id i ho;exact⟨h1,by rw[h2]⟩
 |.gs s es i,v,hr=>by
  simp only[R]at *;obtain⟨ho,hr⟩:=hr;obtain⟨h1,_,h3⟩:=h.id i ho;refine⟨h1,?_⟩;rcases hr with ⟨rfl,he,ht⟩|⟨g,cap,rfl,hc,ht,h2⟩
  ·exact .inl ⟨rfl,he,h3.trans ht⟩
  ·exact .inr ⟨g,cap,rfl,hc,h3.trans ht,RS.trm h s es _ h2⟩
 |.arr i s off len cap,v,hr=>by simp only[R]at *;obtain⟨ho,rfl,hc⟩:=hr;obtain⟨h1,h2,_⟩:=h.id i ho;exact⟨h1,by rw[h2],hc⟩
 |.mp i,v,hr=>by simp only[R]at *;obtain⟨ho,rfl⟩:=hr;obtain⟨h1,h2,_⟩:=h.id i ho;exact⟨h1,by rw[h2]⟩
 |.fn f first caps,v,hr=>by simp only[R]at *;obtain⟨xs,ys,rfl,h1,h2⟩:=hr;exact⟨xs,ys,rfl,RV.trm h first xs h1,RV.trm h caps ys h2⟩
 |.ifc t ag cs,v,hr=>by simp only[R]at *;obtain⟨xs,h1,h2⟩:=hr;exact⟨xs,RV.trm h cs xs h1,h2⟩
theorem RS.trm{w:World}{C C':Ctx}(h:Trm w C C')(s:Nat):∀(es:List (List AC))(ad:Addr),RS w C s es ad->RS w C' s es ad
 |[],_,_=>by simp[RS]
 |e::es,ad,hr=>by simp only[RS]at *;exact⟨hr.1,RL.trm h e ad hr.2.1,RS.trm h s es _ hr.2.2⟩
theorem RL.trm{w:World}{C C':Ctx}(h:Trm w C C'):∀(cs:List AC)(ad:Addr),RL w C cs ad->RL w C' cs ad
 |[],_,_=>by simp[RL]
 |c::cs,ad,hr=>by simp only[RL]at *;obtain⟨⟨u,hu,hp,hr⟩,h2⟩:=hr;exact⟨⟨u,hu,h.prot _ _ hu hp,R.trm h c u hr⟩,RL.trm h cs _ h2⟩
theorem RV.trm{w:World}{C C':Ctx}(h:Trm w C C'):∀(cs:List AC)(vs:List Value),RV w C cs vs->RV w C' cs vs
 |[],_,hr=>by simpa[RV]using hr
 |c::cs,vs,hr=>by simp only[RV]at *;obtain⟨u,us,rfl,h1,h2⟩:=hr;exact⟨u,us,rfl,R.trm h c u h1,RV.trm h cs us h2⟩
end
mutual
theorem RF.trm{w:World}{C C':Ctx}(h:Trm w C C'):∀(x:FV)(v:Value),RF w C x v->RF w C' x v
 |.bot,v,_=>by simp[RF]
 |.one c,v,hr=>by simp only[RF]at *;exact R.trm h c v hr
 |.agg cs,v,hr=>by simp only[RF]at *;obtain⟨xs,rfl,h2⟩:=hr;exact⟨xs,rfl,RV.trm h cs xs h2⟩
 |.tup vs,v,hr=>by simp only[RF]at *;obtain⟨xs,rfl,h2⟩:=hr;exact⟨xs,rfl,RFs.trm h vs xs h2⟩
theorem RFs.trm{w:World}{C C':Ctx}(h:Trm w C C'):∀(vs:List FV)(xs:List Value),RFs w C vs xs->RFs w C' vs xs
 |[],xs,hr=>by simpa[RFs]using hr
 |v::vs,xs,hr=>by simp only[RFs]at *;obtain⟨u,us,rfl,h1,h2⟩:=hr;exact⟨u,us,rfl,RF.trm h v u h1,RFs.trm h vs us h2⟩
end
theorem FrOk.trm{w:World}{C C':Ctx}{N:Nat}{fr:Fr}{tmps:Array Value}(h:Trm w C C')(hf:FrOk w C N fr tmps):FrOk w C' N fr tmps:=⟨hf.1,fun k x hk=>let ⟨u,hu,hr⟩:=hf.2 k x hk;⟨u,hu,RF.trm h x u hr⟩⟩
def Q8j (w:World)(k:Nat):Prop:=∃o:Obj,w.heap[k]?=some o/\o.isCells=true
def Q28 (σ:St):Prop:=∀i o,σ.get i=some o->match o with|.cells _=>True|.tok _ _ _=>True|.dead=>True|_=>False
theorem Inv.trm{Γ:List (Nat×List AC)}{F:Nat->Prop}{w:World}{C C':Ctx}{σ:St}(hi:Inv Γ F w C σ)(h:Trm w C C')(hnl:C'.nl=C.nl)(hp:∀a,C'.prot a->C.prot a∨¬Q8j w a.block)(hlt:∀a,C'.prot a->a.block < w.heap.size)(hg:∀g cs,(g,cs)∈Γ->C'.prot ⟨g,cs.length,none⟩)(hpl:Q28 σ):Inv Γ F w C' σ:=by
 refine⟨hi.base,hnl.trans hi.next,fun g cs hm=>?_,hlt,fun i o ho=>?_,fun i j o o' g ho ho' hb hb'=>?_⟩
 ·have:=hi.glob g cs hm;exact⟨RL.trm h cs _ this.rl,this.fin,hg g cs hm⟩
 ·obtain⟨h1,h2⟩:=hi.obj i o ho;obtain⟨e1,e2,e3⟩:=h.id i h1;refine⟨e1,?_⟩;have hpo:=hpl i o ho;cases o with
  |cells cs=>
   obtain⟨xs,T,g1,g2,g3,g4⟩:=h2;refine⟨xs,T,by rw[e2];exact g1,by rw[e2];exact g2,RV.trm h cs xs g3,fun a ha hpa=>?_⟩;rw[e2]at ha;rcases hp a hpa with h3|h3
   ·exact g4 a ha h3
   ·exact h3 ⟨_,by rw[ha];exact g1,rfl⟩
  |tok e s used=>
   unfold ObjOk at h2 ⊢;rw[e3];cases ht:C.tok i with
   |none=>rw[ht]at h2;exact h2
   |some p=>
    obtain⟨g,cap⟩:=p;rw[ht]at h2;obtain⟨xs,g1,g2,g3,g4,g5,g6⟩:=h2;refine⟨xs,g1,g2,g3,g4,g5,fun a ha hpa=>?_⟩;rcases hp a hpa with h3|h3
    ·exact g6 a ha h3
    ·exact absurd ⟨_,by rw[ha];exact g1,rfl⟩ h3
  |dead=>trivial
  |map ck es=>exact hpo.elim
  |iter m since seen last=>exact hpo.elim
  |sit s pos=>exact hpo.elim
 ·have bl:∀i o,σ.get i=some o->o.block C' i=o.block C i:=fun i o ho=>by obtain⟨e1,e2,e3⟩:=h.id i (hi.obj i o ho).1;cases o <;> simp[AObj.block,e2,e3]
  rw[bl i o ho]at hb;rw[bl j o' ho']at hb';exact hi.inj i j o o' g ho ho' hb hb'
def ProtB (B:Nat)(w:World)(C:Ctx):Prop:=∀a,C.prot a->a.block < B∨Q8j w a.block
def trimB (B:Nat)(w:World)(C:Ctx):Ctx:={ C with prot:=fun a=>C.prot a/\(a.block < B∨Q8j w a.block) }
theorem Qk8(h:w.cell? a=some u):Q8j w a.block:=by
 unfold World.cell? at h;cases ho:w.heap[a.block]? with
 |none=>rw[ho]at h;cases h
 |some o=>
  rw[ho]at h;cases o with
  |cells c t f=>exact⟨_,ho,rfl⟩
  |_=>cases h
theorem Q6y(B:Nat)(w:World)(C:Ctx):Trm w C (trimB B w C):=⟨fun a u hu hp=>⟨hp,.inr (Qk8 hu)⟩,fun i h=>⟨h,rfl,rfl⟩⟩
theorem Q7v(B:Nat)(w:World)(C:Ctx):ProtB B w (trimB B w C):=fun a h=>h.2
theorem Inv.trimB{Γ:List (Nat×List AC)}{F:Nat->Prop}{w:World}{C:Ctx}{σ:St}(hi:Inv Γ F w C σ)(B:Nat)(hpl:Q28 σ)(hg:∀g cs,(g,cs)∈Γ->g < B):Inv Γ F w (trimB B w C) σ:=
 hi.trm (Q6y B w C) rfl (fun a h=>.inl h.1) (fun a h=>hi.prot a h.1) (fun g cs hm=>⟨(hi.glob g cs hm).pr,.inl (hg g cs hm)⟩) hpl
theorem Goes.trimB{F:Nat->Prop}{w0 w:World}{C0 C:Ctx}(h:Goes F isO w0 C0 w C){B:Nat}(hB:∀a,C0.prot a->a.block < B):Goes F isO w0 C0 w (trimB B w C):=
 ⟨h.stp,⟨h.chg.cell,fun a ha=>⟨h.chg.prot a ha,.inl (hB a ha)⟩,h.chg.id⟩,h.no,fun a ha=>h.newp a ha.1⟩
section
variable {B:Nat}{w w':World}{row:Option Nat}(hg:w.grownBy w' row)(hr:∀r,row=some r->B<=r/\∃o:Obj,w.heap[r]?=some o/\o.isCells=false)
include hg hr
theorem Q74(hk:k < B)(hB:B<=w.heap.size):w'.heap[k]?=w.heap[k]?:=hg.block k zoy (fun e=>by have:=(hr k e.symm).1;omega)
theorem Q9u(hk:Q8j w k):w'.heap[k]?=w.heap[k]?:=by obtain⟨o,ho,hc⟩:=hk;refine hg.block k (Q0f ho) (fun e=>?_);obtain⟨_,o',ho',hc'⟩:=hr k e.symm;rw[ho]at ho';cases ho';rw[hc]at hc';cases hc'
theorem Qop(hB:B<=w.heap.size)(hp:ProtB B w C)(ha:C.prot a):w'.heap[a.block]?=w.heap[a.block]?:=(hp a ha).elim (fun h=>Q74 hg hr h hB) (Q9u hg hr)
theorem ProtB.rowed(hB:B<=w.heap.size)(hp:ProtB B w C):ProtB B w' C:=fun a ha=>(hp a ha).imp id fun ⟨o,ho,hc⟩=>⟨o,(Q9u hg hr ⟨o,ho,hc⟩).trans ho,hc⟩
theorem Ext.rowed(hB:B<=w.heap.size)(hp:ProtB B w C):Ext w C w' C:=⟨fun a ha=>by unfold World.cell?;rw[Qop hg hr hB hp ha],fun a ha=>ha,fun i _ ho=>⟨ho,rfl,rfl⟩⟩
theorem Goes.rowed(h:Goes F isO w0 C0 w C)(hB:B<=w.heap.size)(h0:w0.heap.size<=B)(hF:∀k,F k->k < B)(hp0:∀a,C0.prot a->a.block < B):Goes F isO w0 C0 w' C:=
 ⟨⟨hg.os.trans h.stp.os,hg.tape.trans h.stp.tape,hg.output.trans h.stp.output,Z31 h.stp.size hg.size,fun k hk=>(Q74 hg hr (hF k hk) hB).trans (h.stp.block k hk),fun a ha=>(World.frozen?_of_block (Q74 hg hr zoy hB)).trans (h.stp.frozen a ha)⟩,
  ⟨fun a ha=>(Z49 (Q74 hg hr (hp0 a ha) hB)).trans (h.chg.cell a ha),h.chg.prot,h.chg.id⟩,h.no,h.newp⟩
theorem Inv.rowed{Γ:List (Nat×List AC)}{F:Nat->Prop}{C:Ctx}{σ:St}(hi:Inv Γ F w C σ)(hB:B<=w.heap.size)(hp:ProtB B w C)(hpl:Q28 σ):Inv Γ F w' C σ:=by
 have he:=Ext.rowed hg hr hB hp;refine⟨fun k hk=>Z32 (hi.base k hk) hg.size,hi.next,fun g cs h=>(hi.glob g cs h).ext he,fun a ha=>Z32 (hi.prot a ha) hg.size,fun i o h=>?_,hi.inj⟩;obtain⟨h1,h2⟩:=hi.obj i o h;have hpo:=hpl i o h;refine⟨h1,h2.keep he h1 (fun g x hx1 hx=>?_) (fun a _ _ ha=>ha)⟩;refine (Q9u hg hr ?_).trans hx;cases o with
 |cells cs=>
  obtain⟨xs,T,g1,_⟩:=h2;simp only[AObj.block,Z3o]at hx1;subst hx1;exact⟨_,g1,rfl⟩
 |tok e s used=>
  unfold ObjOk at h2;simp only[AObj.block]at hx1;cases ht:C.tok i with
  |none=>rw[ht]at hx1;cases hx1
  |some p=>
   obtain⟨g',cap⟩:=p;rw[ht]at hx1 h2;simp at hx1;subst hx1;obtain⟨ys,g1,_⟩:=h2;exact⟨_,g1,rfl⟩
 |dead=>cases hx1
 |map ck es=>exact hpo.elim
 |iter m since seen last=>exact hpo.elim
 |sit s pos=>exact hpo.elim
end
end Go.Abs
namespace Go.Abs
def Q17 (F:Nat->Prop)(w:World):Nat->Prop:=fun k=>F k∨∃o:Obj,w.heap[k]?=some o/\o.isCells=false
theorem Inv.keepF{F':Nat->Prop}(hi:Inv Γ F w C σ)(hb:∀k,F' k->k < w.heap.size)(hF:∀i o g,σ.get i=some o->o.block C i=some g->F' g->False):Inv Γ F' w C σ:=
 ⟨hb,hi.next,hi.glob,hi.prot,fun i o h=>⟨(hi.obj i o h).1,(hi.obj i o h).2.memo (hF i o · h)⟩,hi.inj⟩
theorem Inv.blockCells(hi:Inv Γ F w C σ)(hpl:Q28 σ){i:Id}{o:AObj}(h:σ.get i=some o)(hb:o.block C i=some g):Q8j w g/\¬F g:=by
 obtain⟨h1,h2⟩:=hi.obj i o h;have hpo:=hpl i o h;cases o with
 |cells cs=>
  obtain⟨xs,T,g1,g2,_⟩:=h2;simp only[AObj.block,Z3o]at hb;subst hb;exact⟨⟨_,g1,rfl⟩,g2⟩
 |tok e s used=>
  unfold ObjOk at h2;simp only[AObj.block]at hb;cases ht:C.tok i with
  |none=>rw[ht]at hb;cases hb
  |some p=>
   obtain⟨g',cap⟩:=p;rw[ht]at hb h2;simp at hb;subst hb;obtain⟨ys,g1,g2,_⟩:=h2;exact⟨⟨_,g1,rfl⟩,g2⟩
 |dead=>cases hb
 |map ck es=>exact hpo.elim
 |iter m since seen last=>exact hpo.elim
 |sit s pos=>exact hpo.elim
theorem Inv.intoRound(hi:Inv Γ F w C σ)(hpl:Q28 σ):Inv Γ (Q17 F w) w C σ:=by
 refine hi.keepF (fun k hk=>hk.elim (hi.base k) fun ⟨o,ho,_⟩=>Q0f ho) fun i o g h hb hF=>?_;obtain⟨⟨o',ho',hc'⟩,hn⟩:=hi.blockCells hpl h hb;rcases hF with hF|⟨o2,ho2,hc2⟩
 ·exact hn hF
 ·rw[ho']at ho2;cases ho2;rw[hc']at hc2;cases hc2
theorem Inv.outOfRound(hi:Inv Γ (Q17 F w) w' C σ)(hpl:Q28 σ):Inv Γ F w' C σ:=
 hi.keepF (fun k hk=>hi.base k (.inl hk)) fun i o g h hb hF=>(hi.blockCells hpl h hb).2 (.inl hF)
theorem Goes.outOfRound(h:Goes (Q17 F w) isO w C w' C'):Goes F isO w C w' C':=⟨h.stp.mono fun k hk=>.inl hk,h.chg,h.no,fun a ha=>(h.newp a ha).imp id fun hn hF=>hn (.inl hF)⟩
theorem Goes.keepsFrom(h:Goes (Q17 F w) isO w C w' C')(B:Nat):KeepsFrom B w w':=⟨h.stp.size,fun k o _ ho hc=>(h.stp.block k (.inr ⟨o,ho,hc⟩)).trans ho⟩
theorem Goes.keepsWalks(h:Goes (Q17 F w) isO w C w' C'):KeepsWalks w w':=⟨h.stp.size,fun k o ho hw=>(h.stp.block k (.inr ⟨o,ho,Obj.not_cells_of_walk hw⟩)).trans ho⟩
def KpC (C:Ctx)(A B:World):Prop:=KeepsWalks A B/\∀a,C.prot a->B.cell? a=A.cell? a
def Owes (Γ:List (Nat×List AC))(F:Nat->Prop)(w:World)(C:Ctx)(Q:FV->Outer->Prop):Ending->World->Prop:=fun e w'=>
 ∃v r ou' C',e=.returned v/\Goes F isO w C w' C'/\C'.nl=0/\Inv Γ F w' C' ⟨0,[],ou'⟩/\RF w' C' r v/\Q r ou'
theorem Qtr{c:Code}{args:List FV}(hf:P.funcs[g]?=some fn)(hb:fn.body=some c)(hname:(fn.name == "runtime.NumGoroutine")=false)
  (hlen:args.length<=fn.ntmps)
  (h:OuOk ou->∀(F:Nat->Prop) (w:World) (C:Ctx) (tmps:Array Value),C.nl=0->Inv Γ F w C ⟨0,[],ou⟩->FrOk w C fn.ntmps (argFr 0 args) tmps->c.wp P (bodyPostM Fence.wide 0 P fn (Owes Γ F w C Q)) ⟨tmps,[]⟩ w):AFn P Γ g args ou Q:=by
 refine⟨fun vs0 w=>?_,fun F w C cargs h0 hi hr=>?_⟩
 ·simp[callFunc,hf,hb];simpa using hname
 ·have hcl:cargs.length=args.length:=by
   have:∀(vs:List FV) (xs:List Value),RFs w C vs xs->xs.length=vs.length:=by
    intro vs
    induction vs with
    |nil=>intro xs h;simp only[RFs]at h;simp[h]
    |cons v vs ih=>intro xs h;simp only[RFs]at h;obtain⟨u,us,rfl,_,h2⟩:=h;simp[ih us h2]
   exact this _ _ hr
  have hfr:FrOk w C fn.ntmps (argFr 0 args) (cargs.toArray++Array.replicate (fn.ntmps - cargs.toArray.size) undef):=by refine⟨by simp;omega,fun k x hk=>?_⟩;obtain⟨_,h2⟩:=Q5v args 0 k x hk;simp only[Z38]at h2;obtain⟨u,hu,hru⟩:=RFs.get hr h2;refine⟨u,?_,hru⟩;have hlt:k < cargs.length:=(Z0v.1 hu).1;rw[Qz8 (by simpa using hlt)];simpa using hu
  exact callsIn_wide.1 (callsIn_of_wp_marks (n:=0) hf hb trivial (wpIn_wide.2 (h (Qqw hi h0) F w C _ h0 hi hfr)))
def noFin:Fr->St->Prop:=fun _ _=>False
section
variable {E:Env}{F:Nat->Prop}{w0:World}{C0:Ctx}{Z:Exit->Act->World->Prop}{fr:Fr}{σ:St}
end
end Go.Abs
namespace Go.Abs
theorem wpIn_assign{l n d:Nat}{t:Array Value}{W:World}{K:Act->World->Prop}(ho:o.op=.assign x)(hg:o.guard=none)(hd:o.dst=some d)(h:K ⟨t.setIfInBounds d (Act.eval ⟨t,[]⟩ x),[]⟩ W):
  (Code.region id #[o] false).wpIn (Q56 l) n P (Exit.then K (fun _ _ _=>False)) ⟨t,[]⟩ W:=by
 refine wpIn_region_lit (l:=[o]) (Q45 ?_ _ _ _ ?_ ?_)
 ·rintro⟨a,w,h⟩;exact h
 ·simp[ho]
 ·refine wpList_plain hg fun N' hN=>?_;unfold Oper.wp;rw[show (execOp (Act.eval ⟨t,[]⟩) o).run P W=.ok (.value (Act.eval ⟨t,[]⟩ x)) W from by unfold execOp;simp[ho]];rw[Z3f];refine hN _ _ ?_;rw[hd];exact h
theorem Qpw{c:Code}(hf:P.funcs[g]?=some fn)(hb:fn.body=some c)(hname:(fn.name == "runtime.NumGoroutine")=false)(args:Array Value)(w:World):(callFunc g args).run P w=.ok (.enter g args) w:=by simp[callFunc,hf,hb];simpa using hname
theorem Qts{w:World}{C:Ctx}{a b:AC}(hab:∀v,R w C a v->R w C b v):∀{cs:List AC}{off:Nat}{xs:List Value},RV w C cs xs->cs[off]?=some a->RV w C (cs.set off b) xs
 |[],_,_,_,h=>by simp at h
 |c::cs,0,xs,⟨x,xs',e,h1,h2⟩,h=>by simp only[Z0r,Z3o]at h;subst h;exact⟨x,xs',e,hab x h1,h2⟩
 |c::cs,off+1,xs,⟨x,xs',e,h1,h2⟩,h=>by simp only[List.getElem?_cons_succ]at h;exact⟨x,xs',e,h1,Qts hab h2 h⟩
theorem AOps.freezeArrO(i j:Id)(off:Nat)(hg:σ.get i=some (.cells (vec s es cap)))(hl:∀x∈es,x.length=s)(hgj:(σ.set i .dead).get j=some (.cells cs))(hoff:cs[off]?=some (.arr i s 0 es.length cap))
  (h:AOps E ops l K fr ((σ.set i .dead).set j (.cells (cs.set off (.sl s es))))):AOps E ops l K fr σ:=by
 intro F w0 C0 w C tmps hgo hi hf;obtain⟨h1,h2,h3⟩:=Q6q hi hf hg (fr':=[]) trivial;obtain⟨hok,zs,T,b1,b2,b3,b4⟩:=hi.obj i _ hg;have key:∀v,R w (C.froze (C.blk i)) (.arr i s 0 es.length cap) v->R w (C.froze (C.blk i)) (.sl s es) v:=by
  intro u hr;simp only[R,Z3c]at hr;refine⟨some ⟨C.blk i,0,none⟩,cap,hr.2.1,hr.2.2,.inr ⟨_,rfl,rfl,?_⟩⟩;have hfl:=Q3o hl;have hzl:=RV.length b3;have hv:RV w (C.froze (C.blk i)) es.flatten (zs.take (es.length * s)):=by have:=(b3.take (es.length * s)).ext h1.chg;rwa [vec,Z2i zoy,Z2k zoy]at this
  refine RS.ofVals 0 hl hv fun j v hj=>⟨?_,.inr rfl⟩;have h2:j < es.length * s:=by have:=(Z0v.1 hj).1;simp at this;omega
  rw[Z0z h2]at hj;rw[Z3a,cell_of_row _ _ _ _ _ _ b1];simpa using hj
 obtain⟨hokj,xs,Tj,o1,o2,o3,o4⟩:=h2.obj j _ hgj;obtain⟨he,hi'⟩:=h2.turn hgj (g:=(C.froze (C.blk i)).blk j) rfl (w':=w) rfl (fun _ _=>rfl) (fun _ _ _=>rfl) (o':=.cells (cs.set off (.sl s es))) rfl fun _=>⟨xs,Tj,o1,o2,Qts key o3 hoff,o4⟩;refine h F w0 C0 w _ tmps (hgo.trans h1.toO) hi' ⟨hf.1,fun k x hk=>?_⟩;obtain⟨u,hu,hr⟩:=hf.2 k x hk;exact⟨u,hu,hr.ext h1.chg⟩
theorem Q0n(n:Nat)(lo:List (Nat×AObj))(ou:Outer)(k:Nat)(o:AObj):St.set ⟨n,lo,ou⟩ (.o k) o=⟨n,lo,updO ou k o⟩:=by
 have:(fun j=>bif Nat.beq j k then some o else ou j)=updO ou k o:=by
  funext j;by_cases e:k=j
  ·subst e;rw[Q04];simp
  ·rw[Q02 _ e,Q06 (fun h=>e h.symm)];rfl
 show St.mk n lo (fun j=>bif Nat.beq j k then some o else ou j)=_;rw[this]
theorem Qtt{a b:Nat}(ha:a < 18446744073709551616)(hb:b < 18446744073709551616)(ho:o.op=.binOp .and t x y yt)(hx:aEval E.Γ fr x=some (.one (.lit (.int .u64 (a:Int)))))(hy:aEval E.Γ fr y=some (.one (.lit (.int .u64 (b:Int))))):AStep E o fr σ (.one (.lit (.int .u64 ((a &&& b:Nat):Int)))) σ:=by refine Qqz fun F w C tmps hi hf=>⟨.int .u64 ((a &&& b:Nat):Int),?_,rfl,rfl⟩;have h1:=Q01 (a:=⟨tmps,E.ds⟩) hi hf hx;have h2:=Q01 (a:=⟨tmps,E.ds⟩) hi hf hy;simp only[RF,R]at h1 h2;unfold execOp;simp only[ho,h1.1,h2.1,eqGuard_at_int,Z3s,Z3t,Z3r];rw[←bits_and_u64_nat a b ha hb];rfl
end Go.Abs
namespace Go.CoreX
structure Alt where
 tag:Int
 binds:List Int
 deriving DecidableEq
structure Ex where
 op:Int
 n:Int
 binds:List Int
 kids:List Int
 alts:List Alt
 deriving DecidableEq
inductive Tr where
 |mk (op n:Int) (binds:List Int) (kids:List Tr) (alts:List Alt)
instance:Inhabited Tr:=⟨.mk 0 0 [] [] []⟩
def Tr.op:Tr->Int|.mk o _ _ _ _=>o
def Tr.n:Tr->Int|.mk _ n _ _ _=>n
def Tr.binds:Tr->List Int|.mk _ _ b _ _=>b
def Tr.kids:Tr->List Tr|.mk _ _ _ k _=>k
def Tr.alts:Tr->List Alt|.mk _ _ _ _ a=>a
@[simp] theorem Qtu (o n b k a):(Tr.mk o n b k a).op=o:=rfl
@[simp] theorem Qtv (o n b k a):(Tr.mk o n b k a).n=n:=rfl
@[simp] theorem Qtw (o n b k a):(Tr.mk o n b k a).binds=b:=rfl
@[simp] theorem Qtx (o n b k a):(Tr.mk o n b k a).kids=k:=rfl
@[simp] theorem Qty (o n b k a):(Tr.mk o n b k a).alts=a:=rfl
def Q3k (ts:List Tr)(x:Ex):Tr:=.mk x.op x.n x.binds (x.kids.map fun k=>ts.getD k.toNat default) x.alts
def Qii (ts:List Tr)(x:Ex):List Tr:=ts++[Q3k ts x]
def growL (e:List Ex):List Tr:=e.foldl Qii []
def grow (e:List Ex):Tr:=(growL e).getD (e.length - 1) default
mutual
def listT (out:List Ex):Tr->List Ex
 |.mk o n b k a=>(Q03 out k).1++[⟨o,n,b,(Q03 out k).2,a⟩]
def Q03 (out:List Ex):List Tr->List Ex×List Int
 |[]=>(out,[])
 |t::ts=>((Q03 (listT out t) ts).1,(((listT out t).length:Int) - 1)::(Q03 (listT out t) ts).2)
end
def Q0s (op:Int)(binds:List Int)(alts:List Alt):List Int:=(if op=2∨op=4∨op=5 then binds else [])++alts.flatMap (·.binds)
def Q3b (op:Int)(binds:List Int)(alts:List Alt)(k:Int):List Int:=
 if op=2∨op=5∨(op=4/\k=1)then binds else if 0 < (alts.length:Int)/\0 < k/\k<=alts.length then (alts.getD (k - 1).toNat ⟨0,[]⟩).binds else []
def Q1q (i:Nat)(s:Option (List Int×List Int))(k:Int):Option (List Int×List Int):=
 s.bind fun dp=>if k < 0∨(i:Int)<=k then none else some (dp.1.set i (if dp.1.getD k.toNat 0 > dp.1.getD i 0 then dp.1.getD k.toNat 0 else dp.1.getD i 0),dp.2.set k.toNat (dp.2.getD k.toNat 0+1))
def Q24 (s:Option (List Int×List Int))(x:Ex×Nat):Option (List Int×List Int):=
 (x.1.kids.foldl (Q1q x.2) s).map fun dp=>(dp.1.set x.2 (dp.1.getD x.2 0+1),dp.2)
def Q5b (e:List Ex):Option (List Int×List Int):=e.zipIdx.foldl Q24 (some (List.replicate e.length 0,List.replicate e.length 0))
def Q2g (n:Nat)(p:List Int)(i:Nat):Bool:=!((p.getD i 0==1)==decide ((i:Int) < n - 1))
def Q1d (e:List Ex):Int:=
 if 4096 < e.length then 2 else if e.length=0 then 3 else
 match Q5b e with
 |none=>3
 |some (d,p)=>if (List.range e.length).any (Q2g e.length p)=true then 3 else if 400 < d.getD (e.length - 1) 0 then 2 else 0
def between (n low high:Int):Bool:=decide (low<=n)&&decide (n<=high)
def Q68 (op:Int):Bool:=op==14||op==15||op==16
def Q7o (op:Int):Bool:=op==2||op==5||op==12||op==13
def Q5a (x:Ex)(i:Nat)(a:Alt):Bool:=
 ((x.alts.take i).any (fun b=>b.tag==a.tag)||decide (a.tag < -1)) ||
 (x.op==7&&a.tag==-1&&(decide ((i:Int) < x.alts.length - 1)||decide (0 < a.binds.length))) ||
 ((x.op==13&&!(((i:Int)==0)==(a.tag==-1)))||(x.op==13&&!((a.binds.length:Int)==(if 2 < (i:Int)+1 then 2 else (i:Int)+1))))
def Q7s (x:Ex):Bool:=!(x.alts.zipIdx.any fun ai=>Q5a x ai.2 ai.1)&&((x.kids.length:Int)==1+x.alts.length&&(x.op==7||decide (0 < x.alts.length)))
def Q5u:List Int:=[2,2,2,2,2,2,2,1,2,1,2,3]
def wants (x:Ex):Option (Int×Int×Bool):=
 if x.op=0∨x.op=1∨x.op=17 then some (0,0,true) else
 if x.op=2 then some (1,x.binds.length,false) else
 if x.op=3 then some (if (x.kids.length:Int) > 1 then x.kids.length else 1,0,false) else
 if x.op=4 then some (2,1,false) else
 if x.op=5 then some (x.binds.length+1,if (x.binds.length:Int) > 1 then x.binds.length else 1,false) else
 if x.op=6 then some (x.kids.length,0,true) else
 if x.op=8 then (if between x.n 0 11=true then some (Q5u.getD x.n.toNat 0,0,true)else none) else
 if x.op=9 then some (x.binds.length,x.binds.length,false) else
 if x.op=10∨x.op=12 then some (1,0,true) else
 if x.op=11 then some (2,0,true) else
 if x.op=14∨x.op=15 then some (x.kids.length,0,true) else
 if x.op=16 then some (1,0,true)else none
def shape (x:Ex):Bool:=
 if x.op=7∨x.op=13 then Q7s x&&x.binds.length==0&&x.n==0 else
 match wants x with
 |none=>false
 |some (k,b,u)=>(x.kids.length:Int)==k&&(x.binds.length:Int)==b&&x.alts.length==0&&(u||x.n==0)
def lowN (op:Int):Int:=if op=1 then -1073741824 else if op=17 then 1 else 0
def highN (op:Int):Int:=if op=1 then 1073741823 else if op=6 then 255 else if op=17 then 6 else if op=16 then 15 else 1048575
def Q33 (n:Int):Bool:=between n 0 1048575
def Q3q (op:Int)(a:Alt):Bool:=!((decide (255 < a.tag)&&op==7)||decide (1048576<=a.tag))&&a.binds.all Q33
def fields (x:Ex):Int:=x.alts.foldl (fun f a=>if (a.binds.length:Int) > f then a.binds.length else f) x.binds.length
def ranges (x:Ex):Int:=
 if between x.n (lowN x.op) (highN x.op)=false then 4 else
 if x.binds.all Q33=false then 4 else
 if x.alts.all (Q3q x.op)=false then 4 else
 if ((decide (fields x > (if x.op=2 then 6 else 16))||((x.op==6||x.op==15)&&decide (16 < (x.kids.length:Int))))||(x.op==3&&decide (7 < (x.kids.length:Int))))||(x.op==14&&decide (6 < (x.kids.length:Int)))then 2 else 0
def Q1l (e:List Ex)(x:Ex)(i:Nat):Bool:=
 (x.op==5&&!((e.getD (x.kids.getD i 0).toNat ⟨0,0,[],[],[]⟩).op==2))||(x.op==9&&decide (0 < i)&&decide (x.binds.getD (i - 1) 0 ≥ x.binds.getD i 0))
def Q1p (e:List Ex)(x:Ex):Int:=
 if shape x=false then 3 else if ranges x≠0 then ranges x else if (List.range x.binds.length).any (Q1l e x)=true then 3 else 0
def Q0i (flat:Bool)(e:List Ex)(x:Ex):Int:=if (flat&&Q7o x.op)||(!flat&&Q68 x.op)then 3 else Q1p e x
def Q1r {α:Type}(f:α->Int):List α->Int
 |[]=>0
 |a::l=>if f a≠0 then f a else Q1r f l
def Q4b:List Int->Bool
 |[]=>false
 |n::l=>l.contains n||Q4b l
def Q0r (x:Ex):List Int:=Q0s x.op x.binds x.alts
def Q08 (e:List Ex):List Int:=e.flatMap Q0r
mutual
def occT (sc:List Int):Tr->List Int
 |.mk o n b k a=>(if o=0/\sc.contains n=false then [n]else [])++occTs sc o b a 0 k
def occTs (sc:List Int)(o:Int)(b:List Int)(a:List Alt):Nat->List Tr->List Int
 |_,[]=>[]
 |i,t::ts=>occT (Q3b o b a i++sc) t++occTs sc o b a (i+1) ts
end
def Q5l (n:Int):List Int->List Int
 |[]=>[n]
 |m::l=>if n < m then n::m::l else if n=m then m::l else m::Q5l n l
def sortS (l:List Int):List Int:=l.foldr Q5l []
def Q41 (t:Tr):List Int:=sortS (occT [] t)
def body (e:List Ex)(params:List Int)(flat:Bool):Int:=
 if Q1d e≠0 then Q1d e else
 if Q1r (Q0i flat e) e≠0 then Q1r (Q0i flat e) e else
 if Q4b (params++Q08 e)=true then 7 else
 if (Q41 (grow e)).all (fun n=>params.contains n)=true then 0 else 6
def check (e:List Ex):Int:=body e [] false
end Go.CoreX
