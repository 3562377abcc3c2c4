/- The abstract layer, part Cb: code that may leave any number of marks among the deferred calls (ranges over functions within loops). No condition of its own. -/
import Derived.Test.YthboaankaaeemaaDoorC11
import Derived.RangeFuncBox
import Derived.RangeFuncLeaves
import Derived.WalkKit
import Derived.OwnWalkIn
import Derived.TacticsInMore
import Derived.LoopNIn
import Derived.LoopIn
set_option maxRecDepth 10000
set_option linter.unusedVariables false
set_option linter.unusedSimpArgs false
namespace Go.Abs
def Q4h (D:Nat):Deferred:={ target:=.collected D,args:=#[] }
def Marks (B:Nat)(Ds:List Nat)(W:World):Prop:=Ds.Nodup/\∀D∈Ds,B<=D/\W.heap[D]?=some (.deferred (some []))
theorem Marks.cons{B D:Nat}{Ds:List Nat}{W:World}(h:Marks B Ds W)(hB:B<=D)(hD:W.heap[D]?=some (.deferred (some [])))(hn:D∉Ds):Marks B (D::Ds) W :=
 ⟨List.nodup_cons.2 ⟨hn, h.1⟩, fun x hx => by
  rcases List.mem_cons.1 hx with rfl|hx
  ·exact⟨hB,hD⟩
  ·exact h.2 x hx⟩
theorem Q73{P:Program}{T:Tab}{Γ:List (Nat×List AC)}{N n:Nat}{fn:Func}{ds:List Deferred}{Q:FV->Outer->Prop}{F:Nat->Prop}{w:World}{C:Ctx}{ou:Outer}{fr3:Fr}{σ3:St}{tmps:Array Value}(hT:TabOk P T)(h0:C.nl=0)(hi:Inv Γ F w C ⟨0,[],ou⟩)
  (hfin:Fin ⟨P,T,Γ,N,ds⟩ fn Q fr3 σ3) (hpl:Q1v σ3):∀(Ds:List Nat) (w3:World) (C3:Ctx),Goes F isO w C w3 C3->Inv Γ F w3 C3 σ3->FrOk w3 C3 N fr3 tmps->Marks w.heap.size Ds w3->
  LeavesInM Fence.wide n P fn tmps (Owes Γ F w C Q) (Ds.map Q4h) .returning w3
 |[],w3,C3,hgo,hi3,hf3,_=>Qlv hT h0 hi hgo hi3 hf3 hfin
 |D::Ds,w3,C3,hgo,hi3,hf3,hm=>by
  obtain⟨hD,hmD⟩:=hm.2 D List.mem_cons_self
  have hnd:=List.nodup_cons.1 hm.1
  have hDl:D < w3.heap.size:=Q0b hmD
  have hgr:=grownBy_putObj' w3 D (.deferred none)
  have hrow:∀r,some D=some r->D<=r/\∃o:Obj,w3.heap[r]?=some o/\o.isCells=false:=fun r e=>by cases e;exact⟨Nat.le_refl _,_,hmD,rfl⟩
  have hgl:∀g cs,(g,cs)∈Γ->g < D:=fun g cs h=>Nat.lt_of_lt_of_le (hi.prot _ (hi.glob g cs h).pr) hD
  have hp0:∀a,C.prot a->a.block < D:=fun a ha=>Nat.lt_of_lt_of_le (hi.prot a ha) hD
  have hi4:=hi3.trimB D hpl hgl
  have hg4:=hgo.trimB (B:=D) hp0
  have hf4:=hf3.trm (Q5f D w3 C3)
  have hp4:=Q67 D w3 C3
  have hi5:=Inv.rowed hgr hrow hi4 (Nat.le_of_lt hDl) hp4 hpl
  have hg5:=Goes.rowed hgr hrow hg4 (Nat.le_of_lt hDl) hD (fun k hk=>Nat.lt_of_lt_of_le (hi.base k hk) hD) hp0
  have hf5:=hf4.ext (Ext.rowed hgr hrow (Nat.le_of_lt hDl) hp4)
  refine⟨by simp,.inl ⟨D,_,rfl,run_takeDeferred hmD,?_⟩⟩
  refine Q73 hT h0 hi hfin hpl Ds _ _ hg5 hi5 hf5 ⟨hnd.2,fun x hx=>?_⟩
  obtain⟨hx1,hx2⟩:=hm.2 x (List.mem_cons_of_mem _ hx)
  exact⟨hx1,(World.putObj_heap_other (fun e=>hnd.1 (by first|(rw[e];exact hx)|(rw[←e];exact hx)))).trans hx2⟩
section
variable {P:Program}{T:Tab}{Γ:List (Nat×List AC)}{N:Nat}{F:Nat->Prop}{w0:World}{C0:Ctx}
def PostM (P:Program)(Γ:List (Nat×List AC))(N:Nat)(F:Nat->Prop)(w0:World)(C0:Ctx)(K:Cont):Exit->Act->World->Prop:=fun e a W=>
 ∃Ds fr σ C,a.defers=Ds.map Q4h/\Goes F isO w0 C0 W C/\Inv Γ F W C σ/\FrOk W C N fr a.tmps/\Marks w0.heap.size Ds W/\Q1v σ/\K e fr σ
def XM (P:Program)(T:Tab)(Γ:List (Nat×List AC))(N:Nat)(F:Nat->Prop)(w0:World)(C0:Ctx)(K:Cont)(c:Code)(fr:Fr)(σ:St):Prop:=
 ∀(Ds:List Nat) (W:World) (C:Ctx) (tmps:Array Value),Goes F isO w0 C0 W C->Inv Γ F W C σ->FrOk W C N fr tmps->Marks w0.heap.size Ds W->Q1v σ->c.wp P (PostM P Γ N F w0 C0 K) ⟨tmps,Ds.map Q4h⟩ W
theorem XM.code{K:Cont}{c:Code}{fr:Fr}{σ:St}(h:∀ds,ACode ⟨P,T,Γ,N,ds⟩ c (fun e fr σ=>Q1v σ/\K e fr σ) fr σ):XM P T Γ N F w0 C0 K c fr σ:=fun Ds W C tmps hg hi hf hm hpl=>by
 have hiF:Inv Γ (fun k=>F k∨k∈Ds) W C σ:=by
  refine hi.keepF (fun k hk=>hk.elim (hi.base k) fun e=>Q0b (hm.2 k e).2) fun i o g h hb hF=>?_
  obtain⟨⟨o',ho',hc'⟩,hn⟩:=hi.blockCells hpl h hb
  rcases hF with hF|hF
  ·exact hn hF
  ·have:=(hm.2 g hF).2
   rw[ho']at this;cases this;cases hc'
 refine wp_mono (h (Ds.map Q4h) (fun k=>F k∨k∈Ds) W C W C tmps (Goes.refl _ _ _ _) hiF hf) fun e a w3 hp=>?_
 obtain⟨hd,fr3,σ3,C3,hg3,hi3,hf3,hpl3,hk⟩:=hp
 have hg3':Goes F isO W C w3 C3:=⟨hg3.stp.mono fun k hk=>.inl hk,hg3.chg,hg3.no,fun a ha=>(hg3.newp a ha).imp id fun hn hF=>hn (.inl hF)⟩
 have hi3':Inv Γ F w3 C3 σ3:=hi3.keepF (fun k hk=>hi3.base k (.inl hk)) fun i o g h hb hF=>(hi3.blockCells hpl3 h hb).2 (.inl hF)
 exact⟨Ds,fr3,σ3,C3,hd,hg.trans hg3',hi3',hf3,⟨hm.1,fun D hD=>⟨(hm.2 D hD).1,(hg3.stp.block D (.inr hD)).trans (hm.2 D hD).2⟩⟩,hpl3,hk⟩
def thenM (next:Fr->St->Prop)(K:Cont):Cont:=fun e fr σ=>match e with
 |.normal=>next fr σ
 |e=>K e fr σ
theorem XM.seq{K:Cont}{x y:Code}{fr:Fr}{σ:St}(h:XM P T Γ N F w0 C0 (thenM (XM P T Γ N F w0 C0 K y) K) x fr σ):XM P T Γ N F w0 C0 K (.seq x y) fr σ:=fun Ds W C tmps hg hi hf hm hpl=>by
 refine wp_seq (wp_mono (h Ds W C tmps hg hi hf hm hpl) fun e a w' hp=>?_)
 obtain⟨Ds',fr',σ',C',hd,hg',hi',hf',hm',hpl',hk⟩:=hp
 cases e with
 |normal=>
  have:a=⟨a.tmps,Ds'.map Q4h⟩:=by cases a;simp_all
  show y.wp P _ a w'
  rw[this]
  exact hk Ds' w' C' a.tmps hg' hi' hf' hm' hpl'
 |_=>exact⟨Ds',fr',σ',C',hd,hg',hi',hf',hm',hpl',hk⟩
theorem XM.block{K:Cont}{id:Nat}{c:Code}{fr:Fr}{σ:St}(h:XM P T Γ N F w0 C0 (inBlk id K) c fr σ):XM P T Γ N F w0 C0 K (.block id c) fr σ:=fun Ds W C tmps hg hi hf hm hpl=>by
 refine wp_block (wp_mono (h Ds W C tmps hg hi hf hm hpl) fun e a w' hp=>?_)
 obtain⟨Ds',fr',σ',C',hd,hg',hi',hf',hm',hpl',hk⟩:=hp
 cases e with
 |exit j=>
  by_cases hj:j=id
  ·simp only[Exit.inBlock,if_pos hj]
   simp only[inBlk,if_pos hj]at hk
   exact⟨Ds',fr',σ',C',hd,hg',hi',hf',hm',hpl',hk⟩
  ·simp only[Exit.inBlock,if_neg hj]
   simp only[inBlk,if_neg hj]at hk
   exact⟨Ds',fr',σ',C',hd,hg',hi',hf',hm',hpl',hk⟩
 |_=>exact⟨Ds',fr',σ',C',hd,hg',hi',hf',hm',hpl',hk⟩
theorem XM.loop{K:Cont}{c:Code}{fr:Fr}{σ:St}(I:Nat->Fr->St->Prop){m:Nat}(h0:I m fr σ)(round:∀m fr σ,I m fr σ->XM P T Γ N F w0 C0 (thenM (fun fr' σ'=>∃m',m' < m/\I m' fr' σ') K) c fr σ):XM P T Γ N F w0 C0 K (.loop c) fr σ:=by
 have key:∀(n m:Nat) (fr:Fr) (σ:St),m < n->I m fr σ->∀(Ds:List Nat) (W:World) (C:Ctx) (tmps:Array Value),Goes F isO w0 C0 W C->Inv Γ F W C σ->FrOk W C N fr tmps->Marks w0.heap.size Ds W->Q1v σ->Code.rounds P c (PostM P Γ N F w0 C0 K) n ⟨tmps,Ds.map Q4h⟩ W:=by
  intro n
  induction n with
  |zero=>intro m fr σ hm;omega
  |succ n ih=>
   intro m fr σ hmn hI Ds W C tmps hg hi hf hm hpl
   rw[rounds_succ]
   refine wp_mono (round m fr σ hI Ds W C tmps hg hi hf hm hpl) fun e a w' hp=>?_
   obtain⟨Ds',fr',σ',C',hd,hg',hi',hf',hm',hpl',hk⟩:=hp
   cases e with
   |normal=>
    obtain⟨m',hlt,hI'⟩:=hk
    have:a=⟨a.tmps,Ds'.map Q4h⟩:=by cases a;simp_all
    show Code.rounds P c _ n a w'
    rw[this]
    exact ih m' fr' σ' (by omega) hI' Ds' w' C' a.tmps hg' hi' hf' hm' hpl'
   |_=>exact⟨Ds',fr',σ',C',hd,hg',hi',hf',hm',hpl',hk⟩
 intro Ds W C tmps hg hi hf hm hpl
 exact wp_loop_rounds (m+1) (key (m+1) m fr σ (by omega) h0 Ds W C tmps hg hi hf hm hpl)
theorem XM.lessR{K:Cont}{c:Code}{fr fr':Fr}{σ σ':St}{ρ:Nat->Nat}(hΓ:∀g cs,(g,cs)∈Γ->idsL isO cs)(hl:LessR ρ fr σ fr' σ')(hpl':Q1v σ')(h:XM P T Γ N F w0 C0 K c fr' σ'):XM P T Γ N F w0 C0 K c fr σ:=fun Ds W C tmps hg hi hf hm hpl=>by
 obtain⟨C',h1,h2,h3⟩:=hl.run hΓ hi hf
 exact h Ds W C' tmps (hg.trans h1) h2 h3 hm hpl'
theorem AFn.walkMM{g:Nat}{fn:Func}{c:Code}{args:List FV}{ou:Outer}{Q:FV->Outer->Prop}(N:Nat)(hT:TabOk P T)(hf:P.funcs[g]?=some fn)(hb:fn.body=some c)(hname:(fn.name == "runtime.NumGoroutine")=false)(hN:fn.ntmps=N)(hlen:Nat.ble args.length N=true)(hpl:Q1v ⟨0,[],ou⟩)
  (h:OuOk ou->∀(F:Nat->Prop) (w0:World) (C0:Ctx),XM P T Γ N F w0 C0 (fun e fr σ=>e=.ret/\Fin ⟨P,T,Γ,N,[]⟩ fn Q fr σ) c (argFr 0 args) ⟨0,[],ou⟩):AFn P Γ g args ou Q:=by
 subst hN
 refine AFn.ofMarks hf hb hname (Nat.le_of_ble_eq_true hlen) fun hou F w C tmps h0 hi hfr=>?_
 refine wp_mono (h hou F w C [] w C tmps (Goes.refl _ _ _ _) hi hfr ⟨List.nodup_nil,fun D hD=>by simp at hD⟩ hpl) fun e a w3 hp=>?_
 obtain⟨Ds,fr3,σ3,C3,hd,hg3,hi3,hf3,hm3,hpl3,rfl,hfin⟩:=hp
 show LeavesInM Fence.wide 0 P fn a.tmps (Owes Γ F w C Q) a.defers .returning w3
 rw[hd]
 exact Q73 hT h0 hi hfin hpl3 Ds w3 C3 hg3 hi3 hf3 hm3
structure RangeOk (P:Program)(T:Tab)(Γ:List (Nat×List AC))(N:Nat){α:Type}(J:List α->St->Prop)(S:List α->Prop)(g:Operand)(ps:Array Tmp)(assign body:Code)(fr:Fr)(F':Nat->Prop)(W:World)(C:Ctx)(tmps:Array Value)(ds:List Deferred) where
 gf:Nat
 first:Array Value
 encs:α->Array Value
 n:Nat
 b:Nat
 L:Nat
 a1:α->Array Value
 ev:Act.eval ⟨tmps,ds⟩ g=.func (.func gf) first #[]
 eg:∀args w,(callFunc gf args).run P w=.ok (.enter gf args) w
 seq:SeqB P gf first encs (KpA C b L) S n W
 hb:b < W.heap.size
 hps:∀x,(encs x).size=ps.size
 keep:∀(pre:List α) (x:α) (W1 W':World) (C' C'':Ctx) (σ' σ'':St),Goes F' isO W C W1 C'->Inv Γ (Q11 F' W1) W1 C' σ'->J pre σ'->Goes (Q11 F' W1) isO W1 C' W' C''->Inv Γ (Q11 F' W1) W' C'' σ''->J (pre++[x]) σ''->∀j,j < L->W'.cell? ⟨b,j,none⟩=W1.cell? ⟨b,j,none⟩
 asg:∀(l:Nat) (x:α) (W1:World) (K:Act->World->Prop),K ⟨a1 x,[]⟩ W1->assign.wpIn (Q47 l) 0 P (Exit.then K (fun _ _ _=>False)) { tmps:=(ps.zip (encs x)).foldl (fun t (p,v)=>t.setIfInBounds p v) tmps,defers:=[] } W1
 bod:∀(l:Nat) (pre:List α) (x:α) (W1:World) (C':Ctx) (σ':St),pre.length < n->Goes F' isO W C W1 C'->Inv Γ (Q11 F' W1) W1 C' σ'->FrOk W1 C' N fr tmps->J pre σ'->
  body.wpIn (Q47 l) 0 P (Post ⟨P,T,Γ,N,[]⟩ (Q11 F' W1) W1 C' (fun e _ σ''=>e=.normal/\J (pre++[x]) σ'')) ⟨a1 x,[]⟩ W1
theorem XM.rangeB{α:Type}{K:Cont}{g:Operand}{ps:Array Tmp}{assign body:Code}{fr:Fr}{σ:St}(J:List α->St->Prop)(S:List α->Prop)(hJ:∀pre σ,J pre σ->Q1v σ)(hj0:J [] σ)(hfi:∀k x,Fr.get k fr=some x->x.ids isO)
  (hraw : ∀ (F' : Nat -> Prop) (W : World) (C : Ctx) (tmps : Array Value) (ds : List Deferred), Inv Γ F' W C σ -> FrOk W C N fr tmps -> Nonempty (RangeOk P T Γ N J S g ps assign body fr F' W C tmps ds))
  (hdone : ∀ xs σ', S xs -> J xs σ' -> K .normal fr σ') : XM P T Γ N F w0 C0 K (.rangeFunc g ps assign body) fr σ := fun Ds W C tmps hg hi hf hm hpl => by
 have hiF:Inv Γ (fun k=>F k∨k∈Ds) W C σ:=by
  refine hi.keepF (fun k hk=>hk.elim (hi.base k) fun e=>Q0b (hm.2 k e).2) fun i o g h hb hF=>?_
  obtain⟨⟨o',ho',hc'⟩,hn⟩:=hi.blockCells hpl h hb
  rcases hF with hF|hF
  ·exact hn hF
  ·have:=(hm.2 g hF).2
   rw[ho']at this;cases this;cases hc'
 obtain⟨R⟩:=hraw _ W C tmps (Ds.map Q4h) hiF hf
 refine Qic (E:=⟨P,T,Γ,N,Ds.map Q4h⟩) J R.a1 R.b R.L (Goes.refl _ _ _ _) hiF hf hJ hj0 hfi R.ev R.eg R.seq R.hb R.hps R.keep R.asg R.bod ?_
 intro D xs W3 C3 σ3 hD hS hg3 hi3 hf3 hj hmD
 have hpl3:=hJ _ _ hj
 have hg3':Goes F isO W C W3 C3:=⟨hg3.stp.mono fun k hk=>.inl hk,hg3.chg,hg3.no,fun a ha=>(hg3.newp a ha).imp id fun hn hF=>hn (.inl hF)⟩
 have hi3':Inv Γ F W3 C3 σ3:=hi3.keepF (fun k hk=>hi3.base k (.inl hk)) fun i o g h hb hF=>(hi3.blockCells hpl3 h hb).2 (.inl hF)
 have hm3:Marks w0.heap.size Ds W3:=⟨hm.1,fun x hx=>⟨(hm.2 x hx).1,(hg3.stp.block x (.inr hx)).trans (hm.2 x hx).2⟩⟩
 refine⟨D::Ds,fr,σ3,C3,rfl,hg.trans hg3',hi3',hf3,hm3.cons (Nat.le_trans hg.stp.size hD) hmD fun hx=>?_,hpl3,hdone xs σ3 hS hj⟩
 have:=Q0b (hm.2 D hx).2
 omega
theorem XM.seqC{K:Cont}{x y:Code}{fr:Fr}{σ:St}(h:∀ds,ACode ⟨P,T,Γ,N,ds⟩ x (Q03 ⟨P,T,Γ,N,ds⟩ noFin [.inv fun fr σ=>Q1v σ/\XM P T Γ N F w0 C0 K y fr σ]) fr σ):XM P T Γ N F w0 C0 K (.seq x y) fr σ:=
 XM.seq (XM.code fun ds=>by
  intro F1 w1 C1 w C tmps hg hi hf
  refine wp_mono (h ds F1 w1 C1 w C tmps hg hi hf) fun e a w' hp=>?_
  obtain⟨hd,fr',σ',C',hg',hi',hf',hk⟩:=hp
  refine⟨hd,fr',σ',C',hg',hi',hf',?_⟩
  cases e with
  |normal=>exact hk
  |_=>exact (hk:False).elim)
theorem XM.fin{K:Cont}{c:Code}{fr:Fr}{σ:St}(h:∀ds,ACode ⟨P,T,Γ,N,ds⟩ c (Q03 ⟨P,T,Γ,N,ds⟩ (fun fr σ=>Q1v σ/\K .ret fr σ) [.inv fun _ _=>False]) fr σ):XM P T Γ N F w0 C0 K c fr σ:=
 XM.code fun ds=>by
  intro F1 w1 C1 w C tmps hg hi hf
  refine wp_mono (h ds F1 w1 C1 w C tmps hg hi hf) fun e a w' hp=>?_
  obtain⟨hd,fr',σ',C',hg',hi',hf',hk⟩:=hp
  refine⟨hd,fr',σ',C',hg',hi',hf',?_⟩
  cases e with
  |ret=>exact hk
  |_=>exact (hk:False).elim
theorem XM.condT{K:Cont}{o:Operand}{x y:Code}{fr:Fr}{σ:St}(hc:aEval Γ fr o=some (.one (.lit (.bool true))))(h:XM P T Γ N F w0 C0 K x fr σ):XM P T Γ N F w0 C0 K (.cond o x y) fr σ:=fun Ds W C tmps hg hi hf hm hpl=>by
 have hr:=Q01 (a:=⟨tmps,Ds.map Q4h⟩) hi hf hc
 simp only[RF,R]at hr
 exact wp_cond_true hr.1 (h Ds W C tmps hg hi hf hm hpl)
theorem XM.condF{K:Cont}{o:Operand}{x y:Code}{fr:Fr}{σ:St}(hc:aEval Γ fr o=some (.one (.lit (.bool false))))(h:XM P T Γ N F w0 C0 K y fr σ):XM P T Γ N F w0 C0 K (.cond o x y) fr σ:=fun Ds W C tmps hg hi hf hm hpl=>by
 have hr:=Q01 (a:=⟨tmps,Ds.map Q4h⟩) hi hf hc
 simp only[RF,R]at hr
 exact wp_cond_false hr.1 (h Ds W C tmps hg hi hf hm hpl)
theorem XM.cond{K:Cont}{o:Operand}{x y:Code}{fr:Fr}{σ:St}{b:Bool}(hc:aEval Γ fr o=some (.one (.lit (.bool b))))(ht:b=true->XM P T Γ N F w0 C0 K x fr σ)(hf:b=false->XM P T Γ N F w0 C0 K y fr σ):XM P T Γ N F w0 C0 K (.cond o x y) fr σ:=by
 cases b with
 |true=>exact XM.condT hc (ht rfl)
 |false=>exact XM.condF hc (hf rfl)
theorem XM.exit{K:Cont}{id:Nat}{fr:Fr}{σ:St}(h:K (.exit id) fr σ):XM P T Γ N F w0 C0 K (.exit id) fr σ:=fun Ds W C tmps hg hi hf hm hpl=>wp_exit ⟨Ds,fr,σ,C,rfl,hg,hi,hf,hm,hpl,h⟩
theorem XM.skip{K:Cont}{fr:Fr}{σ:St}(h:K .normal fr σ):XM P T Γ N F w0 C0 K .skip fr σ:=fun Ds W C tmps hg hi hf hm hpl=>wp_skip ⟨Ds,fr,σ,C,rfl,hg,hi,hf,hm,hpl,h⟩
theorem XM.ret{K:Cont}{fr:Fr}{σ:St}(h:K .ret fr σ):XM P T Γ N F w0 C0 K .ret fr σ:=fun Ds W C tmps hg hi hf hm hpl=>wp_ret ⟨Ds,fr,σ,C,rfl,hg,hi,hf,hm,hpl,h⟩
end
end Go.Abs
namespace Go.Abs
theorem AFn.frame{P:Program}{Γ:List (Nat×List AC)}{g:Nat}{args:List FV}{r:FV}(h:AFn P Γ g args (fun _=>none) (fun r' ou'=>r'=r/\ou'=fun _=>none)):APure P Γ g args r:=fun ou=>⟨h.1,fun F w C cargs h0 hi hr=>by
 obtain⟨F',hF'⟩:∃F':Nat->Prop,F'=fun k=>F k∨∃i o,ou i=some o/\o.block C (.o i)=some k:=⟨_,rfl⟩
 have hF:∀k,F k->F' k:=fun k hk=>by rw[hF'];exact .inl hk
 have hB:∀i o k,ou i=some o->o.block C (.o i)=some k->F' k:=fun i o k ho hb=>by rw[hF'];exact .inr ⟨i,o,ho,hb⟩
 have hi0:Inv Γ F' w C ⟨0,[],fun _=>none⟩:=by
  refine⟨fun k hk=>?_,hi.next,hi.glob,hi.prot,fun i o h=>?_,fun i j o o' g h1=>?_⟩
  ·rw[hF']at hk
   exact hk.elim (hi.base k) fun ⟨i,o,ho,hb⟩=>(AObj.block_lt (hi.obj (.o i) o ho).2 hb).2
  ·cases i <;> cases h
  ·cases i <;> cases h1
 refine (h.2 F' w C cargs h0 hi0 hr).mono fun e w' ⟨v,r',ou',C',he,hgo,h0',hi',hr',hq,ho'⟩=>?_
 have hx:Ext w C w' C':=⟨hgo.chg.cell,hgo.chg.prot,fun i _ ho=>hgo.chg.id i (Q52 h0 i ho) ho⟩
 have hnp:NewP F C C':=fun a ha=>(hgo.newp a ha).imp id (fun h hf=>h (hF _ hf))
 refine⟨v,r',ou,C',he,⟨hgo.stp.mono hF,hgo.chg,hgo.no,hnp⟩,h0',⟨fun k hk=>Nat.lt_of_lt_of_le (hi.base k hk) hgo.stp.size,h0',hi'.glob,hi'.prot,fun i o h=>?_,fun i j o o' g h1 h2 h3 h4=>?_⟩,hr',hq,rfl⟩
 ·cases i with
  |l k=>cases h
  |o k=>
   obtain⟨h1,h2⟩:=hi.obj (.o k) o h
   refine⟨(hx.id _ trivial h1).1,h2.keep hx h1 (fun g x hb hx=>?_) (fun a hb _ ha=>?_)⟩
   ·rw[hgo.stp.block g (hB k o g h hb)];exact hx
   ·exact (hgo.newp a ha).resolve_right (fun hn=>hn (hB k o _ h hb))
 ·refine hi.inj i j o o' g h1 h2 ?_ ?_
  ·rw[←AObj.block_ext hx (hi.obj i o h1).1];exact h3
  ·rw[←AObj.block_ext hx (hi.obj j o' h2).1];exact h4⟩
end Go.Abs
namespace Go.Abs
theorem Qm1{Γ:List (Nat×List AC)}{F:Nat->Prop}{w:World}{C:Ctx}{N:Nat}{fr:Fr}{σ:St}{tmps:Array Value}(hi:Inv Γ F w C σ)(hf:FrOk w C N fr tmps)(js:List Nat):∃k,(∀m,k<=m->σ.ou m=none)/\∀fr' σ',CedN (toOs js k) fr σ fr' σ'->∃C2,Goes F isO w C w C2/\Inv Γ F w C2 σ'/\FrOk w C2 N fr' tmps:=by
 have hnone:∀m,C.no<=m->σ.ou m=none:=fun m hm=>by
  cases hx:σ.ou m with
  |none=>rfl
  |some x=>
   have:m < C.no:=(hi.obj (.o m) x hx).1
   omega
 refine⟨C.no,hnone,fun fr' σ' hc=>?_⟩
 let C2:Ctx:={ C with no:=C.no+js.length,phi:=fun i=>match i with|.o m=>if m < C.no then C.phi (.o m)else (match js[m - C.no]? with|some j=>C.phi (.l j)|none=>C.phi (.o m))|.l m=>C.phi (.l m),tk:=fun i=>match i with|.o m=>if m < C.no then C.tk (.o m)else (match js[m - C.no]? with|some j=>C.tk (.l j)|none=>C.tk (.o m))|.l m=>C.tk (.l m) }
 have hx:Ext w C w C2:=⟨fun _ _=>rfl,fun _ h=>h,fun i _ ho=>by
  cases i with
  |l m=>exact⟨ho,rfl,rfl⟩
  |o m=>
   have hm:m < C.no:=ho
   refine⟨Nat.lt_of_lt_of_le hm (Nat.le_add_right _ _),?_,?_⟩
   ·show (if m < C.no then _ else _)=_;rw[if_pos hm];rfl
   ·show (if m < C.no then _ else _)=_;rw[if_pos hm];rfl⟩
 have hb:Bus (toOs js C.no) (fun _=>True) w C2 C:=⟨fun _ h=>h,fun i _ ho=>by
  cases i with
  |o m=>exact hx.id (.o m) trivial ho
  |l m=>
   simp only[toOs]
   cases hp:posOf m js with
   |none=>exact⟨ho,rfl,rfl⟩
   |some p=>
    have hjp:=Q6a hp
    have hlt:p < js.length:=(List.getElem?_eq_some_iff.1 hjp).1
    refine⟨Nat.add_lt_add_left hlt _,?_,?_⟩
    ·show (if C.no+p < C.no then _ else _)=_
     rw[if_neg (by omega),Nat.add_sub_cancel_left,hjp];rfl
    ·show (if C.no+p < C.no then _ else _)=_
     rw[if_neg (by omega),Nat.add_sub_cancel_left,hjp];rfl⟩
 have hok:∀i0 y,σ.get i0=some y->C.ok i0:=fun i0 y hy=>(hi.obj i0 y hy).1
 have hi':Inv Γ F w C2 σ':=by
  refine⟨hi.base,by rw[hc.n];exact hi.next,fun g cs hm=>(hi.glob g cs hm).ext hx,hi.prot,fun i x hxx=>?_,fun i1 i2 x1 x2 g h1 h2 h3 h4=>?_⟩
  ·obtain⟨i0,y,hy,rfl,rfl⟩:=hc.obj i x hxx
   obtain⟨k1,k2⟩:=hi.obj i0 y hy
   exact⟨(hb.id i0 trivial k1).1,ObjOk.bus hb (AObj.ids_all y) trivial k1 (fun _ h=>h) k2⟩
  ·obtain⟨a,y,hy,rfl,rfl⟩:=hc.obj i1 x1 h1
   obtain⟨b,z,hz,rfl,rfl⟩:=hc.obj i2 x2 h2
   rw[AObj.block_bus hb trivial (hok a y hy)]at h3
   rw[AObj.block_bus hb trivial (hok b z hz)]at h4
   rw[hi.inj a b y z g hy hz h3 h4]
 refine⟨C2,⟨Stp.refl _ _,hx.weaken (fun _ _=>trivial),Nat.le_add_right _ _,NewP.refl _ _⟩,hi',hf.1,fun d x hd=>?_⟩
 obtain⟨y,hy,hw⟩:=hc.fr d x hd
 obtain⟨u,hu,hr⟩:=hf.2 d y hy
 exact⟨u,hu,hw _ _ _ (RF.bus hb y u (FV.ids_true y) hr)⟩
theorem XM.cedes{P:Program}{T:Tab}{Γ:List (Nat×List AC)}{N:Nat}{F:Nat->Prop}{w0:World}{C0:Ctx}{K:Cont}{c:Code}{fr:Fr}{σ:St}(js:List Nat)(hnd:js.Nodup)(hou:OuOk σ.ou)
  (h : ∀ k, (∀ m, k <= m -> σ.ou m = none) -> ∃ fr' lo' os, CedFrN (toOs js k) fr fr' /\ CedLo (toOs js k) σ.lo js lo' /\ CedOs (toOs js k) σ.lo js os /\ Q1v ⟨σ.n, lo', ouAdd σ.ou k os⟩ /\ XM P T Γ N F w0 C0 K c fr' ⟨σ.n, lo', ouAdd σ.ou k os⟩) : XM P T Γ N F w0 C0 K c fr σ := fun Ds W C tmps hg hi hf hm hpl => by
 obtain⟨k,hk,hrun⟩:=Qm1 hi hf js
 obtain⟨fr',lo',os,h1,h2,h3,hpl',h4⟩:=h k hk
 obtain⟨C2,g1,g2,g3⟩:=hrun fr' ⟨σ.n,lo',ouAdd σ.ou k os⟩ ⟨h1.get,rfl,fun i x hx=>by
  cases i with
  |l m=>
   obtain⟨hp,y,hy,rfl⟩:=h2.get m x hx
   exact⟨.l m,y,hy,by simp[toOs,hp],rfl⟩
  |o m=>
   have hx':ouAdd σ.ou k os m=some x:=hx
   rcases Nat.lt_or_ge m k with hm|hm
   ·rw[Q1b hm]at hx'
    exact⟨.o m,x,hx',rfl,(AObj.sub_f (fun i hi=>by cases i with|l q=>exact hi.elim|o q=>rfl) x (hou m x hx')).symm⟩
   ·obtain⟨p,rfl⟩:∃p,m=k+p:=⟨m - k,by omega⟩
    rw[Q0q]at hx'
    obtain⟨j,y,q1,q2,rfl⟩:=h3.get p x hx'
    exact⟨.l j,y,q2,by simp[toOs,Q6e hnd q1],rfl⟩⟩
 exact h4 Ds W C2 tmps (hg.trans g1) g2 g3 hm hpl'
theorem XM.codeN{P:Program}{T:Tab}{Γ:List (Nat×List AC)}{N:Nat}{F:Nat->Prop}{w0:World}{C0:Ctx}{K:Cont}{c:Code}{fr:Fr}{σ:St}(h:∀ds,ACode ⟨P,T,Γ,N,ds⟩ c (Q03 ⟨P,T,Γ,N,ds⟩ noFin [.inv fun fr σ=>Q1v σ/\K .normal fr σ]) fr σ):XM P T Γ N F w0 C0 K c fr σ:=
 XM.code fun ds=>by
  intro F1 w1 C1 w C tmps hg hi hf
  refine wp_mono (h ds F1 w1 C1 w C tmps hg hi hf) fun e a w' hp=>?_
  obtain⟨hd,fr',σ',C',hg',hi',hf',hk⟩:=hp
  refine⟨hd,fr',σ',C',hg',hi',hf',?_⟩
  cases e with
  |normal=>exact hk
  |_=>exact (hk:False).elim
def gC (s:Nat)(es:List (List AC)):Option (Nat×Nat)->AC
 |none=>.lit (.slice none 0 0)
 |some (kn,cap)=>.arr (.o kn) s 0 es.length cap
def gK:Option (Nat×Nat)->List Nat
 |none=>[]
 |some (kn,_)=>[kn]
structure GO (s:Nat)(es:List (List AC))(oc:Option (Nat×Nat))(ov:Outer):Prop where
 nn:oc=none->es=[]
 ob:∀kn cap,oc=some (kn,cap)->ov kn=some (.cells (vec s es cap))/\es.length<=cap
theorem GO.keep{s:Nat}{es:List (List AC)}{oc:Option (Nat×Nat)}{ov ov':Outer}(h:GO s es oc ov)(hk:∀q∈gK oc,ov' q=ov q):GO s es oc ov':=⟨h.nn,fun kn cap e=>by
 obtain⟨h1,h2⟩:=h.ob kn cap e
 exact⟨by rw[hk kn (by rw[e];simp[gK])];exact h1,h2⟩⟩
@[simp] theorem ids_gC (s:Nat) (es:List (List AC)) (oc:Option (Nat×Nat)):(gC s es oc).ids isO:=by
 cases oc with
 |none=>simp[gC,AC.ids]
 |some p=>obtain⟨a,b⟩:=p;simp[gC,AC.ids,isO]
@[simp] theorem ids_gCL (n s:Nat) (es:List (List AC)) (oc:Option (Nat×Nat)):(gC s es oc).ids (inL n):=by
 cases oc with
 |none=>simp[gC,AC.ids]
 |some p=>obtain⟨a,b⟩:=p;simp[gC,AC.ids,inL]
theorem Qjf{s:Nat}{es:List (List AC)}{oc:Option (Nat×Nat)}{ov:Outer}(h:GO s es oc ov)(hl:∀x∈es,x.length=s):
  ∃(cap0:Nat) (o3:Outer),(∀(m:Nat) (lo:List (Nat×AObj)),BaseO ⟨m,lo,ov⟩ (gC s es oc) s es cap0 ⟨m,lo,o3⟩)/\(OuOk ov->OuOk o3)/\(∀q,q∉gK oc->o3 q=ov q)/\∀q∈gK oc,o3 q=some .dead:=by
 cases hn:oc with
 |none=>
  rw[h.nn hn]
  exact⟨0,ov,fun m lo=>BaseO.nil s,fun h=>h,fun q _=>rfl,fun q hq=>by simp[gK]at hq⟩
 |some p=>
  obtain⟨kn,cap⟩:=p
  obtain⟨h3,h4⟩:=h.ob kn cap hn
  refine⟨cap,updO ov kn .dead,fun m lo=>?_,fun h5=>Q17 h5 trivial,fun q hq=>Q05 _ (fun e1=>hq (by simp[gK];exact e1.symm)) _,fun q hq=>by simp[gK]at hq;subst hq;exact Q04 _ _ _⟩
  have hb:=BaseO.own (σ:=⟨m,lo,ov⟩) s cap es (.o kn) h3 hl h4
  rw[Q10]at hb
  exact hb
theorem GO.new{s:Nat}{es:List (List AC)}{kn cap:Nat}{o3:Outer}(hkn:∀m,kn<=m->o3 m=none)(hc:es.length<=cap):GO s es (some (kn,cap)) (ouAdd o3 kn [.cells (vec s es cap)])/\∀q o,o3 q=some o->ouAdd o3 kn [.cells (vec s es cap)] q=some o:=by
 refine⟨⟨(by simp),fun k c e=>?_⟩,fun q o h=>?_⟩
 ·cases e
  exact⟨by simpa using Q0q (ou:=o3) (k:=kn) (os:=[.cells (vec s es cap)]) 0,hc⟩
 ·rw[Q1b (Q4w hkn h)];exact h
theorem CedFrN.keepO{js:List Nat}{kk k:Nat}{y:FV}{fr r:Fr}(h:Fr.get k fr=some y)(hy:y.ids isO)(hr:CedFrN (toOs js kk) fr r):CedFrN (toOs js kk) fr ((k,y)::r):=
 CedFrN.cons h (FV.sub_f (fun i hi=>by cases i with|l k=>exact hi.elim|o k=>rfl) y hy) hr
end Go.Abs
namespace Go.Abs
mutual
def litA (β:Nat->Nat):AC->AC
 |.lit v=>.lit v
 |.any=>.any
 |.sl s es=>.sl s (litS β es)
 |.box cs=>.box (litL β cs)
 |.ptr (.o k) off=>.lit (.pointer (some ⟨β k,off,none⟩))
 |.ptr (.l k) off=>.ptr (.l k) off
 |.gs s es i=>.gs s es i
 |.arr i s off len cap=>.arr i s off len cap
 |.mp i=>.mp i
 |.fn f a b=>.fn f a b
 |.ifc t ag cs=>.ifc t ag cs
def litS (β:Nat->Nat):List (List AC)->List (List AC)
 |[]=>[]
 |e::es=>litL β e::litS β es
def litL (β:Nat->Nat):List AC->List AC
 |[]=>[]
 |c::cs=>litA β c::litL β cs
end
theorem Qf9(β:Nat->Nat):∀es:List (List AC),litS β es=es.map (litL β)
 |[]=>rfl
 |e::es=>by simp only[litS,List.map_cons];rw[Qf9 β es]
theorem Qfb(β:Nat->Nat):∀cs:List AC,litL β cs=cs.map (litA β)
 |[]=>rfl
 |c::cs=>by simp only[litL,List.map_cons];rw[Qfb β cs]
theorem Qfa(β:Nat->Nat)(es:List (List AC)):(litS β es).length=es.length:=by rw[Qf9];simp
theorem Qb4(β:Nat->Nat)(es:List AC):(litL β es).length=es.length:=by rw[Qfb];simp
section
variable {w:World}{C:Ctx}{β:Nat->Nat}
mutual
theorem R.lit(hβ:∀k,C.blk (.o k)=β k):∀(c:AC)(v:Value),R w C c v->R w C (litA β c) v
 |.lit u,v,hr=>by simpa only [litA]using hr
 |.any,v,hr=>by simpa only [litA]using hr
 |.sl s es,v,hr=>by
  simp only[litA,R]at *
  obtain⟨a,cap,rfl,hc,h2⟩:=hr
  refine⟨a,cap,by rw[Qfa],by rw[Qfa];exact hc,?_⟩
  rcases h2 with rfl|⟨ad,rfl,hs,h2⟩
  ·exact .inl rfl
  ·exact .inr ⟨ad,rfl,hs,RS.lit hβ s es ad h2⟩
 |.box cs,v,hr=>by
  simp only[litA,R]at *
  obtain⟨ad,rfl,hs,h2⟩:=hr
  exact⟨ad,rfl,hs,RL.lit hβ cs ad h2⟩
 |.ptr (.o k) off,v,hr=>by
  simp only[litA,R]at *
  rw[hr.2,hβ]
  exact⟨rfl,rfl⟩
 |.ptr (.l k) off,v,hr=>by simpa only [litA]using hr
 |.gs s es i,v,hr=>by simpa only [litA]using hr
 |.arr i s off len cap,v,hr=>by simpa only [litA]using hr
 |.mp i,v,hr=>by simpa only [litA]using hr
 |.fn f a b,v,hr=>by simpa only [litA]using hr
 |.ifc t ag cs,v,hr=>by simpa only [litA]using hr
theorem RS.lit(hβ:∀k,C.blk (.o k)=β k)(s:Nat):∀(es:List (List AC))(ad:Addr),RS w C s es ad->RS w C s (litS β es) ad
 |[],_,_=>by simp[litS,RS]
 |e::es,ad,hr=>by
  simp only[litS,RS]at *
  exact⟨by rw[Qb4];exact hr.1,RL.lit hβ e ad hr.2.1,RS.lit hβ s es _ hr.2.2⟩
theorem RL.lit(hβ:∀k,C.blk (.o k)=β k):∀(cs:List AC)(ad:Addr),RL w C cs ad->RL w C (litL β cs) ad
 |[],_,_=>by simp[litL,RL]
 |c::cs,ad,hr=>by
  simp only[litL,RL]at *
  obtain⟨⟨u,hu,hp,hr⟩,h2⟩:=hr
  exact⟨⟨u,hu,hp,R.lit hβ c u hr⟩,RL.lit hβ cs _ h2⟩
end
end
theorem RG.lit{w:World}{C:Ctx}{β:Nat->Nat}(hβ:∀k,C.blk (.o k)=β k){cs:List AC}{g:Nat}(h:RG w C cs g):RG w C (litL β cs) g:=⟨RL.lit hβ cs _ h.rl,by rw[Qb4];exact h.fin,by rw[Qb4];exact h.pr⟩
end Go.Abs
namespace Go.Abs
section
variable {E:Env}{fr:Fr}{K:Cont}{σ:St}
def seqK (E:Env)(y:Code)(K:Cont):Cont:=fun e fr σ=>match e with
 |.normal=>AIn E y K fr σ
 |e=>K e fr σ
theorem Tame.seqK{y:Code}(h:Tame K):Tame (seqK E y K):=h
theorem AIn.seq{x y:Code}(h:AIn E x (seqK E y K) fr σ):AIn E (.seq x y) K fr σ:=fun F w0 C0 w C tmps hg hi hf r n=>by
 refine wpIn_seq (wpIn_mono (h F w0 C0 w C tmps hg hi hf r n) fun e a w' ⟨hd,fr',σ',C',h1,h2,h3,hk⟩=>?_)
 cases e with
 |normal=>
  have:a=⟨a.tmps,E.ds⟩:=by cases a;simp_all
  show y.wpIn _ _ _ _ a w'
  rw[this]
  exact hk F w0 C0 w' C' a.tmps h1 h2 h3 r n
 |_=>exact⟨hd,fr',σ',C',h1,h2,h3,hk⟩
theorem AIn.condT{o:Operand}{x y:Code}(hc:aEval E.Γ fr o=some (.one (.lit (.bool true))))(h:AIn E x K fr σ):AIn E (.cond o x y) K fr σ:=fun F w0 C0 w C tmps hg hi hf r n=>by
 have hr:=Q01 (a:=⟨tmps,E.ds⟩) hi hf hc
 simp only[RF,R]at hr
 exact wpIn_cond (t:=true) hr.1 (h F w0 C0 w C tmps hg hi hf r n)
theorem AIn.condF{o:Operand}{x y:Code}(hc:aEval E.Γ fr o=some (.one (.lit (.bool false))))(h:AIn E y K fr σ):AIn E (.cond o x y) K fr σ:=fun F w0 C0 w C tmps hg hi hf r n=>by
 have hr:=Q01 (a:=⟨tmps,E.ds⟩) hi hf hc
 simp only[RF,R]at hr
 exact wpIn_cond (t:=false) hr.1 (h F w0 C0 w C tmps hg hi hf r n)
theorem AIn.cond{o:Operand}{x y:Code}{b:Bool}(hc:aEval E.Γ fr o=some (.one (.lit (.bool b))))(ht:b=true->AIn E x K fr σ)(hf:b=false->AIn E y K fr σ):AIn E (.cond o x y) K fr σ:=by
 cases b with
 |true=>exact AIn.condT hc (ht rfl)
 |false=>exact AIn.condF hc (hf rfl)
theorem AIn.regionN{id:Nat}{l:List Oper}(hK:Tame K)(hnd:∀o∈l,∀c,o.op≠.defer c)(h:AOps E l.toArray l (Q03 E noFin [.inv fun fr σ=>K .normal fr σ]) fr σ):AIn E (.region id l.toArray false) K fr σ:=
 AIn.region hK hnd (h.monoK fun e fr σ hk=>by
  cases e with
  |normal=>exact hk
  |_=>exact (hk:False).elim)
end
theorem XM.freezeArrO{P:Program}{Tb:Tab}{Γ:List (Nat×List AC)}{N:Nat}{F:Nat->Prop}{w0:World}{C0:Ctx}{c:Code}{K:Cont}{fr:Fr}{σ:St}(i j:Id)(off:Nat){s cap:Nat}{es:List (List AC)}{cs:List AC}(hg:σ.get i=some (.cells (vec s es cap)))(hl:∀x∈es,x.length=s)(hgj:(σ.set i .dead).get j=some (.cells cs))(hoff:cs[off]?=some (.arr i s 0 es.length cap))
  (hpl' : Q1v ((σ.set i .dead).set j (.cells (cs.set off (.sl s es))))) (h : XM P Tb Γ N F w0 C0 K c fr ((σ.set i .dead).set j (.cells (cs.set off (.sl s es))))) : XM P Tb Γ N F w0 C0 K c fr σ := by
 intro Ds w C tmps hgo hi hf hm hpl
 obtain⟨h1,h2,h3⟩:=Q8h hi hf hg (fr':=[]) trivial
 obtain⟨hok,zs,T,b1,b2,b3,b4⟩:=hi.obj i _ hg
 have key:∀v,R w (C.froze (C.blk i)) (.arr i s 0 es.length cap) v->R w (C.froze (C.blk i)) (.sl s es) v:=by
  intro u hr
  simp only[R,Nat.zero_mul]at hr
  refine⟨some ⟨C.blk i,0,none⟩,cap,hr.2.1,hr.2.2,.inr ⟨_,rfl,rfl,?_⟩⟩
  have hfl:=Q42 hl
  have hzl:=RV.length b3
  have hv:RV w (C.froze (C.blk i)) es.flatten (zs.take (es.length * s)):=by
   have:=(b3.take (es.length * s)).ext h1.chg
   rwa [vec,List.take_append_of_le_length (by omega),List.take_of_length_le (by omega)]at this
  refine RS.ofVals 0 hl hv fun j v hj=>⟨?_,.inr rfl⟩
  have h2:j < es.length * s:=by have:=(List.getElem?_eq_some_iff.1 hj).1;simp at this;omega
  rw[List.getElem?_take_of_lt h2]at hj
  rw[Nat.zero_add,cell_of_row _ _ _ _ _ _ b1]
  simpa using hj
 obtain⟨hokj,xs,Tj,o1,o2,o3,o4⟩:=h2.obj j _ hgj
 obtain⟨he,hi'⟩:=h2.turn hgj (g:=(C.froze (C.blk i)).blk j) rfl (w':=w) rfl (fun _ _=>rfl) (fun _ _ _=>rfl) (o':=.cells (cs.set off (.sl s es))) rfl fun _=>⟨xs,Tj,o1,o2,RV.setC key o3 hoff,o4⟩
 refine h Ds w _ tmps (hgo.trans h1.toO) hi' ⟨hf.1,fun k x hk=>?_⟩ hm hpl'
 obtain⟨u,hu,hr⟩:=hf.2 k x hk
 exact⟨u,hu,hr.ext h1.chg⟩
theorem XM.wkObj{P:Program}{Tb:Tab}{Γ:List (Nat×List AC)}{N:Nat}{F:Nat->Prop}{w0:World}{C0:Ctx}{c:Code}{K:Cont}{fr:Fr}{σ:St}(i:Id){cs cs':List AC}(hg:σ.get i=some (.cells cs))(hw:∀(w:World)(C:Ctx)(xs:List Value),RV w C cs xs->RV w C cs' xs)(hpl':Q1v (σ.set i (.cells cs')))(h:XM P Tb Γ N F w0 C0 K c fr (σ.set i (.cells cs'))):XM P Tb Γ N F w0 C0 K c fr σ:=by
 intro Ds w C tmps hgo hi hf hm hpl
 obtain⟨hok,xs,T,o1,o2,o3,o4⟩:=hi.obj i _ hg
 obtain⟨he,hi'⟩:=hi.turn hg (g:=C.blk i) rfl (w':=w) rfl (fun _ _=>rfl) (fun _ _ _=>rfl) (o':=.cells cs') rfl fun _=>⟨xs,T,o1,o2,hw w C xs o3,o4⟩
 exact h Ds w C tmps hgo hi' hf hm hpl'
theorem fr_isO:∀{fr:Fr},(∀p∈fr,p.2.ids isO)->∀k x,Fr.get k fr=some x->x.ids isO
 |[],_,k,x,h=>by cases h
 |(j,y)::fr,hp,k,x,h=>by
  simp only[Fr.get]at h
  cases hb:Nat.beq j k with
  |true=>rw[hb]at h;cases h;exact hp _ List.mem_cons_self
  |false=>rw[hb]at h;exact fr_isO (fun q hq=>hp q (List.mem_cons_of_mem _ hq)) k x h
theorem ouAdd1{ov:Outer}{kc:Nat}{o:AObj}(h:∀m,kc<=m->ov m=none):ouAdd ov kc [o] kc=some o/\∀q x,ov q=some x->ouAdd ov kc [o] q=some x:=by
 refine⟨by simpa using Q0q (ou:=ov) (k:=kc) (os:=[o]) 0,fun q x hx=>?_⟩
 rw[Q1b (Q4w h hx)];exact hx
theorem Q2c{p:AObj->Prop}{ov:Outer}{kc:Nat}{o:AObj}(h:∀k x,ov k=some x->p x)(ho:p o):∀k x,ouAdd ov kc [o] k=some x->p x:=fun k x hx=>by
 rcases Nat.lt_or_ge k kc with hk|hk
 ·rw[Q1b hk]at hx;exact h k x hx
 ·obtain⟨p,rfl⟩:∃p,k=kc+p:=⟨k - kc,by omega⟩
  rw[Q0q]at hx
  cases p with
  |zero=>simp at hx;subst hx;exact ho
  |succ p=>simp at hx
end Go.Abs
namespace Go.Proofs.YthboaankaaeemaaDoor
open Go Go.RowKit Go.Abs Go.CoreX
attribute [local go_sem] Oper.semAt_some
set_option maxRecDepth 100000 in
set_option maxHeartbeats 2000000 in
theorem tz_in(F:Fence)(n:Nat)(h7:F.fn 50)(hro:F.round=none)(x:Nat)(hx:x < 18446744073709551616)(h0:x≠0)(W:World)(hT:TabAt 0 Lib.deBruijn64tab W):
  CallsIn F n Tryd.prog 50 #[.int .u64 (x:Int)] W fun e W'=>e=.returned (.int .i64 (Lib.ctz 64 x:Nat))/\W'=W:=by
 obtain⟨hlow,hk⟩:=Lib.lowest_bit 64 x h0 hx
 obtain⟨hi,htab⟩:=Lib.deBruijn64_at _ hk
 have hcell:=hT _ hi
 rw[htab]at hcell
 have key:=tz64_key x _ hx h0 hlow
 obtain⟨idx,hidx⟩:∃idx,idx=2 ^ Lib.ctz 64 x * 285870213051353865 % 18446744073709551616 / 288230376151711744:=⟨_,rfl⟩
 rw[←hidx]at key hi hcell
 obtain⟨k,hkk⟩:∃k,k=Lib.ctz 64 x:=⟨_,rfl⟩
 rw[←hkk]at hcell hk ⊢
 have hx0:((x:Int)==0)=false:=by simp;omega
 clear hidx hlow htab hkk hT
 refine callsIn_of_wp Tryd.func50 rfl h7 ?_ hro
 simp only[Tryd.ntmps50,List.size_toArray,List.length_cons,List.length_nil,Nat.reduceAdd,Nat.reduceSub,Array.replicate_succ,Array.replicate_zero,List.push_toArray,List.append_toArray,List.nil_append,List.cons_append]
 gi_wp2_with (simp only[key])
 go_ret
 exact⟨rfl,rfl⟩
set_option maxRecDepth 100000 in
set_option maxHeartbeats 4000000 in
theorem all_in(F:Fence)(n:Nat)(h7:F.fn 28)(h50:F.fn 50)(hro:F.round=none)(l b L:Nat)(hL:L<=1048576)(ws:List Nat)(hws:WOk L ws)(Kp:World->World->Prop)(hKr:∀A,Kp A A)(hKt:∀A B C,Kp A B->Kp B C->Kp A C)
  (hKe:∀A B j,Kp A B->j < L->B.cell? ⟨b,j,none⟩=A.cell? ⟨b,j,none⟩) (hKT:∀A B,Kp A B->TabAt 0 Lib.deBruijn64tab A->TabAt 0 Lib.deBruijn64tab B) (J:List Nat->World->Prop)
  (hY:∀pre (x:Nat) W,J pre W->pre.length < (elems ws).length->YieldAt F (n - 1) Tryd.prog l #[.int .i64 (x:Int)] W fun e W'=>e=.returned (.bool true)/\J (pre++[x]) W'/\Kp W W')
  (W:World) (hc:∀(j w:Nat),ws[j]?=some w->W.cell? ⟨b,j,none⟩=some (.int .u64 (w:Int))) (hT:TabAt 0 Lib.deBruijn64tab W) (h0:J [] W) (hn:1<=n):
  CallsIn F n Tryd.prog 28 #[.slice (some ⟨b,0,none⟩) L L,.func (.yield l) #[] #[]] W fun e W'=>(∃v,e=.returned v)/\∃xs,xs=elems ws/\J xs W':=by
 refine callsIn_of_wp Tryd.func28 rfl h7 ?_ hro
 simp only[Tryd.ntmps28,List.size_toArray,List.length_cons,List.length_nil,Nat.reduceAdd,Nat.reduceSub,Array.replicate_succ,Array.replicate_zero,List.push_toArray,List.append_toArray,List.nil_append,List.cons_append]
 gi_wp2
 gi_loopw [8] (fun i wr=>∃k:Nat,k<=L/\i=.int .i64 (k:Int)/\J (Q1l 0 (ws.take k)) wr/\Kp W wr)
  (fun i _ => L - (intOf i).toNat)
 case atStart=>exact⟨0,Nat.zero_le _,rfl,by simpa[Q1l]using h0,hKr _⟩
 case round=>
  obtain⟨k,hk,rfl,hJs,hnx⟩:=hrel
  by_cases hlt:k < L
  ·obtain⟨w,hwk⟩:=Q00 (show k < ws.length by rw[hws.1];exact hlt)
   have hcx:wr.cell? ⟨b,0+k,none⟩=some (.int .u64 (w:Int)):=by rw[Nat.zero_add];exact (hKe W wr k hnx hlt).trans (hc k w hwk)
   have hcx':wr.cell? ⟨b,k,none⟩=some (.int .u64 (w:Int)):=(hKe W wr k hnx hlt).trans (hc k w hwk)
   have hki:((k:Nat):Int) < (L:Int):=by omega
   have hTr:=hKT W wr hnx hT
   have htl:(ws.take k).length=k:=by rw[List.length_take,hws.1];omega
   have hwl:=hws.2 w (List.mem_of_getElem? hwk)
   obtain⟨A,hA⟩:∃A,A=Q1l 0 (ws.take k):=⟨_,rfl⟩
   rw[←hA]at hJs
   have hsplit:∃r,elems ws=(A++(Q1k w).map (fun n=>64 * k+n))++r:=by
    have h2:ws=(ws.take k++[w])++ws.drop (k+1):=by rw[←Q0o hwk];simp
    refine⟨Q1l (0+(ws.take k++[w]).length) (ws.drop (k+1)),?_⟩
    unfold elems
    conv=>lhs;rw[h2]
    rw[Q4y,Q43,htl,←hA]
   gi_wp2_with (fail)
   gi_loopw [5] (fun v wr2=>∃(w1:Nat) (dn:List Nat),v=.int .u64 (w1:Int)/\J (A++dn.map (fun n=>64 * k+n)) wr2/\Kp wr wr2/\dn++Q1k w1=Q1k w/\w1<=w)
    (fun v _ => (intOf v).toNat)
   case atStart=>exact⟨w,[],rfl,by simpa using hJs,hKr _,rfl,Nat.le_refl _⟩
   case round=>
    obtain⟨w1,dn,rfl,hJ2,hk2,hel,hwle⟩:=hrel
    by_cases hw0:w1=0
    ·subst hw0
     gi_wp2_with (fail)
     have hz:Q1k 0=[]:=by rw[Q1k,dif_pos rfl]
     refine⟨⟨k+1,by omega,rfl,?_,hKt _ _ _ hnx hk2⟩,?_⟩
     ·rw[Q0o hwk,Q43,htl,←hA,←hel,hz,List.append_nil];exact hJ2
     ·simp only[intOf];omega
    ·have hlw:w1 < 18446744073709551616:=by omega
     have hne:((w1:Int)==0)=false:=by simp;omega
     have hctz:=(Lib.lowest_bit 64 w1 hw0 hlw).2
     obtain⟨cz,hcz⟩:∃cz,cz=Lib.ctz 64 w1:=⟨_,rfl⟩
     have htz:=fun n=>tz_in F n h50 hro w1 hlw hw0 _ (hKT _ _ hk2 hTr)
     rw[←hcz]at hctz
     simp only[←hcz]at htz
     have hele:Q1k w1=cz::Q1k (w1 &&& (w1 - 1)):=by rw[Q1k,dif_neg hw0,←hcz]
     have hlen:(A++dn.map (fun n=>64 * k+n)).length < (elems ws).length:=by
      obtain⟨r,hr⟩:=hsplit
      rw[hr,←hel,hele]
      simp
     obtain⟨fn,tmps,assign,body,hy,hR⟩:=hY _ (64 * k+cz) _ hJ2 hlen
     rw[show ((64 * k+cz:Nat):Int)=64 * (k:Int)+(cz:Int) by simp]at hy
     have hand:bits BinOp.and IntKind.u64 (w1:Int) ((w1:Int) - 1)=((w1 &&& (w1 - 1):Nat):Int):=by
      rw[show (w1:Int) - 1=((w1 - 1:Nat):Int) by omega]
      exact bits_and_u64_nat w1 (w1 - 1) hlw (by omega)
     clear hcz hlen
     gi_wp2_with (fail)
     refine (htz _).mono ?_
     rintro e W3 ⟨rfl,rfl⟩
     gi_wp2_with (fail)
     refine hR.mono ?_
     rintro e W4 ⟨rfl,hJ4,hk4⟩
     gi_wp2_with (simp only[hand])
     have hle:w1 &&& (w1 - 1)<=w1 - 1:=Nat.and_le_right
     refine⟨⟨w1 &&& (w1 - 1),dn++[cz],rfl,?_,hKt _ _ _ hk2 hk4,?_,by omega⟩,?_⟩
     ·rw[List.map_append,←List.append_assoc];exact hJ4
     ·rw[List.append_assoc,List.singleton_append,←hele];exact hel
     ·simp only[intOf,Int.toNat_natCast];omega
  ·obtain rfl:k=L:=by omega
   gi_wp2_with (fail)
   go_end0
   rw[List.take_of_length_le (by rw[hws.1];exact Nat.le_refl _)]at hJs
   exact⟨⟨_,rfl⟩,_,rfl,hJs⟩
end Go.Proofs.YthboaankaaeemaaDoor
namespace Go.Proofs.YthboaankaaeemaaDoor
open Go Go.RowKit Go.Abs Go.CoreX
theorem all_seq{C:Ctx}{w:World}{b L:Nat}(hL:L<=1048576){ws:List Nat}(hws:WOk L ws)(hb:b < w.heap.size)(hpt:∀j,j < 64->C.prot ⟨0,j,none⟩)(hlt:∀a,C.prot a->a.block < w.heap.size)(hT:TabAt 0 Lib.deBruijn64tab w)
  (hc:∀(j x:Nat),ws[j]?=some x->w.cell? ⟨b,j,none⟩=some (.int .u64 (x:Int))):
  SeqB Tryd.prog 28 #[.slice (some ⟨b,0,none⟩) L L] (fun x:Nat=>#[.int .i64 (x:Int)]) (KpA C b L) (fun xs=>xs=elems ws) (elems ws).length w:=by
 intro l J W hbel hY h0
 have hlen:Lib.deBruijn64tab.length=64:=by simp[Lib.deBruijn64tab]
 exact all_in Fence.wide 1 trivial trivial rfl l b L hL ws hws (KpA C b L) (fun A=>⟨⟨KeepsWalks.refl A,fun _ _=>rfl⟩,fun _ _=>rfl⟩) (fun A B D h k=>h.trans k) (fun A B j h hj=>h.2 j hj) (fun A B h hA j hj=>(h.1.2 _ (hpt j (by rw[hlen]at hj;exact hj))).trans (hA j hj)) J hY W
  (fun j x hx=>(hbel.cell (p:=⟨b,j,none⟩) hb).trans (hc j x hx)) (fun j hj=>(hbel.cell (p:=⟨0,j,none⟩) (hlt _ (hpt j (by rw[hlen]at hj;exact hj)))).trans (hT j hj)) h0 (Nat.le_refl 1)
end Go.Proofs.YthboaankaaeemaaDoor
namespace Go.Proofs.YthboaankaaeemaaDoor
open Go Go.Abs Go.CoreX
theorem FE_of{e:List Ex}(he:okB e)(h:check e=0):FE e where
 l:=he.eo.l
 sh:=fun x hx=>⟨⟨x.kids,rfl,Q77 h x hx⟩⟩
 k:=((Q1d e).1 (Q1u h).1).2.1.k
 kl:=fun x hx=>(he.eo.x x hx).k
 bl:=fun x hx=>(he.eo.x x hx).b
 al:=fun x hx=>⟨(he.eo.x x hx).a,(he.eo.x x hx).ab⟩
mutual
theorem bnd_in(B:List Int):∀t:Tr,(∀k∈bndT t,k∈B)->allT (fun l=>∀k∈Q08 l.op l.binds l.alts,k∈B) t
 |.mk o n b ks a,h=>⟨fun k hk=>h k (by simp only[bndT,List.mem_append];exact .inl hk),Qjp B ks fun k hk=>h k (by simp only[bndT,List.mem_append];exact .inr hk)⟩
theorem Qjp(B:List Int):∀l:List Tr,(∀k∈bndTs l,k∈B)->allTs (fun l=>∀k∈Q08 l.op l.binds l.alts,k∈B) l
 |[],_=>trivial
 |t::l,h=>⟨bnd_in B t fun k hk=>h k (by simp only[bndTs,List.mem_append];exact .inl hk),Qjp B l fun k hk=>h k (by simp only[bndTs,List.mem_append];exact .inr hk)⟩
end
theorem Qm6{o n:Int}{b:List Int}{k:Nat}{a:List Alt}(h:ShN o n b k a)(h9:o≠9)(h2:¬(o=2∨o=4∨o=5)):b=[]:=by
 by_cases h7:o=7∨o=13
 ·exact (h.alts7 h7).2.1
 ·obtain⟨w,⟨ops,_,hw⟩,_,hb,_⟩:=h.want h7
  have h0:w.2.1=0:=by
   unfold wants at hw
   dsimp only at hw
   by_cases c0:o=0∨o=1∨o=17
   ·rw[if_pos c0]at hw;cases hw;rfl
   rw[if_neg c0,if_neg (fun e=>h2 (.inl e))]at hw
   by_cases c3:o=3
   ·rw[if_pos c3]at hw;cases hw;rfl
   rw[if_neg c3,if_neg (fun e=>h2 (.inr (.inl e))),if_neg (fun e=>h2 (.inr (.inr e)))]at hw
   by_cases c6:o=6
   ·rw[if_pos c6]at hw;cases hw;rfl
   rw[if_neg c6]at hw
   by_cases c8:o=8
   ·rw[if_pos c8]at hw
    by_cases c9:between n 0 11=true
    ·rw[if_pos c9]at hw;cases hw;rfl
    ·rw[if_neg c9]at hw;cases hw
   rw[if_neg c8,if_neg h9]at hw
   by_cases c10:o=10∨o=12
   ·rw[if_pos c10]at hw;cases hw;rfl
   rw[if_neg c10]at hw
   by_cases c11:o=11
   ·rw[if_pos c11]at hw;cases hw;rfl
   rw[if_neg c11]at hw
   by_cases c14:o=14∨o=15
   ·rw[if_pos c14]at hw;cases hw;rfl
   rw[if_neg c14]at hw
   by_cases c16:o=16
   ·rw[if_pos c16]at hw;cases hw;rfl
   ·rw[if_neg c16]at hw;cases hw
  rw[h0]at hb
  exact List.length_eq_zero_iff.1 (by omega)
theorem Qlt{e:List Ex}(h:check e=0){ν:Int->Int}(hν:((bndT (grow e)).map ν).Nodup):Q2u (listT [] (mapT ν (grow e)))=Q2u (listT [] (grow e)):=by
 have hf:=Q6u h
 have hm:listT [] (mapT ν (grow e))=(listT [] (grow e)).map (mapX ν):=Qfc (ν:=ν) (grow e) []
 rw[hm]
 obtain⟨_,_,_,p4⟩:=Q1u h
 refine Qgu (S:=fun x=>x∈bndT (grow e)) (fun x y hx hy=>Qfi hν x hx y hy) (fun x hx b hb=>?_) (Q2h _) (Q2h _)
 have hsh:ShN x.op x.n x.binds x.kids.length x.alts:=⟨⟨x.kids,rfl,Q77 hf x hx⟩⟩
 have p1:=Q4q (Q1f (grow e)) (by rw[Q2n];exact Qhf (bndT (grow e)) (grow e) [] p4 (fun k hk=>by simp at hk) fun _ hk=>hk) (labE (listT [] (grow e)) x) (List.mem_map_of_mem hx)
 have p2:=Q4q (Q1f (grow e)) (by rw[Q2n];exact bnd_in (bndT (grow e)) (grow e) fun _ hk=>hk) (labE (listT [] (grow e)) x) (List.mem_map_of_mem hx)
 have p1:x.op=0->x.n∈bndT (grow e):=p1
 have p2:∀k∈Q08 x.op x.binds x.alts,k∈bndT (grow e):=p2
 unfold idsX at hb
 simp only[List.mem_append]at hb
 rcases hb with (hb|hb)|hb
 ·split at hb
  ·rename_i h0
   simp at hb;subst hb;exact p1 h0
  ·simp at hb
 ·split at hb
  ·simp at hb
  ·rename_i h9
   by_cases h2:x.op=2∨x.op=4∨x.op=5
   ·exact p2 b (by unfold Q08;rw[if_pos h2];exact List.mem_append_left _ hb)
   ·rw[Qm6 hsh h9 h2]at hb
    simp at hb
 ·exact p2 b (by unfold Q08;exact List.mem_append_right _ hb)
def cFl (x:Nat×List Nat×Bool):List AC:=[int (x.1:Nat),.sl 1 ((x.2.1.map fun f:Nat=>(f:Int)).map cI),.lit (.bool x.2.2)]
@[simp] theorem ids_cNs (p:Abs.Id->Prop) (l:List Nat):idsS p (l.map (cI∘fun f:Nat=>(f:Int))):=Q1w (f:=cI∘fun f:Nat=>(f:Int)) (fun f=>Qja p _) l
@[simp] theorem ids_cFl (p:Abs.Id->Prop) (x:Nat×List Nat×Bool):idsL p (cFl x):=by simp[cFl]
@[simp] theorem ids_cFls (p:Abs.Id->Prop) (l:List (Nat×List Nat×Bool)):idsS p (l.map cFl):=Q1w (f:=cFl) (fun x=>ids_cFl p x) l
theorem Qkj(x:Nat×List Nat×Bool)(hx:x.2.1.length<=1048576):APure Tryd.prog Γt 20 [.agg (cFl x),.agg (cFl x)] (.one (.lit (.bool true))):=by
 obtain⟨a,fs,o⟩:=x
 have hq:=Qd2 hΓt (fs.map fun f:Nat=>(f:Int)) (fs.map fun f:Nat=>(f:Int)) (by simpa using hx)
 rw[decide_eq_true rfl]at hq
 have e1:(((a:Nat):Int)==((a:Nat):Int))=true:=by simp
 intro ou
 refine AFn.walk 24 tabOk Tryd.func20 rfl (by kernel_rfl) rfl rfl fun hou=>?_
 repeat ((fail_if_success ((with_reducible refine oj ?_);refine AOps.atDst 11 rfl ?_));first|refine zO ?_)
 refine AOps.wk 10 rfl (y:=.one (.lit (.bool true))) (.ofEq (by show FV.one (.lit (.bool (((a:Nat):Int)==((a:Nat):Int))))=_;rw[e1])) ?_
 cases o with
 |_=>
  refine zM ?_
  refine zca hΓt hq hou ?_
  refine zM ?_
  exact APure.fin rfl (.refl _) (by simp) hou rfl
theorem Qmh(l:List (Nat×List Nat×Bool))(hl:l.length<=1048576)(hx:∀x∈l,x.2.1.length<=1048576):APure Tryd.prog Γt 22 [.one (.sl 3 (l.map cFl)),.one (.sl 3 (l.map cFl)),.one (.fn (.func 20) [] [])] (.one (.lit (.bool true))):=by
 intro ou
 refine AFn.walk 32 tabOk Tryd.func22 rfl (by kernel_rfl) rfl rfl fun hou=>?_
 refine zA ?_
 refine ACode.cond rfl (fun hb=>?_) (fun hb=>?_)
 ·exact absurd hb (by simp)
 refine zA ?_
 refine ACode.loopR hΓt (α:=Nat) (fun j=>[(17,.one (int j)),(16,.one (int (l.map cFl).length)),(15,.one (.sl 3 (l.map cFl))),(1,.one (.sl 3 (l.map cFl))),(2,.one (.fn (.func 20) [] []))]) (fun j=>⟨0,[],ou⟩) (fun m j=>j<=l.length/\m=l.length - j) (a0:=0) (ρ:=_root_.id) ⟨by omega,rfl⟩
  (LessR.of rfl zFS (by simp) zLO rfl rfl hou) fun m j hj=>?_
 obtain⟨hjl,rfl⟩:=hj
 refine zA ?_
 refine ACode.cond rfl (fun hb=>?_) (fun hb=>?_)
 ·have hlt:j < l.length:=by simp at hb;omega
  obtain⟨x,hxj⟩:=Q00 hlt
  have hg:(l.map cFl)[j]?=some (cFl x):=by simp[hxj]
  refine zA ?_
  refine zS (zIA rfl rfl rfl (by omega) hg) ?_
  refine zA ?_
  refine zS (zIA rfl rfl rfl (by omega) hg) ?_
  refine zA ?_
  refine zca hΓt (Qkj x (hx x (List.mem_of_getElem? hxj))) hou ?_
  refine zM ?_
  exact cInv ⟨l.length - (j+1),j+1,_root_.id,by omega,⟨by omega,rfl⟩,LessR.of rfl zFS (by simp) zLO rfl rfl hou⟩
 ·refine zA ?_
  exact APure.fin rfl (.refl _) (by simp) hou rfl
def noO:Outer:=fun _=>none
def OfC:Prop:=∀e:List Ex,okB e->check e=0->AFn Tryd.prog Γt 7 [.one (.sl 5 (e.map cEx))] noO (fun r ou'=>r=.tup [.one (.sl 3 ((Q2u e).map cFl)),.one (int 0)]/\ou'=noO)
def FactC:Prop:=AFn Tryd.prog Γt 8 [] noO (fun r ou'=>r=.one (.lit (.bool true))/\ou'=noO)
def SzC:Prop:=∀e:List Ex,okB e->check e=0->(Q2u e).length<=1048576/\∀x∈Q2u e,x.2.1.length<=1048576
theorem Q98(hOf:OfC)(hfact:FactC)(hsz:SzC)(e:List Ex)(he:okB e)(n:Int):AFn Tryd.prog Γt 5 [.one (.sl 5 (e.map cEx)),.one (int n)] noO (fun r ou'=>r=.one (.lit (.bool true))/\ou'=noO):=by
 refine AFn.walk 59 tabOk Tryd.func5 rfl (by kernel_rfl) rfl rfl fun hou=>?_
 have co:=APure.t (Qmd e he)
 refine zA ?_
 refine zca hΓt co hou ?_
 refine zA ?_
 refine zS (AStep.max2 (t:=3) (ty:=3) rfl rfl rfl) ?_
 refine zA ?_
 refine zS (AStep.rem rfl rfl rfl (by simp)) ?_
 obtain⟨f,hf,hf0,hf1⟩:∃f:Int,Int.tmod (if n > 0 then n else 0) 3000=f/\0<=f/\f < 3000:=by
  have h0:(0:Int)<=if n > 0 then n else 0:=by split <;> omega
  generalize (if n > 0 then n else 0)=m at h0
  refine⟨_,rfl,?_⟩
  rw[Int.tmod_eq_emod_of_nonneg h0]
  omega
 rw[hf]
 clear hf
 have c1:=APure.t (Qmc e he f)
 by_cases h:check e=0
 ·have hns:=Ql6 h
  have hend:=Qhx (grow e) nmN f
  have hT1:(rnT nmN f (grow e)).2.2<=1048576:=by omega
  have hre:Q5l e f=(listT [] (rnT nmN f (grow e)).1,0):=by
   unfold Q5l
   have hT2:(rnT (fun _=>none) f (grow e)).2.2<=1048576:=hT1
   rw[if_neg (by simpa using h),if_neg (by omega),if_neg (by omega)]
  have hor:order e=(listT [] (grow e),0):=by unfold order;rw[if_neg (by simpa using h)]
  rw[hre]at c1
  simp only at c1
  have hcg:=Qlz h hf0 hT1
  have hog:=okB_rn he h nmN f
  obtain⟨ν,hν,hνn⟩:=rn_mapT h f
  have hflow:=Qlt h hνn
  rw[←hν]at hflow
  have hokT:okT (grow e):=he.t (Q15 h).k (Q15 h).ne
  have hbf:okB (listT [] (grow e)):=Qf2 (Qdf _ hokT) (by
   have:=Q5r h
   have h2:=Q26 (grow e) []
   simp only[List.length_nil]at h2
   have:=he.eo.l
   omega)
  rw[hor]
  simp only
  refine zca hΓt c1 hou ?_
  refine zM ?_
  refine AOps.call1 hΓt rfl rfl rfl rfl rfl rfl rfl (by simp[FV.ids,idsF]) hou (hOf (listT [] (grow e)) hbf (Q6u h)) fun r o1 hq hids ho1=>?_
  obtain⟨rfl,rfl⟩:=hq
  refine zM ?_
  refine AOps.call1 hΓt rfl rfl rfl rfl rfl rfl rfl (by simp[FV.ids,idsF]) hou (hOf _ hog hcg) fun r o1 hq hids ho1=>?_
  obtain⟨rfl,rfl⟩:=hq
  rw[hflow]
  refine zM ?_
  refine AOps.call1 hΓt rfl rfl rfl rfl rfl rfl rfl (by simp[FV.ids,idsF]) hou hfact fun r o1 hq hids ho1=>?_
  obtain⟨rfl,rfl⟩:=hq
  refine zM ?_
  obtain⟨z1,z2⟩:=hsz _ hbf (Q6u h)
  refine zca hΓt (Qmh _ z1 z2) hou ?_
  refine zM ?_
  exact AFn.fin' rfl (WkF.ofEq (by simp)) (by simp) hou ⟨rfl,rfl⟩
 ·have hr:Q5l e f=([],check e):=by unfold Q5l;rw[if_pos h]
  have hor:order e=([],check e):=by unfold order;rw[if_pos h]
  rw[hr]at c1
  rw[hor]
  simp only
  refine zca hΓt c1 hou ?_
  repeat ((fail_if_success ((with_reducible refine oj ?_);refine AOps.atDst 29 rfl ?_));first|refine zO ?_)
  refine AOps.wk 28 rfl (y:=.one (.lit (.bool true))) (.ofEq (by show FV.one (.lit (.bool (check e != 0)))=_;simp[h])) ?_
  refine zM ?_
  refine AOps.call1 hΓt rfl rfl rfl rfl rfl rfl rfl (by simp[FV.ids,idsF]) hou hfact fun r o1 hq hids ho1=>?_
  obtain⟨rfl,rfl⟩:=hq
  refine zM ?_
  exact AFn.fin' rfl (WkF.ofEq rfl) (by simp) hou ⟨rfl,rfl⟩
end Go.Proofs.YthboaankaaeemaaDoor
namespace Go.CoreX
theorem Qlf{w:Nat}(h0:w≠0)(hw:w < 18446744073709551616):∀i,i<=Lib.ctz 64 w->(w &&& (w - 1)).testBit i=false:=fun i hi=>by
 obtain⟨m,hm,_⟩:=Lib.ctzFrom_spec 64 w (by omega) hw
 have e:Lib.ctz 64 w=Lib.ctzFrom 64 w:=by simp[Lib.ctz,h0]
 rw[e]at hi
 obtain⟨c,hc⟩:∃c,c=Lib.ctzFrom 64 w:=⟨_,rfl⟩
 rw[←hc]at hm hi
 rw[Nat.testBit_and,Bool.and_eq_false_iff]
 by_cases hic:i < c
 ·left
  rw[hm,Nat.testBit_two_pow_mul]
  simp;omega
 ·right
  have hi2:i=c:=by omega
  subst hi2
  have hp:0 < 2 ^ i:=Nat.pow_pos (by omega)
  have h1:w - 1=2 ^ i * (2 * m)+(2 ^ i - 1):=by
   rw[hm,Nat.mul_add,Nat.mul_one];omega
  rw[h1,Nat.testBit_two_pow_mul_add _ (by omega),if_neg (by omega)]
  simp
theorem Qgx(w:Nat)(hw:w < 18446744073709551616):∀k,(∀i,i < k->w.testBit i=false)->(Q1k w).length<=64 - k:=by
 induction w using Nat.strongRecOn with
 |_ w ih=>
  intro k hk
  rw[Q1k]
  split
  ·simp
  ·rename_i h0
   obtain⟨h1,h2⟩:=Lib.lowest_bit 64 w h0 hw
   have hle:w &&& (w - 1)<=w - 1:=Nat.and_le_right
   have hb:w.testBit (Lib.ctz 64 w)=true:=by
    have h3:(w &&& (2 ^ 64 - w)).testBit (Lib.ctz 64 w)=true:=by rw[h1];simp
    rw[Nat.testBit_and,Bool.and_eq_true]at h3
    exact h3.1
   have hkc:k<=Lib.ctz 64 w:=by
    by_cases hlt:Lib.ctz 64 w < k
    ·rw[hk _ hlt]at hb;cases hb
    ·omega
   have:=ih (w &&& (w - 1)) (by omega) (by omega) (Lib.ctz 64 w+1) fun i hi=>Qlf h0 hw i (by omega)
   rw[List.length_cons]
   omega
theorem Q6r:∀(s:List Nat)(k:Nat),(∀w∈s,w < 18446744073709551616)->(Q1l k s).length<=64 * s.length
 |[],k,_=>by simp[Q1l]
 |w::s,k,h=>by
  have h1:=Qgx w (h w List.mem_cons_self) 0 fun i hi=>by omega
  have h2:=Q6r s (k+1) fun x hx=>h x (List.mem_cons_of_mem _ hx)
  simp only[Q1l,List.length_append,List.length_map,List.length_cons]
  omega
end Go.CoreX
namespace Go.Proofs.YthboaankaaeemaaDoor
open Go Go.Abs Go.CoreX
theorem Qgv(e:List Ex):(Q2u e).length<=e.length:=by
 unfold Q2u
 have key:∀n,((List.range n).flatMap fun i=>if (e.getD i ⟨0,0,[],[],[]⟩).op=3 then [Q4n e i (e.getD i ⟨0,0,[],[],[]⟩)]else []).length<=n:=by
  intro n
  induction n with
  |zero=>simp
  |succ n ih=>
   rw[List.range_succ,List.flatMap_append,List.length_append]
   simp only[List.flatMap_cons,List.flatMap_nil,List.append_nil]
   split
   ·rw[List.length_singleton];omega
   ·rw[List.length_nil];omega
 exact key e.length
theorem szC:SzC:=fun e he hc=>by
 have hl:e.length<=4096:=((Q1d e).1 (Q1u hc).1).1
 refine⟨Nat.le_trans (Qgv e) (by omega),fun x hx=>?_⟩
 unfold Q2u at hx
 obtain⟨i,_,hx⟩:=List.mem_flatMap.1 hx
 split at hx
 ·simp only[List.mem_cons,List.not_mem_nil,or_false]at hx
  subst hx
  obtain⟨n,hn⟩:=stops (Q2h e)
  have hW:=(Q4b (Q2h e) n).1
  rw[Q2t (Q2h e) hn]at hW
  obtain⟨h1,h2⟩:=hW (nodeR ((e.getD i ⟨0,0,[],[],[]⟩).kids.getD 0 0))
  have h3:=Q6r _ 0 h2
  rw[h1]at h3
  refine Nat.le_trans (List.length_filter_le _ _) (Nat.le_trans h3 ?_)
  unfold words
  omega
 ·simp at hx
theorem rl_get{w:World}{C:Ctx}{g:Nat}:∀{cs:List AC}{off j:Nat}{c:AC},RL w C cs ⟨g,off,none⟩->cs[j]?=some c->∃u,w.cell? ⟨g,off+j,none⟩=some u/\C.prot ⟨g,off+j,none⟩/\R w C c u
 |[],off,j,c,_,h=>by simp at h
 |c0::cs,off,0,c,hr,h=>by
  simp only[RL]at hr
  obtain⟨⟨u,h1,h2,h3⟩,_⟩:=hr
  simp at h;subst h
  exact⟨u,h1,h2,h3⟩
 |c0::cs,off,j+1,c,hr,h=>by
  simp only[RL]at hr
  obtain⟨u,h1,h2,h3⟩:=rl_get hr.2 (show cs[j]?=some c by simpa using h)
  exact⟨u,by rw[show off+(j+1)=off+1+j by omega];exact h1,by rw[show off+(j+1)=off+1+j by omega];exact h2,h3⟩
theorem Qb0{Γ:List (Nat×List AC)}{F:Nat->Prop}{W:World}{C:Ctx}{σ:St}{k:Nat}{ws:List Nat}(hi:Inv Γ F W C σ)(h:σ.get (.o k)=some (.cells (wC ws))){j w:Nat}(hj:ws[j]?=some w):W.cell? ⟨C.blk (.o k),j,none⟩=some (.int .u64 (w:Int)):=by
 obtain⟨_,xs,T,h1,h2,h3,h4⟩:=hi.obj _ _ h
 have e:wC ws=(ws.map fun w:Nat=>Value.int .u64 (w:Int)).map .lit++[]:=by simp[wC,cW,List.map_map]
 rw[e]at h3
 obtain⟨h5,h6⟩:=RV.lits h3
 simp only[RV]at h6
 rw[h6,List.append_nil]at h5
 subst h5
 unfold World.cell?
 rw[h1]
 simp[hj]
theorem tab_at{F:Nat->Prop}{W:World}{C:Ctx}{σ:St}(hi:Inv Γt F W C σ):TabAt 0 Lib.deBruijn64tab W/\∀j,j < 64->C.prot ⟨0,j,none⟩:=by
 have hg:=(hi.glob 0 dbC (by simp[Γt])).rl
 have hl:Lib.deBruijn64tab.length=64:=by simp[Lib.deBruijn64tab]
 have key:∀j,j < 64->∃u,W.cell? ⟨0,0+j,none⟩=some u/\C.prot ⟨0,0+j,none⟩/\R W C (.lit (.int .u8 ((Lib.deBruijn64tab.getD j 0:Nat):Int))) u:=fun j hj=>rl_get hg (by
  have:Lib.deBruijn64tab[j]?=some (Lib.deBruijn64tab.getD j 0):=by rw[List.getD_eq_getElem?_getD,List.getElem?_eq_getElem (by rw[hl];exact hj)];rfl
  unfold dbC
  rw[List.getElem?_map,this]
  rfl)
 refine⟨fun j hj=>?_,fun j hj=>?_⟩
 ·obtain⟨u,h1,_,h3⟩:=key j (by rw[hl]at hj;exact hj)
  simp only[R]at h3
  rw[Nat.zero_add]at h1
  rw[h1,h3.1]
 ·obtain⟨u,_,h2,_⟩:=key j hj
  rwa [Nat.zero_add]at h2
def Q16:AObj->Prop
 |.cells _=>True
 |.tok _ _ _=>True
 |.dead=>True
 |_=>False
theorem Qc6{p:Nat×AObj}{a:Nat}{cs:List AC}(hp:p∈[(a,AObj.cells cs)]):Q16 p.2:=by
 rcases List.mem_cons.1 hp with rfl|hp
 ·trivial
 ·cases hp
theorem Q9o{p:Nat×AObj}{a b:Nat}{cs:List AC}(hp:p∈[(b,AObj.dead),(a,AObj.cells cs)]):Q16 p.2:=by
 rcases List.mem_cons.1 hp with rfl|hp
 ·trivial
 ·exact Qc6 hp
theorem Q0j{n:Nat}{lo:List (Nat×AObj)}{ou:Outer}(h1:∀p∈lo,Q16 p.2)(h2:∀k o,ou k=some o->Q16 o):Q1v ⟨n,lo,ou⟩:=fun i o h=>by
 have h3:Q16 o:=by
  cases i with
  |o k=>exact h2 k o h
  |l k=>
   have h4:∀(lo:List (Nat×AObj)),(∀p∈lo,Q16 p.2)->lookL k lo=some o->Q16 o:=by
    intro lo
    induction lo with
    |nil=>intro _ h5;cases h5
    |cons p lo ih=>
     intro hp h5
     by_cases hpk:p.1=k
     ·subst hpk
      rw[show p=(p.1,p.2)from rfl,Q84]at h5
      cases h5;exact hp p List.mem_cons_self
     ·rw[show p=(p.1,p.2)from rfl,Qb3 hpk]at h5
      exact ih (fun q hq=>hp q (List.mem_cons_of_mem _ hq)) h5
   exact h4 lo h1 h
 cases o <;> first|trivial|exact h3
def flowN (e:List Ex)(n:Nat):List (Nat×List Nat×Bool):=(List.range n).flatMap fun i=>if (e.getD i ⟨0,0,[],[],[]⟩).op=3 then [Q4n e i (e.getD i ⟨0,0,[],[],[]⟩)]else []
theorem Q6p(e:List Ex)(n:Nat):flowN e (n+1)=flowN e n++(if (e.getD n ⟨0,0,[],[],[]⟩).op=3 then [Q4n e n (e.getD n ⟨0,0,[],[],[]⟩)]else []):=by simp[flowN,List.range_succ]
theorem Qcp(e:List Ex):∀n,(flowN e n).length<=n
 |0=>Nat.le_refl _
 |n+1=>by
  have:=Qcp e n
  rw[Q6p,List.length_append]
  split <;> simp <;> omega
def ofF (e:List Ex)(ks j:Nat)(oc:Option (Nat×Nat)):Fr:=[(20,.one (int (j:Nat))),(19,.one (int (e.map cEx).length)),(18,.one (.sl 5 (e.map cEx))),(6,.one (gC 3 ((flowN e j).map cFl) oc)),(5,.one (.ptr (.o ks) 0)),(1,.one (.box [.sl 5 (e.map cEx)]))]
structure OfI (e:List Ex)(oN:Outer)(j:Nat)(oc:Option (Nat×Nat))(ov:Outer):Prop where
 go:GO 3 ((flowN e j).map cFl) oc ov
 ok:OuOk ov
 pl:∀k o,ov k=some o->Q16 o
 old:∀k o,oN k=some o->ov k=some o
 new:∀q∈gK oc,oN q=none
def fnsL (l:List Nat):List (List AC):=(l.map fun f:Nat=>(f:Int)).map cI
structure RI (e:List Ex)(j kc:Nat)(oX:Outer)(pre:List Nat)(og:Option (Nat×Nat))(oz:Outer):Prop where
 c:oz kc=some (.cells [int (j:Nat),gC 1 (fnsL (pre.filter fun f=>f != e.length)) og,.lit (.bool (pre.contains e.length))])
 go:GO 1 (fnsL (pre.filter fun f=>f != e.length)) og oz
 ok:OuOk oz
 pl:∀k o,oz k=some o->Q16 o
 old:∀k o,oX k=some o->k≠kc->oz k=some o
 new:∀q∈gK og,oX q=none
theorem Q5w(l:List Nat)(f:Nat):fnsL (l++[f])=fnsL l++[[int (f:Nat)]]:=by simp[fnsL,cI]
theorem Qls(l:List Nat):∀x∈fnsL l,x.length=1:=by
 intro x hx
 obtain⟨z,_,rfl⟩:=List.mem_map.1 hx
 rfl
theorem RI.kc{e:List Ex}{j kc:Nat}{oX:Outer}{pre:List Nat}{og:Option (Nat×Nat)}{oz:Outer}(h:RI e j kc oX pre og oz)(hX:oX kc≠none):kc∉gK og:=fun hq=>hX (h.new kc hq)
@[simp] theorem ids_fnsL (p:Abs.Id->Prop) (l:List Nat):idsS p (fnsL l):=Q1w (f:=cI) (fun x=>Qja p x) _
theorem Q9p:Q16 .dead:=trivial
theorem Q2k{ov:Outer}(h:∀k o,ov k=some o->Q16 o){q:Nat}{o:AObj}(ho:Q16 o):∀k x,updO ov q o k=some x->Q16 x:=fun k x hx=>by
 by_cases e:q=k
 ·subst e;rw[Q04]at hx;cases hx;exact ho
 ·rw[Q05 _ e]at hx;exact h k x hx
theorem RI.other{e:List Ex}{j kc:Nat}{oX:Outer}{pre:List Nat}{og:Option (Nat×Nat)}{oz:Outer}(h:RI e j kc oX pre og oz)(hX:oX kc≠none){f:Nat}(hf:f=e.length):
  RI e j kc oX (pre++[f]) og (updO oz kc (.cells ([int (j:Nat),gC 1 (fnsL (pre.filter fun f=>f != e.length)) og,.lit (.bool (pre.contains e.length))].set (0+2) (.lit (.bool true))))):=by
 have e1:(pre++[f]).filter (fun f=>f != e.length)=pre.filter fun f=>f != e.length:=by simp[List.filter_append,hf]
 have e2:(pre++[f]).contains e.length=true:=by simp[hf]
 have hk:=h.kc hX
 refine⟨by rw[Q04,e1,e2];rfl,by rw[e1];exact h.go.keep fun q hq=>by rw[Q05 _ (fun e'=>hk (by rw[e'];exact hq))],Q17 h.ok (by simp),Q2k h.pl trivial,fun k o ho hne=>by rw[Q05 _ (Ne.symm hne)];exact h.old k o ho hne,h.new⟩
theorem RI.fn{e:List Ex}{j kc:Nat}{oX:Outer}{pre:List Nat}{og:Option (Nat×Nat)}{oz:Outer}(h:RI e j kc oX pre og oz)(hX:oX kc≠none){f:Nat}(hf:f≠e.length){o3:Outer}{kn cap:Nat}(hok:OuOk o3)(hb3:∀q,q∉gK og->o3 q=oz q)(hbn:∀q∈gK og,o3 q=some .dead)(hkn:∀m,kn<=m->o3 m=none)
  (hcap:(fnsL (pre.filter fun f=>f != e.length)++[[int (f:Nat)]]).length<=cap):
  RI e j kc oX (pre++[f]) (some (kn,cap)) (updO (ouAdd o3 kn [.cells (vec 1 (fnsL (pre.filter fun f=>f != e.length)++[[int (f:Nat)]]) cap)]) kc (.cells ([int (j:Nat),gC 1 (fnsL (pre.filter fun f=>f != e.length)) og,.lit (.bool (pre.contains e.length))].set (0+1) (.arr (.o kn) 1 0 (fnsL (pre.filter fun f=>f != e.length)++[[int (f:Nat)]]).length cap)))):=by
 have e1:(pre++[f]).filter (fun f=>f != e.length)=(pre.filter fun f=>f != e.length)++[f]:=by simp[List.filter_append,hf]
 have e2:(pre++[f]).contains e.length=pre.contains e.length:=by simp[Ne.symm hf]
 have hk:=h.kc hX
 obtain⟨g1,g2⟩:=GO.new (s:=1) (es:=fnsL (pre.filter fun f=>f != e.length)++[[int (f:Nat)]]) hkn hcap
 have hz:∀q o,oz q=some o->q∉gK og->o3 q=some o:=fun q o ho hq=>by rw[hb3 q hq];exact ho
 have hkc:kc≠kn:=fun e=>by
  have h1:=hz kc _ h.c hk
  rw[hkn kc (by omega)]at h1
  cases h1
 have hpl3:∀k o,o3 k=some o->Q16 o:=fun k o ho=>by
  by_cases hq:k∈gK og
  ·rw[hbn k hq]at ho;cases ho;trivial
  ·rw[hb3 k hq]at ho;exact h.pl k o ho
 have hids:(AObj.cells (vec 1 (fnsL (pre.filter fun f=>f != e.length)++[[int (f:Nat)]]) cap)).ids isO:=Q5d _ (by rw[←Q5w];simp)
 refine⟨by rw[Q04,e1,e2,Q5w];rfl,?_,Q17 (Q2c (p:=fun o=>o.ids isO) hok hids) (by simp[AC.ids,isO]),Q2k (Q2c (p:=Q16) hpl3 (show Q16 (.cells _)from trivial)) trivial,fun k o ho hne=>?_,fun q hq=>?_⟩
 ·rw[e1,Q5w]
  exact g1.keep fun q hq=>Q05 _ (fun e=>by simp[gK]at hq;exact hkc (e.trans hq)) _
 ·rw[Q05 _ (Ne.symm hne)]
  exact g2 _ _ (hz _ _ (h.old k o ho hne) fun hq=>by rw[h.new k hq]at ho;cases ho)
 ·simp[gK]at hq
  subst hq
  cases ho:oX q with
  |none=>rfl
  |some o=>
   have:=hz q o (h.old q o ho (fun e=>hkc e.symm)) fun hq=>by rw[h.new q hq]at ho;cases ho
   rw[hkn q (Nat.le_refl _)]at this
   cases this
theorem RI.froze{e:List Ex}{j kc:Nat}{oX:Outer}{pre:List Nat}{og:Option (Nat×Nat)}{oz:Outer}{P:Program}{T:Tab}{Γ:List (Nat×List AC)}{N:Nat}{F:Nat->Prop}{w0:World}{C0:Ctx}{K:Cont}{c:Code}{fr:Fr}(h:RI e j kc oX pre og oz)(hX:oX kc≠none)
  (hk : ∀ oy : Outer, oy kc = some (.cells [int (j : Nat), .sl 1 (fnsL (pre.filter fun f => f != e.length)), .lit (.bool (pre.contains e.length))]) -> OuOk oy -> (∀ k o, oy k = some o -> Q16 o) -> (∀ k o, oX k = some o -> k ≠ kc -> oy k = some o) -> XM P T Γ N F w0 C0 K c fr ⟨0, [], oy⟩) : XM P T Γ N F w0 C0 K c fr ⟨0, [], oz⟩ := by
 have hkc:=h.kc hX
 cases hg:og with
 |none=>
  subst hg
  have hn:=h.go.nn rfl
  have hc:=h.c
  rw[hn]at hc hk
  refine XM.wkObj (.o kc) hc (cs':=[int (j:Nat),.sl 1 [],.lit (.bool (pre.contains e.length))]) (fun w C xs hr=>?_) ?_ ?_
  ·simp only[gC,RV]at hr ⊢
   obtain⟨u,us,rfl,h1,u2,us2,rfl,h2,h3⟩:=hr
   exact⟨u,_,rfl,h1,u2,_,rfl,Wk.nilS 1 w C u2 h2,h3⟩
  ·rw[Q10];exact Q0j (by simp) (Q2k h.pl trivial)
  ·rw[Q10]
   exact hk _ (Q04 _ _ _) (Q17 h.ok (by simp[AC.ids])) (Q2k h.pl trivial) fun k o ho hne=>by rw[Q05 _ (Ne.symm hne)];exact h.old k o ho hne
 |some p=>
  obtain⟨kn,cap⟩:=p
  subst hg
  have hc:=h.c
  obtain⟨h1,h2⟩:=h.go.ob kn cap rfl
  have hne:kn≠kc:=fun e=>hkc (by simp[gK,e])
  have hset:(St.set ⟨0,[],oz⟩ (.o kn) .dead).set (.o kc) (.cells ([int (j:Nat),gC 1 (fnsL (pre.filter fun f=>f != e.length)) (some (kn,cap)),.lit (.bool (pre.contains e.length))].set 1 (.sl 1 (fnsL (pre.filter fun f=>f != e.length)))))=⟨0,[],updO (updO oz kn .dead) kc (.cells [int (j:Nat),.sl 1 (fnsL (pre.filter fun f=>f != e.length)),.lit (.bool (pre.contains e.length))])⟩:=by
   rw[Q10,Q10];rfl
  refine XM.freezeArrO (.o kn) (.o kc) 1 (s:=1) (cap:=cap) (es:=fnsL (pre.filter fun f=>f != e.length)) (cs:=[int (j:Nat),gC 1 (fnsL (pre.filter fun f=>f != e.length)) (some (kn,cap)),.lit (.bool (pre.contains e.length))]) h1 (Qls _) (by rw[Q10];show updO oz kn .dead kc=_;rw[Q05 _ hne];exact hc) rfl ?_ ?_
  ·rw[hset];exact Q0j (by simp) (Q2k (Q2k h.pl Q9p) trivial)
  ·rw[hset]
   exact hk _ (Q04 _ _ _) (Q17 (Q17 h.ok trivial) (by simp[AC.ids])) (Q2k (Q2k h.pl Q9p) trivial) fun k o ho hne2=>by
    rw[Q05 _ (Ne.symm hne2),Q05 _ (fun e=>by rw[←e,h.new kn (by simp[gK])]at ho;cases ho)]
    exact h.old k o ho hne2
theorem Q4u{ov:Outer}(h:∀k o,ov k=some o->Q16 o):Q1v ⟨0,[],ov⟩:=Q0j (fun p hp=>by cases hp) h
theorem Of_ok(e:List Ex)(he:okB e)(hE:check e=0->FE e):AFn Tryd.prog Γt 7 [.one (.sl 5 (e.map cEx))] noO (fun r ou'=>r=(if check e=0 then .tup [.one (.sl 3 ((Q2u e).map cFl)),.one (int 0)]else .tup [.one (.sl 3 []),.one (int (check e))])/\ou'=noO):=by
 have hc:=APure.t (Qbn e he)
 by_cases h:check e=0
 ·rw[h]at hc
  have hE':=hE h
  have hne:1<=e.length:=List.length_pos_iff.2 (Q15 h).ne
  have hel:=hE'.l
  rw[if_pos h]
  refine AFn.forget ?_
  refine AFn.walkMM 59 tabOk Tryd.func7 rfl (by kernel_rfl) rfl rfl ?_ fun hou F w0 C0=>?_
  ·intro i o h
   cases i <;> cases h
  refine XM.seqC fun ds=>?_
  refine zA ?_
  refine cInv ⟨Q0j (by simp[Q16]) (fun k o h=>by cases h),?_⟩
  refine XM.seqC fun ds=>?_
  refine zA ?_
  refine zca hΓt hc hou ?_
  refine zA ?_
  refine cInv ⟨Q0j (by simp[Q16]) (fun k o h=>by cases h),?_⟩
  refine XM.seqC fun ds=>?_
  refine zA ?_
  refine AOps.call1 hΓt rfl rfl rfl rfl rfl rfl rfl (by simp[FV.ids,idsF]) hou (Qkd e hE' hne _) fun r oS hq hids ho1=>?_
  obtain⟨y,n,rfl,hyn,hFR,hst,_⟩:=hq
  obtain⟨oN,hoN⟩:∃oN:Outer,oN=fun k=>if k=y.ks∨k∈y.nk then oS k else none:=⟨_,rfl⟩
  have hsub:∀k o,oN k=some o->oS k=some o:=fun k o hk=>by
   rw[hoN]at hk
   dsimp only at hk
   split at hk
   ·exact hk
   ·cases hk
  have hokN:OuOk oN:=fun k o hk=>ho1 k o (hsub k o hk)
  have hsN:oN y.ks=some (.cells [.sl 5 (e.map cEx),.sl 1 (nC (words e) y.nk),.mp (.o y.km),aS (words e) y.kh,aS (words e) y.ka,.lit (.bool (Q0g e n).2)]):=by
   rw[hoN]
   dsimp only
   rw[if_pos (.inl rfl)]
   exact FR.so' hFR
  have h0W:AllW e (Q0p e):=Q2h e
  have hfs:=Q2t h0W hst
  have hnN:∀i q,y.nk[i]?=some q->oN q=some (.cells (wC (Q0k e (.node i)))):=fun i q hq=>by
   rw[hoN]
   dsimp only
   rw[if_pos (.inr (List.mem_of_getElem? hq)),←hfs]
   exact hFR.ro (.node i) q hq
  have hplN:∀k o,oN k=some o->Q16 o:=fun k o hk=>by
   rw[hoN]at hk
   dsimp only at hk
   split at hk
   ·rename_i hh
    rcases hh with rfl|hh
    ·rw[hFR.so]at hk;cases hk;trivial
    ·obtain⟨i,hi⟩:=List.mem_iff_getElem?.1 hh
     rw[hFR.ro (.node i) k hi]at hk;cases hk;trivial
   ·cases hk
  have hwN:∀i,WOk (words e) (Q0k e (.node i)):=fun i=>by rw[←hfs];exact hFR.w _
  refine AOps.dropO hsub ?_
  clear hoN hFR hst hfs ho1 hsub
  refine zA ?_
  refine cInv ⟨Q0j (fun p hp=>Qc6 hp) hplN,?_⟩
  refine XM.seqC fun ds=>?_
  refine ACode.freeze1 (.l 0) 1 rfl rfl ?_
  refine zA ?_
  refine cInv ⟨Q0j (fun p hp=>Q9o hp) hplN,?_⟩
  refine XM.seq ?_
  refine XM.seqC fun ds=>?_
  refine zA ?_
  refine cInv ⟨Q0j (fun p hp=>Q9o hp) hplN,?_⟩
  refine XM.block ?_
  refine XM.loop (fun m fr σ=>∃(j:Nat) (oc:Option (Nat×Nat)) (ov:Outer) (ρ:Nat->Nat),j<=e.length/\OfI e oN j oc ov/\m=e.length - j/\LessR ρ fr σ (ofF e y.ks j oc) ⟨0,[],ov⟩) (m:=e.length) ⟨0,none,oN,_root_.id,by omega,⟨⟨fun _=>rfl,fun kn cap h=>by cases h⟩,hokN,hplN,fun _ _ h=>h,fun q hq=>by simp[gK]at hq⟩,by simp,LessR.of rfl (by unfold ofF;(repeat' first|exact FrSub.nil|refine zfc ?_|refine zfo ?_|refine zfp ?_)) (by simp[ofF,gC,flowN]) zLO rfl rfl hokN⟩ ?_
  rintro m fr σ ⟨j,oc,ov,ρ,hjl,hI,rfl,hl⟩
  refine XM.lessR hΓt hl (Q4u hI.pl) ?_
  clear hl
  have hgi:=ids_gC 3 ((flowN e j).map cFl) oc
  refine XM.seqC fun ds=>?_
  unfold ofF
  refine zA ?_
  refine cInv ⟨Q4u hI.pl,?_⟩
  refine XM.seq ?_
  refine XM.cond rfl (fun hb=>?_) (fun hb=>?_)
  ·have hlt:j < e.length:=by simp at hb;omega
   obtain⟨x,hx⟩:=Q00 hlt
   have hg:(e.map cEx)[j]?=some (cEx x):=by simp[hx]
   refine XM.skip ?_
   refine XM.seq (T:=tab) ?_
   refine XM.block ?_
   refine XM.seqC fun ds=>?_
   refine zA ?_
   refine zS (zIA rfl rfl rfl (by omega) hg) ?_
   refine zA ?_
   refine cInv ⟨Q0j (by simp[Q16,St.push,St.set,or_imp,forall_and]) hI.pl,?_⟩
   refine XM.seq ?_
   refine XM.seqC fun ds=>?_
   refine ACode.freeze1 (.l 0) 8 rfl rfl ?_
   refine zA ?_
   refine cInv ⟨Q0j (by simp[Q16,St.push,St.set,or_imp,forall_and]) hI.pl,?_⟩
   refine XM.cond rfl (fun hb3=>?_) (fun hb3=>?_)
   ·refine XM.exit ?_
    simp only[thenM,inBlk]
    have h3:x.op≠3:=by simpa using hb3
    have hfl:flowN e (j+1)=flowN e j:=by rw[Q6p,Q0a hx,if_neg h3,List.append_nil]
    refine XM.codeN (T:=tab) fun ds=>?_
    refine zM ?_
    refine cInv ⟨Q0j (by simp[Q16,St.push,St.set,or_imp,forall_and]) hI.pl,?_⟩
    exact⟨e.length - (j+1),by omega,j+1,oc,ov,_root_.id,by omega,⟨by rw[hfl];exact hI.go,hI.ok,hI.pl,hI.old,hI.new⟩,rfl,LessR.of rfl (by rw[hfl];(repeat' first|exact FrSub.nil|refine zfc ?_|refine zfo ?_|refine zfp ?_)) (by rw[hfl];simp[hgi]) zLO rfl rfl hI.ok⟩
   ·refine XM.skip ?_
    have h3:x.op=3:=by simpa using hb3
    refine XM.seqC (T:=tab) fun ds=>?_
    refine zA ?_
    refine cInv ⟨Q0j (by simp[Q16,St.push,St.set,or_imp,forall_and]) hI.pl,?_⟩
    refine XM.cedes [1] (by decide) hI.ok fun kc hkc=>⟨[(9,.one (.ptr (.o kc) 0)),(8,.one (.box (cEx x))),(20,.one (int (j:Nat))),(19,.one (int (e.map cEx).length)),(18,.one (.sl 5 (e.map cEx))),(6,.one (gC 3 ((flowN e j).map cFl) oc)),(5,.one (.ptr (.o y.ks) 0)),(1,.one (.box [.sl 5 (e.map cEx)]))],[],[.cells [int (j:Nat),.lit (.slice none 0 0),.lit (.bool false)]],.cons rfl rfl (.keepO rfl (by simp) (.keepO rfl (by simp) (.keepO rfl (by simp) (.keepO rfl (by simp) (.keepO rfl (by simp) (.keepO rfl (by simp[isO]) (.keepO rfl (by simp) .nil))))))),.nil,.cons rfl rfl .nil,?_,?_⟩
    ·exact Q0j (by simp) (Q2c hI.pl trivial)
    have hkc':∀m,kc<=m->ov m=none:=hkc
    obtain⟨oX,hoX⟩:∃oX,oX=ouAdd ov kc [.cells [int (j:Nat),.lit (.slice none 0 0),.lit (.bool false)]]:=⟨_,rfl⟩
    show XM _ tab _ _ _ _ _ _ _ _ ⟨_,[],ouAdd ov kc [.cells [int (j:Nat),.lit (.slice none 0 0),.lit (.bool false)]]⟩
    rw[←hoX]
    obtain⟨hXc,hXo⟩:=ouAdd1 (o:=.cells [int (j:Nat),.lit (.slice none 0 0),.lit (.bool false)]) hkc'
    have hXp:=Q2c (p:=Q16) (kc:=kc) (o:=.cells [int (j:Nat),.lit (.slice none 0 0),.lit (.bool false)]) hI.pl trivial
    have hXk:OuOk (ouAdd ov kc [.cells [int (j:Nat),.lit (.slice none 0 0),.lit (.bool false)]]):=Q2c (p:=fun o=>o.ids isO) hI.ok (by simp)
    rw[←hoX]at hXc hXo hXp hXk
    have hxm:=List.mem_of_getElem? hx
    have hsh:=hE'.sh x hxm
    rw[h3]at hsh
    have hkl:=hsh.app.1
    have hkl2:=hE'.kl x hxm
    obtain⟨k0,hk0⟩:∃k,x.kids[0]?=some k:=Q00 (by omega)
    obtain⟨hk0p,hk0l,q0,hq0,hkq0⟩:=Q1z hE' hyn hx hk0
    have hsX:=hXo _ _ (hI.old _ _ hsN)
    refine XM.seq (T:=tab) ?_
    refine XM.seqC (T:=tab) fun ds=>?_
    refine ACode.drawX tabOk 10 [(3,.one (.sl 1 (nC (words e) y.nk))),(6,.one (.box [int k0])),(8,.one (.box [aS (words e) q0]))] follows (by kernel_rfl) rfl rfl rfl rfl ?_ ?_
    ·refine .step rfl (zHP (zLD rfl rfl hsX rfl)) ?_
     refine .step rfl (zHP (zIA rfl rfl rfl (by omega) (Q1m hk0))) ?_
     exact .step rfl (zHP (zIA rfl rfl rfl hk0p (Q0z hq0))) .nil
    refine zA ?_
    refine cInv ⟨Q0j (by simp) hXp,?_⟩
    refine XM.lessR (T:=tab) (fr':=[(40,.one (.fn (.func 28) [aS (words e) q0] [])),(9,.one (.ptr (.o kc) 0)),(20,.one (int (j:Nat))),(19,.one (int (e.map cEx).length)),(18,.one (.sl 5 (e.map cEx))),(6,.one (gC 3 ((flowN e j).map cFl) oc)),(5,.one (.ptr (.o y.ks) 0)),(1,.one (.box [.sl 5 (e.map cEx)]))]) (σ':=⟨0,[],oX⟩) (ρ:=_root_.id) hΓt (LessR.of rfl zFS (by simp[AC.ids,inL]) zLO rfl rfl hXk) (Q4u hXp) ?_
    refine XM.block (T:=tab) ?_
    refine XM.rangeB (T:=tab) (α:=Nat) (fun pre σ=>∃og oz m,σ=⟨m,[],oz⟩/\RI e j kc oX pre og oz) (fun xs=>xs=elems (Q0k e (nodeR k0))) ?_ ⟨none,oX,0,rfl,⟨hXc,⟨fun _=>rfl,fun kn cap h=>by cases h⟩,hXk,hXp,fun k o h _=>h,fun q hq=>by simp[gK]at hq⟩⟩ ?_ ?_ ?_
    ·rintro pre σ ⟨og,oz,m,rfl,hR⟩
     exact Q0j (by simp) hR.pl
    ·exact fr_isO (by simp[AC.ids,isO])
    ·intro F' W C tmps ds hi hf
     have hqX:oX q0=some (.cells (wC (Q0k e (nodeR k0)))):=hXo _ _ (hI.old _ _ (hnN _ _ hq0))
     have hqc:q0≠kc:=fun e1=>by
      have:=hkc' kc (Nat.le_refl _)
      rw[←e1,hI.old _ _ (hnN _ _ hq0)]at this
      cases this
     have hqz:∀pre og oz,RI e j kc oX pre og oz->oz q0=some (.cells (wC (Q0k e (nodeR k0)))):=fun pre og oz hR=>hR.old _ _ hqX hqc
     have hokq:C.ok (.o q0):=(hi.obj (.o q0) _ hqX).1
     obtain⟨u,hu,hr⟩:=hf.2 40 _ rfl
     simp only[RF,R,RV,aS]at hr
     obtain⟨xs,ys,rfl,⟨v,us,rfl,⟨_,rfl,_⟩,rfl⟩,rfl⟩:=hr
     obtain⟨htab,hpt⟩:=tab_at hi
     have hb:C.blk (.o q0) < W.heap.size:=by
      obtain⟨_,xs,T,h1,_⟩:=hi.obj (.o q0) _ hqX
      exact Q0b h1
     refine⟨{ gf:=28,first:=#[.slice (some ⟨C.blk (.o q0),0,none⟩) (words e) (words e)],encs:=fun x:Nat=>#[.int .i64 (x:Int)],n:=(elems (Q0k e (nodeR k0))).length,b:=C.blk (.o q0),L:=words e,a1:=fun x=>(tmps.setIfInBounds 41 (.int .i64 (x:Int))).setIfInBounds 10 (.int .i64 (x:Int)),ev:=by simp[Act.eval,hu],eg:=?_,seq:=all_seq (by unfold words;omega) (hwN _) hb hpt hi.prot htab (fun j' w hw=>Qb0 hi hqX hw),hb:=hb,hps:=fun _=>rfl,keep:=?_,asg:=?_,bod:=?_ }⟩
     ·intro args w'
      exact Qlw Tryd.func28 rfl (by kernel_rfl) args w'
     ·rintro pre f W1 W' C' C'' σ' σ'' hg1 hi1 ⟨og,oz,m1,rfl,hR⟩ hg2 hi2 ⟨og2,oz2,m2,rfl,hR2⟩ jj hjj
      obtain⟨w,hw⟩:=Q00 (l:=Q0k e (nodeR k0)) (i:=jj) (by have:=(hwN k0.toNat).1;unfold nodeR;omega)
      obtain⟨e1,e2,_⟩:=hg1.chg.id (.o q0) trivial hokq
      obtain⟨_,e3,_⟩:=hg2.chg.id (.o q0) trivial e1
      have h1:=Qb0 hi1 (hqz _ _ _ hR) hw
      have h2:=Qb0 hi2 (hqz _ _ _ hR2) hw
      rw[e2]at h1
      rw[e3,e2]at h2
      rw[h1,h2]
     ·intro l' f W1 K hK
      have e0:((#[41]:Array Tmp).zip #[Value.int .i64 (f:Int)]).foldl (fun t (p,v)=>t.setIfInBounds p v) tmps=tmps.setIfInBounds 41 (.int .i64 (f:Int)):=by simp
      rw[e0]
      refine wpIn_assign rfl rfl rfl ?_
      have h41:41 < tmps.size:=by simp[hf.1]
      have e2:Act.eval ⟨tmps.setIfInBounds 41 (.int .i64 (f:Int)),[]⟩ (.tmp 41)=.int .i64 (f:Int):=by
       simp only[Act.eval]
       rw[Array.getD_eq_getD_getElem?,Array.getElem?_setIfInBounds_self_of_lt h41]
       rfl
      show K ⟨(tmps.setIfInBounds 41 (.int .i64 (f:Int))).setIfInBounds 10 (Act.eval ⟨tmps.setIfInBounds 41 (.int .i64 (f:Int)),[]⟩ (.tmp 41)),[]⟩ W1
      rw[e2]
      exact hK
     ·rintro l' pre f W1 C' σ' hlt2 hgW hiW hfW ⟨og,oz,m1,rfl,hR⟩
      have hXn:oX kc≠none:=by rw[hXc];simp
      have hpl9:(fnsL (pre.filter fun f=>f != e.length)).length<=1048640:=by
       have h1:(pre.filter fun f=>f != e.length).length<=pre.length:=List.length_filter_le _ _
       have h2:=Q6r (Q0k e (nodeR k0)) 0 (hwN _).2
       have h3:(Q0k e (nodeR k0)).length=words e:=(hwN _).1
       have h4:(elems (Q0k e (nodeR k0))).length<=64 * words e:=by unfold elems;omega
       unfold fnsL
       simp only[List.length_map]
       unfold words at h4
       omega
      have hc9:=hR.c
      have hgo9:=hR.go
      have hok9:=hR.ok
      have hl2:LessR _root_.id [(40,.one (.fn (.func 28) [aS (words e) q0] [])),(9,.one (.ptr (.o kc) 0)),(20,.one (int (j:Nat))),(19,.one (int (e.map cEx).length)),(18,.one (.sl 5 (e.map cEx))),(6,.one (gC 3 ((flowN e j).map cFl) oc)),(5,.one (.ptr (.o y.ks) 0)),(1,.one (.box [.sl 5 (e.map cEx)]))] ⟨m1,[],oz⟩ [(40,.one (.fn (.func 28) [aS (words e) q0] [])),(9,.one (.ptr (.o kc) 0)),(20,.one (int (j:Nat))),(19,.one (int (e.map cEx).length)),(18,.one (.sl 5 (e.map cEx))),(6,.one (gC 3 ((flowN e j).map cFl) oc)),(5,.one (.ptr (.o y.ks) 0)),(1,.one (.box [.sl 5 (e.map cEx)]))] ⟨0,[],oz⟩:=LessR.of rfl zFS (by simp[AC.ids,inL]) zLO rfl rfl hok9
      obtain⟨C2,gL,hiL,hfL⟩:=hl2.run hΓt hiW hfW
      have hf2:=((hfL.put (d:=41) (x:=.one (int (f:Int))) (u:=.int .i64 (f:Int)) (show 41 < 59 by decide) (show RF W1 C2 (.one (int _)) _ from ⟨rfl,rfl⟩)).put (d:=10) (x:=.one (int (f:Int))) (u:=.int .i64 (f:Int)) (show 10 < 59 by decide) (show RF W1 C2 (.one (int _)) _ from ⟨rfl,rfl⟩))
      have hT:Tame (fun e_1 (_:Fr) σ''=>e_1=.normal/\∃og oz m,σ''=⟨m,[],oz⟩/\RI e j kc oX (pre++[f]) og oz):=fun fr σ h=>by cases h.1
      refine AIn.block (E:=⟨Tryd.prog,tab,Γt,59,[]⟩) (K:=fun e_1 _ σ''=>e_1=.normal/\∃og oz m,σ''=⟨m,[],oz⟩/\RI e j kc oX (pre++[f]) og oz) (AIn.seq (AIn.regionN (Tame.seqK (Tame.inBlk hT)) (by simp) ?_)) _ W1 C' W1 C2 _ gL hiL hf2 l' 0
      refine zA ?_
      refine cInv ?_
      refine AIn.cond rfl (fun hbb=>?_) (fun hbb=>?_)
      ·have hfe:f=e.length:=by have:=hbb;simp at this;omega
       refine AIn.regionN (Tame.inBlk hT) (by simp) ?_
       repeat' first|refine zN ?_|((with_reducible refine oj ?_);first|refine zix ?_|refine zow rfl rfl hc9 ?_)
       refine AOps.storeOwn (c:=.lit (.bool true)) tabOk rfl rfl rfl rfl rfl rfl rfl hc9 (by simp) ?_
       rw[Q10]
       refine zA ?_
       exact cInv ⟨rfl,og,_,_,rfl,hR.other hXn hfe⟩
      ·have hfe:f≠e.length:=by have:=hbb;simp at this;omega
       obtain⟨cap0,o3,hbase,hok3,hb3,hb3n⟩:=Qjf hgo9 (by intro x hx;obtain⟨z,_,rfl⟩:=List.mem_map.1 hx;rfl)
       refine AIn.regionN (Tame.inBlk hT) (by simp) ?_
       repeat' first|refine zN ?_|((with_reducible refine oj ?_);first|refine zix ?_|refine zow rfl rfl hc9 ?_)
       refine AOps.appOwn tabOk rfl rfl rfl rfl rfl rfl rfl rfl rfl (hbase _ _) (.sl 1 [[int (f:Nat)]]) (by simp) rfl (by show (_+1) * 8<=_;omega) (by show _+1<=_;omega) fun cap hcap=>?_
       refine AOps.cedes [0] rfl (by decide) (hok3 hok9) fun kn hkn=>⟨[(51,.one (.arr (.o kn) 1 0 (fnsL (pre.filter fun f=>f != e.length)++[[int (f:Nat)]]).length cap)),(9,.one (.ptr (.o kc) 0))],[],[.cells (vec 1 (fnsL (pre.filter fun f=>f != e.length)++[[int (f:Nat)]]) cap)],.cons rfl rfl (.keepO rfl (by simp[isO]) .nil),.nil,.cons rfl (AObj.sub_f (fun i hi=>by cases i with|l q=>exact hi.elim|o q=>rfl) _ (Q5d _ (by rw[←Q5w];simp))) .nil,?_⟩
       have hkn':∀m,kn<=m->o3 m=none:=hkn
       have hRn:=hR.fn hXn hfe (hok3 hok9) hb3 hb3n hkn' hcap
       obtain⟨g1,g2⟩:=GO.new (s:=1) (es:=fnsL (pre.filter fun f=>f != e.length)++[[int (f:Nat)]]) hkn' hcap
       have hc10:=g2 kc _ (by rw[hb3 kc (hR.kc hXn)];exact hc9)
       show AOps _ _ _ _ _ ⟨_,[],ouAdd o3 kn [.cells (vec 1 (fnsL (pre.filter fun f=>f != e.length)++[[int (f:Nat)]]) cap)]⟩
       refine zA ?_
       refine AOps.storeOwn (c:=.arr (.o kn) 1 0 (fnsL (pre.filter fun f=>f != e.length)++[[int (f:Nat)]]).length cap) tabOk rfl rfl rfl rfl rfl rfl rfl hc10 (by simp) ?_
       rw[Q10]
       refine zA ?_
       exact cInv ⟨rfl,some (kn,cap),_,_,rfl,hRn⟩
    ·rintro xs σ' rfl ⟨og,oz,m1,rfl,hR⟩
     have hXn:oX kc≠none:=by rw[hXc];simp
     have hck:Q4n e j x=(j,(elems (Q0k e (nodeR k0))).filter (fun f=>f != e.length),(elems (Q0k e (nodeR k0))).contains e.length):=by unfold Q4n;rw[Q0a hk0]
     have hvk:∀k o,ov k=some o->k≠kc:=fun k o ho e1=>by
      rw[e1,hkc' kc (Nat.le_refl _)]at ho;cases ho
     refine XM.lessR (T:=tab) (fr':=[(9,.one (.ptr (.o kc) 0)),(20,.one (int (j:Nat))),(19,.one (int (e.map cEx).length)),(18,.one (.sl 5 (e.map cEx))),(6,.one (gC 3 ((flowN e j).map cFl) oc)),(5,.one (.ptr (.o y.ks) 0)),(1,.one (.box [.sl 5 (e.map cEx)]))]) (σ':=⟨0,[],oz⟩) (ρ:=_root_.id) hΓt (LessR.of rfl zFS (by simp[AC.ids,inL]) zLO rfl rfl hR.ok) (Q4u hR.pl) ?_
     refine RI.froze hR hXn fun oy hyc hyk hyp hyo=>?_
     have hyc':oy kc=some (.cells (cFl (Q4n e j x))):=by rw[hck];exact hyc
     have hgo3:GO 3 ((flowN e j).map cFl) oc oy:=⟨hI.go.nn,fun kn cap h=>by
      obtain⟨h1,h2⟩:=hI.go.ob kn cap h
      exact⟨hyo _ _ (hXo _ _ h1) (hvk _ _ h1),h2⟩⟩
     obtain⟨cap0,o3,hbase,hok3,hb3,hb3n⟩:=Qjf hgo3 (by intro x hx;obtain⟨z,_,rfl⟩:=List.mem_map.1 hx;rfl)
     have hfn:=Qcp e j
     refine XM.codeN (T:=tab) fun ds=>?_
     refine zA ?_
     refine zS (AStep.loadOwnA tabOk rfl rfl rfl rfl rfl hyc') ?_
     refine zA ?_
     have hfs:(flowN e j).map cFl++[cFl (Q4n e j x)]=(flowN e (j+1)).map cFl:=by rw[Q6p,Q0a hx,if_pos h3];simp
     refine AOps.appOwn tabOk rfl rfl rfl rfl rfl rfl rfl rfl rfl (hbase _ _) (.sl 3 [cFl (Q4n e j x)]) (by simp) rfl (by rw[List.length_map];show (_+1) * 40<=_;omega) (by rw[List.length_map];show _+1<=_;omega) fun cap hcap=>?_
     rw[hfs]at hcap ⊢
     have hidv:(AObj.cells (vec 3 ((flowN e (j+1)).map cFl) cap)).ids isO:=Q5d _ (by simp)
     refine zA ?_
     have hpl3:∀k o,o3 k=some o->Q16 o:=fun k o ho=>by
      by_cases hq:k∈gK oc
      ·rw[hb3n k hq]at ho;cases ho;trivial
      ·rw[hb3 k hq]at ho;exact hyp k o ho
     have ho3:∀k o,oN k=some o->o3 k=some o:=fun k o ho=>by
      have h1:=hI.old k o ho
      rw[hb3 k fun hq=>by rw[hI.new k hq]at ho;cases ho]
      exact hyo k o (hXo _ _ h1) (hvk _ _ h1)
     refine cInv ⟨Q0j (by simp[Q16,St.push]) hpl3,?_⟩
     refine XM.cedes (T:=tab) [0] (by decide) (hok3 hyk) fun kn hkn=>⟨[(6,.one (gC 3 ((flowN e (j+1)).map cFl) (some (kn,cap)))),(20,.one (int (j:Nat))),(19,.one (int (e.map cEx).length)),(18,.one (.sl 5 (e.map cEx))),(5,.one (.ptr (.o y.ks) 0)),(1,.one (.box [.sl 5 (e.map cEx)]))],[],[.cells (vec 3 ((flowN e (j+1)).map cFl) cap)],.cons rfl rfl (.keepO rfl (by simp) (.keepO rfl (by simp) (.keepO rfl (by simp) (.keepO rfl (by simp[isO]) (.keepO rfl (by simp) .nil))))),.nil,.cons rfl (AObj.sub_f (fun i hi=>by cases i with|l q=>exact hi.elim|o q=>rfl) _ hidv) .nil,Q0j (by simp) (Q2c hpl3 trivial),?_⟩
     have hkn':∀m,kn<=m->o3 m=none:=hkn
     obtain⟨g1,g2⟩:=GO.new (s:=3) (es:=(flowN e (j+1)).map cFl) hkn' hcap
     have hok4:OuOk (ouAdd o3 kn [.cells (vec 3 ((flowN e (j+1)).map cFl) cap)]):=Q2c (p:=fun o=>o.ids isO) (hok3 hyk) hidv
     have hpl4:=Q2c (p:=Q16) (kc:=kn) (o:=.cells (vec 3 ((flowN e (j+1)).map cFl) cap)) hpl3 trivial
     show XM _ tab _ _ _ _ _ _ _ _ ⟨_,[],ouAdd o3 kn [.cells (vec 3 ((flowN e (j+1)).map cFl) cap)]⟩
     obtain⟨oZ,hoZ⟩:∃oZ,oZ=ouAdd o3 kn [.cells (vec 3 ((flowN e (j+1)).map cFl) cap)]:=⟨_,rfl⟩
     rw[←hoZ]at g1 g2 hok4 hpl4 ⊢
     refine XM.codeN (T:=tab) fun ds=>?_
     refine zM ?_
     refine cInv ⟨Q0j (by simp) hpl4,?_⟩
     exact⟨e.length - (j+1),by omega,j+1,some (kn,cap),oZ,_root_.id,by omega,⟨g1,hok4,hpl4,fun k o ho=>g2 k o (ho3 k o ho),fun q hq=>by
      simp[gK]at hq
      subst hq
      cases ho:oN q with
      |none=>rfl
      |some o=>
       have:=ho3 q o ho
       rw[hkn' q (Nat.le_refl _)]at this
       cases this⟩,rfl,LessR.of rfl zFS (by simp) zLO rfl rfl hok4⟩
  ·refine XM.exit ?_
   simp only[thenM,inBlk]
   obtain rfl:j=e.length:=by simp at hb;omega
   have hfe:(flowN e e.length).map cFl=(Q2u e).map cFl:=rfl
   rw[hfe]
   have hgo:=hI.go
   rw[hfe]at hgo
   cases hoc:oc with
   |none=>
    rw[hoc]at hgo
    refine XM.fin (T:=tab) fun ds=>?_
    refine zA ?_
    exact⟨Q4u hI.pl,rfl,AFn.fin' rfl (WkF.tup (.cons (by rw[hgo.nn rfl];exact .one (.nilS 3)) (.cons (.refl _) .nil))) (by simp) hI.ok ⟨noO,by simp[noO],rfl,rfl⟩⟩
   |some p=>
    obtain⟨kn,cap⟩:=p
    rw[hoc]at hgo
    obtain⟨hkn,hcap⟩:=hgo.ob kn cap rfl
    refine XM.fin (T:=tab) fun ds=>?_
    iterate 2 (first|((with_reducible refine oj ?_);refine zau ?_)|(with_reducible refine zst ?_)|((with_reducible refine Q0s ?_ ?_);rfl)|(with_reducible refine ok ?_;first|refine ACode.condT rfl ?_|refine ACode.condF rfl ?_))
    refine AOps.freezeArr (.o kn) 6 hkn (by intro x hx;obtain⟨z,_,rfl⟩:=List.mem_map.1 hx;rfl) rfl ?_
    refine zA ?_
    rw[Q10]
    exact⟨Q4u (Q2k hI.pl trivial),rfl,AFn.fin' rfl (WkF.refl _) (by simp) (Q17 hI.ok trivial) ⟨noO,by simp[noO],rfl,rfl⟩⟩
 ·rw[if_neg h]
  refine AFn.walkMM 59 tabOk Tryd.func7 rfl (by kernel_rfl) rfl rfl ?_ fun hou F w0 C0=>?_
  ·intro i o h
   cases i <;> cases h
  refine XM.fin fun ds=>?_
  refine zA ?_
  refine zca hΓt hc hou ?_
  refine zA ?_
  refine ACode.cond rfl (fun hb=>?_) (fun hb=>absurd (by simpa using hb) h)
  refine zA ?_
  exact⟨Q0j (by simp[Q16]) (fun k o h=>by cases h),rfl,AFn.fin' rfl (WkF.tup (.cons (.one (.nilS 3)) (.cons (.refl _) .nil))) (by simp) hou ⟨rfl,rfl⟩⟩
end Go.Proofs.YthboaankaaeemaaDoor
namespace Go.CoreX
def Qfy:Nat->Nat->List Nat
 |0,_=>[]
 |n+1,w=>if w=0 then []else Lib.ctz 64 w::Qfy n (w &&& (w - 1))
theorem Qcv:∀n w,w < n->Q1k w=Qfy n w
 |0,w,h=>by omega
 |n+1,w,h=>by
  rw[Q1k,Qfy]
  by_cases h0:w=0
  ·rw[dif_pos h0,if_pos h0]
  ·have hle:w &&& (w - 1)<=w - 1:=Nat.and_le_right
   rw[dif_neg h0,if_neg h0,Qcv n _ (by omega)]
def Qbh:Nat->List Nat->List Nat
 |_,[]=>[]
 |k,w::s=>(Qfy (w+1) w).map (fun n=>64 * k+n)++Qbh (k+1) s
theorem Qac:∀(k:Nat)(s:List Nat),Q1l k s=Qbh k s
 |_,[]=>rfl
 |k,w::s=>by rw[Q1l,Qbh,Qcv (w+1) w (by omega),Qac (k+1) s]
def Qjk (s:List Nat):List Nat:=Qbh 0 s
theorem Qcu(s:List Nat):elems s=Qjk s:=Qac 0 s
def Qig (e:List Ex)(i:Nat)(x:Ex)(σ:Ref->List Nat):List (Ref×Ref):=
 if x.op=0 then [(.node i,.idn x.n)] else
 if x.op=3 then (Qjk (σ (nodeR (x.kids.getD 0 0)))).flatMap (Q14 e i (x.kids.drop 1)) else
 if x.op=4∨x.op=5 then Q2g x.binds x.kids x.binds.length++[(.node i,nodeR (x.kids.getD (x.kids.length - 1) 0))] else
 if x.op=6∨x.op=9 then Q2b x x.kids.length else
 if x.op=7∨x.op=13 then Q2w i x x.alts.length++(if x.op=13 then [(.heap,.node i)]else []) else
 if x.op=8 then Q29 i x else
 if x.op=11 then [(.heap,nodeR (x.kids.getD 1 0))] else
 if x.op=12 then [(.heap,nodeR (x.kids.getD 0 0)),(.node i,.heap)] else
 if x.op=10 then [(.node i,.heap)]else []
theorem Qif(e:List Ex)(i:Nat)(x:Ex)(σ:Ref->List Nat):opsOf e i x σ=Qig e i x σ:=by
 unfold opsOf Qig
 rw[Qcu]
abbrev Q2y:=List (Ref×List Nat)
def lookX (e:List Ex):Q2y->Ref->List Nat
 |[],r=>Q0p e r
 |(q,s)::l,r=>if r=q then s else lookX e l r
def putX (r:Ref)(s:List Nat):Q2y->Q2y
 |[]=>[(r,s)]
 |(q,t)::l=>if r=q then (q,s)::l else (q,t)::putX r s l
theorem Qf8(e:List Ex)(r:Ref)(s:List Nat):∀l:Q2y,lookX e (putX r s l)=updR (lookX e l) r s
 |[]=>by
  funext q
  simp only[putX,lookX,updR]
 |(q,t)::l=>by
  funext z
  have ih:=congrFun (Qf8 e r s l) z
  simp only[putX]
  by_cases h:r=q
  ·subst h
   rw[if_pos rfl]
   simp only[lookX,updR]
   by_cases h2:z=r
   ·simp[h2]
   ·simp[h2]
  ·rw[if_neg h]
   simp only[lookX,updR]at ih ⊢
   by_cases h2:z=q
   ·subst h2
    simp[Ne.symm h]
   ·simp only[if_neg h2];exact ih
def intoX (e:List Ex)(p:Ref×Ref)(s:Q2y×Bool):Q2y×Bool:=
 let a:=lookX e s.1 p.1
 let o:=orL a (lookX e s.1 p.2)
 if o=a then s else (putX p.1 o s.1,true)
structure SimX (e:List Ex)(s:FSt)(t:Q2y×Bool):Prop where
 r:s.1=lookX e t.1
 m:s.2=t.2
theorem SimX.into{e:List Ex}{s:FSt}{t:Q2y×Bool}(h:SimX e s t)(p:Ref×Ref):SimX e (intoF p s) (intoX e p t):=by
 unfold intoF intoX
 rw[h.r]
 by_cases ho:orL (lookX e t.1 p.1) (lookX e t.1 p.2)=lookX e t.1 p.1
 ·simp only[if_pos ho]
  refine⟨?_,by simp only[ho];simp[h.m]⟩
  funext q
  simp only[updR]
  split
  ·rename_i hq;rw[hq,ho]
  ·rfl
 ·simp only[if_neg ho]
  refine⟨by rw[Qf8],?_⟩
  have:(orL (lookX e t.1 p.1) (lookX e t.1 p.2)==lookX e t.1 p.1)=false:=by simp[ho]
  simp[this]
def runX (e:List Ex)(l:List (Ref×Ref))(s:Q2y×Bool):Q2y×Bool:=l.foldl (fun s p=>intoX e p s) s
theorem SimX.run{e:List Ex}:∀(l:List (Ref×Ref)){s:FSt}{t:Q2y×Bool},SimX e s t->SimX e (Q0u l s) (runX e l t)
 |[],_,_,h=>h
 |p::l,s,t,h=>SimX.run l (h.into p)
def nodeX (e:List Ex)(s:Q2y×Bool)(i:Nat):Q2y×Bool:=runX e (Qig e i (e.getD i ⟨0,0,[],[],[]⟩) (lookX e s.1)) s
def passX (e:List Ex)(l:Q2y):Q2y×Bool:=(List.range e.length).foldl (nodeX e) (l,false)
theorem SimX.nodes{e:List Ex}:∀(l:List Nat){s:FSt}{t:Q2y×Bool},SimX e s t->SimX e (l.foldl (nodeF e) s) (l.foldl (nodeX e) t)
 |[],_,_,h=>h
 |i::l,s,t,h=>by
  refine SimX.nodes l ?_
  unfold nodeF nodeX
  rw[Qif,h.r]
  exact SimX.run _ h
def Q9c (e:List Ex):Nat->Q2y×Bool
 |0=>([],true)
 |n+1=>let s:=Q9c e n;if s.2=true then passX e s.1 else s
theorem Qbw(e:List Ex):∀n,SimX e (Q0g e n) (Q9c e n)
 |0=>⟨rfl,rfl⟩
 |n+1=>by
  have h:=Qbw e n
  simp only[Q0g,Q9c]
  rw[h.m]
  split
  ·exact SimX.nodes (List.range e.length) (s:=((Q0g e n).1,false)) (t:=((Q9c e n).1,false)) ⟨h.r,rfl⟩
  ·exact h
end Go.CoreX
namespace Go.Proofs.YthboaankaaeemaaDoor
open Go Go.CoreX
def flowX (e:List Ex)(n:Nat):List (Nat×List Nat×Bool):=(List.range e.length).flatMap fun i=>if (e.getD i ⟨0,0,[],[],[]⟩).op=3 then
 let s:=Qjk (lookX e (Q9c e n).1 (nodeR ((e.getD i ⟨0,0,[],[],[]⟩).kids.getD 0 0)))
 [(i,s.filter (fun f=>f != e.length),s.contains e.length)]else []
theorem Qlu{e:List Ex}(h0:AllW e (Q0p e)){n:Nat}(h:(Q9c e n).2=false):Q2u e=flowX e n:=by
 have hs:=Qbw e n
 have hf:=Q2t h0 (hs.m.trans h)
 unfold Q2u flowX
 congr 1
 funext i
 unfold Q4n
 rw[←hf,hs.r,Qcu]
end Go.Proofs.YthboaankaaeemaaDoor
namespace Go.Proofs.YthboaankaaeemaaDoor
open Go Go.Abs Go.CoreX
theorem ofC:OfC:=fun e he hc=>by
 have h:=Of_ok e he (fun h=>FE_of he h)
 rw[if_pos hc]at h
 exact h
theorem Qk5(e:List Ex)(he:okB e)(hc:check e=0):APure Tryd.prog Γt 7 [.one (.sl 5 (e.map cEx))] (.tup [.one (.sl 3 ((Q2u e).map cFl)),.one (int 0)]):=AFn.frame (ofC e he hc)
def Qa6:Tr:=.mk 3 0 [] [.mk 2 0 [] [.mk 1 1 [] [] []] []] []
def Qa7:List Ex:=[⟨1,1,[],[],[]⟩,⟨2,0,[],[0],[]⟩,⟨3,0,[],[1],[]⟩]
theorem Q8j:listT [] Qa6=Qa7:=by kernel_rfl
theorem Qcq:check Qa7=0:=by kernel_rfl
theorem Qds:Q2u Qa7=[(2,[1],false)]:=by
 rw[Qlu (n:=3) (Q2h Qa7) (by kernel_rfl)]
 kernel_rfl
theorem Qdr:APure Tryd.prog Γt 8 [] (.one (.lit (.bool true))):=by
 have hsz:(listT [] Qa6).length<=1048576:=by rw[Q8j];decide
 have hoF:okT Qa6:=by simp[Qa6,okT,okTs]
 have hok:okB Qa7:=by
  rw[←Q8j]
  exact Qij hoF (by simp[Qa6,cntN,cntNs])
 have hl:=Qe5 hΓt Qa6 hoF hsz
 rw[Q8j]at hl
 have hf:=Qk5 Qa7 hok Qcq
 rw[Qds]at hf
 have hq:=Qd2 hΓt [(1:Int)] [(1:Int)] (by decide)
 rw[decide_eq_true rfl]at hq
 intro ou
 refine AFn.walk 35 tabOk Tryd.func8 rfl (by kernel_rfl) rfl rfl fun hou=>?_
 refine zA ?_
 refine zca hΓt (W_ok hΓt 1) hou ?_
 refine zA ?_
 refine AOps.callCW (ws:=[.one (int 2),.one (.sl 1 (([]:List Int).map cI)),.one (.sl 1 (Q31 [.mk 1 1 [] [] []]))]) hΓt (B_ok 2 [] [.mk 1 1 [] [] []]) rfl rfl rfl rfl rfl rfl ?_ hou (by simp) ?_
 ·exact .cons (.refl _) (.cons (.one (.nilS 1)) (.cons (.refl _) .nil))
 refine zA ?_
 refine zca hΓt (N_ok 3 0 [.mk 2 0 [] [.mk 1 1 [] [] []] []]) hou ?_
 refine zA ?_
 refine zca hΓt hl hou ?_
 refine zA ?_
 refine zca hΓt hf hou ?_
 refine zM ?_
 refine zS (zIA rfl rfl rfl (by omega) (e:=cFl (2,[1],false)) rfl) ?_
 refine zM ?_
 refine zS (zIA rfl rfl rfl (by omega) (e:=cFl (2,[1],false)) rfl) ?_
 refine zM ?_
 refine zca hΓt hq hou ?_
 refine zM ?_
 exact APure.fin rfl (.refl _) (by simp) hou rfl
theorem factC:FactC:=Qdr noO
theorem Q97(e:List Ex)(he:okB e)(n:Int):APure Tryd.prog Γt 5 [.one (.sl 5 (e.map cEx)),.one (int n)] (.one (.lit (.bool true))):=AFn.frame (Q98 ofC factC szC e he n)
theorem Qb7{P:Program}{W:World}{x:String×DataW Unit}{rest:List (String×DataW Unit)}(h:laidMet P (x::rest) W):laidMet P rest W:=by
 obtain⟨ps,⟨g,t,cs,fuel,p,q,h1,h2,h3,h4,h5,rfl⟩,hn,hc⟩:=h
 exact⟨q,h5,(List.nodup_append.1 hn).2.1,fun b off hm=>hc b off (by simp[hm])⟩
def dbZ:List Int:=Lib.deBruijn64tab.map fun n:Nat=>(n:Int)
theorem Qgt{W:World}(h:laidMetH Tryd.prog [("math/bits.deBruijn64tab",Rows.laid_math_bits_deBruijn64tab),("provenance/core.arity",Rows.laid_provenance_core_arity)] W):∀g cs,(g,cs)∈Γt->RG W (ctx0 W) cs g:=by
 have h':laidMet Tryd.prog [("math/bits.deBruijn64tab",Rows.laid_math_bits_deBruijn64tab),("provenance/core.arity",Rows.laid_provenance_core_arity)] W:=h
 have ht:Lib.TabIs Tryd.prog W "provenance/core.arity" .i64 [2,2,2,2,2,2,2,1,2,1,2,3]:=
  Lib.tabIs_of_head (rest:=[]) (g:=1) (t:=171) (n:=12) (by kernel_rfl) (by kernel_rfl) (by kernel_rfl) Tryd.underlying3 (by kernel_rfl) (by kernel_rfl) (Qb7 h')
 have hu:Lib.TabIs Tryd.prog W "math/bits.deBruijn64tab" .u8 dbZ:=
  Lib.tabIs_of_head (rest:=[("provenance/core.arity",Rows.laid_provenance_core_arity)]) (g:=0) (t:=152) (n:=64) (e:=5) (by kernel_rfl) (by kernel_rfl) (by kernel_rfl) (by kernel_rfl) (by kernel_rfl) (by kernel_rfl) h
 have hg:Tryd.prog.globalNamed "provenance/core.arity" = some 1:=by kernel_rfl
 have hh:Tryd.prog.globalNamed "math/bits.deBruijn64tab" = some 0:=by kernel_rfl
 intro g cs hm
 simp only[Γt,List.mem_cons,List.not_mem_nil,or_false,Prod.mk.injEq]at hm
 rcases hm with ⟨rfl,rfl⟩|⟨rfl,rfl⟩
 ·have:=RG.ofVar hh hu (by kernel_rfl)
  unfold dbZ at this
  rw[List.map_map,List.map_map]at this
  exact this
 ·exact RG.ofVar hg ht rfl
end Go.Proofs.YthboaankaaeemaaDoor
