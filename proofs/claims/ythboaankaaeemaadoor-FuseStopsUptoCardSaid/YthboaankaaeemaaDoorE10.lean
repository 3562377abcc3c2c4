/- Calls that only read what is lent and hand a new list of numbers back: Binders, FreeOf; walked. -/
import Derived.Test.YthboaankaaeemaaDoorE9
set_option maxRecDepth 10000
set_option linter.unusedVariables false
set_option linter.unusedSimpArgs false
namespace Go.Proofs.YthboaankaaeemaaDoor
open Go Go.Abs Go.CoreX
variable {Γ:List (Nat×List AC)}
def ArrQ (l:List Int)(r:FV)(ou':Outer):Prop:=(l=[]/\r=.one (.lit (.slice none 0 0)))∨∃k cap,r=.one (.arr (.o k) 1 0 (l.map cI).length cap)/\ou' k=some (.cells (vec 1 (l.map cI) cap))
theorem Qga{w w':World}{C C':Ctx}:∀(l:List Int)(r:List AC)(ys:List Value),RV w C ((l.map cI).flatten++r) ys->RV w' C' (l.map cI).flatten (ys.take l.length)
 |[],r,ys,_=>by simp[RV]
 |n::l,r,ys,h=>by
  simp only[List.map_cons,List.flatten_cons,cI,List.cons_append,List.nil_append,RV]at h ⊢
  obtain⟨u,us,rfl,h1,h2⟩:=h
  simp only[List.length_cons,List.take_succ_cons]
  refine⟨u,_,rfl,?_,Qga l r us h2⟩
  simpa only [R]using h1
theorem Qgw{F:Nat->Prop}{w:World}{C:Ctx}{σ:St}(hi:Inv Γ F w C σ){b:Nat}(hb:b < w.heap.size)(hf:¬F b)(hn:∀i o,σ.get i=some o->o.block C i≠some b):Goes F (fun _=>True) w C w (C.froze b)/\Inv Γ F w (C.froze b) σ:=by
 have he:Ext w C w (C.froze b):=⟨fun _ _=>rfl,fun _ h=>.inl h,fun i _ ho=>⟨ho,rfl,rfl⟩⟩
 refine⟨⟨Stp.refl _ _,he,Nat.le_refl _,fun a ha=>ha.imp id (fun h=>by rw[h];exact hf)⟩,⟨hi.base,hi.next,fun g cs h=>(hi.glob g cs h).ext he,fun a ha=>?_,fun j p h=>?_,fun j k p q g a1 a2 a3 a4=>?_⟩⟩
 ·rcases ha with ha|ha
  ·exact hi.prot a ha
  ·rw[ha];exact hb
 ·obtain⟨b1,b2⟩:=hi.obj j p h
  refine⟨b1,b2.keep he b1 (fun g x _ hx=>hx) (fun a hbk _ ha=>?_)⟩
  rcases ha with ha|ha
  ·exact ha
  ·exact (hn j p h (by rw[←ha];exact hbk)).elim
 ·exact hi.inj j k p q g a1 a2 (by rw[←AObj.block_ext he (hi.obj j p a1).1];exact a3) (by rw[←AObj.block_ext he (hi.obj k q a2).1];exact a4)
theorem AStep.callSA{E:Env}{o:Oper}{fr:Fr}{σ:St}{f:Operand}{args:Array Operand}{tys:Array TypeId}{g:Nat}{first caps:List AC}{vs ws:List FV}{l:List Int}
  (hΓ:∀g cs,(g,cs)∈E.Γ->idsL isO cs) (hc:AFn E.P E.Γ g ws (fun _=>none) (ArrQ l)) (ho:o.op=.call { callee:=.value f,args:=args,argTypes:=tys })
  (hf:aEval E.Γ fr f=some (.one (.fn (.func g) first caps))) (hargs:Q13 E.Γ fr args.toList=some vs) (hw:Q5k σ (first.map .one++vs++caps.map .one) ws):AStep E o fr σ (.one (.sl 1 (l.map cI))) σ:=by
 intro F w C tmps hi hfr next Q hk
 have hcallee:=Q02 (a:=⟨tmps,E.ds⟩) hi hfr hf
 simp only[RF,R]at hcallee
 obtain⟨xs,ys,hfv,hx,hy⟩:=hcallee
 have hvs:=Q1k (a:=⟨tmps,E.ds⟩) hi hfr hargs
 have hall:RFs w (C.still w) ws (xs++args.toList.map (Act.eval ⟨tmps,E.ds⟩)++ys):=hw _ _ _ _ _ hi ((RFs.ones hx |>.append hvs).append (RFs.ones hy))
 have hrun:(execOp (Act.eval ⟨tmps,E.ds⟩) o).run E.P w=.ok (.enter g (xs++args.toList.map (Act.eval ⟨tmps,E.ds⟩)++ys).toArray) w:=by
  unfold execOp
  simp only[ho,resolve,Sem.run_bind,hfv,Deferred.ofValue,Sem.run_pure,Result.andThen_ok,invoke,hc.1]
  congr 2
  apply Array.ext'
  simp
 unfold Oper.wp
 rw[hrun,Oper.upon_enter]
 refine (hc.2 (fun k=>k < w.heap.size) w (C.still w) _ rfl (hi.forStill hΓ) hall).mono fun e w' ⟨v,r',ou',C',he,hgo,h0,hi',hr,hQ⟩=>?_
 subst he
 obtain⟨he,hi2⟩:=hi.grown hgo.stp.size (fun k hk=>hgo.stp.block k hk)
 have hgo1:Goes F (fun _=>True) w C w' C:=⟨hgo.stp.mono fun k hk=>hi.base k hk,he,Nat.le_refl _,NewP.refl _ _⟩
 rcases hQ with ⟨rfl,rfl⟩|⟨k,cap,rfl,hok⟩
 ·refine hk v w' C hgo1 hi2 ?_
  exact WkF.one (.nilS 1) w' C v (by simpa only [RF,R]using hr)
 ·obtain⟨hkok,zs,T,b1,b2,b3,b4⟩:=hi'.obj (.o k) _ hok
  have hsz:¬C'.blk (.o k) < w.heap.size:=b2
  have hblt:C'.blk (.o k) < w'.heap.size:=Q0d b1
  have hne:∀i q,σ.get i=some q->q.block C i≠some (C'.blk (.o k)):=fun i q hq hbk=>by
   have:=(hi.obj i q hq).2
   cases q with
   |cells cs=>
    obtain⟨_,_,c1,_⟩:=this
    simp only[AObj.block,Option.some.injEq]at hbk
    exact hsz (by rw[←hbk];exact Q0d c1)
   |map ck es=>
    obtain⟨_,c1,_⟩:=this
    simp only[AObj.block,Option.some.injEq]at hbk
    exact hsz (by rw[←hbk];exact Q0d c1)
   |iter m a b d=>
    obtain⟨c1,_⟩:=this
    simp only[AObj.block,Option.some.injEq]at hbk
    exact hsz (by rw[←hbk];exact Q0d c1)
   |sit s p=>
    obtain⟨c1,_⟩:=this
    simp only[AObj.block,Option.some.injEq]at hbk
    exact hsz (by rw[←hbk];exact Q0d c1)
   |tok e s u=>
    simp only[AObj.block]at hbk
    simp only[ObjOk]at this
    cases ht:C.tok i with
    |none=>rw[ht]at hbk;simp at hbk
    |some gc=>
     obtain⟨g',cap'⟩:=gc
     rw[ht]at hbk this
     obtain⟨_,c1,_⟩:=this
     simp only[Option.map_some,Option.some.injEq]at hbk
     exact hsz (by rw[←hbk];exact Q0d c1)
   |dead=>simp[AObj.block]at hbk
  obtain⟨g2,hi3⟩:=Qgw hi2 hblt (fun hF=>hsz (hi.base _ hF)) hne
  refine hk v w' _ (hgo1.trans g2) hi3 ?_
  simp only[RF,R,Nat.zero_mul]at hr
  refine⟨some ⟨C'.blk (.o k),0,none⟩,cap,hr.2.1,hr.2.2,.inr ⟨_,rfl,rfl,?_⟩⟩
  have hv:RV w' (C.froze (C'.blk (.o k))) (l.map cI).flatten (zs.take l.length):=by
   have:vec 1 (l.map cI) cap=(l.map cI).flatten++(vec 1 (l.map cI) cap).drop l.length:=by
    unfold vec
    have hfl:(l.map cI).flatten.length=l.length:=by
     rw[Q3d (s:=1) fun x hx=>by obtain⟨y,_,rfl⟩:=List.mem_map.1 hx;rfl]
     simp
    rw[List.drop_append_of_le_length (by omega),List.drop_eq_nil_of_le (by omega)]
    rfl
   rw[this]at b3
   exact Qga l _ zs b3
  refine RS.ofVals 0 (fun x hx=>by obtain⟨y,_,rfl⟩:=List.mem_map.1 hx;rfl) hv fun j u hj=>⟨?_,.inr rfl⟩
  have h2:j < l.length:=by have:=(List.getElem?_eq_some_iff.1 hj).1;simp at this;omega
  rw[List.getElem?_take_of_lt h2]at hj
  rw[Nat.zero_add,cell_of_row _ _ _ _ _ _ b1]
  simpa using hj
theorem AOps.callSA{E:Env}{ops:Array Oper}{rest:List Oper}{o:Oper}{K:Cont}{fr:Fr}{σ:St}{d:Nat}{f:Operand}{args:Array Operand}{tys:Array TypeId}{g:Nat}{first caps:List AC}{vs ws:List FV}{l:List Int}
  (hΓ:∀g cs,(g,cs)∈E.Γ->idsL isO cs) (hc:AFn E.P E.Γ g ws (fun _=>none) (ArrQ l)) (hgd:o.guard=none) (hdst:o.dst=some d) (hd:Nat.ble (d+1) E.N=true) (ho:o.op=.call { callee:=.value f,args:=args,argTypes:=tys })
  (hf:aEval E.Γ fr f=some (.one (.fn (.func g) first caps))) (hargs:Q13 E.Γ fr args.toList=some vs) (hw:Q5k σ (first.map .one++vs++caps.map .one) ws)
  (h:AOps E ops rest K ((d,.one (.sl 1 (l.map cI)))::fr) σ):AOps E ops (o::rest) K fr σ:=
 AOps.step1 hgd hdst hd (AStep.callSA hΓ hc ho hf hargs hw) h
theorem cI_one(l:List Int):∀x∈l.map cI,x.length=1:=fun x hx=>by
 obtain⟨y,_,rfl⟩:=List.mem_map.1 hx;rfl
set_option maxHeartbeats 1000000 in
theorem Qdm(hΓ:∀g cs,(g,cs)∈Γ->idsL isO cs)(t:Tr)(hl:Q3j t<=4194304)(ha:t.alts.length<=1048576):
  AFn Tryd.prog Γ 74 [.one (.box (cTr t))] (fun _=>none) (ArrQ (Q04 t.op t.binds t.alts)):=by
 unfold Q3j at hl
 refine AFn.walk 46 tabOk Tryd.func74 rfl (by kernel_rfl) rfl rfl fun hou=>?_
 iterate 11 (first|((with_reducible refine oj ?_);refine zau ?_)|(with_reducible refine zst ?_)|((with_reducible refine Q0i ?_ ?_);rfl)|(with_reducible refine ok ?_;first|refine ACode.condT rfl ?_|refine ACode.condF rfl ?_))
 refine ACode.ghost ?_
 have he0:Q04 t.op t.binds t.alts=Q1e (if t.op=2∨t.op=4∨t.op=5 then t.binds else []) t.alts t.alts.length:=by simp[Q04,Q1e]
 obtain⟨pre,hpre⟩:∃pre,pre=(if t.op=2∨t.op=4∨t.op=5 then t.binds else []):=⟨_,rfl⟩
 rw [he0, ← hpre]
 have hpl:pre.length<=t.binds.length:=by rw[hpre];split <;> simp
 refine ACode.cutR hΓ (α:=Option Nat) (fun c=>[(3,.one (oaC 0 1 (pre.map cI) c)),(0,.one (.box (cTr t)))])
  (fun c => ⟨1, [(0, oaO 1 (pre.map cI) c)], fun _ => none⟩) (fun c => coO (pre.map cI) c) ?_ fun oc0 hco => ?_
 ·repeat' first|refine zN ?_|(with_reducible refine oj ?_;refine AOps.splitS rfl rfl rfl rfl (fun hb=>?_) (fun hb=>?_))|(with_reducible refine ok ?_;first|refine ACode.condS rfl (fun hb=>?_) (fun hb=>?_)|refine ACode.cond rfl (fun hb=>?_) (fun hb=>?_))
  all_goals first
   | (
    have:pre=t.binds:=by simp_all
    subst this
    by_cases h0:t.binds=[]
    ·rw[h0]
     refine AOps.appG0 (k:=0) (es:=[]) (oc:=none) tabOk rfl rfl rfl rfl rfl rfl rfl rfl rfl ?_
     repeat' first|refine zN ?_|(with_reducible refine oj ?_;refine AOps.splitS rfl rfl rfl rfl (fun hb=>?_) (fun hb=>?_))|(with_reducible refine ok ?_;first|refine ACode.condS rfl (fun hb=>?_) (fun hb=>?_)|refine ACode.cond rfl (fun hb=>?_) (fun hb=>?_))
     exact cInv ⟨none,id,rfl,LessR.of rfl (zfo (FrSub.consP rfl (.ofEq rfl) (by simp) .nil)) (by simp) zLO rfl rfl hou⟩
    ·refine AOps.appG (k:=0) (es:=[]) (oc:=none) tabOk rfl rfl rfl rfl rfl rfl rfl rfl rfl rfl rfl (by simp) (.sl 1 _) (by simpa using h0) rfl (by simp;show _ * 8<=_;omega) (by simp;omega) fun cap hc=>?_
     repeat' first|refine zN ?_|(with_reducible refine oj ?_;refine AOps.splitS rfl rfl rfl rfl (fun hb=>?_) (fun hb=>?_))|(with_reducible refine ok ?_;first|refine ACode.condS rfl (fun hb=>?_) (fun hb=>?_)|refine ACode.cond rfl (fun hb=>?_) (fun hb=>?_))
     exact cInv ⟨some cap,fun _=>1,by show (t.binds.map cI).length<=cap;simpa using hc,LessR.of rfl (zfo (FrSub.consP rfl (.ofEq rfl) (by simp) .nil)) (by simp) zLO rfl rfl hou⟩)
   |(
    have:pre=[]:=by simp_all
    subst this
    exact cInv ⟨none,id,rfl,LessR.of rfl (zfo (FrSub.consP rfl (.ofEq rfl) (by simp) .nil)) (by simp) zLO rfl rfl hou⟩)
 clear hpre he0
 refine zA ?_
 refine ACode.loopR hΓ (α:=Nat×Option Nat) (fun c=>[(36,.one (int c.1)),(35,.one (int (t.alts.map cAlt).length)),(34,.one (.sl 2 (t.alts.map cAlt))),(3,.one (oaC 0 1 ((Q1e pre t.alts c.1).map cI) c.2)),(0,.one (.box (cTr t)))])
  (fun c => ⟨1, [(0, oaO 1 ((Q1e pre t.alts c.1).map cI) c.2)], fun _ => none⟩) (fun m c => c.1 <= t.alts.length /\ coO ((Q1e pre t.alts c.1).map cI) c.2 /\ m = t.alts.length - c.1) (a0 := (0, oc0)) (ρ := id) ⟨by omega, by simpa [Q1e] using hco, rfl⟩
  (LessR.of rfl (FrSub.cons rfl (.ofEq rfl) (FrSub.cons rfl (.ofEq rfl) (FrSub.consP rfl (.ofEq rfl) (by simp) (FrSub.oa (by simp [Q1e]; rfl) rfl (FrSub.consP rfl (.ofEq rfl) (by simp) .nil))))) (by simp) (by
   refine zld ?_ .nil
   rw[Qa8 _ _ _ _ fun _=>Q2g (by simp)]
   simp[Q1e]) rfl rfl hou) fun m c hc=>?_
 obtain⟨j,oc⟩:=c
 obtain⟨hjl,hcj,rfl⟩:=hc
 dsimp only at hjl hcj
 refine zA ?_
 refine ACode.cond rfl (fun hb2=>?_) (fun hb2=>?_)
 ·have hlt:j < t.alts.length:=by simpa using hb2
  obtain⟨a,ha2⟩:=Q00 hlt
  have hbl:=Q9q (pre:=pre) (al:=t.alts) (j+1)
  have hbs:=Q41 (pre:=pre) ha2
  rw[hbs]at hbl
  simp only[List.length_append]at hbl
  refine zA ?_
  refine zS (zIA rfl rfl rfl (by omega) (Q05 ha2)) ?_
  refine zA ?_
  by_cases h0:a.binds=[]
  ·rw[h0]at hbs ⊢
   rw[List.append_nil]at hbs
   refine AOps.appG0 (k:=0) (es:=(Q1e pre t.alts j).map cI) (oc:=oc) tabOk rfl rfl rfl rfl rfl rfl rfl rfl rfl ?_
   refine zM ?_
   refine cInv ⟨t.alts.length - (j+1),(j+1,oc),id,by omega,⟨by omega,by rw[hbs];exact hcj,rfl⟩,LessR.of rfl ?_ (by simp) ?_ rfl rfl hou⟩
   ·exact FrSub.cons rfl (.ofEq rfl) (FrSub.cons rfl (.ofEq rfl) (FrSub.consP rfl (.ofEq rfl) (by simp) (FrSub.oa (by rw[hbs];rfl) rfl (FrSub.consP rfl (.ofEq rfl) (by simp) .nil))))
   ·refine zld ?_ .nil
    rw[Qa8 _ _ _ _ fun _=>Q2g (by simp),hbs]
  ·refine AOps.appG (k:=0) (es:=(Q1e pre t.alts j).map cI) (oc:=oc) tabOk rfl rfl rfl rfl rfl rfl rfl rfl rfl rfl hcj (cI_one _) (.sl 1 _) (by simpa using h0) rfl (by simp;show _ * 8<=_;omega) (by simp;omega) fun cap hc=>?_
   rw[←List.map_append,←hbs]at hc ⊢
   refine zM ?_
   refine cInv ⟨t.alts.length - (j+1),(j+1,some cap),fun _=>2,by omega,⟨by omega,hc,rfl⟩,LessR.of rfl ?_ (by simp) ?_ rfl rfl hou⟩
   ·exact FrSub.cons rfl (.ofEq rfl) (FrSub.cons rfl (.ofEq rfl) (FrSub.consP rfl (.ofEq rfl) (by simp) (FrSub.oa rfl rfl (FrSub.consP rfl (.ofEq rfl) (by simp) .nil))))
   ·refine zld ?_ .nil
    rw[Qa8 _ _ _ _ fun _=>Q2g (by simp)]
 ·have hlt:j=t.alts.length:=by simp at hb2;omega
  subst hlt
  cases oc with
  |none=>
   have h0:Q1e pre t.alts t.alts.length=[]:=List.map_eq_nil_iff.1 hcj
   refine zA ?_
   exact AFn.fin' rfl (WkF.ofEq rfl) (by simp[oaC,AC.ids]) hou (.inl ⟨h0,rfl⟩)
  |some cap=>
   repeat ((fail_if_success ((with_reducible refine oj ?_);refine AOps.atDst 45 rfl ?_));first|refine zO ?_)
   refine AOps.cedes [0] rfl (by decide) hou fun k hk=>⟨[(3,.one (.arr (.o k) 1 0 ((Q1e pre t.alts t.alts.length).map cI).length cap))],[],[.cells (vec 1 ((Q1e pre t.alts t.alts.length).map cI) cap)],.cons rfl rfl .nil,.nil,.cons rfl (AObj.sub_f (fun i hi=>by cases i with|l q=>exact hi.elim|o q=>rfl) (.cells _) (Q2g (by simp))) .nil,?_⟩
   refine zA ?_
   refine AFn.fin' rfl (WkF.ofEq rfl) (by simp[AC.ids]) (Q2r hou fun o ho=>by simp at ho;subst ho;exact Q2g (by simp)) (.inr ⟨k,cap,rfl,Q0f 0⟩)
set_option maxHeartbeats 1000000 in
theorem Qfv(hΓ:∀g cs,(g,cs)∈Γ->idsL isO cs)(hΓF:∀g cs,(g,cs)∈Γ->idsL (fun _=>False) cs)(hs:Qhw)(hn:Qdj)(t:Tr)(ht:okT t)(hd:Q0w t<=1048576)(hsz:(listT [] t).length<=1048576):
  AFn Tryd.prog Γ 83 [.one (.box (cTr t))] (fun _=>none) (ArrQ (Q0r t)):=by
 obtain⟨ou,hoe⟩:∃ou:Outer,ou=fun _=>none:=⟨_,rfl⟩
 rw[←hoe]
 refine AFn.walk 24 tabOk Tryd.func83 rfl (by kernel_rfl) rfl rfl fun hou=>?_
 refine zA ?_
 refine zS (AStep.makeMap rfl) ?_
 refine zA ?_
 refine zS (AStep.makeMap rfl) ?_
 refine zA ?_
 refine AOps.callR [.l 1,.l 0] [.one (.box (cTr t)),.one (.mp (.o 0)),.one (.mp (.o 1))] [.map 0 (encI eN []),.map 0 (encI eU [])] hΓF rfl rfl rfl rfl rfl rfl ?_ ?_ ?_ ?_ ?_ (Qd9 hΓ t ht (fun _=>0) 0 0 [] 0 [] [] (fun k=>by simp) (by omega) ⟨_,IMOk.nil,fun k=>rfl⟩ SetIs.nil) ?_
 ·simp[subF,FV.sub,AC.sub,nameOf]
  exact⟨(Q1s _ _ (by simp)).symm,rfl⟩
 ·simp[inO]
 ·simp
 ·exact⟨rfl,rfl,trivial⟩
 ·simp[inO]
 intro r ou' hq
 obtain⟨rfl,cb,lb,co,lo,rfl,hB,g,hg,hgs⟩:=hq
 rw[List.nil_append]at hgs
 refine⟨[.map cb (encI eN lb),.map co (encI eU lo)],rfl,rfl,by simp[inO],by simp,?_⟩
 refine zA ?_
 refine zS (AStep.rangeMap rfl Tryd.underlying163 rfl rfl) ?_
 refine zA ?_
 refine ACode.loopR hΓ (α:=List (Nat×Int×Unit)×Option Nat) (fun a=>[(12,.one (.ptr (.l 2) 0)),(4,match a.2 with|none=>.one (.lit (.slice none 0 0))|some cap=>.one (.arr (.l 3) 1 0 ((keyL a.1).map cI).length cap))])
  (fun a=>match a.2 with|none=>⟨3,[(2,.iter (.l 0) co (bornL a.1) co),(0,.map co (encI eU lo))],ou⟩|some cap=>⟨4,[(3,.cells (vec 1 ((keyL a.1).map cI) cap)),(2,.iter (.l 0) co (bornL a.1) co),(0,.map co (encI eU lo))],ou⟩)
  (fun m a=>(∀x∈a.1,x∈lo)/\(bornL a.1).Nodup/\(match a.2 with|none=>a.1=[]|some cap=>a.1.length<=cap)/\m=leftM lo (bornL a.1)) (a0:=([],none)) (ρ:=id) ⟨by simp,by simp[bornL],rfl,rfl⟩ (LessR.of rfl ?_ ?_ ?_ rfl rfl hou) fun m a hj=>?_
 ·(repeat' first|exact FrSub.nil|refine zfc ?_|refine zfo ?_|refine zfp ?_)
 ·simp
 ·repeat' first|exact LoSub.nil|refine zlc ?_|refine zld ?_ ?_|rfl
  all_goals (rw[Qdt,Q4g])
 obtain⟨zs,oc⟩:=a
 obtain⟨hzs,hnd,hcap,rfl⟩:=hj
 simp only at hzs hnd hcap
 have hin:∀k,k∈keyL zs->k∈occB (fun _=>0) t:=fun k hk=>by
  obtain⟨x,hx,rfl⟩:=List.mem_map.1 hk
  have h1:=(Q6q hg x.2.1).2 ⟨x,hzs x hx,rfl⟩
  rw[hgs]at h1
  simpa using h1
 have hkn:(keyL zs).Nodup:=Q5s (zs:=zs) hg.nk hzs hnd
 have hkl:(keyL zs).length<=1048576:=by
  have h1:=Q6o hkn hin
  have h2:=Q6n t (fun _=>0) []
  simp at h2
  omega
 have hend':(∀x∈encI eU lo,x.1∈bornL zs)->(keyL zs).mergeSort (fun x y=>decide (x<=y))=Q0r t:=fun hend=>by
  rw[Q4v]
  refine Qg5 hkn fun k=>⟨hin k,fun hk=>?_⟩
  have h1:(g k).isSome=true:=by rw[hgs];simpa using hk
  obtain⟨x,hx,rfl⟩:=(Q6q hg k).1 h1
  have h2:=hend (x.1,.int .i64 x.2.1,eU x.2.2) (List.mem_map.2 ⟨x,hx,rfl⟩)
  obtain⟨y,hy,e⟩:=List.mem_map.1 h2
  have:=Qcg hg.nb (hzs y hy) hx e
  subst this
  exact List.mem_map.2 ⟨y,hy,rfl⟩
 cases oc with
 |none=>
  subst hcap
  refine zA ?_
  refine AOps.nextMap rfl rfl rfl rfl rfl rfl rfl (Q4c hg) (Nat.le_refl _) Q5g (fun hend=>?_) (fun b u v hmem hnew=>?_)
  ·refine zA ?_
   refine AOps.callNo rfl rfl rfl rfl rfl rfl Q4f hn ?_
   refine zA ?_
   have h1:=hend' hend
   exact AFn.fin' rfl (WkF.ofEq rfl) (by simp) hou (.inl ⟨by rw[←h1];simp[keyL],rfl⟩)
  ·obtain⟨rfl,x,hx,rfl,rfl,_⟩:=(Q6p _ _ _ _).1 hmem
   obtain⟨bx,k,⟨⟩⟩:=x
   refine zA ?_
   refine zS (AStep.entry (last:=0) (u:=.int .i64 k) (v:=.agg []) rfl rfl rfl rfl (Q3q hg.nb hx) rfl) ?_
   refine zA ?_
   refine AOps.appOwn tabOk rfl rfl rfl rfl rfl rfl rfl rfl rfl (.nil 1) (.sl 1 [cI k]) (by simp) rfl (by simp;show 1 * 8<=_;omega) (by simp) fun cap hc=>?_
   refine zM ?_
   refine cInv ⟨leftM lo (bornL [(bx,k,())]),([(bx,k,())],some cap),id,Q3o (x:=(bx,k,())) hx hnew,⟨by simpa using hx,by simp[bornL],by simpa using hc,rfl⟩,LessR.of rfl ?_ (by simp) ?_ rfl rfl hou⟩
   ·exact FrSub.cons rfl (.ofEq rfl) (FrSub.cons rfl (.ofEq rfl) .nil)
   ·refine LoSub.cons rfl ?_ rfl (by simp) (LoSub.cons rfl ?_ rfl (by simp) (LoSub.cons rfl (Q4g _ _ _).symm rfl (by simp) .nil))
    ·rw[AObj.ren_pure _ _ (by simp)];simp[keyL]
    ·simp[AObj.ren,bornL];rfl
 |some cap=>
  refine zA ?_
  refine AOps.nextMap rfl rfl rfl rfl rfl rfl rfl (Q4c hg) (Nat.le_refl _) Q5g (fun hend=>?_) (fun b u v hmem hnew=>?_)
  ·have h1:=hend' hend
   refine zA ?_
   refine AOps.wk 21 rfl (y:=.one (.arr (.l 3) 1 0 (keyL zs).length cap)) (.ofEq (by simp)) ?_
   refine AOps.sortI (l:=keyL zs) rfl rfl rfl rfl rfl rfl Q4f hs rfl (by omega) ?_
   rw[h1]
   refine AOps.wk 4 rfl (y:=.one (.arr (.l 3) 1 0 ((Q0r t).map cI).length cap)) (.ofEq (by rw[←h1];simp)) ?_
   refine AOps.cedes [3] rfl (by decide) hou fun k hk=>⟨[(4,.one (.arr (.o k) 1 0 ((Q0r t).map cI).length cap))],[],[.cells (vec 1 ((Q0r t).map cI) cap)],.cons rfl rfl .nil,.nil,.cons rfl (AObj.sub_f (fun i hi=>by cases i with|l q=>exact hi.elim|o q=>rfl) (.cells (vec 1 ((Q0r t).map cI) cap)) (Q2g (Q7r _ _))) .nil,?_⟩
   refine zA ?_
   exact AFn.fin' rfl (WkF.ofEq rfl) (by simp[AC.ids]) (Q2r hou fun o ho=>by simp at ho;subst ho;exact Q2g (Q7r _ _)) (.inr ⟨k,cap,rfl,Q0f 0⟩)
  ·obtain⟨rfl,x,hx,rfl,rfl,_⟩:=(Q6p _ _ _ _).1 hmem
   obtain⟨bx,k,⟨⟩⟩:=x
   refine zA ?_
   refine zS (AStep.entry (last:=0) (u:=.int .i64 k) (v:=.agg []) rfl rfl rfl rfl (Q3q hg.nb hx) rfl) ?_
   refine zA ?_
   have hzl:((keyL zs).map cI).length=zs.length:=by simp[keyL]
   refine AOps.appOwn tabOk rfl rfl rfl rfl rfl rfl rfl rfl rfl (.own 1 cap ((keyL zs).map cI) (.l 3) rfl (by simp[cI]) (by rw[hzl];exact hcap)) (.sl 1 [cI k]) (by simp) rfl (by simp;show (_+1) * 8<=_;omega) (by simp;omega) fun cap' hc=>?_
   refine zM ?_
   refine cInv ⟨leftM lo (bornL (zs++[(bx,k,())])),(zs++[(bx,k,())],some cap'),fun k=>if k=3 then 4 else k,by have:=Q3o (x:=(bx,k,())) hx hnew;simpa[bornL]using this,⟨?_,?_,by simpa[keyL]using hc,rfl⟩,LessR.of rfl ?_ (by simp) ?_ rfl rfl hou⟩
   ·intro y hy
    rcases List.mem_append.1 hy with hy|hy
    ·exact hzs y hy
    ·simp at hy;subst hy;exact hx
   ·simp only[bornL,List.map_append,List.map_cons,List.map_nil]
    rw[List.nodup_append]
    refine⟨hnd,by simp,fun a ha b hb e=>?_⟩
    simp at hb
    subst hb;subst e
    exact hnew ha
   ·exact FrSub.cons rfl (.ofEq rfl) (FrSub.cons rfl (.ofEq (by simp[keyL,FV.ren,AC.ren];rfl)) .nil)
   ·refine LoSub.cons rfl ?_ rfl (by simp) (LoSub.cons rfl ?_ rfl (by simp) (LoSub.cons rfl (Q4g _ _ _).symm rfl (by simp) .nil))
    ·rw[AObj.ren_pure _ _ (by simp)];simp[keyL]
    ·simp[AObj.ren,bornL];rfl
theorem Qb5{xs ys:List Int}{i:Nat}{x y:Int}(hx:xs[i]?=some x)(hy:ys[i]?=some y)(h:xs.take i=ys.take i):xs.take (i+1)=ys.take (i+1)↔x=y:=by
 rw[Q0j hx,Q0j hy,h]
 constructor
 ·intro e;exact (List.append_inj' e rfl).2 |> fun e=>by simpa using e
 ·intro e;rw[e]
theorem Qi3(hΓ:∀g cs,(g,cs)∈Γ->idsL isO cs)(xs ys:List Int)(hl:xs.length<=1048576):APure Tryd.prog Γ 21 [.one (.sl 1 (xs.map cI)),.one (.sl 1 (ys.map cI))] (.one (.lit (.bool (decide (xs=ys))))):=by
 intro ou
 refine AFn.walk 26 tabOk Tryd.func21 rfl (by kernel_rfl) rfl rfl fun hou=>?_
 refine zA ?_
 refine ACode.cond rfl (fun hb=>?_) (fun hb=>?_)
 ·have hne:xs≠ys:=fun e=>by subst e;simp at hb
  refine zA ?_
  exact APure.fin rfl (WkF.ofEq (by rw[decide_eq_false hne])) (by simp) hou rfl
 have hle:xs.length=ys.length:=by simp at hb;omega
 refine zA ?_
 refine ACode.loopR hΓ (α:=Nat) (fun i=>[(13,.one (int i)),(12,.one (int (xs.map cI).length)),(1,.one (.sl 1 (ys.map cI))),(0,.one (.sl 1 (xs.map cI)))]) (fun i=>⟨0,[],ou⟩) (fun m i=>(i<=xs.length/\xs.take i=ys.take i)/\m=xs.length - i) (a0:=0) (ρ:=_root_.id) ⟨⟨by omega,rfl⟩,rfl⟩ (LessR.of rfl zFS (by simp) zLO rfl rfl hou) fun m i hi=>?_
 obtain⟨⟨hil,heq⟩,rfl⟩:=hi
 refine zA ?_
 refine ACode.cond rfl (fun hb=>?_) (fun hb=>?_)
 ·have hlt:i < xs.length:=by simpa using hb
  obtain⟨x,hx⟩:=Q00 hlt
  obtain⟨y,hy⟩:=Q00 (l:=ys) (i:=i) (by omega)
  refine zA ?_
  refine ACode.drawX tabOk 8 [(2,.one (.box [int x])),(6,.one (.box [int y]))] follows (by kernel_rfl) rfl rfl rfl rfl ?_ ?_
  ·exact⟨⟨_,rfl,zIA rfl rfl rfl (by omega) (Q05 hx)⟩,⟨_,rfl,zIA rfl rfl rfl (by omega) (Q05 hy)⟩,trivial⟩
  refine zA ?_
  refine ACode.cond rfl (fun hb=>?_) (fun hb=>?_)
  ·have hxy:x≠y:=by simpa using hb
   have hne:xs≠ys:=fun e=>by subst e;rw[hx]at hy;exact hxy (Option.some.inj hy)
   refine zA ?_
   exact APure.fin rfl (WkF.ofEq (by rw[decide_eq_false hne])) (by simp) hou rfl
  ·have hxy:x=y:=by simpa using hb
   refine zM ?_
   exact cInv ⟨xs.length - (i+1),i+1,_root_.id,by omega,⟨⟨by omega,(Qb5 hx hy heq).2 hxy⟩,rfl⟩,LessR.of rfl zFS (by simp) zLO rfl rfl hou⟩
 ·have he:i=xs.length:=by simp at hb;omega
  have hee:xs=ys:=by
   subst he
   rwa [List.take_length,hle,List.take_length]at heq
  refine zA ?_
  exact APure.fin rfl (WkF.ofEq (by rw[decide_eq_true hee])) (by simp) hou rfl
def lU (l:List (Nat×Int×Int)):List (Nat×Int×Unit):=l.map fun x=>(x.1,x.2.1,())
def seenL (zs:List (Nat×Int×Int)):List Nat:=zs.map (·.1)
theorem Qhn{l:List (Nat×Int×Int)}(hk:(l.map (·.1)).Nodup){x y:Nat×Int×Int}(hx:x∈l)(hy:y∈l)(h:x.1=y.1):x=y:=by
 induction l with
 |nil=>cases hx
 |cons z l ih=>
  simp only[List.map_cons,List.nodup_cons]at hk
  rcases List.mem_cons.1 hx with e1|h1
  ·rcases List.mem_cons.1 hy with e2|h2
   ·rw[e1,e2]
   ·exact absurd (List.mem_map.2 ⟨y,h2,by rw[←h,e1]⟩:z.1∈l.map (·.1)) hk.1
  ·rcases List.mem_cons.1 hy with e2|h2
   ·exact absurd (List.mem_map.2 ⟨x,h1,by rw[h,e2]⟩:z.1∈l.map (·.1)) hk.1
   ·exact ih hk.2 h1 h2
structure OkTr (T:Tr):Prop where
 ok:okT T
 d:Q0w T<=1048576
 sz:(listT [] T).length<=1048576
theorem Qfm(u:LTr)(hu:OkTr (erT u))(ou:Outer)(km kn ck:Nat)(h:Int)(c:AC)(l:List (Nat×Int×Int))(f:Int->Option Int)(hm:ou km=some (.cells [int h,.mp (.o kn),c]))(hn:ou kn=some (.map ck (encI eN l)))(hf:IMOk f ck l)(ho:Owns ou (objs u)):
  AFn Tryd.prog Γc 73 [.one (.ptr (.o km) 0),.one (.ptr (.o u.id) 0)] ou (fun r ou'=>r=.one (.lit (.bool ((Q0r (erT u)).any fun x=>(l.map (·.2.2)).contains x)))/\ou'=ou):=by
 have hlend:=LendF.tree (σ:=⟨0,[],ou⟩) ho
 refine AFn.walk 29 tabOk Tryd.func73 rfl (by kernel_rfl) rfl rfl fun hou=>?_
 refine zA ?_
 refine AOps.callSA hΓc (Qfv hΓc hΓcF sortOk Qg6 (erT u) hu.ok hu.d hu.sz) rfl rfl rfl rfl rfl rfl (.cons hlend .nil) ?_
 refine zA ?_
 have hfl:(Q0r (erT u)).length<=1048576:=Nat.le_trans (Q9e _) hu.sz
 refine ACode.loopR hΓc (α:=Nat) (fun i=>[(12,.one (int i)),(11,.one (int ((Q0r (erT u)).map cI).length)),(10,.one (.sl 1 ((Q0r (erT u)).map cI))),(0,.one (.ptr (.o km) 0))]) (fun i=>⟨0,[],ou⟩)
  (fun m i=>(i<=(Q0r (erT u)).length/\∀x∈(Q0r (erT u)).take i,(l.map (·.2.2)).contains x=false)/\m=(Q0r (erT u)).length - i) (a0:=0) (ρ:=_root_.id) ⟨⟨by omega,by simp⟩,rfl⟩ (LessR.of rfl zFS (by simp) zLO rfl rfl hou) fun m i hi=>?_
 obtain⟨⟨hil,hno⟩,rfl⟩:=hi
 refine zA ?_
 refine ACode.cond rfl (fun hb=>?_) (fun hb=>?_)
 ·have hlt:i < (Q0r (erT u)).length:=by simpa using hb
  obtain⟨x,hx⟩:=Q00 hlt
  refine zA ?_
  refine zS (zIA rfl rfl rfl (by omega) (Q05 hx)) ?_
  repeat' first|refine zN ?_|((with_reducible refine oj ?_);first|refine zix ?_|refine zow rfl rfl hm ?_)
  refine zS (AStep.rangeMap rfl Tryd.underlying98 rfl hn) ?_
  refine zA ?_
  refine ACode.loopR hΓc (α:=List (Nat×Int×Int)) (fun zs=>[(20,.one (.ptr (.l 0) 0)),(6,.one (int x)),(12,.one (int i)),(11,.one (int ((Q0r (erT u)).map cI).length)),(10,.one (.sl 1 ((Q0r (erT u)).map cI))),(0,.one (.ptr (.o km) 0))])
   (fun zs => ⟨1, [(0, .iter (.o kn) ck (seenL zs) ck)], ou⟩) (fun m zs => ((∀ z ∈ zs, z ∈ l) /\ ∀ z ∈ zs, z.2.2 ≠ x) /\ m = leftM (lU l) (seenL zs)) (a0 := []) (ρ := _root_.id) ⟨⟨by simp, by simp⟩, rfl⟩ (LessR.of rfl zFS (by simp) zLO rfl rfl hou) fun m zs hz => ?_
  obtain⟨⟨hzs,hzn⟩,rfl⟩:=hz
  refine zA ?_
  refine AOps.nextMap rfl rfl rfl rfl rfl rfl hn (Q4c hf) (Nat.le_refl _) Q5g (fun hend=>?_) (fun b q v hmem hnew=>?_)
  ·have hxn:(l.map (·.2.2)).contains x=false:=by
    cases hc:(l.map (·.2.2)).contains x with
    |false=>rfl
    |true=>
     exfalso
     obtain⟨z,hz,hzx⟩:=List.mem_map.1 (List.contains_iff_mem.1 hc)
     have h1:=hend (z.1,.int .i64 z.2.1,eN z.2.2) (List.mem_map.2 ⟨z,hz,rfl⟩)
     obtain⟨y,hy,hyz⟩:=List.mem_map.1 h1
     have h2:=Qhn hf.nb (hzs y hy) hz hyz
     subst h2
     exact hzn y hy hzx
   refine zM ?_
   refine cInv ⟨(Q0r (erT u)).length - (i+1),i+1,_root_.id,by omega,⟨⟨by omega,fun w hw=>?_⟩,rfl⟩,LessR.of rfl zFS (by simp) zLO rfl rfl hou⟩
   rw[Q0j hx]at hw
   rcases List.mem_append.1 hw with hw|hw
   ·exact hno w hw
   ·simp at hw;subst hw;exact hxn
  ·obtain⟨v',⟨z,hz,rfl,rfl,rfl⟩,rfl⟩:=(Qiv _ _ _ _).1 hmem
   obtain⟨bz,kz,vz⟩:=z
   refine zA ?_
   refine zS (AStep.entry (last:=0) (u:=.int .i64 kz) (v:=.one (int vz)) rfl rfl rfl hn (Q3q hf.nb hz) rfl) ?_
   refine zA ?_
   refine ACode.cond rfl (fun hb2=>?_) (fun hb2=>?_)
   ·have hxv:x=vz:=by simpa using hb2
    have hany:((Q0r (erT u)).any fun x=>(l.map (·.2.2)).contains x)=true:=List.any_eq_true.2 ⟨x,List.mem_of_getElem? hx,List.contains_iff_mem.2 (List.mem_map.2 ⟨_,hz,hxv.symm⟩)⟩
    refine zA ?_
    exact AFn.fin' rfl (WkF.ofEq rfl) (by simp) hou ⟨by rw[hany],rfl⟩
   ·have hxv:x≠vz:=by simpa using hb2
    refine zA ?_
    refine cInv ⟨leftM (lU l) (seenL (zs++[(bz,kz,vz)])),zs++[(bz,kz,vz)],_root_.id,?_,⟨⟨fun y hy=>?_,fun y hy=>?_⟩,rfl⟩,LessR.of rfl zFS (by simp) ?_ rfl rfl hou⟩
    ·have h1:=Q3o (l:=lU l) (x:=(bz,kz,())) (seen:=seenL zs) (List.mem_map.2 ⟨(bz,kz,vz),hz,rfl⟩) hnew
     simpa[seenL]using h1
    ·rcases List.mem_append.1 hy with hy|hy
     ·exact hzs y hy
     ·simp at hy;subst hy;exact hz
    ·rcases List.mem_append.1 hy with hy|hy
     ·exact hzn y hy
     ·simp at hy;subst hy;exact Ne.symm hxv
    ·refine zld ?_ .nil
     simp[AObj.ren,seenL];rfl
 ·have hie:i=(Q0r (erT u)).length:=by simp at hb;omega
  subst hie
  rw[List.take_length]at hno
  have hany:((Q0r (erT u)).any fun x=>(l.map (·.2.2)).contains x)=false:=by
   rw[List.any_eq_false]
   intro x hx
   rw[hno x hx];decide
  refine zA ?_
  exact AFn.fin' rfl (WkF.ofEq rfl) (by simp) hou ⟨by rw[hany],rfl⟩
end Go.Proofs.YthboaankaaeemaaDoor
namespace Go.CoreX
theorem Q4h:∀(l:List Int)(f:Int->Option Int)(k:List Int)(j:Int),j∉l->putF f l k j=f j
 |[],f,k,j,_=>rfl
 |x::l,f,k,j,h=>by
  simp only[List.mem_cons,not_or]at h
  rw[putF,Q4h l _ _ j h.2,if_neg h.1]
theorem Qbc:∀(l k:List Int)(f:Int->Option Int)(x y:Int),l.length=k.length->putF f (l++[x]) (k++[y])=fun j=>if x=j then some y else putF f l k j
 |[],[],f,x,y,_=>by
  funext j
  simp only[List.nil_append,putF,List.headD_cons]
  by_cases e:j=x
  ·rw[if_pos e,if_pos e.symm]
  ·rw[if_neg e,if_neg (fun h=>e h.symm)]
 |[],_::_,_,_,_,h=>by cases h
 |_::_,[],_,_,_,h=>by cases h
 |a::l,b::k,f,x,y,h=>by
  simp only[List.cons_append,putF,List.headD_cons,List.tail_cons]
  exact Qbc l k _ x y (by simpa using h)
def NV (s:MtS):Prop:=∀v,(∃j,s.nm j=some v)↔v∈s.vs
theorem Q77:∀(l k:List Int)(f:Int->Option Int)(v:Int),l.Nodup->l.length=k.length->(∀x∈l,f x=none)->((∃j,putF f l k j=some v)↔(∃j,f j=some v)∨v∈k)
 |[],[],f,v,_,_,_=>by simp[putF]
 | [], _ :: _, _, _, _, h, _ => by cases h
 |_::_,[],_,_,_,h,_=>by cases h
 |x::l,y::k,f,v,hn,hl,hf=>by
  simp only[List.nodup_cons]at hn
  simp only[putF,List.headD_cons,List.tail_cons]
  rw[Q77 l k _ v hn.2 (by simpa using hl) (fun z hz=>by
   have hzx:¬z=x:=fun e=>hn.1 (by rw[←e];exact hz)
   rw[if_neg hzx];exact hf z (List.mem_cons_of_mem _ hz))]
  constructor
  ·rintro (⟨j,hj⟩|h)
   ·by_cases e:j=x
    ·rw[if_pos e]at hj;cases hj;exact .inr List.mem_cons_self
    ·rw[if_neg e]at hj;exact .inl ⟨j,hj⟩
   ·exact .inr (List.mem_cons_of_mem _ h)
  ·rintro (⟨j,hj⟩|h)
   ·refine .inl ⟨j,?_⟩
    rw[if_neg (fun e=>by rw[e,hf x List.mem_cons_self]at hj;cases hj)]
    exact hj
   ·rcases List.mem_cons.1 h with rfl|h
    ·exact .inl ⟨x,by rw[if_pos rfl]⟩
    ·exact .inr h
theorem Qcl:∀(a a':List Alt),altsF a a'=true->a.length=a'.length->(a.flatMap (·.binds)).length=(a'.flatMap (·.binds)).length
 |[],[],_,_=>rfl
 |[],_::_,_,h=>by cases h
 |_::_,[],_,h=>by cases h
 |x::a,y::a',h,hl=>by
  simp only[altsF,List.headD_cons,List.tail_cons,Bool.and_eq_true,beq_iff_eq]at h
  simp only[List.flatMap_cons,List.length_append,h.1.2,Qcl a a' h.2 (by simpa using hl)]
theorem Q85{o:Int}{b b':List Int}{a a':List Alt}(h1:b.length=b'.length)(h2:a.length=a'.length)(h3:altsF a a'=true):(Q04 o b a).length=(Q04 o b' a').length:=by
 unfold Q04
 simp only[List.length_append,Qcl a a' h3 h2]
 split
 ·rw[h1]
 ·rfl
mutual
theorem Qad(h:Int)(j:Int):∀(p t:Tr)(s:MtS),j∉bndT p->(Q08 h p t s).2.nm j=s.nm j
 |.mk o n b ks a,.mk o' n' b' ks' a',s,hj=>by
  simp only[bndT,List.mem_append,not_or]at hj
  simp only[Q08]
  split
  ·rfl
  split
  ·rfl
  split
  ·rfl
  split
  ·rfl
  split
  ·rfl
  rw[Q7i h j ks ks' _ hj.2]
  exact Q4h _ _ _ _ hj.1
theorem Q7i(h:Int)(j:Int):∀(l ts:List Tr)(s:MtS),j∉bndTs l->(Q0l h l ts s).2.nm j=s.nm j
 |[],ts,s,_=>rfl
 |p::l,ts,s,hj=>by
  simp only[bndTs,List.mem_append,not_or]at hj
  simp only[Q0l]
  cases hm:(Q08 h p (ts.headD default) s).1 with
  |true=>rw[cond_true,Q7i h j l _ _ hj.2,Qad h j p _ _ hj.1]
  |false=>rw[cond_false];exact Qad h j p _ _ hj.1
end
mutual
theorem Qiw(h:Int):∀(p t:Tr)(s:MtS),(bndT p).Nodup->(∀x∈bndT p,s.nm x=none)->NV s->NV (Q08 h p t s).2
 |.mk o n b ks a,.mk o' n' b' ks' a',s,hn,hf,hv=>by
  simp only[bndT]at hn hf
  obtain⟨n1,n2,n3⟩:=List.nodup_append.1 hn
  simp only[Q08]
  split
  ·exact hv
  split
  ·exact hv
  rename_i h2
  simp only[not_or,Decidable.not_not]at h2
  split
  ·exact hv
  split
  ·exact hv
  split
  ·exact hv
  rename_i h3
  have h3:altsF a a'=true:=by simpa using h3
  have hlen:(Q04 o b a).length=(Q04 o' b' a').length:=by rw[←h2.1];exact Q85 h2.2.2.1 h2.2.2.2 h3
  refine Q7j h ks ks' _ n2 (fun x hx=>?_) fun v=>?_
  ·show putF _ _ _ x=none
   rw[Q4h _ _ _ _ (fun h=>n3 x h x hx rfl)]
   exact hf x (List.mem_append_right _ hx)
  ·show (∃j,putF s.nm _ _ j=some v)↔v∈s.vs++_
   rw[Q77 _ _ _ _ n1 hlen (fun x hx=>hf x (List.mem_append_left _ hx)),hv v,List.mem_append]
theorem Q7j(h:Int):∀(l ts:List Tr)(s:MtS),(bndTs l).Nodup->(∀x∈bndTs l,s.nm x=none)->NV s->NV (Q0l h l ts s).2
 |[],ts,s,_,_,hv=>hv
 |p::l,ts,s,hn,hf,hv=>by
  simp only[bndTs]at hn hf
  obtain⟨n1,n2,n3⟩:=List.nodup_append.1 hn
  have h1:=Qiw h p (ts.headD default) s n1 (fun x hx=>hf x (List.mem_append_left _ hx)) hv
  simp only[Q0l]
  cases hm:(Q08 h p (ts.headD default) s).1 with
  |true=>
   rw[cond_true]
   refine Q7j h l _ _ n2 (fun x hx=>?_) h1
   rw[Qad h x p _ _ (fun h=>n3 x h x hx rfl)]
   exact hf x (List.mem_append_right _ hx)
  |false=>rw[cond_false];exact h1
end
theorem Q6b(h:Int):∀(l ts:List Tr)(s:MtS)(i:Nat)(p t:Tr),l[i]?=some p->ts[i]?=some t->(Q0l h (l.take i) ts s).1=true->Q0l h (l.take (i+1)) ts s=bif (Q08 h p t (Q0l h (l.take i) ts s).2).1 then (true,(Q08 h p t (Q0l h (l.take i) ts s).2).2)else (false,(Q08 h p t (Q0l h (l.take i) ts s).2).2)
 |[],_,_,i,_,_,h1,_,_=>by simp at h1
 |_::_,[],_,i,_,_,_,h2,_=>by simp at h2
 |q::l,u::ts,s,0,p,t,h1,h2,_=>by
  simp only[List.getElem?_cons_zero,Option.some.injEq]at h1 h2
  subst h1;subst h2
  simp only[List.take_succ_cons,List.take_zero,Q0l,List.headD_cons,List.tail_cons]
 |q::l,u::ts,s,i+1,p,t,h1,h2,hm=>by
  simp only[List.getElem?_cons_succ]at h1 h2
  simp only[List.take_succ_cons,Q0l,List.headD_cons,List.tail_cons]at hm ⊢
  cases hq:(Q08 h q u s).1 with
  |true=>
   rw[hq,cond_true]at hm
   rw[cond_true]
   exact Q6b h l ts _ i p t h1 h2 hm
  |false=>rw[hq,cond_false]at hm;cases hm
theorem Q7h(h:Int):∀(l ts:List Tr)(s:MtS)(i:Nat),(Q0l h (l.take i) ts s).1=false->Q0l h l ts s=Q0l h (l.take i) ts s
 |[],ts,s,i,_=>by simp
 |q::l,ts,s,0,hm=>by simp[Q0l]at hm
 |q::l,ts,s,i+1,hm=>by
  simp only[List.take_succ_cons,Q0l]at hm ⊢
  cases hq:(Q08 h q (ts.headD default) s).1 with
  |true=>
   rw[hq,cond_true]at hm
   rw[cond_true,cond_true]
   exact Q7h h l _ _ i hm
  |false=>rw[cond_false,cond_false]
end Go.CoreX
namespace Go.Proofs.YthboaankaaeemaaDoor
open Go Go.Abs Go.CoreX
variable {Γ:List (Nat×List AC)}
theorem AStep.lenB{E:Env}{o:Oper}{fr:Fr}{σ:St}{t:TypeId}{ti:TI}{x:Operand}{nb:Nb}{l:List Int}(hT:TabOk E.P E.T)(ho:o.op=.call { callee:=.builtin .len,args:=#[x],argTypes:=#[t] })(ht:Tab.get t E.T=some ti)(hk:Nat.beq ti.kind 2=true)(hx:aEval E.Γ fr x=some (.one (bC nb l))):AStep E o fr σ (.one (int (l.length:Nat))) σ:=by
 refine AStep.quiet fun F w C tmps hin hf=>⟨.int .i64 l.length,?_,rfl,rfl⟩
 have e1:=Q02 (a:=⟨tmps,E.ds⟩) hin hf hx
 have hu:=(hT t ti ht).slice (Nat.eq_of_beq_eq_true hk)
 have hv:∃a c,Act.eval ⟨tmps,E.ds⟩ x=.slice a l.length c:=by
  cases nb with
  |none=>
   simp only[bC,RF,R,List.length_map]at e1
   obtain⟨a,c,h1,_⟩:=e1
   exact⟨a,c,h1⟩
  |some y=>
   obtain⟨k,cap⟩:=y
   simp only[bC,RF,R,List.length_map]at e1
   exact⟨_,_,e1.2.1⟩
 obtain⟨a,c,hv⟩:=hv
 unfold execOp
 simp[ho,resolve,invoke,builtin,hv,Builtin.len_,Builtin.lenOf,run_underlying hu,goInt,Result.andThen]
theorem LendF.bC{σ:St}{nb:Nb}{l:List Int}(h:Owns σ.ou (bO nb l)):LendF σ (.one (bC nb l)) (.one (.sl 1 (l.map cI))):=by
 intro Γ F w C v hi hr
 simp only[RF]at hr ⊢
 refine Qdg hi hi.stillChg h (fun k hk a ha=>?_) hr
 cases nb with
 |none=>simp[bO,keys]at hk
 |some x=>
  obtain⟨q,cap⟩:=x
  simp[bO,keys]at hk
  subst hk
  show a.block < w.heap.size
  rw[ha]
  exact (AObj.block_lt (hi.obj (.o k) _ (h (k,_) (by simp[bO];rfl))).2 rfl).2
inductive SubT (u:LTr):LTr->Prop
 |refl:SubT u u
 |kid {i:Nat}{o n:Int}{nb:Nb}{b:List Int}{ks:List LTr}{a:List LAlt}{t:LTr}(ht:t∈ks) (h:SubT u t):SubT u (.mk i o n nb b ks a)
def fA:Option LTr->AC
 |none=>.lit (.pointer none)
 |some u=>.ptr (.o u.id) 0
structure MtR (ou:Outer)(km kn kf:Nat)(h:Nat)(s:MtS)(fdL:List (Option LTr)):Prop where
 m:ou km=some (.cells [int (h:Nat),.mp (.o kn),.arr (.o kf) 1 0 h h])
 n:∃ck l,ou kn=some (.map ck (encI eN l))/\IMOk s.nm ck l
 f:ou kf=some (.cells (fdL.map fA))
 fl:fdL.length=h
 fd:s.fd=fdL.map (Option.map erT)
 ne:km≠kf
theorem MtR.nn{ou:Outer}{km kn kf h:Nat}{s:MtS}{fdL:List (Option LTr)}(hR:MtR ou km kn kf h s fdL):km≠kn/\kf≠kn:=by
 obtain⟨ck,l,h1,_⟩:=hR.n
 refine⟨fun e=>?_,fun e=>?_⟩
 ·have:=hR.m;rw[e,h1]at this;cases this
 ·have:=hR.f;rw[e,h1]at this;cases this
def Qhx (p:Tr)(T:LTr)(ou:Outer)(km kn kf:Nat)(h:Nat)(s:MtS)(fdL:List (Option LTr))(r:FV)(ou':Outer):Prop:=
 r=.one (.lit (.bool (Q08 h p (erT T) s).1))/\OuOk ou'/\(∀j,j≠kn->j≠kf->ou' j=ou j)/\((Q08 h p (erT T) s).1=true->∃fdL',MtR ou' km kn kf h (Q08 h p (erT T) s).2 fdL'/\∀u,some u∈fdL'->some u∈fdL∨(SubT u T/\(p.op≠0->∃t∈T.kids,SubT u t)))
def Qhy (p:Tr):Prop:=∀(T:LTr)(ou:Outer)(km kn kf h:Nat)(s:MtS)(fdL:List (Option LTr)),MtR ou km kn kf h s fdL->NV s->(bndT p).Nodup->(∀x∈bndT p,s.nm x=none)->OkTr (erT T)->Owns ou (objs T)->km∉keys (objs T)->kn∉keys (objs T)->kf∉keys (objs T)->OuOk ou->
 AFn Tryd.prog Γc 42 [.one (.ptr (.o km) 0),.one (.box (cTr p)),.one (.ptr (.o T.id) 0)] ou (Qhx p T ou km kn kf h s fdL)
theorem Qjl{f:Int->Option Int}{ck:Nat}{l:List (Nat×Int×Int)}(h:IMOk f ck l)(v:Int):v∈l.map (·.2.2)↔∃k,f k=some v:=by
 constructor
 ·intro hv
  obtain⟨x,hx,rfl⟩:=List.mem_map.1 hv
  refine⟨x.2.1,?_⟩
  rw[←h.look]
  have:∀{l:List (Nat×Int×Int)},(l.map (·.2.1)).Nodup->x∈l->l.find? (fun y=>y.2.1==x.2.1)=some x:=by
   intro l
   induction l with
   |nil=>intro _ h;cases h
   |cons y l ih=>
    intro hn hx
    simp only[List.map_cons,List.nodup_cons]at hn
    rcases List.mem_cons.1 hx with rfl|hx
    ·simp
    ·have hne:y.2.1≠x.2.1:=fun e=>hn.1 (by rw[e];exact List.mem_map_of_mem hx)
     rw[List.find?_cons,beq_eq_false_iff_ne.2 hne]
     exact ih hn.2 hx
  rw[this h.nk hx];rfl
 ·rintro⟨k,hk⟩
  rw[←h.look]at hk
  cases hf:l.find? (fun x=>x.2.1==k) with
  |none=>rw[hf]at hk;cases hk
  |some x=>
   rw[hf]at hk
   simp only[Option.map_some,Option.some.injEq]at hk
   exact hk▸List.mem_map_of_mem (List.mem_of_find?_eq_some hf)
theorem esc_eq{s:MtS}{ck:Nat}{l:List (Nat×Int×Int)}(h:IMOk s.nm ck l)(hv:NV s)(L:List Int):(L.any fun x=>(l.map (·.2.2)).contains x)=L.any fun x=>s.vs.contains x:=by
 have:∀x,(l.map (·.2.2)).contains x=s.vs.contains x:=fun x=>by
  rw[Bool.eq_iff_iff,List.contains_iff_mem,List.contains_iff_mem,Qjl h,hv x]
 simp only[this]
theorem Q5i:∀{a a':List Alt},a.length=a'.length->(altsF a a'=true↔∀(q:Nat)(x y:Alt),a[q]?=some x->a'[q]?=some y->x.tag=y.tag/\x.binds.length=y.binds.length)
 |[],[],_=>by simp[altsF]
 |[],_::_,h=>by cases h
 |_::_,[],h=>by cases h
 |x::a,y::a',h=>by
  simp only[altsF,List.headD_cons,List.tail_cons,Bool.and_eq_true,beq_iff_eq]
  rw[Q5i (by simpa using h)]
  constructor
  ·rintro⟨h1,h2⟩ q u v hu hv
   cases q with
   |zero=>simp at hu hv;subst hu;subst hv;exact h1
   |succ q=>exact h2 q u v (by simpa using hu) (by simpa using hv)
  ·intro h1
   exact⟨h1 0 x y rfl rfl,fun q u v hu hv=>h1 (q+1) u v (by simpa using hu) (by simpa using hv)⟩
theorem OkTr.kid{o n:Int}{b:List Int}{ks:List Tr}{a:List Alt}(h:OkTr (.mk o n b ks a)){t:Tr}(ht:t∈ks):OkTr t:=by
 have h1:=Q9m (t:=.mk o n b ks a) (s:=t) ht
 have h2:∀{l:List Tr},t∈l->cntN t<=cntNs l:=by
  intro l
  induction l with
  |nil=>intro h;cases h
  |cons u l ih=>
   intro h
   simp only[cntNs]
   rcases List.mem_cons.1 h with rfl|h
   ·omega
   ·have:=ih h;omega
 have h3:=h2 ht
 have h4:=Q2a (.mk o n b ks a) []
 have h5:=Q2a t []
 have h6:=h.sz
 have h7:=h.d
 simp only[cntN,List.length_nil]at h4 h5
 exact⟨Qab h.ok ht,by omega,by omega⟩
theorem Qjj{l:List Tr}{j:Nat}{p:Tr}(h:l[j]?=some p):∃r,bndTs l=bndTs (l.take j)++(bndT p++r):=by
 have happ:∀l r:List Tr,bndTs (l++r)=bndTs l++bndTs r:=by
  intro l r
  induction l with
  |nil=>rfl
  |cons t l ih=>simp only[List.cons_append,bndTs,ih,List.append_assoc]
 obtain⟨h1,h2⟩:=List.getElem?_eq_some_iff.1 h
 refine⟨bndTs (l.drop (j+1)),?_⟩
 have h3:l=l.take j++(p::l.drop (j+1)):=by rw[←h2,←List.drop_eq_getElem_cons h1,List.take_append_drop]
 have h4:=happ (l.take j) (p::l.drop (j+1))
 rw[←h3]at h4
 rw[h4];rfl
set_option maxHeartbeats 2000000 in
theorem Qac:∀p:Tr,okT p->allT posV p->Qhy p
 |.mk o n b ps a,hok,hpv=>by
  have ih:∀q∈ps,Qhy q:=fun q hq=>Qac q (Qab hok (by simpa using hq)) (Q3s.1 hpv.2 q hq)
  intro T ou km kn kf h s fdL hR hNV hbn hbf hT hO hkm hkn hkf hou0
  obtain⟨i,o',n',nb,b',ks,a'⟩:=T
  have hi:ou i=some (.cells [int o',int n',bC nb b',.sl 1 (kC ks),.sl 2 (a'.map lAlt)]):=Q32 hO
  have hm:=hR.m
  refine AFn.walk 241 tabOk Tryd.func42 rfl (by kernel_rfl) rfl rfl fun hou=>?_
  refine zA ?_
  refine ACode.cutN 1 rfl hΓc (α:=Unit) (fun _=>[(0,.one (.ptr (.o km) 0)),(1,.one (.box (cTr (.mk o n b ps a)))),(2,.one (.ptr (.o i) 0))]) (fun _=>⟨0,[],ou⟩) (fun _=>¬(o=0/\n < (h:Nat))) ?_ fun _ hH=>?_
  ·dsimp only [List.take_succ_cons,List.take_zero,List.cons_append,List.nil_append]
   by_cases h0:o=0
   ·refine ACode.drawX tabOk 15 [(4,.one (.lit (.bool true))),(13,.one (int (h:Nat)))] follows (by kernel_rfl) rfl rfl rfl rfl ?_ ?_
    ·exact .step rfl (HStep.litB tabOk rfl (by simp[h0])) (.step rfl (HStep.guarded rfl rfl rfl (zLD rfl rfl hm rfl)) .nil)
    refine zA ?_
    refine ACode.cond rfl (fun hb=>?_) (fun hb=>?_)
    ·have hnh:n < (h:Nat):=of_decide_eq_true hb
     have hn0:0<=n:=hpv.1 h0
     obtain⟨N,rfl⟩:∃N:Nat,n=N:=⟨n.toNat,by omega⟩
     have hNh:N < h:=by omega
     have hpos:o=0/\((N:Nat):Int) < (h:Nat):=⟨h0,hnh⟩
     refine zA ?_
     refine ACode.drawX tabOk 9 [(3,.one (.arr (.o kf) 1 0 h h))] follows (by kernel_rfl) rfl rfl rfl rfl ?_ ?_
     ·exact .step rfl (zHP (zLD rfl rfl hm rfl)) .nil
     refine zS (idxI tabOk rfl rfl rfl rfl rfl rfl rfl hNh) ?_
     refine AOps.storeOwn (c:=.ptr (.o i) 0) (cs:=fdL.map fA) (off:=N) tabOk rfl rfl rfl rfl rfl rfl rfl hR.f (by simp[hR.fl];exact hNh) ?_
     rw[Q4q]
     have hset:(fdL.map fA).set N (.ptr (.o i) 0)=(fdL.set N (some (.mk i o' n' nb b' ks a'))).map fA:=by rw[List.map_set];rfl
     rw[hset]
     obtain⟨ou1,hou1⟩:∃ou1,ou1=updO ou kf (.cells ((fdL.set N (some (.mk i o' n' nb b' ks a'))).map fA)):=⟨_,rfl⟩
     have hids:AObj.ids isO (.cells ((fdL.set N (some (.mk i o' n' nb b' ks a'))).map fA)):=by
      show idsL isO _
      refine Q6r.2 fun c hc=>?_
      obtain⟨x,_,rfl⟩:=List.mem_map.1 hc
      cases x <;> simp[fA,AC.ids]
     have hok1:OuOk ou1:=by rw[hou1];exact Q6z hou0 hids
     have hne:∀j,j≠kf->ou1 j=ou j:=fun j hj=>by rw[hou1];exact Q0a _ (Ne.symm hj) _
     obtain⟨ck,l,hn1,hn2⟩:=hR.n
     rw[←hou1]
     have hesc:=Qfm (.mk i o' n' nb b' ks a') hT ou1 km kn ck (h:Nat) (.arr (.o kf) 1 0 h h) l s.nm ((hne km hR.ne).trans hm) ((hne kn (Ne.symm hR.nn.2)).trans hn1) hn2 (hO.frame fun j hj=>hne j fun e=>hkf (e▸hj))
     refine zA ?_
     refine AOps.callK hΓc hesc rfl rfl rfl rfl rfl rfl rfl hok1 (by simp[FV.ids,idsF,AC.ids,isO]) ?_
     refine zA ?_
     have hmat:Q08 (h:Nat) (.mk o N b ps a) (erT (.mk i o' n' nb b' ks a')) s=(!(Q0r (erT (.mk i o' n' nb b' ks a'))).any (fun x=>s.vs.contains x),{ s with fd:=s.fd.set (N:Int).toNat (some (erT (.mk i o' n' nb b' ks a'))) }):=by
      simp only[erT,Q08]
      rw[if_pos hpos]
     refine AFn.fin' rfl (WkF.ofEq rfl) (by simp) hok1 ⟨?_,hok1,fun j _ hj=>hne j hj,fun _=>⟨fdL.set N (some (.mk i o' n' nb b' ks a')),?_,fun u hu=>?_⟩⟩
     ·rw[hmat,esc_eq hn2 hNV]
     ·rw[hmat]
      exact⟨(hne km hR.ne).trans hm,⟨ck,l,(hne kn (Ne.symm hR.nn.2)).trans hn1,hn2⟩,by rw[hou1];exact Q06 _ _ _,by simp[hR.fl],by simp[hR.fd,List.map_set],hR.ne⟩
     ·rcases List.mem_or_eq_of_mem_set hu with hu|hu
      ·exact .inl hu
      ·cases hu;exact .inr ⟨.refl,fun h=>absurd h0 h⟩
    ·have hnh:¬n < (h:Nat):=of_decide_eq_false hb
     refine zA ?_
     exact cInv ⟨(),_root_.id,fun h=>hnh h.2,LessR.of rfl zFS (by simp) zLO rfl rfl hou⟩
   ·refine ACode.drawX tabOk 15 [(4,.one (.lit (.bool false)))] follows (by kernel_rfl) rfl rfl rfl rfl ?_ ?_
    ·exact .step rfl (HStep.litB tabOk rfl (by simp[h0])) .nil
    refine zA ?_
    exact cInv ⟨(),_root_.id,fun h=>h0 h.1,LessR.of rfl zFS (by simp) zLO rfl rfl hou⟩
  have hfalse:∀ou1:Outer,(Q08 (h:Nat) (.mk o n b ps a) (erT (.mk i o' n' nb b' ks a')) s).1=false->OuOk ou1->(∀j,j≠kn->j≠kf->ou1 j=ou j)->Qhx (.mk o n b ps a) (.mk i o' n' nb b' ks a') ou km kn kf h s fdL (.one (.lit (.bool false))) ou1:=fun ou1 e h1 h2=>⟨by rw[e],h1,h2,fun h3=>by rw[e]at h3;cases h3⟩
  have hM:Q08 (h:Nat) (.mk o n b ps a) (erT (.mk i o' n' nb b' ks a')) s=if o≠o'∨ps.length≠ks.length∨b.length≠b'.length∨a.length≠a'.length then (false,s) else
    if o=0 then (s.nm n==some n',s)else if n≠n'∨(o=9/\b≠b')then (false,s)else if altsF a (a'.map LAlt.er)=false then (false,s) else
    Q0l (h:Nat) ps (erTs ks) { s with nm:=putF s.nm (Q04 o b a) (Q04 o' b' (a'.map LAlt.er)),vs:=s.vs++Q04 o' b' (a'.map LAlt.er) }:=by
   simp only[erT,Q08]
   rw[if_neg hH,Qas,List.length_map]
  have hkC:(kC ks).length=ks.length:=by simp[kC]
  refine zA ?_
  by_cases c1:o=o'
  case neg=>
   refine ACode.drawX tabOk 47 [(7,.one (int o')),(8,.one (.lit (.bool true)))] follows (by kernel_rfl) rfl rfl rfl rfl ?_ ?_
   ·exact .step rfl (zHP (zLD rfl rfl hi rfl)) (.step rfl (HStep.litB tabOk rfl (by simpa using c1)) .nil)
   refine zA ?_
   exact AFn.fin' rfl (WkF.ofEq rfl) (by simp) hou (hfalse ou (by rw[hM,if_pos (.inl c1)]) hou0 fun _ _ _=>rfl)
  by_cases c2:ps.length=ks.length
  case neg=>
   refine ACode.drawX tabOk 47 [(7,.one (int o')),(8,.one (.lit (.bool false))),(18,.one (.sl 1 (kC ks))),(20,.one (.lit (.bool true)))] follows (by kernel_rfl) rfl rfl rfl rfl ?_ ?_
   ·refine .step rfl (zHP (zLD rfl rfl hi rfl)) (.step rfl (HStep.litB tabOk rfl (by simpa using c1)) ?_)
    exact .step rfl (HStep.guarded rfl rfl rfl (zLD rfl rfl hi rfl)) (.step rfl (HStep.litB tabOk rfl (by simp[hkC];omega)) .nil)
   refine zA ?_
   exact AFn.fin' rfl (WkF.ofEq rfl) (by simp) hou (hfalse ou (by rw[hM,if_pos (.inr (.inl c2))]) hou0 fun _ _ _=>rfl)
  by_cases c3:b.length=b'.length
  case neg=>
   refine ACode.drawX tabOk 47 [(7,.one (int o')),(8,.one (.lit (.bool false))),(18,.one (.sl 1 (kC ks))),(20,.one (.lit (.bool false))),(31,.one (bC nb b')),(32,.one (int (b'.length:Nat))),(33,.one (.lit (.bool true)))] follows (by kernel_rfl) rfl rfl rfl rfl ?_ ?_
   ·refine .step rfl (zHP (zLD rfl rfl hi rfl)) (.step rfl (HStep.litB tabOk rfl (by simpa using c1)) ?_)
    refine .step rfl (HStep.guarded rfl rfl rfl (zLD rfl rfl hi rfl)) (.step rfl (HStep.litB tabOk rfl (by simp[hkC];omega)) ?_)
    refine .step rfl (HStep.guarded rfl rfl rfl (zLD rfl rfl hi rfl)) (.step rfl (HStep.guarded rfl rfl rfl (AStep.lenB tabOk rfl rfl rfl rfl)) ?_)
    exact .step rfl (HStep.litB tabOk rfl (by simp;omega)) .nil
   refine zA ?_
   exact AFn.fin' rfl (WkF.ofEq rfl) (by simp) hou (hfalse ou (by rw[hM,if_pos (.inr (.inr (.inl c3)))]) hou0 fun _ _ _=>rfl)
  by_cases c4:a.length=a'.length
  case neg=>
   refine ACode.drawX tabOk 47 [(7,.one (int o')),(8,.one (.lit (.bool false))),(18,.one (.sl 1 (kC ks))),(20,.one (.lit (.bool false))),(31,.one (bC nb b')),(32,.one (int (b'.length:Nat))),(33,.one (.lit (.bool false))),(44,.one (.sl 2 (a'.map lAlt))),(46,.one (.lit (.bool true)))] follows (by kernel_rfl) rfl rfl rfl rfl ?_ ?_
   ·refine .step rfl (zHP (zLD rfl rfl hi rfl)) (.step rfl (HStep.litB tabOk rfl (by simpa using c1)) ?_)
    refine .step rfl (HStep.guarded rfl rfl rfl (zLD rfl rfl hi rfl)) (.step rfl (HStep.litB tabOk rfl (by simp[hkC];omega)) ?_)
    refine .step rfl (HStep.guarded rfl rfl rfl (zLD rfl rfl hi rfl)) (.step rfl (HStep.guarded rfl rfl rfl (AStep.lenB tabOk rfl rfl rfl rfl)) ?_)
    refine .step rfl (HStep.litB tabOk rfl (by simp;omega)) (.step rfl (HStep.guarded rfl rfl rfl (zLD rfl rfl hi rfl)) ?_)
    exact .step rfl (HStep.litB tabOk rfl (by simp;omega)) .nil
   refine zA ?_
   exact AFn.fin' rfl (WkF.ofEq rfl) (by simp) hou (hfalse ou (by rw[hM,if_pos (.inr (.inr (.inr c4)))]) hou0 fun _ _ _=>rfl)
  refine ACode.drawX tabOk 47 [(7,.one (int o')),(8,.one (.lit (.bool false))),(18,.one (.sl 1 (kC ks))),(20,.one (.lit (.bool false))),(31,.one (bC nb b')),(32,.one (int (b'.length:Nat))),(33,.one (.lit (.bool false))),(44,.one (.sl 2 (a'.map lAlt))),(46,.one (.lit (.bool false)))] follows (by kernel_rfl) rfl rfl rfl rfl ?_ ?_
  ·refine .step rfl (zHP (zLD rfl rfl hi rfl)) (.step rfl (HStep.litB tabOk rfl (by simpa using c1)) ?_)
   refine .step rfl (HStep.guarded rfl rfl rfl (zLD rfl rfl hi rfl)) (.step rfl (HStep.litB tabOk rfl (by simp[hkC];omega)) ?_)
   refine .step rfl (HStep.guarded rfl rfl rfl (zLD rfl rfl hi rfl)) (.step rfl (HStep.guarded rfl rfl rfl (AStep.lenB tabOk rfl rfl rfl rfl)) ?_)
   refine .step rfl (HStep.litB tabOk rfl (by simp;omega)) (.step rfl (HStep.guarded rfl rfl rfl (zLD rfl rfl hi rfl)) ?_)
   exact .step rfl (HStep.litB tabOk rfl (by simp;omega)) .nil
  have hM2:=hM
  rw[if_neg (by rintro (h1|h1|h1|h1);exact h1 c1;exact h1 c2;exact h1 c3;exact h1 c4)]at hM2
  clear hM
  refine zA ?_
  by_cases h0:o=0
  ·refine ACode.cond rfl (fun hb=>?_) (fun hb=>?_)
   case refine_2=>exact absurd hb (by simp[h0])
   obtain⟨ck,l,hn1,hn2⟩:=hR.n
   refine zA ?_
   refine ACode.drawX tabOk 13 [(3,.one (.mp (.o kn))),(8,.tup [.one (int ((s.nm n).getD 0)),.one (.lit (.bool (s.nm n).isSome))])] follows (by kernel_rfl) rfl rfl rfl rfl ?_ ?_
   ·refine .step rfl (zHP (zLD rfl rfl hm rfl)) ?_
    exact .step rfl (zHP (AStep.lookI eN (cm:=true) (v:=.one (int ((s.nm n).getD 0))) rfl Tryd.underlying98 Tryd.underlying3 rfl hn1 rfl (by kernel_rfl) zeroN hn2 (by cases s.nm n <;> rfl))) .nil
   rw[if_pos h0]at hM2
   refine zA ?_
   refine AOps.splitG rfl rfl rfl (fun hb5=>?_) (fun hb5=>?_)
   ·obtain⟨v,hv⟩:=Option.isSome_iff_exists.1 hb5
    repeat' first|refine zN ?_|((with_reducible refine oj ?_);first|refine zix ?_|refine zow rfl rfl hi ?_)
    refine AFn.fin' rfl (WkF.ofEq rfl) (by simp) hou ⟨?_,hou0,fun _ _ _=>rfl,fun _=>⟨fdL,by rw[hM2];exact hR,fun u hu=>.inl hu⟩⟩
    rw[hM2,hv]
    simp
   ·have hv:s.nm n=none:=by simpa using hb5
    refine zM ?_
    refine AFn.fin' rfl (WkF.ofEq rfl) (by simp) hou ⟨?_,hou0,fun _ _ _=>rfl,fun _=>⟨fdL,by rw[hM2];exact hR,fun u hu=>.inl hu⟩⟩
    rw[hM2,hv]
    simp
  rw[if_neg h0]at hM2
  refine ACode.cond rfl (fun hb=>?_) (fun hb=>?_)
  ·exact absurd (by simpa using hb) h0
  refine zA ?_
  by_cases c5:n=n'
  case neg=>
   refine ACode.drawX tabOk 9 [(7,.one (int n')),(8,.one (.lit (.bool true)))] follows (by kernel_rfl) rfl rfl rfl rfl ?_ ?_
   ·exact .step rfl (zHP (zLD rfl rfl hi rfl)) (.step rfl (HStep.litB tabOk rfl (by simpa using c5)) .nil)
   refine zA ?_
   exact AFn.fin' rfl (WkF.ofEq rfl) (by simp) hou (hfalse ou (by rw[hM2,if_pos (.inl c5)]) hou0 fun _ _ _=>rfl)
  refine ACode.drawX tabOk 9 [(7,.one (int n')),(8,.one (.lit (.bool false)))] follows (by kernel_rfl) rfl rfl rfl rfl ?_ ?_
  ·exact .step rfl (zHP (zLD rfl rfl hi rfl)) (.step rfl (HStep.litB tabOk rfl (by simpa using c5)) .nil)
  refine zA ?_
  refine ACode.cutN 2 rfl hΓc (α:=Unit) (fun _=>[(0,.one (.ptr (.o km) 0)),(1,.one (.box (cTr (.mk o n b ps a)))),(2,.one (.ptr (.o i) 0))]) (fun _=>⟨0,[],ou⟩) (fun _=>¬(o=9/\b≠b')) ?_ fun _ hB=>?_
  ·dsimp only [List.take_succ_cons,List.take_zero,List.cons_append,List.nil_append]
   by_cases c6:o=9
   ·have hob:Owns ou (bO nb b'):=fun p hp=>hO p (by rw[Q2e];simp[hp])
    refine ACode.drawX tabOk 17 [(4,.one (.lit (.bool true))),(13,.one (bC nb b')),(14,.one (.lit (.bool (decide (b=b')))))] follows (by kernel_rfl) rfl rfl rfl rfl ?_ ?_
    ·refine .step rfl (HStep.litB tabOk rfl (by simpa using c6)) (.step rfl (HStep.guarded rfl rfl rfl (zLD rfl rfl hi rfl)) ?_)
     exact .step rfl (HStep.guarded rfl rfl rfl (AStep.callS hΓc (Qi3 hΓc b b' hok.1) (Plain.lit _) rfl rfl rfl (.cons (LendF.refl (by simp)) (.cons (LendF.bC hob) .nil)))) .nil
    refine zA ?_
    refine ACode.cond rfl (fun hb=>?_) (fun hb=>?_)
    ·have c7:b≠b':=by simpa using hb
     refine zA ?_
     exact AFn.fin' rfl (WkF.ofEq rfl) (by simp) hou (hfalse ou (by rw[hM2,if_pos (.inr ⟨c6,c7⟩)]) hou0 fun _ _ _=>rfl)
    ·have c7:b=b':=by simpa using hb
     refine zA ?_
     exact cInv ⟨(),_root_.id,fun h=>h.2 c7,LessR.of rfl zFS (by simp) zLO rfl rfl hou⟩
   ·refine ACode.drawX tabOk 17 [(4,.one (.lit (.bool false)))] follows (by kernel_rfl) rfl rfl rfl rfl ?_ ?_
    ·exact .step rfl (HStep.litB tabOk rfl (by simpa using c6)) .nil
    refine zA ?_
    exact cInv ⟨(),_root_.id,fun h=>c6 h.1,LessR.of rfl zFS (by simp) zLO rfl rfl hou⟩
  rw[if_neg (by rintro (h1|h1);exact h1 c5;exact hB h1)]at hM2
  repeat' first|refine zN ?_|((with_reducible refine oj ?_);first|refine zix ?_|refine zow rfl rfl hi ?_)
  have hal1:a.length=(a'.map LAlt.er).length:=by rw[List.length_map];exact c4
  have hal:=hok.2.2.1
  refine ACode.loopR hΓc (α:=Nat) (fun j=>[(151,.one (int j)),(150,.one (int (a.map cAlt).length)),(0,.one (.ptr (.o km) 0)),(1,.one (.box (cTr (.mk o n b ps a)))),(2,.one (.ptr (.o i) 0))]) (fun _=>⟨0,[],ou⟩)
   (fun m j=>(j<=a.length/\∀(q:Nat) (x y:Alt),q < j->a[q]?=some x->(a'.map LAlt.er)[q]?=some y->x.tag=y.tag/\x.binds.length=y.binds.length)/\m=a.length - j) (a0:=0) (ρ:=_root_.id) ⟨⟨by omega,fun q x y hq=>by omega⟩,rfl⟩ (LessR.of rfl zFS (by simp) zLO rfl rfl hou) fun m j hj=>?_
  obtain⟨⟨hjl,hjq⟩,rfl⟩:=hj
  refine zA ?_
  refine ACode.cond rfl (fun hb=>?_) (fun hb=>?_)
  ·have hlt:j < a.length:=by simpa using hb
   obtain⟨x,hx⟩:=Q00 hlt
   obtain⟨y,hy⟩:=Q00 (l:=a') (i:=j) (by omega)
   have hy2:(a'.map LAlt.er)[j]?=some y.er:=by simp[hy]
   have hyl:(a'.map lAlt)[j]?=some (lAlt y):=by simp[hy]
   refine zA ?_
   by_cases d1:x.tag=y.tag
   ·by_cases d2:x.binds.length=y.binds.length
    ·refine ACode.drawX tabOk 37 [(5,.one (.box (cAlt x))),(11,.one (.sl 2 (a'.map lAlt))),(13,.one (.box (lAlt y))),(16,.one (.lit (.bool false))),(23,.one (.box (cAlt x))),(30,.one (.sl 2 (a'.map lAlt))),(32,.one (.box (lAlt y))),(35,.one (int (y.binds.length:Nat))),(36,.one (.lit (.bool false)))] follows (by kernel_rfl) rfl rfl rfl rfl ?_ ?_
     ·refine .step rfl (zHP (zIA rfl rfl rfl (by omega) (Q05 hx))) (.step rfl (zHP (zLD rfl rfl hi rfl)) ?_)
      refine .step rfl (zHP (zIA rfl rfl rfl (by omega) hyl)) (.step rfl (HStep.litB tabOk rfl (by simpa using d1)) ?_)
      refine .step rfl (HStep.guarded rfl rfl rfl (zIA rfl rfl rfl (by omega) (Q05 hx))) (.step rfl (HStep.guarded rfl rfl rfl (zLD rfl rfl hi rfl)) ?_)
      refine .step rfl (HStep.guarded rfl rfl rfl (zIA rfl rfl rfl (by omega) hyl)) (.step rfl (HStep.guarded rfl rfl rfl (AStep.lenB (nb:=y.nb) tabOk rfl rfl rfl rfl)) ?_)
      exact .step rfl (HStep.litB tabOk rfl (by simp;omega)) .nil
     refine zM ?_
     refine cInv ⟨a.length - (j+1),j+1,_root_.id,by omega,⟨⟨by omega,fun q u v hq hu hv=>?_⟩,rfl⟩,LessR.of rfl zFS (by simp) zLO rfl rfl hou⟩
     by_cases hqj:q=j
     ·subst hqj
      rw[hx]at hu;rw[hy2]at hv
      cases hu;cases hv
      exact⟨d1,d2⟩
     ·exact hjq q u v (by omega) hu hv
    ·refine ACode.drawX tabOk 37 [(5,.one (.box (cAlt x))),(11,.one (.sl 2 (a'.map lAlt))),(13,.one (.box (lAlt y))),(16,.one (.lit (.bool false))),(23,.one (.box (cAlt x))),(30,.one (.sl 2 (a'.map lAlt))),(32,.one (.box (lAlt y))),(35,.one (int (y.binds.length:Nat))),(36,.one (.lit (.bool true)))] follows (by kernel_rfl) rfl rfl rfl rfl ?_ ?_
     ·refine .step rfl (zHP (zIA rfl rfl rfl (by omega) (Q05 hx))) (.step rfl (zHP (zLD rfl rfl hi rfl)) ?_)
      refine .step rfl (zHP (zIA rfl rfl rfl (by omega) hyl)) (.step rfl (HStep.litB tabOk rfl (by simpa using d1)) ?_)
      refine .step rfl (HStep.guarded rfl rfl rfl (zIA rfl rfl rfl (by omega) (Q05 hx))) (.step rfl (HStep.guarded rfl rfl rfl (zLD rfl rfl hi rfl)) ?_)
      refine .step rfl (HStep.guarded rfl rfl rfl (zIA rfl rfl rfl (by omega) hyl)) (.step rfl (HStep.guarded rfl rfl rfl (AStep.lenB (nb:=y.nb) tabOk rfl rfl rfl rfl)) ?_)
      exact .step rfl (HStep.litB tabOk rfl (by simp;omega)) .nil
     have hF:altsF a (a'.map LAlt.er)=false:=by
      cases hf:altsF a (a'.map LAlt.er) with
      |false=>rfl
      |true=>exact absurd ((Q5i hal1).1 hf j x _ hx hy2).2 d2
     refine zA ?_
     exact AFn.fin' rfl (WkF.ofEq rfl) (by simp) hou (hfalse ou (by rw[hM2,if_pos hF]) hou0 fun _ _ _=>rfl)
   ·refine ACode.drawX tabOk 37 [(5,.one (.box (cAlt x))),(11,.one (.sl 2 (a'.map lAlt))),(13,.one (.box (lAlt y))),(16,.one (.lit (.bool true)))] follows (by kernel_rfl) rfl rfl rfl rfl ?_ ?_
    ·refine .step rfl (zHP (zIA rfl rfl rfl (by omega) (Q05 hx))) (.step rfl (zHP (zLD rfl rfl hi rfl)) ?_)
     exact .step rfl (zHP (zIA rfl rfl rfl (by omega) hyl)) (.step rfl (HStep.litB tabOk rfl (by simpa using d1)) .nil)
    have hF:altsF a (a'.map LAlt.er)=false:=by
     cases hf:altsF a (a'.map LAlt.er) with
     |false=>rfl
     |true=>exact absurd ((Q5i hal1).1 hf j x _ hx hy2).1 d1
    refine zA ?_
    exact AFn.fin' rfl (WkF.ofEq rfl) (by simp) hou (hfalse ou (by rw[hM2,if_pos hF]) hou0 fun _ _ _=>rfl)
  have hje:j=a.length:=by simp at hb;omega
  have hF:altsF a (a'.map LAlt.er)=true:=(Q5i hal1).2 fun q x y hx hy=>hjq q x y (by have:=(List.getElem?_eq_some_iff.1 hx).1;omega) hx hy
  rw[if_neg (by rw[hF];decide)]at hM2
  refine zA ?_
  obtain⟨P,hP⟩:∃P,P=Q04 o b a:=⟨_,rfl⟩
  obtain⟨Q,hQ⟩:∃Q,Q=Q04 o' b' (a'.map LAlt.er):=⟨_,rfl⟩
  have hPl:P.length<=4194304:=by
   have h1:=hok.2.2.2.1.2
   have h2:(if o=2∨o=4∨o=5 then b else []).length<=b.length:=by split <;> simp
   rw[hP];unfold Q04;rw[List.length_append];omega
  have hPQ:P.length=Q.length:=by rw[hP,hQ,←c1];exact Q85 c3 hal1 hF
  refine zca hΓc (Q3t hΓc (.mk o n b ps a) hok.2.2.2.1.2 hok.2.2.1) hou ?_
  refine zA ?_
  refine AOps.callSA hΓc (Qdm hΓc (erT (.mk i o' n' nb b' ks a')) hT.ok.2.2.2.1.2 hT.ok.2.2.1) rfl rfl rfl rfl rfl rfl (.cons (LendF.tree (t:=.mk i o' n' nb b' ks a') hO) .nil) ?_
  refine AOps.wk 194 rfl (y:=.one (.sl 1 (P.map cI))) (.ofEq (by rw[hP];rfl)) ?_
  refine AOps.wk 196 rfl (y:=.one (.sl 1 (Q.map cI))) (.ofEq (by rw[hQ];rfl)) ?_
  refine zA ?_
  refine ACode.loopR hΓc (α:=Nat×Outer) (fun c=>[(199,.one (int c.1)),(198,.one (int (P.map cI).length)),(10,.one (.sl 1 (P.map cI))),(11,.one (.sl 1 (Q.map cI))),(0,.one (.ptr (.o km) 0)),(1,.one (.box (cTr (.mk o n b ps a)))),(2,.one (.ptr (.o i) 0))]) (fun c=>⟨0,[],c.2⟩)
   (fun m c=>(c.1<=P.length/\(∃ck l,c.2 kn=some (.map ck (encI eN l))/\IMOk (putF s.nm (P.take c.1) (Q.take c.1)) ck l)/\(∀q,q≠kn->c.2 q=ou q)/\OuOk c.2)/\m=P.length - c.1) (a0:=(0,ou)) (ρ:=_root_.id) ⟨⟨by omega,hR.n,fun _ _=>rfl,hou0⟩,rfl⟩ (LessR.of rfl zFS (by simp) zLO rfl rfl hou) fun m c hc=>?_
  obtain⟨j2,ov⟩:=c
  obtain⟨⟨hjl2,⟨ck,l,hl1,hl2⟩,hovq,hov⟩,rfl⟩:=hc
  dsimp only at hjl2 hl1 hl2 hovq hov
  have hmv:ov km=some (.cells [int (h:Nat),.mp (.o kn),.arr (.o kf) 1 0 h h]):=(hovq km hR.nn.1).trans hm
  refine zA ?_
  refine ACode.cond rfl (fun hb2=>?_) (fun hb2=>?_)
  ·have hlt:j2 < P.length:=by simpa using hb2
   obtain⟨x,hx⟩:=Q00 hlt
   obtain⟨y,hy⟩:=Q00 (l:=Q) (i:=j2) (by omega)
   refine zA ?_
   refine ACode.drawX tabOk 12 [(3,.one (.mp (.o kn))),(6,.one (.box [int x])),(10,.one (.box [int y]))] follows (by kernel_rfl) rfl rfl rfl rfl ?_ ?_
   ·refine .step rfl (zHP (zLD rfl rfl hmv rfl)) (.step rfl (zHP (zIA rfl rfl rfl (by omega) (Q05 hx))) ?_)
    exact .step rfl (zHP (zIA rfl rfl rfl (by omega) (Q05 hy))) .nil
   refine AOps.putI eN (v:=y) rfl rfl rfl Tryd.underlying98 Tryd.underlying3 rfl hl1 rfl rfl hl2 fun ck' l' hf'=>?_
   rw[Q4q]
   refine zM ?_
   refine cInv ⟨P.length - (j2+1),(j2+1,updO ov kn (.map ck' (encI eN l'))),_root_.id,by omega,⟨⟨by omega,⟨ck',l',Q06 _ _ _,?_⟩,fun q hq=>(Q0a _ (Ne.symm hq) _).trans (hovq q hq),Q6z hov (Q3b _ _ _)⟩,rfl⟩,LessR.of rfl zFS (by simp) zLO rfl rfl (Q6z hov (Q3b _ _ _))⟩
   dsimp only
   rw[Q0j hx,Q0j hy,Qbc _ _ _ _ _ (by simp;omega)]
   exact hf'
  have hje2:j2=P.length:=by simp at hb2;omega
  subst hje2
  rw[List.take_length,hPQ,List.take_length]at hl2
  rw[←hP,←hQ]at hM2
  obtain⟨s1,hs1⟩:∃s1:MtS,s1={ s with nm:=putF s.nm P Q,vs:=s.vs++Q }:=⟨_,rfl⟩
  rw[←hs1]at hM2
  have hov0:=hov
  simp only[bndT]at hbn hbf
  obtain⟨n1,n2,n3⟩:=List.nodup_append.1 hbn
  have hnm1:s1.nm=putF s.nm P Q:=by rw[hs1]
  have hNV1:NV s1:=fun v=>by
   rw[hs1]
   show (∃j,putF s.nm P Q j=some v)↔v∈s.vs++Q
   rw[Q77 _ _ _ _ (by rw[hP];exact n1) hPQ (fun x hx=>hbf x (List.mem_append_left _ (by rw[←hP];exact hx))),hNV v,List.mem_append]
  have hfr1:∀x∈bndTs ps,s1.nm x=none:=fun x hx=>by
   rw[hnm1,Q4h _ _ _ _ (fun hx2=>n3 x (by rw[←hP];exact hx2) x hx rfl)]
   exact hbf x (List.mem_append_right _ hx)
  have hR1:MtR ov km kn kf h s1 fdL:=⟨hmv,⟨ck,l,hl1,by rw[hnm1];exact hl2⟩,(hovq kf hR.nn.2).trans hR.f,hR.fl,by rw[hs1];exact hR.fd,hR.ne⟩
  have hpl:=hok.2.1
  have hekl:(erTs ks).length=ks.length:=Qas ks
  refine zA ?_
  refine ACode.loopR hΓc (α:=Nat×Outer×List (Option LTr)) (fun c=>[(220,.one (int c.1)),(219,.one (int (Q0u ps).length)),(0,.one (.ptr (.o km) 0)),(1,.one (.box (cTr (.mk o n b ps a)))),(2,.one (.ptr (.o i) 0))]) (fun c=>⟨0,[],c.2.1⟩)
   (fun m c=>(c.1<=ps.length/\(Q0l (h:Nat) (ps.take c.1) (erTs ks) s1).1=true/\MtR c.2.1 km kn kf h (Q0l (h:Nat) (ps.take c.1) (erTs ks) s1).2 c.2.2/\(∀q,q≠kn->q≠kf->c.2.1 q=ou q)/\OuOk c.2.1/\∀u,some u∈c.2.2->some u∈fdL∨∃t∈ks,SubT u t)/\m=ps.length - c.1) (a0:=(0,ov,fdL)) (ρ:=_root_.id) ⟨⟨by omega,rfl,hR1,fun q hq _=>hovq q hq,hov0,fun u hu=>.inl hu⟩,rfl⟩ (LessR.of rfl zFS (by simp) zLO rfl rfl hov0) fun m c hc=>?_
  clear hR1 hl1 hl2 hmv hov hov0
  obtain⟨j3,ow,fdj⟩:=c
  obtain⟨⟨hjl3,hmt,hRj,hoq,how,hfu⟩,rfl⟩:=hc
  dsimp only at hjl3 hmt hRj hoq how hfu
  have hiw:ow i=some (.cells [int o',int n',bC nb b',.sl 1 (kC ks),.sl 2 (a'.map lAlt)]):=by
   have hik:i∈keys (objs (.mk i o' n' nb b' ks a')):=Qep (.mk i o' n' nb b' ks a')
   rw[hoq i (fun e=>hkn (e▸hik)) (fun e=>hkf (e▸hik))];exact hi
  refine zA ?_
  refine ACode.cond rfl (fun hb3=>?_) (fun hb3=>?_)
  ·have hlt:j3 < ps.length:=by simpa using hb3
   obtain⟨p,hp⟩:=Q00 hlt
   obtain⟨t,ht⟩:=Q00 (l:=ks) (i:=j3) (by omega)
   have htm:=List.mem_of_getElem? ht
   have het:(erTs ks)[j3]?=some (erT t):=by rw[Q2i];simp[ht]
   obtain⟨rr,hrr⟩:=Qjj hp
   rw[hrr]at n2 hfr1
   obtain⟨m1,m2,m3⟩:=List.nodup_append.1 n2
   obtain⟨m4,m5,m6⟩:=List.nodup_append.1 m2
   have hsub:∀k∈keys (objs t),k∈keys (objs (.mk i o' n' nb b' ks a')):=fun k hk=>by
    rw[Q2e]
    simp only[keys,List.map_cons,List.map_append,List.mem_cons,List.mem_append]
    refine .inr (.inr ?_)
    rw[Q2s]
    obtain⟨q,hq,rfl⟩:=List.mem_map.1 hk
    exact List.mem_map_of_mem (List.mem_flatMap.2 ⟨t,htm,hq⟩)
   have hOt:Owns ow (objs t):=(Q7a hO htm).frame fun k hk=>hoq k (fun e=>hkn (e▸hsub k hk)) (fun e=>hkf (e▸hsub k hk))
   have hcall:=ih p (List.mem_of_getElem? hp) t ow km kn kf h (Q0l (h:Nat) (ps.take j3) (erTs ks) s1).2 fdj hRj (Q7j _ _ _ _ m1 (fun x hx=>hfr1 x (List.mem_append_left _ hx)) hNV1) m4 (fun x hx=>by
    rw[Q7i _ _ _ _ _ (fun hx2=>m3 x hx2 x (List.mem_append_left _ hx) rfl)]
    exact hfr1 x (List.mem_append_right _ (List.mem_append_left _ hx))) (hT.kid (by rw[Q2i];exact List.mem_map_of_mem htm)) hOt (fun h=>hkm (hsub _ h)) (fun h=>hkn (hsub _ h)) (fun h=>hkf (hsub _ h)) how
   refine zA ?_
   refine ACode.drawR1 tabOk 16 15 [(6,.one (.box [.box (cTr p)])),(11,.one (.sl 1 (kC ks))),(13,.one (.box [.ptr (.o t.id) 0]))] (fun v σ=>∃ow',Qhx p t ow km kn kf h (Q0l (h:Nat) (ps.take j3) (erTs ks) s1).2 fdj v ow'/\σ=⟨0,[],ow'⟩)
    follows (by kernel_rfl) rfl rfl (by kernel_rfl) (by kernel_rfl) rfl rfl rfl rfl ?_ ?_ ?_ ?_ ?_
   ·rintro v σ ⟨ow',_,rfl⟩;rfl
   ·refine .step rfl (zHP (zIA rfl rfl rfl (by omega) (Q22 hp))) (.step rfl (zHP (zLD rfl rfl hiw rfl)) ?_)
    exact .step rfl (zHP (zIA rfl rfl rfl (by omega) (Qek ht))) .nil
   ·rintro v σ ⟨ow',hq,rfl⟩
    have hiw2:ow' i=some (.cells [int o',int n',bC nb b',.sl 1 (kC ks),.sl 2 (a'.map lAlt)]):=by
     have hik:i∈keys (objs (.mk i o' n' nb b' ks a')):=Qep (.mk i o' n' nb b' ks a')
     rw[hq.2.2.1 i (fun e=>hkn (e▸hik)) (fun e=>hkf (e▸hik))];exact hiw
    refine .step rfl (zHP (zIA rfl rfl rfl (by omega) (Q22 hp))) (.step rfl (zHP (zLD rfl rfl hiw2 rfl)) ?_)
    exact .step rfl (zHP (zIA rfl rfl rfl (by omega) (Qek ht))) .nil
   ·exact .inl (.inr ⟨rfl,Q2q.call hΓc rfl rfl rfl rfl (by simp[FV.ids,idsF,AC.ids,isO]) how hcall fun r ow2 hq _ _=>⟨ow2,hq,rfl⟩⟩)
   ·rintro v σ ⟨ow2,⟨rfl,hok2,hfr2,hQ2⟩,rfl⟩
    have hsp:=Q6b (h:Nat) ps (erTs ks) s1 j3 p (erT t) hp het hmt
    cases hb:(Q08 (h:Nat) p (erT t) (Q0l (h:Nat) (ps.take j3) (erTs ks) s1).2).1 with
    |true=>
     rw[hb,cond_true]at hsp
     obtain⟨fdj',hR2,hf2⟩:=hQ2 hb
     refine zM ?_
     refine cInv ⟨ps.length - (j3+1),(j3+1,ow2,fdj'),_root_.id,by omega,⟨⟨by omega,by rw[hsp],by rw[hsp];exact hR2,fun q h1 h2=>(hfr2 q h1 h2).trans (hoq q h1 h2),hok2,fun u hu=>?_⟩,rfl⟩,LessR.of rfl zFS (by simp) zLO rfl rfl hok2⟩
     rcases hf2 u hu with h1|h1
     ·exact hfu u h1
     ·exact .inr ⟨t,htm,h1.1⟩
    |false=>
     rw[hb,cond_false]at hsp
     refine zM ?_
     refine AFn.fin' rfl (WkF.ofEq rfl) (by simp) hok2 (hfalse ow2 ?_ hok2 fun q h1 h2=>(hfr2 q h1 h2).trans (hoq q h1 h2))
     rw[hM2,Q7h _ _ _ _ (j3+1) (by rw[hsp]),hsp]
  ·have hje3:j3=ps.length:=by simp at hb3;omega
   subst hje3
   rw[List.take_length]at hmt hRj
   refine zA ?_
   refine AFn.fin' rfl (WkF.ofEq rfl) (by simp) how ⟨by rw[hM2,hmt],how,hoq,fun _=>⟨fdj,by rw[hM2];exact hRj,fun u hu=>(hfu u hu).imp _root_.id fun ⟨t,ht,hs⟩=>⟨.kid ht hs,fun _=>⟨t,ht,hs⟩⟩⟩⟩
def cRu (H:Nat)(Lx Rx:List Ex):List AC:=[int (H:Nat),.sl 5 (Lx.map cEx),.sl 5 (Rx.map cEx)]
@[simp] theorem ids_cRu (p:Abs.Id->Prop) (H:Nat) (Lx Rx:List Ex):idsL p (cRu H Lx Rx):=by simp[cRu]
inductive MkM (A0 A1 B0 B1 C0 C1 D:FV)(σ0 σa σb σab σba σc σd:St):(Nat->Option FV)->St->Prop
 |n:MkM A0 A1 B0 B1 C0 C1 D σ0 σa σb σab σba σc σd (fun _=>none) σ0
 |a:MkM A0 A1 B0 B1 C0 C1 D σ0 σa σb σab σba σc σd (updV (fun _=>none) 2 A0) σa
 |b:MkM A0 A1 B0 B1 C0 C1 D σ0 σa σb σab σba σc σd (updV (fun _=>none) 5 B0) σb
 |ab:MkM A0 A1 B0 B1 C0 C1 D σ0 σa σb σab σba σc σd (updV (updV (fun _=>none) 2 A0) 5 B1) σab
 |ba:MkM A0 A1 B0 B1 C0 C1 D σ0 σa σb σab σba σc σd (updV (updV (fun _=>none) 5 B0) 2 A1) σba
 |abc:MkM A0 A1 B0 B1 C0 C1 D σ0 σa σb σab σba σc σd (updV (updV (updV (fun _=>none) 2 A0) 5 B1) 6 C0) σab
 |bac:MkM A0 A1 B0 B1 C0 C1 D σ0 σa σb σab σba σc σd (updV (updV (updV (fun _=>none) 5 B0) 2 A1) 6 C1) σba
 |abd:MkM A0 A1 B0 B1 C0 C1 D σ0 σa σb σab σba σc σd (updV (updV (updV (updV (fun _=>none) 2 A0) 5 B1) 6 C0) 7 D) σc
 |bad:MkM A0 A1 B0 B1 C0 C1 D σ0 σa σb σab σba σc σd (updV (updV (updV (updV (fun _=>none) 5 B0) 2 A1) 6 C1) 7 D) σd
structure RuOk (H:Nat)(Lx Rx:List Ex):Prop where
 h:H<=1
 le:okE Lx
 lk:Q0h Lx
 ln:Lx≠[]
 lo:okT (grow Lx)
 lp:allT posV (grow Lx)
 lb:(bndT (grow Lx)).Nodup
 lr:(grow Lx).op≠0
 re:okE Rx
 rt:IsTree Rx
 rb:noB Rx
 rn:nobT (grow Rx)
 rp:allT posV (grow Rx)
 rc:hcTs (H:Nat) [grow Rx]<=1
 fd:∀t,(Q08 (H:Nat) (grow Lx) t (s0F H)).1=true->none∉(Q08 (H:Nat) (grow Lx) t (s0F H)).2.fd
theorem Qa1{u:LTr}:∀{T:LTr},SubT u T->∀p∈objs u,p∈objs T
 |_,.refl,p,hp=>hp
 |_,.kid (i:=i) (o:=o) (n:=n) (nb:=nb) (b:=b) (ks:=ks) (a:=a) ht h,p,hp=>by
  have h1:=Qa1 h p hp
  rw[Q2e]
  refine List.mem_cons_of_mem _ (List.mem_append_right _ ?_)
  rw[Q2s]
  exact List.mem_flatMap.2 ⟨_,ht,h1⟩
theorem Q8k{u:LTr}:∀{T:LTr},SubT u T->(keys (objs T)).Nodup->(keys (objs u)).Nodup
 |_,.refl,h=>h
 |_,.kid (ks:=ks) (t:=t) ht h,hn=>by
  obtain⟨l,r,rfl⟩:=List.append_of_mem ht
  exact Q8k h (Q4i hn)
theorem subT_id{u:LTr}{T t:LTr}(ht:t∈T.kids)(h:SubT u t)(hn:(keys (objs T)).Nodup):T.id∉keys (objs u):=fun hm=>by
 obtain⟨i,o,n,nb,b,ks,a⟩:=T
 rw[Q2e]at hn
 simp only[keys,List.map_cons,List.nodup_cons,List.map_append,List.mem_append,not_or]at hn
 refine hn.1.2 ?_
 rw[Q2s]
 obtain⟨p,hp,e⟩:=List.mem_map.1 hm
 exact List.mem_map.2 ⟨p,List.mem_flatMap.2 ⟨t,ht,Qa1 h p hp⟩,e⟩
theorem Q8j{u:LTr}:∀{T:LTr},SubT u T->Q1i T->Q1i u
 |_,.refl,h=>h
 |_,.kid ht h,hp=>Q8j h (Q0s.1 hp.2.2 _ ht)
def ReplQ (H:Nat)(Lx Rx:List Ex)(T:LTr)(ou:Outer)(r:FV)(ou':Outer):Prop:=OuOk ou'/\
 (replF ⟨H,grow Lx,grow Rx⟩ (erT T)=none->r=.one (.lit (.pointer none))/\∀j o,ou j=some o->ou' j=some o)/\
 ∀D,replF ⟨H,grow Lx,grow Rx⟩ (erT T)=some D->∃N:LTr,r=.one (.ptr (.o N.id) 0)/\erT N=D/\(Q1i T->Q1i N)/\Owns ou' (objs N)/\(keys (objs N)).Nodup/\(∀k∈keys (objs N),ou k=none∨(k∈keys (objs T)/\k≠T.id))/\∀j o,ou j=some o->(j∉keys (objs T)∨j=T.id)->ou' j=some o
theorem NV0(H:Nat):NV (s0F H):=fun v=>by simp[s0F]
set_option maxHeartbeats 2000000 in
theorem Qcw(H:Nat)(Lx Rx:List Ex)(hr:RuOk H Lx Rx)(T W:LTr)(ou:Outer)(hT:OkTr (erT T))(hW:okT (erT W))(hmx:-1<=mxT (erT W)/\mxT (erT W)<=1048576)(hOT:Owns ou (objs T))(hnT:(keys (objs T)).Nodup)(hOW:Owns ou (objs W)):
  AFn Tryd.prog Γc 75 [.agg (cRu H Lx Rx),.one (.ptr (.o T.id) 0),.one (.ptr (.o W.id) 0)] ou (ReplQ H Lx Rx T ou):=by
 have hH:=hr.h
 refine AFn.walk 54 tabOk Tryd.func75 rfl (by kernel_rfl) rfl rfl fun hou=>?_
 refine zA ?_
 refine ACode.cutR hΓc (α:=Unit) (fun _=>[(7,.one (.ptr (.l 3) 0)),(3,.one (.ptr (.l 0) 0)),(1,.one (.ptr (.o T.id) 0)),(2,.one (.ptr (.o W.id) 0))])
  (fun _ => ⟨4, [(3, .cells [int (H : Nat), .mp (.l 1), .arr (.l 2) 1 0 H H]), (2, .cells (List.replicate H (.lit (.pointer none)))), (1, .map 0 (encI eN [])), (0, .cells (cRu H Lx Rx))], ou⟩) (fun _ => True) ?_ fun _ _ => ?_
 ·have hb:ti90.bytes * H<=281474976710656:=by show 8 * _<=_;omega
  have hb2:H<=281474976710656:=by omega
  refine ACode.drawS 8 [2,5,6,7] [.one (.ptr (.l 0) 0),.one (int (H:Nat)),.bot,.one (.ptr (.l 0) 0),.one (int (H:Nat)),.bot,.bot,.bot]
   (MkM (.one (.mp (.l 1))) (.one (.mp (.l 2))) (.one (.arr (.l 1) 1 0 H H)) (.one (.arr (.l 2) 1 0 H H)) (.agg [int (H : Nat), .mp (.l 1), .arr (.l 2) 1 0 H H]) (.agg [int (H : Nat), .mp (.l 2), .arr (.l 1) 1 0 H H]) (.one (.ptr (.l 3) 0))
    ⟨1,[(0,.cells (cRu H Lx Rx))],ou⟩ ⟨2,[(1,.map 0 []),(0,.cells (cRu H Lx Rx))],ou⟩ ⟨2,[(1,.cells (List.replicate H (.lit (.pointer none)))),(0,.cells (cRu H Lx Rx))],ou⟩
    ⟨3,[(2,.cells (List.replicate H (.lit (.pointer none)))),(1,.map 0 []),(0,.cells (cRu H Lx Rx))],ou⟩ ⟨3,[(2,.map 0 []),(1,.cells (List.replicate H (.lit (.pointer none)))),(0,.cells (cRu H Lx Rx))],ou⟩
    ⟨4,[(3,.cells [int (H:Nat),.mp (.l 1),.arr (.l 2) 1 0 H H]),(2,.cells (List.replicate H (.lit (.pointer none)))),(1,.map 0 []),(0,.cells (cRu H Lx Rx))],ou⟩
    ⟨4,[(3,.cells [int (H:Nat),.mp (.l 2),.arr (.l 1) 1 0 H H]),(2,.map 0 []),(1,.cells (List.replicate H (.lit (.pointer none)))),(0,.cells (cRu H Lx Rx))],ou⟩)
   follows (by kernel_rfl) rfl rfl .n ?_ ?_ ?_ ?_
  ·intro f σ h i hi
   have:2≠i/\5≠i/\6≠i/\7≠i:=⟨(by rintro rfl;cases hi),(by rintro rfl;cases hi),(by rintro rfl;cases hi),(by rintro rfl;cases hi)⟩
   cases h <;> simp[updV,this]
  ·intro i o hi hS hlo
   match i,hi with
   |0,_=>cases hlo;exact⟨_,rfl,rfl,rfl,by kernel_rfl,fun f σ h=>by cases h <;> exact HStep.auto tabOk rfl⟩
   |1,_=>cases hlo;exact⟨_,rfl,rfl,rfl,by kernel_rfl,fun f σ h=>by cases h <;> exact HStep.auto tabOk rfl⟩
   |2,_=>cases hS
   |3,_=>cases hlo;exact⟨_,rfl,rfl,rfl,by kernel_rfl,fun f σ h=>by cases h <;> exact HStep.auto tabOk rfl⟩
   |4,_=>cases hlo;exact⟨_,rfl,rfl,rfl,by kernel_rfl,fun f σ h=>by cases h <;> exact HStep.auto tabOk rfl⟩
   |5,_=>cases hS
   |6,_=>cases hS
   |7,_=>cases hS
  ·intro f σ i o h hS hlo hfi hdep
   have hi:i=2∨i=5∨i=6∨i=7:=by
    simp only[List.any_cons,List.any_nil,Bool.or_false,Bool.or_eq_true]at hS
    rcases hS with h|h|h|h <;> have:=Nat.eq_of_beq_eq_true h <;> omega
   rcases hi with rfl|rfl|rfl|rfl <;> cases hlo
   ·cases h with
    |n=>exact⟨rfl,rfl,_,_,HStep.plain rfl (AStep.makeMap rfl),.a⟩
    |b=>exact⟨rfl,rfl,_,_,HStep.plain rfl (AStep.makeMap rfl),.ba⟩
    |_=>cases hfi
   ·cases h with
    |n=>exact⟨rfl,rfl,_,_,HStep.plain rfl (AStep.makeArr (σ:=⟨1,[(0,.cells (cRu H Lx Rx))],ou⟩) tabOk rfl rfl rfl rfl rfl rfl rfl rfl hb hb2),.b⟩
    |a=>exact⟨rfl,rfl,_,_,HStep.plain rfl (AStep.makeArr (σ:=⟨2,[(1,.map 0 []),(0,.cells (cRu H Lx Rx))],ou⟩) tabOk rfl rfl rfl rfl rfl rfl rfl rfl hb hb2),.ab⟩
    |_=>cases hfi
   ·cases h with
    |ab=>exact⟨rfl,rfl,_,_,HStep.auto tabOk rfl,.abc⟩
    |ba=>exact⟨rfl,rfl,_,_,HStep.auto tabOk rfl,.bac⟩
    |n=>exact absurd (hdep ⟨2,.data⟩ (.tail _ (.head _)) rfl rfl) (by simp)
    |a=>exact absurd (hdep ⟨5,.data⟩ (.tail _ (.tail _ (.head _))) rfl rfl) (by simp[updV])
    |b=>exact absurd (hdep ⟨2,.data⟩ (.tail _ (.head _)) rfl rfl) (by simp[updV])
    |_=>cases hfi
   ·cases h with
    |abc=>exact⟨rfl,rfl,_,_,HStep.auto tabOk rfl,.abd⟩
    |bac=>exact⟨rfl,rfl,_,_,HStep.auto tabOk rfl,.bad⟩
    |n=>exact absurd (hdep ⟨6,.data⟩ (.head _) rfl rfl) (by simp)
    |a=>exact absurd (hdep ⟨6,.data⟩ (.head _) rfl rfl) (by simp[updV])
    |b=>exact absurd (hdep ⟨6,.data⟩ (.head _) rfl rfl) (by simp[updV])
    |ab=>exact absurd (hdep ⟨6,.data⟩ (.head _) rfl rfl) (by simp[updV])
    |ba=>exact absurd (hdep ⟨6,.data⟩ (.head _) rfl rfl) (by simp[updV])
    |_=>cases hfi
  ·intro f σ h hall
   have h7:=hall 7 (by simp) (by omega)
   cases h with
   |abd=>
    refine zA ?_
    exact cInv ⟨(),_root_.id,trivial,LessR.of rfl zFS (by simp) zLO rfl rfl hou⟩
   |bad=>
    refine zA ?_
    exact cInv ⟨(),fun k=>if k=1 then 2 else if k=2 then 1 else k,trivial,LessR.of rfl zFS (by simp) zLO rfl rfl hou⟩
   |n=>cases h7
   |a=>cases h7
   |b=>cases h7
   |ab=>cases h7
   |ba=>cases h7
   |abc=>cases h7
   |bac=>cases h7
 refine zA ?_
 refine zca hΓc (Q8b hΓc Lx hr.le hr.lk hr.ln) hou ?_
 repeat ((fail_if_success ((with_reducible refine oj ?_);refine AOps.atDst 23 rfl ?_));first|refine zO ?_)
 have hθ:∀(k:Nat) (i:Abs.Id),isO i->toOs [3,1,2] k i=i:=fun k i hi=>by cases i with|l q=>exact hi.elim|o q=>rfl
 refine AOps.cedes [3,1,2] rfl (by decide) hou fun k hk=>⟨[(18,.one (.ptr (.o k) 0)),(21,.one (.box (cTr (grow Lx)))),(22,.one (.ptr (.o T.id) 0)),(7,.one (.ptr (.o k) 0)),(3,.one (.ptr (.l 0) 0)),(1,.one (.ptr (.o T.id) 0)),(2,.one (.ptr (.o W.id) 0))],
  [(0,.cells (cRu H Lx Rx))],[.cells [int (H:Nat),.mp (.o (k+1)),.arr (.o (k+2)) 1 0 H H],.map 0 (encI eN []),.cells (List.replicate H (.lit (.pointer none)))],?_,?_,?_,?_⟩
 ·exact .cons rfl rfl (.cons rfl (FV.sub_f (hθ k) _ (by simp)) (.cons rfl rfl (.cons rfl rfl (.cons rfl rfl (.cons rfl rfl (.cons rfl rfl .nil))))))
 ·exact .cons rfl rfl (AObj.sub_f (hθ k) _ (by simp)) .nil
 ·exact .cons rfl rfl (.cons rfl rfl (.cons rfl (AObj.sub_f (hθ k) (.cells _) (Q6c _ _ _)) .nil))
 have hk':∀m,k<=m->ou m=none:=hk
 obtain⟨o1,ho1⟩:∃o1:Outer,o1=ouAdd ou k [.cells [int (H:Nat),.mp (.o (k+1)),.arr (.o (k+2)) 1 0 H H],.map 0 (encI eN []),.cells (List.replicate H (.lit (.pointer none)))]:=⟨_,rfl⟩
 have g0:o1 k=some (.cells [int (H:Nat),.mp (.o (k+1)),.arr (.o (k+2)) 1 0 H H]):=by rw[ho1];exact Q0f 0
 have g1:o1 (k+1)=some (.map 0 (encI eN [])):=by rw[ho1];exact Q0f 1
 have g2:o1 (k+2)=some (.cells ((List.replicate H (none:Option LTr)).map fA)):=by rw[ho1,List.map_replicate];exact Q0f 2
 have g4:∀j,j < k->o1 j=ou j:=fun j hj=>by rw[ho1];exact Q26 hj
 have g5:OuOk o1:=by
  rw[ho1]
  refine Q2r hou fun o ho=>?_
  simp only[List.mem_cons,List.not_mem_nil,or_false]at ho
  rcases ho with rfl|rfl|rfl
  ·simp
  ·exact Q3b _ _ _
  ·exact Q6c _ _ _
 have hltO:∀{L:List (Nat×AObj)},Owns ou L->∀j∈keys L,j < k:=fun {L} h j hj=>by
  obtain⟨p,hp,rfl⟩:=List.mem_map.1 hj
  exact Q1y hk' (h p hp)
 have hOT1:Owns o1 (objs T):=hOT.frame fun j hj=>g4 j (hltO hOT j hj)
 have hOW1:Owns o1 (objs W):=hOW.frame fun j hj=>g4 j (hltO hOW j hj)
 have hcall:=Qac (grow Lx) hr.lo hr.lp T o1 k (k+1) (k+2) H (s0F H) (List.replicate H none) ⟨g0,⟨0,[],g1,IMOk.nil⟩,g2,by simp,by simp[s0F],by omega⟩ (NV0 H) hr.lb (fun _ _=>rfl) hT hOT1
  (fun h=>by have:=hltO hOT _ h;omega) (fun h=>by have:=hltO hOT _ h;omega) (fun h=>by have:=hltO hOT _ h;omega) g5
 show AOps _ _ _ _ _ ⟨4,[(0,.cells (cRu H Lx Rx))],ouAdd ou k [.cells [int (H:Nat),.mp (.o (k+1)),.arr (.o (k+2)) 1 0 H H],.map 0 (encI eN []),.cells (List.replicate H (.lit (.pointer none)))]⟩
 rw[←ho1]
 refine AOps.call1 hΓc rfl rfl rfl rfl rfl rfl rfl (by simp[FV.ids,idsF,AC.ids,isO]) g5 hcall fun r ow hq hids how=>?_
 obtain⟨rfl,_,hfr,hQ⟩:=hq
 have hext:∀j o,ou j=some o->ow j=some o:=fun j o hj=>by
  have hjk:j < k:=Q1y hk' hj
  rw[hfr j (by omega) (by omega),g4 j hjk];exact hj
 have hrep:replF ⟨H,grow Lx,grow Rx⟩ (erT T)=if (Q08 (H:Nat) (grow Lx) (erT T) (s0F H)).1=true then some (fillF (H:Nat) (Q08 (H:Nat) (grow Lx) (erT T) (s0F H)).2.fd (grow Rx))else none:=rfl
 cases hm:(Q08 (H:Nat) (grow Lx) (erT T) (s0F H)).1 with
 |false=>
  rw[hm,if_neg (by decide)]at hrep
  refine zA ?_
  exact AFn.fin' rfl (WkF.ofEq rfl) (by simp) how ⟨how,fun _=>⟨rfl,hext⟩,fun D hD=>by rw[hrep]at hD;cases hD⟩
 |true=>
  rw[hm,if_pos rfl]at hrep
  obtain⟨fdL,hR,hfu⟩:=hQ hm
  refine zA ?_
  refine AOps.call1 hΓc rfl rfl rfl rfl rfl rfl rfl (by simp[FV.ids,idsF,AC.ids,isO]) how (Qi0 hΓc Rx hr.re hr.rt.k hr.rt hr.rb ow) fun r o2 hq2 hids2 ho2=>?_
  obtain⟨Ft,rfl,hFe,hFok,hFo,hFn,hFnew,_,hFold⟩:=hq2
  have hext2:∀j o,ou j=some o->o2 j=some o:=fun j o hj=>hFold j o (hext j o hj)
  have hOW2:Owns o2 (objs W):=fun p hp=>hext2 p.1 p.2 (hOW p hp)
  obtain⟨v,hv⟩:∃v:Int,v=if (H:Int) > mxT (erT W)+1 then (H:Int)else mxT (erT W)+1:=⟨_,rfl⟩
  refine zA ?_
  refine ACode.drawX tabOk 7 [(2,.one (int (mxT (erT W)))),(3,.one (int (mxT (erT W)+1))),(6,.one (int v))] follows (by kernel_rfl) rfl rfl rfl rfl ?_ ?_
  ·refine .step rfl (zHP (AStep.callS hΓc (Qf2 hΓc (erT W) hW) (Plain.lit _) rfl rfl rfl (.cons (LendF.tree hOW2) .nil))) ?_
   refine .step rfl (zHP (AStep.arith rfl rfl rfl (.inl ⟨rfl,rfl⟩) zI)) ?_
   exact .step rfl (zHP (AStep.wk (AStep.max2 (t:=3) (ty:=3) rfl rfl rfl) (.ofEq (by rw[hv])))) .nil
  refine AOps.callS hΓc (Qfu hΓc (erFt Ft) (by rw[hFe];exact hr.rn) v) (Plain.lit _) rfl rfl rfl rfl rfl rfl (.cons (LendF.ft hFok hFo) (.cons (LendF.refl trivial) .nil)) ?_
  repeat ((fail_if_success ((with_reducible refine oj ?_);refine AOps.atDst 37 rfl ?_));first|refine zO ?_)
  refine zS (AStep.buildOwn tabOk rfl rfl rfl rfl rfl rfl rfl) ?_
  refine zA ?_
  have hmw:o2 k=some (.cells [int (H:Nat),.mp (.o (k+1)),.arr (.o (k+2)) 1 0 H H]):=hFold _ _ hR.m
  have hfw:o2 (k+2)=some (.cells (fdL.map fA)):=hFold _ _ hR.f
  refine ACode.drawX tabOk 7 [(6,.one (.arr (.o (k+2)) 1 0 H H))] follows (by kernel_rfl) rfl rfl rfl rfl ?_ ?_
  ·exact .step rfl (zHP (zLD rfl rfl hmw rfl)) .nil
  refine AOps.wkObj (.l 5) rfl (cs':=[int 0,int 0,.sl 1 [],.arr (.l 4) 1 0 1 1,.sl 2 []]) (fun w C xs h=>(show WkL _ _ from .cons (.refl _) (.cons (.refl _) (.cons (.nilS 1) (.cons (.refl _) (.cons (.nilS 2) .nil))))) w C xs h) ?_
  have hθ2:∀(k:Nat) (i:Abs.Id),isO i->toOs [5,4] k i=i:=fun k i hi=>by cases i with|l q=>exact hi.elim|o q=>rfl
  refine AOps.cedes [5,4] rfl (by decide) ho2 fun k2 hk2=>⟨[(40,.one (.ptr (.o k2) 0)),(42,.one (int (H:Nat))),(46,.one (.arr (.o (k+2)) 1 0 H H)),(9,.one (.ptr (.o k2) 0))],[],[nFt 0 0 (some (k2+1,1)) (kFt [Ft]),.cells (vec 1 (kFt [Ft]) 1)],?_,.nil,?_,?_⟩
  ·exact .cons rfl rfl (.cons rfl rfl (.cons rfl rfl (.cons rfl rfl .nil)))
  ·exact .cons rfl rfl (.cons rfl rfl .nil)
  have hk2':∀m,k2<=m->o2 m=none:=hk2
  have hlt2:∀{L:List (Nat×AObj)},Owns o2 L->∀j∈keys L,j < k2:=fun {L} h j hj=>by
   obtain⟨p,hp,rfl⟩:=List.mem_map.1 hj
   exact Q1y hk2' (h p hp)
  obtain⟨o3,ho3⟩:∃o3:Outer,o3=ouAdd o2 k2 [nFt 0 0 (some (k2+1,1)) (kFt [Ft]),.cells (vec 1 (kFt [Ft]) 1)]:=⟨_,rfl⟩
  have q0:o3 k2=some (nFt 0 0 (some (k2+1,1)) (kFt [Ft])):=by rw[ho3];exact Q0f 0
  have q1:o3 (k2+1)=some (.cells (vec 1 (kFt [Ft]) 1)):=by rw[ho3];exact Q0f 1
  have q4:∀j,j < k2->o3 j=o2 j:=fun j hj=>by rw[ho3];exact Q26 hj
  have q5:OuOk o3:=by
   rw[ho3]
   refine Q2r ho2 fun o ho=>?_
   simp only[List.mem_cons,List.not_mem_nil,or_false]at ho
   rcases ho with rfl|rfl
   ·exact ids_nFt _ _ _ (by simp)
   ·exact Q2g (by simp)
  have hext3:∀j o,ou j=some o->o3 j=some o:=fun j o hj=>by
   have:=hext2 j o hj
   rw[q4 j (Q1y hk2' this)];exact this
  obtain⟨fo,hfo1,hfo2,hfo3,hfo4⟩:∃fo:Option LTr,hNo fo=H/\fdL.map fA=foC fo/\fdL.map (Option.map erT)=fdFo fo/\∀u,fo=some u->some u∈fdL:=by
   have hfl:=hR.fl
   have hnn:=hr.fd _ hm
   rw[hR.fd]at hnn
   match fdL,hfl,hnn with
   |[],hfl,_=>exact⟨none,hfl,rfl,rfl,fun u h=>by cases h⟩
   |[none],_,hnn=>exact absurd (by simp) hnn
   |[some u],hfl,_=>exact⟨some u,hfl,rfl,rfl,fun u h=>by cases h;simp⟩
   |_::_::_,hfl,_=>simp only[List.length_cons]at hfl;omega
  have hfu2:∀u,fo=some u->SubT u T/\∃t∈T.kids,SubT u t:=fun u hu=>by
   rcases hfu u (hfo4 u hu)with h1|h1
   ·simp at h1
   ·exact⟨h1.1,h1.2 hr.lr⟩
  have hfoS:∀m,∀p∈foO fo m,p∈objs T/\p.1≠T.id:=fun m p hp=>by
   cases hfo:fo with
   |none=>rw[hfo]at hp;cases hp
   |some u=>
    obtain⟨s1,t',ht',s2⟩:=hfu2 u hfo
    rw[hfo]at hp
    simp only[foO]at hp
    split at hp
    ·cases hp
    ·exact⟨Qa1 s1 p hp,fun e=>subT_id ht' s2 hnT (e▸List.mem_map_of_mem hp)⟩
  obtain⟨m0,hm0⟩:∃m0,m0=hcT (hNo fo:Nat) (erFt (.mk k2 0 0 (some (k2+1,1)) [Ft])):=⟨_,rfl⟩
  have hm1:m0<=1:=by
   rw[hm0,hfo1]
   simp only[erFt,erFts,hcT,hFe]
   exact hr.rc
  have hob:obFt (.mk k2 0 0 (some (k2+1,1)) [Ft])=(k2,nFt 0 0 (some (k2+1,1)) (kFt [Ft]))::(k2+1,.cells (vec 1 (kFt [Ft]) 1))::obFt Ft:=by simp[obFt,koFt,obFts]
  have hF2:∀j∈keys (obFt Ft),j < k2:=hlt2 hFo
  have hOF3:Owns o3 (obFt Ft):=hFo.frame fun j hj=>q4 j (hF2 j hj)
  have hOu:Owns o3 (foO fo m0):=fun p hp=>hext3 p.1 p.2 (hOT p (hfoS m0 p hp).1)
  have huk:∀j∈keys (foO fo m0),j < k:=fun j hj=>by
   obtain⟨p,hp,rfl⟩:=List.mem_map.1 hj
   exact Q1y hk' (hOT p (hfoS m0 p hp).1)
  have hkk2:k+2 < k2:=Q1y hk2' hfw
  have hdis:∀j∈keys (obFt Ft),j∉keys (foO fo m0)/\j≠k+2:=fun j hj=>by
   have h1:=hFnew j hj
   refine⟨fun hjf=>?_,fun e=>by rw[e,hR.f]at h1;cases h1⟩
   obtain⟨p,hp,rfl⟩:=List.mem_map.1 hjf
   have h2:=hext p.1 p.2 (hOT p (hfoS m0 p hp).1)
   rw[h1]at h2;cases h2
  have hun:(keys (foO fo m0)).Nodup:=by
   cases hfo:fo with
   |none=>simp[foO,keys]
   |some u=>
    simp only[foO]
    split
    ·simp[keys]
    ·exact Q8k (hfu2 u hfo).1 hnT
  have hkeys:keys (obFt (.mk k2 0 0 (some (k2+1,1)) [Ft])++foO fo m0)=k2::(k2+1)::(keys (obFt Ft)++keys (foO fo m0)):=by rw[hob];simp[keys]
  have hnd:(keys (obFt (.mk k2 0 0 (some (k2+1,1)) [Ft])++foO fo m0)).Nodup:=by
   rw[hkeys]
   refine List.nodup_cons.2 ⟨fun h=>?_,List.nodup_cons.2 ⟨fun h=>?_,List.nodup_append.2 ⟨hFn,hun,fun a ha b hb e=>(hdis a ha).1 (e▸hb)⟩⟩⟩
   ·simp only[List.mem_cons,List.mem_append]at h
    rcases h with h|h|h
    ·omega
    ·have:=hF2 _ h;omega
    ·have:=huk _ h;omega
   ·simp only[List.mem_append]at h
    rcases h with h|h
    ·have:=hF2 _ h;omega
    ·have:=huk _ h;omega
  have hown:Owns o3 (obFt (.mk k2 0 0 (some (k2+1,1)) [Ft])++foO fo m0):=by
   rw[hob]
   refine Owns.app.2 ⟨fun p hp=>?_,hOu⟩
   simp only[List.mem_cons]at hp
   rcases hp with rfl|rfl|hp
   ·exact q0
   ·exact q1
   ·exact hOF3 p hp
  have hkf:k+2∉keys (obFt (.mk k2 0 0 (some (k2+1,1)) [Ft])++foO fo m0):=fun h=>by
   rw[hkeys]at h
   simp only[List.mem_cons,List.mem_append]at h
   rcases h with h|h|h|h
   ·omega
   ·omega
   ·exact (hdis _ h).2 rfl
   ·have:=huk _ h;omega
  have hcf:=Qhg hΓc fo (.mk k2 0 0 (some (k2+1,1)) [Ft]) ⟨fun h=>(by cases h),fun a c h=>(by cases h;simp),by simp,hFok,trivial⟩ ⟨fun _=>Int.le_refl _,by rw[hFe];exact hr.rp,trivial⟩ (by rw[←hm0];exact hm1) o3 (k+2) q5 (by rw[←hm0];exact hown) (by rw[←hm0];exact hnd) (by rw[←hm0];exact hkf) (by rw[q4 _ hkk2,hfw,hfo2])
  rw[hfo1]at hcf
  show AOps _ _ _ _ _ ⟨6,[],ouAdd o2 k2 [nFt 0 0 (some (k2+1,1)) (kFt [Ft]),.cells (vec 1 (kFt [Ft]) 1)]⟩
  rw[←ho3]
  refine AOps.call1 hΓc rfl rfl rfl rfl rfl rfl rfl (by simp[FV.ids,idsF,AC.ids,isO]) q5 hcf fun r o4 hq4 hids4 ho4=>?_
  obtain⟨rfl,N,hN1,hN2,hNp,hN3⟩:=hq4
  rw[←hm0]at hN3
  obtain⟨i,on,nn,nbn,bn,ksn,an⟩:=N
  have hN1:i=k2:=hN1
  subst hN1
  simp only[erT,erFt,erFts,fillK,Q5f,Tr.mk.injEq]at hN2
  obtain⟨_,_,_,hks,_⟩:=hN2
  match ksn,hks with
  |[],hks=>simp[erTs]at hks
  |_::_::_,hks=>simp[erTs]at hks
  |[N0],hks=>
  have he0:erT N0=fillF (hNo fo:Nat) (fdFo fo) (grow Rx):=by simpa[erTs,hFe]using hks
  have hNn:o4 i=some (.cells [int on,int nn,bC nbn bn,.sl 1 (kC [N0]),.sl 2 (an.map lAlt)]):=Q32 hN3.own
  have hmN0:∀p∈objs N0,p∈objs (.mk i on nn nbn bn [N0] an):=fun p hp=>by rw[Q2e];simp[objss,hp]
  repeat' first|refine zN ?_|((with_reducible refine oj ?_);first|refine zix ?_|refine zow rfl rfl hNn ?_)
  refine AFn.fin' rfl (WkF.ofEq rfl) (by simp[AC.ids]) ho4 ⟨ho4,fun h=>(by rw[hrep]at h;cases h),fun D hD=>⟨N0,rfl,?_,fun hp=>(hNp fun u hu=>Q8j (hfu2 u hu).1 hp).2.2.1,fun p hp=>hN3.own p (hmN0 p hp),Q4i (l:=[]) (r:=[]) hN3.nd,fun j hj=>?_,fun j o hj hjT=>?_⟩⟩
  ·rw[hrep]at hD
   cases hD
   rw[he0,hfo1,←hfo3,←hR.fd]
  ·obtain⟨p,hp,rfl⟩:=List.mem_map.1 hj
   have hnew:∀j,o3 j=none->ou j=none:=fun j h3=>by
    cases h:ou j with
    |none=>rfl
    |some o=>rw[hext3 j o h]at h3;cases h3
   rcases hN3.new p.1 (List.mem_map_of_mem (hmN0 p hp))with h1|h1
   ·rw[hkeys]at h1
    simp only[List.mem_cons,List.mem_append]at h1
    have hnone:∀j,o2 j=none->ou j=none:=fun j h3=>by
     cases h:ou j with
     |none=>rfl
     |some o=>rw[hext2 j o h]at h3;cases h3
    rcases h1 with h1|h1|h1|h1
    ·exact .inl (h1▸hnone _ (hk2' _ (Nat.le_refl _)))
    ·exact .inl (h1▸hnone _ (hk2' _ (Nat.le_succ _)))
    ·refine .inl ?_
     have h2:=hFnew _ h1
     cases h:ou p.1 with
     |none=>rfl
     |some o=>rw[hext _ o h]at h2;cases h2
    ·obtain⟨q,hq,e⟩:=List.mem_map.1 h1
     have h2:=hfoS m0 q hq
     exact .inr ⟨e▸List.mem_map_of_mem h2.1,e▸h2.2⟩
   ·exact .inl (hnew _ h1)
  ·show o4 j=some o
   have h3:=hext3 j o hj
   rw[hN3.old j (fun h=>?_) (by rw[h3];simp)]
   ·exact h3
   ·rw[hkeys]at h
    simp only[List.mem_cons,List.mem_append]at h
    have hjk2:j < i:=Q1y hk2' (hext2 j o hj)
    rcases h with h|h|h|h
    ·omega
    ·omega
    ·have h2:=hFnew _ h
     rw[hext j o hj]at h2;cases h2
    ·obtain⟨q,hq,e⟩:=List.mem_map.1 h
     have h2:=hfoS m0 q hq
     rcases hjT with h4|h4
     ·exact h4 (e▸List.mem_map_of_mem h2.1)
     ·exact h2.2 (by rw[e];exact h4)
end Go.Proofs.YthboaankaaeemaaDoor
namespace Go.CoreX
def alN (x:Alt):LAlt:=⟨x.tag,none,x.binds⟩
theorem er_alN(l:List Alt):(l.map alN).map LAlt.er=l:=by
 rw[List.map_map]
 exact List.map_id'' (fun x=>by cases x;rfl) l
end Go.CoreX
namespace Go.Proofs.YthboaankaaeemaaDoor
open Go Go.Abs Go.CoreX
variable {Γ:List (Nat×List AC)}
theorem aO_alN(a:List Alt):aO (a.map alN)=[]:=by
 unfold aO
 rw[List.flatMap_eq_nil_iff]
 intro x hx
 obtain⟨y,_,rfl⟩:=List.mem_map.1 hx
 rfl
theorem Qiz(a:List Alt):(a.map alN).map lAlt=a.map cAlt:=by
 rw[List.map_map]
 exact List.map_congr_left fun x _=>rfl
def GrowPQ (e:List Ex)(ou:Outer)(r:FV)(ou':Outer):Prop:=∃t:LTr,r=.one (.ptr (.o t.id) 0)/\erT t=grow e/\Q1i t/\Owns ou' (objs t)/\(keys (objs t)).Nodup/\(∀k∈keys (objs t),ou k=none)/\OuOk ou'/\∀j o,ou j=some o->ou' j=some o
set_option maxHeartbeats 1000000 in
theorem Qf6(hΓ:∀g cs,(g,cs)∈Γ->idsL isO cs)(e:List Ex)(he:okE e)(hin:Q0h e)(hT:IsTree e)(ou:Outer):AFn Tryd.prog Γ 35 [.one (.sl 5 (e.map cEx))] ou (GrowPQ e ou):=by
 have hel:=he.l
 refine AFn.walk 85 tabOk Tryd.func35 rfl (by kernel_rfl) rfl rfl fun hou=>?_
 refine zA ?_
 have hb:ti90.bytes * (e.map cEx).length<=281474976710656:=by simp;show 8 * _<=_;omega
 have hb2:(e.map cEx).length<=281474976710656:=by simp;omega
 refine zS (AStep.makeArr tabOk rfl rfl rfl rfl rfl rfl rfl rfl hb hb2) ?_
 refine zA ?_
 refine ACode.loopR hΓ (α:=Nat×List LTr×Outer) (fun c=>[(16,.one (int c.1)),(15,.one (int (e.map cEx).length)),(14,.one (.sl 5 (e.map cEx))),(3,.one (.arr (.l 0) 1 0 (e.map cEx).length (e.map cEx).length)),(0,.one (.sl 5 (e.map cEx)))])
  (fun c=>⟨1,[(0,.cells (Q1q c.2.1 (e.map cEx).length))],c.2.2⟩) (fun m c=>c.1<=e.length/\(LinkL (e.take c.1) c.2.1 plainB/\NewO ou c.2.2 (c.2.1.flatMap ownO))/\m=e.length - c.1) (a0:=(0,[],ou)) (ρ:=id) ⟨by omega,⟨LinkL.nil,.nil hou⟩,rfl⟩
  (LessR.of rfl zFS (by simp) (LoSub.cons rfl (by rw[AObj.ren_pure _ _ (by simp)];show AObj.cells (List.replicate _ _)=AObj.cells (Q1q [] _);rw[Qfd]) rfl (by simp) .nil) rfl rfl hou) fun m c hc=>?_
 obtain⟨j,lts,ov⟩:=c
 obtain⟨hjl,⟨hL,hN⟩,rfl⟩:=hc
 dsimp only at hjl hL hN
 have hov:=hN.ok
 refine zA ?_
 refine ACode.cond rfl (fun hb2=>?_) (fun hb2=>?_)
 ·have hlt:j < e.length:=by simpa using hb2
  obtain⟨x,hx⟩:=Q00 hlt
  have hxo:=he.x x (List.mem_of_getElem? hx)
  have hxk:=hxo.k
  have hxa:=hxo.a
  have hxin:=hin j x hx
  have hgl:lts.length=j:=by rw[hL.len];simp;omega
  refine zA ?_
  refine zS (zIA rfl rfl rfl (by omega) (Q05 hx)) ?_
  refine zA ?_
  have hcl:=Q2x (Γ:=Γ) x.binds hxo.b
  refine ACode.drawXH (va:=.one (.ptr (.l 2) 0)) (σ1:=(((St.mk 1 [(0,.cells (Q1q lts (e.map cEx).length))] ov).push (.cells (ti69.zero.map .lit))).set (.l 1) (.cells (cEx x))).push (.cells [int x.op,int x.n,.sl 1 (x.binds.map cI),.lit (.slice none 0 0),.lit (.slice none 0 0)]))
   tabOk 9 8 [(6,.one (.sl 1 (x.binds.map cI)))] follows (by kernel_rfl) rfl rfl rfl rfl rfl rfl rfl (HStep.auto tabOk rfl) ?_ ?_ ?_
  ·exact .call hΓ hcl hov (by simp) rfl rfl rfl rfl rfl rfl .nil
  ·exact .call hΓ hcl hov (by simp) rfl rfl rfl rfl rfl rfl .nil
  refine zA ?_
  refine ACode.grow 2 3 90 1 rfl rfl ?_
  refine ACode.loopR hΓ (α:=Nat) (fun i=>[(33,.one (int i)),(32,.one (int (x.kids.map cI).length)),(31,.one (.sl 1 (x.kids.map cI))),(6,.one (.ptr (.l 2) 0)),(5,.one (.ptr (.l 1) 0)),(4,.one (int j)),(16,.one (int j)),(15,.one (int (e.map cEx).length)),(14,.one (.sl 5 (e.map cEx))),(3,.one (.arr (.l 0) 1 0 (e.map cEx).length (e.map cEx).length)),(0,.one (.sl 5 (e.map cEx)))])
   (fun i=>⟨4,[(3,.tok 90 1 i),(2,.cells [int x.op,int x.n,.sl 1 (x.binds.map cI),.gs 1 (kC (kidsL lts (x.kids.take i))) (.l 3),.lit (.slice none 0 0)]),(1,.cells (cEx x)),(0,.cells (Q1q lts (e.map cEx).length))],ov⟩)
   (fun m i=>i<=x.kids.length/\m=x.kids.length - i) (a0:=0) (ρ:=id) ⟨by omega,rfl⟩ (LessR.of rfl zFS (by simp) ?_ rfl rfl hov) fun m i hi=>?_
  ·repeat' first|exact LoSub.nil|refine zlc ?_|refine zld ?_ ?_|rfl
   all_goals (simp[AObj.ren,renL,AC.ren,kidsL];exact⟨rfl,rfl⟩)
  obtain⟨hil,rfl⟩:=hi
  refine zA ?_
  refine ACode.cond rfl (fun hb3=>?_) (fun hb3=>?_)
  ·have hlt2:i < x.kids.length:=by simpa using hb3
   obtain⟨k,hk⟩:=Q00 hlt2
   have hkb:=hxin k (List.mem_of_getElem? hk)
   obtain⟨k',rfl⟩:∃k':Nat,k=k':=⟨k.toNat,by omega⟩
   obtain⟨tk,htk⟩:=Q00 (l:=lts) (i:=k') (by omega)
   have htd:lts.getD (k':Int).toNat default=tk:=by rw[Int.toNat_natCast,List.getD_eq_getElem?_getD,htk];rfl
   have hks:=Qfj (ts:=lts) hk
   rw[htd]at hks
   have hkl:(kC (kidsL lts (x.kids.take i))).length=i:=by simp[kC,kidsL];omega
   refine zA ?_
   refine zS (zIA rfl rfl rfl (by omega) (Q05 hk)) ?_
   refine zA ?_
   refine ACode.drawXH (va:=.one (.gs 1 (kC (kidsL lts (x.kids.take i))++[[AC.ptr (.o tk.id) 0]]) (.l 4))) (σ1:=((St.mk 4 [(3,.tok 90 1 i),(2,.cells [int x.op,int x.n,.sl 1 (x.binds.map cI),.gs 1 (kC (kidsL lts (x.kids.take i))) (.l 3),.lit (.slice none 0 0)]),(1,.cells (cEx x)),(0,.cells (Q1q lts (e.map cEx).length))] ov).set (.l 3) .dead).push (.tok 90 1 (kC (kidsL lts (x.kids.take i))++[[AC.ptr (.o tk.id) 0]]).length))
    tabOk 11 10 [(7,.one (.ptr (.l 0) k')),(8,.one (.ptr (.o tk.id) 0))] follows (by kernel_rfl) rfl rfl rfl rfl rfl rfl rfl ?_ ?_ ?_ ?_
   ·refine HStep.plain rfl (AStep.append (s:=1) (es:=kC (kidsL lts (x.kids.take i))) (news:=[[AC.ptr (.o tk.id) 0]]) (ti:=ti99) (σ:=⟨4,[(3,.tok 90 1 i),(2,.cells [int x.op,int x.n,.sl 1 (x.binds.map cI),.gs 1 (kC (kidsL lts (x.kids.take i))) (.l 3),.lit (.slice none 0 0)]),(1,.cells (cEx x)),(0,.cells (Q1q lts (e.map cEx).length))],ov⟩) tabOk rfl rfl rfl rfl rfl rfl (Base.gs' _ 90 1 (kC (kidsL lts (x.kids.take i))) (.l 3) rfl hkl.symm) (.sl _ _) rfl ?_ ?_)
    ·rw[hkl];show (i+1) * 8<=_;omega
    ·rw[hkl];show i+1<=_;omega
   ·refine .step rfl (zHP (idxI tabOk rfl rfl rfl rfl rfl rfl rfl (by simp;omega))) ?_
    exact .step rfl (zHP (zLD rfl rfl rfl (Q5p htk))) .nil
   ·refine .step rfl (zHP (idxI tabOk rfl rfl rfl rfl rfl rfl rfl (by simp;omega))) ?_
    exact .step rfl (zHP (zLD rfl rfl rfl (Q5p htk))) .nil
   refine zM ?_
   refine cInv ⟨x.kids.length - (i+1),i+1,fun k=>if k=3 then 4 else k,by omega,⟨by omega,rfl⟩,LessR.of rfl zFS (by simp) ?_ rfl rfl hov⟩
   repeat' first|exact LoSub.nil|refine zlc ?_|refine zld ?_ ?_|rfl
   ·simp only[AObj.ren,List.length_append,hkl];rfl
   ·rw[hks,Qgu];simp only[AObj.ren,renL,AC.ren,Q3i];rw[←Qgu,ren_kC];rfl
  have hlt2:i=x.kids.length:=by simp at hb3;omega
  subst hlt2
  rw[List.take_length]
  refine zA ?_
  refine ACode.grow 2 4 135 2 rfl rfl ?_
  refine ACode.loopR hΓ (α:=Nat) (fun i=>[(54,.one (int i)),(53,.one (int (x.alts.map cAlt).length)),(52,.one (.sl 2 (x.alts.map cAlt))),(6,.one (.ptr (.l 2) 0)),(4,.one (int j)),(16,.one (int j)),(15,.one (int (e.map cEx).length)),(14,.one (.sl 5 (e.map cEx))),(3,.one (.arr (.l 0) 1 0 (e.map cEx).length (e.map cEx).length)),(0,.one (.sl 5 (e.map cEx)))])
   (fun i=>⟨5,[(4,.tok 135 2 i),(2,.cells [int x.op,int x.n,.sl 1 (x.binds.map cI),.gs 1 (kC (kidsL lts x.kids)) (.l 3),.gs 2 ((x.alts.take i).map cAlt) (.l 4)]),(0,.cells (Q1q lts (e.map cEx).length))],ov⟩)
   (fun m i=>i<=x.alts.length/\m=x.alts.length - i) (a0:=0) (ρ:=id) ⟨by omega,rfl⟩ (LessR.of rfl zFS (by simp) ?_ rfl rfl hov) fun m i hi=>?_
  ·repeat' first|exact LoSub.nil|refine zlc ?_|refine zld ?_ ?_|rfl
   all_goals (simp[AObj.ren,renL,AC.ren];exact⟨rfl,rfl⟩)
  obtain⟨hil,rfl⟩:=hi
  refine zA ?_
  refine ACode.cond rfl (fun hb3=>?_) (fun hb3=>?_)
  ·have hlt2:i < x.alts.length:=by simpa using hb3
   obtain⟨a,ha⟩:=Q00 hlt2
   have hal:((x.alts.take i).map cAlt).length=i:=by simp;omega
   have hca:=Q2x (Γ:=Γ) a.binds (hxo.ab a (List.mem_of_getElem? ha))
   refine zA ?_
   refine zS (zIA rfl rfl rfl (by omega) (Q05 ha)) ?_
   refine zA ?_
   refine ACode.drawXH (va:=.one (.gs 2 ((x.alts.take i).map cAlt++[cAlt a]) (.l 6))) (σ1:=((((St.mk 5 [(4,.tok 135 2 i),(2,.cells [int x.op,int x.n,.sl 1 (x.binds.map cI),.gs 1 (kC (kidsL lts x.kids)) (.l 3),.gs 2 ((x.alts.take i).map cAlt) (.l 4)]),(0,.cells (Q1q lts (e.map cEx).length))] ov).push (.cells (ti135.zero.map .lit))).set (.l 5) (.cells (cAlt a))).set (.l 4) .dead).push (.tok 135 2 ((x.alts.take i).map cAlt++[cAlt a]).length))
    tabOk 13 12 [(9,.one (.sl 1 (a.binds.map cI)))] follows (by kernel_rfl) rfl rfl rfl rfl rfl rfl rfl ?_ ?_ ?_ ?_
   ·refine HStep.plain rfl (AStep.append (s:=2) (es:=(x.alts.take i).map cAlt) (news:=[cAlt a]) (ti:=ti67) (σ:=(((St.mk 5 [(4,.tok 135 2 i),(2,.cells [int x.op,int x.n,.sl 1 (x.binds.map cI),.gs 1 (kC (kidsL lts x.kids)) (.l 3),.gs 2 ((x.alts.take i).map cAlt) (.l 4)]),(0,.cells (Q1q lts (e.map cEx).length))] ov).push (.cells (ti135.zero.map .lit))).set (.l 5) (.cells (cAlt a)))) tabOk rfl rfl rfl rfl rfl rfl (Base.gs' _ 135 2 ((x.alts.take i).map cAlt) (.l 4) rfl hal.symm) (.sl _ _) rfl ?_ ?_)
    ·rw[hal];show (i+1) * 32<=_;omega
    ·rw[hal];show i+1<=_;omega
   ·exact .call hΓ hca hov (by simp) rfl rfl rfl rfl rfl rfl .nil
   ·exact .call hΓ hca hov (by simp) rfl rfl rfl rfl rfl rfl .nil
   refine zM ?_
   refine cInv ⟨x.alts.length - (i+1),i+1,fun k=>if k=4 then 6 else k,by omega,⟨by omega,rfl⟩,LessR.of rfl zFS (by simp) ?_ rfl rfl hov⟩
   repeat' first|exact LoSub.nil|refine zlc ?_|refine zld ?_ ?_|rfl
   ·simp only[AObj.ren,List.length_append,hal];rfl
   ·rw[Q0j ha];simp only[AObj.ren,renL,AC.ren,Q3i,ren_kC,Q3n];rw[List.map_append];rfl
  have hlt2:i=x.alts.length:=by simp at hb3;omega
  subst hlt2
  rw[List.take_length]
  refine zA ?_
  refine zS (idxI tabOk rfl rfl rfl rfl rfl rfl rfl (by simp;omega)) ?_
  refine AOps.wkObj (.l 2) rfl (cs':=[int x.op,int x.n,.sl 1 (x.binds.map cI),.sl 1 (kC (kidsL lts x.kids)),.sl 2 (x.alts.map cAlt)]) (fun w C xs h=>(show WkL _ _ from .cons (.refl _) (.cons (.refl _) (.cons (.refl _) (.cons (.gsE rfl) (.cons (.gsE rfl) .nil))))) w C xs h) ?_
  have hθ:∀(k:Nat) (i:Abs.Id),isO i->toOs [2] k i=i:=fun k i hi=>by cases i with|l q=>exact hi.elim|o q=>rfl
  refine AOps.cedes [2] rfl (by decide) hov fun k hk=>⟨[(77,.one (.ptr (.l 0) j)),(76,.one (.ptr (.o k) 0)),(16,.one (int j)),(15,.one (int (e.map cEx).length)),(14,.one (.sl 5 (e.map cEx))),(3,.one (.arr (.l 0) 1 0 (e.map cEx).length (e.map cEx).length)),(0,.one (.sl 5 (e.map cEx)))],
   [(0,.cells (Q1q lts (e.map cEx).length))],[.cells [int x.op,int x.n,.sl 1 (x.binds.map cI),.sl 1 (kC (kidsL lts x.kids)),.sl 2 (x.alts.map cAlt)]],?_,?_,?_,?_⟩
  ·exact .cons rfl rfl (.cons rfl rfl (.cons rfl rfl (.cons rfl rfl (.cons rfl (FV.sub_f (hθ k) _ (by simp)) (.cons rfl rfl (.cons rfl (FV.sub_f (hθ k) _ (by simp)) .nil))))))
  ·exact .cons rfl rfl (AObj.sub_f (hθ k) _ (Qby _ _)) .nil
  ·exact .cons rfl (AObj.sub_f (hθ k) (.cells _) (by simp)) .nil
  have hN1:=NewO.add hk hov (o:=.cells [int x.op,int x.n,.sl 1 (x.binds.map cI),.sl 1 (kC (kidsL lts x.kids)),.sl 2 (x.alts.map cAlt)]) (by simp)
  have hN2:=hN.trans hN1
  obtain⟨t,ht⟩:∃t:LTr,t=.mk k x.op x.n none x.binds (kidsL lts x.kids) (x.alts.map alN):=⟨_,rfl⟩
  have hto:lts.flatMap ownO++[(k,.cells [int x.op,int x.n,.sl 1 (x.binds.map cI),.sl 1 (kC (kidsL lts x.kids)),.sl 2 (x.alts.map cAlt)])]=(lts++[t]).flatMap ownO:=by
   rw[List.flatMap_append,ht]
   simp only[List.flatMap_cons,List.flatMap_nil,ownO,bO,bC,aO_alN,Qiz,List.nil_append,List.append_nil]
  rw[hto]at hN2
  have hL2:=hL.snoc (Q4k (by rw[List.take_append_drop];exact hin)) (x:=x) (fun q hq=>by have:=hxin q hq;simp;omega) (id:=k) (nb:=none) (a:=x.alts.map alN) (er_alN _) rfl (fun y hy=>by obtain⟨z,_,rfl⟩:=List.mem_map.1 hy;rfl)
  rw[←Q0j hx,show LTr.mk k x.op x.n none x.binds (x.kids.map fun q=>lts.getD q.toNat default) (x.alts.map alN)=t by rw[ht];rfl]at hL2
  refine AOps.storeOwn tabOk rfl rfl rfl rfl rfl rfl rfl rfl (by rw[Qfe (by simp[hgl];omega)];simp;omega) ?_
  have hst:=Qfc (ts:=lts) (n:=(e.map cEx).length) (by simp[hgl];omega) t
  rw[hgl,show t.id=k by rw[ht];rfl]at hst
  rw[hst]
  refine zM ?_
  exact cInv ⟨e.length - (j+1),(j+1,lts++[t],_),id,by omega,⟨by omega,⟨hL2,hN2⟩,rfl⟩,LessR.of rfl zFS (by simp) zLO rfl rfl hN2.ok⟩
 ·have hlt:j=e.length:=by simp at hb2;omega
  subst hlt
  rw[List.take_length]at hL
  obtain⟨N,hNe⟩:∃N,e.length=N+1:=⟨e.length - 1,by have:=List.length_pos_iff.2 hT.ne;omega⟩
  obtain⟨t,ht⟩:=Q00 (l:=lts) (i:=N) (by rw[hL.len];omega)
  have hnt:e.length - 1=N:=by omega
  refine zM ?_
  refine AOps.wk 82 rfl (y:=.one (int (N:Nat))) (.ofEq (by congr 3;simp;omega)) ?_
  refine zS (idxI tabOk rfl rfl rfl rfl rfl rfl rfl (by simp;omega)) ?_
  refine zS (zLD rfl rfl rfl (Q5p ht)) ?_
  refine zA ?_
  have hown:=hL.own hin _ N t (Nat.lt_succ_self _) ht
  refine AFn.fin' rfl (WkF.ofEq rfl) (by simp[AC.ids]) hov ⟨t,rfl,?_,hL.plain hin _ N t (Nat.lt_succ_self _) ht,?_,?_,?_,hov,?_⟩
  ·rw[hL.er hin _ N t (Nat.lt_succ_self _) ht]
   unfold grow Q0t;rw[hnt]
  ·exact fun p hp=>hN.own p (hown p hp)
  ·exact hL.nodup hT hN.nd (by rw[hnt];exact ht)
  ·intro k hk
   obtain⟨p,hp,rfl⟩:=List.mem_map.1 hk
   exact hN.new p.1 (List.mem_map_of_mem (hown p hp))
  ·intro m o hm
   show ov m=some o
   rw[hN.old m fun hmk=>by have:=hN.new m hmk;rw[hm]at this;cases this]
   exact hm
end Go.Proofs.YthboaankaaeemaaDoor
namespace Go.CoreX
mutual
theorem Qd1:∀t:Tr,okT t->allT pOk t
 |.mk o n b k a,h=>⟨⟨h.1,by simpa using h.2.1,h.2.2.1,h.2.2.2.1.1,h.2.2.2.1.2⟩,Qe3 k h.2.2.2.2⟩
theorem Qe3:∀l:List Tr,okTs l->allTs pOk l
 |[],_=>trivial
 |t::l,h=>⟨Qd1 t h.1,Qe3 l h.2⟩
end
end Go.CoreX
namespace Go.Proofs.YthboaankaaeemaaDoor
open Go Go.Abs Go.CoreX
theorem Qe6{T:Tr}(h:allT pOk T)(hl:cntN T<=1048576):okB (listT [] T):=Qfa (by have:=Q2a T [];simp at this;omega) (Qcm (Q16 _) (by rw[Q0c];exact h))
end Go.Proofs.YthboaankaaeemaaDoor
