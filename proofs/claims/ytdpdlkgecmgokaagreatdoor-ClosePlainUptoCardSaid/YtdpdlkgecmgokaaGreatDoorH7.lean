/- nodeError, walked. -/
import Derived.Test.YtdpdlkgecmgokaaGreatDoorH6
set_option maxRecDepth 10000
set_option linter.unusedVariables false
set_option linter.unusedSimpArgs false
namespace Go.Proofs.YtdpdlkgecmgokaaGreatDoor
open Go Go.Abs Go.CoreX
theorem Qfe{x:Ex}(h:CoreX.shape x=true)(h5:x.op=5):x.kids.length=x.binds.length+1:=by
 unfold CoreX.shape wants at h
 simp[h5]at h
 omega
set_option maxHeartbeats 1000000 in
theorem Qaj(e:List Ex)(x:Ex)(hx:okX x)(hk:∀k∈x.kids,0<=k/\k.toNat < e.length):
  APure Tryz.prog Γc 46 [.agg (cEx x),.one (.fn (.func 47) [] [.box [.sl 5 (e.map cEx)]])] (.one (int (Q0y e x))):=by
 have hxb:=hx.b
 intro ou
 refine AFn.walk 59 tabOk Tryz.func46 rfl (by kernel_rfl) rfl rfl fun hou=>?_
 refine zA ?_
 refine zca hΓc (Qhq x hx) hou ?_
 refine zA ?_
 refine ACode.cond rfl (fun hb=>?_) (fun hb=>?_)
 ·refine zA ?_
  refine APure.fin rfl (WkF.ofEq ?_) (by simp) hou rfl
  simp_all[Q0y]
 have hs:CoreX.shape x=true:=by simpa using hb
 clear hb
 refine zA ?_
 refine zca hΓc (Qfn hΓc x hx) hou ?_
 refine zA ?_
 refine ACode.cond rfl (fun hb=>?_) (fun hb=>?_)
 ·refine zA ?_
  refine APure.fin rfl (WkF.ofEq ?_) (by simp) hou rfl
  have:ranges x≠0:=by simpa using hb
  simp[Q0y,hs,this]
 have hr:ranges x=0:=by simpa using hb
 clear hb
 have hn:Q0y e x=if (List.range x.binds.length).any (Q11 e x)=true then 3 else 0:=by simp[Q0y,hs,hr]
 refine zA ?_
 refine ACode.loopR hΓc (α:=Nat) (fun j=>[(18,.one (int j)),(17,.one (int (x.binds.map cI).length)),(2,.one (.ptr (.l 0) 0)),(1,.one (.fn (.func 47) [] [.box [.sl 5 (e.map cEx)]]))])
  (fun j => ⟨1, [(0, .cells (cEx x))], ou⟩) (fun m j => j <= x.binds.length /\ (∀ i ∈ (List.range x.binds.length).take j, Q11 e x i = false) /\ m = x.binds.length - j) (a0 := 0) (ρ := id) ⟨by omega, by simp, rfl⟩ (LessR.of rfl zFS (by simp) zLO rfl rfl hou) fun m j hj => ?_
 obtain⟨hjl,hno,rfl⟩:=hj
 refine zA ?_
 refine ACode.cond rfl (fun hb2=>?_) (fun hb2=>?_)
 ·have hlt:j < x.binds.length:=by simpa using hb2
  have hrj:(List.range x.binds.length)[j]?=some j:=by simp[hlt]
  obtain⟨b,hbj⟩:=Q01 hlt
  refine zA ?_
  have bad:Q11 e x j=true->Q0y e x=3:=fun h=>by
   rw[hn,if_pos (List.any_eq_true.2 ⟨j,by simp[hlt],h⟩)]
  by_cases h5:x.op=5
  ·have hkl:j < x.kids.length:=by have:=Qfe hs h5;omega
   obtain⟨k,hkj⟩:=Q01 hkl
   obtain⟨k0,k1⟩:=hk k (List.mem_of_getElem? hkj)
   obtain⟨y,hy⟩:=Q01 k1
   have hcall:=Qj0 (Γ:=Γc) e k y k0 hy
   have hbb:Q11 e x j=!(y.op==2):=by
    have e1:x.kids.getD j 0=k:=by simp[List.getD,hkj]
    have e2:e.getD k.toNat ⟨0,0,[],[],[]⟩=y:=by simp[List.getD,hy]
    unfold Q11
    rw[e1,e2];simp[h5]
   rw[hbb]at bad
   cases hy2:(y.op==2) with
   |false=>
    refine ACode.drawX tabOk 36 [(2,.one (.lit (.bool true))),(8,.one (.box (cI k))),(10,.agg (cEx y)),(12,.one (.lit (.bool true)))] follows (by kernel_rfl) rfl rfl rfl rfl ?_ ?_
    ·refine .step rfl (HStep.litB tabOk rfl (by simp[h5])) ?_
     refine .step rfl (HStep.guarded rfl rfl rfl (zIA rfl rfl rfl (by omega) (Q04 hkj))) ?_
     refine .step rfl (HStep.guarded rfl rfl rfl (AStep.callP hΓc rfl rfl rfl rfl (by simp) hou hcall)) ?_
     exact .step rfl (HStep.litB tabOk rfl (by simp_all)) .nil
    refine zM ?_
    refine APure.fin rfl (WkF.ofEq ?_) (by simp) hou rfl
    rw[bad (by simp[hy2])]
   |true=>
    refine ACode.drawX tabOk 36 [(2,.one (.lit (.bool true))),(8,.one (.box (cI k))),(10,.agg (cEx y)),(12,.one (.lit (.bool false))),(17,.one (.lit (.bool false)))] follows (by kernel_rfl) rfl rfl rfl rfl ?_ ?_
    ·refine .step rfl (HStep.litB tabOk rfl (by simp[h5])) ?_
     refine .step rfl (HStep.guarded rfl rfl rfl (zIA rfl rfl rfl (by omega) (Q04 hkj))) ?_
     refine .step rfl (HStep.guarded rfl rfl rfl (AStep.callP hΓc rfl rfl rfl rfl (by simp) hou hcall)) ?_
     refine .step rfl (HStep.litB tabOk rfl (by simp_all)) ?_
     exact .step rfl (HStep.litB tabOk rfl (by simp[h5])) .nil
    refine zM ?_
    exact cInv ⟨x.binds.length - (j+1),j+1,id,by omega,⟨by omega,Q0t hno hrj (by rw[hbb,hy2];rfl),rfl⟩,LessR.of rfl zFS (by simp) zLO rfl rfl hou⟩
  ·by_cases h9:x.op=9
   ·cases j with
    |zero=>
     have hbb:Q11 e x 0=false:=by simp[Q11,h5]
     refine ACode.drawX tabOk 36 [(2,.one (.lit (.bool false))),(17,.one (.lit (.bool true))),(20,.one (.lit (.bool false)))] follows (by kernel_rfl) rfl rfl rfl rfl ?_ ?_
     ·refine .step rfl (HStep.litB tabOk rfl (by simp[h5])) ?_
      refine .step rfl (HStep.litB tabOk rfl (by simp[h9])) ?_
      exact .step rfl (HStep.litB tabOk rfl (by decide)) .nil
     refine zM ?_
     exact cInv ⟨x.binds.length - 1,1,id,by omega,⟨by omega,Q0t hno hrj hbb,rfl⟩,LessR.of rfl zFS (by simp) zLO rfl rfl hou⟩
    |succ j=>
     obtain⟨a,haj⟩:=Q01 (l:=x.binds) (i:=j) (by omega)
     have hbb:Q11 e x (j+1)=decide (a ≥ b):=by
      have e1:x.binds.getD j 0=a:=by simp[List.getD,haj]
      have e2:x.binds.getD (j+1) 0=b:=by simp[List.getD,hbj]
      unfold Q11
      rw[show j+1 - 1=j from rfl,e1,e2];simp[h5,h9]
     refine ACode.drawX tabOk 36 [(2,.one (.lit (.bool false))),(17,.one (.lit (.bool true))),(20,.one (.lit (.bool true))),(26,.one (int j)),(27,.one (.box (cI a))),(32,.one (.box (cI b)))] follows (by kernel_rfl) rfl rfl rfl rfl ?_ ?_
     ·refine .step rfl (HStep.litB tabOk rfl (by simp[h5])) ?_
      refine .step rfl (HStep.litB tabOk rfl (by simp[h9])) ?_
      refine .step rfl (HStep.litB tabOk rfl (by exact decide_eq_true (by omega))) ?_
      refine .step rfl (HStep.guarded rfl rfl rfl (AStep.arith rfl rfl rfl (.inr (.inl ⟨rfl,by omega⟩)) zI)) ?_
      refine .step rfl (HStep.guarded rfl rfl rfl (zIA rfl rfl rfl (by omega) (Q04 haj))) ?_
      exact .step rfl (HStep.guarded rfl rfl rfl (zIA rfl rfl rfl (by omega) (Q04 hbj))) .nil
     refine zA ?_
     refine ACode.cond rfl (fun hb=>?_) (fun hb=>?_)
     ·refine zA ?_
      refine APure.fin rfl (WkF.ofEq ?_) (by simp) hou rfl
      rw[bad (by rw[hbb];exact hb)]
     ·refine zM ?_
      exact cInv ⟨x.binds.length - (j+1+1),j+1+1,id,by omega,⟨by omega,Q0t hno hrj (by rw[hbb];exact hb),rfl⟩,LessR.of rfl zFS (by simp) zLO rfl rfl hou⟩
   ·have hbb:Q11 e x j=false:=by simp[Q11,h5,h9]
    refine ACode.drawX tabOk 36 [(2,.one (.lit (.bool false))),(17,.one (.lit (.bool false)))] follows (by kernel_rfl) rfl rfl rfl rfl ?_ ?_
    ·refine .step rfl (HStep.litB tabOk rfl (by simp[h5])) ?_
     exact .step rfl (HStep.litB tabOk rfl (by simp[h9])) .nil
    refine zM ?_
    exact cInv ⟨x.binds.length - (j+1),j+1,id,by omega,⟨by omega,Q0t hno hrj hbb,rfl⟩,LessR.of rfl zFS (by simp) zLO rfl rfl hou⟩
 ·have hlt:j=x.binds.length:=by simp at hb2;omega
  subst hlt
  have:(List.range x.binds.length).any (Q11 e x)=false:=by
   rw[List.any_eq_false]
   intro i hi
   simp[hno i (by rw[List.take_of_length_le (by simp)];exact hi)]
  refine zA ?_
  refine APure.fin rfl (WkF.ofEq ?_) (by simp) hou rfl
  rw[hn,this];rfl
variable {Γ:List (Nat×List AC)}
theorem Qjc(hΓ:∀g cs,(g,cs)∈Γ->idsL isO cs)(t:Tr)(k:Int)(hk:-1048576<=k/\k<=1048576)(ha:t.alts.length<=1048576):
  APure Tryz.prog Γ 77 [.one (.box (cTr t)),.one (int k)] (.one (.sl 1 ((Q2c t.op t.binds t.alts k).map cI))):=by
 intro ou
 refine AFn.walk 58 tabOk Tryz.func77 rfl (by kernel_rfl) rfl rfl fun hou=>?_
 repeat' first|refine zN ?_|(with_reducible refine oj ?_;refine AOps.splitS rfl rfl rfl rfl (fun hb=>?_) (fun hb=>?_))|(with_reducible refine ok ?_;first|refine ACode.condS rfl (fun hb=>?_) (fun hb=>?_)|refine ACode.cond rfl (fun hb=>?_) (fun hb=>?_))
 all_goals try
  (
  have h1:0 < k:=by simp_all
  have h2:k<=t.alts.length:=by simp_all
  obtain⟨a,ha2⟩:=Q01 (l:=t.alts) (i:=(k - 1).toNat) (by omega)
  refine zS (zIA rfl rfl rfl (by omega) (Q04 ha2)) ?_
  have hb2:Q2c t.op t.binds t.alts k=a.binds:=by
   have e1:t.alts.getD (k - 1).toNat ⟨0,[]⟩=a:=by rw[List.getD_eq_getElem?_getD,ha2];rfl
   unfold Q2c
   rw[if_neg (by simp_all),if_pos (by omega),e1]
  rw[hb2]
  repeat' first|refine zN ?_|(with_reducible refine oj ?_;refine AOps.splitS rfl rfl rfl rfl (fun hb=>?_) (fun hb=>?_))|(with_reducible refine ok ?_;first|refine ACode.condS rfl (fun hb=>?_) (fun hb=>?_)|refine ACode.cond rfl (fun hb=>?_) (fun hb=>?_))
  exact APure.fin rfl (WkF.ofEq rfl) (by simp) hou rfl)
 all_goals first
  |(
   refine APure.fin rfl (WkF.ofEq ?_) (by simp) hou rfl
   simp_all[Q2c]
   done)
  |(
   refine APure.fin rfl (.trans (.one (.nilS 1)) (.ofEq ?_)) (by simp) hou rfl
   simp_all[Q2c]
   done)
  |(
   refine APure.fin rfl (.trans (.one (.nilS 1)) (.ofEq ?_)) (by simp) hou rfl
   simp_all[Q2c]
   intros;omega)
def Q41 (pre:List Int)(al:List Alt)(j:Nat):List Int:=pre++(al.take j).flatMap (·.binds)
theorem Q4u{pre:List Int}{al:List Alt}{j:Nat}{a:Alt}(h:al[j]?=some a):Q41 pre al (j+1)=Q41 pre al j++a.binds:=by
 simp[Q41,List.take_add_one,h,List.flatMap_append]
def Q42 (t:Tr):Nat:=t.binds.length+(t.alts.flatMap (·.binds)).length
theorem Qex{pre:List Int}{al:List Alt}(j:Nat):(Q41 pre al j).length<=pre.length+(al.flatMap (·.binds)).length:=by
 simp only[Q41,List.length_append]
 have:((al.take j).flatMap (·.binds)).length<=(al.flatMap (·.binds)).length:=by
  conv=>rhs;rw[←List.take_append_drop j al,List.flatMap_append,List.length_append]
  omega
 omega
theorem Q4j(hΓ:∀g cs,(g,cs)∈Γ->idsL isO cs)(t:Tr)(hl:Q42 t<=4194304)(ha:t.alts.length<=1048576):
  APure Tryz.prog Γ 55 [.one (.box (cTr t))] (.one (.sl 1 ((Q06 t.op t.binds t.alts).map cI))):=by
 unfold Q42 at hl
 intro ou
 refine AFn.walk 46 tabOk Tryz.func55 rfl (by kernel_rfl) rfl rfl fun hou=>?_
 iterate 11 (first|((with_reducible refine oj ?_);refine zau ?_)|(with_reducible refine zst ?_)|((with_reducible refine Q0g ?_ ?_);rfl)|(with_reducible refine ok ?_;first|refine ACode.condT rfl ?_|refine ACode.condF rfl ?_))
 refine ACode.growS 3 3 1 rfl ?_
 have he0:Q06 t.op t.binds t.alts=Q41 (if t.op=2∨t.op=4∨t.op=5 then t.binds else []) t.alts t.alts.length:=by simp[Q06,Q41]
 obtain⟨pre,hpre⟩:∃pre,pre=(if t.op=2∨t.op=4∨t.op=5 then t.binds else []):=⟨_,rfl⟩
 rw[he0,←hpre]
 have hpl:pre.length<=t.binds.length:=by rw[hpre];split <;> simp
 refine ACode.cutR hΓ (α:=Unit) (fun _=>[(3,.one (.gs 1 (pre.map cI) (.l 0))),(0,.one (.box (cTr t)))])
  (fun _ => ⟨1, [(0, .tok 3 1 pre.length)], ou⟩) (fun _ => True) ?_ fun _ _ => ?_
 ·repeat' first|refine zN ?_|(with_reducible refine oj ?_;refine AOps.splitS rfl rfl rfl rfl (fun hb=>?_) (fun hb=>?_))|(with_reducible refine ok ?_;first|refine ACode.condS rfl (fun hb=>?_) (fun hb=>?_)|refine ACode.cond rfl (fun hb=>?_) (fun hb=>?_))
  all_goals first
   |(
    have:pre=t.binds:=by simp_all
    subst this
    refine AOps.app tabOk rfl rfl rfl rfl rfl rfl rfl rfl rfl (Base.gs' _ _ _ _ _ (by rfl) (by simp)) (.sl _ _) rfl (by simp;show _ * 8<=_;omega) (by simp;omega) ?_
    repeat' first|refine zN ?_|(with_reducible refine oj ?_;refine AOps.splitS rfl rfl rfl rfl (fun hb=>?_) (fun hb=>?_))|(with_reducible refine ok ?_;first|refine ACode.condS rfl (fun hb=>?_) (fun hb=>?_)|refine ACode.cond rfl (fun hb=>?_) (fun hb=>?_))
    exact cInv ⟨(),fun _=>1,trivial,LessR.of rfl (FrSub.consGs rfl rfl (by simp) (FrSub.consP rfl (.ofEq rfl) (by simp) .nil)) (by simp) (LoSub.cons rfl (by simp[AObj.ren];rfl) rfl (by simp) .nil) rfl rfl hou⟩)
   |(
    have:pre=[]:=by simp_all
    subst this
    exact cInv ⟨(),id,trivial,LessR.of rfl (FrSub.consGs rfl rfl (by simp) (FrSub.consP rfl (.ofEq rfl) (by simp) .nil)) (by simp) zLO rfl rfl hou⟩)
 clear hpre he0
 refine zA ?_
 refine ACode.loopR hΓ (α:=Nat) (fun j=>[(36,.one (int j)),(35,.one (int (t.alts.map cAlt).length)),(34,.one (.sl 2 (t.alts.map cAlt))),(3,.one (.gs 1 ((Q41 pre t.alts j).map cI) (.l 0))),(0,.one (.box (cTr t)))])
  (fun j=>⟨1,[(0,.tok 3 1 (Q41 pre t.alts j).length)],ou⟩) (fun m j=>j<=t.alts.length/\m=t.alts.length - j) (a0:=0) (ρ:=id) ⟨by omega,rfl⟩
  (LessR.of rfl (FrSub.cons rfl (.ofEq rfl) (FrSub.cons rfl (.ofEq rfl) (FrSub.consP rfl (.ofEq rfl) (by simp) (FrSub.consGs (by simp[Q41];rfl) rfl (by simp) (FrSub.consP rfl (.ofEq rfl) (by simp) .nil))))) (by simp) (LoSub.cons rfl (by simp[AObj.ren,Q41]) rfl (by simp) .nil) rfl rfl hou) fun m j hj=>?_
 obtain⟨hjl,rfl⟩:=hj
 refine zA ?_
 refine ACode.cond rfl (fun hb2=>?_) (fun hb2=>?_)
 ·have hlt:j < t.alts.length:=by simpa using hb2
  obtain⟨a,ha2⟩:=Q01 hlt
  have hbl:=Qex (pre:=pre) (al:=t.alts) (j+1)
  rw[Q4u ha2]at hbl
  simp only[List.length_append]at hbl
  refine zA ?_
  refine zS (zIA rfl rfl rfl (by omega) (Q04 ha2)) ?_
  refine zA ?_
  refine AOps.app tabOk rfl rfl rfl rfl rfl rfl rfl rfl rfl (Base.gs' _ _ _ _ _ (by rfl) (by simp)) (.sl _ _) rfl (by simp;show _ * 8<=_;omega) (by simp;omega) ?_
  refine zM ?_
  exact cInv ⟨t.alts.length - (j+1),j+1,fun _=>2,by omega,⟨by omega,rfl⟩,LessR.of rfl (FrSub.cons rfl (.ofEq rfl) (FrSub.cons rfl (.ofEq rfl) (FrSub.consP rfl (.ofEq rfl) (by simp) (FrSub.consGs (by rw[Q4u ha2,List.map_append];rfl) rfl (by simp) (FrSub.consP rfl (.ofEq rfl) (by simp) .nil))))) (by simp) (LoSub.cons rfl (by simp[AObj.ren,Q4u ha2];rfl) rfl (by simp) .nil) rfl rfl hou⟩
 ·have hlt:j=t.alts.length:=by simp at hb2;omega
  subst hlt
  refine zA ?_
  exact APure.fin rfl (.one (.gsE rfl)) (by simp) hou rfl
end Go.Proofs.YtdpdlkgecmgokaaGreatDoor
namespace Go.Abs
theorem AStep.buildSlice0{E:Env}{o:Oper}{fr:Fr}{σ:St}{t:TypeId}{ti tj:TI}{s:Nat}(hT:TabOk E.P E.T)(ho:o.op=.buildSlice t 0 #[])(ht:Tab.get t E.T=some ti)(hk:Nat.beq ti.kind 2=true)(hj:Tab.get ti.elem E.T=some tj)(hs:tj.size=s):
  AStep E o fr σ (.one (.gs s [] (.l σ.n))) (σ.push (.tok ti.elem s 0)):=by
 intro F w C tmps hi hf next Q hk2
 have hsl:=(hT t ti ht).slice (Nat.eq_of_beq_eq_true hk)
 have hsz:=(hT _ _ hj).run_sizeOf w
 have hrun:(execOp (Act.eval ⟨tmps,E.ds⟩) o).run E.P w=.ok (.value (.slice (some ⟨w.heap.size,0,none⟩) 0 0)) (w.alloc (.cells #[] ti.elem)):=by
  unfold execOp
  simp only[ho]
  simp[Instr.buildSlice,run_underlying hsl,hsz,Instr.fill,newRow,Array.range_zero']
 have hno:=Ctx.tokd_new C (some (w.heap.size,0)) (fun _=>False) hi.next
 have he:Ext w C (w.alloc (.cells #[] ti.elem)) (C.tokd (some (w.heap.size,0)) (fun _=>False)):=⟨fun a ha=>World.cell?_alloc_lt _ _ _ (hi.prot a ha),fun _ h=>.inl h,fun i _ ho=>Ctx.tokd_old C _ _ ho⟩
 have hadd:Inv E.Γ F (w.alloc (.cells #[] ti.elem)) (C.tokd (some (w.heap.size,0)) (fun _=>False)) (σ.push (.tok ti.elem s 0)):=by
  refine hi.addObj (o:=.tok ti.elem s 0) (d:=.l σ.n) (σ.get_push _) he ?_ ?_ ?_ ?_ ?_ hno.1 ?_ ?_
  ·simp[Ctx.tokd,Ctx.more,St.push,hi.next]
  ·intro k hk;have:=hi.base k hk;simp;omega
  ·intro a ha
   rcases ha with ha|ha
   ·have:=hi.prot a ha;simp;omega
   ·exact ha.elim
  ·intro i p hp g x hb hx;exact Q21 w _ hx
  ·intro i p hp a hb hlt ha;exact ha.resolve_right id
  ·simp only[ObjOk,hno.2]
   refine⟨#[],heap_alloc_new w _,fun hF=>by have:=hi.base _ hF;omega,by simp,Nat.le_refl _,by simp[maxLen],fun a ha hp=>?_⟩
   rcases hp with hp|hp
   ·have:=hi.prot a hp;omega
   ·exact hp.elim
  ·intro i p g hp hb hb2
   simp only[AObj.block,hno.2,Option.map_some,Option.some.injEq]at hb2
   have:=(AObj.block_lt (hi.obj i p hp).2 hb).2
   omega
 unfold Oper.wp
 rw[hrun,Oper.upon_value]
 refine hk2 _ _ _ ⟨Stp.alloc hi.base _ _,he,by simp[Ctx.tokd,Ctx.more],fun a ha=>ha.imp id (fun h=>h.elim)⟩ hadd ?_
 simp only[RF,R]
 exact⟨hno.1,.inr ⟨_,0,rfl,Nat.le_refl _,hno.2,by simp[RS]⟩⟩
theorem ACode.drawXH{E:Env}{id:Nat}{l hd tl:List Oper}{K:Cont}{fr frb fr':Fr}{σ σ1:St}{vs:List FV}{va:FV}{oal:Oper}(hT:TabOk E.P E.T)(n al:Nat)(cs:List (Nat×FV))(hm:E.P.follows .mixedOrders=true)(hB:drawB l n=true)(haln:Nat.ble (al+1) n=true)(hsp:Q28 n l=some (hd,tl))(hfb:Fr.woO (dsts hd) fr=some frb)
  (hoal:l[al]?=some oal) (hrun:Q0h E l.toArray l frb σ ((al,va)::cs) 0 hd []=some vs) (hrun1:Q0h E l.toArray l frb σ1 ((al,va)::cs) 0 hd []=some vs) (hfr:frOf hd vs frb=some fr') (hal:HStep E l.toArray oal (depFr l vs oal++frb) σ σ1 va) (hcs:Q09 E l frb σ vs cs) (hcs1:Q09 E l frb σ1 vs cs) (htail:AOps E l.toArray tl K fr' σ1):ACode E (.region id l.toArray true) K fr σ:=by
 obtain⟨h1,h2⟩:=Q27 hsp
 subst h1;subst h2
 have h3:=Fr.woO_eq hfb
 have h4:=Q60 hfr
 have hn:n < l.length:=by
  simp only[drawB,Bool.and_eq_true,decide_eq_true_eq]at hB
  exact hB.1.1.1.1.1
 have hlast:((l.take n).zipIdx.all fun x=>x.1.after.all fun e=>!Region.binds .any e||decide (e.on < x.2))=true:=by
  simp only[drawB,Bool.and_eq_true]at hB
  exact hB.2
 refine ACode.drawAF n al vs _ hm haln hB rfl frb h3 (Q3p (n:=n) (va:=va) hT (fun k o hk hkn=>?_) hoal hal hcs hcs1 _ 0 [] vs rfl (fun i o hi=>?_) hrun hrun1 rfl) (by rw[h4];exact htail)
 ·have:=List.all_eq_true.1 hlast (o,k) (by
   rw[List.mem_iff_getElem?]
   exact⟨k,by rw[List.getElem?_zipIdx,List.getElem?_take_of_lt hkn,hk];simp⟩)
  exact this
 ·have hi2:i < n:=by
   have:=(List.getElem?_eq_some_iff.1 hi).1
   simp at this;omega
  rw[List.getElem?_take_of_lt hi2]at hi
  exact⟨by simpa using hi,by omega⟩
end Go.Abs
namespace Go.Proofs.YtdpdlkgecmgokaaGreatDoor
open Go Go.Abs Go.CoreX
variable {Γ:List (Nat×List AC)}
theorem Q6u(l:List Int)(hl:l.length<=1048576):APure Tryz.prog Γ 54 [.one (.sl 1 (l.map cI))] (.one (.sl 1 (l.map cI))):=by
 intro ou
 refine AFn.walk 8 tabOk Tryz.func54 rfl (by kernel_rfl) rfl rfl fun hou=>?_
 refine zA ?_
 refine AOps.nilTest rfl rfl rfl rfl Tryz.underlying25 rfl rfl fun b hb=>?_
 cases b with
 |true=>
  have hz:l=[]:=by have:=hb rfl;simpa using this
  subst hz
  refine zA ?_
  exact APure.fin rfl (.one (.nilS 1)) (by simp) hou rfl
 |false=>
  refine zA ?_
  refine zS (AStep.buildSlice0 tabOk rfl rfl rfl rfl rfl) ?_
  refine zA ?_
  refine AOps.app tabOk rfl rfl rfl rfl rfl rfl rfl rfl rfl (Base.gs' _ _ _ _ _ (by rfl) (by simp)) (.sl _ _) rfl (by simp;show _ * 8<=_;omega) (by simp;omega) ?_
  refine zA ?_
  exact APure.fin rfl (.one (.gsE (by simp))) (by simp) hou rfl
section
variable {β:Type}
def encI (enc:β->FV)(l:List (Nat×Int×β)):List (Nat×Value×FV):=l.map fun x=>(x.1,.int .i64 x.2.1,enc x.2.2)
structure IMOk (f:Int->Option β)(ck:Nat)(l:List (Nat×Int×β)):Prop where
 born:∀x∈l,x.1 < ck
 nb:(l.map (·.1)).Nodup
 look:∀k,(l.find? (fun x=>x.2.1==k)).map (·.2.2)=f k
 nk:(l.map (·.2.1)).Nodup
def setF (f:Int->Option β)(k:Int)(v:β):Int->Option β:=fun j=>if k=j then some v else f j
theorem IMOk.nil:IMOk (fun _=>none:Int->Option β) 0 []:=⟨by simp,by simp,fun k=>rfl,by simp⟩
variable (enc:β->FV)
theorem keysI(l:List (Nat×Int×β)):Qe6 (.int .i64) (encI enc l):=by
 intro x hx
 simp only[encI,List.mem_map]at hx
 obtain⟨y,_,rfl⟩:=hx
 rfl
theorem Qcv(k:Int):Instr.sameNow (.int .i64) (.int .i64 k) (.int .i64 k)=some true:=by simp[Instr.sameNow]
theorem Qfh{k j:Int}(h:k≠j):Instr.sameNow (.int .i64) (.int .i64 k) (.int .i64 j)=some false:=by simp[Instr.sameNow,h]
theorem Qfx(k:Int):∀l:List (Nat×Int×β),mFind (.int .i64 k) (encI enc l)=((l.find? (fun x=>x.2.1==k)).map (·.2.2)).map enc
 |[]=>rfl
 |(b,j,t)::l=>by
  have ih:=Qfx k l
  simp only[encI,List.map_cons,mFind,Q5u,List.find?_cons]at ih ⊢
  by_cases e:j=k
  ·subst e
   simp[Qcv]
  ·rw[Qfh (Ne.symm e),beq_eq_false_iff_ne.2 e]
   exact ih
theorem Qd9{f:Int->Option β}{ck:Nat}{l:List (Nat×Int×β)}(h:IMOk f ck l)(k:Int):mFind (.int .i64 k) (encI enc l)=(f k).map enc:=by rw[Qfx,h.look]
def repl (k:Int)(v:β)(l:List (Nat×Int×β)):List (Nat×Int×β):=l.map fun x=>if x.2.1=k then (x.1,k,v)else x
theorem mPut_I(k:Int)(v:β)(ck:Nat):∀l:List (Nat×Int×β),(l.map (·.2.1)).Nodup->mPut (.int .i64 k) (enc v) ck (encI enc l)=if k∈l.map (·.2.1)then (encI enc (repl k v l),ck)else (encI enc (l++[(ck,k,v)]),ck+1)
 | [], _ => rfl
 | (b, j, t) :: l, hn => by
  simp only[List.map_cons,List.nodup_cons]at hn
  have ih:=mPut_I k v ck l hn.2
  simp only[encI,List.map_cons,mPut,Q5u,List.cons_append]at ih ⊢
  by_cases e:j=k
  ·subst e
   rw[Qcv,if_pos (by simp)]
   have:repl j v l=l:=by
    unfold repl
    rw[List.map_congr_left (g:=id),List.map_id]
    intro x hx
    rw[if_neg];rfl
    rintro e
    exact hn.1 (e▸List.mem_map_of_mem hx)
   have h2:repl j v ((b,j,t)::l)=(b,j,v)::l:=by
    have:repl j v ((b,j,t)::l)=(b,j,v)::repl j v l:=by simp[repl]
    rw[this];congr 1
   rw[h2];rfl
  ·rw[Qfh (Ne.symm e)]
   simp only[ih]
   by_cases hm:k∈l.map (·.2.1)
   ·rw[if_pos hm,if_pos (by simp[hm])]
    have h2:repl k v ((b,j,t)::l)=(b,j,t)::repl k v l:=by simp[repl,e]
    rw[h2];rfl
   ·rw[if_neg hm,if_neg (by simp only[List.mem_cons,not_or];exact⟨Ne.symm e,hm⟩)]
theorem IMOk.put{f:Int->Option β}{ck:Nat}{l:List (Nat×Int×β)}(h:IMOk f ck l)(k:Int)(v:β):∃ck' l',mPut (.int .i64 k) (enc v) ck (encI enc l)=(encI enc l',ck')/\IMOk (setF f k v) ck' l':=by
 rw[mPut_I enc k v ck l h.nk]
 by_cases hm:k∈l.map (·.2.1)
 ·rw[if_pos hm]
  refine⟨_,_,rfl,?_,?_,fun j=>?_,?_⟩
  ·intro x hx
   obtain⟨y,hy,rfl⟩:=List.mem_map.1 hx
   have:=h.born y hy
   split <;> exact this
  ·have:(repl k v l).map (·.1)=l.map (·.1):=by
    simp only[repl,List.map_map]
    refine List.map_congr_left fun x _=>?_
    simp only[Function.comp];split <;> rfl
   rw[this];exact h.nb
  ·have key:∀l:List (Nat×Int×β),k∈l.map (·.2.1)->((repl k v l).find? (fun x=>x.2.1==j)).map (·.2.2)=if k=j then some v else (l.find? (fun x=>x.2.1==j)).map (·.2.2):=by
    intro l
    induction l with
    |nil=>intro h;simp at h
    |cons y l ih=>
     intro hm
     obtain⟨b,i,t⟩:=y
     by_cases e:i=k
     ·subst e
      have h2:repl i v ((b,i,t)::l)=(b,i,v)::repl i v l:=by simp[repl]
      rw[h2,List.find?_cons,List.find?_cons]
      by_cases e2:i=j
      ·subst e2;simp
      ·simp only[beq_eq_false_iff_ne.2 e2,if_neg e2]
       by_cases hm2:i∈l.map (·.2.1)
       ·rw[ih hm2,if_neg e2]
       ·have:repl i v l=l:=by
         unfold repl
         rw[List.map_congr_left (g:=id),List.map_id]
         intro x hx
         rw[if_neg];rfl
         rintro e
         exact hm2 (e▸List.mem_map_of_mem hx)
        rw[this]
     ·have h2:repl k v ((b,i,t)::l)=(b,i,t)::repl k v l:=by simp[repl,e]
      have hm2:k∈l.map (·.2.1):=by
       rcases List.mem_cons.1 hm with h3|h3
       ·exact absurd h3.symm e
       ·exact h3
      rw[h2,List.find?_cons,List.find?_cons]
      by_cases e2:i=j
      ·subst e2;simp[Ne.symm e]
      ·simp only[beq_eq_false_iff_ne.2 e2]
       exact ih hm2
   rw[key l hm]
   unfold setF
   rw[h.look]
  ·have:(repl k v l).map (·.2.1)=l.map (·.2.1):=by
    simp only[repl,List.map_map]
    refine List.map_congr_left fun x _=>?_
    simp only[Function.comp]
    split
    ·rename_i e;exact e.symm
    ·rfl
   rw[this];exact h.nk
 ·rw[if_neg hm]
  refine⟨_,_,rfl,?_,?_,fun j=>?_,?_⟩
  ·intro x hx
   rcases List.mem_append.1 hx with hx|hx
   ·have:=h.born x hx;omega
   ·simp at hx;subst hx;exact Nat.lt_succ_self _
  ·rw[List.map_append,List.nodup_append]
   refine⟨h.nb,by simp,fun a ha b hb e=>?_⟩
   simp at hb
   obtain⟨x,hx,rfl⟩:=List.mem_map.1 ha
   have:=h.born x hx
   omega
  ·rw[List.find?_append]
   unfold setF
   by_cases e:k=j
   ·subst e
    rw[if_pos rfl,List.find?_eq_none.2 (fun x hx=>by simp;rintro e;exact hm (e▸List.mem_map_of_mem hx))]
    simp
   ·rw[if_neg e,←h.look j]
    have:((k:Int)==j)=false:=beq_eq_false_iff_ne.2 e
    cases hf:l.find? (fun x=>x.2.1==j) with
    |none=>simp[this]
    |some x=>simp
  ·rw[List.map_append,List.nodup_append]
   refine⟨h.nk,by simp,fun a ha b hb e=>?_⟩
   simp at hb
   subst hb
   exact hm (e▸ha)
theorem Q9j(henc:∀b p,(enc b).ids p)(p:Abs.Id->Prop)(ck:Nat)(l:List (Nat×Int×β)):AObj.ids p (.map ck (encI enc l)):=by
 intro x hx
 simp only[encI,List.mem_map]at hx
 obtain⟨y,_,rfl⟩:=hx
 exact henc _ _
theorem AOps.putI{E:Env}{ops:Array Oper}{rest:List Oper}{K:Cont}{o:Oper}{fr:Fr}{σ:St}{t kt et:TypeId}{x i y:Operand}{m:Abs.Id}{ck:Nat}{l:List (Nat×Int×β)}{f:Int->Option β}{k:Int}{v:β}(hgd:o.guard=none)(hd:o.dst=none)(ho:o.op=.mapUpdate t x i y)(hm:E.P.underlying t=some (.map kt et))(hk:E.P.underlying kt=some (.int .i64))
  (hx:aEval E.Γ fr x=some (.one (.mp m))) (hg:σ.get m=some (.map ck (encI enc l))) (hu:aEval E.Γ fr i=some (.one (int k))) (hy:aEval E.Γ fr y=some (enc v)) (hf:IMOk f ck l)
  (h:∀ck' l',IMOk (setF f k v) ck' l'->AOps E ops rest K fr (σ.set m (.map ck' (encI enc l')))):AOps E ops (o::rest) K fr σ:=by
 obtain⟨ck',l',h1,h2⟩:=hf.put enc k v
 have hs:=AStep.mapUpdate (σ:=σ) ho hm hk hx hg hu hy rfl (keysI enc l)
 rw[h1]at hs
 have hrest:=h ck' l' h2
 exact AOps.step hgd (by rw[hd];rfl) hs (by rw[hd];exact hrest)
theorem AStep.lookI{E:Env}{o:Oper}{fr:Fr}{σ:St}{t kt et:TypeId}{x i:Operand}{m:Abs.Id}{ck:Nat}{l:List (Nat×Int×β)}{f:Int->Option β}{k:Int}{zv:Value}{z v:FV}{cm:Bool}(ho:o.op=.lookup t x i cm)(hm:E.P.underlying t=some (.map kt et))(hk:E.P.underlying kt=some (.int .i64))
  (hx:aEval E.Γ fr x=some (.one (.mp m))) (hg:σ.get m=some (.map ck (encI enc l))) (hu:aEval E.Γ fr i=some (.one (int k))) (hzv:(E.P.info? et).map (·.zero)=some (some zv)) (hz:∀w C,RF w C z zv) (hf:IMOk f ck l) (hv:(match f k with|some b=>enc b|none=>z)=v):
  AStep E o fr σ (if cm=true then .tup [v,.one (.lit (.bool (f k).isSome))]else v) σ:=by
 have h:=AStep.lookupZ (z:=z) (v:=v) ho hm hk hx hg hu rfl (keysI enc l) hzv hz (by
  rw[Qd9 enc hf,←hv]
  cases f k <;> rfl)
 rw[Qd9 enc hf]at h
 have e:((f k).map enc).isSome=(f k).isSome:=by cases f k <;> rfl
 rw[e]at h
 exact h
end
def eU:Unit->FV:=fun _=>.agg []
def eN:Int->FV:=fun n=>.one (int n)
theorem eU_ids(b:Unit)(p:Abs.Id->Prop):(eU b).ids p:=by simp[eU]
theorem eN_ids(b:Int)(p:Abs.Id->Prop):(eN b).ids p:=by simp[eN]
@[simp] theorem Qdj (p:Abs.Id->Prop) (ck:Nat) (l:List (Nat×Int×Unit)):AObj.ids p (.map ck (encI eU l)):=Q9j eU eU_ids p ck l
@[simp] theorem Q9h (p:Abs.Id->Prop) (ck:Nat) (l:List (Nat×Int×Int)):AObj.ids p (.map ck (encI eN l)):=Q9j eN eN_ids p ck l
def hasE {β:Type}(l:List (Nat×Int×β))(a:Nat)(k:Value)(v:β):Prop:=∃x∈l,x.1=a/\.int .i64 x.2.1=k/\x.2.2=v
@[simp] theorem Qd8 (a:Nat) (k:Value) (b:FV) (l:List (Nat×Int×Unit)):(a,k,b)∈encI eU l↔b=.agg []/\hasE l a k ():=by
 simp only[encI,eU,List.mem_map,Prod.mk.injEq]
 exact⟨fun ⟨x,h1,h2,h3,h4⟩=>⟨h4.symm,⟨x,h1,h2,h3,rfl⟩⟩,fun ⟨h4,⟨x,h1,h2,h3,_⟩⟩=>⟨x,h1,h2,h3,h4.symm⟩⟩
@[simp] theorem mem_encN (a:Nat) (k:Value) (b:FV) (l:List (Nat×Int×Int)):(a,k,b)∈encI eN l↔∃v,hasE l a k v/\.one (int v)=b:=by
 simp only[encI,eN,List.mem_map,Prod.mk.injEq]
 exact⟨fun ⟨x,h1,h2,h3,h4⟩=>⟨_,⟨x,h1,h2,h3,rfl⟩,h4⟩,fun ⟨v,⟨x,h1,h2,h3,h5⟩,h4⟩=>⟨x,h1,h2,h3,by rw[h5];exact h4⟩⟩
@[simp] theorem Q95 (ρ:Nat->Nat) (ck:Nat) (l:List (Nat×Int×Unit)):AObj.ren ρ (.map ck (encI eU l))=.map ck (encI eU l):=AObj.ren_pure _ _ (Qdj _ ck l)
@[simp] theorem ren_mapN (ρ:Nat->Nat) (ck:Nat) (l:List (Nat×Int×Int)):AObj.ren ρ (.map ck (encI eN l))=.map ck (encI eN l):=AObj.ren_pure _ _ (Q9h _ ck l)
theorem zeroU(w:World)(C:Ctx):RF w C (.agg []) (.agg #[]):=⟨[],rfl,rfl⟩
theorem zeroN(w:World)(C:Ctx):RF w C (.one (int 0)) (.int .i64 0):=by simp[RF,R,Value.oneCell']
@[simp] theorem Q9i (p:Abs.Id->Prop):∀l:List Int,idsL p (l.map int)
 |[]=>by simp
 |n::l=>by simp[Q9i p l]
@[simp] theorem ids_intset (p:Abs.Id->Prop) (l:List Int) (i:Nat) (v:Int):idsL p ((l.map int).set i (int v)):=by
 rw[←List.map_set];exact Q9i p _
@[simp] theorem Qgc (p:Abs.Id->Prop) (v:Value):∀n:Nat,idsL p (List.replicate n (.lit v))
 |0=>by simp
 |n+1=>by simp[List.replicate_succ,Qgc p v n]
theorem idxI{E:Env}{o:Oper}{fr:Fr}{σ:St}{t:TypeId}{ti tj:TI}{x i:Operand}{k:IntKind}{j:Abs.Id}{len cap:Nat}{n:Nat}(hT:TabOk E.P E.T)(ho:o.op=.indexAddr t x i)(ht:Tab.get t E.T=some ti)(hk:Nat.beq ti.kind 2=true)(hj:Tab.get ti.elem E.T=some tj)(hs:Nat.beq tj.size 1=true)
  (hx:aEval E.Γ fr x=some (.one (.arr j 1 0 len cap))) (hi':aEval E.Γ fr i=some (.one (.lit (.int k n)))) (hn:n < len):AStep E o fr σ (.one (.ptr j n)) σ:=by
 have h:=AStep.idxOwn (σ:=σ) hT ho ht hk hj hs hx hi' hn
 simpa using h
theorem loadI{E:Env}{o:Oper}{fr:Fr}{σ:St}{t:TypeId}{ti:TI}{x:Operand}{j:Abs.Id}{n:Nat}{p:List Int}{v:Int}(hT:TabOk E.P E.T)(ho:o.op=.load t x)(ht:Tab.get t E.T=some ti)(ha:ti.agg=false)(hs:Nat.beq ti.size 1=true)(hx:aEval E.Γ fr x=some (.one (.ptr j n)))
  (hg:σ.get j=some (.cells (p.map int))) (hc:p[n]?=some v):AStep E o fr σ (.one (int v)) σ:=
 AStep.loadOwn hT ho ht ha hs hx hg (by simp[hc])
theorem Qf7{E:Env}{ops:Array Oper}{rest:List Oper}{o:Oper}{K:Cont}{fr:Fr}{σ:St}{t:TypeId}{ti:TI}{x y:Operand}{j:Abs.Id}{n:Nat}{p:List Int}{v:Int}(hT:TabOk E.P E.T)(hgd:o.guard=none)(hd:o.dst=none)(ho:o.op=.store t x y)(ht:Tab.get t E.T=some ti)(hs:Nat.beq ti.size 1=true)(hx:aEval E.Γ fr x=some (.one (.ptr j n)))
  (hy:aEval E.Γ fr y=some (.one (int v))) (hg:σ.get j=some (.cells (p.map int))) (hlt:n < p.length) (h:AOps E ops rest K fr (σ.set j (.cells ((p.set n v).map int)))):AOps E ops (o::rest) K fr σ:=by
 refine AOps.storeOwn hT hgd hd ho ht hs hx hy hg (by simpa using hlt) ?_
 rw[←List.map_set];exact h
inductive Two (i j k:Nat)(A0 A1:FV)(σ0 σ1 σ2:St):(Nat->Option FV)->St->Prop
 |n:Two i j k A0 A1 σ0 σ1 σ2 (fun _=>none) σ0
 |a:Two i j k A0 A1 σ0 σ1 σ2 (updV (fun _=>none) i A0) σ1
 |b:Two i j k A0 A1 σ0 σ1 σ2 (updV (fun _=>none) j A0) σ1
 |ab:Two i j k A0 A1 σ0 σ1 σ2 (updV (updV (fun _=>none) i A0) j A1) σ2
 |ac:Two i j k A0 A1 σ0 σ1 σ2 (updV (updV (fun _=>none) i A0) k A0) σ1
 |ba:Two i j k A0 A1 σ0 σ1 σ2 (updV (updV (fun _=>none) j A0) i A1) σ2
 |abc:Two i j k A0 A1 σ0 σ1 σ2 (updV (updV (updV (fun _=>none) i A0) j A1) k A0) σ2
 |acb:Two i j k A0 A1 σ0 σ1 σ2 (updV (updV (updV (fun _=>none) i A0) k A0) j A1) σ2
 |bac:Two i j k A0 A1 σ0 σ1 σ2 (updV (updV (updV (fun _=>none) j A0) i A1) k A1) σ2
def z0 (e:List Ex):List Int:=List.replicate e.length 0
def runTo (e:List Ex)(j:Nat):Option (List Int×List Int):=(e.zipIdx.take j).foldl Q1a (some (z0 e,z0 e))
theorem Qab(e:List Ex):runTo e e.length=Q3l e:=by
 unfold runTo Q3l z0
 rw[List.take_of_length_le (by simp)]
theorem zip_at{e:List Ex}{j:Nat}{x:Ex}(h:e[j]?=some x):e.zipIdx[j]?=some (x,j):=by simp[List.getElem?_zipIdx,h]
theorem Q86{e:List Ex}{j:Nat}{x:Ex}(h:e[j]?=some x):runTo e (j+1)=Q1a (runTo e j) (x,j):=by
 unfold runTo
 rw[List.take_add_one,zip_at h,List.foldl_append];rfl
theorem Qfj{e:List Ex}{j:Nat}(h:runTo e j=none):Q3l e=none:=by
 rw[←Qab]
 unfold runTo at h ⊢
 rw[List.take_of_length_le (l:=e.zipIdx) (by simp),←List.take_append_drop j e.zipIdx,List.foldl_append,h,Q57]
theorem Q7e{ks:List Int}{i j:Nat}{k:Int}{s:Option (List Int×List Int)}(h:ks[i]?=some k):(ks.take (i+1)).foldl (Q14 j) s=Q14 j ((ks.take i).foldl (Q14 j) s) k:=by
 rw[List.take_add_one,h,List.foldl_append];rfl
theorem Qem{ks:List Int}{i j:Nat}{s:Option (List Int×List Int)}(h:(ks.take i).foldl (Q14 j) s=none):ks.foldl (Q14 j) s=none:=by
 rw[←List.take_append_drop i ks,List.foldl_append,h,Q2t]
theorem Q5q{l:List Int}{i:Nat}{v a b:Int}(h:∀x∈l,a<=x/\x<=b)(hv:a<=v/\v<=b):∀x∈l.set i v,a<=x/\x<=b:=fun x hx=>by
 rcases List.mem_or_eq_of_mem_set hx with hx|rfl
 ·exact h x hx
 ·exact hv
theorem Q5y{l:List Int}{i:Nat}{v:Int}(h:l[i]?=some v):l.getD i 0=v:=by rw[List.getD_eq_getElem?_getD,h];rfl
set_option maxHeartbeats 1000000 in
theorem Qa4(hΓ:∀g cs,(g,cs)∈Γ->idsL isO cs)(e:List Ex)(he:okE e):APure Tryz.prog Γ 43 [.one (.sl 5 (e.map cEx))] (.one (int (Q1b e))):=by
 have hel:=he.l
 intro ou
 refine AFn.walk 93 tabOk Tryz.func43 rfl (by kernel_rfl) rfl rfl fun hou=>?_
 refine zA ?_
 refine ACode.cond rfl (fun hb=>?_) (fun hb=>?_)
 ·refine zA ?_
  refine APure.fin rfl (WkF.ofEq ?_) (by simp) hou rfl
  have:4096 < e.length:=by simp at hb;omega
  simp[Q1b,this]
 have h1:e.length<=4096:=by simp at hb;omega
 clear hb
 refine zA ?_
 refine ACode.cond rfl (fun hb=>?_) (fun hb=>?_)
 ·refine zA ?_
  refine APure.fin rfl (WkF.ofEq ?_) (by simp) hou rfl
  have:e.length=0:=by simpa using hb
  simp[Q1b,this]
 have h2:e.length≠0:=by simpa using hb
 clear hb
 have hn:Q1b e=(match Q3l e with|none=>3|some (d,p)=>if (List.range e.length).any (Q1l e.length p)=true then 3 else if 400 < d.getD (e.length - 1) 0 then 2 else 0):=by
  unfold Q1b;rw[if_neg (by omega),if_neg h2];rfl
 refine zA ?_
 refine ACode.cutR hΓ (α:=Unit) (fun _=>[(4,.one (.arr (.l 1) 1 0 (e.map cEx).length (e.map cEx).length)),(3,.one (.arr (.l 0) 1 0 (e.map cEx).length (e.map cEx).length)),(0,.one (.sl 5 (e.map cEx)))])
  (fun _ => ⟨2, [(1, .cells ((z0 e).map int)), (0, .cells ((z0 e).map int))], ou⟩) (fun _ => True) ?_ fun _ _ => ?_
 ·have hz:(z0 e).map int=List.replicate (e.map cEx).length (.lit (.int .i64 0)):=by simp[z0]
  rw[hz]
  have hb:ti3.bytes * (e.map cEx).length<=281474976710656:=by simp;show 8 * _<=_;omega
  have hb2:(e.map cEx).length<=281474976710656:=by simp;omega
  refine ACode.drawS 7 [2,5,6] [.one (.sl 5 (e.map cEx)),.one (int (e.map cEx).length),.bot,.one (.sl 5 (e.map cEx)),.one (int (e.map cEx).length),.bot,.bot]
   (Two 2 5 6 (.one (.arr (.l 0) 1 0 (e.map cEx).length (e.map cEx).length)) (.one (.arr (.l 1) 1 0 (e.map cEx).length (e.map cEx).length)) ⟨0,[],ou⟩ ⟨1,[(0,.cells (List.replicate (e.map cEx).length (.lit (.int .i64 0))))],ou⟩ ⟨2,[(1,.cells (List.replicate (e.map cEx).length (.lit (.int .i64 0)))),(0,.cells (List.replicate (e.map cEx).length (.lit (.int .i64 0))))],ou⟩)
   follows (by kernel_rfl) rfl rfl .n ?_ ?_ ?_ ?_
  ·intro f σ h i hi
   have:2≠i/\5≠i/\6≠i:=⟨(by rintro rfl;cases hi),(by rintro rfl;cases hi),(by rintro rfl;cases hi)⟩
   cases h <;> simp[updV,this]
  ·intro i o hi hS hlo
   match i,hi with
   |0,_=>cases hlo;exact⟨_,rfl,rfl,rfl,by kernel_rfl,fun f σ _=>HStep.auto tabOk rfl⟩
   |1,_=>cases hlo;exact⟨_,rfl,rfl,rfl,by kernel_rfl,fun f σ _=>HStep.auto tabOk rfl⟩
   |2,_=>cases hS
   |3,_=>cases hlo;exact⟨_,rfl,rfl,rfl,by kernel_rfl,fun f σ _=>HStep.auto tabOk rfl⟩
   |4,_=>cases hlo;exact⟨_,rfl,rfl,rfl,by kernel_rfl,fun f σ _=>HStep.auto tabOk rfl⟩
   |5,_=>cases hS
   |6,_=>cases hS
  ·intro f σ i o h hS hlo hfi hdep
   have hi:i=2∨i=5∨i=6:=by
    simp only[List.any_cons,List.any_nil,Bool.or_false,Bool.or_eq_true]at hS
    rcases hS with h|h|h <;> have:=Nat.eq_of_beq_eq_true h <;> omega
   rcases hi with rfl|rfl|rfl <;> cases hlo
   ·cases h with
    |n=>exact⟨rfl,rfl,_,_,HStep.plain rfl (AStep.makeArr (σ:=⟨0,[],ou⟩) tabOk rfl rfl rfl rfl rfl rfl rfl rfl hb hb2),.a⟩
    |b=>exact⟨rfl,rfl,_,_,HStep.plain rfl (AStep.makeArr (σ:=⟨1,[(0,.cells (List.replicate (e.map cEx).length (.lit (.int .i64 0))))],ou⟩) tabOk rfl rfl rfl rfl rfl rfl rfl rfl hb hb2),.ba⟩
    |_=>cases hfi
   ·cases h with
    |n=>exact⟨rfl,rfl,_,_,HStep.plain rfl (AStep.makeArr (σ:=⟨0,[],ou⟩) tabOk rfl rfl rfl rfl rfl rfl rfl rfl hb hb2),.b⟩
    |a=>exact⟨rfl,rfl,_,_,HStep.plain rfl (AStep.makeArr (σ:=⟨1,[(0,.cells (List.replicate (e.map cEx).length (.lit (.int .i64 0))))],ou⟩) tabOk rfl rfl rfl rfl rfl rfl rfl rfl hb hb2),.ab⟩
    |ac=>exact⟨rfl,rfl,_,_,HStep.plain rfl (AStep.makeArr (σ:=⟨1,[(0,.cells (List.replicate (e.map cEx).length (.lit (.int .i64 0))))],ou⟩) tabOk rfl rfl rfl rfl rfl rfl rfl rfl hb hb2),.acb⟩
    |_=>cases hfi
   ·cases h with
    |a=>exact⟨rfl,rfl,_,_,HStep.auto tabOk rfl,.ac⟩
    |ab=>exact⟨rfl,rfl,_,_,HStep.auto tabOk rfl,.abc⟩
    |ba=>exact⟨rfl,rfl,_,_,HStep.auto tabOk rfl,.bac⟩
    |n=>exact absurd (hdep _ (List.mem_cons_self ..) rfl rfl) (by simp)
    |b=>exact absurd (hdep _ (List.mem_cons_self ..) rfl rfl) (by simp[updV])
    |_=>cases hfi
  ·intro f σ h hall
   have h2:=hall 2 (by simp) (by omega)
   have h5:=hall 5 (by simp) (by omega)
   have h6:=hall 6 (by simp) (by omega)
   cases h with
   |abc=>
    refine zA ?_
    exact cInv ⟨(),id,trivial,LessR.of rfl zFS (by simp) zLO rfl rfl hou⟩
   |acb=>
    refine zA ?_
    exact cInv ⟨(),id,trivial,LessR.of rfl zFS (by simp) zLO rfl rfl hou⟩
   |bac=>
    refine zA ?_
    exact cInv ⟨(),fun k=>if k=0 then 1 else 0,trivial,LessR.of rfl zFS (by simp) zLO rfl rfl hou⟩
   |n=>cases h2
   |a=>cases h5
   |b=>cases h2
   |ab=>cases h6
   |ac=>cases h5
   |ba=>cases h6
 refine zA ?_
 refine ACode.loopR hΓ (α:=Nat×List Int×List Int) (fun a=>[(25,.one (int a.1)),(24,.one (int (e.map cEx).length)),(23,.one (.sl 5 (e.map cEx))),(4,.one (.arr (.l 1) 1 0 (e.map cEx).length (e.map cEx).length)),(3,.one (.arr (.l 0) 1 0 (e.map cEx).length (e.map cEx).length)),(0,.one (.sl 5 (e.map cEx)))])
  (fun a=>⟨2,[(1,.cells (a.2.2.map int)),(0,.cells (a.2.1.map int))],ou⟩)
  (fun m a=>a.1<=e.length/\runTo e a.1=some (a.2.1,a.2.2)/\(a.2.1.length=e.length/\a.2.2.length=e.length)/\(∀v∈a.2.1,0<=v/\v<=(a.1:Int))/\(∀v∈a.2.2,0<=v/\v<=(a.1:Int) * 1048576)/\m=e.length - a.1)
  (a0:=(0,z0 e,z0 e)) (ρ:=id) ⟨by omega,rfl,⟨by simp[z0],by simp[z0]⟩,by simp[z0],by simp[z0],rfl⟩ (LessR.of rfl zFS (by simp) zLO rfl rfl hou) fun m a hj=>?_
 obtain⟨j,d,p⟩:=a
 obtain⟨hjl,hrun,⟨hdl,hpl⟩,hdb,hpb,rfl⟩:=hj
 simp only at hjl hrun hdl hpl hdb hpb
 refine zA ?_
 refine ACode.cond rfl (fun hb2=>?_) (fun hb2=>?_)
 ·have hlt:j < e.length:=by simpa using hb2
  obtain⟨x,hx⟩:=Q01 hlt
  have hxo:=he.x x (List.mem_of_getElem? hx)
  have hxk:=hxo.k
  refine zA ?_
  refine zS (zIA rfl rfl rfl (by omega) (Q04 hx)) ?_
  refine zA ?_
  refine ACode.loopR hΓ (α:=Nat×List Int×List Int) (fun a=>[(33,.one (int a.1)),(32,.one (int (x.kids.map cI).length)),(31,.one (.sl 1 (x.kids.map cI))),(5,.one (int j)),(25,.one (int j)),(24,.one (int (e.map cEx).length)),(23,.one (.sl 5 (e.map cEx))),(4,.one (.arr (.l 1) 1 0 (e.map cEx).length (e.map cEx).length)),(3,.one (.arr (.l 0) 1 0 (e.map cEx).length (e.map cEx).length)),(0,.one (.sl 5 (e.map cEx)))])
   (fun a=>⟨2,[(1,.cells (a.2.2.map int)),(0,.cells (a.2.1.map int))],ou⟩)
   (fun m a=>a.1<=x.kids.length/\(x.kids.take a.1).foldl (Q14 j) (some (d,p))=some (a.2.1,a.2.2)/\(a.2.1.length=e.length/\a.2.2.length=e.length)/\(∀v∈a.2.1,0<=v/\v<=(j:Int))/\(∀v∈a.2.2,0<=v/\v<=(j:Int) * 1048576+a.1)/\m=x.kids.length - a.1)
   (a0 := (0, d, p)) (ρ := id) ⟨by omega, rfl, ⟨hdl, hpl⟩, hdb, fun v hv => by have := hpb v hv; show 0 <= v /\ v <= (j : Int) * 1048576 + ((0 : Nat) : Int); omega, rfl⟩ (LessR.of rfl zFS (by simp) zLO rfl rfl hou) fun m a hi => ?_
  obtain⟨i,d',p'⟩:=a
  obtain⟨hil,hki,⟨hdl',hpl'⟩,hdb',hpb',rfl⟩:=hi
  simp only at hil hki hdl' hpl' hdb' hpb'
  obtain⟨dj,hdj⟩:=Q01 (l:=d') (i:=j) (by omega)
  have hdjb:=hdb' dj (List.mem_of_getElem? hdj)
  refine zA ?_
  refine ACode.cond rfl (fun hb3=>?_) (fun hb3=>?_)
  ·have hlt2:i < x.kids.length:=by simpa using hb3
   obtain⟨k,hk⟩:=Q01 hlt2
   have bad:(k < 0∨(j:Int)<=k)->Q1b e=3:=fun h=>by
    have h1:(x.kids.take (i+1)).foldl (Q14 j) (some (d,p))=none:=by
     rw[Q7e hk,hki];simp only[Q14,Option.bind_some];rw[if_pos h]
    have h2:=Qem h1
    have h3:runTo e (j+1)=none:=by rw[Q86 hx,hrun];simp only[Q1a];rw[h2];rfl
    rw[hn,Qfj h3]
   refine zA ?_
   refine zS (zIA rfl rfl rfl (by omega) (Q04 hk)) ?_
   by_cases hkk:k < 0∨(j:Int)<=k
   ·repeat' first|refine zN ?_|(with_reducible refine oj ?_;refine AOps.splitS rfl rfl rfl rfl (fun hb=>?_) (fun hb=>?_))|(with_reducible refine ok ?_;first|refine ACode.condS rfl (fun hb=>?_) (fun hb=>?_)|refine ACode.cond rfl (fun hb=>?_) (fun hb=>?_))
    all_goals first
     |(
      refine APure.fin rfl (WkF.ofEq ?_) (by simp) hou rfl
      rw[bad hkk]
      done)
     |(exfalso;simp only[decide_eq_false_iff_not,decide_eq_true_eq]at *;omega)
   ·obtain⟨k,rfl⟩:∃k':Nat,k=k':=⟨k.toNat,by omega⟩
    have hkj:k < j:=by omega
    obtain⟨pk,hpk⟩:=Q01 (l:=p') (i:=k) (by omega)
    obtain⟨dk,hdk⟩:=Q01 (l:=d') (i:=k) (by omega)
    have hpkb:=hpb' pk (List.mem_of_getElem? hpk)
    have hdkb:=hdb' dk (List.mem_of_getElem? hdk)
    repeat' first|refine zN ?_|(with_reducible refine oj ?_;refine AOps.splitS rfl rfl rfl rfl (fun hb=>?_) (fun hb=>?_))|(with_reducible refine ok ?_;first|refine ACode.condS rfl (fun hb=>?_) (fun hb=>?_)|refine ACode.cond rfl (fun hb=>?_) (fun hb=>?_))
    all_goals first
     |(exfalso;simp at hb;done)
     |(exfalso;simp at hb;omega)
     |skip
    refine zS (idxI tabOk rfl rfl rfl rfl rfl rfl rfl (by simp;omega)) ?_
    refine zS (loadI tabOk rfl rfl rfl rfl rfl rfl hpk) ?_
    refine zS (AStep.arith rfl rfl rfl (.inl ⟨rfl,rfl⟩) zI) ?_
    refine zS (idxI tabOk rfl rfl rfl rfl rfl rfl rfl (by simp;omega)) ?_
    refine Qf7 tabOk rfl rfl rfl rfl rfl rfl rfl rfl (show k < p'.length by omega) ?_
    refine zA ?_
    refine ACode.drawX tabOk 11 [(4,.one (.ptr (.l 0) j)),(5,.one (int dj)),(8,.one (.ptr (.l 0) k)),(9,.one (int dk)),(10,.one (int (if dk > dj then dk else dj)))] follows (by kernel_rfl) rfl rfl rfl rfl ?_ ?_
    ·refine .step rfl (zHP (idxI tabOk rfl rfl rfl rfl rfl rfl rfl (by simp;omega))) ?_
     refine .step rfl (zHP (loadI tabOk rfl rfl rfl rfl rfl rfl hdj)) ?_
     refine .step rfl (zHP (idxI tabOk rfl rfl rfl rfl rfl rfl rfl (by simp;omega))) ?_
     refine .step rfl (zHP (loadI tabOk rfl rfl rfl rfl rfl rfl hdk)) ?_
     exact .step rfl (zHP (AStep.max2 (t:=3) (ty:=3) rfl rfl rfl)) .nil
    refine zA ?_
    refine zS (idxI tabOk rfl rfl rfl rfl rfl rfl rfl (by simp;omega)) ?_
    refine Qf7 tabOk rfl rfl rfl rfl rfl rfl rfl rfl (show j < d'.length by omega) ?_
    refine zM ?_
    refine cInv ⟨x.kids.length - (i+1),(i+1,d'.set j (if dk > dj then dk else dj),p'.set k (pk+1)),id,by omega,⟨by omega,?_,⟨by simp[hdl'],by simp[hpl']⟩,Q5q hdb' (by split <;> omega),fun v hv=>?_,rfl⟩,LessR.of rfl zFS (by simp) zLO rfl rfl hou⟩
    ·rw[Q7e hk,hki]
     simp only[Q14,Option.bind_some,Int.toNat_natCast,Q5y hdj,Q5y hdk,Q5y hpk]
     rw[if_neg (by omega)]
    ·have:=Q5q (a:=0) (b:=(j:Int) * 1048576+(i+1:Nat)) (fun v hv=>by have:=hpb' v hv;omega) (show (0:Int)<=pk+1/\pk+1<=(j:Int) * 1048576+(i+1:Nat) by omega) v hv
     exact this
  ·have hlt2:i=x.kids.length:=by simp at hb3;omega
   subst hlt2
   rw[List.take_length]at hki
   refine zA ?_
   refine zS (idxI tabOk rfl rfl rfl rfl rfl rfl rfl (by simp;omega)) ?_
   refine zS (loadI tabOk rfl rfl rfl rfl rfl rfl hdj) ?_
   refine zS (AStep.arith rfl rfl rfl (.inl ⟨rfl,rfl⟩) zI) ?_
   refine zS (idxI tabOk rfl rfl rfl rfl rfl rfl rfl (by simp;omega)) ?_
   refine Qf7 tabOk rfl rfl rfl rfl rfl rfl rfl rfl (show j < d'.length by omega) ?_
   refine zM ?_
   refine cInv ⟨e.length - (j+1),(j+1,d'.set j (dj+1),p'),id,by omega,⟨by omega,?_,⟨by simp[hdl'],hpl'⟩,?_,fun v hv=>?_,rfl⟩,LessR.of rfl zFS (by simp) zLO rfl rfl hou⟩
   ·rw[Q86 hx,hrun]
    simp only[Q1a,hki,Option.map_some,Q5y hdj]
   ·exact Q5q (fun v hv=>by have:=hdb' v hv;simp only;omega) (by simp only;omega)
   ·have:=hpb' v hv
    simp only;omega
 ·have hlt:j=e.length:=by simp at hb2;omega
  subst hlt
  rw[Qab]at hrun
  rw[hrun]at hn
  simp only at hn
  obtain⟨N,hN⟩:∃N,e.length=N+1:=⟨e.length - 1,by omega⟩
  refine zA ?_
  refine ACode.loopR hΓ (α:=Nat) (fun i=>[(72,.one (int i)),(71,.one (int (e.map cEx).length)),(70,.one (.arr (.l 1) 1 0 (e.map cEx).length (e.map cEx).length)),(4,.one (.arr (.l 1) 1 0 (e.map cEx).length (e.map cEx).length)),(3,.one (.arr (.l 0) 1 0 (e.map cEx).length (e.map cEx).length)),(0,.one (.sl 5 (e.map cEx)))])
   (fun i=>⟨2,[(1,.cells (p.map int)),(0,.cells (d.map int))],ou⟩) (fun m i=>i<=e.length/\(∀q∈(List.range e.length).take i,Q1l e.length p q=false)/\m=e.length - i) (a0:=0) (ρ:=id) ⟨by omega,by simp,rfl⟩ (LessR.of rfl zFS (by simp) zLO rfl rfl hou) fun m i hi=>?_
  obtain⟨hil,hno,rfl⟩:=hi
  refine zA ?_
  refine ACode.cond rfl (fun hb3=>?_) (fun hb3=>?_)
  ·have hlt2:i < e.length:=by simpa using hb3
   have hri:(List.range e.length)[i]?=some i:=by simp[hlt2]
   obtain⟨v,hv⟩:=Q01 (l:=p) (i:=i) (by omega)
   have hod:Q1l e.length p i=!((v==1)==decide ((i:Int) < (e.length:Int) - 1)):=by unfold Q1l;rw[Q5y hv]
   refine zA ?_
   refine zS (idxI tabOk rfl rfl rfl rfl rfl rfl rfl (by simp;omega)) ?_
   refine zS (loadI tabOk rfl rfl rfl rfl rfl rfl hv) ?_
   refine zM ?_
   refine ACode.cond rfl (fun hb4=>?_) (fun hb4=>?_)
   ·refine zA ?_
    refine APure.fin rfl (WkF.ofEq ?_) (by simp) hou rfl
    rw[hn,if_pos (List.any_eq_true.2 ⟨i,by simp[hlt2],by rw[hod];simpa using hb4⟩)]
   ·refine zM ?_
    exact cInv ⟨e.length - (i+1),i+1,id,by omega,⟨by omega,Q0t hno hri (by rw[hod];simpa using hb4),rfl⟩,LessR.of rfl zFS (by simp) zLO rfl rfl hou⟩
  ·have hlt2:i=e.length:=by simp at hb3;omega
   have hany:¬(List.range e.length).any (Q1l e.length p)=true:=by
    rw[List.any_eq_true]
    rintro⟨q,hq,hq2⟩
    rw[hno q (by rw[hlt2,List.take_of_length_le (by simp)];exact hq)]at hq2
    cases hq2
   rw[if_neg hany]at hn
   obtain⟨v,hv⟩:=Q01 (l:=d) (i:=N) (by omega)
   have hgd:d.getD (e.length - 1) 0=v:=by rw[hN];exact Q5y hv
   rw[hgd]at hn
   refine zM ?_
   refine AOps.wk 89 rfl (y:=.one (int (N:Nat))) (.ofEq (by congr 3;simp;omega)) ?_
   refine zS (idxI tabOk rfl rfl rfl rfl rfl rfl rfl (by simp;omega)) ?_
   refine zS (loadI tabOk rfl rfl rfl rfl rfl rfl hv) ?_
   refine zA ?_
   refine ACode.cond rfl (fun hb4=>?_) (fun hb4=>?_)
   ·refine zA ?_
    refine APure.fin rfl (WkF.ofEq ?_) (by simp) hou rfl
    rw[hn,if_pos (by simpa using hb4)]
   ·refine zA ?_
    refine APure.fin rfl (WkF.ofEq ?_) (by simp) hou rfl
    rw[hn,if_neg (by simpa using hb4)]
structure SetIs (S:List Int)(ck:Nat)(l:List (Nat×Int×Unit)):Prop where
 ex:∃f,IMOk f ck l/\∀k,(f k).isSome=S.contains k
theorem SetIs.nil:SetIs [] 0 []:=⟨_,IMOk.nil,fun k=>by simp⟩
theorem Qbq{S:List Int}{f:Int->Option Unit}(h:∀k,(f k).isSome=S.contains k)(n:Int):∀k,(setF f n () k).isSome=(S++[n]).contains k:=fun k=>by
 unfold setF
 by_cases e:n=k
 ·subst e;simp
 ·rw[if_neg e,h k]
  have:¬k=n:=fun h=>e h.symm
  simp[this]
theorem dup_at{S r:List Int}{n:Int}(h:S.contains n=true):Q3v (S++n::r)=true:=by
 apply Classical.byContradiction
 intro hd
 have:=(Q1t _).1 (by simpa using hd)
 rw[List.nodup_append]at this
 exact this.2.2 n (by simpa using h) n (by simp) rfl
theorem Q8c{S:List Int}{n:Int}(h:S.Nodup)(hn:S.contains n=false):(S++[n]).Nodup:=by
 rw[List.nodup_append]
 refine⟨h,by simp,fun a ha b hb e=>?_⟩
 simp at hb
 subst hb;subst e
 simp at hn
 exact hn ha
theorem Q1r{α:Type}{l:List α}{j:Nat}{a:α}(h:l[j]?=some a):l.take (j+1)=l.take j++[a]:=by rw[List.take_add_one,h];rfl
theorem Q90{α:Type}{l:List α}{j:Nat}{a:α}(h:l[j]?=some a):l=l.take j++a::l.drop (j+1):=by
 have h1:=(List.getElem?_eq_some_iff.1 h)
 obtain⟨h2,h3⟩:=h1
 rw[←h3,←List.drop_eq_getElem_cons h2,List.take_append_drop]
set_option maxHeartbeats 1000000 in
theorem Qhk(hΓ:∀g cs,(g,cs)∈Γ->idsL isO cs)(e:List Ex)(he:okE e)(params:List Int)(hp:params.length<=1048576)(hbl:∀x∈e,(Q0f x).length<=4194304/\x.binds.length+(x.alts.flatMap (·.binds)).length<=4194304):
  APure Tryz.prog Γ 48 [.one (.sl 5 (e.map cEx)),.one (.sl 1 (params.map cI))] (.one (.lit (.bool (Q3v (params++Q07 e))))):=by
 have hel:=he.l
 intro ou
 refine AFn.walk 68 tabOk Tryz.func48 rfl (by kernel_rfl) rfl rfl fun hou=>?_
 refine zA ?_
 refine zS (AStep.makeMap rfl) ?_
 refine zA ?_
 refine ACode.loopR hΓ (α:=Nat×Nat×List (Nat×Int×Unit)) (fun a=>[(20,.one (int a.1)),(19,.one (int (params.map cI).length)),(18,.one (.sl 1 (params.map cI))),(5,.one (.mp (.l 0))),(0,.one (.sl 5 (e.map cEx)))])
  (fun a=>⟨1,[(0,.map a.2.1 (encI eU a.2.2))],ou⟩) (fun m a=>a.1<=params.length/\SetIs (params.take a.1) a.2.1 a.2.2/\(params.take a.1).Nodup/\m=params.length - a.1) (a0:=(0,0,[])) (ρ:=id) ⟨by omega,by simpa using SetIs.nil,by simp,rfl⟩
  (LessR.of rfl zFS (by simp) zLO rfl rfl hou) fun m a hj=>?_
 obtain⟨j,ck,l⟩:=a
 obtain⟨hjl,⟨f,hf,hfs⟩,hnd,rfl⟩:=hj
 simp only at hjl hf hfs hnd
 refine zA ?_
 refine ACode.cond rfl (fun hb2=>?_) (fun hb2=>?_)
 ·have hlt:j < params.length:=by simpa using hb2
  obtain⟨n,hn⟩:=Q01 hlt
  refine zA ?_
  refine zS (zIA rfl rfl rfl (by omega) (Q04 hn)) ?_
  refine zA ?_
  refine zS (AStep.lookI eU (cm:=true) (v:=.agg []) rfl Tryz.underlying118 Tryz.underlying3 rfl rfl rfl (by kernel_rfl) zeroU hf (by cases f n <;> rfl)) ?_
  refine zA ?_
  refine zS (AStep.allocU rfl (by kernel_rfl)) ?_
  refine AOps.step rfl rfl (AStep.storeU rfl (by kernel_rfl) rfl rfl rfl) ?_
  refine zA ?_
  refine ACode.cond rfl (fun hb3=>?_) (fun hb3=>?_)
  ·refine zA ?_
   refine APure.fin rfl (WkF.ofEq ?_) (by simp) hou rfl
   rw[hfs n]at hb3
   have hd:=dup_at (r:=params.drop (j+1)++Q07 e) hb3
   rw[←List.cons_append,←List.append_assoc,←Q90 hn]at hd
   rw[hd]
  ·rw[hfs n]at hb3
   refine zA ?_
   refine zS (AStep.buildU rfl Tryz.underlying119 (by kernel_rfl)) ?_
   refine AOps.putI eU (v:=()) rfl rfl rfl Tryz.underlying118 Tryz.underlying3 rfl rfl rfl rfl hf fun ck' l' hf'=>?_
   refine zM ?_
   exact cInv ⟨params.length - (j+1),(j+1,ck',l'),id,by omega,⟨by omega,⟨_,hf',by rw[Q1r hn];exact Qbq hfs n⟩,by rw[Q1r hn];exact Q8c hnd hb3,rfl⟩,LessR.of rfl zFS (by simp) zLO rfl rfl hou⟩
 have hlt:j=params.length:=by simp at hb2;omega
 subst hlt
 rw[List.take_length]at hfs hnd
 refine zA ?_
 refine ACode.loopR hΓ (α:=Nat×Nat×List (Nat×Int×Unit)) (fun a=>[(37,.one (int a.1)),(36,.one (int (e.map cEx).length)),(35,.one (.sl 5 (e.map cEx))),(5,.one (.mp (.l 0)))])
  (fun a=>⟨1,[(0,.map a.2.1 (encI eU a.2.2))],ou⟩) (fun m a=>a.1<=e.length/\SetIs (params++Q07 (e.take a.1)) a.2.1 a.2.2/\(params++Q07 (e.take a.1)).Nodup/\m=e.length - a.1) (a0:=(0,ck,l)) (ρ:=id) ⟨by omega,⟨f,hf,by simpa[Q07]using hfs⟩,by simpa[Q07]using hnd,rfl⟩
  (LessR.of rfl zFS (by simp) zLO rfl rfl hou) fun m a hj=>?_
 clear hf hfs hnd hb2 hjl f
 obtain⟨j,ck,l⟩:=a
 obtain⟨hjl,⟨f,hf,hfs⟩,hnd,rfl⟩:=hj
 simp only at hjl hf hfs hnd
 refine zA ?_
 refine ACode.cond rfl (fun hb2=>?_) (fun hb2=>?_)
 ·have hlt:j < e.length:=by simpa using hb2
  obtain⟨x,hx⟩:=Q01 hlt
  have hxm:=List.mem_of_getElem? hx
  have hxo:=he.x x hxm
  have hxl:=hbl x hxm
  have hab:Q07 (e.take (j+1))=Q07 (e.take j)++Q0f x:=by rw[Q1r hx];simp[Q07]
  have hall:Q07 e=Q07 (e.take j)++(Q0f x++Q07 (e.drop (j+1))):=by
   conv=>lhs;rw[Q90 hx]
   simp[Q07]
  refine zA ?_
  refine zS (zIA rfl rfl rfl (by omega) (Q04 hx)) ?_
  refine zA ?_
  refine AOps.freeze1 (.l 2) 49 rfl rfl ?_
  refine AOps.wk 49 rfl (y:=.one (.box (cTr (.mk x.op 0 x.binds [] x.alts)))) (.one (Wk.box ?_)) ?_
  ·exact .cons (.refl _) (.cons (.refl _) (.cons (.refl _) (.cons (.nilS 1) (.cons (.refl _) .nil))))
  have hcall:=Q4j hΓ (.mk x.op 0 x.binds [] x.alts) (by simpa[Q42]using hxl.2) hxo.a
  refine zca hΓ hcall hou ?_
  have heb:Q06 x.op x.binds x.alts=Q0f x:=rfl
  simp only[Tr.op_mk,Tr.binds_mk,Tr.alts_mk,heb]
  refine zA ?_
  refine ACode.loopR hΓ (α:=Nat×Nat×List (Nat×Int×Unit)) (fun a=>[(52,.one (int a.1)),(51,.one (int ((Q0f x).map cI).length)),(50,.one (.sl 1 ((Q0f x).map cI))),(37,.one (int j)),(36,.one (int (e.map cEx).length)),(35,.one (.sl 5 (e.map cEx))),(5,.one (.mp (.l 0)))])
   (fun a=>⟨1,[(0,.map a.2.1 (encI eU a.2.2))],ou⟩) (fun m a=>a.1<=(Q0f x).length/\SetIs (params++Q07 (e.take j)++(Q0f x).take a.1) a.2.1 a.2.2/\(params++Q07 (e.take j)++(Q0f x).take a.1).Nodup/\m=(Q0f x).length - a.1) (a0:=(0,ck,l)) (ρ:=id) ⟨by omega,⟨f,hf,by simpa using hfs⟩,by simpa using hnd,rfl⟩
   (LessR.of rfl zFS (by simp) zLO rfl rfl hou) fun m a hi=>?_
  clear hf hfs hnd f
  obtain⟨i,ck,l⟩:=a
  obtain⟨hil,⟨f,hf,hfs⟩,hnd,rfl⟩:=hi
  simp only at hil hf hfs hnd
  refine zA ?_
  refine ACode.cond rfl (fun hb3=>?_) (fun hb3=>?_)
  ·have hlt2:i < (Q0f x).length:=by simpa using hb3
   obtain⟨n,hn⟩:=Q01 hlt2
   refine zA ?_
   refine zS (zIA rfl rfl rfl (by omega) (Q04 hn)) ?_
   refine zA ?_
   refine zS (AStep.lookI eU (cm:=true) (v:=.agg []) rfl Tryz.underlying118 Tryz.underlying3 rfl rfl rfl (by kernel_rfl) zeroU hf (by cases f n <;> rfl)) ?_
   refine zA ?_
   refine zS (AStep.allocU rfl (by kernel_rfl)) ?_
   refine AOps.step rfl rfl (AStep.storeU rfl (by kernel_rfl) rfl rfl rfl) ?_
   refine zA ?_
   refine ACode.cond rfl (fun hb4=>?_) (fun hb4=>?_)
   ·refine zA ?_
    refine APure.fin rfl (WkF.ofEq ?_) (by simp) hou rfl
    rw[hfs n]at hb4
    have hd:=dup_at (r:=(Q0f x).drop (i+1)++Q07 (e.drop (j+1))) hb4
    rw[←List.cons_append,List.append_assoc (params++_),←List.append_assoc ((Q0f x).take i),←Q90 hn,List.append_assoc,←hall]at hd
    rw[hd]
   ·rw[hfs n]at hb4
    refine zA ?_
    refine zS (AStep.buildU rfl Tryz.underlying119 (by kernel_rfl)) ?_
    refine AOps.putI eU (v:=()) rfl rfl rfl Tryz.underlying118 Tryz.underlying3 rfl rfl rfl rfl hf fun ck' l' hf'=>?_
    refine zM ?_
    exact cInv ⟨(Q0f x).length - (i+1),(i+1,ck',l'),id,by omega,⟨by omega,⟨_,hf',by rw[Q1r hn,←List.append_assoc];exact Qbq hfs n⟩,by rw[Q1r hn,←List.append_assoc];exact Q8c hnd hb4,rfl⟩,LessR.of rfl zFS (by simp) zLO rfl rfl hou⟩
  ·have hlt2:i=(Q0f x).length:=by simp at hb3;omega
   subst hlt2
   rw[List.take_length,List.append_assoc,←hab]at hfs hnd
   refine zM ?_
   exact cInv ⟨e.length - (j+1),(j+1,ck,l),id,by omega,⟨by omega,⟨_,hf,hfs⟩,hnd,rfl⟩,LessR.of rfl zFS (by simp) zLO rfl rfl hou⟩
 ·have hlt:j=e.length:=by simp at hb2;omega
  subst hlt
  rw[List.take_length]at hnd
  refine zA ?_
  refine APure.fin rfl (WkF.ofEq ?_) (by simp) hou rfl
  rw[(Q1t _).2 hnd]
@[simp] theorem ids_takeA (p:Abs.Id->Prop) (n:Nat) (l:List Alt):idsS p (List.take n (l.map cAlt)):=by rw[←List.map_take];exact Qar p _
@[simp] theorem ids_takeI (p:Abs.Id->Prop) (n:Nat) (l:List Int):idsS p (List.take n (l.map cI)):=by rw[←List.map_take];exact Q9k p _
@[simp] theorem renS_nil (ρ:Nat->Nat):renS ρ []=[]:=rfl
def Q20 (ts:List Tr)(n:Nat):List AC:=ts.map (fun t=>.box (cTr t))++List.replicate (n - ts.length) (.lit (.pointer none))
theorem Qei(n:Nat):Q20 [] n=List.replicate n (.lit (.pointer none)):=by simp[Q20]
theorem Qej{ts:List Tr}{n:Nat}(h:ts.length<=n):(Q20 ts n).length=n:=by simp[Q20];omega
theorem Q5p{ts:List Tr}{n k:Nat}{t:Tr}(h:ts[k]?=some t):(Q20 ts n)[k]?=some (.box (cTr t)):=by
 have hk:=(List.getElem?_eq_some_iff.1 h).1
 unfold Q20
 rw[List.getElem?_append_left (by simpa using hk)]
 simp[h]
theorem Qeh{ts:List Tr}{n:Nat}(h:ts.length < n)(t:Tr):(Q20 ts n).set ts.length (.box (cTr t))=Q20 (ts++[t]) n:=by
 unfold Q20
 rw[List.set_append_right _ _ (by simp)]
 simp only[List.length_map,Nat.sub_self,List.map_append,List.map_cons,List.map_nil,List.append_assoc,List.length_append,List.length_singleton]
 congr 1
 rw[show n - ts.length=(n - (ts.length+1))+1 by omega,List.replicate_succ]
 rfl
theorem Qas(p:Abs.Id->Prop):∀ts:List Tr,idsL p (ts.map fun t=>AC.box (cTr t))
 |[]=>by simp
 |t::ts=>by simp[Qas p ts]
theorem Q6o{p:Abs.Id->Prop}:∀{a b:List AC},idsL p a->idsL p b->idsL p (a++b)
 |[],_,_,h=>h
 |_::_,_,h,k=>⟨h.1,Q6o h.2 k⟩
@[simp] theorem ids_nodesC (p:Abs.Id->Prop) (ts:List Tr) (n:Nat):idsL p (Q20 ts n):=Q6o (Qas p ts) (Qgc p _ _)
def kidsT (ts:List Tr)(ks:List Int):List Tr:=ks.map fun k=>ts.getD k.toNat default
theorem Qen{ts:List Tr}{ks:List Int}{i:Nat}{k:Int}(h:ks[i]?=some k):kidsT ts (ks.take (i+1))=kidsT ts (ks.take i)++[ts.getD k.toNat default]:=by
 simp[kidsT,List.take_add_one,h]
theorem Qfv(ts:List Tr)(x:Ex):Q2g ts x=.mk x.op x.n x.binds (kidsT ts x.kids) x.alts:=rfl
theorem Q1o{α:Type}{l:List α}{j:Nat}{a:α}(h:l[j]?=some a):l.take (j+1)=l.take j++[a]:=by rw[List.take_add_one,h];rfl
set_option maxHeartbeats 1000000 in
theorem Q7y(hΓ:∀g cs,(g,cs)∈Γ->idsL isO cs)(e:List Ex)(he:okE e)(hin:Q13 e)(hne:e≠[]):APure Tryz.prog Γ 35 [.one (.sl 5 (e.map cEx))] (.one (.box (cTr (grow e)))):=by
 have hel:=he.l
 intro ou
 refine AFn.walk 85 tabOk Tryz.func35 rfl (by kernel_rfl) rfl rfl fun hou=>?_
 refine zA ?_
 have hb:ti68.bytes * (e.map cEx).length<=281474976710656:=by simp;show 8 * _<=_;omega
 have hb2:(e.map cEx).length<=281474976710656:=by simp;omega
 refine zS (AStep.makeArr tabOk rfl rfl rfl rfl rfl rfl rfl rfl hb hb2) ?_
 refine zA ?_
 refine ACode.loopR hΓ (α:=Nat) (fun j=>[(16,.one (int j)),(15,.one (int (e.map cEx).length)),(14,.one (.sl 5 (e.map cEx))),(3,.one (.arr (.l 0) 1 0 (e.map cEx).length (e.map cEx).length)),(0,.one (.sl 5 (e.map cEx)))])
  (fun j=>⟨1,[(0,.cells (Q20 (growL (e.take j)) (e.map cEx).length))],ou⟩) (fun m j=>j<=e.length/\m=e.length - j) (a0:=0) (ρ:=id) ⟨by omega,rfl⟩
  (LessR.of rfl zFS (by simp) (LoSub.cons rfl (by rw[AObj.ren_pure _ _ (by simp)];show AObj.cells (List.replicate _ _)=AObj.cells (Q20 [] _);rw[Qei]) rfl (by simp) .nil) rfl rfl hou) fun m j hj=>?_
 obtain⟨hjl,rfl⟩:=hj
 refine zA ?_
 refine ACode.cond rfl (fun hb2=>?_) (fun hb2=>?_)
 ·have hlt:j < e.length:=by simpa using hb2
  obtain⟨x,hx⟩:=Q01 hlt
  have hxo:=he.x x (List.mem_of_getElem? hx)
  have hxk:=hxo.k
  have hxa:=hxo.a
  have hxin:=hin j x hx
  have hgl:(growL (e.take j)).length=j:=by rw[Q17];simp;omega
  refine zA ?_
  refine zS (zIA rfl rfl rfl (by omega) (Q04 hx)) ?_
  refine zA ?_
  have hcl:=Q6u (Γ:=Γ) x.binds hxo.b
  refine ACode.drawXH (va:=.one (.ptr (.l 2) 0)) (σ1:=(((St.mk 1 [(0,.cells (Q20 (growL (e.take j)) (e.map cEx).length))] ou).push (.cells (ti53.zero.map .lit))).set (.l 1) (.cells (cEx x))).push (.cells [int x.op,int x.n,.sl 1 (x.binds.map cI),.lit (.slice none 0 0),.lit (.slice none 0 0)]))
   tabOk 9 8 [(6,.one (.sl 1 (x.binds.map cI)))] follows (by kernel_rfl) rfl rfl rfl rfl rfl rfl rfl (HStep.auto tabOk rfl) ?_ ?_ ?_
  ·exact .call hΓ hcl hou (by simp) rfl rfl rfl rfl rfl rfl .nil
  ·exact .call hΓ hcl hou (by simp) rfl rfl rfl rfl rfl rfl .nil
  refine zA ?_
  refine ACode.grow 2 3 68 1 rfl rfl ?_
  refine ACode.loopR hΓ (α:=Nat) (fun i=>[(33,.one (int i)),(32,.one (int (x.kids.map cI).length)),(31,.one (.sl 1 (x.kids.map cI))),(6,.one (.ptr (.l 2) 0)),(5,.one (.ptr (.l 1) 0)),(4,.one (int j)),(16,.one (int j)),(15,.one (int (e.map cEx).length)),(14,.one (.sl 5 (e.map cEx))),(3,.one (.arr (.l 0) 1 0 (e.map cEx).length (e.map cEx).length)),(0,.one (.sl 5 (e.map cEx)))])
   (fun i=>⟨4,[(3,.tok 68 1 i),(2,.cells [int x.op,int x.n,.sl 1 (x.binds.map cI),.gs 1 ((kidsT (growL (e.take j)) (x.kids.take i)).map cB) (.l 3),.lit (.slice none 0 0)]),(1,.cells (cEx x)),(0,.cells (Q20 (growL (e.take j)) (e.map cEx).length))],ou⟩)
   (fun m i=>i<=x.kids.length/\m=x.kids.length - i) (a0:=0) (ρ:=id) ⟨by omega,rfl⟩ (LessR.of rfl zFS (by simp) ?_ rfl rfl hou) fun m i hi=>?_
  ·repeat' first|exact LoSub.nil|refine zlc ?_|refine zld ?_ ?_|rfl
   all_goals (simp[AObj.ren,renL,AC.ren,kidsT];rfl)
  obtain⟨hil,rfl⟩:=hi
  refine zA ?_
  refine ACode.cond rfl (fun hb3=>?_) (fun hb3=>?_)
  ·have hlt2:i < x.kids.length:=by simpa using hb3
   obtain⟨k,hk⟩:=Q01 hlt2
   have hkb:=hxin k (List.mem_of_getElem? hk)
   obtain⟨k',rfl⟩:∃k':Nat,k=k':=⟨k.toNat,by omega⟩
   obtain⟨tk,htk⟩:=Q01 (l:=growL (e.take j)) (i:=k') (by omega)
   have htd:(growL (e.take j)).getD (k':Int).toNat default=tk:=by rw[Int.toNat_natCast,List.getD_eq_getElem?_getD,htk];rfl
   have hks:=Qen (ts:=growL (e.take j)) hk
   rw[htd]at hks
   have hkl:((kidsT (growL (e.take j)) (x.kids.take i)).map cB).length=i:=by simp[kidsT];omega
   refine zA ?_
   refine zS (zIA rfl rfl rfl (by omega) (Q04 hk)) ?_
   refine zA ?_
   refine ACode.drawXH (va:=.one (.gs 1 ((kidsT (growL (e.take j)) (x.kids.take i)).map cB++[cB tk]) (.l 4))) (σ1:=((St.mk 4 [(3,.tok 68 1 i),(2,.cells [int x.op,int x.n,.sl 1 (x.binds.map cI),.gs 1 ((kidsT (growL (e.take j)) (x.kids.take i)).map cB) (.l 3),.lit (.slice none 0 0)]),(1,.cells (cEx x)),(0,.cells (Q20 (growL (e.take j)) (e.map cEx).length))] ou).set (.l 3) .dead).push (.tok 68 1 ((kidsT (growL (e.take j)) (x.kids.take i)).map cB++[cB tk]).length))
    tabOk 11 10 [(7,.one (.ptr (.l 0) k')),(8,.one (.box (cTr tk)))] follows (by kernel_rfl) rfl rfl rfl rfl rfl rfl rfl ?_ ?_ ?_ ?_
   ·refine HStep.plain rfl (AStep.append (s:=1) (es:=(kidsT (growL (e.take j)) (x.kids.take i)).map cB) (news:=[cB tk]) (ti:=ti101) (σ:=⟨4,[(3,.tok 68 1 i),(2,.cells [int x.op,int x.n,.sl 1 (x.binds.map cI),.gs 1 ((kidsT (growL (e.take j)) (x.kids.take i)).map cB) (.l 3),.lit (.slice none 0 0)]),(1,.cells (cEx x)),(0,.cells (Q20 (growL (e.take j)) (e.map cEx).length))],ou⟩) tabOk rfl rfl rfl rfl rfl rfl (Base.gs' _ 68 1 ((kidsT (growL (e.take j)) (x.kids.take i)).map cB) (.l 3) rfl hkl.symm) (.sl _ _) rfl ?_ ?_)
    ·rw[hkl];show (i+1) * 8<=_;omega
    ·rw[hkl];show i+1<=_;omega
   ·refine .step rfl (zHP (idxI tabOk rfl rfl rfl rfl rfl rfl rfl (by simp;omega))) ?_
    exact .step rfl (zHP (zLD rfl rfl rfl (Q5p htk))) .nil
   ·refine .step rfl (zHP (idxI tabOk rfl rfl rfl rfl rfl rfl rfl (by simp;omega))) ?_
    exact .step rfl (zHP (zLD rfl rfl rfl (Q5p htk))) .nil
   refine zM ?_
   refine cInv ⟨x.kids.length - (i+1),i+1,fun k=>if k=3 then 4 else k,by omega,⟨by omega,rfl⟩,LessR.of rfl zFS (by simp) ?_ rfl rfl hou⟩
   repeat' first|exact LoSub.nil|refine zlc ?_|refine zld ?_ ?_|rfl
   ·simp only[AObj.ren,List.length_append,hkl];rfl
   ·rw[hks];simp only[AObj.ren,renL,AC.ren,Q5n,Q96];rw[List.map_append];rfl
  have hlt2:i=x.kids.length:=by simp at hb3;omega
  subst hlt2
  rw[List.take_length]
  refine zA ?_
  refine ACode.grow 2 4 106 2 rfl rfl ?_
  refine ACode.loopR hΓ (α:=Nat) (fun i=>[(54,.one (int i)),(53,.one (int (x.alts.map cAlt).length)),(52,.one (.sl 2 (x.alts.map cAlt))),(6,.one (.ptr (.l 2) 0)),(4,.one (int j)),(16,.one (int j)),(15,.one (int (e.map cEx).length)),(14,.one (.sl 5 (e.map cEx))),(3,.one (.arr (.l 0) 1 0 (e.map cEx).length (e.map cEx).length)),(0,.one (.sl 5 (e.map cEx)))])
   (fun i=>⟨5,[(4,.tok 106 2 i),(2,.cells [int x.op,int x.n,.sl 1 (x.binds.map cI),.gs 1 ((kidsT (growL (e.take j)) x.kids).map cB) (.l 3),.gs 2 ((x.alts.take i).map cAlt) (.l 4)]),(0,.cells (Q20 (growL (e.take j)) (e.map cEx).length))],ou⟩)
   (fun m i=>i<=x.alts.length/\m=x.alts.length - i) (a0:=0) (ρ:=id) ⟨by omega,rfl⟩ (LessR.of rfl zFS (by simp) ?_ rfl rfl hou) fun m i hi=>?_
  ·repeat' first|exact LoSub.nil|refine zlc ?_|refine zld ?_ ?_|rfl
   all_goals (simp[AObj.ren,renL,AC.ren];exact⟨rfl,rfl⟩)
  obtain⟨hil,rfl⟩:=hi
  refine zA ?_
  refine ACode.cond rfl (fun hb3=>?_) (fun hb3=>?_)
  ·have hlt2:i < x.alts.length:=by simpa using hb3
   obtain⟨a,ha⟩:=Q01 hlt2
   have hal:((x.alts.take i).map cAlt).length=i:=by simp;omega
   have hca:=Q6u (Γ:=Γ) a.binds (hxo.ab a (List.mem_of_getElem? ha))
   refine zA ?_
   refine zS (zIA rfl rfl rfl (by omega) (Q04 ha)) ?_
   refine zA ?_
   refine ACode.drawXH (va:=.one (.gs 2 ((x.alts.take i).map cAlt++[cAlt a]) (.l 6))) (σ1:=((((St.mk 5 [(4,.tok 106 2 i),(2,.cells [int x.op,int x.n,.sl 1 (x.binds.map cI),.gs 1 ((kidsT (growL (e.take j)) x.kids).map cB) (.l 3),.gs 2 ((x.alts.take i).map cAlt) (.l 4)]),(0,.cells (Q20 (growL (e.take j)) (e.map cEx).length))] ou).push (.cells (ti106.zero.map .lit))).set (.l 5) (.cells (cAlt a))).set (.l 4) .dead).push (.tok 106 2 ((x.alts.take i).map cAlt++[cAlt a]).length))
    tabOk 13 12 [(9,.one (.sl 1 (a.binds.map cI)))] follows (by kernel_rfl) rfl rfl rfl rfl rfl rfl rfl ?_ ?_ ?_ ?_
   ·refine HStep.plain rfl (AStep.append (s:=2) (es:=(x.alts.take i).map cAlt) (news:=[cAlt a]) (ti:=ti51) (σ:=(((St.mk 5 [(4,.tok 106 2 i),(2,.cells [int x.op,int x.n,.sl 1 (x.binds.map cI),.gs 1 ((kidsT (growL (e.take j)) x.kids).map cB) (.l 3),.gs 2 ((x.alts.take i).map cAlt) (.l 4)]),(0,.cells (Q20 (growL (e.take j)) (e.map cEx).length))] ou).push (.cells (ti106.zero.map .lit))).set (.l 5) (.cells (cAlt a)))) tabOk rfl rfl rfl rfl rfl rfl (Base.gs' _ 106 2 ((x.alts.take i).map cAlt) (.l 4) rfl hal.symm) (.sl _ _) rfl ?_ ?_)
    ·rw[hal];show (i+1) * 32<=_;omega
    ·rw[hal];show i+1<=_;omega
   ·exact .call hΓ hca hou (by simp) rfl rfl rfl rfl rfl rfl .nil
   ·exact .call hΓ hca hou (by simp) rfl rfl rfl rfl rfl rfl .nil
   refine zM ?_
   refine cInv ⟨x.alts.length - (i+1),i+1,fun k=>if k=4 then 6 else k,by omega,⟨by omega,rfl⟩,LessR.of rfl zFS (by simp) ?_ rfl rfl hou⟩
   repeat' first|exact LoSub.nil|refine zlc ?_|refine zld ?_ ?_|rfl
   ·simp only[AObj.ren,List.length_append,hal];rfl
   ·rw[Q1o ha];simp only[AObj.ren,renL,AC.ren,Q5n,Q96,Q52];rw[List.map_append];rfl
  have hlt2:i=x.alts.length:=by simp at hb3;omega
  subst hlt2
  rw[List.take_length]
  refine zA ?_
  refine zS (idxI tabOk rfl rfl rfl rfl rfl rfl rfl (by simp;omega)) ?_
  refine AOps.freeze1 (.l 2) 76 rfl rfl ?_
  refine AOps.wk 76 rfl (y:=.one (.box (cTr (Q2g (growL (e.take j)) x)))) (.one (Wk.box ?_)) ?_
  ·rw[Qfv]
   exact .cons (.refl _) (.cons (.refl _) (.cons (.refl _) (.cons (.gsE (Q0b _).symm) (.cons (.gsE rfl) .nil))))
  refine AOps.storeOwn tabOk rfl rfl rfl rfl rfl rfl rfl rfl (by rw[Qej (by simp[hgl];omega)];simp;omega) ?_
  have hst:=Qeh (ts:=growL (e.take j)) (n:=(e.map cEx).length) (by simp[hgl];omega) (Q2g (growL (e.take j)) x)
  rw[hgl,←Q1u,←Q1o hx]at hst
  rw[hst]
  refine zM ?_
  exact cInv ⟨e.length - (j+1),j+1,id,by omega,⟨by omega,rfl⟩,LessR.of rfl zFS (by simp) zLO rfl rfl hou⟩
 ·have hlt:j=e.length:=by simp at hb2;omega
  subst hlt
  rw[List.take_length]
  obtain⟨N,hN⟩:∃N,e.length=N+1:=⟨e.length - 1,by have:=List.length_pos_iff.2 hne;omega⟩
  obtain⟨t,ht⟩:=Q01 (l:=growL e) (i:=N) (by rw[Q17];omega)
  have hgt:grow e=t:=by unfold grow;rw[hN,Nat.add_sub_cancel,List.getD_eq_getElem?_getD,ht];rfl
  refine zM ?_
  refine AOps.wk 82 rfl (y:=.one (int (N:Nat))) (.ofEq (by congr 3;simp;omega)) ?_
  refine zS (idxI tabOk rfl rfl rfl rfl rfl rfl rfl (by simp;omega)) ?_
  refine zS (zLD rfl rfl rfl (Q5p ht)) ?_
  refine zA ?_
  refine APure.fin rfl (WkF.ofEq ?_) (by simp) hou rfl
  rw[hgt]
end Go.Proofs.YtdpdlkgecmgokaaGreatDoor
namespace Go.CoreX
theorem Q4p(t:Tr):∀(l:List Tr)(out:List Ex),Q02 out (l++[t])=(listT (Q02 out l).1 t,(Q02 out l).2++[((listT (Q02 out l).1 t).length:Int) - 1])
 |[],out=>by simp[Q02]
 |a::l,out=>by
  have:=Q4p t l (listT out a)
  simp only[List.cons_append,Q02,this]
mutual
theorem Qi8:∀(t:Tr)(out:List Ex),out.length < (listT out t).length
 |.mk o n b k a,out=>by
  have:=Q30 k out
  simp only[listT,List.length_append,List.length_singleton];omega
theorem Q30:∀(l:List Tr)(out:List Ex),out.length<=(Q02 out l).1.length
 |[],out=>by simp[Q02]
 |t::l,out=>by
  have h1:=Qi8 t out
  have h2:=Q30 l (listT out t)
  simp only[Q02];omega
end
theorem Q31:∀(l r:List Tr)(out:List Ex),(Q02 out (l++r)).1=(Q02 (Q02 out l).1 r).1
 |[],r,out=>by simp[Q02]
 |a::l,r,out=>by simp only[List.cons_append,Q02,Q31 l r]
theorem Q38:∀(l:List Tr)(out:List Ex),(Q02 out l).2.length=l.length
 |[],out=>by simp[Q02]
 |a::l,out=>by simp[Q02,Q38 l]
-- The lists of a tree are not too long.
mutual
def okT:Tr->Prop
 |.mk _ _ b k a=>b.length<=1048576/\k.length<=1048576/\a.length<=1048576/\((∀x∈a,x.binds.length<=1048576)/\b.length+(a.flatMap (·.binds)).length<=4194304)/\okTs k
def okTs:List Tr->Prop
 |[]=>True
 |t::l=>okT t/\okTs l
end
theorem Q1p:∀{l:List Tr},okTs l↔∀t∈l,okT t
 |[]=>by simp[okTs]
 |t::l=>by simp[okTs,Q1p (l:=l)]
end Go.CoreX
namespace Go.Proofs.YtdpdlkgecmgokaaGreatDoor
open Go Go.Abs Go.CoreX
variable {Γ:List (Nat×List AC)}
abbrev fnW (kw ko:Nat):AC:=.fn (.func 56) [] [.ptr (.o kw) 0,.ptr (.o ko) 0]
def ouS (ou:Outer)(ko kt:Nat)(es:List (List AC)):Outer:=updO (updO ou ko (.cells [.gs 5 es (.o kt)])) kt (.tok 53 5 es.length)
theorem ouS_o{ou:Outer}{ko kt:Nat}(h:ko≠kt)(es:List (List AC)):ouS ou ko kt es ko=some (.cells [.gs 5 es (.o kt)]):=by
 unfold ouS;rw[Q0j _ (Ne.symm h),Q0a]
theorem ouS_t(ou:Outer)(ko kt:Nat)(es:List (List AC)):ouS ou ko kt es kt=some (.tok 53 5 es.length):=by unfold ouS;rw[Q0a]
theorem ouS_w{ou:Outer}{ko kt k:Nat}(h:k≠ko)(h2:k≠kt)(es:List (List AC)):ouS ou ko kt es k=ou k:=by
 unfold ouS;rw[Q0j _ (Ne.symm h2),Q0j _ (Ne.symm h)]
theorem Q4l{ou:Outer}{ko kt:Nat}{es:List (List AC)}(h:OuOk ou)(he:idsS isO es):OuOk (ouS ou ko kt es):=by
 intro k o hk
 unfold ouS at hk
 by_cases e:kt=k
 ·subst e;rw[Q0a]at hk;cases hk;trivial
 ·rw[Q0j _ e]at hk
  by_cases e2:ko=k
  ·subst e2;rw[Q0a]at hk;cases hk;exact⟨⟨trivial,he⟩,trivial⟩
  ·rw[Q0j _ e2]at hk;exact h k o hk
def ListOk (Γ:List (Nat×List AC))(t:Tr):Prop:=∀(ou:Outer)(kw ko kt:Nat)(out:List Ex),OuOk ou->ou kw=some (.cells [fnW kw ko])->ou ko=none->ou kt=none->ko≠kt->(listT out t).length<=1099511627776->
 AFn Tryz.prog Γ 56 [.one (.box (cTr t)),.one (.ptr (.o kw) 0),.one (.ptr (.o ko) 0)] (ouS ou ko kt (out.map cEx)) (fun r ou'=>r=.one (int (((listT out t).length:Int) - 1))/\∃kt',ou kt'=none/\ko≠kt'/\ou'=ouS ou ko kt' ((listT out t).map cEx))
set_option maxHeartbeats 1000000 in
theorem Qda(hΓ:∀g cs,(g,cs)∈Γ->idsL isO cs):∀t:Tr,okT t->ListOk Γ t
 |.mk o n b ks a,hok=>by
  obtain⟨hb,hk,ha,⟨hab,_⟩,hks⟩:=hok
  have ih:∀t∈ks,ListOk Γ t:=fun t ht=>Qda hΓ t (Q1p.1 hks t ht)
  intro ou kw ko kt out hou0 hw ho ht hne hsz
  have hwo:kw≠ko:=fun e=>by rw[e,ho]at hw;cases hw
  have hsz2:(Q02 out ks).1.length < 1099511627776:=by simp only[listT,List.length_append,List.length_singleton]at hsz;omega
  refine AFn.walk 70 tabOk Tryz.func56 rfl (by kernel_rfl) rfl rfl fun hou=>?_
  have hcl:=Q6u (Γ:=Γ) b hb
  refine zA ?_
  refine ACode.drawXA tabOk 15 14 [(12,.one (.sl 1 (b.map cI)))] follows (by kernel_rfl) rfl rfl rfl rfl rfl rfl rfl rfl rfl ?_ ?_ ?_
  ·exact .call hΓ hcl hou (by simp) rfl rfl rfl rfl rfl rfl .nil
  ·exact .call hΓ hcl hou (by simp) rfl rfl rfl rfl rfl rfl .nil
  refine zA ?_
  refine ACode.grow 0 3 3 1 rfl rfl ?_
  refine ACode.loopR hΓ (α:=Nat×Nat) (fun c=>[(29,.one (int c.1)),(28,.one (int (Q0l ks).length)),(27,.one (.sl 1 (Q0l ks))),(5,.one (.ptr (.l 0) 0)),(2,.one (.ptr (.o ko) 0)),(1,.one (.ptr (.o kw) 0)),(0,.one (.box (cTr (.mk o n b ks a))))])
   (fun c=>⟨2,[(1,.tok 3 1 c.1),(0,.cells [int o,int n,.sl 1 (b.map cI),.gs 1 ((Q02 out (ks.take c.1)).2.map cI) (.l 1),.lit (.slice none 0 0)])],ouS ou ko c.2 ((Q02 out (ks.take c.1)).1.map cEx)⟩)
   (fun m c=>c.1<=ks.length/\(ou c.2=none/\ko≠c.2)/\m=ks.length - c.1) (a0:=(0,kt)) (ρ:=id) ⟨by omega,⟨ht,hne⟩,rfl⟩ (LessR.of rfl zFS (by simp) ?_ rfl (by simp[Q02];rfl) hou) fun m c hi=>?_
  ·repeat' first|exact LoSub.nil|refine zlc ?_|refine zld ?_ ?_|rfl
   all_goals (simp[AObj.ren,renL,AC.ren,Q02];rfl)
  obtain⟨i,kt⟩:=c
  obtain⟨hil,⟨ht,hne⟩,rfl⟩:=hi
  simp only at hil ht hne
  have hwt:kw≠kt:=fun e=>by rw[e,ht]at hw;cases hw
  have hle:(Q02 out (ks.take i)).1.length<=(Q02 out ks).1.length:=by
   have:=Q31 (ks.take i) (ks.drop i) out
   rw[List.take_append_drop]at this
   rw[this];exact Q30 _ _
  refine zA ?_
  refine ACode.cond rfl (fun hb3=>?_) (fun hb3=>?_)
  ·have hlt2:i < ks.length:=by simpa using hb3
   obtain⟨t,ht2⟩:=Q01 hlt2
   have hsn:=Q4p t (ks.take i) out
   rw[←Q1o ht2]at hsn
   have hle2:(listT (Q02 out (ks.take i)).1 t).length<=1099511627776:=by
    have:=Q31 (ks.take (i+1)) (ks.drop (i+1)) out
    rw[List.take_append_drop]at this
    have h2:=Q30 (ks.drop (i+1)) (Q02 out (ks.take (i+1))).1
    rw[←this,hsn]at h2
    simp only at h2
    omega
   have hcall:=ih t (List.mem_of_getElem? ht2) ou kw ko kt (Q02 out (ks.take i)).1 hou0 hw ho ht hne hle2
   have hil2:((Q02 out (ks.take i)).2.map cI).length=i:=by rw[List.length_map,Q38];simp;omega
   refine zA ?_
   refine zS (zIA rfl rfl rfl (by omega) (Q0n ht2)) ?_
   refine zA ?_
   refine ACode.drawXR (va:=.one (int (((listT (Q02 out (ks.take i)).1 t).length:Int) - 1))) tabOk 6 4 [(2,.one (fnW kw ko))]
    (fun σ=>∃kt',ou kt'=none/\ko≠kt'/\σ=⟨2,[(1,.tok 3 1 i),(0,.cells [int o,int n,.sl 1 (b.map cI),.gs 1 ((Q02 out (ks.take i)).2.map cI) (.l 1),.lit (.slice none 0 0)])],ouS ou ko kt' ((listT (Q02 out (ks.take i)).1 t).map cEx)⟩)
    follows (by kernel_rfl) rfl rfl rfl rfl rfl ?_ rfl ⟨rfl,rfl⟩ rfl ?_ ?_ ?_ ?_
   ·rintro σ ⟨kt',h1,h2,rfl⟩;rfl
   ·refine Q0m.call hΓ rfl rfl rfl rfl (by simp) (Q4l hou0 (by simp)) hcall fun r ou' hq _ _=>?_
    obtain⟨rfl,kt',h1,h2,rfl⟩:=hq
    exact⟨rfl,kt',h1,h2,rfl⟩
   ·exact .step rfl (zHP (zLD rfl rfl (ouS_w hwo hwt _ |>.trans hw) rfl)) .nil
   ·rintro σ ⟨kt',h1,h2,rfl⟩
    have hwt':kw≠kt':=fun e=>by rw[e,h1]at hw;cases hw
    exact .step rfl (zHP (zLD rfl rfl (ouS_w hwo hwt' _ |>.trans hw) rfl)) .nil
   rintro σ ⟨kt',h1,h2,rfl⟩
   refine zA ?_
   refine AOps.app tabOk rfl rfl rfl rfl rfl rfl rfl rfl rfl (Base.gs' _ _ _ _ _ (by rfl) hil2.symm) (.sl _ _) rfl ?_ ?_ ?_
   ·rw[hil2];show (i+1) * 8<=_;omega
   ·rw[hil2];show i+1<=_;omega
   refine zM ?_
   refine cInv ⟨ks.length - (i+1),(i+1,kt'),fun k=>if k=1 then 2 else k,by omega,⟨by omega,⟨h1,h2⟩,rfl⟩,LessR.of rfl zFS (by simp) ?_ rfl (by simp only[hsn];rfl) (Q4l hou0 (by simp))⟩
   repeat' first|exact LoSub.nil|refine zlc ?_|refine zld ?_ ?_|rfl
   ·simp only[AObj.ren,List.length_append,hil2];rfl
   ·simp only[hsn];simp only[AObj.ren,renL,AC.ren,Q5n];rw[List.map_append];rfl
  have hlt2:i=ks.length:=by simp at hb3;omega
  subst hlt2
  rw[List.take_length]at *
  refine zA ?_
  refine ACode.grow 0 4 106 2 rfl rfl ?_
  refine ACode.loopR hΓ (α:=Nat) (fun i=>[(47,.one (int i)),(46,.one (int (a.map cAlt).length)),(45,.one (.sl 2 (a.map cAlt))),(5,.one (.ptr (.l 0) 0)),(2,.one (.ptr (.o ko) 0)),(1,.one (.ptr (.o kw) 0)),(0,.one (.box (cTr (.mk o n b ks a))))])
   (fun i=>⟨3,[(2,.tok 106 2 i),(0,.cells [int o,int n,.sl 1 (b.map cI),.gs 1 ((Q02 out ks).2.map cI) (.l 1),.gs 2 ((a.take i).map cAlt) (.l 2)])],ouS ou ko kt ((Q02 out ks).1.map cEx)⟩)
   (fun m i=>i<=a.length/\m=a.length - i) (a0:=0) (ρ:=id) ⟨by omega,rfl⟩ (LessR.of rfl zFS (by simp) ?_ rfl rfl (Q4l hou0 (by simp))) fun m i hi=>?_
  ·repeat' first|exact LoSub.nil|refine zlc ?_|refine zld ?_ ?_|rfl
   all_goals (simp[AObj.ren,renL,AC.ren];exact⟨rfl,rfl⟩)
  obtain⟨hil,rfl⟩:=hi
  have hou2:OuOk (ouS ou ko kt ((Q02 out ks).1.map cEx)):=Q4l hou0 (by simp)
  refine zA ?_
  refine ACode.cond rfl (fun hb3=>?_) (fun hb3=>?_)
  ·have hlt2:i < a.length:=by simpa using hb3
   obtain⟨c,hc⟩:=Q01 hlt2
   have hal:((a.take i).map cAlt).length=i:=by simp;omega
   have hca:=Q6u (Γ:=Γ) c.binds (hab c (List.mem_of_getElem? hc))
   refine zA ?_
   refine zS (zIA rfl rfl rfl (by omega) (Q04 hc)) ?_
   refine zA ?_
   refine ACode.drawX tabOk 9 [(6,.one (.sl 1 (c.binds.map cI)))] follows (by kernel_rfl) rfl rfl rfl rfl (.call hΓ hca hou2 (by simp) rfl rfl rfl rfl rfl rfl .nil) ?_
   refine zA ?_
   refine AOps.app tabOk rfl rfl rfl rfl rfl rfl rfl rfl rfl (Base.gs' _ _ _ _ _ (by rfl) hal.symm) (.sl _ _) rfl ?_ ?_ ?_
   ·rw[hal];show (i+1) * 32<=_;omega
   ·rw[hal];show i+1<=_;omega
   refine zM ?_
   refine cInv ⟨a.length - (i+1),i+1,fun k=>if k=2 then 4 else k,by omega,⟨by omega,rfl⟩,LessR.of rfl zFS (by simp) ?_ rfl rfl hou2⟩
   repeat' first|exact LoSub.nil|refine zlc ?_|refine zld ?_ ?_|rfl
   ·simp only[AObj.ren,List.length_append,hal];rfl
   ·rw[Q1o hc];simp only[AObj.ren,renL,AC.ren,Q5n,Q52];rw[List.map_append];rfl
  have hlt2:i=a.length:=by simp at hb3;omega
  subst hlt2
  rw[List.take_length]
  refine zA ?_
  refine zS (zLD rfl rfl (ouS_o hne _) rfl) ?_
  (first|((with_reducible refine oj ?_);refine zau ?_)|(with_reducible refine zst ?_)|((with_reducible refine Q0g ?_ ?_);rfl)|(with_reducible refine ok ?_;first|refine ACode.condT rfl ?_|refine ACode.condF rfl ?_))
  refine AOps.wk 64 rfl (y:=.agg (cEx ⟨o,n,b,(Q02 out ks).2,a⟩)) (WkF.agg ?_) ?_
  ·exact .cons (.refl _) (.cons (.refl _) (.cons (.refl _) (.cons (.gsE rfl) (.cons (.gsE rfl) .nil))))
  refine zA ?_
  have hT:listT out (.mk o n b ks a)=(Q02 out ks).1++[⟨o,n,b,(Q02 out ks).2,a⟩]:=by simp only[listT]
  have hmap:(Q02 out ks).1.map cEx++[cEx ⟨o,n,b,(Q02 out ks).2,a⟩]=(listT out (.mk o n b ks a)).map cEx:=by rw[hT,List.map_append];rfl
  refine AOps.app (es:=(Q02 out ks).1.map cEx) tabOk rfl rfl rfl rfl rfl rfl rfl rfl rfl (Base.gs' _ 53 5 _ (.o kt) (ouS_t ou ko kt _) rfl) (.sl 5 [cEx ⟨o,n,b,(Q02 out ks).2,a⟩]) rfl ?_ ?_ ?_
  ·simp;show (_+1) * 88<=_;omega
  ·simp;omega
  rw[hmap]
  refine AOps.storeOwn (cs:=[.gs 5 ((Q02 out ks).1.map cEx) (.o kt)]) tabOk rfl rfl rfl rfl rfl rfl rfl (show (bif Nat.beq ko kt then some AObj.dead else ouS ou ko kt ((Q02 out ks).1.map cEx) ko)=_ by rw[Q05 hne];exact ouS_o hne _) (by simp) ?_
  refine AOps.cede 3 (show 3 < 4 by omega) fun k hk=>⟨[(2,.one (.ptr (.o ko) 0))],⟨4,[],ouS ou ko k ((listT out (.mk o n b ks a)).map cEx)⟩,⟨fun d x hd=>?_,rfl,fun i x hx=>?_⟩,?_⟩
  ·by_cases e:2=d
   ·subst e
    simp[Fr.get]at hd;subst hd
    exact⟨_,rfl,WkF.ofEq rfl⟩
   ·simp[Fr.get,Q05 e]at hd
  ·have hk':(bif Nat.beq k ko then some (AObj.cells [.gs 5 ((listT out (.mk o n b ks a)).map cEx) (.l 3)])else bif Nat.beq k kt then some AObj.dead else ouS ou ko kt ((Q02 out ks).1.map cEx) k)=none:=hk
   have k1:k≠ko:=fun e=>by subst e;simp at hk'
   rw[Q05 k1]at hk'
   have k2:k≠kt:=fun e=>by subst e;simp at hk'
   rw[Q05 k2]at hk'
   simp only[cond_false,ouS_w k1 k2]at hk'
   cases i with
   |l m=>cases hx
   |o m=>
    have hx':ouS ou ko k ((listT out (.mk o n b ks a)).map cEx) m=some x:=hx
    by_cases e:m=k
    ·subst e
     rw[ouS_t]at hx';cases hx'
     exact⟨.l 3,_,rfl,rfl,rfl⟩
    ·by_cases e2:m=ko
     ·subst e2
      rw[ouS_o e]at hx';cases hx'
      refine⟨.o m,.cells [.gs 5 ((listT out (.mk o n b ks a)).map cEx) (.l 3)],?_,rfl,?_⟩
      ·show (bif Nat.beq m m then _ else _)=_;rw[Q2w];rfl
      ·simp only[AObj.sub,subL,AC.sub];rw[Qa7 _ (by simp)];rfl
     ·rw[ouS_w e2 e]at hx'
      have e3:m≠kt:=fun e=>by rw[e,ht]at hx';cases hx'
      refine⟨.o m,x,?_,rfl,(AObj.sub_o x (hou0 m x hx')).symm⟩
      show (bif Nat.beq m ko then _ else bif Nat.beq m kt then _ else ouS ou ko kt _ m)=_
      rw[Q05 e2,Q05 e3]
      exact (ouS_w e2 e3 _).trans hx'
  ·have hk':(bif Nat.beq k ko then some (AObj.cells [.gs 5 ((listT out (.mk o n b ks a)).map cEx) (.l 3)])else bif Nat.beq k kt then some AObj.dead else ouS ou ko kt ((Q02 out ks).1.map cEx) k)=none:=hk
   have k1:k≠ko:=fun e=>by subst e;simp at hk'
   rw[Q05 k1]at hk'
   have k2:k≠kt:=fun e=>by subst e;simp at hk'
   rw[Q05 k2]at hk'
   simp only[cond_false,ouS_w k1 k2]at hk'
   refine zA ?_
   refine zS (zLD rfl rfl (ouS_o (Ne.symm k1) _) rfl) ?_
   refine zM ?_
   refine AFn.fin' rfl (WkF.ofEq ?_) (by simp) (Q4l hou0 (by simp)) ⟨rfl,k,hk',Ne.symm k1,rfl⟩
   simp
end Go.Proofs.YtdpdlkgecmgokaaGreatDoor
namespace Go.Abs
inductive CedFr (θ:Id->Id)(fr:Fr):Fr->Prop
 |nil:CedFr θ fr []
 |cons {k:Nat}{x y:FV}{r:Fr}(h:Fr.get k fr=some y) (hw:y.sub θ=x) (hr:CedFr θ fr r):CedFr θ fr ((k,x)::r)
theorem CedFr.get{θ:Id->Id}{fr fr':Fr}(h:CedFr θ fr fr'):∀d x,Fr.get d fr'=some x->∃y,Fr.get d fr=some y/\WkF (y.sub θ) x:=by
 induction h with
 |nil=>intro d x h;cases h
 |@cons k x y r h hw hr ih=>
  intro d z hz
  simp only[Fr.get]at hz
  by_cases e:k=d
  ·subst e;simp at hz;subst hz;exact⟨y,h,WkF.ofEq hw⟩
  ·rw[Q05 e]at hz;exact ih d z hz
end Go.Abs
namespace Go.Proofs.YtdpdlkgecmgokaaGreatDoor
open Go Go.Abs Go.CoreX
variable {Γ:List (Nat×List AC)}
theorem Qe5(hΓ:∀g cs,(g,cs)∈Γ->idsL isO cs)(t:Tr)(ht:okT t)(hsz:(listT [] t).length<=1099511627776):APure Tryz.prog Γ 37 [.one (.box (cTr t))] (.one (.sl 5 ((listT [] t).map cEx))):=by
 intro ou
 refine AFn.walk 10 tabOk Tryz.func37 rfl (by kernel_rfl) rfl rfl fun hou=>?_
 iterate 22 (first|((with_reducible refine oj ?_);refine zau ?_)|(with_reducible refine zst ?_)|((with_reducible refine Q0g ?_ ?_);rfl)|(with_reducible refine ok ?_;first|refine ACode.condT rfl ?_|refine ACode.condF rfl ?_))
 refine ACode.grow 0 0 53 5 rfl rfl ?_
 refine zA ?_
 refine AOps.cede 0 (show 0 < 3 by omega) fun ko hko=>⟨[(7,.one (.box (cTr t))),(6,.one (.fn (.func 56) [] [.ptr (.l 1) 0,.ptr (.o ko) 0])),(3,.one (.ptr (.o ko) 0))],
  ⟨3, [(2, .tok 53 5 0), (1, .cells [.fn (.func 56) [] [.ptr (.l 1) 0, .ptr (.o ko) 0]])], updO ou ko (.cells [.gs 5 [] (.l 2)])⟩, ⟨CedFr.get ?_, rfl, fun i x hx => ?_⟩, ?_⟩
 ·exact .cons rfl (FV.sub_o _ (by simp)) (.cons rfl rfl (.cons rfl rfl .nil))
 ·have hko:ou ko=none:=hko
  cases i with
  |l m=>
   by_cases e:2=m
   ·subst e;cases hx;exact⟨.l 2,_,rfl,rfl,rfl⟩
   ·have hx':lookL m [(1,AObj.cells [.fn (.func 56) [] [.ptr (.l 1) 0,.ptr (.o ko) 0]])]=some x:=by simpa[St.get,lookL,Q05 e]using hx
    by_cases e1:1=m
    ·subst e1;cases hx';exact⟨.l 1,_,rfl,rfl,rfl⟩
    ·simp[lookL,Q05 e1]at hx'
  |o m=>
   have hx':updO ou ko (.cells [.gs 5 [] (.l 2)]) m=some x:=hx
   by_cases e:ko=m
   ·subst e;rw[Q0a]at hx';cases hx';exact⟨.l 0,_,rfl,rfl,rfl⟩
   ·rw[Q0j _ e]at hx'
    exact⟨.o m,x,hx',rfl,(AObj.sub_o x (hou m x hx')).symm⟩
 have hko:ou ko=none:=hko
 refine AOps.cede 1 (show 1 < 3 by omega) fun kw hkw=>⟨[(7,.one (.box (cTr t))),(6,.one (fnW kw ko)),(3,.one (.ptr (.o ko) 0))],
  ⟨3, [(2, .tok 53 5 0)], updO (updO ou ko (.cells [.gs 5 [] (.l 2)])) kw (.cells [fnW kw ko])⟩, ⟨CedFr.get ?_, rfl, fun i x hx => ?_⟩, ?_⟩
 ·exact .cons rfl (FV.sub_o _ (by simp)) (.cons rfl rfl (.cons rfl rfl .nil))
 ·have hkw:updO ou ko (.cells [.gs 5 [] (.l 2)]) kw=none:=hkw
  cases i with
  |l m=>
   by_cases e:2=m
   ·subst e;cases hx;exact⟨.l 2,_,rfl,rfl,rfl⟩
   ·simp[St.get,lookL,Q05 e]at hx
  |o m=>
   have hx':updO (updO ou ko (.cells [.gs 5 [] (.l 2)])) kw (.cells [fnW kw ko]) m=some x:=hx
   by_cases e:kw=m
   ·subst e;rw[Q0a]at hx';cases hx';exact⟨.l 1,_,rfl,rfl,rfl⟩
   ·rw[Q0j _ e]at hx'
    by_cases e2:ko=m
    ·subst e2;rw[Q0a]at hx';cases hx'
     exact⟨.o ko,_,Q0a _ _ _,rfl,rfl⟩
    ·have hx2:=hx'
     rw[Q0j _ e2]at hx2
     exact⟨.o m,x,hx',rfl,(AObj.sub_o x (hou m x hx2)).symm⟩
 have hkw:updO ou ko (.cells [.gs 5 [] (.l 2)]) kw=none:=hkw
 have hwo:ko≠kw:=fun e=>by subst e;rw[Q0a]at hkw;cases hkw
 rw[Q0j _ hwo]at hkw
 refine AOps.cede 2 (show 2 < 3 by omega) fun kt hkt=>⟨[(7,.one (.box (cTr t))),(6,.one (fnW kw ko)),(3,.one (.ptr (.o ko) 0))],
  ⟨3, [], ouS (updO ou kw (.cells [fnW kw ko])) ko kt (([] : List Ex).map cEx)⟩, ⟨CedFr.get ?_, rfl, fun i x hx => ?_⟩, ?_⟩
 ·exact .cons rfl (FV.sub_o _ (by simp)) (.cons rfl rfl (.cons rfl rfl .nil))
 ·have hkt:updO (updO ou ko (.cells [.gs 5 [] (.l 2)])) kw (.cells [fnW kw ko]) kt=none:=hkt
  have hkto:ko≠kt:=fun e=>by subst e;rw[Q0j _ (Ne.symm hwo),Q0a]at hkt;cases hkt
  cases i with
  |l m=>cases hx
  |o m=>
   have hx':ouS (updO ou kw (.cells [fnW kw ko])) ko kt (([]:List Ex).map cEx) m=some x:=hx
   by_cases e:m=kt
   ·subst e;rw[ouS_t]at hx';cases hx';exact⟨.l 2,_,rfl,rfl,rfl⟩
   ·by_cases e2:m=ko
    ·subst e2;rw[ouS_o hkto]at hx';cases hx'
     refine⟨.o m,.cells [.gs 5 [] (.l 2)],?_,rfl,rfl⟩
     show updO (updO ou m (.cells [.gs 5 [] (.l 2)])) kw (.cells [fnW kw m]) m=_
     rw[Q0j _ (Ne.symm hwo),Q0a]
    ·rw[ouS_w e2 e]at hx'
     by_cases e3:kw=m
     ·subst e3;rw[Q0a]at hx';cases hx'
      exact⟨.o kw,_,Q0a _ _ _,rfl,rfl⟩
     ·rw[Q0j _ e3]at hx'
      refine⟨.o m,x,?_,rfl,(AObj.sub_o x (hou m x hx')).symm⟩
      show updO (updO ou ko (.cells [.gs 5 [] (.l 2)])) kw (.cells [fnW kw ko]) m=_
      rw[Q0j _ e3,Q0j _ (Ne.symm e2)];exact hx'
 have hkt:updO (updO ou ko (.cells [.gs 5 [] (.l 2)])) kw (.cells [fnW kw ko]) kt=none:=hkt
 have hwt:kw≠kt:=fun e=>by subst e;rw[Q0a]at hkt;cases hkt
 rw[Q0j _ hwt]at hkt
 have hot:ko≠kt:=fun e=>by subst e;rw[Q0a]at hkt;cases hkt
 rw[Q0j _ hot]at hkt
 have hob:OuOk (updO ou kw (.cells [fnW kw ko])):=fun k o hk=>by
  by_cases e:kw=k
  ·subst e;rw[Q0a]at hk;cases hk;simp
  ·rw[Q0j _ e]at hk;exact hou k o hk
 have hcall:=Qda hΓ t ht (updO ou kw (.cells [fnW kw ko])) kw ko kt [] hob (Q0a _ _ _) (by rw[Q0j _ (Ne.symm hwo)];exact hko) (by rw[Q0j _ hwt];exact hkt) hot hsz
 refine AOps.call1 hΓ rfl rfl rfl rfl rfl rfl rfl (by simp) (Q4l hob (by simp)) hcall fun r ou' hq hids hou'=>?_
 obtain⟨rfl,kt',h1,h2,rfl⟩:=hq
 refine zA ?_
 refine zS (zLD rfl rfl (ouS_o h2 _) rfl) ?_
 refine AOps.wk 9 rfl (y:=.one (.sl 5 ((listT [] t).map cEx))) (.one (.gsE rfl)) ?_
 refine AOps.lessO ⟨3,[],ou⟩ rfl (fun i o ho=>?_) ?_
 ·cases i with
  |l m=>cases ho
  |o m=>
   have ho':ou m=some o:=ho
   show ouS (updO ou kw (.cells [fnW kw ko])) ko kt' _ m=some o
   have e1:m≠ko:=fun e=>by rw[e,hko]at ho';cases ho'
   have e2:kw≠m:=fun e=>by rw[←e,hkw]at ho';cases ho'
   have e3:m≠kt':=fun e=>by
    rw[←e,Q0j _ e2]at h1
    rw[h1]at ho';cases ho'
   rw[ouS_w e1 e3,Q0j _ e2];exact ho'
 refine zA ?_
 exact APure.fin rfl (WkF.ofEq rfl) (by simp) hou rfl
end Go.Proofs.YtdpdlkgecmgokaaGreatDoor
namespace Go.CoreX
def addB (β:Int->Int)(l:List Int):Int->Int:=fun k=>β k+l.count k
-- What occurs freely, by how often each is bound around.
mutual
def occB (β:Int->Int):Tr->List Int
 |.mk o n b k a=>(if o=0/\β n=0 then [n]else [])++occBs β o b a 0 k
def occBs (β:Int->Int)(o:Int)(b:List Int)(a:List Alt):Nat->List Tr->List Int
 |_,[]=>[]
 |i,t::ts=>occB (addB β (Q2c o b a i)) t++occBs β o b a (i+1) ts
end
theorem Q8b(β:Int->Int)(o:Int)(b:List Int)(a:List Alt)(t:Tr):∀(l:List Tr)(i:Nat),occBs β o b a i (l++[t])=occBs β o b a i l++occB (addB β (Q2c o b a (i+l.length:Nat))) t
 |[],i=>by simp[occBs]
 |x::l,i=>by
  simp only[List.cons_append,occBs,Q8b β o b a t l (i+1),List.append_assoc,List.length_cons]
  rw[show i+1+l.length=i+(l.length+1) by omega]
theorem mx_le(m:Int):∀l:List Int,m<=l.foldl mx m
 |[]=>by simp
 |d::l=>by
  have:=mx_le (mx m d) l
  have:m<=mx m d:=by unfold mx;split <;> omega
  simp only[List.foldl_cons];omega
theorem mx_mem:∀(l:List Int)(m d:Int),d∈l->d<=l.foldl mx m
 |x::l,m,d,h=>by
  simp only[List.foldl_cons]
  rcases List.mem_cons.1 h with rfl|h
  ·have h1:=mx_le (mx m d) l
   have:d<=mx m d:=by unfold mx;split <;> omega
   omega
  ·exact mx_mem l _ d h
theorem Q7n{o n:Int}{b:List Int}{ks:List Tr}{a:List Alt}{t:Tr}(h:t∈ks):Q1m t+1<=Q1m (.mk o n b ks a):=by
 simp only[Q1m,Q63]
 have:=mx_mem (ks.map Q1m) 0 (Q1m t) (List.mem_map_of_mem h)
 omega
theorem Qb1:∀t:Tr,1<=Q1m t
 |.mk o n b ks a=>by
  simp only[Q1m]
  have:=mx_le 0 (Q7o ks)
  omega
end Go.CoreX
namespace Go.Proofs.YtdpdlkgecmgokaaGreatDoor
open Go Go.Abs Go.CoreX
variable {Γ:List (Nat×List AC)}
def BIs (β:Int->Int)(ck:Nat)(l:List (Nat×Int×Int)):Prop:=∃f,IMOk f ck l/\∀k,(f k).getD 0=β k
theorem BIs.put{β:Int->Int}{f:Int->Option Int}(hf:∀k,(f k).getD 0=β k)(n v:Int):∀k,(setF f n v k).getD 0=if n=k then v else β k:=fun k=>by
 unfold setF
 by_cases e:n=k
 ·rw[if_pos e,if_pos e];rfl
 ·rw[if_neg e,if_neg e];exact hf k
def ouB (cb:Nat)(lb:List (Nat×Int×Int))(co:Nat)(lo:List (Nat×Int×Unit)):Outer:=ouOf [.map cb (encI eN lb),.map co (encI eU lo)]
theorem Q77(cb:Nat)(lb:List (Nat×Int×Int))(co:Nat)(lo:List (Nat×Int×Unit)):OuOk (ouB cb lb co lo):=by
 intro k o h
 match k,h with
 |0,h=>cases h;exact Q9h _ _ _
 |1,h=>cases h;exact Qdj _ _ _
 |k+2,h=>cases h
theorem Q6k(cb cb':Nat)(lb lb':List (Nat×Int×Int))(co:Nat)(lo:List (Nat×Int×Unit)):(fun j=>bif Nat.beq j 0 then some (AObj.map cb' (encI eN lb'))else ouB cb lb co lo j)=ouB cb' lb' co lo:=by
 funext j
 match j with
 |0=>rfl
 |1=>rfl
 |k+2=>rfl
theorem Qd1(cb:Nat)(lb:List (Nat×Int×Int))(co co':Nat)(lo lo':List (Nat×Int×Unit)):(fun j=>bif Nat.beq j 1 then some (AObj.map co' (encI eU lo'))else ouB cb lb co lo j)=ouB cb lb co' lo':=by
 funext j
 match j with
 |0=>rfl
 |1=>rfl
 |k+2=>rfl
def FreeOk (Γ:List (Nat×List AC))(t:Tr):Prop:=∀(β:Int->Int)(m:Int)(cb:Nat)(lb:List (Nat×Int×Int))(co:Nat)(lo:List (Nat×Int×Unit))(S:List Int),(∀k,0<=β k/\β k<=m)->m+Q1m t * 1048576<=4611686018427387904->BIs β cb lb->SetIs S co lo->
 AFn Tryz.prog Γ 66 [.one (.box (cTr t)),.one (.mp (.o 0)),.one (.mp (.o 1))] (ouB cb lb co lo) (fun r ou'=>r=.tup []/\∃cb' lb' co' lo',ou'=ouB cb' lb' co' lo'/\BIs β cb' lb'/\SetIs (S++occB β t) co' lo')
theorem Qev{o:Int}{b:List Int}{a:List Alt}{k:Int}(hb:b.length<=1048576)(ha:∀x∈a,x.binds.length<=1048576):(Q2c o b a k).length<=1048576:=by
 unfold Q2c
 split
 ·exact hb
 ·split
  ·rename_i h1 h2
   obtain⟨x,hx⟩:=Q01 (l:=a) (i:=(k - 1).toNat) (by omega)
   rw[List.getD_eq_getElem?_getD,hx]
   exact ha x (List.mem_of_getElem? hx)
  ·simp
theorem Qha{β:Int->Int}{l:List Int}{j:Nat}{n:Int}(h:l[j]?=some n)(k:Int):addB β (l.take (j+1)) k=if n=k then addB β (l.take j) n+1 else addB β (l.take j) k:=by
 unfold addB
 rw[Q1o h,List.count_append]
 by_cases e:n=k
 ·subst e;simp;omega
 ·rw[if_neg e]
  have:[n].count k=0:=by simp[List.count_cons,e]
  omega
theorem Qhb{β:Int->Int}{l:List Int}{j:Nat}{n:Int}(h:l[j]?=some n)(k:Int):addB β (l.drop (j+1)) k=if n=k then addB β (l.drop j) n - 1 else addB β (l.drop j) k:=by
 have hd:l.drop j=n::l.drop (j+1):=by
  obtain⟨h1,h2⟩:=List.getElem?_eq_some_iff.1 h
  rw[List.drop_eq_getElem_cons h1,h2]
 unfold addB
 rw[hd,List.count_cons,List.count_cons]
 by_cases e:n=k
 ·subst e;simp;omega
 ·rw[if_neg e]
  have:(n==k)=false:=by simpa using e
  rw[this];simp
theorem Qch{β:Int->Int}{l:List Int}{m:Int}(h:∀k,0<=β k/\β k<=m)(hl:l.length<=1048576)(k:Int):0<=addB β l k/\addB β l k<=m+1048576:=by
 have h1:=h k
 have h2:=List.count_le_length (a:=k) (l:=l)
 unfold addB;omega
set_option maxHeartbeats 1000000 in
theorem Qgp(hΓ:∀g cs,(g,cs)∈Γ->idsL isO cs):∀t:Tr,okT t->FreeOk Γ t
 |.mk o n b ks a,hok=>by
  obtain⟨hb,hk,ha,⟨hab,_⟩,hks⟩:=hok
  have ih:∀t∈ks,FreeOk Γ t:=fun t ht=>Qgp hΓ t (Q1p.1 hks t ht)
  intro β m cb lb co lo S hβ hd ⟨f,hf,hfb⟩ ⟨g,hg,hgs⟩
  refine AFn.walk 73 tabOk Tryz.func66 rfl (by kernel_rfl) rfl rfl fun hou=>?_
  iterate 1 (first|((with_reducible refine oj ?_);refine zau ?_)|(with_reducible refine zst ?_)|((with_reducible refine Q0g ?_ ?_);rfl)|(with_reducible refine ok ?_;first|refine ACode.condT rfl ?_|refine ACode.condF rfl ?_))
  refine ACode.cutR hΓ (α:=Nat×List (Nat×Int×Unit)) (fun _=>[(2,.one (.mp (.o 1))),(1,.one (.mp (.o 0))),(0,.one (.box (cTr (.mk o n b ks a))))])
   (fun c => ⟨0, [], ouB cb lb c.1 c.2⟩) (fun c => SetIs (S ++ if o = 0 /\ β n = 0 then [n] else []) c.1 c.2) ?_ fun c hc => ?_
  ·by_cases ho:o=0
   ·subst ho
    repeat' first|refine zN ?_|(with_reducible refine oj ?_;refine AOps.splitS rfl rfl rfl rfl (fun hb=>?_) (fun hb=>?_))|(with_reducible refine ok ?_;first|refine ACode.condS rfl (fun hb=>?_) (fun hb=>?_)|refine ACode.cond rfl (fun hb=>?_) (fun hb=>?_))
    all_goals first
     |(exfalso;simp at hb;done)
     |skip
    refine zS (AStep.lookI eN (cm:=false) (v:=.one (int (β n))) rfl Tryz.underlying116 Tryz.underlying3 rfl rfl rfl (by kernel_rfl) zeroN hf (by simp only[Tr.n_mk];rw[←hfb n];cases f n <;> rfl)) ?_
    refine zA ?_
    refine ACode.cond rfl (fun hb=>?_) (fun hb=>?_)
    ·have h0:β n=0:=by simpa using hb
     refine zA ?_
     refine zS (AStep.buildU rfl Tryz.underlying119 (by kernel_rfl)) ?_
     refine AOps.putI eU (v:=()) rfl rfl rfl Tryz.underlying118 Tryz.underlying3 rfl rfl rfl rfl hg fun ck' l' hf'=>?_
     refine zA ?_
     exact cInv ⟨(ck',l'),id,⟨_,hf',by rw[if_pos ⟨rfl,h0⟩];exact Qbq hgs n⟩,LessR.of rfl zFS (by simp) .nil rfl (Qd1 cb lb co ck' lo l').symm (by rw[show (St.set ⟨0,[],ouB cb lb co lo⟩ (.o 1) (.map ck' (encI eU l'))).ou=ouB cb lb ck' l' from Qd1 cb lb co ck' lo l'];exact Q77 _ _ _ _)⟩
    ·have h0:¬β n=0:=by simpa using hb
     refine zA ?_
     exact cInv ⟨(co,lo),id,⟨g,hg,by rw[if_neg (fun h=>h0 h.2)];simpa using hgs⟩,LessR.of rfl zFS (by simp) .nil rfl rfl hou⟩
   ·have hcd:((Tr.mk o n b ks a).op==0)=false:=by simpa using ho
    repeat' first|refine zN ?_|(with_reducible refine oj ?_;refine AOps.splitS rfl rfl rfl rfl (fun hb=>?_) (fun hb=>?_))|(with_reducible refine ok ?_;first|refine ACode.condS rfl (fun hb=>?_) (fun hb=>?_)|refine ACode.cond rfl (fun hb=>?_) (fun hb=>?_))
    all_goals first
     |(exfalso;rw[hcd]at hb;cases hb;done)
     |exact cInv ⟨(co,lo),id,⟨g,hg,by rw[if_neg (fun h=>ho h.1)];simpa using hgs⟩,LessR.of rfl zFS (by simp) .nil rfl rfl hou⟩
  ·obtain⟨co,lo⟩:=c
   simp only at hc
   clear hgs hg g hou
   have hou:OuOk (ouB cb lb co lo):=Q77 _ _ _ _
   refine zA ?_
   refine ACode.loopR hΓ (α:=Nat×(Nat×List (Nat×Int×Int))×(Nat×List (Nat×Int×Unit))) (fun c=>[(38,.one (int c.1)),(37,.one (int (Q0l ks).length)),(36,.one (.sl 1 (Q0l ks))),(2,.one (.mp (.o 1))),(1,.one (.mp (.o 0))),(0,.one (.box (cTr (.mk o n b ks a))))])
    (fun c=>⟨0,[],ouB c.2.1.1 c.2.1.2 c.2.2.1 c.2.2.2⟩) (fun m c=>c.1<=ks.length/\BIs β c.2.1.1 c.2.1.2/\SetIs (S++(if o=0/\β n=0 then [n]else [])++occBs β o b a 0 (ks.take c.1)) c.2.2.1 c.2.2.2/\m=ks.length - c.1)
    (a0:=(0,(cb,lb),(co,lo))) (ρ:=id) ⟨by omega,⟨f,hf,hfb⟩,by simpa[occBs]using hc,rfl⟩ (LessR.of rfl zFS (by simp) .nil rfl rfl hou) fun m' c hi=>?_
   clear hc hf hfb f hou
   obtain⟨i,⟨cb,lb⟩,co,lo⟩:=c
   obtain⟨hil,hB,hS,rfl⟩:=hi
   simp only at hil hB hS
   have hou:OuOk (ouB cb lb co lo):=Q77 _ _ _ _
   refine zA ?_
   refine ACode.cond rfl (fun hb2=>?_) (fun hb2=>?_)
   ·have hlt:i < ks.length:=by simpa using hb2
    obtain⟨t,ht⟩:=Q01 hlt
    have htm:=List.mem_of_getElem? ht
    have hbn:=Qjc hΓ (.mk o n b ks a) (i:Int) (by omega) ha
    have hll:=Qev (o:=o) (k:=(i:Int)) hb hab
    have hsn:=Q8b β o b a t (ks.take i) 0
    rw[←Q1o ht]at hsn
    have hmin:(ks.take i).length=i:=by simp;omega
    rw[hmin,Nat.zero_add]at hsn
    simp only[Tr.op_mk,Tr.binds_mk,Tr.alts_mk]at hbn
    generalize Q2c o b a (i:Int)=l at hbn hll hsn
    have hdk:=Q7n (o:=o) (n:=n) (b:=b) (a:=a) htm
    refine zA ?_
    refine zS (zIA rfl rfl rfl (by omega) (Q0n ht)) ?_
    refine zA ?_
    refine zca hΓ hbn hou ?_
    refine zA ?_
    refine ACode.loopR hΓ (α:=Nat×Nat×List (Nat×Int×Int)) (fun c=>[(48,.one (int c.1)),(47,.one (int (l.map cI).length)),(46,.one (.sl 1 (l.map cI))),(8,.one (.sl 1 (l.map cI))),(7,.one (.box (cTr t))),(38,.one (int i)),(37,.one (int (Q0l ks).length)),(36,.one (.sl 1 (Q0l ks))),(2,.one (.mp (.o 1))),(1,.one (.mp (.o 0))),(0,.one (.box (cTr (.mk o n b ks a))))])
     (fun c=>⟨0,[],ouB c.2.1 c.2.2 co lo⟩) (fun m c=>c.1<=l.length/\BIs (addB β (l.take c.1)) c.2.1 c.2.2/\m=l.length - c.1) (a0:=(0,cb,lb)) (ρ:=id) ⟨by omega,by simpa[BIs,addB]using hB,rfl⟩ (LessR.of rfl zFS (by simp) .nil rfl rfl hou) fun m' c hj=>?_
    clear hB hou
    obtain⟨j,cb,lb⟩:=c
    obtain⟨hjl,⟨f,hf,hfb⟩,rfl⟩:=hj
    simp only at hjl hf hfb
    have hou:OuOk (ouB cb lb co lo):=Q77 _ _ _ _
    refine zA ?_
    refine ACode.cond rfl (fun hb3=>?_) (fun hb3=>?_)
    ·have hlt2:j < l.length:=by simpa using hb3
     obtain⟨q,hq⟩:=Q01 hlt2
     have hv:=Qch (l:=l.take j) hβ (by simp;omega) q
     have hdp:=Qb1 t
     refine zA ?_
     refine zS (zIA rfl rfl rfl (by omega) (Q04 hq)) ?_
     refine zA ?_
     refine zS (AStep.lookI eN (cm:=false) (v:=.one (int (addB β (l.take j) q))) rfl Tryz.underlying116 Tryz.underlying3 rfl rfl rfl (by kernel_rfl) zeroN hf (by rw[←hfb q];cases f q <;> rfl)) ?_
     refine zS (AStep.arith rfl rfl rfl (.inl ⟨rfl,rfl⟩) zI) ?_
     refine AOps.putI eN (v:=addB β (l.take j) q+1) rfl rfl rfl Tryz.underlying116 Tryz.underlying3 rfl rfl rfl rfl hf fun ck' l' hf'=>?_
     refine zM ?_
     refine cInv ⟨l.length - (j+1),(j+1,ck',l'),id,by omega,⟨by omega,⟨_,hf',fun k=>?_⟩,rfl⟩,LessR.of rfl zFS (by simp) .nil rfl (Q6k cb ck' lb l' co lo).symm (by rw[show (St.set ⟨0,[],ouB cb lb co lo⟩ (.o 0) (.map ck' (encI eN l'))).ou=ouB ck' l' co lo from Q6k cb ck' lb l' co lo];exact Q77 _ _ _ _)⟩
     rw[BIs.put hfb,Qha hq]
    have hlt2:j=l.length:=by simp at hb3;omega
    subst hlt2
    rw[List.take_length]at hfb
    have hcall:=ih t htm (addB β l) (m+1048576) cb lb co lo (S++(if o=0/\β n=0 then [n]else [])++occBs β o b a 0 (ks.take i)) (Qch hβ hll) (by omega) ⟨f,hf,hfb⟩ hS
    clear hf hfb f
    refine zA ?_
    refine AOps.call1 hΓ rfl rfl rfl rfl rfl rfl rfl (by simp) hou hcall fun r ou' hq hids hou'=>?_
    obtain⟨rfl,cb,lb,co,lo,rfl,hB,hS2⟩:=hq
    rw[List.append_assoc,←hsn]at hS2
    refine zA ?_
    refine ACode.loopR hΓ (α:=Nat×Nat×List (Nat×Int×Int)) (fun c=>[(63,.one (int c.1)),(62,.one (int (l.map cI).length)),(61,.one (.sl 1 (l.map cI))),(38,.one (int i)),(37,.one (int (Q0l ks).length)),(36,.one (.sl 1 (Q0l ks))),(2,.one (.mp (.o 1))),(1,.one (.mp (.o 0))),(0,.one (.box (cTr (.mk o n b ks a))))])
     (fun c=>⟨0,[],ouB c.2.1 c.2.2 co lo⟩) (fun m c=>c.1<=l.length/\BIs (addB β (l.drop c.1)) c.2.1 c.2.2/\m=l.length - c.1) (a0:=(0,cb,lb)) (ρ:=id) ⟨by omega,by simpa using hB,rfl⟩ (LessR.of rfl zFS (by simp) .nil rfl rfl hou') fun m' c hj=>?_
    clear hB hou hou'
    obtain⟨j,cb,lb⟩:=c
    obtain⟨hjl,⟨f,hf,hfb⟩,rfl⟩:=hj
    simp only at hjl hf hfb
    have hou:OuOk (ouB cb lb co lo):=Q77 _ _ _ _
    refine zA ?_
    refine ACode.cond rfl (fun hb4=>?_) (fun hb4=>?_)
    ·have hlt2:j < l.length:=by simpa using hb4
     obtain⟨q,hq⟩:=Q01 hlt2
     have hv:=Qch (l:=l.drop j) hβ (by simp;omega) q
     have hdp:=Qb1 t
     refine zA ?_
     refine zS (zIA rfl rfl rfl (by omega) (Q04 hq)) ?_
     refine zA ?_
     refine zS (AStep.lookI eN (cm:=false) (v:=.one (int (addB β (l.drop j) q))) rfl Tryz.underlying116 Tryz.underlying3 rfl rfl rfl (by kernel_rfl) zeroN hf (by rw[←hfb q];cases f q <;> rfl)) ?_
     refine zS (AStep.arith rfl rfl rfl (.inr (.inl ⟨rfl,rfl⟩)) zI) ?_
     refine AOps.putI eN (v:=addB β (l.drop j) q - 1) rfl rfl rfl Tryz.underlying116 Tryz.underlying3 rfl rfl rfl rfl hf fun ck' l' hf'=>?_
     refine zM ?_
     refine cInv ⟨l.length - (j+1),(j+1,ck',l'),id,by omega,⟨by omega,⟨_,hf',fun k=>?_⟩,rfl⟩,LessR.of rfl zFS (by simp) .nil rfl (Q6k cb ck' lb l' co lo).symm (by rw[show (St.set ⟨0,[],ouB cb lb co lo⟩ (.o 0) (.map ck' (encI eN l'))).ou=ouB ck' l' co lo from Q6k cb ck' lb l' co lo];exact Q77 _ _ _ _)⟩
     rw[BIs.put hfb,Qhb hq]
    ·have hlt2:j=l.length:=by simp at hb4;omega
     subst hlt2
     rw[List.drop_length]at hfb
     refine zM ?_
     exact cInv ⟨ks.length - (i+1),(i+1,(cb,lb),(co,lo)),id,by omega,⟨by omega,⟨f,hf,fun k=>by rw[hfb k];simp[addB]⟩,hS2,rfl⟩,LessR.of rfl zFS (by simp) .nil rfl rfl hou⟩
   ·have hlt:i=ks.length:=by simp at hb2;omega
    subst hlt
    rw[List.take_length,List.append_assoc]at hS
    refine zA ?_
    exact AFn.fin' rfl (WkF.refl _) (by simp) hou ⟨rfl,cb,lb,co,lo,rfl,hB,by simpa only [occB]using hS⟩
end Go.Proofs.YtdpdlkgecmgokaaGreatDoor
