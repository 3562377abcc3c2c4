/- FreeOf, walked; what the sort does is given. -/
import Derived.Test.YtdpdlkgecmgokaaGreatDoorG7
import Derived.Shelf.Sort.Plain
import Derived.Shelf.Slices.In.SortNone
set_option maxRecDepth 10000
set_option linter.unusedVariables false
set_option linter.unusedSimpArgs false
namespace Go.CoreX
theorem Q8r{α:Type} [DecidableEq α]:∀{l m:List α},l.Nodup->(∀x∈l,x∈m)->l.length<=m.length
 |[],m,_,_=>by simp
 |a::l,m,hn,h=>by
  simp only[List.nodup_cons]at hn
  have ha:=h a (by simp)
  have:=Q8r (l:=l) (m:=m.erase a) hn.2 fun x hx=>by
   have hne:x≠a:=fun e=>hn.1 (e▸hx)
   exact (List.mem_erase_of_ne hne).2 (h x (by simp[hx]))
  rw[List.length_erase_of_mem ha]at this
  have:=List.length_pos_of_mem ha
  simp only[List.length_cons];omega
mutual
theorem Q8q:∀(t:Tr)(β:Int->Int)(out:List Ex),(occB β t).length+out.length<=(listT out t).length
 |.mk o n b k a,β,out=>by
  have:=Q9x k β o b a 0 out
  simp only[occB,listT,List.length_append,List.length_singleton]
  split <;> simp <;> omega
theorem Q9x:∀(l:List Tr)(β:Int->Int)(o:Int)(b:List Int)(a:List Alt)(i:Nat)(out:List Ex),(occBs β o b a i l).length+out.length<=(Q02 out l).1.length
 |[],_,_,_,_,_,out=>by simp[occBs,Q02]
 |t::l,β,o,b,a,i,out=>by
  have h1:=Q8q t (addB β (Q28 o b a i)) out
  have h2:=Q9x l β o b a (i+1) (listT out t)
  simp only[occBs,Q02,List.length_append];omega
end
end Go.CoreX
namespace Go.Proofs.YtdpdlkgecmgokaaGreatDoor
open Go Go.Abs Go.CoreX Go.Sort
variable {Γ:List (Nat×List AC)}
def SortOk:Prop:=∀(blk off cap:Nat)(zs:List Int)(w:World),Holds (Value.int .i64) w blk off zs.toArray->blk < w.heap.size->zs.length < 4611686018427387904->Calls Tryz.prog 67 #[.slice (some ⟨blk,off,none⟩) zs.length cap] w fun e w'=>
 e=.returned (.tuple #[])/\∃n os,w'=grow (putRow (Value.int .i64) (Sort.ahead w n) blk off (zs.mergeSort fun x y=>decide (x<=y)).toArray) os
def Qgn:Prop:=∀w:World,Calls Tryz.prog 67 #[.slice none 0 0] w fun e w'=>e=.returned (.tuple #[])/\w'=w
theorem Q3v(us:Array Value)(w:World):(callFunc 67 us).run Tryz.prog w=.ok (.enter 67 us) w:=by
 have h1:Tryz.prog.funcs[67]?=some Tryz.f67:=Tryz.func67
 simp[callFunc,h1]
 rfl
def leftM (l:List (Nat×Int×Unit))(seen:List Nat):Nat:=(l.filter fun x=>decide (x.1∉seen)).length
theorem Q7w{l:List (Nat×Int×Unit)}{seen:List Nat}{x:Nat×Int×Unit}(hx:x∈l)(hb:x.1∉seen):leftM l (seen++[x.1]) < leftM l seen:=by
 unfold leftM
 induction l with
 |nil=>cases hx
 |cons y l ih=>
  have hmono:∀l:List (Nat×Int×Unit),(l.filter fun z=>decide (z.1∉seen++[x.1])).length<=(l.filter fun z=>decide (z.1∉seen)).length:=fun l=>by
   induction l with
   |nil=>simp
   |cons z l ih=>
    simp only[List.filter_cons]
    split <;> split <;> simp_all <;> omega
  simp only[List.filter_cons]
  rcases List.mem_cons.1 hx with rfl|hx
  ·have:=hmono l
   rw[if_neg (by simp),if_pos (by simpa using hb)]
   simp only[List.length_cons];omega
  ·have:=ih hx
   split <;> split <;> simp_all <;> omega
theorem pair_of{l:List (Nat×Int×Unit)}(hk:(l.map (·.2.1)).Nodup){x y:Nat×Int×Unit}(hx:x∈l)(hy:y∈l)(h:x.2.1=y.2.1):x=y:=by
 induction l with
 |nil=>cases hx
 |cons z l ih=>
  simp only[List.map_cons,List.nodup_cons]at hk
  rcases List.mem_cons.1 hx with e1|h1
  ·rcases List.mem_cons.1 hy with e2|h2
   ·rw[e1,e2]
   ·exact absurd (List.mem_map.2 ⟨y,h2,by rw[←h,e1]⟩:z.2.1∈l.map (·.2.1)) hk.1
  ·rcases List.mem_cons.1 hy with e2|h2
   ·exact absurd (List.mem_map.2 ⟨x,h1,by rw[h,e2]⟩:z.2.1∈l.map (·.2.1)) hk.1
   ·exact ih hk.2 h1 h2
theorem Q7y{l zs:List (Nat×Int×Unit)}(hk:(l.map (·.2.1)).Nodup):∀{zs:List (Nat×Int×Unit)},(∀x∈zs,x∈l)->(zs.map (·.1)).Nodup->(zs.map (·.2.1)).Nodup
 |[],_,_=>by simp
 |x::zs,h,hn=>by
  simp only[List.map_cons,List.nodup_cons]at hn ⊢
  refine⟨fun hm=>?_,Q7y (zs:=zs) hk (fun y hy=>h y (by simp[hy])) hn.2⟩
  obtain⟨y,hy,e⟩:=List.mem_map.1 hm
  have:=pair_of hk (h x (by simp)) (h y (by simp[hy])) e.symm
  exact hn.1 (List.mem_map.2 ⟨y,hy,by rw[this]⟩)
@[simp] theorem ids_vecI (p : Abs.Id -> Prop) (l : List Int) (cap : Nat) : idsL p (vec 1 (l.map cI) cap) := by
 unfold vec
 have e:(l.map cI).flatten=l.map int:=by
  induction l with
  |nil=>rfl
  |cons n l ih=>simp only[List.map_cons,List.flatten_cons,ih];rfl
 rw[e]
 refine Q6d (Q8y p l) ?_
 generalize (cap - (l.map cI).length) * 1=q
 induction q with
 |zero=>simp
 |succ q ih=>rw[List.replicate_succ];exact⟨trivial,ih⟩
@[simp] theorem Qgx (θ:Abs.Id->Abs.Id) (ck:Nat) (l:List (Nat×Int×Unit)):AObj.sub θ (.map ck (encI eU l))=.map ck (encI eU l):=by
 simp[AObj.sub,encI,eU,FV.sub,subL,Function.comp_def]
theorem Qag{β:Type}{enc:β->FV}{f:Int->Option β}{ck:Nat}{l:List (Nat×Int×β)}(h:IMOk f ck l):∀x∈encI enc l,x.1 < ck:=fun x hx=>by
 simp only[encI,List.mem_map]at hx
 obtain⟨y,hy,rfl⟩:=hx
 exact h.born y hy
theorem Qd9{β:Type}{enc:β->FV}{l:List (Nat×Int×β)}:∀x∈encI enc l,x.2.1.oneCell'=true:=fun x hx=>by
 simp only[encI,List.mem_map]at hx
 obtain⟨y,hy,rfl⟩:=hx
 rfl
theorem Q78{β:Type}{enc:β->FV}:∀{l:List (Nat×Int×β)}{x:Nat×Int×β},(l.map (·.1)).Nodup->x∈l->(encI enc l).find? (fun y=>y.1==x.1)=some (x.1,.int .i64 x.2.1,enc x.2.2)
 |y::l,x,hn,hx=>by
  simp only[List.map_cons,List.nodup_cons]at hn
  rcases List.mem_cons.1 hx with rfl|h
  ·simp[encI]
  ·have hne:y.1≠x.1:=fun e=>hn.1 (List.mem_map.2 ⟨_,h,e.symm⟩)
   have:=Q78 (enc:=enc) hn.2 h
   simp only[encI,List.map_cons,List.find?_cons]at this ⊢
   rw[beq_eq_false_iff_ne.2 hne]
   exact this
theorem Qgg{l:List (Nat×Int×Unit)}(hk:(l.map (·.1)).Nodup){x y:Nat×Int×Unit}(hx:x∈l)(hy:y∈l)(h:x.1=y.1):x=y:=by
 induction l with
 |nil=>cases hx
 |cons z l ih=>
  simp only[List.map_cons,List.nodup_cons]at hk
  rcases List.mem_cons.1 hx with e1|h1
  ·rcases List.mem_cons.1 hy with e2|h2
   ·rw[e1,e2]
   ·exact absurd (List.mem_map.2 ⟨y,h2,by rw[←h,e1]⟩:z.1∈l.map (·.1)) hk.1
  ·rcases List.mem_cons.1 hy with e2|h2
   ·exact absurd (List.mem_map.2 ⟨x,h1,by rw[h,e2]⟩:z.1∈l.map (·.1)) hk.1
   ·exact ih hk.2 h1 h2
theorem Qcx{f:Int->Option Unit}{ck:Nat}{l:List (Nat×Int×Unit)}(h:IMOk f ck l)(k:Int):(f k).isSome=true↔∃x∈l,x.2.1=k:=by
 rw[←h.look k]
 cases hf:l.find? (fun x=>x.2.1==k) with
 |none=>
  simp only[Option.map_none,Option.isSome_none,Bool.false_eq_true,false_iff]
  rintro⟨x,hx,e⟩
  have:=List.find?_eq_none.1 hf x hx
  simp[e]at this
 |some x=>
  simp only[Option.map_some,Option.isSome_some,true_iff]
  have h1:=List.find?_some hf
  exact⟨x,List.mem_of_find?_eq_some hf,by simpa using h1⟩
def keyL (zs:List (Nat×Int×Unit)):List Int:=zs.map (·.2.1)
def bornL (zs:List (Nat×Int×Unit)):List Nat:=zs.map (·.1)
set_option maxHeartbeats 1000000 in
theorem Qaw(hΓ:∀g cs,(g,cs)∈Γ->idsL isO cs)(hΓF:∀g cs,(g,cs)∈Γ->idsL (fun _=>False) cs)(hs:SortOk)(hn:Qgn)(t:Tr)(ht:okT t)(hd:Q1j t<=1048576)(hsz:(listT [] t).length<=1048576):
  APure Tryz.prog Γ 49 [.one (.box (cTr t))] (.one (.sl 1 ((Q1z t).map cI))):=by
 intro ou
 refine AFn.walk 24 tabOk Tryz.func49 rfl (by kernel_rfl) rfl rfl fun hou=>?_
 refine zA ?_
 refine zS (AStep.makeMap rfl) ?_
 refine zA ?_
 refine zS (AStep.makeMap rfl) ?_
 refine zA ?_
 refine AOps.callR [.l 1,.l 0] [.one (.box (cTr t)),.one (.mp (.o 0)),.one (.mp (.o 1))] [.map 0 (encI eN []),.map 0 (encI eU [])] hΓF rfl rfl rfl rfl rfl rfl ?_ ?_ ?_ ?_ ?_ (Qg0 hΓ t ht (fun _=>0) 0 0 [] 0 [] [] (fun k=>by simp) (by omega) ⟨_,IMOk.nil,fun k=>rfl⟩ SetIs.nil) ?_
 ·simp[subF,FV.sub,AC.sub,nameOf]
  exact⟨(Q1t _ _ (by simp)).symm,rfl⟩
 ·simp[inO]
 ·simp
 ·exact⟨rfl,rfl,trivial⟩
 ·simp[inO]
 intro r ou' hq
 obtain⟨rfl,cb,lb,co,lo,rfl,hB,g,hg,hgs⟩:=hq
 rw[List.nil_append]at hgs
 refine⟨[.map cb (encI eN lb),.map co (encI eU lo)],rfl,rfl,by simp[inO],by simp,?_⟩
 refine zA ?_
 refine zS (AStep.rangeMap rfl Tryz.underlying118 rfl rfl) ?_
 refine zA ?_
 refine ACode.loopR hΓ (α:=List (Nat×Int×Unit)×Option Nat) (fun a=>[(12,.one (.ptr (.l 2) 0)),(4,match a.2 with|none=>.one (.lit (.slice none 0 0))|some cap=>.one (.arr (.l 3) 1 0 ((keyL a.1).map cI).length cap))])
  (fun a=>match a.2 with|none=>⟨3,[(2,.iter (.l 0) co (bornL a.1) co),(0,.map co (encI eU lo))],ou⟩|some cap=>⟨4,[(3,.cells (vec 1 ((keyL a.1).map cI) cap)),(2,.iter (.l 0) co (bornL a.1) co),(0,.map co (encI eU lo))],ou⟩)
  (fun m a=>(∀x∈a.1,x∈lo)/\(bornL a.1).Nodup/\(match a.2 with|none=>a.1=[]|some cap=>a.1.length<=cap)/\m=leftM lo (bornL a.1)) (a0:=([],none)) (ρ:=id) ⟨by simp,by simp[bornL],rfl,rfl⟩ (LessR.of rfl ?_ ?_ ?_ rfl rfl hou) fun m a hj=>?_
 ·(repeat' first|exact FrSub.nil|refine zfc ?_|refine zfo ?_|refine zfp ?_)
 ·simp
 ·repeat' first|exact LoSub.nil|refine zlc ?_|refine zld ?_ ?_|rfl
  all_goals (rw[Qgx,Q8m])
 obtain⟨zs,oc⟩:=a
 obtain⟨hzs,hnd,hcap,rfl⟩:=hj
 simp only at hzs hnd hcap
 have hin:∀k,k∈keyL zs->k∈occB (fun _=>0) t:=fun k hk=>by
  obtain⟨x,hx,rfl⟩:=List.mem_map.1 hk
  have h1:=(Qcx hg x.2.1).2 ⟨x,hzs x hx,rfl⟩
  rw[hgs]at h1
  simpa using h1
 have hkn:(keyL zs).Nodup:=Q7y (zs:=zs) hg.nk hzs hnd
 have hkl:(keyL zs).length<=1048576:=by
  have h1:=Q8r hkn hin
  have h2:=Q8q t (fun _=>0) []
  simp at h2
  omega
 have hend':(∀x∈encI eU lo,x.1∈bornL zs)->(keyL zs).mergeSort (fun x y=>decide (x<=y))=Q1z t:=fun hend=>by
  rw[Q74]
  refine sort_eq hkn fun k=>⟨hin k,fun hk=>?_⟩
  have h1:(g k).isSome=true:=by rw[hgs];simpa using hk
  obtain⟨x,hx,rfl⟩:=(Qcx hg k).1 h1
  have h2:=hend (x.1,.int .i64 x.2.1,eU x.2.2) (List.mem_map.2 ⟨x,hx,rfl⟩)
  obtain⟨y,hy,e⟩:=List.mem_map.1 h2
  have:=Qgg hg.nb (hzs y hy) hx e
  subst this
  exact List.mem_map.2 ⟨y,hy,rfl⟩
 cases oc with
 |none=>
  subst hcap
  refine zA ?_
  refine AOps.nextMap rfl rfl rfl rfl rfl rfl rfl (Qag hg) (Nat.le_refl _) Qd9 (fun hend=>?_) (fun b u v hmem hnew=>?_)
  ·refine zA ?_
   refine AOps.callNo rfl rfl rfl rfl rfl rfl Q3v hn ?_
   refine zA ?_
   have h1:=hend' hend
   refine APure.fin rfl (.trans (.one (.nilS 1)) (.ofEq ?_)) (by simp) hou rfl
   rw[←h1];simp[keyL]
  ·obtain⟨rfl,x,hx,rfl,rfl,_⟩:=(Qcm _ _ _ _).1 hmem
   obtain⟨bx,k,⟨⟩⟩:=x
   refine zA ?_
   refine zS (AStep.entry (last:=0) (u:=.int .i64 k) (v:=.agg []) rfl rfl rfl rfl (Q78 hg.nb hx) rfl) ?_
   refine zA ?_
   refine AOps.appOwn tabOk rfl rfl rfl rfl rfl rfl rfl rfl rfl (.nil 1) (.sl 1 [cI k]) (by simp) rfl (by simp;show 1 * 8<=_;omega) (by simp) fun cap hc=>?_
   refine zM ?_
   refine cInv ⟨leftM lo (bornL [(bx,k,())]),([(bx,k,())],some cap),id,Q7w (x:=(bx,k,())) hx hnew,⟨by simpa using hx,by simp[bornL],by simpa using hc,rfl⟩,LessR.of rfl ?_ (by simp) ?_ rfl rfl hou⟩
   ·exact FrSub.cons rfl (.ofEq rfl) (FrSub.cons rfl (.ofEq rfl) .nil)
   ·refine LoSub.cons rfl ?_ rfl (by simp) (LoSub.cons rfl ?_ rfl (by simp) (LoSub.cons rfl (Q8m _ _ _).symm rfl (by simp) .nil))
    ·rw[AObj.ren_pure _ _ (by simp)];simp[keyL]
    ·simp[AObj.ren,bornL];rfl
 |some cap=>
  refine zA ?_
  refine AOps.nextMap rfl rfl rfl rfl rfl rfl rfl (Qag hg) (Nat.le_refl _) Qd9 (fun hend=>?_) (fun b u v hmem hnew=>?_)
  ·have h1:=hend' hend
   refine zA ?_
   refine AOps.wk 21 rfl (y:=.one (.arr (.l 3) 1 0 (keyL zs).length cap)) (.ofEq (by simp)) ?_
   refine AOps.sortI (l:=keyL zs) rfl rfl rfl rfl rfl rfl Q3v hs rfl (by omega) ?_
   rw[h1]
   refine AOps.wk 4 rfl (y:=.one (.arr (.l 3) 1 0 ((Q1z t).map iC).length cap)) (.ofEq (by rw[←h1];simp)) ?_
   refine AOps.freezeArr (.l 3) 4 rfl (by simp) rfl ?_
   refine zA ?_
   exact APure.fin rfl (WkF.ofEq rfl) (by simp) hou rfl
  ·obtain⟨rfl,x,hx,rfl,rfl,_⟩:=(Qcm _ _ _ _).1 hmem
   obtain⟨bx,k,⟨⟩⟩:=x
   refine zA ?_
   refine zS (AStep.entry (last:=0) (u:=.int .i64 k) (v:=.agg []) rfl rfl rfl rfl (Q78 hg.nb hx) rfl) ?_
   refine zA ?_
   have hzl:((keyL zs).map cI).length=zs.length:=by simp[keyL]
   refine AOps.appOwn tabOk rfl rfl rfl rfl rfl rfl rfl rfl rfl (.own 1 cap ((keyL zs).map cI) (.l 3) rfl (by simp[cI]) (by rw[hzl];exact hcap)) (.sl 1 [cI k]) (by simp) rfl (by simp;show (_+1) * 8<=_;omega) (by simp;omega) fun cap' hc=>?_
   refine zM ?_
   refine cInv ⟨leftM lo (bornL (zs++[(bx,k,())])),(zs++[(bx,k,())],some cap'),fun k=>if k=3 then 4 else k,by have:=Q7w (x:=(bx,k,())) hx hnew;simpa[bornL]using this,⟨?_,?_,by simpa[keyL]using hc,rfl⟩,LessR.of rfl ?_ (by simp) ?_ rfl rfl hou⟩
   ·intro y hy
    rcases List.mem_append.1 hy with hy|hy
    ·exact hzs y hy
    ·simp at hy;subst hy;exact hx
   ·simp only[bornL,List.map_append,List.map_cons,List.map_nil]
    rw[List.nodup_append]
    refine⟨hnd,by simp,fun a ha b hb e=>?_⟩
    simp at hb
    subst hb;subst e
    exact hnew ha
   ·exact FrSub.cons rfl (.ofEq rfl) (FrSub.cons rfl (.ofEq (by simp[keyL,FV.ren,AC.ren];rfl)) .nil)
   ·refine LoSub.cons rfl ?_ rfl (by simp) (LoSub.cons rfl ?_ rfl (by simp) (LoSub.cons rfl (Q8m _ _ _).symm rfl (by simp) .nil))
    ·rw[AObj.ren_pure _ _ (by simp)];simp[keyL]
    ·simp[AObj.ren,bornL];rfl
end Go.Proofs.YtdpdlkgecmgokaaGreatDoor
namespace Go.CoreX
end Go.CoreX
namespace Go.Proofs.YtdpdlkgecmgokaaGreatDoor
open Go Go.Abs Go.CoreX
variable {Γ:List (Nat×List AC)}
end Go.Proofs.YtdpdlkgecmgokaaGreatDoor
namespace Go.Proofs
open Go.Shelf
def Tryz.lays189_ren:Go.Shelf.Ren:=⟨fun|189=>67|125=>79|257=>78|128=>100|129=>101|294=>91|295=>92|296=>93|297=>94|298=>95|299=>96|216=>97|300=>98|301=>99|328=>109|329=>110|330=>111|331=>112|332=>113|215=>114|343=>126|n=>n,fun|28=>25|3=>3|46=>143|0=>0|51=>169|53=>171|4=>4|183=>163|182=>162|131=>137|5=>5|9=>9|218=>190|222=>194|228=>207|229=>200|n=>n,fun|n=>n⟩
theorem Tryz.lays189:Go.Proofs.Lays.n189 Tryz.prog Tryz.lays189_ren:={
 mixed:=by kernel_rfl
 f125:=Tryz.func79.trans (congrArg some (by kernel_rfl))
 f128:=Tryz.func100.trans (congrArg some (by kernel_rfl))
 f129:=Tryz.func101.trans (congrArg some (by kernel_rfl))
 f189:=Tryz.func67.trans (congrArg some (by kernel_rfl))
 f215:=Tryz.func114.trans (congrArg some (by kernel_rfl))
 f216:=Tryz.func97.trans (congrArg some (by kernel_rfl))
 f257:=Tryz.func78.trans (congrArg some (by kernel_rfl))
 f294:=Tryz.func91.trans (congrArg some (by kernel_rfl))
 f295:=Tryz.func92.trans (congrArg some (by kernel_rfl))
 f296:=Tryz.func93.trans (congrArg some (by kernel_rfl))
 f297:=Tryz.func94.trans (congrArg some (by kernel_rfl))
 f298:=Tryz.func95.trans (congrArg some (by kernel_rfl))
 f299:=Tryz.func96.trans (congrArg some (by kernel_rfl))
 f300:=Tryz.func98.trans (congrArg some (by kernel_rfl))
 f301:=Tryz.func99.trans (congrArg some (by kernel_rfl))
 f328:=Tryz.func109.trans (congrArg some (by kernel_rfl))
 f329:=Tryz.func110.trans (congrArg some (by kernel_rfl))
 f330:=Tryz.func111.trans (congrArg some (by kernel_rfl))
 f331:=Tryz.func112.trans (congrArg some (by kernel_rfl))
 f332:=Tryz.func113.trans (congrArg some (by kernel_rfl))
 f343:=Tryz.func126.trans (congrArg some (by kernel_rfl))
 t0:=Tryz.underlying0
 a0:=Tryz.isAgg0
 z0:=Tryz.sizeOf0
 v0:=Tryz.zeroValue0
 t3:=Tryz.underlying3
 a3:=Tryz.isAgg3
 z3:=Tryz.sizeOf3
 v3:=Tryz.zeroValue3
 t4:=Tryz.underlying4
 a4:=Tryz.isAgg4
 z4:=Tryz.sizeOf4
 v4:=Tryz.zeroValue4
 t5:=Tryz.underlying5
 a5:=Tryz.isAgg5
 z5:=Tryz.sizeOf5
 v5:=Tryz.zeroValue5
 t9:=Tryz.underlying9
 a9:=Tryz.isAgg9
 z9:=Tryz.sizeOf9
 v9:=Tryz.zeroValue9
 t28:=Tryz.underlying25
 a28:=Tryz.isAgg25
 z28:=Tryz.sizeOf25
 v28:=Tryz.zeroValue25
 t46:=Tryz.underlying143
 a46:=Tryz.isAgg143
 z46:=Tryz.sizeOf143
 v46:=Tryz.zeroValue143
 t51:=Tryz.underlying169
 a51:=Tryz.isAgg169
 z51:=Tryz.sizeOf169
 v51:=Tryz.zeroValue169
 t53:=Tryz.underlying171
 a53:=Tryz.isAgg171
 z53:=Tryz.sizeOf171
 v53:=Tryz.zeroValue171
 t131:=Tryz.underlying137
 a131:=Tryz.isAgg137
 z131:=Tryz.sizeOf137
 v131:=Tryz.zeroValue137
 t182:=Tryz.underlying162
 a182:=Tryz.isAgg162
 z182:=Tryz.sizeOf162
 v182:=Tryz.zeroValue162
 t183:=Tryz.underlying163
 a183:=Tryz.isAgg163
 z183:=Tryz.sizeOf163
 v183:=Tryz.zeroValue163
 t218:=Tryz.underlying190
 a218:=Tryz.isAgg190
 z218:=Tryz.sizeOf190
 v218:=Tryz.zeroValue190
 t222:=Tryz.underlying194
 a222:=Tryz.isAgg194
 z222:=Tryz.sizeOf194
 v222:=Tryz.zeroValue194
 t228:=Tryz.underlying207
 a228:=Tryz.isAgg207
 z228:=Tryz.sizeOf207
 v228:=Tryz.zeroValue207
 t229:=Tryz.underlying200
 a229:=Tryz.isAgg200
 z229:=Tryz.sizeOf200
 v229:=Tryz.zeroValue200 }
open Go.Sort Go.RowKit in
theorem Tryz.slices_Sort_int(blk off cap:Nat)(zs:List Int)(w:World)(hH:Holds (Value.int .i64) w blk off zs.toArray)(hblk:blk < w.heap.size)(hsz:zs.length < 4611686018427387904):
  Calls Tryz.prog 67 #[.slice (some ⟨blk,off,none⟩) zs.length cap] w fun e w'=>
   e=.returned (.tuple #[])/\∃n os,w'=grow (putRow (Value.int .i64) (Sort.ahead w n) blk off (zs.mergeSort fun x y=>decide (x<=y)).toArray) os:=Any.slices_Sort_int Tryz.lays189 blk off cap zs w hH hblk hsz
theorem Tryz.slices_Sort_int_none(p:Option Addr)(cap:Nat)(w:World):
  Calls Tryz.prog 67 #[.slice p 0 cap] w fun e w'=>e=.returned (.tuple #[])/\w'=w:=Any.slices_Sort_int_none Tryz.lays189 p cap w
end Go.Proofs
namespace Go.Proofs.YtdpdlkgecmgokaaGreatDoor
open Go Go.Sort
theorem Qes:SortOk:=fun blk off cap zs w hH hblk hsz=>Tryz.slices_Sort_int blk off cap zs w hH hblk hsz
theorem Qb4:Qgn:=fun w=>Tryz.slices_Sort_int_none none 0 w
end Go.Proofs.YtdpdlkgecmgokaaGreatDoor
namespace Go.CoreX
theorem Qhe{e:List Ex}(h:∀x∈e,x.binds.length<=1048576/\x.kids.length<=1048576/\x.alts.length<=1048576/\(∀a∈x.alts,a.binds.length<=1048576)/\x.binds.length+(x.alts.flatMap (·.binds)).length<=4194304)(hk:Q0y e):∀t∈growL e,okT t:=by
 revert h hk
 refine Q4o (P:=fun e=>(∀x∈e,x.binds.length<=1048576/\x.kids.length<=1048576/\x.alts.length<=1048576/\(∀a∈x.alts,a.binds.length<=1048576)/\x.binds.length+(x.alts.flatMap (·.binds)).length<=4194304)->Q0y e->∀t∈growL e,okT t) (fun _ _ t ht=>by simp[growL]at ht) (fun e x ih h hk t ht=>?_) e
 obtain⟨h1,h2⟩:=Q2k.1 hk
 have ih:=ih (fun y hy=>h y (by simp[hy])) h1
 rw[Q1q]at ht
 rcases List.mem_append.1 ht with ht|ht
 ·exact ih t ht
 ·simp at ht
  subst ht
  obtain⟨a1,a2,a3,a4,a5⟩:=h x (by simp)
  refine⟨a1,by simpa using a2,a3,⟨a4,a5⟩,Q1v.2 fun s hs=>?_⟩
  obtain⟨k,hk2,rfl⟩:=List.mem_map.1 hs
  have hkb:=h2 k hk2
  have hl:k.toNat < (growL e).length:=by rw[Q14];omega
  rw[List.getD_eq_getElem?_getD,List.getElem?_eq_getElem hl]
  exact ih _ (List.getElem_mem hl)
theorem Qhs{e:List Ex}(h:e≠[]):grow e∈growL e:=by
 have hl:e.length - 1 < (growL e).length:=by rw[Q14];have:=List.length_pos_iff.2 h;omega
 unfold grow
 rw[List.getD_eq_getElem?_getD,List.getElem?_eq_getElem hl]
 exact List.getElem_mem hl
theorem Q77{α:Type}{f:α->Int}:∀{l:List α}{j:Nat}{x:α},(∀y∈l.take j,f y=0)->l[j]?=some x->f x≠0->Q18 f l=f x
 |[],j,x,_,h,_=>by simp at h
 |a::l,0,x,_,h,hx=>by simp at h;subst h;simp[Q18,hx]
 |a::l,j+1,x,h0,h,hx=>by
  have h1:=h0 a (by simp)
  simp only[Q18,h1]
  exact Q77 (l:=l) (j:=j) (fun y hy=>h0 y (by simp[hy])) (by simpa using h) hx
theorem Q5n(t:Tr):(Q1z t).length<=(listT [] t).length:=by
 have h1:(Q1z t).Nodup:=(Q3f (occT [] t)).imp fun {a b} h=>by omega
 have h2:=Q8r h1 (m:=occB (fun _=>0) t) fun x hx=>by rw[Q74]at hx;exact (Q4n x _).1 hx
 have h3:=Q8q t (fun _=>0) []
 simp at h3
 omega
theorem Q8u{e:List Ex}(h:IsTree e):(listT [] (grow e)).length=e.length:=by
 have hp:=Qfc h (Q70 (grow e)) (Qaa _).symm
 rw[←Qcq e,←Qcq];exact hp.length_eq.symm
end Go.CoreX
namespace Go.Proofs.YtdpdlkgecmgokaaGreatDoor
open Go Go.Abs Go.CoreX
structure okB (e:List Ex):Prop where
 eo:okE e
 b:∀x∈e,x.binds.length+(x.alts.flatMap (·.binds)).length<=4194304
theorem okB.ex{e:List Ex}(h:okB e):∀x∈e,(Q0d x).length<=4194304/\x.binds.length+(x.alts.flatMap (·.binds)).length<=4194304:=fun x hx=>by
 have h1:=h.b x hx
 refine⟨?_,h1⟩
 unfold Q0d Q0h
 rw[List.length_append]
 split
 ·omega
 ·simp only[List.length_nil];omega
theorem okB.t{e:List Ex}(h:okB e)(hk:Q0y e)(hne:e≠[]):okT (grow e):=Qhe (fun x hx=>⟨(h.eo.x x hx).b,(h.eo.x x hx).k,(h.eo.x x hx).a,(h.eo.x x hx).ab,h.b x hx⟩) hk _ (Qhs hne)
theorem hΓcF:∀g cs,(g,cs)∈Γc->idsL (fun _=>False) cs:=fun g cs h=>by
 simp[Γc]at h
 first
  |(obtain⟨rfl,rfl⟩:=h;simp[arC,Q3s];done)
  |(rcases h with ⟨rfl,rfl⟩|⟨rfl,rfl⟩ <;> simp[arC,orC,Q3s])
set_option maxHeartbeats 1000000 in
theorem Qc1(e:List Ex)(he:okB e)(params:List Int)(hp:params.length<=1048576)(flat:Bool):
  APure Tryz.prog Γc 32 [.one (.sl 5 (e.map cEx)),.one (.sl 1 (params.map cI)),.one (.lit (.bool flat))] (.one (int (body e params flat))):=by
 have hel:=he.eo.l
 intro ou
 refine AFn.walk 62 tabOk Tryz.func32 rfl (by kernel_rfl) rfl rfl fun hou=>?_
 refine zA ?_
 refine AOps.freeze1 (.l 0) 3 rfl rfl ?_
 refine zca hΓc (Q9i hΓc e he.eo) hou ?_
 refine zA ?_
 refine ACode.cond rfl (fun hb=>?_) (fun hb=>?_)
 ·have hb':Q1g e≠0:=by simpa using hb
  refine zA ?_
  refine APure.fin rfl (WkF.ofEq ?_) (by simp) hou rfl
  unfold body
  rw[if_pos hb']
 have h1:Q1g e=0:=by simpa using hb
 clear hb
 obtain⟨t1,t2,t3⟩:=(Q4b e).1 h1
 have hn:body e params flat=if Q18 (Q0m flat e) e≠0 then Q18 (Q0m flat e) e else if Q4w (params++Q09 e)=true then 7 else if (Q1z (grow e)).all (fun n=>params.contains n)=true then 0 else 6:=by
  unfold body;rw[if_neg (by simpa using h1)]
 refine zA ?_
 refine ACode.loopR hΓc (α:=Nat) (fun j=>[(20,.one (int j)),(19,.one (int (e.map cEx).length)),(18,.one (.sl 5 (e.map cEx))),(3,.one (.box [.sl 5 (e.map cEx)])),(2,.one (.lit (.bool flat))),(1,.one (.sl 1 (params.map cI)))])
  (fun j => ⟨0, [], ou⟩) (fun m j => j <= e.length /\ (∀ x ∈ e.take j, Q0m flat e x = 0) /\ m = e.length - j) (a0 := 0) (ρ := id) ⟨by omega, by simp, rfl⟩ (LessR.of rfl zFS (by simp) zLO rfl rfl hou) fun m j hj => ?_
 obtain⟨hjl,hno,rfl⟩:=hj
 refine zA ?_
 refine ACode.cond rfl (fun hb2=>?_) (fun hb2=>?_)
 ·have hlt:j < e.length:=by simpa using hb2
  obtain⟨x,hx⟩:=Q01 hlt
  have hxm:=List.mem_of_getElem? hx
  have hxo:=he.eo.x x hxm
  have bad:Q0m flat e x≠0->body e params flat=Q0m flat e x:=fun h=>by
   rw[hn,Q77 hno hx h,if_pos h]
  have hkk:∀k∈x.kids,0<=k/\k.toNat < e.length:=fun k hk=>by have:=Qff t2.k hxm k hk;omega
  have hcall:=Q9y e x hxo hkk
  refine zA ?_
  refine zS (zIA rfl rfl rfl (by omega) (Q04 hx)) ?_
  cases flat with
  |false=>
   have hE:Q0m false e x=if Q4y x.op=true then 3 else Q10 e x:=by simp[Q0m]
   repeat' first|refine zN ?_|(with_reducible refine oj ?_;refine AOps.splitS rfl rfl rfl rfl (fun hb=>?_) (fun hb=>?_))|(with_reducible refine ok ?_;first|refine ACode.condS rfl (fun hb=>?_) (fun hb=>?_)|refine ACode.cond rfl (fun hb=>?_) (fun hb=>?_))
   refine zca hΓc (Qbo x.op) hou ?_
   repeat' first|refine zN ?_|(with_reducible refine oj ?_;refine AOps.splitS rfl rfl rfl rfl (fun hb=>?_) (fun hb=>?_))|(with_reducible refine ok ?_;first|refine ACode.condS rfl (fun hb=>?_) (fun hb=>?_)|refine ACode.cond rfl (fun hb=>?_) (fun hb=>?_))
   all_goals try
    (
    refine APure.fin rfl (WkF.ofEq ?_) (by simp) hou rfl
    rw[bad (by rw[hE,if_pos hb];decide),hE,if_pos hb]
    done)
   rw[if_neg (by rw[hb];decide)]at hE
   refine zca hΓc hcall hou ?_
   refine zA ?_
   refine ACode.cond rfl (fun hb3=>?_) (fun hb3=>?_)
   ·have h3:Q10 e x≠0:=by simpa using hb3
    refine zA ?_
    refine APure.fin rfl (WkF.ofEq ?_) (by simp) hou rfl
    rw[bad (by rw[hE];exact h3),hE]
   ·have h3:Q10 e x=0:=by simpa using hb3
    refine zM ?_
    exact cInv ⟨e.length - (j+1),j+1,id,by omega,⟨by omega,Q0z hno hx (by rw[hE];exact h3),rfl⟩,LessR.of rfl zFS (by simp) zLO rfl rfl hou⟩
  |true=>
   have hE:Q0m true e x=if Q6g x.op=true then 3 else Q10 e x:=by simp[Q0m]
   repeat' first|refine zN ?_|(with_reducible refine oj ?_;refine AOps.splitS rfl rfl rfl rfl (fun hb=>?_) (fun hb=>?_))|(with_reducible refine ok ?_;first|refine ACode.condS rfl (fun hb=>?_) (fun hb=>?_)|refine ACode.cond rfl (fun hb=>?_) (fun hb=>?_))
   refine zca hΓc (Qbq x.op) hou ?_
   repeat' first|refine zN ?_|(with_reducible refine oj ?_;refine AOps.splitS rfl rfl rfl rfl (fun hb=>?_) (fun hb=>?_))|(with_reducible refine ok ?_;first|refine ACode.condS rfl (fun hb=>?_) (fun hb=>?_)|refine ACode.cond rfl (fun hb=>?_) (fun hb=>?_))
   all_goals try
    (
    refine APure.fin rfl (WkF.ofEq ?_) (by simp) hou rfl
    rw[bad (by rw[hE,if_pos hb];decide),hE,if_pos hb]
    done)
   rw[if_neg (by rw[hb];decide)]at hE
   refine zca hΓc hcall hou ?_
   refine zA ?_
   refine ACode.cond rfl (fun hb3=>?_) (fun hb3=>?_)
   ·have h3:Q10 e x≠0:=by simpa using hb3
    refine zA ?_
    refine APure.fin rfl (WkF.ofEq ?_) (by simp) hou rfl
    rw[bad (by rw[hE];exact h3),hE]
   ·have h3:Q10 e x=0:=by simpa using hb3
    refine zM ?_
    exact cInv ⟨e.length - (j+1),j+1,id,by omega,⟨by omega,Q0z hno hx (by rw[hE];exact h3),rfl⟩,LessR.of rfl zFS (by simp) zLO rfl rfl hou⟩
 have hlt:j=e.length:=by simp at hb2;omega
 subst hlt
 rw[List.take_length]at hno
 rw[if_neg (by rw[Classical.not_not];exact (Q20 _ _).2 hno)]at hn
 clear hno hb2 hjl
 have hgt:=he.t t2.k t2.ne
 refine zA ?_
 refine zca hΓc (Qgu hΓc e he.eo params hp he.ex) hou ?_
 refine zA ?_
 refine ACode.cond rfl (fun hb=>?_) (fun hb=>?_)
 ·refine zA ?_
  refine APure.fin rfl (WkF.ofEq ?_) (by simp) hou rfl
  rw[hn,if_pos hb]
 rw[if_neg (by rw[hb];decide)]at hn
 refine zA ?_
 refine zca hΓc (Qc0 hΓc e he.eo t2.k t2.ne) hou ?_
 refine zca hΓc (Qaw hΓc hΓcF Qes Qb4 (grow e) hgt (by omega) (by rw[Q8u t2];omega)) hou ?_
 have hfl:=Q5n (grow e)
 rw[Q8u t2]at hfl
 generalize Q1z (grow e)=fs at hn hfl
 refine zA ?_
 refine ACode.loopR hΓc (α:=Nat) (fun j=>[(53,.one (int j)),(52,.one (int (fs.map cI).length)),(51,.one (.sl 1 (fs.map cI))),(1,.one (.sl 1 (params.map cI)))])
  (fun j=>⟨0,[],ou⟩) (fun m j=>j<=fs.length/\(∀x∈fs.take j,params.contains x=true)/\m=fs.length - j) (a0:=0) (ρ:=id) ⟨by omega,by simp,rfl⟩ (LessR.of rfl zFS (by simp) zLO rfl rfl hou) fun m j hj=>?_
 obtain⟨hjl,hno,rfl⟩:=hj
 refine zA ?_
 refine ACode.cond rfl (fun hb2=>?_) (fun hb2=>?_)
 ·have hlt:j < fs.length:=by simpa using hb2
  obtain⟨k,hk⟩:=Q01 hlt
  refine zA ?_
  refine zS (zIA rfl rfl rfl (by omega) (Q04 hk)) ?_
  refine zA ?_
  refine zca hΓc (Q4i hΓc params hp k) hou ?_
  refine zA ?_
  refine ACode.cond rfl (fun hb3=>?_) (fun hb3=>?_)
  ·refine zA ?_
   refine APure.fin rfl (WkF.ofEq ?_) (by simp) hou rfl
   rw[hn,if_neg]
   rw[List.all_eq_true]
   intro h
   have:=h k (List.mem_of_getElem? hk)
   rw[this]at hb3;cases hb3
  ·refine zM ?_
   exact cInv ⟨fs.length - (j+1),j+1,id,by omega,⟨by omega,Q0z hno hk (by simpa using hb3),rfl⟩,LessR.of rfl zFS (by simp) zLO rfl rfl hou⟩
 ·have hlt:j=fs.length:=by simp at hb2;omega
  subst hlt
  rw[List.take_length]at hno
  refine zA ?_
  refine APure.fin rfl (WkF.ofEq ?_) (by simp) hou rfl
  rw[hn,if_pos (List.all_eq_true.2 hno)]
theorem Qih(e:List Ex)(he:okB e):APure Tryz.prog Γc 18 [.one (.sl 5 (e.map cEx))] (.one (int (check e))):=by
 intro ou
 refine AFn.walk 5 tabOk Tryz.func18 rfl (by kernel_rfl) rfl rfl fun hou=>?_
 refine zA ?_
 refine AOps.callCW (ws:=[.one (.sl 5 (e.map cEx)),.one (.sl 1 (([]:List Int).map cI)),.one (.lit (.bool false))]) hΓc (Qc1 e he [] (by simp) false) rfl rfl rfl rfl rfl rfl ?_ hou (by simp) ?_
 ·exact .cons (.refl _) (.cons (.one (.nilS 1)) (.cons (.refl _) .nil))
 refine zA ?_
 exact APure.fin rfl (WkF.ofEq rfl) (by simp) hou rfl
variable {Γ:List (Nat×List AC)}
end Go.Proofs.YtdpdlkgecmgokaaGreatDoor
namespace Go.Abs
theorem AStep.wk{E:Env}{o:Oper}{fr:Fr}{σ σ':St}{x y:FV}(h:AStep E o fr σ x σ')(hw:WkF x y):AStep E o fr σ y σ':=
 fun F w C tmps hi hf next Q hk=>h F w C tmps hi hf next Q fun u w' C' a b c=>hk u w' C' a b (hw _ _ _ c)
end Go.Abs
namespace Go.Proofs.YtdpdlkgecmgokaaGreatDoor
open Go Go.Abs Go.CoreX
variable {Γ:List (Nat×List AC)}
mutual
def encNd:Tr->List AC
 |.mk o n b k a=>[int o,int n,.sl 1 (b.map cI),.any,.sl 2 (a.map cAlt),.sl 1 (Q26 k)]
def Q26:List Tr->List (List AC)
 |[]=>[]
 |t::ts=>[.box (encNd t)]::Q26 ts
end
def cNd (t:Tr):List AC:=[int t.op,int t.n,.sl 1 (t.binds.map cI),.any,.sl 2 (t.alts.map cAlt),.sl 1 (Q26 t.kids)]
theorem Qi0(t:Tr):encNd t=cNd t:=by cases t;simp[encNd,cNd]
theorem Q51:∀l:List Tr,Q26 l=l.map fun t=>[.box (cNd t)]
 |[]=>rfl
 |t::ts=>by simp[Q26,Q51 ts,Qi0]
theorem Qe6{l:List Tr}{i:Nat}{t:Tr}(h:l[i]?=some t):(Q26 l)[i]?=some [.box (cNd t)]:=by rw[Q51];simp[h]
mutual
theorem Qfo(p:Abs.Id->Prop):∀t:Tr,idsL p (encNd t)
 |.mk o n b k a=>by simp[encNd,Q5k p k]
theorem Q5k(p:Abs.Id->Prop):∀l:List Tr,idsS p (Q26 l)
 |[]=>by simp[Q26]
 |t::ts=>by simp[Q26,Qfo p t,Q5k p ts]
end
attribute [simp] Q5k
@[simp] theorem ids_cNd (p:Abs.Id->Prop) (t:Tr):idsL p (cNd t):=by simp[cNd]
@[simp] theorem len_encNds (l:List Tr):(Q26 l).length=l.length:=by rw[Q51];simp
theorem N_ok(op n:Int)(ks:List Tr):APure Tryz.prog Γ 15 [.one (int op),.one (int n),.one (.sl 1 (Q26 ks))] (.one (.box (cNd (.mk op n [] ks [])))):=by
 intro ou
 refine AFn.walk 13 tabOk Tryz.func15 rfl (by kernel_rfl) rfl rfl fun hou=>?_
 iterate 14 (first|((with_reducible refine oj ?_);refine zau ?_)|(with_reducible refine zst ?_)|((with_reducible refine Q0g ?_ ?_);rfl)|(with_reducible refine ok ?_;first|refine ACode.condT rfl ?_|refine ACode.condF rfl ?_))
 refine AOps.freeze1 (.l 0) 6 rfl rfl ?_
 refine zA ?_
 refine APure.fin rfl (.one (Wk.box ?_)) (by simp) hou rfl
 exact .cons (.refl _) (.cons (.refl _) (.cons (.nilS 1) (.cons (.any _) (.cons (.nilS 2) (.cons (.refl _) .nil)))))
theorem B_ok(op:Int)(b:List Int)(ks:List Tr):APure Tryz.prog Γ 61 [.one (int op),.one (.sl 1 (b.map cI)),.one (.sl 1 (Q26 ks))] (.one (.box (cNd (.mk op 0 b ks [])))):=by
 intro ou
 refine AFn.walk 13 tabOk Tryz.func61 rfl (by kernel_rfl) rfl rfl fun hou=>?_
 iterate 14 (first|((with_reducible refine oj ?_);refine zau ?_)|(with_reducible refine zst ?_)|((with_reducible refine Q0g ?_ ?_);rfl)|(with_reducible refine ok ?_;first|refine ACode.condT rfl ?_|refine ACode.condF rfl ?_))
 refine AOps.freeze1 (.l 0) 6 rfl rfl ?_
 refine zA ?_
 refine APure.fin rfl (.one (Wk.box ?_)) (by simp) hou rfl
 exact .cons (.refl _) (.cons (.refl _) (.cons (.refl _) (.cons (.any _) (.cons (.nilS 2) (.cons (.refl _) .nil)))))
theorem V_ok(hΓ:∀g cs,(g,cs)∈Γ->idsL isO cs)(n:Int):APure Tryz.prog Γ 30 [.one (int n)] (.one (.box (cNd (.mk 0 n [] [] [])))):=by
 intro ou
 refine AFn.walk 5 tabOk Tryz.func30 rfl (by kernel_rfl) rfl rfl fun hou=>?_
 refine zA ?_
 refine AOps.callCW (ws:=[.one (int 0),.one (int n),.one (.sl 1 (Q26 []))]) hΓ (N_ok 0 n []) rfl rfl rfl rfl rfl rfl ?_ hou (by simp) ?_
 ·exact .cons (.refl _) (.cons (.refl _) (.cons (.one (.nilS 1)) .nil))
 refine zA ?_
 exact APure.fin rfl (WkF.ofEq rfl) (by simp) hou rfl
def IntoOk (Γ:List (Nat×List AC))(t:Tr):Prop:=∀(ou:Outer)(ko kt:Nat)(out:List Ex),OuOk ou->ou ko=none->ou kt=none->ko≠kt->(listT out t).length<=1048576->
 AFn Tryz.prog Γ 31 [.one (.box (cNd t)),.one (.ptr (.o ko) 0)] (ouS ou ko kt (out.map cEx)) (fun r ou'=>r=.one (int (((listT out t).length:Int) - 1))/\∃kt',ou kt'=none/\ko≠kt'/\ou'=ouS ou ko kt' ((listT out t).map cEx))
set_option maxHeartbeats 1000000 in
theorem Qfj(hΓ:∀g cs,(g,cs)∈Γ->idsL isO cs):∀t:Tr,okT t->IntoOk Γ t
 |.mk o n b ks a,hok=>by
  obtain⟨hb,hk,ha,⟨hab,_⟩,hks⟩:=hok
  have ih:∀t∈ks,IntoOk Γ t:=fun t ht=>Qfj hΓ t (Q1v.1 hks t ht)
  intro ou ko kt out hou0 ho ht hne hsz
  have hsz2:(Q02 out ks).1.length < 1048576:=by simp only[listT,List.length_append,List.length_singleton]at hsz;omega
  refine AFn.walk 44 tabOk Tryz.func31 rfl (by kernel_rfl) rfl rfl fun hou=>?_
  refine zA ?_
  refine ACode.grow 0 3 3 1 rfl rfl ?_
  refine ACode.loopR hΓ (α:=Nat×Nat) (fun c=>[(18,.one (int c.1)),(17,.one (int (Q26 ks).length)),(16,.one (.sl 1 (Q26 ks))),(5,.one (.ptr (.l 0) 0)),(1,.one (.ptr (.o ko) 0))])
   (fun c=>⟨2,[(1,.tok 3 1 c.1),(0,.cells [int o,int n,.sl 1 (b.map cI),.gs 1 ((Q02 out (ks.take c.1)).2.map cI) (.l 1),.sl 2 (a.map cAlt)])],ouS ou ko c.2 ((Q02 out (ks.take c.1)).1.map cEx)⟩)
   (fun m c=>c.1<=ks.length/\(ou c.2=none/\ko≠c.2)/\m=ks.length - c.1) (a0:=(0,kt)) (ρ:=id) ⟨by omega,⟨ht,hne⟩,rfl⟩ (LessR.of rfl zFS (by simp) ?_ rfl (by simp[Q02];rfl) hou) fun m c hi=>?_
  ·repeat' first|exact LoSub.nil|refine zlc ?_|refine zld ?_ ?_|rfl
   all_goals (simp[AObj.ren,renL,AC.ren,Q02];rfl)
  obtain⟨i,kt⟩:=c
  obtain⟨hil,⟨ht,hne⟩,rfl⟩:=hi
  simp only at hil ht hne
  have hle:(Q02 out (ks.take i)).1.length<=(Q02 out ks).1.length:=by
   have:=Q2y (ks.take i) (ks.drop i) out
   rw[List.take_append_drop]at this
   rw[this];exact Q2x _ _
  refine zA ?_
  refine ACode.cond rfl (fun hb3=>?_) (fun hb3=>?_)
  ·have hlt2:i < ks.length:=by simpa using hb3
   obtain⟨t,ht2⟩:=Q01 hlt2
   have hsn:=Q4d t (ks.take i) out
   rw[←Q1c ht2]at hsn
   have hle2:(listT (Q02 out (ks.take i)).1 t).length<=1048576:=by
    have:=Q2y (ks.take (i+1)) (ks.drop (i+1)) out
    rw[List.take_append_drop]at this
    have h2:=Q2x (ks.drop (i+1)) (Q02 out (ks.take (i+1))).1
    rw[←this,hsn]at h2
    simp only at h2
    omega
   have hcall:=ih t (List.mem_of_getElem? ht2) ou ko kt (Q02 out (ks.take i)).1 hou0 ho ht hne hle2
   have hil2:((Q02 out (ks.take i)).2.map cI).length=i:=by rw[List.length_map,Q34];simp;omega
   refine zA ?_
   refine zS (zIA rfl rfl rfl (by omega) (Qe6 ht2)) ?_
   refine zA ?_
   refine ACode.drawXR (va:=.one (int (((listT (Q02 out (ks.take i)).1 t).length:Int) - 1))) tabOk 6 4 []
    (fun σ=>∃kt',ou kt'=none/\ko≠kt'/\σ=⟨2,[(1,.tok 3 1 i),(0,.cells [int o,int n,.sl 1 (b.map cI),.gs 1 ((Q02 out (ks.take i)).2.map cI) (.l 1),.sl 2 (a.map cAlt)])],ouS ou ko kt' ((listT (Q02 out (ks.take i)).1 t).map cEx)⟩)
    follows (by kernel_rfl) rfl rfl rfl rfl rfl ?_ rfl ⟨rfl,rfl⟩ rfl ?_ .nil ?_ ?_
   ·rintro σ ⟨kt',h1,h2,rfl⟩;rfl
   ·refine Q0k.call hΓ rfl rfl rfl rfl (by simp) (Q48 hou0 (by simp)) hcall fun r ou' hq _ _=>?_
    obtain⟨rfl,kt',h1,h2,rfl⟩:=hq
    exact⟨rfl,kt',h1,h2,rfl⟩
   ·intro σ _;exact .nil
   rintro σ ⟨kt',h1,h2,rfl⟩
   refine zA ?_
   refine AOps.app tabOk rfl rfl rfl rfl rfl rfl rfl rfl rfl (Base.gs' _ _ _ _ _ (by rfl) hil2.symm) (.sl _ _) rfl ?_ ?_ ?_
   ·rw[hil2];show (i+1) * 8<=_;omega
   ·rw[hil2];show i+1<=_;omega
   refine zM ?_
   refine cInv ⟨ks.length - (i+1),(i+1,kt'),fun k=>if k=1 then 2 else k,by omega,⟨by omega,⟨h1,h2⟩,rfl⟩,LessR.of rfl zFS (by simp) ?_ rfl (by simp only[hsn];rfl) (Q48 hou0 (by simp))⟩
   repeat' first|exact LoSub.nil|refine zlc ?_|refine zld ?_ ?_|rfl
   ·simp only[AObj.ren,List.length_append,hil2];rfl
   ·simp only[hsn];simp only[AObj.ren,renL,AC.ren,Q59,Q4p];rw[List.map_append];rfl
  have hlt2:i=ks.length:=by simp at hb3;omega
  subst hlt2
  rw[List.take_length]at *
  refine zA ?_
  have hT:listT out (.mk o n b ks a)=(Q02 out ks).1++[⟨o,n,b,(Q02 out ks).2,a⟩]:=by simp only[listT]
  have hmap:(Q02 out ks).1.map cEx++[cEx ⟨o,n,b,(Q02 out ks).2,a⟩]=(listT out (.mk o n b ks a)).map cEx:=by rw[hT,List.map_append];rfl
  have hw:WkF (.agg [int o,int n,.sl 1 (b.map cI),.gs 1 ((Q02 out ks).2.map cI) (.l 1),.sl 2 (a.map cAlt)]) (.agg (cEx ⟨o,n,b,(Q02 out ks).2,a⟩)):=WkF.agg (.cons (.refl _) (.cons (.refl _) (.cons (.refl _) (.cons (.gsE rfl) (.cons (.refl _) .nil)))))
  have hko:(bif Nat.beq ko kt then some AObj.dead else ouS ou ko kt ((Q02 out ks).1.map cEx) ko)=some (.cells [.gs 5 ((Q02 out ks).1.map cEx) (.o kt)]):=by rw[Q05 hne];exact ouS_o hne _
  refine ACode.drawXH (va:=.one (.gs 5 ((Q02 out ks).1.map cEx++[cEx ⟨o,n,b,(Q02 out ks).2,a⟩]) (.l 2))) (σ1:=(St.set ⟨2,[(1,.tok 3 1 ks.length),(0,.cells [int o,int n,.sl 1 (b.map cI),.gs 1 ((Q02 out ks).2.map cI) (.l 1),.sl 2 (a.map cAlt)])],ouS ou ko kt ((Q02 out ks).1.map cEx)⟩ (.o kt) .dead).push (.tok 53 5 ((Q02 out ks).1.map cEx++[cEx ⟨o,n,b,(Q02 out ks).2,a⟩]).length))
   tabOk 7 6 [(3,.one (.gs 5 ((Q02 out ks).1.map cEx) (.o kt))),(4,.agg (cEx ⟨o,n,b,(Q02 out ks).2,a⟩))] follows (by kernel_rfl) rfl rfl rfl rfl rfl rfl rfl ?_ ?_ ?_ ?_
  ·refine HStep.plain rfl (AStep.append (s:=5) (es:=(Q02 out ks).1.map cEx) (news:=[cEx ⟨o,n,b,(Q02 out ks).2,a⟩]) (ti:=ti39) (σ:=⟨2,[(1,.tok 3 1 ks.length),(0,.cells [int o,int n,.sl 1 (b.map cI),.gs 1 ((Q02 out ks).2.map cI) (.l 1),.sl 2 (a.map cAlt)])],ouS ou ko kt ((Q02 out ks).1.map cEx)⟩) tabOk rfl rfl rfl rfl rfl rfl (Base.gs' _ 53 5 _ (.o kt) (ouS_t ou ko kt _) rfl) (.sl _ _) rfl ?_ ?_)
   ·simp;show (_+1) * 88<=_;omega
   ·simp;omega
  ·refine .step rfl (zHP (zLD rfl rfl (ouS_o hne _) rfl)) ?_
   exact .step rfl (zHP (AStep.wk (AStep.ofOp tabOk rfl) hw)) .nil
  ·refine .step rfl (zHP (zLD rfl rfl hko rfl)) ?_
   exact .step rfl (zHP (AStep.wk (AStep.ofOp tabOk rfl) hw)) .nil
  rw[hmap]
  refine zA ?_
  refine AOps.storeOwn (cs:=[.gs 5 ((Q02 out ks).1.map cEx) (.o kt)]) tabOk rfl rfl rfl rfl rfl rfl rfl hko (by simp) ?_
  refine AOps.cede 2 (show 2 < 3 by omega) fun k hk=>⟨[(1,.one (.ptr (.o ko) 0))],⟨3,[],ouS ou ko k ((listT out (.mk o n b ks a)).map cEx)⟩,⟨fun d x hd=>?_,rfl,fun i x hx=>?_⟩,?_⟩
  ·by_cases e:1=d
   ·subst e
    simp[Fr.get]at hd;subst hd
    exact⟨_,rfl,WkF.ofEq rfl⟩
   ·simp[Fr.get,Q05 e]at hd
  ·have hk':(bif Nat.beq k ko then some (AObj.cells [.gs 5 ((listT out (.mk o n b ks a)).map cEx) (.l 2)])else bif Nat.beq k kt then some AObj.dead else ouS ou ko kt ((Q02 out ks).1.map cEx) k)=none:=hk
   have k1:k≠ko:=fun e=>by subst e;simp at hk'
   rw[Q05 k1]at hk'
   have k2:k≠kt:=fun e=>by subst e;simp at hk'
   rw[Q05 k2]at hk'
   simp only[cond_false,ouS_w k1 k2]at hk'
   cases i with
   |l m=>cases hx
   |o m=>
    have hx':ouS ou ko k ((listT out (.mk o n b ks a)).map cEx) m=some x:=hx
    by_cases e:m=k
    ·subst e
     rw[ouS_t]at hx';cases hx'
     exact⟨.l 2,_,rfl,rfl,rfl⟩
    ·by_cases e2:m=ko
     ·subst e2
      rw[ouS_o e]at hx';cases hx'
      refine⟨.o m,.cells [.gs 5 ((listT out (.mk o n b ks a)).map cEx) (.l 2)],?_,rfl,?_⟩
      ·show (bif Nat.beq m m then _ else _)=_;rw[Q2t];rfl
      ·simp only[AObj.sub,subL,AC.sub];rw[Q9l _ (by simp)];rfl
     ·rw[ouS_w e2 e]at hx'
      have e3:m≠kt:=fun e=>by rw[e,ht]at hx';cases hx'
      refine⟨.o m,x,?_,rfl,(AObj.sub_o x (hou0 m x hx')).symm⟩
      show (bif Nat.beq m ko then _ else bif Nat.beq m kt then _ else ouS ou ko kt _ m)=_
      rw[Q05 e2,Q05 e3]
      exact (ouS_w e2 e3 _).trans hx'
  ·have hk':(bif Nat.beq k ko then some (AObj.cells [.gs 5 ((listT out (.mk o n b ks a)).map cEx) (.l 2)])else bif Nat.beq k kt then some AObj.dead else ouS ou ko kt ((Q02 out ks).1.map cEx) k)=none:=hk
   have k1:k≠ko:=fun e=>by subst e;simp at hk'
   rw[Q05 k1]at hk'
   have k2:k≠kt:=fun e=>by subst e;simp at hk'
   rw[Q05 k2]at hk'
   simp only[cond_false,ouS_w k1 k2]at hk'
   refine zA ?_
   refine zS (zLD rfl rfl (ouS_o (Ne.symm k1) _) rfl) ?_
   refine zM ?_
   refine AFn.fin' rfl (WkF.ofEq ?_) (by simp) (Q48 hou0 (by simp)) ⟨rfl,k,hk',Ne.symm k1,rfl⟩
   simp
theorem Qbz(hΓ:∀g cs,(g,cs)∈Γ->idsL isO cs)(t:Tr)(ht:okT t)(hsz:(listT [] t).length<=1048576):APure Tryz.prog Γ 17 [.one (.box (cNd t))] (.one (.sl 5 ((listT [] t).map cEx))):=by
 intro ou
 refine AFn.walk 7 tabOk Tryz.func17 rfl (by kernel_rfl) rfl rfl fun hou=>?_
 iterate 11 (first|((with_reducible refine oj ?_);refine zau ?_)|(with_reducible refine zst ?_)|((with_reducible refine Q0g ?_ ?_);rfl)|(with_reducible refine ok ?_;first|refine ACode.condT rfl ?_|refine ACode.condF rfl ?_))
 refine ACode.grow 0 0 53 5 rfl rfl ?_
 refine zA ?_
 refine AOps.cede 0 (show 0 < 2 by omega) fun ko hko=>⟨[(4,.one (.box (cNd t))),(3,.one (.ptr (.o ko) 0))],
  ⟨2, [(1, .tok 53 5 0)], updO ou ko (.cells [.gs 5 [] (.l 1)])⟩, ⟨CedFr.get ?_, rfl, fun i x hx => ?_⟩, ?_⟩
 ·exact .cons rfl (FV.sub_o _ (by simp)) (.cons rfl rfl .nil)
 ·have hko:ou ko=none:=hko
  cases i with
  |l m=>
   by_cases e:1=m
   ·subst e;cases hx;exact⟨.l 1,_,rfl,rfl,rfl⟩
   ·simp[St.get,lookL,Q05 e]at hx
  |o m=>
   have hx':updO ou ko (.cells [.gs 5 [] (.l 1)]) m=some x:=hx
   by_cases e:ko=m
   ·subst e;rw[Q08]at hx';cases hx';exact⟨.l 0,_,rfl,rfl,rfl⟩
   ·rw[Q0i _ e]at hx'
    exact⟨.o m,x,hx',rfl,(AObj.sub_o x (hou m x hx')).symm⟩
 have hko:ou ko=none:=hko
 refine AOps.cede 1 (show 1 < 2 by omega) fun kt hkt=>⟨[(4,.one (.box (cNd t))),(3,.one (.ptr (.o ko) 0))],
  ⟨2, [], ouS ou ko kt (([] : List Ex).map cEx)⟩, ⟨CedFr.get ?_, rfl, fun i x hx => ?_⟩, ?_⟩
 ·exact .cons rfl (FV.sub_o _ (by simp)) (.cons rfl rfl .nil)
 ·have hkt:updO ou ko (.cells [.gs 5 [] (.l 1)]) kt=none:=hkt
  have hkto:ko≠kt:=fun e=>by subst e;rw[Q08]at hkt;cases hkt
  cases i with
  |l m=>cases hx
  |o m=>
   have hx':ouS ou ko kt (([]:List Ex).map cEx) m=some x:=hx
   by_cases e:m=kt
   ·subst e;rw[ouS_t]at hx';cases hx';exact⟨.l 1,_,rfl,rfl,rfl⟩
   ·by_cases e2:m=ko
    ·subst e2;rw[ouS_o hkto]at hx';cases hx'
     exact⟨.o m,.cells [.gs 5 [] (.l 1)],Q08 _ _ _,rfl,rfl⟩
    ·rw[ouS_w e2 e]at hx'
     refine⟨.o m,x,?_,rfl,(AObj.sub_o x (hou m x hx')).symm⟩
     show updO ou ko (.cells [.gs 5 [] (.l 1)]) m=_
     rw[Q0i _ (Ne.symm e2)];exact hx'
 have hkt:updO ou ko (.cells [.gs 5 [] (.l 1)]) kt=none:=hkt
 have hot:ko≠kt:=fun e=>by subst e;rw[Q08]at hkt;cases hkt
 rw[Q0i _ hot]at hkt
 have hcall:=Qfj hΓ t ht ou ko kt [] hou hko hkt hot hsz
 refine AOps.call1 hΓ rfl rfl rfl rfl rfl rfl rfl (by simp) (Q48 hou (by simp)) hcall fun r ou' hq hids hou'=>?_
 obtain⟨rfl,kt',h1,h2,rfl⟩:=hq
 refine zA ?_
 refine zS (zLD rfl rfl (ouS_o h2 _) rfl) ?_
 refine AOps.wk 6 rfl (y:=.one (.sl 5 ((listT [] t).map cEx))) (.one (.gsE rfl)) ?_
 refine AOps.lessO ⟨2,[],ou⟩ rfl (fun i o ho=>?_) ?_
 ·cases i with
  |l m=>cases ho
  |o m=>
   have ho':ou m=some o:=ho
   show ouS ou ko kt' _ m=some o
   have e1:m≠ko:=fun e=>by rw[e,hko]at ho';cases ho'
   have e3:m≠kt':=fun e=>by rw[←e,ho']at h1;cases h1
   rw[ouS_w e1 e3];exact ho'
 refine zA ?_
 exact APure.fin rfl (WkF.ofEq rfl) (by simp) hou rfl
end Go.Proofs.YtdpdlkgecmgokaaGreatDoor
namespace Go.CoreX
def Q9j (e:List Ex)(k:Nat):Tr:=(growL e).getD k default
theorem Q6m{e:List Ex}(hk:Q0y e){i:Nat}{x:Ex}(hx:e[i]?=some x):Q9j e i=.mk x.op x.n x.binds (x.kids.map fun k=>Q9j e k.toNat) x.alts:=by
 have hi:=(List.getElem?_eq_some_iff.1 hx).1
 have hs:e=e.take i++x::e.drop (i+1):=by
  obtain⟨h2,h3⟩:=List.getElem?_eq_some_iff.1 hx
  rw[←h3,←List.drop_eq_getElem_cons h2,List.take_append_drop]
 have hl:(e.take i).length=i:=by simp;omega
 have h1:=Q6e (e.take i) (e.drop (i+1)) x
 rw[←hs,hl]at h1
 unfold Q9j
 rw[h1]
 simp only[Q2c,Tr.mk.injEq,true_and,and_true]
 refine List.map_congr_left fun k hkk=>?_
 have hb:=hk i x hx k hkk
 have h2:=Q3n (e:=e.take i) (l:=x::e.drop (i+1)) (i:=k.toNat) (by rw[hl];omega)
 rw[←hs]at h2
 exact h2.symm
theorem Q3q:∀{e:List Ex}{k:Nat},0 < cnt e k->∃(i:Nat)(x:Ex),e[i]?=some x/\(k:Int)∈x.kids
 |[],k,h=>by simp[cnt]at h
 |x::e,k,h=>by
  simp only[cnt]at h
  by_cases h1:0 < x.kids.count (k:Int)
  ·exact⟨0,x,rfl,List.count_pos_iff.1 h1⟩
  ·obtain⟨i,y,h2,h3⟩:=Q3q (e:=e) (k:=k) (by omega)
   exact⟨i+1,y,by simpa using h2,h3⟩
end Go.CoreX
namespace Go.Proofs.YtdpdlkgecmgokaaGreatDoor
open Go Go.Abs Go.CoreX
variable {Γ:List (Nat×List AC)}
end Go.Proofs.YtdpdlkgecmgokaaGreatDoor
namespace Go.CoreX
mutual
def cntN:Tr->Nat
 |.mk _ _ _ k _=>cntNs k+1
def cntNs:List Tr->Nat
 |[]=>0
 |t::l=>cntN t+cntNs l
end
mutual
theorem Q1k:∀(t:Tr)(out:List Ex),(listT out t).length=out.length+cntN t
 |.mk o n b k a,out=>by
  have:=Q85 k out
  simp only[listT,cntN,List.length_append,List.length_singleton];omega
theorem Q85:∀(l:List Tr)(out:List Ex),(Q02 out l).1.length=out.length+cntNs l
 |[],out=>by simp[Q02,cntNs]
 |t::l,out=>by
  have h1:=Q1k t out
  have h2:=Q85 l (listT out t)
  simp only[Q02,cntNs];omega
end
theorem Q27:∀(l r:List Tr),cntNs (l++r)=cntNs l+cntNs r
 |[],r=>by simp[cntNs]
 |t::l,r=>by simp only[List.cons_append,cntNs,Q27 l r];omega
end Go.CoreX
namespace Go.Proofs.YtdpdlkgecmgokaaGreatDoor
open Go Go.Abs Go.CoreX
variable {Γ:List (Nat×List AC)}
end Go.Proofs.YtdpdlkgecmgokaaGreatDoor
namespace Go.CoreX
theorem Qh1{e:List Ex}(h:check e=0):∀x∈e,shape x=true:=by
 intro x hx
 unfold check body at h
 by_cases h1:Q1g e=0
 ·rw[if_neg (by simpa using h1)]at h
  by_cases h2:Q18 (Q0m false e) e=0
  ·have h3:=(Q20 _ e).1 h2 x hx
   unfold Q0m at h3
   simp only[Bool.false_and,Bool.not_false,Bool.true_and,Bool.false_or]at h3
   by_cases h4:Q4y x.op=true
   ·rw[if_pos h4]at h3;cases h3
   ·rw[if_neg h4]at h3
    unfold Q10 at h3
    by_cases h5:shape x=false
    ·rw[if_pos h5]at h3;cases h3
    ·simpa using h5
  ·rw[if_pos h2]at h;exact absurd h h2
 ·rw[if_pos h1]at h;exact absurd h h1
end Go.CoreX
namespace Go.Proofs.YtdpdlkgecmgokaaGreatDoor
open Go Go.Abs Go.CoreX
variable {Γ:List (Nat×List AC)}
def ow8 (l:List Int):Option Nat->AC
 |none=>.lit (.slice none 0 0)
 |some cap=>.arr (.l 0) 1 0 (l.map cI).length cap
def st8 (l:List Int)(ou:Outer):Option Nat->St
 |none=>⟨0,[],ou⟩
 |some cap=>⟨1,[(0,.cells (vec 1 (l.map cI) cap))],ou⟩
@[simp] theorem ids_ow8 (l l':List Int) (ou:Outer) (oc:Option Nat):(ow8 l oc).ids (inL (st8 l' ou oc).n):=by cases oc <;> simp[ow8,st8,AC.ids,inL]
end Go.Proofs.YtdpdlkgecmgokaaGreatDoor
namespace Go.CoreX
end Go.CoreX
namespace Go.Proofs.YtdpdlkgecmgokaaGreatDoor
open Go Go.Abs Go.CoreX
variable {Γ:List (Nat×List AC)}
end Go.Proofs.YtdpdlkgecmgokaaGreatDoor
namespace Go.CoreX
open Go.Abs (orI subI anI)
def ex0:Ex:=⟨0,0,[],[],[]⟩
def exN (e:List Ex)(i:Nat):Ex:=e.getD i ex0
def shK (e:List Ex)(k:Int):Tr:=.mk (exN e k.toNat).op (exN e k.toNat).n (exN e k.toNat).binds [] []
end Go.CoreX
namespace Go.Proofs.YtdpdlkgecmgokaaGreatDoor
open Go Go.Abs Go.CoreX
variable {Γ:List (Nat×List AC)}
def shD (e:List Ex)(l:List Int):List (List AC):=l.map fun k=>cB (shK e k)
@[simp] theorem ids_shD (p:Abs.Id->Prop) (e:List Ex) (l:List Int):idsS p (shD e l):=Q1l (fun k=>by simp[cB]) l
@[simp] theorem ren_shD (ρ:Nat->Nat) (e:List Ex) (l:List Int):renS ρ (shD e l)=shD e l:=Q19 ρ _ (by simp)
end Go.Proofs.YtdpdlkgecmgokaaGreatDoor
namespace Go.CoreX
end Go.CoreX
namespace Go.Proofs.YtdpdlkgecmgokaaGreatDoor
open Go Go.Abs Go.CoreX
variable {Γ:List (Nat×List AC)}
theorem W_ok(hΓ:∀g cs,(g,cs)∈Γ->idsL isO cs)(n:Int):APure Tryz.prog Γ 16 [.one (int n)] (.one (.box (cNd (.mk 1 n [] [] [])))):=by
 intro ou
 refine AFn.walk 5 tabOk Tryz.func16 rfl (by kernel_rfl) rfl rfl fun hou=>?_
 refine zA ?_
 refine AOps.callCW (ws:=[.one (int 1),.one (int n),.one (.sl 1 (Q26 []))]) hΓ (N_ok 1 n []) rfl rfl rfl rfl rfl rfl ?_ hou (by simp) ?_
 ·exact .cons (.refl _) (.cons (.refl _) (.cons (.one (.nilS 1)) .nil))
 refine zA ?_
 exact APure.fin rfl (WkF.ofEq rfl) (by simp) hou rfl
theorem Qid(hΓ:∀g cs,(g,cs)∈Γ->idsL isO cs)(t:Tr):APure Tryz.prog Γ 62 [.one (.box (cNd t))] (.one (.box (cNd (.mk 8 7 [] [t] [])))):=by
 intro ou
 refine AFn.walk 6 tabOk Tryz.func62 rfl (by kernel_rfl) rfl rfl fun hou=>?_
 refine zA ?_
 refine AOps.callC hΓ (N_ok 8 7 [t]) rfl rfl rfl rfl rfl rfl (by rw[Q51];rfl) hou (by simp) ?_
 refine zA ?_
 exact APure.fin rfl (WkF.ofEq rfl) (by simp) hou rfl
end Go.Proofs.YtdpdlkgecmgokaaGreatDoor
namespace Go.CoreX
abbrev Nb:=Option (Nat×Nat)
structure LAlt where
 tag:Int
 nb:Nb
 binds:List Int
def LAlt.er (a:LAlt):Alt:=⟨a.tag,a.binds⟩
inductive LTr where
 |mk (id:Nat) (op n:Int) (nb:Nb) (binds:List Int) (kids:List LTr) (alts:List LAlt)
instance:Inhabited LTr:=⟨.mk 0 0 0 none [] [] []⟩
def LTr.id:LTr->Nat|.mk i _ _ _ _ _ _=>i
mutual
def erT:LTr->Tr
 |.mk _ o n _ b k a=>.mk o n b (erTs k) (a.map LAlt.er)
def erTs:List LTr->List Tr
 |[]=>[]
 |t::ts=>erT t::erTs ts
end
theorem Qg7:∀l:List LTr,erTs l=l.map erT
 |[]=>rfl
 |t::l=>by simp[erTs,Qg7 l]
end Go.CoreX
namespace Go.Proofs.YtdpdlkgecmgokaaGreatDoor
open Go Go.Abs Go.CoreX
variable {Γ:List (Nat×List AC)}
def bC:Nb->List Int->AC
 |none,l=>.sl 1 (l.map cI)
 |some (a,cap),l=>.arr (.o a) 1 0 (l.map cI).length cap
def lAlt (x:LAlt):List AC:=[int x.tag,bC x.nb x.binds]
def kC (l:List LTr):List (List AC):=l.map fun t=>[.ptr (.o t.id) 0]
abbrev keys (l:List (Nat×AObj)):List Nat:=l.map (·.1)
def Owns (ou:Outer)(l:List (Nat×AObj)):Prop:=∀p∈l,ou p.1=some p.2
theorem Owns.app{ou:Outer}{l r:List (Nat×AObj)}:Owns ou (l++r)↔Owns ou l/\Owns ou r:=by
 unfold Owns
 constructor
 ·exact fun h=>⟨fun p hp=>h p (by simp[hp]),fun p hp=>h p (by simp[hp])⟩
 ·rintro⟨h1,h2⟩ p hp
  rcases List.mem_append.1 hp with hp|hp
  ·exact h1 p hp
  ·exact h2 p hp
theorem Owns.frame{ou ou':Outer}{l:List (Nat×AObj)}(h:Owns ou l)(hf:∀j∈keys l,ou' j=ou j):Owns ou' l:=fun p hp=>(hf p.1 (List.mem_map_of_mem hp)).trans (h p hp)
theorem Qft(p:Abs.Id->Prop)(hp:∀k,p (.o k))(nb:Nb)(l:List Int):(bC nb l).ids p:=by
 cases nb with
 |none=>simp[bC,AC.ids]
 |some x=>exact hp _
theorem ids_kC(p:Abs.Id->Prop)(hp:∀k,p (.o k))(l:List LTr):idsS p (kC l):=Q1l (f:=fun t:LTr=>[.ptr (.o t.id) 0]) (fun t=>by simp only[idsL,AC.ids,and_true];exact hp _) l
theorem Qa5(p:Abs.Id->Prop)(hp:∀k,p (.o k))(l:List LAlt):idsS p (l.map lAlt):=Q1l (f:=lAlt) (fun t=>by simp only[lAlt,idsL,AC.ids,and_true,true_and];exact Qft p hp _ _) l
end Go.Proofs.YtdpdlkgecmgokaaGreatDoor
namespace Go.CoreX
def frB (f:Int)(l:List Int):List Int:=(List.range l.length).map fun i:Nat=>f+i
def frN (m:Nm)(f:Int)(l:List Int):Nm:=putsN m l (frB f l)
end Go.CoreX
namespace Go.Proofs.YtdpdlkgecmgokaaGreatDoor
open Go Go.Abs Go.CoreX
variable {Γ:List (Nat×List AC)}
end Go.Proofs.YtdpdlkgecmgokaaGreatDoor
namespace Go.CoreX
def rnAs (nm:Nm)(f:Int):List LAlt->List LAlt×Nm×Int
 |[]=>([],nm,f)
 |x::l=>(⟨x.tag,x.nb,frB f x.binds⟩::(rnAs (frN nm f x.binds) (f+x.binds.length) l).1,(rnAs (frN nm f x.binds) (f+x.binds.length) l).2)
def ren1 (o:Int)(nm:Nm)(f:Int)(b:List Int):List Int×Nm×Int:=if o=9 then (b,nm,f)else (frB f b,frN nm f b,f+b.length)
mutual
def rnL (nm:Nm)(f:Int):LTr->LTr×Nm×Int
 |.mk i o n nb b k a=>
  let s1:=ren1 o nm f b
  let s2:=rnAs s1.2.1 s1.2.2 a
  let s3:=rnLs s2.2.1 s2.2.2 k
  (.mk i o (if o=0 then (nm n).getD n else n) nb s1.1 s3.1 s2.1,s3.2)
def rnLs (nm:Nm)(f:Int):List LTr->List LTr×Nm×Int
 |[]=>([],nm,f)
 |t::l=>((rnL nm f t).1::(rnLs (rnL nm f t).2.1 (rnL nm f t).2.2 l).1,(rnLs (rnL nm f t).2.1 (rnL nm f t).2.2 l).2)
end
def ownB (nb:Nb)(b:List Int):Prop:=nb=none->b=[]
mutual
def okL:LTr->Prop
 |.mk _ o _ nb b k a=>(o≠9->ownB nb b)/\b.length<=1048576/\k.length<=1048576/\a.length<=1048576/\(∀x∈a,ownB x.nb x.binds/\x.binds.length<=1048576)/\okLs k
def okLs:List LTr->Prop
 |[]=>True
 |t::l=>okL t/\okLs l
end
theorem Qcj:∀{l:List LTr},okLs l↔∀t∈l,okL t
 |[]=>by simp[okLs]
 |t::l=>by simp[okLs,Qcj (l:=l)]
end Go.CoreX
namespace Go.Proofs.YtdpdlkgecmgokaaGreatDoor
open Go Go.Abs Go.CoreX
variable {Γ:List (Nat×List AC)}
theorem Q8v(l r:List (Nat×AObj)):keys (l++r)=keys l++keys r:=by simp[keys]
theorem Q6b{ou:Outer}{k:Nat}{os:List AObj}(h:OuOk ou)(ho:∀o∈os,o.ids isO):OuOk (ouAdd ou k os):=by
 intro m o hm
 rcases Nat.lt_or_ge m k with h1|h1
 ·rw[Q13 h1]at hm;exact h m o hm
 ·obtain⟨p,rfl⟩:∃p,m=k+p:=⟨m - k,by omega⟩
  rw[Q0t]at hm
  exact ho o (List.mem_of_getElem? hm)
structure NewO (ou ou':Outer)(L:List (Nat×AObj)):Prop where
 own:Owns ou' L
 new:∀k∈keys L,ou k=none
 old:∀m,m∉keys L->ou' m=ou m
 ok:OuOk ou'
 nd:(keys L).Nodup
theorem NewO.nil{ou:Outer}(h:OuOk ou):NewO ou ou []:=⟨fun p hp=>by simp at hp,fun k hk=>by simp[keys]at hk,fun _ _=>rfl,h,by simp[keys]⟩
theorem NewO.trans{ou ou1 ou2:Outer}{L M:List (Nat×AObj)}(h:NewO ou ou1 L)(k:NewO ou1 ou2 M):NewO ou ou2 (L++M):=by
 have hLM:∀j∈keys L,j∉keys M:=fun j hj hm=>by
  have h1:=k.new j hm
  obtain⟨p,hp,rfl⟩:=List.mem_map.1 hj
  rw[h.own p hp]at h1
  cases h1
 refine⟨Owns.app.2 ⟨h.own.frame fun j hj=>k.old j (hLM j hj),k.own⟩,fun j hj=>?_,fun m hm=>?_,k.ok,?_⟩
 ·rw[Q8v,List.mem_append]at hj
  by_cases e:j∈keys L
  ·exact h.new j e
  ·rw[←h.old j e]
   exact k.new j (hj.resolve_left e)
 ·rw[Q8v,List.mem_append,not_or]at hm
  rw[k.old m hm.2,h.old m hm.1]
 ·rw[Q8v,List.nodup_append]
  exact⟨h.nd,k.nd,fun a ha b hb e=>hLM a ha (e▸hb)⟩
end Go.Proofs.YtdpdlkgecmgokaaGreatDoor
namespace Go.CoreX
end Go.CoreX
namespace Go.Proofs.YtdpdlkgecmgokaaGreatDoor
open Go Go.Abs Go.CoreX
structure LinkL (e:List Ex)(lts:List LTr)(B:Nb->List Int->Prop:=ownB):Prop where
 len:lts.length=e.length
 at_:∀(i:Nat) (x:Ex),e[i]?=some x->∃id nb a,lts[i]?=some (.mk id x.op x.n nb x.binds (x.kids.map fun q=>lts.getD q.toNat default) a)/\a.map LAlt.er=x.alts/\B nb x.binds/\∀y∈a,B y.nb y.binds
theorem LinkL.nil{B:Nb->List Int->Prop}:LinkL [] [] B:=⟨rfl,fun i x h=>by simp at h⟩
section
variable {e:List Ex}{lts:List LTr}{B:Nb->List Int->Prop}
theorem LinkL.getD(h:LinkL e lts B){i:Nat}{t:LTr}(ht:lts[i]?=some t):lts.getD i default=t:=by rw[List.getD_eq_getElem?_getD,ht];rfl
theorem LinkL.er(h:LinkL e lts B)(hk:Q0y e):∀(n i:Nat)(t:LTr),i < n->lts[i]?=some t->erT t=Q9j e i
 |0,i,t,hi,_=>by omega
 |n+1,i,t,hi,ht=>by
  have hil:i < e.length:=by rw[←h.len];exact (List.getElem?_eq_some_iff.1 ht).1
  obtain⟨x,hx⟩:=Q01 hil
  obtain⟨id,nb,a,h1,h2,_⟩:=h.at_ i x hx
  rw[ht]at h1
  cases h1
  rw[Q6m hk hx]
  simp only[erT,h2,Qg7,List.map_map]
  congr 1
  refine List.map_congr_left fun q hq=>?_
  have hq':=hk i x hx q hq
  obtain⟨t',ht'⟩:=Q01 (l:=lts) (i:=q.toNat) (by rw[h.len];omega)
  simp only[Function.comp,h.getD ht']
  exact h.er hk n q.toNat t' (by omega) ht'
theorem LinkL.ok(h:LinkL e lts)(hk:Q0y e)(hs:∀x∈e,x.binds.length<=1048576/\x.kids.length<=1048576/\x.alts.length<=1048576/\∀a∈x.alts,a.binds.length<=1048576):∀(n i:Nat)(t:LTr),i < n->lts[i]?=some t->okL t
 |0,i,t,hi,_=>by omega
 |n+1,i,t,hi,ht=>by
  have hil:i < e.length:=by rw[←h.len];exact (List.getElem?_eq_some_iff.1 ht).1
  obtain⟨x,hx⟩:=Q01 hil
  obtain⟨id,nb,a,h1,h2,h3,h4⟩:=h.at_ i x hx
  obtain⟨s1,s2,s3,s4⟩:=hs x (List.mem_of_getElem? hx)
  rw[ht]at h1
  cases h1
  refine⟨fun _=>h3,s1,by simpa using s2,by have:=congrArg List.length h2;simp at this;omega,fun y hy=>⟨h4 y hy,?_⟩,Qcj.2 fun u hu=>?_⟩
  ·exact s4 y.er (by rw[←h2];exact List.mem_map_of_mem hy)
  ·obtain⟨q,hq,rfl⟩:=List.mem_map.1 hu
   have hq':=hk i x hx q hq
   obtain⟨t',ht'⟩:=Q01 (l:=lts) (i:=q.toNat) (by rw[h.len];omega)
   rw[h.getD ht']
   exact h.ok hk hs n q.toNat t' (by omega) ht'
end
variable {Γ:List (Nat×List AC)}
def Qf5 (ts:List LTr)(n:Nat):List AC:=ts.map (fun t=>.ptr (.o t.id) 0)++List.replicate (n - ts.length) (.lit (.pointer none))
theorem Q7z(p:Abs.Id->Prop)(hp:∀k,p (.o k))(ts:List LTr)(n:Nat):idsL p (Qf5 ts n):=by
 refine Q6d ?_ (Qfm p _ _)
 induction ts with
 |nil=>trivial
 |cons t ts ih=>exact⟨hp _,ih⟩
@[simp] theorem ids_nodesL_l (k:Nat) (ts:List LTr) (n:Nat):idsL (inL k) (Qf5 ts n):=Q7z _ (fun _=>trivial) ts n
@[simp] theorem ids_nodesL_o (ts:List LTr) (n:Nat):idsL isO (Qf5 ts n):=Q7z _ (fun _=>trivial) ts n
@[simp] theorem ids_kC_l (k:Nat) (ts:List LTr):idsS (inL k) (kC ts):=ids_kC _ (fun _=>trivial) ts
@[simp] theorem Qho (ts:List LTr):idsS isO (kC ts):=ids_kC _ (fun _=>trivial) ts
@[simp] theorem ids_lAlts_l (k:Nat) (l:List LAlt):idsS (inL k) (l.map lAlt):=Qa5 _ (fun _=>trivial) l
@[simp] theorem Qbg (l:List LAlt):idsS isO (l.map lAlt):=Qa5 _ (fun _=>trivial) l
@[simp] theorem ids_bC_l (k:Nat) (nb:Nb) (l:List Int):(bC nb l).ids (inL k):=Qft _ (fun _=>trivial) nb l
@[simp] theorem ids_bC_o (nb:Nb) (l:List Int):(bC nb l).ids isO:=Qft _ (fun _=>trivial) nb l
@[simp] theorem ren_kC (ρ:Nat->Nat) (l:List LTr):renS ρ (kC l)=kC l:=Q19 ρ _ (Qho l)
@[simp] theorem ren_lAlts (ρ:Nat->Nat) (l:List LAlt):renS ρ (l.map lAlt)=l.map lAlt:=Q19 ρ _ (Qbg l)
@[simp] theorem ren_bC (ρ:Nat->Nat) (nb:Nb) (l:List Int):(bC nb l).ren ρ=bC nb l:=by cases nb <;> simp[bC,AC.ren,Abs.Id.ren]
theorem NewO.add{ou:Outer}{k:Nat}{o:AObj}(hk:∀m,k<=m->ou m=none)(hou:OuOk ou)(ho:o.ids isO):NewO ou (ouAdd ou k [o]) [(k,o)]:=by
 refine⟨fun p hp=>?_,fun j hj=>?_,fun m hm=>?_,Q6b hou fun q hq=>by simp at hq;subst hq;exact ho,by simp[keys]⟩
 ·simp at hp;subst hp
  exact Q0t 0
 ·simp[keys]at hj;subst hj;exact hk _ (Nat.le_refl _)
 ·simp[keys]at hm
  rcases Nat.lt_or_ge m k with h1|h1
  ·exact Q13 h1
  ·obtain⟨p,rfl⟩:∃p,m=k+p:=⟨m - k,by omega⟩
   rw[Q0t,hk _ h1]
   cases p with
   |zero=>simp at hm
   |succ p=>simp
end Go.Proofs.YtdpdlkgecmgokaaGreatDoor
namespace Go.CoreX
end Go.CoreX
namespace Go.Proofs.YtdpdlkgecmgokaaGreatDoor
open Go Go.Abs Go.CoreX
variable {Γ:List (Nat×List AC)}
end Go.Proofs.YtdpdlkgecmgokaaGreatDoor
namespace Go.CoreX
-- What holds of all nodes.
mutual
def allT (p:Lab->Prop):Tr->Prop
 |.mk o n b k a=>p ⟨o,n,b,k.map Tr.op,a⟩/\allTs p k
def allTs (p:Lab->Prop):List Tr->Prop
 |[]=>True
 |t::l=>allT p t/\allTs p l
end
theorem Q7e{p:Lab->Prop}:∀{l:List Tr},allTs p l↔∀t∈l,allT p t
 |[]=>by simp[allTs]
 |t::l=>by simp[allTs,Q7e (l:=l)]
theorem Qgj{e:List Ex}(hk:Q0y e){p:Lab->Prop}(h:∀x∈e,p (labE e x)):∀(n i:Nat),i < n->i < e.length->allT p (Q9j e i)
 |0,i,hi,_=>by omega
 |n+1,i,hi,hl=>by
  obtain⟨x,hx⟩:∃x,e[i]?=some x:=⟨e[i],List.getElem?_eq_getElem hl⟩
  rw[Q6m hk hx]
  refine⟨?_,Q7e.2 fun t ht=>?_⟩
  ·have:=h x (List.mem_of_getElem? hx)
   simp only[labE]at this
   simp only[List.map_map]
   exact this
  ·obtain⟨q,hq,rfl⟩:=List.mem_map.1 ht
   have:=hk i x hx q hq
   exact Qgj hk h n q.toNat (by omega) (by omega)
theorem Qat{e:List Ex}(h:IsTree e){p:Lab->Prop}(hp:∀x∈e,p (labE e x)):allT p (grow e):=by
 have:=List.length_pos_iff.2 h.ne
 exact Qgj h.k hp _ (e.length - 1) (Nat.lt_succ_self _) (by omega)
end Go.CoreX
namespace Go.CoreX
structure ShN (o n:Int)(b:List Int)(k:Nat)(a:List Alt):Prop where
 sh:∃ops:List Int,ops.length=k/\shape ⟨o,n,b,ops,a⟩=true
section
variable {o n:Int}{b:List Int}{k:Nat}{a:List Alt}
theorem ShN.want(h:ShN o n b k a)(h7:¬(o=7∨o=13)):∃w:Int×Int×Bool,(∃ops:List Int,ops.length=k/\wants ⟨o,n,b,ops,a⟩=some w)/\(k:Int)=w.1/\(b.length:Int)=w.2.1/\a=[]:=by
 obtain⟨ops,hl,h⟩:=h.sh
 unfold shape at h
 rw[if_neg h7]at h
 split at h
 ·cases h
 ·rename_i kk bb u hw
  simp only[Bool.and_eq_true,beq_iff_eq,List.length_eq_zero_iff]at h
  exact⟨_,⟨ops,hl,hw⟩,by rw[←hl];exact h.1.1.1,h.1.1.2,h.1.2⟩
theorem ShN.lam(h:ShN 2 n b k a):k=1/\a=[]:=by
 obtain⟨w,⟨ops,hl,hw⟩,h1,h2,h3⟩:=h.want (by omega)
 cases hw;exact⟨by simp at h1;omega,h3⟩
theorem ShN.app(h:ShN 3 n b k a):1<=k/\b=[]/\a=[]:=by
 obtain⟨w,⟨ops,hl,hw⟩,h1,h2,h3⟩:=h.want (by omega)
 cases hw
 refine⟨?_,List.length_eq_zero_iff.1 (by simp at h2;simp[h2]),h3⟩
 simp only at h1;split at h1 <;> omega
theorem ShN.lett(h:ShN 4 n b k a):k=2/\b.length=1/\a=[]:=by
 obtain⟨w,⟨ops,hl,hw⟩,h1,h2,h3⟩:=h.want (by omega)
 cases hw;exact⟨by simp at h1;omega,by simp at h2;omega,h3⟩
theorem ShN.recs(h:ShN 5 n b k a):k=b.length+1/\1<=b.length/\a=[]:=by
 obtain⟨w,⟨ops,hl,hw⟩,h1,h2,h3⟩:=h.want (by omega)
 cases hw
 refine⟨by simp at h1;omega,?_,h3⟩
 simp only at h2;split at h2 <;> omega
theorem ShN.prim(h:ShN 8 n b k a):0<=n/\n<=11/\(k:Int)=Q3s.getD n.toNat 0/\b=[]/\a=[]:=by
 obtain⟨w,⟨ops,hl,hw⟩,h1,h2,h3⟩:=h.want (by omega)
 have hw:(if between n 0 11=true then some (Q3s.getD n.toNat 0,(0:Int),true)else none)=some w:=hw
 split at hw
 ·rename_i hb
  cases hw
  simp[between]at hb
  exact⟨hb.1,hb.2,h1,List.length_eq_zero_iff.1 (by simp at h2;simp[h2]),h3⟩
 ·cases hw
theorem ShN.row(h:ShN 9 n b k a):k=b.length/\a=[]:=by
 obtain⟨w,⟨ops,hl,hw⟩,h1,h2,h3⟩:=h.want (by omega)
 cases hw;exact⟨by simp at h1;omega,h3⟩
theorem ShN.one(h:ShN o n b k a)(ho:o=10∨o=12∨o=16):k=1/\b=[]/\a=[]:=by
 obtain⟨w,⟨ops,hl,hw⟩,h1,h2,h3⟩:=h.want (by omega)
 rcases ho with rfl|rfl|rfl <;> (cases hw;exact⟨by simp at h1;omega,List.length_eq_zero_iff.1 (by simp at h2;simp[h2]),h3⟩)
theorem ShN.alts7(h:ShN o n b k a)(ho:o=7∨o=13):k=1+a.length/\b=[]/\(o=13->1<=a.length)/\∀i x,a[i]?=some x->Q3t ⟨o,n,b,[],a⟩ i x=false:=by
 obtain⟨ops,hl,h⟩:=h.sh
 unfold shape at h
 rw[if_pos ho]at h
 simp only[Bool.and_eq_true,beq_iff_eq,List.length_eq_zero_iff]at h
 obtain⟨⟨h1,h2⟩,h3⟩:=h
 unfold Q65 at h1
 simp only[Bool.and_eq_true,Bool.not_eq_true',beq_iff_eq,Bool.or_eq_true,decide_eq_true_eq]at h1
 obtain⟨h4,h5,h6⟩:=h1
 refine⟨by omega,h2,fun h13=>?_,fun i x hx=>?_⟩
 ·rcases h6 with h6|h6
  ·subst h13;cases h6
  ·omega
 ·rw[List.any_eq_false]at h4
  have:=h4 (x,i) (by rw[List.mk_mem_zipIdx_iff_getElem?];exact hx)
  simpa[Q3t]using this
theorem ShN.case(h:ShN 7 n b k a):k=1+a.length/\b=[]:=⟨(h.alts7 (.inl rfl)).1,(h.alts7 (.inl rfl)).2.1⟩
theorem ShN.handle(h:ShN 13 n b k a):k=1+a.length/\b=[]/\1<=a.length/\∀i x,a[i]?=some x->(i=0↔x.tag=-1)/\x.binds.length=if i=0 then 1 else 2:=by
 obtain⟨h1,h2,h3,h4⟩:=h.alts7 (.inr rfl)
 refine⟨h1,h2,h3 rfl,fun i x hx=>?_⟩
 have:=h4 i x hx
 simp only[Q3t,Bool.or_eq_false_iff,Bool.and_eq_false_iff,Bool.not_eq_false',beq_iff_eq,beq_eq_false_iff_ne]at this
 obtain⟨_,h5,h6⟩:=this
 refine⟨?_,?_⟩
 ·rcases h5 with h5|h5
  ·exact absurd rfl h5
  ·by_cases hi:i=0
   ·subst hi;simpa using h5
   ·have:((i:Int)==0)=false:=by simp[hi]
    rw[this]at h5
    simp[hi]at h5 ⊢;exact h5
 ·rcases h6 with h6|h6
  ·exact absurd rfl h6
  ·split at h6
   ·rw[if_neg (by omega)];omega
   ·rename_i hh
    have:i=0∨i=1:=by omega
    rcases this with rfl|rfl <;> simp <;> omega
theorem ShN.leaf(h:ShN o n b k a)(ho:o=0∨o=1∨o=17):k=0/\b=[]/\a=[]:=by
 obtain⟨w,⟨ops,hl,hw⟩,h1,h2,h3⟩:=h.want (by omega)
 rcases ho with rfl|rfl|rfl <;> (cases hw;exact⟨by simp at h1;omega,List.length_eq_zero_iff.1 (by simp at h2;simp[h2]),h3⟩)
end
def shpQ (l:Lab):Prop:=ShN l.op l.n l.binds l.ops.length l.alts
theorem Qet{t:Tr}(h:allT shpQ t):ShN t.op t.n t.binds t.kids.length t.alts:=by
 cases t with
 |mk o n b k a=>simpa[shpQ]using h.1
theorem Q56{p:Lab->Prop}{t s:Tr}(h:allT p t)(hs:s∈t.kids):allT p s:=by
 cases t with
 |mk o n b k a=>exact Q7e.1 h.2 s hs
theorem Q23{p:Lab->Prop}{t:Tr}(h:allT p t){i:Nat}(hi:i < t.kids.length):allT p (t.kids.getD i default):=by
 rw[List.getD_eq_getElem?_getD,List.getElem?_eq_getElem hi]
 exact Q56 h (List.getElem_mem hi)
theorem Q12{p:Lab->Prop}{t:Tr}(h:allT p t):p ⟨t.op,t.n,t.binds,t.kids.map Tr.op,t.alts⟩:=by
 cases t with
 |mk o n b k a=>exact h.1
mutual
theorem Qdh{p q:Lab->Prop}(h:∀l,p l->q l):∀t:Tr,allT p t->allT q t
 |.mk o n b k a,ht=>⟨h _ ht.1,Qar h k ht.2⟩
theorem Qar{p q:Lab->Prop}(h:∀l,p l->q l):∀l:List Tr,allTs p l->allTs q l
 |[],_=>trivial
 |t::l,ht=>⟨Qdh h t ht.1,Qar h l ht.2⟩
end
theorem shpQ_of{l:Lab}(h:shape ⟨l.op,l.n,l.binds,l.ops,l.alts⟩=true):shpQ l:=⟨⟨l.ops,rfl,h⟩⟩
end Go.CoreX
namespace Go.CoreX
-- Names that a tree does not bind keep their new names.
end Go.CoreX
namespace Go.CoreX
def tl (a:Alt):Int×Nat:=(a.tag,a.binds.length)
end Go.CoreX
namespace Go.CoreX
theorem sum0{α:Type}{f:α->Int}:∀{l:List α},(∀x∈l,0<=f x)->(l.map f).sum=0->∀x∈l,f x=0
 | [], _, _, x, hx => by simp at hx
 |y::l,h,hs,x,hx=>by
  have h1:=h y (by simp)
  have h2:∀z∈l,0<=f z:=fun z hz=>h z (by simp[hz])
  have h3:0<=(l.map f).sum:=by
   clear h h1 hs hx
   induction l with
   |nil=>simp
   |cons z l ih=>
    have:=h2 z (by simp)
    have:=ih fun y hy=>h2 y (by simp[hy])
    simp only[List.map_cons,List.sum_cons];omega
  simp only[List.map_cons,List.sum_cons]at hs
  rcases List.mem_cons.1 hx with rfl|hx
  ·omega
  ·exact sum0 h2 (by omega) x hx
open Classical in
mutual
theorem Qel{p:Lab->Prop}:∀t:Tr,allT p t->sumT (fun l=>if p l then 0 else 1) t=0
 |.mk o n b k a,h=>by
  simp only[sumT,Qc5 k h.2]
  rw[if_pos h.1];rfl
theorem Qc5{p:Lab->Prop}:∀l:List Tr,allTs p l->sumTs (fun l=>if p l then 0 else 1) l=0
 |[],_=>rfl
 |t::l,h=>by simp only[sumTs,Qel t h.1,Qc5 l h.2];rfl
end
open Classical in
theorem Qgi{p:Lab->Prop}{g:List Ex}(h:IsTree g)(ha:allT p (grow g)):∀l∈labs g,p l:=by
 have h1:=Q68 (fun l=>if p l then (0:Int)else 1) h
 rw[Qel _ ha]at h1
 intro l hl
 have:=sum0 (fun x _=>by split <;> omega) h1 l hl
 split at this
 ·assumption
 ·cases this
theorem Q4g{e:List Ex}(h:check e=0):Q1g e=0/\(∀x∈e,Q0m false e x=0)/\(Q09 e).Nodup/\occT [] (grow e)=[]:=by
 unfold check body at h
 by_cases h1:Q1g e=0
 ·rw [if_neg (by simpa using h1)] at h
  by_cases h2:Q18 (Q0m false e) e=0
  ·rw[if_neg (by simpa using h2)]at h
   by_cases h3:Q4w ([]++Q09 e)=true
   ·rw[if_pos h3]at h;cases h
   ·rw[if_neg h3]at h
    have h3':=(Q2q _).1 (by simpa using h3)
    refine⟨h1,(Q20 _ _).1 h2,by simpa using h3',?_⟩
    by_cases h4:(Q1z (grow e)).all (fun n=>([]:List Int).contains n)=true
    ·have h5:Q1z (grow e)=[]:=by
      cases hf:Q1z (grow e) with
      |nil=>rfl
      |cons n l=>rw[hf]at h4;simp at h4
     unfold Q1z at h5
     cases ho:occT [] (grow e) with
     |nil=>rfl
     |cons n l=>
      have:=(Q4n n (n::l)).2 (by simp)
      rw[←ho,h5]at this
      simp at this
    ·rw[if_neg h4]at h;cases h
  ·rw[if_pos (by simpa using h2)]at h;exact absurd h h2
 ·rw[if_pos h1]at h;exact absurd h h1
end Go.CoreX
namespace Go.Proofs.YtdpdlkgecmgokaaGreatDoor
open Go Go.Abs Go.CoreX
variable {Γ:List (Nat×List AC)}
end Go.Proofs.YtdpdlkgecmgokaaGreatDoor
namespace Go.CoreX
structure pOk (l:Lab):Prop where
 b:l.binds.length<=1048576
 k:l.ops.length<=1048576
 a:l.alts.length<=1048576
 ab:∀x∈l.alts,x.binds.length<=1048576
 s:l.binds.length+(l.alts.flatMap (·.binds)).length<=4194304
-- Two lists in order, with the same members, are one list.
end Go.CoreX
namespace Go.Proofs.YtdpdlkgecmgokaaGreatDoor
open Go Go.Abs Go.CoreX
theorem Qdv{g:List Ex}(hl:g.length<=1048576)(h:∀l∈labs g,pOk l):okB g:=by
 refine⟨⟨hl,fun x hx=>?_⟩,fun x hx=>?_⟩
 ·have:=h _ (List.mem_map_of_mem (f:=labE g) hx)
  exact⟨this.b,by simpa[labE]using this.k,this.a,this.ab⟩
 ·exact (h _ (List.mem_map_of_mem (f:=labE g) hx)).s
end Go.Proofs.YtdpdlkgecmgokaaGreatDoor
namespace Go.CoreX
end Go.CoreX
namespace Go.CoreX
mutual
theorem Qbb:∀t:Tr,okT t->allT pOk t
 |.mk o n b k a,h=>⟨⟨h.1,by simpa using h.2.1,h.2.2.1,h.2.2.2.1.1,h.2.2.2.1.2⟩,Qcg k h.2.2.2.2⟩
theorem Qcg:∀l:List Tr,okTs l->allTs pOk l
 |[],_=>trivial
 |t::l,h=>⟨Qbb t h.1,Qcg l h.2⟩
end
end Go.CoreX
namespace Go.Proofs.YtdpdlkgecmgokaaGreatDoor
open Go Go.Abs Go.CoreX
theorem Qck{T:Tr}(h:allT pOk T)(hl:cntN T<=1048576):okB (listT [] T):=Qdv (by have:=Q1k T [];simp at this;omega) (Qgi (Q70 _) (by rw[Qaa];exact h))
end Go.Proofs.YtdpdlkgecmgokaaGreatDoor
namespace Go.CoreX
mutual
inductive Vl where
 |nil
 |word (n:Int)
 |clo (t:Tr) (e:En)
 |obj (tag:Int) (fs:List Vl)
 |row (ls:List Int) (fs:List Vl)
 |arr (a:Nat)
 |res (fs:List Fm)
 |cap (fn:Int) (slots:List Vl)
inductive En where
 |nil
 |bind (id:Int) (v:Vl) (next:En)
 |recs (t:Tr) (next:En)
inductive Fm where
 |mk (t:Tr) (e:En) (done:List Vl)
end
instance:Inhabited Vl:=⟨.nil⟩
instance:Inhabited Fm:=⟨.mk default .nil []⟩
def Fm.t:Fm->Tr|.mk t _ _=>t
def Fm.e:Fm->En|.mk _ e _=>e
def Fm.done:Fm->List Vl|.mk _ _ d=>d
@[simp] theorem Fm.t_mk (t e d):(Fm.mk t e d).t=t:=rfl
@[simp] theorem Fm.e_mk (t e d):(Fm.mk t e d).e=e:=rfl
@[simp] theorem Fm.done_mk (t e d):(Fm.mk t e d).done=d:=rfl

def Q6x (l:List Int)(id:Int):Nat->Option Nat
 |0=>none
 |i+1=>if l.getD i 0=id then some i else Q6x l id i
def findE (id:Int):En->Vl
 |.nil=>.nil
 |.bind i v n=>if i=id then v else findE id n
 |.recs t n=>match Q6x t.binds id t.binds.length with
  |some i=>.clo (t.kids.getD i default) (.recs t n)
  |none=>findE id n
def allE (e:En):List Int->List Vl->En
 |id::ids,l=>allE (.bind id (l.headD .nil) e) ids l.tail
 |[],_=>e

inductive Ctl where
 |ev (t:Tr) (e:En)
 |rt (v:Vl)
structure Ms where
 c:Ctl
 k:List Fm
 out:List Int
 steps:Int
 heap:List (List Vl)
structure Fun where
 params:List Int
 body:Tr

def condV (b:Bool):Vl:=.obj (if b then 1 else 0) []
def wrapW (n:Int):Int:=(n+1073741824) % 2147483648 - 1073741824
def wordV:Vl->Except Int Int
 |.word n=>.ok n
 |_=>.error 5
def Qfi (h:List (List Vl)):Vl->Except Int (Nat×List Vl)
 |.arr a=>.ok (a,h.getD a [])
 |_=>.error 5
def rowsV:Vl->Except Int (List Int×List Vl)
 |.row ls fs=>.ok (ls,fs)
 |_=>.error 5

def bsGo (l:List Int)(x:Int):Nat->Nat->Nat->Nat
 |0,i,_=>i
 |g+1,i,j=>if i < j then (if l.getD ((i+j) / 2) 0 < x then bsGo l x g ((i+j) / 2+1) j else bsGo l x g i ((i+j) / 2))else i
def bsAt (l:List Int)(x:Int):Nat:=bsGo l x l.length 0 l.length
def bsIs (l:List Int)(x:Int):Bool:=decide (bsAt l x < l.length)&&l.getD (bsAt l x) 0==x

def Qd4 (fu:Int)(m:Ms)(many:Int)(v:Vl):Except Int (Ms×Vl):=
 if many < 0∨1024 < many then .error 6 else if fu - m.steps < many then .error (-1) else
 .ok ({ m with steps:=m.steps+many,heap:=m.heap++[List.replicate many.toNat v] },.arr m.heap.length)
def Q9b (m:Ms)(n:Int)(l:List Vl):Except Int (Ms×Vl):=do
 let (a,its) ←Qfi m.heap (l.getD 0 .nil)
 if n=9 then return (m,.word its.length)
 let i ←wordV (l.getD 1 .nil)
 if i < 0∨(its.length:Int)<=i then .error 2
 else if n=10 then return (m,its.getD i.toNat .nil)
 else return ({ m with heap:=m.heap.set a (its.set i.toNat (l.getD 2 .nil)) },.obj 0 [])
def primM (fu:Int)(m:Ms)(n:Int)(l:List Vl):Except Int (Ms×Vl):=
 if n=0 then do return (m,.word (wrapW ((←wordV (l.getD 0 .nil))+(←wordV (l.getD 1 .nil))))) else
 if n=1 then do return (m,.word (wrapW ((←wordV (l.getD 0 .nil)) - (←wordV (l.getD 1 .nil))))) else
 if n=2 then do return (m,.word (wrapW ((←wordV (l.getD 0 .nil)) * (←wordV (l.getD 1 .nil))))) else
 if n=3 then do
  let a ←wordV (l.getD 0 .nil)
  let b ←wordV (l.getD 1 .nil)
  if b=0 then .error 1 else return (m,.word (wrapW (a.tdiv b))) else
 if n=4 then do
  let a ←wordV (l.getD 0 .nil)
  let b ←wordV (l.getD 1 .nil)
  if b=0 then .error 1 else return (m,.word (a.tmod b)) else
 if n=5 then do return (m,condV (decide ((←wordV (l.getD 0 .nil)) < (←wordV (l.getD 1 .nil))))) else
 if n=6 then do return (m,condV (decide ((←wordV (l.getD 0 .nil))=(←wordV (l.getD 1 .nil))))) else
 if n=7 then do
  let a ←wordV (l.getD 0 .nil)
  if m.out.length=1000 then .error 6 else return ({ m with out:=m.out++[a] },.obj 0 []) else
 if n=8 then do
  let a ←wordV (l.getD 0 .nil)
  Qd4 fu m a (l.getD 1 .nil) else
 Q9b m n l
def withR (ls:List Int)(fs:List Vl)(n:Int)(v:Vl):Vl:=
 if bsIs ls n then .row ls (fs.set (bsAt ls n) v)
 else .row (ls.take (bsAt ls n)++n::ls.drop (bsAt ls n)) (fs.take (bsAt ls n)++v::fs.drop (bsAt ls n))
def Q3c (fu:Int)(m:Ms)(t:Tr)(l:List Vl):Except Int (Ms×Vl):=
 if t.op=6 then .ok (m,.obj t.n l) else
 if t.op=8 then primM fu m t.n l else
 if t.op=9 then .ok (m,.row t.binds l) else
 if t.op=10 then do
  let (ls,fs) ←rowsV (l.getD 0 .nil)
  if bsIs ls t.n then return (m,fs.getD (bsAt ls t.n) .nil)else .error 3
 else do
  let (ls,fs) ←rowsV (l.getD 0 .nil)
  return (m,withR ls fs t.n (l.getD 1 .nil))
def opdN (t:Tr):Nat:=if t.op=4∨t.op=7∨t.op=13∨t.op=12 then 1 else t.kids.length
def Q16 (tag:Int)(fs:List Vl)(e:En)(kids:List Tr):Nat->List Alt->Except Int Ctl
 |_,[]=>.error 3
 |i,a::al=>if a.tag=tag then (if a.binds.length=fs.length then .ok (.ev (kids.getD (1+i) default) (allE e a.binds fs))else .error 5)
  else if a.tag=-1 then .ok (.ev (kids.getD (1+i) default) e)else Q16 tag fs e kids (i+1) al
def Q2a (m:Ms)(t:Tr)(e:En)(v:Vl):Except Int Ms:=
 match v with
 |.obj tag fs=>(Q16 tag fs e t.kids 0 t.alts).map fun c=>{ m with c:=c }
 |_=>.error 5
def callM (fns:List Fun)(m:Ms)(f:Vl)(args:List Vl):Except Int Ms:=
 match f with
 |.clo t e=>if t.binds.length=args.length then .ok { m with c:=.ev (t.kids.getD 0 default) (allE e t.binds args) }else .error 5
 |.cap n slots=>if (fns.getD n.toNat ⟨[],default⟩).params.length=args.length+1 then .ok { m with c:=.ev (fns.getD n.toNat ⟨[],default⟩).body (allE .nil (fns.getD n.toNat ⟨[],default⟩).params (.cap n slots::args)) }else .error 5
 |.res fs=>match args with
  |[a]=>.ok { m with c:=.rt a,k:=fs++m.k }
  |_=>.error 5
 |_=>.error 5
def Q6h (op:Int):Nat->List Alt->Option Nat
 |_,[]=>none
 |i,a::al=>if a.tag=op/\0 < i then some i else Q6h op (i+1) al
def Q2o (m:Ms)(op:Int)(v:Vl):List Fm->List Fm->Except Int Ms
 |_,[]=>.error 4
 |l,f::k=>match (if f.t.op=13 then Q6h op 0 f.t.alts else none) with
  |some i=>.ok { m with c:=.ev (f.t.kids.getD (1+i) default) (.bind ((f.t.alts.getD i ⟨0,[]⟩).binds.getD 1 0) (.res (l++[f])) (.bind ((f.t.alts.getD i ⟨0,[]⟩).binds.getD 0 0) v f.e)),k:=k }
  |none=>Q2o m op v (l++[f]) k
def kidM (fu:Int)(fns:List Fun)(m:Ms)(f:Fm)(k:List Fm):Except Int Ms:=
 if f.done.length < opdN f.t then .ok { m with c:=.ev (f.t.kids.getD f.done.length default) f.e,k:=f::k } else
 if f.t.op=4 then .ok { m with c:=.ev (f.t.kids.getD 1 default) (.bind (f.t.binds.getD 0 0) (f.done.getD 0 .nil) f.e),k:=k } else
 if f.t.op=7 then Q2a { m with k:=k } f.t f.e (f.done.getD 0 .nil) else
 if f.t.op=3 then callM fns { m with k:=k } (f.done.getD 0 .nil) (f.done.drop 1) else
 if f.t.op=13 then .ok { m with c:=.ev (f.t.kids.getD 1 default) (.bind ((f.t.alts.getD 0 ⟨0,[]⟩).binds.getD 0 0) (f.done.getD 0 .nil) f.e),k:=k } else
 if f.t.op=12 then Q2o m f.t.n (f.done.getD 0 .nil) [] k else
 if f.t.op=14 then .ok { m with c:=.ev (fns.getD f.t.n.toNat ⟨[],default⟩).body (allE .nil (fns.getD f.t.n.toNat ⟨[],default⟩).params f.done),k:=k } else
 if f.t.op=15 then .ok { m with c:=.rt (.cap f.t.n f.done),k:=k } else
 if f.t.op=16 then (match f.done.getD 0 .nil with
  |.cap _ slots=>if f.t.n < slots.length then .ok { m with c:=.rt (slots.getD f.t.n.toNat .nil),k:=k }else .error 5
  |_=>.error 5) else
 (Q3c fu { m with k:=k } f.t f.done).map fun (m',v)=>{ m' with c:=.rt v }
def Q2i (fu:Int)(fns:List Fun)(m:Ms)(t:Tr)(e:En):Except Int Ms:=
 if t.op=0 then .ok { m with c:=.rt (findE t.n e) } else
 if t.op=1 then .ok { m with c:=.rt (.word t.n) } else
 if t.op=2 then .ok { m with c:=.rt (.clo t e) } else
 if t.op=17 then .error t.n else
 if t.op=5 then .ok { m with c:=.ev (t.kids.getD t.binds.length default) (.recs t e) } else
 kidM fu fns m (.mk t e []) m.k
inductive Rd where
 |next (m:Ms)
 |done (m:Ms) (v:Vl)
 |fuel
 |trap (code:Int) (m:Ms)
def Q0x (fu:Int)(fns:List Fun)(m:Ms):Rd:=
 match m.c with
 |.rt v=>match m.k with
  |[]=>.done m v
  |f::k=>match kidM fu fns m (.mk f.t f.e (f.done++[v])) k with
   |.ok m'=>.next m'
   |.error c=>.trap c m
 |.ev t e=>if m.steps=fu then .fuel else
  match Q2i fu fns { m with steps:=m.steps+1 } t e with
  |.ok m'=>.next m'
  |.error c=>.trap c { m with steps:=m.steps+1 }
structure Rs where
 out:List Int
 fin:Int
 val:Int
 steps:Int
 err:Int
 deriving DecidableEq
def lastV:Vl->Int
 |.word n=>n
 |.obj t _=>t
 |_=>0
def noFuel:Rs:=⟨[],0,0,0,13⟩
def goM (fu:Int)(fns:List Fun):Nat->Ms->Option Rs
 |0,_=>none
 |g+1,m=>match Q0x fu fns m with
  |.next m'=>goM fu fns g m'
  |.done m v=>some ⟨m.out,0,lastV v,m.steps,0⟩
  |.fuel=>some noFuel
  |.trap c m=>some (if c < 0 then noFuel else ⟨m.out,c,0,m.steps,0⟩)
end Go.CoreX
namespace Go.CoreX
inductive Rn (fu:Int)(fns:List Fun):Nat->Ms->Ms->Prop
 |zero (m:Ms):Rn fu fns 0 m m
 |succ {n:Nat}{m m1 m':Ms}(h:Q0x fu fns m=.next m1) (k:Rn fu fns n m1 m'):Rn fu fns (n+1) m m'
section
variable {fu:Int}{fns:List Fun}
theorem Rn.trans{n n':Nat}{m m1 m2:Ms}(a:Rn fu fns n m m1)(b:Rn fu fns n' m1 m2):Rn fu fns (n'+n) m m2:=by
 induction a with
 |zero m=>exact b
 |succ h k ih=>exact .succ h (ih b)
theorem Rn.go{n:Nat}{m m':Ms}(a:Rn fu fns n m m')(g:Nat):goM fu fns (g+n) m=goM fu fns g m':=by
 induction a with
 |zero m=>rfl
 |succ h k ih=>
  rw[←Nat.add_assoc,goM,h]
  exact ih
def Rs' (fu:Int)(fns:List Fun)(m m':Ms):Prop:=∃n,Rn fu fns n m m'
theorem Rs'.trans{m m1 m2:Ms}(a:Rs' fu fns m m1)(b:Rs' fu fns m1 m2):Rs' fu fns m m2:=by
 obtain⟨n,a⟩:=a;obtain⟨k,b⟩:=b;exact⟨_,a.trans b⟩
theorem Rs'.one{m m1 m2:Ms}(h:Q0x fu fns m=.next m1)(b:Rs' fu fns m1 m2):Rs' fu fns m m2:=by
 obtain⟨k,b⟩:=b;exact⟨_,.succ h b⟩
end
end Go.CoreX
namespace Go.CoreX
section
variable {fu:Int}{fns:List Fun}
def tV (n:Int):Tr:=.mk 0 n [] [] []
def tW (n:Int):Tr:=.mk 1 n [] [] []
def loopB:Tr:=.mk 7 0 [] [.mk 8 5 [] [tV 2,tW 1] [],tW 0,.mk 8 0 [] [tV 2,.mk 3 0 [] [tV 1,.mk 8 1 [] [tV 2,tW 1] []] []] []] [⟨1,[]⟩,⟨-1,[]⟩]
def loopF:Tr:=.mk 2 0 [2] [loopB] []
def loopT (n:Int):Tr:=.mk 5 0 [1] [loopF,.mk 8 7 [] [.mk 3 0 [] [tV 1,tW n] []] []] []
end
end Go.CoreX
namespace Go.CoreX
mutual
def szV:Vl->Nat
 |.res fs=>szFs fs
 |_=>0
def szVs:List Vl->Nat
 |[]=>0
 |v::vs=>szV v+szVs vs
def szF:Fm->Nat
 |.mk _ _ d=>1+szVs d
def szFs:List Fm->Nat
 |[]=>0
 |f::fs=>szF f+szFs fs
end
theorem Qgw(a b:List Fm):szFs (a++b)=szFs a+szFs b:=by
 induction a with
 |nil=>simp[szFs]
 |cons x a ih=>simp[szFs,ih];omega
def phase (m:Ms):Nat:=match m.c with
 |.ev _ _=>0
 |.rt _=>1+szFs m.k
structure After (fu:Int)(m m':Ms)(b:Nat):Prop where
 ge:m.steps<=m'.steps
 le:m.steps<=fu->m'.steps<=fu
 ph:phase m' < 1+b
theorem Q86{tag:Int}{fs:List Vl}{e:En}{kids:List Tr}{c:Ctl}:∀(i:Nat)(l:List Alt),Q16 tag fs e kids i l=.ok c->∃t e',c=.ev t e'
 |_,[],h=>by cases h
 |i,a::al,h=>by
  unfold Q16 at h
  split at h
  ·split at h
   ·cases h;exact⟨_,_,rfl⟩
   ·cases h
  ·split at h
   ·cases h;exact⟨_,_,rfl⟩
   ·exact Q86 _ al h
theorem Q6s{m m':Ms}{op:Int}{v:Vl}:∀(l k:List Fm),Q2o m op v l k=.ok m'->(∃t e',m'.c=.ev t e')/\m'.steps=m.steps
 |_,[],h=>by cases h
 |l,f::k,h=>by
  unfold Q2o at h
  split at h
  ·cases h;exact⟨⟨_,_,rfl⟩,rfl⟩
  ·exact Q6s _ k h
theorem Qba{fu:Int}{m m':Ms}{n:Int}{l:List Vl}{v:Vl}(h:primM fu m n l=.ok (m',v)):m.steps<=m'.steps/\(m.steps<=fu->m'.steps<=fu)/\m'.k=m.k:=by
 have bd:∀{α β:Type}{x:Except Int α}{f:α->Except Int β}{r:β},x.bind f=.ok r->∃a,x=.ok a/\f a=.ok r:=by
  intro α β x f r hh
  cases x with
  |error c=>cases hh
  |ok a=>exact⟨a,rfl,hh⟩
 unfold primM at h
 repeat' split at h
 all_goals try (simp only[bind,Except.bind,pure,Except.pure]at h;repeat' split at h)
 all_goals try (cases h;done)
 all_goals try (cases h;exact⟨Int.le_refl _,id,rfl⟩)
 ·unfold Qd4 at h
  repeat' split at h
  all_goals try (cases h;done)
  cases h
  refine⟨?_,?_,rfl⟩ <;> simp <;> omega
 ·unfold Q9b at h
  simp only[bind,Except.bind,pure,Except.pure]at h
  repeat' split at h
  all_goals try (cases h;done)
  all_goals (cases h;exact⟨Int.le_refl _,id,rfl⟩)
theorem Q3j{fu:Int}{m m':Ms}{t:Tr}{l:List Vl}{v:Vl}(h:Q3c fu m t l=.ok (m',v)):m.steps<=m'.steps/\(m.steps<=fu->m'.steps<=fu)/\m'.k=m.k:=by
 unfold Q3c at h
 repeat' split at h
 ·cases h;exact⟨Int.le_refl _,id,rfl⟩
 ·exact Qba h
 ·cases h;exact⟨Int.le_refl _,id,rfl⟩
 ·simp only[bind,Except.bind,pure,Except.pure]at h
  repeat' split at h
  all_goals try (cases h;done)
  all_goals (cases h;exact⟨Int.le_refl _,id,rfl⟩)
 ·simp only[bind,Except.bind,pure,Except.pure]at h
  repeat' split at h
  all_goals try (cases h;done)
  all_goals (cases h;exact⟨Int.le_refl _,id,rfl⟩)
theorem Q5f{fu:Int}{fns:List Fun}{m m':Ms}{f:Fm}{k:List Fm}(h:kidM fu fns m f k=.ok m')(d0:List Vl)(v:Vl)(hd:f.done=d0++[v]∨(f.done=[]/\d0=[])):After fu m m' (1+szVs d0+szFs k):=by
 unfold kidM at h
 split at h
 ·cases h;exact⟨Int.le_refl _,id,by simp[phase];omega⟩
 split at h
 ·cases h;exact⟨Int.le_refl _,id,by simp[phase];omega⟩
 split at h
 ·unfold Q2a at h
  split at h
  ·cases hc:Q16 _ _ f.e f.t.kids 0 f.t.alts with
   |error c=>rw[hc]at h;cases h
   |ok c=>
    rw[hc]at h
    obtain⟨t,e',rfl⟩:=Q86 _ _ hc
    cases h
    exact⟨Int.le_refl _,id,by simp[phase];omega⟩
  ·cases h
 split at h
 ·unfold callM at h
  split at h
  ·split at h
   ·cases h;exact⟨Int.le_refl _,id,by simp[phase];omega⟩
   ·cases h
  ·split at h
   ·cases h;exact⟨Int.le_refl _,id,by simp[phase];omega⟩
   ·cases h
  ·rename_i fs hf
   split at h
   ·rename_i a ha
    cases h
    refine⟨Int.le_refl _,id,?_⟩
    simp only[phase,Qgw]
    rcases hd with hd|⟨hd,_⟩
    ·rw[hd]at hf ha
     have:d0=[.res fs]:=by
      have hl:=congrArg List.length ha
      simp at hl
      match d0,hl with
      |[x],_=>simp at hf;rw[hf]
     subst this
     simp[szVs,szV]
    ·rw[hd]at ha;cases ha
   ·cases h
  ·cases h
 split at h
 ·cases h;exact⟨Int.le_refl _,id,by simp[phase];omega⟩
 split at h
 ·obtain⟨⟨t,e',hc⟩,hs⟩:=Q6s _ _ h
  refine⟨by rw[hs];exact Int.le_refl _,fun hh=>by rw[hs];exact hh,?_⟩
  simp[phase,hc];omega
 split at h
 ·cases h;exact⟨Int.le_refl _,id,by simp[phase];omega⟩
 split at h
 ·cases h;exact⟨Int.le_refl _,id,by simp[phase];omega⟩
 split at h
 ·split at h
  ·split at h
   ·cases h;exact⟨Int.le_refl _,id,by simp[phase];omega⟩
   ·cases h
  ·cases h
 ·cases hp:Q3c fu { m with k:=k } f.t f.done with
  |error c=>rw[hp]at h;cases h
  |ok mv=>
   obtain⟨m2,v2⟩:=mv
   rw[hp]at h
   cases h
   obtain⟨h1,h2,h3⟩:=Q3j hp
   refine⟨h1,h2,?_⟩
   simp only[phase,h3];omega
end Go.CoreX
namespace Go.CoreX
structure GP where
 p:Lab->Prop
 S:Int->Prop
 W:Int->Prop
 fns:List Fun
 R:Prop:=True
structure GPok (G:GP):Prop where
 sh:∀l,G.p l->shpQ l
 bnd:∀l,G.p l->∀i∈Q0h l.op l.binds l.alts,G.S i
 wd:∀l,G.p l->l.op=1->G.W l.n
 rc:∀l,G.p l->l.op=5->∀i,i < l.binds.length->l.ops[i]?=some 2
 wr:∀n,G.W (wrapW n)
 wl:∀n:Int,0<=n->n<=1024->G.W n
 wm:∀a b:Int,G.W a->G.W b->G.W (a.tmod b)
 fn:∀f∈G.fns,allT G.p f.body/\∀i∈f.params,G.S i
 cl:∀l,G.p l->l.op=14∨l.op=15->0<=l.n/\l.n < G.fns.length
 rs:∀l,G.p l->l.op=12->G.R
def nLf (o:Int):Prop:=¬(o=0∨o=1∨o=2∨o=17∨o=5)
mutual
def gV (G:GP):Vl->Prop
 |.nil=>True
 |.word n=>G.W n
 |.clo t e=>t.op=2/\allT G.p t/\gE G e
 |.obj _ fs=>gVs G fs
 |.row ls fs=>ls.length=fs.length/\gVs G fs
 |.arr _=>True
 |.res fs=>G.R/\gFs G fs
 |.cap n sl=>(0<=n/\n < G.fns.length)/\gVs G sl
def gVs (G:GP):List Vl->Prop
 |[]=>True
 |v::l=>gV G v/\gVs G l
def gE (G:GP):En->Prop
 |.nil=>True
 |.bind i v n=>G.S i/\gV G v/\gE G n
 |.recs t n=>t.op=5/\allT G.p t/\gE G n
def gF (G:GP):Fm->Prop
 |.mk t e d=>allT G.p t/\gE G e/\gVs G d/\d.length < opdN t/\nLf t.op
def gFs (G:GP):List Fm->Prop
 |[]=>True
 |f::l=>gF G f/\gFs G l
end
def gC (G:GP):Ctl->Prop
 |.ev t e=>allT G.p t/\gE G e
 |.rt v=>gV G v
structure gM (G:GP)(m:Ms):Prop where
 c:gC G m.c
 k:gFs G m.k
 h:∀r∈m.heap,r.length<=1024/\gVs G r
section
variable {G:GP}(hG:GPok G)
theorem Q1h:∀{l:List Vl},gVs G l↔∀v∈l,gV G v
 |[]=>by simp[gVs]
 |v::l=>by simp[gVs,Q1h (l:=l)]
theorem Q92:∀{l:List Fm},gFs G l↔∀v∈l,gF G v
 |[]=>by simp[gFs]
 |v::l=>by simp[gFs,Q92 (l:=l)]
theorem gF_iff{f:Fm}:gF G f↔allT G.p f.t/\gE G f.e/\gVs G f.done/\f.done.length < opdN f.t/\nLf f.t.op:=by cases f;exact Iff.rfl
theorem Q2e{l:List Vl}(h:gVs G l)(i:Nat):gV G (l.getD i .nil):=by
 rw[List.getD_eq_getElem?_getD]
 cases hi:l[i]? with
 |none=>simp[gV]
 |some v=>exact Q1h.1 h v (List.mem_of_getElem? hi)
theorem Qbi{a b:List Vl}(ha:gVs G a)(hb:gVs G b):gVs G (a++b):=Q1h.2 fun v hv=>(List.mem_append.1 hv).elim (Q1h.1 ha v) (Q1h.1 hb v)
theorem Qbj{a b:List Fm}(ha:gFs G a)(hb:gFs G b):gFs G (a++b):=Q92.2 fun v hv=>(List.mem_append.1 hv).elim (Q92.1 ha v) (Q92.1 hb v)
theorem Q73:∀{ids:List Int}{l:List Vl}{e:En},gE G e->gVs G l->(∀i∈ids,G.S i)->gE G (allE e ids l)
 |[],_,_,he,_,_=>he
 |i::ids,l,e,he,hl,hs=>by
  refine Q73 (ids:=ids) ⟨hs i (by simp),?_,he⟩ ?_ fun j hj=>hs j (by simp[hj])
  ·cases l with
   |nil=>simp[gV]
   |cons v l=>exact hl.1
  ·cases l with
   |nil=>simp[gVs]
   |cons v l=>exact hl.2
include hG
theorem g_sh{t:Tr}(h:allT G.p t):ShN t.op t.n t.binds t.kids.length t.alts:=Qet (Qdh hG.sh t h)
theorem g_bnd{t:Tr}(h:allT G.p t):∀i∈Q0h t.op t.binds t.alts,G.S i:=hG.bnd _ (Q12 h)
theorem Qfy{t:Tr}(h:allT G.p t){i:Nat}{a:Alt}(ha:t.alts[i]?=some a):∀j∈a.binds,G.S j:=fun j hj=>g_bnd hG h j (by
 unfold Q0h
 exact List.mem_append.2 (.inr (List.mem_flatMap.2 ⟨a,List.mem_of_getElem? ha,hj⟩)))
omit hG in
theorem Qa0{l:List Int}{id:Int}:∀{n i:Nat},Q6x l id n=some i->i < n/\l.getD i 0=id
 |0,_,h=>by cases h
 |n+1,i,h=>by
  unfold Q6x at h
  split at h
  ·rename_i he;cases h;exact⟨by omega,he⟩
  ·have:=Qa0 h;exact⟨by omega,this.2⟩
theorem Qht{t:Tr}(h:allT G.p t)(h5:t.op=5){i:Nat}(hi:i < t.binds.length):(t.kids.getD i default).op=2/\allT G.p (t.kids.getD i default)/\i < t.kids.length:=by
 have h1:=hG.rc _ (Q12 h) h5 i hi
 simp only at h1
 rw[List.getElem?_map]at h1
 cases hk:t.kids[i]? with
 |none=>rw[hk]at h1;cases h1
 |some s=>
  rw[hk]at h1
  have hl:=(List.getElem?_eq_some_iff.1 hk).1
  refine⟨?_,Q23 h hl,hl⟩
  rw[List.getD_eq_getElem?_getD,hk]
  simpa using h1
theorem Qbk{id:Int}:∀{e:En},gE G e->gV G (findE id e)
 |.nil,_=>by simp[findE,gV]
 |.bind i v n,h=>by
  unfold findE
  split
  ·exact h.2.1
  ·exact Qbk h.2.2
 |.recs t n,h=>by
  unfold findE
  split
  ·rename_i i hi
   have h1:=(Qa0 hi).1
   have h2:=Qht hG h.2.1 h.1 h1
   exact⟨h2.1,h2.2.1,h.1,h.2.1,h.2.2⟩
  ·exact Qbk h.2.2
theorem Qal{t:Tr}{e:En}{tag:Int}{fs:List Vl}{c:Ctl}(ht:allT G.p t)(h7:t.op=7)(he:gE G e)(hf:gVs G fs):∀(l:List Alt)(i:Nat),t.alts.drop i=l->Q16 tag fs e t.kids i l=.ok c->gC G c
 |[],_,_,h=>by cases h
 |a::al,i,hd,h=>by
  have ha:t.alts[i]?=some a:=by
   have:=congrArg (·[0]?) hd
   simpa using this
  have hl:=(List.getElem?_eq_some_iff.1 ha).1
  have hsh:=g_sh hG ht
  rw[h7]at hsh
  have hk:1+i < t.kids.length:=by rw[hsh.case.1];omega
  unfold Q16 at h
  split at h
  ·split at h
   ·cases h;exact⟨Q23 ht hk,Q73 he hf (Qfy hG ht ha)⟩
   ·cases h
  ·split at h
   ·cases h;exact⟨Q23 ht hk,he⟩
   ·exact Qal ht h7 he hf al (i+1) (by rw[←List.drop_drop,hd];rfl) h
omit hG in
theorem Q54{op:Int}:∀{l:List Alt}{i j:Nat},Q6h op i l=some j->0 < j/\i<=j/\∃a,l[j - i]?=some a/\a.tag=op
 |[],_,_,h=>by cases h
 |a::al,i,j,h=>by
  unfold Q6h at h
  split at h
  ·rename_i hc;cases h;exact⟨hc.2,by omega,a,by simp,hc.1⟩
  ·obtain⟨h1,h2,b,h3,h4⟩:=Q54 h
   refine⟨h1,by omega,b,?_,h4⟩
   rw[show j - i=(j - (i+1))+1 by omega];simpa using h3
theorem Q7r{op:Int}{v:Vl}{m m':Ms}(hR:G.R)(hv:gV G v)(hh:∀r∈m.heap,r.length<=1024/\gVs G r):∀{k l:List Fm},gFs G l->gFs G k->Q2o m op v l k=.ok m'->gM G m'
 | [], _, _, _, h => by cases h
 |f::k,l,hl,hk,h=>by
  unfold Q2o at h
  split at h
  ·rename_i i hi
   split at hi
   ·rename_i h13
    obtain⟨h1,h2,a,h3,h4⟩:=Q54 hi
    cases h
    cases f with
    |mk t e d=>
     obtain⟨g1,g2,g3,g4⟩:=hk.1
     simp only[Fm.t_mk,Fm.e_mk]at *
     have hsh:=g_sh hG g1
     rw[h13]at hsh
     have h3:t.alts[i]?=some a:=by simpa using h3
     have hil:=(List.getElem?_eq_some_iff.1 h3).1
     have hb:=(hsh.handle.2.2.2 i a h3).2
     rw[if_neg (by omega)]at hb
     have hS:=Qfy hG g1 h3
     have hga:t.alts.getD i ⟨0,[]⟩=a:=by rw[List.getD_eq_getElem?_getD,h3];rfl
     match hab:a.binds,hb with
     |[x,y],_=>
      refine⟨⟨Q23 g1 (by rw[hsh.handle.1];omega),?_,?_,?_,hv,g2⟩,hk.2,hh⟩
      ·rw[hga,hab];exact hS _ (by rw[hab];simp)
      ·exact⟨hR,Qbj (b:=[_]) hl ⟨⟨g1,g2,g3,g4⟩,trivial⟩⟩
      ·rw[hga,hab];exact hS _ (by rw[hab];simp)
   ·cases hi
  ·exact Q7r hR hv hh (Qbj (b:=[f]) hl ⟨hk.1,trivial⟩) hk.2 h
theorem primM_g{fu:Int}{m m':Ms}{n:Int}{l:List Vl}{v:Vl}(hl:gVs G l)(hh:∀r∈m.heap,r.length<=1024/\gVs G r)(h:primM fu m n l=.ok (m',v)):gV G v/\∀r∈m'.heap,r.length<=1024/\gVs G r:=by
 have hw:∀{i:Nat}{a:Int},wordV (l.getD i .nil)=.ok a->G.W a:=by
  intro i a ha
  have:=Q2e hl i
  cases hv:l.getD i Vl.nil <;> rw[hv]at ha this <;> first|(cases ha;done)|(cases ha;exact this)
 unfold primM at h
 repeat' split at h
 all_goals try (simp only[bind,Except.bind,pure,Except.pure]at h;repeat' split at h)
 all_goals try (cases h;done)
 all_goals try (cases h;refine⟨?_,hh⟩;first|exact hG.wr _|(simp only[condV,gV,gVs];done))
 ·rename_i a ha _ b hb _
  cases h;exact⟨hG.wm _ _ (hw ha) (hw hb),hh⟩
 ·unfold Qd4 at h
  repeat' split at h
  all_goals try (cases h;done)
  cases h
  refine⟨trivial,fun r hr=>?_⟩
  rcases List.mem_append.1 hr with hr|hr
  ·exact hh r hr
  ·simp at hr
   subst hr
   refine⟨by simp;omega,Q1h.2 fun v hv=>?_⟩
   rw[(List.mem_replicate.1 hv).2]
   exact Q2e hl 1
 ·unfold Q9b at h
  simp only[bind,Except.bind,pure,Except.pure]at h
  have hit:∀{a:Nat}{its:List Vl},Qfi m.heap (l.getD 0 .nil)=.ok (a,its)->its.length<=1024/\gVs G its:=by
   intro a its ha
   cases hv:l.getD 0 Vl.nil <;> rw[hv]at ha <;> try (cases ha;done)
   cases ha
   rw[List.getD_eq_getElem?_getD]
   cases hr:m.heap[a]? with
   |none=>simp[gVs]
   |some r=>exact hh r (List.mem_of_getElem? hr)
  cases hp:Qfi m.heap (l.getD 0 .nil) with
  |error c=>rw[hp]at h;cases h
  |ok p=>
   obtain⟨a,its⟩:=p
   rw[hp]at h
   simp only at h
   by_cases h9:n=9
   ·rw[if_pos h9]at h
    cases h
    exact⟨hG.wl _ (by omega) (by have:=(hit hp).1;omega),hh⟩
   rw[if_neg h9]at h
   cases hw1:wordV (l.getD 1 .nil) with
   |error c=>rw[hw1]at h;cases h
   |ok i=>
    rw[hw1]at h
    simp only at h
    split at h
    ·cases h
    split at h
    ·cases h
     exact⟨Q2e (hit hp).2 _,hh⟩
    ·cases h
     refine⟨by simp only[gV,gVs],fun r hr=>?_⟩
     rcases List.mem_or_eq_of_mem_set hr with hr|hr
     ·exact hh r hr
     ·subst hr
      refine⟨by simpa using (hit hp).1,Q1h.2 fun v hv=>?_⟩
      rcases List.mem_or_eq_of_mem_set hv with hv|hv
      ·exact Q1h.1 (hit hp).2 v hv
      ·rw[hv];exact Q2e hl 2
theorem Qha{fu:Int}{m m':Ms}{t:Tr}{l:List Vl}{v:Vl}(ht:allT G.p t)(hlen:l.length=t.kids.length)(hl:gVs G l)(hh:∀r∈m.heap,r.length<=1024/\gVs G r)(h:Q3c fu m t l=.ok (m',v)):gV G v/\∀r∈m'.heap,r.length<=1024/\gVs G r:=by
 have hr:∀{ls:List Int}{fs:List Vl},rowsV (l.getD 0 .nil)=.ok (ls,fs)->ls.length=fs.length/\gVs G fs:=by
  intro ls fs ha
  have:=Q2e hl 0
  cases hv:l.getD 0 Vl.nil <;> rw[hv]at ha this <;> first|(cases ha;done)|(cases ha;exact this)
 unfold Q3c at h
 split at h
 ·cases h;exact⟨hl,hh⟩
 split at h
 ·exact primM_g hG hl hh h
 split at h
 ·rename_i h9
  cases h
  have:=g_sh hG ht
  rw[h9]at this
  exact⟨⟨by rw[hlen];exact this.row.1.symm,hl⟩,hh⟩
 split at h
 ·simp only[bind,Except.bind,pure,Except.pure]at h
  repeat' split at h
  all_goals try (cases h;done)
  rename_i _ p hp _
  obtain⟨ls,fs⟩:=p
  cases h
  exact⟨Q2e (hr hp).2 _,hh⟩
 ·simp only[bind,Except.bind,pure,Except.pure]at h
  repeat' split at h
  all_goals try (cases h;done)
  rename_i _ p hp
  obtain⟨ls,fs⟩:=p
  cases h
  refine⟨?_,hh⟩
  have hv:=Q2e hl 1
  obtain⟨h1,h2⟩:=hr hp
  unfold withR
  split
  ·refine⟨by simpa using h1,Q1h.2 fun v hv'=>?_⟩
   rcases List.mem_or_eq_of_mem_set hv' with h3|h3
   ·exact Q1h.1 h2 v h3
   ·rw[h3];exact hv
  ·refine⟨by simp[h1],Qbi (Q1h.2 fun v hv'=>Q1h.1 h2 v (List.mem_of_mem_take hv')) ⟨hv,Q1h.2 fun v hv'=>Q1h.1 h2 v (List.mem_of_mem_drop hv')⟩⟩
theorem g_fn(n:Int)(h:0<=n/\n < G.fns.length):allT G.p (G.fns.getD n.toNat ⟨[],default⟩).body/\∀i∈(G.fns.getD n.toNat ⟨[],default⟩).params,G.S i:=by
 have hl:n.toNat < G.fns.length:=by omega
 rw[List.getD_eq_getElem?_getD,List.getElem?_eq_getElem hl]
 exact hG.fn _ (List.getElem_mem hl)
theorem g_opN{t:Tr}(ht:allT G.p t):opdN t<=t.kids.length:=by
 have hsh:=g_sh hG ht
 unfold opdN
 split
 ·rename_i h
  rcases h with h|h|h|h <;> rw[h]at hsh
  ·rw[hsh.lett.1];omega
  ·rw[hsh.case.1];omega
  ·rw[hsh.handle.1];omega
  ·rw[(hsh.one (.inr (.inl rfl))).1];omega
 ·omega
theorem kidM_g{fu:Int}{m m':Ms}{f:Fm}{k:List Fm}(ht:allT G.p f.t)(he:gE G f.e)(hd:gVs G f.done)(hl:f.done.length<=opdN f.t)(hn:nLf f.t.op)(hk:gFs G k)(hh:∀r∈m.heap,r.length<=1024/\gVs G r)(h:kidM fu G.fns m f k=.ok m'):gM G m':=by
 have hsh:=g_sh hG ht
 have hop:=g_opN hG ht
 have hv:=Q2e hd 0
 unfold kidM at h
 split at h
 ·rename_i hlt
  cases h
  refine⟨⟨Q23 ht (by omega),he⟩,⟨?_,hk⟩,hh⟩
  cases f;exact⟨ht,he,hd,hlt,hn⟩
 rename_i hge
 split at h
 ·rename_i h4
  cases h
  rw[h4]at hsh
  obtain⟨h1,h2,h3⟩:=hsh.lett
  refine⟨⟨Q23 ht (by omega),?_,hv,he⟩,hk,hh⟩
  have:=g_bnd hG ht
  unfold Q0h at this
  rw[if_pos (by omega)]at this
  match hb:f.t.binds,h2 with
  |[x],_=>rw[hb]at this;exact this x (by simp)
 split at h
 ·rename_i h7
  unfold Q2a at h
  split at h
  ·rename_i tag fs hobj
   cases hc:Q16 tag fs f.e f.t.kids 0 f.t.alts with
   |error c=>rw[hc]at h;cases h
   |ok c=>
    rw[hc]at h
    cases h
    rw[hobj]at hv
    exact⟨Qal hG ht h7 he hv _ 0 rfl hc,hk,hh⟩
  ·cases h
 split at h
 ·rename_i h3
  have hd1:gVs G (f.done.drop 1):=Q1h.2 fun v hv'=>Q1h.1 hd v (List.mem_of_mem_drop hv')
  unfold callM at h
  split at h
  ·rename_i t e hclo
   rw[hclo]at hv
   split at h
   ·cases h
    have h1:=g_sh hG hv.2.1
    have h2:=g_bnd hG hv.2.1
    rw[hv.1]at h1
    unfold Q0h at h2
    rw[hv.1,if_pos (by simp)]at h2
    refine⟨⟨Q23 hv.2.1 (by have:=h1.lam.1;omega),Q73 hv.2.2 hd1 fun i hi=>h2 i (List.mem_append.2 (.inl hi))⟩,hk,hh⟩
   ·cases h
  ·rename_i n slots hcap
   rw[hcap]at hv
   split at h
   ·cases h
    have:=g_fn hG n hv.1
    exact⟨⟨this.1,Q73 trivial ⟨hv,hd1⟩ this.2⟩,hk,hh⟩
   ·cases h
  ·rename_i fs hres
   rw[hres]at hv
   split at h
   ·rename_i a ha
    cases h
    rw[ha]at hd1
    exact⟨hd1.1,Qbj hv.2 hk,hh⟩
   ·cases h
  ·cases h
 split at h
 ·rename_i h13
  cases h
  rw[h13]at hsh
  obtain⟨h1,h2,h3,h4⟩:=hsh.handle
  refine⟨⟨Q23 ht (by omega),?_,hv,he⟩,hk,hh⟩
  obtain⟨a,ha⟩:∃a,f.t.alts[0]?=some a:=⟨_,List.getElem?_eq_getElem (by omega)⟩
  have hb:=(h4 0 a ha).2
  rw[if_pos rfl]at hb
  have hS:=Qfy hG ht ha
  have hga:f.t.alts.getD 0 ⟨0,[]⟩=a:=by rw[List.getD_eq_getElem?_getD,ha];rfl
  rw[hga]
  match hab:a.binds,hb with
  |[x],_=>rw[hab]at hS;exact hS x (by simp)
 split at h
 ·rename_i h12
  exact Q7r hG (hG.rs _ (Q12 ht) h12) (l:=[]) hv hh trivial hk h
 split at h
 ·rename_i h14
  cases h
  have:=g_fn hG f.t.n (hG.cl _ (Q12 ht) (.inl h14))
  exact⟨⟨this.1,Q73 trivial hd this.2⟩,hk,hh⟩
 split at h
 ·rename_i h15
  cases h
  exact⟨⟨hG.cl _ (Q12 ht) (.inr h15),hd⟩,hk,hh⟩
 split at h
 ·split at h
  ·rename_i n slots hcap
   rw[hcap]at hv
   split at h
   ·cases h;exact⟨Q2e hv.2 _,hk,hh⟩
   ·cases h
  ·cases h
 ·rename_i h4 h7 h3 h13 h12 h14 h15 h16
  cases hp:Q3c fu { m with k:=k } f.t f.done with
  |error c=>rw[hp]at h;cases h
  |ok mv=>
   obtain⟨m2,v2⟩:=mv
   rw[hp]at h
   cases h
   have hlen:f.done.length=f.t.kids.length:=by
    unfold opdN at hge hl
    rw[if_neg (by omega)]at hge hl
    omega
   obtain⟨g1,g2⟩:=Qha hG (m:={ m with k:=k }) ht hlen hd hh hp
   refine⟨g1,?_,g2⟩
   rw[(Q3j hp).2.2];exact hk
theorem Qgy{fu:Int}{m m':Ms}{t:Tr}{e:En}(ht:allT G.p t)(he:gE G e)(hk:gFs G m.k)(hh:∀r∈m.heap,r.length<=1024/\gVs G r)(h:Q2i fu G.fns m t e=.ok m'):gM G m':=by
 unfold Q2i at h
 split at h
 ·cases h;exact⟨Qbk hG he,hk,hh⟩
 split at h
 ·rename_i h1
  cases h;exact⟨hG.wd _ (Q12 ht) h1,hk,hh⟩
 split at h
 ·rename_i h2
  cases h;exact⟨⟨h2,ht,he⟩,hk,hh⟩
 split at h
 ·cases h
 split at h
 ·rename_i h5
  cases h
  have hsh:=g_sh hG ht
  rw[h5]at hsh
  exact⟨⟨Q23 ht (by have:=hsh.recs.1;omega),h5,ht,he⟩,hk,hh⟩
 ·rename_i h0 h1 h2 h17 h5
  exact kidM_g hG (f:=.mk t e []) ht he trivial (Nat.zero_le _) (fun hh=>hh.elim h0 fun hh=>hh.elim h1 fun hh=>hh.elim h2 fun hh=>hh.elim h17 h5) hk hh h
theorem Qcb{fu:Int}{m m':Ms}(hm:gM G m)(h:Q0x fu G.fns m=.next m'):gM G m':=by
 unfold Q0x at h
 split at h
 ·rename_i v hc
  have hv:gV G v:=by have:=hm.c;rw[hc]at this;exact this
  split at h
  ·cases h
  ·rename_i f k hk
   have hf:=hm.k
   rw[hk]at hf
   split at h
   ·rename_i m2 hkid
    cases h
    obtain⟨g1,g2,g3,g4,g5⟩:=gF_iff.1 hf.1
    exact kidM_g hG (f:=.mk f.t f.e (f.done++[v])) g1 g2 (Qbi (b:=[v]) g3 ⟨hv,trivial⟩) (by simp only[Fm.done_mk,Fm.t_mk,List.length_append,List.length_singleton];omega) g5 hf.2 hm.h hkid
   ·cases h
 ·rename_i t e hc
  have ht:allT G.p t/\gE G e:=by have:=hm.c;rw[hc]at this;exact this
  split at h
  ·cases h
  ·split at h
   ·rename_i m2 hst
    cases h
    exact Qgy hG (m:={ m with steps:=m.steps+1 }) ht.1 ht.2 hm.k hm.h hst
   ·cases h
end
end Go.CoreX
namespace Go.CoreX
structure Sim where
 ν:Int->Int
 eb:En
 kb:List Fm
 ob:List Int
 hb:List (List Vl)
 st:Int
section
variable {s:Sim}{G:GP}
section
variable (ν:Int->Int)(t:Tr)
end
end
end Go.CoreX
