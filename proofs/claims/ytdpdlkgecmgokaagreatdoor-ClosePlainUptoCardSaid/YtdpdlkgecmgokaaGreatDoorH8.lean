/- Sorted lists without doubles; what occurs freely, in two ways. No condition. -/
import Derived.Test.YtdpdlkgecmgokaaGreatDoorH7
import Derived.Shelf.Sort.Plain
import Derived.Shelf.Slices.In.SortNone
set_option maxRecDepth 10000
set_option linter.unusedVariables false
set_option linter.unusedSimpArgs false
namespace Go.CoreX
theorem Q4q(n k:Int):∀l:List Int,k∈Q3u n l↔k=n∨k∈l
 | [] => by simp [Q3u]
 |m::l=>by
  simp only[Q3u]
  split
  ·simp
  ·split
   ·rename_i h1 h2
    subst h2
    simp
   ·simp only[List.mem_cons,Q4q n k l]
    constructor
    ·rintro (h|h|h) <;> simp[h]
    ·rintro (h|h|h) <;> simp[h]
theorem Q4m(n:Int):∀l:List Int,l.Pairwise (· < ·)->(Q3u n l).Pairwise (· < ·)
 | [], _ => by simp [Q3u]
 |m::l,h=>by
  simp only[List.pairwise_cons]at h
  simp only[Q3u]
  split
  ·rename_i h1
   simp only[List.pairwise_cons,List.mem_cons,forall_eq_or_imp]
   exact⟨⟨h1,fun a ha=>by have:=h.1 a ha;omega⟩,h.1,h.2⟩
  ·split
   ·simp only[List.pairwise_cons];exact h
   ·rename_i h1 h2
    simp only[List.pairwise_cons]
    refine⟨fun a ha=>?_,Q4m n l h.2⟩
    rcases (Q4q n a l).1 ha with rfl|ha
    ·omega
    ·exact h.1 a ha
theorem Q50(k:Int):∀l:List Int,k∈sortS l↔k∈l
 |[]=>by simp[sortS]
 |n::l=>by
  have ih:=Q50 k l
  unfold sortS at ih ⊢
  rw[List.foldr_cons,Q4q,ih,List.mem_cons]
theorem Q3m:∀l:List Int,(sortS l).Pairwise (· < ·)
 |[]=>by simp[sortS]
 |n::l=>by
  have ih:=Q3m l
  unfold sortS at ih ⊢
  rw[List.foldr_cons]
  exact Q4m n _ ih
theorem Q4z:∀{l r:List Int},l.Pairwise (· < ·)->r.Pairwise (· < ·)->(∀k,k∈l↔k∈r)->l=r
 | [], [], _, _, _ => rfl
 | [], b :: r, _, _, h => by have := (h b).2 (by simp); simp at this
 |a::l,[],_,_,h=>by have:=(h a).1 (by simp);simp at this
 |a::l,b::r,hl,hr,h=>by
  simp only[List.pairwise_cons]at hl hr
  have hab:a=b:=by
   have h1:=(h a).1 (by simp)
   have h2:=(h b).2 (by simp)
   rcases List.mem_cons.1 h1 with h1|h1
   ·exact h1
   ·rcases List.mem_cons.1 h2 with h2|h2
    ·exact h2.symm
    ·have:=hr.1 a h1
     have:=hl.1 b h2
     omega
  subst hab
  congr 1
  refine Q4z hl.2 hr.2 fun k=>⟨fun hk=>?_,fun hk=>?_⟩
  ·rcases List.mem_cons.1 ((h k).1 (List.mem_cons_of_mem _ hk))with e|e
   ·have:=hl.1 k hk;omega
   ·exact e
  ·rcases List.mem_cons.1 ((h k).2 (List.mem_cons_of_mem _ hk))with e|e
   ·have:=hr.1 k hk;omega
   ·exact e
theorem sort_eq{keys m:List Int}(hn:keys.Nodup)(h:∀k,k∈keys↔k∈m):(keys.mergeSort fun x y=>decide (x<=y))=sortS m:=by
 have hp:=List.mergeSort_perm keys (fun x y:Int=>decide (x<=y))
 have hs:(keys.mergeSort fun x y=>decide (x<=y)).Pairwise (fun x y=>decide (x<=y)=true):=List.pairwise_mergeSort (fun a b c h1 h2=>by simp only[decide_eq_true_eq]at *;omega) (fun a b=>by simp only[Bool.or_eq_true,decide_eq_true_eq];omega) keys
 have hd:(keys.mergeSort fun x y=>decide (x<=y)).Nodup:=hp.nodup_iff.2 hn
 refine Q4z ?_ (Q3m m) fun k=>?_
 ·have:=hs.and hd
  refine this.imp fun {a b} hab=>?_
  have h1:=of_decide_eq_true hab.1
  have h2:=hab.2
  omega
 ·rw[Q50,←h k];exact hp.mem_iff
mutual
theorem occ_eq:∀(t:Tr)(sc:List Int)(β:Int->Int),(∀k,β k=0↔sc.contains k=false)->(∀k,0<=β k)->occT sc t=occB β t
 |.mk o n b k a,sc,β,h,h0=>by
  simp only[occT,occB]
  rw[Qft k sc β o b a 0 h h0]
  congr 1
  by_cases e:o=0/\β n=0
  ·rw[if_pos e,if_pos ⟨e.1,(h n).1 e.2⟩]
  ·rw[if_neg e,if_neg (fun h2=>e ⟨h2.1,(h n).2 h2.2⟩)]
theorem Qft:∀(l:List Tr)(sc:List Int)(β:Int->Int)(o:Int)(b:List Int)(a:List Alt)(i:Nat),(∀k,β k=0↔sc.contains k=false)->(∀k,0<=β k)->occTs sc o b a i l=occBs β o b a i l
 | [], _, _, _, _, _, _, _, _ => by simp [occTs, occBs]
 |t::l,sc,β,o,b,a,i,h,h0=>by
  simp only[occTs,occBs]
  rw[Qft l sc β o b a (i+1) h h0,occ_eq t (Q2c o b a i++sc) (addB β (Q2c o b a i)) (fun k=>?_) (fun k=>?_)]
  ·unfold addB
   have h1:=h k
   have h2:=h0 k
   have h3:(Q2c o b a i).count k=0↔(Q2c o b a i).contains k=false:=by
    rw[List.count_eq_zero];simp
   simp only[List.contains_eq_mem,List.mem_append,decide_eq_false_iff_not,not_or]at *
   constructor
   ·intro h4
    exact⟨h3.1 (by omega),h1.1 (by omega)⟩
   ·rintro⟨h4,h5⟩
    have:=h3.2 h4
    have:=h1.2 h5
    omega
  ·unfold addB
   have:=h0 k
   omega
end
theorem Q7j(t:Tr):Q22 t=sortS (occB (fun _=>0) t):=by
 unfold Q22
 rw[occ_eq t [] (fun _=>0) (fun k=>by simp) (fun k=>by simp)]
end Go.CoreX
namespace Go.CoreX
theorem Q9a{α:Type} [DecidableEq α]:∀{l m:List α},l.Nodup->(∀x∈l,x∈m)->l.length<=m.length
 |[],m,_,_=>by simp
 |a::l,m,hn,h=>by
  simp only[List.nodup_cons]at hn
  have ha:=h a (by simp)
  have:=Q9a (l:=l) (m:=m.erase a) hn.2 fun x hx=>by
   have hne:x≠a:=fun e=>hn.1 (e▸hx)
   exact (List.mem_erase_of_ne hne).2 (h x (by simp[hx]))
  rw[List.length_erase_of_mem ha]at this
  have:=List.length_pos_of_mem ha
  simp only[List.length_cons];omega
mutual
theorem Q99:∀(t:Tr)(β:Int->Int)(out:List Ex),(occB β t).length+out.length<=(listT out t).length
 |.mk o n b k a,β,out=>by
  have:=Qai k β o b a 0 out
  simp only[occB,listT,List.length_append,List.length_singleton]
  split <;> simp <;> omega
theorem Qai:∀(l:List Tr)(β:Int->Int)(o:Int)(b:List Int)(a:List Alt)(i:Nat)(out:List Ex),(occBs β o b a i l).length+out.length<=(Q02 out l).1.length
 |[],_,_,_,_,_,out=>by simp[occBs,Q02]
 |t::l,β,o,b,a,i,out=>by
  have h1:=Q99 t (addB β (Q2c o b a i)) out
  have h2:=Qai l β o b a (i+1) (listT out t)
  simp only[occBs,Q02,List.length_append];omega
end
end Go.CoreX
namespace Go.Proofs.YtdpdlkgecmgokaaGreatDoor
open Go Go.Abs Go.CoreX Go.Sort
variable {Γ:List (Nat×List AC)}
def SortOk:Prop:=∀(blk off cap:Nat)(zs:List Int)(w:World),Holds (Value.int .i64) w blk off zs.toArray->blk < w.heap.size->zs.length < 4611686018427387904->Calls Tryz.prog 67 #[.slice (some ⟨blk,off,none⟩) zs.length cap] w fun e w'=>
 e=.returned (.tuple #[])/\∃n os,w'=grow (putRow (Value.int .i64) (Sort.ahead w n) blk off (zs.mergeSort fun x y=>decide (x<=y)).toArray) os
def Qhd:Prop:=∀w:World,Calls Tryz.prog 67 #[.slice none 0 0] w fun e w'=>e=.returned (.tuple #[])/\w'=w
theorem Q46(us:Array Value)(w:World):(callFunc 67 us).run Tryz.prog w=.ok (.enter 67 us) w:=by
 have h1:Tryz.prog.funcs[67]?=some Tryz.f67:=Tryz.func67
 simp[callFunc,h1]
 rfl
def leftM (l:List (Nat×Int×Unit))(seen:List Nat):Nat:=(l.filter fun x=>decide (x.1∉seen)).length
theorem Q8e{l:List (Nat×Int×Unit)}{seen:List Nat}{x:Nat×Int×Unit}(hx:x∈l)(hb:x.1∉seen):leftM l (seen++[x.1]) < leftM l seen:=by
 unfold leftM
 induction l with
 |nil=>cases hx
 |cons y l ih=>
  have hmono:∀l:List (Nat×Int×Unit),(l.filter fun z=>decide (z.1∉seen++[x.1])).length<=(l.filter fun z=>decide (z.1∉seen)).length:=fun l=>by
   induction l with
   |nil=>simp
   |cons z l ih=>
    simp only[List.filter_cons]
    split <;> split <;> simp_all <;> omega
  simp only[List.filter_cons]
  rcases List.mem_cons.1 hx with rfl|hx
  ·have:=hmono l
   rw[if_neg (by simp),if_pos (by simpa using hb)]
   simp only[List.length_cons];omega
  ·have:=ih hx
   split <;> split <;> simp_all <;> omega
theorem pair_of{l:List (Nat×Int×Unit)}(hk:(l.map (·.2.1)).Nodup){x y:Nat×Int×Unit}(hx:x∈l)(hy:y∈l)(h:x.2.1=y.2.1):x=y:=by
 induction l with
 |nil=>cases hx
 |cons z l ih=>
  simp only[List.map_cons,List.nodup_cons]at hk
  rcases List.mem_cons.1 hx with e1|h1
  ·rcases List.mem_cons.1 hy with e2|h2
   ·rw[e1,e2]
   ·exact absurd (List.mem_map.2 ⟨y,h2,by rw[←h,e1]⟩:z.2.1∈l.map (·.2.1)) hk.1
  ·rcases List.mem_cons.1 hy with e2|h2
   ·exact absurd (List.mem_map.2 ⟨x,h1,by rw[h,e2]⟩:z.2.1∈l.map (·.2.1)) hk.1
   ·exact ih hk.2 h1 h2
theorem Q8g{l zs:List (Nat×Int×Unit)}(hk:(l.map (·.2.1)).Nodup):∀{zs:List (Nat×Int×Unit)},(∀x∈zs,x∈l)->(zs.map (·.1)).Nodup->(zs.map (·.2.1)).Nodup
 |[],_,_=>by simp
 |x::zs,h,hn=>by
  simp only[List.map_cons,List.nodup_cons]at hn ⊢
  refine⟨fun hm=>?_,Q8g (zs:=zs) hk (fun y hy=>h y (by simp[hy])) hn.2⟩
  obtain⟨y,hy,e⟩:=List.mem_map.1 hm
  have:=pair_of hk (h x (by simp)) (h y (by simp[hy])) e.symm
  exact hn.1 (List.mem_map.2 ⟨y,hy,by rw[this]⟩)
@[simp] theorem ids_vecI (p : Abs.Id -> Prop) (l : List Int) (cap : Nat) : idsL p (vec 1 (l.map cI) cap) := by
 unfold vec
 have e:(l.map cI).flatten=l.map int:=by
  induction l with
  |nil=>rfl
  |cons n l ih=>simp only[List.map_cons,List.flatten_cons,ih];rfl
 rw[e]
 refine Q6o (Q9i p l) ?_
 generalize (cap - (l.map cI).length) * 1=q
 induction q with
 |zero=>simp
 |succ q ih=>rw[List.replicate_succ];exact⟨trivial,ih⟩
@[simp] theorem Qhn (θ:Abs.Id->Abs.Id) (ck:Nat) (l:List (Nat×Int×Unit)):AObj.sub θ (.map ck (encI eU l))=.map ck (encI eU l):=by
 simp[AObj.sub,encI,eU,FV.sub,subL,Function.comp_def]
theorem Qb0{β:Type}{enc:β->FV}{f:Int->Option β}{ck:Nat}{l:List (Nat×Int×β)}(h:IMOk f ck l):∀x∈encI enc l,x.1 < ck:=fun x hx=>by
 simp only[encI,List.mem_map]at hx
 obtain⟨y,hy,rfl⟩:=hx
 exact h.born y hy
theorem Qdt{β:Type}{enc:β->FV}{l:List (Nat×Int×β)}:∀x∈encI enc l,x.2.1.oneCell'=true:=fun x hx=>by
 simp only[encI,List.mem_map]at hx
 obtain⟨y,hy,rfl⟩:=hx
 rfl
theorem Q7m{β:Type}{enc:β->FV}:∀{l:List (Nat×Int×β)}{x:Nat×Int×β},(l.map (·.1)).Nodup->x∈l->(encI enc l).find? (fun y=>y.1==x.1)=some (x.1,.int .i64 x.2.1,enc x.2.2)
 |y::l,x,hn,hx=>by
  simp only[List.map_cons,List.nodup_cons]at hn
  rcases List.mem_cons.1 hx with rfl|h
  ·simp[encI]
  ·have hne:y.1≠x.1:=fun e=>hn.1 (List.mem_map.2 ⟨_,h,e.symm⟩)
   have:=Q7m (enc:=enc) hn.2 h
   simp only[encI,List.map_cons,List.find?_cons]at this ⊢
   rw[beq_eq_false_iff_ne.2 hne]
   exact this
theorem Qh5{l:List (Nat×Int×Unit)}(hk:(l.map (·.1)).Nodup){x y:Nat×Int×Unit}(hx:x∈l)(hy:y∈l)(h:x.1=y.1):x=y:=by
 induction l with
 |nil=>cases hx
 |cons z l ih=>
  simp only[List.map_cons,List.nodup_cons]at hk
  rcases List.mem_cons.1 hx with e1|h1
  ·rcases List.mem_cons.1 hy with e2|h2
   ·rw[e1,e2]
   ·exact absurd (List.mem_map.2 ⟨y,h2,by rw[←h,e1]⟩:z.1∈l.map (·.1)) hk.1
  ·rcases List.mem_cons.1 hy with e2|h2
   ·exact absurd (List.mem_map.2 ⟨x,h1,by rw[h,e2]⟩:z.1∈l.map (·.1)) hk.1
   ·exact ih hk.2 h1 h2
theorem Qdh{f:Int->Option Unit}{ck:Nat}{l:List (Nat×Int×Unit)}(h:IMOk f ck l)(k:Int):(f k).isSome=true↔∃x∈l,x.2.1=k:=by
 rw[←h.look k]
 cases hf:l.find? (fun x=>x.2.1==k) with
 |none=>
  simp only[Option.map_none,Option.isSome_none,Bool.false_eq_true,false_iff]
  rintro⟨x,hx,e⟩
  have:=List.find?_eq_none.1 hf x hx
  simp[e]at this
 |some x=>
  simp only[Option.map_some,Option.isSome_some,true_iff]
  have h1:=List.find?_some hf
  exact⟨x,List.mem_of_find?_eq_some hf,by simpa using h1⟩
def keyL (zs:List (Nat×Int×Unit)):List Int:=zs.map (·.2.1)
def bornL (zs:List (Nat×Int×Unit)):List Nat:=zs.map (·.1)
set_option maxHeartbeats 1000000 in
theorem Qbh(hΓ:∀g cs,(g,cs)∈Γ->idsL isO cs)(hΓF:∀g cs,(g,cs)∈Γ->idsL (fun _=>False) cs)(hs:SortOk)(hn:Qhd)(t:Tr)(ht:okT t)(hd:Q1m t<=1048576)(hsz:(listT [] t).length<=1048576):
  APure Tryz.prog Γ 49 [.one (.box (cTr t))] (.one (.sl 1 ((Q22 t).map cI))):=by
 intro ou
 refine AFn.walk 24 tabOk Tryz.func49 rfl (by kernel_rfl) rfl rfl fun hou=>?_
 refine zA ?_
 refine zS (AStep.makeMap rfl) ?_
 refine zA ?_
 refine zS (AStep.makeMap rfl) ?_
 refine zA ?_
 refine AOps.callR [.l 1,.l 0] [.one (.box (cTr t)),.one (.mp (.o 0)),.one (.mp (.o 1))] [.map 0 (encI eN []),.map 0 (encI eU [])] hΓF rfl rfl rfl rfl rfl rfl ?_ ?_ ?_ ?_ ?_ (Qgp hΓ t ht (fun _=>0) 0 0 [] 0 [] [] (fun k=>by simp) (by omega) ⟨_,IMOk.nil,fun k=>rfl⟩ SetIs.nil) ?_
 ·simp[subF,FV.sub,AC.sub,nameOf]
  exact⟨(Q1c _ _ (by simp)).symm,rfl⟩
 ·simp[inO]
 ·simp
 ·exact⟨rfl,rfl,trivial⟩
 ·simp[inO]
 intro r ou' hq
 obtain⟨rfl,cb,lb,co,lo,rfl,hB,g,hg,hgs⟩:=hq
 rw[List.nil_append]at hgs
 refine⟨[.map cb (encI eN lb),.map co (encI eU lo)],rfl,rfl,by simp[inO],by simp,?_⟩
 refine zA ?_
 refine zS (AStep.rangeMap rfl Tryz.underlying118 rfl rfl) ?_
 refine zA ?_
 refine ACode.loopR hΓ (α:=List (Nat×Int×Unit)×Option Nat) (fun a=>[(12,.one (.ptr (.l 2) 0)),(4,match a.2 with|none=>.one (.lit (.slice none 0 0))|some cap=>.one (.arr (.l 3) 1 0 ((keyL a.1).map cI).length cap))])
  (fun a=>match a.2 with|none=>⟨3,[(2,.iter (.l 0) co (bornL a.1) co),(0,.map co (encI eU lo))],ou⟩|some cap=>⟨4,[(3,.cells (vec 1 ((keyL a.1).map cI) cap)),(2,.iter (.l 0) co (bornL a.1) co),(0,.map co (encI eU lo))],ou⟩)
  (fun m a=>(∀x∈a.1,x∈lo)/\(bornL a.1).Nodup/\(match a.2 with|none=>a.1=[]|some cap=>a.1.length<=cap)/\m=leftM lo (bornL a.1)) (a0:=([],none)) (ρ:=id) ⟨by simp,by simp[bornL],rfl,rfl⟩ (LessR.of rfl ?_ ?_ ?_ rfl rfl hou) fun m a hj=>?_
 ·(repeat' first|exact FrSub.nil|refine zfc ?_|refine zfo ?_|refine zfp ?_)
 ·simp
 ·repeat' first|exact LoSub.nil|refine zlc ?_|refine zld ?_ ?_|rfl
  all_goals (rw[Qhn,Q95])
 obtain⟨zs,oc⟩:=a
 obtain⟨hzs,hnd,hcap,rfl⟩:=hj
 simp only at hzs hnd hcap
 have hin:∀k,k∈keyL zs->k∈occB (fun _=>0) t:=fun k hk=>by
  obtain⟨x,hx,rfl⟩:=List.mem_map.1 hk
  have h1:=(Qdh hg x.2.1).2 ⟨x,hzs x hx,rfl⟩
  rw[hgs]at h1
  simpa using h1
 have hkn:(keyL zs).Nodup:=Q8g (zs:=zs) hg.nk hzs hnd
 have hkl:(keyL zs).length<=1048576:=by
  have h1:=Q9a hkn hin
  have h2:=Q99 t (fun _=>0) []
  simp at h2
  omega
 have hend':(∀x∈encI eU lo,x.1∈bornL zs)->(keyL zs).mergeSort (fun x y=>decide (x<=y))=Q22 t:=fun hend=>by
  rw[Q7j]
  refine sort_eq hkn fun k=>⟨hin k,fun hk=>?_⟩
  have h1:(g k).isSome=true:=by rw[hgs];simpa using hk
  obtain⟨x,hx,rfl⟩:=(Qdh hg k).1 h1
  have h2:=hend (x.1,.int .i64 x.2.1,eU x.2.2) (List.mem_map.2 ⟨x,hx,rfl⟩)
  obtain⟨y,hy,e⟩:=List.mem_map.1 h2
  have:=Qh5 hg.nb (hzs y hy) hx e
  subst this
  exact List.mem_map.2 ⟨y,hy,rfl⟩
 cases oc with
 |none=>
  subst hcap
  refine zA ?_
  refine AOps.nextMap rfl rfl rfl rfl rfl rfl rfl (Qb0 hg) (Nat.le_refl _) Qdt (fun hend=>?_) (fun b u v hmem hnew=>?_)
  ·refine zA ?_
   refine AOps.callNo rfl rfl rfl rfl rfl rfl Q46 hn ?_
   refine zA ?_
   have h1:=hend' hend
   refine APure.fin rfl (.trans (.one (.nilS 1)) (.ofEq ?_)) (by simp) hou rfl
   rw[←h1];simp[keyL]
  ·obtain⟨rfl,x,hx,rfl,rfl,_⟩:=(Qd8 _ _ _ _).1 hmem
   obtain⟨bx,k,⟨⟩⟩:=x
   refine zA ?_
   refine zS (AStep.entry (last:=0) (u:=.int .i64 k) (v:=.agg []) rfl rfl rfl rfl (Q7m hg.nb hx) rfl) ?_
   refine zA ?_
   refine AOps.appOwn tabOk rfl rfl rfl rfl rfl rfl rfl rfl rfl (.nil 1) (.sl 1 [cI k]) (by simp) rfl (by simp;show 1 * 8<=_;omega) (by simp) fun cap hc=>?_
   refine zM ?_
   refine cInv ⟨leftM lo (bornL [(bx,k,())]),([(bx,k,())],some cap),id,Q8e (x:=(bx,k,())) hx hnew,⟨by simpa using hx,by simp[bornL],by simpa using hc,rfl⟩,LessR.of rfl ?_ (by simp) ?_ rfl rfl hou⟩
   ·exact FrSub.cons rfl (.ofEq rfl) (FrSub.cons rfl (.ofEq rfl) .nil)
   ·refine LoSub.cons rfl ?_ rfl (by simp) (LoSub.cons rfl ?_ rfl (by simp) (LoSub.cons rfl (Q95 _ _ _).symm rfl (by simp) .nil))
    ·rw[AObj.ren_pure _ _ (by simp)];simp[keyL]
    ·simp[AObj.ren,bornL];rfl
 |some cap=>
  refine zA ?_
  refine AOps.nextMap rfl rfl rfl rfl rfl rfl rfl (Qb0 hg) (Nat.le_refl _) Qdt (fun hend=>?_) (fun b u v hmem hnew=>?_)
  ·have h1:=hend' hend
   refine zA ?_
   refine AOps.wk 21 rfl (y:=.one (.arr (.l 3) 1 0 (keyL zs).length cap)) (.ofEq (by simp)) ?_
   refine AOps.sortI (l:=keyL zs) rfl rfl rfl rfl rfl rfl Q46 hs rfl (by omega) ?_
   rw[h1]
   refine AOps.wk 4 rfl (y:=.one (.arr (.l 3) 1 0 ((Q22 t).map iC).length cap)) (.ofEq (by rw[←h1];simp)) ?_
   refine AOps.freezeArr (.l 3) 4 rfl (by simp) rfl ?_
   refine zA ?_
   exact APure.fin rfl (WkF.ofEq rfl) (by simp) hou rfl
  ·obtain⟨rfl,x,hx,rfl,rfl,_⟩:=(Qd8 _ _ _ _).1 hmem
   obtain⟨bx,k,⟨⟩⟩:=x
   refine zA ?_
   refine zS (AStep.entry (last:=0) (u:=.int .i64 k) (v:=.agg []) rfl rfl rfl rfl (Q7m hg.nb hx) rfl) ?_
   refine zA ?_
   have hzl:((keyL zs).map cI).length=zs.length:=by simp[keyL]
   refine AOps.appOwn tabOk rfl rfl rfl rfl rfl rfl rfl rfl rfl (.own 1 cap ((keyL zs).map cI) (.l 3) rfl (by simp[cI]) (by rw[hzl];exact hcap)) (.sl 1 [cI k]) (by simp) rfl (by simp;show (_+1) * 8<=_;omega) (by simp;omega) fun cap' hc=>?_
   refine zM ?_
   refine cInv ⟨leftM lo (bornL (zs++[(bx,k,())])),(zs++[(bx,k,())],some cap'),fun k=>if k=3 then 4 else k,by have:=Q8e (x:=(bx,k,())) hx hnew;simpa[bornL]using this,⟨?_,?_,by simpa[keyL]using hc,rfl⟩,LessR.of rfl ?_ (by simp) ?_ rfl rfl hou⟩
   ·intro y hy
    rcases List.mem_append.1 hy with hy|hy
    ·exact hzs y hy
    ·simp at hy;subst hy;exact hx
   ·simp only[bornL,List.map_append,List.map_cons,List.map_nil]
    rw[List.nodup_append]
    refine⟨hnd,by simp,fun a ha b hb e=>?_⟩
    simp at hb
    subst hb;subst e
    exact hnew ha
   ·exact FrSub.cons rfl (.ofEq rfl) (FrSub.cons rfl (.ofEq (by simp[keyL,FV.ren,AC.ren];rfl)) .nil)
   ·refine LoSub.cons rfl ?_ rfl (by simp) (LoSub.cons rfl ?_ rfl (by simp) (LoSub.cons rfl (Q95 _ _ _).symm rfl (by simp) .nil))
    ·rw[AObj.ren_pure _ _ (by simp)];simp[keyL]
    ·simp[AObj.ren,bornL];rfl
end Go.Proofs.YtdpdlkgecmgokaaGreatDoor
namespace Go.CoreX
theorem Q87:∀{l r:List Int}{i:Nat}{x y:Int}{m:Nm},l[i]?=some x->r[i]?=some y->putsN m (l.take (i+1)) (r.take (i+1))=setN (putsN m (l.take i) (r.take i)) x y
 |[],_,i,x,y,m,h,_=>by simp at h
 |a::l,[],i,x,y,m,_,h=>by simp at h
 |a::l,b::r,0,x,y,m,h,h'=>by simp at h h';subst h;subst h';simp[putsN]
 |a::l,b::r,i+1,x,y,m,h,h'=>by
  simp only[List.take_succ_cons,putsN]
  exact Q87 (l:=l) (r:=r) (by simpa using h) (by simpa using h')
theorem Q71:∀{l r:List Tr}{i:Nat}{a b:Tr}{m:Nm},(Q1x l r m).1=true->l[i]?=some a->r[i]?=some b->
  (sameT a b (Q1x (l.take i) (r.take i) m).2).1=true/\(Q1x (l.take (i+1)) (r.take (i+1)) m).2=(sameT a b (Q1x (l.take i) (r.take i) m).2).2
 |[],_,i,a,b,m,_,h,_=>by simp at h
 |x::l,[],i,a,b,m,_,_,h=>by simp at h
 |x::l,y::r,0,a,b,m,hs,h,h'=>by
  simp at h h'
  subst h;subst h'
  unfold Q1x at hs
  by_cases e:(sameT x y m).1=true
  ·simp[Q1x,e]
  ·simp[e]at hs
 |x::l,y::r,i+1,a,b,m,hs,h,h'=>by
  unfold Q1x at hs
  by_cases e:(sameT x y m).1=true
  ·simp only[e,if_true]at hs
   have:=Q71 (l:=l) (r:=r) hs (by simpa using h) (by simpa using h')
   simp only[List.take_succ_cons,Q1x,e,if_true]
   exact this
  ·simp[e]at hs
theorem Q7s:∀{l r:List Alt}{i:Nat}{a b:Alt},Q1j l r=true->l[i]?=some a->r[i]?=some b->a.tag=b.tag/\a.binds.length=b.binds.length
 |[],_,i,a,b,_,h,_=>by simp at h
 |x::l,[],i,a,b,_,_,h=>by simp at h
 |x::l,y::r,0,a,b,hs,h,h'=>by
  simp at h h'
  subst h;subst h'
  simp only[Q1j,Bool.and_eq_true,beq_iff_eq]at hs
  exact hs.1
 |x::l,y::r,i+1,a,b,hs,h,h'=>by
  simp only[Q1j,Bool.and_eq_true]at hs
  exact Q7s hs.2 (by simpa using h) (by simpa using h')
theorem Q6e:∀{l r:List Alt},Q1j l r=true->l.length=r.length->(l.flatMap (·.binds)).length=(r.flatMap (·.binds)).length
 |[],[],_,_=>rfl
 |[],y::r,_,h=>by simp at h
 |x::l,[],_,h=>by simp at h
 |x::l,y::r,hs,h=>by
  simp only[Q1j,Bool.and_eq_true,beq_iff_eq]at hs
  have:=Q6e hs.2 (by simpa using h)
  simp only[List.flatMap_cons,List.length_append,this,hs.1.2]
theorem Qbb{o:Int}{b b':List Int}{a a':List Alt}(hb:b.length=b'.length)(ha:a.length=a'.length)(hl:Q1j a a'=true):(Q06 o b a).length=(Q06 o b' a').length:=by
 unfold Q06
 rw[List.length_append,List.length_append,Q6e hl ha]
 split <;> simp[hb]
theorem Qea{o n:Int}{b:List Int}{ks:List Tr}{a:List Alt}{t:Tr}{m:Nm}(h:(sameT (.mk o n b ks a) t m).1=true) :
  (o = t.op /\ ks.length = t.kids.length /\ b.length = t.binds.length /\ a.length = t.alts.length) /\
  ((o = 0 /\ Q70 m n t.n = true /\ (sameT (.mk o n b ks a) t m).2 = m) ∨
  (o ≠ 0 /\ n = t.n /\ (o = 9 -> b = t.binds) /\ Q1j a t.alts = true /\ (Q1x ks t.kids (putsN m (Q06 o b a) (Q06 t.op t.binds t.alts))).1 = true /\
   (sameT (.mk o n b ks a) t m).2=(Q1x ks t.kids (putsN m (Q06 o b a) (Q06 t.op t.binds t.alts))).2)):=by
 unfold sameT at h ⊢
 by_cases h1:Qcq o ks.length b.length a.length t=true
 ·rw[if_pos h1]at h;cases h
 rw[if_neg h1]at h ⊢
 have h1':o=t.op/\ks.length=t.kids.length/\b.length=t.binds.length/\a.length=t.alts.length:=by
  simpa[Qcq,and_assoc]using h1
 refine⟨h1',?_⟩
 by_cases h2:o=0
 ·rw[if_pos h2]at h ⊢
  exact .inl ⟨h2,h,rfl⟩
 rw[if_neg h2]at h ⊢
 by_cases h3:((!(n==t.n))||(o==9&&!(b==t.binds)))=true
 ·rw[if_pos h3]at h;cases h
 rw[if_neg h3]at h ⊢
 have h3':n=t.n/\(o=9->b=t.binds):=by simpa using h3
 by_cases h4:Q1j a t.alts=false
 ·rw[if_pos h4]at h;cases h
 rw[if_neg h4]at h ⊢
 exact .inr ⟨h2,h3'.1,h3'.2,by simpa using h4,h,rfl⟩
end Go.CoreX
namespace Go.Proofs.YtdpdlkgecmgokaaGreatDoor
open Go Go.Abs Go.CoreX
variable {Γ:List (Nat×List AC)}
theorem Qg7{xs ys:List Int}{j:Nat}{x y:Int}(h1:xs[j]?=some x)(h2:ys[j]?=some y)(h:x≠y):(xs==ys)=false:=by
 apply beq_eq_false_iff_ne.2
 rintro rfl
 rw[h1]at h2
 exact h (by simpa using h2)
theorem Qg8{xs ys:List Int}(hl:xs.length=ys.length)(h:∀(j:Nat)(x y:Int),xs[j]?=some x->ys[j]?=some y->x=y):(xs==ys)=true:=by
 rw[beq_iff_eq]
 refine List.ext_getElem hl fun i h1 h2=>h i _ _ (List.getElem?_eq_getElem h1) (List.getElem?_eq_getElem h2)
theorem SameInts_ok(hΓ:∀g cs,(g,cs)∈Γ->idsL isO cs)(xs ys:List Int)(hx:xs.length<=1048576):
  APure Tryz.prog Γ 29 [.one (.sl 1 (xs.map cI)),.one (.sl 1 (ys.map cI))] (.one (.lit (.bool (xs==ys)))):=by
 intro ou
 refine AFn.walk 26 tabOk Tryz.func29 rfl (by kernel_rfl) rfl rfl fun hou=>?_
 refine zA ?_
 refine ACode.cond rfl (fun hb=>?_) (fun hb=>?_)
 ·refine zA ?_
  refine APure.fin rfl (WkF.ofEq ?_) (by simp) hou rfl
  have:(xs==ys)=false:=by
   apply beq_eq_false_iff_ne.2
   rintro rfl
   simp at hb
  rw[this]
 have hl:xs.length=ys.length:=by simp at hb;omega
 clear hb
 refine zA ?_
 refine ACode.loopR hΓ (α:=Nat) (fun j=>[(13,.one (int j)),(12,.one (int (xs.map cI).length)),(1,.one (.sl 1 (ys.map cI))),(0,.one (.sl 1 (xs.map cI)))])
  (fun j => ⟨0, [], ou⟩) (fun m j => j <= xs.length /\ (∀ (i : Nat) (x y : Int), i < j -> xs[i]? = some x -> ys[i]? = some y -> x = y) /\ m = xs.length - j) (a0 := 0) (ρ := id) ⟨by omega, fun i x y h => by omega, rfl⟩ (LessR.of rfl zFS (by simp) zLO rfl rfl hou) fun m j hj => ?_
 obtain⟨hjl,hno,rfl⟩:=hj
 refine zA ?_
 refine ACode.cond rfl (fun hb2=>?_) (fun hb2=>?_)
 ·have hlt:j < xs.length:=by simpa using hb2
  obtain⟨x,hx1⟩:=Q01 hlt
  obtain⟨y,hy1⟩:=Q01 (l:=ys) (i:=j) (by omega)
  refine zA ?_
  refine ACode.drawX tabOk 8 [(2,.one (.box (cI x))),(6,.one (.box (cI y)))] follows (by kernel_rfl) rfl rfl rfl rfl ?_ ?_
  ·refine .step rfl (zHP (zIA rfl rfl rfl (by omega) (Q04 hx1))) ?_
   exact .step rfl (zHP (zIA rfl rfl rfl (by omega) (Q04 hy1))) .nil
  refine zA ?_
  refine ACode.cond rfl (fun hb3=>?_) (fun hb3=>?_)
  ·have hne:x≠y:=by simpa using hb3
   refine zA ?_
   refine APure.fin rfl (WkF.ofEq ?_) (by simp) hou rfl
   rw[Qg7 hx1 hy1 hne]
  ·have he:x=y:=by simpa using hb3
   refine zM ?_
   refine cInv ⟨xs.length - (j+1),j+1,id,by omega,⟨by omega,fun i x' y' hi h1 h2=>?_,rfl⟩,LessR.of rfl zFS (by simp) zLO rfl rfl hou⟩
   by_cases e:i=j
   ·subst e
    rw[hx1]at h1;rw[hy1]at h2
    cases h1;cases h2;exact he
   ·exact hno i x' y' (by omega) h1 h2
 ·have hlt:j=xs.length:=by simp at hb2;omega
  subst hlt
  refine zA ?_
  refine APure.fin rfl (WkF.ofEq ?_) (by simp) hou rfl
  rw[Qg8 hl fun i x y h1 h2=>hno i x y (List.getElem?_eq_some_iff.1 h1).1 h1 h2]
theorem Qjb(hΓ:∀g cs,(g,cs)∈Γ->idsL isO cs)(xs ys:List Int)(hx:xs.length<=1048576):
  APure Tryz.prog Γ 41 [.one (.sl 1 (xs.map cI)),.one (.sl 1 (ys.map cI))] (.one (.lit (.bool (xs==ys)))):=by
 intro ou
 refine AFn.walk 26 tabOk Tryz.func41 rfl (by kernel_rfl) rfl rfl fun hou=>?_
 refine zA ?_
 refine ACode.cond rfl (fun hb=>?_) (fun hb=>?_)
 ·refine zA ?_
  refine APure.fin rfl (WkF.ofEq ?_) (by simp) hou rfl
  have:(xs==ys)=false:=by
   apply beq_eq_false_iff_ne.2
   rintro rfl
   simp at hb
  rw[this]
 have hl:xs.length=ys.length:=by simp at hb;omega
 clear hb
 refine zA ?_
 refine ACode.loopR hΓ (α:=Nat) (fun j=>[(13,.one (int j)),(12,.one (int (xs.map cI).length)),(1,.one (.sl 1 (ys.map cI))),(0,.one (.sl 1 (xs.map cI)))])
  (fun j => ⟨0, [], ou⟩) (fun m j => j <= xs.length /\ (∀ (i : Nat) (x y : Int), i < j -> xs[i]? = some x -> ys[i]? = some y -> x = y) /\ m = xs.length - j) (a0 := 0) (ρ := id) ⟨by omega, fun i x y h => by omega, rfl⟩ (LessR.of rfl zFS (by simp) zLO rfl rfl hou) fun m j hj => ?_
 obtain⟨hjl,hno,rfl⟩:=hj
 refine zA ?_
 refine ACode.cond rfl (fun hb2=>?_) (fun hb2=>?_)
 ·have hlt:j < xs.length:=by simpa using hb2
  obtain⟨x,hx1⟩:=Q01 hlt
  obtain⟨y,hy1⟩:=Q01 (l:=ys) (i:=j) (by omega)
  refine zA ?_
  refine ACode.drawX tabOk 8 [(2,.one (.box (cI x))),(6,.one (.box (cI y)))] follows (by kernel_rfl) rfl rfl rfl rfl ?_ ?_
  ·refine .step rfl (zHP (zIA rfl rfl rfl (by omega) (Q04 hx1))) ?_
   exact .step rfl (zHP (zIA rfl rfl rfl (by omega) (Q04 hy1))) .nil
  refine zA ?_
  refine ACode.cond rfl (fun hb3=>?_) (fun hb3=>?_)
  ·have hne:x≠y:=by simpa using hb3
   refine zA ?_
   refine APure.fin rfl (WkF.ofEq ?_) (by simp) hou rfl
   rw[Qg7 hx1 hy1 hne]
  ·have he:x=y:=by simpa using hb3
   refine zM ?_
   refine cInv ⟨xs.length - (j+1),j+1,id,by omega,⟨by omega,fun i x' y' hi h1 h2=>?_,rfl⟩,LessR.of rfl zFS (by simp) zLO rfl rfl hou⟩
   by_cases e:i=j
   ·subst e
    rw[hx1]at h1;rw[hy1]at h2
    cases h1;cases h2;exact he
   ·exact hno i x' y' (by omega) h1 h2
 ·have hlt:j=xs.length:=by simp at hb2;omega
  subst hlt
  refine zA ?_
  refine APure.fin rfl (WkF.ofEq ?_) (by simp) hou rfl
  rw[Qg8 hl fun i x y h1 h2=>hno i x y (List.getElem?_eq_some_iff.1 h1).1 h1 h2]
def ouN (ck:Nat)(l:List (Nat×Int×Int)):Outer:=ouOf [.map ck (encI eN l)]
theorem Qfr(ck:Nat)(l:List (Nat×Int×Int)):OuOk (ouN ck l):=by
 intro k o h
 match k,h with
 |0,h=>cases h;exact Q9h _ _ _
 |k+1,h=>cases h
theorem Qfq(ck ck':Nat)(l l':List (Nat×Int×Int)):(fun j=>bif Nat.beq j 0 then some (AObj.map ck' (encI eN l'))else ouN ck l j)=ouN ck' l':=by
 funext j
 match j with
 |0=>rfl
 |k+1=>rfl
theorem okT_tr{t:Tr}(h:okT t):t.binds.length<=1048576/\t.kids.length<=1048576/\t.alts.length<=1048576/\(∀x∈t.alts,x.binds.length<=1048576)/\Q42 t<=4194304/\∀k∈t.kids,okT k:=by
 cases t with
 |mk o n b k a=>
  obtain⟨h1,h2,h3,h4,h5⟩:=h
  exact⟨h1,h2,h3,h4.1,h4.2,Q1p.1 h5⟩
def SameOk (Γ:List (Nat×List AC))(a b:Tr):Prop:=∀(m:Nm)(ck:Nat)(l:List (Nat×Int×Int)),IMOk m ck l->(sameT a b m).1=true->
 AFn Tryz.prog Γ 63 [.one (.box (cTr a)),.one (.box (cTr b)),.one (.mp (.o 0))] (ouN ck l) (fun r ou'=>r=.one (.lit (.bool true))/\∃ck' l',ou'=ouN ck' l'/\IMOk (sameT a b m).2 ck' l')
set_option maxHeartbeats 2000000 in
theorem Qfg(hΓ:∀g cs,(g,cs)∈Γ->idsL isO cs):∀a:Tr,okT a->∀b,okT b->SameOk Γ a b
 |.mk o n bs ks al,ha,t,ht=>by
  have ha':=okT_tr ha
  obtain⟨hbs,hks,hal,hab,hbl,hkk⟩:=ha'
  simp only[Tr.binds_mk,Tr.kids_mk,Tr.alts_mk]at hbs hks hal hab hkk
  have ih:∀x∈ks,∀y,okT y->SameOk Γ x y:=fun x hx y hy=>Qfg hΓ x (hkk x hx) y hy
  obtain⟨htb,htk,hta,htab,htl,htkk⟩:=okT_tr ht
  intro m ck l hm hs
  obtain⟨⟨e1,e2,e3,e4⟩,hcase⟩:=Qea hs
  refine AFn.walk 222 tabOk Tryz.func63 rfl (by kernel_rfl) rfl rfl fun hou=>?_
  refine zA ?_
  refine ACode.drawX tabOk 47 [(8,.one (.lit (.bool false))),(20,.one (.lit (.bool false))),(33,.one (.lit (.bool false))),(46,.one (.lit (.bool false)))] follows (by kernel_rfl) rfl rfl rfl rfl ?_ ?_
  ·refine .step rfl (HStep.litB tabOk rfl (by simp[e1])) ?_
   refine .step rfl (HStep.litB tabOk rfl (by simp[e2])) ?_
   refine .step rfl (HStep.litB tabOk rfl (by simp[e3])) ?_
   exact .step rfl (HStep.litB tabOk rfl (by simp[e4])) .nil
  iterate 7 (first|((with_reducible refine oj ?_);refine zau ?_)|(with_reducible refine zst ?_)|((with_reducible refine Q0g ?_ ?_);rfl)|(with_reducible refine ok ?_;first|refine ACode.condT rfl ?_|refine ACode.condF rfl ?_))
  refine ACode.cutR hΓ (α:=Unit) (fun _=>[(2,.one (.mp (.o 0))),(1,.one (.box (cTr t))),(0,.one (.box (cTr (.mk o n bs ks al))))])
   (fun _ => ⟨0, [], ouN ck l⟩) (fun _ => o ≠ 0 /\ Q1j al t.alts = true /\ (Q1x ks t.kids (putsN m (Q06 o bs al) (Q06 t.op t.binds t.alts))).1 = true /\ (sameT (.mk o n bs ks al) t m).2 = (Q1x ks t.kids (putsN m (Q06 o bs al) (Q06 t.op t.binds t.alts))).2) ?_ fun _ hc => ?_
  ·refine zA ?_
   rcases hcase with ⟨h0,hv,hm2⟩|⟨h0,hn,h9,hal2,hts,hm2⟩
   ·refine ACode.cond rfl (fun hb=>?_) (fun hb=>absurd h0 (by simpa using hb))
    have hz:=zeroN
    refine zA ?_
    refine zS (AStep.lookI eN (cm:=true) (v:=.one (int ((m n).getD 0))) rfl Tryz.underlying116 Tryz.underlying3 rfl rfl rfl (by kernel_rfl) zeroN hm (by simp only[Tr.n_mk];cases m n <;> rfl)) ?_
    refine zA ?_
    cases hmn:m n with
    |some v=>
     have hvt:v=t.n:=by simpa[Q70,hmn]using hv
     refine ACode.wk 8 rfl (y:=.one (.lit (.bool true))) (.ofEq (by simp[hmn])) ?_
     refine ACode.wk 7 rfl (y:=.one (int v)) (.ofEq (by simp[hmn])) ?_
     refine ACode.drawX tabOk 24 [(7,.one (.lit (.bool true)))] follows (by kernel_rfl) rfl rfl rfl rfl ?_ ?_
     ·exact .step rfl (HStep.litB tabOk rfl (by simp[hvt])) .nil
     refine zA ?_
     exact AFn.fin' rfl (WkF.refl _) (by simp) hou ⟨rfl,ck,l,rfl,by rw[hm2];exact hm⟩
    |none=>
     have hvt:n=t.n:=by simpa[Q70,hmn]using hv
     refine ACode.wk 8 rfl (y:=.one (.lit (.bool false))) (.ofEq (by simp[hmn])) ?_
     refine ACode.drawX tabOk 24 [(21,.one (.lit (.bool true)))] follows (by kernel_rfl) rfl rfl rfl rfl ?_ ?_
     ·exact .step rfl (HStep.litB tabOk rfl (by simp[hvt])) .nil
     refine zA ?_
     exact AFn.fin' rfl (WkF.refl _) (by simp) hou ⟨rfl,ck,l,rfl,by rw[hm2];exact hm⟩
   ·refine ACode.cond rfl (fun hb=>absurd (by simpa using hb) h0) (fun hb=>?_)
    refine zA ?_
    by_cases h9':o=9
    ·have heq:=Qjb hΓ bs t.binds hbs
     rw[h9 h9']at heq
     have e9:(t.binds==t.binds)=true:=by simp
     rw[e9]at heq
     refine ACode.drawX tabOk 28 [(8,.one (.lit (.bool false))),(14,.one (.lit (.bool true))),(24,.one (.lit (.bool true)))] follows (by kernel_rfl) rfl rfl rfl rfl ?_ ?_
     ·refine .step rfl (HStep.litB tabOk rfl (by simp[hn])) ?_
      refine .step rfl (HStep.litB tabOk rfl (by simp[h9'])) ?_
      exact .step rfl (HStep.guarded rfl rfl rfl (AStep.callP hΓ rfl rfl rfl (by rw[h9 h9'];rfl) (by simp) hou heq)) .nil
     refine zA ?_
     exact cInv ⟨(),id,⟨h0,hal2,hts,hm2⟩,LessR.of rfl zFS (by simp) .nil rfl rfl hou⟩
    ·refine ACode.drawX tabOk 28 [(8,.one (.lit (.bool false))),(14,.one (.lit (.bool false)))] follows (by kernel_rfl) rfl rfl rfl rfl ?_ ?_
     ·refine .step rfl (HStep.litB tabOk rfl (by simp[hn])) ?_
      exact .step rfl (HStep.litB tabOk rfl (by simp[h9'])) .nil
     refine zA ?_
     exact cInv ⟨(),id,⟨h0,hal2,hts,hm2⟩,LessR.of rfl zFS (by simp) .nil rfl rfl hou⟩
  obtain⟨h0,hal2,hts,hm2⟩:=hc
  clear hcase hs
  refine zA ?_
  refine ACode.loopR hΓ (α:=Nat) (fun i=>[(135,.one (int i)),(134,.one (int (al.map cAlt).length)),(2,.one (.mp (.o 0))),(1,.one (.box (cTr t))),(0,.one (.box (cTr (.mk o n bs ks al))))])
   (fun i => ⟨0, [], ouN ck l⟩) (fun m i => i <= al.length /\ m = al.length - i) (a0 := 0) (ρ := id) ⟨by omega, rfl⟩ (LessR.of rfl zFS (by simp) .nil rfl rfl hou) fun m' i hi => ?_
  obtain⟨hil,rfl⟩:=hi
  refine zA ?_
  refine ACode.cond rfl (fun hb3=>?_) (fun hb3=>?_)
  ·have hlt:i < al.length:=by simpa using hb3
   obtain⟨x,hx⟩:=Q01 hlt
   obtain⟨y,hy⟩:=Q01 (l:=t.alts) (i:=i) (by omega)
   obtain⟨q1,q2⟩:=Q7s hal2 hx hy
   refine zA ?_
   refine ACode.drawX tabOk 37 [(5,.one (.box (cAlt x))),(13,.one (.box (cAlt y))),(16,.one (.lit (.bool false))),(23,.one (.box (cAlt x))),(32,.one (.box (cAlt y))),(36,.one (.lit (.bool false)))] follows (by kernel_rfl) rfl rfl rfl rfl ?_ ?_
   ·refine .step rfl (zHP (zIA rfl rfl rfl (by omega) (Q04 hx))) ?_
    refine .step rfl (zHP (zIA rfl rfl rfl (by omega) (Q04 hy))) ?_
    refine .step rfl (HStep.litB tabOk rfl (by simp[q1])) ?_
    refine .step rfl (HStep.guarded rfl rfl rfl (zIA rfl rfl rfl (by omega) (Q04 hx))) ?_
    refine .step rfl (HStep.guarded rfl rfl rfl (zIA rfl rfl rfl (by omega) (Q04 hy))) ?_
    exact .step rfl (HStep.litB tabOk rfl (by simp[q2])) .nil
   refine zM ?_
   exact cInv ⟨al.length - (i+1),i+1,id,by omega,⟨by omega,rfl⟩,LessR.of rfl zFS (by simp) .nil rfl rfl hou⟩
  clear hb3
  have hlen:=Qbb (o:=o) e3 e4 hal2
  have hB1:=Q4j hΓ (.mk o n bs ks al) hbl hal
  have hB2:=Q4j hΓ t htl hta
  have hbn:(Q06 o bs al).length<=4194304:=by
   unfold Q42 at hbl
   simp only[Tr.binds_mk,Tr.alts_mk]at hbl
   unfold Q06
   rw[List.length_append]
   split
   ·omega
   ·simp only[List.length_nil];omega
  simp only[Tr.op_mk,Tr.binds_mk,Tr.alts_mk]at hB1
  rw[←e1]at hB2 hts hm2
  generalize Q06 o bs al=L1 at hlen hB1 hts hm2 hbn
  generalize Q06 o t.binds t.alts=L2 at hlen hB2 hts hm2
  refine zA ?_
  refine zca hΓ hB1 hou ?_
  refine zA ?_
  refine zca hΓ hB2 hou ?_
  refine zA ?_
  refine ACode.loopR hΓ (α:=Nat×Nat×List (Nat×Int×Int)) (fun c=>[(183,.one (int c.1)),(182,.one (int (L1.map cI).length)),(11,.one (.sl 1 (L2.map cI))),(10,.one (.sl 1 (L1.map cI))),(2,.one (.mp (.o 0))),(1,.one (.box (cTr t))),(0,.one (.box (cTr (.mk o n bs ks al))))])
   (fun c=>⟨0,[],ouN c.2.1 c.2.2⟩) (fun m' c=>c.1<=L1.length/\IMOk (putsN m (L1.take c.1) (L2.take c.1)) c.2.1 c.2.2/\m'=L1.length - c.1) (a0:=(0,ck,l)) (ρ:=id) ⟨by omega,by simpa[putsN]using hm,rfl⟩ (LessR.of rfl zFS (by simp) .nil rfl rfl hou) fun m' c hi=>?_
  clear hm hou
  obtain⟨i,ck,l⟩:=c
  obtain⟨hil,hm,rfl⟩:=hi
  simp only at hil hm
  have hou:OuOk (ouN ck l):=Qfr _ _
  refine zA ?_
  refine ACode.cond rfl (fun hb3=>?_) (fun hb3=>?_)
  ·have hlt:i < L1.length:=by simpa using hb3
   obtain⟨x,hx⟩:=Q01 hlt
   obtain⟨y,hy⟩:=Q01 (l:=L2) (i:=i) (by omega)
   refine zA ?_
   refine ACode.drawX tabOk 9 [(3,.one (.box (cI x))),(7,.one (.box (cI y)))] follows (by kernel_rfl) rfl rfl rfl rfl ?_ ?_
   ·refine .step rfl (zHP (zIA rfl rfl rfl (by omega) (Q04 hx))) ?_
    exact .step rfl (zHP (zIA rfl rfl rfl (by omega) (Q04 hy))) .nil
   refine AOps.putI eN (v:=y) rfl rfl rfl Tryz.underlying116 Tryz.underlying3 rfl rfl rfl rfl hm fun ck' l' hm'=>?_
   refine zM ?_
   refine cInv ⟨L1.length - (i+1),(i+1,ck',l'),id,by omega,⟨by omega,?_,rfl⟩,LessR.of rfl zFS (by simp) .nil rfl (Qfq ck ck' l l').symm (by rw[show (St.set ⟨0,[],ouN ck l⟩ (.o 0) (.map ck' (encI eN l'))).ou=ouN ck' l' from Qfq ck ck' l l'];exact Qfr _ _)⟩
   rw[Q87 hx hy];exact hm'
  have hlt:i=L1.length:=by simp at hb3;omega
  subst hlt
  rw[List.take_length,hlen,List.take_length]at hm
  generalize putsN m L1 L2=m1 at hm hts hm2
  clear hb3
  refine zA ?_
  refine ACode.loopR hΓ (α:=Nat×Nat×List (Nat×Int×Int)) (fun c=>[(201,.one (int c.1)),(200,.one (int (Q0l ks).length)),(2,.one (.mp (.o 0))),(1,.one (.box (cTr t))),(0,.one (.box (cTr (.mk o n bs ks al))))])
   (fun c=>⟨0,[],ouN c.2.1 c.2.2⟩) (fun m' c=>c.1<=ks.length/\IMOk (Q1x (ks.take c.1) (t.kids.take c.1) m1).2 c.2.1 c.2.2/\m'=ks.length - c.1) (a0:=(0,ck,l)) (ρ:=id) ⟨by omega,by simpa[Q1x]using hm,rfl⟩ (LessR.of rfl zFS (by simp) .nil rfl rfl hou) fun m' c hi=>?_
  clear hm hou
  obtain⟨i,ck,l⟩:=c
  obtain⟨hil,hm,rfl⟩:=hi
  simp only at hil hm
  have hou:OuOk (ouN ck l):=Qfr _ _
  refine zA ?_
  refine ACode.cond rfl (fun hb3=>?_) (fun hb3=>?_)
  ·have hlt:i < ks.length:=by simpa using hb3
   obtain⟨x,hx⟩:=Q01 hlt
   obtain⟨y,hy⟩:=Q01 (l:=t.kids) (i:=i) (by omega)
   obtain⟨q1,q2⟩:=Q71 hts hx hy
   have hcall:=ih x (List.mem_of_getElem? hx) y (htkk y (List.mem_of_getElem? hy)) _ ck l hm q1
   refine zA ?_
   refine ACode.drawX tabOk 15 [(5,.one (.box (cB x))),(12,.one (.box (cB y)))] follows (by kernel_rfl) rfl rfl rfl rfl ?_ ?_
   ·refine .step rfl (zHP (zIA rfl rfl rfl (by omega) (Q0n hx))) ?_
    exact .step rfl (zHP (zIA rfl rfl rfl (by omega) (Q0n hy))) .nil
   refine AOps.call1 hΓ rfl rfl rfl rfl rfl rfl rfl (by simp) hou hcall fun r ou' hq hids hou'=>?_
   obtain⟨rfl,ck',l',rfl,hm'⟩:=hq
   refine zM ?_
   refine cInv ⟨ks.length - (i+1),(i+1,ck',l'),id,by omega,⟨by omega,?_,rfl⟩,LessR.of rfl zFS (by simp) .nil rfl rfl hou'⟩
   rw[q2];exact hm'
  ·have hlt:i=ks.length:=by simp at hb3;omega
   subst hlt
   rw[List.take_length,e2,List.take_length]at hm
   refine zA ?_
   exact AFn.fin' rfl (WkF.refl _) (by simp) hou ⟨rfl,ck,l,rfl,by rw[hm2];exact hm⟩
end Go.Proofs.YtdpdlkgecmgokaaGreatDoor
namespace Go.Proofs
open Go.Shelf
def Tryz.lays189_ren:Go.Shelf.Ren:=⟨fun|189=>67|125=>79|257=>78|128=>100|129=>101|294=>91|295=>92|296=>93|297=>94|298=>95|299=>96|216=>97|300=>98|301=>99|328=>109|329=>110|330=>111|331=>112|332=>113|215=>114|343=>126|n=>n,fun|28=>25|3=>3|46=>143|0=>0|51=>169|53=>171|4=>4|183=>163|182=>162|131=>137|5=>5|9=>9|218=>190|222=>194|228=>207|229=>200|n=>n,fun|n=>n⟩
theorem Tryz.lays189:Go.Proofs.Lays.n189 Tryz.prog Tryz.lays189_ren:={
 mixed:=by kernel_rfl
 f125:=Tryz.func79.trans (congrArg some (by kernel_rfl))
 f128:=Tryz.func100.trans (congrArg some (by kernel_rfl))
 f129:=Tryz.func101.trans (congrArg some (by kernel_rfl))
 f189:=Tryz.func67.trans (congrArg some (by kernel_rfl))
 f215:=Tryz.func114.trans (congrArg some (by kernel_rfl))
 f216:=Tryz.func97.trans (congrArg some (by kernel_rfl))
 f257:=Tryz.func78.trans (congrArg some (by kernel_rfl))
 f294:=Tryz.func91.trans (congrArg some (by kernel_rfl))
 f295:=Tryz.func92.trans (congrArg some (by kernel_rfl))
 f296:=Tryz.func93.trans (congrArg some (by kernel_rfl))
 f297:=Tryz.func94.trans (congrArg some (by kernel_rfl))
 f298:=Tryz.func95.trans (congrArg some (by kernel_rfl))
 f299:=Tryz.func96.trans (congrArg some (by kernel_rfl))
 f300:=Tryz.func98.trans (congrArg some (by kernel_rfl))
 f301:=Tryz.func99.trans (congrArg some (by kernel_rfl))
 f328:=Tryz.func109.trans (congrArg some (by kernel_rfl))
 f329:=Tryz.func110.trans (congrArg some (by kernel_rfl))
 f330:=Tryz.func111.trans (congrArg some (by kernel_rfl))
 f331:=Tryz.func112.trans (congrArg some (by kernel_rfl))
 f332:=Tryz.func113.trans (congrArg some (by kernel_rfl))
 f343:=Tryz.func126.trans (congrArg some (by kernel_rfl))
 t0:=Tryz.underlying0
 a0:=Tryz.isAgg0
 z0:=Tryz.sizeOf0
 v0:=Tryz.zeroValue0
 t3:=Tryz.underlying3
 a3:=Tryz.isAgg3
 z3:=Tryz.sizeOf3
 v3:=Tryz.zeroValue3
 t4:=Tryz.underlying4
 a4:=Tryz.isAgg4
 z4:=Tryz.sizeOf4
 v4:=Tryz.zeroValue4
 t5:=Tryz.underlying5
 a5:=Tryz.isAgg5
 z5:=Tryz.sizeOf5
 v5:=Tryz.zeroValue5
 t9:=Tryz.underlying9
 a9:=Tryz.isAgg9
 z9:=Tryz.sizeOf9
 v9:=Tryz.zeroValue9
 t28:=Tryz.underlying25
 a28:=Tryz.isAgg25
 z28:=Tryz.sizeOf25
 v28:=Tryz.zeroValue25
 t46:=Tryz.underlying143
 a46:=Tryz.isAgg143
 z46:=Tryz.sizeOf143
 v46:=Tryz.zeroValue143
 t51:=Tryz.underlying169
 a51:=Tryz.isAgg169
 z51:=Tryz.sizeOf169
 v51:=Tryz.zeroValue169
 t53:=Tryz.underlying171
 a53:=Tryz.isAgg171
 z53:=Tryz.sizeOf171
 v53:=Tryz.zeroValue171
 t131:=Tryz.underlying137
 a131:=Tryz.isAgg137
 z131:=Tryz.sizeOf137
 v131:=Tryz.zeroValue137
 t182:=Tryz.underlying162
 a182:=Tryz.isAgg162
 z182:=Tryz.sizeOf162
 v182:=Tryz.zeroValue162
 t183:=Tryz.underlying163
 a183:=Tryz.isAgg163
 z183:=Tryz.sizeOf163
 v183:=Tryz.zeroValue163
 t218:=Tryz.underlying190
 a218:=Tryz.isAgg190
 z218:=Tryz.sizeOf190
 v218:=Tryz.zeroValue190
 t222:=Tryz.underlying194
 a222:=Tryz.isAgg194
 z222:=Tryz.sizeOf194
 v222:=Tryz.zeroValue194
 t228:=Tryz.underlying207
 a228:=Tryz.isAgg207
 z228:=Tryz.sizeOf207
 v228:=Tryz.zeroValue207
 t229:=Tryz.underlying200
 a229:=Tryz.isAgg200
 z229:=Tryz.sizeOf200
 v229:=Tryz.zeroValue200 }
open Go.Sort Go.RowKit in
theorem Tryz.slices_Sort_int(blk off cap:Nat)(zs:List Int)(w:World)(hH:Holds (Value.int .i64) w blk off zs.toArray)(hblk:blk < w.heap.size)(hsz:zs.length < 4611686018427387904):
  Calls Tryz.prog 67 #[.slice (some ⟨blk,off,none⟩) zs.length cap] w fun e w'=>
   e=.returned (.tuple #[])/\∃n os,w'=grow (putRow (Value.int .i64) (Sort.ahead w n) blk off (zs.mergeSort fun x y=>decide (x<=y)).toArray) os:=Any.slices_Sort_int Tryz.lays189 blk off cap zs w hH hblk hsz
theorem Tryz.slices_Sort_int_none(p:Option Addr)(cap:Nat)(w:World):
  Calls Tryz.prog 67 #[.slice p 0 cap] w fun e w'=>e=.returned (.tuple #[])/\w'=w:=Any.slices_Sort_int_none Tryz.lays189 p cap w
end Go.Proofs
namespace Go.Proofs.YtdpdlkgecmgokaaGreatDoor
open Go Go.Sort
theorem Qfc:SortOk:=fun blk off cap zs w hH hblk hsz=>Tryz.slices_Sort_int blk off cap zs w hH hblk hsz
theorem Qbp:Qhd:=fun w=>Tryz.slices_Sort_int_none none 0 w
end Go.Proofs.YtdpdlkgecmgokaaGreatDoor
namespace Go.CoreX
theorem Qi3{e:List Ex}(h:∀x∈e,x.binds.length<=1048576/\x.kids.length<=1048576/\x.alts.length<=1048576/\(∀a∈x.alts,a.binds.length<=1048576)/\x.binds.length+(x.alts.flatMap (·.binds)).length<=4194304)(hk:Q13 e):∀t∈growL e,okT t:=by
 revert h hk
 refine Q51 (P:=fun e=>(∀x∈e,x.binds.length<=1048576/\x.kids.length<=1048576/\x.alts.length<=1048576/\(∀a∈x.alts,a.binds.length<=1048576)/\x.binds.length+(x.alts.flatMap (·.binds)).length<=4194304)->Q13 e->∀t∈growL e,okT t) (fun _ _ t ht=>by simp[growL]at ht) (fun e x ih h hk t ht=>?_) e
 obtain⟨h1,h2⟩:=Q2o.1 hk
 have ih:=ih (fun y hy=>h y (by simp[hy])) h1
 rw[Q1u]at ht
 rcases List.mem_append.1 ht with ht|ht
 ·exact ih t ht
 ·simp at ht
  subst ht
  obtain⟨a1,a2,a3,a4,a5⟩:=h x (by simp)
  refine⟨a1,by simpa using a2,a3,⟨a4,a5⟩,Q1p.2 fun s hs=>?_⟩
  obtain⟨k,hk2,rfl⟩:=List.mem_map.1 hs
  have hkb:=h2 k hk2
  have hl:k.toNat < (growL e).length:=by rw[Q17];omega
  rw[List.getD_eq_getElem?_getD,List.getElem?_eq_getElem hl]
  exact ih _ (List.getElem_mem hl)
theorem Qik{e:List Ex}(h:e≠[]):grow e∈growL e:=by
 have hl:e.length - 1 < (growL e).length:=by rw[Q17];have:=List.length_pos_iff.2 h;omega
 unfold grow
 rw[List.getD_eq_getElem?_getD,List.getElem?_eq_getElem hl]
 exact List.getElem_mem hl
theorem Q7l{α:Type}{f:α->Int}:∀{l:List α}{j:Nat}{x:α},(∀y∈l.take j,f y=0)->l[j]?=some x->f x≠0->Q0u f l=f x
 |[],j,x,_,h,_=>by simp at h
 |a::l,0,x,_,h,hx=>by simp at h;subst h;simp[Q0u,hx]
 |a::l,j+1,x,h0,h,hx=>by
  have h1:=h0 a (by simp)
  simp only[Q0u,h1]
  exact Q7l (l:=l) (j:=j) (fun y hy=>h0 y (by simp[hy])) (by simpa using h) hx
theorem Q5z(t:Tr):(Q22 t).length<=(listT [] t).length:=by
 have h1:(Q22 t).Nodup:=(Q3m (occT [] t)).imp fun {a b} h=>by omega
 have h2:=Q9a h1 (m:=occB (fun _=>0) t) fun x hx=>by rw[Q7j]at hx;exact (Q50 x _).1 hx
 have h3:=Q99 t (fun _=>0) []
 simp at h3
 omega
theorem Q9d{e:List Ex}(h:IsTree e):(listT [] (grow e)).length=e.length:=by
 have hp:=Q7d h (Q39 (grow e)) (Q3w _).symm
 rw[←Q49 e,←Q49];exact hp.length_eq.symm
end Go.CoreX
namespace Go.Proofs.YtdpdlkgecmgokaaGreatDoor
open Go Go.Abs Go.CoreX
structure okB (e:List Ex):Prop where
 eo:okE e
 b:∀x∈e,x.binds.length+(x.alts.flatMap (·.binds)).length<=4194304
theorem okB.ex{e:List Ex}(h:okB e):∀x∈e,(Q0f x).length<=4194304/\x.binds.length+(x.alts.flatMap (·.binds)).length<=4194304:=fun x hx=>by
 have h1:=h.b x hx
 refine⟨?_,h1⟩
 unfold Q0f Q06
 rw[List.length_append]
 split
 ·omega
 ·simp only[List.length_nil];omega
theorem okB.t{e:List Ex}(h:okB e)(hk:Q13 e)(hne:e≠[]):okT (grow e):=Qi3 (fun x hx=>⟨(h.eo.x x hx).b,(h.eo.x x hx).k,(h.eo.x x hx).a,(h.eo.x x hx).ab,h.b x hx⟩) hk _ (Qik hne)
theorem hΓcF:∀g cs,(g,cs)∈Γc->idsL (fun _=>False) cs:=fun g cs h=>by
 simp[Γc]at h
 first
  |(obtain⟨rfl,rfl⟩:=h;simp[arC,Q43];done)
  |(rcases h with ⟨rfl,rfl⟩|⟨rfl,rfl⟩ <;> simp[arC,orC,Q43])
set_option maxHeartbeats 1000000 in
theorem Qcm(e:List Ex)(he:okB e)(params:List Int)(hp:params.length<=1048576)(flat:Bool):
  APure Tryz.prog Γc 32 [.one (.sl 5 (e.map cEx)),.one (.sl 1 (params.map cI)),.one (.lit (.bool flat))] (.one (int (body e params flat))):=by
 have hel:=he.eo.l
 intro ou
 refine AFn.walk 62 tabOk Tryz.func32 rfl (by kernel_rfl) rfl rfl fun hou=>?_
 refine zA ?_
 refine AOps.freeze1 (.l 0) 3 rfl rfl ?_
 refine zca hΓc (Qa4 hΓc e he.eo) hou ?_
 refine zA ?_
 refine ACode.cond rfl (fun hb=>?_) (fun hb=>?_)
 ·have hb':Q1b e≠0:=by simpa using hb
  refine zA ?_
  refine APure.fin rfl (WkF.ofEq ?_) (by simp) hou rfl
  unfold body
  rw[if_pos hb']
 have h1:Q1b e=0:=by simpa using hb
 clear hb
 obtain⟨t1,t2,t3⟩:=(Q2l e).1 h1
 have hn:body e params flat=if Q0u (Q0e flat e) e≠0 then Q0u (Q0e flat e) e else if Q3v (params++Q07 e)=true then 7 else if (Q22 (grow e)).all (fun n=>params.contains n)=true then 0 else 6:=by
  unfold body;rw[if_neg (by simpa using h1)]
 refine zA ?_
 refine ACode.loopR hΓc (α:=Nat) (fun j=>[(20,.one (int j)),(19,.one (int (e.map cEx).length)),(18,.one (.sl 5 (e.map cEx))),(3,.one (.box [.sl 5 (e.map cEx)])),(2,.one (.lit (.bool flat))),(1,.one (.sl 1 (params.map cI)))])
  (fun j => ⟨0, [], ou⟩) (fun m j => j <= e.length /\ (∀ x ∈ e.take j, Q0e flat e x = 0) /\ m = e.length - j) (a0 := 0) (ρ := id) ⟨by omega, by simp, rfl⟩ (LessR.of rfl zFS (by simp) zLO rfl rfl hou) fun m j hj => ?_
 obtain⟨hjl,hno,rfl⟩:=hj
 refine zA ?_
 refine ACode.cond rfl (fun hb2=>?_) (fun hb2=>?_)
 ·have hlt:j < e.length:=by simpa using hb2
  obtain⟨x,hx⟩:=Q01 hlt
  have hxm:=List.mem_of_getElem? hx
  have hxo:=he.eo.x x hxm
  have bad:Q0e flat e x≠0->body e params flat=Q0e flat e x:=fun h=>by
   rw[hn,Q7l hno hx h,if_pos h]
  have hkk:∀k∈x.kids,0<=k/\k.toNat < e.length:=fun k hk=>by have:=Q9e t2.k hxm k hk;omega
  have hcall:=Qaj e x hxo hkk
  refine zA ?_
  refine zS (zIA rfl rfl rfl (by omega) (Q04 hx)) ?_
  cases flat with
  |false=>
   have hE:Q0e false e x=if Q5b x.op=true then 3 else Q0y e x:=by simp[Q0e]
   repeat' first|refine zN ?_|(with_reducible refine oj ?_;refine AOps.splitS rfl rfl rfl rfl (fun hb=>?_) (fun hb=>?_))|(with_reducible refine ok ?_;first|refine ACode.condS rfl (fun hb=>?_) (fun hb=>?_)|refine ACode.cond rfl (fun hb=>?_) (fun hb=>?_))
   refine zca hΓc (Qca x.op) hou ?_
   repeat' first|refine zN ?_|(with_reducible refine oj ?_;refine AOps.splitS rfl rfl rfl rfl (fun hb=>?_) (fun hb=>?_))|(with_reducible refine ok ?_;first|refine ACode.condS rfl (fun hb=>?_) (fun hb=>?_)|refine ACode.cond rfl (fun hb=>?_) (fun hb=>?_))
   all_goals try
    (
    refine APure.fin rfl (WkF.ofEq ?_) (by simp) hou rfl
    rw[bad (by rw[hE,if_pos hb];decide),hE,if_pos hb]
    done)
   rw[if_neg (by rw[hb];decide)]at hE
   refine zca hΓc hcall hou ?_
   refine zA ?_
   refine ACode.cond rfl (fun hb3=>?_) (fun hb3=>?_)
   ·have h3:Q0y e x≠0:=by simpa using hb3
    refine zA ?_
    refine APure.fin rfl (WkF.ofEq ?_) (by simp) hou rfl
    rw[bad (by rw[hE];exact h3),hE]
   ·have h3:Q0y e x=0:=by simpa using hb3
    refine zM ?_
    exact cInv ⟨e.length - (j+1),j+1,id,by omega,⟨by omega,Q0t hno hx (by rw[hE];exact h3),rfl⟩,LessR.of rfl zFS (by simp) zLO rfl rfl hou⟩
  |true=>
   have hE:Q0e true e x=if Q6r x.op=true then 3 else Q0y e x:=by simp[Q0e]
   repeat' first|refine zN ?_|(with_reducible refine oj ?_;refine AOps.splitS rfl rfl rfl rfl (fun hb=>?_) (fun hb=>?_))|(with_reducible refine ok ?_;first|refine ACode.condS rfl (fun hb=>?_) (fun hb=>?_)|refine ACode.cond rfl (fun hb=>?_) (fun hb=>?_))
   refine zca hΓc (Qcc x.op) hou ?_
   repeat' first|refine zN ?_|(with_reducible refine oj ?_;refine AOps.splitS rfl rfl rfl rfl (fun hb=>?_) (fun hb=>?_))|(with_reducible refine ok ?_;first|refine ACode.condS rfl (fun hb=>?_) (fun hb=>?_)|refine ACode.cond rfl (fun hb=>?_) (fun hb=>?_))
   all_goals try
    (
    refine APure.fin rfl (WkF.ofEq ?_) (by simp) hou rfl
    rw[bad (by rw[hE,if_pos hb];decide),hE,if_pos hb]
    done)
   rw[if_neg (by rw[hb];decide)]at hE
   refine zca hΓc hcall hou ?_
   refine zA ?_
   refine ACode.cond rfl (fun hb3=>?_) (fun hb3=>?_)
   ·have h3:Q0y e x≠0:=by simpa using hb3
    refine zA ?_
    refine APure.fin rfl (WkF.ofEq ?_) (by simp) hou rfl
    rw[bad (by rw[hE];exact h3),hE]
   ·have h3:Q0y e x=0:=by simpa using hb3
    refine zM ?_
    exact cInv ⟨e.length - (j+1),j+1,id,by omega,⟨by omega,Q0t hno hx (by rw[hE];exact h3),rfl⟩,LessR.of rfl zFS (by simp) zLO rfl rfl hou⟩
 have hlt:j=e.length:=by simp at hb2;omega
 subst hlt
 rw[List.take_length]at hno
 rw[if_neg (by rw[Classical.not_not];exact (Q1h _ _).2 hno)]at hn
 clear hno hb2 hjl
 have hgt:=he.t t2.k t2.ne
 refine zA ?_
 refine zca hΓc (Qhk hΓc e he.eo params hp he.ex) hou ?_
 refine zA ?_
 refine ACode.cond rfl (fun hb=>?_) (fun hb=>?_)
 ·refine zA ?_
  refine APure.fin rfl (WkF.ofEq ?_) (by simp) hou rfl
  rw[hn,if_pos hb]
 rw[if_neg (by rw[hb];decide)]at hn
 refine zA ?_
 refine zca hΓc (Q7y hΓc e he.eo t2.k t2.ne) hou ?_
 refine zca hΓc (Qbh hΓc hΓcF Qfc Qbp (grow e) hgt (by omega) (by rw[Q9d t2];omega)) hou ?_
 have hfl:=Q5z (grow e)
 rw[Q9d t2]at hfl
 generalize Q22 (grow e)=fs at hn hfl
 refine zA ?_
 refine ACode.loopR hΓc (α:=Nat) (fun j=>[(53,.one (int j)),(52,.one (int (fs.map cI).length)),(51,.one (.sl 1 (fs.map cI))),(1,.one (.sl 1 (params.map cI)))])
  (fun j=>⟨0,[],ou⟩) (fun m j=>j<=fs.length/\(∀x∈fs.take j,params.contains x=true)/\m=fs.length - j) (a0:=0) (ρ:=id) ⟨by omega,by simp,rfl⟩ (LessR.of rfl zFS (by simp) zLO rfl rfl hou) fun m j hj=>?_
 obtain⟨hjl,hno,rfl⟩:=hj
 refine zA ?_
 refine ACode.cond rfl (fun hb2=>?_) (fun hb2=>?_)
 ·have hlt:j < fs.length:=by simpa using hb2
  obtain⟨k,hk⟩:=Q01 hlt
  refine zA ?_
  refine zS (zIA rfl rfl rfl (by omega) (Q04 hk)) ?_
  refine zA ?_
  refine zca hΓc (Q4v hΓc params hp k) hou ?_
  refine zA ?_
  refine ACode.cond rfl (fun hb3=>?_) (fun hb3=>?_)
  ·refine zA ?_
   refine APure.fin rfl (WkF.ofEq ?_) (by simp) hou rfl
   rw[hn,if_neg]
   rw[List.all_eq_true]
   intro h
   have:=h k (List.mem_of_getElem? hk)
   rw[this]at hb3;cases hb3
  ·refine zM ?_
   exact cInv ⟨fs.length - (j+1),j+1,id,by omega,⟨by omega,Q0t hno hk (by simpa using hb3),rfl⟩,LessR.of rfl zFS (by simp) zLO rfl rfl hou⟩
 ·have hlt:j=fs.length:=by simp at hb2;omega
  subst hlt
  rw[List.take_length]at hno
  refine zA ?_
  refine APure.fin rfl (WkF.ofEq ?_) (by simp) hou rfl
  rw[hn,if_pos (List.all_eq_true.2 hno)]
theorem Qa1(e:List Ex)(he:okB e):APure Tryz.prog Γc 18 [.one (.sl 5 (e.map cEx))] (.one (int (check e))):=by
 intro ou
 refine AFn.walk 5 tabOk Tryz.func18 rfl (by kernel_rfl) rfl rfl fun hou=>?_
 refine zA ?_
 refine AOps.callCW (ws:=[.one (.sl 5 (e.map cEx)),.one (.sl 1 (([]:List Int).map cI)),.one (.lit (.bool false))]) hΓc (Qcm e he [] (by simp) false) rfl rfl rfl rfl rfl rfl ?_ hou (by simp) ?_
 ·exact .cons (.refl _) (.cons (.one (.nilS 1)) (.cons (.refl _) .nil))
 refine zA ?_
 exact APure.fin rfl (WkF.ofEq rfl) (by simp) hou rfl
variable {Γ:List (Nat×List AC)}
theorem Qcj(hΓ:∀g cs,(g,cs)∈Γ->idsL isO cs)(hΓF:∀g cs,(g,cs)∈Γ->idsL (fun _=>False) cs)(a b:Tr)(ha:okT a)(hb:okT b)(hs:Q6i a b=true):
  APure Tryz.prog Γ 42 [.one (.box (cTr a)),.one (.box (cTr b))] (.one (.lit (.bool true))):=by
 intro ou
 refine AFn.walk 9 tabOk Tryz.func42 rfl (by kernel_rfl) rfl rfl fun hou=>?_
 refine zA ?_
 refine zS (AStep.makeMap rfl) ?_
 refine AOps.callR [.l 0] [.one (.box (cTr a)),.one (.box (cTr b)),.one (.mp (.o 0))] [.map 0 (encI eN [])] hΓF rfl rfl rfl rfl rfl rfl ?_ ?_ ?_ ?_ ?_ (Qfg hΓ a ha b hb (fun _=>none) 0 [] IMOk.nil hs) ?_
 ·simp[subF,FV.sub,AC.sub,nameOf]
  exact⟨(Q1c _ _ (by simp)).symm,(Q1c _ _ (by simp)).symm⟩
 ·simp[inO]
 ·simp
 ·exact⟨rfl,trivial⟩
 ·simp[inO]
 intro r ou' hq
 obtain⟨rfl,ck',l',rfl,hm⟩:=hq
 refine⟨[.map ck' (encI eN l')],rfl,rfl,by simp[inO],by simp,?_⟩
 rw[show FV.sub (nameOf [.l 0]) (.one (.lit (.bool true)))=.one (.lit (.bool true))from rfl]
 refine zA ?_
 exact APure.fin rfl (WkF.ofEq rfl) (by simp) hou rfl
theorem Same_ok(e f:List Ex)(he:okB e)(hf:okB f)(hs:same e f=true):APure Tryz.prog Γc 27 [.one (.sl 5 (e.map cEx)),.one (.sl 5 (f.map cEx))] (.one (.lit (.bool true))):=by
 have hs':(check e=0/\check f=0)/\Q6i (grow e) (grow f)=true:=by simpa[same]using hs
 obtain⟨⟨h1,h2⟩,h3⟩:=hs'
 have t1:=Q15 h1
 have t2:=Q15 h2
 have c1:=Qa1 e he
 have c2:=Qa1 f hf
 rw[h1]at c1
 rw[h2]at c2
 intro ou
 refine AFn.walk 20 tabOk Tryz.func27 rfl (by kernel_rfl) rfl rfl fun hou=>?_
 refine zA ?_
 refine zca hΓc c1 hou ?_
 refine zM ?_
 refine zca hΓc c2 hou ?_
 refine zM ?_
 refine zca hΓc (Q7y hΓc e he.eo t1.k t1.ne) hou ?_
 refine zM ?_
 refine zca hΓc (Q7y hΓc f hf.eo t2.k t2.ne) hou ?_
 refine zM ?_
 refine zca hΓc (Qcj hΓc hΓcF (grow e) (grow f) (he.t t1.k t1.ne) (hf.t t2.k t2.ne) h3) hou ?_
 refine zM ?_
 exact APure.fin rfl (WkF.ofEq rfl) (by simp) hou rfl
end Go.Proofs.YtdpdlkgecmgokaaGreatDoor
namespace Go.Abs
theorem AStep.wk{E:Env}{o:Oper}{fr:Fr}{σ σ':St}{x y:FV}(h:AStep E o fr σ x σ')(hw:WkF x y):AStep E o fr σ y σ':=
 fun F w C tmps hi hf next Q hk=>h F w C tmps hi hf next Q fun u w' C' a b c=>hk u w' C' a b (hw _ _ _ c)
end Go.Abs
namespace Go.Proofs.YtdpdlkgecmgokaaGreatDoor
open Go Go.Abs Go.CoreX
variable {Γ:List (Nat×List AC)}
mutual
def encNd:Tr->List AC
 |.mk o n b k a=>[int o,int n,.sl 1 (b.map cI),.any,.sl 2 (a.map cAlt),.sl 1 (Q2a k)]
def Q2a:List Tr->List (List AC)
 |[]=>[]
 |t::ts=>[.box (encNd t)]::Q2a ts
end
def cNd (t:Tr):List AC:=[int t.op,int t.n,.sl 1 (t.binds.map cI),.any,.sl 2 (t.alts.map cAlt),.sl 1 (Q2a t.kids)]
theorem Qis(t:Tr):encNd t=cNd t:=by cases t;simp[encNd,cNd]
theorem Q5e:∀l:List Tr,Q2a l=l.map fun t=>[.box (cNd t)]
 |[]=>rfl
 |t::ts=>by simp[Q2a,Q5e ts,Qis]
theorem Qeq{l:List Tr}{i:Nat}{t:Tr}(h:l[i]?=some t):(Q2a l)[i]?=some [.box (cNd t)]:=by rw[Q5e];simp[h]
mutual
theorem Qge(p:Abs.Id->Prop):∀t:Tr,idsL p (encNd t)
 |.mk o n b k a=>by simp[encNd,Q5w p k]
theorem Q5w(p:Abs.Id->Prop):∀l:List Tr,idsS p (Q2a l)
 |[]=>by simp[Q2a]
 |t::ts=>by simp[Q2a,Qge p t,Q5w p ts]
end
attribute [simp] Q5w
@[simp] theorem ids_cNd (p:Abs.Id->Prop) (t:Tr):idsL p (cNd t):=by simp[cNd]
@[simp] theorem len_encNds (l:List Tr):(Q2a l).length=l.length:=by rw[Q5e];simp
theorem N_ok(op n:Int)(ks:List Tr):APure Tryz.prog Γ 15 [.one (int op),.one (int n),.one (.sl 1 (Q2a ks))] (.one (.box (cNd (.mk op n [] ks [])))):=by
 intro ou
 refine AFn.walk 13 tabOk Tryz.func15 rfl (by kernel_rfl) rfl rfl fun hou=>?_
 iterate 14 (first|((with_reducible refine oj ?_);refine zau ?_)|(with_reducible refine zst ?_)|((with_reducible refine Q0g ?_ ?_);rfl)|(with_reducible refine ok ?_;first|refine ACode.condT rfl ?_|refine ACode.condF rfl ?_))
 refine AOps.freeze1 (.l 0) 6 rfl rfl ?_
 refine zA ?_
 refine APure.fin rfl (.one (Wk.box ?_)) (by simp) hou rfl
 exact .cons (.refl _) (.cons (.refl _) (.cons (.nilS 1) (.cons (.any _) (.cons (.nilS 2) (.cons (.refl _) .nil)))))
theorem B_ok(op:Int)(b:List Int)(ks:List Tr):APure Tryz.prog Γ 61 [.one (int op),.one (.sl 1 (b.map cI)),.one (.sl 1 (Q2a ks))] (.one (.box (cNd (.mk op 0 b ks [])))):=by
 intro ou
 refine AFn.walk 13 tabOk Tryz.func61 rfl (by kernel_rfl) rfl rfl fun hou=>?_
 iterate 14 (first|((with_reducible refine oj ?_);refine zau ?_)|(with_reducible refine zst ?_)|((with_reducible refine Q0g ?_ ?_);rfl)|(with_reducible refine ok ?_;first|refine ACode.condT rfl ?_|refine ACode.condF rfl ?_))
 refine AOps.freeze1 (.l 0) 6 rfl rfl ?_
 refine zA ?_
 refine APure.fin rfl (.one (Wk.box ?_)) (by simp) hou rfl
 exact .cons (.refl _) (.cons (.refl _) (.cons (.refl _) (.cons (.any _) (.cons (.nilS 2) (.cons (.refl _) .nil)))))
theorem V_ok(hΓ:∀g cs,(g,cs)∈Γ->idsL isO cs)(n:Int):APure Tryz.prog Γ 30 [.one (int n)] (.one (.box (cNd (.mk 0 n [] [] [])))):=by
 intro ou
 refine AFn.walk 5 tabOk Tryz.func30 rfl (by kernel_rfl) rfl rfl fun hou=>?_
 refine zA ?_
 refine AOps.callCW (ws:=[.one (int 0),.one (int n),.one (.sl 1 (Q2a []))]) hΓ (N_ok 0 n []) rfl rfl rfl rfl rfl rfl ?_ hou (by simp) ?_
 ·exact .cons (.refl _) (.cons (.refl _) (.cons (.one (.nilS 1)) .nil))
 refine zA ?_
 exact APure.fin rfl (WkF.ofEq rfl) (by simp) hou rfl
def IntoOk (Γ:List (Nat×List AC))(t:Tr):Prop:=∀(ou:Outer)(ko kt:Nat)(out:List Ex),OuOk ou->ou ko=none->ou kt=none->ko≠kt->(listT out t).length<=1048576->
 AFn Tryz.prog Γ 31 [.one (.box (cNd t)),.one (.ptr (.o ko) 0)] (ouS ou ko kt (out.map cEx)) (fun r ou'=>r=.one (int (((listT out t).length:Int) - 1))/\∃kt',ou kt'=none/\ko≠kt'/\ou'=ouS ou ko kt' ((listT out t).map cEx))
set_option maxHeartbeats 1000000 in
theorem Qg9(hΓ:∀g cs,(g,cs)∈Γ->idsL isO cs):∀t:Tr,okT t->IntoOk Γ t
 |.mk o n b ks a,hok=>by
  obtain⟨hb,hk,ha,⟨hab,_⟩,hks⟩:=hok
  have ih:∀t∈ks,IntoOk Γ t:=fun t ht=>Qg9 hΓ t (Q1p.1 hks t ht)
  intro ou ko kt out hou0 ho ht hne hsz
  have hsz2:(Q02 out ks).1.length < 1048576:=by simp only[listT,List.length_append,List.length_singleton]at hsz;omega
  refine AFn.walk 44 tabOk Tryz.func31 rfl (by kernel_rfl) rfl rfl fun hou=>?_
  refine zA ?_
  refine ACode.grow 0 3 3 1 rfl rfl ?_
  refine ACode.loopR hΓ (α:=Nat×Nat) (fun c=>[(18,.one (int c.1)),(17,.one (int (Q2a ks).length)),(16,.one (.sl 1 (Q2a ks))),(5,.one (.ptr (.l 0) 0)),(1,.one (.ptr (.o ko) 0))])
   (fun c=>⟨2,[(1,.tok 3 1 c.1),(0,.cells [int o,int n,.sl 1 (b.map cI),.gs 1 ((Q02 out (ks.take c.1)).2.map cI) (.l 1),.sl 2 (a.map cAlt)])],ouS ou ko c.2 ((Q02 out (ks.take c.1)).1.map cEx)⟩)
   (fun m c=>c.1<=ks.length/\(ou c.2=none/\ko≠c.2)/\m=ks.length - c.1) (a0:=(0,kt)) (ρ:=id) ⟨by omega,⟨ht,hne⟩,rfl⟩ (LessR.of rfl zFS (by simp) ?_ rfl (by simp[Q02];rfl) hou) fun m c hi=>?_
  ·repeat' first|exact LoSub.nil|refine zlc ?_|refine zld ?_ ?_|rfl
   all_goals (simp[AObj.ren,renL,AC.ren,Q02];rfl)
  obtain⟨i,kt⟩:=c
  obtain⟨hil,⟨ht,hne⟩,rfl⟩:=hi
  simp only at hil ht hne
  have hle:(Q02 out (ks.take i)).1.length<=(Q02 out ks).1.length:=by
   have:=Q31 (ks.take i) (ks.drop i) out
   rw[List.take_append_drop]at this
   rw[this];exact Q30 _ _
  refine zA ?_
  refine ACode.cond rfl (fun hb3=>?_) (fun hb3=>?_)
  ·have hlt2:i < ks.length:=by simpa using hb3
   obtain⟨t,ht2⟩:=Q01 hlt2
   have hsn:=Q4p t (ks.take i) out
   rw[←Q1o ht2]at hsn
   have hle2:(listT (Q02 out (ks.take i)).1 t).length<=1048576:=by
    have:=Q31 (ks.take (i+1)) (ks.drop (i+1)) out
    rw[List.take_append_drop]at this
    have h2:=Q30 (ks.drop (i+1)) (Q02 out (ks.take (i+1))).1
    rw[←this,hsn]at h2
    simp only at h2
    omega
   have hcall:=ih t (List.mem_of_getElem? ht2) ou ko kt (Q02 out (ks.take i)).1 hou0 ho ht hne hle2
   have hil2:((Q02 out (ks.take i)).2.map cI).length=i:=by rw[List.length_map,Q38];simp;omega
   refine zA ?_
   refine zS (zIA rfl rfl rfl (by omega) (Qeq ht2)) ?_
   refine zA ?_
   refine ACode.drawXR (va:=.one (int (((listT (Q02 out (ks.take i)).1 t).length:Int) - 1))) tabOk 6 4 []
    (fun σ=>∃kt',ou kt'=none/\ko≠kt'/\σ=⟨2,[(1,.tok 3 1 i),(0,.cells [int o,int n,.sl 1 (b.map cI),.gs 1 ((Q02 out (ks.take i)).2.map cI) (.l 1),.sl 2 (a.map cAlt)])],ouS ou ko kt' ((listT (Q02 out (ks.take i)).1 t).map cEx)⟩)
    follows (by kernel_rfl) rfl rfl rfl rfl rfl ?_ rfl ⟨rfl,rfl⟩ rfl ?_ .nil ?_ ?_
   ·rintro σ ⟨kt',h1,h2,rfl⟩;rfl
   ·refine Q0m.call hΓ rfl rfl rfl rfl (by simp) (Q4l hou0 (by simp)) hcall fun r ou' hq _ _=>?_
    obtain⟨rfl,kt',h1,h2,rfl⟩:=hq
    exact⟨rfl,kt',h1,h2,rfl⟩
   ·intro σ _;exact .nil
   rintro σ ⟨kt',h1,h2,rfl⟩
   refine zA ?_
   refine AOps.app tabOk rfl rfl rfl rfl rfl rfl rfl rfl rfl (Base.gs' _ _ _ _ _ (by rfl) hil2.symm) (.sl _ _) rfl ?_ ?_ ?_
   ·rw[hil2];show (i+1) * 8<=_;omega
   ·rw[hil2];show i+1<=_;omega
   refine zM ?_
   refine cInv ⟨ks.length - (i+1),(i+1,kt'),fun k=>if k=1 then 2 else k,by omega,⟨by omega,⟨h1,h2⟩,rfl⟩,LessR.of rfl zFS (by simp) ?_ rfl (by simp only[hsn];rfl) (Q4l hou0 (by simp))⟩
   repeat' first|exact LoSub.nil|refine zlc ?_|refine zld ?_ ?_|rfl
   ·simp only[AObj.ren,List.length_append,hil2];rfl
   ·simp only[hsn];simp only[AObj.ren,renL,AC.ren,Q5n,Q52];rw[List.map_append];rfl
  have hlt2:i=ks.length:=by simp at hb3;omega
  subst hlt2
  rw[List.take_length]at *
  refine zA ?_
  have hT:listT out (.mk o n b ks a)=(Q02 out ks).1++[⟨o,n,b,(Q02 out ks).2,a⟩]:=by simp only[listT]
  have hmap:(Q02 out ks).1.map cEx++[cEx ⟨o,n,b,(Q02 out ks).2,a⟩]=(listT out (.mk o n b ks a)).map cEx:=by rw[hT,List.map_append];rfl
  have hw:WkF (.agg [int o,int n,.sl 1 (b.map cI),.gs 1 ((Q02 out ks).2.map cI) (.l 1),.sl 2 (a.map cAlt)]) (.agg (cEx ⟨o,n,b,(Q02 out ks).2,a⟩)):=WkF.agg (.cons (.refl _) (.cons (.refl _) (.cons (.refl _) (.cons (.gsE rfl) (.cons (.refl _) .nil)))))
  have hko:(bif Nat.beq ko kt then some AObj.dead else ouS ou ko kt ((Q02 out ks).1.map cEx) ko)=some (.cells [.gs 5 ((Q02 out ks).1.map cEx) (.o kt)]):=by rw[Q05 hne];exact ouS_o hne _
  refine ACode.drawXH (va:=.one (.gs 5 ((Q02 out ks).1.map cEx++[cEx ⟨o,n,b,(Q02 out ks).2,a⟩]) (.l 2))) (σ1:=(St.set ⟨2,[(1,.tok 3 1 ks.length),(0,.cells [int o,int n,.sl 1 (b.map cI),.gs 1 ((Q02 out ks).2.map cI) (.l 1),.sl 2 (a.map cAlt)])],ouS ou ko kt ((Q02 out ks).1.map cEx)⟩ (.o kt) .dead).push (.tok 53 5 ((Q02 out ks).1.map cEx++[cEx ⟨o,n,b,(Q02 out ks).2,a⟩]).length))
   tabOk 7 6 [(3,.one (.gs 5 ((Q02 out ks).1.map cEx) (.o kt))),(4,.agg (cEx ⟨o,n,b,(Q02 out ks).2,a⟩))] follows (by kernel_rfl) rfl rfl rfl rfl rfl rfl rfl ?_ ?_ ?_ ?_
  ·refine HStep.plain rfl (AStep.append (s:=5) (es:=(Q02 out ks).1.map cEx) (news:=[cEx ⟨o,n,b,(Q02 out ks).2,a⟩]) (ti:=ti39) (σ:=⟨2,[(1,.tok 3 1 ks.length),(0,.cells [int o,int n,.sl 1 (b.map cI),.gs 1 ((Q02 out ks).2.map cI) (.l 1),.sl 2 (a.map cAlt)])],ouS ou ko kt ((Q02 out ks).1.map cEx)⟩) tabOk rfl rfl rfl rfl rfl rfl (Base.gs' _ 53 5 _ (.o kt) (ouS_t ou ko kt _) rfl) (.sl _ _) rfl ?_ ?_)
   ·simp;show (_+1) * 88<=_;omega
   ·simp;omega
  ·refine .step rfl (zHP (zLD rfl rfl (ouS_o hne _) rfl)) ?_
   exact .step rfl (zHP (AStep.wk (AStep.ofOp tabOk rfl) hw)) .nil
  ·refine .step rfl (zHP (zLD rfl rfl hko rfl)) ?_
   exact .step rfl (zHP (AStep.wk (AStep.ofOp tabOk rfl) hw)) .nil
  rw[hmap]
  refine zA ?_
  refine AOps.storeOwn (cs:=[.gs 5 ((Q02 out ks).1.map cEx) (.o kt)]) tabOk rfl rfl rfl rfl rfl rfl rfl hko (by simp) ?_
  refine AOps.cede 2 (show 2 < 3 by omega) fun k hk=>⟨[(1,.one (.ptr (.o ko) 0))],⟨3,[],ouS ou ko k ((listT out (.mk o n b ks a)).map cEx)⟩,⟨fun d x hd=>?_,rfl,fun i x hx=>?_⟩,?_⟩
  ·by_cases e:1=d
   ·subst e
    simp[Fr.get]at hd;subst hd
    exact⟨_,rfl,WkF.ofEq rfl⟩
   ·simp[Fr.get,Q05 e]at hd
  ·have hk':(bif Nat.beq k ko then some (AObj.cells [.gs 5 ((listT out (.mk o n b ks a)).map cEx) (.l 2)])else bif Nat.beq k kt then some AObj.dead else ouS ou ko kt ((Q02 out ks).1.map cEx) k)=none:=hk
   have k1:k≠ko:=fun e=>by subst e;simp at hk'
   rw[Q05 k1]at hk'
   have k2:k≠kt:=fun e=>by subst e;simp at hk'
   rw[Q05 k2]at hk'
   simp only[cond_false,ouS_w k1 k2]at hk'
   cases i with
   |l m=>cases hx
   |o m=>
    have hx':ouS ou ko k ((listT out (.mk o n b ks a)).map cEx) m=some x:=hx
    by_cases e:m=k
    ·subst e
     rw[ouS_t]at hx';cases hx'
     exact⟨.l 2,_,rfl,rfl,rfl⟩
    ·by_cases e2:m=ko
     ·subst e2
      rw[ouS_o e]at hx';cases hx'
      refine⟨.o m,.cells [.gs 5 ((listT out (.mk o n b ks a)).map cEx) (.l 2)],?_,rfl,?_⟩
      ·show (bif Nat.beq m m then _ else _)=_;rw[Q2w];rfl
      ·simp only[AObj.sub,subL,AC.sub];rw[Qa7 _ (by simp)];rfl
     ·rw[ouS_w e2 e]at hx'
      have e3:m≠kt:=fun e=>by rw[e,ht]at hx';cases hx'
      refine⟨.o m,x,?_,rfl,(AObj.sub_o x (hou0 m x hx')).symm⟩
      show (bif Nat.beq m ko then _ else bif Nat.beq m kt then _ else ouS ou ko kt _ m)=_
      rw[Q05 e2,Q05 e3]
      exact (ouS_w e2 e3 _).trans hx'
  ·have hk':(bif Nat.beq k ko then some (AObj.cells [.gs 5 ((listT out (.mk o n b ks a)).map cEx) (.l 2)])else bif Nat.beq k kt then some AObj.dead else ouS ou ko kt ((Q02 out ks).1.map cEx) k)=none:=hk
   have k1:k≠ko:=fun e=>by subst e;simp at hk'
   rw[Q05 k1]at hk'
   have k2:k≠kt:=fun e=>by subst e;simp at hk'
   rw[Q05 k2]at hk'
   simp only[cond_false,ouS_w k1 k2]at hk'
   refine zA ?_
   refine zS (zLD rfl rfl (ouS_o (Ne.symm k1) _) rfl) ?_
   refine zM ?_
   refine AFn.fin' rfl (WkF.ofEq ?_) (by simp) (Q4l hou0 (by simp)) ⟨rfl,k,hk',Ne.symm k1,rfl⟩
   simp
theorem Qcl(hΓ:∀g cs,(g,cs)∈Γ->idsL isO cs)(t:Tr)(ht:okT t)(hsz:(listT [] t).length<=1048576):APure Tryz.prog Γ 17 [.one (.box (cNd t))] (.one (.sl 5 ((listT [] t).map cEx))):=by
 intro ou
 refine AFn.walk 7 tabOk Tryz.func17 rfl (by kernel_rfl) rfl rfl fun hou=>?_
 iterate 11 (first|((with_reducible refine oj ?_);refine zau ?_)|(with_reducible refine zst ?_)|((with_reducible refine Q0g ?_ ?_);rfl)|(with_reducible refine ok ?_;first|refine ACode.condT rfl ?_|refine ACode.condF rfl ?_))
 refine ACode.grow 0 0 53 5 rfl rfl ?_
 refine zA ?_
 refine AOps.cede 0 (show 0 < 2 by omega) fun ko hko=>⟨[(4,.one (.box (cNd t))),(3,.one (.ptr (.o ko) 0))],
  ⟨2, [(1, .tok 53 5 0)], updO ou ko (.cells [.gs 5 [] (.l 1)])⟩, ⟨CedFr.get ?_, rfl, fun i x hx => ?_⟩, ?_⟩
 ·exact .cons rfl (FV.sub_o _ (by simp)) (.cons rfl rfl .nil)
 ·have hko:ou ko=none:=hko
  cases i with
  |l m=>
   by_cases e:1=m
   ·subst e;cases hx;exact⟨.l 1,_,rfl,rfl,rfl⟩
   ·simp[St.get,lookL,Q05 e]at hx
  |o m=>
   have hx':updO ou ko (.cells [.gs 5 [] (.l 1)]) m=some x:=hx
   by_cases e:ko=m
   ·subst e;rw[Q0a]at hx';cases hx';exact⟨.l 0,_,rfl,rfl,rfl⟩
   ·rw[Q0j _ e]at hx'
    exact⟨.o m,x,hx',rfl,(AObj.sub_o x (hou m x hx')).symm⟩
 have hko:ou ko=none:=hko
 refine AOps.cede 1 (show 1 < 2 by omega) fun kt hkt=>⟨[(4,.one (.box (cNd t))),(3,.one (.ptr (.o ko) 0))],
  ⟨2, [], ouS ou ko kt (([] : List Ex).map cEx)⟩, ⟨CedFr.get ?_, rfl, fun i x hx => ?_⟩, ?_⟩
 ·exact .cons rfl (FV.sub_o _ (by simp)) (.cons rfl rfl .nil)
 ·have hkt:updO ou ko (.cells [.gs 5 [] (.l 1)]) kt=none:=hkt
  have hkto:ko≠kt:=fun e=>by subst e;rw[Q0a]at hkt;cases hkt
  cases i with
  |l m=>cases hx
  |o m=>
   have hx':ouS ou ko kt (([]:List Ex).map cEx) m=some x:=hx
   by_cases e:m=kt
   ·subst e;rw[ouS_t]at hx';cases hx';exact⟨.l 1,_,rfl,rfl,rfl⟩
   ·by_cases e2:m=ko
    ·subst e2;rw[ouS_o hkto]at hx';cases hx'
     exact⟨.o m,.cells [.gs 5 [] (.l 1)],Q0a _ _ _,rfl,rfl⟩
    ·rw[ouS_w e2 e]at hx'
     refine⟨.o m,x,?_,rfl,(AObj.sub_o x (hou m x hx')).symm⟩
     show updO ou ko (.cells [.gs 5 [] (.l 1)]) m=_
     rw[Q0j _ (Ne.symm e2)];exact hx'
 have hkt:updO ou ko (.cells [.gs 5 [] (.l 1)]) kt=none:=hkt
 have hot:ko≠kt:=fun e=>by subst e;rw[Q0a]at hkt;cases hkt
 rw[Q0j _ hot]at hkt
 have hcall:=Qg9 hΓ t ht ou ko kt [] hou hko hkt hot hsz
 refine AOps.call1 hΓ rfl rfl rfl rfl rfl rfl rfl (by simp) (Q4l hou (by simp)) hcall fun r ou' hq hids hou'=>?_
 obtain⟨rfl,kt',h1,h2,rfl⟩:=hq
 refine zA ?_
 refine zS (zLD rfl rfl (ouS_o h2 _) rfl) ?_
 refine AOps.wk 6 rfl (y:=.one (.sl 5 ((listT [] t).map cEx))) (.one (.gsE rfl)) ?_
 refine AOps.lessO ⟨2,[],ou⟩ rfl (fun i o ho=>?_) ?_
 ·cases i with
  |l m=>cases ho
  |o m=>
   have ho':ou m=some o:=ho
   show ouS ou ko kt' _ m=some o
   have e1:m≠ko:=fun e=>by rw[e,hko]at ho';cases ho'
   have e3:m≠kt':=fun e=>by rw[←e,ho']at h1;cases h1
   rw[ouS_w e1 e3];exact ho'
 refine zA ?_
 exact APure.fin rfl (WkF.ofEq rfl) (by simp) hou rfl
theorem Qi4{e f:List Ex}(he:IsTree e)(hf:IsTree f)(h:grow e=grow f)(hb:okB e):okB f:=by
 have hp:=Q7d he hf h
 have hl:e.length=f.length:=by rw[←Q49 e,←Q49 f];exact hp.length_eq
 have key:∀y∈f,∃x∈e,labE e x=labE f y:=fun y hy=>by
  have:=hp.mem_iff.2 (List.mem_map_of_mem (f:=labE f) hy)
  exact List.mem_map.1 this
 have dat:∀y∈f,∃x∈e,x.binds=y.binds/\x.alts=y.alts/\x.kids.length=y.kids.length:=fun y hy=>by
  obtain⟨x,hx,hxy⟩:=key y hy
  simp only[labE,Lab.mk.injEq]at hxy
  have:=congrArg List.length hxy.2.2.2.1
  simp only[List.length_map]at this
  exact⟨x,hx,hxy.2.2.1,hxy.2.2.2.2,this⟩
 refine⟨⟨by rw[←hl];exact hb.eo.l,fun y hy=>?_⟩,fun y hy=>?_⟩
 ·obtain⟨x,hx,h1,h2,h3⟩:=dat y hy
  have hx':=hb.eo.x x hx
  exact⟨by rw[←h1];exact hx'.b,by rw[←h3];exact hx'.k,by rw[←h2];exact hx'.a,by rw[←h2];exact hx'.ab⟩
 ·obtain⟨x,hx,h1,h2,h3⟩:=dat y hy
  have:=hb.b x hx
  rw[h1,h2]at this
  exact this
end Go.Proofs.YtdpdlkgecmgokaaGreatDoor
namespace Go.CoreX
def Qa5 (e:List Ex)(k:Nat):Tr:=(growL e).getD k default
theorem Q6x{e:List Ex}(hk:Q13 e){i:Nat}{x:Ex}(hx:e[i]?=some x):Qa5 e i=.mk x.op x.n x.binds (x.kids.map fun k=>Qa5 e k.toNat) x.alts:=by
 have hi:=(List.getElem?_eq_some_iff.1 hx).1
 have hs:e=e.take i++x::e.drop (i+1):=by
  obtain⟨h2,h3⟩:=List.getElem?_eq_some_iff.1 hx
  rw[←h3,←List.drop_eq_getElem_cons h2,List.take_append_drop]
 have hl:(e.take i).length=i:=by simp;omega
 have h1:=Q6p (e.take i) (e.drop (i+1)) x
 rw[←hs,hl]at h1
 unfold Qa5
 rw[h1]
 simp only[Q2g,Tr.mk.injEq,true_and,and_true]
 refine List.map_congr_left fun k hkk=>?_
 have hb:=hk i x hx k hkk
 have h2:=Q3x (e:=e.take i) (l:=x::e.drop (i+1)) (i:=k.toNat) (by rw[hl];omega)
 rw[←hs]at h2
 exact h2.symm
theorem Q3g:∀{e:List Ex}{k:Nat},0 < cnt e k->∃(i:Nat)(x:Ex),e[i]?=some x/\(k:Int)∈x.kids
 |[],k,h=>by simp[cnt]at h
 |x::e,k,h=>by
  simp only[cnt]at h
  by_cases h1:0 < x.kids.count (k:Int)
  ·exact⟨0,x,rfl,List.count_pos_iff.1 h1⟩
  ·obtain⟨i,y,h2,h3⟩:=Q3g (e:=e) (k:=k) (by omega)
   exact⟨i+1,y,by simpa using h2,h3⟩
end Go.CoreX
namespace Go.Proofs.YtdpdlkgecmgokaaGreatDoor
open Go Go.Abs Go.CoreX
variable {Γ:List (Nat×List AC)}
end Go.Proofs.YtdpdlkgecmgokaaGreatDoor
namespace Go.CoreX
mutual
def cntN:Tr->Nat
 |.mk _ _ _ k _=>cntNs k+1
def cntNs:List Tr->Nat
 |[]=>0
 |t::l=>cntN t+cntNs l
end
mutual
theorem Q1n:∀(t:Tr)(out:List Ex),(listT out t).length=out.length+cntN t
 |.mk o n b k a,out=>by
  have:=Q8o k out
  simp only[listT,cntN,List.length_append,List.length_singleton];omega
theorem Q8o:∀(l:List Tr)(out:List Ex),(Q02 out l).1.length=out.length+cntNs l
 |[],out=>by simp[Q02,cntNs]
 |t::l,out=>by
  have h1:=Q1n t out
  have h2:=Q8o l (listT out t)
  simp only[Q02,cntNs];omega
end
theorem Q2b:∀(l r:List Tr),cntNs (l++r)=cntNs l+cntNs r
 |[],r=>by simp[cntNs]
 |t::l,r=>by simp only[List.cons_append,cntNs,Q2b l r];omega
end Go.CoreX
namespace Go.Proofs.YtdpdlkgecmgokaaGreatDoor
open Go Go.Abs Go.CoreX
variable {Γ:List (Nat×List AC)}
end Go.Proofs.YtdpdlkgecmgokaaGreatDoor
namespace Go.CoreX
theorem Qhr{e:List Ex}(h:check e=0):∀x∈e,shape x=true:=by
 intro x hx
 unfold check body at h
 by_cases h1:Q1b e=0
 ·rw[if_neg (by simpa using h1)]at h
  by_cases h2:Q0u (Q0e false e) e=0
  ·have h3:=(Q1h _ e).1 h2 x hx
   unfold Q0e at h3
   simp only[Bool.false_and,Bool.not_false,Bool.true_and,Bool.false_or]at h3
   by_cases h4:Q5b x.op=true
   ·rw[if_pos h4]at h3;cases h3
   ·rw[if_neg h4]at h3
    unfold Q0y at h3
    by_cases h5:shape x=false
    ·rw[if_pos h5]at h3;cases h3
    ·simpa using h5
  ·rw[if_pos h2]at h;exact absurd h h2
 ·rw[if_pos h1]at h;exact absurd h h1
end Go.CoreX
namespace Go.Proofs.YtdpdlkgecmgokaaGreatDoor
open Go Go.Abs Go.CoreX
variable {Γ:List (Nat×List AC)}
def ow8 (l:List Int):Option Nat->AC
 |none=>.lit (.slice none 0 0)
 |some cap=>.arr (.l 0) 1 0 (l.map cI).length cap
def st8 (l:List Int)(ou:Outer):Option Nat->St
 |none=>⟨0,[],ou⟩
 |some cap=>⟨1,[(0,.cells (vec 1 (l.map cI) cap))],ou⟩
@[simp] theorem ids_ow8 (l l':List Int) (ou:Outer) (oc:Option Nat):(ow8 l oc).ids (inL (st8 l' ou oc).n):=by cases oc <;> simp[ow8,st8,AC.ids,inL]
end Go.Proofs.YtdpdlkgecmgokaaGreatDoor
namespace Go.CoreX
end Go.CoreX
namespace Go.Proofs.YtdpdlkgecmgokaaGreatDoor
open Go Go.Abs Go.CoreX
variable {Γ:List (Nat×List AC)}
end Go.Proofs.YtdpdlkgecmgokaaGreatDoor
namespace Go.CoreX
open Go.Abs (orI subI anI)
def ex0:Ex:=⟨0,0,[],[],[]⟩
def exN (e:List Ex)(i:Nat):Ex:=e.getD i ex0
def shK (e:List Ex)(k:Int):Tr:=.mk (exN e k.toNat).op (exN e k.toNat).n (exN e k.toNat).binds [] []
end Go.CoreX
namespace Go.Proofs.YtdpdlkgecmgokaaGreatDoor
open Go Go.Abs Go.CoreX
variable {Γ:List (Nat×List AC)}
def shD (e:List Ex)(l:List Int):List (List AC):=l.map fun k=>cB (shK e k)
@[simp] theorem ids_shD (p:Abs.Id->Prop) (e:List Ex) (l:List Int):idsS p (shD e l):=Q1q (fun k=>by simp[cB]) l
@[simp] theorem ren_shD (ρ:Nat->Nat) (e:List Ex) (l:List Int):renS ρ (shD e l)=shD e l:=Q1d ρ _ (by simp)
end Go.Proofs.YtdpdlkgecmgokaaGreatDoor
namespace Go.CoreX
end Go.CoreX
namespace Go.Proofs.YtdpdlkgecmgokaaGreatDoor
open Go Go.Abs Go.CoreX
variable {Γ:List (Nat×List AC)}
theorem W_ok(hΓ:∀g cs,(g,cs)∈Γ->idsL isO cs)(n:Int):APure Tryz.prog Γ 16 [.one (int n)] (.one (.box (cNd (.mk 1 n [] [] [])))):=by
 intro ou
 refine AFn.walk 5 tabOk Tryz.func16 rfl (by kernel_rfl) rfl rfl fun hou=>?_
 refine zA ?_
 refine AOps.callCW (ws:=[.one (int 1),.one (int n),.one (.sl 1 (Q2a []))]) hΓ (N_ok 1 n []) rfl rfl rfl rfl rfl rfl ?_ hou (by simp) ?_
 ·exact .cons (.refl _) (.cons (.refl _) (.cons (.one (.nilS 1)) .nil))
 refine zA ?_
 exact APure.fin rfl (WkF.ofEq rfl) (by simp) hou rfl
theorem Qj5(hΓ:∀g cs,(g,cs)∈Γ->idsL isO cs)(t:Tr):APure Tryz.prog Γ 62 [.one (.box (cNd t))] (.one (.box (cNd (.mk 8 7 [] [t] [])))):=by
 intro ou
 refine AFn.walk 6 tabOk Tryz.func62 rfl (by kernel_rfl) rfl rfl fun hou=>?_
 refine zA ?_
 refine AOps.callC hΓ (N_ok 8 7 [t]) rfl rfl rfl rfl rfl rfl (by rw[Q5e];rfl) hou (by simp) ?_
 refine zA ?_
 exact APure.fin rfl (WkF.ofEq rfl) (by simp) hou rfl
end Go.Proofs.YtdpdlkgecmgokaaGreatDoor
namespace Go.CoreX
abbrev Nb:=Option (Nat×Nat)
structure LAlt where
 tag:Int
 nb:Nb
 binds:List Int
def LAlt.er (a:LAlt):Alt:=⟨a.tag,a.binds⟩
inductive LTr where
 |mk (id:Nat) (op n:Int) (nb:Nb) (binds:List Int) (kids:List LTr) (alts:List LAlt)
instance:Inhabited LTr:=⟨.mk 0 0 0 none [] [] []⟩
def LTr.id:LTr->Nat|.mk i _ _ _ _ _ _=>i
mutual
def erT:LTr->Tr
 |.mk _ o n _ b k a=>.mk o n b (erTs k) (a.map LAlt.er)
def erTs:List LTr->List Tr
 |[]=>[]
 |t::ts=>erT t::erTs ts
end
theorem Qgw:∀l:List LTr,erTs l=l.map erT
 |[]=>rfl
 |t::l=>by simp[erTs,Qgw l]
end Go.CoreX
namespace Go.Proofs.YtdpdlkgecmgokaaGreatDoor
open Go Go.Abs Go.CoreX
variable {Γ:List (Nat×List AC)}
def bC:Nb->List Int->AC
 |none,l=>.sl 1 (l.map cI)
 |some (a,cap),l=>.arr (.o a) 1 0 (l.map cI).length cap
def lAlt (x:LAlt):List AC:=[int x.tag,bC x.nb x.binds]
def kC (l:List LTr):List (List AC):=l.map fun t=>[.ptr (.o t.id) 0]
abbrev keys (l:List (Nat×AObj)):List Nat:=l.map (·.1)
def Owns (ou:Outer)(l:List (Nat×AObj)):Prop:=∀p∈l,ou p.1=some p.2
theorem Owns.app{ou:Outer}{l r:List (Nat×AObj)}:Owns ou (l++r)↔Owns ou l/\Owns ou r:=by
 unfold Owns
 constructor
 ·exact fun h=>⟨fun p hp=>h p (by simp[hp]),fun p hp=>h p (by simp[hp])⟩
 ·rintro⟨h1,h2⟩ p hp
  rcases List.mem_append.1 hp with hp|hp
  ·exact h1 p hp
  ·exact h2 p hp
theorem Owns.frame{ou ou':Outer}{l:List (Nat×AObj)}(h:Owns ou l)(hf:∀j∈keys l,ou' j=ou j):Owns ou' l:=fun p hp=>(hf p.1 (List.mem_map_of_mem hp)).trans (h p hp)
theorem Qgj(p:Abs.Id->Prop)(hp:∀k,p (.o k))(nb:Nb)(l:List Int):(bC nb l).ids p:=by
 cases nb with
 |none=>simp[bC,AC.ids]
 |some x=>exact hp _
theorem ids_kC(p:Abs.Id->Prop)(hp:∀k,p (.o k))(l:List LTr):idsS p (kC l):=Q1q (f:=fun t:LTr=>[.ptr (.o t.id) 0]) (fun t=>by simp only[idsL,AC.ids,and_true];exact hp _) l
theorem Qaq(p:Abs.Id->Prop)(hp:∀k,p (.o k))(l:List LAlt):idsS p (l.map lAlt):=Q1q (f:=lAlt) (fun t=>by simp only[lAlt,idsL,AC.ids,and_true,true_and];exact Qgj p hp _ _) l
end Go.Proofs.YtdpdlkgecmgokaaGreatDoor
namespace Go.CoreX
def frB (f:Int)(l:List Int):List Int:=(List.range l.length).map fun i:Nat=>f+i
def frN (m:Nm)(f:Int)(l:List Int):Nm:=putsN m l (frB f l)
end Go.CoreX
namespace Go.Proofs.YtdpdlkgecmgokaaGreatDoor
open Go Go.Abs Go.CoreX
variable {Γ:List (Nat×List AC)}
end Go.Proofs.YtdpdlkgecmgokaaGreatDoor
namespace Go.CoreX
def rnAs (nm:Nm)(f:Int):List LAlt->List LAlt×Nm×Int
 |[]=>([],nm,f)
 |x::l=>(⟨x.tag,x.nb,frB f x.binds⟩::(rnAs (frN nm f x.binds) (f+x.binds.length) l).1,(rnAs (frN nm f x.binds) (f+x.binds.length) l).2)
def ren1 (o:Int)(nm:Nm)(f:Int)(b:List Int):List Int×Nm×Int:=if o=9 then (b,nm,f)else (frB f b,frN nm f b,f+b.length)
mutual
def rnL (nm:Nm)(f:Int):LTr->LTr×Nm×Int
 |.mk i o n nb b k a=>
  let s1:=ren1 o nm f b
  let s2:=rnAs s1.2.1 s1.2.2 a
  let s3:=rnLs s2.2.1 s2.2.2 k
  (.mk i o (if o=0 then (nm n).getD n else n) nb s1.1 s3.1 s2.1,s3.2)
def rnLs (nm:Nm)(f:Int):List LTr->List LTr×Nm×Int
 |[]=>([],nm,f)
 |t::l=>((rnL nm f t).1::(rnLs (rnL nm f t).2.1 (rnL nm f t).2.2 l).1,(rnLs (rnL nm f t).2.1 (rnL nm f t).2.2 l).2)
end
def ownB (nb:Nb)(b:List Int):Prop:=nb=none->b=[]
mutual
def okL:LTr->Prop
 |.mk _ o _ nb b k a=>(o≠9->ownB nb b)/\b.length<=1048576/\k.length<=1048576/\a.length<=1048576/\(∀x∈a,ownB x.nb x.binds/\x.binds.length<=1048576)/\okLs k
def okLs:List LTr->Prop
 |[]=>True
 |t::l=>okL t/\okLs l
end
theorem Qd5:∀{l:List LTr},okLs l↔∀t∈l,okL t
 |[]=>by simp[okLs]
 |t::l=>by simp[okLs,Qd5 (l:=l)]
end Go.CoreX
namespace Go.Proofs.YtdpdlkgecmgokaaGreatDoor
open Go Go.Abs Go.CoreX
variable {Γ:List (Nat×List AC)}
theorem Q9f(l r:List (Nat×AObj)):keys (l++r)=keys l++keys r:=by simp[keys]
theorem Q6l{ou:Outer}{k:Nat}{os:List AObj}(h:OuOk ou)(ho:∀o∈os,o.ids isO):OuOk (ouAdd ou k os):=by
 intro m o hm
 rcases Nat.lt_or_ge m k with h1|h1
 ·rw[Q16 h1]at hm;exact h m o hm
 ·obtain⟨p,rfl⟩:∃p,m=k+p:=⟨m - k,by omega⟩
  rw[Q0x]at hm
  exact ho o (List.mem_of_getElem? hm)
structure NewO (ou ou':Outer)(L:List (Nat×AObj)):Prop where
 own:Owns ou' L
 new:∀k∈keys L,ou k=none
 old:∀m,m∉keys L->ou' m=ou m
 ok:OuOk ou'
 nd:(keys L).Nodup
theorem NewO.nil{ou:Outer}(h:OuOk ou):NewO ou ou []:=⟨fun p hp=>by simp at hp,fun k hk=>by simp[keys]at hk,fun _ _=>rfl,h,by simp[keys]⟩
theorem NewO.trans{ou ou1 ou2:Outer}{L M:List (Nat×AObj)}(h:NewO ou ou1 L)(k:NewO ou1 ou2 M):NewO ou ou2 (L++M):=by
 have hLM:∀j∈keys L,j∉keys M:=fun j hj hm=>by
  have h1:=k.new j hm
  obtain⟨p,hp,rfl⟩:=List.mem_map.1 hj
  rw[h.own p hp]at h1
  cases h1
 refine⟨Owns.app.2 ⟨h.own.frame fun j hj=>k.old j (hLM j hj),k.own⟩,fun j hj=>?_,fun m hm=>?_,k.ok,?_⟩
 ·rw[Q9f,List.mem_append]at hj
  by_cases e:j∈keys L
  ·exact h.new j e
  ·rw[←h.old j e]
   exact k.new j (hj.resolve_left e)
 ·rw[Q9f,List.mem_append,not_or]at hm
  rw[k.old m hm.2,h.old m hm.1]
 ·rw[Q9f,List.nodup_append]
  exact⟨h.nd,k.nd,fun a ha b hb e=>hLM a ha (e▸hb)⟩
end Go.Proofs.YtdpdlkgecmgokaaGreatDoor
namespace Go.CoreX
end Go.CoreX
namespace Go.Proofs.YtdpdlkgecmgokaaGreatDoor
open Go Go.Abs Go.CoreX
structure LinkL (e:List Ex)(lts:List LTr)(B:Nb->List Int->Prop:=ownB):Prop where
 len:lts.length=e.length
 at_:∀(i:Nat) (x:Ex),e[i]?=some x->∃id nb a,lts[i]?=some (.mk id x.op x.n nb x.binds (x.kids.map fun q=>lts.getD q.toNat default) a)/\a.map LAlt.er=x.alts/\B nb x.binds/\∀y∈a,B y.nb y.binds
theorem LinkL.nil{B:Nb->List Int->Prop}:LinkL [] [] B:=⟨rfl,fun i x h=>by simp at h⟩
section
variable {e:List Ex}{lts:List LTr}{B:Nb->List Int->Prop}
theorem LinkL.getD(h:LinkL e lts B){i:Nat}{t:LTr}(ht:lts[i]?=some t):lts.getD i default=t:=by rw[List.getD_eq_getElem?_getD,ht];rfl
theorem LinkL.er(h:LinkL e lts B)(hk:Q13 e):∀(n i:Nat)(t:LTr),i < n->lts[i]?=some t->erT t=Qa5 e i
 |0,i,t,hi,_=>by omega
 |n+1,i,t,hi,ht=>by
  have hil:i < e.length:=by rw[←h.len];exact (List.getElem?_eq_some_iff.1 ht).1
  obtain⟨x,hx⟩:=Q01 hil
  obtain⟨id,nb,a,h1,h2,_⟩:=h.at_ i x hx
  rw[ht]at h1
  cases h1
  rw[Q6x hk hx]
  simp only[erT,h2,Qgw,List.map_map]
  congr 1
  refine List.map_congr_left fun q hq=>?_
  have hq':=hk i x hx q hq
  obtain⟨t',ht'⟩:=Q01 (l:=lts) (i:=q.toNat) (by rw[h.len];omega)
  simp only[Function.comp,h.getD ht']
  exact h.er hk n q.toNat t' (by omega) ht'
theorem LinkL.ok(h:LinkL e lts)(hk:Q13 e)(hs:∀x∈e,x.binds.length<=1048576/\x.kids.length<=1048576/\x.alts.length<=1048576/\∀a∈x.alts,a.binds.length<=1048576):∀(n i:Nat)(t:LTr),i < n->lts[i]?=some t->okL t
 |0,i,t,hi,_=>by omega
 |n+1,i,t,hi,ht=>by
  have hil:i < e.length:=by rw[←h.len];exact (List.getElem?_eq_some_iff.1 ht).1
  obtain⟨x,hx⟩:=Q01 hil
  obtain⟨id,nb,a,h1,h2,h3,h4⟩:=h.at_ i x hx
  obtain⟨s1,s2,s3,s4⟩:=hs x (List.mem_of_getElem? hx)
  rw[ht]at h1
  cases h1
  refine⟨fun _=>h3,s1,by simpa using s2,by have:=congrArg List.length h2;simp at this;omega,fun y hy=>⟨h4 y hy,?_⟩,Qd5.2 fun u hu=>?_⟩
  ·exact s4 y.er (by rw[←h2];exact List.mem_map_of_mem hy)
  ·obtain⟨q,hq,rfl⟩:=List.mem_map.1 hu
   have hq':=hk i x hx q hq
   obtain⟨t',ht'⟩:=Q01 (l:=lts) (i:=q.toNat) (by rw[h.len];omega)
   rw[h.getD ht']
   exact h.ok hk hs n q.toNat t' (by omega) ht'
end
variable {Γ:List (Nat×List AC)}
def Qfu (ts:List LTr)(n:Nat):List AC:=ts.map (fun t=>.ptr (.o t.id) 0)++List.replicate (n - ts.length) (.lit (.pointer none))
theorem Q8h(p:Abs.Id->Prop)(hp:∀k,p (.o k))(ts:List LTr)(n:Nat):idsL p (Qfu ts n):=by
 refine Q6o ?_ (Qgc p _ _)
 induction ts with
 |nil=>trivial
 |cons t ts ih=>exact⟨hp _,ih⟩
@[simp] theorem ids_nodesL_l (k:Nat) (ts:List LTr) (n:Nat):idsL (inL k) (Qfu ts n):=Q8h _ (fun _=>trivial) ts n
@[simp] theorem ids_nodesL_o (ts:List LTr) (n:Nat):idsL isO (Qfu ts n):=Q8h _ (fun _=>trivial) ts n
@[simp] theorem ids_kC_l (k:Nat) (ts:List LTr):idsS (inL k) (kC ts):=ids_kC _ (fun _=>trivial) ts
@[simp] theorem Qig (ts:List LTr):idsS isO (kC ts):=ids_kC _ (fun _=>trivial) ts
@[simp] theorem ids_lAlts_l (k:Nat) (l:List LAlt):idsS (inL k) (l.map lAlt):=Qaq _ (fun _=>trivial) l
@[simp] theorem Qc3 (l:List LAlt):idsS isO (l.map lAlt):=Qaq _ (fun _=>trivial) l
@[simp] theorem ids_bC_l (k:Nat) (nb:Nb) (l:List Int):(bC nb l).ids (inL k):=Qgj _ (fun _=>trivial) nb l
@[simp] theorem ids_bC_o (nb:Nb) (l:List Int):(bC nb l).ids isO:=Qgj _ (fun _=>trivial) nb l
@[simp] theorem ren_kC (ρ:Nat->Nat) (l:List LTr):renS ρ (kC l)=kC l:=Q1d ρ _ (Qig l)
@[simp] theorem ren_lAlts (ρ:Nat->Nat) (l:List LAlt):renS ρ (l.map lAlt)=l.map lAlt:=Q1d ρ _ (Qc3 l)
@[simp] theorem ren_bC (ρ:Nat->Nat) (nb:Nb) (l:List Int):(bC nb l).ren ρ=bC nb l:=by cases nb <;> simp[bC,AC.ren,Abs.Id.ren]
theorem NewO.add{ou:Outer}{k:Nat}{o:AObj}(hk:∀m,k<=m->ou m=none)(hou:OuOk ou)(ho:o.ids isO):NewO ou (ouAdd ou k [o]) [(k,o)]:=by
 refine⟨fun p hp=>?_,fun j hj=>?_,fun m hm=>?_,Q6l hou fun q hq=>by simp at hq;subst hq;exact ho,by simp[keys]⟩
 ·simp at hp;subst hp
  exact Q0x 0
 ·simp[keys]at hj;subst hj;exact hk _ (Nat.le_refl _)
 ·simp[keys]at hm
  rcases Nat.lt_or_ge m k with h1|h1
  ·exact Q16 h1
  ·obtain⟨p,rfl⟩:∃p,m=k+p:=⟨m - k,by omega⟩
   rw[Q0x,hk _ h1]
   cases p with
   |zero=>simp at hm
   |succ p=>simp
end Go.Proofs.YtdpdlkgecmgokaaGreatDoor
namespace Go.CoreX
end Go.CoreX
namespace Go.Proofs.YtdpdlkgecmgokaaGreatDoor
open Go Go.Abs Go.CoreX
variable {Γ:List (Nat×List AC)}
end Go.Proofs.YtdpdlkgecmgokaaGreatDoor
namespace Go.CoreX
-- What holds of all nodes.
mutual
def allT (p:Lab->Prop):Tr->Prop
 |.mk o n b k a=>p ⟨o,n,b,k.map Tr.op,a⟩/\allTs p k
def allTs (p:Lab->Prop):List Tr->Prop
 |[]=>True
 |t::l=>allT p t/\allTs p l
end
theorem Q7u{p:Lab->Prop}:∀{l:List Tr},allTs p l↔∀t∈l,allT p t
 |[]=>by simp[allTs]
 |t::l=>by simp[allTs,Q7u (l:=l)]
theorem Qh9{e:List Ex}(hk:Q13 e){p:Lab->Prop}(h:∀x∈e,p (labE e x)):∀(n i:Nat),i < n->i < e.length->allT p (Qa5 e i)
 |0,i,hi,_=>by omega
 |n+1,i,hi,hl=>by
  obtain⟨x,hx⟩:∃x,e[i]?=some x:=⟨e[i],List.getElem?_eq_getElem hl⟩
  rw[Q6x hk hx]
  refine⟨?_,Q7u.2 fun t ht=>?_⟩
  ·have:=h x (List.mem_of_getElem? hx)
   simp only[labE]at this
   simp only[List.map_map]
   exact this
  ·obtain⟨q,hq,rfl⟩:=List.mem_map.1 ht
   have:=hk i x hx q hq
   exact Qh9 hk h n q.toNat (by omega) (by omega)
theorem Qbe{e:List Ex}(h:IsTree e){p:Lab->Prop}(hp:∀x∈e,p (labE e x)):allT p (grow e):=by
 have:=List.length_pos_iff.2 h.ne
 exact Qh9 h.k hp _ (e.length - 1) (Nat.lt_succ_self _) (by omega)
end Go.CoreX
namespace Go.CoreX
structure ShN (o n:Int)(b:List Int)(k:Nat)(a:List Alt):Prop where
 sh:∃ops:List Int,ops.length=k/\shape ⟨o,n,b,ops,a⟩=true
section
variable {o n:Int}{b:List Int}{k:Nat}{a:List Alt}
theorem ShN.want(h:ShN o n b k a)(h7:¬(o=7∨o=13)):∃w:Int×Int×Bool,(∃ops:List Int,ops.length=k/\wants ⟨o,n,b,ops,a⟩=some w)/\(k:Int)=w.1/\(b.length:Int)=w.2.1/\a=[]:=by
 obtain⟨ops,hl,h⟩:=h.sh
 unfold shape at h
 rw[if_neg h7]at h
 split at h
 ·cases h
 ·rename_i kk bb u hw
  simp only[Bool.and_eq_true,beq_iff_eq,List.length_eq_zero_iff]at h
  exact⟨_,⟨ops,hl,hw⟩,by rw[←hl];exact h.1.1.1,h.1.1.2,h.1.2⟩
theorem ShN.lam(h:ShN 2 n b k a):k=1/\a=[]:=by
 obtain⟨w,⟨ops,hl,hw⟩,h1,h2,h3⟩:=h.want (by omega)
 cases hw;exact⟨by simp at h1;omega,h3⟩
theorem ShN.app(h:ShN 3 n b k a):1<=k/\b=[]/\a=[]:=by
 obtain⟨w,⟨ops,hl,hw⟩,h1,h2,h3⟩:=h.want (by omega)
 cases hw
 refine⟨?_,List.length_eq_zero_iff.1 (by simp at h2;simp[h2]),h3⟩
 simp only at h1;split at h1 <;> omega
theorem ShN.lett(h:ShN 4 n b k a):k=2/\b.length=1/\a=[]:=by
 obtain⟨w,⟨ops,hl,hw⟩,h1,h2,h3⟩:=h.want (by omega)
 cases hw;exact⟨by simp at h1;omega,by simp at h2;omega,h3⟩
theorem ShN.recs(h:ShN 5 n b k a):k=b.length+1/\1<=b.length/\a=[]:=by
 obtain⟨w,⟨ops,hl,hw⟩,h1,h2,h3⟩:=h.want (by omega)
 cases hw
 refine⟨by simp at h1;omega,?_,h3⟩
 simp only at h2;split at h2 <;> omega
theorem ShN.prim(h:ShN 8 n b k a):0<=n/\n<=11/\(k:Int)=Q43.getD n.toNat 0/\b=[]/\a=[]:=by
 obtain⟨w,⟨ops,hl,hw⟩,h1,h2,h3⟩:=h.want (by omega)
 have hw:(if between n 0 11=true then some (Q43.getD n.toNat 0,(0:Int),true)else none)=some w:=hw
 split at hw
 ·rename_i hb
  cases hw
  simp[between]at hb
  exact⟨hb.1,hb.2,h1,List.length_eq_zero_iff.1 (by simp at h2;simp[h2]),h3⟩
 ·cases hw
theorem ShN.row(h:ShN 9 n b k a):k=b.length/\a=[]:=by
 obtain⟨w,⟨ops,hl,hw⟩,h1,h2,h3⟩:=h.want (by omega)
 cases hw;exact⟨by simp at h1;omega,h3⟩
theorem ShN.one(h:ShN o n b k a)(ho:o=10∨o=12∨o=16):k=1/\b=[]/\a=[]:=by
 obtain⟨w,⟨ops,hl,hw⟩,h1,h2,h3⟩:=h.want (by omega)
 rcases ho with rfl|rfl|rfl <;> (cases hw;exact⟨by simp at h1;omega,List.length_eq_zero_iff.1 (by simp at h2;simp[h2]),h3⟩)
theorem ShN.alts7(h:ShN o n b k a)(ho:o=7∨o=13):k=1+a.length/\b=[]/\(o=13->1<=a.length)/\∀i x,a[i]?=some x->Q3k ⟨o,n,b,[],a⟩ i x=false:=by
 obtain⟨ops,hl,h⟩:=h.sh
 unfold shape at h
 rw[if_pos ho]at h
 simp only[Bool.and_eq_true,beq_iff_eq,List.length_eq_zero_iff]at h
 obtain⟨⟨h1,h2⟩,h3⟩:=h
 unfold Q5j at h1
 simp only[Bool.and_eq_true,Bool.not_eq_true',beq_iff_eq,Bool.or_eq_true,decide_eq_true_eq]at h1
 obtain⟨h4,h5,h6⟩:=h1
 refine⟨by omega,h2,fun h13=>?_,fun i x hx=>?_⟩
 ·rcases h6 with h6|h6
  ·subst h13;cases h6
  ·omega
 ·rw[List.any_eq_false]at h4
  have:=h4 (x,i) (by rw[List.mk_mem_zipIdx_iff_getElem?];exact hx)
  simpa[Q3k]using this
theorem ShN.case(h:ShN 7 n b k a):k=1+a.length/\b=[]:=⟨(h.alts7 (.inl rfl)).1,(h.alts7 (.inl rfl)).2.1⟩
theorem ShN.handle(h:ShN 13 n b k a):k=1+a.length/\b=[]/\1<=a.length/\∀i x,a[i]?=some x->(i=0↔x.tag=-1)/\x.binds.length=if i=0 then 1 else 2:=by
 obtain⟨h1,h2,h3,h4⟩:=h.alts7 (.inr rfl)
 refine⟨h1,h2,h3 rfl,fun i x hx=>?_⟩
 have:=h4 i x hx
 simp only[Q3k,Bool.or_eq_false_iff,Bool.and_eq_false_iff,Bool.not_eq_false',beq_iff_eq,beq_eq_false_iff_ne]at this
 obtain⟨_,h5,h6⟩:=this
 refine⟨?_,?_⟩
 ·rcases h5 with h5|h5
  ·exact absurd rfl h5
  ·by_cases hi:i=0
   ·subst hi;simpa using h5
   ·have:((i:Int)==0)=false:=by simp[hi]
    rw[this]at h5
    simp[hi]at h5 ⊢;exact h5
 ·rcases h6 with h6|h6
  ·exact absurd rfl h6
  ·split at h6
   ·rw[if_neg (by omega)];omega
   ·rename_i hh
    have:i=0∨i=1:=by omega
    rcases this with rfl|rfl <;> simp <;> omega
theorem ShN.leaf(h:ShN o n b k a)(ho:o=0∨o=1∨o=17):k=0/\b=[]/\a=[]:=by
 obtain⟨w,⟨ops,hl,hw⟩,h1,h2,h3⟩:=h.want (by omega)
 rcases ho with rfl|rfl|rfl <;> (cases hw;exact⟨by simp at h1;omega,List.length_eq_zero_iff.1 (by simp at h2;simp[h2]),h3⟩)
end
def shpQ (l:Lab):Prop:=ShN l.op l.n l.binds l.ops.length l.alts
theorem Qfd{t:Tr}(h:allT shpQ t):ShN t.op t.n t.binds t.kids.length t.alts:=by
 cases t with
 |mk o n b k a=>simpa[shpQ]using h.1
theorem Q4h{p:Lab->Prop}{t s:Tr}(h:allT p t)(hs:s∈t.kids):allT p s:=by
 cases t with
 |mk o n b k a=>exact Q7u.1 h.2 s hs
theorem Q26{p:Lab->Prop}{t:Tr}(h:allT p t){i:Nat}(hi:i < t.kids.length):allT p (t.kids.getD i default):=by
 rw[List.getD_eq_getElem?_getD,List.getElem?_eq_getElem hi]
 exact Q4h h (List.getElem_mem hi)
theorem Q0v{p:Lab->Prop}{t:Tr}(h:allT p t):p ⟨t.op,t.n,t.binds,t.kids.map Tr.op,t.alts⟩:=by
 cases t with
 |mk o n b k a=>exact h.1
mutual
theorem Qe0{p q:Lab->Prop}(h:∀l,p l->q l):∀t:Tr,allT p t->allT q t
 |.mk o n b k a,ht=>⟨h _ ht.1,Qbc h k ht.2⟩
theorem Qbc{p q:Lab->Prop}(h:∀l,p l->q l):∀l:List Tr,allTs p l->allTs q l
 |[],_=>trivial
 |t::l,ht=>⟨Qe0 h t ht.1,Qbc h l ht.2⟩
end
theorem shpQ_of{l:Lab}(h:shape ⟨l.op,l.n,l.binds,l.ops,l.alts⟩=true):shpQ l:=⟨⟨l.ops,rfl,h⟩⟩
end Go.CoreX
namespace Go.CoreX
-- Names that a tree does not bind keep their new names.
end Go.CoreX
namespace Go.CoreX
def tl (a:Alt):Int×Nat:=(a.tag,a.binds.length)
end Go.CoreX
namespace Go.CoreX
theorem sum0{α:Type}{f:α->Int}:∀{l:List α},(∀x∈l,0<=f x)->(l.map f).sum=0->∀x∈l,f x=0
 | [], _, _, x, hx => by simp at hx
 |y::l,h,hs,x,hx=>by
  have h1:=h y (by simp)
  have h2:∀z∈l,0<=f z:=fun z hz=>h z (by simp[hz])
  have h3:0<=(l.map f).sum:=by
   clear h h1 hs hx
   induction l with
   |nil=>simp
   |cons z l ih=>
    have:=h2 z (by simp)
    have:=ih fun y hy=>h2 y (by simp[hy])
    simp only[List.map_cons,List.sum_cons];omega
  simp only[List.map_cons,List.sum_cons]at hs
  rcases List.mem_cons.1 hx with rfl|hx
  ·omega
  ·exact sum0 h2 (by omega) x hx
open Classical in
mutual
theorem Qf5{p:Lab->Prop}:∀t:Tr,allT p t->sumT (fun l=>if p l then 0 else 1) t=0
 |.mk o n b k a,h=>by
  simp only[sumT,Qcr k h.2]
  rw[if_pos h.1];rfl
theorem Qcr{p:Lab->Prop}:∀l:List Tr,allTs p l->sumTs (fun l=>if p l then 0 else 1) l=0
 |[],_=>rfl
 |t::l,h=>by simp only[sumTs,Qf5 t h.1,Qcr l h.2];rfl
end
open Classical in
theorem Qh8{p:Lab->Prop}{g:List Ex}(h:IsTree g)(ha:allT p (grow g)):∀l∈labs g,p l:=by
 have h1:=Q6h (fun l=>if p l then (0:Int)else 1) h
 rw[Qf5 _ ha]at h1
 intro l hl
 have:=sum0 (fun x _=>by split <;> omega) h1 l hl
 split at this
 ·assumption
 ·cases this
theorem Q4t{e:List Ex}(h:check e=0):Q1b e=0/\(∀x∈e,Q0e false e x=0)/\(Q07 e).Nodup/\occT [] (grow e)=[]:=by
 unfold check body at h
 by_cases h1:Q1b e=0
 ·rw [if_neg (by simpa using h1)] at h
  by_cases h2:Q0u (Q0e false e) e=0
  ·rw[if_neg (by simpa using h2)]at h
   by_cases h3:Q3v ([]++Q07 e)=true
   ·rw[if_pos h3]at h;cases h
   ·rw[if_neg h3]at h
    have h3':=(Q1t _).1 (by simpa using h3)
    refine⟨h1,(Q1h _ _).1 h2,by simpa using h3',?_⟩
    by_cases h4:(Q22 (grow e)).all (fun n=>([]:List Int).contains n)=true
    ·have h5:Q22 (grow e)=[]:=by
      cases hf:Q22 (grow e) with
      |nil=>rfl
      |cons n l=>rw[hf]at h4;simp at h4
     unfold Q22 at h5
     cases ho:occT [] (grow e) with
     |nil=>rfl
     |cons n l=>
      have:=(Q50 n (n::l)).2 (by simp)
      rw[←ho,h5]at this
      simp at this
    ·rw[if_neg h4]at h;cases h
  ·rw[if_pos (by simpa using h2)]at h;exact absurd h h2
 ·rw[if_pos h1]at h;exact absurd h h1
end Go.CoreX
namespace Go.Proofs.YtdpdlkgecmgokaaGreatDoor
open Go Go.Abs Go.CoreX
variable {Γ:List (Nat×List AC)}
end Go.Proofs.YtdpdlkgecmgokaaGreatDoor
namespace Go.CoreX
structure pOk (l:Lab):Prop where
 b:l.binds.length<=1048576
 k:l.ops.length<=1048576
 a:l.alts.length<=1048576
 ab:∀x∈l.alts,x.binds.length<=1048576
 s:l.binds.length+(l.alts.flatMap (·.binds)).length<=4194304
-- Two lists in order, with the same members, are one list.
end Go.CoreX
namespace Go.Proofs.YtdpdlkgecmgokaaGreatDoor
open Go Go.Abs Go.CoreX
theorem Qeg{g:List Ex}(hl:g.length<=1048576)(h:∀l∈labs g,pOk l):okB g:=by
 refine⟨⟨hl,fun x hx=>?_⟩,fun x hx=>?_⟩
 ·have:=h _ (List.mem_map_of_mem (f:=labE g) hx)
  exact⟨this.b,by simpa[labE]using this.k,this.a,this.ab⟩
 ·exact (h _ (List.mem_map_of_mem (f:=labE g) hx)).s
end Go.Proofs.YtdpdlkgecmgokaaGreatDoor
namespace Go.CoreX
end Go.CoreX
namespace Go.CoreX
mutual
theorem Qby:∀t:Tr,okT t->allT pOk t
 |.mk o n b k a,h=>⟨⟨h.1,by simpa using h.2.1,h.2.2.1,h.2.2.2.1.1,h.2.2.2.1.2⟩,Qd2 k h.2.2.2.2⟩
theorem Qd2:∀l:List Tr,okTs l->allTs pOk l
 |[],_=>trivial
 |t::l,h=>⟨Qby t h.1,Qd2 l h.2⟩
end
end Go.CoreX
namespace Go.Proofs.YtdpdlkgecmgokaaGreatDoor
open Go Go.Abs Go.CoreX
theorem Qd6{T:Tr}(h:allT pOk T)(hl:cntN T<=1048576):okB (listT [] T):=Qeg (by have:=Q1n T [];simp at this;omega) (Qh8 (Q39 _) (by rw[Q3w];exact h))
end Go.Proofs.YtdpdlkgecmgokaaGreatDoor
