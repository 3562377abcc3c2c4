/- free, walked. -/
import Derived.Test.YtpaonemmbhbgoaaGreatDoorV7
import Derived.Shelf.Sort.Plain
import Derived.Shelf.Slices.In.SortNone
set_option maxRecDepth 10000
set_option linter.unusedVariables false
set_option linter.unusedSimpArgs false
namespace Go.CoreX
def addB (β:Int->Int)(l:List Int):Int->Int:=fun k=>β k+l.count k
-- What occurs freely, by how often each is bound around.
mutual
def occB (β:Int->Int):Tr->List Int
 |.mk o n b k a=>(if o=0/\β n=0 then [n]else [])++occBs β o b a 0 k
def occBs (β:Int->Int)(o:Int)(b:List Int)(a:List Alt):Nat->List Tr->List Int
 |_,[]=>[]
 |i,t::ts=>occB (addB β (Q1p o b a i)) t++occBs β o b a (i+1) ts
end
theorem Qaw(β:Int->Int)(o:Int)(b:List Int)(a:List Alt)(t:Tr):∀(l:List Tr)(i:Nat),occBs β o b a i (l++[t])=occBs β o b a i l++occB (addB β (Q1p o b a (i+l.length:Nat))) t
 |[],i=>by simp[occBs]
 |x::l,i=>by
  simp only[List.cons_append,occBs,Qaw β o b a t l (i+1),List.append_assoc,List.length_cons]
  rw[show i+1+l.length=i+(l.length+1) by omega]
theorem mx_le(m:Int):∀l:List Int,m<=l.foldl mx m
 |[]=>by simp
 |d::l=>by
  have:=mx_le (mx m d) l
  have:m<=mx m d:=by unfold mx;split <;> omega
  simp only[List.foldl_cons];omega
theorem mx_mem:∀(l:List Int)(m d:Int),d∈l->d<=l.foldl mx m
 |x::l,m,d,h=>by
  simp only[List.foldl_cons]
  rcases List.mem_cons.1 h with rfl|h
  ·have h1:=mx_le (mx m d) l
   have:d<=mx m d:=by unfold mx;split <;> omega
   omega
  ·exact mx_mem l _ d h
theorem Qmf{o n:Int}{b:List Int}{ks:List Tr}{a:List Alt}{t:Tr}(h:t∈ks):Q0v t+1<=Q0v (.mk o n b ks a):=by
 simp only[Q0v,Q7q]
 have:=mx_mem (ks.map Q0v) 0 (Q0v t) (List.mem_map_of_mem h)
 omega
theorem Qew:∀t:Tr,1<=Q0v t
 |.mk o n b ks a=>by
  simp only[Q0v]
  have:=mx_le 0 (Q3j ks)
  omega
end Go.CoreX
namespace Go.Proofs.YtpaonemmbhbgoaaGreatDoor
open Go Go.Abs Go.CoreX
variable {Γ:List (Nat×List AC)}
def BIs (β:Int->Int)(ck:Nat)(l:List (Nat×Int×Int)):Prop:=∃f,IMOk f ck l/\∀k,(f k).getD 0=β k
theorem BIs.put{β:Int->Int}{f:Int->Option Int}(hf:∀k,(f k).getD 0=β k)(n v:Int):∀k,(setF f n v k).getD 0=if n=k then v else β k:=fun k=>by
 unfold setF
 by_cases e:n=k
 ·rw[if_pos e,if_pos e];rfl
 ·rw[if_neg e,if_neg e];exact hf k
def ouB (cb:Nat)(lb:List (Nat×Int×Int))(co:Nat)(lo:List (Nat×Int×Unit)):Outer:=ouOf [.map cb (encI eN lb),.map co (encI eU lo)]
theorem Q95(cb:Nat)(lb:List (Nat×Int×Int))(co:Nat)(lo:List (Nat×Int×Unit)):OuOk (ouB cb lb co lo):=by
 intro k o h
 match k,h with
 |0,h=>cases h;exact Q4c _ _ _
 |1,h=>cases h;exact Qic _ _ _
 |k+2,h=>cases h
theorem Q8b(cb cb':Nat)(lb lb':List (Nat×Int×Int))(co:Nat)(lo:List (Nat×Int×Unit)):(fun j=>bif Nat.beq j 0 then some (AObj.map cb' (encI eN lb'))else ouB cb lb co lo j)=ouB cb' lb' co lo:=by
 funext j
 match j with
 |0=>rfl
 |1=>rfl
 |k+2=>rfl
theorem Qhq(cb:Nat)(lb:List (Nat×Int×Int))(co co':Nat)(lo lo':List (Nat×Int×Unit)):(fun j=>bif Nat.beq j 1 then some (AObj.map co' (encI eU lo'))else ouB cb lb co lo j)=ouB cb lb co' lo':=by
 funext j
 match j with
 |0=>rfl
 |1=>rfl
 |k+2=>rfl
def FreeOk (Γ:List (Nat×List AC))(t:Tr):Prop:=∀(β:Int->Int)(m:Int)(cb:Nat)(lb:List (Nat×Int×Int))(co:Nat)(lo:List (Nat×Int×Unit))(S:List Int),(∀k,0<=β k/\β k<=m)->m+Q0v t * 1048576<=4611686018427387904->BIs β cb lb->SetIs S co lo->
 AFn Tryz.prog Γ 95 [.one (.box (cTr t)),.one (.mp (.o 0)),.one (.mp (.o 1))] (ouB cb lb co lo) (fun r ou'=>r=.tup []/\∃cb' lb' co' lo',ou'=ouB cb' lb' co' lo'/\BIs β cb' lb'/\SetIs (S++occB β t) co' lo')
theorem Qjy{o:Int}{b:List Int}{a:List Alt}{k:Int}(hb:b.length<=1048576)(ha:∀x∈a,x.binds.length<=1048576):(Q1p o b a k).length<=1048576:=by
 unfold Q1p
 split
 ·exact hb
 ·split
  ·rename_i h1 h2
   obtain⟨x,hx⟩:=Q00 (l:=a) (i:=(k - 1).toNat) (by omega)
   rw[List.getD_eq_getElem?_getD,hx]
   exact ha x (List.mem_of_getElem? hx)
  ·simp
theorem Qmq{β:Int->Int}{l:List Int}{j:Nat}{n:Int}(h:l[j]?=some n)(k:Int):addB β (l.take (j+1)) k=if n=k then addB β (l.take j) n+1 else addB β (l.take j) k:=by
 unfold addB
 rw[Q11 h,List.count_append]
 by_cases e:n=k
 ·subst e;simp;omega
 ·rw[if_neg e]
  have:[n].count k=0:=by simp[List.count_cons,e]
  omega
theorem Qmr{β:Int->Int}{l:List Int}{j:Nat}{n:Int}(h:l[j]?=some n)(k:Int):addB β (l.drop (j+1)) k=if n=k then addB β (l.drop j) n - 1 else addB β (l.drop j) k:=by
 have hd:l.drop j=n::l.drop (j+1):=by
  obtain⟨h1,h2⟩:=List.getElem?_eq_some_iff.1 h
  rw[List.drop_eq_getElem_cons h1,h2]
 unfold addB
 rw[hd,List.count_cons,List.count_cons]
 by_cases e:n=k
 ·subst e;simp;omega
 ·rw[if_neg e]
  have:(n==k)=false:=by simpa using e
  rw[this];simp
theorem Qgq{β:Int->Int}{l:List Int}{m:Int}(h:∀k,0<=β k/\β k<=m)(hl:l.length<=1048576)(k:Int):0<=addB β l k/\addB β l k<=m+1048576:=by
 have h1:=h k
 have h2:=List.count_le_length (a:=k) (l:=l)
 unfold addB;omega
set_option maxHeartbeats 1000000 in
theorem Qmb(hΓ:∀g cs,(g,cs)∈Γ->idsL isO cs):∀t:Tr,okT t->FreeOk Γ t
 |.mk o n b ks a,hok=>by
  obtain⟨hb,hk,ha,⟨hab,_⟩,hks⟩:=hok
  have ih:∀t∈ks,FreeOk Γ t:=fun t ht=>Qmb hΓ t (Q48.1 hks t ht)
  intro β m cb lb co lo S hβ hd ⟨f,hf,hfb⟩ ⟨g,hg,hgs⟩
  refine AFn.walk 73 tabOk Tryz.func95 rfl (by kernel_rfl) rfl rfl fun hou=>?_
  iterate 1 (first|((with_reducible refine oj ?_);refine zau ?_)|(with_reducible refine zst ?_)|((with_reducible refine Q0k ?_ ?_);rfl)|(with_reducible refine ok ?_;first|refine ACode.condT rfl ?_|refine ACode.condF rfl ?_))
  refine ACode.cutR hΓ (α:=Nat×List (Nat×Int×Unit)) (fun _=>[(2,.one (.mp (.o 1))),(1,.one (.mp (.o 0))),(0,.one (.box (cTr (.mk o n b ks a))))])
   (fun c => ⟨0, [], ouB cb lb c.1 c.2⟩) (fun c => SetIs (S ++ if o = 0 /\ β n = 0 then [n] else []) c.1 c.2) ?_ fun c hc => ?_
  ·by_cases ho:o=0
   ·subst ho
    repeat' first|refine zN ?_|(with_reducible refine oj ?_;refine AOps.splitS rfl rfl rfl rfl (fun hb=>?_) (fun hb=>?_))|(with_reducible refine ok ?_;first|refine ACode.condS rfl (fun hb=>?_) (fun hb=>?_)|refine ACode.cond rfl (fun hb=>?_) (fun hb=>?_))
    all_goals first
     |(exfalso;simp at hb;done)
     |skip
    refine zS (AStep.lookI eN (cm:=false) (v:=.one (int (β n))) rfl Tryz.underlying122 Tryz.underlying3 rfl rfl rfl (by kernel_rfl) zeroN hf (by simp only[Tr.n_mk];rw[←hfb n];cases f n <;> rfl)) ?_
    refine zA ?_
    refine ACode.cond rfl (fun hb=>?_) (fun hb=>?_)
    ·have h0:β n=0:=by simpa using hb
     refine zA ?_
     refine zS (AStep.buildU rfl Tryz.underlying141 (by kernel_rfl)) ?_
     refine AOps.putI eU (v:=()) rfl rfl rfl Tryz.underlying137 Tryz.underlying3 rfl rfl rfl rfl hg fun ck' l' hf'=>?_
     refine zA ?_
     exact cInv ⟨(ck',l'),id,⟨_,hf',by rw[if_pos ⟨rfl,h0⟩];exact Qfq hgs n⟩,LessR.of rfl zFS (by simp) .nil rfl (Qhq cb lb co ck' lo l').symm (by rw[show (St.set ⟨0,[],ouB cb lb co lo⟩ (.o 1) (.map ck' (encI eU l'))).ou=ouB cb lb ck' l' from Qhq cb lb co ck' lo l'];exact Q95 _ _ _ _)⟩
    ·have h0:¬β n=0:=by simpa using hb
     refine zA ?_
     exact cInv ⟨(co,lo),id,⟨g,hg,by rw[if_neg (fun h=>h0 h.2)];simpa using hgs⟩,LessR.of rfl zFS (by simp) .nil rfl rfl hou⟩
   ·have hcd:((Tr.mk o n b ks a).op==0)=false:=by simpa using ho
    repeat' first|refine zN ?_|(with_reducible refine oj ?_;refine AOps.splitS rfl rfl rfl rfl (fun hb=>?_) (fun hb=>?_))|(with_reducible refine ok ?_;first|refine ACode.condS rfl (fun hb=>?_) (fun hb=>?_)|refine ACode.cond rfl (fun hb=>?_) (fun hb=>?_))
    all_goals first
     |(exfalso;rw[hcd]at hb;cases hb;done)
     |exact cInv ⟨(co,lo),id,⟨g,hg,by rw[if_neg (fun h=>ho h.1)];simpa using hgs⟩,LessR.of rfl zFS (by simp) .nil rfl rfl hou⟩
  ·obtain⟨co,lo⟩:=c
   simp only at hc
   clear hgs hg g hou
   have hou:OuOk (ouB cb lb co lo):=Q95 _ _ _ _
   refine zA ?_
   refine ACode.loopR hΓ (α:=Nat×(Nat×List (Nat×Int×Int))×(Nat×List (Nat×Int×Unit))) (fun c=>[(38,.one (int c.1)),(37,.one (int (Q0y ks).length)),(36,.one (.sl 1 (Q0y ks))),(2,.one (.mp (.o 1))),(1,.one (.mp (.o 0))),(0,.one (.box (cTr (.mk o n b ks a))))])
    (fun c=>⟨0,[],ouB c.2.1.1 c.2.1.2 c.2.2.1 c.2.2.2⟩) (fun m c=>c.1<=ks.length/\BIs β c.2.1.1 c.2.1.2/\SetIs (S++(if o=0/\β n=0 then [n]else [])++occBs β o b a 0 (ks.take c.1)) c.2.2.1 c.2.2.2/\m=ks.length - c.1)
    (a0:=(0,(cb,lb),(co,lo))) (ρ:=id) ⟨by omega,⟨f,hf,hfb⟩,by simpa[occBs]using hc,rfl⟩ (LessR.of rfl zFS (by simp) .nil rfl rfl hou) fun m' c hi=>?_
   clear hc hf hfb f hou
   obtain⟨i,⟨cb,lb⟩,co,lo⟩:=c
   obtain⟨hil,hB,hS,rfl⟩:=hi
   simp only at hil hB hS
   have hou:OuOk (ouB cb lb co lo):=Q95 _ _ _ _
   refine zA ?_
   refine ACode.cond rfl (fun hb2=>?_) (fun hb2=>?_)
   ·have hlt:i < ks.length:=by simpa using hb2
    obtain⟨t,ht⟩:=Q00 hlt
    have htm:=List.mem_of_getElem? ht
    have hbn:=Qor hΓ (.mk o n b ks a) (i:Int) (by omega) ha
    have hll:=Qjy (o:=o) (k:=(i:Int)) hb hab
    have hsn:=Qaw β o b a t (ks.take i) 0
    rw[←Q11 ht]at hsn
    have hmin:(ks.take i).length=i:=by simp;omega
    rw[hmin,Nat.zero_add]at hsn
    simp only[Tr.op_mk,Tr.binds_mk,Tr.alts_mk]at hbn
    generalize Q1p o b a (i:Int)=l at hbn hll hsn
    have hdk:=Qmf (o:=o) (n:=n) (b:=b) (a:=a) htm
    refine zA ?_
    refine zS (zIA rfl rfl rfl (by omega) (Q2g ht)) ?_
    refine zA ?_
    refine zca hΓ hbn hou ?_
    refine zA ?_
    refine ACode.loopR hΓ (α:=Nat×Nat×List (Nat×Int×Int)) (fun c=>[(48,.one (int c.1)),(47,.one (int (l.map cI).length)),(46,.one (.sl 1 (l.map cI))),(8,.one (.sl 1 (l.map cI))),(7,.one (.box (cTr t))),(38,.one (int i)),(37,.one (int (Q0y ks).length)),(36,.one (.sl 1 (Q0y ks))),(2,.one (.mp (.o 1))),(1,.one (.mp (.o 0))),(0,.one (.box (cTr (.mk o n b ks a))))])
     (fun c=>⟨0,[],ouB c.2.1 c.2.2 co lo⟩) (fun m c=>c.1<=l.length/\BIs (addB β (l.take c.1)) c.2.1 c.2.2/\m=l.length - c.1) (a0:=(0,cb,lb)) (ρ:=id) ⟨by omega,by simpa[BIs,addB]using hB,rfl⟩ (LessR.of rfl zFS (by simp) .nil rfl rfl hou) fun m' c hj=>?_
    clear hB hou
    obtain⟨j,cb,lb⟩:=c
    obtain⟨hjl,⟨f,hf,hfb⟩,rfl⟩:=hj
    simp only at hjl hf hfb
    have hou:OuOk (ouB cb lb co lo):=Q95 _ _ _ _
    refine zA ?_
    refine ACode.cond rfl (fun hb3=>?_) (fun hb3=>?_)
    ·have hlt2:j < l.length:=by simpa using hb3
     obtain⟨q,hq⟩:=Q00 hlt2
     have hv:=Qgq (l:=l.take j) hβ (by simp;omega) q
     have hdp:=Qew t
     refine zA ?_
     refine zS (zIA rfl rfl rfl (by omega) (Q05 hq)) ?_
     refine zA ?_
     refine zS (AStep.lookI eN (cm:=false) (v:=.one (int (addB β (l.take j) q))) rfl Tryz.underlying122 Tryz.underlying3 rfl rfl rfl (by kernel_rfl) zeroN hf (by rw[←hfb q];cases f q <;> rfl)) ?_
     refine zS (AStep.arith rfl rfl rfl (.inl ⟨rfl,rfl⟩) zI) ?_
     refine AOps.putI eN (v:=addB β (l.take j) q+1) rfl rfl rfl Tryz.underlying122 Tryz.underlying3 rfl rfl rfl rfl hf fun ck' l' hf'=>?_
     refine zM ?_
     refine cInv ⟨l.length - (j+1),(j+1,ck',l'),id,by omega,⟨by omega,⟨_,hf',fun k=>?_⟩,rfl⟩,LessR.of rfl zFS (by simp) .nil rfl (Q8b cb ck' lb l' co lo).symm (by rw[show (St.set ⟨0,[],ouB cb lb co lo⟩ (.o 0) (.map ck' (encI eN l'))).ou=ouB ck' l' co lo from Q8b cb ck' lb l' co lo];exact Q95 _ _ _ _)⟩
     rw[BIs.put hfb,Qmq hq]
    have hlt2:j=l.length:=by simp at hb3;omega
    subst hlt2
    rw[List.take_length]at hfb
    have hcall:=ih t htm (addB β l) (m+1048576) cb lb co lo (S++(if o=0/\β n=0 then [n]else [])++occBs β o b a 0 (ks.take i)) (Qgq hβ hll) (by omega) ⟨f,hf,hfb⟩ hS
    clear hf hfb f
    refine zA ?_
    refine AOps.call1 hΓ rfl rfl rfl rfl rfl rfl rfl (by simp) hou hcall fun r ou' hq hids hou'=>?_
    obtain⟨rfl,cb,lb,co,lo,rfl,hB,hS2⟩:=hq
    rw[List.append_assoc,←hsn]at hS2
    refine zA ?_
    refine ACode.loopR hΓ (α:=Nat×Nat×List (Nat×Int×Int)) (fun c=>[(63,.one (int c.1)),(62,.one (int (l.map cI).length)),(61,.one (.sl 1 (l.map cI))),(38,.one (int i)),(37,.one (int (Q0y ks).length)),(36,.one (.sl 1 (Q0y ks))),(2,.one (.mp (.o 1))),(1,.one (.mp (.o 0))),(0,.one (.box (cTr (.mk o n b ks a))))])
     (fun c=>⟨0,[],ouB c.2.1 c.2.2 co lo⟩) (fun m c=>c.1<=l.length/\BIs (addB β (l.drop c.1)) c.2.1 c.2.2/\m=l.length - c.1) (a0:=(0,cb,lb)) (ρ:=id) ⟨by omega,by simpa using hB,rfl⟩ (LessR.of rfl zFS (by simp) .nil rfl rfl hou') fun m' c hj=>?_
    clear hB hou hou'
    obtain⟨j,cb,lb⟩:=c
    obtain⟨hjl,⟨f,hf,hfb⟩,rfl⟩:=hj
    simp only at hjl hf hfb
    have hou:OuOk (ouB cb lb co lo):=Q95 _ _ _ _
    refine zA ?_
    refine ACode.cond rfl (fun hb4=>?_) (fun hb4=>?_)
    ·have hlt2:j < l.length:=by simpa using hb4
     obtain⟨q,hq⟩:=Q00 hlt2
     have hv:=Qgq (l:=l.drop j) hβ (by simp;omega) q
     have hdp:=Qew t
     refine zA ?_
     refine zS (zIA rfl rfl rfl (by omega) (Q05 hq)) ?_
     refine zA ?_
     refine zS (AStep.lookI eN (cm:=false) (v:=.one (int (addB β (l.drop j) q))) rfl Tryz.underlying122 Tryz.underlying3 rfl rfl rfl (by kernel_rfl) zeroN hf (by rw[←hfb q];cases f q <;> rfl)) ?_
     refine zS (AStep.arith rfl rfl rfl (.inr (.inl ⟨rfl,rfl⟩)) zI) ?_
     refine AOps.putI eN (v:=addB β (l.drop j) q - 1) rfl rfl rfl Tryz.underlying122 Tryz.underlying3 rfl rfl rfl rfl hf fun ck' l' hf'=>?_
     refine zM ?_
     refine cInv ⟨l.length - (j+1),(j+1,ck',l'),id,by omega,⟨by omega,⟨_,hf',fun k=>?_⟩,rfl⟩,LessR.of rfl zFS (by simp) .nil rfl (Q8b cb ck' lb l' co lo).symm (by rw[show (St.set ⟨0,[],ouB cb lb co lo⟩ (.o 0) (.map ck' (encI eN l'))).ou=ouB ck' l' co lo from Q8b cb ck' lb l' co lo];exact Q95 _ _ _ _)⟩
     rw[BIs.put hfb,Qmr hq]
    ·have hlt2:j=l.length:=by simp at hb4;omega
     subst hlt2
     rw[List.drop_length]at hfb
     refine zM ?_
     exact cInv ⟨ks.length - (i+1),(i+1,(cb,lb),(co,lo)),id,by omega,⟨by omega,⟨f,hf,fun k=>by rw[hfb k];simp[addB]⟩,hS2,rfl⟩,LessR.of rfl zFS (by simp) .nil rfl rfl hou⟩
   ·have hlt:i=ks.length:=by simp at hb2;omega
    subst hlt
    rw[List.take_length,List.append_assoc]at hS
    refine zA ?_
    exact AFn.fin' rfl (WkF.refl _) (by simp) hou ⟨rfl,cb,lb,co,lo,rfl,hB,by simpa only [occB]using hS⟩
end Go.Proofs.YtpaonemmbhbgoaaGreatDoor
namespace Go.CoreX
theorem Q5w(n k:Int):∀l:List Int,k∈Q55 n l↔k=n∨k∈l
 | [] => by simp [Q55]
 |m::l=>by
  simp only[Q55]
  split
  ·simp
  ·split
   ·rename_i h1 h2
    subst h2
    simp
   ·simp only[List.mem_cons,Q5w n k l]
    constructor
    ·rintro (h|h|h) <;> simp[h]
    ·rintro (h|h|h) <;> simp[h]
theorem Q5o(n:Int):∀l:List Int,l.Pairwise (· < ·)->(Q55 n l).Pairwise (· < ·)
 | [], _ => by simp [Q55]
 |m::l,h=>by
  simp only[List.pairwise_cons]at h
  simp only[Q55]
  split
  ·rename_i h1
   simp only[List.pairwise_cons,List.mem_cons,forall_eq_or_imp]
   exact⟨⟨h1,fun a ha=>by have:=h.1 a ha;omega⟩,h.1,h.2⟩
  ·split
   ·simp only[List.pairwise_cons];exact h
   ·rename_i h1 h2
    simp only[List.pairwise_cons]
    refine⟨fun a ha=>?_,Q5o n l h.2⟩
    rcases (Q5w n a l).1 ha with rfl|ha
    ·omega
    ·exact h.1 a ha
theorem Q69(k:Int):∀l:List Int,k∈sortS l↔k∈l
 |[]=>by simp[sortS]
 |n::l=>by
  have ih:=Q69 k l
  unfold sortS at ih ⊢
  rw[List.foldr_cons,Q5w,ih,List.mem_cons]
theorem Q4y:∀l:List Int,(sortS l).Pairwise (· < ·)
 |[]=>by simp[sortS]
 |n::l=>by
  have ih:=Q4y l
  unfold sortS at ih ⊢
  rw[List.foldr_cons]
  exact Q5o n _ ih
theorem Q68:∀{l r:List Int},l.Pairwise (· < ·)->r.Pairwise (· < ·)->(∀k,k∈l↔k∈r)->l=r
 | [], [], _, _, _ => rfl
 | [], b :: r, _, _, h => by have := (h b).2 (by simp); simp at this
 |a::l,[],_,_,h=>by have:=(h a).1 (by simp);simp at this
 |a::l,b::r,hl,hr,h=>by
  simp only[List.pairwise_cons]at hl hr
  have hab:a=b:=by
   have h1:=(h a).1 (by simp)
   have h2:=(h b).2 (by simp)
   rcases List.mem_cons.1 h1 with h1|h1
   ·exact h1
   ·rcases List.mem_cons.1 h2 with h2|h2
    ·exact h2.symm
    ·have:=hr.1 a h1
     have:=hl.1 b h2
     omega
  subst hab
  congr 1
  refine Q68 hl.2 hr.2 fun k=>⟨fun hk=>?_,fun hk=>?_⟩
  ·rcases List.mem_cons.1 ((h k).1 (List.mem_cons_of_mem _ hk))with e|e
   ·have:=hl.1 k hk;omega
   ·exact e
  ·rcases List.mem_cons.1 ((h k).2 (List.mem_cons_of_mem _ hk))with e|e
   ·have:=hr.1 k hk;omega
   ·exact e
theorem sort_eq{keys m:List Int}(hn:keys.Nodup)(h:∀k,k∈keys↔k∈m):(keys.mergeSort fun x y=>decide (x<=y))=sortS m:=by
 have hp:=List.mergeSort_perm keys (fun x y:Int=>decide (x<=y))
 have hs:(keys.mergeSort fun x y=>decide (x<=y)).Pairwise (fun x y=>decide (x<=y)=true):=List.pairwise_mergeSort (fun a b c h1 h2=>by simp only[decide_eq_true_eq]at *;omega) (fun a b=>by simp only[Bool.or_eq_true,decide_eq_true_eq];omega) keys
 have hd:(keys.mergeSort fun x y=>decide (x<=y)).Nodup:=hp.nodup_iff.2 hn
 refine Q68 ?_ (Q4y m) fun k=>?_
 ·have:=hs.and hd
  refine this.imp fun {a b} hab=>?_
  have h1:=of_decide_eq_true hab.1
  have h2:=hab.2
  omega
 ·rw[Q69,←h k];exact hp.mem_iff
mutual
theorem occ_eq:∀(t:Tr)(sc:List Int)(β:Int->Int),(∀k,β k=0↔sc.contains k=false)->(∀k,0<=β k)->occT sc t=occB β t
 |.mk o n b k a,sc,β,h,h0=>by
  simp only[occT,occB]
  rw[Qlf k sc β o b a 0 h h0]
  congr 1
  by_cases e:o=0/\β n=0
  ·rw[if_pos e,if_pos ⟨e.1,(h n).1 e.2⟩]
  ·rw[if_neg e,if_neg (fun h2=>e ⟨h2.1,(h n).2 h2.2⟩)]
theorem Qlf:∀(l:List Tr)(sc:List Int)(β:Int->Int)(o:Int)(b:List Int)(a:List Alt)(i:Nat),(∀k,β k=0↔sc.contains k=false)->(∀k,0<=β k)->occTs sc o b a i l=occBs β o b a i l
 | [], _, _, _, _, _, _, _, _ => by simp [occTs, occBs]
 |t::l,sc,β,o,b,a,i,h,h0=>by
  simp only[occTs,occBs]
  rw[Qlf l sc β o b a (i+1) h h0,occ_eq t (Q1p o b a i++sc) (addB β (Q1p o b a i)) (fun k=>?_) (fun k=>?_)]
  ·unfold addB
   have h1:=h k
   have h2:=h0 k
   have h3:(Q1p o b a i).count k=0↔(Q1p o b a i).contains k=false:=by
    rw[List.count_eq_zero];simp
   simp only[List.contains_eq_mem,List.mem_append,decide_eq_false_iff_not,not_or]at *
   constructor
   ·intro h4
    exact⟨h3.1 (by omega),h1.1 (by omega)⟩
   ·rintro⟨h4,h5⟩
    have:=h3.2 h4
    have:=h1.2 h5
    omega
  ·unfold addB
   have:=h0 k
   omega
end
theorem Q9n(t:Tr):Q3h t=sortS (occB (fun _=>0) t):=by
 unfold Q3h
 rw[occ_eq t [] (fun _=>0) (fun k=>by simp) (fun k=>by simp)]
end Go.CoreX
namespace Go.CoreX
theorem Qcg{α:Type} [DecidableEq α]:∀{l m:List α},l.Nodup->(∀x∈l,x∈m)->l.length<=m.length
 |[],m,_,_=>by simp
 |a::l,m,hn,h=>by
  simp only[List.nodup_cons]at hn
  have ha:=h a (by simp)
  have:=Qcg (l:=l) (m:=m.erase a) hn.2 fun x hx=>by
   have hne:x≠a:=fun e=>hn.1 (e▸hx)
   exact (List.mem_erase_of_ne hne).2 (h x (by simp[hx]))
  rw[List.length_erase_of_mem ha]at this
  have:=List.length_pos_of_mem ha
  simp only[List.length_cons];omega
mutual
theorem Qcf:∀(t:Tr)(β:Int->Int)(out:List Ex),(occB β t).length+out.length<=(listT out t).length
 |.mk o n b k a,β,out=>by
  have:=Qe6 k β o b a 0 out
  simp only[occB,listT,List.length_append,List.length_singleton]
  split <;> simp <;> omega
theorem Qe6:∀(l:List Tr)(β:Int->Int)(o:Int)(b:List Int)(a:List Alt)(i:Nat)(out:List Ex),(occBs β o b a i l).length+out.length<=(Q02 out l).1.length
 |[],_,_,_,_,_,out=>by simp[occBs,Q02]
 |t::l,β,o,b,a,i,out=>by
  have h1:=Qcf t (addB β (Q1p o b a i)) out
  have h2:=Qe6 l β o b a (i+1) (listT out t)
  simp only[occBs,Q02,List.length_append];omega
end
end Go.CoreX
namespace Go.Proofs.YtpaonemmbhbgoaaGreatDoor
open Go Go.Abs Go.CoreX Go.Sort
variable {Γ:List (Nat×List AC)}
def SortOk:Prop:=∀(blk off cap:Nat)(zs:List Int)(w:World),Holds (Value.int .i64) w blk off zs.toArray->blk < w.heap.size->zs.length < 4611686018427387904->Calls Tryz.prog 96 #[.slice (some ⟨blk,off,none⟩) zs.length cap] w fun e w'=>
 e=.returned (.tuple #[])/\∃n os,w'=grow (putRow (Value.int .i64) (Sort.ahead w n) blk off (zs.mergeSort fun x y=>decide (x<=y)).toArray) os
def Qmv:Prop:=∀w:World,Calls Tryz.prog 96 #[.slice none 0 0] w fun e w'=>e=.returned (.tuple #[])/\w'=w
theorem Qal(us:Array Value)(w:World):(callFunc 96 us).run Tryz.prog w=.ok (.enter 96 us) w:=by
 have h1:Tryz.prog.funcs[96]?=some Tryz.f96:=Tryz.func96
 simp[callFunc,h1]
 rfl
def leftM (l:List (Nat×Int×Unit))(seen:List Nat):Nat:=(l.filter fun x=>decide (x.1∉seen)).length
theorem Qb1{l:List (Nat×Int×Unit)}{seen:List Nat}{x:Nat×Int×Unit}(hx:x∈l)(hb:x.1∉seen):leftM l (seen++[x.1]) < leftM l seen:=by
 unfold leftM
 induction l with
 |nil=>cases hx
 |cons y l ih=>
  have hmono:∀l:List (Nat×Int×Unit),(l.filter fun z=>decide (z.1∉seen++[x.1])).length<=(l.filter fun z=>decide (z.1∉seen)).length:=fun l=>by
   induction l with
   |nil=>simp
   |cons z l ih=>
    simp only[List.filter_cons]
    split <;> split <;> simp_all <;> omega
  simp only[List.filter_cons]
  rcases List.mem_cons.1 hx with rfl|hx
  ·have:=hmono l
   rw[if_neg (by simp),if_pos (by simpa using hb)]
   simp only[List.length_cons];omega
  ·have:=ih hx
   split <;> split <;> simp_all <;> omega
theorem pair_of{l:List (Nat×Int×Unit)}(hk:(l.map (·.2.1)).Nodup){x y:Nat×Int×Unit}(hx:x∈l)(hy:y∈l)(h:x.2.1=y.2.1):x=y:=by
 induction l with
 |nil=>cases hx
 |cons z l ih=>
  simp only[List.map_cons,List.nodup_cons]at hk
  rcases List.mem_cons.1 hx with e1|h1
  ·rcases List.mem_cons.1 hy with e2|h2
   ·rw[e1,e2]
   ·exact absurd (List.mem_map.2 ⟨y,h2,by rw[←h,e1]⟩:z.2.1∈l.map (·.2.1)) hk.1
  ·rcases List.mem_cons.1 hy with e2|h2
   ·exact absurd (List.mem_map.2 ⟨x,h1,by rw[h,e2]⟩:z.2.1∈l.map (·.2.1)) hk.1
   ·exact ih hk.2 h1 h2
theorem Qb6{l zs:List (Nat×Int×Unit)}(hk:(l.map (·.2.1)).Nodup):∀{zs:List (Nat×Int×Unit)},(∀x∈zs,x∈l)->(zs.map (·.1)).Nodup->(zs.map (·.2.1)).Nodup
 |[],_,_=>by simp
 |x::zs,h,hn=>by
  simp only[List.map_cons,List.nodup_cons]at hn ⊢
  refine⟨fun hm=>?_,Qb6 (zs:=zs) hk (fun y hy=>h y (by simp[hy])) hn.2⟩
  obtain⟨y,hy,e⟩:=List.mem_map.1 hm
  have:=pair_of hk (h x (by simp)) (h y (by simp[hy])) e.symm
  exact hn.1 (List.mem_map.2 ⟨y,hy,by rw[this]⟩)
@[simp] theorem Qib (p : Abs.Id -> Prop) (l : List Int) (cap : Nat) : idsL p (vec 1 (l.map cI) cap) := by
 unfold vec
 have e:(l.map cI).flatten=l.map int:=by
  induction l with
  |nil=>rfl
  |cons n l ih=>simp only[List.map_cons,List.flatten_cons,ih];rfl
 rw[e]
 refine Q8f (Qco p l) ?_
 generalize (cap - (l.map cI).length) * 1=q
 induction q with
 |zero=>simp
 |succ q ih=>rw[List.replicate_succ];exact⟨trivial,ih⟩
@[simp] theorem Qn8 (θ:Abs.Id->Abs.Id) (ck:Nat) (l:List (Nat×Int×Unit)):AObj.sub θ (.map ck (encI eU l))=.map ck (encI eU l):=by
 simp[AObj.sub,encI,eU,FV.sub,subL,Function.comp_def]
theorem Qer{β:Type}{enc:β->FV}{f:Int->Option β}{ck:Nat}{l:List (Nat×Int×β)}(h:IMOk f ck l):∀x∈encI enc l,x.1 < ck:=fun x hx=>by
 simp only[encI,List.mem_map]at hx
 obtain⟨y,hy,rfl⟩:=hx
 exact h.born y hy
theorem Qio{β:Type}{enc:β->FV}{l:List (Nat×Int×β)}:∀x∈encI enc l,x.2.1.oneCell'=true:=fun x hx=>by
 simp only[encI,List.mem_map]at hx
 obtain⟨y,hy,rfl⟩:=hx
 rfl
theorem Q9t{β:Type}{enc:β->FV}:∀{l:List (Nat×Int×β)}{x:Nat×Int×β},(l.map (·.1)).Nodup->x∈l->(encI enc l).find? (fun y=>y.1==x.1)=some (x.1,.int .i64 x.2.1,enc x.2.2)
 |y::l,x,hn,hx=>by
  simp only[List.map_cons,List.nodup_cons]at hn
  rcases List.mem_cons.1 hx with rfl|h
  ·simp[encI]
  ·have hne:y.1≠x.1:=fun e=>hn.1 (List.mem_map.2 ⟨_,h,e.symm⟩)
   have:=Q9t (enc:=enc) hn.2 h
   simp only[encI,List.map_cons,List.find?_cons]at this ⊢
   rw[beq_eq_false_iff_ne.2 hne]
   exact this
theorem Qml{l:List (Nat×Int×Unit)}(hk:(l.map (·.1)).Nodup){x y:Nat×Int×Unit}(hx:x∈l)(hy:y∈l)(h:x.1=y.1):x=y:=by
 induction l with
 |nil=>cases hx
 |cons z l ih=>
  simp only[List.map_cons,List.nodup_cons]at hk
  rcases List.mem_cons.1 hx with e1|h1
  ·rcases List.mem_cons.1 hy with e2|h2
   ·rw[e1,e2]
   ·exact absurd (List.mem_map.2 ⟨y,h2,by rw[←h,e1]⟩:z.1∈l.map (·.1)) hk.1
  ·rcases List.mem_cons.1 hy with e2|h2
   ·exact absurd (List.mem_map.2 ⟨x,h1,by rw[h,e2]⟩:z.1∈l.map (·.1)) hk.1
   ·exact ih hk.2 h1 h2
theorem Qi8{f:Int->Option Unit}{ck:Nat}{l:List (Nat×Int×Unit)}(h:IMOk f ck l)(k:Int):(f k).isSome=true↔∃x∈l,x.2.1=k:=by
 rw[←h.look k]
 cases hf:l.find? (fun x=>x.2.1==k) with
 |none=>
  simp only[Option.map_none,Option.isSome_none,Bool.false_eq_true,false_iff]
  rintro⟨x,hx,e⟩
  have:=List.find?_eq_none.1 hf x hx
  simp[e]at this
 |some x=>
  simp only[Option.map_some,Option.isSome_some,true_iff]
  have h1:=List.find?_some hf
  exact⟨x,List.mem_of_find?_eq_some hf,by simpa using h1⟩
def keyL (zs:List (Nat×Int×Unit)):List Int:=zs.map (·.2.1)
def bornL (zs:List (Nat×Int×Unit)):List Nat:=zs.map (·.1)
set_option maxHeartbeats 1000000 in
theorem Qmx(hΓ:∀g cs,(g,cs)∈Γ->idsL isO cs)(hΓF:∀g cs,(g,cs)∈Γ->idsL (fun _=>False) cs)(hs:SortOk)(hn:Qmv)(t:Tr)(ht:okT t)(hd:Q0v t<=1048576)(hsz:(listT [] t).length<=1048576):
  APure Tryz.prog Γ 67 [.one (.box (cTr t))] (.one (.sl 1 ((Q3h t).map cI))):=by
 intro ou
 refine AFn.walk 24 tabOk Tryz.func67 rfl (by kernel_rfl) rfl rfl fun hou=>?_
 refine zA ?_
 refine zS (AStep.makeMap rfl) ?_
 refine zA ?_
 refine zS (AStep.makeMap rfl) ?_
 refine zA ?_
 refine AOps.callR [.l 1,.l 0] [.one (.box (cTr t)),.one (.mp (.o 0)),.one (.mp (.o 1))] [.map 0 (encI eN []),.map 0 (encI eU [])] hΓF rfl rfl rfl rfl rfl rfl ?_ ?_ ?_ ?_ ?_ (Qmb hΓ t ht (fun _=>0) 0 0 [] 0 [] [] (fun k=>by simp) (by omega) ⟨_,IMOk.nil,fun k=>rfl⟩ SetIs.nil) ?_
 ·simp[subF,FV.sub,AC.sub,nameOf]
  exact⟨(Q1v _ _ (by simp)).symm,rfl⟩
 ·simp[inO]
 ·simp
 ·exact⟨rfl,rfl,trivial⟩
 ·simp[inO]
 intro r ou' hq
 obtain⟨rfl,cb,lb,co,lo,rfl,hB,g,hg,hgs⟩:=hq
 rw[List.nil_append]at hgs
 refine⟨[.map cb (encI eN lb),.map co (encI eU lo)],rfl,rfl,by simp[inO],by simp,?_⟩
 refine zA ?_
 refine zS (AStep.rangeMap rfl Tryz.underlying137 rfl rfl) ?_
 refine zA ?_
 refine ACode.loopR hΓ (α:=List (Nat×Int×Unit)×Option Nat) (fun a=>[(12,.one (.ptr (.l 2) 0)),(4,match a.2 with|none=>.one (.lit (.slice none 0 0))|some cap=>.one (.arr (.l 3) 1 0 ((keyL a.1).map cI).length cap))])
  (fun a=>match a.2 with|none=>⟨3,[(2,.iter (.l 0) co (bornL a.1) co),(0,.map co (encI eU lo))],ou⟩|some cap=>⟨4,[(3,.cells (vec 1 ((keyL a.1).map cI) cap)),(2,.iter (.l 0) co (bornL a.1) co),(0,.map co (encI eU lo))],ou⟩)
  (fun m a=>(∀x∈a.1,x∈lo)/\(bornL a.1).Nodup/\(match a.2 with|none=>a.1=[]|some cap=>a.1.length<=cap)/\m=leftM lo (bornL a.1)) (a0:=([],none)) (ρ:=id) ⟨by simp,by simp[bornL],rfl,rfl⟩ (LessR.of rfl ?_ ?_ ?_ rfl rfl hou) fun m a hj=>?_
 ·(repeat' first|exact FrSub.nil|refine zfc ?_|refine zfo ?_|refine zfp ?_)
 ·simp
 ·repeat' first|exact LoSub.nil|refine zlc ?_|refine zld ?_ ?_|rfl
  all_goals (rw[Qn8,Qca])
 obtain⟨zs,oc⟩:=a
 obtain⟨hzs,hnd,hcap,rfl⟩:=hj
 simp only at hzs hnd hcap
 have hin:∀k,k∈keyL zs->k∈occB (fun _=>0) t:=fun k hk=>by
  obtain⟨x,hx,rfl⟩:=List.mem_map.1 hk
  have h1:=(Qi8 hg x.2.1).2 ⟨x,hzs x hx,rfl⟩
  rw[hgs]at h1
  simpa using h1
 have hkn:(keyL zs).Nodup:=Qb6 (zs:=zs) hg.nk hzs hnd
 have hkl:(keyL zs).length<=1048576:=by
  have h1:=Qcg hkn hin
  have h2:=Qcf t (fun _=>0) []
  simp at h2
  omega
 have hend':(∀x∈encI eU lo,x.1∈bornL zs)->(keyL zs).mergeSort (fun x y=>decide (x<=y))=Q3h t:=fun hend=>by
  rw[Q9n]
  refine sort_eq hkn fun k=>⟨hin k,fun hk=>?_⟩
  have h1:(g k).isSome=true:=by rw[hgs];simpa using hk
  obtain⟨x,hx,rfl⟩:=(Qi8 hg k).1 h1
  have h2:=hend (x.1,.int .i64 x.2.1,eU x.2.2) (List.mem_map.2 ⟨x,hx,rfl⟩)
  obtain⟨y,hy,e⟩:=List.mem_map.1 h2
  have:=Qml hg.nb (hzs y hy) hx e
  subst this
  exact List.mem_map.2 ⟨y,hy,rfl⟩
 cases oc with
 |none=>
  subst hcap
  refine zA ?_
  refine AOps.nextMap rfl rfl rfl rfl rfl rfl rfl (Qer hg) (Nat.le_refl _) Qio (fun hend=>?_) (fun b u v hmem hnew=>?_)
  ·refine zA ?_
   refine AOps.callNo rfl rfl rfl rfl rfl rfl Qal hn ?_
   refine zA ?_
   have h1:=hend' hend
   refine APure.fin rfl (.trans (.one (.nilS 1)) (.ofEq ?_)) (by simp) hou rfl
   rw[←h1];simp[keyL]
  ·obtain⟨rfl,x,hx,rfl,rfl,_⟩:=(Qhx _ _ _ _).1 hmem
   obtain⟨bx,k,⟨⟩⟩:=x
   refine zA ?_
   refine zS (AStep.entry (last:=0) (u:=.int .i64 k) (v:=.agg []) rfl rfl rfl rfl (Q9t hg.nb hx) rfl) ?_
   refine zA ?_
   refine AOps.appOwn tabOk rfl rfl rfl rfl rfl rfl rfl rfl rfl (.nil 1) (.sl 1 [cI k]) (by simp) rfl (by simp;show 1 * 8<=_;omega) (by simp) fun cap hc=>?_
   refine zM ?_
   refine cInv ⟨leftM lo (bornL [(bx,k,())]),([(bx,k,())],some cap),id,Qb1 (x:=(bx,k,())) hx hnew,⟨by simpa using hx,by simp[bornL],by simpa using hc,rfl⟩,LessR.of rfl ?_ (by simp) ?_ rfl rfl hou⟩
   ·exact FrSub.cons rfl (.ofEq rfl) (FrSub.cons rfl (.ofEq rfl) .nil)
   ·refine LoSub.cons rfl ?_ rfl (by simp) (LoSub.cons rfl ?_ rfl (by simp) (LoSub.cons rfl (Qca _ _ _).symm rfl (by simp) .nil))
    ·rw[AObj.ren_pure _ _ (by simp)];simp[keyL]
    ·simp[AObj.ren,bornL];rfl
 |some cap=>
  refine zA ?_
  refine AOps.nextMap rfl rfl rfl rfl rfl rfl rfl (Qer hg) (Nat.le_refl _) Qio (fun hend=>?_) (fun b u v hmem hnew=>?_)
  ·have h1:=hend' hend
   refine zA ?_
   refine AOps.wk 21 rfl (y:=.one (.arr (.l 3) 1 0 (keyL zs).length cap)) (.ofEq (by simp)) ?_
   refine AOps.sortI (l:=keyL zs) rfl rfl rfl rfl rfl rfl Qal hs rfl (by omega) ?_
   rw[h1]
   refine AOps.wk 4 rfl (y:=.one (.arr (.l 3) 1 0 ((Q3h t).map iC).length cap)) (.ofEq (by rw[←h1];simp)) ?_
   refine AOps.freezeArr (.l 3) 4 rfl (by simp) rfl ?_
   refine zA ?_
   exact APure.fin rfl (WkF.ofEq rfl) (by simp) hou rfl
  ·obtain⟨rfl,x,hx,rfl,rfl,_⟩:=(Qhx _ _ _ _).1 hmem
   obtain⟨bx,k,⟨⟩⟩:=x
   refine zA ?_
   refine zS (AStep.entry (last:=0) (u:=.int .i64 k) (v:=.agg []) rfl rfl rfl rfl (Q9t hg.nb hx) rfl) ?_
   refine zA ?_
   have hzl:((keyL zs).map cI).length=zs.length:=by simp[keyL]
   refine AOps.appOwn tabOk rfl rfl rfl rfl rfl rfl rfl rfl rfl (.own 1 cap ((keyL zs).map cI) (.l 3) rfl (by simp[cI]) (by rw[hzl];exact hcap)) (.sl 1 [cI k]) (by simp) rfl (by simp;show (_+1) * 8<=_;omega) (by simp;omega) fun cap' hc=>?_
   refine zM ?_
   refine cInv ⟨leftM lo (bornL (zs++[(bx,k,())])),(zs++[(bx,k,())],some cap'),fun k=>if k=3 then 4 else k,by have:=Qb1 (x:=(bx,k,())) hx hnew;simpa[bornL]using this,⟨?_,?_,by simpa[keyL]using hc,rfl⟩,LessR.of rfl ?_ (by simp) ?_ rfl rfl hou⟩
   ·intro y hy
    rcases List.mem_append.1 hy with hy|hy
    ·exact hzs y hy
    ·simp at hy;subst hy;exact hx
   ·simp only[bornL,List.map_append,List.map_cons,List.map_nil]
    rw[List.nodup_append]
    refine⟨hnd,by simp,fun a ha b hb e=>?_⟩
    simp at hb
    subst hb;subst e
    exact hnew ha
   ·exact FrSub.cons rfl (.ofEq rfl) (FrSub.cons rfl (.ofEq (by simp[keyL,FV.ren,AC.ren];rfl)) .nil)
   ·refine LoSub.cons rfl ?_ rfl (by simp) (LoSub.cons rfl ?_ rfl (by simp) (LoSub.cons rfl (Qca _ _ _).symm rfl (by simp) .nil))
    ·rw[AObj.ren_pure _ _ (by simp)];simp[keyL]
    ·simp[AObj.ren,bornL];rfl
end Go.Proofs.YtpaonemmbhbgoaaGreatDoor
namespace Go.CoreX
theorem Qaq:∀{l r:List Int}{i:Nat}{x y:Int}{m:Nm},l[i]?=some x->r[i]?=some y->putsN m (l.take (i+1)) (r.take (i+1))=setN (putsN m (l.take i) (r.take i)) x y
 |[],_,i,x,y,m,h,_=>by simp at h
 |a::l,[],i,x,y,m,_,h=>by simp at h
 |a::l,b::r,0,x,y,m,h,h'=>by simp at h h';subst h;subst h';simp[putsN]
 |a::l,b::r,i+1,x,y,m,h,h'=>by
  simp only[List.take_succ_cons,putsN]
  exact Qaq (l:=l) (r:=r) (by simpa using h) (by simpa using h')
theorem Q8w:∀{l r:List Tr}{i:Nat}{a b:Tr}{m:Nm},(Q2i l r m).1=true->l[i]?=some a->r[i]?=some b->
  (sameT a b (Q2i (l.take i) (r.take i) m).2).1=true/\(Q2i (l.take (i+1)) (r.take (i+1)) m).2=(sameT a b (Q2i (l.take i) (r.take i) m).2).2
 |[],_,i,a,b,m,_,h,_=>by simp at h
 |x::l,[],i,a,b,m,_,_,h=>by simp at h
 |x::l,y::r,0,a,b,m,hs,h,h'=>by
  simp at h h'
  subst h;subst h'
  unfold Q2i at hs
  by_cases e:(sameT x y m).1=true
  ·simp[Q2i,e]
  ·simp[e]at hs
 |x::l,y::r,i+1,a,b,m,hs,h,h'=>by
  unfold Q2i at hs
  by_cases e:(sameT x y m).1=true
  ·simp only[e,if_true]at hs
   have:=Q8w (l:=l) (r:=r) hs (by simpa using h) (by simpa using h')
   simp only[List.take_succ_cons,Q2i,e,if_true]
   exact this
  ·simp[e]at hs
theorem Qa4:∀{l r:List Alt}{i:Nat}{a b:Alt},Q1k l r=true->l[i]?=some a->r[i]?=some b->a.tag=b.tag/\a.binds.length=b.binds.length
 |[],_,i,a,b,_,h,_=>by simp at h
 |x::l,[],i,a,b,_,_,h=>by simp at h
 |x::l,y::r,0,a,b,hs,h,h'=>by
  simp at h h'
  subst h;subst h'
  simp only[Q1k,Bool.and_eq_true,beq_iff_eq]at hs
  exact hs.1
 |x::l,y::r,i+1,a,b,hs,h,h'=>by
  simp only[Q1k,Bool.and_eq_true]at hs
  exact Qa4 hs.2 (by simpa using h) (by simpa using h')
theorem Q83:∀{l r:List Alt},Q1k l r=true->l.length=r.length->(l.flatMap (·.binds)).length=(r.flatMap (·.binds)).length
 |[],[],_,_=>rfl
 |[],y::r,_,h=>by simp at h
 |x::l,[],_,h=>by simp at h
 |x::l,y::r,hs,h=>by
  simp only[Q1k,Bool.and_eq_true,beq_iff_eq]at hs
  have:=Q83 hs.2 (by simpa using h)
  simp only[List.flatMap_cons,List.length_append,this,hs.1.2]
theorem Qf7{o:Int}{b b':List Int}{a a':List Alt}(hb:b.length=b'.length)(ha:a.length=a'.length)(hl:Q1k a a'=true):(Q08 o b a).length=(Q08 o b' a').length:=by
 unfold Q08
 rw[List.length_append,List.length_append,Q83 hl ha]
 split <;> simp[hb]
theorem Qj8{o n:Int}{b:List Int}{ks:List Tr}{a:List Alt}{t:Tr}{m:Nm}(h:(sameT (.mk o n b ks a) t m).1=true) :
  (o = t.op /\ ks.length = t.kids.length /\ b.length = t.binds.length /\ a.length = t.alts.length) /\
  ((o = 0 /\ Q8v m n t.n = true /\ (sameT (.mk o n b ks a) t m).2 = m) ∨
  (o ≠ 0 /\ n = t.n /\ (o = 9 -> b = t.binds) /\ Q1k a t.alts = true /\ (Q2i ks t.kids (putsN m (Q08 o b a) (Q08 t.op t.binds t.alts))).1 = true /\
   (sameT (.mk o n b ks a) t m).2=(Q2i ks t.kids (putsN m (Q08 o b a) (Q08 t.op t.binds t.alts))).2)):=by
 unfold sameT at h ⊢
 by_cases h1:Qh2 o ks.length b.length a.length t=true
 ·rw[if_pos h1]at h;cases h
 rw[if_neg h1]at h ⊢
 have h1':o=t.op/\ks.length=t.kids.length/\b.length=t.binds.length/\a.length=t.alts.length:=by
  simpa[Qh2,and_assoc]using h1
 refine⟨h1',?_⟩
 by_cases h2:o=0
 ·rw[if_pos h2]at h ⊢
  exact .inl ⟨h2,h,rfl⟩
 rw[if_neg h2]at h ⊢
 by_cases h3:((!(n==t.n))||(o==9&&!(b==t.binds)))=true
 ·rw[if_pos h3]at h;cases h
 rw[if_neg h3]at h ⊢
 have h3':n=t.n/\(o=9->b=t.binds):=by simpa using h3
 by_cases h4:Q1k a t.alts=false
 ·rw[if_pos h4]at h;cases h
 rw[if_neg h4]at h ⊢
 exact .inr ⟨h2,h3'.1,h3'.2,by simpa using h4,h,rfl⟩
end Go.CoreX
namespace Go.Proofs.YtpaonemmbhbgoaaGreatDoor
open Go Go.Abs Go.CoreX
variable {Γ:List (Nat×List AC)}
theorem Qlt{xs ys:List Int}{j:Nat}{x y:Int}(h1:xs[j]?=some x)(h2:ys[j]?=some y)(h:x≠y):(xs==ys)=false:=by
 apply beq_eq_false_iff_ne.2
 rintro rfl
 rw[h1]at h2
 exact h (by simpa using h2)
theorem Qlu{xs ys:List Int}(hl:xs.length=ys.length)(h:∀(j:Nat)(x y:Int),xs[j]?=some x->ys[j]?=some y->x=y):(xs==ys)=true:=by
 rw[beq_iff_eq]
 refine List.ext_getElem hl fun i h1 h2=>h i _ _ (List.getElem?_eq_getElem h1) (List.getElem?_eq_getElem h2)
theorem SameInts_ok(hΓ:∀g cs,(g,cs)∈Γ->idsL isO cs)(xs ys:List Int)(hx:xs.length<=1048576):
  APure Tryz.prog Γ 92 [.one (.sl 1 (xs.map cI)),.one (.sl 1 (ys.map cI))] (.one (.lit (.bool (xs==ys)))):=by
 intro ou
 refine AFn.walk 26 tabOk Tryz.func92 rfl (by kernel_rfl) rfl rfl fun hou=>?_
 refine zA ?_
 refine ACode.cond rfl (fun hb=>?_) (fun hb=>?_)
 ·refine zA ?_
  refine APure.fin rfl (WkF.ofEq ?_) (by simp) hou rfl
  have:(xs==ys)=false:=by
   apply beq_eq_false_iff_ne.2
   rintro rfl
   simp at hb
  rw[this]
 have hl:xs.length=ys.length:=by simp at hb;omega
 clear hb
 refine zA ?_
 refine ACode.loopR hΓ (α:=Nat) (fun j=>[(13,.one (int j)),(12,.one (int (xs.map cI).length)),(1,.one (.sl 1 (ys.map cI))),(0,.one (.sl 1 (xs.map cI)))])
  (fun j => ⟨0, [], ou⟩) (fun m j => j <= xs.length /\ (∀ (i : Nat) (x y : Int), i < j -> xs[i]? = some x -> ys[i]? = some y -> x = y) /\ m = xs.length - j) (a0 := 0) (ρ := id) ⟨by omega, fun i x y h => by omega, rfl⟩ (LessR.of rfl zFS (by simp) zLO rfl rfl hou) fun m j hj => ?_
 obtain⟨hjl,hno,rfl⟩:=hj
 refine zA ?_
 refine ACode.cond rfl (fun hb2=>?_) (fun hb2=>?_)
 ·have hlt:j < xs.length:=by simpa using hb2
  obtain⟨x,hx1⟩:=Q00 hlt
  obtain⟨y,hy1⟩:=Q00 (l:=ys) (i:=j) (by omega)
  refine zA ?_
  refine ACode.drawX tabOk 8 [(2,.one (.box (cI x))),(6,.one (.box (cI y)))] follows (by kernel_rfl) rfl rfl rfl rfl ?_ ?_
  ·refine .step rfl (zHP (zIA rfl rfl rfl (by omega) (Q05 hx1))) ?_
   exact .step rfl (zHP (zIA rfl rfl rfl (by omega) (Q05 hy1))) .nil
  refine zA ?_
  refine ACode.cond rfl (fun hb3=>?_) (fun hb3=>?_)
  ·have hne:x≠y:=by simpa using hb3
   refine zA ?_
   refine APure.fin rfl (WkF.ofEq ?_) (by simp) hou rfl
   rw[Qlt hx1 hy1 hne]
  ·have he:x=y:=by simpa using hb3
   refine zM ?_
   refine cInv ⟨xs.length - (j+1),j+1,id,by omega,⟨by omega,fun i x' y' hi h1 h2=>?_,rfl⟩,LessR.of rfl zFS (by simp) zLO rfl rfl hou⟩
   by_cases e:i=j
   ·subst e
    rw[hx1]at h1;rw[hy1]at h2
    cases h1;cases h2;exact he
   ·exact hno i x' y' (by omega) h1 h2
 ·have hlt:j=xs.length:=by simp at hb2;omega
  subst hlt
  refine zA ?_
  refine APure.fin rfl (WkF.ofEq ?_) (by simp) hou rfl
  rw[Qlu hl fun i x y h1 h2=>hno i x y (List.getElem?_eq_some_iff.1 h1).1 h1 h2]
theorem Qoq(hΓ:∀g cs,(g,cs)∈Γ->idsL isO cs)(xs ys:List Int)(hx:xs.length<=1048576):
  APure Tryz.prog Γ 36 [.one (.sl 1 (xs.map cI)),.one (.sl 1 (ys.map cI))] (.one (.lit (.bool (xs==ys)))):=by
 intro ou
 refine AFn.walk 26 tabOk Tryz.func36 rfl (by kernel_rfl) rfl rfl fun hou=>?_
 refine zA ?_
 refine ACode.cond rfl (fun hb=>?_) (fun hb=>?_)
 ·refine zA ?_
  refine APure.fin rfl (WkF.ofEq ?_) (by simp) hou rfl
  have:(xs==ys)=false:=by
   apply beq_eq_false_iff_ne.2
   rintro rfl
   simp at hb
  rw[this]
 have hl:xs.length=ys.length:=by simp at hb;omega
 clear hb
 refine zA ?_
 refine ACode.loopR hΓ (α:=Nat) (fun j=>[(13,.one (int j)),(12,.one (int (xs.map cI).length)),(1,.one (.sl 1 (ys.map cI))),(0,.one (.sl 1 (xs.map cI)))])
  (fun j => ⟨0, [], ou⟩) (fun m j => j <= xs.length /\ (∀ (i : Nat) (x y : Int), i < j -> xs[i]? = some x -> ys[i]? = some y -> x = y) /\ m = xs.length - j) (a0 := 0) (ρ := id) ⟨by omega, fun i x y h => by omega, rfl⟩ (LessR.of rfl zFS (by simp) zLO rfl rfl hou) fun m j hj => ?_
 obtain⟨hjl,hno,rfl⟩:=hj
 refine zA ?_
 refine ACode.cond rfl (fun hb2=>?_) (fun hb2=>?_)
 ·have hlt:j < xs.length:=by simpa using hb2
  obtain⟨x,hx1⟩:=Q00 hlt
  obtain⟨y,hy1⟩:=Q00 (l:=ys) (i:=j) (by omega)
  refine zA ?_
  refine ACode.drawX tabOk 8 [(2,.one (.box (cI x))),(6,.one (.box (cI y)))] follows (by kernel_rfl) rfl rfl rfl rfl ?_ ?_
  ·refine .step rfl (zHP (zIA rfl rfl rfl (by omega) (Q05 hx1))) ?_
   exact .step rfl (zHP (zIA rfl rfl rfl (by omega) (Q05 hy1))) .nil
  refine zA ?_
  refine ACode.cond rfl (fun hb3=>?_) (fun hb3=>?_)
  ·have hne:x≠y:=by simpa using hb3
   refine zA ?_
   refine APure.fin rfl (WkF.ofEq ?_) (by simp) hou rfl
   rw[Qlt hx1 hy1 hne]
  ·have he:x=y:=by simpa using hb3
   refine zM ?_
   refine cInv ⟨xs.length - (j+1),j+1,id,by omega,⟨by omega,fun i x' y' hi h1 h2=>?_,rfl⟩,LessR.of rfl zFS (by simp) zLO rfl rfl hou⟩
   by_cases e:i=j
   ·subst e
    rw[hx1]at h1;rw[hy1]at h2
    cases h1;cases h2;exact he
   ·exact hno i x' y' (by omega) h1 h2
 ·have hlt:j=xs.length:=by simp at hb2;omega
  subst hlt
  refine zA ?_
  refine APure.fin rfl (WkF.ofEq ?_) (by simp) hou rfl
  rw[Qlu hl fun i x y h1 h2=>hno i x y (List.getElem?_eq_some_iff.1 h1).1 h1 h2]
def ouN (ck:Nat)(l:List (Nat×Int×Int)):Outer:=ouOf [.map ck (encI eN l)]
theorem Ql9(ck:Nat)(l:List (Nat×Int×Int)):OuOk (ouN ck l):=by
 intro k o h
 match k,h with
 |0,h=>cases h;exact Q4c _ _ _
 |k+1,h=>cases h
theorem Ql8(ck ck':Nat)(l l':List (Nat×Int×Int)):(fun j=>bif Nat.beq j 0 then some (AObj.map ck' (encI eN l'))else ouN ck l j)=ouN ck' l':=by
 funext j
 match j with
 |0=>rfl
 |k+1=>rfl
theorem okT_tr{t:Tr}(h:okT t):t.binds.length<=1048576/\t.kids.length<=1048576/\t.alts.length<=1048576/\(∀x∈t.alts,x.binds.length<=1048576)/\Qa3 t<=4194304/\∀k∈t.kids,okT k:=by
 cases t with
 |mk o n b k a=>
  obtain⟨h1,h2,h3,h4,h5⟩:=h
  exact⟨h1,h2,h3,h4.1,h4.2,Q48.1 h5⟩
def SameOk (Γ:List (Nat×List AC))(a b:Tr):Prop:=∀(m:Nm)(ck:Nat)(l:List (Nat×Int×Int)),IMOk m ck l->(sameT a b m).1=true->
 AFn Tryz.prog Γ 88 [.one (.box (cTr a)),.one (.box (cTr b)),.one (.mp (.o 0))] (ouN ck l) (fun r ou'=>r=.one (.lit (.bool true))/\∃ck' l',ou'=ouN ck' l'/\IMOk (sameT a b m).2 ck' l')
set_option maxHeartbeats 2000000 in
theorem Qkn(hΓ:∀g cs,(g,cs)∈Γ->idsL isO cs):∀a:Tr,okT a->∀b,okT b->SameOk Γ a b
 |.mk o n bs ks al,ha,t,ht=>by
  have ha':=okT_tr ha
  obtain⟨hbs,hks,hal,hab,hbl,hkk⟩:=ha'
  simp only[Tr.binds_mk,Tr.kids_mk,Tr.alts_mk]at hbs hks hal hab hkk
  have ih:∀x∈ks,∀y,okT y->SameOk Γ x y:=fun x hx y hy=>Qkn hΓ x (hkk x hx) y hy
  obtain⟨htb,htk,hta,htab,htl,htkk⟩:=okT_tr ht
  intro m ck l hm hs
  obtain⟨⟨e1,e2,e3,e4⟩,hcase⟩:=Qj8 hs
  refine AFn.walk 222 tabOk Tryz.func88 rfl (by kernel_rfl) rfl rfl fun hou=>?_
  refine zA ?_
  refine ACode.drawX tabOk 47 [(8,.one (.lit (.bool false))),(20,.one (.lit (.bool false))),(33,.one (.lit (.bool false))),(46,.one (.lit (.bool false)))] follows (by kernel_rfl) rfl rfl rfl rfl ?_ ?_
  ·refine .step rfl (HStep.litB tabOk rfl (by simp[e1])) ?_
   refine .step rfl (HStep.litB tabOk rfl (by simp[e2])) ?_
   refine .step rfl (HStep.litB tabOk rfl (by simp[e3])) ?_
   exact .step rfl (HStep.litB tabOk rfl (by simp[e4])) .nil
  iterate 7 (first|((with_reducible refine oj ?_);refine zau ?_)|(with_reducible refine zst ?_)|((with_reducible refine Q0k ?_ ?_);rfl)|(with_reducible refine ok ?_;first|refine ACode.condT rfl ?_|refine ACode.condF rfl ?_))
  refine ACode.cutR hΓ (α:=Unit) (fun _=>[(2,.one (.mp (.o 0))),(1,.one (.box (cTr t))),(0,.one (.box (cTr (.mk o n bs ks al))))])
   (fun _ => ⟨0, [], ouN ck l⟩) (fun _ => o ≠ 0 /\ Q1k al t.alts = true /\ (Q2i ks t.kids (putsN m (Q08 o bs al) (Q08 t.op t.binds t.alts))).1 = true /\ (sameT (.mk o n bs ks al) t m).2 = (Q2i ks t.kids (putsN m (Q08 o bs al) (Q08 t.op t.binds t.alts))).2) ?_ fun _ hc => ?_
  ·refine zA ?_
   rcases hcase with ⟨h0,hv,hm2⟩|⟨h0,hn,h9,hal2,hts,hm2⟩
   ·refine ACode.cond rfl (fun hb=>?_) (fun hb=>absurd h0 (by simpa using hb))
    have hz:=zeroN
    refine zA ?_
    refine zS (AStep.lookI eN (cm:=true) (v:=.one (int ((m n).getD 0))) rfl Tryz.underlying122 Tryz.underlying3 rfl rfl rfl (by kernel_rfl) zeroN hm (by simp only[Tr.n_mk];cases m n <;> rfl)) ?_
    refine zA ?_
    cases hmn:m n with
    |some v=>
     have hvt:v=t.n:=by simpa[Q8v,hmn]using hv
     refine ACode.wk 8 rfl (y:=.one (.lit (.bool true))) (.ofEq (by simp[hmn])) ?_
     refine ACode.wk 7 rfl (y:=.one (int v)) (.ofEq (by simp[hmn])) ?_
     refine ACode.drawX tabOk 24 [(7,.one (.lit (.bool true)))] follows (by kernel_rfl) rfl rfl rfl rfl ?_ ?_
     ·exact .step rfl (HStep.litB tabOk rfl (by simp[hvt])) .nil
     refine zA ?_
     exact AFn.fin' rfl (WkF.refl _) (by simp) hou ⟨rfl,ck,l,rfl,by rw[hm2];exact hm⟩
    |none=>
     have hvt:n=t.n:=by simpa[Q8v,hmn]using hv
     refine ACode.wk 8 rfl (y:=.one (.lit (.bool false))) (.ofEq (by simp[hmn])) ?_
     refine ACode.drawX tabOk 24 [(21,.one (.lit (.bool true)))] follows (by kernel_rfl) rfl rfl rfl rfl ?_ ?_
     ·exact .step rfl (HStep.litB tabOk rfl (by simp[hvt])) .nil
     refine zA ?_
     exact AFn.fin' rfl (WkF.refl _) (by simp) hou ⟨rfl,ck,l,rfl,by rw[hm2];exact hm⟩
   ·refine ACode.cond rfl (fun hb=>absurd (by simpa using hb) h0) (fun hb=>?_)
    refine zA ?_
    by_cases h9':o=9
    ·have heq:=Qoq hΓ bs t.binds hbs
     rw[h9 h9']at heq
     have e9:(t.binds==t.binds)=true:=by simp
     rw[e9]at heq
     refine ACode.drawX tabOk 28 [(8,.one (.lit (.bool false))),(14,.one (.lit (.bool true))),(24,.one (.lit (.bool true)))] follows (by kernel_rfl) rfl rfl rfl rfl ?_ ?_
     ·refine .step rfl (HStep.litB tabOk rfl (by simp[hn])) ?_
      refine .step rfl (HStep.litB tabOk rfl (by simp[h9'])) ?_
      exact .step rfl (HStep.guarded rfl rfl rfl (AStep.callP hΓ rfl rfl rfl (by rw[h9 h9'];rfl) (by simp) hou heq)) .nil
     refine zA ?_
     exact cInv ⟨(),id,⟨h0,hal2,hts,hm2⟩,LessR.of rfl zFS (by simp) .nil rfl rfl hou⟩
    ·refine ACode.drawX tabOk 28 [(8,.one (.lit (.bool false))),(14,.one (.lit (.bool false)))] follows (by kernel_rfl) rfl rfl rfl rfl ?_ ?_
     ·refine .step rfl (HStep.litB tabOk rfl (by simp[hn])) ?_
      exact .step rfl (HStep.litB tabOk rfl (by simp[h9'])) .nil
     refine zA ?_
     exact cInv ⟨(),id,⟨h0,hal2,hts,hm2⟩,LessR.of rfl zFS (by simp) .nil rfl rfl hou⟩
  obtain⟨h0,hal2,hts,hm2⟩:=hc
  clear hcase hs
  refine zA ?_
  refine ACode.loopR hΓ (α:=Nat) (fun i=>[(135,.one (int i)),(134,.one (int (al.map cAlt).length)),(2,.one (.mp (.o 0))),(1,.one (.box (cTr t))),(0,.one (.box (cTr (.mk o n bs ks al))))])
   (fun i => ⟨0, [], ouN ck l⟩) (fun m i => i <= al.length /\ m = al.length - i) (a0 := 0) (ρ := id) ⟨by omega, rfl⟩ (LessR.of rfl zFS (by simp) .nil rfl rfl hou) fun m' i hi => ?_
  obtain⟨hil,rfl⟩:=hi
  refine zA ?_
  refine ACode.cond rfl (fun hb3=>?_) (fun hb3=>?_)
  ·have hlt:i < al.length:=by simpa using hb3
   obtain⟨x,hx⟩:=Q00 hlt
   obtain⟨y,hy⟩:=Q00 (l:=t.alts) (i:=i) (by omega)
   obtain⟨q1,q2⟩:=Qa4 hal2 hx hy
   refine zA ?_
   refine ACode.drawX tabOk 37 [(5,.one (.box (cAlt x))),(13,.one (.box (cAlt y))),(16,.one (.lit (.bool false))),(23,.one (.box (cAlt x))),(32,.one (.box (cAlt y))),(36,.one (.lit (.bool false)))] follows (by kernel_rfl) rfl rfl rfl rfl ?_ ?_
   ·refine .step rfl (zHP (zIA rfl rfl rfl (by omega) (Q05 hx))) ?_
    refine .step rfl (zHP (zIA rfl rfl rfl (by omega) (Q05 hy))) ?_
    refine .step rfl (HStep.litB tabOk rfl (by simp[q1])) ?_
    refine .step rfl (HStep.guarded rfl rfl rfl (zIA rfl rfl rfl (by omega) (Q05 hx))) ?_
    refine .step rfl (HStep.guarded rfl rfl rfl (zIA rfl rfl rfl (by omega) (Q05 hy))) ?_
    exact .step rfl (HStep.litB tabOk rfl (by simp[q2])) .nil
   refine zM ?_
   exact cInv ⟨al.length - (i+1),i+1,id,by omega,⟨by omega,rfl⟩,LessR.of rfl zFS (by simp) .nil rfl rfl hou⟩
  clear hb3
  have hlen:=Qf7 (o:=o) e3 e4 hal2
  have hB1:=Q7u hΓ (.mk o n bs ks al) hbl hal
  have hB2:=Q7u hΓ t htl hta
  have hbn:(Q08 o bs al).length<=4194304:=by
   unfold Qa3 at hbl
   simp only[Tr.binds_mk,Tr.alts_mk]at hbl
   unfold Q08
   rw[List.length_append]
   split
   ·omega
   ·simp only[List.length_nil];omega
  simp only[Tr.op_mk,Tr.binds_mk,Tr.alts_mk]at hB1
  rw[←e1]at hB2 hts hm2
  generalize Q08 o bs al=L1 at hlen hB1 hts hm2 hbn
  generalize Q08 o t.binds t.alts=L2 at hlen hB2 hts hm2
  refine zA ?_
  refine zca hΓ hB1 hou ?_
  refine zA ?_
  refine zca hΓ hB2 hou ?_
  refine zA ?_
  refine ACode.loopR hΓ (α:=Nat×Nat×List (Nat×Int×Int)) (fun c=>[(183,.one (int c.1)),(182,.one (int (L1.map cI).length)),(11,.one (.sl 1 (L2.map cI))),(10,.one (.sl 1 (L1.map cI))),(2,.one (.mp (.o 0))),(1,.one (.box (cTr t))),(0,.one (.box (cTr (.mk o n bs ks al))))])
   (fun c=>⟨0,[],ouN c.2.1 c.2.2⟩) (fun m' c=>c.1<=L1.length/\IMOk (putsN m (L1.take c.1) (L2.take c.1)) c.2.1 c.2.2/\m'=L1.length - c.1) (a0:=(0,ck,l)) (ρ:=id) ⟨by omega,by simpa[putsN]using hm,rfl⟩ (LessR.of rfl zFS (by simp) .nil rfl rfl hou) fun m' c hi=>?_
  clear hm hou
  obtain⟨i,ck,l⟩:=c
  obtain⟨hil,hm,rfl⟩:=hi
  simp only at hil hm
  have hou:OuOk (ouN ck l):=Ql9 _ _
  refine zA ?_
  refine ACode.cond rfl (fun hb3=>?_) (fun hb3=>?_)
  ·have hlt:i < L1.length:=by simpa using hb3
   obtain⟨x,hx⟩:=Q00 hlt
   obtain⟨y,hy⟩:=Q00 (l:=L2) (i:=i) (by omega)
   refine zA ?_
   refine ACode.drawX tabOk 9 [(3,.one (.box (cI x))),(7,.one (.box (cI y)))] follows (by kernel_rfl) rfl rfl rfl rfl ?_ ?_
   ·refine .step rfl (zHP (zIA rfl rfl rfl (by omega) (Q05 hx))) ?_
    exact .step rfl (zHP (zIA rfl rfl rfl (by omega) (Q05 hy))) .nil
   refine AOps.putI eN (v:=y) rfl rfl rfl Tryz.underlying122 Tryz.underlying3 rfl rfl rfl rfl hm fun ck' l' hm'=>?_
   refine zM ?_
   refine cInv ⟨L1.length - (i+1),(i+1,ck',l'),id,by omega,⟨by omega,?_,rfl⟩,LessR.of rfl zFS (by simp) .nil rfl (Ql8 ck ck' l l').symm (by rw[show (St.set ⟨0,[],ouN ck l⟩ (.o 0) (.map ck' (encI eN l'))).ou=ouN ck' l' from Ql8 ck ck' l l'];exact Ql9 _ _)⟩
   rw[Qaq hx hy];exact hm'
  have hlt:i=L1.length:=by simp at hb3;omega
  subst hlt
  rw[List.take_length,hlen,List.take_length]at hm
  generalize putsN m L1 L2=m1 at hm hts hm2
  clear hb3
  refine zA ?_
  refine ACode.loopR hΓ (α:=Nat×Nat×List (Nat×Int×Int)) (fun c=>[(201,.one (int c.1)),(200,.one (int (Q0y ks).length)),(2,.one (.mp (.o 0))),(1,.one (.box (cTr t))),(0,.one (.box (cTr (.mk o n bs ks al))))])
   (fun c=>⟨0,[],ouN c.2.1 c.2.2⟩) (fun m' c=>c.1<=ks.length/\IMOk (Q2i (ks.take c.1) (t.kids.take c.1) m1).2 c.2.1 c.2.2/\m'=ks.length - c.1) (a0:=(0,ck,l)) (ρ:=id) ⟨by omega,by simpa[Q2i]using hm,rfl⟩ (LessR.of rfl zFS (by simp) .nil rfl rfl hou) fun m' c hi=>?_
  clear hm hou
  obtain⟨i,ck,l⟩:=c
  obtain⟨hil,hm,rfl⟩:=hi
  simp only at hil hm
  have hou:OuOk (ouN ck l):=Ql9 _ _
  refine zA ?_
  refine ACode.cond rfl (fun hb3=>?_) (fun hb3=>?_)
  ·have hlt:i < ks.length:=by simpa using hb3
   obtain⟨x,hx⟩:=Q00 hlt
   obtain⟨y,hy⟩:=Q00 (l:=t.kids) (i:=i) (by omega)
   obtain⟨q1,q2⟩:=Q8w hts hx hy
   have hcall:=ih x (List.mem_of_getElem? hx) y (htkk y (List.mem_of_getElem? hy)) _ ck l hm q1
   refine zA ?_
   refine ACode.drawX tabOk 15 [(5,.one (.box (cB x))),(12,.one (.box (cB y)))] follows (by kernel_rfl) rfl rfl rfl rfl ?_ ?_
   ·refine .step rfl (zHP (zIA rfl rfl rfl (by omega) (Q2g hx))) ?_
    exact .step rfl (zHP (zIA rfl rfl rfl (by omega) (Q2g hy))) .nil
   refine AOps.call1 hΓ rfl rfl rfl rfl rfl rfl rfl (by simp) hou hcall fun r ou' hq hids hou'=>?_
   obtain⟨rfl,ck',l',rfl,hm'⟩:=hq
   refine zM ?_
   refine cInv ⟨ks.length - (i+1),(i+1,ck',l'),id,by omega,⟨by omega,?_,rfl⟩,LessR.of rfl zFS (by simp) .nil rfl rfl hou'⟩
   rw[q2];exact hm'
  ·have hlt:i=ks.length:=by simp at hb3;omega
   subst hlt
   rw[List.take_length,e2,List.take_length]at hm
   refine zA ?_
   exact AFn.fin' rfl (WkF.refl _) (by simp) hou ⟨rfl,ck,l,rfl,by rw[hm2];exact hm⟩
end Go.Proofs.YtpaonemmbhbgoaaGreatDoor
namespace Go.Proofs
open Go.Shelf
def Tryz.lays189_ren:Go.Shelf.Ren:=⟨fun|189=>96|125=>118|257=>117|128=>161|129=>162|294=>152|295=>153|296=>154|297=>155|298=>156|299=>157|216=>158|300=>159|301=>160|328=>176|329=>177|330=>178|331=>179|332=>180|215=>181|343=>194|n=>n,fun|28=>29|3=>3|46=>161|0=>0|51=>205|53=>207|4=>4|183=>199|182=>198|131=>130|5=>5|9=>9|218=>227|222=>231|228=>244|229=>237|n=>n,fun|n=>n⟩
theorem Tryz.lays189:Go.Proofs.Lays.n189 Tryz.prog Tryz.lays189_ren:={
 mixed:=by kernel_rfl
 f125:=Tryz.func118.trans (congrArg some (by kernel_rfl))
 f128:=Tryz.func161.trans (congrArg some (by kernel_rfl))
 f129:=Tryz.func162.trans (congrArg some (by kernel_rfl))
 f189:=Tryz.func96.trans (congrArg some (by kernel_rfl))
 f215:=Tryz.func181.trans (congrArg some (by kernel_rfl))
 f216:=Tryz.func158.trans (congrArg some (by kernel_rfl))
 f257:=Tryz.func117.trans (congrArg some (by kernel_rfl))
 f294:=Tryz.func152.trans (congrArg some (by kernel_rfl))
 f295:=Tryz.func153.trans (congrArg some (by kernel_rfl))
 f296:=Tryz.func154.trans (congrArg some (by kernel_rfl))
 f297:=Tryz.func155.trans (congrArg some (by kernel_rfl))
 f298:=Tryz.func156.trans (congrArg some (by kernel_rfl))
 f299:=Tryz.func157.trans (congrArg some (by kernel_rfl))
 f300:=Tryz.func159.trans (congrArg some (by kernel_rfl))
 f301:=Tryz.func160.trans (congrArg some (by kernel_rfl))
 f328:=Tryz.func176.trans (congrArg some (by kernel_rfl))
 f329:=Tryz.func177.trans (congrArg some (by kernel_rfl))
 f330:=Tryz.func178.trans (congrArg some (by kernel_rfl))
 f331:=Tryz.func179.trans (congrArg some (by kernel_rfl))
 f332:=Tryz.func180.trans (congrArg some (by kernel_rfl))
 f343:=Tryz.func194.trans (congrArg some (by kernel_rfl))
 t0:=Tryz.underlying0
 a0:=Tryz.isAgg0
 z0:=Tryz.sizeOf0
 v0:=Tryz.zeroValue0
 t3:=Tryz.underlying3
 a3:=Tryz.isAgg3
 z3:=Tryz.sizeOf3
 v3:=Tryz.zeroValue3
 t4:=Tryz.underlying4
 a4:=Tryz.isAgg4
 z4:=Tryz.sizeOf4
 v4:=Tryz.zeroValue4
 t5:=Tryz.underlying5
 a5:=Tryz.isAgg5
 z5:=Tryz.sizeOf5
 v5:=Tryz.zeroValue5
 t9:=Tryz.underlying9
 a9:=Tryz.isAgg9
 z9:=Tryz.sizeOf9
 v9:=Tryz.zeroValue9
 t28:=Tryz.underlying29
 a28:=Tryz.isAgg29
 z28:=Tryz.sizeOf29
 v28:=Tryz.zeroValue29
 t46:=Tryz.underlying161
 a46:=Tryz.isAgg161
 z46:=Tryz.sizeOf161
 v46:=Tryz.zeroValue161
 t51:=Tryz.underlying205
 a51:=Tryz.isAgg205
 z51:=Tryz.sizeOf205
 v51:=Tryz.zeroValue205
 t53:=Tryz.underlying207
 a53:=Tryz.isAgg207
 z53:=Tryz.sizeOf207
 v53:=Tryz.zeroValue207
 t131:=Tryz.underlying130
 a131:=Tryz.isAgg130
 z131:=Tryz.sizeOf130
 v131:=Tryz.zeroValue130
 t182:=Tryz.underlying198
 a182:=Tryz.isAgg198
 z182:=Tryz.sizeOf198
 v182:=Tryz.zeroValue198
 t183:=Tryz.underlying199
 a183:=Tryz.isAgg199
 z183:=Tryz.sizeOf199
 v183:=Tryz.zeroValue199
 t218:=Tryz.underlying227
 a218:=Tryz.isAgg227
 z218:=Tryz.sizeOf227
 v218:=Tryz.zeroValue227
 t222:=Tryz.underlying231
 a222:=Tryz.isAgg231
 z222:=Tryz.sizeOf231
 v222:=Tryz.zeroValue231
 t228:=Tryz.underlying244
 a228:=Tryz.isAgg244
 z228:=Tryz.sizeOf244
 v228:=Tryz.zeroValue244
 t229:=Tryz.underlying237
 a229:=Tryz.isAgg237
 z229:=Tryz.sizeOf237
 v229:=Tryz.zeroValue237 }
open Go.Sort Go.RowKit in
theorem Tryz.slices_Sort_int(blk off cap:Nat)(zs:List Int)(w:World)(hH:Holds (Value.int .i64) w blk off zs.toArray)(hblk:blk < w.heap.size)(hsz:zs.length < 4611686018427387904):
  Calls Tryz.prog 96 #[.slice (some ⟨blk,off,none⟩) zs.length cap] w fun e w'=>
   e=.returned (.tuple #[])/\∃n os,w'=grow (putRow (Value.int .i64) (Sort.ahead w n) blk off (zs.mergeSort fun x y=>decide (x<=y)).toArray) os:=Any.slices_Sort_int Tryz.lays189 blk off cap zs w hH hblk hsz
theorem Tryz.slices_Sort_int_none(p:Option Addr)(cap:Nat)(w:World):
  Calls Tryz.prog 96 #[.slice p 0 cap] w fun e w'=>e=.returned (.tuple #[])/\w'=w:=Any.slices_Sort_int_none Tryz.lays189 p cap w
end Go.Proofs
namespace Go.Proofs.YtpaonemmbhbgoaaGreatDoor
open Go Go.Sort
theorem sortOk:SortOk:=fun blk off cap zs w hH hblk hsz=>Tryz.slices_Sort_int blk off cap zs w hH hblk hsz
theorem sortNil:Qmv:=fun w=>Tryz.slices_Sort_int_none none 0 w
end Go.Proofs.YtpaonemmbhbgoaaGreatDoor
namespace Go.CoreX
theorem Qnp{e:List Ex}(h:∀x∈e,x.binds.length<=1048576/\x.kids.length<=1048576/\x.alts.length<=1048576/\(∀a∈x.alts,a.binds.length<=1048576)/\x.binds.length+(x.alts.flatMap (·.binds)).length<=4194304)(hk:Q0p e):∀t∈growL e,okT t:=by
 revert h hk
 refine Q6a (P:=fun e=>(∀x∈e,x.binds.length<=1048576/\x.kids.length<=1048576/\x.alts.length<=1048576/\(∀a∈x.alts,a.binds.length<=1048576)/\x.binds.length+(x.alts.flatMap (·.binds)).length<=4194304)->Q0p e->∀t∈growL e,okT t) (fun _ _ t ht=>by simp[growL]at ht) (fun e x ih h hk t ht=>?_) e
 obtain⟨h1,h2⟩:=Q2q.1 hk
 have ih:=ih (fun y hy=>h y (by simp[hy])) h1
 rw[Q22]at ht
 rcases List.mem_append.1 ht with ht|ht
 ·exact ih t ht
 ·simp at ht
  subst ht
  obtain⟨a1,a2,a3,a4,a5⟩:=h x (by simp)
  refine⟨a1,by simpa using a2,a3,⟨a4,a5⟩,Q48.2 fun s hs=>?_⟩
  obtain⟨k,hk2,rfl⟩:=List.mem_map.1 hs
  have hkb:=h2 k hk2
  have hl:k.toNat < (growL e).length:=by rw[Q0c];omega
  rw[List.getD_eq_getElem?_getD,List.getElem?_eq_getElem hl]
  exact ih _ (List.getElem_mem hl)
theorem Qo3{e:List Ex}(h:e≠[]):grow e∈growL e:=by
 have hl:e.length - 1 < (growL e).length:=by rw[Q0c];have:=List.length_pos_iff.2 h;omega
 unfold grow
 rw[List.getD_eq_getElem?_getD,List.getElem?_eq_getElem hl]
 exact List.getElem_mem hl
theorem Q9o{α:Type}{f:α->Int}:∀{l:List α}{j:Nat}{x:α},(∀y∈l.take j,f y=0)->l[j]?=some x->f x≠0->Q1i f l=f x
 |[],j,x,_,h,_=>by simp at h
 |a::l,0,x,_,h,hx=>by simp at h;subst h;simp[Q1i,hx]
 |a::l,j+1,x,h0,h,hx=>by
  have h1:=h0 a (by simp)
  simp only[Q1i,h1]
  exact Q9o (l:=l) (j:=j) (fun y hy=>h0 y (by simp[hy])) (by simpa using h) hx
theorem Qjr(t:Tr):(Q3h t).length<=(listT [] t).length:=by
 have h1:(Q3h t).Nodup:=(Q4y (occT [] t)).imp fun {a b} h=>by omega
 have h2:=Qcg h1 (m:=occB (fun _=>0) t) fun x hx=>by rw[Q9n]at hx;exact (Q69 x _).1 hx
 have h3:=Qcf t (fun _=>0) []
 simp at h3
 omega
theorem Qcj{e:List Ex}(h:IsTree e):(listT [] (grow e)).length=e.length:=by
 have hp:=Q9f h (Q0s (grow e)) (Q0b _).symm
 rw[←Q3p e,←Q3p];exact hp.length_eq.symm
end Go.CoreX
namespace Go.Proofs.YtpaonemmbhbgoaaGreatDoor
open Go Go.Abs Go.CoreX
structure okB (e:List Ex):Prop where
 eo:okE e
 b:∀x∈e,x.binds.length+(x.alts.flatMap (·.binds)).length<=4194304
theorem okB.ex{e:List Ex}(h:okB e):∀x∈e,(Q07 x).length<=4194304/\x.binds.length+(x.alts.flatMap (·.binds)).length<=4194304:=fun x hx=>by
 have h1:=h.b x hx
 refine⟨?_,h1⟩
 unfold Q07 Q08
 rw[List.length_append]
 split
 ·omega
 ·simp only[List.length_nil];omega
theorem okB.t{e:List Ex}(h:okB e)(hk:Q0p e)(hne:e≠[]):okT (grow e):=Qnp (fun x hx=>⟨(h.eo.x x hx).b,(h.eo.x x hx).k,(h.eo.x x hx).a,(h.eo.x x hx).ab,h.b x hx⟩) hk _ (Qo3 hne)
theorem hΓcF:∀g cs,(g,cs)∈Γc->idsL (fun _=>False) cs:=fun g cs h=>by
 simp[Γc]at h
 first
  |(obtain⟨rfl,rfl⟩:=h;simp[arC,Q5c];done)
  |(rcases h with ⟨rfl,rfl⟩|⟨rfl,rfl⟩ <;> simp[arC,orC,Q5c])
set_option maxHeartbeats 1000000 in
theorem Body_ok(e:List Ex)(he:okB e)(params:List Int)(hp:params.length<=1048576)(flat:Bool):
  APure Tryz.prog Γc 48 [.one (.sl 5 (e.map cEx)),.one (.sl 1 (params.map cI)),.one (.lit (.bool flat))] (.one (int (body e params flat))):=by
 have hel:=he.eo.l
 intro ou
 refine AFn.walk 62 tabOk Tryz.func48 rfl (by kernel_rfl) rfl rfl fun hou=>?_
 refine zA ?_
 refine AOps.freeze1 (.l 0) 3 rfl rfl ?_
 refine zca hΓc (Qdg hΓc e he.eo) hou ?_
 refine zA ?_
 refine ACode.cond rfl (fun hb=>?_) (fun hb=>?_)
 ·have hb':Q1q e≠0:=by simpa using hb
  refine zA ?_
  refine APure.fin rfl (WkF.ofEq ?_) (by simp) hou rfl
  unfold body
  rw[if_pos hb']
 have h1:Q1q e=0:=by simpa using hb
 clear hb
 obtain⟨t1,t2,t3⟩:=(Q1f e).1 h1
 have hn:body e params flat=if Q1i (Q0g flat e) e≠0 then Q1i (Q0g flat e) e else if Q56 (params++Q04 e)=true then 7 else if (Q3h (grow e)).all (fun n=>params.contains n)=true then 0 else 6:=by
  unfold body;rw[if_neg (by simpa using h1)]
 refine zA ?_
 refine ACode.loopR hΓc (α:=Nat) (fun j=>[(20,.one (int j)),(19,.one (int (e.map cEx).length)),(18,.one (.sl 5 (e.map cEx))),(3,.one (.box [.sl 5 (e.map cEx)])),(2,.one (.lit (.bool flat))),(1,.one (.sl 1 (params.map cI)))])
  (fun j => ⟨0, [], ou⟩) (fun m j => j <= e.length /\ (∀ x ∈ e.take j, Q0g flat e x = 0) /\ m = e.length - j) (a0 := 0) (ρ := id) ⟨by omega, by simp, rfl⟩ (LessR.of rfl zFS (by simp) zLO rfl rfl hou) fun m j hj => ?_
 obtain⟨hjl,hno,rfl⟩:=hj
 refine zA ?_
 refine ACode.cond rfl (fun hb2=>?_) (fun hb2=>?_)
 ·have hlt:j < e.length:=by simpa using hb2
  obtain⟨x,hx⟩:=Q00 hlt
  have hxm:=List.mem_of_getElem? hx
  have hxo:=he.eo.x x hxm
  have bad:Q0g flat e x≠0->body e params flat=Q0g flat e x:=fun h=>by
   rw[hn,Q9o hno hx h,if_pos h]
  have hkk:∀k∈x.kids,0<=k/\k.toNat < e.length:=fun k hk=>by have:=Q7e t2.k hxm k hk;omega
  have hcall:=Qe8 e x hxo hkk
  refine zA ?_
  refine zS (zIA rfl rfl rfl (by omega) (Q05 hx)) ?_
  cases flat with
  |false=>
   have hE:Q0g false e x=if Q4j x.op=true then 3 else Q1b e x:=by simp[Q0g]
   repeat' first|refine zN ?_|(with_reducible refine oj ?_;refine AOps.splitS rfl rfl rfl rfl (fun hb=>?_) (fun hb=>?_))|(with_reducible refine ok ?_;first|refine ACode.condS rfl (fun hb=>?_) (fun hb=>?_)|refine ACode.cond rfl (fun hb=>?_) (fun hb=>?_))
   refine zca hΓc (Qgf x.op) hou ?_
   repeat' first|refine zN ?_|(with_reducible refine oj ?_;refine AOps.splitS rfl rfl rfl rfl (fun hb=>?_) (fun hb=>?_))|(with_reducible refine ok ?_;first|refine ACode.condS rfl (fun hb=>?_) (fun hb=>?_)|refine ACode.cond rfl (fun hb=>?_) (fun hb=>?_))
   all_goals try
    (
    refine APure.fin rfl (WkF.ofEq ?_) (by simp) hou rfl
    rw[bad (by rw[hE,if_pos hb];decide),hE,if_pos hb]
    done)
   rw[if_neg (by rw[hb];decide)]at hE
   refine zca hΓc hcall hou ?_
   refine zA ?_
   refine ACode.cond rfl (fun hb3=>?_) (fun hb3=>?_)
   ·have h3:Q1b e x≠0:=by simpa using hb3
    refine zA ?_
    refine APure.fin rfl (WkF.ofEq ?_) (by simp) hou rfl
    rw[bad (by rw[hE];exact h3),hE]
   ·have h3:Q1b e x=0:=by simpa using hb3
    refine zM ?_
    exact cInv ⟨e.length - (j+1),j+1,id,by omega,⟨by omega,Q1s hno hx (by rw[hE];exact h3),rfl⟩,LessR.of rfl zFS (by simp) zLO rfl rfl hou⟩
  |true=>
   have hE:Q0g true e x=if Q5j x.op=true then 3 else Q1b e x:=by simp[Q0g]
   repeat' first|refine zN ?_|(with_reducible refine oj ?_;refine AOps.splitS rfl rfl rfl rfl (fun hb=>?_) (fun hb=>?_))|(with_reducible refine ok ?_;first|refine ACode.condS rfl (fun hb=>?_) (fun hb=>?_)|refine ACode.cond rfl (fun hb=>?_) (fun hb=>?_))
   refine zca hΓc (Qgh x.op) hou ?_
   repeat' first|refine zN ?_|(with_reducible refine oj ?_;refine AOps.splitS rfl rfl rfl rfl (fun hb=>?_) (fun hb=>?_))|(with_reducible refine ok ?_;first|refine ACode.condS rfl (fun hb=>?_) (fun hb=>?_)|refine ACode.cond rfl (fun hb=>?_) (fun hb=>?_))
   all_goals try
    (
    refine APure.fin rfl (WkF.ofEq ?_) (by simp) hou rfl
    rw[bad (by rw[hE,if_pos hb];decide),hE,if_pos hb]
    done)
   rw[if_neg (by rw[hb];decide)]at hE
   refine zca hΓc hcall hou ?_
   refine zA ?_
   refine ACode.cond rfl (fun hb3=>?_) (fun hb3=>?_)
   ·have h3:Q1b e x≠0:=by simpa using hb3
    refine zA ?_
    refine APure.fin rfl (WkF.ofEq ?_) (by simp) hou rfl
    rw[bad (by rw[hE];exact h3),hE]
   ·have h3:Q1b e x=0:=by simpa using hb3
    refine zM ?_
    exact cInv ⟨e.length - (j+1),j+1,id,by omega,⟨by omega,Q1s hno hx (by rw[hE];exact h3),rfl⟩,LessR.of rfl zFS (by simp) zLO rfl rfl hou⟩
 have hlt:j=e.length:=by simp at hb2;omega
 subst hlt
 rw[List.take_length]at hno
 rw[if_neg (by rw[Classical.not_not];exact (Q23 _ _).2 hno)]at hn
 clear hno hb2 hjl
 have hgt:=he.t t2.k t2.ne
 refine zA ?_
 refine zca hΓc (Qn3 hΓc e he.eo params hp he.ex) hou ?_
 refine zA ?_
 refine ACode.cond rfl (fun hb=>?_) (fun hb=>?_)
 ·refine zA ?_
  refine APure.fin rfl (WkF.ofEq ?_) (by simp) hou rfl
  rw[hn,if_pos hb]
 rw[if_neg (by rw[hb];decide)]at hn
 refine zA ?_
 refine zca hΓc (Qa8 hΓc e he.eo t2.k t2.ne) hou ?_
 refine zca hΓc (Qmx hΓc hΓcF sortOk sortNil (grow e) hgt (by omega) (by rw[Qcj t2];omega)) hou ?_
 have hfl:=Qjr (grow e)
 rw[Qcj t2]at hfl
 generalize Q3h (grow e)=fs at hn hfl
 refine zA ?_
 refine ACode.loopR hΓc (α:=Nat) (fun j=>[(53,.one (int j)),(52,.one (int (fs.map cI).length)),(51,.one (.sl 1 (fs.map cI))),(1,.one (.sl 1 (params.map cI)))])
  (fun j=>⟨0,[],ou⟩) (fun m j=>j<=fs.length/\(∀x∈fs.take j,params.contains x=true)/\m=fs.length - j) (a0:=0) (ρ:=id) ⟨by omega,by simp,rfl⟩ (LessR.of rfl zFS (by simp) zLO rfl rfl hou) fun m j hj=>?_
 obtain⟨hjl,hno,rfl⟩:=hj
 refine zA ?_
 refine ACode.cond rfl (fun hb2=>?_) (fun hb2=>?_)
 ·have hlt:j < fs.length:=by simpa using hb2
  obtain⟨k,hk⟩:=Q00 hlt
  refine zA ?_
  refine zS (zIA rfl rfl rfl (by omega) (Q05 hk)) ?_
  refine zA ?_
  refine zca hΓc (Qgu hΓc params hp k) hou ?_
  refine zA ?_
  refine ACode.cond rfl (fun hb3=>?_) (fun hb3=>?_)
  ·refine zA ?_
   refine APure.fin rfl (WkF.ofEq ?_) (by simp) hou rfl
   rw[hn,if_neg]
   rw[List.all_eq_true]
   intro h
   have:=h k (List.mem_of_getElem? hk)
   rw[this]at hb3;cases hb3
  ·refine zM ?_
   exact cInv ⟨fs.length - (j+1),j+1,id,by omega,⟨by omega,Q1s hno hk (by simpa using hb3),rfl⟩,LessR.of rfl zFS (by simp) zLO rfl rfl hou⟩
 ·have hlt:j=fs.length:=by simp at hb2;omega
  subst hlt
  rw[List.take_length]at hno
  refine zA ?_
  refine APure.fin rfl (WkF.ofEq ?_) (by simp) hou rfl
  rw[hn,if_pos (List.all_eq_true.2 hno)]
theorem Q38(e:List Ex)(he:okB e):APure Tryz.prog Γc 13 [.one (.sl 5 (e.map cEx))] (.one (int (check e))):=by
 intro ou
 refine AFn.walk 5 tabOk Tryz.func13 rfl (by kernel_rfl) rfl rfl fun hou=>?_
 refine zA ?_
 refine AOps.callCW (ws:=[.one (.sl 5 (e.map cEx)),.one (.sl 1 (([]:List Int).map cI)),.one (.lit (.bool false))]) hΓc (Body_ok e he [] (by simp) false) rfl rfl rfl rfl rfl rfl ?_ hou (by simp) ?_
 ·exact .cons (.refl _) (.cons (.one (.nilS 1)) (.cons (.refl _) .nil))
 refine zA ?_
 exact APure.fin rfl (WkF.ofEq rfl) (by simp) hou rfl
variable {Γ:List (Nat×List AC)}
theorem Qgs(hΓ:∀g cs,(g,cs)∈Γ->idsL isO cs)(hΓF:∀g cs,(g,cs)∈Γ->idsL (fun _=>False) cs)(a b:Tr)(ha:okT a)(hb:okT b)(hs:Q87 a b=true):
  APure Tryz.prog Γ 57 [.one (.box (cTr a)),.one (.box (cTr b))] (.one (.lit (.bool true))):=by
 intro ou
 refine AFn.walk 9 tabOk Tryz.func57 rfl (by kernel_rfl) rfl rfl fun hou=>?_
 refine zA ?_
 refine zS (AStep.makeMap rfl) ?_
 refine AOps.callR [.l 0] [.one (.box (cTr a)),.one (.box (cTr b)),.one (.mp (.o 0))] [.map 0 (encI eN [])] hΓF rfl rfl rfl rfl rfl rfl ?_ ?_ ?_ ?_ ?_ (Qkn hΓ a ha b hb (fun _=>none) 0 [] IMOk.nil hs) ?_
 ·simp[subF,FV.sub,AC.sub,nameOf]
  exact⟨(Q1v _ _ (by simp)).symm,(Q1v _ _ (by simp)).symm⟩
 ·simp[inO]
 ·simp
 ·exact⟨rfl,trivial⟩
 ·simp[inO]
 intro r ou' hq
 obtain⟨rfl,ck',l',rfl,hm⟩:=hq
 refine⟨[.map ck' (encI eN l')],rfl,rfl,by simp[inO],by simp,?_⟩
 rw[show FV.sub (nameOf [.l 0]) (.one (.lit (.bool true)))=.one (.lit (.bool true))from rfl]
 refine zA ?_
 exact APure.fin rfl (WkF.ofEq rfl) (by simp) hou rfl
theorem Same_ok(e f:List Ex)(he:okB e)(hf:okB f)(hs:same e f=true):APure Tryz.prog Γc 21 [.one (.sl 5 (e.map cEx)),.one (.sl 5 (f.map cEx))] (.one (.lit (.bool true))):=by
 have hs':(check e=0/\check f=0)/\Q87 (grow e) (grow f)=true:=by simpa[same]using hs
 obtain⟨⟨h1,h2⟩,h3⟩:=hs'
 have t1:=Q0h h1
 have t2:=Q0h h2
 have c1:=Q38 e he
 have c2:=Q38 f hf
 rw[h1]at c1
 rw[h2]at c2
 intro ou
 refine AFn.walk 20 tabOk Tryz.func21 rfl (by kernel_rfl) rfl rfl fun hou=>?_
 refine zA ?_
 refine zca hΓc c1 hou ?_
 refine zM ?_
 refine zca hΓc c2 hou ?_
 refine zM ?_
 refine zca hΓc (Qa8 hΓc e he.eo t1.k t1.ne) hou ?_
 refine zM ?_
 refine zca hΓc (Qa8 hΓc f hf.eo t2.k t2.ne) hou ?_
 refine zM ?_
 refine zca hΓc (Qgs hΓc hΓcF (grow e) (grow f) (he.t t1.k t1.ne) (hf.t t2.k t2.ne) h3) hou ?_
 refine zM ?_
 exact APure.fin rfl (WkF.ofEq rfl) (by simp) hou rfl
end Go.Proofs.YtpaonemmbhbgoaaGreatDoor
namespace Go.Abs
theorem AStep.wk{E:Env}{o:Oper}{fr:Fr}{σ σ':St}{x y:FV}(h:AStep E o fr σ x σ')(hw:WkF x y):AStep E o fr σ y σ':=
 fun F w C tmps hi hf next Q hk=>h F w C tmps hi hf next Q fun u w' C' a b c=>hk u w' C' a b (hw _ _ _ c)
end Go.Abs
namespace Go.Proofs.YtpaonemmbhbgoaaGreatDoor
open Go Go.Abs Go.CoreX
variable {Γ:List (Nat×List AC)}
mutual
def encNd:Tr->List AC
 |.mk o n b k a=>[int o,int n,.sl 1 (b.map cI),.any,.sl 2 (a.map cAlt),.sl 1 (Q2x k)]
def Q2x:List Tr->List (List AC)
 |[]=>[]
 |t::ts=>[.box (encNd t)]::Q2x ts
end
def cNd (t:Tr):List AC:=[int t.op,int t.n,.sl 1 (t.binds.map cI),.any,.sl 2 (t.alts.map cAlt),.sl 1 (Q2x t.kids)]
theorem Qoa(t:Tr):encNd t=cNd t:=by cases t;simp[encNd,cNd]
theorem Q3i:∀l:List Tr,Q2x l=l.map fun t=>[.box (cNd t)]
 |[]=>rfl
 |t::ts=>by simp[Q2x,Q3i ts,Qoa]
theorem Qjs{l:List Tr}{i:Nat}{t:Tr}(h:l[i]?=some t):(Q2x l)[i]?=some [.box (cNd t)]:=by rw[Q3i];simp[h]
mutual
theorem Qm3(p:Abs.Id->Prop):∀t:Tr,idsL p (encNd t)
 |.mk o n b k a=>by simp[encNd,Q7j p k]
theorem Q7j(p:Abs.Id->Prop):∀l:List Tr,idsS p (Q2x l)
 |[]=>by simp[Q2x]
 |t::ts=>by simp[Q2x,Qm3 p t,Q7j p ts]
end
attribute [simp] Q7j
@[simp] theorem ids_cNd (p:Abs.Id->Prop) (t:Tr):idsL p (cNd t):=by simp[cNd]
@[simp] theorem len_encNds (l:List Tr):(Q2x l).length=l.length:=by rw[Q3i];simp
theorem N_ok(op n:Int)(ks:List Tr):APure Tryz.prog Γ 26 [.one (int op),.one (int n),.one (.sl 1 (Q2x ks))] (.one (.box (cNd (.mk op n [] ks [])))):=by
 intro ou
 refine AFn.walk 13 tabOk Tryz.func26 rfl (by kernel_rfl) rfl rfl fun hou=>?_
 iterate 14 (first|((with_reducible refine oj ?_);refine zau ?_)|(with_reducible refine zst ?_)|((with_reducible refine Q0k ?_ ?_);rfl)|(with_reducible refine ok ?_;first|refine ACode.condT rfl ?_|refine ACode.condF rfl ?_))
 refine AOps.freeze1 (.l 0) 6 rfl rfl ?_
 refine zA ?_
 refine APure.fin rfl (.one (Wk.box ?_)) (by simp) hou rfl
 exact .cons (.refl _) (.cons (.refl _) (.cons (.nilS 1) (.cons (.any _) (.cons (.nilS 2) (.cons (.refl _) .nil)))))
theorem B_ok(op:Int)(b:List Int)(ks:List Tr):APure Tryz.prog Γ 16 [.one (int op),.one (.sl 1 (b.map cI)),.one (.sl 1 (Q2x ks))] (.one (.box (cNd (.mk op 0 b ks [])))):=by
 intro ou
 refine AFn.walk 13 tabOk Tryz.func16 rfl (by kernel_rfl) rfl rfl fun hou=>?_
 iterate 14 (first|((with_reducible refine oj ?_);refine zau ?_)|(with_reducible refine zst ?_)|((with_reducible refine Q0k ?_ ?_);rfl)|(with_reducible refine ok ?_;first|refine ACode.condT rfl ?_|refine ACode.condF rfl ?_))
 refine AOps.freeze1 (.l 0) 6 rfl rfl ?_
 refine zA ?_
 refine APure.fin rfl (.one (Wk.box ?_)) (by simp) hou rfl
 exact .cons (.refl _) (.cons (.refl _) (.cons (.refl _) (.cons (.any _) (.cons (.nilS 2) (.cons (.refl _) .nil)))))
theorem V_ok(hΓ:∀g cs,(g,cs)∈Γ->idsL isO cs)(n:Int):APure Tryz.prog Γ 17 [.one (int n)] (.one (.box (cNd (.mk 0 n [] [] [])))):=by
 intro ou
 refine AFn.walk 5 tabOk Tryz.func17 rfl (by kernel_rfl) rfl rfl fun hou=>?_
 refine zA ?_
 refine AOps.callCW (ws:=[.one (int 0),.one (int n),.one (.sl 1 (Q2x []))]) hΓ (N_ok 0 n []) rfl rfl rfl rfl rfl rfl ?_ hou (by simp) ?_
 ·exact .cons (.refl _) (.cons (.refl _) (.cons (.one (.nilS 1)) .nil))
 refine zA ?_
 exact APure.fin rfl (WkF.ofEq rfl) (by simp) hou rfl
def IntoOk (Γ:List (Nat×List AC))(t:Tr):Prop:=∀(ou:Outer)(ko kt:Nat)(out:List Ex),OuOk ou->ou ko=none->ou kt=none->ko≠kt->(listT out t).length<=1048576->
 AFn Tryz.prog Γ 52 [.one (.box (cNd t)),.one (.ptr (.o ko) 0)] (ouS ou ko kt (out.map cEx)) (fun r ou'=>r=.one (int (((listT out t).length:Int) - 1))/\∃kt',ou kt'=none/\ko≠kt'/\ou'=ouS ou ko kt' ((listT out t).map cEx))
set_option maxHeartbeats 1000000 in
theorem Qlv(hΓ:∀g cs,(g,cs)∈Γ->idsL isO cs):∀t:Tr,okT t->IntoOk Γ t
 |.mk o n b ks a,hok=>by
  obtain⟨hb,hk,ha,⟨hab,_⟩,hks⟩:=hok
  have ih:∀t∈ks,IntoOk Γ t:=fun t ht=>Qlv hΓ t (Q48.1 hks t ht)
  intro ou ko kt out hou0 ho ht hne hsz
  have hsz2:(Q02 out ks).1.length < 1048576:=by simp only[listT,List.length_append,List.length_singleton]at hsz;omega
  refine AFn.walk 44 tabOk Tryz.func52 rfl (by kernel_rfl) rfl rfl fun hou=>?_
  refine zA ?_
  refine ACode.grow 0 3 3 1 rfl rfl ?_
  refine ACode.loopR hΓ (α:=Nat×Nat) (fun c=>[(18,.one (int c.1)),(17,.one (int (Q2x ks).length)),(16,.one (.sl 1 (Q2x ks))),(5,.one (.ptr (.l 0) 0)),(1,.one (.ptr (.o ko) 0))])
   (fun c=>⟨2,[(1,.tok 3 1 c.1),(0,.cells [int o,int n,.sl 1 (b.map cI),.gs 1 ((Q02 out (ks.take c.1)).2.map cI) (.l 1),.sl 2 (a.map cAlt)])],ouS ou ko c.2 ((Q02 out (ks.take c.1)).1.map cEx)⟩)
   (fun m c=>c.1<=ks.length/\(ou c.2=none/\ko≠c.2)/\m=ks.length - c.1) (a0:=(0,kt)) (ρ:=id) ⟨by omega,⟨ht,hne⟩,rfl⟩ (LessR.of rfl zFS (by simp) ?_ rfl (by simp[Q02];rfl) hou) fun m c hi=>?_
  ·repeat' first|exact LoSub.nil|refine zlc ?_|refine zld ?_ ?_|rfl
   all_goals (simp[AObj.ren,renL,AC.ren,Q02];rfl)
  obtain⟨i,kt⟩:=c
  obtain⟨hil,⟨ht,hne⟩,rfl⟩:=hi
  simp only at hil ht hne
  have hle:(Q02 out (ks.take i)).1.length<=(Q02 out ks).1.length:=by
   have:=Q44 (ks.take i) (ks.drop i) out
   rw[List.take_append_drop]at this
   rw[this];exact Q43 _ _
  refine zA ?_
  refine ACode.cond rfl (fun hb3=>?_) (fun hb3=>?_)
  ·have hlt2:i < ks.length:=by simpa using hb3
   obtain⟨t,ht2⟩:=Q00 hlt2
   have hsn:=Q5v t (ks.take i) out
   rw[←Q11 ht2]at hsn
   have hle2:(listT (Q02 out (ks.take i)).1 t).length<=1048576:=by
    have:=Q44 (ks.take (i+1)) (ks.drop (i+1)) out
    rw[List.take_append_drop]at this
    have h2:=Q43 (ks.drop (i+1)) (Q02 out (ks.take (i+1))).1
    rw[←this,hsn]at h2
    simp only at h2
    omega
   have hcall:=ih t (List.mem_of_getElem? ht2) ou ko kt (Q02 out (ks.take i)).1 hou0 ho ht hne hle2
   have hil2:((Q02 out (ks.take i)).2.map cI).length=i:=by rw[List.length_map,Q4b];simp;omega
   refine zA ?_
   refine zS (zIA rfl rfl rfl (by omega) (Qjs ht2)) ?_
   refine zA ?_
   refine ACode.drawXR (va:=.one (int (((listT (Q02 out (ks.take i)).1 t).length:Int) - 1))) tabOk 6 4 []
    (fun σ=>∃kt',ou kt'=none/\ko≠kt'/\σ=⟨2,[(1,.tok 3 1 i),(0,.cells [int o,int n,.sl 1 (b.map cI),.gs 1 ((Q02 out (ks.take i)).2.map cI) (.l 1),.sl 2 (a.map cAlt)])],ouS ou ko kt' ((listT (Q02 out (ks.take i)).1 t).map cEx)⟩)
    follows (by kernel_rfl) rfl rfl rfl rfl rfl ?_ rfl ⟨rfl,rfl⟩ rfl ?_ .nil ?_ ?_
   ·rintro σ ⟨kt',h1,h2,rfl⟩;rfl
   ·refine Q13.call hΓ rfl rfl rfl rfl (by simp) (Q5m hou0 (by simp)) hcall fun r ou' hq _ _=>?_
    obtain⟨rfl,kt',h1,h2,rfl⟩:=hq
    exact⟨rfl,kt',h1,h2,rfl⟩
   ·intro σ _;exact .nil
   rintro σ ⟨kt',h1,h2,rfl⟩
   refine zA ?_
   refine AOps.app tabOk rfl rfl rfl rfl rfl rfl rfl rfl rfl (Base.gs' _ _ _ _ _ (by rfl) hil2.symm) (.sl _ _) rfl ?_ ?_ ?_
   ·rw[hil2];show (i+1) * 8<=_;omega
   ·rw[hil2];show i+1<=_;omega
   refine zM ?_
   refine cInv ⟨ks.length - (i+1),(i+1,kt'),fun k=>if k=1 then 2 else k,by omega,⟨by omega,⟨h1,h2⟩,rfl⟩,LessR.of rfl zFS (by simp) ?_ rfl (by simp only[hsn];rfl) (Q5m hou0 (by simp))⟩
   repeat' first|exact LoSub.nil|refine zlc ?_|refine zld ?_ ?_|rfl
   ·simp only[AObj.ren,List.length_append,hil2];rfl
   ·simp only[hsn];simp only[AObj.ren,renL,AC.ren,Q76,Q6c];rw[List.map_append];rfl
  have hlt2:i=ks.length:=by simp at hb3;omega
  subst hlt2
  rw[List.take_length]at *
  refine zA ?_
  have hT:listT out (.mk o n b ks a)=(Q02 out ks).1++[⟨o,n,b,(Q02 out ks).2,a⟩]:=by simp only[listT]
  have hmap:(Q02 out ks).1.map cEx++[cEx ⟨o,n,b,(Q02 out ks).2,a⟩]=(listT out (.mk o n b ks a)).map cEx:=by rw[hT,List.map_append];rfl
  have hw:WkF (.agg [int o,int n,.sl 1 (b.map cI),.gs 1 ((Q02 out ks).2.map cI) (.l 1),.sl 2 (a.map cAlt)]) (.agg (cEx ⟨o,n,b,(Q02 out ks).2,a⟩)):=WkF.agg (.cons (.refl _) (.cons (.refl _) (.cons (.refl _) (.cons (.gsE rfl) (.cons (.refl _) .nil)))))
  have hko:(bif Nat.beq ko kt then some AObj.dead else ouS ou ko kt ((Q02 out ks).1.map cEx) ko)=some (.cells [.gs 5 ((Q02 out ks).1.map cEx) (.o kt)]):=by rw[Q0a hne];exact ouS_o hne _
  refine ACode.drawXH (va:=.one (.gs 5 ((Q02 out ks).1.map cEx++[cEx ⟨o,n,b,(Q02 out ks).2,a⟩]) (.l 2))) (σ1:=(St.set ⟨2,[(1,.tok 3 1 ks.length),(0,.cells [int o,int n,.sl 1 (b.map cI),.gs 1 ((Q02 out ks).2.map cI) (.l 1),.sl 2 (a.map cAlt)])],ouS ou ko kt ((Q02 out ks).1.map cEx)⟩ (.o kt) .dead).push (.tok 57 5 ((Q02 out ks).1.map cEx++[cEx ⟨o,n,b,(Q02 out ks).2,a⟩]).length))
   tabOk 7 6 [(3,.one (.gs 5 ((Q02 out ks).1.map cEx) (.o kt))),(4,.agg (cEx ⟨o,n,b,(Q02 out ks).2,a⟩))] follows (by kernel_rfl) rfl rfl rfl rfl rfl rfl rfl ?_ ?_ ?_ ?_
  ·refine HStep.plain rfl (AStep.append (s:=5) (es:=(Q02 out ks).1.map cEx) (news:=[cEx ⟨o,n,b,(Q02 out ks).2,a⟩]) (ti:=ti22) (σ:=⟨2,[(1,.tok 3 1 ks.length),(0,.cells [int o,int n,.sl 1 (b.map cI),.gs 1 ((Q02 out ks).2.map cI) (.l 1),.sl 2 (a.map cAlt)])],ouS ou ko kt ((Q02 out ks).1.map cEx)⟩) tabOk rfl rfl rfl rfl rfl rfl (Base.gs' _ 57 5 _ (.o kt) (ouS_t ou ko kt _) rfl) (.sl _ _) rfl ?_ ?_)
   ·simp;show (_+1) * 88<=_;omega
   ·simp;omega
  ·refine .step rfl (zHP (zLD rfl rfl (ouS_o hne _) rfl)) ?_
   exact .step rfl (zHP (AStep.wk (AStep.ofOp tabOk rfl) hw)) .nil
  ·refine .step rfl (zHP (zLD rfl rfl hko rfl)) ?_
   exact .step rfl (zHP (AStep.wk (AStep.ofOp tabOk rfl) hw)) .nil
  rw[hmap]
  refine zA ?_
  refine AOps.storeOwn (cs:=[.gs 5 ((Q02 out ks).1.map cEx) (.o kt)]) tabOk rfl rfl rfl rfl rfl rfl rfl hko (by simp) ?_
  refine AOps.cede 2 (show 2 < 3 by omega) fun k hk=>⟨[(1,.one (.ptr (.o ko) 0))],⟨3,[],ouS ou ko k ((listT out (.mk o n b ks a)).map cEx)⟩,⟨fun d x hd=>?_,rfl,fun i x hx=>?_⟩,?_⟩
  ·by_cases e:1=d
   ·subst e
    simp[Fr.get]at hd;subst hd
    exact⟨_,rfl,WkF.ofEq rfl⟩
   ·simp[Fr.get,Q0a e]at hd
  ·have hk':(bif Nat.beq k ko then some (AObj.cells [.gs 5 ((listT out (.mk o n b ks a)).map cEx) (.l 2)])else bif Nat.beq k kt then some AObj.dead else ouS ou ko kt ((Q02 out ks).1.map cEx) k)=none:=hk
   have k1:k≠ko:=fun e=>by subst e;simp at hk'
   rw[Q0a k1]at hk'
   have k2:k≠kt:=fun e=>by subst e;simp at hk'
   rw[Q0a k2]at hk'
   simp only[cond_false,ouS_w k1 k2]at hk'
   cases i with
   |l m=>cases hx
   |o m=>
    have hx':ouS ou ko k ((listT out (.mk o n b ks a)).map cEx) m=some x:=hx
    by_cases e:m=k
    ·subst e
     rw[ouS_t]at hx';cases hx'
     exact⟨.l 2,_,rfl,rfl,rfl⟩
    ·by_cases e2:m=ko
     ·subst e2
      rw[ouS_o e]at hx';cases hx'
      refine⟨.o m,.cells [.gs 5 ((listT out (.mk o n b ks a)).map cEx) (.l 2)],?_,rfl,?_⟩
      ·show (bif Nat.beq m m then _ else _)=_;rw[Q3t];rfl
      ·simp only[AObj.sub,subL,AC.sub];rw[Qdj _ (by simp)];rfl
     ·rw[ouS_w e2 e]at hx'
      have e3:m≠kt:=fun e=>by rw[e,ht]at hx';cases hx'
      refine⟨.o m,x,?_,rfl,(AObj.sub_o x (hou0 m x hx')).symm⟩
      show (bif Nat.beq m ko then _ else bif Nat.beq m kt then _ else ouS ou ko kt _ m)=_
      rw[Q0a e2,Q0a e3]
      exact (ouS_w e2 e3 _).trans hx'
  ·have hk':(bif Nat.beq k ko then some (AObj.cells [.gs 5 ((listT out (.mk o n b ks a)).map cEx) (.l 2)])else bif Nat.beq k kt then some AObj.dead else ouS ou ko kt ((Q02 out ks).1.map cEx) k)=none:=hk
   have k1:k≠ko:=fun e=>by subst e;simp at hk'
   rw[Q0a k1]at hk'
   have k2:k≠kt:=fun e=>by subst e;simp at hk'
   rw[Q0a k2]at hk'
   simp only[cond_false,ouS_w k1 k2]at hk'
   refine zA ?_
   refine zS (zLD rfl rfl (ouS_o (Ne.symm k1) _) rfl) ?_
   refine zM ?_
   refine AFn.fin' rfl (WkF.ofEq ?_) (by simp) (Q5m hou0 (by simp)) ⟨rfl,k,hk',Ne.symm k1,rfl⟩
   simp
theorem Qa7(hΓ:∀g cs,(g,cs)∈Γ->idsL isO cs)(t:Tr)(ht:okT t)(hsz:(listT [] t).length<=1048576):APure Tryz.prog Γ 19 [.one (.box (cNd t))] (.one (.sl 5 ((listT [] t).map cEx))):=by
 intro ou
 refine AFn.walk 7 tabOk Tryz.func19 rfl (by kernel_rfl) rfl rfl fun hou=>?_
 iterate 11 (first|((with_reducible refine oj ?_);refine zau ?_)|(with_reducible refine zst ?_)|((with_reducible refine Q0k ?_ ?_);rfl)|(with_reducible refine ok ?_;first|refine ACode.condT rfl ?_|refine ACode.condF rfl ?_))
 refine ACode.grow 0 0 57 5 rfl rfl ?_
 refine zA ?_
 refine AOps.cede 0 (show 0 < 2 by omega) fun ko hko=>⟨[(4,.one (.box (cNd t))),(3,.one (.ptr (.o ko) 0))],
  ⟨2, [(1, .tok 57 5 0)], updO ou ko (.cells [.gs 5 [] (.l 1)])⟩, ⟨CedFr.get ?_, rfl, fun i x hx => ?_⟩, ?_⟩
 ·exact .cons rfl (FV.sub_o _ (by simp)) (.cons rfl rfl .nil)
 ·have hko:ou ko=none:=hko
  cases i with
  |l m=>
   by_cases e:1=m
   ·subst e;cases hx;exact⟨.l 1,_,rfl,rfl,rfl⟩
   ·simp[St.get,lookL,Q0a e]at hx
  |o m=>
   have hx':updO ou ko (.cells [.gs 5 [] (.l 1)]) m=some x:=hx
   by_cases e:ko=m
   ·subst e;rw[Q0n]at hx';cases hx';exact⟨.l 0,_,rfl,rfl,rfl⟩
   ·rw[Q10 _ e]at hx'
    exact⟨.o m,x,hx',rfl,(AObj.sub_o x (hou m x hx')).symm⟩
 have hko:ou ko=none:=hko
 refine AOps.cede 1 (show 1 < 2 by omega) fun kt hkt=>⟨[(4,.one (.box (cNd t))),(3,.one (.ptr (.o ko) 0))],
  ⟨2, [], ouS ou ko kt (([] : List Ex).map cEx)⟩, ⟨CedFr.get ?_, rfl, fun i x hx => ?_⟩, ?_⟩
 ·exact .cons rfl (FV.sub_o _ (by simp)) (.cons rfl rfl .nil)
 ·have hkt:updO ou ko (.cells [.gs 5 [] (.l 1)]) kt=none:=hkt
  have hkto:ko≠kt:=fun e=>by subst e;rw[Q0n]at hkt;cases hkt
  cases i with
  |l m=>cases hx
  |o m=>
   have hx':ouS ou ko kt (([]:List Ex).map cEx) m=some x:=hx
   by_cases e:m=kt
   ·subst e;rw[ouS_t]at hx';cases hx';exact⟨.l 1,_,rfl,rfl,rfl⟩
   ·by_cases e2:m=ko
    ·subst e2;rw[ouS_o hkto]at hx';cases hx'
     exact⟨.o m,.cells [.gs 5 [] (.l 1)],Q0n _ _ _,rfl,rfl⟩
    ·rw[ouS_w e2 e]at hx'
     refine⟨.o m,x,?_,rfl,(AObj.sub_o x (hou m x hx')).symm⟩
     show updO ou ko (.cells [.gs 5 [] (.l 1)]) m=_
     rw[Q10 _ (Ne.symm e2)];exact hx'
 have hkt:updO ou ko (.cells [.gs 5 [] (.l 1)]) kt=none:=hkt
 have hot:ko≠kt:=fun e=>by subst e;rw[Q0n]at hkt;cases hkt
 rw[Q10 _ hot]at hkt
 have hcall:=Qlv hΓ t ht ou ko kt [] hou hko hkt hot hsz
 refine AOps.call1 hΓ rfl rfl rfl rfl rfl rfl rfl (by simp) (Q5m hou (by simp)) hcall fun r ou' hq hids hou'=>?_
 obtain⟨rfl,kt',h1,h2,rfl⟩:=hq
 refine zA ?_
 refine zS (zLD rfl rfl (ouS_o h2 _) rfl) ?_
 refine AOps.wk 6 rfl (y:=.one (.sl 5 ((listT [] t).map cEx))) (.one (.gsE rfl)) ?_
 refine AOps.lessO ⟨2,[],ou⟩ rfl (fun i o ho=>?_) ?_
 ·cases i with
  |l m=>cases ho
  |o m=>
   have ho':ou m=some o:=ho
   show ouS ou ko kt' _ m=some o
   have e1:m≠ko:=fun e=>by rw[e,hko]at ho';cases ho'
   have e3:m≠kt':=fun e=>by rw[←e,ho']at h1;cases h1
   rw[ouS_w e1 e3];exact ho'
 refine zA ?_
 exact APure.fin rfl (WkF.ofEq rfl) (by simp) hou rfl
end Go.Proofs.YtpaonemmbhbgoaaGreatDoor
namespace Go.CoreX
def Q06 (e:List Ex)(k:Nat):Tr:=(growL e).getD k default
theorem Q2d{e:List Ex}(hk:Q0p e){i:Nat}{x:Ex}(hx:e[i]?=some x):Q06 e i=.mk x.op x.n x.binds (x.kids.map fun k=>Q06 e k.toNat) x.alts:=by
 have hi:=(List.getElem?_eq_some_iff.1 hx).1
 have hs:e=e.take i++x::e.drop (i+1):=by
  obtain⟨h2,h3⟩:=List.getElem?_eq_some_iff.1 hx
  rw[←h3,←List.drop_eq_getElem_cons h2,List.take_append_drop]
 have hl:(e.take i).length=i:=by simp;omega
 have h1:=Q6m (e.take i) (e.drop (i+1)) x
 rw[←hs,hl]at h1
 unfold Q06
 rw[h1]
 simp only[Q1m,Tr.mk.injEq,true_and,and_true]
 refine List.map_congr_left fun k hkk=>?_
 have hb:=hk i x hx k hkk
 have h2:=Q57 (e:=e.take i) (l:=x::e.drop (i+1)) (i:=k.toNat) (by rw[hl];omega)
 rw[←hs]at h2
 exact h2.symm
theorem Qgj:∀{e:List Ex}{k:Nat},0 < cnt e k->∃(i:Nat)(x:Ex),e[i]?=some x/\(k:Int)∈x.kids
 |[],k,h=>by simp[cnt]at h
 |x::e,k,h=>by
  simp only[cnt]at h
  by_cases h1:0 < x.kids.count (k:Int)
  ·exact⟨0,x,rfl,List.count_pos_iff.1 h1⟩
  ·obtain⟨i,y,h2,h3⟩:=Qgj (e:=e) (k:=k) (by omega)
   exact⟨i+1,y,by simpa using h2,h3⟩
theorem Qda{e:List Ex}(h:IsTree e){P:Tr->Prop}(h0:P (grow e))(h1:∀(t s:Tr),P t->s∈t.kids->P s):∀k,k < e.length->P (Q06 e k):=by
 have key:∀d k,k < e.length->e.length - k=d->P (Q06 e k):=by
  intro d
  induction d using Nat.strongRecOn with
  |_ d ih=>
   intro k hk hd
   by_cases hl:k+1 < e.length
   ·have hc:=(h.c k hk).2 hl
    obtain⟨i,x,hx,hkx⟩:=Qgj (e:=e) (k:=k) (by omega)
    have hb:=h.k i x hx _ hkx
    have hi:=(List.getElem?_eq_some_iff.1 hx).1
    have hp:=ih (e.length - i) (by omega) i hi rfl
    rw[Q2d h.k hx]at hp
    refine h1 _ _ hp ?_
    simp only[Tr.kids_mk,List.mem_map]
    exact⟨_,hkx,by simp⟩
   ·have:k=e.length - 1:=by omega
    subst this
    exact h0
 exact fun k hk=>key _ k hk rfl
mutual
theorem Q46(g:Lab->Int)(hg:∀l,0<=g l):∀t:Tr,0<=sumT g t
 |.mk o m b k a=>by
  simp only[sumT]
  have h1:=hg ⟨o,m,b,k.map Tr.op,a⟩
  have h2:=Q3n g hg k
  omega
theorem Q3n(g:Lab->Int)(hg:∀l,0<=g l):∀l:List Tr,0<=sumTs g l
 |[]=>by simp[sumTs]
 |t::l=>by
  simp only[sumTs]
  have h1:=Q46 g hg t
  have h2:=Q3n g hg l
  omega
end
theorem Qn7(g:Lab->Int)(hg:∀l,0<=g l){t s:Tr}(h:s∈t.kids):sumT g s<=sumT g t:=by
 cases t with
 |mk o m b k a=>
  simp only[Tr.kids_mk]at h
  simp only[sumT,Q86]
  have h1:=hg ⟨o,m,b,k.map Tr.op,a⟩
  have:sumT g s<=(k.map (sumT g)).sum:=by
   clear h1
   induction k with
   |nil=>cases h
   |cons r k ih=>
    simp only[List.map_cons,List.sum_cons]
    have hr:=Q46 g hg r
    have hk:0<=(k.map (sumT g)).sum:=by
     clear ih h
     induction k with
     |nil=>simp
     |cons q k ihk=>
      simp only[List.map_cons,List.sum_cons]
      have:=Q46 g hg q
      omega
    rcases List.mem_cons.1 h with rfl|h
    ·omega
    ·have:=ih h;omega
  omega
theorem Q3w{t s:Tr}(ht:okT t)(h:s∈t.kids):okT s:=by
 cases t with
 |mk o m b k a=>exact Q48.1 ht.2.2.2.2 s h
theorem Qh3(g:Lab->Int)(hg:∀l,0<=g l){e:List Ex}(h:IsTree e){k:Nat}(hk:k < e.length):((labs (listT [] (Q06 e k))).map g).sum<=((labs e).map g).sum:=by
 have h1:=Q32 g (Q0s (Q06 e k))
 rw[Q0b]at h1
 rw[h1,Q32 g h]
 exact Qda h (P:=fun t=>sumT g t<=sumT g (grow e)) (Int.le_refl _) (fun t s ht hs=>Int.le_trans (Qn7 g hg hs) ht) k hk
theorem labs_sub{e:List Ex}(h:IsTree e){k:Nat}(hk:k < e.length)(l:Lab)(hl:l∈labs (listT [] (Q06 e k))):l∈labs e:=by
 have h1:=Qh3 (fun l'=>if l'=l then (1:Int)else 0) (fun l'=>by split <;> omega) h hk
 rw[Q8r,Q8r]at h1
 have h2:=List.count_pos_iff.2 hl
 exact List.count_pos_iff.1 (by omega)
theorem Qbz:∀ls:List Lab,(ls.map fun _=>(1:Int)).sum=ls.length
 |[]=>rfl
 |l::ls=>by simp only[List.map_cons,List.sum_cons,Qbz ls,List.length_cons];omega
theorem len_sub{e:List Ex}(h:IsTree e){k:Nat}(hk:k < e.length):(listT [] (Q06 e k)).length<=e.length:=by
 have h1:=Qh3 (fun _=>(1:Int)) (fun _=>by omega) h hk
 rw[Qbz,Qbz,Q3p,Q3p]at h1
 omega
theorem Q7r(n:Int)(f:Lab->List Int):∀ls:List Lab,(((ls.flatMap f).count n:Nat):Int)=(ls.map fun l=>(((f l).count n:Nat):Int)).sum
 |[]=>rfl
 |l::ls=>by
  simp only[List.flatMap_cons,List.count_append,List.map_cons,List.sum_cons,←Q7r n f ls]
  omega
end Go.CoreX
namespace Go.Proofs.YtpaonemmbhbgoaaGreatDoor
open Go Go.Abs Go.CoreX
variable {Γ:List (Nat×List AC)}
end Go.Proofs.YtpaonemmbhbgoaaGreatDoor
namespace Go.CoreX
mutual
def cntN:Tr->Nat
 |.mk _ _ _ k _=>cntNs k+1
def cntNs:List Tr->Nat
 |[]=>0
 |t::l=>cntN t+cntNs l
end
mutual
theorem Q1o:∀(t:Tr)(out:List Ex),(listT out t).length=out.length+cntN t
 |.mk o n b k a,out=>by
  have:=Qbi k out
  simp only[listT,cntN,List.length_append,List.length_singleton];omega
theorem Qbi:∀(l:List Tr)(out:List Ex),(Q02 out l).1.length=out.length+cntNs l
 |[],out=>by simp[Q02,cntNs]
 |t::l,out=>by
  have h1:=Q1o t out
  have h2:=Qbi l (listT out t)
  simp only[Q02,cntNs];omega
end
theorem Q5b:∀(l r:List Tr),cntNs (l++r)=cntNs l+cntNs r
 |[],r=>by simp[cntNs]
 |t::l,r=>by simp only[List.cons_append,cntNs,Q5b l r];omega
end Go.CoreX
namespace Go.Proofs.YtpaonemmbhbgoaaGreatDoor
open Go Go.Abs Go.CoreX
variable {Γ:List (Nat×List AC)}
theorem Q4x{e:List Ex}(he:okB e)(h:IsTree e){k:Nat}(hk:k < e.length):okT (Q06 e k):=
 Qda h (P:=okT) (he.t h.k h.ne) (fun _ _ ht hs=>Q3w ht hs) k hk
end Go.Proofs.YtpaonemmbhbgoaaGreatDoor
namespace Go.CoreX
theorem Qc4{e:List Ex}(h:check e=0):∀x∈e,shape x=true:=by
 intro x hx
 unfold check body at h
 by_cases h1:Q1q e=0
 ·rw[if_neg (by simpa using h1)]at h
  by_cases h2:Q1i (Q0g false e) e=0
  ·have h3:=(Q23 _ e).1 h2 x hx
   unfold Q0g at h3
   simp only[Bool.false_and,Bool.not_false,Bool.true_and,Bool.false_or]at h3
   by_cases h4:Q4j x.op=true
   ·rw[if_pos h4]at h3;cases h3
   ·rw[if_neg h4]at h3
    unfold Q1b at h3
    by_cases h5:shape x=false
    ·rw[if_pos h5]at h3;cases h3
    ·simpa using h5
  ·rw[if_pos h2]at h;exact absurd h h2
 ·rw[if_pos h1]at h;exact absurd h h1
theorem Qj7{x:Ex}(h:shape x=true):if x.op=7∨x.op=13 then x.kids.length=x.alts.length+1 else x.alts=[]:=by
 unfold shape at h
 split
 ·rename_i ho
  rw[if_pos ho]at h
  simp only[Q5p,Bool.and_eq_true,beq_iff_eq]at h
  omega
 ·rename_i ho
  rw[if_neg ho]at h
  split at h
  ·cases h
  ·simp only[Bool.and_eq_true,beq_iff_eq]at h
   exact List.length_eq_zero_iff.1 h.1.2
end Go.CoreX
namespace Go.Proofs.YtpaonemmbhbgoaaGreatDoor
open Go Go.Abs Go.CoreX
variable {Γ:List (Nat×List AC)}
def ow8 (l:List Int):Option Nat->AC
 |none=>.lit (.slice none 0 0)
 |some cap=>.arr (.l 0) 1 0 (l.map cI).length cap
def st8 (l:List Int)(ou:Outer):Option Nat->St
 |none=>⟨0,[],ou⟩
 |some cap=>⟨1,[(0,.cells (vec 1 (l.map cI) cap))],ou⟩
@[simp] theorem ids_ow8 (l l':List Int) (ou:Outer) (oc:Option Nat):(ow8 l oc).ids (inL (st8 l' ou oc).n):=by cases oc <;> simp[ow8,st8,AC.ids,inL]
end Go.Proofs.YtpaonemmbhbgoaaGreatDoor
namespace Go.CoreX
end Go.CoreX
namespace Go.Proofs.YtpaonemmbhbgoaaGreatDoor
open Go Go.Abs Go.CoreX
variable {Γ:List (Nat×List AC)}
end Go.Proofs.YtpaonemmbhbgoaaGreatDoor
namespace Go.CoreX
open Go.Abs (orI subI anI)
def ex0:Ex:=⟨0,0,[],[],[]⟩
def exN (e:List Ex)(i:Nat):Ex:=e.getD i ex0
def shK (e:List Ex)(k:Int):Tr:=.mk (exN e k.toNat).op (exN e k.toNat).n (exN e k.toNat).binds [] []
end Go.CoreX
namespace Go.Proofs.YtpaonemmbhbgoaaGreatDoor
open Go Go.Abs Go.CoreX
variable {Γ:List (Nat×List AC)}
def shD (e:List Ex)(l:List Int):List (List AC):=l.map fun k=>cB (shK e k)
@[simp] theorem ids_shD (p:Abs.Id->Prop) (e:List Ex) (l:List Int):idsS p (shD e l):=Q2c (fun k=>by simp[cB]) l
@[simp] theorem ren_shD (ρ:Nat->Nat) (e:List Ex) (l:List Int):renS ρ (shD e l)=shD e l:=Q1w ρ _ (by simp)
end Go.Proofs.YtpaonemmbhbgoaaGreatDoor
namespace Go.CoreX
end Go.CoreX
namespace Go.Proofs.YtpaonemmbhbgoaaGreatDoor
open Go Go.Abs Go.CoreX
variable {Γ:List (Nat×List AC)}
theorem W_ok(hΓ:∀g cs,(g,cs)∈Γ->idsL isO cs)(n:Int):APure Tryz.prog Γ 25 [.one (int n)] (.one (.box (cNd (.mk 1 n [] [] [])))):=by
 intro ou
 refine AFn.walk 5 tabOk Tryz.func25 rfl (by kernel_rfl) rfl rfl fun hou=>?_
 refine zA ?_
 refine AOps.callCW (ws:=[.one (int 1),.one (int n),.one (.sl 1 (Q2x []))]) hΓ (N_ok 1 n []) rfl rfl rfl rfl rfl rfl ?_ hou (by simp) ?_
 ·exact .cons (.refl _) (.cons (.refl _) (.cons (.one (.nilS 1)) .nil))
 refine zA ?_
 exact APure.fin rfl (WkF.ofEq rfl) (by simp) hou rfl
end Go.Proofs.YtpaonemmbhbgoaaGreatDoor
namespace Go.CoreX
def isVar (n:Int)(l:Lab):Int:=if l.op=0/\l.n=n then 1 else 0
theorem Q3r(n:Int)(l:Lab):0<=isVar n l:=by unfold isVar;split <;> omega
end Go.CoreX
namespace Go.Proofs.YtpaonemmbhbgoaaGreatDoor
open Go Go.Abs Go.CoreX
variable {Γ:List (Nat×List AC)}
end Go.Proofs.YtpaonemmbhbgoaaGreatDoor
namespace Go.CoreX
abbrev Nb:=Option (Nat×Nat)
structure LAlt where
 tag:Int
 nb:Nb
 binds:List Int
def LAlt.er (a:LAlt):Alt:=⟨a.tag,a.binds⟩
inductive LTr where
 |mk (id:Nat) (op n:Int) (nb:Nb) (binds:List Int) (kids:List LTr) (alts:List LAlt)
instance:Inhabited LTr:=⟨.mk 0 0 0 none [] [] []⟩
def LTr.id:LTr->Nat|.mk i _ _ _ _ _ _=>i
def LTr.kids:LTr->List LTr|.mk _ _ _ _ _ k _=>k
mutual
def erT:LTr->Tr
 |.mk _ o n _ b k a=>.mk o n b (erTs k) (a.map LAlt.er)
def erTs:List LTr->List Tr
 |[]=>[]
 |t::ts=>erT t::erTs ts
end
theorem Q0t:∀l:List LTr,erTs l=l.map erT
 |[]=>rfl
 |t::l=>by simp[erTs,Q0t l]
end Go.CoreX
namespace Go.Proofs.YtpaonemmbhbgoaaGreatDoor
open Go Go.Abs Go.CoreX
variable {Γ:List (Nat×List AC)}
def bC:Nb->List Int->AC
 |none,l=>.sl 1 (l.map cI)
 |some (a,cap),l=>.arr (.o a) 1 0 (l.map cI).length cap
def bO:Nb->List Int->List (Nat×AObj)
 |none,_=>[]
 |some (a,cap),l=>[(a,.cells (vec 1 (l.map cI) cap))]
def lAlt (x:LAlt):List AC:=[int x.tag,bC x.nb x.binds]
def aO (l:List LAlt):List (Nat×AObj):=l.flatMap fun x=>bO x.nb x.binds
def kC (l:List LTr):List (List AC):=l.map fun t=>[.ptr (.o t.id) 0]
def lC:LTr->List AC
 |.mk _ o n nb b k a=>[int o,int n,bC nb b,.sl 1 (kC k),.sl 2 (a.map lAlt)]
mutual
def objs:LTr->List (Nat×AObj)
 |.mk i o n nb b k a=>(i,.cells [int o,int n,bC nb b,.sl 1 (kC k),.sl 2 (a.map lAlt)])::(bO nb b++aO a)++objss k
def objss:List LTr->List (Nat×AObj)
 |[]=>[]
 |t::ts=>objs t++objss ts
end
abbrev keys (l:List (Nat×AObj)):List Nat:=l.map (·.1)
def Owns (ou:Outer)(l:List (Nat×AObj)):Prop:=∀p∈l,ou p.1=some p.2
theorem Owns.app{ou:Outer}{l r:List (Nat×AObj)}:Owns ou (l++r)↔Owns ou l/\Owns ou r:=by
 unfold Owns
 constructor
 ·exact fun h=>⟨fun p hp=>h p (by simp[hp]),fun p hp=>h p (by simp[hp])⟩
 ·rintro⟨h1,h2⟩ p hp
  rcases List.mem_append.1 hp with hp|hp
  ·exact h1 p hp
  ·exact h2 p hp
theorem Owns.frame{ou ou':Outer}{l:List (Nat×AObj)}(h:Owns ou l)(hf:∀j∈keys l,ou' j=ou j):Owns ou' l:=fun p hp=>(hf p.1 (List.mem_map_of_mem hp)).trans (h p hp)
theorem Q4a:∀l:List LTr,objss l=l.flatMap objs
 |[]=>rfl
 |t::l=>by simp[objss,Q4a l]
theorem Q6h(l r:List LTr):objss (l++r)=objss l++objss r:=by simp[Q4a]
theorem Qb8:∀t:LTr,t.id∈keys (objs t)
 |.mk i o n nb b k a=>by simp[objs,LTr.id]
theorem Q0f{ou:Outer}:∀{t:LTr},Owns ou (objs t)->ou t.id=some (.cells (lC t))
 |.mk i o n nb b k a,h=>h (i,.cells [int o,int n,bC nb b,.sl 1 (kC k),.sl 2 (a.map lAlt)]) (by simp[objs])
theorem Qek(p:Abs.Id->Prop)(hp:∀k,p (.o k))(nb:Nb)(l:List Int):(bC nb l).ids p:=by
 cases nb with
 |none=>simp[bC,AC.ids]
 |some x=>exact hp _
theorem Qie(p:Abs.Id->Prop)(hp:∀k,p (.o k))(l:List LTr):idsS p (kC l):=Q2c (f:=fun t:LTr=>[.ptr (.o t.id) 0]) (fun t=>by simp only[idsL,AC.ids,and_true];exact hp _) l
theorem Q6j(p:Abs.Id->Prop)(hp:∀k,p (.o k))(l:List LAlt):idsS p (l.map lAlt):=Q2c (f:=lAlt) (fun t=>by simp only[lAlt,idsL,AC.ids,and_true,true_and];exact Qek p hp _ _) l
theorem Qmo{Γ:List (Nat×List AC)}{F:Nat->Prop}{w:World}{C C':Ctx}{σ:St}(hi:Inv Γ F w C σ)(hc:Chg isO w C w C'){nb:Nb}{l:List Int}(ho:Owns σ.ou (bO nb l))(hp:∀k∈keys (bO nb l),∀a:Addr,a.block=C.blk (.o k)->C'.prot a){v:Value}
  (hr:R w C (bC nb l) v):R w C' (.sl 1 (l.map cI)) v:=by
 cases nb with
 |none=>exact R.chg hc (.sl 1 (l.map cI)) v (Qg5 _ _) hr
 |some x=>
  obtain⟨a,cap⟩:=x
  have hg:σ.get (.o a)=some (.cells (vec 1 (l.map cI) cap)):=ho (a,.cells (vec 1 (l.map cI) cap)) (by simp[bO])
  obtain⟨hok,zs,T,b1,b2,b3,b4⟩:=hi.obj _ _ hg
  simp only[bC,R,Nat.zero_mul]at hr
  refine⟨some ⟨C.blk (.o a),0,none⟩,cap,hr.2.1,hr.2.2,.inr ⟨_,rfl,rfl,?_⟩⟩
  have hl:∀x∈l.map cI,x.length=1:=fun x hx=>by obtain⟨n,_,rfl⟩:=List.mem_map.1 hx;rfl
  have hfl:=Q5i hl
  have hzl:=RV.length b3
  have hfi:idsL isO (l.map cI).flatten:=by
   refine Qcp.2 fun c hc=>?_
   obtain⟨e,he,hce⟩:=List.mem_flatten.1 hc
   obtain⟨n,_,rfl⟩:=List.mem_map.1 he
   simp[cI]at hce;subst hce;trivial
  have hv:RV w C' (l.map cI).flatten (zs.take ((l.map cI).length * 1)):=by
   refine RV.chg hc _ _ hfi ?_
   have:=b3.take ((l.map cI).length * 1)
   rwa [vec,List.take_append_of_le_length (by omega),List.take_of_length_le (by omega)]at this
  refine RS.ofVals 0 hl hv fun j v hj=>⟨?_,hp a (by simp[bO]) _ rfl⟩
  have h2:j < (l.map cI).length * 1:=by have:=(List.getElem?_eq_some_iff.1 hj).1;simp at this ⊢;omega
  rw[List.getElem?_take_of_lt h2]at hj
  rw[Nat.zero_add,cell_of_row _ _ _ _ _ _ b1]
  simpa using hj
theorem Qmt{Γ:List (Nat×List AC)}{F:Nat->Prop}{w:World}{C C':Ctx}{σ:St}(hi:Inv Γ F w C σ)(hc:Chg isO w C w C'):∀{l:List LAlt},Owns σ.ou (aO l)->(∀k∈keys (aO l),∀a:Addr,a.block=C.blk (.o k)->C'.prot a)->∀ad:Addr,
  RS w C 2 (l.map lAlt) ad->RS w C' 2 ((l.map LAlt.er).map cAlt) ad
 |[],_,_,ad,_=>by simp[RS]
 |x::l,ho,hp,ad,hr=>by
  have e:aO (x::l)=bO x.nb x.binds++aO l:=rfl
  rw[e]at ho hp
  obtain⟨ho1,ho2⟩:=Owns.app.1 ho
  simp only[List.map_cons,RS,lAlt,RL]at hr
  obtain⟨_,⟨⟨u,hu,hup,hur⟩,⟨v,hv,hvp,hvr⟩,_⟩,hrest⟩:=hr
  refine⟨rfl,⟨⟨u,hu,hc.prot _ hup,R.chg hc _ u trivial hur⟩,⟨v,hv,hc.prot _ hvp,?_⟩,trivial⟩,Qmt hi hc ho2 (fun k hk=>hp k (by simp[keys]at hk ⊢;exact .inr hk)) _ hrest⟩
  exact Qmo hi hc ho1 (fun k hk=>hp k (by simp[keys]at hk ⊢;exact .inl hk)) hvr
mutual
theorem Qcd{Γ:List (Nat×List AC)}{F:Nat->Prop}{w:World}{C C':Ctx}{σ:St}(hi:Inv Γ F w C σ)(hc:Chg isO w C w C'):∀t:LTr,Owns σ.ou (objs t)->(∀k∈keys (objs t),∀a:Addr,a.block=C.blk (.o k)->C'.prot a)->RL w C' (cTr (erT t)) ⟨C.blk (.o t.id),0,none⟩
 |.mk i o n nb b k a,ho,hp=>by
  have hg:σ.get (.o i)=some (.cells (lC (.mk i o n nb b k a))):=Q0f (t:=.mk i o n nb b k a) ho
  obtain⟨hok,zs,T,b1,b2,b3,b4⟩:=hi.obj _ _ hg
  have e:objs (.mk i o n nb b k a)=[(i,.cells [int o,int n,bC nb b,.sl 1 (kC k),.sl 2 (a.map lAlt)])]++((bO nb b++aO a)++objss k):=by simp[objs]
  rw[e]at ho hp
  obtain⟨_,ho2⟩:=Owns.app.1 ho
  obtain⟨ho3,hok2⟩:=Owns.app.1 ho2
  obtain⟨hob,hoa⟩:=Owns.app.1 ho3
  have hpb:∀k'∈keys (bO nb b),∀a:Addr,a.block=C.blk (.o k')->C'.prot a:=fun k' hk=>hp k' (by simp[keys]at hk ⊢;exact .inr (.inl hk))
  have hpa:∀k'∈keys (aO a),∀a:Addr,a.block=C.blk (.o k')->C'.prot a:=fun k' hk=>hp k' (by simp[keys]at hk ⊢;exact .inr (.inr (.inl hk)))
  have hpk:∀k'∈keys (objss k),∀a:Addr,a.block=C.blk (.o k')->C'.prot a:=fun k' hk=>hp k' (by simp[keys]at hk ⊢;exact .inr (.inr (.inr hk)))
  simp only[lC,RV,R]at b3
  obtain⟨v1,_,rfl,⟨rfl,_⟩,v2,_,rfl,⟨rfl,_⟩,v3,_,rfl,h3,v4,_,rfl,⟨a4,c4,rfl,l4,h4⟩,v5,_,rfl,⟨a5,c5,rfl,l5,h5⟩,rfl⟩:=b3
  have hrv:RV w C' (cTr (erT (.mk i o n nb b k a))) [.int .i64 o,.int .i64 n,v3,.slice a4 (kC k).length c4,.slice a5 (a.map lAlt).length c5]:=by
   simp only[cTr,erT,Tr.op_mk,Tr.n_mk,Tr.binds_mk,Tr.kids_mk,Tr.alts_mk,RV]
   refine⟨_,_,rfl,by simp[R,Value.oneCell'],_,_,rfl,by simp[R,Value.oneCell'],_,_,rfl,Qmo hi hc hob hpb h3,_,_,rfl,?_,_,_,rfl,?_,rfl⟩
   ·refine⟨a4,c4,by simp[kC,Q0t],by simpa[kC,Q0t]using l4,?_⟩
    rcases h4 with h4|⟨ad,rfl,hs,h4⟩
    ·left
     simp only[kC,List.map_eq_nil_iff]at h4
     subst h4;rfl
    ·exact .inr ⟨ad,rfl,hs,Qe0 hi hc k hok2 hpk ad h4⟩
   ·refine⟨a5,c5,by simp,by simpa using l5,?_⟩
    rcases h5 with h5|⟨ad,rfl,hs,h5⟩
    ·left
     simp only[List.map_eq_nil_iff]at h5
     subst h5;rfl
    ·exact .inr ⟨ad,rfl,hs,Qmt hi hc hoa hpa ad h5⟩
  refine RL.of_new 0 hrv (fun j v hj=>?_) (fun ad ha=>?_)
  ·rw[Nat.zero_add]
   show w.cell? ⟨C.blk (.o i),j,none⟩=some v
   rw[cell_of_row _ _ _ _ _ _ b1]
   simpa using hj
  ·exact hp i (by simp[keys]) _ ha
theorem Qe0{Γ:List (Nat×List AC)}{F:Nat->Prop}{w:World}{C C':Ctx}{σ:St}(hi:Inv Γ F w C σ)(hc:Chg isO w C w C'):∀l:List LTr,Owns σ.ou (objss l)->(∀k∈keys (objss l),∀a:Addr,a.block=C.blk (.o k)->C'.prot a)->∀ad:Addr,RS w C 1 (kC l) ad->RS w C' 1 (Q0y (erTs l)) ad
 |[],_,_,ad,_=>by simp[erTs,Q0y,RS]
 |t::l,ho,hp,ad,hr=>by
  have e:objss (t::l)=objs t++objss l:=rfl
  rw[e]at ho hp
  obtain⟨ho1,ho2⟩:=Owns.app.1 ho
  simp only[kC,List.map_cons,RS,RL,R]at hr
  obtain⟨_,⟨⟨u,hu,hup,_,hur⟩,_⟩,hrest⟩:=hr
  simp only[erTs,Q0y,RS]
  refine⟨rfl,⟨⟨u,hu,hc.prot _ hup,⟨_,hur,rfl,?_⟩⟩,trivial⟩,Qe0 hi hc l ho2 (fun k hk=>hp k (by simp[keys]at hk ⊢;exact .inr hk)) _ hrest⟩
  rw[Qin]
  exact Qcd hi hc t ho1 fun k hk=>hp k (by simp[keys]at hk ⊢;exact .inl hk)
end
mutual
theorem Q7a:∀t:LTr,∀p∈objs t,∃cs,p.2=.cells cs
 |.mk i o n nb b k a,p,hp=>by
  simp only[objs,List.cons_append,List.mem_cons,List.mem_append]at hp
  have hb:∀(nb:Nb) (l:List Int),∀p∈bO nb l,∃cs,p.2=.cells cs:=fun nb l p hp=>by
   cases nb with
   |none=>simp[bO]at hp
   |some x=>simp[bO]at hp;subst hp;exact⟨_,rfl⟩
  rcases hp with rfl|(hp|hp)|hp
  ·exact⟨_,rfl⟩
  ·exact hb _ _ p hp
  ·unfold aO at hp
   obtain⟨x,_,hx⟩:=List.mem_flatMap.1 hp
   exact hb _ _ p hx
  ·exact Q99 k p hp
theorem Q99:∀l:List LTr,∀p∈objss l,∃cs,p.2=.cells cs
 |[],p,hp=>by simp[objss]at hp
 |t::l,p,hp=>by
  simp only[objss,List.mem_append]at hp
  rcases hp with hp|hp
  ·exact Q7a t p hp
  ·exact Q99 l p hp
end
theorem LendF.tree{σ:St}{t:LTr}(h:Owns σ.ou (objs t)):LendF σ (.one (.ptr (.o t.id) 0)) (.one (.box (cTr (erT t)))):=by
 intro Γ F w C v hi hr
 simp only[RF,R]at hr
 refine⟨_,hr.2,rfl,Qcd hi hi.stillChg t h fun k hk a ha=>?_⟩
 obtain⟨p,hp,rfl⟩:=List.mem_map.1 hk
 obtain⟨cs,hcs⟩:=Q7a t p hp
 show a.block < w.heap.size
 rw[ha]
 exact (AObj.block_lt (hi.obj (.o p.1) p.2 (h p hp)).2 (by rw[hcs];rfl)).2
def deadL (ou:Outer)(l:List Nat):Outer:=fun j=>if j∈l then some .dead else ou j
theorem Q9i{Γ:List (Nat×List AC)}{F:Nat->Prop}{w:World}:∀(l:List (Nat×AObj)){C:Ctx}{σ:St},Inv Γ F w C σ->Owns σ.ou l->(keys l).Nodup->(∀p∈l,∃cs,p.2=.cells cs)->
  ∃C',Goes F (fun _=>True) w C w C'/\Inv Γ F w C' { σ with ou:=deadL σ.ou (keys l) }/\(∀i,C'.blk i=C.blk i)/\∀k∈keys l,∀a:Addr,a.block=C.blk (.o k)->C'.prot a
 |[],C,σ,hi,_,_,_=>⟨C,Goes.refl _ _ _ _,by rw[show deadL σ.ou (keys [])=σ.ou from funext fun j=>by simp[deadL]];exact hi,fun _=>rfl,fun k hk=>by simp at hk⟩
 |(k,o)::l,C,σ,hi,ho,hn,hc=>by
  obtain⟨cs,rfl⟩:∃cs,o=.cells cs:=hc (k,o) (by simp)
  simp only[keys,List.map_cons,List.nodup_cons]at hn
  have hg:σ.get (.o k)=some (.cells cs):=ho (k,.cells cs) (by simp)
  obtain⟨h1,h2,h3⟩:=hi.freeze hg
  have ho2:Owns (σ.set (.o k) .dead).ou l:=fun p hp=>by
   have hne:p.1≠k:=fun e=>hn.1 (e▸List.mem_map_of_mem hp)
   show (bif Nat.beq p.1 k then some AObj.dead else σ.ou p.1)=some p.2
   rw[Q0a hne]
   exact ho p (by simp[hp])
  obtain⟨C',g1,g2,g3,g4⟩:=Q9i l h2 ho2 hn.2 fun p hp=>hc p (by simp[hp])
  refine⟨C',h1.trans g1,?_,fun i=>g3 i,fun j hj a ha=>?_⟩
  ·have e:({ σ.set (.o k) .dead with ou:=deadL (σ.set (.o k) .dead).ou (keys l) }:St)={ σ with ou:=deadL σ.ou (keys ((k,.cells cs)::l)) }:=by
    show St.mk σ.n σ.lo _=St.mk σ.n σ.lo _
    congr 1
    funext j
    show deadL (fun j=>bif Nat.beq j k then some AObj.dead else σ.ou j) (keys l) j=_
    unfold deadL
    by_cases e:j=k
    ·subst e;simp
    ·simp only[Q0a e,cond_false,keys,List.map_cons,List.mem_cons,e,false_or]
   rw[←e];exact g2
  ·simp only[keys,List.map_cons,List.mem_cons]at hj
   rcases hj with rfl|hj
   ·exact g1.chg.prot a (.inr ha)
   ·exact g4 j hj a ha
end Go.Proofs.YtpaonemmbhbgoaaGreatDoor
