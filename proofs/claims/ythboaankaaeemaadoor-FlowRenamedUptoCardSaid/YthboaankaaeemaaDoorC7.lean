/- treeError, walked. -/
import Derived.Test.YthboaankaaeemaaDoorC6
import Derived.Shelf.Sort.Plain
import Derived.Shelf.Slices.In.SortNone
set_option maxRecDepth 10000
set_option linter.unusedVariables false
set_option linter.unusedSimpArgs false
namespace Go.Proofs.YthboaankaaeemaaDoor
open Go Go.Abs Go.CoreX
variable {Γ:List (Nat×List AC)}
@[simp] theorem Qbc (p:Abs.Id->Prop):∀l:List Int,idsL p (l.map int)
 |[]=>by simp
 |n::l=>by simp[Qbc p l]
@[simp] theorem ids_intset (p:Abs.Id->Prop) (l:List Int) (i:Nat) (v:Int):idsL p ((l.map int).set i (int v)):=by
 rw[←List.map_set];exact Qbc p _
@[simp] theorem Qfk (p:Abs.Id->Prop) (v:Value):∀n:Nat,idsL p (List.replicate n (.lit v))
 |0=>by simp
 |n+1=>by simp[List.replicate_succ,Qfk p v n]
theorem idxI{E:Env}{o:Oper}{fr:Fr}{σ:St}{t:TypeId}{ti tj:TI}{x i:Operand}{k:IntKind}{j:Abs.Id}{len cap:Nat}{n:Nat}(hT:TabOk E.P E.T)(ho:o.op=.indexAddr t x i)(ht:Tab.get t E.T=some ti)(hk:Nat.beq ti.kind 2=true)(hj:Tab.get ti.elem E.T=some tj)(hs:Nat.beq tj.size 1=true)
  (hx:aEval E.Γ fr x=some (.one (.arr j 1 0 len cap))) (hi':aEval E.Γ fr i=some (.one (.lit (.int k n)))) (hn:n < len):AStep E o fr σ (.one (.ptr j n)) σ:=by
 have h:=AStep.idxOwn (σ:=σ) hT ho ht hk hj hs hx hi' hn
 simpa using h
theorem loadI{E:Env}{o:Oper}{fr:Fr}{σ:St}{t:TypeId}{ti:TI}{x:Operand}{j:Abs.Id}{n:Nat}{p:List Int}{v:Int}(hT:TabOk E.P E.T)(ho:o.op=.load t x)(ht:Tab.get t E.T=some ti)(ha:ti.agg=false)(hs:Nat.beq ti.size 1=true)(hx:aEval E.Γ fr x=some (.one (.ptr j n)))
  (hg:σ.get j=some (.cells (p.map int))) (hc:p[n]?=some v):AStep E o fr σ (.one (int v)) σ:=
 AStep.loadOwn hT ho ht ha hs hx hg (by simp[hc])
theorem Qhp{E:Env}{ops:Array Oper}{rest:List Oper}{o:Oper}{K:Cont}{fr:Fr}{σ:St}{t:TypeId}{ti:TI}{x y:Operand}{j:Abs.Id}{n:Nat}{p:List Int}{v:Int}(hT:TabOk E.P E.T)(hgd:o.guard=none)(hd:o.dst=none)(ho:o.op=.store t x y)(ht:Tab.get t E.T=some ti)(hs:Nat.beq ti.size 1=true)(hx:aEval E.Γ fr x=some (.one (.ptr j n)))
  (hy:aEval E.Γ fr y=some (.one (int v))) (hg:σ.get j=some (.cells (p.map int))) (hlt:n < p.length) (h:AOps E ops rest K fr (σ.set j (.cells ((p.set n v).map int)))):AOps E ops (o::rest) K fr σ:=by
 refine AOps.storeOwn hT hgd hd ho ht hs hx hy hg (by simpa using hlt) ?_
 rw[←List.map_set];exact h
inductive Two (i j k:Nat)(A0 A1:FV)(σ0 σ1 σ2:St):(Nat->Option FV)->St->Prop
 |n:Two i j k A0 A1 σ0 σ1 σ2 (fun _=>none) σ0
 |a:Two i j k A0 A1 σ0 σ1 σ2 (updV (fun _=>none) i A0) σ1
 |b:Two i j k A0 A1 σ0 σ1 σ2 (updV (fun _=>none) j A0) σ1
 |ab:Two i j k A0 A1 σ0 σ1 σ2 (updV (updV (fun _=>none) i A0) j A1) σ2
 |ac:Two i j k A0 A1 σ0 σ1 σ2 (updV (updV (fun _=>none) i A0) k A0) σ1
 |ba:Two i j k A0 A1 σ0 σ1 σ2 (updV (updV (fun _=>none) j A0) i A1) σ2
 |abc:Two i j k A0 A1 σ0 σ1 σ2 (updV (updV (updV (fun _=>none) i A0) j A1) k A0) σ2
 |acb:Two i j k A0 A1 σ0 σ1 σ2 (updV (updV (updV (fun _=>none) i A0) k A0) j A1) σ2
 |bac:Two i j k A0 A1 σ0 σ1 σ2 (updV (updV (updV (fun _=>none) j A0) i A1) k A1) σ2
def z0 (e:List Ex):List Int:=List.replicate e.length 0
def runTo (e:List Ex)(j:Nat):Option (List Int×List Int):=(e.zipIdx.take j).foldl Q1q (some (z0 e,z0 e))
theorem Qby(e:List Ex):runTo e e.length=Q49 e:=by
 unfold runTo Q49 z0
 rw[List.take_of_length_le (by simp)]
theorem zip_at{e:List Ex}{j:Nat}{x:Ex}(h:e[j]?=some x):e.zipIdx[j]?=some (x,j):=by simp[List.getElem?_zipIdx,h]
theorem Q9f{e:List Ex}{j:Nat}{x:Ex}(h:e[j]?=some x):runTo e (j+1)=Q1q (runTo e j) (x,j):=by
 unfold runTo
 rw[List.take_add_one,zip_at h,List.foldl_append];rfl
theorem Qht{e:List Ex}{j:Nat}(h:runTo e j=none):Q49 e=none:=by
 rw[←Qby]
 unfold runTo at h ⊢
 rw[List.take_of_length_le (l:=e.zipIdx) (by simp),←List.take_append_drop j e.zipIdx,List.foldl_append,h,Q5q]
theorem Q88{ks:List Int}{i j:Nat}{k:Int}{s:Option (List Int×List Int)}(h:ks[i]?=some k):(ks.take (i+1)).foldl (Q1e j) s=Q1e j ((ks.take i).foldl (Q1e j) s) k:=by
 rw[List.take_add_one,h,List.foldl_append];rfl
theorem Qgl{ks:List Int}{i j:Nat}{s:Option (List Int×List Int)}(h:(ks.take i).foldl (Q1e j) s=none):ks.foldl (Q1e j) s=none:=by
 rw[←List.take_append_drop i ks,List.foldl_append,h,Q3e]
theorem Q6h{l:List Int}{i:Nat}{v a b:Int}(h:∀x∈l,a<=x/\x<=b)(hv:a<=v/\v<=b):∀x∈l.set i v,a<=x/\x<=b:=fun x hx=>by
 rcases List.mem_or_eq_of_mem_set hx with hx|rfl
 ·exact h x hx
 ·exact hv
theorem Q6n{l:List Int}{i:Nat}{v:Int}(h:l[i]?=some v):l.getD i 0=v:=by rw[List.getD_eq_getElem?_getD,h];rfl
set_option maxHeartbeats 1000000 in
theorem Qbs(hΓ:∀g cs,(g,cs)∈Γ->idsL isO cs)(e:List Ex)(he:okE e):APure Tryd.prog Γ 77 [.one (.sl 5 (e.map cEx))] (.one (int (Q1n e))):=by
 have hel:=he.l
 intro ou
 refine AFn.walk 93 tabOk Tryd.func77 rfl (by kernel_rfl) rfl rfl fun hou=>?_
 refine zA ?_
 refine ACode.cond rfl (fun hb=>?_) (fun hb=>?_)
 ·refine zA ?_
  refine APure.fin rfl (WkF.ofEq ?_) (by simp) hou rfl
  have:4096 < e.length:=by simp at hb;omega
  simp[Q1n,this]
 have h1:e.length<=4096:=by simp at hb;omega
 clear hb
 refine zA ?_
 refine ACode.cond rfl (fun hb=>?_) (fun hb=>?_)
 ·refine zA ?_
  refine APure.fin rfl (WkF.ofEq ?_) (by simp) hou rfl
  have:e.length=0:=by simpa using hb
  simp[Q1n,this]
 have h2:e.length≠0:=by simpa using hb
 clear hb
 have hn:Q1n e=(match Q49 e with|none=>3|some (d,p)=>if (List.range e.length).any (Q22 e.length p)=true then 3 else if 400 < d.getD (e.length - 1) 0 then 2 else 0):=by
  unfold Q1n;rw[if_neg (by omega),if_neg h2];rfl
 refine zA ?_
 refine ACode.cutR hΓ (α:=Unit) (fun _=>[(4,.one (.arr (.l 1) 1 0 (e.map cEx).length (e.map cEx).length)),(3,.one (.arr (.l 0) 1 0 (e.map cEx).length (e.map cEx).length)),(0,.one (.sl 5 (e.map cEx)))])
  (fun _ => ⟨2, [(1, .cells ((z0 e).map int)), (0, .cells ((z0 e).map int))], ou⟩) (fun _ => True) ?_ fun _ _ => ?_
 ·have hz:(z0 e).map int=List.replicate (e.map cEx).length (.lit (.int .i64 0)):=by simp[z0]
  rw[hz]
  have hb:ti3.bytes * (e.map cEx).length<=281474976710656:=by simp;show 8 * _<=_;omega
  have hb2:(e.map cEx).length<=281474976710656:=by simp;omega
  refine ACode.drawS 7 [2,5,6] [.one (.sl 5 (e.map cEx)),.one (int (e.map cEx).length),.bot,.one (.sl 5 (e.map cEx)),.one (int (e.map cEx).length),.bot,.bot]
   (Two 2 5 6 (.one (.arr (.l 0) 1 0 (e.map cEx).length (e.map cEx).length)) (.one (.arr (.l 1) 1 0 (e.map cEx).length (e.map cEx).length)) ⟨0,[],ou⟩ ⟨1,[(0,.cells (List.replicate (e.map cEx).length (.lit (.int .i64 0))))],ou⟩ ⟨2,[(1,.cells (List.replicate (e.map cEx).length (.lit (.int .i64 0)))),(0,.cells (List.replicate (e.map cEx).length (.lit (.int .i64 0))))],ou⟩)
   follows (by kernel_rfl) rfl rfl .n ?_ ?_ ?_ ?_
  ·intro f σ h i hi
   have:2≠i/\5≠i/\6≠i:=⟨(by rintro rfl;cases hi),(by rintro rfl;cases hi),(by rintro rfl;cases hi)⟩
   cases h <;> simp[updV,this]
  ·intro i o hi hS hlo
   match i,hi with
   |0,_=>cases hlo;exact⟨_,rfl,rfl,rfl,by kernel_rfl,fun f σ _=>HStep.auto tabOk rfl⟩
   |1,_=>cases hlo;exact⟨_,rfl,rfl,rfl,by kernel_rfl,fun f σ _=>HStep.auto tabOk rfl⟩
   |2,_=>cases hS
   |3,_=>cases hlo;exact⟨_,rfl,rfl,rfl,by kernel_rfl,fun f σ _=>HStep.auto tabOk rfl⟩
   |4,_=>cases hlo;exact⟨_,rfl,rfl,rfl,by kernel_rfl,fun f σ _=>HStep.auto tabOk rfl⟩
   |5,_=>cases hS
   |6,_=>cases hS
  ·intro f σ i o h hS hlo hfi hdep
   have hi:i=2∨i=5∨i=6:=by
    simp only[List.any_cons,List.any_nil,Bool.or_false,Bool.or_eq_true]at hS
    rcases hS with h|h|h <;> have:=Nat.eq_of_beq_eq_true h <;> omega
   rcases hi with rfl|rfl|rfl <;> cases hlo
   ·cases h with
    |n=>exact⟨rfl,rfl,_,_,HStep.plain rfl (AStep.makeArr (σ:=⟨0,[],ou⟩) tabOk rfl rfl rfl rfl rfl rfl rfl rfl hb hb2),.a⟩
    |b=>exact⟨rfl,rfl,_,_,HStep.plain rfl (AStep.makeArr (σ:=⟨1,[(0,.cells (List.replicate (e.map cEx).length (.lit (.int .i64 0))))],ou⟩) tabOk rfl rfl rfl rfl rfl rfl rfl rfl hb hb2),.ba⟩
    |_=>cases hfi
   ·cases h with
    |n=>exact⟨rfl,rfl,_,_,HStep.plain rfl (AStep.makeArr (σ:=⟨0,[],ou⟩) tabOk rfl rfl rfl rfl rfl rfl rfl rfl hb hb2),.b⟩
    |a=>exact⟨rfl,rfl,_,_,HStep.plain rfl (AStep.makeArr (σ:=⟨1,[(0,.cells (List.replicate (e.map cEx).length (.lit (.int .i64 0))))],ou⟩) tabOk rfl rfl rfl rfl rfl rfl rfl rfl hb hb2),.ab⟩
    |ac=>exact⟨rfl,rfl,_,_,HStep.plain rfl (AStep.makeArr (σ:=⟨1,[(0,.cells (List.replicate (e.map cEx).length (.lit (.int .i64 0))))],ou⟩) tabOk rfl rfl rfl rfl rfl rfl rfl rfl hb hb2),.acb⟩
    |_=>cases hfi
   ·cases h with
    |a=>exact⟨rfl,rfl,_,_,HStep.auto tabOk rfl,.ac⟩
    |ab=>exact⟨rfl,rfl,_,_,HStep.auto tabOk rfl,.abc⟩
    |ba=>exact⟨rfl,rfl,_,_,HStep.auto tabOk rfl,.bac⟩
    |n=>exact absurd (hdep _ (List.mem_cons_self ..) rfl rfl) (by simp)
    |b=>exact absurd (hdep _ (List.mem_cons_self ..) rfl rfl) (by simp[updV])
    |_=>cases hfi
  ·intro f σ h hall
   have h2:=hall 2 (by simp) (by omega)
   have h5:=hall 5 (by simp) (by omega)
   have h6:=hall 6 (by simp) (by omega)
   cases h with
   |abc=>
    refine zA ?_
    exact cInv ⟨(),id,trivial,LessR.of rfl zFS (by simp) zLO rfl rfl hou⟩
   |acb=>
    refine zA ?_
    exact cInv ⟨(),id,trivial,LessR.of rfl zFS (by simp) zLO rfl rfl hou⟩
   |bac=>
    refine zA ?_
    exact cInv ⟨(),fun k=>if k=0 then 1 else 0,trivial,LessR.of rfl zFS (by simp) zLO rfl rfl hou⟩
   |n=>cases h2
   |a=>cases h5
   |b=>cases h2
   |ab=>cases h6
   |ac=>cases h5
   |ba=>cases h6
 refine zA ?_
 refine ACode.loopR hΓ (α:=Nat×List Int×List Int) (fun a=>[(25,.one (int a.1)),(24,.one (int (e.map cEx).length)),(23,.one (.sl 5 (e.map cEx))),(4,.one (.arr (.l 1) 1 0 (e.map cEx).length (e.map cEx).length)),(3,.one (.arr (.l 0) 1 0 (e.map cEx).length (e.map cEx).length)),(0,.one (.sl 5 (e.map cEx)))])
  (fun a=>⟨2,[(1,.cells (a.2.2.map int)),(0,.cells (a.2.1.map int))],ou⟩)
  (fun m a=>a.1<=e.length/\runTo e a.1=some (a.2.1,a.2.2)/\(a.2.1.length=e.length/\a.2.2.length=e.length)/\(∀v∈a.2.1,0<=v/\v<=(a.1:Int))/\(∀v∈a.2.2,0<=v/\v<=(a.1:Int) * 1048576)/\m=e.length - a.1)
  (a0:=(0,z0 e,z0 e)) (ρ:=id) ⟨by omega,rfl,⟨by simp[z0],by simp[z0]⟩,by simp[z0],by simp[z0],rfl⟩ (LessR.of rfl zFS (by simp) zLO rfl rfl hou) fun m a hj=>?_
 obtain⟨j,d,p⟩:=a
 obtain⟨hjl,hrun,⟨hdl,hpl⟩,hdb,hpb,rfl⟩:=hj
 simp only at hjl hrun hdl hpl hdb hpb
 refine zA ?_
 refine ACode.cond rfl (fun hb2=>?_) (fun hb2=>?_)
 ·have hlt:j < e.length:=by simpa using hb2
  obtain⟨x,hx⟩:=Q00 hlt
  have hxo:=he.x x (List.mem_of_getElem? hx)
  have hxk:=hxo.k
  refine zA ?_
  refine zS (zIA rfl rfl rfl (by omega) (Q0c hx)) ?_
  refine zA ?_
  refine ACode.loopR hΓ (α:=Nat×List Int×List Int) (fun a=>[(33,.one (int a.1)),(32,.one (int (x.kids.map cI).length)),(31,.one (.sl 1 (x.kids.map cI))),(5,.one (int j)),(25,.one (int j)),(24,.one (int (e.map cEx).length)),(23,.one (.sl 5 (e.map cEx))),(4,.one (.arr (.l 1) 1 0 (e.map cEx).length (e.map cEx).length)),(3,.one (.arr (.l 0) 1 0 (e.map cEx).length (e.map cEx).length)),(0,.one (.sl 5 (e.map cEx)))])
   (fun a=>⟨2,[(1,.cells (a.2.2.map int)),(0,.cells (a.2.1.map int))],ou⟩)
   (fun m a=>a.1<=x.kids.length/\(x.kids.take a.1).foldl (Q1e j) (some (d,p))=some (a.2.1,a.2.2)/\(a.2.1.length=e.length/\a.2.2.length=e.length)/\(∀v∈a.2.1,0<=v/\v<=(j:Int))/\(∀v∈a.2.2,0<=v/\v<=(j:Int) * 1048576+a.1)/\m=x.kids.length - a.1)
   (a0 := (0, d, p)) (ρ := id) ⟨by omega, rfl, ⟨hdl, hpl⟩, hdb, fun v hv => by have := hpb v hv; show 0 <= v /\ v <= (j : Int) * 1048576 + ((0 : Nat) : Int); omega, rfl⟩ (LessR.of rfl zFS (by simp) zLO rfl rfl hou) fun m a hi => ?_
  obtain⟨i,d',p'⟩:=a
  obtain⟨hil,hki,⟨hdl',hpl'⟩,hdb',hpb',rfl⟩:=hi
  simp only at hil hki hdl' hpl' hdb' hpb'
  obtain⟨dj,hdj⟩:=Q00 (l:=d') (i:=j) (by omega)
  have hdjb:=hdb' dj (List.mem_of_getElem? hdj)
  refine zA ?_
  refine ACode.cond rfl (fun hb3=>?_) (fun hb3=>?_)
  ·have hlt2:i < x.kids.length:=by simpa using hb3
   obtain⟨k,hk⟩:=Q00 hlt2
   have bad:(k < 0∨(j:Int)<=k)->Q1n e=3:=fun h=>by
    have h1:(x.kids.take (i+1)).foldl (Q1e j) (some (d,p))=none:=by
     rw[Q88 hk,hki];simp only[Q1e,Option.bind_some];rw[if_pos h]
    have h2:=Qgl h1
    have h3:runTo e (j+1)=none:=by rw[Q9f hx,hrun];simp only[Q1q];rw[h2];rfl
    rw[hn,Qht h3]
   refine zA ?_
   refine zS (zIA rfl rfl rfl (by omega) (Q0c hk)) ?_
   by_cases hkk:k < 0∨(j:Int)<=k
   ·repeat' first|refine zN ?_|(with_reducible refine oj ?_;refine AOps.splitS rfl rfl rfl rfl (fun hb=>?_) (fun hb=>?_))|(with_reducible refine ok ?_;first|refine ACode.condS rfl (fun hb=>?_) (fun hb=>?_)|refine ACode.cond rfl (fun hb=>?_) (fun hb=>?_))
    all_goals first
     |(
      refine APure.fin rfl (WkF.ofEq ?_) (by simp) hou rfl
      rw[bad hkk]
      done)
     |(exfalso;simp only[decide_eq_false_iff_not,decide_eq_true_eq]at *;omega)
   ·obtain⟨k,rfl⟩:∃k':Nat,k=k':=⟨k.toNat,by omega⟩
    have hkj:k < j:=by omega
    obtain⟨pk,hpk⟩:=Q00 (l:=p') (i:=k) (by omega)
    obtain⟨dk,hdk⟩:=Q00 (l:=d') (i:=k) (by omega)
    have hpkb:=hpb' pk (List.mem_of_getElem? hpk)
    have hdkb:=hdb' dk (List.mem_of_getElem? hdk)
    repeat' first|refine zN ?_|(with_reducible refine oj ?_;refine AOps.splitS rfl rfl rfl rfl (fun hb=>?_) (fun hb=>?_))|(with_reducible refine ok ?_;first|refine ACode.condS rfl (fun hb=>?_) (fun hb=>?_)|refine ACode.cond rfl (fun hb=>?_) (fun hb=>?_))
    all_goals first
     |(exfalso;simp at hb;done)
     |(exfalso;simp at hb;omega)
     |skip
    refine zS (idxI tabOk rfl rfl rfl rfl rfl rfl rfl (by simp;omega)) ?_
    refine zS (loadI tabOk rfl rfl rfl rfl rfl rfl hpk) ?_
    refine zS (AStep.arith rfl rfl rfl (.inl ⟨rfl,rfl⟩) zI) ?_
    refine zS (idxI tabOk rfl rfl rfl rfl rfl rfl rfl (by simp;omega)) ?_
    refine Qhp tabOk rfl rfl rfl rfl rfl rfl rfl rfl (show k < p'.length by omega) ?_
    refine zA ?_
    refine ACode.drawX tabOk 11 [(4,.one (.ptr (.l 0) j)),(5,.one (int dj)),(8,.one (.ptr (.l 0) k)),(9,.one (int dk)),(10,.one (int (if dk > dj then dk else dj)))] follows (by kernel_rfl) rfl rfl rfl rfl ?_ ?_
    ·refine .step rfl (zHP (idxI tabOk rfl rfl rfl rfl rfl rfl rfl (by simp;omega))) ?_
     refine .step rfl (zHP (loadI tabOk rfl rfl rfl rfl rfl rfl hdj)) ?_
     refine .step rfl (zHP (idxI tabOk rfl rfl rfl rfl rfl rfl rfl (by simp;omega))) ?_
     refine .step rfl (zHP (loadI tabOk rfl rfl rfl rfl rfl rfl hdk)) ?_
     exact .step rfl (zHP (AStep.max2 (t:=3) (ty:=3) rfl rfl rfl)) .nil
    refine zA ?_
    refine zS (idxI tabOk rfl rfl rfl rfl rfl rfl rfl (by simp;omega)) ?_
    refine Qhp tabOk rfl rfl rfl rfl rfl rfl rfl rfl (show j < d'.length by omega) ?_
    refine zM ?_
    refine cInv ⟨x.kids.length - (i+1),(i+1,d'.set j (if dk > dj then dk else dj),p'.set k (pk+1)),id,by omega,⟨by omega,?_,⟨by simp[hdl'],by simp[hpl']⟩,Q6h hdb' (by split <;> omega),fun v hv=>?_,rfl⟩,LessR.of rfl zFS (by simp) zLO rfl rfl hou⟩
    ·rw[Q88 hk,hki]
     simp only[Q1e,Option.bind_some,Int.toNat_natCast,Q6n hdj,Q6n hdk,Q6n hpk]
     rw[if_neg (by omega)]
    ·have:=Q6h (a:=0) (b:=(j:Int) * 1048576+(i+1:Nat)) (fun v hv=>by have:=hpb' v hv;omega) (show (0:Int)<=pk+1/\pk+1<=(j:Int) * 1048576+(i+1:Nat) by omega) v hv
     exact this
  ·have hlt2:i=x.kids.length:=by simp at hb3;omega
   subst hlt2
   rw[List.take_length]at hki
   refine zA ?_
   refine zS (idxI tabOk rfl rfl rfl rfl rfl rfl rfl (by simp;omega)) ?_
   refine zS (loadI tabOk rfl rfl rfl rfl rfl rfl hdj) ?_
   refine zS (AStep.arith rfl rfl rfl (.inl ⟨rfl,rfl⟩) zI) ?_
   refine zS (idxI tabOk rfl rfl rfl rfl rfl rfl rfl (by simp;omega)) ?_
   refine Qhp tabOk rfl rfl rfl rfl rfl rfl rfl rfl (show j < d'.length by omega) ?_
   refine zM ?_
   refine cInv ⟨e.length - (j+1),(j+1,d'.set j (dj+1),p'),id,by omega,⟨by omega,?_,⟨by simp[hdl'],hpl'⟩,?_,fun v hv=>?_,rfl⟩,LessR.of rfl zFS (by simp) zLO rfl rfl hou⟩
   ·rw[Q9f hx,hrun]
    simp only[Q1q,hki,Option.map_some,Q6n hdj]
   ·exact Q6h (fun v hv=>by have:=hdb' v hv;simp only;omega) (by simp only;omega)
   ·have:=hpb' v hv
    simp only;omega
 ·have hlt:j=e.length:=by simp at hb2;omega
  subst hlt
  rw[Qby]at hrun
  rw[hrun]at hn
  simp only at hn
  obtain⟨N,hN⟩:∃N,e.length=N+1:=⟨e.length - 1,by omega⟩
  refine zA ?_
  refine ACode.loopR hΓ (α:=Nat) (fun i=>[(72,.one (int i)),(71,.one (int (e.map cEx).length)),(70,.one (.arr (.l 1) 1 0 (e.map cEx).length (e.map cEx).length)),(4,.one (.arr (.l 1) 1 0 (e.map cEx).length (e.map cEx).length)),(3,.one (.arr (.l 0) 1 0 (e.map cEx).length (e.map cEx).length)),(0,.one (.sl 5 (e.map cEx)))])
   (fun i=>⟨2,[(1,.cells (p.map int)),(0,.cells (d.map int))],ou⟩) (fun m i=>i<=e.length/\(∀q∈(List.range e.length).take i,Q22 e.length p q=false)/\m=e.length - i) (a0:=0) (ρ:=id) ⟨by omega,by simp,rfl⟩ (LessR.of rfl zFS (by simp) zLO rfl rfl hou) fun m i hi=>?_
  obtain⟨hil,hno,rfl⟩:=hi
  refine zA ?_
  refine ACode.cond rfl (fun hb3=>?_) (fun hb3=>?_)
  ·have hlt2:i < e.length:=by simpa using hb3
   have hri:(List.range e.length)[i]?=some i:=by simp[hlt2]
   obtain⟨v,hv⟩:=Q00 (l:=p) (i:=i) (by omega)
   have hod:Q22 e.length p i=!((v==1)==decide ((i:Int) < (e.length:Int) - 1)):=by unfold Q22;rw[Q6n hv]
   refine zA ?_
   refine zS (idxI tabOk rfl rfl rfl rfl rfl rfl rfl (by simp;omega)) ?_
   refine zS (loadI tabOk rfl rfl rfl rfl rfl rfl hv) ?_
   refine zM ?_
   refine ACode.cond rfl (fun hb4=>?_) (fun hb4=>?_)
   ·refine zA ?_
    refine APure.fin rfl (WkF.ofEq ?_) (by simp) hou rfl
    rw[hn,if_pos (List.any_eq_true.2 ⟨i,by simp[hlt2],by rw[hod];simpa using hb4⟩)]
   ·refine zM ?_
    exact cInv ⟨e.length - (i+1),i+1,id,by omega,⟨by omega,Q1p hno hri (by rw[hod];simpa using hb4),rfl⟩,LessR.of rfl zFS (by simp) zLO rfl rfl hou⟩
  ·have hlt2:i=e.length:=by simp at hb3;omega
   have hany:¬(List.range e.length).any (Q22 e.length p)=true:=by
    rw[List.any_eq_true]
    rintro⟨q,hq,hq2⟩
    rw[hno q (by rw[hlt2,List.take_of_length_le (by simp)];exact hq)]at hq2
    cases hq2
   rw[if_neg hany]at hn
   obtain⟨v,hv⟩:=Q00 (l:=d) (i:=N) (by omega)
   have hgd:d.getD (e.length - 1) 0=v:=by rw[hN];exact Q6n hv
   rw[hgd]at hn
   refine zM ?_
   refine AOps.wk 89 rfl (y:=.one (int (N:Nat))) (.ofEq (by congr 3;simp;omega)) ?_
   refine zS (idxI tabOk rfl rfl rfl rfl rfl rfl rfl (by simp;omega)) ?_
   refine zS (loadI tabOk rfl rfl rfl rfl rfl rfl hv) ?_
   refine zA ?_
   refine ACode.cond rfl (fun hb4=>?_) (fun hb4=>?_)
   ·refine zA ?_
    refine APure.fin rfl (WkF.ofEq ?_) (by simp) hou rfl
    rw[hn,if_pos (by simpa using hb4)]
   ·refine zA ?_
    refine APure.fin rfl (WkF.ofEq ?_) (by simp) hou rfl
    rw[hn,if_neg (by simpa using hb4)]
structure SetIs (S:List Int)(ck:Nat)(l:List (Nat×Int×Unit)):Prop where
 ex:∃f,IMOk f ck l/\∀k,(f k).isSome=S.contains k
theorem SetIs.nil:SetIs [] 0 []:=⟨_,IMOk.nil,fun k=>by simp⟩
theorem Qdb{S:List Int}{f:Int->Option Unit}(h:∀k,(f k).isSome=S.contains k)(n:Int):∀k,(setF f n () k).isSome=(S++[n]).contains k:=fun k=>by
 unfold setF
 by_cases e:n=k
 ·subst e;simp
 ·rw[if_neg e,h k]
  have:¬k=n:=fun h=>e h.symm
  simp[this]
theorem dup_at{S r:List Int}{n:Int}(h:S.contains n=true):Q4k (S++n::r)=true:=by
 apply Classical.byContradiction
 intro hd
 have:=(Q1t _).1 (by simpa using hd)
 rw[List.nodup_append]at this
 exact this.2.2 n (by simpa using h) n (by simp) rfl
theorem Q9w{S:List Int}{n:Int}(h:S.Nodup)(hn:S.contains n=false):(S++[n]).Nodup:=by
 rw[List.nodup_append]
 refine⟨h,by simp,fun a ha b hb e=>?_⟩
 simp at hb
 subst hb;subst e
 simp at hn
 exact hn ha
theorem Q2s{α:Type}{l:List α}{j:Nat}{a:α}(h:l[j]?=some a):l.take (j+1)=l.take j++[a]:=by rw[List.take_add_one,h];rfl
theorem Qaq{α:Type}{l:List α}{j:Nat}{a:α}(h:l[j]?=some a):l=l.take j++a::l.drop (j+1):=by
 have h1:=(List.getElem?_eq_some_iff.1 h)
 obtain⟨h2,h3⟩:=h1
 rw[←h3,←List.drop_eq_getElem_cons h2,List.take_append_drop]
set_option maxHeartbeats 1000000 in
theorem Qka(hΓ:∀g cs,(g,cs)∈Γ->idsL isO cs)(e:List Ex)(he:okE e)(params:List Int)(hp:params.length<=1048576)(hbl:∀x∈e,(Q0r x).length<=4194304/\x.binds.length+(x.alts.flatMap (·.binds)).length<=4194304):
  APure Tryd.prog Γ 82 [.one (.sl 5 (e.map cEx)),.one (.sl 1 (params.map cI))] (.one (.lit (.bool (Q4k (params++Q06 e))))):=by
 have hel:=he.l
 intro ou
 refine AFn.walk 68 tabOk Tryd.func82 rfl (by kernel_rfl) rfl rfl fun hou=>?_
 refine zA ?_
 refine zS (AStep.makeMap rfl) ?_
 refine zA ?_
 refine ACode.loopR hΓ (α:=Nat×Nat×List (Nat×Int×Unit)) (fun a=>[(20,.one (int a.1)),(19,.one (int (params.map cI).length)),(18,.one (.sl 1 (params.map cI))),(5,.one (.mp (.l 0))),(0,.one (.sl 5 (e.map cEx)))])
  (fun a=>⟨1,[(0,.map a.2.1 (encI eU a.2.2))],ou⟩) (fun m a=>a.1<=params.length/\SetIs (params.take a.1) a.2.1 a.2.2/\(params.take a.1).Nodup/\m=params.length - a.1) (a0:=(0,0,[])) (ρ:=id) ⟨by omega,by simpa using SetIs.nil,by simp,rfl⟩
  (LessR.of rfl zFS (by simp) zLO rfl rfl hou) fun m a hj=>?_
 obtain⟨j,ck,l⟩:=a
 obtain⟨hjl,⟨f,hf,hfs⟩,hnd,rfl⟩:=hj
 simp only at hjl hf hfs hnd
 refine zA ?_
 refine ACode.cond rfl (fun hb2=>?_) (fun hb2=>?_)
 ·have hlt:j < params.length:=by simpa using hb2
  obtain⟨n,hn⟩:=Q00 hlt
  refine zA ?_
  refine zS (zIA rfl rfl rfl (by omega) (Q0c hn)) ?_
  refine zA ?_
  refine zS (AStep.lookI eU (cm:=true) (v:=.agg []) rfl Tryd.underlying163 Tryd.underlying3 rfl rfl rfl (by kernel_rfl) zeroU hf (by cases f n <;> rfl)) ?_
  refine zA ?_
  refine zS (AStep.allocU rfl (by kernel_rfl)) ?_
  refine AOps.step rfl rfl (AStep.storeU rfl (by kernel_rfl) rfl rfl rfl) ?_
  refine zA ?_
  refine ACode.cond rfl (fun hb3=>?_) (fun hb3=>?_)
  ·refine zA ?_
   refine APure.fin rfl (WkF.ofEq ?_) (by simp) hou rfl
   rw[hfs n]at hb3
   have hd:=dup_at (r:=params.drop (j+1)++Q06 e) hb3
   rw[←List.cons_append,←List.append_assoc,←Qaq hn]at hd
   rw[hd]
  ·rw[hfs n]at hb3
   refine zA ?_
   refine zS (AStep.buildU rfl Tryd.underlying164 (by kernel_rfl)) ?_
   refine AOps.putI eU (v:=()) rfl rfl rfl Tryd.underlying163 Tryd.underlying3 rfl rfl rfl rfl hf fun ck' l' hf'=>?_
   refine zM ?_
   exact cInv ⟨params.length - (j+1),(j+1,ck',l'),id,by omega,⟨by omega,⟨_,hf',by rw[Q2s hn];exact Qdb hfs n⟩,by rw[Q2s hn];exact Q9w hnd hb3,rfl⟩,LessR.of rfl zFS (by simp) zLO rfl rfl hou⟩
 have hlt:j=params.length:=by simp at hb2;omega
 subst hlt
 rw[List.take_length]at hfs hnd
 refine zA ?_
 refine ACode.loopR hΓ (α:=Nat×Nat×List (Nat×Int×Unit)) (fun a=>[(37,.one (int a.1)),(36,.one (int (e.map cEx).length)),(35,.one (.sl 5 (e.map cEx))),(5,.one (.mp (.l 0)))])
  (fun a=>⟨1,[(0,.map a.2.1 (encI eU a.2.2))],ou⟩) (fun m a=>a.1<=e.length/\SetIs (params++Q06 (e.take a.1)) a.2.1 a.2.2/\(params++Q06 (e.take a.1)).Nodup/\m=e.length - a.1) (a0:=(0,ck,l)) (ρ:=id) ⟨by omega,⟨f,hf,by simpa[Q06]using hfs⟩,by simpa[Q06]using hnd,rfl⟩
  (LessR.of rfl zFS (by simp) zLO rfl rfl hou) fun m a hj=>?_
 clear hf hfs hnd hb2 hjl f
 obtain⟨j,ck,l⟩:=a
 obtain⟨hjl,⟨f,hf,hfs⟩,hnd,rfl⟩:=hj
 simp only at hjl hf hfs hnd
 refine zA ?_
 refine ACode.cond rfl (fun hb2=>?_) (fun hb2=>?_)
 ·have hlt:j < e.length:=by simpa using hb2
  obtain⟨x,hx⟩:=Q00 hlt
  have hxm:=List.mem_of_getElem? hx
  have hxo:=he.x x hxm
  have hxl:=hbl x hxm
  have hab:Q06 (e.take (j+1))=Q06 (e.take j)++Q0r x:=by rw[Q2s hx];simp[Q06]
  have hall:Q06 e=Q06 (e.take j)++(Q0r x++Q06 (e.drop (j+1))):=by
   conv=>lhs;rw[Qaq hx]
   simp[Q06]
  refine zA ?_
  refine zS (zIA rfl rfl rfl (by omega) (Q0c hx)) ?_
  refine zA ?_
  refine AOps.freeze1 (.l 2) 49 rfl rfl ?_
  refine AOps.wk 49 rfl (y:=.one (.box (cTr (.mk x.op 0 x.binds [] x.alts)))) (.one (Wk.box ?_)) ?_
  ·exact .cons (.refl _) (.cons (.refl _) (.cons (.refl _) (.cons (.nilS 1) (.cons (.refl _) .nil))))
  have hcall:=Qha hΓ (.mk x.op 0 x.binds [] x.alts) (by simpa[Qe2]using hxl.2) hxo.a
  refine zca hΓ hcall hou ?_
  have heb:Q08 x.op x.binds x.alts=Q0r x:=rfl
  simp only[Tr.op_mk,Tr.binds_mk,Tr.alts_mk,heb]
  refine zA ?_
  refine ACode.loopR hΓ (α:=Nat×Nat×List (Nat×Int×Unit)) (fun a=>[(52,.one (int a.1)),(51,.one (int ((Q0r x).map cI).length)),(50,.one (.sl 1 ((Q0r x).map cI))),(37,.one (int j)),(36,.one (int (e.map cEx).length)),(35,.one (.sl 5 (e.map cEx))),(5,.one (.mp (.l 0)))])
   (fun a=>⟨1,[(0,.map a.2.1 (encI eU a.2.2))],ou⟩) (fun m a=>a.1<=(Q0r x).length/\SetIs (params++Q06 (e.take j)++(Q0r x).take a.1) a.2.1 a.2.2/\(params++Q06 (e.take j)++(Q0r x).take a.1).Nodup/\m=(Q0r x).length - a.1) (a0:=(0,ck,l)) (ρ:=id) ⟨by omega,⟨f,hf,by simpa using hfs⟩,by simpa using hnd,rfl⟩
   (LessR.of rfl zFS (by simp) zLO rfl rfl hou) fun m a hi=>?_
  clear hf hfs hnd f
  obtain⟨i,ck,l⟩:=a
  obtain⟨hil,⟨f,hf,hfs⟩,hnd,rfl⟩:=hi
  simp only at hil hf hfs hnd
  refine zA ?_
  refine ACode.cond rfl (fun hb3=>?_) (fun hb3=>?_)
  ·have hlt2:i < (Q0r x).length:=by simpa using hb3
   obtain⟨n,hn⟩:=Q00 hlt2
   refine zA ?_
   refine zS (zIA rfl rfl rfl (by omega) (Q0c hn)) ?_
   refine zA ?_
   refine zS (AStep.lookI eU (cm:=true) (v:=.agg []) rfl Tryd.underlying163 Tryd.underlying3 rfl rfl rfl (by kernel_rfl) zeroU hf (by cases f n <;> rfl)) ?_
   refine zA ?_
   refine zS (AStep.allocU rfl (by kernel_rfl)) ?_
   refine AOps.step rfl rfl (AStep.storeU rfl (by kernel_rfl) rfl rfl rfl) ?_
   refine zA ?_
   refine ACode.cond rfl (fun hb4=>?_) (fun hb4=>?_)
   ·refine zA ?_
    refine APure.fin rfl (WkF.ofEq ?_) (by simp) hou rfl
    rw[hfs n]at hb4
    have hd:=dup_at (r:=(Q0r x).drop (i+1)++Q06 (e.drop (j+1))) hb4
    rw[←List.cons_append,List.append_assoc (params++_),←List.append_assoc ((Q0r x).take i),←Qaq hn,List.append_assoc,←hall]at hd
    rw[hd]
   ·rw[hfs n]at hb4
    refine zA ?_
    refine zS (AStep.buildU rfl Tryd.underlying164 (by kernel_rfl)) ?_
    refine AOps.putI eU (v:=()) rfl rfl rfl Tryd.underlying163 Tryd.underlying3 rfl rfl rfl rfl hf fun ck' l' hf'=>?_
    refine zM ?_
    exact cInv ⟨(Q0r x).length - (i+1),(i+1,ck',l'),id,by omega,⟨by omega,⟨_,hf',by rw[Q2s hn,←List.append_assoc];exact Qdb hfs n⟩,by rw[Q2s hn,←List.append_assoc];exact Q9w hnd hb4,rfl⟩,LessR.of rfl zFS (by simp) zLO rfl rfl hou⟩
  ·have hlt2:i=(Q0r x).length:=by simp at hb3;omega
   subst hlt2
   rw[List.take_length,List.append_assoc,←hab]at hfs hnd
   refine zM ?_
   exact cInv ⟨e.length - (j+1),(j+1,ck,l),id,by omega,⟨by omega,⟨_,hf,hfs⟩,hnd,rfl⟩,LessR.of rfl zFS (by simp) zLO rfl rfl hou⟩
 ·have hlt:j=e.length:=by simp at hb2;omega
  subst hlt
  rw[List.take_length]at hnd
  refine zA ?_
  refine APure.fin rfl (WkF.ofEq ?_) (by simp) hou rfl
  rw[(Q1t _).2 hnd]
@[simp] theorem ids_takeA (p:Abs.Id->Prop) (n:Nat) (l:List Alt):idsS p (List.take n (l.map cAlt)):=by rw[←List.map_take];exact Qcj p _
@[simp] theorem ids_takeI (p:Abs.Id->Prop) (n:Nat) (l:List Int):idsS p (List.take n (l.map cI)):=by rw[←List.map_take];exact Qdm p _
@[simp] theorem renS_nil (ρ:Nat->Nat):renS ρ []=[]:=rfl
def Q2l (ts:List Tr)(n:Nat):List AC:=ts.map (fun t=>.box (cTr t))++List.replicate (n - ts.length) (.lit (.pointer none))
theorem Qgh(n:Nat):Q2l [] n=List.replicate n (.lit (.pointer none)):=by simp[Q2l]
theorem Qgi{ts:List Tr}{n:Nat}(h:ts.length<=n):(Q2l ts n).length=n:=by simp[Q2l];omega
theorem Q6g{ts:List Tr}{n k:Nat}{t:Tr}(h:ts[k]?=some t):(Q2l ts n)[k]?=some (.box (cTr t)):=by
 have hk:=(List.getElem?_eq_some_iff.1 h).1
 unfold Q2l
 rw[List.getElem?_append_left (by simpa using hk)]
 simp[h]
theorem Qgg{ts:List Tr}{n:Nat}(h:ts.length < n)(t:Tr):(Q2l ts n).set ts.length (.box (cTr t))=Q2l (ts++[t]) n:=by
 unfold Q2l
 rw[List.set_append_right _ _ (by simp)]
 simp only[List.length_map,Nat.sub_self,List.map_append,List.map_cons,List.map_nil,List.append_assoc,List.length_append,List.length_singleton]
 congr 1
 rw[show n - ts.length=(n - (ts.length+1))+1 by omega,List.replicate_succ]
 rfl
theorem Qck(p:Abs.Id->Prop):∀ts:List Tr,idsL p (ts.map fun t=>AC.box (cTr t))
 |[]=>by simp
 |t::ts=>by simp[Qck p ts]
theorem Q5v{p:Abs.Id->Prop}:∀{a b:List AC},idsL p a->idsL p b->idsL p (a++b)
 |[],_,_,h=>h
 |_::_,_,h,k=>⟨h.1,Q5v h.2 k⟩
@[simp] theorem ids_nodesC (p:Abs.Id->Prop) (ts:List Tr) (n:Nat):idsL p (Q2l ts n):=Q5v (Qck p ts) (Qfk p _ _)
def kidsT (ts:List Tr)(ks:List Int):List Tr:=ks.map fun k=>ts.getD k.toNat default
theorem Qgm{ts:List Tr}{ks:List Int}{i:Nat}{k:Int}(h:ks[i]?=some k):kidsT ts (ks.take (i+1))=kidsT ts (ks.take i)++[ts.getD k.toNat default]:=by
 simp[kidsT,List.take_add_one,h]
theorem Qir(ts:List Tr)(x:Ex):Q30 ts x=.mk x.op x.n x.binds (kidsT ts x.kids) x.alts:=rfl
theorem Q0o{α:Type}{l:List α}{j:Nat}{a:α}(h:l[j]?=some a):l.take (j+1)=l.take j++[a]:=by rw[List.take_add_one,h];rfl
set_option maxHeartbeats 1000000 in
theorem Qk2(hΓ:∀g cs,(g,cs)∈Γ->idsL isO cs)(e:List Ex)(he:okE e)(hin:Q0v e)(hne:e≠[]):APure Tryd.prog Γ 35 [.one (.sl 5 (e.map cEx))] (.one (.box (cTr (grow e)))):=by
 have hel:=he.l
 intro ou
 refine AFn.walk 85 tabOk Tryd.func35 rfl (by kernel_rfl) rfl rfl fun hou=>?_
 refine zA ?_
 have hb:ti90.bytes * (e.map cEx).length<=281474976710656:=by simp;show 8 * _<=_;omega
 have hb2:(e.map cEx).length<=281474976710656:=by simp;omega
 refine zS (AStep.makeArr tabOk rfl rfl rfl rfl rfl rfl rfl rfl hb hb2) ?_
 refine zA ?_
 refine ACode.loopR hΓ (α:=Nat) (fun j=>[(16,.one (int j)),(15,.one (int (e.map cEx).length)),(14,.one (.sl 5 (e.map cEx))),(3,.one (.arr (.l 0) 1 0 (e.map cEx).length (e.map cEx).length)),(0,.one (.sl 5 (e.map cEx)))])
  (fun j=>⟨1,[(0,.cells (Q2l (growL (e.take j)) (e.map cEx).length))],ou⟩) (fun m j=>j<=e.length/\m=e.length - j) (a0:=0) (ρ:=id) ⟨by omega,rfl⟩
  (LessR.of rfl zFS (by simp) (LoSub.cons rfl (by rw[AObj.ren_pure _ _ (by simp)];show AObj.cells (List.replicate _ _)=AObj.cells (Q2l [] _);rw[Qgh]) rfl (by simp) .nil) rfl rfl hou) fun m j hj=>?_
 obtain⟨hjl,rfl⟩:=hj
 refine zA ?_
 refine ACode.cond rfl (fun hb2=>?_) (fun hb2=>?_)
 ·have hlt:j < e.length:=by simpa using hb2
  obtain⟨x,hx⟩:=Q00 hlt
  have hxo:=he.x x (List.mem_of_getElem? hx)
  have hxk:=hxo.k
  have hxa:=hxo.a
  have hxin:=hin j x hx
  have hgl:(growL (e.take j)).length=j:=by rw[Q1j];simp;omega
  refine zA ?_
  refine zS (zIA rfl rfl rfl (by omega) (Q0c hx)) ?_
  refine zA ?_
  have hcl:=Q7j (Γ:=Γ) x.binds hxo.b
  refine ACode.drawXH (va:=.one (.ptr (.l 2) 0)) (σ1:=(((St.mk 1 [(0,.cells (Q2l (growL (e.take j)) (e.map cEx).length))] ou).push (.cells (ti69.zero.map .lit))).set (.l 1) (.cells (cEx x))).push (.cells [int x.op,int x.n,.sl 1 (x.binds.map cI),.lit (.slice none 0 0),.lit (.slice none 0 0)]))
   tabOk 9 8 [(6,.one (.sl 1 (x.binds.map cI)))] follows (by kernel_rfl) rfl rfl rfl rfl rfl rfl rfl (HStep.auto tabOk rfl) ?_ ?_ ?_
  ·exact .call hΓ hcl hou (by simp) rfl rfl rfl rfl rfl rfl .nil
  ·exact .call hΓ hcl hou (by simp) rfl rfl rfl rfl rfl rfl .nil
  refine zA ?_
  refine ACode.grow 2 3 90 1 rfl rfl ?_
  refine ACode.loopR hΓ (α:=Nat) (fun i=>[(33,.one (int i)),(32,.one (int (x.kids.map cI).length)),(31,.one (.sl 1 (x.kids.map cI))),(6,.one (.ptr (.l 2) 0)),(5,.one (.ptr (.l 1) 0)),(4,.one (int j)),(16,.one (int j)),(15,.one (int (e.map cEx).length)),(14,.one (.sl 5 (e.map cEx))),(3,.one (.arr (.l 0) 1 0 (e.map cEx).length (e.map cEx).length)),(0,.one (.sl 5 (e.map cEx)))])
   (fun i=>⟨4,[(3,.tok 90 1 i),(2,.cells [int x.op,int x.n,.sl 1 (x.binds.map cI),.gs 1 ((kidsT (growL (e.take j)) (x.kids.take i)).map cB) (.l 3),.lit (.slice none 0 0)]),(1,.cells (cEx x)),(0,.cells (Q2l (growL (e.take j)) (e.map cEx).length))],ou⟩)
   (fun m i=>i<=x.kids.length/\m=x.kids.length - i) (a0:=0) (ρ:=id) ⟨by omega,rfl⟩ (LessR.of rfl zFS (by simp) ?_ rfl rfl hou) fun m i hi=>?_
  ·repeat' first|exact LoSub.nil|refine zlc ?_|refine zld ?_ ?_|rfl
   all_goals (simp[AObj.ren,renL,AC.ren,kidsT];rfl)
  obtain⟨hil,rfl⟩:=hi
  refine zA ?_
  refine ACode.cond rfl (fun hb3=>?_) (fun hb3=>?_)
  ·have hlt2:i < x.kids.length:=by simpa using hb3
   obtain⟨k,hk⟩:=Q00 hlt2
   have hkb:=hxin k (List.mem_of_getElem? hk)
   obtain⟨k',rfl⟩:∃k':Nat,k=k':=⟨k.toNat,by omega⟩
   obtain⟨tk,htk⟩:=Q00 (l:=growL (e.take j)) (i:=k') (by omega)
   have htd:(growL (e.take j)).getD (k':Int).toNat default=tk:=by rw[Int.toNat_natCast,List.getD_eq_getElem?_getD,htk];rfl
   have hks:=Qgm (ts:=growL (e.take j)) hk
   rw[htd]at hks
   have hkl:((kidsT (growL (e.take j)) (x.kids.take i)).map cB).length=i:=by simp[kidsT];omega
   refine zA ?_
   refine zS (zIA rfl rfl rfl (by omega) (Q0c hk)) ?_
   refine zA ?_
   refine ACode.drawXH (va:=.one (.gs 1 ((kidsT (growL (e.take j)) (x.kids.take i)).map cB++[cB tk]) (.l 4))) (σ1:=((St.mk 4 [(3,.tok 90 1 i),(2,.cells [int x.op,int x.n,.sl 1 (x.binds.map cI),.gs 1 ((kidsT (growL (e.take j)) (x.kids.take i)).map cB) (.l 3),.lit (.slice none 0 0)]),(1,.cells (cEx x)),(0,.cells (Q2l (growL (e.take j)) (e.map cEx).length))] ou).set (.l 3) .dead).push (.tok 90 1 ((kidsT (growL (e.take j)) (x.kids.take i)).map cB++[cB tk]).length))
    tabOk 11 10 [(7,.one (.ptr (.l 0) k')),(8,.one (.box (cTr tk)))] follows (by kernel_rfl) rfl rfl rfl rfl rfl rfl rfl ?_ ?_ ?_ ?_
   ·refine HStep.plain rfl (AStep.append (s:=1) (es:=(kidsT (growL (e.take j)) (x.kids.take i)).map cB) (news:=[cB tk]) (ti:=ti99) (σ:=⟨4,[(3,.tok 90 1 i),(2,.cells [int x.op,int x.n,.sl 1 (x.binds.map cI),.gs 1 ((kidsT (growL (e.take j)) (x.kids.take i)).map cB) (.l 3),.lit (.slice none 0 0)]),(1,.cells (cEx x)),(0,.cells (Q2l (growL (e.take j)) (e.map cEx).length))],ou⟩) tabOk rfl rfl rfl rfl rfl rfl (Base.gs' _ 90 1 ((kidsT (growL (e.take j)) (x.kids.take i)).map cB) (.l 3) rfl hkl.symm) (.sl _ _) rfl ?_ ?_)
    ·rw[hkl];show (i+1) * 8<=_;omega
    ·rw[hkl];show i+1<=_;omega
   ·refine .step rfl (zHP (idxI tabOk rfl rfl rfl rfl rfl rfl rfl (by simp;omega))) ?_
    exact .step rfl (zHP (zLD rfl rfl rfl (Q6g htk))) .nil
   ·refine .step rfl (zHP (idxI tabOk rfl rfl rfl rfl rfl rfl rfl (by simp;omega))) ?_
    exact .step rfl (zHP (zLD rfl rfl rfl (Q6g htk))) .nil
   refine zM ?_
   refine cInv ⟨x.kids.length - (i+1),i+1,fun k=>if k=3 then 4 else k,by omega,⟨by omega,rfl⟩,LessR.of rfl zFS (by simp) ?_ rfl rfl hou⟩
   repeat' first|exact LoSub.nil|refine zlc ?_|refine zld ?_ ?_|rfl
   ·simp only[AObj.ren,List.length_append,hkl];rfl
   ·rw[hks];simp only[AObj.ren,renL,AC.ren,Q7u,Qi8];rw[List.map_append];rfl
  have hlt2:i=x.kids.length:=by simp at hb3;omega
  subst hlt2
  rw[List.take_length]
  refine zA ?_
  refine ACode.grow 2 4 135 2 rfl rfl ?_
  refine ACode.loopR hΓ (α:=Nat) (fun i=>[(54,.one (int i)),(53,.one (int (x.alts.map cAlt).length)),(52,.one (.sl 2 (x.alts.map cAlt))),(6,.one (.ptr (.l 2) 0)),(4,.one (int j)),(16,.one (int j)),(15,.one (int (e.map cEx).length)),(14,.one (.sl 5 (e.map cEx))),(3,.one (.arr (.l 0) 1 0 (e.map cEx).length (e.map cEx).length)),(0,.one (.sl 5 (e.map cEx)))])
   (fun i=>⟨5,[(4,.tok 135 2 i),(2,.cells [int x.op,int x.n,.sl 1 (x.binds.map cI),.gs 1 ((kidsT (growL (e.take j)) x.kids).map cB) (.l 3),.gs 2 ((x.alts.take i).map cAlt) (.l 4)]),(0,.cells (Q2l (growL (e.take j)) (e.map cEx).length))],ou⟩)
   (fun m i=>i<=x.alts.length/\m=x.alts.length - i) (a0:=0) (ρ:=id) ⟨by omega,rfl⟩ (LessR.of rfl zFS (by simp) ?_ rfl rfl hou) fun m i hi=>?_
  ·repeat' first|exact LoSub.nil|refine zlc ?_|refine zld ?_ ?_|rfl
   all_goals (simp[AObj.ren,renL,AC.ren];exact⟨rfl,rfl⟩)
  obtain⟨hil,rfl⟩:=hi
  refine zA ?_
  refine ACode.cond rfl (fun hb3=>?_) (fun hb3=>?_)
  ·have hlt2:i < x.alts.length:=by simpa using hb3
   obtain⟨a,ha⟩:=Q00 hlt2
   have hal:((x.alts.take i).map cAlt).length=i:=by simp;omega
   have hca:=Q7j (Γ:=Γ) a.binds (hxo.ab a (List.mem_of_getElem? ha))
   refine zA ?_
   refine zS (zIA rfl rfl rfl (by omega) (Q0c ha)) ?_
   refine zA ?_
   refine ACode.drawXH (va:=.one (.gs 2 ((x.alts.take i).map cAlt++[cAlt a]) (.l 6))) (σ1:=((((St.mk 5 [(4,.tok 135 2 i),(2,.cells [int x.op,int x.n,.sl 1 (x.binds.map cI),.gs 1 ((kidsT (growL (e.take j)) x.kids).map cB) (.l 3),.gs 2 ((x.alts.take i).map cAlt) (.l 4)]),(0,.cells (Q2l (growL (e.take j)) (e.map cEx).length))] ou).push (.cells (ti135.zero.map .lit))).set (.l 5) (.cells (cAlt a))).set (.l 4) .dead).push (.tok 135 2 ((x.alts.take i).map cAlt++[cAlt a]).length))
    tabOk 13 12 [(9,.one (.sl 1 (a.binds.map cI)))] follows (by kernel_rfl) rfl rfl rfl rfl rfl rfl rfl ?_ ?_ ?_ ?_
   ·refine HStep.plain rfl (AStep.append (s:=2) (es:=(x.alts.take i).map cAlt) (news:=[cAlt a]) (ti:=ti67) (σ:=(((St.mk 5 [(4,.tok 135 2 i),(2,.cells [int x.op,int x.n,.sl 1 (x.binds.map cI),.gs 1 ((kidsT (growL (e.take j)) x.kids).map cB) (.l 3),.gs 2 ((x.alts.take i).map cAlt) (.l 4)]),(0,.cells (Q2l (growL (e.take j)) (e.map cEx).length))] ou).push (.cells (ti135.zero.map .lit))).set (.l 5) (.cells (cAlt a)))) tabOk rfl rfl rfl rfl rfl rfl (Base.gs' _ 135 2 ((x.alts.take i).map cAlt) (.l 4) rfl hal.symm) (.sl _ _) rfl ?_ ?_)
    ·rw[hal];show (i+1) * 32<=_;omega
    ·rw[hal];show i+1<=_;omega
   ·exact .call hΓ hca hou (by simp) rfl rfl rfl rfl rfl rfl .nil
   ·exact .call hΓ hca hou (by simp) rfl rfl rfl rfl rfl rfl .nil
   refine zM ?_
   refine cInv ⟨x.alts.length - (i+1),i+1,fun k=>if k=4 then 6 else k,by omega,⟨by omega,rfl⟩,LessR.of rfl zFS (by simp) ?_ rfl rfl hou⟩
   repeat' first|exact LoSub.nil|refine zlc ?_|refine zld ?_ ?_|rfl
   ·simp only[AObj.ren,List.length_append,hal];rfl
   ·rw[Q0o ha];simp only[AObj.ren,renL,AC.ren,Q7u,Qi8,Q7v];rw[List.map_append];rfl
  have hlt2:i=x.alts.length:=by simp at hb3;omega
  subst hlt2
  rw[List.take_length]
  refine zA ?_
  refine zS (idxI tabOk rfl rfl rfl rfl rfl rfl rfl (by simp;omega)) ?_
  refine AOps.freeze1 (.l 2) 76 rfl rfl ?_
  refine AOps.wk 76 rfl (y:=.one (.box (cTr (Q30 (growL (e.take j)) x)))) (.one (Wk.box ?_)) ?_
  ·rw[Qir]
   exact .cons (.refl _) (.cons (.refl _) (.cons (.refl _) (.cons (.gsE (Q60 _).symm) (.cons (.gsE rfl) .nil))))
  refine AOps.storeOwn tabOk rfl rfl rfl rfl rfl rfl rfl rfl (by rw[Qgi (by simp[hgl];omega)];simp;omega) ?_
  have hst:=Qgg (ts:=growL (e.take j)) (n:=(e.map cEx).length) (by simp[hgl];omega) (Q30 (growL (e.take j)) x)
  rw[hgl,←Q2e,←Q0o hx]at hst
  rw[hst]
  refine zM ?_
  exact cInv ⟨e.length - (j+1),j+1,id,by omega,⟨by omega,rfl⟩,LessR.of rfl zFS (by simp) zLO rfl rfl hou⟩
 ·have hlt:j=e.length:=by simp at hb2;omega
  subst hlt
  rw[List.take_length]
  obtain⟨N,hN⟩:∃N,e.length=N+1:=⟨e.length - 1,by have:=List.length_pos_iff.2 hne;omega⟩
  obtain⟨t,ht⟩:=Q00 (l:=growL e) (i:=N) (by rw[Q1j];omega)
  have hgt:grow e=t:=by unfold grow;rw[hN,Nat.add_sub_cancel,List.getD_eq_getElem?_getD,ht];rfl
  refine zM ?_
  refine AOps.wk 82 rfl (y:=.one (int (N:Nat))) (.ofEq (by congr 3;simp;omega)) ?_
  refine zS (idxI tabOk rfl rfl rfl rfl rfl rfl rfl (by simp;omega)) ?_
  refine zS (zLD rfl rfl rfl (Q6g ht)) ?_
  refine zA ?_
  refine APure.fin rfl (WkF.ofEq ?_) (by simp) hou rfl
  rw[hgt]
end Go.Proofs.YthboaankaaeemaaDoor
namespace Go.CoreX
theorem Q58(t:Tr):∀(l:List Tr)(out:List Ex),Q02 out (l++[t])=(listT (Q02 out l).1 t,(Q02 out l).2++[((listT (Q02 out l).1 t).length:Int) - 1])
 |[],out=>by simp[Q02]
 |a::l,out=>by
  have:=Q58 t l (listT out a)
  simp only[List.cons_append,Q02,this]
mutual
theorem Qlg:∀(t:Tr)(out:List Ex),out.length < (listT out t).length
 |.mk o n b k a,out=>by
  have:=Q3q k out
  simp only[listT,List.length_append,List.length_singleton];omega
theorem Q3q:∀(l:List Tr)(out:List Ex),out.length<=(Q02 out l).1.length
 |[],out=>by simp[Q02]
 |t::l,out=>by
  have h1:=Qlg t out
  have h2:=Q3q l (listT out t)
  simp only[Q02];omega
end
theorem Q3r:∀(l r:List Tr)(out:List Ex),(Q02 out (l++r)).1=(Q02 (Q02 out l).1 r).1
 |[],r,out=>by simp[Q02]
 |a::l,r,out=>by simp only[List.cons_append,Q02,Q3r l r]
theorem Q3y:∀(l:List Tr)(out:List Ex),(Q02 out l).2.length=l.length
 |[],out=>by simp[Q02]
 |a::l,out=>by simp[Q02,Q3y l]
-- The lists of a tree are not too long.
mutual
def okT:Tr->Prop
 |.mk _ _ b k a=>b.length<=1048576/\k.length<=1048576/\a.length<=1048576/\((∀x∈a,x.binds.length<=1048576)/\b.length+(a.flatMap (·.binds)).length<=4194304)/\okTs k
def okTs:List Tr->Prop
 |[]=>True
 |t::l=>okT t/\okTs l
end
theorem Q5p:∀{l:List Tr},okTs l↔∀t∈l,okT t
 |[]=>by simp[okTs]
 |t::l=>by simp[okTs,Q5p (l:=l)]
end Go.CoreX
namespace Go.Proofs.YthboaankaaeemaaDoor
open Go Go.Abs Go.CoreX
variable {Γ:List (Nat×List AC)}
abbrev fnW (kw ko:Nat):AC:=.fn (.func 69) [] [.ptr (.o kw) 0,.ptr (.o ko) 0]
def ouS (ou:Outer)(ko kt:Nat)(es:List (List AC)):Outer:=updO (updO ou ko (.cells [.gs 5 es (.o kt)])) kt (.tok 69 5 es.length)
theorem ouS_o{ou:Outer}{ko kt:Nat}(h:ko≠kt)(es:List (List AC)):ouS ou ko kt es ko=some (.cells [.gs 5 es (.o kt)]):=by
 unfold ouS;rw[Q05 _ (Ne.symm h),Q04]
theorem ouS_t(ou:Outer)(ko kt:Nat)(es:List (List AC)):ouS ou ko kt es kt=some (.tok 69 5 es.length):=by unfold ouS;rw[Q04]
theorem ouS_w{ou:Outer}{ko kt k:Nat}(h:k≠ko)(h2:k≠kt)(es:List (List AC)):ouS ou ko kt es k=ou k:=by
 unfold ouS;rw[Q05 _ (Ne.symm h2),Q05 _ (Ne.symm h)]
theorem Q51{ou:Outer}{ko kt:Nat}{es:List (List AC)}(h:OuOk ou)(he:idsS isO es):OuOk (ouS ou ko kt es):=by
 intro k o hk
 unfold ouS at hk
 by_cases e:kt=k
 ·subst e;rw[Q04]at hk;cases hk;trivial
 ·rw[Q05 _ e]at hk
  by_cases e2:ko=k
  ·subst e2;rw[Q04]at hk;cases hk;exact⟨⟨trivial,he⟩,trivial⟩
  ·rw[Q05 _ e2]at hk;exact h k o hk
def ListOk (Γ:List (Nat×List AC))(t:Tr):Prop:=∀(ou:Outer)(kw ko kt:Nat)(out:List Ex),OuOk ou->ou kw=some (.cells [fnW kw ko])->ou ko=none->ou kt=none->ko≠kt->(listT out t).length<=1099511627776->
 AFn Tryd.prog Γ 69 [.one (.box (cTr t)),.one (.ptr (.o kw) 0),.one (.ptr (.o ko) 0)] (ouS ou ko kt (out.map cEx)) (fun r ou'=>r=.one (int (((listT out t).length:Int) - 1))/\∃kt',ou kt'=none/\ko≠kt'/\ou'=ouS ou ko kt' ((listT out t).map cEx))
set_option maxHeartbeats 1000000 in
theorem Qfd(hΓ:∀g cs,(g,cs)∈Γ->idsL isO cs):∀t:Tr,okT t->ListOk Γ t
 |.mk o n b ks a,hok=>by
  obtain⟨hb,hk,ha,⟨hab,_⟩,hks⟩:=hok
  have ih:∀t∈ks,ListOk Γ t:=fun t ht=>Qfd hΓ t (Q5p.1 hks t ht)
  intro ou kw ko kt out hou0 hw ho ht hne hsz
  have hwo:kw≠ko:=fun e=>by rw[e,ho]at hw;cases hw
  have hsz2:(Q02 out ks).1.length < 1099511627776:=by simp only[listT,List.length_append,List.length_singleton]at hsz;omega
  refine AFn.walk 70 tabOk Tryd.func69 rfl (by kernel_rfl) rfl rfl fun hou=>?_
  have hcl:=Q7j (Γ:=Γ) b hb
  refine zA ?_
  refine ACode.drawXA tabOk 15 14 [(12,.one (.sl 1 (b.map cI)))] follows (by kernel_rfl) rfl rfl rfl rfl rfl rfl rfl rfl rfl ?_ ?_ ?_
  ·exact .call hΓ hcl hou (by simp) rfl rfl rfl rfl rfl rfl .nil
  ·exact .call hΓ hcl hou (by simp) rfl rfl rfl rfl rfl rfl .nil
  refine zA ?_
  refine ACode.grow 0 3 3 1 rfl rfl ?_
  refine ACode.loopR hΓ (α:=Nat×Nat) (fun c=>[(29,.one (int c.1)),(28,.one (int (Q24 ks).length)),(27,.one (.sl 1 (Q24 ks))),(5,.one (.ptr (.l 0) 0)),(2,.one (.ptr (.o ko) 0)),(1,.one (.ptr (.o kw) 0)),(0,.one (.box (cTr (.mk o n b ks a))))])
   (fun c=>⟨2,[(1,.tok 3 1 c.1),(0,.cells [int o,int n,.sl 1 (b.map cI),.gs 1 ((Q02 out (ks.take c.1)).2.map cI) (.l 1),.lit (.slice none 0 0)])],ouS ou ko c.2 ((Q02 out (ks.take c.1)).1.map cEx)⟩)
   (fun m c=>c.1<=ks.length/\(ou c.2=none/\ko≠c.2)/\m=ks.length - c.1) (a0:=(0,kt)) (ρ:=id) ⟨by omega,⟨ht,hne⟩,rfl⟩ (LessR.of rfl zFS (by simp) ?_ rfl (by simp[Q02];rfl) hou) fun m c hi=>?_
  ·repeat' first|exact LoSub.nil|refine zlc ?_|refine zld ?_ ?_|rfl
   all_goals (simp[AObj.ren,renL,AC.ren,Q02];rfl)
  obtain⟨i,kt⟩:=c
  obtain⟨hil,⟨ht,hne⟩,rfl⟩:=hi
  simp only at hil ht hne
  have hwt:kw≠kt:=fun e=>by rw[e,ht]at hw;cases hw
  have hle:(Q02 out (ks.take i)).1.length<=(Q02 out ks).1.length:=by
   have:=Q3r (ks.take i) (ks.drop i) out
   rw[List.take_append_drop]at this
   rw[this];exact Q3q _ _
  refine zA ?_
  refine ACode.cond rfl (fun hb3=>?_) (fun hb3=>?_)
  ·have hlt2:i < ks.length:=by simpa using hb3
   obtain⟨t,ht2⟩:=Q00 hlt2
   have hsn:=Q58 t (ks.take i) out
   rw[←Q0o ht2]at hsn
   have hle2:(listT (Q02 out (ks.take i)).1 t).length<=1099511627776:=by
    have:=Q3r (ks.take (i+1)) (ks.drop (i+1)) out
    rw[List.take_append_drop]at this
    have h2:=Q3q (ks.drop (i+1)) (Q02 out (ks.take (i+1))).1
    rw[←this,hsn]at h2
    simp only at h2
    omega
   have hcall:=ih t (List.mem_of_getElem? ht2) ou kw ko kt (Q02 out (ks.take i)).1 hou0 hw ho ht hne hle2
   have hil2:((Q02 out (ks.take i)).2.map cI).length=i:=by rw[List.length_map,Q3y];simp;omega
   refine zA ?_
   refine zS (zIA rfl rfl rfl (by omega) (Qaa ht2)) ?_
   refine zA ?_
   refine ACode.drawXR (va:=.one (int (((listT (Q02 out (ks.take i)).1 t).length:Int) - 1))) tabOk 6 4 [(2,.one (fnW kw ko))]
    (fun σ=>∃kt',ou kt'=none/\ko≠kt'/\σ=⟨2,[(1,.tok 3 1 i),(0,.cells [int o,int n,.sl 1 (b.map cI),.gs 1 ((Q02 out (ks.take i)).2.map cI) (.l 1),.lit (.slice none 0 0)])],ouS ou ko kt' ((listT (Q02 out (ks.take i)).1 t).map cEx)⟩)
    follows (by kernel_rfl) rfl rfl rfl rfl rfl ?_ rfl ⟨rfl,rfl⟩ rfl ?_ ?_ ?_ ?_
   ·rintro σ ⟨kt',h1,h2,rfl⟩;rfl
   ·refine Q2z.call hΓ rfl rfl rfl rfl (by simp) (Q51 hou0 (by simp)) hcall fun r ou' hq _ _=>?_
    obtain⟨rfl,kt',h1,h2,rfl⟩:=hq
    exact⟨rfl,kt',h1,h2,rfl⟩
   ·exact .step rfl (zHP (zLD rfl rfl (ouS_w hwo hwt _ |>.trans hw) rfl)) .nil
   ·rintro σ ⟨kt',h1,h2,rfl⟩
    have hwt':kw≠kt':=fun e=>by rw[e,h1]at hw;cases hw
    exact .step rfl (zHP (zLD rfl rfl (ouS_w hwo hwt' _ |>.trans hw) rfl)) .nil
   rintro σ ⟨kt',h1,h2,rfl⟩
   refine zA ?_
   refine AOps.app tabOk rfl rfl rfl rfl rfl rfl rfl rfl rfl (Base.gs' _ _ _ _ _ (by rfl) hil2.symm) (.sl _ _) rfl ?_ ?_ ?_
   ·rw[hil2];show (i+1) * 8<=_;omega
   ·rw[hil2];show i+1<=_;omega
   refine zM ?_
   refine cInv ⟨ks.length - (i+1),(i+1,kt'),fun k=>if k=1 then 2 else k,by omega,⟨by omega,⟨h1,h2⟩,rfl⟩,LessR.of rfl zFS (by simp) ?_ rfl (by simp only[hsn];rfl) (Q51 hou0 (by simp))⟩
   repeat' first|exact LoSub.nil|refine zlc ?_|refine zld ?_ ?_|rfl
   ·simp only[AObj.ren,List.length_append,hil2];rfl
   ·simp only[hsn];simp only[AObj.ren,renL,AC.ren,Q7u];rw[List.map_append];rfl
  have hlt2:i=ks.length:=by simp at hb3;omega
  subst hlt2
  rw[List.take_length]at *
  refine zA ?_
  refine ACode.grow 0 4 135 2 rfl rfl ?_
  refine ACode.loopR hΓ (α:=Nat) (fun i=>[(47,.one (int i)),(46,.one (int (a.map cAlt).length)),(45,.one (.sl 2 (a.map cAlt))),(5,.one (.ptr (.l 0) 0)),(2,.one (.ptr (.o ko) 0)),(1,.one (.ptr (.o kw) 0)),(0,.one (.box (cTr (.mk o n b ks a))))])
   (fun i=>⟨3,[(2,.tok 135 2 i),(0,.cells [int o,int n,.sl 1 (b.map cI),.gs 1 ((Q02 out ks).2.map cI) (.l 1),.gs 2 ((a.take i).map cAlt) (.l 2)])],ouS ou ko kt ((Q02 out ks).1.map cEx)⟩)
   (fun m i=>i<=a.length/\m=a.length - i) (a0:=0) (ρ:=id) ⟨by omega,rfl⟩ (LessR.of rfl zFS (by simp) ?_ rfl rfl (Q51 hou0 (by simp))) fun m i hi=>?_
  ·repeat' first|exact LoSub.nil|refine zlc ?_|refine zld ?_ ?_|rfl
   all_goals (simp[AObj.ren,renL,AC.ren];exact⟨rfl,rfl⟩)
  obtain⟨hil,rfl⟩:=hi
  have hou2:OuOk (ouS ou ko kt ((Q02 out ks).1.map cEx)):=Q51 hou0 (by simp)
  refine zA ?_
  refine ACode.cond rfl (fun hb3=>?_) (fun hb3=>?_)
  ·have hlt2:i < a.length:=by simpa using hb3
   obtain⟨c,hc⟩:=Q00 hlt2
   have hal:((a.take i).map cAlt).length=i:=by simp;omega
   have hca:=Q7j (Γ:=Γ) c.binds (hab c (List.mem_of_getElem? hc))
   refine zA ?_
   refine zS (zIA rfl rfl rfl (by omega) (Q0c hc)) ?_
   refine zA ?_
   refine ACode.drawX tabOk 9 [(6,.one (.sl 1 (c.binds.map cI)))] follows (by kernel_rfl) rfl rfl rfl rfl (.call hΓ hca hou2 (by simp) rfl rfl rfl rfl rfl rfl .nil) ?_
   refine zA ?_
   refine AOps.app tabOk rfl rfl rfl rfl rfl rfl rfl rfl rfl (Base.gs' _ _ _ _ _ (by rfl) hal.symm) (.sl _ _) rfl ?_ ?_ ?_
   ·rw[hal];show (i+1) * 32<=_;omega
   ·rw[hal];show i+1<=_;omega
   refine zM ?_
   refine cInv ⟨a.length - (i+1),i+1,fun k=>if k=2 then 4 else k,by omega,⟨by omega,rfl⟩,LessR.of rfl zFS (by simp) ?_ rfl rfl hou2⟩
   repeat' first|exact LoSub.nil|refine zlc ?_|refine zld ?_ ?_|rfl
   ·simp only[AObj.ren,List.length_append,hal];rfl
   ·rw[Q0o hc];simp only[AObj.ren,renL,AC.ren,Q7u,Q7v];rw[List.map_append];rfl
  have hlt2:i=a.length:=by simp at hb3;omega
  subst hlt2
  rw[List.take_length]
  refine zA ?_
  refine zS (zLD rfl rfl (ouS_o hne _) rfl) ?_
  (first|((with_reducible refine oj ?_);refine zau ?_)|(with_reducible refine zst ?_)|((with_reducible refine Q0s ?_ ?_);rfl)|(with_reducible refine ok ?_;first|refine ACode.condT rfl ?_|refine ACode.condF rfl ?_))
  refine AOps.wk 64 rfl (y:=.agg (cEx ⟨o,n,b,(Q02 out ks).2,a⟩)) (WkF.agg ?_) ?_
  ·exact .cons (.refl _) (.cons (.refl _) (.cons (.refl _) (.cons (.gsE rfl) (.cons (.gsE rfl) .nil))))
  refine zA ?_
  have hT:listT out (.mk o n b ks a)=(Q02 out ks).1++[⟨o,n,b,(Q02 out ks).2,a⟩]:=by simp only[listT]
  have hmap:(Q02 out ks).1.map cEx++[cEx ⟨o,n,b,(Q02 out ks).2,a⟩]=(listT out (.mk o n b ks a)).map cEx:=by rw[hT,List.map_append];rfl
  refine AOps.app (es:=(Q02 out ks).1.map cEx) tabOk rfl rfl rfl rfl rfl rfl rfl rfl rfl (Base.gs' _ 69 5 _ (.o kt) (ouS_t ou ko kt _) rfl) (.sl 5 [cEx ⟨o,n,b,(Q02 out ks).2,a⟩]) rfl ?_ ?_ ?_
  ·simp;show (_+1) * 88<=_;omega
  ·simp;omega
  rw[hmap]
  refine AOps.storeOwn (cs:=[.gs 5 ((Q02 out ks).1.map cEx) (.o kt)]) tabOk rfl rfl rfl rfl rfl rfl rfl (show (bif Nat.beq ko kt then some AObj.dead else ouS ou ko kt ((Q02 out ks).1.map cEx) ko)=_ by rw[Q09 hne];exact ouS_o hne _) (by simp) ?_
  refine AOps.cede 3 (show 3 < 4 by omega) fun k hk=>⟨[(2,.one (.ptr (.o ko) 0))],⟨4,[],ouS ou ko k ((listT out (.mk o n b ks a)).map cEx)⟩,⟨fun d x hd=>?_,rfl,fun i x hx=>?_⟩,?_⟩
  ·by_cases e:2=d
   ·subst e
    simp[Fr.get]at hd;subst hd
    exact⟨_,rfl,WkF.ofEq rfl⟩
   ·simp[Fr.get,Q09 e]at hd
  ·have hk':(bif Nat.beq k ko then some (AObj.cells [.gs 5 ((listT out (.mk o n b ks a)).map cEx) (.l 3)])else bif Nat.beq k kt then some AObj.dead else ouS ou ko kt ((Q02 out ks).1.map cEx) k)=none:=hk
   have k1:k≠ko:=fun e=>by subst e;simp at hk'
   rw[Q09 k1]at hk'
   have k2:k≠kt:=fun e=>by subst e;simp at hk'
   rw[Q09 k2]at hk'
   simp only[cond_false,ouS_w k1 k2]at hk'
   cases i with
   |l m=>cases hx
   |o m=>
    have hx':ouS ou ko k ((listT out (.mk o n b ks a)).map cEx) m=some x:=hx
    by_cases e:m=k
    ·subst e
     rw[ouS_t]at hx';cases hx'
     exact⟨.l 3,_,rfl,rfl,rfl⟩
    ·by_cases e2:m=ko
     ·subst e2
      rw[ouS_o e]at hx';cases hx'
      refine⟨.o m,.cells [.gs 5 ((listT out (.mk o n b ks a)).map cEx) (.l 3)],?_,rfl,?_⟩
      ·show (bif Nat.beq m m then _ else _)=_;rw[Q3h];rfl
      ·simp only[AObj.sub,subL,AC.sub];rw[Qbv _ (by simp)];rfl
     ·rw[ouS_w e2 e]at hx'
      have e3:m≠kt:=fun e=>by rw[e,ht]at hx';cases hx'
      refine⟨.o m,x,?_,rfl,(AObj.sub_o x (hou0 m x hx')).symm⟩
      show (bif Nat.beq m ko then _ else bif Nat.beq m kt then _ else ouS ou ko kt _ m)=_
      rw[Q09 e2,Q09 e3]
      exact (ouS_w e2 e3 _).trans hx'
  ·have hk':(bif Nat.beq k ko then some (AObj.cells [.gs 5 ((listT out (.mk o n b ks a)).map cEx) (.l 3)])else bif Nat.beq k kt then some AObj.dead else ouS ou ko kt ((Q02 out ks).1.map cEx) k)=none:=hk
   have k1:k≠ko:=fun e=>by subst e;simp at hk'
   rw[Q09 k1]at hk'
   have k2:k≠kt:=fun e=>by subst e;simp at hk'
   rw[Q09 k2]at hk'
   simp only[cond_false,ouS_w k1 k2]at hk'
   refine zA ?_
   refine zS (zLD rfl rfl (ouS_o (Ne.symm k1) _) rfl) ?_
   refine zM ?_
   refine AFn.fin' rfl (WkF.ofEq ?_) (by simp) (Q51 hou0 (by simp)) ⟨rfl,k,hk',Ne.symm k1,rfl⟩
   simp
end Go.Proofs.YthboaankaaeemaaDoor
namespace Go.Abs
inductive CedFr (θ:Id->Id)(fr:Fr):Fr->Prop
 |nil:CedFr θ fr []
 |cons {k:Nat}{x y:FV}{r:Fr}(h:Fr.get k fr=some y) (hw:y.sub θ=x) (hr:CedFr θ fr r):CedFr θ fr ((k,x)::r)
theorem CedFr.get{θ:Id->Id}{fr fr':Fr}(h:CedFr θ fr fr'):∀d x,Fr.get d fr'=some x->∃y,Fr.get d fr=some y/\WkF (y.sub θ) x:=by
 induction h with
 |nil=>intro d x h;cases h
 |@cons k x y r h hw hr ih=>
  intro d z hz
  simp only[Fr.get]at hz
  by_cases e:k=d
  ·subst e;simp at hz;subst hz;exact⟨y,h,WkF.ofEq hw⟩
  ·rw[Q09 e]at hz;exact ih d z hz
end Go.Abs
namespace Go.Proofs.YthboaankaaeemaaDoor
open Go Go.Abs Go.CoreX
variable {Γ:List (Nat×List AC)}
theorem Qme(hΓ:∀g cs,(g,cs)∈Γ->idsL isO cs)(t:Tr)(ht:okT t)(hsz:(listT [] t).length<=1099511627776):APure Tryd.prog Γ 37 [.one (.box (cTr t))] (.one (.sl 5 ((listT [] t).map cEx))):=by
 intro ou
 refine AFn.walk 10 tabOk Tryd.func37 rfl (by kernel_rfl) rfl rfl fun hou=>?_
 iterate 22 (first|((with_reducible refine oj ?_);refine zau ?_)|(with_reducible refine zst ?_)|((with_reducible refine Q0s ?_ ?_);rfl)|(with_reducible refine ok ?_;first|refine ACode.condT rfl ?_|refine ACode.condF rfl ?_))
 refine ACode.grow 0 0 69 5 rfl rfl ?_
 refine zA ?_
 refine AOps.cede 0 (show 0 < 3 by omega) fun ko hko=>⟨[(7,.one (.box (cTr t))),(6,.one (.fn (.func 69) [] [.ptr (.l 1) 0,.ptr (.o ko) 0])),(3,.one (.ptr (.o ko) 0))],
  ⟨3, [(2, .tok 69 5 0), (1, .cells [.fn (.func 69) [] [.ptr (.l 1) 0, .ptr (.o ko) 0]])], updO ou ko (.cells [.gs 5 [] (.l 2)])⟩, ⟨CedFr.get ?_, rfl, fun i x hx => ?_⟩, ?_⟩
 ·exact .cons rfl (FV.sub_o _ (by simp)) (.cons rfl rfl (.cons rfl rfl .nil))
 ·have hko:ou ko=none:=hko
  cases i with
  |l m=>
   by_cases e:2=m
   ·subst e;cases hx;exact⟨.l 2,_,rfl,rfl,rfl⟩
   ·have hx':lookL m [(1,AObj.cells [.fn (.func 69) [] [.ptr (.l 1) 0,.ptr (.o ko) 0]])]=some x:=by simpa[St.get,lookL,Q09 e]using hx
    by_cases e1:1=m
    ·subst e1;cases hx';exact⟨.l 1,_,rfl,rfl,rfl⟩
    ·simp[lookL,Q09 e1]at hx'
  |o m=>
   have hx':updO ou ko (.cells [.gs 5 [] (.l 2)]) m=some x:=hx
   by_cases e:ko=m
   ·subst e;rw[Q04]at hx';cases hx';exact⟨.l 0,_,rfl,rfl,rfl⟩
   ·rw[Q05 _ e]at hx'
    exact⟨.o m,x,hx',rfl,(AObj.sub_o x (hou m x hx')).symm⟩
 have hko:ou ko=none:=hko
 refine AOps.cede 1 (show 1 < 3 by omega) fun kw hkw=>⟨[(7,.one (.box (cTr t))),(6,.one (fnW kw ko)),(3,.one (.ptr (.o ko) 0))],
  ⟨3, [(2, .tok 69 5 0)], updO (updO ou ko (.cells [.gs 5 [] (.l 2)])) kw (.cells [fnW kw ko])⟩, ⟨CedFr.get ?_, rfl, fun i x hx => ?_⟩, ?_⟩
 ·exact .cons rfl (FV.sub_o _ (by simp)) (.cons rfl rfl (.cons rfl rfl .nil))
 ·have hkw:updO ou ko (.cells [.gs 5 [] (.l 2)]) kw=none:=hkw
  cases i with
  |l m=>
   by_cases e:2=m
   ·subst e;cases hx;exact⟨.l 2,_,rfl,rfl,rfl⟩
   ·simp[St.get,lookL,Q09 e]at hx
  |o m=>
   have hx':updO (updO ou ko (.cells [.gs 5 [] (.l 2)])) kw (.cells [fnW kw ko]) m=some x:=hx
   by_cases e:kw=m
   ·subst e;rw[Q04]at hx';cases hx';exact⟨.l 1,_,rfl,rfl,rfl⟩
   ·rw[Q05 _ e]at hx'
    by_cases e2:ko=m
    ·subst e2;rw[Q04]at hx';cases hx'
     exact⟨.o ko,_,Q04 _ _ _,rfl,rfl⟩
    ·have hx2:=hx'
     rw[Q05 _ e2]at hx2
     exact⟨.o m,x,hx',rfl,(AObj.sub_o x (hou m x hx2)).symm⟩
 have hkw:updO ou ko (.cells [.gs 5 [] (.l 2)]) kw=none:=hkw
 have hwo:ko≠kw:=fun e=>by subst e;rw[Q04]at hkw;cases hkw
 rw[Q05 _ hwo]at hkw
 refine AOps.cede 2 (show 2 < 3 by omega) fun kt hkt=>⟨[(7,.one (.box (cTr t))),(6,.one (fnW kw ko)),(3,.one (.ptr (.o ko) 0))],
  ⟨3, [], ouS (updO ou kw (.cells [fnW kw ko])) ko kt (([] : List Ex).map cEx)⟩, ⟨CedFr.get ?_, rfl, fun i x hx => ?_⟩, ?_⟩
 ·exact .cons rfl (FV.sub_o _ (by simp)) (.cons rfl rfl (.cons rfl rfl .nil))
 ·have hkt:updO (updO ou ko (.cells [.gs 5 [] (.l 2)])) kw (.cells [fnW kw ko]) kt=none:=hkt
  have hkto:ko≠kt:=fun e=>by subst e;rw[Q05 _ (Ne.symm hwo),Q04]at hkt;cases hkt
  cases i with
  |l m=>cases hx
  |o m=>
   have hx':ouS (updO ou kw (.cells [fnW kw ko])) ko kt (([]:List Ex).map cEx) m=some x:=hx
   by_cases e:m=kt
   ·subst e;rw[ouS_t]at hx';cases hx';exact⟨.l 2,_,rfl,rfl,rfl⟩
   ·by_cases e2:m=ko
    ·subst e2;rw[ouS_o hkto]at hx';cases hx'
     refine⟨.o m,.cells [.gs 5 [] (.l 2)],?_,rfl,rfl⟩
     show updO (updO ou m (.cells [.gs 5 [] (.l 2)])) kw (.cells [fnW kw m]) m=_
     rw[Q05 _ (Ne.symm hwo),Q04]
    ·rw[ouS_w e2 e]at hx'
     by_cases e3:kw=m
     ·subst e3;rw[Q04]at hx';cases hx'
      exact⟨.o kw,_,Q04 _ _ _,rfl,rfl⟩
     ·rw[Q05 _ e3]at hx'
      refine⟨.o m,x,?_,rfl,(AObj.sub_o x (hou m x hx')).symm⟩
      show updO (updO ou ko (.cells [.gs 5 [] (.l 2)])) kw (.cells [fnW kw ko]) m=_
      rw[Q05 _ e3,Q05 _ (Ne.symm e2)];exact hx'
 have hkt:updO (updO ou ko (.cells [.gs 5 [] (.l 2)])) kw (.cells [fnW kw ko]) kt=none:=hkt
 have hwt:kw≠kt:=fun e=>by subst e;rw[Q04]at hkt;cases hkt
 rw[Q05 _ hwt]at hkt
 have hot:ko≠kt:=fun e=>by subst e;rw[Q04]at hkt;cases hkt
 rw[Q05 _ hot]at hkt
 have hob:OuOk (updO ou kw (.cells [fnW kw ko])):=fun k o hk=>by
  by_cases e:kw=k
  ·subst e;rw[Q04]at hk;cases hk;simp
  ·rw[Q05 _ e]at hk;exact hou k o hk
 have hcall:=Qfd hΓ t ht (updO ou kw (.cells [fnW kw ko])) kw ko kt [] hob (Q04 _ _ _) (by rw[Q05 _ (Ne.symm hwo)];exact hko) (by rw[Q05 _ hwt];exact hkt) hot hsz
 refine AOps.call1 hΓ rfl rfl rfl rfl rfl rfl rfl (by simp) (Q51 hob (by simp)) hcall fun r ou' hq hids hou'=>?_
 obtain⟨rfl,kt',h1,h2,rfl⟩:=hq
 refine zA ?_
 refine zS (zLD rfl rfl (ouS_o h2 _) rfl) ?_
 refine AOps.wk 9 rfl (y:=.one (.sl 5 ((listT [] t).map cEx))) (.one (.gsE rfl)) ?_
 refine AOps.lessO ⟨3,[],ou⟩ rfl (fun i o ho=>?_) ?_
 ·cases i with
  |l m=>cases ho
  |o m=>
   have ho':ou m=some o:=ho
   show ouS (updO ou kw (.cells [fnW kw ko])) ko kt' _ m=some o
   have e1:m≠ko:=fun e=>by rw[e,hko]at ho';cases ho'
   have e2:kw≠m:=fun e=>by rw[←e,hkw]at ho';cases ho'
   have e3:m≠kt':=fun e=>by
    rw[←e,Q05 _ e2]at h1
    rw[h1]at ho';cases ho'
   rw[ouS_w e1 e3,Q05 _ e2];exact ho'
 refine zA ?_
 exact APure.fin rfl (WkF.ofEq rfl) (by simp) hou rfl
theorem Qk1(hΓ:∀g cs,(g,cs)∈Γ->idsL isO cs)(t:Tr)(ht:okT t)(hsz:(listT [] t).length<=1048576):APure Tryd.prog Γ 37 [.one (.box (cTr t))] (.one (.sl 5 ((listT [] t).map cEx))):=Qme hΓ t ht (by omega)
end Go.Proofs.YthboaankaaeemaaDoor
namespace Go.CoreX
def addB (β:Int->Int)(l:List Int):Int->Int:=fun k=>β k+l.count k
-- What occurs freely, by how often each is bound around.
mutual
def occB (β:Int->Int):Tr->List Int
 |.mk o n b k a=>(if o=0/\β n=0 then [n]else [])++occBs β o b a 0 k
def occBs (β:Int->Int)(o:Int)(b:List Int)(a:List Alt):Nat->List Tr->List Int
 |_,[]=>[]
 |i,t::ts=>occB (addB β (Q1c o b a i)) t++occBs β o b a (i+1) ts
end
theorem Q9u(β:Int->Int)(o:Int)(b:List Int)(a:List Alt)(t:Tr):∀(l:List Tr)(i:Nat),occBs β o b a i (l++[t])=occBs β o b a i l++occB (addB β (Q1c o b a (i+l.length:Nat))) t
 |[],i=>by simp[occBs]
 |x::l,i=>by
  simp only[List.cons_append,occBs,Q9u β o b a t l (i+1),List.append_assoc,List.length_cons]
  rw[show i+1+l.length=i+(l.length+1) by omega]
theorem mx_le(m:Int):∀l:List Int,m<=l.foldl mx m
 |[]=>by simp
 |d::l=>by
  have:=mx_le (mx m d) l
  have:m<=mx m d:=by unfold mx;split <;> omega
  simp only[List.foldl_cons];omega
theorem mx_mem:∀(l:List Int)(m d:Int),d∈l->d<=l.foldl mx m
 |x::l,m,d,h=>by
  simp only[List.foldl_cons]
  rcases List.mem_cons.1 h with rfl|h
  ·have h1:=mx_le (mx m d) l
   have:d<=mx m d:=by unfold mx;split <;> omega
   omega
  ·exact mx_mem l _ d h
theorem Qjl{o n:Int}{b:List Int}{ks:List Tr}{a:List Alt}{t:Tr}(h:t∈ks):Q25 t+1<=Q25 (.mk o n b ks a):=by
 simp only[Q25,Q6s]
 have:=mx_mem (ks.map Q25) 0 (Q25 t) (List.mem_map_of_mem h)
 omega
theorem Qcw:∀t:Tr,1<=Q25 t
 |.mk o n b ks a=>by
  simp only[Q25]
  have:=mx_le 0 (Q4m ks)
  omega
end Go.CoreX
namespace Go.Proofs.YthboaankaaeemaaDoor
open Go Go.Abs Go.CoreX
variable {Γ:List (Nat×List AC)}
def BIs (β:Int->Int)(ck:Nat)(l:List (Nat×Int×Int)):Prop:=∃f,IMOk f ck l/\∀k,(f k).getD 0=β k
theorem BIs.put{β:Int->Int}{f:Int->Option Int}(hf:∀k,(f k).getD 0=β k)(n v:Int):∀k,(setF f n v k).getD 0=if n=k then v else β k:=fun k=>by
 unfold setF
 by_cases e:n=k
 ·rw[if_pos e,if_pos e];rfl
 ·rw[if_neg e,if_neg e];exact hf k
def ouB (cb:Nat)(lb:List (Nat×Int×Int))(co:Nat)(lo:List (Nat×Int×Unit)):Outer:=ouOf [.map cb (encI eN lb),.map co (encI eU lo)]
theorem Q7x(cb:Nat)(lb:List (Nat×Int×Int))(co:Nat)(lo:List (Nat×Int×Unit)):OuOk (ouB cb lb co lo):=by
 intro k o h
 match k,h with
 |0,h=>cases h;exact Q5s _ _ _
 |1,h=>cases h;exact Qfm _ _ _
 |k+2,h=>cases h
theorem Q7a(cb cb':Nat)(lb lb':List (Nat×Int×Int))(co:Nat)(lo:List (Nat×Int×Unit)):(fun j=>bif Nat.beq j 0 then some (AObj.map cb' (encI eN lb'))else ouB cb lb co lo j)=ouB cb' lb' co lo:=by
 funext j
 match j with
 |0=>rfl
 |1=>rfl
 |k+2=>rfl
theorem Qex(cb:Nat)(lb:List (Nat×Int×Int))(co co':Nat)(lo lo':List (Nat×Int×Unit)):(fun j=>bif Nat.beq j 1 then some (AObj.map co' (encI eU lo'))else ouB cb lb co lo j)=ouB cb lb co' lo':=by
 funext j
 match j with
 |0=>rfl
 |1=>rfl
 |k+2=>rfl
def FreeOk (Γ:List (Nat×List AC))(t:Tr):Prop:=∀(β:Int->Int)(m:Int)(cb:Nat)(lb:List (Nat×Int×Int))(co:Nat)(lo:List (Nat×Int×Unit))(S:List Int),(∀k,0<=β k/\β k<=m)->m+Q25 t * 1048576<=4611686018427387904->BIs β cb lb->SetIs S co lo->
 AFn Tryd.prog Γ 100 [.one (.box (cTr t)),.one (.mp (.o 0)),.one (.mp (.o 1))] (ouB cb lb co lo) (fun r ou'=>r=.tup []/\∃cb' lb' co' lo',ou'=ouB cb' lb' co' lo'/\BIs β cb' lb'/\SetIs (S++occB β t) co' lo')
theorem Qh6{o:Int}{b:List Int}{a:List Alt}{k:Int}(hb:b.length<=1048576)(ha:∀x∈a,x.binds.length<=1048576):(Q1c o b a k).length<=1048576:=by
 unfold Q1c
 split
 ·exact hb
 ·split
  ·rename_i h1 h2
   obtain⟨x,hx⟩:=Q00 (l:=a) (i:=(k - 1).toNat) (by omega)
   rw[List.getD_eq_getElem?_getD,hx]
   exact ha x (List.mem_of_getElem? hx)
  ·simp
theorem Qju{β:Int->Int}{l:List Int}{j:Nat}{n:Int}(h:l[j]?=some n)(k:Int):addB β (l.take (j+1)) k=if n=k then addB β (l.take j) n+1 else addB β (l.take j) k:=by
 unfold addB
 rw[Q0o h,List.count_append]
 by_cases e:n=k
 ·subst e;simp;omega
 ·rw[if_neg e]
  have:[n].count k=0:=by simp[List.count_cons,e]
  omega
theorem Qjv{β:Int->Int}{l:List Int}{j:Nat}{n:Int}(h:l[j]?=some n)(k:Int):addB β (l.drop (j+1)) k=if n=k then addB β (l.drop j) n - 1 else addB β (l.drop j) k:=by
 have hd:l.drop j=n::l.drop (j+1):=by
  obtain⟨h1,h2⟩:=List.getElem?_eq_some_iff.1 h
  rw[List.drop_eq_getElem_cons h1,h2]
 unfold addB
 rw[hd,List.count_cons,List.count_cons]
 by_cases e:n=k
 ·subst e;simp;omega
 ·rw[if_neg e]
  have:(n==k)=false:=by simpa using e
  rw[this];simp
theorem Qe4{β:Int->Int}{l:List Int}{m:Int}(h:∀k,0<=β k/\β k<=m)(hl:l.length<=1048576)(k:Int):0<=addB β l k/\addB β l k<=m+1048576:=by
 have h1:=h k
 have h2:=List.count_le_length (a:=k) (l:=l)
 unfold addB;omega
set_option maxHeartbeats 1000000 in
theorem Qjg(hΓ:∀g cs,(g,cs)∈Γ->idsL isO cs):∀t:Tr,okT t->FreeOk Γ t
 |.mk o n b ks a,hok=>by
  obtain⟨hb,hk,ha,⟨hab,_⟩,hks⟩:=hok
  have ih:∀t∈ks,FreeOk Γ t:=fun t ht=>Qjg hΓ t (Q5p.1 hks t ht)
  intro β m cb lb co lo S hβ hd ⟨f,hf,hfb⟩ ⟨g,hg,hgs⟩
  refine AFn.walk 73 tabOk Tryd.func100 rfl (by kernel_rfl) rfl rfl fun hou=>?_
  iterate 1 (first|((with_reducible refine oj ?_);refine zau ?_)|(with_reducible refine zst ?_)|((with_reducible refine Q0s ?_ ?_);rfl)|(with_reducible refine ok ?_;first|refine ACode.condT rfl ?_|refine ACode.condF rfl ?_))
  refine ACode.cutR hΓ (α:=Nat×List (Nat×Int×Unit)) (fun _=>[(2,.one (.mp (.o 1))),(1,.one (.mp (.o 0))),(0,.one (.box (cTr (.mk o n b ks a))))])
   (fun c => ⟨0, [], ouB cb lb c.1 c.2⟩) (fun c => SetIs (S ++ if o = 0 /\ β n = 0 then [n] else []) c.1 c.2) ?_ fun c hc => ?_
  ·by_cases ho:o=0
   ·subst ho
    repeat' first|refine zN ?_|(with_reducible refine oj ?_;refine AOps.splitS rfl rfl rfl rfl (fun hb=>?_) (fun hb=>?_))|(with_reducible refine ok ?_;first|refine ACode.condS rfl (fun hb=>?_) (fun hb=>?_)|refine ACode.cond rfl (fun hb=>?_) (fun hb=>?_))
    all_goals first
     |(exfalso;simp at hb;done)
     |skip
    refine zS (AStep.lookI eN (cm:=false) (v:=.one (int (β n))) rfl Tryd.underlying98 Tryd.underlying3 rfl rfl rfl (by kernel_rfl) zeroN hf (by simp only[Tr.n_mk];rw[←hfb n];cases f n <;> rfl)) ?_
    refine zA ?_
    refine ACode.cond rfl (fun hb=>?_) (fun hb=>?_)
    ·have h0:β n=0:=by simpa using hb
     refine zA ?_
     refine zS (AStep.buildU rfl Tryd.underlying164 (by kernel_rfl)) ?_
     refine AOps.putI eU (v:=()) rfl rfl rfl Tryd.underlying163 Tryd.underlying3 rfl rfl rfl rfl hg fun ck' l' hf'=>?_
     refine zA ?_
     exact cInv ⟨(ck',l'),id,⟨_,hf',by rw[if_pos ⟨rfl,h0⟩];exact Qdb hgs n⟩,LessR.of rfl zFS (by simp) .nil rfl (Qex cb lb co ck' lo l').symm (by rw[show (St.set ⟨0,[],ouB cb lb co lo⟩ (.o 1) (.map ck' (encI eU l'))).ou=ouB cb lb ck' l' from Qex cb lb co ck' lo l'];exact Q7x _ _ _ _)⟩
    ·have h0:¬β n=0:=by simpa using hb
     refine zA ?_
     exact cInv ⟨(co,lo),id,⟨g,hg,by rw[if_neg (fun h=>h0 h.2)];simpa using hgs⟩,LessR.of rfl zFS (by simp) .nil rfl rfl hou⟩
   ·have hcd:((Tr.mk o n b ks a).op==0)=false:=by simpa using ho
    repeat' first|refine zN ?_|(with_reducible refine oj ?_;refine AOps.splitS rfl rfl rfl rfl (fun hb=>?_) (fun hb=>?_))|(with_reducible refine ok ?_;first|refine ACode.condS rfl (fun hb=>?_) (fun hb=>?_)|refine ACode.cond rfl (fun hb=>?_) (fun hb=>?_))
    all_goals first
     |(exfalso;rw[hcd]at hb;cases hb;done)
     |exact cInv ⟨(co,lo),id,⟨g,hg,by rw[if_neg (fun h=>ho h.1)];simpa using hgs⟩,LessR.of rfl zFS (by simp) .nil rfl rfl hou⟩
  ·obtain⟨co,lo⟩:=c
   simp only at hc
   clear hgs hg g hou
   have hou:OuOk (ouB cb lb co lo):=Q7x _ _ _ _
   refine zA ?_
   refine ACode.loopR hΓ (α:=Nat×(Nat×List (Nat×Int×Int))×(Nat×List (Nat×Int×Unit))) (fun c=>[(38,.one (int c.1)),(37,.one (int (Q24 ks).length)),(36,.one (.sl 1 (Q24 ks))),(2,.one (.mp (.o 1))),(1,.one (.mp (.o 0))),(0,.one (.box (cTr (.mk o n b ks a))))])
    (fun c=>⟨0,[],ouB c.2.1.1 c.2.1.2 c.2.2.1 c.2.2.2⟩) (fun m c=>c.1<=ks.length/\BIs β c.2.1.1 c.2.1.2/\SetIs (S++(if o=0/\β n=0 then [n]else [])++occBs β o b a 0 (ks.take c.1)) c.2.2.1 c.2.2.2/\m=ks.length - c.1)
    (a0:=(0,(cb,lb),(co,lo))) (ρ:=id) ⟨by omega,⟨f,hf,hfb⟩,by simpa[occBs]using hc,rfl⟩ (LessR.of rfl zFS (by simp) .nil rfl rfl hou) fun m' c hi=>?_
   clear hc hf hfb f hou
   obtain⟨i,⟨cb,lb⟩,co,lo⟩:=c
   obtain⟨hil,hB,hS,rfl⟩:=hi
   simp only at hil hB hS
   have hou:OuOk (ouB cb lb co lo):=Q7x _ _ _ _
   refine zA ?_
   refine ACode.cond rfl (fun hb2=>?_) (fun hb2=>?_)
   ·have hlt:i < ks.length:=by simpa using hb2
    obtain⟨t,ht⟩:=Q00 hlt
    have htm:=List.mem_of_getElem? ht
    have hbn:=Qmi hΓ (.mk o n b ks a) (i:Int) (by omega) ha
    have hll:=Qh6 (o:=o) (k:=(i:Int)) hb hab
    have hsn:=Q9u β o b a t (ks.take i) 0
    rw[←Q0o ht]at hsn
    have hmin:(ks.take i).length=i:=by simp;omega
    rw[hmin,Nat.zero_add]at hsn
    simp only[Tr.op_mk,Tr.binds_mk,Tr.alts_mk]at hbn
    generalize Q1c o b a (i:Int)=l at hbn hll hsn
    have hdk:=Qjl (o:=o) (n:=n) (b:=b) (a:=a) htm
    refine zA ?_
    refine zS (zIA rfl rfl rfl (by omega) (Qaa ht)) ?_
    refine zA ?_
    refine zca hΓ hbn hou ?_
    refine zA ?_
    refine ACode.loopR hΓ (α:=Nat×Nat×List (Nat×Int×Int)) (fun c=>[(48,.one (int c.1)),(47,.one (int (l.map cI).length)),(46,.one (.sl 1 (l.map cI))),(8,.one (.sl 1 (l.map cI))),(7,.one (.box (cTr t))),(38,.one (int i)),(37,.one (int (Q24 ks).length)),(36,.one (.sl 1 (Q24 ks))),(2,.one (.mp (.o 1))),(1,.one (.mp (.o 0))),(0,.one (.box (cTr (.mk o n b ks a))))])
     (fun c=>⟨0,[],ouB c.2.1 c.2.2 co lo⟩) (fun m c=>c.1<=l.length/\BIs (addB β (l.take c.1)) c.2.1 c.2.2/\m=l.length - c.1) (a0:=(0,cb,lb)) (ρ:=id) ⟨by omega,by simpa[BIs,addB]using hB,rfl⟩ (LessR.of rfl zFS (by simp) .nil rfl rfl hou) fun m' c hj=>?_
    clear hB hou
    obtain⟨j,cb,lb⟩:=c
    obtain⟨hjl,⟨f,hf,hfb⟩,rfl⟩:=hj
    simp only at hjl hf hfb
    have hou:OuOk (ouB cb lb co lo):=Q7x _ _ _ _
    refine zA ?_
    refine ACode.cond rfl (fun hb3=>?_) (fun hb3=>?_)
    ·have hlt2:j < l.length:=by simpa using hb3
     obtain⟨q,hq⟩:=Q00 hlt2
     have hv:=Qe4 (l:=l.take j) hβ (by simp;omega) q
     have hdp:=Qcw t
     refine zA ?_
     refine zS (zIA rfl rfl rfl (by omega) (Q0c hq)) ?_
     refine zA ?_
     refine zS (AStep.lookI eN (cm:=false) (v:=.one (int (addB β (l.take j) q))) rfl Tryd.underlying98 Tryd.underlying3 rfl rfl rfl (by kernel_rfl) zeroN hf (by rw[←hfb q];cases f q <;> rfl)) ?_
     refine zS (AStep.arith rfl rfl rfl (.inl ⟨rfl,rfl⟩) zI) ?_
     refine AOps.putI eN (v:=addB β (l.take j) q+1) rfl rfl rfl Tryd.underlying98 Tryd.underlying3 rfl rfl rfl rfl hf fun ck' l' hf'=>?_
     refine zM ?_
     refine cInv ⟨l.length - (j+1),(j+1,ck',l'),id,by omega,⟨by omega,⟨_,hf',fun k=>?_⟩,rfl⟩,LessR.of rfl zFS (by simp) .nil rfl (Q7a cb ck' lb l' co lo).symm (by rw[show (St.set ⟨0,[],ouB cb lb co lo⟩ (.o 0) (.map ck' (encI eN l'))).ou=ouB ck' l' co lo from Q7a cb ck' lb l' co lo];exact Q7x _ _ _ _)⟩
     rw[BIs.put hfb,Qju hq]
    have hlt2:j=l.length:=by simp at hb3;omega
    subst hlt2
    rw[List.take_length]at hfb
    have hcall:=ih t htm (addB β l) (m+1048576) cb lb co lo (S++(if o=0/\β n=0 then [n]else [])++occBs β o b a 0 (ks.take i)) (Qe4 hβ hll) (by omega) ⟨f,hf,hfb⟩ hS
    clear hf hfb f
    refine zA ?_
    refine AOps.call1 hΓ rfl rfl rfl rfl rfl rfl rfl (by simp) hou hcall fun r ou' hq hids hou'=>?_
    obtain⟨rfl,cb,lb,co,lo,rfl,hB,hS2⟩:=hq
    rw[List.append_assoc,←hsn]at hS2
    refine zA ?_
    refine ACode.loopR hΓ (α:=Nat×Nat×List (Nat×Int×Int)) (fun c=>[(63,.one (int c.1)),(62,.one (int (l.map cI).length)),(61,.one (.sl 1 (l.map cI))),(38,.one (int i)),(37,.one (int (Q24 ks).length)),(36,.one (.sl 1 (Q24 ks))),(2,.one (.mp (.o 1))),(1,.one (.mp (.o 0))),(0,.one (.box (cTr (.mk o n b ks a))))])
     (fun c=>⟨0,[],ouB c.2.1 c.2.2 co lo⟩) (fun m c=>c.1<=l.length/\BIs (addB β (l.drop c.1)) c.2.1 c.2.2/\m=l.length - c.1) (a0:=(0,cb,lb)) (ρ:=id) ⟨by omega,by simpa using hB,rfl⟩ (LessR.of rfl zFS (by simp) .nil rfl rfl hou') fun m' c hj=>?_
    clear hB hou hou'
    obtain⟨j,cb,lb⟩:=c
    obtain⟨hjl,⟨f,hf,hfb⟩,rfl⟩:=hj
    simp only at hjl hf hfb
    have hou:OuOk (ouB cb lb co lo):=Q7x _ _ _ _
    refine zA ?_
    refine ACode.cond rfl (fun hb4=>?_) (fun hb4=>?_)
    ·have hlt2:j < l.length:=by simpa using hb4
     obtain⟨q,hq⟩:=Q00 hlt2
     have hv:=Qe4 (l:=l.drop j) hβ (by simp;omega) q
     have hdp:=Qcw t
     refine zA ?_
     refine zS (zIA rfl rfl rfl (by omega) (Q0c hq)) ?_
     refine zA ?_
     refine zS (AStep.lookI eN (cm:=false) (v:=.one (int (addB β (l.drop j) q))) rfl Tryd.underlying98 Tryd.underlying3 rfl rfl rfl (by kernel_rfl) zeroN hf (by rw[←hfb q];cases f q <;> rfl)) ?_
     refine zS (AStep.arith rfl rfl rfl (.inr (.inl ⟨rfl,rfl⟩)) zI) ?_
     refine AOps.putI eN (v:=addB β (l.drop j) q - 1) rfl rfl rfl Tryd.underlying98 Tryd.underlying3 rfl rfl rfl rfl hf fun ck' l' hf'=>?_
     refine zM ?_
     refine cInv ⟨l.length - (j+1),(j+1,ck',l'),id,by omega,⟨by omega,⟨_,hf',fun k=>?_⟩,rfl⟩,LessR.of rfl zFS (by simp) .nil rfl (Q7a cb ck' lb l' co lo).symm (by rw[show (St.set ⟨0,[],ouB cb lb co lo⟩ (.o 0) (.map ck' (encI eN l'))).ou=ouB ck' l' co lo from Q7a cb ck' lb l' co lo];exact Q7x _ _ _ _)⟩
     rw[BIs.put hfb,Qjv hq]
    ·have hlt2:j=l.length:=by simp at hb4;omega
     subst hlt2
     rw[List.drop_length]at hfb
     refine zM ?_
     exact cInv ⟨ks.length - (i+1),(i+1,(cb,lb),(co,lo)),id,by omega,⟨by omega,⟨f,hf,fun k=>by rw[hfb k];simp[addB]⟩,hS2,rfl⟩,LessR.of rfl zFS (by simp) .nil rfl rfl hou⟩
   ·have hlt:i=ks.length:=by simp at hb2;omega
    subst hlt
    rw[List.take_length,List.append_assoc]at hS
    refine zA ?_
    exact AFn.fin' rfl (WkF.refl _) (by simp) hou ⟨rfl,cb,lb,co,lo,rfl,hB,by simpa only [occB]using hS⟩
end Go.Proofs.YthboaankaaeemaaDoor
namespace Go.CoreX
theorem Q59(n k:Int):∀l:List Int,k∈Q4i n l↔k=n∨k∈l
 | [] => by simp [Q4i]
 |m::l=>by
  simp only[Q4i]
  split
  ·simp
  ·split
   ·rename_i h1 h2
    subst h2
    simp
   ·simp only[List.mem_cons,Q59 n k l]
    constructor
    ·rintro (h|h|h) <;> simp[h]
    ·rintro (h|h|h) <;> simp[h]
theorem Q53(n:Int):∀l:List Int,l.Pairwise (· < ·)->(Q4i n l).Pairwise (· < ·)
 | [], _ => by simp [Q4i]
 |m::l,h=>by
  simp only[List.pairwise_cons]at h
  simp only[Q4i]
  split
  ·rename_i h1
   simp only[List.pairwise_cons,List.mem_cons,forall_eq_or_imp]
   exact⟨⟨h1,fun a ha=>by have:=h.1 a ha;omega⟩,h.1,h.2⟩
  ·split
   ·simp only[List.pairwise_cons];exact h
   ·rename_i h1 h2
    simp only[List.pairwise_cons]
    refine⟨fun a ha=>?_,Q53 n l h.2⟩
    rcases (Q59 n a l).1 ha with rfl|ha
    ·omega
    ·exact h.1 a ha
theorem Q5i(k:Int):∀l:List Int,k∈sortS l↔k∈l
 |[]=>by simp[sortS]
 |n::l=>by
  have ih:=Q5i k l
  unfold sortS at ih ⊢
  rw[List.foldr_cons,Q59,ih,List.mem_cons]
theorem Q4a:∀l:List Int,(sortS l).Pairwise (· < ·)
 |[]=>by simp[sortS]
 |n::l=>by
  have ih:=Q4a l
  unfold sortS at ih ⊢
  rw[List.foldr_cons]
  exact Q53 n _ ih
theorem Q5h:∀{l r:List Int},l.Pairwise (· < ·)->r.Pairwise (· < ·)->(∀k,k∈l↔k∈r)->l=r
 | [], [], _, _, _ => rfl
 | [], b :: r, _, _, h => by have := (h b).2 (by simp); simp at this
 |a::l,[],_,_,h=>by have:=(h a).1 (by simp);simp at this
 |a::l,b::r,hl,hr,h=>by
  simp only[List.pairwise_cons]at hl hr
  have hab:a=b:=by
   have h1:=(h a).1 (by simp)
   have h2:=(h b).2 (by simp)
   rcases List.mem_cons.1 h1 with h1|h1
   ·exact h1
   ·rcases List.mem_cons.1 h2 with h2|h2
    ·exact h2.symm
    ·have:=hr.1 a h1
     have:=hl.1 b h2
     omega
  subst hab
  congr 1
  refine Q5h hl.2 hr.2 fun k=>⟨fun hk=>?_,fun hk=>?_⟩
  ·rcases List.mem_cons.1 ((h k).1 (List.mem_cons_of_mem _ hk))with e|e
   ·have:=hl.1 k hk;omega
   ·exact e
  ·rcases List.mem_cons.1 ((h k).2 (List.mem_cons_of_mem _ hk))with e|e
   ·have:=hr.1 k hk;omega
   ·exact e
theorem sort_eq{keys m:List Int}(hn:keys.Nodup)(h:∀k,k∈keys↔k∈m):(keys.mergeSort fun x y=>decide (x<=y))=sortS m:=by
 have hp:=List.mergeSort_perm keys (fun x y:Int=>decide (x<=y))
 have hs:(keys.mergeSort fun x y=>decide (x<=y)).Pairwise (fun x y=>decide (x<=y)=true):=List.pairwise_mergeSort (fun a b c h1 h2=>by simp only[decide_eq_true_eq]at *;omega) (fun a b=>by simp only[Bool.or_eq_true,decide_eq_true_eq];omega) keys
 have hd:(keys.mergeSort fun x y=>decide (x<=y)).Nodup:=hp.nodup_iff.2 hn
 refine Q5h ?_ (Q4a m) fun k=>?_
 ·have:=hs.and hd
  refine this.imp fun {a b} hab=>?_
  have h1:=of_decide_eq_true hab.1
  have h2:=hab.2
  omega
 ·rw[Q5i,←h k];exact hp.mem_iff
mutual
theorem occ_eq:∀(t:Tr)(sc:List Int)(β:Int->Int),(∀k,β k=0↔sc.contains k=false)->(∀k,0<=β k)->occT sc t=occB β t
 |.mk o n b k a,sc,β,h,h0=>by
  simp only[occT,occB]
  rw[Qik k sc β o b a 0 h h0]
  congr 1
  by_cases e:o=0/\β n=0
  ·rw[if_pos e,if_pos ⟨e.1,(h n).1 e.2⟩]
  ·rw[if_neg e,if_neg (fun h2=>e ⟨h2.1,(h n).2 h2.2⟩)]
theorem Qik:∀(l:List Tr)(sc:List Int)(β:Int->Int)(o:Int)(b:List Int)(a:List Alt)(i:Nat),(∀k,β k=0↔sc.contains k=false)->(∀k,0<=β k)->occTs sc o b a i l=occBs β o b a i l
 | [], _, _, _, _, _, _, _, _ => by simp [occTs, occBs]
 |t::l,sc,β,o,b,a,i,h,h0=>by
  simp only[occTs,occBs]
  rw[Qik l sc β o b a (i+1) h h0,occ_eq t (Q1c o b a i++sc) (addB β (Q1c o b a i)) (fun k=>?_) (fun k=>?_)]
  ·unfold addB
   have h1:=h k
   have h2:=h0 k
   have h3:(Q1c o b a i).count k=0↔(Q1c o b a i).contains k=false:=by
    rw[List.count_eq_zero];simp
   simp only[List.contains_eq_mem,List.mem_append,decide_eq_false_iff_not,not_or]at *
   constructor
   ·intro h4
    exact⟨h3.1 (by omega),h1.1 (by omega)⟩
   ·rintro⟨h4,h5⟩
    have:=h3.2 h4
    have:=h1.2 h5
    omega
  ·unfold addB
   have:=h0 k
   omega
end
theorem Q8i(t:Tr):Q3a t=sortS (occB (fun _=>0) t):=by
 unfold Q3a
 rw[occ_eq t [] (fun _=>0) (fun k=>by simp) (fun k=>by simp)]
end Go.CoreX
namespace Go.CoreX
theorem Qb1{α:Type} [DecidableEq α]:∀{l m:List α},l.Nodup->(∀x∈l,x∈m)->l.length<=m.length
 |[],m,_,_=>by simp
 |a::l,m,hn,h=>by
  simp only[List.nodup_cons]at hn
  have ha:=h a (by simp)
  have:=Qb1 (l:=l) (m:=m.erase a) hn.2 fun x hx=>by
   have hne:x≠a:=fun e=>hn.1 (e▸hx)
   exact (List.mem_erase_of_ne hne).2 (h x (by simp[hx]))
  rw[List.length_erase_of_mem ha]at this
  have:=List.length_pos_of_mem ha
  simp only[List.length_cons];omega
mutual
theorem Qay:∀(t:Tr)(β:Int->Int)(out:List Ex),(occB β t).length+out.length<=(listT out t).length
 |.mk o n b k a,β,out=>by
  have:=Qcc k β o b a 0 out
  simp only[occB,listT,List.length_append,List.length_singleton]
  split <;> simp <;> omega
theorem Qcc:∀(l:List Tr)(β:Int->Int)(o:Int)(b:List Int)(a:List Alt)(i:Nat)(out:List Ex),(occBs β o b a i l).length+out.length<=(Q02 out l).1.length
 |[],_,_,_,_,_,out=>by simp[occBs,Q02]
 |t::l,β,o,b,a,i,out=>by
  have h1:=Qay t (addB β (Q1c o b a i)) out
  have h2:=Qcc l β o b a (i+1) (listT out t)
  simp only[occBs,Q02,List.length_append];omega
end
end Go.CoreX
namespace Go.Proofs.YthboaankaaeemaaDoor
open Go Go.Abs Go.CoreX Go.Sort
variable {Γ:List (Nat×List AC)}
def SortOk:Prop:=∀(blk off cap:Nat)(zs:List Int)(w:World),Holds (Value.int .i64) w blk off zs.toArray->blk < w.heap.size->zs.length < 4611686018427387904->Calls Tryd.prog 101 #[.slice (some ⟨blk,off,none⟩) zs.length cap] w fun e w'=>
 e=.returned (.tuple #[])/\∃n os,w'=grow (putRow (Value.int .i64) (Sort.ahead w n) blk off (zs.mergeSort fun x y=>decide (x<=y)).toArray) os
def Qjz:Prop:=∀w:World,Calls Tryd.prog 101 #[.slice none 0 0] w fun e w'=>e=.returned (.tuple #[])/\w'=w
theorem Q9b(us:Array Value)(w:World):(callFunc 101 us).run Tryd.prog w=.ok (.enter 101 us) w:=by
 have h1:Tryd.prog.funcs[101]?=some Tryd.f101:=Tryd.func101
 simp[callFunc,h1]
 rfl
def leftM (l:List (Nat×Int×Unit))(seen:List Nat):Nat:=(l.filter fun x=>decide (x.1∉seen)).length
theorem Q9x{l:List (Nat×Int×Unit)}{seen:List Nat}{x:Nat×Int×Unit}(hx:x∈l)(hb:x.1∉seen):leftM l (seen++[x.1]) < leftM l seen:=by
 unfold leftM
 induction l with
 |nil=>cases hx
 |cons y l ih=>
  have hmono:∀l:List (Nat×Int×Unit),(l.filter fun z=>decide (z.1∉seen++[x.1])).length<=(l.filter fun z=>decide (z.1∉seen)).length:=fun l=>by
   induction l with
   |nil=>simp
   |cons z l ih=>
    simp only[List.filter_cons]
    split <;> split <;> simp_all <;> omega
  simp only[List.filter_cons]
  rcases List.mem_cons.1 hx with rfl|hx
  ·have:=hmono l
   rw[if_neg (by simp),if_pos (by simpa using hb)]
   simp only[List.length_cons];omega
  ·have:=ih hx
   split <;> split <;> simp_all <;> omega
theorem pair_of{l:List (Nat×Int×Unit)}(hk:(l.map (·.2.1)).Nodup){x y:Nat×Int×Unit}(hx:x∈l)(hy:y∈l)(h:x.2.1=y.2.1):x=y:=by
 induction l with
 |nil=>cases hx
 |cons z l ih=>
  simp only[List.map_cons,List.nodup_cons]at hk
  rcases List.mem_cons.1 hx with e1|h1
  ·rcases List.mem_cons.1 hy with e2|h2
   ·rw[e1,e2]
   ·exact absurd (List.mem_map.2 ⟨y,h2,by rw[←h,e1]⟩:z.2.1∈l.map (·.2.1)) hk.1
  ·rcases List.mem_cons.1 hy with e2|h2
   ·exact absurd (List.mem_map.2 ⟨x,h1,by rw[h,e2]⟩:z.2.1∈l.map (·.2.1)) hk.1
   ·exact ih hk.2 h1 h2
theorem Q9z{l zs:List (Nat×Int×Unit)}(hk:(l.map (·.2.1)).Nodup):∀{zs:List (Nat×Int×Unit)},(∀x∈zs,x∈l)->(zs.map (·.1)).Nodup->(zs.map (·.2.1)).Nodup
 |[],_,_=>by simp
 |x::zs,h,hn=>by
  simp only[List.map_cons,List.nodup_cons]at hn ⊢
  refine⟨fun hm=>?_,Q9z (zs:=zs) hk (fun y hy=>h y (by simp[hy])) hn.2⟩
  obtain⟨y,hy,e⟩:=List.mem_map.1 hm
  have:=pair_of hk (h x (by simp)) (h y (by simp[hy])) e.symm
  exact hn.1 (List.mem_map.2 ⟨y,hy,by rw[this]⟩)
@[simp] theorem Q7b (p : Abs.Id -> Prop) (l : List Int) (cap : Nat) : idsL p (vec 1 (l.map cI) cap) := by
 unfold vec
 have e:(l.map cI).flatten=l.map int:=by
  induction l with
  |nil=>rfl
  |cons n l ih=>simp only[List.map_cons,List.flatten_cons,ih];rfl
 rw[e]
 refine Q5v (Qbc p l) ?_
 generalize (cap - (l.map cI).length) * 1=q
 induction q with
 |zero=>simp
 |succ q ih=>rw[List.replicate_succ];exact⟨trivial,ih⟩
@[simp] theorem Qkc (θ:Abs.Id->Abs.Id) (ck:Nat) (l:List (Nat×Int×Unit)):AObj.sub θ (.map ck (encI eU l))=.map ck (encI eU l):=by
 simp[AObj.sub,encI,eU,FV.sub,subL,Function.comp_def]
theorem Qct{β:Type}{enc:β->FV}{f:Int->Option β}{ck:Nat}{l:List (Nat×Int×β)}(h:IMOk f ck l):∀x∈encI enc l,x.1 < ck:=fun x hx=>by
 simp only[encI,List.mem_map]at hx
 obtain⟨y,hy,rfl⟩:=hx
 exact h.born y hy
theorem Qfx{β:Type}{enc:β->FV}{l:List (Nat×Int×β)}:∀x∈encI enc l,x.2.1.oneCell'=true:=fun x hx=>by
 simp only[encI,List.mem_map]at hx
 obtain⟨y,hy,rfl⟩:=hx
 rfl
theorem Q8o{β:Type}{enc:β->FV}:∀{l:List (Nat×Int×β)}{x:Nat×Int×β},(l.map (·.1)).Nodup->x∈l->(encI enc l).find? (fun y=>y.1==x.1)=some (x.1,.int .i64 x.2.1,enc x.2.2)
 |y::l,x,hn,hx=>by
  simp only[List.map_cons,List.nodup_cons]at hn
  rcases List.mem_cons.1 hx with rfl|h
  ·simp[encI]
  ·have hne:y.1≠x.1:=fun e=>hn.1 (List.mem_map.2 ⟨_,h,e.symm⟩)
   have:=Q8o (enc:=enc) hn.2 h
   simp only[encI,List.map_cons,List.find?_cons]at this ⊢
   rw[beq_eq_false_iff_ne.2 hne]
   exact this
theorem Qjn{l:List (Nat×Int×Unit)}(hk:(l.map (·.1)).Nodup){x y:Nat×Int×Unit}(hx:x∈l)(hy:y∈l)(h:x.1=y.1):x=y:=by
 induction l with
 |nil=>cases hx
 |cons z l ih=>
  simp only[List.map_cons,List.nodup_cons]at hk
  rcases List.mem_cons.1 hx with e1|h1
  ·rcases List.mem_cons.1 hy with e2|h2
   ·rw[e1,e2]
   ·exact absurd (List.mem_map.2 ⟨y,h2,by rw[←h,e1]⟩:z.1∈l.map (·.1)) hk.1
  ·rcases List.mem_cons.1 hy with e2|h2
   ·exact absurd (List.mem_map.2 ⟨x,h1,by rw[h,e2]⟩:z.1∈l.map (·.1)) hk.1
   ·exact ih hk.2 h1 h2
theorem Qfh{f:Int->Option Unit}{ck:Nat}{l:List (Nat×Int×Unit)}(h:IMOk f ck l)(k:Int):(f k).isSome=true↔∃x∈l,x.2.1=k:=by
 rw[←h.look k]
 cases hf:l.find? (fun x=>x.2.1==k) with
 |none=>
  simp only[Option.map_none,Option.isSome_none,Bool.false_eq_true,false_iff]
  rintro⟨x,hx,e⟩
  have:=List.find?_eq_none.1 hf x hx
  simp[e]at this
 |some x=>
  simp only[Option.map_some,Option.isSome_some,true_iff]
  have h1:=List.find?_some hf
  exact⟨x,List.mem_of_find?_eq_some hf,by simpa using h1⟩
def keyL (zs:List (Nat×Int×Unit)):List Int:=zs.map (·.2.1)
def bornL (zs:List (Nat×Int×Unit)):List Nat:=zs.map (·.1)
set_option maxHeartbeats 1000000 in
theorem Qk3(hΓ:∀g cs,(g,cs)∈Γ->idsL isO cs)(hΓF:∀g cs,(g,cs)∈Γ->idsL (fun _=>False) cs)(hs:SortOk)(hn:Qjz)(t:Tr)(ht:okT t)(hd:Q25 t<=1048576)(hsz:(listT [] t).length<=1048576):
  APure Tryd.prog Γ 83 [.one (.box (cTr t))] (.one (.sl 1 ((Q3a t).map cI))):=by
 intro ou
 refine AFn.walk 24 tabOk Tryd.func83 rfl (by kernel_rfl) rfl rfl fun hou=>?_
 refine zA ?_
 refine zS (AStep.makeMap rfl) ?_
 refine zA ?_
 refine zS (AStep.makeMap rfl) ?_
 refine zA ?_
 refine AOps.callR [.l 1,.l 0] [.one (.box (cTr t)),.one (.mp (.o 0)),.one (.mp (.o 1))] [.map 0 (encI eN []),.map 0 (encI eU [])] hΓF rfl rfl rfl rfl rfl rfl ?_ ?_ ?_ ?_ ?_ (Qjg hΓ t ht (fun _=>0) 0 0 [] 0 [] [] (fun k=>by simp) (by omega) ⟨_,IMOk.nil,fun k=>rfl⟩ SetIs.nil) ?_
 ·simp[subF,FV.sub,AC.sub,nameOf]
  exact⟨(Q34 _ _ (by simp)).symm,rfl⟩
 ·simp[inO]
 ·simp
 ·exact⟨rfl,rfl,trivial⟩
 ·simp[inO]
 intro r ou' hq
 obtain⟨rfl,cb,lb,co,lo,rfl,hB,g,hg,hgs⟩:=hq
 rw[List.nil_append]at hgs
 refine⟨[.map cb (encI eN lb),.map co (encI eU lo)],rfl,rfl,by simp[inO],by simp,?_⟩
 refine zA ?_
 refine zS (AStep.rangeMap rfl Tryd.underlying163 rfl rfl) ?_
 refine zA ?_
 refine ACode.loopR hΓ (α:=List (Nat×Int×Unit)×Option Nat) (fun a=>[(12,.one (.ptr (.l 2) 0)),(4,match a.2 with|none=>.one (.lit (.slice none 0 0))|some cap=>.one (.arr (.l 3) 1 0 ((keyL a.1).map cI).length cap))])
  (fun a=>match a.2 with|none=>⟨3,[(2,.iter (.l 0) co (bornL a.1) co),(0,.map co (encI eU lo))],ou⟩|some cap=>⟨4,[(3,.cells (vec 1 ((keyL a.1).map cI) cap)),(2,.iter (.l 0) co (bornL a.1) co),(0,.map co (encI eU lo))],ou⟩)
  (fun m a=>(∀x∈a.1,x∈lo)/\(bornL a.1).Nodup/\(match a.2 with|none=>a.1=[]|some cap=>a.1.length<=cap)/\m=leftM lo (bornL a.1)) (a0:=([],none)) (ρ:=id) ⟨by simp,by simp[bornL],rfl,rfl⟩ (LessR.of rfl ?_ ?_ ?_ rfl rfl hou) fun m a hj=>?_
 ·(repeat' first|exact FrSub.nil|refine zfc ?_|refine zfo ?_|refine zfp ?_)
 ·simp
 ·repeat' first|exact LoSub.nil|refine zlc ?_|refine zld ?_ ?_|rfl
  all_goals (rw[Qkc,Qau])
 obtain⟨zs,oc⟩:=a
 obtain⟨hzs,hnd,hcap,rfl⟩:=hj
 simp only at hzs hnd hcap
 have hin:∀k,k∈keyL zs->k∈occB (fun _=>0) t:=fun k hk=>by
  obtain⟨x,hx,rfl⟩:=List.mem_map.1 hk
  have h1:=(Qfh hg x.2.1).2 ⟨x,hzs x hx,rfl⟩
  rw[hgs]at h1
  simpa using h1
 have hkn:(keyL zs).Nodup:=Q9z (zs:=zs) hg.nk hzs hnd
 have hkl:(keyL zs).length<=1048576:=by
  have h1:=Qb1 hkn hin
  have h2:=Qay t (fun _=>0) []
  simp at h2
  omega
 have hend':(∀x∈encI eU lo,x.1∈bornL zs)->(keyL zs).mergeSort (fun x y=>decide (x<=y))=Q3a t:=fun hend=>by
  rw[Q8i]
  refine sort_eq hkn fun k=>⟨hin k,fun hk=>?_⟩
  have h1:(g k).isSome=true:=by rw[hgs];simpa using hk
  obtain⟨x,hx,rfl⟩:=(Qfh hg k).1 h1
  have h2:=hend (x.1,.int .i64 x.2.1,eU x.2.2) (List.mem_map.2 ⟨x,hx,rfl⟩)
  obtain⟨y,hy,e⟩:=List.mem_map.1 h2
  have:=Qjn hg.nb (hzs y hy) hx e
  subst this
  exact List.mem_map.2 ⟨y,hy,rfl⟩
 cases oc with
 |none=>
  subst hcap
  refine zA ?_
  refine AOps.nextMap rfl rfl rfl rfl rfl rfl rfl (Qct hg) (Nat.le_refl _) Qfx (fun hend=>?_) (fun b u v hmem hnew=>?_)
  ·refine zA ?_
   refine AOps.callNo rfl rfl rfl rfl rfl rfl Q9b hn ?_
   refine zA ?_
   have h1:=hend' hend
   refine APure.fin rfl (.trans (.one (.nilS 1)) (.ofEq ?_)) (by simp) hou rfl
   rw[←h1];simp[keyL]
  ·obtain⟨rfl,x,hx,rfl,rfl,_⟩:=(Qf6 _ _ _ _).1 hmem
   obtain⟨bx,k,⟨⟩⟩:=x
   refine zA ?_
   refine zS (AStep.entry (last:=0) (u:=.int .i64 k) (v:=.agg []) rfl rfl rfl rfl (Q8o hg.nb hx) rfl) ?_
   refine zA ?_
   refine AOps.appOwn tabOk rfl rfl rfl rfl rfl rfl rfl rfl rfl (.nil 1) (.sl 1 [cI k]) (by simp) rfl (by simp;show 1 * 8<=_;omega) (by simp) fun cap hc=>?_
   refine zM ?_
   refine cInv ⟨leftM lo (bornL [(bx,k,())]),([(bx,k,())],some cap),id,Q9x (x:=(bx,k,())) hx hnew,⟨by simpa using hx,by simp[bornL],by simpa using hc,rfl⟩,LessR.of rfl ?_ (by simp) ?_ rfl rfl hou⟩
   ·exact FrSub.cons rfl (.ofEq rfl) (FrSub.cons rfl (.ofEq rfl) .nil)
   ·refine LoSub.cons rfl ?_ rfl (by simp) (LoSub.cons rfl ?_ rfl (by simp) (LoSub.cons rfl (Qau _ _ _).symm rfl (by simp) .nil))
    ·rw[AObj.ren_pure _ _ (by simp)];simp[keyL]
    ·simp[AObj.ren,bornL];rfl
 |some cap=>
  refine zA ?_
  refine AOps.nextMap rfl rfl rfl rfl rfl rfl rfl (Qct hg) (Nat.le_refl _) Qfx (fun hend=>?_) (fun b u v hmem hnew=>?_)
  ·have h1:=hend' hend
   refine zA ?_
   refine AOps.wk 21 rfl (y:=.one (.arr (.l 3) 1 0 (keyL zs).length cap)) (.ofEq (by simp)) ?_
   refine AOps.sortI (l:=keyL zs) rfl rfl rfl rfl rfl rfl Q9b hs rfl (by omega) ?_
   rw[h1]
   refine AOps.wk 4 rfl (y:=.one (.arr (.l 3) 1 0 ((Q3a t).map iC).length cap)) (.ofEq (by rw[←h1];simp)) ?_
   refine AOps.freezeArr (.l 3) 4 rfl (by simp) rfl ?_
   refine zA ?_
   exact APure.fin rfl (WkF.ofEq rfl) (by simp) hou rfl
  ·obtain⟨rfl,x,hx,rfl,rfl,_⟩:=(Qf6 _ _ _ _).1 hmem
   obtain⟨bx,k,⟨⟩⟩:=x
   refine zA ?_
   refine zS (AStep.entry (last:=0) (u:=.int .i64 k) (v:=.agg []) rfl rfl rfl rfl (Q8o hg.nb hx) rfl) ?_
   refine zA ?_
   have hzl:((keyL zs).map cI).length=zs.length:=by simp[keyL]
   refine AOps.appOwn tabOk rfl rfl rfl rfl rfl rfl rfl rfl rfl (.own 1 cap ((keyL zs).map cI) (.l 3) rfl (by simp[cI]) (by rw[hzl];exact hcap)) (.sl 1 [cI k]) (by simp) rfl (by simp;show (_+1) * 8<=_;omega) (by simp;omega) fun cap' hc=>?_
   refine zM ?_
   refine cInv ⟨leftM lo (bornL (zs++[(bx,k,())])),(zs++[(bx,k,())],some cap'),fun k=>if k=3 then 4 else k,by have:=Q9x (x:=(bx,k,())) hx hnew;simpa[bornL]using this,⟨?_,?_,by simpa[keyL]using hc,rfl⟩,LessR.of rfl ?_ (by simp) ?_ rfl rfl hou⟩
   ·intro y hy
    rcases List.mem_append.1 hy with hy|hy
    ·exact hzs y hy
    ·simp at hy;subst hy;exact hx
   ·simp only[bornL,List.map_append,List.map_cons,List.map_nil]
    rw[List.nodup_append]
    refine⟨hnd,by simp,fun a ha b hb e=>?_⟩
    simp at hb
    subst hb;subst e
    exact hnew ha
   ·exact FrSub.cons rfl (.ofEq rfl) (FrSub.cons rfl (.ofEq (by simp[keyL,FV.ren,AC.ren];rfl)) .nil)
   ·refine LoSub.cons rfl ?_ rfl (by simp) (LoSub.cons rfl ?_ rfl (by simp) (LoSub.cons rfl (Qau _ _ _).symm rfl (by simp) .nil))
    ·rw[AObj.ren_pure _ _ (by simp)];simp[keyL]
    ·simp[AObj.ren,bornL];rfl
end Go.Proofs.YthboaankaaeemaaDoor
namespace Go.CoreX
theorem Q9n:∀{l r:List Int}{i:Nat}{x y:Int}{m:Nm},l[i]?=some x->r[i]?=some y->putsN m (l.take (i+1)) (r.take (i+1))=setN (putsN m (l.take i) (r.take i)) x y
 |[],_,i,x,y,m,h,_=>by simp at h
 |a::l,[],i,x,y,m,_,h=>by simp at h
 |a::l,b::r,0,x,y,m,h,h'=>by simp at h h';subst h;subst h';simp[putsN]
 |a::l,b::r,i+1,x,y,m,h,h'=>by
  simp only[List.take_succ_cons,putsN]
  exact Q9n (l:=l) (r:=r) (by simpa using h) (by simpa using h')
end Go.CoreX
namespace Go.Proofs.YthboaankaaeemaaDoor
open Go Go.Abs Go.CoreX
variable {Γ:List (Nat×List AC)}
end Go.Proofs.YthboaankaaeemaaDoor
namespace Go.Proofs
open Go.Shelf
def Tryd.lays189_ren:Go.Shelf.Ren:=⟨fun|189=>101|125=>109|257=>108|128=>121|129=>122|294=>112|295=>113|296=>114|297=>115|298=>116|299=>117|216=>118|300=>119|301=>120|328=>124|329=>125|330=>126|331=>127|332=>128|215=>129|343=>130|n=>n,fun|28=>30|3=>3|46=>153|0=>0|51=>185|53=>111|4=>4|183=>178|182=>177|131=>136|5=>5|9=>9|218=>187|222=>191|228=>193|229=>194|n=>n,fun|n=>n⟩
theorem Tryd.lays189:Go.Proofs.Lays.n189 Tryd.prog Tryd.lays189_ren:={
 mixed:=by kernel_rfl
 f125:=Tryd.func109.trans (congrArg some (by kernel_rfl))
 f128:=Tryd.func121.trans (congrArg some (by kernel_rfl))
 f129:=Tryd.func122.trans (congrArg some (by kernel_rfl))
 f189:=Tryd.func101.trans (congrArg some (by kernel_rfl))
 f215:=Tryd.func129.trans (congrArg some (by kernel_rfl))
 f216:=Tryd.func118.trans (congrArg some (by kernel_rfl))
 f257:=Tryd.func108.trans (congrArg some (by kernel_rfl))
 f294:=Tryd.func112.trans (congrArg some (by kernel_rfl))
 f295:=Tryd.func113.trans (congrArg some (by kernel_rfl))
 f296:=Tryd.func114.trans (congrArg some (by kernel_rfl))
 f297:=Tryd.func115.trans (congrArg some (by kernel_rfl))
 f298:=Tryd.func116.trans (congrArg some (by kernel_rfl))
 f299:=Tryd.func117.trans (congrArg some (by kernel_rfl))
 f300:=Tryd.func119.trans (congrArg some (by kernel_rfl))
 f301:=Tryd.func120.trans (congrArg some (by kernel_rfl))
 f328:=Tryd.func124.trans (congrArg some (by kernel_rfl))
 f329:=Tryd.func125.trans (congrArg some (by kernel_rfl))
 f330:=Tryd.func126.trans (congrArg some (by kernel_rfl))
 f331:=Tryd.func127.trans (congrArg some (by kernel_rfl))
 f332:=Tryd.func128.trans (congrArg some (by kernel_rfl))
 f343:=Tryd.func130.trans (congrArg some (by kernel_rfl))
 t0:=Tryd.underlying0
 a0:=Tryd.isAgg0
 z0:=Tryd.sizeOf0
 v0:=Tryd.zeroValue0
 t3:=Tryd.underlying3
 a3:=Tryd.isAgg3
 z3:=Tryd.sizeOf3
 v3:=Tryd.zeroValue3
 t4:=Tryd.underlying4
 a4:=Tryd.isAgg4
 z4:=Tryd.sizeOf4
 v4:=Tryd.zeroValue4
 t5:=Tryd.underlying5
 a5:=Tryd.isAgg5
 z5:=Tryd.sizeOf5
 v5:=Tryd.zeroValue5
 t9:=Tryd.underlying9
 a9:=Tryd.isAgg9
 z9:=Tryd.sizeOf9
 v9:=Tryd.zeroValue9
 t28:=Tryd.underlying30
 a28:=Tryd.isAgg30
 z28:=Tryd.sizeOf30
 v28:=Tryd.zeroValue30
 t46:=Tryd.underlying153
 a46:=Tryd.isAgg153
 z46:=Tryd.sizeOf153
 v46:=Tryd.zeroValue153
 t51:=Tryd.underlying185
 a51:=Tryd.isAgg185
 z51:=Tryd.sizeOf185
 v51:=Tryd.zeroValue185
 t53:=Tryd.underlying111
 a53:=Tryd.isAgg111
 z53:=Tryd.sizeOf111
 v53:=Tryd.zeroValue111
 t131:=Tryd.underlying136
 a131:=Tryd.isAgg136
 z131:=Tryd.sizeOf136
 v131:=Tryd.zeroValue136
 t182:=Tryd.underlying177
 a182:=Tryd.isAgg177
 z182:=Tryd.sizeOf177
 v182:=Tryd.zeroValue177
 t183:=Tryd.underlying178
 a183:=Tryd.isAgg178
 z183:=Tryd.sizeOf178
 v183:=Tryd.zeroValue178
 t218:=Tryd.underlying187
 a218:=Tryd.isAgg187
 z218:=Tryd.sizeOf187
 v218:=Tryd.zeroValue187
 t222:=Tryd.underlying191
 a222:=Tryd.isAgg191
 z222:=Tryd.sizeOf191
 v222:=Tryd.zeroValue191
 t228:=Tryd.underlying193
 a228:=Tryd.isAgg193
 z228:=Tryd.sizeOf193
 v228:=Tryd.zeroValue193
 t229:=Tryd.underlying194
 a229:=Tryd.isAgg194
 z229:=Tryd.sizeOf194
 v229:=Tryd.zeroValue194 }
open Go.Sort Go.RowKit in
theorem Tryd.slices_Sort_int(blk off cap:Nat)(zs:List Int)(w:World)(hH:Holds (Value.int .i64) w blk off zs.toArray)(hblk:blk < w.heap.size)(hsz:zs.length < 4611686018427387904):
  Calls Tryd.prog 101 #[.slice (some ⟨blk,off,none⟩) zs.length cap] w fun e w'=>
   e=.returned (.tuple #[])/\∃n os,w'=grow (putRow (Value.int .i64) (Sort.ahead w n) blk off (zs.mergeSort fun x y=>decide (x<=y)).toArray) os:=Any.slices_Sort_int Tryd.lays189 blk off cap zs w hH hblk hsz
theorem Tryd.slices_Sort_int_none(p:Option Addr)(cap:Nat)(w:World):
  Calls Tryd.prog 101 #[.slice p 0 cap] w fun e w'=>e=.returned (.tuple #[])/\w'=w:=Any.slices_Sort_int_none Tryd.lays189 p cap w
end Go.Proofs
namespace Go.Proofs.YthboaankaaeemaaDoor
open Go Go.Sort
theorem sortOk:SortOk:=fun blk off cap zs w hH hblk hsz=>Tryd.slices_Sort_int blk off cap zs w hH hblk hsz
theorem sortNil:Qjz:=fun w=>Tryd.slices_Sort_int_none none 0 w
end Go.Proofs.YthboaankaaeemaaDoor
