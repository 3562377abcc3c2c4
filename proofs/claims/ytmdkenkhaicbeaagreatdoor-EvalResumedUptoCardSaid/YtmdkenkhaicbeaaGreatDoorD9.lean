/- A renamed expression is valid and the same. No condition. -/
import Derived.Test.YtmdkenkhaicbeaaGreatDoorD8
set_option maxRecDepth 10000
set_option linter.unusedVariables false
set_option linter.unusedSimpArgs false
namespace Go.CoreX
theorem sum0{α:Type}{f:α->Int}:∀{l:List α},(∀x∈l,0<=f x)->(l.map f).sum=0->∀x∈l,f x=0
 | [], _, _, x, hx => by simp at hx
 |y::l,h,hs,x,hx=>by
  have h1:=h y (by simp)
  have h2:∀z∈l,0<=f z:=fun z hz=>h z (by simp[hz])
  have h3:0<=(l.map f).sum:=by
   clear h h1 hs hx
   induction l with
   |nil=>simp
   |cons z l ih=>
    have:=h2 z (by simp)
    have:=ih fun y hy=>h2 y (by simp[hy])
    simp only[List.map_cons,List.sum_cons];omega
  simp only[List.map_cons,List.sum_cons]at hs
  rcases List.mem_cons.1 hx with rfl|hx
  ·omega
  ·exact sum0 h2 (by omega) x hx
open Classical in
mutual
theorem Qgd{p:Lab->Prop}:∀t:Tr,allT p t->sumT (fun l=>if p l then 0 else 1) t=0
 |.mk o n b k a,h=>by
  simp only[sumT,Qdk k h.2]
  rw[if_pos h.1];rfl
theorem Qdk{p:Lab->Prop}:∀l:List Tr,allTs p l->sumTs (fun l=>if p l then 0 else 1) l=0
 |[],_=>rfl
 |t::l,h=>by simp only[sumTs,Qgd t h.1,Qdk l h.2];rfl
end
open Classical in
theorem Qiq{p:Lab->Prop}{g:List Ex}(h:IsTree g)(ha:allT p (grow g)):∀l∈labs g,p l:=by
 have h1:=Q9l (fun l=>if p l then (0:Int)else 1) h
 rw[Qgd _ ha]at h1
 intro l hl
 have:=sum0 (fun x _=>by split <;> omega) h1 l hl
 split at this
 ·assumption
 ·cases this
theorem Q85{e:List Ex}(h:check e=0):Q25 e=0/\(∀x∈e,Q14 false e x=0)/\(Q0c e).Nodup/\occT [] (grow e)=[]:=by
 unfold check body at h
 by_cases h1:Q25 e=0
 ·rw [if_neg (by simpa using h1)] at h
  by_cases h2:Q24 (Q14 false e) e=0
  ·rw[if_neg (by simpa using h2)]at h
   by_cases h3:Q5p ([]++Q0c e)=true
   ·rw[if_pos h3]at h;cases h
   ·rw[if_neg h3]at h
    have h3':=(Q3j _).1 (by simpa using h3)
    refine⟨h1,(Q3y _ _).1 h2,by simpa using h3',?_⟩
    by_cases h4:(Q3k (grow e)).all (fun n=>([]:List Int).contains n)=true
    ·have h5:Q3k (grow e)=[]:=by
      cases hf:Q3k (grow e) with
      |nil=>rfl
      |cons n l=>rw[hf]at h4;simp at h4
     unfold Q3k at h5
     cases ho:occT [] (grow e) with
     |nil=>rfl
     |cons n l=>
      have:=(Q5b n (n::l)).2 (by simp)
      rw[←ho,h5]at this
      simp at this
    ·rw[if_neg h4]at h;cases h
  ·rw[if_pos (by simpa using h2)]at h;exact absurd h h2
 ·rw[if_pos h1]at h;exact absurd h h1
end Go.CoreX
namespace Go.Proofs.YtmdkenkhaicbeaaGreatDoor
open Go Go.Abs Go.CoreX
variable {Γ:List (Nat×List AC)}
theorem Qj5(hΓ:∀g cs,(g,cs)∈Γ->idsL isO cs)(x:Ex)(hx:okX x)(hl:x.binds.length+(x.alts.flatMap (·.binds)).length<=4194304):
  APure Tryz.prog Γ 39 [.agg (cEx x)] (.one (.sl 1 ((Q07 x).map cI))):=by
 have ha:=hx.a
 intro ou
 refine AFn.walk 36 tabOk Tryz.func39 rfl (by kernel_rfl) rfl rfl fun hou=>?_
 iterate 12 (first|((with_reducible refine oj ?_);refine zau ?_)|(with_reducible refine zst ?_)|((with_reducible refine Q0q ?_ ?_);rfl)|(with_reducible refine ok ?_;first|refine ACode.condT rfl ?_|refine ACode.condF rfl ?_))
 refine ACode.freeze1 (.l 0) 1 rfl rfl ?_
 refine ACode.growS 3 3 1 rfl ?_
 have he0:Q07 x=Q2q (if x.op=2∨x.op=4∨x.op=5 then x.binds else []) x.alts x.alts.length:=by simp[Q07,Q17,Q2q]
 obtain⟨pre,hpre⟩:∃pre,pre=(if x.op=2∨x.op=4∨x.op=5 then x.binds else []):=⟨_,rfl⟩
 rw[he0,←hpre]
 have hpl:pre.length<=x.binds.length:=by rw[hpre];split <;> simp
 refine ACode.cutR hΓ (α:=Unit) (fun _=>[(3,.one (.gs 1 (pre.map cI) (.l 0))),(1,.one (.box (cEx x)))])
  (fun _ => ⟨1, [(0, .tok 3 1 pre.length)], ou⟩) (fun _ => True) ?_ fun _ _ => ?_
 ·repeat' first|refine zN ?_|(with_reducible refine oj ?_;refine AOps.splitS rfl rfl rfl rfl (fun hb=>?_) (fun hb=>?_))|(with_reducible refine ok ?_;first|refine ACode.condS rfl (fun hb=>?_) (fun hb=>?_)|refine ACode.cond rfl (fun hb=>?_) (fun hb=>?_))
  all_goals first
   |(
    have:pre=x.binds:=by simp_all
    subst this
    refine AOps.app tabOk rfl rfl rfl rfl rfl rfl rfl rfl rfl (Base.gs' _ _ _ _ _ (by rfl) (by simp)) (.sl _ _) rfl (by simp;show _ * 8<=_;omega) (by simp;omega) ?_
    repeat' first|refine zN ?_|(with_reducible refine oj ?_;refine AOps.splitS rfl rfl rfl rfl (fun hb=>?_) (fun hb=>?_))|(with_reducible refine ok ?_;first|refine ACode.condS rfl (fun hb=>?_) (fun hb=>?_)|refine ACode.cond rfl (fun hb=>?_) (fun hb=>?_))
    exact cInv ⟨(),fun _=>2,trivial,LessR.of rfl (FrSub.consGs rfl rfl (by simp) (FrSub.consP rfl (.ofEq rfl) (by simp) .nil)) (by simp) (LoSub.cons rfl (by simp[AObj.ren];rfl) rfl (by simp) .nil) rfl rfl hou⟩)
   |(
    have:pre=[]:=by simp_all
    subst this
    exact cInv ⟨(),fun _=>1,trivial,LessR.of rfl (FrSub.consGs rfl rfl (by simp) (FrSub.consP rfl (.ofEq rfl) (by simp) .nil)) (by simp) zLO rfl rfl hou⟩)
 clear hpre he0
 refine zA ?_
 refine ACode.loopR hΓ (α:=Nat) (fun j=>[(26,.one (int j)),(25,.one (int (x.alts.map cAlt).length)),(24,.one (.sl 2 (x.alts.map cAlt))),(3,.one (.gs 1 ((Q2q pre x.alts j).map cI) (.l 0))),(1,.one (.box (cEx x)))])
  (fun j=>⟨1,[(0,.tok 3 1 (Q2q pre x.alts j).length)],ou⟩) (fun m j=>j<=x.alts.length/\m=x.alts.length - j) (a0:=0) (ρ:=id) ⟨by omega,rfl⟩
  (LessR.of rfl (FrSub.cons rfl (.ofEq rfl) (FrSub.cons rfl (.ofEq rfl) (FrSub.consP rfl (.ofEq rfl) (by simp) (FrSub.consGs (by simp[Q2q];rfl) rfl (by simp) (FrSub.consP rfl (.ofEq rfl) (by simp) .nil))))) (by simp) (LoSub.cons rfl (by simp[AObj.ren,Q2q]) rfl (by simp) .nil) rfl rfl hou) fun m j hj=>?_
 obtain⟨hjl,rfl⟩:=hj
 refine zA ?_
 refine ACode.cond rfl (fun hb2=>?_) (fun hb2=>?_)
 ·have hlt:j < x.alts.length:=by simpa using hb2
  obtain⟨a,ha2⟩:=Q01 hlt
  have hbl:=Q9d (pre:=pre) (al:=x.alts) (j+1)
  rw[Q2n ha2]at hbl
  simp only[List.length_append]at hbl
  refine zA ?_
  refine zS (zIA rfl rfl rfl (by omega) (Q0a ha2)) ?_
  refine zA ?_
  refine AOps.app tabOk rfl rfl rfl rfl rfl rfl rfl rfl rfl (Base.gs' _ _ _ _ _ (by rfl) (by simp)) (.sl _ _) rfl (by simp;show _ * 8<=_;omega) (by simp;omega) ?_
  refine zM ?_
  exact cInv ⟨x.alts.length - (j+1),j+1,fun _=>2,by omega,⟨by omega,rfl⟩,LessR.of rfl (FrSub.cons rfl (.ofEq rfl) (FrSub.cons rfl (.ofEq rfl) (FrSub.consP rfl (.ofEq rfl) (by simp) (FrSub.consGs (by rw[Q2n ha2,List.map_append];rfl) rfl (by simp) (FrSub.consP rfl (.ofEq rfl) (by simp) .nil))))) (by simp) (LoSub.cons rfl (by simp[AObj.ren,Q2n ha2];rfl) rfl (by simp) .nil) rfl rfl hou⟩
 ·have hlt:j=x.alts.length:=by simp at hb2;omega
  subst hlt
  refine zA ?_
  exact APure.fin rfl (.one (.gsE rfl)) (by simp) hou rfl
end Go.Proofs.YtmdkenkhaicbeaaGreatDoor
namespace Go.CoreX
structure pOk (l:Lab):Prop where
 b:l.binds.length<=1048576
 k:l.ops.length<=1048576
 a:l.alts.length<=1048576
 ab:∀x∈l.alts,x.binds.length<=1048576
 s:l.binds.length+(l.alts.flatMap (·.binds)).length<=4194304
-- Two lists in order, with the same members, are one list.
end Go.CoreX
namespace Go.Proofs.YtmdkenkhaicbeaaGreatDoor
open Go Go.Abs Go.CoreX
theorem Qfd{g:List Ex}(hl:g.length<=1048576)(h:∀l∈labs g,pOk l):okB g:=by
 refine⟨⟨hl,fun x hx=>?_⟩,fun x hx=>?_⟩
 ·have:=h _ (List.mem_map_of_mem (f:=labE g) hx)
  exact⟨this.b,by simpa[labE]using this.k,this.a,this.ab⟩
 ·exact (h _ (List.mem_map_of_mem (f:=labE g) hx)).s
end Go.Proofs.YtmdkenkhaicbeaaGreatDoor
namespace Go.CoreX
def mapA (ν:Int->Int)(x:Alt):Alt:=⟨x.tag,x.binds.map ν⟩
mutual
def mapT (ν:Int->Int):Tr->Tr
 |.mk o n b k a=>.mk o (if o=0 then ν n else n) (if o=9 then b else b.map ν) (mapTs ν k) (a.map (mapA ν))
def mapTs (ν:Int->Int):List Tr->List Tr
 |[]=>[]
 |t::l=>mapT ν t::mapTs ν l
end
end Go.CoreX
namespace Go.CoreX
mutual
theorem Qci:∀t:Tr,okT t->allT pOk t
 |.mk o n b k a,h=>⟨⟨h.1,by simpa using h.2.1,h.2.2.1,h.2.2.2.1.1,h.2.2.2.1.2⟩,Qe1 k h.2.2.2.2⟩
theorem Qe1:∀l:List Tr,okTs l->allTs pOk l
 |[],_=>trivial
 |t::l,h=>⟨Qci t h.1,Qe1 l h.2⟩
end
end Go.CoreX
namespace Go.Proofs.YtmdkenkhaicbeaaGreatDoor
open Go Go.Abs Go.CoreX
theorem Qe3{T:Tr}(h:allT pOk T)(hl:cntN T<=1048576):okB (listT [] T):=Qfd (by have:=Q4m T [];simp at this;omega) (Qiq (Q7s _) (by rw[Q4i];exact h))
end Go.Proofs.YtmdkenkhaicbeaaGreatDoor
namespace Go.CoreX
mutual
inductive Vl where
 |nil
 |word (n:Int)
 |clo (t:Tr) (e:En)
 |obj (tag:Int) (fs:List Vl)
 |row (ls:List Int) (fs:List Vl)
 |arr (a:Nat)
 |res (fs:List Fm)
 |cap (fn:Int) (slots:List Vl)
inductive En where
 |nil
 |bind (id:Int) (v:Vl) (next:En)
 |recs (t:Tr) (next:En)
inductive Fm where
 |mk (t:Tr) (e:En) (done:List Vl)
end
instance:Inhabited Vl:=⟨.nil⟩
instance:Inhabited Fm:=⟨.mk default .nil []⟩
def Fm.t:Fm->Tr|.mk t _ _=>t
def Fm.e:Fm->En|.mk _ e _=>e
def Fm.done:Fm->List Vl|.mk _ _ d=>d
@[simp] theorem Fm.t_mk (t e d):(Fm.mk t e d).t=t:=rfl
@[simp] theorem Fm.e_mk (t e d):(Fm.mk t e d).e=e:=rfl
@[simp] theorem Fm.done_mk (t e d):(Fm.mk t e d).done=d:=rfl

def Q4z (l:List Int)(id:Int):Nat->Option Nat
 |0=>none
 |i+1=>if l.getD i 0=id then some i else Q4z l id i
def findE (id:Int):En->Vl
 |.nil=>.nil
 |.bind i v n=>if i=id then v else findE id n
 |.recs t n=>match Q4z t.binds id t.binds.length with
  |some i=>.clo (t.kids.getD i default) (.recs t n)
  |none=>findE id n
def allE (e:En):List Int->List Vl->En
 |id::ids,l=>allE (.bind id (l.headD .nil) e) ids l.tail
 |[],_=>e

inductive Ctl where
 |ev (t:Tr) (e:En)
 |rt (v:Vl)
structure Ms where
 c:Ctl
 k:List Fm
 out:List Int
 steps:Int
 heap:List (List Vl)
structure Fun where
 params:List Int
 body:Tr

def condV (b:Bool):Vl:=.obj (if b then 1 else 0) []
def wrapW (n:Int):Int:=(n+1073741824) % 2147483648 - 1073741824
def wordV:Vl->Except Int Int
 |.word n=>.ok n
 |_=>.error 5
def Q6p (h:List (List Vl)):Vl->Except Int (Nat×List Vl)
 |.arr a=>.ok (a,h.getD a [])
 |_=>.error 5
def rowsV:Vl->Except Int (List Int×List Vl)
 |.row ls fs=>.ok (ls,fs)
 |_=>.error 5

def bsGo (l:List Int)(x:Int):Nat->Nat->Nat->Nat
 |0,i,_=>i
 |g+1,i,j=>if i < j then (if l.getD ((i+j) / 2) 0 < x then bsGo l x g ((i+j) / 2+1) j else bsGo l x g i ((i+j) / 2))else i
def bsAt (l:List Int)(x:Int):Nat:=bsGo l x l.length 0 l.length
def bsIs (l:List Int)(x:Int):Bool:=decide (bsAt l x < l.length)&&l.getD (bsAt l x) 0==x

def Q39 (fu:Int)(m:Ms)(many:Int)(v:Vl):Except Int (Ms×Vl):=
 if many < 0∨1024 < many then .error 6 else if fu - m.steps < many then .error (-1) else
 .ok ({ m with steps:=m.steps+many,heap:=m.heap++[List.replicate many.toNat v] },.arr m.heap.length)
def Q2i (m:Ms)(n:Int)(l:List Vl):Except Int (Ms×Vl):=do
 let (a,its) ←Q6p m.heap (l.getD 0 .nil)
 if n=9 then return (m,.word its.length)
 let i ←wordV (l.getD 1 .nil)
 if i < 0∨(its.length:Int)<=i then .error 2
 else if n=10 then return (m,its.getD i.toNat .nil)
 else return ({ m with heap:=m.heap.set a (its.set i.toNat (l.getD 2 .nil)) },.obj 0 [])
def primM (fu:Int)(m:Ms)(n:Int)(l:List Vl):Except Int (Ms×Vl):=
 if n=0 then do return (m,.word (wrapW ((←wordV (l.getD 0 .nil))+(←wordV (l.getD 1 .nil))))) else
 if n=1 then do return (m,.word (wrapW ((←wordV (l.getD 0 .nil)) - (←wordV (l.getD 1 .nil))))) else
 if n=2 then do return (m,.word (wrapW ((←wordV (l.getD 0 .nil)) * (←wordV (l.getD 1 .nil))))) else
 if n=3 then do
  let a ←wordV (l.getD 0 .nil)
  let b ←wordV (l.getD 1 .nil)
  if b=0 then .error 1 else return (m,.word (wrapW (a.tdiv b))) else
 if n=4 then do
  let a ←wordV (l.getD 0 .nil)
  let b ←wordV (l.getD 1 .nil)
  if b=0 then .error 1 else return (m,.word (a.tmod b)) else
 if n=5 then do return (m,condV (decide ((←wordV (l.getD 0 .nil)) < (←wordV (l.getD 1 .nil))))) else
 if n=6 then do return (m,condV (decide ((←wordV (l.getD 0 .nil))=(←wordV (l.getD 1 .nil))))) else
 if n=7 then do
  let a ←wordV (l.getD 0 .nil)
  if m.out.length=1000 then .error 6 else return ({ m with out:=m.out++[a] },.obj 0 []) else
 if n=8 then do
  let a ←wordV (l.getD 0 .nil)
  Q39 fu m a (l.getD 1 .nil) else
 Q2i m n l
def withR (ls:List Int)(fs:List Vl)(n:Int)(v:Vl):Vl:=
 if bsIs ls n then .row ls (fs.set (bsAt ls n) v)
 else .row (ls.take (bsAt ls n)++n::ls.drop (bsAt ls n)) (fs.take (bsAt ls n)++v::fs.drop (bsAt ls n))
def Q0r (fu:Int)(m:Ms)(t:Tr)(l:List Vl):Except Int (Ms×Vl):=
 if t.op=6 then .ok (m,.obj t.n l) else
 if t.op=8 then primM fu m t.n l else
 if t.op=9 then .ok (m,.row t.binds l) else
 if t.op=10 then do
  let (ls,fs) ←rowsV (l.getD 0 .nil)
  if bsIs ls t.n then return (m,fs.getD (bsAt ls t.n) .nil)else .error 3
 else do
  let (ls,fs) ←rowsV (l.getD 0 .nil)
  return (m,withR ls fs t.n (l.getD 1 .nil))
def opdN (t:Tr):Nat:=if t.op=4∨t.op=7∨t.op=13∨t.op=12 then 1 else t.kids.length
def Q0w (tag:Int)(fs:List Vl)(e:En)(kids:List Tr):Nat->List Alt->Except Int Ctl
 |_,[]=>.error 3
 |i,a::al=>if a.tag=tag then (if a.binds.length=fs.length then .ok (.ev (kids.getD (1+i) default) (allE e a.binds fs))else .error 5)
  else if a.tag=-1 then .ok (.ev (kids.getD (1+i) default) e)else Q0w tag fs e kids (i+1) al
def Q1y (m:Ms)(t:Tr)(e:En)(v:Vl):Except Int Ms:=
 match v with
 |.obj tag fs=>(Q0w tag fs e t.kids 0 t.alts).map fun c=>{ m with c:=c }
 |_=>.error 5
def callM (fns:List Fun)(m:Ms)(f:Vl)(args:List Vl):Except Int Ms:=
 match f with
 |.clo t e=>if t.binds.length=args.length then .ok { m with c:=.ev (t.kids.getD 0 default) (allE e t.binds args) }else .error 5
 |.cap n slots=>if (fns.getD n.toNat ⟨[],default⟩).params.length=args.length+1 then .ok { m with c:=.ev (fns.getD n.toNat ⟨[],default⟩).body (allE .nil (fns.getD n.toNat ⟨[],default⟩).params (.cap n slots::args)) }else .error 5
 |.res fs=>match args with
  |[a]=>.ok { m with c:=.rt a,k:=fs++m.k }
  |_=>.error 5
 |_=>.error 5
def Q0k (op:Int):Nat->List Alt->Option Nat
 |_,[]=>none
 |i,a::al=>if a.tag=op/\0 < i then some i else Q0k op (i+1) al
def Q0m (m:Ms)(op:Int)(v:Vl):List Fm->List Fm->Except Int Ms
 |_,[]=>.error 4
 |l,f::k=>match (if f.t.op=13 then Q0k op 0 f.t.alts else none) with
  |some i=>.ok { m with c:=.ev (f.t.kids.getD (1+i) default) (.bind ((f.t.alts.getD i ⟨0,[]⟩).binds.getD 1 0) (.res (l++[f])) (.bind ((f.t.alts.getD i ⟨0,[]⟩).binds.getD 0 0) v f.e)),k:=k }
  |none=>Q0m m op v (l++[f]) k
def kidM (fu:Int)(fns:List Fun)(m:Ms)(f:Fm)(k:List Fm):Except Int Ms:=
 if f.done.length < opdN f.t then .ok { m with c:=.ev (f.t.kids.getD f.done.length default) f.e,k:=f::k } else
 if f.t.op=4 then .ok { m with c:=.ev (f.t.kids.getD 1 default) (.bind (f.t.binds.getD 0 0) (f.done.getD 0 .nil) f.e),k:=k } else
 if f.t.op=7 then Q1y { m with k:=k } f.t f.e (f.done.getD 0 .nil) else
 if f.t.op=3 then callM fns { m with k:=k } (f.done.getD 0 .nil) (f.done.drop 1) else
 if f.t.op=13 then .ok { m with c:=.ev (f.t.kids.getD 1 default) (.bind ((f.t.alts.getD 0 ⟨0,[]⟩).binds.getD 0 0) (f.done.getD 0 .nil) f.e),k:=k } else
 if f.t.op=12 then Q0m m f.t.n (f.done.getD 0 .nil) [] k else
 if f.t.op=14 then .ok { m with c:=.ev (fns.getD f.t.n.toNat ⟨[],default⟩).body (allE .nil (fns.getD f.t.n.toNat ⟨[],default⟩).params f.done),k:=k } else
 if f.t.op=15 then .ok { m with c:=.rt (.cap f.t.n f.done),k:=k } else
 if f.t.op=16 then (match f.done.getD 0 .nil with
  |.cap _ slots=>if f.t.n < slots.length then .ok { m with c:=.rt (slots.getD f.t.n.toNat .nil),k:=k }else .error 5
  |_=>.error 5) else
 (Q0r fu { m with k:=k } f.t f.done).map fun (m',v)=>{ m' with c:=.rt v }
def Q0d (fu:Int)(fns:List Fun)(m:Ms)(t:Tr)(e:En):Except Int Ms:=
 if t.op=0 then .ok { m with c:=.rt (findE t.n e) } else
 if t.op=1 then .ok { m with c:=.rt (.word t.n) } else
 if t.op=2 then .ok { m with c:=.rt (.clo t e) } else
 if t.op=17 then .error t.n else
 if t.op=5 then .ok { m with c:=.ev (t.kids.getD t.binds.length default) (.recs t e) } else
 kidM fu fns m (.mk t e []) m.k
inductive Rd where
 |next (m:Ms)
 |done (m:Ms) (v:Vl)
 |fuel
 |trap (code:Int) (m:Ms)
def Q05 (fu:Int)(fns:List Fun)(m:Ms):Rd:=
 match m.c with
 |.rt v=>match m.k with
  |[]=>.done m v
  |f::k=>match kidM fu fns m (.mk f.t f.e (f.done++[v])) k with
   |.ok m'=>.next m'
   |.error c=>.trap c m
 |.ev t e=>if m.steps=fu then .fuel else
  match Q0d fu fns { m with steps:=m.steps+1 } t e with
  |.ok m'=>.next m'
  |.error c=>.trap c { m with steps:=m.steps+1 }
structure Rs where
 out:List Int
 fin:Int
 val:Int
 steps:Int
 err:Int
 deriving DecidableEq
def lastV:Vl->Int
 |.word n=>n
 |.obj t _=>t
 |_=>0
def Q1q:Rs:=⟨[],0,0,0,13⟩
def goM (fu:Int)(fns:List Fun):Nat->Ms->Option Rs
 |0,_=>none
 |g+1,m=>match Q05 fu fns m with
  |.next m'=>goM fu fns g m'
  |.done m v=>some ⟨m.out,0,lastV v,m.steps,0⟩
  |.fuel=>some Q1q
  |.trap c m=>some (if c < 0 then Q1q else ⟨m.out,c,0,m.steps,0⟩)
end Go.CoreX
namespace Go.CoreX
inductive Rn (fu:Int)(fns:List Fun):Nat->Ms->Ms->Prop
 |zero (m:Ms):Rn fu fns 0 m m
 |succ {n:Nat}{m m1 m':Ms}(h:Q05 fu fns m=.next m1) (k:Rn fu fns n m1 m'):Rn fu fns (n+1) m m'
section
variable {fu:Int}{fns:List Fun}
theorem Rn.trans{n n':Nat}{m m1 m2:Ms}(a:Rn fu fns n m m1)(b:Rn fu fns n' m1 m2):Rn fu fns (n'+n) m m2:=by
 induction a with
 |zero m=>exact b
 |succ h k ih=>exact .succ h (ih b)
theorem Rn.go{n:Nat}{m m':Ms}(a:Rn fu fns n m m')(g:Nat):goM fu fns (g+n) m=goM fu fns g m':=by
 induction a with
 |zero m=>rfl
 |succ h k ih=>
  rw[←Nat.add_assoc,goM,h]
  exact ih
def Rs' (fu:Int)(fns:List Fun)(m m':Ms):Prop:=∃n,Rn fu fns n m m'
theorem Rs'.trans{m m1 m2:Ms}(a:Rs' fu fns m m1)(b:Rs' fu fns m1 m2):Rs' fu fns m m2:=by
 obtain⟨n,a⟩:=a;obtain⟨k,b⟩:=b;exact⟨_,a.trans b⟩
theorem Rs'.one{m m1 m2:Ms}(h:Q05 fu fns m=.next m1)(b:Rs' fu fns m1 m2):Rs' fu fns m m2:=by
 obtain⟨k,b⟩:=b;exact⟨_,.succ h b⟩
end
end Go.CoreX
namespace Go.CoreX
section
variable {fu:Int}{fns:List Fun}
def tV (n:Int):Tr:=.mk 0 n [] [] []
def tW (n:Int):Tr:=.mk 1 n [] [] []
end
end Go.CoreX
namespace Go.CoreX
mutual
def szV:Vl->Nat
 |.res fs=>szFs fs
 |_=>0
def szVs:List Vl->Nat
 |[]=>0
 |v::vs=>szV v+szVs vs
def szF:Fm->Nat
 |.mk _ _ d=>1+szVs d
def szFs:List Fm->Nat
 |[]=>0
 |f::fs=>szF f+szFs fs
end
theorem Qjd(a b:List Fm):szFs (a++b)=szFs a+szFs b:=by
 induction a with
 |nil=>simp[szFs]
 |cons x a ih=>simp[szFs,ih];omega
def phase (m:Ms):Nat:=match m.c with
 |.ev _ _=>0
 |.rt _=>1+szFs m.k
structure After (fu:Int)(m m':Ms)(b:Nat):Prop where
 ge:m.steps<=m'.steps
 le:m.steps<=fu->m'.steps<=fu
 ph:phase m' < 1+b
theorem Q9c{tag:Int}{fs:List Vl}{e:En}{kids:List Tr}{c:Ctl}:∀(i:Nat)(l:List Alt),Q0w tag fs e kids i l=.ok c->∃t e',c=.ev t e'
 |_,[],h=>by cases h
 |i,a::al,h=>by
  unfold Q0w at h
  split at h
  ·split at h
   ·cases h;exact⟨_,_,rfl⟩
   ·cases h
  ·split at h
   ·cases h;exact⟨_,_,rfl⟩
   ·exact Q9c _ al h
theorem Q7i{m m':Ms}{op:Int}{v:Vl}:∀(l k:List Fm),Q0m m op v l k=.ok m'->(∃t e',m'.c=.ev t e')/\m'.steps=m.steps
 |_,[],h=>by cases h
 |l,f::k,h=>by
  unfold Q0m at h
  split at h
  ·cases h;exact⟨⟨_,_,rfl⟩,rfl⟩
  ·exact Q7i _ k h
theorem Qcg{fu:Int}{m m':Ms}{n:Int}{l:List Vl}{v:Vl}(h:primM fu m n l=.ok (m',v)):m.steps<=m'.steps/\(m.steps<=fu->m'.steps<=fu)/\m'.k=m.k:=by
 have bd:∀{α β:Type}{x:Except Int α}{f:α->Except Int β}{r:β},x.bind f=.ok r->∃a,x=.ok a/\f a=.ok r:=by
  intro α β x f r hh
  cases x with
  |error c=>cases hh
  |ok a=>exact⟨a,rfl,hh⟩
 unfold primM at h
 repeat' split at h
 all_goals try (simp only[bind,Except.bind,pure,Except.pure]at h;repeat' split at h)
 all_goals try (cases h;done)
 all_goals try (cases h;exact⟨Int.le_refl _,id,rfl⟩)
 ·unfold Q39 at h
  repeat' split at h
  all_goals try (cases h;done)
  cases h
  refine⟨?_,?_,rfl⟩ <;> simp <;> omega
 ·unfold Q2i at h
  simp only[bind,Except.bind,pure,Except.pure]at h
  repeat' split at h
  all_goals try (cases h;done)
  all_goals (cases h;exact⟨Int.le_refl _,id,rfl⟩)
theorem Q2o{fu:Int}{m m':Ms}{t:Tr}{l:List Vl}{v:Vl}(h:Q0r fu m t l=.ok (m',v)):m.steps<=m'.steps/\(m.steps<=fu->m'.steps<=fu)/\m'.k=m.k:=by
 unfold Q0r at h
 repeat' split at h
 ·cases h;exact⟨Int.le_refl _,id,rfl⟩
 ·exact Qcg h
 ·cases h;exact⟨Int.le_refl _,id,rfl⟩
 ·simp only[bind,Except.bind,pure,Except.pure]at h
  repeat' split at h
  all_goals try (cases h;done)
  all_goals (cases h;exact⟨Int.le_refl _,id,rfl⟩)
 ·simp only[bind,Except.bind,pure,Except.pure]at h
  repeat' split at h
  all_goals try (cases h;done)
  all_goals (cases h;exact⟨Int.le_refl _,id,rfl⟩)
theorem Q33{fu:Int}{fns:List Fun}{m m':Ms}{f:Fm}{k:List Fm}(h:kidM fu fns m f k=.ok m')(d0:List Vl)(v:Vl)(hd:f.done=d0++[v]∨(f.done=[]/\d0=[])):After fu m m' (1+szVs d0+szFs k):=by
 unfold kidM at h
 split at h
 ·cases h;exact⟨Int.le_refl _,id,by simp[phase];omega⟩
 split at h
 ·cases h;exact⟨Int.le_refl _,id,by simp[phase];omega⟩
 split at h
 ·unfold Q1y at h
  split at h
  ·cases hc:Q0w _ _ f.e f.t.kids 0 f.t.alts with
   |error c=>rw[hc]at h;cases h
   |ok c=>
    rw[hc]at h
    obtain⟨t,e',rfl⟩:=Q9c _ _ hc
    cases h
    exact⟨Int.le_refl _,id,by simp[phase];omega⟩
  ·cases h
 split at h
 ·unfold callM at h
  split at h
  ·split at h
   ·cases h;exact⟨Int.le_refl _,id,by simp[phase];omega⟩
   ·cases h
  ·split at h
   ·cases h;exact⟨Int.le_refl _,id,by simp[phase];omega⟩
   ·cases h
  ·rename_i fs hf
   split at h
   ·rename_i a ha
    cases h
    refine⟨Int.le_refl _,id,?_⟩
    simp only[phase,Qjd]
    rcases hd with hd|⟨hd,_⟩
    ·rw[hd]at hf ha
     have:d0=[.res fs]:=by
      have hl:=congrArg List.length ha
      simp at hl
      match d0,hl with
      |[x],_=>simp at hf;rw[hf]
     subst this
     simp[szVs,szV]
    ·rw[hd]at ha;cases ha
   ·cases h
  ·cases h
 split at h
 ·cases h;exact⟨Int.le_refl _,id,by simp[phase];omega⟩
 split at h
 ·obtain⟨⟨t,e',hc⟩,hs⟩:=Q7i _ _ h
  refine⟨by rw[hs];exact Int.le_refl _,fun hh=>by rw[hs];exact hh,?_⟩
  simp[phase,hc];omega
 split at h
 ·cases h;exact⟨Int.le_refl _,id,by simp[phase];omega⟩
 split at h
 ·cases h;exact⟨Int.le_refl _,id,by simp[phase];omega⟩
 split at h
 ·split at h
  ·split at h
   ·cases h;exact⟨Int.le_refl _,id,by simp[phase];omega⟩
   ·cases h
  ·cases h
 ·cases hp:Q0r fu { m with k:=k } f.t f.done with
  |error c=>rw[hp]at h;cases h
  |ok mv=>
   obtain⟨m2,v2⟩:=mv
   rw[hp]at h
   cases h
   obtain⟨h1,h2,h3⟩:=Q2o hp
   refine⟨h1,h2,?_⟩
   simp only[phase,h3];omega
theorem Q2l{fu:Int}{fns:List Fun}{m m':Ms}(h:Q05 fu fns m=.next m')(hs:m.steps<=fu):m'.steps<=fu/\(m.steps < m'.steps∨(m.steps=m'.steps/\phase m' < phase m)∨(m.steps<=m'.steps/\phase m' < phase m)):=by
 unfold Q05 at h
 split at h
 ·rename_i v hc
  split at h
  ·cases h
  ·rename_i f k hk
   split at h
   ·rename_i m2 hkid
    cases h
    obtain⟨h1,h2,h3⟩:=Q33 hkid f.done v (.inl rfl)
    refine⟨h2 hs,.inr (.inr ⟨h1,?_⟩)⟩
    have:phase m=1+szFs m.k:=by simp[phase,hc]
    rw[this,hk,szFs]
    cases f with
    |mk t e d=>simp only[szF]at *;simp at h3;omega
   ·cases h
 ·rename_i t e hc
  split at h
  ·cases h
  ·rename_i hne
   split at h
   ·rename_i m2 hst
    cases h
    have hlt:m.steps+1<=fu:=by omega
    have key:∀m3:Ms,m3.steps=m.steps+1->m3.steps<=fu/\(m.steps < m3.steps∨(m.steps=m3.steps/\phase m3 < phase m)∨(m.steps<=m3.steps/\phase m3 < phase m)):=fun m3 h3=>⟨by omega,.inl (by omega)⟩
    unfold Q0d at hst
    repeat' split at hst
    all_goals try (cases hst;done)
    all_goals try (cases hst;exact key _ rfl)
    obtain⟨h1,h2,h3⟩:=Q33 hst [] .nil (.inr ⟨rfl,rfl⟩)
    refine⟨h2 hlt,.inl ?_⟩
    have:m.steps+1<=m'.steps:=h1
    omega
   ·cases h
theorem Qif(fu:Int)(fns:List Fun):∀(N P:Nat)(m:Ms),m.steps<=fu->(fu - m.steps).toNat=N->phase m=P->∃g R,goM fu fns g m=some R:=by
 intro N
 induction N using Nat.strongRecOn with
 |_ N ihN=>
  intro P
  induction P using Nat.strongRecOn with
  |_ P ihP=>
   intro m hs hN hP
   cases hr:Q05 fu fns m with
   |done m2 v=>exact⟨1,_,by simp only[goM,hr];rfl⟩
   |fuel=>exact⟨1,_,by simp only[goM,hr];rfl⟩
   |trap c m2=>exact⟨1,_,by simp only[goM,hr];rfl⟩
   |next m2=>
    obtain⟨h1,h2⟩:=Q2l hr hs
    have:∃g R,goM fu fns g m2=some R:=by
     by_cases hlt:m.steps < m2.steps
     ·exact ihN _ (by omega) (phase m2) m2 h1 rfl rfl
     ·have:phase m2 < phase m:=by omega
      exact ihP _ (by omega) m2 h1 (by omega) rfl
    obtain⟨g,R,hg⟩:=this
    exact⟨g+1,R,by simp[goM,hr,hg]⟩
theorem Qa7{fu:Int}{fns:List Fun}:∀{g g':Nat}{m:Ms}{R:Rs},g<=g'->goM fu fns g m=some R->goM fu fns g' m=some R
 |0,_,_,_,_,h=>by cases h
 |g+1,0,_,_,hl,_=>by omega
 |g+1,g'+1,m,R,hl,h=>by
  cases hr:Q05 fu fns m with
  |next m2=>simp only[goM,hr]at h ⊢;exact Qa7 (by omega) h
  |done m2 v=>simp only[goM,hr]at h ⊢;exact h
  |fuel=>simp only[goM,hr]at h ⊢;exact h
  |trap c m2=>simp only[goM,hr]at h ⊢;exact h
def EndsM (fu:Int)(fns:List Fun)(m:Ms)(R:Rs):Prop:=∃g,goM fu fns g m=some R
theorem EndsM.det{fu:Int}{fns:List Fun}{m:Ms}{R R':Rs}(h:EndsM fu fns m R)(h':EndsM fu fns m R'):R=R':=by
 obtain⟨g,h⟩:=h
 obtain⟨g',h'⟩:=h'
 have a:=Qa7 (Nat.le_max_left g g') h
 have b:=Qa7 (Nat.le_max_right g g') h'
 rw[a]at b;exact Option.some.inj b
theorem EndsM.step{fu:Int}{fns:List Fun}{m m':Ms}{R:Rs}(h:Q05 fu fns m=.next m')(he:EndsM fu fns m' R):EndsM fu fns m R:=by
 obtain⟨g,he⟩:=he
 exact⟨g+1,by simp[goM,h,he]⟩
theorem EndsM.total{fu:Int}{fns:List Fun}{m:Ms}(h:m.steps<=fu):∃R,EndsM fu fns m R:=by
 obtain⟨g,R,hg⟩:=Qif fu fns _ _ m h rfl rfl
 exact⟨R,g,hg⟩
def initM (t:Tr):Ms:=⟨.ev t .nil,[],[],0,[]⟩
open Classical in
noncomputable def evalT (t:Tr) (fu:Int):Rs:=if h:∃R,EndsM fu [] (initM t) R then h.choose else Q1q
theorem Qae{t:Tr}{fu:Int}{R:Rs}(h:EndsM fu [] (initM t) R):evalT t fu=R:=by
 unfold evalT
 rw[dif_pos ⟨R,h⟩]
 exact EndsM.det (Exists.choose_spec (p:=fun R=>EndsM fu [] (initM t) R) ⟨R,h⟩) h
theorem Q4v(t:Tr){fu:Int}(h:0<=fu):EndsM fu [] (initM t) (evalT t fu):=by
 obtain⟨R,hR⟩:=EndsM.total (fu:=fu) (fns:=[]) (m:=initM t) h
 rw[Qae hR];exact hR
noncomputable def evalE (e:List Ex) (fu:Int):Rs:=
 if check e≠0 then { Q1q with err:=check e }else if fu < 1∨1000000 < fu then { Q1q with err:=4 }else evalT (grow e) fu
end Go.CoreX
namespace Go.CoreX
structure GP where
 p:Lab->Prop
 S:Int->Prop
 W:Int->Prop
 fns:List Fun
 R:Prop:=True
 RW:List Int->Prop:=fun _=>True
structure GPok (G:GP):Prop where
 sh:∀l,G.p l->shpQ l
 bnd:∀l,G.p l->∀i∈Q17 l.op l.binds l.alts,G.S i
 wd:∀l,G.p l->l.op=1->G.W l.n
 rc:∀l,G.p l->l.op=5->∀i,i < l.binds.length->l.ops[i]?=some 2
 wr:∀n,G.W (wrapW n)
 wl:∀n:Int,0<=n->n<=1024->G.W n
 wm:∀a b:Int,G.W a->G.W b->G.W (a.tmod b)
 fn:∀f∈G.fns,allT G.p f.body/\∀i∈f.params,G.S i
 cl:∀l,G.p l->l.op=14∨l.op=15->0<=l.n/\l.n < G.fns.length
 rs:∀l,G.p l->l.op=12->G.R
 rw:∀l,G.p l->l.op=9->G.RW l.binds:=by intros;exact True.intro
 ri:∀l,G.p l->l.op=11->∀ls,G.RW ls->bsIs ls l.n=false->G.RW (ls.take (bsAt ls l.n)++l.n::ls.drop (bsAt ls l.n)):=by intros;exact True.intro
def nLf (o:Int):Prop:=¬(o=0∨o=1∨o=2∨o=17∨o=5)
mutual
def gV (G:GP):Vl->Prop
 |.nil=>True
 |.word n=>G.W n
 |.clo t e=>t.op=2/\allT G.p t/\gE G e
 |.obj _ fs=>gVs G fs
 |.row ls fs=>ls.length=fs.length/\G.RW ls/\gVs G fs
 |.arr _=>True
 |.res fs=>G.R/\gFs G fs
 |.cap n sl=>(0<=n/\n < G.fns.length)/\gVs G sl
def gVs (G:GP):List Vl->Prop
 |[]=>True
 |v::l=>gV G v/\gVs G l
def gE (G:GP):En->Prop
 |.nil=>True
 |.bind i v n=>G.S i/\gV G v/\gE G n
 |.recs t n=>t.op=5/\allT G.p t/\gE G n
def gF (G:GP):Fm->Prop
 |.mk t e d=>allT G.p t/\gE G e/\gVs G d/\d.length < opdN t/\nLf t.op
def gFs (G:GP):List Fm->Prop
 |[]=>True
 |f::l=>gF G f/\gFs G l
end
def gC (G:GP):Ctl->Prop
 |.ev t e=>allT G.p t/\gE G e
 |.rt v=>gV G v
structure gM (G:GP)(m:Ms):Prop where
 c:gC G m.c
 k:gFs G m.k
 h:∀r∈m.heap,r.length<=1024/\gVs G r
section
variable {G:GP}(hG:GPok G)
theorem Q1r:∀{l:List Vl},gVs G l↔∀v∈l,gV G v
 |[]=>by simp[gVs]
 |v::l=>by simp[gVs,Q1r (l:=l)]
theorem Qa9:∀{l:List Fm},gFs G l↔∀v∈l,gF G v
 |[]=>by simp[gFs]
 |v::l=>by simp[gFs,Qa9 (l:=l)]
theorem Qih{f:Fm}:gF G f↔allT G.p f.t/\gE G f.e/\gVs G f.done/\f.done.length < opdN f.t/\nLf f.t.op:=by cases f;exact Iff.rfl
theorem Q23{l:List Vl}(h:gVs G l)(i:Nat):gV G (l.getD i .nil):=by
 rw[List.getD_eq_getElem?_getD]
 cases hi:l[i]? with
 |none=>simp[gV]
 |some v=>exact Q1r.1 h v (List.mem_of_getElem? hi)
theorem Q4k{a b:List Vl}(ha:gVs G a)(hb:gVs G b):gVs G (a++b):=Q1r.2 fun v hv=>(List.mem_append.1 hv).elim (Q1r.1 ha v) (Q1r.1 hb v)
theorem Qcq{a b:List Fm}(ha:gFs G a)(hb:gFs G b):gFs G (a++b):=Qa9.2 fun v hv=>(List.mem_append.1 hv).elim (Qa9.1 ha v) (Qa9.1 hb v)
theorem Q7x:∀{ids:List Int}{l:List Vl}{e:En},gE G e->gVs G l->(∀i∈ids,G.S i)->gE G (allE e ids l)
 |[],_,_,he,_,_=>he
 |i::ids,l,e,he,hl,hs=>by
  refine Q7x (ids:=ids) ⟨hs i (by simp),?_,he⟩ ?_ fun j hj=>hs j (by simp[hj])
  ·cases l with
   |nil=>simp[gV]
   |cons v l=>exact hl.1
  ·cases l with
   |nil=>simp[gVs]
   |cons v l=>exact hl.2
include hG
theorem g_sh{t:Tr}(h:allT G.p t):ShN t.op t.n t.binds t.kids.length t.alts:=Q7c (Q44 hG.sh t h)
theorem g_bnd{t:Tr}(h:allT G.p t):∀i∈Q17 t.op t.binds t.alts,G.S i:=hG.bnd _ (Q0n h)
theorem Qig{t:Tr}(h:allT G.p t){i:Nat}{a:Alt}(ha:t.alts[i]?=some a):∀j∈a.binds,G.S j:=fun j hj=>g_bnd hG h j (by
 unfold Q17
 exact List.mem_append.2 (.inr (List.mem_flatMap.2 ⟨a,List.mem_of_getElem? ha,hj⟩)))
omit hG in
theorem Q7p{l:List Int}{id:Int}:∀{n i:Nat},Q4z l id n=some i->i < n/\l.getD i 0=id
 |0,_,h=>by cases h
 |n+1,i,h=>by
  unfold Q4z at h
  split at h
  ·rename_i he;cases h;exact⟨by omega,he⟩
  ·have:=Q7p h;exact⟨by omega,this.2⟩
theorem Qem{t:Tr}(h:allT G.p t)(h5:t.op=5){i:Nat}(hi:i < t.binds.length):(t.kids.getD i default).op=2/\allT G.p (t.kids.getD i default)/\i < t.kids.length:=by
 have h1:=hG.rc _ (Q0n h) h5 i hi
 simp only at h1
 rw[List.getElem?_map]at h1
 cases hk:t.kids[i]? with
 |none=>rw[hk]at h1;cases h1
 |some s=>
  rw[hk]at h1
  have hl:=(List.getElem?_eq_some_iff.1 hk).1
  refine⟨?_,Q31 h hl,hl⟩
  rw[List.getD_eq_getElem?_getD,hk]
  simpa using h1
theorem Qcr{id:Int}:∀{e:En},gE G e->gV G (findE id e)
 |.nil,_=>by simp[findE,gV]
 |.bind i v n,h=>by
  unfold findE
  split
  ·exact h.2.1
  ·exact Qcr h.2.2
 |.recs t n,h=>by
  unfold findE
  split
  ·rename_i i hi
   have h1:=(Q7p hi).1
   have h2:=Qem hG h.2.1 h.1 h1
   exact⟨h2.1,h2.2.1,h.1,h.2.1,h.2.2⟩
  ·exact Qcr h.2.2
theorem Qbr{t:Tr}{e:En}{tag:Int}{fs:List Vl}{c:Ctl}(ht:allT G.p t)(h7:t.op=7)(he:gE G e)(hf:gVs G fs):∀(l:List Alt)(i:Nat),t.alts.drop i=l->Q0w tag fs e t.kids i l=.ok c->gC G c
 |[],_,_,h=>by cases h
 |a::al,i,hd,h=>by
  have ha:t.alts[i]?=some a:=by
   have:=congrArg (·[0]?) hd
   simpa using this
  have hl:=(List.getElem?_eq_some_iff.1 ha).1
  have hsh:=g_sh hG ht
  rw[h7]at hsh
  have hk:1+i < t.kids.length:=by rw[hsh.case.1];omega
  unfold Q0w at h
  split at h
  ·split at h
   ·cases h;exact⟨Q31 ht hk,Q7x he hf (Qig hG ht ha)⟩
   ·cases h
  ·split at h
   ·cases h;exact⟨Q31 ht hk,he⟩
   ·exact Qbr ht h7 he hf al (i+1) (by rw[←List.drop_drop,hd];rfl) h
omit hG in
theorem Q41{op:Int}:∀{l:List Alt}{i j:Nat},Q0k op i l=some j->0 < j/\i<=j/\∃a,l[j - i]?=some a/\a.tag=op
 |[],_,_,h=>by cases h
 |a::al,i,j,h=>by
  unfold Q0k at h
  split at h
  ·rename_i hc;cases h;exact⟨hc.2,by omega,a,by simp,hc.1⟩
  ·obtain⟨h1,h2,b,h3,h4⟩:=Q41 h
   refine⟨h1,by omega,b,?_,h4⟩
   rw[show j - i=(j - (i+1))+1 by omega];simpa using h3
theorem Q8s{op:Int}{v:Vl}{m m':Ms}(hR:G.R)(hv:gV G v)(hh:∀r∈m.heap,r.length<=1024/\gVs G r):∀{k l:List Fm},gFs G l->gFs G k->Q0m m op v l k=.ok m'->gM G m'
 | [], _, _, _, h => by cases h
 |f::k,l,hl,hk,h=>by
  unfold Q0m at h
  split at h
  ·rename_i i hi
   split at hi
   ·rename_i h13
    obtain⟨h1,h2,a,h3,h4⟩:=Q41 hi
    cases h
    cases f with
    |mk t e d=>
     obtain⟨g1,g2,g3,g4⟩:=hk.1
     simp only[Fm.t_mk,Fm.e_mk]at *
     have hsh:=g_sh hG g1
     rw[h13]at hsh
     have h3:t.alts[i]?=some a:=by simpa using h3
     have hil:=(List.getElem?_eq_some_iff.1 h3).1
     have hb:=(hsh.handle.2.2.2 i a h3).2
     rw[if_neg (by omega)]at hb
     have hS:=Qig hG g1 h3
     have hga:t.alts.getD i ⟨0,[]⟩=a:=by rw[List.getD_eq_getElem?_getD,h3];rfl
     match hab:a.binds,hb with
     |[x,y],_=>
      refine⟨⟨Q31 g1 (by rw[hsh.handle.1];omega),?_,?_,?_,hv,g2⟩,hk.2,hh⟩
      ·rw[hga,hab];exact hS _ (by rw[hab];simp)
      ·exact⟨hR,Qcq (b:=[_]) hl ⟨⟨g1,g2,g3,g4⟩,trivial⟩⟩
      ·rw[hga,hab];exact hS _ (by rw[hab];simp)
   ·cases hi
  ·exact Q8s hR hv hh (Qcq (b:=[f]) hl ⟨hk.1,trivial⟩) hk.2 h
theorem primM_g{fu:Int}{m m':Ms}{n:Int}{l:List Vl}{v:Vl}(hl:gVs G l)(hh:∀r∈m.heap,r.length<=1024/\gVs G r)(h:primM fu m n l=.ok (m',v)):gV G v/\∀r∈m'.heap,r.length<=1024/\gVs G r:=by
 have hw:∀{i:Nat}{a:Int},wordV (l.getD i .nil)=.ok a->G.W a:=by
  intro i a ha
  have:=Q23 hl i
  cases hv:l.getD i Vl.nil <;> rw[hv]at ha this <;> first|(cases ha;done)|(cases ha;exact this)
 unfold primM at h
 repeat' split at h
 all_goals try (simp only[bind,Except.bind,pure,Except.pure]at h;repeat' split at h)
 all_goals try (cases h;done)
 all_goals try (cases h;refine⟨?_,hh⟩;first|exact hG.wr _|(simp only[condV,gV,gVs];done))
 ·rename_i a ha _ b hb _
  cases h;exact⟨hG.wm _ _ (hw ha) (hw hb),hh⟩
 ·unfold Q39 at h
  repeat' split at h
  all_goals try (cases h;done)
  cases h
  refine⟨trivial,fun r hr=>?_⟩
  rcases List.mem_append.1 hr with hr|hr
  ·exact hh r hr
  ·simp at hr
   subst hr
   refine⟨by simp;omega,Q1r.2 fun v hv=>?_⟩
   rw[(List.mem_replicate.1 hv).2]
   exact Q23 hl 1
 ·unfold Q2i at h
  simp only[bind,Except.bind,pure,Except.pure]at h
  have hit:∀{a:Nat}{its:List Vl},Q6p m.heap (l.getD 0 .nil)=.ok (a,its)->its.length<=1024/\gVs G its:=by
   intro a its ha
   cases hv:l.getD 0 Vl.nil <;> rw[hv]at ha <;> try (cases ha;done)
   cases ha
   rw[List.getD_eq_getElem?_getD]
   cases hr:m.heap[a]? with
   |none=>simp[gVs]
   |some r=>exact hh r (List.mem_of_getElem? hr)
  cases hp:Q6p m.heap (l.getD 0 .nil) with
  |error c=>rw[hp]at h;cases h
  |ok p=>
   obtain⟨a,its⟩:=p
   rw[hp]at h
   simp only at h
   by_cases h9:n=9
   ·rw[if_pos h9]at h
    cases h
    exact⟨hG.wl _ (by omega) (by have:=(hit hp).1;omega),hh⟩
   rw[if_neg h9]at h
   cases hw1:wordV (l.getD 1 .nil) with
   |error c=>rw[hw1]at h;cases h
   |ok i=>
    rw[hw1]at h
    simp only at h
    split at h
    ·cases h
    split at h
    ·cases h
     exact⟨Q23 (hit hp).2 _,hh⟩
    ·cases h
     refine⟨by simp only[gV,gVs],fun r hr=>?_⟩
     rcases List.mem_or_eq_of_mem_set hr with hr|hr
     ·exact hh r hr
     ·subst hr
      refine⟨by simpa using (hit hp).1,Q1r.2 fun v hv=>?_⟩
      rcases List.mem_or_eq_of_mem_set hv with hv|hv
      ·exact Q1r.1 (hit hp).2 v hv
      ·rw[hv];exact Q23 hl 2
theorem Qk1{fu:Int}{m m':Ms}{t:Tr}{l:List Vl}{v:Vl}(ht:allT G.p t)(h11:t.op=6∨t.op=8∨t.op=9∨t.op=10∨t.op=11)(hlen:l.length=t.kids.length)(hl:gVs G l)(hh:∀r∈m.heap,r.length<=1024/\gVs G r)(h:Q0r fu m t l=.ok (m',v)):gV G v/\∀r∈m'.heap,r.length<=1024/\gVs G r:=by
 have hr:∀{ls:List Int}{fs:List Vl},rowsV (l.getD 0 .nil)=.ok (ls,fs)->ls.length=fs.length/\G.RW ls/\gVs G fs:=by
  intro ls fs ha
  have:=Q23 hl 0
  cases hv:l.getD 0 Vl.nil <;> rw[hv]at ha this <;> first|(cases ha;done)|(cases ha;exact this)
 unfold Q0r at h
 split at h
 ·cases h;exact⟨hl,hh⟩
 split at h
 ·exact primM_g hG hl hh h
 split at h
 ·rename_i h9
  cases h
  have:=g_sh hG ht
  rw[h9]at this
  exact⟨⟨by rw[hlen];exact this.row.1.symm,hG.rw _ (Q0n ht) h9,hl⟩,hh⟩
 split at h
 ·simp only[bind,Except.bind,pure,Except.pure]at h
  repeat' split at h
  all_goals try (cases h;done)
  rename_i _ p hp _
  obtain⟨ls,fs⟩:=p
  cases h
  exact⟨Q23 (hr hp).2.2 _,hh⟩
 ·rename_i n6 n8 n9 n10
  have h11':t.op=11:=by omega
  simp only[bind,Except.bind,pure,Except.pure]at h
  repeat' split at h
  all_goals try (cases h;done)
  rename_i _ p hp
  obtain⟨ls,fs⟩:=p
  cases h
  refine⟨?_,hh⟩
  have hv:=Q23 hl 1
  obtain⟨h1,hrw,h2⟩:=hr hp
  unfold withR
  split
  ·refine⟨by simpa using h1,hrw,Q1r.2 fun v hv'=>?_⟩
   rcases List.mem_or_eq_of_mem_set hv' with h3|h3
   ·exact Q1r.1 h2 v h3
   ·rw[h3];exact hv
  ·rename_i hbs
   refine⟨by simp[h1],hG.ri _ (Q0n ht) h11' _ hrw (by simpa using hbs),Q4k (Q1r.2 fun v hv'=>Q1r.1 h2 v (List.mem_of_mem_take hv')) ⟨hv,Q1r.2 fun v hv'=>Q1r.1 h2 v (List.mem_of_mem_drop hv')⟩⟩
theorem g_fn(n:Int)(h:0<=n/\n < G.fns.length):allT G.p (G.fns.getD n.toNat ⟨[],default⟩).body/\∀i∈(G.fns.getD n.toNat ⟨[],default⟩).params,G.S i:=by
 have hl:n.toNat < G.fns.length:=by omega
 rw[List.getD_eq_getElem?_getD,List.getElem?_eq_getElem hl]
 exact hG.fn _ (List.getElem_mem hl)
theorem g_opN{t:Tr}(ht:allT G.p t):opdN t<=t.kids.length:=by
 have hsh:=g_sh hG ht
 unfold opdN
 split
 ·rename_i h
  rcases h with h|h|h|h <;> rw[h]at hsh
  ·rw[hsh.lett.1];omega
  ·rw[hsh.case.1];omega
  ·rw[hsh.handle.1];omega
  ·rw[(hsh.one (.inr (.inl rfl))).1];omega
 ·omega
omit hG in
theorem Qgj{o n:Int}{b:List Int}{k:Nat}{a:List Alt}(h:ShN o n b k a):0<=o/\o<=17:=by
 by_cases h7:o=7∨o=13
 ·omega
 ·obtain⟨w,⟨ops,hl,hw⟩,_⟩:=h.want h7
  refine Classical.byContradiction fun hc=>?_
  have h0:wants ⟨o,n,b,ops,a⟩=none:=by
   unfold wants
   simp only
   rw[if_neg (by omega),if_neg (by omega),if_neg (by omega),if_neg (by omega),if_neg (by omega),if_neg (by omega),if_neg (by omega),if_neg (by omega),if_neg (by omega),if_neg (by omega),if_neg (by omega),if_neg (by omega)]
  rw[h0]at hw
  cases hw
theorem kidM_g{fu:Int}{m m':Ms}{f:Fm}{k:List Fm}(ht:allT G.p f.t)(he:gE G f.e)(hd:gVs G f.done)(hl:f.done.length<=opdN f.t)(hn:nLf f.t.op)(hk:gFs G k)(hh:∀r∈m.heap,r.length<=1024/\gVs G r)(h:kidM fu G.fns m f k=.ok m'):gM G m':=by
 have hsh:=g_sh hG ht
 have hop:=g_opN hG ht
 have hv:=Q23 hd 0
 unfold kidM at h
 split at h
 ·rename_i hlt
  cases h
  refine⟨⟨Q31 ht (by omega),he⟩,⟨?_,hk⟩,hh⟩
  cases f;exact⟨ht,he,hd,hlt,hn⟩
 rename_i hge
 split at h
 ·rename_i h4
  cases h
  rw[h4]at hsh
  obtain⟨h1,h2,h3⟩:=hsh.lett
  refine⟨⟨Q31 ht (by omega),?_,hv,he⟩,hk,hh⟩
  have:=g_bnd hG ht
  unfold Q17 at this
  rw[if_pos (by omega)]at this
  match hb:f.t.binds,h2 with
  |[x],_=>rw[hb]at this;exact this x (by simp)
 split at h
 ·rename_i h7
  unfold Q1y at h
  split at h
  ·rename_i tag fs hobj
   cases hc:Q0w tag fs f.e f.t.kids 0 f.t.alts with
   |error c=>rw[hc]at h;cases h
   |ok c=>
    rw[hc]at h
    cases h
    rw[hobj]at hv
    exact⟨Qbr hG ht h7 he hv _ 0 rfl hc,hk,hh⟩
  ·cases h
 split at h
 ·rename_i h3
  have hd1:gVs G (f.done.drop 1):=Q1r.2 fun v hv'=>Q1r.1 hd v (List.mem_of_mem_drop hv')
  unfold callM at h
  split at h
  ·rename_i t e hclo
   rw[hclo]at hv
   split at h
   ·cases h
    have h1:=g_sh hG hv.2.1
    have h2:=g_bnd hG hv.2.1
    rw[hv.1]at h1
    unfold Q17 at h2
    rw[hv.1,if_pos (by simp)]at h2
    refine⟨⟨Q31 hv.2.1 (by have:=h1.lam.1;omega),Q7x hv.2.2 hd1 fun i hi=>h2 i (List.mem_append.2 (.inl hi))⟩,hk,hh⟩
   ·cases h
  ·rename_i n slots hcap
   rw[hcap]at hv
   split at h
   ·cases h
    have:=g_fn hG n hv.1
    exact⟨⟨this.1,Q7x trivial ⟨hv,hd1⟩ this.2⟩,hk,hh⟩
   ·cases h
  ·rename_i fs hres
   rw[hres]at hv
   split at h
   ·rename_i a ha
    cases h
    rw[ha]at hd1
    exact⟨hd1.1,Qcq hv.2 hk,hh⟩
   ·cases h
  ·cases h
 split at h
 ·rename_i h13
  cases h
  rw[h13]at hsh
  obtain⟨h1,h2,h3,h4⟩:=hsh.handle
  refine⟨⟨Q31 ht (by omega),?_,hv,he⟩,hk,hh⟩
  obtain⟨a,ha⟩:∃a,f.t.alts[0]?=some a:=⟨_,List.getElem?_eq_getElem (by omega)⟩
  have hb:=(h4 0 a ha).2
  rw[if_pos rfl]at hb
  have hS:=Qig hG ht ha
  have hga:f.t.alts.getD 0 ⟨0,[]⟩=a:=by rw[List.getD_eq_getElem?_getD,ha];rfl
  rw[hga]
  match hab:a.binds,hb with
  |[x],_=>rw[hab]at hS;exact hS x (by simp)
 split at h
 ·rename_i h12
  exact Q8s hG (hG.rs _ (Q0n ht) h12) (l:=[]) hv hh trivial hk h
 split at h
 ·rename_i h14
  cases h
  have:=g_fn hG f.t.n (hG.cl _ (Q0n ht) (.inl h14))
  exact⟨⟨this.1,Q7x trivial hd this.2⟩,hk,hh⟩
 split at h
 ·rename_i h15
  cases h
  exact⟨⟨hG.cl _ (Q0n ht) (.inr h15),hd⟩,hk,hh⟩
 split at h
 ·split at h
  ·rename_i n slots hcap
   rw[hcap]at hv
   split at h
   ·cases h;exact⟨Q23 hv.2 _,hk,hh⟩
   ·cases h
  ·cases h
 ·rename_i h4 h7 h3 h13 h12 h14 h15 h16
  cases hp:Q0r fu { m with k:=k } f.t f.done with
  |error c=>rw[hp]at h;cases h
  |ok mv=>
   obtain⟨m2,v2⟩:=mv
   rw[hp]at h
   cases h
   have hlen:f.done.length=f.t.kids.length:=by
    unfold opdN at hge hl
    rw[if_neg (by omega)]at hge hl
    omega
   obtain⟨g1,g2⟩:=Qk1 hG (m:={ m with k:=k }) ht (by have:=Qgj hsh;unfold nLf at hn;omega) hlen hd hh hp
   refine⟨g1,?_,g2⟩
   rw[(Q2o hp).2.2];exact hk
theorem Qjf{fu:Int}{m m':Ms}{t:Tr}{e:En}(ht:allT G.p t)(he:gE G e)(hk:gFs G m.k)(hh:∀r∈m.heap,r.length<=1024/\gVs G r)(h:Q0d fu G.fns m t e=.ok m'):gM G m':=by
 unfold Q0d at h
 split at h
 ·cases h;exact⟨Qcr hG he,hk,hh⟩
 split at h
 ·rename_i h1
  cases h;exact⟨hG.wd _ (Q0n ht) h1,hk,hh⟩
 split at h
 ·rename_i h2
  cases h;exact⟨⟨h2,ht,he⟩,hk,hh⟩
 split at h
 ·cases h
 split at h
 ·rename_i h5
  cases h
  have hsh:=g_sh hG ht
  rw[h5]at hsh
  exact⟨⟨Q31 ht (by have:=hsh.recs.1;omega),h5,ht,he⟩,hk,hh⟩
 ·rename_i h0 h1 h2 h17 h5
  exact kidM_g hG (f:=.mk t e []) ht he trivial (Nat.zero_le _) (fun hh=>hh.elim h0 fun hh=>hh.elim h1 fun hh=>hh.elim h2 fun hh=>hh.elim h17 h5) hk hh h
theorem Q3f{fu:Int}{m m':Ms}(hm:gM G m)(h:Q05 fu G.fns m=.next m'):gM G m':=by
 unfold Q05 at h
 split at h
 ·rename_i v hc
  have hv:gV G v:=by have:=hm.c;rw[hc]at this;exact this
  split at h
  ·cases h
  ·rename_i f k hk
   have hf:=hm.k
   rw[hk]at hf
   split at h
   ·rename_i m2 hkid
    cases h
    obtain⟨g1,g2,g3,g4,g5⟩:=Qih.1 hf.1
    exact kidM_g hG (f:=.mk f.t f.e (f.done++[v])) g1 g2 (Q4k (b:=[v]) g3 ⟨hv,trivial⟩) (by simp only[Fm.done_mk,Fm.t_mk,List.length_append,List.length_singleton];omega) g5 hf.2 hm.h hkid
   ·cases h
 ·rename_i t e hc
  have ht:allT G.p t/\gE G e:=by have:=hm.c;rw[hc]at this;exact this
  split at h
  ·cases h
  ·split at h
   ·rename_i m2 hst
    cases h
    exact Qjf hG (m:={ m with steps:=m.steps+1 }) ht.1 ht.2 hm.k hm.h hst
   ·cases h
end
end Go.CoreX
namespace Go.CoreX
structure Sim where
 ν:Int->Int
 eb:En
 kb:List Fm
 ob:List Int
 hb:List (List Vl)
 st:Int
mutual
def mapV (s:Sim):Vl->Vl
 |.nil=>.nil
 |.word n=>.word n
 |.clo t e=>.clo (mapT s.ν t) (mapE s e)
 |.obj g fs=>.obj g (mapVs s fs)
 |.row ls fs=>.row ls (mapVs s fs)
 |.arr a=>.arr (s.hb.length+a)
 |.res fs=>.res (mapFs s fs)
 |.cap n sl=>.cap n (mapVs s sl)
def mapVs (s:Sim):List Vl->List Vl
 |[]=>[]
 |v::l=>mapV s v::mapVs s l
def mapE (s:Sim):En->En
 |.nil=>s.eb
 |.bind i v n=>.bind (s.ν i) (mapV s v) (mapE s n)
 |.recs t n=>.recs (mapT s.ν t) (mapE s n)
def mapF (s:Sim):Fm->Fm
 |.mk t e d=>.mk (mapT s.ν t) (mapE s e) (mapVs s d)
def mapFs (s:Sim):List Fm->List Fm
 |[]=>[]
 |f::l=>mapF s f::mapFs s l
end
def mapC (s:Sim):Ctl->Ctl
 |.ev t e=>.ev (mapT s.ν t) (mapE s e)
 |.rt v=>.rt (mapV s v)
def mapM (s:Sim)(m:Ms):Ms:=⟨mapC s m.c,mapFs s m.k++s.kb,s.ob++m.out,s.st+m.steps,s.hb++m.heap.map (mapVs s)⟩
structure SimOk (s:Sim)(G:GP):Prop where
 inj:∀a b,G.S a->G.S b->s.ν a=s.ν b->a=b
 eb:∀a,G.S a->findE (s.ν a) s.eb=.nil
 var:∀l,G.p l->l.op=0->G.S l.n
 kb:∀l,G.p l->l.op=12->∀f∈s.kb,f.t.op=13->Q0k l.n 0 f.t.alts=none
 fns:G.fns=[]
section
variable {s:Sim}{G:GP}
theorem Q2v:∀l:List Vl,mapVs s l=l.map (mapV s)
 |[]=>rfl
 |v::l=>by simp[mapVs,Q2v l]
theorem Q9y:∀l:List Fm,mapFs s l=l.map (mapF s)
 |[]=>rfl
 |v::l=>by simp[mapFs,Q9y l]
theorem Qhg(ν:Int->Int):∀l:List Tr,mapTs ν l=l.map (mapT ν)
 |[]=>rfl
 |v::l=>by simp[mapTs,Qhg ν l]
theorem Q32(l:List Vl)(i:Nat):(mapVs s l).getD i .nil=mapV s (l.getD i .nil):=by
 rw[Q2v,List.getD_eq_getElem?_getD,List.getD_eq_getElem?_getD,List.getElem?_map]
 cases l[i]? <;> simp[mapV]
theorem Q5j(l:List Vl):(mapVs s l).length=l.length:=by rw[Q2v];simp
theorem Q7l(a b:List Vl):mapVs s (a++b)=mapVs s a++mapVs s b:=by simp[Q2v]
theorem Q7m(a b:List Fm):mapFs s (a++b)=mapFs s a++mapFs s b:=by simp[Q9y]
section
variable (ν:Int->Int)(t:Tr)
theorem Q66:(mapT ν t).op=t.op:=by cases t;rfl
theorem Qhh:(mapT ν t).n=if t.op=0 then ν t.n else t.n:=by cases t;rfl
theorem Q3q:(mapT ν t).binds=if t.op=9 then t.binds else t.binds.map ν:=by cases t;rfl
theorem Qb9:(mapT ν t).kids=t.kids.map (mapT ν):=by cases t;simp[mapT,Qhg]
theorem Q5k:(mapT ν t).alts=t.alts.map (mapA ν):=by cases t;rfl
theorem Q2w{i:Nat}(h:i < t.kids.length):(mapT ν t).kids.getD i default=mapT ν (t.kids.getD i default):=by
 rw[Qb9,List.getD_eq_getElem?_getD,List.getD_eq_getElem?_getD,List.getElem?_map,List.getElem?_eq_getElem h];rfl
theorem Qkb:opdN (mapT ν t)=opdN t:=by
 unfold opdN
 rw[Q66,Qb9,List.length_map]
end
theorem mapF_t(f:Fm):(mapF s f).t=mapT s.ν f.t:=by cases f;rfl
theorem mapF_e(f:Fm):(mapF s f).e=mapE s f.e:=by cases f;rfl
theorem Qhj(f:Fm):(mapF s f).done=mapVs s f.done:=by cases f;rfl
theorem Q8y(hG:GPok G)(hs:SimOk s G){id:Int}(hid:G.S id){l:List Int}(hl:∀i∈l,G.S i):∀n,n<=l.length->Q4z (l.map s.ν) (s.ν id) n=Q4z l id n
 |0,_=>rfl
 |n+1,hn=>by
  unfold Q4z
  have hlt:n < l.length:=by omega
  have e1:(l.map s.ν).getD n 0=s.ν (l.getD n 0):=by
   rw[List.getD_eq_getElem?_getD,List.getD_eq_getElem?_getD,List.getElem?_map,List.getElem?_eq_getElem hlt];rfl
  have e2:G.S (l.getD n 0):=by
   rw[List.getD_eq_getElem?_getD,List.getElem?_eq_getElem hlt];exact hl _ (List.getElem_mem hlt)
  rw[e1,Q8y hG hs hid hl n (by omega)]
  by_cases e:l.getD n 0=id
  ·rw[if_pos e,if_pos (by rw[e])]
  ·rw[if_neg e,if_neg fun h=>e (hs.inj _ _ e2 hid h)]
theorem Qab(hG:GPok G)(hs:SimOk s G){id:Int}(hid:G.S id):∀{e:En},gE G e->findE (s.ν id) (mapE s e)=mapV s (findE id e)
 |.nil,_=>by simp[mapE,findE,mapV,hs.eb id hid]
 |.bind i v n,h=>by
  simp only[mapE,findE]
  by_cases e:i=id
  ·rw[if_pos e,if_pos (by rw[e])]
  ·rw[if_neg e,if_neg fun h'=>e (hs.inj _ _ h.1 hid h'),Qab hG hs hid h.2.2]
 |.recs t n,h=>by
  simp only[mapE,findE]
  have hb:(mapT s.ν t).binds=t.binds.map s.ν:=by rw[Q3q,if_neg (by rw[h.1];decide)]
  have hS:∀i∈t.binds,G.S i:=fun i hi=>g_bnd hG h.2.1 i (by
   unfold Q17;rw[if_pos (by rw[h.1];simp)];exact List.mem_append.2 (.inl hi))
  rw[hb,List.length_map,Q8y hG hs hid hS _ (Nat.le_refl _)]
  split
  ·rename_i i hi
   have h1:=(Q7p hi).1
   have h2:=Qem hG h.2.1 h.1 h1
   simp only[mapV,mapE]
   rw[Q2w _ _ h2.2.2]
  ·exact Qab hG hs hid h.2.2
theorem all_map:∀(ids:List Int)(l:List Vl)(e:En),allE (mapE s e) (ids.map s.ν) (mapVs s l)=mapE s (allE e ids l)
 |[],_,_=>by simp[allE]
 |i::ids,l,e=>by
  have h1:(mapVs s l).headD .nil=mapV s (l.headD .nil):=by cases l <;> simp[mapVs,mapV]
  have h2:(mapVs s l).tail=mapVs s l.tail:=by cases l <;> simp[mapVs]
  simp only[List.map_cons,allE,h1,h2]
  exact all_map ids l.tail (.bind i (l.headD .nil) e)
theorem Q9b(hG:GPok G){t:Tr}(ht:allT G.p t)(h7:t.op=7){tag:Int}{fs:List Vl}{e:En}:∀(l:List Alt)(i:Nat),t.alts.drop i=l->Q0w tag (mapVs s fs) (mapE s e) (mapT s.ν t).kids i (l.map (mapA s.ν))=(Q0w tag fs e t.kids i l).map (mapC s)
 |[],i,_=>rfl
 |a::al,i,hd=>by
  have ha:t.alts[i]?=some a:=by
   have:=congrArg (·[0]?) hd
   simpa using this
  have hl:=(List.getElem?_eq_some_iff.1 ha).1
  have hsh:=g_sh hG ht
  rw[h7]at hsh
  have hk:1+i < t.kids.length:=by rw[hsh.case.1];omega
  simp only[List.map_cons,Q0w,mapA,List.length_map,Q5j]
  by_cases h1:a.tag=tag
  ·rw[if_pos h1,if_pos h1]
   by_cases h2:a.binds.length=fs.length
   ·rw[if_pos h2,if_pos h2]
    simp only[Except.map,mapC,Q2w _ _ hk,all_map]
   ·rw[if_neg h2,if_neg h2];rfl
  ·rw[if_neg h1,if_neg h1]
   by_cases h2:a.tag=-1
   ·rw[if_pos h2,if_pos h2]
    simp only[Except.map,mapC,Q2w _ _ hk]
   ·rw[if_neg h2,if_neg h2]
    exact Q9b hG ht h7 al (i+1) (by rw[←List.drop_drop,hd];rfl)
theorem Q9a(ν:Int->Int)(op:Int):∀(l:List Alt)(i:Nat),Q0k op i (l.map (mapA ν))=Q0k op i l
 |[],_=>rfl
 |a::al,i=>by simp only[List.map_cons,Q0k,mapA,Q9a ν op al (i+1)]
theorem Q8r{m:Ms}{op:Int}{v:Vl}:∀(l k:List Fm),(∀f∈k,f.t.op=13->Q0k op 0 f.t.alts=none)->Q0m m op v l k=.error 4
 |_,[],_=>rfl
 |l,f::k,h=>by
  unfold Q0m
  have:(if f.t.op=13 then Q0k op 0 f.t.alts else none)=none:=by
   split
   ·rename_i h13;exact h f (by simp) h13
   ·rfl
  rw[this]
  exact Q8r _ k fun g hg=>h g (by simp[hg])
theorem Q7h(hG:GPok G){m:Ms}{op:Int}{v:Vl}(hkb:∀f∈s.kb,f.t.op=13->Q0k op 0 f.t.alts=none):∀(l k:List Fm),gFs G k->Q0m (mapM s m) op (mapV s v) (mapFs s l) (mapFs s k++s.kb)=(Q0m m op v l k).map (mapM s)
 |l,[],_=>by
  simp only[mapFs,List.nil_append]
  rw[Q8r _ _ hkb];rfl
 |l,f::k,hk=>by
  have hc:(if (mapF s f).t.op=13 then Q0k op 0 (mapF s f).t.alts else none)=(if f.t.op=13 then Q0k op 0 f.t.alts else none):=by
   rw[mapF_t,Q66,Q5k,Q9a]
  simp only[mapFs,List.cons_append,Q0m,hc]
  cases f with
  |mk t e d=>
   obtain⟨g1,g2,g3,g4⟩:=hk.1
   cases hcl:(if (Fm.mk t e d).t.op=13 then Q0k op 0 (Fm.mk t e d).t.alts else none) with
   |none=>
    simp only[]
    have:=Q7h hG (v:=v) (m:=m) hkb (l++[.mk t e d]) k hk.2
    rw[Q7m]at this
    exact this
   |some i=>
    have hcl:(if t.op=13 then Q0k op 0 t.alts else none)=some i:=hcl
    by_cases h13:t.op=13
    ·rw[if_pos h13]at hcl
     obtain⟨h1,h2,a,h3,h4⟩:=Q41 hcl
     have hsh:=g_sh hG g1
     rw[h13]at hsh
     have h3:t.alts[i]?=some a:=by simpa using h3
     have hil:=(List.getElem?_eq_some_iff.1 h3).1
     have hb:=(hsh.handle.2.2.2 i a h3).2
     rw[if_neg (by omega)]at hb
     have hga:t.alts.getD i ⟨0,[]⟩=a:=by rw[List.getD_eq_getElem?_getD,h3];rfl
     have hgm:(mapT s.ν t).alts.getD i ⟨0,[]⟩=mapA s.ν a:=by rw[Q5k,List.getD_eq_getElem?_getD,List.getElem?_map,h3];rfl
     match hab:a.binds,hb with
     |[x,y],_=>
      simp only[mapF,Fm.t_mk,Fm.e_mk,hga,hgm,mapA,hab,List.map_cons,Except.map,mapM,mapC,mapE,mapV,Q7m,mapFs]
      rw[Q2w _ _ (by rw[hsh.handle.1];omega)]
      rfl
    ·rw[if_neg h13]at hcl;cases hcl
theorem Qg8(v:Vl):wordV (mapV s v)=wordV v:=by cases v <;> simp[mapV,wordV]
theorem Qhx(m:Ms)(v:Vl):Q6p (mapM s m).heap (mapV s v)=(Q6p m.heap v).map fun (a,l)=>(s.hb.length+a,mapVs s l):=by
 cases v <;> simp only[mapV,Q6p,Except.map]
 rename_i a
 congr 2
 simp only[mapM]
 rw[List.getD_eq_getElem?_getD,List.getElem?_append_right (by omega),Nat.add_sub_cancel_left,List.getElem?_map,List.getD_eq_getElem?_getD]
 cases m.heap[a]? <;> simp[mapVs]
theorem Qjp(v:Vl):rowsV (mapV s v)=(rowsV v).map fun (l,f)=>(l,mapVs s f):=by cases v <;> simp[mapV,rowsV,Except.map]
theorem Qjy{fu fu2:Int}(hf:s.st+fu<=fu2){m:Ms}{n:Int}{l:List Vl}{x:Except Int (Ms×Vl)}(h:primM fu m n l=x)
  (hok:∀m' v,x=.ok (m',v)->s.ob=[]∨s.ob.length+m'.out.length<=1000) (her:∀c,x=.error c->(0<=c∨s.st+fu=fu2)/\(s.ob=[]∨m.out.length < 1000)):
  primM fu2 (mapM s m) n (mapVs s l)=x.map fun (m',v)=>(mapM s m',mapV s v):=by
 subst h
 have hlen:(s.ob++m.out).length=1000↔s.ob.length+m.out.length=1000:=by simp
 unfold primM at hok her ⊢
 simp only[Q32,Qg8]
 by_cases h0:n=0
 ·simp only[if_pos h0,bind,Except.bind,pure,Except.pure]
  cases wordV (l.getD 0 .nil) <;> cases wordV (l.getD 1 .nil) <;> rfl
 by_cases h1:n=1
 ·simp only[if_neg h0,if_pos h1,bind,Except.bind,pure,Except.pure]
  cases wordV (l.getD 0 .nil) <;> cases wordV (l.getD 1 .nil) <;> rfl
 by_cases h2:n=2
 ·simp only[if_neg h0,if_neg h1,if_pos h2,bind,Except.bind,pure,Except.pure]
  cases wordV (l.getD 0 .nil) <;> cases wordV (l.getD 1 .nil) <;> rfl
 by_cases h3:n=3
 ·simp only[if_neg h0,if_neg h1,if_neg h2,if_pos h3,bind,Except.bind,pure,Except.pure]
  cases wordV (l.getD 0 .nil) <;> cases wordV (l.getD 1 .nil) <;> first|rfl|(simp only[];split <;> rfl)
 by_cases h4:n=4
 ·simp only[if_neg h0,if_neg h1,if_neg h2,if_neg h3,if_pos h4,bind,Except.bind,pure,Except.pure]
  cases wordV (l.getD 0 .nil) <;> cases wordV (l.getD 1 .nil) <;> first|rfl|(simp only[];split <;> rfl)
 have hcond:∀b,mapV s (condV b)=condV b:=fun b=>by simp[condV,mapV,mapVs]
 by_cases h5:n=5
 ·simp only[if_neg h0,if_neg h1,if_neg h2,if_neg h3,if_neg h4,if_pos h5,bind,Except.bind,pure,Except.pure]
  cases wordV (l.getD 0 .nil) <;> cases wordV (l.getD 1 .nil) <;> simp[Except.map,hcond]
 by_cases h6:n=6
 ·simp only[if_neg h0,if_neg h1,if_neg h2,if_neg h3,if_neg h4,if_neg h5,if_pos h6,bind,Except.bind,pure,Except.pure]
  cases wordV (l.getD 0 .nil) <;> cases wordV (l.getD 1 .nil) <;> simp[Except.map,hcond]
 by_cases h7:n=7
 ·simp only[if_neg h0,if_neg h1,if_neg h2,if_neg h3,if_neg h4,if_neg h5,if_neg h6,if_pos h7,bind,Except.bind,pure,Except.pure]at hok her ⊢
  cases hw:wordV (l.getD 0 .nil) with
  |error c=>rfl
  |ok a=>
   rw[hw]at hok her
   simp only at hok her ⊢
   by_cases hm:m.out.length=1000
   ·rw[if_pos hm]at her ⊢
    have:=(her 6 rfl).2
    have hcnd:(mapM s m).out.length=1000:=by
     show (s.ob++m.out).length=1000
     rcases this with h|h
     ·simp[h,hm]
     ·omega
    rw[if_pos hcnd]
    rfl
   ·rw[if_neg hm]at hok ⊢
    have:=hok _ _ rfl
    have hcnd:¬(mapM s m).out.length=1000:=by
     show ¬(s.ob++m.out).length=1000
     rcases this with h|h
     ·simp[h,hm]
     ·simp at h ⊢;omega
    rw[if_neg hcnd]
    simp[Except.map,mapV,mapVs,mapM]
 by_cases h8:n=8
 ·simp only[if_neg h0,if_neg h1,if_neg h2,if_neg h3,if_neg h4,if_neg h5,if_neg h6,if_neg h7,if_pos h8,bind,Except.bind,pure,Except.pure]at hok her ⊢
  cases hw:wordV (l.getD 0 .nil) with
  |error c=>rfl
  |ok a=>
   rw[hw]at hok her
   simp only[Q39]at hok her ⊢
   have hst:(mapM s m).steps=s.st+m.steps:=rfl
   by_cases hb:a < 0∨1024 < a
   ·rw[if_pos hb,if_pos hb];rfl
   ·rw[if_neg hb,if_neg hb]at *
    by_cases hfu:fu - m.steps < a
    ·rw[if_pos hfu]at her ⊢
     have:=(her (-1) rfl).1
     rw[if_pos (show fu2 - (mapM s m).steps < a by omega)]
     rfl
    ·rw[if_neg hfu]at hok ⊢
     rw[if_neg (show ¬fu2 - (mapM s m).steps < a by omega)]
     simp only[mapM,Except.map,mapV,List.map_append,List.map_cons,List.map_nil,List.length_append,List.length_map,List.append_assoc,Int.add_assoc]
     congr 4
     simp[Q2v,List.map_replicate]
 ·simp only[if_neg h0,if_neg h1,if_neg h2,if_neg h3,if_neg h4,if_neg h5,if_neg h6,if_neg h7,if_neg h8]
  unfold Q2i
  simp only[Q32,Qg8,Qhx,bind,Except.bind,pure,Except.pure]
  cases hit:Q6p m.heap (l.getD 0 .nil) with
  |error c=>rfl
  |ok p=>
   obtain⟨a,its⟩:=p
   simp only[Except.map,Q5j]
   by_cases h9:n=9
   ·simp[if_pos h9,mapV]
   ·rw[if_neg h9,if_neg h9]
    cases hw:wordV (l.getD 1 .nil) with
    |error c=>rfl
    |ok i=>
     simp only[]
     by_cases hb:i < 0∨(its.length:Int)<=i
     ·rw[if_pos hb,if_pos hb]
     ·rw[if_neg hb,if_neg hb]
      by_cases h10:n=10
      ·rw[if_pos h10,if_pos h10,Q32]
      ·rw[if_neg h10,if_neg h10]
       simp only[mapM,mapV,mapVs]
       congr 4
       rw[List.set_append_right _ _ (by omega),Nat.add_sub_cancel_left,List.map_set]
       congr 2
       simp[Q2v,List.map_set]
theorem Qj7(ls:List Int)(fs:List Vl)(n:Int)(v:Vl):withR ls (mapVs s fs) n (mapV s v)=mapV s (withR ls fs n v):=by
 unfold withR
 split
 ·simp[mapV,Q2v,List.map_set]
 ·simp[mapV,Q2v]
theorem Qh9{fu fu2:Int}(hf:s.st+fu<=fu2){m:Ms}{t:Tr}{l:List Vl}{x:Except Int (Ms×Vl)}(h:Q0r fu m t l=x)(h0:t.op≠0)
  (hok:∀m' v,x=.ok (m',v)->s.ob=[]∨s.ob.length+m'.out.length<=1000) (her:∀c,x=.error c->(0<=c∨s.st+fu=fu2)/\(s.ob=[]∨m.out.length < 1000)):
  Q0r fu2 (mapM s m) (mapT s.ν t) (mapVs s l)=x.map fun (m',v)=>(mapM s m',mapV s v):=by
 unfold Q0r at h ⊢
 rw[Q66,Qhh,if_neg h0]
 by_cases h6:t.op=6
 ·rw[if_pos h6]at h ⊢
  subst h;simp[Except.map,mapV]
 rw[if_neg h6]at h ⊢
 by_cases h8:t.op=8
 ·rw[if_pos h8]at h ⊢
  exact Qjy hf h hok her
 rw[if_neg h8]at h ⊢
 by_cases h9:t.op=9
 ·rw[if_pos h9]at h ⊢
  subst h
  simp[Except.map,mapV,Q3q,h9]
 rw[if_neg h9]at h ⊢
 simp only[Q32,Qjp]
 by_cases h10:t.op=10
 ·rw[if_pos h10]at h ⊢
  subst h
  simp only[bind,Except.bind,pure,Except.pure]
  cases rowsV (l.getD 0 .nil) with
  |error c=>rfl
  |ok p=>
   obtain⟨ls,fs⟩:=p
   simp only[Except.map]
   split
   ·rw[Q32]
   ·rfl
 ·rw[if_neg h10]at h ⊢
  subst h
  simp only[bind,Except.bind,pure,Except.pure]
  cases rowsV (l.getD 0 .nil) with
  |error c=>rfl
  |ok p=>
   obtain⟨ls,fs⟩:=p
   simp only[Except.map,Qj7]
end
end Go.CoreX
namespace Go.CoreX
section
variable {s:Sim}{G:GP}
theorem Qed(hG:GPok G)(hs:SimOk s G){fu fu2:Int}(hf:s.st+fu<=fu2){m:Ms}{f:Fm}{k:List Fm}{x:Except Int Ms}(ht:allT G.p f.t)(he:gE G f.e)(hd:gVs G f.done)(hl:f.done.length<=opdN f.t)(hk:gFs G k)(hn0:f.t.op≠0)
  (h:kidM fu [] m f k=x) (hok:∀m',x=.ok m'->s.ob=[]∨s.ob.length+m'.out.length<=1000) (her:∀c,x=.error c->(0<=c∨s.st+fu=fu2)/\(s.ob=[]∨m.out.length < 1000)):
  kidM fu2 [] (mapM s m) (mapF s f) (mapFs s k++s.kb)=x.map (mapM s):=by
 have hsh:=g_sh hG ht
 have hop:=g_opN hG ht
 unfold kidM at h ⊢
 rw[Qhj,Q5j,mapF_t,Qkb,Q66,mapF_e,Qhh,if_neg hn0]
 simp only[Q32]
 by_cases hlt:f.done.length < opdN f.t
 ·rw[if_pos hlt]at h ⊢
  subst h
  rw[Q2w _ _ (by omega)]
  simp[Except.map,mapM,mapC,mapFs]
 rw[if_neg hlt]at h ⊢
 by_cases h4:f.t.op=4
 ·rw[if_pos h4]at h ⊢
  subst h
  rw[h4]at hsh
  obtain⟨h1,h2,h3⟩:=hsh.lett
  rw[Q2w _ _ (by omega),Q3q,if_neg (by omega)]
  match hb:f.t.binds,h2 with
  |[y],_=>simp[Except.map,mapM,mapC,mapE]
 rw[if_neg h4]at h ⊢
 by_cases h7:f.t.op=7
 ·rw[if_pos h7]at h ⊢
  subst h
  unfold Q1y
  cases hv:f.done.getD 0 Vl.nil <;> simp only[mapV] <;> try rfl
  rw[Q5k,Q9b hG ht h7 f.t.alts 0 rfl]
  cases Q0w _ _ f.e f.t.kids 0 f.t.alts <;> simp[Except.map,mapM]
 rw[if_neg h7]at h ⊢
 by_cases h3:f.t.op=3
 ·rw[if_pos h3]at h ⊢
  subst h
  have hdr:(mapVs s f.done).drop 1=mapVs s (f.done.drop 1):=by simp[Q2v,List.map_drop]
  rw[hdr]
  have hv0:=Q23 hd 0
  unfold callM
  cases hv:f.done.getD 0 Vl.nil with
  |clo t e=>
   rw[hv]at hv0
   have h1:=g_sh hG hv0.2.1
   rw[hv0.1]at h1
   simp only[mapV,Q5j]
   have hb:(mapT s.ν t).binds=t.binds.map s.ν:=by rw[Q3q,if_neg (by rw[hv0.1];decide)]
   rw[hb,List.length_map]
   split
   ·rw[Q2w _ _ (by have:=h1.lam.1;omega),all_map];simp[Except.map,mapM,mapC]
   ·rfl
  |cap n sl=>simp[mapV,Except.map]
  |res fs=>
   simp only[mapV]
   cases f.done.drop 1 with
   |nil=>rfl
   |cons a l=>cases l <;> simp[mapVs,Except.map,mapM,mapC,Q7m]
  |nil=>rfl
  |word n=>rfl
  |obj g fs=>rfl
  |row ls fs=>rfl
  |arr a=>rfl
 rw[if_neg h3]at h ⊢
 by_cases h13:f.t.op=13
 ·rw[if_pos h13]at h ⊢
  subst h
  rw[h13]at hsh
  obtain⟨h1,h2,h3,h4⟩:=hsh.handle
  obtain⟨a,ha⟩:∃a,f.t.alts[0]?=some a:=⟨_,List.getElem?_eq_getElem (by omega)⟩
  have hb:=(h4 0 a ha).2
  rw[if_pos rfl]at hb
  have hga:f.t.alts.getD 0 ⟨0,[]⟩=a:=by rw[List.getD_eq_getElem?_getD,ha];rfl
  have hgm:(mapT s.ν f.t).alts.getD 0 ⟨0,[]⟩=mapA s.ν a:=by rw[Q5k,List.getD_eq_getElem?_getD,List.getElem?_map,ha];rfl
  rw[Q2w _ _ (by omega),hga,hgm]
  match hab:a.binds,hb with
  |[y],_=>simp[Except.map,mapM,mapC,mapE,mapA,hab]
 rw[if_neg h13]at h ⊢
 by_cases h12:f.t.op=12
 ·rw[if_pos h12]at h ⊢
  subst h
  exact Q7h hG (hs.kb _ (Q0n ht) h12) [] k hk
 rw[if_neg h12]at h ⊢
 by_cases h14:f.t.op=14
 ·have:=hG.cl _ (Q0n ht) (.inl h14)
  rw[hs.fns]at this
  simp at this;omega
 rw[if_neg h14]at h ⊢
 by_cases h15:f.t.op=15
 ·have:=hG.cl _ (Q0n ht) (.inr h15)
  rw[hs.fns]at this
  simp at this;omega
 rw[if_neg h15]at h ⊢
 by_cases h16:f.t.op=16
 ·rw[if_pos h16]at h ⊢
  subst h
  have hv0:=Q23 hd 0
  cases hv:f.done.getD 0 Vl.nil <;> simp only[mapV] <;> try rfl
  rename_i n sl
  rw[hv]at hv0
  have:=hv0.1
  rw[hs.fns]at this
  simp at this;omega
 rw[if_neg h16]at h ⊢
 have hp:=Qh9 (s:=s) hf (m:={ m with k:=k }) (t:=f.t) (l:=f.done) (x:=Q0r fu { m with k:=k } f.t f.done) rfl hn0 (fun m' v hx=>by
   rw[hx]at h
   exact hok { m' with c:=.rt v } h.symm) (fun c hx=>by
   rw[hx]at h
   exact her c h.symm)
 have e1:mapM s { m with k:=k }={ mapM s m with k:=mapFs s k++s.kb }:=rfl
 rw[←e1,hp,←h]
 cases Q0r fu { m with k:=k } f.t f.done <;> rfl
theorem Q7b(hG:GPok G)(hs:SimOk s G){fu fu2:Int}(hf:s.st+fu<=fu2){m:Ms}{t:Tr}{e:En}{x:Except Int Ms}(ht:allT G.p t)(he:gE G e)(hk:gFs G m.k)
  (h:Q0d fu [] m t e=x) (hok:∀m',x=.ok m'->s.ob=[]∨s.ob.length+m'.out.length<=1000) (her:∀c,x=.error c->(0<=c∨s.st+fu=fu2)/\(s.ob=[]∨m.out.length < 1000)):
  Q0d fu2 [] (mapM s m) (mapT s.ν t) (mapE s e)=x.map (mapM s):=by
 have hsh:=g_sh hG ht
 unfold Q0d at h ⊢
 rw[Q66,Qhh]
 by_cases h0:t.op=0
 ·rw[if_pos h0,if_pos h0]at *
  subst h
  rw[Qab hG hs (hs.var _ (Q0n ht) h0) he]
  rfl
 rw[if_neg h0,if_neg h0]at *
 by_cases h1:t.op=1
 ·rw[if_pos h1]at *;subst h;rfl
 rw[if_neg h1]at *
 by_cases h2:t.op=2
 ·rw[if_pos h2]at *;subst h;rfl
 rw[if_neg h2]at *
 by_cases h17:t.op=17
 ·rw[if_pos h17]at *;subst h;rfl
 rw[if_neg h17]at *
 by_cases h5:t.op=5
 ·rw[if_pos h5]at *
  subst h
  rw[h5]at hsh
  rw[Q3q,if_neg (by omega),List.length_map,Q2w _ _ (by have:=hsh.recs.1;omega)]
  simp[Except.map,mapM,mapC,mapE]
 rw[if_neg h5]at *
 exact Qed hG hs hf (f:=.mk t e []) ht he trivial (Nat.zero_le _) hk h0 h hok her
def goX (fu:Int)(fns:List Fun):Nat->Ms->Option Rd
 |0,_=>none
 |g+1,m=>match Q05 fu fns m with
  |.next m'=>goX fu fns g m'
  |r=>some r
def rsOf:Rd->Rs
 |.done m v=>⟨m.out,0,lastV v,m.steps,0⟩
 |.trap c m=>if c < 0 then Q1q else ⟨m.out,c,0,m.steps,0⟩
 |_=>Q1q
theorem Qie(fu:Int)(fns:List Fun):∀(g:Nat)(m:Ms),goM fu fns g m=(goX fu fns g m).map rsOf
 |0,_=>rfl
 |g+1,m=>by
  simp only[goM,goX]
  cases Q05 fu fns m with
  |next m'=>exact Qie fu fns g m'
  |done m' v=>rfl
  |fuel=>rfl
  |trap c m'=>rfl
def outR:Rd->Nat
 |.done m _=>m.out.length
 |.trap _ m=>m.out.length
 |.next m=>m.out.length
 |.fuel=>1001
theorem Qjw{fu:Int}{m m':Ms}{n:Int}{l:List Vl}{v:Vl}(h:primM fu m n l=.ok (m',v)):m.out.length<=m'.out.length:=by
 unfold primM at h
 repeat' split at h
 all_goals try (simp only[bind,Except.bind,pure,Except.pure]at h;repeat' split at h)
 all_goals try (cases h;done)
 all_goals try (cases h;exact Nat.le_refl _)
 ·cases h;simp
 ·unfold Q39 at h
  repeat' split at h
  all_goals try (cases h;done)
  cases h;exact Nat.le_refl _
 ·unfold Q2i at h
  simp only[bind,Except.bind,pure,Except.pure]at h
  repeat' split at h
  all_goals try (cases h;done)
  all_goals (cases h;exact Nat.le_refl _)
theorem Qh8{fu:Int}{m m':Ms}{t:Tr}{l:List Vl}{v:Vl}(h:Q0r fu m t l=.ok (m',v)):m.out.length<=m'.out.length:=by
 unfold Q0r at h
 repeat' split at h
 ·cases h;exact Nat.le_refl _
 ·exact Qjw h
 ·cases h;exact Nat.le_refl _
 ·simp only[bind,Except.bind,pure,Except.pure]at h
  repeat' split at h
  all_goals try (cases h;done)
  all_goals (cases h;exact Nat.le_refl _)
 ·simp only[bind,Except.bind,pure,Except.pure]at h
  repeat' split at h
  all_goals try (cases h;done)
  all_goals (cases h;exact Nat.le_refl _)
theorem Q52{m m':Ms}{op:Int}{v:Vl}:∀(l k:List Fm),Q0m m op v l k=.ok m'->m'.out=m.out
 |_,[],h=>by cases h
 |l,f::k,h=>by
  unfold Q0m at h
  split at h
  ·cases h;rfl
  ·exact Q52 _ k h
theorem Qhr{fu:Int}{fns:List Fun}{m m':Ms}{f:Fm}{k:List Fm}(h:kidM fu fns m f k=.ok m'):m.out.length<=m'.out.length:=by
 unfold kidM at h
 repeat' split at h
 all_goals try (cases h;done)
 all_goals try (cases h;exact Nat.le_refl _)
 ·unfold Q1y at h
  split at h
  ·cases hc:Q0w _ _ f.e f.t.kids 0 f.t.alts <;> rw[hc]at h <;> cases h
   exact Nat.le_refl _
  ·cases h
 ·unfold callM at h
  repeat' split at h
  all_goals try (cases h;done)
  all_goals (cases h;exact Nat.le_refl _)
 ·rw[Q52 _ _ h];exact Nat.le_refl _
 ·cases hp:Q0r fu { m with k:=k } f.t f.done with
  |error c=>rw[hp]at h;cases h
  |ok mv=>
   rw[hp]at h;cases h
   obtain⟨m2,v2⟩:=mv
   exact Qh8 (m:={ m with k:=k }) (m':=m2) hp
theorem Qgg{fu:Int}{fns:List Fun}{m m':Ms}{t:Tr}{e:En}(h:Q0d fu fns m t e=.ok m'):m.out.length<=m'.out.length:=by
 unfold Q0d at h
 repeat' split at h
 all_goals try (cases h;done)
 all_goals try (cases h;exact Nat.le_refl _)
 exact Qhr h
theorem Qgv{fu:Int}{fns:List Fun}{m m':Ms}(h:Q05 fu fns m=.next m'):m.out.length<=m'.out.length:=by
 unfold Q05 at h
 repeat' split at h
 all_goals try (cases h;done)
 ·rename_i hk;cases h;exact Qhr hk
 ·rename_i hk;cases h;exact Qgg (m:={ m with steps:=m.steps+1 }) hk
theorem Qa6{fu:Int}{fns:List Fun}:∀{g:Nat}{m:Ms}{r:Rd},goX fu fns g m=some r->m.out.length<=outR r∨r=.fuel
 |0,_,_,h=>by cases h
 |g+1,m,r,h=>by
  simp only[goX]at h
  cases hr:Q05 fu fns m with
  |next m'=>
   rw[hr]at h
   rcases Qa6 h with h1|h1
   ·exact .inl (Nat.le_trans (Qgv hr) h1)
   ·exact .inr h1
  |done m' v=>
   rw[hr]at h;cases h
   unfold Q05 at hr
   repeat' split at hr
   all_goals try (cases hr;done)
   cases hr;exact .inl (Nat.le_refl _)
  |fuel=>rw[hr]at h;cases h;exact .inr rfl
  |trap c m'=>
   rw[hr]at h;cases h
   unfold Q05 at hr
   repeat' split at hr
   all_goals try (cases hr;done)
   all_goals (cases hr;exact .inl (Nat.le_refl _))
def rdOf (m:Ms):Except Int Ms->Rd
 |.ok m'=>.next m'
 |.error c=>.trap c m
theorem Q12{fu:Int}{fns:List Fun}{m:Ms}{t:Tr}{e:En}(hc:m.c=.ev t e)(h:¬m.steps=fu):Q05 fu fns m=rdOf { m with steps:=m.steps+1 } (Q0d fu fns { m with steps:=m.steps+1 } t e):=by
 unfold Q05
 split
 ·rename_i hv;rw[hc]at hv;cases hv
 ·rename_i hv;rw[hc]at hv;cases hv;rw[if_neg h];rfl
theorem Q1t{fu:Int}{fns:List Fun}{m:Ms}{v:Vl}{f:Fm}{k:List Fm}(hc:m.c=.rt v)(hk:m.k=f::k):Q05 fu fns m=rdOf m (kidM fu fns m (.mk f.t f.e (f.done++[v])) k):=by
 simp only[Q05,hc,hk];rfl
inductive SimR (s:Sim)(fu2:Int)(m2:Ms):Rd->Prop
 |done (m:Ms) (v:Vl) (hc:m.c=.rt v) (hk:m.k=[]) (h:∀R,EndsM fu2 [] (mapM s m) R->EndsM fu2 [] m2 R):SimR s fu2 m2 (.done m v)
 |trap (c:Int) (m:Ms) (h:0<=c->EndsM fu2 [] m2 ⟨s.ob++m.out,c,0,s.st+m.steps,0⟩) (h':c < 0->EndsM fu2 [] m2 Q1q):SimR s fu2 m2 (.trap c m)
 |fuel (h:EndsM fu2 [] m2 Q1q):SimR s fu2 m2 .fuel
theorem Qcc(hG:GPok G)(hs:SimOk s G){fu fu2:Int}(hf:s.st+fu<=fu2):∀(g:Nat)(m:Ms)(r:Rd),gM G m->m.steps<=fu->goX fu [] g m=some r ->
  (s.ob = [] ∨ s.ob.length + outR r <= 1000) -> ((rsOf r).err = 0 ∨ s.st + fu = fu2) -> SimR s fu2 (mapM s m) r
 |0,_,_,_,_,h,_,_=>by cases h
 |g+1,m,r,hm,hle,h,ho,he=>by
  simp only[goX]at h
  have hlift:∀{m':Ms}{r:Rd},Q05 fu2 [] (mapM s m)=.next (mapM s m')->SimR s fu2 (mapM s m') r->SimR s fu2 (mapM s m) r:=by
   intro m' r hr hsim
   cases hsim with
   |done me v hc hk h=>exact .done me v hc hk fun R hR=>EndsM.step hr (h R hR)
   |trap c me h h'=>exact .trap c me (fun hc=>EndsM.step hr (h hc)) fun hc=>EndsM.step hr (h' hc)
   |fuel h=>exact .fuel (EndsM.step hr h)
  have hneg:∀{c:Int}{m':Ms},((rsOf (.trap c m')).err=0∨s.st+fu=fu2)->0<=c∨s.st+fu=fu2:=by
   intro c m' hh
   rcases hh with hh|hh
   ·simp only[rsOf]at hh
    split at hh
    ·simp[Q1q]at hh
    ·omega
   ·exact .inr hh
  cases hc:m.c with
  |rt v=>
   have hmc:(mapM s m).c=.rt (mapV s v):=by simp[mapM,hc,mapC]
   have hv:gV G v:=by have:=hm.c;rw[hc]at this;exact this
   cases hk:m.k with
   |nil=>
    have:Q05 fu [] m=.done m v:=by simp[Q05,hc,hk]
    rw[this]at h;cases h
    exact .done m v hc hk fun R hR=>hR
   |cons f k=>
    have hmk:(mapM s m).k=mapF s f::(mapFs s k++s.kb):=by simp[mapM,hk,mapFs]
    have hf1:=hm.k
    rw[hk]at hf1
    cases f with
    |mk t e d=>
     obtain⟨g1,g2,g3,g4,_⟩:=hf1.1
     have hne:t.op≠0:=fun h0=>by
      have:=g_sh hG g1
      rw[h0]at this
      unfold opdN at g4
      rw[if_neg (by omega),(this.leaf (.inl rfl)).1]at g4
      omega
     have hround:∀(fu:Int) (m:Ms),m.c=.rt v->m.k=.mk t e d::k->Q05 fu [] m=rdOf m (kidM fu [] m (.mk t e (d++[v])) k):=by
      intro fu m hc hk;simp only[Q05,hc,hk];rfl
     have hround2:Q05 fu2 [] (mapM s m)=rdOf (mapM s m) (kidM fu2 [] (mapM s m) (mapF s (.mk t e (d++[v]))) (mapFs s k++s.kb)):=by
      have e2:mapF s (.mk t e (d++[v]))=.mk (mapF s (.mk t e d)).t (mapF s (.mk t e d)).e ((mapF s (.mk t e d)).done++[mapV s v]):=by simp[mapF,Q7l,mapVs]
      simp only[Q05,hmc,hmk]
      rw[e2]
      rfl
     rw[hround fu m hc hk]at h
     have key:=fun x (hx:kidM fu [] m (.mk t e (d++[v])) k=x)=>Qed hG hs hf (m:=m) (f:=.mk t e (d++[v])) (k:=k) (x:=x) g1 g2 (Q4k g3 ⟨hv,trivial⟩) (by simp;omega) hf1.2 hne hx
     cases hkid:kidM fu [] m (.mk t e (d++[v])) k with
     |error c=>
      rw[hkid]at h
      cases h
      have h2:=key _ hkid (fun m' hx=>by cases hx) (fun c' hx=>by
       cases hx
       exact⟨hneg he,by rcases ho with ho|ho;exact .inl ho;by_cases hob:s.ob=[];exact .inl hob;exact .inr (by have:=List.length_pos_iff.2 hob;simp only[outR,rdOf]at ho;omega)⟩)
      rw[h2]at hround2
      refine .trap c m (fun h0=>⟨1,?_⟩) (fun h0=>⟨1,?_⟩)
      ·simp only[goM,hround2,Except.map,rdOf];rw[if_neg (by omega)];rfl
      ·simp only[goM,hround2,Except.map,rdOf];rw[if_pos h0]
     |ok m'=>
      rw[hkid]at h
      simp only[rdOf]at h
      have hmo:s.ob=[]∨s.ob.length+m'.out.length<=1000:=by
       rcases ho with ho|ho
       ·exact .inl ho
       ·rcases Qa6 h with h1|h1
        ·exact .inr (by omega)
        ·rw[h1]at ho;simp only[outR]at ho;omega
      have h2:=key _ hkid (fun m2 hx=>by cases hx;exact hmo) (fun c' hx=>by cases hx)
      rw[h2]at hround2
      have hr1:Q05 fu [] m=.next m':=by rw[hround fu m hc hk,hkid];rfl
      have hm':gM G m':=Q3f hG hm (by rw[hs.fns];exact hr1)
      exact hlift hround2 (Qcc hG hs hf g m' r hm' (Q2l hr1 hle).1 h ho he)
  |ev t e=>
   have hmc:(mapM s m).c=.ev (mapT s.ν t) (mapE s e):=by simp[mapM,hc,mapC]
   have ht:allT G.p t/\gE G e:=by have:=hm.c;rw[hc]at this;exact this
   by_cases hst:m.steps=fu
   ·have:Q05 fu [] m=.fuel:=by simp[Q05,hc,hst]
    rw[this]at h;cases h
    have hfe:s.st+fu=fu2:=by
     rcases he with he|he
     ·simp[rsOf,Q1q]at he
     ·exact he
    refine .fuel ⟨1,?_⟩
    have h2:Q05 fu2 [] (mapM s m)=.fuel:=by
     simp only[Q05,hmc]
     rw[if_pos (show (mapM s m).steps=fu2 by simp only[mapM];omega)]
    simp[goM,h2]
   ·have hround:Q05 fu [] m=rdOf { m with steps:=m.steps+1 } (Q0d fu [] { m with steps:=m.steps+1 } t e):=Q12 hc hst
    have hst2:¬s.st+m.steps=fu2:=by omega
    have hround2:Q05 fu2 [] (mapM s m)=rdOf (mapM s { m with steps:=m.steps+1 }) (Q0d fu2 [] (mapM s { m with steps:=m.steps+1 }) (mapT s.ν t) (mapE s e)):=by
     have e3:mapM s { m with steps:=m.steps+1 }={ mapM s m with steps:=(mapM s m).steps+1 }:=by simp only[mapM,Int.add_assoc]
     rw[e3]
     exact Q12 hmc hst2
    rw[hround]at h
    have key:=fun x (hx:Q0d fu [] { m with steps:=m.steps+1 } t e=x)=>Q7b hG hs hf (m:={ m with steps:=m.steps+1 }) (t:=t) (e:=e) (x:=x) ht.1 ht.2 hm.k hx
    cases hkid:Q0d fu [] { m with steps:=m.steps+1 } t e with
    |error c=>
     rw[hkid]at h
     cases h
     have h2:=key _ hkid (fun m' hx=>by cases hx) (fun c' hx=>by
      cases hx
      exact⟨hneg he,by rcases ho with ho|ho;exact .inl ho;by_cases hob:s.ob=[];exact .inl hob;exact .inr (by have:=List.length_pos_iff.2 hob;simp only[outR,rdOf]at ho;simp only;omega)⟩)
     rw[h2]at hround2
     refine .trap c _ (fun h0=>⟨1,?_⟩) (fun h0=>⟨1,?_⟩)
     ·simp only[goM,hround2,Except.map,rdOf];rw[if_neg (by omega)];rfl
     ·simp only[goM,hround2,Except.map,rdOf];rw[if_pos h0]
    |ok m'=>
     rw[hkid]at h
     simp only[rdOf]at h
     have hmo:s.ob=[]∨s.ob.length+m'.out.length<=1000:=by
      rcases ho with ho|ho
      ·exact .inl ho
      ·rcases Qa6 h with h1|h1
       ·exact .inr (by omega)
       ·rw[h1]at ho;simp only[outR]at ho;omega
     have h2:=key _ hkid (fun m2 hx=>by cases hx;exact hmo) (fun c' hx=>by cases hx)
     rw[h2]at hround2
     have hr1:Q05 fu [] m=.next m':=by rw[hround,hkid];rfl
     have hm':gM G m':=Q3f hG hm (by rw[hs.fns];exact hr1)
     exact hlift hround2 (Qcc hG hs hf g m' r hm' (Q2l hr1 hle).1 h ho he)
end
end Go.CoreX
namespace Go.CoreX
theorem Q6u{fu:Int}{fns:List Fun}{m m':Ms}{t:Tr}{e:En}(h:Q0d fu fns m t e=.ok m'):m.steps<=m'.steps:=by
 unfold Q0d at h
 repeat' split at h
 all_goals try (cases h;done)
 all_goals try (cases h;exact Int.le_refl _)
 exact (Q33 h [] .nil (.inr ⟨rfl,rfl⟩)).ge
def Qdo:Rd->Int
 |.done m _=>m.steps
 |.trap _ m=>m.steps
 |.next m=>m.steps
 |.fuel=>0
theorem Qdu{fu:Int}{fns:List Fun}{m m':Ms}(h:Q05 fu fns m=.next m'):m.steps<=m'.steps:=by
 unfold Q05 at h
 repeat' split at h
 all_goals try (cases h;done)
 ·rename_i f k hk _ _ hkid;cases h;exact (Q33 hkid f.done _ (.inl rfl)).ge
 ·rename_i hst;cases h
  have:=Q6u hst
  simp only at this;omega
theorem Q4f{fu:Int}{fns:List Fun}{m:Ms}{r:Rd}(h:Q05 fu fns m=r):(∀c m',r=.trap c m'->m.steps<=m'.steps)/\(∀m' v,r=.done m' v->m'=m/\m.c=.rt v/\m.k=[]):=by
 subst h
 constructor
 ·intro c m' h
  unfold Q05 at h
  repeat' split at h
  all_goals try (cases h;done)
  ·cases h;exact Int.le_refl _
  ·cases h;simp only;omega
 ·intro m' v h
  unfold Q05 at h
  repeat' split at h
  all_goals try (cases h;done)
  rename_i hc _ hk
  cases h;exact⟨rfl,hc,hk⟩
theorem goX_ge{fu:Int}{fns:List Fun}:∀{g:Nat}{m:Ms}{r:Rd},goX fu fns g m=some r->r≠.fuel->m.steps<=Qdo r
 |0,_,_,h,_=>by cases h
 |g+1,m,r,h,hf=>by
  simp only[goX]at h
  cases hr:Q05 fu fns m with
  |next m'=>rw[hr]at h;exact Int.le_trans (Qdu hr) (goX_ge h hf)
  |done m' v=>rw[hr]at h;cases h;rw[((Q4f hr).2 _ _ rfl).1];exact Int.le_refl _
  |fuel=>rw[hr]at h;cases h;exact absurd rfl hf
  |trap c m'=>rw[hr]at h;cases h;exact (Q4f hr).1 _ _ rfl
theorem goX_le{fu:Int}{fns:List Fun}:∀{g:Nat}{m:Ms}{r:Rd},goX fu fns g m=some r->m.steps<=fu->r≠.fuel->Qdo r<=fu
 |0,_,_,h,_,_=>by cases h
 |g+1,m,r,h,hs,hf=>by
  simp only[goX]at h
  cases hr:Q05 fu fns m with
  |next m'=>rw[hr]at h;exact goX_le h (Q2l hr hs).1 hf
  |done m' v=>rw[hr]at h;cases h;rw[((Q4f hr).2 _ _ rfl).1];exact hs
  |fuel=>rw[hr]at h;cases h;exact absurd rfl hf
  |trap c m'=>
   rw[hr]at h;cases h
   unfold Q05 at hr
   repeat' split at hr
   all_goals try (cases hr;done)
   ·cases hr;exact hs
   ·cases hr;simp only[Qdo];omega
end Go.CoreX
namespace Go.Proofs.YtmdkenkhaicbeaaGreatDoor
open Go Go.Abs Go.CoreX
set_option linter.unusedSectionVars false
abbrev tClo:Nat:=212
abbrev tObj:Nat:=170
abbrev tRow:Nat:=238
abbrev tArr:Nat:=257
abbrev tRes:Nat:=229
abbrev tCap:Nat:=206
abbrev tTrap:Nat:=137
abbrev nilPE:AC:=.lit (.pointer none)
abbrev Hm:=Nat->Option (List AC)
abbrev Nm2:=List (Nat×Nat)
def iW (n:Int):AC:=.ifc 3 false [int n]
def iB (t:Nat)(cs:List AC):AC:=.ifc t false [.box cs]
inductive RecC (H:Hm)(t:Tr)(top:AC):Nat->AC->AC->Prop
 |zero (c:AC):RecC H t top 0 c c
 |succ (i k q:Nat) (c b:AC) (hk:H k=some [int (t.binds.getD i 0),.ifc tClo false [.ptr (.o q) 0],c]) (hq:H q=some [.box (cTr (t.kids.getD i default)),top]) (h:RecC H t top i c b):RecC H t top (i+1) (.ptr (.o k) 0) b
mutual
inductive VR (H:Hm)(nm:Nm2):Vl->AC->Prop
 |nil:VR H nm .nil (.lit .nilIface)
 |word (n:Int):VR H nm (.word n) (iW n)
 |clo (t:Tr) (e:En) (c:AC) (he:ER H nm e c):VR H nm (.clo t e) (iB tClo [.box (cTr t),c])
 |cloP (t:Tr) (e:En) (c:AC) (k:Nat) (hk:H k=some [.box (cTr t),c]) (he:ER H nm e c):VR H nm (.clo t e) (.ifc tClo false [.ptr (.o k) 0])
 |obj (g:Int) (fs:List Vl) (cs:List (List AC)) (h:VsR H nm fs cs):VR H nm (.obj g fs) (iB tObj [int g,.sl 1 cs])
 |row (ls:List Int) (fs:List Vl) (cs:List (List AC)) (h:VsR H nm fs cs):VR H nm (.row ls fs) (iB tRow [.sl 1 (ls.map cI),.sl 1 cs])
 |arr (a k n:Nat) (h:nm[a]?=some (k,n)):VR H nm (.arr a) (iB tArr [.arr (.o k) 1 0 n n])
 |res (fs:List Fm) (l:List (List AC)) (h:FsR H nm fs l):VR H nm (.res fs) (iB tRes [.sl 1 l])
 |cap (n:Int) (fs:List Vl) (cs:List (List AC)) (h:VsR H nm fs cs):VR H nm (.cap n fs) (iB tCap [int n,.sl 1 cs])
inductive VsR (H:Hm)(nm:Nm2):List Vl->List (List AC)->Prop
 |nil:VsR H nm [] []
 |cons (v:Vl) (c:AC) (vs:List Vl) (cs:List (List AC)) (hv:VR H nm v c) (h:VsR H nm vs cs):VsR H nm (v::vs) ([c]::cs)
inductive ER (H:Hm)(nm:Nm2):En->AC->Prop
 |nil:ER H nm .nil nilPE
 |bind (i:Int) (v:Vl) (n:En) (k:Nat) (vc nc:AC) (hk:H k=some [int i,vc,nc]) (hv:VR H nm v vc) (hn:ER H nm n nc):ER H nm (.bind i v n) (.ptr (.o k) 0)
 |recs (t:Tr) (n:En) (c nc:AC) (hc:RecC H t c t.binds.length c nc) (hn:ER H nm n nc):ER H nm (.recs t n) c
inductive FR (H:Hm)(nm:Nm2):Fm->AC->Prop
 |mk (t:Tr) (e:En) (d:List Vl) (ec:AC) (dc:List (List AC)) (nx:AC) (hx:nx.ids isO) (he:ER H nm e ec) (hd:VsR H nm d dc):FR H nm (.mk t e d) (.box [.box (cTr t),ec,.sl 1 dc,nx])
inductive FsR (H:Hm)(nm:Nm2):List Fm->List (List AC)->Prop
 |nil:FsR H nm [] []
 |cons (f:Fm) (c:AC) (fs:List Fm) (cs:List (List AC)) (hf:FR H nm f c) (h:FsR H nm fs cs):FsR H nm (f::fs) ([c]::cs)
end
inductive KR (H:Hm)(nm:Nm2):List Fm->AC->Prop
 |nil:KR H nm [] nilPE
 |cons (t:Tr) (e:En) (d:List Vl) (k:List Fm) (ec:AC) (dc:List (List AC)) (kc:AC) (he:ER H nm e ec) (hd:VsR H nm d dc) (hk:KR H nm k kc):KR H nm (.mk t e d::k) (.box [.box (cTr t),ec,.sl 1 dc,kc])
structure Mo (H:Hm)(nm:Nm2)(H':Hm)(nm':Nm2):Prop where
 h:∀k cs,H k=some cs->H' k=some cs
 n:∀(a:Nat) (x:Nat×Nat),nm[a]?=some x->nm'[a]?=some x
theorem Mo.refl(H:Hm)(nm:Nm2):Mo H nm H nm:=⟨fun _ _ h=>h,fun _ _ h=>h⟩
theorem Mo.trans{H H1 H2:Hm}{n n1 n2:Nm2}(a:Mo H n H1 n1)(b:Mo H1 n1 H2 n2):Mo H n H2 n2:=⟨fun k cs h=>b.h k cs (a.h k cs h),fun k x h=>b.n k x (a.n k x h)⟩
section
variable {H H':Hm}{nm nm':Nm2}(hm:Mo H nm H' nm')
include hm
theorem RecC.mo{t:Tr}{top:AC}:∀{i:Nat}{c b:AC},RecC H t top i c b->RecC H' t top i c b
 |_,_,_,.zero c=>.zero c
 |_,_,_,.succ i k q c b hk hq h=>.succ i k q c b (hm.h _ _ hk) (hm.h _ _ hq) (RecC.mo h)
mutual
theorem VR.mo:∀{v:Vl}{c:AC},VR H nm v c->VR H' nm' v c
 |_,_,.nil=>.nil
 |_,_,.word n=>.word n
 |_,_,.clo t e c he=>.clo t e c (ER.mo he)
 |_,_,.cloP t e c k hk he=>.cloP t e c k (hm.h _ _ hk) (ER.mo he)
 |_,_,.obj g fs cs h=>.obj g fs cs (VsR.mo h)
 |_,_,.row ls fs cs h=>.row ls fs cs (VsR.mo h)
 |_,_,.arr a k n h=>.arr a k n (hm.n _ _ h)
 |_,_,.res fs l h=>.res fs l (FsR.mo h)
 |_,_,.cap n fs cs h=>.cap n fs cs (VsR.mo h)
theorem VsR.mo:∀{v:List Vl}{c:List (List AC)},VsR H nm v c->VsR H' nm' v c
 |_,_,.nil=>.nil
 |_,_,.cons v c vs cs hv h=>.cons v c vs cs (VR.mo hv) (VsR.mo h)
theorem ER.mo:∀{e:En}{c:AC},ER H nm e c->ER H' nm' e c
 |_,_,.nil=>.nil
 |_,_,.bind i v n k vc nc hk hv hn=>.bind i v n k vc nc (hm.h _ _ hk) (VR.mo hv) (ER.mo hn)
 |_,_,.recs t n c nc hc hn=>.recs t n c nc (RecC.mo hm hc) (ER.mo hn)
theorem FR.mo:∀{f:Fm}{c:AC},FR H nm f c->FR H' nm' f c
 |_,_,.mk t e d ec dc nx hx he hd=>.mk t e d ec dc nx hx (ER.mo he) (VsR.mo hd)
theorem FsR.mo:∀{f:List Fm}{c:List (List AC)},FsR H nm f c->FsR H' nm' f c
 |_,_,.nil=>.nil
 |_,_,.cons f c fs cs hf h=>.cons f c fs cs (FR.mo hf) (FsR.mo h)
end
theorem KR.mo:∀{k:List Fm}{c:AC},KR H nm k c->KR H' nm' k c
 |_,_,.nil=>.nil
 |_,_,.cons t e d k ec dc kc he hd hk=>.cons t e d k ec dc kc (ER.mo hm he) (VsR.mo hm hd) (KR.mo hk)
end
section
variable {H:Hm}{nm:Nm2}
theorem RecC.ids{t:Tr}{top:AC}:∀{i:Nat}{c b:AC},RecC H t top i c b->b.ids isO->c.ids isO
 |_,_,_,.zero c,h=>h
 |_,_,_,.succ i k q c b hk hq h,_=>trivial
mutual
theorem VR.ids:∀{v:Vl}{c:AC},VR H nm v c->c.ids isO
 |_,_,.nil=>trivial
 |_,_,.word n=>by simp[iW,AC.ids,idsL]
 |_,_,.clo t e c he=>⟨⟨by simp,ER.ids he,trivial⟩,trivial⟩
 |_,_,.cloP t e c k hk he=>⟨trivial,trivial⟩
 |_,_,.obj g fs cs h=>⟨⟨trivial,VsR.ids h,trivial⟩,trivial⟩
 |_,_,.row ls fs cs h=>⟨⟨by simp,VsR.ids h,trivial⟩,trivial⟩
 |_,_,.arr a k n h=>⟨⟨trivial,trivial⟩,trivial⟩
 |_,_,.res fs l h=>⟨⟨FsR.ids h,trivial⟩,trivial⟩
 |_,_,.cap n fs cs h=>⟨⟨trivial,VsR.ids h,trivial⟩,trivial⟩
theorem VsR.ids:∀{v:List Vl}{c:List (List AC)},VsR H nm v c->idsS isO c
 |_,_,.nil=>trivial
 |_,_,.cons v c vs cs hv h=>⟨⟨VR.ids hv,trivial⟩,VsR.ids h⟩
theorem ER.ids:∀{e:En}{c:AC},ER H nm e c->c.ids isO
 |_,_,.nil=>trivial
 |_,_,.bind i v n k vc nc hk hv hn=>trivial
 |_,_,.recs t n c nc hc hn=>RecC.ids hc (ER.ids hn)
theorem FR.ids:∀{f:Fm}{c:AC},FR H nm f c->c.ids isO
 |_,_,.mk t e d ec dc nx hx he hd=>⟨by simp,ER.ids he,VsR.ids hd,hx,trivial⟩
theorem FsR.ids:∀{f:List Fm}{c:List (List AC)},FsR H nm f c->idsS isO c
 |_,_,.nil=>trivial
 |_,_,.cons f c fs cs hf h=>⟨⟨FR.ids hf,trivial⟩,FsR.ids h⟩
end
theorem KR.ids:∀{k:List Fm}{c:AC},KR H nm k c->c.ids isO
 |_,_,.nil=>trivial
 |_,_,.cons t e d k ec dc kc he hd hk=>⟨by simp,ER.ids he,VsR.ids hd,KR.ids hk,trivial⟩
theorem VsR.len:∀{v:List Vl}{c:List (List AC)},VsR H nm v c->c.length=v.length
 |_,_,.nil=>rfl
 |_,_,.cons v c vs cs hv h=>by simp[VsR.len h]
theorem VsR.get:∀{v:List Vl}{c:List (List AC)}{i:Nat}{x:Vl},VsR H nm v c->v[i]?=some x->∃y,c[i]?=some [y]/\VR H nm x y
 |_,_,i,x,.nil,hx=>by simp at hx
 |_,_,0,x,.cons v c vs cs hv h,hx=>by simp at hx;subst hx;exact⟨c,rfl,hv⟩
 |_,_,i+1,x,.cons v c vs cs hv h,hx=>VsR.get (i:=i) h (by simpa using hx)
theorem VsR.snoc:∀{v:List Vl}{c:List (List AC)}{x:Vl}{y:AC},VsR H nm v c->VR H nm x y->VsR H nm (v++[x]) (c++[[y]])
 |_,_,x,y,.nil,hx=>.cons x y [] [] hx .nil
 |_,_,x,y,.cons v c vs cs hv h,hx=>.cons v c _ _ hv (VsR.snoc h hx)
theorem VsR.drop:∀{v:List Vl}{c:List (List AC)}(n:Nat),VsR H nm v c->VsR H nm (v.drop n) (c.drop n)
 |_,_,0,h=>by simpa using h
 |_,_,n+1,.nil=>.nil
 |_,_,n+1,.cons v c vs cs hv h=>VsR.drop n h
theorem FsR.snoc:∀{v:List Fm}{c:List (List AC)}{x:Fm}{y:AC},FsR H nm v c->FR H nm x y->FsR H nm (v++[x]) (c++[[y]])
 |_,_,x,y,.nil,hx=>.cons x y [] [] hx .nil
 |_,_,x,y,.cons v c vs cs hv h,hx=>.cons v c _ _ hv (FsR.snoc h hx)
end
variable {Γ:List (Nat×List AC)}
def unitF:FV:=.tup []
def trapE (c:Int):List PanicEntry:=[{ v:=.iface tTrap (.agg #[.int .i64 c]),recovered:=false }]
theorem Q0t{w:World}{C:Ctx}{v:Value}{c:Int}(h:R w C (.ifc tTrap true [int c]) v):[({ v:=v,recovered:=false }:PanicEntry)]=trapE c:=by
 obtain⟨xs,h1,⟨_,rfl⟩|⟨h2,_⟩⟩:=h
 ·simp only[RV]at h1
  obtain⟨u,us,rfl,h3,rfl⟩:=h1
  simp only[int,R]at h3
  rw[h3.1];rfl
 ·cases h2
theorem conc3:Tryz.prog.concrete 3=true:=by kernel_rfl
theorem Q40:Tryz.prog.concrete tClo=true:=by kernel_rfl
theorem Q3z:Tryz.prog.concrete tObj=true:=by kernel_rfl
theorem Qag:Tryz.prog.concrete tRow=true:=by kernel_rfl
theorem Qcx:Tryz.prog.concrete tArr=true:=by kernel_rfl
theorem Qcw:Tryz.prog.concrete tRes=true:=by kernel_rfl
theorem Q3o:Tryz.prog.concrete tCap=true:=by kernel_rfl
theorem Q0p:Tryz.prog.concrete tTrap=true:=by kernel_rfl
theorem z3(w:World):(zeroValue 3).run Tryz.prog w=.ok (.int .i64 0) w:=Q3s (by kernel_rfl) w
theorem zClo(w:World):(zeroValue tClo).run Tryz.prog w=.ok (.pointer none) w:=Q3s (by kernel_rfl) w
theorem zObj(w:World):(zeroValue tObj).run Tryz.prog w=.ok (.pointer none) w:=Q3s (by kernel_rfl) w
theorem zRow(w:World):(zeroValue tRow).run Tryz.prog w=.ok (.pointer none) w:=Q3s (by kernel_rfl) w
theorem zArr(w:World):(zeroValue tArr).run Tryz.prog w=.ok (.pointer none) w:=Q3s (by kernel_rfl) w
theorem zRes(w:World):(zeroValue tRes).run Tryz.prog w=.ok (.pointer none) w:=Q3s (by kernel_rfl) w
theorem zCap(w:World):(zeroValue tCap).run Tryz.prog w=.ok (.pointer none) w:=Q3s (by kernel_rfl) w
def notT (t:Nat)(c:AC):Prop:=c=.lit .nilIface∨∃t' ag cs,c=.ifc t' ag cs/\Nat.beq t' t=false
section
variable {H:Hm}{nm:Nm2}{v:Vl}{c:AC}
theorem VR.isWord(h:VR H nm v c):(∃n,v=.word n/\c=iW n)∨((∀n,v≠.word n)/\notT 3 c):=by
 cases h <;> first|exact .inl ⟨_,rfl,rfl⟩|exact .inr ⟨by simp,.inl rfl⟩|exact .inr ⟨by simp,.inr ⟨_,_,_,rfl,rfl⟩⟩
theorem VR.isClo(h:VR H nm v c):(∃t e,v=.clo t e)∨((∀t e,v≠.clo t e)/\notT tClo c):=by
 cases h <;> first|exact .inl ⟨_,_,rfl⟩|exact .inr ⟨by simp,.inl rfl⟩|exact .inr ⟨by simp,.inr ⟨_,_,_,rfl,rfl⟩⟩
theorem VR.isObj(h:VR H nm v c):(∃g fs cs,v=.obj g fs/\c=iB tObj [int g,.sl 1 cs]/\VsR H nm fs cs)∨((∀g fs,v≠.obj g fs)/\notT tObj c):=by
 cases h <;> first|exact .inl ⟨_,_,_,rfl,rfl,‹_›⟩|exact .inr ⟨by simp,.inl rfl⟩|exact .inr ⟨by simp,.inr ⟨_,_,_,rfl,rfl⟩⟩
theorem VR.isRow(h:VR H nm v c):(∃ls fs cs,v=.row ls fs/\c=iB tRow [.sl 1 (ls.map cI),.sl 1 cs]/\VsR H nm fs cs)∨((∀g fs,v≠.row g fs)/\notT tRow c):=by
 cases h <;> first|exact .inl ⟨_,_,_,rfl,rfl,‹_›⟩|exact .inr ⟨by simp,.inl rfl⟩|exact .inr ⟨by simp,.inr ⟨_,_,_,rfl,rfl⟩⟩
theorem VR.isArr(h:VR H nm v c):(∃a k n,v=.arr a/\c=iB tArr [.arr (.o k) 1 0 n n]/\nm[a]?=some (k,n))∨((∀a,v≠.arr a)/\notT tArr c):=by
 cases h <;> first|exact .inl ⟨_,_,_,rfl,rfl,‹_›⟩|exact .inr ⟨by simp,.inl rfl⟩|exact .inr ⟨by simp,.inr ⟨_,_,_,rfl,rfl⟩⟩
theorem VR.isRes(h:VR H nm v c):(∃fs l,v=.res fs/\c=iB tRes [.sl 1 l]/\FsR H nm fs l)∨((∀fs,v≠.res fs)/\notT tRes c):=by
 cases h <;> first|exact .inl ⟨_,_,rfl,rfl,‹_›⟩|exact .inr ⟨by simp,.inl rfl⟩|exact .inr ⟨by simp,.inr ⟨_,_,_,rfl,rfl⟩⟩
theorem VR.isCap(h:VR H nm v c):(∃n fs cs,v=.cap n fs/\c=iB tCap [int n,.sl 1 cs]/\VsR H nm fs cs)∨((∀n fs,v≠.cap n fs)/\notT tCap c):=by
 cases h <;> first|exact .inl ⟨_,_,_,rfl,rfl,‹_›⟩|exact .inr ⟨by simp,.inl rfl⟩|exact .inr ⟨by simp,.inr ⟨_,_,_,rfl,rfl⟩⟩
theorem Q4r(h:∀n,v≠.word n):wordV v=.error 5:=by cases v <;> first|rfl|exact absurd rfl (h _)
end
theorem Q0g(n:Int):APure Tryz.prog Γ 189 [.one (iW n)] (.one (int n)):=by
 intro ou
 refine AFn.walk 15 tabOk Tryz.func189 rfl (by kernel_rfl) rfl rfl fun hou=>?_
 refine zA ?_
 refine zS (AStep.assertYes conc3 rfl rfl) ?_
 refine zA ?_
 exact APure.fin rfl (WkF.ofEq rfl) (by simp) hou rfl
theorem Qc8(hΓ:∀g cs,(g,cs)∈Γ->idsL isO cs){c:AC}(hc:notT 3 c)(ou:Outer):AFnP Tryz.prog Γ 189 [.one c] ou (fun _ _=>False) (fun ps ou'=>ps=trapE 5/\ou'=ou):=by
 refine AFnP.walk 15 tabOk hΓ Tryz.func189 rfl (by kernel_rfl) rfl rfl fun hou=>?_
 refine zA ?_
 refine zS (AStep.assertNo conc3 rfl z3 rfl rfl hc) ?_
 refine zA ?_
 refine zS (AStep.mkIfcA Q0p rfl rfl) ?_
 exact AOps.panicI rfl rfl rfl fun w C v hv=>⟨hou,Q0t hv,rfl⟩
theorem Qhw(k n:Nat):APure Tryz.prog Γ 198 [.one (iB tArr [.arr (.o k) 1 0 n n])] (.one (.box [.arr (.o k) 1 0 n n])):=by
 intro ou
 refine AFn.walk 15 tabOk Tryz.func198 rfl (by kernel_rfl) rfl rfl fun hou=>?_
 refine zA ?_
 refine zS (AStep.assertYes Qcx rfl rfl) ?_
 refine zA ?_
 exact APure.fin rfl (WkF.ofEq rfl) (by simp) hou rfl
theorem Qki(hΓ:∀g cs,(g,cs)∈Γ->idsL isO cs){c:AC}(hc:notT tArr c)(ou:Outer):AFnP Tryz.prog Γ 198 [.one c] ou (fun _ _=>False) (fun ps ou'=>ps=trapE 5/\ou'=ou):=by
 refine AFnP.walk 15 tabOk hΓ Tryz.func198 rfl (by kernel_rfl) rfl rfl fun hou=>?_
 refine zA ?_
 refine zS (AStep.assertNo Qcx rfl zArr rfl rfl hc) ?_
 refine zA ?_
 refine zS (AStep.mkIfcA Q0p rfl rfl) ?_
 exact AOps.panicI rfl rfl rfl fun w C v hv=>⟨hou,Q0t hv,rfl⟩
theorem Qds(a b:AC)(ha:a.ids isO)(hb:b.ids isO):APure Tryz.prog Γ 180 [.one (iB tRow [a,b])] (.one (.box [a,b])):=by
 intro ou
 refine AFn.walk 15 tabOk Tryz.func180 rfl (by kernel_rfl) rfl rfl fun hou=>?_
 refine zA ?_
 refine zS (AStep.assertYes Qag rfl rfl) ?_
 refine zA ?_
 exact APure.fin rfl (WkF.ofEq rfl) ⟨ha,hb,trivial⟩ hou rfl
theorem Qgs(hΓ:∀g cs,(g,cs)∈Γ->idsL isO cs){c:AC}(hc:notT tRow c)(ou:Outer):AFnP Tryz.prog Γ 180 [.one c] ou (fun _ _=>False) (fun ps ou'=>ps=trapE 5/\ou'=ou):=by
 refine AFnP.walk 15 tabOk hΓ Tryz.func180 rfl (by kernel_rfl) rfl rfl fun hou=>?_
 refine zA ?_
 refine zS (AStep.assertNo Qag rfl zRow rfl rfl hc) ?_
 refine zA ?_
 refine zS (AStep.mkIfcA Q0p rfl rfl) ?_
 exact AOps.panicI rfl rfl rfl fun w C v hv=>⟨hou,Q0t hv,rfl⟩
theorem Q6q(b:Bool):APure Tryz.prog Γ 191 [.one (.lit (.bool b))] (.one (iB tObj [int (if b then 1 else 0),.sl 1 []])):=by
 intro ou
 refine AFn.walk 10 tabOk Tryz.func191 rfl (by kernel_rfl) rfl rfl fun hou=>?_
 refine zA ?_
 refine ACode.cond rfl (fun hb=>?_) (fun hb=>?_)
 ·subst hb
  repeat ((fail_if_success ((with_reducible refine oj ?_);refine AOps.atDst 6 rfl ?_));first|refine zO ?_)
  refine AOps.freeze1 (.l 0) 5 rfl rfl ?_
  refine AOps.wk 5 rfl (y:=.one (.box [int 1,.sl 1 []])) (.one (Wk.box (.cons (.refl _) (.cons (.nilS 1) .nil)))) ?_
  refine zS (AStep.mkIfc Q3z rfl rfl) ?_
  refine zA ?_
  exact APure.fin rfl (WkF.ofEq rfl) (by simp[iB]) hou rfl
 ·subst hb
  repeat ((fail_if_success ((with_reducible refine oj ?_);refine AOps.atDst 9 rfl ?_));first|refine zO ?_)
  refine AOps.freeze1 (.l 0) 8 rfl rfl ?_
  refine AOps.wk 8 rfl (y:=.one (.box [int 0,.sl 1 []])) (.one (Wk.box (.cons (.refl _) (.cons (.nilS 1) .nil)))) ?_
  refine zS (AStep.mkIfc Q3z rfl rfl) ?_
  refine zA ?_
  exact APure.fin rfl (WkF.ofEq rfl) (by simp[iB]) hou rfl
theorem Q74(n:Int)(h0:-2305843009213693952<=n)(h1:n<=2305843009213693952):APure Tryz.prog Γ 188 [.one (int n)] (.one (int (wrapW n))):=by
 intro ou
 refine AFn.walk 7 tabOk Tryz.func188 rfl (by kernel_rfl) rfl rfl fun hou=>?_
 refine zM ?_
 refine zS (AStep.and rfl rfl rfl) ?_
 rw[Ql3]
 have h4:0<=(n - (-1073741824)) % 2147483648:=Int.emod_nonneg _ (by decide)
 have h5:(n - (-1073741824)) % 2147483648 < 2147483648:=Int.emod_lt_of_pos _ (by decide)
 refine zM ?_
 refine APure.fin rfl (WkF.ofEq ?_) (by simp) hou rfl
 unfold wrapW
 congr 3
theorem Q97(hΓ:∀g cs,(g,cs)∈Γ->idsL isO cs)(a b:Int)(ha:-1073741824<=a/\a<=1073741823)(hb:-1073741824<=b/\b<=1073741823)(hb0:b≠0):APure Tryz.prog Γ 190 [.one (int a),.one (int b)] (.tup [.one (int (a.tdiv b)),.one (int (a.tmod b))]):=by
 intro ou
 refine AFn.walk 16 tabOk Tryz.func190 rfl (by kernel_rfl) rfl rfl fun hou=>?_
 refine zA ?_
 refine ACode.cond rfl (fun hb=>absurd hb (by simpa using hb0)) (fun hb=>?_)
 have hq:Q3u .i64 (a.tdiv b):=by
  have h1:(a.tdiv b).natAbs<=a.natAbs:=Int.natAbs_tdiv_le_natAbs a b
  exact Q2m (by omega) (by omega)
 refine zA ?_
 refine ACode.drawX tabOk 7 [(2,.one (int (a.tdiv b))),(5,.one (int (a.tmod b)))] follows (by kernel_rfl) rfl rfl rfl rfl ?_ ?_
 ·exact⟨⟨_,rfl,AStep.quo rfl rfl rfl hb0 hq⟩,⟨_,rfl,AStep.rem rfl rfl rfl hb0⟩,trivial⟩
 refine zA ?_
 exact APure.fin rfl (WkF.ofEq rfl) (by simp) hou rfl
theorem Q98(hΓ:∀g cs,(g,cs)∈Γ->idsL isO cs)(a:Int)(ou:Outer):AFnP Tryz.prog Γ 190 [.one (int a),.one (int 0)] ou (fun _ _=>False) (fun ps ou'=>ps=trapE 1/\ou'=ou):=by
 refine AFnP.walk 16 tabOk hΓ Tryz.func190 rfl (by kernel_rfl) rfl rfl fun hou=>?_
 refine zA ?_
 refine zS (AStep.mkIfcA Q0p rfl rfl) ?_
 exact AOps.panicI rfl rfl rfl fun w C v hv=>⟨hou,Q0t hv,rfl⟩
theorem Qa2{H:Hm}{nm:Nm2}{v:Vl}{c:AC}(h:VR H nm v c):APure Tryz.prog Γ 95 [.one c] (.one (int (lastV v))):=by
 intro ou
 refine AFn.walk 17 tabOk Tryz.func95 rfl (by kernel_rfl) rfl rfl fun hou=>?_
 rcases h.isWord with ⟨n,rfl,rfl⟩|⟨hw,hn⟩
 ·refine zA ?_
  refine zS (AStep.assertYes conc3 rfl rfl) ?_
  refine zA ?_
  exact APure.fin rfl (WkF.ofEq rfl) (by simp) hou rfl
 ·refine zA ?_
  refine zS (AStep.assertNo conc3 rfl z3 rfl rfl hn) ?_
  refine zA ?_
  rcases h.isObj with ⟨g,fs,cs,rfl,rfl,h2⟩|⟨ho,hn2⟩
  ·refine zS (AStep.assertYes Q3z rfl rfl) ?_
   refine zA ?_
   exact APure.fin rfl (WkF.ofEq rfl) (by simp) hou rfl
  ·refine zS (AStep.assertNo Q3z rfl zObj rfl rfl hn2) ?_
   refine zA ?_
   refine APure.fin rfl (WkF.ofEq ?_) (by simp) hou rfl
   cases v <;> first|rfl|exact absurd rfl (hw _)|exact absurd rfl (ho _ _)
theorem Q2d(t:Tr):APure Tryz.prog Γ 153 [.one (.box (cTr t))] (.one (int (opdN t))):=by
 intro ou
 refine AFn.walk 17 tabOk Tryz.func153 rfl (by kernel_rfl) rfl rfl fun hou=>?_
 unfold opdN
 repeat' first|refine zN ?_|(with_reducible refine oj ?_;refine AOps.splitS rfl rfl rfl rfl (fun hb=>?_) (fun hb=>?_))|(with_reducible refine ok ?_;first|refine ACode.condS rfl (fun hb=>?_) (fun hb=>?_)|refine ACode.cond rfl (fun hb=>?_) (fun hb=>?_))
 all_goals (refine APure.fin rfl (WkF.ofEq ?_) (by simp) hou rfl)
 all_goals (simp_all[int,Q4l])
theorem Q5w(id:Int)(vc ec:AC)(hv:vc.ids isO)(he:ec.ids isO)(ou:Outer):AFn Tryz.prog Γ 154 [.one ec,.one (int id),.one vc] ou
  (fun r ou'=>∃k,r=.one (.ptr (.o k) 0)/\NewO ou ou' [(k,.cells [int id,vc,ec])]):=by
 refine AFn.walk 12 tabOk Tryz.func154 rfl (by kernel_rfl) rfl rfl fun hou=>?_
 repeat ((fail_if_success ((with_reducible refine oj ?_);refine AOps.atDst 11 rfl ?_));first|refine zO ?_)
 (first|((with_reducible refine oj ?_);refine zau ?_)|(with_reducible refine zst ?_)|((with_reducible refine Q0q ?_ ?_);rfl)|(with_reducible refine ok ?_;first|refine ACode.condT rfl ?_|refine ACode.condF rfl ?_))
 refine AOps.cedes [0] rfl (by decide) hou fun k hk=>⟨[(11,.one (.ptr (.o k) 0))],[],[.cells [int id,vc,ec]],.cons rfl rfl .nil,.nil,?_,?_⟩
 ·exact .cons rfl (AObj.sub_f (fun i hi=>by cases i with|l q=>exact hi.elim|o q=>rfl) _ ⟨trivial,hv,he,trivial⟩) .nil
 have hN:=NewO.add hk hou (show (AObj.cells [int id,vc,ec]).ids isO from ⟨trivial,hv,he,trivial⟩)
 refine zA ?_
 exact AFn.fin' rfl (WkF.ofEq rfl) (by simp) hN.ok ⟨k,rfl,hN⟩
inductive Ch (H:Hm):AC->List (Int×AC)->Prop
 |nil:Ch H nilPE []
 |cons (i:Int) (k:Nat) (vc nc:AC) (l:List (Int×AC)) (hk:H k=some [int i,vc,nc]) (h:Ch H nc l):Ch H (.ptr (.o k) 0) ((i,vc)::l)
def lookI (id:Int):List (Int×AC)->AC
 |[]=>.lit .nilIface
 |(i,c)::l=>if i=id then c else lookI id l
theorem RecC.ch{H:Hm}{t:Tr}{top:AC}{b:AC}{lb:List (Int×AC)}(hb:Ch H b lb):∀{i:Nat}{c:AC},RecC H t top i c b->
  ∃l,Ch H c l/\∀id,(∃j q,Q4z t.binds id i=some j/\lookI id l=.ifc tClo false [.ptr (.o q) 0]/\H q=some [.box (cTr (t.kids.getD j default)),top])∨(Q4z t.binds id i=none/\lookI id l=lookI id lb)
 |_,_,.zero c=>⟨lb,hb,fun id=>.inr ⟨rfl,rfl⟩⟩
 |_,_,.succ i k q c b hk hq h=>by
  obtain⟨l,h1,h2⟩:=RecC.ch hb h
  refine⟨_,.cons _ k _ _ l hk h1,fun id=>?_⟩
  simp only[lookI,Q4z]
  by_cases e:t.binds.getD i 0=id
  ·exact .inl ⟨i,q,by rw[if_pos e],by rw[if_pos e],hq⟩
  ·rw[if_neg e,if_neg e];exact h2 id
theorem ER.ch{H:Hm}{nm:Nm2}:∀{e:En}{c:AC},ER H nm e c->∃l,Ch H c l/\∀id,VR H nm (findE id e) (lookI id l)
 |_,_,.nil=>⟨[],.nil,fun id=>by simp only[findE,lookI];exact .nil⟩
 |_,_,.bind i v n k vc nc hk hv hn=>by
  obtain⟨l,h1,h2⟩:=ER.ch hn
  refine⟨_,.cons i k vc nc l hk h1,fun id=>?_⟩
  simp only[findE,lookI]
  by_cases e:i=id
  ·rw[if_pos e,if_pos e];exact hv
  ·rw[if_neg e,if_neg e];exact h2 id
 |_,_,.recs t n c nc hc hn=>by
  obtain⟨l,h1,h2⟩:=ER.ch hn
  obtain⟨l',h3,h4⟩:=hc.ch h1
  refine⟨l',h3,fun id=>?_⟩
  simp only[findE]
  rcases h4 id with ⟨j,q,h5,h6,h7⟩|⟨h5,h6⟩
  ·rw[h5,h6]
   exact .cloP _ _ _ q h7 (.recs t n c nc hc hn)
  ·rw[h5,h6];exact h2 id
theorem Q0s{c:AC}(h:c.ids isO)(n:Nat):c.ids (inL n):=AC.ids_mono (fun i hi=>by cases i with|l k=>exact hi.elim|o k=>trivial) c h
theorem Q1v{c:List (List AC)}(h:idsS isO c)(n:Nat):idsS (inL n) c:=Q5o (fun i hi=>by cases i with|l k=>exact hi.elim|o k=>trivial) c h
def InOu (H:Hm)(ou:Outer):Prop:=∀k cs,H k=some cs->ou k=some (.cells cs)
theorem Qij(hΓ:∀g cs,(g,cs)∈Γ->idsL isO cs){H:Hm}{c:AC}{l:List (Int×AC)}(hc:Ch H c l)(id:Int)(ou:Outer)(hH:InOu H ou)(hci:c.ids isO)(hli:(lookI id l).ids isO):
  AFn Tryz.prog Γ 161 [.one c,.one (int id)] ou (fun r ou'=>r=.one (lookI id l)/\ou'=ou):=by
 refine AFn.walk 21 tabOk Tryz.func161 rfl (by kernel_rfl) rfl rfl fun hou=>?_
 refine zA ?_
 refine ACode.loopR hΓ (α:=AC×List (Int×AC)) (fun a=>[(1,.one (int id)),(0,.one a.1)]) (fun a=>⟨0,[],ou⟩) (fun m a=>Ch H a.1 a.2/\lookI id a.2=lookI id l/\a.1.ids isO/\m=a.2.length) (a0:=(c,l)) (ρ:=_root_.id) ⟨hc,rfl,hci,rfl⟩ (LessR.of rfl zFW (by simp[Q0s hci]) zLO rfl rfl hou) fun m a ha=>?_
 obtain⟨c1,l1⟩:=a
 obtain⟨h1,h2,h3,rfl⟩:=ha
 dsimp only at h1 h2 h3 ⊢
 cases h1 with
 |nil=>
  refine zA ?_
  refine zS (AStep.neNil0 Tryz.underlying98 rfl rfl rfl) ?_
  refine zA ?_
  exact AFn.fin' (r':=.one (lookI id l)) rfl (WkF.ofEq (by rw[←h2];rfl)) hli hou ⟨rfl,rfl⟩
 |cons i k vc nc l2 hk hch=>
  have hx:=hH k _ hk
  have hids:idsL isO [int i,vc,nc]:=hou k _ hx
  have hnc:nc.ids isO:=hids.2.2.1
  refine zA ?_
  refine zS (AStep.neNil Tryz.underlying98 rfl rfl rfl) ?_
  repeat' first|refine zN ?_|((with_reducible refine oj ?_);first|refine zix ?_|refine zow rfl rfl hx ?_)
  refine ACode.cond rfl (fun hb=>?_) (fun hb=>?_)
  ·have he:i=id:=by simpa using hb
   repeat' first|refine zN ?_|((with_reducible refine oj ?_);first|refine zix ?_|refine zow rfl rfl hx ?_)
   exact AFn.fin' (r':=.one (lookI id l)) rfl (WkF.ofEq (by rw[←h2];simp[lookI,he])) hli hou ⟨rfl,rfl⟩
  ·have he:i≠id:=by simpa using hb
   repeat' first|refine zN ?_|((with_reducible refine oj ?_);first|refine zix ?_|refine zow rfl rfl hx ?_)
   exact cInv ⟨l2.length,(nc,l2),_root_.id,by simp,⟨hch,by rw[←h2];simp[lookI,he],hnc,rfl⟩,LessR.of rfl zFW (by simp[Q0s hnc]) zLO rfl rfl hou⟩
def Qhb:AObj->Prop
 |.cells _=>True
 |.tok _ _ _=>True
 |.dead=>True
 |_=>False
structure Gro (ou:Outer)(H:Hm)(ou':Outer)(H':Hm):Prop where
 h:∀k cs,H k=some cs->H' k=some cs
 new:∀k,H k=none->H' k≠none->ou k=none
 old:∀k o,ou k=some o->ou' k=some o
 inO:InOu H' ou'
 ok:OuOk ou'
 pl:∀k o,ou' k=some o->ou k=some o∨Qhb o
theorem Gro.refl{ou:Outer}{H:Hm}(h:InOu H ou)(ho:OuOk ou):Gro ou H ou H:=⟨fun _ _ h=>h,fun k h1 h2=>absurd h1 h2,fun _ _ h=>h,h,ho,fun _ _ h=>.inl h⟩
theorem Gro.trans{ou ou1 ou2:Outer}{H H1 H2:Hm}(a:Gro ou H ou1 H1)(b:Gro ou1 H1 ou2 H2):Gro ou H ou2 H2:=by
 refine⟨fun k cs h=>b.h k cs (a.h k cs h),fun k h1 h2=>?_,fun k o h=>b.old k o (a.old k o h),b.inO,b.ok,fun k o h=>(b.pl k o h).elim (a.pl k o) .inr⟩
 by_cases h3:H1 k=none
 ·have:=b.new k h3 h2
  cases h4:ou k with
  |none=>rfl
  |some o=>rw[a.old k o h4]at this;cases this
 ·exact a.new k h1 h3
theorem Gro.mo{ou ou':Outer}{H H':Hm}(g:Gro ou H ou' H')(nm:Nm2):Mo H nm H' nm:=⟨g.h,fun _ _ h=>h⟩
def addH (H:Hm)(k:Nat)(cs:List AC):Hm:=fun j=>if j=k then some cs else H j
theorem Gro.add{ou ou':Outer}{H:Hm}(h:InOu H ou){k:Nat}{cs:List AC}(hN:NewO ou ou' [(k,.cells cs)]):Gro ou H ou' (addH H k cs):=by
 have hk:ou k=none:=hN.new k (by simp[keys])
 have hHk:H k=none:=by
  cases h1:H k with
  |none=>rfl
  |some c=>rw[h k c h1]at hk;cases hk
 have hold:∀j o,ou j=some o->ou' j=some o:=fun j o hj=>by
  rw[hN.old j (by simp[keys];rintro rfl;rw[hk]at hj;cases hj)];exact hj
 refine⟨fun j c hj=>?_,fun j h1 h2=>?_,hold,fun j c hj=>?_,hN.ok,fun j o hj=>?_⟩
 ·unfold addH
  rw[if_neg (by rintro rfl;rw[hHk]at hj;cases hj)];exact hj
 ·unfold addH at h2
  split at h2
  ·rename_i e;rw[e];exact hk
  ·exact absurd h1 h2
 ·unfold addH at hj
  split at hj
  ·rename_i e;subst e;cases hj
   exact hN.own (j,_) (by simp)
  ·exact hold j _ (h j c hj)
 ·by_cases e:j=k
  ·subst e
   have:=hN.own (j,_) (List.mem_singleton.2 rfl)
   rw[this]at hj;cases hj;exact .inr trivial
  ·rw[hN.old j (by simp[keys];exact e)]at hj;exact .inl hj
theorem Qc3(x:Int):∀(b:List Int)(l:List Vl)(e:En),allE e (b++[x]) l=.bind x (l.getD b.length .nil) (allE e b l)
 |[],l,e=>by cases l <;> simp[allE]
 |y::b,l,e=>by
  simp only[List.cons_append,allE,Qc3 x b]
  cases l <;> simp
theorem Qc1(hΓ:∀g cs,(g,cs)∈Γ->idsL isO cs){H:Hm}{nm:Nm2}{e:En}{ec:AC}{b:List Int}{l:List Vl}{cs:List (List AC)}(he:ER H nm e ec)(hl:VsR H nm l cs)(hbl:b.length=l.length)(hb20:b.length<=1048576)(ou:Outer)(hH:InOu H ou):
  AFn Tryz.prog Γ 158 [.one ec,.one (.sl 1 (b.map cI)),.one (.sl 1 cs)] ou (fun r ou'=>∃H' c,r=.one c/\Gro ou H ou' H'/\ER H' nm (allE e b l) c):=by
 have hei:=he.ids
 have hci:=hl.ids
 have hcl:=hl.len
 refine AFn.walk 25 tabOk Tryz.func158 rfl (by kernel_rfl) rfl rfl fun hou=>?_
 refine zA ?_
 refine ACode.loopR hΓ (α:=Nat×AC×Outer×Hm) (fun a=>[(11,.one (int a.1)),(10,.one (int (b.map cI).length)),(9,.one (.sl 1 (b.map cI))),(2,.one (.sl 1 cs)),(0,.one a.2.1)]) (fun a=>⟨0,[],a.2.2.1⟩)
  (fun m a=>a.1<=b.length/\Gro ou H a.2.2.1 a.2.2.2/\ER a.2.2.2 nm (allE e (b.take a.1) l) a.2.1/\m=b.length - a.1) (a0:=(0,ec,ou,H)) (ρ:=_root_.id) ⟨by simp,Gro.refl hH hou,by simpa[allE]using he,rfl⟩
  (LessR.of rfl zFW (by simp[Q0s hei,Q1v hci]) zLO rfl rfl hou) fun m a ha=>?_
 obtain⟨i,c,ou1,H1⟩:=a
 obtain⟨hi,hg,he1,rfl⟩:=ha
 dsimp only at hi hg he1 ⊢
 have hou1:=hg.ok
 have hc1:=he1.ids
 refine zA ?_
 refine ACode.cond rfl (fun hb2=>?_) (fun hb2=>?_)
 ·have hlt:i < b.length:=by simpa using hb2
  clear hb2
  obtain⟨x,hx⟩:=Q01 hlt
  obtain⟨v,hv⟩:=Q01 (l:=l) (i:=i) (by omega)
  obtain⟨y,hy,hvy⟩:=hl.get hv
  have hyi:=hvy.ids
  refine zA ?_
  refine zS (zIA rfl rfl rfl (by omega) (Q0a hx)) ?_
  refine zA ?_
  refine zS (zIA rfl rfl rfl (by omega) (show cs[i]?=some [y]from hy)) ?_
  refine zA ?_
  refine AOps.call1 hΓ rfl rfl rfl rfl rfl rfl rfl ⟨hc1,trivial,hyi,trivial⟩ hou1 (Q5w x y c hyi hc1 ou1) fun r ou2 hq hids hou2=>?_
  obtain⟨k,rfl,hN⟩:=hq
  have hg2:=Gro.add hg.inO hN
  have he2:ER (addH H1 k [int x,y,c]) nm (allE e (b.take (i+1)) l) (.ptr (.o k) 0):=by
   have ht:b.take (i+1)=b.take i++[x]:=Q3d hx
   rw[ht,Qc3]
   have hlen:(b.take i).length=i:=by simp;omega
   rw[hlen,List.getD_eq_getElem?_getD,hv]
   exact .bind x v _ k y c (by simp[addH]) (hvy.mo (((hg.trans hg2).mo nm))) (he1.mo (hg2.mo nm))
  refine zM ?_
  exact cInv ⟨b.length - (i+1),(i+1,.ptr (.o k) 0,ou2,addH H1 k [int x,y,c]),_root_.id,by omega,⟨by omega,hg.trans hg2,he2,rfl⟩,LessR.of rfl zFW (by simp[Q1v hci]) zLO rfl rfl hou2⟩
 ·have hlt:i=b.length:=by simp at hb2;omega
  subst hlt
  rw[List.take_length]at he1
  refine zA ?_
  exact AFn.fin' (r':=.one c) rfl (WkF.refl _) hc1 hou1 ⟨H1,c,rfl,hg,he1⟩
end Go.Proofs.YtmdkenkhaicbeaaGreatDoor
