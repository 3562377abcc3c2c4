/- A renamed expression is valid and the same. No condition. -/
import Derived.Test.YtkgjldchcbfpnaaGreatDoorF8
set_option maxRecDepth 10000
set_option linter.unusedVariables false
set_option linter.unusedSimpArgs false
namespace Go.CoreX
theorem sum0{α:Type}{f:α->Int}:∀{l:List α},(∀x∈l,0<=f x)->(l.map f).sum=0->∀x∈l,f x=0
 | [], _, _, x, hx => by simp at hx
 |y::l,h,hs,x,hx=>by
  have h1:=h y (by simp)
  have h2:∀z∈l,0<=f z:=fun z hz=>h z (by simp[hz])
  have h3:0<=(l.map f).sum:=by
   clear h h1 hs hx
   induction l with
   |nil=>simp
   |cons z l ih=>
    have:=h2 z (by simp)
    have:=ih fun y hy=>h2 y (by simp[hy])
    simp only[List.map_cons,List.sum_cons];omega
  simp only[List.map_cons,List.sum_cons]at hs
  rcases List.mem_cons.1 hx with rfl|hx
  ·omega
  ·exact sum0 h2 (by omega) x hx
open Classical in
mutual
theorem Qeq{p:Lab->Prop}:∀t:Tr,allT p t->sumT (fun l=>if p l then 0 else 1) t=0
 |.mk o n b k a,h=>by
  simp only[sumT,Qc1 k h.2]
  rw[if_pos h.1];rfl
theorem Qc1{p:Lab->Prop}:∀l:List Tr,allTs p l->sumTs (fun l=>if p l then 0 else 1) l=0
 |[],_=>rfl
 |t::l,h=>by simp only[sumTs,Qeq t h.1,Qc1 l h.2];rfl
end
open Classical in
theorem Qh7{p:Lab->Prop}{g:List Ex}(h:IsTree g)(ha:allT p (grow g)):∀l∈labs g,p l:=by
 have h1:=Q8j (fun l=>if p l then (0:Int)else 1) h
 rw[Qeq _ ha]at h1
 intro l hl
 have:=sum0 (fun x _=>by split <;> omega) h1 l hl
 split at this
 ·assumption
 ·cases this
theorem Qbi{e:List Ex}(h:check e=0):Q1p e=0/\(∀x∈e,Q0m false e x=0)/\(Q0b e).Nodup/\occT [] (grow e)=[]:=by
 unfold check body at h
 by_cases h1:Q1p e=0
 ·rw [if_neg (by simpa using h1)] at h
  by_cases h2:Q1m (Q0m false e) e=0
  ·rw[if_neg (by simpa using h2)]at h
   by_cases h3:Q4h ([]++Q0b e)=true
   ·rw[if_pos h3]at h;cases h
   ·rw[if_neg h3]at h
    have h3':=(Q33 _).1 (by simpa using h3)
    refine⟨h1,(Q1l _ _).1 h2,by simpa using h3',?_⟩
    by_cases h4:(Q2j (grow e)).all (fun n=>([]:List Int).contains n)=true
    ·have h5:Q2j (grow e)=[]:=by
      cases hf:Q2j (grow e) with
      |nil=>rfl
      |cons n l=>rw[hf]at h4;simp at h4
     unfold Q2j at h5
     cases ho:occT [] (grow e) with
     |nil=>rfl
     |cons n l=>
      have:=(Q4u n (n::l)).2 (by simp)
      rw[←ho,h5]at this
      simp at this
    ·rw[if_neg h4]at h;cases h
  ·rw[if_pos (by simpa using h2)]at h;exact absurd h h2
 ·rw[if_pos h1]at h;exact absurd h h1
end Go.CoreX
namespace Go.Proofs.YtkgjldchcbfpnaaGreatDoor
open Go Go.Abs Go.CoreX
variable {Γ:List (Nat×List AC)}
end Go.Proofs.YtkgjldchcbfpnaaGreatDoor
namespace Go.CoreX
structure pOk (l:Lab):Prop where
 b:l.binds.length<=1048576
 k:l.ops.length<=1048576
 a:l.alts.length<=1048576
 ab:∀x∈l.alts,x.binds.length<=1048576
 s:l.binds.length+(l.alts.flatMap (·.binds)).length<=4194304
-- Two lists in order, with the same members, are one list.
end Go.CoreX
namespace Go.Proofs.YtkgjldchcbfpnaaGreatDoor
open Go Go.Abs Go.CoreX
theorem Qds{g:List Ex}(hl:g.length<=1048576)(h:∀l∈labs g,pOk l):okB g:=by
 refine⟨⟨hl,fun x hx=>?_⟩,fun x hx=>?_⟩
 ·have:=h _ (List.mem_map_of_mem (f:=labE g) hx)
  exact⟨this.b,by simpa[labE]using this.k,this.a,this.ab⟩
 ·exact (h _ (List.mem_map_of_mem (f:=labE g) hx)).s
end Go.Proofs.YtkgjldchcbfpnaaGreatDoor
namespace Go.CoreX
end Go.CoreX
namespace Go.CoreX
mutual
theorem Qb4:∀t:Tr,okT t->allT pOk t
 |.mk o n b k a,h=>⟨⟨h.1,by simpa using h.2.1,h.2.2.1,h.2.2.2.1.1,h.2.2.2.1.2⟩,Qcg k h.2.2.2.2⟩
theorem Qcg:∀l:List Tr,okTs l->allTs pOk l
 |[],_=>trivial
 |t::l,h=>⟨Qb4 t h.1,Qcg l h.2⟩
end
end Go.CoreX
namespace Go.Proofs.YtkgjldchcbfpnaaGreatDoor
open Go Go.Abs Go.CoreX
theorem Qci{T:Tr}(h:allT pOk T)(hl:cntN T<=1048576):okB (listT [] T):=Qds (by have:=Qaf T [];simp at this;omega) (Qh7 (Q6t _) (by rw[Q3v];exact h))
end Go.Proofs.YtkgjldchcbfpnaaGreatDoor
namespace Go.CoreX
mutual
inductive Vl where
 |nil
 |word (n:Int)
 |clo (t:Tr) (e:En)
 |obj (tag:Int) (fs:List Vl)
 |row (ls:List Int) (fs:List Vl)
 |arr (a:Nat)
 |res (fs:List Fm)
 |cap (fn:Int) (slots:List Vl)
inductive En where
 |nil
 |bind (id:Int) (v:Vl) (next:En)
 |recs (t:Tr) (next:En)
inductive Fm where
 |mk (t:Tr) (e:En) (done:List Vl)
end
instance:Inhabited Vl:=⟨.nil⟩
instance:Inhabited Fm:=⟨.mk default .nil []⟩
def Fm.t:Fm->Tr|.mk t _ _=>t
def Fm.e:Fm->En|.mk _ e _=>e
def Fm.done:Fm->List Vl|.mk _ _ d=>d
@[simp] theorem Fm.t_mk (t e d):(Fm.mk t e d).t=t:=rfl
@[simp] theorem Fm.e_mk (t e d):(Fm.mk t e d).e=e:=rfl
@[simp] theorem Fm.done_mk (t e d):(Fm.mk t e d).done=d:=rfl

def Q6q (l:List Int)(id:Int):Nat->Option Nat
 |0=>none
 |i+1=>if l.getD i 0=id then some i else Q6q l id i
def findE (id:Int):En->Vl
 |.nil=>.nil
 |.bind i v n=>if i=id then v else findE id n
 |.recs t n=>match Q6q t.binds id t.binds.length with
  |some i=>.clo (t.kids.getD i default) (.recs t n)
  |none=>findE id n
def allE (e:En):List Int->List Vl->En
 |id::ids,l=>allE (.bind id (l.headD .nil) e) ids l.tail
 |[],_=>e

inductive Ctl where
 |ev (t:Tr) (e:En)
 |rt (v:Vl)
structure Ms where
 c:Ctl
 k:List Fm
 out:List Int
 steps:Int
 heap:List (List Vl)
structure Fun where
 params:List Int
 body:Tr

def condV (b:Bool):Vl:=.obj (if b then 1 else 0) []
def wrapW (n:Int):Int:=(n+1073741824) % 2147483648 - 1073741824
def wordV:Vl->Except Int Int
 |.word n=>.ok n
 |_=>.error 5
def Qcw (h:List (List Vl)):Vl->Except Int (Nat×List Vl)
 |.arr a=>.ok (a,h.getD a [])
 |_=>.error 5
def rowsV:Vl->Except Int (List Int×List Vl)
 |.row ls fs=>.ok (ls,fs)
 |_=>.error 5

def bsGo (l:List Int)(x:Int):Nat->Nat->Nat->Nat
 |0,i,_=>i
 |g+1,i,j=>if i < j then (if l.getD ((i+j) / 2) 0 < x then bsGo l x g ((i+j) / 2+1) j else bsGo l x g i ((i+j) / 2))else i
def bsAt (l:List Int)(x:Int):Nat:=bsGo l x l.length 0 l.length
def bsIs (l:List Int)(x:Int):Bool:=decide (bsAt l x < l.length)&&l.getD (bsAt l x) 0==x

def Q34 (fu:Int)(m:Ms)(many:Int)(v:Vl):Except Int (Ms×Vl):=
 if many < 0∨1024 < many then .error 6 else if fu - m.steps < many then .error (-1) else
 .ok ({ m with steps:=m.steps+many,heap:=m.heap++[List.replicate many.toNat v] },.arr m.heap.length)
def Q2c (m:Ms)(n:Int)(l:List Vl):Except Int (Ms×Vl):=do
 let (a,its) ←Qcw m.heap (l.getD 0 .nil)
 if n=9 then return (m,.word its.length)
 let i ←wordV (l.getD 1 .nil)
 if i < 0∨(its.length:Int)<=i then .error 2
 else if n=10 then return (m,its.getD i.toNat .nil)
 else return ({ m with heap:=m.heap.set a (its.set i.toNat (l.getD 2 .nil)) },.obj 0 [])
def primM (fu:Int)(m:Ms)(n:Int)(l:List Vl):Except Int (Ms×Vl):=
 if n=0 then do return (m,.word (wrapW ((←wordV (l.getD 0 .nil))+(←wordV (l.getD 1 .nil))))) else
 if n=1 then do return (m,.word (wrapW ((←wordV (l.getD 0 .nil)) - (←wordV (l.getD 1 .nil))))) else
 if n=2 then do return (m,.word (wrapW ((←wordV (l.getD 0 .nil)) * (←wordV (l.getD 1 .nil))))) else
 if n=3 then do
  let a ←wordV (l.getD 0 .nil)
  let b ←wordV (l.getD 1 .nil)
  if b=0 then .error 1 else return (m,.word (wrapW (a.tdiv b))) else
 if n=4 then do
  let a ←wordV (l.getD 0 .nil)
  let b ←wordV (l.getD 1 .nil)
  if b=0 then .error 1 else return (m,.word (a.tmod b)) else
 if n=5 then do return (m,condV (decide ((←wordV (l.getD 0 .nil)) < (←wordV (l.getD 1 .nil))))) else
 if n=6 then do return (m,condV (decide ((←wordV (l.getD 0 .nil))=(←wordV (l.getD 1 .nil))))) else
 if n=7 then do
  let a ←wordV (l.getD 0 .nil)
  if m.out.length=1000 then .error 6 else return ({ m with out:=m.out++[a] },.obj 0 []) else
 if n=8 then do
  let a ←wordV (l.getD 0 .nil)
  Q34 fu m a (l.getD 1 .nil) else
 Q2c m n l
def withR (ls:List Int)(fs:List Vl)(n:Int)(v:Vl):Vl:=
 if bsIs ls n then .row ls (fs.set (bsAt ls n) v)
 else .row (ls.take (bsAt ls n)++n::ls.drop (bsAt ls n)) (fs.take (bsAt ls n)++v::fs.drop (bsAt ls n))
def Q0r (fu:Int)(m:Ms)(t:Tr)(l:List Vl):Except Int (Ms×Vl):=
 if t.op=6 then .ok (m,.obj t.n l) else
 if t.op=8 then primM fu m t.n l else
 if t.op=9 then .ok (m,.row t.binds l) else
 if t.op=10 then do
  let (ls,fs) ←rowsV (l.getD 0 .nil)
  if bsIs ls t.n then return (m,fs.getD (bsAt ls t.n) .nil)else .error 3
 else do
  let (ls,fs) ←rowsV (l.getD 0 .nil)
  return (m,withR ls fs t.n (l.getD 1 .nil))
def opdN (t:Tr):Nat:=if t.op=4∨t.op=7∨t.op=13∨t.op=12 then 1 else t.kids.length
def Q19 (tag:Int)(fs:List Vl)(e:En)(kids:List Tr):Nat->List Alt->Except Int Ctl
 |_,[]=>.error 3
 |i,a::al=>if a.tag=tag then (if a.binds.length=fs.length then .ok (.ev (kids.getD (1+i) default) (allE e a.binds fs))else .error 5)
  else if a.tag=-1 then .ok (.ev (kids.getD (1+i) default) e)else Q19 tag fs e kids (i+1) al
def Q2b (m:Ms)(t:Tr)(e:En)(v:Vl):Except Int Ms:=
 match v with
 |.obj tag fs=>(Q19 tag fs e t.kids 0 t.alts).map fun c=>{ m with c:=c }
 |_=>.error 5
def callM (fns:List Fun)(m:Ms)(f:Vl)(args:List Vl):Except Int Ms:=
 match f with
 |.clo t e=>if t.binds.length=args.length then .ok { m with c:=.ev (t.kids.getD 0 default) (allE e t.binds args) }else .error 5
 |.cap n slots=>if (fns.getD n.toNat ⟨[],default⟩).params.length=args.length+1 then .ok { m with c:=.ev (fns.getD n.toNat ⟨[],default⟩).body (allE .nil (fns.getD n.toNat ⟨[],default⟩).params (.cap n slots::args)) }else .error 5
 |.res fs=>match args with
  |[a]=>.ok { m with c:=.rt a,k:=fs++m.k }
  |_=>.error 5
 |_=>.error 5
def Q6c (op:Int):Nat->List Alt->Option Nat
 |_,[]=>none
 |i,a::al=>if a.tag=op/\0 < i then some i else Q6c op (i+1) al
def Q30 (m:Ms)(op:Int)(v:Vl):List Fm->List Fm->Except Int Ms
 |_,[]=>.error 4
 |l,f::k=>match (if f.t.op=13 then Q6c op 0 f.t.alts else none) with
  |some i=>.ok { m with c:=.ev (f.t.kids.getD (1+i) default) (.bind ((f.t.alts.getD i ⟨0,[]⟩).binds.getD 1 0) (.res (l++[f])) (.bind ((f.t.alts.getD i ⟨0,[]⟩).binds.getD 0 0) v f.e)),k:=k }
  |none=>Q30 m op v (l++[f]) k
def kidM (fu:Int)(fns:List Fun)(m:Ms)(f:Fm)(k:List Fm):Except Int Ms:=
 if f.done.length < opdN f.t then .ok { m with c:=.ev (f.t.kids.getD f.done.length default) f.e,k:=f::k } else
 if f.t.op=4 then .ok { m with c:=.ev (f.t.kids.getD 1 default) (.bind (f.t.binds.getD 0 0) (f.done.getD 0 .nil) f.e),k:=k } else
 if f.t.op=7 then Q2b { m with k:=k } f.t f.e (f.done.getD 0 .nil) else
 if f.t.op=3 then callM fns { m with k:=k } (f.done.getD 0 .nil) (f.done.drop 1) else
 if f.t.op=13 then .ok { m with c:=.ev (f.t.kids.getD 1 default) (.bind ((f.t.alts.getD 0 ⟨0,[]⟩).binds.getD 0 0) (f.done.getD 0 .nil) f.e),k:=k } else
 if f.t.op=12 then Q30 m f.t.n (f.done.getD 0 .nil) [] k else
 if f.t.op=14 then .ok { m with c:=.ev (fns.getD f.t.n.toNat ⟨[],default⟩).body (allE .nil (fns.getD f.t.n.toNat ⟨[],default⟩).params f.done),k:=k } else
 if f.t.op=15 then .ok { m with c:=.rt (.cap f.t.n f.done),k:=k } else
 if f.t.op=16 then (match f.done.getD 0 .nil with
  |.cap _ slots=>if f.t.n < slots.length then .ok { m with c:=.rt (slots.getD f.t.n.toNat .nil),k:=k }else .error 5
  |_=>.error 5) else
 (Q0r fu { m with k:=k } f.t f.done).map fun (m',v)=>{ m' with c:=.rt v }
def Q0h (fu:Int)(fns:List Fun)(m:Ms)(t:Tr)(e:En):Except Int Ms:=
 if t.op=0 then .ok { m with c:=.rt (findE t.n e) } else
 if t.op=1 then .ok { m with c:=.rt (.word t.n) } else
 if t.op=2 then .ok { m with c:=.rt (.clo t e) } else
 if t.op=17 then .error t.n else
 if t.op=5 then .ok { m with c:=.ev (t.kids.getD t.binds.length default) (.recs t e) } else
 kidM fu fns m (.mk t e []) m.k
inductive Rd where
 |next (m:Ms)
 |done (m:Ms) (v:Vl)
 |fuel
 |trap (code:Int) (m:Ms)
def Q0c (fu:Int)(fns:List Fun)(m:Ms):Rd:=
 match m.c with
 |.rt v=>match m.k with
  |[]=>.done m v
  |f::k=>match kidM fu fns m (.mk f.t f.e (f.done++[v])) k with
   |.ok m'=>.next m'
   |.error c=>.trap c m
 |.ev t e=>if m.steps=fu then .fuel else
  match Q0h fu fns { m with steps:=m.steps+1 } t e with
  |.ok m'=>.next m'
  |.error c=>.trap c { m with steps:=m.steps+1 }
structure Rs where
 out:List Int
 fin:Int
 val:Int
 steps:Int
 err:Int
 deriving DecidableEq
def lastV:Vl->Int
 |.word n=>n
 |.obj t _=>t
 |_=>0
def Q2s:Rs:=⟨[],0,0,0,13⟩
def goM (fu:Int)(fns:List Fun):Nat->Ms->Option Rs
 |0,_=>none
 |g+1,m=>match Q0c fu fns m with
  |.next m'=>goM fu fns g m'
  |.done m v=>some ⟨m.out,0,lastV v,m.steps,0⟩
  |.fuel=>some Q2s
  |.trap c m=>some (if c < 0 then Q2s else ⟨m.out,c,0,m.steps,0⟩)
end Go.CoreX
namespace Go.CoreX
inductive Rn (fu:Int)(fns:List Fun):Nat->Ms->Ms->Prop
 |zero (m:Ms):Rn fu fns 0 m m
 |succ {n:Nat}{m m1 m':Ms}(h:Q0c fu fns m=.next m1) (k:Rn fu fns n m1 m'):Rn fu fns (n+1) m m'
section
variable {fu:Int}{fns:List Fun}
theorem Rn.trans{n n':Nat}{m m1 m2:Ms}(a:Rn fu fns n m m1)(b:Rn fu fns n' m1 m2):Rn fu fns (n'+n) m m2:=by
 induction a with
 |zero m=>exact b
 |succ h k ih=>exact .succ h (ih b)
theorem Rn.go{n:Nat}{m m':Ms}(a:Rn fu fns n m m')(g:Nat):goM fu fns (g+n) m=goM fu fns g m':=by
 induction a with
 |zero m=>rfl
 |succ h k ih=>
  rw[←Nat.add_assoc,goM,h]
  exact ih
def Rs' (fu:Int)(fns:List Fun)(m m':Ms):Prop:=∃n,Rn fu fns n m m'
theorem Rs'.trans{m m1 m2:Ms}(a:Rs' fu fns m m1)(b:Rs' fu fns m1 m2):Rs' fu fns m m2:=by
 obtain⟨n,a⟩:=a;obtain⟨k,b⟩:=b;exact⟨_,a.trans b⟩
theorem Rs'.one{m m1 m2:Ms}(h:Q0c fu fns m=.next m1)(b:Rs' fu fns m1 m2):Rs' fu fns m m2:=by
 obtain⟨k,b⟩:=b;exact⟨_,.succ h b⟩
end
end Go.CoreX
namespace Go.CoreX
section
variable {fu:Int}{fns:List Fun}
def tV (n:Int):Tr:=.mk 0 n [] [] []
def tW (n:Int):Tr:=.mk 1 n [] [] []
end
end Go.CoreX
namespace Go.CoreX
mutual
def szV:Vl->Nat
 |.res fs=>szFs fs
 |_=>0
def szVs:List Vl->Nat
 |[]=>0
 |v::vs=>szV v+szVs vs
def szF:Fm->Nat
 |.mk _ _ d=>1+szVs d
def szFs:List Fm->Nat
 |[]=>0
 |f::fs=>szF f+szFs fs
end
theorem Qho(a b:List Fm):szFs (a++b)=szFs a+szFs b:=by
 induction a with
 |nil=>simp[szFs]
 |cons x a ih=>simp[szFs,ih];omega
def phase (m:Ms):Nat:=match m.c with
 |.ev _ _=>0
 |.rt _=>1+szFs m.k
structure After (fu:Int)(m m':Ms)(b:Nat):Prop where
 ge:m.steps<=m'.steps
 le:m.steps<=fu->m'.steps<=fu
 ph:phase m' < 1+b
theorem Q8a{tag:Int}{fs:List Vl}{e:En}{kids:List Tr}{c:Ctl}:∀(i:Nat)(l:List Alt),Q19 tag fs e kids i l=.ok c->∃t e',c=.ev t e'
 |_,[],h=>by cases h
 |i,a::al,h=>by
  unfold Q19 at h
  split at h
  ·split at h
   ·cases h;exact⟨_,_,rfl⟩
   ·cases h
  ·split at h
   ·cases h;exact⟨_,_,rfl⟩
   ·exact Q8a _ al h
theorem Q6l{m m':Ms}{op:Int}{v:Vl}:∀(l k:List Fm),Q30 m op v l k=.ok m'->(∃t e',m'.c=.ev t e')/\m'.steps=m.steps
 |_,[],h=>by cases h
 |l,f::k,h=>by
  unfold Q30 at h
  split at h
  ·cases h;exact⟨⟨_,_,rfl⟩,rfl⟩
  ·exact Q6l _ k h
theorem Qb2{fu:Int}{m m':Ms}{n:Int}{l:List Vl}{v:Vl}(h:primM fu m n l=.ok (m',v)):m.steps<=m'.steps/\(m.steps<=fu->m'.steps<=fu)/\m'.k=m.k:=by
 have bd:∀{α β:Type}{x:Except Int α}{f:α->Except Int β}{r:β},x.bind f=.ok r->∃a,x=.ok a/\f a=.ok r:=by
  intro α β x f r hh
  cases x with
  |error c=>cases hh
  |ok a=>exact⟨a,rfl,hh⟩
 unfold primM at h
 repeat' split at h
 all_goals try (simp only[bind,Except.bind,pure,Except.pure]at h;repeat' split at h)
 all_goals try (cases h;done)
 all_goals try (cases h;exact⟨Int.le_refl _,id,rfl⟩)
 ·unfold Q34 at h
  repeat' split at h
  all_goals try (cases h;done)
  cases h
  refine⟨?_,?_,rfl⟩ <;> simp <;> omega
 ·unfold Q2c at h
  simp only[bind,Except.bind,pure,Except.pure]at h
  repeat' split at h
  all_goals try (cases h;done)
  all_goals (cases h;exact⟨Int.le_refl _,id,rfl⟩)
theorem Q3t{fu:Int}{m m':Ms}{t:Tr}{l:List Vl}{v:Vl}(h:Q0r fu m t l=.ok (m',v)):m.steps<=m'.steps/\(m.steps<=fu->m'.steps<=fu)/\m'.k=m.k:=by
 unfold Q0r at h
 repeat' split at h
 ·cases h;exact⟨Int.le_refl _,id,rfl⟩
 ·exact Qb2 h
 ·cases h;exact⟨Int.le_refl _,id,rfl⟩
 ·simp only[bind,Except.bind,pure,Except.pure]at h
  repeat' split at h
  all_goals try (cases h;done)
  all_goals (cases h;exact⟨Int.le_refl _,id,rfl⟩)
 ·simp only[bind,Except.bind,pure,Except.pure]at h
  repeat' split at h
  all_goals try (cases h;done)
  all_goals (cases h;exact⟨Int.le_refl _,id,rfl⟩)
theorem Q2o{fu:Int}{fns:List Fun}{m m':Ms}{f:Fm}{k:List Fm}(h:kidM fu fns m f k=.ok m')(d0:List Vl)(v:Vl)(hd:f.done=d0++[v]∨(f.done=[]/\d0=[])):After fu m m' (1+szVs d0+szFs k):=by
 unfold kidM at h
 split at h
 ·cases h;exact⟨Int.le_refl _,id,by simp[phase];omega⟩
 split at h
 ·cases h;exact⟨Int.le_refl _,id,by simp[phase];omega⟩
 split at h
 ·unfold Q2b at h
  split at h
  ·cases hc:Q19 _ _ f.e f.t.kids 0 f.t.alts with
   |error c=>rw[hc]at h;cases h
   |ok c=>
    rw[hc]at h
    obtain⟨t,e',rfl⟩:=Q8a _ _ hc
    cases h
    exact⟨Int.le_refl _,id,by simp[phase];omega⟩
  ·cases h
 split at h
 ·unfold callM at h
  split at h
  ·split at h
   ·cases h;exact⟨Int.le_refl _,id,by simp[phase];omega⟩
   ·cases h
  ·split at h
   ·cases h;exact⟨Int.le_refl _,id,by simp[phase];omega⟩
   ·cases h
  ·rename_i fs hf
   split at h
   ·rename_i a ha
    cases h
    refine⟨Int.le_refl _,id,?_⟩
    simp only[phase,Qho]
    rcases hd with hd|⟨hd,_⟩
    ·rw[hd]at hf ha
     have:d0=[.res fs]:=by
      have hl:=congrArg List.length ha
      simp at hl
      match d0,hl with
      |[x],_=>simp at hf;rw[hf]
     subst this
     simp[szVs,szV]
    ·rw[hd]at ha;cases ha
   ·cases h
  ·cases h
 split at h
 ·cases h;exact⟨Int.le_refl _,id,by simp[phase];omega⟩
 split at h
 ·obtain⟨⟨t,e',hc⟩,hs⟩:=Q6l _ _ h
  refine⟨by rw[hs];exact Int.le_refl _,fun hh=>by rw[hs];exact hh,?_⟩
  simp[phase,hc];omega
 split at h
 ·cases h;exact⟨Int.le_refl _,id,by simp[phase];omega⟩
 split at h
 ·cases h;exact⟨Int.le_refl _,id,by simp[phase];omega⟩
 split at h
 ·split at h
  ·split at h
   ·cases h;exact⟨Int.le_refl _,id,by simp[phase];omega⟩
   ·cases h
  ·cases h
 ·cases hp:Q0r fu { m with k:=k } f.t f.done with
  |error c=>rw[hp]at h;cases h
  |ok mv=>
   obtain⟨m2,v2⟩:=mv
   rw[hp]at h
   cases h
   obtain⟨h1,h2,h3⟩:=Q3t hp
   refine⟨h1,h2,?_⟩
   simp only[phase,h3];omega
theorem Q6j{fu:Int}{fns:List Fun}{m m':Ms}(h:Q0c fu fns m=.next m')(hs:m.steps<=fu):m'.steps<=fu/\(m.steps < m'.steps∨(m.steps=m'.steps/\phase m' < phase m)∨(m.steps<=m'.steps/\phase m' < phase m)):=by
 unfold Q0c at h
 split at h
 ·rename_i v hc
  split at h
  ·cases h
  ·rename_i f k hk
   split at h
   ·rename_i m2 hkid
    cases h
    obtain⟨h1,h2,h3⟩:=Q2o hkid f.done v (.inl rfl)
    refine⟨h2 hs,.inr (.inr ⟨h1,?_⟩)⟩
    have:phase m=1+szFs m.k:=by simp[phase,hc]
    rw[this,hk,szFs]
    cases f with
    |mk t e d=>simp only[szF]at *;simp at h3;omega
   ·cases h
 ·rename_i t e hc
  split at h
  ·cases h
  ·rename_i hne
   split at h
   ·rename_i m2 hst
    cases h
    have hlt:m.steps+1<=fu:=by omega
    have key:∀m3:Ms,m3.steps=m.steps+1->m3.steps<=fu/\(m.steps < m3.steps∨(m.steps=m3.steps/\phase m3 < phase m)∨(m.steps<=m3.steps/\phase m3 < phase m)):=fun m3 h3=>⟨by omega,.inl (by omega)⟩
    unfold Q0h at hst
    repeat' split at hst
    all_goals try (cases hst;done)
    all_goals try (cases hst;exact key _ rfl)
    obtain⟨h1,h2,h3⟩:=Q2o hst [] .nil (.inr ⟨rfl,rfl⟩)
    refine⟨h2 hlt,.inl ?_⟩
    have:m.steps+1<=m'.steps:=h1
    omega
   ·cases h
theorem Qgo(fu:Int)(fns:List Fun):∀(N P:Nat)(m:Ms),m.steps<=fu->(fu - m.steps).toNat=N->phase m=P->∃g R,goM fu fns g m=some R:=by
 intro N
 induction N using Nat.strongRecOn with
 |_ N ihN=>
  intro P
  induction P using Nat.strongRecOn with
  |_ P ihP=>
   intro m hs hN hP
   cases hr:Q0c fu fns m with
   |done m2 v=>exact⟨1,_,by simp only[goM,hr];rfl⟩
   |fuel=>exact⟨1,_,by simp only[goM,hr];rfl⟩
   |trap c m2=>exact⟨1,_,by simp only[goM,hr];rfl⟩
   |next m2=>
    obtain⟨h1,h2⟩:=Q6j hr hs
    have:∃g R,goM fu fns g m2=some R:=by
     by_cases hlt:m.steps < m2.steps
     ·exact ihN _ (by omega) (phase m2) m2 h1 rfl rfl
     ·have:phase m2 < phase m:=by omega
      exact ihP _ (by omega) m2 h1 (by omega) rfl
    obtain⟨g,R,hg⟩:=this
    exact⟨g+1,R,by simp[goM,hr,hg]⟩
theorem Q94{fu:Int}{fns:List Fun}:∀{g g':Nat}{m:Ms}{R:Rs},g<=g'->goM fu fns g m=some R->goM fu fns g' m=some R
 |0,_,_,_,_,h=>by cases h
 |g+1,0,_,_,hl,_=>by omega
 |g+1,g'+1,m,R,hl,h=>by
  cases hr:Q0c fu fns m with
  |next m2=>simp only[goM,hr]at h ⊢;exact Q94 (by omega) h
  |done m2 v=>simp only[goM,hr]at h ⊢;exact h
  |fuel=>simp only[goM,hr]at h ⊢;exact h
  |trap c m2=>simp only[goM,hr]at h ⊢;exact h
def EndsM (fu:Int)(fns:List Fun)(m:Ms)(R:Rs):Prop:=∃g,goM fu fns g m=some R
theorem EndsM.det{fu:Int}{fns:List Fun}{m:Ms}{R R':Rs}(h:EndsM fu fns m R)(h':EndsM fu fns m R'):R=R':=by
 obtain⟨g,h⟩:=h
 obtain⟨g',h'⟩:=h'
 have a:=Q94 (Nat.le_max_left g g') h
 have b:=Q94 (Nat.le_max_right g g') h'
 rw[a]at b;exact Option.some.inj b
theorem EndsM.total{fu:Int}{fns:List Fun}{m:Ms}(h:m.steps<=fu):∃R,EndsM fu fns m R:=by
 obtain⟨g,R,hg⟩:=Qgo fu fns _ _ m h rfl rfl
 exact⟨R,g,hg⟩
def initM (t:Tr):Ms:=⟨.ev t .nil,[],[],0,[]⟩
open Classical in
noncomputable def evalT (t:Tr) (fu:Int):Rs:=if h:∃R,EndsM fu [] (initM t) R then h.choose else Q2s
theorem Qip{t:Tr}{fu:Int}{R:Rs}(h:EndsM fu [] (initM t) R):evalT t fu=R:=by
 unfold evalT
 rw[dif_pos ⟨R,h⟩]
 exact EndsM.det (Exists.choose_spec (p:=fun R=>EndsM fu [] (initM t) R) ⟨R,h⟩) h
theorem Q85(t:Tr){fu:Int}(h:0<=fu):EndsM fu [] (initM t) (evalT t fu):=by
 obtain⟨R,hR⟩:=EndsM.total (fu:=fu) (fns:=[]) (m:=initM t) h
 rw[Qip hR];exact hR
noncomputable def evalE (e:List Ex) (fu:Int):Rs:=
 if check e≠0 then { Q2s with err:=check e }else if fu < 1∨1000000 < fu then { Q2s with err:=4 }else evalT (grow e) fu
end Go.CoreX
namespace Go.CoreX
structure GP where
 p:Lab->Prop
 S:Int->Prop
 W:Int->Prop
 fns:List Fun
 R:Prop:=True
 RW:List Int->Prop:=fun _=>True
structure GPok (G:GP):Prop where
 sh:∀l,G.p l->shpQ l
 bnd:∀l,G.p l->∀i∈Q1o l.op l.binds l.alts,G.S i
 wd:∀l,G.p l->l.op=1->G.W l.n
 rc:∀l,G.p l->l.op=5->∀i,i < l.binds.length->l.ops[i]?=some 2
 wr:∀n,G.W (wrapW n)
 wl:∀n:Int,0<=n->n<=1024->G.W n
 wm:∀a b:Int,G.W a->G.W b->G.W (a.tmod b)
 fn:∀f∈G.fns,allT G.p f.body/\∀i∈f.params,G.S i
 cl:∀l,G.p l->l.op=14∨l.op=15->0<=l.n/\l.n < G.fns.length
 rs:∀l,G.p l->l.op=12->G.R
 rw:∀l,G.p l->l.op=9->G.RW l.binds:=by intros;exact True.intro
 ri:∀l,G.p l->l.op=11->∀ls,G.RW ls->bsIs ls l.n=false->G.RW (ls.take (bsAt ls l.n)++l.n::ls.drop (bsAt ls l.n)):=by intros;exact True.intro
def nLf (o:Int):Prop:=¬(o=0∨o=1∨o=2∨o=17∨o=5)
mutual
def gV (G:GP):Vl->Prop
 |.nil=>True
 |.word n=>G.W n
 |.clo t e=>t.op=2/\allT G.p t/\gE G e
 |.obj _ fs=>gVs G fs
 |.row ls fs=>ls.length=fs.length/\G.RW ls/\gVs G fs
 |.arr _=>True
 |.res fs=>G.R/\gFs G fs
 |.cap n sl=>(0<=n/\n < G.fns.length)/\gVs G sl
def gVs (G:GP):List Vl->Prop
 |[]=>True
 |v::l=>gV G v/\gVs G l
def gE (G:GP):En->Prop
 |.nil=>True
 |.bind i v n=>G.S i/\gV G v/\gE G n
 |.recs t n=>t.op=5/\allT G.p t/\gE G n
def gF (G:GP):Fm->Prop
 |.mk t e d=>allT G.p t/\gE G e/\gVs G d/\d.length < opdN t/\nLf t.op
def gFs (G:GP):List Fm->Prop
 |[]=>True
 |f::l=>gF G f/\gFs G l
end
def gC (G:GP):Ctl->Prop
 |.ev t e=>allT G.p t/\gE G e
 |.rt v=>gV G v
structure gM (G:GP)(m:Ms):Prop where
 c:gC G m.c
 k:gFs G m.k
 h:∀r∈m.heap,r.length<=1024/\gVs G r
section
variable {G:GP}(hG:GPok G)
theorem Q1i:∀{l:List Vl},gVs G l↔∀v∈l,gV G v
 |[]=>by simp[gVs]
 |v::l=>by simp[gVs,Q1i (l:=l)]
theorem Q96:∀{l:List Fm},gFs G l↔∀v∈l,gF G v
 |[]=>by simp[gFs]
 |v::l=>by simp[gFs,Q96 (l:=l)]
theorem Qgr{f:Fm}:gF G f↔allT G.p f.t/\gE G f.e/\gVs G f.done/\f.done.length < opdN f.t/\nLf f.t.op:=by cases f;exact Iff.rfl
theorem Q2e{l:List Vl}(h:gVs G l)(i:Nat):gV G (l.getD i .nil):=by
 rw[List.getD_eq_getElem?_getD]
 cases hi:l[i]? with
 |none=>simp[gV]
 |some v=>exact Q1i.1 h v (List.mem_of_getElem? hi)
theorem Q6x{a b:List Vl}(ha:gVs G a)(hb:gVs G b):gVs G (a++b):=Q1i.2 fun v hv=>(List.mem_append.1 hv).elim (Q1i.1 ha v) (Q1i.1 hb v)
theorem Qba{a b:List Fm}(ha:gFs G a)(hb:gFs G b):gFs G (a++b):=Q96.2 fun v hv=>(List.mem_append.1 hv).elim (Q96.1 ha v) (Q96.1 hb v)
theorem Q6y:∀{ids:List Int}{l:List Vl}{e:En},gE G e->gVs G l->(∀i∈ids,G.S i)->gE G (allE e ids l)
 |[],_,_,he,_,_=>he
 |i::ids,l,e,he,hl,hs=>by
  refine Q6y (ids:=ids) ⟨hs i (by simp),?_,he⟩ ?_ fun j hj=>hs j (by simp[hj])
  ·cases l with
   |nil=>simp[gV]
   |cons v l=>exact hl.1
  ·cases l with
   |nil=>simp[gVs]
   |cons v l=>exact hl.2
include hG
theorem g_sh{t:Tr}(h:allT G.p t):ShN t.op t.n t.binds t.kids.length t.alts:=Qez (Qda hG.sh t h)
theorem g_bnd{t:Tr}(h:allT G.p t):∀i∈Q1o t.op t.binds t.alts,G.S i:=hG.bnd _ (Q0w h)
theorem Qgq{t:Tr}(h:allT G.p t){i:Nat}{a:Alt}(ha:t.alts[i]?=some a):∀j∈a.binds,G.S j:=fun j hj=>g_bnd hG h j (by
 unfold Q1o
 exact List.mem_append.2 (.inr (List.mem_flatMap.2 ⟨a,List.mem_of_getElem? ha,hj⟩)))
omit hG in
theorem Qa2{l:List Int}{id:Int}:∀{n i:Nat},Q6q l id n=some i->i < n/\l.getD i 0=id
 |0,_,h=>by cases h
 |n+1,i,h=>by
  unfold Q6q at h
  split at h
  ·rename_i he;cases h;exact⟨by omega,he⟩
  ·have:=Qa2 h;exact⟨by omega,this.2⟩
theorem Qin{t:Tr}(h:allT G.p t)(h5:t.op=5){i:Nat}(hi:i < t.binds.length):(t.kids.getD i default).op=2/\allT G.p (t.kids.getD i default)/\i < t.kids.length:=by
 have h1:=hG.rc _ (Q0w h) h5 i hi
 simp only at h1
 rw[List.getElem?_map]at h1
 cases hk:t.kids[i]? with
 |none=>rw[hk]at h1;cases h1
 |some s=>
  rw[hk]at h1
  have hl:=(List.getElem?_eq_some_iff.1 hk).1
  refine⟨?_,Q2n h hl,hl⟩
  rw[List.getD_eq_getElem?_getD,hk]
  simpa using h1
theorem Qbb{id:Int}:∀{e:En},gE G e->gV G (findE id e)
 |.nil,_=>by simp[findE,gV]
 |.bind i v n,h=>by
  unfold findE
  split
  ·exact h.2.1
  ·exact Qbb h.2.2
 |.recs t n,h=>by
  unfold findE
  split
  ·rename_i i hi
   have h1:=(Qa2 hi).1
   have h2:=Qin hG h.2.1 h.1 h1
   exact⟨h2.1,h2.2.1,h.1,h.2.1,h.2.2⟩
  ·exact Qbb h.2.2
theorem Qah{t:Tr}{e:En}{tag:Int}{fs:List Vl}{c:Ctl}(ht:allT G.p t)(h7:t.op=7)(he:gE G e)(hf:gVs G fs):∀(l:List Alt)(i:Nat),t.alts.drop i=l->Q19 tag fs e t.kids i l=.ok c->gC G c
 |[],_,_,h=>by cases h
 |a::al,i,hd,h=>by
  have ha:t.alts[i]?=some a:=by
   have:=congrArg (·[0]?) hd
   simpa using this
  have hl:=(List.getElem?_eq_some_iff.1 ha).1
  have hsh:=g_sh hG ht
  rw[h7]at hsh
  have hk:1+i < t.kids.length:=by rw[hsh.case.1];omega
  unfold Q19 at h
  split at h
  ·split at h
   ·cases h;exact⟨Q2n ht hk,Q6y he hf (Qgq hG ht ha)⟩
   ·cases h
  ·split at h
   ·cases h;exact⟨Q2n ht hk,he⟩
   ·exact Qah ht h7 he hf al (i+1) (by rw[←List.drop_drop,hd];rfl) h
omit hG in
theorem Q59{op:Int}:∀{l:List Alt}{i j:Nat},Q6c op i l=some j->0 < j/\i<=j/\∃a,l[j - i]?=some a/\a.tag=op
 |[],_,_,h=>by cases h
 |a::al,i,j,h=>by
  unfold Q6c at h
  split at h
  ·rename_i hc;cases h;exact⟨hc.2,by omega,a,by simp,hc.1⟩
  ·obtain⟨h1,h2,b,h3,h4⟩:=Q59 h
   refine⟨h1,by omega,b,?_,h4⟩
   rw[show j - i=(j - (i+1))+1 by omega];simpa using h3
theorem Q7n{op:Int}{v:Vl}{m m':Ms}(hR:G.R)(hv:gV G v)(hh:∀r∈m.heap,r.length<=1024/\gVs G r):∀{k l:List Fm},gFs G l->gFs G k->Q30 m op v l k=.ok m'->gM G m'
 | [], _, _, _, h => by cases h
 |f::k,l,hl,hk,h=>by
  unfold Q30 at h
  split at h
  ·rename_i i hi
   split at hi
   ·rename_i h13
    obtain⟨h1,h2,a,h3,h4⟩:=Q59 hi
    cases h
    cases f with
    |mk t e d=>
     obtain⟨g1,g2,g3,g4⟩:=hk.1
     simp only[Fm.t_mk,Fm.e_mk]at *
     have hsh:=g_sh hG g1
     rw[h13]at hsh
     have h3:t.alts[i]?=some a:=by simpa using h3
     have hil:=(List.getElem?_eq_some_iff.1 h3).1
     have hb:=(hsh.handle.2.2.2 i a h3).2
     rw[if_neg (by omega)]at hb
     have hS:=Qgq hG g1 h3
     have hga:t.alts.getD i ⟨0,[]⟩=a:=by rw[List.getD_eq_getElem?_getD,h3];rfl
     match hab:a.binds,hb with
     |[x,y],_=>
      refine⟨⟨Q2n g1 (by rw[hsh.handle.1];omega),?_,?_,?_,hv,g2⟩,hk.2,hh⟩
      ·rw[hga,hab];exact hS _ (by rw[hab];simp)
      ·exact⟨hR,Qba (b:=[_]) hl ⟨⟨g1,g2,g3,g4⟩,trivial⟩⟩
      ·rw[hga,hab];exact hS _ (by rw[hab];simp)
   ·cases hi
  ·exact Q7n hR hv hh (Qba (b:=[f]) hl ⟨hk.1,trivial⟩) hk.2 h
theorem primM_g{fu:Int}{m m':Ms}{n:Int}{l:List Vl}{v:Vl}(hl:gVs G l)(hh:∀r∈m.heap,r.length<=1024/\gVs G r)(h:primM fu m n l=.ok (m',v)):gV G v/\∀r∈m'.heap,r.length<=1024/\gVs G r:=by
 have hw:∀{i:Nat}{a:Int},wordV (l.getD i .nil)=.ok a->G.W a:=by
  intro i a ha
  have:=Q2e hl i
  cases hv:l.getD i Vl.nil <;> rw[hv]at ha this <;> first|(cases ha;done)|(cases ha;exact this)
 unfold primM at h
 repeat' split at h
 all_goals try (simp only[bind,Except.bind,pure,Except.pure]at h;repeat' split at h)
 all_goals try (cases h;done)
 all_goals try (cases h;refine⟨?_,hh⟩;first|exact hG.wr _|(simp only[condV,gV,gVs];done))
 ·rename_i a ha _ b hb _
  cases h;exact⟨hG.wm _ _ (hw ha) (hw hb),hh⟩
 ·unfold Q34 at h
  repeat' split at h
  all_goals try (cases h;done)
  cases h
  refine⟨trivial,fun r hr=>?_⟩
  rcases List.mem_append.1 hr with hr|hr
  ·exact hh r hr
  ·simp at hr
   subst hr
   refine⟨by simp;omega,Q1i.2 fun v hv=>?_⟩
   rw[(List.mem_replicate.1 hv).2]
   exact Q2e hl 1
 ·unfold Q2c at h
  simp only[bind,Except.bind,pure,Except.pure]at h
  have hit:∀{a:Nat}{its:List Vl},Qcw m.heap (l.getD 0 .nil)=.ok (a,its)->its.length<=1024/\gVs G its:=by
   intro a its ha
   cases hv:l.getD 0 Vl.nil <;> rw[hv]at ha <;> try (cases ha;done)
   cases ha
   rw[List.getD_eq_getElem?_getD]
   cases hr:m.heap[a]? with
   |none=>simp[gVs]
   |some r=>exact hh r (List.mem_of_getElem? hr)
  cases hp:Qcw m.heap (l.getD 0 .nil) with
  |error c=>rw[hp]at h;cases h
  |ok p=>
   obtain⟨a,its⟩:=p
   rw[hp]at h
   simp only at h
   by_cases h9:n=9
   ·rw[if_pos h9]at h
    cases h
    exact⟨hG.wl _ (by omega) (by have:=(hit hp).1;omega),hh⟩
   rw[if_neg h9]at h
   cases hw1:wordV (l.getD 1 .nil) with
   |error c=>rw[hw1]at h;cases h
   |ok i=>
    rw[hw1]at h
    simp only at h
    split at h
    ·cases h
    split at h
    ·cases h
     exact⟨Q2e (hit hp).2 _,hh⟩
    ·cases h
     refine⟨by simp only[gV,gVs],fun r hr=>?_⟩
     rcases List.mem_or_eq_of_mem_set hr with hr|hr
     ·exact hh r hr
     ·subst hr
      refine⟨by simpa using (hit hp).1,Q1i.2 fun v hv=>?_⟩
      rcases List.mem_or_eq_of_mem_set hv with hv|hv
      ·exact Q1i.1 (hit hp).2 v hv
      ·rw[hv];exact Q2e hl 2
theorem Qi5{fu:Int}{m m':Ms}{t:Tr}{l:List Vl}{v:Vl}(ht:allT G.p t)(h11:t.op=6∨t.op=8∨t.op=9∨t.op=10∨t.op=11)(hlen:l.length=t.kids.length)(hl:gVs G l)(hh:∀r∈m.heap,r.length<=1024/\gVs G r)(h:Q0r fu m t l=.ok (m',v)):gV G v/\∀r∈m'.heap,r.length<=1024/\gVs G r:=by
 have hr:∀{ls:List Int}{fs:List Vl},rowsV (l.getD 0 .nil)=.ok (ls,fs)->ls.length=fs.length/\G.RW ls/\gVs G fs:=by
  intro ls fs ha
  have:=Q2e hl 0
  cases hv:l.getD 0 Vl.nil <;> rw[hv]at ha this <;> first|(cases ha;done)|(cases ha;exact this)
 unfold Q0r at h
 split at h
 ·cases h;exact⟨hl,hh⟩
 split at h
 ·exact primM_g hG hl hh h
 split at h
 ·rename_i h9
  cases h
  have:=g_sh hG ht
  rw[h9]at this
  exact⟨⟨by rw[hlen];exact this.row.1.symm,hG.rw _ (Q0w ht) h9,hl⟩,hh⟩
 split at h
 ·simp only[bind,Except.bind,pure,Except.pure]at h
  repeat' split at h
  all_goals try (cases h;done)
  rename_i _ p hp _
  obtain⟨ls,fs⟩:=p
  cases h
  exact⟨Q2e (hr hp).2.2 _,hh⟩
 ·rename_i n6 n8 n9 n10
  have h11':t.op=11:=by omega
  simp only[bind,Except.bind,pure,Except.pure]at h
  repeat' split at h
  all_goals try (cases h;done)
  rename_i _ p hp
  obtain⟨ls,fs⟩:=p
  cases h
  refine⟨?_,hh⟩
  have hv:=Q2e hl 1
  obtain⟨h1,hrw,h2⟩:=hr hp
  unfold withR
  split
  ·refine⟨by simpa using h1,hrw,Q1i.2 fun v hv'=>?_⟩
   rcases List.mem_or_eq_of_mem_set hv' with h3|h3
   ·exact Q1i.1 h2 v h3
   ·rw[h3];exact hv
  ·rename_i hbs
   refine⟨by simp[h1],hG.ri _ (Q0w ht) h11' _ hrw (by simpa using hbs),Q6x (Q1i.2 fun v hv'=>Q1i.1 h2 v (List.mem_of_mem_take hv')) ⟨hv,Q1i.2 fun v hv'=>Q1i.1 h2 v (List.mem_of_mem_drop hv')⟩⟩
theorem g_fn(n:Int)(h:0<=n/\n < G.fns.length):allT G.p (G.fns.getD n.toNat ⟨[],default⟩).body/\∀i∈(G.fns.getD n.toNat ⟨[],default⟩).params,G.S i:=by
 have hl:n.toNat < G.fns.length:=by omega
 rw[List.getD_eq_getElem?_getD,List.getElem?_eq_getElem hl]
 exact hG.fn _ (List.getElem_mem hl)
theorem g_opN{t:Tr}(ht:allT G.p t):opdN t<=t.kids.length:=by
 have hsh:=g_sh hG ht
 unfold opdN
 split
 ·rename_i h
  rcases h with h|h|h|h <;> rw[h]at hsh
  ·rw[hsh.lett.1];omega
  ·rw[hsh.case.1];omega
  ·rw[hsh.handle.1];omega
  ·rw[(hsh.one (.inr (.inl rfl))).1];omega
 ·omega
omit hG in
theorem Qex{o n:Int}{b:List Int}{k:Nat}{a:List Alt}(h:ShN o n b k a):0<=o/\o<=17:=by
 by_cases h7:o=7∨o=13
 ·omega
 ·obtain⟨w,⟨ops,hl,hw⟩,_⟩:=h.want h7
  refine Classical.byContradiction fun hc=>?_
  have h0:wants ⟨o,n,b,ops,a⟩=none:=by
   unfold wants
   simp only
   rw[if_neg (by omega),if_neg (by omega),if_neg (by omega),if_neg (by omega),if_neg (by omega),if_neg (by omega),if_neg (by omega),if_neg (by omega),if_neg (by omega),if_neg (by omega),if_neg (by omega),if_neg (by omega)]
  rw[h0]at hw
  cases hw
theorem kidM_g{fu:Int}{m m':Ms}{f:Fm}{k:List Fm}(ht:allT G.p f.t)(he:gE G f.e)(hd:gVs G f.done)(hl:f.done.length<=opdN f.t)(hn:nLf f.t.op)(hk:gFs G k)(hh:∀r∈m.heap,r.length<=1024/\gVs G r)(h:kidM fu G.fns m f k=.ok m'):gM G m':=by
 have hsh:=g_sh hG ht
 have hop:=g_opN hG ht
 have hv:=Q2e hd 0
 unfold kidM at h
 split at h
 ·rename_i hlt
  cases h
  refine⟨⟨Q2n ht (by omega),he⟩,⟨?_,hk⟩,hh⟩
  cases f;exact⟨ht,he,hd,hlt,hn⟩
 rename_i hge
 split at h
 ·rename_i h4
  cases h
  rw[h4]at hsh
  obtain⟨h1,h2,h3⟩:=hsh.lett
  refine⟨⟨Q2n ht (by omega),?_,hv,he⟩,hk,hh⟩
  have:=g_bnd hG ht
  unfold Q1o at this
  rw[if_pos (by omega)]at this
  match hb:f.t.binds,h2 with
  |[x],_=>rw[hb]at this;exact this x (by simp)
 split at h
 ·rename_i h7
  unfold Q2b at h
  split at h
  ·rename_i tag fs hobj
   cases hc:Q19 tag fs f.e f.t.kids 0 f.t.alts with
   |error c=>rw[hc]at h;cases h
   |ok c=>
    rw[hc]at h
    cases h
    rw[hobj]at hv
    exact⟨Qah hG ht h7 he hv _ 0 rfl hc,hk,hh⟩
  ·cases h
 split at h
 ·rename_i h3
  have hd1:gVs G (f.done.drop 1):=Q1i.2 fun v hv'=>Q1i.1 hd v (List.mem_of_mem_drop hv')
  unfold callM at h
  split at h
  ·rename_i t e hclo
   rw[hclo]at hv
   split at h
   ·cases h
    have h1:=g_sh hG hv.2.1
    have h2:=g_bnd hG hv.2.1
    rw[hv.1]at h1
    unfold Q1o at h2
    rw[hv.1,if_pos (by simp)]at h2
    refine⟨⟨Q2n hv.2.1 (by have:=h1.lam.1;omega),Q6y hv.2.2 hd1 fun i hi=>h2 i (List.mem_append.2 (.inl hi))⟩,hk,hh⟩
   ·cases h
  ·rename_i n slots hcap
   rw[hcap]at hv
   split at h
   ·cases h
    have:=g_fn hG n hv.1
    exact⟨⟨this.1,Q6y trivial ⟨hv,hd1⟩ this.2⟩,hk,hh⟩
   ·cases h
  ·rename_i fs hres
   rw[hres]at hv
   split at h
   ·rename_i a ha
    cases h
    rw[ha]at hd1
    exact⟨hd1.1,Qba hv.2 hk,hh⟩
   ·cases h
  ·cases h
 split at h
 ·rename_i h13
  cases h
  rw[h13]at hsh
  obtain⟨h1,h2,h3,h4⟩:=hsh.handle
  refine⟨⟨Q2n ht (by omega),?_,hv,he⟩,hk,hh⟩
  obtain⟨a,ha⟩:∃a,f.t.alts[0]?=some a:=⟨_,List.getElem?_eq_getElem (by omega)⟩
  have hb:=(h4 0 a ha).2
  rw[if_pos rfl]at hb
  have hS:=Qgq hG ht ha
  have hga:f.t.alts.getD 0 ⟨0,[]⟩=a:=by rw[List.getD_eq_getElem?_getD,ha];rfl
  rw[hga]
  match hab:a.binds,hb with
  |[x],_=>rw[hab]at hS;exact hS x (by simp)
 split at h
 ·rename_i h12
  exact Q7n hG (hG.rs _ (Q0w ht) h12) (l:=[]) hv hh trivial hk h
 split at h
 ·rename_i h14
  cases h
  have:=g_fn hG f.t.n (hG.cl _ (Q0w ht) (.inl h14))
  exact⟨⟨this.1,Q6y trivial hd this.2⟩,hk,hh⟩
 split at h
 ·rename_i h15
  cases h
  exact⟨⟨hG.cl _ (Q0w ht) (.inr h15),hd⟩,hk,hh⟩
 split at h
 ·split at h
  ·rename_i n slots hcap
   rw[hcap]at hv
   split at h
   ·cases h;exact⟨Q2e hv.2 _,hk,hh⟩
   ·cases h
  ·cases h
 ·rename_i h4 h7 h3 h13 h12 h14 h15 h16
  cases hp:Q0r fu { m with k:=k } f.t f.done with
  |error c=>rw[hp]at h;cases h
  |ok mv=>
   obtain⟨m2,v2⟩:=mv
   rw[hp]at h
   cases h
   have hlen:f.done.length=f.t.kids.length:=by
    unfold opdN at hge hl
    rw[if_neg (by omega)]at hge hl
    omega
   obtain⟨g1,g2⟩:=Qi5 hG (m:={ m with k:=k }) ht (by have:=Qex hsh;unfold nLf at hn;omega) hlen hd hh hp
   refine⟨g1,?_,g2⟩
   rw[(Q3t hp).2.2];exact hk
theorem Qhq{fu:Int}{m m':Ms}{t:Tr}{e:En}(ht:allT G.p t)(he:gE G e)(hk:gFs G m.k)(hh:∀r∈m.heap,r.length<=1024/\gVs G r)(h:Q0h fu G.fns m t e=.ok m'):gM G m':=by
 unfold Q0h at h
 split at h
 ·cases h;exact⟨Qbb hG he,hk,hh⟩
 split at h
 ·rename_i h1
  cases h;exact⟨hG.wd _ (Q0w ht) h1,hk,hh⟩
 split at h
 ·rename_i h2
  cases h;exact⟨⟨h2,ht,he⟩,hk,hh⟩
 split at h
 ·cases h
 split at h
 ·rename_i h5
  cases h
  have hsh:=g_sh hG ht
  rw[h5]at hsh
  exact⟨⟨Q2n ht (by have:=hsh.recs.1;omega),h5,ht,he⟩,hk,hh⟩
 ·rename_i h0 h1 h2 h17 h5
  exact kidM_g hG (f:=.mk t e []) ht he trivial (Nat.zero_le _) (fun hh=>hh.elim h0 fun hh=>hh.elim h1 fun hh=>hh.elim h2 fun hh=>hh.elim h17 h5) hk hh h
theorem Q47{fu:Int}{m m':Ms}(hm:gM G m)(h:Q0c fu G.fns m=.next m'):gM G m':=by
 unfold Q0c at h
 split at h
 ·rename_i v hc
  have hv:gV G v:=by have:=hm.c;rw[hc]at this;exact this
  split at h
  ·cases h
  ·rename_i f k hk
   have hf:=hm.k
   rw[hk]at hf
   split at h
   ·rename_i m2 hkid
    cases h
    obtain⟨g1,g2,g3,g4,g5⟩:=Qgr.1 hf.1
    exact kidM_g hG (f:=.mk f.t f.e (f.done++[v])) g1 g2 (Q6x (b:=[v]) g3 ⟨hv,trivial⟩) (by simp only[Fm.done_mk,Fm.t_mk,List.length_append,List.length_singleton];omega) g5 hf.2 hm.h hkid
   ·cases h
 ·rename_i t e hc
  have ht:allT G.p t/\gE G e:=by have:=hm.c;rw[hc]at this;exact this
  split at h
  ·cases h
  ·split at h
   ·rename_i m2 hst
    cases h
    exact Qhq hG (m:={ m with steps:=m.steps+1 }) ht.1 ht.2 hm.k hm.h hst
   ·cases h
end
end Go.CoreX
namespace Go.CoreX
structure Sim where
 ν:Int->Int
 eb:En
 kb:List Fm
 ob:List Int
 hb:List (List Vl)
 st:Int
section
variable {s:Sim}{G:GP}
section
variable (ν:Int->Int)(t:Tr)
end
end
end Go.CoreX
namespace Go.CoreX
section
variable {s:Sim}{G:GP}
def goX (fu:Int)(fns:List Fun):Nat->Ms->Option Rd
 |0,_=>none
 |g+1,m=>match Q0c fu fns m with
  |.next m'=>goX fu fns g m'
  |r=>some r
def rsOf:Rd->Rs
 |.done m v=>⟨m.out,0,lastV v,m.steps,0⟩
 |.trap c m=>if c < 0 then Q2s else ⟨m.out,c,0,m.steps,0⟩
 |_=>Q2s
theorem Qgn(fu:Int)(fns:List Fun):∀(g:Nat)(m:Ms),goM fu fns g m=(goX fu fns g m).map rsOf
 |0,_=>rfl
 |g+1,m=>by
  simp only[goM,goX]
  cases Q0c fu fns m with
  |next m'=>exact Qgn fu fns g m'
  |done m' v=>rfl
  |fuel=>rfl
  |trap c m'=>rfl
def outR:Rd->Nat
 |.done m _=>m.out.length
 |.trap _ m=>m.out.length
 |.next m=>m.out.length
 |.fuel=>1001
theorem Qi1{fu:Int}{m m':Ms}{n:Int}{l:List Vl}{v:Vl}(h:primM fu m n l=.ok (m',v)):m.out.length<=m'.out.length:=by
 unfold primM at h
 repeat' split at h
 all_goals try (simp only[bind,Except.bind,pure,Except.pure]at h;repeat' split at h)
 all_goals try (cases h;done)
 all_goals try (cases h;exact Nat.le_refl _)
 ·cases h;simp
 ·unfold Q34 at h
  repeat' split at h
  all_goals try (cases h;done)
  cases h;exact Nat.le_refl _
 ·unfold Q2c at h
  simp only[bind,Except.bind,pure,Except.pure]at h
  repeat' split at h
  all_goals try (cases h;done)
  all_goals (cases h;exact Nat.le_refl _)
theorem Qfn{fu:Int}{m m':Ms}{t:Tr}{l:List Vl}{v:Vl}(h:Q0r fu m t l=.ok (m',v)):m.out.length<=m'.out.length:=by
 unfold Q0r at h
 repeat' split at h
 ·cases h;exact Nat.le_refl _
 ·exact Qi1 h
 ·cases h;exact Nat.le_refl _
 ·simp only[bind,Except.bind,pure,Except.pure]at h
  repeat' split at h
  all_goals try (cases h;done)
  all_goals (cases h;exact Nat.le_refl _)
 ·simp only[bind,Except.bind,pure,Except.pure]at h
  repeat' split at h
  all_goals try (cases h;done)
  all_goals (cases h;exact Nat.le_refl _)
theorem Q4j{m m':Ms}{op:Int}{v:Vl}:∀(l k:List Fm),Q30 m op v l k=.ok m'->m'.out=m.out
 |_,[],h=>by cases h
 |l,f::k,h=>by
  unfold Q30 at h
  split at h
  ·cases h;rfl
  ·exact Q4j _ k h
theorem Qg1{fu:Int}{fns:List Fun}{m m':Ms}{f:Fm}{k:List Fm}(h:kidM fu fns m f k=.ok m'):m.out.length<=m'.out.length:=by
 unfold kidM at h
 repeat' split at h
 all_goals try (cases h;done)
 all_goals try (cases h;exact Nat.le_refl _)
 ·unfold Q2b at h
  split at h
  ·cases hc:Q19 _ _ f.e f.t.kids 0 f.t.alts <;> rw[hc]at h <;> cases h
   exact Nat.le_refl _
  ·cases h
 ·unfold callM at h
  repeat' split at h
  all_goals try (cases h;done)
  all_goals (cases h;exact Nat.le_refl _)
 ·rw[Q4j _ _ h];exact Nat.le_refl _
 ·cases hp:Q0r fu { m with k:=k } f.t f.done with
  |error c=>rw[hp]at h;cases h
  |ok mv=>
   rw[hp]at h;cases h
   obtain⟨m2,v2⟩:=mv
   exact Qfn (m:={ m with k:=k }) (m':=m2) hp
theorem Qeu{fu:Int}{fns:List Fun}{m m':Ms}{t:Tr}{e:En}(h:Q0h fu fns m t e=.ok m'):m.out.length<=m'.out.length:=by
 unfold Q0h at h
 repeat' split at h
 all_goals try (cases h;done)
 all_goals try (cases h;exact Nat.le_refl _)
 exact Qg1 h
theorem Qf8{fu:Int}{fns:List Fun}{m m':Ms}(h:Q0c fu fns m=.next m'):m.out.length<=m'.out.length:=by
 unfold Q0c at h
 repeat' split at h
 all_goals try (cases h;done)
 ·rename_i hk;cases h;exact Qg1 hk
 ·rename_i hk;cases h;exact Qeu (m:={ m with steps:=m.steps+1 }) hk
theorem Qgm{fu:Int}{fns:List Fun}:∀{g:Nat}{m:Ms}{r:Rd},goX fu fns g m=some r->m.out.length<=outR r∨r=.fuel
 |0,_,_,h=>by cases h
 |g+1,m,r,h=>by
  simp only[goX]at h
  cases hr:Q0c fu fns m with
  |next m'=>
   rw[hr]at h
   rcases Qgm h with h1|h1
   ·exact .inl (Nat.le_trans (Qf8 hr) h1)
   ·exact .inr h1
  |done m' v=>
   rw[hr]at h;cases h
   unfold Q0c at hr
   repeat' split at hr
   all_goals try (cases hr;done)
   cases hr;exact .inl (Nat.le_refl _)
  |fuel=>rw[hr]at h;cases h;exact .inr rfl
  |trap c m'=>
   rw[hr]at h;cases h
   unfold Q0c at hr
   repeat' split at hr
   all_goals try (cases hr;done)
   all_goals (cases hr;exact .inl (Nat.le_refl _))
def rdOf (m:Ms):Except Int Ms->Rd
 |.ok m'=>.next m'
 |.error c=>.trap c m
theorem Q4x{fu:Int}{fns:List Fun}{m:Ms}{t:Tr}{e:En}(hc:m.c=.ev t e)(h:¬m.steps=fu):Q0c fu fns m=rdOf { m with steps:=m.steps+1 } (Q0h fu fns { m with steps:=m.steps+1 } t e):=by
 unfold Q0c
 split
 ·rename_i hv;rw[hc]at hv;cases hv
 ·rename_i hv;rw[hc]at hv;cases hv;rw[if_neg h];rfl
theorem Q4w{fu:Int}{fns:List Fun}{m:Ms}{v:Vl}{f:Fm}{k:List Fm}(hc:m.c=.rt v)(hk:m.k=f::k):Q0c fu fns m=rdOf m (kidM fu fns m (.mk f.t f.e (f.done++[v])) k):=by
 simp only[Q0c,hc,hk];rfl
end
end Go.CoreX
namespace Go.CoreX
theorem Q8m{fu:Int}{fns:List Fun}{m m':Ms}{t:Tr}{e:En}(h:Q0h fu fns m t e=.ok m'):m.steps<=m'.steps:=by
 unfold Q0h at h
 repeat' split at h
 all_goals try (cases h;done)
 all_goals try (cases h;exact Int.le_refl _)
 exact (Q2o h [] .nil (.inr ⟨rfl,rfl⟩)).ge
def stepsR:Rd->Int
 |.done m _=>m.steps
 |.trap _ m=>m.steps
 |.next m=>m.steps
 |.fuel=>0
theorem Qhw{fu:Int}{fns:List Fun}{m m':Ms}(h:Q0c fu fns m=.next m'):m.steps<=m'.steps:=by
 unfold Q0c at h
 repeat' split at h
 all_goals try (cases h;done)
 ·rename_i f k hk _ _ hkid;cases h;exact (Q2o hkid f.done _ (.inl rfl)).ge
 ·rename_i hst;cases h
  have:=Q8m hst
  simp only at this;omega
theorem Q6i{fu:Int}{fns:List Fun}{m:Ms}{r:Rd}(h:Q0c fu fns m=r):(∀c m',r=.trap c m'->m.steps<=m'.steps)/\(∀m' v,r=.done m' v->m'=m/\m.c=.rt v/\m.k=[]):=by
 subst h
 constructor
 ·intro c m' h
  unfold Q0c at h
  repeat' split at h
  all_goals try (cases h;done)
  ·cases h;exact Int.le_refl _
  ·cases h;simp only;omega
 ·intro m' v h
  unfold Q0c at h
  repeat' split at h
  all_goals try (cases h;done)
  rename_i hc _ hk
  cases h;exact⟨rfl,hc,hk⟩
theorem goX_ge{fu:Int}{fns:List Fun}:∀{g:Nat}{m:Ms}{r:Rd},goX fu fns g m=some r->r≠.fuel->m.steps<=stepsR r
 |0,_,_,h,_=>by cases h
 |g+1,m,r,h,hf=>by
  simp only[goX]at h
  cases hr:Q0c fu fns m with
  |next m'=>rw[hr]at h;exact Int.le_trans (Qhw hr) (goX_ge h hf)
  |done m' v=>rw[hr]at h;cases h;rw[((Q6i hr).2 _ _ rfl).1];exact Int.le_refl _
  |fuel=>rw[hr]at h;cases h;exact absurd rfl hf
  |trap c m'=>rw[hr]at h;cases h;exact (Q6i hr).1 _ _ rfl
end Go.CoreX
namespace Go.Proofs.YtkgjldchcbfpnaaGreatDoor
open Go Go.Abs Go.CoreX
set_option linter.unusedSectionVars false
abbrev tClo:Nat:=198
abbrev tObj:Nat:=160
abbrev tRow:Nat:=248
abbrev tArr:Nat:=300
abbrev tRes:Nat:=239
abbrev tCap:Nat:=192
abbrev tTrap:Nat:=109
abbrev nilPE:AC:=.lit (.pointer none)
abbrev Hm:=Nat->Option (List AC)
abbrev Nm2:=List (Nat×Nat)
def iW (n:Int):AC:=.ifc 3 false [int n]
def iB (t:Nat)(cs:List AC):AC:=.ifc t false [.box cs]
inductive RecC (H:Hm)(t:Tr)(top:AC):Nat->AC->AC->Prop
 |zero (c:AC):RecC H t top 0 c c
 |succ (i k q:Nat) (c b:AC) (hk:H k=some [int (t.binds.getD i 0),.ifc tClo false [.ptr (.o q) 0],c]) (hq:H q=some [.box (cTr (t.kids.getD i default)),top]) (h:RecC H t top i c b):RecC H t top (i+1) (.ptr (.o k) 0) b
mutual
inductive VR (H:Hm)(nm:Nm2):Vl->AC->Prop
 |nil:VR H nm .nil (.lit .nilIface)
 |word (n:Int):VR H nm (.word n) (iW n)
 |clo (t:Tr) (e:En) (c:AC) (he:ER H nm e c):VR H nm (.clo t e) (iB tClo [.box (cTr t),c])
 |cloP (t:Tr) (e:En) (c:AC) (k:Nat) (hk:H k=some [.box (cTr t),c]) (he:ER H nm e c):VR H nm (.clo t e) (.ifc tClo false [.ptr (.o k) 0])
 |obj (g:Int) (fs:List Vl) (cs:List (List AC)) (h:VsR H nm fs cs):VR H nm (.obj g fs) (iB tObj [int g,.sl 1 cs])
 |row (ls:List Int) (fs:List Vl) (cs:List (List AC)) (h:VsR H nm fs cs):VR H nm (.row ls fs) (iB tRow [.sl 1 (ls.map cI),.sl 1 cs])
 |arr (a k n:Nat) (h:nm[a]?=some (k,n)):VR H nm (.arr a) (iB tArr [.arr (.o k) 1 0 n n])
 |res (fs:List Fm) (l:List (List AC)) (h:FsR H nm fs l):VR H nm (.res fs) (iB tRes [.sl 1 l])
 |cap (n:Int) (fs:List Vl) (cs:List (List AC)) (h:VsR H nm fs cs):VR H nm (.cap n fs) (iB tCap [int n,.sl 1 cs])
inductive VsR (H:Hm)(nm:Nm2):List Vl->List (List AC)->Prop
 |nil:VsR H nm [] []
 |cons (v:Vl) (c:AC) (vs:List Vl) (cs:List (List AC)) (hv:VR H nm v c) (h:VsR H nm vs cs):VsR H nm (v::vs) ([c]::cs)
inductive ER (H:Hm)(nm:Nm2):En->AC->Prop
 |nil:ER H nm .nil nilPE
 |bind (i:Int) (v:Vl) (n:En) (k:Nat) (vc nc:AC) (hk:H k=some [int i,vc,nc]) (hv:VR H nm v vc) (hn:ER H nm n nc):ER H nm (.bind i v n) (.ptr (.o k) 0)
 |recs (t:Tr) (n:En) (c nc:AC) (hc:RecC H t c t.binds.length c nc) (hn:ER H nm n nc):ER H nm (.recs t n) c
inductive FR (H:Hm)(nm:Nm2):Fm->AC->Prop
 |mk (t:Tr) (e:En) (d:List Vl) (ec:AC) (dc:List (List AC)) (nx:AC) (hx:nx.ids isO) (he:ER H nm e ec) (hd:VsR H nm d dc):FR H nm (.mk t e d) (.box [.box (cTr t),ec,.sl 1 dc,nx])
inductive FsR (H:Hm)(nm:Nm2):List Fm->List (List AC)->Prop
 |nil:FsR H nm [] []
 |cons (f:Fm) (c:AC) (fs:List Fm) (cs:List (List AC)) (hf:FR H nm f c) (h:FsR H nm fs cs):FsR H nm (f::fs) ([c]::cs)
end
inductive KR (H:Hm)(nm:Nm2):List Fm->AC->Prop
 |nil:KR H nm [] nilPE
 |cons (t:Tr) (e:En) (d:List Vl) (k:List Fm) (ec:AC) (dc:List (List AC)) (kc:AC) (he:ER H nm e ec) (hd:VsR H nm d dc) (hk:KR H nm k kc):KR H nm (.mk t e d::k) (.box [.box (cTr t),ec,.sl 1 dc,kc])
structure Mo (H:Hm)(nm:Nm2)(H':Hm)(nm':Nm2):Prop where
 h:∀k cs,H k=some cs->H' k=some cs
 n:∀(a:Nat) (x:Nat×Nat),nm[a]?=some x->nm'[a]?=some x
theorem Mo.refl(H:Hm)(nm:Nm2):Mo H nm H nm:=⟨fun _ _ h=>h,fun _ _ h=>h⟩
theorem Mo.trans{H H1 H2:Hm}{n n1 n2:Nm2}(a:Mo H n H1 n1)(b:Mo H1 n1 H2 n2):Mo H n H2 n2:=⟨fun k cs h=>b.h k cs (a.h k cs h),fun k x h=>b.n k x (a.n k x h)⟩
section
variable {H H':Hm}{nm nm':Nm2}(hm:Mo H nm H' nm')
include hm
theorem RecC.mo{t:Tr}{top:AC}:∀{i:Nat}{c b:AC},RecC H t top i c b->RecC H' t top i c b
 |_,_,_,.zero c=>.zero c
 |_,_,_,.succ i k q c b hk hq h=>.succ i k q c b (hm.h _ _ hk) (hm.h _ _ hq) (RecC.mo h)
mutual
theorem VR.mo:∀{v:Vl}{c:AC},VR H nm v c->VR H' nm' v c
 |_,_,.nil=>.nil
 |_,_,.word n=>.word n
 |_,_,.clo t e c he=>.clo t e c (ER.mo he)
 |_,_,.cloP t e c k hk he=>.cloP t e c k (hm.h _ _ hk) (ER.mo he)
 |_,_,.obj g fs cs h=>.obj g fs cs (VsR.mo h)
 |_,_,.row ls fs cs h=>.row ls fs cs (VsR.mo h)
 |_,_,.arr a k n h=>.arr a k n (hm.n _ _ h)
 |_,_,.res fs l h=>.res fs l (FsR.mo h)
 |_,_,.cap n fs cs h=>.cap n fs cs (VsR.mo h)
theorem VsR.mo:∀{v:List Vl}{c:List (List AC)},VsR H nm v c->VsR H' nm' v c
 |_,_,.nil=>.nil
 |_,_,.cons v c vs cs hv h=>.cons v c vs cs (VR.mo hv) (VsR.mo h)
theorem ER.mo:∀{e:En}{c:AC},ER H nm e c->ER H' nm' e c
 |_,_,.nil=>.nil
 |_,_,.bind i v n k vc nc hk hv hn=>.bind i v n k vc nc (hm.h _ _ hk) (VR.mo hv) (ER.mo hn)
 |_,_,.recs t n c nc hc hn=>.recs t n c nc (RecC.mo hm hc) (ER.mo hn)
theorem FR.mo:∀{f:Fm}{c:AC},FR H nm f c->FR H' nm' f c
 |_,_,.mk t e d ec dc nx hx he hd=>.mk t e d ec dc nx hx (ER.mo he) (VsR.mo hd)
theorem FsR.mo:∀{f:List Fm}{c:List (List AC)},FsR H nm f c->FsR H' nm' f c
 |_,_,.nil=>.nil
 |_,_,.cons f c fs cs hf h=>.cons f c fs cs (FR.mo hf) (FsR.mo h)
end
theorem KR.mo:∀{k:List Fm}{c:AC},KR H nm k c->KR H' nm' k c
 |_,_,.nil=>.nil
 |_,_,.cons t e d k ec dc kc he hd hk=>.cons t e d k ec dc kc (ER.mo hm he) (VsR.mo hm hd) (KR.mo hk)
end
section
variable {H:Hm}{nm:Nm2}
theorem RecC.ids{t:Tr}{top:AC}:∀{i:Nat}{c b:AC},RecC H t top i c b->b.ids isO->c.ids isO
 |_,_,_,.zero c,h=>h
 |_,_,_,.succ i k q c b hk hq h,_=>trivial
mutual
theorem VR.ids:∀{v:Vl}{c:AC},VR H nm v c->c.ids isO
 |_,_,.nil=>trivial
 |_,_,.word n=>by simp[iW,AC.ids,idsL]
 |_,_,.clo t e c he=>⟨⟨by simp,ER.ids he,trivial⟩,trivial⟩
 |_,_,.cloP t e c k hk he=>⟨trivial,trivial⟩
 |_,_,.obj g fs cs h=>⟨⟨trivial,VsR.ids h,trivial⟩,trivial⟩
 |_,_,.row ls fs cs h=>⟨⟨by simp,VsR.ids h,trivial⟩,trivial⟩
 |_,_,.arr a k n h=>⟨⟨trivial,trivial⟩,trivial⟩
 |_,_,.res fs l h=>⟨⟨FsR.ids h,trivial⟩,trivial⟩
 |_,_,.cap n fs cs h=>⟨⟨trivial,VsR.ids h,trivial⟩,trivial⟩
theorem VsR.ids:∀{v:List Vl}{c:List (List AC)},VsR H nm v c->idsS isO c
 |_,_,.nil=>trivial
 |_,_,.cons v c vs cs hv h=>⟨⟨VR.ids hv,trivial⟩,VsR.ids h⟩
theorem ER.ids:∀{e:En}{c:AC},ER H nm e c->c.ids isO
 |_,_,.nil=>trivial
 |_,_,.bind i v n k vc nc hk hv hn=>trivial
 |_,_,.recs t n c nc hc hn=>RecC.ids hc (ER.ids hn)
theorem FR.ids:∀{f:Fm}{c:AC},FR H nm f c->c.ids isO
 |_,_,.mk t e d ec dc nx hx he hd=>⟨by simp,ER.ids he,VsR.ids hd,hx,trivial⟩
theorem FsR.ids:∀{f:List Fm}{c:List (List AC)},FsR H nm f c->idsS isO c
 |_,_,.nil=>trivial
 |_,_,.cons f c fs cs hf h=>⟨⟨FR.ids hf,trivial⟩,FsR.ids h⟩
end
theorem KR.ids:∀{k:List Fm}{c:AC},KR H nm k c->c.ids isO
 |_,_,.nil=>trivial
 |_,_,.cons t e d k ec dc kc he hd hk=>⟨by simp,ER.ids he,VsR.ids hd,KR.ids hk,trivial⟩
theorem VsR.len:∀{v:List Vl}{c:List (List AC)},VsR H nm v c->c.length=v.length
 |_,_,.nil=>rfl
 |_,_,.cons v c vs cs hv h=>by simp[VsR.len h]
theorem VsR.get:∀{v:List Vl}{c:List (List AC)}{i:Nat}{x:Vl},VsR H nm v c->v[i]?=some x->∃y,c[i]?=some [y]/\VR H nm x y
 |_,_,i,x,.nil,hx=>by simp at hx
 |_,_,0,x,.cons v c vs cs hv h,hx=>by simp at hx;subst hx;exact⟨c,rfl,hv⟩
 |_,_,i+1,x,.cons v c vs cs hv h,hx=>VsR.get (i:=i) h (by simpa using hx)
theorem VsR.snoc:∀{v:List Vl}{c:List (List AC)}{x:Vl}{y:AC},VsR H nm v c->VR H nm x y->VsR H nm (v++[x]) (c++[[y]])
 |_,_,x,y,.nil,hx=>.cons x y [] [] hx .nil
 |_,_,x,y,.cons v c vs cs hv h,hx=>.cons v c _ _ hv (VsR.snoc h hx)
theorem VsR.drop:∀{v:List Vl}{c:List (List AC)}(n:Nat),VsR H nm v c->VsR H nm (v.drop n) (c.drop n)
 |_,_,0,h=>by simpa using h
 |_,_,n+1,.nil=>.nil
 |_,_,n+1,.cons v c vs cs hv h=>VsR.drop n h
end
variable {Γ:List (Nat×List AC)}
def unitF:FV:=.tup []
def trapE (c:Int):List PanicEntry:=[{ v:=.iface tTrap (.agg #[.int .i64 c]),recovered:=false }]
theorem Q0l{w:World}{C:Ctx}{v:Value}{c:Int}(h:R w C (.ifc tTrap true [int c]) v):[({ v:=v,recovered:=false }:PanicEntry)]=trapE c:=by
 obtain⟨xs,h1,⟨_,rfl⟩|⟨h2,_⟩⟩:=h
 ·simp only[RV]at h1
  obtain⟨u,us,rfl,h3,rfl⟩:=h1
  simp only[int,R]at h3
  rw[h3.1];rfl
 ·cases h2
theorem conc3:Tryz.prog.concrete 3=true:=by kernel_rfl
theorem Q3z:Tryz.prog.concrete tClo=true:=by kernel_rfl
theorem Q3i:Tryz.prog.concrete tObj=true:=by kernel_rfl
theorem Q9c:Tryz.prog.concrete tRow=true:=by kernel_rfl
theorem Qbg:Tryz.prog.concrete tArr=true:=by kernel_rfl
theorem Qh0:Tryz.prog.concrete tRes=true:=by kernel_rfl
theorem Q3j:Tryz.prog.concrete tCap=true:=by kernel_rfl
theorem Q0k:Tryz.prog.concrete tTrap=true:=by kernel_rfl
theorem z3(w:World):(zeroValue 3).run Tryz.prog w=.ok (.int .i64 0) w:=Q38 (by kernel_rfl) w
theorem zClo(w:World):(zeroValue tClo).run Tryz.prog w=.ok (.pointer none) w:=Q38 (by kernel_rfl) w
theorem zObj(w:World):(zeroValue tObj).run Tryz.prog w=.ok (.pointer none) w:=Q38 (by kernel_rfl) w
theorem zRow(w:World):(zeroValue tRow).run Tryz.prog w=.ok (.pointer none) w:=Q38 (by kernel_rfl) w
theorem zArr(w:World):(zeroValue tArr).run Tryz.prog w=.ok (.pointer none) w:=Q38 (by kernel_rfl) w
theorem zRes(w:World):(zeroValue tRes).run Tryz.prog w=.ok (.pointer none) w:=Q38 (by kernel_rfl) w
theorem zCap(w:World):(zeroValue tCap).run Tryz.prog w=.ok (.pointer none) w:=Q38 (by kernel_rfl) w
def notT (t:Nat)(c:AC):Prop:=c=.lit .nilIface∨∃t' ag cs,c=.ifc t' ag cs/\Nat.beq t' t=false
section
variable {H:Hm}{nm:Nm2}{v:Vl}{c:AC}
theorem VR.isWord(h:VR H nm v c):(∃n,v=.word n/\c=iW n)∨((∀n,v≠.word n)/\notT 3 c):=by
 cases h <;> first|exact .inl ⟨_,rfl,rfl⟩|exact .inr ⟨by simp,.inl rfl⟩|exact .inr ⟨by simp,.inr ⟨_,_,_,rfl,rfl⟩⟩
theorem VR.isClo(h:VR H nm v c):(∃t e,v=.clo t e)∨((∀t e,v≠.clo t e)/\notT tClo c):=by
 cases h <;> first|exact .inl ⟨_,_,rfl⟩|exact .inr ⟨by simp,.inl rfl⟩|exact .inr ⟨by simp,.inr ⟨_,_,_,rfl,rfl⟩⟩
theorem VR.isObj(h:VR H nm v c):(∃g fs cs,v=.obj g fs/\c=iB tObj [int g,.sl 1 cs]/\VsR H nm fs cs)∨((∀g fs,v≠.obj g fs)/\notT tObj c):=by
 cases h <;> first|exact .inl ⟨_,_,_,rfl,rfl,‹_›⟩|exact .inr ⟨by simp,.inl rfl⟩|exact .inr ⟨by simp,.inr ⟨_,_,_,rfl,rfl⟩⟩
theorem VR.isRow(h:VR H nm v c):(∃ls fs cs,v=.row ls fs/\c=iB tRow [.sl 1 (ls.map cI),.sl 1 cs]/\VsR H nm fs cs)∨((∀g fs,v≠.row g fs)/\notT tRow c):=by
 cases h <;> first|exact .inl ⟨_,_,_,rfl,rfl,‹_›⟩|exact .inr ⟨by simp,.inl rfl⟩|exact .inr ⟨by simp,.inr ⟨_,_,_,rfl,rfl⟩⟩
theorem VR.isArr(h:VR H nm v c):(∃a k n,v=.arr a/\c=iB tArr [.arr (.o k) 1 0 n n]/\nm[a]?=some (k,n))∨((∀a,v≠.arr a)/\notT tArr c):=by
 cases h <;> first|exact .inl ⟨_,_,_,rfl,rfl,‹_›⟩|exact .inr ⟨by simp,.inl rfl⟩|exact .inr ⟨by simp,.inr ⟨_,_,_,rfl,rfl⟩⟩
theorem VR.isRes(h:VR H nm v c):(∃fs l,v=.res fs/\c=iB tRes [.sl 1 l]/\FsR H nm fs l)∨((∀fs,v≠.res fs)/\notT tRes c):=by
 cases h <;> first|exact .inl ⟨_,_,rfl,rfl,‹_›⟩|exact .inr ⟨by simp,.inl rfl⟩|exact .inr ⟨by simp,.inr ⟨_,_,_,rfl,rfl⟩⟩
theorem VR.isCap(h:VR H nm v c):(∃n fs cs,v=.cap n fs/\c=iB tCap [int n,.sl 1 cs]/\VsR H nm fs cs)∨((∀n fs,v≠.cap n fs)/\notT tCap c):=by
 cases h <;> first|exact .inl ⟨_,_,_,rfl,rfl,‹_›⟩|exact .inr ⟨by simp,.inl rfl⟩|exact .inr ⟨by simp,.inr ⟨_,_,_,rfl,rfl⟩⟩
theorem Q46(h:∀n,v≠.word n):wordV v=.error 5:=by cases v <;> first|rfl|exact absurd rfl (h _)
end
theorem Q0e(n:Int):APure Tryz.prog Γ 166 [.one (iW n)] (.one (int n)):=by
 intro ou
 refine AFn.walk 15 tabOk Tryz.func166 rfl (by kernel_rfl) rfl rfl fun hou=>?_
 refine zA ?_
 refine zS (AStep.assertYes conc3 rfl rfl) ?_
 refine zA ?_
 exact APure.fin rfl (WkF.ofEq rfl) (by simp) hou rfl
theorem Qas(hΓ:∀g cs,(g,cs)∈Γ->idsL isO cs){c:AC}(hc:notT 3 c)(ou:Outer):AFnP Tryz.prog Γ 166 [.one c] ou (fun _ _=>False) (fun ps ou'=>ps=trapE 5/\ou'=ou):=by
 refine AFnP.walk 15 tabOk hΓ Tryz.func166 rfl (by kernel_rfl) rfl rfl fun hou=>?_
 refine zA ?_
 refine zS (AStep.assertNo conc3 rfl z3 rfl rfl hc) ?_
 refine zA ?_
 refine zS (AStep.mkIfcA Q0k rfl rfl) ?_
 exact AOps.panicI rfl rfl rfl fun w C v hv=>⟨hou,Q0l hv,rfl⟩
theorem Qg3(k n:Nat):APure Tryz.prog Γ 189 [.one (iB tArr [.arr (.o k) 1 0 n n])] (.one (.box [.arr (.o k) 1 0 n n])):=by
 intro ou
 refine AFn.walk 15 tabOk Tryz.func189 rfl (by kernel_rfl) rfl rfl fun hou=>?_
 refine zA ?_
 refine zS (AStep.assertYes Qbg rfl rfl) ?_
 refine zA ?_
 exact APure.fin rfl (WkF.ofEq rfl) (by simp) hou rfl
theorem Qig(hΓ:∀g cs,(g,cs)∈Γ->idsL isO cs){c:AC}(hc:notT tArr c)(ou:Outer):AFnP Tryz.prog Γ 189 [.one c] ou (fun _ _=>False) (fun ps ou'=>ps=trapE 5/\ou'=ou):=by
 refine AFnP.walk 15 tabOk hΓ Tryz.func189 rfl (by kernel_rfl) rfl rfl fun hou=>?_
 refine zA ?_
 refine zS (AStep.assertNo Qbg rfl zArr rfl rfl hc) ?_
 refine zA ?_
 refine zS (AStep.mkIfcA Q0k rfl rfl) ?_
 exact AOps.panicI rfl rfl rfl fun w C v hv=>⟨hou,Q0l hv,rfl⟩
theorem Qc8(a b:AC)(ha:a.ids isO)(hb:b.ids isO):APure Tryz.prog Γ 137 [.one (iB tRow [a,b])] (.one (.box [a,b])):=by
 intro ou
 refine AFn.walk 15 tabOk Tryz.func137 rfl (by kernel_rfl) rfl rfl fun hou=>?_
 refine zA ?_
 refine zS (AStep.assertYes Q9c rfl rfl) ?_
 refine zA ?_
 exact APure.fin rfl (WkF.ofEq rfl) ⟨ha,hb,trivial⟩ hou rfl
theorem Qf5(hΓ:∀g cs,(g,cs)∈Γ->idsL isO cs){c:AC}(hc:notT tRow c)(ou:Outer):AFnP Tryz.prog Γ 137 [.one c] ou (fun _ _=>False) (fun ps ou'=>ps=trapE 5/\ou'=ou):=by
 refine AFnP.walk 15 tabOk hΓ Tryz.func137 rfl (by kernel_rfl) rfl rfl fun hou=>?_
 refine zA ?_
 refine zS (AStep.assertNo Q9c rfl zRow rfl rfl hc) ?_
 refine zA ?_
 refine zS (AStep.mkIfcA Q0k rfl rfl) ?_
 exact AOps.panicI rfl rfl rfl fun w C v hv=>⟨hou,Q0l hv,rfl⟩
theorem Q60(b:Bool):APure Tryz.prog Γ 168 [.one (.lit (.bool b))] (.one (iB tObj [int (if b then 1 else 0),.sl 1 []])):=by
 intro ou
 refine AFn.walk 10 tabOk Tryz.func168 rfl (by kernel_rfl) rfl rfl fun hou=>?_
 refine zA ?_
 refine ACode.cond rfl (fun hb=>?_) (fun hb=>?_)
 ·subst hb
  repeat ((fail_if_success ((with_reducible refine oj ?_);refine AOps.atDst 6 rfl ?_));first|refine zO ?_)
  refine AOps.freeze1 (.l 0) 5 rfl rfl ?_
  refine AOps.wk 5 rfl (y:=.one (.box [int 1,.sl 1 []])) (.one (Wk.box (.cons (.refl _) (.cons (.nilS 1) .nil)))) ?_
  refine zS (AStep.mkIfc Q3i rfl rfl) ?_
  refine zA ?_
  exact APure.fin rfl (WkF.ofEq rfl) (by simp[iB]) hou rfl
 ·subst hb
  repeat ((fail_if_success ((with_reducible refine oj ?_);refine AOps.atDst 9 rfl ?_));first|refine zO ?_)
  refine AOps.freeze1 (.l 0) 8 rfl rfl ?_
  refine AOps.wk 8 rfl (y:=.one (.box [int 0,.sl 1 []])) (.one (Wk.box (.cons (.refl _) (.cons (.nilS 1) .nil)))) ?_
  refine zS (AStep.mkIfc Q3i rfl rfl) ?_
  refine zA ?_
  exact APure.fin rfl (WkF.ofEq rfl) (by simp[iB]) hou rfl
theorem Q6a(n:Int)(h0:-2305843009213693952<=n)(h1:n<=2305843009213693952):APure Tryz.prog Γ 165 [.one (int n)] (.one (int (wrapW n))):=by
 intro ou
 refine AFn.walk 7 tabOk Tryz.func165 rfl (by kernel_rfl) rfl rfl fun hou=>?_
 refine zM ?_
 refine zS (AStep.and rfl rfl rfl) ?_
 rw[Qj3]
 have h4:0<=(n - (-1073741824)) % 2147483648:=Int.emod_nonneg _ (by decide)
 have h5:(n - (-1073741824)) % 2147483648 < 2147483648:=Int.emod_lt_of_pos _ (by decide)
 refine zM ?_
 refine APure.fin rfl (WkF.ofEq ?_) (by simp) hou rfl
 unfold wrapW
 congr 3
theorem Q86(hΓ:∀g cs,(g,cs)∈Γ->idsL isO cs)(a b:Int)(ha:-1073741824<=a/\a<=1073741823)(hb:-1073741824<=b/\b<=1073741823)(hb0:b≠0):APure Tryz.prog Γ 167 [.one (int a),.one (int b)] (.tup [.one (int (a.tdiv b)),.one (int (a.tmod b))]):=by
 intro ou
 refine AFn.walk 16 tabOk Tryz.func167 rfl (by kernel_rfl) rfl rfl fun hou=>?_
 refine zA ?_
 refine ACode.cond rfl (fun hb=>absurd hb (by simpa using hb0)) (fun hb=>?_)
 have hq:Q3c .i64 (a.tdiv b):=by
  have h1:(a.tdiv b).natAbs<=a.natAbs:=Int.natAbs_tdiv_le_natAbs a b
  exact Q29 (by omega) (by omega)
 refine zA ?_
 refine ACode.drawX tabOk 7 [(2,.one (int (a.tdiv b))),(5,.one (int (a.tmod b)))] follows (by kernel_rfl) rfl rfl rfl rfl ?_ ?_
 ·exact⟨⟨_,rfl,AStep.quo rfl rfl rfl hb0 hq⟩,⟨_,rfl,AStep.rem rfl rfl rfl hb0⟩,trivial⟩
 refine zA ?_
 exact APure.fin rfl (WkF.ofEq rfl) (by simp) hou rfl
theorem Q87(hΓ:∀g cs,(g,cs)∈Γ->idsL isO cs)(a:Int)(ou:Outer):AFnP Tryz.prog Γ 167 [.one (int a),.one (int 0)] ou (fun _ _=>False) (fun ps ou'=>ps=trapE 1/\ou'=ou):=by
 refine AFnP.walk 16 tabOk hΓ Tryz.func167 rfl (by kernel_rfl) rfl rfl fun hou=>?_
 refine zA ?_
 refine zS (AStep.mkIfcA Q0k rfl rfl) ?_
 exact AOps.panicI rfl rfl rfl fun w C v hv=>⟨hou,Q0l hv,rfl⟩
theorem Q8x{H:Hm}{nm:Nm2}{v:Vl}{c:AC}(h:VR H nm v c):APure Tryz.prog Γ 51 [.one c] (.one (int (lastV v))):=by
 intro ou
 refine AFn.walk 17 tabOk Tryz.func51 rfl (by kernel_rfl) rfl rfl fun hou=>?_
 rcases h.isWord with ⟨n,rfl,rfl⟩|⟨hw,hn⟩
 ·refine zA ?_
  refine zS (AStep.assertYes conc3 rfl rfl) ?_
  refine zA ?_
  exact APure.fin rfl (WkF.ofEq rfl) (by simp) hou rfl
 ·refine zA ?_
  refine zS (AStep.assertNo conc3 rfl z3 rfl rfl hn) ?_
  refine zA ?_
  rcases h.isObj with ⟨g,fs,cs,rfl,rfl,h2⟩|⟨ho,hn2⟩
  ·refine zS (AStep.assertYes Q3i rfl rfl) ?_
   refine zA ?_
   exact APure.fin rfl (WkF.ofEq rfl) (by simp) hou rfl
  ·refine zS (AStep.assertNo Q3i rfl zObj rfl rfl hn2) ?_
   refine zA ?_
   refine APure.fin rfl (WkF.ofEq ?_) (by simp) hou rfl
   cases v <;> first|rfl|exact absurd rfl (hw _)|exact absurd rfl (ho _ _)
theorem Q2r(t:Tr):APure Tryz.prog Γ 106 [.one (.box (cTr t))] (.one (int (opdN t))):=by
 intro ou
 refine AFn.walk 17 tabOk Tryz.func106 rfl (by kernel_rfl) rfl rfl fun hou=>?_
 unfold opdN
 repeat' first|refine zN ?_|(with_reducible refine oj ?_;refine AOps.splitS rfl rfl rfl rfl (fun hb=>?_) (fun hb=>?_))|(with_reducible refine ok ?_;first|refine ACode.condS rfl (fun hb=>?_) (fun hb=>?_)|refine ACode.cond rfl (fun hb=>?_) (fun hb=>?_))
 all_goals (refine APure.fin rfl (WkF.ofEq ?_) (by simp) hou rfl)
 all_goals (simp_all[int,Q3x])
theorem Qat(id:Int)(vc ec:AC)(hv:vc.ids isO)(he:ec.ids isO)(ou:Outer):AFn Tryz.prog Γ 107 [.one ec,.one (int id),.one vc] ou
  (fun r ou'=>∃k,r=.one (.ptr (.o k) 0)/\NewO ou ou' [(k,.cells [int id,vc,ec])]):=by
 refine AFn.walk 12 tabOk Tryz.func107 rfl (by kernel_rfl) rfl rfl fun hou=>?_
 repeat ((fail_if_success ((with_reducible refine oj ?_);refine AOps.atDst 11 rfl ?_));first|refine zO ?_)
 (first|((with_reducible refine oj ?_);refine zau ?_)|(with_reducible refine zst ?_)|((with_reducible refine Q0t ?_ ?_);rfl)|(with_reducible refine ok ?_;first|refine ACode.condT rfl ?_|refine ACode.condF rfl ?_))
 refine AOps.cedes [0] rfl (by decide) hou fun k hk=>⟨[(11,.one (.ptr (.o k) 0))],[],[.cells [int id,vc,ec]],.cons rfl rfl .nil,.nil,?_,?_⟩
 ·exact .cons rfl (AObj.sub_f (fun i hi=>by cases i with|l q=>exact hi.elim|o q=>rfl) _ ⟨trivial,hv,he,trivial⟩) .nil
 have hN:=NewO.add hk hou (show (AObj.cells [int id,vc,ec]).ids isO from ⟨trivial,hv,he,trivial⟩)
 refine zA ?_
 exact AFn.fin' rfl (WkF.ofEq rfl) (by simp) hN.ok ⟨k,rfl,hN⟩
inductive Ch (H:Hm):AC->List (Int×AC)->Prop
 |nil:Ch H nilPE []
 |cons (i:Int) (k:Nat) (vc nc:AC) (l:List (Int×AC)) (hk:H k=some [int i,vc,nc]) (h:Ch H nc l):Ch H (.ptr (.o k) 0) ((i,vc)::l)
def lookI (id:Int):List (Int×AC)->AC
 |[]=>.lit .nilIface
 |(i,c)::l=>if i=id then c else lookI id l
theorem RecC.ch{H:Hm}{t:Tr}{top:AC}{b:AC}{lb:List (Int×AC)}(hb:Ch H b lb):∀{i:Nat}{c:AC},RecC H t top i c b->
  ∃l,Ch H c l/\∀id,(∃j q,Q6q t.binds id i=some j/\lookI id l=.ifc tClo false [.ptr (.o q) 0]/\H q=some [.box (cTr (t.kids.getD j default)),top])∨(Q6q t.binds id i=none/\lookI id l=lookI id lb)
 |_,_,.zero c=>⟨lb,hb,fun id=>.inr ⟨rfl,rfl⟩⟩
 |_,_,.succ i k q c b hk hq h=>by
  obtain⟨l,h1,h2⟩:=RecC.ch hb h
  refine⟨_,.cons _ k _ _ l hk h1,fun id=>?_⟩
  simp only[lookI,Q6q]
  by_cases e:t.binds.getD i 0=id
  ·exact .inl ⟨i,q,by rw[if_pos e],by rw[if_pos e],hq⟩
  ·rw[if_neg e,if_neg e];exact h2 id
theorem ER.ch{H:Hm}{nm:Nm2}:∀{e:En}{c:AC},ER H nm e c->∃l,Ch H c l/\∀id,VR H nm (findE id e) (lookI id l)
 |_,_,.nil=>⟨[],.nil,fun id=>by simp only[findE,lookI];exact .nil⟩
 |_,_,.bind i v n k vc nc hk hv hn=>by
  obtain⟨l,h1,h2⟩:=ER.ch hn
  refine⟨_,.cons i k vc nc l hk h1,fun id=>?_⟩
  simp only[findE,lookI]
  by_cases e:i=id
  ·rw[if_pos e,if_pos e];exact hv
  ·rw[if_neg e,if_neg e];exact h2 id
 |_,_,.recs t n c nc hc hn=>by
  obtain⟨l,h1,h2⟩:=ER.ch hn
  obtain⟨l',h3,h4⟩:=hc.ch h1
  refine⟨l',h3,fun id=>?_⟩
  simp only[findE]
  rcases h4 id with ⟨j,q,h5,h6,h7⟩|⟨h5,h6⟩
  ·rw[h5,h6]
   exact .cloP _ _ _ q h7 (.recs t n c nc hc hn)
  ·rw[h5,h6];exact h2 id
theorem Q2a{c:AC}(h:c.ids isO)(n:Nat):c.ids (inL n):=AC.ids_mono (fun i hi=>by cases i with|l k=>exact hi.elim|o k=>trivial) c h
theorem Q49{c:List (List AC)}(h:idsS isO c)(n:Nat):idsS (inL n) c:=Q56 (fun i hi=>by cases i with|l k=>exact hi.elim|o k=>trivial) c h
def InOu (H:Hm)(ou:Outer):Prop:=∀k cs,H k=some cs->ou k=some (.cells cs)
theorem Qgu(hΓ:∀g cs,(g,cs)∈Γ->idsL isO cs){H:Hm}{c:AC}{l:List (Int×AC)}(hc:Ch H c l)(id:Int)(ou:Outer)(hH:InOu H ou)(hci:c.ids isO)(hli:(lookI id l).ids isO):
  AFn Tryz.prog Γ 114 [.one c,.one (int id)] ou (fun r ou'=>r=.one (lookI id l)/\ou'=ou):=by
 refine AFn.walk 21 tabOk Tryz.func114 rfl (by kernel_rfl) rfl rfl fun hou=>?_
 refine zA ?_
 refine ACode.loopR hΓ (α:=AC×List (Int×AC)) (fun a=>[(1,.one (int id)),(0,.one a.1)]) (fun a=>⟨0,[],ou⟩) (fun m a=>Ch H a.1 a.2/\lookI id a.2=lookI id l/\a.1.ids isO/\m=a.2.length) (a0:=(c,l)) (ρ:=_root_.id) ⟨hc,rfl,hci,rfl⟩ (LessR.of rfl zFW (by simp[Q2a hci]) zLO rfl rfl hou) fun m a ha=>?_
 obtain⟨c1,l1⟩:=a
 obtain⟨h1,h2,h3,rfl⟩:=ha
 dsimp only at h1 h2 h3 ⊢
 cases h1 with
 |nil=>
  refine zA ?_
  refine zS (AStep.neNil0 Tryz.underlying67 rfl rfl rfl) ?_
  refine zA ?_
  exact AFn.fin' (r':=.one (lookI id l)) rfl (WkF.ofEq (by rw[←h2];rfl)) hli hou ⟨rfl,rfl⟩
 |cons i k vc nc l2 hk hch=>
  have hx:=hH k _ hk
  have hids:idsL isO [int i,vc,nc]:=hou k _ hx
  have hnc:nc.ids isO:=hids.2.2.1
  refine zA ?_
  refine zS (AStep.neNil Tryz.underlying67 rfl rfl rfl) ?_
  repeat' first|refine zN ?_|((with_reducible refine oj ?_);first|refine zix ?_|refine zow rfl rfl hx ?_)
  refine ACode.cond rfl (fun hb=>?_) (fun hb=>?_)
  ·have he:i=id:=by simpa using hb
   repeat' first|refine zN ?_|((with_reducible refine oj ?_);first|refine zix ?_|refine zow rfl rfl hx ?_)
   exact AFn.fin' (r':=.one (lookI id l)) rfl (WkF.ofEq (by rw[←h2];simp[lookI,he])) hli hou ⟨rfl,rfl⟩
  ·have he:i≠id:=by simpa using hb
   repeat' first|refine zN ?_|((with_reducible refine oj ?_);first|refine zix ?_|refine zow rfl rfl hx ?_)
   exact cInv ⟨l2.length,(nc,l2),_root_.id,by simp,⟨hch,by rw[←h2];simp[lookI,he],hnc,rfl⟩,LessR.of rfl zFW (by simp[Q2a hnc]) zLO rfl rfl hou⟩
def plainO:AObj->Prop
 |.cells _=>True
 |.tok _ _ _=>True
 |.dead=>True
 |_=>False
structure Gro (ou:Outer)(H:Hm)(ou':Outer)(H':Hm):Prop where
 h:∀k cs,H k=some cs->H' k=some cs
 new:∀k,H k=none->H' k≠none->ou k=none
 old:∀k o,ou k=some o->ou' k=some o
 inO:InOu H' ou'
 ok:OuOk ou'
 pl:∀k o,ou' k=some o->ou k=some o∨plainO o
theorem Gro.refl{ou:Outer}{H:Hm}(h:InOu H ou)(ho:OuOk ou):Gro ou H ou H:=⟨fun _ _ h=>h,fun k h1 h2=>absurd h1 h2,fun _ _ h=>h,h,ho,fun _ _ h=>.inl h⟩
theorem Gro.trans{ou ou1 ou2:Outer}{H H1 H2:Hm}(a:Gro ou H ou1 H1)(b:Gro ou1 H1 ou2 H2):Gro ou H ou2 H2:=by
 refine⟨fun k cs h=>b.h k cs (a.h k cs h),fun k h1 h2=>?_,fun k o h=>b.old k o (a.old k o h),b.inO,b.ok,fun k o h=>(b.pl k o h).elim (a.pl k o) .inr⟩
 by_cases h3:H1 k=none
 ·have:=b.new k h3 h2
  cases h4:ou k with
  |none=>rfl
  |some o=>rw[a.old k o h4]at this;cases this
 ·exact a.new k h1 h3
theorem Gro.mo{ou ou':Outer}{H H':Hm}(g:Gro ou H ou' H')(nm:Nm2):Mo H nm H' nm:=⟨g.h,fun _ _ h=>h⟩
def addH (H:Hm)(k:Nat)(cs:List AC):Hm:=fun j=>if j=k then some cs else H j
theorem Gro.add{ou ou':Outer}{H:Hm}(h:InOu H ou){k:Nat}{cs:List AC}(hN:NewO ou ou' [(k,.cells cs)]):Gro ou H ou' (addH H k cs):=by
 have hk:ou k=none:=hN.new k (by simp[keys])
 have hHk:H k=none:=by
  cases h1:H k with
  |none=>rfl
  |some c=>rw[h k c h1]at hk;cases hk
 have hold:∀j o,ou j=some o->ou' j=some o:=fun j o hj=>by
  rw[hN.old j (by simp[keys];rintro rfl;rw[hk]at hj;cases hj)];exact hj
 refine⟨fun j c hj=>?_,fun j h1 h2=>?_,hold,fun j c hj=>?_,hN.ok,fun j o hj=>?_⟩
 ·unfold addH
  rw[if_neg (by rintro rfl;rw[hHk]at hj;cases hj)];exact hj
 ·unfold addH at h2
  split at h2
  ·rename_i e;rw[e];exact hk
  ·exact absurd h1 h2
 ·unfold addH at hj
  split at hj
  ·rename_i e;subst e;cases hj
   exact hN.own (j,_) (by simp)
  ·exact hold j _ (h j c hj)
 ·by_cases e:j=k
  ·subst e
   have:=hN.own (j,_) (List.mem_singleton.2 rfl)
   rw[this]at hj;cases hj;exact .inr trivial
  ·rw[hN.old j (by simp[keys];exact e)]at hj;exact .inl hj
theorem Qao(x:Int):∀(b:List Int)(l:List Vl)(e:En),allE e (b++[x]) l=.bind x (l.getD b.length .nil) (allE e b l)
 |[],l,e=>by cases l <;> simp[allE]
 |y::b,l,e=>by
  simp only[List.cons_append,allE,Qao x b]
  cases l <;> simp
theorem Qal(hΓ:∀g cs,(g,cs)∈Γ->idsL isO cs){H:Hm}{nm:Nm2}{e:En}{ec:AC}{b:List Int}{l:List Vl}{cs:List (List AC)}(he:ER H nm e ec)(hl:VsR H nm l cs)(hbl:b.length=l.length)(hb20:b.length<=1048576)(ou:Outer)(hH:InOu H ou):
  AFn Tryz.prog Γ 111 [.one ec,.one (.sl 1 (b.map cI)),.one (.sl 1 cs)] ou (fun r ou'=>∃H' c,r=.one c/\Gro ou H ou' H'/\ER H' nm (allE e b l) c):=by
 have hei:=he.ids
 have hci:=hl.ids
 have hcl:=hl.len
 refine AFn.walk 25 tabOk Tryz.func111 rfl (by kernel_rfl) rfl rfl fun hou=>?_
 refine zA ?_
 refine ACode.loopR hΓ (α:=Nat×AC×Outer×Hm) (fun a=>[(11,.one (int a.1)),(10,.one (int (b.map cI).length)),(9,.one (.sl 1 (b.map cI))),(2,.one (.sl 1 cs)),(0,.one a.2.1)]) (fun a=>⟨0,[],a.2.2.1⟩)
  (fun m a=>a.1<=b.length/\Gro ou H a.2.2.1 a.2.2.2/\ER a.2.2.2 nm (allE e (b.take a.1) l) a.2.1/\m=b.length - a.1) (a0:=(0,ec,ou,H)) (ρ:=_root_.id) ⟨by simp,Gro.refl hH hou,by simpa[allE]using he,rfl⟩
  (LessR.of rfl zFW (by simp[Q2a hei,Q49 hci]) zLO rfl rfl hou) fun m a ha=>?_
 obtain⟨i,c,ou1,H1⟩:=a
 obtain⟨hi,hg,he1,rfl⟩:=ha
 dsimp only at hi hg he1 ⊢
 have hou1:=hg.ok
 have hc1:=he1.ids
 refine zA ?_
 refine ACode.cond rfl (fun hb2=>?_) (fun hb2=>?_)
 ·have hlt:i < b.length:=by simpa using hb2
  clear hb2
  obtain⟨x,hx⟩:=Q01 hlt
  obtain⟨v,hv⟩:=Q01 (l:=l) (i:=i) (by omega)
  obtain⟨y,hy,hvy⟩:=hl.get hv
  have hyi:=hvy.ids
  refine zA ?_
  refine zS (zIA rfl rfl rfl (by omega) (Q06 hx)) ?_
  refine zA ?_
  refine zS (zIA rfl rfl rfl (by omega) (show cs[i]?=some [y]from hy)) ?_
  refine zA ?_
  refine AOps.call1 hΓ rfl rfl rfl rfl rfl rfl rfl ⟨hc1,trivial,hyi,trivial⟩ hou1 (Qat x y c hyi hc1 ou1) fun r ou2 hq hids hou2=>?_
  obtain⟨k,rfl,hN⟩:=hq
  have hg2:=Gro.add hg.inO hN
  have he2:ER (addH H1 k [int x,y,c]) nm (allE e (b.take (i+1)) l) (.ptr (.o k) 0):=by
   have ht:b.take (i+1)=b.take i++[x]:=Q2d hx
   rw[ht,Qao]
   have hlen:(b.take i).length=i:=by simp;omega
   rw[hlen,List.getD_eq_getElem?_getD,hv]
   exact .bind x v _ k y c (by simp[addH]) (hvy.mo (((hg.trans hg2).mo nm))) (he1.mo (hg2.mo nm))
  refine zM ?_
  exact cInv ⟨b.length - (i+1),(i+1,.ptr (.o k) 0,ou2,addH H1 k [int x,y,c]),_root_.id,by omega,⟨by omega,hg.trans hg2,he2,rfl⟩,LessR.of rfl zFW (by simp[Q49 hci]) zLO rfl rfl hou2⟩
 ·have hlt:i=b.length:=by simp at hb2;omega
  subst hlt
  rw[List.take_length]at he1
  refine zA ?_
  exact AFn.fin' (r':=.one c) rfl (WkF.refl _) hc1 hou1 ⟨H1,c,rfl,hg,he1⟩
structure FcT where
 ac:AC
 kt:Nat
abbrev FcT.ids (fc:FcT)(p:Abs.Id->Prop):Prop:=fc.ac.ids p
def mC (tc ec vc kc:AC)(out:List Int)(st fu:Int)(fc:FcT):List AC:=[tc,ec,vc,kc,.gs 1 (out.map cI) (.o fc.kt),int st,int fu,fc.ac]
def ouX (mc:List AC)(n:Nat)(ou:Outer):Outer:=fun k=>match k with
 |0=>some (.cells mc)
 |k+1=>ou (k+1)
theorem Q7o{ou:Outer}{mc:List AC}{n:Nat}(h0:ou 0=some (.cells mc)):ou=ouX mc n ou:=by
 funext k
 match k with
 |0=>exact h0
 |k+1=>rfl
theorem setX(mc mc':List AC)(n:Nat)(ou:Outer):(⟨0,[],ouX mc n ou⟩:St).set (.o 0) (.cells mc')=⟨0,[],ouX mc' n ou⟩:=by
 simp only[St.set,St.mk.injEq,true_and]
 funext k
 match k with
 |0=>rfl
 |k+1=>simp[Q08 (show k+1≠0 by omega)];rfl
def TkR (ou:Outer)(H:Hm)(nm:Nm2):Prop:=∀cs,ou 0=some (.cells cs)->∀es i,cs[4]?=some (.gs 1 es i)->∃kt,i=.o kt/\1<=kt/\ou kt=some (.tok 3 1 es.length)/\H kt=none/\∀(a k n:Nat),nm[a]?=some (k,n)->k≠kt
structure WR (ou:Outer)(H:Hm)(nm:Nm2)(heap:List (List Vl)):Prop where
 inO:InOu H ou
 ok:OuOk ou
 len:nm.length=heap.length
 arr:∀(a k n:Nat),nm[a]?=some (k,n)->∃cs:List AC,ou k=some (.cells cs)/\VsR H nm (heap.getD a []) (cs.map fun c=>[c])/\n=cs.length
 aH:∀(a k n:Nat),nm[a]?=some (k,n)->H k=none
 aa:∀(a b k n n':Nat),nm[a]?=some (k,n)->nm[b]?=some (k,n')->a=b
 sep:H 0=none/\∀(a k n:Nat),nm[a]?=some (k,n)->1<=k
 tk:TkR ou H nm
 pl:∀k o,ou k=some o->plainO o
theorem WR.gro{ou ou':Outer}{H H':Hm}{nm:Nm2}{heap:List (List Vl)}(w:WR ou H nm heap)(g:Gro ou H ou' H')(h0:ou 0≠none)(h1:True):WR ou' H' nm heap:=by
 have hH:∀k,ou k≠none->H k=none->H' k=none:=fun k hk hh=>by
  cases h:H' k with
  |none=>rfl
  |some c=>exact absurd (g.new k hh (by rw[h];simp)) hk
 refine⟨g.inO,g.ok,w.len,fun a k n h=>?_,fun a k n h=>?_,w.aa,⟨hH 0 h0 w.sep.1,w.sep.2⟩,fun cs hc es i hi=>?_,fun k o hk=>(g.pl k o hk).elim (w.pl k o) id⟩
 ·obtain⟨cs,c1,c2,c3⟩:=w.arr a k n h
  exact⟨cs,g.old k _ c1,c2.mo (g.mo nm),c3⟩
 ·obtain⟨cs,c1,c2,c3⟩:=w.arr a k n h
  exact hH k (by rw[c1];simp) (w.aH a k n h)
 ·cases ho:ou 0 with
  |none=>exact absurd ho h0
  |some o=>
   have:=g.old 0 _ ho
   rw[hc]at this
   cases this
   obtain⟨kt,e1,e2,e3,e4,e5⟩:=w.tk cs ho es i hi
   exact⟨kt,e1,e2,g.old _ _ e3,hH kt (by rw[e3];simp) e4,e5⟩
theorem WR.put{mc mc':List AC}{n:Nat}{ou:Outer}{H:Hm}{nm:Nm2}{heap:List (List Vl)}(w:WR (ouX mc n ou) H nm heap)(hi:idsL isO mc'){ou':Outer}(h0:ou' 0=some (.cells mc'))(h1:mc'[4]?=mc[4]?)(h2:∀k,ou' (k+1)=ou (k+1)):WR ou' H nm heap:=by
 have e:∀k,1<=k->ou' k=ouX mc n ou k:=fun k hk=>by
  obtain⟨j,rfl⟩:∃j,k=j+1:=⟨k - 1,by omega⟩
  rw[h2];rfl
 have hk2:∀k cs,H k=some cs->1<=k:=fun k cs hk=>by
  match k with
  |0=>rw[w.sep.1]at hk;cases hk
  |k+1=>omega
 refine⟨fun k cs hk=>?_,fun k o hk=>?_,w.len,fun a k n h=>?_,w.aH,w.aa,w.sep,fun cs hc es i hi=>?_,fun k o hk=>?_⟩
 ·rw[e k (hk2 k cs hk)];exact w.inO k cs hk
 ·match k with
  |0=>rw[h0]at hk;cases hk;exact hi
  |k+1=>rw[e _ (by omega)]at hk;exact w.ok _ o hk
 ·rw[e k (w.sep.2 a k n h)];exact w.arr a k n h
 ·rw[h0]at hc;cases hc
  rw[h1]at hi
  obtain⟨kt,e1,e2,e3,e4,e5⟩:=w.tk mc rfl es i hi
  exact⟨kt,e1,e2,(e kt e2).trans e3,e4,e5⟩
 ·match k with
  |0=>rw[h0]at hk;cases hk;trivial
  |k+1=>rw[e _ (by omega)]at hk;exact w.pl _ o hk
inductive CR (H:Hm)(nm:Nm2):Ctl->AC->AC->AC->Prop
 |ev (t:Tr) (e:En) (ec vc:AC) (he:ER H nm e ec):CR H nm (.ev t e) (.box (cTr t)) ec vc
 |rt (v:Vl) (ec vc:AC) (hv:VR H nm v vc):CR H nm (.rt v) nilPE ec vc
structure M0 (fu:Int)(fc:FcT)(ou:Outer)(H:Hm)(nm:Nm2)(m:Ms)(tc ec vc kc:AC):Prop where
 ids:tc.ids isO/\ec.ids isO/\vc.ids isO/\kc.ids isO
 m0:ou 0=some (.cells (mC tc ec vc kc m.out m.steps fu fc))
 w:WR ou H nm m.heap
structure MR (fu:Int)(fc:FcT)(ou:Outer)(H:Hm)(nm:Nm2)(m:Ms):Prop where
 ex:∃kt tc ec vc kc,CR H nm m.c tc ec vc/\KR H nm m.k kc/\M0 fu ⟨fc.ac,kt⟩ ou H nm m tc ec vc kc
theorem MR.ok{fu:Int}{fc:FcT}{H:Hm}{nm:Nm2}{m:Ms}{ou:Outer}(h:MR fu fc ou H nm m):OuOk ou:=h.ex.choose_spec.choose_spec.choose_spec.choose_spec.choose_spec.2.2.w.ok
structure PR (ou:Outer)(m:Ms):Prop where
 ok:OuOk ou
 m0:∃tc ec vc kc fu fc,ou 0=some (.cells (mC tc ec vc kc m.out m.steps fu fc))
theorem M0.pr{fu:Int}{fc:FcT}{ou:Outer}{H:Hm}{nm:Nm2}{m:Ms}{tc ec vc kc:AC}(h:M0 fu fc ou H nm m tc ec vc kc):PR ou m:=⟨h.w.ok,⟨_,_,_,_,_,_,h.m0⟩⟩
def StQ (fu:Int)(fc:FcT)(H:Hm)(nm:Nm2)(x:Except Int Ms):FV->Outer->Prop:=fun r ou'=>r=unitF/\∃H' nm' m',x=.ok m'/\Mo H nm H' nm'/\MR fu fc ou' H' nm' m'
def StP (m:Ms)(x:Except Int Ms):List PanicEntry->Outer->Prop:=fun ps ou'=>∃c,x=.error c/\ps=trapE c/\PR ou' m
theorem M0.ouX{fu:Int}{fc:FcT}{ou:Outer}{H:Hm}{nm:Nm2}{m:Ms}{tc ec vc kc:AC}(h:M0 fu fc ou H nm m tc ec vc kc):ou=ouX (mC tc ec vc kc m.out m.steps fu fc) m.out.length ou:=Q7o h.m0
theorem KR.cell{H:Hm}{nm:Nm2}{t:Tr}{e:En}{d:List Vl}{k:List Fm}{c:AC}(h:KR H nm (.mk t e d::k) c):∃ec dc kc,c=.box [.box (cTr t),ec,.sl 1 dc,kc]/\ER H nm e ec/\VsR H nm d dc/\KR H nm k kc:=by
 cases h with
 |cons _ _ _ _ ec dc kc he hd hk=>exact⟨ec,dc,kc,rfl,he,hd,hk⟩
theorem MR.ofEv{fu:Int}{fc:FcT}{mc:List AC}{n:Nat}{ou0 ou':Outer}{H:Hm}{nm:Nm2}{m:Ms}{e:En}{s:Tr}{k:List Fm}{ec vc kc:AC}(w:WR (ouX mc n ou0) H nm m.heap)(he:ER H nm e ec)(hk:KR H nm k kc)(hv:vc.ids isO)(hf:fc.ids isO)
  (h0:ou' 0=some (.cells (mC (.box (cTr s)) ec vc kc m.out m.steps fu fc))) (h1:mc[4]?=some (.gs 1 (m.out.map cI) (.o fc.kt))) (h2:∀k,ou' (k+1)=ou0 (k+1)):MR fu fc ou' H nm { m with c:=.ev s e,k:=k }:=
 have hi:idsL isO (mC (.box (cTr s)) ec vc kc m.out m.steps fu fc):=by simp[mC,he.ids,hk.ids,hv,hf]
 ⟨fc.kt,_,_,_,_,.ev s e ec vc he,hk,⟨by simp,he.ids,hv,hk.ids⟩,h0,w.put hi h0 h1.symm h2⟩
theorem MR.ofRt{fu:Int}{fc:FcT}{mc:List AC}{n:Nat}{ou0 ou':Outer}{H:Hm}{nm:Nm2}{m:Ms}{v:Vl}{k:List Fm}{ec vc kc:AC}(w:WR (ouX mc n ou0) H nm m.heap)(he:VR H nm v vc)(hk:KR H nm k kc)(hv:ec.ids isO)(hf:fc.ids isO)
  (h0:ou' 0=some (.cells (mC nilPE ec vc kc m.out m.steps fu fc))) (h1:mc[4]?=some (.gs 1 (m.out.map cI) (.o fc.kt))) (h2:∀k,ou' (k+1)=ou0 (k+1)):MR fu fc ou' H nm { m with c:=.rt v,k:=k }:=
 have hi:idsL isO (mC nilPE ec vc kc m.out m.steps fu fc):=by simp[mC,he.ids,hk.ids,hv,hf,nilPE]
 ⟨fc.kt,_,_,_,_,.rt v ec vc he,hk,⟨trivial,hv,he.ids,hk.ids⟩,h0,w.put hi h0 h1.symm h2⟩
theorem Qcs(hΓ:∀g cs,(g,cs)∈Γ->idsL isO cs){fu:Int}{fc:FcT}{fns:List Fun}{ou:Outer}{H:Hm}{nm:Nm2}{m:Ms}{tc0 ec0 vc0 kc0:AC}(h0:M0 fu fc ou H nm m tc0 ec0 vc0 kc0)(hfc:fc.ids isO)
  {t:Tr}{e:En}{d:List Vl}{k:List Fm}{ec:AC}{dc:List (List AC)}{kc:AC}(he:ER H nm e ec) (hd:VsR H nm d dc) (hk:KR H nm k kc){s:Tr}(hlt:d.length < opdN t) (hs:t.kids[d.length]?=some s):
  AFnP Tryz.prog Γ 86 [.one (.ptr (.o 0) 0),.one (.box [.box (cTr t),ec,.sl 1 dc,kc])] ou (StQ fu fc H nm (kidM fu fns m (.mk t e d) k)) (StP m (kidM fu fns m (.mk t e d) k)):=by
 have hoX:=h0.ouX
 have hei:=he.ids
 have hdi:=hd.ids
 have hki:=hk.ids
 have hdl:=hd.len
 rw[hoX]
 have hw:=h0.w
 rw[hoX]at hw
 generalize hmc:ou=ou0 at hw
 clear hoX
 refine AFnP.walk 262 tabOk hΓ Tryz.func86 rfl (by kernel_rfl) rfl rfl fun hou=>?_
 refine zA ?_
 refine ACode.drawX tabOk 10 [(9,.one (int (opdN t)))] follows (by kernel_rfl) rfl rfl rfl rfl ?_ ?_
 ·exact⟨⟨_,rfl,AStep.callPure hΓ rfl rfl rfl (by simp[idsF]) hou (Q2r t)⟩,trivial⟩
 refine zA ?_
 refine ACode.cond rfl (fun hb=>?_) (fun hb=>absurd hb (by simp[hdl];exact hlt))
 refine zA ?_
 have hsc:(Q1j t.kids)[d.length]?=some [.box (cTr s)]:=Q21 hs
 generalize hM:ouX (mC tc0 ec0 vc0 kc0 m.out m.steps fu fc) m.out.length ou0=ou1 at hou hw ⊢
 subst hM
 refine ACode.drawC2 tabOk 28 [24,25,26,27] [(15,.one (.box [.box (cTr s)]))] (fun vs σ=>match vs with
   |[]=>σ=⟨0,[],ouX (mC tc0 ec0 vc0 kc0 m.out m.steps fu fc) m.out.length ou0⟩
   |[_]=>σ=⟨0,[],ouX (mC (.box (cTr s)) ec0 vc0 kc0 m.out m.steps fu fc) m.out.length ou0⟩
   |[_,v]=>v=.one (.ptr (.o 0) 0)/\σ=⟨0,[],ouX (mC (.box (cTr s)) ec0 vc0 kc0 m.out m.steps fu fc) m.out.length ou0⟩
   |[_,v,w]=>v=.one (.ptr (.o 0) 0)/\w=.one (.ptr (.o 0) 1)/\σ=⟨0,[],ouX (mC (.box (cTr s)) ec0 vc0 kc0 m.out m.steps fu fc) m.out.length ou0⟩
   |[_,v,w,_]=>v=.one (.ptr (.o 0) 0)/\w=.one (.ptr (.o 0) 1)/\σ=⟨0,[],ouX (mC (.box (cTr s)) ec vc0 kc0 m.out m.steps fu fc) m.out.length ou0⟩
   |_=>False) follows (by kernel_rfl) rfl rfl (by decide) (by kernel_rfl) (by kernel_rfl) rfl rfl ?_ ?_ (by decide) ?_ ?_
 ·intro vs σ h
  match vs with
  |[]=>subst h;rfl
  |[_]=>subst h;rfl
  |[_,_]=>obtain⟨_,rfl⟩:=h;rfl
  |[_,_,_]=>obtain⟨_,_,rfl⟩:=h;rfl
  |[_,_,_,_]=>obtain⟨_,_,rfl⟩:=h;rfl
  |_::_::_::_::_::_=>exact h.elim
 ·intro vs σ h
  exact⟨⟨_,rfl,zIA rfl rfl rfl (by omega) (by simpa[hdl]using hsc)⟩,trivial⟩
 ·intro vs σ h i o hi ho
  match vs with
  |[]=>subst h;cases hi;cases ho;exact⟨rfl,.inl (.inl ⟨.bot,_,AStep.ofStore tabOk rfl,setX _ _ _ _⟩)⟩
  |[_]=>subst h;cases hi;cases ho;exact⟨rfl,.inl (.inl ⟨_,_,AStep.ofOp tabOk rfl,rfl,rfl⟩)⟩
  |[_,_]=>obtain⟨rfl,rfl⟩:=h;cases hi;cases ho;exact⟨rfl,.inl (.inl ⟨_,_,AStep.ofOp tabOk rfl,rfl,rfl,rfl⟩)⟩
  |[_,_,_]=>obtain⟨rfl,rfl,rfl⟩:=h;cases hi;cases ho;exact⟨rfl,.inl (.inl ⟨.bot,_,AStep.ofStore tabOk rfl,rfl,rfl,setX _ _ _ _⟩)⟩
  |_::_::_::_::_=>cases hi
 ·intro vs σ hl h
  match vs with
  |[_,_,_,_]=>
   obtain⟨rfl,rfl,rfl⟩:=h
   refine zA ?_
   have hM:MR fu fc _ H nm { m with c:=.ev s e,k:=.mk t e d::k }:=MR.ofEv (ou':=(St.set ⟨0,[],ouX (mC (.box (cTr s)) ec vc0 kc0 m.out m.steps fu fc) m.out.length ou0⟩ (.o 0) (.cells (mC (.box (cTr s)) ec vc0 (.box [.box (cTr t),ec,.sl 1 dc,kc]) m.out m.steps fu fc))).ou) hw he (.cons t e d k ec dc kc he hd hk) h0.ids.2.2.1 hfc rfl rfl (fun _=>rfl)
   refine AFn.fin' rfl (WkF.refl _) (by simp) hM.ok ⟨rfl,H,nm,_,?_,.refl _ _,hM⟩
   unfold kidM
   rw[if_pos (show (Fm.mk t e d).done.length < opdN (Fm.mk t e d).t from hlt)]
   simp only[Fm.done_mk,Fm.t_mk,Fm.e_mk]
   rw[List.getD_eq_getElem?_getD,hs]
   rfl
  |[]|[_]|[_,_]|[_,_,_]=>cases hl
  |_::_::_::_::_::_=>exact h.elim
theorem ACode.stEq{E:Env}{c:Code}{K:Cont}{fr:Fr}{σ σ':St}(h:σ=σ')(k:ACode E c K fr σ'):ACode E c K fr σ:=h▸k
theorem AOps.stEq{E:Env}{ops:Array Oper}{l:List Oper}{K:Cont}{fr:Fr}{σ σ':St}(h:σ=σ')(k:AOps E ops l K fr σ'):AOps E ops l K fr σ:=h▸k
def GrP (mc:List AC)(n:Nat)(ou0:Outer)(H:Hm)(mc':List AC)(R:FV->Hm->Prop):FV->St->Prop:=fun v σ=>∃ou1 H1,σ=⟨0,[],ouX mc' n ou1⟩/\Gro (ouX mc n ou0) H (ouX mc n ou1) H1/\R v H1
theorem GrP.of{mc:List AC}{n:Nat}{ou0 ou':Outer}{H H1:Hm}{R:FV->Hm->Prop}{v:FV}(g:Gro (ouX mc n ou0) H ou' H1)(h:R v H1):GrP mc n ou0 H mc R v ⟨0,[],ou'⟩:=by
 have e:=Q7o (n:=n) (g.old 0 _ rfl)
 refine⟨ou',H1,by rw[←e],?_,h⟩
 rw[←e];exact g
section
variable {fu:Int}{fc:FcT}{fns:List Fun}{ou:Outer}{H:Hm}{nm:Nm2}{m:Ms}{tc0 ec0 vc0 kc0:AC}{t:Tr}{e:En}{d:List Vl}{k:List Fm}{ec:AC}{dc:List (List AC)}{kc:AC}
theorem kid_let(hΓ:∀g cs,(g,cs)∈Γ->idsL isO cs)(h0:M0 fu fc ou H nm m tc0 ec0 vc0 kc0)(hfc:fc.ids isO)(he:ER H nm e ec)(hd:VsR H nm d dc)(hk:KR H nm k kc){v:Vl}(hdv:d=[v]){s:Tr}{id:Int}(h4:t.op=4)(hs:t.kids[1]?=some s)(hbn:t.binds=[id]):
  AFnP Tryz.prog Γ 86 [.one (.ptr (.o 0) 0),.one (.box [.box (cTr t),ec,.sl 1 dc,kc])] ou (StQ fu fc H nm (kidM fu fns m (.mk t e d) k)) (StP m (kidM fu fns m (.mk t e d) k)):=by
 have hoX:=h0.ouX
 have hei:=he.ids
 have hdi:=hd.ids
 have hki:=hk.ids
 have hdl:=hd.len
 have hop:opdN t=1:=by unfold opdN;rw[if_pos (.inl h4)]
 subst hdv
 obtain⟨y,hy,hvy⟩:=hd.get (i:=0) rfl
 rw[hoX]
 have hw:=h0.w
 rw[hoX]at hw
 generalize hmc:ou=ou0 at hw
 clear hoX
 refine AFnP.walk 262 tabOk hΓ Tryz.func86 rfl (by kernel_rfl) rfl rfl fun hou=>?_
 refine zA ?_
 refine ACode.drawX tabOk 10 [(9,.one (int (opdN t)))] follows (by kernel_rfl) rfl rfl rfl rfl ?_ ?_
 ·exact⟨⟨_,rfl,AStep.callPure hΓ rfl rfl rfl (by simp[idsF]) hou (Q2r t)⟩,trivial⟩
 refine zA ?_
 refine ACode.cond rfl (fun hb=>absurd hb (by simp[hdl,hop])) (fun hb=>?_)
 refine zA ?_
 refine ACode.stEq (σ':=⟨0,[],ouX (mC tc0 ec0 vc0 kc m.out m.steps fu fc) m.out.length ou0⟩) (setX _ _ _ _) ?_
 have hw1:WR (ouX (mC tc0 ec0 vc0 kc m.out m.steps fu fc) m.out.length ou0) H nm m.heap:=hw.put (by simp[mC,h0.ids.1,h0.ids.2.1,h0.ids.2.2.1,hki,hfc]) rfl rfl (fun _=>rfl)
 have hyi:=hvy.ids
 have hsc:(Q1j t.kids)[1]?=some [.box (cTr s)]:=Q21 hs
 have hbc:(t.binds.map cI)[0]?=some [int id]:=by rw[hbn];rfl
 refine ACode.cond rfl (fun _=>?_) (fun hb=>absurd hb (by simp[h4]))
 refine ACode.drawCS tabOk 34 30 31 32 33 (.one (.ptr (.o 0) 0)) (.one (.ptr (.o 0) 0)) [(9,.one (.box [.box (cTr s)])),(22,.one (.box [int id])),(28,.one (.box [y]))]
  (GrP (mC tc0 ec0 vc0 kc m.out m.steps fu fc) m.out.length ou0 H (mC tc0 ec0 vc0 kc m.out m.steps fu fc) fun v H1=>∃q,v=.one (.ptr (.o q) 0)/\H1 q=some [int id,y,ec])
  (GrP (mC tc0 ec0 vc0 kc m.out m.steps fu fc) m.out.length ou0 H (mC (.box (cTr s)) ec0 vc0 kc m.out m.steps fu fc) fun v H1=>∃q,v=.one (.ptr (.o q) 0)/\H1 q=some [int id,y,ec])
  follows (by kernel_rfl) rfl rfl (by decide) (by kernel_rfl) (by kernel_rfl) rfl rfl rfl rfl rfl rfl rfl ?_ ?_ ?_ ?_ ?_ ?_ ?_ ?_ ?_ ?_
 ·rintro v σ ⟨ou1,H1,rfl,_,_⟩;rfl
 ·rintro v σ ⟨ou1,H1,rfl,_,_⟩;rfl
 ·exact⟨⟨_,rfl,zIA rfl rfl rfl (by decide) hsc⟩,⟨_,rfl,zIA rfl rfl rfl (by decide) hbc⟩,⟨_,rfl,zIA rfl rfl rfl (by decide) hy⟩,trivial⟩
 ·rintro v σ ⟨ou1,H1,rfl,_,_⟩
  exact⟨⟨_,rfl,zIA rfl rfl rfl (by decide) hsc⟩,⟨_,rfl,zIA rfl rfl rfl (by decide) hbc⟩,⟨_,rfl,zIA rfl rfl rfl (by decide) hy⟩,trivial⟩
 ·rintro v σ ⟨ou1,H1,rfl,_,_⟩
  exact⟨⟨_,rfl,zIA rfl rfl rfl (by decide) hsc⟩,⟨_,rfl,zIA rfl rfl rfl (by decide) hbc⟩,⟨_,rfl,zIA rfl rfl rfl (by decide) hy⟩,trivial⟩
 ·refine Q0u.ofR (Q0y.call hΓ rfl rfl rfl rfl ⟨hei,trivial,hyi,trivial⟩ hw1.ok (Qat id y ec hyi hei _) fun r ou' hq hr ho=>?_)
  obtain⟨q,rfl,hN⟩:=hq
  exact GrP.of (Gro.add hw1.inO hN) ⟨q,rfl,by simp[addH]⟩
 ·rintro v σ ⟨ou1,H1,rfl,_,q,rfl,_⟩;exact AStep.ofOp tabOk rfl
 ·rintro v σ ⟨ou1,H1,rfl,_,q,rfl,_⟩;exact AStep.ofOp tabOk rfl
 ·rintro v σ ⟨ou1,H1,rfl,h1,h2⟩;exact⟨_,⟨ou1,H1,setX _ _ _ _,h1,h2⟩,AStep.ofStore tabOk rfl⟩
 ·rintro v' σ ⟨ou1,H1,rfl,h1,q,rfl,h3⟩
  refine zA ?_
  have hw2:=hw1.gro h1 (by simp[ouX]) (by simp[ouX])
  have hM:MR fu fc _ H1 nm { m with c:=.ev s (.bind id v e),k:=k }:=MR.ofEv (ou':=(St.set ⟨0,[],ouX (mC (.box (cTr s)) ec0 vc0 kc m.out m.steps fu fc) m.out.length ou1⟩ (.o 0) (.cells (mC (.box (cTr s)) (.ptr (.o q) 0) vc0 kc m.out m.steps fu fc))).ou) hw2 (.bind id v e q y ec h3 (hvy.mo (h1.mo nm)) (he.mo (h1.mo nm))) (hk.mo (h1.mo nm)) h0.ids.2.2.1 hfc rfl rfl (fun _=>rfl)
  refine AFn.fin' rfl (WkF.refl _) (by simp) hM.ok ⟨rfl,H1,nm,_,?_,h1.mo nm,hM⟩
  unfold kidM
  rw[if_neg (show ¬(Fm.mk t e [v]).done.length < opdN (Fm.mk t e [v]).t by simp[hop]),if_pos (show (Fm.mk t e [v]).t.op=4 from h4)]
  simp only[Fm.done_mk,Fm.t_mk,Fm.e_mk,hbn]
  rw[List.getD_eq_getElem?_getD,hs]
  rfl
end
theorem setXs(N:Nat)(lo:List (Nat×AObj))(mc mc':List AC)(n:Nat)(ou:Outer):(⟨N,lo,ouX mc n ou⟩:St).set (.o 0) (.cells mc')=⟨N,lo,ouX mc' n ou⟩:=by
 have:=setX mc mc' n ou
 simp only[St.set,St.mk.injEq,true_and]at this ⊢
 exact this
def GrS (mc:List AC)(n:Nat)(ou0:Outer)(H:Hm)(mc':List AC)(L:Nat×List (Nat×AObj))(R:FV->Hm->Prop):FV->St->Prop:=fun v σ=>∃ou1 H1,σ=⟨L.1,L.2,ouX mc' n ou1⟩/\Gro (ouX mc n ou0) H (ouX mc n ou1) H1/\R v H1
theorem GrS.of{mc:List AC}{n:Nat}{ou0 ou':Outer}{H H1:Hm}{L:Nat×List (Nat×AObj)}{R:FV->Hm->Prop}{v:FV}(g:Gro (ouX mc n ou0) H ou' H1)(h:R v H1):GrS mc n ou0 H mc L R v ⟨L.1,L.2,ou'⟩:=by
 have e:=Q7o (n:=n) (g.old 0 _ rfl)
 refine⟨ou',H1,by rw[←e],?_,h⟩
 rw[←e];exact g
section
variable {fu:Int}{fc:FcT}{fns:List Fun}{ou:Outer}{H:Hm}{nm:Nm2}{m:Ms}{tc0 ec0 vc0 kc:AC}{t:Tr}{e:En}{d:List Vl}{k:List Fm}{ec:AC}{dc:List (List AC)}
theorem Qai{tag:Int}{fs:List Vl}{e:En}{kids:List Tr}{a:Alt}{al:List Alt}{i:Nat}(h:al.drop i=a::al.drop (i+1))(h1:a.tag≠tag)(h2:a.tag≠-1):Q19 tag fs e kids i (al.drop i)=Q19 tag fs e kids (i+1) (al.drop (i+1)):=by
 rw[h,Q19,if_neg h1,if_neg h2]
theorem Qe5{v:Vl}(h:∀g fs,v≠.obj g fs):Q2b m t e v=.error 5:=by cases v <;> first|rfl|exact absurd rfl (h _ _)
theorem Qh1(hΓ:∀g cs,(g,cs)∈Γ->idsL isO cs)(h0:M0 fu fc ou H nm m tc0 ec0 vc0 kc)(hfc:fc.ids isO)(he:ER H nm e ec)(hd:VsR H nm d dc)(hk:KR H nm k kc){v:Vl}(hdv:d[0]?=some v)(hkl:t.kids.length=1+t.alts.length)(hal:t.alts.length<=1048576)(hbl:∀a∈t.alts,a.binds.length<=1048576)(nx:AC)(hnx:nx.ids isO):
  AFnP Tryz.prog Γ 108 [.one (.ptr (.o 0) 0),.one (.box [.box (cTr t),ec,.sl 1 dc,nx])] ou (StQ fu fc H nm (Q2b { m with k:=k } t e v)) (StP m (Q2b { m with k:=k } t e v)):=by
 have hoX:=h0.ouX
 have hei:=he.ids
 have hdi:=hd.ids
 have hki:=hk.ids
 have hpr:=h0.pr
 obtain⟨y,hy,hvy⟩:=hd.get hdv
 have hyi:=hvy.ids
 rw[hoX]at hpr ⊢
 have hw:=h0.w
 rw[hoX]at hw
 generalize hmc:ou=ou0 at hw hpr
 clear hoX
 refine AFnP.walk 120 tabOk hΓ Tryz.func108 rfl (by kernel_rfl) rfl rfl fun hou=>?_
 refine zA ?_
 refine zS (zIA rfl rfl rfl (by decide) hy) ?_
 refine zA ?_
 rcases hvy.isObj with ⟨g,fs,cs,rfl,rfl,hfs⟩|⟨ho,hno⟩
 ·refine zS (AStep.assertYes Q3i rfl rfl) ?_
  have hci:=hfs.ids
  have hcl:=hfs.len
  have hfcell:(FV.one (.box [.box (cTr t),ec,.sl 1 dc,nx])).ids isO:=⟨by simp,hei,hdi,hnx,trivial⟩
  have hocell:(FV.one (.box [int g,.sl 1 cs])).ids isO:=⟨trivial,hci,trivial⟩
  refine zA ?_
  refine ACode.loopR hΓ (α:=Nat) (fun i=>[(30,.one (int i)),(29,.one (int (t.alts.map cAlt).length)),(28,.one (.sl 2 (t.alts.map cAlt))),(4,.one (.box [int g,.sl 1 cs])),(1,.one (.box [.box (cTr t),ec,.sl 1 dc,nx])),(0,.one (.ptr (.o 0) 0))])
   (fun i => ⟨0, [], ouX (mC tc0 ec0 vc0 kc m.out m.steps fu fc) m.out.length ou0⟩) (fun n i => i <= t.alts.length /\ Q19 g fs e t.kids i (t.alts.drop i) = Q19 g fs e t.kids 0 t.alts /\ n = t.alts.length - i) (a0 := 0) (ρ := _root_.id) ⟨by simp, by simp, rfl⟩
   (LessR.of rfl zFW (by simp [Q2a hei, Q49 hdi, Q2a hnx, Q49 hci]) zLO rfl rfl hou) fun n i hi => ?_
  obtain⟨hil,hch,rfl⟩:=hi
  refine zA ?_
  refine ACode.cond rfl (fun hb2=>?_) (fun hb2=>?_)
  ·have hlt:i < t.alts.length:=by simpa using hb2
   clear hb2
   obtain⟨a,ha⟩:=Q01 hlt
   have hdr:t.alts.drop i=a::t.alts.drop (i+1):=by
    rw[List.drop_eq_getElem_cons hlt]
    congr 1
    exact Option.some.inj ((List.getElem?_eq_getElem hlt).symm.trans ha)
   refine zA ?_
   refine zS (zIA rfl rfl rfl (by omega) (Q06 ha)) ?_
   refine zA ?_
   have hk1:1+i < t.kids.length:=by omega
   obtain⟨s,hs⟩:=Q01 hk1
   have hsc:(Q1j t.kids)[1+i]?=some [.box (cTr s)]:=Q21 hs
   have hgd:t.kids.getD (1+i) default=s:=by rw[List.getD_eq_getElem?_getD,hs];rfl
   have hadd:Q3c .i64 ((1:Int)+(i:Int)):=Q29 (by omega) (by omega)
   have hix:(Q1j t.kids)[((1:Int)+(i:Int)).toNat]?=some [.box (cTr s)]:=by rw[show ((1:Int)+(i:Int)).toNat=1+i by omega];exact hsc
   by_cases htag:a.tag=g
   ·refine ACode.drawX tabOk 18 [(6,.one (.lit (.bool true)))] follows (by kernel_rfl) rfl rfl rfl rfl ?_ ?_
    ·exact .step rfl (HStep.litB tabOk rfl (by simp[htag])) .nil
    refine zA ?_
    refine ACode.cond rfl (fun hb3=>?_) (fun hb3=>?_)
    ·refine zA ?_
     refine zS (AStep.mkIfcA Q0k rfl rfl) ?_
     refine AOps.panicI rfl rfl rfl fun w C v hv=>⟨hou,5,?_,Q0l hv,hpr⟩
     unfold Q2b
     simp only[←hch]
     rw[hdr,Q19,if_pos htag,if_neg (by simp[hcl]at hb3;omega)]
     rfl
    ·have hlen:a.binds.length=fs.length:=by simp[hcl]at hb3;omega
     refine zA ?_
     refine ACode.drawX tabOk 7 [(6,.one (.lit (.bool true)))] follows (by kernel_rfl) rfl rfl rfl rfl ?_ ?_
     ·exact .step rfl (HStep.litB tabOk rfl (by simp[htag])) .nil
     refine zA ?_
     refine ACode.drawCS tabOk 27 23 24 25 26 (.one (.ptr (.o 0) 0)) (.one (.ptr (.o 0) 0)) [(10,.one (int ((1:Int)+(i:Int)))),(11,.one (.box [.box (cTr s)]))]
      (GrS (mC tc0 ec0 vc0 kc m.out m.steps fu fc) m.out.length ou0 H (mC tc0 ec0 vc0 kc m.out m.steps fu fc) (1,[(0,.cells (cAlt a)),(0,.cells [int 0,.lit (.slice none 0 0)])]) fun v H1=>∃c,v=.one c/\ER H1 nm (allE e a.binds fs) c)
      (GrS (mC tc0 ec0 vc0 kc m.out m.steps fu fc) m.out.length ou0 H (mC (.box (cTr s)) ec0 vc0 kc m.out m.steps fu fc) (1,[(0,.cells (cAlt a)),(0,.cells [int 0,.lit (.slice none 0 0)])]) fun v H1=>∃c,v=.one c/\ER H1 nm (allE e a.binds fs) c)
      follows (by kernel_rfl) rfl rfl (by decide) (by kernel_rfl) (by kernel_rfl) rfl rfl rfl rfl rfl rfl rfl ?_ ?_ ?_ ?_ ?_ ?_ ?_ ?_ ?_ ?_
     ·rintro v σ ⟨ou1,H1,rfl,_,_⟩;rfl
     ·rintro v σ ⟨ou1,H1,rfl,_,_⟩;rfl
     ·exact⟨⟨_,rfl,AStep.arith rfl rfl rfl (.inl ⟨rfl,rfl⟩) hadd⟩,⟨_,rfl,zIA rfl rfl rfl (by omega) hix⟩,trivial⟩
     ·rintro v σ ⟨ou1,H1,rfl,_,_⟩
      exact⟨⟨_,rfl,AStep.arith rfl rfl rfl (.inl ⟨rfl,rfl⟩) hadd⟩,⟨_,rfl,zIA rfl rfl rfl (by omega) hix⟩,trivial⟩
     ·rintro v σ ⟨ou1,H1,rfl,_,_⟩
      exact⟨⟨_,rfl,AStep.arith rfl rfl rfl (.inl ⟨rfl,rfl⟩) hadd⟩,⟨_,rfl,zIA rfl rfl rfl (by omega) hix⟩,trivial⟩
     ·refine Q0u.ofR (Q0y.call hΓ rfl rfl rfl rfl ⟨hei,by simp,hci,trivial⟩ hw.ok (Qal hΓ he hfs hlen (hbl a (List.mem_of_getElem? ha)) _ hw.inO) fun r ou' hq hr ho=>?_)
      obtain⟨H1,c,rfl,hg,hec⟩:=hq
      exact GrS.of hg ⟨c,rfl,hec⟩
     ·rintro v σ ⟨ou1,H1,rfl,_,_,rfl,_⟩;exact AStep.ofOp tabOk rfl
     ·rintro v σ ⟨ou1,H1,rfl,_,_,rfl,_⟩;exact AStep.ofOp tabOk rfl
     ·rintro v σ ⟨ou1,H1,rfl,h1,h2⟩;exact⟨_,⟨ou1,H1,setXs _ _ _ _ _ _,h1,h2⟩,AStep.ofStore tabOk rfl⟩
     ·rintro v' σ ⟨ou1,H1,rfl,h1,c,rfl,h3⟩
      refine zA ?_
      have hw2:=hw.gro h1 (by simp[ouX]) (by simp[ouX])
      have hM:MR fu fc _ H1 nm { m with c:=.ev s (allE e a.binds fs),k:=k }:=MR.ofEv (ou':=(St.set ⟨0,[],ouX (mC (.box (cTr s)) ec0 vc0 kc m.out m.steps fu fc) m.out.length ou1⟩ (.o 0) (.cells (mC (.box (cTr s)) c vc0 kc m.out m.steps fu fc))).ou) hw2 h3 (hk.mo (h1.mo nm)) h0.ids.2.2.1 hfc rfl rfl (fun _=>rfl)
      refine AFn.fin' rfl (WkF.refl _) (by simp) hM.ok ⟨rfl,H1,nm,_,?_,h1.mo nm,hM⟩
      unfold Q2b
      simp only[←hch]
      rw[hdr,Q19,if_pos htag,if_pos hlen,hgd]
      rfl
   ·refine ACode.drawX tabOk 18 [(6,.one (.lit (.bool false)))] follows (by kernel_rfl) rfl rfl rfl rfl ?_ ?_
    ·exact .step rfl (HStep.litB tabOk rfl (by simp[htag])) .nil
    refine zA ?_
    refine ACode.drawX tabOk 7 [(6,.one (.lit (.bool false)))] follows (by kernel_rfl) rfl rfl rfl rfl ?_ ?_
    ·exact .step rfl (HStep.litB tabOk rfl (by simp[htag])) .nil
    refine zA ?_
    refine ACode.cond rfl (fun hb3=>?_) (fun hb3=>?_)
    ·have h1:a.tag=-1:=by simpa using hb3
     refine zA ?_
     refine ACode.drawSt tabOk 20 19 [(10,.one (int ((1:Int)+(i:Int)))),(11,.one (.box [.box (cTr s)]))] _ follows (by kernel_rfl) rfl rfl (by kernel_rfl) rfl ?_ rfl rfl rfl rfl ?_ ?_ (AStep.ofStore tabOk rfl) ?_
     ·rfl
     ·exact⟨⟨_,rfl,AStep.arith rfl rfl rfl (.inl ⟨rfl,rfl⟩) hadd⟩,⟨_,rfl,zIA rfl rfl rfl (by omega) hix⟩,trivial⟩
     ·exact⟨⟨_,rfl,AStep.arith rfl rfl rfl (.inl ⟨rfl,rfl⟩) hadd⟩,⟨_,rfl,zIA rfl rfl rfl (by omega) hix⟩,trivial⟩
     refine zA ?_
     have hM:MR fu fc _ H nm { m with c:=.ev s e,k:=k }:=MR.ofEv (ou':=(St.set (St.set ⟨0,[],ouX (mC tc0 ec0 vc0 kc m.out m.steps fu fc) m.out.length ou0⟩ (.o 0) (.cells (mC (.box (cTr s)) ec0 vc0 kc m.out m.steps fu fc))) (.o 0) (.cells (mC (.box (cTr s)) ec vc0 kc m.out m.steps fu fc))).ou) hw he hk h0.ids.2.2.1 hfc rfl rfl (fun _=>rfl)
     refine AFn.fin' rfl (WkF.refl _) (by simp) hM.ok ⟨rfl,H,nm,_,?_,.refl _ _,hM⟩
     unfold Q2b
     simp only[←hch]
     rw[hdr,Q19,if_neg htag,if_pos h1,hgd]
     rfl
    ·have h1:a.tag≠-1:=by simpa using hb3
     refine zM ?_
     exact cInv ⟨t.alts.length - (i+1),i+1,fun k=>k,by omega,⟨by omega,by rw[←Qai hdr htag h1];exact hch,rfl⟩,LessR.of rfl zFW (by simp[Q2a hei,Q49 hdi,Q2a hnx,Q49 hci]) zLO rfl rfl hou⟩
  ·have hlt:i=t.alts.length:=by simp at hb2;omega
   subst hlt
   refine zA ?_
   refine zS (AStep.mkIfcA Q0k rfl rfl) ?_
   refine AOps.panicI rfl rfl rfl fun w C v hv=>⟨hou,3,?_,Q0l hv,hpr⟩
   rw[List.drop_length]at hch
   unfold Q2b
   simp only[←hch,Q19]
   rfl
 ·refine zS (AStep.assertNo Q3i rfl zObj rfl rfl hno) ?_
  refine zA ?_
  refine zS (AStep.mkIfcA Q0k rfl rfl) ?_
  refine AOps.panicI rfl rfl rfl fun w C v hv=>⟨hou,5,?_,Q0l hv,hpr⟩
  exact Qe5 ho
end
end Go.Proofs.YtkgjldchcbfpnaaGreatDoor
