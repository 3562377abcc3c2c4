/- The evaluator al plain data: values, environments, frames, and the machine's steps. No condition. -/
import Derived.Test.YtlmokgooijbcdaaGreatDoorE4
import Derived.LaidEqlPtr
import Derived.KernelRfl
import Derived.Test.YtlmokgooijbcdaaGreatDoorRows
import Derived.Lib.LaidTab
import Derived.Lib.TrailingZeros
import Derived.Shelf.Spec.TrailingZeros
set_option maxRecDepth 10000
set_option maxHeartbeats 4000000
set_option linter.unusedVariables false
set_option linter.unusedSimpArgs false
theorem Qzx:type_of% @Go.Lib.lowest_bit:=@Go.Lib.lowest_bit
theorem Z3n:type_of% @Option.some.inj:=@Option.some.inj
open Go.Abs.ACode renaming drawCS->Qyo
open Bool renaming eq_iff_iff->Qzd
open Int renaming le_refl->Qzt,tdiv_eq_ediv_of_nonneg->Qzu
open List renaming getD_cons_zero->Z0n,getElem?_eq_none->Z0u,mem_of_mem_drop->Z1z,mem_singleton->Z23,range_succ->Z2a,set_append_right->Z2d
open Nat renaming and_le_right->Z2u,mul_one->Z36,sub_self->Z37,testBit_and->Z39
open Option renaming getD_some->Z3i
open Go.Proofs.Tryz renaming func111->Z3w,func113->Z3x,func173->Z3z
open Go Go.Abs Go.CoreX
variable {n' i k q g kt0 j f:Nat}{fu:Int}{a b:List Nat}{o:Oper}{C:Ctx}{v:Value}{c ec vc kc:AC}{ou ou1 ou2 ou' ou0:Outer}{cs:List (List AC)}{mc mc':List AC}{s:Tr}{E:Env}{K:Cont}{fr:Fr}{σ σ':St}{L:List (Nat×Nat)}{args:List FV}{x y:Operand}{tj:TI}{hi:Bool}{α H:Type}{yt:TypeId}
namespace Go.CoreX
mutual
inductive Vl where
 |nil
 |word (n:Int)
 |clo (t:Tr) (e:En)
 |obj (tag:Int) (fs:List Vl)
 |row (ls:List Int) (fs:List Vl)
 |arr (a:Nat)
 |res (fs:List Fm)
 |cap (fn:Int) (slots:List Vl)
inductive En where
 |nil
 |bind (id:Int) (v:Vl) (next:En)
 |recs (t:Tr) (next:En)
inductive Fm where
 |mk (t:Tr) (e:En) (done:List Vl)
end
instance:Inhabited Vl:=⟨.nil⟩
instance:Inhabited Fm:=⟨.mk default .nil []⟩
def Fm.t:Fm->Tr|.mk t _ _=>t
def Fm.e:Fm->En|.mk _ e _=>e
def Fm.done:Fm->List Vl|.mk _ _ d=>d
@[simp] theorem Qu7 (t e d):(Fm.mk t e d).t=t:=rfl
@[simp] theorem Qu8 (t e d):(Fm.mk t e d).e=e:=rfl
@[simp] theorem Qu9 (t e d):(Fm.mk t e d).done=d:=rfl
def Qab (l:List Int)(id:Int):Nat->Option Nat
 |0=>none
 |i+1=>if l.getD i 0=id then some i else Qab l id i
def findE (id:Int):En->Vl
 |.nil=>.nil
 |.bind i v n=>if i=id then v else findE id n
 |.recs t n=>match Qab t.binds id t.binds.length with
  |some i=>.clo (t.kids.getD i default) (.recs t n)
  |none=>findE id n
def allE (e:En):List Int->List Vl->En
 |id::ids,l=>allE (.bind id (l.headD .nil) e) ids l.tail
 |[],_=>e
inductive Ctl where
 |ev (t:Tr) (e:En)
 |rt (v:Vl)
structure Ms where
 c:Ctl
 k:List Fm
 out:List Int
 steps:Int
 heap:List (List Vl)
structure Fun where
 params:List Int
 body:Tr
def condV (b:Bool):Vl:=.obj (if b then 1 else 0) []
def wrapW (n:Int):Int:=(n+1073741824) % 2147483648 - 1073741824
def wordV:Vl->Except Int Int
 |.word n=>.ok n
 |_=>.error 5
def Qmc (h:List (List Vl)):Vl->Except Int (Nat×List Vl)
 |.arr a=>.ok (a,h.getD a [])
 |_=>.error 5
def rowsV:Vl->Except Int (List Int×List Vl)
 |.row ls fs=>.ok (ls,fs)
 |_=>.error 5
def bsGo (l:List Int)(x:Int):Nat->Nat->Nat->Nat
 |0,i,_=>i
 |g+1,i,j=>if i < j then (if l.getD ((i+j) / 2) 0 < x then bsGo l x g ((i+j) / 2+1) j else bsGo l x g i ((i+j) / 2))else i
def bsAt (l:List Int)(x:Int):Nat:=bsGo l x l.length 0 l.length
def bsIs (l:List Int)(x:Int):Bool:=decide (bsAt l x < l.length)&&l.getD (bsAt l x) 0==x
def Qik (fu:Int)(m:Ms)(many:Int)(v:Vl):Except Int (Ms×Vl):=
 if many < 0∨1024 < many then .error 6 else if fu - m.steps < many then .error (-1) else
 .ok ({ m with steps:=m.steps+many,heap:=m.heap++[List.replicate many.toNat v] },.arr m.heap.length)
def Qdm (m:Ms)(n:Int)(l:List Vl):Except Int (Ms×Vl):=do
 let (a,its) ←Qmc m.heap (l.getD 0 .nil)
 if n=9 then return (m,.word its.length)
 let i ←wordV (l.getD 1 .nil)
 if i < 0∨(its.length:Int)<=i then .error 2
 else if n=10 then return (m,its.getD i.toNat .nil)
 else return ({ m with heap:=m.heap.set a (its.set i.toNat (l.getD 2 .nil)) },.obj 0 [])
def primM (fu:Int)(m:Ms)(n:Int)(l:List Vl):Except Int (Ms×Vl):=
 if n=0 then do return (m,.word (wrapW ((←wordV (l.getD 0 .nil))+(←wordV (l.getD 1 .nil))))) else
 if n=1 then do return (m,.word (wrapW ((←wordV (l.getD 0 .nil)) - (←wordV (l.getD 1 .nil))))) else
 if n=2 then do return (m,.word (wrapW ((←wordV (l.getD 0 .nil)) * (←wordV (l.getD 1 .nil))))) else
 if n=3 then do
  let a ←wordV (l.getD 0 .nil)
  let b ←wordV (l.getD 1 .nil)
  if b=0 then .error 1 else return (m,.word (wrapW (a.tdiv b))) else
 if n=4 then do
  let a ←wordV (l.getD 0 .nil)
  let b ←wordV (l.getD 1 .nil)
  if b=0 then .error 1 else return (m,.word (a.tmod b)) else
 if n=5 then do return (m,condV (decide ((←wordV (l.getD 0 .nil)) < (←wordV (l.getD 1 .nil))))) else
 if n=6 then do return (m,condV (decide ((←wordV (l.getD 0 .nil))=(←wordV (l.getD 1 .nil))))) else
 if n=7 then do
  let a ←wordV (l.getD 0 .nil)
  if m.out.length=1000 then .error 6 else return ({ m with out:=m.out++[a] },.obj 0 []) else
 if n=8 then do
  let a ←wordV (l.getD 0 .nil)
  Qik fu m a (l.getD 1 .nil) else
 Qdm m n l
def withR (ls:List Int)(fs:List Vl)(n:Int)(v:Vl):Vl:=
 if bsIs ls n then .row ls (fs.set (bsAt ls n) v)
 else .row (ls.take (bsAt ls n)++n::ls.drop (bsAt ls n)) (fs.take (bsAt ls n)++v::fs.drop (bsAt ls n))
def Q57 (fu:Int)(m:Ms)(t:Tr)(l:List Vl):Except Int (Ms×Vl):=
 if t.op=6 then .ok (m,.obj t.n l) else
 if t.op=8 then primM fu m t.n l else
 if t.op=9 then .ok (m,.row t.binds l) else
 if t.op=10 then do
  let (ls,fs) ←rowsV (l.getD 0 .nil)
  if bsIs ls t.n then return (m,fs.getD (bsAt ls t.n) .nil)else .error 3
 else do
  let (ls,fs) ←rowsV (l.getD 0 .nil)
  return (m,withR ls fs t.n (l.getD 1 .nil))
def opdN (t:Tr):Nat:=if t.op=4∨t.op=7∨t.op=13∨t.op=12 then 1 else t.kids.length
def Q21 (tag:Int)(fs:List Vl)(e:En)(kids:List Tr):Nat->List Alt->Except Int Ctl
 |_,[]=>.error 3
 |i,a::al=>if a.tag=tag then (if a.binds.length=fs.length then .ok (.ev (kids.getD (1+i) default) (allE e a.binds fs))else .error 5)
  else if a.tag=-1 then .ok (.ev (kids.getD (1+i) default) e)else Q21 tag fs e kids (i+1) al
def Q3g (m:Ms)(t:Tr)(e:En)(v:Vl):Except Int Ms:=
 match v with
 |.obj tag fs=>(Q21 tag fs e t.kids 0 t.alts).map fun c=>{ m with c:=c }
 |_=>.error 5
def callM (fns:List Fun)(m:Ms)(f:Vl)(args:List Vl):Except Int Ms:=
 match f with
 |.clo t e=>if t.binds.length=args.length then .ok { m with c:=.ev (t.kids.getD 0 default) (allE e t.binds args) }else .error 5
 |.cap n slots=>if (fns.getD n.toNat ⟨[],default⟩).params.length=args.length+1 then .ok { m with c:=.ev (fns.getD n.toNat ⟨[],default⟩).body (allE .nil (fns.getD n.toNat ⟨[],default⟩).params (.cap n slots::args)) }else .error 5
 |.res fs=>match args with
  |[a]=>.ok { m with c:=.rt a,k:=fs++m.k }
  |_=>.error 5
 |_=>.error 5
def Q9k (op:Int):Nat->List Alt->Option Nat
 |_,[]=>none
 |i,a::al=>if a.tag=op/\0 < i then some i else Q9k op (i+1) al
def Q47 (m:Ms)(op:Int)(v:Vl):List Fm->List Fm->Except Int Ms
 |_,[]=>.error 4
 |l,f::k=>match (if f.t.op=13 then Q9k op 0 f.t.alts else none) with
  |some i=>.ok { m with c:=.ev (f.t.kids.getD (1+i) default) (.bind ((f.t.alts.getD i ⟨0,[]⟩).binds.getD 1 0) (.res (l++[f])) (.bind ((f.t.alts.getD i ⟨0,[]⟩).binds.getD 0 0) v f.e)),k:=k }
  |none=>Q47 m op v (l++[f]) k
def kidM (fu:Int)(fns:List Fun)(m:Ms)(f:Fm)(k:List Fm):Except Int Ms:=
 if f.done.length < opdN f.t then .ok { m with c:=.ev (f.t.kids.getD f.done.length default) f.e,k:=f::k } else
 if f.t.op=4 then .ok { m with c:=.ev (f.t.kids.getD 1 default) (.bind (f.t.binds.getD 0 0) (f.done.getD 0 .nil) f.e),k:=k } else
 if f.t.op=7 then Q3g { m with k:=k } f.t f.e (f.done.getD 0 .nil) else
 if f.t.op=3 then callM fns { m with k:=k } (f.done.getD 0 .nil) (f.done.drop 1) else
 if f.t.op=13 then .ok { m with c:=.ev (f.t.kids.getD 1 default) (.bind ((f.t.alts.getD 0 ⟨0,[]⟩).binds.getD 0 0) (f.done.getD 0 .nil) f.e),k:=k } else
 if f.t.op=12 then Q47 m f.t.n (f.done.getD 0 .nil) [] k else
 if f.t.op=14 then .ok { m with c:=.ev (fns.getD f.t.n.toNat ⟨[],default⟩).body (allE .nil (fns.getD f.t.n.toNat ⟨[],default⟩).params f.done),k:=k } else
 if f.t.op=15 then .ok { m with c:=.rt (.cap f.t.n f.done),k:=k } else
 if f.t.op=16 then (match f.done.getD 0 .nil with
  |.cap _ slots=>if f.t.n < slots.length then .ok { m with c:=.rt (slots.getD f.t.n.toNat .nil),k:=k }else .error 5
  |_=>.error 5) else
 (Q57 fu { m with k:=k } f.t f.done).map fun (m',v)=>{ m' with c:=.rt v }
def Q2z (fu:Int)(fns:List Fun)(m:Ms)(t:Tr)(e:En):Except Int Ms:=
 if t.op=0 then .ok { m with c:=.rt (findE t.n e) } else
 if t.op=1 then .ok { m with c:=.rt (.word t.n) } else
 if t.op=2 then .ok { m with c:=.rt (.clo t e) } else
 if t.op=17 then .error t.n else
 if t.op=5 then .ok { m with c:=.ev (t.kids.getD t.binds.length default) (.recs t e) } else
 kidM fu fns m (.mk t e []) m.k
inductive Rd where
 |next (m:Ms)
 |done (m:Ms) (v:Vl)
 |fuel
 |trap (code:Int) (m:Ms)
def Q1n (fu:Int)(fns:List Fun)(m:Ms):Rd:=
 match m.c with
 |.rt v=>match m.k with
  |[]=>.done m v
  |f::k=>match kidM fu fns m (.mk f.t f.e (f.done++[v])) k with
   |.ok m'=>.next m'
   |.error c=>.trap c m
 |.ev t e=>if m.steps=fu then .fuel else
  match Q2z fu fns { m with steps:=m.steps+1 } t e with
  |.ok m'=>.next m'
  |.error c=>.trap c { m with steps:=m.steps+1 }
structure Rs where
 out:List Int
 fin:Int
 val:Int
 steps:Int
 err:Int
 deriving DecidableEq
def lastV:Vl->Int
 |.word n=>n
 |.obj t _=>t
 |_=>0
def noFuel:Rs:=⟨[],0,0,0,13⟩
def goM (fu:Int)(fns:List Fun):Nat->Ms->Option Rs
 |0,_=>none
 |g+1,m=>match Q1n fu fns m with
  |.next m'=>goM fu fns g m'
  |.done m v=>some ⟨m.out,0,lastV v,m.steps,0⟩
  |.fuel=>some noFuel
  |.trap c m=>some (if c < 0 then noFuel else ⟨m.out,c,0,m.steps,0⟩)
inductive Rn (fu:Int)(fns:List Fun):Nat->Ms->Ms->Prop
 |zero (m:Ms):Rn fu fns 0 m m
 |succ {n:Nat}{m m1 m':Ms}(h:Q1n fu fns m=.next m1) (k:Rn fu fns n m1 m'):Rn fu fns (n+1) m m'
section
variable {fu:Int}{fns:List Fun}
theorem Rn.trans{n:Nat}{m m1 m2:Ms}(a:Rn fu fns n m m1)(b:Rn fu fns n' m1 m2):Rn fu fns (n'+n) m m2:=by
 induction a with
 |zero m=>exact b
 |succ h k ih=>exact .succ h (ih b)
theorem Rn.go{n:Nat}{m m':Ms}(a:Rn fu fns n m m')(g:Nat):goM fu fns (g+n) m=goM fu fns g m':=by
 induction a with
 |zero m=>rfl
 |succ h k ih=>
  rw[←Z2p,goM,h];exact ih
def Rs' (fu:Int)(fns:List Fun)(m m':Ms):Prop:=∃n,Rn fu fns n m m'
theorem Rs'.trans{m m1 m2:Ms}(a:Rs' fu fns m m1)(b:Rs' fu fns m1 m2):Rs' fu fns m m2:=by obtain⟨n,a⟩:=a;obtain⟨k,b⟩:=b;exact⟨_,a.trans b⟩
theorem Rs'.one{m m1 m2:Ms}(h:Q1n fu fns m=.next m1)(b:Rs' fu fns m1 m2):Rs' fu fns m m2:=by obtain⟨k,b⟩:=b;exact⟨_,.succ h b⟩
end
end Go.CoreX
namespace Go.CoreX
section
variable {fu:Int}{fns:List Fun}
def tV (n:Int):Tr:=.mk 0 n [] [] []
def tW (n:Int):Tr:=.mk 1 n [] [] []
end
end Go.CoreX
namespace Go.CoreX
mutual
def szV:Vl->Nat
 |.res fs=>szFs fs
 |_=>0
def szVs:List Vl->Nat
 |[]=>0
 |v::vs=>szV v+szVs vs
def szF:Fm->Nat
 |.mk _ _ d=>1+szVs d
def szFs:List Fm->Nat
 |[]=>0
 |f::fs=>szF f+szFs fs
end
theorem Qof(a b:List Fm):szFs (a++b)=szFs a+szFs b:=by
 induction a with
 |nil=>simp[szFs]
 |cons x a ih=>simp[szFs,ih];omega
def phase (m:Ms):Nat:=match m.c with
 |.ev _ _=>0
 |.rt _=>1+szFs m.k
structure After (fu:Int)(m m':Ms)(b:Nat):Prop where
 ge:m.steps<=m'.steps
 le:m.steps<=fu->m'.steps<=fu
 ph:phase m' < 1+b
theorem Qc7{tag:Int}{fs:List Vl}{e:En}{kids:List Tr}{c:Ctl}:∀(i:Nat)(l:List Alt),Q21 tag fs e kids i l=.ok c->∃t e',c=.ev t e'
 |_,[],h=>by cases h
 |i,a::al,h=>by
  unfold Q21 at h;split at h
  ·split at h
   ·cases h;exact⟨_,_,rfl⟩
   ·cases h
  ·split at h
   ·cases h;exact⟨_,_,rfl⟩
   ·exact Qc7 _ al h
theorem Qa0{m m':Ms}{op:Int}{v:Vl}:∀(l k:List Fm),Q47 m op v l k=.ok m'->(∃t e',m'.c=.ev t e')/\m'.steps=m.steps
 |_,[],h=>by cases h
 |l,f::k,h=>by
  unfold Q47 at h;split at h
  ·cases h;exact⟨⟨_,_,rfl⟩,rfl⟩
  ·exact Qa0 _ k h
theorem Qfx{m m':Ms}{n:Int}{l:List Vl}{v:Vl}(h:primM fu m n l=.ok (m',v)):m.steps<=m'.steps/\(m.steps<=fu->m'.steps<=fu)/\m'.k=m.k:=by
 have bd:∀{α β:Type}{x:Except Int α}{f:α->Except Int β}{r:β},x.bind f=.ok r->∃a,x=.ok a/\f a=.ok r:=by
  intro α β x f r hh;cases x with
  |error c=>cases hh
  |ok a=>exact⟨a,rfl,hh⟩
 unfold primM at h;repeat' split at h
 all_goals try (simp only[bind,Except.bind,pure,Except.pure]at h;repeat' split at h)
 all_goals try (cases h;done)
 all_goals try (cases h;exact⟨Qzt _,id,rfl⟩)
 ·unfold Qik at h;repeat' split at h
  all_goals try (cases h;done)
  cases h;refine⟨?_,?_,rfl⟩ <;> simp <;> omega
 ·unfold Qdm at h;simp only[bind,Except.bind,pure,Except.pure]at h;repeat' split at h
  all_goals try (cases h;done)
  all_goals (cases h;exact⟨Qzt _,id,rfl⟩)
theorem Q5i{m m':Ms}{t:Tr}{l:List Vl}{v:Vl}(h:Q57 fu m t l=.ok (m',v)):m.steps<=m'.steps/\(m.steps<=fu->m'.steps<=fu)/\m'.k=m.k:=by
 unfold Q57 at h;repeat' split at h
 ·cases h;exact⟨Qzt _,id,rfl⟩
 ·exact Qfx h
 ·cases h;exact⟨Qzt _,id,rfl⟩
 ·simp only[bind,Except.bind,pure,Except.pure]at h;repeat' split at h
  all_goals try (cases h;done)
  all_goals (cases h;exact⟨Qzt _,id,rfl⟩)
 ·simp only[bind,Except.bind,pure,Except.pure]at h;repeat' split at h
  all_goals try (cases h;done)
  all_goals (cases h;exact⟨Qzt _,id,rfl⟩)
theorem Q87{fns:List Fun}{m m':Ms}{f:Fm}{k:List Fm}(h:kidM fu fns m f k=.ok m')(d0:List Vl)(v:Vl)(hd:f.done=d0++[v]∨(f.done=[]/\d0=[])):After fu m m' (1+szVs d0+szFs k):=by
 unfold kidM at h;split at h
 ·cases h;exact⟨Qzt _,id,by simp[phase];omega⟩
 split at h
 ·cases h;exact⟨Qzt _,id,by simp[phase];omega⟩
 split at h
 ·unfold Q3g at h;split at h
  ·cases hc:Q21 _ _ f.e f.t.kids 0 f.t.alts with
   |error c=>rw[hc]at h;cases h
   |ok c=>
    rw[hc]at h;obtain⟨t,e',rfl⟩:=Qc7 _ _ hc;cases h;exact⟨Qzt _,id,by simp[phase];omega⟩
  ·cases h
 split at h
 ·unfold callM at h;split at h
  ·split at h
   ·cases h;exact⟨Qzt _,id,by simp[phase];omega⟩
   ·cases h
  ·split at h
   ·cases h;exact⟨Qzt _,id,by simp[phase];omega⟩
   ·cases h
  ·rename_i fs hf;split at h
   ·rename_i a ha;cases h;refine⟨Qzt _,id,?_⟩;simp only[phase,Qof];rcases hd with hd|⟨hd,_⟩
    ·rw[hd]at hf ha;have:d0=[.res fs]:=by
      have hl:=congrArg List.length ha;simp at hl
      match d0,hl with
      |[x],_=>simp at hf;rw[hf]
     subst this;simp[szVs,szV]
    ·rw[hd]at ha;cases ha
   ·cases h
  ·cases h
 split at h
 ·cases h;exact⟨Qzt _,id,by simp[phase];omega⟩
 split at h
 ·obtain⟨⟨t,e',hc⟩,hs⟩:=Qa0 _ _ h;refine⟨by rw[hs];exact Qzt _,fun hh=>by rw[hs];exact hh,?_⟩;simp[phase,hc];omega
 split at h
 ·cases h;exact⟨Qzt _,id,by simp[phase];omega⟩
 split at h
 ·cases h;exact⟨Qzt _,id,by simp[phase];omega⟩
 split at h
 ·split at h
  ·split at h
   ·cases h;exact⟨Qzt _,id,by simp[phase];omega⟩
   ·cases h
  ·cases h
 ·cases hp:Q57 fu { m with k:=k } f.t f.done with
  |error c=>rw[hp]at h;cases h
  |ok mv=>
   obtain⟨m2,v2⟩:=mv;rw[hp]at h;cases h;obtain⟨h1,h2,h3⟩:=Q5i hp;refine⟨h1,h2,?_⟩;simp only[phase,h3];omega
structure GP where
 p:Lab->Prop
 S:Int->Prop
 W:Int->Prop
 fns:List Fun
 R:Prop:=True
 RW:List Int->Prop:=fun _=>True
structure GPok (G:GP):Prop where
 sh:∀l,G.p l->shpQ l
 bnd:∀l,G.p l->∀i∈Q0s l.op l.binds l.alts,G.S i
 wd:∀l,G.p l->l.op=1->G.W l.n
 rc:∀l,G.p l->l.op=5->∀i,i < l.binds.length->l.ops[i]?=some 2
 wr:∀n,G.W (wrapW n)
 wl:∀n:Int,0<=n->n<=1024->G.W n
 wm:∀a b:Int,G.W a->G.W b->G.W (a.tmod b)
 fn:∀f∈G.fns,allT G.p f.body/\∀i∈f.params,G.S i
 cl:∀l,G.p l->l.op=14∨l.op=15->0<=l.n/\l.n < G.fns.length
 rs:∀l,G.p l->l.op=12->G.R
 rw:∀l,G.p l->l.op=9->G.RW l.binds:=by intros;exact True.intro
 ri:∀l,G.p l->l.op=11->∀ls,G.RW ls->bsIs ls l.n=false->G.RW (ls.take (bsAt ls l.n)++l.n::ls.drop (bsAt ls l.n)):=by intros;exact True.intro
def nLf (o:Int):Prop:=¬(o=0∨o=1∨o=2∨o=17∨o=5)
mutual
def gV (G:GP):Vl->Prop
 |.nil=>True
 |.word n=>G.W n
 |.clo t e=>t.op=2/\allT G.p t/\gE G e
 |.obj _ fs=>gVs G fs
 |.row ls fs=>ls.length=fs.length/\G.RW ls/\gVs G fs
 |.arr _=>True
 |.res fs=>G.R/\gFs G fs
 |.cap n sl=>(0<=n/\n < G.fns.length)/\gVs G sl
def gVs (G:GP):List Vl->Prop
 |[]=>True
 |v::l=>gV G v/\gVs G l
def gE (G:GP):En->Prop
 |.nil=>True
 |.bind i v n=>G.S i/\gV G v/\gE G n
 |.recs t n=>t.op=5/\allT G.p t/\gE G n
def gF (G:GP):Fm->Prop
 |.mk t e d=>allT G.p t/\gE G e/\gVs G d/\d.length < opdN t/\nLf t.op
def gFs (G:GP):List Fm->Prop
 |[]=>True
 |f::l=>gF G f/\gFs G l
end
def gCv (G:GP):Ctl->Prop
 |.ev t e=>allT G.p t/\gE G e
 |.rt v=>gV G v
structure gM (G:GP)(m:Ms):Prop where
 c:gCv G m.c
 k:gFs G m.k
 h:∀r∈m.heap,r.length<=1024/\gVs G r
section
variable {G:GP}(hG:GPok G)
theorem Q2f:∀{l:List Vl},gVs G l↔∀v∈l,gV G v
 |[]=>by simp[gVs]
 |v::l=>by simp[gVs,Q2f (l:=l)]
theorem Qdb:∀{l:List Fm},gFs G l↔∀v∈l,gF G v
 |[]=>by simp[gFs]
 |v::l=>by simp[gFs,Qdb (l:=l)]
theorem gF_iff{f:Fm}:gF G f↔allT G.p f.t/\gE G f.e/\gVs G f.done/\f.done.length < opdN f.t/\nLf f.t.op:=by cases f;exact Iff.rfl
theorem Q3n{l:List Vl}(h:gVs G l)(i:Nat):gV G (l.getD i .nil):=by
 rw[Z0o];cases hi:l[i]? with
 |none=>simp[gV]
 |some v=>exact Q2f.1 h v (Z1y hi)
theorem Qge{a b:List Vl}(ha:gVs G a)(hb:gVs G b):gVs G (a++b):=Q2f.2 fun v hv=>(Z1m.1 hv).elim (Q2f.1 ha v) (Q2f.1 hb v)
theorem Qgf{a b:List Fm}(ha:gFs G a)(hb:gFs G b):gFs G (a++b):=Qdb.2 fun v hv=>(Z1m.1 hv).elim (Qdb.1 ha v) (Qdb.1 hb v)
theorem Qai:∀{ids:List Int}{l:List Vl}{e:En},gE G e->gVs G l->(∀i∈ids,G.S i)->gE G (allE e ids l)
 |[],_,_,he,_,_=>he
 |i::ids,l,e,he,hl,hs=>by
  refine Qai (ids:=ids) ⟨hs i zsy,?_,he⟩ ?_ fun j hj=>hs j (by simp[hj])
  ·cases l with
   |nil=>simp[gV]
   |cons v l=>exact hl.1
  ·cases l with
   |nil=>simp[gVs]
   |cons v l=>exact hl.2
include hG
theorem g_sh{t:Tr}(h:allT G.p t):ShN t.op t.n t.binds t.kids.length t.alts:=Qkz (Qdp hG.sh t h)
theorem g_bnd{t:Tr}(h:allT G.p t):∀i∈Q0s t.op t.binds t.alts,G.S i:=hG.bnd _ (Q1u h)
theorem Qmx{t:Tr}(h:allT G.p t){a:Alt}(ha:t.alts[i]?=some a):∀j∈a.binds,G.S j:=fun j hj=>g_bnd hG h j (by unfold Q0s;exact Z1m.2 (.inr (Z1u.2 ⟨a,Z1y ha,hj⟩)))
omit hG in
theorem Qen{l:List Int}{id:Int}:∀{n i:Nat},Qab l id n=some i->i < n/\l.getD i 0=id
 |0,_,h=>by cases h
 |n+1,i,h=>by
  unfold Qab at h;split at h
  ·rename_i he;cases h;exact⟨by omega,he⟩
  ·have:=Qen h;exact⟨by omega,this.2⟩
theorem Qpt{t:Tr}(h:allT G.p t)(h5:t.op=5)(hi:i < t.binds.length):(t.kids.getD i default).op=2/\allT G.p (t.kids.getD i default)/\i < t.kids.length:=by
 have h1:=hG.rc _ (Q1u h) h5 i hi;simp only at h1;rw[Z0w]at h1;cases hk:t.kids[i]? with
 |none=>rw[hk]at h1;cases h1
 |some s=>
  rw[hk]at h1;have hl:=(Z0v.1 hk).1;refine⟨?_,Q3r h hl,hl⟩;rw[Z0o,hk];simpa using h1
theorem Qgg{id:Int}:∀{e:En},gE G e->gV G (findE id e)
 |.nil,_=>by simp[findE,gV]
 |.bind i v n,h=>by
  unfold findE;split
  ·exact h.2.1
  ·exact Qgg h.2.2
 |.recs t n,h=>by
  unfold findE;split
  ·rename_i i hi;have h1:=(Qen hi).1;have h2:=Qpt hG h.2.1 h.1 h1;exact⟨h2.1,h2.2.1,h.1,h.2.1,h.2.2⟩
  ·exact Qgg h.2.2
theorem Qf9{t:Tr}{e:En}{tag:Int}{fs:List Vl}{c:Ctl}(ht:allT G.p t)(h7:t.op=7)(he:gE G e)(hf:gVs G fs):∀(l:List Alt)(i:Nat),t.alts.drop i=l->Q21 tag fs e t.kids i l=.ok c->gCv G c
 |[],_,_,h=>by cases h
 |a::al,i,hd,h=>by
  have ha:t.alts[i]?=some a:=by have:=congrArg (·[0]?) hd;simpa using this
  have hl:=(Z0v.1 ha).1;have hsh:=g_sh hG ht;rw[h7]at hsh;have hk:1+i < t.kids.length:=by rw[hsh.case.1];omega
  unfold Q21 at h;split at h
  ·split at h
   ·cases h;exact⟨Q3r ht hk,Qai he hf (Qmx hG ht ha)⟩
   ·cases h
  ·split at h
   ·cases h;exact⟨Q3r ht hk,he⟩
   ·exact Qf9 ht h7 he hf al (i+1) (by rw[←List.drop_drop,hd];rfl) h
omit hG in
theorem Q7q{op:Int}:∀{l:List Alt}{i j:Nat},Q9k op i l=some j->0 < j/\i<=j/\∃a,l[j - i]?=some a/\a.tag=op
 |[],_,_,h=>by cases h
 |a::al,i,j,h=>by
  unfold Q9k at h;split at h
  ·rename_i hc;cases h;exact⟨hc.2,by omega,a,by simp,hc.1⟩
  ·obtain⟨h1,h2,b,h3,h4⟩:=Q7q h;refine⟨h1,by omega,b,?_,h4⟩;rw[show j - i=(j - (i+1))+1 by omega];simpa using h3
theorem Qbi{op:Int}{v:Vl}{m m':Ms}(hR:G.R)(hv:gV G v)(hh:∀r∈m.heap,r.length<=1024/\gVs G r):∀{k l:List Fm},gFs G l->gFs G k->Q47 m op v l k=.ok m'->gM G m'
 |[],_,_,_,h=>by cases h
 |f::k,l,hl,hk,h=>by
  unfold Q47 at h;split at h
  ·rename_i i hi;split at hi
   ·rename_i h13;obtain⟨h1,h2,a,h3,h4⟩:=Q7q hi;cases h;cases f with
    |mk t e d=>
     obtain⟨g1,g2,g3,g4⟩:=hk.1;simp only[Qu7,Qu8]at *;have hsh:=g_sh hG g1;rw[h13]at hsh;have h3:t.alts[i]?=some a:=by simpa using h3
     have hil:=(Z0v.1 h3).1;have hb:=(hsh.handle.2.2.2 i a h3).2;rw[if_neg zoy]at hb;have hS:=Qmx hG g1 h3;have hga:t.alts.getD i ⟨0,[]⟩=a:=by rw[Z0o,h3];rfl
     match hab:a.binds,hb with
     |[x,y],_=>
      refine⟨⟨Q3r g1 (by rw[hsh.handle.1];omega),?_,?_,?_,hv,g2⟩,hk.2,hh⟩
      ·rw[hga,hab];exact hS _ (by rw[hab];simp)
      ·exact⟨hR,Qgf (b:=[_]) hl ⟨⟨g1,g2,g3,g4⟩,trivial⟩⟩
      ·rw[hga,hab];exact hS _ (by rw[hab];simp)
   ·cases hi
  ·exact Qbi hR hv hh (Qgf (b:=[f]) hl ⟨hk.1,trivial⟩) hk.2 h
theorem primM_g{m m':Ms}{n:Int}{l:List Vl}{v:Vl}(hl:gVs G l)(hh:∀r∈m.heap,r.length<=1024/\gVs G r)(h:primM fu m n l=.ok (m',v)):gV G v/\∀r∈m'.heap,r.length<=1024/\gVs G r:=by
 have hw:∀{i:Nat}{a:Int},wordV (l.getD i .nil)=.ok a->G.W a:=by intro i a ha;have:=Q3n hl i;cases hv:l.getD i Vl.nil <;> rw[hv]at ha this <;> first|(cases ha;done)|(cases ha;exact this)
 unfold primM at h;repeat' split at h
 all_goals try (simp only[bind,Except.bind,pure,Except.pure]at h;repeat' split at h)
 all_goals try (cases h;done)
 all_goals try (cases h;refine⟨?_,hh⟩;first|exact hG.wr _|(simp only[condV,gV,gVs];done))
 ·rename_i a ha _ b hb _;cases h;exact⟨hG.wm _ _ (hw ha) (hw hb),hh⟩
 ·unfold Qik at h;repeat' split at h
  all_goals try (cases h;done)
  cases h;refine⟨trivial,fun r hr=>?_⟩;rcases Z1m.1 hr with hr|hr
  ·exact hh r hr
  ·simp at hr;subst hr;refine⟨by simp;omega,Q2f.2 fun v hv=>?_⟩;rw[(Z22.1 hv).2];exact Q3n hl 1
 ·unfold Qdm at h;simp only[bind,Except.bind,pure,Except.pure]at h;have hit:∀{a:Nat}{its:List Vl},Qmc m.heap (l.getD 0 .nil)=.ok (a,its)->its.length<=1024/\gVs G its:=by
   intro a its ha;cases hv:l.getD 0 Vl.nil <;> rw[hv]at ha <;> try (cases ha;done)
   cases ha;rw[Z0o];cases hr:m.heap[a]? with
   |none=>simp[gVs]
   |some r=>exact hh r (Z1y hr)
  cases hp:Qmc m.heap (l.getD 0 .nil) with
  |error c=>rw[hp]at h;cases h
  |ok p=>
   obtain⟨a,its⟩:=p;rw[hp]at h;simp only at h;by_cases h9:n=9
   ·rw[if_pos h9]at h;cases h;exact⟨hG.wl _ zoy (by have:=(hit hp).1;omega),hh⟩
   rw[if_neg h9]at h;cases hw1:wordV (l.getD 1 .nil) with
   |error c=>rw[hw1]at h;cases h
   |ok i=>
    rw[hw1]at h;simp only at h;split at h
    ·cases h
    split at h
    ·cases h;exact⟨Q3n (hit hp).2 _,hh⟩
    ·cases h;refine⟨by simp only[gV,gVs],fun r hr=>?_⟩;rcases Z20 hr with hr|hr
     ·exact hh r hr
     ·subst hr;refine⟨by simpa using (hit hp).1,Q2f.2 fun v hv=>?_⟩;rcases Z20 hv with hv|hv
      ·exact Q2f.1 (hit hp).2 v hv
      ·rw[hv];exact Q3n hl 2
theorem Qov{m m':Ms}{t:Tr}{l:List Vl}{v:Vl}(ht:allT G.p t)(h11:t.op=6∨t.op=8∨t.op=9∨t.op=10∨t.op=11)(hlen:l.length=t.kids.length)(hl:gVs G l)(hh:∀r∈m.heap,r.length<=1024/\gVs G r)(h:Q57 fu m t l=.ok (m',v)):gV G v/\∀r∈m'.heap,r.length<=1024/\gVs G r:=by
 have hr:∀{ls:List Int}{fs:List Vl},rowsV (l.getD 0 .nil)=.ok (ls,fs)->ls.length=fs.length/\G.RW ls/\gVs G fs:=by intro ls fs ha;have:=Q3n hl 0;cases hv:l.getD 0 Vl.nil <;> rw[hv]at ha this <;> first|(cases ha;done)|(cases ha;exact this)
 unfold Q57 at h;split at h
 ·cases h;exact⟨hl,hh⟩
 split at h
 ·exact primM_g hG hl hh h
 split at h
 ·rename_i h9;cases h;have:=g_sh hG ht;rw[h9]at this;exact⟨⟨by rw[hlen];exact this.row.1.symm,hG.rw _ (Q1u ht) h9,hl⟩,hh⟩
 split at h
 ·simp only[bind,Except.bind,pure,Except.pure]at h;repeat' split at h
  all_goals try (cases h;done)
  rename_i _ p hp _;obtain⟨ls,fs⟩:=p;cases h;exact⟨Q3n (hr hp).2.2 _,hh⟩
 ·rename_i n6 n8 n9 n10;have h11':t.op=11:=by omega
  simp only[bind,Except.bind,pure,Except.pure]at h;repeat' split at h
  all_goals try (cases h;done)
  rename_i _ p hp;obtain⟨ls,fs⟩:=p;cases h;refine⟨?_,hh⟩;have hv:=Q3n hl 1;obtain⟨h1,hrw,h2⟩:=hr hp;unfold withR;split
  ·refine⟨by simpa using h1,hrw,Q2f.2 fun v hv'=>?_⟩;rcases Z20 hv' with h3|h3
   ·exact Q2f.1 h2 v h3
   ·rw[h3];exact hv
  ·rename_i hbs;refine⟨by simp[h1],hG.ri _ (Q1u ht) h11' _ hrw (by simpa using hbs),Qge (Q2f.2 fun v hv'=>Q2f.1 h2 v (List.mem_of_mem_take hv')) ⟨hv,Q2f.2 fun v hv'=>Q2f.1 h2 v (Z1z hv')⟩⟩
theorem g_fn(n:Int)(h:0<=n/\n < G.fns.length):allT G.p (G.fns.getD n.toNat ⟨[],default⟩).body/\∀i∈(G.fns.getD n.toNat ⟨[],default⟩).params,G.S i:=by
 have hl:n.toNat < G.fns.length:=by omega
 rw[Z0o,Z0t hl];exact hG.fn _ (Z11 hl)
theorem g_opN{t:Tr}(ht:allT G.p t):opdN t<=t.kids.length:=by
 have hsh:=g_sh hG ht;unfold opdN;split
 ·rename_i h;rcases h with h|h|h|h <;> rw[h]at hsh
  ·rw[hsh.lett.1];omega
  ·rw[hsh.case.1];omega
  ·rw[hsh.handle.1];omega
  ·rw[(hsh.one (.inr (.inl rfl))).1];omega
 ·omega
omit hG in
theorem shp_ops{o n:Int}{b:List Int}{a:List Alt}(h:ShN o n b k a):0<=o/\o<=17:=by
 by_cases h7:o=7∨o=13
 ·omega
 ·obtain⟨w,⟨ops,hl,hw⟩,_⟩:=h.want h7;refine Classical.byContradiction fun hc=>?_;have h0:wants ⟨o,n,b,ops,a⟩=none:=by unfold wants;simp only;rw[if_neg zoy,if_neg zoy,if_neg zoy,if_neg zoy,if_neg zoy,if_neg zoy,if_neg zoy,if_neg zoy,if_neg zoy,if_neg zoy,if_neg zoy,if_neg zoy]
  rw[h0]at hw;cases hw
theorem kidM_g{m m':Ms}{f:Fm}{k:List Fm}(ht:allT G.p f.t)(he:gE G f.e)(hd:gVs G f.done)(hl:f.done.length<=opdN f.t)(hn:nLf f.t.op)(hk:gFs G k)(hh:∀r∈m.heap,r.length<=1024/\gVs G r)(h:kidM fu G.fns m f k=.ok m'):gM G m':=by
 have hsh:=g_sh hG ht;have hop:=g_opN hG ht;have hv:=Q3n hd 0;unfold kidM at h;split at h
 ·rename_i hlt;cases h;refine⟨⟨Q3r ht zoy,he⟩,⟨?_,hk⟩,hh⟩;cases f;exact⟨ht,he,hd,hlt,hn⟩
 rename_i hge;split at h
 ·rename_i h4;cases h;rw[h4]at hsh;obtain⟨h1,h2,h3⟩:=hsh.lett;refine⟨⟨Q3r ht zoy,?_,hv,he⟩,hk,hh⟩;have:=g_bnd hG ht;unfold Q0s at this;rw[if_pos zoy]at this
  match hb:f.t.binds,h2 with
  |[x],_=>rw[hb]at this;exact this x zsy
 split at h
 ·rename_i h7;unfold Q3g at h;split at h
  ·rename_i tag fs Qx5;cases hc:Q21 tag fs f.e f.t.kids 0 f.t.alts with
   |error c=>rw[hc]at h;cases h
   |ok c=>
    rw[hc]at h;cases h;rw[Qx5]at hv;exact⟨Qf9 hG ht h7 he hv _ 0 rfl hc,hk,hh⟩
  ·cases h
 split at h
 ·rename_i h3;have hd1:gVs G (f.done.drop 1):=Q2f.2 fun v hv'=>Q2f.1 hd v (Z1z hv');unfold callM at h;split at h
  ·rename_i t e hclo;rw[hclo]at hv;split at h
   ·cases h;have h1:=g_sh hG hv.2.1;have h2:=g_bnd hG hv.2.1;rw[hv.1]at h1;unfold Q0s at h2;rw[hv.1,if_pos zsy]at h2;refine⟨⟨Q3r hv.2.1 (by have:=h1.lam.1;omega),Qai hv.2.2 hd1 fun i hi=>h2 i (Z1m.2 (.inl hi))⟩,hk,hh⟩
   ·cases h
  ·rename_i n slots hcap;rw[hcap]at hv;split at h
   ·cases h;have:=g_fn hG n hv.1;exact⟨⟨this.1,Qai trivial ⟨hv,hd1⟩ this.2⟩,hk,hh⟩
   ·cases h
  ·rename_i fs hres;rw[hres]at hv;split at h
   ·rename_i a ha;cases h;rw[ha]at hd1;exact⟨hd1.1,Qgf hv.2 hk,hh⟩
   ·cases h
  ·cases h
 split at h
 ·rename_i h13;cases h;rw[h13]at hsh;obtain⟨h1,h2,h3,h4⟩:=hsh.handle;refine⟨⟨Q3r ht zoy,?_,hv,he⟩,hk,hh⟩;obtain⟨a,ha⟩:∃a,f.t.alts[0]?=some a:=⟨_,Z0t zoy⟩;have hb:=(h4 0 a ha).2;rw[if_pos rfl]at hb;have hS:=Qmx hG ht ha;have hga:f.t.alts.getD 0 ⟨0,[]⟩=a:=by rw[Z0o,ha];rfl
  rw[hga]
  match hab:a.binds,hb with
  |[x],_=>rw[hab]at hS;exact hS x zsy
 split at h
 ·rename_i h12;exact Qbi hG (hG.rs _ (Q1u ht) h12) (l:=[]) hv hh trivial hk h
 split at h
 ·rename_i h14;cases h;have:=g_fn hG f.t.n (hG.cl _ (Q1u ht) (.inl h14));exact⟨⟨this.1,Qai trivial hd this.2⟩,hk,hh⟩
 split at h
 ·rename_i h15;cases h;exact⟨⟨hG.cl _ (Q1u ht) (.inr h15),hd⟩,hk,hh⟩
 split at h
 ·split at h
  ·rename_i n slots hcap;rw[hcap]at hv;split at h
   ·cases h;exact⟨Q3n hv.2 _,hk,hh⟩
   ·cases h
  ·cases h
 ·rename_i h4 h7 h3 h13 h12 h14 h15 h16;cases hp:Q57 fu { m with k:=k } f.t f.done with
  |error c=>rw[hp]at h;cases h
  |ok mv=>
   obtain⟨m2,v2⟩:=mv;rw[hp]at h;cases h;have hlen:f.done.length=f.t.kids.length:=by unfold opdN at hge hl;rw[if_neg zoy]at hge hl;omega
   obtain⟨g1,g2⟩:=Qov hG (m:={ m with k:=k }) ht (by have:=shp_ops hsh;unfold nLf at hn;omega) hlen hd hh hp;refine⟨g1,?_,g2⟩;rw[(Q5i hp).2.2];exact hk
theorem Qoh{m m':Ms}{t:Tr}{e:En}(ht:allT G.p t)(he:gE G e)(hk:gFs G m.k)(hh:∀r∈m.heap,r.length<=1024/\gVs G r)(h:Q2z fu G.fns m t e=.ok m'):gM G m':=by
 unfold Q2z at h;split at h
 ·cases h;exact⟨Qgg hG he,hk,hh⟩
 split at h
 ·rename_i h1;cases h;exact⟨hG.wd _ (Q1u ht) h1,hk,hh⟩
 split at h
 ·rename_i h2;cases h;exact⟨⟨h2,ht,he⟩,hk,hh⟩
 split at h
 ·cases h
 split at h
 ·rename_i h5;cases h;have hsh:=g_sh hG ht;rw[h5]at hsh;exact⟨⟨Q3r ht (by have:=hsh.recs.1;omega),h5,ht,he⟩,hk,hh⟩
 ·rename_i h0 h1 h2 h17 h5;exact kidM_g hG (f:=.mk t e []) ht he trivial (Z3b _) (fun hh=>hh.elim h0 fun hh=>hh.elim h1 fun hh=>hh.elim h2 fun hh=>hh.elim h17 h5) hk hh h
theorem Qhd{m m':Ms}(hm:gM G m)(h:Q1n fu G.fns m=.next m'):gM G m':=by
 unfold Q1n at h;split at h
 ·rename_i v hc;have hv:gV G v:=by have:=hm.c;rw[hc]at this;exact this
  split at h
  ·cases h
  ·rename_i f k hk;have hf:=hm.k;rw[hk]at hf;split at h
   ·rename_i m2 Qwk;cases h;obtain⟨g1,g2,g3,g4,g5⟩:=gF_iff.1 hf.1;exact kidM_g hG (f:=.mk f.t f.e (f.done++[v])) g1 g2 (Qge (b:=[v]) g3 ⟨hv,trivial⟩) (by simp only[Qu9,Qu7,Z12,Z1b];omega) g5 hf.2 hm.h Qwk
   ·cases h
 ·rename_i t e hc;have ht:allT G.p t/\gE G e:=by have:=hm.c;rw[hc]at this;exact this
  split at h
  ·cases h
  ·split at h
   ·rename_i m2 hst;cases h;exact Qoh hG (m:={ m with steps:=m.steps+1 }) ht.1 ht.2 hm.k hm.h hst
   ·cases h
end
end Go.CoreX
namespace Go.CoreX
structure Sim where
 ν:Int->Int
 eb:En
 kb:List Fm
 ob:List Int
 hb:List (List Vl)
 st:Int
section
variable {s:Sim}{G:GP}
section
variable (ν:Int->Int)(t:Tr)
end
end
end Go.CoreX
namespace Go.CoreX
section
variable {s:Sim}{G:GP}
def goX (fu:Int)(fns:List Fun):Nat->Ms->Option Rd
 |0,_=>none
 |g+1,m=>match Q1n fu fns m with
  |.next m'=>goX fu fns g m'
  |r=>some r
def outR:Rd->Nat
 |.done m _=>m.out.length
 |.trap _ m=>m.out.length
 |.next m=>m.out.length
 |.fuel=>1001
theorem Qou{m m':Ms}{n:Int}{l:List Vl}{v:Vl}(h:primM fu m n l=.ok (m',v)):m.out.length<=m'.out.length:=by
 unfold primM at h;repeat' split at h
 all_goals try (simp only[bind,Except.bind,pure,Except.pure]at h;repeat' split at h)
 all_goals try (cases h;done)
 all_goals try (cases h;exact Z30 _)
 ·cases h;simp
 ·unfold Qik at h;repeat' split at h
  all_goals try (cases h;done)
  cases h;exact Z30 _
 ·unfold Qdm at h;simp only[bind,Except.bind,pure,Except.pure]at h;repeat' split at h
  all_goals try (cases h;done)
  all_goals (cases h;exact Z30 _)
theorem Qlf{m m':Ms}{t:Tr}{l:List Vl}{v:Vl}(h:Q57 fu m t l=.ok (m',v)):m.out.length<=m'.out.length:=by
 unfold Q57 at h;repeat' split at h
 ·cases h;exact Z30 _
 ·exact Qou h
 ·cases h;exact Z30 _
 ·simp only[bind,Except.bind,pure,Except.pure]at h;repeat' split at h
  all_goals try (cases h;done)
  all_goals (cases h;exact Z30 _)
 ·simp only[bind,Except.bind,pure,Except.pure]at h;repeat' split at h
  all_goals try (cases h;done)
  all_goals (cases h;exact Z30 _)
theorem Q9z{m m':Ms}{op:Int}{v:Vl}:∀(l k:List Fm),Q47 m op v l k=.ok m'->m'.out=m.out
 |_,[],h=>by cases h
 |l,f::k,h=>by
  unfold Q47 at h;split at h
  ·cases h;rfl
  ·exact Q9z _ k h
theorem Qm8{fns:List Fun}{m m':Ms}{f:Fm}{k:List Fm}(h:kidM fu fns m f k=.ok m'):m.out.length<=m'.out.length:=by
 unfold kidM at h;repeat' split at h
 all_goals try (cases h;done)
 all_goals try (cases h;exact Z30 _)
 ·unfold Q3g at h;split at h
  ·cases hc:Q21 _ _ f.e f.t.kids 0 f.t.alts <;> rw[hc]at h <;> cases h;exact Z30 _
  ·cases h
 ·unfold callM at h;repeat' split at h
  all_goals try (cases h;done)
  all_goals (cases h;exact Z30 _)
 ·rw[Q9z _ _ h];exact Z30 _
 ·cases hp:Q57 fu { m with k:=k } f.t f.done with
  |error c=>rw[hp]at h;cases h
  |ok mv=>
   rw[hp]at h;cases h;obtain⟨m2,v2⟩:=mv;exact Qlf (m:={ m with k:=k }) (m':=m2) hp
theorem Qkv{fns:List Fun}{m m':Ms}{t:Tr}{e:En}(h:Q2z fu fns m t e=.ok m'):m.out.length<=m'.out.length:=by
 unfold Q2z at h;repeat' split at h
 all_goals try (cases h;done)
 all_goals try (cases h;exact Z30 _)
 exact Qm8 h
theorem Ql9{fns:List Fun}{m m':Ms}(h:Q1n fu fns m=.next m'):m.out.length<=m'.out.length:=by
 unfold Q1n at h;repeat' split at h
 all_goals try (cases h;done)
 ·rename_i hk;cases h;exact Qm8 hk
 ·rename_i hk;cases h;exact Qkv (m:={ m with steps:=m.steps+1 }) hk
theorem Qmw{fu:Int}{fns:List Fun}:∀{g:Nat}{m:Ms}{r:Rd},goX fu fns g m=some r->m.out.length<=outR r∨r=.fuel
 |0,_,_,h=>by cases h
 |g+1,m,r,h=>by
  simp only[goX]at h;cases hr:Q1n fu fns m with
  |next m'=>
   rw[hr]at h;rcases Qmw h with h1|h1
   ·exact .inl (Z31 (Ql9 hr) h1)
   ·exact .inr h1
  |done m' v=>
   rw[hr]at h;cases h;unfold Q1n at hr;repeat' split at hr
   all_goals try (cases hr;done)
   cases hr;exact .inl (Z30 _)
  |fuel=>rw[hr]at h;cases h;exact .inr rfl
  |trap c m'=>
   rw[hr]at h;cases h;unfold Q1n at hr;repeat' split at hr
   all_goals try (cases hr;done)
   all_goals (cases hr;exact .inl (Z30 _))
def rdOf (m:Ms):Except Int Ms->Rd
 |.ok m'=>.next m'
 |.error c=>.trap c m
theorem Qcr{fns:List Fun}{m:Ms}{t:Tr}{e:En}(hc:m.c=.ev t e)(h:¬m.steps=fu):Q1n fu fns m=rdOf { m with steps:=m.steps+1 } (Q2z fu fns { m with steps:=m.steps+1 } t e):=by
 unfold Q1n;split
 ·rename_i hv;rw[hc]at hv;cases hv
 ·rename_i hv;rw[hc]at hv;cases hv;rw[if_neg h];rfl
theorem Qcq{fns:List Fun}{m:Ms}{v:Vl}{f:Fm}{k:List Fm}(hc:m.c=.rt v)(hk:m.k=f::k):Q1n fu fns m=rdOf m (kidM fu fns m (.mk f.t f.e (f.done++[v])) k):=by simp only[Q1n,hc,hk];rfl
end
end Go.CoreX
namespace Go.CoreX
theorem Qh8{fns:List Fun}{m m':Ms}{t:Tr}{e:En}(h:Q2z fu fns m t e=.ok m'):m.steps<=m'.steps:=by
 unfold Q2z at h;repeat' split at h
 all_goals try (cases h;done)
 all_goals try (cases h;exact Qzt _)
 exact (Q87 h [] .nil (.inr ⟨rfl,rfl⟩)).ge
def stepsR:Rd->Int
 |.done m _=>m.steps
 |.trap _ m=>m.steps
 |.next m=>m.steps
 |.fuel=>0
theorem Qoq{fns:List Fun}{m m':Ms}(h:Q1n fu fns m=.next m'):m.steps<=m'.steps:=by
 unfold Q1n at h;repeat' split at h
 all_goals try (cases h;done)
 ·rename_i f k hk _ _ Qwk;cases h;exact (Q87 Qwk f.done _ (.inl rfl)).ge
 ·rename_i hst;cases h;have:=Qh8 hst;simp only at this;omega
theorem Qe5{fns:List Fun}{m:Ms}{r:Rd}(h:Q1n fu fns m=r):(∀c m',r=.trap c m'->m.steps<=m'.steps)/\(∀m' v,r=.done m' v->m'=m/\m.c=.rt v/\m.k=[]):=by
 subst h;constructor
 ·intro c m' h;unfold Q1n at h;repeat' split at h
  all_goals try (cases h;done)
  ·cases h;exact Qzt _
  ·cases h;simp only;omega
 ·intro m' v h;unfold Q1n at h;repeat' split at h
  all_goals try (cases h;done)
  rename_i hc _ hk;cases h;exact⟨rfl,hc,hk⟩
theorem goX_ge{fu:Int}{fns:List Fun}:∀{g:Nat}{m:Ms}{r:Rd},goX fu fns g m=some r->r≠.fuel->m.steps<=stepsR r
 |0,_,_,h,_=>by cases h
 |g+1,m,r,h,hf=>by
  simp only[goX]at h;cases hr:Q1n fu fns m with
  |next m'=>rw[hr]at h;exact Int.le_trans (Qoq hr) (goX_ge h hf)
  |done m' v=>rw[hr]at h;cases h;rw[((Qe5 hr).2 _ _ rfl).1];exact Qzt _
  |fuel=>rw[hr]at h;cases h;exact absurd rfl hf
  |trap c m'=>rw[hr]at h;cases h;exact (Qe5 hr).1 _ _ rfl
end Go.CoreX
namespace Go.Proofs.YtlmokgooijbcdaaGreatDoor
set_option linter.unusedSectionVars false
abbrev tClo:Nat:=244
abbrev tObj:Nat:=193
abbrev tRow:Nat:=286
abbrev tArr:Nat:=329
abbrev tRes:Nat:=277
abbrev tCap:Nat:=238
abbrev tTrap:Nat:=151
abbrev nilPE:AC:=.lit (.pointer none)
abbrev Hm:=Nat->Option (List AC)
abbrev Nm2:=List (Nat×Nat)
def iW (n:Int):AC:=.ifc 3 false [int n]
def iB (t:Nat)(cs:List AC):AC:=.ifc t false [.box cs]
inductive RecC (H:Hm)(t:Tr)(top:AC):Nat->AC->AC->Prop
 |zero (c:AC):RecC H t top 0 c c
 |succ (i k q:Nat) (c b:AC) (hk:H k=some [int (t.binds.getD i 0),.ifc tClo false [.ptr (.o q) 0],c]) (hq:H q=some [.box (cTr (t.kids.getD i default)),top]) (h:RecC H t top i c b):RecC H t top (i+1) (.ptr (.o k) 0) b
mutual
inductive VR (H:Hm)(nm:Nm2):Vl->AC->Prop
 |nil:VR H nm .nil (.lit .nilIface)
 |word (n:Int):VR H nm (.word n) (iW n)
 |clo (t:Tr) (e:En) (c:AC) (he:ER H nm e c):VR H nm (.clo t e) (iB tClo [.box (cTr t),c])
 |cloP (t:Tr) (e:En) (c:AC) (k:Nat) (hk:H k=some [.box (cTr t),c]) (he:ER H nm e c):VR H nm (.clo t e) (.ifc tClo false [.ptr (.o k) 0])
 |obj (g:Int) (fs:List Vl) (cs:List (List AC)) (h:VsR H nm fs cs):VR H nm (.obj g fs) (iB tObj [int g,.sl 1 cs])
 |row (ls:List Int) (fs:List Vl) (cs:List (List AC)) (h:VsR H nm fs cs):VR H nm (.row ls fs) (iB tRow [.sl 1 (ls.map cI),.sl 1 cs])
 |arr (a k n:Nat) (h:nm[a]?=some (k,n)):VR H nm (.arr a) (iB tArr [.arr (.o k) 1 0 n n])
 |res (fs:List Fm) (l:List (List AC)) (h:FsR H nm fs l):VR H nm (.res fs) (iB tRes [.sl 1 l])
 |cap (n:Int) (fs:List Vl) (cs:List (List AC)) (h:VsR H nm fs cs):VR H nm (.cap n fs) (iB tCap [int n,.sl 1 cs])
inductive VsR (H:Hm)(nm:Nm2):List Vl->List (List AC)->Prop
 |nil:VsR H nm [] []
 |cons (v:Vl) (c:AC) (vs:List Vl) (cs:List (List AC)) (hv:VR H nm v c) (h:VsR H nm vs cs):VsR H nm (v::vs) ([c]::cs)
inductive ER (H:Hm)(nm:Nm2):En->AC->Prop
 |nil:ER H nm .nil nilPE
 |bind (i:Int) (v:Vl) (n:En) (k:Nat) (vc nc:AC) (hk:H k=some [int i,vc,nc]) (hv:VR H nm v vc) (hn:ER H nm n nc):ER H nm (.bind i v n) (.ptr (.o k) 0)
 |recs (t:Tr) (n:En) (c nc:AC) (hc:RecC H t c t.binds.length c nc) (hn:ER H nm n nc):ER H nm (.recs t n) c
inductive FR (H:Hm)(nm:Nm2):Fm->AC->Prop
 |mk (t:Tr) (e:En) (d:List Vl) (ec:AC) (dc:List (List AC)) (nx:AC) (hx:nx.ids isO) (he:ER H nm e ec) (hd:VsR H nm d dc):FR H nm (.mk t e d) (.box [.box (cTr t),ec,.sl 1 dc,nx])
inductive FsR (H:Hm)(nm:Nm2):List Fm->List (List AC)->Prop
 |nil:FsR H nm [] []
 |cons (f:Fm) (c:AC) (fs:List Fm) (cs:List (List AC)) (hf:FR H nm f c) (h:FsR H nm fs cs):FsR H nm (f::fs) ([c]::cs)
end
inductive KR (H:Hm)(nm:Nm2):List Fm->AC->Prop
 |nil:KR H nm [] nilPE
 |cons (t:Tr) (e:En) (d:List Vl) (k:List Fm) (ec:AC) (dc:List (List AC)) (kc:AC) (he:ER H nm e ec) (hd:VsR H nm d dc) (hk:KR H nm k kc):KR H nm (.mk t e d::k) (.box [.box (cTr t),ec,.sl 1 dc,kc])
structure Mo (H:Hm)(nm:Nm2)(H':Hm)(nm':Nm2):Prop where
 h:∀k cs,H k=some cs->H' k=some cs
 n:∀(a:Nat) (x:Nat×Nat),nm[a]?=some x->nm'[a]?=some x
theorem Mo.refl(H:Hm)(nm:Nm2):Mo H nm H nm:=⟨fun _ _ h=>h,fun _ _ h=>h⟩
theorem Mo.trans{H H1 H2:Hm}{n n1 n2:Nm2}(a:Mo H n H1 n1)(b:Mo H1 n1 H2 n2):Mo H n H2 n2:=⟨fun k cs h=>b.h k cs (a.h k cs h),fun k x h=>b.n k x (a.n k x h)⟩
section
variable {H H':Hm}{nm nm':Nm2}(hm:Mo H nm H' nm')
include hm
theorem RecC.mo{t:Tr}{top:AC}:∀{i:Nat}{c b:AC},RecC H t top i c b->RecC H' t top i c b
 |_,_,_,.zero c=>.zero c
 |_,_,_,.succ i k q c b hk hq h=>.succ i k q c b (hm.h _ _ hk) (hm.h _ _ hq) (RecC.mo h)
mutual
theorem VR.mo:∀{v:Vl}{c:AC},VR H nm v c->VR H' nm' v c
 |_,_,.nil=>.nil
 |_,_,.word n=>.word n
 |_,_,.clo t e c he=>.clo t e c (ER.mo he)
 |_,_,.cloP t e c k hk he=>.cloP t e c k (hm.h _ _ hk) (ER.mo he)
 |_,_,.obj g fs cs h=>.obj g fs cs (VsR.mo h)
 |_,_,.row ls fs cs h=>.row ls fs cs (VsR.mo h)
 |_,_,.arr a k n h=>.arr a k n (hm.n _ _ h)
 |_,_,.res fs l h=>.res fs l (FsR.mo h)
 |_,_,.cap n fs cs h=>.cap n fs cs (VsR.mo h)
theorem VsR.mo:∀{v:List Vl}{c:List (List AC)},VsR H nm v c->VsR H' nm' v c
 |_,_,.nil=>.nil
 |_,_,.cons v c vs cs hv h=>.cons v c vs cs (VR.mo hv) (VsR.mo h)
theorem ER.mo:∀{e:En}{c:AC},ER H nm e c->ER H' nm' e c
 |_,_,.nil=>.nil
 |_,_,.bind i v n k vc nc hk hv hn=>.bind i v n k vc nc (hm.h _ _ hk) (VR.mo hv) (ER.mo hn)
 |_,_,.recs t n c nc hc hn=>.recs t n c nc (RecC.mo hm hc) (ER.mo hn)
theorem FR.mo:∀{f:Fm}{c:AC},FR H nm f c->FR H' nm' f c
 |_,_,.mk t e d ec dc nx hx he hd=>.mk t e d ec dc nx hx (ER.mo he) (VsR.mo hd)
theorem FsR.mo:∀{f:List Fm}{c:List (List AC)},FsR H nm f c->FsR H' nm' f c
 |_,_,.nil=>.nil
 |_,_,.cons f c fs cs hf h=>.cons f c fs cs (FR.mo hf) (FsR.mo h)
end
theorem KR.mo:∀{k:List Fm}{c:AC},KR H nm k c->KR H' nm' k c
 |_,_,.nil=>.nil
 |_,_,.cons t e d k ec dc kc he hd hk=>.cons t e d k ec dc kc (ER.mo hm he) (VsR.mo hm hd) (KR.mo hk)
end
section
variable {H:Hm}{nm:Nm2}
theorem RecC.ids{t:Tr}{top:AC}:∀{i:Nat}{c b:AC},RecC H t top i c b->b.ids isO->c.ids isO
 |_,_,_,.zero c,h=>h
 |_,_,_,.succ i k q c b hk hq h,_=>trivial
mutual
theorem VR.ids:∀{v:Vl}{c:AC},VR H nm v c->c.ids isO
 |_,_,.nil=>trivial
 |_,_,.word n=>by simp[iW,AC.ids,idsL]
 |_,_,.clo t e c he=>⟨⟨by simp,ER.ids he,trivial⟩,trivial⟩
 |_,_,.cloP t e c k hk he=>⟨trivial,trivial⟩
 |_,_,.obj g fs cs h=>⟨⟨trivial,VsR.ids h,trivial⟩,trivial⟩
 |_,_,.row ls fs cs h=>⟨⟨by simp,VsR.ids h,trivial⟩,trivial⟩
 |_,_,.arr a k n h=>⟨⟨trivial,trivial⟩,trivial⟩
 |_,_,.res fs l h=>⟨⟨FsR.ids h,trivial⟩,trivial⟩
 |_,_,.cap n fs cs h=>⟨⟨trivial,VsR.ids h,trivial⟩,trivial⟩
theorem VsR.ids:∀{v:List Vl}{c:List (List AC)},VsR H nm v c->idsS isO c
 |_,_,.nil=>trivial
 |_,_,.cons v c vs cs hv h=>⟨⟨VR.ids hv,trivial⟩,VsR.ids h⟩
theorem ER.ids:∀{e:En}{c:AC},ER H nm e c->c.ids isO
 |_,_,.nil=>trivial
 |_,_,.bind i v n k vc nc hk hv hn=>trivial
 |_,_,.recs t n c nc hc hn=>RecC.ids hc (ER.ids hn)
theorem FR.ids:∀{f:Fm}{c:AC},FR H nm f c->c.ids isO
 |_,_,.mk t e d ec dc nx hx he hd=>⟨by simp,ER.ids he,VsR.ids hd,hx,trivial⟩
theorem FsR.ids:∀{f:List Fm}{c:List (List AC)},FsR H nm f c->idsS isO c
 |_,_,.nil=>trivial
 |_,_,.cons f c fs cs hf h=>⟨⟨FR.ids hf,trivial⟩,FsR.ids h⟩
end
theorem KR.ids:∀{k:List Fm}{c:AC},KR H nm k c->c.ids isO
 |_,_,.nil=>trivial
 |_,_,.cons t e d k ec dc kc he hd hk=>⟨by simp,ER.ids he,VsR.ids hd,KR.ids hk,trivial⟩
theorem VsR.len:∀{v:List Vl}{c:List (List AC)},VsR H nm v c->c.length=v.length
 |_,_,.nil=>rfl
 |_,_,.cons v c vs cs hv h=>by simp[VsR.len h]
theorem VsR.get:∀{v:List Vl}{c:List (List AC)}{i:Nat}{x:Vl},VsR H nm v c->v[i]?=some x->∃y,c[i]?=some [y]/\VR H nm x y
 |_,_,i,x,.nil,hx=>by simp at hx
 |_,_,0,x,.cons v c vs cs hv h,hx=>by simp at hx;subst hx;exact⟨c,rfl,hv⟩
 |_,_,i+1,x,.cons v c vs cs hv h,hx=>VsR.get (i:=i) h (by simpa using hx)
theorem VsR.snoc:∀{v:List Vl}{c:List (List AC)}{x:Vl}{y:AC},VsR H nm v c->VR H nm x y->VsR H nm (v++[x]) (c++[[y]])
 |_,_,x,y,.nil,hx=>.cons x y [] [] hx .nil
 |_,_,x,y,.cons v c vs cs hv h,hx=>.cons v c _ _ hv (VsR.snoc h hx)
end
variable {Γ:List (Nat×List AC)}
def unitF:FV:=.tup []
def trapE (c:Int):List PanicEntry:=[{ v:=.iface tTrap (.agg #[.int .i64 c]),recovered:=false }]
theorem Q6z{w:World}{c:Int}(h:R w C (.ifc tTrap true [int c]) v):[({ v:=v,recovered:=false }:PanicEntry)]=trapE c:=by
 obtain⟨xs,h1,⟨_,rfl⟩|⟨h2,_⟩⟩:=h
 ·simp only[RV]at h1;obtain⟨u,us,rfl,h3,rfl⟩:=h1;simp only[int,R]at h3;rw[h3.1];rfl
 ·cases h2
theorem conc3:Tryz.prog.concrete 3=true:=by kernel_rfl
theorem Qas:Tryz.prog.concrete tClo=true:=by kernel_rfl
theorem Q5p:Tryz.prog.concrete tObj=true:=by kernel_rfl
theorem Q7p:Tryz.prog.concrete tTrap=true:=by kernel_rfl
theorem z3(w:World):(zeroValue 3).run Tryz.prog w=.ok (.int .i64 0) w:=Qgw zky w
theorem zObj(w:World):(zeroValue tObj).run Tryz.prog w=.ok (.pointer none) w:=Qgw zky w
def notT (t:Nat)(c:AC):Prop:=c=.lit .nilIface∨∃t' ag cs,c=.ifc t' ag cs/\Nat.beq t' t=false
section
variable {H:Hm}{nm:Nm2}{v:Vl}{c:AC}
theorem VR.isWord(h:VR H nm v c):(∃n,v=.word n/\c=iW n)∨((∀n,v≠.word n)/\notT 3 c):=by cases h <;> first|exact .inl ⟨_,rfl,rfl⟩|exact .inr ⟨by simp,.inl rfl⟩|exact .inr ⟨by simp,.inr ⟨_,_,_,rfl,rfl⟩⟩
theorem VR.isObj(h:VR H nm v c):(∃g fs cs,v=.obj g fs/\c=iB tObj [int g,.sl 1 cs]/\VsR H nm fs cs)∨((∀g fs,v≠.obj g fs)/\notT tObj c):=by cases h <;> first|exact .inl ⟨_,_,_,rfl,rfl,‹_›⟩|exact .inr ⟨by simp,.inl rfl⟩|exact .inr ⟨by simp,.inr ⟨_,_,_,rfl,rfl⟩⟩
end
theorem Q2q(n:Int):APure Tryz.prog Γ 207 [.one (iW n)] (.one (int n)):=by intro ou;refine zwk 15 Tryz.func207 fun hou=>?_;refine zA ?_;refine zS (Qtg conc3 rfl rfl) ?_;refine zA ?_;exact Qz0 rfl (Z46 rfl) zsy hou rfl
theorem Q92(b:Bool):APure Tryz.prog Γ 209 [.one (.lit (.bool b))] (.one (iB tObj [int (if b then 1 else 0),.sl 1 []])):=by
 intro ou;refine zwk 10 Tryz.func209 fun hou=>?_;refine zA ?_;refine Qyl rfl (fun hb=>?_) (fun hb=>?_)
 ·subst hb;repeat ((fail_if_success ((with_reducible refine oj ?_);refine Qtz 6 rfl ?_));first|refine zO ?_)
  refine Qyx (.l 0) 5 rfl rfl ?_;refine Qyz 5 rfl (y:=.one (.box [int 1,.sl 1 []])) (.one (Z45 (.cons (.refl _) (.cons (.nilS 1) .nil)))) ?_;refine zS (Qte Q5p rfl rfl) ?_;refine zA ?_;exact Qz0 rfl (Z46 rfl) (by simp[iB]) hou rfl
 ·subst hb;repeat ((fail_if_success ((with_reducible refine oj ?_);refine Qtz 9 rfl ?_));first|refine zO ?_)
  refine Qyx (.l 0) 8 rfl rfl ?_;refine Qyz 8 rfl (y:=.one (.box [int 0,.sl 1 []])) (.one (Z45 (.cons (.refl _) (.cons (.nilS 1) .nil)))) ?_;refine zS (Qte Q5p rfl rfl) ?_;refine zA ?_;exact Qz0 rfl (Z46 rfl) (by simp[iB]) hou rfl
theorem Qdg(n:Int)(h0:-2305843009213693952<=n)(h1:n<=2305843009213693952):APure Tryz.prog Γ 206 [.one (int n)] (.one (int (wrapW n))):=by intro ou;refine zwk 7 Tryz.func206 fun hou=>?_;refine zM ?_;refine zS (AStep.and rfl rfl rfl) ?_;rw[Qqa];have h4:0<=(n - (-1073741824)) % 2147483648:=Int.emod_nonneg _ zdy;have h5:(n - (-1073741824)) % 2147483648 < 2147483648:=Int.emod_lt_of_pos _ zdy;refine zM ?_;refine Qz0 rfl (Z46 ?_) zsy hou rfl;unfold wrapW;congr 3
theorem Qm4{H:Hm}{nm:Nm2}{v:Vl}(h:VR H nm v c):APure Tryz.prog Γ 81 [.one c] (.one (int (lastV v))):=by
 intro ou;refine zwk 17 Tryz.func81 fun hou=>?_;rcases h.isWord with ⟨n,rfl,rfl⟩|⟨hw,hn⟩
 ·refine zA ?_;refine zS (Qtg conc3 rfl rfl) ?_;refine zA ?_;exact Qz0 rfl (Z46 rfl) zsy hou rfl
 ·refine zA ?_;refine zS (Qth conc3 rfl z3 rfl rfl hn) ?_;refine zA ?_;rcases h.isObj with ⟨g,fs,cs,rfl,rfl,h2⟩|⟨ho,hn2⟩
  ·refine zS (Qtg Q5p rfl rfl) ?_;refine zA ?_;exact Qz0 rfl (Z46 rfl) zsy hou rfl
  ·refine zS (Qth Q5p rfl zObj rfl rfl hn2) ?_;refine zA ?_;refine Qz0 rfl (Z46 ?_) zsy hou rfl;cases v <;> first|rfl|exact absurd rfl (hw _)|exact absurd rfl (ho _ _)
theorem Qa3(t:Tr):APure Tryz.prog Γ 136 [.one (.box (cTr t))] (.one (int (opdN t))):=by
 intro ou;refine zwk 17 Tryz.func136 fun hou=>?_;unfold opdN;repeat' first|refine zN ?_|(with_reducible refine oj ?_;refine Qrq rfl rfl rfl rfl (fun hb=>?_) (fun hb=>?_))|(with_reducible refine ok ?_;first|refine Qsk rfl (fun hb=>?_) (fun hb=>?_)|refine Qyl rfl (fun hb=>?_) (fun hb=>?_))
 all_goals (refine Qz0 rfl (Z46 ?_) zsy hou rfl)
 all_goals (simp_all[int,Q0a])
theorem Qfo(id:Int)(vc ec:AC)(hv:vc.ids isO)(he:ec.ids isO)(ou:Outer):AFn Tryz.prog Γ 137 [.one ec,.one (int id),.one vc] ou
  (fun r ou'=>∃k,r=.one (.ptr (.o k) 0)/\NewO ou ou' [(k,.cells [int id,vc,ec])]):=by
 refine zwk 12 Tryz.func137 fun hou=>?_;repeat ((fail_if_success ((with_reducible refine oj ?_);refine Qtz 11 rfl ?_));first|refine zO ?_)
 (first|((with_reducible refine oj ?_);refine zau ?_)|(with_reducible refine zst ?_)|((with_reducible refine Q07 ?_ ?_);rfl)|(with_reducible refine ok ?_;first|refine Qyn rfl ?_|refine Qym rfl ?_))
 refine Qyw [0] rfl zdy hou fun k hk=>⟨[(11,.one (.ptr (.o k) 0))],[],[.cells [int id,vc,ec]],.cons rfl rfl .nil,.nil,?_,?_⟩
 ·exact .cons rfl (Qys (fun i hi=>by cases i with|l q=>exact hi.elim|o q=>rfl) _ ⟨trivial,hv,he,trivial⟩) .nil
 have hN:=NewO.add hk hou (show (AObj.cells [int id,vc,ec]).ids isO from ⟨trivial,hv,he,trivial⟩);refine zA ?_;exact Qst rfl (Z46 rfl) zsy hN.ok ⟨k,rfl,hN⟩
inductive Ch (H:Hm):AC->List (Int×AC)->Prop
 |nil:Ch H nilPE []
 |cons (i:Int) (k:Nat) (vc nc:AC) (l:List (Int×AC)) (hk:H k=some [int i,vc,nc]) (h:Ch H nc l):Ch H (.ptr (.o k) 0) ((i,vc)::l)
def lookI (id:Int):List (Int×AC)->AC
 |[]=>.lit .nilIface
 |(i,c)::l=>if i=id then c else lookI id l
theorem RecC.ch{H:Hm}{t:Tr}{top:AC}{b:AC}{lb:List (Int×AC)}(hb:Ch H b lb):∀{i:Nat}{c:AC},RecC H t top i c b->
  ∃l,Ch H c l/\∀id,(∃j q,Qab t.binds id i=some j/\lookI id l=.ifc tClo false [.ptr (.o q) 0]/\H q=some [.box (cTr (t.kids.getD j default)),top])∨(Qab t.binds id i=none/\lookI id l=lookI id lb)
 |_,_,.zero c=>⟨lb,hb,fun id=>.inr ⟨rfl,rfl⟩⟩
 |_,_,.succ i k q c b hk hq h=>by
  obtain⟨l,h1,h2⟩:=RecC.ch hb h;refine⟨_,.cons _ k _ _ l hk h1,fun id=>?_⟩;simp only[lookI,Qab];by_cases e:t.binds.getD i 0=id
  ·exact .inl ⟨i,q,by rw[if_pos e],by rw[if_pos e],hq⟩
  ·rw[if_neg e,if_neg e];exact h2 id
theorem ER.ch{H:Hm}{nm:Nm2}:∀{e:En}{c:AC},ER H nm e c->∃l,Ch H c l/\∀id,VR H nm (findE id e) (lookI id l)
 |_,_,.nil=>⟨[],.nil,fun id=>by simp only[findE,lookI];exact .nil⟩
 |_,_,.bind i v n k vc nc hk hv hn=>by
  obtain⟨l,h1,h2⟩:=ER.ch hn;refine⟨_,.cons i k vc nc l hk h1,fun id=>?_⟩;simp only[findE,lookI];by_cases e:i=id
  ·rw[if_pos e,if_pos e];exact hv
  ·rw[if_neg e,if_neg e];exact h2 id
 |_,_,.recs t n c nc hc hn=>by
  obtain⟨l,h1,h2⟩:=ER.ch hn;obtain⟨l',h3,h4⟩:=hc.ch h1;refine⟨l',h3,fun id=>?_⟩;simp only[findE];rcases h4 id with ⟨j,q,h5,h6,h7⟩|⟨h5,h6⟩
  ·rw[h5,h6];exact .cloP _ _ _ q h7 (.recs t n c nc hc hn)
  ·rw[h5,h6];exact h2 id
theorem Q3e(h:c.ids isO)(n:Nat):c.ids (inL n):=AC.ids_mono (fun i hi=>by cases i with|l k=>exact hi.elim|o k=>trivial) c h
theorem Q65{c:List (List AC)}(h:idsS isO c)(n:Nat):idsS (inL n) c:=Q7d (fun i hi=>by cases i with|l k=>exact hi.elim|o k=>trivial) c h
def InOu (H:Hm)(ou:Outer):Prop:=∀k cs,H k=some cs->ou k=some (.cells cs)
theorem Qn5(hΓ:GI Γ){H:Hm}{l:List (Int×AC)}(hc:Ch H c l)(id:Int)(ou:Outer)(hH:InOu H ou)(hci:c.ids isO)(hli:(lookI id l).ids isO):
  AFn Tryz.prog Γ 144 [.one c,.one (int id)] ou (fun r ou'=>r=.one (lookI id l)/\ou'=ou):=by
 refine zwk 21 Tryz.func144 fun hou=>?_;refine zA ?_;refine Qre hΓ (α:=AC×List (Int×AC)) (fun a=>[(1,.one (int id)),(0,.one a.1)]) (fun a=>⟨0,[],ou⟩) (fun m a=>Ch H a.1 a.2/\lookI id a.2=lookI id l/\a.1.ids isO/\m=a.2.length) (a0:=(c,l)) (ρ:=_root_.id) ⟨hc,rfl,hci,rfl⟩ (Qzw rfl zFW (by simp[Q3e hci]) zLO rfl rfl hou) fun m a ha=>?_;obtain⟨c1,l1⟩:=a;obtain⟨h1,h2,h3,rfl⟩:=ha;dsimp only at h1 h2 h3 ⊢;cases h1 with
 |nil=>
  refine zA ?_;refine zS (Qtb Tryz.underlying100 rfl rfl rfl) ?_;refine zA ?_;exact Qst (r':=.one (lookI id l)) rfl (Z46 (by rw[←h2];rfl)) hli hou ⟨rfl,rfl⟩
 |cons i k vc nc l2 hk hch=>
  have hx:=hH k _ hk;have Qvd:idsL isO [int i,vc,nc]:=hou k _ hx;have hnc:nc.ids isO:=Qvd.2.2.1;refine zA ?_;refine zS (Qta Tryz.underlying100 rfl rfl rfl) ?_;repeat' first|refine zN ?_|((with_reducible refine oj ?_);first|refine zix ?_|refine zow rfl rfl hx ?_)
  refine Qyl rfl (fun hb=>?_) (fun hb=>?_)
  ·have he:i=id:=by simpa using hb
   repeat' first|refine zN ?_|((with_reducible refine oj ?_);first|refine zix ?_|refine zow rfl rfl hx ?_)
   exact Qst (r':=.one (lookI id l)) rfl (Z46 (by rw[←h2];simp[lookI,he])) hli hou ⟨rfl,rfl⟩
  ·have he:i≠id:=by simpa using hb
   repeat' first|refine zN ?_|((with_reducible refine oj ?_);first|refine zix ?_|refine zow rfl rfl hx ?_)
   exact cInv ⟨l2.length,(nc,l2),_root_.id,by simp,⟨hch,by rw[←h2];simp[lookI,he],hnc,rfl⟩,Qzw rfl zFW (by simp[Q3e hnc]) zLO rfl rfl hou⟩
def plainO:AObj->Prop
 |.cells _=>True
 |.tok _ _ _=>True
 |.dead=>True
 |_=>False
structure Gro (ou:Outer)(H:Hm)(ou':Outer)(H':Hm):Prop where
 h:∀k cs,H k=some cs->H' k=some cs
 new:∀k,H k=none->H' k≠none->ou k=none
 old:∀k o,ou k=some o->ou' k=some o
 inO:InOu H' ou'
 ok:OuOk ou'
 pl:∀k o,ou' k=some o->ou k=some o∨plainO o
theorem Gro.refl{H:Hm}(h:InOu H ou)(ho:OuOk ou):Gro ou H ou H:=⟨fun _ _ h=>h,fun k h1 h2=>absurd h1 h2,fun _ _ h=>h,h,ho,fun _ _ h=>.inl h⟩
theorem Gro.trans{H H1 H2:Hm}(a:Gro ou H ou1 H1)(b:Gro ou1 H1 ou2 H2):Gro ou H ou2 H2:=by
 refine⟨fun k cs h=>b.h k cs (a.h k cs h),fun k h1 h2=>?_,fun k o h=>b.old k o (a.old k o h),b.inO,b.ok,fun k o h=>(b.pl k o h).elim (a.pl k o) .inr⟩;by_cases h3:H1 k=none
 ·have:=b.new k h3 h2;cases h4:ou k with
  |none=>rfl
  |some o=>rw[a.old k o h4]at this;cases this
 ·exact a.new k h1 h3
theorem Gro.mo{H H':Hm}(g:Gro ou H ou' H')(nm:Nm2):Mo H nm H' nm:=⟨g.h,fun _ _ h=>h⟩
def addH (H:Hm)(k:Nat)(cs:List AC):Hm:=fun j=>if j=k then some cs else H j
theorem Gro.add{H:Hm}(h:InOu H ou){cs:List AC}(hN:NewO ou ou' [(k,.cells cs)]):Gro ou H ou' (addH H k cs):=by
 have hk:ou k=none:=hN.new k (by simp[keys]);have hHk:H k=none:=by
  cases h1:H k with
  |none=>rfl
  |some c=>rw[h k c h1]at hk;cases hk
 have hold:∀j o,ou j=some o->ou' j=some o:=fun j o hj=>by rw[hN.old j (by simp[keys];rintro rfl;rw[hk]at hj;cases hj)];exact hj
 refine⟨fun j c hj=>?_,fun j h1 h2=>?_,hold,fun j c hj=>?_,hN.ok,fun j o hj=>?_⟩
 ·unfold addH;rw[if_neg (by rintro rfl;rw[hHk]at hj;cases hj)];exact hj
 ·unfold addH at h2;split at h2
  ·rename_i e;rw[e];exact hk
  ·exact absurd h1 h2
 ·unfold addH at hj;split at hj
  ·rename_i e;subst e;cases hj;exact hN.own (j,_) zsy
  ·exact hold j _ (h j c hj)
 ·by_cases e:j=k
  ·subst e;have:=hN.own (j,_) (Z23.2 rfl);rw[this]at hj;cases hj;exact .inr trivial
  ·rw[hN.old j (by simp[keys];exact e)]at hj;exact .inl hj
theorem Qfi(x:Int):∀(b:List Int)(l:List Vl)(e:En),allE e (b++[x]) l=.bind x (l.getD b.length .nil) (allE e b l)
 |[],l,e=>by cases l <;> simp[allE]
 |y::b,l,e=>by simp only[Z03,allE,Qfi x b];cases l <;> simp
theorem Qns(hΓ:GI Γ){H:Hm}{nm:Nm2}{e:En}{b:List Int}{l:List Vl}(he:ER H nm e ec)(hl:VsR H nm l cs)(hbl:b.length=l.length)(Qwz:b.length<=1048576)(ou:Outer)(hH:InOu H ou):
  AFn Tryz.prog Γ 141 [.one ec,.one (.sl 1 (b.map cI)),.one (.sl 1 cs)] ou (fun r ou'=>∃H' c,r=.one c/\Gro ou H ou' H'/\ER H' nm (allE e b l) c):=by
 have hei:=he.ids;have hci:=hl.ids;have hcl:=hl.len;refine zwk 25 Tryz.func141 fun hou=>?_;refine zA ?_;refine Qre hΓ (α:=Nat×AC×Outer×Hm) (fun a=>[(11,.one (int a.1)),(10,.one (int (b.map cI).length)),(9,.one (.sl 1 (b.map cI))),(2,.one (.sl 1 cs)),(0,.one a.2.1)]) (fun a=>⟨0,[],a.2.2.1⟩)
  (fun m a=>a.1<=b.length/\Gro ou H a.2.2.1 a.2.2.2/\ER a.2.2.2 nm (allE e (b.take a.1) l) a.2.1/\m=b.length - a.1) (a0:=(0,ec,ou,H)) (ρ:=_root_.id) ⟨by simp,Gro.refl hH hou,by simpa[allE]using he,rfl⟩
  (Qzw rfl zFW (by simp[Q3e hei,Q65 hci]) zLO rfl rfl hou) fun m a ha=>?_
 obtain⟨i,c,ou1,H1⟩:=a;obtain⟨hi,hg,he1,rfl⟩:=ha;dsimp only at hi hg he1 ⊢;have Qvs:=hg.ok;have hc1:=he1.ids;refine zA ?_;refine Qyl rfl (fun hb2=>?_) (fun hb2=>?_)
 ·have hlt:i < b.length:=by simpa using hb2
  clear hb2;obtain⟨x,hx⟩:=Q00 hlt;obtain⟨v,hv⟩:=Q00 (l:=l) (i:=i) zoy;obtain⟨y,hy,hvy⟩:=hl.get hv;have hyi:=hvy.ids;refine zA ?_;refine zS (zIA rfl rfl rfl zoy (Q0c hx)) ?_;refine zA ?_;refine zS (zIA rfl rfl rfl zoy (show cs[i]?=some [y]from hy)) ?_;refine zA ?_;refine Qrb hΓ rfl rfl rfl rfl rfl rfl rfl ⟨hc1,trivial,hyi,trivial⟩ Qvs (Qfo x y c hyi hc1 ou1) fun r ou2 hq Qvd Qvy=>?_;obtain⟨k,rfl,hN⟩:=hq;have hg2:=Gro.add hg.inO hN;have he2:ER (addH H1 k [int x,y,c]) nm (allE e (b.take (i+1)) l) (.ptr (.o k) 0):=by
   have ht:b.take (i+1)=b.take i++[x]:=Q0h hx;rw[ht,Qfi];have hlen:(b.take i).length=i:=by simp;omega
   rw[hlen,Z0o,hv];exact .bind x v _ k y c (by simp[addH]) (hvy.mo (((hg.trans hg2).mo nm))) (he1.mo (hg2.mo nm))
  refine zM ?_;exact cInv ⟨b.length - (i+1),(i+1,.ptr (.o k) 0,ou2,addH H1 k [int x,y,c]),_root_.id,by omega,⟨by omega,hg.trans hg2,he2,rfl⟩,Qzw rfl zFW (by simp[Q65 hci]) zLO rfl rfl Qvy⟩
 ·have hlt:i=b.length:=by simp at hb2;omega
  subst hlt;rw[Z2j]at he1;refine zA ?_;exact Qst (r':=.one c) rfl (Z47 _) hc1 Qvs ⟨H1,c,rfl,hg,he1⟩
structure FcT where
 ac:AC
 kt:Nat
abbrev FcT.ids (fc:FcT)(p:Abs.Id->Prop):Prop:=fc.ac.ids p
def mC (tc ec vc kc:AC)(out:List Int)(st fu:Int)(fc:FcT):List AC:=[tc,ec,vc,kc,.gs 1 (out.map cI) (.o fc.kt),int st,int fu,fc.ac]
def ouX (mc:List AC)(n:Nat)(ou:Outer):Outer:=fun k=>match k with
 |0=>some (.cells mc)
 |k+1=>ou (k+1)
theorem Qec{n:Nat}(h0:ou 0=some (.cells mc)):ou=ouX mc n ou:=by
 funext k
 match k with
 |0=>exact h0
 |k+1=>rfl
theorem setX(mc mc':List AC)(n:Nat)(ou:Outer):(⟨0,[],ouX mc n ou⟩:St).set (.o 0) (.cells mc')=⟨0,[],ouX mc' n ou⟩:=by
 simp only[St.set,St.mk.injEq,true_and];funext k
 match k with
 |0=>rfl
 |k+1=>simp[Q06 (show k+1≠0 by omega)];rfl
def TkR (ou:Outer)(H:Hm)(nm:Nm2):Prop:=∀cs,ou 0=some (.cells cs)->∀es i,cs[4]?=some (.gs 1 es i)->∃kt,i=.o kt/\1<=kt/\ou kt=some (.tok 3 1 es.length)/\H kt=none/\∀(a k n:Nat),nm[a]?=some (k,n)->k≠kt
structure WR (ou:Outer)(H:Hm)(nm:Nm2)(heap:List (List Vl)):Prop where
 inO:InOu H ou
 ok:OuOk ou
 len:nm.length=heap.length
 arr:∀(a k n:Nat),nm[a]?=some (k,n)->∃cs:List AC,ou k=some (.cells cs)/\VsR H nm (heap.getD a []) (cs.map fun c=>[c])/\n=cs.length
 aH:∀(a k n:Nat),nm[a]?=some (k,n)->H k=none
 aa:∀(a b k n n':Nat),nm[a]?=some (k,n)->nm[b]?=some (k,n')->a=b
 sep:H 0=none/\∀(a k n:Nat),nm[a]?=some (k,n)->1<=k
 tk:TkR ou H nm
 pl:∀k o,ou k=some o->plainO o
theorem WR.gro{H H':Hm}{nm:Nm2}{heap:List (List Vl)}(w:WR ou H nm heap)(g:Gro ou H ou' H')(h0:ou 0≠none)(h1:True):WR ou' H' nm heap:=by
 have hH:∀k,ou k≠none->H k=none->H' k=none:=fun k hk hh=>by
  cases h:H' k with
  |none=>rfl
  |some c=>exact absurd (g.new k hh (by rw[h];simp)) hk
 refine⟨g.inO,g.ok,w.len,fun a k n h=>?_,fun a k n h=>?_,w.aa,⟨hH 0 h0 w.sep.1,w.sep.2⟩,fun cs hc es i hi=>?_,fun k o hk=>(g.pl k o hk).elim (w.pl k o) id⟩
 ·obtain⟨cs,c1,c2,c3⟩:=w.arr a k n h;exact⟨cs,g.old k _ c1,c2.mo (g.mo nm),c3⟩
 ·obtain⟨cs,c1,c2,c3⟩:=w.arr a k n h;exact hH k (by rw[c1];simp) (w.aH a k n h)
 ·cases ho:ou 0 with
  |none=>exact absurd ho h0
  |some o=>
   have:=g.old 0 _ ho;rw[hc]at this;cases this;obtain⟨kt,e1,e2,e3,e4,e5⟩:=w.tk cs ho es i hi;exact⟨kt,e1,e2,g.old _ _ e3,hH kt (by rw[e3];simp) e4,e5⟩
theorem WR.put{n:Nat}{H:Hm}{nm:Nm2}{heap:List (List Vl)}(w:WR (ouX mc n ou) H nm heap)(hi:idsL isO mc')(h0:ou' 0=some (.cells mc'))(h1:mc'[4]?=mc[4]?)(h2:∀k,ou' (k+1)=ou (k+1)):WR ou' H nm heap:=by
 have e:∀k,1<=k->ou' k=ouX mc n ou k:=fun k hk=>by obtain⟨j,rfl⟩:∃j,k=j+1:=⟨k - 1,by omega⟩;rw[h2];rfl
 have hk2:∀k cs,H k=some cs->1<=k:=fun k cs hk=>by
  match k with
  |0=>rw[w.sep.1]at hk;cases hk
  |k+1=>omega
 refine⟨fun k cs hk=>?_,fun k o hk=>?_,w.len,fun a k n h=>?_,w.aH,w.aa,w.sep,fun cs hc es i hi=>?_,fun k o hk=>?_⟩
 ·rw[e k (hk2 k cs hk)];exact w.inO k cs hk
 ·match k with
  |0=>rw[h0]at hk;cases hk;exact hi
  |k+1=>rw[e _ zoy]at hk;exact w.ok _ o hk
 ·rw[e k (w.sep.2 a k n h)];exact w.arr a k n h
 ·rw[h0]at hc;cases hc;rw[h1]at hi;obtain⟨kt,e1,e2,e3,e4,e5⟩:=w.tk mc rfl es i hi;exact⟨kt,e1,e2,(e kt e2).trans e3,e4,e5⟩
 ·match k with
  |0=>rw[h0]at hk;cases hk;trivial
  |k+1=>rw[e _ zoy]at hk;exact w.pl _ o hk
inductive CR (H:Hm)(nm:Nm2):Ctl->AC->AC->AC->Prop
 |ev (t:Tr) (e:En) (ec vc:AC) (he:ER H nm e ec):CR H nm (.ev t e) (.box (cTr t)) ec vc
 |rt (v:Vl) (ec vc:AC) (hv:VR H nm v vc):CR H nm (.rt v) nilPE ec vc
structure M0 (fu:Int)(fc:FcT)(ou:Outer)(H:Hm)(nm:Nm2)(m:Ms)(tc ec vc kc:AC):Prop where
 ids:tc.ids isO/\ec.ids isO/\vc.ids isO/\kc.ids isO
 m0:ou 0=some (.cells (mC tc ec vc kc m.out m.steps fu fc))
 w:WR ou H nm m.heap
structure MR (fu:Int)(fc:FcT)(ou:Outer)(H:Hm)(nm:Nm2)(m:Ms):Prop where
 ex:∃kt tc ec vc kc,CR H nm m.c tc ec vc/\KR H nm m.k kc/\M0 fu ⟨fc.ac,kt⟩ ou H nm m tc ec vc kc
theorem MR.ok{fu:Int}{fc:FcT}{H:Hm}{nm:Nm2}{m:Ms}{ou:Outer}(h:MR fu fc ou H nm m):OuOk ou:=h.ex.choose_spec.choose_spec.choose_spec.choose_spec.choose_spec.2.2.w.ok
structure PR (ou:Outer)(m:Ms):Prop where
 ok:OuOk ou
 m0:∃tc ec vc kc fu fc,ou 0=some (.cells (mC tc ec vc kc m.out m.steps fu fc))
theorem M0.pr{fc:FcT}{H:Hm}{nm:Nm2}{m:Ms}{tc:AC}(h:M0 fu fc ou H nm m tc ec vc kc):PR ou m:=⟨h.w.ok,⟨_,_,_,_,_,_,h.m0⟩⟩
def StQ (fu:Int)(fc:FcT)(H:Hm)(nm:Nm2)(x:Except Int Ms):FV->Outer->Prop:=fun r ou'=>r=unitF/\∃H' nm' m',x=.ok m'/\Mo H nm H' nm'/\MR fu fc ou' H' nm' m'
def StP (m:Ms)(x:Except Int Ms):List PanicEntry->Outer->Prop:=fun ps ou'=>∃c,x=.error c/\ps=trapE c/\PR ou' m
theorem M0.ouX{fu:Int}{fc:FcT}{ou:Outer}{H:Hm}{nm:Nm2}{m:Ms}{tc ec vc kc:AC}(h:M0 fu fc ou H nm m tc ec vc kc):ou=ouX (mC tc ec vc kc m.out m.steps fu fc) m.out.length ou:=Qec h.m0
theorem KR.cell{H:Hm}{nm:Nm2}{t:Tr}{e:En}{d:List Vl}{k:List Fm}(h:KR H nm (.mk t e d::k) c):∃ec dc kc,c=.box [.box (cTr t),ec,.sl 1 dc,kc]/\ER H nm e ec/\VsR H nm d dc/\KR H nm k kc:=by
 cases h with
 |cons _ _ _ _ ec dc kc he hd hk=>exact⟨ec,dc,kc,rfl,he,hd,hk⟩
theorem Qua{fc:FcT}{n:Nat}{H:Hm}{nm:Nm2}{m:Ms}{e:En}{k:List Fm}(w:WR (ouX mc n ou0) H nm m.heap)(he:ER H nm e ec)(hk:KR H nm k kc)(hv:vc.ids isO)(hf:fc.ids isO)
  (h0:ou' 0=some (.cells (mC (.box (cTr s)) ec vc kc m.out m.steps fu fc))) (h1:mc[4]?=some (.gs 1 (m.out.map cI) (.o fc.kt))) (h2:∀k,ou' (k+1)=ou0 (k+1)):MR fu fc ou' H nm { m with c:=.ev s e,k:=k }:=
 have hi:idsL isO (mC (.box (cTr s)) ec vc kc m.out m.steps fu fc):=by simp[mC,he.ids,hk.ids,hv,hf]
 ⟨fc.kt,_,_,_,_,.ev s e ec vc he,hk,⟨by simp,he.ids,hv,hk.ids⟩,h0,w.put hi h0 h1.symm h2⟩
theorem Qub{fc:FcT}{n:Nat}{H:Hm}{nm:Nm2}{m:Ms}{v:Vl}{k:List Fm}(w:WR (ouX mc n ou0) H nm m.heap)(he:VR H nm v vc)(hk:KR H nm k kc)(hv:ec.ids isO)(hf:fc.ids isO)
  (h0:ou' 0=some (.cells (mC nilPE ec vc kc m.out m.steps fu fc))) (h1:mc[4]?=some (.gs 1 (m.out.map cI) (.o fc.kt))) (h2:∀k,ou' (k+1)=ou0 (k+1)):MR fu fc ou' H nm { m with c:=.rt v,k:=k }:=
 have hi:idsL isO (mC nilPE ec vc kc m.out m.steps fu fc):=by simp[mC,he.ids,hk.ids,hv,hf,nilPE]
 ⟨fc.kt,_,_,_,_,.rt v ec vc he,hk,⟨trivial,hv,he.ids,hk.ids⟩,h0,w.put hi h0 h1.symm h2⟩
theorem Qpk(hΓ:GI Γ){fc:FcT}{fns:List Fun}{H:Hm}{nm:Nm2}{m:Ms}{tc0 ec0 vc0 kc0:AC}(h0:M0 fu fc ou H nm m tc0 ec0 vc0 kc0)(hfc:fc.ids isO)
  {t:Tr}{e:En}{d:List Vl}{k:List Fm}{dc:List (List AC)}(he:ER H nm e ec) (hd:VsR H nm d dc) (hk:KR H nm k kc)(hlt:d.length < opdN t) (hs:t.kids[d.length]?=some s):
  AFnP Tryz.prog Γ 111 [.one (.ptr (.o 0) 0),.one (.box [.box (cTr t),ec,.sl 1 dc,kc])] ou (StQ fu fc H nm (kidM fu fns m (.mk t e d) k)) (StP m (kidM fu fns m (.mk t e d) k)):=by
 have hoX:=h0.ouX;have hei:=he.ids;have hdi:=hd.ids;have hki:=hk.ids;have hdl:=hd.len;rw[hoX];have hw:=h0.w;rw[hoX]at hw;generalize hmc:ou=ou0 at hw;clear hoX;refine AFnP.walk 262 tabOk hΓ Z3w rfl zky rfl rfl fun hou=>?_;refine zA ?_;refine zdx 10 [(9,.one (int (opdN t)))] ?_ ?_
 ·exact⟨⟨_,rfl,Qqy hΓ rfl rfl rfl (by simp[idsF]) hou (Qa3 t)⟩,trivial⟩
 refine zA ?_;refine Qyl rfl (fun hb=>?_) (fun hb=>absurd hb (by simp[hdl];exact hlt));refine zA ?_;have hsc:(Q0y t.kids)[d.length]?=some [.box (cTr s)]:=Q1z hs;generalize hM:ouX (mC tc0 ec0 vc0 kc0 m.out m.steps fu fc) m.out.length ou0=ou1 at hou hw ⊢;subst hM;refine ACode.drawC2 tabOk 28 [24,25,26,27] [(15,.one (.box [.box (cTr s)]))] (fun vs σ=>match vs with
   |[]=>σ=⟨0,[],ouX (mC tc0 ec0 vc0 kc0 m.out m.steps fu fc) m.out.length ou0⟩
   |[_]=>σ=⟨0,[],ouX (mC (.box (cTr s)) ec0 vc0 kc0 m.out m.steps fu fc) m.out.length ou0⟩
   |[_,v]=>v=.one (.ptr (.o 0) 0)/\σ=⟨0,[],ouX (mC (.box (cTr s)) ec0 vc0 kc0 m.out m.steps fu fc) m.out.length ou0⟩
   |[_,v,w]=>v=.one (.ptr (.o 0) 0)/\w=.one (.ptr (.o 0) 1)/\σ=⟨0,[],ouX (mC (.box (cTr s)) ec0 vc0 kc0 m.out m.steps fu fc) m.out.length ou0⟩
   |[_,v,w,_]=>v=.one (.ptr (.o 0) 0)/\w=.one (.ptr (.o 0) 1)/\σ=⟨0,[],ouX (mC (.box (cTr s)) ec vc0 kc0 m.out m.steps fu fc) m.out.length ou0⟩
   |_=>False) follows zky rfl rfl zdy zky zky rfl rfl ?_ ?_ zdy ?_ ?_
 ·intro vs σ h
  match vs with
  |[]=>subst h;rfl
  |[_]=>subst h;rfl
  |[_,_]=>obtain⟨_,rfl⟩:=h;rfl
  |[_,_,_]=>obtain⟨_,_,rfl⟩:=h;rfl
  |[_,_,_,_]=>obtain⟨_,_,rfl⟩:=h;rfl
  |_::_::_::_::_::_=>exact h.elim
 ·intro vs σ h;exact⟨⟨_,rfl,zIA rfl rfl rfl zoy (by simpa[hdl]using hsc)⟩,trivial⟩
 ·intro vs σ h i o hi ho
  match vs with
  |[]=>subst h;cases hi;cases ho;exact⟨rfl,.inl (.inl ⟨.bot,_,Qqt tabOk rfl,setX _ _ _ _⟩)⟩
  |[_]=>subst h;cases hi;cases ho;exact⟨rfl,.inl (.inl ⟨_,_,Qqs tabOk rfl,rfl,rfl⟩)⟩
  |[_,_]=>obtain⟨rfl,rfl⟩:=h;cases hi;cases ho;exact⟨rfl,.inl (.inl ⟨_,_,Qqs tabOk rfl,rfl,rfl,rfl⟩)⟩
  |[_,_,_]=>obtain⟨rfl,rfl,rfl⟩:=h;cases hi;cases ho;exact⟨rfl,.inl (.inl ⟨.bot,_,Qqt tabOk rfl,rfl,rfl,setX _ _ _ _⟩)⟩
  |_::_::_::_::_=>cases hi
 ·intro vs σ hl h
  match vs with
  |[_,_,_,_]=>
   obtain⟨rfl,rfl,rfl⟩:=h;refine zA ?_;have hM:MR fu fc _ H nm { m with c:=.ev s e,k:=.mk t e d::k }:=Qua (ou':=(St.set ⟨0,[],ouX (mC (.box (cTr s)) ec vc0 kc0 m.out m.steps fu fc) m.out.length ou0⟩ (.o 0) (.cells (mC (.box (cTr s)) ec vc0 (.box [.box (cTr t),ec,.sl 1 dc,kc]) m.out m.steps fu fc))).ou) hw he (.cons t e d k ec dc kc he hd hk) h0.ids.2.2.1 hfc rfl rfl (fun _=>rfl);refine Qst rfl (Z47 _) zsy hM.ok ⟨rfl,H,nm,_,?_,.refl _ _,hM⟩;unfold kidM;rw[if_pos (show (Fm.mk t e d).done.length < opdN (Fm.mk t e d).t from hlt)];simp only[Qu9,Qu7,Qu8];rw[Z0o,hs];rfl
  |[]|[_]|[_,_]|[_,_,_]=>cases hl
  |_::_::_::_::_::_=>exact h.elim
theorem ACode.stEq{c:Code}(h:σ=σ')(k:ACode E c K fr σ'):ACode E c K fr σ:=h▸k
theorem AOps.stEq{ops:Array Oper}{l:List Oper}(h:σ=σ')(k:AOps E ops l K fr σ'):AOps E ops l K fr σ:=h▸k
def GrP (mc:List AC)(n:Nat)(ou0:Outer)(H:Hm)(mc':List AC)(R:FV->Hm->Prop):FV->St->Prop:=fun v σ=>∃ou1 H1,σ=⟨0,[],ouX mc' n ou1⟩/\Gro (ouX mc n ou0) H (ouX mc n ou1) H1/\R v H1
theorem GrP.of{n:Nat}{H H1:Hm}{R:FV->Hm->Prop}{v:FV}(g:Gro (ouX mc n ou0) H ou' H1)(h:R v H1):GrP mc n ou0 H mc R v ⟨0,[],ou'⟩:=by have e:=Qec (n:=n) (g.old 0 _ rfl);refine⟨ou',H1,by rw[←e],?_,h⟩;rw[←e];exact g
section
variable {fu:Int}{fc:FcT}{fns:List Fun}{ou:Outer}{H:Hm}{nm:Nm2}{m:Ms}{tc0 ec0 vc0 kc0:AC}{t:Tr}{e:En}{d:List Vl}{k:List Fm}{ec:AC}{dc:List (List AC)}{kc:AC}
theorem kid_let(hΓ:GI Γ)(h0:M0 fu fc ou H nm m tc0 ec0 vc0 kc0)(hfc:fc.ids isO)(he:ER H nm e ec)(hd:VsR H nm d dc)(hk:KR H nm k kc){v:Vl}(hdv:d=[v]){id:Int}(h4:t.op=4)(hs:t.kids[1]?=some s)(hbn:t.binds=[id]):
  AFnP Tryz.prog Γ 111 [.one (.ptr (.o 0) 0),.one (.box [.box (cTr t),ec,.sl 1 dc,kc])] ou (StQ fu fc H nm (kidM fu fns m (.mk t e d) k)) (StP m (kidM fu fns m (.mk t e d) k)):=by
 have hoX:=h0.ouX;have hei:=he.ids;have hdi:=hd.ids;have hki:=hk.ids;have hdl:=hd.len;have hop:opdN t=1:=by unfold opdN;rw[if_pos (.inl h4)]
 subst hdv;obtain⟨y,hy,hvy⟩:=hd.get (i:=0) rfl;rw[hoX];have hw:=h0.w;rw[hoX]at hw;generalize hmc:ou=ou0 at hw;clear hoX;refine AFnP.walk 262 tabOk hΓ Z3w rfl zky rfl rfl fun hou=>?_;refine zA ?_;refine zdx 10 [(9,.one (int (opdN t)))] ?_ ?_
 ·exact⟨⟨_,rfl,Qqy hΓ rfl rfl rfl (by simp[idsF]) hou (Qa3 t)⟩,trivial⟩
 refine zA ?_;refine Qyl rfl (fun hb=>absurd hb (by simp[hdl,hop])) (fun hb=>?_);refine zA ?_;refine ACode.stEq (σ':=⟨0,[],ouX (mC tc0 ec0 vc0 kc m.out m.steps fu fc) m.out.length ou0⟩) (setX _ _ _ _) ?_;have hw1:WR (ouX (mC tc0 ec0 vc0 kc m.out m.steps fu fc) m.out.length ou0) H nm m.heap:=hw.put (by simp[mC,h0.ids.1,h0.ids.2.1,h0.ids.2.2.1,hki,hfc]) rfl rfl (fun _=>rfl);have hyi:=hvy.ids;have hsc:(Q0y t.kids)[1]?=some [.box (cTr s)]:=Q1z hs;have hbc:(t.binds.map cI)[0]?=some [int id]:=by rw[hbn];rfl
 refine Qyl rfl (fun _=>?_) (fun hb=>absurd hb (by simp[h4]));refine Qyo tabOk 34 30 31 32 33 (.one (.ptr (.o 0) 0)) (.one (.ptr (.o 0) 0)) [(9,.one (.box [.box (cTr s)])),(22,.one (.box [int id])),(28,.one (.box [y]))]
  (GrP (mC tc0 ec0 vc0 kc m.out m.steps fu fc) m.out.length ou0 H (mC tc0 ec0 vc0 kc m.out m.steps fu fc) fun v H1=>∃q,v=.one (.ptr (.o q) 0)/\H1 q=some [int id,y,ec])
  (GrP (mC tc0 ec0 vc0 kc m.out m.steps fu fc) m.out.length ou0 H (mC (.box (cTr s)) ec0 vc0 kc m.out m.steps fu fc) fun v H1=>∃q,v=.one (.ptr (.o q) 0)/\H1 q=some [int id,y,ec])
  follows zky rfl rfl zdy zky zky rfl rfl rfl rfl rfl rfl rfl ?_ ?_ ?_ ?_ ?_ ?_ ?_ ?_ ?_ ?_
 ·rintro v σ ⟨ou1,H1,rfl,_,_⟩;rfl
 ·rintro v σ ⟨ou1,H1,rfl,_,_⟩;rfl
 ·exact⟨⟨_,rfl,zIA rfl rfl rfl zdy hsc⟩,⟨_,rfl,zIA rfl rfl rfl zdy hbc⟩,⟨_,rfl,zIA rfl rfl rfl zdy hy⟩,trivial⟩
 ·rintro v σ ⟨ou1,H1,rfl,_,_⟩;exact⟨⟨_,rfl,zIA rfl rfl rfl zdy hsc⟩,⟨_,rfl,zIA rfl rfl rfl zdy hbc⟩,⟨_,rfl,zIA rfl rfl rfl zdy hy⟩,trivial⟩
 ·rintro v σ ⟨ou1,H1,rfl,_,_⟩;exact⟨⟨_,rfl,zIA rfl rfl rfl zdy hsc⟩,⟨_,rfl,zIA rfl rfl rfl zdy hbc⟩,⟨_,rfl,zIA rfl rfl rfl zdy hy⟩,trivial⟩
 ·refine Qtl (Q1m.call hΓ rfl rfl rfl rfl ⟨hei,trivial,hyi,trivial⟩ hw1.ok (Qfo id y ec hyi hei _) fun r ou' hq hr ho=>?_);obtain⟨q,rfl,hN⟩:=hq;exact GrP.of (Gro.add hw1.inO hN) ⟨q,rfl,by simp[addH]⟩
 ·rintro v σ ⟨ou1,H1,rfl,_,q,rfl,_⟩;exact Qqs tabOk rfl
 ·rintro v σ ⟨ou1,H1,rfl,_,q,rfl,_⟩;exact Qqs tabOk rfl
 ·rintro v σ ⟨ou1,H1,rfl,h1,h2⟩;exact⟨_,⟨ou1,H1,setX _ _ _ _,h1,h2⟩,Qqt tabOk rfl⟩
 ·rintro v' σ ⟨ou1,H1,rfl,h1,q,rfl,h3⟩;refine zA ?_;have hw2:=hw1.gro h1 (by simp[ouX]) (by simp[ouX]);have hM:MR fu fc _ H1 nm { m with c:=.ev s (.bind id v e),k:=k }:=Qua (ou':=(St.set ⟨0,[],ouX (mC (.box (cTr s)) ec0 vc0 kc m.out m.steps fu fc) m.out.length ou1⟩ (.o 0) (.cells (mC (.box (cTr s)) (.ptr (.o q) 0) vc0 kc m.out m.steps fu fc))).ou) hw2 (.bind id v e q y ec h3 (hvy.mo (h1.mo nm)) (he.mo (h1.mo nm))) (hk.mo (h1.mo nm)) h0.ids.2.2.1 hfc rfl rfl (fun _=>rfl);refine Qst rfl (Z47 _) zsy hM.ok ⟨rfl,H1,nm,_,?_,h1.mo nm,hM⟩;unfold kidM;rw[if_neg (show ¬(Fm.mk t e [v]).done.length < opdN (Fm.mk t e [v]).t by simp[hop]),if_pos (show (Fm.mk t e [v]).t.op=4 from h4)];simp only[Qu9,Qu7,Qu8,hbn];rw[Z0o,hs];rfl
end
theorem setXs(N:Nat)(lo:List (Nat×AObj))(mc mc':List AC)(n:Nat)(ou:Outer):(⟨N,lo,ouX mc n ou⟩:St).set (.o 0) (.cells mc')=⟨N,lo,ouX mc' n ou⟩:=by have:=setX mc mc' n ou;simp only[St.set,St.mk.injEq,true_and]at this ⊢;exact this
def GrS (mc:List AC)(n:Nat)(ou0:Outer)(H:Hm)(mc':List AC)(L:Nat×List (Nat×AObj))(R:FV->Hm->Prop):FV->St->Prop:=fun v σ=>∃ou1 H1,σ=⟨L.1,L.2,ouX mc' n ou1⟩/\Gro (ouX mc n ou0) H (ouX mc n ou1) H1/\R v H1
theorem GrS.of{n:Nat}{H H1:Hm}{L:Nat×List (Nat×AObj)}{R:FV->Hm->Prop}{v:FV}(g:Gro (ouX mc n ou0) H ou' H1)(h:R v H1):GrS mc n ou0 H mc L R v ⟨L.1,L.2,ou'⟩:=by have e:=Qec (n:=n) (g.old 0 _ rfl);refine⟨ou',H1,by rw[←e],?_,h⟩;rw[←e];exact g
section
variable {fu:Int}{fc:FcT}{fns:List Fun}{ou:Outer}{H:Hm}{nm:Nm2}{m:Ms}{tc0 ec0 vc0 kc:AC}{t:Tr}{e:En}{d:List Vl}{k:List Fm}{ec:AC}{dc:List (List AC)}
theorem Qfa{tag:Int}{fs:List Vl}{e:En}{kids:List Tr}{a:Alt}{al:List Alt}(h:al.drop i=a::al.drop (i+1))(h1:a.tag≠tag)(h2:a.tag≠-1):Q21 tag fs e kids i (al.drop i)=Q21 tag fs e kids (i+1) (al.drop (i+1)):=by rw[h,Q21,if_neg h1,if_neg h2]
theorem Qk6{v:Vl}(h:∀g fs,v≠.obj g fs):Q3g m t e v=.error 5:=by cases v <;> first|rfl|exact absurd rfl (h _ _)
theorem Qnj(hΓ:GI Γ)(h0:M0 fu fc ou H nm m tc0 ec0 vc0 kc)(hfc:fc.ids isO)(he:ER H nm e ec)(hd:VsR H nm d dc)(hk:KR H nm k kc){v:Vl}(hdv:d[0]?=some v)(hkl:t.kids.length=1+t.alts.length)(hal:t.alts.length<=1048576)(hbl:∀a∈t.alts,a.binds.length<=1048576)(nx:AC)(hnx:nx.ids isO):
  AFnP Tryz.prog Γ 138 [.one (.ptr (.o 0) 0),.one (.box [.box (cTr t),ec,.sl 1 dc,nx])] ou (StQ fu fc H nm (Q3g { m with k:=k } t e v)) (StP m (Q3g { m with k:=k } t e v)):=by
 have hoX:=h0.ouX;have hei:=he.ids;have hdi:=hd.ids;have hki:=hk.ids;have hpr:=h0.pr;obtain⟨y,hy,hvy⟩:=hd.get hdv;have hyi:=hvy.ids;rw[hoX]at hpr ⊢;have hw:=h0.w;rw[hoX]at hw;generalize hmc:ou=ou0 at hw hpr;clear hoX;refine AFnP.walk 120 tabOk hΓ Tryz.func138 rfl zky rfl rfl fun hou=>?_;refine zA ?_;refine zS (zIA rfl rfl rfl zdy hy) ?_;refine zA ?_;rcases hvy.isObj with ⟨g,fs,cs,rfl,rfl,hfs⟩|⟨ho,hno⟩
 ·refine zS (Qtg Q5p rfl rfl) ?_;have hci:=hfs.ids;have hcl:=hfs.len;have hfcell:(FV.one (.box [.box (cTr t),ec,.sl 1 dc,nx])).ids isO:=⟨by simp,hei,hdi,hnx,trivial⟩;have hocell:(FV.one (.box [int g,.sl 1 cs])).ids isO:=⟨trivial,hci,trivial⟩;refine zA ?_;refine Qre hΓ (α:=Nat) (fun i=>[(30,.one (int i)),(29,.one (int (t.alts.map cAlt).length)),(28,.one (.sl 2 (t.alts.map cAlt))),(4,.one (.box [int g,.sl 1 cs])),(1,.one (.box [.box (cTr t),ec,.sl 1 dc,nx])),(0,.one (.ptr (.o 0) 0))])
   (fun i=>⟨0,[],ouX (mC tc0 ec0 vc0 kc m.out m.steps fu fc) m.out.length ou0⟩) (fun n i=>i<=t.alts.length/\Q21 g fs e t.kids i (t.alts.drop i)=Q21 g fs e t.kids 0 t.alts/\n=t.alts.length - i) (a0:=0) (ρ:=_root_.id) ⟨by simp,by simp,rfl⟩
   (Qzw rfl zFW (by simp[Q3e hei,Q65 hdi,Q3e hnx,Q65 hci]) zLO rfl rfl hou) fun n i hi=>?_
  obtain⟨hil,hch,rfl⟩:=hi;refine zA ?_;refine Qyl rfl (fun hb2=>?_) (fun hb2=>?_)
  ·have hlt:i < t.alts.length:=by simpa using hb2
   clear hb2;obtain⟨a,ha⟩:=Q00 hlt;have hdr:t.alts.drop i=a::t.alts.drop (i+1):=by rw[Z07 hlt];congr 1;exact Z3n ((Z0t hlt).symm.trans ha)
   refine zA ?_;refine zS (zIA rfl rfl rfl zoy (Q0c ha)) ?_;refine zA ?_;have hk1:1+i < t.kids.length:=by omega
   obtain⟨s,hs⟩:=Q00 hk1;have hsc:(Q0y t.kids)[1+i]?=some [.box (cTr s)]:=Q1z hs;have hgd:t.kids.getD (1+i) default=s:=by rw[Z0o,hs];rfl
   have hadd:Q4w .i64 ((1:Int)+(i:Int)):=Q2m zoy zoy;have hix:(Q0y t.kids)[((1:Int)+(i:Int)).toNat]?=some [.box (cTr s)]:=by rw[show ((1:Int)+(i:Int)).toNat=1+i by omega];exact hsc
   by_cases Qwp:a.tag=g
   ·refine zdx 18 [(6,.one (.lit (.bool true)))] ?_ ?_
    ·exact .step rfl (Qs2 tabOk rfl (by simp[Qwp])) .nil
    refine zA ?_;refine Qyl rfl (fun hb3=>?_) (fun hb3=>?_)
    ·refine zA ?_;refine zS (Qtf Q7p rfl rfl) ?_;refine Qtk rfl rfl rfl fun w C v hv=>⟨hou,5,?_,Q6z hv,hpr⟩;unfold Q3g;simp only[←hch];rw[hdr,Q21,if_pos Qwp,if_neg (by simp[hcl]at hb3;omega)];rfl
    ·have hlen:a.binds.length=fs.length:=by simp[hcl]at hb3;omega
     refine zA ?_;refine zdx 7 [(6,.one (.lit (.bool true)))] ?_ ?_
     ·exact .step rfl (Qs2 tabOk rfl (by simp[Qwp])) .nil
     refine zA ?_;refine Qyo tabOk 27 23 24 25 26 (.one (.ptr (.o 0) 0)) (.one (.ptr (.o 0) 0)) [(10,.one (int ((1:Int)+(i:Int)))),(11,.one (.box [.box (cTr s)]))]
      (GrS (mC tc0 ec0 vc0 kc m.out m.steps fu fc) m.out.length ou0 H (mC tc0 ec0 vc0 kc m.out m.steps fu fc) (1,[(0,.cells (cAlt a)),(0,.cells [int 0,.lit (.slice none 0 0)])]) fun v H1=>∃c,v=.one c/\ER H1 nm (allE e a.binds fs) c)
      (GrS (mC tc0 ec0 vc0 kc m.out m.steps fu fc) m.out.length ou0 H (mC (.box (cTr s)) ec0 vc0 kc m.out m.steps fu fc) (1,[(0,.cells (cAlt a)),(0,.cells [int 0,.lit (.slice none 0 0)])]) fun v H1=>∃c,v=.one c/\ER H1 nm (allE e a.binds fs) c)
      follows zky rfl rfl zdy zky zky rfl rfl rfl rfl rfl rfl rfl ?_ ?_ ?_ ?_ ?_ ?_ ?_ ?_ ?_ ?_
     ·rintro v σ ⟨ou1,H1,rfl,_,_⟩;rfl
     ·rintro v σ ⟨ou1,H1,rfl,_,_⟩;rfl
     ·exact⟨⟨_,rfl,Qr0 rfl rfl rfl (.inl ⟨rfl,rfl⟩) hadd⟩,⟨_,rfl,zIA rfl rfl rfl zoy hix⟩,trivial⟩
     ·rintro v σ ⟨ou1,H1,rfl,_,_⟩;exact⟨⟨_,rfl,Qr0 rfl rfl rfl (.inl ⟨rfl,rfl⟩) hadd⟩,⟨_,rfl,zIA rfl rfl rfl zoy hix⟩,trivial⟩
     ·rintro v σ ⟨ou1,H1,rfl,_,_⟩;exact⟨⟨_,rfl,Qr0 rfl rfl rfl (.inl ⟨rfl,rfl⟩) hadd⟩,⟨_,rfl,zIA rfl rfl rfl zoy hix⟩,trivial⟩
     ·refine Qtl (Q1m.call hΓ rfl rfl rfl rfl ⟨hei,by simp,hci,trivial⟩ hw.ok (Qns hΓ he hfs hlen (hbl a (Z1y ha)) _ hw.inO) fun r ou' hq hr ho=>?_);obtain⟨H1,c,rfl,hg,hec⟩:=hq;exact GrS.of hg ⟨c,rfl,hec⟩
     ·rintro v σ ⟨ou1,H1,rfl,_,_,rfl,_⟩;exact Qqs tabOk rfl
     ·rintro v σ ⟨ou1,H1,rfl,_,_,rfl,_⟩;exact Qqs tabOk rfl
     ·rintro v σ ⟨ou1,H1,rfl,h1,h2⟩;exact⟨_,⟨ou1,H1,setXs _ _ _ _ _ _,h1,h2⟩,Qqt tabOk rfl⟩
     ·rintro v' σ ⟨ou1,H1,rfl,h1,c,rfl,h3⟩;refine zA ?_;have hw2:=hw.gro h1 (by simp[ouX]) (by simp[ouX]);have hM:MR fu fc _ H1 nm { m with c:=.ev s (allE e a.binds fs),k:=k }:=Qua (ou':=(St.set ⟨0,[],ouX (mC (.box (cTr s)) ec0 vc0 kc m.out m.steps fu fc) m.out.length ou1⟩ (.o 0) (.cells (mC (.box (cTr s)) c vc0 kc m.out m.steps fu fc))).ou) hw2 h3 (hk.mo (h1.mo nm)) h0.ids.2.2.1 hfc rfl rfl (fun _=>rfl);refine Qst rfl (Z47 _) zsy hM.ok ⟨rfl,H1,nm,_,?_,h1.mo nm,hM⟩;unfold Q3g;simp only[←hch];rw[hdr,Q21,if_pos Qwp,if_pos hlen,hgd];rfl
   ·refine zdx 18 [(6,.one (.lit (.bool false)))] ?_ ?_
    ·exact .step rfl (Qs2 tabOk rfl (by simp[Qwp])) .nil
    refine zA ?_;refine zdx 7 [(6,.one (.lit (.bool false)))] ?_ ?_
    ·exact .step rfl (Qs2 tabOk rfl (by simp[Qwp])) .nil
    refine zA ?_;refine Qyl rfl (fun hb3=>?_) (fun hb3=>?_)
    ·have h1:a.tag=-1:=by simpa using hb3
     refine zA ?_;refine ACode.drawSt tabOk 20 19 [(10,.one (int ((1:Int)+(i:Int)))),(11,.one (.box [.box (cTr s)]))] _ follows zky rfl rfl zky rfl ?_ rfl rfl rfl rfl ?_ ?_ (Qqt tabOk rfl) ?_
     ·rfl
     ·exact⟨⟨_,rfl,Qr0 rfl rfl rfl (.inl ⟨rfl,rfl⟩) hadd⟩,⟨_,rfl,zIA rfl rfl rfl zoy hix⟩,trivial⟩
     ·exact⟨⟨_,rfl,Qr0 rfl rfl rfl (.inl ⟨rfl,rfl⟩) hadd⟩,⟨_,rfl,zIA rfl rfl rfl zoy hix⟩,trivial⟩
     refine zA ?_;have hM:MR fu fc _ H nm { m with c:=.ev s e,k:=k }:=Qua (ou':=(St.set (St.set ⟨0,[],ouX (mC tc0 ec0 vc0 kc m.out m.steps fu fc) m.out.length ou0⟩ (.o 0) (.cells (mC (.box (cTr s)) ec0 vc0 kc m.out m.steps fu fc))) (.o 0) (.cells (mC (.box (cTr s)) ec vc0 kc m.out m.steps fu fc))).ou) hw he hk h0.ids.2.2.1 hfc rfl rfl (fun _=>rfl);refine Qst rfl (Z47 _) zsy hM.ok ⟨rfl,H,nm,_,?_,.refl _ _,hM⟩;unfold Q3g;simp only[←hch];rw[hdr,Q21,if_neg Qwp,if_pos h1,hgd];rfl
    ·have h1:a.tag≠-1:=by simpa using hb3
     refine zM ?_;exact cInv ⟨t.alts.length - (i+1),i+1,fun k=>k,by omega,⟨by omega,by rw[←Qfa hdr Qwp h1];exact hch,rfl⟩,Qzw rfl zFW (by simp[Q3e hei,Q65 hdi,Q3e hnx,Q65 hci]) zLO rfl rfl hou⟩
  ·have hlt:i=t.alts.length:=by simp at hb2;omega
   subst hlt;refine zA ?_;refine zS (Qtf Q7p rfl rfl) ?_;refine Qtk rfl rfl rfl fun w C v hv=>⟨hou,3,?_,Q6z hv,hpr⟩;rw[List.drop_length]at hch;unfold Q3g;simp only[←hch,Q21];rfl
 ·refine zS (Qth Q5p rfl zObj rfl rfl hno) ?_;refine zA ?_;refine zS (Qtf Q7p rfl rfl) ?_;refine Qtk rfl rfl rfl fun w C v hv=>⟨hou,5,?_,Q6z hv,hpr⟩;exact Qk6 ho
end
section
variable {fu:Int}{fc:FcT}{fns:List Fun}{ou:Outer}{H:Hm}{nm:Nm2}{m:Ms}{tc0 ec0 vc0 kc:AC}{k:List Fm}
theorem ouX_2{n:Nat}{ou:Outer}(h:1<=q):ouX mc n ou q=ouX mc' n' ou q:=by obtain⟨j,rfl⟩:∃j,q=j+1:=⟨q - 1,by omega⟩;rfl
theorem WR.ge2{ou:Outer}{H:Hm}{nm:Nm2}{heap:List (List Vl)}(w:WR ou H nm heap){cs:List AC}(h:H q=some cs):1<=q:=by
 match q with
 |0=>rw[w.sep.1]at h;cases h
 |q+1=>omega
def Qcd (fu:Int)(fc:FcT)(fns:List Fun)(ou:Outer)(H:Hm)(nm:Nm2)(m:Ms)(k:List Fm)(v:Vl)(vc:AC)(l:List Vl)(cs:List (List AC))(Γ:List (Nat×List AC)):Prop:=
 AFnP Tryz.prog Γ 139 [.one (.ptr (.o 0) 0),.one vc,.one (.sl 1 cs)] ou (StQ fu fc H nm (callM fns { m with k:=k } v l)) (StP m (callM fns { m with k:=k } v l))
theorem Qq2(hΓ:GI Γ)(h0:M0 fu fc ou H nm m tc0 ec0 vc0 kc)(hfc:fc.ids isO)(hk:KR H nm k kc){t:Tr}{e:En}{l:List Vl}(he:ER H nm e c)(hl:VsR H nm l cs)(hs:t.kids[0]?=some s)(Qwz:t.binds.length<=1048576):
  Qcd fu fc fns ou H nm m k (.clo t e) (iB tClo [.box (cTr t),c]) l cs Γ:=by
 unfold Qcd;have hoX:=h0.ouX;have hei:=he.ids;have hli:=hl.ids;have hki:=hk.ids;have hll:=hl.len;have hpr:=h0.pr;rw[hoX]at hpr ⊢;have hw:=h0.w;rw[hoX]at hw;generalize hmc:ou=ou0 at hw hpr;clear hoX;have hsc:(Q0y t.kids)[0]?=some [.box (cTr s)]:=Q1z hs;refine AFnP.walk 137 tabOk hΓ Tryz.func139 rfl zky rfl rfl fun hou=>?_;refine zA ?_;refine zS (Qtg Qas rfl rfl) ?_;refine zA ?_;refine Qyl rfl (fun hb=>?_) (fun hb=>?_)
 ·have hlen:t.binds.length=l.length:=by simp[hll]at hb;omega
  refine zA ?_;refine Qyo tabOk 27 23 24 25 26 (.one (.ptr (.o 0) 0)) (.one (.ptr (.o 0) 0)) [(9,.one (.box [.box (cTr s)]))]
   (GrS (mC tc0 ec0 vc0 kc m.out m.steps fu fc) m.out.length ou0 H (mC tc0 ec0 vc0 kc m.out m.steps fu fc) (1,[(0,.cells [.ptr (.o 0) 0])]) fun v H1=>∃c,v=.one c/\ER H1 nm (allE e t.binds l) c)
   (GrS (mC tc0 ec0 vc0 kc m.out m.steps fu fc) m.out.length ou0 H (mC (.box (cTr s)) ec0 vc0 kc m.out m.steps fu fc) (1,[(0,.cells [.ptr (.o 0) 0])]) fun v H1=>∃c,v=.one c/\ER H1 nm (allE e t.binds l) c)
   follows zky rfl rfl zdy zky zky rfl rfl rfl rfl rfl rfl rfl ?_ ?_ ?_ ?_ ?_ ?_ ?_ ?_ ?_ ?_
  ·rintro v σ ⟨ou1,H1,rfl,_,_⟩;rfl
  ·rintro v σ ⟨ou1,H1,rfl,_,_⟩;rfl
  ·exact⟨⟨_,rfl,zIA rfl rfl rfl zdy hsc⟩,trivial⟩
  ·rintro v σ ⟨ou1,H1,rfl,hg,_⟩
   skip
   exact⟨⟨_,rfl,zIA rfl rfl rfl zdy hsc⟩,trivial⟩
  ·rintro v σ ⟨ou1,H1,rfl,hg,_⟩
   skip
   exact⟨⟨_,rfl,zIA rfl rfl rfl zdy hsc⟩,trivial⟩
  ·refine Qtl (Q1m.call hΓ rfl rfl rfl rfl ⟨hei,by simp,hli,trivial⟩ hw.ok (Qns hΓ he hl hlen Qwz _ hw.inO) fun r ou' hq hr ho=>?_);obtain⟨H1,c1,rfl,hg,hec⟩:=hq;exact GrS.of hg ⟨c1,rfl,hec⟩
  ·rintro v σ ⟨ou1,H1,rfl,_,_,rfl,_⟩;exact Qqs tabOk rfl
  ·rintro v σ ⟨ou1,H1,rfl,_,_,rfl,_⟩;exact Qqs tabOk rfl
  ·rintro v σ ⟨ou1,H1,rfl,h1,h2⟩;exact⟨_,⟨ou1,H1,setXs _ _ _ _ _ _,h1,h2⟩,Qqt tabOk rfl⟩
  ·rintro v' σ ⟨ou1,H1,rfl,h1,c1,rfl,h3⟩;refine zA ?_;have hw2:=hw.gro h1 (by simp[ouX]) (by simp[ouX]);have hM:MR fu fc _ H1 nm { m with c:=.ev s (allE e t.binds l),k:=k }:=Qua (ou':=(St.set ⟨0,[],ouX (mC (.box (cTr s)) ec0 vc0 kc m.out m.steps fu fc) m.out.length ou1⟩ (.o 0) (.cells (mC (.box (cTr s)) c1 vc0 kc m.out m.steps fu fc))).ou) hw2 h3 (hk.mo (h1.mo nm)) h0.ids.2.2.1 hfc rfl rfl (fun _=>rfl);refine Qst rfl (Z47 _) zsy hM.ok ⟨rfl,H1,nm,_,?_,h1.mo nm,hM⟩;simp only[callM];rw[if_pos hlen,Z0o,hs];rfl
 ·have hlen:¬t.binds.length=l.length:=by simp[hll]at hb;omega
  refine zA ?_;refine zS (Qtf Q7p rfl rfl) ?_;refine Qtk rfl rfl rfl fun w C v hv=>⟨hou,5,?_,Q6z hv,hpr⟩;simp only[callM];rw[if_neg hlen]
theorem Qnm(hΓ:GI Γ)(h0:M0 fu fc ou H nm m tc0 ec0 vc0 kc)(hfc:fc.ids isO)(hk:KR H nm k kc){t:Tr}{e:En}{l:List Vl}(hq:H q=some [.box (cTr t),c])(he:ER H nm e c)(hl:VsR H nm l cs)(hs:t.kids[0]?=some s)(Qwz:t.binds.length<=1048576):
  Qcd fu fc fns ou H nm m k (.clo t e) (.ifc tClo false [.ptr (.o q) 0]) l cs Γ:=by
 unfold Qcd;have hoX:=h0.ouX;have hei:=he.ids;have hli:=hl.ids;have hki:=hk.ids;have hll:=hl.len;have hpr:=h0.pr;rw[hoX]at hpr ⊢;have hw:=h0.w;rw[hoX]at hw;generalize hmc:ou=ou0 at hw hpr;clear hoX;have hsc:(Q0y t.kids)[0]?=some [.box (cTr s)]:=Q1z hs;have hx:=hw.inO q _ hq;refine AFnP.walk 137 tabOk hΓ Tryz.func139 rfl zky rfl rfl fun hou=>?_;refine zA ?_;refine zS (Qtg Qas rfl rfl) ?_;repeat' first|refine zN ?_|((with_reducible refine oj ?_);first|refine zix ?_|refine zow rfl rfl hx ?_)
 refine Qyl rfl (fun hb=>?_) (fun hb=>?_)
 ·have hlen:t.binds.length=l.length:=by simp[hll]at hb;omega
  refine zA ?_;refine Qyo tabOk 27 23 24 25 26 (.one (.ptr (.o 0) 0)) (.one (.ptr (.o 0) 0)) [(5,.one (.box (cTr t))),(14,.one c),(18,.one (.box (cTr t))),(9,.one (.box [.box (cTr s)]))]
   (GrS (mC tc0 ec0 vc0 kc m.out m.steps fu fc) m.out.length ou0 H (mC tc0 ec0 vc0 kc m.out m.steps fu fc) (1,[(0,.cells [.ptr (.o 0) 0])]) fun v H1=>∃c,v=.one c/\ER H1 nm (allE e t.binds l) c)
   (GrS (mC tc0 ec0 vc0 kc m.out m.steps fu fc) m.out.length ou0 H (mC (.box (cTr s)) ec0 vc0 kc m.out m.steps fu fc) (1,[(0,.cells [.ptr (.o 0) 0])]) fun v H1=>∃c,v=.one c/\ER H1 nm (allE e t.binds l) c)
   follows zky rfl rfl zdy zky zky rfl rfl rfl rfl rfl rfl rfl ?_ ?_ ?_ ?_ ?_ ?_ ?_ ?_ ?_ ?_
  ·rintro v σ ⟨ou1,H1,rfl,_,_⟩;rfl
  ·rintro v σ ⟨ou1,H1,rfl,_,_⟩;rfl
  ·exact⟨⟨_,rfl,zLD rfl rfl hx rfl⟩,⟨_,rfl,zLD rfl rfl hx rfl⟩,⟨_,rfl,zLD rfl rfl hx rfl⟩,⟨_,rfl,zIA rfl rfl rfl zdy hsc⟩,trivial⟩
  ·rintro v σ ⟨ou1,H1,rfl,hg,_⟩;have hx1:=hg.old _ _ hx;exact⟨⟨_,rfl,zLD rfl rfl hx1 rfl⟩,⟨_,rfl,zLD rfl rfl hx1 rfl⟩,⟨_,rfl,zLD rfl rfl hx1 rfl⟩,⟨_,rfl,zIA rfl rfl rfl zdy hsc⟩,trivial⟩
  ·rintro v σ ⟨ou1,H1,rfl,hg,_⟩;have hx1:ouX (mC (.box (cTr s)) ec0 vc0 kc m.out m.steps fu fc) m.out.length ou1 q=some (.cells [.box (cTr t),c]):=(ouX_2 (hw.ge2 hq)).trans (hg.old _ _ hx);exact⟨⟨_,rfl,zLD rfl rfl hx1 rfl⟩,⟨_,rfl,zLD rfl rfl hx1 rfl⟩,⟨_,rfl,zLD rfl rfl hx1 rfl⟩,⟨_,rfl,zIA rfl rfl rfl zdy hsc⟩,trivial⟩
  ·refine Qtl (Q1m.call hΓ rfl rfl rfl rfl ⟨hei,by simp,hli,trivial⟩ hw.ok (Qns hΓ he hl hlen Qwz _ hw.inO) fun r ou' hq hr ho=>?_);obtain⟨H1,c1,rfl,hg,hec⟩:=hq;exact GrS.of hg ⟨c1,rfl,hec⟩
  ·rintro v σ ⟨ou1,H1,rfl,_,_,rfl,_⟩;exact Qqs tabOk rfl
  ·rintro v σ ⟨ou1,H1,rfl,_,_,rfl,_⟩;exact Qqs tabOk rfl
  ·rintro v σ ⟨ou1,H1,rfl,h1,h2⟩;exact⟨_,⟨ou1,H1,setXs _ _ _ _ _ _,h1,h2⟩,Qqt tabOk rfl⟩
  ·rintro v' σ ⟨ou1,H1,rfl,h1,c1,rfl,h3⟩;refine zA ?_;have hw2:=hw.gro h1 (by simp[ouX]) (by simp[ouX]);have hM:MR fu fc _ H1 nm { m with c:=.ev s (allE e t.binds l),k:=k }:=Qua (ou':=(St.set ⟨0,[],ouX (mC (.box (cTr s)) ec0 vc0 kc m.out m.steps fu fc) m.out.length ou1⟩ (.o 0) (.cells (mC (.box (cTr s)) c1 vc0 kc m.out m.steps fu fc))).ou) hw2 h3 (hk.mo (h1.mo nm)) h0.ids.2.2.1 hfc rfl rfl (fun _=>rfl);refine Qst rfl (Z47 _) zsy hM.ok ⟨rfl,H1,nm,_,?_,h1.mo nm,hM⟩;simp only[callM];rw[if_pos hlen,Z0o,hs];rfl
 ·have hlen:¬t.binds.length=l.length:=by simp[hll]at hb;omega
  refine zA ?_;refine zS (Qtf Q7p rfl rfl) ?_;refine Qtk rfl rfl rfl fun w C v hv=>⟨hou,5,?_,Q6z hv,hpr⟩;simp only[callM];rw[if_neg hlen]
end
theorem Quc{P:Program}{Q:FV->Outer->Prop}{QP:List PanicEntry->Outer->Prop}(h:AFnP P Γ g args ou Q QP)(hn:∀ps ou',¬QP ps ou'):AFn P Γ g args ou Q:=
 ⟨h.1,fun F w C cargs h0 hi hr=>(h.2 F w C cargs h0 hi hr).mono fun e w' hh=>hh.elim id fun ⟨ps,ou',C',_,_,_,_,hq⟩=>(hn _ _ hq).elim⟩
theorem Qud{fc:FcT}{H:Hm}{nm:Nm2}{m:Ms}{x:Except Int Ms}{m':Ms}(h:AFnP Tryz.prog Γ g args ou (StQ fu fc H nm x) (StP m x))(hx:x=.ok m'):AFn Tryz.prog Γ g args ou (StQ fu fc H nm x):=
 Quc h fun ps ou' ⟨c,hc,_⟩=>by rw[hx]at hc;cases hc
def inW (n:Int):Prop:=-1073741824<=n/\n<=1073741823
section
variable {H:Hm}{nm:Nm2}
theorem VsR.nilE(h:VsR H nm [] cs):cs=[]:=by cases h;rfl
theorem VsR.consE{v:Vl}{l:List Vl}(h:VsR H nm (v::l) cs):∃c ds,cs=[c]::ds/\VR H nm v c/\VsR H nm l ds:=by
 cases h with
 |cons _ c _ ds hv hl=>exact⟨c,ds,rfl,hv,hl⟩
theorem VR.wordE{n:Int}(h:VR H nm (.word n) c):c=iW n:=by cases h;rfl
theorem Qot(hΓ:GI Γ){m m':Ms}{n x y:Int}{v:Vl}(hn:n=0∨n=1∨n=2∨n=5∨n=6)(hx:inW x)(hy:inW y)(hv:primM fu m n [.word x,.word y]=.ok (m',v))(ou:Outer):
  m'=m/\∃c,VR H nm v c/\AFn Tryz.prog Γ 173 [.one (.ptr (.o 0) 0),.one (int n),.one (.sl 1 [[iW x],[iW y]])] ou (fun r ou'=>r=.one c/\ou'=ou):=by
 obtain⟨hx0,hx1⟩:=hx;obtain⟨hy0,hy1⟩:=hy;have hm1:-2305843009213693952<=x * y/\x * y<=2305843009213693952:=by
  have h1:(x * y).natAbs<=1073741824 * 1073741824:=by rw[Int.natAbs_mul];exact Nat.mul_le_mul zoy zoy
  omega
 have w1:=wrapW;rcases hn with rfl|rfl|rfl|rfl|rfl
 ·cases hv;refine⟨rfl,iW (wrapW (x+y)),.word _,?_⟩;refine zwk 152 Z3z fun hou=>?_;refine zA ?_;refine zdx 11 [(1,.one (.box [iW x])),(3,.one (int x)),(5,.one (.box [iW y])),(7,.one (int y)),(8,.one (int (x+y))),(9,.one (int (wrapW (x+y)))),(10,.one (iW (wrapW (x+y))))] ?_ ?_
  ·exact⟨⟨_,rfl,zIA rfl rfl rfl zdy rfl⟩,⟨_,rfl,Qqy hΓ rfl rfl rfl (by simp[idsF,iW]) hou (Q2q x)⟩,⟨_,rfl,zIA rfl rfl rfl zdy rfl⟩,⟨_,rfl,Qqy hΓ rfl rfl rfl (by simp[idsF,iW]) hou (Q2q y)⟩,⟨_,rfl,Qr0 rfl rfl rfl (.inl ⟨rfl,rfl⟩) zI⟩,⟨_,rfl,Qqy hΓ rfl rfl rfl (by simp[idsF]) hou (Qdg _ zoy zoy)⟩,⟨_,rfl,Qte conc3 rfl rfl⟩,trivial⟩
  refine zA ?_;exact Qst rfl (Z46 rfl) (by simp[iW]) hou ⟨rfl,rfl⟩
 ·cases hv;refine⟨rfl,iW (wrapW (x - y)),.word _,?_⟩;refine zwk 152 Z3z fun hou=>?_;refine zA ?_;refine zdx 11 [(1,.one (.box [iW x])),(3,.one (int x)),(5,.one (.box [iW y])),(7,.one (int y)),(8,.one (int (x - y))),(9,.one (int (wrapW (x - y)))),(10,.one (iW (wrapW (x - y))))] ?_ ?_
  ·exact⟨⟨_,rfl,zIA rfl rfl rfl zdy rfl⟩,⟨_,rfl,Qqy hΓ rfl rfl rfl (by simp[idsF,iW]) hou (Q2q x)⟩,⟨_,rfl,zIA rfl rfl rfl zdy rfl⟩,⟨_,rfl,Qqy hΓ rfl rfl rfl (by simp[idsF,iW]) hou (Q2q y)⟩,⟨_,rfl,Qr0 rfl rfl rfl (.inr (.inl ⟨rfl,rfl⟩)) zI⟩,⟨_,rfl,Qqy hΓ rfl rfl rfl (by simp[idsF]) hou (Qdg _ zoy zoy)⟩,⟨_,rfl,Qte conc3 rfl rfl⟩,trivial⟩
  refine zA ?_;exact Qst rfl (Z46 rfl) (by simp[iW]) hou ⟨rfl,rfl⟩
 ·cases hv;refine⟨rfl,iW (wrapW (x * y)),.word _,?_⟩;refine zwk 152 Z3z fun hou=>?_;refine zA ?_;refine zdx 11 [(1,.one (.box [iW x])),(3,.one (int x)),(5,.one (.box [iW y])),(7,.one (int y)),(8,.one (int (x * y))),(9,.one (int (wrapW (x * y)))),(10,.one (iW (wrapW (x * y))))] ?_ ?_
  ·exact⟨⟨_,rfl,zIA rfl rfl rfl zdy rfl⟩,⟨_,rfl,Qqy hΓ rfl rfl rfl (by simp[idsF,iW]) hou (Q2q x)⟩,⟨_,rfl,zIA rfl rfl rfl zdy rfl⟩,⟨_,rfl,Qqy hΓ rfl rfl rfl (by simp[idsF,iW]) hou (Q2q y)⟩,⟨_,rfl,Qr0 rfl rfl rfl (.inr (.inr ⟨rfl,rfl⟩)) zI⟩,⟨_,rfl,Qqy hΓ rfl rfl rfl (by simp[idsF]) hou (Qdg _ zoy zoy)⟩,⟨_,rfl,Qte conc3 rfl rfl⟩,trivial⟩
  refine zA ?_;exact Qst rfl (Z46 rfl) (by simp[iW]) hou ⟨rfl,rfl⟩
 ·cases hv;refine⟨rfl,iB tObj [int (if decide (x < y)then 1 else 0),.sl 1 []],.obj _ [] [] .nil,?_⟩;refine zwk 152 Z3z fun hou=>?_;refine zA ?_;refine zdx 10 [(1,.one (.box [iW x])),(3,.one (int x)),(5,.one (.box [iW y])),(7,.one (int y)),(9,.one (iB tObj [int (if decide (x < y)then 1 else 0),.sl 1 []]))] ?_ ?_
  ·exact⟨⟨_,rfl,zIA rfl rfl rfl zdy rfl⟩,⟨_,rfl,Qqy hΓ rfl rfl rfl (by simp[idsF,iW]) hou (Q2q x)⟩,⟨_,rfl,zIA rfl rfl rfl zdy rfl⟩,⟨_,rfl,Qqy hΓ rfl rfl rfl (by simp[idsF,iW]) hou (Q2q y)⟩,⟨_,rfl,Qqy hΓ rfl rfl rfl (by simp[idsF]) hou (Q92 _)⟩,trivial⟩
  refine zA ?_;exact Qst rfl (Z46 rfl) (by simp[iB]) hou ⟨rfl,rfl⟩
 ·cases hv;refine⟨rfl,iB tObj [int (if decide (x=y)then 1 else 0),.sl 1 []],.obj _ [] [] .nil,?_⟩;refine zwk 152 Z3z fun hou=>?_;refine zA ?_;refine zdx 10 [(1,.one (.box [iW x])),(3,.one (int x)),(5,.one (.box [iW y])),(7,.one (int y)),(9,.one (iB tObj [int (if decide (x=y)then 1 else 0),.sl 1 []]))] ?_ ?_
  ·exact⟨⟨_,rfl,zIA rfl rfl rfl zdy rfl⟩,⟨_,rfl,Qqy hΓ rfl rfl rfl (by simp[idsF,iW]) hou (Q2q x)⟩,⟨_,rfl,zIA rfl rfl rfl zdy rfl⟩,⟨_,rfl,Qqy hΓ rfl rfl rfl (by simp[idsF,iW]) hou (Q2q y)⟩,⟨_,rfl,Qqy hΓ rfl rfl rfl (by simp[idsF]) hou (Q92 _)⟩,trivial⟩
  refine zA ?_;exact Qst rfl (Z46 rfl) (by simp[iB]) hou ⟨rfl,rfl⟩
end
end Go.Proofs.YtlmokgooijbcdaaGreatDoor
namespace Go.Abs
section
variable {E:Env}{o:Oper}{fr:Fr}{σ:St}{t T0 el yt:TypeId}{x y:Operand}
theorem Que(hc:E.P.concrete t=true)(ho:o.op=.typeAssert x T0 t false)(hx:aEval E.Γ fr x=some (.one (.ifc t false [c]))):AStep E o fr σ (.one c) σ:=by
 refine Qqz fun F w C tmps hi hf=>?_;obtain⟨d,hd⟩:=Q51 hc;obtain⟨xs,h1,h2⟩:=Q01 (a:=⟨tmps,E.ds⟩) hi hf hx;simp only[RV]at h1;obtain⟨u,us,rfl,h3,rfl⟩:=h1;rcases h2 with ⟨h2,_⟩|⟨_,v,hv,h2⟩
 ·cases h2
 ·cases hv;refine⟨u,?_,h3⟩;have hrun:(Instr.typeAssert (.iface t u) T0 t false).run E.P w=.ok u w:=by unfold Program.concrete at hc;rw[hd]at hc;cases d <;> first|(simp at hc;done)|simp[Instr.typeAssert,run_underlying hd]
  unfold execOp;simp[ho,h2,hrun]
theorem Quf{i j:Id}{cs ds:List AC}(hT:TabOk E.P E.T)(ht:E.P.underlying t=some (.pointer el))(htj:Tab.get el E.T=some tj)(hsz:Nat.beq tj.size 0=false)(ho:o.op=.binOp .neq t x y yt)(hx:aEval E.Γ fr x=some (.one (.ptr i 0)))(hy:aEval E.Γ fr y=some (.one (.ptr j 0)))
  (hi1:σ.get i=some (.cells cs)) (hj1:σ.get j=some (.cells ds)) (hne:i≠j):AStep E o fr σ (.one (.lit (.bool true))) σ:=by
 refine Qqz fun F w C tmps hi hf=>⟨.bool true,?_,rfl,rfl⟩;have h1:=Q01 (a:=⟨tmps,E.ds⟩) hi hf hx;have h2:=Q01 (a:=⟨tmps,E.ds⟩) hi hf hy;simp only[RF,R]at h1 h2;obtain⟨xs,T,b1,_⟩:=(hi.obj i _ hi1).2;obtain⟨ys,T',b2,_⟩:=(hi.obj j _ hj1).2;obtain⟨inf,d,z,hte,_,hz3,_⟩:=(hT _ _ htj).ex;have hsz:inf.size≠0:=fun e=>by rw[hz3]at e;rw[e]at hsz;cases hsz
 have hb:C.blk i≠C.blk j:=fun e=>hne (hi.inj i j _ _ (C.blk i) hi1 hj1 rfl (by simp only[AObj.block];rw[e]));have h:∀d:Nat,(Op.equalIn (d+1) t (.pointer (some ⟨C.blk i,0,none⟩)) (.pointer (some ⟨C.blk j,0,none⟩))).run E.P w=.ok false w:=fun d=>by simp[Op.equalIn,run_underlying ht,sizeOf,typeInfo,hte,hsz,run_sameAddr_other w (a:=⟨C.blk i,0,none⟩) (b:=⟨C.blk j,0,none⟩) (fun e=>hb (congrArg Addr.block e)) b1 b2]
 unfold execOp;simp only[ho,h1.2,h2.2,eqGuard_at_pointer,Z3s,Z3t,Z3r];simp[binOp,Op.equal,Op.maxDepth,h 9999]
theorem Qug{i:Id}(hT:TabOk E.P E.T)(ht:E.P.underlying t=some (.pointer el))(htj:Tab.get el E.T=some tj)(ho:o.op=.binOp .neq t x y yt)(hx:aEval E.Γ fr x=some (.one (.ptr i 0)))(hy:aEval E.Γ fr y=some (.one (.ptr i 0))):AStep E o fr σ (.one (.lit (.bool false))) σ:=by
 refine Qqz fun F w C tmps hi hf=>⟨.bool false,?_,rfl,rfl⟩;have h1:=Q01 (a:=⟨tmps,E.ds⟩) hi hf hx;have h2:=Q01 (a:=⟨tmps,E.ds⟩) hi hf hy;simp only[RF,R]at h1 h2;obtain⟨inf,d,z,hte,_⟩:=(hT _ _ htj).ex;have h:∀d:Nat,(Op.equalIn (d+1) t (.pointer (some ⟨C.blk i,0,none⟩)) (.pointer (some ⟨C.blk i,0,none⟩))).run E.P w=.ok true w:=fun d=>by simp[Op.equalIn,run_underlying ht,sizeOf,typeInfo,hte,run_sameAddr_same]
 unfold execOp;simp only[ho,h1.2,h2.2,eqGuard_at_pointer,Z3s,Z3t,Z3r];simp[binOp,Op.equal,Op.maxDepth,h 9999]
end
end Go.Abs
namespace Go.Proofs.YtlmokgooijbcdaaGreatDoor
variable {Γ:List (Nat×List AC)}
section
variable {fu:Int}{fc:FcT}{fns:List Fun}{ou:Outer}{H:Hm}{nm:Nm2}{m:Ms}{ec vc kc:AC}{t:Tr}{e:En}
theorem StQ.fin{fn:Func}{H':Hm}{nm':Nm2}{x:Except Int Ms}{m':Ms}(h:aRes E.T fr σ fn.results.toList=some unitF)(hx:x=.ok m')(hm:Mo H nm H' nm')(hM:MR fu fc σ.ou H' nm' m'):Fin E fn (StQ fu fc H nm x) fr σ:=
 Qst h (Z47 _) (by simp[unitF]) hM.ok ⟨rfl,H',nm',m',hx,hm,hM⟩
def Q5x (fu:Int)(fc:FcT)(ou:Outer)(H:Hm)(nm:Nm2)(m':Ms)(Γ:List (Nat×List AC)):Prop:=AFn Tryz.prog Γ 113 [.one (.ptr (.o 0) 0)] ou (StQ fu fc H nm (.ok m'))
theorem Qkx(hΓ:GI Γ)(h0:M0 fu fc ou H nm m (.box (cTr t)) ec vc kc)(hfc:fc.ids isO)(hk:KR H nm m.k kc)(h1:t.op=1):Q5x fu fc ou H nm { m with c:=.rt (.word t.n) } Γ:=by
 unfold Q5x;have hoX:=h0.ouX;rw[hoX];have hw:=h0.w;rw[hoX]at hw;generalize hmc:ou=ou0 at hw;clear hoX;refine zwk 149 Z3x fun hou=>?_;cases t with
 |mk to tn tb tk ta=>
 obtain rfl:to=1:=h1;refine zA ?_;refine zS (Qte conc3 rfl rfl) ?_;refine zA ?_;exact StQ.fin rfl rfl (.refl _ _) (Qub hw (.word tn) hk h0.ids.2.1 hfc rfl rfl (fun _=>rfl))
theorem Qkw(hΓ:GI Γ)(h0:M0 fu fc ou H nm m (.box (cTr t)) ec vc kc)(hfc:fc.ids isO)(he:ER H nm e ec)(hk:KR H nm m.k kc)(h1:t.op=2):Q5x fu fc ou H nm { m with c:=.rt (.clo t e) } Γ:=by
 unfold Q5x;have hei:=he.ids;have hoX:=h0.ouX;rw[hoX];have hw:=h0.w;rw[hoX]at hw;generalize hmc:ou=ou0 at hw;clear hoX;refine zwk 149 Z3x fun hou=>?_;cases t with
 |mk to tn tb tk ta=>
 obtain rfl:to=2:=h1;repeat ((fail_if_success ((with_reducible refine oj ?_);refine Qtz 69 rfl ?_));first|refine zO ?_)
 refine Qyx (.l 0) 68 rfl rfl ?_;refine zS (Qte Qas rfl rfl) ?_;refine zA ?_;exact StQ.fin rfl rfl (.refl _ _) (Qub hw (.clo _ e ec he) hk h0.ids.2.1 hfc rfl rfl (fun _=>rfl))
theorem Qkt(hΓ:GI Γ)(h0:M0 fu fc ou H nm m (.box (cTr t)) ec vc kc)(hfc:fc.ids isO)(he:ER H nm e ec)(hk:KR H nm m.k kc)(h1:t.op=0):Q5x fu fc ou H nm { m with c:=.rt (findE t.n e) } Γ:=by
 unfold Q5x;have hei:=he.ids;have hki:=hk.ids;have hoX:=h0.ouX;rw[hoX];have hw:=h0.w;rw[hoX]at hw;generalize hmc:ou=ou0 at hw;clear hoX;obtain⟨l,hch,hfd⟩:=he.ch;have hv:=hfd t.n;have hvi:=hv.ids;refine zwk 149 Z3x fun hou=>?_;cases t with
 |mk to tn tb tk ta=>
 obtain rfl:to=0:=h1;have hw1:WR (ouX (mC nilPE ec vc kc m.out m.steps fu fc) m.out.length ou0) H nm m.heap:=hw.put (by simp[mC,h0.ids.2.2.1,hei,hki,hfc,nilPE]) rfl rfl (fun _=>rfl);refine zA ?_;refine ACode.drawSt tabOk 14 13 [(10,.one (lookI tn l))] _ follows zky rfl rfl zky rfl ?_ rfl rfl rfl rfl ?_ ?_ (Qqt tabOk rfl) ?_
 ·rfl
 ·exact⟨⟨_,rfl,Qt8 hΓ rfl rfl rfl rfl ⟨hei,trivial,trivial⟩ hou (Qn5 hΓ hch tn _ hw.inO hei hvi)⟩,trivial⟩
 ·show Q09 _ _ _ (St.set ⟨0,[],ouX (mC (.box (cTr (.mk 0 tn tb tk ta))) ec vc kc m.out m.steps fu fc) m.out.length ou0⟩ (.o 0) (.cells (mC nilPE ec vc kc m.out m.steps fu fc))) _ _;rw[setX];exact⟨⟨_,rfl,Qt8 hΓ rfl rfl rfl rfl ⟨hei,trivial,trivial⟩ hw1.ok (Qn5 hΓ hch tn _ hw1.inO hei hvi)⟩,trivial⟩
 refine zA ?_;exact StQ.fin rfl rfl (.refl _ _) (Qub hw hv hk hei hfc rfl rfl (fun _=>rfl))
theorem Qky(hΓ:GI Γ)(h0:M0 fu fc ou H nm m (.box (cTr t)) ec vc kc)(he:ER H nm e ec)(hk:KR H nm m.k kc)(h1:¬(t.op=0∨t.op=1∨t.op=2∨t.op=17∨t.op=5)){x:Except Int Ms}
  (Qwk:AFn Tryz.prog Γ 111 [.one (.ptr (.o 0) 0),.one (.box [.box (cTr t),ec,.sl 1 [],kc])] ou (StQ fu fc H nm x)):AFn Tryz.prog Γ 113 [.one (.ptr (.o 0) 0)] ou (StQ fu fc H nm x):=by
 have hei:=he.ids;have hki:=hk.ids;have hoX:=h0.ouX;rw[hoX]at Qwk ⊢;generalize hmc:ou=ou0 at Qwk;clear hoX;refine zwk 149 Z3x fun hou=>?_;cases t with
 |mk to tn tb tk ta=>
 simp only[Tr.op]at h1;have e0:to≠0:=fun e=>h1 (.inl e);have e1:to≠1:=fun e=>h1 (.inr (.inl e));have e2:to≠2:=fun e=>h1 (.inr (.inr (.inl e)));have e17:to≠17:=fun e=>h1 (.inr (.inr (.inr (.inl e))));have e5:to≠5:=fun e=>h1 (.inr (.inr (.inr (.inr e))));refine zA ?_;refine Qyl rfl (fun hb=>absurd (by simpa using hb) e0) (fun _=>?_);refine zA ?_;refine Qyl rfl (fun hb=>absurd (by simpa using hb) e1) (fun _=>?_);refine zA ?_;refine Qyl rfl (fun hb=>absurd (by simpa using hb) e2) (fun _=>?_);refine zA ?_;refine Qyl rfl (fun hb=>absurd (by simpa using hb) e17) (fun _=>?_);refine zA ?_;refine Qyl rfl (fun hb=>absurd (by simpa using hb) e5) (fun _=>?_);refine zA ?_;refine Qu1 (va:=.one (.ptr (.l 0) 0)) (σ1:=St.push ⟨0,[],ouX (mC (.box (cTr (.mk to tn tb tk ta))) ec vc kc m.out m.steps fu fc) m.out.length ou0⟩ (.cells [.box (cTr (.mk to tn tb tk ta)),ec,.lit (.slice none 0 0),kc])) tabOk 12 11 [] follows zky rfl rfl rfl rfl rfl rfl rfl (Qzr tabOk rfl) trivial trivial ?_;refine Qyx (.l 0) 26 rfl rfl ?_;refine Qyz 26 rfl (y:=.one (.box [.box (cTr (.mk to tn tb tk ta)),ec,.sl 1 [],kc])) (.one (Z45 (.cons (.refl _) (.cons (.refl _) (.cons (.nilS 1) (.cons (.refl _) .nil)))))) ?_;refine Qrb hΓ rfl rfl rfl rfl rfl rfl rfl ⟨trivial,⟨by simp,hei,trivial,hki,trivial⟩,trivial⟩ hou Qwk fun r ou' hq _ how=>?_;obtain⟨rfl,H',nm',m',hx,hmo,hM⟩:=hq;refine zA ?_;exact StQ.fin rfl hx hmo hM
end
end Go.Proofs.YtlmokgooijbcdaaGreatDoor
namespace Go.Abs
theorem CedFrN.consP{js:List Nat}{kk:Nat}{y:FV}{r:Fr}(h:Fr.get k fr=some y)(hy:y.ids isO)(hr:CedFrN (toOs js kk) fr r):CedFrN (toOs js kk) fr ((k,y)::r):=
 .cons h (FV.sub_f (fun i hi=>by cases i with|l q=>exact hi.elim|o q=>rfl) y hy) hr
end Go.Abs
namespace Go.Proofs.YtlmokgooijbcdaaGreatDoor
variable {Γ:List (Nat×List AC)}
def recC (base:AC):List (Nat×Nat)->AC
 |[]=>base
 |(k,_)::_=>.ptr (.o k) 0
def clC (t:Tr)(i r:Nat)(top:AC):List AC:=[.box (cTr (t.kids.getD i default)),if i < r then nilPE else top]
def RecO (t:Tr)(base top:AC)(r:Nat)(ou:Outer):List (Nat×Nat)->Prop
 |[]=>True
 |(k,q)::l=>ou k=some (.cells [int (t.binds.getD l.length 0),.ifc tClo false [.ptr (.o q) 0],recC base l])/\ou q=some (.cells (clC t l.length r top))/\RecO t base top r ou l
def nms:List (Nat×Nat)->List Nat
 |[]=>[]
 |(k,q)::l=>k::q::nms l
theorem Qcz(a b:List (Nat×Nat)):nms (a++b)=nms a++nms b:=by
 induction a with
 |nil=>rfl
 |cons x a ih=>obtain⟨k,q⟩:=x;simp[nms,ih]
structure RecI (t:Tr)(base top:AC)(r:Nat)(L:List (Nat×Nat))(ou0 ou:Outer):Prop where
 o:RecO t base top r ou L
 nd:(nms L).Nodup
 new:∀k∈nms L,ou0 k=none
 old:∀k,k∉nms L->ou k=ou0 k
 ok:OuOk ou
section
variable {t:Tr}{base top:AC}
theorem Qhg(hb:base.ids isO):∀L:List (Nat×Nat),(recC base L).ids isO
 |[]=>hb
 |(k,q)::l=>trivial
theorem RecO.chg{r r':Nat}{ou ou':Outer}:∀{L:List (Nat×Nat)},RecO t base top r ou L->(∀k∈nms L,ou' k=ou k)->(∀i,i < L.length->(i < r↔i < r'))->RecO t base top r' ou' L
 |[],_,_,_=>trivial
 |(k,q)::l,⟨h1,h2,h3⟩,h,hr=>by refine⟨by rw[h k (by simp[nms])];exact h1,?_,RecO.chg h3 (fun j hj=>h j (by simp[nms,hj])) fun i hi=>hr i zuy⟩;rw[h q (by simp[nms]),h2];have:=hr l.length zsy;unfold clC;simp only[this]
theorem RecO.setTop{r r':Nat}{ou:Outer}(top':AC):∀{L:List (Nat×Nat)},RecO t base top r ou L->L.length<=r->L.length<=r'->RecO t base top' r' ou L
 |[],_,_,_=>trivial
 |(k,q)::l,⟨h1,h2,h3⟩,hr,hr'=>by simp only[Z13]at hr hr';refine⟨h1,?_,RecO.setTop top' h3 zoy zoy⟩;rw[h2];unfold clC;rw[if_pos zoy,if_pos zoy]
theorem RecO.hasC{r:Nat}{ou:Outer}:∀{L:List (Nat×Nat)},RecO t base top r ou L->∀k∈nms L,∃cs,ou k=some (.cells cs)
 |(k,q)::l,⟨h1,h2,h3⟩,j,hj=>by
  simp only[nms,Z1p]at hj;rcases hj with rfl|rfl|hj
  ·exact⟨_,h1⟩
  ·exact⟨_,h2⟩
  ·exact RecO.hasC h3 j hj
theorem RecO.split{r:Nat}{ou:Outer}:∀{a b:List (Nat×Nat)},RecO t base top r ou (a++b)->RecO t base top r ou b
 |[],b,h=>h
 |(k,q)::a,b,h=>RecO.split (a:=a) h.2.2
theorem RecO.chain{H':Hm}{ou:Outer}:∀{L:List (Nat×Nat)},RecO t base top 0 ou L->(∀k∈nms L,∀cs,ou k=some (.cells cs)->H' k=some cs)->RecC H' t top L.length (recC base L) base
 |[],_,_=>.zero _
 |(k,q)::l,⟨h1,h2,h3⟩,h=>by refine .succ l.length k q (recC base l) base (h k (by simp[nms]) _ h1) ?_ (RecO.chain h3 fun j hj=>h j (by simp[nms,hj]));have:=h q (by simp[nms]) _ h2;simpa[clC]using this
theorem RecO.tie{k q:Nat}{l:List (Nat×Nat)}{ou ou':Outer}(hq:ou' q=some (.cells [.box (cTr (t.kids.getD l.length default)),top]))(ho:∀m,m≠q->ou' m=ou m):∀{a:List (Nat×Nat)},RecO t base top (l.length+1) ou (a++(k,q)::l)->(nms (a++(k,q)::l)).Nodup->RecO t base top l.length ou' (a++(k,q)::l)
 |[],⟨h1,h2,h3⟩,hn=>by simp only[Z25,nms,Z27,Z1p]at hn;refine⟨by rw[ho k (by rintro rfl;exact hn.1 (.inl rfl))];exact h1,by rw[hq];simp[clC],RecO.chg h3 (fun j hj=>ho j (by rintro rfl;exact hn.2.1 hj)) fun i hi=>by omega⟩
 |(k0,q0)::a,⟨h1,h2,h3⟩,hn=>by
  simp only[Z03,nms,Z27,Z1p]at hn;have hqm:q∈nms (a++(k,q)::l):=by rw[Qcz];simp[nms]
  refine⟨by rw[ho k0 (by rintro rfl;exact hn.1 (.inr hqm))];exact h1,?_,RecO.tie hq ho h3 hn.2.2⟩;rw[ho q0 (by rintro rfl;exact hn.2.1 hqm),h2];unfold clC;have hl:(a++(k,q)::l).length=a.length+l.length+1:=by simp;omega
  simp only[List.append_eq,hl];rw[if_neg zoy,if_neg zoy]
theorem RecI.tie{k q:Nat}{l a:List (Nat×Nat)}{ou0 ou ou':Outer}(h:RecI t base top (l.length+1) (a++(k,q)::l) ou0 ou)(hq:ou' q=some (.cells [.box (cTr (t.kids.getD l.length default)),top]))(ho:∀m,m≠q->ou' m=ou m)(ht:top.ids isO):RecI t base top l.length (a++(k,q)::l) ou0 ou':=by
 have hqm:q∈nms (a++(k,q)::l):=by rw[Qcz];simp[nms]
 refine⟨h.o.tie hq ho h.nd,h.nd,h.new,fun j hj=>?_,fun j o hj=>?_⟩
 ·rw[ho j (by rintro rfl;exact hj hqm)];exact h.old j hj
 ·by_cases e:j=q
  ·subst e;rw[hq]at hj;cases hj;exact⟨by simp,ht,trivial⟩
  ·rw[ho j e]at hj;exact h.ok j o hj
theorem RecI.add{r:Nat}{x:Int}(h:RecI t base top r L ou0 ou)(hr:L.length < r)(hs:t.kids.getD L.length default=s)(hx:t.binds.getD L.length 0=x)(hN1:NewO ou ou1 [(q,.cells [.box (cTr s),nilPE])])(hN2:NewO ou1 ou2 [(k,.cells [int x,.ifc tClo false [.ptr (.o q) 0],recC base L])]):RecI t base top r ((k,q)::L) ou0 ou2:=by
 have hq0:ou q=none:=hN1.new q (by simp[keys]);have hq1:ou1 q=some (.cells [.box (cTr s),nilPE]):=hN1.own (q,_) zsy;have hk1:ou1 k=none:=hN2.new k (by simp[keys]);have hk2:ou2 k=some (.cells [int x,.ifc tClo false [.ptr (.o q) 0],recC base L]):=hN2.own (k,_) zsy;have hkq:k≠q:=by rintro rfl;rw[hq1]at hk1;cases hk1
 have hk0:ou k=none:=by rw[←hN1.old k (by simp[keys];exact hkq)];exact hk1
 have hqL:q∉nms L:=fun hm=>by obtain⟨cs,hc⟩:=h.o.hasC q hm;rw[hq0]at hc;cases hc
 have hkL:k∉nms L:=fun hm=>by obtain⟨cs,hc⟩:=h.o.hasC k hm;rw[hk0]at hc;cases hc
 have hold:∀m,m≠k->m≠q->ou2 m=ou m:=fun m h1 h2=>by rw[hN2.old m (by simp[keys];exact h1),hN1.old m (by simp[keys];exact h2)]
 refine⟨⟨by rw[hx];exact hk2,?_,h.o.chg (fun j hj=>hold j (by rintro rfl;exact hkL hj) (by rintro rfl;exact hqL hj)) fun _ _=>Iff.rfl⟩,?_,?_,?_,hN2.ok⟩
 ·rw[hN2.old q (by simp[keys];exact fun e=>hkq e.symm),hq1];unfold clC;rw[if_pos hr,hs]
 ·simp only[nms,Z27,Z1p];exact⟨fun e=>e.elim hkq hkL,hqL,h.nd⟩
 ·intro j hj;simp only[nms,Z1p]at hj;rcases hj with rfl|rfl|hj
  ·rw[←h.old j hkL];exact hk0
  ·rw[←h.old j hqL];exact hq0
  ·exact h.new j hj
 ·intro j hj;simp only[nms,Z1p,not_or]at hj;rw[hold j hj.1 hj.2.1];exact h.old j hj.2.2
def recH (H:Hm)(ou:Outer)(L:List (Nat×Nat)):Hm:=fun k=>if k∈nms L then (match ou k with|some (.cells cs)=>some cs|_=>none)else H k
theorem RecI.gro{H:Hm}(h:RecI t base top 0 L ou0 ou)(hH:InOu H ou0):Gro ou0 H ou (recH H ou L):=by
 have hno:∀k cs,H k=some cs->k∉nms L:=fun k cs hk hm=>by have:=hH k cs hk;rw[h.new k hm]at this;cases this
 refine⟨fun k cs hk=>?_,fun k h1 h2=>?_,fun k o hk=>?_,fun k cs hk=>?_,h.ok,fun k o hk=>?_⟩
 ·unfold recH;rw[if_neg (hno k cs hk)];exact hk
 ·unfold recH at h2;split at h2
  ·rename_i hm;exact h.new k hm
  ·exact absurd h1 h2
 ·rw[h.old k (fun hm=>by rw[h.new k hm]at hk;cases hk)];exact hk
 ·unfold recH at hk;split at hk
  ·split at hk
   ·rename_i hc;cases hk;exact hc
   ·cases hk
  ·rename_i hm;rw[h.old k hm];exact hH k cs hk
 ·by_cases hm:k∈nms L
  ·obtain⟨cs,hc⟩:=h.o.hasC k hm;rw[hc]at hk;cases hk;exact .inr trivial
  ·rw[h.old k hm]at hk;exact .inl hk
end
section
variable {fu:Int}{fc:FcT}{fns:List Fun}{ou:Outer}{H:Hm}{nm:Nm2}{m:Ms}{ec vc kc:AC}{t:Tr}{e:En}
theorem Qku(hΓ:GI Γ)(h0:M0 fu fc ou H nm m (.box (cTr t)) ec vc kc)(hfc:fc.ids isO)(he:ER H nm e ec)(hk:KR H nm m.k kc)(h1:t.op=5)(hkl:t.kids.length=t.binds.length+1)(Qwz:t.binds.length<=1048576):
  Q5x fu fc ou H nm { m with c:=.ev (t.kids.getD t.binds.length default) (.recs t e) } Γ:=by
 unfold Q5x;have hei:=he.ids;have hki:=hk.ids;have hoX:=h0.ouX;rw[hoX];have hw:=h0.w;rw[hoX]at hw;generalize hmc:ou=ou0 at hw;clear hoX;obtain⟨le,hche,_⟩:=he.ch;cases t with
 |mk to tn tb tk ta=>
 obtain rfl:to=5:=h1;simp only[Tr.kids,Tr.binds]at hkl Qwz ⊢;obtain⟨T,hT⟩:∃T,T=Tr.mk 5 tn tb tk ta:=⟨_,rfl⟩;have hTk:T.kids=tk:=by rw[hT];rfl
 have hTb:T.binds=tb:=by rw[hT];rfl
 refine zwk 149 Z3x fun hou=>?_;obtain⟨oB,hoB⟩:∃oB,oB=ouX (mC (.box (cTr (.mk 5 tn tb tk ta))) ec vc kc m.out m.steps fu fc) m.out.length ou0:=⟨_,rfl⟩;have hB0:oB 0=some (.cells (mC (.box (cTr (.mk 5 tn tb tk ta))) ec vc kc m.out m.steps fu fc)):=by rw[hoB];rfl
 have hwB:WR oB H nm m.heap:=by rw[hoB];exact hw
 refine zA ?_;refine Qre hΓ (α:=Nat×List (Nat×Nat)×Outer) (fun a=>[(93,.one (int a.1)),(92,.one (int (tb.map cI).length)),(91,.one (.sl 1 (tb.map cI))),(3,.one (recC ec a.2.1)),(2,.one (.box (cTr (.mk 5 tn tb tk ta)))),(0,.one (.ptr (.o 0) 0))])
  (fun a=>⟨0,[],a.2.2⟩) (fun n a=>a.1<=tb.length/\a.2.1.length=a.1/\RecI T ec ec tb.length a.2.1 oB a.2.2/\n=tb.length - a.1) (a0:=(0,[],oB)) (ρ:=_root_.id) ⟨by simp,rfl,⟨trivial,by simp[nms],by simp[nms],fun _ _=>rfl,hwB.ok⟩,rfl⟩
  (Qzw rfl zFW (by simp[recC,Q3e hei]) zLO rfl (by rw[hoB]) (by rw[hoB]at hwB;exact hwB.ok)) fun n a ha=>?_
 obtain⟨j,L,ou1⟩:=a;obtain⟨hj,hL,hI,rfl⟩:=ha;dsimp only at hj hL hI ⊢;have Qvs:=hI.ok;have hri:(recC ec L).ids isO:=Qhg hei L;refine zA ?_;refine Qyl rfl (fun hb2=>?_) (fun hb2=>?_)
 ·have hlt:j < tb.length:=by simpa using hb2
  clear hb2;obtain⟨x,hx⟩:=Q00 hlt;obtain⟨s,hs⟩:=Q00 (l:=tk) (i:=j) zoy;refine zA ?_;refine zS (zIA rfl rfl rfl zoy (Q0c hx)) ?_;refine zA ?_;refine zS (zIA rfl rfl rfl zoy (Q1z hs)) ?_;repeat ((fail_if_success ((with_reducible refine oj ?_);refine Qtz 109 rfl ?_));first|refine zO ?_)
  refine Qyw [0] rfl zdy Qvs fun q hq=>⟨[(108,.one (.ptr (.o q) 0)),(99,.one (int x)),(98,.one (recC ec L)),(93,.one (int j)),(92,.one (int (tb.map cI).length)),(91,.one (.sl 1 (tb.map cI))),(2,.one (.box (cTr (.mk 5 tn tb tk ta)))),(0,.one (.ptr (.o 0) 0))],[],[.cells [.box (cTr s),nilPE]],?_,.nil,?_,?_⟩
  ·exact .cons rfl rfl (.cons rfl rfl (.consP rfl hri (.cons rfl rfl (.cons rfl rfl (.consP rfl zsy (.consP rfl zsy (.cons rfl rfl .nil)))))))
  ·exact .cons rfl (Qys (fun i hi=>by cases i with|l q=>exact hi.elim|o q=>rfl) _ ⟨by simp,trivial,trivial⟩) .nil
  have hN1:=NewO.add hq Qvs (show (AObj.cells [.box (cTr s),nilPE]).ids isO from ⟨by simp,trivial,trivial⟩);refine zS (Qte Qas rfl rfl) ?_;refine Qrb hΓ rfl rfl rfl rfl rfl rfl rfl ⟨hri,trivial,⟨trivial,trivial⟩,trivial⟩ hN1.ok (Qfo x (.ifc tClo false [.ptr (.o q) 0]) (recC ec L) ⟨trivial,trivial⟩ hri _) fun r ou2 hq2 _ Qvy=>?_;obtain⟨k,rfl,hN2⟩:=hq2;have hI2:RecI T ec ec tb.length ((k,q)::L) oB ou2:=hI.add zoy (by rw[hTk,hL,Z0o,hs];rfl) (by rw[hTb,hL,Z0o,hx];rfl) hN1 hN2;refine zM ?_;exact cInv ⟨tb.length - (j+1),(j+1,(k,q)::L,ou2),_root_.id,by omega,⟨by omega,by simp[hL],hI2,rfl⟩,Qzw rfl zFW (by simp[recC]) zLO rfl rfl Qvy⟩
 ·have hlt:j=tb.length:=by simp at hb2;omega
  subst hlt;clear hb2;obtain⟨tp,htp⟩:∃tp,tp=recC ec L:=⟨_,rfl⟩;have hti:tp.ids isO:=by rw[htp];exact hri
  have hI0:RecI T ec tp L.length L oB ou1:=⟨hI.o.setTop tp zoy zoy,hI.nd,hI.new,hI.old,hI.ok⟩;refine zA ?_;refine Qre hΓ (α:=List (Nat×Nat)×List (Nat×Nat)×Outer) (fun a=>[(6,.one (recC ec a.2.1)),(3,.one tp),(2,.one (.box (cTr (.mk 5 tn tb tk ta)))),(0,.one (.ptr (.o 0) 0))])
   (fun a=>⟨0,[],a.2.2⟩) (fun n a=>a.1++a.2.1=L/\RecI T ec tp a.2.1.length L oB a.2.2/\n=a.2.1.length) (a0:=([],L,ou1)) (ρ:=_root_.id) ⟨rfl,hI0,rfl⟩
   (Qzw rfl (by rw[htp];(repeat' first|exact Qzq|refine zfc ?_|refine zfo ?_|refine zfp ?_ (hp:=by first|assumption|(simp;done)))) (by simp[Q3e hri,Q3e hti]) zLO rfl rfl Qvs) fun n a ha=>?_
  obtain⟨A,l,ou3⟩:=a;obtain⟨hA,hI3,rfl⟩:=ha;dsimp only at hA hI3 ⊢;have hou3:=hI3.ok;have hx0:ou3 0=some (.cells (mC (.box (cTr (.mk 5 tn tb tk ta))) ec vc kc m.out m.steps fu fc)):=by rw[hI3.old 0 (fun hm=>by have:=hI3.new 0 hm;rw[hB0]at this;cases this)];exact hB0
  have e3:=Qec (n:=m.out.length) hx0;have hI3o:RecO T ec tp l.length ou3 (A++l):=by rw[hA];exact hI3.o
  have hneq:∀{E:Env}{o:Oper}{fr:Fr}{x y:Operand}{yt:TypeId},E.P=Tryz.prog->TabOk E.P E.T->(∃tj,Tab.get 248 E.T=some tj/\Nat.beq tj.size 0=false)->o.op=.binOp .neq 100 x y yt->aEval E.Γ fr x=some (.one (recC ec l))->aEval E.Γ fr y=some (.one ec)->AStep E o fr ⟨0,[],ou3⟩ (.one (.lit (.bool (!l.isEmpty)))) ⟨0,[],ou3⟩:=by
   intro E o fr x y yt hP hTb ⟨tj,htj,hsz⟩ ho hx hy;have hu:E.P.underlying 100=some (.pointer 248):=by rw[hP];exact Tryz.underlying100
   cases l with
   |nil=>cases hche with
    |nil=>exact Qtb hu ho hx hy
    |cons i k0 vc0 nc l0 hk0 hch=>exact Qug hTb hu htj ho hx hy
   |cons p l=>
    obtain⟨k,q⟩:=p;have hkO:=(hI3o.split).1;cases hche with
    |nil=>exact Qta hu ho hx hy
    |cons i k0 vc0 nc l0 hk0 hch=>
     have hk0B:=hwB.inO k0 _ hk0;have hk0n:k0∉nms L:=fun hm=>by have:=hI3.new k0 hm;rw[hk0B]at this;cases this
     have hkm:k∈nms L:=by rw[←hA,Qcz];simp[nms]
     exact Quf hTb hu htj hsz ho hx hy hkO (show ou3 k0=_ by rw[hI3.old k0 hk0n];exact hk0B) (fun e=>by cases e;exact hk0n hkm)
  cases l with
  |nil=>
   rw[Z02]at hA;subst hA;repeat' first|refine zN ?_|((with_reducible refine oj ?_);first|refine zix ?_|refine zow rfl rfl hx0 ?_)
   refine zS (hneq rfl tabOk ⟨_,rfl,rfl⟩ rfl rfl rfl) ?_;obtain⟨s,hs⟩:=Q00 (l:=tk) (i:=tb.length) zoy;have hix:(Q0y tk)[((tb.map cI).length:Int).toNat]?=some [.box (cTr s)]:=by simpa[cB]using Q1z hs
   have hgd:tk.getD tb.length default=s:=by rw[Z0o,hs];rfl
   rw[e3];refine zA ?_;refine ACode.drawSt tabOk 17 16 [(11,.one (.box [.box (cTr s)]))] _ follows zky rfl rfl zky rfl ?_ rfl rfl rfl rfl ?_ ?_ (Qqt tabOk rfl) ?_
   ·rfl
   ·exact⟨⟨_,rfl,zIA rfl rfl rfl zoy hix⟩,trivial⟩
   ·exact⟨⟨_,rfl,zIA rfl rfl rfl zoy hix⟩,trivial⟩
   refine zA ?_;have hg:=hI3.gro hwB.inO;have hw3:WR (ouX (mC (.box (cTr (.mk 5 tn tb tk ta))) ec vc kc m.out m.steps fu fc) m.out.length ou3) (recH H ou3 A) nm m.heap:=by rw[←e3];exact hwB.gro hg (by rw[hB0];simp) trivial
   have hrc:RecC (recH H ou3 A) T tp A.length (recC ec A) ec:=hI3.o.chain fun k hk cs hc=>by unfold recH;rw[if_pos hk,hc]
   have hAl:A.length=T.binds.length:=by rw[hTb];exact hL
   rw[hAl,←htp]at hrc;rw[hgd];refine StQ.fin rfl rfl (hg.mo nm) (Qua (e:=.recs (.mk 5 tn tb tk ta) e) hw3 ?_ (hk.mo (hg.mo nm)) h0.ids.2.2.1 hfc rfl rfl (fun _=>rfl));rw[←hT];exact .recs T e tp ec hrc (he.mo (hg.mo nm))
  |cons p l=>
   obtain⟨k,q⟩:=p;have hkO:=(hI3o.split);obtain⟨hkc,hqc,_⟩:=hkO;have hnd:=hI3.nd;rw[←hA]at hnd;have hkq:k≠q:=by rw[Qcz,Z26]at hnd;have:=hnd.2.1;simp only[nms,Z27,Z1p,not_or]at this;exact this.1.1
   have hri2:(recC ec l).ids isO:=Qhg hei l;repeat' first|refine zN ?_|((with_reducible refine oj ?_);first|refine zix ?_|refine zow rfl rfl hx0 ?_)
   refine zS (hneq rfl tabOk ⟨_,rfl,rfl⟩ rfl rfl rfl) ?_;repeat' first|refine zN ?_|((with_reducible refine oj ?_);first|refine zix ?_|refine zow rfl rfl hkc ?_)
   refine zS (Que Qas rfl rfl) ?_;refine zA ?_;refine Qyy tabOk rfl rfl rfl rfl rfl rfl rfl hqc (by simp[clC]) ?_;obtain⟨ou4,hou4⟩:∃ou4:Outer,ou4=(St.set ⟨0,[],ou3⟩ (.o q) (.cells ((clC T l.length (l.length+1) tp).set 1 tp))).ou:=⟨_,rfl⟩;have hσ:St.set ⟨0,[],ou3⟩ (.o q) (.cells ((clC T l.length (l.length+1) tp).set 1 tp))=⟨0,[],ou4⟩:=by rw[hou4];rfl
   have h4q:ou4 q=some (.cells [.box (cTr (T.kids.getD l.length default)),tp]):=by rw[hou4];simp[St.set,clC]
   have h4o:∀m,m≠q->ou4 m=ou3 m:=fun m hm=>by rw[hou4];simp[St.set,Q06 hm]
   have hI4:RecI T ec tp l.length (A++(k,q)::l) oB ou4:=RecI.tie (by rw[hA];exact hI3) h4q h4o hti;have hkc4:ou4 k=some (.cells [int (T.binds.getD l.length 0),.ifc tClo false [.ptr (.o q) 0],recC ec l]):=by rw[h4o k hkq];exact hkc
   refine AOps.stEq hσ ?_;repeat' first|refine zN ?_|((with_reducible refine oj ?_);first|refine zix ?_|refine zow rfl rfl hkc4 ?_)
   exact cInv ⟨l.length,(A++[(k,q)],l,ou4),_root_.id,by simp,⟨by simpa using hA,by rw[hA]at hI4;exact hI4,rfl⟩,Qzw rfl zFW (by simp[Q3e hri2,Q3e hti]) zLO rfl rfl hI4.ok⟩
end
end Go.Proofs.YtlmokgooijbcdaaGreatDoor
namespace Go.Abs
theorem CedFrN.gs{js:List Nat}{kk k j k' s:Nat}{es:List (List AC)}{fr r:Fr}(h:Fr.get k fr=some (.one (.gs s es (.l j))))(hes:idsS isO es)(hj:toOs js kk (.l j)=.o k')(hr:CedFrN (toOs js kk) fr r):CedFrN (toOs js kk) fr ((k,.one (.gs s es (.o k')))::r):=
 .cons h (by simp only[FV.sub,AC.sub];rw[hj,Qh7 (fun i hi=>by cases i with|l q=>exact hi.elim|o q=>rfl) es hes]) hr
end Go.Abs
namespace Go.Proofs.YtlmokgooijbcdaaGreatDoor
variable {Γ:List (Nat×List AC)}
section
variable {fu:Int}{fc:FcT}{fns:List Fun}{ou:Outer}{H:Hm}{nm:Nm2}{m:Ms}{tc ec vc kc:AC}{t:Tr}{e:En}
def PlQ (fu:Int)(fc:FcT)(H:Hm)(nm:Nm2)(m1:Ms)(v:Vl)(tc ec vc kc:AC):FV->Outer->Prop:=fun r ou'=>∃kt H1 nm1 c,r=.one c/\Mo H nm H1 nm1/\VR H1 nm1 v c/\M0 fu ⟨fc.ac,kt⟩ ou' H1 nm1 m1 tc ec vc kc
theorem Quh{n kt kt':Nat}{es es':List (List AC)}{heap:List (List Vl)}(w:WR (ouX mc n ou0) H nm heap)(hmc:mc[4]?=some (.gs 1 es (.o kt)))(hi:idsL isO mc')(hmc':mc'[4]?=some (.gs 1 es' (.o kt')))(h0:ou' 0=some (.cells mc'))(hk0:ouX mc n ou0 kt'=none)(h1:ou' kt'=some (.tok 3 1 es'.length))(hd:ou' kt=some .dead)(ho:∀k,1<=k->k≠kt->k≠kt'->ou' k=ou0 k):WR ou' H nm heap:=by
 obtain⟨kt2,e1,e2,e3,e4,e5⟩:=w.tk mc rfl _ _ hmc;cases e1;have hk1:1<=kt':=by
  match kt',hk0 with
  |0,h=>cases h
  |k+1,_=>omega
 have e:∀k,1<=k->k≠kt->k≠kt'->ou' k=ouX mc n ou0 k:=fun k hk h2 h3=>by obtain⟨j,rfl⟩:∃j,k=j+1:=⟨k - 1,by omega⟩;rw[ho _ hk h2 h3];rfl
 have hkH:∀k cs,H k=some cs->1<=k/\k≠kt/\k≠kt':=fun k cs hk=>by
  refine⟨?_,(by rintro rfl;rw[e4]at hk;cases hk),(by rintro rfl;rw[w.inO _ _ hk]at hk0;cases hk0)⟩
  match k with
  |0=>rw[w.sep.1]at hk;cases hk
  |k+1=>omega
 have hkA:∀(a k n:Nat),nm[a]?=some (k,n)->1<=k/\k≠kt/\k≠kt':=fun a k n h=>by refine⟨w.sep.2 a k n h,e5 a k n h,?_⟩;rintro rfl;obtain⟨cs,c1,_⟩:=w.arr a k n h;rw[c1]at hk0;cases hk0
 refine⟨fun k cs hk=>?_,fun k o hk=>?_,w.len,fun a k n h=>?_,w.aH,w.aa,w.sep,fun cs hc es2 i hi2=>?_,fun k o hk=>?_⟩
 ·obtain⟨h2,h3,h4⟩:=hkH k cs hk;rw[e k h2 h3 h4];exact w.inO k cs hk
 ·by_cases h2:k=0
  ·subst h2;rw[h0]at hk;cases hk;exact hi
  by_cases h3:k=kt
  ·subst h3;rw[hd]at hk;cases hk;trivial
  by_cases h4:k=kt'
  ·subst h4;rw[h1]at hk;cases hk;trivial
  rw[e k zoy h3 h4]at hk;exact w.ok k o hk
 ·obtain⟨h2,h3,h4⟩:=hkA a k n h;rw[e k h2 h3 h4];exact w.arr a k n h
 ·rw[h0]at hc;cases hc;rw[hmc']at hi2;cases hi2;refine⟨kt',rfl,hk1,h1,?_,fun a k n h=>(hkA a k n h).2.2⟩;cases hh:H kt' with
  |none=>rfl
  |some c=>exact absurd rfl (hkH _ _ hh).2.2
 ·by_cases h2:k=0
  ·subst h2;rw[h0]at hk;cases hk;trivial
  by_cases h3:k=kt
  ·subst h3;rw[hd]at hk;cases hk;trivial
  by_cases h4:k=kt'
  ·subst h4;rw[h1]at hk;cases hk;trivial
  rw[e k zoy h3 h4]at hk;exact w.pl k o hk
theorem Qja(hΓ:GI Γ)(h0:M0 fu fc ou H nm m tc ec vc kc)(hfc:fc.ids isO)(a:Int)(hol:m.out.length<=1000)(hne:m.out.length≠1000):
  AFn Tryz.prog Γ 173 [.one (.ptr (.o 0) 0),.one (int 7),.one (.sl 1 [[iW a]])] ou (PlQ fu fc H nm { m with out:=m.out++[a] } (.obj 0 []) tc ec vc kc):=by
 have hoX:=h0.ouX;have Qvd:=h0.ids;have hw:=h0.w;rw[hoX]at hw ⊢;generalize hmc:ou=ou0 at hw;clear hoX;obtain⟨kt2,e1,e2,e3,e4,e5⟩:=hw.tk _ rfl _ _ (show (mC tc ec vc kc m.out m.steps fu fc)[4]?=_ from rfl);obtain⟨ac,kt⟩:=fc;simp only[Abs.Id.o.injEq]at e1;subst e1;obtain⟨kj,rfl⟩:∃kj,kt=kj+1:=⟨kt - 1,by omega⟩;refine zwk 152 Z3z fun hou=>?_;refine zA ?_;refine Qyl rfl (fun hb=>absurd (by simpa using hb) (show ¬((m.out.length:Int)=1000) by omega)) (fun _=>?_);refine zA ?_;refine ACode.drawC2 tabOk 13 [10,11,12] [(6,.one (.box [iW a])),(8,.one (int a))] (fun vs σ=>match vs with
   |[]=>σ=⟨0,[],ouX (mC tc ec vc kc m.out m.steps fu ⟨ac,kj+1⟩) m.out.length ou0⟩
   |[v]=>v=.one (.gs 1 (m.out.map cI++[[int a]]) (.l 0))/\σ=(St.set ⟨0,[],ouX (mC tc ec vc kc m.out m.steps fu ⟨ac,kj+1⟩) m.out.length ou0⟩ (.o (kj+1)) .dead).push (.tok 3 1 (m.out.map cI++[[int a]]).length)
   |[v,w]=>v=.one (.gs 1 (m.out.map cI++[[int a]]) (.l 0))/\w=.one (.ptr (.o 0) 0)/\σ=(St.set ⟨0,[],ouX (mC tc ec vc kc m.out m.steps fu ⟨ac,kj+1⟩) m.out.length ou0⟩ (.o (kj+1)) .dead).push (.tok 3 1 (m.out.map cI++[[int a]]).length)
   |[v,w,x]=>v=.one (.gs 1 (m.out.map cI++[[int a]]) (.l 0))/\w=.one (.ptr (.o 0) 0)/\x=.one (.ptr (.o 0) 4)/\σ=(St.set ⟨0,[],ouX (mC tc ec vc kc m.out m.steps fu ⟨ac,kj+1⟩) m.out.length ou0⟩ (.o (kj+1)) .dead).push (.tok 3 1 (m.out.map cI++[[int a]]).length)
   |_=>False) follows zky rfl rfl zdy zky zky rfl rfl ?_ ?_ zdy ?_ ?_
 ·intro vs σ h
  match vs with
  |[]=>subst h;rfl
  |[_]=>obtain⟨_,rfl⟩:=h;rfl
  |[_,_]=>obtain⟨_,_,rfl⟩:=h;rfl
  |[_,_,_]=>obtain⟨_,_,_,rfl⟩:=h;rfl
  |_::_::_::_::_=>exact h.elim
 ·intro vs σ h;have ho2:OuOk σ.ou:=by
   have hd:OuOk (St.set ⟨0,[],ouX (mC tc ec vc kc m.out m.steps fu ⟨ac,kj+1⟩) m.out.length ou0⟩ (.o (kj+1)) .dead).ou:=fun k o hk=>by
    simp only[St.set]at hk;by_cases e:k=kj+1
    ·subst e;simp at hk;subst hk;trivial
    ·rw[Q06 e]at hk;exact hou k o hk
   match vs with
   |[]=>subst h;exact hou
   |[_]=>obtain⟨_,rfl⟩:=h;exact hd
   |[_,_]=>obtain⟨_,_,rfl⟩:=h;exact hd
   |[_,_,_]=>obtain⟨_,_,_,rfl⟩:=h;exact hd
   |_::_::_::_::_=>exact h.elim
  exact⟨⟨_,rfl,zIA rfl rfl rfl zdy rfl⟩,⟨_,rfl,Qqy hΓ rfl rfl rfl (by simp[idsF,iW]) ho2 (Q2q a)⟩,trivial⟩
 ·intro vs σ h i o hi ho
  match vs with
  |[]=>
   subst h;cases hi;cases ho;exact⟨rfl,.inl (.inl ⟨_,_,Qz1 tabOk rfl rfl rfl rfl rfl rfl (Qrm _ _ _ _ _ (show ouX (mC tc ec vc kc m.out m.steps fu ⟨ac,kj+1⟩) m.out.length ou0 (kj+1)=_ from e3) zsy) (.sl 1 [[int a]]) rfl (by simp;show _ * 8<=_;omega) zuy,rfl,rfl⟩)⟩
  |[_]=>obtain⟨rfl,rfl⟩:=h;cases hi;cases ho;exact⟨rfl,.inl (.inl ⟨_,_,Qqs tabOk rfl,rfl,rfl,rfl⟩)⟩
  |[_,_]=>obtain⟨rfl,rfl,rfl⟩:=h;cases hi;cases ho;exact⟨rfl,.inl (.inl ⟨_,_,Qqs tabOk rfl,rfl,rfl,rfl,rfl⟩)⟩
  |_::_::_::_=>cases hi
 ·intro vs σ hl h
  match vs with
  |[_,_,_]=>
   obtain⟨rfl,rfl,rfl,rfl⟩:=h;have hIds:∀l:List Int,idsS isO (l.map cI):=fun l=>by simp
   have hd:OuOk (St.set ⟨0,[],ouX (mC tc ec vc kc m.out m.steps fu ⟨ac,kj+1⟩) m.out.length ou0⟩ (.o (kj+1)) .dead).ou:=fun k o hk=>by
    simp only[St.set]at hk;by_cases e:k=kj+1
    ·subst e;simp at hk;subst hk;trivial
    ·rw[Q06 e]at hk;exact hou k o hk
   refine Qyw [0] rfl zdy hd fun q hq=>⟨[(134,.one (.ptr (.o 0) 4)),(132,.one (.gs 1 (m.out.map cI++[[int a]]) (.o q)))],[],[.tok 3 1 (m.out.map cI++[[int a]]).length],?_,.nil,?_,?_⟩
   ·exact .cons rfl rfl (.gs rfl (by rw[show m.out.map cI++[[int a]]=(m.out++[a]).map cI by simp[cI]];exact hIds _) rfl .nil)
   ·exact .cons rfl rfl .nil
   have hq0:kj+1 < q:=by
    rcases Z33 (kj+1) q with h|h
    ·exact h
    ·have:=hq (kj+1) h;simp[St.push,St.set]at this
   generalize hA:(ouAdd (((St.set ⟨0,[],ouX (mC tc ec vc kc m.out m.steps fu ⟨ac,kj+1⟩) m.out.length ou0⟩ (.o (kj+1)) .dead).push (.tok 3 1 (m.out.map cI++[[int a]]).length)).ou) q [.tok 3 1 (m.out.map cI++[[int a]]).length])=oA;have hA0:oA 0=some (.cells (mC tc ec vc kc m.out m.steps fu ⟨ac,kj+1⟩)):=by rw[←hA,Q14 zoy];rfl
   have hAq:oA q=some (.tok 3 1 (m.out.map cI++[[int a]]).length):=by rw[←hA];exact Q0o 0
   have hAd:oA (kj+1)=some .dead:=by rw[←hA,Q14 hq0];simp[St.push,St.set]
   have hAk:∀k,1<=k->k≠kj+1->k≠q->oA k=ou0 k:=fun k h2 h3 h4=>by
    obtain⟨j,rfl⟩:∃j,k=j+1:=⟨k - 1,by omega⟩;rcases Z33 (j+1) q with h|h
    ·rw[←hA,Q14 h];simp[St.push,St.set,Q06 h3];rfl
    ·have e5:ou0 (j+1)=none:=by have:=hq (j+1) h;simp[St.push,St.set,Q06 h3]at this;exact this
     obtain⟨p,hp⟩:∃p,j+1=q+p:=⟨j+1 - q,by omega⟩;rw[e5,←hA,hp,Q0o]
     match p,hp with
     |0,hp=>omega
     |p+1,_=>rfl
   have hqn:ouX (mC tc ec vc kc m.out m.steps fu ⟨ac,kj+1⟩) m.out.length ou0 q=none:=by have:=hq q (Z30 _);simp[St.push,St.set,Q06 (show q≠kj+1 by omega)]at this;exact this
   refine Qyy tabOk rfl rfl rfl rfl rfl rfl rfl hA0 (by simp[mC]) ?_;have hN:M0 fu ⟨ac,q⟩ (St.set ⟨1,[],oA⟩ (.o 0) (.cells ((mC tc ec vc kc m.out m.steps fu ⟨ac,kj+1⟩).set 4 (.gs 1 (m.out.map cI++[[int a]]) (.o q))))).ou H nm { m with out:=m.out++[a] } tc ec vc kc:=by
    have hmm:(mC tc ec vc kc m.out m.steps fu ⟨ac,kj+1⟩).set 4 (.gs 1 (m.out.map cI++[[int a]]) (.o q))=mC tc ec vc kc (m.out++[a]) m.steps fu ⟨ac,q⟩:=by simp[mC,cI]
    rw[hmm];refine⟨Qvd,by simp[St.set],Quh hw rfl (show idsL isO (mC tc ec vc kc (m.out++[a]) m.steps fu ⟨ac,q⟩)from ⟨Qvd.1,Qvd.2.1,Qvd.2.2.1,Qvd.2.2.2,⟨trivial,hIds _⟩,trivial,trivial,hfc,trivial⟩) (show (mC tc ec vc kc (m.out++[a]) m.steps fu ⟨ac,q⟩)[4]?=some (.gs 1 ((m.out++[a]).map cI) (.o q))from rfl) (by simp[St.set]) hqn ?_ ?_ ?_⟩
    ·simp[St.set,Q06 (show q≠0 by omega),hAq]
    ·simp[St.set,Q06 (show kj+1≠0 by omega),hAd]
    ·intro k h2 h3 h4;simp[St.set,Q06 (show k≠0 by omega)];exact hAk k h2 h3 h4
   have hNo:=hN.w.ok;repeat ((fail_if_success ((with_reducible refine oj ?_);refine Qtz 137 rfl ?_));first|refine zO ?_)
   refine Qyx (.l 1) 136 rfl rfl ?_;refine Qyz 136 rfl (y:=.one (.box [int 0,.sl 1 []])) (.one (Z45 (.cons (.refl _) (.cons (.nilS 1) .nil)))) ?_;refine zS (Qte Q5p rfl rfl) ?_;refine zA ?_;exact Qst rfl (Z46 rfl) (by simp[iB]) hNo ⟨q,H,nm,iB tObj [int 0,.sl 1 []],rfl,.refl _ _,.obj 0 [] [] .nil,hN⟩
  |[]|[_]|[_,_]=>cases hl
  |_::_::_::_::_=>exact h.elim
end
section
variable {fu:Int}{fc:FcT}{fns:List Fun}{ou:Outer}{H:Hm}{nm:Nm2}{m m1:Ms}{v:Vl}{tc ec vc kc:AC}{t:Tr}{e:En}{d:List Vl}{k:List Fm}{dc:List (List AC)}{tc0 ec0 vc0 kc0:AC}
theorem Qlg(hΓ:GI Γ)(h0:M0 fu fc ou H nm m tc ec vc kc)(hd:VsR H nm d dc)(h6:t.op=6):
  AFn Tryz.prog Γ 143 [.one (.ptr (.o 0) 0),.one (.box (cTr t)),.one (.sl 1 dc)] ou (PlQ fu fc H nm m (.obj t.n d) tc ec vc kc):=by
 have hdi:=hd.ids;refine zwk 85 Tryz.func143 fun hou=>?_;cases t with
 |mk to tn tb tk ta=>
 obtain rfl:to=6:=h6;repeat ((fail_if_success ((with_reducible refine oj ?_);refine Qtz 23 rfl ?_));first|refine zO ?_)
 refine Qyx (.l 0) 22 rfl rfl ?_;refine zS (Qte Q5p rfl rfl) ?_;refine zA ?_;exact Qst rfl (Z46 rfl) ⟨⟨trivial,hdi,trivial⟩,trivial⟩ hou ⟨fc.kt,H,nm,iB tObj [int tn,.sl 1 dc],rfl,.refl _ _,.obj tn d dc hd,h0⟩
theorem Qjb(hΓ:GI Γ)(hd:VsR H nm d dc)(h8:t.op=8)(hp:AFn Tryz.prog Γ 173 [.one (.ptr (.o 0) 0),.one (int t.n),.one (.sl 1 dc)] ou (PlQ fu fc H nm m1 v tc ec vc kc)):
  AFn Tryz.prog Γ 143 [.one (.ptr (.o 0) 0),.one (.box (cTr t)),.one (.sl 1 dc)] ou (PlQ fu fc H nm m1 v tc ec vc kc):=by
 have hdi:=hd.ids;refine zwk 85 Tryz.func143 fun hou=>?_;cases t with
 |mk to tn tb tk ta=>
 obtain rfl:to=8:=h8;refine zA ?_;refine Qrb hΓ rfl rfl rfl rfl rfl rfl rfl ⟨trivial,trivial,hdi,trivial⟩ hou hp fun r ou' hq Qvd how=>?_;obtain⟨kt,H1,nm1,c,rfl,hq⟩:=hq;refine zA ?_;exact Qst rfl (Z47 _) Qvd how ⟨kt,H1,nm1,c,rfl,hq⟩
theorem Qg6(h0:M0 fu fc ou H nm m tc0 ec0 vc0 kc0)(hk:KR H nm k kc)(hfc:fc.ids isO):M0 fu fc (ouX (mC tc0 ec0 vc0 kc m.out m.steps fu fc) m.out.length ou) H nm m tc0 ec0 vc0 kc:=by have hw:=h0.w;rw[h0.ouX]at hw;exact⟨⟨h0.ids.1,h0.ids.2.1,h0.ids.2.2.1,hk.ids⟩,rfl,hw.put (mc':=mC tc0 ec0 vc0 kc m.out m.steps fu fc) (by simp[mC,h0.ids.1,h0.ids.2.1,h0.ids.2.2.1,hk.ids,hfc]) rfl rfl (fun _=>rfl)⟩
theorem Qpl(hΓ:GI Γ)(h0:M0 fu fc ou H nm m tc0 ec0 vc0 kc0)(hfc:fc.ids isO)(he:ER H nm e ec)(hd:VsR H nm d dc)(hk:KR H nm k kc)(hl:d.length=1)(h7:t.op=7){x:Except Int Ms}
  (hch:∀ou',M0 fu fc ou' H nm m tc0 ec0 vc0 kc->AFn Tryz.prog Γ 138 [.one (.ptr (.o 0) 0),.one (.box [.box (cTr t),ec,.sl 1 dc,kc])] ou' (StQ fu fc H nm x)):
  AFn Tryz.prog Γ 111 [.one (.ptr (.o 0) 0),.one (.box [.box (cTr t),ec,.sl 1 dc,kc])] ou (StQ fu fc H nm x):=by
 have hN:=Qg6 h0 hk hfc;have hei:=he.ids;have hdi:=hd.ids;have hki:=hk.ids;have hdl:=hd.len;have hop:opdN t=1:=by unfold opdN;rw[if_pos (.inr (.inl h7))]
 have hoX:=h0.ouX;rw[hoX];generalize hmc:ou=ou0 at hN;clear hoX;refine zwk 262 Z3w fun hou=>?_;refine zA ?_;refine zdx 10 [(9,.one (int (opdN t)))] ?_ ?_
 ·exact⟨⟨_,rfl,Qqy hΓ rfl rfl rfl (by simp[idsF]) hou (Qa3 t)⟩,trivial⟩
 refine zA ?_;refine Qyl rfl (fun hb=>absurd hb (by simp[hdl,hl,hop])) (fun hb=>?_);refine zA ?_;refine ACode.stEq (σ':=⟨0,[],ouX (mC tc0 ec0 vc0 kc m.out m.steps fu fc) m.out.length ou0⟩) (setX _ _ _ _) ?_;refine Qyl rfl (fun hb=>absurd hb (by simp[h7])) (fun _=>?_);refine zA ?_;refine Qyl rfl (fun _=>?_) (fun hb=>absurd hb (by simp[h7]));refine zA ?_;refine Qrb hΓ rfl rfl rfl rfl rfl rfl rfl ⟨trivial,⟨by simp,hei,hdi,hki,trivial⟩,trivial⟩ hN.w.ok (hch _ hN) fun r ou' hq _ how=>?_;obtain⟨rfl,H',nm',m',hx,hmo,hM⟩:=hq;refine zA ?_;exact StQ.fin rfl hx hmo hM
theorem kid_app(hΓ:GI Γ)(h0:M0 fu fc ou H nm m tc0 ec0 vc0 kc0)(hfc:fc.ids isO)(he:ER H nm e ec){v0:Vl}{c0:AC}{ds:List (List AC)}(hv0:VR H nm v0 c0)(hd:VsR H nm d ds)(hk:KR H nm k kc)(hl:d.length+1=t.kids.length)(h3:t.op=3){x:Except Int Ms}
  (hcl:∀ou',M0 fu fc ou' H nm m tc0 ec0 vc0 kc->AFn Tryz.prog Γ 139 [.one (.ptr (.o 0) 0),.one c0,.one (.sl 1 ds)] ou' (StQ fu fc H nm x)):
  AFn Tryz.prog Γ 111 [.one (.ptr (.o 0) 0),.one (.box [.box (cTr t),ec,.sl 1 ([c0]::ds),kc])] ou (StQ fu fc H nm x):=by
 have hN:=Qg6 h0 hk hfc;have hei:=he.ids;have hdi:=hd.ids;have hvi:=hv0.ids;have hki:=hk.ids;have hdl:=hd.len;have hop:opdN t=t.kids.length:=by unfold opdN;rw[if_neg (by rw[h3];decide)]
 have hoX:=h0.ouX;rw[hoX];generalize hmc:ou=ou0 at hN;clear hoX;refine zwk 262 Z3w fun hou=>?_;refine zA ?_;refine zdx 10 [(9,.one (int (opdN t)))] ?_ ?_
 ·exact⟨⟨_,rfl,Qqy hΓ rfl rfl rfl (by simp[idsF]) hou (Qa3 t)⟩,trivial⟩
 refine zA ?_;refine Qyl rfl (fun hb=>absurd hb (by simp[hdl,hop];omega)) (fun hb=>?_);refine zA ?_;refine ACode.stEq (σ':=⟨0,[],ouX (mC tc0 ec0 vc0 kc m.out m.steps fu fc) m.out.length ou0⟩) (setX _ _ _ _) ?_;refine Qyl rfl (fun hb=>absurd hb (by simp[h3])) (fun _=>?_);refine zA ?_;refine Qyl rfl (fun hb=>absurd hb (by simp[h3])) (fun _=>?_);refine zA ?_;refine Qyl rfl (fun _=>?_) (fun hb=>absurd hb (by simp[h3]));refine zA ?_;refine zdx 12 [(5,.one (.box [c0])),(11,.one (.sl 1 ds))] ?_ ?_
 ·exact⟨⟨_,rfl,zIA rfl rfl rfl zdy rfl⟩,⟨_,rfl,Qt7 (b:=1) (es:=[c0]::ds) tabOk rfl rfl rfl rfl rfl rfl rfl zsy⟩,trivial⟩
 refine zA ?_;refine Qrb hΓ rfl rfl rfl rfl rfl rfl rfl ⟨trivial,hvi,hdi,trivial⟩ hN.w.ok (hcl _ hN) fun r ou' hq _ how=>?_;obtain⟨rfl,H',nm',m',hx,hmo,hM⟩:=hq;refine zA ?_;exact StQ.fin rfl hx hmo hM
theorem Qep(hΓ:GI Γ)(h0:M0 fu fc ou H nm m tc0 ec0 vc0 kc0)(hfc:fc.ids isO)(he:ER H nm e ec)(hd:VsR H nm d dc)(hk:KR H nm k kc)(hl:d.length=opdN t)(hn:¬(t.op=4∨t.op=7∨t.op=3∨t.op=13∨t.op=12∨t.op=14∨t.op=15∨t.op=16))
  (hpl:∀ou',M0 fu fc ou' H nm m tc0 ec0 vc0 kc->AFn Tryz.prog Γ 143 [.one (.ptr (.o 0) 0),.one (.box (cTr t)),.one (.sl 1 dc)] ou' (PlQ fu fc H nm m1 v tc0 ec0 vc0 kc)):
  AFn Tryz.prog Γ 111 [.one (.ptr (.o 0) 0),.one (.box [.box (cTr t),ec,.sl 1 dc,kc])] ou (StQ fu fc H nm (.ok { m1 with c:=.rt v,k:=k })):=by
 have hN:=Qg6 h0 hk hfc;simp only[not_or]at hn;have hei:=he.ids;have hdi:=hd.ids;have hki:=hk.ids;have hdl:=hd.len;have hoX:=h0.ouX;rw[hoX];generalize hmc:ou=ou0 at hN;clear hoX;refine zwk 262 Z3w fun hou=>?_;refine zA ?_;refine zdx 10 [(9,.one (int (opdN t)))] ?_ ?_
 ·exact⟨⟨_,rfl,Qqy hΓ rfl rfl rfl (by simp[idsF]) hou (Qa3 t)⟩,trivial⟩
 refine zA ?_;refine Qyl rfl (fun hb=>absurd hb (by simp[hdl,hl])) (fun hb=>?_);refine zA ?_;refine ACode.stEq (σ':=⟨0,[],ouX (mC tc0 ec0 vc0 kc m.out m.steps fu fc) m.out.length ou0⟩) (setX _ _ _ _) ?_;refine Qyl rfl (fun hb=>absurd hb (by simp[hn.1])) (fun _=>?_);refine zA ?_;refine Qyl rfl (fun hb=>absurd hb (by simp[hn.2.1])) (fun _=>?_);refine zA ?_;refine Qyl rfl (fun hb=>absurd hb (by simp[hn.2.2.1])) (fun _=>?_);refine zA ?_;refine Qyl rfl (fun hb=>absurd hb (by simp[hn.2.2.2.1])) (fun _=>?_);refine zA ?_;refine Qyl rfl (fun hb=>absurd hb (by simp[hn.2.2.2.2.1])) (fun _=>?_);refine zA ?_;refine Qyl rfl (fun hb=>absurd hb (by simp[hn.2.2.2.2.2.1])) (fun _=>?_);refine zA ?_;refine Qyl rfl (fun hb=>absurd hb (by simp[hn.2.2.2.2.2.2.1])) (fun _=>?_);refine zA ?_;refine Qyl rfl (fun hb=>absurd hb (by simp[hn.2.2.2.2.2.2.2])) (fun _=>?_);refine zA ?_;refine Qyo tabOk 15 11 12 13 14 (.one (.ptr (.o 0) 0)) (.one (.ptr (.o 0) 0)) []
  (fun r σ=>∃kt H1 nm1 c ou1,r=.one c/\σ=⟨0,[],ouX (mC tc0 ec0 vc0 kc m1.out m1.steps fu ⟨fc.ac,kt⟩) m1.out.length ou1⟩/\Mo H nm H1 nm1/\VR H1 nm1 v c/\WR (ouX (mC tc0 ec0 vc0 kc m1.out m1.steps fu ⟨fc.ac,kt⟩) m1.out.length ou1) H1 nm1 m1.heap)
  (fun r σ=>∃kt H1 nm1 c ou1,r=.one c/\σ=⟨0,[],ouX (mC nilPE ec0 vc0 kc m1.out m1.steps fu ⟨fc.ac,kt⟩) m1.out.length ou1⟩/\Mo H nm H1 nm1/\VR H1 nm1 v c/\WR (ouX (mC tc0 ec0 vc0 kc m1.out m1.steps fu ⟨fc.ac,kt⟩) m1.out.length ou1) H1 nm1 m1.heap)
  follows zky rfl rfl zdy zky zky rfl rfl rfl rfl rfl rfl rfl ?_ ?_ trivial (fun _ _ _=>trivial) (fun _ _ _=>trivial) ?_ ?_ ?_ ?_ ?_
 ·rintro r σ ⟨kt,H1,nm1,c,ou1,rfl,rfl,_⟩;rfl
 ·rintro r σ ⟨kt,H1,nm1,c,ou1,rfl,rfl,_⟩;rfl
 ·refine Qtl (Q1m.call hΓ rfl rfl rfl rfl ⟨trivial,by simp,hdi,trivial⟩ hN.w.ok (hpl _ hN) fun r ou' hq hr ho=>?_);obtain⟨kt,H1,nm1,c,rfl,h1,h2,h3⟩:=hq;have hw:=h3.w;have e:=h3.ouX;rw[e]at hw;exact⟨kt,H1,nm1,c,ou',rfl,by rw[←e],h1,h2,hw⟩
 ·rintro r σ ⟨kt,H1,nm1,c,ou1,rfl,rfl,_⟩;exact Qqs tabOk rfl
 ·rintro r σ ⟨kt,H1,nm1,c,ou1,rfl,rfl,_⟩;exact Qqs tabOk rfl
 ·rintro r σ ⟨kt,H1,nm1,c,ou1,rfl,rfl,h1⟩;exact⟨_,⟨kt,H1,nm1,c,ou1,rfl,setX _ _ _ _,h1⟩,Qqt tabOk rfl⟩
 ·rintro r σ ⟨kt,H1,nm1,c,ou1,rfl,rfl,h1,h2,h3⟩;refine zA ?_;have hM:MR fu ⟨fc.ac,kt⟩ (St.set ⟨0,[],ouX (mC nilPE ec0 vc0 kc m1.out m1.steps fu ⟨fc.ac,kt⟩) m1.out.length ou1⟩ (.o 0) (.cells (mC nilPE ec0 c kc m1.out m1.steps fu ⟨fc.ac,kt⟩))).ou H1 nm1 { m1 with c:=.rt v,k:=k }:=Qub h3 h2 (hk.mo h1) h0.ids.2.1 hfc rfl rfl (fun _=>rfl);exact StQ.fin rfl rfl h1 ⟨hM.ex⟩
end
end Go.Proofs.YtlmokgooijbcdaaGreatDoor
namespace Go.Abs
theorem Qui{σ1 σ2:St}{x:FV}(h:AStep E o fr σ x σ1)(hn:σ2.n=σ1.n)(hs:∀i o,σ2.get i=some o->σ1.get i=some o):AStep E o fr σ x σ2:=
 fun F w C tmps hi hf next Q hk=>h F w C tmps hi hf next Q fun u w' C' hg hi' hr=>
  hk u w' C' hg ⟨hi'.base,by rw[hn];exact hi'.next,hi'.glob,hi'.prot,fun i o ho=>hi'.obj i o (hs i o ho),fun i j o o' g h1 h2 h3 h4=>hi'.inj i j o o' g (hs i o h1) (hs j o' h2) h3 h4⟩ hr
theorem Quj{x y:FV}(h:AStep E o fr σ x σ')(hw:WkF x y):AStep E o fr σ y σ':=
 fun F w C tmps hi hf next Q hk=>h F w C tmps hi hf next Q fun u w' C' hg hi' hr=>hk u w' C' hg hi' (hw _ _ _ hr)
end Go.Abs
namespace Go.Proofs.YtlmokgooijbcdaaGreatDoor
variable {Γ:List (Nat×List AC)}
def Qo7 (cs:List (List AC))(ou:Outer)(r:FV)(ou':Outer):Prop:=
 (cs=[]/\r=.one (.lit (.slice none 0 0))/\ou'=ou)∨∃q,r=.one (.gs 1 cs (.o q))/\ou' q=some (.tok 101 1 cs.length)/\ou q=none/\∀m,m≠q->ou' m=ou m
theorem Qni(hΓ:GI Γ)(cs:List (List AC))(hl:cs.length<=1048576)(hi:idsS isO cs)(h1:∀x∈cs,x.length=1)(ou:Outer):AFn Tryz.prog Γ 112 [.one (.sl 1 cs)] ou (Qo7 cs ou):=by
 refine zwk 8 Tryz.func112 fun hou=>?_;refine zA ?_;refine Qsm rfl rfl rfl rfl Tryz.underlying189 rfl rfl fun b hb=>?_;cases b with
 |true=>
  have hz:cs=[]:=by have:=hb rfl;simpa using this
  subst hz;refine zA ?_;exact Qst rfl (.refl _) zsy hou (.inl ⟨rfl,rfl,rfl⟩)
 |false=>
  refine zA ?_;refine zS (Qu0 tabOk rfl rfl rfl rfl rfl) ?_;refine zA ?_;refine AOps.app tabOk rfl rfl rfl rfl rfl rfl rfl rfl rfl (Qrm _ _ _ _ _ (by rfl) zsy) (.sl _ _) rfl (by simp;show _ * 16<=_;omega) zuy ?_;refine Qyw [1] rfl zdy hou fun q hq=>⟨[(7,.one (.gs 1 ([]++cs) (.o q)))],[],[.tok 101 1 ([]++cs).length],.gs rfl (by simpa using hi) rfl .nil,.nil,.cons rfl rfl .nil,?_⟩;have hN:=NewO.add hq hou (show (AObj.tok 101 1 ([]++cs).length).ids isO from trivial);refine zA ?_;refine Qst rfl (Z46 rfl) ⟨trivial,by simpa using hi⟩ hN.ok (.inr ⟨q,by simp,?_,hN.new q (by simp[keys]),fun m hm=>hN.old m (by simp[keys];exact hm)⟩);have:=hN.own (q,_) (Z23.2 rfl);simpa using this
section
variable {fu:Int}{ac:AC}{fns:List Fun}{G:GP}
def KidC (fu:Int)(ac:AC)(G:GP)(Γ:List (Nat×List AC)):Prop:=∀(ou:Outer)(H:Hm)(nm:Nm2)(m m':Ms)(t:Tr)(e:En)(d:List Vl)(k:List Fm)(ec kc tc0 ec0 vc0 kc0:AC)(dc:List (List AC))(kt:Nat),M0 fu ⟨ac,kt⟩ ou H nm m tc0 ec0 vc0 kc0->ER H nm e ec->VsR H nm d dc->KR H nm k kc->
 allT G.p t->gE G e->gVs G d->d.length<=opdN t->nLf t.op->gFs G k->(G.R->k.length<=1048576)->m.out.length<=1000->kidM fu G.fns m (.mk t e d) k=.ok m'->(G.R->m'.k.length<=1048576)->AFn Tryz.prog Γ 111 [.one (.ptr (.o 0) 0),.one (.box [.box (cTr t),ec,.sl 1 dc,kc])] ou (StQ fu ⟨ac,kt⟩ H nm (.ok m'))
def bndX (fu:Int)(fns:List Fun):Nat->Ms->Bool
 |0,m=>decide (m.k.length<=1048576)
 |g+1,m=>decide (m.k.length<=1048576)&&(match Q1n fu fns m with
  |.next m'=>bndX fu fns g m'
  |_=>true)
theorem bndX_k{fns:List Fun}{m:Ms}(h:bndX fu fns g m=true):m.k.length<=1048576:=by
 cases g with
 |zero=>simpa[bndX]using h
 |succ g=>simp only[bndX,Qzc,decide_eq_true_eq]at h;exact h.1
def StartC (fu:Int)(ac:AC)(G:GP)(Γ:List (Nat×List AC)):Prop:=∀(ou:Outer)(H:Hm)(nm:Nm2)(m m':Ms)(t:Tr)(e:En)(ec vc kc:AC)(kt:Nat),M0 fu ⟨ac,kt⟩ ou H nm m (.box (cTr t)) ec vc kc->ER H nm e ec->KR H nm m.k kc->
 allT G.p t->gE G e->gFs G m.k->(G.R->m.k.length<=1048576)->m.out.length<=1000->Q2z fu G.fns m t e=.ok m'->(G.R->m'.k.length<=1048576)->AFn Tryz.prog Γ 113 [.one (.ptr (.o 0) 0)] ou (StQ fu ⟨ac,kt⟩ H nm (.ok m'))
theorem VsR.ones{H:Hm}{nm:Nm2}:∀{v:List Vl}{c:List (List AC)},VsR H nm v c->∀x∈c,x.length=1
 |_,_,.nil,x,hx=>by cases hx
 |_,_,.cons v c vs cs hv h,x,hx=>by
  rcases Z1p.1 hx with rfl|hx
  ·rfl
  ·exact VsR.ones h x hx
theorem run_ok(hΓ:GI Γ)(hac:ac.ids isO)(hG:GPok G)(Qxc:∀t,allT G.p t->opdN t<=1048576)(Qwk:KidC fu ac G Γ)(hstart:StartC fu ac G Γ){H:Hm}{nm:Nm2}{m0:Ms}(h0:MR fu ⟨ac,kt0⟩ ou H nm m0)(hg0:gM G m0){g0:Nat}{mf:Ms}{vf:Vl}(hgo:goX fu G.fns g0 m0=some (.done mf vf))(hbd:G.R->bndX fu G.fns g0 m0=true)(hol:mf.out.length<=1000)(hfu:0<=fu/\fu<=1000000)(hst0:0<=m0.steps)(hmf:mf.steps<=fu):
  AFn Tryz.prog Γ 80 [.one (.ptr (.o 0) 0)] ou (fun r ou'=>r=.one (.lit (.bool true))/\mf.c=.rt vf/\mf.k=[]/\∃H' nm',MR fu ⟨ac,kt0⟩ ou' H' nm' mf):=by
 refine zwk 70 Tryz.func80 fun hou=>?_;refine zA ?_;refine Qre hΓ (α:=Outer×Hm×Nm2×Ms) (fun a=>[(0,.one (.ptr (.o 0) 0))]) (fun a=>⟨0,[],a.1⟩) (fun g a=>MR fu ⟨ac,kt0⟩ a.1 a.2.1 a.2.2.1 a.2.2.2/\gM G a.2.2.2/\goX fu G.fns g a.2.2.2=some (.done mf vf)/\0<=a.2.2.2.steps/\(G.R->bndX fu G.fns g a.2.2.2=true))
  (a0:=(ou,H,nm,m0)) (ρ:=_root_.id) ⟨h0,hg0,hgo,hst0,hbd⟩ (Qzw rfl zFW zsy zLO rfl rfl hou) fun g a ha=>?_
 obtain⟨ou1,H1,nm1,m⟩:=a;obtain⟨hM,hgm,hgo,hst,hbx⟩:=ha;dsimp only at hM hgm hgo hst hbx ⊢;clear hou h0 hg0 hst0 hbd;obtain⟨kt,tc,ec,vc,kc,hCR,hKR,h0⟩:=hM.ex;have hou:=h0.w.ok;have Qy4:m.out.length<=1000:=by
  rcases Qmw hgo with h|h
  ·exact Z31 h hol
  ·cases h
 obtain⟨g,rfl⟩:∃g',g=g'+1:=by
  cases g with
  |zero=>cases hgo
  |succ g=>exact⟨g,rfl⟩
 simp only[goX]at hgo;have hkl:G.R->m.k.length<=1048576:=fun hR=>by have:=hbx hR;simp only[bndX,Qzc,decide_eq_true_eq]at this;exact this.1
 have hbn:G.R->∀m1,Q1n fu G.fns m=.next m1->bndX fu G.fns g m1=true:=fun hR m1 h1=>by have:=hbx hR;simp only[bndX,h1,Qzc]at this;exact this.2
 have Qvd:=h0.ids;have hoX:=h0.ouX;have hki:=hKR.ids;have hw:=h0.w;rw[hoX]at hw hou ⊢;obtain⟨mc,mk,mo,ms,mh⟩:=m;dsimp only at hgo hst hw hou Qvd hki Qy4 h0 hkl hbn ⊢;cases hCR with
 |ev t e ec vc he=>
  have hei:=he.ids;have hsf:¬ms=fu:=fun h=>by simp[Q1n,h]at hgo
  rw[Qcr rfl hsf]at hgo;have hox:∃m',Q2z fu G.fns ⟨.ev t e,mk,mo,ms+1,mh⟩ t e=.ok m':=by
   cases hx:Q2z fu G.fns ⟨.ev t e,mk,mo,ms+1,mh⟩ t e with
   |ok m'=>exact⟨m',rfl⟩
   |error c=>simp only[hx,rdOf]at hgo;cases hgo
  obtain⟨m',hx⟩:=hox;simp only[hx,rdOf]at hgo;have Qy5:gM G m':=Qhd hG hgm (by rw[Qcr rfl hsf,hx];rfl);have Qxd:G.R->bndX fu G.fns g m'=true:=fun hR=>hbn hR m' (by rw[Qcr rfl hsf,hx];rfl);have haf:=Qh8 (fu:=fu) (fns:=G.fns) hx;have hfu':m'.steps<=fu:=Int.le_trans (goX_ge hgo zsy) hmf;simp only at haf;refine zA ?_;refine zS (Qti Z43 rfl rfl rfl) ?_;refine zM ?_;refine zS (Qtj Z43 rfl rfl rfl) ?_;refine zA ?_;refine Qrp tabOk 8 [] follows zky rfl rfl rfl rfl trivial ?_;refine zA ?_;refine Qyl rfl (fun hb=>absurd (by simpa using hb) hsf) (fun _=>?_);refine zM ?_;have hN:M0 fu ⟨ac,kt⟩ (St.set ⟨0,[],ouX (mC (.box (cTr t)) ec vc kc mo ms fu ⟨ac,kt⟩) mo.length ou1⟩ (.o 0) (.cells (mC (.box (cTr t)) ec vc kc mo (ms+1) fu ⟨ac,kt⟩))).ou H1 nm1 ⟨.ev t e,mk,mo,ms+1,mh⟩ (.box (cTr t)) ec vc kc:=
   ⟨Qvd,rfl,hw.put (mc':=mC (.box (cTr t)) ec vc kc mo (ms+1) fu ⟨ac,kt⟩) (by simp[mC,Qvd,hei,hki,hac]) rfl rfl (fun _=>rfl)⟩
  refine Qrb hΓ rfl rfl rfl rfl rfl rfl rfl ⟨trivial,trivial⟩ hN.w.ok (hstart _ H1 nm1 _ m' t e ec vc kc kt hN he hKR hgm.c.1 hgm.c.2 hgm.k hkl Qy4 hx fun hR=>bndX_k (Qxd hR)) fun r ou2 hq _ how=>?_;obtain⟨rfl,H',nm',m2,hx2,hmo,hM2⟩:=hq;cases hx2;refine zA ?_;exact cInv ⟨g,(ou2,H',nm',m'),_root_.id,by omega,⟨⟨hM2.ex⟩,Qy5,hgo,by dsimp only;omega,Qxd⟩,Qzw rfl zFW zsy zLO rfl rfl how⟩
 |rt v ec vc hv=>
  have hvi:=hv.ids;cases hKR with
  |nil=>
   have hr:Q1n fu G.fns ⟨.rt v,[],mo,ms,mh⟩=.done ⟨.rt v,[],mo,ms,mh⟩ v:=by simp[Q1n]
   rw[hr]at hgo;cases hgo;refine zA ?_;refine zS (Qtb Z43 rfl rfl rfl) ?_;refine zM ?_;refine zS (Qtb Tryz.underlying102 rfl rfl rfl) ?_;refine zM ?_;refine Qst rfl (Z46 rfl) zsy hou ⟨rfl,rfl,rfl,H1,nm1,⟨⟨kt,nilPE,ec,vc,nilPE,.rt _ ec vc hv,.nil,?_⟩⟩⟩;rw[←hoX];exact h0
  |cons t e d k ec2 dc kc2 he hd hk=>
   have hei:=he.ids;have hdi:=hd.ids;have hk2i:=hk.ids;have hgf:=hgm.k;obtain⟨⟨g1,g2,g3,g4,gn⟩,g5⟩:=hgf;have hdl:=hd.len;rw[Qcq (f:=.mk t e d) (k:=k) rfl rfl]at hgo;have hox:∃m',kidM fu G.fns ⟨.rt v,.mk t e d::k,mo,ms,mh⟩ (.mk t e (d++[v])) k=.ok m':=by
    cases hx:kidM fu G.fns ⟨.rt v,.mk t e d::k,mo,ms,mh⟩ (.mk t e (d++[v])) k with
    |ok m'=>exact⟨m',rfl⟩
    |error c=>simp only[Qu7,Qu8,Qu9,hx,rdOf]at hgo;cases hgo
   obtain⟨m',hx⟩:=hox;simp only[Qu7,Qu8,Qu9,hx,rdOf]at hgo;have Qy5:gM G m':=Qhd hG hgm (by rw[Qcq (fu:=fu) (f:=.mk t e d) (k:=k) rfl rfl];simp only[Qu7,Qu8,Qu9,hx];rfl);have Qxd:G.R->bndX fu G.fns g m'=true:=fun hR=>hbn hR m' (by rw[Qcq (fu:=fu) (f:=.mk t e d) (k:=k) rfl rfl];simp only[Qu7,Qu8,Qu9,hx];rfl);have haf:=(Q87 hx d v (.inl rfl)).ge;simp only at haf;have hopt:=Qxc t g1;have hD:VsR H1 nm1 (d++[v]) (dc++[[vc]]):=hd.snoc hv;have hDi:=hD.ids;have hcl:=Qni hΓ dc zoy hdi hd.ones;refine zA ?_;refine zS (Qtb Z43 rfl rfl rfl) ?_;refine zM ?_;refine zS (Qti Tryz.underlying102 rfl rfl rfl) ?_;refine zM ?_;refine zS (Qt9 Z43 rfl rfl rfl) ?_;refine zA ?_;have hkd:=Qwk (ouX (mC nilPE ec vc (.box [.box (cTr t),ec2,.sl 1 dc,kc2]) mo ms fu ⟨ac,kt⟩) mo.length ou1) H1 nm1 ⟨.rt v,.mk t e d::k,mo,ms,mh⟩ m' t e (d++[v]) k ec2 kc2 nilPE ec vc (.box [.box (cTr t),ec2,.sl 1 dc,kc2]) (dc++[[vc]]) kt (by rw[←hoX];exact h0) he hD hk g1 g2 (Qge g3 ⟨hgm.c,trivial⟩) zuy gn g5 (fun hR=>by have:=hkl hR;simp only[Z13]at this;omega) Qy4 hx fun hR=>bndX_k (Qxd hR);refine ACode.drawC2 tabOk 26 [13,19,24,25] [(18,.one (.sl 1 [[vc]]))] (fun vs σ=>match vs with
    |[]=>σ=⟨0,[],ouX (mC nilPE ec vc (.box [.box (cTr t),ec2,.sl 1 dc,kc2]) mo ms fu ⟨ac,kt⟩) mo.length ou1⟩
    |[a]=>∃ou2,Qo7 dc (ouX (mC nilPE ec vc (.box [.box (cTr t),ec2,.sl 1 dc,kc2]) mo ms fu ⟨ac,kt⟩) mo.length ou1) a (ouX (mC nilPE ec vc (.box [.box (cTr t),ec2,.sl 1 dc,kc2]) mo ms fu ⟨ac,kt⟩) mo.length ou2)/\σ=⟨0,[],ouX (mC nilPE ec vc (.box [.box (cTr t),ec2,.sl 1 dc,kc2]) mo ms fu ⟨ac,kt⟩) mo.length ou2⟩
    |[a,b]=>b=.one (.sl 1 (dc++[[vc]]))/\σ=⟨1,[],ouX (mC nilPE ec vc (.box [.box (cTr t),ec2,.sl 1 dc,kc2]) mo ms fu ⟨ac,kt⟩) mo.length ou1⟩
    |[a,b,c]=>b=.one (.sl 1 (dc++[[vc]]))/\c=.agg [.box (cTr t),ec2,.sl 1 (dc++[[vc]]),kc2]/\σ=⟨1,[],ouX (mC nilPE ec vc (.box [.box (cTr t),ec2,.sl 1 dc,kc2]) mo ms fu ⟨ac,kt⟩) mo.length ou1⟩
    |[a,b,c,g]=>b=.one (.sl 1 (dc++[[vc]]))/\c=.agg [.box (cTr t),ec2,.sl 1 (dc++[[vc]]),kc2]/\g=.one (.box [.box (cTr t),ec2,.sl 1 (dc++[[vc]]),kc2])/\σ=⟨1,[],ouX (mC nilPE ec vc (.box [.box (cTr t),ec2,.sl 1 dc,kc2]) mo ms fu ⟨ac,kt⟩) mo.length ou1⟩
    |_=>False) follows zky rfl rfl zdy zky zky rfl rfl ?_ ?_ zdy ?_ ?_
   ·intro vs σ h
    match vs with
    |[]=>subst h;rfl
    |[_]=>obtain⟨_,_,rfl⟩:=h;rfl
    |[_,_]=>obtain⟨_,rfl⟩:=h;rfl
    |[_,_,_]=>obtain⟨_,_,rfl⟩:=h;rfl
    |[_,_,_,_]=>obtain⟨_,_,_,rfl⟩:=h;rfl
    |_::_::_::_::_::_=>exact h.elim
   ·intro vs σ h;exact⟨⟨_,rfl,Qzr tabOk rfl⟩,trivial⟩
   ·intro vs σ h i o hi ho
    match vs with
    |[]=>
     subst h;cases hi;cases ho;refine⟨rfl,.inl (.inr ⟨rfl,Q1m.call hΓ rfl rfl rfl rfl ⟨hdi,trivial⟩ hou (hcl _) fun r ou' hq hr ho=>?_⟩)⟩;have e:ou'=ouX (mC nilPE ec vc (.box [.box (cTr t),ec2,.sl 1 dc,kc2]) mo ms fu ⟨ac,kt⟩) mo.length ou':=Qec (by
      rcases hq with ⟨_,_,rfl⟩|⟨q,_,_,h1,h2⟩
      ·rfl
      ·rw[h2 0 (by rintro rfl;cases h1)];rfl)
     exact⟨ou',by rw[←e];exact hq,by rw[←e]⟩
    |[a]=>
     obtain⟨ou2,hq,rfl⟩:=h;cases hi;cases ho;rcases hq with ⟨rfl,rfl,h1⟩|⟨q,rfl,h1,h2,h3⟩
     ·refine⟨rfl,.inl (.inl ⟨_,_,Qui (σ2:=⟨1,[],ouX (mC nilPE ec vc (.box [.box (cTr t),ec2,.sl 1 _,kc2]) mo ms fu ⟨ac,kt⟩) mo.length ou1⟩) (Quj (Qz1 tabOk rfl rfl rfl rfl rfl rfl (Base.nil _ _) (.sl 1 [[vc]]) rfl (by show (0+1) * 16<=140737488355328;decide) zsy) (.one (.gsE zsy))) rfl ?_,rfl,rfl⟩)⟩;intro i o hi;cases i with
      |l j=>cases hi
      |o j=>exact (congrFun h1 j).trans hi
     ·refine⟨rfl,.inl (.inl ⟨_,_,Qui (σ2:=⟨1,[],ouX (mC nilPE ec vc (.box [.box (cTr t),ec2,.sl 1 _,kc2]) mo ms fu ⟨ac,kt⟩) mo.length ou1⟩) (Quj (Qz1 tabOk rfl rfl rfl rfl rfl rfl (Qrm _ _ _ _ _ h1 rfl) (.sl 1 [[vc]]) rfl (by simp;show _ * 16<=_;omega) zuy) (.one (.gsE zsy))) rfl ?_,rfl,rfl⟩)⟩;intro i o hi;cases i with
      |l j=>cases hi
      |o j=>
       have hjq:j≠q:=by rintro rfl;have h5:=hi;simp only[St.get]at h5;rw[h2]at h5;cases h5
       have h4:=h3 j hjq;show (bif Nat.beq j q then some AObj.dead else _)=some o;rw[Q06 hjq];exact h4.trans hi
    |[_,_]=>obtain⟨rfl,rfl⟩:=h;cases hi;cases ho;exact⟨rfl,.inl (.inl ⟨_,_,Qqs tabOk rfl,rfl,rfl,rfl⟩)⟩
    |[_,_,_]=>obtain⟨rfl,rfl,rfl⟩:=h;cases hi;cases ho;exact⟨rfl,.inl (.inl ⟨_,_,Qsz rfl rfl,rfl,rfl,rfl,rfl⟩)⟩
    |_::_::_::_::_=>cases hi
   ·intro vs σ hl h
    match vs with
    |[a,_,_,_]=>
     obtain⟨rfl,rfl,rfl,rfl⟩:=h;refine Qrb hΓ rfl rfl rfl rfl rfl rfl rfl ⟨trivial,⟨by simp,hei,hDi,hk2i,trivial⟩,trivial⟩ hou hkd fun r ou2 hq _ how=>?_;obtain⟨rfl,H',nm',m2,hx2,hmo,hM2⟩:=hq;cases hx2;refine zA ?_;exact cInv ⟨g,(ou2,H',nm',m'),_root_.id,by omega,⟨⟨hM2.ex⟩,Qy5,hgo,by dsimp only;omega,Qxd⟩,Qzw rfl zFW zsy zLO rfl rfl how⟩
    |[]|[_]|[_,_]|[_,_,_]=>cases hl
    |_::_::_::_::_::_=>exact h.elim
end
structure FragL (hi:Bool)(l:Lab):Prop where
 sh:shpQ l
 op:(0<=l.op/\l.op<=8∨l.op=17)∨hi=true/\(l.op=12∨l.op=13)
 pr:l.op=8->l.n=0∨l.n=1∨l.n=2∨l.n=5∨l.n=6∨l.n=7
 bl:l.binds.length<=1048576
 al:l.alts.length<=1048576
 ab:∀a∈l.alts,a.binds.length<=1048576
 kl:l.ops.length<=1048576
 wd:l.op=1->inW l.n
 rc:l.op=5->∀i,i < l.binds.length->l.ops[i]?=some 2
def G1 (hi:Bool):GP:={ p:=FragL hi,S:=fun _=>True,W:=inW,fns:=[],R:=hi=true }
theorem Qoc{a b:Int}(ha:inW a)(hb:inW b):inW (a.tmod b):=by
 have h1:(a.tmod b).natAbs<=a.natAbs:=by rw[Int.natAbs_tmod];exact Nat.mod_le _ _
 unfold inW at *;have h2:-1073741824<=a.tmod b:=by
  rcases Int.le_total 0 a with h|h
  ·have:=Int.tmod_nonneg b h;omega
  ·omega
 have h3:a.tmod b<=1073741823:=by
  rcases Int.le_total 0 a with h|h
  ·omega
  ·have h4:a.tmod b=-((-a).tmod b):=by rw[Int.neg_tmod];omega
   have:=Int.tmod_nonneg b (show 0<=-a by omega);omega
 exact⟨h2,h3⟩
theorem G1ok(hi:Bool):GPok (G1 hi) where
 sh:=fun l h=>h.sh
 bnd:=fun _ _ _ _=>trivial
 wd:=fun l h h1=>h.wd h1
 rc:=fun l h h1=>h.rc h1
 wr:=fun n=>by show inW (wrapW n);unfold inW wrapW;omega
 wl:=fun n h0 h1=>by show inW n;unfold inW;omega
 wm:=fun a b ha hb=>Qoc ha hb
 fn:=fun f hf=>by cases hf
 cl:=fun l h ho=>by exfalso;rcases h.op with h1|⟨_,h1⟩ <;> omega
 rs:=fun l h ho=>by
  rcases h.op with h1|⟨h1,_⟩
  ·omega
  ·exact h1
theorem G1opn{t:Tr}(h:allT (G1 hi).p t):opdN t<=1048576:=by have F:FragL hi ⟨t.op,t.n,t.binds,t.kids.map Tr.op,t.alts⟩:=Q1u h;have:=F.kl;simp at this;unfold opdN;split <;> omega
section
variable {fu:Int}{ac:AC}
structure MoreC (hi:Bool)(fu:Int)(ac:AC)(Γ:List (Nat×List AC)):Prop where
 res:hi=true->∀(ou:Outer) (H:Hm) (nm:Nm2) (m:Ms) (k fs:List Fm) (kc tc0 ec0 vc0:AC) (kt:Nat) (vc:AC) (a:Vl) (c:AC),M0 fu ⟨ac,kt⟩ ou H nm m tc0 ec0 vc0 kc->KR H nm k kc->VR H nm (.res fs) vc->VR H nm a c->gFs (G1 hi) fs->(fs++k).length<=1048576->
  AFn Tryz.prog Γ 139 [.one (.ptr (.o 0) 0),.one vc,.one (.sl 1 [[c]])] ou (StQ fu ⟨ac,kt⟩ H nm (.ok { m with c:=.rt a,k:=fs++k }))
 kid:hi=true->∀(ou:Outer) (H:Hm) (nm:Nm2) (m m':Ms) (t:Tr) (e:En) (d:List Vl) (k:List Fm) (ec kc tc0 ec0 vc0 kc0:AC) (dc:List (List AC)) (kt:Nat),M0 fu ⟨ac,kt⟩ ou H nm m tc0 ec0 vc0 kc0->ER H nm e ec->VsR H nm d dc->KR H nm k kc->
  allT (FragL hi) t->gFs (G1 hi) k->k.length<=1048576->d.length=1->t.op=12∨t.op=13->kidM fu [] m (.mk t e d) k=.ok m'->AFn Tryz.prog Γ 111 [.one (.ptr (.o 0) 0),.one (.box [.box (cTr t),ec,.sl 1 dc,kc])] ou (StQ fu ⟨ac,kt⟩ H nm (.ok m'))
theorem MoreC.no{fu:Int}{ac:AC}:MoreC false fu ac Γ:=⟨(fun h=>by cases h),(fun h=>by cases h)⟩
theorem list1{l:List α}(h:l.length=1):∃a,l=[a]:=by
 match l,h with
 |[a],_=>exact⟨a,rfl⟩
theorem list2{l:List α}(h:l.length=2):∃a b,l=[a,b]:=by
 match l,h with
 |[a,b],_=>exact⟨a,b,rfl⟩
theorem Qfn{v:Vl}{n:Int}(h:wordV v=.ok n):v=.word n:=by
 cases v with
 |word m=>cases h;rfl
 |_=>cases h
theorem Qj9{m m':Ms}{n:Int}{a b v:Vl}(hn:n=0∨n=1∨n=2∨n=5∨n=6)(h:primM fu m n [a,b]=.ok (m',v)):∃x y,a=.word x/\b=.word y:=by
 cases hx:wordV a with
 |error c=>
  exfalso;rcases hn with rfl|rfl|rfl|rfl|rfl <;> simp[primM,hx,bind,Except.bind]at h
 |ok x=>
  cases hy:wordV b with
  |error c=>
   exfalso;rcases hn with rfl|rfl|rfl|rfl|rfl <;> simp[primM,hx,hy,bind,Except.bind]at h
  |ok y=>exact⟨x,y,Qfn hx,Qfn hy⟩
theorem kidC(hΓ:GI Γ)(hac:ac.ids isO)(hmore:MoreC hi fu ac Γ):KidC fu ac (G1 hi) Γ:=by
 intro ou H nm m m' t e d k ec kc tc0 ec0 vc0 kc0 dc kt h0 he hd hk ht hge hgd hle hn hgk hkb hol hx hnx;have F:FragL hi ⟨t.op,t.n,t.binds,t.kids.map Tr.op,t.alts⟩:=Q1u ht;have hsh:=g_sh (G1ok hi) ht;have hopk:=g_opN (G1ok hi) ht;have hfc:(FcT.mk ac kt).ids isO:=hac;have hx0:kidM fu [] m (.mk t e d) k=.ok m':=hx;by_cases hlt:d.length < opdN t
 ·obtain⟨s,hs⟩:=Q00 (Z32 hlt hopk);have:=Qud (Qpk (fns:=[]) hΓ h0 hfc he hd hk hlt hs) hx0;rwa [hx0]at this
 have hl:d.length=opdN t:=by omega
 have hnl:¬(Fm.mk t e d).done.length < opdN (Fm.mk t e d).t:=hlt;obtain⟨o,n,b,ks,al⟩:=t;simp only[Tr.op,Tr.n,Tr.binds,Tr.kids,Tr.alts]at F hsh;have hops:o=3∨o=4∨o=6∨o=7∨o=8∨(hi=true/\(o=12∨o=13)):=by
  have h1:=F.op;unfold nLf at hn;simp only[Tr.op]at hn;simp only at h1;rcases h1 with h1|h1
  ·have:o=3∨o=4∨o=6∨o=7∨o=8:=by omega
   rcases this with h|h|h|h|h <;> simp[h]
  ·exact .inr (.inr (.inr (.inr (.inr h1))))
 rcases hops with rfl|rfl|rfl|rfl|rfl|⟨hhi,h12⟩
 · -- a call
  have Qxc:opdN (.mk 3 n b ks al)=ks.length:=rfl;have hkl:=hsh.app.1;rw[Qxc]at hl
  match d,hd,hl with
  |[],_,hl=>simp at hl;omega
  |v0::ds,hd,hl=>
   obtain⟨c0,dcs,rfl,hv0,hds⟩:=hd.consE;have hcm:callM [] { m with k:=k } v0 ds=.ok m':=by unfold kidM at hx0;rw[if_neg hnl]at hx0;exact hx0
   refine kid_app hΓ h0 hfc he hv0 hds hk (by simpa using hl) rfl (fun ou' h0'=>?_);have hno:(∀t e,v0≠.clo t e)->(∀fs,v0≠.res fs)->False:=fun h1 h2=>by
    cases v0 with
    |clo t e=>exact h1 _ _ rfl
    |res fs=>exact h2 _ rfl
    |cap n s=>exact absurd hgd.1.1.2 (by show ¬(n < 0);have:=hgd.1.1.1;omega)
    |_=>cases hcm
   cases v0 with
   |clo t' e'=>
    obtain⟨g1,g2,g3⟩:=hgd.1;have F':FragL hi ⟨t'.op,t'.n,t'.binds,t'.kids.map Tr.op,t'.alts⟩:=Q1u g2;have hsh':=g_sh (G1ok hi) g2;rw[g1]at hsh';obtain⟨s,hs⟩:=Q00 (l:=t'.kids) (i:=0) (by have:=hsh'.lam.1;omega);cases hv0 with
    |clo _ _ c he'=>
     have hco:Qcd fu ⟨ac,kt⟩ [] ou' H nm m k (.clo t' e') (iB tClo [.box (cTr t'),c]) ds dcs Γ:=Qq2 hΓ h0' hfc hk he' hds hs F'.bl;have:=Qud hco hcm;rwa [hcm]at this
    |cloP _ _ c q hq he'=>
     have hco:Qcd fu ⟨ac,kt⟩ [] ou' H nm m k (.clo t' e') (.ifc tClo false [.ptr (.o q) 0]) ds dcs Γ:=Qnm hΓ h0' hfc hk hq he' hds hs F'.bl;have:=Qud hco hcm;rwa [hcm]at this
   |res fs=>
    have hR:hi=true:=hgd.1.1
    match ds,hds,hcm with
    |[a],hds,hcm=>
     obtain⟨c,ds2,rfl,hva,hnil⟩:=hds.consE;have hz:=hnil.nilE;subst hz;cases hcm;exact hmore.res hR ou' H nm m k fs kc tc0 ec0 vc0 kt _ a c h0' hk hv0 hva hgd.1.2 (hnx hR)
    |[],_,hcm=>cases hcm
    |_::_::_,_,hcm=>cases hcm
   |_=>exact (hno zsy zsy).elim
 · -- a let
  obtain⟨v,rfl⟩:=list1 (l:=d) hl;obtain⟨hk2,hb1,_⟩:=hsh.lett;obtain⟨id,rfl⟩:=list1 hb1;obtain⟨s0,s1,rfl⟩:=list2 hk2;have:=Qud (kid_let (fns:=[]) (t:=.mk 4 n [id] [s0,s1] al) (s:=s1) (id:=id) hΓ h0 hfc he hd hk (v:=v) rfl rfl rfl rfl) hx0;rwa [hx0]at this
 · -- a constructor
  have hp:({ m with k:=k,c:=.rt (.obj n d) }:Ms)=m':=by unfold kidM at hx0;rw[if_neg hnl]at hx0;cases hx0;rfl
  subst hp;exact Qep hΓ h0 hfc he hd hk hl (by simp[Tr.op]) fun ou' h0'=>Qlg hΓ h0' hd rfl
 · -- a choice
  obtain⟨v,rfl⟩:=list1 (l:=d) hl;have hcm:Q3g { m with k:=k } (.mk 7 n b ks al) e v=.ok m':=by unfold kidM at hx0;rw[if_neg hnl]at hx0;exact hx0
  refine Qpl hΓ h0 hfc he hd hk rfl rfl (fun ou' h0'=>?_);have:=Qud (Qnj (t:=.mk 7 n b ks al) hΓ h0' hfc he hd hk (v:=v) rfl hsh.case.1 F.al F.ab kc hk.ids) hcm;rwa [hcm]at this
 · -- a primitive
  have hpn:=hsh.prim;have Qxc:opdN (.mk 8 n b ks al)=ks.length:=rfl;rw[Qxc]at hl;have hpm:(Q57 fu { m with k:=k } (.mk 8 n b ks al) d).map (fun (m',v)=>{ m' with c:=.rt v })=.ok m':=by unfold kidM at hx0;rw[if_neg hnl]at hx0;exact hx0
  have hpm2:Q57 fu { m with k:=k } (.mk 8 n b ks al) d=primM fu { m with k:=k } n d:=rfl;rw[hpm2]at hpm;cases hpr:primM fu { m with k:=k } n d with
  |error c=>rw[hpr]at hpm;cases hpm
  |ok mv=>
   obtain⟨m1,v⟩:=mv;rw[hpr]at hpm;cases hpm;have hpk:=(Q5i (fu:=fu) (m:={ m with k:=k }) (t:=.mk 8 n b ks al) (l:=d) (m':=m1) (v:=v) hpr).2.2;have hfin:({ m1 with c:=.rt v }:Ms)={ m1 with c:=.rt v,k:=k }:=by cases m1;simp only at hpk;rw[hpk]
   show AFn Tryz.prog Γ 111 _ ou (StQ fu ⟨ac,kt⟩ H nm (.ok { m1 with c:=.rt v }));rw[hfin];refine Qep hΓ h0 hfc he hd hk hl (by simp[Tr.op]) fun ou' h0'=>Qjb hΓ hd rfl ?_;rcases F.pr rfl with hn2|hn2|hn2|hn2|hn2|h7;iterate 5
    ·have hn5:n=0∨n=1∨n=2∨n=5∨n=6:=by simp only at hn2;omega
     have hk2:ks.length=2:=by have:=hpn.2.2.1;simp only at hn2;subst hn2;simp[Q5u]at this;omega
     obtain⟨x0,y0,rfl⟩:=list2 (l:=d) zoy;obtain⟨x,y,rfl,rfl⟩:=Qj9 hn5 hpr;obtain⟨c0,d1,rfl,hv0,hd1⟩:=hd.consE;obtain⟨c1,d2,rfl,hv1,hd2⟩:=hd1.consE;have hz:=hd2.nilE;subst hz;have e0:=hv0.wordE;have e1:=hv1.wordE;subst e0;subst e1;obtain⟨hm1,c,hvc,hpa⟩:=Qot (Γ:=Γ) (H:=H) (nm:=nm) hΓ hn5 hgd.1 hgd.2.1 hpr ou';subst hm1;refine AFn.mono hpa fun r ou2 hq=>?_;obtain⟨rfl,rfl⟩:=hq;exact⟨kt,H,nm,c,rfl,.refl _ _,hvc,⟨h0'.ids,h0'.m0,h0'.w⟩⟩
   ·simp only at h7;subst h7;have hk1:ks.length=1:=by have:=hpn.2.2.1;simp[Q5u]at this;omega
    obtain⟨x0,rfl⟩:=list1 (l:=d) zoy;cases hx1:wordV x0 with
    |error c=>simp[primM,hx1,bind,Except.bind]at hpr
    |ok a=>
     have e0:=Qfn hx1;subst e0;simp only[primM,wordV,Z0n,bind,Except.bind,pure,Except.pure,if_true,if_neg (show ¬(7:Int)=0 by decide),if_neg (show ¬(7:Int)=1 by decide),if_neg (show ¬(7:Int)=2 by decide),if_neg (show ¬(7:Int)=3 by decide),if_neg (show ¬(7:Int)=4 by decide),if_neg (show ¬(7:Int)=5 by decide),if_neg (show ¬(7:Int)=6 by decide)]at hpr;split at hpr
     ·cases hpr
     rename_i hne;cases hpr;obtain⟨c0,d1,rfl,hv0,hd1⟩:=hd.consE;have hz:=hd1.nilE;subst hz;have e0:=hv0.wordE;subst e0;refine AFn.mono (Qja hΓ h0' hfc a hol hne) fun r ou2 hq=>?_;obtain⟨kt2,H1,nm1,c,q1,q2,q3,q4⟩:=hq;exact⟨kt2,H1,nm1,c,q1,q2,q3,⟨q4.ids,q4.m0,q4.w⟩⟩
 · -- an operation, a handler
  have hl1:d.length=1:=by rw[hl];exact if_pos (show o=4∨o=7∨o=13∨o=12 by omega)
  exact hmore.kid hhi ou H nm m m' _ e d k ec kc tc0 ec0 vc0 kc0 dc kt h0 he hd hk ht hgk (hkb hhi) hl1 h12 hx0
theorem startC(hΓ:GI Γ)(hac:ac.ids isO)(hk:KidC fu ac (G1 hi) Γ):StartC fu ac (G1 hi) Γ:=by
 intro ou H nm m m' t e ec vc kc kt h0 he hkr ht hge hgk hkb hol hx hnx;have F:FragL hi ⟨t.op,t.n,t.binds,t.kids.map Tr.op,t.alts⟩:=Q1u ht;have hsh:=g_sh (G1ok hi) ht;have hfc:(FcT.mk ac kt).ids isO:=hac;have hx0:Q2z fu [] m t e=.ok m':=hx;by_cases e0:t.op=0
 ·have:=Qkt hΓ h0 hfc he hkr e0;unfold Q2z at hx0;rw[if_pos e0]at hx0;cases hx0;exact this
 by_cases e1:t.op=1
 ·have:=Qkx hΓ h0 hfc hkr e1;unfold Q2z at hx0;rw[if_neg e0,if_pos e1]at hx0;cases hx0;exact this
 by_cases e2:t.op=2
 ·have:=Qkw hΓ h0 hfc he hkr e2;unfold Q2z at hx0;rw[if_neg e0,if_neg e1,if_pos e2]at hx0;cases hx0;exact this
 by_cases e17:t.op=17
 ·unfold Q2z at hx0;rw[if_neg e0,if_neg e1,if_neg e2,if_pos e17]at hx0;cases hx0
 by_cases e5:t.op=5
 ·rw[e5]at hsh;have:=Qku hΓ h0 hfc he hkr e5 hsh.recs.1 F.bl;unfold Q2z at hx0;rw[if_neg e0,if_neg e1,if_neg e2,if_neg e17,if_pos e5]at hx0;cases hx0;exact this
 ·have hx1:kidM fu [] m (.mk t e []) m.k=.ok m':=by unfold Q2z at hx0;rw[if_neg e0,if_neg e1,if_neg e2,if_neg e17,if_neg e5]at hx0;exact hx0
  have hnl:nLf t.op:=fun h=>by rcases h with h|h|h|h|h <;> contradiction
  exact Qky hΓ h0 he hkr hnl (hk ou H nm m m' t e [] m.k ec kc _ _ _ _ [] kt h0 he .nil hkr ht hge trivial (Z3b _) hnl hgk hkb hol hx1 hnx)
end
theorem idle_ok(a b c d:Value)(w:World):CallsD Tryz.prog 79 #[a,b,c,d] .returning w fun e u' w'=>(∃v,e=.returned v)/\u'=.returning/\w'=w:=by refine callsD_of_wpS Tryz.func79 rfl fun c₀ cs hu=>?_;apply wpS_seq;apply wpS_region;simp[wpOpsS,go_sem,recoverD,hu,Tryz.ntmps79,Exit.thenS];apply wpS_seq;apply wpS_region;simp[wpOpsS,go_sem,recoverD,hu,Exit.thenS];refine wpS_cond (t:=false) (by simp[Act.eval,Array.replicate]) ?_;simp only[Qze,if_false];refine wpS_of_wp (wp_skip ?_);cases c₀;simp_all[bodyPostS,results,Tryz.results79]
section
variable {fu:Int}{ac:AC}{G:GP}
theorem Qoa(hΓ:GI Γ){mf:Ms}{vf:Vl}
  (hrun:AFn Tryz.prog Γ 80 [.one (.ptr (.o 0) 0)] ou (fun r ou'=>r=.one (.lit (.bool true))/\mf.c=.rt vf/\mf.k=[]/\∃H' nm',MR fu ⟨ac,kt0⟩ ou' H' nm' mf)):
  AFn Tryz.prog Γ 39 [.one (.ptr (.o 0) 0)] ou (fun r ou'=>r=.tup [.agg [.sl 1 (mf.out.map cI),int 0,int (lastV vf)],.one (int mf.steps),.one (int 0)]):=by
 refine Qtn (gd:=79) (d5:=5) (first:=[]) (caps:=[.ptr (.l 0) 0,.ptr (.l 1) 0,.ptr (.l 2) 0,.ptr (.l 3) 0]) (fr1:=[(4,.one (.ptr (.l 3) 0)),(3,.one (.ptr (.l 2) 0)),(2,.one (.ptr (.l 1) 0)),(1,.one (.ptr (.l 0) 0)),(0,.one (.ptr (.o 0) 0))])
  (σ1:=⟨4,[(3,.cells [int 0]),(2,.cells [int 0]),(1,.cells [.lit (.slice none 0 0),int 0,int 0]),(0,.cells [.ptr (.o 0) 0])],ou⟩)
  tabOk Tryz.func39 rfl zky zdy ?_ rfl rfl zdy (Qqs tabOk rfl) rfl rfl rfl ?_ ?_
 ·intro hou;refine zA ?_;exact⟨rfl,rfl,rfl⟩
 ·intro us w;refine⟨?_,fun hs=>?_⟩
  ·simp[callFunc,Tryz.func79,Tryz.f79]
  ·obtain⟨l⟩:=us
   match l,hs with
   |[a,b,c,d],_=>exact idle_ok a b c d w
 ·intro hou ds;refine zA ?_;refine Qrb hΓ rfl rfl rfl rfl rfl rfl rfl ⟨trivial,trivial⟩ hou hrun fun r ou' hq _ how=>?_;obtain⟨rfl,hc,hk,H',nm',hM⟩:=hq;obtain⟨kt,tc,ec,vc,kc,hCR,hKR,h0⟩:=hM.ex;rw[hc]at hCR;cases hCR with
  |rt _ ec vc hv=>
   have hvi:=hv.ids;have hoX:=h0.ouX;rw[hoX]at how ⊢;refine zA ?_;refine ACode.drawSt tabOk 15 14 [(8,.one (int (lastV vf)))] _ follows zky rfl rfl zky rfl ?_ rfl rfl rfl rfl ?_ ?_ (Qqt tabOk rfl) ?_
   ·rfl
   ·exact⟨⟨_,rfl,Qqy hΓ rfl rfl rfl ⟨hvi,trivial⟩ how (Qm4 hv)⟩,trivial⟩
   ·exact⟨⟨_,rfl,Qqy hΓ rfl rfl rfl ⟨hvi,trivial⟩ how (Qm4 hv)⟩,trivial⟩
   refine zA ?_;exact Qst rfl (WkF.tup (.cons (.agg (.cons (.gsE rfl) (.cons (.refl _) (.cons (.refl _) .nil)))) (.cons (.refl _) (.cons (.refl _) .nil)))) zsy how rfl
end
abbrev nilS:AC:=.lit (.slice none 0 0)
structure RunsTo (hi:Bool)(fu:Int)(e:List Ex)(mf:Ms)(vf:Vl):Prop where
 chk:check e=0
 frag:allT (FragL hi) (grow e)
 fu0:1<=fu/\fu<=1000000
 go:∃g,goX fu [] g ⟨.ev (grow e) .nil,[],[],0,[]⟩=some (.done mf vf)/\(hi=true->bndX fu [] g ⟨.ev (grow e) .nil,[],[],0,[]⟩=true)
 out:mf.out.length<=1000
 st:mf.steps<=fu
theorem MR_init(t:Tr)(fu:Int):MR fu ⟨nilS,1⟩ (ouOf [.cells (mC (.box (cTr t)) nilPE (.lit .nilIface) nilPE [] 0 fu ⟨nilS,1⟩),.tok 3 1 0]) (fun _=>none) [] ⟨.ev t .nil,[],[],0,[]⟩:=by
 refine⟨⟨1,_,_,_,_,.ev t .nil nilPE (.lit .nilIface) .nil,.nil,⟨⟨by simp,trivial,trivial,trivial⟩,rfl,⟨fun k cs hk=>(by cases hk),fun k o hk=>?_,rfl,fun a k n h=>(by simp at h),fun a k n h=>rfl,fun a b k n n' h=>(by simp at h),⟨rfl,fun a k n h=>(by simp at h)⟩,fun cs hc es i hi=>?_,fun k o hk=>?_⟩⟩⟩⟩
 ·match k,hk with
  |0,hk=>cases hk;exact⟨by simp,trivial,trivial,trivial,⟨trivial,trivial⟩,trivial,trivial,trivial,trivial⟩
  |1,hk=>cases hk;trivial
  |k+2,hk=>simp[ouOf]at hk
 ·cases hc;cases hi;exact⟨1,rfl,Z30 _,rfl,rfl,fun a k n h=>by simp at h⟩
 ·match k,hk with
  |0,hk=>cases hk;trivial
  |1,hk=>cases hk;trivial
  |k+2,hk=>simp[ouOf]at hk
theorem Run_ok{e:List Ex}{mf:Ms}{vf:Vl}(hm:MoreC hi fu nilS Γc)(he:okB e)(h:RunsTo hi fu e mf vf):
  APure Tryz.prog Γc 15 [.one (.sl 5 (e.map cEx)),.one (int fu)] (.tup [.agg [.sl 1 (mf.out.map cI),int 0,int (lastV vf)],.one (int mf.steps),.one (int 0)]):=by
 have t1:=Q1t h.chk;have c1:=Q9m e he;rw[h.chk]at c1;obtain⟨g,hg,hgb⟩:=h.go;have hM0:=MR_init (grow e) fu;have hkc:=kidC hΓc (fu:=fu) (ac:=nilS) trivial hm;have hsc:=startC hΓc (fu:=fu) (ac:=nilS) trivial hkc;have hgm:gM (G1 hi) ⟨.ev (grow e) .nil,[],[],0,[]⟩:=⟨⟨h.frag,trivial⟩,trivial,fun r hr=>by cases hr⟩;have hrun:=run_ok hΓc (ac:=nilS) trivial (G1ok hi) (fun t ht=>G1opn ht) hkc hsc hM0 hgm hg hgb h.out ⟨by have:=h.fu0;omega,h.fu0.2⟩ zsy h.st;have hwh0:=Qoa (ac:=nilS) (kt0:=1) hΓc hrun;have hwh:AFn Tryz.prog Γc 39 [.one (.ptr (.o 0) 0)] (ouOf [.cells (mC (.box (cTr (grow e))) nilPE (.lit .nilIface) nilPE [] 0 fu ⟨nilS,1⟩),.tok 3 1 0]) (fun r ou'=>r=.tup [.agg [.sl 1 (mf.out.map cI),int 0,int (lastV vf)],.one (int mf.steps),.one (int 0)]/\ou'=ouOf [.dead,.dead]):=by
  refine Qtp (AFn.mono hwh0 fun r ou' hq=>⟨ouOf [.dead,.dead],fun m o hmo=>?_,hq,rfl⟩)
  match m,hmo with
  |0,hmo=>cases hmo;exact .inr ⟨rfl,_,rfl⟩
  |1,hmo=>cases hmo;exact .inr ⟨rfl,_,rfl⟩
  |m+2,hmo=>simp[ouOf]at hmo
 intro ou;refine zwk 30 Tryz.func15 fun hou=>?_;refine zA ?_;refine zca hΓc c1 hou ?_;refine zA ?_;have hf1:decide (fu < 1)=false:=by have:=h.fu0;simp;omega
 have hf2:decide (fu > 1000000)=false:=by have:=h.fu0;simp;omega
 refine Qyz 16 rfl (y:=.one (.lit (.bool false))) (.ofEq (by show FV.one (.lit (.bool (decide (fu < 1))))=_;rw[hf1])) ?_;refine zM ?_;refine Qyl rfl (fun hb=>absurd (show 1000000 < fu by simpa using hb) (by have:=h.fu0;omega)) (fun _=>?_);refine zM ?_;refine zca hΓc (Qo3 hΓc e he.eo t1.k t1.ne) hou ?_;repeat ((fail_if_success ((with_reducible refine oj ?_);refine Qtz 26 rfl ?_));first|refine zO ?_)
 refine Qto 1 4 3 1 rfl rfl ?_;refine Qrt [.l 1,.l 2] [.one (.ptr (.o 0) 0)] [.cells (mC (.box (cTr (grow e))) nilPE (.lit .nilIface) nilPE [] 0 fu ⟨nilS,1⟩),.tok 3 1 0] hΓcF rfl rfl rfl rfl rfl rfl ?_ ?_ ?_ ?_ ?_ hwh ?_
 ·rfl
 ·simp[inO]
 ·simp
 ·refine⟨?_,rfl,trivial⟩;simp only[AObj.sub,mC,subL,AC.sub,nameOf,Z1j,subS];rw[Q2r _ _ zsy];rfl
 ·simp[inO,mC]
 intro r ou' hq;obtain⟨rfl,rfl⟩:=hq;refine⟨[.dead,.dead],rfl,rfl,by simp,by simp,?_⟩;rw[show FV.sub (nameOf [.l 1,.l 2]) (.tup [.agg [.sl 1 (mf.out.map cI),int 0,int (lastV vf)],.one (int mf.steps),.one (int 0)])=.tup [.agg [.sl 1 (mf.out.map cI),int 0,int (lastV vf)],.one (int mf.steps),.one (int 0)]from FV.sub_pure _ _ zsy];refine zA ?_;exact Qz0 rfl (Z46 rfl) zsy hou rfl
def fragB (hi:Bool)(l:Lab):Bool:=
 Go.CoreX.shape ⟨l.op,l.n,l.binds,l.ops,l.alts⟩&&((decide (0<=l.op)&&decide (l.op<=8)||decide (l.op=17))||(hi&&(decide (l.op=12)||decide (l.op=13))))&&(!(decide (l.op=8))||(decide (l.n=0)||decide (l.n=1)||decide (l.n=2)||decide (l.n=5)||decide (l.n=6)||decide (l.n=7))) &&
 decide (l.binds.length<=1048576)&&decide (l.alts.length<=1048576)&&(l.alts.all fun a=>decide (a.binds.length<=1048576))&&decide (l.ops.length<=1048576)&&(!(decide (l.op=1))||(decide (-1073741824<=l.n)&&decide (l.n<=1073741823)))&&(!(decide (l.op=5))||(l.ops.take l.binds.length==List.replicate l.binds.length 2))
theorem Qil{l:Lab}(h:fragB hi l=true):FragL hi l:=by
 unfold fragB at h;simp only[Qzc,Qzk,Qzh,decide_eq_true_eq,decide_eq_false_iff_not,Qzy,beq_iff_eq]at h;obtain⟨⟨⟨⟨⟨⟨⟨⟨h1,h2⟩,h3⟩,h4⟩,h5⟩,h6⟩,h7⟩,h8⟩,h9⟩:=h;refine⟨shpQ_of h1,?_,fun h=>?_,h4,h5,h6,h7,fun h=>?_,fun h i hi=>?_⟩
 ·rcases h2 with h2|⟨h2,h3⟩
  ·exact .inl h2
  ·exact .inr ⟨h2,h3⟩
 ·rcases h3 with h3|h3
  ·exact absurd h h3
  ·omega
 ·rcases h8 with h8|h8
  ·exact absurd h h8
  ·exact h8
 ·rcases h9 with h9|h9
  ·exact absurd h h9
  ·have:=congrArg (fun r=>r[i]?) h9;simp only[Z0z hi,Z0x,if_pos hi]at this;exact this
theorem Qn1{n:Int}(h:inW n):allT (FragL hi) (tW n):=by refine⟨Qil ?_,trivial⟩;unfold inW at h;simp[fragB,Go.CoreX.shape,wants,h.1,h.2]
theorem A_ok(op:Int)(al:List Alt)(ks:List Tr):APure Tryz.prog Γ 12 [.one (int op),.one (.sl 2 (al.map cAlt)),.one (.sl 1 (Q3l ks))] (.one (.box (cNd (.mk op 0 [] ks al)))):=by
 intro ou;refine zwk 13 Tryz.func12 fun hou=>?_;iterate 14 (refine zO ?_)
 refine Qyx (.l 0) 6 rfl rfl ?_;refine zA ?_;refine Qz0 rfl (.one (Z45 ?_)) zsy hou rfl;exact .cons (.refl _) (.cons (.refl _) (.cons (.nilS 1) (.cons (.any _) (.cons (.refl _) (.cons (.refl _) .nil)))))
theorem Qc8{H:Type}:∀l:List (DataW H),Rows.uptoBulkAll l=Q52 Rows.uptoBulk l
 |[]=>rfl
 |d::l=>by simp only[Rows.uptoBulkAll,Q52,Z1g,Z2f]at *;rw[Qc8 l];rfl
theorem Qkc(l r:List (DataW H)):Q52 Rows.uptoBulk l+1<=Rows.uptoBulk (.slice l r):=by simp only[Rows.uptoBulk,Qc8];omega
theorem Qq5:1<=Rows.uptoBulk (DataW.nil:DataW H):=by simp[Rows.uptoBulk]
section
variable {H:Type}{enc:TypeId×Value->H}{w:World}
abbrev I64:={i:Int // IntKind.i64.min<=i/\i<=IntKind.i64.max}
theorem Qed(n:Nat):Opens enc Tryz.prog w Rows.uptoBulk 3 n (fun i:I64=>[int i.1]) (fun _=>1):=by intro cs x h;obtain⟨i,rfl,rfl,hw⟩:=DataW.trod_int Z42 h;refine⟨⟨i,?_⟩,⟨_,_,rfl,⟨rfl,rfl⟩,rfl⟩,by simp[Rows.uptoBulk]⟩;simpa[Lit.wf]using hw
theorem Qfz{t e:TypeId}{s:Nat}(ht:Tryz.prog.underlying t=some (.slice e))(hs:Tryz.prog.cellsOf e=s)(h0:0 < s){c:α->List AC}{wt:α->Nat}(n:Nat)(he:∀m,m < n->Opens enc Tryz.prog w Rows.uptoBulk e m c wt):
  Opens enc Tryz.prog w Rows.uptoBulk t n (fun l:List α=>[.sl s (l.map c)]) (fun l=>wtAll wt l+1):=by
 cases n with
 |zero=>exact Opens.zero
 |succ n=>exact Opens.slice Qkc Qq5 ht hs h0 (he n zoy)
theorem Qor{t e:TypeId}{base:Nat}{r:Reach}{W:World}(ht:Tryz.prog.underlying t=some (.slice e))(h:Value.okWide Tryz.prog W r base t v)(hr:RV W C [c] v.cells.toList):RF W C (.one c) v:=by obtain⟨a,len,cap,rfl⟩:=WideShapes.okWide_slice ht h;obtain⟨u,us,he,h1,h2⟩:=hr;simp[Value.cells]at he;obtain⟨rfl,rfl⟩:=he;exact h1
end
structure UpdL (ou:Outer)(L:List (Nat×AObj))(ou':Outer)(L':List (Nat×AObj)):Prop where
 own:Owns ou' L'
 nd:(keys L').Nodup
 new:∀k∈keys L',k∈keys L∨ou k=none
 old:∀k,k∉keys L->ou k≠none->ou' k=ou k
 ok:OuOk ou'
theorem UpdL.trans{L L1 L2:List (Nat×AObj)}(h:UpdL ou L ou1 L1)(k:UpdL ou1 L1 ou2 L2):UpdL ou L ou2 L2 where
 own:=k.own
 nd:=k.nd
 new:=fun j hj=>by
  rcases k.new j hj with h1|h1
  ·exact h.new j h1
  ·by_cases h2:j∈keys L
   ·exact .inl h2
   ·refine .inr (Decidable.byContradiction fun h3=>?_);rw[h.old j h2 h3]at h1;exact h3 h1
 old:=fun j hj hn=>by have h1:=h.old j hj hn;have h2:j∉keys L1:=fun h3=>(h.new j h3).elim hj hn;rw[k.old j h2 (by rw[h1];exact hn),h1]
 ok:=k.ok
theorem Q5k{l:List LTr}{t:LTr}(h:l[i]?=some t):(kC l)[i]?=some [.ptr (.o t.id) 0]:=by simp[kC,h]
set_option maxRecDepth 100000
def Qdl:Tr:=.mk 8 0 [] [.mk 3 0 [] [tV 3,tV 2] [],.mk 3 0 [] [tV 3,.mk 8 0 [] [tV 2,tV 2] []] []] []
def Q46:Tr:=.mk 13 0 [] [.mk 8 0 [] [tW 1,.mk 12 5 [] [tW 3] []] [],tV 1,Qdl] [⟨-1,[1]⟩,⟨5,[2,3]⟩]
theorem Qav:check (listT [] Q46)=0:=by decide +kernel
theorem N2(o n:Int)(a b:Tr):APure Tryz.prog Γ 10 [.one (int o),.one (int n),.one (.sl 1 [[.box (cNd a)],[.box (cNd b)]])] (.one (.box (cNd (.mk o n [] [a,b] [])))):=by have:=N_ok (Γ:=Γ) o n [a,b];rwa [Q4m]at this
theorem N1(o n:Int)(a:Tr):APure Tryz.prog Γ 10 [.one (int o),.one (int n),.one (.sl 1 [[.box (cNd a)]])] (.one (.box (cNd (.mk o n [] [a] [])))):=by have:=N_ok (Γ:=Γ) o n [a];rwa [Q4m]at this
theorem A3(o:Int)(al:List Alt)(a b c:Tr):APure Tryz.prog Γ 12 [.one (int o),.one (.sl 2 (al.map cAlt)),.one (.sl 1 [[.box (cNd a)],[.box (cNd b)],[.box (cNd c)]])] (.one (.box (cNd (.mk o 0 [] [a,b,c] al)))):=by have:=A_ok (Γ:=Γ) o al [a,b,c];rwa [Q4m]at this
theorem Qkn(hΓ:GI Γ)(a b:Tr):APure Tryz.prog Γ 82 [.one (.box (cNd a)),.one (.box (cNd b))] (.one (.box (cNd (.mk 8 0 [] [a,b] [])))):=by have hN:=N2 (Γ:=Γ) 8 0 a b;intro ou;refine zwk 9 Tryz.func82 fun hou=>?_;refine zA ?_;refine zca hΓ hN hou ?_;refine zA ?_;exact Qz0 rfl (Z46 rfl) zsy hou rfl
theorem Qiz(hΓ:GI Γ)(a:Tr):APure Tryz.prog Γ 83 [.one (.box (cNd a))] (.one (.box (cNd (.mk 3 0 [] [tV 3,a] [])))):=by have hN:=N2 (Γ:=Γ) 3 0 (tV 3) a;intro ou;refine zwk 7 Tryz.func83 fun hou=>?_;refine zA ?_;refine zca hΓ (V_ok hΓ 3) hou ?_;refine zA ?_;refine zca hΓ hN hou ?_;refine zA ?_;exact Qz0 rfl (Z46 rfl) zsy hou rfl
theorem Qef:okT Q46:=by simp only[Q46,Qdl,tV,tW,okT,okTs];simp
theorem Qf8:cntN Q46=15:=by simp[Q46,Qdl,tV,tW,cntN,cntNs]
theorem Qo0(hΓ:GI Γ):APure Tryz.prog Γ 40 [] (.one (.sl 5 ((listT [] Q46).map cEx))):=by have hL:=Qb3 hΓ Q46 Qef (by have:=Q42 Q46 [];rw[Qf8]at this;simp at this;omega);intro ou;refine zwk 31 Tryz.func40 fun hou=>?_;refine zA ?_;refine zca hΓ (V_ok hΓ 2) hou ?_;refine zca hΓ (Qiz hΓ (tV 2)) hou ?_;refine zA ?_;refine zca hΓ (V_ok hΓ 2) hou ?_;refine zca hΓ (V_ok hΓ 2) hou ?_;refine zca hΓ (Qkn hΓ (tV 2) (tV 2)) hou ?_;refine zca hΓ (Qiz hΓ (.mk 8 0 [] [tV 2,tV 2] [])) hou ?_;refine zca hΓ (Qkn hΓ (.mk 3 0 [] [tV 3,tV 2] []) (.mk 3 0 [] [tV 3,.mk 8 0 [] [tV 2,tV 2] []] [])) hou ?_;refine zA ?_;refine zca hΓ (W_ok hΓ 1) hou ?_;refine zca hΓ (W_ok hΓ 3) hou ?_;refine zA ?_;refine zca hΓ (N_ok (Γ:=Γ) 12 5 [tW 3]) hou ?_;refine zca hΓ (Qkn hΓ (tW 1) (.mk 12 5 [] [tW 3] [])) hou ?_;refine zca hΓ (V_ok hΓ 1) hou ?_;refine zA ?_;refine zca hΓ (A_ok (Γ:=Γ) 13 [⟨-1,[1]⟩,⟨5,[2,3]⟩] [.mk 8 0 [] [tW 1,.mk 12 5 [] [tW 3] []] [],tV 1,Qdl]) hou ?_;refine zca hΓ hL hou ?_;refine zA ?_;exact Qz0 rfl (Z46 rfl) zsy hou rfl
theorem Qeg:okB (listT [] Q46):=Q7a (Q81 _ Qef) (by rw[Qf8];omega)
end Go.Proofs.YtlmokgooijbcdaaGreatDoor
namespace Go.CoreX
def W1:Tr:=.mk 1 1 [] [] []
inductive LFt where
 |mk (id:Nat) (op n:Int) (kb:Nb) (kids:List LFt)
instance:Inhabited LFt:=⟨.mk 0 0 0 none []⟩
def LFt.id:LFt->Nat|.mk i _ _ _ _=>i
def LFt.n:LFt->Int|.mk _ _ n _ _=>n
def LFt.kids:LFt->List LFt|.mk _ _ _ _ k=>k
mutual
def erFt:LFt->Tr
 |.mk _ o n _ k=>.mk o n [] (erFts k) []
def erFts:List LFt->List Tr
 |[]=>[]
 |t::ts=>erFt t::erFts ts
end
theorem Qiq:∀l:List LFt,erFts l=l.map erFt
 |[]=>rfl
 |t::l=>by simp[erFts,Qiq l]
mutual
def okFt:LFt->Prop
 |.mk _ _ _ kb k=>(kb=none->k=[])/\(∀a c,kb=some (a,c)->k.length<=c)/\k.length<=1048576/\okFts k
def okFts:List LFt->Prop
 |[]=>True
 |t::l=>okFt t/\okFts l
end
theorem Qhs:∀{l:List LFt},(∀t∈l,okFt t)->okFts l
 |[],_=>trivial
 |t::l,h=>⟨h t zsy,Qhs fun u hu=>h u (by simp[hu])⟩
end Go.CoreX
namespace Go.Proofs.YtlmokgooijbcdaaGreatDoor
variable {Γ:List (Nat×List AC)}
def kFt (l:List LFt):List (List AC):=l.map fun t=>[.ptr (.o t.id) 0]
def kcFt:Nb->List (List AC)->AC
 |none,l=>.sl 1 l
 |some (a,cap),l=>.arr (.o a) 1 0 l.length cap
def koFt:Nb->List (List AC)->List (Nat×AObj)
 |none,_=>[]
 |some (a,cap),l=>[(a,.cells (vec 1 l cap))]
def nFt (o n:Int)(kb:Nb)(l:List (List AC)):AObj:=.cells [int o,int n,.sl 1 [],kcFt kb l,.sl 2 []]
mutual
def obFt:LFt->List (Nat×AObj)
 |.mk i o n kb k=>(i,nFt o n kb (kFt k))::(koFt kb (kFt k)++obFts k)
def obFts:List LFt->List (Nat×AObj)
 |[]=>[]
 |t::ts=>obFt t++obFts ts
end
theorem Qgb(p:Abs.Id->Prop)(hp:∀k,p (.o k)):∀l:List LFt,idsS p (kFt l)
 |[]=>trivial
 |t::l=>⟨⟨hp _,trivial⟩,Qgb p hp l⟩
@[simp] theorem Qmi (l:List LFt):idsS isO (kFt l):=Qgb _ (fun _=>trivial) l
@[simp] theorem ids_kFt_l (k:Nat) (l:List LFt):idsS (inL k) (kFt l):=Qgb _ (fun _=>trivial) l
@[simp] theorem ren_kFt (ρ:Nat->Nat) (l:List LFt):renS ρ (kFt l)=kFt l:=Q25 ρ _ (Qmi l)
def ownFt:LFt->List (Nat×AObj)
 |.mk i o n kb k=>koFt kb (kFt k)++[(i,nFt o n kb (kFt k))]
theorem obFt_mem:∀(t:LFt)(p:Nat×AObj),p∈obFt t↔p∈ownFt t∨p∈obFts t.kids
 |.mk i o n kb k,p=>by
  simp only[obFt,ownFt,LFt.kids,Z1p,Z1m,Z28,or_false];constructor
  ·rintro (h|h|h) <;> simp[h]
  ·rintro ((h|h)|h) <;> simp[h]
structure LinkF (e:List Ex)(lts:List LFt):Prop where
 len:lts.length=e.length
 at_:∀(i:Nat) (x:Ex),e[i]?=some x->∃id kb,lts[i]?=some (.mk id x.op x.n kb (x.kids.map fun q=>lts.getD q.toNat default))/\(kb=none->x.kids=[])/\∀a c,kb=some (a,c)->x.kids.length<=c
theorem LinkF.nil:LinkF [] []:=⟨rfl,fun i x h=>by simp at h⟩
def noB (e:List Ex):Prop:=∀x∈e,x.binds=[]/\x.alts=[]
section
variable {e:List Ex}{lts:List LFt}
theorem LinkF.getD(h:LinkF e lts){i:Nat}{t:LFt}(ht:lts[i]?=some t):lts.getD i default=t:=by rw[Z0o,ht];rfl
theorem LinkF.er(h:LinkF e lts)(hk:Q0z e)(hb:noB e):∀(n i:Nat)(t:LFt),i < n->lts[i]?=some t->erFt t=Q54 e i
 |0,i,t,hi,_=>by omega
 |n+1,i,t,hi,ht=>by
  have hil:i < e.length:=by rw[←h.len];exact (Z0v.1 ht).1
  obtain⟨x,hx⟩:=Q00 hil;obtain⟨id,kb,h1,_,_⟩:=h.at_ i x hx;obtain⟨b1,b2⟩:=hb x (Z1y hx);rw[ht]at h1;cases h1;rw[Q4p hk hx,b1,b2];simp only[erFt,Qiq,Z1i];congr 1;refine Z1f fun q hq=>?_;have hq':=hk i x hx q hq;obtain⟨t',ht'⟩:=Q00 (l:=lts) (i:=q.toNat) (by rw[h.len];omega);simp only[Function.comp,h.getD ht'];exact h.er hk hb n q.toNat t' zoy ht'
theorem LinkF.ok(h:LinkF e lts)(hk:Q0z e)(he:okE e):∀(n i:Nat)(t:LFt),i < n->lts[i]?=some t->okFt t
 |0,i,t,hi,_=>by omega
 |n+1,i,t,hi,ht=>by
  have hil:i < e.length:=by rw[←h.len];exact (Z0v.1 ht).1
  obtain⟨x,hx⟩:=Q00 hil;obtain⟨id,kb,h1,h2,h3⟩:=h.at_ i x hx;rw[ht]at h1;cases h1;refine⟨fun hn=>by rw[h2 hn];rfl,fun a c hc=>by rw[Z16];exact h3 a c hc,by rw[Z16];exact (he.x x (Z1y hx)).k,Qhs fun u hu=>?_⟩;obtain⟨q,hq,rfl⟩:=Z1w.1 hu;have hq':=hk i x hx q hq;obtain⟨t',ht'⟩:=Q00 (l:=lts) (i:=q.toNat) (by rw[h.len];omega);rw[h.getD ht'];exact h.ok hk he n q.toNat t' zoy ht'
end
def Qlq (ts:List LFt)(n:Nat):List AC:=ts.map (fun t=>.ptr (.o t.id) 0)++List.replicate (n - ts.length) (.lit (.pointer none))
theorem Qbu(p:Abs.Id->Prop)(hp:∀k,p (.o k))(ts:List LFt)(n:Nat):idsL p (Qlq ts n):=by
 refine Q7e ?_ (Qid p _ _)
 induction ts with
 |nil=>trivial
 |cons t ts ih=>exact⟨hp _,ih⟩
@[simp] theorem ids_nodesF_l (k:Nat) (ts:List LFt) (n:Nat):idsL (inL k) (Qlq ts n):=Qbu _ (fun _=>trivial) ts n
@[simp] theorem ids_nodesF_o (ts:List LFt) (n:Nat):idsL isO (Qlq ts n):=Qbu _ (fun _=>trivial) ts n
theorem Quk{v w:AObj}(hk:∀m,k<=m->ou m=none)(hou:OuOk ou)(hv:v.ids isO)(hw:w.ids isO):NewO ou (ouAdd ou k [w,v]) [(k+1,v),(k,w)]:=by
 refine⟨fun p hp=>?_,fun j hj=>?_,fun m hm=>?_,Q64 hou fun q hq=>?_,by simp[keys]⟩
 ·simp only[Z1p,Z28,or_false]at hp;rcases hp with rfl|rfl
  ·exact Q0o 1
  ·exact Q0o 0
 ·simp[keys]at hj;rcases hj with rfl|rfl <;> exact hk _ zoy
 ·simp[keys]at hm;rcases Z33 m k with h1|h1
  ·exact Q14 h1
  ·obtain⟨p,rfl⟩:∃p,m=k+p:=⟨m - k,by omega⟩;rw[Q0o,hk _ h1]
   match p,hm with
   |0,hm=>simp at hm
   |1,hm=>simp at hm
   |p+2,hm=>simp
 ·simp only[Z1p,Z28,or_false]at hq;rcases hq with rfl|rfl
  ·exact hw
  ·exact hv
end Go.Proofs.YtlmokgooijbcdaaGreatDoor
namespace Go.CoreX
end Go.CoreX
namespace Go.Proofs.YtlmokgooijbcdaaGreatDoor
variable {Γ:List (Nat×List AC)}
theorem Qoy{t s:LTr}(h:s∈t.kids){p:Nat×AObj}(hp:p∈objs s):p∈objss t.kids:=by rw[Qcw];exact Z1u.2 ⟨s,h,hp⟩
theorem of_keys{l:List (Nat×AObj)}(h:k∈keys l):∃o,(k,o)∈l:=by obtain⟨⟨j,o⟩,h1,h2⟩:=Z1w.1 h;simp at h2;subst h2;exact⟨o,h1⟩
theorem er_kids(t:LTr):(erT t).kids=t.kids.map erT:=by cases t;simp[erT,LTr.kids,Q26]
theorem Qip{t s:LTr}(h:s∈t.kids):erT s∈(erT t).kids:=by rw[er_kids];exact Z1x h
theorem Qhj{t s:LTr}(h:Owns ou (objs t))(hs:s∈t.kids):Owns ou (objs s):=fun p hp=>h p ((Qhu t p).2 (.inr (Qoy hs hp)))
theorem Q3z(l:List LTr):(kC l).length=l.length:=by simp[kC]
def plainB (nb:Nb)(l:List Int):Prop:=nb=none
mutual
def Q6f:LTr->Prop
 |.mk i o n nb b ks a=>nb=none/\(∀x∈a,x.nb=none)/\Q9y ks
def Q9y:List LTr->Prop
 |[]=>True
 |t::l=>Q6f t/\Q9y l
end
theorem Q6o:∀{l:List LTr},Q9y l↔∀t∈l,Q6f t
 |[]=>by simp[Q9y]
 |t::l=>by simp[Q9y,Q6o (l:=l)]
theorem Q9x{t s:LTr}(h:Q6f t)(hs:s∈t.kids):Q6f s:=by
 cases t with
 |mk i o n nb b ks a=>exact Q6o.1 h.2.2 s hs
theorem LinkL.plain{e:List Ex}{lts:List LTr}(h:LinkL e lts plainB)(hk:Q0z e):∀(n i:Nat)(t:LTr),i < n->lts[i]?=some t->Q6f t
 |0,i,t,hi,_=>by omega
 |n+1,i,t,hi,ht=>by
  have hil:i < e.length:=by rw[←h.len];exact (Z0v.1 ht).1
  obtain⟨x,hx⟩:=Q00 hil;obtain⟨id,nb,a,h1,h2,h3,h4⟩:=h.at_ i x hx;rw[ht]at h1;cases h1;refine⟨h3,h4,Q6o.2 fun s hs=>?_⟩;obtain⟨q,hq,rfl⟩:=Z1w.1 hs;have hq':=hk i x hx q hq;obtain⟨t',ht'⟩:=Q00 (l:=lts) (i:=q.toNat) (by rw[h.len];omega);rw[h.getD ht'];exact h.plain hk n q.toNat t' zoy ht'
theorem Q62:∀{a:List LAlt},(∀x∈a,x.nb=none)->a.map lAlt=(a.map LAlt.er).map cAlt
 |[],_=>rfl
 |x::a,h=>by have h1:=h x zsy;have h2:=Q62 fun y hy=>h y (Z1q x hy);simp only[Z1g,h2];congr 1;simp only[lAlt,h1];rfl
def Qo2 (Γ:List (Nat×List AC))(t:LTr):Prop:=∀(ou:Outer)(kw ko kt:Nat)(out:List Ex),OuOk ou->Owns ou (objs t)->ou kw=some (.cells [fnW kw ko])->ou ko=none->ou kt=none->ko≠kt->(listT out (erT t)).length<=1048576->
 AFn Tryz.prog Γ 66 [.one (.ptr (.o t.id) 0),.one (.ptr (.o kw) 0),.one (.ptr (.o ko) 0)] (ouS ou ko kt (out.map cEx)) (fun r ou'=>r=.one (int (((listT out (erT t)).length:Int) - 1))/\∃kt',ou kt'=none/\ko≠kt'/\ou'=ouS ou ko kt' ((listT out (erT t)).map cEx))
theorem Qi5(hΓ:GI Γ):∀t:LTr,okT (erT t)->Q6f t->Qo2 Γ t
 |.mk i o n nb b lks a,hok,hpl=>by
  have ih:∀t∈lks,Qo2 Γ t:=fun t ht=>Qi5 hΓ t (Qg1 hok (Qip (t:=.mk i o n nb b lks a) (by simpa[LTr.kids]using ht))) (Q9x hpl (by simpa[LTr.kids]using ht));obtain⟨hb,hk,ha,⟨hab,_⟩,hks⟩:=hok;obtain⟨rfl,hpa,_⟩:=hpl;intro ou kw ko kt out Qvn hOw hw ho ht hne hsz;have hown:∀t∈lks,Owns ou (objs t):=fun t ht=>Qhj hOw (by simpa[LTr.kids]using ht);have hi0:ou i=some (.cells (lC (.mk i o n none b lks a))):=Q77 hOw;simp only[lC,bC,Q62 hpa]at hi0;have hi:∀kt es,ou kt=none->ouS ou ko kt es i=some (.cells [int o,int n,.sl 1 (b.map cI),.sl 1 (kC lks),.sl 2 ((a.map LAlt.er).map cAlt)]):=fun kt es hkt=>(ouS_w (fun e=>by rw[e,ho]at hi0;cases hi0) (fun e=>by rw[e,hkt]at hi0;cases hi0) es).trans hi0;have hkl:(kC lks).length=lks.length:=Q3z lks;obtain⟨ks,hkse⟩:∃ks,ks=erTs lks:=⟨_,rfl⟩;have hkn:ks.length=lks.length:=by rw[hkse,Q26,Z16]
  have hkg:∀{j:Nat}{s:LTr},lks[j]?=some s->ks[j]?=some (erT s):=fun h=>by rw[hkse,Q26];simp[h]
  simp only[erT]at hsz ⊢;rw[←hkse]at hsz hk ⊢;generalize hae:a.map LAlt.er=al at *;clear hkse hae;have hwo:kw≠ko:=fun e=>by rw[e,ho]at hw;cases hw
  have Qwj:(Q03 out ks).1.length < 1048576:=by simp only[listT,Z12,Z1b]at hsz;omega
  refine zwk 70 Tryz.func66 fun hou=>?_;have hcl:=Q4g (Γ:=Γ) b hb;refine zA ?_;refine Qs0 tabOk 15 14 [(3,.one (int o)),(7,.one (int n)),(11,.one (.sl 1 (b.map cI))),(12,.one (.sl 1 (b.map cI)))] follows zky rfl rfl rfl rfl rfl rfl rfl rfl rfl ?_ ?_ ?_
  ·refine .step rfl (zHP (zLD rfl rfl (hi _ _ ht) rfl)) ?_;refine .step rfl (zHP (zLD rfl rfl (hi _ _ ht) rfl)) ?_;refine .step rfl (zHP (zLD rfl rfl (hi _ _ ht) rfl)) ?_;exact .call hΓ hcl hou zsy rfl rfl rfl rfl rfl rfl .nil
  ·refine .step rfl (zHP (zLD rfl rfl (hi _ _ ht) rfl)) ?_;refine .step rfl (zHP (zLD rfl rfl (hi _ _ ht) rfl)) ?_;refine .step rfl (zHP (zLD rfl rfl (hi _ _ ht) rfl)) ?_;exact .call hΓ hcl hou zsy rfl rfl rfl rfl rfl rfl .nil
  repeat' first|refine zN ?_|((with_reducible refine oj ?_);first|refine zix ?_|refine zow rfl rfl (hi _ _ ht) ?_)
  refine Qyq 0 3 3 1 rfl rfl ?_;refine Qre hΓ (α:=Nat×Nat) (fun c=>[(29,.one (int c.1)),(28,.one (int (kC lks).length)),(27,.one (.sl 1 (kC lks))),(5,.one (.ptr (.l 0) 0)),(2,.one (.ptr (.o ko) 0)),(1,.one (.ptr (.o kw) 0)),(0,.one (.ptr (.o i) 0))])
   (fun c=>⟨2,[(1,.tok 3 1 c.1),(0,.cells [int o,int n,.sl 1 (b.map cI),.gs 1 ((Q03 out (ks.take c.1)).2.map cI) (.l 1),.lit (.slice none 0 0)])],ouS ou ko c.2 ((Q03 out (ks.take c.1)).1.map cEx)⟩)
   (fun m c=>c.1<=ks.length/\(ou c.2=none/\ko≠c.2)/\m=ks.length - c.1) (a0:=(0,kt)) (ρ:=id) ⟨by omega,⟨ht,hne⟩,rfl⟩ (Qzw rfl zFS zsy ?_ rfl (by simp[Q03];rfl) hou) fun m c hi=>?_
  ·repeat' first|exact Z2n|refine zlc ?_|refine zld ?_ ?_|rfl
   all_goals (simp[AObj.ren,renL,AC.ren,Q03];rfl)
  obtain⟨q,kt⟩:=c;obtain⟨hil,⟨ht,hne⟩,rfl⟩:=hi;simp only at hil ht hne;have hwt:kw≠kt:=fun e=>by rw[e,ht]at hw;cases hw
  have hle:(Q03 out (ks.take q)).1.length<=(Q03 out ks).1.length:=by have:=Q32 (ks.take q) (ks.drop q) out;rw[Z2h]at this;rw[this];exact Q3a _ _
  refine zA ?_;refine Qyl rfl (fun hb3=>?_) (fun hb3=>?_)
  ·have Qvg:q < ks.length:=by simp[Q3z]at hb3;omega
   obtain⟨lt,hlt3⟩:=Q00 (l:=lks) (i:=q) zoy;obtain⟨t,hte⟩:∃t,t=erT lt:=⟨_,rfl⟩;have ht2:ks[q]?=some t:=by rw[hte];exact hkg hlt3
   have hsn:=Q4v t (ks.take q) out;rw[←Q0h ht2]at hsn;have hle2:(listT (Q03 out (ks.take q)).1 t).length<=1048576:=by have:=Q32 (ks.take (q+1)) (ks.drop (q+1)) out;rw[Z2h]at this;have h2:=Q3a (ks.drop (q+1)) (Q03 out (ks.take (q+1))).1;rw[←this,hsn]at h2;simp only at h2;omega
   have hcall:=ih lt (Z1y hlt3) ou kw ko kt (Q03 out (ks.take q)).1 Qvn (hown lt (Z1y hlt3)) hw ho ht hne (by rw[←hte];exact hle2);rw[←hte]at hcall;have Qw5:((Q03 out (ks.take q)).2.map cI).length=q:=by rw[Z16,Q3m];simp;omega
   refine zA ?_;refine zS (zIA rfl rfl rfl zoy (Q5k hlt3)) ?_;refine zA ?_;refine Qsq (va:=.one (int (((listT (Q03 out (ks.take q)).1 t).length:Int) - 1))) tabOk 6 4 [(2,.one (fnW kw ko))]
    (fun σ=>∃kt',ou kt'=none/\ko≠kt'/\σ=⟨2,[(1,.tok 3 1 q),(0,.cells [int o,int n,.sl 1 (b.map cI),.gs 1 ((Q03 out (ks.take q)).2.map cI) (.l 1),.lit (.slice none 0 0)])],ouS ou ko kt' ((listT (Q03 out (ks.take q)).1 t).map cEx)⟩)
    follows zky rfl rfl rfl rfl rfl ?_ rfl ⟨rfl,rfl⟩ rfl ?_ ?_ ?_ ?_
   ·rintro σ ⟨kt',h1,h2,rfl⟩;rfl
   ·refine Q1m.call hΓ rfl rfl rfl rfl zsy (Q3j Qvn zsy) hcall fun r ou' hq _ _=>?_;obtain⟨rfl,kt',h1,h2,rfl⟩:=hq;exact⟨rfl,kt',h1,h2,rfl⟩
   ·exact .step rfl (zHP (zLD rfl rfl (ouS_w hwo hwt _ |>.trans hw) rfl)) .nil
   ·rintro σ ⟨kt',h1,h2,rfl⟩;have Qy2:kw≠kt':=fun e=>by rw[e,h1]at hw;cases hw
    exact .step rfl (zHP (zLD rfl rfl (ouS_w hwo Qy2 _ |>.trans hw) rfl)) .nil
   rintro σ ⟨kt',h1,h2,rfl⟩;refine zA ?_;refine AOps.app tabOk rfl rfl rfl rfl rfl rfl rfl rfl rfl (Qrm _ _ _ _ _ (by rfl) Qw5.symm) (.sl _ _) rfl ?_ ?_ ?_
   ·rw[Qw5];show (q+1) * 8<=_;omega
   ·rw[Qw5];show q+1<=_;omega
   refine zM ?_;refine cInv ⟨ks.length - (q+1),(q+1,kt'),fun k=>if k=1 then 2 else k,by omega,⟨by omega,⟨h1,h2⟩,rfl⟩,Qzw rfl zFS zsy ?_ rfl (by simp only[hsn];rfl) (Q3j Qvn zsy)⟩;repeat' first|exact Z2n|refine zlc ?_|refine zld ?_ ?_|rfl
   ·simp only[AObj.ren,Z12,Qw5];rfl
   ·simp only[hsn];simp only[AObj.ren,renL,AC.ren,Q3v];rw[Z1e];rfl
  have Qvg:q=ks.length:=by simp[Q3z]at hb3;omega
  subst Qvg;rw[Z2j]at *;repeat' first|refine zN ?_|((with_reducible refine oj ?_);first|refine zix ?_|refine zow rfl rfl (hi _ _ ht) ?_)
  refine Qyq 0 4 51 2 rfl rfl ?_;refine Qre hΓ (α:=Nat) (fun q=>[(47,.one (int q)),(46,.one (int (al.map cAlt).length)),(45,.one (.sl 2 (al.map cAlt))),(5,.one (.ptr (.l 0) 0)),(2,.one (.ptr (.o ko) 0)),(1,.one (.ptr (.o kw) 0)),(0,.one (.ptr (.o i) 0))])
   (fun q=>⟨3,[(2,.tok 51 2 q),(0,.cells [int o,int n,.sl 1 (b.map cI),.gs 1 ((Q03 out ks).2.map cI) (.l 1),.gs 2 ((al.take q).map cAlt) (.l 2)])],ouS ou ko kt ((Q03 out ks).1.map cEx)⟩)
   (fun m q=>q<=al.length/\m=al.length - q) (a0:=0) (ρ:=id) ⟨by omega,rfl⟩ (Qzw rfl zFS zsy ?_ rfl rfl (Q3j Qvn zsy)) fun m q hq=>?_
  ·repeat' first|exact Z2n|refine zlc ?_|refine zld ?_ ?_|rfl
   all_goals (simp[AObj.ren,renL,AC.ren];exact⟨rfl,rfl⟩)
  obtain⟨hil,rfl⟩:=hq;have Qvy:OuOk (ouS ou ko kt ((Q03 out ks).1.map cEx)):=Q3j Qvn zsy;refine zA ?_;refine Qyl rfl (fun hb3=>?_) (fun hb3=>?_)
  ·have Qvg:q < al.length:=by simpa using hb3
   obtain⟨c,hc⟩:=Q00 Qvg;have hal:((al.take q).map cAlt).length=q:=by simp;omega
   have hca:=Q4g (Γ:=Γ) c.binds (hab c (Z1y hc));refine zA ?_;refine zS (zIA rfl rfl rfl zoy (Q0c hc)) ?_;refine zA ?_;refine Qrp tabOk 9 [(6,.one (.sl 1 (c.binds.map cI)))] follows zky rfl rfl rfl rfl (.call hΓ hca Qvy zsy rfl rfl rfl rfl rfl rfl .nil) ?_;refine zA ?_;refine AOps.app tabOk rfl rfl rfl rfl rfl rfl rfl rfl rfl (Qrm _ _ _ _ _ (by rfl) hal.symm) (.sl _ _) rfl ?_ ?_ ?_
   ·rw[hal];show (q+1) * 32<=_;omega
   ·rw[hal];show q+1<=_;omega
   refine zM ?_;refine cInv ⟨al.length - (q+1),q+1,fun k=>if k=2 then 4 else k,by omega,⟨by omega,rfl⟩,Qzw rfl zFS zsy ?_ rfl rfl Qvy⟩;repeat' first|exact Z2n|refine zlc ?_|refine zld ?_ ?_|rfl
   ·simp only[AObj.ren,Z12,hal];rfl
   ·rw[Q0h hc];simp only[AObj.ren,renL,AC.ren,Q3v,Q3w];rw[Z1e];rfl
  have Qvg:q=al.length:=by simp at hb3;omega
  subst Qvg;rw[Z2j];refine zA ?_;refine zS (zLD rfl rfl (ouS_o hne _) rfl) ?_
  (first|((with_reducible refine oj ?_);refine zau ?_)|(with_reducible refine zst ?_)|((with_reducible refine Q07 ?_ ?_);rfl)|(with_reducible refine ok ?_;first|refine Qyn rfl ?_|refine Qym rfl ?_))
  refine Qyz 64 rfl (y:=.agg (cEx ⟨o,n,b,(Q03 out ks).2,al⟩)) (WkF.agg ?_) ?_
  ·exact .cons (.refl _) (.cons (.refl _) (.cons (.refl _) (.cons (.gsE rfl) (.cons (.gsE rfl) .nil))))
  refine zA ?_;have hT:listT out (.mk o n b ks al)=(Q03 out ks).1++[⟨o,n,b,(Q03 out ks).2,al⟩]:=by simp only[listT]
  have hmap:(Q03 out ks).1.map cEx++[cEx ⟨o,n,b,(Q03 out ks).2,al⟩]=(listT out (.mk o n b ks al)).map cEx:=by rw[hT,Z1e];rfl
  refine AOps.app (es:=(Q03 out ks).1.map cEx) tabOk rfl rfl rfl rfl rfl rfl rfl rfl rfl (Qrm _ 62 5 _ (.o kt) (ouS_t ou ko kt _) rfl) (.sl 5 [cEx ⟨o,n,b,(Q03 out ks).2,al⟩]) rfl ?_ ?_ ?_
  ·simp;show (_+1) * 88<=_;omega
  ·simp;omega
  rw[hmap];refine Qyy (cs:=[.gs 5 ((Q03 out ks).1.map cEx) (.o kt)]) tabOk rfl rfl rfl rfl rfl rfl rfl (show (bif Nat.beq ko kt then some AObj.dead else ouS ou ko kt ((Q03 out ks).1.map cEx) ko)=_ by rw[Q06 hne];exact ouS_o hne _) zsy ?_;refine Qss 3 (show 3 < 4 by omega) fun k hk=>⟨[(2,.one (.ptr (.o ko) 0))],⟨4,[],ouS ou ko k ((listT out (.mk o n b ks al)).map cEx)⟩,⟨fun d x hd=>?_,rfl,fun i x hx=>?_⟩,?_⟩
  ·by_cases e:2=d
   ·subst e;simp[Fr.get]at hd;subst hd;exact⟨_,rfl,Z46 rfl⟩
   ·simp[Fr.get,Q06 e]at hd
  ·have hk':(bif Nat.beq k ko then some (AObj.cells [.gs 5 ((listT out (.mk o n b ks al)).map cEx) (.l 3)])else bif Nat.beq k kt then some AObj.dead else ouS ou ko kt ((Q03 out ks).1.map cEx) k)=none:=hk;have k1:k≠ko:=fun e=>by subst e;simp at hk'
   rw[Q06 k1]at hk';have k2:k≠kt:=fun e=>by subst e;simp at hk'
   rw[Q06 k2]at hk';simp only[cond_false,ouS_w k1 k2]at hk';cases i with
   |l m=>cases hx
   |o m=>
    have hx':ouS ou ko k ((listT out (.mk o n b ks al)).map cEx) m=some x:=hx;by_cases e:m=k
    ·subst e;rw[ouS_t]at hx';cases hx';exact⟨.l 3,_,rfl,rfl,rfl⟩
    ·by_cases e2:m=ko
     ·subst e2;rw[ouS_o e]at hx';cases hx';refine⟨.o m,.cells [.gs 5 ((listT out (.mk o n b ks al)).map cEx) (.l 3)],?_,rfl,?_⟩
      ·show (bif Nat.beq m m then _ else _)=_;rw[Q4f];rfl
      ·simp only[AObj.sub,subL,AC.sub];rw[Qbc _ zsy];rfl
     ·rw[ouS_w e2 e]at hx';have e3:m≠kt:=fun e=>by rw[e,ht]at hx';cases hx'
      refine⟨.o m,x,?_,rfl,(Qyt x (Qvn m x hx')).symm⟩;show (bif Nat.beq m ko then _ else bif Nat.beq m kt then _ else ouS ou ko kt _ m)=_;rw[Q06 e2,Q06 e3];exact (ouS_w e2 e3 _).trans hx'
  ·have hk':(bif Nat.beq k ko then some (AObj.cells [.gs 5 ((listT out (.mk o n b ks al)).map cEx) (.l 3)])else bif Nat.beq k kt then some AObj.dead else ouS ou ko kt ((Q03 out ks).1.map cEx) k)=none:=hk;have k1:k≠ko:=fun e=>by subst e;simp at hk'
   rw[Q06 k1]at hk';have k2:k≠kt:=fun e=>by subst e;simp at hk'
   rw[Q06 k2]at hk';simp only[cond_false,ouS_w k1 k2]at hk';refine zA ?_;refine zS (zLD rfl rfl (ouS_o (Z3d k1) _) rfl) ?_;refine zM ?_;refine Qst rfl (Z46 ?_) zsy (Q3j Qvn zsy) ⟨rfl,k,hk',Z3d k1,rfl⟩;simp
def IsR (X:FV)(ou:Outer)(r:FV)(ou':Outer):Prop:=r=X/\ou'=ou
theorem Qqe(hΓ:GI Γ)(t:LTr)(ht:okT (erT t))(hpl:Q6f t)(hsz:(listT [] (erT t)).length<=1048576)(ou:Outer)(hOw:Owns ou (objs t)):AFn Tryz.prog Γ 32 [.one (.ptr (.o t.id) 0)] ou (IsR (.one (.sl 5 ((listT [] (erT t)).map cEx))) ou):=by
 refine zwk 10 Tryz.func32 fun hou=>?_;iterate 22 (refine zO ?_)
 refine Qyq 0 0 62 5 rfl rfl ?_;refine zA ?_;refine Qss 0 (show 0 < 3 by omega) fun ko hko=>⟨[(7,.one (.ptr (.o t.id) 0)),(6,.one (.fn (.func 66) [] [.ptr (.l 1) 0,.ptr (.o ko) 0])),(3,.one (.ptr (.o ko) 0))],
  ⟨3,[(2,.tok 62 5 0),(1,.cells [.fn (.func 66) [] [.ptr (.l 1) 0,.ptr (.o ko) 0]])],updO ou ko (.cells [.gs 5 [] (.l 2)])⟩,⟨CedFr.get ?_,rfl,fun i x hx=>?_⟩,?_⟩
 ·exact .cons rfl (rfl) (.cons rfl rfl (.cons rfl rfl .nil))
 ·have hko:ou ko=none:=hko;cases i with
  |l m=>
   by_cases e:2=m
   ·subst e;cases hx;exact⟨.l 2,_,rfl,rfl,rfl⟩
   ·have hx':lookL m [(1,AObj.cells [.fn (.func 66) [] [.ptr (.l 1) 0,.ptr (.o ko) 0]])]=some x:=by simpa[St.get,lookL,Q06 e]using hx
    by_cases e1:1=m
    ·subst e1;cases hx';exact⟨.l 1,_,rfl,rfl,rfl⟩
    ·simp[lookL,Q06 e1]at hx'
  |o m=>
   have hx':updO ou ko (.cells [.gs 5 [] (.l 2)]) m=some x:=hx;by_cases e:ko=m
   ·subst e;rw[Q04]at hx';cases hx';exact⟨.l 0,_,rfl,rfl,rfl⟩
   ·rw[Q02 _ e]at hx';exact⟨.o m,x,hx',rfl,(Qyt x (hou m x hx')).symm⟩
 have hko:ou ko=none:=hko;refine Qss 1 (show 1 < 3 by omega) fun kw hkw=>⟨[(7,.one (.ptr (.o t.id) 0)),(6,.one (fnW kw ko)),(3,.one (.ptr (.o ko) 0))],
  ⟨3,[(2,.tok 62 5 0)],updO (updO ou ko (.cells [.gs 5 [] (.l 2)])) kw (.cells [fnW kw ko])⟩,⟨CedFr.get ?_,rfl,fun i x hx=>?_⟩,?_⟩
 ·exact .cons rfl (rfl) (.cons rfl rfl (.cons rfl rfl .nil))
 ·have hkw:updO ou ko (.cells [.gs 5 [] (.l 2)]) kw=none:=hkw;cases i with
  |l m=>
   by_cases e:2=m
   ·subst e;cases hx;exact⟨.l 2,_,rfl,rfl,rfl⟩
   ·simp[St.get,lookL,Q06 e]at hx
  |o m=>
   have hx':updO (updO ou ko (.cells [.gs 5 [] (.l 2)])) kw (.cells [fnW kw ko]) m=some x:=hx;by_cases e:kw=m
   ·subst e;rw[Q04]at hx';cases hx';exact⟨.l 1,_,rfl,rfl,rfl⟩
   ·rw[Q02 _ e]at hx';by_cases e2:ko=m
    ·subst e2;rw[Q04]at hx';cases hx';exact⟨.o ko,_,Q04 _ _ _,rfl,rfl⟩
    ·have hx2:=hx';rw[Q02 _ e2]at hx2;exact⟨.o m,x,hx',rfl,(Qyt x (hou m x hx2)).symm⟩
 have hkw:updO ou ko (.cells [.gs 5 [] (.l 2)]) kw=none:=hkw;have hwo:ko≠kw:=fun e=>by subst e;rw[Q04]at hkw;cases hkw
 rw[Q02 _ hwo]at hkw;refine Qss 2 (show 2 < 3 by omega) fun kt hkt=>⟨[(7,.one (.ptr (.o t.id) 0)),(6,.one (fnW kw ko)),(3,.one (.ptr (.o ko) 0))],
  ⟨3,[],ouS (updO ou kw (.cells [fnW kw ko])) ko kt (([]:List Ex).map cEx)⟩,⟨CedFr.get ?_,rfl,fun i x hx=>?_⟩,?_⟩
 ·exact .cons rfl (rfl) (.cons rfl rfl (.cons rfl rfl .nil))
 ·have hkt:updO (updO ou ko (.cells [.gs 5 [] (.l 2)])) kw (.cells [fnW kw ko]) kt=none:=hkt;have Qxa:ko≠kt:=fun e=>by subst e;rw[Q02 _ (Z3d hwo),Q04]at hkt;cases hkt
  cases i with
  |l m=>cases hx
  |o m=>
   have hx':ouS (updO ou kw (.cells [fnW kw ko])) ko kt (([]:List Ex).map cEx) m=some x:=hx;by_cases e:m=kt
   ·subst e;rw[ouS_t]at hx';cases hx';exact⟨.l 2,_,rfl,rfl,rfl⟩
   ·by_cases e2:m=ko
    ·subst e2;rw[ouS_o Qxa]at hx';cases hx';refine⟨.o m,.cells [.gs 5 [] (.l 2)],?_,rfl,rfl⟩;show updO (updO ou m (.cells [.gs 5 [] (.l 2)])) kw (.cells [fnW kw m]) m=_;rw[Q02 _ (Z3d hwo),Q04]
    ·rw[ouS_w e2 e]at hx';by_cases e3:kw=m
     ·subst e3;rw[Q04]at hx';cases hx';exact⟨.o kw,_,Q04 _ _ _,rfl,rfl⟩
     ·rw[Q02 _ e3]at hx';refine⟨.o m,x,?_,rfl,(Qyt x (hou m x hx')).symm⟩;show updO (updO ou ko (.cells [.gs 5 [] (.l 2)])) kw (.cells [fnW kw ko]) m=_;rw[Q02 _ e3,Q02 _ (Z3d e2)];exact hx'
 have hkt:updO (updO ou ko (.cells [.gs 5 [] (.l 2)])) kw (.cells [fnW kw ko]) kt=none:=hkt;have hwt:kw≠kt:=fun e=>by subst e;rw[Q04]at hkt;cases hkt
 rw[Q02 _ hwt]at hkt;have hot:ko≠kt:=fun e=>by subst e;rw[Q04]at hkt;cases hkt
 rw[Q02 _ hot]at hkt;have hob:OuOk (updO ou kw (.cells [fnW kw ko])):=fun k o hk=>by
  by_cases e:kw=k
  ·subst e;rw[Q04]at hk;cases hk;simp
  ·rw[Q02 _ e]at hk;exact hou k o hk
 have hOw2:Owns (updO ou kw (.cells [fnW kw ko])) (objs t):=hOw.frame fun j hj=>by
  obtain⟨o,hp⟩:=of_keys hj;have hne:kw≠j:=fun e=>by have h1:ou j=some o:=hOw _ hp;rw[←e,hkw]at h1;cases h1
  exact Q02 _ hne _
 have hcall:=Qi5 hΓ t ht hpl (updO ou kw (.cells [fnW kw ko])) kw ko kt [] hob hOw2 (Q04 _ _ _) (by rw[Q02 _ (Z3d hwo)];exact hko) (by rw[Q02 _ hwt];exact hkt) hot hsz;refine Qrb hΓ rfl rfl rfl rfl rfl rfl rfl zsy (Q3j hob zsy) hcall fun r ou' hq Qvd Qxb=>?_;obtain⟨rfl,kt',h1,h2,rfl⟩:=hq;refine zA ?_;refine zS (zLD rfl rfl (ouS_o h2 _) rfl) ?_;refine Qyz 9 rfl (y:=.one (.sl 5 ((listT [] (erT t)).map cEx))) (.one (.gsE rfl)) ?_;refine AOps.lessO ⟨3,[],ou⟩ rfl (fun i o ho=>?_) ?_
 ·cases i with
  |l m=>cases ho
  |o m=>
   have ho':ou m=some o:=ho;show ouS (updO ou kw (.cells [fnW kw ko])) ko kt' _ m=some o;have e1:m≠ko:=fun e=>by rw[e,hko]at ho';cases ho'
   have e2:kw≠m:=fun e=>by rw[←e,hkw]at ho';cases ho'
   have e3:m≠kt':=fun e=>by rw[←e,Q02 _ e2]at h1;rw[h1]at ho';cases ho'
   rw[ouS_w e1 e3,Q02 _ e2];exact ho'
 refine zA ?_;exact Qst rfl (Z46 rfl) zsy hou ⟨rfl,rfl⟩
end Go.Proofs.YtlmokgooijbcdaaGreatDoor
namespace Go.CoreX
def hNo (fo:Option LTr):Nat:=match fo with|none=>0|some _=>1
end Go.CoreX
namespace Go.Proofs.YtlmokgooijbcdaaGreatDoor
variable {Γ:List (Nat×List AC)}
theorem UpdL.one{R:List (Nat×AObj)}{c c':AObj}(hO:Owns ou ((i,c)::R))(hn:(keys ((i,c)::R)).Nodup)(hou:OuOk ou)(hc:c'.ids isO):UpdL ou ((i,c)::R) (updO ou i c') ((i,c')::R):=by
 simp only[keys,Z1g,Z27]at hn;refine⟨fun p hp=>?_,by simpa[keys]using hn,fun k hk=>.inl (by simpa[keys]using hk),fun k hk hne=>?_,Q0m hou hc⟩
 ·rcases Z1p.1 hp with rfl|hp
  ·exact Q04 _ _ _
  ·rw[Q02 _ (fun e=>hn.1 (by rw[e];exact Z1x hp))];exact hO p (Z1q _ hp)
 ·simp only[keys,Z1g,Z1p,not_or]at hk;exact Q02 _ (Z3d hk.1) _
end Go.Proofs.YtlmokgooijbcdaaGreatDoor
namespace Go.CoreX
def alN (x:Alt):LAlt:=⟨x.tag,none,x.binds⟩
theorem er_alN(l:List Alt):(l.map alN).map LAlt.er=l:=by rw[Z1i];exact List.map_id'' (fun x=>by cases x;rfl) l
end Go.CoreX
namespace Go.Proofs.YtlmokgooijbcdaaGreatDoor
variable {Γ:List (Nat×List AC)}
theorem aO_alN(a:List Alt):aO (a.map alN)=[]:=by unfold aO;rw[List.flatMap_eq_nil_iff];intro x hx;obtain⟨y,_,rfl⟩:=Z1w.1 hx;rfl
theorem Qpj(a:List Alt):(a.map alN).map lAlt=a.map cAlt:=by rw[Z1i];exact Z1f fun x _=>rfl
def GrowPQ (e:List Ex)(ou:Outer)(r:FV)(ou':Outer):Prop:=∃t:LTr,r=.one (.ptr (.o t.id) 0)/\erT t=grow e/\Q6f t/\Owns ou' (objs t)/\(keys (objs t)).Nodup/\(∀k∈keys (objs t),ou k=none)/\OuOk ou'/\∀j o,ou j=some o->ou' j=some o
theorem Qqg(hΓ:GI Γ)(e:List Ex)(he:okE e)(hin:Q0z e)(hT:IsTree e)(ou:Outer):AFn Tryz.prog Γ 25 [.one (.sl 5 (e.map cEx))] ou (GrowPQ e ou):=by
 have hel:=he.l;refine zwk 85 Tryz.func25 fun hou=>?_;refine zA ?_;have hb:ti74.bytes * (e.map cEx).length<=281474976710656:=by simp;show 8 * _<=_;omega
 have hb2:(e.map cEx).length<=281474976710656:=by simp;omega
 refine zS (Qsa tabOk rfl rfl rfl rfl rfl rfl rfl rfl hb hb2) ?_;refine zA ?_;refine Qre hΓ (α:=Nat×List LTr×Outer) (fun c=>[(16,.one (int c.1)),(15,.one (int (e.map cEx).length)),(14,.one (.sl 5 (e.map cEx))),(3,.one (.arr (.l 0) 1 0 (e.map cEx).length (e.map cEx).length)),(0,.one (.sl 5 (e.map cEx)))])
  (fun c=>⟨1,[(0,.cells (Q2d c.2.1 (e.map cEx).length))],c.2.2⟩) (fun m c=>c.1<=e.length/\(LinkL (e.take c.1) c.2.1 plainB/\NewO ou c.2.2 (c.2.1.flatMap ownO))/\m=e.length - c.1) (a0:=(0,[],ou)) (ρ:=id) ⟨by omega,⟨LinkL.nil,.nil hou⟩,rfl⟩
  (Qzw rfl zFS zsy (Z2m rfl (by rw[Qyr _ _ zsy];show AObj.cells (List.replicate _ _)=AObj.cells (Q2d [] _);rw[Qjg]) rfl zsy .nil) rfl rfl hou) fun m c hc=>?_
 obtain⟨j,lts,ov⟩:=c;obtain⟨hjl,⟨hL,hN⟩,rfl⟩:=hc;dsimp only at hjl hL hN;have hov:=hN.ok;refine zA ?_;refine Qyl rfl (fun hb2=>?_) (fun hb2=>?_)
 ·have hlt:j < e.length:=by simpa using hb2
  obtain⟨x,hx⟩:=Q00 hlt;have hxo:=he.x x (Z1y hx);have hxk:=hxo.k;have hxa:=hxo.a;have Qxo:=hin j x hx;have hgl:lts.length=j:=by rw[hL.len];simp;omega
  refine zA ?_;refine zS (zIA rfl rfl rfl zoy (Q0c hx)) ?_;refine zA ?_;have hcl:=Q4g (Γ:=Γ) x.binds hxo.b;refine Qu1 (va:=.one (.ptr (.l 2) 0)) (σ1:=(((St.mk 1 [(0,.cells (Q2d lts (e.map cEx).length))] ov).push (.cells (ti62.zero.map .lit))).set (.l 1) (.cells (cEx x))).push (.cells [int x.op,int x.n,.sl 1 (x.binds.map cI),.lit (.slice none 0 0),.lit (.slice none 0 0)]))
   tabOk 9 8 [(6,.one (.sl 1 (x.binds.map cI)))] follows zky rfl rfl rfl rfl rfl rfl rfl (Qzr tabOk rfl) ?_ ?_ ?_
  ·exact .call hΓ hcl hov zsy rfl rfl rfl rfl rfl rfl .nil
  ·exact .call hΓ hcl hov zsy rfl rfl rfl rfl rfl rfl .nil
  refine zA ?_;refine Qyq 2 3 74 1 rfl rfl ?_;refine Qre hΓ (α:=Nat) (fun i=>[(33,.one (int i)),(32,.one (int (x.kids.map cI).length)),(31,.one (.sl 1 (x.kids.map cI))),(6,.one (.ptr (.l 2) 0)),(5,.one (.ptr (.l 1) 0)),(4,.one (int j)),(16,.one (int j)),(15,.one (int (e.map cEx).length)),(14,.one (.sl 5 (e.map cEx))),(3,.one (.arr (.l 0) 1 0 (e.map cEx).length (e.map cEx).length)),(0,.one (.sl 5 (e.map cEx)))])
   (fun i=>⟨4,[(3,.tok 74 1 i),(2,.cells [int x.op,int x.n,.sl 1 (x.binds.map cI),.gs 1 (kC (kidsL lts (x.kids.take i))) (.l 3),.lit (.slice none 0 0)]),(1,.cells (cEx x)),(0,.cells (Q2d lts (e.map cEx).length))],ov⟩)
   (fun m i=>i<=x.kids.length/\m=x.kids.length - i) (a0:=0) (ρ:=id) ⟨by omega,rfl⟩ (Qzw rfl zFS zsy ?_ rfl rfl hov) fun m i hi=>?_
  ·repeat' first|exact Z2n|refine zlc ?_|refine zld ?_ ?_|rfl
   all_goals (simp[AObj.ren,renL,AC.ren,kidsL];exact⟨rfl,rfl⟩)
  obtain⟨hil,rfl⟩:=hi;refine zA ?_;refine Qyl rfl (fun hb3=>?_) (fun hb3=>?_)
  ·have Qvg:i < x.kids.length:=by simpa using hb3
   obtain⟨k,hk⟩:=Q00 Qvg;have hkb:=Qxo k (Z1y hk);obtain⟨k',rfl⟩:∃k':Nat,k=k':=⟨k.toNat,by omega⟩;obtain⟨tk,htk⟩:=Q00 (l:=lts) (i:=k') zoy;have htd:lts.getD (k':Int).toNat default=tk:=by rw[Qzv,Z0o,htk];rfl
   have hks:=Qjo (ts:=lts) hk;rw[htd]at hks;have hkl:(kC (kidsL lts (x.kids.take i))).length=i:=by simp[kC,kidsL];omega
   refine zA ?_;refine zS (zIA rfl rfl rfl zoy (Q0c hk)) ?_;refine zA ?_;refine Qu1 (va:=.one (.gs 1 (kC (kidsL lts (x.kids.take i))++[[AC.ptr (.o tk.id) 0]]) (.l 4))) (σ1:=((St.mk 4 [(3,.tok 74 1 i),(2,.cells [int x.op,int x.n,.sl 1 (x.binds.map cI),.gs 1 (kC (kidsL lts (x.kids.take i))) (.l 3),.lit (.slice none 0 0)]),(1,.cells (cEx x)),(0,.cells (Q2d lts (e.map cEx).length))] ov).set (.l 3) .dead).push (.tok 74 1 (kC (kidsL lts (x.kids.take i))++[[AC.ptr (.o tk.id) 0]]).length))
    tabOk 11 10 [(7,.one (.ptr (.l 0) k')),(8,.one (.ptr (.o tk.id) 0))] follows zky rfl rfl rfl rfl rfl rfl rfl ?_ ?_ ?_ ?_
   ·refine Qzs rfl (Qz1 (s:=1) (es:=kC (kidsL lts (x.kids.take i))) (news:=[[AC.ptr (.o tk.id) 0]]) (ti:=ti117) (σ:=⟨4,[(3,.tok 74 1 i),(2,.cells [int x.op,int x.n,.sl 1 (x.binds.map cI),.gs 1 (kC (kidsL lts (x.kids.take i))) (.l 3),.lit (.slice none 0 0)]),(1,.cells (cEx x)),(0,.cells (Q2d lts (e.map cEx).length))],ov⟩) tabOk rfl rfl rfl rfl rfl rfl (Qrm _ 74 1 (kC (kidsL lts (x.kids.take i))) (.l 3) rfl hkl.symm) (.sl _ _) rfl ?_ ?_)
    ·rw[hkl];show (i+1) * 8<=_;omega
    ·rw[hkl];show i+1<=_;omega
   ·refine .step rfl (zHP (idxI tabOk rfl rfl rfl rfl rfl rfl rfl zuy)) ?_;exact .step rfl (zHP (zLD rfl rfl rfl (Q84 htk))) .nil
   ·refine .step rfl (zHP (idxI tabOk rfl rfl rfl rfl rfl rfl rfl zuy)) ?_;exact .step rfl (zHP (zLD rfl rfl rfl (Q84 htk))) .nil
   refine zM ?_;refine cInv ⟨x.kids.length - (i+1),i+1,fun k=>if k=3 then 4 else k,by omega,⟨by omega,rfl⟩,Qzw rfl zFS zsy ?_ rfl rfl hov⟩;repeat' first|exact Z2n|refine zlc ?_|refine zld ?_ ?_|rfl
   ·simp only[AObj.ren,Z12,hkl];rfl
   ·rw[hks,Qm9];simp only[AObj.ren,renL,AC.ren,Q3v];rw[←Qm9,ren_kC];rfl
  have Qvg:i=x.kids.length:=by simp at hb3;omega
  subst Qvg;rw[Z2j];refine zA ?_;refine Qyq 2 4 51 2 rfl rfl ?_;refine Qre hΓ (α:=Nat) (fun i=>[(54,.one (int i)),(53,.one (int (x.alts.map cAlt).length)),(52,.one (.sl 2 (x.alts.map cAlt))),(6,.one (.ptr (.l 2) 0)),(4,.one (int j)),(16,.one (int j)),(15,.one (int (e.map cEx).length)),(14,.one (.sl 5 (e.map cEx))),(3,.one (.arr (.l 0) 1 0 (e.map cEx).length (e.map cEx).length)),(0,.one (.sl 5 (e.map cEx)))])
   (fun i=>⟨5,[(4,.tok 51 2 i),(2,.cells [int x.op,int x.n,.sl 1 (x.binds.map cI),.gs 1 (kC (kidsL lts x.kids)) (.l 3),.gs 2 ((x.alts.take i).map cAlt) (.l 4)]),(0,.cells (Q2d lts (e.map cEx).length))],ov⟩)
   (fun m i=>i<=x.alts.length/\m=x.alts.length - i) (a0:=0) (ρ:=id) ⟨by omega,rfl⟩ (Qzw rfl zFS zsy ?_ rfl rfl hov) fun m i hi=>?_
  ·repeat' first|exact Z2n|refine zlc ?_|refine zld ?_ ?_|rfl
   all_goals (simp[AObj.ren,renL,AC.ren];exact⟨rfl,rfl⟩)
  obtain⟨hil,rfl⟩:=hi;refine zA ?_;refine Qyl rfl (fun hb3=>?_) (fun hb3=>?_)
  ·have Qvg:i < x.alts.length:=by simpa using hb3
   obtain⟨a,ha⟩:=Q00 Qvg;have hal:((x.alts.take i).map cAlt).length=i:=by simp;omega
   have hca:=Q4g (Γ:=Γ) a.binds (hxo.ab a (Z1y ha));refine zA ?_;refine zS (zIA rfl rfl rfl zoy (Q0c ha)) ?_;refine zA ?_;refine Qu1 (va:=.one (.gs 2 ((x.alts.take i).map cAlt++[cAlt a]) (.l 6))) (σ1:=((((St.mk 5 [(4,.tok 51 2 i),(2,.cells [int x.op,int x.n,.sl 1 (x.binds.map cI),.gs 1 (kC (kidsL lts x.kids)) (.l 3),.gs 2 ((x.alts.take i).map cAlt) (.l 4)]),(0,.cells (Q2d lts (e.map cEx).length))] ov).push (.cells (ti51.zero.map .lit))).set (.l 5) (.cells (cAlt a))).set (.l 4) .dead).push (.tok 51 2 ((x.alts.take i).map cAlt++[cAlt a]).length))
    tabOk 13 12 [(9,.one (.sl 1 (a.binds.map cI)))] follows zky rfl rfl rfl rfl rfl rfl rfl ?_ ?_ ?_ ?_
   ·refine Qzs rfl (Qz1 (s:=2) (es:=(x.alts.take i).map cAlt) (news:=[cAlt a]) (ti:=ti52) (σ:=(((St.mk 5 [(4,.tok 51 2 i),(2,.cells [int x.op,int x.n,.sl 1 (x.binds.map cI),.gs 1 (kC (kidsL lts x.kids)) (.l 3),.gs 2 ((x.alts.take i).map cAlt) (.l 4)]),(0,.cells (Q2d lts (e.map cEx).length))] ov).push (.cells (ti51.zero.map .lit))).set (.l 5) (.cells (cAlt a)))) tabOk rfl rfl rfl rfl rfl rfl (Qrm _ 51 2 ((x.alts.take i).map cAlt) (.l 4) rfl hal.symm) (.sl _ _) rfl ?_ ?_)
    ·rw[hal];show (i+1) * 32<=_;omega
    ·rw[hal];show i+1<=_;omega
   ·exact .call hΓ hca hov zsy rfl rfl rfl rfl rfl rfl .nil
   ·exact .call hΓ hca hov zsy rfl rfl rfl rfl rfl rfl .nil
   refine zM ?_;refine cInv ⟨x.alts.length - (i+1),i+1,fun k=>if k=4 then 6 else k,by omega,⟨by omega,rfl⟩,Qzw rfl zFS zsy ?_ rfl rfl hov⟩;repeat' first|exact Z2n|refine zlc ?_|refine zld ?_ ?_|rfl
   ·simp only[AObj.ren,Z12,hal];rfl
   ·rw[Q0h ha];simp only[AObj.ren,renL,AC.ren,Q3v,ren_kC,Q3w];rw[Z1e];rfl
  have Qvg:i=x.alts.length:=by simp at hb3;omega
  subst Qvg;rw[Z2j];refine zA ?_;refine zS (idxI tabOk rfl rfl rfl rfl rfl rfl rfl zuy) ?_;refine AOps.wkObj (.l 2) rfl (cs':=[int x.op,int x.n,.sl 1 (x.binds.map cI),.sl 1 (kC (kidsL lts x.kids)),.sl 2 (x.alts.map cAlt)]) (fun w C xs h=>(show WkL _ _ from .cons (.refl _) (.cons (.refl _) (.cons (.refl _) (.cons (.gsE rfl) (.cons (.gsE rfl) .nil))))) w C xs h) ?_;have hθ:∀(k:Nat) (i:Abs.Id),isO i->toOs [2] k i=i:=fun k i hi=>by cases i with|l q=>exact hi.elim|o q=>rfl
  refine Qyw [2] rfl zdy hov fun k hk=>⟨[(77,.one (.ptr (.l 0) j)),(76,.one (.ptr (.o k) 0)),(16,.one (int j)),(15,.one (int (e.map cEx).length)),(14,.one (.sl 5 (e.map cEx))),(3,.one (.arr (.l 0) 1 0 (e.map cEx).length (e.map cEx).length)),(0,.one (.sl 5 (e.map cEx)))],
   [(0,.cells (Q2d lts (e.map cEx).length))],[.cells [int x.op,int x.n,.sl 1 (x.binds.map cI),.sl 1 (kC (kidsL lts x.kids)),.sl 2 (x.alts.map cAlt)]],?_,?_,?_,?_⟩
  ·exact .cons rfl rfl (.cons rfl rfl (.cons rfl rfl (.cons rfl rfl (.cons rfl (FV.sub_f (hθ k) _ zsy) (.cons rfl rfl (.cons rfl (FV.sub_f (hθ k) _ zsy) .nil))))))
  ·exact .cons rfl rfl (Qys (hθ k) _ (Qes _ _)) .nil
  ·exact .cons rfl (Qys (hθ k) (.cells _) zsy) .nil
  have hN1:=NewO.add hk hov (o:=.cells [int x.op,int x.n,.sl 1 (x.binds.map cI),.sl 1 (kC (kidsL lts x.kids)),.sl 2 (x.alts.map cAlt)]) zsy;have hN2:=hN.trans hN1;obtain⟨t,ht⟩:∃t:LTr,t=.mk k x.op x.n none x.binds (kidsL lts x.kids) (x.alts.map alN):=⟨_,rfl⟩;have hto:lts.flatMap ownO++[(k,.cells [int x.op,int x.n,.sl 1 (x.binds.map cI),.sl 1 (kC (kidsL lts x.kids)),.sl 2 (x.alts.map cAlt)])]=(lts++[t]).flatMap ownO:=by rw[Z0h,ht];simp only[List.flatMap_cons,List.flatMap_nil,ownO,bO,bC,aO_alN,Qpj,Z25,Z02]
  rw[hto]at hN2;have hL2:=hL.snoc (Qjp (by rw[Z2h];exact hin)) (x:=x) (fun q hq=>by have:=Qxo q hq;simp;omega) (id:=k) (nb:=none) (a:=x.alts.map alN) (er_alN _) rfl (fun y hy=>by obtain⟨z,_,rfl⟩:=Z1w.1 hy;rfl);rw[←Q0h hx,show LTr.mk k x.op x.n none x.binds (x.kids.map fun q=>lts.getD q.toNat default) (x.alts.map alN)=t by rw[ht];rfl]at hL2;refine Qyy tabOk rfl rfl rfl rfl rfl rfl rfl rfl (by rw[Qjh (by simp[hgl];omega)];simp;omega) ?_;have hst:=Qjf (ts:=lts) (n:=(e.map cEx).length) (by simp[hgl];omega) t;rw[hgl,show t.id=k by rw[ht];rfl]at hst;rw[hst];refine zM ?_;exact cInv ⟨e.length - (j+1),(j+1,lts++[t],_),id,by omega,⟨by omega,⟨hL2,hN2⟩,rfl⟩,Qzw rfl zFS zsy zLO rfl rfl hN2.ok⟩
 ·have hlt:j=e.length:=by simp at hb2;omega
  subst hlt;rw[Z2j]at hL;obtain⟨N,hNe⟩:∃N,e.length=N+1:=⟨e.length - 1,by have:=Z18.2 hT.ne;omega⟩;obtain⟨t,ht⟩:=Q00 (l:=lts) (i:=N) (by rw[hL.len];omega);have hnt:e.length - 1=N:=by omega
  refine zM ?_;refine Qyz 82 rfl (y:=.one (int (N:Nat))) (.ofEq (by congr 3;simp;omega)) ?_;refine zS (idxI tabOk rfl rfl rfl rfl rfl rfl rfl zuy) ?_;refine zS (zLD rfl rfl rfl (Q84 ht)) ?_;refine zA ?_;have hown:=hL.own hin _ N t (Z34 _) ht;refine Qst rfl (Z46 rfl) (by simp[AC.ids]) hov ⟨t,rfl,?_,hL.plain hin _ N t (Z34 _) ht,?_,?_,?_,hov,?_⟩
  ·rw[hL.er hin _ N t (Z34 _) ht];unfold grow Q54;rw[hnt]
  ·exact fun p hp=>hN.own p (hown p hp)
  ·exact hL.nodup hT hN.nd (by rw[hnt];exact ht)
  ·intro k hk;obtain⟨p,hp,rfl⟩:=Z1w.1 hk;exact hN.new p.1 (Z1x (hown p hp))
  ·intro m o hm;show ov m=some o;rw[hN.old m fun hmk=>by have:=hN.new m hmk;rw[hm]at this;cases this];exact hm
end Go.Proofs.YtlmokgooijbcdaaGreatDoor
namespace Go.Abs
theorem Qul{t:TypeId}{a b:Nat}(ha:a < 18446744073709551616)(hb:b < 18446744073709551616)(ho:o.op=.binOp .or t x y yt)(hx:aEval E.Γ fr x=some (.one (.lit (.int .u64 (a:Int)))))(hy:aEval E.Γ fr y=some (.one (.lit (.int .u64 (b:Int))))):AStep E o fr σ (.one (.lit (.int .u64 ((a ||| b:Nat):Int)))) σ:=by refine Qqz fun F w C tmps hi hf=>⟨.int .u64 ((a ||| b:Nat):Int),?_,rfl,rfl⟩;have h1:=Q01 (a:=⟨tmps,E.ds⟩) hi hf hx;have h2:=Q01 (a:=⟨tmps,E.ds⟩) hi hf hy;simp only[RF,R]at h1 h2;unfold execOp;simp only[ho,h1.1,h2.1,eqGuard_at_int,Z3s,Z3t,Z3r];rw[←bits_or_u64_nat a b ha hb];rfl
theorem Qum{t:TypeId}{k:IntKind}{a b:Int}(ho:o.op=.binOp .mul t x y yt)(hx:aEval E.Γ fr x=some (.one (.lit (.int k a))))(hy:aEval E.Γ fr y=some (.one (.lit (.int k b)))):AStep E o fr σ (.one (.lit (.int k (k.wrap (a * b))))) σ:=by refine Qqz fun F w C tmps hi hf=>⟨.int k (k.wrap (a * b)),?_,rfl,rfl⟩;have h1:=Q01 (a:=⟨tmps,E.ds⟩) hi hf hx;have h2:=Q01 (a:=⟨tmps,E.ds⟩) hi hf hy;simp only[RF,R]at h1 h2;unfold execOp;simp only[ho,h1.1,h2.1,eqGuard_at_int,Z3s,Z3t,Z3r];simp[binOp,Op.intArith]
theorem Qun{t:TypeId}{k:IntKind}{a:Int}(ho:o.op=.unOp .neg t x)(hx:aEval E.Γ fr x=some (.one (.lit (.int k a)))):AStep E o fr σ (.one (.lit (.int k (k.wrap (-a))))) σ:=by refine Qqz fun F w C tmps hi hf=>⟨.int k (k.wrap (-a)),?_,rfl,rfl⟩;have e1:=Q01 (a:=⟨tmps,E.ds⟩) hi hf hx;simp only[RF,R]at e1;unfold execOp;simp only[ho,e1.1];simp[Op.unary,Op.intArith]
theorem Quo{t:TypeId}{k j:IntKind}{a b:Int}(ho:o.op=.binOp .shl t x y yt)(hx:aEval E.Γ fr x=some (.one (.lit (.int k a))))(hy:aEval E.Γ fr y=some (.one (.lit (.int j b))))(h0:0<=b)(h1:b<=k.bits):
  AStep E o fr σ (.one (.lit (.int k (k.wrap (a * 2 ^ b.toNat))))) σ:=by
 refine Qqz fun F w C tmps hi hf=>⟨.int k (k.wrap (a * 2 ^ b.toNat)),?_,rfl,rfl⟩;have e1:=Q01 (a:=⟨tmps,E.ds⟩) hi hf hx;have e2:=Q01 (a:=⟨tmps,E.ds⟩) hi hf hy;simp only[RF,R]at e1 e2;unfold execOp;simp only[ho,e1.1,e2.1,eqGuard_shl,Z3s,Z3t,Z3r,binOp_shl,shift_shl _ _ _ _ h0 h1]
theorem Qup{t e:TypeId}{m:Nat}{i:Operand}{k:IntKind}{n:Int}{cs:List AC}(hT:TabOk E.P E.T)(ho:o.op=.indexAddr t x i)(hu:E.P.underlying t=some (.array m e))(hj:Tab.get e E.T=some tj)(hx:aEval E.Γ fr x=some (.one (.box cs)))(hi':aEval E.Γ fr i=some (.one (.lit (.int k n))))(h0:0<=n)(hn:n < m):
  AStep E o fr σ (.one (.box (cs.drop (n.toNat * tj.size)))) σ:=by
 refine Qqz fun F w C tmps hi hf=>?_;have h1:=Q01 (a:=⟨tmps,E.ds⟩) hi hf hx;have h2:=Q01 (a:=⟨tmps,E.ds⟩) hi hf hi';simp only[RF,R]at h1 h2;obtain⟨ad,hv,hs,hr⟩:=h1;have hsz:=(hT _ _ hj).run_sizeOf (w:=w);refine⟨.pointer (some (ad.add (n.toNat * tj.size))),?_,ad.add (n.toNat * tj.size),rfl,by rw[Qqm hs],?_⟩
 ·unfold execOp;simp only[ho];simp[Instr.indexAt,hv,h2.1,asIntOf,run_underlying hu,Instr.sureAddr,h0,hn,hsz,Result.andThen]
 ·rw[Qqm hs];exact RL.drop _ hs hr
end Go.Abs
namespace Go.CoreX
def Q1w (w:Nat):List Nat:=if h:w=0 then []else Lib.ctz 64 w::Q1w (w &&& (w - 1))
termination_by w
decreasing_by
 have:w &&& (w - 1)<=w - 1:=Z2u;omega
def Q1x:Nat->List Nat->List Nat
 |_,[]=>[]
 |k,w::s=>(Q1w w).map (fun n=>64 * k+n)++Q1x (k+1) s
def elems (s:List Nat):List Nat:=Q1x 0 s
def orL (a b:List Nat):List Nat:=List.zipWith (fun x y=>x ||| y) a b
end Go.CoreX
namespace Go.Proofs.YtlmokgooijbcdaaGreatDoor
def cW (w:Nat):AC:=.lit (.int .u64 (w:Int))
def wC (s:List Nat):List AC:=s.map cW
def dbC:List AC:=Lib.deBruijn64tab.map fun n:Nat=>.lit (.int .u8 (n:Int))
def Γt:List (Nat×List AC):=[(2,dbC),(1,arC)]
theorem hΓt:∀g cs,(g,cs)∈Γt->idsL isO cs:=by
 intro g cs h;simp only[Γt,Z1p,Z28,or_false,Z3p]at h;rcases h with ⟨_,rfl⟩|⟨_,rfl⟩
 ·simp[dbC,Lib.deBruijn64tab]
 ·exact hΓc 1 arC (by simp[Γc])
theorem hct:∀g cs,(g,cs)∈Γc->(g,cs)∈Γt:=by intro g cs h;simp only[Γc,Z1p,Z28,or_false,Z3p]at h;obtain⟨rfl,rfl⟩:=h;simp[Γt]
theorem APure.t{r:FV}(h:APure Tryz.prog Γc g args r):APure Tryz.prog Γt g args r:=h.moreG hct hΓt
theorem tz_ok(x:Nat)(hx:x < 18446744073709551616)(h0:x≠0):APure Tryz.prog Γt 128 [.one (cW x)] (.one (int (Lib.ctz 64 x:Nat))):=by
 obtain⟨hlow,hk⟩:=Qzx 64 x h0 hx;obtain⟨hi,htab⟩:=Lib.deBruijn64_at _ hk;intro ou;refine zwk 14 Tryz.func128 fun hou=>?_;refine zA ?_;refine Qyl rfl (fun hb=>?_) (fun hb=>?_)
 ·exact absurd (by simpa using hb) h0
 obtain⟨k,hkk⟩:∃k,k=Lib.ctz 64 x:=⟨_,rfl⟩;rw[←hkk]at hlow hk hi htab;have e1:IntKind.u64.wrap (-(x:Int))=((18446744073709551616 - x:Nat):Int):=by rw[IntKind.wrap_u64];omega
 have e2:IntKind.u64.wrap (((2 ^ k:Nat):Int) * 285870213051353865) / 2 ^ (58:Int).toNat=((2 ^ k * 285870213051353865 % 18446744073709551616 / 288230376151711744:Nat):Int):=by rw[IntKind.wrap_u64,show (2:Int) ^ (58:Int).toNat=288230376151711744 from rfl];generalize 2 ^ k=p;omega
 obtain⟨m,hm⟩:∃m,m=2 ^ k * 285870213051353865 % 18446744073709551616 / 288230376151711744:=⟨_,rfl⟩;rw[←hm]at e2 hi htab;refine zA ?_;refine zS (Qun rfl rfl) ?_;rw[e1];refine zS (Qtt (a:=x) (b:=18446744073709551616 - x) hx zoy rfl rfl rfl) ?_;rw[show x &&& (18446744073709551616 - x)=2 ^ k from hlow];refine zS (Qum rfl rfl rfl) ?_;refine zS (AStep.shr rfl rfl rfl zdy zdy) ?_;rw[e2];have hlen:dbC.length=64:=by simp[dbC,Lib.deBruijn64tab]
 refine zS (Qup (m:=64) (e:=5) (tj:=ti5) tabOk rfl zky rfl rfl rfl zoy zoy) ?_;have hget:dbC[m]?=some (.lit (.int .u8 (k:Int))):=by
  have h1:m < Lib.deBruijn64tab.length:=by simpa[Lib.deBruijn64tab]using hi
  rw[Z0o,Z0t h1]at htab;simp only[dbC,Z0w,Z0t h1,Z3m];simp only[Z3i]at htab;rw[htab]
 refine zS (Qsl tabOk rfl rfl rfl rfl rfl (c:=.lit (.int .u8 (k:Int))) (by rw[Qzv,show ti5.size=1 from rfl,Z36,Z0s];exact hget)) ?_;refine zS (Qrx rfl rfl rfl rfl zI) ?_;refine zA ?_;rw[←hkk];exact Qz0 rfl (.refl _) zsy hou rfl
end Go.Proofs.YtlmokgooijbcdaaGreatDoor
namespace Go.CoreX
def Bit (s:List Nat)(f:Nat):Prop:=(s.getD (f / 64) 0).testBit (f % 64)=true
theorem Qk1(w:Nat)(hw:w < 18446744073709551616):∀n∈Q1w w,n < 64/\w.testBit n=true:=by
 induction w using Nat.strongRecOn with
 |_ w ih=>
  intro n hn;rw[Q1w]at hn;split at hn
  ·simp at hn
  ·rename_i h0;obtain⟨h1,h2⟩:=Qzx 64 w h0 hw;have hle:w &&& (w - 1)<=w - 1:=Z2u;rcases Z1p.1 hn with rfl|hn
   ·refine⟨h2,?_⟩;have h3:(w &&& (2 ^ 64 - w)).testBit (Lib.ctz 64 w)=true:=by rw[h1];simp
    rw[Z39,Qzc]at h3;exact h3.1
   ·obtain⟨g1,g2⟩:=ih _ zoy zoy n hn;rw[Z39,Qzc]at g2;exact⟨g1,g2.1⟩
theorem Qc1:∀(s:List Nat)(k:Nat),(∀w∈s,w < 18446744073709551616)->∀f∈Q1x k s,64 * k<=f/\f / 64 - k < s.length/\(s.getD (f / 64 - k) 0).testBit (f % 64)=true
 |[],k,_,f,hf=>by simp[Q1x]at hf
 |w::s,k,hw,f,hf=>by
  simp only[Q1x,Z1m,Z1w]at hf;rcases hf with ⟨n,hn,rfl⟩|hf
  ·obtain⟨h1,h2⟩:=Qk1 w (hw w Z1r) n hn;rw[show (64 * k+n) / 64 - k=0 by omega,show (64 * k+n) % 64=n by omega];exact⟨by omega,by simp,h2⟩
  ·obtain⟨h1,h2,h3⟩:=Qc1 s (k+1) (fun w hw2=>hw w (Z1q _ hw2)) f hf;rw[show f / 64 - k=(f / 64 - (k+1))+1 by omega];exact⟨by omega,by simpa using h2,by simpa using h3⟩
theorem Qf4{s:List Nat}(hw:∀w∈s,w < 18446744073709551616)(hf:f∈elems s):f < 64 * s.length/\Bit s f:=by obtain⟨_,h2,h3⟩:=Qc1 s 0 hw f hf;exact⟨by omega,by simpa[Bit]using h3⟩
theorem Q80(a b:List Nat)(h:a.length=b.length):(orL a b).length=a.length:=by simp[orL,h]
theorem orL_get(a b:List Nat)(h:a.length=b.length)(j:Nat):(orL a b).getD j 0=a.getD j 0 ||| b.getD j 0:=by
 unfold orL;rw[Z0o,Z0o,Z0o,List.getElem?_zipWith];by_cases hj:j < a.length
 ·rw[Z0t hj,Z0t (h▸hj)];rfl
 ·rw[Z0u zoy,Z0u zoy];rfl
theorem orL_bit(h:a.length=b.length)(hf:Bit (orL a b) f):Bit a f∨Bit b f:=by unfold Bit at hf ⊢;rw[orL_get a b h,Nat.testBit_or,Qzk]at hf;exact hf
theorem orL_lt(ha:∀w∈a,w < 18446744073709551616)(hb:∀w∈b,w < 18446744073709551616):∀w∈orL a b,w < 18446744073709551616:=by
 intro w hw;unfold orL at hw;obtain⟨j,hj⟩:=Z1v.1 hw;rw[List.getElem?_zipWith]at hj;cases h1:a[j]? with
 |none=>rw[h1]at hj;simp at hj
 |some x=>
  cases h2:b[j]? with
  |none=>rw[h1,h2]at hj;simp at hj
  |some y=>
   rw[h1,h2]at hj;simp only[Z3o]at hj;subst hj;exact Nat.or_lt_two_pow (n:=64) (ha x (Z1y h1)) (hb y (Z1y h2))
inductive Ref where
 |node (i:Nat)
 |idn (x:Int)
 |heap
 |again
 deriving DecidableEq
abbrev FSt:=(Ref->List Nat)×Bool
def updR (σ:Ref->List Nat)(r:Ref)(s:List Nat):Ref->List Nat:=fun q=>if q=r then s else σ q
theorem Q7u(σ:Ref->List Nat)(r:Ref)(s:List Nat):updR σ r s r=s:=by simp[updR]
theorem Q6k(σ:Ref->List Nat){r q:Ref}(s:List Nat)(h:q≠r):updR σ r s q=σ q:=by simp[updR,h]
def intoF (p:Ref×Ref)(s:FSt):FSt:=(updR s.1 p.1 (orL (s.1 p.1) (s.1 p.2)),s.2||!(orL (s.1 p.1) (s.1 p.2)==s.1 p.1))
def Q13 (l:List (Ref×Ref))(s:FSt):FSt:=l.foldl (fun s p=>intoF p s) s
theorem Qbf(l r:List (Ref×Ref))(s:FSt):Q13 (l++r) s=Q13 r (Q13 l s):=by simp[Q13,Z0k]
theorem Q7x(p:Ref×Ref)(s:FSt):Q13 [p] s=intoF p s:=rfl
def nodeR (k:Int):Ref:=.node k.toNat
def Q3i (binds kids:List Int)(n:Nat):List (Ref×Ref):=(List.range n).map fun k=>(.idn (binds.getD k 0),nodeR (kids.getD k 0))
def Q22 (e:List Ex)(i:Nat)(args:List Int)(f:Nat):List (Ref×Ref):=
 if f=e.length then (if args.length=1 then [(.heap,nodeR (args.getD 0 0)),(.node i,.heap)]else [])
 else match e[f]? with
 |none=>[]
 |some y=>if y.binds.length=args.length then Q3i y.binds args args.length++[(.node i,nodeR (y.kids.getD 0 0))]else []
def Q5t (x:Ex)(k:Nat)(b:List Int)(n:Nat):List (Ref×Ref):=(List.range n).map fun j=>(.idn (b.getD j 0),if x.op=13/\k=0 then nodeR (x.kids.getD 0 0)else if x.op=13/\j=1 then .again else .heap)
def Q4o (i:Nat)(x:Ex)(n:Nat):List (Ref×Ref):=(List.range n).flatMap fun k=>Q5t x k (x.alts.getD k ⟨0,[]⟩).binds (x.alts.getD k ⟨0,[]⟩).binds.length++[(.node i,nodeR (x.kids.getD (1+k) 0))]
def Q3f (x:Ex)(n:Nat):List (Ref×Ref):=(List.range n).map fun j=>(.heap,nodeR (x.kids.getD j 0))
def Q31 (i:Nat)(x:Ex):List (Ref×Ref):=if x.n=8 then [(.heap,nodeR (x.kids.getD 1 0))]else if x.n=11 then [(.heap,nodeR (x.kids.getD 2 0))]else if x.n=10 then [(.node i,.heap)]else []
def opsOf (e:List Ex)(i:Nat)(x:Ex)(σ:Ref->List Nat):List (Ref×Ref):=
 if x.op=0 then [(.node i,.idn x.n)] else
 if x.op=3 then (elems (σ (nodeR (x.kids.getD 0 0)))).flatMap (Q22 e i (x.kids.drop 1)) else
 if x.op=4∨x.op=5 then Q3i x.binds x.kids x.binds.length++[(.node i,nodeR (x.kids.getD (x.kids.length - 1) 0))] else
 if x.op=6∨x.op=9 then Q3f x x.kids.length else
 if x.op=7∨x.op=13 then Q4o i x x.alts.length++(if x.op=13 then [(.heap,.node i)]else []) else
 if x.op=8 then Q31 i x else
 if x.op=11 then [(.heap,nodeR (x.kids.getD 1 0))] else
 if x.op=12 then [(.heap,nodeR (x.kids.getD 0 0)),(.node i,.heap)] else
 if x.op=10 then [(.node i,.heap)]else []
def nodeF (e:List Ex)(s:FSt)(i:Nat):FSt:=Q13 (opsOf e i (e.getD i ⟨0,0,[],[],[]⟩) s.1) s
def passN (e:List Ex)(n:Nat)(s:FSt):FSt:=(List.range n).foldl (nodeF e) s
def passF (e:List Ex)(σ:Ref->List Nat):FSt:=passN e e.length (σ,false)
def words (e:List Ex):Nat:=e.length / 64+1
def Q16 (e:List Ex):List Nat:=List.replicate (words e) 0
def Q58 (e:List Ex)(i:Nat):List Nat:=(Q16 e).set (i / 64) (2 ^ (i % 64))
def Q1i (e:List Ex):Ref->List Nat
 |.node i=>if (e.getD i ⟨0,0,[],[],[]⟩).op=2 then Q58 e i else Q16 e
 |.idn _=>Q16 e
 |.heap=>Q16 e
 |.again=>Q58 e e.length
def Q0q (e:List Ex):Nat->FSt
 |0=>(Q1i e,true)
 |n+1=>if (Q0q e n).2=true then passF e (Q0q e n).1 else Q0q e n
theorem Q6i(b k:List Int)(n:Nat):Q3i b k (n+1)=Q3i b k n++[(.idn (b.getD n 0),nodeR (k.getD n 0))]:=by simp[Q3i,Z2a]
theorem Q4e(x:Ex)(k:Nat)(b:List Int)(n:Nat):Q5t x k b (n+1)=Q5t x k b n++[(.idn (b.getD n 0),if x.op=13/\k=0 then nodeR (x.kids.getD 0 0)else if x.op=13/\n=1 then .again else .heap)]:=by simp[Q5t,Z2a]
theorem Qgs(i:Nat)(x:Ex)(n:Nat):Q4o i x (n+1)=Q4o i x n++(Q5t x n (x.alts.getD n ⟨0,[]⟩).binds (x.alts.getD n ⟨0,[]⟩).binds.length++[(.node i,nodeR (x.kids.getD (1+n) 0))]):=by simp[Q4o,Z2a]
theorem Q8y(x:Ex)(n:Nat):Q3f x (n+1)=Q3f x n++[(.heap,nodeR (x.kids.getD n 0))]:=by simp[Q3f,Z2a]
theorem Q7z(e:List Ex)(n:Nat)(s:FSt):passN e (n+1) s=nodeF e (passN e n s) n:=by simp[passN,Z2a]
end Go.CoreX
namespace Go.Proofs.YtlmokgooijbcdaaGreatDoor
def WOk (L:Nat)(s:List Nat):Prop:=s.length=L/\∀w∈s,w < 18446744073709551616
def midL (a b:List Nat)(j:Nat):List Nat:=orL (a.take j) (b.take j)++a.drop j
theorem Qpc(h:a.length=b.length)(j:Nat):(midL a b j).length=a.length:=by unfold midL;rw[Z12,Q80 _ _ (by simp[h]),Z1c,Z14];omega
theorem Qm2(a b:List Nat):midL a b 0=a:=by simp[midL,orL]
theorem Qpe(h:a.length=b.length):midL a b a.length=orL a b:=by unfold midL;rw[Z2j,h,Z2j,←h,List.drop_length,Z02]
theorem Qhm(h:a.length=b.length){x y:Nat}(hx:a[j]?=some x)(hy:b[j]?=some y):orL (a.take (j+1)) (b.take (j+1))=orL (a.take j) (b.take j)++[x ||| y]:=by rw[Q0h hx,Q0h hy];unfold orL;rw[List.zipWith_append (by simp[h])];rfl
theorem Qpd(h:a.length=b.length){x:Nat}(hx:a[j]?=some x):(midL a b j)[j]?=some x:=by
 unfold midL;have hl:(orL (a.take j) (b.take j)).length=j:=by rw[Q80 _ _ (by simp[h]),Z1c];have:=(Z0v.1 hx).1;omega
 rw[Z0q zoy,hl,Z37,Z0s];simpa using hx
theorem Qpb(h:a.length=b.length){x y:Nat}(hx:a[j]?=some x)(hy:b[j]?=some y):(midL a b j).set j (x ||| y)=midL a b (j+1):=by
 have hl:(orL (a.take j) (b.take j)).length=j:=by rw[Q80 _ _ (by simp[h]),Z1c];have:=(Z0v.1 hx).1;omega
 have hd:a.drop j=x::a.drop (j+1):=by obtain⟨h1,h2⟩:=Z0v.1 hx;rw[Z07 h1,h2]
 unfold midL;rw[Qhm h hx hy,Z2d _ _ zoy,hl,Z37,hd];simp
theorem Qh1{s:List Nat}{w:Nat}(h:s[j]?=some w):(wC s)[j]?=some (cW w):=by simp[wC,h]
theorem Qki(s:List Nat)(j w:Nat):(wC s).set j (cW w)=wC (s.set j w):=by simp[wC,List.map_set]
@[simp] theorem wC_len (s:List Nat):(wC s).length=s.length:=by simp[wC]
@[simp] theorem ids_wC (p:Abs.Id->Prop) (s:List Nat):idsL p (wC s):=by
 unfold wC
 induction s with
 |nil=>simp
 |cons w s ih=>simp[cW,ih]
abbrev aS (L k:Nat):AC:=.arr (.o k) 1 0 L L
theorem Qpo(L:Nat)(hL:L<=1048576)(a b:List Nat)(ha:WOk L a)(hb:WOk L b)(ks k1 k2:Nat)(c0 c1 c2 c3 c4:AC)(mv:Bool)(ou:Outer)(hs:ou ks=some (.cells [c0,c1,c2,c3,c4,.lit (.bool mv)]))(h1:ou k1=some (.cells (wC a)))(h2:ou k2=some (.cells (wC b)))
  (n1:k1≠ks) (n2:k2≠ks) (n3:k1≠k2):
  AFn Tryz.prog Γt 166 [.one (.ptr (.o ks) 0),.one (aS L k1),.one (aS L k2)] ou (fun r ou'=>r=.tup []/\ou' ks=some (.cells [c0,c1,c2,c3,c4,.lit (.bool (mv||!(orL a b==a)))])/\ou' k1=some (.cells (wC (orL a b)))/\(∀k,k≠ks->k≠k1->ou' k=ou k)/\OuOk ou'):=by
 have hab:a.length=b.length:=by rw[ha.1,hb.1]
 refine zwk 37 Tryz.func166 fun hou=>?_;refine zA ?_;refine Qre hΓt (α:=Nat×Outer) (fun c=>[(10,.one (int c.1)),(9,.one (int (L:Nat))),(8,.one (aS L k2)),(0,.one (.ptr (.o ks) 0)),(1,.one (aS L k1))]) (fun c=>⟨0,[],c.2⟩)
  (fun m c=>(c.1<=L/\c.2 ks=some (.cells [c0,c1,c2,c3,c4,.lit (.bool (mv||!(orL (a.take c.1) (b.take c.1)==a.take c.1)))])/\c.2 k1=some (.cells (wC (midL a b c.1)))/\(∀k,k≠ks->k≠k1->c.2 k=ou k)/\OuOk c.2)/\m=L - c.1)
  (a0:=(0,ou)) (ρ:=_root_.id) ⟨⟨by omega,by simpa[orL]using hs,by rw[Qm2];exact h1,fun k _ _=>rfl,hou⟩,rfl⟩ (Qzw rfl zFS zsy zLO rfl rfl hou) fun m c hc=>?_
 obtain⟨j,ov⟩:=c;obtain⟨⟨hjl,hos,ho1,hoo,hov⟩,rfl⟩:=hc;dsimp only at hjl hos ho1 hoo hov;have ho2:ov k2=some (.cells (wC b)):=by rw[hoo k2 n2 (Z3d n3)];exact h2
 refine zA ?_;refine Qyl rfl (fun hc=>?_) (fun hc=>?_)
 ·have hlt:j < L:=by have:=of_decide_eq_true hc;omega
  obtain⟨x,hx⟩:=Q00 (show j < a.length by rw[ha.1];exact hlt);obtain⟨y,hy⟩:=Q00 (show j < b.length by rw[hb.1];exact hlt);have hxl:=ha.2 x (Z1y hx);have hyl:=hb.2 y (Z1y hy);have hm:=Qpd hab hx;obtain⟨md,hmd⟩:∃md,md=midL a b j:=⟨_,rfl⟩;rw[←hmd]at ho1 hm;have hmdl:md.length=L:=by rw[hmd,Qpc hab,ha.1]
  have hset:md.set j (x ||| y)=midL a b (j+1):=by rw[hmd];exact Qpb hab hx hy
  have hjm:j < md.length:=by omega
  have hg2:(wC b)[0 * 1+j * 1]?=some (cW y):=by rw[Z3c,Z3a,Z36];exact Qh1 hy
  have hg1:(wC md)[0 * 1+j * 1]?=some (cW x):=by rw[Z3c,Z3a,Z36];exact Qh1 hm
  have hend:(orL (a.take (j+1)) (b.take (j+1))==a.take (j+1))=((orL (a.take j) (b.take j)==a.take j)&&(x ||| y==x)):=by
   rw[Qhm hab hx hy,Q0h hx];have hl:(orL (a.take j) (b.take j)).length=(a.take j).length:=Q80 _ _ (by simp[hab]);rw[Qzd];simp only[beq_iff_eq,Qzc];constructor
   ·intro h;have h3:=List.append_inj h hl;exact⟨h3.1,by simpa using h3.2⟩
   ·rintro⟨h3,h4⟩;rw[h3,h4]
  refine zA ?_;refine zS (Qsb (n:=j) tabOk rfl rfl rfl rfl rfl rfl rfl hlt) ?_;refine zS (zLD rfl rfl ho2 hg2) ?_;refine zA ?_;refine zdx 10 [(2,.one (.ptr (.o k1) (0 * 1+j * 1))),(3,.one (cW x)),(5,.one (cW (x ||| y))),(8,.one (.ptr (.o k1) (0 * 1+j * 1))),(9,.one (cW x))] ?_ ?_
  ·refine .step rfl (zHP (Qsb (n:=j) tabOk rfl rfl rfl rfl rfl rfl rfl hlt)) ?_;refine .step rfl (zHP (zLD rfl rfl ho1 hg1)) ?_;refine .step rfl (zHP (Qul hxl hyl rfl rfl rfl)) ?_;refine .step rfl (zHP (Qsb (n:=j) tabOk rfl rfl rfl rfl rfl rfl rfl hlt)) ?_;exact .step rfl (zHP (zLD rfl rfl ho1 hg1)) .nil
  refine zA ?_;refine Qyl rfl (fun hb=>?_) (fun hb=>?_)
  ·have hxy:(x ||| y==x)=false:=by
    have h3:((x ||| y:Nat):Int)≠((x:Nat):Int):=by simpa using hb
    rw[beq_eq_false_iff_ne];exact fun h=>h3 (by rw[h])
   refine zA ?_;refine zS (Qsb (n:=j) tabOk rfl rfl rfl rfl rfl rfl rfl hlt) ?_;refine zS (zLD rfl rfl ho1 hg1) ?_;refine zA ?_;refine zS (Qul hxl hyl rfl rfl rfl) ?_;refine zS (Qsb (n:=j) tabOk rfl rfl rfl rfl rfl rfl rfl hlt) ?_;refine Qyy (c:=cW (x ||| y)) tabOk rfl rfl rfl rfl rfl rfl rfl ho1 zuy ?_;rw[Q0n,show (wC md).set (0 * 1+j * 1) (cW (x ||| y))=wC (midL a b (j+1)) by rw[Z3c,Z3a,Z36,Qki,hset]];obtain⟨o1,hO1⟩:∃o1,o1=updO ov k1 (.cells (wC (midL a b (j+1)))):=⟨_,rfl⟩;rw[←hO1];have hos1:o1 ks=some (.cells [c0,c1,c2,c3,c4,.lit (.bool (mv||!(orL (a.take j) (b.take j)==a.take j)))]):=by rw[hO1,Q02 _ n1];exact hos
   have Qx0:OuOk o1:=by rw[hO1];exact Q0m hov zsy
   refine zA ?_;refine Qyy (c:=.lit (.bool true)) tabOk rfl rfl rfl rfl rfl rfl rfl hos1 zsy ?_;rw[Q0n];have Qvp:OuOk (updO o1 ks (.cells ([c0,c1,c2,c3,c4,.lit (.bool (mv||!(orL (a.take j) (b.take j)==a.take j)))].set 5 (.lit (.bool true))))):=Q0m Qx0 (by have:=Qx0 ks _ hos1;simpa using this);refine zM ?_;refine cInv ⟨L - (j+1),(j+1,updO o1 ks (.cells ([c0,c1,c2,c3,c4,.lit (.bool (mv||!(orL (a.take j) (b.take j)==a.take j)))].set 5 (.lit (.bool true))))),_root_.id,by omega,⟨⟨by omega,?_,?_,fun k hk hk1=>?_,Qvp⟩,rfl⟩,Qzw rfl zFS zsy zLO rfl rfl Qvp⟩
   ·dsimp only;rw[Q04,hend,hxy];simp
   ·dsimp only;rw[Q02 _ (Z3d n1),hO1,Q04]
   ·dsimp only;rw[Q02 _ (Z3d hk),hO1,Q02 _ (Z3d hk1)];exact hoo k hk hk1
  ·have hxy:(x ||| y==x)=true:=by
    have h3:((x ||| y:Nat):Int)=((x:Nat):Int):=by simpa using hb
    rw[beq_iff_eq];exact Int.ofNat.inj h3
   have Qvr:midL a b (j+1)=md:=by rw[←hset,beq_iff_eq.1 hxy];obtain⟨h1,h2⟩:=Z0v.1 hm;rw[←h2];exact List.set_getElem_self h1
   refine zM ?_;refine cInv ⟨L - (j+1),(j+1,ov),_root_.id,by omega,⟨⟨by omega,?_,?_,hoo,hov⟩,rfl⟩,Qzw rfl zFS zsy zLO rfl rfl hov⟩
   ·dsimp only;rw[hend,hxy,Bool.and_true];exact hos
   ·dsimp only;rw[Qvr];exact ho1
 ·have hje:j=L:=by have:=of_decide_eq_false hc;omega
  subst hje;refine zA ?_;refine Qst rfl (Z46 rfl) zsy hov ⟨rfl,?_,?_,hoo,hov⟩
  ·have h3:=hos;rw[Z2k (by rw[ha.1];exact Z30 _),Z2k (by rw[hb.1];exact Z30 _)]at h3;exact h3
  ·rw[←Qpe hab,ha.1];exact ho1
theorem Q9j(e:List Ex)(he:e.length<=1048576)(ks:Nat)(c1 c2 c3 c4 c5:AC)(ou:Outer)(hs:ou ks=some (.cells [.sl 5 (e.map cEx),c1,c2,c3,c4,c5])):
  AFn Tryz.prog Γt 126 [.one (.ptr (.o ks) 0)] ou (fun r ou'=>∃k,r=.one (aS (words e) k)/\NewO ou ou' [(k,.cells (wC (Q16 e)))]):=by
 refine zwk 11 Tryz.func126 fun hou=>?_;repeat' first|refine zN ?_|((with_reducible refine oj ?_);first|refine zix ?_|refine zow rfl rfl hs ?_)
 have hq:((e.map cEx).length:Int).tdiv 64=((e.length / 64:Nat):Int):=by rw[Z16,Qzu zoy];omega
 refine zS (AStep.quo rfl rfl rfl zdy (Q2m (by rw[hq];omega) (by rw[hq];omega))) ?_;rw[hq];refine zS (Qr0 (r:=((words e:Nat):Int)) rfl rfl rfl (.inl ⟨rfl,by unfold words;omega⟩) (Q2m zoy (by unfold words;omega))) ?_;have hw:words e<=1048576:=by unfold words;omega
 refine zS (Qsa tabOk rfl rfl rfl rfl rfl rfl rfl rfl (by show 8 * words e<=_;omega) zoy) ?_;have hci:idsL isO (wC (Q16 e)):=ids_wC _ _;have Qx4:List.replicate (words e) (AC.lit (.int .u64 0))=wC (Q16 e):=by simp[wC,Q16,cW]
 rw[Qx4];refine Qyw [0] rfl zdy hou fun q hq=>⟨[(10,.one (aS (words e) q))],[],[.cells (wC (Q16 e))],.cons rfl rfl .nil,.nil,.cons rfl ?_ .nil,?_⟩
 ·exact Qys (fun i hi=>by cases i with|l q=>exact hi.elim|o q=>rfl) _ hci
 have hN:NewO ou (ouAdd ou q [.cells (wC (Q16 e))]) [(q,.cells (wC (Q16 e)))]:=NewO.add hq hou hci;refine zA ?_;exact Qst rfl (Z46 rfl) zsy hN.ok ⟨q,rfl,hN⟩
end Go.Proofs.YtlmokgooijbcdaaGreatDoor
namespace Go.Abs
section
variable {E:Env}{o:Oper}{fr:Fr}{σ:St}{t yt el:TypeId}{x y:Operand}
theorem Quq{i:Id}{s off len cap:Nat}(ho:o.op=.binOp .eql t x y yt)(ht:E.P.underlying t=some (.slice el))(hx:aEval E.Γ fr x=some (.one (.arr i s off len cap)))(hy:aEval E.Γ fr y=some (.one (.lit (.slice none 0 0)))):AStep E o fr σ (.one (.lit (.bool false))) σ:=by refine Qqz fun F w C tmps hi hf=>⟨.bool false,?_,rfl,rfl⟩;have h1:=Q01 (a:=⟨tmps,E.ds⟩) hi hf hx;have h2:=Q01 (a:=⟨tmps,E.ds⟩) hi hf hy;simp only[RF,R]at h1 h2;unfold execOp;simp only[ho,h1.2.1,h2.1,eqGuard_at_slice,Z3s,Z3t,Z3r];simp[binOp,run_equal_slice_nil _ _ _ _ _ _ ht]
theorem Qur(ho:o.op=.binOp .eql t x y yt)(ht:E.P.underlying t=some (.slice el))(hx:aEval E.Γ fr x=some (.one (.lit (.slice none 0 0))))(hy:aEval E.Γ fr y=some (.one (.lit (.slice none 0 0)))):AStep E o fr σ (.one (.lit (.bool true))) σ:=by refine Qqz fun F w C tmps hi hf=>⟨.bool true,?_,rfl,rfl⟩;have h1:=Q01 (a:=⟨tmps,E.ds⟩) hi hf hx;have h2:=Q01 (a:=⟨tmps,E.ds⟩) hi hf hy;simp only[RF,R]at h1 h2;unfold execOp;simp only[ho,h1.1,h2.1,eqGuard_at_slice,Z3s,Z3t,Z3r];simp[binOp,run_equal_slice_nil _ _ _ _ _ _ ht]
end
end Go.Abs
namespace Go.Proofs.YtlmokgooijbcdaaGreatDoor
structure Lay where
 ks:Nat
 km:Nat
 kh:Nat
 ka:Nat
 nk:List Nat
 ik:Int->Option Nat
def Lay.key (y:Lay):Ref->Option Nat
 |.node i=>y.nk[i]?
 |.idn x=>y.ik x
 |.heap=>some y.kh
 |.again=>some y.ka
def eA (L:Nat)(k:Nat):FV:=.one (aS L k)
def nC (L:Nat)(nk:List Nat):List (List AC):=nk.map fun k=>[aS L k]
def solC (e:List Ex)(y:Lay)(mv:Bool):List AC:=[.sl 5 (e.map cEx),.sl 1 (nC (words e) y.nk),.mp (.o y.km),aS (words e) y.kh,aS (words e) y.ka,.lit (.bool mv)]
structure FlR (e:List Ex)(y:Lay)(s:FSt)(ou:Outer):Prop where
 so:ou y.ks=some (.cells (solC e y s.2))
 mo:∃ck l,ou y.km=some (.map ck (encI (eA (words e)) l))/\IMOk y.ik ck l
 ro:∀r k,y.key r=some k->ou k=some (.cells (wC (s.1 r)))
 zo:∀x,y.ik x=none->s.1 (.idn x)=Q16 e
 inj:∀r q k,y.key r=some k->y.key q=some k->r=q
 ns:∀r k,y.key r=some k->k≠y.ks/\k≠y.km
 sm:y.ks≠y.km
 w:∀r,WOk (words e) (s.1 r)
 ok:OuOk ou
def Lay.has (y:Lay)(k:Nat):Prop:=k=y.ks∨k=y.km∨∃r,y.key r=some k
def Lay.withI (y:Lay)(ik:Int->Option Nat):Lay:={ y with ik:=ik }
structure FStep (e:List Ex)(y:Lay)(ou:Outer)(s':FSt)(y':Lay)(ou':Outer):Prop where
 fr:FlR e y' s' ou'
 same:∃ik,y'=y.withI ik
 ext:∀x k,y.ik x=some k->y'.ik x=some k
 new:∀x k,y'.ik x=some k->y.ik x=some k∨ou k=none
 old:∀k,¬y.has k->ou k≠none->ou' k=ou k
theorem FStep.keyExt{e:List Ex}{y y':Lay}{s':FSt}(h:FStep e y ou s' y' ou'):∀r k,y.key r=some k->y'.key r=some k:=by
 obtain⟨ik,rfl⟩:=h.same;intro r k hk;cases r with
 |idn x=>exact h.ext x k hk
 |node i=>exact hk
 |heap=>exact hk
 |again=>exact hk
theorem FlR.none_ne{e:List Ex}{y:Lay}{s:FSt}(h:FlR e y s ou)(hk:y.has k):ou k≠none:=by
 rcases hk with rfl|rfl|⟨r,hr⟩
 ·rw[h.so];simp
 ·obtain⟨_,_,h1,_⟩:=h.mo;rw[h1];simp
 ·rw[h.ro r k hr];simp
theorem FStep.refl{e:List Ex}{y:Lay}{s:FSt}(h:FlR e y s ou):FStep e y ou s y ou:=⟨h,⟨y.ik,rfl⟩,fun _ _ hk=>hk,fun _ _ hk=>.inl hk,fun _ _ _=>rfl⟩
theorem FStep.has_ext{e:List Ex}{y y':Lay}{s':FSt}(h:FStep e y ou s' y' ou')(hk:y'.has k):y.has k∨ou k=none:=by
 have hs:=h.same;obtain⟨ik,rfl⟩:=hs;rcases hk with rfl|rfl|⟨r,hr⟩
 ·exact .inl (.inl rfl)
 ·exact .inl (.inr (.inl rfl))
 ·cases r with
  |idn x=>
   rcases h.new x k hr with h1|h1
   ·exact .inl (.inr (.inr ⟨.idn x,h1⟩))
   ·exact .inr h1
  |node i=>exact .inl (.inr (.inr ⟨.node i,hr⟩))
  |heap=>exact .inl (.inr (.inr ⟨.heap,hr⟩))
  |again=>exact .inl (.inr (.inr ⟨.again,hr⟩))
theorem FStep.trans{e:List Ex}{y y1 y2:Lay}{s s1 s2:FSt}(h0:FlR e y s ou)(h:FStep e y ou s1 y1 ou1)(k:FStep e y1 ou1 s2 y2 ou2):FStep e y ou s2 y2 ou2 where
 fr:=k.fr
 same:=by obtain⟨a,rfl⟩:=h.same;obtain⟨b,rfl⟩:=k.same;exact⟨b,rfl⟩
 ext:=fun x q hq=>k.ext x q (h.ext x q hq)
 new:=fun x q hq=>by
  rcases k.new x q hq with h1|h1
  ·exact h.new x q h1
  ·right;cases hx:ou q with
   |none=>rfl
   |some o=>
    exfalso;by_cases hh:y.has q
    ·have h2:y1.has q:=by
      have hs:=h.same;obtain⟨a,rfl⟩:=hs;rcases hh with rfl|rfl|⟨r,hr⟩
      ·exact .inl rfl
      ·exact .inr (.inl rfl)
      ·exact .inr (.inr ⟨r,h.keyExt r q hr⟩)
     exact h.fr.none_ne h2 h1
    ·rw[h.old q hh (by rw[hx];simp),hx]at h1;cases h1
 old:=fun q hq hne=>by
  have h1:=h.old q hq hne;rw[←h1];refine k.old q (fun hh=>?_) (by rw[h1];exact hne);rcases h.has_ext hh with h2|h2
  ·exact hq h2
  ·exact hne h2
theorem Q0x(e:List Ex)(he:e.length<=1048576)(y:Lay)(s:FSt)(ou:Outer)(h:FlR e y s ou)(p:Ref×Ref)(k1 k2:Nat)(h1:y.key p.1=some k1)(h2:y.key p.2=some k2)(hne:p.1≠p.2):
  AFn Tryz.prog Γt 166 [.one (.ptr (.o y.ks) 0),.one (aS (words e) k1),.one (aS (words e) k2)] ou (fun r ou'=>r=.tup []/\FStep e y ou (intoF p s) y ou'):=by
 have hk12:k1≠k2:=fun e1=>hne (h.inj _ _ _ h1 (e1▸h2));refine (Qpo (words e) (by unfold words;omega) (s.1 p.1) (s.1 p.2) (h.w _) (h.w _) y.ks k1 k2 _ _ _ _ _ s.2 ou h.so (h.ro _ _ h1) (h.ro _ _ h2) (h.ns _ _ h1).1 (h.ns _ _ h2).1 hk12).mono fun r ou' hq=>?_;obtain⟨rfl,q1,q2,q3,q4⟩:=hq;have hlen:(s.1 p.1).length=(s.1 p.2).length:=by rw[(h.w _).1,(h.w _).1]
 refine⟨rfl,⟨q1,?_,fun r k hk=>?_,fun x hx=>?_,h.inj,h.ns,h.sm,fun r=>?_,q4⟩,⟨y.ik,rfl⟩,fun _ _ hk=>hk,fun _ _ hk=>.inl hk,fun k hk hn=>q3 k (fun e1=>hk (.inl e1)) fun e1=>hk (.inr (.inr ⟨p.1,e1▸h1⟩))⟩
 ·obtain⟨ck,l,m1,m2⟩:=h.mo;exact⟨ck,l,by rw[q3 _ (Z3d h.sm) (Z3d (h.ns _ _ h1).2)];exact m1,m2⟩
 ·by_cases hr:r=p.1
  ·subst hr;obtain rfl:k=k1:=Z3n (hk.symm.trans h1);rw[q2];simp[intoF,Q7u]
  ·rw[q3 k (h.ns _ _ hk).1 (fun e1=>hr (h.inj _ _ _ hk (e1▸h1))),h.ro r k hk];simp[intoF,Q6k _ _ hr]
 ·have hr:Ref.idn x≠p.1:=fun e1=>by rw[←e1]at h1;have h3:y.ik x=some k1:=h1;rw[hx]at h3;cases h3
  simp only[intoF,Q6k _ _ hr];exact h.zo x hx
 ·by_cases hr:r=p.1
  ·subst hr;simp only[intoF,Q7u];exact⟨by rw[Q80 _ _ hlen];exact (h.w _).1,orL_lt (h.w _).2 (h.w _).2⟩
  ·simp only[intoF,Q6k _ _ hr];exact h.w r
theorem FlR.put{e:List Ex}{y:Lay}{s:FSt}(h:FlR e y s ou){x:Int}{ck:Nat}{l:List (Nat×Int×Nat)}(hx:y.ik x=none)(hN:NewO ou ou1 [(k,.cells (wC (Q16 e)))])(hm:ou2=updO ou1 y.km (.map ck (encI (eA (words e)) l)))(hl:IMOk (setF y.ik x k) ck l)(hok:OuOk ou2):FStep e y ou s (y.withI (setF y.ik x k)) ou2:=by
 have hk0:ou k=none:=hN.new k (by simp[keys]);have hkk:ou1 k=some (.cells (wC (Q16 e))):=hN.own (k,_) Z1r;have hold:∀q,q≠k->ou1 q=ou q:=fun q hq=>hN.old q (by simpa[keys]using hq);have hne:∀q,y.has q->q≠k:=fun q hq e1=>h.none_ne hq (e1▸hk0);have hkey:∀r q,(y.withI (setF y.ik x k)).key r=some q->(r=.idn x/\q=k)∨(r≠.idn x/\y.key r=some q):=fun r q hq=>by
  cases r with
  |idn z=>
   by_cases hz:z=x
   ·subst hz;simp[Lay.key,Lay.withI,setF]at hq;exact .inl ⟨rfl,hq.symm⟩
   ·right;refine⟨fun e1=>hz (by cases e1;rfl),?_⟩;simpa[Lay.key,Lay.withI,setF,Z3d hz]using hq
  |node i=>exact .inr ⟨fun e1=>(by cases e1),hq⟩
  |heap=>exact .inr ⟨fun e1=>(by cases e1),hq⟩
  |again=>exact .inr ⟨fun e1=>(by cases e1),hq⟩
 have ho2:∀q,q≠y.km->ou2 q=ou1 q:=fun q hq=>by rw[hm,Q02 _ (Z3d hq)]
 have hmk:y.km≠k:=hne _ (.inr (.inl rfl));refine⟨⟨?_,⟨ck,l,by rw[hm];exact Q04 _ _ _,hl⟩,fun r q hq=>?_,fun z hz=>?_,fun r q m hr hq=>?_,fun r q hq=>?_,h.sm,h.w,hok⟩,⟨_,rfl⟩,fun z q hz=>?_,fun z q hz=>?_,fun q hq hn=>?_⟩
 ·show ou2 y.ks=_;rw[ho2 _ h.sm,hold _ (hne _ (.inl rfl))];exact h.so
 ·rcases hkey r q hq with ⟨rfl,rfl⟩|⟨_,h1⟩
  ·rw[ho2 _ (Z3d hmk),hkk,h.zo x hx]
  ·rw[ho2 _ (h.ns _ _ h1).2,hold _ (hne _ (.inr (.inr ⟨r,h1⟩)))];exact h.ro r q h1
 ·have hz:setF y.ik x k z=none:=hz;refine h.zo z ?_;by_cases hzx:z=x
  ·subst hzx;simp[setF]at hz
  ·simpa[setF,Z3d hzx]using hz
 ·rcases hkey r m hr with ⟨rfl,rfl⟩|⟨_,h1⟩
  ·rcases hkey q m hq with ⟨rfl,_⟩|⟨_,h2⟩
   ·rfl
   ·exact absurd rfl (hne _ (.inr (.inr ⟨q,h2⟩)))
  ·rcases hkey q m hq with ⟨rfl,rfl⟩|⟨_,h2⟩
   ·exact absurd rfl (hne _ (.inr (.inr ⟨r,h1⟩)))
   ·exact h.inj _ _ _ h1 h2
 ·rcases hkey r q hq with ⟨rfl,rfl⟩|⟨_,h1⟩
  ·exact⟨Z3d (hne _ (.inl rfl)),Z3d hmk⟩
  ·exact h.ns _ _ h1
 ·show setF y.ik x k z=some q;by_cases hzx:z=x
  ·subst hzx;rw[hx]at hz;cases hz
  ·simpa[setF,Z3d hzx]using hz
 ·have hz:setF y.ik x k z=some q:=hz;by_cases hzx:z=x
  ·subst hzx;simp[setF]at hz;exact .inr (hz▸hk0)
  ·left;simpa[setF,Z3d hzx]using hz
 ·rw[ho2 _ (fun e1=>hq (.inr (.inl e1))),hold _ (fun e1=>hn (by rw[e1];exact hk0))]
theorem Q4a(e:List Ex)(he:e.length<=1048576)(y:Lay)(s:FSt)(ou:Outer)(h:FlR e y s ou)(x:Int):
  AFn Tryz.prog Γt 167 [.one (.ptr (.o y.ks) 0),.one (int x)] ou (fun r ou'=>∃y' k,r=.one (aS (words e) k)/\FStep e y ou s y' ou'/\y'.key (.idn x)=some k):=by
 obtain⟨ck,l,hm,hl⟩:=h.mo;have hs:ou y.ks=some (.cells [.sl 5 (e.map cEx),.sl 1 (nC (words e) y.nk),.mp (.o y.km),aS (words e) y.kh,aS (words e) y.ka,.lit (.bool s.2)]):=h.so;refine zwk 25 Tryz.func167 fun hou=>?_;have hz:∀(w:World) (C:Ctx),RF w C (.one (.lit (.slice none 0 0))) (.slice none 0 0):=fun w C=>by simp only[RF,R];exact⟨trivial,rfl⟩
 repeat' first|refine zN ?_|((with_reducible refine oj ?_);first|refine zix ?_|refine zow rfl rfl hs ?_)
 cases hx:y.ik x with
 |some k=>
  refine zS (Qu3 (eA (words e)) (cm:=false) (v:=.one (aS (words e) k)) rfl Z40 Z42 rfl hm rfl zky hz hl (by rw[hx];rfl)) ?_;refine zS (Quq rfl Tryz.underlying180 rfl rfl) ?_;repeat' first|refine zN ?_|((with_reducible refine oj ?_);first|refine zix ?_|refine zow rfl rfl hs ?_)
  refine zS (Qu3 (eA (words e)) (cm:=false) (v:=.one (aS (words e) k)) rfl Z40 Z42 rfl hm rfl zky hz hl (by rw[hx];rfl)) ?_;refine zA ?_;exact Qst rfl (Z46 rfl) zsy hou ⟨y,k,rfl,FStep.refl h,hx⟩
 |none=>
  refine zS (Qu3 (eA (words e)) (cm:=false) (v:=.one (.lit (.slice none 0 0))) rfl Z40 Z42 rfl hm rfl zky hz hl (by rw[hx])) ?_;refine zS (Qur rfl Tryz.underlying180 rfl rfl) ?_;refine zA ?_;have hemp:=Q9j e he y.ks _ _ _ _ _ ou hs;have hfro:∀{k:Nat}{ov:Outer},NewO ou ov [(k,.cells (wC (Q16 e)))]->∀q o,ou q=some o->ov q=some o:=fun {k ov} hN q o hq=>by rw[hN.old q (fun hh=>by have h1:=hN.new q hh;rw[hq]at h1;cases h1)];exact hq
  refine Qtm tabOk 7 6 [(3,.one (.mp (.o y.km)))] (fun v σ=>∃(k:Nat) (ov:Outer),v=.one (aS (words e) k)/\NewO ou ov [(k,.cells (wC (Q16 e)))]/\σ=⟨0,[],ov⟩) follows zky rfl rfl zky zky rfl rfl rfl rfl ?_ ?_ ?_ ?_ ?_
  ·rintro v σ ⟨k,ov,_,_,rfl⟩;rfl
  ·exact .step rfl (zHP (zLD rfl rfl hs rfl)) .nil
  ·rintro v σ ⟨k,ov,rfl,hN,rfl⟩;exact .step rfl (zHP (zLD rfl rfl (hfro hN _ _ hs) rfl)) .nil
  ·exact .inl (.inr ⟨rfl,Q1m.call hΓt rfl rfl rfl rfl ziy hou hemp fun r o2 hq _ _=>by obtain⟨k,h1,h2⟩:=hq;exact⟨k,o2,h1,h2,rfl⟩⟩)
  ·rintro v σ ⟨k,ov,rfl,hN,rfl⟩;refine Qu2 (eA (words e)) rfl rfl rfl Z40 Z42 rfl (hfro hN _ _ hm) rfl rfl hl fun ck' l' hl'=>?_;rw[Q0n];obtain⟨o3,ho3⟩:∃o3,o3=updO ov y.km (.map ck' (encI (eA (words e)) l')):=⟨_,rfl⟩;rw[←ho3];have Qvl:OuOk o3:=by rw[ho3];exact Q0m hN.ok (fun x hx=>by obtain⟨p,_,rfl⟩:=Z1w.1 hx;simp[eA,FV.ids,AC.ids,isO])
   have hst:=h.put hx hN ho3 hl' Qvl;have hs3:o3 y.ks=some (.cells [.sl 5 (e.map cEx),.sl 1 (nC (words e) y.nk),.mp (.o y.km),aS (words e) y.kh,aS (words e) y.ka,.lit (.bool s.2)]):=by rw[ho3,Q02 _ (Z3d h.sm)];exact hfro hN _ _ hs
   have hm3:o3 y.km=some (.map ck' (encI (eA (words e)) l')):=by rw[ho3,Q04]
   repeat' first|refine zN ?_|((with_reducible refine oj ?_);first|refine zix ?_|refine zow rfl rfl hs3 ?_)
   refine zS (Qu3 (eA (words e)) (cm:=false) (v:=.one (aS (words e) k)) rfl Z40 Z42 rfl hm3 rfl zky hz hl' (by simp[setF,eA])) ?_;refine zA ?_;exact Qst rfl (Z46 rfl) zsy Qvl ⟨y.withI (setF y.ik x k),k,rfl,hst,by simp[Lay.key,Lay.withI,setF]⟩
end Go.Proofs.YtlmokgooijbcdaaGreatDoor
