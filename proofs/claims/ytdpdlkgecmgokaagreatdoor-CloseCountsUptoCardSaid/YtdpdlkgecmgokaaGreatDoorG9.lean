/- A machine's run maps to another one: rounds and runs. No condition. -/
import Derived.Test.YtdpdlkgecmgokaaGreatDoorG8
import Derived.LaidEqlPtr
set_option maxRecDepth 10000
set_option linter.unusedVariables false
set_option linter.unusedSimpArgs false
namespace Go.CoreX
section
variable {s:Sim}{G:GP}
def goX (fu:Int)(fns:List Fun):Nat->Ms->Option Rd
 |0,_=>none
 |g+1,m=>match Q0x fu fns m with
  |.next m'=>goX fu fns g m'
  |r=>some r
def outR:Rd->Nat
 |.done m _=>m.out.length
 |.trap _ m=>m.out.length
 |.next m=>m.out.length
 |.fuel=>1001
theorem Qh9{fu:Int}{m m':Ms}{n:Int}{l:List Vl}{v:Vl}(h:primM fu m n l=.ok (m',v)):m.out.length<=m'.out.length:=by
 unfold primM at h
 repeat' split at h
 all_goals try (simp only[bind,Except.bind,pure,Except.pure]at h;repeat' split at h)
 all_goals try (cases h;done)
 all_goals try (cases h;exact Nat.le_refl _)
 ·cases h;simp
 ·unfold Qd4 at h
  repeat' split at h
  all_goals try (cases h;done)
  cases h;exact Nat.le_refl _
 ·unfold Q9b at h
  simp only[bind,Except.bind,pure,Except.pure]at h
  repeat' split at h
  all_goals try (cases h;done)
  all_goals (cases h;exact Nat.le_refl _)
theorem Qf1{fu:Int}{m m':Ms}{t:Tr}{l:List Vl}{v:Vl}(h:Q3c fu m t l=.ok (m',v)):m.out.length<=m'.out.length:=by
 unfold Q3c at h
 repeat' split at h
 ·cases h;exact Nat.le_refl _
 ·exact Qh9 h
 ·cases h;exact Nat.le_refl _
 ·simp only[bind,Except.bind,pure,Except.pure]at h
  repeat' split at h
  all_goals try (cases h;done)
  all_goals (cases h;exact Nat.le_refl _)
 ·simp only[bind,Except.bind,pure,Except.pure]at h
  repeat' split at h
  all_goals try (cases h;done)
  all_goals (cases h;exact Nat.le_refl _)
theorem Q6r{m m':Ms}{op:Int}{v:Vl}:∀(l k:List Fm),Q2o m op v l k=.ok m'->m'.out=m.out
 |_,[],h=>by cases h
 |l,f::k,h=>by
  unfold Q2o at h
  split at h
  ·cases h;rfl
  ·exact Q6r _ k h
theorem Qfg{fu:Int}{fns:List Fun}{m m':Ms}{f:Fm}{k:List Fm}(h:kidM fu fns m f k=.ok m'):m.out.length<=m'.out.length:=by
 unfold kidM at h
 repeat' split at h
 all_goals try (cases h;done)
 all_goals try (cases h;exact Nat.le_refl _)
 ·unfold Q2a at h
  split at h
  ·cases hc:Q16 _ _ f.e f.t.kids 0 f.t.alts <;> rw[hc]at h <;> cases h
   exact Nat.le_refl _
  ·cases h
 ·unfold callM at h
  repeat' split at h
  all_goals try (cases h;done)
  all_goals (cases h;exact Nat.le_refl _)
 ·rw[Q6r _ _ h];exact Nat.le_refl _
 ·cases hp:Q3c fu { m with k:=k } f.t f.done with
  |error c=>rw[hp]at h;cases h
  |ok mv=>
   rw[hp]at h;cases h
   obtain⟨m2,v2⟩:=mv
   exact Qf1 (m:={ m with k:=k }) (m':=m2) hp
theorem Qep{fu:Int}{fns:List Fun}{m m':Ms}{t:Tr}{e:En}(h:Q2i fu fns m t e=.ok m'):m.out.length<=m'.out.length:=by
 unfold Q2i at h
 repeat' split at h
 all_goals try (cases h;done)
 all_goals try (cases h;exact Nat.le_refl _)
 exact Qfg h
theorem Qex{fu:Int}{fns:List Fun}{m m':Ms}(h:Q0x fu fns m=.next m'):m.out.length<=m'.out.length:=by
 unfold Q0x at h
 repeat' split at h
 all_goals try (cases h;done)
 ·rename_i hk;cases h;exact Qfg hk
 ·rename_i hk;cases h;exact Qep (m:={ m with steps:=m.steps+1 }) hk
theorem Qfx{fu:Int}{fns:List Fun}:∀{g:Nat}{m:Ms}{r:Rd},goX fu fns g m=some r->m.out.length<=outR r∨r=.fuel
 |0,_,_,h=>by cases h
 |g+1,m,r,h=>by
  simp only[goX]at h
  cases hr:Q0x fu fns m with
  |next m'=>
   rw[hr]at h
   rcases Qfx h with h1|h1
   ·exact .inl (Nat.le_trans (Qex hr) h1)
   ·exact .inr h1
  |done m' v=>
   rw[hr]at h;cases h
   unfold Q0x at hr
   repeat' split at hr
   all_goals try (cases hr;done)
   cases hr;exact .inl (Nat.le_refl _)
  |fuel=>rw[hr]at h;cases h;exact .inr rfl
  |trap c m'=>
   rw[hr]at h;cases h
   unfold Q0x at hr
   repeat' split at hr
   all_goals try (cases hr;done)
   all_goals (cases hr;exact .inl (Nat.le_refl _))
def rdOf (m:Ms):Except Int Ms->Rd
 |.ok m'=>.next m'
 |.error c=>.trap c m
theorem Q8l{fu:Int}{fns:List Fun}{m:Ms}{t:Tr}{e:En}(hc:m.c=.ev t e)(h:¬m.steps=fu):Q0x fu fns m=rdOf { m with steps:=m.steps+1 } (Q2i fu fns { m with steps:=m.steps+1 } t e):=by
 unfold Q0x
 split
 ·rename_i hv;rw[hc]at hv;cases hv
 ·rename_i hv;rw[hc]at hv;cases hv;rw[if_neg h];rfl
theorem Q8k{fu:Int}{fns:List Fun}{m:Ms}{v:Vl}{f:Fm}{k:List Fm}(hc:m.c=.rt v)(hk:m.k=f::k):Q0x fu fns m=rdOf m (kidM fu fns m (.mk f.t f.e (f.done++[v])) k):=by
 simp only[Q0x,hc,hk];rfl
end
end Go.CoreX
namespace Go.CoreX
theorem Qc7{fu:Int}{fns:List Fun}{m m':Ms}{t:Tr}{e:En}(h:Q2i fu fns m t e=.ok m'):m.steps<=m'.steps:=by
 unfold Q2i at h
 repeat' split at h
 all_goals try (cases h;done)
 all_goals try (cases h;exact Int.le_refl _)
 exact (Q5f h [] .nil (.inr ⟨rfl,rfl⟩)).ge
def stepsR:Rd->Int
 |.done m _=>m.steps
 |.trap _ m=>m.steps
 |.next m=>m.steps
 |.fuel=>0
theorem Qh4{fu:Int}{fns:List Fun}{m m':Ms}(h:Q0x fu fns m=.next m'):m.steps<=m'.steps:=by
 unfold Q0x at h
 repeat' split at h
 all_goals try (cases h;done)
 ·rename_i f k hk _ _ hkid;cases h;exact (Q5f hkid f.done _ (.inl rfl)).ge
 ·rename_i hst;cases h
  have:=Qc7 hst
  simp only at this;omega
theorem Q9r{fu:Int}{fns:List Fun}{m:Ms}{r:Rd}(h:Q0x fu fns m=r):(∀c m',r=.trap c m'->m.steps<=m'.steps)/\(∀m' v,r=.done m' v->m'=m/\m.c=.rt v/\m.k=[]):=by
 subst h
 constructor
 ·intro c m' h
  unfold Q0x at h
  repeat' split at h
  all_goals try (cases h;done)
  ·cases h;exact Int.le_refl _
  ·cases h;simp only;omega
 ·intro m' v h
  unfold Q0x at h
  repeat' split at h
  all_goals try (cases h;done)
  rename_i hc _ hk
  cases h;exact⟨rfl,hc,hk⟩
theorem goX_ge{fu:Int}{fns:List Fun}:∀{g:Nat}{m:Ms}{r:Rd},goX fu fns g m=some r->r≠.fuel->m.steps<=stepsR r
 |0,_,_,h,_=>by cases h
 |g+1,m,r,h,hf=>by
  simp only[goX]at h
  cases hr:Q0x fu fns m with
  |next m'=>rw[hr]at h;exact Int.le_trans (Qh4 hr) (goX_ge h hf)
  |done m' v=>rw[hr]at h;cases h;rw[((Q9r hr).2 _ _ rfl).1];exact Int.le_refl _
  |fuel=>rw[hr]at h;cases h;exact absurd rfl hf
  |trap c m'=>rw[hr]at h;cases h;exact (Q9r hr).1 _ _ rfl
end Go.CoreX
namespace Go.Proofs.YtdpdlkgecmgokaaGreatDoor
open Go Go.Abs Go.CoreX
set_option linter.unusedSectionVars false
abbrev tClo:Nat:=154
abbrev tObj:Nat:=129
abbrev tRow:Nat:=183
abbrev tArr:Nat:=209
abbrev tRes:Nat:=174
abbrev tCap:Nat:=148
abbrev tTrap:Nat:=98
abbrev nilPE:AC:=.lit (.pointer none)
abbrev Hm:=Nat->Option (List AC)
abbrev Nm2:=List (Nat×Nat)
def iW (n:Int):AC:=.ifc 3 false [int n]
def iB (t:Nat)(cs:List AC):AC:=.ifc t false [.box cs]
inductive RecC (H:Hm)(t:Tr)(top:AC):Nat->AC->AC->Prop
 |zero (c:AC):RecC H t top 0 c c
 |succ (i k q:Nat) (c b:AC) (hk:H k=some [int (t.binds.getD i 0),.ifc tClo false [.ptr (.o q) 0],c]) (hq:H q=some [.box (cTr (t.kids.getD i default)),top]) (h:RecC H t top i c b):RecC H t top (i+1) (.ptr (.o k) 0) b
mutual
inductive VR (H:Hm)(nm:Nm2):Vl->AC->Prop
 |nil:VR H nm .nil (.lit .nilIface)
 |word (n:Int):VR H nm (.word n) (iW n)
 |clo (t:Tr) (e:En) (c:AC) (he:ER H nm e c):VR H nm (.clo t e) (iB tClo [.box (cTr t),c])
 |cloP (t:Tr) (e:En) (c:AC) (k:Nat) (hk:H k=some [.box (cTr t),c]) (he:ER H nm e c):VR H nm (.clo t e) (.ifc tClo false [.ptr (.o k) 0])
 |obj (g:Int) (fs:List Vl) (cs:List (List AC)) (h:VsR H nm fs cs):VR H nm (.obj g fs) (iB tObj [int g,.sl 1 cs])
 |row (ls:List Int) (fs:List Vl) (cs:List (List AC)) (h:VsR H nm fs cs):VR H nm (.row ls fs) (iB tRow [.sl 1 (ls.map cI),.sl 1 cs])
 |arr (a k n:Nat) (h:nm[a]?=some (k,n)):VR H nm (.arr a) (iB tArr [.arr (.o k) 1 0 n n])
 |res (fs:List Fm) (l:List (List AC)) (h:FsR H nm fs l):VR H nm (.res fs) (iB tRes [.sl 1 l])
 |cap (n:Int) (fs:List Vl) (cs:List (List AC)) (h:VsR H nm fs cs):VR H nm (.cap n fs) (iB tCap [int n,.sl 1 cs])
inductive VsR (H:Hm)(nm:Nm2):List Vl->List (List AC)->Prop
 |nil:VsR H nm [] []
 |cons (v:Vl) (c:AC) (vs:List Vl) (cs:List (List AC)) (hv:VR H nm v c) (h:VsR H nm vs cs):VsR H nm (v::vs) ([c]::cs)
inductive ER (H:Hm)(nm:Nm2):En->AC->Prop
 |nil:ER H nm .nil nilPE
 |bind (i:Int) (v:Vl) (n:En) (k:Nat) (vc nc:AC) (hk:H k=some [int i,vc,nc]) (hv:VR H nm v vc) (hn:ER H nm n nc):ER H nm (.bind i v n) (.ptr (.o k) 0)
 |recs (t:Tr) (n:En) (c nc:AC) (hc:RecC H t c t.binds.length c nc) (hn:ER H nm n nc):ER H nm (.recs t n) c
inductive FR (H:Hm)(nm:Nm2):Fm->AC->Prop
 |mk (t:Tr) (e:En) (d:List Vl) (ec:AC) (dc:List (List AC)) (nx:AC) (hx:nx.ids isO) (he:ER H nm e ec) (hd:VsR H nm d dc):FR H nm (.mk t e d) (.box [.box (cTr t),ec,.sl 1 dc,nx])
inductive FsR (H:Hm)(nm:Nm2):List Fm->List (List AC)->Prop
 |nil:FsR H nm [] []
 |cons (f:Fm) (c:AC) (fs:List Fm) (cs:List (List AC)) (hf:FR H nm f c) (h:FsR H nm fs cs):FsR H nm (f::fs) ([c]::cs)
end
inductive KR (H:Hm)(nm:Nm2):List Fm->AC->Prop
 |nil:KR H nm [] nilPE
 |cons (t:Tr) (e:En) (d:List Vl) (k:List Fm) (ec:AC) (dc:List (List AC)) (kc:AC) (he:ER H nm e ec) (hd:VsR H nm d dc) (hk:KR H nm k kc):KR H nm (.mk t e d::k) (.box [.box (cTr t),ec,.sl 1 dc,kc])
structure Mo (H:Hm)(nm:Nm2)(H':Hm)(nm':Nm2):Prop where
 h:∀k cs,H k=some cs->H' k=some cs
 n:∀(a:Nat) (x:Nat×Nat),nm[a]?=some x->nm'[a]?=some x
theorem Mo.refl(H:Hm)(nm:Nm2):Mo H nm H nm:=⟨fun _ _ h=>h,fun _ _ h=>h⟩
theorem Mo.trans{H H1 H2:Hm}{n n1 n2:Nm2}(a:Mo H n H1 n1)(b:Mo H1 n1 H2 n2):Mo H n H2 n2:=⟨fun k cs h=>b.h k cs (a.h k cs h),fun k x h=>b.n k x (a.n k x h)⟩
section
variable {H H':Hm}{nm nm':Nm2}(hm:Mo H nm H' nm')
include hm
theorem RecC.mo{t:Tr}{top:AC}:∀{i:Nat}{c b:AC},RecC H t top i c b->RecC H' t top i c b
 |_,_,_,.zero c=>.zero c
 |_,_,_,.succ i k q c b hk hq h=>.succ i k q c b (hm.h _ _ hk) (hm.h _ _ hq) (RecC.mo h)
mutual
theorem VR.mo:∀{v:Vl}{c:AC},VR H nm v c->VR H' nm' v c
 |_,_,.nil=>.nil
 |_,_,.word n=>.word n
 |_,_,.clo t e c he=>.clo t e c (ER.mo he)
 |_,_,.cloP t e c k hk he=>.cloP t e c k (hm.h _ _ hk) (ER.mo he)
 |_,_,.obj g fs cs h=>.obj g fs cs (VsR.mo h)
 |_,_,.row ls fs cs h=>.row ls fs cs (VsR.mo h)
 |_,_,.arr a k n h=>.arr a k n (hm.n _ _ h)
 |_,_,.res fs l h=>.res fs l (FsR.mo h)
 |_,_,.cap n fs cs h=>.cap n fs cs (VsR.mo h)
theorem VsR.mo:∀{v:List Vl}{c:List (List AC)},VsR H nm v c->VsR H' nm' v c
 |_,_,.nil=>.nil
 |_,_,.cons v c vs cs hv h=>.cons v c vs cs (VR.mo hv) (VsR.mo h)
theorem ER.mo:∀{e:En}{c:AC},ER H nm e c->ER H' nm' e c
 |_,_,.nil=>.nil
 |_,_,.bind i v n k vc nc hk hv hn=>.bind i v n k vc nc (hm.h _ _ hk) (VR.mo hv) (ER.mo hn)
 |_,_,.recs t n c nc hc hn=>.recs t n c nc (RecC.mo hm hc) (ER.mo hn)
theorem FR.mo:∀{f:Fm}{c:AC},FR H nm f c->FR H' nm' f c
 |_,_,.mk t e d ec dc nx hx he hd=>.mk t e d ec dc nx hx (ER.mo he) (VsR.mo hd)
theorem FsR.mo:∀{f:List Fm}{c:List (List AC)},FsR H nm f c->FsR H' nm' f c
 |_,_,.nil=>.nil
 |_,_,.cons f c fs cs hf h=>.cons f c fs cs (FR.mo hf) (FsR.mo h)
end
theorem KR.mo:∀{k:List Fm}{c:AC},KR H nm k c->KR H' nm' k c
 |_,_,.nil=>.nil
 |_,_,.cons t e d k ec dc kc he hd hk=>.cons t e d k ec dc kc (ER.mo hm he) (VsR.mo hm hd) (KR.mo hk)
end
section
variable {H:Hm}{nm:Nm2}
theorem RecC.ids{t:Tr}{top:AC}:∀{i:Nat}{c b:AC},RecC H t top i c b->b.ids isO->c.ids isO
 |_,_,_,.zero c,h=>h
 |_,_,_,.succ i k q c b hk hq h,_=>trivial
mutual
theorem VR.ids:∀{v:Vl}{c:AC},VR H nm v c->c.ids isO
 |_,_,.nil=>trivial
 |_,_,.word n=>by simp[iW,AC.ids,idsL]
 |_,_,.clo t e c he=>⟨⟨by simp,ER.ids he,trivial⟩,trivial⟩
 |_,_,.cloP t e c k hk he=>⟨trivial,trivial⟩
 |_,_,.obj g fs cs h=>⟨⟨trivial,VsR.ids h,trivial⟩,trivial⟩
 |_,_,.row ls fs cs h=>⟨⟨by simp,VsR.ids h,trivial⟩,trivial⟩
 |_,_,.arr a k n h=>⟨⟨trivial,trivial⟩,trivial⟩
 |_,_,.res fs l h=>⟨⟨FsR.ids h,trivial⟩,trivial⟩
 |_,_,.cap n fs cs h=>⟨⟨trivial,VsR.ids h,trivial⟩,trivial⟩
theorem VsR.ids:∀{v:List Vl}{c:List (List AC)},VsR H nm v c->idsS isO c
 |_,_,.nil=>trivial
 |_,_,.cons v c vs cs hv h=>⟨⟨VR.ids hv,trivial⟩,VsR.ids h⟩
theorem ER.ids:∀{e:En}{c:AC},ER H nm e c->c.ids isO
 |_,_,.nil=>trivial
 |_,_,.bind i v n k vc nc hk hv hn=>trivial
 |_,_,.recs t n c nc hc hn=>RecC.ids hc (ER.ids hn)
theorem FR.ids:∀{f:Fm}{c:AC},FR H nm f c->c.ids isO
 |_,_,.mk t e d ec dc nx hx he hd=>⟨by simp,ER.ids he,VsR.ids hd,hx,trivial⟩
theorem FsR.ids:∀{f:List Fm}{c:List (List AC)},FsR H nm f c->idsS isO c
 |_,_,.nil=>trivial
 |_,_,.cons f c fs cs hf h=>⟨⟨FR.ids hf,trivial⟩,FsR.ids h⟩
end
theorem KR.ids:∀{k:List Fm}{c:AC},KR H nm k c->c.ids isO
 |_,_,.nil=>trivial
 |_,_,.cons t e d k ec dc kc he hd hk=>⟨by simp,ER.ids he,VsR.ids hd,KR.ids hk,trivial⟩
theorem VsR.len:∀{v:List Vl}{c:List (List AC)},VsR H nm v c->c.length=v.length
 |_,_,.nil=>rfl
 |_,_,.cons v c vs cs hv h=>by simp[VsR.len h]
theorem VsR.get:∀{v:List Vl}{c:List (List AC)}{i:Nat}{x:Vl},VsR H nm v c->v[i]?=some x->∃y,c[i]?=some [y]/\VR H nm x y
 |_,_,i,x,.nil,hx=>by simp at hx
 |_,_,0,x,.cons v c vs cs hv h,hx=>by simp at hx;subst hx;exact⟨c,rfl,hv⟩
 |_,_,i+1,x,.cons v c vs cs hv h,hx=>VsR.get (i:=i) h (by simpa using hx)
theorem VsR.snoc:∀{v:List Vl}{c:List (List AC)}{x:Vl}{y:AC},VsR H nm v c->VR H nm x y->VsR H nm (v++[x]) (c++[[y]])
 |_,_,x,y,.nil,hx=>.cons x y [] [] hx .nil
 |_,_,x,y,.cons v c vs cs hv h,hx=>.cons v c _ _ hv (VsR.snoc h hx)
end
variable {Γ:List (Nat×List AC)}
def unitF:FV:=.tup []
def trapE (c:Int):List PanicEntry:=[{ v:=.iface tTrap (.agg #[.int .i64 c]),recovered:=false }]
theorem Q8e{w:World}{C:Ctx}{v:Value}{c:Int}(h:R w C (.ifc tTrap true [int c]) v):[({ v:=v,recovered:=false }:PanicEntry)]=trapE c:=by
 obtain⟨xs,h1,⟨_,rfl⟩|⟨h2,_⟩⟩:=h
 ·simp only[RV]at h1
  obtain⟨u,us,rfl,h3,rfl⟩:=h1
  simp only[int,R]at h3
  rw[h3.1];rfl
 ·cases h2
theorem conc3:Tryz.prog.concrete 3=true:=by kernel_rfl
theorem concClo:Tryz.prog.concrete tClo=true:=by kernel_rfl
theorem Q3p:Tryz.prog.concrete tObj=true:=by kernel_rfl
theorem Q7c:Tryz.prog.concrete tCap=true:=by kernel_rfl
theorem Q99:Tryz.prog.concrete tTrap=true:=by kernel_rfl
theorem z3(w:World):(zeroValue 3).run Tryz.prog w=.ok (.int .i64 0) w:=Q8c (by kernel_rfl) w
theorem zClo(w:World):(zeroValue tClo).run Tryz.prog w=.ok (.pointer none) w:=Q8c (by kernel_rfl) w
theorem zObj(w:World):(zeroValue tObj).run Tryz.prog w=.ok (.pointer none) w:=Q8c (by kernel_rfl) w
def notT (t:Nat)(c:AC):Prop:=c=.lit .nilIface∨∃t' ag cs,c=.ifc t' ag cs/\Nat.beq t' t=false
section
variable {H:Hm}{nm:Nm2}{v:Vl}{c:AC}
theorem VR.isWord(h:VR H nm v c):(∃n,v=.word n/\c=iW n)∨((∀n,v≠.word n)/\notT 3 c):=by
 cases h <;> first|exact .inl ⟨_,rfl,rfl⟩|exact .inr ⟨by simp,.inl rfl⟩|exact .inr ⟨by simp,.inr ⟨_,_,_,rfl,rfl⟩⟩
theorem VR.isObj(h:VR H nm v c):(∃g fs cs,v=.obj g fs/\c=iB tObj [int g,.sl 1 cs]/\VsR H nm fs cs)∨((∀g fs,v≠.obj g fs)/\notT tObj c):=by
 cases h <;> first|exact .inl ⟨_,_,_,rfl,rfl,‹_›⟩|exact .inr ⟨by simp,.inl rfl⟩|exact .inr ⟨by simp,.inr ⟨_,_,_,rfl,rfl⟩⟩
theorem VR.isCap(h:VR H nm v c):(∃n fs cs,v=.cap n fs/\c=iB tCap [int n,.sl 1 cs]/\VsR H nm fs cs)∨((∀n fs,v≠.cap n fs)/\notT tCap c):=by
 cases h <;> first|exact .inl ⟨_,_,_,rfl,rfl,‹_›⟩|exact .inr ⟨by simp,.inl rfl⟩|exact .inr ⟨by simp,.inr ⟨_,_,_,rfl,rfl⟩⟩
end
theorem Q1s(n:Int):APure Tryz.prog Γ 118 [.one (iW n)] (.one (int n)):=by
 intro ou
 refine AFn.walk 15 tabOk Tryz.func118 rfl (by kernel_rfl) rfl rfl fun hou=>?_
 refine zA ?_
 refine zS (AStep.assertYes conc3 rfl rfl) ?_
 refine zA ?_
 exact APure.fin rfl (WkF.ofEq rfl) (by simp) hou rfl
theorem Q62(b:Bool):APure Tryz.prog Γ 120 [.one (.lit (.bool b))] (.one (iB tObj [int (if b then 1 else 0),.sl 1 []])):=by
 intro ou
 refine AFn.walk 10 tabOk Tryz.func120 rfl (by kernel_rfl) rfl rfl fun hou=>?_
 refine zA ?_
 refine ACode.cond rfl (fun hb=>?_) (fun hb=>?_)
 ·subst hb
  repeat ((fail_if_success ((with_reducible refine oj ?_);refine AOps.atDst 6 rfl ?_));first|refine zO ?_)
  refine AOps.freeze1 (.l 0) 5 rfl rfl ?_
  refine AOps.wk 5 rfl (y:=.one (.box [int 1,.sl 1 []])) (.one (Wk.box (.cons (.refl _) (.cons (.nilS 1) .nil)))) ?_
  refine zS (AStep.mkIfc Q3p rfl rfl) ?_
  refine zA ?_
  exact APure.fin rfl (WkF.ofEq rfl) (by simp[iB]) hou rfl
 ·subst hb
  repeat ((fail_if_success ((with_reducible refine oj ?_);refine AOps.atDst 9 rfl ?_));first|refine zO ?_)
  refine AOps.freeze1 (.l 0) 8 rfl rfl ?_
  refine AOps.wk 8 rfl (y:=.one (.box [int 0,.sl 1 []])) (.one (Wk.box (.cons (.refl _) (.cons (.nilS 1) .nil)))) ?_
  refine zS (AStep.mkIfc Q3p rfl rfl) ?_
  refine zA ?_
  exact APure.fin rfl (WkF.ofEq rfl) (by simp[iB]) hou rfl
theorem Q96(n:Int)(h0:-2305843009213693952<=n)(h1:n<=2305843009213693952):APure Tryz.prog Γ 117 [.one (int n)] (.one (int (wrapW n))):=by
 intro ou
 refine AFn.walk 7 tabOk Tryz.func117 rfl (by kernel_rfl) rfl rfl fun hou=>?_
 refine zM ?_
 refine zS (AStep.and rfl rfl rfl) ?_
 rw[Qia]
 have h4:0<=(n - (-1073741824)) % 2147483648:=Int.emod_nonneg _ (by decide)
 have h5:(n - (-1073741824)) % 2147483648 < 2147483648:=Int.emod_lt_of_pos _ (by decide)
 refine zM ?_
 refine APure.fin rfl (WkF.ofEq ?_) (by simp) hou rfl
 unfold wrapW
 congr 3
theorem Qf9{H:Hm}{nm:Nm2}{v:Vl}{c:AC}(h:VR H nm v c):APure Tryz.prog Γ 53 [.one c] (.one (int (lastV v))):=by
 intro ou
 refine AFn.walk 17 tabOk Tryz.func53 rfl (by kernel_rfl) rfl rfl fun hou=>?_
 rcases h.isWord with ⟨n,rfl,rfl⟩|⟨hw,hn⟩
 ·refine zA ?_
  refine zS (AStep.assertYes conc3 rfl rfl) ?_
  refine zA ?_
  exact APure.fin rfl (WkF.ofEq rfl) (by simp) hou rfl
 ·refine zA ?_
  refine zS (AStep.assertNo conc3 rfl z3 rfl rfl hn) ?_
  refine zA ?_
  rcases h.isObj with ⟨g,fs,cs,rfl,rfl,h2⟩|⟨ho,hn2⟩
  ·refine zS (AStep.assertYes Q3p rfl rfl) ?_
   refine zA ?_
   exact APure.fin rfl (WkF.ofEq rfl) (by simp) hou rfl
  ·refine zS (AStep.assertNo Q3p rfl zObj rfl rfl hn2) ?_
   refine zA ?_
   refine APure.fin rfl (WkF.ofEq ?_) (by simp) hou rfl
   cases v <;> first|rfl|exact absurd rfl (hw _)|exact absurd rfl (ho _ _)
theorem Q3k(t:Tr):APure Tryz.prog Γ 80 [.one (.box (cTr t))] (.one (int (opdN t))):=by
 intro ou
 refine AFn.walk 17 tabOk Tryz.func80 rfl (by kernel_rfl) rfl rfl fun hou=>?_
 unfold opdN
 repeat' first|refine zN ?_|(with_reducible refine oj ?_;refine AOps.splitS rfl rfl rfl rfl (fun hb=>?_) (fun hb=>?_))|(with_reducible refine ok ?_;first|refine ACode.condS rfl (fun hb=>?_) (fun hb=>?_)|refine ACode.cond rfl (fun hb=>?_) (fun hb=>?_))
 all_goals (refine APure.fin rfl (WkF.ofEq ?_) (by simp) hou rfl)
 all_goals (simp_all[int,Q0a])
theorem Qeh(id:Int)(vc ec:AC)(hv:vc.ids isO)(he:ec.ids isO)(ou:Outer):AFn Tryz.prog Γ 81 [.one ec,.one (int id),.one vc] ou
  (fun r ou'=>∃k,r=.one (.ptr (.o k) 0)/\NewO ou ou' [(k,.cells [int id,vc,ec])]):=by
 refine AFn.walk 12 tabOk Tryz.func81 rfl (by kernel_rfl) rfl rfl fun hou=>?_
 repeat ((fail_if_success ((with_reducible refine oj ?_);refine AOps.atDst 11 rfl ?_));first|refine zO ?_)
 (first|((with_reducible refine oj ?_);refine zau ?_)|(with_reducible refine zst ?_)|((with_reducible refine Q0g ?_ ?_);rfl)|(with_reducible refine ok ?_;first|refine ACode.condT rfl ?_|refine ACode.condF rfl ?_))
 refine AOps.cedes [0] rfl (by decide) hou fun k hk=>⟨[(11,.one (.ptr (.o k) 0))],[],[.cells [int id,vc,ec]],.cons rfl rfl .nil,.nil,?_,?_⟩
 ·exact .cons rfl (AObj.sub_f (fun i hi=>by cases i with|l q=>exact hi.elim|o q=>rfl) _ ⟨trivial,hv,he,trivial⟩) .nil
 have hN:=NewO.add hk hou (show (AObj.cells [int id,vc,ec]).ids isO from ⟨trivial,hv,he,trivial⟩)
 refine zA ?_
 exact AFn.fin' rfl (WkF.ofEq rfl) (by simp) hN.ok ⟨k,rfl,hN⟩
inductive Ch (H:Hm):AC->List (Int×AC)->Prop
 |nil:Ch H nilPE []
 |cons (i:Int) (k:Nat) (vc nc:AC) (l:List (Int×AC)) (hk:H k=some [int i,vc,nc]) (h:Ch H nc l):Ch H (.ptr (.o k) 0) ((i,vc)::l)
def lookI (id:Int):List (Int×AC)->AC
 |[]=>.lit .nilIface
 |(i,c)::l=>if i=id then c else lookI id l
theorem RecC.ch{H:Hm}{t:Tr}{top:AC}{b:AC}{lb:List (Int×AC)}(hb:Ch H b lb):∀{i:Nat}{c:AC},RecC H t top i c b->
  ∃l,Ch H c l/\∀id,(∃j q,Q6x t.binds id i=some j/\lookI id l=.ifc tClo false [.ptr (.o q) 0]/\H q=some [.box (cTr (t.kids.getD j default)),top])∨(Q6x t.binds id i=none/\lookI id l=lookI id lb)
 |_,_,.zero c=>⟨lb,hb,fun id=>.inr ⟨rfl,rfl⟩⟩
 |_,_,.succ i k q c b hk hq h=>by
  obtain⟨l,h1,h2⟩:=RecC.ch hb h
  refine⟨_,.cons _ k _ _ l hk h1,fun id=>?_⟩
  simp only[lookI,Q6x]
  by_cases e:t.binds.getD i 0=id
  ·exact .inl ⟨i,q,by rw[if_pos e],by rw[if_pos e],hq⟩
  ·rw[if_neg e,if_neg e];exact h2 id
theorem ER.ch{H:Hm}{nm:Nm2}:∀{e:En}{c:AC},ER H nm e c->∃l,Ch H c l/\∀id,VR H nm (findE id e) (lookI id l)
 |_,_,.nil=>⟨[],.nil,fun id=>by simp only[findE,lookI];exact .nil⟩
 |_,_,.bind i v n k vc nc hk hv hn=>by
  obtain⟨l,h1,h2⟩:=ER.ch hn
  refine⟨_,.cons i k vc nc l hk h1,fun id=>?_⟩
  simp only[findE,lookI]
  by_cases e:i=id
  ·rw[if_pos e,if_pos e];exact hv
  ·rw[if_neg e,if_neg e];exact h2 id
 |_,_,.recs t n c nc hc hn=>by
  obtain⟨l,h1,h2⟩:=ER.ch hn
  obtain⟨l',h3,h4⟩:=hc.ch h1
  refine⟨l',h3,fun id=>?_⟩
  simp only[findE]
  rcases h4 id with ⟨j,q,h5,h6,h7⟩|⟨h5,h6⟩
  ·rw[h5,h6]
   exact .cloP _ _ _ q h7 (.recs t n c nc hc hn)
  ·rw[h5,h6];exact h2 id
theorem Q4f{c:AC}(h:c.ids isO)(n:Nat):c.ids (inL n):=AC.ids_mono (fun i hi=>by cases i with|l k=>exact hi.elim|o k=>trivial) c h
theorem Q42{c:List (List AC)}(h:idsS isO c)(n:Nat):idsS (inL n) c:=Q4v (fun i hi=>by cases i with|l k=>exact hi.elim|o k=>trivial) c h
def InOu (H:Hm)(ou:Outer):Prop:=∀k cs,H k=some cs->ou k=some (.cells cs)
theorem Qg6(hΓ:∀g cs,(g,cs)∈Γ->idsL isO cs){H:Hm}{c:AC}{l:List (Int×AC)}(hc:Ch H c l)(id:Int)(ou:Outer)(hH:InOu H ou)(hci:c.ids isO)(hli:(lookI id l).ids isO):
  AFn Tryz.prog Γ 88 [.one c,.one (int id)] ou (fun r ou'=>r=.one (lookI id l)/\ou'=ou):=by
 refine AFn.walk 21 tabOk Tryz.func88 rfl (by kernel_rfl) rfl rfl fun hou=>?_
 refine zA ?_
 refine ACode.loopR hΓ (α:=AC×List (Int×AC)) (fun a=>[(1,.one (int id)),(0,.one a.1)]) (fun a=>⟨0,[],ou⟩) (fun m a=>Ch H a.1 a.2/\lookI id a.2=lookI id l/\a.1.ids isO/\m=a.2.length) (a0:=(c,l)) (ρ:=_root_.id) ⟨hc,rfl,hci,rfl⟩ (LessR.of rfl zFW (by simp[Q4f hci]) zLO rfl rfl hou) fun m a ha=>?_
 obtain⟨c1,l1⟩:=a
 obtain⟨h1,h2,h3,rfl⟩:=ha
 dsimp only at h1 h2 h3 ⊢
 cases h1 with
 |nil=>
  refine zA ?_
  refine zS (AStep.neNil0 Tryz.underlying70 rfl rfl rfl) ?_
  refine zA ?_
  exact AFn.fin' (r':=.one (lookI id l)) rfl (WkF.ofEq (by rw[←h2];rfl)) hli hou ⟨rfl,rfl⟩
 |cons i k vc nc l2 hk hch=>
  have hx:=hH k _ hk
  have hids:idsL isO [int i,vc,nc]:=hou k _ hx
  have hnc:nc.ids isO:=hids.2.2.1
  refine zA ?_
  refine zS (AStep.neNil Tryz.underlying70 rfl rfl rfl) ?_
  repeat' first|refine zN ?_|((with_reducible refine oj ?_);first|refine zix ?_|refine zow rfl rfl hx ?_)
  refine ACode.cond rfl (fun hb=>?_) (fun hb=>?_)
  ·have he:i=id:=by simpa using hb
   repeat' first|refine zN ?_|((with_reducible refine oj ?_);first|refine zix ?_|refine zow rfl rfl hx ?_)
   exact AFn.fin' (r':=.one (lookI id l)) rfl (WkF.ofEq (by rw[←h2];simp[lookI,he])) hli hou ⟨rfl,rfl⟩
  ·have he:i≠id:=by simpa using hb
   repeat' first|refine zN ?_|((with_reducible refine oj ?_);first|refine zix ?_|refine zow rfl rfl hx ?_)
   exact cInv ⟨l2.length,(nc,l2),_root_.id,by simp,⟨hch,by rw[←h2];simp[lookI,he],hnc,rfl⟩,LessR.of rfl zFW (by simp[Q4f hnc]) zLO rfl rfl hou⟩
def plainO:AObj->Prop
 |.cells _=>True
 |.tok _ _ _=>True
 |.dead=>True
 |_=>False
structure Gro (ou:Outer)(H:Hm)(ou':Outer)(H':Hm):Prop where
 h:∀k cs,H k=some cs->H' k=some cs
 new:∀k,H k=none->H' k≠none->ou k=none
 old:∀k o,ou k=some o->ou' k=some o
 inO:InOu H' ou'
 ok:OuOk ou'
 pl:∀k o,ou' k=some o->ou k=some o∨plainO o
theorem Gro.refl{ou:Outer}{H:Hm}(h:InOu H ou)(ho:OuOk ou):Gro ou H ou H:=⟨fun _ _ h=>h,fun k h1 h2=>absurd h1 h2,fun _ _ h=>h,h,ho,fun _ _ h=>.inl h⟩
theorem Gro.trans{ou ou1 ou2:Outer}{H H1 H2:Hm}(a:Gro ou H ou1 H1)(b:Gro ou1 H1 ou2 H2):Gro ou H ou2 H2:=by
 refine⟨fun k cs h=>b.h k cs (a.h k cs h),fun k h1 h2=>?_,fun k o h=>b.old k o (a.old k o h),b.inO,b.ok,fun k o h=>(b.pl k o h).elim (a.pl k o) .inr⟩
 by_cases h3:H1 k=none
 ·have:=b.new k h3 h2
  cases h4:ou k with
  |none=>rfl
  |some o=>rw[a.old k o h4]at this;cases this
 ·exact a.new k h1 h3
theorem Gro.mo{ou ou':Outer}{H H':Hm}(g:Gro ou H ou' H')(nm:Nm2):Mo H nm H' nm:=⟨g.h,fun _ _ h=>h⟩
def addH (H:Hm)(k:Nat)(cs:List AC):Hm:=fun j=>if j=k then some cs else H j
theorem Gro.add{ou ou':Outer}{H:Hm}(h:InOu H ou){k:Nat}{cs:List AC}(hN:NewO ou ou' [(k,.cells cs)]):Gro ou H ou' (addH H k cs):=by
 have hk:ou k=none:=hN.new k (by simp[keys])
 have hHk:H k=none:=by
  cases h1:H k with
  |none=>rfl
  |some c=>rw[h k c h1]at hk;cases hk
 have hold:∀j o,ou j=some o->ou' j=some o:=fun j o hj=>by
  rw[hN.old j (by simp[keys];rintro rfl;rw[hk]at hj;cases hj)];exact hj
 refine⟨fun j c hj=>?_,fun j h1 h2=>?_,hold,fun j c hj=>?_,hN.ok,fun j o hj=>?_⟩
 ·unfold addH
  rw[if_neg (by rintro rfl;rw[hHk]at hj;cases hj)];exact hj
 ·unfold addH at h2
  split at h2
  ·rename_i e;rw[e];exact hk
  ·exact absurd h1 h2
 ·unfold addH at hj
  split at hj
  ·rename_i e;subst e;cases hj
   exact hN.own (j,_) (by simp)
  ·exact hold j _ (h j c hj)
 ·by_cases e:j=k
  ·subst e
   have:=hN.own (j,_) (List.mem_singleton.2 rfl)
   rw[this]at hj;cases hj;exact .inr trivial
  ·rw[hN.old j (by simp[keys];exact e)]at hj;exact .inl hj
theorem Qau(x:Int):∀(b:List Int)(l:List Vl)(e:En),allE e (b++[x]) l=.bind x (l.getD b.length .nil) (allE e b l)
 |[],l,e=>by cases l <;> simp[allE]
 |y::b,l,e=>by
  simp only[List.cons_append,allE,Qau x b]
  cases l <;> simp
theorem Qgh(hΓ:∀g cs,(g,cs)∈Γ->idsL isO cs){H:Hm}{nm:Nm2}{e:En}{ec:AC}{b:List Int}{l:List Vl}{cs:List (List AC)}(he:ER H nm e ec)(hl:VsR H nm l cs)(hbl:b.length=l.length)(hb20:b.length<=1048576)(ou:Outer)(hH:InOu H ou):
  AFn Tryz.prog Γ 85 [.one ec,.one (.sl 1 (b.map cI)),.one (.sl 1 cs)] ou (fun r ou'=>∃H' c,r=.one c/\Gro ou H ou' H'/\ER H' nm (allE e b l) c):=by
 have hei:=he.ids
 have hci:=hl.ids
 have hcl:=hl.len
 refine AFn.walk 25 tabOk Tryz.func85 rfl (by kernel_rfl) rfl rfl fun hou=>?_
 refine zA ?_
 refine ACode.loopR hΓ (α:=Nat×AC×Outer×Hm) (fun a=>[(11,.one (int a.1)),(10,.one (int (b.map cI).length)),(9,.one (.sl 1 (b.map cI))),(2,.one (.sl 1 cs)),(0,.one a.2.1)]) (fun a=>⟨0,[],a.2.2.1⟩)
  (fun m a=>a.1<=b.length/\Gro ou H a.2.2.1 a.2.2.2/\ER a.2.2.2 nm (allE e (b.take a.1) l) a.2.1/\m=b.length - a.1) (a0:=(0,ec,ou,H)) (ρ:=_root_.id) ⟨by simp,Gro.refl hH hou,by simpa[allE]using he,rfl⟩
  (LessR.of rfl zFW (by simp[Q4f hei,Q42 hci]) zLO rfl rfl hou) fun m a ha=>?_
 obtain⟨i,c,ou1,H1⟩:=a
 obtain⟨hi,hg,he1,rfl⟩:=ha
 dsimp only at hi hg he1 ⊢
 have hou1:=hg.ok
 have hc1:=he1.ids
 refine zA ?_
 refine ACode.cond rfl (fun hb2=>?_) (fun hb2=>?_)
 ·have hlt:i < b.length:=by simpa using hb2
  clear hb2
  obtain⟨x,hx⟩:=Q01 hlt
  obtain⟨v,hv⟩:=Q01 (l:=l) (i:=i) (by omega)
  obtain⟨y,hy,hvy⟩:=hl.get hv
  have hyi:=hvy.ids
  refine zA ?_
  refine zS (zIA rfl rfl rfl (by omega) (Q04 hx)) ?_
  refine zA ?_
  refine zS (zIA rfl rfl rfl (by omega) (show cs[i]?=some [y]from hy)) ?_
  refine zA ?_
  refine AOps.call1 hΓ rfl rfl rfl rfl rfl rfl rfl ⟨hc1,trivial,hyi,trivial⟩ hou1 (Qeh x y c hyi hc1 ou1) fun r ou2 hq hids hou2=>?_
  obtain⟨k,rfl,hN⟩:=hq
  have hg2:=Gro.add hg.inO hN
  have he2:ER (addH H1 k [int x,y,c]) nm (allE e (b.take (i+1)) l) (.ptr (.o k) 0):=by
   have ht:b.take (i+1)=b.take i++[x]:=Q1c hx
   rw[ht,Qau]
   have hlen:(b.take i).length=i:=by simp;omega
   rw[hlen,List.getD_eq_getElem?_getD,hv]
   exact .bind x v _ k y c (by simp[addH]) (hvy.mo (((hg.trans hg2).mo nm))) (he1.mo (hg2.mo nm))
  refine zM ?_
  exact cInv ⟨b.length - (i+1),(i+1,.ptr (.o k) 0,ou2,addH H1 k [int x,y,c]),_root_.id,by omega,⟨by omega,hg.trans hg2,he2,rfl⟩,LessR.of rfl zFW (by simp[Q42 hci]) zLO rfl rfl hou2⟩
 ·have hlt:i=b.length:=by simp at hb2;omega
  subst hlt
  rw[List.take_length]at he1
  refine zA ?_
  exact AFn.fin' (r':=.one c) rfl (WkF.refl _) hc1 hou1 ⟨H1,c,rfl,hg,he1⟩
structure FcT where
 ac:AC
 kt:Nat
abbrev FcT.ids (fc:FcT)(p:Abs.Id->Prop):Prop:=fc.ac.ids p
def mC (tc ec vc kc:AC)(out:List Int)(st fu:Int)(fc:FcT):List AC:=[tc,ec,vc,kc,.gs 1 (out.map cI) (.o fc.kt),int st,int fu,fc.ac]
def ouX (mc:List AC)(n:Nat)(ou:Outer):Outer:=fun k=>match k with
 |0=>some (.cells mc)
 |k+1=>ou (k+1)
theorem Qce{ou:Outer}{mc:List AC}{n:Nat}(h0:ou 0=some (.cells mc)):ou=ouX mc n ou:=by
 funext k
 match k with
 |0=>exact h0
 |k+1=>rfl
theorem setX(mc mc':List AC)(n:Nat)(ou:Outer):(⟨0,[],ouX mc n ou⟩:St).set (.o 0) (.cells mc')=⟨0,[],ouX mc' n ou⟩:=by
 simp only[St.set,St.mk.injEq,true_and]
 funext k
 match k with
 |0=>rfl
 |k+1=>simp[Q05 (show k+1≠0 by omega)];rfl
def TkR (ou:Outer)(H:Hm)(nm:Nm2):Prop:=∀cs,ou 0=some (.cells cs)->∀es i,cs[4]?=some (.gs 1 es i)->∃kt,i=.o kt/\1<=kt/\ou kt=some (.tok 3 1 es.length)/\H kt=none/\∀(a k n:Nat),nm[a]?=some (k,n)->k≠kt
structure WR (ou:Outer)(H:Hm)(nm:Nm2)(heap:List (List Vl)):Prop where
 inO:InOu H ou
 ok:OuOk ou
 len:nm.length=heap.length
 arr:∀(a k n:Nat),nm[a]?=some (k,n)->∃cs:List AC,ou k=some (.cells cs)/\VsR H nm (heap.getD a []) (cs.map fun c=>[c])/\n=cs.length
 aH:∀(a k n:Nat),nm[a]?=some (k,n)->H k=none
 aa:∀(a b k n n':Nat),nm[a]?=some (k,n)->nm[b]?=some (k,n')->a=b
 sep:H 0=none/\∀(a k n:Nat),nm[a]?=some (k,n)->1<=k
 tk:TkR ou H nm
 pl:∀k o,ou k=some o->plainO o
theorem WR.gro{ou ou':Outer}{H H':Hm}{nm:Nm2}{heap:List (List Vl)}(w:WR ou H nm heap)(g:Gro ou H ou' H')(h0:ou 0≠none)(h1:True):WR ou' H' nm heap:=by
 have hH:∀k,ou k≠none->H k=none->H' k=none:=fun k hk hh=>by
  cases h:H' k with
  |none=>rfl
  |some c=>exact absurd (g.new k hh (by rw[h];simp)) hk
 refine⟨g.inO,g.ok,w.len,fun a k n h=>?_,fun a k n h=>?_,w.aa,⟨hH 0 h0 w.sep.1,w.sep.2⟩,fun cs hc es i hi=>?_,fun k o hk=>(g.pl k o hk).elim (w.pl k o) id⟩
 ·obtain⟨cs,c1,c2,c3⟩:=w.arr a k n h
  exact⟨cs,g.old k _ c1,c2.mo (g.mo nm),c3⟩
 ·obtain⟨cs,c1,c2,c3⟩:=w.arr a k n h
  exact hH k (by rw[c1];simp) (w.aH a k n h)
 ·cases ho:ou 0 with
  |none=>exact absurd ho h0
  |some o=>
   have:=g.old 0 _ ho
   rw[hc]at this
   cases this
   obtain⟨kt,e1,e2,e3,e4,e5⟩:=w.tk cs ho es i hi
   exact⟨kt,e1,e2,g.old _ _ e3,hH kt (by rw[e3];simp) e4,e5⟩
theorem WR.put{mc mc':List AC}{n:Nat}{ou:Outer}{H:Hm}{nm:Nm2}{heap:List (List Vl)}(w:WR (ouX mc n ou) H nm heap)(hi:idsL isO mc'){ou':Outer}(h0:ou' 0=some (.cells mc'))(h1:mc'[4]?=mc[4]?)(h2:∀k,ou' (k+1)=ou (k+1)):WR ou' H nm heap:=by
 have e:∀k,1<=k->ou' k=ouX mc n ou k:=fun k hk=>by
  obtain⟨j,rfl⟩:∃j,k=j+1:=⟨k - 1,by omega⟩
  rw[h2];rfl
 have hk2:∀k cs,H k=some cs->1<=k:=fun k cs hk=>by
  match k with
  |0=>rw[w.sep.1]at hk;cases hk
  |k+1=>omega
 refine⟨fun k cs hk=>?_,fun k o hk=>?_,w.len,fun a k n h=>?_,w.aH,w.aa,w.sep,fun cs hc es i hi=>?_,fun k o hk=>?_⟩
 ·rw[e k (hk2 k cs hk)];exact w.inO k cs hk
 ·match k with
  |0=>rw[h0]at hk;cases hk;exact hi
  |k+1=>rw[e _ (by omega)]at hk;exact w.ok _ o hk
 ·rw[e k (w.sep.2 a k n h)];exact w.arr a k n h
 ·rw[h0]at hc;cases hc
  rw[h1]at hi
  obtain⟨kt,e1,e2,e3,e4,e5⟩:=w.tk mc rfl es i hi
  exact⟨kt,e1,e2,(e kt e2).trans e3,e4,e5⟩
 ·match k with
  |0=>rw[h0]at hk;cases hk;trivial
  |k+1=>rw[e _ (by omega)]at hk;exact w.pl _ o hk
inductive CR (H:Hm)(nm:Nm2):Ctl->AC->AC->AC->Prop
 |ev (t:Tr) (e:En) (ec vc:AC) (he:ER H nm e ec):CR H nm (.ev t e) (.box (cTr t)) ec vc
 |rt (v:Vl) (ec vc:AC) (hv:VR H nm v vc):CR H nm (.rt v) nilPE ec vc
structure M0 (fu:Int)(fc:FcT)(ou:Outer)(H:Hm)(nm:Nm2)(m:Ms)(tc ec vc kc:AC):Prop where
 ids:tc.ids isO/\ec.ids isO/\vc.ids isO/\kc.ids isO
 m0:ou 0=some (.cells (mC tc ec vc kc m.out m.steps fu fc))
 w:WR ou H nm m.heap
structure MR (fu:Int)(fc:FcT)(ou:Outer)(H:Hm)(nm:Nm2)(m:Ms):Prop where
 ex:∃kt tc ec vc kc,CR H nm m.c tc ec vc/\KR H nm m.k kc/\M0 fu ⟨fc.ac,kt⟩ ou H nm m tc ec vc kc
theorem MR.ok{fu:Int}{fc:FcT}{H:Hm}{nm:Nm2}{m:Ms}{ou:Outer}(h:MR fu fc ou H nm m):OuOk ou:=h.ex.choose_spec.choose_spec.choose_spec.choose_spec.choose_spec.2.2.w.ok
structure PR (ou:Outer)(m:Ms):Prop where
 ok:OuOk ou
 m0:∃tc ec vc kc fu fc,ou 0=some (.cells (mC tc ec vc kc m.out m.steps fu fc))
theorem M0.pr{fu:Int}{fc:FcT}{ou:Outer}{H:Hm}{nm:Nm2}{m:Ms}{tc ec vc kc:AC}(h:M0 fu fc ou H nm m tc ec vc kc):PR ou m:=⟨h.w.ok,⟨_,_,_,_,_,_,h.m0⟩⟩
def StQ (fu:Int)(fc:FcT)(H:Hm)(nm:Nm2)(x:Except Int Ms):FV->Outer->Prop:=fun r ou'=>r=unitF/\∃H' nm' m',x=.ok m'/\Mo H nm H' nm'/\MR fu fc ou' H' nm' m'
def StP (m:Ms)(x:Except Int Ms):List PanicEntry->Outer->Prop:=fun ps ou'=>∃c,x=.error c/\ps=trapE c/\PR ou' m
theorem M0.ouX{fu:Int}{fc:FcT}{ou:Outer}{H:Hm}{nm:Nm2}{m:Ms}{tc ec vc kc:AC}(h:M0 fu fc ou H nm m tc ec vc kc):ou=ouX (mC tc ec vc kc m.out m.steps fu fc) m.out.length ou:=Qce h.m0
theorem KR.cell{H:Hm}{nm:Nm2}{t:Tr}{e:En}{d:List Vl}{k:List Fm}{c:AC}(h:KR H nm (.mk t e d::k) c):∃ec dc kc,c=.box [.box (cTr t),ec,.sl 1 dc,kc]/\ER H nm e ec/\VsR H nm d dc/\KR H nm k kc:=by
 cases h with
 |cons _ _ _ _ ec dc kc he hd hk=>exact⟨ec,dc,kc,rfl,he,hd,hk⟩
theorem MR.ofEv{fu:Int}{fc:FcT}{mc:List AC}{n:Nat}{ou0 ou':Outer}{H:Hm}{nm:Nm2}{m:Ms}{e:En}{s:Tr}{k:List Fm}{ec vc kc:AC}(w:WR (ouX mc n ou0) H nm m.heap)(he:ER H nm e ec)(hk:KR H nm k kc)(hv:vc.ids isO)(hf:fc.ids isO)
  (h0:ou' 0=some (.cells (mC (.box (cTr s)) ec vc kc m.out m.steps fu fc))) (h1:mc[4]?=some (.gs 1 (m.out.map cI) (.o fc.kt))) (h2:∀k,ou' (k+1)=ou0 (k+1)):MR fu fc ou' H nm { m with c:=.ev s e,k:=k }:=
 have hi:idsL isO (mC (.box (cTr s)) ec vc kc m.out m.steps fu fc):=by simp[mC,he.ids,hk.ids,hv,hf]
 ⟨fc.kt,_,_,_,_,.ev s e ec vc he,hk,⟨by simp,he.ids,hv,hk.ids⟩,h0,w.put hi h0 h1.symm h2⟩
theorem MR.ofRt{fu:Int}{fc:FcT}{mc:List AC}{n:Nat}{ou0 ou':Outer}{H:Hm}{nm:Nm2}{m:Ms}{v:Vl}{k:List Fm}{ec vc kc:AC}(w:WR (ouX mc n ou0) H nm m.heap)(he:VR H nm v vc)(hk:KR H nm k kc)(hv:ec.ids isO)(hf:fc.ids isO)
  (h0:ou' 0=some (.cells (mC nilPE ec vc kc m.out m.steps fu fc))) (h1:mc[4]?=some (.gs 1 (m.out.map cI) (.o fc.kt))) (h2:∀k,ou' (k+1)=ou0 (k+1)):MR fu fc ou' H nm { m with c:=.rt v,k:=k }:=
 have hi:idsL isO (mC nilPE ec vc kc m.out m.steps fu fc):=by simp[mC,he.ids,hk.ids,hv,hf,nilPE]
 ⟨fc.kt,_,_,_,_,.rt v ec vc he,hk,⟨trivial,hv,he.ids,hk.ids⟩,h0,w.put hi h0 h1.symm h2⟩
theorem Qhl(hΓ:∀g cs,(g,cs)∈Γ->idsL isO cs){fu:Int}{fc:FcT}{fns:List Fun}{ou:Outer}{H:Hm}{nm:Nm2}{m:Ms}{tc0 ec0 vc0 kc0:AC}(h0:M0 fu fc ou H nm m tc0 ec0 vc0 kc0)(hfc:fc.ids isO)
  {t:Tr}{e:En}{d:List Vl}{k:List Fm}{ec:AC}{dc:List (List AC)}{kc:AC}(he:ER H nm e ec) (hd:VsR H nm d dc) (hk:KR H nm k kc){s:Tr}(hlt:d.length < opdN t) (hs:t.kids[d.length]?=some s):
  AFnP Tryz.prog Γ 69 [.one (.ptr (.o 0) 0),.one (.box [.box (cTr t),ec,.sl 1 dc,kc])] ou (StQ fu fc H nm (kidM fu fns m (.mk t e d) k)) (StP m (kidM fu fns m (.mk t e d) k)):=by
 have hoX:=h0.ouX
 have hei:=he.ids
 have hdi:=hd.ids
 have hki:=hk.ids
 have hdl:=hd.len
 rw[hoX]
 have hw:=h0.w
 rw[hoX]at hw
 generalize hmc:ou=ou0 at hw
 clear hoX
 refine AFnP.walk 262 tabOk hΓ Tryz.func69 rfl (by kernel_rfl) rfl rfl fun hou=>?_
 refine zA ?_
 refine ACode.drawX tabOk 10 [(9,.one (int (opdN t)))] follows (by kernel_rfl) rfl rfl rfl rfl ?_ ?_
 ·exact⟨⟨_,rfl,AStep.callPure hΓ rfl rfl rfl (by simp[idsF]) hou (Q3k t)⟩,trivial⟩
 refine zA ?_
 refine ACode.cond rfl (fun hb=>?_) (fun hb=>absurd hb (by simp[hdl];exact hlt))
 refine zA ?_
 have hsc:(Q0l t.kids)[d.length]?=some [.box (cTr s)]:=Q0p hs
 generalize hM:ouX (mC tc0 ec0 vc0 kc0 m.out m.steps fu fc) m.out.length ou0=ou1 at hou hw ⊢
 subst hM
 refine ACode.drawC2 tabOk 28 [24,25,26,27] [(15,.one (.box [.box (cTr s)]))] (fun vs σ=>match vs with
   |[]=>σ=⟨0,[],ouX (mC tc0 ec0 vc0 kc0 m.out m.steps fu fc) m.out.length ou0⟩
   |[_]=>σ=⟨0,[],ouX (mC (.box (cTr s)) ec0 vc0 kc0 m.out m.steps fu fc) m.out.length ou0⟩
   |[_,v]=>v=.one (.ptr (.o 0) 0)/\σ=⟨0,[],ouX (mC (.box (cTr s)) ec0 vc0 kc0 m.out m.steps fu fc) m.out.length ou0⟩
   |[_,v,w]=>v=.one (.ptr (.o 0) 0)/\w=.one (.ptr (.o 0) 1)/\σ=⟨0,[],ouX (mC (.box (cTr s)) ec0 vc0 kc0 m.out m.steps fu fc) m.out.length ou0⟩
   |[_,v,w,_]=>v=.one (.ptr (.o 0) 0)/\w=.one (.ptr (.o 0) 1)/\σ=⟨0,[],ouX (mC (.box (cTr s)) ec vc0 kc0 m.out m.steps fu fc) m.out.length ou0⟩
   |_=>False) follows (by kernel_rfl) rfl rfl (by decide) (by kernel_rfl) (by kernel_rfl) rfl rfl ?_ ?_ (by decide) ?_ ?_
 ·intro vs σ h
  match vs with
  |[]=>subst h;rfl
  |[_]=>subst h;rfl
  |[_,_]=>obtain⟨_,rfl⟩:=h;rfl
  |[_,_,_]=>obtain⟨_,_,rfl⟩:=h;rfl
  |[_,_,_,_]=>obtain⟨_,_,rfl⟩:=h;rfl
  |_::_::_::_::_::_=>exact h.elim
 ·intro vs σ h
  exact⟨⟨_,rfl,zIA rfl rfl rfl (by omega) (by simpa[hdl]using hsc)⟩,trivial⟩
 ·intro vs σ h i o hi ho
  match vs with
  |[]=>subst h;cases hi;cases ho;exact⟨rfl,.inl (.inl ⟨.bot,_,AStep.ofStore tabOk rfl,setX _ _ _ _⟩)⟩
  |[_]=>subst h;cases hi;cases ho;exact⟨rfl,.inl (.inl ⟨_,_,AStep.ofOp tabOk rfl,rfl,rfl⟩)⟩
  |[_,_]=>obtain⟨rfl,rfl⟩:=h;cases hi;cases ho;exact⟨rfl,.inl (.inl ⟨_,_,AStep.ofOp tabOk rfl,rfl,rfl,rfl⟩)⟩
  |[_,_,_]=>obtain⟨rfl,rfl,rfl⟩:=h;cases hi;cases ho;exact⟨rfl,.inl (.inl ⟨.bot,_,AStep.ofStore tabOk rfl,rfl,rfl,setX _ _ _ _⟩)⟩
  |_::_::_::_::_=>cases hi
 ·intro vs σ hl h
  match vs with
  |[_,_,_,_]=>
   obtain⟨rfl,rfl,rfl⟩:=h
   refine zA ?_
   have hM:MR fu fc _ H nm { m with c:=.ev s e,k:=.mk t e d::k }:=MR.ofEv (ou':=(St.set ⟨0,[],ouX (mC (.box (cTr s)) ec vc0 kc0 m.out m.steps fu fc) m.out.length ou0⟩ (.o 0) (.cells (mC (.box (cTr s)) ec vc0 (.box [.box (cTr t),ec,.sl 1 dc,kc]) m.out m.steps fu fc))).ou) hw he (.cons t e d k ec dc kc he hd hk) h0.ids.2.2.1 hfc rfl rfl (fun _=>rfl)
   refine AFn.fin' rfl (WkF.refl _) (by simp) hM.ok ⟨rfl,H,nm,_,?_,.refl _ _,hM⟩
   unfold kidM
   rw[if_pos (show (Fm.mk t e d).done.length < opdN (Fm.mk t e d).t from hlt)]
   simp only[Fm.done_mk,Fm.t_mk,Fm.e_mk]
   rw[List.getD_eq_getElem?_getD,hs]
   rfl
  |[]|[_]|[_,_]|[_,_,_]=>cases hl
  |_::_::_::_::_::_=>exact h.elim
theorem ACode.stEq{E:Env}{c:Code}{K:Cont}{fr:Fr}{σ σ':St}(h:σ=σ')(k:ACode E c K fr σ'):ACode E c K fr σ:=h▸k
theorem AOps.stEq{E:Env}{ops:Array Oper}{l:List Oper}{K:Cont}{fr:Fr}{σ σ':St}(h:σ=σ')(k:AOps E ops l K fr σ'):AOps E ops l K fr σ:=h▸k
def GrP (mc:List AC)(n:Nat)(ou0:Outer)(H:Hm)(mc':List AC)(R:FV->Hm->Prop):FV->St->Prop:=fun v σ=>∃ou1 H1,σ=⟨0,[],ouX mc' n ou1⟩/\Gro (ouX mc n ou0) H (ouX mc n ou1) H1/\R v H1
theorem GrP.of{mc:List AC}{n:Nat}{ou0 ou':Outer}{H H1:Hm}{R:FV->Hm->Prop}{v:FV}(g:Gro (ouX mc n ou0) H ou' H1)(h:R v H1):GrP mc n ou0 H mc R v ⟨0,[],ou'⟩:=by
 have e:=Qce (n:=n) (g.old 0 _ rfl)
 refine⟨ou',H1,by rw[←e],?_,h⟩
 rw[←e];exact g
section
variable {fu:Int}{fc:FcT}{fns:List Fun}{ou:Outer}{H:Hm}{nm:Nm2}{m:Ms}{tc0 ec0 vc0 kc0:AC}{t:Tr}{e:En}{d:List Vl}{k:List Fm}{ec:AC}{dc:List (List AC)}{kc:AC}
theorem kid_let(hΓ:∀g cs,(g,cs)∈Γ->idsL isO cs)(h0:M0 fu fc ou H nm m tc0 ec0 vc0 kc0)(hfc:fc.ids isO)(he:ER H nm e ec)(hd:VsR H nm d dc)(hk:KR H nm k kc){v:Vl}(hdv:d=[v]){s:Tr}{id:Int}(h4:t.op=4)(hs:t.kids[1]?=some s)(hbn:t.binds=[id]):
  AFnP Tryz.prog Γ 69 [.one (.ptr (.o 0) 0),.one (.box [.box (cTr t),ec,.sl 1 dc,kc])] ou (StQ fu fc H nm (kidM fu fns m (.mk t e d) k)) (StP m (kidM fu fns m (.mk t e d) k)):=by
 have hoX:=h0.ouX
 have hei:=he.ids
 have hdi:=hd.ids
 have hki:=hk.ids
 have hdl:=hd.len
 have hop:opdN t=1:=by unfold opdN;rw[if_pos (.inl h4)]
 subst hdv
 obtain⟨y,hy,hvy⟩:=hd.get (i:=0) rfl
 rw[hoX]
 have hw:=h0.w
 rw[hoX]at hw
 generalize hmc:ou=ou0 at hw
 clear hoX
 refine AFnP.walk 262 tabOk hΓ Tryz.func69 rfl (by kernel_rfl) rfl rfl fun hou=>?_
 refine zA ?_
 refine ACode.drawX tabOk 10 [(9,.one (int (opdN t)))] follows (by kernel_rfl) rfl rfl rfl rfl ?_ ?_
 ·exact⟨⟨_,rfl,AStep.callPure hΓ rfl rfl rfl (by simp[idsF]) hou (Q3k t)⟩,trivial⟩
 refine zA ?_
 refine ACode.cond rfl (fun hb=>absurd hb (by simp[hdl,hop])) (fun hb=>?_)
 refine zA ?_
 refine ACode.stEq (σ':=⟨0,[],ouX (mC tc0 ec0 vc0 kc m.out m.steps fu fc) m.out.length ou0⟩) (setX _ _ _ _) ?_
 have hw1:WR (ouX (mC tc0 ec0 vc0 kc m.out m.steps fu fc) m.out.length ou0) H nm m.heap:=hw.put (by simp[mC,h0.ids.1,h0.ids.2.1,h0.ids.2.2.1,hki,hfc]) rfl rfl (fun _=>rfl)
 have hyi:=hvy.ids
 have hsc:(Q0l t.kids)[1]?=some [.box (cTr s)]:=Q0p hs
 have hbc:(t.binds.map cI)[0]?=some [int id]:=by rw[hbn];rfl
 refine ACode.cond rfl (fun _=>?_) (fun hb=>absurd hb (by simp[h4]))
 refine ACode.drawCS tabOk 34 30 31 32 33 (.one (.ptr (.o 0) 0)) (.one (.ptr (.o 0) 0)) [(9,.one (.box [.box (cTr s)])),(22,.one (.box [int id])),(28,.one (.box [y]))]
  (GrP (mC tc0 ec0 vc0 kc m.out m.steps fu fc) m.out.length ou0 H (mC tc0 ec0 vc0 kc m.out m.steps fu fc) fun v H1=>∃q,v=.one (.ptr (.o q) 0)/\H1 q=some [int id,y,ec])
  (GrP (mC tc0 ec0 vc0 kc m.out m.steps fu fc) m.out.length ou0 H (mC (.box (cTr s)) ec0 vc0 kc m.out m.steps fu fc) fun v H1=>∃q,v=.one (.ptr (.o q) 0)/\H1 q=some [int id,y,ec])
  follows (by kernel_rfl) rfl rfl (by decide) (by kernel_rfl) (by kernel_rfl) rfl rfl rfl rfl rfl rfl rfl ?_ ?_ ?_ ?_ ?_ ?_ ?_ ?_ ?_ ?_
 ·rintro v σ ⟨ou1,H1,rfl,_,_⟩;rfl
 ·rintro v σ ⟨ou1,H1,rfl,_,_⟩;rfl
 ·exact⟨⟨_,rfl,zIA rfl rfl rfl (by decide) hsc⟩,⟨_,rfl,zIA rfl rfl rfl (by decide) hbc⟩,⟨_,rfl,zIA rfl rfl rfl (by decide) hy⟩,trivial⟩
 ·rintro v σ ⟨ou1,H1,rfl,_,_⟩
  exact⟨⟨_,rfl,zIA rfl rfl rfl (by decide) hsc⟩,⟨_,rfl,zIA rfl rfl rfl (by decide) hbc⟩,⟨_,rfl,zIA rfl rfl rfl (by decide) hy⟩,trivial⟩
 ·rintro v σ ⟨ou1,H1,rfl,_,_⟩
  exact⟨⟨_,rfl,zIA rfl rfl rfl (by decide) hsc⟩,⟨_,rfl,zIA rfl rfl rfl (by decide) hbc⟩,⟨_,rfl,zIA rfl rfl rfl (by decide) hy⟩,trivial⟩
 ·refine Q2w.ofR (Q0k.call hΓ rfl rfl rfl rfl ⟨hei,trivial,hyi,trivial⟩ hw1.ok (Qeh id y ec hyi hei _) fun r ou' hq hr ho=>?_)
  obtain⟨q,rfl,hN⟩:=hq
  exact GrP.of (Gro.add hw1.inO hN) ⟨q,rfl,by simp[addH]⟩
 ·rintro v σ ⟨ou1,H1,rfl,_,q,rfl,_⟩;exact AStep.ofOp tabOk rfl
 ·rintro v σ ⟨ou1,H1,rfl,_,q,rfl,_⟩;exact AStep.ofOp tabOk rfl
 ·rintro v σ ⟨ou1,H1,rfl,h1,h2⟩;exact⟨_,⟨ou1,H1,setX _ _ _ _,h1,h2⟩,AStep.ofStore tabOk rfl⟩
 ·rintro v' σ ⟨ou1,H1,rfl,h1,q,rfl,h3⟩
  refine zA ?_
  have hw2:=hw1.gro h1 (by simp[ouX]) (by simp[ouX])
  have hM:MR fu fc _ H1 nm { m with c:=.ev s (.bind id v e),k:=k }:=MR.ofEv (ou':=(St.set ⟨0,[],ouX (mC (.box (cTr s)) ec0 vc0 kc m.out m.steps fu fc) m.out.length ou1⟩ (.o 0) (.cells (mC (.box (cTr s)) (.ptr (.o q) 0) vc0 kc m.out m.steps fu fc))).ou) hw2 (.bind id v e q y ec h3 (hvy.mo (h1.mo nm)) (he.mo (h1.mo nm))) (hk.mo (h1.mo nm)) h0.ids.2.2.1 hfc rfl rfl (fun _=>rfl)
  refine AFn.fin' rfl (WkF.refl _) (by simp) hM.ok ⟨rfl,H1,nm,_,?_,h1.mo nm,hM⟩
  unfold kidM
  rw[if_neg (show ¬(Fm.mk t e [v]).done.length < opdN (Fm.mk t e [v]).t by simp[hop]),if_pos (show (Fm.mk t e [v]).t.op=4 from h4)]
  simp only[Fm.done_mk,Fm.t_mk,Fm.e_mk,hbn]
  rw[List.getD_eq_getElem?_getD,hs]
  rfl
end
theorem setXs(N:Nat)(lo:List (Nat×AObj))(mc mc':List AC)(n:Nat)(ou:Outer):(⟨N,lo,ouX mc n ou⟩:St).set (.o 0) (.cells mc')=⟨N,lo,ouX mc' n ou⟩:=by
 have:=setX mc mc' n ou
 simp only[St.set,St.mk.injEq,true_and]at this ⊢
 exact this
def GrS (mc:List AC)(n:Nat)(ou0:Outer)(H:Hm)(mc':List AC)(L:Nat×List (Nat×AObj))(R:FV->Hm->Prop):FV->St->Prop:=fun v σ=>∃ou1 H1,σ=⟨L.1,L.2,ouX mc' n ou1⟩/\Gro (ouX mc n ou0) H (ouX mc n ou1) H1/\R v H1
theorem GrS.of{mc:List AC}{n:Nat}{ou0 ou':Outer}{H H1:Hm}{L:Nat×List (Nat×AObj)}{R:FV->Hm->Prop}{v:FV}(g:Gro (ouX mc n ou0) H ou' H1)(h:R v H1):GrS mc n ou0 H mc L R v ⟨L.1,L.2,ou'⟩:=by
 have e:=Qce (n:=n) (g.old 0 _ rfl)
 refine⟨ou',H1,by rw[←e],?_,h⟩
 rw[←e];exact g
section
variable {fu:Int}{fc:FcT}{fns:List Fun}{ou:Outer}{H:Hm}{nm:Nm2}{m:Ms}{tc0 ec0 vc0 kc:AC}{t:Tr}{e:En}{d:List Vl}{k:List Fm}{ec:AC}{dc:List (List AC)}
theorem Qam{tag:Int}{fs:List Vl}{e:En}{kids:List Tr}{a:Alt}{al:List Alt}{i:Nat}(h:al.drop i=a::al.drop (i+1))(h1:a.tag≠tag)(h2:a.tag≠-1):Q16 tag fs e kids i (al.drop i)=Q16 tag fs e kids (i+1) (al.drop (i+1)):=by
 rw[h,Q16,if_neg h1,if_neg h2]
theorem Qe8{v:Vl}(h:∀g fs,v≠.obj g fs):Q2a m t e v=.error 5:=by cases v <;> first|rfl|exact absurd rfl (h _ _)
theorem Qge(hΓ:∀g cs,(g,cs)∈Γ->idsL isO cs)(h0:M0 fu fc ou H nm m tc0 ec0 vc0 kc)(hfc:fc.ids isO)(he:ER H nm e ec)(hd:VsR H nm d dc)(hk:KR H nm k kc){v:Vl}(hdv:d[0]?=some v)(hkl:t.kids.length=1+t.alts.length)(hal:t.alts.length<=1048576)(hbl:∀a∈t.alts,a.binds.length<=1048576)(nx:AC)(hnx:nx.ids isO):
  AFnP Tryz.prog Γ 82 [.one (.ptr (.o 0) 0),.one (.box [.box (cTr t),ec,.sl 1 dc,nx])] ou (StQ fu fc H nm (Q2a { m with k:=k } t e v)) (StP m (Q2a { m with k:=k } t e v)):=by
 have hoX:=h0.ouX
 have hei:=he.ids
 have hdi:=hd.ids
 have hki:=hk.ids
 have hpr:=h0.pr
 obtain⟨y,hy,hvy⟩:=hd.get hdv
 have hyi:=hvy.ids
 rw[hoX]at hpr ⊢
 have hw:=h0.w
 rw[hoX]at hw
 generalize hmc:ou=ou0 at hw hpr
 clear hoX
 refine AFnP.walk 120 tabOk hΓ Tryz.func82 rfl (by kernel_rfl) rfl rfl fun hou=>?_
 refine zA ?_
 refine zS (zIA rfl rfl rfl (by decide) hy) ?_
 refine zA ?_
 rcases hvy.isObj with ⟨g,fs,cs,rfl,rfl,hfs⟩|⟨ho,hno⟩
 ·refine zS (AStep.assertYes Q3p rfl rfl) ?_
  have hci:=hfs.ids
  have hcl:=hfs.len
  have hfcell:(FV.one (.box [.box (cTr t),ec,.sl 1 dc,nx])).ids isO:=⟨by simp,hei,hdi,hnx,trivial⟩
  have hocell:(FV.one (.box [int g,.sl 1 cs])).ids isO:=⟨trivial,hci,trivial⟩
  refine zA ?_
  refine ACode.loopR hΓ (α:=Nat) (fun i=>[(30,.one (int i)),(29,.one (int (t.alts.map cAlt).length)),(28,.one (.sl 2 (t.alts.map cAlt))),(4,.one (.box [int g,.sl 1 cs])),(1,.one (.box [.box (cTr t),ec,.sl 1 dc,nx])),(0,.one (.ptr (.o 0) 0))])
   (fun i => ⟨0, [], ouX (mC tc0 ec0 vc0 kc m.out m.steps fu fc) m.out.length ou0⟩) (fun n i => i <= t.alts.length /\ Q16 g fs e t.kids i (t.alts.drop i) = Q16 g fs e t.kids 0 t.alts /\ n = t.alts.length - i) (a0 := 0) (ρ := _root_.id) ⟨by simp, by simp, rfl⟩
   (LessR.of rfl zFW (by simp [Q4f hei, Q42 hdi, Q4f hnx, Q42 hci]) zLO rfl rfl hou) fun n i hi => ?_
  obtain⟨hil,hch,rfl⟩:=hi
  refine zA ?_
  refine ACode.cond rfl (fun hb2=>?_) (fun hb2=>?_)
  ·have hlt:i < t.alts.length:=by simpa using hb2
   clear hb2
   obtain⟨a,ha⟩:=Q01 hlt
   have hdr:t.alts.drop i=a::t.alts.drop (i+1):=by
    rw[List.drop_eq_getElem_cons hlt]
    congr 1
    exact Option.some.inj ((List.getElem?_eq_getElem hlt).symm.trans ha)
   refine zA ?_
   refine zS (zIA rfl rfl rfl (by omega) (Q04 ha)) ?_
   refine zA ?_
   have hk1:1+i < t.kids.length:=by omega
   obtain⟨s,hs⟩:=Q01 hk1
   have hsc:(Q0l t.kids)[1+i]?=some [.box (cTr s)]:=Q0p hs
   have hgd:t.kids.getD (1+i) default=s:=by rw[List.getD_eq_getElem?_getD,hs];rfl
   have hadd:Q71 .i64 ((1:Int)+(i:Int)):=Q2l (by omega) (by omega)
   have hix:(Q0l t.kids)[((1:Int)+(i:Int)).toNat]?=some [.box (cTr s)]:=by rw[show ((1:Int)+(i:Int)).toNat=1+i by omega];exact hsc
   by_cases htag:a.tag=g
   ·refine ACode.drawX tabOk 18 [(6,.one (.lit (.bool true)))] follows (by kernel_rfl) rfl rfl rfl rfl ?_ ?_
    ·exact .step rfl (HStep.litB tabOk rfl (by simp[htag])) .nil
    refine zA ?_
    refine ACode.cond rfl (fun hb3=>?_) (fun hb3=>?_)
    ·refine zA ?_
     refine zS (AStep.mkIfcA Q99 rfl rfl) ?_
     refine AOps.panicI rfl rfl rfl fun w C v hv=>⟨hou,5,?_,Q8e hv,hpr⟩
     unfold Q2a
     simp only[←hch]
     rw[hdr,Q16,if_pos htag,if_neg (by simp[hcl]at hb3;omega)]
     rfl
    ·have hlen:a.binds.length=fs.length:=by simp[hcl]at hb3;omega
     refine zA ?_
     refine ACode.drawX tabOk 7 [(6,.one (.lit (.bool true)))] follows (by kernel_rfl) rfl rfl rfl rfl ?_ ?_
     ·exact .step rfl (HStep.litB tabOk rfl (by simp[htag])) .nil
     refine zA ?_
     refine ACode.drawCS tabOk 27 23 24 25 26 (.one (.ptr (.o 0) 0)) (.one (.ptr (.o 0) 0)) [(10,.one (int ((1:Int)+(i:Int)))),(11,.one (.box [.box (cTr s)]))]
      (GrS (mC tc0 ec0 vc0 kc m.out m.steps fu fc) m.out.length ou0 H (mC tc0 ec0 vc0 kc m.out m.steps fu fc) (1,[(0,.cells (cAlt a)),(0,.cells [int 0,.lit (.slice none 0 0)])]) fun v H1=>∃c,v=.one c/\ER H1 nm (allE e a.binds fs) c)
      (GrS (mC tc0 ec0 vc0 kc m.out m.steps fu fc) m.out.length ou0 H (mC (.box (cTr s)) ec0 vc0 kc m.out m.steps fu fc) (1,[(0,.cells (cAlt a)),(0,.cells [int 0,.lit (.slice none 0 0)])]) fun v H1=>∃c,v=.one c/\ER H1 nm (allE e a.binds fs) c)
      follows (by kernel_rfl) rfl rfl (by decide) (by kernel_rfl) (by kernel_rfl) rfl rfl rfl rfl rfl rfl rfl ?_ ?_ ?_ ?_ ?_ ?_ ?_ ?_ ?_ ?_
     ·rintro v σ ⟨ou1,H1,rfl,_,_⟩;rfl
     ·rintro v σ ⟨ou1,H1,rfl,_,_⟩;rfl
     ·exact⟨⟨_,rfl,AStep.arith rfl rfl rfl (.inl ⟨rfl,rfl⟩) hadd⟩,⟨_,rfl,zIA rfl rfl rfl (by omega) hix⟩,trivial⟩
     ·rintro v σ ⟨ou1,H1,rfl,_,_⟩
      exact⟨⟨_,rfl,AStep.arith rfl rfl rfl (.inl ⟨rfl,rfl⟩) hadd⟩,⟨_,rfl,zIA rfl rfl rfl (by omega) hix⟩,trivial⟩
     ·rintro v σ ⟨ou1,H1,rfl,_,_⟩
      exact⟨⟨_,rfl,AStep.arith rfl rfl rfl (.inl ⟨rfl,rfl⟩) hadd⟩,⟨_,rfl,zIA rfl rfl rfl (by omega) hix⟩,trivial⟩
     ·refine Q2w.ofR (Q0k.call hΓ rfl rfl rfl rfl ⟨hei,by simp,hci,trivial⟩ hw.ok (Qgh hΓ he hfs hlen (hbl a (List.mem_of_getElem? ha)) _ hw.inO) fun r ou' hq hr ho=>?_)
      obtain⟨H1,c,rfl,hg,hec⟩:=hq
      exact GrS.of hg ⟨c,rfl,hec⟩
     ·rintro v σ ⟨ou1,H1,rfl,_,_,rfl,_⟩;exact AStep.ofOp tabOk rfl
     ·rintro v σ ⟨ou1,H1,rfl,_,_,rfl,_⟩;exact AStep.ofOp tabOk rfl
     ·rintro v σ ⟨ou1,H1,rfl,h1,h2⟩;exact⟨_,⟨ou1,H1,setXs _ _ _ _ _ _,h1,h2⟩,AStep.ofStore tabOk rfl⟩
     ·rintro v' σ ⟨ou1,H1,rfl,h1,c,rfl,h3⟩
      refine zA ?_
      have hw2:=hw.gro h1 (by simp[ouX]) (by simp[ouX])
      have hM:MR fu fc _ H1 nm { m with c:=.ev s (allE e a.binds fs),k:=k }:=MR.ofEv (ou':=(St.set ⟨0,[],ouX (mC (.box (cTr s)) ec0 vc0 kc m.out m.steps fu fc) m.out.length ou1⟩ (.o 0) (.cells (mC (.box (cTr s)) c vc0 kc m.out m.steps fu fc))).ou) hw2 h3 (hk.mo (h1.mo nm)) h0.ids.2.2.1 hfc rfl rfl (fun _=>rfl)
      refine AFn.fin' rfl (WkF.refl _) (by simp) hM.ok ⟨rfl,H1,nm,_,?_,h1.mo nm,hM⟩
      unfold Q2a
      simp only[←hch]
      rw[hdr,Q16,if_pos htag,if_pos hlen,hgd]
      rfl
   ·refine ACode.drawX tabOk 18 [(6,.one (.lit (.bool false)))] follows (by kernel_rfl) rfl rfl rfl rfl ?_ ?_
    ·exact .step rfl (HStep.litB tabOk rfl (by simp[htag])) .nil
    refine zA ?_
    refine ACode.drawX tabOk 7 [(6,.one (.lit (.bool false)))] follows (by kernel_rfl) rfl rfl rfl rfl ?_ ?_
    ·exact .step rfl (HStep.litB tabOk rfl (by simp[htag])) .nil
    refine zA ?_
    refine ACode.cond rfl (fun hb3=>?_) (fun hb3=>?_)
    ·have h1:a.tag=-1:=by simpa using hb3
     refine zA ?_
     refine ACode.drawSt tabOk 20 19 [(10,.one (int ((1:Int)+(i:Int)))),(11,.one (.box [.box (cTr s)]))] _ follows (by kernel_rfl) rfl rfl (by kernel_rfl) rfl ?_ rfl rfl rfl rfl ?_ ?_ (AStep.ofStore tabOk rfl) ?_
     ·rfl
     ·exact⟨⟨_,rfl,AStep.arith rfl rfl rfl (.inl ⟨rfl,rfl⟩) hadd⟩,⟨_,rfl,zIA rfl rfl rfl (by omega) hix⟩,trivial⟩
     ·exact⟨⟨_,rfl,AStep.arith rfl rfl rfl (.inl ⟨rfl,rfl⟩) hadd⟩,⟨_,rfl,zIA rfl rfl rfl (by omega) hix⟩,trivial⟩
     refine zA ?_
     have hM:MR fu fc _ H nm { m with c:=.ev s e,k:=k }:=MR.ofEv (ou':=(St.set (St.set ⟨0,[],ouX (mC tc0 ec0 vc0 kc m.out m.steps fu fc) m.out.length ou0⟩ (.o 0) (.cells (mC (.box (cTr s)) ec0 vc0 kc m.out m.steps fu fc))) (.o 0) (.cells (mC (.box (cTr s)) ec vc0 kc m.out m.steps fu fc))).ou) hw he hk h0.ids.2.2.1 hfc rfl rfl (fun _=>rfl)
     refine AFn.fin' rfl (WkF.refl _) (by simp) hM.ok ⟨rfl,H,nm,_,?_,.refl _ _,hM⟩
     unfold Q2a
     simp only[←hch]
     rw[hdr,Q16,if_neg htag,if_pos h1,hgd]
     rfl
    ·have h1:a.tag≠-1:=by simpa using hb3
     refine zM ?_
     exact cInv ⟨t.alts.length - (i+1),i+1,fun k=>k,by omega,⟨by omega,by rw[←Qam hdr htag h1];exact hch,rfl⟩,LessR.of rfl zFW (by simp[Q4f hei,Q42 hdi,Q4f hnx,Q42 hci]) zLO rfl rfl hou⟩
  ·have hlt:i=t.alts.length:=by simp at hb2;omega
   subst hlt
   refine zA ?_
   refine zS (AStep.mkIfcA Q99 rfl rfl) ?_
   refine AOps.panicI rfl rfl rfl fun w C v hv=>⟨hou,3,?_,Q8e hv,hpr⟩
   rw[List.drop_length]at hch
   unfold Q2a
   simp only[←hch,Q16]
   rfl
 ·refine zS (AStep.assertNo Q3p rfl zObj rfl rfl hno) ?_
  refine zA ?_
  refine zS (AStep.mkIfcA Q99 rfl rfl) ?_
  refine AOps.panicI rfl rfl rfl fun w C v hv=>⟨hou,5,?_,Q8e hv,hpr⟩
  exact Qe8 ho
end
section
variable {fu:Int}{fc:FcT}{fns:List Fun}{ou:Outer}{H:Hm}{nm:Nm2}{m:Ms}{tc0 ec0 vc0 kc:AC}{k:List Fm}
end
theorem AFnP.toF{P:Program}{g:Nat}{args:List FV}{ou:Outer}{Q:FV->Outer->Prop}{QP:List PanicEntry->Outer->Prop}(h:AFnP P Γ g args ou Q QP)(hn:∀ps ou',¬QP ps ou'):AFn P Γ g args ou Q:=
 ⟨h.1,fun F w C cargs h0 hi hr=>(h.2 F w C cargs h0 hi hr).mono fun e w' hh=>hh.elim id fun ⟨ps,ou',C',_,_,_,_,hq⟩=>(hn _ _ hq).elim⟩
theorem AFnP.okStep{fu:Int}{fc:FcT}{H:Hm}{nm:Nm2}{m:Ms}{x:Except Int Ms}{m':Ms}{g:Nat}{args:List FV}{ou:Outer}(h:AFnP Tryz.prog Γ g args ou (StQ fu fc H nm x) (StP m x))(hx:x=.ok m'):AFn Tryz.prog Γ g args ou (StQ fu fc H nm x):=
 AFnP.toF h fun ps ou' ⟨c,hc,_⟩=>by rw[hx]at hc;cases hc
def inW (n:Int):Prop:=-1073741824<=n/\n<=1073741823
section
variable {H:Hm}{nm:Nm2}
theorem VsR.nilE{cs:List (List AC)}(h:VsR H nm [] cs):cs=[]:=by cases h;rfl
theorem VsR.consE{v:Vl}{l:List Vl}{cs:List (List AC)}(h:VsR H nm (v::l) cs):∃c ds,cs=[c]::ds/\VR H nm v c/\VsR H nm l ds:=by
 cases h with
 |cons _ c _ ds hv hl=>exact⟨c,ds,rfl,hv,hl⟩
theorem VR.wordE{n:Int}{c:AC}(h:VR H nm (.word n) c):c=iW n:=by cases h;rfl
theorem Qh8(hΓ:∀g cs,(g,cs)∈Γ->idsL isO cs){fu:Int}{m m':Ms}{n x y:Int}{v:Vl}(hn:n=0∨n=1∨n=2∨n=5∨n=6)(hx:inW x)(hy:inW y)(hv:primM fu m n [.word x,.word y]=.ok (m',v))(ou:Outer):
  m'=m/\∃c,VR H nm v c/\AFn Tryz.prog Γ 104 [.one (.ptr (.o 0) 0),.one (int n),.one (.sl 1 [[iW x],[iW y]])] ou (fun r ou'=>r=.one c/\ou'=ou):=by
 obtain⟨hx0,hx1⟩:=hx
 obtain⟨hy0,hy1⟩:=hy
 have hm1:-2305843009213693952<=x * y/\x * y<=2305843009213693952:=by
  have h1:(x * y).natAbs<=1073741824 * 1073741824:=by
   rw[Int.natAbs_mul];exact Nat.mul_le_mul (by omega) (by omega)
  omega
 have w1:=wrapW
 rcases hn with rfl|rfl|rfl|rfl|rfl
 ·cases hv
  refine⟨rfl,iW (wrapW (x+y)),.word _,?_⟩
  refine AFn.walk 152 tabOk Tryz.func104 rfl (by kernel_rfl) rfl rfl fun hou=>?_
  refine zA ?_
  refine ACode.drawX tabOk 11 [(1,.one (.box [iW x])),(3,.one (int x)),(5,.one (.box [iW y])),(7,.one (int y)),(8,.one (int (x+y))),(9,.one (int (wrapW (x+y)))),(10,.one (iW (wrapW (x+y))))] follows (by kernel_rfl) rfl rfl rfl rfl ?_ ?_
  ·exact⟨⟨_,rfl,zIA rfl rfl rfl (by decide) rfl⟩,⟨_,rfl,AStep.callPure hΓ rfl rfl rfl (by simp[idsF,iW]) hou (Q1s x)⟩,⟨_,rfl,zIA rfl rfl rfl (by decide) rfl⟩,⟨_,rfl,AStep.callPure hΓ rfl rfl rfl (by simp[idsF,iW]) hou (Q1s y)⟩,⟨_,rfl,AStep.arith rfl rfl rfl (.inl ⟨rfl,rfl⟩) zI⟩,⟨_,rfl,AStep.callPure hΓ rfl rfl rfl (by simp[idsF]) hou (Q96 _ (by omega) (by omega))⟩,⟨_,rfl,AStep.mkIfc conc3 rfl rfl⟩,trivial⟩
  refine zA ?_
  exact AFn.fin' rfl (WkF.ofEq rfl) (by simp[iW]) hou ⟨rfl,rfl⟩
 ·cases hv
  refine⟨rfl,iW (wrapW (x - y)),.word _,?_⟩
  refine AFn.walk 152 tabOk Tryz.func104 rfl (by kernel_rfl) rfl rfl fun hou=>?_
  refine zA ?_
  refine ACode.drawX tabOk 11 [(1,.one (.box [iW x])),(3,.one (int x)),(5,.one (.box [iW y])),(7,.one (int y)),(8,.one (int (x - y))),(9,.one (int (wrapW (x - y)))),(10,.one (iW (wrapW (x - y))))] follows (by kernel_rfl) rfl rfl rfl rfl ?_ ?_
  ·exact⟨⟨_,rfl,zIA rfl rfl rfl (by decide) rfl⟩,⟨_,rfl,AStep.callPure hΓ rfl rfl rfl (by simp[idsF,iW]) hou (Q1s x)⟩,⟨_,rfl,zIA rfl rfl rfl (by decide) rfl⟩,⟨_,rfl,AStep.callPure hΓ rfl rfl rfl (by simp[idsF,iW]) hou (Q1s y)⟩,⟨_,rfl,AStep.arith rfl rfl rfl (.inr (.inl ⟨rfl,rfl⟩)) zI⟩,⟨_,rfl,AStep.callPure hΓ rfl rfl rfl (by simp[idsF]) hou (Q96 _ (by omega) (by omega))⟩,⟨_,rfl,AStep.mkIfc conc3 rfl rfl⟩,trivial⟩
  refine zA ?_
  exact AFn.fin' rfl (WkF.ofEq rfl) (by simp[iW]) hou ⟨rfl,rfl⟩
 ·cases hv
  refine⟨rfl,iW (wrapW (x * y)),.word _,?_⟩
  refine AFn.walk 152 tabOk Tryz.func104 rfl (by kernel_rfl) rfl rfl fun hou=>?_
  refine zA ?_
  refine ACode.drawX tabOk 11 [(1,.one (.box [iW x])),(3,.one (int x)),(5,.one (.box [iW y])),(7,.one (int y)),(8,.one (int (x * y))),(9,.one (int (wrapW (x * y)))),(10,.one (iW (wrapW (x * y))))] follows (by kernel_rfl) rfl rfl rfl rfl ?_ ?_
  ·exact⟨⟨_,rfl,zIA rfl rfl rfl (by decide) rfl⟩,⟨_,rfl,AStep.callPure hΓ rfl rfl rfl (by simp[idsF,iW]) hou (Q1s x)⟩,⟨_,rfl,zIA rfl rfl rfl (by decide) rfl⟩,⟨_,rfl,AStep.callPure hΓ rfl rfl rfl (by simp[idsF,iW]) hou (Q1s y)⟩,⟨_,rfl,AStep.arith rfl rfl rfl (.inr (.inr ⟨rfl,rfl⟩)) zI⟩,⟨_,rfl,AStep.callPure hΓ rfl rfl rfl (by simp[idsF]) hou (Q96 _ (by omega) (by omega))⟩,⟨_,rfl,AStep.mkIfc conc3 rfl rfl⟩,trivial⟩
  refine zA ?_
  exact AFn.fin' rfl (WkF.ofEq rfl) (by simp[iW]) hou ⟨rfl,rfl⟩
 ·cases hv
  refine⟨rfl,iB tObj [int (if decide (x < y)then 1 else 0),.sl 1 []],.obj _ [] [] .nil,?_⟩
  refine AFn.walk 152 tabOk Tryz.func104 rfl (by kernel_rfl) rfl rfl fun hou=>?_
  refine zA ?_
  refine ACode.drawX tabOk 10 [(1,.one (.box [iW x])),(3,.one (int x)),(5,.one (.box [iW y])),(7,.one (int y)),(9,.one (iB tObj [int (if decide (x < y)then 1 else 0),.sl 1 []]))] follows (by kernel_rfl) rfl rfl rfl rfl ?_ ?_
  ·exact⟨⟨_,rfl,zIA rfl rfl rfl (by decide) rfl⟩,⟨_,rfl,AStep.callPure hΓ rfl rfl rfl (by simp[idsF,iW]) hou (Q1s x)⟩,⟨_,rfl,zIA rfl rfl rfl (by decide) rfl⟩,⟨_,rfl,AStep.callPure hΓ rfl rfl rfl (by simp[idsF,iW]) hou (Q1s y)⟩,⟨_,rfl,AStep.callPure hΓ rfl rfl rfl (by simp[idsF]) hou (Q62 _)⟩,trivial⟩
  refine zA ?_
  exact AFn.fin' rfl (WkF.ofEq rfl) (by simp[iB]) hou ⟨rfl,rfl⟩
 ·cases hv
  refine⟨rfl,iB tObj [int (if decide (x=y)then 1 else 0),.sl 1 []],.obj _ [] [] .nil,?_⟩
  refine AFn.walk 152 tabOk Tryz.func104 rfl (by kernel_rfl) rfl rfl fun hou=>?_
  refine zA ?_
  refine ACode.drawX tabOk 10 [(1,.one (.box [iW x])),(3,.one (int x)),(5,.one (.box [iW y])),(7,.one (int y)),(9,.one (iB tObj [int (if decide (x=y)then 1 else 0),.sl 1 []]))] follows (by kernel_rfl) rfl rfl rfl rfl ?_ ?_
  ·exact⟨⟨_,rfl,zIA rfl rfl rfl (by decide) rfl⟩,⟨_,rfl,AStep.callPure hΓ rfl rfl rfl (by simp[idsF,iW]) hou (Q1s x)⟩,⟨_,rfl,zIA rfl rfl rfl (by decide) rfl⟩,⟨_,rfl,AStep.callPure hΓ rfl rfl rfl (by simp[idsF,iW]) hou (Q1s y)⟩,⟨_,rfl,AStep.callPure hΓ rfl rfl rfl (by simp[idsF]) hou (Q62 _)⟩,trivial⟩
  refine zA ?_
  exact AFn.fin' rfl (WkF.ofEq rfl) (by simp[iB]) hou ⟨rfl,rfl⟩
end
end Go.Proofs.YtdpdlkgecmgokaaGreatDoor
namespace Go.Abs
section
variable {E:Env}{o:Oper}{fr:Fr}{σ:St}{t T0 el yt:TypeId}{x y:Operand}
end
end Go.Abs
namespace Go.Proofs.YtdpdlkgecmgokaaGreatDoor
open Go Go.Abs Go.CoreX
variable {Γ:List (Nat×List AC)}
section
variable {fu:Int}{fc:FcT}{fns:List Fun}{ou:Outer}{H:Hm}{nm:Nm2}{m:Ms}{ec vc kc:AC}{t:Tr}{e:En}
theorem StQ.fin{E:Env}{fn:Func}{fr:Fr}{σ:St}{H':Hm}{nm':Nm2}{x:Except Int Ms}{m':Ms}(h:aRes E.T fr σ fn.results.toList=some unitF)(hx:x=.ok m')(hm:Mo H nm H' nm')(hM:MR fu fc σ.ou H' nm' m'):Fin E fn (StQ fu fc H nm x) fr σ:=
 AFn.fin' h (WkF.refl _) (by simp[unitF]) hM.ok ⟨rfl,H',nm',m',hx,hm,hM⟩
def Q9e (fu:Int)(fc:FcT)(ou:Outer)(H:Hm)(nm:Nm2)(m':Ms)(Γ:List (Nat×List AC)):Prop:=AFn Tryz.prog Γ 71 [.one (.ptr (.o 0) 0)] ou (StQ fu fc H nm (.ok m'))
theorem Qeq(hΓ:∀g cs,(g,cs)∈Γ->idsL isO cs)(h0:M0 fu fc ou H nm m (.box (cTr t)) ec vc kc)(hfc:fc.ids isO)(hk:KR H nm m.k kc)(h1:t.op=1):Q9e fu fc ou H nm { m with c:=.rt (.word t.n) } Γ:=by
 unfold Q9e
 have hoX:=h0.ouX
 rw[hoX]
 have hw:=h0.w
 rw[hoX]at hw
 generalize hmc:ou=ou0 at hw
 clear hoX
 refine AFn.walk 149 tabOk Tryz.func71 rfl (by kernel_rfl) rfl rfl fun hou=>?_
 cases t with
 |mk to tn tb tk ta=>
 obtain rfl:to=1:=h1
 refine zA ?_
 refine zS (AStep.mkIfc conc3 rfl rfl) ?_
 refine zA ?_
 exact StQ.fin rfl rfl (.refl _ _) (MR.ofRt hw (.word tn) hk h0.ids.2.1 hfc rfl rfl (fun _=>rfl))
theorem Qeo(hΓ:∀g cs,(g,cs)∈Γ->idsL isO cs)(h0:M0 fu fc ou H nm m (.box (cTr t)) ec vc kc)(hfc:fc.ids isO)(he:ER H nm e ec)(hk:KR H nm m.k kc)(h1:t.op=0):Q9e fu fc ou H nm { m with c:=.rt (findE t.n e) } Γ:=by
 unfold Q9e
 have hei:=he.ids
 have hki:=hk.ids
 have hoX:=h0.ouX
 rw[hoX]
 have hw:=h0.w
 rw[hoX]at hw
 generalize hmc:ou=ou0 at hw
 clear hoX
 obtain⟨l,hch,hfd⟩:=he.ch
 have hv:=hfd t.n
 have hvi:=hv.ids
 refine AFn.walk 149 tabOk Tryz.func71 rfl (by kernel_rfl) rfl rfl fun hou=>?_
 cases t with
 |mk to tn tb tk ta=>
 obtain rfl:to=0:=h1
 have hw1:WR (ouX (mC nilPE ec vc kc m.out m.steps fu fc) m.out.length ou0) H nm m.heap:=hw.put (by simp[mC,h0.ids.2.2.1,hei,hki,hfc,nilPE]) rfl rfl (fun _=>rfl)
 refine zA ?_
 refine ACode.drawSt tabOk 14 13 [(10,.one (lookI tn l))] _ follows (by kernel_rfl) rfl rfl (by kernel_rfl) rfl ?_ rfl rfl rfl rfl ?_ ?_ (AStep.ofStore tabOk rfl) ?_
 ·rfl
 ·exact⟨⟨_,rfl,AStep.callE hΓ rfl rfl rfl rfl ⟨hei,trivial,trivial⟩ hou (Qg6 hΓ hch tn _ hw.inO hei hvi)⟩,trivial⟩
 ·show Q07 _ _ _ (St.set ⟨0,[],ouX (mC (.box (cTr (.mk 0 tn tb tk ta))) ec vc kc m.out m.steps fu fc) m.out.length ou0⟩ (.o 0) (.cells (mC nilPE ec vc kc m.out m.steps fu fc))) _ _
  rw[setX]
  exact⟨⟨_,rfl,AStep.callE hΓ rfl rfl rfl rfl ⟨hei,trivial,trivial⟩ hw1.ok (Qg6 hΓ hch tn _ hw1.inO hei hvi)⟩,trivial⟩
 refine zA ?_
 exact StQ.fin rfl rfl (.refl _ _) (MR.ofRt hw hv hk hei hfc rfl rfl (fun _=>rfl))
theorem Qer(hΓ:∀g cs,(g,cs)∈Γ->idsL isO cs)(h0:M0 fu fc ou H nm m (.box (cTr t)) ec vc kc)(he:ER H nm e ec)(hk:KR H nm m.k kc)(h1:¬(t.op=0∨t.op=1∨t.op=2∨t.op=17∨t.op=5)){x:Except Int Ms}
  (hkid:AFn Tryz.prog Γ 69 [.one (.ptr (.o 0) 0),.one (.box [.box (cTr t),ec,.sl 1 [],kc])] ou (StQ fu fc H nm x)):AFn Tryz.prog Γ 71 [.one (.ptr (.o 0) 0)] ou (StQ fu fc H nm x):=by
 have hei:=he.ids
 have hki:=hk.ids
 have hoX:=h0.ouX
 rw[hoX]at hkid ⊢
 generalize hmc:ou=ou0 at hkid
 clear hoX
 refine AFn.walk 149 tabOk Tryz.func71 rfl (by kernel_rfl) rfl rfl fun hou=>?_
 cases t with
 |mk to tn tb tk ta=>
 simp only[Tr.op]at h1
 have e0:to≠0:=fun e=>h1 (.inl e)
 have e1:to≠1:=fun e=>h1 (.inr (.inl e))
 have e2:to≠2:=fun e=>h1 (.inr (.inr (.inl e)))
 have e17:to≠17:=fun e=>h1 (.inr (.inr (.inr (.inl e))))
 have e5:to≠5:=fun e=>h1 (.inr (.inr (.inr (.inr e))))
 refine zA ?_
 refine ACode.cond rfl (fun hb=>absurd (by simpa using hb) e0) (fun _=>?_)
 refine zA ?_
 refine ACode.cond rfl (fun hb=>absurd (by simpa using hb) e1) (fun _=>?_)
 refine zA ?_
 refine ACode.cond rfl (fun hb=>absurd (by simpa using hb) e2) (fun _=>?_)
 refine zA ?_
 refine ACode.cond rfl (fun hb=>absurd (by simpa using hb) e17) (fun _=>?_)
 refine zA ?_
 refine ACode.cond rfl (fun hb=>absurd (by simpa using hb) e5) (fun _=>?_)
 refine zA ?_
 refine ACode.drawXH (va:=.one (.ptr (.l 0) 0)) (σ1:=St.push ⟨0,[],ouX (mC (.box (cTr (.mk to tn tb tk ta))) ec vc kc m.out m.steps fu fc) m.out.length ou0⟩ (.cells [.box (cTr (.mk to tn tb tk ta)),ec,.lit (.slice none 0 0),kc])) tabOk 12 11 [] follows (by kernel_rfl) rfl rfl rfl rfl rfl rfl rfl (HStep.auto tabOk rfl) trivial trivial ?_
 refine AOps.freeze1 (.l 0) 26 rfl rfl ?_
 refine AOps.wk 26 rfl (y:=.one (.box [.box (cTr (.mk to tn tb tk ta)),ec,.sl 1 [],kc])) (.one (Wk.box (.cons (.refl _) (.cons (.refl _) (.cons (.nilS 1) (.cons (.refl _) .nil)))))) ?_
 refine AOps.call1 hΓ rfl rfl rfl rfl rfl rfl rfl ⟨trivial,⟨by simp,hei,trivial,hki,trivial⟩,trivial⟩ hou hkid fun r ou' hq _ how=>?_
 obtain⟨rfl,H',nm',m',hx,hmo,hM⟩:=hq
 refine zA ?_
 exact StQ.fin rfl hx hmo hM
end
end Go.Proofs.YtdpdlkgecmgokaaGreatDoor
namespace Go.Abs
theorem CedFrN.consP{js:List Nat}{kk k:Nat}{y:FV}{fr r:Fr}(h:Fr.get k fr=some y)(hy:y.ids isO)(hr:CedFrN (toOs js kk) fr r):CedFrN (toOs js kk) fr ((k,y)::r):=
 .cons h (FV.sub_f (fun i hi=>by cases i with|l q=>exact hi.elim|o q=>rfl) y hy) hr
end Go.Abs
namespace Go.Proofs.YtdpdlkgecmgokaaGreatDoor
open Go Go.Abs Go.CoreX
variable {Γ:List (Nat×List AC)}
section
variable {t:Tr}{base top:AC}
end
section
variable {fu:Int}{fc:FcT}{fns:List Fun}{ou:Outer}{H:Hm}{nm:Nm2}{m:Ms}{ec vc kc:AC}{t:Tr}{e:En}
end
end Go.Proofs.YtdpdlkgecmgokaaGreatDoor
namespace Go.Abs
theorem CedFrN.gs{js:List Nat}{kk k j k' s:Nat}{es:List (List AC)}{fr r:Fr}(h:Fr.get k fr=some (.one (.gs s es (.l j))))(hes:idsS isO es)(hj:toOs js kk (.l j)=.o k')(hr:CedFrN (toOs js kk) fr r):CedFrN (toOs js kk) fr ((k,.one (.gs s es (.o k')))::r):=
 .cons h (by simp only[FV.sub,AC.sub];rw[hj,Q9m (fun i hi=>by cases i with|l q=>exact hi.elim|o q=>rfl) es hes]) hr
end Go.Abs
namespace Go.Proofs.YtdpdlkgecmgokaaGreatDoor
open Go Go.Abs Go.CoreX
variable {Γ:List (Nat×List AC)}
section
variable {fu:Int}{fc:FcT}{fns:List Fun}{ou:Outer}{H:Hm}{nm:Nm2}{m:Ms}{tc ec vc kc:AC}{t:Tr}{e:En}
def PlQ (fu:Int)(fc:FcT)(H:Hm)(nm:Nm2)(m1:Ms)(v:Vl)(tc ec vc kc:AC):FV->Outer->Prop:=fun r ou'=>∃kt H1 nm1 c,r=.one c/\Mo H nm H1 nm1/\VR H1 nm1 v c/\M0 fu ⟨fc.ac,kt⟩ ou' H1 nm1 m1 tc ec vc kc
theorem WR.reTok{mc mc':List AC}{n kt kt':Nat}{es es':List (List AC)}{ou0 ou':Outer}{heap:List (List Vl)}(w:WR (ouX mc n ou0) H nm heap)(hmc:mc[4]?=some (.gs 1 es (.o kt)))(hi:idsL isO mc')(hmc':mc'[4]?=some (.gs 1 es' (.o kt')))(h0:ou' 0=some (.cells mc'))(hk0:ouX mc n ou0 kt'=none)(h1:ou' kt'=some (.tok 3 1 es'.length))(hd:ou' kt=some .dead)(ho:∀k,1<=k->k≠kt->k≠kt'->ou' k=ou0 k):WR ou' H nm heap:=by
 obtain⟨kt2,e1,e2,e3,e4,e5⟩:=w.tk mc rfl _ _ hmc
 cases e1
 have hk1:1<=kt':=by
  match kt',hk0 with
  |0,h=>cases h
  |k+1,_=>omega
 have e:∀k,1<=k->k≠kt->k≠kt'->ou' k=ouX mc n ou0 k:=fun k hk h2 h3=>by
  obtain⟨j,rfl⟩:∃j,k=j+1:=⟨k - 1,by omega⟩
  rw[ho _ hk h2 h3];rfl
 have hkH:∀k cs,H k=some cs->1<=k/\k≠kt/\k≠kt':=fun k cs hk=>by
  refine⟨?_,(by rintro rfl;rw[e4]at hk;cases hk),(by rintro rfl;rw[w.inO _ _ hk]at hk0;cases hk0)⟩
  match k with
  |0=>rw[w.sep.1]at hk;cases hk
  |k+1=>omega
 have hkA:∀(a k n:Nat),nm[a]?=some (k,n)->1<=k/\k≠kt/\k≠kt':=fun a k n h=>by
  refine⟨w.sep.2 a k n h,e5 a k n h,?_⟩
  rintro rfl
  obtain⟨cs,c1,_⟩:=w.arr a k n h
  rw[c1]at hk0;cases hk0
 refine⟨fun k cs hk=>?_,fun k o hk=>?_,w.len,fun a k n h=>?_,w.aH,w.aa,w.sep,fun cs hc es2 i hi2=>?_,fun k o hk=>?_⟩
 ·obtain⟨h2,h3,h4⟩:=hkH k cs hk
  rw[e k h2 h3 h4];exact w.inO k cs hk
 ·by_cases h2:k=0
  ·subst h2;rw[h0]at hk;cases hk;exact hi
  by_cases h3:k=kt
  ·subst h3;rw[hd]at hk;cases hk;trivial
  by_cases h4:k=kt'
  ·subst h4;rw[h1]at hk;cases hk;trivial
  rw[e k (by omega) h3 h4]at hk;exact w.ok k o hk
 ·obtain⟨h2,h3,h4⟩:=hkA a k n h
  rw[e k h2 h3 h4];exact w.arr a k n h
 ·rw[h0]at hc;cases hc
  rw[hmc']at hi2;cases hi2
  refine⟨kt',rfl,hk1,h1,?_,fun a k n h=>(hkA a k n h).2.2⟩
  cases hh:H kt' with
  |none=>rfl
  |some c=>exact absurd rfl (hkH _ _ hh).2.2
 ·by_cases h2:k=0
  ·subst h2;rw[h0]at hk;cases hk;trivial
  by_cases h3:k=kt
  ·subst h3;rw[hd]at hk;cases hk;trivial
  by_cases h4:k=kt'
  ·subst h4;rw[h1]at hk;cases hk;trivial
  rw[e k (by omega) h3 h4]at hk;exact w.pl k o hk
theorem Qds(hΓ:∀g cs,(g,cs)∈Γ->idsL isO cs)(h0:M0 fu fc ou H nm m tc ec vc kc)(hfc:fc.ids isO)(a:Int)(hol:m.out.length<=1000)(hne:m.out.length≠1000):
  AFn Tryz.prog Γ 104 [.one (.ptr (.o 0) 0),.one (int 7),.one (.sl 1 [[iW a]])] ou (PlQ fu fc H nm { m with out:=m.out++[a] } (.obj 0 []) tc ec vc kc):=by
 have hoX:=h0.ouX
 have hids:=h0.ids
 have hw:=h0.w
 rw[hoX]at hw ⊢
 generalize hmc:ou=ou0 at hw
 clear hoX
 obtain⟨kt2,e1,e2,e3,e4,e5⟩:=hw.tk _ rfl _ _ (show (mC tc ec vc kc m.out m.steps fu fc)[4]?=_ from rfl)
 obtain⟨ac,kt⟩:=fc
 simp only[Abs.Id.o.injEq]at e1
 subst e1
 obtain⟨kj,rfl⟩:∃kj,kt=kj+1:=⟨kt - 1,by omega⟩
 refine AFn.walk 152 tabOk Tryz.func104 rfl (by kernel_rfl) rfl rfl fun hou=>?_
 refine zA ?_
 refine ACode.cond rfl (fun hb=>absurd (by simpa using hb) (show ¬((m.out.length:Int)=1000) by omega)) (fun _=>?_)
 refine zA ?_
 refine ACode.drawC2 tabOk 13 [10,11,12] [(6,.one (.box [iW a])),(8,.one (int a))] (fun vs σ=>match vs with
   |[]=>σ=⟨0,[],ouX (mC tc ec vc kc m.out m.steps fu ⟨ac,kj+1⟩) m.out.length ou0⟩
   |[v]=>v=.one (.gs 1 (m.out.map cI++[[int a]]) (.l 0))/\σ=(St.set ⟨0,[],ouX (mC tc ec vc kc m.out m.steps fu ⟨ac,kj+1⟩) m.out.length ou0⟩ (.o (kj+1)) .dead).push (.tok 3 1 (m.out.map cI++[[int a]]).length)
   |[v,w]=>v=.one (.gs 1 (m.out.map cI++[[int a]]) (.l 0))/\w=.one (.ptr (.o 0) 0)/\σ=(St.set ⟨0,[],ouX (mC tc ec vc kc m.out m.steps fu ⟨ac,kj+1⟩) m.out.length ou0⟩ (.o (kj+1)) .dead).push (.tok 3 1 (m.out.map cI++[[int a]]).length)
   |[v,w,x]=>v=.one (.gs 1 (m.out.map cI++[[int a]]) (.l 0))/\w=.one (.ptr (.o 0) 0)/\x=.one (.ptr (.o 0) 4)/\σ=(St.set ⟨0,[],ouX (mC tc ec vc kc m.out m.steps fu ⟨ac,kj+1⟩) m.out.length ou0⟩ (.o (kj+1)) .dead).push (.tok 3 1 (m.out.map cI++[[int a]]).length)
   |_=>False) follows (by kernel_rfl) rfl rfl (by decide) (by kernel_rfl) (by kernel_rfl) rfl rfl ?_ ?_ (by decide) ?_ ?_
 ·intro vs σ h
  match vs with
  |[]=>subst h;rfl
  |[_]=>obtain⟨_,rfl⟩:=h;rfl
  |[_,_]=>obtain⟨_,_,rfl⟩:=h;rfl
  |[_,_,_]=>obtain⟨_,_,_,rfl⟩:=h;rfl
  |_::_::_::_::_=>exact h.elim
 ·intro vs σ h
  have ho2:OuOk σ.ou:=by
   have hd:OuOk (St.set ⟨0,[],ouX (mC tc ec vc kc m.out m.steps fu ⟨ac,kj+1⟩) m.out.length ou0⟩ (.o (kj+1)) .dead).ou:=fun k o hk=>by
    simp only[St.set]at hk
    by_cases e:k=kj+1
    ·subst e;simp at hk;subst hk;trivial
    ·rw[Q05 e]at hk;exact hou k o hk
   match vs with
   |[]=>subst h;exact hou
   |[_]=>obtain⟨_,rfl⟩:=h;exact hd
   |[_,_]=>obtain⟨_,_,rfl⟩:=h;exact hd
   |[_,_,_]=>obtain⟨_,_,_,rfl⟩:=h;exact hd
   |_::_::_::_::_=>exact h.elim
  exact⟨⟨_,rfl,zIA rfl rfl rfl (by decide) rfl⟩,⟨_,rfl,AStep.callPure hΓ rfl rfl rfl (by simp[idsF,iW]) ho2 (Q1s a)⟩,trivial⟩
 ·intro vs σ h i o hi ho
  match vs with
  |[]=>
   subst h;cases hi;cases ho
   exact⟨rfl,.inl (.inl ⟨_,_,AStep.append tabOk rfl rfl rfl rfl rfl rfl (Base.gs' _ _ _ _ _ (show ouX (mC tc ec vc kc m.out m.steps fu ⟨ac,kj+1⟩) m.out.length ou0 (kj+1)=_ from e3) (by simp)) (.sl 1 [[int a]]) rfl (by simp;show _ * 8<=_;omega) (by simp;omega),rfl,rfl⟩)⟩
  |[_]=>obtain⟨rfl,rfl⟩:=h;cases hi;cases ho;exact⟨rfl,.inl (.inl ⟨_,_,AStep.ofOp tabOk rfl,rfl,rfl,rfl⟩)⟩
  |[_,_]=>obtain⟨rfl,rfl,rfl⟩:=h;cases hi;cases ho;exact⟨rfl,.inl (.inl ⟨_,_,AStep.ofOp tabOk rfl,rfl,rfl,rfl,rfl⟩)⟩
  |_::_::_::_=>cases hi
 ·intro vs σ hl h
  match vs with
  |[_,_,_]=>
   obtain⟨rfl,rfl,rfl,rfl⟩:=h
   have hIds:∀l:List Int,idsS isO (l.map cI):=fun l=>by simp
   have hd:OuOk (St.set ⟨0,[],ouX (mC tc ec vc kc m.out m.steps fu ⟨ac,kj+1⟩) m.out.length ou0⟩ (.o (kj+1)) .dead).ou:=fun k o hk=>by
    simp only[St.set]at hk
    by_cases e:k=kj+1
    ·subst e;simp at hk;subst hk;trivial
    ·rw[Q05 e]at hk;exact hou k o hk
   refine AOps.cedes [0] rfl (by decide) hd fun q hq=>⟨[(134,.one (.ptr (.o 0) 4)),(132,.one (.gs 1 (m.out.map cI++[[int a]]) (.o q)))],[],[.tok 3 1 (m.out.map cI++[[int a]]).length],?_,.nil,?_,?_⟩
   ·exact .cons rfl rfl (.gs rfl (by rw[show m.out.map cI++[[int a]]=(m.out++[a]).map cI by simp[cI]];exact hIds _) rfl .nil)
   ·exact .cons rfl rfl .nil
   have hq0:kj+1 < q:=by
    rcases Nat.lt_or_ge (kj+1) q with h|h
    ·exact h
    ·have:=hq (kj+1) h
     simp[St.push,St.set]at this
   generalize hA:(ouAdd (((St.set ⟨0,[],ouX (mC tc ec vc kc m.out m.steps fu ⟨ac,kj+1⟩) m.out.length ou0⟩ (.o (kj+1)) .dead).push (.tok 3 1 (m.out.map cI++[[int a]]).length)).ou) q [.tok 3 1 (m.out.map cI++[[int a]]).length])=oA
   have hA0:oA 0=some (.cells (mC tc ec vc kc m.out m.steps fu ⟨ac,kj+1⟩)):=by rw[←hA,Q13 (by omega)];rfl
   have hAq:oA q=some (.tok 3 1 (m.out.map cI++[[int a]]).length):=by rw[←hA];exact Q0t 0
   have hAd:oA (kj+1)=some .dead:=by rw[←hA,Q13 hq0];simp[St.push,St.set]
   have hAk:∀k,1<=k->k≠kj+1->k≠q->oA k=ou0 k:=fun k h2 h3 h4=>by
    obtain⟨j,rfl⟩:∃j,k=j+1:=⟨k - 1,by omega⟩
    rcases Nat.lt_or_ge (j+1) q with h|h
    ·rw[←hA,Q13 h]
     simp[St.push,St.set,Q05 h3];rfl
    ·have e5:ou0 (j+1)=none:=by
      have:=hq (j+1) h
      simp[St.push,St.set,Q05 h3]at this
      exact this
     obtain⟨p,hp⟩:∃p,j+1=q+p:=⟨j+1 - q,by omega⟩
     rw[e5,←hA,hp,Q0t]
     match p,hp with
     |0,hp=>omega
     |p+1,_=>rfl
   have hqn:ouX (mC tc ec vc kc m.out m.steps fu ⟨ac,kj+1⟩) m.out.length ou0 q=none:=by
    have:=hq q (Nat.le_refl _)
    simp[St.push,St.set,Q05 (show q≠kj+1 by omega)]at this
    exact this
   refine AOps.storeOwn tabOk rfl rfl rfl rfl rfl rfl rfl hA0 (by simp[mC]) ?_
   have hN:M0 fu ⟨ac,q⟩ (St.set ⟨1,[],oA⟩ (.o 0) (.cells ((mC tc ec vc kc m.out m.steps fu ⟨ac,kj+1⟩).set 4 (.gs 1 (m.out.map cI++[[int a]]) (.o q))))).ou H nm { m with out:=m.out++[a] } tc ec vc kc:=by
    have hmm:(mC tc ec vc kc m.out m.steps fu ⟨ac,kj+1⟩).set 4 (.gs 1 (m.out.map cI++[[int a]]) (.o q))=mC tc ec vc kc (m.out++[a]) m.steps fu ⟨ac,q⟩:=by simp[mC,cI]
    rw[hmm]
    refine⟨hids,by simp[St.set],WR.reTok hw rfl (show idsL isO (mC tc ec vc kc (m.out++[a]) m.steps fu ⟨ac,q⟩)from ⟨hids.1,hids.2.1,hids.2.2.1,hids.2.2.2,⟨trivial,hIds _⟩,trivial,trivial,hfc,trivial⟩) (show (mC tc ec vc kc (m.out++[a]) m.steps fu ⟨ac,q⟩)[4]?=some (.gs 1 ((m.out++[a]).map cI) (.o q))from rfl) (by simp[St.set]) hqn ?_ ?_ ?_⟩
    ·simp[St.set,Q05 (show q≠0 by omega),hAq]
    ·simp[St.set,Q05 (show kj+1≠0 by omega),hAd]
    ·intro k h2 h3 h4
     simp[St.set,Q05 (show k≠0 by omega)];exact hAk k h2 h3 h4
   have hNo:=hN.w.ok
   repeat ((fail_if_success ((with_reducible refine oj ?_);refine AOps.atDst 137 rfl ?_));first|refine zO ?_)
   refine AOps.freeze1 (.l 1) 136 rfl rfl ?_
   refine AOps.wk 136 rfl (y:=.one (.box [int 0,.sl 1 []])) (.one (Wk.box (.cons (.refl _) (.cons (.nilS 1) .nil)))) ?_
   refine zS (AStep.mkIfc Q3p rfl rfl) ?_
   refine zA ?_
   exact AFn.fin' rfl (WkF.ofEq rfl) (by simp[iB]) hNo ⟨q,H,nm,iB tObj [int 0,.sl 1 []],rfl,.refl _ _,.obj 0 [] [] .nil,hN⟩
  |[]|[_]|[_,_]=>cases hl
  |_::_::_::_::_=>exact h.elim
end
section
variable {fu:Int}{fc:FcT}{fns:List Fun}{ou:Outer}{H:Hm}{nm:Nm2}{m m1:Ms}{v:Vl}{tc ec vc kc:AC}{t:Tr}{e:En}{d:List Vl}{k:List Fm}{dc:List (List AC)}{tc0 ec0 vc0 kc0:AC}
theorem Qf2(hΓ:∀g cs,(g,cs)∈Γ->idsL isO cs)(h0:M0 fu fc ou H nm m tc ec vc kc)(hd:VsR H nm d dc)(h6:t.op=6):
  AFn Tryz.prog Γ 87 [.one (.ptr (.o 0) 0),.one (.box (cTr t)),.one (.sl 1 dc)] ou (PlQ fu fc H nm m (.obj t.n d) tc ec vc kc):=by
 have hdi:=hd.ids
 refine AFn.walk 85 tabOk Tryz.func87 rfl (by kernel_rfl) rfl rfl fun hou=>?_
 cases t with
 |mk to tn tb tk ta=>
 obtain rfl:to=6:=h6
 repeat ((fail_if_success ((with_reducible refine oj ?_);refine AOps.atDst 23 rfl ?_));first|refine zO ?_)
 refine AOps.freeze1 (.l 0) 22 rfl rfl ?_
 refine zS (AStep.mkIfc Q3p rfl rfl) ?_
 refine zA ?_
 exact AFn.fin' rfl (WkF.ofEq rfl) ⟨⟨trivial,hdi,trivial⟩,trivial⟩ hou ⟨fc.kt,H,nm,iB tObj [int tn,.sl 1 dc],rfl,.refl _ _,.obj tn d dc hd,h0⟩
theorem Qdt(hΓ:∀g cs,(g,cs)∈Γ->idsL isO cs)(hd:VsR H nm d dc)(h8:t.op=8)(hp:AFn Tryz.prog Γ 104 [.one (.ptr (.o 0) 0),.one (int t.n),.one (.sl 1 dc)] ou (PlQ fu fc H nm m1 v tc ec vc kc)):
  AFn Tryz.prog Γ 87 [.one (.ptr (.o 0) 0),.one (.box (cTr t)),.one (.sl 1 dc)] ou (PlQ fu fc H nm m1 v tc ec vc kc):=by
 have hdi:=hd.ids
 refine AFn.walk 85 tabOk Tryz.func87 rfl (by kernel_rfl) rfl rfl fun hou=>?_
 cases t with
 |mk to tn tb tk ta=>
 obtain rfl:to=8:=h8
 refine zA ?_
 refine AOps.call1 hΓ rfl rfl rfl rfl rfl rfl rfl ⟨trivial,trivial,hdi,trivial⟩ hou hp fun r ou' hq hids how=>?_
 obtain⟨kt,H1,nm1,c,rfl,hq⟩:=hq
 refine zA ?_
 exact AFn.fin' rfl (WkF.refl _) hids how ⟨kt,H1,nm1,c,rfl,hq⟩
theorem Q5d(h0:M0 fu fc ou H nm m tc0 ec0 vc0 kc0)(hk:KR H nm k kc)(hfc:fc.ids isO):M0 fu fc (ouX (mC tc0 ec0 vc0 kc m.out m.steps fu fc) m.out.length ou) H nm m tc0 ec0 vc0 kc:=by
 have hw:=h0.w
 rw[h0.ouX]at hw
 exact⟨⟨h0.ids.1,h0.ids.2.1,h0.ids.2.2.1,hk.ids⟩,rfl,hw.put (mc':=mC tc0 ec0 vc0 kc m.out m.steps fu fc) (by simp[mC,h0.ids.1,h0.ids.2.1,h0.ids.2.2.1,hk.ids,hfc]) rfl rfl (fun _=>rfl)⟩
theorem Qhn(hΓ:∀g cs,(g,cs)∈Γ->idsL isO cs)(h0:M0 fu fc ou H nm m tc0 ec0 vc0 kc0)(hfc:fc.ids isO)(he:ER H nm e ec)(hd:VsR H nm d dc)(hk:KR H nm k kc)(hl:d.length=1)(h7:t.op=7){x:Except Int Ms}
  (hch:∀ou',M0 fu fc ou' H nm m tc0 ec0 vc0 kc->AFn Tryz.prog Γ 82 [.one (.ptr (.o 0) 0),.one (.box [.box (cTr t),ec,.sl 1 dc,kc])] ou' (StQ fu fc H nm x)):
  AFn Tryz.prog Γ 69 [.one (.ptr (.o 0) 0),.one (.box [.box (cTr t),ec,.sl 1 dc,kc])] ou (StQ fu fc H nm x):=by
 have hN:=Q5d h0 hk hfc
 have hei:=he.ids
 have hdi:=hd.ids
 have hki:=hk.ids
 have hdl:=hd.len
 have hop:opdN t=1:=by unfold opdN;rw[if_pos (.inr (.inl h7))]
 have hoX:=h0.ouX
 rw[hoX]
 generalize hmc:ou=ou0 at hN
 clear hoX
 refine AFn.walk 262 tabOk Tryz.func69 rfl (by kernel_rfl) rfl rfl fun hou=>?_
 refine zA ?_
 refine ACode.drawX tabOk 10 [(9,.one (int (opdN t)))] follows (by kernel_rfl) rfl rfl rfl rfl ?_ ?_
 ·exact⟨⟨_,rfl,AStep.callPure hΓ rfl rfl rfl (by simp[idsF]) hou (Q3k t)⟩,trivial⟩
 refine zA ?_
 refine ACode.cond rfl (fun hb=>absurd hb (by simp[hdl,hl,hop])) (fun hb=>?_)
 refine zA ?_
 refine ACode.stEq (σ':=⟨0,[],ouX (mC tc0 ec0 vc0 kc m.out m.steps fu fc) m.out.length ou0⟩) (setX _ _ _ _) ?_
 refine ACode.cond rfl (fun hb=>absurd hb (by simp[h7])) (fun _=>?_)
 refine zA ?_
 refine ACode.cond rfl (fun _=>?_) (fun hb=>absurd hb (by simp[h7]))
 refine zA ?_
 refine AOps.call1 hΓ rfl rfl rfl rfl rfl rfl rfl ⟨trivial,⟨by simp,hei,hdi,hki,trivial⟩,trivial⟩ hN.w.ok (hch _ hN) fun r ou' hq _ how=>?_
 obtain⟨rfl,H',nm',m',hx,hmo,hM⟩:=hq
 refine zA ?_
 exact StQ.fin rfl hx hmo hM
theorem kid_app(hΓ:∀g cs,(g,cs)∈Γ->idsL isO cs)(h0:M0 fu fc ou H nm m tc0 ec0 vc0 kc0)(hfc:fc.ids isO)(he:ER H nm e ec){v0:Vl}{c0:AC}{ds:List (List AC)}(hv0:VR H nm v0 c0)(hd:VsR H nm d ds)(hk:KR H nm k kc)(hl:d.length+1=t.kids.length)(h3:t.op=3){x:Except Int Ms}
  (hcl:∀ou',M0 fu fc ou' H nm m tc0 ec0 vc0 kc->AFn Tryz.prog Γ 83 [.one (.ptr (.o 0) 0),.one c0,.one (.sl 1 ds)] ou' (StQ fu fc H nm x)):
  AFn Tryz.prog Γ 69 [.one (.ptr (.o 0) 0),.one (.box [.box (cTr t),ec,.sl 1 ([c0]::ds),kc])] ou (StQ fu fc H nm x):=by
 have hN:=Q5d h0 hk hfc
 have hei:=he.ids
 have hdi:=hd.ids
 have hvi:=hv0.ids
 have hki:=hk.ids
 have hdl:=hd.len
 have hop:opdN t=t.kids.length:=by unfold opdN;rw[if_neg (by rw[h3];decide)]
 have hoX:=h0.ouX
 rw[hoX]
 generalize hmc:ou=ou0 at hN
 clear hoX
 refine AFn.walk 262 tabOk Tryz.func69 rfl (by kernel_rfl) rfl rfl fun hou=>?_
 refine zA ?_
 refine ACode.drawX tabOk 10 [(9,.one (int (opdN t)))] follows (by kernel_rfl) rfl rfl rfl rfl ?_ ?_
 ·exact⟨⟨_,rfl,AStep.callPure hΓ rfl rfl rfl (by simp[idsF]) hou (Q3k t)⟩,trivial⟩
 refine zA ?_
 refine ACode.cond rfl (fun hb=>absurd hb (by simp[hdl,hop];omega)) (fun hb=>?_)
 refine zA ?_
 refine ACode.stEq (σ':=⟨0,[],ouX (mC tc0 ec0 vc0 kc m.out m.steps fu fc) m.out.length ou0⟩) (setX _ _ _ _) ?_
 refine ACode.cond rfl (fun hb=>absurd hb (by simp[h3])) (fun _=>?_)
 refine zA ?_
 refine ACode.cond rfl (fun hb=>absurd hb (by simp[h3])) (fun _=>?_)
 refine zA ?_
 refine ACode.cond rfl (fun _=>?_) (fun hb=>absurd hb (by simp[h3]))
 refine zA ?_
 refine ACode.drawX tabOk 12 [(5,.one (.box [c0])),(11,.one (.sl 1 ds))] follows (by kernel_rfl) rfl rfl rfl rfl ?_ ?_
 ·exact⟨⟨_,rfl,zIA rfl rfl rfl (by decide) rfl⟩,⟨_,rfl,AStep.sliceFrom (b:=1) (es:=[c0]::ds) tabOk rfl rfl rfl rfl rfl rfl rfl (by simp)⟩,trivial⟩
 refine zA ?_
 refine AOps.call1 hΓ rfl rfl rfl rfl rfl rfl rfl ⟨trivial,hvi,hdi,trivial⟩ hN.w.ok (hcl _ hN) fun r ou' hq _ how=>?_
 obtain⟨rfl,H',nm',m',hx,hmo,hM⟩:=hq
 refine zA ?_
 exact StQ.fin rfl hx hmo hM
theorem Qa2(hΓ:∀g cs,(g,cs)∈Γ->idsL isO cs)(h0:M0 fu fc ou H nm m tc0 ec0 vc0 kc0)(hfc:fc.ids isO)(he:ER H nm e ec)(hd:VsR H nm d dc)(hk:KR H nm k kc)(hl:d.length=opdN t)(hn:¬(t.op=4∨t.op=7∨t.op=3∨t.op=13∨t.op=12∨t.op=14∨t.op=15∨t.op=16))
  (hpl:∀ou',M0 fu fc ou' H nm m tc0 ec0 vc0 kc->AFn Tryz.prog Γ 87 [.one (.ptr (.o 0) 0),.one (.box (cTr t)),.one (.sl 1 dc)] ou' (PlQ fu fc H nm m1 v tc0 ec0 vc0 kc)):
  AFn Tryz.prog Γ 69 [.one (.ptr (.o 0) 0),.one (.box [.box (cTr t),ec,.sl 1 dc,kc])] ou (StQ fu fc H nm (.ok { m1 with c:=.rt v,k:=k })):=by
 have hN:=Q5d h0 hk hfc
 simp only[not_or]at hn
 have hei:=he.ids
 have hdi:=hd.ids
 have hki:=hk.ids
 have hdl:=hd.len
 have hoX:=h0.ouX
 rw[hoX]
 generalize hmc:ou=ou0 at hN
 clear hoX
 refine AFn.walk 262 tabOk Tryz.func69 rfl (by kernel_rfl) rfl rfl fun hou=>?_
 refine zA ?_
 refine ACode.drawX tabOk 10 [(9,.one (int (opdN t)))] follows (by kernel_rfl) rfl rfl rfl rfl ?_ ?_
 ·exact⟨⟨_,rfl,AStep.callPure hΓ rfl rfl rfl (by simp[idsF]) hou (Q3k t)⟩,trivial⟩
 refine zA ?_
 refine ACode.cond rfl (fun hb=>absurd hb (by simp[hdl,hl])) (fun hb=>?_)
 refine zA ?_
 refine ACode.stEq (σ':=⟨0,[],ouX (mC tc0 ec0 vc0 kc m.out m.steps fu fc) m.out.length ou0⟩) (setX _ _ _ _) ?_
 refine ACode.cond rfl (fun hb=>absurd hb (by simp[hn.1])) (fun _=>?_)
 refine zA ?_
 refine ACode.cond rfl (fun hb=>absurd hb (by simp[hn.2.1])) (fun _=>?_)
 refine zA ?_
 refine ACode.cond rfl (fun hb=>absurd hb (by simp[hn.2.2.1])) (fun _=>?_)
 refine zA ?_
 refine ACode.cond rfl (fun hb=>absurd hb (by simp[hn.2.2.2.1])) (fun _=>?_)
 refine zA ?_
 refine ACode.cond rfl (fun hb=>absurd hb (by simp[hn.2.2.2.2.1])) (fun _=>?_)
 refine zA ?_
 refine ACode.cond rfl (fun hb=>absurd hb (by simp[hn.2.2.2.2.2.1])) (fun _=>?_)
 refine zA ?_
 refine ACode.cond rfl (fun hb=>absurd hb (by simp[hn.2.2.2.2.2.2.1])) (fun _=>?_)
 refine zA ?_
 refine ACode.cond rfl (fun hb=>absurd hb (by simp[hn.2.2.2.2.2.2.2])) (fun _=>?_)
 refine zA ?_
 refine ACode.drawCS tabOk 15 11 12 13 14 (.one (.ptr (.o 0) 0)) (.one (.ptr (.o 0) 0)) []
  (fun r σ=>∃kt H1 nm1 c ou1,r=.one c/\σ=⟨0,[],ouX (mC tc0 ec0 vc0 kc m1.out m1.steps fu ⟨fc.ac,kt⟩) m1.out.length ou1⟩/\Mo H nm H1 nm1/\VR H1 nm1 v c/\WR (ouX (mC tc0 ec0 vc0 kc m1.out m1.steps fu ⟨fc.ac,kt⟩) m1.out.length ou1) H1 nm1 m1.heap)
  (fun r σ=>∃kt H1 nm1 c ou1,r=.one c/\σ=⟨0,[],ouX (mC nilPE ec0 vc0 kc m1.out m1.steps fu ⟨fc.ac,kt⟩) m1.out.length ou1⟩/\Mo H nm H1 nm1/\VR H1 nm1 v c/\WR (ouX (mC tc0 ec0 vc0 kc m1.out m1.steps fu ⟨fc.ac,kt⟩) m1.out.length ou1) H1 nm1 m1.heap)
  follows (by kernel_rfl) rfl rfl (by decide) (by kernel_rfl) (by kernel_rfl) rfl rfl rfl rfl rfl rfl rfl ?_ ?_ trivial (fun _ _ _=>trivial) (fun _ _ _=>trivial) ?_ ?_ ?_ ?_ ?_
 ·rintro r σ ⟨kt,H1,nm1,c,ou1,rfl,rfl,_⟩;rfl
 ·rintro r σ ⟨kt,H1,nm1,c,ou1,rfl,rfl,_⟩;rfl
 ·refine Q2w.ofR (Q0k.call hΓ rfl rfl rfl rfl ⟨trivial,by simp,hdi,trivial⟩ hN.w.ok (hpl _ hN) fun r ou' hq hr ho=>?_)
  obtain⟨kt,H1,nm1,c,rfl,h1,h2,h3⟩:=hq
  have hw:=h3.w
  have e:=h3.ouX
  rw[e]at hw
  exact⟨kt,H1,nm1,c,ou',rfl,by rw[←e],h1,h2,hw⟩
 ·rintro r σ ⟨kt,H1,nm1,c,ou1,rfl,rfl,_⟩;exact AStep.ofOp tabOk rfl
 ·rintro r σ ⟨kt,H1,nm1,c,ou1,rfl,rfl,_⟩;exact AStep.ofOp tabOk rfl
 ·rintro r σ ⟨kt,H1,nm1,c,ou1,rfl,rfl,h1⟩;exact⟨_,⟨kt,H1,nm1,c,ou1,rfl,setX _ _ _ _,h1⟩,AStep.ofStore tabOk rfl⟩
 ·rintro r σ ⟨kt,H1,nm1,c,ou1,rfl,rfl,h1,h2,h3⟩
  refine zA ?_
  have hM:MR fu ⟨fc.ac,kt⟩ (St.set ⟨0,[],ouX (mC nilPE ec0 vc0 kc m1.out m1.steps fu ⟨fc.ac,kt⟩) m1.out.length ou1⟩ (.o 0) (.cells (mC nilPE ec0 c kc m1.out m1.steps fu ⟨fc.ac,kt⟩))).ou H1 nm1 { m1 with c:=.rt v,k:=k }:=MR.ofRt h3 h2 (hk.mo h1) h0.ids.2.1 hfc rfl rfl (fun _=>rfl)
  exact StQ.fin rfl rfl h1 ⟨hM.ex⟩
end
end Go.Proofs.YtdpdlkgecmgokaaGreatDoor
namespace Go.Abs
theorem AStep.less{E:Env}{o:Oper}{fr:Fr}{σ σ1 σ2:St}{x:FV}(h:AStep E o fr σ x σ1)(hn:σ2.n=σ1.n)(hs:∀i o,σ2.get i=some o->σ1.get i=some o):AStep E o fr σ x σ2:=
 fun F w C tmps hi hf next Q hk=>h F w C tmps hi hf next Q fun u w' C' hg hi' hr=>
  hk u w' C' hg ⟨hi'.base,by rw[hn];exact hi'.next,hi'.glob,hi'.prot,fun i o ho=>hi'.obj i o (hs i o ho),fun i j o o' g h1 h2 h3 h4=>hi'.inj i j o o' g (hs i o h1) (hs j o' h2) h3 h4⟩ hr
theorem AStep.weakV{E:Env}{o:Oper}{fr:Fr}{σ σ':St}{x y:FV}(h:AStep E o fr σ x σ')(hw:WkF x y):AStep E o fr σ y σ':=
 fun F w C tmps hi hf next Q hk=>h F w C tmps hi hf next Q fun u w' C' hg hi' hr=>hk u w' C' hg hi' (hw _ _ _ hr)
end Go.Abs
namespace Go.Proofs.YtdpdlkgecmgokaaGreatDoor
open Go Go.Abs Go.CoreX
variable {Γ:List (Nat×List AC)}
def Qgr (cs:List (List AC))(ou:Outer)(r:FV)(ou':Outer):Prop:=
 (cs=[]/\r=.one (.lit (.slice none 0 0))/\ou'=ou)∨∃q,r=.one (.gs 1 cs (.o q))/\ou' q=some (.tok 71 1 cs.length)/\ou q=none/\∀m,m≠q->ou' m=ou m
theorem Qgd(hΓ:∀g cs,(g,cs)∈Γ->idsL isO cs)(cs:List (List AC))(hl:cs.length<=1048576)(hi:idsS isO cs)(h1:∀x∈cs,x.length=1)(ou:Outer):AFn Tryz.prog Γ 70 [.one (.sl 1 cs)] ou (Qgr cs ou):=by
 refine AFn.walk 8 tabOk Tryz.func70 rfl (by kernel_rfl) rfl rfl fun hou=>?_
 refine zA ?_
 refine AOps.nilTest rfl rfl rfl rfl Tryz.underlying125 rfl rfl fun b hb=>?_
 cases b with
 |true=>
  have hz:cs=[]:=by have:=hb rfl;simpa using this
  subst hz
  refine zA ?_
  exact AFn.fin' rfl (.refl _) (by simp) hou (.inl ⟨rfl,rfl,rfl⟩)
 |false=>
  refine zA ?_
  refine zS (AStep.buildSlice0 tabOk rfl rfl rfl rfl rfl) ?_
  refine zA ?_
  refine AOps.app tabOk rfl rfl rfl rfl rfl rfl rfl rfl rfl (Base.gs' _ _ _ _ _ (by rfl) (by simp)) (.sl _ _) rfl (by simp;show _ * 16<=_;omega) (by simp;omega) ?_
  refine AOps.cedes [1] rfl (by decide) hou fun q hq=>⟨[(7,.one (.gs 1 ([]++cs) (.o q)))],[],[.tok 71 1 ([]++cs).length],.gs rfl (by simpa using hi) rfl .nil,.nil,.cons rfl rfl .nil,?_⟩
  have hN:=NewO.add hq hou (show (AObj.tok 71 1 ([]++cs).length).ids isO from trivial)
  refine zA ?_
  refine AFn.fin' rfl (WkF.ofEq rfl) ⟨trivial,by simpa using hi⟩ hN.ok (.inr ⟨q,by simp,?_,hN.new q (by simp[keys]),fun m hm=>hN.old m (by simp[keys];exact hm)⟩)
  have:=hN.own (q,_) (List.mem_singleton.2 rfl)
  simpa using this
section
variable {fu:Int}{ac:AC}{fns:List Fun}{G:GP}
def KidC (fu:Int)(ac:AC)(G:GP)(Γ:List (Nat×List AC)):Prop:=∀(ou:Outer)(H:Hm)(nm:Nm2)(m m':Ms)(t:Tr)(e:En)(d:List Vl)(k:List Fm)(ec kc tc0 ec0 vc0 kc0:AC)(dc:List (List AC))(kt:Nat),M0 fu ⟨ac,kt⟩ ou H nm m tc0 ec0 vc0 kc0->ER H nm e ec->VsR H nm d dc->KR H nm k kc->
 allT G.p t->gE G e->gVs G d->d.length<=opdN t->nLf t.op->gFs G k->(G.R->k.length<=1048576)->m.out.length<=1000->kidM fu G.fns m (.mk t e d) k=.ok m'->(G.R->m'.k.length<=1048576)->AFn Tryz.prog Γ 69 [.one (.ptr (.o 0) 0),.one (.box [.box (cTr t),ec,.sl 1 dc,kc])] ou (StQ fu ⟨ac,kt⟩ H nm (.ok m'))
def bndX (fu:Int)(fns:List Fun):Nat->Ms->Bool
 |0,m=>decide (m.k.length<=1048576)
 |g+1,m=>decide (m.k.length<=1048576)&&(match Q0x fu fns m with
  |.next m'=>bndX fu fns g m'
  |_=>true)
theorem bndX_k{fns:List Fun}{g:Nat}{m:Ms}(h:bndX fu fns g m=true):m.k.length<=1048576:=by
 cases g with
 |zero=>simpa[bndX]using h
 |succ g=>simp only[bndX,Bool.and_eq_true,decide_eq_true_eq]at h;exact h.1
def StartC (fu:Int)(ac:AC)(G:GP)(Γ:List (Nat×List AC)):Prop:=∀(ou:Outer)(H:Hm)(nm:Nm2)(m m':Ms)(t:Tr)(e:En)(ec vc kc:AC)(kt:Nat),M0 fu ⟨ac,kt⟩ ou H nm m (.box (cTr t)) ec vc kc->ER H nm e ec->KR H nm m.k kc->
 allT G.p t->gE G e->gFs G m.k->(G.R->m.k.length<=1048576)->m.out.length<=1000->Q2i fu G.fns m t e=.ok m'->(G.R->m'.k.length<=1048576)->AFn Tryz.prog Γ 71 [.one (.ptr (.o 0) 0)] ou (StQ fu ⟨ac,kt⟩ H nm (.ok m'))
theorem VsR.ones{H:Hm}{nm:Nm2}:∀{v:List Vl}{c:List (List AC)},VsR H nm v c->∀x∈c,x.length=1
 |_,_,.nil,x,hx=>by cases hx
 |_,_,.cons v c vs cs hv h,x,hx=>by
  rcases List.mem_cons.1 hx with rfl|hx
  ·rfl
  ·exact VsR.ones h x hx
theorem run_ok(hΓ:∀g cs,(g,cs)∈Γ->idsL isO cs)(hac:ac.ids isO)(hG:GPok G)(hopn:∀t,allT G.p t->opdN t<=1048576)(hkid:KidC fu ac G Γ)(hstart:StartC fu ac G Γ){ou:Outer}{H:Hm}{nm:Nm2}{m0:Ms}{kt0:Nat}(h0:MR fu ⟨ac,kt0⟩ ou H nm m0)(hg0:gM G m0){g0:Nat}{mf:Ms}{vf:Vl}(hgo:goX fu G.fns g0 m0=some (.done mf vf))(hbd:G.R->bndX fu G.fns g0 m0=true)(hol:mf.out.length<=1000)(hfu:0<=fu/\fu<=1000000)(hst0:0<=m0.steps)(hmf:mf.steps<=fu):
  AFn Tryz.prog Γ 52 [.one (.ptr (.o 0) 0)] ou (fun r ou'=>r=.one (.lit (.bool true))/\mf.c=.rt vf/\mf.k=[]/\∃H' nm',MR fu ⟨ac,kt0⟩ ou' H' nm' mf):=by
 refine AFn.walk 70 tabOk Tryz.func52 rfl (by kernel_rfl) rfl rfl fun hou=>?_
 refine zA ?_
 refine ACode.loopR hΓ (α:=Outer×Hm×Nm2×Ms) (fun a=>[(0,.one (.ptr (.o 0) 0))]) (fun a=>⟨0,[],a.1⟩) (fun g a=>MR fu ⟨ac,kt0⟩ a.1 a.2.1 a.2.2.1 a.2.2.2/\gM G a.2.2.2/\goX fu G.fns g a.2.2.2=some (.done mf vf)/\0<=a.2.2.2.steps/\(G.R->bndX fu G.fns g a.2.2.2=true))
  (a0:=(ou,H,nm,m0)) (ρ:=_root_.id) ⟨h0,hg0,hgo,hst0,hbd⟩ (LessR.of rfl zFW (by simp) zLO rfl rfl hou) fun g a ha=>?_
 obtain⟨ou1,H1,nm1,m⟩:=a
 obtain⟨hM,hgm,hgo,hst,hbx⟩:=ha
 dsimp only at hM hgm hgo hst hbx ⊢
 clear hou h0 hg0 hst0 hbd
 obtain⟨kt,tc,ec,vc,kc,hCR,hKR,h0⟩:=hM.ex
 have hou:=h0.w.ok
 have holm:m.out.length<=1000:=by
  rcases Qfx hgo with h|h
  ·exact Nat.le_trans h hol
  ·cases h
 obtain⟨g,rfl⟩:∃g',g=g'+1:=by
  cases g with
  |zero=>cases hgo
  |succ g=>exact⟨g,rfl⟩
 simp only[goX]at hgo
 have hkl:G.R->m.k.length<=1048576:=fun hR=>by have:=hbx hR;simp only[bndX,Bool.and_eq_true,decide_eq_true_eq]at this;exact this.1
 have hbn:G.R->∀m1,Q0x fu G.fns m=.next m1->bndX fu G.fns g m1=true:=fun hR m1 h1=>by have:=hbx hR;simp only[bndX,h1,Bool.and_eq_true]at this;exact this.2
 have hids:=h0.ids
 have hoX:=h0.ouX
 have hki:=hKR.ids
 have hw:=h0.w
 rw[hoX]at hw hou ⊢
 obtain⟨mc,mk,mo,ms,mh⟩:=m
 dsimp only at hgo hst hw hou hids hki holm h0 hkl hbn ⊢
 cases hCR with
 |ev t e ec vc he=>
  have hei:=he.ids
  have hsf:¬ms=fu:=fun h=>by
   simp[Q0x,h]at hgo
  rw[Q8l rfl hsf]at hgo
  have hox:∃m',Q2i fu G.fns ⟨.ev t e,mk,mo,ms+1,mh⟩ t e=.ok m':=by
   cases hx:Q2i fu G.fns ⟨.ev t e,mk,mo,ms+1,mh⟩ t e with
   |ok m'=>exact⟨m',rfl⟩
   |error c=>simp only[hx,rdOf]at hgo;cases hgo
  obtain⟨m',hx⟩:=hox
  simp only[hx,rdOf]at hgo
  have hgm':gM G m':=Qcb hG hgm (by rw[Q8l rfl hsf,hx];rfl)
  have hbn':G.R->bndX fu G.fns g m'=true:=fun hR=>hbn hR m' (by rw[Q8l rfl hsf,hx];rfl)
  have haf:=Qc7 (fu:=fu) (fns:=G.fns) hx
  have hfu':m'.steps<=fu:=Int.le_trans (goX_ge hgo (by simp)) hmf
  simp only at haf
  refine zA ?_
  refine zS (AStep.neNilBox Tryz.underlying68 rfl rfl rfl) ?_
  refine zM ?_
  refine zS (AStep.eqNilBox Tryz.underlying68 rfl rfl rfl) ?_
  refine zA ?_
  refine ACode.drawX tabOk 8 [] follows (by kernel_rfl) rfl rfl rfl rfl trivial ?_
  refine zA ?_
  refine ACode.cond rfl (fun hb=>absurd (by simpa using hb) hsf) (fun _=>?_)
  refine zM ?_
  have hN:M0 fu ⟨ac,kt⟩ (St.set ⟨0,[],ouX (mC (.box (cTr t)) ec vc kc mo ms fu ⟨ac,kt⟩) mo.length ou1⟩ (.o 0) (.cells (mC (.box (cTr t)) ec vc kc mo (ms+1) fu ⟨ac,kt⟩))).ou H1 nm1 ⟨.ev t e,mk,mo,ms+1,mh⟩ (.box (cTr t)) ec vc kc:=
   ⟨hids,rfl,hw.put (mc':=mC (.box (cTr t)) ec vc kc mo (ms+1) fu ⟨ac,kt⟩) (by simp[mC,hids,hei,hki,hac]) rfl rfl (fun _=>rfl)⟩
  refine AOps.call1 hΓ rfl rfl rfl rfl rfl rfl rfl ⟨trivial,trivial⟩ hN.w.ok (hstart _ H1 nm1 _ m' t e ec vc kc kt hN he hKR hgm.c.1 hgm.c.2 hgm.k hkl holm hx fun hR=>bndX_k (hbn' hR)) fun r ou2 hq _ how=>?_
  obtain⟨rfl,H',nm',m2,hx2,hmo,hM2⟩:=hq
  cases hx2
  refine zA ?_
  exact cInv ⟨g,(ou2,H',nm',m'),_root_.id,by omega,⟨⟨hM2.ex⟩,hgm',hgo,by dsimp only;omega,hbn'⟩,LessR.of rfl zFW (by simp) zLO rfl rfl how⟩
 |rt v ec vc hv=>
  have hvi:=hv.ids
  cases hKR with
  |nil=>
   have hr:Q0x fu G.fns ⟨.rt v,[],mo,ms,mh⟩=.done ⟨.rt v,[],mo,ms,mh⟩ v:=by simp[Q0x]
   rw[hr]at hgo
   cases hgo
   refine zA ?_
   refine zS (AStep.neNil0 Tryz.underlying68 rfl rfl rfl) ?_
   refine zM ?_
   refine zS (AStep.neNil0 Tryz.underlying72 rfl rfl rfl) ?_
   refine zM ?_
   refine AFn.fin' rfl (WkF.ofEq rfl) (by simp) hou ⟨rfl,rfl,rfl,H1,nm1,⟨⟨kt,nilPE,ec,vc,nilPE,.rt _ ec vc hv,.nil,?_⟩⟩⟩
   rw[←hoX];exact h0
  |cons t e d k ec2 dc kc2 he hd hk=>
   have hei:=he.ids
   have hdi:=hd.ids
   have hk2i:=hk.ids
   have hgf:=hgm.k
   obtain⟨⟨g1,g2,g3,g4,gn⟩,g5⟩:=hgf
   have hdl:=hd.len
   rw[Q8k (f:=.mk t e d) (k:=k) rfl rfl]at hgo
   have hox:∃m',kidM fu G.fns ⟨.rt v,.mk t e d::k,mo,ms,mh⟩ (.mk t e (d++[v])) k=.ok m':=by
    cases hx:kidM fu G.fns ⟨.rt v,.mk t e d::k,mo,ms,mh⟩ (.mk t e (d++[v])) k with
    |ok m'=>exact⟨m',rfl⟩
    |error c=>simp only[Fm.t_mk,Fm.e_mk,Fm.done_mk,hx,rdOf]at hgo;cases hgo
   obtain⟨m',hx⟩:=hox
   simp only[Fm.t_mk,Fm.e_mk,Fm.done_mk,hx,rdOf]at hgo
   have hgm':gM G m':=Qcb hG hgm (by rw[Q8k (fu:=fu) (f:=.mk t e d) (k:=k) rfl rfl];simp only[Fm.t_mk,Fm.e_mk,Fm.done_mk,hx];rfl)
   have hbn':G.R->bndX fu G.fns g m'=true:=fun hR=>hbn hR m' (by rw[Q8k (fu:=fu) (f:=.mk t e d) (k:=k) rfl rfl];simp only[Fm.t_mk,Fm.e_mk,Fm.done_mk,hx];rfl)
   have haf:=(Q5f hx d v (.inl rfl)).ge
   simp only at haf
   have hopt:=hopn t g1
   have hD:VsR H1 nm1 (d++[v]) (dc++[[vc]]):=hd.snoc hv
   have hDi:=hD.ids
   have hcl:=Qgd hΓ dc (by omega) hdi hd.ones
   refine zA ?_
   refine zS (AStep.neNil0 Tryz.underlying68 rfl rfl rfl) ?_
   refine zM ?_
   refine zS (AStep.neNilBox Tryz.underlying72 rfl rfl rfl) ?_
   refine zM ?_
   refine zS (AStep.eqNil0 Tryz.underlying68 rfl rfl rfl) ?_
   refine zA ?_
   have hkd:=hkid (ouX (mC nilPE ec vc (.box [.box (cTr t),ec2,.sl 1 dc,kc2]) mo ms fu ⟨ac,kt⟩) mo.length ou1) H1 nm1 ⟨.rt v,.mk t e d::k,mo,ms,mh⟩ m' t e (d++[v]) k ec2 kc2 nilPE ec vc (.box [.box (cTr t),ec2,.sl 1 dc,kc2]) (dc++[[vc]]) kt (by rw[←hoX];exact h0) he hD hk g1 g2 (Qbi g3 ⟨hgm.c,trivial⟩) (by simp;omega) gn g5 (fun hR=>by have:=hkl hR;simp only[List.length_cons]at this;omega) holm hx fun hR=>bndX_k (hbn' hR)
   refine ACode.drawC2 tabOk 26 [13,19,24,25] [(18,.one (.sl 1 [[vc]]))] (fun vs σ=>match vs with
    |[]=>σ=⟨0,[],ouX (mC nilPE ec vc (.box [.box (cTr t),ec2,.sl 1 dc,kc2]) mo ms fu ⟨ac,kt⟩) mo.length ou1⟩
    |[a]=>∃ou2,Qgr dc (ouX (mC nilPE ec vc (.box [.box (cTr t),ec2,.sl 1 dc,kc2]) mo ms fu ⟨ac,kt⟩) mo.length ou1) a (ouX (mC nilPE ec vc (.box [.box (cTr t),ec2,.sl 1 dc,kc2]) mo ms fu ⟨ac,kt⟩) mo.length ou2)/\σ=⟨0,[],ouX (mC nilPE ec vc (.box [.box (cTr t),ec2,.sl 1 dc,kc2]) mo ms fu ⟨ac,kt⟩) mo.length ou2⟩
    |[a,b]=>b=.one (.sl 1 (dc++[[vc]]))/\σ=⟨1,[],ouX (mC nilPE ec vc (.box [.box (cTr t),ec2,.sl 1 dc,kc2]) mo ms fu ⟨ac,kt⟩) mo.length ou1⟩
    |[a,b,c]=>b=.one (.sl 1 (dc++[[vc]]))/\c=.agg [.box (cTr t),ec2,.sl 1 (dc++[[vc]]),kc2]/\σ=⟨1,[],ouX (mC nilPE ec vc (.box [.box (cTr t),ec2,.sl 1 dc,kc2]) mo ms fu ⟨ac,kt⟩) mo.length ou1⟩
    |[a,b,c,g]=>b=.one (.sl 1 (dc++[[vc]]))/\c=.agg [.box (cTr t),ec2,.sl 1 (dc++[[vc]]),kc2]/\g=.one (.box [.box (cTr t),ec2,.sl 1 (dc++[[vc]]),kc2])/\σ=⟨1,[],ouX (mC nilPE ec vc (.box [.box (cTr t),ec2,.sl 1 dc,kc2]) mo ms fu ⟨ac,kt⟩) mo.length ou1⟩
    |_=>False) follows (by kernel_rfl) rfl rfl (by decide) (by kernel_rfl) (by kernel_rfl) rfl rfl ?_ ?_ (by decide) ?_ ?_
   ·intro vs σ h
    match vs with
    |[]=>subst h;rfl
    |[_]=>obtain⟨_,_,rfl⟩:=h;rfl
    |[_,_]=>obtain⟨_,rfl⟩:=h;rfl
    |[_,_,_]=>obtain⟨_,_,rfl⟩:=h;rfl
    |[_,_,_,_]=>obtain⟨_,_,_,rfl⟩:=h;rfl
    |_::_::_::_::_::_=>exact h.elim
   ·intro vs σ h
    exact⟨⟨_,rfl,HStep.auto tabOk rfl⟩,trivial⟩
   ·intro vs σ h i o hi ho
    match vs with
    |[]=>
     subst h;cases hi;cases ho
     refine⟨rfl,.inl (.inr ⟨rfl,Q0k.call hΓ rfl rfl rfl rfl ⟨hdi,trivial⟩ hou (hcl _) fun r ou' hq hr ho=>?_⟩)⟩
     have e:ou'=ouX (mC nilPE ec vc (.box [.box (cTr t),ec2,.sl 1 dc,kc2]) mo ms fu ⟨ac,kt⟩) mo.length ou':=Qce (by
      rcases hq with ⟨_,_,rfl⟩|⟨q,_,_,h1,h2⟩
      ·rfl
      ·rw[h2 0 (by rintro rfl;cases h1)];rfl)
     exact⟨ou',by rw[←e];exact hq,by rw[←e]⟩
    |[a]=>
     obtain⟨ou2,hq,rfl⟩:=h;cases hi;cases ho
     rcases hq with ⟨rfl,rfl,h1⟩|⟨q,rfl,h1,h2,h3⟩
     ·refine⟨rfl,.inl (.inl ⟨_,_,AStep.less (σ2:=⟨1,[],ouX (mC nilPE ec vc (.box [.box (cTr t),ec2,.sl 1 _,kc2]) mo ms fu ⟨ac,kt⟩) mo.length ou1⟩) (AStep.weakV (AStep.append tabOk rfl rfl rfl rfl rfl rfl (Base.nil _ _) (.sl 1 [[vc]]) rfl (by show (0+1) * 16<=140737488355328;decide) (by simp)) (.one (.gsE (by simp)))) rfl ?_,rfl,rfl⟩)⟩
      intro i o hi
      cases i with
      |l j=>cases hi
      |o j=>exact (congrFun h1 j).trans hi
     ·refine⟨rfl,.inl (.inl ⟨_,_,AStep.less (σ2:=⟨1,[],ouX (mC nilPE ec vc (.box [.box (cTr t),ec2,.sl 1 _,kc2]) mo ms fu ⟨ac,kt⟩) mo.length ou1⟩) (AStep.weakV (AStep.append tabOk rfl rfl rfl rfl rfl rfl (Base.gs' _ _ _ _ _ h1 rfl) (.sl 1 [[vc]]) rfl (by simp;show _ * 16<=_;omega) (by simp;omega)) (.one (.gsE (by simp)))) rfl ?_,rfl,rfl⟩)⟩
      intro i o hi
      cases i with
      |l j=>cases hi
      |o j=>
       have hjq:j≠q:=by rintro rfl;have h5:=hi;simp only[St.get]at h5;rw[h2]at h5;cases h5
       have h4:=h3 j hjq
       show (bif Nat.beq j q then some AObj.dead else _)=some o
       rw[Q05 hjq]
       exact h4.trans hi
    |[_,_]=>obtain⟨rfl,rfl⟩:=h;cases hi;cases ho;exact⟨rfl,.inl (.inl ⟨_,_,AStep.ofOp tabOk rfl,rfl,rfl,rfl⟩)⟩
    |[_,_,_]=>obtain⟨rfl,rfl,rfl⟩:=h;cases hi;cases ho;exact⟨rfl,.inl (.inl ⟨_,_,AStep.boxI rfl rfl,rfl,rfl,rfl,rfl⟩)⟩
    |_::_::_::_::_=>cases hi
   ·intro vs σ hl h
    match vs with
    |[a,_,_,_]=>
     obtain⟨rfl,rfl,rfl,rfl⟩:=h
     refine AOps.call1 hΓ rfl rfl rfl rfl rfl rfl rfl ⟨trivial,⟨by simp,hei,hDi,hk2i,trivial⟩,trivial⟩ hou hkd fun r ou2 hq _ how=>?_
     obtain⟨rfl,H',nm',m2,hx2,hmo,hM2⟩:=hq
     cases hx2
     refine zA ?_
     exact cInv ⟨g,(ou2,H',nm',m'),_root_.id,by omega,⟨⟨hM2.ex⟩,hgm',hgo,by dsimp only;omega,hbn'⟩,LessR.of rfl zFW (by simp) zLO rfl rfl how⟩
    |[]|[_]|[_,_]|[_,_,_]=>cases hl
    |_::_::_::_::_::_=>exact h.elim
end
structure FragL (hi:Bool)(l:Lab):Prop where
 sh:shpQ l
 op:0<=l.op/\l.op<=8∨hi=true/\(l.op=12∨l.op=13)
 pr:l.op=8->l.n=0∨l.n=1∨l.n=2∨l.n=5∨l.n=6∨l.n=7
 bl:l.binds.length<=1048576
 al:l.alts.length<=1048576
 ab:∀a∈l.alts,a.binds.length<=1048576
 kl:l.ops.length<=1048576
 wd:l.op=1->inW l.n
 rc:l.op=5->∀i,i < l.binds.length->l.ops[i]?=some 2
def G1 (hi:Bool):GP:={ p:=FragL hi,S:=fun _=>True,W:=inW,fns:=[],R:=hi=true }
theorem Qgv{a b:Int}(ha:inW a)(hb:inW b):inW (a.tmod b):=by
 have h1:(a.tmod b).natAbs<=a.natAbs:=by
  rw[Int.natAbs_tmod];exact Nat.mod_le _ _
 unfold inW at *
 have h2:-1073741824<=a.tmod b:=by
  rcases Int.le_total 0 a with h|h
  ·have:=Int.tmod_nonneg b h;omega
  ·omega
 have h3:a.tmod b<=1073741823:=by
  rcases Int.le_total 0 a with h|h
  ·omega
  ·have h4:a.tmod b=-((-a).tmod b):=by rw[Int.neg_tmod];omega
   have:=Int.tmod_nonneg b (show 0<=-a by omega)
   omega
 exact⟨h2,h3⟩
theorem G1ok(hi:Bool):GPok (G1 hi) where
 sh:=fun l h=>h.sh
 bnd:=fun _ _ _ _=>trivial
 wd:=fun l h h1=>h.wd h1
 rc:=fun l h h1=>h.rc h1
 wr:=fun n=>by show inW (wrapW n);unfold inW wrapW;omega
 wl:=fun n h0 h1=>by show inW n;unfold inW;omega
 wm:=fun a b ha hb=>Qgv ha hb
 fn:=fun f hf=>by cases hf
 cl:=fun l h ho=>by
  exfalso
  rcases h.op with h1|⟨_,h1⟩ <;> omega
 rs:=fun l h ho=>by
  rcases h.op with h1|⟨h1,_⟩
  ·omega
  ·exact h1
section
variable {fu:Int}{ac:AC}
theorem list1{α:Type}{l:List α}(h:l.length=1):∃a,l=[a]:=by
 match l,h with
 |[a],_=>exact⟨a,rfl⟩
theorem list2{α:Type}{l:List α}(h:l.length=2):∃a b,l=[a,b]:=by
 match l,h with
 |[a,b],_=>exact⟨a,b,rfl⟩
theorem Qay{v:Vl}{n:Int}(h:wordV v=.ok n):v=.word n:=by
 cases v with
 |word m=>cases h;rfl
 |_=>cases h
theorem Qdr{m m':Ms}{n:Int}{a b v:Vl}(hn:n=0∨n=1∨n=2∨n=5∨n=6)(h:primM fu m n [a,b]=.ok (m',v)):∃x y,a=.word x/\b=.word y:=by
 cases hx:wordV a with
 |error c=>
  exfalso
  rcases hn with rfl|rfl|rfl|rfl|rfl <;> simp[primM,hx,bind,Except.bind]at h
 |ok x=>
  cases hy:wordV b with
  |error c=>
   exfalso
   rcases hn with rfl|rfl|rfl|rfl|rfl <;> simp[primM,hx,hy,bind,Except.bind]at h
  |ok y=>exact⟨x,y,Qay hx,Qay hy⟩
end
theorem idle_ok(a b c d:Value)(w:World):CallsD Tryz.prog 51 #[a,b,c,d] .returning w fun e u' w'=>(∃v,e=.returned v)/\u'=.returning/\w'=w:=by
 refine callsD_of_wpS Tryz.func51 rfl fun c₀ cs hu=>?_
 apply wpS_seq
 apply wpS_region
 simp[wpOpsS,go_sem,recoverD,hu,Tryz.ntmps51,Exit.thenS]
 apply wpS_seq
 apply wpS_region
 simp[wpOpsS,go_sem,recoverD,hu,Exit.thenS]
 refine wpS_cond (t:=false) (by simp[Act.eval,Array.replicate]) ?_
 simp only[Bool.false_eq_true,if_false]
 refine wpS_of_wp (wp_skip ?_)
 cases c₀
 simp_all[bodyPostS,results,Tryz.results51]
section
variable {fu:Int}{ac:AC}{G:GP}
theorem Qgt(hΓ:∀g cs,(g,cs)∈Γ->idsL isO cs){ou:Outer}{mf:Ms}{vf:Vl}{kt0:Nat}
  (hrun:AFn Tryz.prog Γ 52 [.one (.ptr (.o 0) 0)] ou (fun r ou'=>r=.one (.lit (.bool true))/\mf.c=.rt vf/\mf.k=[]/\∃H' nm',MR fu ⟨ac,kt0⟩ ou' H' nm' mf)):
  AFn Tryz.prog Γ 34 [.one (.ptr (.o 0) 0)] ou (fun r ou'=>r=.tup [.agg [.sl 1 (mf.out.map cI),int 0,int (lastV vf)],.one (int mf.steps),.one (int 0)]):=by
 refine AFn.ofDefer (gd:=51) (d5:=5) (first:=[]) (caps:=[.ptr (.l 0) 0,.ptr (.l 1) 0,.ptr (.l 2) 0,.ptr (.l 3) 0]) (fr1:=[(4,.one (.ptr (.l 3) 0)),(3,.one (.ptr (.l 2) 0)),(2,.one (.ptr (.l 1) 0)),(1,.one (.ptr (.l 0) 0)),(0,.one (.ptr (.o 0) 0))])
  (σ1 := ⟨4, [(3, .cells [int 0]), (2, .cells [int 0]), (1, .cells [.lit (.slice none 0 0), int 0, int 0]), (0, .cells [.ptr (.o 0) 0])], ou⟩)
  tabOk Tryz.func34 rfl (by kernel_rfl) (by decide) ?_ rfl rfl (by decide) (AStep.ofOp tabOk rfl) rfl rfl rfl ?_ ?_
 ·intro hou
  refine zA ?_
  exact⟨rfl,rfl,rfl⟩
 ·intro us w
  refine⟨?_,fun hs=>?_⟩
  ·simp[callFunc,Tryz.func51,Tryz.f51]
  ·obtain⟨l⟩:=us
   match l,hs with
   |[a,b,c,d],_=>exact idle_ok a b c d w
 ·intro hou ds
  refine zA ?_
  refine AOps.call1 hΓ rfl rfl rfl rfl rfl rfl rfl ⟨trivial,trivial⟩ hou hrun fun r ou' hq _ how=>?_
  obtain⟨rfl,hc,hk,H',nm',hM⟩:=hq
  obtain⟨kt,tc,ec,vc,kc,hCR,hKR,h0⟩:=hM.ex
  rw[hc]at hCR
  cases hCR with
  |rt _ ec vc hv=>
   have hvi:=hv.ids
   have hoX:=h0.ouX
   rw[hoX]at how ⊢
   refine zA ?_
   refine ACode.drawSt tabOk 15 14 [(8,.one (int (lastV vf)))] _ follows (by kernel_rfl) rfl rfl (by kernel_rfl) rfl ?_ rfl rfl rfl rfl ?_ ?_ (AStep.ofStore tabOk rfl) ?_
   ·rfl
   ·exact⟨⟨_,rfl,AStep.callPure hΓ rfl rfl rfl ⟨hvi,trivial⟩ how (Qf9 hv)⟩,trivial⟩
   ·exact⟨⟨_,rfl,AStep.callPure hΓ rfl rfl rfl ⟨hvi,trivial⟩ how (Qf9 hv)⟩,trivial⟩
   refine zA ?_
   exact AFn.fin' rfl (WkF.tup (.cons (.agg (.cons (.gsE rfl) (.cons (.refl _) (.cons (.refl _) .nil)))) (.cons (.refl _) (.cons (.refl _) .nil)))) (by simp) how rfl
end
abbrev nilS:AC:=.lit (.slice none 0 0)
end Go.Proofs.YtdpdlkgecmgokaaGreatDoor
