/- The abstract layer, part A: abstract values, what it means that a concrete value is one of them, and that this stays true as the world grows. No condition. -/
import Derived.Calls
import Derived.Below
import Derived.Laws.World
import Derived.Laws.Cells
import Derived.Laws.Rows
import Derived.Laws.CopyRow
import Derived.Laws.AppendOwn
import Derived.Laws.OwnMore
import Derived.Tactics
import Derived.StillTail
set_option maxRecDepth 10000
set_option linter.unusedVariables false
set_option linter.unusedSimpArgs false
namespace Go.Abs

inductive Id where
 |l (k:Nat)
 |o (k:Nat)
 deriving DecidableEq

inductive AC where
 |lit (v:Value)
 |any
 |sl (s:Nat) (es:List (List AC))
 |box (cs:List AC)
 |ptr (i:Id) (off:Nat)
 |gs (s:Nat) (es:List (List AC)) (i:Id)
 |arr (i:Id) (s off len cap:Nat)
 |mp (i:Id)
 |fn (f:Fn) (first caps:List AC)
 |ifc (t:TypeId) (agg:Bool) (cs:List AC)

inductive FV where
 |bot
 |one (c:AC)
 |agg (cs:List AC)
 |tup (vs:List FV)

structure Ctx where
 prot:Addr->Prop
 nl:Nat
 no:Nat
 phi:Id->Nat
 tk:Id->Option (Nat×Nat)

def Ctx.ok (C:Ctx):Id->Prop
 |.l k=>k < C.nl
 |.o k=>k < C.no
def Ctx.blk (C:Ctx)(i:Id):Nat:=C.phi i
def Ctx.tok (C:Ctx)(i:Id):Option (Nat×Nat):=C.tk i

mutual
def R (w:World)(C:Ctx):AC->Value->Prop
 |.lit u,v=>v=u/\u.oneCell'=true
 |.any,v=>v.oneCell'=true
 |.sl s es,v=>∃a cap,v=.slice a es.length cap/\es.length<=cap/\(es=[]∨∃ad,a=some ad/\ad.spot=none/\RS w C s es ad)
 |.box cs,v=>∃ad,v=.pointer (some ad)/\ad.spot=none/\RL w C cs ad
 |.ptr i off,v=>C.ok i/\v=.pointer (some ⟨C.blk i,off,none⟩)
 | .gs s es i, v => C.ok i /\ ((v = .slice none 0 0 /\ es = [] /\ C.tok i = none) ∨
   ∃g cap,v=.slice (some ⟨g,0,none⟩) es.length cap/\es.length<=cap/\C.tok i=some (g,cap)/\RS w C s es ⟨g,0,none⟩)
 |.arr i s off len cap,v=>C.ok i/\v=.slice (some ⟨C.blk i,off * s,none⟩) len cap/\len<=cap
 |.mp i,v=>C.ok i/\v=.map (some (C.blk i))
 |.fn f first caps,v=>∃xs ys:List Value,v=.func f xs.toArray ys.toArray/\RV w C first xs/\RV w C caps ys
 |.ifc t ag cs,v=>∃xs:List Value,RV w C cs xs/\((ag=true/\v=.iface t (.agg xs.toArray))∨(ag=false/\∃x,xs=[x]/\v=.iface t x))
def RS (w:World)(C:Ctx)(s:Nat):List (List AC)->Addr->Prop
 |[],_=>True
 |e::es,ad=>e.length=s/\RL w C e ad/\RS w C s es ⟨ad.block,ad.off+s,none⟩
def RL (w:World)(C:Ctx):List AC->Addr->Prop
 |[],_=>True
 |c::cs,ad=>(∃u,w.cell? ad=some u/\C.prot ad/\R w C c u)/\RL w C cs ⟨ad.block,ad.off+1,none⟩
def RV (w:World)(C:Ctx):List AC->List Value->Prop
 |[],vs=>vs=[]
 |c::cs,vs=>∃u us,vs=u::us/\R w C c u/\RV w C cs us
end


mutual
def AC.ids (p:Id->Prop):AC->Prop
 |.lit _=>True
 |.any=>True
 |.sl _ es=>idsS p es
 |.box cs=>idsL p cs
 |.ptr i _=>p i
 |.gs _ es i=>p i/\idsS p es
 |.arr i _ _ _ _=>p i
 |.mp i=>p i
 |.fn _ a b=>idsL p a/\idsL p b
 |.ifc _ _ cs=>idsL p cs
def idsS (p:Id->Prop):List (List AC)->Prop
 |[]=>True
 |e::es=>idsL p e/\idsS p es
def idsL (p:Id->Prop):List AC->Prop
 |[]=>True
 |c::cs=>c.ids p/\idsL p cs
end
theorem Q5u{p:Id->Prop}{cs:List AC}:idsL p cs↔∀c∈cs,c.ids p:=by
 induction cs with
 |nil=>simp[idsL]
 |cons c cs ih=>simp[idsL,ih]
theorem Qfo{p:Id->Prop}{es:List (List AC)}:idsS p es↔∀e∈es,idsL p e:=by
 induction es with
 |nil=>simp[idsS]
 |cons c cs ih=>simp[idsS,ih]
mutual
theorem AC.ids_mono{p q:Id->Prop}(h:∀i,p i->q i):∀c:AC,c.ids p->c.ids q
 |.lit _,_=>by simp[AC.ids]
 |.any,_=>by simp[AC.ids]
 |.sl _ es,hc=>by simp only[AC.ids]at *;exact Q8f h es hc
 |.box cs,hc=>by simp only[AC.ids]at *;exact Q12 h cs hc
 |.ptr i _,hc=>by simp only[AC.ids]at *;exact h _ hc
 |.gs _ es i,hc=>by simp only[AC.ids]at *;exact⟨h _ hc.1,Q8f h es hc.2⟩
 |.arr i _ _ _ _,hc=>by simp only[AC.ids]at *;exact h _ hc
 |.mp i,hc=>by simp only[AC.ids]at *;exact h _ hc
 |.fn _ a b,hc=>by simp only[AC.ids]at *;exact⟨Q12 h a hc.1,Q12 h b hc.2⟩
 |.ifc _ _ cs,hc=>by simp only[AC.ids]at *;exact Q12 h cs hc
theorem Q8f{p q:Id->Prop}(h:∀i,p i->q i):∀es:List (List AC),idsS p es->idsS q es
 |[],_=>by simp[idsS]
 |e::es,hc=>by simp only[idsS]at *;exact⟨Q12 h e hc.1,Q8f h es hc.2⟩
theorem Q12{p q:Id->Prop}(h:∀i,p i->q i):∀cs:List AC,idsL p cs->idsL q cs
 |[],_=>by simp[idsL]
 |c::cs,hc=>by simp only[idsL]at *;exact⟨AC.ids_mono h c hc.1,Q12 h cs hc.2⟩
end

structure Chg (p:Id->Prop)(w:World)(C:Ctx)(w':World)(C':Ctx):Prop where
 cell:∀a,C.prot a->w'.cell? a=w.cell? a
 prot:∀a,C.prot a->C'.prot a
 id:∀i,p i->C.ok i->C'.ok i/\C'.blk i=C.blk i/\C'.tok i=C.tok i

mutual
theorem R.chg{p:Id->Prop}{w w':World}{C C':Ctx}(h:Chg p w C w' C'):∀(c:AC)(v:Value),c.ids p->R w C c v->R w' C' c v
 |.lit u,v,_,hr=>by simpa[R]using hr
 |.any,v,_,hr=>by simpa[R]using hr
 |.sl s es,v,hi,hr=>by
  simp only[AC.ids,R]at *
  obtain⟨a,cap,rfl,hc,h2⟩:=hr
  refine⟨a,cap,rfl,hc,?_⟩
  rcases h2 with h2|⟨ad,rfl,hs,h2⟩
  ·exact .inl h2
  ·exact .inr ⟨ad,rfl,hs,RS.chg h s es ad hi h2⟩
 |.box cs,v,hi,hr=>by
  simp only[AC.ids,R]at *
  obtain⟨ad,rfl,hs,h2⟩:=hr
  exact⟨ad,rfl,hs,RL.chg h cs ad hi h2⟩
 |.ptr i off,v,hi,hr=>by
  simp only[AC.ids,R]at *
  obtain⟨ho,rfl⟩:=hr
  obtain⟨h1,h2,_⟩:=h.id i hi ho
  exact⟨h1,by rw[h2]⟩
 |.gs s es i,v,hi,hr=>by
  simp only[AC.ids,R]at *
  obtain⟨ho,hr⟩:=hr
  obtain⟨h1,_,h3⟩:=h.id i hi.1 ho
  refine⟨h1,?_⟩
  rcases hr with ⟨rfl,he,ht⟩|⟨g,cap,rfl,hc,ht,h2⟩
  ·exact .inl ⟨rfl,he,h3.trans ht⟩
  ·exact .inr ⟨g,cap,rfl,hc,h3.trans ht,RS.chg h s es _ hi.2 h2⟩
 |.arr i s off len cap,v,hi,hr=>by
  simp only[AC.ids,R]at *
  obtain⟨ho,rfl,hc⟩:=hr
  obtain⟨h1,h2,_⟩:=h.id i hi ho
  exact⟨h1,by rw[h2],hc⟩
 |.mp i,v,hi,hr=>by
  simp only[AC.ids,R]at *
  obtain⟨ho,rfl⟩:=hr
  obtain⟨h1,h2,_⟩:=h.id i hi ho
  exact⟨h1,by rw[h2]⟩
 |.fn f first caps,v,hi,hr=>by
  simp only[AC.ids,R]at *
  obtain⟨xs,ys,rfl,h1,h2⟩:=hr
  exact⟨xs,ys,rfl,RV.chg h first xs hi.1 h1,RV.chg h caps ys hi.2 h2⟩
 |.ifc t ag cs,v,hi,hr=>by
  simp only[AC.ids,R]at *
  obtain⟨xs,h1,h2⟩:=hr
  exact⟨xs,RV.chg h cs xs hi h1,h2⟩
theorem RS.chg{p:Id->Prop}{w w':World}{C C':Ctx}(h:Chg p w C w' C')(s:Nat):∀(es:List (List AC))(ad:Addr),idsS p es->RS w C s es ad->RS w' C' s es ad
 |[],_,_,_=>by simp[RS]
 |e::es,ad,hi,hr=>by
  simp only[idsS,RS]at *
  exact⟨hr.1,RL.chg h e ad hi.1 hr.2.1,RS.chg h s es _ hi.2 hr.2.2⟩
theorem RL.chg{p:Id->Prop}{w w':World}{C C':Ctx}(h:Chg p w C w' C'):∀(cs:List AC)(ad:Addr),idsL p cs->RL w C cs ad->RL w' C' cs ad
 |[],_,_,_=>by simp[RL]
 |c::cs,ad,hi,hr=>by
  simp only[idsL,RL]at *
  obtain⟨⟨u,hu,hp,hr⟩,h2⟩:=hr
  exact⟨⟨u,(h.cell _ hp).trans hu,h.prot _ hp,R.chg h c u hi.1 hr⟩,RL.chg h cs _ hi.2 h2⟩
theorem RV.chg{p:Id->Prop}{w w':World}{C C':Ctx}(h:Chg p w C w' C'):∀(cs:List AC)(vs:List Value),idsL p cs->RV w C cs vs->RV w' C' cs vs
 |[],_,_,hr=>by simpa[RV]using hr
 |c::cs,vs,hi,hr=>by
  simp only[idsL,RV]at *
  obtain⟨u,us,rfl,h1,h2⟩:=hr
  exact⟨u,us,rfl,R.chg h c u hi.1 h1,RV.chg h cs us hi.2 h2⟩
end

mutual
theorem R.idsOk{w:World}{C:Ctx}:∀(c:AC)(v:Value),R w C c v->c.ids C.ok
 |.lit u,v,_=>by simp[AC.ids]
 |.any,v,_=>by simp[AC.ids]
 |.sl s es,v,hr=>by
  simp only[AC.ids,R]at *
  obtain⟨a,cap,rfl,hc,h2⟩:=hr
  rcases h2 with rfl|⟨ad,rfl,hs,h2⟩
  ·simp[idsS]
  ·exact RS.idsOk s es ad h2
 |.box cs,v,hr=>by
  simp only[AC.ids,R]at *
  obtain⟨ad,rfl,hs,h2⟩:=hr
  exact RL.idsOk cs ad h2
 |.ptr i off,v,hr=>by simp only[AC.ids,R]at *;exact hr.1
 |.gs s es i,v,hr=>by
  simp only[AC.ids,R]at *
  obtain⟨ho,hr⟩:=hr
  refine⟨ho,?_⟩
  rcases hr with ⟨_,rfl,_⟩|⟨g,cap,rfl,hc,ht,h2⟩
  ·simp[idsS]
  ·exact RS.idsOk s es _ h2
 |.arr i s off len cap,v,hr=>by simp only[AC.ids,R]at *;exact hr.1
 |.mp i,v,hr=>by simp only[AC.ids,R]at *;exact hr.1
 |.fn f first caps,v,hr=>by
  simp only[AC.ids,R]at *
  obtain⟨xs,ys,rfl,h1,h2⟩:=hr
  exact⟨RV.idsOk first xs h1,RV.idsOk caps ys h2⟩
 |.ifc t ag cs,v,hr=>by
  simp only[AC.ids,R]at *
  obtain⟨xs,h1,h2⟩:=hr
  exact RV.idsOk cs xs h1
theorem RS.idsOk{w:World}{C:Ctx}(s:Nat):∀(es:List (List AC))(ad:Addr),RS w C s es ad->idsS C.ok es
 |[],_,_=>by simp[idsS]
 |e::es,ad,hr=>by
  simp only[idsS,RS]at *
  exact⟨RL.idsOk e ad hr.2.1,RS.idsOk s es _ hr.2.2⟩
theorem RL.idsOk{w:World}{C:Ctx}:∀(cs:List AC)(ad:Addr),RL w C cs ad->idsL C.ok cs
 |[],_,_=>by simp[idsL]
 |c::cs,ad,hr=>by
  simp only[idsL,RL]at *
  obtain⟨⟨u,hu,hp,hr⟩,h2⟩:=hr
  exact⟨R.idsOk c u hr,RL.idsOk cs _ h2⟩
theorem RV.idsOk{w:World}{C:Ctx}:∀(cs:List AC)(vs:List Value),RV w C cs vs->idsL C.ok cs
 |[],_,_=>by simp[idsL]
 |c::cs,vs,hr=>by
  simp only[idsL,RV]at *
  obtain⟨u,us,rfl,h1,h2⟩:=hr
  exact⟨R.idsOk c u h1,RV.idsOk cs us h2⟩
end

theorem R.one{w:World}{C:Ctx}{c:AC}{v:Value}(h:R w C c v):v.oneCell'=true:=by
 cases c <;> simp only[R]at h
 case lit u=>rw[h.1];exact h.2
 case any=>exact h
 case sl s es=>obtain⟨a,cap,rfl,_⟩:=h;rfl
 case box cs=>obtain⟨ad,rfl,_⟩:=h;rfl
 case ptr i off=>rw[h.2];rfl
 case gs s es i=>rcases h with ⟨_,⟨rfl,_⟩|⟨g,cap,rfl,_⟩⟩ <;> rfl
 case arr i s off len cap=>rw[h.2.1];rfl
 case mp i=>rw[h.2];rfl
 case fn f a b=>obtain⟨xs,ys,rfl,_⟩:=h;rfl
 case ifc t ag cs=>obtain⟨xs,_,⟨_,rfl⟩|⟨_,x,_,rfl⟩⟩:=h <;> rfl
theorem RV.one{w:World}{C:Ctx}:∀{cs:List AC}{xs:List Value},RV w C cs xs->∀x∈xs,x.oneCell'=true
 |[],xs,h,x,hx=>by simp only[RV]at h;subst h;cases hx
 |c::cs,xs,h,x,hx=>by
  simp only[RV]at h
  obtain⟨u,us,rfl,h1,h2⟩:=h
  rcases List.mem_cons.1 hx with rfl|hx
  ·exact h1.one
  ·exact RV.one h2 x hx
end Go.Abs
namespace Go.Abs
open Go.RowKit (Below)

mutual
def RF (w:World)(C:Ctx):FV->Value->Prop
 |.bot,_=>True
 |.one c,v=>R w C c v
 |.agg cs,v=>∃xs:List Value,v=.agg xs.toArray/\RV w C cs xs
 |.tup vs,v=>∃xs:List Value,v=.tuple xs.toArray/\RFs w C vs xs
def RFs (w:World)(C:Ctx):List FV->List Value->Prop
 |[],xs=>xs=[]
 |v::vs,xs=>∃u us,xs=u::us/\RF w C v u/\RFs w C vs us
end

mutual
def FV.ids (p:Id->Prop):FV->Prop
 |.bot=>True
 |.one c=>c.ids p
 |.agg cs=>idsL p cs
 |.tup vs=>idsF p vs
def idsF (p:Id->Prop):List FV->Prop
 |[]=>True
 |v::vs=>v.ids p/\idsF p vs
end

mutual
theorem RF.chg{p:Id->Prop}{w w':World}{C C':Ctx}(h:Chg p w C w' C'):∀(x:FV)(v:Value),x.ids p->RF w C x v->RF w' C' x v
 |.bot,v,_,_=>by simp[RF]
 |.one c,v,hi,hr=>by simp only[FV.ids,RF]at *;exact R.chg h c v hi hr
 |.agg cs,v,hi,hr=>by
  simp only[FV.ids,RF]at *
  obtain⟨xs,rfl,h2⟩:=hr
  exact⟨xs,rfl,RV.chg h cs xs hi h2⟩
 |.tup vs,v,hi,hr=>by
  simp only[FV.ids,RF]at *
  obtain⟨xs,rfl,h2⟩:=hr
  exact⟨xs,rfl,RFs.chg h vs xs hi h2⟩
theorem RFs.chg{p:Id->Prop}{w w':World}{C C':Ctx}(h:Chg p w C w' C'):∀(vs:List FV)(xs:List Value),idsF p vs->RFs w C vs xs->RFs w' C' vs xs
 |[],xs,_,hr=>by simpa[RFs]using hr
 |v::vs,xs,hi,hr=>by
  simp only[idsF,RFs]at *
  obtain⟨u,us,rfl,h1,h2⟩:=hr
  exact⟨u,us,rfl,RF.chg h v u hi.1 h1,RFs.chg h vs us hi.2 h2⟩
end

mutual
theorem ids_true:∀c:AC,c.ids (fun _=>True)
 |.lit _=>by simp[AC.ids]
 |.any=>by simp[AC.ids]
 |.sl _ es=>by simp only[AC.ids];exact Q5t es
 |.box cs=>by simp only[AC.ids];exact Q23 cs
 |.ptr i _=>by simp[AC.ids]
 |.gs _ es i=>by simp only[AC.ids];exact⟨trivial,Q5t es⟩
 |.arr i _ _ _ _=>by simp[AC.ids]
 |.mp i=>by simp[AC.ids]
 |.fn _ a b=>by simp only[AC.ids];exact⟨Q23 a,Q23 b⟩
 |.ifc _ _ cs=>by simp only[AC.ids];exact Q23 cs
theorem Q5t:∀es:List (List AC),idsS (fun _=>True) es
 |[]=>by simp[idsS]
 |e::es=>by simp only[idsS];exact⟨Q23 e,Q5t es⟩
theorem Q23:∀cs:List AC,idsL (fun _=>True) cs
 |[]=>by simp[idsL]
 |c::cs=>by simp only[idsL];exact⟨ids_true c,Q23 cs⟩
end
mutual
theorem FV.ids_true:∀x:FV,x.ids (fun _=>True)
 |.bot=>by simp[FV.ids]
 |.one c=>by simp only[FV.ids];exact Abs.ids_true c
 |.agg cs=>by simp only[FV.ids];exact Q23 cs
 |.tup vs=>by simp only[FV.ids];exact Qcl vs
theorem Qcl:∀vs:List FV,idsF (fun _=>True) vs
 |[]=>by simp[idsF]
 |v::vs=>by simp only[idsF];exact⟨FV.ids_true v,Qcl vs⟩
end

abbrev Ext (w:World)(C:Ctx)(w':World)(C':Ctx):Prop:=Chg (fun _=>True) w C w' C'
theorem Chg.refl(p:Id->Prop)(w:World)(C:Ctx):Chg p w C w C:=⟨fun _ _=>rfl,fun _ h=>h,fun _ _ h=>⟨h,rfl,rfl⟩⟩
theorem Chg.trans{p:Id->Prop}{w1 w2 w3:World}{C1 C2 C3:Ctx}(h:Chg p w1 C1 w2 C2)(k:Chg p w2 C2 w3 C3):Chg p w1 C1 w3 C3 :=
 ⟨fun a ha => (k.cell a (h.prot a ha)).trans (h.cell a ha), fun a ha => k.prot a (h.prot a ha), fun i hi ho => by
  obtain⟨h1,h2,h3⟩:=h.id i hi ho
  obtain⟨k1,k2,k3⟩:=k.id i hi h1
  exact⟨k1,k2.trans h2,k3.trans h3⟩⟩
theorem Chg.weaken{p q:Id->Prop}{w w':World}{C C':Ctx}(h:Chg p w C w' C')(hq:∀i,q i->p i):Chg q w C w' C':=
 ⟨h.cell,h.prot,fun i hi ho=>h.id i (hq i hi) ho⟩
theorem RF.ext{w w':World}{C C':Ctx}(h:Ext w C w' C'){x:FV}{v:Value}(hr:RF w C x v):RF w' C' x v:=RF.chg h x v (FV.ids_true x) hr
theorem RV.ext{w w':World}{C C':Ctx}(h:Ext w C w' C'){x:List AC}{v:List Value}(hr:RV w C x v):RV w' C' x v:=RV.chg h x v (Q23 x) hr

structure Stp (F:Nat->Prop)(w w':World):Prop where
 os:w'.os=w.os
 tape:w'.tape=w.tape
 output:w'.output=w.output
 size:w.heap.size<=w'.heap.size
 block:∀k,F k->w'.heap[k]?=w.heap[k]?
 frozen:∀a:Addr,a.block < w.heap.size->w'.frozen? a=w.frozen? a
theorem Stp.refl(F:Nat->Prop)(w:World):Stp F w w:=⟨rfl,rfl,rfl,Nat.le_refl _,fun _ _=>rfl,fun _ _=>rfl⟩
theorem Stp.trans{F:Nat->Prop}{a b c:World}(h:Stp F a b)(k:Stp F b c):Stp F a c:=
 ⟨k.os.trans h.os,k.tape.trans h.tape,k.output.trans h.output,Nat.le_trans h.size k.size,fun i hi=>(k.block i hi).trans (h.block i hi),fun x hx=>(k.frozen x (Nat.lt_of_lt_of_le hx h.size)).trans (h.frozen x hx)⟩
theorem Stp.mono{F F':Nat->Prop}{a b:World}(h:Stp F a b)(hF:∀k,F' k->F k):Stp F' a b:=⟨h.os,h.tape,h.output,h.size,fun i hi=>h.block i (hF i hi),h.frozen⟩
theorem Stp.allocObj{F:Nat->Prop}{w:World}(hF:∀k,F k->k < w.heap.size)(o:Obj)(ho:∀c t lo hi,o=.cells c t (lo,hi)->lo=0/\hi=0):Stp F w (w.alloc o) :=
 ⟨rfl, rfl, rfl, by simp, fun k hk => heap_alloc_old w o k (hF k hk), fun a _ => by
  by_cases h:a.block=w.heap.size
  ·have h1:(w.alloc o).heap[a.block]?=some o:=by rw[h];exact heap_alloc_new w _
   have h2:w.heap[a.block]?=none:=by rw[h];simp
   simp only[World.frozen?,h1,h2]
   cases o with
   |cells c t fr=>
    obtain⟨lo,hi⟩:=fr
    obtain⟨rfl,rfl⟩:=ho c t lo hi rfl
    simp
   |_=>rfl
  ·exact World.frozen?_alloc_old _ _ _ h⟩
theorem Stp.alloc{F:Nat->Prop}{w:World}(hF:∀k,F k->k < w.heap.size)(c:Array Value)(t:TypeId):Stp F w (w.alloc (.cells c t)):=
 Stp.allocObj hF _ (by intro c t lo hi h;cases h;exact⟨rfl,rfl⟩)
theorem Stp.drew(F:Nat->Prop)(w:World):Stp F w w.drew:=⟨rfl,rfl,rfl,Nat.le_refl _,fun _ _=>rfl,fun _ _=>rfl⟩

inductive AObj where
 |cells (cs:List AC)
 |map (ck:Nat) (es:List (Nat×Value×FV))
 |iter (m:Id) (since:Nat) (seen:List Nat) (last:Nat)
 |sit (s:ByteArray) (pos:Nat)
 |tok (e:TypeId) (s used:Nat)
 |dead

structure St where
 n:Nat
 lo:List (Nat×AObj)
 ou:Nat->Option AObj

theorem Q09{j k:Nat}(h:j≠k):Nat.beq j k=false:=by
 cases hb:Nat.beq j k
 ·rfl
 ·exact absurd (Nat.eq_of_beq_eq_true hb) h
theorem Q3h(k:Nat):Nat.beq k k=true:=by simp
def lookL (k:Nat):List (Nat×AObj)->Option AObj
 |[]=>none
 |(j,o)::r=>bif Nat.beq j k then some o else lookL k r
def St.get (σ:St):Id->Option AObj
 |.l k=>lookL k σ.lo
 |.o k=>σ.ou k
def St.set (σ:St):Id->AObj->St
 |.l k,o=>{ σ with lo:=(k,o)::σ.lo }
 |.o k,o=>{ σ with ou:=fun j=>bif Nat.beq j k then some o else σ.ou j }

theorem Q84(k:Nat)(o:AObj)(r:List (Nat×AObj)):lookL k ((k,o)::r)=some o:=by simp[lookL]
theorem Qb3{j k:Nat}(h:j≠k)(o:AObj)(r:List (Nat×AObj)):lookL k ((j,o)::r)=lookL k r:=by
 have:Nat.beq j k=false:=Q09 h
 simp[lookL,this]
theorem St.get_set_same(σ:St)(i:Id)(o:AObj):(σ.set i o).get i=some o:=by
 cases i <;> simp[St.get,St.set,lookL]
theorem St.get_set_ne(σ:St){i j:Id}(h:i≠j)(o:AObj):(σ.set i o).get j=σ.get j:=by
 cases i with
 |l k=>cases j with
  |l k'=>
   have:Nat.beq k k'=false:=Q09 fun e=>h (by rw[e])
   simp[St.get,St.set,lookL,this]
  |o k'=>simp[St.get,St.set]
 |o k=>cases j with
  |l k'=>simp[St.get,St.set]
  |o k'=>
   have:Nat.beq k' k=false:=Q09 fun e=>h (by rw[e])
   simp[St.get,St.set,this]
theorem St.n_set(σ:St)(i:Id)(o:AObj):(σ.set i o).n=σ.n:=by cases i <;> rfl

def AObj.block (C:Ctx)(i:Id):AObj->Option Nat
 |.cells _|.map _ _|.iter _ _ _ _|.sit _ _=>some (C.blk i)
 |.tok _ _ _=>(C.tok i).map (·.1)
 |.dead=>none

def RM (w:World)(C:Ctx):List (Nat×Value×FV)->List MapEntry->Prop
 |[],es=>es=[]
 |(b,k,cs)::r,es=>∃e es',es=e::es'/\(e.key=k/\e.born=b)/\RF w C cs e.val/\RM w C r es'
theorem RM.chg{p:Id->Prop}{w w':World}{C C':Ctx}(h:Chg p w C w' C'):∀(r:List (Nat×Value×FV))(es:List MapEntry),(∀x∈r,x.2.2.ids p)->RM w C r es->RM w' C' r es
 |[],_,_,hr=>by simpa[RM]using hr
 |(b,k,cs)::r,es,hi,hr=>by
  simp only[RM]at *
  obtain⟨e,es',rfl,hk,h1,h2⟩:=hr
  exact⟨e,es',rfl,hk,RF.chg h cs _ (hi (b,k,cs) (by simp)) h1,RM.chg h r es' (fun x hx=>hi x (by simp[hx])) h2⟩

def ObjOk (w:World)(C:Ctx)(F:Nat->Prop)(i:Id):AObj->Prop
 |.cells cs=>∃(xs:List Value) (T:TypeId),w.heap[C.blk i]?=some (.cells xs.toArray T (0,0))/\¬F (C.blk i)/\RV w C cs xs/\∀a:Addr,a.block=C.blk i->¬C.prot a
 |.map ck es=>∃(ents:List MapEntry),w.heap[C.blk i]?=some (.map ents.toArray ck)/\¬F (C.blk i)/\RM w C es ents
 |.iter m since seen last=>w.heap[C.blk i]?=some (.mapIter (some (C.blk m)) since seen.toArray last)/\¬F (C.blk i)/\C.ok m
 |.sit s pos=>w.heap[C.blk i]?=some (.stringIter s pos)/\¬F (C.blk i)
 |.tok e s used=>match C.tok i with
  |none=>used=0
  |some (g,cap)=>∃xs:Array Value,w.heap[g]?=some (.cells xs e (0,0))/\¬F g/\xs.size=cap * s/\used<=cap/\cap<=maxLen/\∀a:Addr,a.block=g->C.prot a->a.off < used * s
 |.dead=>True

structure RG (w:World)(C:Ctx)(cs:List AC)(g:Nat):Prop where
 rl:RL w C cs ⟨g,0,none⟩
 fin:w.cell? ⟨g,cs.length,none⟩=none
 pr:C.prot ⟨g,cs.length,none⟩
theorem RG.chg{p:Id->Prop}{w w':World}{C C':Ctx}(h:Chg p w C w' C'){cs:List AC}{g:Nat}(hi:idsL p cs)(hr:RG w C cs g):RG w' C' cs g:=
 ⟨RL.chg h cs _ hi hr.rl,(h.cell _ hr.pr).trans hr.fin,h.prot _ hr.pr⟩
theorem RG.ext{w w':World}{C C':Ctx}(h:Ext w C w' C'){cs:List AC}{g:Nat}(hr:RG w C cs g):RG w' C' cs g:=hr.chg h (Q23 cs)

structure Inv (Γ:List (Nat×List AC))(F:Nat->Prop)(w:World)(C:Ctx)(σ:St):Prop where
 base:∀k,F k->k < w.heap.size
 next:C.nl=σ.n
 glob:∀g cs,(g,cs)∈Γ->RG w C cs g
 prot:∀a,C.prot a->a.block < w.heap.size
 obj:∀i o,σ.get i=some o->C.ok i/\ObjOk w C F i o
 inj:∀i j o o' g,σ.get i=some o->σ.get j=some o'->o.block C i=some g->o'.block C j=some g->i=j

abbrev Fr:=List (Nat×FV)
def Fr.get (k:Nat):Fr->Option FV
 |[]=>none
 |(j,v)::r=>bif Nat.beq j k then some v else Fr.get k r
def FrOk (w:World)(C:Ctx)(N:Nat)(fr:Fr)(tmps:Array Value):Prop:=
 tmps.size=N/\∀k x,Fr.get k fr=some x->∃u,tmps[k]?=some u/\RF w C x u
theorem FrOk.ext{w w':World}{C C':Ctx}{N:Nat}{fr:Fr}{tmps:Array Value}(h:Ext w C w' C')(hf:FrOk w C N fr tmps):FrOk w' C' N fr tmps:=
 ⟨hf.1,fun k x hk=>let ⟨u,hu,hr⟩:=hf.2 k x hk;⟨u,hu,hr.ext h⟩⟩
theorem FrOk.put{w:World}{C:Ctx}{N:Nat}{fr:Fr}{tmps:Array Value}(hf:FrOk w C N fr tmps){d:Nat}{x:FV}{u:Value}(hd:d < N)(hr:RF w C x u):
  FrOk w C N ((d,x)::fr) (tmps.setIfInBounds d u):=by
 refine⟨by simp[hf.1],fun k y hk=>?_⟩
 simp only[Fr.get]at hk
 by_cases e:d=k
 ·subst e
  simp at hk
  subst hk
  exact⟨u,by simp[hf.1,hd],hr⟩
 ·have hb:Nat.beq d k=false:=Q09 e
  rw[hb]at hk
  obtain⟨u',hu',hr'⟩:=hf.2 k y hk
  exact⟨u',by rw[Array.getElem?_setIfInBounds_ne e];exact hu',hr'⟩
end Go.Abs
namespace Go.Abs
open Go.RowKit (Below)

structure TI where
 size:Nat
 bytes:Nat
 agg:Bool
 zero:List Value
 kind:Nat
 flds:List (Nat×TypeId)
 elem:TypeId
 len:Nat

def aggOf:TypeDesc->Bool
 |.struct _=>true
 |.array _ _=>true
 |_=>false
def kindOf (ti:TI)(d:TypeDesc):Prop:=
 match ti.kind with
 |1=>∃fs:Array Field,d=.struct fs/\fs.toList.map (fun f=>(f.offset,f.type))=ti.flds
 |2=>d=.slice ti.elem
 |3=>d=.array ti.len ti.elem
 |4=>∃k,d=.map k ti.elem
 |5=>d=.string
 |6=>d=.pointer ti.elem
 |_=>True

structure TIOk (P:Program)(t:TypeId)(ti:TI):Prop where
 ex:∃i d z,P.info? t=some i/\P.underlying t=some d/\i.size=ti.size/\i.bytes=ti.bytes/\i.zero=some z/\z.cells.toList=ti.zero/\aggOf d=ti.agg/\kindOf ti d
 one:ti.zero.all Value.oneCell'=true
 len:ti.zero.length=ti.size
 pos:ti.size≠0

abbrev Tab:=List (TypeId×TI)
def Tab.get (t:TypeId):Tab->Option TI
 |[]=>none
 |(j,i)::r=>bif Nat.beq j t then some i else Tab.get t r
def TabOk (P:Program)(T:Tab):Prop:=∀t ti,Tab.get t T=some ti->TIOk P t ti
theorem TabOk.of{P:Program}{T:Tab}(h:∀x∈T,TIOk P x.1 x.2):TabOk P T:=by
 intro t ti hg
 induction T with
 |nil=>cases hg
 |cons x r ih=>
  obtain⟨j,i⟩:=x
  simp only[Tab.get]at hg
  by_cases e:Nat.beq j t=true
  ·rw[e]at hg
   obtain rfl:j=t:=Nat.eq_of_beq_eq_true e
   simp at hg
   subst hg
   exact h (j,i) (by simp)
  ·have e':Nat.beq j t=false:=by cases hb:Nat.beq j t;rfl;exact absurd hb e
   rw[e']at hg
   exact ih (fun x hx=>h x (by simp[hx])) hg

section
variable {P:Program}{t:TypeId}{ti:TI}(w:World)
theorem TIOk.run_isAgg(h:TIOk P t ti):(isAgg t).run P w=.ok ti.agg w:=by
 obtain⟨i,d,z,h1,h2,h3,h4,h5,h6,h7,h8⟩:=h.ex
 simp only[isAgg,Sem.run_bind,run_underlying h2,Result.andThen_ok]
 rw[←h7]
 cases d <;> rfl
theorem TIOk.run_sizeOf(h:TIOk P t ti):(sizeOf t).run P w=.ok ti.size w:=by
 obtain⟨i,d,z,h1,h2,h3,h4,h5,h6,h7,h8⟩:=h.ex
 simp[sizeOf,typeInfo,h1,h3]
theorem TIOk.run_zero(h:TIOk P t ti):∃z:Value,z.cells.toList=ti.zero/\(zeroValue t).run P w=.ok z w:=by
 obtain⟨i,d,z,h1,h2,h3,h4,h5,h6,h7,h8⟩:=h.ex
 exact⟨z,h6,by simp[zeroValue,typeInfo,h1,h5]⟩
theorem TIOk.run_struct(h:TIOk P t ti)(hk:ti.kind=1):∃fs:Array Field,fs.toList.map (fun f=>(f.offset,f.type))=ti.flds/\(underlying t).run P w=.ok (.struct fs) w:=by
 obtain⟨i,d,z,h1,h2,h3,h4,h5,h6,h7,h8⟩:=h.ex
 simp only[kindOf,hk]at h8
 obtain⟨fs,rfl,hf⟩:=h8
 exact⟨fs,hf,run_underlying h2 w⟩
theorem TIOk.slice(h:TIOk P t ti)(hk:ti.kind=2):P.underlying t=some (.slice ti.elem):=by
 obtain⟨i,d,z,h1,h2,h3,h4,h5,h6,h7,h8⟩:=h.ex
 simp only[kindOf,hk]at h8
 rw[h2,h8]
end

theorem Addr.add_none{ad:Addr}(h:ad.spot=none)(n:Nat):ad.add n=⟨ad.block,ad.off+n,none⟩:=by
 unfold Addr.add
 split
 ·rename_i e;subst e;cases ad;simp_all
 ·rfl

def Held (w:World)(xs:List Value)(ad:Addr):Prop:=∀j v,xs[j]?=some v->w.cell? (ad.add j)=some v

theorem RL.held{w:World}{C:Ctx}:∀(cs:List AC)(ad:Addr),ad.spot=none->RL w C cs ad->∃xs:List Value,RV w C cs xs/\xs.length=cs.length/\Held w xs ad
 |[],ad,_,_=>⟨[],by simp[RV],rfl,fun j v h=>by simp at h⟩
 |c::cs,ad,hs,h=>by
  simp only[RL]at h
  obtain⟨⟨u,hu,hp,hr⟩,h2⟩:=h
  obtain⟨xs,h3,h4,h5⟩:=RL.held cs ⟨ad.block,ad.off+1,none⟩ rfl h2
  refine⟨u::xs,⟨u,xs,rfl,hr,h3⟩,by simp[h4],fun j v hj=>?_⟩
  rw[Addr.add_none hs]
  cases j with
  |zero=>simp at hj;subst hj;rw[←hu];cases ad;simp_all
  |succ j=>
   have:=h5 j v (by simpa using hj)
   rw[Addr.add_none rfl]at this
   rw[←this];congr 2;simp;omega
theorem RV.length{w:World}{C:Ctx}:∀{cs:List AC}{xs:List Value},RV w C cs xs->xs.length=cs.length
 |[],xs,h=>by simp only[RV]at h;simp[h]
 |c::cs,xs,h=>by
  simp only[RV]at h
  obtain⟨u,us,rfl,h1,h2⟩:=h
  simp[RV.length h2]
theorem RV.append{w:World}{C:Ctx}:∀{cs:List AC}{xs:List Value}{ds:List AC}{ys:List Value},RV w C cs xs->RV w C ds ys->RV w C (cs++ds) (xs++ys)
 |[],xs,ds,ys,h,k=>by simp only[RV]at h;simpa[h]using k
 |c::cs,xs,ds,ys,h,k=>by
  simp only[RV]at h
  obtain⟨u,us,rfl,h1,h2⟩:=h
  exact⟨u,us++ys,rfl,h1,RV.append h2 k⟩
theorem RV.drop{w:World}{C:Ctx}:∀{cs:List AC}{xs:List Value}(n:Nat),RV w C cs xs->RV w C (cs.drop n) (xs.drop n)
 |cs,xs,0,h=>by simpa using h
 |[],xs,n+1,h=>by simp only[RV]at h;simp[h,RV]
 |c::cs,xs,n+1,h=>by
  simp only[RV]at h
  obtain⟨u,us,rfl,h1,h2⟩:=h
  simpa using RV.drop n h2
theorem RV.take{w:World}{C:Ctx}:∀{cs:List AC}{xs:List Value}(n:Nat),RV w C cs xs->RV w C (cs.take n) (xs.take n)
 |cs,xs,0,h=>by simp[RV]
 |[],xs,n+1,h=>by simp only[RV]at h;simp[h,RV]
 |c::cs,xs,n+1,h=>by
  simp only[RV]at h
  obtain⟨u,us,rfl,h1,h2⟩:=h
  exact⟨u,us.take n,by simp,h1,RV.take n h2⟩
theorem RL.drop{w:World}{C:Ctx}:∀{cs:List AC}{ad:Addr}(n:Nat),ad.spot=none->RL w C cs ad->RL w C (cs.drop n) ⟨ad.block,ad.off+n,none⟩
 |cs,ad,0,hs,h=>by cases ad;simp_all
 |[],ad,n+1,_,h=>by simp[RL]
 |c::cs,ad,n+1,hs,h=>by
  simp only[RL]at h
  have:=RL.drop (ad:=⟨ad.block,ad.off+1,none⟩) n rfl h.2
  simpa[Nat.add_assoc,Nat.add_comm 1 n]using this
theorem RL.take{w:World}{C:Ctx}:∀{cs:List AC}{ad:Addr}(n:Nat),RL w C cs ad->RL w C (cs.take n) ad
 |cs,ad,0,h=>by simp[RL]
 |[],ad,n+1,h=>by simp[RL]
 |c::cs,ad,n+1,h=>by
  simp only[RL]at h
  exact⟨h.1,RL.take n h.2⟩

section
variable {P:Program}{t:TypeId}{ti:TI}{w:World}
def valOf (agg:Bool)(xs:List Value):Value:=if agg then .agg xs.toArray else xs.headD undef
theorem Q46(h:TIOk P t ti)(ha:ti.agg=false->ti.size=1){xs:List Value}{ad:Addr}(hh:Held w xs ad)(hl:xs.length=ti.size):
  (loadVar t ad).run P w=.ok (valOf ti.agg xs) w:=by
 simp only[loadVar,Sem.run_bind,h.run_isAgg,Result.andThen_ok]
 cases hg:ti.agg with
 |true=>
  have hc:=run_loadCells_list (P:=P) w ad xs hh
  rw[hl]at hc
  simp[h.run_sizeOf,hc,valOf]
 |false=>
  have h1:=ha hg
  rw[h1]at hl
  match xs,hl with
  |[x],_=>
   have:=hh 0 x rfl
   rw[show ad.add 0=ad from by simp[Addr.add]]at this
   simp[run_load,this,valOf]
end
theorem run_storeVar_row{P:Program}{t:TypeId}{ti:TI}{w:World}(h:TIOk P t ti){g off:Nat}{xs:List Value}{T:TypeId}(hg:w.heap[g]?=some (.cells xs.toArray T (0,0))){v:Value}
  (hv:v.cells.toList.length=ti.size) (h1:∀x∈v.cells.toList,x.oneCell'=true) (hl:off+ti.size<=xs.length):
  (storeVar t ⟨g,off,none⟩ v).run P w=.ok () (w.setRow g (xs.take off++v.cells.toList++xs.drop (off+ti.size)).toArray):=by
 have hs:v.cells.size=ti.size:=by simpa using hv
 have:=run_storeCells_at P g off T v.cells.toList 0 xs.toArray w hg (by simpa[hv]using hl) h1
 simp only[storeVar,Sem.run_bind,h.run_sizeOf,Result.andThen_ok,hs]
 simp only[ne_eq,not_true_eq_false,↓reduceIte]
 rw[this]
 simp[hv]
end Go.Abs
namespace Go.Abs
open Go.RowKit (Below)

section
variable {Γ:List (Nat×List AC)}{F:Nat->Prop}{w:World}{C:Ctx}{σ:St}

theorem RS.ext{w w':World}{C C':Ctx}(h:Ext w C w' C'){s:Nat}{x:List (List AC)}{v:Addr}(hr:RS w C s x v):RS w' C' s x v:=RS.chg h s x v (Q5t x) hr
theorem RM.ext{w w':World}{C C':Ctx}(h:Ext w C w' C'){r:List (Nat×Value×FV)}{es:List MapEntry}(hr:RM w C r es):RM w' C' r es:=RM.chg h r es (fun _ _=>FV.ids_true _) hr

theorem Q2m(w:World)(o:Obj){k:Nat}{x:Obj}(h:w.heap[k]?=some x):(w.alloc o).heap[k]?=some x:=by
 rw[heap_alloc_old w o k]
 ·exact h
 ·rcases Nat.lt_or_ge k w.heap.size with h1|h1
  ·exact h1
  ·rw[Array.getElem?_eq_none h1]at h;cases h
theorem Q0b{w:World}{k:Nat}{x:Obj}(h:w.heap[k]?=some x):k < w.heap.size:=by
 rcases Nat.lt_or_ge k w.heap.size with h1|h1
 ·exact h1
 ·rw[Array.getElem?_eq_none h1]at h;cases h

theorem ObjOk.keep{i:Id}{o:AObj}{w':World}{C':Ctx}(h:ObjOk w C F i o)(he:Ext w C w' C')(hi:C.ok i)
  (hb:∀g x,o.block C i=some g->w.heap[g]?=some x->w'.heap[g]?=some x) (hp:∀a:Addr,o.block C i=some a.block->a.block < w.heap.size->C'.prot a->C.prot a):ObjOk w' C' F i o:=by
 obtain⟨_,hblk,htok⟩:=he.id i trivial hi
 cases o with
 |cells cs=>
  obtain⟨xs,T,h1,h2,h3,h4⟩:=h
  refine⟨xs,T,?_,by rw[hblk];exact h2,h3.ext he,fun a ha hpa=>h4 a (by rw[ha,hblk]) (hp a ?_ ?_ hpa)⟩
  ·rw[hblk];exact hb _ _ rfl h1
  ·rw[ha,hblk];rfl
  ·rw[ha,hblk];exact Q0b h1
 |map ck es=>
  obtain⟨ents,h1,h2,h3⟩:=h
  exact⟨ents,by rw[hblk];exact hb _ _ rfl h1,by rw[hblk];exact h2,h3.ext he⟩
 |iter m since seen last=>
  obtain⟨h1,h2,h3⟩:=h
  obtain⟨m1,m2,_⟩:=he.id m trivial h3
  exact⟨by rw[hblk,m2];exact hb _ _ rfl h1,by rw[hblk];exact h2,m1⟩
 |sit s pos=>
  obtain⟨h1,h2⟩:=h
  exact⟨by rw[hblk];exact hb _ _ rfl h1,by rw[hblk];exact h2⟩
 |tok e s used=>
  simp only[ObjOk,htok]at *
  cases ht:C.tok i with
  |none=>rw[ht]at h;exact h
  |some gc=>
   obtain⟨g,cap⟩:=gc
   simp only[ht]at h ⊢
   obtain⟨xs,h1,h2,h3,h4,h6,h5⟩:=h
   refine⟨xs,hb g _ (by simp[AObj.block,ht]) h1,h2,h3,h4,h6,fun a ha hpa=>h5 a ha (hp a ?_ ?_ hpa)⟩
   ·simp[AObj.block,ht,ha]
   ·rw[ha];exact Q0b h1
 |dead=>trivial
theorem AObj.block_lt{i:Id}{o:AObj}(h:ObjOk w C F i o){g:Nat}(hg:o.block C i=some g):¬F g/\g < w.heap.size:=by
 cases o with
 |cells cs=>
  obtain⟨xs,T,h1,h2,h3,h4⟩:=h
  obtain rfl:C.blk i=g:=by simpa[AObj.block]using hg
  exact⟨h2,Q0b h1⟩
 |map ck es=>
  obtain⟨ents,h1,h2,h3⟩:=h
  obtain rfl:C.blk i=g:=by simpa[AObj.block]using hg
  exact⟨h2,Q0b h1⟩
 |iter m since seen last=>
  obtain⟨h1,h2,h3⟩:=h
  obtain rfl:C.blk i=g:=by simpa[AObj.block]using hg
  exact⟨h2,Q0b h1⟩
 |sit s pos=>
  obtain⟨h1,h2⟩:=h
  obtain rfl:C.blk i=g:=by simpa[AObj.block]using hg
  exact⟨h2,Q0b h1⟩
 |tok e s used=>
  simp only[ObjOk]at h
  cases ht:C.tok i with
  |none=>simp[AObj.block,ht]at hg
  |some gc=>
   obtain⟨g',cap⟩:=gc
   simp only[ht]at h
   obtain⟨xs,h1,h2,h3,h4,h6,h5⟩:=h
   obtain rfl:g'=g:=by simpa[AObj.block,ht]using hg
   exact⟨h2,Q0b h1⟩
 |dead=>simp[AObj.block]at hg
theorem AObj.block_ext{i:Id}{o:AObj}{w':World}{C':Ctx}(he:Ext w C w' C')(hi:C.ok i):o.block C' i=o.block C i:=by
 obtain⟨_,hblk,htok⟩:=he.id i trivial hi
 cases o <;> simp[AObj.block,hblk,htok]

def Ctx.more (C:Ctx)(g:Nat)(tk:Option (Nat×Nat)):Ctx:=
 { C with nl:=C.nl+1,phi:=fun i=>if i=.l C.nl then g else C.phi i,tk:=fun i=>if i=.l C.nl then tk else C.tk i }
theorem Ctx.more_old(C:Ctx)(g:Nat)(tk:Option (Nat×Nat)){i:Id}(h:C.ok i):(C.more g tk).ok i/\(C.more g tk).blk i=C.blk i/\(C.more g tk).tok i=C.tok i:=by
 have hne:i≠.l C.nl:=by
  rintro rfl
  simp[Ctx.ok]at h
 refine⟨?_,by simp[Ctx.blk,Ctx.more,hne],by simp[Ctx.tok,Ctx.more,hne]⟩
 cases i with
 |l k=>simp only[Ctx.ok,Ctx.more]at *;omega
 |o k=>simp only[Ctx.ok,Ctx.more]at *;omega
theorem Ctx.more_new(C:Ctx)(g:Nat)(tk:Option (Nat×Nat)){n:Nat}(h:C.nl=n):(C.more g tk).ok (.l n)/\(C.more g tk).blk (.l n)=g/\(C.more g tk).tok (.l n)=tk:=by
 subst h
 exact⟨by simp[Ctx.ok,Ctx.more],by simp[Ctx.blk,Ctx.more],by simp[Ctx.tok,Ctx.more]⟩
def St.push (σ:St)(o:AObj):St:=⟨σ.n+1,(σ.n,o)::σ.lo,σ.ou⟩
theorem St.get_push(σ:St)(o:AObj)(i:Id):(σ.push o).get i=if i=.l σ.n then some o else σ.get i:=by
 cases i with
 |l k=>
  by_cases e:σ.n=k
  ·subst e;simp[St.get,St.push,lookL]
  ·have:¬(Id.l k=Id.l σ.n):=fun h=>e (by injection h with h;exact h.symm)
   simp[St.get,St.push,lookL,Q09 e,this]
 |o k=>simp[St.get,St.push]

theorem Inv.addObj(hi:Inv Γ F w C σ){w':World}{C':Ctx}{o:AObj}{σ':St}{d:Id}(hget:∀i,σ'.get i=if i=d then some o else σ.get i)(he:Ext w C w' C')(hnext:C'.nl=σ'.n)(hb:∀k,F k->k < w'.heap.size)
  (hprot : ∀ a, C'.prot a -> a.block < w'.heap.size)
  (hkeep : ∀ i p, σ.get i = some p -> ∀ g x, p.block C i = some g -> w.heap[g]? = some x -> w'.heap[g]? = some x)
  (hkp : ∀ i p, σ.get i = some p -> ∀ a : Addr, p.block C i = some a.block -> a.block < w.heap.size -> C'.prot a -> C.prot a)
  (hok : C'.ok d) (hnew : ObjOk w' C' F d o) (hdis : ∀ i p g, σ.get i = some p -> p.block C i = some g -> o.block C' d ≠ some g) :
  Inv Γ F w' C' σ':=by
 refine⟨hb,hnext,fun g cs h=>(hi.glob g cs h).ext he,hprot,fun i p h=>?_,fun i j p q g h1 h2 h3 h4=>?_⟩
 ·rw[hget]at h
  split at h
  ·rename_i e;subst e;injection h with h;subst h;exact⟨hok,hnew⟩
  ·obtain⟨h1,h2⟩:=hi.obj i p h
   exact⟨(he.id i trivial h1).1,h2.keep he h1 (hkeep i p h) (hkp i p h)⟩
 ·rw[hget]at h1 h2
  split at h1 <;> split at h2
  ·rename_i e1 e2;rw[e1,e2]
  ·rename_i e1 e2;subst e1;injection h1 with h1;subst h1
   rw[AObj.block_ext he (hi.obj j q h2).1]at h4
   exact absurd h3 (hdis j q g h2 h4)
  ·rename_i e1 e2;subst e2;injection h2 with h2;subst h2
   rw[AObj.block_ext he (hi.obj i p h1).1]at h3
   exact absurd h4 (hdis i p g h1 h3)
  ·rw[AObj.block_ext he (hi.obj i p h1).1]at h3
   rw[AObj.block_ext he (hi.obj j q h2).1]at h4
   exact hi.inj i j p q g h1 h2 h3 h4

def NewP (F:Nat->Prop)(C C':Ctx):Prop:=∀a,C'.prot a->C.prot a∨¬F a.block
theorem NewP.refl(F:Nat->Prop)(C:Ctx):NewP F C C:=fun _ h=>.inl h
theorem NewP.trans{F:Nat->Prop}{C1 C2 C3:Ctx}(h:NewP F C1 C2)(k:NewP F C2 C3):NewP F C1 C3:=fun a ha=>(k a ha).elim (fun h2=>h a h2) .inr

theorem Inv.newObj(hi:Inv Γ F w C σ){cs:List AC}{xs:List Value}(hr:RV w C cs xs)(T:TypeId):
  ∃C',Ext w C (w.alloc (.cells xs.toArray T)) C'/\C'.no=C.no/\NewP F C C'/\Inv Γ F (w.alloc (.cells xs.toArray T)) C' (σ.push (.cells cs))/\C'.ok (.l σ.n)/\C'.blk (.l σ.n)=w.heap.size:=by
 have hn:=Ctx.more_new C w.heap.size none hi.next
 have he:Ext w C (w.alloc (.cells xs.toArray T)) (C.more w.heap.size none):=
  ⟨fun a ha=>World.cell?_alloc_lt _ _ _ (hi.prot a ha),fun a ha=>ha,fun i _ ho=>Ctx.more_old C _ _ ho⟩
 refine⟨C.more w.heap.size none,he,rfl,fun a ha=>.inl ha,hi.addObj (σ.get_push _) he (by simp[Ctx.more,hi.next,St.push]) (fun k hk=>by have:=hi.base k hk;simp;omega) (fun a ha=>?_) (fun i p h g x hg hx=>Q2m w _ hx) (fun i p h a _ _ ha=>ha) hn.1 ?_ (fun i p g h hg e=>?_),hn.1,hn.2.1⟩
 ·have:=hi.prot a ha;simp;omega
 ·refine⟨xs,T,by rw[hn.2.1];exact heap_alloc_new w _,by rw[hn.2.1];intro hF;have:=hi.base _ hF;omega,hr.ext he,fun a ha hp=>?_⟩
  rw[hn.2.1]at ha
  have:=hi.prot a hp
  omega
 ·simp only[AObj.block,hn.2.1,Option.some.injEq]at e
  have:=(AObj.block_lt (hi.obj i p h).2 hg).2
  omega
theorem Inv.newRow(hi:Inv Γ F w C σ)(xs:List Value)(T:TypeId):
  ∃C',Ext w C (w.alloc (.cells xs.toArray T)) C'/\C'.no=C.no/\NewP F C C'/\Inv Γ F (w.alloc (.cells xs.toArray T)) C' σ/\(∀a:Addr,a.block=w.heap.size->C'.prot a):=by
 have he:Ext w C (w.alloc (.cells xs.toArray T)) { C with prot:=fun a=>C.prot a∨a.block=w.heap.size } :=
  ⟨fun a ha => World.cell?_alloc_lt _ _ _ (hi.prot a ha), fun a ha => .inl ha, fun i _ ho => ⟨by cases i <;> exact ho, rfl, rfl⟩⟩
 refine⟨_,he,rfl,fun a ha=>?_,⟨fun k hk=>by have:=hi.base k hk;simp;omega,hi.next,fun g cs h=>(hi.glob g cs h).ext he,fun a ha=>?_,fun i p h=>?_,fun i j p q g h1 h2 h3 h4=>?_⟩,fun a ha=>.inr ha⟩
 ·rcases ha with ha|ha
  ·exact .inl ha
  ·exact .inr (fun hF=>by have:=hi.base _ hF;omega)
 ·rcases ha with ha|ha
  ·have:=hi.prot a ha;simp;omega
  ·simp;omega
 ·obtain⟨h1,h2⟩:=hi.obj i p h
  exact⟨(he.id i trivial h1).1,h2.keep he h1 (fun g x _ hx=>Q2m w _ hx) (fun a _ hlt ha=>by
   rcases ha with ha|ha
   ·exact ha
   ·omega)⟩
 ·exact hi.inj i j p q g h1 h2 (by rw[←AObj.block_ext he (hi.obj i p h1).1];exact h3) (by rw[←AObj.block_ext he (hi.obj j q h2).1];exact h4)

theorem Inv.turn(hi:Inv Γ F w C σ){i:Id}{o o':AObj}{g:Nat}(hg:σ.get i=some o)(hbk:o.block C i=some g){w':World}(hsz:w'.heap.size=w.heap.size)
  (hoth : ∀ k, k ≠ g -> w'.heap[k]? = w.heap[k]?) (hnp : ∀ a : Addr, a.block = g -> C.prot a -> w'.cell? a = w.cell? a) (hb' : o'.block C i = some g)
  (hnew : ∀ he : Ext w C w' C, ObjOk w' C F i o') : Ext w C w' C /\ Inv Γ F w' C (σ.set i o') := by
 have he:Ext w C w' C:=⟨fun a ha=>by
  by_cases e:a.block=g
  ·exact hnp a e ha
  ·exact World.cell?_of_block (hoth _ e),fun a ha=>ha,fun i _ ho=>⟨ho,rfl,rfl⟩⟩
 refine⟨he,⟨fun k hk=>by rw[hsz];exact hi.base k hk,by rw[St.n_set];exact hi.next,fun g cs h=>(hi.glob g cs h).ext he,fun a ha=>by rw[hsz];exact hi.prot a ha,fun j p h=>?_,fun j k p q g' h1 h2 h3 h4=>?_⟩⟩
 ·by_cases e:i=j
  ·subst e
   rw[St.get_set_same]at h
   injection h with h
   subst h
   exact⟨(hi.obj i o hg).1,hnew he⟩
  ·rw[St.get_set_ne σ e]at h
   obtain⟨h1,h2⟩:=hi.obj j p h
   refine⟨h1,h2.keep he h1 (fun g' x hb hx=>?_) (fun a _ _ ha=>ha)⟩
   rw[hoth g' (fun e'=>e (hi.inj i j o p g hg h hbk (by rw[←e'];exact hb)))]
   exact hx
 ·by_cases e1:i=j <;> by_cases e2:i=k
  ·rw[←e1,e2]
  ·subst e1
   rw[St.get_set_same]at h1;injection h1 with h1;subst h1
   rw[St.get_set_ne σ e2]at h2
   rw[hb']at h3;injection h3 with h3;subst h3
   exact hi.inj i k o q g hg h2 hbk h4
  ·subst e2
   rw[St.get_set_same]at h2;injection h2 with h2;subst h2
   rw[St.get_set_ne σ e1]at h1
   rw[hb']at h4;injection h4 with h4;subst h4
   exact hi.inj j i p o g h1 hg h3 hbk
  ·rw[St.get_set_ne σ e1]at h1
   rw[St.get_set_ne σ e2]at h2
   exact hi.inj j k p q g' h1 h2 h3 h4

theorem Q4c(w:World)(g:Nat)(cs cs':Array Value)(T:TypeId)(h:w.heap[g]?=some (.cells cs T (0,0))):(w.setRow g cs').heap[g]?=some (.cells cs' T (0,0)):=setRow_heap w g cs cs' T (0,0) h
theorem Inv.storeRow(hi:Inv Γ F w C σ){i:Id}{cs cs':List AC}(hg:σ.get i=some (.cells cs)){xs xs':List Value}{T:TypeId}(hx:w.heap[C.blk i]?=some (.cells xs.toArray T (0,0)))
  (hr:RV w C cs' xs'):Stp F w (w.setRow (C.blk i) xs'.toArray)/\Ext w C (w.setRow (C.blk i) xs'.toArray) C/\Inv Γ F (w.setRow (C.blk i) xs'.toArray) C (σ.set i (.cells cs')):=by
 obtain⟨hok,ys,T',h1,h2,h3,h4⟩:=hi.obj i _ hg
 have hh:(w.setRow (C.blk i) xs'.toArray).heap[C.blk i]?=some (.cells xs'.toArray T (0,0)):=Q4c w _ _ _ T hx
 refine⟨⟨rfl,rfl,rfl,by simp,fun k hk=>setRow_other w _ k _ (by rintro rfl;exact h2 hk),fun a _=>?_⟩,?_⟩
 ·by_cases e:a.block=C.blk i
  ·simp only[World.frozen?,e,hh,hx]
  ·exact World.frozen?_of_block (setRow_other w _ a.block _ e)
 ·exact hi.turn hg rfl (by simp) (fun k hk=>setRow_other w _ k _ hk) (fun a ha hp=>absurd hp (h4 a ha)) rfl (fun he=>⟨xs',T,hh,h2,hr.ext he,h4⟩)
theorem Inv.grown(hi:Inv Γ F w C σ){w':World}(hsz:w.heap.size<=w'.heap.size)(hb:∀k,k < w.heap.size->w'.heap[k]?=w.heap[k]?):Ext w C w' C/\Inv Γ F w' C σ:=by
 have he:Ext w C w' C:=⟨fun a ha=>by unfold World.cell?;rw[hb _ (hi.prot a ha)],fun a ha=>ha,fun i _ ho=>⟨ho,rfl,rfl⟩⟩
 refine⟨he,⟨fun k hk=>Nat.lt_of_lt_of_le (hi.base k hk) hsz,hi.next,fun g cs h=>(hi.glob g cs h).ext he,fun a ha=>Nat.lt_of_lt_of_le (hi.prot a ha) hsz,fun i o h=>?_,hi.inj⟩⟩
 obtain⟨h1,h2⟩:=hi.obj i o h
 exact⟨h1,h2.keep he h1 (fun g x _ hx=>(hb g (Q0b hx)).trans hx) (fun a _ _ ha=>ha)⟩
theorem Inv.drew(hi:Inv Γ F w C σ):Ext w C w.drew C/\Inv Γ F w.drew C σ:=by
 have he:Ext w C w.drew C:=⟨fun a _=>rfl,fun a ha=>ha,fun i _ ho=>⟨ho,rfl,rfl⟩⟩
 refine⟨he,⟨hi.base,hi.next,fun g cs h=>(hi.glob g cs h).ext he,hi.prot,fun i o h=>?_,hi.inj⟩⟩
 obtain⟨h1,h2⟩:=hi.obj i o h
 exact⟨h1,h2.keep he h1 (fun g x _ hx=>hx) (fun a _ _ ha=>ha)⟩
end
end Go.Abs
namespace Go.Abs
open Go.RowKit (Below)

def Q8q:Value->Option FV
 |.agg cs=>bif cs.toList.all Value.oneCell' then some (.agg (cs.toList.map .lit))else none
 |.tuple _=>none
 |v=>some (.one (.lit v))
def gLook (g:Nat):List (Nat×List AC)->Option (List AC)
 |[]=>none
 |(j,c)::r=>bif Nat.beq j g then some c else gLook g r
def aEval (Γ:List (Nat×List AC))(fr:Fr):Operand->Option FV
 |.tmp t=>Fr.get t fr
 |.const v=>Q8q v
 |.global g=>match gLook g Γ with
  |some cs=>some (.one (.box cs))
  |none=>none
 |.func f=>some (.one (.fn (.func f) [] []))

def FV.cells:FV->Option (List AC)
 |.bot=>none
 |.one c=>some [c]
 |.agg cs=>some cs
 |.tup _=>none
def mkFV (agg:Bool)(cs:List AC):Option FV:=
 match agg,cs with
 |true,cs=>some (.agg cs)
 |false,[c]=>some (.one c)
 |false,_=>none
def over:List AC->Nat->List AC->List AC
 |xs,0,[]=>xs
 |_::xs,0,c::cs=>c::over xs 0 cs
 |[],_,_=>[]
 |x::xs,n+1,cs=>x::over xs n cs

theorem Qbm{w:World}{C:Ctx}:∀(l:List Value),l.all Value.oneCell'=true->RV w C (l.map .lit) l
 |[],_=>by simp[RV]
 |x::l,h=>by
  simp only[List.all_cons,Bool.and_eq_true]at h
  exact⟨x,l,rfl,by simp[R,h.1],Qbm l h.2⟩
theorem Qgz{w:World}{C:Ctx}{v:Value}{x:FV}(h:Q8q v=some x):RF w C x v:=by
 cases v with
 |agg cs=>
  simp only[Q8q]at h
  cases hb:cs.toList.all Value.oneCell' with
  |false=>rw[hb]at h;cases h
  |true=>
   rw[hb]at h;simp at h;subst h
   exact⟨cs.toList,by simp,Qbm _ hb⟩
 |tuple vs=>simp[Q8q]at h
 |_=>simp only[Q8q,Option.some.injEq]at h;subst h;exact⟨rfl,rfl⟩
theorem Qcn{g:Nat}{cs:List AC}:∀{Γ:List (Nat×List AC)},gLook g Γ=some cs->(g,cs)∈Γ
 |[],h=>by cases h
 |(j,c)::r,h=>by
  simp only[gLook]at h
  cases hb:Nat.beq j g with
  |true=>
   rw[hb]at h
   have:=Nat.eq_of_beq_eq_true hb
   simp at h
   subst h;subst this;simp
  |false=>rw[hb]at h;exact List.mem_cons_of_mem _ (Qcn h)

section
variable {P:Program}{T:Tab}{Γ:List (Nat×List AC)}{F:Nat->Prop}{w:World}{C:Ctx}{σ:St}{N:Nat}{fr:Fr}{a:Act}

theorem Q01(hi:Inv Γ F w C σ)(hf:FrOk w C N fr a.tmps){o:Operand}{x:FV}(h:aEval Γ fr o=some x):RF w C x (a.eval o):=by
 cases o with
 |tmp t=>
  obtain⟨u,hu,hr⟩:=hf.2 t x h
  have:a.tmps.getD t undef=u:=by simp[Array.getD_eq_getD_getElem?,hu]
  simp only[Act.eval,this];exact hr
 |const v=>exact Qgz h
 |global g=>
  simp only[aEval]at h
  cases hg:gLook g Γ with
  |none=>rw[hg]at h;cases h
  |some cs=>
   rw[hg]at h;simp at h;subst h
   exact⟨⟨g,0,none⟩,rfl,rfl,(hi.glob g cs (Qcn hg)).rl⟩
 |func f=>
  simp only[aEval,Option.some.injEq]at h;subst h
  exact⟨[],[],rfl,rfl,rfl⟩
theorem FV.cells_ok{x:FV}{v:Value}{cs:List AC}(h:x.cells=some cs)(hr:RF w C x v):RV w C cs v.cells.toList:=by
 cases x with
 |bot=>cases h
 |one c=>
  simp only[FV.cells,Option.some.injEq]at h;subst h
  have h1:v.cells=#[v]:=by
   have:=R.one hr
   cases v <;> first|rfl|(simp[Value.oneCell']at this)
  rw[h1]
  exact⟨v,[],rfl,hr,rfl⟩
 |agg cs'=>
  simp only[FV.cells,Option.some.injEq]at h;subst h
  obtain⟨xs,rfl,h2⟩:=hr
  simpa[Value.cells]using h2
 |tup vs=>cases h
theorem Qdg{agg:Bool}{cs:List AC}{x:FV}{xs:List Value}(h:mkFV agg cs=some x)(hr:RV w C cs xs):RF w C x (valOf agg xs):=by
 cases agg with
 |true=>simp only[mkFV,Option.some.injEq]at h;subst h;exact⟨xs,rfl,hr⟩
 |false=>
  match cs,h with
  |[c],h=>
   simp only[mkFV,Option.some.injEq]at h;subst h
   simp only[RV]at hr
   obtain⟨u,us,rfl,h1,_⟩:=hr
   exact (show R w C c (valOf false (u::us)) by simpa[valOf]using h1)
theorem Qaw:∀{xs:List AC}{n:Nat}{cs:List AC}{us vs:List Value},n+cs.length<=xs.length->RV w C xs us->RV w C cs vs->RV w C (over xs n cs) (us.take n++vs++us.drop (n+vs.length))
 |xs,0,[],us,vs,h,h1,h2=>by simp only[RV]at h2;subst h2;cases xs <;> simpa[over]using h1
 |x::xs,0,c::cs,us,vs,h,h1,h2=>by
  simp only[RV]at h1 h2
  obtain⟨u,us,rfl,h3,h4⟩:=h1
  obtain⟨v,vs,rfl,h5,h6⟩:=h2
  have:=Qaw (n:=0) (by simp at h ⊢;omega) h4 h6
  exact⟨v,vs++us.drop vs.length,by simp,h5,by simpa using this⟩
 |[],0,c::cs,us,vs,h,h1,h2=>by simp at h
 |[],n+1,cs,us,vs,h,h1,h2=>by simp at h
 |x::xs,n+1,cs,us,vs,h,h1,h2=>by
  simp only[RV]at h1
  obtain⟨u,us,rfl,h3,h4⟩:=h1
  have:=Qaw (xs:=xs) (n:=n) (by simp at h ⊢;omega) h4 h2
  refine⟨u,us.take n++vs++us.drop (n+vs.length),?_,h3,this⟩
  simp[Nat.add_right_comm n 1]

def Runs (P:Program)(Γ:List (Nat×List AC))(F:Nat->Prop)(w:World)(C:Ctx)(a:Act)(o:Oper)(x:Option FV)(σ':St):Prop:=
 ∃r w' C',(execOp a.eval o).run P w=.ok r w'/\Stp F w w'/\Ext w C w' C'/\C.no<=C'.no/\NewP F C C'/\Inv Γ F w' C' σ' /\
  (match x with
   |some y=>∃u,r=.value u/\RF w' C' y u
   |none=>r=.skip)

end

def Qb9:BinOp->Int->Int->Option Bool
 |.eql,x,y=>some (x==y)
 |.neq,x,y=>some (x != y)
 |.lss,x,y=>some (decide (x < y))
 |.leq,x,y=>some (decide (x<=y))
 |.gtr,x,y=>some (decide (x > y))
 |.geq,x,y=>some (decide (x ≥ y))
 |_,_,_=>none
def Qap:BinOp->ByteArray->ByteArray->Option Bool
 |.eql,x,y=>some (x.toList==y.toList)
 |.neq,x,y=>some (!(x.toList==y.toList))
 |.lss,x,y=>some (Op.bytesLess x.toList y.toList)
 |.leq,x,y=>some (Op.bytesLess x.toList y.toList||x.toList==y.toList)
 |.gtr,x,y=>some (!(Op.bytesLess x.toList y.toList||x.toList==y.toList))
 |.geq,x,y=>some (!(Op.bytesLess x.toList y.toList))
 |_,_,_=>none
def Qiz:IntKind->IntKind->Bool
 |.i8,.i8|.i16,.i16|.i32,.i32|.i64,.i64|.u8,.u8|.u16,.u16|.u32,.u32|.u64,.u64=>true
 |_,_=>false
theorem Qiy{j k:IntKind}(h:Qiz j k=true):j=k:=by cases j <;> cases k <;> first|rfl|cases h

def Q3g {β α:Type}:List β->(List β->α)->α
 |[],k=>k []
 |c::cs,k=>Q3g cs fun r=>k (c::r)
theorem Q13{β α:Type}:∀(l:List β)(k:List β->α),Q3g l k=k l
 |[],k=>rfl
 |c::cs,k=>by simp only[Q3g];rw[Q13 cs]
def aFill (Γ:List (Nat×List AC))(fr:Fr)(T:Tab)(flds:List (Nat×TypeId)):List AC->List (Nat×Operand)->Option (List AC)
 |cells,[]=>some cells
 |cells,(i,x)::r=>
  match flds[i]? with
  |some (off,ty)=>match Tab.get ty T with
   |some ti=>match aEval Γ fr x with
    |some v=>match v.cells with
     |some cs=>bif Nat.beq cs.length ti.size&&Nat.ble (off+cs.length) cells.length then Q3g (over cells off cs) (fun l=>aFill Γ fr T flds l r)else none
     |none=>none
    |none=>none
   |none=>none
  |none=>none
def Q91 (Γ:List (Nat×List AC))(fr:Fr)(s:Nat):Nat->List (Nat×Operand)->Option (List (List AC))
 |_,[]=>some []
 |k,(i,x)::r=>
  match aEval Γ fr x with
  |some v=>match v.cells with
   |some cs=>bif Nat.beq i k&&Nat.beq cs.length s then (match Q91 Γ fr s (k+1) r with|some es=>some (cs::es)|none=>none)else none
   |none=>none
  |none=>none

def aLoad (ti:TI)(σ:St):FV->Option FV
 |.one (.ptr i off)=>match σ.get i with
  |some (.cells cs)=>bif Nat.ble (off+ti.size) cs.length then Q3g ((cs.drop off).take ti.size) (mkFV ti.agg)else none
  |_=>none
 |.one (.box cs)=>bif Nat.ble ti.size cs.length then Q3g (cs.take ti.size) (mkFV ti.agg)else none
 |_=>none
def Qd0 (ti:TI)(σ:St)(x:FV):FV->Option St
 |.one (.ptr i off)=>match σ.get i,x.cells with
  |some (.cells cs),some vs=>bif Nat.beq vs.length ti.size&&Nat.ble (off+ti.size) cs.length then Q3g (over cs off vs) (fun l=>some (σ.set i (.cells l)))else none
  |_,_=>none
 |_=>none
def Q50 (off:Nat):FV->Option FV
 |.one (.ptr i o)=>some (.one (.ptr i (o+off)))
 |.one (.box cs)=>some (.one (.box (cs.drop off)))
 |_=>none
def aLen:FV->Option FV
 |.one (.sl _ es)=>some (.one (.lit (.int .i64 es.length)))
 |.one (.gs _ es _)=>some (.one (.lit (.int .i64 es.length)))
 |.one (.arr _ _ _ len _)=>some (.one (.lit (.int .i64 len)))
 |.one (.lit (.slice none 0 0))=>some (.one (.lit (.int .i64 0)))
 |_=>none
def aBin (op:BinOp):FV->FV->Option FV
 |.one (.lit (.int j x)),.one (.lit (.int k y))=>bif Qiz j k then (match Qb9 op x y with|some b=>some (.one (.lit (.bool b)))|none=>none)else none
 |.one (.lit (.string x)),.one (.lit (.string y))=>match Qap op x y with|some b=>some (.one (.lit (.bool b)))|none=>none
 |_,_=>none

def aOp (T:Tab)(Γ:List (Nat×List AC))(o:Op)(fr:Fr)(σ:St):Option (Option FV×St):=
 match o with
 |.move x=>match aEval Γ fr x with|some v=>some (some v,σ)|none=>none
 |.assign x=>match aEval Γ fr x with|some v=>some (some v,σ)|none=>none
 |.pick c x y=>match aEval Γ fr c with
  |some (.one (.lit (.bool true)))=>match aEval Γ fr x with|some v=>some (some v,σ)|none=>none
  |some (.one (.lit (.bool false)))=>match aEval Γ fr y with|some v=>some (some v,σ)|none=>none
  |_=>none
 |.alloc t=>match Tab.get t T with
  |some ti=>some (some (.one (.ptr (.l σ.n) 0)),σ.push (.cells (ti.zero.map .lit)))
  |none=>none
 |.box _ x=>match aEval Γ fr x with
  |some v=>match v.cells with
   |some cs=>some (some (.one (.ptr (.l σ.n) 0)),σ.push (.cells cs))
   |none=>none
  |none=>none
 |.build t parts=>match Tab.get t T with
  |some ti=>bif Nat.beq ti.kind 1&&ti.flds.all (fun x=>(Tab.get x.2 T).isSome)then (match aFill Γ fr T ti.flds (ti.zero.map .lit) parts.toList with|some cs=>some (some (.agg cs),σ)|none=>none)else none
  |none=>none
 |.load t x=>match Tab.get t T with
  |some ti=>bif ti.agg||Nat.beq ti.size 1 then (match aEval Γ fr x with
   |some v=>match aLoad ti σ v with|some y=>some (some y,σ)|none=>none
   |none=>none)else none
  |none=>none
 |.store t x y=>match Tab.get t T with
  |some ti=>match aEval Γ fr x,aEval Γ fr y with
   |some v,some u=>match Qd0 ti σ u v with|some σ'=>some (none,σ')|none=>none
   |_,_=>none
  |none=>none
 |.fieldAddr s x f=>match Tab.get s T with
  | some ti => bif Nat.beq ti.kind 1 then (match ti.flds[f]? with
   |some (off,ty)=>match Tab.get ty T with
    |some _=>match aEval Γ fr x with
     |some v=>match Q50 off v with|some y=>some (some y,σ)|none=>none
     |none=>none
    |none=>none
   |none=>none)else none
  |none=>none
 |.field s x f=>match Tab.get s T with
  | some ti => bif Nat.beq ti.kind 1 then (match ti.flds[f]? with
   |some (off,ty)=>match Tab.get ty T with
    |some tj=>match aEval Γ fr x with
     |some (.agg cs)=>bif (tj.agg||Nat.beq tj.size 1)&&Nat.ble (off+tj.size) cs.length then (match Q3g ((cs.drop off).take tj.size) (mkFV tj.agg) with|some y=>some (some y,σ)|none=>none)else none
     |_=>none
    |none=>none
   |none=>none)else none
  |none=>none
 |.binOp op _ x y _=>match aEval Γ fr x,aEval Γ fr y with
  |some v,some u=>match aBin op v u with|some z=>some (some z,σ)|none=>none
  |_,_=>none
 |.unOp .not _ x=>match aEval Γ fr x with
  |some (.one (.lit (.bool b)))=>some (some (.one (.lit (.bool (!b)))),σ)
  |_=>none
 |.extract x i=>match aEval Γ fr x with
  |some (.tup vs)=>match vs[i]? with|some v=>some (some v,σ)|none=>none
  |_=>none
 |.makeFunc f first caps=>match first.toList.mapM (fun x=>(aEval Γ fr x).bind (fun v=>match v with|.one c=>some c|_=>none)),caps.toList.mapM (fun x=>(aEval Γ fr x).bind (fun v=>match v with|.one c=>some c|_=>none)) with
  |some xs,some ys=>some (some (.one (.fn f xs ys)),σ)
  |_,_=>none
 |.nilCheck x=>match aEval Γ fr x with
  |some (.one (.ptr i o))=>some (some (.one (.ptr i o)),σ)
  |some (.one (.box cs))=>some (some (.one (.box cs)),σ)
  |_=>none
 |.call { callee:=.builtin .len,args,argTypes }=>match args.toList,argTypes.toList with
  |[x],[t]=>match Tab.get t T,aEval Γ fr x with
   |some ti,some v=>bif Nat.beq ti.kind 2 then (match aLen v with|some y=>some (some y,σ)|none=>none) else
    bif Nat.beq ti.kind 5 then (match v with|.one (.lit (.string s))=>some (some (.one (.lit (.int .i64 s.size))),σ)|_=>none)else none
   |_,_=>none
  |_,_=>none
 |.buildSlice t len parts=>match Tab.get t T with
  | some ti => bif Nat.beq ti.kind 2 then (match Tab.get ti.elem T with
   |some tj=>match Q91 Γ fr tj.size 0 parts.toList with
    |some es=>bif Nat.beq es.length len&&Nat.ble (len * tj.size) 16777216&&!(Nat.beq len 0)then some (some (.one (.sl tj.size es)),σ)else none
    |none=>none
   |none=>none)else none
  |none=>none
 |_=>none
end Go.Abs
namespace Go.Abs
open Go.RowKit (Below)

section
variable {P:Program}{T:Tab}{Γ:List (Nat×List AC)}{F:Nat->Prop}{w:World}{C:Ctx}{σ σ':St}{N:Nat}{fr:Fr}{a:Act}

theorem RL.of_new{cs:List AC}{xs:List Value}{g:Nat}:∀(k:Nat),RV w C cs xs->(∀(j:Nat)(v:Value),xs[j]?=some v->w.cell? ⟨g,k+j,none⟩=some v)->(∀ad:Addr,ad.block=g->C.prot ad)->RL w C cs ⟨g,k,none⟩:=by
 induction cs generalizing xs with
 |nil=>intros;simp[RL]
 |cons c cs ih=>
  intro k h h1 h2
  simp only[RV]at h
  obtain⟨u,us,rfl,h3,h4⟩:=h
  refine⟨⟨u,h1 0 u rfl,h2 _ rfl,h3⟩,ih (k+1) h4 (fun j v hj=>?_) h2⟩
  have:=h1 (j+1) v (by simpa using hj)
  rw[←this];congr 2;omega
theorem RS.of_new{s g:Nat}{es:List (List AC)}:∀(k:Nat){xss:List (List Value)},xss.length=es.length->(∀(i:Nat)(e:List AC)(x:List Value),es[i]?=some e->xss[i]?=some x->e.length=s/\RV w C e x) ->
  (∀ (j : Nat) (v : Value), xss.flatten[j]? = some v -> w.cell? ⟨g, k + j, none⟩ = some v) -> (∀ ad : Addr, ad.block = g -> C.prot ad) -> RS w C s es ⟨g, k, none⟩ := by
 induction es with
 |nil=>intros;simp[RS]
 |cons e es ih=>
  intro k xss hl h h1 h2
  match xss,hl with
  |x::xss,hl=>
   obtain⟨h3,h4⟩:=h 0 e x rfl rfl
   have hxl:x.length=s:=by rw[RV.length h4,h3]
   refine⟨h3,RL.of_new k h4 (fun j v hj=>h1 j v ?_) h2,ih (k+s) (by simpa using hl) (fun i e' x' he hx=>h (i+1) e' x' (by simpa using he) (by simpa using hx)) (fun j v hj=>?_) h2⟩
   ·have hlt:j < x.length:=(List.getElem?_eq_some_iff.1 hj).1
    simp only[List.flatten_cons]
    rw[List.getElem?_append_left hlt];exact hj
   ·have:=h1 (s+j) v (by simp only[List.flatten_cons];rw[List.getElem?_append_right (by omega),hxl,Nat.add_sub_cancel_left];exact hj)
    rw[←this];congr 2;omega

theorem Q5z(off:Nat):∀(vs:List Value)(k:Nat)(xs:Array Value),off+k+vs.length<=xs.size->
  (vs.zipIdx k).foldl (fun cs (c,j)=>cs.setIfInBounds (off+j) c) xs=(xs.toList.take (off+k)++vs++xs.toList.drop (off+k+vs.length)).toArray
 |[],k,xs,h=>by simp
 |v::vs,k,xs,h=>by
  simp only[List.zipIdx_cons,List.foldl_cons]
  rw[Q5z off vs (k+1) _ (by simp at h ⊢;omega)]
  apply Array.ext'
  simp only[Array.toList_setIfInBounds]
  apply List.ext_getElem?
  intro i
  have hs:off+k < xs.size:=by simp at h;omega
  simp only[List.getElem?_append,List.getElem?_take,List.getElem?_drop,List.length_take,List.length_set,Array.length_toList,List.length_append,List.length_cons,List.getElem?_set]
  by_cases h1:i < off+k
  ·have a1:i < off+(k+1):=by omega
   have a2:i < min (off+(k+1)) xs.size:=by omega
   have a3:i < min (off+k) xs.size:=by omega
   have a4:¬(off+k=i):=by omega
   simp[h1,a1,a2,a3,a4]
   rw[if_pos (by omega),if_pos (by omega)]
  ·by_cases h2:i=off+k
   ·subst h2
    have a1:off+k < off+(k+1):=by omega
    have a2:off+k < min (off+(k+1)) xs.size:=by omega
    have a3:min (off+k) xs.size=off+k:=by omega
    simp[a1,a2,a3,hs]
    intro hh;exfalso;omega
   ·have a1:¬i < min (off+(k+1)) xs.size:=by omega
    have a3:¬i < min (off+k) xs.size:=by omega
    have a5:min (off+(k+1)) xs.size=off+k+1:=by omega
    have a6:min (off+k) xs.size=off+k:=by omega
    obtain⟨j,rfl⟩:∃j,i=off+k+1+j:=⟨i - (off+k+1),by omega⟩
    simp only[a5,a6]
    have b1:¬off+k+1+j < off+k+1:=by omega
    have b2:¬off+k+1+j < off+k:=by omega
    have b3:off+k+1+j - (off+k)=j+1:=by omega
    have b4:off+k+1+j - (off+k+1)=j:=by omega
    by_cases h3:j < vs.length
    ·have c1:off+k+1+j < off+k+1+vs.length:=by omega
     have c2:off+k+1+j < off+k+(vs.length+1):=by omega
     simp[b1,b2,b3,b4,h3,c1,c2]
    ·have c1:¬off+k+1+j < off+k+1+vs.length:=by omega
     have c2:¬off+k+1+j < off+k+(vs.length+1):=by omega
     have c3:off+(k+1)+vs.length+(off+k+1+j - (off+k+1+vs.length))=off+k+(vs.length+1)+(off+k+1+j - (off+k+(vs.length+1))):=by omega
     have c4:¬off+k=off+(k+1)+vs.length+(off+k+1+j - (off+k+1+vs.length)):=by omega
     simp[c1,c2,c4,←c3]
theorem Qcs(vs:Array Value)(xs:List Value)(off:Nat)(h:off+vs.size<=xs.length):
  vs.zipIdx.foldl (fun cs (c,j)=>cs.setIfInBounds (off+j) c) xs.toArray=(xs.take off++vs.toList++xs.drop (off+vs.toList.length)).toArray:=by
 have:=Q5z off vs.toList 0 xs.toArray (by simpa using h)
 rw[←Array.foldl_toList]
 simpa using this

theorem Qg3{t:TypeId}{ti:TI}(ht:TIOk P t ti)(ha:(ti.agg||Nat.beq ti.size 1)=true)(hi:Inv Γ F w C σ){x y:FV}{v:Value}(hr:RF w C x v)(h:aLoad ti σ x=some y):
  ∃u,(Instr.loadAt t v).run P w=.ok u w/\RF w C y u:=by
 have h1:ti.agg=false->ti.size=1:=fun e=>by rw[e]at ha;simpa using ha
 cases x with
 |bot=>cases h
 |agg cs=>cases h
 |tup vs=>cases h
 |one c=>
  cases c <;> simp only[aLoad]at h
  case lit=>cases h
  case any=>cases h
  case sl=>cases h
  case gs=>cases h
  case arr=>cases h
  case mp=>cases h
  case fn=>cases h
  case ifc=>cases h
  case box cs=>
   obtain⟨ad,rfl,hs,hl⟩:=hr
   cases hb:Nat.ble ti.size cs.length with
   |false=>rw[hb]at h;cases h
   |true=>
    rw[hb]at h;simp only[cond_true,Q13]at h
    have hle:ti.size<=cs.length:=Nat.le_of_ble_eq_true hb
    obtain⟨xs,h2,h3,h4⟩:=RL.held (cs.take ti.size) ad hs (RL.take _ hl)
    have:=Q46 ht h1 h4 (by rw[h3];simp;omega)
    exact⟨_,by simp only[Instr.loadAt,Instr.sureAddr,Sem.run_bind,Sem.run_pure,Result.andThen_ok,this],Qdg h h2⟩
  case ptr i off=>
   obtain⟨hok,rfl⟩:=hr
   cases hg:σ.get i with
   |none=>rw[hg]at h;cases h
   |some o=>
    cases o with
    |cells cs=>
     rw[hg]at h;simp only[]at h
     cases hb:Nat.ble (off+ti.size) cs.length with
     |false=>rw[hb]at h;cases h
     |true=>
      rw[hb]at h;simp only[cond_true,Q13]at h
      have hle:off+ti.size<=cs.length:=Nat.le_of_ble_eq_true hb
      obtain⟨_,xs,T',h2,h3,h4,h5⟩:=hi.obj i _ hg
      have hlen:=RV.length h4
      have hh:Held w ((xs.drop off).take ti.size) ⟨C.blk i,off,none⟩:=by
       intro j v hj
       rw[Addr.add_none rfl,cell_of_row w _ _ _ _ _ h2]
       have hj':=List.getElem?_eq_some_iff.1 hj
       obtain⟨hlt,hv⟩:=hj'
       simp at hlt
       rw[List.getElem?_take_of_lt (by omega),List.getElem?_drop]at hj
       simpa using hj
      have:=Q46 ht h1 hh (by simp;omega)
      exact⟨_,by simp only[Instr.loadAt,Instr.sureAddr,Sem.run_bind,Sem.run_pure,Result.andThen_ok,this],Qdg h (RV.take _ (RV.drop _ h4))⟩
    |map ck es=>rw[hg]at h;cases h
    |iter m since seen last=>rw[hg]at h;cases h
    |sit s p=>rw[hg]at h;cases h
    |tok e s u=>rw[hg]at h;cases h
    |dead=>rw[hg]at h;cases h

theorem Qjw{t:TypeId}{ti:TI}(ht:TIOk P t ti)(hi:Inv Γ F w C σ){x y:FV}{v u:Value}(hr:RF w C x v)(hu:RF w C y u)(h:Qd0 ti σ y x=some σ'):
  ∃w',(Instr.storeAt t v u).run P w=.ok () w'/\Stp F w w'/\Ext w C w' C/\Inv Γ F w' C σ':=by
 cases x with
 |bot=>cases h
 |agg cs=>cases h
 |tup vs=>cases h
 |one c=>
  cases c <;> simp only[Qd0]at h
  case lit=>cases h
  case any=>cases h
  case sl=>cases h
  case gs=>cases h
  case arr=>cases h
  case mp=>cases h
  case fn=>cases h
  case ifc=>cases h
  case box=>cases h
  case ptr i off=>
   obtain⟨hok,rfl⟩:=hr
   cases hg:σ.get i with
   |none=>rw[hg]at h;cases h
   |some o=>
    cases o with
    |cells cs=>
     cases hc:y.cells with
     |none=>rw[hg,hc]at h;cases h
     |some vs=>
      rw[hg,hc]at h;simp only[]at h
      cases hb:(Nat.beq vs.length ti.size&&Nat.ble (off+ti.size) cs.length) with
      |false=>rw[hb]at h;cases h
      |true=>
       rw[hb]at h;simp only[cond_true,Option.some.injEq]at h
       simp only[Bool.and_eq_true]at hb
       have hl1:vs.length=ti.size:=Nat.eq_of_beq_eq_true hb.1
       have hl2:off+ti.size<=cs.length:=Nat.le_of_ble_eq_true hb.2
       have hv:=FV.cells_ok hc hu
       have hvl:=RV.length hv
       obtain⟨_,xs,T',h2,h3,h4,h5⟩:=hi.obj i _ hg
       have hxl:=RV.length h4
       have hrun:=run_storeVar_row ht h2 (off:=off) (v:=u) (by omega) (RV.one hv) (by omega)
       have hov:=Qaw (n:=off) (by omega) h4 hv
       rw[show off+u.cells.toList.length=off+ti.size by omega]at hov
       obtain⟨s1,s2,s3⟩:=hi.storeRow hg h2 hov
       simp only[Q13,Option.some.injEq]at h;subst h
       exact⟨_,by simp only[Instr.storeAt,Instr.sureAddr,Sem.run_bind,Sem.run_pure,Result.andThen_ok,hrun],s1,s2,s3⟩
    |map ck es=>rw[hg]at h;cases h
    |iter m since seen last=>rw[hg]at h;cases h
    |sit s p=>rw[hg]at h;cases h
    |tok e s u=>rw[hg]at h;cases h
    |dead=>rw[hg]at h;cases h

theorem Qbl{ad:Addr}{f:Field}{tj:TI}(hj:TIOk P f.type tj):(fieldPlace ad f).run P w=.ok (ad.add f.offset) w:=by
 simp only[fieldPlace,Sem.run_bind,hj.run_sizeOf,Result.andThen_ok]
 rw[if_neg hj.pos];rfl
theorem Q96{x y:FV}{v:Value}{off:Nat}(hr:RF w C x v)(h:Q50 off x=some y):
  ∃ad:Addr,v=.pointer (some ad)/\RF w C y (.pointer (some (ad.add off))):=by
 cases x with
 |bot=>cases h
 |agg cs=>cases h
 |tup vs=>cases h
 |one c=>
  cases c <;> simp only[Q50]at h <;> try (cases h;done)
  case box cs=>
   simp only[Option.some.injEq]at h;subst h
   obtain⟨ad,rfl,hs,hl⟩:=hr
   refine⟨ad,rfl,ad.add off,rfl,?_,?_⟩
   ·rw[Addr.add_none hs]
   ·rw[Addr.add_none hs];exact RL.drop off hs hl
  case ptr i o=>
   simp only[Option.some.injEq]at h;subst h
   obtain⟨hok,rfl⟩:=hr
   refine⟨_,rfl,hok,?_⟩
   rw[Addr.add_none rfl]

theorem aLen_ok{t:TypeId}{ti:TI}(ht:TIOk P t ti)(hk:ti.kind=2){x y:FV}{v:Value}(hr:RF w C x v)(h:aLen x=some y)(ty:TypeId):
  ∃u,(Builtin.len_ #[t] ty #[v]).run P w=.ok u w/\RF w C y u:=by
 have hs:=ht.slice hk
 have key:∀(b:Option Addr) (n c:Nat),(Builtin.len_ #[t] ty #[.slice b n c]).run P w=.ok (.int .i64 n) w:=by
  intro b n c
  simp[Builtin.len_,run_underlying hs,goInt]
 cases x with
 |bot=>cases h
 |agg cs=>cases h
 |tup vs=>cases h
 |one c=>
  cases c <;> simp only[aLen]at h <;> try (cases h;done)
  case sl s es=>
   simp only[Option.some.injEq]at h;subst h
   obtain⟨b,cap,rfl,_⟩:=hr
   exact⟨_,key _ _ _,rfl,rfl⟩
  case gs s es i=>
   simp only[Option.some.injEq]at h;subst h
   obtain⟨_,⟨rfl,rfl,_⟩|⟨g,cap,rfl,_⟩⟩:=hr
   ·exact⟨_,key _ _ _,rfl,rfl⟩
   ·exact⟨_,key _ _ _,rfl,rfl⟩
  case arr i s off len=>
   simp only[Option.some.injEq]at h;subst h
   obtain⟨_,rfl,_⟩:=hr
   exact⟨_,key _ _ _,rfl,rfl⟩
  case lit u=>
   obtain⟨rfl,_⟩:=hr
   split at h
   ·rename_i e;cases e
   ·rename_i e;cases e
   ·rename_i e;cases e
   ·rename_i e;cases e;simp only[Option.some.injEq]at h;subst h
    exact⟨_,key _ _ _,rfl,rfl⟩
   ·cases h

theorem Qj3{op:BinOp}{x y:Int}{b:Bool}(h:Qb9 op x y=some b)(k:IntKind)(t:TypeId):(binOp op t (.int k x) (.int k y)).run P w=.ok (.bool b) w:=by
 cases op <;> simp only[Qb9,Option.some.injEq]at h <;> first|(cases h;done)|(subst h;simp[binOp,Op.intCmp])
theorem Qho{op:BinOp}{x y:ByteArray}{b:Bool}(h:Qap op x y=some b)(t:TypeId):(binOp op t (.string x) (.string y)).run P w=.ok (.bool b) w:=by
 cases op <;> simp only[Qap,Option.some.injEq]at h <;> first|(cases h;done)|(subst h;simp[binOp,Op.stringOp])
theorem Runs.val{o:Oper}{y:FV}{u:Value}(hi:Inv Γ F w C σ)(h:(execOp a.eval o).run P w=.ok (.value u) w)(hr:RF w C y u):Runs P Γ F w C a o (some y) σ:=
 ⟨_,w,C,h,Stp.refl _ _,Chg.refl _ _ _,Nat.le_refl _,NewP.refl _ _,hi,u,rfl,hr⟩

theorem Qmb{t:TypeId}{ti:TI}(hT:TabOk P T)(hi:Inv Γ F w C σ)(hf:FrOk w C N fr a.tmps){fs:Array Field}(hfs:fs.toList.map (fun f=>(f.offset,f.type))=ti.flds)(place:Nat->Option (Nat×Nat))
  (hp : ∀ i off ty tj, ti.flds[i]? = some (off, ty) -> Tab.get ty T = some tj -> place i = some (off, tj.size)) :
  ∀{parts:List (Nat×Operand)}{cells:List AC}{xs:List Value}{cs:List AC},RV w C cells xs->aFill Γ fr T ti.flds cells parts=some cs->
   ∃ys:List Value,Instr.fill place xs.toArray (parts.map fun (i,x)=>(i,a.eval x))=some ys.toArray/\RV w C cs ys:=by
 intro parts
 induction parts with
 |nil=>intro cells xs cs hr h;simp only[aFill,Option.some.injEq]at h;subst h;exact⟨xs,rfl,hr⟩
 |cons p parts ih=>
  obtain⟨i,x⟩:=p
  intro cells xs cs hr h
  simp only[aFill]at h
  cases h1:ti.flds[i]? with
  |none=>rw[h1]at h;cases h
  |some ot=>
   obtain⟨off,ty⟩:=ot
   rw[h1]at h;simp only[]at h
   cases h2:Tab.get ty T with
   |none=>rw[h2]at h;cases h
   |some tj=>
    rw[h2]at h;simp only[]at h
    cases h3:aEval Γ fr x with
    |none=>rw[h3]at h;cases h
    |some v=>
     rw[h3]at h;simp only[]at h
     cases h4:v.cells with
     |none=>rw[h4]at h;cases h
     |some vs=>
      rw[h4]at h;simp only[]at h
      cases hb:(Nat.beq vs.length tj.size&&Nat.ble (off+vs.length) cells.length) with
      |false=>rw[hb]at h;cases h
      |true=>
       rw[hb]at h;simp only[cond_true,Q13]at h
       simp only[Bool.and_eq_true]at hb
       have hl1:vs.length=tj.size:=Nat.eq_of_beq_eq_true hb.1
       have hl2:off+vs.length<=cells.length:=Nat.le_of_ble_eq_true hb.2
       have hv:=FV.cells_ok h4 (Q01 hi hf h3)
       have hvl:=RV.length hv
       have hxl:=RV.length hr
       have hov:=Qaw (n:=off) hl2 hr hv
       obtain⟨ys,h5,h6⟩:=ih hov h
       refine⟨ys,?_,h6⟩
       simp only[List.map_cons,Instr.fill,hp i off ty tj h1 h2]
       have hsz:(a.eval x).cells.size=vs.length:=by rw[←hvl];simp
       rw[if_neg (by simp;omega)]
       rw[←h5]
       congr 1
       exact Qcs (a.eval x).cells xs off (by simp at hvl ⊢;omega)
end
end Go.Abs
namespace Go.Abs
open Go.RowKit (Below)

section
variable {P:Program}{T:Tab}{Γ:List (Nat×List AC)}{F:Nat->Prop}{w:World}{C:Ctx}{σ σ':St}{N:Nat}{fr:Fr}{a:Act}

theorem Q75(hT:TabOk P T):∀(fs:List Field),(∀f∈fs,(Tab.get f.type T).isSome=true)->
  ∃ps:List (Nat×Nat),(fs.mapM (fun f=>do pure (f.offset,←sizeOf f.type)):Sem (List (Nat×Nat))).run P w=.ok ps w/\
   ∀(i:Nat) (f:Field) (tj:TI),fs[i]?=some f->Tab.get f.type T=some tj->ps[i]?=some (f.offset,tj.size)
 |[],_=>⟨[],rfl,fun i f tj h=>by simp at h⟩
 |f::fs,h=>by
  obtain⟨ps,h1,h2⟩:=Q75 hT fs (fun g hg=>h g (by simp[hg]))
  obtain⟨tj,hj⟩:=Option.isSome_iff_exists.1 (h f (by simp))
  refine⟨(f.offset,tj.size)::ps,?_,fun i g tk hi hk=>?_⟩
  ·simp only[List.mapM_cons,Sem.run_bind,(hT _ _ hj).run_sizeOf,Result.andThen_ok,Sem.run_pure,h1]
  ·cases i with
   |zero=>simp at hi;subst hi;rw[hj]at hk;cases hk;rfl
   |succ i=>simpa using h2 i g tk (by simpa using hi) hk
theorem Qe0{ti:TI}(hT:TabOk P T){fs:Array Field}(hfs:fs.toList.map (fun f=>(f.offset,f.type))=ti.flds)(hall:ti.flds.all (fun x=>(Tab.get x.2 T).isSome)=true):
  ∃ps:Array (Nat×Nat),(fs.mapM (fun f=>do pure (f.offset,←sizeOf f.type)):Sem (Array (Nat×Nat))).run P w=.ok ps w/\
   ∀(i off:Nat) (ty:TypeId) (tj:TI),ti.flds[i]?=some (off,ty)->Tab.get ty T=some tj->ps[i]?=some (off,tj.size):=by
 obtain⟨ps,h1,h2⟩:=Q75 (w:=w) hT fs.toList (fun f hf=>by
  rw[←hfs]at hall
  simp only[List.all_map,List.all_eq_true]at hall
  exact hall f hf)
 refine⟨ps.toArray,?_,fun i off ty tj hi hj=>?_⟩
 ·rw[Array.mapM_eq_mapM_toList]
  simp only[Sem.run_map,h1,Result.andThen_ok]
 ·rw[←hfs,List.getElem?_map]at hi
  cases hf:fs.toList[i]? with
  |none=>rw[hf]at hi;cases hi
  |some f=>
   rw[hf]at hi;simp at hi
   obtain⟨rfl,rfl⟩:=hi
   simpa using h2 i f tj hf hj
theorem RFs.get{w:World}{C:Ctx}:∀{vs:List FV}{xs:List Value}{i:Nat}{v:FV},RFs w C vs xs->vs[i]?=some v->∃u,xs[i]?=some u/\RF w C v u
 |[],xs,i,v,h,hi=>by simp at hi
 |x::vs,xs,i,v,h,hi=>by
  simp only[RFs]at h
  obtain⟨u,us,rfl,h1,h2⟩:=h
  cases i with
  |zero=>simp at hi;subst hi;exact⟨u,rfl,h1⟩
  |succ i=>
   obtain⟨u',h3,h4⟩:=RFs.get h2 (by simpa using hi)
   exact⟨u',by simpa using h3,h4⟩
theorem mapM_ok(hi:Inv Γ F w C σ)(hf:FrOk w C N fr a.tmps):∀{l:List Operand}{cs:List AC},l.mapM (fun x=>(aEval Γ fr x).bind (fun v=>match v with|.one c=>some c|_=>none))=some cs->RV w C cs (l.map a.eval)
 | [], cs, h => by simp at h; subst h; simp [RV]
 |x::l,cs,h=>by
  simp only[List.mapM_cons]at h
  cases h1:aEval Γ fr x with
  |none=>rw[h1]at h;simp at h
  |some v=>
   rw[h1]at h
   have hr:=Q01 hi hf h1
   cases v with
   |one c=>
    simp only[Option.bind_some]at h
    cases h2:l.mapM (fun x=>(aEval Γ fr x).bind (fun v=>match v with|.one c=>some c|_=>none)) with
    |none=>rw[h2]at h;simp at h
    |some ds=>
     rw[h2]at h
     simp at h;subst h
     exact⟨a.eval x,l.map a.eval,rfl,hr,mapM_ok hi hf h2⟩
   |bot=>simp at h
   |agg cs=>simp at h
   |tup vs=>simp at h

theorem Qd1(hi:Inv Γ F w C σ)(hf:FrOk w C N fr a.tmps)(s:Nat):∀{parts:List (Nat×Operand)}{k:Nat}{es:List (List AC)},Q91 Γ fr s k parts=some es->
  parts.map (·.1)=List.range' k parts.length/\parts.length=es.length/\∃xss:List (List Value),xss=parts.map (fun p=>(a.eval p.2).cells.toList)/\(∀(i:Nat) (e:List AC) (x:List Value),es[i]?=some e->xss[i]?=some x->e.length=s/\RV w C e x)
 | [], k, es, h => by simp only [Q91, Option.some.injEq] at h; subst h; exact ⟨rfl, rfl, [], rfl, fun i e x he => by simp at he⟩
 | (i, x) :: r, k, es, h => by
  simp only[Q91]at h
  cases h1:aEval Γ fr x with
  |none=>rw[h1]at h;cases h
  |some v=>
   rw[h1]at h;simp only[]at h
   cases h2:v.cells with
   |none=>rw[h2]at h;cases h
   |some cs=>
    rw[h2]at h;simp only[]at h
    cases hb:(Nat.beq i k&&Nat.beq cs.length s) with
    |false=>rw[hb]at h;cases h
    |true=>
     rw[hb]at h;simp only[cond_true]at h
     simp only[Bool.and_eq_true]at hb
     have e1:i=k:=Nat.eq_of_beq_eq_true hb.1
     have e2:cs.length=s:=Nat.eq_of_beq_eq_true hb.2
     cases h3:Q91 Γ fr s (k+1) r with
     |none=>rw[h3]at h;cases h
     |some es'=>
      rw[h3]at h;simp only[Option.some.injEq]at h;subst h
      obtain⟨g1,g2,xss,g3,g4⟩:=Qd1 hi hf s h3
      refine⟨by simp[List.range'_succ,g1,e1],by simp[g2],_,rfl,fun j e y he hy=>?_⟩
      cases j with
      |zero=>
       simp at he hy;subst he;subst hy
       exact⟨e2,by simpa using FV.cells_ok h2 (Q01 hi hf h1)⟩
      |succ j=>exact g4 j e y (by simpa using he) (by rw[g3];simpa using hy)

theorem Qfu(s:Nat):∀(xss:List (List Value))(k:Nat)(cells:List Value),(∀x∈xss,x.length=s)->(k+xss.length) * s<=cells.length->∀vs:List Value,vs.map (fun v=>v.cells.toList)=xss->
  Instr.fill (fun i=>some (i * s,s)) cells.toArray ((List.range' k xss.length).zip vs)=some (cells.take (k * s)++xss.flatten++cells.drop ((k+xss.length) * s)).toArray
 |[],k,cells,h,hl,vs,hv=>by
  have:vs=[]:=by simpa using hv
  subst this
  simp[Instr.fill]
 |x::xss,k,cells,h,hl,vs,hv=>by
  match vs,hv with
  |v::vs,hv=>
   simp only[List.map_cons,List.cons.injEq]at hv
   obtain⟨hv1,hv2⟩:=hv
   have hx:x.length=s:=h x (by simp)
   have hvs:v.cells.size=s:=by rw[←hx,←hv1];simp
   have hkl:(k+1+xss.length) * s<=cells.length:=by rw[show k+1+xss.length=k+(x::xss).length by simp;omega];exact hl
   have hks:k * s+s<=cells.length:=by
    have:(k+1) * s<=(k+1+xss.length) * s:=Nat.mul_le_mul_right _ (by omega)
    rw[Nat.add_mul,Nat.one_mul]at this
    omega
   simp only[List.length_cons,List.range'_succ,List.zip_cons_cons,Instr.fill]
   rw[if_neg (by simp;omega)]
   rw[Qcs v.cells cells (k * s) (by omega)]
   rw[Qfu s xss (k+1) _ (fun y hy=>h y (by simp[hy])) (by simp at hvs ⊢;omega) vs hv2]
   congr 1
   have hvl:v.cells.toList.length=s:=by simpa using hvs
   apply Array.ext'
   simp only[List.flatten_cons,←hv1]
   have e1:(cells.take (k * s)++v.cells.toList++cells.drop (k * s+v.cells.toList.length)).take ((k+1) * s)=cells.take (k * s)++v.cells.toList:=by
    rw[List.take_append_of_le_length (by simp[hvl,Nat.add_mul];omega)]
    rw[List.take_of_length_le (by simp[hvl,Nat.add_mul];omega)]
   have e2:(cells.take (k * s)++v.cells.toList++cells.drop (k * s+v.cells.toList.length)).drop ((k+1+xss.length) * s)=cells.drop ((k+(xss.length+1)) * s):=by
    rw[List.drop_append]
    have hlen:(cells.take (k * s)++v.cells.toList).length=k * s+s:=by simp[hvl];omega
    have hge:k * s+s<=(k+1+xss.length) * s:=by
     have:(k+1) * s<=(k+1+xss.length) * s:=Nat.mul_le_mul_right _ (by omega)
     rw[Nat.add_mul,Nat.one_mul]at this;exact this
    rw[List.drop_eq_nil_of_le (by rw[hlen];exact hge),hlen,List.drop_drop,hvl,List.nil_append]
    congr 1
    rw[show k+(xss.length+1)=k+1+xss.length by omega]
    omega
   rw[e1,e2]
   simp

theorem Q94{t:TypeId}{ti tj:TI}(ht:TIOk P t ti)(hk:ti.kind=2)(hj:TIOk P ti.elem tj){n:Nat}{vs:List Value}{xss:List (List Value)}(hv:vs.map (fun v=>v.cells.toList)=xss)
  (hn : xss.length = n) (hx : ∀ x ∈ xss, x.length = tj.size) (hs : n * tj.size <= 16777216) (hn0 : n ≠ 0) (w : World) :
  (Instr.buildSlice t n ((List.range' 0 n).zip vs).toArray).run P w = .ok (.slice (some ⟨w.heap.size, 0, none⟩) n n) (w.alloc (.cells xss.flatten.toArray ti.elem)) := by
 obtain⟨z,hz,hzr⟩:=hj.run_zero w
 have hpos:=hj.pos
 have hne:n * tj.size≠0:=by
  intro e
  rcases Nat.mul_eq_zero.1 e with h|h <;> contradiction
 have hfl:xss.flatten.length=n * tj.size:=by
  rw[List.length_flatten]
  have:xss.map List.length=List.replicate n tj.size:=by
   rw[←hn]
   apply List.ext_getElem (by simp)
   intro i h1 h2
   simp at h1
   simp[hx]
  rw[this];simp
 have hf:=Qfu tj.size xss 0 ((List.range (n * tj.size)).map (fun i=>z.cells[i % z.cells.size]!)) hx (by simp[hn]) vs hv
 rw[hn]at hf
 have hfin:(List.take (0 * tj.size) ((List.range (n * tj.size)).map (fun i=>z.cells[i % z.cells.size]!))++xss.flatten++List.drop ((0+n) * tj.size) ((List.range (n * tj.size)).map (fun i=>z.cells[i % z.cells.size]!)))=xss.flatten:=by
  simp
 rw[hfin]at hf
 simp only[Instr.buildSlice,Sem.run_bind,run_underlying (ht.slice hk),Result.andThen_ok,hj.run_sizeOf,Sem.run_ite,Sem.run_pure]
 rw[if_neg (by omega),if_neg hne,hzr]
 simp only[Result.andThen_ok]
 have harr:(Array.range (n * tj.size)).map (fun i=>z.cells[i % z.cells.size]!)=((List.range (n * tj.size)).map (fun i=>z.cells[i % z.cells.size]!)).toArray:=by
  apply Array.ext'
  simp
 rw[harr,hf]
 simp[newRow]

theorem aOp_ok{o:Oper}{x:Option FV}(hT:TabOk P T)(hi:Inv Γ F w C σ)(hf:FrOk w C N fr a.tmps)(h:aOp T Γ o.op fr σ=some (x,σ')):Runs P Γ F w C a o x σ':=by
 obtain⟨dst,op,type,pos,after,guard⟩:=o
 simp only at h
 unfold aOp at h
 split at h
 · -- move
  rename_i x'
  cases h1:aEval Γ fr x' with
  |none=>rw[h1]at h;cases h
  |some v=>
   rw[h1]at h;cases h
   exact Runs.val hi rfl (Q01 hi hf h1)
 · -- assign
  rename_i x'
  cases h1:aEval Γ fr x' with
  |none=>rw[h1]at h;cases h
  |some v=>
   rw[h1]at h;cases h
   exact Runs.val hi rfl (Q01 hi hf h1)
 · -- pick
  rename_i c x' y
  split at h
  ·rename_i h1
   have hc:=Q01 hi hf h1
   simp only[RF,R]at hc
   cases h2:aEval Γ fr x' with
   |none=>rw[h2]at h;cases h
   |some v=>
    rw[h2]at h;cases h
    exact Runs.val hi (by simp[execOp,hc.1,asBool]) (Q01 hi hf h2)
  ·rename_i h1
   have hc:=Q01 hi hf h1
   simp only[RF,R]at hc
   cases h2:aEval Γ fr y with
   |none=>rw[h2]at h;cases h
   |some v=>
    rw[h2]at h;cases h
    exact Runs.val hi (by simp[execOp,hc.1,asBool]) (Q01 hi hf h2)
  ·cases h
 · -- alloc
  rename_i t
  cases h1:Tab.get t T with
  |none=>rw[h1]at h;cases h
  |some ti=>
   rw[h1]at h;cases h
   have ht:=hT t ti h1
   obtain⟨z,hz,hzr⟩:=ht.run_zero w
   obtain⟨C',he,hlb,hnp,hin,hok,hbk⟩:=hi.newObj (Qbm ti.zero ht.one) t
   have hcells:z.cells=ti.zero.toArray:=by rw[←hz]
   refine⟨.value (.pointer (some ⟨w.heap.size,0,none⟩)),w.alloc (.cells ti.zero.toArray t),C',?_,Stp.alloc hi.base _ _,he,Nat.le_of_eq hlb.symm,hnp,hin,_,rfl,hok,by rw[hbk]⟩
   simp[execOp,Instr.alloc,hzr,newVar,newRow,hcells]
 · -- box
  rename_i t x'
  cases h1:aEval Γ fr x' with
  |none=>rw[h1]at h;cases h
  |some v=>
   rw[h1]at h;simp only[]at h
   cases h2:v.cells with
   |none=>rw[h2]at h;cases h
   |some cs=>
    rw[h2]at h;cases h
    have hr:=FV.cells_ok h2 (Q01 hi hf h1)
    obtain⟨C',he,hlb,hnp,hin,hok,hbk⟩:=hi.newObj hr t
    refine⟨.value (.pointer (some ⟨w.heap.size,0,none⟩)),w.alloc (.cells (a.eval x').cells.toList.toArray t),C',?_,Stp.alloc hi.base _ _,he,Nat.le_of_eq hlb.symm,hnp,hin,_,rfl,hok,by rw[hbk]⟩
    simp[execOp,Instr.box,newVar,newRow]
 · -- build
  rename_i t parts
  cases h1:Tab.get t T with
  |none=>rw[h1]at h;cases h
  |some ti=>
   rw[h1]at h;simp only[]at h
   cases hb:(Nat.beq ti.kind 1&&ti.flds.all (fun x=>(Tab.get x.2 T).isSome)) with
   |false=>rw[hb]at h;cases h
   |true=>
    rw[hb]at h;simp only[cond_true]at h
    simp only[Bool.and_eq_true]at hb
    cases h2:aFill Γ fr T ti.flds (ti.zero.map .lit) parts.toList with
    |none=>rw[h2]at h;cases h
    |some cs=>
     rw[h2]at h;cases h
     have ht:=hT t ti h1
     obtain⟨z,hz,hzr⟩:=ht.run_zero w
     obtain⟨fs,hfs,hur⟩:=ht.run_struct w (Nat.eq_of_beq_eq_true hb.1)
     obtain⟨ps,hps,hpp⟩:∃ps:Array (Nat×Nat),(fs.mapM (fun f=>do pure (f.offset,←sizeOf f.type)):Sem (Array (Nat×Nat))).run P w=.ok ps w/\
       ∀(i off:Nat) (ty:TypeId) (tj:TI),ti.flds[i]?=some (off,ty)->Tab.get ty T=some tj->ps[i]?=some (off,tj.size):=Qe0 hT hfs hb.2
     obtain⟨ys,hy,hyr⟩:=Qmb (t:=t) hT hi hf hfs (ps[·]?) hpp (Qbm ti.zero ht.one) h2
     have hcells:z.cells=ti.zero.toArray:=by rw[←hz]
     refine Runs.val hi (u:=.agg ys.toArray) ?_ ⟨ys,rfl,hyr⟩
     simp only[execOp,Instr.build,Sem.run_bind,hzr,Result.andThen_ok,hur,hps,hcells]
     have:(Array.map (fun p:Nat×Operand=>(p.1,a.eval p.2)) parts).toList=parts.toList.map (fun p=>(p.1,a.eval p.2)):=by simp
     rw[this,hy]
     rfl
 · -- load
  rename_i t x'
  cases h1:Tab.get t T with
  |none=>rw[h1]at h;cases h
  |some ti=>
   rw[h1]at h;simp only[]at h
   cases hb:(ti.agg||Nat.beq ti.size 1) with
   |false=>rw[hb]at h;cases h
   |true=>
    rw[hb]at h;simp only[cond_true]at h
    cases h2:aEval Γ fr x' with
    |none=>rw[h2]at h;cases h
    |some v=>
     rw[h2]at h;simp only[]at h
     cases h3:aLoad ti σ v with
     |none=>rw[h3]at h;cases h
     |some y=>
      rw[h3]at h;cases h
      obtain⟨u,hu,hr⟩:=Qg3 (hT t ti h1) hb hi (Q01 hi hf h2) h3
      exact Runs.val hi (by simp[execOp,hu]) hr
 · -- store
  rename_i t x' y'
  cases h1:Tab.get t T with
  |none=>rw[h1]at h;cases h
  |some ti=>
   rw[h1]at h;simp only[]at h
   cases h2:aEval Γ fr x' with
   |none=>rw[h2]at h;cases h
   |some v=>
    cases h3:aEval Γ fr y' with
    |none=>rw[h2,h3]at h;cases h
    |some u=>
     rw[h2,h3]at h;simp only[]at h
     cases h4:Qd0 ti σ u v with
     |none=>rw[h4]at h;cases h
     |some σ2=>
      rw[h4]at h;cases h
      obtain⟨w',hw,s1,s2,s3⟩:=Qjw (hT t ti h1) hi (Q01 hi hf h2) (Q01 hi hf h3) h4
      exact⟨.skip,w',C,by simp[execOp,hw],s1,s2,Nat.le_refl _,NewP.refl _ _,s3,rfl⟩
 · -- fieldAddr
  rename_i s x' f
  cases h1:Tab.get s T with
  |none=>rw[h1]at h;cases h
  |some ti=>
   rw[h1]at h;simp only[]at h
   cases hb:Nat.beq ti.kind 1 with
   |false=>rw[hb]at h;cases h
   |true=>
    rw[hb]at h;simp only[cond_true]at h
    cases h2:ti.flds[f]? with
    |none=>rw[h2]at h;cases h
    |some ot=>
     obtain⟨off,ty⟩:=ot
     rw[h2]at h;simp only[]at h
     cases h3:Tab.get ty T with
     |none=>rw[h3]at h;cases h
     |some tj=>
      rw[h3]at h;simp only[]at h
      cases h4:aEval Γ fr x' with
      |none=>rw[h4]at h;cases h
      |some v=>
       rw[h4]at h;simp only[]at h
       cases h5:Q50 off v with
       |none=>rw[h5]at h;cases h
       |some y=>
        rw[h5]at h;cases h
        obtain⟨fs,hfs,hur⟩:=(hT s ti h1).run_struct w (Nat.eq_of_beq_eq_true hb)
        rw[←hfs,List.getElem?_map]at h2
        cases hfe:fs.toList[f]? with
        |none=>rw[hfe]at h2;cases h2
        |some fd=>
         rw[hfe]at h2;simp at h2
         obtain⟨rfl,rfl⟩:=h2
         obtain⟨ad,had,hr⟩:=Q96 (Q01 hi hf h4) h5
         have hfe':fs[f]?=some fd:=by simpa using hfe
         exact Runs.val hi (by simp[execOp,Instr.fieldAt,hur,hfe',had,Instr.sureAddr,Qbl (hT _ _ h3)]) hr
 · -- field
  rename_i s x' f
  cases h1:Tab.get s T with
  |none=>rw[h1]at h;cases h
  |some ti=>
   rw[h1]at h;simp only[]at h
   cases hb:Nat.beq ti.kind 1 with
   |false=>rw[hb]at h;cases h
   |true=>
    rw[hb]at h;simp only[cond_true]at h
    cases h2:ti.flds[f]? with
    |none=>rw[h2]at h;cases h
    |some ot=>
     obtain⟨off,ty⟩:=ot
     rw[h2]at h;simp only[]at h
     cases h3:Tab.get ty T with
     |none=>rw[h3]at h;cases h
     |some tj=>
      rw[h3]at h;simp only[]at h
      split at h
      ·rename_i cs h4
       cases hc:((tj.agg||Nat.beq tj.size 1)&&Nat.ble (off+tj.size) cs.length) with
       |false=>rw[hc]at h;cases h
       |true=>
        rw[hc]at h;simp only[cond_true]at h
        simp only[Bool.and_eq_true]at hc
        rw[Q13]at h
        cases h5:mkFV tj.agg ((cs.drop off).take tj.size) with
        |none=>rw[h5]at h;cases h
        |some y=>
         rw[h5]at h;cases h
         obtain⟨fs,hfs,hur⟩:=(hT s ti h1).run_struct w (Nat.eq_of_beq_eq_true hb)
         rw[←hfs,List.getElem?_map]at h2
         cases hfe:fs.toList[f]? with
         |none=>rw[hfe]at h2;cases h2
         |some fd=>
          rw[hfe]at h2;simp at h2
          obtain⟨rfl,rfl⟩:=h2
          have hfe':fs[f]?=some fd:=by simpa using hfe
          obtain⟨xs,hxs,hr⟩:=Q01 hi hf h4
          have hle:fd.offset+tj.size<=cs.length:=Nat.le_of_ble_eq_true hc.2
          have hl:=RV.length hr
          have hpart:(part fd.type xs.toArray fd.offset).run P w=.ok (valOf tj.agg ((xs.drop fd.offset).take tj.size)) w:=by
           have htj:=hT _ _ h3
           simp only[part,Sem.run_bind,htj.run_isAgg,Result.andThen_ok]
           cases hag:tj.agg with
           |true=>
            simp only[↓reduceIte,Sem.run_bind,htj.run_sizeOf,Result.andThen_ok,Sem.run_pure,valOf]
            congr 2
            apply Array.ext'
            simp
           |false=>
            have h1':tj.size=1:=by
             have:=hc.1;rw[hag]at this;simpa using this
            have hlt:fd.offset < xs.length:=by omega
            have hx:xs.toArray[fd.offset]?=some xs[fd.offset]:=by simp[hlt]
            rw[List.drop_eq_getElem_cons hlt,h1',hx]
            rfl
          refine Runs.val hi (u:=valOf tj.agg ((xs.drop fd.offset).take tj.size)) ?_ (Qdg h5 (RV.take _ (RV.drop _ hr)))
          simp[execOp,Instr.field,hur,hfe',hxs,asAgg,hpart]
      ·cases h
 · -- binOp
  rename_i op' xt x' y' yt
  cases h1:aEval Γ fr x' with
  |none=>rw[h1]at h;cases h
  |some v=>
   cases h2:aEval Γ fr y' with
   |none=>rw[h1,h2]at h;cases h
   |some u=>
    rw[h1,h2]at h;simp only[]at h
    cases h3:aBin op' v u with
    |none=>rw[h3]at h;cases h
    |some z=>
     rw[h3]at h;cases h
     have hv:=Q01 hi hf h1
     have hu:=Q01 hi hf h2
     unfold aBin at h3
     split at h3
     ·rename_i j x k y
      cases hb:Qiz j k with
      |false=>rw[hb]at h3;cases h3
      |true=>
       rw[hb]at h3;simp only[cond_true]at h3
       obtain rfl:=Qiy hb
       cases h4:Qb9 op' x y with
       |none=>rw[h4]at h3;cases h3
       |some b=>
        rw[h4]at h3;cases h3
        simp only[RF,R]at hv hu
        refine Runs.val hi (u:=.bool b) ?_ ⟨rfl,rfl⟩
        simp only[execOp,hv.1,hu.1,eqGuard_at_int,Sem.run_bind,Sem.run_pure,Result.andThen_ok,Qj3 h4]
     ·rename_i x y
      cases h4:Qap op' x y with
      |none=>rw[h4]at h3;cases h3
      |some b=>
       rw[h4]at h3;cases h3
       simp only[RF,R]at hv hu
       refine Runs.val hi (u:=.bool b) ?_ ⟨rfl,rfl⟩
       simp only[execOp,hv.1,hu.1,eqGuard_at_string,Sem.run_bind,Sem.run_pure,Result.andThen_ok,Qho h4]
     ·cases h3
 · -- not
  rename_i t x'
  split at h
  ·rename_i b h1
   cases h
   have hv:=Q01 hi hf h1
   simp only[RF,R]at hv
   exact Runs.val hi (u:=.bool (!b)) (by simp[execOp,hv.1,Op.unary]) ⟨rfl,rfl⟩
  ·cases h
 · -- extract
  rename_i x' i
  split at h
  ·rename_i vs h1
   cases h2:vs[i]? with
   |none=>rw[h2]at h;cases h
   |some v=>
    rw[h2]at h;cases h
    obtain⟨xs,hx,hr⟩:=Q01 hi hf h1
    obtain⟨u,hu,hur⟩:=RFs.get hr h2
    exact Runs.val hi (by simp[execOp,Instr.extract,hx,hu]) hur
  ·cases h
 · -- makeFunc
  rename_i f first caps
  split at h
  ·rename_i xs ys h1 h2
   cases h
   refine Runs.val hi (u:=.func f (first.map a.eval) (caps.map a.eval)) (by simp[execOp,Instr.makeFunc]) ?_
   exact⟨first.toList.map a.eval,caps.toList.map a.eval,by
    congr 1 <;> (apply Array.ext';simp),mapM_ok hi hf h1,mapM_ok hi hf h2⟩
  ·cases h
 · -- nilCheck
  rename_i x'
  split at h
  ·rename_i i off h1
   cases h
   have hv:=Q01 hi hf h1
   simp only[RF,R]at hv
   exact Runs.val hi (u:=a.eval x') (by simp[execOp,hv.2]) (by simp only[RF,R];exact hv)
  ·rename_i cs h1
   cases h
   have hv:=Q01 hi hf h1
   have hv':=hv
   simp only[RF,R]at hv
   obtain⟨ad,h2,_⟩:=hv
   exact Runs.val hi (u:=a.eval x') (by simp[execOp,h2]) hv'
  ·cases h
 · -- len
  rename_i args argTypes
  split at h
  ·rename_i x' t ha hat
   split at h
   ·rename_i ti v h1 h2
    have hv:=Q01 hi hf h2
    have hargs:args=#[x']:=by apply Array.ext';simpa using ha
    have hats:argTypes=#[t]:=by apply Array.ext';simpa using hat
    subst hargs;subst hats
    cases hb:Nat.beq ti.kind 2 with
    |true=>
     rw[hb]at h;simp only[cond_true]at h
     cases h3:aLen v with
     |none=>rw[h3]at h;cases h
     |some y=>
      rw[h3]at h;cases h
      obtain⟨u,hu,hr⟩:=aLen_ok (hT t ti h1) (Nat.eq_of_beq_eq_true hb) hv h3 type
      exact Runs.val hi (by simp[execOp,resolve,invoke,builtin,hu]) hr
    |false=>
     rw[hb]at h;simp only[cond_false]at h
     cases hb5:Nat.beq ti.kind 5 with
     |false=>rw[hb5]at h;cases h
     |true=>
      rw[hb5]at h;simp only[cond_true]at h
      split at h
      ·rename_i s
       cases h
       simp only[RF,R]at hv
       obtain⟨i,d,z,g1,g2,g3,g4,g5,g6,g7,g8⟩:=(hT t ti h1).ex
       simp only[kindOf,Nat.eq_of_beq_eq_true hb5]at g8
       subst g8
       exact Runs.val hi (u:=.int .i64 s.size) (by simp[execOp,resolve,invoke,builtin,Builtin.len_,run_underlying g2,hv.1,goInt]) ⟨rfl,rfl⟩
      ·cases h
   ·cases h
  ·cases h
 · -- buildSlice
  rename_i t len parts
  cases h1:Tab.get t T with
  |none=>rw[h1]at h;cases h
  |some ti=>
   rw[h1]at h;simp only[]at h
   cases hb:Nat.beq ti.kind 2 with
   |false=>rw[hb]at h;cases h
   |true=>
    rw[hb]at h;simp only[cond_true]at h
    cases h2:Tab.get ti.elem T with
    |none=>rw[h2]at h;cases h
    |some tj=>
     rw[h2]at h;simp only[]at h
     cases h3:Q91 Γ fr tj.size 0 parts.toList with
     |none=>rw[h3]at h;cases h
     |some es=>
      rw[h3]at h;simp only[]at h
      cases hc:(Nat.beq es.length len&&Nat.ble (len * tj.size) 16777216&&!(Nat.beq len 0)) with
      |false=>rw[hc]at h;cases h
      |true=>
       rw[hc]at h;simp only[cond_true,Option.some.injEq,Prod.mk.injEq]at h
       obtain⟨rfl,rfl⟩:=h
       simp only[Bool.and_eq_true]at hc
       have e1:es.length=len:=Nat.eq_of_beq_eq_true hc.1.1
       have e2:len * tj.size<=16777216:=Nat.le_of_ble_eq_true hc.1.2
       have e3:len≠0:=by intro e;subst e;simp at hc
       obtain⟨g1,g2,xss,g3,g4⟩:=Qd1 hi hf tj.size h3
       have hlen:xss.length=es.length:=by rw[g3];simpa using g2
       have hxs:∀x∈xss,x.length=tj.size:=by
        intro x hx
        obtain⟨i,hil,hie⟩:=List.getElem_of_mem hx
        have he:es[i]?=some (es[i]'(by omega)):=List.getElem?_eq_getElem (by omega)
        obtain⟨k1,k2⟩:=g4 i _ x he (by rw[List.getElem?_eq_getElem hil,hie])
        rw[RV.length k2,k1]
       have hrun:=Q94 (hT t ti h1) (Nat.eq_of_beq_eq_true hb) (hT _ _ h2) (n:=len) (vs:=parts.toList.map (fun p=>a.eval p.2)) (xss:=xss) (by rw[g3];simp) (by omega) hxs e2 e3 w
       obtain⟨C',he,hlb,hnp,hin,hpr⟩:=hi.newRow xss.flatten ti.elem
       have hparts:Array.map (fun p:Nat×Operand=>(p.1,a.eval p.2)) parts=((List.range' 0 len).zip (parts.toList.map (fun p=>a.eval p.2))).toArray:=by
        apply Array.ext'
        rw[show len=parts.toList.length by rw[←e1,g2],←g1]
        simp[List.zip_map']
       refine⟨.value (.slice (some ⟨w.heap.size,0,none⟩) len len),w.alloc (.cells xss.flatten.toArray ti.elem),C',?_,Stp.alloc hi.base _ _,he,Nat.le_of_eq hlb.symm,hnp,hin,_,rfl,?_⟩
       ·simp only[execOp,Sem.run_bind]
        rw[show (Array.map (fun x:Nat×Operand=>match x with|(i,x)=>(i,a.eval x)) parts)=Array.map (fun p:Nat×Operand=>(p.1,a.eval p.2)) parts from rfl,hparts,hrun]
        rfl
       ·refine⟨_,_,by rw[e1],by omega,.inr ⟨_,rfl,rfl,?_⟩⟩
        refine RS.of_new (xss:=xss) 0 hlen (fun i e x h5 h6=>?_) (fun j v hj=>?_) hpr
        ·obtain⟨k1,k2⟩:=g4 i e x h5 h6
         exact⟨k1,k2.ext he⟩
        ·rw[World.cell?_alloc_new]
         simpa using hj
 ·cases h
end
end Go.Abs
namespace Go.Abs

structure Env where
 P:Program
 T:Tab
 Γ:List (Nat×List AC)
 N:Nat
 ds:List Deferred

def isO:Id->Prop
 |.l _=>False
 |.o _=>True

structure Goes (F:Nat->Prop)(p:Id->Prop)(w:World)(C:Ctx)(w':World)(C':Ctx):Prop where
 stp:Stp F w w'
 chg:Chg p w C w' C'
 no:C.no<=C'.no
 newp:NewP F C C'
theorem Goes.refl(F:Nat->Prop)(p:Id->Prop)(w:World)(C:Ctx):Goes F p w C w C:=⟨Stp.refl _ _,Chg.refl _ _ _,Nat.le_refl _,NewP.refl _ _⟩
theorem Goes.trans{F:Nat->Prop}{p:Id->Prop}{w1 w2 w3:World}{C1 C2 C3:Ctx}(h:Goes F p w1 C1 w2 C2)(k:Goes F p w2 C2 w3 C3):Goes F p w1 C1 w3 C3:=
 ⟨h.stp.trans k.stp,h.chg.trans k.chg,Nat.le_trans h.no k.no,h.newp.trans k.newp⟩
theorem Goes.weaken{F:Nat->Prop}{p q:Id->Prop}{w w':World}{C C':Ctx}(h:Goes F p w C w' C')(hq:∀i,q i->p i):Goes F q w C w' C':=⟨h.stp,h.chg.weaken hq,h.no,h.newp⟩
theorem Goes.toO{F:Nat->Prop}{w w':World}{C C':Ctx}(h:Goes F (fun _=>True) w C w' C'):Goes F isO w C w' C':=h.weaken fun _ _=>trivial
theorem Goes.drew{Γ:List (Nat×List AC)}{F:Nat->Prop}{w:World}{C:Ctx}{σ:St}(hi:Inv Γ F w C σ):Goes F (fun _=>True) w C w.drew C:=⟨Stp.drew _ _,hi.drew.1,Nat.le_refl _,NewP.refl _ _⟩

def AStep (E:Env)(o:Oper)(fr:Fr)(σ:St)(x:FV)(σ':St):Prop:=
 ∀(F:Nat->Prop) (w:World) (C:Ctx) (tmps:Array Value),Inv E.Γ F w C σ->FrOk w C E.N fr tmps->
  ∀(next:Act->World->Prop) (Q:Exit->Act->World->Prop),
   (∀(u:Value) (w':World) (C':Ctx),Goes F (fun _=>True) w C w' C'->Inv E.Γ F w' C' σ'->RF w' C' x u->next (Act.put ⟨tmps,E.ds⟩ o.dst u) w')->o.wp E.P ⟨tmps,E.ds⟩ w next Q

theorem AStep.ofOp{E:Env}{o:Oper}{fr:Fr}{σ σ':St}{x:FV}(hT:TabOk E.P E.T)(h:aOp E.T E.Γ o.op fr σ=some (some x,σ')):AStep E o fr σ x σ':=by
 intro F w C tmps hi hf next Q hk
 obtain⟨r,w',C',h1,h2,h3,h4,h5,h6,u,rfl,hu⟩:=aOp_ok (a:=⟨tmps,E.ds⟩) hT hi hf h
 unfold Oper.wp
 rw[h1,Oper.upon_value]
 exact hk u w' C' ⟨h2,h3,h4,h5⟩ h6 hu
theorem AStep.ofStore{E:Env}{o:Oper}{fr:Fr}{σ σ':St}(hT:TabOk E.P E.T)(h:aOp E.T E.Γ o.op fr σ=some (none,σ')):AStep E o fr σ .bot σ':=by
 intro F w C tmps hi hf next Q hk
 obtain⟨r,w',C',h1,h2,h3,h4,h5,h6,rfl⟩:=aOp_ok (a:=⟨tmps,E.ds⟩) hT hi hf h
 unfold Oper.wp
 rw[h1,Oper.upon_skip]
 exact hk undef w' C' ⟨h2,h3,h4,h5⟩ h6 (by simp[RF])

def putFr (dst:Option Tmp)(x:FV)(fr:Fr):Fr:=
 match dst with
 |some d=>(d,x)::fr
 |none=>fr
def dstOk (N:Nat):Option Tmp->Bool
 |some d=>Nat.blt d N
 |none=>true
theorem Q2j{w:World}{C:Ctx}{N:Nat}{fr:Fr}{tmps:Array Value}{ds:List Deferred}(hf:FrOk w C N fr tmps){dst:Option Tmp}{x:FV}{u:Value}(hd:dstOk N dst=true)(hr:RF w C x u):
  FrOk w C N (putFr dst x fr) (Act.put ⟨tmps,ds⟩ dst u).tmps:=by
 cases dst with
 |none=>exact hf
 |some d=>
  have:d < N:=Nat.le_of_ble_eq_true (show Nat.ble (d+1) N=true from hd)
  exact hf.put this hr
theorem put_defers(tmps:Array Value)(ds:List Deferred)(dst:Option Tmp)(u:Value):(Act.put ⟨tmps,ds⟩ dst u).defers=ds:=by cases dst <;> rfl
theorem Q37(tmps:Array Value)(ds:List Deferred)(dst:Option Tmp)(u:Value):Act.put ⟨tmps,ds⟩ dst u=⟨(Act.put ⟨tmps,ds⟩ dst u).tmps,ds⟩:=by cases dst <;> rfl

abbrev Cont:=Exit->Fr->St->Prop
def Post (E:Env)(F:Nat->Prop)(w:World)(C:Ctx)(K:Cont):Exit->Act->World->Prop:=fun e a w'=>
 a.defers=E.ds/\∃fr' σ' C',Goes F isO w C w' C'/\Inv E.Γ F w' C' σ'/\FrOk w' C' E.N fr' a.tmps/\K e fr' σ'

def AOps (E:Env)(ops:Array Oper)(l:List Oper)(K:Cont)(fr:Fr)(σ:St):Prop:=
 ∀(F:Nat->Prop) (w0:World) (C0:Ctx) (w:World) (C:Ctx) (tmps:Array Value),Goes F isO w0 C0 w C->Inv E.Γ F w C σ->FrOk w C E.N fr tmps->wpList E.P ops (Post E F w0 C0 K) l ⟨tmps,E.ds⟩ w
def ACode (E:Env)(c:Code)(K:Cont)(fr:Fr)(σ:St):Prop:=
 ∀(F:Nat->Prop) (w0:World) (C0:Ctx) (w:World) (C:Ctx) (tmps:Array Value),Goes F isO w0 C0 w C->Inv E.Γ F w C σ->FrOk w C E.N fr tmps->c.wp E.P (Post E F w0 C0 K) ⟨tmps,E.ds⟩ w

section
variable {E:Env}{ops:Array Oper}{rest:List Oper}{o:Oper}{K:Cont}{fr:Fr}{σ σ':St}{x:FV}
theorem AOps.nil(h:K .normal fr σ):AOps E ops [] K fr σ:=fun F w0 C0 w C tmps hg hi hf=>⟨rfl,fr,σ,C,hg,hi,hf,h⟩
theorem AOps.step(hgd:o.guard=none)(hd:dstOk E.N o.dst=true)(hs:AStep E o fr σ x σ')(h:AOps E ops rest K (putFr o.dst x fr) σ'):AOps E ops (o::rest) K fr σ:=by
 intro F w0 C0 w C tmps hg hi hf
 refine wpList_plain hgd fun N' hN=>hs F w C tmps hi hf N' _ fun u w' C' hgo hi' hr=>?_
 refine hN _ _ ?_
 rw[Q37]
 exact h F w0 C0 w' C' _ (hg.trans hgo.toO) hi' (Q2j (hf.ext hgo.chg) hd hr)
theorem AOps.store(hT:TabOk E.P E.T)(hgd:o.guard=none)(hd:o.dst=none)(hs:aOp E.T E.Γ o.op fr σ=some (none,σ'))(h:AOps E ops rest K fr σ'):AOps E ops (o::rest) K fr σ:=
 AOps.step hgd (by rw[hd];rfl) (AStep.ofStore hT hs) (by rw[hd];exact h)

def Q0y (ops:Array Oper)(j:Nat):Option Tmp:=(ops[j]?).bind (·.dst)
theorem Q4s{w:World}{C:Ctx}{N:Nat}{tmps:Array Value}(hf:FrOk w C N fr tmps){j d:Nat}{b:Bool}(hj:Q0y ops j=some d)(hb:Fr.get d fr=some (.one (.lit (.bool b)))):yielded ops tmps j=some b:=by
 obtain⟨u,hu,hr⟩:=hf.2 d _ hb
 simp only[RF,R]at hr
 unfold Q0y at hj
 simp[yielded,hj,hu,hr.1]
theorem FrOk.refine{w:World}{C:Ctx}{N:Nat}{tmps:Array Value}(hf:FrOk w C N fr tmps){d:Nat}{x y:FV}(hx:Fr.get d fr=some x)(h:∀u,RF w C x u->RF w C y u):FrOk w C N ((d,y)::fr) tmps:=by
 refine⟨hf.1,fun k z hk=>?_⟩
 simp only[Fr.get]at hk
 by_cases e:d=k
 ·subst e
  simp at hk;subst hk
  obtain⟨u,hu,hr⟩:=hf.2 d x hx
  exact⟨u,hu,h u hr⟩
 ·rw[Q09 e]at hk
  exact hf.2 k z hk
theorem AOps.guardYes{j d:Nat}{b:Bool}(hgd:o.guard=some (j,b))(hj:Q0y ops j=some d)(hb:Fr.get d fr=some (.one (.lit (.bool b))))(hd:dstOk E.N o.dst=true)(hs:AStep E o fr σ x σ')
  (h:AOps E ops rest K (putFr o.dst x fr) σ'):AOps E ops (o::rest) K fr σ:=by
 intro F w0 C0 w C tmps hg hi hf
 refine wpList_step fun N' hN=>?_
 have hy:=Q4s hf hj hb
 have hw:Region.wanted o (yielded ops tmps)=true:=by simp[Region.wanted,hgd,hy]
 simp only[]
 rw[if_pos hw]
 refine hs F w C tmps hi hf N' _ fun u w' C' hgo hi' hr=>?_
 refine hN _ _ ?_
 rw[Q37]
 exact h F w0 C0 w' C' _ (hg.trans hgo.toO) hi' (Q2j (hf.ext hgo.chg) hd hr)
def gNo (x:FV)(want:Bool):Bool:=
 match x with
 |.one (.lit (.bool b))=>!(b==want)
 |.tup []=>true
 |_=>false
theorem Qbq{w:World}{C:Ctx}{N:Nat}{tmps:Array Value}(hf:FrOk w C N fr tmps){j d:Nat}{want:Bool}{x:FV}(hgd:o.guard=some (j,want))(hj:Q0y ops j=some d)(hb:Fr.get d fr=some x)(hx:gNo x want=true):Region.wanted o (yielded ops tmps)=false:=by
 unfold gNo at hx
 split at hx
 ·rename_i b
  have hy:=Q4s hf hj hb
  have hne':b≠want:=by intro e;subst e;simp at hx
  simp[Region.wanted,hgd,hy,hne']
 ·obtain⟨u,hu,hr⟩:=hf.2 d _ hb
  obtain⟨xs,rfl,hxs⟩:=hr
  simp only[RFs]at hxs
  subst hxs
  unfold Q0y at hj
  simp[Region.wanted,hgd,yielded,hj,hu]
 ·cases hx
theorem AOps.guardNo{j d:Nat}{b:Bool}{x:FV}(hgd:o.guard=some (j,b))(hj:Q0y ops j=some d)(hb:Fr.get d fr=some x)(hx:gNo x b=true)(hd:dstOk E.N o.dst=true)
  (h:AOps E ops rest K (putFr o.dst (.tup []) fr) σ):AOps E ops (o::rest) K fr σ:=by
 intro F w0 C0 w C tmps hg hi hf
 refine wpList_step fun N' hN=>?_
 have hw:=Qbq (o:=o) hf hgd hj hb hx
 simp only[]
 rw[if_neg (by rw[hw];simp)]
 refine hN _ _ ?_
 rw[Q37]
 exact h F w0 C0 w C _ hg hi (Q2j hf hd ⟨[],rfl,rfl⟩)
theorem AOps.split{d:Nat}{b:Bool}(hb:Fr.get d fr=some (.one (.lit (.bool b))))(ht:b=true->AOps E ops rest K ((d,.one (.lit (.bool true)))::fr) σ)(hf:b=false->AOps E ops rest K ((d,.one (.lit (.bool false)))::fr) σ):AOps E ops rest K fr σ:=by
 intro F w0 C0 w C tmps hg hi hfr
 cases b with
 |true=>exact ht rfl F w0 C0 w C tmps hg hi (hfr.refine hb (fun _ h=>h))
 |false=>exact hf rfl F w0 C0 w C tmps hg hi (hfr.refine hb (fun _ h=>h))

inductive AItem where
 |code (c:Code)
 |blk (id:Nat)
 |inv (J:Fr->St->Prop)
 |pan (J:List PanicEntry->St->Prop)
def Q03 (E:Env)(Fin:Fr->St->Prop):List AItem->Cont
 |[],.normal,fr,σ=>Fin fr σ
 |[],.ret,fr,σ=>Fin fr σ
 |[],_,_,_=>False
 |.code c::k,.normal,fr,σ=>ACode E c (Q03 E Fin k) fr σ
 |.code _::k,e,fr,σ=>Q03 E Fin k e fr σ
 |.blk _::k,.normal,fr,σ=>Q03 E Fin k .normal fr σ
 |.blk id::k,.exit j,fr,σ=>bif Nat.beq j id then Q03 E Fin k .normal fr σ else Q03 E Fin k (.exit j) fr σ
 |.blk _::k,e,fr,σ=>Q03 E Fin k e fr σ
 |.inv J::_,.normal,fr,σ=>J fr σ
 |.inv _::k,e,fr,σ=>Q03 E Fin k e fr σ
 |.pan J::_,.panic ps,_,σ=>J ps σ
 |.pan _::k,e,fr,σ=>Q03 E Fin k e fr σ

variable {Fin:Fr->St->Prop}{k:List AItem}
theorem ACode.seq{x y:Code}(h:ACode E x (Q03 E Fin (.code y::k)) fr σ):ACode E (.seq x y) (Q03 E Fin k) fr σ:=by
 intro F w0 C0 w C tmps hg hi hf
 refine wp_seq (wp_mono (h F w0 C0 w C tmps hg hi hf) fun e a w' hp=>?_)
 obtain⟨hd,fr',σ',C',hg',hi',hf',hk⟩:=hp
 cases e with
 |normal=>
  have:a=⟨a.tmps,E.ds⟩:=by cases a;simp_all
  rw[this]
  exact hk F w0 C0 w' C' a.tmps hg' hi' hf'
 |_=>exact⟨hd,fr',σ',C',hg',hi',hf',hk⟩
theorem ACode.skip(h:Q03 E Fin k .normal fr σ):ACode E .skip (Q03 E Fin k) fr σ:=fun F w0 C0 w C tmps hg hi hf=>wp_skip ⟨rfl,fr,σ,C,hg,hi,hf,h⟩
theorem ACode.exit{id:Nat}(h:Q03 E Fin k (.exit id) fr σ):ACode E (.exit id) (Q03 E Fin k) fr σ:=fun F w0 C0 w C tmps hg hi hf=>wp_exit ⟨rfl,fr,σ,C,hg,hi,hf,h⟩
theorem ACode.ret(h:Q03 E Fin k .ret fr σ):ACode E .ret (Q03 E Fin k) fr σ:=fun F w0 C0 w C tmps hg hi hf=>wp_ret ⟨rfl,fr,σ,C,hg,hi,hf,h⟩
theorem ACode.block{id:Nat}{c:Code}(h:ACode E c (Q03 E Fin (.blk id::k)) fr σ):ACode E (.block id c) (Q03 E Fin k) fr σ:=by
 intro F w0 C0 w C tmps hg hi hf
 refine wp_block (wp_mono (h F w0 C0 w C tmps hg hi hf) fun e a w' hp=>?_)
 obtain⟨hd,fr',σ',C',hg',hi',hf',hk⟩:=hp
 cases e with
 |exit j=>
  simp only[Exit.inBlock]
  by_cases e:j=id
  ·subst e
   rw[if_pos rfl]
   refine⟨hd,fr',σ',C',hg',hi',hf',?_⟩
   simpa[Q03]using hk
  ·rw[if_neg e]
   refine⟨hd,fr',σ',C',hg',hi',hf',?_⟩
   simp only[Q03,Q09 e,cond_false]at hk
   exact hk
 |_=>exact⟨hd,fr',σ',C',hg',hi',hf',hk⟩
theorem ACode.cond{c:Operand}{x y:Code}{b:Bool}(hc:aEval E.Γ fr c=some (.one (.lit (.bool b))))(ht:b=true->ACode E x K fr σ)(hf:b=false->ACode E y K fr σ):ACode E (.cond c x y) K fr σ:=by
 intro F w0 C0 w C tmps hg hi hfr
 have hr:=Q01 (a:=⟨tmps,E.ds⟩) hi hfr hc
 simp only[RF,R]at hr
 exact wp_cond_split hr.1 (fun e=>ht e F w0 C0 w C tmps hg hi hfr) (fun e=>hf e F w0 C0 w C tmps hg hi hfr)
theorem ACode.region{id:Nat}{l:List Oper}(h:AOps E l.toArray l K fr σ):ACode E (.region id l.toArray false) K fr σ:=
 fun F w0 C0 w C tmps hg hi hf=>wp_region_lit (h F w0 C0 w C tmps hg hi hf)
open Classical in
theorem ACode.loop{c:Code}(I:Nat->Fr->St->Prop){m:Nat}(h0:I m fr σ)(round:∀m fr σ,I m fr σ->ACode E c (Q03 E Fin (.inv (fun fr' σ'=>∃m',m' < m/\I m' fr' σ')::k)) fr σ):ACode E (.loop c) (Q03 E Fin k) fr σ:=by
 intro F w0 C0 w C tmps hg hi hf
 let G:Nat->Act->World->Prop:=fun m a w'=>a.defers=E.ds/\∃fr' σ' C',Goes F isO w0 C0 w' C'/\Inv E.Γ F w' C' σ'/\FrOk w' C' E.N fr' a.tmps/\I m fr' σ'
 have key:∀a w',(∃m,G m a w')->∃m,G m a w'/\∀m',m' < m->¬G m' a w':=by
  intro a w' ⟨m,hm⟩
  induction m using Nat.strongRecOn with
  |_ m ih=>
   by_cases h:∃m',m' < m/\G m' a w'
   ·obtain⟨m',hlt,hm'⟩:=h
    exact ih m' hlt hm'
   ·exact⟨m,hm,fun m' hlt hm'=>h ⟨m',hlt,hm'⟩⟩
 let μ:Act->World->Nat:=fun a w'=>if h:∃m,G m a w' then (key a w' h).choose else 0
 refine wp_loop (fun a w'=>∃m,G m a w') μ ⟨m,rfl,fr,σ,C,hg,hi,hf,h0⟩ fun a w' hI=>?_
 obtain⟨hG,hmin⟩:=(key a w' hI).choose_spec
 have hμ:μ a w'=(key a w' hI).choose:=dif_pos hI
 obtain⟨hd,fr',σ',C',hg',hi',hf',hIm⟩:=hG
 have hb:=round _ fr' σ' hIm F w0 C0 w' C' a.tmps hg' hi' hf'
 have ha:a=⟨a.tmps,E.ds⟩:=by cases a;simp_all
 rw[←ha]at hb
 refine wp_mono hb fun e a2 w2 hp=>?_
 obtain⟨hd2,fr2,σ2,C2,hg2,hi2,hf2,hk⟩:=hp
 cases e with
 |normal=>
  obtain⟨m',hlt,hm'⟩:=hk
  have hex:∃m,G m a2 w2:=⟨m',hd2,fr2,σ2,C2,hg2,hi2,hf2,hm'⟩
  refine⟨hex,?_⟩
  rw[hμ]
  have hμ2:μ a2 w2=(key a2 w2 hex).choose:=dif_pos hex
  rw[hμ2]
  obtain⟨_,hmin2⟩:=(key a2 w2 hex).choose_spec
  refine Nat.lt_of_le_of_lt ?_ hlt
  rcases Nat.lt_or_ge m' (key a2 w2 hex).choose with h|h
  ·exact absurd ⟨hd2,fr2,σ2,C2,hg2,hi2,hf2,hm'⟩ (hmin2 m' h)
  ·exact h
 |_=>exact⟨hd2,fr2,σ2,C2,hg2,hi2,hf2,hk⟩
end
end Go.Abs
