/- The abstract layer, part A: abstract values, what it means that a concrete value is one of them, and that this stays true as the world grows. No condition. -/
import Derived.Calls
import Derived.Below
import Derived.Laws.World
import Derived.Laws.Cells
import Derived.Laws.Rows
import Derived.Laws.CopyRow
import Derived.Laws.AppendOwn
import Derived.Laws.OwnMore
import Derived.Tactics
import Derived.StillTail
set_option maxRecDepth 10000
set_option linter.unusedVariables false
set_option linter.unusedSimpArgs false
section
variable {p:Prop}
theorem zsy(h:p:=by simp):p:=h
theorem zoy(h:p:=by omega):p:=h
theorem zky(h:p:=by kernel_rfl):p:=h
theorem zdy(h:p:=by decide):p:=h
theorem zuy(h:p:=by simp;omega):p:=h
theorem zgy(h:p:=by dsimp only;omega):p:=h
end
theorem Qz8:type_of% @Array.getElem?_append_left:=@Array.getElem?_append_left
theorem Qz9:type_of% @Array.getElem?_setIfInBounds_ne:=@Array.getElem?_setIfInBounds_ne
theorem Qzc:type_of% @Bool.and_eq_true:=@Bool.and_eq_true
theorem Qzy:type_of% @List.all_eq_true:=@List.all_eq_true
theorem Z07:type_of% @List.drop_eq_getElem_cons:=@List.drop_eq_getElem_cons
theorem Z08:type_of% @List.drop_eq_nil_of_le:=@List.drop_eq_nil_of_le
theorem Z0j:type_of% @List.flatten_cons:=@List.flatten_cons
theorem Z0l:type_of% @List.foldl_cons:=@List.foldl_cons
theorem Z0p:type_of% @List.getElem?_append_left:=@List.getElem?_append_left
theorem Z0q:type_of% @List.getElem?_append_right:=@List.getElem?_append_right
theorem Z0s:type_of% @List.getElem?_drop:=@List.getElem?_drop
theorem Z0t:type_of% @List.getElem?_eq_getElem:=@List.getElem?_eq_getElem
theorem Z0v:type_of% @List.getElem?_eq_some_iff:=@List.getElem?_eq_some_iff
theorem Z0w:type_of% @List.getElem?_map:=@List.getElem?_map
theorem Z0z:type_of% @List.getElem?_take_of_lt:=@List.getElem?_take_of_lt
theorem Z12:type_of% @List.length_append:=@List.length_append
theorem Z13:type_of% @List.length_cons:=@List.length_cons
theorem Z1c:type_of% @List.length_take:=@List.length_take
theorem Z1g:type_of% @List.map_cons:=@List.map_cons
theorem Z1p:type_of% @List.mem_cons:=@List.mem_cons
theorem Z1q:type_of% @List.mem_cons_of_mem:=@List.mem_cons_of_mem
theorem Z25:type_of% @List.nil_append:=@List.nil_append
theorem Z2i:type_of% @List.take_append_of_le_length:=@List.take_append_of_le_length
theorem Z2k:type_of% @List.take_of_length_le:=@List.take_of_length_le
theorem Z2p:type_of% @Nat.add_assoc:=@Nat.add_assoc
theorem Z2s:type_of% @Nat.add_sub_cancel_left:=@Nat.add_sub_cancel_left
theorem Z2v:type_of% @Nat.eq_of_beq_eq_true:=@Nat.eq_of_beq_eq_true
theorem Z2x:type_of% @Nat.le_of_ble_eq_true:=@Nat.le_of_ble_eq_true
theorem Z30:type_of% @Nat.le_refl:=@Nat.le_refl
theorem Z31:type_of% @Nat.le_trans:=@Nat.le_trans
theorem Z32:type_of% @Nat.lt_of_lt_of_le:=@Nat.lt_of_lt_of_le
theorem Z33:type_of% @Nat.lt_or_ge:=@Nat.lt_or_ge
theorem Z35:type_of% @Nat.mul_le_mul_right:=@Nat.mul_le_mul_right
theorem Z3e:type_of% @Go.Oper.upon_enter:=@Go.Oper.upon_enter
theorem Z3f:type_of% @Go.Oper.upon_value:=@Go.Oper.upon_value
theorem Z3k:type_of% @Option.isSome_iff_exists:=@Option.isSome_iff_exists
theorem Z3m:type_of% @Option.map_some:=@Option.map_some
theorem Z3o:type_of% @Option.some.injEq:=@Option.some.injEq
theorem Z3p:type_of% @Prod.mk.injEq:=@Prod.mk.injEq
theorem Z3r:type_of% @Go.Result.andThen_ok:=@Go.Result.andThen_ok
theorem Z3s:type_of% @Go.Sem.run_bind:=@Go.Sem.run_bind
theorem Z3t:type_of% @Go.Sem.run_pure:=@Go.Sem.run_pure
theorem Z48:type_of% @Go.World.cell?_alloc_lt:=@Go.World.cell?_alloc_lt
theorem Z49:type_of% @Go.World.cell?_of_block:=@Go.World.cell?_of_block
open Array renaming ext'->Qz6,getD_eq_getD_getElem?->Qz7
open List renaming ext_getElem?->Z0c,length_set->Z1a,mapM_cons->Z1d
open Nat renaming add_comm->Z2q,add_mul->Z2r,le_of_eq->Z2y,sub_zero->Z38
open Option renaming bind_some->Z3h
open Go
variable {w w':World}{v u:Value}{F F':Nat->Prop}{b:Bool}{j g N d off n:Nat}{k:IntKind}{tmps:Array Value}{P:Program}{ad:Addr}{xs:List Value}{t T:TypeId}{x:Obj}{o:Oper}{op:BinOp}{fs:Array Field}{fn:Func}
namespace Go.Abs
inductive Id where
 |l (k:Nat)
 |o (k:Nat)
 deriving DecidableEq
inductive AC where
 |lit (v:Value)
 |any
 |sl (s:Nat) (es:List (List AC))
 |box (cs:List AC)
 |ptr (i:Id) (off:Nat)
 |gs (s:Nat) (es:List (List AC)) (i:Id)
 |arr (i:Id) (s off len cap:Nat)
 |mp (i:Id)
 |fn (f:Fn) (first caps:List AC)
 |ifc (t:TypeId) (agg:Bool) (cs:List AC)
inductive FV where
 |bot
 |one (c:AC)
 |agg (cs:List AC)
 |tup (vs:List FV)
structure Ctx where
 prot:Addr->Prop
 nl:Nat
 no:Nat
 phi:Id->Nat
 tk:Id->Option (Nat×Nat)
def Ctx.ok (C:Ctx):Id->Prop
 |.l k=>k < C.nl
 |.o k=>k < C.no
def Ctx.blk (C:Ctx)(i:Id):Nat:=C.phi i
def Ctx.tok (C:Ctx)(i:Id):Option (Nat×Nat):=C.tk i
mutual
def R (w:World)(C:Ctx):AC->Value->Prop
 |.lit u,v=>v=u/\u.oneCell'=true
 |.any,v=>v.oneCell'=true
 |.sl s es,v=>∃a cap,v=.slice a es.length cap/\es.length<=cap/\(es=[]∨∃ad,a=some ad/\ad.spot=none/\RS w C s es ad)
 |.box cs,v=>∃ad,v=.pointer (some ad)/\ad.spot=none/\RL w C cs ad
 |.ptr i off,v=>C.ok i/\v=.pointer (some ⟨C.blk i,off,none⟩)
 |.gs s es i,v=>C.ok i/\((v=.slice none 0 0/\es=[]/\C.tok i=none) ∨
   ∃g cap,v=.slice (some ⟨g,0,none⟩) es.length cap/\es.length<=cap/\C.tok i=some (g,cap)/\RS w C s es ⟨g,0,none⟩)
 |.arr i s off len cap,v=>C.ok i/\v=.slice (some ⟨C.blk i,off * s,none⟩) len cap/\len<=cap
 |.mp i,v=>C.ok i/\v=.map (some (C.blk i))
 |.fn f first caps,v=>∃xs ys:List Value,v=.func f xs.toArray ys.toArray/\RV w C first xs/\RV w C caps ys
 |.ifc t ag cs,v=>∃xs:List Value,RV w C cs xs/\((ag=true/\v=.iface t (.agg xs.toArray))∨(ag=false/\∃x,xs=[x]/\v=.iface t x))
def RS (w:World)(C:Ctx)(s:Nat):List (List AC)->Addr->Prop
 |[],_=>True
 |e::es,ad=>e.length=s/\RL w C e ad/\RS w C s es ⟨ad.block,ad.off+s,none⟩
def RL (w:World)(C:Ctx):List AC->Addr->Prop
 |[],_=>True
 |c::cs,ad=>(∃u,w.cell? ad=some u/\C.prot ad/\R w C c u)/\RL w C cs ⟨ad.block,ad.off+1,none⟩
def RV (w:World)(C:Ctx):List AC->List Value->Prop
 |[],vs=>vs=[]
 |c::cs,vs=>∃u us,vs=u::us/\R w C c u/\RV w C cs us
end
mutual
def AC.ids (p:Id->Prop):AC->Prop
 |.lit _=>True
 |.any=>True
 |.sl _ es=>idsS p es
 |.box cs=>idsL p cs
 |.ptr i _=>p i
 |.gs _ es i=>p i/\idsS p es
 |.arr i _ _ _ _=>p i
 |.mp i=>p i
 |.fn _ a b=>idsL p a/\idsL p b
 |.ifc _ _ cs=>idsL p cs
def idsS (p:Id->Prop):List (List AC)->Prop
 |[]=>True
 |e::es=>idsL p e/\idsS p es
def idsL (p:Id->Prop):List AC->Prop
 |[]=>True
 |c::cs=>c.ids p/\idsL p cs
end
theorem Q2b{p:Id->Prop}{cs:List AC}:idsL p cs↔∀c∈cs,c.ids p:=by
 induction cs with
 |nil=>simp[idsL]
 |cons c cs ih=>simp[idsL,ih]
theorem Qih{p:Id->Prop}{es:List (List AC)}:idsS p es↔∀e∈es,idsL p e:=by
 induction es with
 |nil=>simp[idsS]
 |cons c cs ih=>simp[idsS,ih]
mutual
theorem AC.ids_mono{p q:Id->Prop}(h:∀i,p i->q i):∀c:AC,c.ids p->c.ids q
 |.lit _,_=>by simp[AC.ids]
 |.any,_=>by simp[AC.ids]
 |.sl _ es,hc=>by simp only[AC.ids]at *;exact Q7d h es hc
 |.box cs,hc=>by simp only[AC.ids]at *;exact Q18 h cs hc
 |.ptr i _,hc=>by simp only[AC.ids]at *;exact h _ hc
 |.gs _ es i,hc=>by simp only[AC.ids]at *;exact⟨h _ hc.1,Q7d h es hc.2⟩
 |.arr i _ _ _ _,hc=>by simp only[AC.ids]at *;exact h _ hc
 |.mp i,hc=>by simp only[AC.ids]at *;exact h _ hc
 |.fn _ a b,hc=>by simp only[AC.ids]at *;exact⟨Q18 h a hc.1,Q18 h b hc.2⟩
 |.ifc _ _ cs,hc=>by simp only[AC.ids]at *;exact Q18 h cs hc
theorem Q7d{p q:Id->Prop}(h:∀i,p i->q i):∀es:List (List AC),idsS p es->idsS q es
 |[],_=>by simp[idsS]
 |e::es,hc=>by simp only[idsS]at *;exact⟨Q18 h e hc.1,Q7d h es hc.2⟩
theorem Q18{p q:Id->Prop}(h:∀i,p i->q i):∀cs:List AC,idsL p cs->idsL q cs
 |[],_=>by simp[idsL]
 |c::cs,hc=>by simp only[idsL]at *;exact⟨AC.ids_mono h c hc.1,Q18 h cs hc.2⟩
end
structure Chg (p:Id->Prop)(w:World)(C:Ctx)(w':World)(C':Ctx):Prop where
 cell:∀a,C.prot a->w'.cell? a=w.cell? a
 prot:∀a,C.prot a->C'.prot a
 id:∀i,p i->C.ok i->C'.ok i/\C'.blk i=C.blk i/\C'.tok i=C.tok i
mutual
theorem R.chg{p:Id->Prop}{w w':World}{C C':Ctx}(h:Chg p w C w' C'):∀(c:AC)(v:Value),c.ids p->R w C c v->R w' C' c v
 |.lit u,v,_,hr=>by simpa[R]using hr
 |.any,v,_,hr=>by simpa[R]using hr
 |.sl s es,v,hi,hr=>by
  simp only[AC.ids,R]at *;obtain⟨a,cap,rfl,hc,h2⟩:=hr;refine⟨a,cap,rfl,hc,?_⟩;rcases h2 with h2|⟨ad,rfl,hs,h2⟩
  ·exact .inl h2
  ·exact .inr ⟨ad,rfl,hs,RS.chg h s es ad hi h2⟩
 |.box cs,v,hi,hr=>by simp only[AC.ids,R]at *;obtain⟨ad,rfl,hs,h2⟩:=hr;exact⟨ad,rfl,hs,RL.chg h cs ad hi h2⟩
 |.ptr i off,v,hi,hr=>by simp only[AC.ids,R]at *;obtain⟨ho,rfl⟩:=hr;obtain⟨h1,h2,_⟩:=h.id i hi ho;exact⟨h1,by rw[h2]⟩
 |.gs s es i,v,hi,hr=>by
  simp only[AC.ids,R]at *;obtain⟨ho,hr⟩:=hr;obtain⟨h1,_,h3⟩:=h.id i hi.1 ho;refine⟨h1,?_⟩;rcases hr with ⟨rfl,he,ht⟩|⟨g,cap,rfl,hc,ht,h2⟩
  ·exact .inl ⟨rfl,he,h3.trans ht⟩
  ·exact .inr ⟨g,cap,rfl,hc,h3.trans ht,RS.chg h s es _ hi.2 h2⟩
 |.arr i s off len cap,v,hi,hr=>by simp only[AC.ids,R]at *;obtain⟨ho,rfl,hc⟩:=hr;obtain⟨h1,h2,_⟩:=h.id i hi ho;exact⟨h1,by rw[h2],hc⟩
 |.mp i,v,hi,hr=>by simp only[AC.ids,R]at *;obtain⟨ho,rfl⟩:=hr;obtain⟨h1,h2,_⟩:=h.id i hi ho;exact⟨h1,by rw[h2]⟩
 |.fn f first caps,v,hi,hr=>by simp only[AC.ids,R]at *;obtain⟨xs,ys,rfl,h1,h2⟩:=hr;exact⟨xs,ys,rfl,RV.chg h first xs hi.1 h1,RV.chg h caps ys hi.2 h2⟩
 |.ifc t ag cs,v,hi,hr=>by simp only[AC.ids,R]at *;obtain⟨xs,h1,h2⟩:=hr;exact⟨xs,RV.chg h cs xs hi h1,h2⟩
theorem RS.chg{p:Id->Prop}{w w':World}{C C':Ctx}(h:Chg p w C w' C')(s:Nat):∀(es:List (List AC))(ad:Addr),idsS p es->RS w C s es ad->RS w' C' s es ad
 |[],_,_,_=>by simp[RS]
 |e::es,ad,hi,hr=>by simp only[idsS,RS]at *;exact⟨hr.1,RL.chg h e ad hi.1 hr.2.1,RS.chg h s es _ hi.2 hr.2.2⟩
theorem RL.chg{p:Id->Prop}{w w':World}{C C':Ctx}(h:Chg p w C w' C'):∀(cs:List AC)(ad:Addr),idsL p cs->RL w C cs ad->RL w' C' cs ad
 |[],_,_,_=>by simp[RL]
 |c::cs,ad,hi,hr=>by simp only[idsL,RL]at *;obtain⟨⟨u,hu,hp,hr⟩,h2⟩:=hr;exact⟨⟨u,(h.cell _ hp).trans hu,h.prot _ hp,R.chg h c u hi.1 hr⟩,RL.chg h cs _ hi.2 h2⟩
theorem RV.chg{p:Id->Prop}{w w':World}{C C':Ctx}(h:Chg p w C w' C'):∀(cs:List AC)(vs:List Value),idsL p cs->RV w C cs vs->RV w' C' cs vs
 |[],_,_,hr=>by simpa[RV]using hr
 |c::cs,vs,hi,hr=>by simp only[idsL,RV]at *;obtain⟨u,us,rfl,h1,h2⟩:=hr;exact⟨u,us,rfl,R.chg h c u hi.1 h1,RV.chg h cs us hi.2 h2⟩
end
mutual
theorem R.idsOk{w:World}{C:Ctx}:∀(c:AC)(v:Value),R w C c v->c.ids C.ok
 |.lit u,v,_=>by simp[AC.ids]
 |.any,v,_=>by simp[AC.ids]
 |.sl s es,v,hr=>by
  simp only[AC.ids,R]at *;obtain⟨a,cap,rfl,hc,h2⟩:=hr;rcases h2 with rfl|⟨ad,rfl,hs,h2⟩
  ·simp[idsS]
  ·exact RS.idsOk s es ad h2
 |.box cs,v,hr=>by simp only[AC.ids,R]at *;obtain⟨ad,rfl,hs,h2⟩:=hr;exact RL.idsOk cs ad h2
 |.ptr i off,v,hr=>by simp only[AC.ids,R]at *;exact hr.1
 |.gs s es i,v,hr=>by
  simp only[AC.ids,R]at *;obtain⟨ho,hr⟩:=hr;refine⟨ho,?_⟩;rcases hr with ⟨_,rfl,_⟩|⟨g,cap,rfl,hc,ht,h2⟩
  ·simp[idsS]
  ·exact RS.idsOk s es _ h2
 |.arr i s off len cap,v,hr=>by simp only[AC.ids,R]at *;exact hr.1
 |.mp i,v,hr=>by simp only[AC.ids,R]at *;exact hr.1
 |.fn f first caps,v,hr=>by simp only[AC.ids,R]at *;obtain⟨xs,ys,rfl,h1,h2⟩:=hr;exact⟨RV.idsOk first xs h1,RV.idsOk caps ys h2⟩
 |.ifc t ag cs,v,hr=>by simp only[AC.ids,R]at *;obtain⟨xs,h1,h2⟩:=hr;exact RV.idsOk cs xs h1
theorem RS.idsOk{w:World}{C:Ctx}(s:Nat):∀(es:List (List AC))(ad:Addr),RS w C s es ad->idsS C.ok es
 |[],_,_=>by simp[idsS]
 |e::es,ad,hr=>by simp only[idsS,RS]at *;exact⟨RL.idsOk e ad hr.2.1,RS.idsOk s es _ hr.2.2⟩
theorem RL.idsOk{w:World}{C:Ctx}:∀(cs:List AC)(ad:Addr),RL w C cs ad->idsL C.ok cs
 |[],_,_=>by simp[idsL]
 |c::cs,ad,hr=>by simp only[idsL,RL]at *;obtain⟨⟨u,hu,hp,hr⟩,h2⟩:=hr;exact⟨R.idsOk c u hr,RL.idsOk cs _ h2⟩
theorem RV.idsOk{w:World}{C:Ctx}:∀(cs:List AC)(vs:List Value),RV w C cs vs->idsL C.ok cs
 |[],_,_=>by simp[idsL]
 |c::cs,vs,hr=>by simp only[idsL,RV]at *;obtain⟨u,us,rfl,h1,h2⟩:=hr;exact⟨R.idsOk c u h1,RV.idsOk cs us h2⟩
end
theorem R.one{C:Ctx}{c:AC}(h:R w C c v):v.oneCell'=true:=by
 cases c <;> simp only[R]at h
 case lit u=>rw[h.1];exact h.2
 case any=>exact h
 case sl s es=>obtain⟨a,cap,rfl,_⟩:=h;rfl
 case box cs=>obtain⟨ad,rfl,_⟩:=h;rfl
 case ptr i off=>rw[h.2];rfl
 case gs s es i=>rcases h with ⟨_,⟨rfl,_⟩|⟨g,cap,rfl,_⟩⟩ <;> rfl
 case arr i s off len cap=>rw[h.2.1];rfl
 case mp i=>rw[h.2];rfl
 case fn f a b=>obtain⟨xs,ys,rfl,_⟩:=h;rfl
 case ifc t ag cs=>obtain⟨xs,_,⟨_,rfl⟩|⟨_,x,_,rfl⟩⟩:=h <;> rfl
theorem RV.one{w:World}{C:Ctx}:∀{cs:List AC}{xs:List Value},RV w C cs xs->∀x∈xs,x.oneCell'=true
 |[],xs,h,x,hx=>by simp only[RV]at h;subst h;cases hx
 |c::cs,xs,h,x,hx=>by
  simp only[RV]at h;obtain⟨u,us,rfl,h1,h2⟩:=h;rcases Z1p.1 hx with rfl|hx
  ·exact h1.one
  ·exact RV.one h2 x hx
open Go.RowKit (Below)
mutual
def RF (w:World)(C:Ctx):FV->Value->Prop
 |.bot,_=>True
 |.one c,v=>R w C c v
 |.agg cs,v=>∃xs:List Value,v=.agg xs.toArray/\RV w C cs xs
 |.tup vs,v=>∃xs:List Value,v=.tuple xs.toArray/\RFs w C vs xs
def RFs (w:World)(C:Ctx):List FV->List Value->Prop
 |[],xs=>xs=[]
 |v::vs,xs=>∃u us,xs=u::us/\RF w C v u/\RFs w C vs us
end
mutual
def FV.ids (p:Id->Prop):FV->Prop
 |.bot=>True
 |.one c=>c.ids p
 |.agg cs=>idsL p cs
 |.tup vs=>idsF p vs
def idsF (p:Id->Prop):List FV->Prop
 |[]=>True
 |v::vs=>v.ids p/\idsF p vs
end
mutual
theorem RF.chg{p:Id->Prop}{w w':World}{C C':Ctx}(h:Chg p w C w' C'):∀(x:FV)(v:Value),x.ids p->RF w C x v->RF w' C' x v
 |.bot,v,_,_=>by simp[RF]
 |.one c,v,hi,hr=>by simp only[FV.ids,RF]at *;exact R.chg h c v hi hr
 |.agg cs,v,hi,hr=>by simp only[FV.ids,RF]at *;obtain⟨xs,rfl,h2⟩:=hr;exact⟨xs,rfl,RV.chg h cs xs hi h2⟩
 |.tup vs,v,hi,hr=>by simp only[FV.ids,RF]at *;obtain⟨xs,rfl,h2⟩:=hr;exact⟨xs,rfl,RFs.chg h vs xs hi h2⟩
theorem RFs.chg{p:Id->Prop}{w w':World}{C C':Ctx}(h:Chg p w C w' C'):∀(vs:List FV)(xs:List Value),idsF p vs->RFs w C vs xs->RFs w' C' vs xs
 |[],xs,_,hr=>by simpa[RFs]using hr
 |v::vs,xs,hi,hr=>by simp only[idsF,RFs]at *;obtain⟨u,us,rfl,h1,h2⟩:=hr;exact⟨u,us,rfl,RF.chg h v u hi.1 h1,RFs.chg h vs us hi.2 h2⟩
end
mutual
theorem ids_true:∀c:AC,c.ids (fun _=>True)
 |.lit _=>by simp[AC.ids]
 |.any=>by simp[AC.ids]
 |.sl _ es=>by simp only[AC.ids];exact Q7c es
 |.box cs=>by simp only[AC.ids];exact Q2h cs
 |.ptr i _=>by simp[AC.ids]
 |.gs _ es i=>by simp only[AC.ids];exact⟨trivial,Q7c es⟩
 |.arr i _ _ _ _=>by simp[AC.ids]
 |.mp i=>by simp[AC.ids]
 |.fn _ a b=>by simp only[AC.ids];exact⟨Q2h a,Q2h b⟩
 |.ifc _ _ cs=>by simp only[AC.ids];exact Q2h cs
theorem Q7c:∀es:List (List AC),idsS (fun _=>True) es
 |[]=>by simp[idsS]
 |e::es=>by simp only[idsS];exact⟨Q2h e,Q7c es⟩
theorem Q2h:∀cs:List AC,idsL (fun _=>True) cs
 |[]=>by simp[idsL]
 |c::cs=>by simp only[idsL];exact⟨ids_true c,Q2h cs⟩
end
mutual
theorem FV.ids_true:∀x:FV,x.ids (fun _=>True)
 |.bot=>by simp[FV.ids]
 |.one c=>by simp only[FV.ids];exact Abs.ids_true c
 |.agg cs=>by simp only[FV.ids];exact Q2h cs
 |.tup vs=>by simp only[FV.ids];exact Qew vs
theorem Qew:∀vs:List FV,idsF (fun _=>True) vs
 |[]=>by simp[idsF]
 |v::vs=>by simp only[idsF];exact⟨FV.ids_true v,Qew vs⟩
end
abbrev Ext (w:World)(C:Ctx)(w':World)(C':Ctx):Prop:=Chg (fun _=>True) w C w' C'
theorem Chg.refl(p:Id->Prop)(w:World)(C:Ctx):Chg p w C w C:=⟨fun _ _=>rfl,fun _ h=>h,fun _ _ h=>⟨h,rfl,rfl⟩⟩
theorem Chg.trans{p:Id->Prop}{w1 w2 w3:World}{C1 C2 C3:Ctx}(h:Chg p w1 C1 w2 C2)(k:Chg p w2 C2 w3 C3):Chg p w1 C1 w3 C3:=
 ⟨fun a ha=>(k.cell a (h.prot a ha)).trans (h.cell a ha),fun a ha=>k.prot a (h.prot a ha),fun i hi ho=>by obtain⟨h1,h2,h3⟩:=h.id i hi ho;obtain⟨k1,k2,k3⟩:=k.id i hi h1;exact⟨k1,k2.trans h2,k3.trans h3⟩⟩
theorem Chg.weaken{p q:Id->Prop}{C C':Ctx}(h:Chg p w C w' C')(hq:∀i,q i->p i):Chg q w C w' C':=
 ⟨h.cell,h.prot,fun i hi ho=>h.id i (hq i hi) ho⟩
theorem RF.ext{C C':Ctx}(h:Ext w C w' C'){x:FV}(hr:RF w C x v):RF w' C' x v:=RF.chg h x v (FV.ids_true x) hr
theorem R.ext{C C':Ctx}(h:Ext w C w' C'){x:AC}(hr:R w C x v):R w' C' x v:=R.chg h x v (ids_true x) hr
theorem RV.ext{C C':Ctx}(h:Ext w C w' C'){x:List AC}{v:List Value}(hr:RV w C x v):RV w' C' x v:=RV.chg h x v (Q2h x) hr
structure Stp (F:Nat->Prop)(w w':World):Prop where
 os:w'.os=w.os
 tape:w'.tape=w.tape
 output:w'.output=w.output
 size:w.heap.size<=w'.heap.size
 block:∀k,F k->w'.heap[k]?=w.heap[k]?
 frozen:∀a:Addr,a.block < w.heap.size->w'.frozen? a=w.frozen? a
theorem Stp.refl(F:Nat->Prop)(w:World):Stp F w w:=⟨rfl,rfl,rfl,Z30 _,fun _ _=>rfl,fun _ _=>rfl⟩
theorem Stp.trans{F:Nat->Prop}{a b c:World}(h:Stp F a b)(k:Stp F b c):Stp F a c:=
 ⟨k.os.trans h.os,k.tape.trans h.tape,k.output.trans h.output,Z31 h.size k.size,fun i hi=>(k.block i hi).trans (h.block i hi),fun x hx=>(k.frozen x (Z32 hx h.size)).trans (h.frozen x hx)⟩
theorem Stp.mono{a b:World}(h:Stp F a b)(hF:∀k,F' k->F k):Stp F' a b:=⟨h.os,h.tape,h.output,h.size,fun i hi=>h.block i (hF i hi),h.frozen⟩
theorem Qqi(hF:∀k,F k->k < w.heap.size)(o:Obj)(ho:∀c t lo hi,o=.cells c t (lo,hi)->lo=0/\hi=0):Stp F w (w.alloc o) :=
 ⟨rfl, rfl, rfl, by simp, fun k hk => heap_alloc_old w o k (hF k hk), fun a _ => by
  by_cases h:a.block=w.heap.size
  ·have h1:(w.alloc o).heap[a.block]?=some o:=by rw[h];exact heap_alloc_new w _
   have h2:w.heap[a.block]?=none:=by rw[h];simp
   simp only[World.frozen?,h1,h2];cases o with
   |cells c t fr=>
    obtain⟨lo,hi⟩:=fr;obtain⟨rfl,rfl⟩:=ho c t lo hi rfl;simp
   |_=>rfl
  ·exact World.frozen?_alloc_old _ _ _ h⟩
theorem Stp.alloc{F:Nat->Prop}{w:World}(hF:∀k,F k->k < w.heap.size)(c:Array Value)(t:TypeId):Stp F w (w.alloc (.cells c t)):=
 Qqi hF _ (by intro c t lo hi h;cases h;exact⟨rfl,rfl⟩)
theorem Stp.drew(F:Nat->Prop)(w:World):Stp F w w.drew:=⟨rfl,rfl,rfl,Z30 _,fun _ _=>rfl,fun _ _=>rfl⟩
inductive AObj where
 |cells (cs:List AC)
 |map (ck:Nat) (es:List (Nat×Value×FV))
 |iter (m:Id) (since:Nat) (seen:List Nat) (last:Nat)
 |sit (s:ByteArray) (pos:Nat)
 |tok (e:TypeId) (s used:Nat)
 |dead
structure St where
 n:Nat
 lo:List (Nat×AObj)
 ou:Nat->Option AObj
theorem Q06{k:Nat}(h:j≠k):Nat.beq j k=false:=by
 cases hb:Nat.beq j k
 ·rfl
 ·exact absurd (Z2v hb) h
theorem Q4f(k:Nat):Nat.beq k k=true:=by simp
def lookL (k:Nat):List (Nat×AObj)->Option AObj
 |[]=>none
 |(j,o)::r=>bif Nat.beq j k then some o else lookL k r
def St.get (σ:St):Id->Option AObj
 |.l k=>lookL k σ.lo
 |.o k=>σ.ou k
def St.set (σ:St):Id->AObj->St
 |.l k,o=>{ σ with lo:=(k,o)::σ.lo }
 |.o k,o=>{ σ with ou:=fun j=>bif Nat.beq j k then some o else σ.ou j }
theorem Qaa(k:Nat)(o:AObj)(r:List (Nat×AObj)):lookL k ((k,o)::r)=some o:=by simp[lookL]
theorem Qd0{k:Nat}(h:j≠k)(o:AObj)(r:List (Nat×AObj)):lookL k ((j,o)::r)=lookL k r:=by have:Nat.beq j k=false:=Q06 h;simp[lookL,this]
theorem Qqj(σ:St)(i:Id)(o:AObj):(σ.set i o).get i=some o:=by cases i <;> simp[St.get,St.set,lookL]
theorem Qqk(σ:St){i j:Id}(h:i≠j)(o:AObj):(σ.set i o).get j=σ.get j:=by
 cases i with
 |l k=>cases j with
  |l k'=>
   have:Nat.beq k k'=false:=Q06 fun e=>h (by rw[e]);simp[St.get,St.set,lookL,this]
  |o k'=>simp[St.get,St.set]
 |o k=>cases j with
  |l k'=>simp[St.get,St.set]
  |o k'=>
   have:Nat.beq k' k=false:=Q06 fun e=>h (by rw[e]);simp[St.get,St.set,this]
theorem Qql(σ:St)(i:Id)(o:AObj):(σ.set i o).n=σ.n:=by cases i <;> rfl
def AObj.block (C:Ctx)(i:Id):AObj->Option Nat
 |.cells _|.map _ _|.iter _ _ _ _|.sit _ _=>some (C.blk i)
 |.tok _ _ _=>(C.tok i).map (·.1)
 |.dead=>none
def entV (k:Value)(e:MapEntry):Value:=if k.oneCell'=true then e.val else .tuple #[e.key,e.val]
theorem Q7j{k:Value}(e:MapEntry)(h:k.oneCell'=true):entV k e=e.val:=if_pos h
def RM (w:World)(C:Ctx):List (Nat×Value×FV)->List MapEntry->Prop
 |[],es=>es=[]
 |(b,k,cs)::r,es=>∃e es',es=e::es'/\((k.oneCell'=true->e.key=k)/\e.born=b)/\RF w C cs (entV k e)/\RM w C r es'
theorem RM.chg{p:Id->Prop}{w w':World}{C C':Ctx}(h:Chg p w C w' C'):∀(r:List (Nat×Value×FV))(es:List MapEntry),(∀x∈r,x.2.2.ids p)->RM w C r es->RM w' C' r es
 |[],_,_,hr=>by simpa[RM]using hr
 |(b,k,cs)::r,es,hi,hr=>by simp only[RM]at *;obtain⟨e,es',rfl,hk,h1,h2⟩:=hr;exact⟨e,es',rfl,hk,RF.chg h cs _ (hi (b,k,cs) zsy) h1,RM.chg h r es' (fun x hx=>hi x (by simp[hx])) h2⟩
def ObjOk (w:World)(C:Ctx)(F:Nat->Prop)(i:Id):AObj->Prop
 |.cells cs=>∃(xs:List Value) (T:TypeId),w.heap[C.blk i]?=some (.cells xs.toArray T (0,0))/\¬F (C.blk i)/\RV w C cs xs/\∀a:Addr,a.block=C.blk i->¬C.prot a
 |.map ck es=>∃(ents:List MapEntry),w.heap[C.blk i]?=some (.map ents.toArray ck)/\¬F (C.blk i)/\RM w C es ents
 |.iter m since seen last=>w.heap[C.blk i]?=some (.mapIter (some (C.blk m)) since seen.toArray last)/\¬F (C.blk i)/\C.ok m
 |.sit s pos=>w.heap[C.blk i]?=some (.stringIter s pos)/\¬F (C.blk i)
 |.tok e s used=>match C.tok i with
  |none=>used=0
  |some (g,cap)=>∃xs:Array Value,w.heap[g]?=some (.cells xs e (0,0))/\¬F g/\xs.size=cap * s/\used<=cap/\cap<=maxLen/\∀a:Addr,a.block=g->C.prot a->a.off < used * s
 |.dead=>True
structure RG (w:World)(C:Ctx)(cs:List AC)(g:Nat):Prop where
 rl:RL w C cs ⟨g,0,none⟩
 fin:w.cell? ⟨g,cs.length,none⟩=none
 pr:C.prot ⟨g,cs.length,none⟩
theorem RG.chg{p:Id->Prop}{w w':World}{C C':Ctx}(h:Chg p w C w' C'){cs:List AC}{g:Nat}(hi:idsL p cs)(hr:RG w C cs g):RG w' C' cs g:=
 ⟨RL.chg h cs _ hi hr.rl,(h.cell _ hr.pr).trans hr.fin,h.prot _ hr.pr⟩
theorem RG.ext{C C':Ctx}(h:Ext w C w' C'){cs:List AC}(hr:RG w C cs g):RG w' C' cs g:=hr.chg h (Q2h cs)
structure Inv (Γ:List (Nat×List AC))(F:Nat->Prop)(w:World)(C:Ctx)(σ:St):Prop where
 base:∀k,F k->k < w.heap.size
 next:C.nl=σ.n
 glob:∀g cs,(g,cs)∈Γ->RG w C cs g
 prot:∀a,C.prot a->a.block < w.heap.size
 obj:∀i o,σ.get i=some o->C.ok i/\ObjOk w C F i o
 inj:∀i j o o' g,σ.get i=some o->σ.get j=some o'->o.block C i=some g->o'.block C j=some g->i=j
abbrev Fr:=List (Nat×FV)
def Fr.get (k:Nat):Fr->Option FV
 |[]=>none
 |(j,v)::r=>bif Nat.beq j k then some v else Fr.get k r
def FrOk (w:World)(C:Ctx)(N:Nat)(fr:Fr)(tmps:Array Value):Prop:=
 tmps.size=N/\∀k x,Fr.get k fr=some x->∃u,tmps[k]?=some u/\RF w C x u
theorem FrOk.ext{w w':World}{C C':Ctx}{N:Nat}{fr:Fr}{tmps:Array Value}(h:Ext w C w' C')(hf:FrOk w C N fr tmps):FrOk w' C' N fr tmps:=
 ⟨hf.1,fun k x hk=>let ⟨u,hu,hr⟩:=hf.2 k x hk;⟨u,hu,hr.ext h⟩⟩
theorem FrOk.put{C:Ctx}{fr:Fr}(hf:FrOk w C N fr tmps){x:FV}(hd:d < N)(hr:RF w C x u):
  FrOk w C N ((d,x)::fr) (tmps.setIfInBounds d u):=by
 refine⟨by simp[hf.1],fun k y hk=>?_⟩;simp only[Fr.get]at hk;by_cases e:d=k
 ·subst e;simp at hk;subst hk;exact⟨u,by simp[hf.1,hd],hr⟩
 ·have hb:Nat.beq d k=false:=Q06 e;rw[hb]at hk;obtain⟨u',hu',hr'⟩:=hf.2 k y hk;exact⟨u',by rw[Qz9 e];exact hu',hr'⟩
end Go.Abs
namespace Go.Abs
open Go.RowKit (Below)
structure TI where
 size:Nat
 bytes:Nat
 agg:Bool
 zero:List Value
 kind:Nat
 flds:List (Nat×TypeId)
 elem:TypeId
 len:Nat
def aggOf:TypeDesc->Bool
 |.struct _=>true
 |.array _ _=>true
 |_=>false
def kindOf (ti:TI)(d:TypeDesc):Prop:=
 match ti.kind with
 |1=>∃fs:Array Field,d=.struct fs/\fs.toList.map (fun f=>(f.offset,f.type))=ti.flds
 |2=>d=.slice ti.elem
 |3=>d=.array ti.len ti.elem
 |4=>∃k,d=.map k ti.elem
 |5=>d=.string
 |6=>d=.pointer ti.elem
 |_=>True
structure TIOk (P:Program)(t:TypeId)(ti:TI):Prop where
 ex:∃i d z,P.info? t=some i/\P.underlying t=some d/\i.size=ti.size/\i.bytes=ti.bytes/\i.zero=some z/\z.cells.toList=ti.zero/\aggOf d=ti.agg/\kindOf ti d
 one:ti.zero.all Value.oneCell'=true
 len:ti.zero.length=ti.size
 pos:ti.size≠0
abbrev Tab:=List (TypeId×TI)
def Tab.get (t:TypeId):Tab->Option TI
 |[]=>none
 |(j,i)::r=>bif Nat.beq j t then some i else Tab.get t r
def TabOk (P:Program)(T:Tab):Prop:=∀t ti,Tab.get t T=some ti->TIOk P t ti
theorem TabOk.of{T:Tab}(h:∀x∈T,TIOk P x.1 x.2):TabOk P T:=by
 intro t ti hg
 induction T with
 |nil=>cases hg
 |cons x r ih=>
  obtain⟨j,i⟩:=x;simp only[Tab.get]at hg;by_cases e:Nat.beq j t=true
  ·rw[e]at hg;obtain rfl:j=t:=Z2v e;simp at hg;subst hg;exact h (j,i) zsy
  ·have e':Nat.beq j t=false:=by cases hb:Nat.beq j t;rfl;exact absurd hb e
   rw[e']at hg;exact ih (fun x hx=>h x (by simp[hx])) hg
section
variable {P:Program}{t:TypeId}{ti:TI}(w:World)
theorem TIOk.run_isAgg(h:TIOk P t ti):(isAgg t).run P w=.ok ti.agg w:=by obtain⟨i,d,z,h1,h2,h3,h4,h5,h6,h7,h8⟩:=h.ex;simp only[isAgg,Z3s,run_underlying h2,Z3r];rw[←h7];cases d <;> rfl
theorem TIOk.run_sizeOf(h:TIOk P t ti):(sizeOf t).run P w=.ok ti.size w:=by obtain⟨i,d,z,h1,h2,h3,h4,h5,h6,h7,h8⟩:=h.ex;simp[sizeOf,typeInfo,h1,h3]
theorem TIOk.run_zero(h:TIOk P t ti):∃z:Value,z.cells.toList=ti.zero/\(zeroValue t).run P w=.ok z w:=by obtain⟨i,d,z,h1,h2,h3,h4,h5,h6,h7,h8⟩:=h.ex;exact⟨z,h6,by simp[zeroValue,typeInfo,h1,h5]⟩
theorem TIOk.run_struct(h:TIOk P t ti)(hk:ti.kind=1):∃fs:Array Field,fs.toList.map (fun f=>(f.offset,f.type))=ti.flds/\(underlying t).run P w=.ok (.struct fs) w:=by obtain⟨i,d,z,h1,h2,h3,h4,h5,h6,h7,h8⟩:=h.ex;simp only[kindOf,hk]at h8;obtain⟨fs,rfl,hf⟩:=h8;exact⟨fs,hf,run_underlying h2 w⟩
theorem TIOk.slice(h:TIOk P t ti)(hk:ti.kind=2):P.underlying t=some (.slice ti.elem):=by obtain⟨i,d,z,h1,h2,h3,h4,h5,h6,h7,h8⟩:=h.ex;simp only[kindOf,hk]at h8;rw[h2,h8]
end
theorem Qqm(h:ad.spot=none)(n:Nat):ad.add n=⟨ad.block,ad.off+n,none⟩:=by
 unfold Addr.add;split
 ·rename_i e;subst e;cases ad;simp_all
 ·rfl
def Held (w:World)(xs:List Value)(ad:Addr):Prop:=∀j v,xs[j]?=some v->w.cell? (ad.add j)=some v
theorem RL.held{w:World}{C:Ctx}:∀(cs:List AC)(ad:Addr),ad.spot=none->RL w C cs ad->∃xs:List Value,RV w C cs xs/\xs.length=cs.length/\Held w xs ad
 |[],ad,_,_=>⟨[],by simp[RV],rfl,fun j v h=>by simp at h⟩
 |c::cs,ad,hs,h=>by
  simp only[RL]at h;obtain⟨⟨u,hu,hp,hr⟩,h2⟩:=h;obtain⟨xs,h3,h4,h5⟩:=RL.held cs ⟨ad.block,ad.off+1,none⟩ rfl h2;refine⟨u::xs,⟨u,xs,rfl,hr,h3⟩,by simp[h4],fun j v hj=>?_⟩;rw[Qqm hs];cases j with
  |zero=>simp at hj;subst hj;rw[←hu];cases ad;simp_all
  |succ j=>
   have:=h5 j v (by simpa using hj);rw[Qqm rfl]at this;rw[←this];congr 2;simp;omega
theorem RV.length{w:World}{C:Ctx}:∀{cs:List AC}{xs:List Value},RV w C cs xs->xs.length=cs.length
 |[],xs,h=>by simp only[RV]at h;simp[h]
 |c::cs,xs,h=>by simp only[RV]at h;obtain⟨u,us,rfl,h1,h2⟩:=h;simp[RV.length h2]
theorem RV.append{w:World}{C:Ctx}:∀{cs:List AC}{xs:List Value}{ds:List AC}{ys:List Value},RV w C cs xs->RV w C ds ys->RV w C (cs++ds) (xs++ys)
 |[],xs,ds,ys,h,k=>by simp only[RV]at h;simpa[h]using k
 |c::cs,xs,ds,ys,h,k=>by simp only[RV]at h;obtain⟨u,us,rfl,h1,h2⟩:=h;exact⟨u,us++ys,rfl,h1,RV.append h2 k⟩
theorem RV.drop{w:World}{C:Ctx}:∀{cs:List AC}{xs:List Value}(n:Nat),RV w C cs xs->RV w C (cs.drop n) (xs.drop n)
 |cs,xs,0,h=>by simpa using h
 |[],xs,n+1,h=>by simp only[RV]at h;simp[h,RV]
 |c::cs,xs,n+1,h=>by simp only[RV]at h;obtain⟨u,us,rfl,h1,h2⟩:=h;simpa using RV.drop n h2
theorem RV.take{w:World}{C:Ctx}:∀{cs:List AC}{xs:List Value}(n:Nat),RV w C cs xs->RV w C (cs.take n) (xs.take n)
 |cs,xs,0,h=>by simp[RV]
 |[],xs,n+1,h=>by simp only[RV]at h;simp[h,RV]
 |c::cs,xs,n+1,h=>by simp only[RV]at h;obtain⟨u,us,rfl,h1,h2⟩:=h;exact⟨u,us.take n,by simp,h1,RV.take n h2⟩
theorem RL.drop{w:World}{C:Ctx}:∀{cs:List AC}{ad:Addr}(n:Nat),ad.spot=none->RL w C cs ad->RL w C (cs.drop n) ⟨ad.block,ad.off+n,none⟩
 |cs,ad,0,hs,h=>by cases ad;simp_all
 |[],ad,n+1,_,h=>by simp[RL]
 |c::cs,ad,n+1,hs,h=>by simp only[RL]at h;have:=RL.drop (ad:=⟨ad.block,ad.off+1,none⟩) n rfl h.2;simpa[Z2p,Z2q 1 n]using this
theorem RL.take{w:World}{C:Ctx}:∀{cs:List AC}{ad:Addr}(n:Nat),RL w C cs ad->RL w C (cs.take n) ad
 |cs,ad,0,h=>by simp[RL]
 |[],ad,n+1,h=>by simp[RL]
 |c::cs,ad,n+1,h=>by simp only[RL]at h;exact⟨h.1,RL.take n h.2⟩
section
variable {P:Program}{t:TypeId}{ti:TI}{w:World}
def valOf (agg:Bool)(xs:List Value):Value:=if agg then .agg xs.toArray else xs.headD undef
theorem Q55(h:TIOk P t ti)(ha:ti.agg=false->ti.size=1)(hh:Held w xs ad)(hl:xs.length=ti.size):
  (loadVar t ad).run P w=.ok (valOf ti.agg xs) w:=by
 simp only[loadVar,Z3s,h.run_isAgg,Z3r];cases hg:ti.agg with
 |true=>
  have hc:=run_loadCells_list (P:=P) w ad xs hh;rw[hl]at hc;simp[h.run_sizeOf,hc,valOf]
 |false=>
  have h1:=ha hg;rw[h1]at hl
  match xs,hl with
  |[x],_=>
   have:=hh 0 x rfl;rw[show ad.add 0=ad from by simp[Addr.add]]at this;simp[run_load,this,valOf]
end
theorem run_storeVar_row{ti:TI}(h:TIOk P t ti)(hg:w.heap[g]?=some (.cells xs.toArray T (0,0)))
  (hv:v.cells.toList.length=ti.size) (h1:∀x∈v.cells.toList,x.oneCell'=true) (hl:off+ti.size<=xs.length):
  (storeVar t ⟨g,off,none⟩ v).run P w=.ok () (w.setRow g (xs.take off++v.cells.toList++xs.drop (off+ti.size)).toArray):=by
 have hs:v.cells.size=ti.size:=by simpa using hv
 have:=run_storeCells_at P g off T v.cells.toList 0 xs.toArray w hg (by simpa[hv]using hl) h1;simp only[storeVar,Z3s,h.run_sizeOf,Z3r,hs];simp only[ne_eq,not_true_eq_false,↓reduceIte];rw[this];simp[hv]
end Go.Abs
namespace Go.Abs
open Go.RowKit (Below)
section
variable {Γ:List (Nat×List AC)}{F:Nat->Prop}{w:World}{C:Ctx}{σ:St}
theorem RS.ext{w:World}{C C':Ctx}(h:Ext w C w' C'){s:Nat}{x:List (List AC)}{v:Addr}(hr:RS w C s x v):RS w' C' s x v:=RS.chg h s x v (Q7c x) hr
theorem RM.ext{w:World}{C C':Ctx}(h:Ext w C w' C'){r:List (Nat×Value×FV)}{es:List MapEntry}(hr:RM w C r es):RM w' C' r es:=RM.chg h r es (fun _ _=>FV.ids_true _) hr
theorem Q2w(w:World)(o:Obj){k:Nat}(h:w.heap[k]?=some x):(w.alloc o).heap[k]?=some x:=by
 rw[heap_alloc_old w o k]
 ·exact h
 ·rcases Z33 k w.heap.size with h1|h1
  ·exact h1
  ·rw[Array.getElem?_eq_none h1]at h;cases h
theorem Q0f{w:World}{k:Nat}(h:w.heap[k]?=some x):k < w.heap.size:=by
 rcases Z33 k w.heap.size with h1|h1
 ·exact h1
 ·rw[Array.getElem?_eq_none h1]at h;cases h
theorem ObjOk.keep{i:Id}{o:AObj}{C':Ctx}(h:ObjOk w C F i o)(he:Ext w C w' C')(hi:C.ok i)
  (hb:∀g x,o.block C i=some g->w.heap[g]?=some x->w'.heap[g]?=some x) (hp:∀a:Addr,o.block C i=some a.block->a.block < w.heap.size->C'.prot a->C.prot a):ObjOk w' C' F i o:=by
 obtain⟨_,hblk,htok⟩:=he.id i trivial hi;cases o with
 |cells cs=>
  obtain⟨xs,T,h1,h2,h3,h4⟩:=h;refine⟨xs,T,?_,by rw[hblk];exact h2,h3.ext he,fun a ha hpa=>h4 a (by rw[ha,hblk]) (hp a ?_ ?_ hpa)⟩
  ·rw[hblk];exact hb _ _ rfl h1
  ·rw[ha,hblk];rfl
  ·rw[ha,hblk];exact Q0f h1
 |map ck es=>
  obtain⟨ents,h1,h2,h3⟩:=h;exact⟨ents,by rw[hblk];exact hb _ _ rfl h1,by rw[hblk];exact h2,h3.ext he⟩
 |iter m since seen last=>
  obtain⟨h1,h2,h3⟩:=h;obtain⟨m1,m2,_⟩:=he.id m trivial h3;exact⟨by rw[hblk,m2];exact hb _ _ rfl h1,by rw[hblk];exact h2,m1⟩
 |sit s pos=>
  obtain⟨h1,h2⟩:=h;exact⟨by rw[hblk];exact hb _ _ rfl h1,by rw[hblk];exact h2⟩
 |tok e s used=>
  simp only[ObjOk,htok]at *;cases ht:C.tok i with
  |none=>rw[ht]at h;exact h
  |some gc=>
   obtain⟨g,cap⟩:=gc;simp only[ht]at h ⊢;obtain⟨xs,h1,h2,h3,h4,h6,h5⟩:=h;refine⟨xs,hb g _ (by simp[AObj.block,ht]) h1,h2,h3,h4,h6,fun a ha hpa=>h5 a ha (hp a ?_ ?_ hpa)⟩
   ·simp[AObj.block,ht,ha]
   ·rw[ha];exact Q0f h1
 |dead=>trivial
theorem Qqn{i:Id}{o:AObj}(h:ObjOk w C F i o)(hg:o.block C i=some g):¬F g/\g < w.heap.size:=by
 cases o with
 |cells cs=>
  obtain⟨xs,T,h1,h2,h3,h4⟩:=h;obtain rfl:C.blk i=g:=by simpa[AObj.block]using hg
  exact⟨h2,Q0f h1⟩
 |map ck es=>
  obtain⟨ents,h1,h2,h3⟩:=h;obtain rfl:C.blk i=g:=by simpa[AObj.block]using hg
  exact⟨h2,Q0f h1⟩
 |iter m since seen last=>
  obtain⟨h1,h2,h3⟩:=h;obtain rfl:C.blk i=g:=by simpa[AObj.block]using hg
  exact⟨h2,Q0f h1⟩
 |sit s pos=>
  obtain⟨h1,h2⟩:=h;obtain rfl:C.blk i=g:=by simpa[AObj.block]using hg
  exact⟨h2,Q0f h1⟩
 |tok e s used=>
  simp only[ObjOk]at h;cases ht:C.tok i with
  |none=>simp[AObj.block,ht]at hg
  |some gc=>
   obtain⟨g',cap⟩:=gc;simp only[ht]at h;obtain⟨xs,h1,h2,h3,h4,h6,h5⟩:=h;obtain rfl:g'=g:=by simpa[AObj.block,ht]using hg
   exact⟨h2,Q0f h1⟩
 |dead=>simp[AObj.block]at hg
theorem Qqo{i:Id}{o:AObj}{C':Ctx}(he:Ext w C w' C')(hi:C.ok i):o.block C' i=o.block C i:=by obtain⟨_,hblk,htok⟩:=he.id i trivial hi;cases o <;> simp[AObj.block,hblk,htok]
def Ctx.more (C:Ctx)(g:Nat)(tk:Option (Nat×Nat)):Ctx:=
 { C with nl:=C.nl+1,phi:=fun i=>if i=.l C.nl then g else C.phi i,tk:=fun i=>if i=.l C.nl then tk else C.tk i }
theorem Qqp(C:Ctx)(g:Nat)(tk:Option (Nat×Nat)){i:Id}(h:C.ok i):(C.more g tk).ok i/\(C.more g tk).blk i=C.blk i/\(C.more g tk).tok i=C.tok i:=by
 have hne:i≠.l C.nl:=by rintro rfl;simp[Ctx.ok]at h
 refine⟨?_,by simp[Ctx.blk,Ctx.more,hne],by simp[Ctx.tok,Ctx.more,hne]⟩;cases i with
 |l k=>simp only[Ctx.ok,Ctx.more]at *;omega
 |o k=>simp only[Ctx.ok,Ctx.more]at *;omega
theorem Qqq(C:Ctx)(g:Nat)(tk:Option (Nat×Nat))(h:C.nl=n):(C.more g tk).ok (.l n)/\(C.more g tk).blk (.l n)=g/\(C.more g tk).tok (.l n)=tk:=by subst h;exact⟨by simp[Ctx.ok,Ctx.more],by simp[Ctx.blk,Ctx.more],by simp[Ctx.tok,Ctx.more]⟩
def St.push (σ:St)(o:AObj):St:=⟨σ.n+1,(σ.n,o)::σ.lo,σ.ou⟩
theorem St.get_push(σ:St)(o:AObj)(i:Id):(σ.push o).get i=if i=.l σ.n then some o else σ.get i:=by
 cases i with
 |l k=>
  by_cases e:σ.n=k
  ·subst e;simp[St.get,St.push,lookL]
  ·have:¬(Id.l k=Id.l σ.n):=fun h=>e (by injection h with h;exact h.symm);simp[St.get,St.push,lookL,Q06 e,this]
 |o k=>simp[St.get,St.push]
theorem Inv.addObj(hi:Inv Γ F w C σ){C':Ctx}{o:AObj}{σ':St}{d:Id}(hget:∀i,σ'.get i=if i=d then some o else σ.get i)(he:Ext w C w' C')(Qwe:C'.nl=σ'.n)(hb:∀k,F k->k < w'.heap.size)
  (Qvm:∀a,C'.prot a->a.block < w'.heap.size)
  (hkeep:∀i p,σ.get i=some p->∀g x,p.block C i=some g->w.heap[g]?=some x->w'.heap[g]?=some x)
  (hkp:∀i p,σ.get i=some p->∀a:Addr,p.block C i=some a.block->a.block < w.heap.size->C'.prot a->C.prot a)
  (hok:C'.ok d) (hnew:ObjOk w' C' F d o) (Qwn:∀i p g,σ.get i=some p->p.block C i=some g->o.block C' d≠some g):
  Inv Γ F w' C' σ':=by
 refine⟨hb,Qwe,fun g cs h=>(hi.glob g cs h).ext he,Qvm,fun i p h=>?_,fun i j p q g h1 h2 h3 h4=>?_⟩
 ·rw[hget]at h;split at h
  ·rename_i e;subst e;injection h with h;subst h;exact⟨hok,hnew⟩
  ·obtain⟨h1,h2⟩:=hi.obj i p h;exact⟨(he.id i trivial h1).1,h2.keep he h1 (hkeep i p h) (hkp i p h)⟩
 ·rw[hget]at h1 h2;split at h1 <;> split at h2
  ·rename_i e1 e2;rw[e1,e2]
  ·rename_i e1 e2;subst e1;injection h1 with h1;subst h1;rw[Qqo he (hi.obj j q h2).1]at h4;exact absurd h3 (Qwn j q g h2 h4)
  ·rename_i e1 e2;subst e2;injection h2 with h2;subst h2;rw[Qqo he (hi.obj i p h1).1]at h3;exact absurd h4 (Qwn i p g h1 h3)
  ·rw[Qqo he (hi.obj i p h1).1]at h3;rw[Qqo he (hi.obj j q h2).1]at h4;exact hi.inj i j p q g h1 h2 h3 h4
def NewP (F:Nat->Prop)(C C':Ctx):Prop:=∀a,C'.prot a->C.prot a∨¬F a.block
theorem NewP.refl(F:Nat->Prop)(C:Ctx):NewP F C C:=fun _ h=>.inl h
theorem NewP.trans{F:Nat->Prop}{C1 C2 C3:Ctx}(h:NewP F C1 C2)(k:NewP F C2 C3):NewP F C1 C3:=fun a ha=>(k a ha).elim (fun h2=>h a h2) .inr
theorem Inv.newObj(hi:Inv Γ F w C σ){cs:List AC}(hr:RV w C cs xs)(T:TypeId):
  ∃C',Ext w C (w.alloc (.cells xs.toArray T)) C'/\C'.no=C.no/\NewP F C C'/\Inv Γ F (w.alloc (.cells xs.toArray T)) C' (σ.push (.cells cs))/\C'.ok (.l σ.n)/\C'.blk (.l σ.n)=w.heap.size:=by
 have hn:=Qqq C w.heap.size none hi.next;have he:Ext w C (w.alloc (.cells xs.toArray T)) (C.more w.heap.size none):=
  ⟨fun a ha=>Z48 _ _ _ (hi.prot a ha),fun a ha=>ha,fun i _ ho=>Qqp C _ _ ho⟩
 refine⟨C.more w.heap.size none,he,rfl,fun a ha=>.inl ha,hi.addObj (σ.get_push _) he (by simp[Ctx.more,hi.next,St.push]) (fun k hk=>by have:=hi.base k hk;simp;omega) (fun a ha=>?_) (fun i p h g x hg hx=>Q2w w _ hx) (fun i p h a _ _ ha=>ha) hn.1 ?_ (fun i p g h hg e=>?_),hn.1,hn.2.1⟩
 ·have:=hi.prot a ha;simp;omega
 ·refine⟨xs,T,by rw[hn.2.1];exact heap_alloc_new w _,by rw[hn.2.1];intro hF;have:=hi.base _ hF;omega,hr.ext he,fun a ha hp=>?_⟩;rw[hn.2.1]at ha;have:=hi.prot a hp;omega
 ·simp only[AObj.block,hn.2.1,Z3o]at e;have:=(Qqn (hi.obj i p h).2 hg).2;omega
theorem Inv.newRow(hi:Inv Γ F w C σ)(xs:List Value)(T:TypeId):
  ∃C',Ext w C (w.alloc (.cells xs.toArray T)) C'/\C'.no=C.no/\NewP F C C'/\Inv Γ F (w.alloc (.cells xs.toArray T)) C' σ/\(∀a:Addr,a.block=w.heap.size->C'.prot a):=by
 have he:Ext w C (w.alloc (.cells xs.toArray T)) { C with prot:=fun a=>C.prot a∨a.block=w.heap.size }:=
  ⟨fun a ha=>Z48 _ _ _ (hi.prot a ha),fun a ha=>.inl ha,fun i _ ho=>⟨by cases i <;> exact ho,rfl,rfl⟩⟩
 refine⟨_,he,rfl,fun a ha=>?_,⟨fun k hk=>by have:=hi.base k hk;simp;omega,hi.next,fun g cs h=>(hi.glob g cs h).ext he,fun a ha=>?_,fun i p h=>?_,fun i j p q g h1 h2 h3 h4=>?_⟩,fun a ha=>.inr ha⟩
 ·rcases ha with ha|ha
  ·exact .inl ha
  ·exact .inr (fun hF=>by have:=hi.base _ hF;omega)
 ·rcases ha with ha|ha
  ·have:=hi.prot a ha;simp;omega
  ·simp;omega
 ·obtain⟨h1,h2⟩:=hi.obj i p h;exact⟨(he.id i trivial h1).1,h2.keep he h1 (fun g x _ hx=>Q2w w _ hx) (fun a _ hlt ha=>by
   rcases ha with ha|ha
   ·exact ha
   ·omega)⟩
 ·exact hi.inj i j p q g h1 h2 (by rw[←Qqo he (hi.obj i p h1).1];exact h3) (by rw[←Qqo he (hi.obj j q h2).1];exact h4)
theorem Inv.turn(hi:Inv Γ F w C σ){i:Id}{o o':AObj}(hg:σ.get i=some o)(hbk:o.block C i=some g)(hsz:w'.heap.size=w.heap.size)
  (hoth:∀k,k≠g->w'.heap[k]?=w.heap[k]?) (hnp:∀a:Addr,a.block=g->C.prot a->w'.cell? a=w.cell? a) (hb':o'.block C i=some g)
  (hnew:∀he:Ext w C w' C,ObjOk w' C F i o'):Ext w C w' C/\Inv Γ F w' C (σ.set i o'):=by
 have he:Ext w C w' C:=⟨fun a ha=>by
  by_cases e:a.block=g
  ·exact hnp a e ha
  ·exact Z49 (hoth _ e),fun a ha=>ha,fun i _ ho=>⟨ho,rfl,rfl⟩⟩
 refine⟨he,⟨fun k hk=>by rw[hsz];exact hi.base k hk,by rw[Qql];exact hi.next,fun g cs h=>(hi.glob g cs h).ext he,fun a ha=>by rw[hsz];exact hi.prot a ha,fun j p h=>?_,fun j k p q g' h1 h2 h3 h4=>?_⟩⟩
 ·by_cases e:i=j
  ·subst e;rw[Qqj]at h;injection h with h;subst h;exact⟨(hi.obj i o hg).1,hnew he⟩
  ·rw[Qqk σ e]at h;obtain⟨h1,h2⟩:=hi.obj j p h;refine⟨h1,h2.keep he h1 (fun g' x hb hx=>?_) (fun a _ _ ha=>ha)⟩;rw[hoth g' (fun e'=>e (hi.inj i j o p g hg h hbk (by rw[←e'];exact hb)))];exact hx
 ·by_cases e1:i=j <;> by_cases e2:i=k
  ·rw[←e1,e2]
  ·subst e1;rw[Qqj]at h1;injection h1 with h1;subst h1;rw[Qqk σ e2]at h2;rw[hb']at h3;injection h3 with h3;subst h3;exact hi.inj i k o q g hg h2 hbk h4
  ·subst e2;rw[Qqj]at h2;injection h2 with h2;subst h2;rw[Qqk σ e1]at h1;rw[hb']at h4;injection h4 with h4;subst h4;exact hi.inj j i p o g h1 hg h3 hbk
  ·rw[Qqk σ e1]at h1;rw[Qqk σ e2]at h2;exact hi.inj j k p q g' h1 h2 h3 h4
theorem Q5f(w:World)(g:Nat)(cs cs':Array Value)(T:TypeId)(h:w.heap[g]?=some (.cells cs T (0,0))):(w.setRow g cs').heap[g]?=some (.cells cs' T (0,0)):=setRow_heap w g cs cs' T (0,0) h
theorem Inv.storeRow(hi:Inv Γ F w C σ){i:Id}{cs cs':List AC}(hg:σ.get i=some (.cells cs)){xs':List Value}(hx:w.heap[C.blk i]?=some (.cells xs.toArray T (0,0)))
  (hr:RV w C cs' xs'):Stp F w (w.setRow (C.blk i) xs'.toArray)/\Ext w C (w.setRow (C.blk i) xs'.toArray) C/\Inv Γ F (w.setRow (C.blk i) xs'.toArray) C (σ.set i (.cells cs')):=by
 obtain⟨hok,ys,T',h1,h2,h3,h4⟩:=hi.obj i _ hg;have hh:(w.setRow (C.blk i) xs'.toArray).heap[C.blk i]?=some (.cells xs'.toArray T (0,0)):=Q5f w _ _ _ T hx;refine⟨⟨rfl,rfl,rfl,by simp,fun k hk=>setRow_other w _ k _ (by rintro rfl;exact h2 hk),fun a _=>?_⟩,?_⟩
 ·by_cases e:a.block=C.blk i
  ·simp only[World.frozen?,e,hh,hx]
  ·exact World.frozen?_of_block (setRow_other w _ a.block _ e)
 ·exact hi.turn hg rfl zsy (fun k hk=>setRow_other w _ k _ hk) (fun a ha hp=>absurd hp (h4 a ha)) rfl (fun he=>⟨xs',T,hh,h2,hr.ext he,h4⟩)
theorem Inv.grown(hi:Inv Γ F w C σ)(hsz:w.heap.size<=w'.heap.size)(hb:∀k,k < w.heap.size->w'.heap[k]?=w.heap[k]?):Ext w C w' C/\Inv Γ F w' C σ:=by have he:Ext w C w' C:=⟨fun a ha=>by unfold World.cell?;rw[hb _ (hi.prot a ha)],fun a ha=>ha,fun i _ ho=>⟨ho,rfl,rfl⟩⟩;refine⟨he,⟨fun k hk=>Z32 (hi.base k hk) hsz,hi.next,fun g cs h=>(hi.glob g cs h).ext he,fun a ha=>Z32 (hi.prot a ha) hsz,fun i o h=>?_,hi.inj⟩⟩;obtain⟨h1,h2⟩:=hi.obj i o h;exact⟨h1,h2.keep he h1 (fun g x _ hx=>(hb g (Q0f hx)).trans hx) (fun a _ _ ha=>ha)⟩
theorem Inv.drew(hi:Inv Γ F w C σ):Ext w C w.drew C/\Inv Γ F w.drew C σ:=by have he:Ext w C w.drew C:=⟨fun a _=>rfl,fun a ha=>ha,fun i _ ho=>⟨ho,rfl,rfl⟩⟩;refine⟨he,⟨hi.base,hi.next,fun g cs h=>(hi.glob g cs h).ext he,hi.prot,fun i o h=>?_,hi.inj⟩⟩;obtain⟨h1,h2⟩:=hi.obj i o h;exact⟨h1,h2.keep he h1 (fun g x _ hx=>hx) (fun a _ _ ha=>ha)⟩
end
end Go.Abs
namespace Go.Abs
open Go.RowKit (Below)
def Qar:Value->Option FV
 |.agg cs=>bif cs.toList.all Value.oneCell' then some (.agg (cs.toList.map .lit))else none
 |.tuple _=>none
 |v=>some (.one (.lit v))
def gLook (g:Nat):List (Nat×List AC)->Option (List AC)
 |[]=>none
 |(j,c)::r=>bif Nat.beq j g then some c else gLook g r
def aEval (Γ:List (Nat×List AC))(fr:Fr):Operand->Option FV
 |.tmp t=>Fr.get t fr
 |.const v=>Qar v
 |.global g=>match gLook g Γ with
  |some cs=>some (.one (.box cs))
  |none=>none
 |.func f=>some (.one (.fn (.func f) [] []))
def FV.cells:FV->Option (List AC)
 |.bot=>none
 |.one c=>some [c]
 |.agg cs=>some cs
 |.tup _=>none
def mkFV (agg:Bool)(cs:List AC):Option FV:=
 match agg,cs with
 |true,cs=>some (.agg cs)
 |false,[c]=>some (.one c)
 |false,_=>none
def over:List AC->Nat->List AC->List AC
 |xs,0,[]=>xs
 |_::xs,0,c::cs=>c::over xs 0 cs
 |[],_,_=>[]
 |x::xs,n+1,cs=>x::over xs n cs
theorem Qdr{w:World}{C:Ctx}:∀(l:List Value),l.all Value.oneCell'=true->RV w C (l.map .lit) l
 |[],_=>by simp[RV]
 |x::l,h=>by simp only[List.all_cons,Qzc]at h;exact⟨x,l,rfl,by simp[R,h.1],Qdr l h.2⟩
theorem Qk5{C:Ctx}{x:FV}(h:Qar v=some x):RF w C x v:=by
 cases v with
 |agg cs=>
  simp only[Qar]at h;cases hb:cs.toList.all Value.oneCell' with
  |false=>rw[hb]at h;cases h
  |true=>
   rw[hb]at h;simp at h;subst h;exact⟨cs.toList,by simp,Qdr _ hb⟩
 |tuple vs=>simp[Qar]at h
 |_=>simp only[Qar,Z3o]at h;subst h;exact⟨rfl,rfl⟩
theorem Qez{g:Nat}{cs:List AC}:∀{Γ:List (Nat×List AC)},gLook g Γ=some cs->(g,cs)∈Γ
 |[],h=>by cases h
 |(j,c)::r,h=>by
  simp only[gLook]at h;cases hb:Nat.beq j g with
  |true=>
   rw[hb]at h;have:=Z2v hb;simp at h;subst h;subst this;simp
  |false=>rw[hb]at h;exact Z1q _ (Qez h)
section
variable {P:Program}{T:Tab}{Γ:List (Nat×List AC)}{F:Nat->Prop}{w:World}{C:Ctx}{σ:St}{N:Nat}{fr:Fr}{a:Act}
theorem Q01(hi:Inv Γ F w C σ)(hf:FrOk w C N fr a.tmps){o:Operand}{x:FV}(h:aEval Γ fr o=some x):RF w C x (a.eval o):=by
 cases o with
 |tmp t=>
  obtain⟨u,hu,hr⟩:=hf.2 t x h;have:a.tmps.getD t undef=u:=by simp[Qz7,hu]
  simp only[Act.eval,this];exact hr
 |const v=>exact Qk5 h
 |global g=>
  simp only[aEval]at h;cases hg:gLook g Γ with
  |none=>rw[hg]at h;cases h
  |some cs=>
   rw[hg]at h;simp at h;subst h;exact⟨⟨g,0,none⟩,rfl,rfl,(hi.glob g cs (Qez hg)).rl⟩
 |func f=>
  simp only[aEval,Z3o]at h;subst h;exact⟨[],[],rfl,rfl,rfl⟩
theorem Qqr{x:FV}{cs:List AC}(h:x.cells=some cs)(hr:RF w C x v):RV w C cs v.cells.toList:=by
 cases x with
 |bot=>cases h
 |one c=>
  simp only[FV.cells,Z3o]at h;subst h;have h1:v.cells=#[v]:=by have:=R.one hr;cases v <;> first|rfl|(simp[Value.oneCell']at this)
  rw[h1];exact⟨v,[],rfl,hr,rfl⟩
 |agg cs'=>
  simp only[FV.cells,Z3o]at h;subst h;obtain⟨xs,rfl,h2⟩:=hr;simpa[Value.cells]using h2
 |tup vs=>cases h
theorem Qg5{agg:Bool}{cs:List AC}{x:FV}(h:mkFV agg cs=some x)(hr:RV w C cs xs):RF w C x (valOf agg xs):=by
 cases agg with
 |true=>simp only[mkFV,Z3o]at h;subst h;exact⟨xs,rfl,hr⟩
 |false=>
  match cs,h with
  |[c],h=>
   simp only[mkFV,Z3o]at h;subst h;simp only[RV]at hr;obtain⟨u,us,rfl,h1,_⟩:=hr;exact (show R w C c (valOf false (u::us)) by simpa[valOf]using h1)
theorem Qcu:∀{xs:List AC}{n:Nat}{cs:List AC}{us vs:List Value},n+cs.length<=xs.length->RV w C xs us->RV w C cs vs->RV w C (over xs n cs) (us.take n++vs++us.drop (n+vs.length))
 |xs,0,[],us,vs,h,h1,h2=>by simp only[RV]at h2;subst h2;cases xs <;> simpa[over]using h1
 |x::xs,0,c::cs,us,vs,h,h1,h2=>by simp only[RV]at h1 h2;obtain⟨u,us,rfl,h3,h4⟩:=h1;obtain⟨v,vs,rfl,h5,h6⟩:=h2;have:=Qcu (n:=0) (by simp at h ⊢;omega) h4 h6;exact⟨v,vs++us.drop vs.length,by simp,h5,by simpa using this⟩
 |[],0,c::cs,us,vs,h,h1,h2=>by simp at h
 |[],n+1,cs,us,vs,h,h1,h2=>by simp at h
 |x::xs,n+1,cs,us,vs,h,h1,h2=>by simp only[RV]at h1;obtain⟨u,us,rfl,h3,h4⟩:=h1;have:=Qcu (xs:=xs) (n:=n) (by simp at h ⊢;omega) h4 h2;refine⟨u,us.take n++vs++us.drop (n+vs.length),?_,h3,this⟩;simp[Nat.add_right_comm n 1]
def Runs (P:Program)(Γ:List (Nat×List AC))(F:Nat->Prop)(w:World)(C:Ctx)(a:Act)(o:Oper)(x:Option FV)(σ':St):Prop:=
 ∃r w' C',(execOp a.eval o).run P w=.ok r w'/\Stp F w w'/\Ext w C w' C'/\C.no<=C'.no/\NewP F C C'/\Inv Γ F w' C' σ'/\
  (match x with
   |some y=>∃u,r=.value u/\RF w' C' y u
   |none=>r=.skip)
end
def Qd6:BinOp->Int->Int->Option Bool
 |.eql,x,y=>some (x==y)
 |.neq,x,y=>some (x != y)
 |.lss,x,y=>some (decide (x < y))
 |.leq,x,y=>some (decide (x<=y))
 |.gtr,x,y=>some (decide (x > y))
 |.geq,x,y=>some (decide (x ≥ y))
 |_,_,_=>none
def Qcl:BinOp->ByteArray->ByteArray->Option Bool
 |.eql,x,y=>some (x.toList==y.toList)
 |.neq,x,y=>some (!(x.toList==y.toList))
 |.lss,x,y=>some (Op.bytesLess x.toList y.toList)
 |.leq,x,y=>some (Op.bytesLess x.toList y.toList||x.toList==y.toList)
 |.gtr,x,y=>some (!(Op.bytesLess x.toList y.toList||x.toList==y.toList))
 |.geq,x,y=>some (!(Op.bytesLess x.toList y.toList))
 |_,_,_=>none
def Qm7:IntKind->IntKind->Bool
 |.i8,.i8|.i16,.i16|.i32,.i32|.i64,.i64|.u8,.u8|.u16,.u16|.u32,.u32|.u64,.u64=>true
 |_,_=>false
theorem Qm6{j:IntKind}(h:Qm7 j k=true):j=k:=by cases j <;> cases k <;> first|rfl|cases h
def Q4c {β α:Type}:List β->(List β->α)->α
 |[],k=>k []
 |c::cs,k=>Q4c cs fun r=>k (c::r)
theorem Q1b{β α:Type}:∀(l:List β)(k:List β->α),Q4c l k=k l
 |[],k=>rfl
 |c::cs,k=>by simp only[Q4c];rw[Q1b cs]
def aFill (Γ:List (Nat×List AC))(fr:Fr)(T:Tab)(flds:List (Nat×TypeId)):List AC->List (Nat×Operand)->Option (List AC)
 |cells,[]=>some cells
 |cells,(i,x)::r=>
  match flds[i]? with
  |some (off,ty)=>match Tab.get ty T with
   |some ti=>match aEval Γ fr x with
    |some v=>match v.cells with
     |some cs=>bif Nat.beq cs.length ti.size&&Nat.ble (off+cs.length) cells.length then Q4c (over cells off cs) (fun l=>aFill Γ fr T flds l r)else none
     |none=>none
    |none=>none
   |none=>none
  |none=>none
def Qb2 (Γ:List (Nat×List AC))(fr:Fr)(s:Nat):Nat->List (Nat×Operand)->Option (List (List AC))
 |_,[]=>some []
 |k,(i,x)::r=>
  match aEval Γ fr x with
  |some v=>match v.cells with
   |some cs=>bif Nat.beq i k&&Nat.beq cs.length s then (match Qb2 Γ fr s (k+1) r with|some es=>some (cs::es)|none=>none)else none
   |none=>none
  |none=>none
def aLoad (ti:TI)(σ:St):FV->Option FV
 |.one (.ptr i off)=>match σ.get i with
  |some (.cells cs)=>bif Nat.ble (off+ti.size) cs.length then Q4c ((cs.drop off).take ti.size) (mkFV ti.agg)else none
  |_=>none
 |.one (.box cs)=>bif Nat.ble ti.size cs.length then Q4c (cs.take ti.size) (mkFV ti.agg)else none
 |_=>none
def Qfj (ti:TI)(σ:St)(x:FV):FV->Option St
 |.one (.ptr i off)=>match σ.get i,x.cells with
  |some (.cells cs),some vs=>bif Nat.beq vs.length ti.size&&Nat.ble (off+ti.size) cs.length then Q4c (over cs off vs) (fun l=>some (σ.set i (.cells l)))else none
  |_,_=>none
 |_=>none
def Q6c (off:Nat):FV->Option FV
 |.one (.ptr i o)=>some (.one (.ptr i (o+off)))
 |.one (.box cs)=>some (.one (.box (cs.drop off)))
 |_=>none
def aLen:FV->Option FV
 |.one (.sl _ es)=>some (.one (.lit (.int .i64 es.length)))
 |.one (.gs _ es _)=>some (.one (.lit (.int .i64 es.length)))
 |.one (.arr _ _ _ len _)=>some (.one (.lit (.int .i64 len)))
 |.one (.lit (.slice none 0 0))=>some (.one (.lit (.int .i64 0)))
 |_=>none
def aBin (op:BinOp):FV->FV->Option FV
 |.one (.lit (.int j x)),.one (.lit (.int k y))=>bif Qm7 j k then (match Qd6 op x y with|some b=>some (.one (.lit (.bool b)))|none=>none)else none
 |.one (.lit (.string x)),.one (.lit (.string y))=>match Qcl op x y with|some b=>some (.one (.lit (.bool b)))|none=>none
 |_,_=>none
def aOp (T:Tab)(Γ:List (Nat×List AC))(o:Op)(fr:Fr)(σ:St):Option (Option FV×St):=
 match o with
 |.move x=>match aEval Γ fr x with|some v=>some (some v,σ)|none=>none
 |.assign x=>match aEval Γ fr x with|some v=>some (some v,σ)|none=>none
 |.pick c x y=>match aEval Γ fr c with
  |some (.one (.lit (.bool true)))=>match aEval Γ fr x with|some v=>some (some v,σ)|none=>none
  |some (.one (.lit (.bool false)))=>match aEval Γ fr y with|some v=>some (some v,σ)|none=>none
  |_=>none
 |.alloc t=>match Tab.get t T with
  |some ti=>some (some (.one (.ptr (.l σ.n) 0)),σ.push (.cells (ti.zero.map .lit)))
  |none=>none
 |.box _ x=>match aEval Γ fr x with
  |some v=>match v.cells with
   |some cs=>some (some (.one (.ptr (.l σ.n) 0)),σ.push (.cells cs))
   |none=>none
  |none=>none
 |.build t parts=>match Tab.get t T with
  |some ti=>bif Nat.beq ti.kind 1&&ti.flds.all (fun x=>(Tab.get x.2 T).isSome)then (match aFill Γ fr T ti.flds (ti.zero.map .lit) parts.toList with|some cs=>some (some (.agg cs),σ)|none=>none)else none
  |none=>none
 |.load t x=>match Tab.get t T with
  |some ti=>bif ti.agg||Nat.beq ti.size 1 then (match aEval Γ fr x with
   |some v=>match aLoad ti σ v with|some y=>some (some y,σ)|none=>none
   |none=>none)else none
  |none=>none
 |.store t x y=>match Tab.get t T with
  |some ti=>match aEval Γ fr x,aEval Γ fr y with
   |some v,some u=>match Qfj ti σ u v with|some σ'=>some (none,σ')|none=>none
   |_,_=>none
  |none=>none
 |.fieldAddr s x f=>match Tab.get s T with
  |some ti=>bif Nat.beq ti.kind 1 then (match ti.flds[f]? with
   |some (off,ty)=>match Tab.get ty T with
    |some _=>match aEval Γ fr x with
     |some v=>match Q6c off v with|some y=>some (some y,σ)|none=>none
     |none=>none
    |none=>none
   |none=>none)else none
  |none=>none
 |.field s x f=>match Tab.get s T with
  |some ti=>bif Nat.beq ti.kind 1 then (match ti.flds[f]? with
   |some (off,ty)=>match Tab.get ty T with
    |some tj=>match aEval Γ fr x with
     |some (.agg cs)=>bif (tj.agg||Nat.beq tj.size 1)&&Nat.ble (off+tj.size) cs.length then (match Q4c ((cs.drop off).take tj.size) (mkFV tj.agg) with|some y=>some (some y,σ)|none=>none)else none
     |_=>none
    |none=>none
   |none=>none)else none
  |none=>none
 |.binOp op _ x y _=>match aEval Γ fr x,aEval Γ fr y with
  |some v,some u=>match aBin op v u with|some z=>some (some z,σ)|none=>none
  |_,_=>none
 |.unOp .not _ x=>match aEval Γ fr x with
  |some (.one (.lit (.bool b)))=>some (some (.one (.lit (.bool (!b)))),σ)
  |_=>none
 |.extract x i=>match aEval Γ fr x with
  |some (.tup vs)=>match vs[i]? with|some v=>some (some v,σ)|none=>none
  |_=>none
 |.makeFunc f first caps=>match first.toList.mapM (fun x=>(aEval Γ fr x).bind (fun v=>match v with|.one c=>some c|_=>none)),caps.toList.mapM (fun x=>(aEval Γ fr x).bind (fun v=>match v with|.one c=>some c|_=>none)) with
  |some xs,some ys=>some (some (.one (.fn f xs ys)),σ)
  |_,_=>none
 |.nilCheck x=>match aEval Γ fr x with
  |some (.one (.ptr i o))=>some (some (.one (.ptr i o)),σ)
  |some (.one (.box cs))=>some (some (.one (.box cs)),σ)
  |_=>none
 |.call { callee:=.builtin .len,args,argTypes }=>match args.toList,argTypes.toList with
  |[x],[t]=>match Tab.get t T,aEval Γ fr x with
   |some ti,some v=>bif Nat.beq ti.kind 2 then (match aLen v with|some y=>some (some y,σ)|none=>none) else
    bif Nat.beq ti.kind 5 then (match v with|.one (.lit (.string s))=>some (some (.one (.lit (.int .i64 s.size))),σ)|_=>none)else none
   |_,_=>none
  |_,_=>none
 |.buildSlice t len parts=>match Tab.get t T with
  |some ti=>bif Nat.beq ti.kind 2 then (match Tab.get ti.elem T with
   |some tj=>match Qb2 Γ fr tj.size 0 parts.toList with
    |some es=>bif Nat.beq es.length len&&Nat.ble (len * tj.size) 16777216&&!(Nat.beq len 0)then some (some (.one (.sl tj.size es)),σ)else none
    |none=>none
   |none=>none)else none
  |none=>none
 |_=>none
end Go.Abs
namespace Go.Abs
open Go.RowKit (Below)
section
variable {P:Program}{T:Tab}{Γ:List (Nat×List AC)}{F:Nat->Prop}{w:World}{C:Ctx}{σ σ':St}{N:Nat}{fr:Fr}{a:Act}
theorem RL.of_new{cs:List AC}:∀(k:Nat),RV w C cs xs->(∀(j:Nat)(v:Value),xs[j]?=some v->w.cell? ⟨g,k+j,none⟩=some v)->(∀ad:Addr,ad.block=g->C.prot ad)->RL w C cs ⟨g,k,none⟩:=by
 induction cs generalizing xs with
 |nil=>intros;simp[RL]
 |cons c cs ih=>
  intro k h h1 h2;simp only[RV]at h;obtain⟨u,us,rfl,h3,h4⟩:=h;refine⟨⟨u,h1 0 u rfl,h2 _ rfl,h3⟩,ih (k+1) h4 (fun j v hj=>?_) h2⟩;have:=h1 (j+1) v (by simpa using hj);rw[←this];congr 2;omega
theorem RS.of_new{s g:Nat}{es:List (List AC)}:∀(k:Nat){xss:List (List Value)},xss.length=es.length->(∀(i:Nat)(e:List AC)(x:List Value),es[i]?=some e->xss[i]?=some x->e.length=s/\RV w C e x)->
  (∀(j:Nat) (v:Value),xss.flatten[j]?=some v->w.cell? ⟨g,k+j,none⟩=some v)->(∀ad:Addr,ad.block=g->C.prot ad)->RS w C s es ⟨g,k,none⟩:=by
 induction es with
 |nil=>intros;simp[RS]
 |cons e es ih=>
  intro k xss hl h h1 h2
  match xss,hl with
  |x::xss,hl=>
   obtain⟨h3,h4⟩:=h 0 e x rfl rfl;have hxl:x.length=s:=by rw[RV.length h4,h3]
   refine⟨h3,RL.of_new k h4 (fun j v hj=>h1 j v ?_) h2,ih (k+s) (by simpa using hl) (fun i e' x' he hx=>h (i+1) e' x' (by simpa using he) (by simpa using hx)) (fun j v hj=>?_) h2⟩
   ·have hlt:j < x.length:=(Z0v.1 hj).1;simp only[Z0j];rw[Z0p hlt];exact hj
   ·have:=h1 (s+j) v (by simp only[Z0j];rw[Z0q zoy,hxl,Z2s];exact hj);rw[←this];congr 2;omega
theorem Q7i(off:Nat):∀(vs:List Value)(k:Nat)(xs:Array Value),off+k+vs.length<=xs.size->
  (vs.zipIdx k).foldl (fun cs (c,j)=>cs.setIfInBounds (off+j) c) xs=(xs.toList.take (off+k)++vs++xs.toList.drop (off+k+vs.length)).toArray
 |[],k,xs,h=>by simp
 |v::vs,k,xs,h=>by
  simp only[List.zipIdx_cons,Z0l];rw[Q7i off vs (k+1) _ (by simp at h ⊢;omega)];apply Qz6;simp only[Array.toList_setIfInBounds];apply Z0c;intro i;have hs:off+k < xs.size:=by simp at h;omega
  simp only[List.getElem?_append,List.getElem?_take,Z0s,Z1c,Z1a,Array.length_toList,Z12,Z13,List.getElem?_set];by_cases h1:i < off+k
  ·have a1:i < off+(k+1):=by omega
   have a2:i < min (off+(k+1)) xs.size:=by omega
   have a3:i < min (off+k) xs.size:=by omega
   have a4:¬(off+k=i):=by omega
   simp[h1,a1,a2,a3,a4];rw[if_pos zoy,if_pos zoy]
  ·by_cases h2:i=off+k
   ·subst h2;have a1:off+k < off+(k+1):=by omega
    have a2:off+k < min (off+(k+1)) xs.size:=by omega
    have a3:min (off+k) xs.size=off+k:=by omega
    simp[a1,a2,a3,hs];intro hh;exfalso;omega
   ·have a1:¬i < min (off+(k+1)) xs.size:=by omega
    have a3:¬i < min (off+k) xs.size:=by omega
    have a5:min (off+(k+1)) xs.size=off+k+1:=by omega
    have a6:min (off+k) xs.size=off+k:=by omega
    obtain⟨j,rfl⟩:∃j,i=off+k+1+j:=⟨i - (off+k+1),by omega⟩;simp only[a5,a6];have b1:¬off+k+1+j < off+k+1:=by omega
    have b2:¬off+k+1+j < off+k:=by omega
    have b3:off+k+1+j - (off+k)=j+1:=by omega
    have b4:off+k+1+j - (off+k+1)=j:=by omega
    by_cases h3:j < vs.length
    ·have c1:off+k+1+j < off+k+1+vs.length:=by omega
     have c2:off+k+1+j < off+k+(vs.length+1):=by omega
     simp[b1,b2,b3,b4,h3,c1,c2]
    ·have c1:¬off+k+1+j < off+k+1+vs.length:=by omega
     have c2:¬off+k+1+j < off+k+(vs.length+1):=by omega
     have c3:off+(k+1)+vs.length+(off+k+1+j - (off+k+1+vs.length))=off+k+(vs.length+1)+(off+k+1+j - (off+k+(vs.length+1))):=by omega
     have c4:¬off+k=off+(k+1)+vs.length+(off+k+1+j - (off+k+1+vs.length)):=by omega
     simp[c1,c2,c4,←c3]
theorem Qf2(vs:Array Value)(xs:List Value)(off:Nat)(h:off+vs.size<=xs.length):
  vs.zipIdx.foldl (fun cs (c,j)=>cs.setIfInBounds (off+j) c) xs.toArray=(xs.take off++vs.toList++xs.drop (off+vs.toList.length)).toArray:=by
 have:=Q7i off vs.toList 0 xs.toArray (by simpa using h);rw[←Array.foldl_toList];simpa using this
theorem Qj1{ti:TI}(ht:TIOk P t ti)(ha:(ti.agg||Nat.beq ti.size 1)=true)(hi:Inv Γ F w C σ){x y:FV}(hr:RF w C x v)(h:aLoad ti σ x=some y):
  ∃u,(Instr.loadAt t v).run P w=.ok u w/\RF w C y u:=by
 have h1:ti.agg=false->ti.size=1:=fun e=>by rw[e]at ha;simpa using ha
 cases x with
 |bot=>cases h
 |agg cs=>cases h
 |tup vs=>cases h
 |one c=>
  cases c <;> simp only[aLoad]at h
  case lit=>cases h
  case any=>cases h
  case sl=>cases h
  case gs=>cases h
  case arr=>cases h
  case mp=>cases h
  case fn=>cases h
  case ifc=>cases h
  case box cs=>
   obtain⟨ad,rfl,hs,hl⟩:=hr;cases hb:Nat.ble ti.size cs.length with
   |false=>rw[hb]at h;cases h
   |true=>
    rw[hb]at h;simp only[cond_true,Q1b]at h;have hle:ti.size<=cs.length:=Z2x hb;obtain⟨xs,h2,h3,h4⟩:=RL.held (cs.take ti.size) ad hs (RL.take _ hl);have:=Q55 ht h1 h4 (by rw[h3];simp;omega);exact⟨_,by simp only[Instr.loadAt,Instr.sureAddr,Z3s,Z3t,Z3r,this],Qg5 h h2⟩
  case ptr i off=>
   obtain⟨hok,rfl⟩:=hr;cases hg:σ.get i with
   |none=>rw[hg]at h;cases h
   |some o=>
    cases o with
    |cells cs=>
     rw[hg]at h;simp only[]at h;cases hb:Nat.ble (off+ti.size) cs.length with
     |false=>rw[hb]at h;cases h
     |true=>
      rw[hb]at h;simp only[cond_true,Q1b]at h;have hle:off+ti.size<=cs.length:=Z2x hb;obtain⟨_,xs,T',h2,h3,h4,h5⟩:=hi.obj i _ hg;have hlen:=RV.length h4;have hh:Held w ((xs.drop off).take ti.size) ⟨C.blk i,off,none⟩:=by intro j v hj;rw[Qqm rfl,cell_of_row w _ _ _ _ _ h2];have hj':=Z0v.1 hj;obtain⟨hlt,hv⟩:=hj';simp at hlt;rw[Z0z zoy,Z0s]at hj;simpa using hj
      have:=Q55 ht h1 hh zuy;exact⟨_,by simp only[Instr.loadAt,Instr.sureAddr,Z3s,Z3t,Z3r,this],Qg5 h (RV.take _ (RV.drop _ h4))⟩
    |map ck es=>rw[hg]at h;cases h
    |iter m since seen last=>rw[hg]at h;cases h
    |sit s p=>rw[hg]at h;cases h
    |tok e s u=>rw[hg]at h;cases h
    |dead=>rw[hg]at h;cases h
theorem Qny{ti:TI}(ht:TIOk P t ti)(hi:Inv Γ F w C σ){x y:FV}(hr:RF w C x v)(hu:RF w C y u)(h:Qfj ti σ y x=some σ'):
  ∃w',(Instr.storeAt t v u).run P w=.ok () w'/\Stp F w w'/\Ext w C w' C/\Inv Γ F w' C σ':=by
 cases x with
 |bot=>cases h
 |agg cs=>cases h
 |tup vs=>cases h
 |one c=>
  cases c <;> simp only[Qfj]at h
  case lit=>cases h
  case any=>cases h
  case sl=>cases h
  case gs=>cases h
  case arr=>cases h
  case mp=>cases h
  case fn=>cases h
  case ifc=>cases h
  case box=>cases h
  case ptr i off=>
   obtain⟨hok,rfl⟩:=hr;cases hg:σ.get i with
   |none=>rw[hg]at h;cases h
   |some o=>
    cases o with
    |cells cs=>
     cases hc:y.cells with
     |none=>rw[hg,hc]at h;cases h
     |some vs=>
      rw[hg,hc]at h;simp only[]at h;cases hb:(Nat.beq vs.length ti.size&&Nat.ble (off+ti.size) cs.length) with
      |false=>rw[hb]at h;cases h
      |true=>
       rw[hb]at h;simp only[cond_true,Z3o]at h;simp only[Qzc]at hb;have hl1:vs.length=ti.size:=Z2v hb.1;have hl2:off+ti.size<=cs.length:=Z2x hb.2;have hv:=Qqr hc hu;have hvl:=RV.length hv;obtain⟨_,xs,T',h2,h3,h4,h5⟩:=hi.obj i _ hg;have hxl:=RV.length h4;have hrun:=run_storeVar_row ht h2 (off:=off) (v:=u) zoy (RV.one hv) zoy;have hov:=Qcu (n:=off) zoy h4 hv;rw[show off+u.cells.toList.length=off+ti.size by omega]at hov;obtain⟨s1,s2,s3⟩:=hi.storeRow hg h2 hov;simp only[Q1b,Z3o]at h;subst h;exact⟨_,by simp only[Instr.storeAt,Instr.sureAddr,Z3s,Z3t,Z3r,hrun],s1,s2,s3⟩
    |map ck es=>rw[hg]at h;cases h
    |iter m since seen last=>rw[hg]at h;cases h
    |sit s p=>rw[hg]at h;cases h
    |tok e s u=>rw[hg]at h;cases h
    |dead=>rw[hg]at h;cases h
theorem Qdq{f:Field}{tj:TI}(hj:TIOk P f.type tj):(fieldPlace ad f).run P w=.ok (ad.add f.offset) w:=by simp only[fieldPlace,Z3s,hj.run_sizeOf,Z3r];rw[if_neg hj.pos];rfl
theorem Qba{x y:FV}(hr:RF w C x v)(h:Q6c off x=some y):
  ∃ad:Addr,v=.pointer (some ad)/\RF w C y (.pointer (some (ad.add off))):=by
 cases x with
 |bot=>cases h
 |agg cs=>cases h
 |tup vs=>cases h
 |one c=>
  cases c <;> simp only[Q6c]at h <;> try (cases h;done)
  case box cs=>
   simp only[Z3o]at h;subst h;obtain⟨ad,rfl,hs,hl⟩:=hr;refine⟨ad,rfl,ad.add off,rfl,?_,?_⟩
   ·rw[Qqm hs]
   ·rw[Qqm hs];exact RL.drop off hs hl
  case ptr i o=>
   simp only[Z3o]at h;subst h;obtain⟨hok,rfl⟩:=hr;refine⟨_,rfl,hok,?_⟩;rw[Qqm rfl]
theorem aLen_ok{ti:TI}(ht:TIOk P t ti)(hk:ti.kind=2){x y:FV}(hr:RF w C x v)(h:aLen x=some y)(ty:TypeId):
  ∃u,(Builtin.len_ #[t] ty #[v]).run P w=.ok u w/\RF w C y u:=by
 have hs:=ht.slice hk;have key:∀(b:Option Addr) (n c:Nat),(Builtin.len_ #[t] ty #[.slice b n c]).run P w=.ok (.int .i64 n) w:=by intro b n c;simp[Builtin.len_,run_underlying hs,goInt]
 cases x with
 |bot=>cases h
 |agg cs=>cases h
 |tup vs=>cases h
 |one c=>
  cases c <;> simp only[aLen]at h <;> try (cases h;done)
  case sl s es=>
   simp only[Z3o]at h;subst h;obtain⟨b,cap,rfl,_⟩:=hr;exact⟨_,key _ _ _,rfl,rfl⟩
  case gs s es i=>
   simp only[Z3o]at h;subst h;obtain⟨_,⟨rfl,rfl,_⟩|⟨g,cap,rfl,_⟩⟩:=hr
   ·exact⟨_,key _ _ _,rfl,rfl⟩
   ·exact⟨_,key _ _ _,rfl,rfl⟩
  case arr i s off len=>
   simp only[Z3o]at h;subst h;obtain⟨_,rfl,_⟩:=hr;exact⟨_,key _ _ _,rfl,rfl⟩
  case lit u=>
   obtain⟨rfl,_⟩:=hr;split at h
   ·rename_i e;cases e
   ·rename_i e;cases e
   ·rename_i e;cases e
   ·rename_i e;cases e;simp only[Z3o]at h;subst h;exact⟨_,key _ _ _,rfl,rfl⟩
   ·cases h
theorem Qmf{x y:Int}(h:Qd6 op x y=some b)(k:IntKind)(t:TypeId):(binOp op t (.int k x) (.int k y)).run P w=.ok (.bool b) w:=by cases op <;> simp only[Qd6,Z3o]at h <;> first|(cases h;done)|(subst h;simp[binOp,Op.intCmp])
theorem Qkr{x y:ByteArray}(h:Qcl op x y=some b)(t:TypeId):(binOp op t (.string x) (.string y)).run P w=.ok (.bool b) w:=by cases op <;> simp only[Qcl,Z3o]at h <;> first|(cases h;done)|(subst h;simp[binOp,Op.stringOp])
theorem Runs.val{y:FV}(hi:Inv Γ F w C σ)(h:(execOp a.eval o).run P w=.ok (.value u) w)(hr:RF w C y u):Runs P Γ F w C a o (some y) σ:=
 ⟨_,w,C,h,Stp.refl _ _,Chg.refl _ _ _,Z30 _,NewP.refl _ _,hi,u,rfl,hr⟩
theorem Qqc{t:TypeId}{ti:TI}(hT:TabOk P T)(hi:Inv Γ F w C σ)(hf:FrOk w C N fr a.tmps)(hfs:fs.toList.map (fun f=>(f.offset,f.type))=ti.flds)(place:Nat->Option (Nat×Nat))
  (hp:∀i off ty tj,ti.flds[i]?=some (off,ty)->Tab.get ty T=some tj->place i=some (off,tj.size)):
  ∀{parts:List (Nat×Operand)}{cells:List AC}{xs:List Value}{cs:List AC},RV w C cells xs->aFill Γ fr T ti.flds cells parts=some cs->
   ∃ys:List Value,Instr.fill place xs.toArray (parts.map fun (i,x)=>(i,a.eval x))=some ys.toArray/\RV w C cs ys:=by
 intro parts
 induction parts with
 |nil=>intro cells xs cs hr h;simp only[aFill,Z3o]at h;subst h;exact⟨xs,rfl,hr⟩
 |cons p parts ih=>
  obtain⟨i,x⟩:=p;intro cells xs cs hr h;simp only[aFill]at h;cases h1:ti.flds[i]? with
  |none=>rw[h1]at h;cases h
  |some ot=>
   obtain⟨off,ty⟩:=ot;rw[h1]at h;simp only[]at h;cases h2:Tab.get ty T with
   |none=>rw[h2]at h;cases h
   |some tj=>
    rw[h2]at h;simp only[]at h;cases h3:aEval Γ fr x with
    |none=>rw[h3]at h;cases h
    |some v=>
     rw[h3]at h;simp only[]at h;cases h4:v.cells with
     |none=>rw[h4]at h;cases h
     |some vs=>
      rw[h4]at h;simp only[]at h;cases hb:(Nat.beq vs.length tj.size&&Nat.ble (off+vs.length) cells.length) with
      |false=>rw[hb]at h;cases h
      |true=>
       rw[hb]at h;simp only[cond_true,Q1b]at h;simp only[Qzc]at hb;have hl1:vs.length=tj.size:=Z2v hb.1;have hl2:off+vs.length<=cells.length:=Z2x hb.2;have hv:=Qqr h4 (Q01 hi hf h3);have hvl:=RV.length hv;have hxl:=RV.length hr;have hov:=Qcu (n:=off) hl2 hr hv;obtain⟨ys,h5,h6⟩:=ih hov h;refine⟨ys,?_,h6⟩;simp only[Z1g,Instr.fill,hp i off ty tj h1 h2];have hsz:(a.eval x).cells.size=vs.length:=by rw[←hvl];simp
       rw[if_neg zuy];rw[←h5];congr 1;exact Qf2 (a.eval x).cells xs off (by simp at hvl ⊢;omega)
end
end Go.Abs
namespace Go.Abs
open Go.RowKit (Below)
section
variable {P:Program}{T:Tab}{Γ:List (Nat×List AC)}{F:Nat->Prop}{w:World}{C:Ctx}{σ σ':St}{N:Nat}{fr:Fr}{a:Act}
theorem Q95(hT:TabOk P T):∀(fs:List Field),(∀f∈fs,(Tab.get f.type T).isSome=true)->
  ∃ps:List (Nat×Nat),(fs.mapM (fun f=>do pure (f.offset,←sizeOf f.type)):Sem (List (Nat×Nat))).run P w=.ok ps w/\
   ∀(i:Nat) (f:Field) (tj:TI),fs[i]?=some f->Tab.get f.type T=some tj->ps[i]?=some (f.offset,tj.size)
 |[],_=>⟨[],rfl,fun i f tj h=>by simp at h⟩
 |f::fs,h=>by
  obtain⟨ps,h1,h2⟩:=Q95 hT fs (fun g hg=>h g (by simp[hg]));obtain⟨tj,hj⟩:=Z3k.1 (h f zsy);refine⟨(f.offset,tj.size)::ps,?_,fun i g tk hi hk=>?_⟩
  ·simp only[Z1d,Z3s,(hT _ _ hj).run_sizeOf,Z3r,Z3t,h1]
  ·cases i with
   |zero=>simp at hi;subst hi;rw[hj]at hk;cases hk;rfl
   |succ i=>simpa using h2 i g tk (by simpa using hi) hk
theorem Qgq{ti:TI}(hT:TabOk P T)(hfs:fs.toList.map (fun f=>(f.offset,f.type))=ti.flds)(hall:ti.flds.all (fun x=>(Tab.get x.2 T).isSome)=true):
  ∃ps:Array (Nat×Nat),(fs.mapM (fun f=>do pure (f.offset,←sizeOf f.type)):Sem (Array (Nat×Nat))).run P w=.ok ps w/\
   ∀(i off:Nat) (ty:TypeId) (tj:TI),ti.flds[i]?=some (off,ty)->Tab.get ty T=some tj->ps[i]?=some (off,tj.size):=by
 obtain⟨ps,h1,h2⟩:=Q95 (w:=w) hT fs.toList (fun f hf=>by rw[←hfs]at hall;simp only[List.all_map,Qzy]at hall;exact hall f hf);refine⟨ps.toArray,?_,fun i off ty tj hi hj=>?_⟩
 ·rw[Array.mapM_eq_mapM_toList];simp only[Sem.run_map,h1,Z3r]
 ·rw[←hfs,Z0w]at hi;cases hf:fs.toList[i]? with
  |none=>rw[hf]at hi;cases hi
  |some f=>
   rw[hf]at hi;simp at hi;obtain⟨rfl,rfl⟩:=hi;simpa using h2 i f tj hf hj
theorem RFs.get{w:World}{C:Ctx}:∀{vs:List FV}{xs:List Value}{i:Nat}{v:FV},RFs w C vs xs->vs[i]?=some v->∃u,xs[i]?=some u/\RF w C v u
 |[],xs,i,v,h,hi=>by simp at hi
 |x::vs,xs,i,v,h,hi=>by
  simp only[RFs]at h;obtain⟨u,us,rfl,h1,h2⟩:=h;cases i with
  |zero=>simp at hi;subst hi;exact⟨u,rfl,h1⟩
  |succ i=>
   obtain⟨u',h3,h4⟩:=RFs.get h2 (by simpa using hi);exact⟨u',by simpa using h3,h4⟩
theorem mapM_ok(hi:Inv Γ F w C σ)(hf:FrOk w C N fr a.tmps):∀{l:List Operand}{cs:List AC},l.mapM (fun x=>(aEval Γ fr x).bind (fun v=>match v with|.one c=>some c|_=>none))=some cs->RV w C cs (l.map a.eval)
 |[],cs,h=>by simp at h;subst h;simp[RV]
 |x::l,cs,h=>by
  simp only[Z1d]at h;cases h1:aEval Γ fr x with
  |none=>rw[h1]at h;simp at h
  |some v=>
   rw[h1]at h;have hr:=Q01 hi hf h1;cases v with
   |one c=>
    simp only[Z3h]at h;cases h2:l.mapM (fun x=>(aEval Γ fr x).bind (fun v=>match v with|.one c=>some c|_=>none)) with
    |none=>rw[h2]at h;simp at h
    |some ds=>
     rw[h2]at h;simp at h;subst h;exact⟨a.eval x,l.map a.eval,rfl,hr,mapM_ok hi hf h2⟩
   |bot=>simp at h
   |agg cs=>simp at h
   |tup vs=>simp at h
theorem Qfk(hi:Inv Γ F w C σ)(hf:FrOk w C N fr a.tmps)(s:Nat):∀{parts:List (Nat×Operand)}{k:Nat}{es:List (List AC)},Qb2 Γ fr s k parts=some es->
  parts.map (·.1)=List.range' k parts.length/\parts.length=es.length/\∃xss:List (List Value),xss=parts.map (fun p=>(a.eval p.2).cells.toList)/\(∀(i:Nat) (e:List AC) (x:List Value),es[i]?=some e->xss[i]?=some x->e.length=s/\RV w C e x)
 |[],k,es,h=>by simp only[Qb2,Z3o]at h;subst h;exact⟨rfl,rfl,[],rfl,fun i e x he=>by simp at he⟩
 |(i,x)::r,k,es,h=>by
  simp only[Qb2]at h;cases h1:aEval Γ fr x with
  |none=>rw[h1]at h;cases h
  |some v=>
   rw[h1]at h;simp only[]at h;cases h2:v.cells with
   |none=>rw[h2]at h;cases h
   |some cs=>
    rw[h2]at h;simp only[]at h;cases hb:(Nat.beq i k&&Nat.beq cs.length s) with
    |false=>rw[hb]at h;cases h
    |true=>
     rw[hb]at h;simp only[cond_true]at h;simp only[Qzc]at hb;have e1:i=k:=Z2v hb.1;have e2:cs.length=s:=Z2v hb.2;cases h3:Qb2 Γ fr s (k+1) r with
     |none=>rw[h3]at h;cases h
     |some es'=>
      rw[h3]at h;simp only[Z3o]at h;subst h;obtain⟨g1,g2,xss,g3,g4⟩:=Qfk hi hf s h3;refine⟨by simp[List.range'_succ,g1,e1],by simp[g2],_,rfl,fun j e y he hy=>?_⟩;cases j with
      |zero=>
       simp at he hy;subst he;subst hy;exact⟨e2,by simpa using Qqr h2 (Q01 hi hf h1)⟩
      |succ j=>exact g4 j e y (by simpa using he) (by rw[g3];simpa using hy)
theorem Qin(s:Nat):∀(xss:List (List Value))(k:Nat)(cells:List Value),(∀x∈xss,x.length=s)->(k+xss.length) * s<=cells.length->∀vs:List Value,vs.map (fun v=>v.cells.toList)=xss->
  Instr.fill (fun i=>some (i * s,s)) cells.toArray ((List.range' k xss.length).zip vs)=some (cells.take (k * s)++xss.flatten++cells.drop ((k+xss.length) * s)).toArray
 |[],k,cells,h,hl,vs,hv=>by
  have:vs=[]:=by simpa using hv
  subst this;simp[Instr.fill]
 |x::xss,k,cells,h,hl,vs,hv=>by
  match vs,hv with
  |v::vs,hv=>
   simp only[Z1g,List.cons.injEq]at hv;obtain⟨hv1,hv2⟩:=hv;have hx:x.length=s:=h x zsy;have hvs:v.cells.size=s:=by rw[←hx,←hv1];simp
   have hkl:(k+1+xss.length) * s<=cells.length:=by rw[show k+1+xss.length=k+(x::xss).length by simp;omega];exact hl
   have hks:k * s+s<=cells.length:=by have:(k+1) * s<=(k+1+xss.length) * s:=Z35 _ zoy;rw[Z2r,Nat.one_mul]at this;omega
   simp only[Z13,List.range'_succ,List.zip_cons_cons,Instr.fill];rw[if_neg zuy];rw[Qf2 v.cells cells (k * s) zoy];rw[Qin s xss (k+1) _ (fun y hy=>h y (by simp[hy])) (by simp at hvs ⊢;omega) vs hv2];congr 1;have hvl:v.cells.toList.length=s:=by simpa using hvs
   apply Qz6;simp only[Z0j,←hv1];have e1:(cells.take (k * s)++v.cells.toList++cells.drop (k * s+v.cells.toList.length)).take ((k+1) * s)=cells.take (k * s)++v.cells.toList:=by rw[Z2i (by simp[hvl,Z2r];omega)];rw[Z2k (by simp[hvl,Z2r];omega)]
   have e2:(cells.take (k * s)++v.cells.toList++cells.drop (k * s+v.cells.toList.length)).drop ((k+1+xss.length) * s)=cells.drop ((k+(xss.length+1)) * s):=by
    rw[List.drop_append];have hlen:(cells.take (k * s)++v.cells.toList).length=k * s+s:=by simp[hvl];omega
    have hge:k * s+s<=(k+1+xss.length) * s:=by have:(k+1) * s<=(k+1+xss.length) * s:=Z35 _ zoy;rw[Z2r,Nat.one_mul]at this;exact this
    rw[Z08 (by rw[hlen];exact hge),hlen,List.drop_drop,hvl,Z25];congr 1;rw[show k+(xss.length+1)=k+1+xss.length by omega];omega
   rw[e1,e2];simp
theorem Qb7{ti tj:TI}(ht:TIOk P t ti)(hk:ti.kind=2)(hj:TIOk P ti.elem tj){vs:List Value}{xss:List (List Value)}(hv:vs.map (fun v=>v.cells.toList)=xss)
  (hn:xss.length=n) (hx:∀x∈xss,x.length=tj.size) (hs:n * tj.size<=16777216) (hn0:n≠0) (w:World):
  (Instr.buildSlice t n ((List.range' 0 n).zip vs).toArray).run P w=.ok (.slice (some ⟨w.heap.size,0,none⟩) n n) (w.alloc (.cells xss.flatten.toArray ti.elem)):=by
 obtain⟨z,hz,hzr⟩:=hj.run_zero w;have hpos:=hj.pos;have hne:n * tj.size≠0:=by intro e;rcases Nat.mul_eq_zero.1 e with h|h <;> contradiction
 have hfl:xss.flatten.length=n * tj.size:=by
  rw[List.length_flatten];have:xss.map List.length=List.replicate n tj.size:=by rw[←hn];apply List.ext_getElem zsy;intro i h1 h2;simp at h1;simp[hx]
  rw[this];simp
 have hf:=Qin tj.size xss 0 ((List.range (n * tj.size)).map (fun i=>z.cells[i % z.cells.size]!)) hx (by simp[hn]) vs hv;rw[hn]at hf;have hfin:(List.take (0 * tj.size) ((List.range (n * tj.size)).map (fun i=>z.cells[i % z.cells.size]!))++xss.flatten++List.drop ((0+n) * tj.size) ((List.range (n * tj.size)).map (fun i=>z.cells[i % z.cells.size]!)))=xss.flatten:=by simp
 rw[hfin]at hf;simp only[Instr.buildSlice,Z3s,run_underlying (ht.slice hk),Z3r,hj.run_sizeOf,Sem.run_ite,Z3t];rw[if_neg zoy,if_neg hne,hzr];simp only[Z3r];have harr:(Array.range (n * tj.size)).map (fun i=>z.cells[i % z.cells.size]!)=((List.range (n * tj.size)).map (fun i=>z.cells[i % z.cells.size]!)).toArray:=by apply Qz6;simp
 rw[harr,hf];simp[newRow]
theorem aOp_ok{x:Option FV}(hT:TabOk P T)(hi:Inv Γ F w C σ)(hf:FrOk w C N fr a.tmps)(h:aOp T Γ o.op fr σ=some (x,σ')):Runs P Γ F w C a o x σ':=by
 obtain⟨dst,op,type,pos,after,guard⟩:=o;simp only at h;unfold aOp at h;split at h
 · -- move
  rename_i x';cases h1:aEval Γ fr x' with
  |none=>rw[h1]at h;cases h
  |some v=>
   rw[h1]at h;cases h;exact Runs.val hi rfl (Q01 hi hf h1)
 · -- assign
  rename_i x';cases h1:aEval Γ fr x' with
  |none=>rw[h1]at h;cases h
  |some v=>
   rw[h1]at h;cases h;exact Runs.val hi rfl (Q01 hi hf h1)
 · -- pick
  rename_i c x' y;split at h
  ·rename_i h1;have hc:=Q01 hi hf h1;simp only[RF,R]at hc;cases h2:aEval Γ fr x' with
   |none=>rw[h2]at h;cases h
   |some v=>
    rw[h2]at h;cases h;exact Runs.val hi (by simp[execOp,hc.1,asBool]) (Q01 hi hf h2)
  ·rename_i h1;have hc:=Q01 hi hf h1;simp only[RF,R]at hc;cases h2:aEval Γ fr y with
   |none=>rw[h2]at h;cases h
   |some v=>
    rw[h2]at h;cases h;exact Runs.val hi (by simp[execOp,hc.1,asBool]) (Q01 hi hf h2)
  ·cases h
 · -- alloc
  rename_i t;cases h1:Tab.get t T with
  |none=>rw[h1]at h;cases h
  |some ti=>
   rw[h1]at h;cases h;have ht:=hT t ti h1;obtain⟨z,hz,hzr⟩:=ht.run_zero w;obtain⟨C',he,hlb,hnp,hin,hok,hbk⟩:=hi.newObj (Qdr ti.zero ht.one) t;have hcells:z.cells=ti.zero.toArray:=by rw[←hz]
   refine⟨.value (.pointer (some ⟨w.heap.size,0,none⟩)),w.alloc (.cells ti.zero.toArray t),C',?_,Stp.alloc hi.base _ _,he,Z2y hlb.symm,hnp,hin,_,rfl,hok,by rw[hbk]⟩;simp[execOp,Instr.alloc,hzr,newVar,newRow,hcells]
 · -- box
  rename_i t x';cases h1:aEval Γ fr x' with
  |none=>rw[h1]at h;cases h
  |some v=>
   rw[h1]at h;simp only[]at h;cases h2:v.cells with
   |none=>rw[h2]at h;cases h
   |some cs=>
    rw[h2]at h;cases h;have hr:=Qqr h2 (Q01 hi hf h1);obtain⟨C',he,hlb,hnp,hin,hok,hbk⟩:=hi.newObj hr t;refine⟨.value (.pointer (some ⟨w.heap.size,0,none⟩)),w.alloc (.cells (a.eval x').cells.toList.toArray t),C',?_,Stp.alloc hi.base _ _,he,Z2y hlb.symm,hnp,hin,_,rfl,hok,by rw[hbk]⟩;simp[execOp,Instr.box,newVar,newRow]
 · -- build
  rename_i t parts;cases h1:Tab.get t T with
  |none=>rw[h1]at h;cases h
  |some ti=>
   rw[h1]at h;simp only[]at h;cases hb:(Nat.beq ti.kind 1&&ti.flds.all (fun x=>(Tab.get x.2 T).isSome)) with
   |false=>rw[hb]at h;cases h
   |true=>
    rw[hb]at h;simp only[cond_true]at h;simp only[Qzc]at hb;cases h2:aFill Γ fr T ti.flds (ti.zero.map .lit) parts.toList with
    |none=>rw[h2]at h;cases h
    |some cs=>
     rw[h2]at h;cases h;have ht:=hT t ti h1;obtain⟨z,hz,hzr⟩:=ht.run_zero w;obtain⟨fs,hfs,hur⟩:=ht.run_struct w (Z2v hb.1);obtain⟨ps,hps,hpp⟩:∃ps:Array (Nat×Nat),(fs.mapM (fun f=>do pure (f.offset,←sizeOf f.type)):Sem (Array (Nat×Nat))).run P w=.ok ps w/\
       ∀(i off:Nat) (ty:TypeId) (tj:TI),ti.flds[i]?=some (off,ty)->Tab.get ty T=some tj->ps[i]?=some (off,tj.size):=Qgq hT hfs hb.2
     obtain⟨ys,hy,hyr⟩:=Qqc (t:=t) hT hi hf hfs (ps[·]?) hpp (Qdr ti.zero ht.one) h2;have hcells:z.cells=ti.zero.toArray:=by rw[←hz]
     refine Runs.val hi (u:=.agg ys.toArray) ?_ ⟨ys,rfl,hyr⟩;simp only[execOp,Instr.build,Z3s,hzr,Z3r,hur,hps,hcells];have:(Array.map (fun p:Nat×Operand=>(p.1,a.eval p.2)) parts).toList=parts.toList.map (fun p=>(p.1,a.eval p.2)):=by simp
     rw[this,hy];rfl
 · -- load
  rename_i t x';cases h1:Tab.get t T with
  |none=>rw[h1]at h;cases h
  |some ti=>
   rw[h1]at h;simp only[]at h;cases hb:(ti.agg||Nat.beq ti.size 1) with
   |false=>rw[hb]at h;cases h
   |true=>
    rw[hb]at h;simp only[cond_true]at h;cases h2:aEval Γ fr x' with
    |none=>rw[h2]at h;cases h
    |some v=>
     rw[h2]at h;simp only[]at h;cases h3:aLoad ti σ v with
     |none=>rw[h3]at h;cases h
     |some y=>
      rw[h3]at h;cases h;obtain⟨u,hu,hr⟩:=Qj1 (hT t ti h1) hb hi (Q01 hi hf h2) h3;exact Runs.val hi (by simp[execOp,hu]) hr
 · -- store
  rename_i t x' y';cases h1:Tab.get t T with
  |none=>rw[h1]at h;cases h
  |some ti=>
   rw[h1]at h;simp only[]at h;cases h2:aEval Γ fr x' with
   |none=>rw[h2]at h;cases h
   |some v=>
    cases h3:aEval Γ fr y' with
    |none=>rw[h2,h3]at h;cases h
    |some u=>
     rw[h2,h3]at h;simp only[]at h;cases h4:Qfj ti σ u v with
     |none=>rw[h4]at h;cases h
     |some σ2=>
      rw[h4]at h;cases h;obtain⟨w',hw,s1,s2,s3⟩:=Qny (hT t ti h1) hi (Q01 hi hf h2) (Q01 hi hf h3) h4;exact⟨.skip,w',C,by simp[execOp,hw],s1,s2,Z30 _,NewP.refl _ _,s3,rfl⟩
 · -- fieldAddr
  rename_i s x' f;cases h1:Tab.get s T with
  |none=>rw[h1]at h;cases h
  |some ti=>
   rw[h1]at h;simp only[]at h;cases hb:Nat.beq ti.kind 1 with
   |false=>rw[hb]at h;cases h
   |true=>
    rw[hb]at h;simp only[cond_true]at h;cases h2:ti.flds[f]? with
    |none=>rw[h2]at h;cases h
    |some ot=>
     obtain⟨off,ty⟩:=ot;rw[h2]at h;simp only[]at h;cases h3:Tab.get ty T with
     |none=>rw[h3]at h;cases h
     |some tj=>
      rw[h3]at h;simp only[]at h;cases h4:aEval Γ fr x' with
      |none=>rw[h4]at h;cases h
      |some v=>
       rw[h4]at h;simp only[]at h;cases h5:Q6c off v with
       |none=>rw[h5]at h;cases h
       |some y=>
        rw[h5]at h;cases h;obtain⟨fs,hfs,hur⟩:=(hT s ti h1).run_struct w (Z2v hb);rw[←hfs,Z0w]at h2;cases hfe:fs.toList[f]? with
        |none=>rw[hfe]at h2;cases h2
        |some fd=>
         rw[hfe]at h2;simp at h2;obtain⟨rfl,rfl⟩:=h2;obtain⟨ad,had,hr⟩:=Qba (Q01 hi hf h4) h5;have Qxs:fs[f]?=some fd:=by simpa using hfe
         exact Runs.val hi (by simp[execOp,Instr.fieldAt,hur,Qxs,had,Instr.sureAddr,Qdq (hT _ _ h3)]) hr
 · -- field
  rename_i s x' f;cases h1:Tab.get s T with
  |none=>rw[h1]at h;cases h
  |some ti=>
   rw[h1]at h;simp only[]at h;cases hb:Nat.beq ti.kind 1 with
   |false=>rw[hb]at h;cases h
   |true=>
    rw[hb]at h;simp only[cond_true]at h;cases h2:ti.flds[f]? with
    |none=>rw[h2]at h;cases h
    |some ot=>
     obtain⟨off,ty⟩:=ot;rw[h2]at h;simp only[]at h;cases h3:Tab.get ty T with
     |none=>rw[h3]at h;cases h
     |some tj=>
      rw[h3]at h;simp only[]at h;split at h
      ·rename_i cs h4;cases hc:((tj.agg||Nat.beq tj.size 1)&&Nat.ble (off+tj.size) cs.length) with
       |false=>rw[hc]at h;cases h
       |true=>
        rw[hc]at h;simp only[cond_true]at h;simp only[Qzc]at hc;rw[Q1b]at h;cases h5:mkFV tj.agg ((cs.drop off).take tj.size) with
        |none=>rw[h5]at h;cases h
        |some y=>
         rw[h5]at h;cases h;obtain⟨fs,hfs,hur⟩:=(hT s ti h1).run_struct w (Z2v hb);rw[←hfs,Z0w]at h2;cases hfe:fs.toList[f]? with
         |none=>rw[hfe]at h2;cases h2
         |some fd=>
          rw[hfe]at h2;simp at h2;obtain⟨rfl,rfl⟩:=h2;have Qxs:fs[f]?=some fd:=by simpa using hfe
          obtain⟨xs,hxs,hr⟩:=Q01 hi hf h4;have hle:fd.offset+tj.size<=cs.length:=Z2x hc.2;have hl:=RV.length hr;have Qxt:(part fd.type xs.toArray fd.offset).run P w=.ok (valOf tj.agg ((xs.drop fd.offset).take tj.size)) w:=by
           have htj:=hT _ _ h3;simp only[part,Z3s,htj.run_isAgg,Z3r];cases hag:tj.agg with
           |true=>
            simp only[↓reduceIte,Z3s,htj.run_sizeOf,Z3r,Z3t,valOf];congr 2;apply Qz6;simp
           |false=>
            have h1':tj.size=1:=by have:=hc.1;rw[hag]at this;simpa using this
            have hlt:fd.offset < xs.length:=by omega
            have hx:xs.toArray[fd.offset]?=some xs[fd.offset]:=by simp[hlt]
            rw[Z07 hlt,h1',hx];rfl
          refine Runs.val hi (u:=valOf tj.agg ((xs.drop fd.offset).take tj.size)) ?_ (Qg5 h5 (RV.take _ (RV.drop _ hr)));simp[execOp,Instr.field,hur,Qxs,hxs,asAgg,Qxt]
      ·cases h
 · -- binOp
  rename_i op' xt x' y' yt;cases h1:aEval Γ fr x' with
  |none=>rw[h1]at h;cases h
  |some v=>
   cases h2:aEval Γ fr y' with
   |none=>rw[h1,h2]at h;cases h
   |some u=>
    rw[h1,h2]at h;simp only[]at h;cases h3:aBin op' v u with
    |none=>rw[h3]at h;cases h
    |some z=>
     rw[h3]at h;cases h;have hv:=Q01 hi hf h1;have hu:=Q01 hi hf h2;unfold aBin at h3;split at h3
     ·rename_i j x k y;cases hb:Qm7 j k with
      |false=>rw[hb]at h3;cases h3
      |true=>
       rw[hb]at h3;simp only[cond_true]at h3;obtain rfl:=Qm6 hb;cases h4:Qd6 op' x y with
       |none=>rw[h4]at h3;cases h3
       |some b=>
        rw[h4]at h3;cases h3;simp only[RF,R]at hv hu;refine Runs.val hi (u:=.bool b) ?_ ⟨rfl,rfl⟩;simp only[execOp,hv.1,hu.1,eqGuard_at_int,Z3s,Z3t,Z3r,Qmf h4]
     ·rename_i x y;cases h4:Qcl op' x y with
      |none=>rw[h4]at h3;cases h3
      |some b=>
       rw[h4]at h3;cases h3;simp only[RF,R]at hv hu;refine Runs.val hi (u:=.bool b) ?_ ⟨rfl,rfl⟩;simp only[execOp,hv.1,hu.1,eqGuard_at_string,Z3s,Z3t,Z3r,Qkr h4]
     ·cases h3
 · -- not
  rename_i t x';split at h
  ·rename_i b h1;cases h;have hv:=Q01 hi hf h1;simp only[RF,R]at hv;exact Runs.val hi (u:=.bool (!b)) (by simp[execOp,hv.1,Op.unary]) ⟨rfl,rfl⟩
  ·cases h
 · -- extract
  rename_i x' i;split at h
  ·rename_i vs h1;cases h2:vs[i]? with
   |none=>rw[h2]at h;cases h
   |some v=>
    rw[h2]at h;cases h;obtain⟨xs,hx,hr⟩:=Q01 hi hf h1;obtain⟨u,hu,hur⟩:=RFs.get hr h2;exact Runs.val hi (by simp[execOp,Instr.extract,hx,hu]) hur
  ·cases h
 · -- makeFunc
  rename_i f first caps
  split at h
  ·rename_i xs ys h1 h2;cases h;refine Runs.val hi (u:=.func f (first.map a.eval) (caps.map a.eval)) (by simp[execOp,Instr.makeFunc]) ?_;exact⟨first.toList.map a.eval,caps.toList.map a.eval,by congr 1 <;> (apply Qz6;simp),mapM_ok hi hf h1,mapM_ok hi hf h2⟩
  ·cases h
 · -- nilCheck
  rename_i x';split at h
  ·rename_i i off h1;cases h;have hv:=Q01 hi hf h1;simp only[RF,R]at hv;exact Runs.val hi (u:=a.eval x') (by simp[execOp,hv.2]) (by simp only[RF,R];exact hv)
  ·rename_i cs h1;cases h;have hv:=Q01 hi hf h1;have hv':=hv;simp only[RF,R]at hv;obtain⟨ad,h2,_⟩:=hv;exact Runs.val hi (u:=a.eval x') (by simp[execOp,h2]) hv'
  ·cases h
 · -- len
  rename_i args argTypes;split at h
  ·rename_i x' t ha hat;split at h
   ·rename_i ti v h1 h2;have hv:=Q01 hi hf h2;have hargs:args=#[x']:=by apply Qz6;simpa using ha
    have hats:argTypes=#[t]:=by apply Qz6;simpa using hat
    subst hargs;subst hats;cases hb:Nat.beq ti.kind 2 with
    |true=>
     rw[hb]at h;simp only[cond_true]at h;cases h3:aLen v with
     |none=>rw[h3]at h;cases h
     |some y=>
      rw[h3]at h;cases h;obtain⟨u,hu,hr⟩:=aLen_ok (hT t ti h1) (Z2v hb) hv h3 type;exact Runs.val hi (by simp[execOp,resolve,invoke,builtin,hu]) hr
    |false=>
     rw[hb]at h;simp only[cond_false]at h;cases hb5:Nat.beq ti.kind 5 with
     |false=>rw[hb5]at h;cases h
     |true=>
      rw[hb5]at h;simp only[cond_true]at h;split at h
      ·rename_i s;cases h;simp only[RF,R]at hv;obtain⟨i,d,z,g1,g2,g3,g4,g5,g6,g7,g8⟩:=(hT t ti h1).ex;simp only[kindOf,Z2v hb5]at g8;subst g8;exact Runs.val hi (u:=.int .i64 s.size) (by simp[execOp,resolve,invoke,builtin,Builtin.len_,run_underlying g2,hv.1,goInt]) ⟨rfl,rfl⟩
      ·cases h
   ·cases h
  ·cases h
 · -- buildSlice
  rename_i t len parts;cases h1:Tab.get t T with
  |none=>rw[h1]at h;cases h
  |some ti=>
   rw[h1]at h;simp only[]at h;cases hb:Nat.beq ti.kind 2 with
   |false=>rw[hb]at h;cases h
   |true=>
    rw[hb]at h;simp only[cond_true]at h;cases h2:Tab.get ti.elem T with
    |none=>rw[h2]at h;cases h
    |some tj=>
     rw[h2]at h;simp only[]at h;cases h3:Qb2 Γ fr tj.size 0 parts.toList with
     |none=>rw[h3]at h;cases h
     |some es=>
      rw[h3]at h;simp only[]at h;cases hc:(Nat.beq es.length len&&Nat.ble (len * tj.size) 16777216&&!(Nat.beq len 0)) with
      |false=>rw[hc]at h;cases h
      |true=>
       rw[hc]at h;simp only[cond_true,Z3o,Z3p]at h;obtain⟨rfl,rfl⟩:=h;simp only[Qzc]at hc;have e1:es.length=len:=Z2v hc.1.1;have e2:len * tj.size<=16777216:=Z2x hc.1.2;have e3:len≠0:=by intro e;subst e;simp at hc
       obtain⟨g1,g2,xss,g3,g4⟩:=Qfk hi hf tj.size h3;have hlen:xss.length=es.length:=by rw[g3];simpa using g2
       have hxs:∀x∈xss,x.length=tj.size:=by intro x hx;obtain⟨i,hil,hie⟩:=List.getElem_of_mem hx;have he:es[i]?=some (es[i]'(by omega)):=Z0t zoy;obtain⟨k1,k2⟩:=g4 i _ x he (by rw[Z0t hil,hie]);rw[RV.length k2,k1]
       have hrun:=Qb7 (hT t ti h1) (Z2v hb) (hT _ _ h2) (n:=len) (vs:=parts.toList.map (fun p=>a.eval p.2)) (xss:=xss) (by rw[g3];simp) zoy hxs e2 e3 w;obtain⟨C',he,hlb,hnp,hin,hpr⟩:=hi.newRow xss.flatten ti.elem;have Qx2:Array.map (fun p:Nat×Operand=>(p.1,a.eval p.2)) parts=((List.range' 0 len).zip (parts.toList.map (fun p=>a.eval p.2))).toArray:=by apply Qz6;rw[show len=parts.toList.length by rw[←e1,g2],←g1];simp[List.zip_map']
       refine⟨.value (.slice (some ⟨w.heap.size,0,none⟩) len len),w.alloc (.cells xss.flatten.toArray ti.elem),C',?_,Stp.alloc hi.base _ _,he,Z2y hlb.symm,hnp,hin,_,rfl,?_⟩
       ·simp only[execOp,Z3s];rw[show (Array.map (fun x:Nat×Operand=>match x with|(i,x)=>(i,a.eval x)) parts)=Array.map (fun p:Nat×Operand=>(p.1,a.eval p.2)) parts from rfl,Qx2,hrun];rfl
       ·refine⟨_,_,by rw[e1],by omega,.inr ⟨_,rfl,rfl,?_⟩⟩;refine RS.of_new (xss:=xss) 0 hlen (fun i e x h5 h6=>?_) (fun j v hj=>?_) hpr
        ·obtain⟨k1,k2⟩:=g4 i e x h5 h6;exact⟨k1,k2.ext he⟩
        ·rw[World.cell?_alloc_new];simpa using hj
 ·cases h
end
end Go.Abs
namespace Go.Abs
structure Env where
 P:Program
 T:Tab
 Γ:List (Nat×List AC)
 N:Nat
 ds:List Deferred
def isO:Id->Prop
 |.l _=>False
 |.o _=>True
structure Goes (F:Nat->Prop)(p:Id->Prop)(w:World)(C:Ctx)(w':World)(C':Ctx):Prop where
 stp:Stp F w w'
 chg:Chg p w C w' C'
 no:C.no<=C'.no
 newp:NewP F C C'
theorem Goes.refl(F:Nat->Prop)(p:Id->Prop)(w:World)(C:Ctx):Goes F p w C w C:=⟨Stp.refl _ _,Chg.refl _ _ _,Z30 _,NewP.refl _ _⟩
theorem Goes.trans{F:Nat->Prop}{p:Id->Prop}{w1 w2 w3:World}{C1 C2 C3:Ctx}(h:Goes F p w1 C1 w2 C2)(k:Goes F p w2 C2 w3 C3):Goes F p w1 C1 w3 C3:=
 ⟨h.stp.trans k.stp,h.chg.trans k.chg,Z31 h.no k.no,h.newp.trans k.newp⟩
theorem Goes.weaken{F:Nat->Prop}{p q:Id->Prop}{w w':World}{C C':Ctx}(h:Goes F p w C w' C')(hq:∀i,q i->p i):Goes F q w C w' C':=⟨h.stp,h.chg.weaken hq,h.no,h.newp⟩
theorem Goes.toO{C C':Ctx}(h:Goes F (fun _=>True) w C w' C'):Goes F isO w C w' C':=h.weaken fun _ _=>trivial
theorem Goes.drew{Γ:List (Nat×List AC)}{F:Nat->Prop}{w:World}{C:Ctx}{σ:St}(hi:Inv Γ F w C σ):Goes F (fun _=>True) w C w.drew C:=⟨Stp.drew _ _,hi.drew.1,Z30 _,NewP.refl _ _⟩
def AStep (E:Env)(o:Oper)(fr:Fr)(σ:St)(x:FV)(σ':St):Prop:=
 ∀(F:Nat->Prop) (w:World) (C:Ctx) (tmps:Array Value),Inv E.Γ F w C σ->FrOk w C E.N fr tmps->
  ∀(next:Act->World->Prop) (Q:Exit->Act->World->Prop),
   (∀(u:Value) (w':World) (C':Ctx),Goes F (fun _=>True) w C w' C'->Inv E.Γ F w' C' σ'->RF w' C' x u->next (Act.put ⟨tmps,E.ds⟩ o.dst u) w')->o.wp E.P ⟨tmps,E.ds⟩ w next Q
theorem Qqs{E:Env}{fr:Fr}{σ σ':St}{x:FV}(hT:TabOk E.P E.T)(h:aOp E.T E.Γ o.op fr σ=some (some x,σ')):AStep E o fr σ x σ':=by
 intro F w C tmps hi hf next Q hk
 obtain⟨r,w',C',h1,h2,h3,h4,h5,h6,u,rfl,hu⟩:=aOp_ok (a:=⟨tmps,E.ds⟩) hT hi hf h;unfold Oper.wp;rw[h1,Z3f];exact hk u w' C' ⟨h2,h3,h4,h5⟩ h6 hu
theorem Qqt{E:Env}{fr:Fr}{σ σ':St}(hT:TabOk E.P E.T)(h:aOp E.T E.Γ o.op fr σ=some (none,σ')):AStep E o fr σ .bot σ':=by
 intro F w C tmps hi hf next Q hk
 obtain⟨r,w',C',h1,h2,h3,h4,h5,h6,rfl⟩:=aOp_ok (a:=⟨tmps,E.ds⟩) hT hi hf h;unfold Oper.wp;rw[h1,Oper.upon_skip];exact hk undef w' C' ⟨h2,h3,h4,h5⟩ h6 (by simp[RF])
def putFr (dst:Option Tmp)(x:FV)(fr:Fr):Fr:=
 match dst with
 |some d=>(d,x)::fr
 |none=>fr
def dstOk (N:Nat):Option Tmp->Bool
 |some d=>Nat.blt d N
 |none=>true
theorem Q2i{C:Ctx}{fr:Fr}{ds:List Deferred}(hf:FrOk w C N fr tmps){dst:Option Tmp}{x:FV}(hd:dstOk N dst=true)(hr:RF w C x u):
  FrOk w C N (putFr dst x fr) (Act.put ⟨tmps,ds⟩ dst u).tmps:=by
 cases dst with
 |none=>exact hf
 |some d=>
  have:d < N:=Z2x (show Nat.ble (d+1) N=true from hd);exact hf.put this hr
theorem put_defers(tmps:Array Value)(ds:List Deferred)(dst:Option Tmp)(u:Value):(Act.put ⟨tmps,ds⟩ dst u).defers=ds:=by cases dst <;> rfl
theorem Q3d(tmps:Array Value)(ds:List Deferred)(dst:Option Tmp)(u:Value):Act.put ⟨tmps,ds⟩ dst u=⟨(Act.put ⟨tmps,ds⟩ dst u).tmps,ds⟩:=by cases dst <;> rfl
abbrev Cont:=Exit->Fr->St->Prop
def Post (E:Env)(F:Nat->Prop)(w:World)(C:Ctx)(K:Cont):Exit->Act->World->Prop:=fun e a w'=>
 a.defers=E.ds/\∃fr' σ' C',Goes F isO w C w' C'/\Inv E.Γ F w' C' σ'/\FrOk w' C' E.N fr' a.tmps/\K e fr' σ'
def AOps (E:Env)(ops:Array Oper)(l:List Oper)(K:Cont)(fr:Fr)(σ:St):Prop:=
 ∀(F:Nat->Prop) (w0:World) (C0:Ctx) (w:World) (C:Ctx) (tmps:Array Value),Goes F isO w0 C0 w C->Inv E.Γ F w C σ->FrOk w C E.N fr tmps->wpList E.P ops (Post E F w0 C0 K) l ⟨tmps,E.ds⟩ w
def ACode (E:Env)(c:Code)(K:Cont)(fr:Fr)(σ:St):Prop:=
 ∀(F:Nat->Prop) (w0:World) (C0:Ctx) (w:World) (C:Ctx) (tmps:Array Value),Goes F isO w0 C0 w C->Inv E.Γ F w C σ->FrOk w C E.N fr tmps->c.wp E.P (Post E F w0 C0 K) ⟨tmps,E.ds⟩ w
section
variable {E:Env}{ops:Array Oper}{rest:List Oper}{o:Oper}{K:Cont}{fr:Fr}{σ σ':St}{x:FV}
theorem AOps.nil(h:K .normal fr σ):AOps E ops [] K fr σ:=fun F w0 C0 w C tmps hg hi hf=>⟨rfl,fr,σ,C,hg,hi,hf,h⟩
theorem AOps.step(hgd:o.guard=none)(hd:dstOk E.N o.dst=true)(hs:AStep E o fr σ x σ')(h:AOps E ops rest K (putFr o.dst x fr) σ'):AOps E ops (o::rest) K fr σ:=by intro F w0 C0 w C tmps hg hi hf;refine wpList_plain hgd fun N' hN=>hs F w C tmps hi hf N' _ fun u w' C' hgo hi' hr=>?_;refine hN _ _ ?_;rw[Q3d];exact h F w0 C0 w' C' _ (hg.trans hgo.toO) hi' (Q2i (hf.ext hgo.chg) hd hr)
theorem AOps.store(hT:TabOk E.P E.T)(hgd:o.guard=none)(hd:o.dst=none)(hs:aOp E.T E.Γ o.op fr σ=some (none,σ'))(h:AOps E ops rest K fr σ'):AOps E ops (o::rest) K fr σ:=
 AOps.step hgd (by rw[hd];rfl) (Qqt hT hs) (by rw[hd];exact h)
def Q11 (ops:Array Oper)(j:Nat):Option Tmp:=(ops[j]?).bind (·.dst)
theorem Q5z{C:Ctx}(hf:FrOk w C N fr tmps)(hj:Q11 ops j=some d)(hb:Fr.get d fr=some (.one (.lit (.bool b)))):yielded ops tmps j=some b:=by obtain⟨u,hu,hr⟩:=hf.2 d _ hb;simp only[RF,R]at hr;unfold Q11 at hj;simp[yielded,hj,hu,hr.1]
theorem FrOk.refine{w:World}{C:Ctx}{N:Nat}{tmps:Array Value}(hf:FrOk w C N fr tmps){d:Nat}{x y:FV}(hx:Fr.get d fr=some x)(h:∀u,RF w C x u->RF w C y u):FrOk w C N ((d,y)::fr) tmps:=by
 refine⟨hf.1,fun k z hk=>?_⟩;simp only[Fr.get]at hk;by_cases e:d=k
 ·subst e;simp at hk;subst hk;obtain⟨u,hu,hr⟩:=hf.2 d x hx;exact⟨u,hu,h u hr⟩
 ·rw[Q06 e]at hk;exact hf.2 k z hk
theorem Qqu(hgd:o.guard=some (j,b))(hj:Q11 ops j=some d)(hb:Fr.get d fr=some (.one (.lit (.bool b))))(hd:dstOk E.N o.dst=true)(hs:AStep E o fr σ x σ')
  (h:AOps E ops rest K (putFr o.dst x fr) σ'):AOps E ops (o::rest) K fr σ:=by
 intro F w0 C0 w C tmps hg hi hf;refine wpList_step fun N' hN=>?_;have hy:=Q5z hf hj hb;have hw:Region.wanted o (yielded ops tmps)=true:=by simp[Region.wanted,hgd,hy]
 simp only[];rw[if_pos hw];refine hs F w C tmps hi hf N' _ fun u w' C' hgo hi' hr=>?_;refine hN _ _ ?_;rw[Q3d];exact h F w0 C0 w' C' _ (hg.trans hgo.toO) hi' (Q2i (hf.ext hgo.chg) hd hr)
def gNo (x:FV)(want:Bool):Bool:=
 match x with
 |.one (.lit (.bool b))=>!(b==want)
 |.tup []=>true
 |_=>false
theorem Qdu{C:Ctx}(hf:FrOk w C N fr tmps){want:Bool}{x:FV}(hgd:o.guard=some (j,want))(hj:Q11 ops j=some d)(hb:Fr.get d fr=some x)(hx:gNo x want=true):Region.wanted o (yielded ops tmps)=false:=by
 unfold gNo at hx;split at hx
 ·rename_i b;have hy:=Q5z hf hj hb;have Qxm:b≠want:=by intro e;subst e;simp at hx
  simp[Region.wanted,hgd,hy,Qxm]
 ·obtain⟨u,hu,hr⟩:=hf.2 d _ hb;obtain⟨xs,rfl,hxs⟩:=hr;simp only[RFs]at hxs;subst hxs;unfold Q11 at hj;simp[Region.wanted,hgd,yielded,hj,hu]
 ·cases hx
theorem Qqv{x:FV}(hgd:o.guard=some (j,b))(hj:Q11 ops j=some d)(hb:Fr.get d fr=some x)(hx:gNo x b=true)(hd:dstOk E.N o.dst=true)
  (h:AOps E ops rest K (putFr o.dst (.tup []) fr) σ):AOps E ops (o::rest) K fr σ:=by
 intro F w0 C0 w C tmps hg hi hf;refine wpList_step fun N' hN=>?_;have hw:=Qdu (o:=o) hf hgd hj hb hx;simp only[];rw[if_neg (by rw[hw];simp)];refine hN _ _ ?_;rw[Q3d];exact h F w0 C0 w C _ hg hi (Q2i hf hd ⟨[],rfl,rfl⟩)
theorem AOps.split(hb:Fr.get d fr=some (.one (.lit (.bool b))))(ht:b=true->AOps E ops rest K ((d,.one (.lit (.bool true)))::fr) σ)(hf:b=false->AOps E ops rest K ((d,.one (.lit (.bool false)))::fr) σ):AOps E ops rest K fr σ:=by
 intro F w0 C0 w C tmps hg hi hfr;cases b with
 |true=>exact ht rfl F w0 C0 w C tmps hg hi (hfr.refine hb (fun _ h=>h))
 |false=>exact hf rfl F w0 C0 w C tmps hg hi (hfr.refine hb (fun _ h=>h))
inductive AItem where
 |code (c:Code)
 |blk (id:Nat)
 |inv (J:Fr->St->Prop)
 |pan (J:List PanicEntry->St->Prop)
def Q05 (E:Env)(Fin:Fr->St->Prop):List AItem->Cont
 |[],.normal,fr,σ=>Fin fr σ
 |[],.ret,fr,σ=>Fin fr σ
 |[],_,_,_=>False
 |.code c::k,.normal,fr,σ=>ACode E c (Q05 E Fin k) fr σ
 |.code _::k,e,fr,σ=>Q05 E Fin k e fr σ
 |.blk _::k,.normal,fr,σ=>Q05 E Fin k .normal fr σ
 |.blk id::k,.exit j,fr,σ=>bif Nat.beq j id then Q05 E Fin k .normal fr σ else Q05 E Fin k (.exit j) fr σ
 |.blk _::k,e,fr,σ=>Q05 E Fin k e fr σ
 |.inv J::_,.normal,fr,σ=>J fr σ
 |.inv _::k,e,fr,σ=>Q05 E Fin k e fr σ
 |.pan J::_,.panic ps,_,σ=>J ps σ
 |.pan _::k,e,fr,σ=>Q05 E Fin k e fr σ
variable {Fin:Fr->St->Prop}{k:List AItem}
theorem ACode.seq{x y:Code}(h:ACode E x (Q05 E Fin (.code y::k)) fr σ):ACode E (.seq x y) (Q05 E Fin k) fr σ:=by
 intro F w0 C0 w C tmps hg hi hf;refine wp_seq (wp_mono (h F w0 C0 w C tmps hg hi hf) fun e a w' hp=>?_);obtain⟨hd,fr',σ',C',hg',hi',hf',hk⟩:=hp;cases e with
 |normal=>
  have:a=⟨a.tmps,E.ds⟩:=by cases a;simp_all
  rw[this];exact hk F w0 C0 w' C' a.tmps hg' hi' hf'
 |_=>exact⟨hd,fr',σ',C',hg',hi',hf',hk⟩
theorem ACode.skip(h:Q05 E Fin k .normal fr σ):ACode E .skip (Q05 E Fin k) fr σ:=fun F w0 C0 w C tmps hg hi hf=>wp_skip ⟨rfl,fr,σ,C,hg,hi,hf,h⟩
theorem ACode.exit{id:Nat}(h:Q05 E Fin k (.exit id) fr σ):ACode E (.exit id) (Q05 E Fin k) fr σ:=fun F w0 C0 w C tmps hg hi hf=>wp_exit ⟨rfl,fr,σ,C,hg,hi,hf,h⟩
theorem ACode.ret(h:Q05 E Fin k .ret fr σ):ACode E .ret (Q05 E Fin k) fr σ:=fun F w0 C0 w C tmps hg hi hf=>wp_ret ⟨rfl,fr,σ,C,hg,hi,hf,h⟩
theorem ACode.block{id:Nat}{c:Code}(h:ACode E c (Q05 E Fin (.blk id::k)) fr σ):ACode E (.block id c) (Q05 E Fin k) fr σ:=by
 intro F w0 C0 w C tmps hg hi hf;refine wp_block (wp_mono (h F w0 C0 w C tmps hg hi hf) fun e a w' hp=>?_);obtain⟨hd,fr',σ',C',hg',hi',hf',hk⟩:=hp;cases e with
 |exit j=>
  simp only[Exit.inBlock];by_cases e:j=id
  ·subst e;rw[if_pos rfl];refine⟨hd,fr',σ',C',hg',hi',hf',?_⟩;simpa[Q05]using hk
  ·rw[if_neg e];refine⟨hd,fr',σ',C',hg',hi',hf',?_⟩;simp only[Q05,Q06 e,cond_false]at hk;exact hk
 |_=>exact⟨hd,fr',σ',C',hg',hi',hf',hk⟩
theorem ACode.cond{c:Operand}{x y:Code}{b:Bool}(hc:aEval E.Γ fr c=some (.one (.lit (.bool b))))(ht:b=true->ACode E x K fr σ)(hf:b=false->ACode E y K fr σ):ACode E (.cond c x y) K fr σ:=by intro F w0 C0 w C tmps hg hi hfr;have hr:=Q01 (a:=⟨tmps,E.ds⟩) hi hfr hc;simp only[RF,R]at hr;exact wp_cond_split hr.1 (fun e=>ht e F w0 C0 w C tmps hg hi hfr) (fun e=>hf e F w0 C0 w C tmps hg hi hfr)
theorem ACode.region{id:Nat}{l:List Oper}(h:AOps E l.toArray l K fr σ):ACode E (.region id l.toArray false) K fr σ:=
 fun F w0 C0 w C tmps hg hi hf=>wp_region_lit (h F w0 C0 w C tmps hg hi hf)
open Classical in
theorem ACode.loop{c:Code}(I:Nat->Fr->St->Prop){m:Nat}(h0:I m fr σ)(round:∀m fr σ,I m fr σ->ACode E c (Q05 E Fin (.inv (fun fr' σ'=>∃m',m' < m/\I m' fr' σ')::k)) fr σ):ACode E (.loop c) (Q05 E Fin k) fr σ:=by
 intro F w0 C0 w C tmps hg hi hf
 let G:Nat->Act->World->Prop:=fun m a w'=>a.defers=E.ds/\∃fr' σ' C',Goes F isO w0 C0 w' C'/\Inv E.Γ F w' C' σ'/\FrOk w' C' E.N fr' a.tmps/\I m fr' σ'
 have key:∀a w',(∃m,G m a w')->∃m,G m a w'/\∀m',m' < m->¬G m' a w':=by
  intro a w' ⟨m,hm⟩
  induction m using Nat.strongRecOn with
  |_ m ih=>
   by_cases h:∃m',m' < m/\G m' a w'
   ·obtain⟨m',hlt,hm'⟩:=h;exact ih m' hlt hm'
   ·exact⟨m,hm,fun m' hlt hm'=>h ⟨m',hlt,hm'⟩⟩
 let μ:Act->World->Nat:=fun a w'=>if h:∃m,G m a w' then (key a w' h).choose else 0
 refine wp_loop (fun a w'=>∃m,G m a w') μ ⟨m,rfl,fr,σ,C,hg,hi,hf,h0⟩ fun a w' hI=>?_;obtain⟨hG,hmin⟩:=(key a w' hI).choose_spec;have hμ:μ a w'=(key a w' hI).choose:=dif_pos hI;obtain⟨hd,fr',σ',C',hg',hi',hf',hIm⟩:=hG;have hb:=round _ fr' σ' hIm F w0 C0 w' C' a.tmps hg' hi' hf';have ha:a=⟨a.tmps,E.ds⟩:=by cases a;simp_all
 rw[←ha]at hb;refine wp_mono hb fun e a2 w2 hp=>?_;obtain⟨hd2,fr2,σ2,C2,hg2,hi2,hf2,hk⟩:=hp;cases e with
 |normal=>
  obtain⟨m',hlt,hm'⟩:=hk;have hex:∃m,G m a2 w2:=⟨m',hd2,fr2,σ2,C2,hg2,hi2,hf2,hm'⟩;refine⟨hex,?_⟩;rw[hμ];have hμ2:μ a2 w2=(key a2 w2 hex).choose:=dif_pos hex;rw[hμ2];obtain⟨_,hmin2⟩:=(key a2 w2 hex).choose_spec;refine Nat.lt_of_le_of_lt ?_ hlt;rcases Z33 m' (key a2 w2 hex).choose with h|h
  ·exact absurd ⟨hd2,fr2,σ2,C2,hg2,hi2,hf2,hm'⟩ (hmin2 m' h)
  ·exact h
 |_=>exact⟨hd2,fr2,σ2,C2,hg2,hi2,hf2,hk⟩
end
end Go.Abs
namespace Go.Abs
abbrev Outer:=Nat->Option AObj
def AObj.ids (p:Id->Prop):AObj->Prop
 |.cells cs=>idsL p cs
 |.map ck es=>∀x∈es,x.2.2.ids p
 |.iter m _ _ _=>p m
 |.sit _ _=>True
 |.tok _ _ _=>True
 |.dead=>True
def OuOk (ou:Outer):Prop:=∀k o,ou k=some o->o.ids isO
mutual
theorem RF.idsOk{w:World}{C:Ctx}:∀(x:FV)(v:Value),RF w C x v->x.ids C.ok
 |.bot,v,h=>by simp[FV.ids]
 |.one c,v,h=>by simp only[RF,FV.ids]at *;exact R.idsOk c v h
 |.agg cs,v,h=>by simp only[RF,FV.ids]at *;obtain⟨xs,rfl,h⟩:=h;exact RV.idsOk cs xs h
 |.tup vs,v,h=>by simp only[RF,FV.ids]at *;obtain⟨xs,rfl,h⟩:=h;exact RFs.idsOk vs xs h
theorem RFs.idsOk{w:World}{C:Ctx}:∀(vs:List FV)(xs:List Value),RFs w C vs xs->idsF C.ok vs
 |[],_,_=>by simp[idsF]
 |v::vs,xs,h=>by simp only[RFs,idsF]at *;obtain⟨u,us,rfl,h1,h2⟩:=h;exact⟨RF.idsOk v u h1,RFs.idsOk vs us h2⟩
end
theorem RM.idsOk{w:World}{C:Ctx}:∀{r:List (Nat×Value×FV)}{es:List MapEntry},RM w C r es->∀x∈r,x.2.2.ids C.ok
 |[],_,_,x,hx=>by cases hx
 |(b,k,cs)::r,es,h,x,hx=>by
  simp only[RM]at h;obtain⟨e,es',rfl,hk,h1,h3⟩:=h;rcases Z1p.1 hx with rfl|hx
  ·exact RF.idsOk _ _ h1
  ·exact RM.idsOk h3 x hx
mutual
theorem FV.ids_mono{p q:Id->Prop}(h:∀i,p i->q i):∀x:FV,x.ids p->x.ids q
 |.bot,_=>by simp[FV.ids]
 |.one c,hx=>by simp only[FV.ids]at *;exact AC.ids_mono h c hx
 |.agg cs,hx=>by simp only[FV.ids]at *;exact Q18 h cs hx
 |.tup vs,hx=>by simp only[FV.ids]at *;exact Qex h vs hx
theorem Qex{p q:Id->Prop}(h:∀i,p i->q i):∀vs:List FV,idsF p vs->idsF q vs
 |[],_=>by simp[idsF]
 |v::vs,hx=>by simp only[idsF]at *;exact⟨FV.ids_mono h v hx.1,Qex h vs hx.2⟩
end
theorem ObjOk.idsOk{w:World}{C:Ctx}{F:Nat->Prop}{i:Id}{o:AObj}(h:ObjOk w C F i o):o.ids C.ok:=by
 cases o with
 |cells cs=>obtain⟨xs,T,_,_,h,_⟩:=h;exact RV.idsOk cs xs h
 |map ck es=>obtain⟨ents,_,_,h⟩:=h;exact RM.idsOk h
 |iter m since seen last=>exact h.2.2
 |sit s p=>trivial
 |tok e s u=>trivial
 |dead=>trivial
theorem Q4l{C:Ctx}(h:C.nl=0):∀i,C.ok i->isO i:=by
 intro i hi;cases i with
 |l k=>simp only[Ctx.ok,h]at hi;omega
 |o k=>trivial
theorem Qqw{Γ:List (Nat×List AC)}{C:Ctx}{σ:St}(hi:Inv Γ F w C σ)(h0:C.nl=0):OuOk σ.ou:=by
 intro k o ho;have:=(hi.obj (.o k) o ho).2.idsOk;cases o with
 |cells cs=>exact Q18 (Q4l h0) cs this
 |map ck es=>exact fun x hx=>FV.ids_mono (Q4l h0) x.2.2 (this x hx)
 |iter m since seen last=>exact Q4l h0 m this
 |sit s p=>trivial
 |tok e s u=>trivial
 |dead=>trivial
theorem ObjOk.ctx{C C':Ctx}{i:Id}{o:AObj}(h:ObjOk w C F i o)(p:Id->Prop)(Qvd:o.ids p)(hp:p i)(hok:C.ok i)(hc:Chg p w C w C')(Qvm:∀a,C'.prot a->C.prot a)(hF:∀k,F' k->F k):ObjOk w C' F' i o:=by
 obtain⟨_,hblk,htok⟩:=hc.id i hp hok;cases o with
 |cells cs=>
  obtain⟨xs,T,h1,h2,h3,h4⟩:=h;exact⟨xs,T,by rw[hblk];exact h1,by rw[hblk];exact fun hf=>h2 (hF _ hf),RV.chg hc cs xs Qvd h3,fun a ha hpa=>h4 a (by rw[ha,hblk]) (Qvm a hpa)⟩
 |map ck es=>
  obtain⟨ents,h1,h2,h3⟩:=h;exact⟨ents,by rw[hblk];exact h1,by rw[hblk];exact fun hf=>h2 (hF _ hf),RM.chg hc es ents Qvd h3⟩
 |iter m since seen last=>
  obtain⟨h1,h2,h3⟩:=h;obtain⟨m1,m2,_⟩:=hc.id m Qvd h3;exact⟨by rw[hblk,m2];exact h1,by rw[hblk];exact fun hf=>h2 (hF _ hf),m1⟩
 |sit s p=>
  obtain⟨h1,h2⟩:=h;exact⟨by rw[hblk];exact h1,by rw[hblk];exact fun hf=>h2 (hF _ hf)⟩
 |tok e s used=>
  simp only[ObjOk,htok]at *;cases ht:C.tok i with
  |none=>rw[ht]at h;exact h
  |some gc=>
   obtain⟨g,cap⟩:=gc;simp only[ht]at h ⊢;obtain⟨xs,h1,h2,h3,h4,h6,h5⟩:=h;exact⟨xs,h1,fun hf=>h2 (hF _ hf),h3,h4,h6,fun a ha hpa=>h5 a ha (Qvm a hpa)⟩
 |dead=>trivial
theorem Qqx{C C':Ctx}{i:Id}{o:AObj}(p:Id->Prop)(hp:p i)(hok:C.ok i)(hc:Chg p w C w C'):o.block C' i=o.block C i:=by obtain⟨_,hblk,htok⟩:=hc.id i hp hok;cases o <;> simp[AObj.block,hblk,htok]
def AFn (P:Program)(Γ:List (Nat×List AC))(g:Nat)(args:List FV)(ou:Outer)(Q:FV->Outer->Prop):Prop:=
 (∀(as:Array Value) (w:World),(callFunc g as).run P w=.ok (.enter g as) w)/\
 ∀(F:Nat->Prop) (w:World) (C:Ctx) (cargs:List Value),C.nl=0->Inv Γ F w C ⟨0,[],ou⟩->RFs w C args cargs->Calls P g cargs.toArray w fun e w'=>
  ∃v r ou' C',e=.returned v/\Goes F isO w C w' C'/\C'.nl=0/\Inv Γ F w' C' ⟨0,[],ou'⟩/\RF w' C' r v/\Q r ou'
def APure (P:Program)(Γ:List (Nat×List AC))(g:Nat)(args:List FV)(r:FV):Prop:=∀ou,AFn P Γ g args ou (fun r' ou'=>r'=r/\ou'=ou)
theorem AFn.mono{P:Program}{Γ:List (Nat×List AC)}{g:Nat}{args:List FV}{ou:Outer}{Q Q':FV->Outer->Prop}(h:AFn P Γ g args ou Q)(hq:∀r ou',Q r ou'->Q' r ou'):AFn P Γ g args ou Q':=
 ⟨h.1,fun F w C cargs h0 hi hr=>(h.2 F w C cargs h0 hi hr).mono fun e w' ⟨v,r,ou',C',h1,h2,h3,h4,h5,h6⟩=>⟨v,r,ou',C',h1,h2,h3,h4,h5,hq _ _ h6⟩⟩
def Q1g (Γ:List (Nat×List AC))(fr:Fr):List Operand->Option (List FV)
 |[]=>some []
 |x::r=>match aEval Γ fr x with
  |some v=>match Q1g Γ fr r with
   |some vs=>some (v::vs)
   |none=>none
  |none=>none
theorem Q27{Γ:List (Nat×List AC)}{F:Nat->Prop}{w:World}{C:Ctx}{σ:St}{N:Nat}{fr:Fr}{a:Act}(hi:Inv Γ F w C σ)(hf:FrOk w C N fr a.tmps):∀{l:List Operand}{vs:List FV},Q1g Γ fr l=some vs->RFs w C vs (l.map a.eval)
 |[],vs,h=>by simp only[Q1g,Z3o]at h;subst h;simp[RFs]
 |x::l,vs,h=>by
  simp only[Q1g]at h;cases h1:aEval Γ fr x with
  |none=>rw[h1]at h;cases h
  |some v=>
   rw[h1]at h;simp only[]at h;cases h2:Q1g Γ fr l with
   |none=>rw[h2]at h;cases h
   |some us=>
    rw[h2]at h;simp only[Z3o]at h;subst h;exact⟨a.eval x,l.map a.eval,rfl,Q01 hi hf h1,Q27 hi hf h2⟩
theorem RFs.append{w:World}{C:Ctx}:∀{vs:List FV}{xs:List Value}{us:List FV}{ys:List Value},RFs w C vs xs->RFs w C us ys->RFs w C (vs++us) (xs++ys)
 |[],xs,us,ys,h,k=>by simp only[RFs]at h;subst h;simpa using k
 |v::vs,xs,us,ys,h,k=>by simp only[RFs]at h;obtain⟨u,us',rfl,h1,h2⟩:=h;exact⟨u,us'++ys,rfl,h1,RFs.append h2 k⟩
theorem RFs.ones{w:World}{C:Ctx}:∀{cs:List AC}{xs:List Value},RV w C cs xs->RFs w C (cs.map .one) xs
 |[],xs,h=>by simp only[RV]at h;subst h;simp[RFs]
 |c::cs,xs,h=>by simp only[RV]at h;obtain⟨u,us,rfl,h1,h2⟩:=h;exact⟨u,us,rfl,h1,RFs.ones h2⟩
def Q3h (w:World)(C:Ctx)(ou:Outer):Nat->Prop:=fun k=>k < w.heap.size/\∀i o,ou i=some o->o.block C (.o i)≠some k
def Ctx.behind (C C':Ctx):Ctx:=
 { prot:=C'.prot,nl:=C.nl,no:=C'.no,phi:=fun i=>match i with|.l k=>C.phi (.l k)|.o k=>C'.phi (.o k),tk:=fun i=>match i with|.l k=>C.tk (.l k)|.o k=>C'.tk (.o k) }
section
variable {Γ:List (Nat×List AC)}{F:Nat->Prop}{w:World}{C:Ctx}{σ:St}
theorem Qk9(hi:Inv Γ F w C σ):∀k,F k->Q3h w C σ.ou k:=fun k hk=>⟨hi.base k hk,fun i o ho hb=>by have:=(Qqn (hi.obj (.o i) o ho).2 hb).1;exact this hk⟩
abbrev GI (Γ:List (Nat×List AC)):Prop:=∀g cs,(g,cs)∈Γ->idsL isO cs
theorem Inv.forCallee(hi:Inv Γ F w C σ)(hou:OuOk σ.ou)(hΓ:GI Γ):Inv Γ (Q3h w C σ.ou) w { C with nl:=0 } ⟨0,[],σ.ou⟩:=by
 have hc:Chg isO w C w { C with nl:=0 }:=⟨fun _ _=>rfl,fun _ h=>h,fun i hp ho=>⟨by cases i with|l k=>cases hp|o k=>exact ho,rfl,rfl⟩⟩;refine⟨fun k hk=>hk.1,rfl,fun g cs h=>RG.chg hc (hΓ g cs h) (hi.glob g cs h),hi.prot,fun i o h=>?_,fun i j o o' g h1 h2 h3 h4=>?_⟩
 ·cases i with
  |l k=>cases h
  |o k=>
   obtain⟨h1,h2⟩:=hi.obj (.o k) o h;refine⟨h1,?_⟩;have h5:ObjOk w C (Q3h w C σ.ou) (.o k) o:=by
    cases o with
    |cells cs=>
     obtain⟨xs,T,g1,g2,g3,g4⟩:=h2;exact⟨xs,T,g1,fun hf=>hf.2 k _ h rfl,g3,g4⟩
    |map ck es=>
     obtain⟨ents,g1,g2,g3⟩:=h2;exact⟨ents,g1,fun hf=>hf.2 k _ h rfl,g3⟩
    |iter m since seen last=>
     obtain⟨g1,g2,g3⟩:=h2;exact⟨g1,fun hf=>hf.2 k _ h rfl,g3⟩
    |sit s p=>
     obtain⟨g1,g2⟩:=h2;exact⟨g1,fun hf=>hf.2 k _ h rfl⟩
    |tok e s used=>
     simp only[ObjOk]at *;cases ht:C.tok (.o k) with
     |none=>rw[ht]at h2;exact h2
     |some gc=>
      obtain⟨g,cap⟩:=gc;simp only[ht]at h2 ⊢;obtain⟨xs,k1,k2,k3⟩:=h2;exact⟨xs,k1,fun hf=>hf.2 k _ h (by simp[AObj.block,ht]),k3⟩
    |dead=>trivial
   exact h5.ctx isO (hou k o h) trivial h1 hc (fun _ h=>h) (fun _ h=>h)
 ·cases i with
  |l k=>cases h1
  |o k=>cases j with
   |l k=>cases h2
   |o k'=>
    have e1:=Qqx (o:=o) isO (i:=.o k) trivial (hi.obj (.o k) o h1).1 hc;have e2:=Qqx (o:=o') isO (i:=.o k') trivial (hi.obj (.o k') o' h2).1 hc;exact hi.inj (.o k) (.o k') o o' g h1 h2 (by rw[←e1];exact h3) (by rw[←e2];exact h4)
theorem Inv.back(hi:Inv Γ F w C σ){C':Ctx}{ou':Outer}(hg:Goes (Q3h w C σ.ou) isO w { C with nl:=0 } w' C')(h0:C'.nl=0)(hi':Inv Γ (Q3h w C σ.ou) w' C' ⟨0,[],ou'⟩):
  Goes F (fun _=>True) w C w' (C.behind C')/\Inv Γ F w' (C.behind C') { σ with ou:=ou' }/\Chg isO w' C' w' (C.behind C'):=by
 have hc:Chg isO w' C' w' (C.behind C'):=⟨fun _ _=>rfl,fun _ h=>h,fun i hp ho=>by cases i with|l k=>cases hp|o k=>exact⟨ho,rfl,rfl⟩⟩;have he:Ext w C w' (C.behind C'):=⟨hg.chg.cell,hg.chg.prot,fun i _ ho=>by
  cases i with
  |l k=>exact⟨ho,rfl,rfl⟩
  |o k=>exact hg.chg.id (.o k) trivial ho⟩
 have hF:=Qk9 hi;have hnp:NewP F C (C.behind C'):=fun a ha=>(hg.newp a ha).imp id (fun h hf=>h (hF _ hf));refine⟨⟨hg.stp.mono hF,he,hg.no,hnp⟩,⟨fun k hk=>Z32 (hi.base k hk) hg.stp.size,hi.next,fun g cs h=>(hi.glob g cs h).ext he,hi'.prot,fun i o h=>?_,fun i j o o' g h1 h2 h3 h4=>?_⟩,hc⟩
 ·cases i with
  |l k=>
   obtain⟨h1,h2⟩:=hi.obj (.l k) o h;have hcf:∀g,o.block C (.l k)=some g->Q3h w C σ.ou g:=fun g hb=>⟨(Qqn h2 hb).2,fun j p hp hbp=>by have:=hi.inj (.l k) (.o j) o p g h hp hb hbp;cases this⟩;refine⟨(he.id _ trivial h1).1,h2.keep he h1 (fun g x hb hx=>?_) (fun a hb _ ha=>?_)⟩
   ·rw[hg.stp.block g (hcf g hb)];exact hx
   ·exact (hg.newp a ha).resolve_right (fun hn=>hn (hcf _ hb))
  |o k=>
   obtain⟨h1,h2⟩:=hi'.obj (.o k) o h;have Qvd:o.ids isO:=Qqw hi' h0 k o h;exact⟨(hc.id (.o k) trivial h1).1,h2.ctx isO Qvd trivial h1 hc (fun _ h=>h) hF⟩
 ·have key:∀(k k':Nat) (p q:AObj),σ.get (.l k)=some p->ou' k'=some q->p.block (C.behind C') (.l k)=some g->q.block (C.behind C') (.o k')=some g->False:=by intro k k' p q hp hq hbp hbq;have e1:=Qqo he (hi.obj (.l k) p hp).1 (o:=p);rw[e1]at hbp;have e2:=Qqx (o:=q) isO (i:=.o k') trivial (hi'.obj (.o k') q hq).1 hc;rw[e2]at hbq;refine (Qqn (hi'.obj (.o k') q hq).2 hbq).1 ⟨(Qqn (hi.obj _ _ hp).2 hbp).2,fun j r hr hbr=>?_⟩;have:=hi.inj (.l k) (.o j) p r g hp hr hbp hbr;cases this
  cases i with
  |l k=>cases j with
   |l k'=>
    refine hi.inj _ _ o o' g h1 h2 ?_ ?_
    ·rw[←Qqo he (hi.obj (.l k) o h1).1];exact h3
    ·rw[←Qqo he (hi.obj (.l k') o' h2).1];exact h4
   |o k'=>exact (key k k' o o' h1 h2 h3 h4).elim
  |o k=>cases j with
   |l k'=>exact (key k' k o' o h2 h1 h4 h3).elim
   |o k'=>
    have e1:=Qqx (o:=o) isO (i:=.o k) trivial (hi'.obj (.o k) o h1).1 hc;have e2:=Qqx (o:=o') isO (i:=.o k') trivial (hi'.obj (.o k') o' h2).1 hc;exact hi'.inj (.o k) (.o k') o o' g h1 h2 (by rw[←e1];exact h3) (by rw[←e2];exact h4)
end
theorem AOps.call{E:Env}{ops:Array Oper}{rest:List Oper}{o:Oper}{K:Cont}{fr:Fr}{σ:St}{f:Operand}{args:Array Operand}{tys:Array TypeId}{g:Nat}{first caps:List AC}{vs:List FV}{Q:FV->Outer->Prop}
  (hΓ:GI E.Γ) (hgd:o.guard=none) (hd:dstOk E.N o.dst=true) (ho:o.op=.call { callee:=.value f,args:=args,argTypes:=tys })
  (hf:aEval E.Γ fr f=some (.one (.fn (.func g) first caps))) (hargs:Q1g E.Γ fr args.toList=some vs) (Qvd:idsF isO (first.map .one++vs++caps.map .one)) (hou:OuOk σ.ou)
  (hc:AFn E.P E.Γ g (first.map .one++vs++caps.map .one) σ.ou Q)
  (h:∀r ou',Q r ou'->r.ids isO->OuOk ou'->AOps E ops rest K (putFr o.dst r fr) { σ with ou:=ou' }):AOps E ops (o::rest) K fr σ:=by
 intro F w0 C0 w C tmps hg hi hfr;refine wpList_plain hgd fun N' hN=>?_;have Qve:=Q01 (a:=⟨tmps,E.ds⟩) hi hfr hf;simp only[RF,R]at Qve;obtain⟨xs,ys,hfv,hx,hy⟩:=Qve;have hvs:=Q27 (a:=⟨tmps,E.ds⟩) hi hfr hargs;have hall:RFs w C (first.map .one++vs++caps.map .one) (xs++args.toList.map (Act.eval ⟨tmps,E.ds⟩)++ys):=(RFs.ones hx |>.append hvs).append (RFs.ones hy);have hrun:(execOp (Act.eval ⟨tmps,E.ds⟩) o).run E.P w=.ok (.enter g (xs++args.toList.map (Act.eval ⟨tmps,E.ds⟩)++ys).toArray) w:=by unfold execOp;simp only[ho,resolve,Z3s,hfv,Deferred.ofValue,Z3t,Z3r,invoke,hc.1];congr 2;apply Qz6;simp
 unfold Oper.wp;rw[hrun,Z3e];have hc1:Chg isO w C w { C with nl:=0 }:=⟨fun _ _=>rfl,fun _ h=>h,fun i hp ho=>⟨by cases i with|l k=>cases hp|o k=>exact ho,rfl,rfl⟩⟩;refine (hc.2 (Q3h w C σ.ou) w { C with nl:=0 } _ rfl (hi.forCallee hou hΓ) (RFs.chg hc1 _ _ Qvd hall)).mono fun e w' ⟨v,r,ou',C',he,hgo,h0,hi',hr,hQ⟩=>?_;subst he;obtain⟨hb1,hb2,hb3⟩:=hi.back hgo h0 hi';refine hN _ _ ?_;rw[Q3d];have Qw7:r.ids isO:=FV.ids_mono (Q4l h0) r (RF.idsOk r v hr);exact h r ou' hQ Qw7 (Qqw hi' h0) F w0 C0 w' _ _ (hg.trans hb1.toO) hb2 (Q2i (hfr.ext hb1.chg) hd (RF.chg hb3 r v Qw7 hr))
theorem Qqy{E:Env}{fr:Fr}{σ:St}{f:Operand}{args:Array Operand}{tys:Array TypeId}{first caps:List AC}{vs:List FV}{r:FV}
  (hΓ:GI E.Γ) (ho:o.op=.call { callee:=.value f,args:=args,argTypes:=tys })
  (hf:aEval E.Γ fr f=some (.one (.fn (.func g) first caps))) (hargs:Q1g E.Γ fr args.toList=some vs) (Qvd:idsF isO (first.map .one++vs++caps.map .one)) (hou:OuOk σ.ou)
  (hc:APure E.P E.Γ g (first.map .one++vs++caps.map .one) r):AStep E o fr σ r σ:=by
 intro F w C tmps hi hfr next Q hk
 have Qve:=Q01 (a:=⟨tmps,E.ds⟩) hi hfr hf;simp only[RF,R]at Qve;obtain⟨xs,ys,hfv,hx,hy⟩:=Qve;have hvs:=Q27 (a:=⟨tmps,E.ds⟩) hi hfr hargs;have hall:RFs w C (first.map .one++vs++caps.map .one) (xs++args.toList.map (Act.eval ⟨tmps,E.ds⟩)++ys):=(RFs.ones hx |>.append hvs).append (RFs.ones hy);have hrun:(execOp (Act.eval ⟨tmps,E.ds⟩) o).run E.P w=.ok (.enter g (xs++args.toList.map (Act.eval ⟨tmps,E.ds⟩)++ys).toArray) w:=by unfold execOp;simp only[ho,resolve,Z3s,hfv,Deferred.ofValue,Z3t,Z3r,invoke,(hc σ.ou).1];congr 2;apply Qz6;simp
 unfold Oper.wp;rw[hrun,Z3e];have hc1:Chg isO w C w { C with nl:=0 }:=⟨fun _ _=>rfl,fun _ h=>h,fun i hp ho=>⟨by cases i with|l k=>cases hp|o k=>exact ho,rfl,rfl⟩⟩;refine ((hc σ.ou).2 (Q3h w C σ.ou) w { C with nl:=0 } _ rfl (hi.forCallee hou hΓ) (RFs.chg hc1 _ _ Qvd hall)).mono fun e w' ⟨v,r',ou',C',he,hgo,h0,hi',hr,hQ1,hQ2⟩=>?_;subst he;subst hQ1;subst hQ2;obtain⟨hb1,hb2,hb3⟩:=hi.back hgo h0 hi';have Qw7:r'.ids isO:=FV.ids_mono (Q4l h0) r' (RF.idsOk r' v hr);exact hk v w' _ hb1 hb2 (RF.chg hb3 r' v Qw7 hr)
def aRes1 (T:Tab)(fr:Fr)(σ:St):ResultVar->Option FV
 |.tmp t=>Fr.get t fr
 |.cell a t=>match Tab.get t T with
  |some ti=>bif ti.agg||Nat.beq ti.size 1 then (match Fr.get a fr with|some v=>aLoad ti σ v|none=>none)else none
  |none=>none
def aResL (T:Tab)(fr:Fr)(σ:St):List ResultVar->Option (List FV)
 |[]=>some []
 |r::rs=>match aRes1 T fr σ r with
  |some v=>match aResL T fr σ rs with
   |some vs=>some (v::vs)
   |none=>none
  |none=>none
def aRes (T:Tab)(fr:Fr)(σ:St)(rs:List ResultVar):Option FV:=
 match aResL T fr σ rs with
 |some [v]=>some v
 |some vs=>some (.tup vs)
 |none=>none
def WkF (x y:FV):Prop:=∀(w:World)(C:Ctx)(v:Value),RF w C x v->RF w C y v
theorem WkF.refl(x:FV):WkF x x:=fun _ _ _ h=>h
theorem Qqb{T:Tab}{Γ:List (Nat×List AC)}{C:Ctx}{σ:St}{fr:Fr}(hT:TabOk P T)(hi:Inv Γ F w C σ)(hf:FrOk w C N fr tmps){r:ResultVar}{x:FV}(h:aRes1 T fr σ r=some x):
  ∃u,((match r with|.tmp t=>pure (tmps.getD t undef)|.cell a t=>do loadVar t (←asAddr (tmps.getD a undef))):Sem Value).run P w=.ok u w/\RF w C x u:=by
 cases r with
 |tmp t=>
  obtain⟨u,hu,hr⟩:=hf.2 t x h;exact⟨u,by simp[Qz7,hu],hr⟩
 |cell a t=>
  simp only[aRes1]at h;cases h1:Tab.get t T with
  |none=>rw[h1]at h;cases h
  |some ti=>
   rw[h1]at h;simp only[]at h;cases hb:(ti.agg||Nat.beq ti.size 1) with
   |false=>rw[hb]at h;cases h
   |true=>
    rw[hb]at h;simp only[cond_true]at h;cases h2:Fr.get a fr with
    |none=>rw[h2]at h;cases h
    |some v=>
     rw[h2]at h;simp only[]at h;obtain⟨p,hp,hr⟩:=hf.2 a v h2;obtain⟨u,hu,hru⟩:=Qj1 (hT t ti h1) hb hi hr h;have hgp:tmps.getD a undef=p:=by simp[Qz7,hp]
     refine⟨u,?_,hru⟩;simp only[hgp];simp only[Instr.loadAt,Z3s]at hu ⊢;cases p with
     |pointer q=>cases q with
      |some ad=>simpa[Instr.sureAddr,asAddr]using hu
      |none=>simp[Instr.sureAddr]at hu
     |_=>simp[Instr.sureAddr]at hu
theorem Qj0{P:Program}{T:Tab}{Γ:List (Nat×List AC)}{F:Nat->Prop}{w:World}{C:Ctx}{σ:St}{N:Nat}{fr:Fr}{tmps:Array Value}(hT:TabOk P T)(hi:Inv Γ F w C σ)(hf:FrOk w C N fr tmps):
  ∀{rs:List ResultVar}{xs:List FV},aResL T fr σ rs=some xs->∃us:List Value,(rs.mapM (fun r=>(match r with|.tmp t=>pure (tmps.getD t undef)|.cell a t=>do loadVar t (←asAddr (tmps.getD a undef))):ResultVar->Sem Value)).run P w=.ok us w/\RFs w C xs us
 |[],xs,h=>by simp only[aResL,Z3o]at h;subst h;exact⟨[],rfl,rfl⟩
 |r::rs,xs,h=>by
  simp only[aResL]at h;cases h1:aRes1 T fr σ r with
  |none=>rw[h1]at h;cases h
  |some v=>
   rw[h1]at h;simp only[]at h;cases h2:aResL T fr σ rs with
   |none=>rw[h2]at h;cases h
   |some vs=>
    rw[h2]at h;simp only[Z3o]at h;subst h;obtain⟨u,hu,hr⟩:=Qqb (tmps:=tmps) hT hi hf h1;obtain⟨us,hus,hrs⟩:=Qj0 (tmps:=tmps) hT hi hf h2;refine⟨u::us,?_,u,us,rfl,hr,hrs⟩;simp only[Z1d,Z3s,hu,Z3r,hus,Z3t]
theorem Qgu{T:Tab}{Γ:List (Nat×List AC)}{C:Ctx}{σ:St}{fr:Fr}(hT:TabOk P T)(hi:Inv Γ F w C σ)(hf:FrOk w C N fr tmps){x:FV}(h:aRes T fr σ fn.results.toList=some x):
  ∃u,(results fn tmps).run P w=.ok u w/\RF w C x u:=by
 unfold aRes at h;cases h1:aResL T fr σ fn.results.toList with
 |none=>rw[h1]at h;cases h
 |some vs=>
  rw[h1]at h;obtain⟨us,hus,hrs⟩:=Qj0 (tmps:=tmps) hT hi hf h1;have hrun:(results fn tmps).run P w=.ok (if h:us.toArray.size=1 then us.toArray[0]else .tuple us.toArray) w:=by unfold results;rw[Z3s,Array.mapM_eq_mapM_toList];simp only[Sem.run_map,Z3t];erw[hus];rfl
  match vs,hrs,h with
  |[v],hrs,h=>
   simp only[Z3o]at h;subst h;obtain⟨u,us',rfl,hr,Qxn⟩:=hrs;simp only[RFs]at Qxn;subst Qxn;exact⟨u,by rw[hrun];rfl,hr⟩
  |[],hrs,h=>
   simp only[Z3o]at h;subst h;simp only[RFs]at hrs;subst hrs;exact⟨.tuple #[],by rw[hrun];rfl,[],rfl,rfl⟩
  |v::v'::vs,hrs,h=>
   simp only[Z3o]at h;subst h;have Qxn:=hrs;obtain⟨u,us',rfl,hr,u',us'',rfl,hr',hr''⟩:=hrs;exact⟨.tuple (u::u'::us'').toArray,by rw[hrun];rfl,_,rfl,Qxn⟩
def Fin (E:Env)(fn:Func)(Q:FV->Outer->Prop)(fr:Fr)(σ:St):Prop:=∃r r',aRes E.T fr σ fn.results.toList=some r/\WkF r r'/\r'.ids isO/\OuOk σ.ou/\Q r' σ.ou
def argFr:Nat->List FV->Fr
 |_,[]=>[]
 |k,v::vs=>(k,v)::argFr (k+1) vs
theorem Q5v:∀(vs:List FV)(k j:Nat)(x:FV),Fr.get j (argFr k vs)=some x->k<=j/\vs[j - k]?=some x
 |[],k,j,x,h=>by cases h
 |v::vs,k,j,x,h=>by
  simp only[argFr,Fr.get]at h;by_cases e:k=j
  ·subst e;simp at h;subst h;simp
  ·rw[Q06 e]at h;obtain⟨h1,h2⟩:=Q5v vs (k+1) j x h;refine⟨by omega,?_⟩;rw[show j - k=(j - (k+1))+1 by omega];simpa using h2
theorem AFn.ofBody{T:Tab}{Γ:List (Nat×List AC)}{c:Code}{args:List FV}{ou:Outer}{Q:FV->Outer->Prop}(hT:TabOk P T)(hf:P.funcs[g]?=some fn)(hb:fn.body=some c)(hname:(fn.name == "runtime.NumGoroutine")=false)
  (hlen:args.length<=fn.ntmps)
  (h:OuOk ou->ACode ⟨P,T,Γ,fn.ntmps,[]⟩ c (Q05 ⟨P,T,Γ,fn.ntmps,[]⟩ (Fin ⟨P,T,Γ,fn.ntmps,[]⟩ fn Q) []) (argFr 0 args) ⟨0,[],ou⟩):AFn P Γ g args ou Q:=by
 refine⟨fun as w=>?_,fun F w C cargs h0 hi hr=>?_⟩
 ·simp[callFunc,hf,hb];simpa using hname
 ·have hcl:cargs.length=args.length:=by
   have:∀(vs:List FV) (xs:List Value),RFs w C vs xs->xs.length=vs.length:=by
    intro vs
    induction vs with
    |nil=>intro xs h;simp only[RFs]at h;simp[h]
    |cons v vs ih=>intro xs h;simp only[RFs]at h;obtain⟨u,us,rfl,_,h2⟩:=h;simp[ih us h2]
   exact this _ _ hr
  refine calls_of_wp hf hb ?_;have hfr:FrOk w C fn.ntmps (argFr 0 args) (cargs.toArray++Array.replicate (fn.ntmps - cargs.toArray.size) undef):=by refine⟨by simp;omega,fun k x hk=>?_⟩;obtain⟨_,h2⟩:=Q5v args 0 k x hk;simp only[Z38]at h2;obtain⟨u,hu,hru⟩:=RFs.get hr h2;refine⟨u,?_,hru⟩;have hlt:k < cargs.length:=(Z0v.1 hu).1;rw[Qz8 (by simpa using hlt)];simpa using hu
  refine wp_mono (h (Qqw hi h0) F w C w C _ (Goes.refl _ _ _ _) hi hfr) fun e a w' hp=>?_;obtain⟨hd,fr',σ',C',hgo,hi',hf',hk⟩:=hp;have fin:Fin ⟨P,T,Γ,fn.ntmps,[]⟩ fn Q fr' σ'->a.defers=[]/\∃v,(results fn a.tmps).run P w'=.ok v w'/\(∃v' r ou' C',Ending.returned v=.returned v'/\Goes F isO w C w' C'/\C'.nl=0/\Inv Γ F w' C' ⟨0,[],ou'⟩/\RF w' C' r v'/\Q r ou'):=by
   rintro⟨r,r',h1,h2,h3,h4,h5⟩;obtain⟨u,hu,hru⟩:=Qgu (tmps:=a.tmps) hT hi' hf' h1;have hc:Chg isO w' C' w' { C' with nl:=0 }:=⟨fun _ _=>rfl,fun _ h=>h,fun i hp ho=>⟨by cases i with|l k=>cases hp|o k=>exact ho,rfl,rfl⟩⟩;have hc0:∀i,C.ok i->isO i:=Q4l h0;refine⟨hd,u,hu,u,r',σ'.ou,{ C' with nl:=0 },rfl,⟨hgo.stp,hgo.chg.trans hc,hgo.no,hgo.newp⟩,rfl,⟨hi'.base,rfl,fun g cs hm=>?_,hi'.prot,fun i o ho=>?_,fun i j o o' g k1 k2 k3 k4=>?_⟩,RF.chg hc r' u h3 (h2 _ _ _ hru),h5⟩
   ·have:=hi.glob g cs hm;have Qvd:=Q18 hc0 cs (RL.idsOk cs _ this.rl);exact RG.chg (hgo.chg.trans hc) Qvd this
   ·cases i with
    |l k=>cases ho
    |o k=>
     obtain⟨k1,k2⟩:=hi'.obj (.o k) o ho;exact⟨k1,k2.ctx isO (h4 k o ho) trivial k1 hc (fun _ h=>h) (fun _ h=>h)⟩
   ·cases i with
    |l k=>cases k1
    |o k=>cases j with
     |l k=>cases k2
     |o k'=>
      have e1:=Qqx (o:=o) isO (i:=.o k) trivial (hi'.obj (.o k) o k1).1 hc;have e2:=Qqx (o:=o') isO (i:=.o k') trivial (hi'.obj (.o k') o' k2).1 hc;exact hi'.inj (.o k) (.o k') o o' g k1 k2 (by rw[←e1];exact k3) (by rw[←e2];exact k4)
  cases e with
  |normal=>exact fin hk
  |ret=>exact fin hk
  |exit id=>exact hk.elim
  |goto l=>exact hk.elim
  |panic ch=>exact hk.elim
  |outgrown=>exact hk.elim
end Go.Abs
namespace Go.Abs
theorem TIOk.of{ti:TI}{d:TypeDesc}{z:Value}(hI:(P.info? t).map (fun i=>(i.zero,i.size,i.bytes))=some (some z,ti.size,ti.bytes))(hU:P.underlying t=some d)(hz:z.cells.toList=ti.zero)(ha:aggOf d=ti.agg)
  (hk:kindOf ti d) (h1:ti.zero.all Value.oneCell'=true) (hl:ti.zero.length=ti.size) (hp:Nat.beq ti.size 0=false):TIOk P t ti:=by
 cases hi:P.info? t with
 |none=>rw[hi]at hI;cases hI
 |some i=>
  rw[hi]at hI;simp only[Z3m,Z3o,Z3p]at hI;exact⟨⟨i,d,z,hi,hU,hI.2.1,hI.2.2,hI.1,hz,ha,hk⟩,h1,hl,fun e=>by rw[e]at hp;simp at hp⟩
theorem Qqz{E:Env}{fr:Fr}{σ:St}{x:FV}(h:∀(F:Nat->Prop)(w:World)(C:Ctx)(tmps:Array Value),Inv E.Γ F w C σ->FrOk w C E.N fr tmps->∃u,(execOp (Act.eval ⟨tmps,E.ds⟩) o).run E.P w=.ok (.value u) w/\RF w C x u):AStep E o fr σ x σ:=by
 intro F w C tmps hi hf next Q hk
 obtain⟨u,hu,hr⟩:=h F w C tmps hi hf;unfold Oper.wp;rw[hu,Z3f];exact hk u w C (Goes.refl _ _ _ _) hi hr
def Q4w (k:IntKind)(n:Int):Prop:=k.min<=n/\n<=k.max
theorem Qfm{n:Int}(h:Q4w k n):k.wrap n=n:=by obtain⟨h1,h2⟩:=h;cases k <;> simp[IntKind.wrap,IntKind.min,IntKind.max,IntKind.signed,IntKind.bits]at * <;> omega
theorem Q2m{n:Int}(h1:-9223372036854775808<=n)(h2:n<=9223372036854775807):Q4w .i64 n:=by constructor <;> simp[IntKind.min,IntKind.max,IntKind.signed,IntKind.bits] <;> omega
section
variable {E:Env}{o:Oper}{fr:Fr}{σ:St}
theorem Qr0{yt:TypeId}{x y:Operand}{a b r:Int}(ho:o.op=.binOp op t x y yt)(hx:aEval E.Γ fr x=some (.one (.lit (.int k a))))(hy:aEval E.Γ fr y=some (.one (.lit (.int k b))))
  (hop:(op=.add/\r=a+b)∨(op=.sub/\r=a - b)∨(op=.mul/\r=a * b)) (hr:Q4w k r):AStep E o fr σ (.one (.lit (.int k r))) σ:=by
 refine Qqz fun F w C tmps hi hf=>⟨.int k r,?_,rfl,rfl⟩;have h1:=Q01 (a:=⟨tmps,E.ds⟩) hi hf hx;have h2:=Q01 (a:=⟨tmps,E.ds⟩) hi hf hy;simp only[RF,R]at h1 h2;unfold execOp;simp only[ho,h1.1,h2.1,eqGuard_at_int,Z3s,Z3t,Z3r];rcases hop with ⟨rfl,rfl⟩|⟨rfl,rfl⟩|⟨rfl,rfl⟩ <;> simp[binOp,Op.intArith,Qfm hr]
theorem AStep.rem{t yt:TypeId}{x y:Operand}{k:IntKind}{a b:Int}(ho:o.op=.binOp .rem t x y yt)(hx:aEval E.Γ fr x=some (.one (.lit (.int k a))))(hy:aEval E.Γ fr y=some (.one (.lit (.int k b))))
  (hb:b≠0):AStep E o fr σ (.one (.lit (.int k (a.tmod b)))) σ:=by
 refine Qqz fun F w C tmps hi hf=>⟨.int k (a.tmod b),?_,rfl,rfl⟩;have h1:=Q01 (a:=⟨tmps,E.ds⟩) hi hf hx;have h2:=Q01 (a:=⟨tmps,E.ds⟩) hi hf hy;simp only[RF,R]at h1 h2;unfold execOp;simp only[ho,h1.1,h2.1,eqGuard_at_int,Z3s,Z3t,Z3r];simp[binOp,Op.intDiv,hb]
theorem AStep.quo{t yt:TypeId}{x y:Operand}{k:IntKind}{a b:Int}(ho:o.op=.binOp .quo t x y yt)(hx:aEval E.Γ fr x=some (.one (.lit (.int k a))))(hy:aEval E.Γ fr y=some (.one (.lit (.int k b))))
  (hb:b≠0) (hr:Q4w k (a.tdiv b)):AStep E o fr σ (.one (.lit (.int k (a.tdiv b)))) σ:=by
 refine Qqz fun F w C tmps hi hf=>⟨.int k (a.tdiv b),?_,rfl,rfl⟩;have h1:=Q01 (a:=⟨tmps,E.ds⟩) hi hf hx;have h2:=Q01 (a:=⟨tmps,E.ds⟩) hi hf hy;simp only[RF,R]at h1 h2;unfold execOp;simp only[ho,h1.1,h2.1,eqGuard_at_int,Z3s,Z3t,Z3r];simp[binOp,Op.intDiv,hb,Qfm hr]
theorem AStep.max2{t ty:TypeId}{x y:Operand}{k:IntKind}{a b:Int}{tys:Array TypeId}(ho:o.op=.call { callee:=.builtin .max,args:=#[x,y],argTypes:=tys })(hx:aEval E.Γ fr x=some (.one (.lit (.int k a))))(hy:aEval E.Γ fr y=some (.one (.lit (.int k b)))):
  AStep E o fr σ (.one (.lit (.int k (if b > a then b else a)))) σ:=by
 refine Qqz fun F w C tmps hi hf=>⟨.int k (if b > a then b else a),?_,rfl,rfl⟩;have h1:=Q01 (a:=⟨tmps,E.ds⟩) hi hf hx;have h2:=Q01 (a:=⟨tmps,E.ds⟩) hi hf hy;simp only[RF,R]at h1 h2;unfold execOp;simp[ho,h1.1,h2.1,resolve,invoke,builtin,Builtin.max_,Builtin.max2]
theorem RS.at{w:World}{C:Ctx}{s:Nat}:∀{es:List (List AC)}{ad:Addr}{i:Nat}{e:List AC},ad.spot=none->RS w C s es ad->es[i]?=some e->e.length=s/\RL w C e ⟨ad.block,ad.off+i * s,none⟩
 |[],ad,i,e,_,h,hi=>by simp at hi
 |x::es,ad,i,e,hs,h,hi=>by
  simp only[RS]at h;cases i with
  |zero=>
   simp at hi;subst hi;refine⟨h.1,?_⟩;have:=h.2.1;cases ad;simp_all
  |succ i=>
   have:=RS.at (ad:=⟨ad.block,ad.off+s,none⟩) rfl h.2.2 (by simpa using hi);refine⟨this.1,?_⟩;have h2:=this.2;simp only[Z2p]at h2;rw[show s+i * s=(i+1) * s by rw[Z2r];omega]at h2;exact h2
theorem AStep.indexAddr{t:TypeId}{ti tj:TI}{x i:Operand}{k:IntKind}{n:Int}{s:Nat}{es:List (List AC)}{e:List AC}{v:AC}(hT:TabOk E.P E.T)(ho:o.op=.indexAddr t x i)(ht:Tab.get t E.T=some ti)(hk:Nat.beq ti.kind 2=true)(hj:Tab.get ti.elem E.T=some tj)
  (hs:Nat.beq tj.size s=true) (hx:aEval E.Γ fr x=some (.one v)) (hv:v=.sl s es∨∃i,v=.gs s es i) (hi':aEval E.Γ fr i=some (.one (.lit (.int k n)))) (h0:0<=n) (he:es[n.toNat]?=some e):AStep E o fr σ (.one (.box e)) σ:=by
 refine Qqz fun F w C tmps hi hf=>?_;have h1:=Q01 (a:=⟨tmps,E.ds⟩) hi hf hx;have h2:=Q01 (a:=⟨tmps,E.ds⟩) hi hf hi';have hlt:n.toNat < es.length:=(Z0v.1 he).1;have Qxu:n < es.length:=by omega
 have hsz:=(hT _ _ hj).run_sizeOf w;have hsl:=(hT t ti ht).slice (Z2v hk);have hs':tj.size=s:=Z2v hs;simp only[RF,R]at h2;have key:∃ad cap,(Act.eval ⟨tmps,E.ds⟩ x)=.slice (some ad) es.length cap/\ad.spot=none/\RS w C s es ad:=by
  rcases hv with rfl|⟨j,rfl⟩
  ·simp only[RF,R]at h1;obtain⟨b,cap,hx1,_,rfl|⟨ad,rfl,hsp,hrs⟩⟩:=h1
   ·simp at hlt
   ·exact⟨ad,cap,hx1,hsp,hrs⟩
  ·simp only[RF,R]at h1;obtain⟨_,⟨_,rfl,_⟩|⟨g,cap,hx1,_,_,hrs⟩⟩:=h1
   ·simp at hlt
   ·exact⟨_,cap,hx1,rfl,hrs⟩
 obtain⟨ad,cap,hx1,hsp,hrs⟩:=key;obtain⟨_,hrl⟩:=RS.at hsp hrs he;refine⟨.pointer (some (ad.add (n.toNat * s))),?_,_,rfl,?_,?_⟩
 ·unfold execOp;simp only[ho,hx1,h2.1];simp[Instr.indexAt,asIntOf,run_underlying hsl,h0,Qxu,hsz,hs']
 ·rw[Qqm hsp]
 ·rw[Qqm hsp];exact hrl
end
def inL (m:Nat):Id->Prop
 |.l k=>k < m
 |.o _=>True
def Fr.ids (p:Id->Prop):Fr->Prop
 |[]=>True
 |(_,v)::r=>v.ids p/\Fr.ids p r
theorem Qr1{p:Id->Prop}:∀{fr:Fr}{k:Nat}{x:FV},Fr.ids p fr->Fr.get k fr=some x->x.ids p
 |(j,v)::r,k,x,h,hg=>by
  simp only[Fr.ids]at h;simp only[Fr.get]at hg;by_cases e:j=k
  ·subst e;simp at hg;subst hg;exact h.1
  ·rw[Q06 e]at hg;exact Qr1 h.2 hg
theorem Qag{m:Nat}:∀i,isO i->inL m i:=by intro i h;cases i <;> simp_all[isO,inL]
theorem AObj.ids_mono{p q:Id->Prop}(h:∀i,p i->q i):∀o:AObj,o.ids p->o.ids q
 |.cells cs,hx=>Q18 h cs hx
 |.iter m _ _ _,hx=>h m hx
 |.sit _ _,_=>trivial
 |.map ck es,hx=>fun x hm=>FV.ids_mono h x.2.2 (hx x hm)
 |.tok _ _ _,_=>trivial
 |.dead,_=>trivial
end Go.Abs
