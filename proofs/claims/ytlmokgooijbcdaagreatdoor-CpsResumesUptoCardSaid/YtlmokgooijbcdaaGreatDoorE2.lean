/- The abstract layer, part K: append onto a slice of the call's own. No condition of its own. -/
import Derived.Test.YtlmokgooijbcdaaGreatDoorE1
import Derived.Laws.Append
import Derived.Maps.AppendAt
import Derived.MapKept
import Derived.Laws.NewFold
import Derived.Laws.IdiomRangeMap
set_option maxRecDepth 10000
set_option linter.unusedVariables false
set_option linter.unusedSimpArgs false
theorem ziy{p:Prop}(h:p:=by simp[Go.Abs.FV.ids,Go.Abs.idsF,Go.Abs.AC.ids,Go.Abs.isO]):p:=h
theorem Qyl:type_of% @Go.Abs.ACode.cond:=@Go.Abs.ACode.cond
theorem Qz2:type_of% @Go.Abs.AStep.indexAddr:=@Go.Abs.AStep.indexAddr
theorem Qz4:type_of% @Array.all_eq_true_iff_forall_mem:=@Array.all_eq_true_iff_forall_mem
theorem Qze:type_of% @Bool.false_eq_true:=@Bool.false_eq_true
theorem Qzf:type_of% @Bool.false_or:=@Bool.false_or
theorem Qzg:type_of% @Bool.not_eq_false:=@Bool.not_eq_false
theorem Qzz:type_of% @List.any_eq_false:=@List.any_eq_false
theorem Z00:type_of% @List.any_eq_true:=@List.any_eq_true
theorem Z01:type_of% @List.append_assoc:=@List.append_assoc
theorem Z02:type_of% @List.append_nil:=@List.append_nil
theorem Z03:type_of% @List.cons_append:=@List.cons_append
theorem Z0b:type_of% @List.eq_nil_of_length_eq_zero:=@List.eq_nil_of_length_eq_zero
theorem Z0d:type_of% @List.filter_eq_nil_iff:=@List.filter_eq_nil_iff
theorem Z0e:type_of% @List.filter_eq_self:=@List.filter_eq_self
theorem Z10:type_of% @List.getElem?_zipIdx:=@List.getElem?_zipIdx
theorem Z17:type_of% @List.length_nil:=@List.length_nil
theorem Z18:type_of% @List.length_pos_iff:=@List.length_pos_iff
theorem Z19:type_of% @List.length_range:=@List.length_range
theorem Z1f:type_of% @List.map_congr_left:=@List.map_congr_left
theorem Z1j:type_of% @List.map_nil:=@List.map_nil
theorem Z1m:type_of% @List.mem_append:=@List.mem_append
theorem Z1r:type_of% @List.mem_cons_self:=@List.mem_cons_self
theorem Z1t:type_of% @List.mem_filterMap:=@List.mem_filterMap
theorem Z1v:type_of% @List.mem_iff_getElem?:=@List.mem_iff_getElem?
theorem Z1y:type_of% @List.mem_of_getElem?:=@List.mem_of_getElem?
theorem Z21:type_of% @List.mem_range:=@List.mem_range
theorem Z24:type_of% @List.mem_zipIdx_iff_getElem?:=@List.mem_zipIdx_iff_getElem?
theorem Z27:type_of% @List.nodup_cons:=@List.nodup_cons
theorem Z2e:type_of% @List.size_toArray:=@List.size_toArray
theorem Z2o:type_of% @Go.MapKept.run_getObj_map:=@Go.MapKept.run_getObj_map
theorem Z2t:type_of% @Nat.add_zero:=@Nat.add_zero
theorem Z3a:type_of% @Nat.zero_add:=@Nat.zero_add
theorem Z3d:type_of% @Ne.symm:=@Ne.symm
theorem Z3q:type_of% @Go.Abs.RFs.ones:=@Go.Abs.RFs.ones
theorem Z3u:type_of% @Go.Abs.St.get_push:=@Go.Abs.St.get_push
theorem Z3v:type_of% @Go.Abs.Stp.refl:=@Go.Abs.Stp.refl
theorem Z47:type_of% @Go.Abs.WkF.refl:=@Go.Abs.WkF.refl
open Array renaming eq_empty_of_size_eq_zero->Qz5,ext'->Qz6,getElem_map->Qza,getElem_range->Qzb
open Bool renaming not_true->Qzi
open List renaming find?_cons->Z0f,flatten_append->Z0i,map_toArray->Z1l,mem_filter->Z1s
open Nat renaming add_mul->Z2r
open Go Go.Abs
variable {w:World}{C:Ctx}{c:Code}{s i n id g j d N k ck:Nat}{es:List (List AC)}{P:Program}{t:TypeId}{o:AObj}{listed:Array Bool}{ops:Array Oper}{fr fr' frb:Fr}{σ σ' σ1:St}{F:Nat->Prop}{tmps:Array Value}{Q:FV->Outer->Prop}{T:Tab}{Γ:List (Nat×List AC)}{fn:Func}{args:Array Operand}{ou:Outer}{E:Env}{b want:Bool}{f x:Operand}{tys:Array TypeId}{first caps cs:List AC}{vs as:List FV}{y:FV}{ρ:Nat->Nat}{K:Cont}{l rest:List Oper}{u:Value}{obj:Obj}
namespace Go.Abs
theorem RS.lens{w:World}{C:Ctx}{s:Nat}:∀{es:List (List AC)}{ad:Addr},RS w C s es ad->∀e∈es,e.length=s
 |[],ad,h,e,he=>by cases he
 |x::es,ad,h,e,he=>by
  simp only[RS]at h;rcases Z1p.1 he with rfl|he
  ·exact h.1
  ·exact RS.lens h.2.2 e he
theorem Qr2{w:World}{C:Ctx}{s:Nat}:∀(es:List (List AC))(ad:Addr),ad.spot=none->RS w C s es ad->∃xs:List Value,xs.length=es.length * s/\RV w C es.flatten xs/\Held w xs ad
 |[],ad,_,_=>⟨[],by simp,by simp[RV],fun j v h=>by simp at h⟩
 |e::es,ad,hs,h=>by
  simp only[RS]at h;obtain⟨xs,h1,h2,h3⟩:=RL.held e ad hs h.2.1;obtain⟨ys,h4,h5,h6⟩:=Qr2 es ⟨ad.block,ad.off+s,none⟩ rfl h.2.2;have hxl:xs.length=s:=by rw[h2,h.1]
  refine⟨xs++ys,by simp[hxl,h4,Z2r];omega,by simpa using RV.append h1 h5,fun j v hj=>?_⟩;by_cases hlt:j < xs.length
  ·rw[Z0p hlt]at hj;exact h3 j v hj
  ·rw[Z0q zoy]at hj;have:=h6 _ v hj;rw[Qqm hs];rw[Qqm rfl]at this;rw[←this];congr 2;simp;omega
theorem RL.ofVals{w:World}{C:Ctx}{g:Nat}:∀{cs:List AC}{xs:List Value}(k:Nat),RV w C cs xs->(∀(j:Nat)(v:Value),xs[j]?=some v->w.cell? ⟨g,k+j,none⟩=some v/\C.prot ⟨g,k+j,none⟩)->RL w C cs ⟨g,k,none⟩
 |[],xs,k,_,_=>by simp[RL]
 |c::cs,xs,k,h,h1=>by simp only[RV]at h;obtain⟨u,us,rfl,h3,h4⟩:=h;refine⟨⟨u,(h1 0 u rfl).1,(h1 0 u rfl).2,h3⟩,RL.ofVals (k+1) h4 (fun j v hj=>?_)⟩;have:=h1 (j+1) v (by simpa using hj);rw[show k+1+j=k+(j+1) by omega];exact this
theorem RS.ofVals{w:World}{C:Ctx}{s g:Nat}:∀{es:List (List AC)}{xs:List Value}(k:Nat),(∀e∈es,e.length=s)->RV w C es.flatten xs->(∀(j:Nat)(v:Value),xs[j]?=some v->w.cell? ⟨g,k+j,none⟩=some v/\C.prot ⟨g,k+j,none⟩)->RS w C s es ⟨g,k,none⟩
 |[],xs,k,_,_,_=>by simp[RS]
 |e::es,xs,k,hl,h,h1=>by
  simp only[Z0j]at h;have he:e.length=s:=hl e zsy;have h2:=RV.take e.length h;have h3:=RV.drop e.length h;rw[List.take_left]at h2;rw[List.drop_left]at h3;refine⟨he,RL.ofVals k h2 (fun j v hj=>h1 j v ?_),RS.ofVals (k+s) (fun x hx=>hl x (by simp[hx])) h3 (fun j v hj=>?_)⟩
  ·have hlt:=(Z0v.1 hj).1;simp at hlt;rwa [Z0z zoy]at hj
  ·rw[Z0s]at hj;have:=h1 _ v hj;rw[show k+s+j=k+(e.length+j) by omega];exact this
inductive Src:AC->Nat->List (List AC)->Prop
 |sl (s:Nat) (es:List (List AC)):Src (.sl s es) s es
 |gs (s:Nat) (es:List (List AC)) (i:Id):Src (.gs s es i) s es
 |nil (s:Nat):Src (.lit (.slice none 0 0)) s []
theorem Src.held{c:AC}(h:Src c s es){v:Value}(hr:R w C c v):
  (∀e∈es,e.length=s)/\∃(a:Option Addr) (cap:Nat) (news:List Value),v=.slice a es.length cap/\news.length=es.length * s/\RV w C es.flatten news/\(es=[]∨∃ad,a=some ad/\Held w news ad)/\(a=none->cap=0∨es=[]):=by
 cases h with
 |sl=>
  simp only[R]at hr;obtain⟨a,cap,rfl,_,rfl|⟨ad,rfl,hs,hrs⟩⟩:=hr
  ·exact⟨by simp,a,cap,[],rfl,by simp,by simp[RV],.inl rfl,fun _=>.inr rfl⟩
  ·obtain⟨xs,h1,h2,h3⟩:=Qr2 es ad hs hrs;exact⟨hrs.lens,_,cap,xs,rfl,h1,h2,.inr ⟨ad,rfl,h3⟩,fun h=>by cases h⟩
 |gs=>
  simp only[R]at hr;obtain⟨_,⟨rfl,rfl,_⟩|⟨g,cap,rfl,_,_,hrs⟩⟩:=hr
  ·exact⟨by simp,none,0,[],rfl,by simp,by simp[RV],.inl rfl,fun _=>.inr rfl⟩
  ·obtain⟨xs,h1,h2,h3⟩:=Qr2 es _ rfl hrs;exact⟨hrs.lens,_,cap,xs,rfl,h1,h2,.inr ⟨_,rfl,h3⟩,fun h=>by cases h⟩
 |nil=>
  simp only[R]at hr;exact⟨by simp,none,0,[],hr.1,by simp,by simp[RV],.inl rfl,fun _=>.inr rfl⟩
theorem Q5g{ty e:TypeId}{i:TypeInfo}(ht:P.underlying t=some (.slice e))(hi:P.info? e=some i)(a b:Option Addr)(n c cap:Nat)(hn:n<=cap):
  (Builtin.append_ #[t,t] ty #[.slice a n cap,.slice b 0 c]).run P w=.ok (.slice a n cap) w:=by
 cases b <;> cases a <;> simp[Builtin.append_,run_underlying ht,sizeOf,typeInfo,hi,Builtin.lenOf,Builtin.firstCells,hn,storeCells,loadCells,loadCellsFrom]
inductive Base (σ:St):AC->TypeId->Nat->List (List AC)->St->Prop
 |nil (e:TypeId) (s:Nat):Base σ (.lit (.slice none 0 0)) e s [] σ
 |gs (e:TypeId) (s:Nat) (es:List (List AC)) (i:Id) (h:σ.get i=some (.tok e s es.length)):Base σ (.gs s es i) e s es (σ.set i .dead)
section
variable {Γ:List (Nat×List AC)}{F:Nat->Prop}{w:World}{C:Ctx}{σ:St}
theorem Inv.kill(hi:Inv Γ F w C σ){i:Id}(h:σ.get i=some o):Inv Γ F w C (σ.set i .dead):=by
 refine⟨hi.base,by rw[Qql];exact hi.next,hi.glob,hi.prot,fun j p hp=>?_,fun j k p q g h1 h2 h3 h4=>?_⟩
 ·by_cases e:i=j
  ·subst e;rw[Qqj]at hp;cases hp;exact⟨(hi.obj i o h).1,trivial⟩
  ·rw[Qqk σ e]at hp;exact hi.obj j p hp
 ·by_cases e:i=j
  ·subst e;rw[Qqj]at h1;cases h1;simp[AObj.block]at h3
  ·by_cases e':i=k
   ·subst e';rw[Qqj]at h2;cases h2;simp[AObj.block]at h4
   ·rw[Qqk σ e]at h1;rw[Qqk σ e']at h2;exact hi.inj j k p q g h1 h2 h3 h4
def Ctx.tokd (C:Ctx)(tk:Option (Nat×Nat))(p:Addr->Prop):Ctx:={ C.more 0 tk with prot:=fun a=>C.prot a∨p a }
theorem Qr3(C:Ctx)(tk:Option (Nat×Nat))(p:Addr->Prop){i:Id}(h:C.ok i):(C.tokd tk p).ok i/\(C.tokd tk p).blk i=C.blk i/\(C.tokd tk p).tok i=C.tok i:=by have:=Qqp C 0 tk h;cases i <;> exact this
theorem Qr4(C:Ctx)(tk:Option (Nat×Nat))(p:Addr->Prop)(h:C.nl=n):(C.tokd tk p).ok (.l n)/\(C.tokd tk p).tok (.l n)=tk:=by have:=Qqq C 0 tk h;exact⟨this.1,this.2.2⟩
theorem Inv.append(hi:Inv Γ F w C σ){P:Program}{t ty:TypeId}{e:TypeId}{tj:TI}(hsl:P.underlying t=some (.slice e))(hj:TIOk P e tj){c d:AC}{s:Nat}{es news:List (List AC)}{σ1:St}(hb:Base σ c e s es σ1)(hsrc:Src d s news)
  (hs:tj.size=s) (hbytes:(es.length+news.length) * tj.bytes<=140737488355328) (h63:es.length+news.length<=140737488355328){v u:Value}(hv:R w C c v) (hu:R w C d u):
  ∃v' w' C',(Builtin.append_ #[t,t] ty #[v,u]).run P w=.ok v' w'/\Goes F (fun _=>True) w C w' C'/\Inv Γ F w' C' (σ1.push (.tok e s (es++news).length))/\R w' C' (.gs s (es++news) (.l σ.n)) v':=by
 obtain⟨i0,dd,z,g1,g2,g3,g4,g5,g6,g7,g8⟩:=hj.ex;have hzl:z.cells.size=tj.size:=by have:=hj.len;rw[←g6]at this;simpa using this
 have hpos:=hj.pos;obtain⟨hnl,b,capn,nv,rfl,Qwf,hnr,hheld,_⟩:=hsrc.held hu
 -- what is known of the base
 have hbase:(∀x∈es,x.length=s)/\Inv Γ F w C σ1/\σ1.n=σ.n/\((v=.slice none 0 0/\es=[]) ∨
   ∃g cap xs cur,v=.slice (some ⟨g,0,none⟩) es.length cap/\es.length<=cap/\cap<=maxLen/\w.heap[g]?=some (.cells cur e (0,0))/\¬F g/\cur.size=cap * s/\(∀a:Addr,a.block=g->C.prot a->a.off < es.length * s)/\
    xs.length=es.length * s/\RV w C es.flatten xs/\Held w xs ⟨g,0,none⟩/\(∀i o,σ1.get i=some o->o.block C i≠some g)):=by
  cases hb with
  |nil=>
   simp only[R]at hv;exact⟨by simp,hi,rfl,.inl ⟨hv.1,rfl⟩⟩
  |gs _ _ _ i h=>
   simp only[R]at hv;obtain⟨hok,hv⟩:=hv;have hio:=(hi.obj i _ h).2;refine⟨?_,hi.kill h,Qql ..,?_⟩
   ·rcases hv with ⟨_,rfl,_⟩|⟨g,cap,_,_,_,hrs⟩
    ·simp
    ·exact hrs.lens
   ·rcases hv with ⟨rfl,rfl,_⟩|⟨g,cap,rfl,hc,htk,hrs⟩
    ·exact .inl ⟨rfl,rfl⟩
    ·right;simp only[ObjOk,htk]at hio;obtain⟨cur,k1,k2,k3,k4,k5,k6⟩:=hio;obtain⟨xs,k7,k8,k9⟩:=Qr2 es _ rfl hrs;refine⟨g,cap,xs,cur,rfl,hc,k5,k1,k2,k3,k6,k7,k8,k9,fun j p hp hbp=>?_⟩;by_cases e':i=j
     ·subst e';rw[Qqj]at hp;cases hp;simp[AObj.block]at hbp
     ·rw[Qqk σ e']at hp;exact e' (hi.inj i j _ p g h hp (by simp[AObj.block,htk]) hbp)
 obtain⟨hel,hi1,hn1,hbase⟩:=hbase;have hall:∀x∈es++news,x.length=s:=by
  intro x hx;rcases Z1m.1 hx with h|h
  ·exact hel x h
  ·exact hnl x h
 have hnx:σ1.n=C.nl:=by rw[←hi1.next]
 -- the store with the token
 have fin:∀(w':World) (tk:Option (Nat×Nat)) (p:Addr->Prop),Stp F w w'->(∀a,C.prot a->w'.cell? a=w.cell? a)->(∀a,p a->a.block < w'.heap.size/\¬F a.block)->
   (∀i o,σ1.get i=some o->∀g x,o.block C i=some g->w.heap[g]?=some x->w'.heap[g]?=some x)->(∀i o,σ1.get i=some o->∀a:Addr,o.block C i=some a.block->p a->C.prot a)->
   (ObjOk w' (C.tokd tk p) F (.l σ1.n) (.tok e s (es++news).length))->(∀i o g cap,σ1.get i=some o->o.block C i=some g->tk≠some (g,cap))->
   Ext w C w' (C.tokd tk p)/\Goes F (fun _=>True) w C w' (C.tokd tk p)/\Inv Γ F w' (C.tokd tk p) (σ1.push (.tok e s (es++news).length)):=by
  intro w' tk p h1 h2 h3 h4 h5 h6 h7;have he:Ext w C w' (C.tokd tk p):=⟨h2,fun a ha=>.inl ha,fun i _ ho=>Qr3 C tk p ho⟩;refine⟨he,⟨h1,he,by simp[Ctx.tokd,Ctx.more],fun a ha=>ha.imp id (fun h=>(h3 a h).2)⟩,hi1.addObj (σ1.get_push _) he (by simp[Ctx.tokd,Ctx.more,St.push,hnx]) (fun k hk=>Z32 (hi1.base k hk) h1.size) (fun a ha=>?_) (fun i o ho g x hg hx=>h4 i o ho g x hg hx) (fun i o ho a hb _ ha=>?_) (Qr4 C tk p hnx.symm).1 h6 (fun i o g ho hg hb=>?_)⟩
  ·rcases ha with ha|ha
   ·exact Z32 (hi1.prot a ha) h1.size
   ·exact (h3 a ha).1
  ·rcases ha with ha|ha
   ·exact ha
   ·exact h5 i o ho a hb ha
  ·simp only[AObj.block,(Qr4 C tk p hnx.symm).2,Option.map_eq_some_iff]at hb;obtain⟨⟨g',cap⟩,hk,rfl⟩:=hb;exact h7 i o _ cap ho hg hk
 have Qw4:∀tk p,(C.tokd tk p).ok (.l σ.n)/\(C.tokd tk p).tok (.l σ.n)=tk:=fun tk p=>by rw[←hn1];exact Qr4 C tk p hnx.symm
 by_cases hm:news=[]
 · -- nothing is appended
  subst hm;simp only[Z02,Z17,Z2t]at *;rcases hbase with ⟨rfl,rfl⟩|⟨g,cap,xs,cur,rfl,hc,hcm,hg,hgF,hcs,hpr,hxl,hxr,hxh,Qwn⟩
  ·obtain⟨f1,f2,f3⟩:=fin w none (fun _=>False) (Z3v _ _) (fun _ _=>rfl) (fun _ h=>h.elim) (fun _ _ _ _ _ _ h=>h) (fun _ _ _ _ _ h=>h.elim) (by simp only[ObjOk,(Qr4 C none (fun _=>False) hnx.symm).2];rfl) (fun _ _ _ _ _ _ h=>by cases h);exact⟨_,w,_,Q5g hsl g1 none b 0 capn 0 (Z30 _),f2,f3,(Qw4 _ _).1,.inl ⟨rfl,rfl,(Qw4 _ _).2⟩⟩
  ·obtain⟨f1,f2,f3⟩:=fin w (some (g,cap)) (fun _=>False) (Z3v _ _) (fun _ _=>rfl) (fun _ h=>h.elim) (fun _ _ _ _ _ _ h=>h) (fun _ _ _ _ _ h=>h.elim)
    (by simp only[ObjOk,(Qr4 C (some (g,cap)) (fun _=>False) hnx.symm).2];exact⟨cur,hg,hgF,hcs,hc,hcm,fun a ha hp=>hpr a ha (hp.resolve_right id)⟩) (fun i o g' cap' ho hb h=>by cases h;exact Qwn i o ho hb)
   refine⟨_,w,_,Q5g hsl g1 _ b _ capn cap hc,f2,f3,(Qw4 _ _).1,.inr ⟨g,cap,rfl,hc,(Qw4 _ _).2,?_⟩⟩;have hrs:RS w C s es ⟨g,0,none⟩:=by
    cases hb with
    |nil=>simp[RS]
    |gs _ _ _ i h=>
     simp only[R]at hv;obtain⟨_,⟨h1,_⟩|⟨g',cap',h1,_,_,h2⟩⟩:=hv
     ·cases h1
     ·cases h1;exact h2
   exact hrs.ext f1
 ·have hm0:0 < news.length:=Z18.2 hm;obtain⟨ad,rfl,hh2⟩:=hheld.resolve_left hm;have Qxv:∀x∈nv,x.oneCell'=true:=RV.one hnr;have Qw0:nv.length=news.length * i0.size:=by rw[Qwf,g3,hs]
  -- a new row
  have newrow:∀(xs:List Value) (capk:Nat) (zs:Array Value),xs.length=es.length * s->RV w C es.flatten xs->(es++news).length<=capk->capk<=maxLen->zs.size=(capk - (es++news).length) * s->
    ∃C',Goes F (fun _=>True) w C (w.drew.alloc (.cells (xs.toArray++nv.toArray++zs) e)) C'/\Inv Γ F (w.drew.alloc (.cells (xs.toArray++nv.toArray++zs) e)) C' (σ1.push (.tok e s (es++news).length))/\R (w.drew.alloc (.cells (xs.toArray++nv.toArray++zs) e)) C' (.gs s (es++news) (.l σ.n)) (.slice (some ⟨w.heap.size,0,none⟩) (es++news).length capk):=by
   intro xs capk zs hxl hxr hck hcm hzs;have Qx3:Stp F w (w.drew.alloc (.cells (xs.toArray++nv.toArray++zs) e)):=(Stp.drew F w).trans (Stp.alloc (w:=w.drew) hi.base _ _);have hcell:∀j:Nat,(w.drew.alloc (.cells (xs.toArray++nv.toArray++zs) e)).cell? ⟨w.heap.size,j,none⟩=(xs.toArray++nv.toArray++zs)[j]?:=fun j=>cell_of_row _ _ _ _ _ _ (heap_alloc_new w.drew _);obtain⟨f1,f2,f3⟩:=fin _ (some (w.heap.size,capk)) (fun a=>a.block=w.heap.size/\a.off < (es++news).length * s) Qx3 (fun a ha=>(Z48 _ _ _ (hi.prot a ha)).trans rfl) (fun a ha=>⟨by rw[ha.1];simp,fun hF=>by have:=hi.base _ hF;omega⟩)
    (fun i o ho g x hb hx=>Q2w w.drew _ hx) (fun i o ho a hb ha=>by have:=(Qqn (hi1.obj i o ho).2 hb).2;omega)
    (by
     simp only[ObjOk,(Qr4 C (some (w.heap.size,capk)) _ hnx.symm).2];refine⟨_,heap_alloc_new w.drew _,fun hF=>by have:=hi.base _ hF;omega,?_,hck,hcm,fun a ha hp=>?_⟩
     ·simp only[Array.size_append,Z2e,hxl,Qwf,hzs,←Z2r];congr 1;simp at hck ⊢;omega
     ·rcases hp with hp|hp
      ·have:=hi.prot a hp;omega
      ·exact hp.2) (fun i o g cap' ho hb h=>by cases h;have:=(Qqn (hi1.obj i o ho).2 hb).2;omega)
   refine⟨_,f2,f3,(Qw4 _ _).1,.inr ⟨_,capk,rfl,hck,(Qw4 _ _).2,?_⟩⟩;refine RS.ofVals (xs:=xs++nv) 0 hall ?_ (fun j v hj=>⟨?_,.inr ⟨rfl,?_⟩⟩)
   ·rw[Z0i];exact RV.append (hxr.ext f1) (hnr.ext f1)
   ·rw[Z3a,hcell];have hlt:=(Z0v.1 hj).1;rw[Qz8 (by simpa using hlt)];rw[←hj];simp
   ·have hlt:=(Z0v.1 hj).1;simp only[Z12,hxl,Qwf,←Z2r]at hlt;simpa using hlt
  rcases hbase with ⟨rfl,rfl⟩|⟨g,cap,xs,cur,rfl,hc,hcm,hg,hgF,hcs,hpr,hxl,hxr,hxh,Qwn⟩
  ·have hr:=run_append_nil (P:=P) w t ty e i0 z hsl g1 g5 ad news.length capn nv Qw0 hh2 hm0 (by simp at h63;omega) (by rw[g4];simp at hbytes;omega);have hge:=grownCap_ge w news.length 0 e;have hcm:=grownCap_le_maxLen w news.length 0 e (by simp at h63;simp[maxLen];omega);obtain⟨C',k1,k2,k3⟩:=newrow [] (grownCap w news.length 0 e) (Builtin.zeroCells z.cells (grownCap w news.length 0 e - news.length)) zsy (by simp[RV]) (by simpa using hge) hcm (by rw[size_zeroCells,hzl,hs];simp);refine⟨_,_,C',hr,?_,?_,?_⟩
   ·simpa using k1
   ·simpa using k2
   ·simpa using k3
  ·by_cases hroom:es.length+news.length<=cap
   ·have hfit:es.length * i0.size+nv.length<=cur.size:=by rw[Qwf,hcs,g3,hs,←Z2r];exact Z35 _ hroom
    have hr:=run_append_room (P:=P) w t ty e i0 hsl g1 g es.length cap cur hg ad news.length capn nv Qw0 hh2 Qxv hroom hfit;rw[g3,hs]at hr hfit;have hgh:=Q5f w g cur (cur.toList.take (es.length * s)++nv++cur.toList.drop (es.length * s+nv.length)).toArray e hg;have Qx3:Stp F w (w.setRow g (cur.toList.take (es.length * s)++nv++cur.toList.drop (es.length * s+nv.length)).toArray) :=
     ⟨rfl, rfl, rfl, by simp, fun k hk => setRow_other w _ k _ (by rintro rfl; exact hgF hk), fun a _ => by
      by_cases e':a.block=g
      ·simp only[World.frozen?,e',hgh,hg]
      ·exact World.frozen?_of_block (setRow_other w _ a.block _ e')⟩
    have hcell:∀j:Nat,(w.setRow g (cur.toList.take (es.length * s)++nv++cur.toList.drop (es.length * s+nv.length)).toArray).cell? ⟨g,j,none⟩=(cur.toList.take (es.length * s)++nv++cur.toList.drop (es.length * s+nv.length))[j]?:=fun j=>by rw[cell_of_row _ _ _ _ _ _ hgh];simp
    have hold:∀j:Nat,j < es.length * s->(cur.toList.take (es.length * s)++nv++cur.toList.drop (es.length * s+nv.length))[j]?=cur[j]?:=fun j hj=>by
     have h1:j < (cur.toList.take (es.length * s)).length:=by simp;omega
     rw[Z01,Z0p h1,Z0z hj];simp
    have hxc:∀(j:Nat) (v:Value),xs[j]?=some v->cur[j]?=some v:=fun j v hj=>by have h1:=hxh j v hj;rw[Qqm rfl,cell_of_row _ _ _ _ _ _ hg]at h1;simpa using h1
    obtain⟨f1,f2,f3⟩:=fin _ (some (g,cap)) (fun a=>a.block=g/\a.off < (es++news).length * s) Qx3 (fun a ha=>by
      by_cases e':a.block=g
      ·have hlt:=hpr a e' ha;cases hsp:a.spot with
       |none=>
        have:a=⟨g,a.off,none⟩:=by cases a;simp_all
        rw[this,hcell,hold _ hlt,cell_of_row _ _ _ _ _ _ hg]
       |some q=>simp only[World.cell?,e',hgh,hg,hsp];rfl
      ·exact Z49 (setRow_other w _ _ _ e')) (fun a ha=>⟨by rw[ha.1];simp;exact Q0f hg,by rw[ha.1];exact hgF⟩)
     (fun i o ho g' x hb hx=>by
      have:g'≠g:=by rintro rfl;exact Qwn i o ho hb
      rw[setRow_other w _ g' _ this];exact hx) (fun i o ho a hb ha=>by rw[ha.1]at hb;exact absurd hb (Qwn i o ho))
     (by
      simp only[ObjOk,(Qr4 C (some (g,cap)) _ hnx.symm).2];refine⟨_,hgh,hgF,?_,by simpa using hroom,hcm,fun a ha hp=>?_⟩
      ·rw[←hcs];simp;omega
      ·rcases hp with hp|hp
       ·have:=hpr a ha hp;have h2:es.length * s<=(es++news).length * s:=Z35 _ zsy;omega
       ·exact hp.2) (fun i o g' cap' ho hb h=>by cases h;exact Qwn i o ho hb)
    refine⟨_,_,_,hr,f2,f3,(Qw4 _ _).1,.inr ⟨g,cap,by simp,by simpa using hroom,(Qw4 _ _).2,?_⟩⟩;refine RS.ofVals (xs:=xs++nv) 0 hall ?_ (fun j v hj=>⟨?_,.inr ⟨rfl,?_⟩⟩)
    ·rw[Z0i];exact RV.append (hxr.ext f1) (hnr.ext f1)
    ·rw[Z3a,hcell];by_cases hlt:j < xs.length
     ·rw[Z0p hlt]at hj;rw[hold j zoy];exact hxc j v hj
     ·rw[Z0q zoy]at hj;have Qvg:=(Z0v.1 hj).1;have htl:(cur.toList.take (es.length * s)).length=es.length * s:=by simp;omega
      rw[Z01,Z0q zoy,htl,Z0p zoy,←hxl];exact hj
    ·have hlt:=(Z0v.1 hj).1;simp only[Z12,hxl,Qwf,←Z2r]at hlt;simpa using hlt
   ·have hr:=run_append_grow (P:=P) w t ty e i0 z hsl g1 g5 ⟨g,0,none⟩ es.length cap xs (by rw[hxl,g3,hs]) hxh ad news.length capn nv Qw0 hh2 zoy zoy (growslice_fits zoy (by rw[g4];exact hbytes));have hge:=grownCap_ge w (es.length+news.length) cap e;have hcm2:=grownCap_le_maxLen w (es.length+news.length) cap e (by simp[maxLen];omega);obtain⟨C',k1,k2,k3⟩:=newrow xs (grownCap w (es.length+news.length) cap e) (Builtin.zeroCells z.cells (grownCap w (es.length+news.length) cap e - (es.length+news.length))) hxl hxr (by simpa using hge) hcm2 (by rw[size_zeroCells,hzl,hs];simp);exact⟨_,_,C',hr,k1,k2,by simpa using k3⟩
end
theorem AStep.append{E:Env}{o:Oper}{fr:Fr}{σ σ1:St}{t:TypeId}{ti tj:TI}{x y:Operand}{c d:AC}{s:Nat}{es news:List (List AC)}(hT:TabOk E.P E.T)(ho:o.op=.call { callee:=.builtin .append,args:=#[x,y],argTypes:=#[t,t] })
  (ht:Tab.get t E.T=some ti) (hk:Nat.beq ti.kind 2=true) (hj:Tab.get ti.elem E.T=some tj) (hx:aEval E.Γ fr x=some (.one c)) (hy:aEval E.Γ fr y=some (.one d)) (hb:Base σ c ti.elem s es σ1) (hsrc:Src d s news)
  (hs:Nat.beq tj.size s=true) (hbytes:(es.length+news.length) * tj.bytes<=140737488355328) (h63:es.length+news.length<=140737488355328):AStep E o fr σ (.one (.gs s (es++news) (.l σ.n))) (σ1.push (.tok ti.elem s (es++news).length)):=by
 intro F w C tmps hi hf next Q hk'
 have h1:=Q01 (a:=⟨tmps,E.ds⟩) hi hf hx;have h2:=Q01 (a:=⟨tmps,E.ds⟩) hi hf hy;simp only[RF]at h1 h2;obtain⟨v',w',C',hrun,hg,hi',hr⟩:=hi.append (ty:=o.type) ((hT t ti ht).slice (Z2v hk)) (hT _ _ hj) hb hsrc (Z2v hs) hbytes h63 h1 h2;have:(execOp (Act.eval ⟨tmps,E.ds⟩) o).run E.P w=.ok (.value v') w':=by unfold execOp;simp only[ho,resolve,invoke,builtin,Z3s,Z3t,Z3r,Z1l,Z1g,Z1j,hrun]
 unfold Oper.wp;rw[this,Z3f];exact hk' v' w' C' hg hi' hr
end Go.Abs
namespace Go.Abs
def HStep (E:Env)(ops:Array Oper)(o:Oper)(fr:Fr)(σ σ':St)(v:FV):Prop:=
 match o.guard with
 |none=>AStep E o fr σ v σ'
 |some (j,want)=>∃d x,Q11 ops j=some d/\Fr.get d fr=some x/\((x=.one (.lit (.bool want))/\AStep E o fr σ v σ')∨(gNo x want=true/\v=.tup []/\σ'=σ))
def depFr (l:List Oper)(vs:List FV)(o:Oper):Fr:=
 o.after.toList.filterMap fun e=>bif Region.binds .any e then (match (l[e.on]?).bind (·.dst),vs[e.on]? with|some d,some v=>some (d,v)|_,_=>none)else none
def Heads (E:Env)(ops:Array Oper)(l:List Oper)(vs:List FV)(frb:Fr)(σ0 σ1:St)(al:Nat):Nat->List Oper->List FV->Prop
 |_,[],[]=>True
 |k,o::os,v::ws=>(o.dst.isSome=true/\dstOk E.N o.dst=true/\
   (if k=al then HStep E ops o (depFr l vs o++frb) σ0 σ1 v else HStep E ops o (depFr l vs o++frb) σ0 σ0 v/\HStep E ops o (depFr l vs o++frb) σ1 σ1 v))/\Heads E ops l vs frb σ0 σ1 al (k+1) os ws
 |_,_,_=>False
def dsts (l:List Oper):List Nat:=l.filterMap (·.dst)
def Q2x:List Oper->List FV->Fr
 |o::os,v::vs=>match o.dst with
  |some d=>(d,v)::Q2x os vs
  |none=>Q2x os vs
 |_,_=>[]
def distinct:List Nat->Bool
 |[]=>true
 |d::ds=>!(ds.contains d)&&distinct ds
def Q0d (m n:Nat):Array Bool:=(Array.range m).map (fun i=>decide (i < n))
def drawB (l:List Oper)(n:Nat):Bool:=
 decide (n < l.length)&&Region.sinkB .any l.toArray n&&Region.chainB .any l.toArray n&&Region.seqB .any l.toArray (l.length - n) n (Q0d l.length n)&&distinct (dsts (l.take n)) &&
  (l.take n).zipIdx.all fun x=>x.1.after.all fun e=>!Region.binds .any e||decide (e.on < x.2)
theorem Qr5{k:Nat}:∀{fr fr':Fr}{x:FV},Fr.get k (fr++fr')=some x->Fr.get k fr=some x∨(Fr.get k fr=none/\Fr.get k fr'=some x)
 |[],fr',x,h=>.inr ⟨rfl,h⟩
 |(j,v)::fr,fr',x,h=>by
  simp only[Z03,Fr.get]at h ⊢;by_cases e:j=k
  ·subst e;simp at h ⊢;exact h
  ·rw[Q06 e]at h ⊢;exact Qr5 h
theorem Qr6{k:Nat}:∀{fr:Fr}{x:FV},Fr.get k fr=some x->(k,x)∈fr
 |(j,v)::fr,x,h=>by
  simp only[Fr.get]at h;by_cases e:j=k
  ·subst e;simp at h;subst h;simp
  ·rw[Q06 e]at h;exact Z1q _ (Qr6 h)
theorem Q66:∀{os:List Oper}{vs:List FV}{d:Nat}{v:FV},(d,v)∈Q2x os vs->∃(i:Nat)(o:Oper),os[i]?=some o/\o.dst=some d/\vs[i]?=some v
 |[],vs,d,v,h=>by simp[Q2x]at h
 |o::os,[],d,v,h=>by simp[Q2x]at h
 |o::os,w::vs,d,v,h=>by
  simp only[Q2x]at h;cases ho:o.dst with
  |none=>
   rw[ho]at h;obtain⟨i,o',h1,h2,h3⟩:=Q66 h;exact⟨i+1,o',by simpa using h1,h2,by simpa using h3⟩
  |some d'=>
   rw[ho]at h;rcases Z1p.1 h with h|h
   ·cases h;exact⟨0,o,rfl,ho,rfl⟩
   ·obtain⟨i,o',h1,h2,h3⟩:=Q66 h;exact⟨i+1,o',by simpa using h1,h2,by simpa using h3⟩
theorem Q1s:∀{os:List Oper},distinct (dsts os)=true->∀{i j:Nat}{o o':Oper}{d:Nat},os[i]?=some o->os[j]?=some o'->o.dst=some d->o'.dst=some d->i=j
 |[],_,i,j,o,o',d,h,_,_,_=>by simp at h
 |x::os,hd,i,j,o,o',d,h1,h2,h3,h4=>by
  cases hx:x.dst with
  |none=>
   have hd':distinct (dsts os)=true:=by simpa[dsts,hx]using hd
   cases i with
   |zero=>simp at h1;subst h1;rw[hx]at h3;cases h3
   |succ i=>cases j with
    |zero=>simp at h2;subst h2;rw[hx]at h4;cases h4
    |succ j=>exact congrArg (·+1) (Q1s hd' (by simpa using h1) (by simpa using h2) h3 h4)
  |some e=>
   have hd':¬e∈dsts os/\distinct (dsts os)=true:=by simpa[dsts,hx,distinct]using hd
   have key:∀(k:Nat) (p:Oper),os[k]?=some p->p.dst≠some e:=fun k p hk hp=>hd'.1 (Z1t.2 ⟨p,Z1y hk,hp⟩);cases i with
   |zero=>cases j with
    |zero=>rfl
    |succ j=>simp at h1;subst h1;rw[hx]at h3;cases h3;exact absurd h4 (key j o' (by simpa using h2))
   |succ i=>cases j with
    |zero=>simp at h2;subst h2;rw[hx]at h4;cases h4;exact absurd h3 (key i o (by simpa using h1))
    |succ j=>exact congrArg (·+1) (Q1s hd'.2 (by simpa using h1) (by simpa using h2) h3 h4)
section
variable {E:Env}{l:List Oper}{vs:List FV}{frb:Fr}{σ0 σ1:St}{al n:Nat}{K:Cont}
theorem Heads.at{ops:Array Oper}:∀{os:List Oper}{ws:List FV}{k:Nat},Heads E ops l vs frb σ0 σ1 al k os ws->os.length=ws.length/\∀(i:Nat)(o:Oper),os[i]?=some o->∃v,ws[i]?=some v/\o.dst.isSome=true/\dstOk E.N o.dst=true/\
   (if k+i=al then HStep E ops o (depFr l vs o++frb) σ0 σ1 v else HStep E ops o (depFr l vs o++frb) σ0 σ0 v/\HStep E ops o (depFr l vs o++frb) σ1 σ1 v)
 |[],[],k,_=>⟨rfl,fun i o h=>by simp at h⟩
 |[],_::_,k,h=>h.elim
 |_::_,[],k,h=>h.elim
 |o::os,v::ws,k,h=>by
  obtain⟨⟨h1,h2,h3⟩,h4⟩:=h;obtain⟨h5,h6⟩:=Heads.at h4;refine⟨by simp[h5],fun i p hi=>?_⟩;cases i with
  |zero=>simp at hi;subst hi;exact⟨v,rfl,h1,h2,by simpa using h3⟩
  |succ i=>
   obtain⟨v',k1,k2,k3,k4⟩:=h6 i p (by simpa using hi);refine⟨v',by simpa using k1,k2,k3,?_⟩;rw[show k+(i+1)=k+1+i by omega];exact k4
theorem Q7h:∀(L:List Nat)(p:Nat->Bool)(i:Nat),L.Nodup->i∈L->p i=true->(L.filter fun j=>p j&&decide (j≠i)).length+1=(L.filter p).length
 |[],p,i,_,hm,_=>by cases hm
 |x::L,p,i,hnd,hm,hp=>by
  have hnd':=Z27.1 hnd;simp only[List.filter_cons];by_cases e:x=i
  ·subst e;have:(L.filter fun j=>p j&&decide (j≠x))=L.filter p:=by apply List.filter_congr;intro j hj;have:j≠x:=fun e=>hnd'.1 (e▸hj);simp[this]
   rw[this];simp[hp]
  ·have hm':i∈L:=by
    rcases Z1p.1 hm with h|h
    ·exact absurd h.symm e
    ·exact h
   have ih:=Q7h L p i hnd'.2 hm' hp;cases hx:p x with
   |true=>simp[e]at ih ⊢;exact ih
   |false=>simpa using ih
structure Mid (E:Env)(l:List Oper)(vs:List FV)(n al:Nat)(frb:Fr)(σ0 σ1:St)(F:Nat->Prop)(w0:World)(C0:Ctx)(listed:Array Bool)(a:Act)(w:World):Prop where
 defers:a.defers=E.ds
 ex:∃C,Goes F isO w0 C0 w C/\Inv E.Γ F w C (if listed.getD al false=true then σ1 else σ0)/\FrOk w C E.N frb a.tmps/\
  ∀(i:Nat) (o:Oper) (d:Nat) (v:FV),i < n->l[i]?=some o->o.dst=some d->vs[i]?=some v->listed.getD i false=true->∃u,a.tmps[d]?=some u/\RF w C v u
theorem Q7n{n:Nat}(hi:i < n)(hun:listed.getD i false=false)(hs:i < listed.size):
  ((List.range n).filter fun j=>!(listed.setIfInBounds i true).getD j false).length+1=((List.range n).filter fun j=>!listed.getD j false).length:=by
 have h1:∀j,(!(listed.setIfInBounds i true).getD j false)=((!listed.getD j false)&&decide (j≠i)):=by
  intro j;by_cases e:i=j
  ·subst e;have:(listed.setIfInBounds i true).getD i false=true:=by simp[hs]
   rw[this];simp
  ·rw[getD_set_ne false e];simp[Z3d e]
 simp only[h1];exact Q7h (List.range n) (fun j=>!listed.getD j false) i List.nodup_range (Z21.2 hi) (by simp[hun])
theorem Q4j(hi:i < listed.size):listed.getD i true=listed.getD i false:=by simp[hi]
theorem Q7f{o:Oper}{v:FV}(h:HStep E ops o fr σ σ' v)(hi:Inv E.Γ F w C σ)(hf:FrOk w C E.N fr tmps)(ho:ops[i]?=some o)
  {next:Act->World->Prop}{Q:Exit->Act->World->Prop}(hk:∀(u:Value) (w':World) (C':Ctx),Goes F (fun _=>True) w C w' C'->Inv E.Γ F w' C' σ'->RF w' C' v u->next (Act.put ⟨tmps,E.ds⟩ o.dst u) w'):wpOp E.P ops Q i next ⟨tmps,E.ds⟩ w:=by
 unfold wpOp;simp only[ho];unfold HStep at h;cases hg:o.guard with
 |none=>
  rw[hg]at h;rw[if_pos (by simp[Region.wanted,hg])];exact .inl (h F w C tmps hi hf next Q hk)
 |some jw=>
  obtain⟨j,want⟩:=jw;rw[hg]at h;obtain⟨d,x,hd,hb,h⟩:=h;rcases h with ⟨rfl,h⟩|⟨hne,rfl,rfl⟩
  ·have hy:=Q5z hf hd hb;rw[if_pos (by simp[Region.wanted,hg,hy])];exact .inl (h F w C tmps hi hf next Q hk)
  ·rw[if_neg (by rw[Qdu (o:=o) hf hg hd hb hne];simp)];exact hk undef w C (Goes.refl _ _ _ _) hi ⟨[],rfl,rfl⟩
theorem mid_any(hB:drawB l n=true)(hfb:(dsts (l.take n)).all (fun d=>(Fr.get d frb).isNone)=true)(hH:Heads E l.toArray l vs frb σ0 σ1 al 0 (l.take n) vs)
  (Qvf:AOps E l.toArray (l.drop n) K (Q2x (l.take n) vs++frb) (if al < n then σ1 else σ0)){w0:World}{C0:Ctx}:
  ∀(c:Nat) (listed:Array Bool) (a:Act) (w:World),((List.range n).filter fun j=>!listed.getD j false).length=c->HeadInv .any l.toArray n listed->Mid E l vs n al frb σ0 σ1 F w0 C0 listed a w->
   wpAny E.P .any l.toArray (Post E F w0 C0 K) (c+(l.length - n)) listed a w:=by
 simp only[drawB,Qzc,decide_eq_true_eq]at hB;obtain⟨⟨⟨⟨⟨hn,hs⟩,hc⟩,hsq⟩,hdi⟩,haf⟩:=hB;obtain⟨hlen,hat⟩:=hH.at;have hsz:l.toArray.size=l.length:=by simp
 intro c
 induction c with
 |zero=>
  intro listed a w Qvo hinv Qvr;have hall:∀j,j < n->listed.getD j false=true:=by intro j hj;have:(List.range n).filter (fun j=>!listed.getD j false)=[]:=Z0b Qvo;have h2:=Z0d.1 this j (Z21.2 hj);simpa using h2
  have hl:listed=Q0d l.length n:=by
   apply Array.ext
   ·simp[Q0d,hinv.size]
   ·intro j h1 h2;have hj:j < l.length:=by simpa[Q0d]using h2
    have h3:listed.getD j false=listed[j]:=by simp[h1]
    simp only[Q0d,Qza,Qzb];by_cases hjn:j < n
    ·rw[←h3,hall j hjn];simp[hjn]
    ·have:=hinv.tail j zoy (by rw[hsz];exact hj);rw[Q4j h1]at this;rw[←h3,this];simp[hjn]
  have hdl:(l.drop n).length=l.length - n:=by simp
  rw[Z3a,←hdl];refine wpAny_of_seq (md:=.any) (l.drop n) n listed a w (fun j=>by simp[Z0s]) (by rw[hl,hdl];exact hsq) ?_;obtain⟨hd,C,hg,hi,hf,hv⟩:=Qvr;have ha:a=⟨a.tmps,E.ds⟩:=by cases a;simp_all
  rw[ha];have hσ:(if listed.getD al false=true then σ1 else σ0)=(if al < n then σ1 else σ0):=by
   by_cases hal:al < n
   ·rw[hall al hal,if_pos rfl,if_pos hal]
   ·have:listed.getD al false=false:=by
     by_cases h2:al < l.length
     ·have:=hinv.tail al zoy (by rw[hsz];exact h2);rwa [Q4j (by rw[hinv.size,hsz];exact h2)]at this
     ·have:¬al < listed.size:=by rw[hinv.size,hsz];exact h2
      simp[this]
    rw[this,if_neg zsy,if_neg hal]
  rw[hσ]at hi;refine Qvf F w0 C0 w C a.tmps hg hi ⟨hf.1,fun k x hk=>?_⟩;rcases Qr5 hk with hk|⟨_,hk⟩
  ·obtain⟨i,o,h1,h2,h3⟩:=Q66 (Qr6 hk);have hin:i < n:=by have:=(Z0v.1 h1).1;simp at this;omega
   rw[Z0z hin]at h1;exact hv i o k x hin h1 h2 h3 (hall i hin)
  ·exact hf.2 k x hk
 |succ c ih=>
  intro listed a w Qvo hinv Qvr
  -- some head is not listed
  have hex:∃i,i < n/\listed.getD i false=false/\∀j,j < i->listed.getD j false=true:=by
   have hne:∃i,i < n/\listed.getD i false=false:=by
    cases hL:(List.range n).filter (fun j=>!listed.getD j false) with
    |nil=>rw[hL]at Qvo;simp at Qvo
    |cons i L=>
     have:i∈(List.range n).filter (fun j=>!listed.getD j false):=by rw[hL];simp
     obtain⟨h1,h2⟩:=Z1s.1 this;exact⟨i,Z21.1 h1,by simpa using h2⟩
   obtain⟨i,hi⟩:=hne
   induction i using Nat.strongRecOn with
   |_ i ih2=>
    by_cases h:∃j,j < i/\listed.getD j false=false
    ·obtain⟨j,hj,hj2⟩:=h;exact ih2 j hj ⟨by omega,hj2⟩
    ·exact⟨i,hi.1,hi.2,fun j hj=>(Qzg _).mp (fun hb=>h ⟨j,hj,hb⟩)⟩
  obtain⟨i0,hi0n,hi0u,hi0m⟩:=hex;have Qvj:i0∈Region.ready .any l.toArray listed:=by
   rw[mem_ready];have hlt:i0 < l.length:=by omega
   refine⟨by rw[Q4j (by rw[hinv.size,hsz];exact hlt)];exact hi0u,l[i0],by simp[hlt],fun e he hb=>?_⟩;have h1:=Qzy.1 haf (l[i0],i0) (by rw[Z24];rw[Z0z hi0n];simp[hlt]);have h2:=Qz4.1 h1 e he;simp only[hb,Qzi,Qzf,decide_eq_true_eq]at h2;exact hi0m _ h2
  rw[show c+1+(l.length - n)=(c+(l.length - n))+1 by omega];refine⟨fun h=>absurd Qvj (by rw[h];simp),fun i hi=>?_⟩;have Qwr:listed.getD i0 true=false:=(mem_ready.1 Qvj).1;have hin:i < n:=by
   rcases Z33 i n with h|h
   ·exact h
   ·exact absurd hi (tail_waits hs hc (by rw[hsz];exact hn) hinv _ i0 rfl hi0n Qwr i h)
  obtain⟨hun,o,ho,hall⟩:=mem_ready.1 hi;have hlo:l[i]?=some o:=by simpa using ho
  obtain⟨v,hv,hds,hdo,hst⟩:=hat i o (by rw[Z0z hin];exact hlo);rw[Z3a]at hst;obtain⟨hd,C,hg,hinvw,hf,hvals⟩:=Qvr;have ha:a=⟨a.tmps,E.ds⟩:=by cases a;simp_all
  rw[ha];have hfr:FrOk w C E.N (depFr l vs o++frb) a.tmps:=by
   refine⟨hf.1,fun k x hk=>?_⟩;rcases Qr5 hk with hk|⟨_,hk⟩
   ·have hm:=Qr6 hk;obtain⟨e,he,he2⟩:=Z1t.1 hm;cases hb:Region.binds .any e with
    |false=>rw[hb]at he2;cases he2
    |true=>
     rw[hb]at he2;simp only[cond_true]at he2;cases h1:(l[e.on]?).bind (·.dst) with
     |none=>rw[h1]at he2;cases he2
     |some d=>
      cases h2:vs[e.on]? with
      |none=>rw[h1,h2]at he2;cases he2
      |some v'=>
       rw[h1,h2]at he2;cases he2;cases h3:l[e.on]? with
       |none=>rw[h3]at h1;cases h1
       |some oe=>
        rw[h3]at h1;have hen:e.on < n:=by have:=(Z0v.1 h2).1;rw[←hlen]at this;simp at this;omega
        exact hvals e.on oe k x hen h3 h1 h2 (hall e (by simpa using he) hb)
   ·exact hf.2 k x hk
  have Qw8:listed.getD i false=false:=getD_both hun;have hil:i < listed.size:=by rw[hinv.size,hsz];omega
  obtain⟨d,hdd⟩:=Z3k.1 hds
  -- the step
  have Qvi:HStep E l.toArray o (depFr l vs o++frb) (if listed.getD al false=true then σ1 else σ0) (if (listed.setIfInBounds i true).getD al false=true then σ1 else σ0) v:=by
   by_cases e:i=al
   ·subst e;rw[if_pos rfl]at hst;have h1:(listed.setIfInBounds i true).getD i false=true:=by simp[hil]
    rw[Qw8,h1,if_neg zsy,if_pos rfl];exact hst
   ·rw[if_neg e]at hst;rw[getD_set_ne false e];split
    ·exact hst.2
    ·exact hst.1
  refine Q7f Qvi hinvw hfr ho fun u w' C' hgo hi' hr=>?_;refine ih _ _ _ ?_ (hinv.set hi hin) ⟨put_defers ..,C',hg.trans hgo.toO,hi',?_,fun j oj dj vj hj hoj hdj hvj hlj=>?_⟩
  ·have h2:((List.range n).filter fun j=>!(listed.setIfInBounds i true).getD j false).length+1=((List.range n).filter fun j=>!listed.getD j false).length:=Q7n hin Qw8 hil;omega
  ·refine⟨by rw[hdd];simp[Act.put,hf.1],fun k x hk=>?_⟩;obtain⟨u',hu',hr'⟩:=hf.2 k x hk;have hne:d≠k:=by rintro rfl;have h1:=Qzy.1 hfb d (Z1t.2 ⟨o,Z1y (i:=i) (by rw[Z0z hin];exact hlo),hdd⟩);rw[hk]at h1;cases h1
   refine⟨u',?_,hr'.ext hgo.chg⟩;rw[hdd];simp only[Act.put];rw[Qz9 hne];exact hu'
  ·by_cases e:i=j
   ·subst e;rw[hlo]at hoj;cases hoj;rw[hdd]at hdj;cases hdj;rw[hv]at hvj;cases hvj;have hdN:d < a.tmps.size:=by rw[hf.1];rw[hdd]at hdo;exact Z2x (show Nat.ble (d+1) E.N=true from hdo)
    exact⟨u,by rw[hdd];simp[Act.put,hdN],hr⟩
   ·rw[getD_set_ne false e]at hlj;obtain⟨u',hu',hr'⟩:=hvals j oj dj vj hj hoj hdj hvj hlj;have hne:d≠dj:=by rintro rfl;exact e (Q1s hdi (by rw[Z0z hin];exact hlo) (by rw[Z0z hj];exact hoj) hdd hdj)
    refine⟨u',?_,hr'.ext hgo.chg⟩;rw[hdd];simp only[Act.put];rw[Qz9 hne];exact hu'
theorem Qr7(n al:Nat)(vs:List FV)(frb:Fr)(hm:E.P.follows .mixedOrders=true)(hB:drawB l n=true)(hfb:(dsts (l.take n)).all (fun d=>(Fr.get d frb).isNone)=true)(hsub:∀k x,Fr.get k frb=some x->Fr.get k fr=some x)
  (hH:Heads E l.toArray l vs frb σ0 σ1 al 0 (l.take n) vs) (Qvf:AOps E l.toArray (l.drop n) K (Q2x (l.take n) vs++frb) (if al < n then σ1 else σ0)):ACode E (.region id l.toArray true) K fr σ0:=by
 intro F w0 C0 w C tmps hg hi hf;have hn:n < l.length:=by simp only[drawB,Qzc,decide_eq_true_eq]at hB;exact hB.1.1.1.1.1
 have Qx4:∀j:Nat,(Array.replicate l.length false).getD j false=false:=getD_replicate_false _;refine wp_region_any hm ?_;have h:=mid_any (F:=F) (w0:=w0) (C0:=C0) hB hfb hH Qvf n (Array.replicate l.toArray.size false) ⟨tmps,E.ds⟩ w.drew (by
   have:∀j,(!(Array.replicate l.toArray.size false).getD j false)=true:=fun j=>by rw[getD_replicate_false];rfl
   simp only[this];rw[Z0e.2 (fun _ _=>rfl),Z19])
  ⟨by simp,fun j oj _ hl=>(by rw[getD_replicate_false]at hl;cases hl),fun t _ ht=>getD_in (by simpa using ht) (getD_replicate_false _ _)⟩
  ⟨rfl,C,hg.trans (Goes.drew hi).toO,by rw[getD_replicate_false,if_neg zsy];exact hi.drew.2,⟨hf.1,fun k x hk=>by obtain⟨u,hu,hr⟩:=hf.2 k x (hsub k x hk);exact⟨u,hu,hr.ext hi.drew.1⟩⟩,fun i o d v _ _ _ _ hl=>by rw[getD_replicate_false]at hl;cases hl⟩
 rw[show n+(l.length - n)=l.toArray.size by simp;omega]at h;exact h
end
end Go.Abs
namespace Go.Abs
section
variable {E:Env}{Fin:Fr->St->Prop}{k:List AItem}{fr:Fr}{σ:St}{c:Code}{id j:Nat}{J:Fr->St->Prop}
theorem cInv(h:J fr σ):Q05 E Fin (.inv J::k) .normal fr σ:=h
theorem Qq4(h:Q05 E Fin k .normal fr σ):Q05 E Fin (.blk id::k) (.exit id) fr σ:=by simpa[Q05]using h
theorem Q07(hne:Nat.beq j id=false)(h:Q05 E Fin k (.exit j) fr σ):Q05 E Fin (.blk id::k) (.exit j) fr σ:=by simpa only [Q05,hne,cond_false]using h
end
theorem AFn.walk{args:List FV}(N:Nat)(hT:TabOk P T)(hf:P.funcs[g]?=some fn)(hb:fn.body=some c)(hname:(fn.name == "runtime.NumGoroutine")=false)
  (hN:fn.ntmps=N) (hlen:Nat.ble args.length N=true) (h:OuOk ou->ACode ⟨P,T,Γ,N,[]⟩ c (Q05 ⟨P,T,Γ,N,[]⟩ (Fin ⟨P,T,Γ,N,[]⟩ fn Q) []) (argFr 0 args) ⟨0,[],ou⟩):AFn P Γ g args ou Q:=by
 subst hN;exact AFn.ofBody hT hf hb hname (Z2x hlen) h
theorem APure.fin{r r':FV}(h:aRes E.T fr σ fn.results.toList=some r)(hw:WkF r r')(hi:r'.ids isO)(ho:OuOk ou)(hs:σ.ou=ou):Fin E fn (fun x y=>x=r'/\y=ou) fr σ:=
 ⟨r,r',h,hw,hi,by rw[hs];exact ho,rfl,hs⟩
def aPut (N:Nat)(dst:Option Tmp)(r:Option (Option FV×St))(fr:Fr):Option (Fr×St):=
 match r with
 |some (some x,σ)=>match dst with
  |some d=>bif Nat.ble (d+1) N then some ((d,x)::fr,σ)else none
  |none=>some (fr,σ)
 |some (none,σ)=>match dst with
  |some _=>none
  |none=>some (fr,σ)
 |none=>none
def aAuto (E:Env)(ops:Array Oper)(o:Oper)(fr:Fr)(σ:St):Option (Fr×St):=
 match o.guard with
 |none=>aPut E.N o.dst (aOp E.T E.Γ o.op fr σ) fr
 |some (j,want)=>match Q11 ops j with
  |some d=>match Fr.get d fr,want with
   |some (.one (.lit (.bool true))),true=>aPut E.N o.dst (aOp E.T E.Γ o.op fr σ) fr
   |some (.one (.lit (.bool false))),false=>aPut E.N o.dst (aOp E.T E.Γ o.op fr σ) fr
   |some (.one (.lit (.bool true))),false=>aPut E.N o.dst (some (some (.tup []),σ)) fr
   |some (.one (.lit (.bool false))),true=>aPut E.N o.dst (some (some (.tup []),σ)) fr
   |some (.tup []),_=>aPut E.N o.dst (some (some (.tup []),σ)) fr
   |_,_=>none
  |none=>none
section
variable {E:Env}{ops:Array Oper}{rest:List Oper}{o:Oper}{K:Cont}{fr fr':Fr}{σ σ':St}{x:FV}
theorem Qca{dst:Option Tmp}{r:Option (Option FV×St)}(h:aPut E.N dst r fr=some (fr',σ')):(∃x,r=some (some x,σ')/\dstOk E.N dst=true/\fr'=putFr dst x fr)∨(r=some (none,σ')/\dst=none/\fr'=fr):=by
 unfold aPut at h;split at h
 ·rename_i x σ2;cases dst with
  |none=>simp only[Z3o,Z3p]at h;obtain⟨rfl,rfl⟩:=h;exact .inl ⟨x,rfl,rfl,rfl⟩
  |some d=>
   simp only at h;cases hb:Nat.ble (d+1) E.N with
   |false=>rw[hb]at h;cases h
   |true=>rw[hb]at h;simp only[cond_true,Z3o,Z3p]at h;obtain⟨rfl,rfl⟩:=h;exact .inl ⟨x,rfl,hb,rfl⟩
 ·cases dst with
  |none=>simp only[Z3o,Z3p]at h;obtain⟨rfl,rfl⟩:=h;exact .inr ⟨rfl,rfl,rfl⟩
  |some d=>cases h
 ·cases h
theorem AOps.auto(hT:TabOk E.P E.T)(h:aAuto E ops o fr σ=some (fr',σ'))(hk:AOps E ops rest K fr' σ'):AOps E ops (o::rest) K fr σ:=by
 have key:∀{r:Option (Option FV×St)},aPut E.N o.dst r fr=some (fr',σ')->r=aOp E.T E.Γ o.op fr σ->∃x,AStep E o fr σ x σ'/\dstOk E.N o.dst=true/\fr'=putFr o.dst x fr:=by
  intro r h hr;rcases Qca h with ⟨x,h1,h2,h3⟩|⟨h1,h2,h3⟩
  ·exact⟨x,Qqs hT (by rw[←hr,h1]),h2,h3⟩
  ·exact⟨.bot,Qqt hT (by rw[←hr,h1]),by rw[h2];rfl,by rw[h2];exact h3⟩
 have skip:∀{d:Nat}{j:Nat}{b:Bool}{y:FV},o.guard=some (j,b)->Q11 ops j=some d->Fr.get d fr=some y->gNo y b=true->aPut E.N o.dst (some (some (.tup []),σ)) fr=some (fr',σ')->AOps E ops (o::rest) K fr σ:=by
  intro d j b y hg hs hb hne h;rcases Qca h with ⟨x,h1,h2,h3⟩|⟨h1,h2,h3⟩
  ·cases h1;exact Qqv hg hs hb hne h2 (by rw[←h3];exact hk)
  ·cases h1
 unfold aAuto at h;cases hg:o.guard with
 |none=>
  rw[hg]at h;obtain⟨x,h1,h2,h3⟩:=key h rfl;exact AOps.step hg h2 h1 (by rw[←h3];exact hk)
 |some jw=>
  obtain⟨j,want⟩:=jw;rw[hg]at h;simp only at h;cases hs:Q11 ops j with
  |none=>rw[hs]at h;cases h
  |some d=>
   rw[hs]at h;simp only at h;split at h
   ·rename_i hb;obtain⟨x,h1,h2,h3⟩:=key h rfl;exact Qqu hg hs hb h2 h1 (by rw[←h3];exact hk)
   ·rename_i hb;obtain⟨x,h1,h2,h3⟩:=key h rfl;exact Qqu hg hs hb h2 h1 (by rw[←h3];exact hk)
   ·rename_i hb;exact skip hg hs hb rfl h
   ·rename_i hb;exact skip hg hs hb rfl h
   ·rename_i hb;exact skip hg hs hb rfl h
   ·cases h
theorem Qr8(hg:o.guard=some (j,want))(hs:Q11 ops j=some d)(hb:Fr.get d fr=some (.one (.lit (.bool b))))(ht:b=true->AOps E ops (o::rest) K ((d,.one (.lit (.bool true)))::fr) σ)(hf:b=false->AOps E ops (o::rest) K ((d,.one (.lit (.bool false)))::fr) σ):
  AOps E ops (o::rest) K fr σ:=AOps.split hb ht hf
theorem Qr9(hgd:o.guard=none)(Qvh:o.dst=some d)(hd:Nat.ble (d+1) E.N=true)(hs:AStep E o fr σ x σ')(h:AOps E ops rest K ((d,x)::fr) σ'):AOps E ops (o::rest) K fr σ:=
 AOps.step hgd (by rw[Qvh];exact hd) hs (by rw[Qvh];exact h)
theorem Qra{e:Nat}(hg:o.guard=some (j,b))(hj:Q11 ops j=some e)(hb:Fr.get e fr=some (.one (.lit (.bool b))))(Qvh:o.dst=some d)(hd:Nat.ble (d+1) E.N=true)(hs:AStep E o fr σ x σ')(h:AOps E ops rest K ((d,x)::fr) σ'):AOps E ops (o::rest) K fr σ:=
 Qqu hg hj hb (by rw[Qvh];exact hd) hs (by rw[Qvh];exact h)
theorem Qrb
  (hΓ:GI E.Γ) (hgd:o.guard=none) (Qvh:o.dst=some d) (hd:Nat.ble (d+1) E.N=true) (ho:o.op=.call { callee:=.value f,args:=args,argTypes:=tys })
  (hf:aEval E.Γ fr f=some (.one (.fn (.func g) first caps))) (hargs:Q1g E.Γ fr args.toList=some vs) (has:first.map .one++vs++caps.map .one=as) (Qvd:idsF isO as) (hou:OuOk σ.ou)
  (hc:AFn E.P E.Γ g as σ.ou Q) (h:∀r ou',Q r ou'->r.ids isO->OuOk ou'->AOps E ops rest K ((d,r)::fr) { σ with ou:=ou' }):AOps E ops (o::rest) K fr σ:=by
 subst has;exact AOps.call hΓ hgd (by rw[Qvh];exact hd) ho hf hargs Qvd hou hc (fun r ou' h1 h2 h3=>by rw[Qvh];exact h r ou' h1 h2 h3)
theorem Qrc{r:FV}
  (hΓ:GI E.Γ) (ho:o.op=.call { callee:=.value f,args:=args,argTypes:=tys })
  (hf:aEval E.Γ fr f=some (.one (.fn (.func g) first caps))) (hargs:Q1g E.Γ fr args.toList=some vs) (has:first.map .one++vs++caps.map .one=as) (Qvd:idsF isO as) (hou:OuOk σ.ou)
  (hc:APure E.P E.Γ g as r):AStep E o fr σ r σ:=by
 subst has;exact Qqy hΓ ho hf hargs Qvd hou hc
theorem ACode.condT{c:Operand}{x y:Code}(hc:aEval E.Γ fr c=some (.one (.lit (.bool true))))(h:ACode E x K fr σ):ACode E (.cond c x y) K fr σ:=Qyl hc (fun _=>h) (fun e=>by cases e)
theorem ACode.condF{c:Operand}{x y:Code}(hc:aEval E.Γ fr c=some (.one (.lit (.bool false))))(h:ACode E y K fr σ):ACode E (.cond c x y) K fr σ:=Qyl hc (fun e=>by cases e) (fun _=>h)
end
section
variable {E:Env}{Fin:Fr->St->Prop}{k:List AItem}{fr:Fr}{σ:St}{c x y:Code}{id j:Nat}{J:Fr->St->Prop}{ops:Array Oper}{K:Cont}{l:List Oper}
theorem o1(h:K .normal fr σ):AOps E ops [] K fr σ:=AOps.nil h
theorem o2(h:ACode E x (Q05 E Fin (.code y::k)) fr σ):ACode E (.seq x y) (Q05 E Fin k) fr σ:=ACode.seq h
theorem o3(h:AOps E l.toArray l K fr σ):ACode E (.region id l.toArray false) K fr σ:=ACode.region h
theorem o4(h:ACode E c (Q05 E Fin k) fr σ):Q05 E Fin (.code c::k) .normal fr σ:=h
theorem o5(h:Q05 E Fin k .ret fr σ):ACode E .ret (Q05 E Fin k) fr σ:=ACode.ret h
theorem o6(h:Fin fr σ):Q05 E Fin [] .ret fr σ:=h
theorem o7(h:Fin fr σ):Q05 E Fin [] .normal fr σ:=h
theorem o8(h:Q05 E Fin k .normal fr σ):ACode E .skip (Q05 E Fin k) fr σ:=ACode.skip h
theorem o9(h:ACode E c (Q05 E Fin (.blk id::k)) fr σ):ACode E (.block id c) (Q05 E Fin k) fr σ:=ACode.block h
theorem oa(h:Q05 E Fin k .normal fr σ):Q05 E Fin (.blk id::k) .normal fr σ:=h
theorem ob(h:Q05 E Fin k .ret fr σ):Q05 E Fin (.code c::k) .ret fr σ:=h
theorem oc(h:Q05 E Fin k .ret fr σ):Q05 E Fin (.blk id::k) .ret fr σ:=h
theorem od(h:Q05 E Fin k .ret fr σ):Q05 E Fin (.inv J::k) .ret fr σ:=h
theorem oe(h:Q05 E Fin k (.exit id) fr σ):ACode E (.exit id) (Q05 E Fin k) fr σ:=ACode.exit h
theorem og(h:Q05 E Fin k (.exit id) fr σ):Q05 E Fin (.code c::k) (.exit id) fr σ:=h
theorem oh(h:Q05 E Fin k .normal fr σ):Q05 E Fin (.blk id::k) (.exit id) fr σ:=Qq4 h
theorem oi(h:Q05 E Fin k (.exit id) fr σ):Q05 E Fin (.inv J::k) (.exit id) fr σ:=h
theorem oj{o:Oper}(h:AOps E ops (o::l) K fr σ):AOps E ops (o::l) K fr σ:=h
theorem ok{c:Operand}(h:ACode E (.cond c x y) K fr σ):ACode E (.cond c x y) K fr σ:=h
end
end Go.Abs
namespace Go.Abs
def Id.ren (ρ:Nat->Nat):Id->Id
 |.l k=>.l (ρ k)
 |.o k=>.o k
mutual
def AC.ren (ρ:Nat->Nat):AC->AC
 |.lit v=>.lit v
 |.any=>.any
 |.sl s es=>.sl s (renS ρ es)
 |.box cs=>.box (renL ρ cs)
 |.ptr i off=>.ptr (i.ren ρ) off
 |.gs s es i=>.gs s (renS ρ es) (i.ren ρ)
 |.arr i s off len cap=>.arr (i.ren ρ) s off len cap
 |.mp i=>.mp (i.ren ρ)
 |.fn f a b=>.fn f (renL ρ a) (renL ρ b)
 |.ifc t ag cs=>.ifc t ag (renL ρ cs)
def renS (ρ:Nat->Nat):List (List AC)->List (List AC)
 |[]=>[]
 |e::es=>renL ρ e::renS ρ es
def renL (ρ:Nat->Nat):List AC->List AC
 |[]=>[]
 |c::cs=>c.ren ρ::renL ρ cs
end
mutual
def FV.ren (ρ:Nat->Nat):FV->FV
 |.bot=>.bot
 |.one c=>.one (c.ren ρ)
 |.agg cs=>.agg (renL ρ cs)
 |.tup vs=>.tup (renF ρ vs)
def renF (ρ:Nat->Nat):List FV->List FV
 |[]=>[]
 |v::vs=>v.ren ρ::renF ρ vs
end
def AObj.ren (ρ:Nat->Nat):AObj->AObj
 |.cells cs=>.cells (renL ρ cs)
 |.map ck es=>.map ck (es.map fun x=>(x.1,x.2.1,x.2.2.ren ρ))
 |.iter m a b d=>.iter (m.ren ρ) a b d
 |.sit s p=>.sit s p
 |.tok e s u=>.tok e s u
 |.dead=>.dead
theorem Q75(ρ:Nat->Nat):∀es:List (List AC),(renS ρ es).length=es.length
 |[]=>rfl
 |e::es=>by simp[renS,Q75 ρ es]
theorem Qhe(ρ:Nat->Nat):∀es:List AC,(renL ρ es).length=es.length
 |[]=>rfl
 |e::es=>by simp[renL,Qhe ρ es]
mutual
theorem AC.ren_pure(ρ:Nat->Nat):∀c:AC,c.ids isO->c.ren ρ=c
 |.lit _,_=>rfl
 |.any,_=>rfl
 |.sl s es,h=>by simp only[AC.ren];rw[Q25 ρ es h]
 |.box cs,h=>by simp only[AC.ren];rw[Q2t ρ cs h]
 |.ptr i off,h=>by cases i with|l k=>exact h.elim|o k=>rfl
 |.gs s es i,h=>by cases i with|l k=>exact h.1.elim|o k=>simp only[AC.ren];rw[Q25 ρ es h.2];rfl
 |.arr i s off len cap,h=>by cases i with|l k=>exact h.elim|o k=>rfl
 |.mp i,h=>by cases i with|l k=>exact h.elim|o k=>rfl
 |.fn f a b,h=>by simp only[AC.ren];rw[Q2t ρ a h.1,Q2t ρ b h.2]
 |.ifc t ag cs,h=>by simp only[AC.ren];rw[Q2t ρ cs h]
theorem Q25(ρ:Nat->Nat):∀es:List (List AC),idsS isO es->renS ρ es=es
 |[],_=>rfl
 |e::es,h=>by simp only[renS];rw[Q2t ρ e h.1,Q25 ρ es h.2]
theorem Q2t(ρ:Nat->Nat):∀cs:List AC,idsL isO cs->renL ρ cs=cs
 |[],_=>rfl
 |c::cs,h=>by simp only[renL];rw[AC.ren_pure ρ c h.1,Q2t ρ cs h.2]
end
structure Ren (ρ:Nat->Nat)(p:Id->Prop)(w:World)(C C':Ctx):Prop where
 prot:∀a,C.prot a->C'.prot a
 id:∀i,p i->C.ok (i.ren ρ)->C'.ok i/\C'.blk i=C.blk (i.ren ρ)/\C'.tok i=C.tok (i.ren ρ)
section
variable {ρ:Nat->Nat}{p:Id->Prop}{w:World}{C C':Ctx}
mutual
theorem R.ren(h:Ren ρ p w C C'):∀(c:AC)(v:Value),c.ids p->R w C (c.ren ρ) v->R w C' c v
 |.lit u,v,_,hr=>hr
 |.any,v,_,hr=>hr
 |.sl s es,v,hi,hr=>by
  simp only[AC.ids,AC.ren,R,Q75]at *;obtain⟨a,cap,rfl,hc,h2⟩:=hr;refine⟨a,cap,rfl,hc,?_⟩;rcases h2 with h2|⟨ad,rfl,hs,h2⟩
  ·left;have:=Q75 ρ es;rw[h2]at this;exact Z0b (by simpa using this.symm)
  ·exact .inr ⟨ad,rfl,hs,RS.ren h s es ad hi h2⟩
 |.box cs,v,hi,hr=>by simp only[AC.ids,AC.ren,R]at *;obtain⟨ad,rfl,hs,h2⟩:=hr;exact⟨ad,rfl,hs,RL.ren h cs ad hi h2⟩
 |.ptr i off,v,hi,hr=>by simp only[AC.ids,AC.ren,R]at *;obtain⟨ho,rfl⟩:=hr;obtain⟨h1,h2,_⟩:=h.id i hi ho;exact⟨h1,by rw[h2]⟩
 |.gs s es i,v,hi,hr=>by
  simp only[AC.ids,AC.ren,R,Q75]at *;obtain⟨ho,hr⟩:=hr;obtain⟨h1,_,h3⟩:=h.id i hi.1 ho;refine⟨h1,?_⟩;rcases hr with ⟨rfl,he,ht⟩|⟨g,cap,rfl,hc,ht,h2⟩
  ·left;refine⟨rfl,?_,h3.trans ht⟩;have:=Q75 ρ es;rw[he]at this;exact Z0b (by simpa using this.symm)
  ·exact .inr ⟨g,cap,rfl,hc,h3.trans ht,RS.ren h s es _ hi.2 h2⟩
 |.arr i s off len cap,v,hi,hr=>by simp only[AC.ids,AC.ren,R]at *;obtain⟨ho,rfl,hc⟩:=hr;obtain⟨h1,h2,_⟩:=h.id i hi ho;exact⟨h1,by rw[h2],hc⟩
 |.mp i,v,hi,hr=>by simp only[AC.ids,AC.ren,R]at *;obtain⟨ho,rfl⟩:=hr;obtain⟨h1,h2,_⟩:=h.id i hi ho;exact⟨h1,by rw[h2]⟩
 |.fn f first caps,v,hi,hr=>by simp only[AC.ids,AC.ren,R]at *;obtain⟨xs,ys,rfl,h1,h2⟩:=hr;exact⟨xs,ys,rfl,RV.ren h first xs hi.1 h1,RV.ren h caps ys hi.2 h2⟩
 |.ifc t ag cs,v,hi,hr=>by simp only[AC.ids,AC.ren,R]at *;obtain⟨xs,h1,h2⟩:=hr;exact⟨xs,RV.ren h cs xs hi h1,h2⟩
theorem RS.ren(h:Ren ρ p w C C')(s:Nat):∀(es:List (List AC))(ad:Addr),idsS p es->RS w C s (renS ρ es) ad->RS w C' s es ad
 |[],_,_,_=>by simp[RS]
 |e::es,ad,hi,hr=>by simp only[idsS,renS,RS,Qhe]at *;exact⟨hr.1,RL.ren h e ad hi.1 hr.2.1,RS.ren h s es _ hi.2 hr.2.2⟩
theorem RL.ren(h:Ren ρ p w C C'):∀(cs:List AC)(ad:Addr),idsL p cs->RL w C (renL ρ cs) ad->RL w C' cs ad
 |[],_,_,_=>by simp[RL]
 |c::cs,ad,hi,hr=>by simp only[idsL,renL,RL]at *;obtain⟨⟨u,hu,hp,hr⟩,h2⟩:=hr;exact⟨⟨u,hu,h.prot _ hp,R.ren h c u hi.1 hr⟩,RL.ren h cs _ hi.2 h2⟩
theorem RV.ren(h:Ren ρ p w C C'):∀(cs:List AC)(vs:List Value),idsL p cs->RV w C (renL ρ cs) vs->RV w C' cs vs
 |[],_,_,hr=>by simpa[RV,renL]using hr
 |c::cs,vs,hi,hr=>by simp only[idsL,renL,RV]at *;obtain⟨u,us,rfl,h1,h2⟩:=hr;exact⟨u,us,rfl,R.ren h c u hi.1 h1,RV.ren h cs us hi.2 h2⟩
end
mutual
theorem RF.ren(h:Ren ρ p w C C'):∀(x:FV)(v:Value),x.ids p->RF w C (x.ren ρ) v->RF w C' x v
 |.bot,v,_,_=>by simp[RF]
 |.one c,v,hi,hr=>by simp only[FV.ids,FV.ren,RF]at *;exact R.ren h c v hi hr
 |.agg cs,v,hi,hr=>by simp only[FV.ids,FV.ren,RF]at *;obtain⟨xs,rfl,h2⟩:=hr;exact⟨xs,rfl,RV.ren h cs xs hi h2⟩
 |.tup vs,v,hi,hr=>by simp only[FV.ids,FV.ren,RF]at *;obtain⟨xs,rfl,h2⟩:=hr;exact⟨xs,rfl,RFs.ren h vs xs hi h2⟩
theorem RFs.ren(h:Ren ρ p w C C'):∀(vs:List FV)(xs:List Value),idsF p vs->RFs w C (renF ρ vs) xs->RFs w C' vs xs
 |[],xs,_,hr=>by simpa[RFs,renF]using hr
 |v::vs,xs,hi,hr=>by simp only[idsF,renF,RFs]at *;obtain⟨u,us,rfl,h1,h2⟩:=hr;exact⟨u,us,rfl,RF.ren h v u hi.1 h1,RFs.ren h vs us hi.2 h2⟩
end
theorem RM.ren(h:Ren ρ p w C C'):∀(r:List (Nat×Value×FV))(es:List MapEntry),(∀x∈r,x.2.2.ids p)->RM w C (r.map fun x=>(x.1,x.2.1,x.2.2.ren ρ)) es->RM w C' r es
 |[],_,_,hr=>by simpa[RM]using hr
 |(b,k,cs)::r,es,hi,hr=>by simp only[Z1g,RM]at *;obtain⟨e,es',rfl,hk,h1,h2⟩:=hr;exact⟨e,es',rfl,hk,RF.ren h cs _ (hi (b,k,cs) zsy) h1,RM.ren h r es' (fun x hx=>hi x (by simp[hx])) h2⟩
theorem ObjOk.ren{F:Nat->Prop}{i:Id}{o:AObj}(h:Ren ρ p w C C')(Qvd:o.ids p)(hp:p i)(hok:C.ok (i.ren ρ))(Qvm:∀a,C'.prot a->C.prot a)(ho:ObjOk w C F (i.ren ρ) (o.ren ρ)):ObjOk w C' F i o:=by
 obtain⟨_,hblk,htok⟩:=h.id i hp hok;cases o with
 |cells cs=>
  obtain⟨xs,T,h1,h2,h3,h4⟩:=ho;exact⟨xs,T,by rw[hblk];exact h1,by rw[hblk];exact h2,RV.ren h cs xs Qvd h3,fun a ha hpa=>h4 a (by rw[ha,hblk]) (Qvm a hpa)⟩
 |map ck es=>
  obtain⟨ents,h1,h2,h3⟩:=ho;exact⟨ents,by rw[hblk];exact h1,by rw[hblk];exact h2,RM.ren h es ents Qvd h3⟩
 |iter m since seen last=>
  obtain⟨h1,h2,h3⟩:=ho;obtain⟨m1,m2,_⟩:=h.id m Qvd h3;exact⟨by rw[hblk,m2];exact h1,by rw[hblk];exact h2,m1⟩
 |sit s p=>
  obtain⟨h1,h2⟩:=ho;exact⟨by rw[hblk];exact h1,by rw[hblk];exact h2⟩
 |tok e s used=>
  simp only[ObjOk,AObj.ren,htok]at *;cases ht:C.tok (i.ren ρ) with
  |none=>rw[ht]at ho;exact ho
  |some gc=>
   obtain⟨g,cap⟩:=gc;simp only[ht]at ho ⊢;obtain⟨xs,h1,h2,h3,h4,h6,h5⟩:=ho;exact⟨xs,h1,h2,h3,h4,h6,fun a ha hpa=>h5 a ha (Qvm a hpa)⟩
 |dead=>trivial
theorem Qrd{i:Id}(h:Ren ρ p w C C')(hp:p i)(hok:C.ok (i.ren ρ)):o.block C' i=(o.ren ρ).block C (i.ren ρ):=by obtain⟨_,hblk,htok⟩:=h.id i hp hok;cases o <;> simp[AObj.block,AObj.ren,hblk,htok]
end
structure LessR (ρ:Nat->Nat)(fr:Fr)(σ:St)(fr':Fr)(σ':St):Prop where
 n:∀k,k < σ'.n->ρ k < σ.n
 get:∀k x,Fr.get k fr'=some x->∃y,Fr.get k fr=some y/\WkF y (x.ren ρ)
 ids:Fr.ids (inL σ'.n) fr'
 obj:∀k o,lookL k σ'.lo=some o->lookL (ρ k) σ.lo=some (o.ren ρ)/\k < σ'.n/\o.ids (inL σ'.n)
 inj:∀k k' o o',lookL k σ'.lo=some o->lookL k' σ'.lo=some o'->ρ k=ρ k'->k=k'
 ou:σ'.ou=σ.ou
 ouOk:OuOk σ.ou
mutual
theorem FV.ren_pure(ρ:Nat->Nat):∀x:FV,x.ids isO->x.ren ρ=x
 |.bot,_=>rfl
 |.one c,h=>by simp only[FV.ren,FV.ids]at *;rw[AC.ren_pure ρ c h]
 |.agg cs,h=>by simp only[FV.ren,FV.ids]at *;rw[Q2t ρ cs h]
 |.tup vs,h=>by simp only[FV.ren,FV.ids]at *;rw[Qe7 ρ vs h]
theorem Qe7(ρ:Nat->Nat):∀vs:List FV,idsF isO vs->renF ρ vs=vs
 |[],_=>rfl
 |v::vs,h=>by simp only[renF,idsF]at *;rw[FV.ren_pure ρ v h.1,Qe7 ρ vs h.2]
end
theorem AObj.ren_pure(ρ:Nat->Nat):∀o:AObj,o.ids isO->o.ren ρ=o
 |.cells cs,h=>by simp only[AObj.ren];rw[Q2t ρ cs h]
 |.map ck es,h=>by
  simp only[AObj.ren];congr 1;have:∀x∈es,(x.1,x.2.1,x.2.2.ren ρ)=x:=fun x hx=>by rw[FV.ren_pure ρ x.2.2 (h x hx)]
  rw[Z1f this];simp
 |.iter m a b d,h=>by cases m with|l k=>exact h.elim|o k=>rfl
 |.sit s p,_=>rfl
 |.tok _ _ _,_=>rfl
 |.dead,_=>rfl
theorem LessR.run(hΓ:GI Γ)(h:LessR ρ fr σ fr' σ')(hi:Inv Γ F w C σ)(hf:FrOk w C N fr tmps):
  ∃C',Goes F isO w C w C'/\Inv Γ F w C' σ'/\FrOk w C' N fr' tmps:=by
 let C':Ctx:={ prot:=C.prot,nl:=σ'.n,no:=C.no,phi:=fun i=>C.phi (i.ren ρ),tk:=fun i=>C.tk (i.ren ρ) }
 have hc:Ren ρ (inL σ'.n) w C C':=⟨fun _ h=>h,fun i hp ho=>⟨by cases i with|l k=>exact hp|o k=>exact ho,rfl,rfl⟩⟩;have hco:Chg isO w C w C':=⟨fun _ _=>rfl,fun _ h=>h,fun i hp ho=>by cases i with|l k=>cases hp|o k=>exact⟨ho,rfl,rfl⟩⟩;have Qx5:∀i o,σ'.get i=some o->σ.get (i.ren ρ)=some (o.ren ρ)/\o.ids (inL σ'.n)/\inL σ'.n i:=by
  intro i o ho;cases i with
  |l k=>obtain⟨h1,h2,h3⟩:=h.obj k o ho;exact⟨h1,h3,h2⟩
  |o k=>
   have:σ.ou k=some o:=by rw[←h.ou];exact ho
   have Qvd:=h.ouOk k o this;exact⟨by rw[AObj.ren_pure ρ o Qvd];exact this,AObj.ids_mono Qag o Qvd,trivial⟩
 refine⟨C',⟨Z3v _ _,hco,Z30 _,fun _ h=>.inl h⟩,⟨hi.base,rfl,fun g cs hm=>RG.chg hco (hΓ g cs hm) (hi.glob g cs hm),hi.prot,fun i o ho=>?_,fun i j o o' g k1 k2 k3 k4=>?_⟩,⟨hf.1,fun k x hk=>?_⟩⟩
 ·obtain⟨h1,h2,h3⟩:=Qx5 i o ho;obtain⟨h4,h5⟩:=hi.obj _ _ h1;exact⟨(hc.id i h3 h4).1,ObjOk.ren hc h2 h3 h4 (fun _ h=>h) h5⟩
 ·obtain⟨h1,h2,h3⟩:=Qx5 i o k1;obtain⟨h1',h2',h3'⟩:=Qx5 j o' k2;have h4:=(hi.obj _ _ h1).1;have h4':=(hi.obj _ _ h1').1;rw[Qrd hc h3 h4]at k3;rw[Qrd hc h3' h4']at k4;have hij:=hi.inj _ _ _ _ g h1 h1' k3 k4;cases i with
  |l k=>cases j with
   |l k'=>simp only[Id.ren,Id.l.injEq]at hij;rw[h.inj k k' o o' k1 k2 hij]
   |o k'=>simp[Id.ren]at hij
  |o k=>cases j with
   |l k'=>simp[Id.ren]at hij
   |o k'=>simpa[Id.ren]using hij
 ·obtain⟨y,hy,hw⟩:=h.get k x hk;obtain⟨u,hu,hr⟩:=hf.2 k y hy;exact⟨u,hu,RF.ren hc x u (Qr1 h.ids hk) (hw _ _ _ hr)⟩
theorem ACode.lessR(hΓ:GI E.Γ)(hl:LessR ρ fr σ fr' σ')(h:ACode E c K fr' σ'):ACode E c K fr σ:=by intro F w0 C0 w C tmps hg hi hf;obtain⟨C',h1,h2,h3⟩:=hl.run hΓ hi hf;exact h F w0 C0 w C' tmps (hg.trans h1) h2 h3
theorem Qre{Fin:Fr->St->Prop}{k:List AItem}{α:Type}(hΓ:GI E.Γ)(frI:α->Fr)(σI:α->St)(I:Nat->α->Prop){m:Nat}{a0:α}(h0:I m a0)(hl:LessR ρ fr σ (frI a0) (σI a0))
  (round:∀m a,I m a->ACode E c (Q05 E Fin (.inv (fun fr' σ'=>∃m' a' ρ',m' < m/\I m' a'/\LessR ρ' fr' σ' (frI a') (σI a'))::k)) (frI a) (σI a)):ACode E (.loop c) (Q05 E Fin k) fr σ:=by
 refine ACode.loop (fun m fr' σ'=>∃a ρ',I m a/\LessR ρ' fr' σ' (frI a) (σI a)) (m:=m) ⟨a0,ρ,h0,hl⟩ fun m fr' σ' ⟨a,ρ',ha,hl'⟩=>ACode.lessR hΓ hl' ?_;have:=round m a ha;intro F w0 C0 w C tmps hg hi hf;refine wp_mono (this F w0 C0 w C tmps hg hi hf) fun e act w' hp=>?_;obtain⟨hd,fr2,σ2,C2,h1,h2,h3,hk⟩:=hp;refine⟨hd,fr2,σ2,C2,h1,h2,h3,?_⟩;cases e with
 |normal=>
  obtain⟨m',a',ρ2,h4,h5,h6⟩:=hk;exact⟨m',h4,a',ρ2,h5,h6⟩
 |_=>exact hk
theorem Q67{A B:AObj}{i:Id}(hk:k≠σ.n):((σ.set (.l k) A).push B).get i=((σ.push B).set (.l k) A).get i:=by
 rw[Z3u,Qql];by_cases e:i=.l k
 ·subst e;rw[Qqj,if_neg (by simpa using hk),Qqj]
 ·rw[Qqk _ (Z3d e),Qqk _ (Z3d e),Z3u]
theorem ACode.grow(k off:Nat)(e:TypeId)(s:Nat)(h:σ.get (.l k)=some (.cells cs))(hoff:cs[off]?=some (.lit (.slice none 0 0)))
  (hk:ACode E c K fr ((σ.set (.l k) (.cells (cs.set off (.gs s [] (.l σ.n))))).push (.tok e s 0))):ACode E c K fr σ:=by
 intro F w0 C0 w C tmps hg hi hf;have hno:=Qr4 C none (fun _=>False) hi.next;have he:Ext w C w (C.tokd none (fun _=>False)):=⟨fun _ _=>rfl,fun _ h=>.inl h,fun i _ ho=>Qr3 C _ _ ho⟩
 -- first the token
 have hi1:Inv E.Γ F w (C.tokd none (fun _=>False)) (σ.push (.tok e s 0)):=
  hi.addObj (σ.get_push _) he (by simp[Ctx.tokd,Ctx.more,St.push,hi.next]) hi.base (fun a ha=>hi.prot a (ha.resolve_right id)) (fun _ _ _ _ _ _ h=>h) (fun _ _ _ _ _ _ ha=>ha.resolve_right id) hno.1
   (by simp only[ObjOk,hno.2]) (fun i p g _ _ hb=>by simp[AObj.block,hno.2]at hb)
 have hget:(σ.push (.tok e s 0)).get (.l k)=some (.cells cs):=by
  rw[Z3u];have:¬(Id.l k=Id.l σ.n):=by intro e';have:=(hi.obj _ _ h).1;rw[e']at this;simp only[Ctx.ok]at this;have:=hi.next;omega
  rw[if_neg this];exact h
 obtain⟨hok,xs,T,h1,h2,h3,h4⟩:=hi1.obj _ _ hget;have hxs:xs[off]?=some (.slice none 0 0):=by
  have:∀(cs:List AC) (xs:List Value) (off:Nat),RV w (C.tokd none (fun _=>False)) cs xs->cs[off]?=some (.lit (.slice none 0 0))->xs[off]?=some (.slice none 0 0):=by
   intro cs
   induction cs with
   |nil=>intro xs off _ h;simp at h
   |cons c cs ih=>
    intro xs off h h';simp only[RV]at h;obtain⟨u,us,rfl,g1,g2⟩:=h;cases off with
    |zero=>simp at h';subst h';simp only[R]at g1;simp[g1.1]
    |succ off=>simpa using ih us off g2 (by simpa using h')
  exact this cs xs off h3 hoff
 have hr':RV w (C.tokd none (fun _=>False)) (cs.set off (.gs s [] (.l σ.n))) xs:=by
  have:∀(cs:List AC) (xs:List Value) (off:Nat),RV w (C.tokd none (fun _=>False)) cs xs->xs[off]?=some (.slice none 0 0)->RV w (C.tokd none (fun _=>False)) (cs.set off (.gs s [] (.l σ.n))) xs:=by
   intro cs
   induction cs with
   |nil=>intro xs off h _;simpa using h
   |cons c cs ih=>
    intro xs off h h';simp only[RV]at h;obtain⟨u,us,rfl,g1,g2⟩:=h;cases off with
    |zero=>simp at h';subst h';exact⟨_,us,rfl,⟨hno.1,.inl ⟨rfl,rfl,hno.2⟩⟩,g2⟩
    |succ off=>exact⟨u,us,rfl,g1,ih us off g2 (by simpa using h')⟩
  exact this cs xs off h3 hxs
 have hi2:=(hi1.turn (o':=.cells (cs.set off (.gs s [] (.l σ.n)))) hget rfl rfl (fun _ _=>rfl) (fun _ _ _=>rfl) rfl (fun he'=>⟨xs,T,h1,h2,hr',h4⟩)).2;refine hk F w0 C0 w _ tmps (hg.trans ⟨Z3v _ _,he.weaken (fun _ _=>trivial),by simp[Ctx.tokd,Ctx.more],fun a ha=>.inl (ha.resolve_right id)⟩) ?_ (hf.ext he);have hkn:k≠σ.n:=by rintro rfl;have h5:=(hi.obj _ _ h).1;simp only[Ctx.ok]at h5;have:=hi.next;omega
 exact⟨hi2.base,by have:=hi2.next;simpa[St.push,St.set]using this,hi2.glob,hi2.prot,fun i o ho=>hi2.obj i o (by rw[←Q67 hkn];exact ho),fun i j o o' g a b c d=>hi2.inj i j o o' g (by rw[←Q67 hkn];exact a) (by rw[←Q67 hkn];exact b) c d⟩
theorem WkF.ofEq{x:FV}(h:x=y):WkF x y:=by subst h;exact Z47 x
def FrSub (ρ:Nat->Nat)(fr:Fr):Fr->Prop
 |[]=>True
 |(k,x)::r=>(∃y,Fr.get k fr=some y/\WkF y (x.ren ρ))/\FrSub ρ fr r
def LoSub (ρ:Nat->Nat)(n:Nat)(lo:List (Nat×AObj)):List (Nat×AObj)->Prop
 |[]=>True
 |(k,o)::r=>(∃p,lookL (ρ k) lo=some p/\p=o.ren ρ/\k < n/\o.ids (inL n))/\LoSub ρ n lo r
theorem FrSub.get{ρ:Nat->Nat}{fr:Fr}:∀{fr':Fr},FrSub ρ fr fr'->∀k x,Fr.get k fr'=some x->∃y,Fr.get k fr=some y/\WkF y (x.ren ρ)
 |[],_,k,x,h=>by cases h
 |(j,v)::r,hs,k,x,h=>by
  simp only[FrSub]at hs;simp only[Fr.get]at h;by_cases e:j=k
  ·subst e;simp at h;subst h;exact hs.1
  ·rw[Q06 e]at h;exact FrSub.get hs.2 k x h
theorem LoSub.get{ρ:Nat->Nat}{n:Nat}{lo:List (Nat×AObj)}:∀{lo':List (Nat×AObj)},LoSub ρ n lo lo'->∀k o,lookL k lo'=some o->lookL (ρ k) lo=some (o.ren ρ)/\k < n/\o.ids (inL n)
 |[],_,k,x,h=>by cases h
 |(j,v)::r,hs,k,x,h=>by
  simp only[LoSub]at hs;simp only[lookL]at h;by_cases e:j=k
  ·subst e;simp at h;subst h;obtain⟨⟨p,h1,h2,h3,h4⟩,_⟩:=hs;exact⟨by rw[h1,h2],h3,h4⟩
  ·rw[Q06 e]at h;exact LoSub.get hs.2 k x h
theorem Qa9{k:Nat}{o:AObj}:∀{lo:List (Nat×AObj)},lookL k lo=some o->k∈lo.map (·.1)
 |[],h=>by cases h
 |(j,v)::r,h=>by
  simp only[lookL]at h;by_cases e:j=k
  ·subst e;simp
  ·rw[Q06 e]at h;exact Z1q _ (Qa9 h)
def injOn (ρ:Nat->Nat)(l:List Nat):Bool:=l.all fun a=>l.all fun b=>!(Nat.beq (ρ a) (ρ b))||Nat.beq a b
theorem LessR.of(h1:(List.range σ'.n).all (fun k=>Nat.blt (ρ k) σ.n)=true)(h2:FrSub ρ fr fr')(h3:Fr.ids (inL σ'.n) fr')(h4:LoSub ρ σ'.n σ.lo σ'.lo)(h5:injOn ρ (σ'.lo.map (·.1))=true)(h6:σ'.ou=σ.ou)(h7:OuOk σ.ou):
  LessR ρ fr σ fr' σ':=by
 refine⟨fun k hk=>?_,h2.get,h3,h4.get,fun k k' o o' hk hk' e=>?_,h6,h7⟩
 ·have:=Qzy.1 h1 k (Z21.2 hk);exact Z2x (show Nat.ble (ρ k+1) σ.n=true from this)
 ·have h8:=Qzy.1 (Qzy.1 h5 k (Qa9 hk)) k' (Qa9 hk');rw[e]at h8;simp at h8;exact h8
def Qo5 (fr:Fr):Fr->Prop
 |[]=>True
 |(k,x)::r=>Fr.get k fr=some x/\Qo5 fr r
theorem Qo5.nil:Qo5 fr []:=trivial
theorem FrSub.nil:FrSub ρ fr []:=trivial
theorem FrSub.cons{ρ:Nat->Nat}{fr r:Fr}{k:Nat}{x y:FV}(h:Fr.get k fr=some y)(hw:WkF y (x.ren ρ))(hr:FrSub ρ fr r):FrSub ρ fr ((k,x)::r):=⟨⟨y,h,hw⟩,hr⟩
theorem LoSub.nil{lo:List (Nat×AObj)}:LoSub ρ n lo []:=trivial
theorem LoSub.cons{ρ:Nat->Nat}{n k:Nat}{lo r:List (Nat×AObj)}{o p:AObj}(h:lookL (ρ k) lo=some p)(he:p=o.ren ρ)(hk:Nat.blt k n=true)(hi:o.ids (inL n))(hr:LoSub ρ n lo r):LoSub ρ n lo ((k,o)::r):=
 ⟨⟨p,h,he,Z2x (show Nat.ble (k+1) n=true from hk),hi⟩,hr⟩
def aHead (E:Env)(ops:Array Oper)(o:Oper)(fr:Fr)(σ:St):Option (FV×St):=
 match o.guard with
 |none=>match aOp E.T E.Γ o.op fr σ with
  |some (some x,σ')=>some (x,σ')
  |_=>none
 |some (j,want)=>match Q11 ops j with
  |some d=>match Fr.get d fr,want with
   |some (.one (.lit (.bool true))),true=>match aOp E.T E.Γ o.op fr σ with
    |some (some x,σ')=>some (x,σ')
    |_=>none
   |some (.one (.lit (.bool false))),false=>match aOp E.T E.Γ o.op fr σ with
    |some (some x,σ')=>some (x,σ')
    |_=>none
   |some (.one (.lit (.bool true))),false=>some (.tup [],σ)
   |some (.one (.lit (.bool false))),true=>some (.tup [],σ)
   |some (.tup []),_=>some (.tup [],σ)
   |_,_=>none
  |none=>none
section
variable {E:Env}{ops:Array Oper}{o:Oper}{fr:Fr}{σ σ':St}{v:FV}
theorem HStep.auto(hT:TabOk E.P E.T)(h:aHead E ops o fr σ=some (v,σ')):HStep E ops o fr σ σ' v:=by
 have key:(match aOp E.T E.Γ o.op fr σ with|some (some x,σ')=>some (x,σ')|_=>none)=some (v,σ')->AStep E o fr σ v σ':=by
  intro h;split at h
  ·rename_i x σ2 h1;simp only[Z3o,Z3p]at h;obtain⟨rfl,rfl⟩:=h;exact Qqs hT h1
  ·cases h
 unfold aHead at h;unfold HStep;cases hg:o.guard with
 |none=>rw[hg]at h;exact key h
 |some jw=>
  obtain⟨j,want⟩:=jw;rw[hg]at h;simp only at h ⊢;cases hs:Q11 ops j with
  |none=>rw[hs]at h;cases h
  |some d=>
   rw[hs]at h;simp only at h;split at h
   ·rename_i hb;exact⟨d,_,rfl,hb,.inl ⟨rfl,key h⟩⟩
   ·rename_i hb;exact⟨d,_,rfl,hb,.inl ⟨rfl,key h⟩⟩
   ·rename_i hb;cases h;exact⟨d,_,rfl,hb,.inr ⟨rfl,rfl,rfl⟩⟩
   ·rename_i hb;cases h;exact⟨d,_,rfl,hb,.inr ⟨rfl,rfl,rfl⟩⟩
   ·rename_i hb;cases h;exact⟨d,_,rfl,hb,.inr ⟨rfl,rfl,rfl⟩⟩
   ·cases h
theorem HStep.plain(hg:o.guard=none)(h:AStep E o fr σ v σ'):HStep E ops o fr σ σ' v:=by unfold HStep;rw[hg];exact h
theorem Qrf(hg:o.guard=some (j,b))(hj:Q11 ops j=some d)(hb:Fr.get d fr=some (.one (.lit (.bool b))))(h:AStep E o fr σ v σ'):HStep E ops o fr σ σ' v:=by unfold HStep;rw[hg];exact⟨d,_,hj,hb,.inl ⟨rfl,h⟩⟩
variable {l os:List Oper}{vs ws:List FV}{frb:Fr}{σ0 σ1:St}{al k:Nat}
theorem Heads.nil:Heads E ops l vs frb σ0 σ1 al k [] []:=trivial
theorem Heads.op(h1:o.dst.isSome=true)(h2:dstOk E.N o.dst=true)(hne:Nat.beq k al=false)(s0:HStep E ops o (depFr l vs o++frb) σ0 σ0 v)(s1:HStep E ops o (depFr l vs o++frb) σ1 σ1 v)(h:Heads E ops l vs frb σ0 σ1 al (k+1) os ws):Heads E ops l vs frb σ0 σ1 al k (o::os) (v::ws):=by
 have:¬k=al:=by rintro rfl;simp at hne
 exact⟨⟨h1,h2,by rw[if_neg this];exact⟨s0,s1⟩⟩,h⟩
theorem Heads.alloc(h1:o.dst.isSome=true)(h2:dstOk E.N o.dst=true)(he:Nat.beq k al=true)(s:HStep E ops o (depFr l vs o++frb) σ0 σ1 v)(h:Heads E ops l vs frb σ0 σ1 al (k+1) os ws):Heads E ops l vs frb σ0 σ1 al k (o::os) (v::ws):=
 ⟨⟨h1,h2,by rw[if_pos (Z2v he)];exact s⟩,h⟩
theorem Heads.call{f:Operand}{args:Array Operand}{tys:Array TypeId}{g:Nat}{first caps:List AC}{us as:List FV}(hΓ:GI E.Γ)(h1:o.dst.isSome=true)(h2:dstOk E.N o.dst=true)(hne:Nat.beq k al=false)(hgd:o.guard=none)
  (ho:o.op=.call { callee:=.value f,args:=args,argTypes:=tys }) (hf:aEval E.Γ (depFr l vs o++frb) f=some (.one (.fn (.func g) first caps))) (hargs:Q1g E.Γ (depFr l vs o++frb) args.toList=some us) (has:first.map .one++us++caps.map .one=as) (Qvd:idsF isO as)
  (Qvn:OuOk σ0.ou) (Qvs:OuOk σ1.ou) (hc:APure E.P E.Γ g as v) (h:Heads E ops l vs frb σ0 σ1 al (k+1) os ws):Heads E ops l vs frb σ0 σ1 al k (o::os) (v::ws):=
 Heads.op h1 h2 hne (HStep.plain hgd (Qrc hΓ ho hf hargs has Qvd Qvn hc)) (HStep.plain hgd (Qrc hΓ ho hf hargs has Qvd Qvs hc)) h
end
end Go.Abs
namespace Go.Abs
def Wk (x y:AC):Prop:=∀(w:World)(C:Ctx)(v:Value),R w C x v->R w C y v
def WkL (x y:List AC):Prop:=∀(w:World)(C:Ctx)(v:List Value),RV w C x v->RV w C y v
theorem Wk.refl(x:AC):Wk x x:=fun _ _ _ h=>h
theorem Wk.ofEq{x y:AC}(h:x=y):Wk x y:=by subst h;exact Wk.refl x
theorem Wk.trans{x y z:AC}(h:Wk x y)(k:Wk y z):Wk x z:=fun w C v r=>k w C v (h w C v r)
theorem WkF.trans{x z:FV}(h:WkF x y)(k:WkF y z):WkF x z:=fun w C v r=>k w C v (h w C v r)
theorem WkL.refl(x:List AC):WkL x x:=fun _ _ _ h=>h
theorem WkL.cons{x y:AC}{xs ys:List AC}(h:Wk x y)(k:WkL xs ys):WkL (x::xs) (y::ys):=by intro w C v hr;simp only[RV]at *;obtain⟨u,us,rfl,h1,h2⟩:=hr;exact⟨u,us,rfl,h w C u h1,k w C us h2⟩
theorem WkL.nil:WkL [] []:=WkL.refl []
theorem WkF.one{x y:AC}(h:Wk x y):WkF (.one x) (.one y):=fun w C v hr=>h w C v hr
theorem WkF.agg{x y:List AC}(h:WkL x y):WkF (.agg x) (.agg y):=by intro w C v hr;obtain⟨xs,rfl,h2⟩:=hr;exact⟨xs,rfl,h w C xs h2⟩
def WkFs (x y:List FV):Prop:=∀(w:World)(C:Ctx)(v:List Value),RFs w C x v->RFs w C y v
theorem WkFs.nil:WkFs [] []:=fun _ _ _ h=>h
theorem WkFs.cons{x y:FV}{xs ys:List FV}(h:WkF x y)(k:WkFs xs ys):WkFs (x::xs) (y::ys):=by intro w C v hr;simp only[RFs]at *;obtain⟨u,us,rfl,h1,h2⟩:=hr;exact⟨u,us,rfl,h w C u h1,k w C us h2⟩
theorem WkF.tup{x y:List FV}(h:WkFs x y):WkF (.tup x) (.tup y):=by intro w C v hr;obtain⟨xs,rfl,h2⟩:=hr;exact⟨xs,rfl,h w C xs h2⟩
theorem Wk.gs(s:Nat)(es:List (List AC))(i:Id):Wk (.gs s es i) (.sl s es):=by
 intro w C v hr;simp only[R]at *;obtain⟨_,⟨rfl,rfl,_⟩|⟨g,cap,rfl,h1,_,h2⟩⟩:=hr
 ·exact⟨none,0,rfl,by simp,by simp⟩
 ·exact⟨_,cap,rfl,h1,.inr ⟨_,rfl,rfl,h2⟩⟩
theorem Wk.gsE{es':List (List AC)}{i:Id}(h:es=es'):Wk (.gs s es i) (.sl s es'):=by subst h;exact Wk.gs s es i
theorem Wk.nilS(s:Nat):Wk (.lit (.slice none 0 0)) (.sl s []):=by intro w C v hr;simp only[R]at *;rw[hr.1];exact⟨none,0,rfl,by simp,by simp⟩
theorem Wk.any(x:AC):Wk x .any:=fun _ _ _ h=>R.one h
theorem FrOk.wk{x:FV}(hf:FrOk w C N fr tmps)(hx:Fr.get k fr=some x)(hw:WkF x y):FrOk w C N ((k,y)::fr) tmps:=by
 refine⟨hf.1,fun j z hz=>?_⟩;simp only[Fr.get]at hz;by_cases e:k=j
 ·subst e;simp at hz;subst hz;obtain⟨u,hu,hr⟩:=hf.2 k x hx;exact⟨u,hu,hw _ _ _ hr⟩
 ·rw[Q06 e]at hz;exact hf.2 j z hz
theorem AOps.wk{E:Env}{ops:Array Oper}{l:List Oper}{K:Cont}{fr:Fr}{σ:St}(k:Nat){x y:FV}(hx:Fr.get k fr=some x)(hw:WkF x y)(h:AOps E ops l K ((k,y)::fr) σ):AOps E ops l K fr σ:=
 fun F w0 C0 w C tmps hg hi hf=>h F w0 C0 w C tmps hg hi (hf.wk hx hw)
def Qrg (ds:List Nat):Fr->Fr
 |[]=>[]
 |(k,x)::r=>bif ds.any (fun d=>Nat.beq d k)then Qrg ds r else (k,x)::Qrg ds r
theorem Qrh{ds:List Nat}{k:Nat}:∀{fr:Fr}{x:FV},Fr.get k (Qrg ds fr)=some x->Fr.get k fr=some x/\k∉ds
 |[],x,h=>by cases h
 |(j,y)::r,x,h=>by
  simp only[Qrg]at h;cases hb:ds.any (fun d=>Nat.beq d j) with
  |true=>
   rw[hb]at h;simp only[cond_true]at h;obtain⟨h1,h2⟩:=Qrh h;have hne:j≠k:=by rintro rfl;obtain⟨d,hd,he⟩:=Z00.1 hb;exact h2 (Z2v he▸hd)
   exact⟨by simp only[Fr.get,Q06 hne,cond_false];exact h1,h2⟩
  |false=>
   rw[hb]at h;simp only[cond_false,Fr.get]at h ⊢;by_cases e:j=k
   ·subst e;simp only[Q4f,cond_true]at h ⊢;exact⟨h,fun hd=>by have:=Qzz.1 hb j hd;simp at this⟩
   ·rw[Q06 e]at h ⊢;exact Qrh h
theorem Qri(ds:List Nat)(fr:Fr):ds.all (fun d=>(Fr.get d (Qrg ds fr)).isNone)=true:=by
 rw[Qzy];intro d hd;cases h:Fr.get d (Qrg ds fr) with
 |none=>rfl
 |some x=>exact absurd hd (Qrh h).2
theorem Qrj(n:Nat)(vs:List FV)(ds:List Nat)(hm:E.P.follows .mixedOrders=true)(hB:drawB l n=true)(hds:dsts (l.take n)=ds)(frb:Fr)(hfb:Qrg ds fr=frb)
  (hH:Heads E l.toArray l vs frb σ σ n 0 (l.take n) vs) (Qvf:AOps E l.toArray (l.drop n) K (Q2x (l.take n) vs++frb) σ):ACode E (.region id l.toArray true) K fr σ:=by
 subst hds;subst hfb;exact Qr7 (σ1:=σ) n n vs _ hm hB (Qri _ _) (fun k x h=>(Qrh h).1) hH (by rw[if_neg zoy];exact Qvf)
theorem Qrk(n al:Nat)(vs:List FV)(ds:List Nat)(hm:E.P.follows .mixedOrders=true)(hal:Nat.ble (al+1) n=true)(hB:drawB l n=true)(hds:dsts (l.take n)=ds)(frb:Fr)(hfb:Qrg ds fr=frb)
  (hH:Heads E l.toArray l vs frb σ σ1 al 0 (l.take n) vs) (Qvf:AOps E l.toArray (l.drop n) K (Q2x (l.take n) vs++frb) σ1):ACode E (.region id l.toArray true) K fr σ:=by
 subst hds;subst hfb;exact Qr7 (σ1:=σ1) n al vs _ hm hB (Qri _ _) (fun k x h=>(Qrh h).1) hH (by rw[if_pos (show al < n from Z2x hal)];exact Qvf)
theorem Qrl{o:Oper}{r:FV}
  (hΓ:GI E.Γ) (hc:APure E.P E.Γ g as r) (hgd:o.guard=none) (Qvh:o.dst=some d) (hd:Nat.ble (d+1) E.N=true) (ho:o.op=.call { callee:=.value f,args:=args,argTypes:=tys })
  (hf:aEval E.Γ fr f=some (.one (.fn (.func g) first caps))) (hargs:Q1g E.Γ fr args.toList=some vs) (has:first.map .one++vs++caps.map .one=as) (hou:OuOk σ.ou) (Qvd:idsF isO as)
  (h:AOps E ops rest K ((d,r)::fr) σ):AOps E ops (o::rest) K fr σ:=
 Qr9 hgd Qvh hd (Qrc hΓ ho hf hargs has Qvd hou hc) h
theorem AOps.app{o:Oper}{dd:Nat}{ti tj:TI}{y:Operand}{c d:AC}{news:List (List AC)}(hT:TabOk E.P E.T)(hgd:o.guard=none)(Qvh:o.dst=some dd)(hd:Nat.ble (dd+1) E.N=true)(ho:o.op=.call { callee:=.builtin .append,args:=#[x,y],argTypes:=#[t,t] })
  (ht:Tab.get t E.T=some ti) (hk:Nat.beq ti.kind 2=true) (hj:Tab.get ti.elem E.T=some tj) (hx:aEval E.Γ fr x=some (.one c)) (hy:aEval E.Γ fr y=some (.one d)) (hb:Base σ c ti.elem s es σ1) (hsrc:Src d s news)
  (hs:tj.size=s) (hbytes:(es.length+news.length) * tj.bytes<=140737488355328) (h63:es.length+news.length<=140737488355328)
  (h:AOps E ops rest K ((dd,.one (.gs s (es++news) (.l σ.n)))::fr) (σ1.push (.tok ti.elem s (es++news).length))):AOps E ops (o::rest) K fr σ:=
 Qr9 hgd Qvh hd (AStep.append hT ho ht hk hj hx hy hb hsrc (by simp[hs]) hbytes h63) h
theorem Qrm(σ:St)(e:TypeId)(s:Nat)(es:List (List AC))(i:Id){u:Nat}(h:σ.get i=some (.tok e s u))(hu:u=es.length):Base σ (.gs s es i) e s es (σ.set i .dead):=by subst hu;exact Base.gs e s es i h
def Q2s:Nat->List Oper->Option (List Oper×List Oper)
 |0,l=>some ([],l)
 |_+1,[]=>none
 |n+1,o::l=>match Q2s n l with
  |some (a,b)=>some (o::a,b)
  |none=>none
theorem Q38:∀{n:Nat}{l a b:List Oper},Q2s n l=some (a,b)->l.take n=a/\l.drop n=b
 |0,l,a,b,h=>by simp only[Q2s,Z3o,Z3p]at h;obtain⟨rfl,rfl⟩:=h;simp
 |n+1,[],a,b,h=>by cases h
 |n+1,o::l,a,b,h=>by
  simp only[Q2s]at h;split at h
  ·rename_i x y hxy;obtain⟨h1,h2⟩:=Q38 hxy;simp only[Z3o,Z3p]at h;obtain⟨rfl,rfl⟩:=h;simp[h1,h2]
  ·cases h
def Qrn (ds:List Nat):Fr->Option Fr
 |[]=>some []
 |(k,x)::r=>match Qrn ds r with
  |some r'=>bif ds.any (fun d=>Nat.beq d k)then some r' else some ((k,x)::r')
  |none=>none
theorem Qro{ds:List Nat}:∀{fr fr':Fr},Qrn ds fr=some fr'->Qrg ds fr=fr'
 |[],fr',h=>by simpa[Qrn,Qrg]using h
 |(k,x)::r,fr',h=>by
  simp only[Qrn]at h;split at h
  ·rename_i r' hr;simp only[Qrg,Qro hr];cases hb:ds.any (fun d=>Nat.beq d k) <;> rw[hb]at h <;> simpa using h
  ·cases h
def frOf:List Oper->List FV->Fr->Option Fr
 |o::os,v::vs,fr=>match frOf os vs fr,o.dst with
  |some r,some d=>some ((d,v)::r)
  |some r,none=>some r
  |none,_=>none
 |_,_,fr=>some fr
theorem Q6r:∀{os:List Oper}{vs:List FV}{fr fr':Fr},frOf os vs fr=some fr'->Q2x os vs++fr=fr'
 |[],vs,fr,fr',h=>by simpa[frOf,Q2x]using h
 |o::os,[],fr,fr',h=>by simpa[frOf,Q2x]using h
 |o::os,v::vs,fr,fr',h=>by
  simp only[frOf]at h;split at h
  ·rename_i r d hr hd;have:=Q6r hr;simp only[Z3o]at h;subst h;simp[Q2x,hd,this]
  ·rename_i r hr hd;have:=Q6r hr;simp only[Z3o]at h;subst h;simp[Q2x,hd,this]
  ·cases h
def Q8s:Op->Bool
 |.alloc _|.box _ _|.store _ _ _=>false
 |_=>true
theorem Q9l{o:Op}{x:Option FV}(hp:Q8s o=true)(h:aOp T Γ o fr σ=some (x,σ')):σ'=σ:=by
 unfold aOp at h;split at h;all_goals first
  |(simp[Q8s]at hp;done)
  |skip
 all_goals (try simp only[cond_eq_ite]at h)
 all_goals (repeat' split at h)
 all_goals first
  |(simp only[Z3o,Z3p]at h;exact h.2.symm)
  |(cases h;done)
def lookC (k:Nat):List (Nat×FV)->Option FV
 |[]=>none
 |(j,v)::r=>bif Nat.beq j k then some v else lookC k r
def Q0l (E:Env)(ops:Array Oper)(l:List Oper)(frb:Fr)(σ:St)(cs:List (Nat×FV)):Nat->List Oper->List FV->Option (List FV)
 |_,[],_=>some []
 |k,o::os,acc=>bif o.dst.isSome&&dstOk E.N o.dst then
   (match lookC k cs with
   |some v=>Q4c (acc++[v]) fun acc'=>(match Q0l E ops l frb σ cs (k+1) os acc' with|some vs=>some (v::vs)|none=>none)
   |none=>bif Q8s o.op then Q4c (depFr l acc o++frb) fun fr=>(match aHead E ops o fr σ with
    |some (v,_)=>Q4c (acc++[v]) fun acc'=>(match Q0l E ops l frb σ cs (k+1) os acc' with|some vs=>some (v::vs)|none=>none)
    |none=>none)else none)else none
def Q09 (E:Env)(l:List Oper)(frb:Fr)(σ:St)(vs:List FV):List (Nat×FV)->Prop
 |[]=>True
 |(k,v)::r=>(∃o,l[k]?=some o/\HStep E l.toArray o (depFr l vs o++frb) σ σ v)/\Q09 E l frb σ vs r
theorem Q09.get{E:Env}{l:List Oper}{frb:Fr}{σ:St}{vs:List FV}{k:Nat}{v:FV}:∀{cs:List (Nat×FV)},Q09 E l frb σ vs cs->lookC k cs=some v->∃o,l[k]?=some o/\HStep E l.toArray o (depFr l vs o++frb) σ σ v
 |[],_,h=>by cases h
 |(j,u)::r,hc,h=>by
  simp only[lookC]at h;by_cases e:j=k
  ·subst e;simp at h;subst h;exact hc.1
  ·rw[Q06 e]at h;exact Q09.get hc.2 h
theorem Q1e{α β:Type}{f g:α->Option β}:∀{l:List α},(∀x∈l,f x=g x)->l.filterMap f=l.filterMap g
 |[],_=>rfl
 |x::l,h=>by have h1:=h x zsy;have h2:=Q1e (l:=l) (fun y hy=>h y (by simp[hy]));simp only[List.filterMap_cons,h1,h2]
theorem Q4d{acc:List FV}{o:Oper}(h:o.after.all (fun e=>!Region.binds .any e||decide (e.on < acc.length))=true):depFr l (acc++vs) o=depFr l acc o:=by
 unfold depFr;refine Q1e fun e he=>?_;have:=Array.all_eq_true'.1 h e (by simpa using he);cases hb:Region.binds .any e with
 |false=>simp
 |true=>
  rw[hb]at this;simp at this;rw[Z0p this]
theorem Q6n{E:Env}{l:List Oper}{frb:Fr}{σ:St}{cs:List (Nat×FV)}{n:Nat}{vs:List FV}(hT:TabOk E.P E.T)(hall:∀k o,l[k]?=some o->k < n->o.after.all (fun e=>!Region.binds .any e||decide (e.on < k))=true)(hcs:Q09 E l frb σ vs cs):
  ∀(os:List Oper) (k:Nat) (acc ws:List FV),acc.length=k->(∀i o,os[i]?=some o->l[k+i]?=some o/\k+i < n)->Q0l E l.toArray l frb σ cs k os acc=some ws->acc++ws=vs->Heads E l.toArray l vs frb σ σ n k os ws
 |[],k,acc,ws,_,_,h,_=>by simp only[Q0l,Z3o]at h;subst h;trivial
 |o::os,k,acc,ws,hl,hos,h,hv=>by
  have ho:=hos 0 o rfl;simp only[Z2t]at ho;simp only[Q0l,Q1b]at h;cases hb:(o.dst.isSome&&dstOk E.N o.dst) with
  |false=>rw[hb]at h;cases h
  |true=>
   rw[hb]at h;simp only[Qzc]at hb;simp only[cond_true]at h;have hne:Nat.beq k n=false:=Q06 zoy;have rest:∀{v:FV},(match Q0l E l.toArray l frb σ cs (k+1) os (acc++[v]) with|some vs=>some (v::vs)|none=>none)=some ws->∃ws',ws=v::ws'/\Heads E l.toArray l vs frb σ σ n (k+1) os ws':=by
    intro v h;split at h
    ·rename_i ws' hw;simp only[Z3o]at h;subst h;exact⟨ws',rfl,Q6n hT hall hcs os (k+1) (acc++[v]) ws' (by simp[hl]) (fun i o hi=>by have:=hos (i+1) o hi;rw[show k+1+i=k+(i+1) by omega];exact this) hw (by simpa using hv)⟩
    ·cases h
   cases hc:lookC k cs with
   |some v=>
    rw[hc]at h;obtain⟨ws',rfl,hw⟩:=rest h;obtain⟨o',ho',hs⟩:=hcs.get hc;rw[ho.1]at ho';cases ho';exact Heads.op hb.1 hb.2 hne hs hs hw
   |none=>
    rw[hc]at h;simp only at h;cases hp:Q8s o.op with
    |false=>rw[hp]at h;cases h
    |true=>
     rw[hp]at h;simp only[cond_true]at h;split at h
     ·rename_i v σ' ha;obtain⟨ws',rfl,hw⟩:=rest h;have Qvw:depFr l vs o=depFr l acc o:=by rw[←hv];exact Q4d (by rw[hl];exact hall k o ho.1 ho.2)
      have hσ:σ'=σ:=by
       have key:∀{y:FV}{τ:St},(match aOp E.T E.Γ o.op (depFr l acc o++frb) σ with|some (some x,σ')=>some (x,σ')|_=>none)=some (y,τ)->τ=σ:=by
        intro y τ h;split at h
        ·rename_i h1;simp only[Z3o,Z3p]at h;obtain⟨rfl,rfl⟩:=h;exact Q9l hp h1
        ·cases h
       unfold aHead at ha;split at ha
       ·exact key ha
       ·split at ha
        ·split at ha
         ·exact key ha
         ·exact key ha
         ·cases ha;rfl
         ·cases ha;rfl
         ·cases ha;rfl
         ·cases ha
        ·cases ha
      subst hσ;have hs:=HStep.auto (ops:=l.toArray) hT ha;rw[←Qvw]at hs;exact Heads.op hb.1 hb.2 hne hs hs hw
     ·cases h
theorem Qrp{hd tl:List Oper}(hT:TabOk E.P E.T)(n:Nat)(cs:List (Nat×FV))(hm:E.P.follows .mixedOrders=true)(hB:drawB l n=true)(hsp:Q2s n l=some (hd,tl))(hfb:Qrn (dsts hd) fr=some frb)
  (hrun:Q0l E l.toArray l frb σ cs 0 hd []=some vs) (hfr:frOf hd vs frb=some fr') (hcs:Q09 E l frb σ vs cs) (Qvf:AOps E l.toArray tl K fr' σ):ACode E (.region id l.toArray true) K fr σ:=by
 obtain⟨h1,h2⟩:=Q38 hsp;subst h1;subst h2;have h3:=Qro hfb;have h4:=Q6r hfr;have hn:n < l.length:=by simp only[drawB,Qzc,decide_eq_true_eq]at hB;exact hB.1.1.1.1.1
 have hlast:((l.take n).zipIdx.all fun x=>x.1.after.all fun e=>!Region.binds .any e||decide (e.on < x.2))=true:=by simp only[drawB,Qzc]at hB;exact hB.2
 refine Qrj n vs _ hm hB rfl frb h3 (Q6n hT (fun k o hk hkn=>?_) hcs _ 0 [] vs rfl (fun i o hi=>?_) hrun rfl) (by rw[h4];exact Qvf)
 ·have:=Qzy.1 hlast (o,k) (by rw[Z1v];exact⟨k,by rw[Z10,Z0z hkn,hk];simp⟩);exact this
 ·have hi2:i < n:=by have:=(Z0v.1 hi).1;simp at this;omega
  rw[Z0z hi2]at hi;exact⟨by simpa using hi,by omega⟩
theorem Q09.nil:Q09 E l frb σ vs []:=trivial
theorem Q09.step{E:Env}{l:List Oper}{frb:Fr}{σ:St}{vs:List FV}{k:Nat}{v:FV}{r:List (Nat×FV)}{o:Oper}(hk:l[k]?=some o)(h:HStep E l.toArray o (depFr l vs o++frb) σ σ v)(hr:Q09 E l frb σ vs r):Q09 E l frb σ vs ((k,v)::r):=⟨⟨o,hk,h⟩,hr⟩
theorem Q09.call{E:Env}{l:List Oper}{frb:Fr}{σ:St}{vs:List FV}{k:Nat}{v:FV}{r:List (Nat×FV)}{o:Oper}{f:Operand}{args:Array Operand}{tys:Array TypeId}{g:Nat}{first caps:List AC}{us as:List FV}(hΓ:GI E.Γ)
  (hc:APure E.P E.Γ g as v) (hou:OuOk σ.ou) (Qvd:idsF isO as) (hk:l[k]?=some o) (hgd:o.guard=none)
  (ho:o.op=.call { callee:=.value f,args:=args,argTypes:=tys }) (hf:aEval E.Γ (depFr l vs o++frb) f=some (.one (.fn (.func g) first caps))) (hargs:Q1g E.Γ (depFr l vs o++frb) args.toList=some us) (has:first.map .one++us++caps.map .one=as)
  (hr:Q09 E l frb σ vs r):Q09 E l frb σ vs ((k,v)::r):=
 .step hk (HStep.plain hgd (Qrc hΓ ho hf hargs has Qvd hou hc)) hr
theorem FrSub.consP{r:Fr}{x:FV}(h:Fr.get k fr=some y)(hw:WkF y x)(hp:x.ids isO)(hr:FrSub ρ fr r):FrSub ρ fr ((k,x)::r):=
 ⟨⟨y,h,by rw[FV.ren_pure ρ x hp];exact hw⟩,hr⟩
def splitOk:Op->Bool
 |.call { callee:=.builtin .len,args:=_,argTypes:=_ }=>true
 |.call _=>false
 |.binOp .eql _ _ _ _|.binOp .neq _ _ _ _|.binOp .lss _ _ _ _|.binOp .leq _ _ _ _|.binOp .gtr _ _ _ _|.binOp .geq _ _ _ _=>true
 |.binOp _ _ _ _ _=>false
 |.indexAddr _ _ _|.index _ _ _|.lookup _ _ _ _|.mapUpdate _ _ _ _|.convert _ _ _=>false
 |_=>true
theorem Qrq{o:Oper}(hok:splitOk o.op=true)(hg:o.guard=some (j,want))(hs:Q11 ops j=some d)(hb:Fr.get d fr=some (.one (.lit (.bool b))))(ht:b=true->AOps E ops (o::rest) K ((d,.one (.lit (.bool true)))::fr) σ)(hf:b=false->AOps E ops (o::rest) K ((d,.one (.lit (.bool false)))::fr) σ):
  AOps E ops (o::rest) K fr σ:=Qr8 hg hs hb ht hf
mutual
def AC.sub (θ:Id->Id):AC->AC
 |.lit v=>.lit v
 |.any=>.any
 |.sl s es=>.sl s (subS θ es)
 |.box cs=>.box (subL θ cs)
 |.ptr i off=>.ptr (θ i) off
 |.gs s es i=>.gs s (subS θ es) (θ i)
 |.arr i s off len cap=>.arr (θ i) s off len cap
 |.mp i=>.mp (θ i)
 |.fn f a b=>.fn f (subL θ a) (subL θ b)
 |.ifc t ag cs=>.ifc t ag (subL θ cs)
def subS (θ:Id->Id):List (List AC)->List (List AC)
 |[]=>[]
 |e::es=>subL θ e::subS θ es
def subL (θ:Id->Id):List AC->List AC
 |[]=>[]
 |c::cs=>c.sub θ::subL θ cs
end
mutual
def FV.sub (θ:Id->Id):FV->FV
 |.bot=>.bot
 |.one c=>.one (c.sub θ)
 |.agg cs=>.agg (subL θ cs)
 |.tup vs=>.tup (subF θ vs)
def subF (θ:Id->Id):List FV->List FV
 |[]=>[]
 |v::vs=>v.sub θ::subF θ vs
end
def AObj.sub (θ:Id->Id):AObj->AObj
 |.cells cs=>.cells (subL θ cs)
 |.map ck es=>.map ck (es.map fun x=>(x.1,x.2.1,x.2.2.sub θ))
 |.iter m a b d=>.iter (θ m) a b d
 |.sit s p=>.sit s p
 |.tok e s u=>.tok e s u
 |.dead=>.dead
theorem Q4q(θ:Id->Id):∀es:List (List AC),(subS θ es).length=es.length
 |[]=>rfl
 |e::es=>by simp[subS,Q4q θ es]
theorem Qck(θ:Id->Id):∀es:List AC,(subL θ es).length=es.length
 |[]=>rfl
 |e::es=>by simp[subL,Qck θ es]
structure Sub (θ:Id->Id)(p:Id->Prop)(w:World)(C C':Ctx):Prop where
 prot:∀a,C.prot a->C'.prot a
 id:∀i,p i->C.ok (θ i)->C'.ok i/\C'.blk i=C.blk (θ i)/\C'.tok i=C.tok (θ i)
section
variable {θ:Id->Id}{p:Id->Prop}{w:World}{C C':Ctx}
mutual
theorem R.sub(h:Sub θ p w C C'):∀(c:AC)(v:Value),c.ids p->R w C (c.sub θ) v->R w C' c v
 |.lit u,v,_,hr=>hr
 |.any,v,_,hr=>hr
 |.sl s es,v,hi,hr=>by
  simp only[AC.ids,AC.sub,R,Q4q]at *;obtain⟨a,cap,rfl,hc,h2⟩:=hr;refine⟨a,cap,rfl,hc,?_⟩;rcases h2 with h2|⟨ad,rfl,hs,h2⟩
  ·left;have:=Q4q θ es;rw[h2]at this;exact Z0b (by simpa using this.symm)
  ·exact .inr ⟨ad,rfl,hs,RS.sub h s es ad hi h2⟩
 |.box cs,v,hi,hr=>by simp only[AC.ids,AC.sub,R]at *;obtain⟨ad,rfl,hs,h2⟩:=hr;exact⟨ad,rfl,hs,RL.sub h cs ad hi h2⟩
 |.ptr i off,v,hi,hr=>by simp only[AC.ids,AC.sub,R]at *;obtain⟨ho,rfl⟩:=hr;obtain⟨h1,h2,_⟩:=h.id i hi ho;exact⟨h1,by rw[h2]⟩
 |.gs s es i,v,hi,hr=>by
  simp only[AC.ids,AC.sub,R,Q4q]at *;obtain⟨ho,hr⟩:=hr;obtain⟨h1,_,h3⟩:=h.id i hi.1 ho;refine⟨h1,?_⟩;rcases hr with ⟨rfl,he,ht⟩|⟨g,cap,rfl,hc,ht,h2⟩
  ·left;refine⟨rfl,?_,h3.trans ht⟩;have:=Q4q θ es;rw[he]at this;exact Z0b (by simpa using this.symm)
  ·exact .inr ⟨g,cap,rfl,hc,h3.trans ht,RS.sub h s es _ hi.2 h2⟩
 |.arr i s off len cap,v,hi,hr=>by simp only[AC.ids,AC.sub,R]at *;obtain⟨ho,rfl,hc⟩:=hr;obtain⟨h1,h2,_⟩:=h.id i hi ho;exact⟨h1,by rw[h2],hc⟩
 |.mp i,v,hi,hr=>by simp only[AC.ids,AC.sub,R]at *;obtain⟨ho,rfl⟩:=hr;obtain⟨h1,h2,_⟩:=h.id i hi ho;exact⟨h1,by rw[h2]⟩
 |.fn f first caps,v,hi,hr=>by simp only[AC.ids,AC.sub,R]at *;obtain⟨xs,ys,rfl,h1,h2⟩:=hr;exact⟨xs,ys,rfl,RV.sub h first xs hi.1 h1,RV.sub h caps ys hi.2 h2⟩
 |.ifc t ag cs,v,hi,hr=>by simp only[AC.ids,AC.sub,R]at *;obtain⟨xs,h1,h2⟩:=hr;exact⟨xs,RV.sub h cs xs hi h1,h2⟩
theorem RS.sub(h:Sub θ p w C C')(s:Nat):∀(es:List (List AC))(ad:Addr),idsS p es->RS w C s (subS θ es) ad->RS w C' s es ad
 |[],_,_,_=>by simp[RS]
 |e::es,ad,hi,hr=>by simp only[idsS,subS,RS,Qck]at *;exact⟨hr.1,RL.sub h e ad hi.1 hr.2.1,RS.sub h s es _ hi.2 hr.2.2⟩
theorem RL.sub(h:Sub θ p w C C'):∀(cs:List AC)(ad:Addr),idsL p cs->RL w C (subL θ cs) ad->RL w C' cs ad
 |[],_,_,_=>by simp[RL]
 |c::cs,ad,hi,hr=>by simp only[idsL,subL,RL]at *;obtain⟨⟨u,hu,hp,hr⟩,h2⟩:=hr;exact⟨⟨u,hu,h.prot _ hp,R.sub h c u hi.1 hr⟩,RL.sub h cs _ hi.2 h2⟩
theorem RV.sub(h:Sub θ p w C C'):∀(cs:List AC)(vs:List Value),idsL p cs->RV w C (subL θ cs) vs->RV w C' cs vs
 |[],_,_,hr=>by simpa[RV,subL]using hr
 |c::cs,vs,hi,hr=>by simp only[idsL,subL,RV]at *;obtain⟨u,us,rfl,h1,h2⟩:=hr;exact⟨u,us,rfl,R.sub h c u hi.1 h1,RV.sub h cs us hi.2 h2⟩
end
mutual
theorem RF.sub(h:Sub θ p w C C'):∀(x:FV)(v:Value),x.ids p->RF w C (x.sub θ) v->RF w C' x v
 |.bot,v,_,_=>by simp[RF]
 |.one c,v,hi,hr=>by simp only[FV.ids,FV.sub,RF]at *;exact R.sub h c v hi hr
 |.agg cs,v,hi,hr=>by simp only[FV.ids,FV.sub,RF]at *;obtain⟨xs,rfl,h2⟩:=hr;exact⟨xs,rfl,RV.sub h cs xs hi h2⟩
 |.tup vs,v,hi,hr=>by simp only[FV.ids,FV.sub,RF]at *;obtain⟨xs,rfl,h2⟩:=hr;exact⟨xs,rfl,RFs.sub h vs xs hi h2⟩
theorem RFs.sub(h:Sub θ p w C C'):∀(vs:List FV)(xs:List Value),idsF p vs->RFs w C (subF θ vs) xs->RFs w C' vs xs
 |[],xs,_,hr=>by simpa[RFs,subF]using hr
 |v::vs,xs,hi,hr=>by simp only[idsF,subF,RFs]at *;obtain⟨u,us,rfl,h1,h2⟩:=hr;exact⟨u,us,rfl,RF.sub h v u hi.1 h1,RFs.sub h vs us hi.2 h2⟩
end
theorem RM.sub(h:Sub θ p w C C'):∀(r:List (Nat×Value×FV))(es:List MapEntry),(∀x∈r,x.2.2.ids p)->RM w C (r.map fun x=>(x.1,x.2.1,x.2.2.sub θ)) es->RM w C' r es
 |[],_,_,hr=>by simpa[RM]using hr
 |(b,k,cs)::r,es,hi,hr=>by simp only[Z1g,RM]at *;obtain⟨e,es',rfl,hk,h1,h2⟩:=hr;exact⟨e,es',rfl,hk,RF.sub h cs _ (hi (b,k,cs) zsy) h1,RM.sub h r es' (fun x hx=>hi x (by simp[hx])) h2⟩
theorem ObjOk.sub{F:Nat->Prop}{i:Id}{o:AObj}(h:Sub θ p w C C')(Qvd:o.ids p)(hp:p i)(hok:C.ok (θ i))(Qvm:∀a,C'.prot a->C.prot a)(ho:ObjOk w C F (θ i) (o.sub θ)):ObjOk w C' F i o:=by
 obtain⟨_,hblk,htok⟩:=h.id i hp hok;cases o with
 |cells cs=>
  obtain⟨xs,T,h1,h2,h3,h4⟩:=ho;exact⟨xs,T,by rw[hblk];exact h1,by rw[hblk];exact h2,RV.sub h cs xs Qvd h3,fun a ha hpa=>h4 a (by rw[ha,hblk]) (Qvm a hpa)⟩
 |map ck es=>
  obtain⟨ents,h1,h2,h3⟩:=ho;exact⟨ents,by rw[hblk];exact h1,by rw[hblk];exact h2,RM.sub h es ents Qvd h3⟩
 |iter m since seen last=>
  obtain⟨h1,h2,h3⟩:=ho;obtain⟨m1,m2,_⟩:=h.id m Qvd h3;exact⟨by rw[hblk,m2];exact h1,by rw[hblk];exact h2,m1⟩
 |sit s p=>
  obtain⟨h1,h2⟩:=ho;exact⟨by rw[hblk];exact h1,by rw[hblk];exact h2⟩
 |tok e s used=>
  simp only[ObjOk,AObj.sub,htok]at *;cases ht:C.tok (θ i) with
  |none=>rw[ht]at ho;exact ho
  |some gc=>
   obtain⟨g,cap⟩:=gc;simp only[ht]at ho ⊢;obtain⟨xs,h1,h2,h3,h4,h6,h5⟩:=ho;exact⟨xs,h1,h2,h3,h4,h6,fun a ha hpa=>h5 a ha (Qvm a hpa)⟩
 |dead=>trivial
theorem Qrr{i:Id}(h:Sub θ p w C C')(hp:p i)(hok:C.ok (θ i)):o.block C' i=(o.sub θ).block C (θ i):=by obtain⟨_,hblk,htok⟩:=h.id i hp hok;cases o <;> simp[AObj.block,AObj.sub,hblk,htok]
end
structure Bus (θ:Id->Id)(p:Id->Prop)(w:World)(C C':Ctx):Prop where
 prot:∀a,C'.prot a->C.prot a
 id:∀i,p i->C'.ok i->C.ok (θ i)/\C.blk (θ i)=C'.blk i/\C.tok (θ i)=C'.tok i
section
variable {θ:Id->Id}{p:Id->Prop}{w:World}{C C':Ctx}
mutual
theorem R.bus(h:Bus θ p w C C'):∀(c:AC)(v:Value),c.ids p->R w C' c v->R w C (c.sub θ) v
 |.lit u,v,_,hr=>hr
 |.any,v,_,hr=>hr
 |.sl s es,v,hi,hr=>by
  simp only[AC.ids,AC.sub,R,Q4q]at *;obtain⟨a,cap,rfl,hc,h2⟩:=hr;refine⟨a,cap,rfl,hc,?_⟩;rcases h2 with h2|⟨ad,rfl,hs,h2⟩
  ·left;rw[h2];rfl
  ·exact .inr ⟨ad,rfl,hs,RS.bus h s es ad hi h2⟩
 |.box cs,v,hi,hr=>by simp only[AC.ids,AC.sub,R]at *;obtain⟨ad,rfl,hs,h2⟩:=hr;exact⟨ad,rfl,hs,RL.bus h cs ad hi h2⟩
 |.ptr i off,v,hi,hr=>by simp only[AC.ids,AC.sub,R]at *;obtain⟨ho,rfl⟩:=hr;obtain⟨h1,h2,_⟩:=h.id i hi ho;exact⟨h1,by rw[h2]⟩
 |.gs s es i,v,hi,hr=>by
  simp only[AC.ids,AC.sub,R,Q4q]at *;obtain⟨ho,hr⟩:=hr;obtain⟨h1,_,h3⟩:=h.id i hi.1 ho;refine⟨h1,?_⟩;rcases hr with ⟨rfl,he,ht⟩|⟨g,cap,rfl,hc,ht,h2⟩
  ·left;exact⟨rfl,by rw[he];rfl,h3.trans ht⟩
  ·exact .inr ⟨g,cap,rfl,hc,h3.trans ht,RS.bus h s es _ hi.2 h2⟩
 |.arr i s off len cap,v,hi,hr=>by simp only[AC.ids,AC.sub,R]at *;obtain⟨ho,rfl,hc⟩:=hr;obtain⟨h1,h2,_⟩:=h.id i hi ho;exact⟨h1,by rw[h2],hc⟩
 |.mp i,v,hi,hr=>by simp only[AC.ids,AC.sub,R]at *;obtain⟨ho,rfl⟩:=hr;obtain⟨h1,h2,_⟩:=h.id i hi ho;exact⟨h1,by rw[h2]⟩
 |.fn f first caps,v,hi,hr=>by simp only[AC.ids,AC.sub,R]at *;obtain⟨xs,ys,rfl,h1,h2⟩:=hr;exact⟨xs,ys,rfl,RV.bus h first xs hi.1 h1,RV.bus h caps ys hi.2 h2⟩
 |.ifc t ag cs,v,hi,hr=>by simp only[AC.ids,AC.sub,R]at *;obtain⟨xs,h1,h2⟩:=hr;exact⟨xs,RV.bus h cs xs hi h1,h2⟩
theorem RS.bus(h:Bus θ p w C C')(s:Nat):∀(es:List (List AC))(ad:Addr),idsS p es->RS w C' s es ad->RS w C s (subS θ es) ad
 |[],_,_,_=>by simp[RS,subS]
 |e::es,ad,hi,hr=>by simp only[idsS,subS,RS,Qck]at *;exact⟨hr.1,RL.bus h e ad hi.1 hr.2.1,RS.bus h s es _ hi.2 hr.2.2⟩
theorem RL.bus(h:Bus θ p w C C'):∀(cs:List AC)(ad:Addr),idsL p cs->RL w C' cs ad->RL w C (subL θ cs) ad
 |[],_,_,_=>by simp[RL,subL]
 |c::cs,ad,hi,hr=>by simp only[idsL,subL,RL]at *;obtain⟨⟨u,hu,hp,hr⟩,h2⟩:=hr;exact⟨⟨u,hu,h.prot _ hp,R.bus h c u hi.1 hr⟩,RL.bus h cs _ hi.2 h2⟩
theorem RV.bus(h:Bus θ p w C C'):∀(cs:List AC)(vs:List Value),idsL p cs->RV w C' cs vs->RV w C (subL θ cs) vs
 |[],_,_,hr=>by simpa[RV,subL]using hr
 |c::cs,vs,hi,hr=>by simp only[idsL,subL,RV]at *;obtain⟨u,us,rfl,h1,h2⟩:=hr;exact⟨u,us,rfl,R.bus h c u hi.1 h1,RV.bus h cs us hi.2 h2⟩
end
mutual
theorem RF.bus(h:Bus θ p w C C'):∀(x:FV)(v:Value),x.ids p->RF w C' x v->RF w C (x.sub θ) v
 |.bot,v,_,_=>by simp[RF,FV.sub]
 |.one c,v,hi,hr=>by simp only[FV.ids,FV.sub,RF]at *;exact R.bus h c v hi hr
 |.agg cs,v,hi,hr=>by simp only[FV.ids,FV.sub,RF]at *;obtain⟨xs,rfl,h2⟩:=hr;exact⟨xs,rfl,RV.bus h cs xs hi h2⟩
 |.tup vs,v,hi,hr=>by simp only[FV.ids,FV.sub,RF]at *;obtain⟨xs,rfl,h2⟩:=hr;exact⟨xs,rfl,RFs.bus h vs xs hi h2⟩
theorem RFs.bus(h:Bus θ p w C C'):∀(vs:List FV)(xs:List Value),idsF p vs->RFs w C' vs xs->RFs w C (subF θ vs) xs
 |[],xs,_,hr=>by simpa[RFs,subF]using hr
 |v::vs,xs,hi,hr=>by simp only[idsF,subF,RFs]at *;obtain⟨u,us,rfl,h1,h2⟩:=hr;exact⟨u,us,rfl,RF.bus h v u hi.1 h1,RFs.bus h vs us hi.2 h2⟩
end
theorem RM.bus(h:Bus θ p w C C'):∀(r:List (Nat×Value×FV))(es:List MapEntry),(∀x∈r,x.2.2.ids p)->RM w C' r es->RM w C (r.map fun x=>(x.1,x.2.1,x.2.2.sub θ)) es
 |[],_,_,hr=>by simpa[RM]using hr
 |(b,k,cs)::r,es,hi,hr=>by simp only[Z1g,RM]at *;obtain⟨e,es',rfl,hk,h1,h2⟩:=hr;exact⟨e,es',rfl,hk,RF.bus h cs _ (hi (b,k,cs) zsy) h1,RM.bus h r es' (fun x hx=>hi x (by simp[hx])) h2⟩
theorem ObjOk.bus{F:Nat->Prop}{i:Id}{o:AObj}(h:Bus θ p w C C')(Qvd:o.ids p)(hp:p i)(hok:C'.ok i)(Qvm:∀a,C.prot a->C'.prot a)(ho:ObjOk w C' F i o):ObjOk w C F (θ i) (o.sub θ):=by
 obtain⟨_,hblk,htok⟩:=h.id i hp hok;cases o with
 |cells cs=>
  obtain⟨xs,T,h1,h2,h3,h4⟩:=ho;exact⟨xs,T,by rw[hblk];exact h1,by rw[hblk];exact h2,RV.bus h cs xs Qvd h3,fun a ha hpa=>h4 a (by rw[ha,hblk]) (Qvm a hpa)⟩
 |map ck es=>
  obtain⟨ents,h1,h2,h3⟩:=ho;exact⟨ents,by rw[hblk];exact h1,by rw[hblk];exact h2,RM.bus h es ents Qvd h3⟩
 |iter m since seen last=>
  obtain⟨h1,h2,h3⟩:=ho;obtain⟨m1,m2,_⟩:=h.id m Qvd h3;exact⟨by rw[hblk,m2];exact h1,by rw[hblk];exact h2,m1⟩
 |sit s p=>
  obtain⟨h1,h2⟩:=ho;exact⟨by rw[hblk];exact h1,by rw[hblk];exact h2⟩
 |tok e s used=>
  simp only[ObjOk,AObj.sub,htok]at *;cases ht:C'.tok i with
  |none=>rw[ht]at ho;exact ho
  |some gc=>
   obtain⟨g,cap⟩:=gc;simp only[ht]at ho ⊢;obtain⟨xs,h1,h2,h3,h4,h6,h5⟩:=ho;exact⟨xs,h1,h2,h3,h4,h6,fun a ha hpa=>h5 a ha (Qvm a hpa)⟩
 |dead=>trivial
theorem Qrs{i:Id}(h:Bus θ p w C C')(hp:p i)(hok:C'.ok i):(o.sub θ).block C (θ i)=o.block C' i:=by obtain⟨_,hblk,htok⟩:=h.id i hp hok;cases o <;> simp[AObj.block,AObj.sub,hblk,htok]
theorem ObjOk.memo{F':Nat->Prop}{i:Id}(h:ObjOk w C F i o)(hF:∀g,o.block C i=some g->F' g->False):ObjOk w C F' i o:=by
 cases o with
 |cells cs=>obtain⟨xs,T,h1,h2,h3,h4⟩:=h;exact⟨xs,T,h1,fun hf=>hF _ rfl hf,h3,h4⟩
 |map ck es=>obtain⟨ents,h1,h2,h3⟩:=h;exact⟨ents,h1,fun hf=>hF _ rfl hf,h3⟩
 |iter m since seen last=>obtain⟨h1,h2,h3⟩:=h;exact⟨h1,fun hf=>hF _ rfl hf,h3⟩
 |sit s p=>obtain⟨h1,h2⟩:=h;exact⟨h1,fun hf=>hF _ rfl hf⟩
 |tok e s used=>
  simp only[ObjOk]at *;cases ht:C.tok i with
  |none=>rw[ht]at h;exact h
  |some gc=>
   obtain⟨g,cap⟩:=gc;simp only[ht]at h ⊢;obtain⟨xs,h1,h2,h3⟩:=h;exact⟨xs,h1,fun hf=>hF g (by simp[AObj.block,ht]) hf,h3⟩
 |dead=>trivial
end
def nameOf (ψ:List Id):Id->Id
 |.o k=>ψ.getD k (.o k)
 |.l k=>.l k
def inO (n:Nat):Id->Prop
 |.o k=>k < n
 |.l _=>False
def ouOf (os:List AObj):Outer:=fun k=>os[k]?
def Qb6 (σ:St)(θ:Id->Id):List Id->List AObj->Prop
 |[],[]=>True
 |i::is,o::os=>σ.get i=some (o.sub θ)/\Qb6 σ θ is os
 |_,_=>False
def Q3u (θ:Id->Id)(σ:St):List Id->List AObj->St
 |i::is,o::os=>Q3u θ (σ.set i (o.sub θ)) is os
 |_,_=>σ
theorem Qb6.at{σ:St}{θ:Id->Id}:∀{ψ:List Id}{os:List AObj},Qb6 σ θ ψ os->os.length=ψ.length/\∀(k:Nat)(i:Id)(o:AObj),ψ[k]?=some i->os[k]?=some o->σ.get i=some (o.sub θ)
 |[],[],_=>⟨rfl,fun k i o h=>by simp at h⟩
 |[],_::_,h=>h.elim
 |_::_,[],h=>h.elim
 |i::is,o::os,h=>by
  obtain⟨h1,h2⟩:=Qb6.at h.2;refine⟨by simp[h1],fun k j p hj hp=>?_⟩;cases k with
  |zero=>simp at hj hp;subst hj;subst hp;exact h.1
  |succ k=>exact h2 k j p (by simpa using hj) (by simpa using hp)
theorem Q7w{θ:Id->Id}{j:Id}:∀{ψ:List Id}{os:List AObj}{σ:St},j∉ψ->(Q3u θ σ ψ os).get j=σ.get j
 |[],os,σ,_=>by simp[Q3u]
 |i::is,[],σ,_=>by simp[Q3u]
 |i::is,o::os,σ,h=>by simp only[Q3u];simp at h;rw[Q7w (by simpa using h.2),Qqk σ (Z3d h.1)]
theorem Qe2{θ:Id->Id}:∀{ψ:List Id}{os:List AObj}{σ:St}{k:Nat}{i:Id}{o:AObj},ψ.Nodup->ψ[k]?=some i->os[k]?=some o->(Q3u θ σ ψ os).get i=some (o.sub θ)
 |[],os,σ,k,i,o,_,h,_=>by simp at h
 |j::is,[],σ,k,i,o,_,_,h=>by simp at h
 |j::is,p::os,σ,0,i,o,hn,h,h2=>by simp at h h2;subst h;subst h2;simp only[Q3u];rw[Q7w (Z27.1 hn).1,Qqj]
 |j::is,p::os,σ,k+1,i,o,hn,h,h2=>by simp only[Q3u];exact Qe2 (Z27.1 hn).2 (by simpa using h) (by simpa using h2)
theorem Qh9{θ:Id->Id}:∀{ψ:List Id}{os:List AObj}{σ:St},(Q3u θ σ ψ os).n=σ.n
 |[],os,σ=>by simp[Q3u]
 |i::is,[],σ=>by simp[Q3u]
 |i::is,o::os,σ=>by simp only[Q3u];rw[Qh9,Qql]
theorem Qhv{α:Type}:∀{l:List α}{i j:Nat}{x:α},l.Nodup->l[i]?=some x->l[j]?=some x->i=j
 |[],i,j,x,_,h,_=>by simp at h
 |y::l,0,0,x,_,_,_=>rfl
 |y::l,0,j+1,x,hn,h,h2=>by simp at h;subst h;exact ((Z27.1 hn).1 (Z1y (by simpa using h2))).elim
 |y::l,i+1,0,x,hn,h,h2=>by simp at h2;subst h2;exact ((Z27.1 hn).1 (Z1y (by simpa using h))).elim
 |y::l,i+1,j+1,x,hn,h,h2=>by exact congrArg (·+1) (Qhv (x:=x) (Z27.1 hn).2 (by simpa using h) (by simpa using h2))
def handF (w:World)(C:Ctx)(σ:St)(ψ:List Id):Nat->Prop:=fun b=>b < w.heap.size/\∀i o,i∈ψ->σ.get i=some o->o.block C i≠some b
def Ctx.hand (C:Ctx)(ψ:List Id):Ctx:={ prot:=C.prot,nl:=0,no:=ψ.length,phi:=fun i=>C.phi (nameOf ψ i),tk:=fun i=>C.tk (nameOf ψ i) }
section
variable {Γ:List (Nat×List AC)}{F:Nat->Prop}{w:World}{C:Ctx}{σ:St}{ψ:List Id}{os:List AObj}
theorem Qmg{i:Id}(h:inO n i):∃k,k < n/\i=.o k:=by
 cases i with
 |l k=>exact h.elim
 |o k=>exact⟨k,h,rfl⟩
theorem Qa8{ψ:List Id}{i:Id}(h:ψ[k]?=some i):nameOf ψ (.o k)=i:=by simp[nameOf,h]
theorem Q70(ψ:List Id):Sub (nameOf ψ) (inO ψ.length) w C (C.hand ψ):=⟨fun _ h=>h,fun i hi _=>by obtain⟨k,hk,rfl⟩:=Qmg hi;exact⟨hk,rfl,rfl⟩⟩
theorem Qpr(hi:Inv Γ F w C σ):∀k,F k->handF w C σ ψ k:=fun k hk=>⟨hi.base k hk,fun i o _ ho hb=>(Qqn (hi.obj i o ho).2 hb).1 hk⟩
theorem Inv.hand(hi:Inv Γ F w C σ)(hΓ:∀g cs,(g,cs)∈Γ->idsL (fun _=>False) cs)(hn:ψ.Nodup)(hg:Qb6 σ (nameOf ψ) ψ os)(Qvd:∀o∈os,AObj.ids (inO ψ.length) o):Inv Γ (handF w C σ ψ) w (C.hand ψ) ⟨0,[],ouOf os⟩:=by
 obtain⟨hlen,hat⟩:=hg.at;have key:∀(k:Nat) (o:AObj),os[k]?=some o->∃i,ψ[k]?=some i/\nameOf ψ (.o k)=i/\σ.get i=some (o.sub (nameOf ψ))/\k < ψ.length:=by
  intro k o ho;have hk:k < ψ.length:=by rw[←hlen];exact (Z0v.1 ho).1
  obtain⟨i,hi'⟩:∃i,ψ[k]?=some i:=⟨_,Z0t hk⟩;exact⟨i,hi',Qa8 hi',hat k i o hi' ho,hk⟩
 refine⟨fun k hk=>hk.1,rfl,fun g cs h=>RG.chg (C:=C) (C':=C.hand ψ) (p:=fun _=>False) ⟨fun _ _=>rfl,fun _ h=>h,fun i hp _=>hp.elim⟩ (hΓ g cs h) (hi.glob g cs h),hi.prot,fun i o h=>?_,fun i j o o' g h1 h2 h3 h4=>?_⟩
 ·cases i with
  |l k=>cases h
  |o k=>
   obtain⟨i,h1,h2,h3,h4⟩:=key k o h;obtain⟨h5,h6⟩:=hi.obj i _ h3;refine⟨h4,ObjOk.memo (F:=F) (ObjOk.sub (Q70 ψ) (Qvd o (Z1y h)) h4 (by rw[h2];exact h5) (fun _ h=>h) (by rw[h2];exact h6)) fun g hb hf=>?_⟩;rw[Qrr (i:=.o k) (Q70 (w:=w) ψ) h4 (by rw[h2];exact h5),h2]at hb;exact hf.2 i _ (Z1y h1) h3 hb
 ·cases i with
  |l k=>cases h1
  |o k=>cases j with
   |l k=>cases h2
   |o k'=>
    obtain⟨i,a1,a2,a3,a4⟩:=key k o h1;obtain⟨j,b1,b2,b3,b4⟩:=key k' o' h2;rw[Qrr (i:=.o k) (Q70 (w:=w) ψ) a4 (by rw[a2];exact (hi.obj i _ a3).1),a2]at h3;rw[Qrr (i:=.o k') (Q70 (w:=w) ψ) b4 (by rw[b2];exact (hi.obj j _ b3).1),b2]at h4;have:=hi.inj i j _ _ g a3 b3 h3 h4;subst this;have hkk:k=k':=by exact Qhv hn a1 b1
    rw[hkk]
theorem Inv.handBack(hi:Inv Γ F w C σ)(hn:ψ.Nodup)(hg:Qb6 σ (nameOf ψ) ψ os){w':World}{C':Ctx}{os':List AObj}(Qxw:os'.length=ψ.length)(Qvd:∀o∈os',AObj.ids (inO ψ.length) o)
  (hgo:Goes (handF w C σ ψ) isO w (C.hand ψ) w' C') (hi':Inv Γ (handF w C σ ψ) w' C' ⟨0,[],ouOf os'⟩):
  Goes F (fun _=>True) w C w' { C with prot:=C'.prot }/\Inv Γ F w' { C with prot:=C'.prot } (Q3u (nameOf ψ) σ ψ os')/\Bus (nameOf ψ) (inO ψ.length) w' { C with prot:=C'.prot } C':=by
 obtain⟨hlen,hat⟩:=hg.at;have hF:=Qpr (ψ:=ψ) hi;have he:Ext w C w' { C with prot:=C'.prot }:=⟨hgo.chg.cell,hgo.chg.prot,fun i _ ho=>⟨ho,rfl,rfl⟩⟩;have key:∀(k:Nat),k < ψ.length->∃i o,ψ[k]?=some i/\nameOf ψ (.o k)=i/\os[k]?=some o/\σ.get i=some (o.sub (nameOf ψ)):=by intro k hk;obtain⟨i,hi'⟩:∃i,ψ[k]?=some i:=⟨_,Z0t hk⟩;obtain⟨o,ho⟩:∃o,os[k]?=some o:=⟨_,Z0t (by rw[hlen];exact hk)⟩;exact⟨i,o,hi',Qa8 hi',ho,hat k i o hi' ho⟩
 have Qwx:Bus (nameOf ψ) (inO ψ.length) w' { C with prot:=C'.prot } C':=⟨fun _ h=>h,fun i hp _=>by obtain⟨k,hk,rfl⟩:=Qmg hp;obtain⟨i,o,h1,h2,h3,h4⟩:=key k hk;obtain⟨_,h6,h7⟩:=hgo.chg.id (.o k) trivial hk;refine⟨by rw[h2];exact (hi.obj i _ h4).1,h6.symm,h7.symm⟩⟩;refine⟨⟨hgo.stp.mono hF,he,Z30 _,fun a ha=>(hgo.newp a ha).imp id (fun h hf=>h (hF _ hf))⟩,?_,Qwx⟩;have hin:∀{i:Id}{o:AObj},(Q3u (nameOf ψ) σ ψ os').get i=some o->(i∉ψ/\σ.get i=some o)∨∃k p,k < ψ.length/\ψ[k]?=some i/\nameOf ψ (.o k)=i/\os'[k]?=some p/\o=p.sub (nameOf ψ)/\C'.ok (.o k)/\ObjOk w' C' (handF w C σ ψ) (.o k) p/\p.ids (inO ψ.length):=by
  intro i o h;by_cases hm:i∈ψ
  ·right;obtain⟨k,hk⟩:=Z1v.1 hm;have hkl:k < ψ.length:=(Z0v.1 hk).1;obtain⟨p,hp⟩:∃p,os'[k]?=some p:=⟨_,Z0t (by rw[Qxw];exact hkl)⟩;rw[Qe2 hn hk hp]at h;injection h with h;obtain⟨g1,g2⟩:=hi'.obj (.o k) p hp;exact⟨k,p,hkl,hk,Qa8 hk,hp,h.symm,g1,g2,Qvd p (Z1y hp)⟩
  ·rw[Q7w hm]at h;exact .inl ⟨hm,h⟩
 have hout:∀{i:Id}{o:AObj},i∉ψ->σ.get i=some o->∀g,o.block C i=some g->handF w C σ ψ g:=fun {i o} hm ho g hb=>
  ⟨(Qqn (hi.obj i o ho).2 hb).2,fun j p hj hp hbp=>by have:=hi.inj i j o p g ho hp hb hbp;subst this;exact hm hj⟩
 refine⟨fun k hk=>Z32 (hi.base k hk) hgo.stp.size,by rw[Qh9];exact hi.next,fun g cs h=>(hi.glob g cs h).ext he,hi'.prot,fun i o h=>?_,fun i j o o' g h1 h2 h3 h4=>?_⟩
 ·rcases hin h with ⟨hm,h⟩|⟨k,p,h1,h2,h3,h4,rfl,h5,h6,h7⟩
  ·obtain⟨g1,g2⟩:=hi.obj i o h;refine⟨g1,g2.keep he g1 (fun g x hb hx=>?_) (fun a hb _ ha=>?_)⟩
   ·rw[hgo.stp.block g (hout hm h g hb)];exact hx
   ·exact (hgo.newp a ha).resolve_right (fun hc=>hc (hout hm h _ hb))
  ·refine⟨?_,?_⟩
   ·have:=(Qwx.id (.o k) h1 h5).1;rw[h3]at this;exact this
   ·have:=ObjOk.bus (i:=.o k) Qwx h7 h1 h5 (fun _ h=>h) h6;rw[h3]at this;refine this.memo fun g hb hf=>?_;exact (Qqn this hb).1 (hF _ hf)
 ·have cross:∀{i j:Id}{o:AObj}{k:Nat}{p:AObj},i∉ψ->σ.get i=some o->k < ψ.length->nameOf ψ (.o k)=j->C'.ok (.o k)->ObjOk w' C' (handF w C σ ψ) (.o k) p->(p.sub (nameOf ψ)).block { C with prot:=C'.prot } j=some g->o.block { C with prot:=C'.prot } i=some g->False:=by intro i j o k p hm ho hk hj hok hp hbp hbo;rw[←hj,Qrs (i:=.o k) Qwx hk hok]at hbp;exact (Qqn hp hbp).1 (hout hm ho g (by rw[←Qqo he (hi.obj i o ho).1];exact hbo))
  rcases hin h1 with ⟨hm,a1⟩|⟨k,p,a1,a2,a3,a4,rfl,a5,a6,a7⟩ <;> rcases hin h2 with ⟨hm',b1⟩|⟨k',p',b1,b2,b3,b4,rfl,b5,b6,b7⟩
  ·exact hi.inj i j o o' g a1 b1 (by rw[←Qqo he (hi.obj i o a1).1];exact h3) (by rw[←Qqo he (hi.obj j o' b1).1];exact h4)
  ·exact (cross hm a1 b1 b3 b5 b6 h4 h3).elim
  ·exact (cross hm' b1 a1 a3 a5 a6 h3 h4).elim
  ·rw[←a3,Qrs (i:=.o k) Qwx a1 a5]at h3;rw[←b3,Qrs (i:=.o k') Qwx b1 b5]at h4;have:=hi'.inj (.o k) (.o k') p p' g a4 b4 h3 h4;injection this with hk;subst hk;rw[←a3,←b3]
end
theorem Qrt{o:Oper}
  (ψ:List Id) (as:List FV) (os:List AObj) (hΓ:∀g cs,(g,cs)∈E.Γ->idsL (fun _=>False) cs) (hgd:o.guard=none) (Qvh:o.dst=some d) (hd:Nat.ble (d+1) E.N=true) (ho:o.op=.call { callee:=.value f,args:=args,argTypes:=tys })
  (hf:aEval E.Γ fr f=some (.one (.fn (.func g) first caps))) (hargs:Q1g E.Γ fr args.toList=some vs) (has:first.map .one++vs++caps.map .one=subF (nameOf ψ) as) (Qvd:idsF (inO ψ.length) as) (hn:ψ.Nodup) (hg:Qb6 σ (nameOf ψ) ψ os) (Qxx:∀o∈os,AObj.ids (inO ψ.length) o)
  (hc:AFn E.P E.Γ g as (ouOf os) Q)
  (h:∀r ou',Q r ou'->∃os',os'.length=ψ.length/\ou'=ouOf os'/\(∀o∈os',AObj.ids (inO ψ.length) o)/\r.ids (inO ψ.length)/\AOps E ops rest K ((d,r.sub (nameOf ψ))::fr) (Q3u (nameOf ψ) σ ψ os')):AOps E ops (o::rest) K fr σ:=by
 intro F w0 C0 w C tmps hgo hi hfr;refine wpList_plain hgd fun N' hN=>?_;have Qve:=Q01 (a:=⟨tmps,E.ds⟩) hi hfr hf;simp only[RF,R]at Qve;obtain⟨xs,ys,hfv,hx,hy⟩:=Qve;have hvs:=Q27 (a:=⟨tmps,E.ds⟩) hi hfr hargs;have hall:RFs w C (first.map .one++vs++caps.map .one) (xs++args.toList.map (Act.eval ⟨tmps,E.ds⟩)++ys):=(Z3q hx |>.append hvs).append (Z3q hy);rw[has]at hall;have hrun:(execOp (Act.eval ⟨tmps,E.ds⟩) o).run E.P w=.ok (.enter g (xs++args.toList.map (Act.eval ⟨tmps,E.ds⟩)++ys).toArray) w:=by unfold execOp;simp only[ho,resolve,Z3s,hfv,Deferred.ofValue,Z3t,Z3r,invoke,hc.1];congr 2;apply Qz6;simp
 unfold Oper.wp;rw[hrun,Z3e];refine (hc.2 (handF w C σ ψ) w (C.hand ψ) _ rfl (hi.hand hΓ hn hg Qxx) (RFs.sub (Q70 ψ) as _ Qvd hall)).mono fun e w' ⟨v,r,ou',C',he,hg1,h0,hi',hr,hQ⟩=>?_;subst he;obtain⟨os',e1,rfl,e3,e4,Qwe⟩:=h r ou' hQ;obtain⟨hb1,hb2,hb3⟩:=hi.handBack hn hg e1 e3 hg1 hi';refine hN _ _ ?_;rw[Q3d];have hput:=Q2i (ds:=E.ds) (dst:=some d) (hfr.ext hb1.chg) hd (RF.bus hb3 r v e4 hr);rw[Qvh];exact Qwe F w0 C0 w' _ _ (hgo.trans hb1.toO) hb2 hput
end Go.Abs
namespace Go.Abs
open Go.MapKept
section
variable {Γ:List (Nat×List AC)}{F:Nat->Prop}{w:World}{C:Ctx}{σ:St}
theorem Inv.newAny(hi:Inv Γ F w C σ)(hnc:∀c t fr,obj≠.cells c t fr)(hb:∀C' i,o.block C' i=some (C'.blk i))(ho:∀C',Ext w C (w.alloc obj) C'->C'.blk (.l σ.n)=w.heap.size->(w.alloc obj).heap[w.heap.size]?=some obj->¬F w.heap.size->ObjOk (w.alloc obj) C' F (.l σ.n) o):
  ∃C',Goes F (fun _=>True) w C (w.alloc obj) C'/\Inv Γ F (w.alloc obj) C' (σ.push o)/\C'.ok (.l σ.n)/\C'.blk (.l σ.n)=w.heap.size:=by
 have hn:=Qqq C w.heap.size none hi.next;have he:Ext w C (w.alloc obj) (C.more w.heap.size none):=
  ⟨fun a ha=>Z48 _ _ _ (hi.prot a ha),fun a ha=>ha,fun i _ ho=>Qqp C _ _ ho⟩
 refine⟨C.more w.heap.size none,⟨Qqi hi.base _ (fun c t lo hi h=>absurd h (hnc c t _)),he,Z30 _,fun a ha=>.inl ha⟩,hi.addObj (σ.get_push _) he (by simp[Ctx.more,hi.next,St.push]) (fun k hk=>by have:=hi.base k hk;simp;omega) (fun a ha=>?_) (fun i p h g x hg hx=>Q2w w _ hx) (fun i p h a _ _ ha=>ha) hn.1 ?_ (fun i p g h hg e=>?_),hn.1,hn.2.1⟩
 ·have:=hi.prot a ha;simp;omega
 ·exact ho _ he hn.2.1 (heap_alloc_new w _) (fun hF=>by have:=hi.base _ hF;omega)
 ·rw[hb,hn.2.1]at e;injection e with e;have:=(Qqn (hi.obj i p h).2 hg).2;omega
theorem Inv.setAny(hi:Inv Γ F w C σ){i:Id}{o':AObj}{obj':Obj}(hg:σ.get i=some o)(hbk:o.block C i=some g)(hb':o'.block C i=some g)(hx:w.heap[g]?=some obj)(h1:∀c t fr,obj≠.cells c t fr)(h2:∀c t fr,obj'≠.cells c t fr)
  (hnew:∀w':World,Ext w C w' C->w'.heap[g]?=some obj'->(∀k,k≠g->w'.heap[k]?=w.heap[k]?)->ObjOk w' C F i o'):
  Goes F (fun _=>True) w C { w with heap:=w.heap.setIfInBounds g obj' } C/\Inv Γ F { w with heap:=w.heap.setIfInBounds g obj' } C (σ.set i o'):=by
 have hlt:=Q0f hx;have hat:({ w with heap:=w.heap.setIfInBounds g obj' }:World).heap[g]?=some obj':=by simp[hlt]
 have hoth:∀k,k≠g->({ w with heap:=w.heap.setIfInBounds g obj' }:World).heap[k]?=w.heap[k]?:=fun k hk=>by show (w.heap.setIfInBounds g obj')[k]?=_;rw[Qz9 (Z3d hk)]
 have hcell:∀a:Addr,a.block=g->({ w with heap:=w.heap.setIfInBounds g obj' }:World).cell? a=w.cell? a:=fun a ha=>by unfold World.cell?;rw[ha,hat,hx];cases obj <;> cases obj' <;> first|rfl|(exact absurd rfl (h1 _ _ _))|(exact absurd rfl (h2 _ _ _))
 have Qx6:=hi.turn (o':=o') hg hbk (w':={ w with heap:=w.heap.setIfInBounds g obj' }) zsy hoth (fun a ha _=>hcell a ha) hb' (fun he=>hnew _ he hat hoth);refine⟨⟨⟨rfl,rfl,rfl,by simp,fun k hk=>hoth k (fun e=>(Qqn (hi.obj i o hg).2 hbk).1 (e▸hk)),fun a _=>?_⟩,Qx6.1,Z30 _,fun a ha=>.inl ha⟩,Qx6.2⟩;by_cases ha:a.block=g
 ·unfold World.frozen?;rw[ha,hat,hx];cases obj <;> cases obj' <;> first|rfl|(exact absurd rfl (h1 _ _ _))|(exact absurd rfl (h2 _ _ _))
 ·unfold World.frozen?;rw[hoth _ ha]
end
theorem RM.length{w:World}{C:Ctx}:∀{r:List (Nat×Value×FV)}{es:List MapEntry},RM w C r es->es.length=r.length
 |[],es,h=>by simp only[RM]at h;simp[h]
 |(b,k,cs)::r,es,h=>by simp only[RM]at h;obtain⟨e,es',rfl,_,_,h3⟩:=h;simp[RM.length h3]
theorem RM.push{w:World}{C:Ctx}{e:MapEntry}{b:Nat}{k:Value}{v:FV}(hk:(k.oneCell'=true->e.key=k)/\e.born=b)(hv:RF w C v (entV k e)):∀{r:List (Nat×Value×FV)}{es:List MapEntry},RM w C r es->RM w C (r++[(b,k,v)]) (es++[e])
 |[],es,h=>by simp only[RM]at h;subst h;exact⟨e,[],rfl,hk,hv,rfl⟩
 |(b',k',cs)::r,es,h=>by simp only[RM]at h;obtain⟨e',es',rfl,h1,h2,h3⟩:=h;exact⟨e',es'++[e],rfl,h1,h2,RM.push hk hv h3⟩
def Q88:Value->TypeDesc
 |.int k _=>.int k
 |.string _=>.string
 |_=>.bool
def mFind (u:Value):List (Nat×Value×FV)->Option FV
 |[]=>none
 |(_,k,v)::r=>match Instr.sameNow (Q88 u) u k with
  |some true=>some v
  |_=>mFind u r
def mPut (u:Value)(x:FV)(ck:Nat):List (Nat×Value×FV)->List (Nat×Value×FV)×Nat
 |[]=>([(ck,u,x)],ck+1)
 |(b,k,v)::r=>match Instr.sameNow (Q88 u) u k with
  |some true=>((b,k,x)::r,ck)
  |_=>((b,k,v)::(mPut u x ck r).1,(mPut u x ck r).2)
def Qj3 (d:TypeDesc)(es:List (Nat×Value×FV)):Prop:=∀x∈es,IsKey d x.2.1
theorem Qfu{d:TypeDesc}{k:Value}(hu:IsKey d u)(hk:IsKey d k):∃b,Instr.sameNow d u k=some b/\(b=true->u=k):=by
 cases d <;> cases u <;> simp[IsKey]at hu <;> cases k <;> simp[IsKey]at hk
 ·exact⟨_,rfl,fun h=>by rw[eq_of_beq h]⟩
 ·subst hu;subst hk;exact⟨_,by simp[Instr.sameNow];rfl,fun h=>by rw[eq_of_beq h]⟩
 ·exact⟨_,rfl,fun h=>by rw[(bytes_beq _ _).1 h]⟩
theorem IsKey.one{d:TypeDesc}(h:IsKey d u):u.oneCell'=true:=by cases d <;> cases u <;> simp[IsKey]at h <;> rfl
theorem Q2o{d:TypeDesc}(h:IsKey d u):Q88 u=d:=by cases d <;> cases u <;> simp[IsKey]at h <;> simp[h,Q88]
theorem Q8e{w:World}{C:Ctx}{d:TypeDesc}{u:Value}(hu:IsKey d u):∀{r:List (Nat×Value×FV)}{es:List MapEntry}(j:Nat),RM w C r es->Qj3 d r->
  (mFind u r=none/\Instr.findNow d u es j=some none/\∀x ck,mPut u x ck r=(r++[(ck,u,x)],ck+1)) ∨
  ∃(i:Nat) (e:MapEntry) (v:FV),es[i]?=some e/\mFind u r=some v/\RF w C v e.val/\e.key=u/\Instr.findNow d u es j=some (some (j+i,e.val))/\
   ∀(x:FV) (ck:Nat) (w':World) (C':Ctx) (xv:Value),RF w' C' x xv->RM w' C' r es->(mPut u x ck r).2=ck/\RM w' C' (mPut u x ck r).1 (es.modify i fun e=>{ e with key:=u,val:=xv })
 |[],es,j,h,_=>by simp only[RM]at h;subst h;exact .inl ⟨rfl,rfl,fun _ _=>rfl⟩
 |(b,k,v)::r,es,j,h,hk=>by
  simp only[RM]at h;obtain⟨e,es',rfl,h1,h2,h3⟩:=h;obtain⟨bb,hs,hbb⟩:=Qfu hu (hk (b,k,v) zsy);simp only at hs;have hk1:k.oneCell'=true:=IsKey.one (hk (b,k,v) zsy);have hke:e.key=k:=h1.1 hk1;rw[Q7j e hk1]at h2;cases bb with
  |true=>
   have huk:=hbb rfl;refine .inr ⟨0,e,v,rfl,by simp only[mFind,Q2o hu,hs],h2,by rw[hke,huk],by simp only[Instr.findNow,hke,hs];rfl,fun x ck w' C' xv hx hrm=>?_⟩;simp only[RM]at hrm;obtain⟨e',es'',he,g1,g2,g3⟩:=hrm;cases he;refine⟨by simp only[mPut,Q2o hu,hs],?_⟩;simp only[mPut,Q2o hu,hs];exact⟨{ e with key:=u,val:=xv },es',by simp,⟨fun _=>huk,h1.2⟩,by rw[Q7j _ hk1];exact hx,g3⟩
  |false=>
   rcases Q8e hu (j+1) h3 (fun x hx=>hk x (by simp[hx]))with ⟨a1,a2,a3⟩|⟨i,e0,v0,a1,a2,a3,a4,a5,a6⟩
   ·exact .inl ⟨by simp only[mFind,Q2o hu,hs];exact a1,by simp only[Instr.findNow,hke,hs];exact a2,fun x ck=>by simp only[mPut,Q2o hu,hs,a3];rfl⟩
   ·refine .inr ⟨i+1,e0,v0,by simpa using a1,by simp only[mFind,Q2o hu,hs];exact a2,a3,a4,by simp only[Instr.findNow,hke,hs];rw[a5];congr 3;omega,fun x ck w' C' xv hx hrm=>?_⟩;simp only[RM]at hrm;obtain⟨e',es'',he,g1,g2,g3⟩:=hrm;cases he;obtain⟨c1,c2⟩:=a6 x ck w' C' xv hx g3;refine⟨by simp only[mPut,Q2o hu,hs];exact c1,?_⟩;simp only[mPut,Q2o hu,hs];exact⟨e,_,by simp,g1,g2,c2⟩
theorem run_next_at(w:World)(ty:TypeId)(r bm since last ck:Nat)(seen:Array Nat)(es:Array MapEntry)(hr:w.heap[r]?=some (.mapIter (some bm) since seen last))(hb:w.heap[bm]?=some (.map es ck))(hold:∀x∈es.toList,x.born < since)(hsc:since<=last):
  ((leftOf es seen).size=0/\(Instr.next (.pointer (some ⟨r,0,none⟩)) false ty).run P w=.ok (.tuple #[.bool false]) w) ∨
  ∃e∈(leftOf es seen).toList,∃w1:World,(w1=w∨w1=w.drew)/\(Instr.next (.pointer (some ⟨r,0,none⟩)) false ty).run P w=.ok (.tuple #[.bool true,e.key,e.val]) { w1 with heap:=w1.heap.setIfInBounds r (.mapIter (some bm) since (seen.push e.born) ck) }:=by
 simp only[Instr.next,getObj,Z3s,Sem.run,hr,hb,Result.andThen,next_test_false seen es since last hold hsc,Qze,if_false];unfold leftOf;have hmem:∀x∈(Array.filter (fun e=>!seen.contains e.born) es).toList,x.born < since:=fun x hx=>hold x (by simp at hx ⊢;exact hx.1);generalize Array.filter (fun e=>!seen.contains e.born) es=L at hmem ⊢;have e1:L.filter (fun x=>decide (x.born < since))=L:=Array.filter_eq_self.2 (fun x hx=>by simpa using hmem x (by simpa using hx));have e2:L.filter (fun x=>decide (x.born ≥ since))=#[]:=by rw[Array.filter_eq_empty_iff];intro x hx;have:=hmem x (by simpa using hx);simp;omega
 simp only[e1,e2,Array.append_empty];by_cases h0:L.size=0
 ·left;have:L=#[]:=Qz5 h0;subst this;refine⟨rfl,?_⟩;simp[choose,Sem.run,Question.forced]
 ·right;have hne:L.isEmpty=false:=by simp[Array.isEmpty,h0]
  simp only[hne,Qze,if_false,Array.empty_append,Array.size_map];have hch:∃(j:Nat) (w1:World),j < L.size/\(w1=w∨w1=w.drew)/\(choose (Question.mapNext L.size)).run P w=.ok j w1:=by
   by_cases hf:L.size<=1
   ·exact⟨0,w,by omega,.inl rfl,by simp[choose,Sem.run,Question.forced,hf]⟩
   ·exact⟨_,w.drew,Nat.mod_lt _ zoy,.inr rfl,by simp only[choose,Sem.run,Question.forced,decide_eq_true_eq,hf,if_false,Question.cut];rfl⟩
  obtain⟨j,w1,hj,hal,hrun⟩:=hch;refine⟨L[j],by simp,w1,hal,?_⟩;have hr1:w1.heap[r]?=some (.mapIter (some bm) since seen last):=by rcases hal with rfl|rfl <;> exact hr
  simp only[hrun,Array.getElem?_map,Array.getElem?_eq_getElem hj,Z3m,Z3s,Result.andThen];simp only[setObj,Sem.run,hr1];rfl
section
variable {E:Env}{o:Oper}{fr:Fr}{σ:St}
theorem AStep.makeMap{t:TypeId}(ho:o.op=.makeMap t none):AStep E o fr σ (.one (.mp (.l σ.n))) (σ.push (.map 0 [])):=by
 intro F w C tmps hi hf next Q hk
 obtain⟨C',h1,h2,h3,h4⟩:=hi.newAny (obj:=.map #[] 0) (o:=.map 0 []) (by intro c t fr h;cases h) (fun _ _=>rfl) (fun C' he hb hx hF=>⟨[],by rw[hb];exact hx,by rw[hb];exact hF,rfl⟩);have hrun:(execOp (Act.eval ⟨tmps,E.ds⟩) o).run E.P w=.ok (.value (.map (some w.heap.size))) (w.alloc (.map #[] 0)):=by unfold execOp;simp[ho,Instr.makeMap]
 unfold Oper.wp;rw[hrun,Z3f];exact hk _ _ C' h1 h2 ⟨h3,by rw[h4]⟩
theorem Qfl{z:Value}(h:(P.info? t).map (·.zero)=some (some z)):(zeroValue t).run P w=.ok z w:=by
 cases hi:P.info? t with
 |none=>rw[hi]at h;cases h
 |some i=>
  rw[hi]at h;simp only[Z3m,Z3o]at h;simp[zeroValue,typeInfo,hi,h]
theorem AStep.mapUpdate{t kt et:TypeId}{d:TypeDesc}{x i y:Operand}{m:Id}{ck:Nat}{es:List (Nat×Value×FV)}{u:Value}{v:FV}(ho:o.op=.mapUpdate t x i y)(hm:E.P.underlying t=some (.map kt et))(hd:E.P.underlying kt=some d)
  (hx:aEval E.Γ fr x=some (.one (.mp m))) (hg:σ.get m=some (.map ck es)) (hu:aEval E.Γ fr i=some (.one (.lit u))) (hy:aEval E.Γ fr y=some v) (hku:IsKey d u) (hks:Qj3 d es):
  AStep E o fr σ .bot (σ.set m (.map (mPut u v ck es).2 (mPut u v ck es).1)):=by
 intro F w C tmps hi hf next Q hk
 have h1:=Q01 (a:=⟨tmps,E.ds⟩) hi hf hx;have h2:=Q01 (a:=⟨tmps,E.ds⟩) hi hf hu;have h3:=Q01 (a:=⟨tmps,E.ds⟩) hi hf hy;simp only[RF,R]at h1 h2;obtain⟨hok,ents,he,hnf,hrm⟩:=hi.obj m _ hg;have key:∀(ents':List MapEntry) (ck':Nat) (es':List (Nat×Value×FV)),(∀w':World,Ext w C w' C->RM w' C es' ents')->mPut u v ck es=(es',ck')->(execOp (Act.eval ⟨tmps,E.ds⟩) o).run E.P w=.ok .skip { w with heap:=w.heap.setIfInBounds (C.blk m) (.map ents'.toArray ck') }->
   o.wp E.P ⟨tmps,E.ds⟩ w next Q:=by
  intro ents' ck' es' hr hp hrun;obtain⟨k1,k2⟩:=hi.setAny (o':=.map ck' es') (obj':=.map ents'.toArray ck') hg rfl rfl he (by intro c t fr h;cases h) (by intro c t fr h;cases h) (fun w' Qvt hat _=>⟨ents',hat,hnf,hr w' Qvt⟩);unfold Oper.wp;rw[hrun,Oper.upon_skip];exact hk undef _ C k1 (by rw[hp];exact k2) (by simp[RF])
 rcases Q8e hku 0 hrm hks with ⟨a1,a2,a3⟩|⟨j,e,v0,a1,a2,a3,a4,a5,a6⟩
 ·refine key (ents++[{ key:=u,val:=(Act.eval ⟨tmps,E.ds⟩ y),born:=ck }]) (ck+1) (es++[(ck,u,v)]) (fun w' Qvt=>RM.push (e:={ key:=u,val:=(Act.eval ⟨tmps,E.ds⟩ y),born:=ck }) (b:=ck) (k:=u) (v:=v) ⟨fun _=>rfl,rfl⟩ (by rw[Q7j _ (IsKey.one hku)];exact h3.ext Qvt) (hrm.ext Qvt)) (a3 v ck) ?_;unfold execOp;simp only[ho];simp[Instr.mapUpdate,run_underlying hm,h1.2,h2.1,Z2o he,run_checkKey hd hku,run_findKey hd a2,MapKept.run_setObj_map _ he,Result.andThen]
 ·have hsame:∀w':World,Ext w C w' C->_:=fun w' Qvt=>a6 v ck w' C (Act.eval ⟨tmps,E.ds⟩ y) (h3.ext Qvt) (hrm.ext Qvt);refine key (ents.modify j fun e=>{ e with key:=u,val:=(Act.eval ⟨tmps,E.ds⟩ y) }) ck (mPut u v ck es).1 (fun w' Qvt=>(hsame w' Qvt).2) (by have h9:=(hsame w (Chg.refl _ _ _)).1;generalize mPut u v ck es=z at h9 ⊢;cases z;simp only at h9;subst h9;rfl) ?_;unfold execOp;simp only[ho];have hj:ents[j]?=some e:=a1;simp only[Z3a]at a5;simp[Instr.mapUpdate,run_underlying hm,h1.2,h2.1,Z2o he,run_checkKey hd hku,run_findKey hd a5,hj,a4,run_keyThatStays hku,MapKept.run_setObj_map _ he,Result.andThen]
theorem Qru{kt et:TypeId}{m:Id}{es:List (Nat×Value×FV)}(ho:o.op=.range t x)(hm:E.P.underlying t=some (.map kt et))(hx:aEval E.Γ fr x=some (.one (.mp m)))(hg:σ.get m=some (.map ck es)):
  AStep E o fr σ (.one (.ptr (.l σ.n) 0)) (σ.push (.iter m ck [] ck)):=by
 intro F w C tmps hi hf next Q hk
 have h1:=Q01 (a:=⟨tmps,E.ds⟩) hi hf hx;simp only[RF,R]at h1;obtain⟨hok,ents,he,hnf,hrm⟩:=hi.obj m _ hg;obtain⟨C',k1,k2,k3,k4⟩:=hi.newAny (obj:=.mapIter (some (C.blk m)) ck #[] ck) (o:=.iter m ck [] ck) (by intro c t fr h;cases h) (fun _ _=>rfl) (fun C' Qvt hb hx hF=>by obtain⟨m1,m2,_⟩:=Qvt.id m trivial hok;exact⟨by rw[hb,m2];exact hx,by rw[hb];exact hF,m1⟩);have hrun:(execOp (Act.eval ⟨tmps,E.ds⟩) o).run E.P w=.ok (.value (.pointer (some ⟨w.heap.size,0,none⟩))) (w.alloc (.mapIter (some (C.blk m)) ck #[] ck)):=by unfold execOp;simp only[ho];simp[Instr.range,run_underlying hm,h1.2,Z2o he]
 unfold Oper.wp;rw[hrun,Z3f];exact hk _ _ C' k1 k2 ⟨k3,by rw[k4]⟩
theorem AStep.entry{x:Operand}{it m:Id}{since last ck b:Nat}{seen:List Nat}{es:List (Nat×Value×FV)}{u:Value}{v:FV}(ho:o.op=.entry x)(hx:aEval E.Γ fr x=some (.one (.ptr it 0)))(hit:σ.get it=some (.iter m since (seen++[b]) ck))(hg:σ.get m=some (.map ck es))
  (hf:es.find? (fun x=>x.1==b)=some (b,u,v)) (hu:u.oneCell'=true):AStep E o fr σ (.tup [.one (.lit u),v]) σ:=by
 refine Qqz fun F w C tmps hi hfr=>?_;have h1:=Q01 (a:=⟨tmps,E.ds⟩) hi hfr hx;simp only[RF,R]at h1;obtain⟨hok,ents,he,hnf,hrm⟩:=hi.obj m _ hg;obtain⟨Qvp,hi1,_,_⟩:=hi.obj it _ hit;have hfe:∀{es:List (Nat×Value×FV)}{ents:List MapEntry},RM w C es ents->es.find? (fun x=>x.1==b)=some (b,u,v)->∃e,ents.find? (fun e=>e.born==b)=some e/\e.key=u/\RF w C v e.val:=by
  intro es
  induction es with
  |nil=>intro ents _ h;simp at h
  |cons y es ih=>
   intro ents h hf;obtain⟨b',k',v'⟩:=y;simp only[RM]at h;obtain⟨e,es',rfl,g1,g2,g3⟩:=h;simp only[Z0f]at hf ⊢;rw[g1.2];cases hb:(b'==b) with
   |true=>
    rw[hb]at hf;simp only[Z3o,Z3p]at hf;obtain⟨_,rfl,rfl⟩:=hf;exact⟨e,rfl,g1.1 hu,by rw[Q7j e hu]at g2;exact g2⟩
   |false=>
    rw[hb]at hf;exact ih g3 hf
 obtain⟨e,e1,e2,e3⟩:=hfe hrm hf;refine⟨.tuple #[e.key,e.val],?_,[e.key,e.val],rfl,e.key,[e.val],rfl,⟨e2,hu⟩,e.val,[],rfl,e3,rfl⟩;have hg1:(getObj (C.blk it)).run E.P w=.ok (.mapIter (some (C.blk m)) since (seen++[b]).toArray ck) w:=by simp[getObj,Sem.run,hi1]
 unfold execOp;simp only[ho];simp[Instr.entry,h1.2,hg1,Z2o he,e1]
theorem Qrv{it m:Id}{since last:Nat}{seen:List Nat}{es:List (Nat×Value×FV)}(hgd:o.guard=none)(Qvh:o.dst=some d)(hd:Nat.ble (d+1) E.N=true)(ho:o.op=.next x false)(hx:aEval E.Γ fr x=some (.one (.ptr it 0)))
  (hit:σ.get it=some (.iter m since seen last)) (hg:σ.get m=some (.map ck es)) (hold:∀x∈es,x.1 < since) (hsc:since<=last) (hkeys:∀x∈es,x.2.1.oneCell'=true)
  (hend:(∀x∈es,x.1∈seen)->AOps E ops rest K ((d,.tup [.one (.lit (.bool false))])::fr) σ)
  (hmore:∀b u v,(b,u,v)∈es->b∉seen->AOps E ops rest K ((d,.tup [.one (.lit (.bool true)),.one (.lit u),v])::fr) (σ.set it (.iter m since (seen++[b]) ck))):AOps E ops (o::rest) K fr σ:=by
 intro F w0 C0 w C tmps hgo hi hfr;refine wpList_plain hgd fun N' hN=>?_;have h1:=Q01 (a:=⟨tmps,E.ds⟩) hi hfr hx;simp only[RF,R]at h1;obtain⟨hok,ents,he,hnf,hrm⟩:=hi.obj m _ hg;obtain⟨Qvp,hi1,hnf2,_⟩:=hi.obj it _ hit;have hmem:∀{es:List (Nat×Value×FV)}{ents:List MapEntry},(∀x∈es,x.2.1.oneCell'=true)->RM w C es ents->(∀e∈ents,∃v,(e.born,e.key,v)∈es/\RF w C v e.val)/\(∀x∈es,∃e∈ents,e.born=x.1):=by
  intro es
  induction es with
  |nil=>intro ents _ h;simp only[RM]at h;subst h;simp
  |cons y es ih=>
   intro ents hks h;obtain⟨b',k',v'⟩:=y;simp only[RM]at h;obtain⟨e,es',rfl,g1,g2,g3⟩:=h;have hk1:k'.oneCell'=true:=hks _ Z1r;rw[Q7j e hk1]at g2;obtain⟨i1,i2⟩:=ih (fun x hx=>hks x (Z1q _ hx)) g3;refine⟨fun e' he'=>?_,fun x hx=>?_⟩
   ·rcases Z1p.1 he' with rfl|h
    ·exact⟨v',by rw[g1.1 hk1,g1.2];simp,g2⟩
    ·obtain⟨v,hv,hr⟩:=i1 e' h;exact⟨v,by simp[hv],hr⟩
   ·rcases Z1p.1 hx with rfl|h
    ·exact⟨e,by simp,g1.2⟩
    ·obtain⟨e',he',hb⟩:=i2 x h;exact⟨e',by simp[he'],hb⟩
 obtain⟨m1,m2⟩:=hmem hkeys hrm;have Qxy:∀e∈ents.toArray.toList,e.born < since:=fun e he'=>by obtain⟨v,hv,_⟩:=m1 e (by simpa using he');exact hold _ hv
 rcases run_next_at (P:=E.P) w o.type (C.blk it) (C.blk m) since last ck seen.toArray ents.toArray hi1 he Qxy hsc with ⟨hl,hrun⟩|⟨e,hel,w1,hw1,hrun⟩
 ·have hrun':(execOp (Act.eval ⟨tmps,E.ds⟩) o).run E.P w=.ok (.value (.tuple #[.bool false])) w:=by unfold execOp;simp only[ho];simp[h1.2,hrun]
  unfold Oper.wp;rw[hrun',Z3f];refine hN _ _ ?_;rw[Q3d];have hput:=Q2i (ds:=E.ds) (dst:=some d) (x:=.tup [.one (.lit (.bool false))]) (u:=.tuple #[.bool false]) hfr hd ⟨[.bool false],rfl,.bool false,[],rfl,⟨rfl,rfl⟩,rfl⟩;rw[Qvh];refine hend (fun x hx=>?_) F w0 C0 w C _ hgo hi hput;obtain⟨e,he',hb⟩:=m2 x hx;have h0:leftOf ents.toArray seen.toArray=#[]:=Qz5 hl;by_cases hc:x.1∈seen
  ·exact hc
  ·have:e∈leftOf ents.toArray seen.toArray:=by unfold leftOf;rw[Array.mem_filter];refine⟨by simpa using he',?_⟩;rw[hb];simp[hc]
   rw[h0]at this;simp at this
 ·have hem:e∈ents/\e.born∉seen:=by
   have:e∈leftOf ents.toArray seen.toArray:=by simpa using hel
   unfold leftOf at this;simpa using this
  obtain⟨v,hv,hrv⟩:=m1 e hem.1;have hrun':(execOp (Act.eval ⟨tmps,E.ds⟩) o).run E.P w=.ok (.value (.tuple #[.bool true,e.key,e.val])) { w1 with heap:=w1.heap.setIfInBounds (C.blk it) (.mapIter (some (C.blk m)) since (seen.toArray.push e.born) ck) }:=by unfold execOp;simp only[ho];simp[h1.2,hrun]
  have Qvi:Goes F (fun _=>True) w C w1 C/\Inv E.Γ F w1 C σ/\w1.heap=w.heap:=by
   rcases hw1 with rfl|rfl
   ·exact⟨Goes.refl _ _ _ _,hi,rfl⟩
   ·exact⟨Goes.drew hi,hi.drew.2,rfl⟩
  obtain⟨s1,s2,s3⟩:=Qvi;obtain⟨k1,k2⟩:=s2.setAny (o':=.iter m since (seen++[e.born]) ck) (obj':=.mapIter (some (C.blk m)) since (seen.toArray.push e.born) ck) hit rfl rfl (by rw[s3];exact hi1) (by intro c t fr h;cases h) (by intro c t fr h;cases h) (fun w' Qvt hat _=>⟨by simpa using hat,hnf2,hok⟩);unfold Oper.wp;rw[hrun',Z3f];refine hN _ _ ?_;rw[Q3d];have Qwy:=s1.trans k1;have hput:=Q2i (ds:=E.ds) (dst:=some d) (x:=.tup [.one (.lit (.bool true)),.one (.lit e.key),v]) (u:=.tuple #[.bool true,e.key,e.val]) (hfr.ext Qwy.chg) hd ⟨[.bool true,e.key,e.val],rfl,.bool true,[e.key,e.val],rfl,⟨rfl,rfl⟩,e.key,[e.val],rfl,⟨rfl,hkeys _ hv⟩,e.val,[],rfl,hrv.ext Qwy.chg,rfl⟩;rw[Qvh];exact hmore e.born e.key v hv hem.2 F w0 C0 _ C _ (hgo.trans Qwy.toO) k2 hput
end
end Go.Abs
namespace Go.Abs
section
variable {Γ:List (Nat×List AC)}{F:Nat->Prop}{w:World}{C:Ctx}{σ:St}
def Ctx.froze (C:Ctx)(g:Nat):Ctx:={ C with prot:=fun a=>C.prot a∨a.block=g }
theorem Inv.freeze(hi:Inv Γ F w C σ){i:Id}(hg:σ.get i=some (.cells cs)):
  Goes F (fun _=>True) w C w (C.froze (C.blk i))/\Inv Γ F w (C.froze (C.blk i)) (σ.set i .dead)/\RL w (C.froze (C.blk i)) cs ⟨C.blk i,0,none⟩:=by
 obtain⟨hok,xs,T,h1,h2,h3,h4⟩:=hi.obj i _ hg;have he:Ext w C w (C.froze (C.blk i)):=⟨fun _ _=>rfl,fun _ h=>.inl h,fun i _ ho=>⟨ho,rfl,rfl⟩⟩;refine⟨⟨Z3v _ _,he,Z30 _,fun a ha=>ha.imp id (fun h=>by rw[h];exact h2)⟩,⟨hi.base,by rw[Qql];exact hi.next,fun g cs h=>(hi.glob g cs h).ext he,fun a ha=>?_,fun j p h=>?_,fun j k p q g a1 a2 a3 a4=>?_⟩,?_⟩
 ·rcases ha with ha|ha
  ·exact hi.prot a ha
  ·rw[ha];exact Q0f h1
 ·by_cases e:i=j
  ·subst e;rw[Qqj]at h;injection h with h;subst h;exact⟨hok,trivial⟩
  ·rw[Qqk σ e]at h;obtain⟨b1,b2⟩:=hi.obj j p h;refine⟨b1,b2.keep he b1 (fun g x _ hx=>hx) (fun a hb _ ha=>?_)⟩;rcases ha with ha|ha
   ·exact ha
   ·exact (e (hi.inj i j _ p a.block hg h (by simp[AObj.block,ha]) hb)).elim
 ·by_cases e1:i=j
  ·subst e1;rw[Qqj]at a1;injection a1 with a1;subst a1;simp[AObj.block]at a3
  ·by_cases e2:i=k
   ·subst e2;rw[Qqj]at a2;injection a2 with a2;subst a2;simp[AObj.block]at a4
   ·rw[Qqk σ e1]at a1;rw[Qqk σ e2]at a2;exact hi.inj j k p q g a1 a2 (by rw[←Qqo he (hi.obj j p a1).1];exact a3) (by rw[←Qqo he (hi.obj k q a2).1];exact a4)
 ·refine RL.of_new 0 (h3.ext he) (fun j v hj=>?_) (fun ad ha=>.inr ha);simp only[World.cell?,h1,Z3a];simpa using hj
end
def Qcb (i:Id)(cs:List AC)(fr:Fr):Fr->Prop
 |[]=>True
 |(k,x)::r=>(Fr.get k fr=some x∨∃off,Fr.get k fr=some (.one (.ptr i off))/\x=.one (.box (cs.drop off)))/\Qcb i cs fr r
theorem Qcb.get{i:Id}{cs:List AC}{fr:Fr}:∀{fr':Fr},Qcb i cs fr fr'->∀k x,Fr.get k fr'=some x->Fr.get k fr=some x∨∃off,Fr.get k fr=some (.one (.ptr i off))/\x=.one (.box (cs.drop off))
 |[],_,k,x,h=>by cases h
 |(j,v)::r,hs,k,x,h=>by
  simp only[Qcb]at hs;simp only[Fr.get]at h;by_cases e:j=k
  ·subst e;simp at h;subst h;exact hs.1
  ·rw[Q06 e]at h;exact Qcb.get hs.2 k x h
theorem Q6q{i:Id}(hi:Inv Γ F w C σ)(hf:FrOk w C N fr tmps)(hg:σ.get i=some (.cells cs))(hs:Qcb i cs fr fr'):
  Goes F (fun _=>True) w C w (C.froze (C.blk i))/\Inv Γ F w (C.froze (C.blk i)) (σ.set i .dead)/\FrOk w (C.froze (C.blk i)) N fr' tmps:=by
 obtain⟨h1,h2,h3⟩:=hi.freeze hg;refine⟨h1,h2,hf.1,fun k x hk=>?_⟩;rcases hs.get k x hk with h|⟨off,h,rfl⟩
 ·obtain⟨u,hu,hr⟩:=hf.2 k x h;exact⟨u,hu,hr.ext h1.chg⟩
 ·obtain⟨u,hu,hr⟩:=hf.2 k _ h;simp only[RF,R]at hr;refine⟨u,hu,⟨C.blk i,off,none⟩,hr.2,rfl,?_⟩;have:=RL.drop off rfl h3;simpa using this
theorem AOps.freeze1(i:Id)(d:Nat)(hg:σ.get i=some (.cells cs))(hd:Fr.get d fr=some (.one (.ptr i 0)))(h:AOps E ops l K ((d,.one (.box cs))::fr) (σ.set i .dead)):AOps E ops l K fr σ:=by
 intro F w0 C0 w C tmps hgo hi hf;obtain⟨h1,h2,h3⟩:=Q6q hi hf hg (fr':=[]) trivial;refine h F w0 C0 w _ tmps (hgo.trans h1.toO) h2 ⟨hf.1,fun k x hk=>?_⟩;obtain⟨_,_,h4⟩:=hi.freeze hg;simp only[Fr.get]at hk;by_cases e:d=k
 ·subst e;simp at hk;subst hk;obtain⟨u,hu,hr⟩:=hf.2 d _ hd;simp only[RF,R]at hr;exact⟨u,hu,⟨C.blk i,0,none⟩,hr.2,rfl,h4⟩
 ·rw[Q06 e]at hk;obtain⟨u,hu,hr⟩:=hf.2 k x hk;exact⟨u,hu,hr.ext h1.chg⟩
theorem ACode.freeze1(i:Id)(d:Nat)(hg:σ.get i=some (.cells cs))(hd:Fr.get d fr=some (.one (.ptr i 0)))(h:ACode E c K ((d,.one (.box cs))::fr) (σ.set i .dead)):ACode E c K fr σ:=by
 intro F w0 C0 w C tmps hgo hi hf;obtain⟨h1,h2,h3⟩:=Q6q hi hf hg (fr':=[]) trivial;refine h F w0 C0 w _ tmps (hgo.trans h1.toO) h2 ⟨hf.1,fun k x hk=>?_⟩;obtain⟨_,_,h4⟩:=hi.freeze hg;simp only[Fr.get]at hk;by_cases e:d=k
 ·subst e;simp at hk;subst hk;obtain⟨u,hu,hr⟩:=hf.2 d _ hd;simp only[RF,R]at hr;exact⟨u,hu,⟨C.blk i,0,none⟩,hr.2,rfl,h4⟩
 ·rw[Q06 e]at hk;obtain⟨u,hu,hr⟩:=hf.2 k x hk;exact⟨u,hu,hr.ext h1.chg⟩
end Go.Abs
