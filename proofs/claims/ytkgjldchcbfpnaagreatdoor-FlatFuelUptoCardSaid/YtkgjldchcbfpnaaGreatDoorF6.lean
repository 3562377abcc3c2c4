/- The abstract layer, part Ba: a drawn head in which stores stand too. No condition of its own. -/
import Derived.Test.YtkgjldchcbfpnaaGreatDoorF5
import Derived.Laws.Build
import Derived.Recover
import Derived.Laws.Bits64b
set_option maxRecDepth 10000
set_option linter.unusedVariables false
set_option linter.unusedSimpArgs false
namespace Go.Abs
def Q0u (E:Env)(o:Oper)(fr:Fr)(σ:St)(P:FV->St->Prop)(PP:List PanicEntry->St->Prop):Prop:=
 ∀(F:Nat->Prop) (w:World) (C:Ctx) (tmps:Array Value),Inv E.Γ F w C σ->FrOk w C E.N fr tmps->
  ∀(next:Act->World->Prop) (Q:Exit->Act->World->Prop),
   (∀(u:Value) (w':World) (C':Ctx) (v:FV) (σ':St),P v σ'->Goes F (fun _=>True) w C w' C'->Inv E.Γ F w' C' σ'->RF w' C' v u->next (Act.put ⟨tmps,E.ds⟩ o.dst u) w')->
   (∀(ps:List PanicEntry) (w':World) (C':Ctx) (σ':St),PP ps σ'->Goes F (fun _=>True) w C w' C'->Inv E.Γ F w' C' σ'->Q (.panic ps) ⟨tmps,E.ds⟩ w')->o.wp E.P ⟨tmps,E.ds⟩ w next Q
def Q2h (E:Env)(ops:Array Oper)(o:Oper)(fr:Fr)(σ:St)(P:FV->St->Prop)(PP:List PanicEntry->St->Prop):Prop:=
 Q7k E ops o fr σ P∨(o.guard=none/\Q0u E o fr σ P PP)
theorem Q2h.mono{E:Env}{ops:Array Oper}{o:Oper}{fr:Fr}{σ:St}{P Q:FV->St->Prop}{PP:List PanicEntry->St->Prop}(h:Q2h E ops o fr σ P PP)(hq:∀v σ',P v σ'->Q v σ'):Q2h E ops o fr σ Q PP:=by
 rcases h with h|⟨h1,h2⟩
 ·exact .inl (h.mono hq)
 ·exact .inr ⟨h1,fun F w C tmps hi hf next Q' hk hp=>h2 F w C tmps hi hf next Q' (fun u w' C' v σ' hP=>hk u w' C' v σ' (hq _ _ hP)) hp⟩
theorem Qb8{E:Env}{ops:Array Oper}{o:Oper}{fr:Fr}{σ:St}{P:FV->St->Prop}{PP:List PanicEntry->St->Prop}(h:Q2h E ops o fr σ P PP){F:Nat->Prop}{w:World}{C:Ctx}{tmps:Array Value}(hi:Inv E.Γ F w C σ)(hf:FrOk w C E.N fr tmps){i:Nat}(ho:ops[i]?=some o)
  {next:Act->World->Prop}{Q:Exit->Act->World->Prop}(hk:∀(u:Value) (w':World) (C':Ctx) (v:FV) (σ':St),P v σ'->Goes F (fun _=>True) w C w' C'->Inv E.Γ F w' C' σ'->RF w' C' v u->next (Act.put ⟨tmps,E.ds⟩ o.dst u) w')
  (hp:∀(ps:List PanicEntry) (w':World) (C':Ctx) (σ':St),PP ps σ'->Goes F (fun _=>True) w C w' C'->Inv E.Γ F w' C' σ'->Q (.panic ps) ⟨tmps,E.ds⟩ w'):wpOp E.P ops Q i next ⟨tmps,E.ds⟩ w:=by
 rcases h with h|⟨hg,h⟩
 ·exact Q85 h hi hf ho hk
 ·unfold wpOp
  simp only[ho]
  rw[if_pos (by simp[Region.wanted,hg])]
  exact .inl (h F w C tmps hi hf next Q hk hp)
section
variable {E:Env}{l:List Oper}{frb:Fr}{n:Nat}{K:Cont}{J:Array Bool->St->(Nat->Option FV)->Prop}
theorem Qie(hB:drawB l n=true)(hfb:(dsts (l.take n)).all (fun d=>(Fr.get d frb).isNone)=true)
  (hstep : ∀ (listed : Array Bool) (σ : St) (vals : Nat -> Option FV) (i : Nat) (o : Oper), i < n -> l[i]? = some o -> listed.getD i false = false -> listed.size = l.length -> (∀ e ∈ o.after.toList, Region.binds .any e = true -> listed.getD e.on false = true) -> J listed σ vals ->
   dstOk E.N o.dst=true/\Q2h E l.toArray o (Q0c l vals o++frb) σ (fun v σ'=>J (listed.setIfInBounds i true) σ' (updV vals i v)) (fun ps σ'=>K (.panic ps) frb σ'))
  (htail : ∀ σ vals, J (Q09 l.length n) σ vals -> AOps E l.toArray (l.drop n) K (Q0e vals 0 (l.take n) ++ frb) σ) {F : Nat -> Prop} {w0 : World} {C0 : Ctx} :
  ∀(c:Nat) (listed:Array Bool) (a:Act) (w:World),((List.range n).filter fun j=>!listed.getD j false).length=c->HeadInv .any l.toArray n listed->MidJ E l n frb J F w0 C0 listed a w->
   wpAny E.P .any l.toArray (Post E F w0 C0 K) (c+(l.length - n)) listed a w:=by
 simp only[drawB,Bool.and_eq_true,decide_eq_true_eq]at hB
 obtain⟨⟨⟨⟨⟨hn,hs⟩,hc⟩,hsq⟩,hdi⟩,haf⟩:=hB
 have hsz:l.toArray.size=l.length:=by simp
 intro c
 induction c with
 |zero=>
  intro listed a w hcnt hinv hmid
  have hall:∀j,j < n->listed.getD j false=true:=by
   intro j hj
   have:(List.range n).filter (fun j=>!listed.getD j false)=[]:=List.eq_nil_of_length_eq_zero hcnt
   have h2:=List.filter_eq_nil_iff.1 this j (List.mem_range.2 hj)
   simpa using h2
  have hl:listed=Q09 l.length n:=by
   apply Array.ext
   ·simp[Q09,hinv.size]
   ·intro j h1 h2
    have hj:j < l.length:=by simpa[Q09]using h2
    have h3:listed.getD j false=listed[j]:=by simp[h1]
    simp only[Q09,Array.getElem_map,Array.getElem_range]
    by_cases hjn:j < n
    ·rw[←h3,hall j hjn];simp[hjn]
    ·have:=hinv.tail j (by omega) (by rw[hsz];exact hj)
     rw[Q3d h1]at this
     rw[←h3,this];simp[hjn]
  have hdl:(l.drop n).length=l.length - n:=by simp
  rw[Nat.zero_add,←hdl]
  refine wpAny_of_seq (md:=.any) (l.drop n) n listed a w (fun j=>by simp[List.getElem?_drop]) (by rw[hl,hdl];exact hsq) ?_
  obtain⟨hd,C,σ,vals,hJ,hg,hi,hf,hv⟩:=hmid
  have ha:a=⟨a.tmps,E.ds⟩:=by cases a;simp_all
  rw[ha]
  rw[hl]at hJ
  refine htail σ vals hJ F w0 C0 w C a.tmps hg hi ⟨hf.1,fun k x hk=>?_⟩
  rcases Fr.get_append hk with hk|⟨_,hk⟩
  ·obtain⟨i,o,h1,h2,h3⟩:=Q3c (Fr.get_mem hk)
   rw[Nat.zero_add]at h3
   have hin:i < n:=by
    have:=(List.getElem?_eq_some_iff.1 h1).1
    simp at this;omega
   rw[List.getElem?_take_of_lt hin]at h1
   exact hv i o k x hin h1 h2 h3
  ·exact hf.2 k x hk
 |succ c ih=>
  intro listed a w hcnt hinv hmid
  -- some head is not listed
  have hex:∃i,i < n/\listed.getD i false=false/\∀j,j < i->listed.getD j false=true:=by
   have hne:∃i,i < n/\listed.getD i false=false:=by
    cases hL:(List.range n).filter (fun j=>!listed.getD j false) with
    |nil=>rw[hL]at hcnt;simp at hcnt
    |cons i L=>
     have:i∈(List.range n).filter (fun j=>!listed.getD j false):=by rw[hL];simp
     obtain⟨h1,h2⟩:=List.mem_filter.1 this
     exact⟨i,List.mem_range.1 h1,by simpa using h2⟩
   obtain⟨i,hi⟩:=hne
   induction i using Nat.strongRecOn with
   |_ i ih2=>
    by_cases h:∃j,j < i/\listed.getD j false=false
    ·obtain⟨j,hj,hj2⟩:=h
     exact ih2 j hj ⟨by omega,hj2⟩
    ·exact⟨i,hi.1,hi.2,fun j hj=>(Bool.not_eq_false _).mp (fun hb=>h ⟨j,hj,hb⟩)⟩
  obtain⟨i0,hi0n,hi0u,hi0m⟩:=hex
  have hready:i0∈Region.ready .any l.toArray listed:=by
   rw[mem_ready]
   have hlt:i0 < l.length:=by omega
   refine⟨by rw[Q3d (by rw[hinv.size,hsz];exact hlt)];exact hi0u,l[i0],by simp[hlt],fun e he hb=>?_⟩
   have h1:=List.all_eq_true.1 haf (l[i0],i0) (by
    rw[List.mem_zipIdx_iff_getElem?]
    rw[List.getElem?_take_of_lt hi0n]
    simp[hlt])
   have h2:=Array.all_eq_true_iff_forall_mem.1 h1 e he
   simp only[hb,Bool.not_true,Bool.false_or,decide_eq_true_eq]at h2
   exact hi0m _ h2
  rw[show c+1+(l.length - n)=(c+(l.length - n))+1 by omega]
  refine⟨fun h=>absurd hready (by rw[h];simp),fun i hi=>?_⟩
  have hi0t:listed.getD i0 true=false:=(mem_ready.1 hready).1
  have hin:i < n:=by
   rcases Nat.lt_or_ge i n with h|h
   ·exact h
   ·exact absurd hi (tail_waits hs hc (by rw[hsz];exact hn) hinv _ i0 rfl hi0n hi0t i h)
  obtain⟨hun,o,ho,hall⟩:=mem_ready.1 hi
  have hlo:l[i]?=some o:=by simpa using ho
  obtain⟨hd,C,σ,vals,hJ,hg,hinvw,hf,hvals⟩:=hmid
  have ha:a=⟨a.tmps,E.ds⟩:=by cases a;simp_all
  rw[ha]
  have huni:listed.getD i false=false:=getD_both hun
  have hil:i < listed.size:=by rw[hinv.size,hsz];omega
  have hlast:∀e∈o.after.toList,Region.binds .any e=true->e.on < n:=fun e he hb=>by
   have h1:=List.all_eq_true.1 haf (o,i) (by
    rw[List.mem_zipIdx_iff_getElem?]
    rw[List.getElem?_take_of_lt hin]
    simpa using hlo)
   have h2:=Array.all_eq_true_iff_forall_mem.1 h1 e (by simpa using he)
   simp only[hb,Bool.not_true,Bool.false_or,decide_eq_true_eq]at h2
   omega
  obtain⟨hdo,hst⟩:=hstep listed σ vals i o hin hlo huni (by rw[hinv.size,hsz]) (fun e he hb=>hall e (by simpa using he) hb) hJ
  have hfr:FrOk w C E.N (Q0c l vals o++frb) a.tmps:=by
   refine⟨hf.1,fun k x hk=>?_⟩
   rcases Fr.get_append hk with hk|⟨_,hk⟩
   ·have hm:=Fr.get_mem hk
    obtain⟨e,he,he2⟩:=List.mem_filterMap.1 hm
    cases hb:Region.binds .any e with
    |false=>rw[hb]at he2;cases he2
    |true=>
     rw[hb]at he2;simp only[cond_true]at he2
     cases h1:(l[e.on]?).bind (·.dst) with
     |none=>rw[h1]at he2;cases he2
     |some d=>
      cases h2:vals e.on with
      |none=>rw[h1,h2]at he2;cases he2
      |some v'=>
       rw[h1,h2]at he2;cases he2
       cases h3:l[e.on]? with
       |none=>rw[h3]at h1;cases h1
       |some oe=>
        rw[h3]at h1
        exact hvals e.on oe k x (hlast e he hb) h3 h1 h2
   ·exact hf.2 k x hk
  refine Qb8 hst hinvw hfr ho (fun u w' C' v σ' hJ' hgo hi' hr=>?_) (fun ps w' C' σ' hps hgo hi'=>⟨rfl,frb,σ',C',hg.trans hgo.toO,hi',hf.ext hgo.chg,hps⟩)
  refine ih _ _ _ ?_ (hinv.set hi hin) ⟨put_defers ..,C',σ',_,hJ',hg.trans hgo.toO,hi',?_,fun j oj dj vj hj hoj hdj hvj=>?_⟩
  ·have h2:((List.range n).filter fun j=>!(listed.setIfInBounds i true).getD j false).length+1=((List.range n).filter fun j=>!listed.getD j false).length:=Q6f hin huni hil
   omega
  ·cases hdd:o.dst with
   |none=>exact hf.ext hgo.chg
   |some d=>
    refine⟨by simp[Act.put,hf.1],fun k x hk=>?_⟩
    obtain⟨u',hu',hr'⟩:=hf.2 k x hk
    have hne:d≠k:=by
     rintro rfl
     have h1:=List.all_eq_true.1 hfb d (List.mem_filterMap.2 ⟨o,List.mem_of_getElem? (i:=i) (by rw[List.getElem?_take_of_lt hin];exact hlo),hdd⟩)
     rw[hk]at h1;cases h1
    refine⟨u',?_,hr'.ext hgo.chg⟩
    simp only[Act.put]
    rw[Array.getElem?_setIfInBounds_ne hne];exact hu'
  ·by_cases e:i=j
   ·subst e
    rw[hlo]at hoj;cases hoj
    rw[updV,if_pos rfl]at hvj
    cases hvj
    have hdN:dj < a.tmps.size:=by
     rw[hf.1]
     rw[hdj]at hdo
     exact Nat.le_of_ble_eq_true (show Nat.ble (dj+1) E.N=true from hdo)
    exact⟨u,by rw[hdj];simp[Act.put,hdN],hr⟩
   ·simp only[updV,if_neg e]at hvj
    obtain⟨u',hu',hr'⟩:=hvals j oj dj vj hj hoj hdj hvj
    cases hdd:o.dst with
    |none=>exact⟨u',hu',hr'.ext hgo.chg⟩
    |some d=>
     have hne:d≠dj:=by
      rintro rfl
      exact e (Q1k hdi (by rw[List.getElem?_take_of_lt hin];exact hlo) (by rw[List.getElem?_take_of_lt hj];exact hoj) hdd hdj)
     refine⟨u',?_,hr'.ext hgo.chg⟩
     simp only[Act.put]
     rw[Array.getElem?_setIfInBounds_ne hne];exact hu'
def AAny (E:Env)(l:List Oper)(K:Cont)(fr:Fr)(σ:St):Prop:=
 ∀(F:Nat->Prop) (w0:World) (C0:Ctx) (w:World) (C:Ctx) (tmps:Array Value),Goes F isO w0 C0 w C->Inv E.Γ F w C σ->FrOk w C E.N fr tmps->wpAny E.P .any l.toArray (Post E F w0 C0 K) l.toArray.size (Array.replicate l.toArray.size false) ⟨tmps,E.ds⟩ w.drew
theorem AAny.code{fr:Fr}{σ0:St}{id:Nat}(hm:E.P.follows .mixedOrders=true)(h:AAny E l K fr σ0):ACode E (.region id l.toArray true) K fr σ0:=fun F w0 C0 w C tmps hg hi hf=>wp_region_any hm (h F w0 C0 w C tmps hg hi hf)
theorem AAny.drawJ2{fr:Fr}{σ0:St}(n:Nat)(J:Array Bool->St->(Nat->Option FV)->Prop)(hm:E.P.follows .mixedOrders=true)(hB:drawB l n=true)(hfb:Fr.woO (dsts (l.take n)) fr=some frb)(h0:J (Array.replicate l.length false) σ0 (fun _=>none))
  (hstep : ∀ (listed : Array Bool) (σ : St) (vals : Nat -> Option FV) (i : Nat) (o : Oper), i < n -> l[i]? = some o -> listed.getD i false = false -> listed.size = l.length -> (∀ e ∈ o.after.toList, Region.binds .any e = true -> listed.getD e.on false = true) -> J listed σ vals ->
   dstOk E.N o.dst=true/\Q2h E l.toArray o (Q0c l vals o++frb) σ (fun v σ'=>J (listed.setIfInBounds i true) σ' (updV vals i v)) (fun ps σ'=>K (.panic ps) frb σ'))
  (htail : ∀ σ vals, J (Q09 l.length n) σ vals -> AOps E l.toArray (l.drop n) K (Q0e vals 0 (l.take n) ++ frb) σ) : AAny E l K fr σ0 := by
 have h3:=Fr.woO_eq hfb
 intro F w0 C0 w C tmps hg hi hf
 have hn:n < l.length:=by
  simp only[drawB,Bool.and_eq_true,decide_eq_true_eq]at hB
  exact hB.1.1.1.1.1
 have h:=Qie (F:=F) (w0:=w0) (C0:=C0) (J:=J) hB (by rw[←h3];exact Fr.wo_none _ _) hstep htail n (Array.replicate l.toArray.size false) ⟨tmps,E.ds⟩ w.drew (by
   have:∀j,(!(Array.replicate l.toArray.size false).getD j false)=true:=fun j=>by rw[getD_replicate_false];rfl
   simp only[this];rw[List.filter_eq_self.2 (fun _ _=>rfl),List.length_range])
  ⟨by simp,fun j oj _ hl=>(by rw[getD_replicate_false]at hl;cases hl),fun t _ ht=>getD_in (by simpa using ht) (getD_replicate_false _ _)⟩
  ⟨rfl,C,σ0,fun _=>none,by simpa using h0,hg.trans (Goes.drew hi).toO,hi.drew.2,⟨hf.1,fun k x hk=>by
    obtain⟨u,hu,hr⟩:=hf.2 k x (by rw[←h3]at hk;exact (Fr.wo_get hk).1)
    exact⟨u,hu,hr.ext hi.drew.1⟩⟩,fun i o d v _ _ _ hv=>by cases hv⟩
 rw[show n+(l.length - n)=l.toArray.size by simp;omega]at h
 exact h
theorem AAny.drawS2{fr:Fr}{σ0:St}{hd tl:List Oper}(n:Nat)(S:List Nat)(vs:List FV)(M:(Nat->Option FV)->St->Prop)(hm:E.P.follows .mixedOrders=true)(hB:drawB l n=true)(hsp:Q1x n l=some (hd,tl))(hfb:Fr.woO (dsts hd) fr=some frb)(h0:M (fun _=>none) σ0)
  (hM : ∀ f σ, M f σ -> ∀ i, S.any (fun k => Nat.beq k i) = false -> f i = none)
  (hq : ∀ i o, i < n -> S.any (fun k => Nat.beq k i) = false -> l[i]? = some o -> ∃ v, vs[i]? = some v /\ dstOk E.N o.dst = true /\ (o.after.toList.all fun e => !Region.binds .any e || !(S.any fun k => Nat.beq k e.on)) = true /\ ∀ f σ, M f σ -> HStep E l.toArray o (depFr l vs o ++ frb) σ σ v)
  (hs : ∀ f σ i o, M f σ -> S.any (fun k => Nat.beq k i) = true -> l[i]? = some o -> f i = none -> (∀ e ∈ o.after.toList, Region.binds .any e = true -> S.any (fun k => Nat.beq k e.on) = true -> (f e.on).isSome = true) ->
   dstOk E.N o.dst=true/\Q2h E l.toArray o (Q0c l (mixV S vs f) o++frb) σ (fun v σ'=>M (updV f i v) σ') (fun ps σ'=>K (.panic ps) frb σ'))
  (htail:∀f σ,M f σ->(∀i∈S,i < n->(f i).isSome=true)->AOps E l.toArray tl K (Q0e (mixV S vs f) 0 hd++frb) σ):AAny E l K fr σ0:=by
 obtain⟨hsp1,hsp2⟩:=Q1n hsp
 subst hsp1;subst hsp2
 have depEq:∀(o:Oper) (v1 v2:Nat->Option FV),(∀e∈o.after.toList,Region.binds .any e=true->v1 e.on=v2 e.on)->Q0c l v1 o=Q0c l v2 o:=fun o v1 v2 h=>by
  unfold Q0c
  refine Q0p fun e he=>?_
  cases hb:Region.binds .any e with
  |false=>rfl
  |true=>simp only[cond_true];rw[h e he hb]
 refine AAny.drawJ2 n (fun listed σ vals=>listed.size=l.length/\∃f,M f σ/\(∀i,i < n->listed.getD i false=true->vals i=mixV S vs f i)/\(∀i,S.any (fun k=>Nat.beq k i)=true->listed.getD i false=(f i).isSome)) hm hB hfb
  ⟨by simp, _, h0, fun i _ h => absurd h (by rw [getD_replicate_false]; simp), fun i _ => by rw [getD_replicate_false]; rfl⟩ ?_ ?_
 ·intro listed σ vals i o hi hlo hun hsz hall ⟨_,f,hMf,hv,hf⟩
  have hn:n < l.length:=by
   have:=hB
   simp only[drawB,Bool.and_eq_true,decide_eq_true_eq]at this
   exact this.1.1.1.1.1
  have hset:∀(v:FV) j,(listed.setIfInBounds i true).getD j false=if i=j then true else listed.getD j false:=fun _ j=>by
   by_cases e:i=j
   ·subst e;simp[show i < listed.size by omega]
   ·rw[getD_set_ne false e,if_neg e]
  have hlast:∀e∈o.after.toList,Region.binds .any e=true->e.on < n:=fun e he hb=>by
   have hB2:=hB
   simp only[drawB,Bool.and_eq_true,decide_eq_true_eq]at hB2
   have h1:=List.all_eq_true.1 hB2.2 (o,i) (by
    rw[List.mem_zipIdx_iff_getElem?]
    rw[List.getElem?_take_of_lt hi]
    simpa using hlo)
   have h2:=Array.all_eq_true_iff_forall_mem.1 h1 e (by simpa using he)
   simp only[hb,Bool.not_true,Bool.false_or,decide_eq_true_eq]at h2
   omega
  have hdj:Q0c l vals o=Q0c l (mixV S vs f) o:=depEq o _ _ fun e he hb=>hv e.on (hlast e he hb) (hall e he hb)
  rw[hdj]
  cases hS:S.any (fun k=>Nat.beq k i) with
  |true=>
   have hfi:f i=none:=by
    have:=hf i hS
    rw[hun]at this
    cases h:f i with
    |none=>rfl
    |some v=>rw[h]at this;cases this
   obtain⟨k2,k3⟩:=hs f σ i o hMf hS hlo hfi fun e he hb hSe=>by rw[←hf _ hSe];exact hall e he hb
   refine⟨k2,k3.mono fun v σ' k4=>⟨by simp[hsz],updV f i v,k4,fun j hj hlj=>?_,fun j hj=>?_⟩⟩
   ·by_cases e:i=j
    ·subst e
     simp[mixV,hS,updV]
    ·rw[hset v,if_neg e]at hlj
     rw[updV,if_neg e,hv j hj hlj]
     simp only[mixV,updV,if_neg e]
   ·rw[hset v]
    by_cases e:i=j
    ·subst e;simp[updV]
    ·simp only[if_neg e,updV];exact hf j hj
  |false=>
   obtain⟨v,q1,q3,q4,q5⟩:=hq i o hi hS hlo
   have hdd:Q0c l (mixV S vs f) o=depFr l vs o:=by
    unfold Q0c depFr
    refine Q0p fun e he=>?_
    cases hb:Region.binds .any e with
    |false=>rfl
    |true=>
     have h1:=List.all_eq_true.1 q4 e he
     rw[hb]at h1
     simp only[Bool.not_true,Bool.false_or,Bool.not_eq_true']at h1
     simp only[cond_true,mixV,h1,cond_false]
     rfl
   rw[hdd]
   refine⟨q3,.inl (.inl ⟨v,σ,q5 f σ hMf,by simp[hsz],f,hMf,fun j hj hlj=>?_,fun j hj=>?_⟩)⟩
   ·by_cases e:i=j
    ·subst e
     rw[updV,if_pos rfl];simp only[mixV,hS,cond_false];exact q1.symm
    ·rw[hset v,if_neg e]at hlj
     rw[updV,if_neg e,hv j hj hlj]
   ·rw[hset v]
    by_cases e:i=j
    ·subst e;rw[hS]at hj;cases hj
    ·simp only[if_neg e];exact hf j hj
 ·intro σ vals ⟨_,f,hMf,hv,hf⟩
  have hn:n < l.length:=by
   have:=hB
   simp only[drawB,Bool.and_eq_true,decide_eq_true_eq]at this
   exact this.1.1.1.1.1
  have hl:∀j,j < n->(Q09 l.length n).getD j false=true:=fun j hj=>by
   have:j < (Q09 l.length n).size:=by simp[Q09];omega
   simp[Q09,show j < l.length by omega,hj]
  have heq:Q0e vals 0 (l.take n)=Q0e (mixV S vs f) 0 (l.take n):=by
   have:∀(os:List Oper) (k:Nat),k+os.length<=n->Q0e vals k os=Q0e (mixV S vs f) k os:=by
    intro os
    induction os with
    |nil=>intro k _;rfl
    |cons o os ih=>
     intro k hk
     simp only[List.length_cons]at hk
     simp only[Q0e]
     rw[hv k (by omega) (hl k (by omega)),ih (k+1) (by omega)]
   exact this _ 0 (by simp;omega)
  rw[heq]
  exact htail f σ hMf fun i hi hin=>by
   rw[←hf i (List.any_eq_true.2 ⟨i,hi,Q3i i⟩)]
   exact hl i hin
theorem ACode.drawS2{id:Nat}{fr:Fr}{σ0:St}{hd tl:List Oper}(n:Nat)(S:List Nat)(vs:List FV)(M:(Nat->Option FV)->St->Prop)(hm:E.P.follows .mixedOrders=true)(hB:drawB l n=true)(hsp:Q1x n l=some (hd,tl))(hfb:Fr.woO (dsts hd) fr=some frb)(h0:M (fun _=>none) σ0)
  (hM : ∀ f σ, M f σ -> ∀ i, S.any (fun k => Nat.beq k i) = false -> f i = none)
  (hq : ∀ i o, i < n -> S.any (fun k => Nat.beq k i) = false -> l[i]? = some o -> ∃ v, vs[i]? = some v /\ dstOk E.N o.dst = true /\ (o.after.toList.all fun e => !Region.binds .any e || !(S.any fun k => Nat.beq k e.on)) = true /\ ∀ f σ, M f σ -> HStep E l.toArray o (depFr l vs o ++ frb) σ σ v)
  (hs : ∀ f σ i o, M f σ -> S.any (fun k => Nat.beq k i) = true -> l[i]? = some o -> f i = none -> (∀ e ∈ o.after.toList, Region.binds .any e = true -> S.any (fun k => Nat.beq k e.on) = true -> (f e.on).isSome = true) ->
   dstOk E.N o.dst=true/\Q2h E l.toArray o (Q0c l (mixV S vs f) o++frb) σ (fun v σ'=>M (updV f i v) σ') (fun ps σ'=>K (.panic ps) frb σ'))
  (htail:∀f σ,M f σ->(∀i∈S,i < n->(f i).isSome=true)->AOps E l.toArray tl K (Q0e (mixV S vs f) 0 hd++frb) σ):ACode E (.region id l.toArray true) K fr σ0:=AAny.code hm (AAny.drawS2 n S vs M hm hB hsp hfb h0 hM hq hs htail)
end
def Q0f (E:Env)(ops:Array Oper)(l:List Oper)(frb:Fr)(σ:St)(cs:List (Nat×FV)):Nat->List Oper->List FV->Option (List FV)
 |_,[],_=>some []
 |k,o::os,acc=>bif dstOk E.N o.dst then
   (match lookC k cs with
   |some v=>Q2u (acc++[v]) fun acc'=>(match Q0f E ops l frb σ cs (k+1) os acc' with|some vs=>some (v::vs)|none=>none)
   |none=>bif Q60 o.op then Q2u (depFr l acc o++frb) fun fr=>(match aHead E ops o fr σ with
    |some (v,_)=>Q2u (acc++[v]) fun acc'=>(match Q0f E ops l frb σ cs (k+1) os acc' with|some vs=>some (v::vs)|none=>none)
    |none=>none)else none)else none
theorem Q2x{E:Env}{l:List Oper}{frb:Fr}{σ:St}{cs:List (Nat×FV)}{n:Nat}{vs:List FV}(hT:TabOk E.P E.T)(hall:∀k o,l[k]?=some o->k < n->o.after.all (fun e=>!Region.binds .any e||decide (e.on < k))=true):
  ∀(os:List Oper) (k:Nat) (acc ws:List FV),acc.length=k->(∀i o,os[i]?=some o->l[k+i]?=some o/\k+i < n)->Q0f E l.toArray l frb σ cs k os acc=some ws->acc++ws=vs->
  ∀i o,os[i]?=some o->∃v,ws[i]?=some v/\dstOk E.N o.dst=true/\(lookC (k+i) cs=some v∨(lookC (k+i) cs=none/\HStep E l.toArray o (depFr l vs o++frb) σ σ v))
 |[],k,acc,ws,_,_,_,_,i,o,hi=>by simp at hi
 |o::os,k,acc,ws,hl,hos,h,hv,i,o',hi=>by
  have ho:=hos 0 o rfl
  simp only[Nat.add_zero]at ho
  simp only[Q0f,Q0w]at h
  cases hb:dstOk E.N o.dst with
  |false=>rw[hb]at h;cases h
  |true=>
   rw[hb]at h
   simp only[cond_true]at h
   have rest:∀{v:FV},(match Q0f E l.toArray l frb σ cs (k+1) os (acc++[v]) with|some vs=>some (v::vs)|none=>none)=some ws->(lookC k cs=some v∨(lookC k cs=none/\HStep E l.toArray o (depFr l vs o++frb) σ σ v))->
     ∃v,ws[i]?=some v/\dstOk E.N o'.dst=true/\(lookC (k+i) cs=some v∨(lookC (k+i) cs=none/\HStep E l.toArray o' (depFr l vs o'++frb) σ σ v)):=by
    intro v h hfirst
    split at h
    ·rename_i ws' hw
     simp only[Option.some.injEq]at h;subst h
     cases i with
     |zero=>
      simp at hi;subst hi
      exact⟨v,rfl,hb,hfirst⟩
     |succ i=>
      have:=Q2x hT hall os (k+1) (acc++[v]) ws' (by simp[hl]) (fun i o hi=>by have:=hos (i+1) o hi;rw[show k+1+i=k+(i+1) by omega];exact this) hw (by simpa using hv) i o' (by simpa using hi)
      rw[show k+1+i=k+(i+1) by omega]at this
      simpa using this
    ·cases h
   cases hc:lookC k cs with
   |some v=>
    rw[hc]at h
    exact rest h (.inl hc)
   |none=>
    rw[hc]at h
    simp only at h
    cases hp:Q60 o.op with
    |false=>rw[hp]at h;cases h
    |true=>
     rw[hp]at h
     simp only[cond_true]at h
     split at h
     ·rename_i v σ' ha
      have hdep:depFr l vs o=depFr l acc o:=by
       have:∃r,vs=acc++r:=⟨ws,hv.symm⟩
       obtain⟨r,rfl⟩:=this
       exact Q32 (by rw[hl];exact hall k o ho.1 ho.2)
      have hσ:σ'=σ:=by
       have key:∀{y:FV}{τ:St},(match aOp E.T E.Γ o.op (depFr l acc o++frb) σ with|some (some x,σ')=>some (x,σ')|_=>none)=some (y,τ)->τ=σ:=by
        intro y τ h
        split at h
        ·rename_i h1
         simp only[Option.some.injEq,Prod.mk.injEq]at h
         obtain⟨rfl,rfl⟩:=h
         exact Q6i hp h1
        ·cases h
       unfold aHead at ha
       split at ha
       ·exact key ha
       ·split at ha
        ·split at ha
         ·exact key ha
         ·exact key ha
         ·cases ha;rfl
         ·cases ha;rfl
         ·cases ha;rfl
         ·cases ha
        ·cases ha
      subst hσ
      have hs:=HStep.auto (ops:=l.toArray) hT ha
      rw[←hdep]at hs
      exact rest h (.inr ⟨hc,hs⟩)
     ·cases h
section
variable {E:Env}{l:List Oper}{frb:Fr}{K:Cont}
theorem AAny.drawC2{fr:Fr}{σ0:St}{hd tl:List Oper}{vs0:List FV}(hT:TabOk E.P E.T)(n:Nat)(S:List Nat)(cs:List (Nat×FV))(G:List FV->St->Prop)(hm:E.P.follows .mixedOrders=true)(hB:drawB l n=true)(hsp:Q1x n l=some (hd,tl))(hfb:Fr.woO (dsts hd) fr=some frb)
  (hn:S.Nodup) (hch:chainB l S=true) (hqb:Q52 l S n=true) (h0:G [] σ0) (hrun0:Q0f E l.toArray l frb σ0 (S.map (fun i=>(i,FV.bot))++cs) 0 hd []=some vs0)
  (hrun : ∀ vs σ, G vs σ -> Q0f E l.toArray l frb σ (S.map (fun i => (i, FV.bot)) ++ cs) 0 hd [] = some vs0) (hcs : ∀ vs σ, G vs σ -> Q0b E l frb σ vs0 cs) (hSl : ∀ i ∈ S, i < n)
  (hs : ∀ vs σ, G vs σ -> ∀ i o, S[vs.length]? = some i -> l[i]? = some o -> dstOk E.N o.dst = true /\ Q2h E l.toArray o (Q0c l (mixV S vs0 (fC S vs)) o ++ frb) σ (fun v σ' => G (vs ++ [v]) σ') (fun ps σ' => K (.panic ps) frb σ'))
  (htail : ∀ vs σ, vs.length = S.length -> G vs σ -> AOps E l.toArray tl K (Q0e (mixV S vs0 (fC S vs)) 0 hd ++ frb) σ) : AAny E l K fr σ0 := by
 have hnl:n < l.length:=by
  have:=hB
  simp only[drawB,Bool.and_eq_true,decide_eq_true_eq]at this
  exact this.1.1.1.1.1
 have hlast:∀k o,l[k]?=some o->k < n->o.after.all (fun e=>!Region.binds .any e||decide (e.on < k))=true:=fun k o hk hkn=>by
  have hB2:=hB
  simp only[drawB,Bool.and_eq_true,decide_eq_true_eq]at hB2
  exact List.all_eq_true.1 hB2.2 (o,k) (by
   rw[List.mem_zipIdx_iff_getElem?,List.getElem?_take_of_lt hkn]
   simpa using hk)
 obtain⟨hsp1,hsp2⟩:=Q1n hsp
 refine AAny.drawS2 n S vs0 (fun f σ=>∃vs,vs.length<=S.length/\f=fC S vs/\G vs σ) hm hB hsp hfb ⟨[],by simp,by funext i;cases S <;> rfl,h0⟩ (fun f σ ⟨vs,_,hf,_⟩ i hi=>by rw[hf];exact Q9f hi) ?_ ?_ ?_
 ·intro i o hi hS hlo
  have hio:hd[i]?=some o:=by rw[←hsp1,List.getElem?_take_of_lt hi];exact hlo
  have key:∀vs σ,G vs σ->∃v,vs0[i]?=some v/\dstOk E.N o.dst=true/\HStep E l.toArray o (depFr l vs0 o++frb) σ σ v:=fun vs σ hG=>by
   obtain⟨v,h1,h3,h4⟩:=Q2x (vs:=vs0) hT hlast hd 0 [] vs0 rfl (fun i o hi=>by
    have hi2:i < n:=by
     have:=(List.getElem?_eq_some_iff.1 hi).1
     rw[←hsp1]at this;simp at this;omega
    rw[←hsp1,List.getElem?_take_of_lt hi2]at hi
    exact⟨by simpa using hi,by omega⟩) (hrun vs σ hG) (List.nil_append _) i o hio
   rw [Nat.zero_add] at h4
   refine⟨v,h1,h3,?_⟩
   rcases h4 with h4|h4
   ·have hl:lookC i cs=some v:=by
     have:∀{S:List Nat},(S.any fun k=>Nat.beq k i)=false->lookC i (S.map (fun i=>(i,FV.bot))++cs)=lookC i cs:=fun {S} hS=>by
      induction S with
      |nil=>rfl
      |cons s S ih=>
       simp only[List.any_cons,Bool.or_eq_false_iff]at hS
       simp only[List.map_cons,List.cons_append,lookC,hS.1,cond_false]
       exact ih hS.2
     rw[this hS]at h4;exact h4
    obtain⟨o',ho',hst⟩:=(hcs vs σ hG).get hl
    rw[hlo]at ho'
    cases ho'
    exact hst
   ·exact h4.2
  have hq:(o.after.toList.all fun e=>!Region.binds .any e||!(S.any fun k=>Nat.beq k e.on))=true:=by
   have h1:=List.all_eq_true.1 hqb (o,i) (by
    rw[List.mem_zipIdx_iff_getElem?,List.getElem?_take_of_lt hi]
    simpa using hlo)
   have h2:inS S i=false:=hS
   simp only[h2,Bool.false_or]at h1
   exact h1
  obtain⟨v,h1,h3,_⟩:=key [] σ0 h0
  refine⟨v,h1,h3,hq,fun f σ ⟨vs,_,_,hG⟩=>?_⟩
  obtain⟨v',h1',_,h4⟩:=key vs σ hG
  rw[h1]at h1'
  cases h1'
  exact h4
 ·rintro f σ i o ⟨vs,hlen,rfl,hG⟩ hS hlo hfi hdep
  obtain⟨s,hsS,he⟩:=List.any_eq_true.1 hS
  obtain rfl:s=i:=Nat.eq_of_beq_eq_true he
  obtain⟨p,hp⟩:=List.mem_iff_getElem?.1 hsS
  have hpS:=(List.getElem?_eq_some_iff.1 hp).1
  have hpv:p=vs.length:=by
   rcases Nat.lt_trichotomy p vs.length with h1|h1|h1
   ·rw[Q79 hn hp h1]at hfi
    have:=(List.getElem?_eq_none_iff.1 hfi);omega
   ·exact h1
   ·exfalso
    obtain⟨q,rfl⟩:∃q,p=q+1:=⟨p - 1,by omega⟩
    obtain⟨i0,hi0⟩:∃i0,S[q]?=some i0:=⟨S[q],List.getElem?_eq_getElem (by omega)⟩
    obtain⟨e,he,hb,heo⟩:=Q7d hch hi0 hp hlo
    have h2:=hdep e he hb (by rw[heo];exact List.any_eq_true.2 ⟨i0,List.mem_of_getElem? hi0,by simp⟩)
    rw[heo,Q89 hn hi0 (by omega)]at h2
    cases h2
  subst hpv
  obtain⟨k2,k3⟩:=hs vs σ hG s o hp hlo
  exact⟨k2,k3.mono fun v σ' hG'=>⟨vs++[v],by simp;omega,fC_upd hn hp,hG'⟩⟩
 ·rintro f σ ⟨vs,hlen,rfl,hG⟩ hall
  refine htail vs σ ?_ hG
  rcases Nat.lt_or_ge vs.length S.length with h1|h1
  ·exfalso
   obtain⟨i0,hi0⟩:∃i0,S[vs.length]?=some i0:=⟨S[vs.length],List.getElem?_eq_getElem h1⟩
   have hm:=List.mem_of_getElem? hi0
   have:=hall i0 hm (hSl i0 hm)
   rw[Q89 hn hi0 (Nat.le_refl _)]at this
   cases this
  ·omega
theorem ACode.drawC2{id:Nat}{fr:Fr}{σ0:St}{hd tl:List Oper}{vs0:List FV}(hT:TabOk E.P E.T)(n:Nat)(S:List Nat)(cs:List (Nat×FV))(G:List FV->St->Prop)(hm:E.P.follows .mixedOrders=true)(hB:drawB l n=true)(hsp:Q1x n l=some (hd,tl))(hfb:Fr.woO (dsts hd) fr=some frb)
  (hn:S.Nodup) (hch:chainB l S=true) (hqb:Q52 l S n=true) (h0:G [] σ0) (hrun0:Q0f E l.toArray l frb σ0 (S.map (fun i=>(i,FV.bot))++cs) 0 hd []=some vs0)
  (hrun:∀vs σ,G vs σ->Q0f E l.toArray l frb σ (S.map (fun i=>(i,FV.bot))++cs) 0 hd []=some vs0) (hcs:∀vs σ,G vs σ->Q0b E l frb σ vs0 cs) (hSl:∀i∈S,i < n)
  (hs:∀vs σ,G vs σ->∀i o,S[vs.length]?=some i->l[i]?=some o->dstOk E.N o.dst=true/\Q2h E l.toArray o (Q0c l (mixV S vs0 (fC S vs)) o++frb) σ (fun v σ'=>G (vs++[v]) σ') (fun ps σ'=>K (.panic ps) frb σ'))
  (htail:∀vs σ,vs.length=S.length->G vs σ->AOps E l.toArray tl K (Q0e (mixV S vs0 (fC S vs)) 0 hd++frb) σ):ACode E (.region id l.toArray true) K fr σ0:=AAny.code hm (AAny.drawC2 hT n S cs G hm hB hsp hfb hn hch hqb h0 hrun0 hrun hcs hSl hs htail)
def waitsB (l:List Oper)(S D:List Nat):Bool:=D.all fun i=>match l[i]? with|some o=>o.after.any (fun e=>Region.binds .any e&&inS S e.on)|none=>true
theorem ACode.drawPan{id:Nat}{fr:Fr}{σ0:St}{hd tl:List Oper}{vs0:List FV}{op:Oper}(hT:TabOk E.P E.T)(n p:Nat)(D:List Nat)(cs:List (Nat×FV))(hm:E.P.follows .mixedOrders=true)(hB:drawB l n=true)(hsp:Q1x n l=some (hd,tl))(hfb:Fr.woO (dsts hd) fr=some frb)
  (hw : waitsB l (p :: D) D = true) (hqb : Q52 l (p :: D) n = true) (hrun : Q0f E l.toArray l frb σ0 ((p :: D).map (fun i => (i, FV.bot)) ++ cs) 0 hd [] = some vs0) (hcs : Q0b E l frb σ0 vs0 cs) (hop : l[p]? = some op) (hpn : Nat.blt p n = true) (hd0 : dstOk E.N op.dst = true) (hDd : (D.all fun i => match l[i]? with | some o => dstOk E.N o.dst | none => true) = true) (hg : op.guard = none)
  (hp : Q0u E op (Q0c l (mixV (p :: D) vs0 (fun _ => none)) op ++ frb) σ0 (fun _ _ => False) (fun ps σ' => K (.panic ps) frb σ')) : ACode E (.region id l.toArray true) K fr σ0 := by
 have hnl:n < l.length:=by
  have:=hB
  simp only[drawB,Bool.and_eq_true,decide_eq_true_eq]at this
  exact this.1.1.1.1.1
 have hlast:∀k o,l[k]?=some o->k < n->o.after.all (fun e=>!Region.binds .any e||decide (e.on < k))=true:=fun k o hk hkn=>by
  have hB2:=hB
  simp only[drawB,Bool.and_eq_true,decide_eq_true_eq]at hB2
  exact List.all_eq_true.1 hB2.2 (o,k) (by
   rw[List.mem_zipIdx_iff_getElem?,List.getElem?_take_of_lt hkn]
   simpa using hk)
 obtain⟨hsp1,hsp2⟩:=Q1n hsp
 refine ACode.drawS2 n (p::D) vs0 (fun f σ=>f=(fun _=>none)/\σ=σ0) hm hB hsp hfb ⟨rfl,rfl⟩ (fun f σ ⟨hf,_⟩ i hi=>by rw[hf]) ?_ ?_ ?_
 ·intro i o hi hS hlo
  have hio:hd[i]?=some o:=by rw[←hsp1,List.getElem?_take_of_lt hi];exact hlo
  obtain⟨v,h1,h3,h4⟩:=Q2x (vs:=vs0) hT hlast hd 0 [] vs0 rfl (fun i o hi=>by
    have hi2:i < n:=by
     have:=(List.getElem?_eq_some_iff.1 hi).1
     rw[←hsp1]at this;simp at this;omega
    rw[←hsp1,List.getElem?_take_of_lt hi2]at hi
    exact⟨by simpa using hi,by omega⟩) hrun (List.nil_append _) i o hio
  rw [Nat.zero_add] at h4
  have hst:HStep E l.toArray o (depFr l vs0 o++frb) σ0 σ0 v:=by
   rcases h4 with h4|h4
   ·have hl:lookC i cs=some v:=by
     have:∀{S:List Nat},(S.any fun k=>Nat.beq k i)=false->lookC i (S.map (fun i=>(i,FV.bot))++cs)=lookC i cs:=fun {S} hS=>by
      induction S with
      |nil=>rfl
      |cons s S ih=>
       simp only[List.any_cons,Bool.or_eq_false_iff]at hS
       simp only[List.map_cons,List.cons_append,lookC,hS.1,cond_false]
       exact ih hS.2
     rw[this hS]at h4;exact h4
    obtain⟨o',ho',hst⟩:=hcs.get hl
    rw[hlo]at ho'
    cases ho'
    exact hst
   ·exact h4.2
  have hq:(o.after.toList.all fun e=>!Region.binds .any e||!((p::D).any fun k=>Nat.beq k e.on))=true:=by
   have h1:=List.all_eq_true.1 hqb (o,i) (by
    rw[List.mem_zipIdx_iff_getElem?,List.getElem?_take_of_lt hi]
    simpa using hlo)
   have h2:inS (p::D) i=false:=hS
   simp only[h2,Bool.false_or]at h1
   exact h1
  exact⟨v,h1,h3,hq,fun f σ ⟨_,hσ⟩=>by rw[hσ];exact hst⟩
 ·rintro f σ i o ⟨rfl,rfl⟩ hS hlo hfi hdep
  by_cases hip:p=i
  ·subst hip
   rw[hop]at hlo
   cases hlo
   refine⟨hd0,.inr ⟨hg,fun F w C tmps hi hf next Q hk hpk=>hp F w C tmps hi hf next Q (fun u w' C' v σ' hP=>hP.elim) hpk⟩⟩
  ·have hD:i∈D:=by
    obtain⟨s,hsS,he⟩:=List.any_eq_true.1 hS
    obtain rfl:s=i:=Nat.eq_of_beq_eq_true he
    rcases List.mem_cons.1 hsS with h|h
    ·exact absurd h.symm hip
    ·exact h
   exfalso
   have h1:=List.all_eq_true.1 hw i hD
   rw[hlo]at h1
   obtain⟨e,he,hb⟩:=Array.any_eq_true'.1 h1
   simp only[Bool.and_eq_true]at hb
   have:=hdep e (by simpa using he) hb.1 hb.2
   simp at this
 ·rintro f σ ⟨rfl,rfl⟩ hall
  have:=hall p (by simp) (Nat.le_of_ble_eq_true (show Nat.ble (p+1) n=true from hpn))
  simp at this
end
end Go.Abs
namespace Go.Abs
section
variable {E:Env}{o:Oper}{fr:Fr}{σ:St}{t t' T0 el yt:TypeId}{x y:Operand}
theorem AStep.mkIfc{c:AC}(hc:E.P.concrete t=true)(ho:o.op=.makeInterface t x)(hx:aEval E.Γ fr x=some (.one c)):AStep E o fr σ (.one (.ifc t false [c])) σ:=by
 refine AStep.quiet fun F w C tmps hi hf=>?_
 have h1:=Q00 (a:=⟨tmps,E.ds⟩) hi hf hx
 refine⟨.iface t (Act.eval ⟨tmps,E.ds⟩ x),?_,[Act.eval ⟨tmps,E.ds⟩ x],⟨_,[],rfl,h1,rfl⟩,.inr ⟨rfl,_,rfl,rfl⟩⟩
 unfold execOp
 simp[ho,run_makeInterface w t _ hc]
theorem AStep.mkIfcA{cs:List AC}(hc:E.P.concrete t=true)(ho:o.op=.makeInterface t x)(hx:aEval E.Γ fr x=some (.agg cs)):AStep E o fr σ (.one (.ifc t true cs)) σ:=by
 refine AStep.quiet fun F w C tmps hi hf=>?_
 obtain⟨xs,h1,h2⟩:=Q00 (a:=⟨tmps,E.ds⟩) hi hf hx
 refine⟨.iface t (.agg xs.toArray),?_,xs,h2,.inl ⟨rfl,rfl⟩⟩
 unfold execOp
 simp[ho,h1,run_makeInterface w t _ hc]
theorem Q4g{P:Program}(w:World){d:TypeDesc}(hd:P.underlying t=some d)(hc:P.concrete t=true)(v:Value):(Instr.typeAssert (.iface t v) T0 t true).run P w=.ok (.tuple #[v,.bool true]) w:=by
 unfold Program.concrete at hc
 rw[hd]at hc
 cases d <;> first|(simp at hc;done)|simp[Instr.typeAssert,run_underlying hd]
theorem Q8s{P:Program}(w:World){d:TypeDesc}(hd:P.underlying t=some d)(hc:P.concrete t=true){u z:Value}(hu:u=.nilIface∨∃t' v,u=.iface t' v/\t'≠t)(hz:(zeroValue t).run P w=.ok z w):
  (Instr.typeAssert u T0 t true).run P w=.ok (.tuple #[z,.bool false]) w:=by
 unfold Program.concrete at hc
 rw[hd]at hc
 rcases hu with rfl|⟨t',v,rfl,hne⟩
 ·cases d <;> first|(simp at hc;done)|simp[Instr.typeAssert,run_underlying hd,hz]
 ·cases d <;> first|(simp at hc;done)|simp[Instr.typeAssert,run_underlying hd,hz,hne]
theorem Q2m{P:Program}(hc:P.concrete t=true):∃d,P.underlying t=some d:=by
 unfold Program.concrete at hc
 cases h:P.underlying t with
 |none=>rw[h]at hc;cases hc
 |some d=>exact⟨d,rfl⟩
theorem AStep.assertYes{c:AC}(hc:E.P.concrete t=true)(ho:o.op=.typeAssert x T0 t true)(hx:aEval E.Γ fr x=some (.one (.ifc t false [c]))):AStep E o fr σ (.tup [.one c,.one (.lit (.bool true))]) σ:=by
 refine AStep.quiet fun F w C tmps hi hf=>?_
 obtain⟨d,hd⟩:=Q2m hc
 obtain⟨xs,h1,h2⟩:=Q00 (a:=⟨tmps,E.ds⟩) hi hf hx
 simp only[RV]at h1
 obtain⟨u,us,rfl,h3,rfl⟩:=h1
 rcases h2 with ⟨h2,_⟩|⟨_,v,hv,h2⟩
 ·cases h2
 ·cases hv
  refine⟨.tuple #[u,.bool true],?_,[u,.bool true],rfl,u,[.bool true],rfl,h3,.bool true,[],rfl,⟨rfl,rfl⟩,rfl⟩
  unfold execOp
  simp[ho,h2,Q4g w hd hc]
theorem AStep.assertNo{c:AC}{z:Value}(hc:E.P.concrete t=true)(ho:o.op=.typeAssert x T0 t true)(hz:∀w,(zeroValue t).run E.P w=.ok z w)(h1z:z.oneCell'=true)(hx:aEval E.Γ fr x=some (.one c))
  (hno : c = .lit .nilIface ∨ ∃ t' ag cs, c = .ifc t' ag cs /\ Nat.beq t' t = false) : AStep E o fr σ (.tup [.one (.lit z), .one (.lit (.bool false))]) σ := by
 refine AStep.quiet fun F w C tmps hi hf=>?_
 obtain⟨d,hd⟩:=Q2m hc
 have h1:=Q00 (a:=⟨tmps,E.ds⟩) hi hf hx
 refine⟨.tuple #[z,.bool false],?_,[z,.bool false],rfl,z,[.bool false],rfl,⟨rfl,h1z⟩,.bool false,[],rfl,⟨rfl,rfl⟩,rfl⟩
 have hu:Act.eval ⟨tmps,E.ds⟩ x=.nilIface∨∃t' v,Act.eval ⟨tmps,E.ds⟩ x=.iface t' v/\t'≠t:=by
  rcases hno with rfl|⟨t',ag,cs,rfl,hne⟩
  ·exact .inl h1.1
  ·obtain⟨xs,_,h2⟩:=h1
   have hne':t'≠t:=fun e=>by subst e;simp at hne
   rcases h2 with ⟨_,h2⟩|⟨_,v,_,h2⟩
   ·exact .inr ⟨t',_,h2,hne'⟩
   ·exact .inr ⟨t',_,h2,hne'⟩
 unfold execOp
 simp[ho,Q8s w hd hc hu (hz w)]
theorem AStep.neNilBox{cs:List AC}(ht:E.P.underlying t=some (.pointer el))(ho:o.op=.binOp .neq t x y yt)(hx:aEval E.Γ fr x=some (.one (.box cs)))(hy:aEval E.Γ fr y=some (.one (.lit (.pointer none)))):AStep E o fr σ (.one (.lit (.bool true))) σ:=by
 refine AStep.quiet fun F w C tmps hi hf=>⟨.bool true,?_,rfl,rfl⟩
 obtain⟨ad,h1,_⟩:=Q00 (a:=⟨tmps,E.ds⟩) hi hf hx
 have h2:=Q00 (a:=⟨tmps,E.ds⟩) hi hf hy
 simp only[RF,R]at h2
 unfold execOp
 simp only[ho,h1,h2.1,eqGuard_at_pointer,Sem.run_bind,Sem.run_pure,Result.andThen_ok]
 simp[binOp,Q11 _ _ _ _ ht]
theorem AStep.eqNilBox{cs:List AC}(ht:E.P.underlying t=some (.pointer el))(ho:o.op=.binOp .eql t x y yt)(hx:aEval E.Γ fr x=some (.one (.box cs)))(hy:aEval E.Γ fr y=some (.one (.lit (.pointer none)))):AStep E o fr σ (.one (.lit (.bool false))) σ:=by
 refine AStep.quiet fun F w C tmps hi hf=>⟨.bool false,?_,rfl,rfl⟩
 obtain⟨ad,h1,_⟩:=Q00 (a:=⟨tmps,E.ds⟩) hi hf hx
 have h2:=Q00 (a:=⟨tmps,E.ds⟩) hi hf hy
 simp only[RF,R]at h2
 unfold execOp
 simp only[ho,h1,h2.1,eqGuard_at_pointer,Sem.run_bind,Sem.run_pure,Result.andThen_ok]
 simp[binOp,Q11 _ _ _ _ ht]
end

def AFnP (P:Program)(Γ:List (Nat×List AC))(g:Nat)(args:List FV)(ou:Outer)(Q:FV->Outer->Prop)(QP:List PanicEntry->Outer->Prop):Prop :=
 (∀ (as' : Array Value) (w : World), (callFunc g as').run P w = .ok (.enter g as') w) /\
 ∀(F:Nat->Prop) (w:World) (C:Ctx) (cargs:List Value),C.nl=0->Inv Γ F w C ⟨0,[],ou⟩->RFs w C args cargs->Calls P g cargs.toArray w fun e w'=>
  (∃v r ou' C',e=.returned v/\Goes F isO w C w' C'/\C'.nl=0/\Inv Γ F w' C' ⟨0,[],ou'⟩/\RF w' C' r v/\Q r ou') ∨
  (∃ps ou' C',e=.panicked ps/\Goes F isO w C w' C'/\C'.nl=0/\Inv Γ F w' C' ⟨0,[],ou'⟩/\QP ps ou')
theorem AFn.toP{P:Program}{Γ:List (Nat×List AC)}{g:Nat}{args:List FV}{ou:Outer}{Q:FV->Outer->Prop}{QP:List PanicEntry->Outer->Prop}(h:AFn P Γ g args ou Q):AFnP P Γ g args ou Q QP:=
 ⟨h.1,fun F w C cargs h0 hi hr=>(h.2 F w C cargs h0 hi hr).mono fun e w' hh=>.inl hh⟩
theorem AFnP.mono{P:Program}{Γ:List (Nat×List AC)}{g:Nat}{args:List FV}{ou:Outer}{Q Q':FV->Outer->Prop}{QP QP':List PanicEntry->Outer->Prop}(h:AFnP P Γ g args ou Q QP)(hq:∀r ou',Q r ou'->Q' r ou')(hp:∀ps ou',QP ps ou'->QP' ps ou'):AFnP P Γ g args ou Q' QP':=
 ⟨h.1,fun F w C cargs h0 hi hr=>(h.2 F w C cargs h0 hi hr).mono fun e w' hh=>hh.elim (fun ⟨v,r,ou',C',a,b,c,d,f,g⟩=>.inl ⟨v,r,ou',C',a,b,c,d,f,hq _ _ g⟩) (fun ⟨ps,ou',C',a,b,c,d,g⟩=>.inr ⟨ps,ou',C',a,b,c,d,hp _ _ g⟩)⟩
theorem AOps.panicI{E:Env}{ops:Array Oper}{rest:List Oper}{o:Oper}{K:Cont}{fr:Fr}{σ:St}{x:Operand}{t:TypeId}{ag:Bool}{cs:List AC}(hgd:o.guard=none)(ho:o.op=.panic x)(hx:aEval E.Γ fr x=some (.one (.ifc t ag cs)))
  (h:∀(w:World) (C:Ctx) (v:Value),R w C (.ifc t ag cs) v->K (.panic [{ v:=v,recovered:=false }]) fr σ):AOps E ops (o::rest) K fr σ:=by
 intro F w0 C0 w C tmps hg hi hf
 refine wpList_plain hgd fun N' hN=>?_
 have h1:=Q00 (a:=⟨tmps,E.ds⟩) hi hf hx
 have hv:∃u,Act.eval ⟨tmps,E.ds⟩ x=.iface t u:=by
  obtain⟨xs,_,⟨_,h2⟩|⟨_,v,_,h2⟩⟩:=h1 <;> exact⟨_,h2⟩
 obtain⟨u,hu⟩:=hv
 have hrun:(execOp (Act.eval ⟨tmps,E.ds⟩) o).run E.P w=.halt (.panic (.iface t u)) w:=by
  unfold execOp
  simp only[ho,hu]
  simp[Instr.panic,goPanic]
 unfold Oper.wp
 rw[hrun,Oper.upon_panic]
 exact⟨rfl,fr,σ,C,hg,hi,hf,h w C _ (by rw[←hu];exact h1)⟩
theorem AOps.callP{E:Env}{ops:Array Oper}{rest:List Oper}{o:Oper}{K:Cont}{fr:Fr}{σ:St}{f:Operand}{args:Array Operand}{tys:Array TypeId}{g:Nat}{first caps:List AC}{vs us:List FV}{Q:FV->Outer->Prop}{QP:List PanicEntry->Outer->Prop}
  (hΓ:∀g cs,(g,cs)∈E.Γ->idsL isO cs) (hc:AFnP E.P E.Γ g us σ.ou Q QP) (hgd:o.guard=none) (hd:dstOk E.N o.dst=true) (ho:o.op=.call { callee:=.value f,args:=args,argTypes:=tys })
  (hf:aEval E.Γ fr f=some (.one (.fn (.func g) first caps))) (hargs:Q16 E.Γ fr args.toList=some vs) (has:first.map .one++vs++caps.map .one=us) (hou:OuOk σ.ou) (hids:idsF isO us)
  (hp:∀ps ou',QP ps ou'->OuOk ou'->K (.panic ps) fr { σ with ou:=ou' })
  (h:∀r ou',Q r ou'->r.ids isO->OuOk ou'->AOps E ops rest K (putFr o.dst r fr) { σ with ou:=ou' }):AOps E ops (o::rest) K fr σ:=by
 subst has
 intro F w0 C0 w C tmps hg hi hfr
 refine wpList_plain hgd fun N' hN=>?_
 have hcallee:=Q00 (a:=⟨tmps,E.ds⟩) hi hfr hf
 simp only[RF,R]at hcallee
 obtain⟨xs,ys,hfv,hx,hy⟩:=hcallee
 have hvs:=Q14 (a:=⟨tmps,E.ds⟩) hi hfr hargs
 have hall:RFs w C (first.map .one++vs++caps.map .one) (xs++args.toList.map (Act.eval ⟨tmps,E.ds⟩)++ys):=(RFs.ones hx |>.append hvs).append (RFs.ones hy)
 have hrun:(execOp (Act.eval ⟨tmps,E.ds⟩) o).run E.P w=.ok (.enter g (xs++args.toList.map (Act.eval ⟨tmps,E.ds⟩)++ys).toArray) w:=by
  unfold execOp
  simp only[ho,resolve,Sem.run_bind,hfv,Deferred.ofValue,Sem.run_pure,Result.andThen_ok,invoke,hc.1]
  congr 2
  apply Array.ext'
  simp
 unfold Oper.wp
 rw[hrun,Oper.upon_enter]
 have hc1:Chg isO w C w { C with nl:=0 }:=⟨fun _ _=>rfl,fun _ h=>h,fun i hp ho=>⟨by cases i with|l k=>cases hp|o k=>exact ho,rfl,rfl⟩⟩
 refine (hc.2 (Q1v w C σ.ou) w { C with nl:=0 } _ rfl (hi.forCallee hou hΓ) (RFs.chg hc1 _ _ hids hall)).mono fun e w' hh=>?_
 rcases hh with ⟨v,r,ou',C',he,hgo,h0,hi',hr,hQ⟩|⟨ps,ou',C',he,hgo,h0,hi',hQ⟩
 ·subst he
  obtain⟨hb1,hb2,hb3⟩:=hi.back hgo h0 hi'
  refine hN _ _ ?_
  rw[Q1g]
  have hrid:r.ids isO:=FV.ids_mono (Q30 h0) r (RF.idsOk r v hr)
  exact h r ou' hQ hrid (OuOk.of_inv hi' h0) F w0 C0 w' _ _ (hg.trans hb1.toO) hb2 (Q0v (hfr.ext hb1.chg) hd (RF.chg hb3 r v hrid hr))
 ·subst he
  obtain⟨hb1,hb2,hb3⟩:=hi.back hgo h0 hi'
  exact⟨rfl,fr,_,_,hg.trans hb1.toO,hb2,hfr.ext hb1.chg,hp ps ou' hQ (OuOk.of_inv hi' h0)⟩
theorem AFnP.ofBody{P:Program}{T:Tab}{Γ:List (Nat×List AC)}{g:Nat}{fn:Func}{c:Code}{args:List FV}{ou:Outer}{Q:FV->Outer->Prop}{QP:List PanicEntry->Outer->Prop}(hT:TabOk P T)(hΓ:∀g cs,(g,cs)∈Γ->idsL isO cs)(hf:P.funcs[g]?=some fn)(hb:fn.body=some c)(hname:(fn.name == "runtime.NumGoroutine")=false)
  (hlen : args.length <= fn.ntmps)
  (h : OuOk ou -> ACode ⟨P, T, Γ, fn.ntmps, []⟩ c (Q02 ⟨P, T, Γ, fn.ntmps, []⟩ (Fin ⟨P, T, Γ, fn.ntmps, []⟩ fn Q) [.pan fun ps σ => OuOk σ.ou /\ QP ps σ.ou]) (argFr 0 args) ⟨0, [], ou⟩) : AFnP P Γ g args ou Q QP := by
 refine⟨fun as' w=>?_,fun F w C cargs h0 hi hr=>?_⟩
 ·simp[callFunc,hf,hb]
  simpa using hname
 ·have hcl:cargs.length=args.length:=by
   have:∀(vs:List FV) (xs:List Value),RFs w C vs xs->xs.length=vs.length:=by
    intro vs
    induction vs with
    |nil=>intro xs h;simp only[RFs]at h;simp[h]
    |cons v vs ih=>intro xs h;simp only[RFs]at h;obtain⟨u,us,rfl,_,h2⟩:=h;simp[ih us h2]
   exact this _ _ hr
  refine calls_of_wp hf hb ?_
  have hfr:FrOk w C fn.ntmps (argFr 0 args) (cargs.toArray++Array.replicate (fn.ntmps - cargs.toArray.size) undef):=by
   refine⟨by simp;omega,fun k x hk=>?_⟩
   obtain⟨_,h2⟩:=Q41 args 0 k x hk
   simp only[Nat.sub_zero]at h2
   obtain⟨u,hu,hru⟩:=RFs.get hr h2
   refine⟨u,?_,hru⟩
   have hlt:k < cargs.length:=(List.getElem?_eq_some_iff.1 hu).1
   rw[Array.getElem?_append_left (by simpa using hlt)]
   simpa using hu
  refine wp_mono (h (OuOk.of_inv hi h0) F w C w C _ (Goes.refl _ _ _ _) hi hfr) fun e a w' hp=>?_
  obtain⟨hd,fr',σ',C',hgo,hi',hf',hk⟩:=hp
  have hc:Chg isO w' C' w' { C' with nl:=0 }:=⟨fun _ _=>rfl,fun _ h=>h,fun i hp ho=>⟨by cases i with|l k=>cases hp|o k=>exact ho,rfl,rfl⟩⟩
  have hc0:∀i,C.ok i->isO i:=Q30 h0
  have drop:OuOk σ'.ou->Inv Γ F w' { C' with nl:=0 } ⟨0,[],σ'.ou⟩:=fun h4=>by
   refine⟨hi'.base,rfl,fun g cs hm=>?_,hi'.prot,fun i o ho=>?_,fun i j o o' g k1 k2 k3 k4=>?_⟩
   ·have:=hi'.glob g cs hm
    exact RG.chg hc (hΓ g cs hm) this
   ·cases i with
    |l k=>cases ho
    |o k=>
     obtain⟨k1,k2⟩:=hi'.obj (.o k) o ho
     exact⟨k1,k2.ctx isO (h4 k o ho) trivial k1 hc (fun _ h=>h) (fun _ h=>h)⟩
   ·cases i with
    |l k=>cases k1
    |o k=>cases j with
     |l k=>cases k2
     |o k'=>
      have e1:=AObj.block_ctx (o:=o) isO (i:=.o k) trivial (hi'.obj (.o k) o k1).1 hc
      have e2:=AObj.block_ctx (o:=o') isO (i:=.o k') trivial (hi'.obj (.o k') o' k2).1 hc
      exact hi'.inj (.o k) (.o k') o o' g k1 k2 (by rw[←e1];exact k3) (by rw[←e2];exact k4)
  have fin:Fin ⟨P,T,Γ,fn.ntmps,[]⟩ fn Q fr' σ'->a.defers=[]/\∃v,(results fn a.tmps).run P w'=.ok v w'/\((∃v' r ou' C',Ending.returned v=.returned v'/\Goes F isO w C w' C'/\C'.nl=0/\Inv Γ F w' C' ⟨0,[],ou'⟩/\RF w' C' r v'/\Q r ou') ∨
    (∃ps ou' C',Ending.returned v=.panicked ps/\Goes F isO w C w' C'/\C'.nl=0/\Inv Γ F w' C' ⟨0,[],ou'⟩/\QP ps ou')):=by
   rintro⟨r,r',h1,h2,h3,h4,h5⟩
   obtain⟨u,hu,hru⟩:=Qbm (tmps:=a.tmps) hT hi' hf' h1
   exact⟨hd,u,hu,.inl ⟨u,r',σ'.ou,{ C' with nl:=0 },rfl,⟨hgo.stp,hgo.chg.trans hc,hgo.no,hgo.newp⟩,rfl,drop h4,RF.chg hc r' u h3 (h2 _ _ _ hru),h5⟩⟩
  cases e with
  |normal=>exact fin hk
  |ret=>exact fin hk
  |panic ps=>exact⟨hd,.inr ⟨ps,σ'.ou,{ C' with nl:=0 },rfl,⟨hgo.stp,hgo.chg.trans hc,hgo.no,hgo.newp⟩,rfl,drop hk.1,hk.2⟩⟩
  |exit id=>exact hk.elim
  |goto l=>exact hk.elim
  |outgrown=>exact hk.elim
theorem AFnP.walk{P:Program}{T:Tab}{Γ:List (Nat×List AC)}{g:Nat}{fn:Func}{c:Code}{args:List FV}{ou:Outer}{Q:FV->Outer->Prop}{QP:List PanicEntry->Outer->Prop}(N:Nat)(hT:TabOk P T)(hΓ:∀g cs,(g,cs)∈Γ->idsL isO cs)(hf:P.funcs[g]?=some fn)(hb:fn.body=some c)(hname:(fn.name == "runtime.NumGoroutine")=false)
  (hN:fn.ntmps=N) (hlen:Nat.ble args.length N=true) (h:OuOk ou->ACode ⟨P,T,Γ,N,[]⟩ c (Q02 ⟨P,T,Γ,N,[]⟩ (Fin ⟨P,T,Γ,N,[]⟩ fn Q) [.pan fun ps σ=>OuOk σ.ou/\QP ps σ.ou]) (argFr 0 args) ⟨0,[],ou⟩):AFnP P Γ g args ou Q QP:=by
 subst hN
 exact AFnP.ofBody hT hΓ hf hb hname (Nat.le_of_ble_eq_true hlen) h
theorem Q0u.callP{E:Env}{o:Oper}{fr:Fr}{σ:St}{f:Operand}{args:Array Operand}{tys:Array TypeId}{g:Nat}{first caps:List AC}{vs us:List FV}{Q:FV->Outer->Prop}{QP:List PanicEntry->Outer->Prop}{P:FV->St->Prop}{PP:List PanicEntry->St->Prop}
  (hΓ:∀g cs,(g,cs)∈E.Γ->idsL isO cs) (hc:AFnP E.P E.Γ g us σ.ou Q QP) (ho:o.op=.call { callee:=.value f,args:=args,argTypes:=tys })
  (hf:aEval E.Γ fr f=some (.one (.fn (.func g) first caps))) (hargs:Q16 E.Γ fr args.toList=some vs) (has:first.map .one++vs++caps.map .one=us) (hids:idsF isO us) (hou:OuOk σ.ou)
  (h:∀r ou',Q r ou'->r.ids isO->OuOk ou'->P r { σ with ou:=ou' }) (hp:∀ps ou',QP ps ou'->OuOk ou'->PP ps { σ with ou:=ou' }):Q0u E o fr σ P PP:=by
 subst has
 intro F w C tmps hi hfr next Qx hk hpk
 have hcallee:=Q00 (a:=⟨tmps,E.ds⟩) hi hfr hf
 simp only[RF,R]at hcallee
 obtain⟨xs,ys,hfv,hx,hy⟩:=hcallee
 have hvs:=Q14 (a:=⟨tmps,E.ds⟩) hi hfr hargs
 have hall:RFs w C (first.map .one++vs++caps.map .one) (xs++args.toList.map (Act.eval ⟨tmps,E.ds⟩)++ys):=(RFs.ones hx |>.append hvs).append (RFs.ones hy)
 have hrun:(execOp (Act.eval ⟨tmps,E.ds⟩) o).run E.P w=.ok (.enter g (xs++args.toList.map (Act.eval ⟨tmps,E.ds⟩)++ys).toArray) w:=by
  unfold execOp
  simp only[ho,resolve,Sem.run_bind,hfv,Deferred.ofValue,Sem.run_pure,Result.andThen_ok,invoke,hc.1]
  congr 2
  apply Array.ext'
  simp
 unfold Oper.wp
 rw[hrun,Oper.upon_enter]
 have hc1:Chg isO w C w { C with nl:=0 }:=⟨fun _ _=>rfl,fun _ h=>h,fun i hp ho=>⟨by cases i with|l k=>cases hp|o k=>exact ho,rfl,rfl⟩⟩
 refine (hc.2 (Q1v w C σ.ou) w { C with nl:=0 } _ rfl (hi.forCallee hou hΓ) (RFs.chg hc1 _ _ hids hall)).mono fun e w' hh=>?_
 rcases hh with ⟨v,r,ou',C',he,hgo,h0,hi',hr,hQ⟩|⟨ps,ou',C',he,hgo,h0,hi',hQ⟩
 ·subst he
  obtain⟨hb1,hb2,hb3⟩:=hi.back hgo h0 hi'
  have hrid:r.ids isO:=FV.ids_mono (Q30 h0) r (RF.idsOk r v hr)
  exact hk _ _ _ r _ (h r ou' hQ hrid (OuOk.of_inv hi' h0)) hb1 hb2 (RF.chg hb3 r v hrid hr)
 ·subst he
  obtain⟨hb1,hb2,hb3⟩:=hi.back hgo h0 hi'
  exact hpk _ _ _ _ (hp ps ou' hQ (OuOk.of_inv hi' h0)) hb1 hb2
theorem Q36{P:Program}{t:TypeId}{z:Value}(h:((P.info? t).bind (·.zero))=some z)(w:World):(zeroValue t).run P w=.ok z w:=by
 cases hi:P.info? t with
 |none=>rw[hi]at h;cases h
 |some i=>rw[hi]at h;simp only[Option.bind_some]at h;simp[zeroValue,typeInfo,hi,h]
end Go.Abs
namespace Go.Abs
def adI (a b:Int):Int:=bI (BitVec.ofInt 64 a &&& BitVec.ofInt 64 b)
theorem AStep.and{E:Env}{o:Oper}{fr:Fr}{σ:St}{t yt:TypeId}{x y:Operand}{a b:Int}(ho:o.op=.binOp .and t x y yt)(hx:aEval E.Γ fr x=some (.one (.lit (.int .i64 a))))(hy:aEval E.Γ fr y=some (.one (.lit (.int .i64 b)))):AStep E o fr σ (.one (.lit (.int .i64 (adI a b)))) σ:=by
 refine AStep.quiet fun F w C tmps hi hf=>⟨.int .i64 (adI a b),?_,rfl,rfl⟩
 have h1:=Q00 (a:=⟨tmps,E.ds⟩) hi hf hx
 have h2:=Q00 (a:=⟨tmps,E.ds⟩) hi hf hy
 simp only[RF,R]at h1 h2
 unfold execOp
 simp only[ho,h1.1,h2.1,eqGuard_at_int,Sem.run_bind,Sem.run_pure,Result.andThen_ok]
 rfl
theorem Qj5(a:Int):adI a 2147483647=a % 2147483648:=by
 have h1:(BitVec.ofInt 64 a &&& BitVec.ofInt 64 2147483647).toNat=(a % 2147483648).toNat:=by
  rw[BitVec.toNat_and,show (BitVec.ofInt 64 2147483647).toNat=2 ^ 31 - 1 by decide,Nat.and_two_pow_sub_one_eq_mod]
  rw[BitVec.toNat_ofInt]
  have h2:a % 2147483648=a % 18446744073709551616 % 2147483648:=(Int.emod_emod_of_dvd a (by decide)).symm
  rw[h2]
  have h3:0<=a % 18446744073709551616:=Int.emod_nonneg _ (by decide)
  rw[show ((2 ^ 64:Nat):Int)=18446744073709551616 by decide]
  omega
 unfold adI bI
 rw[h1]
 have h4:0<=a % 2147483648:=Int.emod_nonneg _ (by decide)
 have h5:a % 2147483648 < 2147483648:=Int.emod_lt_of_pos _ (by decide)
 simp[IntKind.wrap,IntKind.signed,IntKind.bits,Int.bmod]
 omega
end Go.Abs
namespace Go.Abs
section
variable {E:Env}{l:List Oper}{frb:Fr}{K:Cont}
theorem AAny.drawSt{fr:Fr}{σ0:St}{hd tl:List Oper}{vs0:List FV}{op:Oper}(hT:TabOk E.P E.T)(n p:Nat)(cs:List (Nat×FV))(s1:St)(hm:E.P.follows .mixedOrders=true)(hB:drawB l n=true)(hsp:Q1x n l=some (hd,tl))(hfb:Fr.woO (dsts hd) fr=some frb)
  (hqb:Q52 l [p] n=true) (hrun0:Q0f E l.toArray l frb σ0 ((p,.bot)::cs) 0 hd []=some vs0) (hrun1:Q0f E l.toArray l frb s1 ((p,.bot)::cs) 0 hd []=some vs0) (hop:l[p]?=some op) (hpn:Nat.blt p n=true) (hgd:op.guard=none) (hd0:dstOk E.N op.dst=true)
  (hcs0:Q0b E l frb σ0 vs0 cs) (hcs1:Q0b E l frb s1 vs0 cs) (hst:AStep E op (Q0c l (mixV [p] vs0 (fC [p] [])) op++frb) σ0 .bot s1) (htail:AOps E l.toArray tl K (Q0e (mixV [p] vs0 (fC [p] [.bot])) 0 hd++frb) s1):AAny E l K fr σ0:=by
 refine AAny.drawC2 hT n [p] cs (fun vs σ=>match vs with|[]=>σ=σ0|[v]=>v=.bot/\σ=s1|_=>False) hm hB hsp hfb (by simp) rfl hqb rfl hrun0 ?_ ?_ (fun i hi=>by simp at hi;subst hi;exact Nat.le_of_ble_eq_true (show Nat.ble (i+1) n=true from hpn)) ?_ ?_
 ·intro vs σ h
  match vs with
  |[]=>subst h;exact hrun0
  |[_]=>obtain⟨_,rfl⟩:=h;exact hrun1
  |_::_::_=>exact h.elim
 ·intro vs σ h
  match vs with
  |[]=>subst h;exact hcs0
  |[_]=>obtain⟨_,rfl⟩:=h;exact hcs1
  |_::_::_=>exact h.elim
 ·intro vs σ h i o hi ho
  match vs with
  |[]=>
   subst h;cases hi;rw[hop]at ho;cases ho
   exact⟨hd0,.inl (.inl ⟨.bot,s1,by unfold HStep;rw[hgd];exact hst,rfl,rfl⟩)⟩
  |_::_=>cases hi
 ·intro vs σ hl h
  match vs with
  |[_]=>obtain⟨rfl,rfl⟩:=h;exact htail
  |[]=>cases hl
  |_::_::_=>exact h.elim
theorem ACode.drawSt{id:Nat}{fr:Fr}{σ0:St}{hd tl:List Oper}{vs0:List FV}{op:Oper}(hT:TabOk E.P E.T)(n p:Nat)(cs:List (Nat×FV))(s1:St)(hm:E.P.follows .mixedOrders=true)(hB:drawB l n=true)(hsp:Q1x n l=some (hd,tl))(hfb:Fr.woO (dsts hd) fr=some frb)
  (hqb:Q52 l [p] n=true) (hrun0:Q0f E l.toArray l frb σ0 ((p,.bot)::cs) 0 hd []=some vs0) (hrun1:Q0f E l.toArray l frb s1 ((p,.bot)::cs) 0 hd []=some vs0) (hop:l[p]?=some op) (hpn:Nat.blt p n=true) (hgd:op.guard=none) (hd0:dstOk E.N op.dst=true)
  (hcs0:Q0b E l frb σ0 vs0 cs) (hcs1:Q0b E l frb s1 vs0 cs) (hst:AStep E op (Q0c l (mixV [p] vs0 (fC [p] [])) op++frb) σ0 .bot s1) (htail:AOps E l.toArray tl K (Q0e (mixV [p] vs0 (fC [p] [.bot])) 0 hd++frb) s1):ACode E (.region id l.toArray true) K fr σ0:=AAny.code hm (AAny.drawSt hT n p cs s1 hm hB hsp hfb hqb hrun0 hrun1 hop hpn hgd hd0 hcs0 hcs1 hst htail)
theorem AAny.drawCS{fr:Fr}{σ0:St}{hd tl:List Oper}{vs0:List FV}{oc oa ob op:Oper}(hT:TabOk E.P E.T)(n pc a b p:Nat)(X Y:FV)(cs:List (Nat×FV))(P P2:FV->St->Prop)(hm:E.P.follows .mixedOrders=true)(hB:drawB l n=true)(hsp:Q1x n l=some (hd,tl))(hfb:Fr.woO (dsts hd) fr=some frb)
  (hnd:[pc,a,b,p].Nodup) (hch:chainB l [pc,a,b,p]=true) (hqb:Q52 l [pc,a,b,p] n=true) (hrun0:Q0f E l.toArray l frb σ0 ([(pc,.bot),(a,.bot),(b,.bot),(p,.bot)]++cs) 0 hd []=some vs0) (hoc:l[pc]?=some oc) (hoa:l[a]?=some oa) (hob:l[b]?=some ob) (hop:l[p]?=some op)
  (hn:([pc,a,b,p].all fun i=>Nat.blt i n)=true) (hds:([oc,oa,ob,op].all fun o=>dstOk E.N o.dst&&o.guard.isNone)=true)
  (hrunP:∀v σ,P v σ->Q0f E l.toArray l frb σ ([(pc,.bot),(a,.bot),(b,.bot),(p,.bot)]++cs) 0 hd []=some vs0) (hrunQ:∀v σ,P2 v σ->Q0f E l.toArray l frb σ ([(pc,.bot),(a,.bot),(b,.bot),(p,.bot)]++cs) 0 hd []=some vs0)
  (hcs0:Q0b E l frb σ0 vs0 cs) (hcsP:∀v σ,P v σ->Q0b E l frb σ vs0 cs) (hcsQ:∀v σ,P2 v σ->Q0b E l frb σ vs0 cs)
  (hcall:Q0u E oc (Q0c l (mixV [pc,a,b,p] vs0 (fC [pc,a,b,p] [])) oc++frb) σ0 P (fun ps σ'=>K (.panic ps) frb σ'))
  (ha:∀v σ,P v σ->AStep E oa (Q0c l (mixV [pc,a,b,p] vs0 (fC [pc,a,b,p] [v])) oa++frb) σ X σ)
  (hb:∀v σ,P v σ->AStep E ob (Q0c l (mixV [pc,a,b,p] vs0 (fC [pc,a,b,p] [v,X])) ob++frb) σ Y σ)
  (hst:∀v σ,P v σ->∃σ',P2 v σ'/\AStep E op (Q0c l (mixV [pc,a,b,p] vs0 (fC [pc,a,b,p] [v,X,Y])) op++frb) σ .bot σ')
  (htail:∀v σ,P2 v σ->AOps E l.toArray tl K (Q0e (mixV [pc,a,b,p] vs0 (fC [pc,a,b,p] [v,X,Y,.bot])) 0 hd++frb) σ):AAny E l K fr σ0:=by
 simp only[List.all_cons,List.all_nil,Bool.and_true,Bool.and_eq_true]at hds hn
 obtain⟨⟨d1,g1⟩,⟨d2,g2⟩,⟨d3,g3⟩,d4,g4⟩:=hds
 have g1:=Option.isNone_iff_eq_none.1 g1
 have g2:=Option.isNone_iff_eq_none.1 g2
 have g3:=Option.isNone_iff_eq_none.1 g3
 have g4:=Option.isNone_iff_eq_none.1 g4
 refine AAny.drawC2 hT n [pc,a,b,p] cs (fun vs σ=>match vs with|[]=>σ=σ0|[v]=>P v σ|[v,x]=>P v σ/\x=X|[v,x,y]=>P v σ/\x=X/\y=Y|[v,x,y,z]=>P2 v σ/\x=X/\y=Y/\z=.bot|_=>False) hm hB hsp hfb hnd hch hqb rfl hrun0 ?_ ?_ (fun i hi=>?_) ?_ ?_
 ·intro vs σ h
  match vs with
  |[]=>subst h;exact hrun0
  |[_]=>exact hrunP _ _ h
  |[_,_]=>exact hrunP _ _ h.1
  |[_,_,_]=>exact hrunP _ _ h.1
  |[_,_,_,_]=>exact hrunQ _ _ h.1
  |_::_::_::_::_::_=>exact h.elim
 ·intro vs σ h
  match vs with
  |[]=>subst h;exact hcs0
  |[_]=>exact hcsP _ _ h
  |[_,_]=>exact hcsP _ _ h.1
  |[_,_,_]=>exact hcsP _ _ h.1
  |[_,_,_,_]=>exact hcsQ _ _ h.1
  |_::_::_::_::_::_=>exact h.elim
 ·simp at hi
  rcases hi with rfl|rfl|rfl|rfl
  ·exact Nat.le_of_ble_eq_true (show Nat.ble (i+1) n=true from hn.1)
  ·exact Nat.le_of_ble_eq_true (show Nat.ble (i+1) n=true from hn.2.1)
  ·exact Nat.le_of_ble_eq_true (show Nat.ble (i+1) n=true from hn.2.2.1)
  ·exact Nat.le_of_ble_eq_true (show Nat.ble (i+1) n=true from hn.2.2.2)
 ·intro vs σ h i o hi ho
  match vs with
  |[]=>
   subst h;cases hi;rw[hoc]at ho;cases ho
   exact⟨d1,.inr ⟨g1,hcall⟩⟩
  |[v]=>
   cases hi;rw[hoa]at ho;cases ho
   exact⟨d2,.inl (.inl ⟨X,σ,by unfold HStep;rw[g2];exact ha v σ h,h,rfl⟩)⟩
  |[v,_]=>
   obtain⟨h,rfl⟩:=h
   cases hi;rw[hob]at ho;cases ho
   exact⟨d3,.inl (.inl ⟨Y,σ,by unfold HStep;rw[g3];exact hb v σ h,h,rfl,rfl⟩)⟩
  |[v,_,_]=>
   obtain⟨h,rfl,rfl⟩:=h
   cases hi;rw[hop]at ho;cases ho
   obtain⟨σ',h2,h3⟩:=hst v σ h
   exact⟨d4,.inl (.inl ⟨.bot,σ',by unfold HStep;rw[g4];exact h3,h2,rfl,rfl,rfl⟩)⟩
  |_::_::_::_::_=>cases hi
 ·intro vs σ hl h
  match vs with
  |[v,_,_,_]=>obtain⟨h,rfl,rfl,rfl⟩:=h;exact htail v σ h
  |[]|[_]|[_,_]|[_,_,_]=>cases hl
  |_::_::_::_::_::_=>exact h.elim
theorem ACode.drawCS{id:Nat}{fr:Fr}{σ0:St}{hd tl:List Oper}{vs0:List FV}{oc oa ob op:Oper}(hT:TabOk E.P E.T)(n pc a b p:Nat)(X Y:FV)(cs:List (Nat×FV))(P P2:FV->St->Prop)(hm:E.P.follows .mixedOrders=true)(hB:drawB l n=true)(hsp:Q1x n l=some (hd,tl))(hfb:Fr.woO (dsts hd) fr=some frb)
  (hnd:[pc,a,b,p].Nodup) (hch:chainB l [pc,a,b,p]=true) (hqb:Q52 l [pc,a,b,p] n=true) (hrun0:Q0f E l.toArray l frb σ0 ([(pc,.bot),(a,.bot),(b,.bot),(p,.bot)]++cs) 0 hd []=some vs0) (hoc:l[pc]?=some oc) (hoa:l[a]?=some oa) (hob:l[b]?=some ob) (hop:l[p]?=some op)
  (hn:([pc,a,b,p].all fun i=>Nat.blt i n)=true) (hds:([oc,oa,ob,op].all fun o=>dstOk E.N o.dst&&o.guard.isNone)=true)
  (hrunP:∀v σ,P v σ->Q0f E l.toArray l frb σ ([(pc,.bot),(a,.bot),(b,.bot),(p,.bot)]++cs) 0 hd []=some vs0) (hrunQ:∀v σ,P2 v σ->Q0f E l.toArray l frb σ ([(pc,.bot),(a,.bot),(b,.bot),(p,.bot)]++cs) 0 hd []=some vs0)
  (hcs0:Q0b E l frb σ0 vs0 cs) (hcsP:∀v σ,P v σ->Q0b E l frb σ vs0 cs) (hcsQ:∀v σ,P2 v σ->Q0b E l frb σ vs0 cs)
  (hcall:Q0u E oc (Q0c l (mixV [pc,a,b,p] vs0 (fC [pc,a,b,p] [])) oc++frb) σ0 P (fun ps σ'=>K (.panic ps) frb σ'))
  (ha:∀v σ,P v σ->AStep E oa (Q0c l (mixV [pc,a,b,p] vs0 (fC [pc,a,b,p] [v])) oa++frb) σ X σ)
  (hb:∀v σ,P v σ->AStep E ob (Q0c l (mixV [pc,a,b,p] vs0 (fC [pc,a,b,p] [v,X])) ob++frb) σ Y σ)
  (hst:∀v σ,P v σ->∃σ',P2 v σ'/\AStep E op (Q0c l (mixV [pc,a,b,p] vs0 (fC [pc,a,b,p] [v,X,Y])) op++frb) σ .bot σ')
  (htail:∀v σ,P2 v σ->AOps E l.toArray tl K (Q0e (mixV [pc,a,b,p] vs0 (fC [pc,a,b,p] [v,X,Y,.bot])) 0 hd++frb) σ):ACode E (.region id l.toArray true) K fr σ0:=AAny.code hm (AAny.drawCS hT n pc a b p X Y cs P P2 hm hB hsp hfb hnd hch hqb hrun0 hoc hoa hob hop hn hds hrunP hrunQ hcs0 hcsP hcsQ hcall ha hb hst htail)
theorem Q0u.ofR{o:Oper}{fr:Fr}{σ:St}{P:FV->St->Prop}{PP:List PanicEntry->St->Prop}(h:Q0y E o fr σ P):Q0u E o fr σ P PP:=fun F w C tmps hi hf next Q hk _=>h F w C tmps hi hf next Q hk
end
end Go.Abs
namespace Go.Abs
theorem Q07{p:Id->Prop}{s cap:Nat}(es:List (List AC))(h:idsS p es):(AObj.cells (vec s es cap)).ids p:=by
 show idsL p (vec s es cap)
 refine Q1s.2 fun c hc=>?_
 unfold vec at hc
 rcases List.mem_append.1 hc with hc|hc
 ·obtain⟨x,hx,hcx⟩:=List.mem_flatten.1 hc
  exact Q1s.1 (Q1d.1 h x hx) c hcx
 ·obtain⟨_,rfl⟩:=List.mem_replicate.1 hc
  trivial
theorem Q0i{ou:Outer}{k:Nat}{o:AObj}(h:OuOk ou)(ho:o.ids isO):OuOk (updO ou k o):=fun j x hx=>by
 by_cases e:k=j
 ·subst e;rw[Q03]at hx;cases hx;exact ho
 ·rw[Q05 _ e]at hx;exact h j x hx
end Go.Abs
namespace Go.Abs
theorem RV.flat{w:World}{C:Ctx}:∀{es:List (List AC)}{xss:List (List Value)},es.length=xss.length->(∀(i:Nat)(e:List AC)(x:List Value),es[i]?=some e->xss[i]?=some x->RV w C e x)->RV w C es.flatten xss.flatten
 |[],[],_,_=>by simp[RV]
 |[],_::_,h,_=>by simp at h
 |_::_,[],h,_=>by simp at h
 |e::es,x::xss,h,k=>by
  simp only[List.flatten_cons]
  have h1:=k 0 e x rfl rfl
  have h2:=RV.flat (es:=es) (xss:=xss) (by simpa using h) fun i e' x' he hx=>k (i+1) e' x' (by simpa using he) (by simpa using hx)
  exact RV.append h1 h2
theorem AStep.buildOwn{E:Env}{o:Oper}{fr:Fr}{σ:St}{t:TypeId}{ti tj:TI}{s len:Nat}{parts:Array (Nat×Operand)}{es:List (List AC)}(hT:TabOk E.P E.T)(ho:o.op=.buildSlice t len parts)(ht:Tab.get t E.T=some ti)(hk:Nat.beq ti.kind 2=true)(hj:Tab.get ti.elem E.T=some tj)(hs:tj.size=s)
  (he:Q65 E.Γ fr s 0 parts.toList=some es) (hc:(Nat.beq es.length len&&Nat.ble (len * s) 16777216&&!(Nat.beq len 0))=true):AStep E o fr σ (.one (.arr (.l σ.n) s 0 len len)) (σ.push (.cells es.flatten)):=by
 intro F w C tmps hi hf next Q hk2
 subst hs
 simp only[Bool.and_eq_true]at hc
 have e1:es.length=len:=Nat.eq_of_beq_eq_true hc.1.1
 have e2:len * tj.size<=16777216:=Nat.le_of_ble_eq_true hc.1.2
 have e3:len≠0:=by intro e;subst e;simp at hc
 obtain⟨g1,g2,xss,g3,g4⟩:=Q7i (a:=⟨tmps,E.ds⟩) hi hf tj.size he
 have hlen:xss.length=es.length:=by rw[g3];simpa using g2
 have hxs:∀x∈xss,x.length=tj.size:=by
  intro x hx
  obtain⟨i,hil,hie⟩:=List.getElem_of_mem hx
  have he:es[i]?=some (es[i]'(by omega)):=List.getElem?_eq_getElem (by omega)
  obtain⟨k1,k2⟩:=g4 i _ x he (by rw[List.getElem?_eq_getElem hil,hie])
  rw[RV.length k2,k1]
 have hrun:=Q4f (hT t ti ht) (Nat.eq_of_beq_eq_true hk) (hT _ _ hj) (n:=len) (vs:=parts.toList.map (fun p=>Act.eval ⟨tmps,E.ds⟩ p.2)) (xss:=xss) (by rw[g3];simp) (by omega) hxs e2 e3 w
 have hparts:Array.map (fun p:Nat×Operand=>(p.1,Act.eval ⟨tmps,E.ds⟩ p.2)) parts=((List.range' 0 len).zip (parts.toList.map (fun p=>Act.eval ⟨tmps,E.ds⟩ p.2))).toArray:=by
  apply Array.ext'
  rw[show len=parts.toList.length by rw[←e1,g2],←g1]
  simp[List.zip_map']
 have hrv:RV w C es.flatten xss.flatten:=RV.flat hlen.symm fun i e x h5 h6=>(g4 i e x h5 h6).2
 obtain⟨C',hE,hno,hnp,hin,hok,hblk⟩:=hi.newObj (cs:=es.flatten) (xs:=xss.flatten) hrv ti.elem
 unfold Oper.wp
 have hrun2:(execOp (Act.eval ⟨tmps,E.ds⟩) o).run E.P w=.ok (.value (.slice (some ⟨w.heap.size,0,none⟩) len len)) (w.alloc (.cells xss.flatten.toArray ti.elem)):=by
  unfold execOp
  simp only[ho,Sem.run_bind]
  rw[show (Array.map (fun x:Nat×Operand=>match x with|(i,x)=>(i,Act.eval ⟨tmps,E.ds⟩ x)) parts)=Array.map (fun p:Nat×Operand=>(p.1,Act.eval ⟨tmps,E.ds⟩ p.2)) parts from rfl,hparts,hrun]
  rfl
 rw[hrun2,Oper.upon_value]
 exact hk2 _ _ C' ⟨Stp.alloc hi.base _ _,hE,Nat.le_of_eq hno.symm,hnp⟩ hin (by simp only[RF,R];exact⟨hok,by rw[hblk,Nat.zero_mul],Nat.le_refl _⟩)
theorem LendF.agg{σ:St}:∀{xs ys:List AC},Q5d σ (xs.map .one) (ys.map .one)->LendF σ (.agg xs) (.agg ys):=fun {xs ys} h Γ F w C v hi hr=>by
 simp only[RF]at hr ⊢
 obtain⟨vs,rfl,hv⟩:=hr
 refine⟨vs,rfl,?_⟩
 have h1:=h Γ F w C vs hi (RFs.ones hv)
 have:∀(ys:List AC) (vs:List Value),RFs w (C.still w) (ys.map .one) vs->RV w (C.still w) ys vs:=by
  intro ys
  induction ys with
  |nil=>intro vs h;simp only[List.map_nil,RFs]at h;subst h;simp[RV]
  |cons y ys ih=>
   intro vs h
   simp only[List.map_cons,RFs,RF]at h
   obtain⟨u,us,rfl,h1,h2⟩:=h
   exact⟨u,us,rfl,h1,ih us h2⟩
 exact this _ _ h1
theorem ACode.wkObj{E:Env}{c:Code}{K:Cont}{fr:Fr}{σ:St}(i:Id){cs cs':List AC}(hg:σ.get i=some (.cells cs))(hw:∀(w:World)(C:Ctx)(xs:List Value),RV w C cs xs->RV w C cs' xs)(h:ACode E c K fr (σ.set i (.cells cs'))):ACode E c K fr σ:=by
 intro F w0 C0 w C tmps hgo hi hf
 obtain⟨hok,xs,T,o1,o2,o3,o4⟩:=hi.obj i _ hg
 obtain⟨he,hi'⟩:=hi.turn hg (g:=C.blk i) rfl (w':=w) rfl (fun _ _=>rfl) (fun _ _ _=>rfl) (o':=.cells cs') rfl fun _=>⟨xs,T,o1,o2,hw w C xs o3,o4⟩
 exact h F w0 C0 w C tmps hgo hi' hf
end Go.Abs
namespace Go.Abs
end Go.Abs
namespace Go.Abs
theorem Q9d{P:Program}{T:Tab}{Γ:List (Nat×List AC)}{N:Nat}{fn:Func}{ds:List Deferred}{Q:FV->Outer->Prop}{F:Nat->Prop}{w w':World}{C C':Ctx}{ou:Outer}{fr':Fr}{σ':St}{tmps:Array Value}(hT:TabOk P T)(h0:C.nl=0)(hi:Inv Γ F w C ⟨0,[],ou⟩)
  (hgo:Goes F isO w C w' C') (hi':Inv Γ F w' C' σ') (hf':FrOk w' C' N fr' tmps) (h:Fin ⟨P,T,Γ,N,ds⟩ fn Q fr' σ'):∃v,(results fn tmps).run P w'=.ok v w'/\(∃v' r ou' C',Ending.returned v=.returned v'/\Goes F isO w C w' C'/\C'.nl=0/\Inv Γ F w' C' ⟨0,[],ou'⟩/\RF w' C' r v'/\Q r ou'):=by
 obtain⟨r,r',h1,h2,h3,h4,h5⟩:=h
 obtain⟨u,hu,hru⟩:=Qbm (tmps:=tmps) hT hi' hf' h1
 have hc:Chg isO w' C' w' { C' with nl:=0 }:=⟨fun _ _=>rfl,fun _ h=>h,fun i hp ho=>⟨by cases i with|l k=>cases hp|o k=>exact ho,rfl,rfl⟩⟩
 have hc0:∀i,C.ok i->isO i:=Q30 h0
 refine⟨u,hu,u,r',σ'.ou,{ C' with nl:=0 },rfl,⟨hgo.stp,hgo.chg.trans hc,hgo.no,hgo.newp⟩,rfl,⟨hi'.base,rfl,fun g cs hm=>?_,hi'.prot,fun i o ho=>?_,fun i j o o' g k1 k2 k3 k4=>?_⟩,RF.chg hc r' u h3 (h2 _ _ _ hru),h5⟩
 ·have:=hi.glob g cs hm
  have hids:=Q13 hc0 cs (RL.idsOk cs _ this.rl)
  exact RG.chg (hgo.chg.trans hc) hids this
 ·cases i with
  |l k=>cases ho
  |o k=>
   obtain⟨k1,k2⟩:=hi'.obj (.o k) o ho
   exact⟨k1,k2.ctx isO (h4 k o ho) trivial k1 hc (fun _ h=>h) (fun _ h=>h)⟩
 ·cases i with
  |l k=>cases k1
  |o k=>cases j with
   |l k=>cases k2
   |o k'=>
    have e1:=AObj.block_ctx (o:=o) isO (i:=.o k) trivial (hi'.obj (.o k) o k1).1 hc
    have e2:=AObj.block_ctx (o:=o') isO (i:=.o k') trivial (hi'.obj (.o k') o' k2).1 hc
    exact hi'.inj (.o k) (.o k') o o' g k1 k2 (by rw[←e1];exact k3) (by rw[←e2];exact k4)
theorem RV.len{w:World}{C:Ctx}:∀{cs:List AC}{xs:List Value},RV w C cs xs->xs.length=cs.length
 |[],xs,h=>by simp only[RV]at h;simp[h]
 |c::cs,xs,h=>by simp only[RV]at h;obtain⟨u,us,rfl,_,h2⟩:=h;simp[RV.len h2]
theorem AFn.ofDefer{P:Program}{T:Tab}{Γ:List (Nat×List AC)}{g gd i1 d5:Nat}{fn:Func}{r0 rest:Code}{o0 o1:Oper}{args:List FV}{ou:Outer}{Q:FV->Outer->Prop}{fr1:Fr}{σ1:St}{first caps:List AC}(hT:TabOk P T)(hf:P.funcs[g]?=some fn)(hb:fn.body=some (.seq r0 (.seq (.region i1 #[o0,o1] false) rest)))(hname:(fn.name == "runtime.NumGoroutine")=false)
  (hlen : args.length <= fn.ntmps) (h0 : OuOk ou -> ACode ⟨P, T, Γ, fn.ntmps, []⟩ r0 (fun e fr σ => e = .normal /\ fr = fr1 /\ σ = σ1) (argFr 0 args) ⟨0, [], ou⟩)
  (hg0 : o0.guard = none) (hd0 : o0.dst = some d5) (hdl : d5 < fn.ntmps) (hs0 : AStep ⟨P, T, Γ, fn.ntmps, []⟩ o0 fr1 σ1 (.one (.fn (.func gd) first caps)) σ1)
  (hg1 : o1.guard = none) (hd1 : o1.dst = none) (ho1 : o1.op = .defer { callee := .value (.tmp d5), args := #[], argTypes := #[] })
  (hdef : ∀ (us : Array Value) (w : World), (callFunc gd us).run P w = .ok (.enter gd us) w /\ (us.size = first.length + caps.length -> CallsD P gd us .returning w fun e u' w' => (∃ v, e = .returned v) /\ u' = .returning /\ w' = w))
  (hrest : OuOk ou -> ∀ ds, ACode ⟨P, T, Γ, fn.ntmps, ds⟩ rest (Q02 ⟨P, T, Γ, fn.ntmps, ds⟩ (Fin ⟨P, T, Γ, fn.ntmps, ds⟩ fn Q) []) ((d5, .one (.fn (.func gd) first caps)) :: fr1) σ1) : AFn P Γ g args ou Q := by
 refine⟨fun vs0 w=>?_,fun F w C cargs h0' hi hr=>?_⟩
 ·simp[callFunc,hf,hb]
  simpa using hname
 ·have hcl:cargs.length=args.length:=by
   have:∀(vs:List FV) (xs:List Value),RFs w C vs xs->xs.length=vs.length:=by
    intro vs
    induction vs with
    |nil=>intro xs h;simp only[RFs]at h;simp[h]
    |cons v vs ih=>intro xs h;simp only[RFs]at h;obtain⟨u,us,rfl,_,h2⟩:=h;simp[ih us h2]
   exact this _ _ hr
  refine calls_of_wp_defers hf hb ?_
  have hfr:FrOk w C fn.ntmps (argFr 0 args) (cargs.toArray++Array.replicate (fn.ntmps - cargs.toArray.size) undef):=by
   refine⟨by simp;omega,fun k x hk=>?_⟩
   obtain⟨_,h2⟩:=Q41 args 0 k x hk
   simp only[Nat.sub_zero]at h2
   obtain⟨u,hu,hru⟩:=RFs.get hr h2
   refine⟨u,?_,hru⟩
   have hlt:k < cargs.length:=(List.getElem?_eq_some_iff.1 hu).1
   rw[Array.getElem?_append_left (by simpa using hlt)]
   simpa using hu
  have hou:=OuOk.of_inv hi h0'
  refine wp_seq (wp_mono (h0 hou F w C w C _ (Goes.refl _ _ _ _) hi hfr) fun e a w1 hp=>?_)
  obtain⟨hda,fr',σ',C1,hg1',hi1,hf1,rfl,rfl,rfl⟩:=hp
  have ha:a=⟨a.tmps,[]⟩:=by cases a;simp_all
  rw[ha]
  refine wp_seq (wp_region_lit (l:=[o0,o1]) ?_)
  refine wpList_plain hg0 fun N' hN=>hs0 F w1 C1 a.tmps hi1 hf1 N' _ fun u w2 C2 hgo2 hi2 hr2=>?_
  refine hN _ _ ?_
  have hf2:FrOk w2 C2 fn.ntmps ((d5,.one (.fn (.func gd) first caps))::fr') (Act.put ⟨a.tmps,[]⟩ o0.dst u).tmps:=by
   have:=Q0v (ds:=[]) (dst:=some d5) (hf1.ext hgo2.chg) (by simp[dstOk,Nat.blt];omega) hr2
   rw[hd0];exact this
  rw[Q1g]
  generalize hat:(Act.put ⟨a.tmps,[]⟩ o0.dst u).tmps=tm2 at hf2
  refine wpList_plain hg1 fun N2 hN2=>?_
  obtain⟨u5,hu5,hr5⟩:=hf2.2 d5 (.one (.fn (.func gd) first caps)) (by simp[Fr.get])
  simp only[RF,R]at hr5
  obtain⟨xs,ys,rfl,hx,hy⟩:=hr5
  have hev:Act.eval ⟨tm2,[]⟩ (.tmp d5)=.func (.func gd) xs.toArray ys.toArray:=by
   simp[Act.eval,hu5]
  have hrun:(execOp (Act.eval ⟨tm2,[]⟩) o1).run P w2=.ok (.defer ⟨.fn (.func gd) ys.toArray,xs.toArray⟩) w2:=by
   unfold execOp
   simp only[ho1,resolve,Sem.run_bind,hev,Deferred.ofValue,Sem.run_pure,Result.andThen_ok]
   simp
  unfold Oper.wp
  rw[hrun,Oper.upon_defer]
  refine hN2 _ _ ?_
  rw[hd1]
  show rest.wp P _ ⟨tm2,[⟨.fn (.func gd) ys.toArray,xs.toArray⟩]⟩ w2
  refine wp_mono (hrest hou [⟨.fn (.func gd) ys.toArray,xs.toArray⟩] F w C w2 C2 tm2 (hg1'.trans hgo2.toO) hi2 hf2) fun e a3 w3 hp=>?_
  obtain⟨hd3,fr3,σ3,C3,hg3,hi3,hf3,hk⟩:=hp
  have hxs:xs.length=first.length:=RV.len hx
  have hys:ys.length=caps.length:=RV.len hy
  have key:Fin ⟨P,T,Γ,fn.ntmps,[⟨.fn (.func gd) ys.toArray,xs.toArray⟩]⟩ fn Q fr3 σ3->Leaves P fn a3.tmps (fun e w'=>∃v r ou' C',e=.returned v/\Goes F isO w C w' C'/\C'.nl=0/\Inv Γ F w' C' ⟨0,[],ou'⟩/\RF w' C' r v/\Q r ou') a3.defers .returning w3:=fun hfin=>by
   obtain⟨v,hv,hR⟩:=Q9d hT h0' hi hg3 hi3 hf3 hfin
   rw[hd3]
   refine⟨by simp,.func gd,ys.toArray,gd,xs.toArray++ys.toArray,rfl,?_,((hdef _ w3).2 (by simp[hxs,hys])).mono ?_⟩
   ·show (invoke (.fn (.func gd) ys.toArray) xs.toArray).run P w3=_
    simp only[invoke]
    exact (hdef _ w3).1
   ·rintro e u' w' ⟨⟨v',rfl⟩,rfl,rfl⟩
    exact⟨v,hv,hR⟩
  cases e with
  |normal=>exact key hk
  |ret=>exact key hk
  |panic ps=>exact hk.elim
  |exit id=>exact hk.elim
  |goto l=>exact hk.elim
  |outgrown=>exact hk.elim
theorem AOps.growO{E:Env}{ops:Array Oper}{l:List Oper}{K:Cont}{fr:Fr}{σ:St}(k off:Nat)(e:TypeId)(s:Nat){cs:List AC}(h:σ.get (.l k)=some (.cells cs))(hoff:cs[off]?=some (.lit (.slice none 0 0)))
  (hk : AOps E ops l K fr ((σ.set (.l k) (.cells (cs.set off (.gs s [] (.l σ.n))))).push (.tok e s 0))) : AOps E ops l K fr σ := by
 intro F w0 C0 w C tmps hg hi hf
 have hno:=Ctx.tokd_new C none (fun _=>False) hi.next
 have he:Ext w C w (C.tokd none (fun _=>False)):=⟨fun _ _=>rfl,fun _ h=>.inl h,fun i _ ho=>Ctx.tokd_old C _ _ ho⟩
 -- first the token
 have hi1:Inv E.Γ F w (C.tokd none (fun _=>False)) (σ.push (.tok e s 0)):=
  hi.addObj (σ.get_push _) he (by simp[Ctx.tokd,Ctx.more,St.push,hi.next]) hi.base (fun a ha=>hi.prot a (ha.resolve_right id)) (fun _ _ _ _ _ _ h=>h) (fun _ _ _ _ _ _ ha=>ha.resolve_right id) hno.1
   (by simp only[ObjOk,hno.2]) (fun i p g _ _ hb=>by simp[AObj.block,hno.2]at hb)
 have hget:(σ.push (.tok e s 0)).get (.l k)=some (.cells cs):=by
  rw[St.get_push]
  have:¬(Id.l k=Id.l σ.n):=by
   intro e'
   have:=(hi.obj _ _ h).1
   rw[e']at this
   simp only[Ctx.ok]at this
   have:=hi.next
   omega
  rw[if_neg this];exact h
 obtain⟨hok,xs,T,h1,h2,h3,h4⟩:=hi1.obj _ _ hget
 have hxs:xs[off]?=some (.slice none 0 0):=by
  have:∀(cs:List AC) (xs:List Value) (off:Nat),RV w (C.tokd none (fun _=>False)) cs xs->cs[off]?=some (.lit (.slice none 0 0))->xs[off]?=some (.slice none 0 0):=by
   intro cs
   induction cs with
   |nil=>intro xs off _ h;simp at h
   |cons c cs ih=>
    intro xs off h h'
    simp only[RV]at h
    obtain⟨u,us,rfl,g1,g2⟩:=h
    cases off with
    |zero=>simp at h';subst h';simp only[R]at g1;simp[g1.1]
    |succ off=>simpa using ih us off g2 (by simpa using h')
  exact this cs xs off h3 hoff
 have hr':RV w (C.tokd none (fun _=>False)) (cs.set off (.gs s [] (.l σ.n))) xs:=by
  have:∀(cs:List AC) (xs:List Value) (off:Nat),RV w (C.tokd none (fun _=>False)) cs xs->xs[off]?=some (.slice none 0 0)->RV w (C.tokd none (fun _=>False)) (cs.set off (.gs s [] (.l σ.n))) xs:=by
   intro cs
   induction cs with
   |nil=>intro xs off h _;simpa using h
   |cons c cs ih=>
    intro xs off h h'
    simp only[RV]at h
    obtain⟨u,us,rfl,g1,g2⟩:=h
    cases off with
    |zero=>simp at h';subst h';exact⟨_,us,rfl,⟨hno.1,.inl ⟨rfl,rfl,hno.2⟩⟩,g2⟩
    |succ off=>exact⟨u,us,rfl,g1,ih us off g2 (by simpa using h')⟩
  exact this cs xs off h3 hxs
 have hi2:=(hi1.turn (o':=.cells (cs.set off (.gs s [] (.l σ.n)))) hget rfl rfl (fun _ _=>rfl) (fun _ _ _=>rfl) rfl (fun he'=>⟨xs,T,h1,h2,hr',h4⟩)).2
 refine hk F w0 C0 w _ tmps (hg.trans ⟨Stp.refl _ _,he.weaken (fun _ _=>trivial),by simp[Ctx.tokd,Ctx.more],fun a ha=>.inl (ha.resolve_right id)⟩) ?_ (hf.ext he)
 have hkn:k≠σ.n:=by
  rintro rfl
  have h5:=(hi.obj _ _ h).1
  simp only[Ctx.ok]at h5
  have:=hi.next
  omega
 exact⟨hi2.base,by have:=hi2.next;simpa[St.push,St.set]using this,hi2.glob,hi2.prot,fun i o ho=>hi2.obj i o (by rw[←Q4b hkn];exact ho),fun i j o o' g a b c d=>hi2.inj i j o o' g (by rw[←Q4b hkn];exact a) (by rw[←Q4b hkn];exact b) c d⟩

theorem AFn.forgetD{P:Program}{Γ:List (Nat×List AC)}{g:Nat}{args:List FV}{ou:Outer}{Q:FV->Outer->Prop}(h:AFn P Γ g args ou (fun r ou'=>∃ou'':Outer,(∀m o,ou'' m=some o->ou' m=some o∨(o=.dead/\∃p,ou m=some p))/\Q r ou'')):AFn P Γ g args ou Q:=by
 refine⟨h.1,fun F w C cargs h0 hi hr=>(h.2 F w C cargs h0 hi hr).mono fun e w' ⟨v,r,ou',C',h1,h2,h3,h4,h5,ou'',h6,h7⟩=>⟨v,r,ou'',C',h1,h2,h3,?_,h5,h7⟩⟩
 have hs:∀i o,(St.mk 0 [] ou'').get i=some o->(St.mk 0 [] ou').get i=some o∨(o=.dead/\isO i/\∃p,(St.mk 0 [] ou).get i=some p):=fun i o hio=>by
  cases i with
  |l m=>cases hio
  |o m=>exact (h6 m o hio).imp id fun ⟨a,b⟩=>⟨a,trivial,b⟩
 refine⟨h4.base,h4.next,h4.glob,h4.prot,fun i o ho=>?_,fun i j o o' g k1 k2 h3 h5=>?_⟩
 ·rcases hs i o ho with hh|⟨rfl,hio,p,hp⟩
  ·exact h4.obj i o hh
  ·exact⟨(h2.chg.id i hio (hi.obj i p hp).1).1,trivial⟩
 ·rcases hs i o k1 with hh|⟨rfl,_,p,hp⟩
  ·rcases hs j o' k2 with hh2|⟨rfl,_,p,hp⟩
   ·exact h4.inj i j o o' g hh hh2 h3 h5
   ·simp[AObj.block]at h5
  ·simp[AObj.block]at h3
end Go.Abs
namespace Go.Abs
theorem Q1e(n:Nat)(lo:List (Nat×AObj))(ou:Outer)(k:Nat)(o:AObj):St.set ⟨n,lo,ou⟩ (.o k) o=⟨n,lo,updO ou k o⟩:=by
 have:(fun j=>bif Nat.beq j k then some o else ou j)=updO ou k o:=by
  funext j
  by_cases e:k=j
  ·subst e;rw[Q03];simp
  ·rw[Q05 _ e,Q08 (fun h=>e h.symm)];rfl
 show St.mk n lo (fun j=>bif Nat.beq j k then some o else ou j)=_
 rw[this]
theorem Q5f(ou:Outer)(k:Nat)(o p:AObj):updO (updO ou k o) k p=updO ou k p:=by
 funext j
 by_cases e:k=j
 ·subst e;rw[Q03,Q03]
 ·rw[Q05 _ e,Q05 _ e,Q05 _ e]
theorem AStep.sliceOwn'{E:Env}{o:Oper}{fr:Fr}{σ:St}{t:TypeId}{ti tj:TI}{x:Operand}{lo hi mx:Option Operand}{i:Id}{s len cap a b c off' m' c':Nat}(hT:TabOk E.P E.T)(ho:o.op=.slice t x lo hi mx)(ht:Tab.get t E.T=some ti)(hk:Nat.beq ti.kind 2=true)(hj:Tab.get ti.elem E.T=some tj)(hs:Nat.beq tj.size s=true)
  (hx:aEval E.Γ fr x=some (.one (.arr i s 0 len cap))) (hlo:optIs E.Γ fr lo a 0) (hhi:optIs E.Γ fr hi b len) (hmx:optIs E.Γ fr mx c cap) (hm:mx.isSome=true->hi.isSome=true) (h1:a<=b) (h2:b<=c) (h3:c<=cap)
  (e1:(if c=a then 0 else a)=off') (e2:b - a=m') (e3:c - a=c'):AStep E o fr σ (.one (.arr i s off' m' c')) σ:=by
 subst e1;subst e2;subst e3
 exact AStep.sliceOwn hT ho ht hk hj hs hx hlo hhi hmx hm h1 h2 h3
theorem AStep.sliceNil{E:Env}{o:Oper}{fr:Fr}{σ:St}{t:TypeId}{ti tj:TI}{x lo:Operand}{k:IntKind}(hT:TabOk E.P E.T)(ho:o.op=.slice t x (some lo) none none)(ht:Tab.get t E.T=some ti)(hk:Nat.beq ti.kind 2=true)(hj:Tab.get ti.elem E.T=some tj)
  (hx:aEval E.Γ fr x=some (.one (.lit (.slice none 0 0)))) (hlo:aEval E.Γ fr lo=some (.one (.lit (.int k 0)))):AStep E o fr σ (.one (.lit (.slice none 0 0))) σ:=by
 refine AStep.quiet fun F w C tmps hin hf=>⟨.slice none 0 0,?_,rfl,rfl⟩
 have e1:=Q00 (a:=⟨tmps,E.ds⟩) hin hf hx
 have e2:=Q00 (a:=⟨tmps,E.ds⟩) hin hf hlo
 simp only[RF,R]at e1 e2
 have hu:=(hT t ti ht).slice (Nat.eq_of_beq_eq_true hk)
 have hsz:=(hT _ _ hj).run_sizeOf (w:=w)
 unfold execOp
 simp[ho,e1.1,e2.1,Instr.sliceAt,Instr.slice,run_underlying hu,hsz,Instr.sliceBounds,Instr.sliceBound,asIntOf,Result.andThen]
theorem AStep.capArr{E:Env}{o:Oper}{fr:Fr}{σ:St}{t:TypeId}{ti:TI}{x:Operand}{i:Id}{s off m c:Nat}(hT:TabOk E.P E.T)(ho:o.op=.call { callee:=.builtin .cap,args:=#[x],argTypes:=#[t] })(ht:Tab.get t E.T=some ti)(hk:Nat.beq ti.kind 2=true)(hx:aEval E.Γ fr x=some (.one (.arr i s off m c))):AStep E o fr σ (.one (.lit (.int .i64 c))) σ:=by
 refine AStep.quiet fun F w C tmps hin hf=>⟨.int .i64 c,?_,rfl,rfl⟩
 have e1:=Q00 (a:=⟨tmps,E.ds⟩) hin hf hx
 have hu:=(hT t ti ht).slice (Nat.eq_of_beq_eq_true hk)
 simp only[RF,R]at e1
 unfold execOp
 simp[ho,resolve,invoke,builtin,e1.2.1,Builtin.cap_,run_underlying hu,goInt,Result.andThen]
end Go.Abs
namespace Go.Abs
theorem AStep.andU{E:Env}{o:Oper}{fr:Fr}{σ:St}{t yt:TypeId}{x y:Operand}{a b:Nat}(ha:a < 18446744073709551616)(hb:b < 18446744073709551616)(ho:o.op=.binOp .and t x y yt)(hx:aEval E.Γ fr x=some (.one (.lit (.int .u64 (a:Int)))))(hy:aEval E.Γ fr y=some (.one (.lit (.int .u64 (b:Int))))):AStep E o fr σ (.one (.lit (.int .u64 ((a &&& b:Nat):Int)))) σ:=by
 refine AStep.quiet fun F w C tmps hi hf=>⟨.int .u64 ((a &&& b:Nat):Int),?_,rfl,rfl⟩
 have h1:=Q00 (a:=⟨tmps,E.ds⟩) hi hf hx
 have h2:=Q00 (a:=⟨tmps,E.ds⟩) hi hf hy
 simp only[RF,R]at h1 h2
 unfold execOp
 simp only[ho,h1.1,h2.1,eqGuard_at_int,Sem.run_bind,Sem.run_pure,Result.andThen_ok]
 rw[←bits_and_u64_nat a b ha hb]
 rfl
theorem AStep.copy0{E:Env}{o:Oper}{fr:Fr}{σ:St}{t t':TypeId}{ti tj:TI}{x y:Operand}{i:Id}{s off m c1:Nat}{s2:Nat}{news:List (List AC)}(hT:TabOk E.P E.T)(ho:o.op=.call { callee:=.builtin .copy,args:=#[x,y],argTypes:=#[t,t'] })(ht:Tab.get t E.T=some ti)(hkd:Nat.beq ti.kind 2=true)(hj:Tab.get ti.elem E.T=some tj)
  (hx:aEval E.Γ fr x=some (.one (.arr i s off m c1))) (hm:m=0) (hy:aEval E.Γ fr y=some (.one (.sl s2 news))):AStep E o fr σ (.one (.lit (.int .i64 0))) σ:=by
 subst hm
 refine AStep.quiet fun F w C tmps hin hf=>⟨.int .i64 0,?_,rfl,rfl⟩
 have e1:=Q00 (a:=⟨tmps,E.ds⟩) hin hf hx
 have e2:=Q00 (a:=⟨tmps,E.ds⟩) hin hf hy
 simp only[RF,R]at e1 e2
 obtain⟨_,e1,_⟩:=e1
 obtain⟨a,cap,e2,_⟩:=e2
 have hu:=(hT t ti ht).slice (Nat.eq_of_beq_eq_true hkd)
 have hsz:=(hT _ _ hj).run_sizeOf (w:=w)
 unfold execOp
 cases a with
 |none=>simp[ho,resolve,invoke,builtin,e1,e2,Builtin.copy_,run_underlying hu,hsz,goInt,Result.andThen,Builtin.lenOf,Builtin.firstCells,storeCells]
 |some ad=>simp[ho,resolve,invoke,builtin,e1,e2,Builtin.copy_,run_underlying hu,hsz,goInt,Result.andThen,Builtin.lenOf,Builtin.firstCells,storeCells,loadCells,loadCellsFrom]
end Go.Abs
namespace Go.Abs
theorem RV.setC{w:World}{C:Ctx}{a b:AC}(hab:∀v,R w C a v->R w C b v):∀{cs:List AC}{off:Nat}{xs:List Value},RV w C cs xs->cs[off]?=some a->RV w C (cs.set off b) xs
 |[],_,_,_,h=>by simp at h
 |c::cs,0,xs,⟨x,xs',e,h1,h2⟩,h=>by
  simp only[List.getElem?_cons_zero,Option.some.injEq]at h
  subst h
  exact⟨x,xs',e,hab x h1,h2⟩
 |c::cs,off+1,xs,⟨x,xs',e,h1,h2⟩,h=>by
  simp only[List.getElem?_cons_succ]at h
  exact⟨x,xs',e,h1,RV.setC hab h2 h⟩
theorem AOps.freezeArrO{E:Env}{ops:Array Oper}{l:List Oper}{K:Cont}{fr:Fr}{σ:St}(i j:Id)(off:Nat){s cap:Nat}{es:List (List AC)}{cs:List AC}(hg:σ.get i=some (.cells (vec s es cap)))(hl:∀x∈es,x.length=s)(hgj:(σ.set i .dead).get j=some (.cells cs))(hoff:cs[off]?=some (.arr i s 0 es.length cap))
  (h : AOps E ops l K fr ((σ.set i .dead).set j (.cells (cs.set off (.sl s es))))) : AOps E ops l K fr σ := by
 intro F w0 C0 w C tmps hgo hi hf
 obtain⟨h1,h2,h3⟩:=Q9c hi hf hg (fr':=[]) trivial
 obtain⟨hok,zs,T,b1,b2,b3,b4⟩:=hi.obj i _ hg
 have key:∀v,R w (C.froze (C.blk i)) (.arr i s 0 es.length cap) v->R w (C.froze (C.blk i)) (.sl s es) v:=by
  intro u hr
  simp only[R,Nat.zero_mul]at hr
  refine⟨some ⟨C.blk i,0,none⟩,cap,hr.2.1,hr.2.2,.inr ⟨_,rfl,rfl,?_⟩⟩
  have hfl:=Q1t hl
  have hzl:=RV.length b3
  have hv:RV w (C.froze (C.blk i)) es.flatten (zs.take (es.length * s)):=by
   have:=(b3.take (es.length * s)).ext h1.chg
   rwa [vec,List.take_append_of_le_length (by omega),List.take_of_length_le (by omega)]at this
  refine RS.ofVals 0 hl hv fun j v hj=>⟨?_,.inr rfl⟩
  have h2:j < es.length * s:=by have:=(List.getElem?_eq_some_iff.1 hj).1;simp at this;omega
  rw[List.getElem?_take_of_lt h2]at hj
  rw[Nat.zero_add,cell_of_row _ _ _ _ _ _ b1]
  simpa using hj
 obtain⟨hokj,xs,Tj,o1,o2,o3,o4⟩:=h2.obj j _ hgj
 obtain⟨he,hi'⟩:=h2.turn hgj (g:=(C.froze (C.blk i)).blk j) rfl (w':=w) rfl (fun _ _=>rfl) (fun _ _ _=>rfl) (o':=.cells (cs.set off (.sl s es))) rfl fun _=>⟨xs,Tj,o1,o2,RV.setC key o3 hoff,o4⟩
 refine h F w0 C0 w _ tmps (hgo.trans h1.toO) hi' ⟨hf.1,fun k x hk=>?_⟩
 obtain⟨u,hu,hr⟩:=hf.2 k x hk
 exact⟨u,hu,hr.ext h1.chg⟩
end Go.Abs
namespace Go.Abs
theorem Qij{Γ:List (Nat×List AC)}{F:Nat->Prop}{w:World}{C:Ctx}{σ:St}(js:List Nat)(hj:∀j∈js,j < σ.n)(hi:Inv Γ F w C σ):∃C2 k,(∀m,k<=m->σ.ou m=none)/\Goes F (fun _=>True) w C w C2 /\
  (∀ σ' : St, σ'.n = σ.n -> (∀ i x, σ'.get i = some x -> ∃ i0 y, σ.get i0 = some y /\ toOs js k i0 = i /\ x = y.sub (toOs js k)) -> Inv Γ F w C2 σ') /\ (∀ y u, RF w C y u -> RF w C2 (y.sub (toOs js k)) u) := by
 have hnone:∀m,C.no<=m->σ.ou m=none:=fun m hm=>by
  cases hx:σ.ou m with
  |none=>rfl
  |some x=>
   have:m < C.no:=(hi.obj (.o m) x hx).1
   omega
 let C2:Ctx:={ C with no:=C.no+js.length,phi:=fun i=>match i with|.o m=>if m < C.no then C.phi (.o m)else (match js[m - C.no]? with|some j=>C.phi (.l j)|none=>C.phi (.o m))|.l m=>C.phi (.l m),tk:=fun i=>match i with|.o m=>if m < C.no then C.tk (.o m)else (match js[m - C.no]? with|some j=>C.tk (.l j)|none=>C.tk (.o m))|.l m=>C.tk (.l m) }
 have hx:Ext w C w C2:=⟨fun _ _=>rfl,fun _ h=>h,fun i _ ho=>by
  cases i with
  |l m=>exact⟨ho,rfl,rfl⟩
  |o m=>
   have hm:m < C.no:=ho
   refine⟨Nat.lt_of_lt_of_le hm (Nat.le_add_right _ _),?_,?_⟩
   ·show (if m < C.no then _ else _)=_;rw[if_pos hm];rfl
   ·show (if m < C.no then _ else _)=_;rw[if_pos hm];rfl⟩
 have hb:Bus (toOs js C.no) (fun _=>True) w C2 C:=⟨fun _ h=>h,fun i _ ho=>by
  cases i with
  |o m=>exact hx.id (.o m) trivial ho
  |l m=>
   simp only[toOs]
   cases hp:posOf m js with
   |none=>exact⟨ho,rfl,rfl⟩
   |some p=>
    have hjp:=Q5i hp
    have hlt:p < js.length:=(List.getElem?_eq_some_iff.1 hjp).1
    refine⟨Nat.add_lt_add_left hlt _,?_,?_⟩
    ·show (if C.no+p < C.no then _ else _)=_
     rw[if_neg (by omega),Nat.add_sub_cancel_left,hjp];rfl
    ·show (if C.no+p < C.no then _ else _)=_
     rw[if_neg (by omega),Nat.add_sub_cancel_left,hjp];rfl⟩
 have hok:∀i0 y,σ.get i0=some y->C.ok i0:=fun i0 y hy=>(hi.obj i0 y hy).1
 refine⟨C2,C.no,hnone,⟨Stp.refl _ _,hx.weaken (fun _ _=>trivial),Nat.le_add_right _ _,NewP.refl _ _⟩,fun σ' hcn hco=>?_,fun y u hr=>RF.bus hb y u (FV.ids_true y) hr⟩
 refine⟨hi.base,by rw[hcn];exact hi.next,fun g cs hm=>(hi.glob g cs hm).ext hx,hi.prot,fun i x hxx=>?_,fun i1 i2 x1 x2 g h1 h2 h3 h4=>?_⟩
 ·obtain⟨i0,y,hy,rfl,rfl⟩:=hco i x hxx
  obtain⟨k1,k2⟩:=hi.obj i0 y hy
  exact⟨(hb.id i0 trivial k1).1,ObjOk.bus hb (AObj.ids_all y) trivial k1 (fun _ h=>h) k2⟩
 ·obtain⟨a,y,hy,rfl,rfl⟩:=hco i1 x1 h1
  obtain⟨b,z,hz,rfl,rfl⟩:=hco i2 x2 h2
  rw[AObj.block_bus hb trivial (hok a y hy)]at h3
  rw[AObj.block_bus hb trivial (hok b z hz)]at h4
  rw[hi.inj a b y z g hy hz h3 h4]
end Go.Abs
namespace Go.Abs
def earlyB (l:List Oper)(S:List Nat)(D:List (Nat×Nat)):Bool:=D.all fun p=>!(inS S p.1)&&(match S[p.2]? with|some s=>(match l[s]? with|some o=>o.after.any (fun e=>Region.binds .any e&&Nat.beq e.on p.1)|none=>false)|none=>false) &&
 (match l[p.1]? with|some o=>o.after.toList.all (fun e=>!Region.binds .any e||!(inS (S++D.map (·.1)) e.on))|none=>false)
def fD (S:List Nat)(D:List (Nat×Nat))(vs0 vs:List FV)(B:Nat->Bool):Nat->Option FV:=fun j=>bif inS S j then fC S vs j else bif inS (D.map (·.1)) j&&B j then vs0[j]? else none
theorem Q4n(S T:List Nat)(j:Nat):inS (S++T) j=(inS S j||inS T j):=by simp[inS]
theorem Q6z{S:List Nat}{j:Nat}:inS S j=true↔j∈S:=by
 constructor
 ·intro h
  obtain⟨s,hs,he⟩:=List.any_eq_true.1 h
  obtain rfl:s=j:=Nat.eq_of_beq_eq_true he
  exact hs
 ·intro h;exact List.any_eq_true.2 ⟨j,h,by simp⟩
section
variable {E:Env}{l:List Oper}{K:Cont}{frb:Fr}
theorem AAny.drawC3{fr:Fr}{σ0:St}{hd tl:List Oper}{vs0:List FV}(hT:TabOk E.P E.T)(n:Nat)(S:List Nat)(D:List (Nat×Nat))(cs:List (Nat×FV))(G:List FV->St->Prop)(hm:E.P.follows .mixedOrders=true)(hB:drawB l n=true)(hsp:Q1x n l=some (hd,tl))(hfb:Fr.woO (dsts hd) fr=some frb)
  (hn:S.Nodup) (hch:chainB l S=true) (hqb:Q52 l (S++D.map (·.1)) n=true) (hea:earlyB l S D=true) (h0:G [] σ0)
  (hrun:∀vs σ,G vs σ->Q0f E l.toArray l frb σ (S.map (fun i=>(i,FV.bot))++cs) 0 hd []=some vs0) (hcs:∀vs σ,G vs σ->∀i v,lookC i cs=some v->inS (D.map (·.1)) i=false->∃o,l[i]?=some o/\HStep E l.toArray o (depFr l vs0 o++frb) σ σ v)
  (hD : ∀ vs σ, G vs σ -> ∀ p ∈ D, vs.length <= p.2 -> ∃ o v, l[p.1]? = some o /\ vs0[p.1]? = some v /\ dstOk E.N o.dst = true /\ HStep E l.toArray o (depFr l vs0 o ++ frb) σ σ v) (hSl : ∀ i ∈ S ++ D.map (·.1), i < n)
  (hs : ∀ vs σ, G vs σ -> ∀ i o, S[vs.length]? = some i -> l[i]? = some o -> dstOk E.N o.dst = true /\ Q2h E l.toArray o (Q0c l (mixV S vs0 (fC S vs)) o ++ frb) σ (fun v σ' => G (vs ++ [v]) σ') (fun ps σ' => K (.panic ps) frb σ'))
  (htail : ∀ vs σ, vs.length = S.length -> G vs σ -> AOps E l.toArray tl K (Q0e (mixV S vs0 (fC S vs)) 0 hd ++ frb) σ) : AAny E l K fr σ0 := by
 have hnl:n < l.length:=by
  have:=hB
  simp only[drawB,Bool.and_eq_true,decide_eq_true_eq]at this
  exact this.1.1.1.1.1
 have hlast:∀k o,l[k]?=some o->k < n->o.after.all (fun e=>!Region.binds .any e||decide (e.on < k))=true:=fun k o hk hkn=>by
  have hB2:=hB
  simp only[drawB,Bool.and_eq_true,decide_eq_true_eq]at hB2
  exact List.all_eq_true.1 hB2.2 (o,k) (by
   rw[List.mem_zipIdx_iff_getElem?,List.getElem?_take_of_lt hkn]
   simpa using hk)
 have depEq:∀(o:Oper) (v1 v2:Nat->Option FV),(∀e∈o.after.toList,Region.binds .any e=true->v1 e.on=v2 e.on)->Q0c l v1 o=Q0c l v2 o:=fun o v1 v2 h=>by
  unfold Q0c
  refine Q0p fun e he=>?_
  cases hb:Region.binds .any e with
  |false=>rfl
  |true=>simp only[cond_true];rw[h e he hb]
 have hDp:∀p∈D,inS S p.1=false/\(∃s o,S[p.2]?=some s/\l[s]?=some o/\∃e∈o.after.toList,Region.binds .any e=true/\e.on=p.1)/\∀o,l[p.1]?=some o->(o.after.toList.all fun e=>!Region.binds .any e||!(inS (S++D.map (·.1)) e.on))=true:=fun p hp=>by
  have h1:=List.all_eq_true.1 hea p hp
  simp only[Bool.and_eq_true,Bool.not_eq_true']at h1
  obtain⟨⟨h2,h3⟩,h4⟩:=h1
  refine⟨h2,?_,fun o ho=>?_⟩
  ·cases hs':S[p.2]? with
   |none=>rw[hs']at h3;cases h3
   |some s=>
    rw[hs']at h3
    cases ho:l[s]? with
    |none=>simp only[ho]at h3;cases h3
    |some o=>
     simp only[ho]at h3
     rw[←Array.any_toList]at h3
     obtain⟨e,he,hb⟩:=List.any_eq_true.1 h3
     simp only[Bool.and_eq_true]at hb
     exact⟨s,o,rfl,ho,e,he,hb.1,Nat.eq_of_beq_eq_true hb.2⟩
  ·rw[ho]at h4;exact h4
 obtain⟨hsp1,hsp2⟩:=Q1n hsp
 refine AAny.drawS2 n (S++D.map (·.1)) vs0 (fun f σ=>∃vs B,vs.length<=S.length/\f=fD S D vs0 vs B/\G vs σ/\∀p∈D,p.2 < vs.length->B p.1=true) hm hB hsp hfb
  ⟨[], fun _ => false, by simp, by funext j; simp only [fD, Bool.and_false, cond_false]; cases S <;> (cases inS _ j <;> rfl), h0, fun p hp h => by simp at h⟩ (fun f σ ⟨vs, B, _, hf, _⟩ i hi => ?_) ?_ ?_ ?_
 ·have hi:inS (S++D.map (·.1)) i=false:=hi
  rw[Q4n,Bool.or_eq_false_iff]at hi
  rw[hf,fD,hi.1,hi.2];rfl
 ·intro i o hi hS hlo
  have hS':inS (S++D.map (·.1)) i=false:=hS
  rw[Q4n,Bool.or_eq_false_iff]at hS'
  have hio:hd[i]?=some o:=by rw[←hsp1,List.getElem?_take_of_lt hi];exact hlo
  have key:∀vs σ,G vs σ->∃v,vs0[i]?=some v/\dstOk E.N o.dst=true/\HStep E l.toArray o (depFr l vs0 o++frb) σ σ v:=fun vs σ hG=>by
   obtain⟨v,h1,h3,h4⟩:=Q2x (vs:=vs0) hT hlast hd 0 [] vs0 rfl (fun i o hi=>by
    have hi2:i < n:=by
     have:=(List.getElem?_eq_some_iff.1 hi).1
     rw[←hsp1]at this;simp at this;omega
    rw[←hsp1,List.getElem?_take_of_lt hi2]at hi
    exact⟨by simpa using hi,by omega⟩) (hrun vs σ hG) (List.nil_append _) i o hio
   rw [Nat.zero_add] at h4
   refine⟨v,h1,h3,?_⟩
   rcases h4 with h4|h4
   ·have hl:lookC i cs=some v:=by
     have:∀{S:List Nat},(S.any fun k=>Nat.beq k i)=false->lookC i (S.map (fun i=>(i,FV.bot))++cs)=lookC i cs:=fun {S} hS=>by
      induction S with
      |nil=>rfl
      |cons s S ih=>
       simp only[List.any_cons,Bool.or_eq_false_iff]at hS
       simp only[List.map_cons,List.cons_append,lookC,hS.1,cond_false]
       exact ih hS.2
     rw[this hS'.1]at h4;exact h4
    obtain⟨o',ho',hst⟩:=hcs vs σ hG i v hl hS'.2
    rw[hlo]at ho'
    cases ho'
    exact hst
   ·exact h4.2
  have hq:(o.after.toList.all fun e=>!Region.binds .any e||!((S++D.map (·.1)).any fun k=>Nat.beq k e.on))=true:=by
   have h1:=List.all_eq_true.1 hqb (o,i) (by
    rw[List.mem_zipIdx_iff_getElem?,List.getElem?_take_of_lt hi]
    simpa using hlo)
   have h2:inS (S++D.map (·.1)) i=false:=hS
   simp only[h2,Bool.false_or]at h1
   exact h1
  obtain⟨v,h1,h3,_⟩:=key [] σ0 h0
  refine⟨v,h1,h3,hq,fun f σ ⟨vs,B,_,_,hG,_⟩=>?_⟩
  obtain⟨v',h1',_,h4⟩:=key vs σ hG
  rw[h1]at h1'
  cases h1'
  exact h4
 ·rintro f σ i o ⟨vs,B,hlen,rfl,hG,hBv⟩ hS hlo hfi hdep
  have hdB:∀e∈o.after.toList,Region.binds .any e=true->inS S e.on=false->inS (D.map (·.1)) e.on=true->B e.on=true:=fun e he hb h1 h2=>by
   have h3:=hdep e he hb (by show inS _ _=true;rw[Q4n,h1,h2];rfl)
   simp only[fD,h1,h2,cond_false,Bool.true_and]at h3
   cases hBe:B e.on with
   |true=>rfl
   |false=>rw[hBe]at h3;cases h3
  cases hiS:inS S i with
  |true=>
   obtain⟨s,hsS,he⟩:=List.any_eq_true.1 hiS
   obtain rfl:s=i:=Nat.eq_of_beq_eq_true he
   have hfi':fC S vs s=none:=by simpa[fD,hiS]using hfi
   obtain⟨p,hp⟩:=List.mem_iff_getElem?.1 hsS
   have hpS:=(List.getElem?_eq_some_iff.1 hp).1
   have hpv:p=vs.length:=by
    rcases Nat.lt_trichotomy p vs.length with h1|h1|h1
    ·rw[Q79 hn hp h1]at hfi'
     have:=(List.getElem?_eq_none_iff.1 hfi');omega
    ·exact h1
    ·exfalso
     obtain⟨q,rfl⟩:∃q,p=q+1:=⟨p - 1,by omega⟩
     obtain⟨i0,hi0⟩:∃i0,S[q]?=some i0:=⟨S[q],List.getElem?_eq_getElem (by omega)⟩
     obtain⟨e,he,hb,heo⟩:=Q7d hch hi0 hp hlo
     have hin:inS S e.on=true:=by rw[heo];exact Q6z.2 (List.mem_of_getElem? hi0)
     have h2:=hdep e he hb (by show inS _ _=true;rw[Q4n,hin];rfl)
     simp only[fD,hin,cond_true]at h2
     rw[heo,Q89 hn hi0 (by omega)]at h2
     cases h2
   subst hpv
   obtain⟨k2,k3⟩:=hs vs σ hG s o hp hlo
   have hdf:Q0c l (mixV (S++D.map (·.1)) vs0 (fD S D vs0 vs B)) o=Q0c l (mixV S vs0 (fC S vs)) o:=depEq o _ _ fun e he hb=>by
    show (bif inS (S++D.map (·.1)) e.on then fD S D vs0 vs B e.on else vs0[e.on]?)=(bif inS S e.on then fC S vs e.on else vs0[e.on]?)
    rw[Q4n]
    cases h1:inS S e.on with
    |true=>simp[fD,h1]
    |false=>
     cases h2:inS (D.map (·.1)) e.on with
     |true=>simp[fD,h1,h2,hdB e he hb h1 h2]
     |false=>rfl
   rw[hdf]
   refine⟨k2,k3.mono fun v σ' hG'=>⟨vs++[v],B,by simp;omega,?_,hG',fun q hq hql=>?_⟩⟩
   ·funext j
    have hup:=congrFun (fC_upd (vs:=vs) (v:=v) hn hp) j
    by_cases e:s=j
    ·subst e
     simp only[updV,if_true]at hup ⊢
     simp only[fD,hiS,cond_true];exact hup
    ·simp only[updV,if_neg e]at hup ⊢
     simp only[fD,hup]
   ·simp only[List.length_append,List.length_singleton]at hql
    rcases Nat.lt_or_ge q.2 vs.length with h|h
    ·exact hBv q hq h
    ·obtain⟨d1,⟨s2,o2,d2,d3,e,d4,d5,d6⟩,_⟩:=hDp q hq
     rw[show q.2=vs.length by omega]at d2
     rw[hp]at d2;cases d2
     rw[hlo]at d3;cases d3
     have:=hdB e d4 d5 (by rw[d6];exact d1) (by rw[d6];exact Q6z.2 (List.mem_map.2 ⟨q,hq,rfl⟩))
     rw[d6]at this;exact this
  |false=>
   have hS2:inS (S++D.map (·.1)) i=true:=hS
   rw[Q4n,hiS,Bool.false_or]at hS2
   obtain⟨q,hq,hqi⟩:=List.mem_map.1 (Q6z.1 hS2)
   subst hqi
   obtain⟨d1,_,d3⟩:=hDp q hq
   have hBi:B q.1=false:=by
    cases hBe:B q.1 with
    |false=>rfl
    |true=>
     exfalso
     have hvl:vs.length<=q.2∨q.2 < vs.length:=by omega
     obtain⟨o2,v2,h1,h2,_⟩:∃o v,l[q.1]?=some o/\vs0[q.1]?=some v/\True:=by
      obtain⟨o2,v2,h1,h2,_⟩:=hD [] σ0 h0 q hq (Nat.zero_le _)
      exact⟨o2,v2,h1,h2,trivial⟩
     simp[fD,hiS,hS2,hBe,h2]at hfi
   have hle:vs.length<=q.2:=by
    rcases Nat.lt_or_ge q.2 vs.length with h|h
    ·rw[hBv q hq h]at hBi;cases hBi
    ·exact h
   obtain⟨o2,v,e1,e2,e3,e4⟩:=hD vs σ hG q hq hle
   rw[hlo]at e1;cases e1
   have hdd:Q0c l (mixV (S++D.map (·.1)) vs0 (fD S D vs0 vs B)) o=depFr l vs0 o:=by
    unfold Q0c depFr
    refine Q0p fun e he=>?_
    cases hb:Region.binds .any e with
    |false=>rfl
    |true=>
     have h1:=List.all_eq_true.1 (d3 o hlo) e he
     rw[hb]at h1
     simp only[Bool.not_true,Bool.false_or,Bool.not_eq_true']at h1
     have h2:((S++D.map (·.1)).any fun k=>Nat.beq k e.on)=false:=h1
     simp only[cond_true,mixV,h2,cond_false]
     rfl
   rw[hdd]
   refine⟨e3,.inl (.inl ⟨v,σ,e4,vs,fun j=>Nat.beq q.1 j||B j,hlen,?_,hG,fun p hp hpl=>by show (_||B p.1)=true;rw[hBv p hp hpl,Bool.or_true]⟩)⟩
   funext j
   by_cases e:q.1=j
   ·subst e
    simp[updV,fD,hiS,hS2,e2]
   ·simp only[updV,if_neg e,fD,Q08 e,Bool.false_or]
 ·rintro f σ ⟨vs,B,hlen,rfl,hG,hBv⟩ hall
  have hvl:vs.length=S.length:=by
   rcases Nat.lt_or_ge vs.length S.length with h1|h1
   ·exfalso
    obtain⟨i0,hi0⟩:∃i0,S[vs.length]?=some i0:=⟨S[vs.length],List.getElem?_eq_getElem h1⟩
    have hm:=List.mem_of_getElem? hi0
    have:=hall i0 (List.mem_append.2 (.inl hm)) (hSl i0 (List.mem_append.2 (.inl hm)))
    simp only[fD,Q6z.2 hm,cond_true]at this
    rw[Q89 hn hi0 (Nat.le_refl _)]at this
    cases this
   ·omega
  have heq:mixV (S++D.map (·.1)) vs0 (fD S D vs0 vs B)=mixV S vs0 (fC S vs):=by
   funext j
   show (bif inS (S++D.map (·.1)) j then fD S D vs0 vs B j else vs0[j]?)=(bif inS S j then fC S vs j else vs0[j]?)
   rw[Q4n]
   cases h1:inS S j with
   |true=>simp[fD,h1]
   |false=>
    cases h2:inS (D.map (·.1)) j with
    |true=>
     have hm:=Q6z.1 h2
     have h3:=hall j (List.mem_append.2 (.inr hm)) (hSl j (List.mem_append.2 (.inr hm)))
     simp only[fD,h1,h2,cond_false,Bool.true_and]at h3
     cases hBe:B j with
     |true=>simp[fD,h1,h2,hBe]
     |false=>rw[hBe]at h3;cases h3
    |false=>rfl
  rw[heq]
  exact htail vs σ hvl hG
end
theorem ACode.drawC3{E:Env}{l:List Oper}{K:Cont}{frb:Fr}{id:Nat}{fr:Fr}{σ0:St}{hd tl:List Oper}{vs0:List FV}(hT:TabOk E.P E.T)(n:Nat)(S:List Nat)(D:List (Nat×Nat))(cs:List (Nat×FV))(G:List FV->St->Prop)(hm:E.P.follows .mixedOrders=true)(hB:drawB l n=true)(hsp:Q1x n l=some (hd,tl))(hfb:Fr.woO (dsts hd) fr=some frb)
  (hn:S.Nodup) (hch:chainB l S=true) (hqb:Q52 l (S++D.map (·.1)) n=true) (hea:earlyB l S D=true) (h0:G [] σ0) (hrun0:Q0f E l.toArray l frb σ0 (S.map (fun i=>(i,FV.bot))++cs) 0 hd []=some vs0)
  (hrun:∀vs σ,G vs σ->Q0f E l.toArray l frb σ (S.map (fun i=>(i,FV.bot))++cs) 0 hd []=some vs0) (hcs:∀vs σ,G vs σ->∀i v,lookC i cs=some v->inS (D.map (·.1)) i=false->∃o,l[i]?=some o/\HStep E l.toArray o (depFr l vs0 o++frb) σ σ v)
  (hD:∀vs σ,G vs σ->∀p∈D,vs.length<=p.2->∃o v,l[p.1]?=some o/\vs0[p.1]?=some v/\dstOk E.N o.dst=true/\HStep E l.toArray o (depFr l vs0 o++frb) σ σ v) (hSl:∀i∈S++D.map (·.1),i < n)
  (hs:∀vs σ,G vs σ->∀i o,S[vs.length]?=some i->l[i]?=some o->dstOk E.N o.dst=true/\Q2h E l.toArray o (Q0c l (mixV S vs0 (fC S vs)) o++frb) σ (fun v σ'=>G (vs++[v]) σ') (fun ps σ'=>K (.panic ps) frb σ'))
  (htail:∀vs σ,vs.length=S.length->G vs σ->AOps E l.toArray tl K (Q0e (mixV S vs0 (fC S vs)) 0 hd++frb) σ):ACode E (.region id l.toArray true) K fr σ0:=AAny.code hm (AAny.drawC3 hT n S D cs G hm hB hsp hfb hn hch hqb hea h0 hrun hcs hD hSl hs htail)
end Go.Abs
namespace Go.Abs
theorem frOk_in{w:World}{C:Ctx}{args:List FV}{cargs:List Value}{N:Nat}(hr:RFs w C args cargs)(hlen:args.length<=N):FrOk w C N (argFr 0 args) (cargs.toArray++Array.replicate (N - cargs.toArray.size) undef):=by
 have hcl:cargs.length=args.length:=by
  have:∀(vs:List FV) (xs:List Value),RFs w C vs xs->xs.length=vs.length:=by
   intro vs
   induction vs with
   |nil=>intro xs h;simp only[RFs]at h;simp[h]
   |cons v vs ih=>intro xs h;simp only[RFs]at h;obtain⟨u,us,rfl,_,h2⟩:=h;simp[ih us h2]
  exact this _ _ hr
 refine⟨by simp;omega,fun k x hk=>?_⟩
 obtain⟨_,h2⟩:=Q41 args 0 k x hk
 simp only[Nat.sub_zero]at h2
 obtain⟨u,hu,hru⟩:=RFs.get hr h2
 refine⟨u,?_,hru⟩
 have hlt:k < cargs.length:=(List.getElem?_eq_some_iff.1 hu).1
 rw[Array.getElem?_append_left (by simpa using hlt)]
 simpa using hu
def Caught (P:Program)(T:Tab)(Γ:List (Nat×List AC))(fn:Func)(gd:Nat)(first caps:List AC)(Q:FV->Outer->Prop)(ps:List PanicEntry)(fr:Fr)(σ:St):Prop:=
 ∀(F:Nat->Prop) (w:World) (C:Ctx) (tmps:Array Value) (xs ys:List Value),Inv Γ F w C σ->FrOk w C fn.ntmps fr tmps->RV w C first xs->RV w C caps ys->CallsD P gd (xs++ys).toArray (.panicking ps) w fun e m' w'=>(∃v,e=.returned v)/\settle m'=.returning/\
  ∃C' fr' σ',Goes F isO w C w' C'/\Inv Γ F w' C' σ'/\FrOk w' C' fn.ntmps fr' tmps/\∀ds,Fin ⟨P,T,Γ,fn.ntmps,ds⟩ fn Q fr' σ'
theorem AFn.ofDeferP{P:Program}{T:Tab}{Γ:List (Nat×List AC)}{g gd i1 i2 d5 d6 d7 d8 gc:Nat}{fn:Func}{r0 c2 rest:Code}{o0 o1 p0 p1 p2:Oper}{args:List FV}{ou:Outer}{Q:FV->Outer->Prop}{fr1:Fr}{σ1:St}{first caps:List AC}{v0:FV}{us:List FV}{Q1:FV->Outer->Prop}{QP1:List PanicEntry->Outer->Prop}{tys:Array TypeId}{pargs:Array Operand}
  (hT : TabOk P T) (hΓ : ∀ g cs, (g, cs) ∈ Γ -> idsL isO cs) (hf : P.funcs[g]? = some fn) (hb : fn.body = some (.seq r0 (.seq (.region i1 #[o0, o1] false) (.seq (.seq (.region i2 #[p0, p1, p2] false) c2) rest)))) (hname : (fn.name == "runtime.NumGoroutine") = false)
  (hlen : args.length <= fn.ntmps) (h0 : OuOk ou -> ACode ⟨P, T, Γ, fn.ntmps, []⟩ r0 (fun e fr σ => e = .normal /\ fr = fr1 /\ σ = σ1) (argFr 0 args) ⟨0, [], ou⟩)
  (hg0 : o0.guard = none) (hd0 : o0.dst = some d5) (hdl : d5 < fn.ntmps) (hs0 : AStep ⟨P, T, Γ, fn.ntmps, []⟩ o0 fr1 σ1 (.one (.fn (.func gd) first caps)) σ1)
  (hg1 : o1.guard = none) (hd1 : o1.dst = none) (ho1 : o1.op = .defer { callee := .value (.tmp d5), args := #[], argTypes := #[] })
  (kg0 : p0.guard = none) (kd0 : p0.dst = some d6) (kl0 : d6 < fn.ntmps) (ks0 : ∀ ds, AStep ⟨P, T, Γ, fn.ntmps, ds⟩ p0 ((d5, .one (.fn (.func gd) first caps)) :: fr1) σ1 v0 σ1)
  (kg1 : p1.guard = none) (kd1 : p1.dst = some d7) (kl1 : d7 < fn.ntmps) {gop : Operand} (ko1 : p1.op = .call { callee := .value gop, args := pargs, argTypes := tys })
  (kf1 : aEval Γ ((d6, v0) :: (d5, .one (.fn (.func gd) first caps)) :: fr1) gop = some (.one (.fn (.func gc) [] []))) (ka1 : Q16 Γ ((d6, v0) :: (d5, .one (.fn (.func gd) first caps)) :: fr1) pargs.toList = some us) (ki1 : idsF isO us) (hou1 : OuOk ou -> OuOk σ1.ou)
  (kc1 : AFnP P Γ gc us σ1.ou Q1 QP1)
  (kg2 : p2.guard = none) (kd2 : p2.dst = some d8) (kl2 : d8 < fn.ntmps)
  (hnext : OuOk ou -> ∀ r ou', Q1 r ou' -> r.ids isO -> OuOk ou' -> ∃ v2, ∀ ds, AStep ⟨P, T, Γ, fn.ntmps, ds⟩ p2 ((d7, r) :: (d6, v0) :: (d5, .one (.fn (.func gd) first caps)) :: fr1) { σ1 with ou := ou' } v2 { σ1 with ou := ou' } /\
   ACode ⟨P,T,Γ,fn.ntmps,ds⟩ c2 (Q02 ⟨P,T,Γ,fn.ntmps,ds⟩ (Fin ⟨P,T,Γ,fn.ntmps,ds⟩ fn Q) [.code rest]) ((d8,v2)::(d7,r)::(d6,v0)::(d5,.one (.fn (.func gd) first caps))::fr1) { σ1 with ou:=ou' })
  (hdef:∀(us:Array Value) (w:World),(callFunc gd us).run P w=.ok (.enter gd us) w/\(us.size=first.length+caps.length->CallsD P gd us .returning w fun e u' w'=>(∃v,e=.returned v)/\u'=.returning/\w'=w))
  (hcatch:OuOk ou->∀ps ou',QP1 ps ou'->OuOk ou'->Caught P T Γ fn gd first caps Q ps ((d6,v0)::(d5,.one (.fn (.func gd) first caps))::fr1) { σ1 with ou:=ou' }):AFn P Γ g args ou Q:=by
 refine⟨fun vs0 w=>?_,fun F w C cargs h0' hi hr=>?_⟩
 ·simp[callFunc,hf,hb]
  simpa using hname
 ·refine calls_of_wp_defers hf hb ?_
  have hfr:=frOk_in hr hlen
  have hou:=OuOk.of_inv hi h0'
  refine wp_seq (wp_mono (h0 hou F w C w C _ (Goes.refl _ _ _ _) hi hfr) fun e a w1 hp=>?_)
  obtain⟨hda,fr',σ',C1,hg1',hi1,hf1,rfl,rfl,rfl⟩:=hp
  have ha:a=⟨a.tmps,[]⟩:=by cases a;simp_all
  rw[ha]
  refine wp_seq (wp_region_lit (l:=[o0,o1]) ?_)
  refine wpList_plain hg0 fun N' hN=>hs0 F w1 C1 a.tmps hi1 hf1 N' _ fun u w2 C2 hgo2 hi2 hr2=>?_
  refine hN _ _ ?_
  have hf2:FrOk w2 C2 fn.ntmps ((d5,.one (.fn (.func gd) first caps))::fr') (Act.put ⟨a.tmps,[]⟩ o0.dst u).tmps:=by
   have:=Q0v (ds:=[]) (dst:=some d5) (hf1.ext hgo2.chg) (by simp[dstOk,Nat.blt];omega) hr2
   rw[hd0];exact this
  rw[Q1g]
  generalize hat:(Act.put ⟨a.tmps,[]⟩ o0.dst u).tmps=tm2 at hf2
  refine wpList_plain hg1 fun N2 hN2=>?_
  obtain⟨u5,hu5,hr5⟩:=hf2.2 d5 (.one (.fn (.func gd) first caps)) (by simp[Fr.get])
  simp only[RF,R]at hr5
  obtain⟨xs,ys,rfl,hx,hy⟩:=hr5
  have hev:Act.eval ⟨tm2,[]⟩ (.tmp d5)=.func (.func gd) xs.toArray ys.toArray:=by
   simp[Act.eval,hu5]
  have hrun:(execOp (Act.eval ⟨tm2,[]⟩) o1).run P w2=.ok (.defer ⟨.fn (.func gd) ys.toArray,xs.toArray⟩) w2:=by
   unfold execOp
   simp only[ho1,resolve,Sem.run_bind,hev,Deferred.ofValue,Sem.run_pure,Result.andThen_ok]
   simp
  unfold Oper.wp
  rw[hrun,Oper.upon_defer]
  refine hN2 _ _ ?_
  rw[hd1]
  show Code.wp P _ _ ⟨tm2,[⟨.fn (.func gd) ys.toArray,xs.toArray⟩]⟩ w2
  obtain⟨D,hD⟩:∃D:List Deferred,D=[⟨.fn (.func gd) ys.toArray,xs.toArray⟩]:=⟨_,rfl⟩
  rw[←hD]
  -- the region with the call
  refine wp_seq (wp_seq (wp_region_lit (l:=[p0,p1,p2]) ?_))
  refine wpList_plain kg0 fun N3 hN3=>ks0 D F w2 C2 tm2 hi2 hf2 N3 _ fun u3 w3 C3 hgo3 hi3 hr3=>?_
  refine hN3 _ _ ?_
  have hf3:FrOk w3 C3 fn.ntmps ((d6,v0)::(d5,.one (.fn (.func gd) first caps))::fr') (Act.put ⟨tm2,D⟩ p0.dst u3).tmps:=by
   have:=Q0v (ds:=D) (dst:=some d6) (hf2.ext hgo3.chg) (by simp[dstOk,Nat.blt];omega) hr3
   rw[kd0];exact this
  rw[Q1g]
  generalize hat3:(Act.put ⟨tm2,D⟩ p0.dst u3).tmps=tm3 at hf3
  refine wpList_plain kg1 fun N4 hN4=>?_
  have hcallee:=Q00 (a:=⟨tm3,D⟩) hi3 hf3 kf1
  simp only[RF,R]at hcallee
  obtain⟨cx,cy,hfv,hcx,hcy⟩:=hcallee
  simp only[RV]at hcx hcy
  subst hcx;subst hcy
  have hvs:=Q14 (a:=⟨tm3,D⟩) hi3 hf3 ka1
  have hrun4:(execOp (Act.eval ⟨tm3,D⟩) p1).run P w3=.ok (.enter gc (pargs.toList.map (Act.eval ⟨tm3,D⟩)).toArray) w3:=by
   unfold execOp
   simp only[ko1,resolve,Sem.run_bind,hfv,Deferred.ofValue,Sem.run_pure,Result.andThen_ok,invoke,kc1.1]
   congr 2
   apply Array.ext'
   simp
  unfold Oper.wp
  rw[hrun4,Oper.upon_enter]
  have hc1:Chg isO w3 C3 w3 { C3 with nl:=0 }:=⟨fun _ _=>rfl,fun _ h=>h,fun i hp ho=>⟨by cases i with|l k=>cases hp|o k=>exact ho,rfl,rfl⟩⟩
  have hgAll:Goes F isO w C w3 C3:=(hg1'.trans hgo2.toO).trans hgo3.toO
  have hxs:xs.length=first.length:=RV.len hx
  have hys:ys.length=caps.length:=RV.len hy
  have fin:∀(a3:Act) (wz:World) (frz:Fr) (σz:St) (Cz:Ctx),a3.defers=D->Goes F isO w C wz Cz->Inv Γ F wz Cz σz->FrOk wz Cz fn.ntmps frz a3.tmps->Fin ⟨P,T,Γ,fn.ntmps,D⟩ fn Q frz σz->Leaves P fn a3.tmps (fun e w'=>∃v r ou' C',e=.returned v/\Goes F isO w C w' C'/\C'.nl=0/\Inv Γ F w' C' ⟨0,[],ou'⟩/\RF w' C' r v/\Q r ou') a3.defers .returning wz:=fun a3 wz frz σz Cz hd3 hgz hiz hfz hfin=>by
   obtain⟨v,hv,hR⟩:=Q9d hT h0' hi hgz hiz hfz hfin
   rw[hd3,hD]
   refine⟨by simp,.func gd,ys.toArray,gd,xs.toArray++ys.toArray,rfl,?_,((hdef _ wz).2 (by simp[hxs,hys])).mono ?_⟩
   ·show (invoke (.fn (.func gd) ys.toArray) xs.toArray).run P wz=_
    simp only[invoke]
    exact (hdef _ wz).1
   ·rintro e u' w' ⟨⟨v',rfl⟩,rfl,rfl⟩
    exact⟨v,hv,hR⟩
  refine (kc1.2 (Q1v w3 C3 σ'.ou) w3 { C3 with nl:=0 } _ rfl (hi3.forCallee (hou1 hou) hΓ) (RFs.chg hc1 _ _ ki1 hvs)).mono fun e w4 hh=>?_
  rcases hh with ⟨v,r,ou',C',rfl,hgo,h04,hi',hr4,hQ⟩|⟨ps,ou',C',rfl,hgo,h04,hi',hQ⟩
  ·obtain⟨hb1,hb2,hb3⟩:=hi3.back hgo h04 hi'
   refine hN4 _ _ ?_
   have hrid:r.ids isO:=FV.ids_mono (Q30 h04) r (RF.idsOk r v hr4)
   obtain⟨v2,hv2⟩:=hnext hou r ou' hQ hrid (OuOk.of_inv hi' h04)
   obtain⟨hst2,hrest⟩:=hv2 D
   have hf4:FrOk w4 (C3.behind C') fn.ntmps ((d7,r)::(d6,v0)::(d5,.one (.fn (.func gd) first caps))::fr') (Act.put ⟨tm3,D⟩ p1.dst v).tmps:=by
    have:=Q0v (ds:=D) (dst:=some d7) (hf3.ext hb1.chg) (by simp[dstOk,Nat.blt];omega) (RF.chg hb3 r v hrid hr4)
    rw[kd1];exact this
   rw[Q1g]
   generalize hat4:(Act.put ⟨tm3,D⟩ p1.dst v).tmps=tm4 at hf4
   refine wpList_plain kg2 fun N5 hN5=>hst2 F w4 _ tm4 hb2 hf4 N5 _ fun u5 w5 C5 hgo5 hi5 hr5=>?_
   refine hN5 _ _ ?_
   have hf5:FrOk w5 C5 fn.ntmps ((d8,v2)::(d7,r)::(d6,v0)::(d5,.one (.fn (.func gd) first caps))::fr') (Act.put ⟨tm4,D⟩ p2.dst u5).tmps:=by
    have:=Q0v (ds:=D) (dst:=some d8) (hf4.ext hgo5.chg) (by simp[dstOk,Nat.blt];omega) hr5
    rw[kd2];exact this
   rw[Q1g]
   generalize hat5:(Act.put ⟨tm4,D⟩ p2.dst u5).tmps=tm5 at hf5
   show c2.wp P _ ⟨tm5,D⟩ w5
   refine wp_mono (hrest F w C w5 C5 tm5 ((hgAll.trans hb1.toO).trans hgo5.toO) hi5 hf5) fun e a3 w6 hp=>?_
   obtain⟨hd3,fr3,σ3,C6,hg6,hi6,hf6,hk⟩:=hp
   cases e with
   |normal=>
    have hk:ACode ⟨P,T,Γ,fn.ntmps,D⟩ rest (Q02 ⟨P,T,Γ,fn.ntmps,D⟩ (Fin ⟨P,T,Γ,fn.ntmps,D⟩ fn Q) []) fr3 σ3:=hk
    have ha3:a3=⟨a3.tmps,D⟩:=by
     obtain⟨t3,d3⟩:=a3
     have h:d3=D:=hd3
     rw[h]
    show rest.wp P _ a3 w6
    rw[ha3]
    refine wp_mono (hk F w C w6 C6 a3.tmps hg6 hi6 hf6) fun e a4 w7 hp=>?_
    obtain⟨hd4,fr4,σ4,C7,hg7,hi7,hf7,hk7⟩:=hp
    cases e with
    |normal=>exact fin a4 w7 fr4 σ4 C7 hd4 hg7 hi7 hf7 hk7
    |ret=>exact fin a4 w7 fr4 σ4 C7 hd4 hg7 hi7 hf7 hk7
    |panic ps=>exact hk7.elim
    |exit id=>exact hk7.elim
    |goto l=>exact hk7.elim
    |outgrown=>exact hk7.elim
   |ret=>exact fin a3 w6 fr3 σ3 C6 hd3 hg6 hi6 hf6 hk
   |panic ps=>exact hk.elim
   |exit id=>exact hk.elim
   |goto l=>exact hk.elim
   |outgrown=>exact hk.elim
  ·obtain⟨hb1,hb2,hb3⟩:=hi3.back hgo h04 hi'
   show Leaves P fn tm3 _ D (.panicking ps) w4
   have hx4:RV w4 (C3.behind C') first xs:=(hx.ext hgo3.chg).ext hb1.chg
   have hy4:RV w4 (C3.behind C') caps ys:=(hy.ext hgo3.chg).ext hb1.chg
   have hcd:=hcatch hou ps ou' hQ (OuOk.of_inv hi' h04) F w4 (C3.behind C') tm3 xs ys hb2 (hf3.ext hb1.chg) hx4 hy4
   rw[hD]
   refine⟨by simp,.func gd,ys.toArray,gd,xs.toArray++ys.toArray,rfl,?_,?_⟩
   ·show (invoke (.fn (.func gd) ys.toArray) xs.toArray).run P w4=_
    simp only[invoke]
    exact (hdef _ w4).1
   ·rw[show xs.toArray++ys.toArray=(xs++ys).toArray by simp]
    refine hcd.mono ?_
    rintro e m' w' ⟨⟨v',rfl⟩,hm,C7,fr7,σ7,k1,k2,k3,k4⟩
    obtain⟨v,hv,hR⟩:=Q9d (ds:=D) hT h0' hi ((hgAll.trans hb1.toO).trans k1) k2 k3 (k4 D)
    show Leaves P fn tm3 _ [] (settle m') w'
    rw[hm]
    exact⟨v,hv,hR⟩
end Go.Abs
