/- The abstract layer, part O: to say less of a value. No condition. -/
import Derived.Test.YthboaankaaeemaaDoorC2
import Derived.MapKept
import Derived.Laws.NewFold
import Derived.Laws.IdiomRangeMap
import Derived.Laws.Entries
import Derived.ChangeArms
import Derived.Carry
import Derived.Scope
import Derived.ProofKit
import Derived.OpenShut
import Derived.Deep.DeepHandedRow
import Derived.JoinedCond
set_option maxRecDepth 10000
set_option linter.unusedVariables false
set_option linter.unusedSimpArgs false
namespace Go.Abs

def Wk (x y:AC):Prop:=∀(w:World)(C:Ctx)(v:Value),R w C x v->R w C y v
def WkL (x y:List AC):Prop:=∀(w:World)(C:Ctx)(v:List Value),RV w C x v->RV w C y v
theorem Wk.refl(x:AC):Wk x x:=fun _ _ _ h=>h
theorem Wk.trans{x y z:AC}(h:Wk x y)(k:Wk y z):Wk x z:=fun w C v r=>k w C v (h w C v r)
theorem WkF.trans{x y z:FV}(h:WkF x y)(k:WkF y z):WkF x z:=fun w C v r=>k w C v (h w C v r)
theorem WkL.refl(x:List AC):WkL x x:=fun _ _ _ h=>h
theorem WkL.cons{x y:AC}{xs ys:List AC}(h:Wk x y)(k:WkL xs ys):WkL (x::xs) (y::ys):=by
 intro w C v hr
 simp only[RV]at *
 obtain⟨u,us,rfl,h1,h2⟩:=hr
 exact⟨u,us,rfl,h w C u h1,k w C us h2⟩
theorem WkL.nil:WkL [] []:=WkL.refl []
theorem WkF.one{x y:AC}(h:Wk x y):WkF (.one x) (.one y):=fun w C v hr=>h w C v hr
theorem WkF.agg{x y:List AC}(h:WkL x y):WkF (.agg x) (.agg y):=by
 intro w C v hr
 obtain⟨xs,rfl,h2⟩:=hr
 exact⟨xs,rfl,h w C xs h2⟩
def WkFs (x y:List FV):Prop:=∀(w:World)(C:Ctx)(v:List Value),RFs w C x v->RFs w C y v
theorem WkFs.nil:WkFs [] []:=fun _ _ _ h=>h
theorem WkFs.cons{x y:FV}{xs ys:List FV}(h:WkF x y)(k:WkFs xs ys):WkFs (x::xs) (y::ys):=by
 intro w C v hr
 simp only[RFs]at *
 obtain⟨u,us,rfl,h1,h2⟩:=hr
 exact⟨u,us,rfl,h w C u h1,k w C us h2⟩
theorem WkF.tup{x y:List FV}(h:WkFs x y):WkF (.tup x) (.tup y):=by
 intro w C v hr
 obtain⟨xs,rfl,h2⟩:=hr
 exact⟨xs,rfl,h w C xs h2⟩
theorem Wk.gs(s:Nat)(es:List (List AC))(i:Id):Wk (.gs s es i) (.sl s es):=by
 intro w C v hr
 simp only[R]at *
 obtain⟨_,⟨rfl,rfl,_⟩|⟨g,cap,rfl,h1,_,h2⟩⟩:=hr
 ·exact⟨none,0,rfl,by simp,by simp⟩
 ·exact⟨_,cap,rfl,h1,.inr ⟨_,rfl,rfl,h2⟩⟩
theorem Wk.gsE{s:Nat}{es es':List (List AC)}{i:Id}(h:es=es'):Wk (.gs s es i) (.sl s es'):=by subst h;exact Wk.gs s es i
theorem Wk.nilS(s:Nat):Wk (.lit (.slice none 0 0)) (.sl s []):=by
 intro w C v hr
 simp only[R]at *
 rw[hr.1]
 exact⟨none,0,rfl,by simp,by simp⟩
theorem Wk.any(x:AC):Wk x .any:=fun _ _ _ h=>R.one h
theorem FrOk.wk{w:World}{C:Ctx}{N:Nat}{fr:Fr}{tmps:Array Value}{k:Nat}{x y:FV}(hf:FrOk w C N fr tmps)(hx:Fr.get k fr=some x)(hw:WkF x y):FrOk w C N ((k,y)::fr) tmps:=by
 refine⟨hf.1,fun j z hz=>?_⟩
 simp only[Fr.get]at hz
 by_cases e:k=j
 ·subst e
  simp at hz
  subst hz
  obtain⟨u,hu,hr⟩:=hf.2 k x hx
  exact⟨u,hu,hw _ _ _ hr⟩
 ·rw[Q09 e]at hz
  exact hf.2 j z hz
theorem AOps.wk{E:Env}{ops:Array Oper}{l:List Oper}{K:Cont}{fr:Fr}{σ:St}(k:Nat){x y:FV}(hx:Fr.get k fr=some x)(hw:WkF x y)(h:AOps E ops l K ((k,y)::fr) σ):AOps E ops l K fr σ:=
 fun F w0 C0 w C tmps hg hi hf=>h F w0 C0 w C tmps hg hi (hf.wk hx hw)
def Fr.wo (ds:List Nat):Fr->Fr
 |[]=>[]
 |(k,x)::r=>bif ds.any (fun d=>Nat.beq d k)then Fr.wo ds r else (k,x)::Fr.wo ds r
theorem Fr.wo_get{ds:List Nat}{k:Nat}:∀{fr:Fr}{x:FV},Fr.get k (Fr.wo ds fr)=some x->Fr.get k fr=some x/\k∉ds
 | [], x, h => by cases h
 | (j, y) :: r, x, h => by
  simp only[Fr.wo]at h
  cases hb:ds.any (fun d=>Nat.beq d j) with
  |true=>
   rw[hb]at h
   simp only[cond_true]at h
   obtain⟨h1,h2⟩:=Fr.wo_get h
   have hne:j≠k:=by
    rintro rfl
    obtain⟨d,hd,he⟩:=List.any_eq_true.1 hb
    exact h2 (Nat.eq_of_beq_eq_true he▸hd)
   exact⟨by simp only[Fr.get,Q09 hne,cond_false];exact h1,h2⟩
  |false=>
   rw[hb]at h
   simp only[cond_false,Fr.get]at h ⊢
   by_cases e:j=k
   ·subst e
    simp only[Q3h,cond_true]at h ⊢
    exact⟨h,fun hd=>by
     have:=List.any_eq_false.1 hb j hd
     simp at this⟩
   ·rw[Q09 e]at h ⊢
    exact Fr.wo_get h
theorem Fr.wo_none(ds:List Nat)(fr:Fr):ds.all (fun d=>(Fr.get d (Fr.wo ds fr)).isNone)=true:=by
 rw[List.all_eq_true]
 intro d hd
 cases h:Fr.get d (Fr.wo ds fr) with
 |none=>rfl
 |some x=>exact absurd hd (Fr.wo_get h).2
theorem ACode.drawF{E:Env}{id:Nat}{l:List Oper}{K:Cont}{fr:Fr}{σ:St}(n:Nat)(vs:List FV)(ds:List Nat)(hm:E.P.follows .mixedOrders=true)(hB:drawB l n=true)(hds:dsts (l.take n)=ds)(frb:Fr)(hfb:Fr.wo ds fr=frb)
  (hH:Heads E l.toArray l vs frb σ σ n 0 (l.take n) vs) (htail:AOps E l.toArray (l.drop n) K (Q2q (l.take n) vs++frb) σ):ACode E (.region id l.toArray true) K fr σ:=by
 subst hds;subst hfb
 exact ACode.draw (σ1:=σ) n n vs _ hm hB (Fr.wo_none _ _) (fun k x h=>(Fr.wo_get h).1) hH (by rw[if_neg (by omega)];exact htail)
theorem ACode.drawAF{E:Env}{id:Nat}{l:List Oper}{K:Cont}{fr:Fr}{σ σ1:St}(n al:Nat)(vs:List FV)(ds:List Nat)(hm:E.P.follows .mixedOrders=true)(hal:Nat.ble (al+1) n=true)(hB:drawB l n=true)(hds:dsts (l.take n)=ds)(frb:Fr)(hfb:Fr.wo ds fr=frb)
  (hH:Heads E l.toArray l vs frb σ σ1 al 0 (l.take n) vs) (htail:AOps E l.toArray (l.drop n) K (Q2q (l.take n) vs++frb) σ1):ACode E (.region id l.toArray true) K fr σ:=by
 subst hds;subst hfb
 exact ACode.draw (σ1:=σ1) n al vs _ hm hB (Fr.wo_none _ _) (fun k x h=>(Fr.wo_get h).1) hH (by rw[if_pos (show al < n from Nat.le_of_ble_eq_true hal)];exact htail)

theorem AOps.callC{E:Env}{ops:Array Oper}{rest:List Oper}{o:Oper}{K:Cont}{fr:Fr}{σ:St}{d:Nat}{f:Operand}{args:Array Operand}{tys:Array TypeId}{g:Nat}{first caps:List AC}{vs as:List FV}{r:FV}
  (hΓ:∀g cs,(g,cs)∈E.Γ->idsL isO cs) (hc:APure E.P E.Γ g as r) (hgd:o.guard=none) (hdst:o.dst=some d) (hd:Nat.ble (d+1) E.N=true) (ho:o.op=.call { callee:=.value f,args:=args,argTypes:=tys })
  (hf:aEval E.Γ fr f=some (.one (.fn (.func g) first caps))) (hargs:Q2p E.Γ fr args.toList=some vs) (has:first.map .one++vs++caps.map .one=as) (hou:OuOk σ.ou) (hids:idsF isO as)
  (h:AOps E ops rest K ((d,r)::fr) σ):AOps E ops (o::rest) K fr σ:=
 AOps.step1 hgd hdst hd (AStep.callP hΓ ho hf hargs has hids hou hc) h
theorem AOps.app{E:Env}{ops:Array Oper}{rest:List Oper}{o:Oper}{K:Cont}{fr:Fr}{σ σ1:St}{dd:Nat}{t:TypeId}{ti tj:TI}{x y:Operand}{c d:AC}{s:Nat}{es news:List (List AC)}(hT:TabOk E.P E.T)(hgd:o.guard=none)(hdst:o.dst=some dd)(hd:Nat.ble (dd+1) E.N=true)(ho:o.op=.call { callee:=.builtin .append,args:=#[x,y],argTypes:=#[t,t] })
  (ht:Tab.get t E.T=some ti) (hk:Nat.beq ti.kind 2=true) (hj:Tab.get ti.elem E.T=some tj) (hx:aEval E.Γ fr x=some (.one c)) (hy:aEval E.Γ fr y=some (.one d)) (hb:Base σ c ti.elem s es σ1) (hsrc:Src d s news)
  (hs:tj.size=s) (hbytes:(es.length+news.length) * tj.bytes<=140737488355328) (h63:es.length+news.length<=140737488355328)
  (h:AOps E ops rest K ((dd,.one (.gs s (es++news) (.l σ.n)))::fr) (σ1.push (.tok ti.elem s (es++news).length))):AOps E ops (o::rest) K fr σ:=
 AOps.step1 hgd hdst hd (AStep.append hT ho ht hk hj hx hy hb hsrc (by simp[hs]) hbytes h63) h
theorem Base.gs'(σ:St)(e:TypeId)(s:Nat)(es:List (List AC))(i:Id){u:Nat}(h:σ.get i=some (.tok e s u))(hu:u=es.length):Base σ (.gs s es i) e s es (σ.set i .dead):=by subst hu;exact Base.gs e s es i h

def Q35:Nat->List Oper->Option (List Oper×List Oper)
 |0,l=>some ([],l)
 |_+1,[]=>none
 |n+1,o::l=>match Q35 n l with
  |some (a,b)=>some (o::a,b)
  |none=>none
theorem Q21:∀{n:Nat}{l a b:List Oper},Q35 n l=some (a,b)->l.take n=a/\l.drop n=b
 |0,l,a,b,h=>by simp only[Q35,Option.some.injEq,Prod.mk.injEq]at h;obtain⟨rfl,rfl⟩:=h;simp
 |n+1,[],a,b,h=>by cases h
 |n+1,o::l,a,b,h=>by
  simp only[Q35]at h
  split at h
  ·rename_i x y hxy
   obtain⟨h1,h2⟩:=Q21 hxy
   simp only[Option.some.injEq,Prod.mk.injEq]at h
   obtain⟨rfl,rfl⟩:=h
   simp[h1,h2]
  ·cases h
def Fr.woO (ds:List Nat):Fr->Option Fr
 |[]=>some []
 |(k,x)::r=>match Fr.woO ds r with
  |some r'=>bif ds.any (fun d=>Nat.beq d k)then some r' else some ((k,x)::r')
  |none=>none
theorem Fr.woO_eq{ds:List Nat}:∀{fr fr':Fr},Fr.woO ds fr=some fr'->Fr.wo ds fr=fr'
 |[],fr',h=>by simpa[Fr.woO,Fr.wo]using h
 |(k,x)::r,fr',h=>by
  simp only[Fr.woO]at h
  split at h
  ·rename_i r' hr
   simp only[Fr.wo,Fr.woO_eq hr]
   cases hb:ds.any (fun d=>Nat.beq d k) <;> rw[hb]at h <;> simpa using h
  ·cases h
def frOf:List Oper->List FV->Fr->Option Fr
 |o::os,v::vs,fr=>match frOf os vs fr,o.dst with
  |some r,some d=>some ((d,v)::r)
  |some r,none=>some r
  |none,_=>none
 |_,_,fr=>some fr
theorem Q6o:∀{os:List Oper}{vs:List FV}{fr fr':Fr},frOf os vs fr=some fr'->Q2q os vs++fr=fr'
 |[],vs,fr,fr',h=>by simpa[frOf,Q2q]using h
 |o::os,[],fr,fr',h=>by simpa[frOf,Q2q]using h
 |o::os,v::vs,fr,fr',h=>by
  simp only[frOf]at h
  split at h
  ·rename_i r d hr hd
   have:=Q6o hr
   simp only[Option.some.injEq]at h;subst h
   simp[Q2q,hd,this]
  ·rename_i r hr hd
   have:=Q6o hr
   simp only[Option.some.injEq]at h;subst h
   simp[Q2q,hd,this]
  ·cases h
def Q5n:Op->Bool
 |.alloc _|.box _ _|.store _ _ _=>false
 |_=>true
theorem Q63{T:Tab}{Γ:List (Nat×List AC)}{o:Op}{fr:Fr}{σ σ':St}{x:Option FV}(hp:Q5n o=true)(h:aOp T Γ o fr σ=some (x,σ')):σ'=σ:=by
 unfold aOp at h
 split at h
 all_goals first
  |(simp[Q5n]at hp;done)
  |skip
 all_goals (try simp only[cond_eq_ite]at h)
 all_goals (repeat' split at h)
 all_goals first
  |(simp only[Option.some.injEq,Prod.mk.injEq]at h;exact h.2.symm)
  |(cases h;done)
def lookC (k:Nat):List (Nat×FV)->Option FV
 |[]=>none
 |(j,v)::r=>bif Nat.beq j k then some v else lookC k r
def Q0f (E:Env)(ops:Array Oper)(l:List Oper)(frb:Fr)(σ:St)(cs:List (Nat×FV)):Nat->List Oper->List FV->Option (List FV)
 |_,[],_=>some []
 |k,o::os,acc=>bif o.dst.isSome&&dstOk E.N o.dst then
   (match lookC k cs with
   |some v=>Q3g (acc++[v]) fun acc'=>(match Q0f E ops l frb σ cs (k+1) os acc' with|some vs=>some (v::vs)|none=>none)
   |none=>bif Q5n o.op then Q3g (depFr l acc o++frb) fun fr=>(match aHead E ops o fr σ with
    |some (v,_)=>Q3g (acc++[v]) fun acc'=>(match Q0f E ops l frb σ cs (k+1) os acc' with|some vs=>some (v::vs)|none=>none)
    |none=>none)else none)else none
def Q0n (E:Env)(l:List Oper)(frb:Fr)(σ:St)(vs:List FV):List (Nat×FV)->Prop
 |[]=>True
 |(k,v)::r=>(∃o,l[k]?=some o/\HStep E l.toArray o (depFr l vs o++frb) σ σ v)/\Q0n E l frb σ vs r
theorem Q0n.get{E:Env}{l:List Oper}{frb:Fr}{σ:St}{vs:List FV}{k:Nat}{v:FV}:∀{cs:List (Nat×FV)},Q0n E l frb σ vs cs->lookC k cs=some v->∃o,l[k]?=some o/\HStep E l.toArray o (depFr l vs o++frb) σ σ v
 |[],_,h=>by cases h
 |(j,u)::r,hc,h=>by
  simp only[lookC]at h
  by_cases e:j=k
  ·subst e;simp at h;subst h;exact hc.1
  ·rw[Q09 e]at h;exact Q0n.get hc.2 h
theorem Q0t{α β:Type}{f g:α->Option β}:∀{l:List α},(∀x∈l,f x=g x)->l.filterMap f=l.filterMap g
 |[],_=>rfl
 |x::l,h=>by
  have h1:=h x (by simp)
  have h2:=Q0t (l:=l) (fun y hy=>h y (by simp[hy]))
  simp only[List.filterMap_cons,h1,h2]
theorem Q2v{l:List Oper}{acc vs:List FV}{o:Oper}(h:o.after.all (fun e=>!Region.binds .any e||decide (e.on < acc.length))=true):depFr l (acc++vs) o=depFr l acc o:=by
 unfold depFr
 refine Q0t fun e he=>?_
 have:=Array.all_eq_true'.1 h e (by simpa using he)
 cases hb:Region.binds .any e with
 |false=>simp
 |true=>
  rw[hb]at this
  simp at this
  rw[List.getElem?_append_left this]
theorem Q7o{E:Env}{l:List Oper}{frb:Fr}{σ:St}{cs:List (Nat×FV)}{n:Nat}{vs:List FV}(hT:TabOk E.P E.T)(hall:∀k o,l[k]?=some o->k < n->o.after.all (fun e=>!Region.binds .any e||decide (e.on < k))=true)(hcs:Q0n E l frb σ vs cs):
  ∀(os:List Oper) (k:Nat) (acc ws:List FV),acc.length=k->(∀i o,os[i]?=some o->l[k+i]?=some o/\k+i < n)->Q0f E l.toArray l frb σ cs k os acc=some ws->acc++ws=vs->Heads E l.toArray l vs frb σ σ n k os ws
 |[],k,acc,ws,_,_,h,_=>by simp only[Q0f,Option.some.injEq]at h;subst h;trivial
 |o::os,k,acc,ws,hl,hos,h,hv=>by
  have ho:=hos 0 o rfl
  simp only[Nat.add_zero]at ho
  simp only[Q0f,Q13]at h
  cases hb:(o.dst.isSome&&dstOk E.N o.dst) with
  |false=>rw[hb]at h;cases h
  |true=>
   rw[hb]at h
   simp only[Bool.and_eq_true]at hb
   simp only[cond_true]at h
   have hne:Nat.beq k n=false:=Q09 (by omega)
   have rest:∀{v:FV},(match Q0f E l.toArray l frb σ cs (k+1) os (acc++[v]) with|some vs=>some (v::vs)|none=>none)=some ws->∃ws',ws=v::ws'/\Heads E l.toArray l vs frb σ σ n (k+1) os ws':=by
    intro v h
    split at h
    ·rename_i ws' hw
     simp only[Option.some.injEq]at h;subst h
     exact⟨ws',rfl,Q7o hT hall hcs os (k+1) (acc++[v]) ws' (by simp[hl]) (fun i o hi=>by have:=hos (i+1) o hi;rw[show k+1+i=k+(i+1) by omega];exact this) hw (by simpa using hv)⟩
    ·cases h
   cases hc:lookC k cs with
   |some v=>
    rw[hc]at h
    obtain⟨ws',rfl,hw⟩:=rest h
    obtain⟨o',ho',hs⟩:=hcs.get hc
    rw[ho.1]at ho'
    cases ho'
    exact Heads.op hb.1 hb.2 hne hs hs hw
   |none=>
    rw[hc]at h
    simp only at h
    cases hp:Q5n o.op with
    |false=>rw[hp]at h;cases h
    |true =>
     rw [hp] at h
     simp only[cond_true]at h
     split at h
     ·rename_i v σ' ha
      obtain⟨ws',rfl,hw⟩:=rest h
      have hdep:depFr l vs o=depFr l acc o:=by rw[←hv];exact Q2v (by rw[hl];exact hall k o ho.1 ho.2)
      have hσ:σ'=σ:=by
       have key:∀{y:FV}{τ:St},(match aOp E.T E.Γ o.op (depFr l acc o++frb) σ with|some (some x,σ')=>some (x,σ')|_=>none)=some (y,τ)->τ=σ:=by
        intro y τ h
        split at h
        ·rename_i h1
         simp only[Option.some.injEq,Prod.mk.injEq]at h
         obtain⟨rfl,rfl⟩:=h
         exact Q63 hp h1
        ·cases h
       unfold aHead at ha
       split at ha
       ·exact key ha
       ·split at ha
        ·split at ha
         ·exact key ha
         ·exact key ha
         ·cases ha;rfl
         ·cases ha;rfl
         ·cases ha;rfl
         ·cases ha
        ·cases ha
      subst hσ
      have hs:=HStep.auto (ops:=l.toArray) hT ha
      rw[←hdep]at hs
      exact Heads.op hb.1 hb.2 hne hs hs hw
     ·cases h
theorem ACode.drawX{E:Env}{id:Nat}{l hd tl:List Oper}{K:Cont}{fr frb fr':Fr}{σ:St}{vs:List FV}(hT:TabOk E.P E.T)(n:Nat)(cs:List (Nat×FV))(hm:E.P.follows .mixedOrders=true)(hB:drawB l n=true)(hsp:Q35 n l=some (hd,tl))(hfb:Fr.woO (dsts hd) fr=some frb)
  (hrun:Q0f E l.toArray l frb σ cs 0 hd []=some vs) (hfr:frOf hd vs frb=some fr') (hcs:Q0n E l frb σ vs cs) (htail:AOps E l.toArray tl K fr' σ):ACode E (.region id l.toArray true) K fr σ:=by
 obtain⟨h1,h2⟩:=Q21 hsp
 subst h1;subst h2
 have h3:=Fr.woO_eq hfb
 have h4:=Q6o hfr
 have hn:n < l.length:=by
  simp only[drawB,Bool.and_eq_true,decide_eq_true_eq]at hB
  exact hB.1.1.1.1.1
 have hlast:((l.take n).zipIdx.all fun x=>x.1.after.all fun e=>!Region.binds .any e||decide (e.on < x.2))=true:=by
  simp only[drawB,Bool.and_eq_true]at hB
  exact hB.2
 refine ACode.drawF n vs _ hm hB rfl frb h3 (Q7o hT (fun k o hk hkn=>?_) hcs _ 0 [] vs rfl (fun i o hi=>?_) hrun rfl) (by rw[h4];exact htail)
 ·have:=List.all_eq_true.1 hlast (o,k) (by
   rw[List.mem_iff_getElem?]
   exact⟨k,by rw[List.getElem?_zipIdx,List.getElem?_take_of_lt hkn,hk];simp⟩)
  exact this
 ·have hi2:i < n:=by
   have:=(List.getElem?_eq_some_iff.1 hi).1
   simp at this;omega
  rw[List.getElem?_take_of_lt hi2]at hi
  exact⟨by simpa using hi,by omega⟩
theorem Q0n.nil{E:Env}{l:List Oper}{frb:Fr}{σ:St}{vs:List FV}:Q0n E l frb σ vs []:=trivial
theorem Q0n.step{E:Env}{l:List Oper}{frb:Fr}{σ:St}{vs:List FV}{k:Nat}{v:FV}{r:List (Nat×FV)}{o:Oper}(hk:l[k]?=some o)(h:HStep E l.toArray o (depFr l vs o++frb) σ σ v)(hr:Q0n E l frb σ vs r):Q0n E l frb σ vs ((k,v)::r):=⟨⟨o,hk,h⟩,hr⟩
theorem Q0n.call{E:Env}{l:List Oper}{frb:Fr}{σ:St}{vs:List FV}{k:Nat}{v:FV}{r:List (Nat×FV)}{o:Oper}{f:Operand}{args:Array Operand}{tys:Array TypeId}{g:Nat}{first caps:List AC}{us as:List FV}(hΓ:∀g cs,(g,cs)∈E.Γ->idsL isO cs)
  (hc:APure E.P E.Γ g as v) (hou:OuOk σ.ou) (hids:idsF isO as) (hk:l[k]?=some o) (hgd:o.guard=none)
  (ho:o.op=.call { callee:=.value f,args:=args,argTypes:=tys }) (hf:aEval E.Γ (depFr l vs o++frb) f=some (.one (.fn (.func g) first caps))) (hargs:Q2p E.Γ (depFr l vs o++frb) args.toList=some us) (has:first.map .one++us++caps.map .one=as)
  (hr:Q0n E l frb σ vs r):Q0n E l frb σ vs ((k,v)::r):=
 .step hk (HStep.plain hgd (AStep.callP hΓ ho hf hargs has hids hou hc)) hr
theorem FrSub.consP{ρ:Nat->Nat}{fr r:Fr}{k:Nat}{x y:FV}(h:Fr.get k fr=some y)(hw:WkF y x)(hp:x.ids isO)(hr:FrSub ρ fr r):FrSub ρ fr ((k,x)::r):=
 ⟨⟨y,h,by rw[FV.ren_pure ρ x hp];exact hw⟩,hr⟩
def splitOk:Op->Bool
 |.call { callee:=.builtin .len,args:=_,argTypes:=_ }=>true
 |.call _=>false
 |.binOp .eql _ _ _ _|.binOp .neq _ _ _ _|.binOp .lss _ _ _ _|.binOp .leq _ _ _ _|.binOp .gtr _ _ _ _|.binOp .geq _ _ _ _=>true
 |.binOp _ _ _ _ _=>false
 |.indexAddr _ _ _|.index _ _ _|.lookup _ _ _ _|.mapUpdate _ _ _ _|.convert _ _ _=>false
 |_=>true
theorem AOps.splitS{E:Env}{ops:Array Oper}{rest:List Oper}{o:Oper}{K:Cont}{fr:Fr}{σ:St}{j d:Nat}{b want:Bool}(hok:splitOk o.op=true)(hg:o.guard=some (j,want))(hs:Q0y ops j=some d)(hb:Fr.get d fr=some (.one (.lit (.bool b))))(ht:b=true->AOps E ops (o::rest) K ((d,.one (.lit (.bool true)))::fr) σ)(hf:b=false->AOps E ops (o::rest) K ((d,.one (.lit (.bool false)))::fr) σ):
  AOps E ops (o::rest) K fr σ:=AOps.splitG hg hs hb ht hf
end Go.Abs
namespace Go.Abs

mutual
def AC.sub (θ:Id->Id):AC->AC
 |.lit v=>.lit v
 |.any=>.any
 |.sl s es=>.sl s (subS θ es)
 |.box cs=>.box (subL θ cs)
 |.ptr i off=>.ptr (θ i) off
 |.gs s es i=>.gs s (subS θ es) (θ i)
 |.arr i s off len cap=>.arr (θ i) s off len cap
 |.mp i=>.mp (θ i)
 |.fn f a b=>.fn f (subL θ a) (subL θ b)
 |.ifc t ag cs=>.ifc t ag (subL θ cs)
def subS (θ:Id->Id):List (List AC)->List (List AC)
 |[]=>[]
 |e::es=>subL θ e::subS θ es
def subL (θ:Id->Id):List AC->List AC
 |[]=>[]
 |c::cs=>c.sub θ::subL θ cs
end
mutual
def FV.sub (θ:Id->Id):FV->FV
 |.bot=>.bot
 |.one c=>.one (c.sub θ)
 |.agg cs=>.agg (subL θ cs)
 |.tup vs=>.tup (subF θ vs)
def subF (θ:Id->Id):List FV->List FV
 |[]=>[]
 |v::vs=>v.sub θ::subF θ vs
end
def AObj.sub (θ:Id->Id):AObj->AObj
 |.cells cs=>.cells (subL θ cs)
 |.map ck es=>.map ck (es.map fun x=>(x.1,x.2.1,x.2.2.sub θ))
 |.iter m a b d=>.iter (θ m) a b d
 |.sit s p=>.sit s p
 |.tok e s u=>.tok e s u
 |.dead=>.dead
theorem Q3w(θ:Id->Id):∀es:List (List AC),(subS θ es).length=es.length
 |[]=>rfl
 |e::es=>by simp[subS,Q3w θ es]
theorem Qao(θ:Id->Id):∀es:List AC,(subL θ es).length=es.length
 |[]=>rfl
 |e::es=>by simp[subL,Qao θ es]
structure Sub (θ:Id->Id)(p:Id->Prop)(w:World)(C C':Ctx):Prop where
 prot:∀a,C.prot a->C'.prot a
 id:∀i,p i->C.ok (θ i)->C'.ok i/\C'.blk i=C.blk (θ i)/\C'.tok i=C.tok (θ i)
section
variable {θ:Id->Id}{p:Id->Prop}{w:World}{C C':Ctx}
mutual
theorem R.sub(h:Sub θ p w C C'):∀(c:AC)(v:Value),c.ids p->R w C (c.sub θ) v->R w C' c v
 |.lit u,v,_,hr=>hr
 |.any,v,_,hr=>hr
 |.sl s es,v,hi,hr=>by
  simp only[AC.ids,AC.sub,R,Q3w]at *
  obtain⟨a,cap,rfl,hc,h2⟩:=hr
  refine⟨a,cap,rfl,hc,?_⟩
  rcases h2 with h2|⟨ad,rfl,hs,h2⟩
  ·left
   have:=Q3w θ es
   rw[h2]at this
   exact List.eq_nil_of_length_eq_zero (by simpa using this.symm)
  ·exact .inr ⟨ad,rfl,hs,RS.sub h s es ad hi h2⟩
 |.box cs,v,hi,hr=>by
  simp only[AC.ids,AC.sub,R]at *
  obtain⟨ad,rfl,hs,h2⟩:=hr
  exact⟨ad,rfl,hs,RL.sub h cs ad hi h2⟩
 |.ptr i off,v,hi,hr=>by
  simp only[AC.ids,AC.sub,R]at *
  obtain⟨ho,rfl⟩:=hr
  obtain⟨h1,h2,_⟩:=h.id i hi ho
  exact⟨h1,by rw[h2]⟩
 |.gs s es i,v,hi,hr=>by
  simp only[AC.ids,AC.sub,R,Q3w]at *
  obtain⟨ho,hr⟩:=hr
  obtain⟨h1,_,h3⟩:=h.id i hi.1 ho
  refine⟨h1,?_⟩
  rcases hr with ⟨rfl,he,ht⟩|⟨g,cap,rfl,hc,ht,h2⟩
  ·left
   refine⟨rfl,?_,h3.trans ht⟩
   have:=Q3w θ es
   rw[he]at this
   exact List.eq_nil_of_length_eq_zero (by simpa using this.symm)
  ·exact .inr ⟨g,cap,rfl,hc,h3.trans ht,RS.sub h s es _ hi.2 h2⟩
 |.arr i s off len cap,v,hi,hr=>by
  simp only[AC.ids,AC.sub,R]at *
  obtain⟨ho,rfl,hc⟩:=hr
  obtain⟨h1,h2,_⟩:=h.id i hi ho
  exact⟨h1,by rw[h2],hc⟩
 |.mp i,v,hi,hr=>by
  simp only[AC.ids,AC.sub,R]at *
  obtain⟨ho,rfl⟩:=hr
  obtain⟨h1,h2,_⟩:=h.id i hi ho
  exact⟨h1,by rw[h2]⟩
 |.fn f first caps,v,hi,hr=>by
  simp only[AC.ids,AC.sub,R]at *
  obtain⟨xs,ys,rfl,h1,h2⟩:=hr
  exact⟨xs,ys,rfl,RV.sub h first xs hi.1 h1,RV.sub h caps ys hi.2 h2⟩
 |.ifc t ag cs,v,hi,hr=>by
  simp only[AC.ids,AC.sub,R]at *
  obtain⟨xs,h1,h2⟩:=hr
  exact⟨xs,RV.sub h cs xs hi h1,h2⟩
theorem RS.sub(h:Sub θ p w C C')(s:Nat):∀(es:List (List AC))(ad:Addr),idsS p es->RS w C s (subS θ es) ad->RS w C' s es ad
 |[],_,_,_=>by simp[RS]
 |e::es,ad,hi,hr=>by
  simp only[idsS,subS,RS,Qao]at *
  exact⟨hr.1,RL.sub h e ad hi.1 hr.2.1,RS.sub h s es _ hi.2 hr.2.2⟩
theorem RL.sub(h:Sub θ p w C C'):∀(cs:List AC)(ad:Addr),idsL p cs->RL w C (subL θ cs) ad->RL w C' cs ad
 |[],_,_,_=>by simp[RL]
 |c::cs,ad,hi,hr=>by
  simp only[idsL,subL,RL]at *
  obtain⟨⟨u,hu,hp,hr⟩,h2⟩:=hr
  exact⟨⟨u,hu,h.prot _ hp,R.sub h c u hi.1 hr⟩,RL.sub h cs _ hi.2 h2⟩
theorem RV.sub(h:Sub θ p w C C'):∀(cs:List AC)(vs:List Value),idsL p cs->RV w C (subL θ cs) vs->RV w C' cs vs
 |[],_,_,hr=>by simpa[RV,subL]using hr
 |c::cs,vs,hi,hr=>by
  simp only[idsL,subL,RV]at *
  obtain⟨u,us,rfl,h1,h2⟩:=hr
  exact⟨u,us,rfl,R.sub h c u hi.1 h1,RV.sub h cs us hi.2 h2⟩
end
mutual
theorem RF.sub(h:Sub θ p w C C'):∀(x:FV)(v:Value),x.ids p->RF w C (x.sub θ) v->RF w C' x v
 |.bot,v,_,_=>by simp[RF]
 |.one c,v,hi,hr=>by simp only[FV.ids,FV.sub,RF]at *;exact R.sub h c v hi hr
 |.agg cs,v,hi,hr=>by
  simp only[FV.ids,FV.sub,RF]at *
  obtain⟨xs,rfl,h2⟩:=hr
  exact⟨xs,rfl,RV.sub h cs xs hi h2⟩
 |.tup vs,v,hi,hr=>by
  simp only[FV.ids,FV.sub,RF]at *
  obtain⟨xs,rfl,h2⟩:=hr
  exact⟨xs,rfl,RFs.sub h vs xs hi h2⟩
theorem RFs.sub(h:Sub θ p w C C'):∀(vs:List FV)(xs:List Value),idsF p vs->RFs w C (subF θ vs) xs->RFs w C' vs xs
 |[],xs,_,hr=>by simpa[RFs,subF]using hr
 |v::vs,xs,hi,hr=>by
  simp only[idsF,subF,RFs]at *
  obtain⟨u,us,rfl,h1,h2⟩:=hr
  exact⟨u,us,rfl,RF.sub h v u hi.1 h1,RFs.sub h vs us hi.2 h2⟩
end
theorem RM.sub(h:Sub θ p w C C'):∀(r:List (Nat×Value×FV))(es:List MapEntry),(∀x∈r,x.2.2.ids p)->RM w C (r.map fun x=>(x.1,x.2.1,x.2.2.sub θ)) es->RM w C' r es
 |[],_,_,hr=>by simpa[RM]using hr
 |(b,k,cs)::r,es,hi,hr=>by
  simp only[List.map_cons,RM]at *
  obtain⟨e,es',rfl,hk,h1,h2⟩:=hr
  exact⟨e,es',rfl,hk,RF.sub h cs _ (hi (b,k,cs) (by simp)) h1,RM.sub h r es' (fun x hx=>hi x (by simp[hx])) h2⟩
theorem ObjOk.sub{F:Nat->Prop}{i:Id}{o:AObj}(h:Sub θ p w C C')(hids:o.ids p)(hp:p i)(hok:C.ok (θ i))(hprot:∀a,C'.prot a->C.prot a)(ho:ObjOk w C F (θ i) (o.sub θ)):ObjOk w C' F i o:=by
 obtain⟨_,hblk,htok⟩:=h.id i hp hok
 cases o with
 |cells cs=>
  obtain⟨xs,T,h1,h2,h3,h4⟩:=ho
  exact⟨xs,T,by rw[hblk];exact h1,by rw[hblk];exact h2,RV.sub h cs xs hids h3,fun a ha hpa=>h4 a (by rw[ha,hblk]) (hprot a hpa)⟩
 |map ck es=>
  obtain⟨ents,h1,h2,h3⟩:=ho
  exact⟨ents,by rw[hblk];exact h1,by rw[hblk];exact h2,RM.sub h es ents hids h3⟩
 |iter m since seen last=>
  obtain⟨h1,h2,h3⟩:=ho
  obtain⟨m1,m2,_⟩:=h.id m hids h3
  exact⟨by rw[hblk,m2];exact h1,by rw[hblk];exact h2,m1⟩
 |sit s p=>
  obtain⟨h1,h2⟩:=ho
  exact⟨by rw[hblk];exact h1,by rw[hblk];exact h2⟩
 |tok e s used=>
  simp only[ObjOk,AObj.sub,htok]at *
  cases ht:C.tok (θ i) with
  |none=>rw[ht]at ho;exact ho
  |some gc=>
   obtain⟨g,cap⟩:=gc
   simp only[ht]at ho ⊢
   obtain⟨xs,h1,h2,h3,h4,h6,h5⟩:=ho
   exact⟨xs,h1,h2,h3,h4,h6,fun a ha hpa=>h5 a ha (hprot a hpa)⟩
 |dead=>trivial
theorem AObj.block_sub{i:Id}{o:AObj}(h:Sub θ p w C C')(hp:p i)(hok:C.ok (θ i)):o.block C' i=(o.sub θ).block C (θ i):=by
 obtain⟨_,hblk,htok⟩:=h.id i hp hok
 cases o <;> simp[AObj.block,AObj.sub,hblk,htok]
end



structure Bus (θ:Id->Id)(p:Id->Prop)(w:World)(C C':Ctx):Prop where
 prot:∀a,C'.prot a->C.prot a
 id:∀i,p i->C'.ok i->C.ok (θ i)/\C.blk (θ i)=C'.blk i/\C.tok (θ i)=C'.tok i
section
variable {θ:Id->Id}{p:Id->Prop}{w:World}{C C':Ctx}
mutual
theorem R.bus(h:Bus θ p w C C'):∀(c:AC)(v:Value),c.ids p->R w C' c v->R w C (c.sub θ) v
 |.lit u,v,_,hr=>hr
 |.any,v,_,hr=>hr
 |.sl s es,v,hi,hr=>by
  simp only[AC.ids,AC.sub,R,Q3w]at *
  obtain⟨a,cap,rfl,hc,h2⟩:=hr
  refine⟨a,cap,rfl,hc,?_⟩
  rcases h2 with h2|⟨ad,rfl,hs,h2⟩
  ·left;rw[h2];rfl
  ·exact .inr ⟨ad,rfl,hs,RS.bus h s es ad hi h2⟩
 |.box cs,v,hi,hr=>by
  simp only[AC.ids,AC.sub,R]at *
  obtain⟨ad,rfl,hs,h2⟩:=hr
  exact⟨ad,rfl,hs,RL.bus h cs ad hi h2⟩
 |.ptr i off,v,hi,hr=>by
  simp only[AC.ids,AC.sub,R]at *
  obtain⟨ho,rfl⟩:=hr
  obtain⟨h1,h2,_⟩:=h.id i hi ho
  exact⟨h1,by rw[h2]⟩
 |.gs s es i,v,hi,hr=>by
  simp only[AC.ids,AC.sub,R,Q3w]at *
  obtain⟨ho,hr⟩:=hr
  obtain⟨h1,_,h3⟩:=h.id i hi.1 ho
  refine⟨h1,?_⟩
  rcases hr with ⟨rfl,he,ht⟩|⟨g,cap,rfl,hc,ht,h2⟩
  ·left
   exact⟨rfl,by rw[he];rfl,h3.trans ht⟩
  ·exact .inr ⟨g,cap,rfl,hc,h3.trans ht,RS.bus h s es _ hi.2 h2⟩
 |.arr i s off len cap,v,hi,hr=>by
  simp only[AC.ids,AC.sub,R]at *
  obtain⟨ho,rfl,hc⟩:=hr
  obtain⟨h1,h2,_⟩:=h.id i hi ho
  exact⟨h1,by rw[h2],hc⟩
 |.mp i,v,hi,hr=>by
  simp only[AC.ids,AC.sub,R]at *
  obtain⟨ho,rfl⟩:=hr
  obtain⟨h1,h2,_⟩:=h.id i hi ho
  exact⟨h1,by rw[h2]⟩
 |.fn f first caps,v,hi,hr=>by
  simp only[AC.ids,AC.sub,R]at *
  obtain⟨xs,ys,rfl,h1,h2⟩:=hr
  exact⟨xs,ys,rfl,RV.bus h first xs hi.1 h1,RV.bus h caps ys hi.2 h2⟩
 |.ifc t ag cs,v,hi,hr=>by
  simp only[AC.ids,AC.sub,R]at *
  obtain⟨xs,h1,h2⟩:=hr
  exact⟨xs,RV.bus h cs xs hi h1,h2⟩
theorem RS.bus(h:Bus θ p w C C')(s:Nat):∀(es:List (List AC))(ad:Addr),idsS p es->RS w C' s es ad->RS w C s (subS θ es) ad
 |[],_,_,_=>by simp[RS,subS]
 |e::es,ad,hi,hr=>by
  simp only[idsS,subS,RS,Qao]at *
  exact⟨hr.1,RL.bus h e ad hi.1 hr.2.1,RS.bus h s es _ hi.2 hr.2.2⟩
theorem RL.bus(h:Bus θ p w C C'):∀(cs:List AC)(ad:Addr),idsL p cs->RL w C' cs ad->RL w C (subL θ cs) ad
 |[],_,_,_=>by simp[RL,subL]
 |c::cs,ad,hi,hr=>by
  simp only[idsL,subL,RL]at *
  obtain⟨⟨u,hu,hp,hr⟩,h2⟩:=hr
  exact⟨⟨u,hu,h.prot _ hp,R.bus h c u hi.1 hr⟩,RL.bus h cs _ hi.2 h2⟩
theorem RV.bus(h:Bus θ p w C C'):∀(cs:List AC)(vs:List Value),idsL p cs->RV w C' cs vs->RV w C (subL θ cs) vs
 |[],_,_,hr=>by simpa[RV,subL]using hr
 |c::cs,vs,hi,hr=>by
  simp only[idsL,subL,RV]at *
  obtain⟨u,us,rfl,h1,h2⟩:=hr
  exact⟨u,us,rfl,R.bus h c u hi.1 h1,RV.bus h cs us hi.2 h2⟩
end
mutual
theorem RF.bus(h:Bus θ p w C C'):∀(x:FV)(v:Value),x.ids p->RF w C' x v->RF w C (x.sub θ) v
 |.bot,v,_,_=>by simp[RF,FV.sub]
 |.one c,v,hi,hr=>by simp only[FV.ids,FV.sub,RF]at *;exact R.bus h c v hi hr
 |.agg cs,v,hi,hr=>by
  simp only[FV.ids,FV.sub,RF]at *
  obtain⟨xs,rfl,h2⟩:=hr
  exact⟨xs,rfl,RV.bus h cs xs hi h2⟩
 |.tup vs,v,hi,hr=>by
  simp only[FV.ids,FV.sub,RF]at *
  obtain⟨xs,rfl,h2⟩:=hr
  exact⟨xs,rfl,RFs.bus h vs xs hi h2⟩
theorem RFs.bus(h:Bus θ p w C C'):∀(vs:List FV)(xs:List Value),idsF p vs->RFs w C' vs xs->RFs w C (subF θ vs) xs
 |[],xs,_,hr=>by simpa[RFs,subF]using hr
 |v::vs,xs,hi,hr=>by
  simp only[idsF,subF,RFs]at *
  obtain⟨u,us,rfl,h1,h2⟩:=hr
  exact⟨u,us,rfl,RF.bus h v u hi.1 h1,RFs.bus h vs us hi.2 h2⟩
end
theorem RM.bus(h:Bus θ p w C C'):∀(r:List (Nat×Value×FV))(es:List MapEntry),(∀x∈r,x.2.2.ids p)->RM w C' r es->RM w C (r.map fun x=>(x.1,x.2.1,x.2.2.sub θ)) es
 |[],_,_,hr=>by simpa[RM]using hr
 |(b,k,cs)::r,es,hi,hr=>by
  simp only[List.map_cons,RM]at *
  obtain⟨e,es',rfl,hk,h1,h2⟩:=hr
  exact⟨e,es',rfl,hk,RF.bus h cs _ (hi (b,k,cs) (by simp)) h1,RM.bus h r es' (fun x hx=>hi x (by simp[hx])) h2⟩
theorem ObjOk.bus{F:Nat->Prop}{i:Id}{o:AObj}(h:Bus θ p w C C')(hids:o.ids p)(hp:p i)(hok:C'.ok i)(hprot:∀a,C.prot a->C'.prot a)(ho:ObjOk w C' F i o):ObjOk w C F (θ i) (o.sub θ):=by
 obtain⟨_,hblk,htok⟩:=h.id i hp hok
 cases o with
 |cells cs=>
  obtain⟨xs,T,h1,h2,h3,h4⟩:=ho
  exact⟨xs,T,by rw[hblk];exact h1,by rw[hblk];exact h2,RV.bus h cs xs hids h3,fun a ha hpa=>h4 a (by rw[ha,hblk]) (hprot a hpa)⟩
 |map ck es=>
  obtain⟨ents,h1,h2,h3⟩:=ho
  exact⟨ents,by rw[hblk];exact h1,by rw[hblk];exact h2,RM.bus h es ents hids h3⟩
 |iter m since seen last=>
  obtain⟨h1,h2,h3⟩:=ho
  obtain⟨m1,m2,_⟩:=h.id m hids h3
  exact⟨by rw[hblk,m2];exact h1,by rw[hblk];exact h2,m1⟩
 |sit s p=>
  obtain⟨h1,h2⟩:=ho
  exact⟨by rw[hblk];exact h1,by rw[hblk];exact h2⟩
 |tok e s used=>
  simp only[ObjOk,AObj.sub,htok]at *
  cases ht:C'.tok i with
  |none=>rw[ht]at ho;exact ho
  |some gc=>
   obtain⟨g,cap⟩:=gc
   simp only[ht]at ho ⊢
   obtain⟨xs,h1,h2,h3,h4,h6,h5⟩:=ho
   exact⟨xs,h1,h2,h3,h4,h6,fun a ha hpa=>h5 a ha (hprot a hpa)⟩
 |dead=>trivial
theorem AObj.block_bus{i:Id}{o:AObj}(h:Bus θ p w C C')(hp:p i)(hok:C'.ok i):(o.sub θ).block C (θ i)=o.block C' i:=by
 obtain⟨_,hblk,htok⟩:=h.id i hp hok
 cases o <;> simp[AObj.block,AObj.sub,hblk,htok]
theorem ObjOk.memo{F F':Nat->Prop}{i:Id}{o:AObj}(h:ObjOk w C F i o)(hF:∀g,o.block C i=some g->F' g->False):ObjOk w C F' i o:=by
 cases o with
 |cells cs=>obtain⟨xs,T,h1,h2,h3,h4⟩:=h;exact⟨xs,T,h1,fun hf=>hF _ rfl hf,h3,h4⟩
 |map ck es=>obtain⟨ents,h1,h2,h3⟩:=h;exact⟨ents,h1,fun hf=>hF _ rfl hf,h3⟩
 |iter m since seen last=>obtain⟨h1,h2,h3⟩:=h;exact⟨h1,fun hf=>hF _ rfl hf,h3⟩
 |sit s p=>obtain⟨h1,h2⟩:=h;exact⟨h1,fun hf=>hF _ rfl hf⟩
 |tok e s used=>
  simp only[ObjOk]at *
  cases ht:C.tok i with
  |none=>rw[ht]at h;exact h
  |some gc=>
   obtain⟨g,cap⟩:=gc
   simp only[ht]at h ⊢
   obtain⟨xs,h1,h2,h3⟩:=h
   exact⟨xs,h1,fun hf=>hF g (by simp[AObj.block,ht]) hf,h3⟩
 |dead=>trivial
end

def nameOf (ψ:List Id):Id->Id
 |.o k=>ψ.getD k (.o k)
 |.l k=>.l k
def inO (n:Nat):Id->Prop
 |.o k=>k < n
 |.l _=>False
def ouOf (os:List AObj):Outer:=fun k=>os[k]?
def Q93 (σ:St)(θ:Id->Id):List Id->List AObj->Prop
 |[],[]=>True
 |i::is,o::os=>σ.get i=some (o.sub θ)/\Q93 σ θ is os
 |_,_=>False
def Q36 (θ:Id->Id)(σ:St):List Id->List AObj->St
 |i::is,o::os=>Q36 θ (σ.set i (o.sub θ)) is os
 |_,_=>σ
theorem Q93.at{σ:St}{θ:Id->Id}:∀{ψ:List Id}{os:List AObj},Q93 σ θ ψ os->os.length=ψ.length/\∀(k:Nat)(i:Id)(o:AObj),ψ[k]?=some i->os[k]?=some o->σ.get i=some (o.sub θ)
 |[],[],_=>⟨rfl,fun k i o h=>by simp at h⟩
 |[],_::_,h=>h.elim
 |_::_,[],h=>h.elim
 |i::is,o::os,h=>by
  obtain⟨h1,h2⟩:=Q93.at h.2
  refine⟨by simp[h1],fun k j p hj hp=>?_⟩
  cases k with
  |zero=>simp at hj hp;subst hj;subst hp;exact h.1
  |succ k=>exact h2 k j p (by simpa using hj) (by simpa using hp)
theorem Q68{θ:Id->Id}{j:Id}:∀{ψ:List Id}{os:List AObj}{σ:St},j∉ψ->(Q36 θ σ ψ os).get j=σ.get j
 |[],os,σ,_=>by simp[Q36]
 |i::is,[],σ,_=>by simp[Q36]
 |i::is,o::os,σ,h=>by
  simp only[Q36]
  simp at h
  rw[Q68 (by simpa using h.2),St.get_set_ne σ (Ne.symm h.1)]
theorem Qbx{θ:Id->Id}:∀{ψ:List Id}{os:List AObj}{σ:St}{k:Nat}{i:Id}{o:AObj},ψ.Nodup->ψ[k]?=some i->os[k]?=some o->(Q36 θ σ ψ os).get i=some (o.sub θ)
 |[],os,σ,k,i,o,_,h,_=>by simp at h
 |j::is,[],σ,k,i,o,_,_,h=>by simp at h
 |j::is,p::os,σ,0,i,o,hn,h,h2=>by
  simp at h h2;subst h;subst h2
  simp only[Q36]
  rw[Q68 (List.nodup_cons.1 hn).1,St.get_set_same]
 |j::is,p::os,σ,k+1,i,o,hn,h,h2=>by
  simp only[Q36]
  exact Qbx (List.nodup_cons.1 hn).2 (by simpa using h) (by simpa using h2)
theorem Qef{θ:Id->Id}:∀{ψ:List Id}{os:List AObj}{σ:St},(Q36 θ σ ψ os).n=σ.n
 |[],os,σ=>by simp[Q36]
 |i::is,[],σ=>by simp[Q36]
 |i::is,o::os,σ=>by simp only[Q36];rw[Qef,St.n_set]

theorem Qf3{α:Type}:∀{l:List α}{i j:Nat}{x:α},l.Nodup->l[i]?=some x->l[j]?=some x->i=j
 |[],i,j,x,_,h,_=>by simp at h
 |y::l,0,0,x,_,_,_=>rfl
 |y::l,0,j+1,x,hn,h,h2=>by
  simp at h;subst h
  exact ((List.nodup_cons.1 hn).1 (List.mem_of_getElem? (by simpa using h2))).elim
 |y::l,i+1,0,x,hn,h,h2=>by
  simp at h2;subst h2
  exact ((List.nodup_cons.1 hn).1 (List.mem_of_getElem? (by simpa using h))).elim
 |y::l,i+1,j+1,x,hn,h,h2=>by
  exact congrArg (·+1) (Qf3 (x:=x) (List.nodup_cons.1 hn).2 (by simpa using h) (by simpa using h2))
def handF (w:World)(C:Ctx)(σ:St)(ψ:List Id):Nat->Prop:=fun b=>b < w.heap.size/\∀i o,i∈ψ->σ.get i=some o->o.block C i≠some b
def Ctx.hand (C:Ctx)(ψ:List Id):Ctx:={ prot:=C.prot,nl:=0,no:=ψ.length,phi:=fun i=>C.phi (nameOf ψ i),tk:=fun i=>C.tk (nameOf ψ i) }
section
variable {Γ:List (Nat×List AC)}{F:Nat->Prop}{w:World}{C:Ctx}{σ:St}{ψ:List Id}{os:List AObj}
theorem Qj4{n:Nat}{i:Id}(h:inO n i):∃k,k < n/\i=.o k:=by
 cases i with
 |l k=>exact h.elim
 |o k=>exact⟨k,h,rfl⟩
theorem Q82{ψ:List Id}{k:Nat}{i:Id}(h:ψ[k]?=some i):nameOf ψ (.o k)=i:=by simp[nameOf,h]
theorem Q5g(ψ:List Id):Sub (nameOf ψ) (inO ψ.length) w C (C.hand ψ):=⟨fun _ h=>h,fun i hi _=>by
 obtain⟨k,hk,rfl⟩:=Qj4 hi
 exact⟨hk,rfl,rfl⟩⟩
theorem Qln(hi:Inv Γ F w C σ):∀k,F k->handF w C σ ψ k:=fun k hk=>⟨hi.base k hk,fun i o _ ho hb=>(AObj.block_lt (hi.obj i o ho).2 hb).1 hk⟩
theorem Inv.hand(hi:Inv Γ F w C σ)(hΓ:∀g cs,(g,cs)∈Γ->idsL (fun _=>False) cs)(hn:ψ.Nodup)(hg:Q93 σ (nameOf ψ) ψ os)(hids:∀o∈os,AObj.ids (inO ψ.length) o):Inv Γ (handF w C σ ψ) w (C.hand ψ) ⟨0,[],ouOf os⟩:=by
 obtain⟨hlen,hat⟩:=hg.at
 have key:∀(k:Nat) (o:AObj),os[k]?=some o->∃i,ψ[k]?=some i/\nameOf ψ (.o k)=i/\σ.get i=some (o.sub (nameOf ψ))/\k < ψ.length:=by
  intro k o ho
  have hk:k < ψ.length:=by rw[←hlen];exact (List.getElem?_eq_some_iff.1 ho).1
  obtain⟨i,hi'⟩:∃i,ψ[k]?=some i:=⟨_,List.getElem?_eq_getElem hk⟩
  exact⟨i,hi',Q82 hi',hat k i o hi' ho,hk⟩
 refine⟨fun k hk=>hk.1,rfl,fun g cs h=>RG.chg (C:=C) (C':=C.hand ψ) (p:=fun _=>False) ⟨fun _ _=>rfl,fun _ h=>h,fun i hp _=>hp.elim⟩ (hΓ g cs h) (hi.glob g cs h),hi.prot,fun i o h=>?_,fun i j o o' g h1 h2 h3 h4=>?_⟩
 ·cases i with
  |l k=>cases h
  |o k=>
   obtain⟨i,h1,h2,h3,h4⟩:=key k o h
   obtain⟨h5,h6⟩:=hi.obj i _ h3
   refine⟨h4,ObjOk.memo (F:=F) (ObjOk.sub (Q5g ψ) (hids o (List.mem_of_getElem? h)) h4 (by rw[h2];exact h5) (fun _ h=>h) (by rw[h2];exact h6)) fun g hb hf=>?_⟩
   rw[AObj.block_sub (i:=.o k) (Q5g (w:=w) ψ) h4 (by rw[h2];exact h5),h2]at hb
   exact hf.2 i _ (List.mem_of_getElem? h1) h3 hb
 ·cases i with
  |l k=>cases h1
  |o k=>cases j with
   |l k=>cases h2
   |o k'=>
    obtain⟨i,a1,a2,a3,a4⟩:=key k o h1
    obtain⟨j,b1,b2,b3,b4⟩:=key k' o' h2
    rw[AObj.block_sub (i:=.o k) (Q5g (w:=w) ψ) a4 (by rw[a2];exact (hi.obj i _ a3).1),a2]at h3
    rw[AObj.block_sub (i:=.o k') (Q5g (w:=w) ψ) b4 (by rw[b2];exact (hi.obj j _ b3).1),b2]at h4
    have:=hi.inj i j _ _ g a3 b3 h3 h4
    subst this
    have hkk:k=k':=by
     exact Qf3 hn a1 b1
    rw[hkk]
theorem Inv.handBack(hi:Inv Γ F w C σ)(hn:ψ.Nodup)(hg:Q93 σ (nameOf ψ) ψ os){w':World}{C':Ctx}{os':List AObj}(hlen':os'.length=ψ.length)(hids:∀o∈os',AObj.ids (inO ψ.length) o)
  (hgo:Goes (handF w C σ ψ) isO w (C.hand ψ) w' C') (hi':Inv Γ (handF w C σ ψ) w' C' ⟨0,[],ouOf os'⟩):
  Goes F (fun _=>True) w C w' { C with prot:=C'.prot }/\Inv Γ F w' { C with prot:=C'.prot } (Q36 (nameOf ψ) σ ψ os')/\Bus (nameOf ψ) (inO ψ.length) w' { C with prot:=C'.prot } C':=by
 obtain⟨hlen,hat⟩:=hg.at
 have hF:=Qln (ψ:=ψ) hi
 have he:Ext w C w' { C with prot:=C'.prot }:=⟨hgo.chg.cell,hgo.chg.prot,fun i _ ho=>⟨ho,rfl,rfl⟩⟩
 have key:∀(k:Nat),k < ψ.length->∃i o,ψ[k]?=some i/\nameOf ψ (.o k)=i/\os[k]?=some o/\σ.get i=some (o.sub (nameOf ψ)):=by
  intro k hk
  obtain⟨i,hi'⟩:∃i,ψ[k]?=some i:=⟨_,List.getElem?_eq_getElem hk⟩
  obtain⟨o,ho⟩:∃o,os[k]?=some o:=⟨_,List.getElem?_eq_getElem (by rw[hlen];exact hk)⟩
  exact⟨i,o,hi',Q82 hi',ho,hat k i o hi' ho⟩
 have hbus:Bus (nameOf ψ) (inO ψ.length) w' { C with prot:=C'.prot } C':=⟨fun _ h=>h,fun i hp _=>by
  obtain⟨k,hk,rfl⟩:=Qj4 hp
  obtain⟨i,o,h1,h2,h3,h4⟩:=key k hk
  obtain⟨_,h6,h7⟩:=hgo.chg.id (.o k) trivial hk
  refine⟨by rw[h2];exact (hi.obj i _ h4).1,h6.symm,h7.symm⟩⟩
 refine⟨⟨hgo.stp.mono hF,he,Nat.le_refl _,fun a ha=>(hgo.newp a ha).imp id (fun h hf=>h (hF _ hf))⟩,?_,hbus⟩
 have hin:∀{i:Id}{o:AObj},(Q36 (nameOf ψ) σ ψ os').get i=some o->(i∉ψ/\σ.get i=some o)∨∃k p,k < ψ.length/\ψ[k]?=some i/\nameOf ψ (.o k)=i/\os'[k]?=some p/\o=p.sub (nameOf ψ)/\C'.ok (.o k)/\ObjOk w' C' (handF w C σ ψ) (.o k) p/\p.ids (inO ψ.length):=by
  intro i o h
  by_cases hm:i∈ψ
  ·right
   obtain⟨k,hk⟩:=List.mem_iff_getElem?.1 hm
   have hkl:k < ψ.length:=(List.getElem?_eq_some_iff.1 hk).1
   obtain⟨p,hp⟩:∃p,os'[k]?=some p:=⟨_,List.getElem?_eq_getElem (by rw[hlen'];exact hkl)⟩
   rw[Qbx hn hk hp]at h
   injection h with h
   obtain⟨g1,g2⟩:=hi'.obj (.o k) p hp
   exact⟨k,p,hkl,hk,Q82 hk,hp,h.symm,g1,g2,hids p (List.mem_of_getElem? hp)⟩
  ·rw[Q68 hm]at h
   exact .inl ⟨hm,h⟩
 have hout:∀{i:Id}{o:AObj},i∉ψ->σ.get i=some o->∀g,o.block C i=some g->handF w C σ ψ g:=fun {i o} hm ho g hb =>
  ⟨(AObj.block_lt (hi.obj i o ho).2 hb).2, fun j p hj hp hbp => by
   have:=hi.inj i j o p g ho hp hb hbp
   subst this
   exact hm hj⟩
 refine⟨fun k hk=>Nat.lt_of_lt_of_le (hi.base k hk) hgo.stp.size,by rw[Qef];exact hi.next,fun g cs h=>(hi.glob g cs h).ext he,hi'.prot,fun i o h=>?_,fun i j o o' g h1 h2 h3 h4=>?_⟩
 ·rcases hin h with ⟨hm,h⟩|⟨k,p,h1,h2,h3,h4,rfl,h5,h6,h7⟩
  ·obtain⟨g1,g2⟩:=hi.obj i o h
   refine⟨g1,g2.keep he g1 (fun g x hb hx=>?_) (fun a hb _ ha=>?_)⟩
   ·rw[hgo.stp.block g (hout hm h g hb)];exact hx
   ·exact (hgo.newp a ha).resolve_right (fun hc=>hc (hout hm h _ hb))
  ·refine⟨?_,?_⟩
   ·have:=(hbus.id (.o k) h1 h5).1
    rw[h3]at this;exact this
   ·have:=ObjOk.bus (i:=.o k) hbus h7 h1 h5 (fun _ h=>h) h6
    rw[h3]at this
    refine this.memo fun g hb hf=>?_
    exact (AObj.block_lt this hb).1 (hF _ hf)
 ·have cross:∀{i j:Id}{o:AObj}{k:Nat}{p:AObj},i∉ψ->σ.get i=some o->k < ψ.length->nameOf ψ (.o k)=j->C'.ok (.o k)->ObjOk w' C' (handF w C σ ψ) (.o k) p->(p.sub (nameOf ψ)).block { C with prot:=C'.prot } j=some g->o.block { C with prot:=C'.prot } i=some g->False:=by
   intro i j o k p hm ho hk hj hok hp hbp hbo
   rw[←hj,AObj.block_bus (i:=.o k) hbus hk hok]at hbp
   exact (AObj.block_lt hp hbp).1 (hout hm ho g (by rw[←AObj.block_ext he (hi.obj i o ho).1];exact hbo))
  rcases hin h1 with ⟨hm,a1⟩|⟨k,p,a1,a2,a3,a4,rfl,a5,a6,a7⟩ <;> rcases hin h2 with ⟨hm',b1⟩|⟨k',p',b1,b2,b3,b4,rfl,b5,b6,b7⟩
  ·exact hi.inj i j o o' g a1 b1 (by rw[←AObj.block_ext he (hi.obj i o a1).1];exact h3) (by rw[←AObj.block_ext he (hi.obj j o' b1).1];exact h4)
  ·exact (cross hm a1 b1 b3 b5 b6 h4 h3).elim
  ·exact (cross hm' b1 a1 a3 a5 a6 h3 h4).elim
  ·rw[←a3,AObj.block_bus (i:=.o k) hbus a1 a5]at h3
   rw[←b3,AObj.block_bus (i:=.o k') hbus b1 b5]at h4
   have:=hi'.inj (.o k) (.o k') p p' g a4 b4 h3 h4
   injection this with hk
   subst hk
   rw[←a3,←b3]
end
theorem AOps.callR{E:Env}{ops:Array Oper}{rest:List Oper}{o:Oper}{K:Cont}{fr:Fr}{σ:St}{d:Nat}{f:Operand}{args:Array Operand}{tys:Array TypeId}{g:Nat}{first caps:List AC}{vs:List FV}{Q:FV->Outer->Prop}
  (ψ:List Id) (as:List FV) (os:List AObj) (hΓ:∀g cs,(g,cs)∈E.Γ->idsL (fun _=>False) cs) (hgd:o.guard=none) (hdst:o.dst=some d) (hd:Nat.ble (d+1) E.N=true) (ho:o.op=.call { callee:=.value f,args:=args,argTypes:=tys })
  (hf:aEval E.Γ fr f=some (.one (.fn (.func g) first caps))) (hargs:Q2p E.Γ fr args.toList=some vs) (has:first.map .one++vs++caps.map .one=subF (nameOf ψ) as) (hids:idsF (inO ψ.length) as) (hn:ψ.Nodup) (hg:Q93 σ (nameOf ψ) ψ os) (hoids:∀o∈os,AObj.ids (inO ψ.length) o)
  (hc:AFn E.P E.Γ g as (ouOf os) Q)
  (h:∀r ou',Q r ou'->∃os',os'.length=ψ.length/\ou'=ouOf os'/\(∀o∈os',AObj.ids (inO ψ.length) o)/\r.ids (inO ψ.length)/\AOps E ops rest K ((d,r.sub (nameOf ψ))::fr) (Q36 (nameOf ψ) σ ψ os')):AOps E ops (o::rest) K fr σ:=by
 intro F w0 C0 w C tmps hgo hi hfr
 refine wpList_plain hgd fun N' hN=>?_
 have hcallee:=Q01 (a:=⟨tmps,E.ds⟩) hi hfr hf
 simp only[RF,R]at hcallee
 obtain⟨xs,ys,hfv,hx,hy⟩:=hcallee
 have hvs:=Q2x (a:=⟨tmps,E.ds⟩) hi hfr hargs
 have hall:RFs w C (first.map .one++vs++caps.map .one) (xs++args.toList.map (Act.eval ⟨tmps,E.ds⟩)++ys):=(RFs.ones hx |>.append hvs).append (RFs.ones hy)
 rw[has]at hall
 have hrun:(execOp (Act.eval ⟨tmps,E.ds⟩) o).run E.P w=.ok (.enter g (xs++args.toList.map (Act.eval ⟨tmps,E.ds⟩)++ys).toArray) w:=by
  unfold execOp
  simp only[ho,resolve,Sem.run_bind,hfv,Deferred.ofValue,Sem.run_pure,Result.andThen_ok,invoke,hc.1]
  congr 2
  apply Array.ext'
  simp
 unfold Oper.wp
 rw[hrun,Oper.upon_enter]
 refine (hc.2 (handF w C σ ψ) w (C.hand ψ) _ rfl (hi.hand hΓ hn hg hoids) (RFs.sub (Q5g ψ) as _ hids hall)).mono fun e w' ⟨v,r,ou',C',he,hg1,h0,hi',hr,hQ⟩=>?_
 subst he
 obtain⟨os',e1,rfl,e3,e4,hnext⟩:=h r ou' hQ
 obtain⟨hb1,hb2,hb3⟩:=hi.handBack hn hg e1 e3 hg1 hi'
 refine hN _ _ ?_
 rw[Q37]
 have hput:=Q2j (ds:=E.ds) (dst:=some d) (hfr.ext hb1.chg) hd (RF.bus hb3 r v e4 hr)
 rw[hdst]
 exact hnext F w0 C0 w' _ _ (hgo.trans hb1.toO) hb2 hput
end Go.Abs
namespace Go.Abs
open Go.MapKept

section
variable {Γ:List (Nat×List AC)}{F:Nat->Prop}{w:World}{C:Ctx}{σ:St}
theorem Inv.newAny(hi:Inv Γ F w C σ){obj:Obj}{o:AObj}(hnc:∀c t fr,obj≠.cells c t fr)(hb:∀C' i,o.block C' i=some (C'.blk i))(ho:∀C',Ext w C (w.alloc obj) C'->C'.blk (.l σ.n)=w.heap.size->(w.alloc obj).heap[w.heap.size]?=some obj->¬F w.heap.size->ObjOk (w.alloc obj) C' F (.l σ.n) o):
  ∃C',Goes F (fun _=>True) w C (w.alloc obj) C'/\Inv Γ F (w.alloc obj) C' (σ.push o)/\C'.ok (.l σ.n)/\C'.blk (.l σ.n)=w.heap.size:=by
 have hn:=Ctx.more_new C w.heap.size none hi.next
 have he:Ext w C (w.alloc obj) (C.more w.heap.size none):=
  ⟨fun a ha=>World.cell?_alloc_lt _ _ _ (hi.prot a ha),fun a ha=>ha,fun i _ ho=>Ctx.more_old C _ _ ho⟩
 refine⟨C.more w.heap.size none,⟨Stp.allocObj hi.base _ (fun c t lo hi h=>absurd h (hnc c t _)),he,Nat.le_refl _,fun a ha=>.inl ha⟩,hi.addObj (σ.get_push _) he (by simp[Ctx.more,hi.next,St.push]) (fun k hk=>by have:=hi.base k hk;simp;omega) (fun a ha=>?_) (fun i p h g x hg hx=>Q2m w _ hx) (fun i p h a _ _ ha=>ha) hn.1 ?_ (fun i p g h hg e=>?_),hn.1,hn.2.1⟩
 ·have:=hi.prot a ha;simp;omega
 ·exact ho _ he hn.2.1 (heap_alloc_new w _) (fun hF=>by have:=hi.base _ hF;omega)
 ·rw[hb,hn.2.1]at e
  injection e with e
  have:=(AObj.block_lt (hi.obj i p h).2 hg).2
  omega
theorem Inv.setAny(hi:Inv Γ F w C σ){i:Id}{o o':AObj}{g:Nat}{obj obj':Obj}(hg:σ.get i=some o)(hbk:o.block C i=some g)(hb':o'.block C i=some g)(hx:w.heap[g]?=some obj)(h1:∀c t fr,obj≠.cells c t fr)(h2:∀c t fr,obj'≠.cells c t fr)
  (hnew:∀w':World,Ext w C w' C->w'.heap[g]?=some obj'->(∀k,k≠g->w'.heap[k]?=w.heap[k]?)->ObjOk w' C F i o'):
  Goes F (fun _=>True) w C { w with heap:=w.heap.setIfInBounds g obj' } C/\Inv Γ F { w with heap:=w.heap.setIfInBounds g obj' } C (σ.set i o'):=by
 have hlt:=Q0b hx
 have hat:({ w with heap:=w.heap.setIfInBounds g obj' }:World).heap[g]?=some obj':=by simp[hlt]
 have hoth:∀k,k≠g->({ w with heap:=w.heap.setIfInBounds g obj' }:World).heap[k]?=w.heap[k]?:=fun k hk=>by
  show (w.heap.setIfInBounds g obj')[k]?=_
  rw[Array.getElem?_setIfInBounds_ne (Ne.symm hk)]
 have hcell:∀a:Addr,a.block=g->({ w with heap:=w.heap.setIfInBounds g obj' }:World).cell? a=w.cell? a:=fun a ha=>by
  unfold World.cell?
  rw[ha,hat,hx]
  cases obj <;> cases obj' <;> first|rfl|(exact absurd rfl (h1 _ _ _))|(exact absurd rfl (h2 _ _ _))
 have hturn:=hi.turn (o':=o') hg hbk (w':={ w with heap:=w.heap.setIfInBounds g obj' }) (by simp) hoth (fun a ha _=>hcell a ha) hb' (fun he=>hnew _ he hat hoth)
 refine⟨⟨⟨rfl,rfl,rfl,by simp,fun k hk=>hoth k (fun e=>(AObj.block_lt (hi.obj i o hg).2 hbk).1 (e▸hk)),fun a _=>?_⟩,hturn.1,Nat.le_refl _,fun a ha=>.inl ha⟩,hturn.2⟩
 by_cases ha:a.block=g
 ·unfold World.frozen?
  rw[ha,hat,hx]
  cases obj <;> cases obj' <;> first|rfl|(exact absurd rfl (h1 _ _ _))|(exact absurd rfl (h2 _ _ _))
 ·unfold World.frozen?
  rw[hoth _ ha]
end
theorem RM.length{w:World}{C:Ctx}:∀{r:List (Nat×Value×FV)}{es:List MapEntry},RM w C r es->es.length=r.length
 |[],es,h=>by simp only[RM]at h;simp[h]
 |(b,k,cs)::r,es,h=>by
  simp only[RM]at h
  obtain⟨e,es',rfl,_,_,h3⟩:=h
  simp[RM.length h3]
theorem RM.push{w:World}{C:Ctx}{e:MapEntry}{b:Nat}{k:Value}{v:FV}(hk:e.key=k/\e.born=b)(hv:RF w C v e.val):∀{r:List (Nat×Value×FV)}{es:List MapEntry},RM w C r es->RM w C (r++[(b,k,v)]) (es++[e])
 |[],es,h=>by simp only[RM]at h;subst h;exact⟨e,[],rfl,hk,hv,rfl⟩
 |(b',k',cs)::r,es,h=>by
  simp only[RM]at h
  obtain⟨e',es',rfl,h1,h2,h3⟩:=h
  exact⟨e',es'++[e],rfl,h1,h2,RM.push hk hv h3⟩
def Q6i:Value->TypeDesc
 |.int k _=>.int k
 |.string _=>.string
 |_=>.bool
def mFind (u:Value):List (Nat×Value×FV)->Option FV
 |[]=>none
 |(_,k,v)::r=>match Instr.sameNow (Q6i u) u k with
  |some true=>some v
  |_=>mFind u r
def mPut (u:Value)(x:FV)(ck:Nat):List (Nat×Value×FV)->List (Nat×Value×FV)×Nat
 |[]=>([(ck,u,x)],ck+1)
 |(b,k,v)::r=>match Instr.sameNow (Q6i u) u k with
  |some true=>((b,k,x)::r,ck)
  |_=>((b,k,v)::(mPut u x ck r).1,(mPut u x ck r).2)
def Qg4 (d:TypeDesc)(es:List (Nat×Value×FV)):Prop:=∀x∈es,IsKey d x.2.1
theorem Qdc{d:TypeDesc}{u k:Value}(hu:IsKey d u)(hk:IsKey d k):∃b,Instr.sameNow d u k=some b/\(b=true->u=k):=by
 cases d <;> cases u <;> simp[IsKey]at hu <;> cases k <;> simp[IsKey]at hk
 ·exact⟨_,rfl,fun h=>by rw[eq_of_beq h]⟩
 ·subst hu;subst hk
  exact⟨_,by simp[Instr.sameNow];rfl,fun h=>by rw[eq_of_beq h]⟩
 ·exact⟨_,rfl,fun h=>by rw[(bytes_beq _ _).1 h]⟩
theorem Q2d{d:TypeDesc}{u:Value}(h:IsKey d u):Q6i u=d:=by
 cases d <;> cases u <;> simp[IsKey]at h <;> simp[h,Q6i]
theorem Q6q{w:World}{C:Ctx}{d:TypeDesc}{u:Value}(hu:IsKey d u):∀{r:List (Nat×Value×FV)}{es:List MapEntry}(j:Nat),RM w C r es->Qg4 d r ->
  (mFind u r = none /\ Instr.findNow d u es j = some none /\ ∀ x ck, mPut u x ck r = (r ++ [(ck, u, x)], ck + 1)) ∨
  ∃(i:Nat) (e:MapEntry) (v:FV),es[i]?=some e/\mFind u r=some v/\RF w C v e.val/\e.key=u/\Instr.findNow d u es j=some (some (j+i,e.val))/\
   ∀(x:FV) (ck:Nat) (w':World) (C':Ctx) (xv:Value),RF w' C' x xv->RM w' C' r es->(mPut u x ck r).2=ck/\RM w' C' (mPut u x ck r).1 (es.modify i fun e=>{ e with key:=u,val:=xv })
 |[],es,j,h,_=>by
  simp only[RM]at h;subst h
  exact .inl ⟨rfl,rfl,fun _ _=>rfl⟩
 |(b,k,v)::r,es,j,h,hk=>by
  simp only[RM]at h
  obtain⟨e,es',rfl,h1,h2,h3⟩:=h
  obtain⟨bb,hs,hbb⟩:=Qdc hu (hk (b,k,v) (by simp))
  simp only at hs
  have hke:e.key=k:=h1.1
  cases bb with
  |true=>
   have huk:=hbb rfl
   refine .inr ⟨0,e,v,rfl,by simp only[mFind,Q2d hu,hs],h2,by rw[hke,huk],by simp only[Instr.findNow,hke,hs];rfl,fun x ck w' C' xv hx hrm=>?_⟩
   simp only[RM]at hrm
   obtain⟨e',es'',he,g1,g2,g3⟩:=hrm
   cases he
   refine⟨by simp only[mPut,Q2d hu,hs],?_⟩
   simp only[mPut,Q2d hu,hs]
   exact⟨{ e with key:=u,val:=xv },es',by simp,⟨huk,h1.2⟩,hx,g3⟩
  |false=>
   rcases Q6q hu (j+1) h3 (fun x hx=>hk x (by simp[hx]))with ⟨a1,a2,a3⟩|⟨i,e0,v0,a1,a2,a3,a4,a5,a6⟩
   ·exact .inl ⟨by simp only[mFind,Q2d hu,hs];exact a1,by simp only[Instr.findNow,hke,hs];exact a2,fun x ck=>by simp only[mPut,Q2d hu,hs,a3];rfl⟩
   ·refine .inr ⟨i+1,e0,v0,by simpa using a1,by simp only[mFind,Q2d hu,hs];exact a2,a3,a4,by simp only[Instr.findNow,hke,hs];rw[a5];congr 3;omega,fun x ck w' C' xv hx hrm=>?_⟩
    simp only[RM]at hrm
    obtain⟨e',es'',he,g1,g2,g3⟩:=hrm
    cases he
    obtain⟨c1,c2⟩:=a6 x ck w' C' xv hx g3
    refine⟨by simp only[mPut,Q2d hu,hs];exact c1,?_⟩
    simp only[mPut,Q2d hu,hs]
    exact⟨e,_,by simp,g1,g2,c2⟩
theorem run_next_at{P:Program}(w:World)(ty:TypeId)(r bm since last ck:Nat)(seen:Array Nat)(es:Array MapEntry)(hr:w.heap[r]?=some (.mapIter (some bm) since seen last))(hb:w.heap[bm]?=some (.map es ck))(hold:∀x∈es.toList,x.born < since)(hsc:since<=last):
  ((leftOf es seen).size=0/\(Instr.next (.pointer (some ⟨r,0,none⟩)) false ty).run P w=.ok (.tuple #[.bool false]) w) ∨
  ∃e∈(leftOf es seen).toList,∃w1:World,(w1=w∨w1=w.drew)/\(Instr.next (.pointer (some ⟨r,0,none⟩)) false ty).run P w=.ok (.tuple #[.bool true,e.key,e.val]) { w1 with heap:=w1.heap.setIfInBounds r (.mapIter (some bm) since (seen.push e.born) ck) }:=by
 simp only[Instr.next,getObj,Sem.run_bind,Sem.run,hr,hb,Result.andThen,next_test_false seen es since last hold hsc,Bool.false_eq_true,if_false]
 unfold leftOf
 have hmem:∀x∈(Array.filter (fun e=>!seen.contains e.born) es).toList,x.born < since:=fun x hx=>hold x (by simp at hx ⊢;exact hx.1)
 generalize Array.filter (fun e=>!seen.contains e.born) es=L at hmem ⊢
 have e1:L.filter (fun x=>decide (x.born < since))=L:=Array.filter_eq_self.2 (fun x hx=>by simpa using hmem x (by simpa using hx))
 have e2:L.filter (fun x=>decide (x.born ≥ since))=#[]:=by
  rw[Array.filter_eq_empty_iff]
  intro x hx
  have:=hmem x (by simpa using hx)
  simp
  omega
 simp only[e1,e2,Array.append_empty]
 by_cases h0:L.size=0
 ·left
  have:L=#[]:=Array.eq_empty_of_size_eq_zero h0
  subst this
  refine⟨rfl,?_⟩
  simp[choose,Sem.run,Question.forced]
 ·right
  have hne:L.isEmpty=false:=by simp[Array.isEmpty,h0]
  simp only[hne,Bool.false_eq_true,if_false,Array.empty_append,Array.size_map]
  have hch:∃(j:Nat) (w1:World),j < L.size/\(w1=w∨w1=w.drew)/\(choose (Question.mapNext L.size)).run P w=.ok j w1:=by
   by_cases hf:L.size<=1
   ·exact⟨0,w,by omega,.inl rfl,by simp[choose,Sem.run,Question.forced,hf]⟩
   ·exact⟨_,w.drew,Nat.mod_lt _ (by omega),.inr rfl,by
     simp only[choose,Sem.run,Question.forced,decide_eq_true_eq,hf,if_false,Question.cut]
     rfl⟩
  obtain⟨j,w1,hj,hal,hrun⟩:=hch
  refine⟨L[j],by simp,w1,hal,?_⟩
  have hr1:w1.heap[r]?=some (.mapIter (some bm) since seen last):=by rcases hal with rfl|rfl <;> exact hr
  simp only[hrun,Array.getElem?_map,Array.getElem?_eq_getElem hj,Option.map_some,Sem.run_bind,Result.andThen]
  simp only[setObj,Sem.run,hr1]
  rfl
section
variable {E:Env}{o:Oper}{fr:Fr}{σ:St}
theorem AStep.makeMap{t:TypeId}(ho:o.op=.makeMap t none):AStep E o fr σ (.one (.mp (.l σ.n))) (σ.push (.map 0 [])):=by
 intro F w C tmps hi hf next Q hk
 obtain⟨C',h1,h2,h3,h4⟩:=hi.newAny (obj:=.map #[] 0) (o:=.map 0 []) (by intro c t fr h;cases h) (fun _ _=>rfl) (fun C' he hb hx hF=>⟨[],by rw[hb];exact hx,by rw[hb];exact hF,rfl⟩)
 have hrun:(execOp (Act.eval ⟨tmps,E.ds⟩) o).run E.P w=.ok (.value (.map (some w.heap.size))) (w.alloc (.map #[] 0)):=by
  unfold execOp
  simp[ho,Instr.makeMap]
 unfold Oper.wp
 rw[hrun,Oper.upon_value]
 exact hk _ _ C' h1 h2 ⟨h3,by rw[h4]⟩
theorem Qd4{P:Program}{t:TypeId}{z:Value}{w:World}(h:(P.info? t).map (·.zero)=some (some z)):(zeroValue t).run P w=.ok z w:=by
 cases hi:P.info? t with
 |none=>rw[hi]at h;cases h
 |some i=>
  rw[hi]at h
  simp only[Option.map_some,Option.some.injEq]at h
  simp[zeroValue,typeInfo,hi,h]
theorem AStep.mapUpdate{t kt et:TypeId}{d:TypeDesc}{x i y:Operand}{m:Id}{ck:Nat}{es:List (Nat×Value×FV)}{u:Value}{v:FV}(ho:o.op=.mapUpdate t x i y)(hm:E.P.underlying t=some (.map kt et))(hd:E.P.underlying kt=some d)
  (hx : aEval E.Γ fr x = some (.one (.mp m))) (hg : σ.get m = some (.map ck es)) (hu : aEval E.Γ fr i = some (.one (.lit u))) (hy : aEval E.Γ fr y = some v) (hku : IsKey d u) (hks : Qg4 d es) :
  AStep E o fr σ .bot (σ.set m (.map (mPut u v ck es).2 (mPut u v ck es).1)):=by
 intro F w C tmps hi hf next Q hk
 have h1:=Q01 (a:=⟨tmps,E.ds⟩) hi hf hx
 have h2:=Q01 (a:=⟨tmps,E.ds⟩) hi hf hu
 have h3:=Q01 (a:=⟨tmps,E.ds⟩) hi hf hy
 simp only[RF,R]at h1 h2
 obtain⟨hok,ents,he,hnf,hrm⟩:=hi.obj m _ hg
 have key:∀(ents':List MapEntry) (ck':Nat) (es':List (Nat×Value×FV)),(∀w':World,Ext w C w' C->RM w' C es' ents')->mPut u v ck es=(es',ck')->(execOp (Act.eval ⟨tmps,E.ds⟩) o).run E.P w=.ok .skip { w with heap:=w.heap.setIfInBounds (C.blk m) (.map ents'.toArray ck') }->
   o.wp E.P ⟨tmps,E.ds⟩ w next Q:=by
  intro ents' ck' es' hr hp hrun
  obtain⟨k1,k2⟩:=hi.setAny (o':=.map ck' es') (obj':=.map ents'.toArray ck') hg rfl rfl he (by intro c t fr h;cases h) (by intro c t fr h;cases h) (fun w' hext hat _=>⟨ents',hat,hnf,hr w' hext⟩)
  unfold Oper.wp
  rw[hrun,Oper.upon_skip]
  exact hk undef _ C k1 (by rw[hp];exact k2) (by simp[RF])
 rcases Q6q hku 0 hrm hks with ⟨a1,a2,a3⟩|⟨j,e,v0,a1,a2,a3,a4,a5,a6⟩
 ·refine key (ents++[{ key:=u,val:=(Act.eval ⟨tmps,E.ds⟩ y),born:=ck }]) (ck+1) (es++[(ck,u,v)]) (fun w' hext=>RM.push (e:={ key:=u,val:=(Act.eval ⟨tmps,E.ds⟩ y),born:=ck }) (b:=ck) (k:=u) (v:=v) ⟨rfl,rfl⟩ (h3.ext hext) (hrm.ext hext)) (a3 v ck) ?_
  unfold execOp
  simp only[ho]
  simp[Instr.mapUpdate,run_underlying hm,h1.2,h2.1,MapKept.run_getObj_map he,run_checkKey hd hku,run_findKey hd a2,MapKept.run_setObj_map _ he,Result.andThen]
 ·have hsame:∀w':World,Ext w C w' C->_:=fun w' hext=>a6 v ck w' C (Act.eval ⟨tmps,E.ds⟩ y) (h3.ext hext) (hrm.ext hext)
  refine key (ents.modify j fun e=>{ e with key:=u,val:=(Act.eval ⟨tmps,E.ds⟩ y) }) ck (mPut u v ck es).1 (fun w' hext=>(hsame w' hext).2) (by have h9:=(hsame w (Chg.refl _ _ _)).1;generalize mPut u v ck es=z at h9 ⊢;cases z;simp only at h9;subst h9;rfl) ?_
  unfold execOp
  simp only[ho]
  have hj:ents[j]?=some e:=a1
  simp only[Nat.zero_add]at a5
  simp[Instr.mapUpdate,run_underlying hm,h1.2,h2.1,MapKept.run_getObj_map he,run_checkKey hd hku,run_findKey hd a5,hj,a4,run_keyThatStays hku,MapKept.run_setObj_map _ he,Result.andThen]
theorem AStep.rangeMap{t kt et:TypeId}{x:Operand}{m:Id}{ck:Nat}{es:List (Nat×Value×FV)}(ho:o.op=.range t x)(hm:E.P.underlying t=some (.map kt et))(hx:aEval E.Γ fr x=some (.one (.mp m)))(hg:σ.get m=some (.map ck es)):
  AStep E o fr σ (.one (.ptr (.l σ.n) 0)) (σ.push (.iter m ck [] ck)):=by
 intro F w C tmps hi hf next Q hk
 have h1:=Q01 (a:=⟨tmps,E.ds⟩) hi hf hx
 simp only[RF,R]at h1
 obtain⟨hok,ents,he,hnf,hrm⟩:=hi.obj m _ hg
 obtain⟨C',k1,k2,k3,k4⟩:=hi.newAny (obj:=.mapIter (some (C.blk m)) ck #[] ck) (o:=.iter m ck [] ck) (by intro c t fr h;cases h) (fun _ _=>rfl) (fun C' hext hb hx hF=>by
  obtain⟨m1,m2,_⟩:=hext.id m trivial hok
  exact⟨by rw[hb,m2];exact hx,by rw[hb];exact hF,m1⟩)
 have hrun:(execOp (Act.eval ⟨tmps,E.ds⟩) o).run E.P w=.ok (.value (.pointer (some ⟨w.heap.size,0,none⟩))) (w.alloc (.mapIter (some (C.blk m)) ck #[] ck)):=by
  unfold execOp
  simp only[ho]
  simp[Instr.range,run_underlying hm,h1.2,MapKept.run_getObj_map he]
 unfold Oper.wp
 rw[hrun,Oper.upon_value]
 exact hk _ _ C' k1 k2 ⟨k3,by rw[k4]⟩
theorem AStep.entry{x:Operand}{it m:Id}{since last ck b:Nat}{seen:List Nat}{es:List (Nat×Value×FV)}{u:Value}{v:FV}(ho:o.op=.entry x)(hx:aEval E.Γ fr x=some (.one (.ptr it 0)))(hit:σ.get it=some (.iter m since (seen++[b]) ck))(hg:σ.get m=some (.map ck es))
  (hf : es.find? (fun x => x.1 == b) = some (b, u, v)) (hu : u.oneCell' = true) : AStep E o fr σ (.tup [.one (.lit u), v]) σ := by
 refine AStep.quiet fun F w C tmps hi hfr=>?_
 have h1:=Q01 (a:=⟨tmps,E.ds⟩) hi hfr hx
 simp only[RF,R]at h1
 obtain⟨hok,ents,he,hnf,hrm⟩:=hi.obj m _ hg
 obtain⟨hok2,hi1,_,_⟩:=hi.obj it _ hit
 have hfe:∀{es:List (Nat×Value×FV)}{ents:List MapEntry},RM w C es ents->es.find? (fun x=>x.1==b)=some (b,u,v)->∃e,ents.find? (fun e=>e.born==b)=some e/\e.key=u/\RF w C v e.val:=by
  intro es
  induction es with
  |nil=>intro ents _ h;simp at h
  |cons y es ih=>
   intro ents h hf
   obtain⟨b',k',v'⟩:=y
   simp only[RM]at h
   obtain⟨e,es',rfl,g1,g2,g3⟩:=h
   simp only[List.find?_cons]at hf ⊢
   rw[g1.2]
   cases hb:(b'==b) with
   |true=>
    rw[hb]at hf
    simp only[Option.some.injEq,Prod.mk.injEq]at hf
    obtain⟨_,rfl,rfl⟩:=hf
    exact⟨e,rfl,g1.1,g2⟩
   |false=>
    rw[hb]at hf
    exact ih g3 hf
 obtain⟨e,e1,e2,e3⟩:=hfe hrm hf
 refine⟨.tuple #[e.key,e.val],?_,[e.key,e.val],rfl,e.key,[e.val],rfl,⟨e2,hu⟩,e.val,[],rfl,e3,rfl⟩
 have hg1:(getObj (C.blk it)).run E.P w=.ok (.mapIter (some (C.blk m)) since (seen++[b]).toArray ck) w:=by simp[getObj,Sem.run,hi1]
 unfold execOp
 simp only[ho]
 simp[Instr.entry,h1.2,hg1,MapKept.run_getObj_map he,e1]
theorem AOps.nextMap{ops:Array Oper}{rest:List Oper}{K:Cont}{d:Nat}{x:Operand}{it m:Id}{since last ck:Nat}{seen:List Nat}{es:List (Nat×Value×FV)}(hgd:o.guard=none)(hdst:o.dst=some d)(hd:Nat.ble (d+1) E.N=true)(ho:o.op=.next x false)(hx:aEval E.Γ fr x=some (.one (.ptr it 0)))
  (hit:σ.get it=some (.iter m since seen last)) (hg:σ.get m=some (.map ck es)) (hold:∀x∈es,x.1 < since) (hsc:since<=last) (hkeys:∀x∈es,x.2.1.oneCell'=true)
  (hend:(∀x∈es,x.1∈seen)->AOps E ops rest K ((d,.tup [.one (.lit (.bool false))])::fr) σ)
  (hmore:∀b u v,(b,u,v)∈es->b∉seen->AOps E ops rest K ((d,.tup [.one (.lit (.bool true)),.one (.lit u),v])::fr) (σ.set it (.iter m since (seen++[b]) ck))):AOps E ops (o::rest) K fr σ:=by
 intro F w0 C0 w C tmps hgo hi hfr
 refine wpList_plain hgd fun N' hN=>?_
 have h1:=Q01 (a:=⟨tmps,E.ds⟩) hi hfr hx
 simp only[RF,R]at h1
 obtain⟨hok,ents,he,hnf,hrm⟩:=hi.obj m _ hg
 obtain⟨hok2,hi1,hnf2,_⟩:=hi.obj it _ hit
 have hmem:∀{es:List (Nat×Value×FV)}{ents:List MapEntry},RM w C es ents->(∀e∈ents,∃v,(e.born,e.key,v)∈es/\RF w C v e.val)/\(∀x∈es,∃e∈ents,e.born=x.1):=by
  intro es
  induction es with
  |nil=>intro ents h;simp only[RM]at h;subst h;simp
  |cons y es ih=>
   intro ents h
   obtain⟨b',k',v'⟩:=y
   simp only[RM]at h
   obtain⟨e,es',rfl,g1,g2,g3⟩:=h
   obtain⟨i1,i2⟩:=ih g3
   refine⟨fun e' he'=>?_,fun x hx=>?_⟩
   ·rcases List.mem_cons.1 he' with rfl|h
    ·exact⟨v',by rw[g1.1,g1.2];simp,g2⟩
    ·obtain⟨v,hv,hr⟩:=i1 e' h
     exact⟨v,by simp[hv],hr⟩
   ·rcases List.mem_cons.1 hx with rfl|h
    ·exact⟨e,by simp,g1.2⟩
    ·obtain⟨e',he',hb⟩:=i2 x h
     exact⟨e',by simp[he'],hb⟩
 obtain⟨m1,m2⟩:=hmem hrm
 have holdE:∀e∈ents.toArray.toList,e.born < since:=fun e he'=>by
  obtain⟨v,hv,_⟩:=m1 e (by simpa using he')
  exact hold _ hv
 rcases run_next_at (P:=E.P) w o.type (C.blk it) (C.blk m) since last ck seen.toArray ents.toArray hi1 he holdE hsc with ⟨hl,hrun⟩|⟨e,hel,w1,hw1,hrun⟩
 ·have hrun':(execOp (Act.eval ⟨tmps,E.ds⟩) o).run E.P w=.ok (.value (.tuple #[.bool false])) w:=by
   unfold execOp
   simp only[ho]
   simp[h1.2,hrun]
  unfold Oper.wp
  rw[hrun',Oper.upon_value]
  refine hN _ _ ?_
  rw[Q37]
  have hput:=Q2j (ds:=E.ds) (dst:=some d) (x:=.tup [.one (.lit (.bool false))]) (u:=.tuple #[.bool false]) hfr hd ⟨[.bool false],rfl,.bool false,[],rfl,⟨rfl,rfl⟩,rfl⟩
  rw[hdst]
  refine hend (fun x hx=>?_) F w0 C0 w C _ hgo hi hput
  obtain⟨e,he',hb⟩:=m2 x hx
  have h0:leftOf ents.toArray seen.toArray=#[]:=Array.eq_empty_of_size_eq_zero hl
  by_cases hc:x.1∈seen
  ·exact hc
  ·have:e∈leftOf ents.toArray seen.toArray:=by
    unfold leftOf
    rw[Array.mem_filter]
    refine⟨by simpa using he',?_⟩
    rw[hb];simp[hc]
   rw[h0]at this
   simp at this
 ·have hem:e∈ents/\e.born∉seen:=by
   have:e∈leftOf ents.toArray seen.toArray:=by simpa using hel
   unfold leftOf at this
   simpa using this
  obtain⟨v,hv,hrv⟩:=m1 e hem.1
  have hrun':(execOp (Act.eval ⟨tmps,E.ds⟩) o).run E.P w=.ok (.value (.tuple #[.bool true,e.key,e.val])) { w1 with heap:=w1.heap.setIfInBounds (C.blk it) (.mapIter (some (C.blk m)) since (seen.toArray.push e.born) ck) }:=by
   unfold execOp
   simp only[ho]
   simp[h1.2,hrun]
  have hstep:Goes F (fun _=>True) w C w1 C/\Inv E.Γ F w1 C σ/\w1.heap=w.heap:=by
   rcases hw1 with rfl|rfl
   ·exact⟨Goes.refl _ _ _ _,hi,rfl⟩
   ·exact⟨Goes.drew hi,hi.drew.2,rfl⟩
  obtain⟨s1,s2,s3⟩:=hstep
  obtain⟨k1,k2⟩:=s2.setAny (o':=.iter m since (seen++[e.born]) ck) (obj':=.mapIter (some (C.blk m)) since (seen.toArray.push e.born) ck) hit rfl rfl (by rw[s3];exact hi1) (by intro c t fr h;cases h) (by intro c t fr h;cases h) (fun w' hext hat _=>⟨by simpa using hat,hnf2,hok⟩)
  unfold Oper.wp
  rw[hrun',Oper.upon_value]
  refine hN _ _ ?_
  rw[Q37]
  have hgo2:=s1.trans k1
  have hput:=Q2j (ds:=E.ds) (dst:=some d) (x:=.tup [.one (.lit (.bool true)),.one (.lit e.key),v]) (u:=.tuple #[.bool true,e.key,e.val]) (hfr.ext hgo2.chg) hd ⟨[.bool true,e.key,e.val],rfl,.bool true,[e.key,e.val],rfl,⟨rfl,rfl⟩,e.key,[e.val],rfl,⟨rfl,hkeys _ hv⟩,e.val,[],rfl,hrv.ext hgo2.chg,rfl⟩
  rw[hdst]
  exact hmore e.born e.key v hv hem.2 F w0 C0 _ C _ (hgo.trans hgo2.toO) k2 hput
end
end Go.Abs
namespace Go.Abs

section
variable {Γ:List (Nat×List AC)}{F:Nat->Prop}{w:World}{C:Ctx}{σ:St}
def Ctx.froze (C:Ctx)(g:Nat):Ctx:={ C with prot:=fun a=>C.prot a∨a.block=g }
theorem Inv.freeze(hi:Inv Γ F w C σ){i:Id}{cs:List AC}(hg:σ.get i=some (.cells cs)):
  Goes F (fun _=>True) w C w (C.froze (C.blk i))/\Inv Γ F w (C.froze (C.blk i)) (σ.set i .dead)/\RL w (C.froze (C.blk i)) cs ⟨C.blk i,0,none⟩:=by
 obtain⟨hok,xs,T,h1,h2,h3,h4⟩:=hi.obj i _ hg
 have he:Ext w C w (C.froze (C.blk i)):=⟨fun _ _=>rfl,fun _ h=>.inl h,fun i _ ho=>⟨ho,rfl,rfl⟩⟩
 refine⟨⟨Stp.refl _ _,he,Nat.le_refl _,fun a ha=>ha.imp id (fun h=>by rw[h];exact h2)⟩,⟨hi.base,by rw[St.n_set];exact hi.next,fun g cs h=>(hi.glob g cs h).ext he,fun a ha=>?_,fun j p h=>?_,fun j k p q g a1 a2 a3 a4=>?_⟩,?_⟩
 ·rcases ha with ha|ha
  ·exact hi.prot a ha
  ·rw[ha];exact Q0b h1
 ·by_cases e:i=j
  ·subst e
   rw[St.get_set_same]at h
   injection h with h
   subst h
   exact⟨hok,trivial⟩
  ·rw[St.get_set_ne σ e]at h
   obtain⟨b1,b2⟩:=hi.obj j p h
   refine⟨b1,b2.keep he b1 (fun g x _ hx=>hx) (fun a hb _ ha=>?_)⟩
   rcases ha with ha|ha
   ·exact ha
   ·exact (e (hi.inj i j _ p a.block hg h (by simp[AObj.block,ha]) hb)).elim
 ·by_cases e1:i=j
  ·subst e1
   rw[St.get_set_same]at a1;injection a1 with a1;subst a1
   simp[AObj.block]at a3
  ·by_cases e2:i=k
   ·subst e2
    rw[St.get_set_same]at a2;injection a2 with a2;subst a2
    simp[AObj.block]at a4
   ·rw[St.get_set_ne σ e1]at a1
    rw[St.get_set_ne σ e2]at a2
    exact hi.inj j k p q g a1 a2 (by rw[←AObj.block_ext he (hi.obj j p a1).1];exact a3) (by rw[←AObj.block_ext he (hi.obj k q a2).1];exact a4)
 ·refine RL.of_new 0 (h3.ext he) (fun j v hj=>?_) (fun ad ha=>.inr ha)
  simp only[World.cell?,h1,Nat.zero_add]
  simpa using hj
end
def Qaj (i:Id)(cs:List AC)(fr:Fr):Fr->Prop
 |[]=>True
 |(k,x)::r=>(Fr.get k fr=some x∨∃off,Fr.get k fr=some (.one (.ptr i off))/\x=.one (.box (cs.drop off)))/\Qaj i cs fr r
theorem Qaj.get{i:Id}{cs:List AC}{fr:Fr}:∀{fr':Fr},Qaj i cs fr fr'->∀k x,Fr.get k fr'=some x->Fr.get k fr=some x∨∃off,Fr.get k fr=some (.one (.ptr i off))/\x=.one (.box (cs.drop off))
 |[],_,k,x,h=>by cases h
 |(j,v)::r,hs,k,x,h=>by
  simp only[Qaj]at hs
  simp only[Fr.get]at h
  by_cases e:j=k
  ·subst e;simp at h;subst h;exact hs.1
  ·rw[Q09 e]at h;exact Qaj.get hs.2 k x h
theorem Q8h{Γ:List (Nat×List AC)}{F:Nat->Prop}{w:World}{C:Ctx}{σ:St}{N:Nat}{fr fr':Fr}{tmps:Array Value}{i:Id}{cs:List AC}(hi:Inv Γ F w C σ)(hf:FrOk w C N fr tmps)(hg:σ.get i=some (.cells cs))(hs:Qaj i cs fr fr'):
  Goes F (fun _=>True) w C w (C.froze (C.blk i))/\Inv Γ F w (C.froze (C.blk i)) (σ.set i .dead)/\FrOk w (C.froze (C.blk i)) N fr' tmps:=by
 obtain⟨h1,h2,h3⟩:=hi.freeze hg
 refine⟨h1,h2,hf.1,fun k x hk=>?_⟩
 rcases hs.get k x hk with h|⟨off,h,rfl⟩
 ·obtain⟨u,hu,hr⟩:=hf.2 k x h
  exact⟨u,hu,hr.ext h1.chg⟩
 ·obtain⟨u,hu,hr⟩:=hf.2 k _ h
  simp only[RF,R]at hr
  refine⟨u,hu,⟨C.blk i,off,none⟩,hr.2,rfl,?_⟩
  have:=RL.drop off rfl h3
  simpa using this
theorem AOps.freeze1{E:Env}{ops:Array Oper}{l:List Oper}{K:Cont}{fr:Fr}{σ:St}(i:Id)(d:Nat){cs:List AC}(hg:σ.get i=some (.cells cs))(hd:Fr.get d fr=some (.one (.ptr i 0)))(h:AOps E ops l K ((d,.one (.box cs))::fr) (σ.set i .dead)):AOps E ops l K fr σ:=by
 intro F w0 C0 w C tmps hgo hi hf
 obtain⟨h1,h2,h3⟩:=Q8h hi hf hg (fr':=[]) trivial
 refine h F w0 C0 w _ tmps (hgo.trans h1.toO) h2 ⟨hf.1,fun k x hk=>?_⟩
 obtain⟨_,_,h4⟩:=hi.freeze hg
 simp only[Fr.get]at hk
 by_cases e:d=k
 ·subst e
  simp at hk
  subst hk
  obtain⟨u,hu,hr⟩:=hf.2 d _ hd
  simp only[RF,R]at hr
  exact⟨u,hu,⟨C.blk i,0,none⟩,hr.2,rfl,h4⟩
 ·rw[Q09 e]at hk
  obtain⟨u,hu,hr⟩:=hf.2 k x hk
  exact⟨u,hu,hr.ext h1.chg⟩
theorem ACode.freeze1{E:Env}{c:Code}{K:Cont}{fr:Fr}{σ:St}(i:Id)(d:Nat){cs:List AC}(hg:σ.get i=some (.cells cs))(hd:Fr.get d fr=some (.one (.ptr i 0)))(h:ACode E c K ((d,.one (.box cs))::fr) (σ.set i .dead)):ACode E c K fr σ:=by
 intro F w0 C0 w C tmps hgo hi hf
 obtain⟨h1,h2,h3⟩:=Q8h hi hf hg (fr':=[]) trivial
 refine h F w0 C0 w _ tmps (hgo.trans h1.toO) h2 ⟨hf.1,fun k x hk=>?_⟩
 obtain⟨_,_,h4⟩:=hi.freeze hg
 simp only[Fr.get]at hk
 by_cases e:d=k
 ·subst e
  simp at hk
  subst hk
  obtain⟨u,hu,hr⟩:=hf.2 d _ hd
  simp only[RF,R]at hr
  exact⟨u,hu,⟨C.blk i,0,none⟩,hr.2,rfl,h4⟩
 ·rw[Q09 e]at hk
  obtain⟨u,hu,hr⟩:=hf.2 k x hk
  exact⟨u,hu,hr.ext h1.chg⟩
end Go.Abs
namespace Go.Abs
theorem Addr.add_zero'(a:Addr):a.add 0=a:=by
 cases a;simp[Addr.add]
theorem RS.take{w:World}{C:Ctx}{s:Nat}:∀{es:List (List AC)}{ad:Addr}(n:Nat),RS w C s es ad->RS w C s (es.take n) ad
 |[],_,n,_=>by simp[RS]
 |e::es,ad,0,_=>by simp[RS]
 |e::es,ad,n+1,h=>by
  simp only[List.take_succ_cons,RS]at *
  exact⟨h.1,h.2.1,RS.take n h.2.2⟩
section
variable {E:Env}{o:Oper}{fr:Fr}{σ:St}
theorem AStep.convInt{src dst:TypeId}{x:Operand}{j k:IntKind}{n:Int}(ho:o.op=.convert src dst x)(hs:(E.P.underlying src).isSome=true)(hd:E.P.underlying dst=some (.int k))(hx:aEval E.Γ fr x=some (.one (.lit (.int j n))))(hr:Q4j k n):
  AStep E o fr σ (.one (.lit (.int k n))) σ:=by
 refine AStep.quiet fun F w C tmps hi hf=>⟨.int k n,?_,rfl,rfl⟩
 have h1:=Q01 (a:=⟨tmps,E.ds⟩) hi hf hx
 simp only[RF,R]at h1
 obtain⟨d,hd'⟩:=Option.isSome_iff_exists.mp hs
 unfold execOp
 simp only[ho,h1.1]
 simp[convert,run_underlying hd',run_underlying hd,Conv.intToInt,Qd5 hr]
theorem AStep.shr{t yt:TypeId}{x y:Operand}{k j:IntKind}{a b:Int}(ho:o.op=.binOp .shr t x y yt)(hx:aEval E.Γ fr x=some (.one (.lit (.int k a))))(hy:aEval E.Γ fr y=some (.one (.lit (.int j b))))(h0:0<=b)(h1:b<=k.bits):
  AStep E o fr σ (.one (.lit (.int k (a / 2 ^ b.toNat)))) σ:=by
 refine AStep.quiet fun F w C tmps hi hf=>⟨.int k (a / 2 ^ b.toNat),?_,rfl,rfl⟩
 have e1:=Q01 (a:=⟨tmps,E.ds⟩) hi hf hx
 have e2:=Q01 (a:=⟨tmps,E.ds⟩) hi hf hy
 simp only[RF,R]at e1 e2
 unfold execOp
 simp only[ho,e1.1,e2.1,eqGuard_shr,Sem.run_bind,Sem.run_pure,Result.andThen_ok,binOp_shr,shift_shr _ _ _ _ h0 h1]
theorem AStep.sliceTo{t:TypeId}{ti tj:TI}{x h:Operand}{k:IntKind}{b sz:Nat}{es:List (List AC)}(hT:TabOk E.P E.T)(ho:o.op=.slice t x none (some h) none)(ht:Tab.get t E.T=some ti)(hk:Nat.beq ti.kind 2=true)(hj:Tab.get ti.elem E.T=some tj)(hx:aEval E.Γ fr x=some (.one (.sl sz es)))(hh:aEval E.Γ fr h=some (.one (.lit (.int k (b:Int)))))(hb:b<=es.length):
  AStep E o fr σ (.one (.sl sz (es.take b))) σ:=by
 refine AStep.quiet fun F w C tmps hi hf=>?_
 have e1:=Q01 (a:=⟨tmps,E.ds⟩) hi hf hx
 have e3:=Q01 (a:=⟨tmps,E.ds⟩) hi hf hh
 simp only[RF,R]at e1 e3
 obtain⟨ad,cap,hv,hcap,hrs⟩:=e1
 have hu:=(hT t ti ht).slice (Nat.eq_of_beq_eq_true hk)
 have hsz:=(hT _ _ hj).run_sizeOf (w:=w)
 have hrun:(execOp (Act.eval ⟨tmps,E.ds⟩) o).run E.P w=.ok (.value (.slice (if cap=0 then ad else ad.map (·.add (0 * tj.size))) b cap)) w:=by
  have hb':(b:Int)<=(cap:Int):=by omega
  unfold execOp
  simp only[ho,hv,e3.1,Option.map_some,Option.map_none]
  have hb2:b<=cap:=by omega
  simp[Instr.sliceAt,Instr.slice,run_underlying hu,hsz,Instr.sliceBounds,Instr.sliceBound,asIntOf,hb2,Result.andThen]
 have hlen:(es.take b).length=b:=by simp;omega
 refine⟨_,hrun,?_⟩
 have hz:(if cap=0 then ad else ad.map (·.add (0 * tj.size)))=ad:=by
  split
  ·rfl
  ·cases ad with
   |none=>rfl
   |some a=>simp[Addr.add_zero']
 rw[hz]
 simp only[RF,R,hlen]
 refine⟨ad,cap,rfl,by omega,?_⟩
 rcases hrs with rfl|⟨a,rfl,hs,hr⟩
 ·left;simp
 ·right
  exact⟨a,rfl,hs,RS.take b hr⟩
end
theorem ACode.growS{E:Env}{c:Code}{K:Cont}{fr:Fr}{σ:St}(d:Nat)(e:TypeId)(s:Nat)(hd:Fr.get d fr=some (.one (.lit (.slice none 0 0))))(hk:ACode E c K ((d,.one (.gs s [] (.l σ.n)))::fr) (σ.push (.tok e s 0))):ACode E c K fr σ:=by
 intro F w0 C0 w C tmps hg hi hf
 have hno:=Ctx.tokd_new C none (fun _=>False) hi.next
 have he:Ext w C w (C.tokd none (fun _=>False)):=⟨fun _ _=>rfl,fun _ h=>.inl h,fun i _ ho=>Ctx.tokd_old C _ _ ho⟩
 have hi1:Inv E.Γ F w (C.tokd none (fun _=>False)) (σ.push (.tok e s 0)):=
  hi.addObj (σ.get_push _) he (by simp[Ctx.tokd,Ctx.more,St.push,hi.next]) hi.base (fun a ha=>hi.prot a (ha.resolve_right id)) (fun _ _ _ _ _ _ h=>h) (fun _ _ _ _ _ _ ha=>ha.resolve_right id) hno.1
   (by simp only[ObjOk,hno.2]) (fun i p g _ _ hb=>by simp[AObj.block,hno.2]at hb)
 refine hk F w0 C0 w _ tmps (hg.trans ⟨Stp.refl _ _,he.weaken (fun _ _=>trivial),by simp[Ctx.tokd,Ctx.more],fun a ha=>.inl (ha.resolve_right id)⟩) hi1 ?_
 have hf':=hf.ext he
 refine⟨hf'.1,fun k x hkx=>?_⟩
 simp only[Fr.get]at hkx
 by_cases e':d=k
 ·subst e'
  simp at hkx
  subst hkx
  obtain⟨u,hu,hr⟩:=hf.2 d _ hd
  simp only[RF,R]at hr
  refine⟨u,hu,hno.1,.inl ⟨hr.1,rfl,hno.2⟩⟩
 ·rw[Q09 e']at hkx
  exact hf'.2 k x hkx
inductive WkC:List AC->List AC->Prop
 |nil:WkC [] []
 |cons {x y:AC}{xs ys:List AC}(h:Wk x y) (k:WkC xs ys):WkC (x::xs) (y::ys)
inductive WkS:List (List AC)->List (List AC)->Prop
 |nil:WkS [] []
 |cons {x y:List AC}{xs ys:List (List AC)}(h:WkC x y) (k:WkS xs ys):WkS (x::xs) (y::ys)
theorem WkC.len{x y:List AC}(h:WkC x y):x.length=y.length:=by induction h <;> simp_all
theorem WkS.len{x y:List (List AC)}(h:WkS x y):x.length=y.length:=by induction h <;> simp_all
theorem WkC.rl{w:World}{C:Ctx}{x y:List AC}(h:WkC x y):∀{ad:Addr},RL w C x ad->RL w C y ad:=by
 induction h with
 |nil=>intro ad h;exact h
 |cons h k ih=>
  intro ad hr
  simp only[RL]at *
  obtain⟨⟨u,hu,hp,hr⟩,h2⟩:=hr
  exact⟨⟨u,hu,hp,h _ _ _ hr⟩,ih h2⟩
theorem WkS.rs{w:World}{C:Ctx}{s:Nat}{x y:List (List AC)}(h:WkS x y):∀{ad:Addr},RS w C s x ad->RS w C s y ad:=by
 induction h with
 |nil=>intro ad h;exact h
 |cons h k ih=>
  intro ad hr
  simp only[RS]at *
  exact⟨h.len▸hr.1,h.rl hr.2.1,ih hr.2.2⟩
theorem Wk.sl{s:Nat}{x y:List (List AC)}(h:WkS x y):Wk (.sl s x) (.sl s y):=by
 intro w C v hr
 simp only[R]at *
 obtain⟨a,cap,rfl,hc,h2⟩:=hr
 rw[←h.len]
 refine⟨a,cap,rfl,hc,?_⟩
 rcases h2 with rfl|⟨ad,rfl,hs,h2⟩
 ·left;cases h;rfl
 ·exact .inr ⟨ad,rfl,hs,h.rs h2⟩
theorem Wk.box{x y:List AC}(h:WkC x y):Wk (.box x) (.box y):=by
 intro w C v hr
 simp only[R]at *
 obtain⟨ad,rfl,hs,h2⟩:=hr
 exact⟨ad,rfl,hs,h.rl h2⟩
theorem Q4e{E:Env}{l:List Oper}{frb:Fr}{σ0 σ1:St}{cs:List (Nat×FV)}{n al:Nat}{vs:List FV}{va:FV}{oal:Oper}(hT:TabOk E.P E.T)(hall:∀k o,l[k]?=some o->k < n->o.after.all (fun e=>!Region.binds .any e||decide (e.on < k))=true)
  (hoal : l[al]? = some oal) (hal : HStep E l.toArray oal (depFr l vs oal ++ frb) σ0 σ1 va) (hcs0 : Q0n E l frb σ0 vs cs) (hcs1 : Q0n E l frb σ1 vs cs) :
  ∀(os:List Oper) (k:Nat) (acc ws:List FV),acc.length=k->(∀i o,os[i]?=some o->l[k+i]?=some o/\k+i < n)->Q0f E l.toArray l frb σ0 ((al,va)::cs) k os acc=some ws->Q0f E l.toArray l frb σ1 ((al,va)::cs) k os acc=some ws->acc++ws=vs->Heads E l.toArray l vs frb σ0 σ1 al k os ws
 |[],k,acc,ws,_,_,h,_,_=>by simp only[Q0f,Option.some.injEq]at h;subst h;trivial
 |o::os,k,acc,ws,hl,hos,h,h',hv=>by
  have ho:=hos 0 o rfl
  simp only[Nat.add_zero]at ho
  simp only[Q0f,Q13]at h h'
  cases hb:(o.dst.isSome&&dstOk E.N o.dst) with
  |false=>rw[hb]at h;cases h
  |true=>
   rw[hb]at h h'
   simp only[Bool.and_eq_true]at hb
   simp only[cond_true]at h h'
   have rest:∀{v v':FV},(match Q0f E l.toArray l frb σ0 ((al,va)::cs) (k+1) os (acc++[v]) with|some vs=>some (v::vs)|none=>none)=some ws->(match Q0f E l.toArray l frb σ1 ((al,va)::cs) (k+1) os (acc++[v']) with|some vs=>some (v'::vs)|none=>none)=some ws->v'=v/\∃ws',ws=v::ws'/\Heads E l.toArray l vs frb σ0 σ1 al (k+1) os ws':=by
    intro v v' h h'
    split at h
    ·rename_i ws' hw
     simp only[Option.some.injEq]at h;subst h
     split at h'
     ·rename_i ws2 hw2
      simp only[Option.some.injEq,List.cons.injEq]at h'
      obtain⟨rfl,rfl⟩:=h'
      exact⟨rfl,ws2,rfl,Q4e hT hall hoal hal hcs0 hcs1 os (k+1) (acc++[v']) ws2 (by simp[hl]) (fun i o hi=>by have:=hos (i+1) o hi;rw[show k+1+i=k+(i+1) by omega];exact this) hw hw2 (by simpa using hv)⟩
     ·cases h'
    ·cases h
   by_cases hka:al=k
   ·subst hka
    have hc:lookC al ((al,va)::cs)=some va:=by simp[lookC]
    rw[hc]at h h'
    obtain⟨_,ws',rfl,hw⟩:=rest h h'
    rw[ho.1]at hoal
    cases hoal
    exact Heads.alloc hb.1 hb.2 (by simp) hal hw
   ·have hne:Nat.beq k al=false:=Q09 (Ne.symm hka)
    have hc:lookC k ((al,va)::cs)=lookC k cs:=by simp only[lookC,Q09 hka,cond_false]
    rw[hc]at h h'
    cases hc2:lookC k cs with
    |some v=>
     rw[hc2]at h h'
     obtain⟨_,ws',rfl,hw⟩:=rest h h'
     obtain⟨o',ho',hs0⟩:=hcs0.get hc2
     obtain⟨o2,ho2,hs1⟩:=hcs1.get hc2
     rw[ho.1]at ho' ho2
     cases ho';cases ho2
     exact Heads.op hb.1 hb.2 hne hs0 hs1 hw
    |none=>
     rw[hc2]at h h'
     simp only at h h'
     cases hp:Q5n o.op with
     |false=>rw[hp]at h;cases h
     |true=>
      rw[hp]at h h'
      simp only[cond_true]at h h'
      have hpure:∀{τ τ':St}{v:FV},aHead E l.toArray o (depFr l acc o++frb) τ=some (v,τ')->τ'=τ:=by
       intro τ τ' v ha
       have key:∀{y:FV}{τ2:St},(match aOp E.T E.Γ o.op (depFr l acc o++frb) τ with|some (some x,σ')=>some (x,σ')|_=>none)=some (y,τ2)->τ2=τ:=by
        intro y τ2 h
        split at h
        ·rename_i h1
         simp only[Option.some.injEq,Prod.mk.injEq]at h
         obtain⟨rfl,rfl⟩:=h
         exact Q63 hp h1
        ·cases h
       unfold aHead at ha
       split at ha
       ·exact key ha
       ·split at ha
        ·split at ha
         ·exact key ha
         ·exact key ha
         ·cases ha;rfl
         ·cases ha;rfl
         ·cases ha;rfl
         ·cases ha
        ·cases ha
      split at h
      ·rename_i v σ' ha
       split at h'
       ·rename_i v' σ2 ha'
        obtain⟨rfl,ws',rfl,hw⟩:=rest h h'
        have hdep:depFr l vs o=depFr l acc o:=by rw[←hv];exact Q2v (by rw[hl];exact hall k o ho.1 ho.2)
        have e1:=hpure ha
        have e2:=hpure ha'
        subst e1;subst e2
        have hs0:=HStep.auto (ops:=l.toArray) hT ha
        have hs1:=HStep.auto (ops:=l.toArray) hT ha'
        rw[←hdep]at hs0 hs1
        exact Heads.op hb.1 hb.2 hne hs0 hs1 hw
       ·cases h'
      ·cases h
theorem ACode.drawXA{E:Env}{id:Nat}{l hd tl:List Oper}{K:Cont}{fr frb fr':Fr}{σ σ1:St}{vs:List FV}{va:FV}{oal:Oper}(hT:TabOk E.P E.T)(n al:Nat)(cs:List (Nat×FV))(hm:E.P.follows .mixedOrders=true)(hB:drawB l n=true)(haln:Nat.ble (al+1) n=true)(hsp:Q35 n l=some (hd,tl))(hfb:Fr.woO (dsts hd) fr=some frb)
  (hoal:l[al]?=some oal) (hal:aHead E l.toArray oal (depFr l [] oal++frb) σ=some (va,σ1)) (hda:oal.after=#[]) (hrun:Q0f E l.toArray l frb σ ((al,va)::cs) 0 hd []=some vs) (hrun1:Q0f E l.toArray l frb σ1 ((al,va)::cs) 0 hd []=some vs) (hfr:frOf hd vs frb=some fr') (hcs:Q0n E l frb σ vs cs) (hcs1:Q0n E l frb σ1 vs cs) (htail:AOps E l.toArray tl K fr' σ1):ACode E (.region id l.toArray true) K fr σ:=by
 obtain⟨h1,h2⟩:=Q21 hsp
 subst h1;subst h2
 have h3:=Fr.woO_eq hfb
 have h4:=Q6o hfr
 have hn:n < l.length:=by
  simp only[drawB,Bool.and_eq_true,decide_eq_true_eq]at hB
  exact hB.1.1.1.1.1
 have hlast:((l.take n).zipIdx.all fun x=>x.1.after.all fun e=>!Region.binds .any e||decide (e.on < x.2))=true:=by
  simp only[drawB,Bool.and_eq_true]at hB
  exact hB.2
 have hdep:∀ws:List FV,depFr l ws oal=[]:=fun ws=>by simp[depFr,hda]
 refine ACode.drawAF n al vs _ hm haln hB rfl frb h3 (Q4e (n:=n) (va:=va) hT (fun k o hk hkn=>?_) hoal (by rw[hdep,←hdep []];exact HStep.auto hT hal) hcs hcs1 _ 0 [] vs rfl (fun i o hi=>?_) hrun hrun1 rfl) (by rw[h4];exact htail)
 ·have:=List.all_eq_true.1 hlast (o,k) (by
   rw[List.mem_iff_getElem?]
   exact⟨k,by rw[List.getElem?_zipIdx,List.getElem?_take_of_lt hkn,hk];simp⟩)
  exact this
 ·have hi2:i < n:=by
   have:=(List.getElem?_eq_some_iff.1 hi).1
   simp at this;omega
  rw[List.getElem?_take_of_lt hi2]at hi
  exact⟨by simpa using hi,by omega⟩
section
variable {E:Env}{o:Oper}{fr:Fr}{σ:St}
theorem AStep.indexArr{t:TypeId}{ti tj:TI}{x i:Operand}{k:IntKind}{n:Int}{cs:List AC}(hT:TabOk E.P E.T)(ho:o.op=.indexAddr t x i)(ht:Tab.get t E.T=some ti)(hk:Nat.beq ti.kind 3=true)(hj:Tab.get ti.elem E.T=some tj)(hx:aEval E.Γ fr x=some (.one (.box cs)))(hi':aEval E.Γ fr i=some (.one (.lit (.int k n))))(h0:0<=n)(hn:n < ti.len):
  AStep E o fr σ (.one (.box (cs.drop (n.toNat * tj.size)))) σ:=by
 refine AStep.quiet fun F w C tmps hi hf=>?_
 have h1:=Q01 (a:=⟨tmps,E.ds⟩) hi hf hx
 have h2:=Q01 (a:=⟨tmps,E.ds⟩) hi hf hi'
 simp only[RF,R]at h1 h2
 obtain⟨ad,hv,hs,hr⟩:=h1
 obtain⟨inf,d,z,_,hu,_,_,_,_,_,hkd⟩:=(hT t ti ht).ex
 have hkd':d=.array ti.len ti.elem:=by simpa[kindOf,Nat.eq_of_beq_eq_true hk]using hkd
 subst hkd'
 have hsz:=(hT _ _ hj).run_sizeOf (w:=w)
 refine⟨.pointer (some (ad.add (n.toNat * tj.size))),?_,ad.add (n.toNat * tj.size),rfl,by rw[Addr.add_none hs],?_⟩
 ·unfold execOp
  simp only[ho]
  simp[Instr.indexAt,hv,h2.1,asIntOf,run_underlying hu,Instr.sureAddr,h0,hn,hsz,Result.andThen]
 ·rw[Addr.add_none hs]
  exact RL.drop _ hs hr
end
theorem HStep.litB{E:Env}{ops:Array Oper}{o:Oper}{fr:Fr}{σ:St}{b b':Bool}(hT:TabOk E.P E.T)(h:aHead E ops o fr σ=some (.one (.lit (.bool b)),σ))(hb:b=b'):HStep E ops o fr σ σ (.one (.lit (.bool b'))):=by
 subst hb;exact HStep.auto hT h
end Go.Abs
namespace Go.Abs
open Go.RowKit (Below)
open Go.ChangeShapes

def ctx0 (w:World):Ctx:=⟨fun a=>a.block < w.heap.size,0,0,fun _=>0,fun _=>none⟩
theorem inv0{Γ:List (Nat×List AC)}{w:World}(hg:∀g cs,(g,cs)∈Γ->RG w (ctx0 w) cs g):Inv Γ (fun k=>k < w.heap.size) w (ctx0 w) ⟨0,[],fun _=>none⟩:=by
 have hget:∀i,(⟨0,[],fun _=>none⟩:St).get i=none:=by intro i;cases i <;> rfl
 refine⟨fun _ h=>h,rfl,hg,fun a h=>h,fun i o h=>?_,fun i j o o' g h _ _ _=>?_⟩
 ·rw[hget]at h;cases h
 ·rw[hget]at h;cases h

theorem RG.ofVar{P:Program}{w:World}{name:String}{g:Nat}{xs:List Value}(hg:P.globalNamed name=some g)(hv:w.var? P name=some xs.toArray)(h1:xs.all Value.oneCell'=true):RG w (ctx0 w) (xs.map .lit) g:=by
 simp only[World.var?,hg,Option.bind_some]at hv
 cases ho:w.heap[g]? with
 |none=>rw[ho]at hv;cases hv
 |some o=>
  rw[ho]at hv
  cases o with
  |cells c t fr=>
   simp only[Option.some.injEq]at hv
   subst hv
   have hlt:g < w.heap.size:=Q0b ho
   have hc:∀j,w.cell? ⟨g,j,none⟩=xs[j]?:=fun j=>by simp[World.cell?,ho]
   have key:∀(l:List Value) (k:Nat),xs.drop k=l->l.all Value.oneCell'=true->RL w (ctx0 w) (l.map .lit) ⟨g,k,none⟩:=by
    intro l
    induction l with
    |nil=>intro k _ _;simp[RL]
    |cons x l ih=>
     intro k hk hl
     simp only[List.all_cons,Bool.and_eq_true]at hl
     have hx:xs[k]?=some x:=by have:=congrArg (·[0]?) hk;simpa using this
     refine⟨⟨x,(hc k).trans hx,hlt,by simp[R,hl.1]⟩,ih (k+1) ?_ hl.2⟩
     rw[←List.drop_drop,hk];rfl
   exact⟨key xs 0 rfl h1,by rw[hc];simp,hlt⟩
  |_=>cases hv
theorem Stp.below{F:Nat->Prop}{w w':World}(h:Stp F w w'){B:Nat}(hF:∀k,k < B->F k):Below B w w':=
 ⟨h.os,h.tape,h.output,h.size,fun k hk=>h.block k (hF k hk)⟩

theorem APure.calls{P:Program}{Γ:List (Nat×List AC)}{g:Nat}{args:List FV}{r:FV}(h:APure P Γ g args r){w:World}{vs:List Value}(hg:∀g cs,(g,cs)∈Γ->RG w (ctx0 w) cs g)
  (ha:RFs w (ctx0 w) args vs):Calls P g vs.toArray w fun e w'=>∃v C',e=.returned v/\RF w' C' r v/\Below w.heap.size w w' :=
 ((h (fun _ => none)).2 _ w (ctx0 w) vs rfl (inv0 hg) ha).mono fun e w' ⟨v, r', ou', C', h1, h2, h3, h4, h5, h6, h7⟩ =>
  ⟨v,C',h1,by rw[←h6];exact h5,h2.stp.below fun _ h=>h⟩

section
variable {H:Type}{enc:TypeId×Value->H}{P:Program}{w:World}{base:Nat}{sp:Nat->Bool}{held:Bool}

def Opens (enc:TypeId×Value->H)(P:Program)(w:World)(bulk:DataW H->Nat)(t:TypeId)(n:Nat){α:Type}(c:α->List AC)(wt:α->Nat):Prop:=
 ∀(cs:List Value) (x:DataW H×List MemPlace),DataW.trod enc P w 0 (fun _=>true) true n t cs=some x->∃a:α,RV w (ctx0 w) (c a) cs/\wt a<=bulk x.1

theorem cells?_held{a:Addr}{n:Nat}{cs:List Value}(h:w.cells? base a n=some cs):cs.length=n/\∀j v,cs[j]?=some v->w.cell? (a.add j)=some v:=by
 unfold World.cells? at h
 split at h
 ·have h1:∀(l:List Nat) (cs:List Value),l.mapM (fun i=>w.cell? (a.add i))=some cs->cs.length=l.length/\∀(j:Nat) (v:Value),cs[j]?=some v->∃i,l[j]?=some i/\w.cell? (a.add i)=some v:=by
   intro l
   induction l with
   |nil=>intro cs h;simp at h;subst h;simp
   |cons i l ih=>
    intro cs h
    rw[List.mapM_cons]at h
    obtain⟨u,hu,h⟩:=Option.bind_eq_some_iff.1 h
    obtain⟨us,hus,h⟩:=Option.bind_eq_some_iff.1 h
    simp at h
    subst h
    obtain⟨k1,k2⟩:=ih us hus
    refine⟨by simp[k1],fun j v hj=>?_⟩
    cases j with
    |zero=>simp at hj;subst hj;exact⟨i,rfl,hu⟩
    |succ j=>simpa using k2 j v (by simpa using hj)
  obtain⟨k1,k2⟩:=h1 _ _ h
  refine⟨by simpa using k1,fun j v hj=>?_⟩
  obtain⟨i,hi,hc⟩:=k2 j v hj
  have:j < n:=by
   have:=(List.getElem?_eq_some_iff.1 hi).1
   simpa using this
  rw[List.getElem?_range this]at hi
  injection hi with hi
  subst hi
  exact hc
 ·cases h
theorem cell?_lt{a:Addr}{v:Value}(h:w.cell? a=some v):a.block < w.heap.size/\a.spot=none:=by
 unfold World.cell? at h
 split at h
 ·rename_i c e t he
  refine⟨Q0b he,?_⟩
  cases hs:a.spot with
  |none=>rfl
  |some x=>rw[hs]at h;simp at h
 ·cases h
theorem RL.ofCells{cs:List AC}{xs:List Value}:∀{k g:Nat},RV w (ctx0 w) cs xs->(∀(j:Nat)(v:Value),xs[j]?=some v->w.cell? ⟨g,k+j,none⟩=some v)->RL w (ctx0 w) cs ⟨g,k,none⟩:=by
 induction cs generalizing xs with
 |nil=>intro k g _ _;trivial
 |cons c cs ih=>
  intro k g h hc
  obtain⟨u,us,rfl,h1,h2⟩:=h
  refine⟨⟨u,by simpa using hc 0 u rfl,(cell?_lt (by simpa using hc 0 u rfl)).1,h1⟩,ih h2 fun j v hj=>?_⟩
  have:=hc (j+1) v (by simpa using hj)
  rw[show k+1+j=k+(j+1) by omega]
  exact this

theorem Opens.int{bulk:DataW H->Nat}{t:TypeId}{n:Nat}{k:IntKind}(ht:P.underlying t=some (.int k)):Opens enc P w bulk t n (fun i:{i:Int // k.min<=i/\i<=k.max}=>[.lit (.int k i.1)]) (fun _=>0):=by
 intro cs x h
 obtain⟨i,rfl,rfl,hw⟩:=DataW.trod_int ht h
 refine⟨⟨i,?_⟩,⟨_,_,rfl,⟨rfl,rfl⟩,rfl⟩,Nat.zero_le _⟩
 simpa[Lit.wf]using hw
def Q3b (bulk:DataW H->Nat)(l:List (DataW H)):Nat:=(l.map bulk).sum
def wtAll {α:Type}(wt:α->Nat)(l:List α):Nat:=(l.map wt).sum

theorem Opens.slice{bulk:DataW H->Nat}(hb:∀l r,Q3b bulk l+1<=bulk (.slice l r))(hn:1<=bulk .nil){t e:TypeId}{n s:Nat}(ht:P.underlying t=some (.slice e))(hs:P.cellsOf e=s)(h0:0 < s)
  {α:Type}{c:α->List AC}{wt:α->Nat}(he:Opens enc P w bulk e n c wt):Opens enc P w bulk t (n+1) (fun l:List α=>[.sl s (l.map c)]) (fun l=>wtAll wt l+1):=by
 intro cs x h
 rcases DataW.trod_slice ht h with ⟨rfl,rfl⟩|⟨a,len,cap,elems,rest,m,hm,rfl,rfl,_,hl,hmx,hlen,hel,_,_⟩
 ·exact⟨[],⟨_,_,rfl,⟨none,0,rfl,Nat.le_refl _,.inl rfl⟩,rfl⟩,by simpa[wtAll]using hn⟩
 obtain rfl:n=m:=by omega
 rw[hs]at hel
 have hel':∀i,i < elems.length->∃cs',w.cells? 0 (a.add (i * s)) s=some cs'/\∃y,elems[i]?=some y/\DataW.trod enc P w 0 (fun _=>true) true n e cs'=some y:=fun i hi=>by
  have h1:=hel i (by omega)
  rw[List.getElem?_eq_getElem hi]at h1
  obtain⟨cs',h2,h3⟩:=Option.bind_eq_some_iff.1 h1
  exact⟨cs',h2,_,List.getElem?_eq_getElem hi,h3⟩
 have hspot:elems≠[]->a.spot=none:=fun hne=>by
  have hpos:0 < elems.length:=List.length_pos_iff.2 hne
  obtain⟨cs',h1,_⟩:=hel' 0 hpos
  obtain⟨hcl,hch⟩:=cells?_held h1
  obtain⟨v,hv⟩:∃v,cs'[0]?=some v:=⟨_,List.getElem?_eq_getElem (by omega)⟩
  have:=(cell?_lt (hch 0 v hv)).2
  simpa[Addr.add]using this
 have key:a.spot=none->∀(elems:List (DataW H×List MemPlace)) (off:Nat),(∀i,i < elems.length->∃cs',w.cells? 0 (a.add ((off+i) * s)) s=some cs'/\∃y,elems[i]?=some y/\DataW.trod enc P w 0 (fun _=>true) true n e cs'=some y)->
   ∃l:List α,l.length=elems.length/\wtAll wt l<=Q3b bulk (elems.map (·.1))/\RS w (ctx0 w) s (l.map c) ⟨a.block,a.off+off * s,none⟩:=by
  intro hsp elems
  induction elems with
  |nil=>intro off _;exact⟨[],rfl,by simp[wtAll,Q3b],trivial⟩
  |cons y ys ih=>
   intro off h
   obtain⟨cs',h1,y',hy,h2⟩:=h 0 (by simp)
   simp at hy
   subst hy
   obtain⟨l,k1,k2,k3⟩:=ih (off+1) fun i hi=>by
    obtain⟨cs',j1,y',j2,j3⟩:=h (i+1) (by simpa using hi)
    refine⟨cs',by rw[show off+1+i=off+(i+1) by omega];exact j1,y',by simpa using j2,j3⟩
   obtain⟨b,hb1,hb2⟩:=he cs' y h2
   obtain⟨hcl,hch⟩:=cells?_held h1
   refine⟨b::l,by simp[k1],?_,?_⟩
   ·simp only[wtAll,Q3b,List.map_cons,List.sum_cons]at *;omega
   ·refine⟨by have:=hb1.length;omega,RL.ofCells hb1 fun j v hj=>?_,?_⟩
    ·have:=hch j v hj
     rw[Addr.add_none hsp,Addr.add_none rfl]at this
     simpa using this
    ·have:a.off+(off+1) * s=a.off+off * s+s:=by rw[Nat.add_mul];omega
     rw[this]at k3
     exact k3
 have hbk:=hb (elems.map (·.1)) (rest.map (·.1))
 cases elems with
 |nil=>exact⟨[],⟨_,_,rfl,⟨some a,cap,by simp at hlen;simp[hlen],Nat.zero_le _,.inl rfl⟩,rfl⟩,by simp[wtAll]at *;omega⟩
 |cons y ys=>
  have hsp:=hspot (by simp)
  obtain⟨l,k1,k2,k3⟩:=key hsp (y::ys) 0 fun i hi=>by simpa using hel' i hi
  refine⟨l,⟨_,_,rfl,⟨some a,cap,by simp[k1,←hlen],by simp[k1];simp at hlen;omega,.inr ⟨a,rfl,hsp,?_⟩⟩,rfl⟩,Nat.le_trans (Nat.add_le_add_right k2 1) hbk⟩
  have e:a=⟨a.block,a.off,none⟩:=by cases a;simp_all
  rw[e];simpa using k3
inductive Parts (enc:TypeId×Value->H)(P:Program)(w:World)(bulk:DataW H->Nat)(n:Nat):List Field->Nat->{α:Type}->(α->List AC)->(α->Nat)->Prop
 |nil (off:Nat):Parts enc P w bulk n [] off (α:=Unit) (fun _=>[]) (fun _=>0)
 |cons {f:Field}{fs:List Field}{off s:Nat}{α β:Type}{c:α->List AC}{wt:α->Nat}{d:β->List AC}{ut:β->Nat}(ho:f.offset=off) (hs:P.cellsOf f.type=s) (h:Opens enc P w bulk f.type n c wt)
   (hl:∀a,(c a).length=s) (h2:Parts enc P w bulk n fs (off+s) d ut):Parts enc P w bulk n (f::fs) off (α:=α×β) (fun x=>c x.1++d x.2) (fun x=>wt x.1+ut x.2)
theorem Parts.ok{bulk:DataW H->Nat}{n:Nat}{fs:List Field}{off:Nat}{α:Type}{c:α->List AC}{wt:α->Nat}(h:Parts enc P w bulk n fs off c wt):∀(cs:List Value)(xs:List (DataW H×List MemPlace)),xs.length=fs.length ->
  (∀ (i : Nat) (f : Field), fs[i]? = some f -> DataW.trod enc P w 0 (fun _ => true) true n f.type ((cs.drop f.offset).take (P.cellsOf f.type)) = xs[i]?) ->
  ∃a:α,RV w (ctx0 w) (c a) ((cs.drop off).take (c a).length)/\wt a<=Q3b bulk (xs.map (·.1)):=by
 induction h with
 |nil off=>intro cs xs _ _;exact⟨(),by simp[RV],Nat.zero_le _⟩
 |@cons f fs off s α β c wt d ut ho hs h hl h2 ih=>
  intro cs xs hxl hx
  match xs,hxl with
  |y::ys,hxl=>
   have h0:=hx 0 f rfl
   simp only[List.getElem?_cons_zero,ho,hs]at h0
   obtain⟨a,ha,hw⟩:=h _ _ h0
   obtain⟨b,hb,hu⟩:=ih cs ys (by simpa using hxl) fun i g hg=>by simpa using hx (i+1) g (by simpa using hg)
   refine⟨(a,b),?_,?_⟩
   ·have e:(cs.drop off).take (c a++d b).length=(cs.drop off).take s++((cs.drop (off+s)).take (d b).length):=by
     rw[List.length_append,hl,List.take_add,List.drop_drop]
    show RV w (ctx0 w) (c a++d b) ((cs.drop off).take (c a++d b).length)
    rw[e]
    exact ha.append hb
   ·simp only[Q3b,List.map_cons,List.sum_cons]at *
    show wt a+ut b<=_
    omega
theorem Opens.struct{bulk:DataW H->Nat}(hb:∀l,Q3b bulk l+1<=bulk (.agg l)){t:TypeId}{fs:Array Field}{n:Nat}(ht:P.underlying t=some (.struct fs)){α:Type}{c:α->List AC}{wt:α->Nat}(h:Parts enc P w bulk n fs.toList 0 c wt)
  (hl:∀a,(c a).length=P.cellsOf t):Opens enc P w bulk t (n+1) c (fun a=>wt a+1):=by
 intro cs x hx
 obtain⟨xs,m,hm,rfl,hcl,hxl,hf⟩:=DataW.trod_struct ht hx
 obtain rfl:n=m:=by omega
 obtain⟨a,ha,hw⟩:=h.ok cs xs (by simpa using hxl) fun i f hi=>hf i f (by simpa using hi)
 refine⟨a,?_,?_⟩
 ·rw[hl,List.drop_zero,←hcl,List.take_length]at ha;exact ha
 ·have:=hb (xs.map (·.1))
  exact Nat.le_trans (Nat.add_le_add_right hw 1) this
theorem Opens.as{bulk:DataW H->Nat}{t:TypeId}{n:Nat}{α β:Type}{c:α->List AC}{wt:α->Nat}{d:β->List AC}{ut:β->Nat}(h:Opens enc P w bulk t n c wt)(hf:∀a,∃b,d b=c a/\ut b<=wt a):Opens enc P w bulk t n d ut:=by
 intro cs x hx
 obtain⟨a,ha,hw⟩:=h cs x hx
 obtain⟨b,hb,hu⟩:=hf a
 exact⟨b,by rw[hb];exact ha,Nat.le_trans hu hw⟩
theorem Opens.zero{bulk:DataW H->Nat}{t:TypeId}{α:Type}{c:α->List AC}{wt:α->Nat}:Opens enc P w bulk t 0 c wt:=by
 intro cs x hx
 simp[DataW.trod]at hx
end
end Go.Abs
namespace Go.Abs

theorem ACode.monoK{E:Env}{c:Code}{K K':Cont}{fr:Fr}{σ:St}(h:ACode E c K fr σ)(hk:∀e fr σ,K e fr σ->K' e fr σ):ACode E c K' fr σ:=by
 intro F w0 C0 w C tmps hg hi hf
 refine wp_mono (h F w0 C0 w C tmps hg hi hf) fun e act w' hp=>?_
 obtain⟨hd,fr2,σ2,C2,h1,h2,h3,h4⟩:=hp
 exact⟨hd,fr2,σ2,C2,h1,h2,h3,hk _ _ _ h4⟩
theorem ACode.cutR{E:Env}{x y:Code}{Fin:Fr->St->Prop}{k:List AItem}{α:Type}(hΓ:∀g cs,(g,cs)∈E.Γ->idsL isO cs)(frI:α->Fr)(σI:α->St)(I:α->Prop){fr:Fr}{σ:St}
  (hx:ACode E x (Q03 E Fin (.inv (fun fr' σ'=>∃a ρ,I a/\LessR ρ fr' σ' (frI a) (σI a))::k)) fr σ) (hy:∀a,I a->ACode E y (Q03 E Fin k) (frI a) (σI a)):ACode E x (Q03 E Fin (.code y::k)) fr σ:=by
 refine ACode.monoK hx fun e fr2 σ2 h=>?_
 cases e with
 |normal=>
  obtain⟨a,ρ,ha,hl⟩:=h
  exact ACode.lessR hΓ hl (hy a ha)
 |_=>exact h
end Go.Abs
namespace Go.Abs
section
variable {E:Env}{o:Oper}{fr:Fr}{σ:St}

end
end Go.Abs
namespace Go.Abs

def Qg5 (E:Env)(ops:Array Oper)(l:List Oper)(vs:List FV)(frb:Fr)(σ0 σ1 σ2:St)(al st:Nat):Nat->List Oper->List FV->Prop
 |_,[],[]=>True
 | k, o :: os, v :: ws => (dstOk E.N o.dst = true /\
   (if k = al then HStep E ops o (depFr l vs o ++ frb) σ0 σ1 v else if k = st then HStep E ops o (depFr l vs o ++ frb) σ1 σ2 v else
    HStep E ops o (depFr l vs o++frb) σ0 σ0 v/\HStep E ops o (depFr l vs o++frb) σ1 σ1 v/\HStep E ops o (depFr l vs o++frb) σ2 σ2 v))/\Qg5 E ops l vs frb σ0 σ1 σ2 al st (k+1) os ws
 |_,_,_=>False
section
variable {E:Env}{l:List Oper}{vs:List FV}{frb:Fr}{σ0 σ1 σ2:St}{al st n:Nat}{K:Cont}
theorem Qg5.at{ops:Array Oper}:∀{os:List Oper}{ws:List FV}{k:Nat},Qg5 E ops l vs frb σ0 σ1 σ2 al st k os ws->os.length=ws.length/\∀(i:Nat)(o:Oper),os[i]?=some o->∃v,ws[i]?=some v/\dstOk E.N o.dst=true /\
   (if k + i = al then HStep E ops o (depFr l vs o ++ frb) σ0 σ1 v else if k + i = st then HStep E ops o (depFr l vs o ++ frb) σ1 σ2 v else
    HStep E ops o (depFr l vs o++frb) σ0 σ0 v/\HStep E ops o (depFr l vs o++frb) σ1 σ1 v/\HStep E ops o (depFr l vs o++frb) σ2 σ2 v)
 |[],[],k,_=>⟨rfl,fun i o h=>by simp at h⟩
 |[],_::_,k,h=>h.elim
 |_::_,[],k,h=>h.elim
 |o::os,v::ws,k,h=>by
  obtain⟨⟨h2,h3⟩,h4⟩:=h
  obtain⟨h5,h6⟩:=Qg5.at h4
  refine⟨by simp[h5],fun i p hi=>?_⟩
  cases i with
  |zero=>simp at hi;subst hi;exact⟨v,rfl,h2,by simpa using h3⟩
  |succ i=>
   obtain⟨v',k1,k3,k4⟩:=h6 i p (by simpa using hi)
   refine⟨v',by simpa using k1,k3,?_⟩
   rw[show k+(i+1)=k+1+i by omega]
   exact k4
end
end Go.Abs
namespace Go.Abs
theorem AOps.unG{E:Env}{ops:Array Oper}{rest:List Oper}{o:Oper}{K:Cont}{fr:Fr}{σ:St}{j e:Nat}{b:Bool}(hg:o.guard=some (j,b))(hj:Q0y ops j=some e)(hb:Fr.get e fr=some (.one (.lit (.bool b))))
  (h:AOps E ops ({ o with guard:=none }::rest) K fr σ):AOps E ops (o::rest) K fr σ:=by
 intro F w0 C0 w C tmps hgo hi hf
 have h1:=h F w0 C0 w C tmps hgo hi hf
 have hy:=Q4s hf hj hb
 unfold wpList at h1 ⊢
 rw[if_pos (by simp[Region.wanted,hg,hy])]
 rw[if_pos (by simp[Region.wanted])]at h1
 exact h1
mutual
theorem AC.sub_pure(θ:Id->Id):∀c:AC,c.ids (fun _=>False)->c.sub θ=c
 |.lit _,_=>rfl
 |.any,_=>rfl
 |.sl s es,h=>by simp only[AC.ids]at h;simp only[AC.sub];rw[Qbu θ es h]
 |.box cs,h=>by simp only[AC.ids]at h;simp only[AC.sub];rw[Q34 θ cs h]
 |.ptr i off,h=>h.elim
 |.gs s es i,h=>h.1.elim
 |.arr i s off len cap,h=>h.elim
 |.mp i,h=>h.elim
 |.fn f a b,h=>by simp only[AC.ids]at h;simp only[AC.sub];rw[Q34 θ a h.1,Q34 θ b h.2]
 |.ifc t ag cs,h=>by simp only[AC.ids]at h;simp only[AC.sub];rw[Q34 θ cs h]
theorem Qbu(θ:Id->Id):∀es:List (List AC),idsS (fun _=>False) es->subS θ es=es
 |[],_=>rfl
 |e::es,h=>by simp only[idsS]at h;simp only[subS];rw[Q34 θ e h.1,Qbu θ es h.2]
theorem Q34(θ:Id->Id):∀cs:List AC,idsL (fun _=>False) cs->subL θ cs=cs
 |[],_=>rfl
 |c::cs,h=>by simp only[idsL]at h;simp only[subL];rw[AC.sub_pure θ c h.1,Q34 θ cs h.2]
end
end Go.Abs
namespace Go.Abs
open Go.RowKit (Below)
open Go.ChangeShapes Go.WideShapes Go.ChangeAt Go.RowKit
section
variable {H:Type}{enc:TypeId×Value->H}{P:Program}{W W':World}
theorem rf_int{base:Nat}{r:Reach}{t:TypeId}{k:IntKind}{v:Value}{C:Ctx}{c:AC}(ht:P.underlying t=some (.int k))(h:Value.okWide P W r base t v)(hr:RV W C [c] v.cells.toList):RF W C (.one c) v:=by
 obtain⟨n,rfl⟩:=okWide_int ht h
 obtain⟨u,us,he,h1,h2⟩:=hr
 simp[Value.cells]at he
 obtain⟨rfl,rfl⟩:=he
 exact h1
theorem Q5e(hl:laidOutB P=true){sp:Nat->Bool}:∀{ts:List TypeId}{vs:List Value}{ds:List (DataW H)}{ps:List MemPlace},(∀t∈ts,P.readableRec t=true/\t < P.types.size)->
  DataW.TrodAll enc P W 0 (fun _=>true) true ts vs ds ps->(∀x∈ps,W.sameAt W' x)->(∀x∈ps,sp x.block=true)->DataW.TrodAll enc P W' 0 sp true ts vs ds ps
 |[],[],[],ps,_,h,_,_=>h
 |t::ts,v::vs,d::ds,ps,hr,h,hs,hb=>by
  obtain⟨p,q,h1,h2,rfl⟩:=h
  refine⟨p,q,WideElems.Trod_stays hl (hr t (by simp)).1 (hr t (by simp)).2 h1 (fun x hx=>hs x (List.mem_append_left _ hx)) (fun x hx=>hb x (List.mem_append_left _ hx)),?_,rfl⟩
  exact Q5e hl (fun t ht=>hr t (by simp[ht])) h2 (fun x hx=>hs x (List.mem_append_right _ hx)) (fun x hx=>hb x (List.mem_append_right _ hx))
 |[],_::_,_,_,_,h,_,_=>h.elim
 |[],[],_::_,_,_,h,_,_=>h.elim
 |_::_,[],_,_,_,h,_,_=>h.elim
 |_::_,_::_,[],_,_,h,_,_=>h.elim
theorem Qbz(hl:laidOutB P=true){fn:Func}(hr:∀t∈fn.params.toList,P.readableRec t=true/\t < P.types.size){s:ChangeSpec}(hv:s.vars=[]){tb:TypeId}(htb:P.underlying tb=some .bool)(hrt:fn.resultTypes=#[tb]){g:Nat}{args:Array Value}{ds gs:List (DataW H)}{before:List MemPlace}
  (hW:DataW.Whole enc P fn.params.toList s.vars false W args.toList ds gs before) (hspec:s.fn H (ds++gs)={ results:=[.lit (.bool true)],args:=ds })
  (hc:Calls P g args W fun e w'=>∃v C',e=.returned v/\RF w' C' (.one (.lit (.bool true))) v/\Below W.heap.size W w'):
  Calls P g args W fun e W'=>∃v,e=.returned v/\s.post enc P fn false true false false W args v W':=by
 refine hc.mono fun e W' ⟨v,C',he,hr',hb⟩=>?_
 simp only[RF,R]at hr'
 obtain rfl:=hr'.1
 have hlt:=hW.lt
 have hW0:=hW
 obtain⟨p,q,hA,hV,rfl,hfz,hnd⟩:=hW0
 rw[hv]at hV
 obtain⟨rfl,rfl⟩:=trodVars_none hV
 simp only[List.append_nil]at hW hspec hlt
 refine⟨_,he,⟨ds,[],_,[],p,[],hW,?_,?_,?_,World.keptBut_mono (fun p hp=>⟨hp,.inr (.inl hp)⟩) (hb.frame _),fun h=>by cases h⟩⟩
 ·rw[List.append_nil,hspec,hrt]
  exact trodAll_cons_mk (shut_bool htb _) trodAll_mk0
 ·rw[List.append_nil,hspec]
  exact Q5e hl hr hA (fun x hx=>hb.same (hlt x hx)) fun x hx=>by simpa using hlt x hx
 ·rw[List.append_nil,hspec,hv]
  rfl
end
end Go.Abs
namespace Go.Abs
def updO (ou:Outer)(k:Nat)(o:AObj):Outer:=fun j=>bif Nat.beq k j then some o else ou j
theorem Q04(ou:Outer)(k:Nat)(o:AObj):updO ou k o k=some o:=by simp[updO]
theorem Q05(ou:Outer){k j:Nat}(h:k≠j)(o:AObj):updO ou k o j=ou j:=by simp[updO,Q09 h]
def toO (j k:Nat):Id->Id
 |.l i=>bif Nat.beq i j then .o k else .l i
 |.o i=>.o i
theorem AStep.callPW{E:Env}{o:Oper}{fr:Fr}{σ:St}{f:Operand}{args:Array Operand}{tys:Array TypeId}{g:Nat}{first caps:List AC}{vs ws:List FV}{r:FV}
  (hΓ:∀g cs,(g,cs)∈E.Γ->idsL isO cs) (ho:o.op=.call { callee:=.value f,args:=args,argTypes:=tys })
  (hf:aEval E.Γ fr f=some (.one (.fn (.func g) first caps))) (hargs:Q2p E.Γ fr args.toList=some vs) (hw:WkFs (first.map .one++vs++caps.map .one) ws) (hids:idsF isO ws) (hou:OuOk σ.ou)
  (hc:APure E.P E.Γ g ws r):AStep E o fr σ r σ:=by
 intro F w C tmps hi hfr next Q hk
 have hcallee:=Q01 (a:=⟨tmps,E.ds⟩) hi hfr hf
 simp only[RF,R]at hcallee
 obtain⟨xs,ys,hfv,hx,hy⟩:=hcallee
 have hvs:=Q2x (a:=⟨tmps,E.ds⟩) hi hfr hargs
 have hall:RFs w C ws (xs++args.toList.map (Act.eval ⟨tmps,E.ds⟩)++ys):=hw _ _ _ ((RFs.ones hx |>.append hvs).append (RFs.ones hy))
 have hrun:(execOp (Act.eval ⟨tmps,E.ds⟩) o).run E.P w=.ok (.enter g (xs++args.toList.map (Act.eval ⟨tmps,E.ds⟩)++ys).toArray) w:=by
  unfold execOp
  simp only[ho,resolve,Sem.run_bind,hfv,Deferred.ofValue,Sem.run_pure,Result.andThen_ok,invoke,(hc σ.ou).1]
  congr 2
  apply Array.ext'
  simp
 unfold Oper.wp
 rw[hrun,Oper.upon_enter]
 have hc1:Chg isO w C w { C with nl:=0 }:=⟨fun _ _=>rfl,fun _ h=>h,fun i hp ho=>⟨by cases i with|l k=>cases hp|o k=>exact ho,rfl,rfl⟩⟩
 refine ((hc σ.ou).2 (Q3l w C σ.ou) w { C with nl:=0 } _ rfl (hi.forCallee hou hΓ) (RFs.chg hc1 _ _ hids hall)).mono fun e w' ⟨v,r',ou',C',he,hgo,h0,hi',hr,hQ1,hQ2⟩=>?_
 subst he;subst hQ1;subst hQ2
 obtain⟨hb1,hb2,hb3⟩:=hi.back hgo h0 hi'
 have hrid:r'.ids isO:=FV.ids_mono (Q52 h0) r' (RF.idsOk r' v hr)
 exact hk v w' _ hb1 hb2 (RF.chg hb3 r' v hrid hr)
theorem AOps.callCW{E:Env}{ops:Array Oper}{rest:List Oper}{o:Oper}{K:Cont}{fr:Fr}{σ:St}{d:Nat}{f:Operand}{args:Array Operand}{tys:Array TypeId}{g:Nat}{first caps:List AC}{vs ws:List FV}{r:FV}
  (hΓ:∀g cs,(g,cs)∈E.Γ->idsL isO cs) (hc:APure E.P E.Γ g ws r) (hgd:o.guard=none) (hdst:o.dst=some d) (hd:Nat.ble (d+1) E.N=true) (ho:o.op=.call { callee:=.value f,args:=args,argTypes:=tys })
  (hf:aEval E.Γ fr f=some (.one (.fn (.func g) first caps))) (hargs:Q2p E.Γ fr args.toList=some vs) (hw:WkFs (first.map .one++vs++caps.map .one) ws) (hou:OuOk σ.ou) (hids:idsF isO ws)
  (h:AOps E ops rest K ((d,r)::fr) σ):AOps E ops (o::rest) K fr σ:=
 AOps.step1 hgd hdst hd (AStep.callPW hΓ ho hf hargs hw hids hou hc) h
theorem FrSub.consGs{ρ:Nat->Nat}{fr r:Fr}{k s i j:Nat}{es:List (List AC)}(h:Fr.get k fr=some (.one (.gs s es (.l j))))(hj:j=ρ i)(hp:idsS isO es)(hr:FrSub ρ fr r):FrSub ρ fr ((k,.one (.gs s es (.l i)))::r):=by
 refine FrSub.cons h (.ofEq ?_) hr
 simp only[FV.ren,AC.ren]
 rw[Q1s ρ es hp,hj];rfl
end Go.Abs
namespace Go.Abs
end Go.Abs
