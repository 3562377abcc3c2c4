/- Body and Check, walked. -/
import Derived.Test.YtmdkenkhaicbeaaGreatDoorC7
set_option maxRecDepth 10000
set_option linter.unusedVariables false
set_option linter.unusedSimpArgs false
namespace Go.CoreX
theorem Qiv{e:List Ex}(h:∀x∈e,x.binds.length<=1048576/\x.kids.length<=1048576/\x.alts.length<=1048576/\(∀a∈x.alts,a.binds.length<=1048576)/\x.binds.length+(x.alts.flatMap (·.binds)).length<=4194304)(hk:Q0o e):∀t∈growL e,okT t:=by
 revert h hk
 refine Q4k (P:=fun e=>(∀x∈e,x.binds.length<=1048576/\x.kids.length<=1048576/\x.alts.length<=1048576/\(∀a∈x.alts,a.binds.length<=1048576)/\x.binds.length+(x.alts.flatMap (·.binds)).length<=4194304)->Q0o e->∀t∈growL e,okT t) (fun _ _ t ht=>by simp[growL]at ht) (fun e x ih h hk t ht=>?_) e
 obtain⟨h1,h2⟩:=Q2z.1 hk
 have ih:=ih (fun y hy=>h y (by simp[hy])) h1
 rw[Q1a]at ht
 rcases List.mem_append.1 ht with ht|ht
 ·exact ih t ht
 ·simp at ht
  subst ht
  obtain⟨a1,a2,a3,a4,a5⟩:=h x (by simp)
  refine⟨a1,by simpa using a2,a3,⟨a4,a5⟩,Q36.2 fun s hs=>?_⟩
  obtain⟨k,hk2,rfl⟩:=List.mem_map.1 hs
  have hkb:=h2 k hk2
  have hl:k.toNat < (growL e).length:=by rw[Q10];omega
  rw[List.getD_eq_getElem?_getD,List.getElem?_eq_getElem hl]
  exact ih _ (List.getElem_mem hl)
theorem Qji{e:List Ex}(h:e≠[]):grow e∈growL e:=by
 have hl:e.length - 1 < (growL e).length:=by rw[Q10];have:=List.length_pos_iff.2 h;omega
 unfold grow
 rw[List.getD_eq_getElem?_getD,List.getElem?_eq_getElem hl]
 exact List.getElem_mem hl
theorem Q7s{α:Type}{f:α->Int}:∀{l:List α}{j:Nat}{x:α},(∀y∈l.take j,f y=0)->l[j]?=some x->f x≠0->Q18 f l=f x
 |[],j,x,_,h,_=>by simp at h
 |a::l,0,x,_,h,hx=>by simp at h;subst h;simp[Q18,hx]
 |a::l,j+1,x,h0,h,hx=>by
  have h1:=h0 a (by simp)
  simp only[Q18,h1]
  exact Q7s (l:=l) (j:=j) (fun y hy=>h0 y (by simp[hy])) (by simpa using h) hx
theorem Q4s(t:Tr):(Q1k t).length<=(listT [] t).length:=by
 have h1:(Q1k t).Nodup:=(Q42 (occT [] t)).imp fun {a b} h=>by omega
 have h2:=Q9m h1 (m:=occB (fun _=>0) t) fun x hx=>by rw[Q7o]at hx;exact (Q5b x _).1 hx
 have h3:=Q9j t (fun _=>0) []
 simp at h3
 omega
theorem Q9p{e:List Ex}(h:IsTree e):(listT [] (grow e)).length=e.length:=by
 have hp:=Qay h (Q3n (grow e)) (Q31 _).symm
 rw[←Q4n e,←Q4n];exact hp.length_eq.symm
end Go.CoreX
namespace Go.Proofs.YtmdkenkhaicbeaaGreatDoor
open Go Go.Abs Go.CoreX
structure okB (e:List Ex):Prop where
 eo:okE e
 b:∀x∈e,x.binds.length+(x.alts.flatMap (·.binds)).length<=4194304
theorem okB.ex{e:List Ex}(h:okB e):∀x∈e,(Q0g x).length<=4194304/\x.binds.length+(x.alts.flatMap (·.binds)).length<=4194304:=fun x hx=>by
 have h1:=h.b x hx
 refine⟨?_,h1⟩
 unfold Q0g Q0i
 rw[List.length_append]
 split
 ·omega
 ·simp only[List.length_nil];omega
theorem okB.t{e:List Ex}(h:okB e)(hk:Q0o e)(hne:e≠[]):okT (grow e):=Qiv (fun x hx=>⟨(h.eo.x x hx).b,(h.eo.x x hx).k,(h.eo.x x hx).a,(h.eo.x x hx).ab,h.b x hx⟩) hk _ (Qji hne)
theorem hΓcF:∀g cs,(g,cs)∈Γc->idsL (fun _=>False) cs:=fun g cs h=>by
 simp[Γc]at h
 first
  |(obtain⟨rfl,rfl⟩:=h;simp[arC,Q4e];done)
  |(rcases h with ⟨rfl,rfl⟩|⟨rfl,rfl⟩ <;> simp[arC,orC,Q4e])
set_option maxHeartbeats 1000000 in
theorem Body_ok(e:List Ex)(he:okB e)(params:List Int)(hp:params.length<=1048576)(flat:Bool):
  APure Tryz.prog Γc 38 [.one (.sl 5 (e.map cEx)),.one (.sl 1 (params.map cI)),.one (.lit (.bool flat))] (.one (int (body e params flat))):=by
 have hel:=he.eo.l
 intro ou
 refine AFn.walk 62 tabOk Tryz.func38 rfl (by kernel_rfl) rfl rfl fun hou=>?_
 refine zA ?_
 refine AOps.freeze1 (.l 0) 3 rfl rfl ?_
 refine zca hΓc (Qaf hΓc e he.eo) hou ?_
 refine zA ?_
 refine ACode.cond rfl (fun hb=>?_) (fun hb=>?_)
 ·have hb':Q1b e≠0:=by simpa using hb
  refine zA ?_
  refine APure.fin rfl (WkF.ofEq ?_) (by simp) hou rfl
  unfold body
  rw[if_pos hb']
 have h1:Q1b e=0:=by simpa using hb
 clear hb
 obtain⟨t1,t2,t3⟩:=(Q1w e).1 h1
 have hn:body e params flat=if Q18 (Q0k flat e) e≠0 then Q18 (Q0k flat e) e else if Q4a (params++Q08 e)=true then 7 else if (Q1k (grow e)).all (fun n=>params.contains n)=true then 0 else 6:=by
  unfold body;rw[if_neg (by simpa using h1)]
 refine zA ?_
 refine ACode.loopR hΓc (α:=Nat) (fun j=>[(20,.one (int j)),(19,.one (int (e.map cEx).length)),(18,.one (.sl 5 (e.map cEx))),(3,.one (.box [.sl 5 (e.map cEx)])),(2,.one (.lit (.bool flat))),(1,.one (.sl 1 (params.map cI)))])
  (fun j => ⟨0, [], ou⟩) (fun m j => j <= e.length /\ (∀ x ∈ e.take j, Q0k flat e x = 0) /\ m = e.length - j) (a0 := 0) (ρ := id) ⟨by omega, by simp, rfl⟩ (LessR.of rfl zFS (by simp) zLO rfl rfl hou) fun m j hj => ?_
 obtain⟨hjl,hno,rfl⟩:=hj
 refine zA ?_
 refine ACode.cond rfl (fun hb2=>?_) (fun hb2=>?_)
 ·have hlt:j < e.length:=by simpa using hb2
  obtain⟨x,hx⟩:=Q00 hlt
  have hxm:=List.mem_of_getElem? hx
  have hxo:=he.eo.x x hxm
  have bad:Q0k flat e x≠0->body e params flat=Q0k flat e x:=fun h=>by
   rw[hn,Q7s hno hx h,if_pos h]
  have hkk:∀k∈x.kids,0<=k/\k.toNat < e.length:=fun k hk=>by have:=Qc6 t2.k hxm k hk;omega
  have hcall:=Qar e x hxo hkk
  refine zA ?_
  refine zS (zIA rfl rfl rfl (by omega) (Q0a hx)) ?_
  cases flat with
  |false=>
   have hE:Q0k false e x=if Q5k x.op=true then 3 else Q1j e x:=by simp[Q0k]
   repeat' first|refine zN ?_|(with_reducible refine oj ?_;refine AOps.splitS rfl rfl rfl rfl (fun hb=>?_) (fun hb=>?_))|(with_reducible refine ok ?_;first|refine ACode.condS rfl (fun hb=>?_) (fun hb=>?_)|refine ACode.cond rfl (fun hb=>?_) (fun hb=>?_))
   refine zca hΓc (Qch x.op) hou ?_
   repeat' first|refine zN ?_|(with_reducible refine oj ?_;refine AOps.splitS rfl rfl rfl rfl (fun hb=>?_) (fun hb=>?_))|(with_reducible refine ok ?_;first|refine ACode.condS rfl (fun hb=>?_) (fun hb=>?_)|refine ACode.cond rfl (fun hb=>?_) (fun hb=>?_))
   all_goals try
    (
    refine APure.fin rfl (WkF.ofEq ?_) (by simp) hou rfl
    rw[bad (by rw[hE,if_pos hb];decide),hE,if_pos hb]
    done)
   rw[if_neg (by rw[hb];decide)]at hE
   refine zca hΓc hcall hou ?_
   refine zA ?_
   refine ACode.cond rfl (fun hb3=>?_) (fun hb3=>?_)
   ·have h3:Q1j e x≠0:=by simpa using hb3
    refine zA ?_
    refine APure.fin rfl (WkF.ofEq ?_) (by simp) hou rfl
    rw[bad (by rw[hE];exact h3),hE]
   ·have h3:Q1j e x=0:=by simpa using hb3
    refine zM ?_
    exact cInv ⟨e.length - (j+1),j+1,id,by omega,⟨by omega,Q13 hno hx (by rw[hE];exact h3),rfl⟩,LessR.of rfl zFS (by simp) zLO rfl rfl hou⟩
  |true=>
   have hE:Q0k true e x=if Q6z x.op=true then 3 else Q1j e x:=by simp[Q0k]
   repeat' first|refine zN ?_|(with_reducible refine oj ?_;refine AOps.splitS rfl rfl rfl rfl (fun hb=>?_) (fun hb=>?_))|(with_reducible refine ok ?_;first|refine ACode.condS rfl (fun hb=>?_) (fun hb=>?_)|refine ACode.cond rfl (fun hb=>?_) (fun hb=>?_))
   refine zca hΓc (Qck x.op) hou ?_
   repeat' first|refine zN ?_|(with_reducible refine oj ?_;refine AOps.splitS rfl rfl rfl rfl (fun hb=>?_) (fun hb=>?_))|(with_reducible refine ok ?_;first|refine ACode.condS rfl (fun hb=>?_) (fun hb=>?_)|refine ACode.cond rfl (fun hb=>?_) (fun hb=>?_))
   all_goals try
    (
    refine APure.fin rfl (WkF.ofEq ?_) (by simp) hou rfl
    rw[bad (by rw[hE,if_pos hb];decide),hE,if_pos hb]
    done)
   rw[if_neg (by rw[hb];decide)]at hE
   refine zca hΓc hcall hou ?_
   refine zA ?_
   refine ACode.cond rfl (fun hb3=>?_) (fun hb3=>?_)
   ·have h3:Q1j e x≠0:=by simpa using hb3
    refine zA ?_
    refine APure.fin rfl (WkF.ofEq ?_) (by simp) hou rfl
    rw[bad (by rw[hE];exact h3),hE]
   ·have h3:Q1j e x=0:=by simpa using hb3
    refine zM ?_
    exact cInv ⟨e.length - (j+1),j+1,id,by omega,⟨by omega,Q13 hno hx (by rw[hE];exact h3),rfl⟩,LessR.of rfl zFS (by simp) zLO rfl rfl hou⟩
 have hlt:j=e.length:=by simp at hb2;omega
 subst hlt
 rw[List.take_length]at hno
 rw[if_neg (by rw[Classical.not_not];exact (Q28 _ _).2 hno)]at hn
 clear hno hb2 hjl
 have hgt:=he.t t2.k t2.ne
 refine zA ?_
 refine zca hΓc (Qib hΓc e he.eo params hp he.ex) hou ?_
 refine zA ?_
 refine ACode.cond rfl (fun hb=>?_) (fun hb=>?_)
 ·refine zA ?_
  refine APure.fin rfl (WkF.ofEq ?_) (by simp) hou rfl
  rw[hn,if_pos hb]
 rw[if_neg (by rw[hb];decide)]at hn
 refine zA ?_
 refine zca hΓc (Qi5 hΓc e he.eo t2.k t2.ne) hou ?_
 refine zca hΓc (Q82 hΓc hΓcF Qd3 Q9a (grow e) hgt (by omega) (by rw[Q9p t2];omega)) hou ?_
 have hfl:=Q4s (grow e)
 rw[Q9p t2]at hfl
 generalize Q1k (grow e)=fs at hn hfl
 refine zA ?_
 refine ACode.loopR hΓc (α:=Nat) (fun j=>[(53,.one (int j)),(52,.one (int (fs.map cI).length)),(51,.one (.sl 1 (fs.map cI))),(1,.one (.sl 1 (params.map cI)))])
  (fun j=>⟨0,[],ou⟩) (fun m j=>j<=fs.length/\(∀x∈fs.take j,params.contains x=true)/\m=fs.length - j) (a0:=0) (ρ:=id) ⟨by omega,by simp,rfl⟩ (LessR.of rfl zFS (by simp) zLO rfl rfl hou) fun m j hj=>?_
 obtain⟨hjl,hno,rfl⟩:=hj
 refine zA ?_
 refine ACode.cond rfl (fun hb2=>?_) (fun hb2=>?_)
 ·have hlt:j < fs.length:=by simpa using hb2
  obtain⟨k,hk⟩:=Q00 hlt
  refine zA ?_
  refine zS (zIA rfl rfl rfl (by omega) (Q0a hk)) ?_
  refine zA ?_
  refine zca hΓc (Q1z hΓc params hp k) hou ?_
  refine zA ?_
  refine ACode.cond rfl (fun hb3=>?_) (fun hb3=>?_)
  ·refine zA ?_
   refine APure.fin rfl (WkF.ofEq ?_) (by simp) hou rfl
   rw[hn,if_neg]
   rw[List.all_eq_true]
   intro h
   have:=h k (List.mem_of_getElem? hk)
   rw[this]at hb3;cases hb3
  ·refine zM ?_
   exact cInv ⟨fs.length - (j+1),j+1,id,by omega,⟨by omega,Q13 hno hk (by simpa using hb3),rfl⟩,LessR.of rfl zFS (by simp) zLO rfl rfl hou⟩
 ·have hlt:j=fs.length:=by simp at hb2;omega
  subst hlt
  rw[List.take_length]at hno
  refine zA ?_
  refine APure.fin rfl (WkF.ofEq ?_) (by simp) hou rfl
  rw[hn,if_pos (List.all_eq_true.2 hno)]
theorem Q5v(e:List Ex)(he:okB e):APure Tryz.prog Γc 11 [.one (.sl 5 (e.map cEx))] (.one (int (check e))):=by
 intro ou
 refine AFn.walk 5 tabOk Tryz.func11 rfl (by kernel_rfl) rfl rfl fun hou=>?_
 refine zA ?_
 refine AOps.callCW (ws:=[.one (.sl 5 (e.map cEx)),.one (.sl 1 (([]:List Int).map cI)),.one (.lit (.bool false))]) hΓc (Body_ok e he [] (by simp) false) rfl rfl rfl rfl rfl rfl ?_ hou (by simp) ?_
 ·exact .cons (.refl _) (.cons (.one (.nilS 1)) (.cons (.refl _) .nil))
 refine zA ?_
 exact APure.fin rfl (WkF.ofEq rfl) (by simp) hou rfl
variable {Γ:List (Nat×List AC)}
end Go.Proofs.YtmdkenkhaicbeaaGreatDoor
namespace Go.Abs
theorem AStep.wk{E:Env}{o:Oper}{fr:Fr}{σ σ':St}{x y:FV}(h:AStep E o fr σ x σ')(hw:WkF x y):AStep E o fr σ y σ':=
 fun F w C tmps hi hf next Q hk=>h F w C tmps hi hf next Q fun u w' C' a b c=>hk u w' C' a b (hw _ _ _ c)
end Go.Abs
namespace Go.Proofs.YtmdkenkhaicbeaaGreatDoor
open Go Go.Abs Go.CoreX
variable {Γ:List (Nat×List AC)}
mutual
def encNd:Tr->List AC
 |.mk o n b k a=>[int o,int n,.sl 1 (b.map cI),.any,.sl 2 (a.map cAlt),.sl 1 (Q2s k)]
def Q2s:List Tr->List (List AC)
 |[]=>[]
 |t::ts=>[.box (encNd t)]::Q2s ts
end
def cNd (t:Tr):List AC:=[int t.op,int t.n,.sl 1 (t.binds.map cI),.any,.sl 2 (t.alts.map cAlt),.sl 1 (Q2s t.kids)]
theorem Qjo(t:Tr):encNd t=cNd t:=by cases t;simp[encNd,cNd]
theorem Q5o:∀l:List Tr,Q2s l=l.map fun t=>[.box (cNd t)]
 |[]=>rfl
 |t::ts=>by simp[Q2s,Q5o ts,Qjo]
theorem Qf2{l:List Tr}{i:Nat}{t:Tr}(h:l[i]?=some t):(Q2s l)[i]?=some [.box (cNd t)]:=by rw[Q5o];simp[h]
mutual
theorem Qh2(p:Abs.Id->Prop):∀t:Tr,idsL p (encNd t)
 |.mk o n b k a=>by simp[encNd,Q69 p k]
theorem Q69(p:Abs.Id->Prop):∀l:List Tr,idsS p (Q2s l)
 |[]=>by simp[Q2s]
 |t::ts=>by simp[Q2s,Qh2 p t,Q69 p ts]
end
attribute [simp] Q69
@[simp] theorem ids_cNd (p:Abs.Id->Prop) (t:Tr):idsL p (cNd t):=by simp[cNd]
@[simp] theorem len_encNds (l:List Tr):(Q2s l).length=l.length:=by rw[Q5o];simp
theorem N_ok(op n:Int)(ks:List Tr):APure Tryz.prog Γ 15 [.one (int op),.one (int n),.one (.sl 1 (Q2s ks))] (.one (.box (cNd (.mk op n [] ks [])))):=by
 intro ou
 refine AFn.walk 13 tabOk Tryz.func15 rfl (by kernel_rfl) rfl rfl fun hou=>?_
 iterate 14 (first|((with_reducible refine oj ?_);refine zau ?_)|(with_reducible refine zst ?_)|((with_reducible refine Q0r ?_ ?_);rfl)|(with_reducible refine ok ?_;first|refine ACode.condT rfl ?_|refine ACode.condF rfl ?_))
 refine AOps.freeze1 (.l 0) 6 rfl rfl ?_
 refine zA ?_
 refine APure.fin rfl (.one (Wk.box ?_)) (by simp) hou rfl
 exact .cons (.refl _) (.cons (.refl _) (.cons (.nilS 1) (.cons (.any _) (.cons (.nilS 2) (.cons (.refl _) .nil)))))
theorem B_ok(op:Int)(b:List Int)(ks:List Tr):APure Tryz.prog Γ 48 [.one (int op),.one (.sl 1 (b.map cI)),.one (.sl 1 (Q2s ks))] (.one (.box (cNd (.mk op 0 b ks [])))):=by
 intro ou
 refine AFn.walk 13 tabOk Tryz.func48 rfl (by kernel_rfl) rfl rfl fun hou=>?_
 iterate 14 (first|((with_reducible refine oj ?_);refine zau ?_)|(with_reducible refine zst ?_)|((with_reducible refine Q0r ?_ ?_);rfl)|(with_reducible refine ok ?_;first|refine ACode.condT rfl ?_|refine ACode.condF rfl ?_))
 refine AOps.freeze1 (.l 0) 6 rfl rfl ?_
 refine zA ?_
 refine APure.fin rfl (.one (Wk.box ?_)) (by simp) hou rfl
 exact .cons (.refl _) (.cons (.refl _) (.cons (.refl _) (.cons (.any _) (.cons (.nilS 2) (.cons (.refl _) .nil)))))
theorem V_ok(hΓ:∀g cs,(g,cs)∈Γ->idsL isO cs)(n:Int):APure Tryz.prog Γ 16 [.one (int n)] (.one (.box (cNd (.mk 0 n [] [] [])))):=by
 intro ou
 refine AFn.walk 5 tabOk Tryz.func16 rfl (by kernel_rfl) rfl rfl fun hou=>?_
 refine zA ?_
 refine AOps.callCW (ws:=[.one (int 0),.one (int n),.one (.sl 1 (Q2s []))]) hΓ (N_ok 0 n []) rfl rfl rfl rfl rfl rfl ?_ hou (by simp) ?_
 ·exact .cons (.refl _) (.cons (.refl _) (.cons (.one (.nilS 1)) .nil))
 refine zA ?_
 exact APure.fin rfl (WkF.ofEq rfl) (by simp) hou rfl
def IntoOk (Γ:List (Nat×List AC))(t:Tr):Prop:=∀(ou:Outer)(ko kt:Nat)(out:List Ex),OuOk ou->ou ko=none->ou kt=none->ko≠kt->(listT out t).length<=1048576->
 AFn Tryz.prog Γ 41 [.one (.box (cNd t)),.one (.ptr (.o ko) 0)] (ouS ou ko kt (out.map cEx)) (fun r ou'=>r=.one (int (((listT out t).length:Int) - 1))/\∃kt',ou kt'=none/\ko≠kt'/\ou'=ouS ou ko kt' ((listT out t).map cEx))
set_option maxHeartbeats 1000000 in
theorem Qgv(hΓ:∀g cs,(g,cs)∈Γ->idsL isO cs):∀t:Tr,okT t->IntoOk Γ t
 |.mk o n b ks a,hok=>by
  obtain⟨hb,hk,ha,⟨hab,_⟩,hks⟩:=hok
  have ih:∀t∈ks,IntoOk Γ t:=fun t ht=>Qgv hΓ t (Q36.1 hks t ht)
  intro ou ko kt out hou0 ho ht hne hsz
  have hsz2:(Q02 out ks).1.length < 1048576:=by simp only[listT,List.length_append,List.length_singleton]at hsz;omega
  refine AFn.walk 44 tabOk Tryz.func41 rfl (by kernel_rfl) rfl rfl fun hou=>?_
  refine zA ?_
  refine ACode.grow 0 3 3 1 rfl rfl ?_
  refine ACode.loopR hΓ (α:=Nat×Nat) (fun c=>[(18,.one (int c.1)),(17,.one (int (Q2s ks).length)),(16,.one (.sl 1 (Q2s ks))),(5,.one (.ptr (.l 0) 0)),(1,.one (.ptr (.o ko) 0))])
   (fun c=>⟨2,[(1,.tok 3 1 c.1),(0,.cells [int o,int n,.sl 1 (b.map cI),.gs 1 ((Q02 out (ks.take c.1)).2.map cI) (.l 1),.sl 2 (a.map cAlt)])],ouS ou ko c.2 ((Q02 out (ks.take c.1)).1.map cEx)⟩)
   (fun m c=>c.1<=ks.length/\(ou c.2=none/\ko≠c.2)/\m=ks.length - c.1) (a0:=(0,kt)) (ρ:=id) ⟨by omega,⟨ht,hne⟩,rfl⟩ (LessR.of rfl zFS (by simp) ?_ rfl (by simp[Q02];rfl) hou) fun m c hi=>?_
  ·repeat' first|exact LoSub.nil|refine zlc ?_|refine zld ?_ ?_|rfl
   all_goals (simp[AObj.ren,renL,AC.ren,Q02];rfl)
  obtain⟨i,kt⟩:=c
  obtain⟨hil,⟨ht,hne⟩,rfl⟩:=hi
  simp only at hil ht hne
  have hle:(Q02 out (ks.take i)).1.length<=(Q02 out ks).1.length:=by
   have:=Q3g (ks.take i) (ks.drop i) out
   rw[List.take_append_drop]at this
   rw[this];exact Q3f _ _
  refine zA ?_
  refine ACode.cond rfl (fun hb3=>?_) (fun hb3=>?_)
  ·have hlt2:i < ks.length:=by simpa using hb3
   obtain⟨t,ht2⟩:=Q00 hlt2
   have hsn:=Q51 t (ks.take i) out
   rw[←Q0n ht2]at hsn
   have hle2:(listT (Q02 out (ks.take i)).1 t).length<=1048576:=by
    have:=Q3g (ks.take (i+1)) (ks.drop (i+1)) out
    rw[List.take_append_drop]at this
    have h2:=Q3f (ks.drop (i+1)) (Q02 out (ks.take (i+1))).1
    rw[←this,hsn]at h2
    simp only at h2
    omega
   have hcall:=ih t (List.mem_of_getElem? ht2) ou ko kt (Q02 out (ks.take i)).1 hou0 ho ht hne hle2
   have hil2:((Q02 out (ks.take i)).2.map cI).length=i:=by rw[List.length_map,Q3l];simp;omega
   refine zA ?_
   refine zS (zIA rfl rfl rfl (by omega) (Qf2 ht2)) ?_
   refine zA ?_
   refine ACode.drawXR (va:=.one (int (((listT (Q02 out (ks.take i)).1 t).length:Int) - 1))) tabOk 6 4 []
    (fun σ=>∃kt',ou kt'=none/\ko≠kt'/\σ=⟨2,[(1,.tok 3 1 i),(0,.cells [int o,int n,.sl 1 (b.map cI),.gs 1 ((Q02 out (ks.take i)).2.map cI) (.l 1),.sl 2 (a.map cAlt)])],ouS ou ko kt' ((listT (Q02 out (ks.take i)).1 t).map cEx)⟩)
    follows (by kernel_rfl) rfl rfl rfl rfl rfl ?_ rfl ⟨rfl,rfl⟩ rfl ?_ .nil ?_ ?_
   ·rintro σ ⟨kt',h1,h2,rfl⟩;rfl
   ·refine Q2k.call hΓ rfl rfl rfl rfl (by simp) (Q4w hou0 (by simp)) hcall fun r ou' hq _ _=>?_
    obtain⟨rfl,kt',h1,h2,rfl⟩:=hq
    exact⟨rfl,kt',h1,h2,rfl⟩
   ·intro σ _;exact .nil
   rintro σ ⟨kt',h1,h2,rfl⟩
   refine zA ?_
   refine AOps.app tabOk rfl rfl rfl rfl rfl rfl rfl rfl rfl (Base.gs' _ _ _ _ _ (by rfl) hil2.symm) (.sl _ _) rfl ?_ ?_ ?_
   ·rw[hil2];show (i+1) * 8<=_;omega
   ·rw[hil2];show i+1<=_;omega
   refine zM ?_
   refine cInv ⟨ks.length - (i+1),(i+1,kt'),fun k=>if k=1 then 2 else k,by omega,⟨by omega,⟨h1,h2⟩,rfl⟩,LessR.of rfl zFS (by simp) ?_ rfl (by simp only[hsn];rfl) (Q4w hou0 (by simp))⟩
   repeat' first|exact LoSub.nil|refine zlc ?_|refine zld ?_ ?_|rfl
   ·simp only[AObj.ren,List.length_append,hil2];rfl
   ·simp only[hsn];simp only[AObj.ren,renL,AC.ren,Q46,Q47];rw[List.map_append];rfl
  have hlt2:i=ks.length:=by simp at hb3;omega
  subst hlt2
  rw[List.take_length]at *
  refine zA ?_
  have hT:listT out (.mk o n b ks a)=(Q02 out ks).1++[⟨o,n,b,(Q02 out ks).2,a⟩]:=by simp only[listT]
  have hmap:(Q02 out ks).1.map cEx++[cEx ⟨o,n,b,(Q02 out ks).2,a⟩]=(listT out (.mk o n b ks a)).map cEx:=by rw[hT,List.map_append];rfl
  have hw:WkF (.agg [int o,int n,.sl 1 (b.map cI),.gs 1 ((Q02 out ks).2.map cI) (.l 1),.sl 2 (a.map cAlt)]) (.agg (cEx ⟨o,n,b,(Q02 out ks).2,a⟩)):=WkF.agg (.cons (.refl _) (.cons (.refl _) (.cons (.refl _) (.cons (.gsE rfl) (.cons (.refl _) .nil)))))
  have hko:(bif Nat.beq ko kt then some AObj.dead else ouS ou ko kt ((Q02 out ks).1.map cEx) ko)=some (.cells [.gs 5 ((Q02 out ks).1.map cEx) (.o kt)]):=by rw[Q07 hne];exact ouS_o hne _
  refine ACode.drawXH (va:=.one (.gs 5 ((Q02 out ks).1.map cEx++[cEx ⟨o,n,b,(Q02 out ks).2,a⟩]) (.l 2))) (σ1:=(St.set ⟨2,[(1,.tok 3 1 ks.length),(0,.cells [int o,int n,.sl 1 (b.map cI),.gs 1 ((Q02 out ks).2.map cI) (.l 1),.sl 2 (a.map cAlt)])],ouS ou ko kt ((Q02 out ks).1.map cEx)⟩ (.o kt) .dead).push (.tok 31 5 ((Q02 out ks).1.map cEx++[cEx ⟨o,n,b,(Q02 out ks).2,a⟩]).length))
   tabOk 7 6 [(3,.one (.gs 5 ((Q02 out ks).1.map cEx) (.o kt))),(4,.agg (cEx ⟨o,n,b,(Q02 out ks).2,a⟩))] follows (by kernel_rfl) rfl rfl rfl rfl rfl rfl rfl ?_ ?_ ?_ ?_
  ·refine HStep.plain rfl (AStep.append (s:=5) (es:=(Q02 out ks).1.map cEx) (news:=[cEx ⟨o,n,b,(Q02 out ks).2,a⟩]) (ti:=ti22) (σ:=⟨2,[(1,.tok 3 1 ks.length),(0,.cells [int o,int n,.sl 1 (b.map cI),.gs 1 ((Q02 out ks).2.map cI) (.l 1),.sl 2 (a.map cAlt)])],ouS ou ko kt ((Q02 out ks).1.map cEx)⟩) tabOk rfl rfl rfl rfl rfl rfl (Base.gs' _ 31 5 _ (.o kt) (ouS_t ou ko kt _) rfl) (.sl _ _) rfl ?_ ?_)
   ·simp;show (_+1) * 88<=_;omega
   ·simp;omega
  ·refine .step rfl (zHP (zLD rfl rfl (ouS_o hne _) rfl)) ?_
   exact .step rfl (zHP (AStep.wk (AStep.ofOp tabOk rfl) hw)) .nil
  ·refine .step rfl (zHP (zLD rfl rfl hko rfl)) ?_
   exact .step rfl (zHP (AStep.wk (AStep.ofOp tabOk rfl) hw)) .nil
  rw[hmap]
  refine zA ?_
  refine AOps.storeOwn (cs:=[.gs 5 ((Q02 out ks).1.map cEx) (.o kt)]) tabOk rfl rfl rfl rfl rfl rfl rfl hko (by simp) ?_
  refine AOps.cede 2 (show 2 < 3 by omega) fun k hk=>⟨[(1,.one (.ptr (.o ko) 0))],⟨3,[],ouS ou ko k ((listT out (.mk o n b ks a)).map cEx)⟩,⟨fun d x hd=>?_,rfl,fun i x hx=>?_⟩,?_⟩
  ·by_cases e:1=d
   ·subst e
    simp[Fr.get]at hd;subst hd
    exact⟨_,rfl,WkF.ofEq rfl⟩
   ·simp[Fr.get,Q07 e]at hd
  ·have hk':(bif Nat.beq k ko then some (AObj.cells [.gs 5 ((listT out (.mk o n b ks a)).map cEx) (.l 2)])else bif Nat.beq k kt then some AObj.dead else ouS ou ko kt ((Q02 out ks).1.map cEx) k)=none:=hk
   have k1:k≠ko:=fun e=>by subst e;simp at hk'
   rw[Q07 k1]at hk'
   have k2:k≠kt:=fun e=>by subst e;simp at hk'
   rw[Q07 k2]at hk'
   simp only[cond_false,ouS_w k1 k2]at hk'
   cases i with
   |l m=>cases hx
   |o m=>
    have hx':ouS ou ko k ((listT out (.mk o n b ks a)).map cEx) m=some x:=hx
    by_cases e:m=k
    ·subst e
     rw[ouS_t]at hx';cases hx'
     exact⟨.l 2,_,rfl,rfl,rfl⟩
    ·by_cases e2:m=ko
     ·subst e2
      rw[ouS_o e]at hx';cases hx'
      refine⟨.o m,.cells [.gs 5 ((listT out (.mk o n b ks a)).map cEx) (.l 2)],?_,rfl,?_⟩
      ·show (bif Nat.beq m m then _ else _)=_;rw[Q3w];rfl
      ·simp only[AObj.sub,subL,AC.sub];rw[Qah _ (by simp)];rfl
     ·rw[ouS_w e2 e]at hx'
      have e3:m≠kt:=fun e=>by rw[e,ht]at hx';cases hx'
      refine⟨.o m,x,?_,rfl,(AObj.sub_o x (hou0 m x hx')).symm⟩
      show (bif Nat.beq m ko then _ else bif Nat.beq m kt then _ else ouS ou ko kt _ m)=_
      rw[Q07 e2,Q07 e3]
      exact (ouS_w e2 e3 _).trans hx'
  ·have hk':(bif Nat.beq k ko then some (AObj.cells [.gs 5 ((listT out (.mk o n b ks a)).map cEx) (.l 2)])else bif Nat.beq k kt then some AObj.dead else ouS ou ko kt ((Q02 out ks).1.map cEx) k)=none:=hk
   have k1:k≠ko:=fun e=>by subst e;simp at hk'
   rw[Q07 k1]at hk'
   have k2:k≠kt:=fun e=>by subst e;simp at hk'
   rw[Q07 k2]at hk'
   simp only[cond_false,ouS_w k1 k2]at hk'
   refine zA ?_
   refine zS (zLD rfl rfl (ouS_o (Ne.symm k1) _) rfl) ?_
   refine zM ?_
   refine AFn.fin' rfl (WkF.ofEq ?_) (by simp) (Q4w hou0 (by simp)) ⟨rfl,k,hk',Ne.symm k1,rfl⟩
   simp
theorem Qcs(hΓ:∀g cs,(g,cs)∈Γ->idsL isO cs)(t:Tr)(ht:okT t)(hsz:(listT [] t).length<=1048576):APure Tryz.prog Γ 19 [.one (.box (cNd t))] (.one (.sl 5 ((listT [] t).map cEx))):=by
 intro ou
 refine AFn.walk 7 tabOk Tryz.func19 rfl (by kernel_rfl) rfl rfl fun hou=>?_
 iterate 11 (first|((with_reducible refine oj ?_);refine zau ?_)|(with_reducible refine zst ?_)|((with_reducible refine Q0r ?_ ?_);rfl)|(with_reducible refine ok ?_;first|refine ACode.condT rfl ?_|refine ACode.condF rfl ?_))
 refine ACode.grow 0 0 31 5 rfl rfl ?_
 refine zA ?_
 refine AOps.cede 0 (show 0 < 2 by omega) fun ko hko=>⟨[(4,.one (.box (cNd t))),(3,.one (.ptr (.o ko) 0))],
  ⟨2, [(1, .tok 31 5 0)], updO ou ko (.cells [.gs 5 [] (.l 1)])⟩, ⟨CedFr.get ?_, rfl, fun i x hx => ?_⟩, ?_⟩
 ·exact .cons rfl (FV.sub_o _ (by simp)) (.cons rfl rfl .nil)
 ·have hko:ou ko=none:=hko
  cases i with
  |l m=>
   by_cases e:1=m
   ·subst e;cases hx;exact⟨.l 1,_,rfl,rfl,rfl⟩
   ·simp[St.get,lookL,Q07 e]at hx
  |o m=>
   have hx':updO ou ko (.cells [.gs 5 [] (.l 1)]) m=some x:=hx
   by_cases e:ko=m
   ·subst e;rw[Q06]at hx';cases hx';exact⟨.l 0,_,rfl,rfl,rfl⟩
   ·rw[Q04 _ e]at hx'
    exact⟨.o m,x,hx',rfl,(AObj.sub_o x (hou m x hx')).symm⟩
 have hko:ou ko=none:=hko
 refine AOps.cede 1 (show 1 < 2 by omega) fun kt hkt=>⟨[(4,.one (.box (cNd t))),(3,.one (.ptr (.o ko) 0))],
  ⟨2, [], ouS ou ko kt (([] : List Ex).map cEx)⟩, ⟨CedFr.get ?_, rfl, fun i x hx => ?_⟩, ?_⟩
 ·exact .cons rfl (FV.sub_o _ (by simp)) (.cons rfl rfl .nil)
 ·have hkt:updO ou ko (.cells [.gs 5 [] (.l 1)]) kt=none:=hkt
  have hkto:ko≠kt:=fun e=>by subst e;rw[Q06]at hkt;cases hkt
  cases i with
  |l m=>cases hx
  |o m=>
   have hx':ouS ou ko kt (([]:List Ex).map cEx) m=some x:=hx
   by_cases e:m=kt
   ·subst e;rw[ouS_t]at hx';cases hx';exact⟨.l 1,_,rfl,rfl,rfl⟩
   ·by_cases e2:m=ko
    ·subst e2;rw[ouS_o hkto]at hx';cases hx'
     exact⟨.o m,.cells [.gs 5 [] (.l 1)],Q06 _ _ _,rfl,rfl⟩
    ·rw[ouS_w e2 e]at hx'
     refine⟨.o m,x,?_,rfl,(AObj.sub_o x (hou m x hx')).symm⟩
     show updO ou ko (.cells [.gs 5 [] (.l 1)]) m=_
     rw[Q04 _ (Ne.symm e2)];exact hx'
 have hkt:updO ou ko (.cells [.gs 5 [] (.l 1)]) kt=none:=hkt
 have hot:ko≠kt:=fun e=>by subst e;rw[Q06]at hkt;cases hkt
 rw[Q04 _ hot]at hkt
 have hcall:=Qgv hΓ t ht ou ko kt [] hou hko hkt hot hsz
 refine AOps.call1 hΓ rfl rfl rfl rfl rfl rfl rfl (by simp) (Q4w hou (by simp)) hcall fun r ou' hq hids hou'=>?_
 obtain⟨rfl,kt',h1,h2,rfl⟩:=hq
 refine zA ?_
 refine zS (zLD rfl rfl (ouS_o h2 _) rfl) ?_
 refine AOps.wk 6 rfl (y:=.one (.sl 5 ((listT [] t).map cEx))) (.one (.gsE rfl)) ?_
 refine AOps.lessO ⟨2,[],ou⟩ rfl (fun i o ho=>?_) ?_
 ·cases i with
  |l m=>cases ho
  |o m=>
   have ho':ou m=some o:=ho
   show ouS ou ko kt' _ m=some o
   have e1:m≠ko:=fun e=>by rw[e,hko]at ho';cases ho'
   have e3:m≠kt':=fun e=>by rw[←e,ho']at h1;cases h1
   rw[ouS_w e1 e3];exact ho'
 refine zA ?_
 exact APure.fin rfl (WkF.ofEq rfl) (by simp) hou rfl
end Go.Proofs.YtmdkenkhaicbeaaGreatDoor
namespace Go.CoreX
def Q0u (e:List Ex)(k:Nat):Tr:=(growL e).getD k default
theorem Q1x{e:List Ex}(hk:Q0o e){i:Nat}{x:Ex}(hx:e[i]?=some x):Q0u e i=.mk x.op x.n x.binds (x.kids.map fun k=>Q0u e k.toNat) x.alts:=by
 have hi:=(List.getElem?_eq_some_iff.1 hx).1
 have hs:e=e.take i++x::e.drop (i+1):=by
  obtain⟨h2,h3⟩:=List.getElem?_eq_some_iff.1 hx
  rw[←h3,←List.drop_eq_getElem_cons h2,List.take_append_drop]
 have hl:(e.take i).length=i:=by simp;omega
 have h1:=Q6w (e.take i) (e.drop (i+1)) x
 rw[←hs,hl]at h1
 unfold Q0u
 rw[h1]
 simp only[Q2a,Tr.mk.injEq,true_and,and_true]
 refine List.map_congr_left fun k hkk=>?_
 have hb:=hk i x hx k hkk
 have h2:=Q3i (e:=e.take i) (l:=x::e.drop (i+1)) (i:=k.toNat) (by rw[hl];omega)
 rw[←hs]at h2
 exact h2.symm
theorem Qhm:∀{e:List Ex}{k:Nat},0 < cnt e k->∃(i:Nat)(x:Ex),e[i]?=some x/\(k:Int)∈x.kids
 |[],k,h=>by simp[cnt]at h
 |x::e,k,h=>by
  simp only[cnt]at h
  by_cases h1:0 < x.kids.count (k:Int)
  ·exact⟨0,x,rfl,List.count_pos_iff.1 h1⟩
  ·obtain⟨i,y,h2,h3⟩:=Qhm (e:=e) (k:=k) (by omega)
   exact⟨i+1,y,by simpa using h2,h3⟩
theorem Qfg{e:List Ex}(h:IsTree e){P:Tr->Prop}(h0:P (grow e))(h1:∀(t s:Tr),P t->s∈t.kids->P s):∀k,k < e.length->P (Q0u e k):=by
 have key:∀d k,k < e.length->e.length - k=d->P (Q0u e k):=by
  intro d
  induction d using Nat.strongRecOn with
  |_ d ih=>
   intro k hk hd
   by_cases hl:k+1 < e.length
   ·have hc:=(h.c k hk).2 hl
    obtain⟨i,x,hx,hkx⟩:=Qhm (e:=e) (k:=k) (by omega)
    have hb:=h.k i x hx _ hkx
    have hi:=(List.getElem?_eq_some_iff.1 hx).1
    have hp:=ih (e.length - i) (by omega) i hi rfl
    rw[Q1x h.k hx]at hp
    refine h1 _ _ hp ?_
    simp only[Tr.kids_mk,List.mem_map]
    exact⟨_,hkx,by simp⟩
   ·have:k=e.length - 1:=by omega
    subst this
    exact h0
 exact fun k hk=>key _ k hk rfl
mutual
theorem Q4y(g:Lab->Int)(hg:∀l,0<=g l):∀t:Tr,0<=sumT g t
 |.mk o m b k a=>by
  simp only[sumT]
  have h1:=hg ⟨o,m,b,k.map Tr.op,a⟩
  have h2:=Q6i g hg k
  omega
theorem Q6i(g:Lab->Int)(hg:∀l,0<=g l):∀l:List Tr,0<=sumTs g l
 |[]=>by simp[sumTs]
 |t::l=>by
  simp only[sumTs]
  have h1:=Q4y g hg t
  have h2:=Q6i g hg l
  omega
end
theorem Qie(g:Lab->Int)(hg:∀l,0<=g l){t s:Tr}(h:s∈t.kids):sumT g s<=sumT g t:=by
 cases t with
 |mk o m b k a=>
  simp only[Tr.kids_mk]at h
  simp only[sumT,Q6q]
  have h1:=hg ⟨o,m,b,k.map Tr.op,a⟩
  have:sumT g s<=(k.map (sumT g)).sum:=by
   clear h1
   induction k with
   |nil=>cases h
   |cons r k ih=>
    simp only[List.map_cons,List.sum_cons]
    have hr:=Q4y g hg r
    have hk:0<=(k.map (sumT g)).sum:=by
     clear ih h
     induction k with
     |nil=>simp
     |cons q k ihk=>
      simp only[List.map_cons,List.sum_cons]
      have:=Q4y g hg q
      omega
    rcases List.mem_cons.1 h with rfl|h
    ·omega
    ·have:=ih h;omega
  omega
theorem Q6f{t s:Tr}(h:s∈t.kids):Q0x s<=Q0x t:=by
 cases t with
 |mk o m b k a=>
  simp only[Tr.kids_mk]at h
  have:=Qbg (o:=o) (n:=m) (b:=b) (a:=a) h
  omega
theorem okT_kid{t s:Tr}(ht:okT t)(h:s∈t.kids):okT s:=by
 cases t with
 |mk o m b k a=>exact Q36.1 ht.2.2.2.2 s h
theorem Qcy(g:Lab->Int)(hg:∀l,0<=g l){e:List Ex}(h:IsTree e){k:Nat}(hk:k < e.length):((labs (listT [] (Q0u e k))).map g).sum<=((labs e).map g).sum:=by
 have h1:=Q4i g (Q3n (Q0u e k))
 rw[Q31]at h1
 rw[h1,Q4i g h]
 exact Qfg h (P:=fun t=>sumT g t<=sumT g (grow e)) (Int.le_refl _) (fun t s ht hs=>Int.le_trans (Qie g hg hs) ht) k hk
theorem labs_sub{e:List Ex}(h:IsTree e){k:Nat}(hk:k < e.length)(l:Lab)(hl:l∈labs (listT [] (Q0u e k))):l∈labs e:=by
 have h1:=Qcy (fun l'=>if l'=l then (1:Int)else 0) (fun l'=>by split <;> omega) h hk
 rw[Q73,Q73]at h1
 have h2:=List.count_pos_iff.2 hl
 exact List.count_pos_iff.1 (by omega)
theorem Q96:∀ls:List Lab,(ls.map fun _=>(1:Int)).sum=ls.length
 |[]=>rfl
 |l::ls=>by simp only[List.map_cons,List.sum_cons,Q96 ls,List.length_cons];omega
theorem len_sub{e:List Ex}(h:IsTree e){k:Nat}(hk:k < e.length):(listT [] (Q0u e k)).length<=e.length:=by
 have h1:=Qcy (fun _=>(1:Int)) (fun _=>by omega) h hk
 rw[Q96,Q96,Q4n,Q4n]at h1
 omega
def atErr (e:List Ex)(n:Int):Int:=if check e≠0 then check e else if n < 0∨(e.length:Int)<=n then 12 else 0
def Q4b (e:List Ex)(n:Int):List Int×Int:=if atErr e n≠0 then ([],atErr e n)else (Q1k (Q0u e n.toNat),0)
theorem Qfb{e:List Ex}{n:Int}(h:atErr e n=0):check e=0/\0<=n/\n.toNat < e.length:=by
 unfold atErr at h
 by_cases h1:check e=0
 ·rw[if_neg (by simpa using h1)]at h
  by_cases h2:n < 0∨(e.length:Int)<=n
  ·rw[if_pos h2]at h;cases h
  ·exact⟨h1,by omega,by omega⟩
 ·rw[if_pos h1]at h;exact absurd h h1
end Go.CoreX
namespace Go.Proofs.YtmdkenkhaicbeaaGreatDoor
open Go Go.Abs Go.CoreX
variable {Γ:List (Nat×List AC)}
theorem at_ok(e:List Ex)(he:okB e)(n:Int):APure Tryz.prog Γc 49 [.one (.sl 5 (e.map cEx)),.one (int n)] (.one (int (atErr e n))):=by
 intro ou
 refine AFn.walk 19 tabOk Tryz.func49 rfl (by kernel_rfl) rfl rfl fun hou=>?_
 refine zA ?_
 refine zca hΓc (Q5v e he) hou ?_
 refine zA ?_
 refine ACode.cond rfl (fun hb=>?_) (fun hb=>?_)
 ·have h:check e≠0:=by simpa using hb
  refine zA ?_
  refine APure.fin rfl (WkF.ofEq ?_) (by simp) hou rfl
  unfold atErr;rw[if_pos h]
 have h:check e=0:=by simpa using hb
 have hn:atErr e n=if n < 0∨(e.length:Int)<=n then 12 else 0:=by unfold atErr;rw[if_neg (by simpa using h)]
 clear hb
 repeat' first|refine zN ?_|(with_reducible refine oj ?_;refine AOps.splitS rfl rfl rfl rfl (fun hb=>?_) (fun hb=>?_))|(with_reducible refine ok ?_;first|refine ACode.condS rfl (fun hb=>?_) (fun hb=>?_)|refine ACode.cond rfl (fun hb=>?_) (fun hb=>?_))
 all_goals
  refine APure.fin rfl (WkF.ofEq ?_) (by simp) hou rfl
  rw[hn]
  first
   |(rw[if_pos (by simp_all)];done)
   |(rw[if_pos (by simp at *;omega)];done)
   |(rw[if_neg (by simp at *;omega)];done)
set_option maxHeartbeats 1000000 in
theorem Qjv(hΓ:∀g cs,(g,cs)∈Γ->idsL isO cs)(e:List Ex)(he:okE e)(hin:Q0o e)(q:Nat)(hq:q < e.length):APure Tryz.prog Γ 51 [.one (.sl 5 (e.map cEx)),.one (int (q:Nat))] (.one (.box (cTr (Q0u e q)))):=by
 have hel:=he.l
 intro ou
 refine AFn.walk 64 tabOk Tryz.func51 rfl (by kernel_rfl) rfl rfl fun hou=>?_
 refine zA ?_
 have hb:ti68.bytes * (e.map cEx).length<=281474976710656:=by simp;show 8 * _<=_;omega
 have hb2:(e.map cEx).length<=281474976710656:=by simp;omega
 refine zS (AStep.makeArr tabOk rfl rfl rfl rfl rfl rfl rfl rfl hb hb2) ?_
 refine zM ?_
 refine AOps.wk 16 rfl (y:=.one (int ((q+1:Nat):Int))) (.ofEq (by simp)) ?_
 refine zS (AStep.sliceTo tabOk rfl rfl rfl rfl rfl rfl (by simp;omega)) ?_
 obtain⟨e',he'⟩:∃e',e'=e.take (q+1):=⟨_,rfl⟩
 refine AOps.wk 17 rfl (y:=.one (.sl 5 (e'.map cEx))) (.ofEq (by rw[he',List.map_take])) ?_
 have hl':e'.length=q+1:=by rw[he'];simp;omega
 have hmem:∀x∈e',x∈e:=fun x hx=>by rw[he']at hx;exact List.mem_of_mem_take hx
 have hin':Q0o e':=Q8m (l:=e.drop (q+1)) (by rw[he',List.take_append_drop];exact hin)
 have htr:Q0u e q=(growL e').getD q default:=by
  have:=Q3i (e:=e') (l:=e.drop (q+1)) (i:=q) (by omega)
  rw[he',List.take_append_drop]at this
  rw[he'];exact this
 rw[htr]
 clear he' htr
 refine zA ?_
 refine ACode.loopR hΓ (α:=Nat) (fun j=>[(19,.one (int j)),(18,.one (int (e'.map cEx).length)),(17,.one (.sl 5 (e'.map cEx))),(5,.one (.arr (.l 0) 1 0 (e.map cEx).length (e.map cEx).length)),(1,.one (int (q:Nat)))])
  (fun j=>⟨1,[(0,.cells (Q1e (growL (e'.take j)) (e.map cEx).length))],ou⟩) (fun m j=>j<=e'.length/\m=e'.length - j) (a0:=0) (ρ:=id) ⟨by omega,rfl⟩
  (LessR.of rfl zFS (by simp) (LoSub.cons rfl (by rw[AObj.ren_pure _ _ (by simp)];show AObj.cells (List.replicate _ _)=AObj.cells (Q1e [] _);rw[Q8i]) rfl (by simp) .nil) rfl rfl hou) fun m j hj=>?_
 obtain⟨hjl,rfl⟩:=hj
 refine zA ?_
 refine ACode.cond rfl (fun hb2=>?_) (fun hb2=>?_)
 ·have hlt:j < e'.length:=by simpa using hb2
  obtain⟨x,hx⟩:=Q00 hlt
  have hxo:=he.x x (hmem x (List.mem_of_getElem? hx))
  have hxk:=hxo.k
  have hxin:=hin' j x hx
  have hgl:(growL (e'.take j)).length=j:=by rw[Q10];simp;omega
  refine zA ?_
  refine zS (zIA rfl rfl rfl (by omega) (Q0a hx)) ?_
  refine zA ?_
  refine ACode.grow 2 3 68 1 rfl rfl ?_
  refine ACode.loopR hΓ (α:=Nat) (fun i=>[(37,.one (int i)),(36,.one (int (x.kids.map cI).length)),(35,.one (.sl 1 (x.kids.map cI))),(8,.one (.ptr (.l 2) 0)),(7,.one (.ptr (.l 1) 0)),(6,.one (int j)),(19,.one (int j)),(18,.one (int (e'.map cEx).length)),(17,.one (.sl 5 (e'.map cEx))),(5,.one (.arr (.l 0) 1 0 (e.map cEx).length (e.map cEx).length)),(1,.one (int (q:Nat)))])
   (fun i=>⟨4,[(3,.tok 68 1 i),(2,.cells [int x.op,int x.n,.sl 1 (x.binds.map cI),.gs 1 ((kidsT (growL (e'.take j)) (x.kids.take i)).map cB) (.l 3),.sl 2 (x.alts.map cAlt)]),(1,.cells (cEx x)),(0,.cells (Q1e (growL (e'.take j)) (e.map cEx).length))],ou⟩)
   (fun m i=>i<=x.kids.length/\m=x.kids.length - i) (a0:=0) (ρ:=id) ⟨by omega,rfl⟩ (LessR.of rfl zFS (by simp) ?_ rfl rfl hou) fun m i hi=>?_
  ·repeat' first|exact LoSub.nil|refine zlc ?_|refine zld ?_ ?_|rfl
   all_goals (simp[AObj.ren,renL,AC.ren,kidsT];rfl)
  obtain⟨hil,rfl⟩:=hi
  refine zA ?_
  refine ACode.cond rfl (fun hb3=>?_) (fun hb3=>?_)
  ·have hlt2:i < x.kids.length:=by simpa using hb3
   obtain⟨k,hk⟩:=Q00 hlt2
   have hkb:=hxin k (List.mem_of_getElem? hk)
   obtain⟨k',rfl⟩:∃k':Nat,k=k':=⟨k.toNat,by omega⟩
   obtain⟨tk,htk⟩:=Q00 (l:=growL (e'.take j)) (i:=k') (by omega)
   have htd:(growL (e'.take j)).getD (k':Int).toNat default=tk:=by rw[Int.toNat_natCast,List.getD_eq_getElem?_getD,htk];rfl
   have hks:=Q8l (ts:=growL (e'.take j)) hk
   rw[htd]at hks
   have hkl:((kidsT (growL (e'.take j)) (x.kids.take i)).map cB).length=i:=by simp[kidsT];omega
   refine zA ?_
   refine zS (zIA rfl rfl rfl (by omega) (Q0a hk)) ?_
   refine zA ?_
   refine ACode.drawXH (va:=.one (.gs 1 ((kidsT (growL (e'.take j)) (x.kids.take i)).map cB++[cB tk]) (.l 4))) (σ1:=(St.set ⟨4,[(3,.tok 68 1 i),(2,.cells [int x.op,int x.n,.sl 1 (x.binds.map cI),.gs 1 ((kidsT (growL (e'.take j)) (x.kids.take i)).map cB) (.l 3),.sl 2 (x.alts.map cAlt)]),(1,.cells (cEx x)),(0,.cells (Q1e (growL (e'.take j)) (e.map cEx).length))],ou⟩ (.l 3) .dead).push (.tok 68 1 ((kidsT (growL (e'.take j)) (x.kids.take i)).map cB++[cB tk]).length))
    tabOk 11 10 [(7,.one (.ptr (.l 0) k')),(8,.one (.box (cTr tk)))] follows (by kernel_rfl) rfl rfl rfl rfl rfl rfl rfl ?_ ?_ ?_ ?_
   ·refine HStep.plain rfl (AStep.append (s:=1) (es:=(kidsT (growL (e'.take j)) (x.kids.take i)).map cB) (news:=[cB tk]) (ti:=ti72) (σ:=⟨4,[(3,.tok 68 1 i),(2,.cells [int x.op,int x.n,.sl 1 (x.binds.map cI),.gs 1 ((kidsT (growL (e'.take j)) (x.kids.take i)).map cB) (.l 3),.sl 2 (x.alts.map cAlt)]),(1,.cells (cEx x)),(0,.cells (Q1e (growL (e'.take j)) (e.map cEx).length))],ou⟩) tabOk rfl rfl rfl rfl rfl rfl (Base.gs' _ 68 1 ((kidsT (growL (e'.take j)) (x.kids.take i)).map cB) (.l 3) rfl hkl.symm) (.sl _ _) rfl ?_ ?_)
    ·rw[hkl];show (i+1) * 8<=_;omega
    ·rw[hkl];show i+1<=_;omega
   ·refine .step rfl (zHP (idxI tabOk rfl rfl rfl rfl rfl rfl rfl (by simp;omega))) ?_
    exact .step rfl (zHP (zLD rfl rfl rfl (Q2x htk))) .nil
   ·refine .step rfl (zHP (idxI tabOk rfl rfl rfl rfl rfl rfl rfl (by simp;omega))) ?_
    exact .step rfl (zHP (zLD rfl rfl rfl (Q2x htk))) .nil
   refine zM ?_
   refine cInv ⟨x.kids.length - (i+1),i+1,fun k=>if k=3 then 4 else k,by omega,⟨by omega,rfl⟩,LessR.of rfl zFS (by simp) ?_ rfl rfl hou⟩
   repeat' first|exact LoSub.nil|refine zlc ?_|refine zld ?_ ?_|rfl
   ·simp only[AObj.ren,List.length_append,hkl];rfl
   ·rw[hks];simp only[AObj.ren,renL,AC.ren,Q46,Qbw,Q47];rw[List.map_append];rfl
  have hlt2:i=x.kids.length:=by simp at hb3;omega
  subst hlt2
  rw[List.take_length]
  refine zA ?_
  refine zS (idxI tabOk rfl rfl rfl rfl rfl rfl rfl (by simp;omega)) ?_
  refine AOps.freeze1 (.l 2) 57 rfl rfl ?_
  refine AOps.wk 57 rfl (y:=.one (.box (cTr (Q2a (growL (e'.take j)) x)))) (.one (Wk.box ?_)) ?_
  ·rw[Qaq]
   exact .cons (.refl _) (.cons (.refl _) (.cons (.refl _) (.cons (.gsE (Q0q _).symm) (.cons (.refl _) .nil))))
  refine AOps.storeOwn tabOk rfl rfl rfl rfl rfl rfl rfl rfl (by rw[Q8j (by simp[hgl];omega)];simp;omega) ?_
  have hst:=Q8h (ts:=growL (e'.take j)) (n:=(e.map cEx).length) (by simp[hgl];omega) (Q2a (growL (e'.take j)) x)
  rw[hgl,←Q1a,←Q0n hx]at hst
  rw[hst]
  refine zM ?_
  exact cInv ⟨e'.length - (j+1),j+1,id,by omega,⟨by omega,rfl⟩,LessR.of rfl zFS (by simp) zLO rfl rfl hou⟩
 ·have hlt:j=e'.length:=by simp at hb2;omega
  subst hlt
  rw[List.take_length]
  obtain⟨t,ht⟩:=Q00 (l:=growL e') (i:=q) (by rw[Q10];omega)
  have hgt:(growL e').getD q default=t:=by rw[List.getD_eq_getElem?_getD,ht];rfl
  refine zM ?_
  refine zS (idxI tabOk rfl rfl rfl rfl rfl rfl rfl (by simp;omega)) ?_
  refine zS (zLD rfl rfl rfl (Q2x ht)) ?_
  refine zA ?_
  refine APure.fin rfl (WkF.ofEq ?_) (by simp) hou rfl
  rw[hgt]
end Go.Proofs.YtmdkenkhaicbeaaGreatDoor
namespace Go.CoreX
mutual
def cntN:Tr->Nat
 |.mk _ _ _ k _=>cntNs k+1
def cntNs:List Tr->Nat
 |[]=>0
 |t::l=>cntN t+cntNs l
end
mutual
theorem Q1u:∀(t:Tr)(out:List Ex),(listT out t).length=out.length+cntN t
 |.mk o n b k a,out=>by
  have:=Q8w k out
  simp only[listT,cntN,List.length_append,List.length_singleton];omega
theorem Q8w:∀(l:List Tr)(out:List Ex),(Q02 out l).1.length=out.length+cntNs l
 |[],out=>by simp[Q02,cntNs]
 |t::l,out=>by
  have h1:=Q1u t out
  have h2:=Q8w l (listT out t)
  simp only[Q02,cntNs];omega
end
theorem Q1l:∀(l r:List Tr),cntNs (l++r)=cntNs l+cntNs r
 |[],r=>by simp[cntNs]
 |t::l,r=>by simp only[List.cons_append,cntNs,Q1l l r];omega
end Go.CoreX
namespace Go.Proofs.YtmdkenkhaicbeaaGreatDoor
open Go Go.Abs Go.CoreX
variable {Γ:List (Nat×List AC)}
theorem Qfh{e:List Ex}(he:okB e)(h:IsTree e){k:Nat}(hk:k < e.length):okT (Q0u e k):=
 Qfg h (P:=okT) (he.t h.k h.ne) (fun _ _ ht hs=>okT_kid ht hs) k hk
theorem Free_ok(e:List Ex)(he:okB e)(n:Int):APure Tryz.prog Γc 23 [.one (.sl 5 (e.map cEx)),.one (int n)] (.tup [.one (.sl 1 ((Q4b e n).1.map cI)),.one (int (Q4b e n).2)]):=by
 intro ou
 refine AFn.walk 17 tabOk Tryz.func23 rfl (by kernel_rfl) rfl rfl fun hou=>?_
 refine zA ?_
 refine zca hΓc (at_ok e he n) hou ?_
 refine zA ?_
 refine ACode.cond rfl (fun hb=>?_) (fun hb=>?_)
 ·have h:atErr e n≠0:=by simpa using hb
  have ho:Q4b e n=([],atErr e n):=by unfold Q4b;rw[if_pos h]
  rw[ho]
  refine zA ?_
  exact APure.fin rfl (WkF.tup (.cons (.one (.nilS 1)) (.cons (.refl _) .nil))) (by simp) hou rfl
 ·have h:atErr e n=0:=by simpa using hb
  have ho:Q4b e n=(Q1k (Q0u e n.toNat),0):=by unfold Q4b;rw[if_neg (by simpa using h)]
  obtain⟨h1,h2,h3⟩:=Qfb h
  have t1:=Q19 h1
  have hd:=(Q1w e).1 (by
   have:=h1
   unfold check body at this
   by_cases h4:Q1b e=0
   ·exact h4
   ·rw[if_pos h4]at this;exact absurd this h4)
  have hdp:Q0x (Q0u e n.toNat)<=400:=Qfg t1 (P:=fun t=>Q0x t<=400) hd.2.2 (fun t s ht hs=>Int.le_trans (Q6f hs) ht) _ h3
  have hl:=len_sub t1 h3
  have hel:=he.eo.l
  rw[ho]
  obtain⟨q,rfl⟩:∃q:Nat,n=q:=⟨n.toNat,by omega⟩
  rw[Int.toNat_natCast]at *
  refine zA ?_
  refine zca hΓc (Qjv hΓc e he.eo t1.k q h3) hou ?_
  refine zca hΓc (Q82 hΓc hΓcF Qd3 Q9a (Q0u e q) (Qfh he t1 h3) (by omega) (by omega)) hou ?_
  refine zA ?_
  exact APure.fin rfl (WkF.ofEq rfl) (by simp) hou rfl
end Go.Proofs.YtmdkenkhaicbeaaGreatDoor
namespace Go.CoreX
theorem Q6r{e:List Ex}(h:check e=0):∀x∈e,shape x=true:=by
 intro x hx
 unfold check body at h
 by_cases h1:Q1b e=0
 ·rw[if_neg (by simpa using h1)]at h
  by_cases h2:Q18 (Q0k false e) e=0
  ·have h3:=(Q28 _ e).1 h2 x hx
   unfold Q0k at h3
   simp only[Bool.false_and,Bool.not_false,Bool.true_and,Bool.false_or]at h3
   by_cases h4:Q5k x.op=true
   ·rw[if_pos h4]at h3;cases h3
   ·rw[if_neg h4]at h3
    unfold Q1j at h3
    by_cases h5:shape x=false
    ·rw[if_pos h5]at h3;cases h3
    ·simpa using h5
  ·rw[if_pos h2]at h;exact absurd h h2
 ·rw[if_pos h1]at h;exact absurd h h1
end Go.CoreX
namespace Go.Proofs.YtmdkenkhaicbeaaGreatDoor
open Go Go.Abs Go.CoreX
variable {Γ:List (Nat×List AC)}
def ow8 (l:List Int):Option Nat->AC
 |none=>.lit (.slice none 0 0)
 |some cap=>.arr (.l 0) 1 0 (l.map cI).length cap
def st8 (l:List Int)(ou:Outer):Option Nat->St
 |none=>⟨0,[],ou⟩
 |some cap=>⟨1,[(0,.cells (vec 1 (l.map cI) cap))],ou⟩
@[simp] theorem ids_ow8 (l l':List Int) (ou:Outer) (oc:Option Nat):(ow8 l oc).ids (inL (st8 l' ou oc).n):=by cases oc <;> simp[ow8,st8,AC.ids,inL]
end Go.Proofs.YtmdkenkhaicbeaaGreatDoor
namespace Go.CoreX
end Go.CoreX
namespace Go.Proofs.YtmdkenkhaicbeaaGreatDoor
open Go Go.Abs Go.CoreX
variable {Γ:List (Nat×List AC)}
end Go.Proofs.YtmdkenkhaicbeaaGreatDoor
namespace Go.CoreX
open Go.Abs (orI subI anI)
def ex0:Ex:=⟨0,0,[],[],[]⟩
def exN (e:List Ex)(i:Nat):Ex:=e.getD i ex0
def shK (e:List Ex)(k:Int):Tr:=.mk (exN e k.toNat).op (exN e k.toNat).n (exN e k.toNat).binds [] []
end Go.CoreX
namespace Go.Proofs.YtmdkenkhaicbeaaGreatDoor
open Go Go.Abs Go.CoreX
variable {Γ:List (Nat×List AC)}
def shD (e:List Ex)(l:List Int):List (List AC):=l.map fun k=>cB (shK e k)
@[simp] theorem ids_shD (p:Abs.Id->Prop) (e:List Ex) (l:List Int):idsS p (shD e l):=Q38 (fun k=>by simp[cB]) l
@[simp] theorem ren_shD (ρ:Nat->Nat) (e:List Ex) (l:List Int):renS ρ (shD e l)=shD e l:=Q1i ρ _ (by simp)
end Go.Proofs.YtmdkenkhaicbeaaGreatDoor
namespace Go.CoreX
end Go.CoreX
namespace Go.Proofs.YtmdkenkhaicbeaaGreatDoor
open Go Go.Abs Go.CoreX
variable {Γ:List (Nat×List AC)}
theorem W_ok(hΓ:∀g cs,(g,cs)∈Γ->idsL isO cs)(n:Int):APure Tryz.prog Γ 31 [.one (int n)] (.one (.box (cNd (.mk 1 n [] [] [])))):=by
 intro ou
 refine AFn.walk 5 tabOk Tryz.func31 rfl (by kernel_rfl) rfl rfl fun hou=>?_
 refine zA ?_
 refine AOps.callCW (ws:=[.one (int 1),.one (int n),.one (.sl 1 (Q2s []))]) hΓ (N_ok 1 n []) rfl rfl rfl rfl rfl rfl ?_ hou (by simp) ?_
 ·exact .cons (.refl _) (.cons (.refl _) (.cons (.one (.nilS 1)) .nil))
 refine zA ?_
 exact APure.fin rfl (WkF.ofEq rfl) (by simp) hou rfl
end Go.Proofs.YtmdkenkhaicbeaaGreatDoor
namespace Go.CoreX
abbrev Nb:=Option (Nat×Nat)
structure LAlt where
 tag:Int
 nb:Nb
 binds:List Int
def LAlt.er (a:LAlt):Alt:=⟨a.tag,a.binds⟩
inductive LTr where
 |mk (id:Nat) (op n:Int) (nb:Nb) (binds:List Int) (kids:List LTr) (alts:List LAlt)
instance:Inhabited LTr:=⟨.mk 0 0 0 none [] [] []⟩
def LTr.id:LTr->Nat|.mk i _ _ _ _ _ _=>i
def LTr.kids:LTr->List LTr|.mk _ _ _ _ _ k _=>k
mutual
def erT:LTr->Tr
 |.mk _ o n _ b k a=>.mk o n b (erTs k) (a.map LAlt.er)
def erTs:List LTr->List Tr
 |[]=>[]
 |t::ts=>erT t::erTs ts
end
theorem Qa3:∀l:List LTr,erTs l=l.map erT
 |[]=>rfl
 |t::l=>by simp[erTs,Qa3 l]
end Go.CoreX
namespace Go.Proofs.YtmdkenkhaicbeaaGreatDoor
open Go Go.Abs Go.CoreX
variable {Γ:List (Nat×List AC)}
def bC:Nb->List Int->AC
 |none,l=>.sl 1 (l.map cI)
 |some (a,cap),l=>.arr (.o a) 1 0 (l.map cI).length cap
def bO:Nb->List Int->List (Nat×AObj)
 |none,_=>[]
 |some (a,cap),l=>[(a,.cells (vec 1 (l.map cI) cap))]
def lAlt (x:LAlt):List AC:=[int x.tag,bC x.nb x.binds]
def aO (l:List LAlt):List (Nat×AObj):=l.flatMap fun x=>bO x.nb x.binds
def kC (l:List LTr):List (List AC):=l.map fun t=>[.ptr (.o t.id) 0]
def lC:LTr->List AC
 |.mk _ o n nb b k a=>[int o,int n,bC nb b,.sl 1 (kC k),.sl 2 (a.map lAlt)]
mutual
def objs:LTr->List (Nat×AObj)
 |.mk i o n nb b k a=>(i,.cells [int o,int n,bC nb b,.sl 1 (kC k),.sl 2 (a.map lAlt)])::(bO nb b++aO a)++objss k
def objss:List LTr->List (Nat×AObj)
 |[]=>[]
 |t::ts=>objs t++objss ts
end
abbrev keys (l:List (Nat×AObj)):List Nat:=l.map (·.1)
def Owns (ou:Outer)(l:List (Nat×AObj)):Prop:=∀p∈l,ou p.1=some p.2
theorem Owns.app{ou:Outer}{l r:List (Nat×AObj)}:Owns ou (l++r)↔Owns ou l/\Owns ou r:=by
 unfold Owns
 constructor
 ·exact fun h=>⟨fun p hp=>h p (by simp[hp]),fun p hp=>h p (by simp[hp])⟩
 ·rintro⟨h1,h2⟩ p hp
  rcases List.mem_append.1 hp with hp|hp
  ·exact h1 p hp
  ·exact h2 p hp
theorem Owns.frame{ou ou':Outer}{l:List (Nat×AObj)}(h:Owns ou l)(hf:∀j∈keys l,ou' j=ou j):Owns ou' l:=fun p hp=>(hf p.1 (List.mem_map_of_mem hp)).trans (h p hp)
theorem Qg4{ou:Outer}:∀{t:LTr},Owns ou (objs t)->ou t.id=some (.cells (lC t))
 |.mk i o n nb b k a,h=>h (i,.cells [int o,int n,bC nb b,.sl 1 (kC k),.sl 2 (a.map lAlt)]) (by simp[objs])
theorem Qh4(p:Abs.Id->Prop)(hp:∀k,p (.o k))(nb:Nb)(l:List Int):(bC nb l).ids p:=by
 cases nb with
 |none=>simp[bC,AC.ids]
 |some x=>exact hp _
theorem ids_kC(p:Abs.Id->Prop)(hp:∀k,p (.o k))(l:List LTr):idsS p (kC l):=Q38 (f:=fun t:LTr=>[.ptr (.o t.id) 0]) (fun t=>by simp only[idsL,AC.ids,and_true];exact hp _) l
theorem Qb4(p:Abs.Id->Prop)(hp:∀k,p (.o k))(l:List LAlt):idsS p (l.map lAlt):=Q38 (f:=lAlt) (fun t=>by simp only[lAlt,idsL,AC.ids,and_true,true_and];exact Qh4 p hp _ _) l
theorem Qht{Γ:List (Nat×List AC)}{F:Nat->Prop}{w:World}{C C':Ctx}{σ:St}(hi:Inv Γ F w C σ)(hc:Chg isO w C w C'){nb:Nb}{l:List Int}(ho:Owns σ.ou (bO nb l))(hp:∀k∈keys (bO nb l),∀a:Addr,a.block=C.blk (.o k)->C'.prot a){v:Value}
  (hr:R w C (bC nb l) v):R w C' (.sl 1 (l.map cI)) v:=by
 cases nb with
 |none=>exact R.chg hc (.sl 1 (l.map cI)) v (Q54 _ _) hr
 |some x=>
  obtain⟨a,cap⟩:=x
  have hg:σ.get (.o a)=some (.cells (vec 1 (l.map cI) cap)):=ho (a,.cells (vec 1 (l.map cI) cap)) (by simp[bO])
  obtain⟨hok,zs,T,b1,b2,b3,b4⟩:=hi.obj _ _ hg
  simp only[bC,R,Nat.zero_mul]at hr
  refine⟨some ⟨C.blk (.o a),0,none⟩,cap,hr.2.1,hr.2.2,.inr ⟨_,rfl,rfl,?_⟩⟩
  have hl:∀x∈l.map cI,x.length=1:=fun x hx=>by obtain⟨n,_,rfl⟩:=List.mem_map.1 hx;rfl
  have hfl:=Q3r hl
  have hzl:=RV.length b3
  have hfi:idsL isO (l.map cI).flatten:=by
   refine Q39.2 fun c hc=>?_
   obtain⟨e,he,hce⟩:=List.mem_flatten.1 hc
   obtain⟨n,_,rfl⟩:=List.mem_map.1 he
   simp[cI]at hce;subst hce;trivial
  have hv:RV w C' (l.map cI).flatten (zs.take ((l.map cI).length * 1)):=by
   refine RV.chg hc _ _ hfi ?_
   have:=b3.take ((l.map cI).length * 1)
   rwa [vec,List.take_append_of_le_length (by omega),List.take_of_length_le (by omega)]at this
  refine RS.ofVals 0 hl hv fun j v hj=>⟨?_,hp a (by simp[bO]) _ rfl⟩
  have h2:j < (l.map cI).length * 1:=by have:=(List.getElem?_eq_some_iff.1 hj).1;simp at this ⊢;omega
  rw[List.getElem?_take_of_lt h2]at hj
  rw[Nat.zero_add,cell_of_row _ _ _ _ _ _ b1]
  simpa using hj
theorem Qi3{Γ:List (Nat×List AC)}{F:Nat->Prop}{w:World}{C C':Ctx}{σ:St}(hi:Inv Γ F w C σ)(hc:Chg isO w C w C'):∀{l:List LAlt},Owns σ.ou (aO l)->(∀k∈keys (aO l),∀a:Addr,a.block=C.blk (.o k)->C'.prot a)->∀ad:Addr,
  RS w C 2 (l.map lAlt) ad->RS w C' 2 ((l.map LAlt.er).map cAlt) ad
 |[],_,_,ad,_=>by simp[RS]
 |x::l,ho,hp,ad,hr=>by
  have e:aO (x::l)=bO x.nb x.binds++aO l:=rfl
  rw[e]at ho hp
  obtain⟨ho1,ho2⟩:=Owns.app.1 ho
  simp only[List.map_cons,RS,lAlt,RL]at hr
  obtain⟨_,⟨⟨u,hu,hup,hur⟩,⟨v,hv,hvp,hvr⟩,_⟩,hrest⟩:=hr
  refine⟨rfl,⟨⟨u,hu,hc.prot _ hup,R.chg hc _ u trivial hur⟩,⟨v,hv,hc.prot _ hvp,?_⟩,trivial⟩,Qi3 hi hc ho2 (fun k hk=>hp k (by simp[keys]at hk ⊢;exact .inr hk)) _ hrest⟩
  exact Qht hi hc ho1 (fun k hk=>hp k (by simp[keys]at hk ⊢;exact .inl hk)) hvr
mutual
theorem Q9g{Γ:List (Nat×List AC)}{F:Nat->Prop}{w:World}{C C':Ctx}{σ:St}(hi:Inv Γ F w C σ)(hc:Chg isO w C w C'):∀t:LTr,Owns σ.ou (objs t)->(∀k∈keys (objs t),∀a:Addr,a.block=C.blk (.o k)->C'.prot a)->RL w C' (cTr (erT t)) ⟨C.blk (.o t.id),0,none⟩
 |.mk i o n nb b k a,ho,hp=>by
  have hg:σ.get (.o i)=some (.cells (lC (.mk i o n nb b k a))):=Qg4 (t:=.mk i o n nb b k a) ho
  obtain⟨hok,zs,T,b1,b2,b3,b4⟩:=hi.obj _ _ hg
  have e:objs (.mk i o n nb b k a)=[(i,.cells [int o,int n,bC nb b,.sl 1 (kC k),.sl 2 (a.map lAlt)])]++((bO nb b++aO a)++objss k):=by simp[objs]
  rw[e]at ho hp
  obtain⟨_,ho2⟩:=Owns.app.1 ho
  obtain⟨ho3,hok2⟩:=Owns.app.1 ho2
  obtain⟨hob,hoa⟩:=Owns.app.1 ho3
  have hpb:∀k'∈keys (bO nb b),∀a:Addr,a.block=C.blk (.o k')->C'.prot a:=fun k' hk=>hp k' (by simp[keys]at hk ⊢;exact .inr (.inl hk))
  have hpa:∀k'∈keys (aO a),∀a:Addr,a.block=C.blk (.o k')->C'.prot a:=fun k' hk=>hp k' (by simp[keys]at hk ⊢;exact .inr (.inr (.inl hk)))
  have hpk:∀k'∈keys (objss k),∀a:Addr,a.block=C.blk (.o k')->C'.prot a:=fun k' hk=>hp k' (by simp[keys]at hk ⊢;exact .inr (.inr (.inr hk)))
  simp only[lC,RV,R]at b3
  obtain⟨v1,_,rfl,⟨rfl,_⟩,v2,_,rfl,⟨rfl,_⟩,v3,_,rfl,h3,v4,_,rfl,⟨a4,c4,rfl,l4,h4⟩,v5,_,rfl,⟨a5,c5,rfl,l5,h5⟩,rfl⟩:=b3
  have hrv:RV w C' (cTr (erT (.mk i o n nb b k a))) [.int .i64 o,.int .i64 n,v3,.slice a4 (kC k).length c4,.slice a5 (a.map lAlt).length c5]:=by
   simp only[cTr,erT,Tr.op_mk,Tr.n_mk,Tr.binds_mk,Tr.kids_mk,Tr.alts_mk,RV]
   refine⟨_,_,rfl,by simp[R,Value.oneCell'],_,_,rfl,by simp[R,Value.oneCell'],_,_,rfl,Qht hi hc hob hpb h3,_,_,rfl,?_,_,_,rfl,?_,rfl⟩
   ·refine⟨a4,c4,by simp[kC,Qa3],by simpa[kC,Qa3]using l4,?_⟩
    rcases h4 with h4|⟨ad,rfl,hs,h4⟩
    ·left
     simp only[kC,List.map_eq_nil_iff]at h4
     subst h4;rfl
    ·exact .inr ⟨ad,rfl,hs,Q5d hi hc k hok2 hpk ad h4⟩
   ·refine⟨a5,c5,by simp,by simpa using l5,?_⟩
    rcases h5 with h5|⟨ad,rfl,hs,h5⟩
    ·left
     simp only[List.map_eq_nil_iff]at h5
     subst h5;rfl
    ·exact .inr ⟨ad,rfl,hs,Qi3 hi hc hoa hpa ad h5⟩
  refine RL.of_new 0 hrv (fun j v hj=>?_) (fun ad ha=>?_)
  ·rw[Nat.zero_add]
   show w.cell? ⟨C.blk (.o i),j,none⟩=some v
   rw[cell_of_row _ _ _ _ _ _ b1]
   simpa using hj
  ·exact hp i (by simp[keys]) _ ha
theorem Q5d{Γ:List (Nat×List AC)}{F:Nat->Prop}{w:World}{C C':Ctx}{σ:St}(hi:Inv Γ F w C σ)(hc:Chg isO w C w C'):∀l:List LTr,Owns σ.ou (objss l)->(∀k∈keys (objss l),∀a:Addr,a.block=C.blk (.o k)->C'.prot a)->∀ad:Addr,RS w C 1 (kC l) ad->RS w C' 1 (Q05 (erTs l)) ad
 |[],_,_,ad,_=>by simp[erTs,Q05,RS]
 |t::l,ho,hp,ad,hr=>by
  have e:objss (t::l)=objs t++objss l:=rfl
  rw[e]at ho hp
  obtain⟨ho1,ho2⟩:=Owns.app.1 ho
  simp only[kC,List.map_cons,RS,RL,R]at hr
  obtain⟨_,⟨⟨u,hu,hup,_,hur⟩,_⟩,hrest⟩:=hr
  simp only[erTs,Q05,RS]
  refine⟨rfl,⟨⟨u,hu,hc.prot _ hup,⟨_,hur,rfl,?_⟩⟩,trivial⟩,Q5d hi hc l ho2 (fun k hk=>hp k (by simp[keys]at hk ⊢;exact .inr hk)) _ hrest⟩
  rw[Q6y]
  exact Q9g hi hc t ho1 fun k hk=>hp k (by simp[keys]at hk ⊢;exact .inl hk)
end
mutual
theorem Q60:∀t:LTr,∀p∈objs t,∃cs,p.2=.cells cs
 |.mk i o n nb b k a,p,hp=>by
  simp only[objs,List.cons_append,List.mem_cons,List.mem_append]at hp
  have hb:∀(nb:Nb) (l:List Int),∀p∈bO nb l,∃cs,p.2=.cells cs:=fun nb l p hp=>by
   cases nb with
   |none=>simp[bO]at hp
   |some x=>simp[bO]at hp;subst hp;exact⟨_,rfl⟩
  rcases hp with rfl|(hp|hp)|hp
  ·exact⟨_,rfl⟩
  ·exact hb _ _ p hp
  ·unfold aO at hp
   obtain⟨x,_,hx⟩:=List.mem_flatMap.1 hp
   exact hb _ _ p hx
  ·exact Q3k k p hp
theorem Q3k:∀l:List LTr,∀p∈objss l,∃cs,p.2=.cells cs
 |[],p,hp=>by simp[objss]at hp
 |t::l,p,hp=>by
  simp only[objss,List.mem_append]at hp
  rcases hp with hp|hp
  ·exact Q60 t p hp
  ·exact Q3k l p hp
end
theorem LendF.tree{σ:St}{t:LTr}(h:Owns σ.ou (objs t)):LendF σ (.one (.ptr (.o t.id) 0)) (.one (.box (cTr (erT t)))):=by
 intro Γ F w C v hi hr
 simp only[RF,R]at hr
 refine⟨_,hr.2,rfl,Q9g hi hi.stillChg t h fun k hk a ha=>?_⟩
 obtain⟨p,hp,rfl⟩:=List.mem_map.1 hk
 obtain⟨cs,hcs⟩:=Q60 t p hp
 show a.block < w.heap.size
 rw[ha]
 exact (AObj.block_lt (hi.obj (.o p.1) p.2 (h p hp)).2 (by rw[hcs];rfl)).2
def deadL (ou:Outer)(l:List Nat):Outer:=fun j=>if j∈l then some .dead else ou j
theorem Q7j{Γ:List (Nat×List AC)}{F:Nat->Prop}{w:World}:∀(l:List (Nat×AObj)){C:Ctx}{σ:St},Inv Γ F w C σ->Owns σ.ou l->(keys l).Nodup->(∀p∈l,∃cs,p.2=.cells cs)->
  ∃C',Goes F (fun _=>True) w C w C'/\Inv Γ F w C' { σ with ou:=deadL σ.ou (keys l) }/\(∀i,C'.blk i=C.blk i)/\∀k∈keys l,∀a:Addr,a.block=C.blk (.o k)->C'.prot a
 |[],C,σ,hi,_,_,_=>⟨C,Goes.refl _ _ _ _,by rw[show deadL σ.ou (keys [])=σ.ou from funext fun j=>by simp[deadL]];exact hi,fun _=>rfl,fun k hk=>by simp at hk⟩
 |(k,o)::l,C,σ,hi,ho,hn,hc=>by
  obtain⟨cs,rfl⟩:∃cs,o=.cells cs:=hc (k,o) (by simp)
  simp only[keys,List.map_cons,List.nodup_cons]at hn
  have hg:σ.get (.o k)=some (.cells cs):=ho (k,.cells cs) (by simp)
  obtain⟨h1,h2,h3⟩:=hi.freeze hg
  have ho2:Owns (σ.set (.o k) .dead).ou l:=fun p hp=>by
   have hne:p.1≠k:=fun e=>hn.1 (e▸List.mem_map_of_mem hp)
   show (bif Nat.beq p.1 k then some AObj.dead else σ.ou p.1)=some p.2
   rw[Q07 hne]
   exact ho p (by simp[hp])
  obtain⟨C',g1,g2,g3,g4⟩:=Q7j l h2 ho2 hn.2 fun p hp=>hc p (by simp[hp])
  refine⟨C',h1.trans g1,?_,fun i=>g3 i,fun j hj a ha=>?_⟩
  ·have e:({ σ.set (.o k) .dead with ou:=deadL (σ.set (.o k) .dead).ou (keys l) }:St)={ σ with ou:=deadL σ.ou (keys ((k,.cells cs)::l)) }:=by
    show St.mk σ.n σ.lo _=St.mk σ.n σ.lo _
    congr 1
    funext j
    show deadL (fun j=>bif Nat.beq j k then some AObj.dead else σ.ou j) (keys l) j=_
    unfold deadL
    by_cases e:j=k
    ·subst e;simp
    ·simp only[Q07 e,cond_false,keys,List.map_cons,List.mem_cons,e,false_or]
   rw[←e];exact g2
  ·simp only[keys,List.map_cons,List.mem_cons]at hj
   rcases hj with rfl|hj
   ·exact g1.chg.prot a (.inr ha)
   ·exact g4 j hj a ha
end Go.Proofs.YtmdkenkhaicbeaaGreatDoor
namespace Go.CoreX
def frB (f:Int)(l:List Int):List Int:=(List.range l.length).map fun i:Nat=>f+i
def frN (m:Nm)(f:Int)(l:List Int):Nm:=putsN m l (frB f l)
end Go.CoreX
namespace Go.Proofs.YtmdkenkhaicbeaaGreatDoor
open Go Go.Abs Go.CoreX
variable {Γ:List (Nat×List AC)}
end Go.Proofs.YtmdkenkhaicbeaaGreatDoor
namespace Go.CoreX
def rnAs (nm:Nm)(f:Int):List LAlt->List LAlt×Nm×Int
 |[]=>([],nm,f)
 |x::l=>(⟨x.tag,x.nb,frB f x.binds⟩::(rnAs (frN nm f x.binds) (f+x.binds.length) l).1,(rnAs (frN nm f x.binds) (f+x.binds.length) l).2)
def ren1 (o:Int)(nm:Nm)(f:Int)(b:List Int):List Int×Nm×Int:=if o=9 then (b,nm,f)else (frB f b,frN nm f b,f+b.length)
mutual
def rnL (nm:Nm)(f:Int):LTr->LTr×Nm×Int
 |.mk i o n nb b k a=>
  let s1:=ren1 o nm f b
  let s2:=rnAs s1.2.1 s1.2.2 a
  let s3:=rnLs s2.2.1 s2.2.2 k
  (.mk i o (if o=0 then (nm n).getD n else n) nb s1.1 s3.1 s2.1,s3.2)
def rnLs (nm:Nm)(f:Int):List LTr->List LTr×Nm×Int
 |[]=>([],nm,f)
 |t::l=>((rnL nm f t).1::(rnLs (rnL nm f t).2.1 (rnL nm f t).2.2 l).1,(rnLs (rnL nm f t).2.1 (rnL nm f t).2.2 l).2)
end
def ownB (nb:Nb)(b:List Int):Prop:=nb=none->b=[]
mutual
def okL:LTr->Prop
 |.mk _ o _ nb b k a=>(o≠9->ownB nb b)/\b.length<=1048576/\k.length<=1048576/\a.length<=1048576/\(∀x∈a,ownB x.nb x.binds/\x.binds.length<=1048576)/\okLs k
def okLs:List LTr->Prop
 |[]=>True
 |t::l=>okL t/\okLs l
end
theorem Qdd:∀{l:List LTr},okLs l↔∀t∈l,okL t
 |[]=>by simp[okLs]
 |t::l=>by simp[okLs,Qdd (l:=l)]
end Go.CoreX
namespace Go.Proofs.YtmdkenkhaicbeaaGreatDoor
open Go Go.Abs Go.CoreX
variable {Γ:List (Nat×List AC)}
theorem Q9r(l r:List (Nat×AObj)):keys (l++r)=keys l++keys r:=by simp[keys]
theorem Q2f{ou:Outer}{k:Nat}{os:List AObj}(h:OuOk ou)(ho:∀o∈os,o.ids isO):OuOk (ouAdd ou k os):=by
 intro m o hm
 rcases Nat.lt_or_ge m k with h1|h1
 ·rw[Q0f h1]at hm;exact h m o hm
 ·obtain⟨p,rfl⟩:∃p,m=k+p:=⟨m - k,by omega⟩
  rw[Q0e]at hm
  exact ho o (List.mem_of_getElem? hm)
structure NewO (ou ou':Outer)(L:List (Nat×AObj)):Prop where
 own:Owns ou' L
 new:∀k∈keys L,ou k=none
 old:∀m,m∉keys L->ou' m=ou m
 ok:OuOk ou'
 nd:(keys L).Nodup
theorem NewO.nil{ou:Outer}(h:OuOk ou):NewO ou ou []:=⟨fun p hp=>by simp at hp,fun k hk=>by simp[keys]at hk,fun _ _=>rfl,h,by simp[keys]⟩
theorem NewO.trans{ou ou1 ou2:Outer}{L M:List (Nat×AObj)}(h:NewO ou ou1 L)(k:NewO ou1 ou2 M):NewO ou ou2 (L++M):=by
 have hLM:∀j∈keys L,j∉keys M:=fun j hj hm=>by
  have h1:=k.new j hm
  obtain⟨p,hp,rfl⟩:=List.mem_map.1 hj
  rw[h.own p hp]at h1
  cases h1
 refine⟨Owns.app.2 ⟨h.own.frame fun j hj=>k.old j (hLM j hj),k.own⟩,fun j hj=>?_,fun m hm=>?_,k.ok,?_⟩
 ·rw[Q9r,List.mem_append]at hj
  by_cases e:j∈keys L
  ·exact h.new j e
  ·rw[←h.old j e]
   exact k.new j (hj.resolve_left e)
 ·rw[Q9r,List.mem_append,not_or]at hm
  rw[k.old m hm.2,h.old m hm.1]
 ·rw[Q9r,List.nodup_append]
  exact⟨h.nd,k.nd,fun a ha b hb e=>hLM a ha (e▸hb)⟩
theorem NewO.frame{ou ou':Outer}{L M:List (Nat×AObj)}(h:NewO ou ou' L)(ho:Owns ou M):Owns ou' M:=ho.frame fun j hj=>h.old j fun hm=>by
 obtain⟨p,hp,rfl⟩:=List.mem_map.1 hj
 have:=h.new _ hm
 rw[ho p hp]at this
 cases this
theorem NewO.disj{ou ou':Outer}{L M:List (Nat×AObj)}(h:NewO ou ou' L)(ho:Owns ou M):∀j∈keys M,j∉keys L:=fun j hj hm=>by
 obtain⟨p,hp,rfl⟩:=List.mem_map.1 hj
 have:=h.new _ hm
 rw[ho p hp]at this
 cases this
end Go.Proofs.YtmdkenkhaicbeaaGreatDoor
namespace Go.CoreX
theorem Qe9:∀{e f:List Ex},e.map (·.kids)=f.map (·.kids)->∀i,cnt e i=cnt f i
 |[],[],_,_=>rfl
 |[],_::_,h,_=>by simp at h
 |_::_,[],h,_=>by simp at h
 |x::e,y::f,h,i=>by
  simp only[List.map_cons,List.cons.injEq]at h
  simp only[cnt,h.1,Qe9 h.2 i]
def ixE (e:List Ex):List Ex:=e.mapIdx fun i x=>{ x with n:=(i:Nat) }
theorem Q7i{e:List Ex}{i:Nat}:(ixE e)[i]?=(e[i]?).map fun x=>{ x with n:=(i:Nat) }:=by simp[ixE]
theorem Qjc(e:List Ex):(ixE e).map (·.kids)=e.map (·.kids):=by
 apply List.ext_getElem?
 intro i
 simp only[List.getElem?_map,Q7i]
 cases e[i]? <;> rfl
theorem Q9t(e:List Ex):(ixE e).length=e.length:=by simp[ixE]
theorem Qjb{e:List Ex}(h:IsTree e):IsTree (ixE e):=by
 refine⟨fun e0=>h.ne (by have:=Q9t e;rw[e0]at this;exact List.length_eq_zero_iff.1 (by simpa using this.symm)),fun j x hx=>?_,fun i hi=>?_⟩
 ·rw[Q7i]at hx
  cases he:e[j]? with
  |none=>rw[he]at hx;cases hx
  |some y=>
   rw[he]at hx
   simp at hx;subst hx
   exact h.k j y he
 ·rw[Qe9 (Qjc e),Q9t]
  exact h.c i (by rw[Q9t]at hi;exact hi)
theorem labs_n(e:List Ex):(labs e).map (·.n)=e.map (·.n):=by simp[labs,labE]
theorem ixE_n(e:List Ex):(ixE e).map (·.n)=(List.range e.length).map fun i:Nat=>(i:Int):=by
 apply List.ext_getElem?
 intro i
 simp only[List.getElem?_map,Q7i]
 by_cases h:i < e.length
 ·simp[h]
 ·simp[h]
end Go.CoreX
namespace Go.Proofs.YtmdkenkhaicbeaaGreatDoor
open Go Go.Abs Go.CoreX
def ownO:LTr->List (Nat×AObj)
 |.mk i o n nb b k a=>(bO nb b++aO a)++[(i,.cells [int o,int n,bC nb b,.sl 1 (kC k),.sl 2 (a.map lAlt)])]
theorem Qes(k:Nat):∀t:LTr,(keys (objs t)).count k=(keys (ownO t)).count k+(keys (objss t.kids)).count k
 |.mk i o n nb b ks a=>by
  simp only[objs,ownO,LTr.kids,keys,List.map_cons,List.map_append,List.cons_append,List.count_cons,List.count_append,List.map_nil,List.count_nil]
  omega
structure LinkL (e:List Ex)(lts:List LTr)(B:Nb->List Int->Prop:=ownB):Prop where
 len:lts.length=e.length
 at_:∀(i:Nat) (x:Ex),e[i]?=some x->∃id nb a,lts[i]?=some (.mk id x.op x.n nb x.binds (x.kids.map fun q=>lts.getD q.toNat default) a)/\a.map LAlt.er=x.alts/\B nb x.binds/\∀y∈a,B y.nb y.binds
theorem LinkL.nil{B:Nb->List Int->Prop}:LinkL [] [] B:=⟨rfl,fun i x h=>by simp at h⟩
section
variable {e:List Ex}{lts:List LTr}{B:Nb->List Int->Prop}
theorem LinkL.getD(h:LinkL e lts B){i:Nat}{t:LTr}(ht:lts[i]?=some t):lts.getD i default=t:=by rw[List.getD_eq_getElem?_getD,ht];rfl
theorem LinkL.er(h:LinkL e lts B)(hk:Q0o e):∀(n i:Nat)(t:LTr),i < n->lts[i]?=some t->erT t=Q0u e i
 |0,i,t,hi,_=>by omega
 |n+1,i,t,hi,ht=>by
  have hil:i < e.length:=by rw[←h.len];exact (List.getElem?_eq_some_iff.1 ht).1
  obtain⟨x,hx⟩:=Q00 hil
  obtain⟨id,nb,a,h1,h2,_⟩:=h.at_ i x hx
  rw[ht]at h1
  cases h1
  rw[Q1x hk hx]
  simp only[erT,h2,Qa3,List.map_map]
  congr 1
  refine List.map_congr_left fun q hq=>?_
  have hq':=hk i x hx q hq
  obtain⟨t',ht'⟩:=Q00 (l:=lts) (i:=q.toNat) (by rw[h.len];omega)
  simp only[Function.comp,h.getD ht']
  exact h.er hk n q.toNat t' (by omega) ht'
def ownC (lts:List LTr)(k:Nat)(l:Lab):Int:=((keys (ownO (lts.getD l.n.toNat default))).count k:Nat)
theorem Q7a(k:Nat):∀l:List LTr,(((keys (objss l)).count k:Nat):Int)=(l.map fun t=>(((keys (objs t)).count k:Nat):Int)).sum
 |[]=>by simp[objss,keys]
 |t::l=>by
  have:=Q7a k l
  simp only[keys]at this
  simp only[objss,keys,List.map_append,List.count_append,List.map_cons,List.sum_cons,←this]
  push_cast;rfl
theorem LinkL.count(h:LinkL e lts B)(hk:Q0o e)(k:Nat):∀(n i:Nat)(t:LTr),i < n->lts[i]?=some t->sumT (ownC lts k) (Q0u (ixE e) i)=((keys (objs t)).count k:Nat)
 |0,i,t,hi,_=>by omega
 |n+1,i,t,hi,ht=>by
  have hil:i < e.length:=by rw[←h.len];exact (List.getElem?_eq_some_iff.1 ht).1
  obtain⟨x,hx⟩:=Q00 hil
  obtain⟨id,nb,a,h1,_⟩:=h.at_ i x hx
  rw[ht]at h1
  have hki:Q0o (ixE e):=fun j y hy=>by
   rw[Q7i]at hy
   cases he:e[j]? with
   |none=>rw[he]at hy;cases hy
   |some z=>
    rw[he]at hy
    simp at hy;subst hy
    exact hk j z he
  have hxi:(ixE e)[i]?=some { x with n:=(i:Nat) }:=by rw[Q7i,hx];rfl
  rw[Q1x hki hxi]
  simp only[sumT,Q6q,List.map_map]
  rw[Qes]
  have e1:ownC lts k ⟨x.op,(i:Nat),x.binds,x.kids.map (Tr.op∘fun k=>Q0u (ixE e) k.toNat),x.alts⟩=((keys (ownO t)).count k:Nat):=by
   unfold ownC
   simp only[Int.toNat_natCast,h.getD ht]
  have e2:(x.kids.map (sumT (ownC lts k)∘fun k=>Q0u (ixE e) k.toNat)).sum=((keys (objss t.kids)).count k:Nat):=by
   rw[Q7a]
   cases h1
   simp only[LTr.kids,List.map_map]
   congr 1
   refine List.map_congr_left fun q hq=>?_
   have hq':=hk i x hx q hq
   obtain⟨t',ht'⟩:=Q00 (l:=lts) (i:=q.toNat) (by rw[h.len];omega)
   simp only[Function.comp,h.getD ht']
   exact h.count hk k n q.toNat t' (by omega) ht'
  rw[e1,e2]
  push_cast;rfl
theorem Q8v(k:Nat):∀lts:List LTr,(((keys (lts.flatMap ownO)).count k:Nat):Int)=(lts.map fun t=>(((keys (ownO t)).count k:Nat):Int)).sum
 |[]=>by simp[keys]
 |t::l=>by
  have:=Q8v k l
  simp only[keys]at this
  simp only[List.flatMap_cons,keys,List.map_append,List.count_append,List.map_cons,List.sum_cons,←this]
  push_cast;rfl
theorem LinkL.nodup(h:LinkL e lts B)(ht:IsTree e)(hn:(keys (lts.flatMap ownO)).Nodup){t:LTr}(hr:lts[e.length - 1]?=some t):(keys (objs t)).Nodup:=by
 rw[List.nodup_iff_count]
 intro k
 have h1:=h.count ht.k k _ _ t (Nat.lt_succ_self _) hr
 have h2:=Q4i (ownC lts k) (Qjb ht)
 have h3:grow (ixE e)=Q0u (ixE e) (e.length - 1):=by unfold grow Q0u;rw[Q9t]
 rw[h3,h1]at h2
 have h4:((labs (ixE e)).map (ownC lts k))=lts.map fun t=>(((keys (ownO t)).count k:Nat):Int):=by
  have e1:(labs (ixE e)).map (ownC lts k)=((labs (ixE e)).map (·.n)).map fun n:Int=>(((keys (ownO (lts.getD n.toNat default))).count k:Nat):Int):=by
   rw[List.map_map];rfl
  rw[e1,labs_n,ixE_n,List.map_map]
  apply List.ext_getElem?
  intro i
  by_cases hi:i < e.length
  ·obtain⟨t',ht'⟩:=Q00 (l:=lts) (i:=i) (by rw[h.len];exact hi)
   simp only[List.getElem?_map,List.getElem?_range hi,Option.map_some,Function.comp,Int.toNat_natCast,h.getD ht',ht']
  ·rw[List.getElem?_eq_none (by simp;omega),List.getElem?_eq_none (by simp[h.len];omega)]
 rw[h4,←Q8v]at h2
 have h5:=List.nodup_iff_count.1 hn k
 omega
theorem LinkL.ok(h:LinkL e lts)(hk:Q0o e)(hs:∀x∈e,x.binds.length<=1048576/\x.kids.length<=1048576/\x.alts.length<=1048576/\∀a∈x.alts,a.binds.length<=1048576):∀(n i:Nat)(t:LTr),i < n->lts[i]?=some t->okL t
 |0,i,t,hi,_=>by omega
 |n+1,i,t,hi,ht=>by
  have hil:i < e.length:=by rw[←h.len];exact (List.getElem?_eq_some_iff.1 ht).1
  obtain⟨x,hx⟩:=Q00 hil
  obtain⟨id,nb,a,h1,h2,h3,h4⟩:=h.at_ i x hx
  obtain⟨s1,s2,s3,s4⟩:=hs x (List.mem_of_getElem? hx)
  rw[ht]at h1
  cases h1
  refine⟨fun _=>h3,s1,by simpa using s2,by have:=congrArg List.length h2;simp at this;omega,fun y hy=>⟨h4 y hy,?_⟩,Qdd.2 fun u hu=>?_⟩
  ·exact s4 y.er (by rw[←h2];exact List.mem_map_of_mem hy)
  ·obtain⟨q,hq,rfl⟩:=List.mem_map.1 hu
   have hq':=hk i x hx q hq
   obtain⟨t',ht'⟩:=Q00 (l:=lts) (i:=q.toNat) (by rw[h.len];omega)
   rw[h.getD ht']
   exact h.ok hk hs n q.toNat t' (by omega) ht'
end
variable {Γ:List (Nat×List AC)}
def Qg8 (ts:List LTr)(n:Nat):List AC:=ts.map (fun t=>.ptr (.o t.id) 0)++List.replicate (n - ts.length) (.lit (.pointer none))
theorem Q8q(p:Abs.Id->Prop)(hp:∀k,p (.o k))(ts:List LTr)(n:Nat):idsL p (Qg8 ts n):=by
 refine Q5j ?_ (Qdq p _ _)
 induction ts with
 |nil=>trivial
 |cons t ts ih=>exact⟨hp _,ih⟩
@[simp] theorem ids_nodesL_l (k:Nat) (ts:List LTr) (n:Nat):idsL (inL k) (Qg8 ts n):=Q8q _ (fun _=>trivial) ts n
@[simp] theorem ids_nodesL_o (ts:List LTr) (n:Nat):idsL isO (Qg8 ts n):=Q8q _ (fun _=>trivial) ts n
@[simp] theorem ids_kC_l (k:Nat) (ts:List LTr):idsS (inL k) (kC ts):=ids_kC _ (fun _=>trivial) ts
@[simp] theorem Qjf (ts:List LTr):idsS isO (kC ts):=ids_kC _ (fun _=>trivial) ts
@[simp] theorem ids_lAlts_l (k:Nat) (l:List LAlt):idsS (inL k) (l.map lAlt):=Qb4 _ (fun _=>trivial) l
@[simp] theorem Qcb (l:List LAlt):idsS isO (l.map lAlt):=Qb4 _ (fun _=>trivial) l
@[simp] theorem ids_bC_l (k:Nat) (nb:Nb) (l:List Int):(bC nb l).ids (inL k):=Qh4 _ (fun _=>trivial) nb l
@[simp] theorem ids_bC_o (nb:Nb) (l:List Int):(bC nb l).ids isO:=Qh4 _ (fun _=>trivial) nb l
@[simp] theorem ren_kC (ρ:Nat->Nat) (l:List LTr):renS ρ (kC l)=kC l:=Q1i ρ _ (Qjf l)
@[simp] theorem ren_lAlts (ρ:Nat->Nat) (l:List LAlt):renS ρ (l.map lAlt)=l.map lAlt:=Q1i ρ _ (Qcb l)
@[simp] theorem ren_bC (ρ:Nat->Nat) (nb:Nb) (l:List Int):(bC nb l).ren ρ=bC nb l:=by cases nb <;> simp[bC,AC.ren,Abs.Id.ren]
theorem NewO.add{ou:Outer}{k:Nat}{o:AObj}(hk:∀m,k<=m->ou m=none)(hou:OuOk ou)(ho:o.ids isO):NewO ou (ouAdd ou k [o]) [(k,o)]:=by
 refine⟨fun p hp=>?_,fun j hj=>?_,fun m hm=>?_,Q2f hou fun q hq=>by simp at hq;subst hq;exact ho,by simp[keys]⟩
 ·simp at hp;subst hp
  exact Q0e 0
 ·simp[keys]at hj;subst hj;exact hk _ (Nat.le_refl _)
 ·simp[keys]at hm
  rcases Nat.lt_or_ge m k with h1|h1
  ·exact Q0f h1
  ·obtain⟨p,rfl⟩:∃p,m=k+p:=⟨m - k,by omega⟩
   rw[Q0e,hk _ h1]
   cases p with
   |zero=>simp at hm
   |succ p=>simp
end Go.Proofs.YtmdkenkhaicbeaaGreatDoor
namespace Go.CoreX
end Go.CoreX
namespace Go.Proofs.YtmdkenkhaicbeaaGreatDoor
open Go Go.Abs Go.CoreX
variable {Γ:List (Nat×List AC)}
end Go.Proofs.YtmdkenkhaicbeaaGreatDoor
namespace Go.CoreX
-- What holds of all nodes.
mutual
def allT (p:Lab->Prop):Tr->Prop
 |.mk o n b k a=>p ⟨o,n,b,k.map Tr.op,a⟩/\allTs p k
def allTs (p:Lab->Prop):List Tr->Prop
 |[]=>True
 |t::l=>allT p t/\allTs p l
end
theorem Q1m{p:Lab->Prop}:∀{l:List Tr},allTs p l↔∀t∈l,allT p t
 |[]=>by simp[allTs]
 |t::l=>by simp[allTs,Q1m (l:=l)]
theorem Qhz{e:List Ex}(hk:Q0o e){p:Lab->Prop}(h:∀x∈e,p (labE e x)):∀(n i:Nat),i < n->i < e.length->allT p (Q0u e i)
 |0,i,hi,_=>by omega
 |n+1,i,hi,hl=>by
  obtain⟨x,hx⟩:∃x,e[i]?=some x:=⟨e[i],List.getElem?_eq_getElem hl⟩
  rw[Q1x hk hx]
  refine⟨?_,Q1m.2 fun t ht=>?_⟩
  ·have:=h x (List.mem_of_getElem? hx)
   simp only[labE]at this
   simp only[List.map_map]
   exact this
  ·obtain⟨q,hq,rfl⟩:=List.mem_map.1 ht
   have:=hk i x hx q hq
   exact Qhz hk h n q.toNat (by omega) (by omega)
theorem Q7y{e:List Ex}(h:IsTree e){p:Lab->Prop}(hp:∀x∈e,p (labE e x)):allT p (grow e):=by
 have:=List.length_pos_iff.2 h.ne
 exact Qhz h.k hp _ (e.length - 1) (Nat.lt_succ_self _) (by omega)
end Go.CoreX
namespace Go.CoreX
structure ShN (o n:Int)(b:List Int)(k:Nat)(a:List Alt):Prop where
 sh:∃ops:List Int,ops.length=k/\shape ⟨o,n,b,ops,a⟩=true
section
variable {o n:Int}{b:List Int}{k:Nat}{a:List Alt}
theorem ShN.want(h:ShN o n b k a)(h7:¬(o=7∨o=13)):∃w:Int×Int×Bool,(∃ops:List Int,ops.length=k/\wants ⟨o,n,b,ops,a⟩=some w)/\(k:Int)=w.1/\(b.length:Int)=w.2.1/\a=[]:=by
 obtain⟨ops,hl,h⟩:=h.sh
 unfold shape at h
 rw[if_neg h7]at h
 split at h
 ·cases h
 ·rename_i kk bb u hw
  simp only[Bool.and_eq_true,beq_iff_eq,List.length_eq_zero_iff]at h
  exact⟨_,⟨ops,hl,hw⟩,by rw[←hl];exact h.1.1.1,h.1.1.2,h.1.2⟩
theorem ShN.lam(h:ShN 2 n b k a):k=1/\a=[]:=by
 obtain⟨w,⟨ops,hl,hw⟩,h1,h2,h3⟩:=h.want (by omega)
 cases hw;exact⟨by simp at h1;omega,h3⟩
theorem ShN.app(h:ShN 3 n b k a):1<=k/\b=[]/\a=[]:=by
 obtain⟨w,⟨ops,hl,hw⟩,h1,h2,h3⟩:=h.want (by omega)
 cases hw
 refine⟨?_,List.length_eq_zero_iff.1 (by simp at h2;simp[h2]),h3⟩
 simp only at h1;split at h1 <;> omega
theorem ShN.lett(h:ShN 4 n b k a):k=2/\b.length=1/\a=[]:=by
 obtain⟨w,⟨ops,hl,hw⟩,h1,h2,h3⟩:=h.want (by omega)
 cases hw;exact⟨by simp at h1;omega,by simp at h2;omega,h3⟩
theorem ShN.recs(h:ShN 5 n b k a):k=b.length+1/\1<=b.length/\a=[]:=by
 obtain⟨w,⟨ops,hl,hw⟩,h1,h2,h3⟩:=h.want (by omega)
 cases hw
 refine⟨by simp at h1;omega,?_,h3⟩
 simp only at h2;split at h2 <;> omega
theorem ShN.prim(h:ShN 8 n b k a):0<=n/\n<=11/\(k:Int)=Q4e.getD n.toNat 0/\b=[]/\a=[]:=by
 obtain⟨w,⟨ops,hl,hw⟩,h1,h2,h3⟩:=h.want (by omega)
 have hw:(if between n 0 11=true then some (Q4e.getD n.toNat 0,(0:Int),true)else none)=some w:=hw
 split at hw
 ·rename_i hb
  cases hw
  simp[between]at hb
  exact⟨hb.1,hb.2,h1,List.length_eq_zero_iff.1 (by simp at h2;simp[h2]),h3⟩
 ·cases hw
theorem ShN.row(h:ShN 9 n b k a):k=b.length/\a=[]:=by
 obtain⟨w,⟨ops,hl,hw⟩,h1,h2,h3⟩:=h.want (by omega)
 cases hw;exact⟨by simp at h1;omega,h3⟩
theorem ShN.one(h:ShN o n b k a)(ho:o=10∨o=12∨o=16):k=1/\b=[]/\a=[]:=by
 obtain⟨w,⟨ops,hl,hw⟩,h1,h2,h3⟩:=h.want (by omega)
 rcases ho with rfl|rfl|rfl <;> (cases hw;exact⟨by simp at h1;omega,List.length_eq_zero_iff.1 (by simp at h2;simp[h2]),h3⟩)
theorem ShN.alts7(h:ShN o n b k a)(ho:o=7∨o=13):k=1+a.length/\b=[]/\(o=13->1<=a.length)/\∀i x,a[i]?=some x->Q40 ⟨o,n,b,[],a⟩ i x=false:=by
 obtain⟨ops,hl,h⟩:=h.sh
 unfold shape at h
 rw[if_pos ho]at h
 simp only[Bool.and_eq_true,beq_iff_eq,List.length_eq_zero_iff]at h
 obtain⟨⟨h1,h2⟩,h3⟩:=h
 unfold Q5t at h1
 simp only[Bool.and_eq_true,Bool.not_eq_true',beq_iff_eq,Bool.or_eq_true,decide_eq_true_eq]at h1
 obtain⟨h4,h5,h6⟩:=h1
 refine⟨by omega,h2,fun h13=>?_,fun i x hx=>?_⟩
 ·rcases h6 with h6|h6
  ·subst h13;cases h6
  ·omega
 ·rw[List.any_eq_false]at h4
  have:=h4 (x,i) (by rw[List.mk_mem_zipIdx_iff_getElem?];exact hx)
  simpa[Q40]using this
theorem ShN.case(h:ShN 7 n b k a):k=1+a.length/\b=[]:=⟨(h.alts7 (.inl rfl)).1,(h.alts7 (.inl rfl)).2.1⟩
theorem ShN.handle(h:ShN 13 n b k a):k=1+a.length/\b=[]/\1<=a.length/\∀i x,a[i]?=some x->(i=0↔x.tag=-1)/\x.binds.length=if i=0 then 1 else 2:=by
 obtain⟨h1,h2,h3,h4⟩:=h.alts7 (.inr rfl)
 refine⟨h1,h2,h3 rfl,fun i x hx=>?_⟩
 have:=h4 i x hx
 simp only[Q40,Bool.or_eq_false_iff,Bool.and_eq_false_iff,Bool.not_eq_false',beq_iff_eq,beq_eq_false_iff_ne]at this
 obtain⟨_,h5,h6⟩:=this
 refine⟨?_,?_⟩
 ·rcases h5 with h5|h5
  ·exact absurd rfl h5
  ·by_cases hi:i=0
   ·subst hi;simpa using h5
   ·have:((i:Int)==0)=false:=by simp[hi]
    rw[this]at h5
    simp[hi]at h5 ⊢;exact h5
 ·rcases h6 with h6|h6
  ·exact absurd rfl h6
  ·split at h6
   ·rw[if_neg (by omega)];omega
   ·rename_i hh
    have:i=0∨i=1:=by omega
    rcases this with rfl|rfl <;> simp <;> omega
end
def shpQ (l:Lab):Prop:=ShN l.op l.n l.binds l.ops.length l.alts
theorem Q24{t:Tr}(h:allT shpQ t):ShN t.op t.n t.binds t.kids.length t.alts:=by
 cases t with
 |mk o n b k a=>simpa[shpQ]using h.1
theorem Qa7{p:Lab->Prop}{t s:Tr}(h:allT p t)(hs:s∈t.kids):allT p s:=by
 cases t with
 |mk o n b k a=>exact Q1m.1 h.2 s hs
theorem Q2w{p:Lab->Prop}{t:Tr}(h:allT p t){i:Nat}(hi:i < t.kids.length):allT p (t.kids.getD i default):=by
 rw[List.getD_eq_getElem?_getD,List.getElem?_eq_getElem hi]
 exact Qa7 h (List.getElem_mem hi)
theorem Q2g{p:Lab->Prop}{t:Tr}(h:allT p t):p ⟨t.op,t.n,t.binds,t.kids.map Tr.op,t.alts⟩:=by
 cases t with
 |mk o n b k a=>exact h.1
mutual
theorem Q3c{p q:Lab->Prop}(h:∀l,p l->q l):∀t:Tr,allT p t->allT q t
 |.mk o n b k a,ht=>⟨h _ ht.1,Qbl h k ht.2⟩
theorem Qbl{p q:Lab->Prop}(h:∀l,p l->q l):∀l:List Tr,allTs p l->allTs q l
 |[],_=>trivial
 |t::l,ht=>⟨Q3c h t ht.1,Qbl h l ht.2⟩
end
theorem shpQ_of{l:Lab}(h:shape ⟨l.op,l.n,l.binds,l.ops,l.alts⟩=true):shpQ l:=⟨⟨l.ops,rfl,h⟩⟩
end Go.CoreX
namespace Go.CoreX
-- Names that a tree does not bind keep their new names.
end Go.CoreX
namespace Go.CoreX
def tl (a:Alt):Int×Nat:=(a.tag,a.binds.length)
end Go.CoreX
namespace Go.CoreX
theorem sum0{α:Type}{f:α->Int}:∀{l:List α},(∀x∈l,0<=f x)->(l.map f).sum=0->∀x∈l,f x=0
 | [], _, _, x, hx => by simp at hx
 |y::l,h,hs,x,hx=>by
  have h1:=h y (by simp)
  have h2:∀z∈l,0<=f z:=fun z hz=>h z (by simp[hz])
  have h3:0<=(l.map f).sum:=by
   clear h h1 hs hx
   induction l with
   |nil=>simp
   |cons z l ih=>
    have:=h2 z (by simp)
    have:=ih fun y hy=>h2 y (by simp[hy])
    simp only[List.map_cons,List.sum_cons];omega
  simp only[List.map_cons,List.sum_cons]at hs
  rcases List.mem_cons.1 hx with rfl|hx
  ·omega
  ·exact sum0 h2 (by omega) x hx
open Classical in
mutual
theorem Qfj{p:Lab->Prop}:∀t:Tr,allT p t->sumT (fun l=>if p l then 0 else 1) t=0
 |.mk o n b k a,h=>by
  simp only[sumT,Qcz k h.2]
  rw[if_pos h.1];rfl
theorem Qcz{p:Lab->Prop}:∀l:List Tr,allTs p l->sumTs (fun l=>if p l then 0 else 1) l=0
 |[],_=>rfl
 |t::l,h=>by simp only[sumTs,Qfj t h.1,Qcz l h.2];rfl
end
open Classical in
theorem Qhy{p:Lab->Prop}{g:List Ex}(h:IsTree g)(ha:allT p (grow g)):∀l∈labs g,p l:=by
 have h1:=Q4i (fun l=>if p l then (0:Int)else 1) h
 rw[Qfj _ ha]at h1
 intro l hl
 have:=sum0 (fun x _=>by split <;> omega) h1 l hl
 split at this
 ·assumption
 ·cases this
theorem Q32{e:List Ex}(h:check e=0):Q1b e=0/\(∀x∈e,Q0k false e x=0)/\(Q08 e).Nodup/\occT [] (grow e)=[]:=by
 unfold check body at h
 by_cases h1:Q1b e=0
 ·rw [if_neg (by simpa using h1)] at h
  by_cases h2:Q18 (Q0k false e) e=0
  ·rw[if_neg (by simpa using h2)]at h
   by_cases h3:Q4a ([]++Q08 e)=true
   ·rw[if_pos h3]at h;cases h
   ·rw[if_neg h3]at h
    have h3':=(Q21 _).1 (by simpa using h3)
    refine⟨h1,(Q28 _ _).1 h2,by simpa using h3',?_⟩
    by_cases h4:(Q1k (grow e)).all (fun n=>([]:List Int).contains n)=true
    ·have h5:Q1k (grow e)=[]:=by
      cases hf:Q1k (grow e) with
      |nil=>rfl
      |cons n l=>rw[hf]at h4;simp at h4
     unfold Q1k at h5
     cases ho:occT [] (grow e) with
     |nil=>rfl
     |cons n l=>
      have:=(Q5b n (n::l)).2 (by simp)
      rw[←ho,h5]at this
      simp at this
    ·rw[if_neg h4]at h;cases h
  ·rw[if_pos (by simpa using h2)]at h;exact absurd h h2
 ·rw[if_pos h1]at h;exact absurd h h1
end Go.CoreX
namespace Go.Proofs.YtmdkenkhaicbeaaGreatDoor
open Go Go.Abs Go.CoreX
variable {Γ:List (Nat×List AC)}
end Go.Proofs.YtmdkenkhaicbeaaGreatDoor
namespace Go.CoreX
structure pOk (l:Lab):Prop where
 b:l.binds.length<=1048576
 k:l.ops.length<=1048576
 a:l.alts.length<=1048576
 ab:∀x∈l.alts,x.binds.length<=1048576
 s:l.binds.length+(l.alts.flatMap (·.binds)).length<=4194304
-- Two lists in order, with the same members, are one list.
end Go.CoreX
namespace Go.Proofs.YtmdkenkhaicbeaaGreatDoor
open Go Go.Abs Go.CoreX
theorem Qer{g:List Ex}(hl:g.length<=1048576)(h:∀l∈labs g,pOk l):okB g:=by
 refine⟨⟨hl,fun x hx=>?_⟩,fun x hx=>?_⟩
 ·have:=h _ (List.mem_map_of_mem (f:=labE g) hx)
  exact⟨this.b,by simpa[labE]using this.k,this.a,this.ab⟩
 ·exact (h _ (List.mem_map_of_mem (f:=labE g) hx)).s
end Go.Proofs.YtmdkenkhaicbeaaGreatDoor
namespace Go.CoreX
end Go.CoreX
namespace Go.CoreX
mutual
theorem Q9i:∀t:Tr,okT t->allT pOk t
 |.mk o n b k a,h=>⟨⟨h.1,by simpa using h.2.1,h.2.2.1,h.2.2.2.1.1,h.2.2.2.1.2⟩,Qdc k h.2.2.2.2⟩
theorem Qdc:∀l:List Tr,okTs l->allTs pOk l
 |[],_=>trivial
 |t::l,h=>⟨Q9i t h.1,Qdc l h.2⟩
end
mutual
theorem Q4z:∀t:Tr,allT pOk t->okT t
 |.mk o n b k a,h=>⟨h.1.b,by simpa using h.1.k,h.1.a,⟨h.1.ab,h.1.s⟩,Qda k h.2⟩
theorem Qda:∀l:List Tr,allTs pOk l->okTs l
 |[],_=>trivial
 |t::l,h=>⟨Q4z t h.1,Qda l h.2⟩
end
end Go.CoreX
namespace Go.Proofs.YtmdkenkhaicbeaaGreatDoor
open Go Go.Abs Go.CoreX
theorem Q4l{T:Tr}(h:allT pOk T)(hl:cntN T<=1048576):okB (listT [] T):=Qer (by have:=Q1u T [];simp at this;omega) (Qhy (Q3n _) (by rw[Q31];exact h))
end Go.Proofs.YtmdkenkhaicbeaaGreatDoor
namespace Go.CoreX
mutual
inductive Vl where
 |nil
 |word (n:Int)
 |clo (t:Tr) (e:En)
 |obj (tag:Int) (fs:List Vl)
 |row (ls:List Int) (fs:List Vl)
 |arr (a:Nat)
 |res (fs:List Fm)
 |cap (fn:Int) (slots:List Vl)
inductive En where
 |nil
 |bind (id:Int) (v:Vl) (next:En)
 |recs (t:Tr) (next:En)
inductive Fm where
 |mk (t:Tr) (e:En) (done:List Vl)
end
instance:Inhabited Vl:=⟨.nil⟩
instance:Inhabited Fm:=⟨.mk default .nil []⟩
def Fm.t:Fm->Tr|.mk t _ _=>t
def Fm.e:Fm->En|.mk _ e _=>e
def Fm.done:Fm->List Vl|.mk _ _ d=>d
@[simp] theorem Fm.t_mk (t e d):(Fm.mk t e d).t=t:=rfl
@[simp] theorem Fm.e_mk (t e d):(Fm.mk t e d).e=e:=rfl
@[simp] theorem Fm.done_mk (t e d):(Fm.mk t e d).done=d:=rfl

def Q7e (l:List Int)(id:Int):Nat->Option Nat
 |0=>none
 |i+1=>if l.getD i 0=id then some i else Q7e l id i
def findE (id:Int):En->Vl
 |.nil=>.nil
 |.bind i v n=>if i=id then v else findE id n
 |.recs t n=>match Q7e t.binds id t.binds.length with
  |some i=>.clo (t.kids.getD i default) (.recs t n)
  |none=>findE id n
def allE (e:En):List Int->List Vl->En
 |id::ids,l=>allE (.bind id (l.headD .nil) e) ids l.tail
 |[],_=>e

inductive Ctl where
 |ev (t:Tr) (e:En)
 |rt (v:Vl)
structure Ms where
 c:Ctl
 k:List Fm
 out:List Int
 steps:Int
 heap:List (List Vl)
structure Fun where
 params:List Int
 body:Tr

def condV (b:Bool):Vl:=.obj (if b then 1 else 0) []
def wrapW (n:Int):Int:=(n+1073741824) % 2147483648 - 1073741824
def wordV:Vl->Except Int Int
 |.word n=>.ok n
 |_=>.error 5
def Qgs (h:List (List Vl)):Vl->Except Int (Nat×List Vl)
 |.arr a=>.ok (a,h.getD a [])
 |_=>.error 5
def rowsV:Vl->Except Int (List Int×List Vl)
 |.row ls fs=>.ok (ls,fs)
 |_=>.error 5

def bsGo (l:List Int)(x:Int):Nat->Nat->Nat->Nat
 |0,i,_=>i
 |g+1,i,j=>if i < j then (if l.getD ((i+j) / 2) 0 < x then bsGo l x g ((i+j) / 2+1) j else bsGo l x g i ((i+j) / 2))else i
def bsAt (l:List Int)(x:Int):Nat:=bsGo l x l.length 0 l.length
def bsIs (l:List Int)(x:Int):Bool:=decide (bsAt l x < l.length)&&l.getD (bsAt l x) 0==x

def Qdz (fu:Int)(m:Ms)(many:Int)(v:Vl):Except Int (Ms×Vl):=
 if many < 0∨1024 < many then .error 6 else if fu - m.steps < many then .error (-1) else
 .ok ({ m with steps:=m.steps+many,heap:=m.heap++[List.replicate many.toNat v] },.arr m.heap.length)
def Qa5 (m:Ms)(n:Int)(l:List Vl):Except Int (Ms×Vl):=do
 let (a,its) ←Qgs m.heap (l.getD 0 .nil)
 if n=9 then return (m,.word its.length)
 let i ←wordV (l.getD 1 .nil)
 if i < 0∨(its.length:Int)<=i then .error 2
 else if n=10 then return (m,its.getD i.toNat .nil)
 else return ({ m with heap:=m.heap.set a (its.set i.toNat (l.getD 2 .nil)) },.obj 0 [])
def primM (fu:Int)(m:Ms)(n:Int)(l:List Vl):Except Int (Ms×Vl):=
 if n=0 then do return (m,.word (wrapW ((←wordV (l.getD 0 .nil))+(←wordV (l.getD 1 .nil))))) else
 if n=1 then do return (m,.word (wrapW ((←wordV (l.getD 0 .nil)) - (←wordV (l.getD 1 .nil))))) else
 if n=2 then do return (m,.word (wrapW ((←wordV (l.getD 0 .nil)) * (←wordV (l.getD 1 .nil))))) else
 if n=3 then do
  let a ←wordV (l.getD 0 .nil)
  let b ←wordV (l.getD 1 .nil)
  if b=0 then .error 1 else return (m,.word (wrapW (a.tdiv b))) else
 if n=4 then do
  let a ←wordV (l.getD 0 .nil)
  let b ←wordV (l.getD 1 .nil)
  if b=0 then .error 1 else return (m,.word (a.tmod b)) else
 if n=5 then do return (m,condV (decide ((←wordV (l.getD 0 .nil)) < (←wordV (l.getD 1 .nil))))) else
 if n=6 then do return (m,condV (decide ((←wordV (l.getD 0 .nil))=(←wordV (l.getD 1 .nil))))) else
 if n=7 then do
  let a ←wordV (l.getD 0 .nil)
  if m.out.length=1000 then .error 6 else return ({ m with out:=m.out++[a] },.obj 0 []) else
 if n=8 then do
  let a ←wordV (l.getD 0 .nil)
  Qdz fu m a (l.getD 1 .nil) else
 Qa5 m n l
def withR (ls:List Int)(fs:List Vl)(n:Int)(v:Vl):Vl:=
 if bsIs ls n then .row ls (fs.set (bsAt ls n) v)
 else .row (ls.take (bsAt ls n)++n::ls.drop (bsAt ls n)) (fs.take (bsAt ls n)++v::fs.drop (bsAt ls n))
def Q3z (fu:Int)(m:Ms)(t:Tr)(l:List Vl):Except Int (Ms×Vl):=
 if t.op=6 then .ok (m,.obj t.n l) else
 if t.op=8 then primM fu m t.n l else
 if t.op=9 then .ok (m,.row t.binds l) else
 if t.op=10 then do
  let (ls,fs) ←rowsV (l.getD 0 .nil)
  if bsIs ls t.n then return (m,fs.getD (bsAt ls t.n) .nil)else .error 3
 else do
  let (ls,fs) ←rowsV (l.getD 0 .nil)
  return (m,withR ls fs t.n (l.getD 1 .nil))
def opdN (t:Tr):Nat:=if t.op=4∨t.op=7∨t.op=13∨t.op=12 then 1 else t.kids.length
def Q1c (tag:Int)(fs:List Vl)(e:En)(kids:List Tr):Nat->List Alt->Except Int Ctl
 |_,[]=>.error 3
 |i,a::al=>if a.tag=tag then (if a.binds.length=fs.length then .ok (.ev (kids.getD (1+i) default) (allE e a.binds fs))else .error 5)
  else if a.tag=-1 then .ok (.ev (kids.getD (1+i) default) e)else Q1c tag fs e kids (i+1) al
def Q2q (m:Ms)(t:Tr)(e:En)(v:Vl):Except Int Ms:=
 match v with
 |.obj tag fs=>(Q1c tag fs e t.kids 0 t.alts).map fun c=>{ m with c:=c }
 |_=>.error 5
def callM (fns:List Fun)(m:Ms)(f:Vl)(args:List Vl):Except Int Ms:=
 match f with
 |.clo t e=>if t.binds.length=args.length then .ok { m with c:=.ev (t.kids.getD 0 default) (allE e t.binds args) }else .error 5
 |.cap n slots=>if (fns.getD n.toNat ⟨[],default⟩).params.length=args.length+1 then .ok { m with c:=.ev (fns.getD n.toNat ⟨[],default⟩).body (allE .nil (fns.getD n.toNat ⟨[],default⟩).params (.cap n slots::args)) }else .error 5
 |.res fs=>match args with
  |[a]=>.ok { m with c:=.rt a,k:=fs++m.k }
  |_=>.error 5
 |_=>.error 5
def Q70 (op:Int):Nat->List Alt->Option Nat
 |_,[]=>none
 |i,a::al=>if a.tag=op/\0 < i then some i else Q70 op (i+1) al
def Q35 (m:Ms)(op:Int)(v:Vl):List Fm->List Fm->Except Int Ms
 |_,[]=>.error 4
 |l,f::k=>match (if f.t.op=13 then Q70 op 0 f.t.alts else none) with
  |some i=>.ok { m with c:=.ev (f.t.kids.getD (1+i) default) (.bind ((f.t.alts.getD i ⟨0,[]⟩).binds.getD 1 0) (.res (l++[f])) (.bind ((f.t.alts.getD i ⟨0,[]⟩).binds.getD 0 0) v f.e)),k:=k }
  |none=>Q35 m op v (l++[f]) k
def kidM (fu:Int)(fns:List Fun)(m:Ms)(f:Fm)(k:List Fm):Except Int Ms:=
 if f.done.length < opdN f.t then .ok { m with c:=.ev (f.t.kids.getD f.done.length default) f.e,k:=f::k } else
 if f.t.op=4 then .ok { m with c:=.ev (f.t.kids.getD 1 default) (.bind (f.t.binds.getD 0 0) (f.done.getD 0 .nil) f.e),k:=k } else
 if f.t.op=7 then Q2q { m with k:=k } f.t f.e (f.done.getD 0 .nil) else
 if f.t.op=3 then callM fns { m with k:=k } (f.done.getD 0 .nil) (f.done.drop 1) else
 if f.t.op=13 then .ok { m with c:=.ev (f.t.kids.getD 1 default) (.bind ((f.t.alts.getD 0 ⟨0,[]⟩).binds.getD 0 0) (f.done.getD 0 .nil) f.e),k:=k } else
 if f.t.op=12 then Q35 m f.t.n (f.done.getD 0 .nil) [] k else
 if f.t.op=14 then .ok { m with c:=.ev (fns.getD f.t.n.toNat ⟨[],default⟩).body (allE .nil (fns.getD f.t.n.toNat ⟨[],default⟩).params f.done),k:=k } else
 if f.t.op=15 then .ok { m with c:=.rt (.cap f.t.n f.done),k:=k } else
 if f.t.op=16 then (match f.done.getD 0 .nil with
  |.cap _ slots=>if f.t.n < slots.length then .ok { m with c:=.rt (slots.getD f.t.n.toNat .nil),k:=k }else .error 5
  |_=>.error 5) else
 (Q3z fu { m with k:=k } f.t f.done).map fun (m',v)=>{ m' with c:=.rt v }
def Q29 (fu:Int)(fns:List Fun)(m:Ms)(t:Tr)(e:En):Except Int Ms:=
 if t.op=0 then .ok { m with c:=.rt (findE t.n e) } else
 if t.op=1 then .ok { m with c:=.rt (.word t.n) } else
 if t.op=2 then .ok { m with c:=.rt (.clo t e) } else
 if t.op=17 then .error t.n else
 if t.op=5 then .ok { m with c:=.ev (t.kids.getD t.binds.length default) (.recs t e) } else
 kidM fu fns m (.mk t e []) m.k
inductive Rd where
 |next (m:Ms)
 |done (m:Ms) (v:Vl)
 |fuel
 |trap (code:Int) (m:Ms)
def Q15 (fu:Int)(fns:List Fun)(m:Ms):Rd:=
 match m.c with
 |.rt v=>match m.k with
  |[]=>.done m v
  |f::k=>match kidM fu fns m (.mk f.t f.e (f.done++[v])) k with
   |.ok m'=>.next m'
   |.error c=>.trap c m
 |.ev t e=>if m.steps=fu then .fuel else
  match Q29 fu fns { m with steps:=m.steps+1 } t e with
  |.ok m'=>.next m'
  |.error c=>.trap c { m with steps:=m.steps+1 }
structure Rs where
 out:List Int
 fin:Int
 val:Int
 steps:Int
 err:Int
 deriving DecidableEq
def lastV:Vl->Int
 |.word n=>n
 |.obj t _=>t
 |_=>0
def noFuel:Rs:=⟨[],0,0,0,13⟩
def goM (fu:Int)(fns:List Fun):Nat->Ms->Option Rs
 |0,_=>none
 |g+1,m=>match Q15 fu fns m with
  |.next m'=>goM fu fns g m'
  |.done m v=>some ⟨m.out,0,lastV v,m.steps,0⟩
  |.fuel=>some noFuel
  |.trap c m=>some (if c < 0 then noFuel else ⟨m.out,c,0,m.steps,0⟩)
end Go.CoreX
namespace Go.CoreX
inductive Rn (fu:Int)(fns:List Fun):Nat->Ms->Ms->Prop
 |zero (m:Ms):Rn fu fns 0 m m
 |succ {n:Nat}{m m1 m':Ms}(h:Q15 fu fns m=.next m1) (k:Rn fu fns n m1 m'):Rn fu fns (n+1) m m'
section
variable {fu:Int}{fns:List Fun}
theorem Rn.trans{n n':Nat}{m m1 m2:Ms}(a:Rn fu fns n m m1)(b:Rn fu fns n' m1 m2):Rn fu fns (n'+n) m m2:=by
 induction a with
 |zero m=>exact b
 |succ h k ih=>exact .succ h (ih b)
theorem Rn.go{n:Nat}{m m':Ms}(a:Rn fu fns n m m')(g:Nat):goM fu fns (g+n) m=goM fu fns g m':=by
 induction a with
 |zero m=>rfl
 |succ h k ih=>
  rw[←Nat.add_assoc,goM,h]
  exact ih
def Rs' (fu:Int)(fns:List Fun)(m m':Ms):Prop:=∃n,Rn fu fns n m m'
theorem Rs'.trans{m m1 m2:Ms}(a:Rs' fu fns m m1)(b:Rs' fu fns m1 m2):Rs' fu fns m m2:=by
 obtain⟨n,a⟩:=a;obtain⟨k,b⟩:=b;exact⟨_,a.trans b⟩
theorem Rs'.one{m m1 m2:Ms}(h:Q15 fu fns m=.next m1)(b:Rs' fu fns m1 m2):Rs' fu fns m m2:=by
 obtain⟨k,b⟩:=b;exact⟨_,.succ h b⟩
end
end Go.CoreX
namespace Go.CoreX
section
variable {fu:Int}{fns:List Fun}
end
end Go.CoreX
namespace Go.CoreX
mutual
def szV:Vl->Nat
 |.res fs=>szFs fs
 |_=>0
def szVs:List Vl->Nat
 |[]=>0
 |v::vs=>szV v+szVs vs
def szF:Fm->Nat
 |.mk _ _ d=>1+szVs d
def szFs:List Fm->Nat
 |[]=>0
 |f::fs=>szF f+szFs fs
end
theorem Qid(a b:List Fm):szFs (a++b)=szFs a+szFs b:=by
 induction a with
 |nil=>simp[szFs]
 |cons x a ih=>simp[szFs,ih];omega
def phase (m:Ms):Nat:=match m.c with
 |.ev _ _=>0
 |.rt _=>1+szFs m.k
structure After (fu:Int)(m m':Ms)(b:Nat):Prop where
 ge:m.steps<=m'.steps
 le:m.steps<=fu->m'.steps<=fu
 ph:phase m' < 1+b
theorem Q8x{tag:Int}{fs:List Vl}{e:En}{kids:List Tr}{c:Ctl}:∀(i:Nat)(l:List Alt),Q1c tag fs e kids i l=.ok c->∃t e',c=.ev t e'
 |_,[],h=>by cases h
 |i,a::al,h=>by
  unfold Q1c at h
  split at h
  ·split at h
   ·cases h;exact⟨_,_,rfl⟩
   ·cases h
  ·split at h
   ·cases h;exact⟨_,_,rfl⟩
   ·exact Q8x _ al h
theorem Q77{m m':Ms}{op:Int}{v:Vl}:∀(l k:List Fm),Q35 m op v l k=.ok m'->(∃t e',m'.c=.ev t e')/\m'.steps=m.steps
 |_,[],h=>by cases h
 |l,f::k,h=>by
  unfold Q35 at h
  split at h
  ·cases h;exact⟨⟨_,_,rfl⟩,rfl⟩
  ·exact Q77 _ k h
theorem Qbx{fu:Int}{m m':Ms}{n:Int}{l:List Vl}{v:Vl}(h:primM fu m n l=.ok (m',v)):m.steps<=m'.steps/\(m.steps<=fu->m'.steps<=fu)/\m'.k=m.k:=by
 have bd:∀{α β:Type}{x:Except Int α}{f:α->Except Int β}{r:β},x.bind f=.ok r->∃a,x=.ok a/\f a=.ok r:=by
  intro α β x f r hh
  cases x with
  |error c=>cases hh
  |ok a=>exact⟨a,rfl,hh⟩
 unfold primM at h
 repeat' split at h
 all_goals try (simp only[bind,Except.bind,pure,Except.pure]at h;repeat' split at h)
 all_goals try (cases h;done)
 all_goals try (cases h;exact⟨Int.le_refl _,id,rfl⟩)
 ·unfold Qdz at h
  repeat' split at h
  all_goals try (cases h;done)
  cases h
  refine⟨?_,?_,rfl⟩ <;> simp <;> omega
 ·unfold Qa5 at h
  simp only[bind,Except.bind,pure,Except.pure]at h
  repeat' split at h
  all_goals try (cases h;done)
  all_goals (cases h;exact⟨Int.le_refl _,id,rfl⟩)
theorem Q48{fu:Int}{m m':Ms}{t:Tr}{l:List Vl}{v:Vl}(h:Q3z fu m t l=.ok (m',v)):m.steps<=m'.steps/\(m.steps<=fu->m'.steps<=fu)/\m'.k=m.k:=by
 unfold Q3z at h
 repeat' split at h
 ·cases h;exact⟨Int.le_refl _,id,rfl⟩
 ·exact Qbx h
 ·cases h;exact⟨Int.le_refl _,id,rfl⟩
 ·simp only[bind,Except.bind,pure,Except.pure]at h
  repeat' split at h
  all_goals try (cases h;done)
  all_goals (cases h;exact⟨Int.le_refl _,id,rfl⟩)
 ·simp only[bind,Except.bind,pure,Except.pure]at h
  repeat' split at h
  all_goals try (cases h;done)
  all_goals (cases h;exact⟨Int.le_refl _,id,rfl⟩)
theorem Q66{fu:Int}{fns:List Fun}{m m':Ms}{f:Fm}{k:List Fm}(h:kidM fu fns m f k=.ok m')(d0:List Vl)(v:Vl)(hd:f.done=d0++[v]∨(f.done=[]/\d0=[])):After fu m m' (1+szVs d0+szFs k):=by
 unfold kidM at h
 split at h
 ·cases h;exact⟨Int.le_refl _,id,by simp[phase];omega⟩
 split at h
 ·cases h;exact⟨Int.le_refl _,id,by simp[phase];omega⟩
 split at h
 ·unfold Q2q at h
  split at h
  ·cases hc:Q1c _ _ f.e f.t.kids 0 f.t.alts with
   |error c=>rw[hc]at h;cases h
   |ok c=>
    rw[hc]at h
    obtain⟨t,e',rfl⟩:=Q8x _ _ hc
    cases h
    exact⟨Int.le_refl _,id,by simp[phase];omega⟩
  ·cases h
 split at h
 ·unfold callM at h
  split at h
  ·split at h
   ·cases h;exact⟨Int.le_refl _,id,by simp[phase];omega⟩
   ·cases h
  ·split at h
   ·cases h;exact⟨Int.le_refl _,id,by simp[phase];omega⟩
   ·cases h
  ·rename_i fs hf
   split at h
   ·rename_i a ha
    cases h
    refine⟨Int.le_refl _,id,?_⟩
    simp only[phase,Qid]
    rcases hd with hd|⟨hd,_⟩
    ·rw[hd]at hf ha
     have:d0=[.res fs]:=by
      have hl:=congrArg List.length ha
      simp at hl
      match d0,hl with
      |[x],_=>simp at hf;rw[hf]
     subst this
     simp[szVs,szV]
    ·rw[hd]at ha;cases ha
   ·cases h
  ·cases h
 split at h
 ·cases h;exact⟨Int.le_refl _,id,by simp[phase];omega⟩
 split at h
 ·obtain⟨⟨t,e',hc⟩,hs⟩:=Q77 _ _ h
  refine⟨by rw[hs];exact Int.le_refl _,fun hh=>by rw[hs];exact hh,?_⟩
  simp[phase,hc];omega
 split at h
 ·cases h;exact⟨Int.le_refl _,id,by simp[phase];omega⟩
 split at h
 ·cases h;exact⟨Int.le_refl _,id,by simp[phase];omega⟩
 split at h
 ·split at h
  ·split at h
   ·cases h;exact⟨Int.le_refl _,id,by simp[phase];omega⟩
   ·cases h
  ·cases h
 ·cases hp:Q3z fu { m with k:=k } f.t f.done with
  |error c=>rw[hp]at h;cases h
  |ok mv=>
   obtain⟨m2,v2⟩:=mv
   rw[hp]at h
   cases h
   obtain⟨h1,h2,h3⟩:=Q48 hp
   refine⟨h1,h2,?_⟩
   simp only[phase,h3];omega
end Go.CoreX
