/- Body and Check, walked. -/
import Derived.Test.YthboaankaaeemaaDoorC7
set_option maxRecDepth 10000
set_option linter.unusedVariables false
set_option linter.unusedSimpArgs false
namespace Go.CoreX
theorem Qkr{e:List Ex}(h:∀x∈e,x.binds.length<=1048576/\x.kids.length<=1048576/\x.alts.length<=1048576/\(∀a∈x.alts,a.binds.length<=1048576)/\x.binds.length+(x.alts.flatMap (·.binds)).length<=4194304)(hk:Q0v e):∀t∈growL e,okT t:=by
 revert h hk
 refine Q5j (P:=fun e=>(∀x∈e,x.binds.length<=1048576/\x.kids.length<=1048576/\x.alts.length<=1048576/\(∀a∈x.alts,a.binds.length<=1048576)/\x.binds.length+(x.alts.flatMap (·.binds)).length<=4194304)->Q0v e->∀t∈growL e,okT t) (fun _ _ t ht=>by simp[growL]at ht) (fun e x ih h hk t ht=>?_) e
 obtain⟨h1,h2⟩:=Q39.1 hk
 have ih:=ih (fun y hy=>h y (by simp[hy])) h1
 rw[Q2e]at ht
 rcases List.mem_append.1 ht with ht|ht
 ·exact ih t ht
 ·simp at ht
  subst ht
  obtain⟨a1,a2,a3,a4,a5⟩:=h x (by simp)
  refine⟨a1,by simpa using a2,a3,⟨a4,a5⟩,Q5p.2 fun s hs=>?_⟩
  obtain⟨k,hk2,rfl⟩:=List.mem_map.1 hs
  have hkb:=h2 k hk2
  have hl:k.toNat < (growL e).length:=by rw[Q1j];omega
  rw[List.getD_eq_getElem?_getD,List.getElem?_eq_getElem hl]
  exact ih _ (List.getElem_mem hl)
theorem Qlo{e:List Ex}(h:e≠[]):grow e∈growL e:=by
 have hl:e.length - 1 < (growL e).length:=by rw[Q1j];have:=List.length_pos_iff.2 h;omega
 unfold grow
 rw[List.getD_eq_getElem?_getD,List.getElem?_eq_getElem hl]
 exact List.getElem_mem hl
theorem Q8k{α:Type}{f:α->Int}:∀{l:List α}{j:Nat}{x:α},(∀y∈l.take j,f y=0)->l[j]?=some x->f x≠0->Q1g f l=f x
 |[],j,x,_,h,_=>by simp at h
 |a::l,0,x,_,h,hx=>by simp at h;subst h;simp[Q1g,hx]
 |a::l,j+1,x,h0,h,hx=>by
  have h1:=h0 a (by simp)
  simp only[Q1g,h1]
  exact Q8k (l:=l) (j:=j) (fun y hy=>h0 y (by simp[hy])) (by simpa using h) hx
theorem Qgs(t:Tr):(Q3a t).length<=(listT [] t).length:=by
 have h1:(Q3a t).Nodup:=(Q4a (occT [] t)).imp fun {a b} h=>by omega
 have h2:=Qb1 h1 (m:=occB (fun _=>0) t) fun x hx=>by rw[Q8i]at hx;exact (Q5i x _).1 hx
 have h3:=Qay t (fun _=>0) []
 simp at h3
 omega
theorem Qb6{e:List Ex}(h:IsTree e):(listT [] (grow e)).length=e.length:=by
 have hp:=Q86 h (Q1f (grow e)) (Q2n _).symm
 rw[←Q4x e,←Q4x];exact hp.length_eq.symm
end Go.CoreX
namespace Go.Proofs.YthboaankaaeemaaDoor
open Go Go.Abs Go.CoreX
structure okB (e:List Ex):Prop where
 eo:okE e
 b:∀x∈e,x.binds.length+(x.alts.flatMap (·.binds)).length<=4194304
theorem okB.ex{e:List Ex}(h:okB e):∀x∈e,(Q0r x).length<=4194304/\x.binds.length+(x.alts.flatMap (·.binds)).length<=4194304:=fun x hx=>by
 have h1:=h.b x hx
 refine⟨?_,h1⟩
 unfold Q0r Q08
 rw[List.length_append]
 split
 ·omega
 ·simp only[List.length_nil];omega
theorem okB.t{e:List Ex}(h:okB e)(hk:Q0v e)(hne:e≠[]):okT (grow e):=Qkr (fun x hx=>⟨(h.eo.x x hx).b,(h.eo.x x hx).k,(h.eo.x x hx).a,(h.eo.x x hx).ab,h.b x hx⟩) hk _ (Qlo hne)
theorem hΓcF:∀g cs,(g,cs)∈Γc->idsL (fun _=>False) cs:=fun g cs h=>by
 simp[Γc]at h
 first
  |(obtain⟨rfl,rfl⟩:=h;simp[arC,Q61];done)
  |(rcases h with ⟨rfl,rfl⟩|⟨rfl,rfl⟩ <;> simp[arC,orC,Q61])
set_option maxHeartbeats 1000000 in
theorem Body_ok(e:List Ex)(he:okB e)(params:List Int)(hp:params.length<=1048576)(flat:Bool):
  APure Tryd.prog Γc 47 [.one (.sl 5 (e.map cEx)),.one (.sl 1 (params.map cI)),.one (.lit (.bool flat))] (.one (int (body e params flat))):=by
 have hel:=he.eo.l
 intro ou
 refine AFn.walk 62 tabOk Tryd.func47 rfl (by kernel_rfl) rfl rfl fun hou=>?_
 refine zA ?_
 refine AOps.freeze1 (.l 0) 3 rfl rfl ?_
 refine zca hΓc (Qbs hΓc e he.eo) hou ?_
 refine zA ?_
 refine ACode.cond rfl (fun hb=>?_) (fun hb=>?_)
 ·have hb':Q1n e≠0:=by simpa using hb
  refine zA ?_
  refine APure.fin rfl (WkF.ofEq ?_) (by simp) hou rfl
  unfold body
  rw[if_pos hb']
 have h1:Q1n e=0:=by simpa using hb
 clear hb
 obtain⟨t1,t2,t3⟩:=(Q1d e).1 h1
 have hn:body e params flat=if Q1g (Q0d flat e) e≠0 then Q1g (Q0d flat e) e else if Q4k (params++Q06 e)=true then 7 else if (Q3a (grow e)).all (fun n=>params.contains n)=true then 0 else 6:=by
  unfold body;rw[if_neg (by simpa using h1)]
 refine zA ?_
 refine ACode.loopR hΓc (α:=Nat) (fun j=>[(20,.one (int j)),(19,.one (int (e.map cEx).length)),(18,.one (.sl 5 (e.map cEx))),(3,.one (.box [.sl 5 (e.map cEx)])),(2,.one (.lit (.bool flat))),(1,.one (.sl 1 (params.map cI)))])
  (fun j => ⟨0, [], ou⟩) (fun m j => j <= e.length /\ (∀ x ∈ e.take j, Q0d flat e x = 0) /\ m = e.length - j) (a0 := 0) (ρ := id) ⟨by omega, by simp, rfl⟩ (LessR.of rfl zFS (by simp) zLO rfl rfl hou) fun m j hj => ?_
 obtain⟨hjl,hno,rfl⟩:=hj
 refine zA ?_
 refine ACode.cond rfl (fun hb2=>?_) (fun hb2=>?_)
 ·have hlt:j < e.length:=by simpa using hb2
  obtain⟨x,hx⟩:=Q00 hlt
  have hxm:=List.mem_of_getElem? hx
  have hxo:=he.eo.x x hxm
  have bad:Q0d flat e x≠0->body e params flat=Q0d flat e x:=fun h=>by
   rw[hn,Q8k hno hx h,if_pos h]
  have hkk:∀k∈x.kids,0<=k/\k.toNat < e.length:=fun k hk=>by have:=Q87 t2.k hxm k hk;omega
  have hcall:=Qcd e x hxo hkk
  refine zA ?_
  refine zS (zIA rfl rfl rfl (by omega) (Q0c hx)) ?_
  cases flat with
  |false=>
   have hE:Q0d false e x=if Q5x x.op=true then 3 else Q1o e x:=by simp[Q0d]
   repeat' first|refine zN ?_|(with_reducible refine oj ?_;refine AOps.splitS rfl rfl rfl rfl (fun hb=>?_) (fun hb=>?_))|(with_reducible refine ok ?_;first|refine ACode.condS rfl (fun hb=>?_) (fun hb=>?_)|refine ACode.cond rfl (fun hb=>?_) (fun hb=>?_))
   refine zca hΓc (Qdu x.op) hou ?_
   repeat' first|refine zN ?_|(with_reducible refine oj ?_;refine AOps.splitS rfl rfl rfl rfl (fun hb=>?_) (fun hb=>?_))|(with_reducible refine ok ?_;first|refine ACode.condS rfl (fun hb=>?_) (fun hb=>?_)|refine ACode.cond rfl (fun hb=>?_) (fun hb=>?_))
   all_goals try
    (
    refine APure.fin rfl (WkF.ofEq ?_) (by simp) hou rfl
    rw[bad (by rw[hE,if_pos hb];decide),hE,if_pos hb]
    done)
   rw[if_neg (by rw[hb];decide)]at hE
   refine zca hΓc hcall hou ?_
   refine zA ?_
   refine ACode.cond rfl (fun hb3=>?_) (fun hb3=>?_)
   ·have h3:Q1o e x≠0:=by simpa using hb3
    refine zA ?_
    refine APure.fin rfl (WkF.ofEq ?_) (by simp) hou rfl
    rw[bad (by rw[hE];exact h3),hE]
   ·have h3:Q1o e x=0:=by simpa using hb3
    refine zM ?_
    exact cInv ⟨e.length - (j+1),j+1,id,by omega,⟨by omega,Q1p hno hx (by rw[hE];exact h3),rfl⟩,LessR.of rfl zFS (by simp) zLO rfl rfl hou⟩
  |true=>
   have hE:Q0d true e x=if Q7h x.op=true then 3 else Q1o e x:=by simp[Q0d]
   repeat' first|refine zN ?_|(with_reducible refine oj ?_;refine AOps.splitS rfl rfl rfl rfl (fun hb=>?_) (fun hb=>?_))|(with_reducible refine ok ?_;first|refine ACode.condS rfl (fun hb=>?_) (fun hb=>?_)|refine ACode.cond rfl (fun hb=>?_) (fun hb=>?_))
   refine zca hΓc (Qdv x.op) hou ?_
   repeat' first|refine zN ?_|(with_reducible refine oj ?_;refine AOps.splitS rfl rfl rfl rfl (fun hb=>?_) (fun hb=>?_))|(with_reducible refine ok ?_;first|refine ACode.condS rfl (fun hb=>?_) (fun hb=>?_)|refine ACode.cond rfl (fun hb=>?_) (fun hb=>?_))
   all_goals try
    (
    refine APure.fin rfl (WkF.ofEq ?_) (by simp) hou rfl
    rw[bad (by rw[hE,if_pos hb];decide),hE,if_pos hb]
    done)
   rw[if_neg (by rw[hb];decide)]at hE
   refine zca hΓc hcall hou ?_
   refine zA ?_
   refine ACode.cond rfl (fun hb3=>?_) (fun hb3=>?_)
   ·have h3:Q1o e x≠0:=by simpa using hb3
    refine zA ?_
    refine APure.fin rfl (WkF.ofEq ?_) (by simp) hou rfl
    rw[bad (by rw[hE];exact h3),hE]
   ·have h3:Q1o e x=0:=by simpa using hb3
    refine zM ?_
    exact cInv ⟨e.length - (j+1),j+1,id,by omega,⟨by omega,Q1p hno hx (by rw[hE];exact h3),rfl⟩,LessR.of rfl zFS (by simp) zLO rfl rfl hou⟩
 have hlt:j=e.length:=by simp at hb2;omega
 subst hlt
 rw[List.take_length]at hno
 rw[if_neg (by rw[Classical.not_not];exact (Q1x _ _).2 hno)]at hn
 clear hno hb2 hjl
 have hgt:=he.t t2.k t2.ne
 refine zA ?_
 refine zca hΓc (Qka hΓc e he.eo params hp he.ex) hou ?_
 refine zA ?_
 refine ACode.cond rfl (fun hb=>?_) (fun hb=>?_)
 ·refine zA ?_
  refine APure.fin rfl (WkF.ofEq ?_) (by simp) hou rfl
  rw[hn,if_pos hb]
 rw[if_neg (by rw[hb];decide)]at hn
 refine zA ?_
 refine zca hΓc (Qk2 hΓc e he.eo t2.k t2.ne) hou ?_
 refine zca hΓc (Qk3 hΓc hΓcF sortOk sortNil (grow e) hgt (by omega) (by rw[Qb6 t2];omega)) hou ?_
 have hfl:=Qgs (grow e)
 rw[Qb6 t2]at hfl
 generalize Q3a (grow e)=fs at hn hfl
 refine zA ?_
 refine ACode.loopR hΓc (α:=Nat) (fun j=>[(53,.one (int j)),(52,.one (int (fs.map cI).length)),(51,.one (.sl 1 (fs.map cI))),(1,.one (.sl 1 (params.map cI)))])
  (fun j=>⟨0,[],ou⟩) (fun m j=>j<=fs.length/\(∀x∈fs.take j,params.contains x=true)/\m=fs.length - j) (a0:=0) (ρ:=id) ⟨by omega,by simp,rfl⟩ (LessR.of rfl zFS (by simp) zLO rfl rfl hou) fun m j hj=>?_
 obtain⟨hjl,hno,rfl⟩:=hj
 refine zA ?_
 refine ACode.cond rfl (fun hb2=>?_) (fun hb2=>?_)
 ·have hlt:j < fs.length:=by simpa using hb2
  obtain⟨k,hk⟩:=Q00 hlt
  refine zA ?_
  refine zS (zIA rfl rfl rfl (by omega) (Q0c hk)) ?_
  refine zA ?_
  refine zca hΓc (Qe6 hΓc params hp k) hou ?_
  refine zA ?_
  refine ACode.cond rfl (fun hb3=>?_) (fun hb3=>?_)
  ·refine zA ?_
   refine APure.fin rfl (WkF.ofEq ?_) (by simp) hou rfl
   rw[hn,if_neg]
   rw[List.all_eq_true]
   intro h
   have:=h k (List.mem_of_getElem? hk)
   rw[this]at hb3;cases hb3
  ·refine zM ?_
   exact cInv ⟨fs.length - (j+1),j+1,id,by omega,⟨by omega,Q1p hno hk (by simpa using hb3),rfl⟩,LessR.of rfl zFS (by simp) zLO rfl rfl hou⟩
 ·have hlt:j=fs.length:=by simp at hb2;omega
  subst hlt
  rw[List.take_length]at hno
  refine zA ?_
  refine APure.fin rfl (WkF.ofEq ?_) (by simp) hou rfl
  rw[hn,if_pos (List.all_eq_true.2 hno)]
theorem Qbn(e:List Ex)(he:okB e):APure Tryd.prog Γc 26 [.one (.sl 5 (e.map cEx))] (.one (int (check e))):=by
 intro ou
 refine AFn.walk 5 tabOk Tryd.func26 rfl (by kernel_rfl) rfl rfl fun hou=>?_
 refine zA ?_
 refine AOps.callCW (ws:=[.one (.sl 5 (e.map cEx)),.one (.sl 1 (([]:List Int).map cI)),.one (.lit (.bool false))]) hΓc (Body_ok e he [] (by simp) false) rfl rfl rfl rfl rfl rfl ?_ hou (by simp) ?_
 ·exact .cons (.refl _) (.cons (.one (.nilS 1)) (.cons (.refl _) .nil))
 refine zA ?_
 exact APure.fin rfl (WkF.ofEq rfl) (by simp) hou rfl
variable {Γ:List (Nat×List AC)}
theorem Qmd(e:List Ex)(he:okB e):APure Tryd.prog Γc 19 [.one (.sl 5 (e.map cEx))] (.tup [.one (.sl 5 ((order e).1.map cEx)),.one (int (order e).2)]):=by
 intro ou
 refine AFn.walk 13 tabOk Tryd.func19 rfl (by kernel_rfl) rfl rfl fun hou=>?_
 refine zA ?_
 refine zca hΓc (Qbn e he) hou ?_
 refine zA ?_
 refine ACode.cond rfl (fun hb=>?_) (fun hb=>?_)
 ·have h:check e≠0:=by simpa using hb
  have ho:order e=([],check e):=by unfold order;rw[if_pos h]
  rw[ho]
  refine zA ?_
  exact APure.fin rfl (WkF.tup (.cons (.one (.nilS 5)) (.cons (.refl _) .nil))) (by simp) hou rfl
 ·have h:check e=0:=by simpa using hb
  have ho:order e=(listT [] (grow e),0):=by unfold order;rw[if_neg (by simpa using h)]
  have t1:=Q15 h
  have hl:(listT [] (grow e)).length<=1048576:=by rw[Qb6 t1];exact he.eo.l
  rw[ho]
  refine zA ?_
  refine zca hΓc (Qk2 hΓc e he.eo t1.k t1.ne) hou ?_
  refine zca hΓc (Qk1 hΓc (grow e) (he.t t1.k t1.ne) hl) hou ?_
  refine zA ?_
  exact APure.fin rfl (WkF.ofEq rfl) (by simp) hou rfl
end Go.Proofs.YthboaankaaeemaaDoor
namespace Go.Abs
theorem AStep.wk{E:Env}{o:Oper}{fr:Fr}{σ σ':St}{x y:FV}(h:AStep E o fr σ x σ')(hw:WkF x y):AStep E o fr σ y σ':=
 fun F w C tmps hi hf next Q hk=>h F w C tmps hi hf next Q fun u w' C' a b c=>hk u w' C' a b (hw _ _ _ c)
end Go.Abs
namespace Go.Proofs.YthboaankaaeemaaDoor
open Go Go.Abs Go.CoreX
variable {Γ:List (Nat×List AC)}
mutual
def encNd:Tr->List AC
 |.mk o n b k a=>[int o,int n,.sl 1 (b.map cI),.any,.sl 2 (a.map cAlt),.sl 1 (Q31 k)]
def Q31:List Tr->List (List AC)
 |[]=>[]
 |t::ts=>[.box (encNd t)]::Q31 ts
end
def cNd (t:Tr):List AC:=[int t.op,int t.n,.sl 1 (t.binds.map cI),.any,.sl 2 (t.alts.map cAlt),.sl 1 (Q31 t.kids)]
theorem Qlx(t:Tr):encNd t=cNd t:=by cases t;simp[encNd,cNd]
theorem Q8n:∀l:List Tr,Q31 l=l.map fun t=>[.box (cNd t)]
 |[]=>rfl
 |t::ts=>by simp[Q31,Q8n ts,Qlx]
theorem Qgw{l:List Tr}{i:Nat}{t:Tr}(h:l[i]?=some t):(Q31 l)[i]?=some [.box (cNd t)]:=by rw[Q8n];simp[h]
mutual
theorem Qj9(p:Abs.Id->Prop):∀t:Tr,idsL p (encNd t)
 |.mk o n b k a=>by simp[encNd,Q6l p k]
theorem Q6l(p:Abs.Id->Prop):∀l:List Tr,idsS p (Q31 l)
 |[]=>by simp[Q31]
 |t::ts=>by simp[Q31,Qj9 p t,Q6l p ts]
end
attribute [simp] Q6l
@[simp] theorem ids_cNd (p:Abs.Id->Prop) (t:Tr):idsL p (cNd t):=by simp[cNd]
@[simp] theorem len_encNds (l:List Tr):(Q31 l).length=l.length:=by rw[Q8n];simp
theorem N_ok(op n:Int)(ks:List Tr):APure Tryd.prog Γ 29 [.one (int op),.one (int n),.one (.sl 1 (Q31 ks))] (.one (.box (cNd (.mk op n [] ks [])))):=by
 intro ou
 refine AFn.walk 13 tabOk Tryd.func29 rfl (by kernel_rfl) rfl rfl fun hou=>?_
 iterate 14 (first|((with_reducible refine oj ?_);refine zau ?_)|(with_reducible refine zst ?_)|((with_reducible refine Q0s ?_ ?_);rfl)|(with_reducible refine ok ?_;first|refine ACode.condT rfl ?_|refine ACode.condF rfl ?_))
 refine AOps.freeze1 (.l 0) 6 rfl rfl ?_
 refine zA ?_
 refine APure.fin rfl (.one (Wk.box ?_)) (by simp) hou rfl
 exact .cons (.refl _) (.cons (.refl _) (.cons (.nilS 1) (.cons (.any _) (.cons (.nilS 2) (.cons (.refl _) .nil)))))
theorem B_ok(op:Int)(b:List Int)(ks:List Tr):APure Tryd.prog Γ 30 [.one (int op),.one (.sl 1 (b.map cI)),.one (.sl 1 (Q31 ks))] (.one (.box (cNd (.mk op 0 b ks [])))):=by
 intro ou
 refine AFn.walk 13 tabOk Tryd.func30 rfl (by kernel_rfl) rfl rfl fun hou=>?_
 iterate 14 (first|((with_reducible refine oj ?_);refine zau ?_)|(with_reducible refine zst ?_)|((with_reducible refine Q0s ?_ ?_);rfl)|(with_reducible refine ok ?_;first|refine ACode.condT rfl ?_|refine ACode.condF rfl ?_))
 refine AOps.freeze1 (.l 0) 6 rfl rfl ?_
 refine zA ?_
 refine APure.fin rfl (.one (Wk.box ?_)) (by simp) hou rfl
 exact .cons (.refl _) (.cons (.refl _) (.cons (.refl _) (.cons (.any _) (.cons (.nilS 2) (.cons (.refl _) .nil)))))
def IntoOk (Γ:List (Nat×List AC))(t:Tr):Prop:=∀(ou:Outer)(ko kt:Nat)(out:List Ex),OuOk ou->ou ko=none->ou kt=none->ko≠kt->(listT out t).length<=1048576->
 AFn Tryd.prog Γ 40 [.one (.box (cNd t)),.one (.ptr (.o ko) 0)] (ouS ou ko kt (out.map cEx)) (fun r ou'=>r=.one (int (((listT out t).length:Int) - 1))/\∃kt',ou kt'=none/\ko≠kt'/\ou'=ouS ou ko kt' ((listT out t).map cEx))
set_option maxHeartbeats 1000000 in
theorem Qj2(hΓ:∀g cs,(g,cs)∈Γ->idsL isO cs):∀t:Tr,okT t->IntoOk Γ t
 |.mk o n b ks a,hok=>by
  obtain⟨hb,hk,ha,⟨hab,_⟩,hks⟩:=hok
  have ih:∀t∈ks,IntoOk Γ t:=fun t ht=>Qj2 hΓ t (Q5p.1 hks t ht)
  intro ou ko kt out hou0 ho ht hne hsz
  have hsz2:(Q02 out ks).1.length < 1048576:=by simp only[listT,List.length_append,List.length_singleton]at hsz;omega
  refine AFn.walk 44 tabOk Tryd.func40 rfl (by kernel_rfl) rfl rfl fun hou=>?_
  refine zA ?_
  refine ACode.grow 0 3 3 1 rfl rfl ?_
  refine ACode.loopR hΓ (α:=Nat×Nat) (fun c=>[(18,.one (int c.1)),(17,.one (int (Q31 ks).length)),(16,.one (.sl 1 (Q31 ks))),(5,.one (.ptr (.l 0) 0)),(1,.one (.ptr (.o ko) 0))])
   (fun c=>⟨2,[(1,.tok 3 1 c.1),(0,.cells [int o,int n,.sl 1 (b.map cI),.gs 1 ((Q02 out (ks.take c.1)).2.map cI) (.l 1),.sl 2 (a.map cAlt)])],ouS ou ko c.2 ((Q02 out (ks.take c.1)).1.map cEx)⟩)
   (fun m c=>c.1<=ks.length/\(ou c.2=none/\ko≠c.2)/\m=ks.length - c.1) (a0:=(0,kt)) (ρ:=id) ⟨by omega,⟨ht,hne⟩,rfl⟩ (LessR.of rfl zFS (by simp) ?_ rfl (by simp[Q02];rfl) hou) fun m c hi=>?_
  ·repeat' first|exact LoSub.nil|refine zlc ?_|refine zld ?_ ?_|rfl
   all_goals (simp[AObj.ren,renL,AC.ren,Q02];rfl)
  obtain⟨i,kt⟩:=c
  obtain⟨hil,⟨ht,hne⟩,rfl⟩:=hi
  simp only at hil ht hne
  have hle:(Q02 out (ks.take i)).1.length<=(Q02 out ks).1.length:=by
   have:=Q3r (ks.take i) (ks.drop i) out
   rw[List.take_append_drop]at this
   rw[this];exact Q3q _ _
  refine zA ?_
  refine ACode.cond rfl (fun hb3=>?_) (fun hb3=>?_)
  ·have hlt2:i < ks.length:=by simpa using hb3
   obtain⟨t,ht2⟩:=Q00 hlt2
   have hsn:=Q58 t (ks.take i) out
   rw[←Q0o ht2]at hsn
   have hle2:(listT (Q02 out (ks.take i)).1 t).length<=1048576:=by
    have:=Q3r (ks.take (i+1)) (ks.drop (i+1)) out
    rw[List.take_append_drop]at this
    have h2:=Q3q (ks.drop (i+1)) (Q02 out (ks.take (i+1))).1
    rw[←this,hsn]at h2
    simp only at h2
    omega
   have hcall:=ih t (List.mem_of_getElem? ht2) ou ko kt (Q02 out (ks.take i)).1 hou0 ho ht hne hle2
   have hil2:((Q02 out (ks.take i)).2.map cI).length=i:=by rw[List.length_map,Q3y];simp;omega
   refine zA ?_
   refine zS (zIA rfl rfl rfl (by omega) (Qgw ht2)) ?_
   refine zA ?_
   refine ACode.drawXR (va:=.one (int (((listT (Q02 out (ks.take i)).1 t).length:Int) - 1))) tabOk 6 4 []
    (fun σ=>∃kt',ou kt'=none/\ko≠kt'/\σ=⟨2,[(1,.tok 3 1 i),(0,.cells [int o,int n,.sl 1 (b.map cI),.gs 1 ((Q02 out (ks.take i)).2.map cI) (.l 1),.sl 2 (a.map cAlt)])],ouS ou ko kt' ((listT (Q02 out (ks.take i)).1 t).map cEx)⟩)
    follows (by kernel_rfl) rfl rfl rfl rfl rfl ?_ rfl ⟨rfl,rfl⟩ rfl ?_ .nil ?_ ?_
   ·rintro σ ⟨kt',h1,h2,rfl⟩;rfl
   ·refine Q2z.call hΓ rfl rfl rfl rfl (by simp) (Q51 hou0 (by simp)) hcall fun r ou' hq _ _=>?_
    obtain⟨rfl,kt',h1,h2,rfl⟩:=hq
    exact⟨rfl,kt',h1,h2,rfl⟩
   ·intro σ _;exact .nil
   rintro σ ⟨kt',h1,h2,rfl⟩
   refine zA ?_
   refine AOps.app tabOk rfl rfl rfl rfl rfl rfl rfl rfl rfl (Base.gs' _ _ _ _ _ (by rfl) hil2.symm) (.sl _ _) rfl ?_ ?_ ?_
   ·rw[hil2];show (i+1) * 8<=_;omega
   ·rw[hil2];show i+1<=_;omega
   refine zM ?_
   refine cInv ⟨ks.length - (i+1),(i+1,kt'),fun k=>if k=1 then 2 else k,by omega,⟨by omega,⟨h1,h2⟩,rfl⟩,LessR.of rfl zFS (by simp) ?_ rfl (by simp only[hsn];rfl) (Q51 hou0 (by simp))⟩
   repeat' first|exact LoSub.nil|refine zlc ?_|refine zld ?_ ?_|rfl
   ·simp only[AObj.ren,List.length_append,hil2];rfl
   ·simp only[hsn];simp only[AObj.ren,renL,AC.ren,Q7u,Q7v];rw[List.map_append];rfl
  have hlt2:i=ks.length:=by simp at hb3;omega
  subst hlt2
  rw[List.take_length]at *
  refine zA ?_
  have hT:listT out (.mk o n b ks a)=(Q02 out ks).1++[⟨o,n,b,(Q02 out ks).2,a⟩]:=by simp only[listT]
  have hmap:(Q02 out ks).1.map cEx++[cEx ⟨o,n,b,(Q02 out ks).2,a⟩]=(listT out (.mk o n b ks a)).map cEx:=by rw[hT,List.map_append];rfl
  have hw:WkF (.agg [int o,int n,.sl 1 (b.map cI),.gs 1 ((Q02 out ks).2.map cI) (.l 1),.sl 2 (a.map cAlt)]) (.agg (cEx ⟨o,n,b,(Q02 out ks).2,a⟩)):=WkF.agg (.cons (.refl _) (.cons (.refl _) (.cons (.refl _) (.cons (.gsE rfl) (.cons (.refl _) .nil)))))
  have hko:(bif Nat.beq ko kt then some AObj.dead else ouS ou ko kt ((Q02 out ks).1.map cEx) ko)=some (.cells [.gs 5 ((Q02 out ks).1.map cEx) (.o kt)]):=by rw[Q09 hne];exact ouS_o hne _
  refine ACode.drawXH (va:=.one (.gs 5 ((Q02 out ks).1.map cEx++[cEx ⟨o,n,b,(Q02 out ks).2,a⟩]) (.l 2))) (σ1:=(St.set ⟨2,[(1,.tok 3 1 ks.length),(0,.cells [int o,int n,.sl 1 (b.map cI),.gs 1 ((Q02 out ks).2.map cI) (.l 1),.sl 2 (a.map cAlt)])],ouS ou ko kt ((Q02 out ks).1.map cEx)⟩ (.o kt) .dead).push (.tok 69 5 ((Q02 out ks).1.map cEx++[cEx ⟨o,n,b,(Q02 out ks).2,a⟩]).length))
   tabOk 7 6 [(3,.one (.gs 5 ((Q02 out ks).1.map cEx) (.o kt))),(4,.agg (cEx ⟨o,n,b,(Q02 out ks).2,a⟩))] follows (by kernel_rfl) rfl rfl rfl rfl rfl rfl rfl ?_ ?_ ?_ ?_
  ·refine HStep.plain rfl (AStep.append (s:=5) (es:=(Q02 out ks).1.map cEx) (news:=[cEx ⟨o,n,b,(Q02 out ks).2,a⟩]) (ti:=ti22) (σ:=⟨2,[(1,.tok 3 1 ks.length),(0,.cells [int o,int n,.sl 1 (b.map cI),.gs 1 ((Q02 out ks).2.map cI) (.l 1),.sl 2 (a.map cAlt)])],ouS ou ko kt ((Q02 out ks).1.map cEx)⟩) tabOk rfl rfl rfl rfl rfl rfl (Base.gs' _ 69 5 _ (.o kt) (ouS_t ou ko kt _) rfl) (.sl _ _) rfl ?_ ?_)
   ·simp;show (_+1) * 88<=_;omega
   ·simp;omega
  ·refine .step rfl (zHP (zLD rfl rfl (ouS_o hne _) rfl)) ?_
   exact .step rfl (zHP (AStep.wk (AStep.ofOp tabOk rfl) hw)) .nil
  ·refine .step rfl (zHP (zLD rfl rfl hko rfl)) ?_
   exact .step rfl (zHP (AStep.wk (AStep.ofOp tabOk rfl) hw)) .nil
  rw[hmap]
  refine zA ?_
  refine AOps.storeOwn (cs:=[.gs 5 ((Q02 out ks).1.map cEx) (.o kt)]) tabOk rfl rfl rfl rfl rfl rfl rfl hko (by simp) ?_
  refine AOps.cede 2 (show 2 < 3 by omega) fun k hk=>⟨[(1,.one (.ptr (.o ko) 0))],⟨3,[],ouS ou ko k ((listT out (.mk o n b ks a)).map cEx)⟩,⟨fun d x hd=>?_,rfl,fun i x hx=>?_⟩,?_⟩
  ·by_cases e:1=d
   ·subst e
    simp[Fr.get]at hd;subst hd
    exact⟨_,rfl,WkF.ofEq rfl⟩
   ·simp[Fr.get,Q09 e]at hd
  ·have hk':(bif Nat.beq k ko then some (AObj.cells [.gs 5 ((listT out (.mk o n b ks a)).map cEx) (.l 2)])else bif Nat.beq k kt then some AObj.dead else ouS ou ko kt ((Q02 out ks).1.map cEx) k)=none:=hk
   have k1:k≠ko:=fun e=>by subst e;simp at hk'
   rw[Q09 k1]at hk'
   have k2:k≠kt:=fun e=>by subst e;simp at hk'
   rw[Q09 k2]at hk'
   simp only[cond_false,ouS_w k1 k2]at hk'
   cases i with
   |l m=>cases hx
   |o m=>
    have hx':ouS ou ko k ((listT out (.mk o n b ks a)).map cEx) m=some x:=hx
    by_cases e:m=k
    ·subst e
     rw[ouS_t]at hx';cases hx'
     exact⟨.l 2,_,rfl,rfl,rfl⟩
    ·by_cases e2:m=ko
     ·subst e2
      rw[ouS_o e]at hx';cases hx'
      refine⟨.o m,.cells [.gs 5 ((listT out (.mk o n b ks a)).map cEx) (.l 2)],?_,rfl,?_⟩
      ·show (bif Nat.beq m m then _ else _)=_;rw[Q3h];rfl
      ·simp only[AObj.sub,subL,AC.sub];rw[Qbv _ (by simp)];rfl
     ·rw[ouS_w e2 e]at hx'
      have e3:m≠kt:=fun e=>by rw[e,ht]at hx';cases hx'
      refine⟨.o m,x,?_,rfl,(AObj.sub_o x (hou0 m x hx')).symm⟩
      show (bif Nat.beq m ko then _ else bif Nat.beq m kt then _ else ouS ou ko kt _ m)=_
      rw[Q09 e2,Q09 e3]
      exact (ouS_w e2 e3 _).trans hx'
  ·have hk':(bif Nat.beq k ko then some (AObj.cells [.gs 5 ((listT out (.mk o n b ks a)).map cEx) (.l 2)])else bif Nat.beq k kt then some AObj.dead else ouS ou ko kt ((Q02 out ks).1.map cEx) k)=none:=hk
   have k1:k≠ko:=fun e=>by subst e;simp at hk'
   rw[Q09 k1]at hk'
   have k2:k≠kt:=fun e=>by subst e;simp at hk'
   rw[Q09 k2]at hk'
   simp only[cond_false,ouS_w k1 k2]at hk'
   refine zA ?_
   refine zS (zLD rfl rfl (ouS_o (Ne.symm k1) _) rfl) ?_
   refine zM ?_
   refine AFn.fin' rfl (WkF.ofEq ?_) (by simp) (Q51 hou0 (by simp)) ⟨rfl,k,hk',Ne.symm k1,rfl⟩
   simp
theorem Qe5(hΓ:∀g cs,(g,cs)∈Γ->idsL isO cs)(t:Tr)(ht:okT t)(hsz:(listT [] t).length<=1048576):APure Tryd.prog Γ 16 [.one (.box (cNd t))] (.one (.sl 5 ((listT [] t).map cEx))):=by
 intro ou
 refine AFn.walk 7 tabOk Tryd.func16 rfl (by kernel_rfl) rfl rfl fun hou=>?_
 iterate 11 (first|((with_reducible refine oj ?_);refine zau ?_)|(with_reducible refine zst ?_)|((with_reducible refine Q0s ?_ ?_);rfl)|(with_reducible refine ok ?_;first|refine ACode.condT rfl ?_|refine ACode.condF rfl ?_))
 refine ACode.grow 0 0 69 5 rfl rfl ?_
 refine zA ?_
 refine AOps.cede 0 (show 0 < 2 by omega) fun ko hko=>⟨[(4,.one (.box (cNd t))),(3,.one (.ptr (.o ko) 0))],
  ⟨2, [(1, .tok 69 5 0)], updO ou ko (.cells [.gs 5 [] (.l 1)])⟩, ⟨CedFr.get ?_, rfl, fun i x hx => ?_⟩, ?_⟩
 ·exact .cons rfl (FV.sub_o _ (by simp)) (.cons rfl rfl .nil)
 ·have hko:ou ko=none:=hko
  cases i with
  |l m=>
   by_cases e:1=m
   ·subst e;cases hx;exact⟨.l 1,_,rfl,rfl,rfl⟩
   ·simp[St.get,lookL,Q09 e]at hx
  |o m=>
   have hx':updO ou ko (.cells [.gs 5 [] (.l 1)]) m=some x:=hx
   by_cases e:ko=m
   ·subst e;rw[Q04]at hx';cases hx';exact⟨.l 0,_,rfl,rfl,rfl⟩
   ·rw[Q05 _ e]at hx'
    exact⟨.o m,x,hx',rfl,(AObj.sub_o x (hou m x hx')).symm⟩
 have hko:ou ko=none:=hko
 refine AOps.cede 1 (show 1 < 2 by omega) fun kt hkt=>⟨[(4,.one (.box (cNd t))),(3,.one (.ptr (.o ko) 0))],
  ⟨2, [], ouS ou ko kt (([] : List Ex).map cEx)⟩, ⟨CedFr.get ?_, rfl, fun i x hx => ?_⟩, ?_⟩
 ·exact .cons rfl (FV.sub_o _ (by simp)) (.cons rfl rfl .nil)
 ·have hkt:updO ou ko (.cells [.gs 5 [] (.l 1)]) kt=none:=hkt
  have hkto:ko≠kt:=fun e=>by subst e;rw[Q04]at hkt;cases hkt
  cases i with
  |l m=>cases hx
  |o m=>
   have hx':ouS ou ko kt (([]:List Ex).map cEx) m=some x:=hx
   by_cases e:m=kt
   ·subst e;rw[ouS_t]at hx';cases hx';exact⟨.l 1,_,rfl,rfl,rfl⟩
   ·by_cases e2:m=ko
    ·subst e2;rw[ouS_o hkto]at hx';cases hx'
     exact⟨.o m,.cells [.gs 5 [] (.l 1)],Q04 _ _ _,rfl,rfl⟩
    ·rw[ouS_w e2 e]at hx'
     refine⟨.o m,x,?_,rfl,(AObj.sub_o x (hou m x hx')).symm⟩
     show updO ou ko (.cells [.gs 5 [] (.l 1)]) m=_
     rw[Q05 _ (Ne.symm e2)];exact hx'
 have hkt:updO ou ko (.cells [.gs 5 [] (.l 1)]) kt=none:=hkt
 have hot:ko≠kt:=fun e=>by subst e;rw[Q04]at hkt;cases hkt
 rw[Q05 _ hot]at hkt
 have hcall:=Qj2 hΓ t ht ou ko kt [] hou hko hkt hot hsz
 refine AOps.call1 hΓ rfl rfl rfl rfl rfl rfl rfl (by simp) (Q51 hou (by simp)) hcall fun r ou' hq hids hou'=>?_
 obtain⟨rfl,kt',h1,h2,rfl⟩:=hq
 refine zA ?_
 refine zS (zLD rfl rfl (ouS_o h2 _) rfl) ?_
 refine AOps.wk 6 rfl (y:=.one (.sl 5 ((listT [] t).map cEx))) (.one (.gsE rfl)) ?_
 refine AOps.lessO ⟨2,[],ou⟩ rfl (fun i o ho=>?_) ?_
 ·cases i with
  |l m=>cases ho
  |o m=>
   have ho':ou m=some o:=ho
   show ouS ou ko kt' _ m=some o
   have e1:m≠ko:=fun e=>by rw[e,hko]at ho';cases ho'
   have e3:m≠kt':=fun e=>by rw[←e,ho']at h1;cases h1
   rw[ouS_w e1 e3];exact ho'
 refine zA ?_
 exact APure.fin rfl (WkF.ofEq rfl) (by simp) hou rfl
end Go.Proofs.YthboaankaaeemaaDoor
namespace Go.CoreX
def Q45 (e:List Ex)(k:Nat):Tr:=(growL e).getD k default
theorem Q3u{e:List Ex}(hk:Q0v e){i:Nat}{x:Ex}(hx:e[i]?=some x):Q45 e i=.mk x.op x.n x.binds (x.kids.map fun k=>Q45 e k.toNat) x.alts:=by
 have hi:=(List.getElem?_eq_some_iff.1 hx).1
 have hs:e=e.take i++x::e.drop (i+1):=by
  obtain⟨h2,h3⟩:=List.getElem?_eq_some_iff.1 hx
  rw[←h3,←List.drop_eq_getElem_cons h2,List.take_append_drop]
 have hl:(e.take i).length=i:=by simp;omega
 have h1:=Q7d (e.take i) (e.drop (i+1)) x
 rw[←hs,hl]at h1
 unfold Q45
 rw[h1]
 simp only[Q30,Tr.mk.injEq,true_and,and_true]
 refine List.map_congr_left fun k hkk=>?_
 have hb:=hk i x hx k hkk
 have h2:=Q4l (e:=e.take i) (l:=x::e.drop (i+1)) (i:=k.toNat) (by rw[hl];omega)
 rw[←hs]at h2
 exact h2.symm
theorem Qkb:∀ls:List Lab,(ls.map fun _=>(1:Int)).sum=ls.length
 |[]=>rfl
 |l::ls=>by simp only[List.map_cons,List.sum_cons,Qkb ls,List.length_cons];omega
theorem Q6t(n:Int)(f:Lab->List Int):∀ls:List Lab,(((ls.flatMap f).count n:Nat):Int)=(ls.map fun l=>(((f l).count n:Nat):Int)).sum
 |[]=>rfl
 |l::ls=>by
  simp only[List.flatMap_cons,List.count_append,List.map_cons,List.sum_cons,←Q6t n f ls]
  omega
end Go.CoreX
namespace Go.Proofs.YthboaankaaeemaaDoor
open Go Go.Abs Go.CoreX
variable {Γ:List (Nat×List AC)}
end Go.Proofs.YthboaankaaeemaaDoor
namespace Go.CoreX
mutual
def cntN:Tr->Nat
 |.mk _ _ _ k _=>cntNs k+1
def cntNs:List Tr->Nat
 |[]=>0
 |t::l=>cntN t+cntNs l
end
mutual
theorem Q26:∀(t:Tr)(out:List Ex),(listT out t).length=out.length+cntN t
 |.mk o n b k a,out=>by
  have:=Qad k out
  simp only[listT,cntN,List.length_append,List.length_singleton];omega
theorem Qad:∀(l:List Tr)(out:List Ex),(Q02 out l).1.length=out.length+cntNs l
 |[],out=>by simp[Q02,cntNs]
 |t::l,out=>by
  have h1:=Q26 t out
  have h2:=Qad l (listT out t)
  simp only[Q02,cntNs];omega
end
end Go.CoreX
namespace Go.Proofs.YthboaankaaeemaaDoor
open Go Go.Abs Go.CoreX
variable {Γ:List (Nat×List AC)}
end Go.Proofs.YthboaankaaeemaaDoor
namespace Go.CoreX
theorem Q77{e:List Ex}(h:check e=0):∀x∈e,shape x=true:=by
 intro x hx
 unfold check body at h
 by_cases h1:Q1n e=0
 ·rw[if_neg (by simpa using h1)]at h
  by_cases h2:Q1g (Q0d false e) e=0
  ·have h3:=(Q1x _ e).1 h2 x hx
   unfold Q0d at h3
   simp only[Bool.false_and,Bool.not_false,Bool.true_and,Bool.false_or]at h3
   by_cases h4:Q5x x.op=true
   ·rw[if_pos h4]at h3;cases h3
   ·rw[if_neg h4]at h3
    unfold Q1o at h3
    by_cases h5:shape x=false
    ·rw[if_pos h5]at h3;cases h3
    ·simpa using h5
  ·rw[if_pos h2]at h;exact absurd h h2
 ·rw[if_pos h1]at h;exact absurd h h1
theorem Qg7{x:Ex}(h:shape x=true):if x.op=7∨x.op=13 then x.kids.length=x.alts.length+1 else x.alts=[]:=by
 unfold shape at h
 split
 ·rename_i ho
  rw[if_pos ho]at h
  simp only[Q3s,Bool.and_eq_true,beq_iff_eq]at h
  omega
 ·rename_i ho
  rw[if_neg ho]at h
  split at h
  ·cases h
  ·simp only[Bool.and_eq_true,beq_iff_eq]at h
   exact List.length_eq_zero_iff.1 h.1.2
end Go.CoreX
namespace Go.Proofs.YthboaankaaeemaaDoor
open Go Go.Abs Go.CoreX
variable {Γ:List (Nat×List AC)}
def ow8 (l:List Int):Option Nat->AC
 |none=>.lit (.slice none 0 0)
 |some cap=>.arr (.l 0) 1 0 (l.map cI).length cap
def st8 (l:List Int)(ou:Outer):Option Nat->St
 |none=>⟨0,[],ou⟩
 |some cap=>⟨1,[(0,.cells (vec 1 (l.map cI) cap))],ou⟩
@[simp] theorem ids_ow8 (l l':List Int) (ou:Outer) (oc:Option Nat):(ow8 l oc).ids (inL (st8 l' ou oc).n):=by cases oc <;> simp[ow8,st8,AC.ids,inL]
end Go.Proofs.YthboaankaaeemaaDoor
namespace Go.CoreX
end Go.CoreX
namespace Go.Proofs.YthboaankaaeemaaDoor
open Go Go.Abs Go.CoreX
variable {Γ:List (Nat×List AC)}
end Go.Proofs.YthboaankaaeemaaDoor
namespace Go.CoreX
open Go.Abs (orI subI anI)
def ex0:Ex:=⟨0,0,[],[],[]⟩
def exN (e:List Ex)(i:Nat):Ex:=e.getD i ex0
def shK (e:List Ex)(k:Int):Tr:=.mk (exN e k.toNat).op (exN e k.toNat).n (exN e k.toNat).binds [] []
end Go.CoreX
namespace Go.Proofs.YthboaankaaeemaaDoor
open Go Go.Abs Go.CoreX
variable {Γ:List (Nat×List AC)}
def shD (e:List Ex)(l:List Int):List (List AC):=l.map fun k=>cB (shK e k)
@[simp] theorem ids_shD (p:Abs.Id->Prop) (e:List Ex) (l:List Int):idsS p (shD e l):=Q1w (fun k=>by simp[cB]) l
@[simp] theorem ren_shD (ρ:Nat->Nat) (e:List Ex) (l:List Int):renS ρ (shD e l)=shD e l:=Q1s ρ _ (by simp)
end Go.Proofs.YthboaankaaeemaaDoor
namespace Go.CoreX
end Go.CoreX
namespace Go.Proofs.YthboaankaaeemaaDoor
open Go Go.Abs Go.CoreX
variable {Γ:List (Nat×List AC)}
theorem W_ok(hΓ:∀g cs,(g,cs)∈Γ->idsL isO cs)(n:Int):APure Tryd.prog Γ 15 [.one (int n)] (.one (.box (cNd (.mk 1 n [] [] [])))):=by
 intro ou
 refine AFn.walk 5 tabOk Tryd.func15 rfl (by kernel_rfl) rfl rfl fun hou=>?_
 refine zA ?_
 refine AOps.callCW (ws:=[.one (int 1),.one (int n),.one (.sl 1 (Q31 []))]) hΓ (N_ok 1 n []) rfl rfl rfl rfl rfl rfl ?_ hou (by simp) ?_
 ·exact .cons (.refl _) (.cons (.refl _) (.cons (.one (.nilS 1)) .nil))
 refine zA ?_
 exact APure.fin rfl (WkF.ofEq rfl) (by simp) hou rfl
end Go.Proofs.YthboaankaaeemaaDoor
namespace Go.CoreX
abbrev Nb:=Option (Nat×Nat)
structure LAlt where
 tag:Int
 nb:Nb
 binds:List Int
def LAlt.er (a:LAlt):Alt:=⟨a.tag,a.binds⟩
inductive LTr where
 |mk (id:Nat) (op n:Int) (nb:Nb) (binds:List Int) (kids:List LTr) (alts:List LAlt)
instance:Inhabited LTr:=⟨.mk 0 0 0 none [] [] []⟩
def LTr.id:LTr->Nat|.mk i _ _ _ _ _ _=>i
def LTr.kids:LTr->List LTr|.mk _ _ _ _ _ k _=>k
mutual
def erT:LTr->Tr
 |.mk _ o n _ b k a=>.mk o n b (erTs k) (a.map LAlt.er)
def erTs:List LTr->List Tr
 |[]=>[]
 |t::ts=>erT t::erTs ts
end
theorem Qbg:∀l:List LTr,erTs l=l.map erT
 |[]=>rfl
 |t::l=>by simp[erTs,Qbg l]
end Go.CoreX
namespace Go.Proofs.YthboaankaaeemaaDoor
open Go Go.Abs Go.CoreX
variable {Γ:List (Nat×List AC)}
def bC:Nb->List Int->AC
 |none,l=>.sl 1 (l.map cI)
 |some (a,cap),l=>.arr (.o a) 1 0 (l.map cI).length cap
def bO:Nb->List Int->List (Nat×AObj)
 |none,_=>[]
 |some (a,cap),l=>[(a,.cells (vec 1 (l.map cI) cap))]
def lAlt (x:LAlt):List AC:=[int x.tag,bC x.nb x.binds]
def aO (l:List LAlt):List (Nat×AObj):=l.flatMap fun x=>bO x.nb x.binds
def kC (l:List LTr):List (List AC):=l.map fun t=>[.ptr (.o t.id) 0]
def lC:LTr->List AC
 |.mk _ o n nb b k a=>[int o,int n,bC nb b,.sl 1 (kC k),.sl 2 (a.map lAlt)]
mutual
def objs:LTr->List (Nat×AObj)
 |.mk i o n nb b k a=>(i,.cells [int o,int n,bC nb b,.sl 1 (kC k),.sl 2 (a.map lAlt)])::(bO nb b++aO a)++objss k
def objss:List LTr->List (Nat×AObj)
 |[]=>[]
 |t::ts=>objs t++objss ts
end
abbrev keys (l:List (Nat×AObj)):List Nat:=l.map (·.1)
def Owns (ou:Outer)(l:List (Nat×AObj)):Prop:=∀p∈l,ou p.1=some p.2
theorem Owns.app{ou:Outer}{l r:List (Nat×AObj)}:Owns ou (l++r)↔Owns ou l/\Owns ou r:=by
 unfold Owns
 constructor
 ·exact fun h=>⟨fun p hp=>h p (by simp[hp]),fun p hp=>h p (by simp[hp])⟩
 ·rintro⟨h1,h2⟩ p hp
  rcases List.mem_append.1 hp with hp|hp
  ·exact h1 p hp
  ·exact h2 p hp
theorem Owns.frame{ou ou':Outer}{l:List (Nat×AObj)}(h:Owns ou l)(hf:∀j∈keys l,ou' j=ou j):Owns ou' l:=fun p hp=>(hf p.1 (List.mem_map_of_mem hp)).trans (h p hp)
theorem Qaz:∀l:List LTr,objss l=l.flatMap objs
 |[]=>rfl
 |t::l=>by simp[objss,Qaz l]
theorem Q80(l r:List LTr):objss (l++r)=objss l++objss r:=by simp[Qaz]
theorem Qc8{ou:Outer}:∀{t:LTr},Owns ou (objs t)->ou t.id=some (.cells (lC t))
 |.mk i o n nb b k a,h=>h (i,.cells [int o,int n,bC nb b,.sl 1 (kC k),.sl 2 (a.map lAlt)]) (by simp[objs])
theorem Qa2(p:Abs.Id->Prop)(hp:∀k,p (.o k))(nb:Nb)(l:List Int):(bC nb l).ids p:=by
 cases nb with
 |none=>simp[bC,AC.ids]
 |some x=>exact hp _
theorem Q8e(p:Abs.Id->Prop)(hp:∀k,p (.o k))(l:List LTr):idsS p (kC l):=Q1w (f:=fun t:LTr=>[.ptr (.o t.id) 0]) (fun t=>by simp only[idsL,AC.ids,and_true];exact hp _) l
theorem Q8d(p:Abs.Id->Prop)(hp:∀k,p (.o k))(l:List LAlt):idsS p (l.map lAlt):=Q1w (f:=lAlt) (fun t=>by simp only[lAlt,idsL,AC.ids,and_true,true_and];exact Qa2 p hp _ _) l
theorem Qjr{Γ:List (Nat×List AC)}{F:Nat->Prop}{w:World}{C C':Ctx}{σ:St}(hi:Inv Γ F w C σ)(hc:Chg isO w C w C'){nb:Nb}{l:List Int}(ho:Owns σ.ou (bO nb l))(hp:∀k∈keys (bO nb l),∀a:Addr,a.block=C.blk (.o k)->C'.prot a){v:Value}
  (hr:R w C (bC nb l) v):R w C' (.sl 1 (l.map cI)) v:=by
 cases nb with
 |none=>exact R.chg hc (.sl 1 (l.map cI)) v (Qdm _ _) hr
 |some x=>
  obtain⟨a,cap⟩:=x
  have hg:σ.get (.o a)=some (.cells (vec 1 (l.map cI) cap)):=ho (a,.cells (vec 1 (l.map cI) cap)) (by simp[bO])
  obtain⟨hok,zs,T,b1,b2,b3,b4⟩:=hi.obj _ _ hg
  simp only[bC,R,Nat.zero_mul]at hr
  refine⟨some ⟨C.blk (.o a),0,none⟩,cap,hr.2.1,hr.2.2,.inr ⟨_,rfl,rfl,?_⟩⟩
  have hl:∀x∈l.map cI,x.length=1:=fun x hx=>by obtain⟨n,_,rfl⟩:=List.mem_map.1 hx;rfl
  have hfl:=Q42 hl
  have hzl:=RV.length b3
  have hfi:idsL isO (l.map cI).flatten:=by
   refine Q5u.2 fun c hc=>?_
   obtain⟨e,he,hce⟩:=List.mem_flatten.1 hc
   obtain⟨n,_,rfl⟩:=List.mem_map.1 he
   simp[cI]at hce;subst hce;trivial
  have hv:RV w C' (l.map cI).flatten (zs.take ((l.map cI).length * 1)):=by
   refine RV.chg hc _ _ hfi ?_
   have:=b3.take ((l.map cI).length * 1)
   rwa [vec,List.take_append_of_le_length (by omega),List.take_of_length_le (by omega)]at this
  refine RS.ofVals 0 hl hv fun j v hj=>⟨?_,hp a (by simp[bO]) _ rfl⟩
  have h2:j < (l.map cI).length * 1:=by have:=(List.getElem?_eq_some_iff.1 hj).1;simp at this ⊢;omega
  rw[List.getElem?_take_of_lt h2]at hj
  rw[Nat.zero_add,cell_of_row _ _ _ _ _ _ b1]
  simpa using hj
theorem Qjy{Γ:List (Nat×List AC)}{F:Nat->Prop}{w:World}{C C':Ctx}{σ:St}(hi:Inv Γ F w C σ)(hc:Chg isO w C w C'):∀{l:List LAlt},Owns σ.ou (aO l)->(∀k∈keys (aO l),∀a:Addr,a.block=C.blk (.o k)->C'.prot a)->∀ad:Addr,
  RS w C 2 (l.map lAlt) ad->RS w C' 2 ((l.map LAlt.er).map cAlt) ad
 |[],_,_,ad,_=>by simp[RS]
 |x::l,ho,hp,ad,hr=>by
  have e:aO (x::l)=bO x.nb x.binds++aO l:=rfl
  rw[e]at ho hp
  obtain⟨ho1,ho2⟩:=Owns.app.1 ho
  simp only[List.map_cons,RS,lAlt,RL]at hr
  obtain⟨_,⟨⟨u,hu,hup,hur⟩,⟨v,hv,hvp,hvr⟩,_⟩,hrest⟩:=hr
  refine⟨rfl,⟨⟨u,hu,hc.prot _ hup,R.chg hc _ u trivial hur⟩,⟨v,hv,hc.prot _ hvp,?_⟩,trivial⟩,Qjy hi hc ho2 (fun k hk=>hp k (by simp[keys]at hk ⊢;exact .inr hk)) _ hrest⟩
  exact Qjr hi hc ho1 (fun k hk=>hp k (by simp[keys]at hk ⊢;exact .inl hk)) hvr
mutual
theorem Qew{Γ:List (Nat×List AC)}{F:Nat->Prop}{w:World}{C C':Ctx}{σ:St}(hi:Inv Γ F w C σ)(hc:Chg isO w C w C'):∀t:LTr,Owns σ.ou (objs t)->(∀k∈keys (objs t),∀a:Addr,a.block=C.blk (.o k)->C'.prot a)->RL w C' (cTr (erT t)) ⟨C.blk (.o t.id),0,none⟩
 |.mk i o n nb b k a,ho,hp=>by
  have hg:σ.get (.o i)=some (.cells (lC (.mk i o n nb b k a))):=Qc8 (t:=.mk i o n nb b k a) ho
  obtain⟨hok,zs,T,b1,b2,b3,b4⟩:=hi.obj _ _ hg
  have e:objs (.mk i o n nb b k a)=[(i,.cells [int o,int n,bC nb b,.sl 1 (kC k),.sl 2 (a.map lAlt)])]++((bO nb b++aO a)++objss k):=by simp[objs]
  rw[e]at ho hp
  obtain⟨_,ho2⟩:=Owns.app.1 ho
  obtain⟨ho3,hok2⟩:=Owns.app.1 ho2
  obtain⟨hob,hoa⟩:=Owns.app.1 ho3
  have hpb:∀k'∈keys (bO nb b),∀a:Addr,a.block=C.blk (.o k')->C'.prot a:=fun k' hk=>hp k' (by simp[keys]at hk ⊢;exact .inr (.inl hk))
  have hpa:∀k'∈keys (aO a),∀a:Addr,a.block=C.blk (.o k')->C'.prot a:=fun k' hk=>hp k' (by simp[keys]at hk ⊢;exact .inr (.inr (.inl hk)))
  have hpk:∀k'∈keys (objss k),∀a:Addr,a.block=C.blk (.o k')->C'.prot a:=fun k' hk=>hp k' (by simp[keys]at hk ⊢;exact .inr (.inr (.inr hk)))
  simp only[lC,RV,R]at b3
  obtain⟨v1,_,rfl,⟨rfl,_⟩,v2,_,rfl,⟨rfl,_⟩,v3,_,rfl,h3,v4,_,rfl,⟨a4,c4,rfl,l4,h4⟩,v5,_,rfl,⟨a5,c5,rfl,l5,h5⟩,rfl⟩:=b3
  have hrv:RV w C' (cTr (erT (.mk i o n nb b k a))) [.int .i64 o,.int .i64 n,v3,.slice a4 (kC k).length c4,.slice a5 (a.map lAlt).length c5]:=by
   simp only[cTr,erT,Tr.op_mk,Tr.n_mk,Tr.binds_mk,Tr.kids_mk,Tr.alts_mk,RV]
   refine⟨_,_,rfl,by simp[R,Value.oneCell'],_,_,rfl,by simp[R,Value.oneCell'],_,_,rfl,Qjr hi hc hob hpb h3,_,_,rfl,?_,_,_,rfl,?_,rfl⟩
   ·refine⟨a4,c4,by simp[kC,Qbg],by simpa[kC,Qbg]using l4,?_⟩
    rcases h4 with h4|⟨ad,rfl,hs,h4⟩
    ·left
     simp only[kC,List.map_eq_nil_iff]at h4
     subst h4;rfl
    ·exact .inr ⟨ad,rfl,hs,Qc9 hi hc k hok2 hpk ad h4⟩
   ·refine⟨a5,c5,by simp,by simpa using l5,?_⟩
    rcases h5 with h5|⟨ad,rfl,hs,h5⟩
    ·left
     simp only[List.map_eq_nil_iff]at h5
     subst h5;rfl
    ·exact .inr ⟨ad,rfl,hs,Qjy hi hc hoa hpa ad h5⟩
  refine RL.of_new 0 hrv (fun j v hj=>?_) (fun ad ha=>?_)
  ·rw[Nat.zero_add]
   show w.cell? ⟨C.blk (.o i),j,none⟩=some v
   rw[cell_of_row _ _ _ _ _ _ b1]
   simpa using hj
  ·exact hp i (by simp[keys]) _ ha
theorem Qc9{Γ:List (Nat×List AC)}{F:Nat->Prop}{w:World}{C C':Ctx}{σ:St}(hi:Inv Γ F w C σ)(hc:Chg isO w C w C'):∀l:List LTr,Owns σ.ou (objss l)->(∀k∈keys (objss l),∀a:Addr,a.block=C.blk (.o k)->C'.prot a)->∀ad:Addr,RS w C 1 (kC l) ad->RS w C' 1 (Q24 (erTs l)) ad
 |[],_,_,ad,_=>by simp[erTs,Q24,RS]
 |t::l,ho,hp,ad,hr=>by
  have e:objss (t::l)=objs t++objss l:=rfl
  rw[e]at ho hp
  obtain⟨ho1,ho2⟩:=Owns.app.1 ho
  simp only[kC,List.map_cons,RS,RL,R]at hr
  obtain⟨_,⟨⟨u,hu,hup,_,hur⟩,_⟩,hrest⟩:=hr
  simp only[erTs,Q24,RS]
  refine⟨rfl,⟨⟨u,hu,hc.prot _ hup,⟨_,hur,rfl,?_⟩⟩,trivial⟩,Qc9 hi hc l ho2 (fun k hk=>hp k (by simp[keys]at hk ⊢;exact .inr hk)) _ hrest⟩
  rw[Qfw]
  exact Qew hi hc t ho1 fun k hk=>hp k (by simp[keys]at hk ⊢;exact .inl hk)
end
mutual
theorem Q9v:∀t:LTr,∀p∈objs t,∃cs,p.2=.cells cs
 |.mk i o n nb b k a,p,hp=>by
  simp only[objs,List.cons_append,List.mem_cons,List.mem_append]at hp
  have hb:∀(nb:Nb) (l:List Int),∀p∈bO nb l,∃cs,p.2=.cells cs:=fun nb l p hp=>by
   cases nb with
   |none=>simp[bO]at hp
   |some x=>simp[bO]at hp;subst hp;exact⟨_,rfl⟩
  rcases hp with rfl|(hp|hp)|hp
  ·exact⟨_,rfl⟩
  ·exact hb _ _ p hp
  ·unfold aO at hp
   obtain⟨x,_,hx⟩:=List.mem_flatMap.1 hp
   exact hb _ _ p hx
  ·exact Q7z k p hp
theorem Q7z:∀l:List LTr,∀p∈objss l,∃cs,p.2=.cells cs
 |[],p,hp=>by simp[objss]at hp
 |t::l,p,hp=>by
  simp only[objss,List.mem_append]at hp
  rcases hp with hp|hp
  ·exact Q9v t p hp
  ·exact Q7z l p hp
end
def deadL (ou:Outer)(l:List Nat):Outer:=fun j=>if j∈l then some .dead else ou j
theorem Q8b{Γ:List (Nat×List AC)}{F:Nat->Prop}{w:World}:∀(l:List (Nat×AObj)){C:Ctx}{σ:St},Inv Γ F w C σ->Owns σ.ou l->(keys l).Nodup->(∀p∈l,∃cs,p.2=.cells cs)->
  ∃C',Goes F (fun _=>True) w C w C'/\Inv Γ F w C' { σ with ou:=deadL σ.ou (keys l) }/\(∀i,C'.blk i=C.blk i)/\∀k∈keys l,∀a:Addr,a.block=C.blk (.o k)->C'.prot a
 |[],C,σ,hi,_,_,_=>⟨C,Goes.refl _ _ _ _,by rw[show deadL σ.ou (keys [])=σ.ou from funext fun j=>by simp[deadL]];exact hi,fun _=>rfl,fun k hk=>by simp at hk⟩
 |(k,o)::l,C,σ,hi,ho,hn,hc=>by
  obtain⟨cs,rfl⟩:∃cs,o=.cells cs:=hc (k,o) (by simp)
  simp only[keys,List.map_cons,List.nodup_cons]at hn
  have hg:σ.get (.o k)=some (.cells cs):=ho (k,.cells cs) (by simp)
  obtain⟨h1,h2,h3⟩:=hi.freeze hg
  have ho2:Owns (σ.set (.o k) .dead).ou l:=fun p hp=>by
   have hne:p.1≠k:=fun e=>hn.1 (e▸List.mem_map_of_mem hp)
   show (bif Nat.beq p.1 k then some AObj.dead else σ.ou p.1)=some p.2
   rw[Q09 hne]
   exact ho p (by simp[hp])
  obtain⟨C',g1,g2,g3,g4⟩:=Q8b l h2 ho2 hn.2 fun p hp=>hc p (by simp[hp])
  refine⟨C',h1.trans g1,?_,fun i=>g3 i,fun j hj a ha=>?_⟩
  ·have e:({ σ.set (.o k) .dead with ou:=deadL (σ.set (.o k) .dead).ou (keys l) }:St)={ σ with ou:=deadL σ.ou (keys ((k,.cells cs)::l)) }:=by
    show St.mk σ.n σ.lo _=St.mk σ.n σ.lo _
    congr 1
    funext j
    show deadL (fun j=>bif Nat.beq j k then some AObj.dead else σ.ou j) (keys l) j=_
    unfold deadL
    by_cases e:j=k
    ·subst e;simp
    ·simp only[Q09 e,cond_false,keys,List.map_cons,List.mem_cons,e,false_or]
   rw[←e];exact g2
  ·simp only[keys,List.map_cons,List.mem_cons]at hj
   rcases hj with rfl|hj
   ·exact g1.chg.prot a (.inr ha)
   ·exact g4 j hj a ha
theorem AOps.freezeT{E:Env}{ops:Array Oper}{l:List Oper}{K:Cont}{fr:Fr}{σ:St}{t:LTr}(d:Nat)(ho:Owns σ.ou (objs t))(hn:(keys (objs t)).Nodup)(hd:Fr.get d fr=some (.one (.ptr (.o t.id) 0)))
  (h:AOps E ops l K ((d,.one (.box (cTr (erT t))))::fr) { σ with ou:=deadL σ.ou (keys (objs t)) }):AOps E ops l K fr σ:=by
 intro F w0 C0 w C tmps hgo hi hf
 obtain⟨C',g1,g2,g3,g4⟩:=Q8b (objs t) hi ho hn (Q9v t)
 refine h F w0 C0 w C' tmps (hgo.trans g1.toO) g2 ⟨hf.1,fun k x hk=>?_⟩
 simp only[Fr.get]at hk
 by_cases e:d=k
 ·subst e
  simp at hk
  subst hk
  obtain⟨u,hu,hr⟩:=hf.2 d _ hd
  simp only[RF,R]at hr
  exact⟨u,hu,_,hr.2,rfl,Qew hi (g1.chg.weaken fun _ _=>trivial) t ho g4⟩
 ·rw[Q09 e]at hk
  obtain⟨u,hu,hr⟩:=hf.2 k x hk
  exact⟨u,hu,hr.ext g1.chg⟩
end Go.Proofs.YthboaankaaeemaaDoor
namespace Go.CoreX
def frB (f:Int)(l:List Int):List Int:=(List.range l.length).map fun i:Nat=>f+i
def frN (m:Nm)(f:Int)(l:List Int):Nm:=putsN m l (frB f l)
def frTo (f:Int)(l:List Int)(j:Nat):List Int:=((List.range j).map fun i:Nat=>f+i)++l.drop j
theorem Qjh(f:Int)(l:List Int):frTo f l 0=l:=by simp[frTo]
theorem Qlr(f:Int)(l:List Int):frTo f l l.length=frB f l:=by simp[frTo,frB]
theorem Qfs(f:Int)(l:List Int){j:Nat}(h:j<=l.length):(frTo f l j).length=l.length:=by simp[frTo];omega
theorem Qlq(f:Int){l:List Int}{j:Nat}{n:Int}(h:l[j]?=some n):(frTo f l j)[j]?=some n:=by
 unfold frTo
 rw[List.getElem?_append_right (by simp)]
 simp[h]
theorem Qlp(f:Int){l:List Int}{j:Nat}(h:j < l.length):(frTo f l j).set j (f+j)=frTo f l (j+1):=by
 unfold frTo
 rw[List.set_append_right _ _ (by simp)]
 simp only[List.length_map,List.length_range,Nat.sub_self]
 rw[List.drop_eq_getElem_cons h,List.set_cons_zero,List.range_succ,List.map_append,List.append_assoc]
 rfl
theorem Q3k(f:Int)(l:List Int):(frB f l).length=l.length:=by simp[frB]
theorem Qdq{f:Int}{l:List Int}{j:Nat}(h:j < l.length):(frB f l)[j]?=some (f+j):=by simp[frB,h]
end Go.CoreX
namespace Go.Proofs.YthboaankaaeemaaDoor
open Go Go.Abs Go.CoreX
variable {Γ:List (Nat×List AC)}
theorem Qam(l:List Int)(cap:Nat):vec 1 (l.map cI) cap=l.map int++List.replicate (cap - l.length) .any:=by
 unfold vec
 have e:(l.map cI).flatten=l.map int:=by
  induction l with
  |nil=>rfl
  |cons n l ih=>simp only[List.map_cons,List.flatten_cons,ih];rfl
 rw[e];simp
theorem Qk9{l:List Int}{cap i:Nat}{v:Int}(h:l[i]?=some v):(vec 1 (l.map cI) cap)[i]?=some (int v):=by
 rw[Qam,List.getElem?_append_left (by simpa using (List.getElem?_eq_some_iff.1 h).1)]
 simp[h]
theorem Qk8{l:List Int}{cap i:Nat}(v:Int)(h:i < l.length):(vec 1 (l.map cI) cap).set i (int v)=vec 1 ((l.set i v).map cI) cap:=by
 rw[Qam,Qam,List.set_append_left _ _ (by simpa using h),List.length_set,List.map_set]
theorem vecI_lt{l:List Int}{cap i:Nat}(h:i < l.length):i < (vec 1 (l.map cI) cap).length:=by
 rw[Qam];simp;omega
theorem OuOk.set{σ:St}{k:Nat}{o:AObj}(h:OuOk σ.ou)(ho:o.ids isO):OuOk (σ.set (.o k) o).ou:=by
 intro j p hj
 have hj':(bif Nat.beq j k then some o else σ.ou j)=some p:=hj
 by_cases e:j=k
 ·subst e;simp at hj';subst hj';exact ho
 ·rw[Q09 e]at hj';exact h j p hj'
theorem Q3x{σ:St}{k:Nat}{o:AObj}:(σ.set (.o k) o).ou k=some o:=by show (bif Nat.beq k k then _ else _)=_;simp
theorem Q1a{σ:St}{j k:Nat}{o:AObj}(h:j≠k):(σ.set (.o k) o).ou j=σ.ou j:=by show (bif Nat.beq j k then _ else _)=_;rw[Q09 h];rfl
structure RnS (ou:Outer)(kn km kf:Nat)(nm:Nm)(ck:Nat)(l:List (Nat×Int×Int))(f:Int):Prop where
 n:ou kn=some (.cells [.mp (.o km)])
 m:ou km=some (.map ck (encI eN l))
 k:IMOk nm ck l
 f:ou kf=some (.cells [int f])
theorem RnS.ne{ou:Outer}{kn km kf:Nat}{nm:Nm}{ck:Nat}{l:List (Nat×Int×Int)}{f:Int}(h:RnS ou kn km kf nm ck l f):kn≠km/\kn≠kf/\km≠kf:=by
 refine⟨fun e=>?_,fun e=>?_,fun e=>?_⟩
 ·have:=h.n;rw[e,h.m]at this;cases this
 ·have:=h.n;rw[e,h.f]at this;cases this
 ·have:=h.m;rw[e,h.f]at this;cases this
def FreshQ (ou:Outer)(kn km kf:Nat)(nm:Nm)(f:Int)(nb:Nb)(b:List Int)(r:FV)(ou':Outer):Prop:=
 r=.tup []/\∃ck' l',RnS ou' kn km kf (frN nm f b) ck' l' (f+b.length)/\Owns ou' (bO nb (frB f b))/\OuOk ou'/\∀j,j≠km->j≠kf->j∉keys (bO nb b)->ou' j=ou j
theorem Qfr(hΓ:∀g cs,(g,cs)∈Γ->idsL isO cs)(nb:Nb)(b:List Int)(hb:nb=none->b=[])(hl:b.length<=1048576)(ou:Outer)(kn km kf:Nat)(nm:Nm)(ck:Nat)(l:List (Nat×Int×Int))(f:Int)(h:RnS ou kn km kf nm ck l f)
  (ho:Owns ou (bO nb b)) (hd:∀k∈keys (bO nb b),k≠kn/\k≠km/\k≠kf) (hf0:0<=f) (hf1:f+b.length<=4611686018427387904) (hou0:OuOk ou):
  AFn Tryd.prog Γ 68 [.one (bC nb b),.one (.ptr (.o kf) 0),.one (.ptr (.o kn) 0)] ou (FreshQ ou kn km kf nm f nb b):=by
 cases nb with
 |none=>
  obtain rfl:=hb rfl
  refine AFn.walk 23 tabOk Tryd.func68 rfl (by kernel_rfl) rfl rfl fun hou=>?_
  refine zA ?_
  refine ACode.loopR hΓ (α:=Unit) (fun _=>[(7,.one (int 0)),(6,.one (int 0))]) (fun _=>⟨0,[],ou⟩) (fun m _=>m=0) (a0:=()) (ρ:=id) rfl (LessR.of rfl zFS (by simp) .nil rfl rfl hou) fun m a hm=>?_
  refine zA ?_
  refine AFn.fin' rfl (WkF.refl _) (by simp) hou ⟨rfl,ck,l,?_,by simpa[frB,bO]using ho,hou0,fun _ _ _ _=>rfl⟩
  simpa[frN,putsN]using h
 |some x=>
  obtain⟨a,cap⟩:=x
  obtain⟨da1,da2,da3⟩:=hd a (by simp[bO])
  have hoa:ou a=some (.cells (vec 1 (b.map cI) cap)):=ho (a,.cells (vec 1 (b.map cI) cap)) (by simp[bO])
  obtain⟨dn1,dn2,dn3⟩:=h.ne
  refine AFn.walk 23 tabOk Tryd.func68 rfl (by kernel_rfl) rfl rfl fun hou=>?_
  refine zA ?_
  refine ACode.loopR hΓ (α:=Nat×Outer×Nat×List (Nat×Int×Int)) (fun c=>[(7,.one (int c.1)),(6,.one (int (b.map cI).length)),(2,.one (.ptr (.o kn) 0)),(1,.one (.ptr (.o kf) 0)),(0,.one (.arr (.o a) 1 0 (b.map cI).length cap))])
   (fun c=>⟨0,[],c.2.1⟩) (fun m c=>c.1<=b.length/\(RnS c.2.1 kn km kf (putsN nm (b.take c.1) ((frB f b).take c.1)) c.2.2.1 c.2.2.2 (f+c.1)/\c.2.1 a=some (.cells (vec 1 ((frTo f b c.1).map cI) cap))/\OuOk c.2.1/\∀j,j≠km->j≠kf->j≠a->c.2.1 j=ou j)/\m=b.length - c.1)
   (a0:=(0,ou,ck,l)) (ρ:=id) ⟨by omega,⟨by simpa[putsN]using h,by rw[Qjh];exact hoa,hou0,fun _ _ _ _=>rfl⟩,rfl⟩ (LessR.of rfl zFS (by simp) .nil rfl rfl hou) fun m c hc=>?_
  clear hoa h ho
  obtain⟨j,ov,ck,l⟩:=c
  obtain⟨hjl,⟨hR,ha,hok,hfr⟩,rfl⟩:=hc
  simp only at hjl hR ha hok hfr
  refine zA ?_
  refine ACode.cond rfl (fun hb2=>?_) (fun hb2=>?_)
  ·have hlt:j < b.length:=by simpa using hb2
   obtain⟨n,hn⟩:=Q00 hlt
   have hgn:=Qlq f hn
   refine zA ?_
   refine ACode.drawX tabOk 6 [(0,.one (.mp (.o km))),(3,.one (.ptr (.o a) j)),(4,.one (int n)),(5,.one (int (f+j)))] follows (by kernel_rfl) rfl rfl rfl rfl ?_ ?_
   ·refine .step rfl (zHP (zLD rfl rfl hR.n rfl)) (.step rfl (zHP (idxI tabOk rfl rfl rfl rfl rfl rfl rfl (by simpa using hlt))) ?_)
    refine .step rfl (zHP (zLD rfl rfl ha (Qk9 hgn))) ?_
    exact .step rfl (zHP (zLD rfl rfl hR.f rfl)) .nil
   refine AOps.putI eN (v:=f+j) rfl rfl rfl Tryd.underlying98 Tryd.underlying3 rfl hR.m rfl rfl hR.k fun ck' l' hm'=>?_
   have e1:=(Q1a (σ:=⟨0,[],ov⟩) (o:=.map ck' (encI eN l')) (Ne.symm dn3)).trans hR.f
   have e2:=(Q1a (σ:=⟨0,[],ov⟩) (o:=.map ck' (encI eN l')) da2).trans ha
   refine zA ?_
   refine zS (zLD rfl rfl e1 rfl) ?_
   refine zS (idxI tabOk rfl rfl rfl rfl rfl rfl rfl (by simpa using hlt)) ?_
   refine AOps.storeOwn tabOk rfl rfl rfl rfl rfl rfl rfl e2 (vecI_lt (by rw[Qfs f b hjl];exact hlt)) ?_
   rw[Qk8 _ (by rw[Qfs f b hjl];exact hlt),Qlp f hlt]
   refine zA ?_
   have e3:=(Q1a (σ:=St.set ⟨0,[],ov⟩ (.o km) (.map ck' (encI eN l'))) (o:=.cells (vec 1 ((frTo f b (j+1)).map cI) cap)) (Ne.symm da3)).trans e1
   refine zS (zLD rfl rfl e3 rfl) ?_
   refine zS (AStep.arith rfl rfl rfl (.inl ⟨rfl,rfl⟩) zI) ?_
   refine AOps.storeOwn tabOk rfl rfl rfl rfl rfl rfl rfl e3 (by simp) ?_
   refine zM ?_
   refine cInv ⟨b.length - (j+1),(j+1,(St.set (St.set (St.set ⟨0,[],ov⟩ (.o km) (.map ck' (encI eN l'))) (.o a) (.cells (vec 1 ((frTo f b (j+1)).map cI) cap))) (.o kf) (.cells [int (f+j+1)])).ou,ck',l'),id,by omega,⟨by omega,⟨⟨?_,?_,?_,?_⟩,?_,?_,fun i h1 h2 h3=>?_⟩,rfl⟩,LessR.of rfl zFS (by simp) .nil rfl rfl ?_⟩
   all_goals try dsimp only
   ·rw[Q1a dn2,Q1a (Ne.symm da1),Q1a dn1];exact hR.n
   ·rw[Q1a dn3,Q1a (Ne.symm da2),Q3x]
   ·rw[Q9n hn (Qdq hlt)];exact hm'
   ·rw[Q3x,show f+((j+1:Nat):Int)=f+j+1 by omega]
   ·rw[Q1a da3,Q3x]
   ·exact OuOk.set (OuOk.set (OuOk.set (σ:=⟨0,[],ov⟩) hok (Q5s _ _ _)) (Q7b _ _ _)) (by simp)
   ·rw[Q1a h2,Q1a h3,Q1a h1];exact hfr i h1 h2 h3
   ·exact OuOk.set (OuOk.set (OuOk.set (σ:=⟨0,[],ov⟩) hok (Q5s _ _ _)) (Q7b _ _ _)) (by simp)
  ·have hlt:j=b.length:=by simp at hb2;omega
   subst hlt
   refine zA ?_
   refine AFn.fin' rfl (WkF.refl _) (by simp) hok ⟨rfl,ck,l,?_,?_,hok,fun i h1 h2 h3=>hfr i h1 h2 (by simpa[bO]using h3)⟩
   ·have:=hR
    rw[List.take_length,List.take_of_length_le (by rw[Q3k];omega)]at this
    exact this
   ·intro p hp
    simp[bO]at hp
    subst hp
    show ov a=_
    rw[ha,Qlr]
end Go.Proofs.YthboaankaaeemaaDoor
namespace Go.CoreX
def rnAs (nm:Nm)(f:Int):List LAlt->List LAlt×Nm×Int
 |[]=>([],nm,f)
 |x::l=>(⟨x.tag,x.nb,frB f x.binds⟩::(rnAs (frN nm f x.binds) (f+x.binds.length) l).1,(rnAs (frN nm f x.binds) (f+x.binds.length) l).2)
def ren1 (o:Int)(nm:Nm)(f:Int)(b:List Int):List Int×Nm×Int:=if o=9 then (b,nm,f)else (frB f b,frN nm f b,f+b.length)
mutual
def rnL (nm:Nm)(f:Int):LTr->LTr×Nm×Int
 |.mk i o n nb b k a=>
  let s1:=ren1 o nm f b
  let s2:=rnAs s1.2.1 s1.2.2 a
  let s3:=rnLs s2.2.1 s2.2.2 k
  (.mk i o (if o=0 then (nm n).getD n else n) nb s1.1 s3.1 s2.1,s3.2)
def rnLs (nm:Nm)(f:Int):List LTr->List LTr×Nm×Int
 |[]=>([],nm,f)
 |t::l=>((rnL nm f t).1::(rnLs (rnL nm f t).2.1 (rnL nm f t).2.2 l).1,(rnLs (rnL nm f t).2.1 (rnL nm f t).2.2 l).2)
end
theorem Qc3(x:LAlt):∀(l:List LAlt)(nm:Nm)(f:Int),rnAs nm f (l++[x])=((rnAs nm f l).1++[⟨x.tag,x.nb,frB (rnAs nm f l).2.2 x.binds⟩],frN (rnAs nm f l).2.1 (rnAs nm f l).2.2 x.binds,(rnAs nm f l).2.2+x.binds.length)
 |[],nm,f=>rfl
 |y::l,nm,f=>by simp only[List.cons_append,rnAs,Qc3 x l]
theorem Qc2(t:LTr):∀(l:List LTr)(nm:Nm)(f:Int),rnLs nm f (l++[t])=((rnLs nm f l).1++[(rnL (rnLs nm f l).2.1 (rnLs nm f l).2.2 t).1],(rnL (rnLs nm f l).2.1 (rnLs nm f l).2.2 t).2)
 |[],nm,f=>by simp[rnLs]
 |y::l,nm,f=>by simp only[List.cons_append,rnLs,Qc2 t l]
-- How many identifiers are bound (and renamed).
def nbA (l:List LAlt):Nat:=(l.map fun x=>x.binds.length).sum
mutual
def nbL:LTr->Nat
 |.mk _ o _ _ b k a=>(if o=9 then 0 else b.length)+nbA a+nbLs k
def nbLs:List LTr->Nat
 |[]=>0
 |t::l=>nbL t+nbLs l
end
theorem Qc5(o:Int)(nm:Nm)(f:Int)(b:List Int):(ren1 o nm f b).2.2=f+(if o=9 then 0 else b.length:Nat):=by
 unfold ren1;split <;> simp
theorem Qes:∀(l:List LAlt)(nm:Nm)(f:Int),(rnAs nm f l).2.2=f+nbA l
 |[],_,_=>by simp[rnAs,nbA]
 |x::l,nm,f=>by simp only[rnAs,Qes l,nbA,List.map_cons,List.sum_cons];push_cast;omega
mutual
theorem rnL_f:∀(t:LTr)(nm:Nm)(f:Int),(rnL nm f t).2.2=f+nbL t
 |.mk i o n nb b k a,nm,f=>by
  simp only[rnL,Qi4 k,Qes,Qc5,nbL];push_cast;omega
theorem Qi4:∀(l:List LTr)(nm:Nm)(f:Int),(rnLs nm f l).2.2=f+nbLs l
 |[],_,_=>by simp[rnLs,nbLs]
 |t::l,nm,f=>by simp only[rnLs,Qi4 l,rnL_f t,nbLs];push_cast;omega
end
theorem Qit(l r:List LAlt):nbA (l++r)=nbA l+nbA r:=by simp[nbA]
theorem Qb2:∀l r:List LTr,nbLs (l++r)=nbLs l+nbLs r
 |[],r=>by simp[nbLs]
 |t::l,r=>by simp only[List.cons_append,nbLs,Qb2 l r];omega
-- A list that is renamed is own, unless it is empty.
def ownB (nb:Nb)(b:List Int):Prop:=nb=none->b=[]
mutual
def okL:LTr->Prop
 |.mk _ o _ nb b k a=>(o≠9->ownB nb b)/\b.length<=1048576/\k.length<=1048576/\a.length<=1048576/\(∀x∈a,ownB x.nb x.binds/\x.binds.length<=1048576)/\okLs k
def okLs:List LTr->Prop
 |[]=>True
 |t::l=>okL t/\okLs l
end
theorem Qax:∀{l:List LTr},okLs l↔∀t∈l,okL t
 |[]=>by simp[okLs]
 |t::l=>by simp[okLs,Qax (l:=l)]
theorem frB_nil(f:Int):frB f []=[]:=rfl
end Go.CoreX
namespace Go.Proofs.YthboaankaaeemaaDoor
open Go Go.Abs Go.CoreX
variable {Γ:List (Nat×List AC)}
theorem bC_fr{nb:Nb}{b:List Int}(h:ownB nb b)(f:Int):bC nb (frB f b)=bC nb b:=by
 cases nb with
 |none=>rw[h rfl,frB_nil]
 |some x=>obtain⟨a,cap⟩:=x;simp[bC,Q3k]
theorem Qdh(nb:Nb)(b b':List Int):keys (bO nb b)=keys (bO nb b'):=by cases nb <;> rfl
theorem lAlt_fr{x:LAlt}(h:ownB x.nb x.binds)(f:Int):lAlt ⟨x.tag,x.nb,frB f x.binds⟩=lAlt x:=by simp only[lAlt,bC_fr h]
theorem rnAs_c:∀{l:List LAlt}{nm:Nm}{f:Int},(∀x∈l,ownB x.nb x.binds)->(rnAs nm f l).1.map lAlt=l.map lAlt
 |[],_,_,_=>rfl
 |x::l,nm,f,h=>by
  have ih:=rnAs_c (l:=l) (nm:=frN nm f x.binds) (f:=f+x.binds.length) fun y hy=>h y (by simp[hy])
  simp only[rnAs,List.map_cons,lAlt_fr (h x (by simp)),ih]
theorem Q27(l r:List (Nat×AObj)):keys (l++r)=keys l++keys r:=by simp[keys]
theorem Q8z(x:LAlt)(l:List LAlt):aO (x::l)=bO x.nb x.binds++aO l:=rfl
theorem Q90(l r:List LAlt):aO (l++r)=aO l++aO r:=by simp[aO]
theorem Qer:∀(l:List LAlt)(nm:Nm)(f:Int),keys (aO (rnAs nm f l).1)=keys (aO l)
 |[],_,_=>rfl
 |x::l,nm,f=>by simp only[rnAs,Q8z,Q27,Qer l];rw[Qdh x.nb _ x.binds]
theorem ren1_c{o:Int}{nb:Nb}{b:List Int}(h:o≠9->ownB nb b)(nm:Nm)(f:Int):bC nb (ren1 o nm f b).1=bC nb b:=by
 unfold ren1
 split
 ·rfl
 ·exact bC_fr (h (by assumption)) f
mutual
theorem rnL_id:∀(t:LTr)(nm:Nm)(f:Int),(rnL nm f t).1.id=t.id
 |.mk i o n nb b k a,nm,f=>rfl
theorem rnLs_c:∀(l:List LTr)(nm:Nm)(f:Int),kC (rnLs nm f l).1=kC l
 |[],_,_=>rfl
 |t::l,nm,f=>by
  have h1:=rnL_id t nm f
  have h2:=rnLs_c l (rnL nm f t).2.1 (rnL nm f t).2.2
  unfold kC at h2 ⊢
  simp only[rnLs,List.map_cons,h1,h2]
end
mutual
theorem rnL_k:∀(t:LTr)(nm:Nm)(f:Int),keys (objs (rnL nm f t).1)=keys (objs t)
 |.mk i o n nb b k a,nm,f=>by
  have h1:=Qi3 k (rnAs (ren1 o nm f b).2.1 (ren1 o nm f b).2.2 a).2.1 (rnAs (ren1 o nm f b).2.1 (ren1 o nm f b).2.2 a).2.2
  have h2:=Qer a (ren1 o nm f b).2.1 (ren1 o nm f b).2.2
  have h3:=Qdh nb (ren1 o nm f b).1 b
  simp only[keys]at h1 h2 h3
  simp only[rnL,objs,keys,List.map_cons,List.map_append,h1,h2,h3]
theorem Qi3:∀(l:List LTr)(nm:Nm)(f:Int),keys (objss (rnLs nm f l).1)=keys (objss l)
 |[],_,_=>rfl
 |t::l,nm,f=>by
  have h1:=rnL_k t nm f
  have h2:=Qi3 l (rnL nm f t).2.1 (rnL nm f t).2.2
  simp only[keys]at h1 h2
  simp only[rnLs,objss,keys,List.map_append,h1,h2]
end
def fnR (kn kf kw:Nat):AC:=.fn (.func 67) [] [.ptr (.o kn) 0,.ptr (.o kf) 0,.ptr (.o kw) 0]
def RenQ (ou:Outer)(kn km kf:Nat)(nm:Nm)(f:Int)(t:LTr)(r:FV)(ou':Outer):Prop:=
 r=.tup []/\∃ck' l',RnS ou' kn km kf (rnL nm f t).2.1 ck' l' (rnL nm f t).2.2/\Owns ou' (objs (rnL nm f t).1)/\OuOk ou'/\∀j,j≠km->j≠kf->j∉keys (objs t)->ou' j=ou j
def RenOk (Γ:List (Nat×List AC))(t:LTr):Prop:=∀(ou:Outer)(kn km kf kw:Nat)(nm:Nm)(ck:Nat)(l:List (Nat×Int×Int))(f:Int),RnS ou kn km kf nm ck l f->ou kw=some (.cells [fnR kn kf kw])->Owns ou (objs t)->(keys (objs t)).Nodup->
 (∀k∈keys (objs t),k≠kn/\k≠km/\k≠kf/\k≠kw)->0<=f->f+nbL t<=4611686018427387904->OuOk ou->
 AFn Tryd.prog Γ 67 [.one (.ptr (.o t.id) 0),.one (.ptr (.o kn) 0),.one (.ptr (.o kf) 0),.one (.ptr (.o kw) 0)] ou (RenQ ou kn km kf nm f t)
theorem Q7c(o n:Int)(nb:Nb)(b:List Int)(ks:List LTr)(a:List LAlt):(AObj.cells [int o,int n,bC nb b,.sl 1 (kC ks),.sl 2 (a.map lAlt)]).ids isO:=
 ⟨trivial,trivial,Qa2 _ (fun _=>trivial) _ _,Q8e _ (fun _=>trivial) _,Q8d _ (fun _=>trivial) _,trivial⟩
structure NdS (ou ov:Outer)(kn km kf kw i:Nat)(cs:List AC)(K:List Nat)(nm:Nm)(ck:Nat)(l:List (Nat×Int×Int))(f:Int)(Lb La Lk:List (Nat×AObj)):Prop where
 R:RnS ov kn km kf nm ck l f
 w:ov kw=some (.cells [fnR kn kf kw])
 i:ov i=some (.cells cs)
 b:Owns ov Lb
 a:Owns ov La
 k:Owns ov Lk
 ok:OuOk ov
 fr:∀j,j≠km->j≠kf->j∉K->ov j=ou j
theorem NdS.frame{ou ov ow:Outer}{kn km kf kw i:Nat}{cs:List AC}{K S:List Nat}{nm nm':Nm}{ck ck':Nat}{l l':List (Nat×Int×Int)}{f f':Int}{Lb La Lk Lb' La' Lk':List (Nat×AObj)}(h:NdS ou ov kn km kf kw i cs K nm ck l f Lb La Lk)
  (hR:RnS ow kn km kf nm' ck' l' f') (hok:OuOk ow) (hfr:∀j,j≠km->j≠kf->j∉S->ow j=ov j) (hS:∀j∈S,j∈K/\j≠i) (hK:∀k∈K,k≠kn/\k≠km/\k≠kf/\k≠kw) (hi:i∈K) (hw:kw≠km/\kw≠kf)
  (hb:Owns ow Lb') (ha:Owns ow La') (hk:Owns ow Lk'):NdS ou ow kn km kf kw i cs K nm' ck' l' f' Lb' La' Lk' where
 R:=hR
 w:=(hfr kw hw.1 hw.2 fun hj=>(hK kw (hS kw hj).1).2.2.2 rfl).trans h.w
 i:=(hfr i (hK i hi).2.1 (hK i hi).2.2.1 fun hj=>(hS i hj).2 rfl).trans h.i
 b:=hb
 a:=ha
 k:=hk
 ok:=hok
 fr:=fun j h1 h2 h3=>(hfr j h1 h2 fun hj=>h3 (hS j hj).1).trans (h.fr j h1 h2 h3)
theorem Q9m(hΓ:∀g cs,(g,cs)∈Γ->idsL isO cs):∀t:LTr,okL t->RenOk Γ t
 |.mk i o n nb b ks a,hok=>by
  obtain⟨hnb,hbl,hkl,hal,hax,hks⟩:=hok
  have ih:∀t∈ks,RenOk Γ t:=fun t ht=>Q9m hΓ t (Qax.1 hks t ht)
  intro ou kn km kf kw nm ck l f hR hw ho hnd hdis hf0 hf1 hou0
  have hni:=Qc8 ho
  have e0:objs (.mk i o n nb b ks a)=(i,.cells [int o,int n,bC nb b,.sl 1 (kC ks),.sl 2 (a.map lAlt)])::((bO nb b++aO a)++objss ks):=rfl
  obtain⟨K,hKe⟩:∃K,K=keys (objs (.mk i o n nb b ks a)):=⟨_,rfl⟩
  have hKm:∀j,j∈K↔j=i∨j∈keys (bO nb b)∨j∈keys (aO a)∨j∈keys (objss ks):=fun j=>by rw[hKe,e0];simp[keys]
  have hKi:i∈K:=(hKm i).2 (.inl rfl)
  rw[←hKe]at hnd hdis
  have hnd2:i∉keys (bO nb b)/\i∉keys (aO a)/\i∉keys (objss ks)/\(keys (bO nb b)).Nodup/\(keys (aO a)).Nodup/\(keys (objss ks)).Nodup/\(∀x∈keys (bO nb b),x∉keys (aO a)/\x∉keys (objss ks))/\∀x∈keys (aO a),x∉keys (objss ks):=by
   rw[hKe,e0]at hnd
   simp only[keys,List.map_cons,List.map_append,List.nodup_cons,List.nodup_append,List.mem_append,not_or]at hnd
   obtain⟨⟨⟨n1,n2⟩,n3⟩,⟨n4,n5,n6⟩,n7,n8⟩:=hnd
   exact⟨n1,n2,n3,n4,n5,n7,fun x hx=>⟨fun h=>n6 x hx x h rfl,fun h=>n8 x (.inl hx) x h rfl⟩,fun x hx h=>n8 x (.inr hx) x h rfl⟩
  obtain⟨nib,nia,nik,_,nda,ndk,nbx,nax⟩:=hnd2
  rw[e0]at ho
  have ho1:Owns ou ((bO nb b++aO a)++objss ks):=fun p hp=>ho p (by simp only[List.mem_cons];exact .inr hp)
  obtain⟨hob,hoa⟩:=Owns.app.1 (Owns.app.1 ho1).1
  have hokk:=(Owns.app.1 ho1).2
  simp only[LTr.id,lC]at hni ⊢
  obtain⟨d1,d2,d3⟩:=hR.ne
  have hik:=hdis i hKi
  have hww:kw≠km/\kw≠kf:=⟨fun e=>(by have:=hR.m;rw[←e,hw]at this;cases this),fun e=>(by have:=hR.f;rw[←e,hw]at this;cases this)⟩
  have h0:NdS ou ou kn km kf kw i [int o,int n,bC nb b,.sl 1 (kC ks),.sl 2 (a.map lAlt)] K nm ck l f (bO nb b) (aO a) (objss ks):=⟨hR,hw,hni,hob,hoa,hokk,hou0,fun _ _ _ _=>rfl⟩
  have hnbf:(if o=9 then 0 else b.length)+nbA a+nbLs ks=nbL (.mk i o n nb b ks a):=rfl
  obtain⟨n',hn'⟩:∃n':Int,n'=if o=0 then (nm n).getD n else n:=⟨_,rfl⟩
  refine AFn.walk 76 tabOk Tryd.func67 rfl (by kernel_rfl) rfl rfl fun hou=>?_
  refine zA ?_
  refine ACode.drawX tabOk 10 [(0,.one (.mp (.o km))),(4,.one (int n)),(5,.tup [.one (int ((nm n).getD 0)),.one (.lit (.bool (nm n).isSome))])] follows (by kernel_rfl) rfl rfl rfl rfl ?_ ?_
  ·refine .step rfl (zHP (zLD rfl rfl hR.n rfl)) (.step rfl (zHP (zLD rfl rfl hni rfl)) ?_)
   exact .step rfl (zHP (AStep.lookI eN (cm:=true) (v:=.one (int ((nm n).getD 0))) rfl Tryd.underlying98 Tryd.underlying3 rfl hR.m rfl (by kernel_rfl) zeroN hR.k (by cases nm n <;> rfl))) .nil
  refine zA ?_
  refine AOps.cutN 1 rfl hΓ (α:=Outer) (fun _=>[(0,.one (.ptr (.o i) 0)),(1,.one (.ptr (.o kn) 0)),(2,.one (.ptr (.o kf) 0)),(3,.one (.ptr (.o kw) 0))]) (fun ov=>⟨0,[],ov⟩)
   (fun ov => NdS ou ov kn km kf kw i [int o, int n', bC nb b, .sl 1 (kC ks), .sl 2 (a.map lAlt)] K nm ck l f (bO nb b) (aO a) (objss ks)) ?_ fun ov hov => ?_
  ·dsimp only [List.take_succ_cons,List.take_zero,List.cons_append,List.nil_append]
   refine AOps.splitG rfl rfl rfl (fun hb5=>?_) (fun hb5=>?_)
   ·obtain⟨v,hv⟩:=Option.isSome_iff_exists.1 hb5
    refine zM ?_
    refine zS (zLD rfl rfl hni rfl) ?_
    refine zM ?_
    refine ACode.cond rfl (fun hb6=>?_) (fun hb6=>?_)
    ·have h00:o=0:=by simpa using hb6
     have hnv:n'=v:=by rw[hn',if_pos h00,hv];rfl
     subst hnv
     rw[hv]
     refine zM ?_
     refine AOps.storeOwn tabOk rfl rfl rfl rfl rfl rfl rfl hni (by simp) ?_
     refine zM ?_
     refine cInv ⟨(St.set ⟨0,[],ou⟩ (.o i) (.cells [int o,int n',bC nb b,.sl 1 (kC ks),.sl 2 (a.map lAlt)])).ou,id,?_,LessR.of rfl zFS (by simp) .nil rfl rfl ?_⟩
     ·have hne:∀{j:Nat},j≠i->(St.set ⟨0,[],ou⟩ (.o i) (.cells [int o,int n',bC nb b,.sl 1 (kC ks),.sl 2 (a.map lAlt)])).ou j=ou j:=fun {j} hj=>Q1a hj
      refine⟨⟨(hne (Ne.symm hik.1)).trans hR.n,(hne (Ne.symm hik.2.1)).trans hR.m,hR.k,(hne (Ne.symm hik.2.2.1)).trans hR.f⟩,(hne (Ne.symm hik.2.2.2)).trans hw,Q3x,hob.frame fun j hj=>hne fun e=>nib (e▸hj),hoa.frame fun j hj=>hne fun e=>nia (e▸hj),hokk.frame fun j hj=>hne fun e=>nik (e▸hj),OuOk.set (σ:=⟨0,[],ou⟩) hou0 (Q7c _ _ _ _ _ _),fun j h1 h2 h3=>hne fun e=>h3 (e▸hKi)⟩
     ·exact OuOk.set (σ:=⟨0,[],ou⟩) hou0 (Q7c _ _ _ _ _ _)
    ·have h00:¬o=0:=by simpa using hb6
     have hnv:n'=n:=by rw[hn',if_neg h00]
     subst hnv
     refine zM ?_
     exact cInv ⟨ou,id,h0,LessR.of rfl zFS (by simp) .nil rfl rfl hou⟩
   ·have hv:nm n=none:=by simpa using hb5
    have hnv:n'=n:=by rw[hn',hv];simp
    subst hnv
    refine zM ?_
    exact cInv ⟨ou,id,h0,LessR.of rfl zFS (by simp) .nil rfl rfl hou⟩
  clear h0 hR hw hni hob hoa hokk
  have hok0:=hov.ok
  refine zA ?_
  refine zS (zLD rfl rfl hov.i rfl) ?_
  refine AOps.cutN 1 rfl hΓ (α:=Outer×Nat×List (Nat×Int×Int)) (fun _=>[(7,.one (.fn (.func 68) [] [.ptr (.o kf) 0,.ptr (.o kn) 0])),(0,.one (.ptr (.o i) 0)),(1,.one (.ptr (.o kn) 0)),(2,.one (.ptr (.o kf) 0)),(3,.one (.ptr (.o kw) 0))]) (fun c=>⟨0,[],c.1⟩)
   (fun c => NdS ou c.1 kn km kf kw i [int o, int n', bC nb b, .sl 1 (kC ks), .sl 2 (a.map lAlt)] K (ren1 o nm f b).2.1 c.2.1 c.2.2 (ren1 o nm f b).2.2 (bO nb (ren1 o nm f b).1) (aO a) (objss ks)) ?_ fun c hov2 => ?_
  ·dsimp only [List.take_succ_cons,List.take_zero,List.cons_append,List.nil_append]
   refine zM ?_
   refine ACode.cond rfl (fun hb6=>?_) (fun hb6=>?_)
   ·have h9:o≠9:=by simpa using hb6
    have hr1:ren1 o nm f b=(frB f b,frN nm f b,f+b.length):=by unfold ren1;rw[if_neg h9]
    rw[hr1]
    rw[if_neg h9]at hnbf
    refine zM ?_
    refine zS (zLD rfl rfl hov.i rfl) ?_
    refine AOps.call1 hΓ rfl rfl rfl rfl rfl rfl rfl (by exact⟨Qa2 _ (fun _=>trivial) _ _,trivial,trivial,trivial⟩) hok0
     (Qfr hΓ nb b (hnb h9) hbl ov kn km kf nm _ _ f hov.R hov.b (fun k hk=>⟨(hdis k ((hKm k).2 (.inr (.inl hk)))).1,(hdis k ((hKm k).2 (.inr (.inl hk)))).2.1,(hdis k ((hKm k).2 (.inr (.inl hk)))).2.2.1⟩) hf0 (by omega) hok0) fun r ow hq hids how=>?_
    obtain⟨rfl,ck',l',hR',hO',hok',hfr'⟩:=hq
    refine zM ?_
    refine cInv ⟨(ow,ck',l'),id,?_,LessR.of rfl zFS (by simp) .nil rfl rfl hok'⟩
    refine hov.frame (S:=keys (bO nb b)) hR' hok' hfr' (fun j hj=>⟨(hKm j).2 (.inr (.inl hj)),fun e=>nib (e▸hj)⟩) hdis hKi hww hO' (hov.a.frame fun j hj=>?_) (hov.k.frame fun j hj=>?_)
    ·have hj':=hdis j ((hKm j).2 (.inr (.inr (.inl hj))))
     exact hfr' j hj'.2.1 hj'.2.2.1 fun h=>(nbx j h).1 hj
    ·have hj':=hdis j ((hKm j).2 (.inr (.inr (.inr hj))))
     exact hfr' j hj'.2.1 hj'.2.2.1 fun h=>(nbx j h).2 hj
   ·have h9:o=9:=by simpa using hb6
    have hr1:ren1 o nm f b=(b,nm,f):=by unfold ren1;rw[if_pos h9]
    rw[hr1]
    refine zM ?_
    exact cInv ⟨(ov,ck,l),id,hov,LessR.of rfl zFS (by simp) .nil rfl rfl hok0⟩
  clear hov hok0
  obtain⟨ov,ck,l⟩:=c
  have hov:=hov2
  clear hov2
  dsimp only at hov
  have hok0:=hov.ok
  have hf1':=Qc5 o nm f b
  have hkb:keys (bO nb (ren1 o nm f b).1)=keys (bO nb b):=Qdh nb _ _
  generalize hs1:ren1 o nm f b=s1 at hov hf1' hkb
  obtain⟨b1,nm1,f1⟩:=s1
  dsimp only at hov hf1' hkb
  refine zA ?_
  refine zS (zLD rfl rfl hov.i rfl) ?_
  refine zA ?_
  refine ACode.loopR hΓ (α:=Nat×Outer×Nat×List (Nat×Int×Int)) (fun c=>[(49,.one (int c.1)),(48,.one (int (a.map lAlt).length)),(7,.one (.fn (.func 68) [] [.ptr (.o kf) 0,.ptr (.o kn) 0])),(0,.one (.ptr (.o i) 0)),(1,.one (.ptr (.o kn) 0)),(2,.one (.ptr (.o kf) 0)),(3,.one (.ptr (.o kw) 0))])
   (fun c=>⟨0,[],c.2.1⟩) (fun m c=>c.1<=a.length/\NdS ou c.2.1 kn km kf kw i [int o,int n',bC nb b,.sl 1 (kC ks),.sl 2 (a.map lAlt)] K (rnAs nm1 f1 (a.take c.1)).2.1 c.2.2.1 c.2.2.2 (rnAs nm1 f1 (a.take c.1)).2.2 (bO nb b1) (aO ((rnAs nm1 f1 (a.take c.1)).1++a.drop c.1)) (objss ks)/\m=a.length - c.1)
   (a0:=(0,ov,ck,l)) (ρ:=id) ⟨by omega,by simpa[rnAs]using hov,rfl⟩ (LessR.of rfl zFS (by simp) .nil rfl rfl hok0) fun m c hc=>?_
  clear hov hok0
  obtain⟨j,ov,ck,l⟩:=c
  obtain⟨hjl,hov,rfl⟩:=hc
  dsimp only at hjl hov
  have hok0:=hov.ok
  refine zA ?_
  refine ACode.cond rfl (fun hb2=>?_) (fun hb2=>?_)
  ·have hlt:j < a.length:=by simpa using hb2
   obtain⟨x,hx⟩:=Q00 hlt
   have hxm:=List.mem_of_getElem? hx
   obtain⟨hxo,hxl⟩:=hax x hxm
   have hsn:=Qc3 x (a.take j) nm1 f1
   rw[←Q0o hx]at hsn
   have hfa:=Qes (a.take j) nm1 f1
   have hdr:a.drop j=x::a.drop (j+1):=by
    obtain⟨q1,q2⟩:=List.getElem?_eq_some_iff.1 hx
    rw[List.drop_eq_getElem_cons q1,q2]
   have hcnt:nbA (a.take j)+x.binds.length<=nbA a:=by
    have h1:=Qit (a.take (j+1)) (a.drop (j+1))
    rw[List.take_append_drop,Q0o hx,Qit]at h1
    simp[nbA]at h1 ⊢;omega
   have hka:=Qer (a.take j) nm1 f1
   have hxk:∀k∈keys (bO x.nb x.binds),k∈keys (aO a):=fun k hk=>by
    rw[←List.take_append_drop j a,hdr,Q90,Q27,Q8z,Q27]
    simp[hk]
   have hxd:∀k∈keys (bO x.nb x.binds),k∉keys (aO (a.take j))/\k∉keys (aO (a.drop (j+1))):=fun k hk=>by
    have h1:=nda
    rw[←List.take_append_drop j a,hdr,Q90,Q27,Q8z,Q27,List.nodup_append,List.nodup_append]at h1
    exact⟨fun h=>h1.2.2 k h k (List.mem_append.2 (.inl hk)) rfl,fun h=>h1.2.1.2.2 k hk k h rfl⟩
   rw[hdr]at hov
   generalize rnAs nm1 f1 (a.take j)=sj at hov hsn hfa hka
   obtain⟨aj,nmj,fj⟩:=sj
   dsimp only at hov hsn hfa hka
   rw[Q90,Q8z]at hov
   obtain⟨hoa1,hoa2⟩:=Owns.app.1 hov.a
   obtain⟨hoa3,hoa4⟩:=Owns.app.1 hoa2
   have hxK:∀k∈keys (bO x.nb x.binds),k∈K:=fun k hk=>(hKm k).2 (.inr (.inr (.inl (hxk k hk))))
   refine zA ?_
   refine zS (zLD rfl rfl hov.i rfl) ?_
   refine zA ?_
   refine zS (zIA rfl rfl rfl (by omega) (Q0c (f:=lAlt) hx)) ?_
   refine zA ?_
   refine AOps.call1 hΓ rfl rfl rfl rfl rfl rfl rfl (by exact⟨Qa2 _ (fun _=>trivial) _ _,trivial,trivial,trivial⟩) hok0
    (Qfr hΓ x.nb x.binds hxo hxl ov kn km kf nmj _ _ fj hov.R hoa3 (fun k hk=>⟨(hdis k (hxK k hk)).1,(hdis k (hxK k hk)).2.1,(hdis k (hxK k hk)).2.2.1⟩) (by omega) (by omega) hok0) fun r ow hq hids how=>?_
   obtain⟨rfl,ck',l',hR',hO',hok',hfr'⟩:=hq
   refine zM ?_
   refine cInv ⟨a.length - (j+1),(j+1,ow,ck',l'),id,by omega,⟨by omega,?_,rfl⟩,LessR.of rfl zFS (by simp) .nil rfl rfl hok'⟩
   dsimp only
   rw[hsn]
   dsimp only
   have hkq:∀q∈keys (aO a),q∉keys (bO x.nb x.binds)->ow q=ov q:=fun q hq hn=>by
    have hq':=hdis q ((hKm q).2 (.inr (.inr (.inl hq))))
    exact hfr' q hq'.2.1 hq'.2.2.1 hn
   refine hov.frame (S:=keys (bO x.nb x.binds)) hR' hok' hfr' (fun q hq=>⟨hxK q hq,fun e=>nia (e▸hxk q hq)⟩) hdis hKi hww (hov.b.frame fun q hq=>?_) ?_ (hov.k.frame fun q hq=>?_)
   ·rw[hkb]at hq
    have hq':=hdis q ((hKm q).2 (.inr (.inl hq)))
    exact hfr' q hq'.2.1 hq'.2.2.1 fun h=>(nbx q hq).1 (hxk q h)
   ·rw[List.append_assoc,Q90]
    refine Owns.app.2 ⟨hoa1.frame fun q hq=>?_,?_⟩
    ·rw[hka]at hq
     refine hkq q ?_ fun h=>(hxd q h).1 hq
     rw[←List.take_append_drop j a,Q90,Q27]
     exact List.mem_append.2 (.inl hq)
    ·rw[List.cons_append,List.nil_append,Q8z]
     refine Owns.app.2 ⟨hO',hoa4.frame fun q hq=>?_⟩
     refine hkq q ?_ fun h=>(hxd q h).2 hq
     rw[←List.take_append_drop (j+1) a,Q90,Q27]
     exact List.mem_append.2 (.inr hq)
   ·have hq':=hdis q ((hKm q).2 (.inr (.inr (.inr hq))))
    exact hfr' q hq'.2.1 hq'.2.2.1 fun h=>nax q (hxk q h) hq
  have hlt:j=a.length:=by simp at hb2;omega
  subst hlt
  rw[List.take_length,List.drop_length,List.append_nil]at hov
  have hfa:=Qes a nm1 f1
  have hka:=Qer a nm1 f1
  generalize hs2:rnAs nm1 f1 a=s2 at hov hfa hka
  obtain⟨a2,nm2,f2⟩:=s2
  dsimp only at hov hfa hka
  refine zA ?_
  refine zS (zLD rfl rfl hov.i rfl) ?_
  refine zA ?_
  refine ACode.loopR hΓ (α:=Nat×Outer×Nat×List (Nat×Int×Int)) (fun c=>[(68,.one (int c.1)),(67,.one (int (kC ks).length)),(66,.one (.sl 1 (kC ks))),(3,.one (.ptr (.o kw) 0))])
   (fun c=>⟨0,[],c.2.1⟩) (fun m c=>c.1<=ks.length/\NdS ou c.2.1 kn km kf kw i [int o,int n',bC nb b,.sl 1 (kC ks),.sl 2 (a.map lAlt)] K (rnLs nm2 f2 (ks.take c.1)).2.1 c.2.2.1 c.2.2.2 (rnLs nm2 f2 (ks.take c.1)).2.2 (bO nb b1) (aO a2) (objss ((rnLs nm2 f2 (ks.take c.1)).1++ks.drop c.1))/\m=ks.length - c.1)
   (a0:=(0,ov,ck,l)) (ρ:=id) ⟨by omega,by simpa[rnLs]using hov,rfl⟩ (LessR.of rfl ?_ ?_ .nil rfl rfl hok0) fun m c hc=>?_
  ·refine FrSub.cons rfl (.ofEq rfl) (FrSub.cons rfl (.ofEq rfl) (FrSub.consP rfl (.ofEq rfl) (Q8e _ (fun _=>trivial) _) (FrSub.cons rfl (.ofEq rfl) .nil)))
  ·simp;exact Q8e (inL 0) (fun _=>trivial) _
  clear hov hok0
  obtain⟨j,ov,ck,l⟩:=c
  obtain⟨hjl,hov,rfl⟩:=hc
  dsimp only at hjl hov
  have hok0:=hov.ok
  refine zA ?_
  refine ACode.cond rfl (fun hb2=>?_) (fun hb2=>?_)
  ·have hlt:j < ks.length:=by simpa[kC]using hb2
   obtain⟨t,ht⟩:=Q00 hlt
   have htm:=List.mem_of_getElem? ht
   have hsn:=Qc2 t (ks.take j) nm2 f2
   rw[←Q0o ht]at hsn
   have hfk:=Qi4 (ks.take j) nm2 f2
   have hdr:ks.drop j=t::ks.drop (j+1):=by
    obtain⟨q1,q2⟩:=List.getElem?_eq_some_iff.1 ht
    rw[List.drop_eq_getElem_cons q1,q2]
   have hcnt:nbLs (ks.take j)+nbL t<=nbLs ks:=by
    have h1:=Qb2 (ks.take (j+1)) (ks.drop (j+1))
    rw[List.take_append_drop,Q0o ht,Qb2]at h1
    simp[nbLs]at h1 ⊢;omega
   have hkk:=Qi3 (ks.take j) nm2 f2
   have hspl:keys (objss ks)=keys (objss (ks.take j))++(keys (objs t)++keys (objss (ks.drop (j+1)))):=by
    conv=>lhs;rw[←List.take_append_drop j ks,hdr,Q80,Q27,show objss (t::ks.drop (j+1))=objs t++objss (ks.drop (j+1))from rfl,Q27]
   have htk:∀k∈keys (objs t),k∈keys (objss ks):=fun k hk=>by rw[hspl];simp[hk]
   have htd:(keys (objs t)).Nodup/\∀k∈keys (objs t),k∉keys (objss (ks.take j))/\k∉keys (objss (ks.drop (j+1))):=by
    have h1:=ndk
    rw[hspl,List.nodup_append,List.nodup_append]at h1
    exact⟨h1.2.1.1,fun k hk=>⟨fun h=>h1.2.2 k h k (List.mem_append.2 (.inl hk)) rfl,fun h=>h1.2.1.2.2 k hk k h rfl⟩⟩
   rw[hdr]at hov
   generalize rnLs nm2 f2 (ks.take j)=sj at hov hsn hfk hkk
   obtain⟨kj,nmj,fj⟩:=sj
   dsimp only at hov hsn hfk hkk
   rw[Q80,show objss (t::ks.drop (j+1))=objs t++objss (ks.drop (j+1))from rfl]at hov
   obtain⟨hoa1,hoa2⟩:=Owns.app.1 hov.k
   obtain⟨hoa3,hoa4⟩:=Owns.app.1 hoa2
   have htK:∀k∈keys (objs t),k∈K:=fun k hk=>(hKm k).2 (.inr (.inr (.inr (htk k hk))))
   refine zA ?_
   refine zS (zIA rfl rfl rfl (by omega) (Q0c (f:=fun t:LTr=>[AC.ptr (.o t.id) 0]) ht)) ?_
   refine zA ?_
   refine zS (zLD rfl rfl hov.w rfl) ?_
   refine zA ?_
   refine AOps.call1 hΓ rfl rfl rfl rfl rfl rfl rfl (by exact⟨trivial,trivial,trivial,trivial,trivial⟩) hok0
    (ih t htm ov kn km kf kw nmj _ _ fj hov.R hov.w hoa3 htd.1 (fun k hk => hdis k (htK k hk)) (by omega) (by omega) hok0) fun r ow hq hids how => ?_
   obtain⟨rfl,ck',l',hR',hO',hok',hfr'⟩:=hq
   refine zM ?_
   refine cInv ⟨ks.length - (j+1),(j+1,ow,ck',l'),id,by omega,⟨by omega,?_,rfl⟩,LessR.of rfl ?_ ?_ .nil rfl rfl hok'⟩
   ·dsimp only
    rw[hsn]
    dsimp only
    have hkq:∀q∈keys (objss ks),q∉keys (objs t)->ow q=ov q:=fun q hq hn=>by
     have hq':=hdis q ((hKm q).2 (.inr (.inr (.inr hq))))
     exact hfr' q hq'.2.1 hq'.2.2.1 hn
    refine hov.frame (S:=keys (objs t)) hR' hok' hfr' (fun q hq=>⟨htK q hq,fun e=>nik (e▸htk q hq)⟩) hdis hKi hww (hov.b.frame fun q hq=>?_) (hov.a.frame fun q hq=>?_) ?_
    ·rw[hkb]at hq
     have hq':=hdis q ((hKm q).2 (.inr (.inl hq)))
     exact hfr' q hq'.2.1 hq'.2.2.1 fun h=>(nbx q hq).2 (htk q h)
    ·rw[hka]at hq
     have hq':=hdis q ((hKm q).2 (.inr (.inr (.inl hq))))
     exact hfr' q hq'.2.1 hq'.2.2.1 fun h=>nax q hq (htk q h)
    ·rw[List.append_assoc,Q80]
     refine Owns.app.2 ⟨hoa1.frame fun q hq=>?_,?_⟩
     ·rw[hkk]at hq
      exact hkq q (by rw[hspl];exact List.mem_append.2 (.inl hq)) fun h=>(htd.2 q h).1 hq
     ·rw[List.cons_append,List.nil_append,show objss ((rnL nmj fj t).1::ks.drop (j+1))=objs (rnL nmj fj t).1++objss (ks.drop (j+1))from rfl]
      refine Owns.app.2 ⟨hO',hoa4.frame fun q hq=>?_⟩
      exact hkq q (by rw[hspl];exact List.mem_append.2 (.inr (List.mem_append.2 (.inr hq)))) fun h=>(htd.2 q h).2 hq
   ·refine FrSub.cons rfl (.ofEq rfl) (FrSub.cons rfl (.ofEq rfl) (FrSub.consP rfl (.ofEq rfl) (Q8e _ (fun _=>trivial) _) (FrSub.cons rfl (.ofEq rfl) .nil)))
   ·simp;exact Q8e (inL 0) (fun _=>trivial) _
  have hlt:j=ks.length:=by simp[kC]at hb2;omega
  subst hlt
  rw[List.take_length,List.drop_length,List.append_nil]at hov
  refine zA ?_
  refine AFn.fin' rfl (WkF.refl _) (by simp) hok0 ⟨rfl,ck,l,?_,?_,hok0,fun q h1 h2 h3=>hov.fr q h1 h2 (by rw[hKe];exact h3)⟩
  ·have:=hov.R
   simp only[rnL,hs1,hs2]
   exact this
  ·have e1:(rnL nm f (.mk i o n nb b ks a)).1=.mk i o n' nb b1 (rnLs nm2 f2 ks).1 a2:=by simp only[rnL,hs1,hs2,hn']
   rw[e1]
   have hc1:bC nb b1=bC nb b:=by have:=ren1_c hnb nm f;rw[hs1]at this;exact this
   have hc2:a2.map lAlt=a.map lAlt:=by have:=rnAs_c (l:=a) (nm:=nm1) (f:=f1) fun x hx=>(hax x hx).1;rw[hs2]at this;exact this
   intro p hp
   simp only[objs,hc1,hc2,rnLs_c,List.cons_append,List.mem_cons]at hp
   rcases hp with rfl|hp
   ·exact hov.i
   ·exact Owns.app.2 ⟨Owns.app.2 ⟨hov.b,hov.a⟩,hov.k⟩ p hp
abbrev nm0:Nm:=fun _=>none
theorem Q4v{ou:Outer}{k:Nat}{os:List AObj}(h:OuOk ou)(ho:∀o∈os,o.ids isO):OuOk (ouAdd ou k os):=by
 intro m o hm
 rcases Nat.lt_or_ge m k with h1|h1
 ·rw[Q1b h1]at hm;exact h m o hm
 ·obtain⟨p,rfl⟩:∃p,m=k+p:=⟨m - k,by omega⟩
  rw[Q0q]at hm
  exact ho o (List.mem_of_getElem? hm)
def ouCut (ou:Outer)(k:Nat):Outer:=fun m=>if m < k then ou m else none
theorem Q6b{ou:Outer}{k m:Nat}{o:AObj}(h:ouCut ou k m=some o):ou m=some o:=by
 unfold ouCut at h
 split at h
 ·exact h
 ·cases h
def RenameQ (ou:Outer)(t:LTr)(f:Int)(r:FV)(ou':Outer):Prop:=
 r=.one (int (rnL nm0 f t).2.2)/\Owns ou' (objs (rnL nm0 f t).1)/\OuOk ou'/\∀j,j∉keys (objs t)->ou' j=ou j
theorem Qk0(hΓ:∀g cs,(g,cs)∈Γ->idsL isO cs)(t:LTr)(hok:okL t)(ou:Outer)(ho:Owns ou (objs t))(hnd:(keys (objs t)).Nodup)(f:Int)(hf0:0<=f)(hf1:f+nbL t<=4611686018427387904)(hou0:OuOk ou):
  AFn Tryd.prog Γ 36 [.one (.ptr (.o t.id) 0),.one (int f)] ou (RenameQ ou t f):=by
 refine AFn.walk 13 tabOk Tryd.func36 rfl (by kernel_rfl) rfl rfl fun hou=>?_
 refine zA ?_
 refine zS (AStep.makeMap rfl) ?_
 refine zA ?_
 refine AOps.cedes [2,1,0,3] rfl (by decide) hou fun k hk=>⟨[(9,.one (fnR k (k+2) (k+3))),(10,.one (.ptr (.o t.id) 0)),(3,.one (.ptr (.o (k+2)) 0))],[],[.cells [.mp (.o (k+1))],.map 0 (encI eN []),.cells [int f],.cells [fnR k (k+2) (k+3)]],?_,.nil,?_,?_⟩
 ·exact .cons rfl rfl (.cons rfl rfl (.cons rfl rfl .nil))
 ·exact .cons rfl rfl (.cons rfl rfl (.cons rfl rfl (.cons rfl rfl .nil)))
 have hk':∀m,k<=m->ou m=none:=hk
 have hkl:∀j∈keys (objs t),j < k:=fun j hj=>by
  obtain⟨p,hp,rfl⟩:=List.mem_map.1 hj
  exact Q4w hk' (ho p hp)
 obtain⟨o1',ho1'⟩:∃o1':Outer,o1'=ouAdd ou k [.cells [.mp (.o (k+1))],.map 0 (encI eN []),.cells [int f],.cells [fnR k (k+2) (k+3)]]:=⟨_,rfl⟩
 have g0:o1' k=some (.cells [.mp (.o (k+1))]):=by rw[ho1'];exact Q0q 0
 have g1:o1' (k+1)=some (.map 0 (encI eN [])):=by rw[ho1'];exact Q0q 1
 have g2:o1' (k+2)=some (.cells [int f]):=by rw[ho1'];exact Q0q 2
 have g3:o1' (k+3)=some (.cells [fnR k (k+2) (k+3)]):=by rw[ho1'];exact Q0q 3
 have g4:∀j,j < k->o1' j=ou j:=fun j hj=>by rw[ho1'];exact Q1b hj
 have g5:OuOk o1':=by
  rw[ho1']
  refine Q4v hou0 fun o ho=>?_
  simp only[List.mem_cons,List.not_mem_nil,or_false]at ho
  rcases ho with rfl|rfl|rfl|rfl
  ·simp
  ·exact Q5s _ _ _
  ·simp
  ·simp[fnR]
 have hcall:=Q9m hΓ t hok o1' k (k+1) (k+2) (k+3) nm0 0 [] f ⟨g0,g1,IMOk.nil,g2⟩ g3 (ho.frame fun j hj=>g4 j (hkl j hj)) hnd (fun j hj=>by have:=hkl j hj;omega) hf0 hf1 g5
 show AOps _ _ _ _ _ ⟨4,[],ouAdd ou k [.cells [.mp (.o (k+1))],.map 0 (encI eN []),.cells [int f],.cells [fnR k (k+2) (k+3)]]⟩
 rw[←ho1']
 refine AOps.call1 hΓ rfl rfl rfl rfl rfl rfl rfl (by exact⟨trivial,trivial,trivial,trivial,trivial⟩) g5 hcall fun r ow hq hids how=>?_
 obtain⟨rfl,ck',l',hR',hO',hok',hfr'⟩:=hq
 refine zA ?_
 refine zS (zLD rfl rfl hR'.f rfl) ?_
 refine AOps.lessO ⟨4,[],ouCut ow k⟩ rfl (fun i o hi=>?_) ?_
 ·cases i with
  |l m=>cases hi
  |o m=>exact Q6b hi
 refine zA ?_
 refine AFn.fin' rfl (WkF.ofEq rfl) (by simp) (fun j o h=>hok' j o (Q6b h)) ⟨rfl,fun p hp=>?_,fun j o h=>hok' j o (Q6b h),fun j hj=>?_⟩
 ·have hpk:p.1∈keys (objs t):=by rw[←rnL_k t nm0 f];exact List.mem_map_of_mem hp
  show ouCut ow k p.1=some p.2
  unfold ouCut
  rw[if_pos (hkl _ hpk)]
  exact hO' p hp
 ·show ouCut ow k j=ou j
  unfold ouCut
  by_cases e:j < k
  ·rw[if_pos e,hfr' j (by omega) (by omega) hj,g4 j e]
  ·rw[if_neg e,hk' j (by omega)]
theorem Wk.arr0(i:Abs.Id)(s cap:Nat):Wk (.arr i s 0 0 cap) (.sl s []):=by
 intro w C v h
 simp only[R]at h ⊢
 obtain⟨_,rfl,hc⟩:=h
 exact⟨_,cap,rfl,by simp,.inl trivial⟩
structure NewO (ou ou':Outer)(L:List (Nat×AObj)):Prop where
 own:Owns ou' L
 new:∀k∈keys L,ou k=none
 old:∀m,m∉keys L->ou' m=ou m
 ok:OuOk ou'
 nd:(keys L).Nodup
theorem NewO.nil{ou:Outer}(h:OuOk ou):NewO ou ou []:=⟨fun p hp=>by simp at hp,fun k hk=>by simp[keys]at hk,fun _ _=>rfl,h,by simp[keys]⟩
theorem NewO.trans{ou ou1 ou2:Outer}{L M:List (Nat×AObj)}(h:NewO ou ou1 L)(k:NewO ou1 ou2 M):NewO ou ou2 (L++M):=by
 have hLM:∀j∈keys L,j∉keys M:=fun j hj hm=>by
  have h1:=k.new j hm
  obtain⟨p,hp,rfl⟩:=List.mem_map.1 hj
  rw[h.own p hp]at h1
  cases h1
 refine⟨Owns.app.2 ⟨h.own.frame fun j hj=>k.old j (hLM j hj),k.own⟩,fun j hj=>?_,fun m hm=>?_,k.ok,?_⟩
 ·rw[Q27,List.mem_append]at hj
  by_cases e:j∈keys L
  ·exact h.new j e
  ·rw[←h.old j e]
   exact k.new j (hj.resolve_left e)
 ·rw[Q27,List.mem_append,not_or]at hm
  rw[k.old m hm.2,h.old m hm.1]
 ·rw[Q27,List.nodup_append]
  exact⟨h.nd,k.nd,fun a ha b hb e=>hLM a ha (e▸hb)⟩
theorem NewO.frame{ou ou':Outer}{L M:List (Nat×AObj)}(h:NewO ou ou' L)(ho:Owns ou M):Owns ou' M:=ho.frame fun j hj=>h.old j fun hm=>by
 obtain⟨p,hp,rfl⟩:=List.mem_map.1 hj
 have:=h.new _ hm
 rw[ho p hp]at this
 cases this
def CloneQ (ou:Outer)(l:List Int)(r:FV)(ou':Outer):Prop:=∃nb,ownB nb l/\r=.one (bC nb l)/\NewO ou ou' (bO nb l)
theorem Qd3(l:List Int)(hl:l.length<=1048576)(ou:Outer):AFn Tryd.prog Γ 66 [.one (.sl 1 (l.map cI))] ou (CloneQ ou l):=by
 refine AFn.walk 8 tabOk Tryd.func66 rfl (by kernel_rfl) rfl rfl fun hou=>?_
 refine zA ?_
 refine AOps.nilTest rfl rfl rfl rfl Tryd.underlying30 rfl rfl fun b hb=>?_
 refine zA ?_
 refine ACode.cond rfl (fun hb2=>?_) (fun hb2=>?_)
 ·have h0:l=[]:=by simpa using hb hb2
  subst h0
  refine zA ?_
  exact AFn.fin' rfl (.one (.nilS 1)) (by simp) hou ⟨none,fun _=>rfl,rfl,.nil hou⟩
 ·clear hb
  refine zA ?_
  refine zS (AStep.buildOwn0 (s:=1) tabOk rfl rfl rfl rfl rfl) ?_
  refine zA ?_
  by_cases h0:l=[]
  ·subst h0
   refine zS (AStep.appNone tabOk rfl rfl rfl rfl rfl rfl) ?_
   refine zA ?_
   exact AFn.fin' rfl (.one (Wk.arr0 _ _ _)) (by simp) hou ⟨none,fun _=>rfl,rfl,.nil hou⟩
  ·refine AOps.appOwn tabOk rfl rfl rfl rfl rfl rfl rfl rfl rfl (.own 1 0 [] (.l 0) rfl (by simp) (by simp)) (.sl 1 (l.map cI)) (by simpa using h0) rfl (by simp;show _ * 8<=_;omega) (by simp;omega) fun cap hc=>?_
   simp only[List.nil_append]at hc ⊢
   refine AOps.cedes [1] rfl (by decide) hou fun k hk=>⟨[(7,.one (.arr (.o k) 1 0 (l.map cI).length cap))],[],[.cells (vec 1 (l.map cI) cap)],.cons rfl rfl .nil,.nil,.cons rfl ?_ .nil,?_⟩
   ·exact AObj.sub_f (fun i hi=>by cases i with|l q=>exact hi.elim|o q=>rfl) _ (show idsL isO (vec 1 (l.map cI) cap)from Q7b _ _ _)
   have hk':∀m,k<=m->ou m=none:=hk
   have hok:OuOk (ouAdd ou k [.cells (vec 1 (l.map cI) cap)]):=Q4v hou fun o ho=>by simp at ho;subst ho;exact Q7b _ _ _
   refine zA ?_
   refine AFn.fin' rfl (WkF.ofEq rfl) (by simp) hok ⟨some (k,cap),(fun h=>by cases h),rfl,fun p hp=>?_,fun j hj=>?_,fun m hm=>?_,hok,by simp[bO,keys]⟩
   ·simp[bO]at hp;subst hp
    exact Q0q 0
   ·simp[bO,keys]at hj;subst hj;exact hk' _ (Nat.le_refl _)
   ·simp[bO,keys]at hm
    show ouAdd ou k [.cells (vec 1 (l.map cI) cap)] m=ou m
    rcases Nat.lt_or_ge m k with h1|h1
    ·exact Q1b h1
    ·obtain⟨p,rfl⟩:∃p,m=k+p:=⟨m - k,by omega⟩
     rw[Q0q,hk' _ h1]
     cases p with
     |zero=>simp at hm
     |succ p=>simp
end Go.Proofs.YthboaankaaeemaaDoor
namespace Go.CoreX
theorem Qfz:∀{e f:List Ex},e.map (·.kids)=f.map (·.kids)->∀i,cnt e i=cnt f i
 |[],[],_,_=>rfl
 |[],_::_,h,_=>by simp at h
 |_::_,[],h,_=>by simp at h
 |x::e,y::f,h,i=>by
  simp only[List.map_cons,List.cons.injEq]at h
  simp only[cnt,h.1,Qfz h.2 i]
def ixE (e:List Ex):List Ex:=e.mapIdx fun i x=>{ x with n:=(i:Nat) }
theorem Q89{e:List Ex}{i:Nat}:(ixE e)[i]?=(e[i]?).map fun x=>{ x with n:=(i:Nat) }:=by simp[ixE]
theorem Qlj(e:List Ex):(ixE e).map (·.kids)=e.map (·.kids):=by
 apply List.ext_getElem?
 intro i
 simp only[List.getElem?_map,Q89]
 cases e[i]? <;> rfl
theorem Qb8(e:List Ex):(ixE e).length=e.length:=by simp[ixE]
theorem Qli{e:List Ex}(h:IsTree e):IsTree (ixE e):=by
 refine⟨fun e0=>h.ne (by have:=Qb8 e;rw[e0]at this;exact List.length_eq_zero_iff.1 (by simpa using this.symm)),fun j x hx=>?_,fun i hi=>?_⟩
 ·rw[Q89]at hx
  cases he:e[j]? with
  |none=>rw[he]at hx;cases hx
  |some y=>
   rw[he]at hx
   simp at hx;subst hx
   exact h.k j y he
 ·rw[Qfz (Qlj e),Qb8]
  exact h.c i (by rw[Qb8]at hi;exact hi)
theorem labs_n(e:List Ex):(labs e).map (·.n)=e.map (·.n):=by simp[labs,labE]
theorem ixE_n(e:List Ex):(ixE e).map (·.n)=(List.range e.length).map fun i:Nat=>(i:Int):=by
 apply List.ext_getElem?
 intro i
 simp only[List.getElem?_map,Q89]
 by_cases h:i < e.length
 ·simp[h]
 ·simp[h]
end Go.CoreX
namespace Go.Proofs.YthboaankaaeemaaDoor
open Go Go.Abs Go.CoreX
def ownO:LTr->List (Nat×AObj)
 |.mk i o n nb b k a=>(bO nb b++aO a)++[(i,.cells [int o,int n,bC nb b,.sl 1 (kC k),.sl 2 (a.map lAlt)])]
theorem Qku:∀(t:LTr)(p:Nat×AObj),p∈objs t↔p∈ownO t∨p∈objss t.kids
 |.mk i o n nb b k a,p=>by
  simp only[objs,ownO,LTr.kids,List.cons_append,List.mem_cons,List.mem_append,List.not_mem_nil,or_false]
  constructor
  ·rintro (h|(h|h)|h) <;> simp[h]
  ·rintro (((h|h)|h)|h) <;> simp[h]
theorem Qgc(k:Nat):∀t:LTr,(keys (objs t)).count k=(keys (ownO t)).count k+(keys (objss t.kids)).count k
 |.mk i o n nb b ks a=>by
  simp only[objs,ownO,LTr.kids,keys,List.map_cons,List.map_append,List.cons_append,List.count_cons,List.count_append,List.map_nil,List.count_nil]
  omega
structure LinkL (e:List Ex)(lts:List LTr)(B:Nb->List Int->Prop:=ownB):Prop where
 len:lts.length=e.length
 at_:∀(i:Nat) (x:Ex),e[i]?=some x->∃id nb a,lts[i]?=some (.mk id x.op x.n nb x.binds (x.kids.map fun q=>lts.getD q.toNat default) a)/\a.map LAlt.er=x.alts/\B nb x.binds/\∀y∈a,B y.nb y.binds
theorem LinkL.nil{B:Nb->List Int->Prop}:LinkL [] [] B:=⟨rfl,fun i x h=>by simp at h⟩
theorem LinkL.snoc{B:Nb->List Int->Prop}{e:List Ex}{lts:List LTr}(h:LinkL e lts B)(hk:Q0v e){x:Ex}(hx:∀q∈x.kids,0<=q/\q < (e.length:Int)){id:Nat}{nb:Nb}{a:List LAlt}(ha:a.map LAlt.er=x.alts)(hb:B nb x.binds)(hab:∀y∈a,B y.nb y.binds):
  LinkL (e++[x]) (lts++[.mk id x.op x.n nb x.binds (x.kids.map fun q=>lts.getD q.toNat default) a]) B:=by
 have hgd:∀(q:Int),0<=q->q < (e.length:Int)->∀t,(lts++[t]).getD q.toNat default=lts.getD q.toNat default:=fun q h0 h1 t=>Q7e (by rw[h.len];omega)
 refine⟨by simp[h.len],fun i y hy=>?_⟩
 by_cases hi:i < e.length
 ·rw[List.getElem?_append_left hi]at hy
  obtain⟨id',nb',a',h1,h2,h3,h4⟩:=h.at_ i y hy
  refine⟨id',nb',a',?_,h2,h3,h4⟩
  rw[List.getElem?_append_left (by rw[h.len];exact hi),h1]
  congr 2
  refine List.map_congr_left fun q hq=>?_
  have:=hk i y hy q hq
  exact (hgd q this.1 (by omega) _).symm
 ·have hie:i=e.length:=by
   have:=(List.getElem?_eq_some_iff.1 hy).1
   simp at this;omega
  subst hie
  simp at hy
  subst hy
  refine⟨id,nb,a,?_,ha,hb,hab⟩
  rw[←h.len,List.getElem?_append_right (by simp)]
  simp only[Nat.sub_self,List.getElem?_cons_zero]
  congr 2
  exact List.map_congr_left fun q hq=>(hgd q (hx q hq).1 (hx q hq).2 _).symm
section
variable {e:List Ex}{lts:List LTr}{B:Nb->List Int->Prop}
theorem LinkL.getD(h:LinkL e lts B){i:Nat}{t:LTr}(ht:lts[i]?=some t):lts.getD i default=t:=by rw[List.getD_eq_getElem?_getD,ht];rfl
theorem LinkL.er(h:LinkL e lts B)(hk:Q0v e):∀(n i:Nat)(t:LTr),i < n->lts[i]?=some t->erT t=Q45 e i
 |0,i,t,hi,_=>by omega
 |n+1,i,t,hi,ht=>by
  have hil:i < e.length:=by rw[←h.len];exact (List.getElem?_eq_some_iff.1 ht).1
  obtain⟨x,hx⟩:=Q00 hil
  obtain⟨id,nb,a,h1,h2,_⟩:=h.at_ i x hx
  rw[ht]at h1
  cases h1
  rw[Q3u hk hx]
  simp only[erT,h2,Qbg,List.map_map]
  congr 1
  refine List.map_congr_left fun q hq=>?_
  have hq':=hk i x hx q hq
  obtain⟨t',ht'⟩:=Q00 (l:=lts) (i:=q.toNat) (by rw[h.len];omega)
  simp only[Function.comp,h.getD ht']
  exact h.er hk n q.toNat t' (by omega) ht'
theorem LinkL.own(h:LinkL e lts B)(hk:Q0v e):∀(n i:Nat)(t:LTr),i < n->lts[i]?=some t->∀p∈objs t,p∈lts.flatMap ownO
 |0,i,t,hi,_=>by omega
 |n+1,i,t,hi,ht=>fun p hp=>by
  have hil:i < e.length:=by rw[←h.len];exact (List.getElem?_eq_some_iff.1 ht).1
  obtain⟨x,hx⟩:=Q00 hil
  obtain⟨id,nb,a,h1,_⟩:=h.at_ i x hx
  rw[ht]at h1
  rcases (Qku t p).1 hp with hp|hp
  ·exact List.mem_flatMap.2 ⟨t,List.mem_of_getElem? ht,hp⟩
  ·cases h1
   simp only[LTr.kids,Qaz]at hp
   obtain⟨u,hu,hpu⟩:=List.mem_flatMap.1 hp
   obtain⟨q,hq,rfl⟩:=List.mem_map.1 hu
   have hq':=hk i x hx q hq
   obtain⟨t',ht'⟩:=Q00 (l:=lts) (i:=q.toNat) (by rw[h.len];omega)
   rw[h.getD ht']at hpu
   exact h.own hk n q.toNat t' (by omega) ht' p hpu
def ownC (lts:List LTr)(k:Nat)(l:Lab):Int:=((keys (ownO (lts.getD l.n.toNat default))).count k:Nat)
theorem Q7y(k:Nat):∀l:List LTr,(((keys (objss l)).count k:Nat):Int)=(l.map fun t=>(((keys (objs t)).count k:Nat):Int)).sum
 |[]=>by simp[objss,keys]
 |t::l=>by
  have:=Q7y k l
  simp only[keys]at this
  simp only[objss,keys,List.map_append,List.count_append,List.map_cons,List.sum_cons,←this]
  push_cast;rfl
theorem LinkL.count(h:LinkL e lts B)(hk:Q0v e)(k:Nat):∀(n i:Nat)(t:LTr),i < n->lts[i]?=some t->sumT (ownC lts k) (Q45 (ixE e) i)=((keys (objs t)).count k:Nat)
 |0,i,t,hi,_=>by omega
 |n+1,i,t,hi,ht=>by
  have hil:i < e.length:=by rw[←h.len];exact (List.getElem?_eq_some_iff.1 ht).1
  obtain⟨x,hx⟩:=Q00 hil
  obtain⟨id,nb,a,h1,_⟩:=h.at_ i x hx
  rw[ht]at h1
  have hki:Q0v (ixE e):=fun j y hy=>by
   rw[Q89]at hy
   cases he:e[j]? with
   |none=>rw[he]at hy;cases hy
   |some z=>
    rw[he]at hy
    simp at hy;subst hy
    exact hk j z he
  have hxi:(ixE e)[i]?=some { x with n:=(i:Nat) }:=by rw[Q89,hx];rfl
  rw[Q3u hki hxi]
  simp only[sumT,Qan,List.map_map]
  rw[Qgc]
  have e1:ownC lts k ⟨x.op,(i:Nat),x.binds,x.kids.map (Tr.op∘fun k=>Q45 (ixE e) k.toNat),x.alts⟩=((keys (ownO t)).count k:Nat):=by
   unfold ownC
   simp only[Int.toNat_natCast,h.getD ht]
  have e2:(x.kids.map (sumT (ownC lts k)∘fun k=>Q45 (ixE e) k.toNat)).sum=((keys (objss t.kids)).count k:Nat):=by
   rw[Q7y]
   cases h1
   simp only[LTr.kids,List.map_map]
   congr 1
   refine List.map_congr_left fun q hq=>?_
   have hq':=hk i x hx q hq
   obtain⟨t',ht'⟩:=Q00 (l:=lts) (i:=q.toNat) (by rw[h.len];omega)
   simp only[Function.comp,h.getD ht']
   exact h.count hk k n q.toNat t' (by omega) ht'
  rw[e1,e2]
  push_cast;rfl
theorem Qa8(k:Nat):∀lts:List LTr,(((keys (lts.flatMap ownO)).count k:Nat):Int)=(lts.map fun t=>(((keys (ownO t)).count k:Nat):Int)).sum
 |[]=>by simp[keys]
 |t::l=>by
  have:=Qa8 k l
  simp only[keys]at this
  simp only[List.flatMap_cons,keys,List.map_append,List.count_append,List.map_cons,List.sum_cons,←this]
  push_cast;rfl
theorem LinkL.nodup(h:LinkL e lts B)(ht:IsTree e)(hn:(keys (lts.flatMap ownO)).Nodup){t:LTr}(hr:lts[e.length - 1]?=some t):(keys (objs t)).Nodup:=by
 rw[List.nodup_iff_count]
 intro k
 have h1:=h.count ht.k k _ _ t (Nat.lt_succ_self _) hr
 have h2:=Q3v (ownC lts k) (Qli ht)
 have h3:grow (ixE e)=Q45 (ixE e) (e.length - 1):=by unfold grow Q45;rw[Qb8]
 rw[h3,h1]at h2
 have h4:((labs (ixE e)).map (ownC lts k))=lts.map fun t=>(((keys (ownO t)).count k:Nat):Int):=by
  have e1:(labs (ixE e)).map (ownC lts k)=((labs (ixE e)).map (·.n)).map fun n:Int=>(((keys (ownO (lts.getD n.toNat default))).count k:Nat):Int):=by
   rw[List.map_map];rfl
  rw[e1,labs_n,ixE_n,List.map_map]
  apply List.ext_getElem?
  intro i
  by_cases hi:i < e.length
  ·obtain⟨t',ht'⟩:=Q00 (l:=lts) (i:=i) (by rw[h.len];exact hi)
   simp only[List.getElem?_map,List.getElem?_range hi,Option.map_some,Function.comp,Int.toNat_natCast,h.getD ht',ht']
  ·rw[List.getElem?_eq_none (by simp;omega),List.getElem?_eq_none (by simp[h.len];omega)]
 rw[h4,←Qa8]at h2
 have h5:=List.nodup_iff_count.1 hn k
 omega
theorem LinkL.ok(h:LinkL e lts)(hk:Q0v e)(hs:∀x∈e,x.binds.length<=1048576/\x.kids.length<=1048576/\x.alts.length<=1048576/\∀a∈x.alts,a.binds.length<=1048576):∀(n i:Nat)(t:LTr),i < n->lts[i]?=some t->okL t
 |0,i,t,hi,_=>by omega
 |n+1,i,t,hi,ht=>by
  have hil:i < e.length:=by rw[←h.len];exact (List.getElem?_eq_some_iff.1 ht).1
  obtain⟨x,hx⟩:=Q00 hil
  obtain⟨id,nb,a,h1,h2,h3,h4⟩:=h.at_ i x hx
  obtain⟨s1,s2,s3,s4⟩:=hs x (List.mem_of_getElem? hx)
  rw[ht]at h1
  cases h1
  refine⟨fun _=>h3,s1,by simpa using s2,by have:=congrArg List.length h2;simp at this;omega,fun y hy=>⟨h4 y hy,?_⟩,Qax.2 fun u hu=>?_⟩
  ·exact s4 y.er (by rw[←h2];exact List.mem_map_of_mem hy)
  ·obtain⟨q,hq,rfl⟩:=List.mem_map.1 hu
   have hq':=hk i x hx q hq
   obtain⟨t',ht'⟩:=Q00 (l:=lts) (i:=q.toNat) (by rw[h.len];omega)
   rw[h.getD ht']
   exact h.ok hk hs n q.toNat t' (by omega) ht'
end
end Go.Proofs.YthboaankaaeemaaDoor
