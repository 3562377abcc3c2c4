/- Closure conversion: all functions' bodies are lists of trees; flat.Check of any such program ends. -/
import Derived.Test.YtdpdlkgecmgokaaGreatDoorH11
import Derived.KernelRfl
set_option maxRecDepth 10000
set_option linter.unusedVariables false
set_option linter.unusedSimpArgs false
namespace Go.Proofs.YtdpdlkgecmgokaaGreatDoor
open Go Go.Abs Go.CoreX
def BodyQ (e:List Ex):Prop:=e=[]∨∃T,okT T/\cntN T<=1099511627776/\e=listT [] T
def FnsW (l:List FnD):Prop:=∀f∈l,f.params.length<=1099511627776/\BodyQ f.body
theorem FnsW.put{l:List FnD}(h:FnsW l)(j:Nat){ps:List Int}(hp:ps.length<=1099511627776){e:List Ex}(he:BodyQ e):FnsW (putD l j ps e):=fun f hf=>by
 unfold putD at hf
 rcases List.mem_or_eq_of_mem_set hf with h1|rfl
 ·exact h f h1
 ·exact⟨hp,he⟩
theorem newF_w(names:List Int):∀k,FnsW (newF names k)
 |0=>fun f hf=>by simp[newF]at hf
 |k+1=>fun f hf=>by
  rcases List.mem_append.1 hf with h|h
  ·exact newF_w names k f h
  ·simp at h;subst h;exact⟨by simp,.inl rfl⟩
theorem FnsW.app{l r:List FnD}(h:FnsW l)(h2:FnsW r):FnsW (l++r):=fun f hf=>(List.mem_append.1 hf).elim (h f) (h2 f)
theorem Qag{f:Tr}(h:okT f):f.binds.length<=1048576:=by
 obtain⟨_,_,fb,_,_⟩:=f
 exact h.1
structure KidW (n:Nat)(t:Tr):Prop where
 w:∀(s:Sc) (b:Bs),s.many<=4096->FnsW b.fns->FnsW (cv n s t b).2.fns
 z:∀(s:Sc) (b:Bs),s.many<=4096->okT (cv n s t b).1/\cntN (cv n s t b).1<=1099511627776
theorem Qdp{n:Nat}{needs group:List Int}{base:Nat}{fns:List Tr}(hn:needs.length<=4096)(hk:∀f∈fns,KidW n (f.kids.getD 0 default)/\f.binds.length<=1048576)(b:Bs)(hb:FnsW b.fns):∀i,i<=fns.length->FnsW (Q29 (cv n) needs group base fns i b).fns
 |0,_=>hb
 |i+1,h=>by
  have ih:=Qdp (group:=group) (base:=base) hn hk b hb i (by omega)
  obtain⟨hm,hbl⟩:=hk _ (Q37 (l:=fns) (i:=i) (by omega))
  simp only[Q29,Q8n]
  refine FnsW.put (hm.w _ _ (by simpa[scF]using hn) (by simpa using ih)) _ (by simp only[List.length_cons];omega) (.inr ⟨_,?_,?_,rfl⟩)
  ·exact (hm.z _ _ (by simpa[scF]using hn)).1
  ·exact (hm.z _ _ (by simpa[scF]using hn)).2
theorem Qgs{n:Nat}{fns:List Tr}{group names:List Int}(hc:cntNs fns<=4096)(hk:∀f∈fns,KidW n (f.kids.getD 0 default)/\f.binds.length<=1048576)(b:Bs)(hb:FnsW b.fns):FnsW (fnsM (cv n) fns group names b).fns:=by
 have hol:=Q1e fns group
 exact Qdp (by omega) hk _ (hb.app (newF_w names _)) _ (Nat.le_refl _)
theorem Qdv{cv:Tr->Bs->Tr×Bs}{ks:List Tr}(hcv:∀t∈ks,∀b,FnsW b.fns->FnsW (cv t b).2.fns)(b:Bs)(hb:FnsW b.fns):∀i,i<=ks.length->FnsW (Q0p cv ks i b).2.fns
 |0,_=>hb
 |i+1,h=>hcv _ (Q37 (l:=ks) (i:=i) (by omega)) _ (Qdv hcv b hb i (by omega))
theorem Qg5{n:Nat}{t:Tr}(h:TrOk n t)(hw:∀(s:Sc)(b:Bs),s.many<=4096->FnsW b.fns->FnsW (cv n s t b).2.fns):KidW n t:=by
 refine⟨hw,fun s b hs=>?_⟩
 have h1:=cv_sz n t h.c h.c4 h.fr h.ok s b hs
 have h2:=h.c4
 exact⟨h1.2,by have:=h1.1;omega⟩
theorem cv_w:∀(n:Nat)(t:Tr),TrOk n t->∀(s:Sc)(b:Bs),s.many<=4096->FnsW b.fns->FnsW (cv n s t b).2.fns
 |0,t,h=>by have:=Q3g t;have:=h.c;omega
 |n+1,.mk o x bs ks al,h=>fun s b hs hb=>by
  have F:=Q0v h.fr
  have hc4:=h.c4
  simp only[cntN]at hc4
  have ih:∀t∈ks,∀(s:Sc) (b:Bs),s.many<=4096->FnsW b.fns->FnsW (cv n s t b).2.fns:=fun t ht=>cv_w n t (h.kid ht)
  have kl:∀f∈ks,IsLam f->KidW n (f.kids.getD 0 default)/\f.binds.length<=1048576:=fun f hf hl=>by
   have h1:=((h.kid hf).lam hl).1
   exact⟨Qg5 h1 (cv_w n _ h1),Qag (h.kid hf).ok⟩
  simp only[cv]
  by_cases e0:o=0
  ·rw[if_pos e0];exact hb
  rw[if_neg e0]
  by_cases e2:o=2
  ·rw[if_pos e2]
   have hl:IsLam (.mk o x bs ks al):=Q2h h.fr e2
   refine Qgs (by have:=h.c4;simp only[cntNs];omega) (fun f hf=>?_) b hb
   simp at hf;subst hf
   obtain⟨h1,h2⟩:=h.lam hl
   have h3:TrOk n ((Tr.mk o x bs ks al).kids.getD 0 default):=⟨by have:=h.c;omega,h1.c4,h1.fr,h1.ok,h1.d⟩
   exact⟨Qg5 h3 (cv_w n _ h3),Qag h.ok⟩
  rw[if_neg e2]
  by_cases e5:o=5
  ·rw[if_pos e5]
   subst e5
   have hsh:ShN 5 x bs (ks.map Tr.op).length al:=F.sh
   have hkl:ks.length=bs.length+1:=by have:=hsh.recs.1;simpa using this
   have hcs:cntNs ks=cntNs (ks.take bs.length)+cntNs (ks.drop bs.length):=by conv=>lhs;rw[←List.take_append_drop bs.length ks,Q2b]
   refine ih _ (Q37 (by omega)) s _ hs (Qgs (by omega) (fun f hf=>?_) b hb)
   exact kl f (List.mem_of_mem_take hf) (Q2h (h.kid (List.mem_of_mem_take hf)).fr (Q8x (F.rc rfl) f hf))
  rw[if_neg e5]
  by_cases e4:o=4/\(ks.getD 0 default).op=2
  ·rw[if_pos e4]
   obtain⟨e4,e40⟩:=e4
   subst e4
   have hsh:ShN 4 x bs (ks.map Tr.op).length al:=F.sh
   have hk2:ks.length=2:=by have:=hsh.lett.1;simpa using this
   obtain⟨k0,k1,rfl⟩:∃a b,ks=[a,b]:=by match ks,hk2 with|[a,b],_=>exact⟨a,b,rfl⟩
   refine ih k1 (.tail _ (.head _)) s _ hs (Qgs (by simp only[cntNs]at hc4;simp only[List.take_succ_cons,List.take_zero,cntNs];omega) (fun f hf=>?_) b hb)
   have hf:f=k0:=by simpa using hf
   subst hf
   exact kl f (.head _) (Q2h (h.kid (.head _)).fr (by simpa using e40))
  rw[if_neg e4]
  exact Qdv (fun t ht b hb=>ih t ht s b hs hb) b hb _ (Nat.le_refl _)
theorem Qbl(e:List Ex)(h:4096 < e.length)(hl:e.length<=1099511627776):APure Tryz.prog Γc 43 [.one (.sl 5 (e.map cEx))] (.one (int 2)):=by
 intro ou
 refine AFn.walk 93 tabOk Tryz.func43 rfl (by kernel_rfl) rfl rfl fun hou=>?_
 refine zA ?_
 refine ACode.cond rfl (fun hb=>?_) (fun hb=>absurd hb (by simp;omega))
 refine zA ?_
 exact APure.fin rfl (WkF.ofEq rfl) (by simp) hou rfl
theorem Qjd(e:List Ex)(h:4096 < e.length)(hl:e.length<=1099511627776)(params:List Int)(flat:Bool):APure Tryz.prog Γc 32 [.one (.sl 5 (e.map cEx)),.one (.sl 1 (params.map cI)),.one (.lit (.bool flat))] (.one (int 2)):=by
 intro ou
 refine AFn.walk 62 tabOk Tryz.func32 rfl (by kernel_rfl) rfl rfl fun hou=>?_
 refine zA ?_
 refine AOps.freeze1 (.l 0) 3 rfl rfl ?_
 refine zca hΓc (Qbl e h hl) hou ?_
 refine zA ?_
 exact APure.fin rfl (WkF.ofEq rfl) (by simp) hou rfl
theorem okB_nil:okB []:=⟨⟨by simp,by simp⟩,by simp⟩
theorem BodyQ.len{e:List Ex}(h:BodyQ e):e.length<=1099511627776:=by
 rcases h with rfl|⟨T,_,h2,rfl⟩
 ·simp
 ·have:=Q1n T [];simp at this;omega
theorem BodyQ.okB{e:List Ex}(h:BodyQ e)(hl:e.length<=4096):okB e:=by
 rcases h with rfl|⟨T,h1,h2,rfl⟩
 ·exact okB_nil
 ·exact Qd6 (Qby _ h1) (by have:=Q1n T [];simp at this;omega)
theorem Body_w{e:List Ex}(h:BodyQ e){params:List Int}(hp:params.length<=6):∃r:Int,APure Tryz.prog Γc 32 [.one (.sl 5 (e.map cEx)),.one (.sl 1 (params.map cI)),.one (.lit (.bool true))] (.one (int r))/\(r=0->body e params true=0):=by
 by_cases hl:e.length<=4096
 ·exact⟨_,Qcm e (h.okB hl) params (by omega) true,id⟩
 ·exact⟨2,Qjd e (by omega) h.len params true,fun h=>by cases h⟩
theorem Qew{e:List Ex}{ps:List Int}(h:body e ps true=0){x:Ex}(hx:x∈e)(ho:x.op=14∨x.op=15):0<=x.n:=by
 have h1:Q0u (Q0e true e) e=0:=by
  unfold body at h
  split at h
  ·rename_i h0;exact absurd h h0
  split at h
  ·rename_i h0;exact absurd h h0
  ·rename_i h0;simpa using h0
 have h2:=(Q1h _ _).1 h1 x hx
 have h3:Q0y e x=0:=by
  unfold Q0e at h2
  split at h2
  ·cases h2
  ·exact h2
 unfold Q0y at h3
 split at h3
 ·cases h3
 split at h3
 ·rename_i h0;exact absurd h3 h0
 rename_i h4
 have h4:ranges x=0:=by simpa using h4
 unfold ranges at h4
 split at h4
 ·cases h4
 rename_i h5
 have h6:between x.n (lowN x.op) (highN x.op)=true:=by simpa using h5
 have h7:lowN x.op=0:=by rcases ho with h|h <;> rw[h] <;> rfl
 rw[h7]at h6
 simp[between]at h6
 exact h6.1
def SomeR (ou:Outer):FV->Outer->Prop:=fun r ou'=>(∃k:Int,r=.one (int k))/\ou'=ou
theorem Qgt(fs:List FnD)(hfl:fs.length<=1048576)(f:FnD)(hpl:f.params.length<=1099511627776)(hb0:BodyQ f.body)(main:Int)(ou:Outer):AFn Tryz.prog Γc 33 [.agg [.sl 3 (fs.map encF),int main],.agg (encF f)] ou (SomeR ou):=by
 have hbl:=hb0.len
 refine AFn.walk 94 tabOk Tryz.func33 rfl (by kernel_rfl) rfl rfl fun hou=>?_
 refine zM ?_
 refine AOps.splitS rfl rfl rfl rfl (fun _=>?_) (fun _=>?_)
 ·refine zM ?_
  exact AFn.fin' rfl (.refl _) (by simp) hou ⟨⟨_,rfl⟩,rfl⟩
 refine zM ?_
 refine ACode.cond rfl (fun _=>?_) (fun _=>?_)
 ·refine zM ?_
  exact AFn.fin' rfl (.refl _) (by simp) hou ⟨⟨_,rfl⟩,rfl⟩
 refine zM ?_
 refine ACode.cond rfl (fun _=>?_) (fun hp6=>?_)
 ·refine zM ?_
  exact AFn.fin' rfl (.refl _) (by simp) hou ⟨⟨_,rfl⟩,rfl⟩
 have hp6:f.params.length<=6:=by simp at hp6;omega
 obtain⟨rb,hB,hrb⟩:=Body_w hb0 hp6
 refine zM ?_
 refine ACode.freeze1 (.l 0) 2 rfl rfl ?_
 refine ACode.freeze1 (.l 1) 3 rfl rfl ?_
 refine ACode.loopR hΓc (α:=Nat) (fun j=>[(26,.one (int j)),(25,.one (int (f.params.map cI).length)),(24,.one (.sl 1 (f.params.map cI))),(3,.one (.box (encF f))),(2,.one (.box [.sl 3 (fs.map encF),int main]))]) (fun j=>⟨0,[],ou⟩) (fun m j=>j<=f.params.length/\m=f.params.length - j) (a0:=0) (ρ:=_root_.id) ⟨by omega,rfl⟩ (LessR.of rfl zFS (by simp) zLO rfl rfl hou) fun m j hj=>?_
 obtain⟨hjl,rfl⟩:=hj
 refine zA ?_
 refine ACode.cond rfl (fun hb2=>?_) (fun hb2=>?_)
 ·have hlt:j < f.params.length:=by simpa using hb2
  obtain⟨x,hx⟩:=Q01 hlt
  refine zA ?_
  refine zS (zIA rfl rfl rfl (by omega) (Q04 hx)) ?_
  refine zA ?_
  refine AOps.splitS rfl rfl rfl rfl (fun _=>?_) (fun _=>?_)
  ·refine zM ?_
   exact AFn.fin' rfl (.refl _) (by simp) hou ⟨⟨_,rfl⟩,rfl⟩
  refine zM ?_
  refine ACode.cond rfl (fun _=>?_) (fun _=>?_)
  ·refine zM ?_
   exact AFn.fin' rfl (.refl _) (by simp) hou ⟨⟨_,rfl⟩,rfl⟩
  refine zM ?_
  exact cInv ⟨f.params.length - (j+1),j+1,_root_.id,by omega,⟨by omega,rfl⟩,LessR.of rfl zFS (by simp) zLO rfl rfl hou⟩
 refine zA ?_
 refine zca hΓc hB hou ?_
 refine zM ?_
 refine ACode.cond rfl (fun _=>?_) (fun hr0=>?_)
 ·refine zM ?_
  exact AFn.fin' rfl (.refl _) (by simp) hou ⟨⟨_,rfl⟩,rfl⟩
 have hbody:=hrb (by simpa using hr0)
 refine zM ?_
 refine ACode.loopR hΓc (α:=Nat) (fun j=>[(48,.one (int j)),(47,.one (int (f.body.map cEx).length)),(46,.one (.sl 5 (f.body.map cEx))),(3,.one (.box (encF f))),(2,.one (.box [.sl 3 (fs.map encF),int main]))]) (fun j=>⟨0,[],ou⟩) (fun m j=>j<=f.body.length/\m=f.body.length - j) (a0:=0) (ρ:=_root_.id) ⟨by omega,rfl⟩ (LessR.of rfl zFS (by simp) zLO rfl rfl hou) fun m j hj=>?_
 obtain⟨hjl,rfl⟩:=hj
 clear hb2
 refine zA ?_
 refine ACode.cond rfl (fun hb2=>?_) (fun hb2=>?_)
 ·have hlt:j < f.body.length:=by simpa using hb2
  obtain⟨x,hx⟩:=Q01 hlt
  have hc:=Qew hbody (List.mem_of_getElem? hx)
  obtain⟨o,n,b,k,al⟩:=x
  simp only at hc
  by_cases h14:o=14
  ·subst h14
   have hn0:=hc (.inl rfl)
   obtain⟨i,rfl⟩:∃i:Nat,n=(i:Int):=⟨n.toNat,by omega⟩
   refine zA ?_
   refine zS (zIA rfl rfl rfl (by omega) (Q04 hx)) ?_
   refine zA ?_
   refine ACode.cond rfl (fun _=>?_) (fun hb3=>?_)
   ·refine zM ?_
    exact AFn.fin' rfl (.refl _) (by simp) hou ⟨⟨_,rfl⟩,rfl⟩
   have hgl:i < fs.length:=by simp at hb3;omega
   obtain⟨g,hg⟩:=Q01 hgl
   refine zA ?_
   refine zS (zIA rfl rfl rfl (Int.natCast_nonneg i) (Q04 hg)) ?_
   refine zA ?_
   refine AOps.splitS rfl rfl rfl rfl (fun _=>?_) (fun _=>?_)
   ·refine zM ?_
    exact AFn.fin' rfl (.refl _) (by simp) hou ⟨⟨_,rfl⟩,rfl⟩
   refine zM ?_
   exact cInv ⟨f.body.length - (j+1),j+1,_root_.id,by omega,⟨by omega,rfl⟩,LessR.of rfl zFS (by simp) zLO rfl rfl hou⟩
  by_cases h15:o=15
  ·subst h15
   have hn0:=hc (.inr rfl)
   obtain⟨i,rfl⟩:∃i:Nat,n=(i:Int):=⟨n.toNat,by omega⟩
   refine zA ?_
   refine zS (zIA rfl rfl rfl (by omega) (Q04 hx)) ?_
   refine zA ?_
   refine ACode.cond rfl (fun _=>?_) (fun hb3=>?_)
   ·refine zM ?_
    exact AFn.fin' rfl (.refl _) (by simp) hou ⟨⟨_,rfl⟩,rfl⟩
   have hgl:i < fs.length:=by simp at hb3;omega
   obtain⟨g,hg⟩:=Q01 hgl
   refine zA ?_
   refine zS (zIA rfl rfl rfl (Int.natCast_nonneg i) (Q04 hg)) ?_
   refine zA ?_
   refine ACode.cond rfl (fun _=>?_) (fun _=>?_)
   ·refine zM ?_
    exact AFn.fin' rfl (.refl _) (by simp) hou ⟨⟨_,rfl⟩,rfl⟩
   refine zM ?_
   exact cInv ⟨f.body.length - (j+1),j+1,_root_.id,by omega,⟨by omega,rfl⟩,LessR.of rfl zFS (by simp) zLO rfl rfl hou⟩
  refine zA ?_
  refine zS (zIA rfl rfl rfl (by omega) (Q04 hx)) ?_
  refine zA ?_
  refine AOps.splitS rfl rfl rfl rfl (fun _=>?_) (fun hb=>absurd hb (by simpa using h14))
  refine zM ?_
  refine ACode.cond rfl (fun _=>?_) (fun hb=>absurd hb (by simpa using h15))
  refine zM ?_
  exact cInv ⟨f.body.length - (j+1),j+1,_root_.id,by omega,⟨by omega,rfl⟩,LessR.of rfl zFS (by simp) zLO rfl rfl hou⟩
 refine zA ?_
 exact AFn.fin' rfl (.refl _) (by simp) hou ⟨⟨_,rfl⟩,rfl⟩
structure PrgW (fs:List FnD):Prop where
 l:fs.length<=1048576
 b:FnsW fs
theorem Qiq(fs:List FnD)(h:PrgW fs)(ou:Outer):AFn Tryz.prog Γc 19 [.agg [.sl 3 (fs.map encF),int 0]] ou (SomeR ou):=by
 have hfl:=h.l
 refine AFn.walk 52 tabOk Tryz.func19 rfl (by kernel_rfl) rfl rfl fun hou=>?_
 refine zM ?_
 refine ACode.cond rfl (fun _=>?_) (fun hb0=>?_)
 ·refine zM ?_
  exact AFn.fin' rfl (.refl _) (by simp) hou ⟨⟨_,rfl⟩,rfl⟩
 have hpos:0 < fs.length:=by
  rcases Nat.eq_zero_or_pos fs.length with h0|h0
  ·simp[List.length_eq_zero_iff.1 h0]at hb0
  ·exact h0
 obtain⟨f0,h0⟩:=Q01 hpos
 refine zM ?_
 refine ACode.cond rfl (fun _=>?_) (fun _=>?_)
 ·refine zM ?_
  exact AFn.fin' rfl (.refl _) (by simp) hou ⟨⟨_,rfl⟩,rfl⟩
 refine zM ?_
 refine ACode.cond rfl (fun _=>?_) (fun _=>?_)
 ·refine zM ?_
  exact AFn.fin' rfl (.refl _) (by simp) hou ⟨⟨_,rfl⟩,rfl⟩
 refine zA ?_
 refine zS (AStep.indexAddr (n:=0) tabOk rfl rfl rfl rfl rfl rfl (.inl rfl) rfl (by decide) (Q04 h0)) ?_
 refine zM ?_
 refine ACode.cond rfl (fun _=>?_) (fun _=>?_)
 ·refine zM ?_
  exact AFn.fin' rfl (.refl _) (by simp) hou ⟨⟨_,rfl⟩,rfl⟩
 refine zA ?_
 refine ACode.freeze1 (.l 0) 1 rfl rfl ?_
 refine ACode.loopR hΓc (α:=Nat) (fun j=>[(41,.one (int j)),(40,.one (int (fs.map encF).length)),(39,.one (.sl 3 (fs.map encF))),(1,.one (.box [.sl 3 (fs.map encF),int 0]))]) (fun j=>⟨0,[],ou⟩) (fun m j=>j<=fs.length/\m=fs.length - j) (a0:=0) (ρ:=_root_.id) ⟨by omega,rfl⟩ (LessR.of rfl zFS (by simp) zLO rfl rfl hou) fun m j hj=>?_
 obtain⟨hjl,rfl⟩:=hj
 refine zA ?_
 refine ACode.cond rfl (fun hb2=>?_) (fun hb2=>?_)
 ·have hlt:j < fs.length:=by simpa using hb2
  obtain⟨x,hx⟩:=Q01 hlt
  have hxm:=List.mem_of_getElem? hx
  refine zA ?_
  refine zS (zIA rfl rfl rfl (by omega) (Q04 hx)) ?_
  refine zA ?_
  refine AOps.call1 hΓc rfl rfl rfl rfl rfl rfl rfl (by simp[idsF]) hou (Qgt fs (by omega) x (h.b x hxm).1 (h.b x hxm).2 0 ou) fun r ou' hq _ how=>?_
  obtain⟨⟨k,rfl⟩,rfl⟩:=hq
  refine zM ?_
  refine ACode.cond rfl (fun _=>?_) (fun _=>?_)
  ·refine zM ?_
   exact AFn.fin' rfl (.refl _) (by simp) hou ⟨⟨_,rfl⟩,rfl⟩
  refine zM ?_
  exact cInv ⟨fs.length - (j+1),j+1,_root_.id,by omega,⟨by omega,rfl⟩,LessR.of rfl zFS (by simp) zLO rfl rfl hou⟩
 refine zA ?_
 exact AFn.fin' rfl (.refl _) (by simp) hou ⟨⟨_,rfl⟩,rfl⟩
def bs0 (e:List Ex):Bs:=⟨[⟨-1,[],[]⟩],mxT (grow e)+1,false⟩
def sc0:Sc:=⟨0,0,fun _=>none⟩
def cvR (e:List Ex):Tr×Bs:=cv (cntN (grow e)) sc0 (grow e) (bs0 e)
def progC (e:List Ex):List FnD:=putD (cvR e).2.fns 0 ((cvR e).2.fns.getD 0 default).params (listT [] (cvR e).1)
def hasPH (e:List Ex):Bool:=e.any fun x=>x.op==12||x.op==13
def CvtR (e:List Ex)(r:FV):Prop:=
 (check e≠0/\r=.tup [.agg [nilS2,int 0],.one (int (check e))]) ∨
 (check e=0/\hasPH e=true/\r=.tup [.agg [nilS2,int 0],.one (int 3)]) ∨
 (check e=0/\hasPH e=false/\((r=.tup [.agg [nilS2,int 0],.one (int 2)]/\¬((cvR e).2.bad=false/\PrgOk (progC e) 0))∨r=.tup [.agg [.sl 3 ((progC e).map encF),int 0],.one (int 0)]))
theorem Qa6{e:List Ex}(he:okB e)(h:check e=0):TrOk (cntN (grow e)) (grow e):=by
 have t1:=Q15 h
 have h1:=Q9d t1
 have h2:=Q1n (grow e) []
 have h3:=(Q2l e).1 (Q4t h).1
 simp only[List.length_nil]at h2
 exact⟨Nat.le_refl _,by have:=h3.1;omega,Q7r h,he.t t1.k t1.ne,by have:=h3.2.2;omega⟩
theorem Q7k:∀(l:List Int)(m:Int),m<=l.foldl max m
 |[],m=>Int.le_refl _
 |x::l,m=>by
  have:=Q7k l (max m x)
  simp only[List.foldl_cons];omega
theorem mxT_ge:∀t:Tr,-1<=mxT t
 |.mk o n b k a=>by
  have h1:=Q7k (Q06 o b a) (-1)
  have h2:=Q7k (k.map mxT) ((Q06 o b a).foldl max (-1))
  simp only[mxT,Qbz];omega
set_option maxHeartbeats 2000000 in
theorem Q8t(e:List Ex)(he:okB e)(ou:Outer):AFn Tryz.prog Γc 21 [.one (.sl 5 (e.map cEx))] ou (fun r ou'=>ou'=ou/\CvtR e r):=by
 have hel:=he.eo.l
 refine AFn.walk 72 tabOk Tryz.func21 rfl (by kernel_rfl) rfl rfl fun hou=>?_
 refine zA ?_
 refine zca hΓc (Qa1 e he) hou ?_
 refine zA ?_
 refine ACode.cond rfl (fun hb=>?_) (fun hb=>?_)
 ·have h1:check e≠0:=by simpa using hb
  refine zA ?_
  exact AFn.fin' rfl (.refl _) (by simp[idsF]) hou ⟨rfl,.inl ⟨h1,rfl⟩⟩
 have hck:check e=0:=by simpa using hb
 have t1:=Q15 hck
 clear hb
 refine zA ?_
 refine ACode.loopR hΓc (α:=Nat) (fun j=>[(19,.one (int j)),(18,.one (int (e.map cEx).length)),(17,.one (.sl 5 (e.map cEx))),(2,.one (.ptr (.l 0) 0)),(3,.one (int 0)),(0,.one (.sl 5 (e.map cEx)))]) (fun j=>⟨1,[(0,.cells [nilS2,int 0])],ou⟩) (fun m j=>j<=e.length/\(∀x∈e.take j,¬(x.op=12∨x.op=13))/\m=e.length - j) (a0:=0) (ρ:=_root_.id) ⟨by omega,by simp,rfl⟩ (LessR.of rfl zFS (by simp) zLO rfl rfl hou) fun m j hj=>?_
 obtain⟨hjl,hno,rfl⟩:=hj
 refine zA ?_
 refine ACode.cond rfl (fun hb2=>?_) (fun hb2=>?_)
 ·have hlt:j < e.length:=by simpa using hb2
  obtain⟨x,hx⟩:=Q01 hlt
  have hxm:=List.mem_of_getElem? hx
  have hyes:(x.op=12∨x.op=13)->hasPH e=true:=fun h=>by
   unfold hasPH
   rw[List.any_eq_true]
   exact⟨x,hxm,by rcases h with h|h <;> simp[h]⟩
  obtain⟨o,n,b,k,al⟩:=x
  simp only at hyes
  refine zA ?_
  refine zS (zIA rfl rfl rfl (by omega) (Q04 hx)) ?_
  refine zA ?_
  refine AOps.splitS rfl rfl rfl rfl (fun h12=>?_) (fun h12=>?_)
  ·refine zM ?_
   exact AFn.fin' rfl (.refl _) (by simp[idsF]) hou ⟨rfl,.inr (.inl ⟨hck,hyes (.inl (by simpa using h12)),rfl⟩)⟩
  refine zM ?_
  refine ACode.cond rfl (fun h13=>?_) (fun h13=>?_)
  ·refine zM ?_
   exact AFn.fin' rfl (.refl _) (by simp[idsF]) hou ⟨rfl,.inr (.inl ⟨hck,hyes (.inr (by simpa using h13)),rfl⟩)⟩
  refine zM ?_
  exact cInv ⟨e.length - (j+1),j+1,_root_.id,by omega,⟨by omega,Q0t hno hx (by simp at h12 h13;simp[h12,h13]),rfl⟩,LessR.of rfl zFS (by simp) zLO rfl rfl hou⟩
 have hje:j=e.length:=by simp at hb2;omega
 subst hje
 rw[List.take_length]at hno
 have hph:hasPH e=false:=by
  unfold hasPH
  rw[List.any_eq_false]
  intro x hx
  have:=hno x hx
  simp only[not_or]at this
  simp[this.1,this.2]
 clear hno hb2 hjl
 have hT:=Qa6 he hck
 have hmx:=mxT_le 1048575 (by omega) (grow e) (Qh4 hck)
 have hm0:=mxT_ge (grow e)
 refine zA ?_
 refine zca hΓc (Q7y hΓc e he.eo t1.k t1.ne) hou ?_
 repeat ((fail_if_success ((with_reducible refine oj ?_);refine AOps.atDst 36 rfl ?_));first|refine zO ?_)
 refine zS (AStep.buildOwn (s:=3) tabOk rfl rfl rfl rfl rfl rfl rfl) ?_
 refine AOps.wkObj (.l 1) rfl (cs':=vec 3 ([(⟨-1,[],[]⟩:FnD)].map encF) 1) (fun w C xs h=>(show WkL _ _ from .cons (.refl _) (.cons (.nilS 1) (.cons (.nilS 5) .nil))) w C xs h) ?_
 refine zA ?_
 refine zca hΓc (Qe4 hΓc (grow e) hT.ok) hou ?_
 refine zM ?_
 refine zS (AStep.makeMap rfl) ?_
 repeat ((fail_if_success ((with_reducible refine oj ?_);refine AOps.atDst 47 rfl ?_));first|refine zO ?_)
 refine AOps.cedes [1,2,3,4] rfl (by decide) hou fun q hq=>⟨[(46,.one (.ptr (.o (q+3)) 0)),(43,.one (.box (cTr (grow e)))),(42,.one (.ptr (.o (q+1)) 0)),(8,.one (.ptr (.o (q+1)) 0)),(3,.one (int 0)),(2,.one (.ptr (.l 0) 0))],[(0,.cells [nilS2,int 0])],[.cells (vec 3 ([(⟨-1,[],[]⟩:FnD)].map encF) 1),.cells [.arr (.o q) 3 0 1 1,int (mxT (grow e)+1),.lit (.bool false)],.map 0 [],.cells [int 0,.mp (.o (q+2)),int 0]],?_,?_,?_,?_⟩
 ·exact .cons rfl rfl (.consP rfl (by simp) (.cons rfl rfl (.cons rfl rfl (.consP rfl (by simp) (.cons rfl rfl .nil)))))
 ·exact .cons rfl rfl rfl .nil
 ·exact .cons rfl rfl (.cons rfl rfl (.cons rfl rfl (.cons rfl rfl .nil)))
 have hq:∀m,q<=m->ou m=none:=hq
 have hold:∀j,ou j≠none->j < q:=fun j hj=>by
  rcases Nat.lt_or_ge j q with h1|h1
  ·exact h1
  ·exact absurd (hq j h1) hj
 obtain⟨ou1,hou1⟩:∃x,x=ouAdd ou q [.cells (vec 3 ([(⟨-1,[],[]⟩:FnD)].map encF) 1),.cells [.arr (.o q) 3 0 1 1,int (mxT (grow e)+1),.lit (.bool false)],.map 0 [],.cells [int 0,.mp (.o (q+2)),int 0]]:=⟨_,rfl⟩
 refine AOps.stEq (σ':=⟨5,[(0,.cells [nilS2,int 0])],ou1⟩) (by rw[hou1];rfl) ?_
 have hb1:BR ou1 (q+1) q 1 (bs0 e):=by rw[hou1];exact⟨Q0x 1,Q0x 0,Nat.le_refl _⟩
 have hs1:SR ou1 (q+3) sc0:=by rw[hou1];exact⟨q+2,0,[],Q0x 3,Q0x 2,IMOk.nil⟩
 have ho1:OuOk ou1:=by
  rw[hou1]
  refine Q6l hou fun o ho=>?_
  simp only[List.mem_cons,List.not_mem_nil,or_false]at ho
  rcases ho with rfl|rfl|rfl|rfl
  ·exact Q35 _ (Q4c _)
  ·exact⟨trivial,trivial,trivial,trivial⟩
  ·simp
  ·exact⟨trivial,trivial,trivial,trivial⟩
 have hkeep:∀j,ou j≠none->ou1 j=ou j:=fun j hj=>by rw[hou1];exact Q16 (hold j hj)
 clear hou1
 have hcn:=hT.c4
 have hB:Bn (bs0 e) (cntN (grow e)):=⟨by show (0:Int)<=mxT (grow e)+1;omega,by show mxT (grow e)+1+_<=_;omega,by show 1+_<=_;omega⟩
 have hca:=Q1v (cntN (grow e)) (grow e) hT sc0 (bs0 e) ou1 (q+1) q 1 (q+3) (by decide) hb1 hs1 hB
 refine AOps.call1 hΓc rfl rfl rfl rfl rfl rfl rfl ⟨trivial,by simp,trivial,trivial⟩ ho1 hca fun r o2 hqq _ ho2=>?_
 obtain⟨rfl,kf,cap,hb2,hk2⟩:=hqq
 have hsz:=cv_sz (cntN (grow e)) (grow e) (Nat.le_refl _) hcn hT.fr hT.ok sc0 (bs0 e) (by decide)
 have hmo:=Q5f (cntN (grow e)) (grow e) hT.c hT.fr sc0 (bs0 e)
 have hws:=cv_w (cntN (grow e)) (grow e) hT sc0 (bs0 e) (by decide) (fun f hf=>by
  have:f=⟨-1,[],[]⟩:=by simpa[bs0]using hf
  subst this
  exact⟨by simp,.inl rfl⟩)
 have hlc:=Qde (grow e)
 have hpC:progC e=putD (cvR e).2.fns 0 ((cvR e).2.fns.getD 0 default).params (listT [] (cvR e).1):=rfl
 change BR o2 (q+1) kf cap (cvR e).2 at hb2
 change FnsW (cvR e).2.fns at hws
 change MovB (bs0 e) (cvR e).2 _ at hmo
 change cntN (cvR e).1<=_/\okT (cvR e).1 at hsz
 refine AOps.wk 47 rfl (y:=.one (.box (cTr (cvR e).1))) (.refl _) ?_
 generalize hR:cvR e=R at hb2 hws hmo hsz hpC ⊢
 obtain⟨rt,b⟩:=R
 dsimp only at hb2 hws hmo hsz hpC ⊢
 clear hca
 have hsb:(listT [] rt).length<=1099511627776:=by have:=Q1n rt [];simp at this;omega
 have hLs:=Qe5 hΓc rt hsz.2 hsb
 refine zca hΓc hLs ho2 ?_
 have hm2:=hb2.m
 have hln:b.fns.length=1+lamN (grow e):=hmo.len
 have hpos:0 < b.fns.length:=by omega
 repeat ((fail_if_success ((with_reducible refine oj ?_);refine AOps.atDst 54 rfl ?_));first|refine zO ?_|((with_reducible refine oj ?_);first|refine zix ?_|refine zow rfl rfl hm2 ?_))
 refine zS (AStep.idxOwn (n:=0) (s:=3) (off:=0) (j:=.o kf) (len:=b.fns.length) (cap:=cap) tabOk rfl rfl rfl rfl rfl rfl rfl hpos) ?_
 refine zA ?_
 refine AOps.storeOwn (j:=.o kf) (off:=0 * 3+0 * 3+2) (cs:=vec 3 (b.fns.map encF) cap) tabOk rfl rfl rfl rfl rfl rfl rfl hb2.f (by have:=Q6v (cap:=cap) (Q3f b.fns) (by simpa using hb2.c);have:=hb2.c;omega) ?_
 rw[show 0 * 3+0 * 3+2=0 * 3+2 from rfl,Qgy hpos (listT [] rt),←hpC]
 have hpl:(progC e).length=b.fns.length:=by rw[hpC,Q54]
 obtain⟨hb3,hk3,ho3⟩:=Qbs hb2 ho2 hpl
 refine AOps.stEq (σ':=⟨5,[(0,.cells [nilS2,int 0])],setA o2 kf cap (progC e)⟩) rfl ?_
 have hm3:=hb3.m
 simp only at hm3
 repeat ((fail_if_success ((with_reducible refine oj ?_);refine AOps.atDst 60 rfl ?_));first|refine zO ?_|((with_reducible refine oj ?_);first|refine zix ?_|refine zow rfl rfl hm3 ?_))
 refine AOps.freezeArr (.o kf) 59 hb3.f (Q3f _) (by show _=some (FV.one (.arr (.o kf) 3 0 _ cap));rw[List.length_map];rfl) ?_
 obtain⟨o4,ho4e⟩:∃x:Outer,x=fun j=>bif Nat.beq j kf then some .dead else setA o2 kf cap (progC e) j:=⟨_,rfl⟩
 refine AOps.stEq (σ':=⟨5,[(0,.cells [nilS2,int 0])],o4⟩) (by rw[ho4e];rfl) ?_
 have ho4:OuOk o4:=by rw[ho4e];exact Q9s ho3 kf
 have hm4:o4 (q+1)=some (.cells [.arr (.o kf) 3 0 (progC e).length cap,int b.next,.lit (.bool b.bad)]):=by
  rw[ho4e]
  show (bif Nat.beq (q+1) kf then some AObj.dead else _)=_
  rw[Q05 hb3.ne];exact hm3
 have hk4:∀j o,ou j=some o->o4 j=some o:=fun j o hj=>by
  have h1:ou j≠none:=by rw[hj];simp
  have h2:=hold j h1
  have h3:=hkeep j h1
  have h5:j≠kf:=fun e=>by
   rcases hk2.nw with h|h
   ·omega
   ·rw[←e,h3]at h;exact h1 h
  rw[ho4e]
  show (bif Nat.beq j kf then some AObj.dead else _)=_
  rw[Q05 h5,cond_false,hk3.old j (by omega) h5 (by rw[hk2.old j (by omega) (by omega) (by rw[h3];exact h1),h3];exact h1),hk2.old j (by omega) (by omega) (by rw[h3];exact h1),h3]
  exact hj
 refine AOps.wk 59 rfl (y:=.one (.sl 3 ((progC e).map encF))) (.refl _) ?_
 refine zA ?_
 repeat ((fail_if_success ((with_reducible refine oj ?_);refine AOps.atDst 65 rfl ?_));first|refine zO ?_|((with_reducible refine oj ?_);first|refine zix ?_|refine zow rfl rfl hm4 ?_))
 refine AOps.lessO ⟨6,[(5,.cells [.sl 3 ((progC e).map encF),int 0]),(5,.cells [nilS2,int 0]),(0,.cells [nilS2,int 0])],ou⟩ rfl (fun i o ho=>?_) ?_
 ·cases i with
  |l m=>exact ho
  |o m=>exact hk4 m o ho
 clear hk4 hm4 ho4 ho4e hm3 hk3 hb3 ho3 hb2 hm2 hk2 hkeep ho1 hs1 hb1 hold hq
 cases hbd:b.bad with
 |true=>
  refine zM ?_
  exact AFn.fin' rfl (.refl _) (by simp[idsF]) hou ⟨rfl,.inr (.inr ⟨hck,hph,.inl ⟨rfl,fun h=>by rw[hR]at h;simp[hbd]at h⟩⟩)⟩
 |false=>
  refine zM ?_
  by_cases hok:PrgOk (progC e) 0
  ·refine zca hΓc (Qaz (progC e) 0 hok) hou ?_
   refine zM ?_
   exact AFn.fin' rfl (.refl _) (by simp) hou ⟨rfl,.inr (.inr ⟨hck,hph,.inr rfl⟩)⟩
  have hPW:PrgW (progC e):=⟨by omega,by
   rw[hpC]
   refine FnsW.put hws 0 ?_ (.inr ⟨rt,hsz.2,by omega,rfl⟩)
   rw[List.getD_eq_getElem?_getD,List.getElem?_eq_getElem hpos]
   exact (hws _ (List.getElem_mem hpos)).1⟩
  refine AOps.call1 hΓc rfl rfl rfl rfl rfl rfl rfl (by simp) hou (Qiq (progC e) hPW ou) fun r ou' hqq _ _=>?_
  obtain⟨⟨k,rfl⟩,rfl⟩:=hqq
  refine zM ?_
  refine ACode.cond rfl (fun _=>?_) (fun _=>?_)
  ·refine zM ?_
   exact AFn.fin' rfl (.refl _) (by simp[idsF]) hou ⟨rfl,.inr (.inr ⟨hck,hph,.inl ⟨rfl,fun h=>hok h.2⟩⟩)⟩
  refine zM ?_
  exact AFn.fin' rfl (.refl _) (by simp[idsF]) hou ⟨rfl,.inr (.inr ⟨hck,hph,.inr rfl⟩)⟩
variable {Γ:List (Nat×List AC)}
structure FragP (fns:List Fun)(l:Lab):Prop where
 sh:shpQ l
 op:l.op=0∨l.op=1∨l.op=3∨l.op=4∨l.op=6∨l.op=7∨l.op=8∨l.op=14∨l.op=15∨l.op=16
 pr:l.op=8->l.n=0∨l.n=1∨l.n=2∨l.n=5∨l.n=6∨l.n=7
 bl:l.binds.length<=1048576
 al:l.alts.length<=1048576
 ab:∀a∈l.alts,a.binds.length<=1048576
 kl:l.ops.length<=1048576
 wd:l.op=1->inW l.n
 cl:l.op=14∨l.op=15->0<=l.n/\l.n < fns.length
 ar:l.op=14->(fns.getD l.n.toNat ⟨[],default⟩).params.length=l.ops.length
 sl:l.op=16->0<=l.n
def G4 (fns:List Fun):GP:={ p:=FragP fns,S:=fun _=>True,W:=inW,fns:=fns,R:=False }
structure FnsP (fns:List Fun):Prop where
 b:∀f∈fns,allT (FragP fns) f.body
 p:∀f∈fns,f.params.length<=1048576
theorem G4ok{fns:List Fun}(hf:FnsP fns):GPok (G4 fns) where
 sh:=fun l h=>h.sh
 bnd:=fun _ _ _ _=>trivial
 wd:=fun l h h1=>h.wd h1
 rc:=fun l h h1=>by
  exfalso
  have:=h.op
  omega
 wr:=(G1ok true).wr
 wl:=(G1ok true).wl
 wm:=(G1ok true).wm
 fn:=fun f h=>⟨hf.b f h,fun _ _=>trivial⟩
 cl:=fun l h ho=>h.cl ho
 rs:=fun l h ho=>by
  have:=h.op
  exfalso;omega
theorem G4opn{fns:List Fun}{t:Tr}(h:allT (FragP fns) t):opdN t<=1048576:=by
 have F:FragP fns ⟨t.op,t.n,t.binds,t.kids.map Tr.op,t.alts⟩:=Q0v h
 have:=F.kl
 simp at this
 unfold opdN
 split <;> omega
theorem kidC4(hΓ:∀g cs,(g,cs)∈Γ->idsL isO cs){fu:Int}{fns:List Fun}(hf:FnsP fns):KidC fu (.sl 2 (fns.map cFun)) (G4 fns) Γ:=by
 intro ou H nm m m' t e d k ec kc tc0 ec0 vc0 kc0 dc kt h0 he hd hk ht hge hgd hle hn hgk hkb hol hx hnx
 have F:FragP fns ⟨t.op,t.n,t.binds,t.kids.map Tr.op,t.alts⟩:=Q0v ht
 have hsh:=g_sh (G4ok hf) ht
 have hopk:=g_opN (G4ok hf) ht
 have hfc:(FcT.mk (.sl 2 (fns.map cFun)) kt).ids isO:=by show idsS isO _;simp
 have hx0:kidM fu fns m (.mk t e d) k=.ok m':=hx
 by_cases hlt:d.length < opdN t
 ·obtain⟨s,hs⟩:=Q01 (Nat.lt_of_lt_of_le hlt hopk)
  have:=AFnP.okStep (Qid (fns:=fns) hΓ h0 hfc he hd hk hlt hs) hx0
  rwa [hx0]at this
 have hl:d.length=opdN t:=by omega
 have hnl:¬(Fm.mk t e d).done.length < opdN (Fm.mk t e d).t:=hlt
 obtain⟨o,n,b,ks,al⟩:=t
 simp only[Tr.op,Tr.n,Tr.binds,Tr.kids,Tr.alts]at F hsh
 have hops:o=3∨o=4∨o=6∨o=7∨o=8∨o=14∨o=15∨o=16:=by
  have h1:=F.op
  unfold nLf at hn
  simp only[Tr.op]at hn
  simp only at h1
  omega
 rcases hops with rfl|rfl|rfl|rfl|rfl|rfl|rfl|rfl
 ·have hopn:opdN (.mk 3 n b ks al)=ks.length:=rfl
  have hkl:=hsh.app.1
  rw[hopn]at hl
  match d,hd,hl with
  |[],_,hl=>simp at hl;omega
  |v0::ds,hd,hl=>
   obtain⟨c0,dcs,rfl,hv0,hds⟩:=hd.consE
   have hcm:callM fns { m with k:=k } v0 ds=.ok m':=by
    unfold kidM at hx0
    rw[if_neg hnl]at hx0
    exact hx0
   refine kid_app hΓ h0 hfc he hv0 hds hk (by simpa using hl) rfl (fun ou' h0'=>?_)
   cases v0 with
   |clo t' e'=>
    obtain⟨g1,g2,_⟩:=hgd.1
    have:=(Q0v g2).op
    simp only[g1]at this
    omega
   |cap g s=>
    obtain⟨⟨hg0,hg1⟩,_⟩:=hgd.1
    obtain⟨i,rfl⟩:∃i:Nat,g=(i:Int):=⟨g.toNat,by omega⟩
    have hi:i < fns.length:=by have:((i:Int)) < ((G4 fns).fns.length:Int):=hg1;simpa[G4]using this
    obtain⟨f,hfi⟩:=Q01 hi
    have hgd':fns.getD (i:Int).toNat ⟨[],default⟩=f:=by rw[Int.toNat_natCast,List.getD_eq_getElem?_getD,hfi];rfl
    simp only[callM,hgd']at hcm
    split at hcm
    ·rename_i hpl
     cases hcm
     exact Qiv hΓ h0' hk hv0 hfi hds hpl (hf.p f (List.mem_of_getElem? hfi))
    ·cases hcm
   |res fs=>exact hgd.1.1.elim
   |_=>cases hcm
 · -- a let
  obtain⟨v,rfl⟩:=list1 (l:=d) hl
  obtain⟨hk2,hb1,_⟩:=hsh.lett
  obtain⟨id,rfl⟩:=list1 hb1
  obtain⟨s0,s1,rfl⟩:=list2 hk2
  have:=AFnP.okStep (kid_let (fns:=fns) (t:=.mk 4 n [id] [s0,s1] al) (s:=s1) (id:=id) hΓ h0 hfc he hd hk (v:=v) rfl rfl rfl rfl) hx0
  rwa [hx0]at this
 · -- a constructor
  have hp:({ m with k:=k,c:=.rt (.obj n d) }:Ms)=m':=by
   unfold kidM at hx0
   rw[if_neg hnl]at hx0
   cases hx0;rfl
  subst hp
  exact Qao hΓ h0 hfc he hd hk hl (by simp[Tr.op]) fun ou' h0'=>Qfp hΓ h0' hd rfl
 · -- a choice
  obtain⟨v,rfl⟩:=list1 (l:=d) hl
  have hcm:Q2e { m with k:=k } (.mk 7 n b ks al) e v=.ok m':=by
   unfold kidM at hx0
   rw[if_neg hnl]at hx0
   exact hx0
  refine Qif hΓ h0 hfc he hd hk rfl rfl (fun ou' h0'=>?_)
  have:=AFnP.okStep (Qh3 (t:=.mk 7 n b ks al) hΓ h0' hfc he hd hk (v:=v) rfl hsh.case.1 F.al F.ab kc hk.ids) hcm
  rwa [hcm]at this
 · -- a primitive
  have hpn:=hsh.prim
  have hopn:opdN (.mk 8 n b ks al)=ks.length:=rfl
  rw[hopn]at hl
  have hpm:(Q3i fu { m with k:=k } (.mk 8 n b ks al) d).map (fun (m',v)=>{ m' with c:=.rt v })=.ok m':=by
   unfold kidM at hx0
   rw[if_neg hnl]at hx0
   exact hx0
  have hpm2:Q3i fu { m with k:=k } (.mk 8 n b ks al) d=primM fu { m with k:=k } n d:=rfl
  rw[hpm2]at hpm
  cases hpr:primM fu { m with k:=k } n d with
  |error c=>rw[hpr]at hpm;cases hpm
  |ok mv=>
   obtain⟨m1,v⟩:=mv
   rw[hpr]at hpm
   cases hpm
   have hpk:=(Q3q (fu:=fu) (m:={ m with k:=k }) (t:=.mk 8 n b ks al) (l:=d) (m':=m1) (v:=v) hpr).2.2
   have hfin:({ m1 with c:=.rt v }:Ms)={ m1 with c:=.rt v,k:=k }:=by cases m1;simp only at hpk;rw[hpk]
   show AFn Tryz.prog Γ 69 _ ou (StQ fu ⟨(.sl 2 (fns.map cFun)),kt⟩ H nm (.ok { m1 with c:=.rt v }))
   rw[hfin]
   refine Qao hΓ h0 hfc he hd hk hl (by simp[Tr.op]) fun ou' h0'=>Qee hΓ hd rfl ?_
   rcases F.pr rfl with hn2|hn2|hn2|hn2|hn2|h7
   iterate 5
    ·have hn5:n=0∨n=1∨n=2∨n=5∨n=6:=by simp only at hn2;omega
     have hk2:ks.length=2:=by
      have:=hpn.2.2.1
      simp only at hn2
      subst hn2
      simp[Q43]at this
      omega
     obtain⟨x0,y0,rfl⟩:=list2 (l:=d) (by omega)
     obtain⟨x,y,rfl,rfl⟩:=Qec hn5 hpr
     obtain⟨c0,d1,rfl,hv0,hd1⟩:=hd.consE
     obtain⟨c1,d2,rfl,hv1,hd2⟩:=hd1.consE
     have hz:=hd2.nilE
     subst hz
     have e0:=hv0.wordE
     have e1:=hv1.wordE
     subst e0;subst e1
     obtain⟨hm1,c,hvc,hpa⟩:=Qhx (Γ:=Γ) (H:=H) (nm:=nm) hΓ hn5 hgd.1 hgd.2.1 hpr ou'
     subst hm1
     refine AFn.mono hpa fun r ou2 hq=>?_
     obtain⟨rfl,rfl⟩:=hq
     exact⟨kt,H,nm,c,rfl,.refl _ _,hvc,⟨h0'.ids,h0'.m0,h0'.w⟩⟩
   ·simp only at h7
    subst h7
    have hk1:ks.length=1:=by have:=hpn.2.2.1;simp[Q43]at this;omega
    obtain⟨x0,rfl⟩:=list1 (l:=d) (by omega)
    cases hx1:wordV x0 with
    |error c=>simp[primM,hx1,bind,Except.bind]at hpr
    |ok a=>
     have e0:=Qbj hx1
     subst e0
     simp only[primM,wordV,List.getD_cons_zero,bind,Except.bind,pure,Except.pure,if_true,if_neg (show ¬(7:Int)=0 by decide),if_neg (show ¬(7:Int)=1 by decide),if_neg (show ¬(7:Int)=2 by decide),if_neg (show ¬(7:Int)=3 by decide),if_neg (show ¬(7:Int)=4 by decide),if_neg (show ¬(7:Int)=5 by decide),if_neg (show ¬(7:Int)=6 by decide)]at hpr
     split at hpr
     ·cases hpr
     rename_i hne
     cases hpr
     obtain⟨c0,d1,rfl,hv0,hd1⟩:=hd.consE
     have hz:=hd1.nilE
     subst hz
     have e0:=hv0.wordE
     subst e0
     refine AFn.mono (Qed hΓ h0' hfc a hol hne) fun r ou2 hq=>?_
     obtain⟨kt2,H1,nm1,c,q1,q2,q3,q4⟩:=hq
     exact⟨kt2,H1,nm1,c,q1,q2,q3,⟨q4.ids,q4.m0,q4.w⟩⟩
 ·obtain⟨h1,h2⟩:=F.cl (.inl rfl)
  obtain⟨i,rfl⟩:∃i:Nat,n=(i:Int):=⟨n.toNat,by simp only at h1;omega⟩
  have hi:i < fns.length:=by simpa using h2
  obtain⟨f,hfi⟩:=Q01 hi
  have hgd':fns.getD (i:Int).toNat ⟨[],default⟩=f:=by rw[Int.toNat_natCast,List.getD_eq_getElem?_getD,hfi];rfl
  have har:=F.ar rfl
  simp only[hgd',List.length_map]at har
  have hdl:d.length=ks.length:=hl
  have hxm:({ m with c:=.ev f.body (allE .nil f.params d),k:=k }:Ms)=m':=by
   unfold kidM at hx0
   rw[if_neg hnl]at hx0
   have:(Except.ok { m with c:=.ev (fns.getD (i:Int).toNat ⟨[],default⟩).body (allE .nil (fns.getD (i:Int).toNat ⟨[],default⟩).params d),k:=k }:Except Int Ms)=.ok m':=hx0
   rw[hgd']at this
   cases this;rfl
  subst hxm
  exact kid_fn (t:=.mk 14 (i:Int) b ks al) hΓ h0 he hd hk hdl rfl rfl hfi (by omega) (hf.p f (List.mem_of_getElem? hfi))
 ·have hxm:({ m with c:=.rt (.cap n d),k:=k }:Ms)=m':=by
   unfold kidM at hx0
   rw[if_neg hnl]at hx0
   have:(Except.ok { m with c:=.rt (.cap n d),k:=k }:Except Int Ms)=.ok m':=hx0
   cases this;rfl
  subst hxm
  exact Qie hΓ h0 hfc he hd hk hl rfl
 ·have hn0:0<=n:=F.sl rfl
  obtain⟨i,rfl⟩:∃i:Nat,n=(i:Int):=⟨n.toNat,by omega⟩
  have hxm:(match d.getD 0 .nil with
   |.cap _ slots=>if (i:Int) < slots.length then (Except.ok { m with c:=.rt (slots.getD (i:Int).toNat .nil),k:=k }:Except Int Ms)else .error 5
   |_=>.error 5)=.ok m':=by
   unfold kidM at hx0
   rw[if_neg hnl]at hx0
   exact hx0
  have hopn:opdN (.mk 16 (i:Int) b ks al)=ks.length:=rfl
  have hk1:ks.length=1:=by
   obtain⟨ops,ho,hs⟩:=hsh.sh
   simp[Go.CoreX.shape,wants]at hs
   omega
  obtain⟨v,rfl⟩:=list1 (l:=d) (by omega)
  obtain⟨c,dd,rfl,hv,hdd⟩:=hd.consE
  have hz:=hdd.nilE
  subst hz
  simp only[List.getD_cons_zero]at hxm
  cases v with
  |cap g s=>
   simp only at hxm
   split at hxm
   ·rename_i hlt2
    have hls:i < s.length:=by omega
    obtain⟨y,hy⟩:=Q01 hls
    have hgy:s.getD (i:Int).toNat .nil=y:=by rw[Int.toNat_natCast,List.getD_eq_getElem?_getD,hy];rfl
    rw[hgy]at hxm
    cases hxm
    exact Qic (t:=.mk 16 (i:Int) b ks al) hΓ h0 hfc he hv hk hk1 rfl rfl hy
   ·cases hxm
  |_=>cases hxm
theorem startC4(hΓ:∀g cs,(g,cs)∈Γ->idsL isO cs){fu:Int}{fns:List Fun}(hf:FnsP fns):StartC fu (.sl 2 (fns.map cFun)) (G4 fns) Γ:=by
 intro ou H nm m m' t e ec vc kc kt h0 he hkr ht hge hgk hkb hol hx hnx
 have F:FragP fns ⟨t.op,t.n,t.binds,t.kids.map Tr.op,t.alts⟩:=Q0v ht
 have hfc:(FcT.mk (.sl 2 (fns.map cFun)) kt).ids isO:=by show idsS isO _;simp
 have hx0:Q2m fu fns m t e=.ok m':=hx
 have hop:=F.op
 simp only at hop
 by_cases e0:t.op=0
 ·have:=Qf8 hΓ h0 hfc he hkr e0
  unfold Q2m at hx0;rw[if_pos e0]at hx0;cases hx0;exact this
 by_cases e1:t.op=1
 ·have:=Qfa hΓ h0 hfc hkr e1
  unfold Q2m at hx0;rw[if_neg e0,if_pos e1]at hx0;cases hx0;exact this
 have hx1:kidM fu fns m (.mk t e []) m.k=.ok m':=by
  unfold Q2m at hx0;rw[if_neg e0,if_neg e1,if_neg (by omega),if_neg (by omega),if_neg (by omega)]at hx0;exact hx0
 have hnl:nLf t.op:=fun h=>by omega
 exact Qfb hΓ h0 he hkr hnl (kidC4 hΓ hf ou H nm m m' t e [] m.k ec kc _ _ _ _ [] kt h0 he .nil hkr ht hge trivial (Nat.zero_le _) hnl hgk hkb hol hx1 hnx)
def WholeR (fs:List FnD)(f0:FnD)(fu:Int)(r0:FV):Prop:=AFn Tryz.prog Γc 34 [.one (.ptr (.o 0) 0)] (ouOf [.cells (mC (.box (cTr (grow f0.body))) nilPE (.lit .nilIface) nilPE [] 0 fu ⟨.sl 2 ((funsD fs).map cFun),1⟩),.tok 3 1 0]) (fun r ou'=>r=r0/\ou'=ouOf [.dead,.dead])
theorem Qck{fu:Int}{fs:List FnD}{main:Nat}{f0:FnD}{out:List (List AC)}{c1 c2 c3 c4:AC}(hok:PrgOk fs main)(hf0:fs[main]?=some f0)(hr0:∀p:Abs.Id->Prop,(FV.tup [.agg [.sl 1 out,c1,c2],.one c3,.one c4]).ids p)(hwh:WholeR fs f0 fu (.tup [.agg [.sl 1 out,c1,c2],.one c3,.one c4])):
  APure Tryz.prog Γc 28 [.agg [.sl 3 (fs.map encF),int (main:Int)],.one (int fu)] (.tup [.agg [.sl 1 out,c1,c2],.one c3,.one c4]):=by
 have hfl:=hok.l
 intro ou
 refine AFn.walk 53 tabOk Tryz.func28 rfl (by kernel_rfl) rfl rfl fun hou=>?_
 refine zA ?_
 refine ACode.grow 2 7 90 2 rfl rfl ?_
 refine ACode.loopR hΓc (α:=Nat) (fun j=>[(16,.one (int j)),(15,.one (int (fs.map encF).length)),(14,.one (.sl 3 (fs.map encF))),(7,.one (.ptr (.l 2) 0)),(4,.one (.ptr (.l 1) 0)),(2,.one (.ptr (.l 0) 0)),(6,.one (int 0)),(5,.one (int 0))])
  (fun j=>⟨4,[(3,.tok 90 2 j),(2,.cells [nilPE,nilPE,.lit .nilIface,nilPE,nilS,int 0,int fu,.gs 2 ((funsD (fs.take j)).map cFun) (.l 3)]),(1,.cells [nilS,int 0,int 0]),(0,.cells [.sl 3 (fs.map encF),int (main:Int)])],ou⟩) (fun m j=>j<=fs.length/\m=fs.length - j) (a0:=0) (ρ:=_root_.id) ⟨by omega,rfl⟩
  (LessR.of rfl zFS (by simp) ?_ rfl rfl hou) fun m j hj=>?_
 ·repeat' first|exact LoSub.nil|refine zlc ?_|refine zld ?_ ?_|rfl
  all_goals (simp[AObj.ren,renL,AC.ren];rfl)
 obtain⟨hjl,rfl⟩:=hj
 refine zA ?_
 refine ACode.cond rfl (fun hb2=>?_) (fun hb2=>?_)
 ·have hlt:j < fs.length:=by simpa using hb2
  obtain⟨x,hx⟩:=Q01 hlt
  have hxb:=hok.b x (List.mem_of_getElem? hx)
  have t1:=Q15 hxb.b
  have hgr:=Q7y hΓc x.body hxb.okb.eo t1.k t1.ne
  have hjl2:((funsD (fs.take j)).map cFun).length=j:=by simp[Qgo];omega
  refine zA ?_
  refine zS (zIA rfl rfl rfl (by omega) (Q04 hx)) ?_
  refine zA ?_
  refine ACode.drawXH (va:=.one (.gs 2 ((funsD (fs.take j)).map cFun++[cFun (funD x)]) (.l 5))) (σ1:=((((St.mk 4 [(3,.tok 90 2 j),(2,.cells [nilPE,nilPE,.lit .nilIface,nilPE,nilS,int 0,int fu,.gs 2 ((funsD (fs.take j)).map cFun) (.l 3)]),(1,.cells [nilS,int 0,int 0]),(0,.cells [.sl 3 (fs.map encF),int (main:Int)])] ou).push (.cells (ti42.zero.map .lit))).set (.l 4) (.cells (encF x))).set (.l 3) .dead).push (.tok 90 2 ((funsD (fs.take j)).map cFun++[cFun (funD x)]).length))
   tabOk 13 12 [(9,.one (.box (cTr (grow x.body))))] follows (by kernel_rfl) rfl rfl rfl rfl rfl rfl rfl ?_ ?_ ?_ ?_
  ·refine HStep.plain rfl (AStep.append (s:=2) (es:=(funsD (fs.take j)).map cFun) (news:=[cFun (funD x)]) (ti:=ti73) (σ:=((St.mk 4 [(3,.tok 90 2 j),(2,.cells [nilPE,nilPE,.lit .nilIface,nilPE,nilS,int 0,int fu,.gs 2 ((funsD (fs.take j)).map cFun) (.l 3)]),(1,.cells [nilS,int 0,int 0]),(0,.cells [.sl 3 (fs.map encF),int (main:Int)])] ou).push (.cells (ti42.zero.map .lit))).set (.l 4) (.cells (encF x))) tabOk rfl rfl rfl rfl rfl rfl (Base.gs' _ 90 2 ((funsD (fs.take j)).map cFun) (.l 3) rfl hjl2.symm) (.sl _ _) rfl ?_ ?_)
   ·rw[hjl2];show (j+1) * 32<=_;omega
   ·rw[hjl2];show j+1<=_;omega
  ·exact .call hΓc hgr hou (by simp) rfl rfl rfl rfl rfl rfl .nil
  ·exact .call hΓc hgr hou (by simp) rfl rfl rfl rfl rfl rfl .nil
  refine zM ?_
  refine cInv ⟨fs.length - (j+1),j+1,fun k=>if k=3 then 5 else k,by omega,⟨by omega,rfl⟩,LessR.of rfl zFS (by simp) ?_ rfl rfl hou⟩
  repeat' first|exact LoSub.nil|refine zlc ?_|refine zld ?_ ?_|rfl
  ·simp only[AObj.ren,List.length_append,hjl2];rfl
  ·rw[Qeo hx];simp only[AObj.ren,renL,AC.ren,Qfm];rw[List.map_append];rfl
 have hlt:j=fs.length:=by simp at hb2;omega
 subst hlt
 rw[List.take_length]
 refine zA ?_
 refine ACode.wkObj (.l 2) rfl (cs':=[nilPE,nilPE,.lit .nilIface,nilPE,nilS,int 0,int fu,.sl 2 ((funsD fs).map cFun)]) (fun w C xs h=>(show WkL _ _ from .cons (.refl _) (.cons (.refl _) (.cons (.refl _) (.cons (.refl _) (.cons (.refl _) (.cons (.refl _) (.cons (.refl _) (.cons (.gsE rfl) .nil)))))))) w C xs h) ?_
 refine ACode.drawX tabOk 12 [(7,.one (.box (cFun (funD f0))))] follows (by kernel_rfl) rfl rfl rfl rfl ?_ ?_
 ·exact .step rfl (zHP (zIA rfl rfl rfl (Int.natCast_nonneg main) (Qix hf0))) .nil
 repeat ((fail_if_success ((with_reducible refine oj ?_);refine AOps.atDst 49 rfl ?_));first|refine zO ?_)
 refine AOps.growO 2 4 3 1 rfl rfl ?_
 refine AOps.callR [.l 2,.l 4] [.one (.ptr (.o 0) 0)] [.cells (mC (.box (cTr (grow f0.body))) nilPE (.lit .nilIface) nilPE [] 0 fu ⟨.sl 2 ((funsD fs).map cFun),1⟩),.tok 3 1 0] hΓcF rfl rfl rfl rfl rfl rfl ?_ ?_ ?_ ?_ ?_ hwh ?_
 ·rfl
 ·simp[inO]
 ·simp
 ·refine⟨?_,rfl,trivial⟩
  simp only[AObj.sub,mC,subL,AC.sub,nameOf,List.map_nil,subS]
  rw[Q1c _ _ (by simp),Q6z _ _ (Q6n _ _)]
  rfl
 ·simp[inO,mC]
  exact Q6n _ _
 intro r ou' hq
 obtain⟨rfl,rfl⟩:=hq
 refine⟨[.dead,.dead],rfl,rfl,by simp,hr0 _,?_⟩
 rw[FV.sub_pure _ _ (hr0 _)]
 refine zA ?_
 exact APure.fin rfl (WkF.ofEq rfl) (hr0 _) hou rfl
theorem Qip{fu:Int}{fs:List FnD}{main:Nat}{f0:FnD}{out:List (List AC)}{c1 c2 c3 c4:AC}(hfu:1<=fu/\fu<=1000000)(hok:PrgOk fs main)(hf0:fs[main]?=some f0)(hr0:∀p:Abs.Id->Prop,(FV.tup [.agg [.sl 1 out,c1,c2],.one c3,.one c4]).ids p)(hwh:WholeR fs f0 fu (.tup [.agg [.sl 1 out,c1,c2],.one c3,.one c4])):
  APure Tryz.prog Γc 10 [.agg [.sl 3 (fs.map encF),int (main:Int)],.one (int fu)] (.tup [.agg [.sl 1 out,c1,c2],.one c3,.one c4]):=by
 intro ou
 refine AFn.walk 27 tabOk Tryz.func10 rfl (by kernel_rfl) rfl rfl fun hou=>?_
 refine zA ?_
 refine zca hΓc (Qaz fs main hok) hou ?_
 refine zM ?_
 have hf1:decide (fu < 1)=false:=by simp;omega
 refine AOps.wk 16 rfl (y:=.one (.lit (.bool false))) (.ofEq (by show FV.one (.lit (.bool (decide (fu < 1))))=_;rw[hf1])) ?_
 refine zM ?_
 refine ACode.cond rfl (fun hb=>absurd (show 1000000 < fu by simpa using hb) (by omega)) (fun _=>?_)
 refine zM ?_
 refine zca hΓc (Qck hok hf0 hr0 hwh) hou ?_
 refine zM ?_
 exact APure.fin rfl (WkF.ofEq rfl) (hr0 _) hou rfl
structure PRunsP (fu:Int)(fs:List FnD)(main:Nat)(mf:Ms)(vf:Vl):Prop where
 ok:PrgOk fs main
 fns:FnsP (funsD fs)
 fu0:1<=fu/\fu<=1000000
 go:∃g f,fs[main]?=some f/\goX fu (funsD fs) g ⟨.ev (grow f.body) .nil,[],[],0,[]⟩=some (.done mf vf)
 out:mf.out.length<=1000
 st:mf.steps<=fu
theorem Qio{fu:Int}{fs:List FnD}{main:Nat}{mf:Ms}{vf:Vl}(h:PRunsP fu fs main mf vf):
  APure Tryz.prog Γc 10 [.agg [.sl 3 (fs.map encF),int (main:Int)],.one (int fu)] (.tup [.agg [.sl 1 (mf.out.map cI),int 0,int (lastV vf)],.one (int mf.steps),.one (int 0)]):=by
 obtain⟨g,f0,hf0,hg⟩:=h.go
 have hac:(AC.sl 2 ((funsD fs).map cFun)).ids isO:=by show idsS isO _;exact Q8i _
 have hM0:=Qj6 (grow f0.body) fu (.sl 2 ((funsD fs).map cFun)) hac
 have hkc:=kidC4 hΓc (fu:=fu) h.fns
 have hsc:=startC4 hΓc (fu:=fu) h.fns
 have hbm:allT (FragP (funsD fs)) (grow f0.body):=h.fns.b _ (List.mem_map.2 ⟨f0,List.mem_of_getElem? hf0,rfl⟩)
 have hgm:gM (G4 (funsD fs)) ⟨.ev (grow f0.body) .nil,[],[],0,[]⟩:=⟨⟨hbm,trivial⟩,trivial,fun r hr=>by cases hr⟩
 have hrun:=run_ok hΓc (ac:=.sl 2 ((funsD fs).map cFun)) hac (G4ok h.fns) (fun t ht=>G4opn ht) hkc hsc hM0 hgm hg (fun hr=>hr.elim) h.out ⟨by have:=h.fu0;omega,h.fu0.2⟩ (by simp) h.st
 have hwh0:=Qhj (ac:=.sl 2 ((funsD fs).map cFun)) (kt0:=1) hΓc hrun
 refine Qip h.fu0 h.ok hf0 (fun p=>by simp) ?_
 refine AFn.forgetD (AFn.mono hwh0 fun r ou' hq=>⟨ouOf [.dead,.dead],fun m o hmo=>?_,hq,rfl⟩)
 match m,hmo with
 |0,hmo=>cases hmo;exact .inr ⟨rfl,_,rfl⟩
 |1,hmo=>cases hmo;exact .inr ⟨rfl,_,rfl⟩
 |m+2,hmo=>simp[ouOf]at hmo
set_option maxRecDepth 100000
theorem Qaf{e:List Ex}(he:okB e)(hck:check e=0):FnsW (progC e)/\(progC e).length=1+lamN (grow e):=by
 have hT:=Qa6 he hck
 have hcn:=hT.c4
 have hsz:=cv_sz (cntN (grow e)) (grow e) (Nat.le_refl _) hcn hT.fr hT.ok sc0 (bs0 e) (by decide)
 have hmo:=Q5f (cntN (grow e)) (grow e) hT.c hT.fr sc0 (bs0 e)
 have hws:=cv_w (cntN (grow e)) (grow e) hT sc0 (bs0 e) (by decide) (fun f hf=>by
  have:f=⟨-1,[],[]⟩:=by simpa[bs0]using hf
  subst this
  exact⟨by simp,.inl rfl⟩)
 change FnsW (cvR e).2.fns at hws
 change MovB (bs0 e) (cvR e).2 _ at hmo
 change cntN (cvR e).1<=_/\okT (cvR e).1 at hsz
 have hln:(cvR e).2.fns.length=1+lamN (grow e):=hmo.len
 have hpos:0 < (cvR e).2.fns.length:=by omega
 refine⟨?_,by rw[progC,Q54,hln]⟩
 refine FnsW.put hws 0 ?_ (.inr ⟨_,hsz.2,by omega,rfl⟩)
 rw[List.getD_eq_getElem?_getD,List.getElem?_eq_getElem hpos]
 exact (hws _ (List.getElem_mem hpos)).1
def callB (fs:List FnD)(x:Ex):Bool:=!(x.op==14||x.op==15)||(decide (0<=x.n)&&match fs[x.n.toNat]? with
 |some g=>(!(x.op==14)||x.kids.length==g.params.length)&&(!(x.op==15)||!(g.params.length==0))
 |none=>false)
theorem Qiw{fs:List FnD}{x:Ex}(h:callB fs x=true):Qce fs x:=fun ho=>by
 unfold callB at h
 have h0:(x.op==14||x.op==15)=true:=by rcases ho with h|h <;> simp[h]
 rw[h0]at h
 simp only[Bool.not_true,Bool.false_or,Bool.and_eq_true,decide_eq_true_eq]at h
 obtain⟨h1,h2⟩:=h
 split at h2
 ·rename_i g hg
  simp only[Bool.and_eq_true,Bool.or_eq_true,Bool.not_eq_true',beq_eq_false_iff_ne,beq_iff_eq]at h2
  exact⟨x.n.toNat,g,by omega,hg,fun h=>h2.1.resolve_left (by simp[h]),fun h=>h2.2.resolve_left (by simp[h])⟩
 ·cases h2
def fnB (fs:List FnD)(f:FnD):Bool:=(decide (-1<=f.name)&&decide (f.name < 1048576))&&decide (f.params.length<=6)&&f.params.all (fun x=>decide (0<=x)&&decide (x < 1048576))&&decide (f.body.length<=4096)&&body f.body f.params true==0&&f.body.all (callB fs)
theorem fnB_ok{fs:List FnD}{f:FnD}(hq:BodyQ f.body)(h:fnB fs f=true):FnOkD fs f:=by
 unfold fnB at h
 simp only[Bool.and_eq_true,decide_eq_true_eq,List.all_eq_true,beq_iff_eq]at h
 obtain⟨⟨⟨⟨⟨h1,h2⟩,h3⟩,h4⟩,h5⟩,h6⟩:=h
 exact⟨h1,h2,h3,hq.okB h4,h5,fun x hx=>Qiw (h6 x hx)⟩
def Qgr (fns:List Fun)(l:Lab):Bool:=
 Go.CoreX.shape ⟨l.op,l.n,l.binds,l.ops,l.alts⟩&&(l.op==0||l.op==1||l.op==3||l.op==4||l.op==6||l.op==7||l.op==8||l.op==14||l.op==15||l.op==16)&&(!(l.op==8)||(l.n==0||l.n==1||l.n==2||l.n==5||l.n==6||l.n==7)) &&
 decide (l.binds.length<=1048576)&&decide (l.alts.length<=1048576)&&(l.alts.all fun a=>decide (a.binds.length<=1048576))&&decide (l.ops.length<=1048576)&&(!(l.op==1)||(decide (-1073741824<=l.n)&&decide (l.n<=1073741823)))&&(!(l.op==14||l.op==15)||(decide (0<=l.n)&&decide (l.n < fns.length)))&&(!(l.op==14)||((fns.getD l.n.toNat ⟨[],default⟩).params.length==l.ops.length))&&(!(l.op==16)||decide (0<=l.n))
theorem Qgq{fns:List Fun}{l:Lab}(h:Qgr fns l=true):FragP fns l:=by
 unfold Qgr at h
 simp only[Bool.and_eq_true,Bool.or_eq_true,Bool.not_eq_true',decide_eq_true_eq,beq_iff_eq,beq_eq_false_iff_ne,Bool.or_eq_false_iff,List.all_eq_true]at h
 obtain⟨⟨⟨⟨⟨⟨⟨⟨⟨⟨h1,h2⟩,h3⟩,h4⟩,h5⟩,h6⟩,h7⟩,h8⟩,h9⟩,h10⟩,h11⟩:=h
 exact⟨shpQ_of h1,by omega,fun h=>by have:=h3.resolve_left (by simp[h]);omega,h4,h5,h6,h7,fun h=>h8.resolve_left (by simp[h]),fun h=>h9.resolve_left (by rcases h with h|h <;> simp[h]),fun h=>h10.resolve_left (by simp[h]),fun h=>h11.resolve_left (by simp[h])⟩
mutual
def allTB (p:Lab->Bool):Tr->Bool
 |.mk o n b k a=>p ⟨o,n,b,k.map Tr.op,a⟩&&Qdz p k
def Qdz (p:Lab->Bool):List Tr->Bool
 |[]=>true
 |t::l=>allTB p t&&Qdz p l
end
mutual
theorem Qe1{p:Lab->Bool}{q:Lab->Prop}(hp:∀l,p l=true->q l):∀t:Tr,allTB p t=true->allT q t
 |.mk o n b k a,h=>by
  rw[allTB,Bool.and_eq_true]at h
  exact⟨hp _ h.1,Qbd hp k h.2⟩
theorem Qbd{p:Lab->Bool}{q:Lab->Prop}(hp:∀l,p l=true->q l):∀l:List Tr,Qdz p l=true->allTs q l
 |[],h=>trivial
 |t::l,h=>by
  rw[Qdz,Bool.and_eq_true]at h
  exact⟨Qe1 hp t h.1,Qbd hp l h.2⟩
end
def fnsPB (fns:List Fun):Bool:=fns.all fun f=>allTB (Qgr fns) f.body&&decide (f.params.length<=1048576)
theorem Qim{fns:List Fun}(h:fnsPB fns=true):FnsP fns:=by
 unfold fnsPB at h
 simp only[List.all_eq_true,Bool.and_eq_true,decide_eq_true_eq]at h
 exact⟨fun f hf=>Qe1 (fun _=>Qgq) _ (h f hf).1,fun f hf=>(h f hf).2⟩
def eLoop:List Ex:=listT [] (loopT 3)
theorem Qah:okB eLoop:=Qd6 (Qby _ (Qd4 3)) (by rw[Qdw];omega)
def runB:Bool:=match goX 999 (funsD (progC eLoop)) 500 ⟨.ev (grow ((progC eLoop).getD 0 default).body) .nil,[],[],0,[]⟩ with
 |some (.done m v)=>decide (m.steps<=999)&&m.out==[6]
 |_=>false
theorem runB_t:runB=true:=by kernel_rfl
theorem Qh1:check eLoop=0:=by kernel_rfl
theorem eLoop_h:hasPH eLoop=false:=by kernel_rfl
theorem eLoop_b:(cvR eLoop).2.bad=false:=by kernel_rfl
theorem eLoop_f:((progC eLoop).all fun f=>fnB (progC eLoop) f)=true:=by kernel_rfl
theorem eLoop_p:fnsPB (funsD (progC eLoop))=true:=by kernel_rfl
theorem Qcb:decide ((progC eLoop).length=2)=true:=by kernel_rfl
theorem eLoop_m:((progC eLoop).getD 0 default).params=[]:=by kernel_rfl
theorem get0D{α:Type} [Inhabited α] {l:List α}(h:0 < l.length):l[0]?=some (l.getD 0 default):=by
 rw[List.getD_eq_getElem?_getD,List.getElem?_eq_getElem h];rfl
theorem Qdu:PrgOk (progC eLoop) 0 where
 l:=by have:=of_decide_eq_true Qcb;omega
 b:=fun f hf=>fnB_ok ((Qaf Qah Qh1).1 f hf).2 (List.all_eq_true.1 eLoop_f f hf)
 m:=⟨_,get0D (by have:=of_decide_eq_true Qcb;omega),eLoop_m⟩
theorem Qgz:∃mf vf,PRunsP 999 (progC eLoop) 0 mf vf/\mf.out=[6]:=by
 have h:=runB_t
 unfold runB at h
 split at h
 ·rename_i m v hg
  simp only[Bool.and_eq_true,decide_eq_true_eq,beq_iff_eq]at h
  exact⟨m,v,⟨Qdu,Qim eLoop_p,by omega,⟨500,_,get0D (by have:=of_decide_eq_true Qcb;omega),hg⟩,by rw[h.2];simp,h.1⟩,h.2⟩
 ·cases h
theorem Qh0{r:FV}(h:CvtR eLoop r):r=.tup [.agg [.sl 3 ((progC eLoop).map encF),int 0],.one (int 0)]:=by
 rcases h with ⟨h,_⟩|⟨_,h,_⟩|⟨_,_,h|h⟩
 ·exact absurd Qh1 h
 ·rw[eLoop_h]at h;cases h
 ·exact absurd ⟨eLoop_b,Qdu⟩ h.2
 ·exact h
theorem Q40:APure Tryz.prog Γc 24 [] (.one (.lit (.bool true))):=by
 intro ou
 refine AFn.walk 29 tabOk Tryz.func24 rfl (by kernel_rfl) rfl rfl fun hou=>?_
 refine zA ?_
 refine zca hΓc (Qj7 hΓc 3) hou ?_
 refine AOps.call1 hΓc rfl rfl rfl rfl rfl rfl rfl (by simp) hou (Q8t eLoop Qah ou) fun r ou' hqq _ _=>?_
 obtain⟨rfl,hq⟩:=hqq
 have:=Qh0 hq
 subst this
 clear hq
 refine zA ?_
 obtain⟨mf,vf,hrun,hout⟩:=Qgz
 have hR:=Qio hrun
 rw[hout]at hR
 refine zca hΓc hR hou ?_
 refine zM ?_
 refine AOps.wk 26 rfl (y:=.one (.sl 1 (([6]:List Int).map cI))) (.refl _) ?_
 refine zca hΓc (Qhg hΓc [6] (by simp)) hou ?_
 refine zM ?_
 exact APure.fin rfl (WkF.ofEq rfl) (by simp) hou rfl
theorem Qj9(hΓ:∀g cs,(g,cs)∈Γ->idsL isO cs)(gf:Nat)(caps:List AC)(hcap:idsL isO caps)(p:Ex->Bool)(xs:List Ex)(hx:xs.length<=1048576)(hf:∀a∈xs,APure Tryz.prog Γ gf (.agg (cEx a)::caps.map .one) (.one (.lit (.bool (p a))))):
  APure Tryz.prog Γ 39 [.one (.sl 5 (xs.map cEx)),.one (.fn (.func gf) [] caps)] (.one (int (idxOf p xs))):=by
 intro ou
 refine AFn.walk 19 tabOk Tryz.func39 rfl (by kernel_rfl) rfl rfl fun hou=>?_
 refine zA ?_
 refine ACode.loopR hΓ (α:=Nat) (fun j=>[(8,.one (int j)),(7,.one (int (xs.map cEx).length)),(1,.one (.fn (.func gf) [] caps)),(0,.one (.sl 5 (xs.map cEx)))])
  (fun j=>⟨0,[],ou⟩) (fun m j=>j<=xs.length/\(∀x∈xs.take j,p x=false)/\m=xs.length - j) (a0:=0) (ρ:=id) ⟨by omega,by simp,rfl⟩ (LessR.of rfl ?_ ?_ zLO rfl rfl hou) fun m j hj=>?_
 ·refine .cons rfl (.ofEq rfl) (.cons rfl (.ofEq rfl) (.consP rfl (.ofEq rfl) (by simp[hcap]) (.consP rfl (.ofEq rfl) (by simp) .nil)))
 ·simp[Q0q (Q3t _) caps hcap]
 obtain⟨hjl,hno,rfl⟩:=hj
 refine zA ?_
 refine ACode.cond rfl (fun hb2=>?_) (fun hb2=>?_)
 ·have hlt:j < xs.length:=by simpa using hb2
  obtain⟨a,ha⟩:=Q01 hlt
  have hca:=hf a (List.mem_of_getElem? ha)
  refine zA ?_
  refine zS (zIA rfl rfl rfl (by omega) (by simpa using Q04 ha)) ?_
  refine zA ?_
  refine AOps.callC hΓ hca rfl rfl rfl rfl rfl rfl rfl hou (by simp[Qau hcap]) ?_
  refine zA ?_
  refine ACode.cond rfl (fun hb3=>?_) (fun hb3=>?_)
  ·refine zA ?_
   refine APure.fin rfl (WkF.ofEq ?_) (by simp) hou rfl
   rw[Q6m hno ha hb3]
  ·refine zA ?_
   refine zS (AStep.arith rfl rfl rfl (.inl ⟨rfl,rfl⟩) zI) ?_
   refine zA ?_
   refine cInv ⟨xs.length - (j+1),j+1,id,by omega,⟨by omega,Q0t hno ha hb3,rfl⟩,LessR.of rfl ?_ ?_ zLO rfl rfl hou⟩
   ·refine .cons rfl (.ofEq rfl) (.cons rfl (.ofEq rfl) (.consP rfl (.ofEq rfl) (by simp[hcap]) (.consP rfl (.ofEq rfl) (by simp) .nil)))
   ·simp[Q0q (Q3t _) caps hcap]
 ·have hlt:j=xs.length:=by simp at hb2;omega
  subst hlt
  rw[List.take_length]at hno
  refine zA ?_
  refine APure.fin rfl (WkF.ofEq ?_) (by simp) hou rfl
  rw[Q4b hno]
theorem Qja(hΓ:∀g cs,(g,cs)∈Γ->idsL isO cs)(gf:Nat)(caps:List AC)(hcap:idsL isO caps)(p:Ex->Bool)(xs:List Ex)(hx:xs.length<=1048576)(hf:∀a∈xs,APure Tryz.prog Γ gf (.agg (cEx a)::caps.map .one) (.one (.lit (.bool (p a))))):
  APure Tryz.prog Γ 22 [.one (.sl 5 (xs.map cEx)),.one (.fn (.func gf) [] caps)] (.one (.lit (.bool (xs.any p)))):=by
 intro ou
 refine AFn.walk 9 tabOk Tryz.func22 rfl (by kernel_rfl) rfl rfl fun hou=>?_
 refine zA ?_
 refine AOps.callC hΓ (Qj9 hΓ gf caps hcap p xs hx hf) rfl rfl rfl rfl rfl rfl rfl hou (by simp[hcap]) ?_
 refine zA ?_
 refine APure.fin rfl (WkF.ofEq ?_) (by simp) hou rfl
 rw[←Q7g]

def lamX (x:Ex):Bool:=x.op==2
theorem lamX_ok(x:Ex):APure Tryz.prog Γ 26 (.agg (cEx x)::[].map .one) (.one (.lit (.bool (lamX x)))):=by
 intro ou
 refine AFn.walk 6 tabOk Tryz.func26 rfl (by kernel_rfl) rfl rfl fun hou=>?_
 refine zA ?_
 refine APure.fin rfl (WkF.ofEq ?_) (by simp) hou rfl
 simp[lamX]
 try rfl
def gLam (l:Lab):Int:=if l.op=2 then 1 else 0
mutual
theorem Qfz:∀t:Tr,sumT gLam t=lamN t
 |.mk o n b k a=>by
  have:=Qdc k
  simp only[sumT,gLam,lamN,this]
  split <;> push_cast <;> rfl
theorem Qdc:∀l:List Tr,sumTs gLam l=lamNs l
 |[]=>rfl
 |t::l=>by simp only[sumTs,lamNs,Qfz t,Qdc l];push_cast;rfl
end
def lamsE (e:List Ex):Int:=((e.map fun x=>if x.op=2 then (1:Int)else 0)).sum
theorem Qel{e:List Ex}(h:IsTree e):lamsE e=lamN (grow e):=by
 rw[←Qfz,←Q6h gLam h]
 unfold lamsE labs
 rw[List.map_map]
 rfl
def Nm0 (b b':Bs):Prop:=∀j,j < b.fns.length->j < b'.fns.length/\(b'.fns.getD j default).name=(b.fns.getD j default).name
theorem Nm0.trans{a b c:Bs}(h:Nm0 a b)(h2:Nm0 b c):Nm0 a c:=fun j hj=>⟨(h2 j (h j hj).1).1,by rw[(h2 j (h j hj).1).2,(h j hj).2]⟩
theorem Qi9(e:List Ex):0<=lamsE e/\lamsE e<=e.length:=by
 induction e with
 |nil=>simp[lamsE]
 |cons x l ih=>
  have:lamsE (x::l)=(if x.op=2 then 1 else 0)+lamsE l:=by simp[lamsE]
  rw[this]
  simp only[List.length_cons]
  split <;> push_cast <;> omega
theorem CvtR.form2{e:List Ex}{r:FV}(h:CvtR e r):(∃k:Int,k≠0/\r=.tup [.agg [nilS2,int 0],.one (int k)])∨(check e=0/\r=.tup [.agg [.sl 3 ((progC e).map encF),int 0],.one (int 0)]):=by
 rcases h with ⟨h,rfl⟩|⟨h,h2,rfl⟩|⟨h,h2,⟨rfl,_⟩|rfl⟩
 ·exact .inl ⟨_,h,rfl⟩
 ·exact .inl ⟨3,by decide,rfl⟩
 ·exact .inl ⟨2,by decide,rfl⟩
 ·exact .inr ⟨h,rfl⟩
theorem Qia{l:List Tr}(h:lamNs l=0):∀t∈l,lamN t=0:=by
 induction l with
 |nil=>intro t ht;cases ht
 |cons a l ih=>
  simp only[lamNs]at h
  intro t ht
  rcases List.mem_cons.1 ht with rfl|ht
  ·omega
  ·exact ih (by omega) t ht
theorem Qg0{t:Tr}(h:lamN t=0):t.op≠2:=by
 obtain⟨o,n,b,k,a⟩:=t
 intro ho
 simp only[Tr.op]at ho
 simp[lamN,ho]at h
theorem Qb3{cv:Tr->Bs->Tr×Bs}{ks:List Tr}(hcv:∀t∈ks,∀b,cv t b=(t,b))(b:Bs):∀i,i<=ks.length->Q0p cv ks i b=(ks.take i,b)
 |0,_=>rfl
 |i+1,h=>by
  simp only[Q0p,Qb3 hcv b i (by omega),hcv _ (Q37 (show i < ks.length by omega)),Q24 (show i < ks.length by omega)]
theorem cv_id:∀(n:Nat)(t:Tr),cntN t<=n->allT FragC t->lamN t=0->∀b:Bs,cv n sc0 t b=(t,b)
 |0,t,h,_,_,_=>by have:=Q3g t;omega
 |n+1,.mk o x bs ks al,h,ht,hl,b=>by
  have F:=Q0v ht
  have hk:∀t∈ks,allT FragC t:=fun t hm=>Q4h ht hm
  have hn:∀t∈ks,cntN t<=n:=fun t hm=>by have:=Q4s hm;simp only[cntN]at h;omega
  have e2:o≠2:=Qg0 hl
  have hls:lamNs ks=0:=by simpa[lamN,e2]using hl
  have hlz:=Qia hls
  have ih:∀t∈ks,∀b,cv n sc0 t b=(t,b):=fun t hm=>cv_id n t (hn t hm) (hk t hm) (hlz t hm)
  simp only[cv]
  by_cases e0:o=0
  ·rw[if_pos e0]
   subst e0
   have hs:ShN 0 x bs (ks.map Tr.op).length al:=F.sh
   obtain⟨h1,rfl,rfl⟩:=hs.leaf (.inl rfl)
   have:ks=[]:=by simpa using h1
   subst this
   rfl
  rw[if_neg e0,if_neg e2]
  by_cases e5:o=5
  ·exfalso
   subst e5
   have hs:ShN 5 x bs (ks.map Tr.op).length al:=F.sh
   have h1:=hs.recs.2.1
   have h2:=hs.recs.1
   simp only[List.length_map]at h2
   have h3:=F.rc rfl 0 (by show 0 < bs.length;omega)
   match ks,h2 with
   |k0::l,_=>
    simp at h3
    exact Qg0 (hlz k0 (by simp)) h3
  rw[if_neg e5]
  rw[if_neg (fun e4=>by
   obtain⟨e4,e40⟩:=e4
   subst e4
   have hs:ShN 4 x bs (ks.map Tr.op).length al:=F.sh
   have hkl:ks.length=2:=by have:=hs.lett.1;simpa using this
   match ks,hkl with
   |[k0,k1],_=>exact Qg0 (hlz k0 (by simp)) (by simpa using e40))]
  rw[Qb3 ih b ks.length (Nat.le_refl _),List.take_length]
theorem Qfi{e:List Ex}(h:check e=0):same e (listT [] (grow e))=true:=by
 have h2:=Qh6 (flat:=false) (params:=[]) (Q39 (grow e)) (Q3w (grow e)).symm h
 have h3:check (listT [] (grow e))=0:=h2
 simp[same,h,h3,Q3w,Q91]
theorem Qbv{e:List Ex}(h:check e=0)(hl:lamN (grow e)=0):progC e=[⟨-1,[],listT [] (grow e)⟩]:=by
 have:=cv_id (cntN (grow e)) (grow e) (Nat.le_refl _) (Q7r h) hl (bs0 e)
 unfold progC cvR
 rw[this]
 rfl
theorem any_lam(e:List Ex):e.any lamX=decide (lamsE e≠0):=by
 induction e with
 |nil=>rfl
 |cons x l ih=>
  have h1:lamsE (x::l)=(if x.op=2 then 1 else 0)+lamsE l:=by simp[lamsE]
  have h2:=Qi9 l
  rw[List.any_cons,ih,h1]
  by_cases h:x.op=2
  ·rw[if_pos h]
   simp[lamX,h]
   omega
  ·rw[if_neg h]
   simp[lamX,h]
theorem Qa0(e:List Ex)(he:okB e):APure Tryz.prog Γc 9 [.one (.sl 5 (e.map cEx))] (.one (.lit (.bool true))):=by
 have hel:=he.eo.l
 intro ou
 refine AFn.walk 33 tabOk Tryz.func9 rfl (by kernel_rfl) rfl rfl fun hou=>?_
 refine zA ?_
 refine AOps.call1 hΓc rfl rfl rfl rfl rfl rfl rfl (by simp) hou (Q8t e he ou) fun r ou' hqq _ _=>?_
 obtain⟨rfl,hq⟩:=hqq
 rcases hq.form2 with ⟨k,hk,rfl⟩|⟨hck,rfl⟩
 ·have hkb:(k != 0)=true:=by simpa using hk
  repeat ((fail_if_success ((with_reducible refine oj ?_);refine AOps.atDst 12 rfl ?_));first|refine zO ?_)
  refine AOps.wk 11 rfl (y:=.one (.lit (.bool true))) (.ofEq (by rw[hkb])) ?_
  refine zM ?_
  refine zca hΓc Q40 hou ?_
  refine zM ?_
  exact APure.fin rfl (WkF.ofEq rfl) (by simp) hou rfl
 have hpc:=Qaf he hck
 have t1:=Q15 hck
 have hsum:=Qel t1
 have hany:=any_lam e
 clear hq
 refine zM ?_
 refine zca hΓc (Qja hΓc 26 [] trivial lamX e hel (fun a _=>lamX_ok a)) hou ?_
 refine zM ?_
 refine ACode.cond rfl (fun hb=>?_) (fun hb=>?_)
 ·refine zA ?_
  refine zca hΓc Q40 hou ?_
  refine zM ?_
  exact APure.fin rfl (WkF.ofEq rfl) (by simp) hou rfl
 have hl0:lamN (grow e)=0:=by
  rw[hb]at hany
  have:=of_decide_eq_false hany.symm
  omega
 have hsm:=Same_ok e (listT [] (grow e)) he (Qi4 t1 (Q39 _) (Q3w _).symm he) (Qfi hck)
 rw[Qbv hck hl0]
 refine zA ?_
 refine zca hΓc Q40 hou ?_
 refine zM ?_
 refine zS (AStep.indexAddr (n:=0) tabOk rfl rfl rfl rfl rfl rfl (.inl rfl) rfl (by decide) (es:=[encF ⟨-1,[],listT [] (grow e)⟩]) rfl) ?_
 refine zM ?_
 refine zca hΓc hsm hou ?_
 refine zM ?_
 exact APure.fin rfl (WkF.ofEq rfl) (by simp) hou rfl
end Go.Proofs.YtdpdlkgecmgokaaGreatDoor
