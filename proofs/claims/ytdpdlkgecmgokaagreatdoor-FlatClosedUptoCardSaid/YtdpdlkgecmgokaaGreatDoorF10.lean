/- FlatClosed, walked. -/
import Derived.Test.YtdpdlkgecmgokaaGreatDoorF9
set_option maxRecDepth 10000
set_option linter.unusedVariables false
set_option linter.unusedSimpArgs false
namespace Go.Proofs.YtdpdlkgecmgokaaGreatDoor
open Go Go.Abs Go.CoreX
theorem Q4v(t:Tr):funsD (prgOf t)=fnsOf t:=by
 simp only[funsD,prgOf,fnsOf,List.map_cons,List.map_nil,funD]
 rw[Q26,Q26]
def mfR (v:Int):Ms:=⟨.rt (.word v),[],[],8,[]⟩
theorem prgOkA{a b:Int}(ha:inW a)(hb:inW b):PrgOk (prgOf (b0A a b)) 0 where
 l:=by simp[prgOf]
 b:=by
  intro f hf
  simp only[prgOf,List.mem_cons,List.not_mem_nil,or_false]at hf
  rcases hf with rfl|rfl
  ·exact okA ha hb
  ·exact ok1 _
 m:=⟨_,rfl,rfl⟩
theorem prgOkB{a b:Int}(ha:inW a)(hb:inW b):PrgOk (prgOf (b0B a b)) 0 where
 l:=by simp[prgOf]
 b:=by
  intro f hf
  simp only[prgOf,List.mem_cons,List.not_mem_nil,or_false]at hf
  rcases hf with rfl|rfl
  ·exact okBt ha hb
  ·exact ok1 _
 m:=⟨_,rfl,rfl⟩
theorem runsA{a b:Int}(ha:inW a)(hb:inW b):PRuns 99 (prgOf (b0A a b)) 0 (mfR (wrapW (a+b))) (.word (wrapW (a+b))) where
 ok:=prgOkA ha hb
 fns:=by rw[Q4v];exact fnsA ha hb
 fu0:=by omega
 go:=⟨60,⟨-1,[],listT [] (b0A a b)⟩,rfl,by rw[Q4v];show goX 99 _ 60 ⟨.ev (grow (listT [] (b0A a b))) .nil,[],[],0,[]⟩=_;rw[Q26];exact goA a b⟩
 out:=by simp[mfR]
 st:=by simp[mfR]
theorem runsB{a b:Int}(ha:inW a)(hb:inW b):PRuns 99 (prgOf (b0B a b)) 0 (mfR (wrapW (a+b))) (.word (wrapW (a+b))) where
 ok:=prgOkB ha hb
 fns:=by rw[Q4v];exact fnsB ha hb
 fu0:=by omega
 go:=⟨60,⟨-1,[],listT [] (b0B a b)⟩,rfl,by rw[Q4v];show goX 99 _ 60 ⟨.ev (grow (listT [] (b0B a b))) .nil,[],[],0,[]⟩=_;rw[Q26];exact goB a b⟩
 out:=by simp[mfR]
 st:=by simp[mfR]
abbrev resF (v:Int):FV:=.tup [.agg [.sl 1 [],int 0,int v],.one (int 8),.one (int 0)]
theorem Q55(v:Int):Plain (resF v):=fun w w' C C' u h=>by
 simp only[resF,RF,RFs,RV,R]at h ⊢
 simpa using h
theorem Qbt{a b:Int}(ha:inW a)(hb:inW b):APure Tryz.prog Γc 10 [.agg [.sl 3 ((prgOf (b0A a b)).map encF),int 0],.one (int 99)] (resF (wrapW (a+b))):=Qcx (runsA ha hb)
theorem runB_ok{a b:Int}(ha:inW a)(hb:inW b):APure Tryz.prog Γc 10 [.agg [.sl 3 ((prgOf (b0B a b)).map encF),int 0],.one (int 99)] (resF (wrapW (a+b))):=Qcx (runsB ha hb)
theorem lendP{σ:St}{i:Abs.Id}{t:Tr}{v:FV}(hg:σ.get i=some (.cells (prgC (prgOf t))))(hv:v.ids isO):Q3x σ [.agg [.arr i 3 0 2 2,int 0],v] [.agg [.sl 3 ((prgOf t).map encF),int 0],v]:=by
 refine .cons (.agg (.cons (.arr hg rfl (fun x hx=>?_) (Q6a _)) (.cons (.refl (by simp)) .nil))) (.cons (.refl hv) .nil)
 obtain⟨f,_,rfl⟩:=List.mem_map.1 hx
 rfl
theorem Q4z{n:Int}(h:-1073741824<=n/\n<=1073741823):wrapW n=n:=by
 unfold wrapW
 omega
theorem Q93:APure Tryz.prog Γc 11 [] (.one (.lit (.bool true))):=by
 intro ou
 refine AFn.walk 17 tabOk Tryz.func11 rfl (by kernel_rfl) rfl rfl fun hou=>?_
 refine zA ?_
 refine AOps.call1 hΓc rfl rfl rfl rfl rfl rfl rfl trivial hou (Qdb ou) fun r ou' hq _ how=>?_
 obtain⟨k,hk,rfl,rfl⟩:=hq
 refine AOps.adopt hk (Q32 _ (Q4s _ _)) ?_
 refine AOps.wk 5 rfl (y:=.agg [.arr (.l 0) 3 0 2 2,int 0]) (.ofEq (by simp[FV.sub,AC.sub,subL,toL])) ?_
 have hr:APure Tryz.prog Γc 10 [.agg [.sl 3 ((prgOf (b0A 4 3)).map encF),int 0],.one (int 99)] (resF 7):=Qbt (a:=4) (b:=3) (by unfold inW;omega) (by unfold inW;omega)
 refine AOps.callS hΓc hr (Q55 7) rfl rfl rfl rfl rfl rfl (lendP (t:=b0A 4 3) rfl (by simp)) ?_
 refine zM ?_
 exact APure.fin rfl (WkF.ofEq rfl) (by simp) hou rfl
theorem Qb8(v:Int):APure Tryz.prog Γc 12 [.agg [.sl 1 [],int 0,int v],.agg [.sl 1 [],int 0,int v]] (.one (.lit (.bool true))):=by
 have hs:=Q9c hΓc [] [] (by simp)
 intro ou
 refine AFn.walk 24 tabOk Tryz.func12 rfl (by kernel_rfl) rfl rfl fun hou=>?_
 refine zM ?_
 refine AOps.wk 17 rfl (y:=.one (.lit (.bool true))) (.ofEq (by simp)) ?_
 refine zM ?_
 refine zca hΓc hs hou ?_
 refine zM ?_
 exact APure.fin rfl (WkF.ofEq rfl) (by simp) hou rfl
theorem Qeg(a:Int):APure Tryz.prog Γc 14 [.one (.box [int a])] (.one (.box (cNd (clA a)))):=by
 intro ou
 refine AFn.walk 6 tabOk Tryz.func14 rfl (by kernel_rfl) rfl rfl fun hou=>?_
 refine zA ?_
 refine zca hΓc (W_ok hΓc a) hou ?_
 refine zA ?_
 refine zca hΓc (NF1 15 1 (tW a)) hou ?_
 refine zA ?_
 exact APure.fin rfl (WkF.ofEq rfl) (by simp) hou rfl
theorem Q9i(a:Int):-10000 < a.tmod 10000/\a.tmod 10000 < 10000:=by
 rcases Int.le_total 0 a with h|h
 ·rw[Int.tmod_eq_emod_of_nonneg h];omega
 ·have:=Int.neg_tmod (-a) 10000
  rw[Int.neg_neg]at this
  rw[this,Int.tmod_eq_emod_of_nonneg (by omega)];omega
set_option maxHeartbeats 1000000 in
theorem Q7j(a0 b0:Int):APure Tryz.prog Γc 4 [.one (int a0),.one (int b0)] (.one (.lit (.bool true))):=by
 have hRA:∀a b:Int,inW a->inW b->-1073741824<=a+b/\a+b<=1073741823->APure Tryz.prog Γc 10 [.agg [.sl 3 ((prgOf (b0A a b)).map encF),int 0],.one (int 99)] (resF (a+b)):=fun a b h1 h2 h3=>by
  have:=Qbt h1 h2
  rwa [Q4z h3]at this
 have hRB:∀a b:Int,inW a->inW b->-1073741824<=a+b/\a+b<=1073741823->APure Tryz.prog Γc 10 [.agg [.sl 3 ((prgOf (b0B a b)).map encF),int 0],.one (int 99)] (resF (a+b)):=fun a b h1 h2 h3=>by
  have:=runB_ok h1 h2
  rwa [Q4z h3]at this
 intro ou
 refine AFn.walk 75 tabOk Tryz.func4 rfl (by kernel_rfl) rfl rfl fun hou=>?_
 repeat ((fail_if_success ((with_reducible refine oj ?_);refine AOps.atDst 14 rfl ?_));first|refine zO ?_)
 refine zS (AStep.rem rfl rfl rfl (by decide)) ?_
 repeat ((fail_if_success ((with_reducible refine oj ?_);refine AOps.atDst 16 rfl ?_));first|refine zO ?_)
 refine zS (AStep.rem rfl rfl rfl (by decide)) ?_
 refine zA ?_
 have ha:=Q9i a0
 have hb:=Q9i b0
 generalize a0.tmod 10000=a at ha ⊢
 generalize b0.tmod 10000=b at hb ⊢
 have wa:inW a:=by unfold inW;omega
 have wb:inW b:=by unfold inW;omega
 have hsm:-1073741824<=a+b/\a+b<=1073741823:=by omega
 have hrA:=hRA a b wa wb hsm
 have hrB:=hRB a b wa wb hsm
 clear hRA hRB
 refine AOps.freeze1 (.l 0) 2 rfl rfl ?_
 refine AOps.call1 hΓc rfl rfl rfl rfl rfl rfl rfl trivial hou (Qdb ou) fun r ou' hq _ how=>?_
 obtain⟨k,hk,rfl,rfl⟩:=hq
 refine AOps.adopt hk (Q32 _ (Q4s _ _)) ?_
 refine AOps.wk 17 rfl (y:=.agg [.arr (.l 1) 3 0 2 2,int 0]) (.ofEq (by simp[FV.sub,AC.sub,subL,toL,St.push,St.set])) ?_
 refine zA ?_
 have hcl:=Qeg a
 have hW:=W_ok hΓc (Γ:=Γc) b
 have hN3:=NF2 3 0 (clA a) (tW b)
 have hL3:=Q2j hΓc (b0A a b) (ok_b0A a b) (by rw[lsA];simp)
 refine ACode.drawX tabOk 11 [(3,.one (.box (cNd (clA a)))),(5,.one (.box (cNd (tW b)))),(7,.one (.box (cNd (b0A a b)))),(8,.one (.sl 5 ((listT [] (b0A a b)).map cEx))),(9,.one (.ptr (.l 1) 0))] follows (by kernel_rfl) rfl rfl rfl rfl ?_ ?_
 ·exact .call hΓc hcl hou (by simp) rfl rfl rfl rfl rfl rfl (.call hΓc hW hou (by simp) rfl rfl rfl rfl rfl rfl (.call hΓc hN3 hou (by simp) rfl rfl rfl rfl rfl rfl (.call hΓc hL3 hou (by simp) rfl rfl rfl rfl rfl rfl (.step rfl (zHP (AStep.idxOwn (n:=0) (s:=3) (off:=0) (len:=2) (cap:=2) (j:=.l 1) tabOk rfl rfl rfl rfl rfl rfl rfl (by decide))) .nil))))
 repeat ((fail_if_success ((with_reducible refine oj ?_);refine AOps.atDst 32 rfl ?_));first|refine zO ?_)
 refine AOps.callS hΓc hrA (Q55 (a+b)) rfl rfl rfl rfl rfl rfl (lendP (t:=b0A a b) rfl (by simp)) ?_
 refine zA ?_
 have hN4:=NF2 14 1 (clA a) (tW b)
 have hL4:=Q2j hΓc (b0B a b) (ok_b0B a b) (by rw[lsB];simp)
 refine ACode.drawX tabOk 11 [(3,.one (.box (cNd (clA a)))),(5,.one (.box (cNd (tW b)))),(7,.one (.box (cNd (b0B a b)))),(8,.one (.sl 5 ((listT [] (b0B a b)).map cEx))),(9,.one (.ptr (.l 1) 0))] follows (by kernel_rfl) rfl rfl rfl rfl ?_ ?_
 ·exact .call hΓc hcl hou (by simp) rfl rfl rfl rfl rfl rfl (.call hΓc hW hou (by simp) rfl rfl rfl rfl rfl rfl (.call hΓc hN4 hou (by simp) rfl rfl rfl rfl rfl rfl (.call hΓc hL4 hou (by simp) rfl rfl rfl rfl rfl rfl (.step rfl (zHP (AStep.idxOwn (n:=0) (s:=3) (off:=0) (len:=2) (cap:=2) (j:=.l 1) tabOk rfl rfl rfl rfl rfl rfl rfl (by decide))) .nil))))
 repeat ((fail_if_success ((with_reducible refine oj ?_);refine AOps.atDst 49 rfl ?_));first|refine zO ?_)
 refine AOps.callS hΓc hrB (Q55 (a+b)) rfl rfl rfl rfl rfl rfl (lendP (t:=b0B a b) rfl (by simp)) ?_
 refine zA ?_
 refine zca hΓc Q93 hou ?_
 refine zM ?_
 refine zca hΓc (Qb8 (a+b)) hou ?_
 refine zM ?_
 exact APure.fin rfl (WkF.ofEq (by simp)) (by simp) hou rfl
end Go.Proofs.YtdpdlkgecmgokaaGreatDoor
