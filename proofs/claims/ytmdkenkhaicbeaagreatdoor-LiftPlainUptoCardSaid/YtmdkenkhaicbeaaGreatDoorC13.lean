/- lift: what a checked list's tree satisfies. -/
import Derived.Test.YtmdkenkhaicbeaaGreatDoorC12
set_option maxRecDepth 10000
set_option linter.unusedVariables false
set_option linter.unusedSimpArgs false
namespace Go.Proofs.YtmdkenkhaicbeaaGreatDoor
open Go Go.Abs Go.CoreX
theorem Qhd(e:List Ex):(growL e).map Tr.op=e.map Ex.op:=by
 refine Q4f (P:=fun e=>(growL e).map Tr.op=e.map Ex.op) rfl (fun l x ih=>?_) e
 rw[Q1k,List.map_append,List.map_append,ih];rfl
theorem Qdv(e:List Ex)(i:Nat):((growL e)[i]?.getD default).op=(e[i]?.getD ⟨0,0,[],[],[]⟩).op:=by
 have h:=congrArg (fun l=>l[i]?) (Qhd e)
 simp only[List.getElem?_map]at h
 cases h1:(growL e)[i]? with
 |none=>
  rw[h1]at h
  cases h2:e[i]? with
  |none=>rfl
  |some y=>rw[h2]at h;cases h
 |some y=>
  rw[h1]at h
  cases h2:e[i]? with
  |none=>rw[h2]at h;cases h
  |some z=>
   rw[h2]at h
   simpa using h
theorem Qjs{e:List Ex}(h:check e=0){x:Ex}(hx:x∈e)(h5:x.op=5):(labE e x).ops.take x.binds.length=List.replicate x.binds.length 2:=by
 obtain⟨h1,h2,_⟩:=Q51 h
 have hn:=h2 x hx
 have hs:=Q6r h x hx
 have hk:(x.kids.length:Int)=x.binds.length+1:=by
  simp[Go.CoreX.shape,wants,h5]at hs
  omega
 unfold Q0l at hn
 split at hn
 ·cases hn
 unfold Q1g at hn
 rw[hs]at hn
 simp only[Bool.true_eq_false,if_false]at hn
 split at hn
 ·rename_i hr
  exact absurd hn hr
 split at hn
 ·cases hn
 rename_i hb
 refine List.ext_getElem? fun j=>?_
 rw[List.getElem?_take,List.getElem?_replicate]
 by_cases hj:j < x.binds.length
 ·rw[if_pos hj,if_pos hj]
  have hj2:Q11 e x j=false:=by
   cases hc:Q11 e x j with
   |false=>rfl
   |true=>exact absurd (List.any_eq_true.2 ⟨j,by simpa using hj,hc⟩) hb
  unfold Q11 at hj2
  rw[h5]at hj2
  simp at hj2
  have hjk:j < x.kids.length:=by omega
  simp only[labE,List.getElem?_map,List.getElem?_eq_getElem hjk,Option.map_some]
  rw[List.getElem?_eq_getElem hjk]at hj2
  rw[List.getD_eq_getElem?_getD,Qdv]
  simpa using hj2
 ·rw[if_neg hj,if_neg hj]
theorem Qjt{e:List Ex}(he:okB e)(h:check e=0):allT qL (grow e):=by
 have t1:=Q10 h
 refine Q5u t1 fun x hx=>?_
 have ho:=he.eo.x x hx
 exact⟨⟨⟨x.kids,by simp[labE],Q6r h x hx⟩⟩,fun h5=>Qjs h hx h5,ho.b,ho.a,ho.ab,he.b x hx⟩
theorem NewO.three{ou:Outer}{k:Nat}{u v w:AObj}(hk:∀m,k<=m->ou m=none)(hou:OuOk ou)(hu:u.ids isO)(hv:v.ids isO)(hw:w.ids isO):NewO ou (ouAdd ou k [u,v,w]) [(k,u),(k+1,v),(k+2,w)]:=by
 refine⟨fun p hp=>?_,fun j hj=>?_,fun m hm=>?_,Q2c hou fun q hq=>?_,by simp[keys]⟩
 ·simp only[List.mem_cons,List.not_mem_nil,or_false]at hp
  rcases hp with rfl|rfl|rfl
  ·exact Q0f 0
  ·exact Q0f 1
  ·exact Q0f 2
 ·simp[keys]at hj
  rcases hj with rfl|rfl|rfl <;> exact hk _ (by omega)
 ·simp[keys]at hm
  rcases Nat.lt_or_ge m k with h1|h1
  ·exact Q0g h1
  ·obtain⟨p,rfl⟩:∃p,m=k+p:=⟨m - k,by omega⟩
   rw[Q0f,hk _ h1]
   match p,hm with
   |0,hm=>simp at hm
   |1,hm=>simp at hm
   |2,hm=>simp at hm
   |p+3,hm=>simp
 ·simp only[List.mem_cons,List.not_mem_nil,or_false]at hq
  rcases hq with rfl|rfl|rfl
  ·exact hu
  ·exact hv
  ·exact hw
theorem Qey{ou ou1:Outer}{t:LTk}{s0:LS}{oz:Outer}(hz:NewO ou1 oz (obL s0))(hfn:s0.fns=[])(hOw:Owns ou1 (obK t))(hnd:(keys (obK t)).Nodup)(hfr:∀k∈keys (obK t),ou k=none)(hold:∀j o,ou j=some o->ou1 j=some o):
  UpdL oz (obL s0++(obK t++obKs s0.fns)) oz (obL s0++(obK t++obKs s0.fns))/\
  ∀(s:LS) (u:LTk) (ov:Outer),UpdL oz (obL s0++(obK t++obKs s0.fns)) ov (obL s++(obK u++obKs s.fns))->∀m o,ou m=some o->frzU ov s u m=some o/\m≠s.id/\m≠s.ti/\m≠s.tf:=by
 rw[hfn]
 simp only[obKs,List.append_nil]
 refine⟨UpdL.refl (Owns.app.2 ⟨hz.own,hz.frame hOw⟩) ?_ hz.ok,fun s u ov hU m o ho=>?_⟩
 ·simp only[keys,List.map_append]
  exact List.nodup_append.2 ⟨hz.nd,hnd,fun a ha b hb e=>by subst e;exact hz.disj hOw a hb ha⟩
 ·have h1:=hold m o ho
  have hk1:m∉keys (obL s0):=fun hm=>by have:=hz.new m hm;rw[h1]at this;cases this
  have hk2:m∉keys (obK t):=fun hm=>by have:=hfr m hm;rw[ho]at this;cases this
  have hk0:m∉keys (obL s0++obK t):=by
   simp only[keys,List.map_append,List.mem_append]at hk1 hk2 ⊢
   exact fun h=>h.elim hk1 hk2
  have hm:oz m=some o:=by rw[hz.old m hk1];exact h1
  have hkL:m∉keys (obL s++(obK u++obKs s.fns)):=fun h=>by
   rcases hU.new m h with h|h
   ·exact hk0 h
   ·rw[hm]at h;cases h
  have hkP:m∉keys (lsP s u):=fun h=>by
   have h2:=List.count_pos_iff.2 h
   have h3:=Q6v s u m
   refine hkL (List.count_pos_iff.1 ?_)
   simp only[keys,List.map_append,List.count_append]at h2 h3 ⊢
   omega
  simp only[obL,keys,List.map_append,List.map_cons,List.map_nil,List.mem_append,List.mem_cons,List.not_mem_nil,or_false,not_or]at hkL
  refine⟨?_,hkL.1.1,hkL.1.2.1,hkL.1.2.2⟩
  unfold frzU
  rw[Q04 _ (fun e=>hkL.1.1 e.symm)]
  unfold deadL
  rw[if_neg hkP,Q9f hkP,hU.old m hk0 (by rw[hm];simp),hm]
theorem Qdx{ov:Outer}{s:LS}{u:LTk}(ho:Owns ov (obL s++(obK u++obKs s.fns)))(hn:(keys (obL s++(obK u++obKs s.fns))).Nodup):
  frzU ov s u s.id=some (.cells (lsB s u))/\frzU ov s u s.ti=some (.tok 3 1 s.ids.length)/\frzU ov s u s.tf=some (tO s.fns.length)/\s.id≠s.ti/\s.id≠s.tf/\s.ti≠s.tf:=by
 have hc:=List.nodup_iff_count.1 hn
 have hk:=Q6v s u
 have hn1:∀j∈keys (obL s),j∉keys (lsP s u):=fun j hj hm=>by
  have h1:=List.count_pos_iff.2 hj
  have h2:=List.count_pos_iff.2 hm
  have h3:=hk j
  have h4:=hc j
  simp only[keys,List.map_append,List.count_append]at h1 h2 h3 h4
  omega
 have hnd:(keys (obL s)).Nodup:=by
  simp only[keys,List.map_append]at hn ⊢
  exact (List.nodup_append.1 hn).1
 simp only[obL,keys,List.map_cons,List.map_nil,List.nodup_cons,List.mem_cons,List.not_mem_nil,or_false,not_or]at hnd
 have hg:∀p∈obL s,p.1≠s.id->frzU ov s u p.1=some p.2:=fun p hp hne=>by
  have h1:=hn1 p.1 (List.mem_map_of_mem hp)
  unfold frzU
  rw[Q04 _ (fun e=>hne e.symm)]
  unfold deadL
  rw[if_neg h1,Q9f h1]
  exact ho p (List.mem_append_left _ hp)
 refine⟨?_,hg (s.ti,.tok 3 1 s.ids.length) (by simp[obL]) (fun e=>hnd.1.1 e.symm),hg (s.tf,tO s.fns.length) (by simp[obL]) (fun e=>hnd.1.2 e.symm),hnd.1.1,hnd.1.2,hnd.2.1⟩
 unfold frzU
 exact Q06 _ _ _
end Go.Proofs.YtmdkenkhaicbeaaGreatDoor
namespace Go.CoreX
open Go Go.Abs
open Go.Proofs.YtmdkenkhaicbeaaGreatDoor
def lfIt:Nat->Tr×List Tr×List Int×Int->Tr×List Tr×List Int×Int
 |0,s=>s
 |k+1,s=>match anyT s.2.2.1 s.2.2.2 s.1 s.2.1 with
  |none=>s
  |some s'=>lfIt k s'
def liftE (m:Tr->Int)(e:List Ex):List Ex×Int:=if check e≠0 then ([],check e) else
 match lfIt 60 (grow e,[],[],m (grow e)+1) with
 |(root,fns,ids,_)=>if ids=[]then (listT [] root,0)else if check (listT [] (.mk 5 0 ids (fns++[root]) []))≠0 then ([],2)else (listT [] (.mk 5 0 ids (fns++[root]) []),0)
end Go.CoreX
namespace Go.Proofs.YtmdkenkhaicbeaaGreatDoor
open Go Go.Abs Go.CoreX
theorem Qiq{n0:Int}{s:LS}{u:LTk}(h:RInv n0 (erK u) (erKs s.fns) s.ids s.next)(hc:s.c0=.ptr (.o u.id) 0)(hn:0<=n0/\n0<=1048576):
  LsG s/\LfG (erK u)/\∀f∈s.fns,0 < f.kids.length/\LfG (erK (f.kids.getD 0 default)):=by
 have h1:=h.t
 have h2:=h.l
 have h3:=h.n
 have h4:=h.m
 have h5:=h.c
 rw[Q0v]at h2
 refine⟨⟨by omega,by omega,by omega,by rw[hc];trivial⟩,qL_LfG h.r (by omega),fun f hf=>?_⟩
 have hm:=Q3o hf
 have hq:=Q1h.1 h.q _ hm
 have hcm:=Q4l hm
 have hL:=qL_LfG hq (by omega)
 have ho:f.op=2:=by
  have:=h.o _ hm
  cases f;exact this
 have hk:=Qgp hL.g ho
 refine⟨hk,hL.kid ?_⟩
 obtain⟨i,tk,o,n,b,ks,a⟩:=f
 simp only[erK,Tr.kids_mk,LTk.kids]at hk ⊢
 obtain⟨k0,hk0⟩:=Q00 hk
 rw[List.getD_eq_getElem?_getD,hk0]
 exact Q3o (List.mem_of_getElem? hk0)
def LfR (e:List Ex):FV:=.tup [.one (.sl 5 ((liftE mxT e).1.map cEx)),.one (int (liftE mxT e).2)]
set_option maxHeartbeats 1000000 in
theorem Qee(e:List Ex)(he:okB e):APure Tryz.prog Γc 21 [.one (.sl 5 (e.map cEx))] (LfR e):=by
 intro ou
 refine AFn.walk 56 tabOk Tryz.func21 rfl (by kernel_rfl) rfl rfl fun hou=>?_
 refine zA ?_
 refine zca hΓc (Q4p e he) hou ?_
 refine zA ?_
 refine ACode.cond rfl (fun hb=>?_) (fun hb=>?_)
 ·have h:check e≠0:=by simpa using hb
  have hR:liftE mxT e=([],check e):=by unfold liftE;rw[if_pos h]
  refine zA ?_
  unfold LfR
  rw[hR]
  exact APure.fin rfl (WkF.tup (.cons (.one (.nilS 5)) (.cons (.refl _) .nil))) (by simp) hou rfl
 have h:check e=0:=by simpa using hb
 have t1:=Q10 h
 have hmx:=mxT_le 1048575 (by decide) _ (Qhu h)
 have hmn:=mxT_low (grow e)
 obtain⟨q1,_,_⟩:=(Q2u _).1 (Q51 h).1
 have hcE:=cntE t1
 have hGr:TrG (grow e):=⟨he.t t1.k t1.ne,by rw[hcE];omega,Qf7 h⟩
 have hMo:=Qef hΓc (grow e) hGr.ok
 refine zA ?_
 refine AOps.call1 hΓc rfl rfl rfl rfl rfl rfl rfl (by simp) hou (Qk5 hΓc e he.eo t1.k t1 ou) fun r ou1 hq hids hou1=>?_
 obtain⟨t,rfl,her,hOw,hnd,hfr,_,hold⟩:=hq
 rw[←her]at hMo
 refine zA ?_
 refine AOps.callS hΓc hMo (Plain.lit _) rfl rfl rfl rfl rfl rfl (.cons (LendF.treeK hOw hnd) .nil) ?_
 rw[her]
 refine zS (AStep.arith rfl rfl rfl (.inl ⟨rfl,rfl⟩) zI) ?_
 repeat ((fail_if_success ((with_reducible refine oj ?_);refine AOps.atDst 6 rfl ?_));first|refine zO ?_)
 refine AOps.growO 0 1 3 1 rfl rfl ?_
 refine AOps.growO 0 2 68 1 rfl rfl ?_
 have hmr:-1<=mxT (grow e)/\mxT (grow e)<=1048575:=⟨hmn,hmx⟩
 have hqg:=Qjt he h
 have hit0:liftE mxT e=liftE mxT e:=rfl
 obtain⟨M,hM⟩:∃M:Int,M=mxT (grow e):=⟨_,rfl⟩
 have hRdef:∀X N I n,lfIt 60 (grow e,[],[],M+1)=(X,N,I,n)->liftE mxT e=if I=[]then (listT [] X,0)else if check (listT [] (.mk 5 0 I (N++[X]) []))≠0 then ([],2)else (listT [] (.mk 5 0 I (N++[X]) []),0):=fun X N I n hx=>by
  unfold liftE
  rw[if_neg (by simpa using h),←hM,hx]
 rw[←hM]at hmr ⊢
 clear hM hmx hmn hMo hit0
 refine AOps.cedes [0,1,2] rfl (by decide) hou1 fun k hk=>⟨[(20,.one (.ptr (.o k) 0)),(5,.one (.ptr (.o t.id) 0))],[],
  [lsO ⟨k,k+1,k+2,.ptr (.o t.id) 0,[],[],M+1⟩,.tok 3 1 0,tO 0],?_,.nil,?_,?_⟩
 ·exact .cons rfl rfl (.cons rfl rfl .nil)
 ·exact .cons rfl rfl (.cons rfl rfl (.cons rfl rfl .nil))
 obtain⟨s0,hs0⟩:∃s0:LS,s0=⟨k,k+1,k+2,.ptr (.o t.id) 0,[],[],M+1⟩:=⟨_,rfl⟩
 obtain⟨oz,hoz⟩:∃oz:Outer,oz=ouAdd ou1 k [lsO s0,.tok 3 1 0,tO 0]:=⟨_,rfl⟩
 have hz:NewO ou1 oz (obL s0):=by
  rw[hoz,hs0]
  exact NewO.three hk hou1 (by simp[lsO,AObj.ids,idsL,AC.ids,idsS,kK,isO]) trivial trivial
 obtain⟨hUz,hkeep⟩:=Qey hz (by rw[hs0]) hOw hnd hfr hold
 have hR0:RInv (M+1) (erK t) (erKs s0.fns) s0.ids s0.next:=by
  have h1:=Qi0 (grow e)
  rw[hs0,her]
  exact⟨hqg,trivial,by simp[erKs],by simp only[erKs,apNs];omega,by simp only[erKs,cntNs,List.length_nil];omega,rfl,by simp,by simp,by simp⟩
 have hi0:lfIt 60 (grow e,[],[],M+1)=lfIt (60 - 0) (erK t,erKs s0.fns,s0.ids,s0.next):=by rw[hs0,her];rfl
 have hc00:s0.c0=.ptr (.o t.id) 0:=by rw[hs0]
 refine AOps.stEq (show _=St.mk 3 [] oz from by rw[hoz,hs0];rfl) ?_
 rw[show k=s0.id by rw[hs0]]
 refine zA ?_
 refine ACode.loopR hΓc (α:=Nat×LS×LTk×Outer) (fun c=>[(21,.one (int c.1)),(6,.one (.ptr (.o c.2.1.id) 0)),(5,.one (.ptr (.o c.2.2.1.id) 0))])
  (fun c => ⟨3, [], c.2.2.2⟩) (fun m c => (c.1 <= 60 /\ UpdL oz (obL s0 ++ (obK t ++ obKs s0.fns)) c.2.2.2 (obL c.2.1 ++ (obK c.2.2.1 ++ obKs c.2.1.fns)) /\ c.2.1.c0 = .ptr (.o c.2.2.1.id) 0 /\ RInv (M + 1) (erK c.2.2.1) (erKs c.2.1.fns) c.2.1.ids c.2.1.next /\
   lfIt 60 (grow e,[],[],M+1)=lfIt (60 - c.1) (erK c.2.2.1,erKs c.2.1.fns,c.2.1.ids,c.2.1.next))/\m=60 - c.1) (a0:=(0,s0,t,oz)) (ρ:=id) ⟨⟨by omega,hUz,hc00,hR0,hi0⟩,rfl⟩
  (LessR.of rfl zFS (by simp) zLO rfl rfl hUz.ok) fun m c hc=>?_
 obtain⟨j,s,u,ov⟩:=c
 obtain⟨⟨hj,hU,hc0,hRI,hit⟩,rfl⟩:=hc
 dsimp only at hj hU hc0 hRI hit
 refine zA ?_
 refine ACode.cond rfl (fun hb3=>?_) (fun hb3=>?_)
 ·have hlt:j < 60:=by simp at hb3;omega
  obtain⟨q,hq⟩:∃q,60 - j=q+1:=⟨60 - j - 1,by omega⟩
  rw[hq]at hit
  obtain⟨hg1,hg2,hg3⟩:=Qiq hRI hc0 (by omega)
  refine zA ?_
  refine AOps.call1 hΓc rfl rfl rfl rfl rfl rfl rfl ⟨trivial,trivial⟩ hU.ok (Qcn s u hg1 hc0 hg2 hg3 ov hU.own hU.nd hU.ok) fun r ov2 hq2 _ how=>?_
  unfold AnyQ at hq2
  cases hat:anyT s.ids s.next (erK u) (erKs s.fns) with
  |none=>
   rw[hat]at hq2
   obtain⟨rfl,hoe⟩:=hq2
   subst ov2
   replace hit:lfIt 60 (grow e,[],[],M+1)=(erK u,erKs s.fns,s.ids,s.next):=by rw[hit];simp only[lfIt,hat]
   replace how:=how
   repeat ((fail_if_success ((with_reducible refine oj ?_);refine AOps.atDst 27 rfl ?_));first|refine zO ?_)
   refine AOps.freezeLS s u 5 hU.own hU.nd hc0 rfl ?_
   obtain⟨hF1,hF2,hF3,hF4,hF5,hF6⟩:=Qdx hU.own hU.nd
   have hkU:∀m o,ou m=some o->frzU ov s u m=some o/\m≠s.id/\m≠s.ti/\m≠s.tf:=hkeep s u _ hU
   have hn1:=hRI.c
   have hn2:=hRI.t
   have hn3:=hRI.l
   have hXp:=Qd8 _ hRI.r (by omega)
   have hNp:=Q9e _ hRI.q (by omega)
   have hLi:=Qaa hΓc (erK u) (Q4u _ hXp) (by have:=Q26 (erK u) [];simp at *;omega)
   have hYp:allT pOk (.mk 5 0 s.ids (erKs s.fns++[erK u]) []):=⟨⟨by simp;omega,by simp;omega,by simp,by simp,by simp;omega⟩,Q30 hNp ⟨hXp,trivial⟩⟩
   have hYc:cntN (.mk 5 0 s.ids (erKs s.fns++[erK u]) [])<=1048576:=by simp only[cntN,Q1s,cntNs];omega
   have hYl:=Qaa hΓc (.mk 5 0 s.ids (erKs s.fns++[erK u]) []) (Q4u _ hYp) (by have:=Q26 (.mk 5 0 s.ids (erKs s.fns++[erK u]) []) [];simp at *;omega)
   have hYk:=Q4p _ (Q5d hYp hYc)
   clear hYp hYc hXp hNp
   obtain⟨oF,hoF⟩:∃oF,oF=frzU ov s u:=⟨_,rfl⟩
   rw[←hoF]at hF1 hF2 hF3 hkU
   rw[show frzU (St.mk 3 [] ov).ou s u=oF from hoF.symm]
   obtain⟨X,hX⟩:∃X,X=erK u:=⟨_,rfl⟩
   obtain⟨N,hN⟩:∃N,N=erKs s.fns:=⟨_,rfl⟩
   obtain⟨I,hI⟩:∃I,I=s.ids:=⟨_,rfl⟩
   have hNl:N.length=s.fns.length:=by rw[hN,Q0v]
   unfold lsB at hF1
   rw[←hX,←hN,←hI]at hF1
   rw[←hX,←hN,←hI]at hit
   rw[←hX,←hN,←hI]at hYl hYk
   rw[←hI]at hn2 hF2
   rw[←hI,←hN]at hn3
   rw[←hX]at hLi
   rw[←hX]
   clear hX hN hU hc0 hRI hoF
   have hR:=hRdef _ _ _ _ hit
   have hkO:∀(nn:Nat) (i:Go.Abs.Id) (o:AObj),(St.mk nn [] ou).get i=some o->(St.mk nn [] oF).get i=some o:=fun nn i o ho=>by
    cases i with
    |l m=>cases ho
    |o m=>exact (hkU m o ho).1
   repeat' first|refine zN ?_|((with_reducible refine oj ?_);first|refine zix ?_|refine zow rfl rfl hF1 ?_)
   refine ACode.cond rfl (fun hz0=>?_) (fun hz0=>?_)
   ·have hI0:I=[]:=by simpa using hz0
    rw[if_pos hI0]at hR
    unfold LfR
    rw[hR]
    repeat ((fail_if_success ((with_reducible refine oj ?_);refine AOps.atDst 34 rfl ?_));first|refine zO ?_)
    refine AOps.lessO ⟨3,[],ou⟩ rfl (hkO 3) ?_
    refine zca hΓc hLi hou ?_
    refine zA ?_
    exact APure.fin rfl (WkF.ofEq rfl) (by simp) hou rfl
   have hI0:¬I=[]:=by simpa using hz0
   rw[if_neg hI0]at hR
   refine zA ?_
   have hlN:(Q05 N).length=s.fns.length:=by rw[Q0s];simp[hNl]
   have hG1:St.get (((St.mk 3 [] oF).set (.o s.tf) .dead).push (.tok 68 1 (Q05 N++[[AC.box (cTr X)]]).length)) (.o s.id)=some (.cells [.box (cTr X),.gs 1 (I.map cI) (.o s.ti),.gs 1 (Q05 N) (.o s.tf),int s.next]):=by
    show (bif Nat.beq s.id s.tf then some AObj.dead else oF s.id)=_
    rw[Q07 hF5];exact hF1
   have hG0:St.get (St.mk 3 [] oF) (.o s.id)=some (.cells [.box (cTr X),.gs 1 (I.map cI) (.o s.ti),.gs 1 (Q05 N) (.o s.tf),int s.next]):=hF1
   refine ACode.drawXH (va:=.one (.gs 1 (Q05 N++[[AC.box (cTr X)]]) (.l 3))) (σ1:=(((St.mk 3 [] oF).set (.o s.tf) .dead).push (.tok 68 1 (Q05 N++[[AC.box (cTr X)]]).length)))
     tabOk 14 13 [(3,.one (.gs 1 (I.map cI) (.o s.ti))),(7,.one (.gs 1 (Q05 N) (.o s.tf))),(11,.one (.box (cTr X)))] follows (by kernel_rfl) rfl rfl rfl rfl rfl rfl rfl ?_ ?_ ?_ ?_
   ·refine HStep.plain rfl (AStep.append (s:=1) (es:=Q05 N) (news:=[[AC.box (cTr X)]]) (ti:=ti72) (σ:=St.mk 3 [] oF) tabOk rfl rfl rfl rfl rfl rfl (Base.gs' _ 68 1 (Q05 N) (.o s.tf) hF3 hlN.symm) (.sl _ _) rfl ?_ ?_)
    ·rw[hlN];show (_+1) * 8<=_;omega
    ·rw[hlN];show _+1<=_;omega
   ·exact .step rfl (zHP (zLD rfl rfl hG0 rfl)) (.step rfl (zHP (zLD rfl rfl hG0 rfl)) (.step rfl (zHP (zLD rfl rfl hG0 rfl)) .nil))
   ·exact .step rfl (zHP (zLD rfl rfl hG1 rfl)) (.step rfl (zHP (zLD rfl rfl hG1 rfl)) (.step rfl (zHP (zLD rfl rfl hG1 rfl)) .nil))
   repeat ((fail_if_success ((with_reducible refine oj ?_);refine AOps.atDst 51 rfl ?_));first|refine zO ?_)
   refine AOps.freeze1 (.l 4) 50 rfl rfl ?_
   refine AOps.wk 50 rfl (y:=.one (.box (cTr (.mk 5 0 I (N++[X]) [])))) (.one (Wk.box ?_)) ?_
   ·have hE:Q05 N++[[AC.box (cTr X)]]=Q05 (N++[X]):=by simp[Q0s,Q70];rfl
    rw[hE]
    exact .cons (.refl _) (.cons (.refl _) (.cons (.gsE rfl) (.cons (.gsE rfl) (.cons (.nilS 2) .nil))))
   refine AOps.lessO ⟨5,[],ou⟩ rfl (fun i o ho=>by
    cases i with
    |l m=>cases ho
    |o m=>
     obtain⟨h1,_,_,h2⟩:=hkU m o ho
     show (bif Nat.beq m s.tf then some AObj.dead else oF m)=_
     rw[Q07 h2];exact h1) ?_
   obtain⟨Y,hY⟩:∃Y,Y=Tr.mk 5 0 I (N++[X]) []:=⟨_,rfl⟩
   obtain⟨L,hL⟩:∃L,L=listT [] Y:=⟨_,rfl⟩
   rw[←hY]at hYl hYk hR
   rw[←hL]at hYl hYk hR
   rw[←hY]
   refine zca hΓc hYl hou ?_
   refine zA ?_
   refine zca hΓc hYk hou ?_
   refine zA ?_
   refine ACode.cond rfl (fun hc=>?_) (fun hc=>?_)
   ·have hc':check L≠0:=by simpa using hc
    rw[if_pos hc']at hR
    unfold LfR
    rw[hR]
    refine zA ?_
    exact APure.fin rfl (WkF.tup (.cons (.one (.nilS 5)) (.cons (.refl _) .nil))) (by simp) hou rfl
   ·have hc':check L=0:=by simpa using hc
    rw[if_neg (by simpa using hc')]at hR
    unfold LfR
    rw[hR]
    refine zA ?_
    exact APure.fin rfl (WkF.ofEq rfl) (by simp) hou rfl
  |some R=>
   obtain⟨rt,fn,ids',next'⟩:=R
   rw[hat]at hq2
   obtain⟨rfl,u',s',e1,e2,e3,e4,e5,e6,e7,hU2⟩:=hq2
   have hin:=(Qjy hRI hat).1
   rw[←e1,←e5,←e6,←e7]at hin
   replace hit:lfIt 60 (grow e,[],[],M+1)=lfIt q (erK u',erKs s'.fns,s'.ids,s'.next):=by rw[hit];simp only[lfIt,hat,e1,e5,e6,e7]
   rw[←e3]
   refine zM ?_
   refine cInv ⟨60 - (j+1),(j+1,s',u',ov2),_root_.id,by dsimp only;omega,⟨⟨by dsimp only;omega,hU.trans hU2,by dsimp only;rw[e4,e2];exact hc0,hin,?_⟩,rfl⟩,LessR.of rfl ?_ (by simp) zLO rfl rfl how⟩
   ·dsimp only
    rw[hit];congr 1;omega
   ·dsimp only
    rw[e2]
    (repeat' first|exact FrSub.nil|refine zfc ?_|refine zfo ?_|refine zfp ?_)
 ·have hlt:j=60:=by simp at hb3;omega
  subst hlt
  replace hit:lfIt 60 (grow e,[],[],M+1)=(erK u,erKs s.fns,s.ids,s.next):=by rw[hit];rfl
  repeat ((fail_if_success ((with_reducible refine oj ?_);refine AOps.atDst 27 rfl ?_));first|refine zO ?_)
  refine AOps.freezeLS s u 5 hU.own hU.nd hc0 rfl ?_
  obtain⟨hF1,hF2,hF3,hF4,hF5,hF6⟩:=Qdx hU.own hU.nd
  have hkU:∀m o,ou m=some o->frzU ov s u m=some o/\m≠s.id/\m≠s.ti/\m≠s.tf:=hkeep s u _ hU
  have hn1:=hRI.c
  have hn2:=hRI.t
  have hn3:=hRI.l
  have hXp:=Qd8 _ hRI.r (by omega)
  have hNp:=Q9e _ hRI.q (by omega)
  have hLi:=Qaa hΓc (erK u) (Q4u _ hXp) (by have:=Q26 (erK u) [];simp at *;omega)
  have hYp:allT pOk (.mk 5 0 s.ids (erKs s.fns++[erK u]) []):=⟨⟨by simp;omega,by simp;omega,by simp,by simp,by simp;omega⟩,Q30 hNp ⟨hXp,trivial⟩⟩
  have hYc:cntN (.mk 5 0 s.ids (erKs s.fns++[erK u]) [])<=1048576:=by simp only[cntN,Q1s,cntNs];omega
  have hYl:=Qaa hΓc (.mk 5 0 s.ids (erKs s.fns++[erK u]) []) (Q4u _ hYp) (by have:=Q26 (.mk 5 0 s.ids (erKs s.fns++[erK u]) []) [];simp at *;omega)
  have hYk:=Q4p _ (Q5d hYp hYc)
  clear hYp hYc hXp hNp
  obtain⟨oF,hoF⟩:∃oF,oF=frzU ov s u:=⟨_,rfl⟩
  rw[←hoF]at hF1 hF2 hF3 hkU
  rw[show frzU (St.mk 3 [] ov).ou s u=oF from hoF.symm]
  obtain⟨X,hX⟩:∃X,X=erK u:=⟨_,rfl⟩
  obtain⟨N,hN⟩:∃N,N=erKs s.fns:=⟨_,rfl⟩
  obtain⟨I,hI⟩:∃I,I=s.ids:=⟨_,rfl⟩
  have hNl:N.length=s.fns.length:=by rw[hN,Q0v]
  unfold lsB at hF1
  rw[←hX,←hN,←hI]at hF1
  rw[←hX,←hN,←hI]at hit
  rw[←hX,←hN,←hI]at hYl hYk
  rw[←hI]at hn2 hF2
  rw[←hI,←hN]at hn3
  rw[←hX]at hLi
  rw[←hX]
  clear hX hN hU hc0 hRI hoF
  have hR:=hRdef _ _ _ _ hit
  have hkO:∀(nn:Nat) (i:Go.Abs.Id) (o:AObj),(St.mk nn [] ou).get i=some o->(St.mk nn [] oF).get i=some o:=fun nn i o ho=>by
   cases i with
   |l m=>cases ho
   |o m=>exact (hkU m o ho).1
  repeat' first|refine zN ?_|((with_reducible refine oj ?_);first|refine zix ?_|refine zow rfl rfl hF1 ?_)
  refine ACode.cond rfl (fun hz0=>?_) (fun hz0=>?_)
  ·have hI0:I=[]:=by simpa using hz0
   rw[if_pos hI0]at hR
   unfold LfR
   rw[hR]
   repeat ((fail_if_success ((with_reducible refine oj ?_);refine AOps.atDst 34 rfl ?_));first|refine zO ?_)
   refine AOps.lessO ⟨3,[],ou⟩ rfl (hkO 3) ?_
   refine zca hΓc hLi hou ?_
   refine zA ?_
   exact APure.fin rfl (WkF.ofEq rfl) (by simp) hou rfl
  have hI0:¬I=[]:=by simpa using hz0
  rw[if_neg hI0]at hR
  refine zA ?_
  have hlN:(Q05 N).length=s.fns.length:=by rw[Q0s];simp[hNl]
  have hG1:St.get (((St.mk 3 [] oF).set (.o s.tf) .dead).push (.tok 68 1 (Q05 N++[[AC.box (cTr X)]]).length)) (.o s.id)=some (.cells [.box (cTr X),.gs 1 (I.map cI) (.o s.ti),.gs 1 (Q05 N) (.o s.tf),int s.next]):=by
   show (bif Nat.beq s.id s.tf then some AObj.dead else oF s.id)=_
   rw[Q07 hF5];exact hF1
  have hG0:St.get (St.mk 3 [] oF) (.o s.id)=some (.cells [.box (cTr X),.gs 1 (I.map cI) (.o s.ti),.gs 1 (Q05 N) (.o s.tf),int s.next]):=hF1
  refine ACode.drawXH (va:=.one (.gs 1 (Q05 N++[[AC.box (cTr X)]]) (.l 3))) (σ1:=(((St.mk 3 [] oF).set (.o s.tf) .dead).push (.tok 68 1 (Q05 N++[[AC.box (cTr X)]]).length)))
    tabOk 14 13 [(3,.one (.gs 1 (I.map cI) (.o s.ti))),(7,.one (.gs 1 (Q05 N) (.o s.tf))),(11,.one (.box (cTr X)))] follows (by kernel_rfl) rfl rfl rfl rfl rfl rfl rfl ?_ ?_ ?_ ?_
  ·refine HStep.plain rfl (AStep.append (s:=1) (es:=Q05 N) (news:=[[AC.box (cTr X)]]) (ti:=ti72) (σ:=St.mk 3 [] oF) tabOk rfl rfl rfl rfl rfl rfl (Base.gs' _ 68 1 (Q05 N) (.o s.tf) hF3 hlN.symm) (.sl _ _) rfl ?_ ?_)
   ·rw[hlN];show (_+1) * 8<=_;omega
   ·rw[hlN];show _+1<=_;omega
  ·exact .step rfl (zHP (zLD rfl rfl hG0 rfl)) (.step rfl (zHP (zLD rfl rfl hG0 rfl)) (.step rfl (zHP (zLD rfl rfl hG0 rfl)) .nil))
  ·exact .step rfl (zHP (zLD rfl rfl hG1 rfl)) (.step rfl (zHP (zLD rfl rfl hG1 rfl)) (.step rfl (zHP (zLD rfl rfl hG1 rfl)) .nil))
  repeat ((fail_if_success ((with_reducible refine oj ?_);refine AOps.atDst 51 rfl ?_));first|refine zO ?_)
  refine AOps.freeze1 (.l 4) 50 rfl rfl ?_
  refine AOps.wk 50 rfl (y:=.one (.box (cTr (.mk 5 0 I (N++[X]) [])))) (.one (Wk.box ?_)) ?_
  ·have hE:Q05 N++[[AC.box (cTr X)]]=Q05 (N++[X]):=by simp[Q0s,Q70];rfl
   rw[hE]
   exact .cons (.refl _) (.cons (.refl _) (.cons (.gsE rfl) (.cons (.gsE rfl) (.cons (.nilS 2) .nil))))
  refine AOps.lessO ⟨5,[],ou⟩ rfl (fun i o ho=>by
   cases i with
   |l m=>cases ho
   |o m=>
    obtain⟨h1,_,_,h2⟩:=hkU m o ho
    show (bif Nat.beq m s.tf then some AObj.dead else oF m)=_
    rw[Q07 h2];exact h1) ?_
  obtain⟨Y,hY⟩:∃Y,Y=Tr.mk 5 0 I (N++[X]) []:=⟨_,rfl⟩
  obtain⟨L,hL⟩:∃L,L=listT [] Y:=⟨_,rfl⟩
  rw[←hY]at hYl hYk hR
  rw[←hL]at hYl hYk hR
  rw[←hY]
  refine zca hΓc hYl hou ?_
  refine zA ?_
  refine zca hΓc hYk hou ?_
  refine zA ?_
  refine ACode.cond rfl (fun hc=>?_) (fun hc=>?_)
  ·have hc':check L≠0:=by simpa using hc
   rw[if_pos hc']at hR
   unfold LfR
   rw[hR]
   refine zA ?_
   exact APure.fin rfl (WkF.tup (.cons (.one (.nilS 5)) (.cons (.refl _) .nil))) (by simp) hou rfl
  ·have hc':check L=0:=by simpa using hc
   rw[if_neg (by simpa using hc')]at hR
   unfold LfR
   rw[hR]
   refine zA ?_
   exact APure.fin rfl (WkF.ofEq rfl) (by simp) hou rfl
end Go.Proofs.YtmdkenkhaicbeaaGreatDoor
namespace Go.CoreX
open Go.Proofs.YtmdkenkhaicbeaaGreatDoor
def lfT:Tr:=.mk 4 0 [1] [.mk 1 4 [] [] [],.mk 4 0 [2] [.mk 2 0 [3] [.mk 8 0 [] [.mk 0 3 [] [] [],.mk 0 1 [] [] []] []] [],.mk 3 0 [] [.mk 0 2 [] [] [],.mk 1 5 [] [] []] []] []] []
def lfE:List Ex:=listT [] lfT
def lfU:Tr:=.mk 5 0 [2] [.mk 2 0 [3,4] [.mk 8 0 [] [.mk 0 3 [] [] [],.mk 0 4 [] [] []] []] [],.mk 4 0 [1] [.mk 1 4 [] [] [],.mk 3 0 [] [.mk 0 2 [] [] [],.mk 1 5 [] [] [],.mk 0 1 [] [] []] []] []] []
theorem Qgn:check (listT [] lfU)=0:=by decide +kernel
theorem lf_run:liftE mxT lfE=(listT [] lfU,0):=by kernel_rfl
end Go.CoreX
namespace Go.Proofs.YtmdkenkhaicbeaaGreatDoor
open Go Go.Abs Go.CoreX
theorem okB_lf:okB lfE:=Q5d (Q7d _ (by simp[lfT,okT,okTs])) (by simp[lfT,cntN,cntNs])
theorem okB_lfU:okB (listT [] lfU):=Q5d (Q7d _ (by simp[lfU,okT,okTs])) (by simp[lfU,cntN,cntNs])
theorem Qjn:allT (FragL false) lfU:=
 ⟨Q24 rfl,⟨Q24 rfl,⟨Q24 rfl,⟨Q24 rfl,trivial⟩,⟨Q24 rfl,trivial⟩,trivial⟩,trivial⟩,⟨Q24 rfl,⟨Q24 rfl,trivial⟩,⟨Q24 rfl,⟨Q24 rfl,trivial⟩,⟨Q24 rfl,trivial⟩,⟨Q24 rfl,trivial⟩,trivial⟩,trivial⟩,trivial⟩
theorem run_lf:RunsTo false 3000 (listT [] lfU) ⟨.rt (.word 9),[],[],10,[]⟩ (.word 9):=
 ⟨Qgn,by rw[Q3e];exact Qjn,by omega,by rw[Q3e];exact⟨100,by kernel_rfl,fun h=>by cases h⟩,by simp,by decide⟩
theorem Q3j:APure Tryz.prog Γc 22 [] (.one (.lit (.bool true))):=by
 have hL:=Qcr hΓc lfT (by simp[lfT,okT,okTs]) (by simp[lfT,listT,Q02])
 have hR:=Qee lfE okB_lf
 unfold LfR at hR
 rw[lf_run]at hR
 have hF:=Qin okB_lfU run_lf
 have hN1:=N_ok (Γ:=Γc) 8 0 [.mk 0 3 [] [] [],.mk 0 1 [] [] []]
 have hB1:=B_ok (Γ:=Γc) 2 [3] [.mk 8 0 [] [.mk 0 3 [] [] [],.mk 0 1 [] [] []] []]
 have hN2:=N_ok (Γ:=Γc) 3 0 [.mk 0 2 [] [] [],.mk 1 5 [] [] []]
 have hB2:=B_ok (Γ:=Γc) 4 [2] [.mk 2 0 [3] [.mk 8 0 [] [.mk 0 3 [] [] [],.mk 0 1 [] [] []] []] [],.mk 3 0 [] [.mk 0 2 [] [] [],.mk 1 5 [] [] []] []]
 have hB3:=B_ok (Γ:=Γc) 4 [1] [.mk 1 4 [] [] [],.mk 4 0 [2] [.mk 2 0 [3] [.mk 8 0 [] [.mk 0 3 [] [] [],.mk 0 1 [] [] []] []] [],.mk 3 0 [] [.mk 0 2 [] [] [],.mk 1 5 [] [] []] []] []]
 rw[Q5n]at hN1 hB1 hN2 hB2 hB3
 intro ou
 refine AFn.walk 57 tabOk Tryz.func22 rfl (by kernel_rfl) rfl rfl fun hou=>?_
 refine zA ?_
 refine zca hΓc (V_ok hΓc 3) hou ?_
 refine zca hΓc (V_ok hΓc 1) hou ?_
 refine zA ?_
 refine zca hΓc hN1 hou ?_
 refine zA ?_
 refine zca hΓc hB1 hou ?_
 refine zA ?_
 refine zca hΓc (W_ok hΓc 4) hou ?_
 refine zA ?_
 refine zca hΓc (V_ok hΓc 2) hou ?_
 refine zca hΓc (W_ok hΓc 5) hou ?_
 refine zA ?_
 refine zca hΓc hN2 hou ?_
 refine zA ?_
 refine zca hΓc hB2 hou ?_
 refine zA ?_
 refine zca hΓc hB3 hou ?_
 refine zca hΓc hL hou ?_
 rw[show listT [] lfT=lfE from rfl]
 obtain⟨x,l,hx,hx5⟩:∃x l,listT [] lfU=l++[x]/\x.op=5:=⟨(listT [] lfU).getLast (by decide +kernel),(listT [] lfU).dropLast,(List.dropLast_concat_getLast (by decide +kernel)).symm,by decide +kernel⟩
 obtain⟨U,hU⟩:∃U,U=listT [] lfU:=⟨_,rfl⟩
 rw[←hU]at hR hF hx
 refine zA ?_
 refine zca hΓc hR hou ?_
 refine zA ?_
 refine zca hΓc hF hou ?_
 dsimp only
 have hget:(U.map cEx)[(((U.map cEx).length:Int) - 1).toNat]?=some (cEx x):=by
  rw[hx];simp
 have hpos:(0:Int)<=((U.map cEx).length:Int) - 1:=by rw[hx];simp
 have hlen:U.length=11:=by rw[hU];decide +kernel
 refine zM ?_
 refine AOps.wk 47 rfl (y:=.one (.lit (.bool true))) (.ofEq rfl) ?_
 refine zS (zIA rfl rfl rfl hpos hget) ?_
 refine zM ?_
 refine APure.fin rfl (WkF.ofEq ?_) (by simp) hou rfl
 simp[hx5]
end Go.Proofs.YtmdkenkhaicbeaaGreatDoor
namespace Go.CoreX
open Go Go.Abs
open Go.Proofs.YtmdkenkhaicbeaaGreatDoor
def kidL (e:List Ex)(x:Ex):Ex:=e.getD (x.kids.getD 0 0).toNat ⟨0,0,[],[],[]⟩
def grpX (e:List Ex)(x:Ex):Bool:=x.op==5||(x.op==4&&(kidL e x).op==2)
theorem kidL_at{e:List Ex}{x y:Ex}{k:Int}(hk:x.kids[0]?=some k)(hy:e[k.toNat]?=some y):kidL e x=y:=by
 unfold kidL
 rw[List.getD_eq_getElem?_getD,List.getD_eq_getElem?_getD,hk]
 simp only[Option.getD_some]
 rw[hy];rfl
theorem Qdh{e:List Ex}(hc:check e=0){i:Nat}{x:Ex}(hx:e[i]?=some x)(h:x.op=4):∃k,x.kids[0]?=some k/\0<=k/\k < (i:Int):=by
 have t1:=Q10 hc
 have hs:=Q6r hc x (List.mem_of_getElem? hx)
 have hk:x.kids.length=2:=by
  simp[Go.CoreX.shape,wants,h]at hs
  omega
 obtain⟨k,hk0⟩:=Q00 (l:=x.kids) (i:=0) (by omega)
 exact⟨k,hk0,t1.k i x hx k (List.mem_of_getElem? hk0)⟩
structure noG (l:Lab):Prop where
 r:l.op≠5
 f:l.op=4->l.ops[0]?≠some 2
theorem noG_of{e:List Ex}(hc:check e=0)(h:∀x∈e,grpX e x=false):allT noG (grow e):=by
 refine Q5u (Q10 hc) fun x hx=>?_
 have h1:=h x hx
 unfold grpX at h1
 simp only[Bool.or_eq_false_iff,beq_eq_false_iff_ne,Bool.and_eq_false_iff]at h1
 refine⟨h1.1,fun h4=>?_⟩
 have h4':x.op=4:=h4
 have h2:(kidL e x).op≠2:=h1.2.resolve_left (fun hn=>hn h4')
 intro h0
 obtain⟨i,hi⟩:=List.getElem?_of_mem hx
 obtain⟨k,hk0,hk1,hk2⟩:=Qdh hc hi h4'
 simp only[labE,List.getElem?_map,hk0,Option.map_some,Option.some.injEq,List.getD_eq_getElem?_getD,Qdv]at h0
 refine h2 ?_
 unfold kidL
 rw[List.getD_eq_getElem?_getD,List.getD_eq_getElem?_getD,hk0]
 exact h0
theorem noG_gOf{t:Tr}(h:allT noG t):gOfT t=none:=by
 obtain⟨o,n,b,k,a⟩:=t
 have h1:=h.1.r
 have h2:=h.1.f
 simp only at h1 h2
 simp only[gOfT]
 rw[if_neg h1,if_neg]
 rintro⟨h4,h5⟩
 refine h2 h4 ?_
 cases k with
 |nil=>exact absurd h5 (by decide)
 |cons x l=>
  have h6:x.op=2:=h5
  simp[h6]
mutual
theorem noG_fi{top:List Int}{next:Int}:∀t:Tr,allT noG t->fiT top next t=none
 |.mk o n b k a,h=>by
  have h1:liftT top next (.mk o n b k a)=none:=by unfold liftT;rw[noG_gOf h]
  simp only[fiT,h1,Qge k h.2,Option.map_none]
theorem Qge{top:List Int}{next:Int}:∀l:List Tr,allTs noG l->fiTs top next l=none
 |[],_=>rfl
 |t::l,h=>by simp only[fiTs,noG_fi t h.1,Qge l h.2,Option.map_none]
end
theorem Qc5{m:Tr->Int}{e:List Ex}(hc:check e=0)(h:∀x∈e,grpX e x=false):liftE m e=(listT [] (grow e),0):=by
 have h1:anyT [] (m (grow e)+1) (grow e) []=none:=by
  unfold anyT
  rw[noG_fi _ (noG_of hc h)]
  rfl
 have h2:lfIt 60 (grow e,[],[],m (grow e)+1)=(grow e,[],[],m (grow e)+1):=by
  rw[show (60:Nat)=59+1 from rfl]
  simp only[lfIt,h1]
 unfold liftE
 rw[if_neg (by simpa using hc),h2]
 rfl
end Go.CoreX
namespace Go.Proofs.YtmdkenkhaicbeaaGreatDoor
open Go Go.Abs Go.CoreX
variable {Γ:List (Nat×List AC)}
theorem Qk6(hΓ:∀g cs,(g,cs)∈Γ->idsL isO cs)(gf:Nat)(caps:List AC)(hcap:idsL isO caps)(p:Ex->Bool)(xs:List Ex)(hx:xs.length<=1048576)(hf:∀a∈xs,APure Tryz.prog Γ gf (.agg (cEx a)::caps.map .one) (.one (.lit (.bool (p a))))):
  APure Tryz.prog Γ 40 [.one (.sl 5 (xs.map cEx)),.one (.fn (.func gf) [] caps)] (.one (int (idxOf p xs))):=by
 intro ou
 refine AFn.walk 19 tabOk Tryz.func40 rfl (by kernel_rfl) rfl rfl fun hou=>?_
 refine zA ?_
 refine ACode.loopR hΓ (α:=Nat) (fun j=>[(8,.one (int j)),(7,.one (int (xs.map cEx).length)),(1,.one (.fn (.func gf) [] caps)),(0,.one (.sl 5 (xs.map cEx)))])
  (fun j=>⟨0,[],ou⟩) (fun m j=>j<=xs.length/\(∀x∈xs.take j,p x=false)/\m=xs.length - j) (a0:=0) (ρ:=id) ⟨by omega,by simp,rfl⟩ (LessR.of rfl ?_ ?_ zLO rfl rfl hou) fun m j hj=>?_
 ·refine .cons rfl (.ofEq rfl) (.cons rfl (.ofEq rfl) (.consP rfl (.ofEq rfl) (by simp[hcap]) (.consP rfl (.ofEq rfl) (by simp) .nil)))
 ·simp[Q0r Q4y caps hcap]
 obtain⟨hjl,hno,rfl⟩:=hj
 refine zA ?_
 refine ACode.cond rfl (fun hb2=>?_) (fun hb2=>?_)
 ·have hlt:j < xs.length:=by simpa using hb2
  obtain⟨a,ha⟩:=Q00 hlt
  have hca:=hf a (List.mem_of_getElem? ha)
  refine zA ?_
  refine zS (zIA rfl rfl rfl (by omega) (by simpa using Q08 ha)) ?_
  refine zA ?_
  refine AOps.callC hΓ hca rfl rfl rfl rfl rfl rfl rfl hou (by simp[Q7p hcap]) ?_
  refine zA ?_
  refine ACode.cond rfl (fun hb3=>?_) (fun hb3=>?_)
  ·refine zA ?_
   refine APure.fin rfl (WkF.ofEq ?_) (by simp) hou rfl
   rw[Q4i hno ha hb3]
  ·refine zA ?_
   refine zS (AStep.arith rfl rfl rfl (.inl ⟨rfl,rfl⟩) zI) ?_
   refine zA ?_
   refine cInv ⟨xs.length - (j+1),j+1,id,by omega,⟨by omega,Q12 hno ha hb3,rfl⟩,LessR.of rfl ?_ ?_ zLO rfl rfl hou⟩
   ·refine .cons rfl (.ofEq rfl) (.cons rfl (.ofEq rfl) (.consP rfl (.ofEq rfl) (by simp[hcap]) (.consP rfl (.ofEq rfl) (by simp) .nil)))
   ·simp[Q0r Q4y caps hcap]
 ·have hlt:j=xs.length:=by simp at hb2;omega
  subst hlt
  rw[List.take_length]at hno
  refine zA ?_
  refine APure.fin rfl (WkF.ofEq ?_) (by simp) hou rfl
  rw[Q3d hno]
theorem Qk7(hΓ:∀g cs,(g,cs)∈Γ->idsL isO cs)(gf:Nat)(caps:List AC)(hcap:idsL isO caps)(p:Ex->Bool)(xs:List Ex)(hx:xs.length<=1048576)(hf:∀a∈xs,APure Tryz.prog Γ gf (.agg (cEx a)::caps.map .one) (.one (.lit (.bool (p a))))):
  APure Tryz.prog Γ 13 [.one (.sl 5 (xs.map cEx)),.one (.fn (.func gf) [] caps)] (.one (.lit (.bool (xs.any p)))):=by
 intro ou
 refine AFn.walk 9 tabOk Tryz.func13 rfl (by kernel_rfl) rfl rfl fun hou=>?_
 refine zA ?_
 refine AOps.callC hΓ (Qk6 hΓ gf caps hcap p xs hx hf) rfl rfl rfl rfl rfl rfl rfl hou (by simp[hcap]) ?_
 refine zA ?_
 refine APure.fin rfl (WkF.ofEq ?_) (by simp) hou rfl
 rw[←Q2x]

theorem grpX_ok(e:List Ex)(hel:e.length<=1048576)(hc:check e=0)(x:Ex)(hx:x∈e):APure Tryz.prog Γ 30 (.agg (cEx x)::[AC.box [.sl 5 (e.map cEx)]].map .one) (.one (.lit (.bool (grpX e x)))):=by
 obtain⟨i,hi⟩:=List.getElem?_of_mem hx
 have hlt:=(List.getElem?_eq_some_iff.1 hi).1
 intro ou
 refine AFn.walk 23 tabOk Tryz.func30 rfl (by kernel_rfl) rfl rfl fun hou=>?_
 refine zA ?_
 by_cases h5:x.op=5
 ·refine ACode.drawX tabOk 18 [(2,.one (.lit (.bool true)))] follows (by kernel_rfl) rfl rfl rfl rfl ?_ ?_
  ·exact .step rfl (HStep.litB tabOk rfl (by simp[h5])) .nil
  refine zA ?_
  refine APure.fin rfl (WkF.ofEq ?_) (by simp) hou rfl
  simp[grpX,h5]
 by_cases h4:x.op=4
 ·obtain⟨k,hk0,hk1,hk2⟩:=Qdh hc hi h4
  obtain⟨k,rfl⟩:∃k':Nat,k=k':=⟨k.toNat,by omega⟩
  obtain⟨y,hy⟩:=Q00 (l:=e) (i:=k) (by omega)
  have hkx:kidL e x=y:=kidL_at hk0 (by simpa using hy)
  refine ACode.drawX tabOk 18 [(2,.one (.lit (.bool false))),(6,.one (.lit (.bool true))),(11,.one (.box (cI (k:Int)))),(13,.one (.box (cEx y)))] follows (by kernel_rfl) rfl rfl rfl rfl ?_ ?_
  ·refine .step rfl (HStep.litB tabOk rfl (by simp[h5])) ?_
   refine .step rfl (HStep.litB tabOk rfl (by simp[h4])) ?_
   refine .step rfl (HStep.guarded rfl rfl rfl (zIA rfl rfl rfl (by decide) (Q08 hk0))) ?_
   exact .step rfl (HStep.guarded rfl rfl rfl (zIA rfl rfl rfl (by omega) (Q08 hy))) .nil
  refine zA ?_
  refine APure.fin rfl (WkF.ofEq ?_) (by simp) hou rfl
  simp[grpX,hkx,h4]
 ·refine ACode.drawX tabOk 18 [(2,.one (.lit (.bool false))),(6,.one (.lit (.bool false)))] follows (by kernel_rfl) rfl rfl rfl rfl ?_ ?_
  ·refine .step rfl (HStep.litB tabOk rfl (by simp[h5])) ?_
   exact .step rfl (HStep.litB tabOk rfl (by simp[h4])) .nil
  refine zA ?_
  refine APure.fin rfl (WkF.ofEq ?_) (by simp) hou rfl
  simp[grpX,h5,h4]
theorem Qbm(e:List Ex)(he:okB e):APure Tryz.prog Γc 6 [.one (.sl 5 (e.map cEx))] (.one (.lit (.bool true))):=by
 have hel:=he.eo.l
 have hR:=Qee e he
 unfold LfR at hR
 intro ou
 refine AFn.walk 26 tabOk Tryz.func6 rfl (by kernel_rfl) rfl rfl fun hou=>?_
 refine zA ?_
 refine AOps.freeze1 (.l 0) 1 rfl rfl ?_
 by_cases h:check e≠0
 ·rw[show liftE mxT e=([],check e) by unfold liftE;rw[if_pos h]]at hR
  dsimp only at hR
  refine zA ?_
  refine zca hΓc hR hou ?_
  refine zA ?_
  refine ACode.cond rfl (fun hb=>?_) (fun hb=>absurd hb (by simpa using h))
  refine zA ?_
  refine zca hΓc Q3j hou ?_
  refine zM ?_
  exact APure.fin rfl (WkF.ofEq (by simp)) (by simp) hou rfl
 have h:check e=0:=by simpa using h
 have hH:=Qk7 hΓc 30 [.box [.sl 5 (e.map cEx)]] (by simp) (grpX e) e hel (fun x hx=>grpX_ok e hel h x hx)
 obtain⟨V,hV⟩:∃V,V=liftE mxT e:=⟨_,rfl⟩
 rw[←hV]at hR
 refine zA ?_
 refine zca hΓc hR hou ?_
 refine zA ?_
 refine ACode.cond rfl (fun hb=>?_) (fun hb=>?_)
 ·refine zA ?_
  refine zca hΓc Q3j hou ?_
  refine zM ?_
  exact APure.fin rfl (WkF.ofEq (by simp)) (by simp) hou rfl
 refine zA ?_
 refine zca hΓc hH hou ?_
 cases hany:e.any (grpX e) with
 |true=>
  refine zA ?_
  refine zca hΓc Q3j hou ?_
  refine zM ?_
  exact APure.fin rfl (WkF.ofEq (by simp)) (by simp) hou rfl
 |false=>
  have hno:∀x∈e,grpX e x=false:=by simpa using hany
  have hVe:V=(listT [] (grow e),0):=by rw[hV];exact Qc5 h hno
  have hS:=Same_ok e (listT [] (grow e)) he (okB_ord he h) (by simp[same,h,Qf8 h,Q3e,Q99])
  subst hVe
  refine zA ?_
  refine zca hΓc Q3j hou ?_
  refine zM ?_
  refine zca hΓc hS hou ?_
  refine zM ?_
  exact APure.fin rfl (WkF.ofEq (by simp)) (by simp) hou rfl
end Go.Proofs.YtmdkenkhaicbeaaGreatDoor
