/- lift: what a checked list's tree satisfies. -/
import Derived.Test.YtmdkenkhaicbeaaGreatDoorC12
set_option maxRecDepth 10000
set_option linter.unusedVariables false
set_option linter.unusedSimpArgs false
namespace Go.Proofs.YtmdkenkhaicbeaaGreatDoor
open Go Go.Abs Go.CoreX
theorem Qh7(e:List Ex):(growL e).map Tr.op=e.map Ex.op:=by
 refine Q4k (P:=fun e=>(growL e).map Tr.op=e.map Ex.op) rfl (fun l x ih=>?_) e
 rw[Q1a,List.map_append,List.map_append,ih];rfl
theorem Qjj(e:List Ex)(i:Nat):((growL e)[i]?.getD default).op=(e[i]?.getD ⟨0,0,[],[],[]⟩).op:=by
 have h:=congrArg (fun l=>l[i]?) (Qh7 e)
 simp only[List.getElem?_map]at h
 cases h1:(growL e)[i]? with
 |none=>
  rw[h1]at h
  cases h2:e[i]? with
  |none=>rfl
  |some y=>rw[h2]at h;cases h
 |some y=>
  rw[h1]at h
  cases h2:e[i]? with
  |none=>rw[h2]at h;cases h
  |some z=>
   rw[h2]at h
   simpa using h
theorem Qjq{e:List Ex}(h:check e=0){x:Ex}(hx:x∈e)(h5:x.op=5):(labE e x).ops.take x.binds.length=List.replicate x.binds.length 2:=by
 obtain⟨h1,h2,_⟩:=Q32 h
 have hn:=h2 x hx
 have hs:=Q6r h x hx
 have hk:(x.kids.length:Int)=x.binds.length+1:=by
  simp[Go.CoreX.shape,wants,h5]at hs
  omega
 unfold Q0k at hn
 split at hn
 ·cases hn
 unfold Q1j at hn
 rw[hs]at hn
 simp only[Bool.true_eq_false,if_false]at hn
 split at hn
 ·rename_i hr
  exact absurd hn hr
 split at hn
 ·cases hn
 rename_i hb
 refine List.ext_getElem? fun j=>?_
 rw[List.getElem?_take,List.getElem?_replicate]
 by_cases hj:j < x.binds.length
 ·rw[if_pos hj,if_pos hj]
  have hj2:Q12 e x j=false:=by
   cases hc:Q12 e x j with
   |false=>rfl
   |true=>exact absurd (List.any_eq_true.2 ⟨j,by simpa using hj,hc⟩) hb
  unfold Q12 at hj2
  rw[h5]at hj2
  simp at hj2
  have hjk:j < x.kids.length:=by omega
  simp only[labE,List.getElem?_map,List.getElem?_eq_getElem hjk,Option.map_some]
  rw[List.getElem?_eq_getElem hjk]at hj2
  rw[List.getD_eq_getElem?_getD,Qjj]
  simpa using hj2
 ·rw[if_neg hj,if_neg hj]
theorem Qea{e:List Ex}(he:okB e)(h:check e=0):allT qL (grow e):=by
 have t1:=Q19 h
 refine Q7y t1 fun x hx=>?_
 have ho:=he.eo.x x hx
 exact⟨⟨⟨x.kids,by simp[labE],Q6r h x hx⟩⟩,fun h5=>Qjq h hx h5,ho.b,ho.a,ho.ab,he.b x hx⟩
theorem NewO.three{ou:Outer}{k:Nat}{u v w:AObj}(hk:∀m,k<=m->ou m=none)(hou:OuOk ou)(hu:u.ids isO)(hv:v.ids isO)(hw:w.ids isO):NewO ou (ouAdd ou k [u,v,w]) [(k,u),(k+1,v),(k+2,w)]:=by
 refine⟨fun p hp=>?_,fun j hj=>?_,fun m hm=>?_,Q2f hou fun q hq=>?_,by simp[keys]⟩
 ·simp only[List.mem_cons,List.not_mem_nil,or_false]at hp
  rcases hp with rfl|rfl|rfl
  ·exact Q0e 0
  ·exact Q0e 1
  ·exact Q0e 2
 ·simp[keys]at hj
  rcases hj with rfl|rfl|rfl <;> exact hk _ (by omega)
 ·simp[keys]at hm
  rcases Nat.lt_or_ge m k with h1|h1
  ·exact Q0f h1
  ·obtain⟨p,rfl⟩:∃p,m=k+p:=⟨m - k,by omega⟩
   rw[Q0e,hk _ h1]
   match p,hm with
   |0,hm=>simp at hm
   |1,hm=>simp at hm
   |2,hm=>simp at hm
   |p+3,hm=>simp
 ·simp only[List.mem_cons,List.not_mem_nil,or_false]at hq
  rcases hq with rfl|rfl|rfl
  ·exact hu
  ·exact hv
  ·exact hw
theorem Qey{ou ou1:Outer}{t:LTk}{s0:LS}{oz:Outer}(hz:NewO ou1 oz (obL s0))(hfn:s0.fns=[])(hOw:Owns ou1 (obK t))(hnd:(keys (obK t)).Nodup)(hfr:∀k∈keys (obK t),ou k=none)(hold:∀j o,ou j=some o->ou1 j=some o):
  UpdL oz (obL s0++(obK t++obKs s0.fns)) oz (obL s0++(obK t++obKs s0.fns))/\
  ∀(s:LS) (u:LTk) (ov:Outer),UpdL oz (obL s0++(obK t++obKs s0.fns)) ov (obL s++(obK u++obKs s.fns))->∀m o,ou m=some o->frzU ov s u m=some o/\m≠s.id/\m≠s.ti/\m≠s.tf:=by
 rw[hfn]
 simp only[obKs,List.append_nil]
 refine⟨UpdL.refl (Owns.app.2 ⟨hz.own,hz.frame hOw⟩) ?_ hz.ok,fun s u ov hU m o ho=>?_⟩
 ·simp only[keys,List.map_append]
  exact List.nodup_append.2 ⟨hz.nd,hnd,fun a ha b hb e=>by subst e;exact hz.disj hOw a hb ha⟩
 ·have h1:=hold m o ho
  have hk1:m∉keys (obL s0):=fun hm=>by have:=hz.new m hm;rw[h1]at this;cases this
  have hk2:m∉keys (obK t):=fun hm=>by have:=hfr m hm;rw[ho]at this;cases this
  have hk0:m∉keys (obL s0++obK t):=by
   simp only[keys,List.map_append,List.mem_append]at hk1 hk2 ⊢
   exact fun h=>h.elim hk1 hk2
  have hm:oz m=some o:=by rw[hz.old m hk1];exact h1
  have hkL:m∉keys (obL s++(obK u++obKs s.fns)):=fun h=>by
   rcases hU.new m h with h|h
   ·exact hk0 h
   ·rw[hm]at h;cases h
  have hkP:m∉keys (lsP s u):=fun h=>by
   have h2:=List.count_pos_iff.2 h
   have h3:=Q6u s u m
   refine hkL (List.count_pos_iff.1 ?_)
   simp only[keys,List.map_append,List.count_append]at h2 h3 ⊢
   omega
  simp only[obL,keys,List.map_append,List.map_cons,List.map_nil,List.mem_append,List.mem_cons,List.not_mem_nil,or_false,not_or]at hkL
  refine⟨?_,hkL.1.1,hkL.1.2.1,hkL.1.2.2⟩
  unfold frzU
  rw[Q04 _ (fun e=>hkL.1.1 e.symm)]
  unfold deadL
  rw[if_neg hkP,Q9f hkP,hU.old m hk0 (by rw[hm];simp),hm]
theorem Qdy{ov:Outer}{s:LS}{u:LTk}(ho:Owns ov (obL s++(obK u++obKs s.fns)))(hn:(keys (obL s++(obK u++obKs s.fns))).Nodup):
  frzU ov s u s.id=some (.cells (lsB s u))/\frzU ov s u s.ti=some (.tok 3 1 s.ids.length)/\frzU ov s u s.tf=some (tO s.fns.length)/\s.id≠s.ti/\s.id≠s.tf/\s.ti≠s.tf:=by
 have hc:=List.nodup_iff_count.1 hn
 have hk:=Q6u s u
 have hn1:∀j∈keys (obL s),j∉keys (lsP s u):=fun j hj hm=>by
  have h1:=List.count_pos_iff.2 hj
  have h2:=List.count_pos_iff.2 hm
  have h3:=hk j
  have h4:=hc j
  simp only[keys,List.map_append,List.count_append]at h1 h2 h3 h4
  omega
 have hnd:(keys (obL s)).Nodup:=by
  simp only[keys,List.map_append]at hn ⊢
  exact (List.nodup_append.1 hn).1
 simp only[obL,keys,List.map_cons,List.map_nil,List.nodup_cons,List.mem_cons,List.not_mem_nil,or_false,not_or]at hnd
 have hg:∀p∈obL s,p.1≠s.id->frzU ov s u p.1=some p.2:=fun p hp hne=>by
  have h1:=hn1 p.1 (List.mem_map_of_mem hp)
  unfold frzU
  rw[Q04 _ (fun e=>hne e.symm)]
  unfold deadL
  rw[if_neg h1,Q9f h1]
  exact ho p (List.mem_append_left _ hp)
 refine⟨?_,hg (s.ti,.tok 3 1 s.ids.length) (by simp[obL]) (fun e=>hnd.1.1 e.symm),hg (s.tf,tO s.fns.length) (by simp[obL]) (fun e=>hnd.1.2 e.symm),hnd.1.1,hnd.1.2,hnd.2.1⟩
 unfold frzU
 exact Q06 _ _ _
end Go.Proofs.YtmdkenkhaicbeaaGreatDoor
namespace Go.CoreX
open Go Go.Abs
open Go.Proofs.YtmdkenkhaicbeaaGreatDoor
def lfIt:Nat->Tr×List Tr×List Int×Int->Tr×List Tr×List Int×Int
 |0,s=>s
 |k+1,s=>match anyT s.2.2.1 s.2.2.2 s.1 s.2.1 with
  |none=>s
  |some s'=>lfIt k s'
def liftE (m:Tr->Int)(e:List Ex):List Ex×Int:=if check e≠0 then ([],check e) else
 match lfIt 60 (grow e,[],[],m (grow e)+1) with
 |(root,fns,ids,_)=>if ids=[]then (listT [] root,0)else if check (listT [] (.mk 5 0 ids (fns++[root]) []))≠0 then ([],2)else (listT [] (.mk 5 0 ids (fns++[root]) []),0)
end Go.CoreX
namespace Go.Proofs.YtmdkenkhaicbeaaGreatDoor
open Go Go.Abs Go.CoreX
theorem Qin{n0:Int}{s:LS}{u:LTk}(h:RInv n0 (erK u) (erKs s.fns) s.ids s.next)(hc:s.c0=.ptr (.o u.id) 0)(hn:0<=n0/\n0<=1048576):
  LsG s/\LfG (erK u)/\∀f∈s.fns,0 < f.kids.length/\LfG (erK (f.kids.getD 0 default)):=by
 have h1:=h.t
 have h2:=h.l
 have h3:=h.n
 have h4:=h.m
 have h5:=h.c
 rw[Q0w]at h2
 refine⟨⟨by omega,by omega,by omega,by rw[hc];trivial⟩,qL_LfG h.r (by omega),fun f hf=>?_⟩
 have hm:=Q3s hf
 have hq:=Q1m.1 h.q _ hm
 have hcm:=Q3v hm
 have hL:=qL_LfG hq (by omega)
 have ho:f.op=2:=by
  have:=h.o _ hm
  cases f;exact this
 have hk:=Qgl hL.g ho
 refine⟨hk,hL.kid ?_⟩
 obtain⟨i,tk,o,n,b,ks,a⟩:=f
 simp only[erK,Tr.kids_mk,LTk.kids]at hk ⊢
 obtain⟨k0,hk0⟩:=Q00 hk
 rw[List.getD_eq_getElem?_getD,hk0]
 exact Q3s (List.mem_of_getElem? hk0)
def LfR (e:List Ex):FV:=.tup [.one (.sl 5 ((liftE mxT e).1.map cEx)),.one (int (liftE mxT e).2)]
set_option maxHeartbeats 1000000 in
theorem Qei(e:List Ex)(he:okB e):APure Tryz.prog Γc 21 [.one (.sl 5 (e.map cEx))] (LfR e):=by
 intro ou
 refine AFn.walk 56 tabOk Tryz.func21 rfl (by kernel_rfl) rfl rfl fun hou=>?_
 refine zA ?_
 refine zca hΓc (Q5v e he) hou ?_
 refine zA ?_
 refine ACode.cond rfl (fun hb=>?_) (fun hb=>?_)
 ·have h:check e≠0:=by simpa using hb
  have hR:liftE mxT e=([],check e):=by unfold liftE;rw[if_pos h]
  refine zA ?_
  unfold LfR
  rw[hR]
  exact APure.fin rfl (WkF.tup (.cons (.one (.nilS 5)) (.cons (.refl _) .nil))) (by simp) hou rfl
 have h:check e=0:=by simpa using hb
 have t1:=Q19 h
 have hmx:=mxT_le 1048575 (by decide) _ (Qhp h)
 have hmn:=mxT_low (grow e)
 obtain⟨q1,_,_⟩:=(Q1w _).1 (Q32 h).1
 have hcE:=cntE t1
 have hGr:TrG (grow e):=⟨he.t t1.k t1.ne,by rw[hcE];omega,Qf5 h⟩
 have hMo:=Qej hΓc (grow e) hGr.ok
 refine zA ?_
 refine AOps.call1 hΓc rfl rfl rfl rfl rfl rfl rfl (by simp) hou (Qk4 hΓc e he.eo t1.k t1 ou) fun r ou1 hq hids hou1=>?_
 obtain⟨t,rfl,her,hOw,hnd,hfr,_,hold⟩:=hq
 rw[←her]at hMo
 refine zA ?_
 refine AOps.callS hΓc hMo (Plain.lit _) rfl rfl rfl rfl rfl rfl (.cons (LendF.treeK hOw hnd) .nil) ?_
 rw[her]
 refine zS (AStep.arith rfl rfl rfl (.inl ⟨rfl,rfl⟩) zI) ?_
 repeat ((fail_if_success ((with_reducible refine oj ?_);refine AOps.atDst 6 rfl ?_));first|refine zO ?_)
 refine AOps.growO 0 1 3 1 rfl rfl ?_
 refine AOps.growO 0 2 68 1 rfl rfl ?_
 have hmr:-1<=mxT (grow e)/\mxT (grow e)<=1048575:=⟨hmn,hmx⟩
 have hqg:=Qea he h
 have hit0:liftE mxT e=liftE mxT e:=rfl
 obtain⟨M,hM⟩:∃M:Int,M=mxT (grow e):=⟨_,rfl⟩
 have hRdef:∀X N I n,lfIt 60 (grow e,[],[],M+1)=(X,N,I,n)->liftE mxT e=if I=[]then (listT [] X,0)else if check (listT [] (.mk 5 0 I (N++[X]) []))≠0 then ([],2)else (listT [] (.mk 5 0 I (N++[X]) []),0):=fun X N I n hx=>by
  unfold liftE
  rw[if_neg (by simpa using h),←hM,hx]
 rw[←hM]at hmr ⊢
 clear hM hmx hmn hMo hit0
 refine AOps.cedes [0,1,2] rfl (by decide) hou1 fun k hk=>⟨[(20,.one (.ptr (.o k) 0)),(5,.one (.ptr (.o t.id) 0))],[],
  [lsO ⟨k,k+1,k+2,.ptr (.o t.id) 0,[],[],M+1⟩,.tok 3 1 0,tO 0],?_,.nil,?_,?_⟩
 ·exact .cons rfl rfl (.cons rfl rfl .nil)
 ·exact .cons rfl rfl (.cons rfl rfl (.cons rfl rfl .nil))
 obtain⟨s0,hs0⟩:∃s0:LS,s0=⟨k,k+1,k+2,.ptr (.o t.id) 0,[],[],M+1⟩:=⟨_,rfl⟩
 obtain⟨oz,hoz⟩:∃oz:Outer,oz=ouAdd ou1 k [lsO s0,.tok 3 1 0,tO 0]:=⟨_,rfl⟩
 have hz:NewO ou1 oz (obL s0):=by
  rw[hoz,hs0]
  exact NewO.three hk hou1 (by simp[lsO,AObj.ids,idsL,AC.ids,idsS,kK,isO]) trivial trivial
 obtain⟨hUz,hkeep⟩:=Qey hz (by rw[hs0]) hOw hnd hfr hold
 have hR0:RInv (M+1) (erK t) (erKs s0.fns) s0.ids s0.next:=by
  have h1:=Qco (grow e)
  rw[hs0,her]
  exact⟨hqg,trivial,by simp[erKs],by simp only[erKs,apNs];omega,by simp only[erKs,cntNs,List.length_nil];omega,rfl,by simp,by simp,by simp⟩
 have hi0:lfIt 60 (grow e,[],[],M+1)=lfIt (60 - 0) (erK t,erKs s0.fns,s0.ids,s0.next):=by rw[hs0,her];rfl
 have hc00:s0.c0=.ptr (.o t.id) 0:=by rw[hs0]
 refine AOps.stEq (show _=St.mk 3 [] oz from by rw[hoz,hs0];rfl) ?_
 rw[show k=s0.id by rw[hs0]]
 refine zA ?_
 refine ACode.loopR hΓc (α:=Nat×LS×LTk×Outer) (fun c=>[(21,.one (int c.1)),(6,.one (.ptr (.o c.2.1.id) 0)),(5,.one (.ptr (.o c.2.2.1.id) 0))])
  (fun c => ⟨3, [], c.2.2.2⟩) (fun m c => (c.1 <= 60 /\ UpdL oz (obL s0 ++ (obK t ++ obKs s0.fns)) c.2.2.2 (obL c.2.1 ++ (obK c.2.2.1 ++ obKs c.2.1.fns)) /\ c.2.1.c0 = .ptr (.o c.2.2.1.id) 0 /\ RInv (M + 1) (erK c.2.2.1) (erKs c.2.1.fns) c.2.1.ids c.2.1.next /\
   lfIt 60 (grow e,[],[],M+1)=lfIt (60 - c.1) (erK c.2.2.1,erKs c.2.1.fns,c.2.1.ids,c.2.1.next))/\m=60 - c.1) (a0:=(0,s0,t,oz)) (ρ:=id) ⟨⟨by omega,hUz,hc00,hR0,hi0⟩,rfl⟩
  (LessR.of rfl zFS (by simp) zLO rfl rfl hUz.ok) fun m c hc=>?_
 obtain⟨j,s,u,ov⟩:=c
 obtain⟨⟨hj,hU,hc0,hRI,hit⟩,rfl⟩:=hc
 dsimp only at hj hU hc0 hRI hit
 refine zA ?_
 refine ACode.cond rfl (fun hb3=>?_) (fun hb3=>?_)
 ·have hlt:j < 60:=by simp at hb3;omega
  obtain⟨q,hq⟩:∃q,60 - j=q+1:=⟨60 - j - 1,by omega⟩
  rw[hq]at hit
  obtain⟨hg1,hg2,hg3⟩:=Qin hRI hc0 (by omega)
  refine zA ?_
  refine AOps.call1 hΓc rfl rfl rfl rfl rfl rfl rfl ⟨trivial,trivial⟩ hU.ok (Qcp s u hg1 hc0 hg2 hg3 ov hU.own hU.nd hU.ok) fun r ov2 hq2 _ how=>?_
  unfold AnyQ at hq2
  cases hat:anyT s.ids s.next (erK u) (erKs s.fns) with
  |none=>
   rw[hat]at hq2
   obtain⟨rfl,hoe⟩:=hq2
   subst ov2
   replace hit:lfIt 60 (grow e,[],[],M+1)=(erK u,erKs s.fns,s.ids,s.next):=by rw[hit];simp only[lfIt,hat]
   replace how:=how
   repeat ((fail_if_success ((with_reducible refine oj ?_);refine AOps.atDst 27 rfl ?_));first|refine zO ?_)
   refine AOps.freezeLS s u 5 hU.own hU.nd hc0 rfl ?_
   obtain⟨hF1,hF2,hF3,hF4,hF5,hF6⟩:=Qdy hU.own hU.nd
   have hkU:∀m o,ou m=some o->frzU ov s u m=some o/\m≠s.id/\m≠s.ti/\m≠s.tf:=hkeep s u _ hU
   have hn1:=hRI.c
   have hn2:=hRI.t
   have hn3:=hRI.l
   have hXp:=Q8c _ hRI.r (by omega)
   have hNp:=Q75 _ hRI.q (by omega)
   have hLi:=Qaa hΓc (erK u) (Q4z _ hXp) (by have:=Q1u (erK u) [];simp at *;omega)
   have hYp:allT pOk (.mk 5 0 s.ids (erKs s.fns++[erK u]) []):=⟨⟨by simp;omega,by simp;omega,by simp,by simp,by simp;omega⟩,Q2j hNp ⟨hXp,trivial⟩⟩
   have hYc:cntN (.mk 5 0 s.ids (erKs s.fns++[erK u]) [])<=1048576:=by simp only[cntN,Q1l,cntNs];omega
   have hYl:=Qaa hΓc (.mk 5 0 s.ids (erKs s.fns++[erK u]) []) (Q4z _ hYp) (by have:=Q1u (.mk 5 0 s.ids (erKs s.fns++[erK u]) []) [];simp at *;omega)
   have hYk:=Q5v _ (Q4l hYp hYc)
   clear hYp hYc hXp hNp
   obtain⟨oF,hoF⟩:∃oF,oF=frzU ov s u:=⟨_,rfl⟩
   rw[←hoF]at hF1 hF2 hF3 hkU
   rw[show frzU (St.mk 3 [] ov).ou s u=oF from hoF.symm]
   obtain⟨X,hX⟩:∃X,X=erK u:=⟨_,rfl⟩
   obtain⟨N,hN⟩:∃N,N=erKs s.fns:=⟨_,rfl⟩
   obtain⟨I,hI⟩:∃I,I=s.ids:=⟨_,rfl⟩
   have hNl:N.length=s.fns.length:=by rw[hN,Q0w]
   unfold lsB at hF1
   rw[←hX,←hN,←hI]at hF1
   rw[←hX,←hN,←hI]at hit
   rw[←hX,←hN,←hI]at hYl hYk
   rw[←hI]at hn2 hF2
   rw[←hI,←hN]at hn3
   rw[←hX]at hLi
   rw[←hX]
   clear hX hN hU hc0 hRI hoF
   have hR:=hRdef _ _ _ _ hit
   have hkO:∀(nn:Nat) (i:Go.Abs.Id) (o:AObj),(St.mk nn [] ou).get i=some o->(St.mk nn [] oF).get i=some o:=fun nn i o ho=>by
    cases i with
    |l m=>cases ho
    |o m=>exact (hkU m o ho).1
   repeat' first|refine zN ?_|((with_reducible refine oj ?_);first|refine zix ?_|refine zow rfl rfl hF1 ?_)
   refine ACode.cond rfl (fun hz0=>?_) (fun hz0=>?_)
   ·have hI0:I=[]:=by simpa using hz0
    rw[if_pos hI0]at hR
    unfold LfR
    rw[hR]
    repeat ((fail_if_success ((with_reducible refine oj ?_);refine AOps.atDst 34 rfl ?_));first|refine zO ?_)
    refine AOps.lessO ⟨3,[],ou⟩ rfl (hkO 3) ?_
    refine zca hΓc hLi hou ?_
    refine zA ?_
    exact APure.fin rfl (WkF.ofEq rfl) (by simp) hou rfl
   have hI0:¬I=[]:=by simpa using hz0
   rw[if_neg hI0]at hR
   refine zA ?_
   have hlN:(Q05 N).length=s.fns.length:=by rw[Q0q];simp[hNl]
   have hG1:St.get (((St.mk 3 [] oF).set (.o s.tf) .dead).push (.tok 68 1 (Q05 N++[[AC.box (cTr X)]]).length)) (.o s.id)=some (.cells [.box (cTr X),.gs 1 (I.map cI) (.o s.ti),.gs 1 (Q05 N) (.o s.tf),int s.next]):=by
    show (bif Nat.beq s.id s.tf then some AObj.dead else oF s.id)=_
    rw[Q07 hF5];exact hF1
   have hG0:St.get (St.mk 3 [] oF) (.o s.id)=some (.cells [.box (cTr X),.gs 1 (I.map cI) (.o s.ti),.gs 1 (Q05 N) (.o s.tf),int s.next]):=hF1
   refine ACode.drawXH (va:=.one (.gs 1 (Q05 N++[[AC.box (cTr X)]]) (.l 3))) (σ1:=(((St.mk 3 [] oF).set (.o s.tf) .dead).push (.tok 68 1 (Q05 N++[[AC.box (cTr X)]]).length)))
     tabOk 14 13 [(3,.one (.gs 1 (I.map cI) (.o s.ti))),(7,.one (.gs 1 (Q05 N) (.o s.tf))),(11,.one (.box (cTr X)))] follows (by kernel_rfl) rfl rfl rfl rfl rfl rfl rfl ?_ ?_ ?_ ?_
   ·refine HStep.plain rfl (AStep.append (s:=1) (es:=Q05 N) (news:=[[AC.box (cTr X)]]) (ti:=ti72) (σ:=St.mk 3 [] oF) tabOk rfl rfl rfl rfl rfl rfl (Base.gs' _ 68 1 (Q05 N) (.o s.tf) hF3 hlN.symm) (.sl _ _) rfl ?_ ?_)
    ·rw[hlN];show (_+1) * 8<=_;omega
    ·rw[hlN];show _+1<=_;omega
   ·exact .step rfl (zHP (zLD rfl rfl hG0 rfl)) (.step rfl (zHP (zLD rfl rfl hG0 rfl)) (.step rfl (zHP (zLD rfl rfl hG0 rfl)) .nil))
   ·exact .step rfl (zHP (zLD rfl rfl hG1 rfl)) (.step rfl (zHP (zLD rfl rfl hG1 rfl)) (.step rfl (zHP (zLD rfl rfl hG1 rfl)) .nil))
   repeat ((fail_if_success ((with_reducible refine oj ?_);refine AOps.atDst 51 rfl ?_));first|refine zO ?_)
   refine AOps.freeze1 (.l 4) 50 rfl rfl ?_
   refine AOps.wk 50 rfl (y:=.one (.box (cTr (.mk 5 0 I (N++[X]) [])))) (.one (Wk.box ?_)) ?_
   ·have hE:Q05 N++[[AC.box (cTr X)]]=Q05 (N++[X]):=by simp[Q0q,Q6y];rfl
    rw[hE]
    exact .cons (.refl _) (.cons (.refl _) (.cons (.gsE rfl) (.cons (.gsE rfl) (.cons (.nilS 2) .nil))))
   refine AOps.lessO ⟨5,[],ou⟩ rfl (fun i o ho=>by
    cases i with
    |l m=>cases ho
    |o m=>
     obtain⟨h1,_,_,h2⟩:=hkU m o ho
     show (bif Nat.beq m s.tf then some AObj.dead else oF m)=_
     rw[Q07 h2];exact h1) ?_
   obtain⟨Y,hY⟩:∃Y,Y=Tr.mk 5 0 I (N++[X]) []:=⟨_,rfl⟩
   obtain⟨L,hL⟩:∃L,L=listT [] Y:=⟨_,rfl⟩
   rw[←hY]at hYl hYk hR
   rw[←hL]at hYl hYk hR
   rw[←hY]
   refine zca hΓc hYl hou ?_
   refine zA ?_
   refine zca hΓc hYk hou ?_
   refine zA ?_
   refine ACode.cond rfl (fun hc=>?_) (fun hc=>?_)
   ·have hc':check L≠0:=by simpa using hc
    rw[if_pos hc']at hR
    unfold LfR
    rw[hR]
    refine zA ?_
    exact APure.fin rfl (WkF.tup (.cons (.one (.nilS 5)) (.cons (.refl _) .nil))) (by simp) hou rfl
   ·have hc':check L=0:=by simpa using hc
    rw[if_neg (by simpa using hc')]at hR
    unfold LfR
    rw[hR]
    refine zA ?_
    exact APure.fin rfl (WkF.ofEq rfl) (by simp) hou rfl
  |some R=>
   obtain⟨rt,fn,ids',next'⟩:=R
   rw[hat]at hq2
   obtain⟨rfl,u',s',e1,e2,e3,e4,e5,e6,e7,hU2⟩:=hq2
   have hin:=(Qed hRI hat).1
   rw[←e1,←e5,←e6,←e7]at hin
   replace hit:lfIt 60 (grow e,[],[],M+1)=lfIt q (erK u',erKs s'.fns,s'.ids,s'.next):=by rw[hit];simp only[lfIt,hat,e1,e5,e6,e7]
   rw[←e3]
   refine zM ?_
   refine cInv ⟨60 - (j+1),(j+1,s',u',ov2),_root_.id,by dsimp only;omega,⟨⟨by dsimp only;omega,hU.trans hU2,by dsimp only;rw[e4,e2];exact hc0,hin,?_⟩,rfl⟩,LessR.of rfl ?_ (by simp) zLO rfl rfl how⟩
   ·dsimp only
    rw[hit];congr 1;omega
   ·dsimp only
    rw[e2]
    (repeat' first|exact FrSub.nil|refine zfc ?_|refine zfo ?_|refine zfp ?_)
 ·have hlt:j=60:=by simp at hb3;omega
  subst hlt
  replace hit:lfIt 60 (grow e,[],[],M+1)=(erK u,erKs s.fns,s.ids,s.next):=by rw[hit];rfl
  repeat ((fail_if_success ((with_reducible refine oj ?_);refine AOps.atDst 27 rfl ?_));first|refine zO ?_)
  refine AOps.freezeLS s u 5 hU.own hU.nd hc0 rfl ?_
  obtain⟨hF1,hF2,hF3,hF4,hF5,hF6⟩:=Qdy hU.own hU.nd
  have hkU:∀m o,ou m=some o->frzU ov s u m=some o/\m≠s.id/\m≠s.ti/\m≠s.tf:=hkeep s u _ hU
  have hn1:=hRI.c
  have hn2:=hRI.t
  have hn3:=hRI.l
  have hXp:=Q8c _ hRI.r (by omega)
  have hNp:=Q75 _ hRI.q (by omega)
  have hLi:=Qaa hΓc (erK u) (Q4z _ hXp) (by have:=Q1u (erK u) [];simp at *;omega)
  have hYp:allT pOk (.mk 5 0 s.ids (erKs s.fns++[erK u]) []):=⟨⟨by simp;omega,by simp;omega,by simp,by simp,by simp;omega⟩,Q2j hNp ⟨hXp,trivial⟩⟩
  have hYc:cntN (.mk 5 0 s.ids (erKs s.fns++[erK u]) [])<=1048576:=by simp only[cntN,Q1l,cntNs];omega
  have hYl:=Qaa hΓc (.mk 5 0 s.ids (erKs s.fns++[erK u]) []) (Q4z _ hYp) (by have:=Q1u (.mk 5 0 s.ids (erKs s.fns++[erK u]) []) [];simp at *;omega)
  have hYk:=Q5v _ (Q4l hYp hYc)
  clear hYp hYc hXp hNp
  obtain⟨oF,hoF⟩:∃oF,oF=frzU ov s u:=⟨_,rfl⟩
  rw[←hoF]at hF1 hF2 hF3 hkU
  rw[show frzU (St.mk 3 [] ov).ou s u=oF from hoF.symm]
  obtain⟨X,hX⟩:∃X,X=erK u:=⟨_,rfl⟩
  obtain⟨N,hN⟩:∃N,N=erKs s.fns:=⟨_,rfl⟩
  obtain⟨I,hI⟩:∃I,I=s.ids:=⟨_,rfl⟩
  have hNl:N.length=s.fns.length:=by rw[hN,Q0w]
  unfold lsB at hF1
  rw[←hX,←hN,←hI]at hF1
  rw[←hX,←hN,←hI]at hit
  rw[←hX,←hN,←hI]at hYl hYk
  rw[←hI]at hn2 hF2
  rw[←hI,←hN]at hn3
  rw[←hX]at hLi
  rw[←hX]
  clear hX hN hU hc0 hRI hoF
  have hR:=hRdef _ _ _ _ hit
  have hkO:∀(nn:Nat) (i:Go.Abs.Id) (o:AObj),(St.mk nn [] ou).get i=some o->(St.mk nn [] oF).get i=some o:=fun nn i o ho=>by
   cases i with
   |l m=>cases ho
   |o m=>exact (hkU m o ho).1
  repeat' first|refine zN ?_|((with_reducible refine oj ?_);first|refine zix ?_|refine zow rfl rfl hF1 ?_)
  refine ACode.cond rfl (fun hz0=>?_) (fun hz0=>?_)
  ·have hI0:I=[]:=by simpa using hz0
   rw[if_pos hI0]at hR
   unfold LfR
   rw[hR]
   repeat ((fail_if_success ((with_reducible refine oj ?_);refine AOps.atDst 34 rfl ?_));first|refine zO ?_)
   refine AOps.lessO ⟨3,[],ou⟩ rfl (hkO 3) ?_
   refine zca hΓc hLi hou ?_
   refine zA ?_
   exact APure.fin rfl (WkF.ofEq rfl) (by simp) hou rfl
  have hI0:¬I=[]:=by simpa using hz0
  rw[if_neg hI0]at hR
  refine zA ?_
  have hlN:(Q05 N).length=s.fns.length:=by rw[Q0q];simp[hNl]
  have hG1:St.get (((St.mk 3 [] oF).set (.o s.tf) .dead).push (.tok 68 1 (Q05 N++[[AC.box (cTr X)]]).length)) (.o s.id)=some (.cells [.box (cTr X),.gs 1 (I.map cI) (.o s.ti),.gs 1 (Q05 N) (.o s.tf),int s.next]):=by
   show (bif Nat.beq s.id s.tf then some AObj.dead else oF s.id)=_
   rw[Q07 hF5];exact hF1
  have hG0:St.get (St.mk 3 [] oF) (.o s.id)=some (.cells [.box (cTr X),.gs 1 (I.map cI) (.o s.ti),.gs 1 (Q05 N) (.o s.tf),int s.next]):=hF1
  refine ACode.drawXH (va:=.one (.gs 1 (Q05 N++[[AC.box (cTr X)]]) (.l 3))) (σ1:=(((St.mk 3 [] oF).set (.o s.tf) .dead).push (.tok 68 1 (Q05 N++[[AC.box (cTr X)]]).length)))
    tabOk 14 13 [(3,.one (.gs 1 (I.map cI) (.o s.ti))),(7,.one (.gs 1 (Q05 N) (.o s.tf))),(11,.one (.box (cTr X)))] follows (by kernel_rfl) rfl rfl rfl rfl rfl rfl rfl ?_ ?_ ?_ ?_
  ·refine HStep.plain rfl (AStep.append (s:=1) (es:=Q05 N) (news:=[[AC.box (cTr X)]]) (ti:=ti72) (σ:=St.mk 3 [] oF) tabOk rfl rfl rfl rfl rfl rfl (Base.gs' _ 68 1 (Q05 N) (.o s.tf) hF3 hlN.symm) (.sl _ _) rfl ?_ ?_)
   ·rw[hlN];show (_+1) * 8<=_;omega
   ·rw[hlN];show _+1<=_;omega
  ·exact .step rfl (zHP (zLD rfl rfl hG0 rfl)) (.step rfl (zHP (zLD rfl rfl hG0 rfl)) (.step rfl (zHP (zLD rfl rfl hG0 rfl)) .nil))
  ·exact .step rfl (zHP (zLD rfl rfl hG1 rfl)) (.step rfl (zHP (zLD rfl rfl hG1 rfl)) (.step rfl (zHP (zLD rfl rfl hG1 rfl)) .nil))
  repeat ((fail_if_success ((with_reducible refine oj ?_);refine AOps.atDst 51 rfl ?_));first|refine zO ?_)
  refine AOps.freeze1 (.l 4) 50 rfl rfl ?_
  refine AOps.wk 50 rfl (y:=.one (.box (cTr (.mk 5 0 I (N++[X]) [])))) (.one (Wk.box ?_)) ?_
  ·have hE:Q05 N++[[AC.box (cTr X)]]=Q05 (N++[X]):=by simp[Q0q,Q6y];rfl
   rw[hE]
   exact .cons (.refl _) (.cons (.refl _) (.cons (.gsE rfl) (.cons (.gsE rfl) (.cons (.nilS 2) .nil))))
  refine AOps.lessO ⟨5,[],ou⟩ rfl (fun i o ho=>by
   cases i with
   |l m=>cases ho
   |o m=>
    obtain⟨h1,_,_,h2⟩:=hkU m o ho
    show (bif Nat.beq m s.tf then some AObj.dead else oF m)=_
    rw[Q07 h2];exact h1) ?_
  obtain⟨Y,hY⟩:∃Y,Y=Tr.mk 5 0 I (N++[X]) []:=⟨_,rfl⟩
  obtain⟨L,hL⟩:∃L,L=listT [] Y:=⟨_,rfl⟩
  rw[←hY]at hYl hYk hR
  rw[←hL]at hYl hYk hR
  rw[←hY]
  refine zca hΓc hYl hou ?_
  refine zA ?_
  refine zca hΓc hYk hou ?_
  refine zA ?_
  refine ACode.cond rfl (fun hc=>?_) (fun hc=>?_)
  ·have hc':check L≠0:=by simpa using hc
   rw[if_pos hc']at hR
   unfold LfR
   rw[hR]
   refine zA ?_
   exact APure.fin rfl (WkF.tup (.cons (.one (.nilS 5)) (.cons (.refl _) .nil))) (by simp) hou rfl
  ·have hc':check L=0:=by simpa using hc
   rw[if_neg (by simpa using hc')]at hR
   unfold LfR
   rw[hR]
   refine zA ?_
   exact APure.fin rfl (WkF.ofEq rfl) (by simp) hou rfl
end Go.Proofs.YtmdkenkhaicbeaaGreatDoor
namespace Go.CoreX
open Go.Proofs.YtmdkenkhaicbeaaGreatDoor
def lfT:Tr:=.mk 4 0 [1] [.mk 1 4 [] [] [],.mk 4 0 [2] [.mk 2 0 [3] [.mk 8 0 [] [.mk 0 3 [] [] [],.mk 0 1 [] [] []] []] [],.mk 3 0 [] [.mk 0 2 [] [] [],.mk 1 5 [] [] []] []] []] []
def lfE:List Ex:=listT [] lfT
def lfU:Tr:=.mk 5 0 [2] [.mk 2 0 [3,4] [.mk 8 0 [] [.mk 0 3 [] [] [],.mk 0 4 [] [] []] []] [],.mk 4 0 [1] [.mk 1 4 [] [] [],.mk 3 0 [] [.mk 0 2 [] [] [],.mk 1 5 [] [] [],.mk 0 1 [] [] []] []] []] []
theorem Qgi:check (listT [] lfU)=0:=by decide +kernel
theorem lf_run:liftE mxT lfE=(listT [] lfU,0):=by kernel_rfl
end Go.CoreX
namespace Go.Proofs.YtmdkenkhaicbeaaGreatDoor
open Go Go.Abs Go.CoreX
theorem okB_lf:okB lfE:=Q4l (Q9i _ (by simp[lfT,okT,okTs])) (by simp[lfT,cntN,cntNs])
theorem okB_lfU:okB (listT [] lfU):=Q4l (Q9i _ (by simp[lfU,okT,okTs])) (by simp[lfU,cntN,cntNs])
theorem Qjl:allT (FragL false) lfU:=
 ⟨Q27 rfl,⟨Q27 rfl,⟨Q27 rfl,⟨Q27 rfl,trivial⟩,⟨Q27 rfl,trivial⟩,trivial⟩,trivial⟩,⟨Q27 rfl,⟨Q27 rfl,trivial⟩,⟨Q27 rfl,⟨Q27 rfl,trivial⟩,⟨Q27 rfl,trivial⟩,⟨Q27 rfl,trivial⟩,trivial⟩,trivial⟩,trivial⟩
theorem run_lf:RunsTo false 3000 (listT [] lfU) ⟨.rt (.word 9),[],[],10,[]⟩ (.word 9):=
 ⟨Qgi,by rw[Q31];exact Qjl,by omega,by rw[Q31];exact⟨100,by kernel_rfl,fun h=>by cases h⟩,by simp,by decide⟩
theorem Q3m:APure Tryz.prog Γc 22 [] (.one (.lit (.bool true))):=by
 have hL:=Qcs hΓc lfT (by simp[lfT,okT,okTs]) (by simp[lfT,listT,Q02])
 have hR:=Qei lfE okB_lf
 unfold LfR at hR
 rw[lf_run]at hR
 have hF:=Qik okB_lfU run_lf
 have hN1:=N_ok (Γ:=Γc) 8 0 [.mk 0 3 [] [] [],.mk 0 1 [] [] []]
 have hB1:=B_ok (Γ:=Γc) 2 [3] [.mk 8 0 [] [.mk 0 3 [] [] [],.mk 0 1 [] [] []] []]
 have hN2:=N_ok (Γ:=Γc) 3 0 [.mk 0 2 [] [] [],.mk 1 5 [] [] []]
 have hB2:=B_ok (Γ:=Γc) 4 [2] [.mk 2 0 [3] [.mk 8 0 [] [.mk 0 3 [] [] [],.mk 0 1 [] [] []] []] [],.mk 3 0 [] [.mk 0 2 [] [] [],.mk 1 5 [] [] []] []]
 have hB3:=B_ok (Γ:=Γc) 4 [1] [.mk 1 4 [] [] [],.mk 4 0 [2] [.mk 2 0 [3] [.mk 8 0 [] [.mk 0 3 [] [] [],.mk 0 1 [] [] []] []] [],.mk 3 0 [] [.mk 0 2 [] [] [],.mk 1 5 [] [] []] []] []]
 rw[Q5o]at hN1 hB1 hN2 hB2 hB3
 intro ou
 refine AFn.walk 57 tabOk Tryz.func22 rfl (by kernel_rfl) rfl rfl fun hou=>?_
 refine zA ?_
 refine zca hΓc (V_ok hΓc 3) hou ?_
 refine zca hΓc (V_ok hΓc 1) hou ?_
 refine zA ?_
 refine zca hΓc hN1 hou ?_
 refine zA ?_
 refine zca hΓc hB1 hou ?_
 refine zA ?_
 refine zca hΓc (W_ok hΓc 4) hou ?_
 refine zA ?_
 refine zca hΓc (V_ok hΓc 2) hou ?_
 refine zca hΓc (W_ok hΓc 5) hou ?_
 refine zA ?_
 refine zca hΓc hN2 hou ?_
 refine zA ?_
 refine zca hΓc hB2 hou ?_
 refine zA ?_
 refine zca hΓc hB3 hou ?_
 refine zca hΓc hL hou ?_
 rw[show listT [] lfT=lfE from rfl]
 obtain⟨x,l,hx,hx5⟩:∃x l,listT [] lfU=l++[x]/\x.op=5:=⟨(listT [] lfU).getLast (by decide +kernel),(listT [] lfU).dropLast,(List.dropLast_concat_getLast (by decide +kernel)).symm,by decide +kernel⟩
 obtain⟨U,hU⟩:∃U,U=listT [] lfU:=⟨_,rfl⟩
 rw[←hU]at hR hF hx
 refine zA ?_
 refine zca hΓc hR hou ?_
 refine zA ?_
 refine zca hΓc hF hou ?_
 dsimp only
 have hget:(U.map cEx)[(((U.map cEx).length:Int) - 1).toNat]?=some (cEx x):=by
  rw[hx];simp
 have hpos:(0:Int)<=((U.map cEx).length:Int) - 1:=by rw[hx];simp
 have hlen:U.length=11:=by rw[hU];decide +kernel
 refine zM ?_
 refine AOps.wk 47 rfl (y:=.one (.lit (.bool true))) (.ofEq rfl) ?_
 refine zS (zIA rfl rfl rfl hpos hget) ?_
 refine zM ?_
 refine APure.fin rfl (WkF.ofEq ?_) (by simp) hou rfl
 simp[hx5]
variable {Γ:List (Nat×List AC)}
theorem Qk2(hΓ:∀g cs,(g,cs)∈Γ->idsL isO cs)(gf:Nat)(caps:List AC)(hcap:idsL isO caps)(p:Int->Bool)(xs:List Int)(hx:xs.length<=1048576)(hf:∀a∈xs,APure Tryz.prog Γ gf (.one (int a)::caps.map .one) (.one (.lit (.bool (p a))))):
  APure Tryz.prog Γ 52 [.one (.sl 1 (xs.map cI)),.one (.fn (.func gf) [] caps)] (.one (int (idxOf p xs))):=by
 intro ou
 refine AFn.walk 19 tabOk Tryz.func52 rfl (by kernel_rfl) rfl rfl fun hou=>?_
 refine zA ?_
 refine ACode.loopR hΓ (α:=Nat) (fun j=>[(8,.one (int j)),(7,.one (int (xs.map cI).length)),(1,.one (.fn (.func gf) [] caps)),(0,.one (.sl 1 (xs.map cI)))])
  (fun j=>⟨0,[],ou⟩) (fun m j=>j<=xs.length/\(∀x∈xs.take j,p x=false)/\m=xs.length - j) (a0:=0) (ρ:=id) ⟨by omega,by simp,rfl⟩ (LessR.of rfl ?_ ?_ zLO rfl rfl hou) fun m j hj=>?_
 ·refine .cons rfl (.ofEq rfl) (.cons rfl (.ofEq rfl) (.consP rfl (.ofEq rfl) (by simp[hcap]) (.consP rfl (.ofEq rfl) (by simp) .nil)))
 ·simp[Q0t Q52 caps hcap]
 obtain⟨hjl,hno,rfl⟩:=hj
 refine zA ?_
 refine ACode.cond rfl (fun hb2=>?_) (fun hb2=>?_)
 ·have hlt:j < xs.length:=by simpa using hb2
  obtain⟨a,ha⟩:=Q00 hlt
  have hca:=hf a (List.mem_of_getElem? ha)
  refine zA ?_
  refine zS (zIA rfl rfl rfl (by omega) (by simpa using Q0a ha)) ?_
  refine zA ?_
  refine AOps.callC hΓ hca rfl rfl rfl rfl rfl rfl rfl hou (by simp[Q7l hcap]) ?_
  refine zA ?_
  refine ACode.cond rfl (fun hb3=>?_) (fun hb3=>?_)
  ·refine zA ?_
   refine APure.fin rfl (WkF.ofEq ?_) (by simp) hou rfl
   rw[Q4p hno ha hb3]
  ·refine zA ?_
   refine zS (AStep.arith rfl rfl rfl (.inl ⟨rfl,rfl⟩) zI) ?_
   refine zA ?_
   refine cInv ⟨xs.length - (j+1),j+1,id,by omega,⟨by omega,Q13 hno ha hb3,rfl⟩,LessR.of rfl ?_ ?_ zLO rfl rfl hou⟩
   ·refine .cons rfl (.ofEq rfl) (.cons rfl (.ofEq rfl) (.consP rfl (.ofEq rfl) (by simp[hcap]) (.consP rfl (.ofEq rfl) (by simp) .nil)))
   ·simp[Q0t Q52 caps hcap]
 ·have hlt:j=xs.length:=by simp at hb2;omega
  subst hlt
  rw[List.take_length]at hno
  refine zA ?_
  refine APure.fin rfl (WkF.ofEq ?_) (by simp) hou rfl
  rw[Q3h hno]
theorem Qk3(hΓ:∀g cs,(g,cs)∈Γ->idsL isO cs)(gf:Nat)(caps:List AC)(hcap:idsL isO caps)(p:Int->Bool)(xs:List Int)(hx:xs.length<=1048576)(hf:∀a∈xs,APure Tryz.prog Γ gf (.one (int a)::caps.map .one) (.one (.lit (.bool (p a))))):
  APure Tryz.prog Γ 24 [.one (.sl 1 (xs.map cI)),.one (.fn (.func gf) [] caps)] (.one (.lit (.bool (xs.any p)))):=by
 intro ou
 refine AFn.walk 9 tabOk Tryz.func24 rfl (by kernel_rfl) rfl rfl fun hou=>?_
 refine zA ?_
 refine AOps.callC hΓ (Qk2 hΓ gf caps hcap p xs hx hf) rfl rfl rfl rfl rfl rfl rfl hou (by simp[hcap]) ?_
 refine zA ?_
 refine APure.fin rfl (WkF.ofEq ?_) (by simp) hou rfl
 rw[←Q30]

theorem outB_ok(x:Ex)(hb:x.binds.length<=1048576)(n:Int):APure Tryz.prog Γc 25 (.one (int n)::[AC.box (cEx x)].map .one) (.one (.lit (.bool (!x.binds.contains n)))):=by
 intro ou
 refine AFn.walk 9 tabOk Tryz.func25 rfl (by kernel_rfl) rfl rfl fun hou=>?_
 refine zA ?_
 refine zca hΓc (Q1z hΓc x.binds hb n) hou ?_
 refine zA ?_
 exact APure.fin rfl (WkF.ofEq rfl) (by simp) hou rfl
theorem Qaw(n0:Int):∀(k:Nat)(s:Tr×List Tr×List Int×Int),RInv n0 s.1 s.2.1 s.2.2.1 s.2.2.2->RInv n0 (lfIt k s).1 (lfIt k s).2.1 (lfIt k s).2.2.1 (lfIt k s).2.2.2/\(lfIt k s=s∨s.2.2.1.length < (lfIt k s).2.2.1.length)
 |0,s,h=>⟨h,.inl rfl⟩
 |k+1,s,h=>by
  cases ha:anyT s.2.2.1 s.2.2.2 s.1 s.2.1 with
  |none=>
   have:lfIt (k+1) s=s:=by simp only[lfIt,ha]
   rw[this]
   exact⟨h,.inl rfl⟩
  |some s'=>
   have:lfIt (k+1) s=lfIt k s':=by simp only[lfIt,ha]
   rw[this]
   obtain⟨h1,h2⟩:=Qed h ha
   obtain⟨h3,h4⟩:=Qaw n0 k s' h1
   refine⟨h3,.inr ?_⟩
   rcases h4 with h4|h4
   ·rw[h4];exact h2
   ·omega
end Go.Proofs.YtmdkenkhaicbeaaGreatDoor
namespace Go.CoreX
open Go Go.Abs
open Go.Proofs.YtmdkenkhaicbeaaGreatDoor
mutual
theorem occ_in(A:List Int):∀(t:Tr)(s s0:List Int),(∀n∈s,n∈s0∨n∈A)->occT s t=[]->∀n∈occT s0 t,n∈A
 |.mk o m b k a,s,s0,hs,h,n,hn=>by
  simp only[occT,List.append_eq_nil_iff]at h
  simp only[occT,List.mem_append]at hn
  rcases hn with hn|hn
  ·split at hn
   ·rename_i h0
    simp only[List.mem_cons,List.not_mem_nil,or_false]at hn
    subst hn
    have hc:s.contains n=true:=by
     cases hh:s.contains n with
     |true=>rfl
     |false=>rw[if_pos ⟨h0.1,hh⟩]at h;exact absurd h.1 (by simp)
    rcases hs n (by simpa using hc)with h1|h1
    ·exact absurd h0.2 (by simp[h1])
    ·exact h1
   ·cases hn
  ·exact Qg6 A k s s0 o b a 0 hs h.2 n hn
theorem Qg6(A:List Int):∀(l:List Tr)(s s0:List Int)(o:Int)(b:List Int)(a:List Alt)(i:Nat),(∀n∈s,n∈s0∨n∈A)->occTs s o b a i l=[]->∀n∈occTs s0 o b a i l,n∈A
 |[],_,_,_,_,_,_,_,_,n,hn=>by cases hn
 |t::l,s,s0,o,b,a,i,hs,h,n,hn=>by
  simp only[occTs,List.append_eq_nil_iff]at h
  simp only[occTs,List.mem_append]at hn
  rcases hn with hn|hn
  ·refine occ_in A t _ _ (fun m hm=>?_) h.1 n hn
   rcases List.mem_append.1 hm with hm|hm
   ·exact .inl (List.mem_append_left _ hm)
   ·exact (hs m hm).imp (List.mem_append_right _) id
  ·exact Qg6 A l s s0 o b a (i+1) hs h.2 n hn
end
theorem Qde{s:List Int}{b:List Int}{a:List Alt}:∀{l:List Tr}{i:Nat},occTs s 5 b a i l=[]->∀t∈l,occT (b++s) t=[]
 |[],i,h,t,ht=>by simp at ht
 |u::l,i,h,t,ht=>by
  simp only[occTs,List.append_eq_nil_iff]at h
  rcases List.mem_cons.1 ht with rfl|ht
  ·have:=h.1
   simpa[Q2c]using this
  ·exact Qde h.2 t ht
theorem Qdg{x n:Int}:∀{l:List Int},x∈Q2n n l->x=n∨x∈l
 | [], h => by simpa [Q2n] using h
 |m::l,h=>by
  unfold Q2n at h
  split at h
  ·simpa using h
  ·split at h
   ·exact .inr h
   ·rcases List.mem_cons.1 h with h|h
    ·exact .inr (by simp[h])
    ·rcases Qdg h with h|h
     ·exact .inl h
     ·exact .inr (by simp[h])
theorem Qau{x:Int}:∀{l:List Int},x∈sortS l->x∈l
 |[],h=>by simp[sortS]at h
 |n::l,h=>by
  have h':x∈Q2n n (sortS l):=h
  rcases Qdg h' with h1|h1
  ·simp[h1]
  ·exact List.mem_cons_of_mem _ (Qau h1)
theorem Qc7{n:Int}{b:List Int}{ks:List Tr}{a:List Alt}(h:occT [] (.mk 5 n b ks a)=[]){t:Tr}(ht:t∈ks):∀m∈Q1k t,m∈b:=by
 intro m hm
 simp only[occT,List.append_eq_nil_iff]at h
 refine occ_in b t _ [] (fun k hk=>?_) (Qde h.2 t ht) m (Qau hm)
 simp only[List.append_nil]at hk
 exact .inr hk
end Go.CoreX
namespace Go.CoreX
open Go Go.Abs
open Go.Proofs.YtmdkenkhaicbeaaGreatDoor
theorem Qgh{e:List Ex}(he:okB e)(hc:check e=0):(∃er:Int,er≠0/\liftE mxT e=([],er))∨∃T:Tr,liftE mxT e=(listT [] T,0)/\okB (listT [] T)/\(T=grow e∨(check (listT [] T)=0/\T.op=5)):=by
 have t1:=Q19 hc
 obtain⟨q1,_,_⟩:=(Q1w _).1 (Q32 hc).1
 have hcE:=cntE t1
 have hqg:=Qea he hc
 have hR0:RInv (mxT (grow e)+1) (grow e) [] [] (mxT (grow e)+1):=by
  have h1:=Qco (grow e)
  exact⟨hqg,trivial,by simp,by simp only[apNs];omega,by simp only[cntNs,List.length_nil];omega,rfl,by simp,by simp,by simp⟩
 obtain⟨h1,h2⟩:=Qaw _ 60 (grow e,[],[],mxT (grow e)+1) hR0
 cases hS:lfIt 60 (grow e,[],[],mxT (grow e)+1) with
 |mk X r=>
  obtain⟨N,I,n⟩:=r
  rw[hS]at h1 h2
  simp only at h1 h2
  have hE:liftE mxT e=if I=[]then (listT [] X,0)else if check (listT [] (.mk 5 0 I (N++[X]) []))≠0 then ([],2)else (listT [] (.mk 5 0 I (N++[X]) []),0):=by
   unfold liftE
   rw[if_neg (by simpa using hc),hS]
  by_cases hI:I=[]
  ·rw[if_pos hI]at hE
   refine .inr ⟨X,hE,Q4l (Q8c _ h1.r (by have:=h1.c;have:=h1.t;omega)) (by have:=h1.c;have:=h1.t;omega),.inl ?_⟩
   rcases h2 with h2|h2
   ·cases h2;rfl
   ·rw[hI]at h2;simp at h2
  ·rw[if_neg hI]at hE
   by_cases hk:check (listT [] (.mk 5 0 I (N++[X]) []))=0
   ·rw[if_neg (by simpa using hk)]at hE
    have hn1:=h1.c
    have hn2:=h1.t
    have hn3:=h1.l
    have hXp:=Q8c _ h1.r (by omega)
    have hNp:=Q75 _ h1.q (by omega)
    refine .inr ⟨.mk 5 0 I (N++[X]) [],hE,Q4l ⟨⟨by simp;omega,by simp;omega,by simp,by simp,by simp;omega⟩,Q2j hNp ⟨hXp,trivial⟩⟩ (by simp only[cntN,Q1l,cntNs];omega),.inr ⟨hk,rfl⟩⟩
   ·rw[if_pos (by simpa using hk)]at hE
    exact .inl ⟨2,by decide,hE⟩
theorem Qc5{O:List Ex}(hc:check O=0){x:Ex}{i:Nat}(hi:i+1=O.length)(hx:O[i]?=some x)(h5:x.op=5):∀k∈x.kids,(Q4b O k).2=0/\(∀m∈(Q4b O k).1,m∈x.binds)/\(Q4b O k).1.length<=O.length:=by
 have t1:=Q19 hc
 obtain⟨_,_,_,hocc⟩:=Q32 hc
 have hn:=Q1x t1.k hx
 have hg:grow O=Q0u O i:=by
  unfold grow Q0u
  rw[show O.length - 1=i by omega]
 rw[hg,hn,h5]at hocc
 intro k hk
 obtain⟨k1,k2⟩:=t1.k i x hx k hk
 have hat:atErr O k=0:=by
  unfold atErr
  rw[if_neg (by simpa using hc),if_neg (by omega)]
 unfold Q4b
 rw[if_neg (by simpa using hat)]
 have hm:Q0u O k.toNat∈x.kids.map fun k=>Q0u O k.toNat:=List.mem_map.2 ⟨k,hk,rfl⟩
 refine⟨rfl,Qc7 hocc hm,?_⟩
 have h1:=Q4s (Q0u O k.toNat)
 have h2:=Q1u (Q0u O k.toNat) []
 have h3:=cntE t1
 rw[hg,hn]at h3
 have h4:=Q3v hm
 simp only[cntN]at h3
 simp only[List.length_nil]at h2
 show (Q1k (Q0u O k.toNat)).length<=O.length
 omega
end Go.CoreX
namespace Go.Proofs.YtmdkenkhaicbeaaGreatDoor
open Go Go.Abs Go.CoreX
theorem snoc_of{α:Type}:∀{l:List α},l≠[]->∃r x,l=r++[x]:=fun {l} h=>⟨l.dropLast,l.getLast h,(List.dropLast_concat_getLast h).symm⟩
theorem Qgj{O:List Ex}(hc:check O=0):∃r x,O=r++[x]/\x.op=(grow O).op:=by
 have t1:=Q19 hc
 obtain⟨r,x,rfl⟩:=snoc_of t1.ne
 refine⟨r,x,rfl,?_⟩
 have hn:=Q1x t1.k (i:=r.length) (x:=x) (by simp)
 have hg:grow (r++[x])=Q0u (r++[x]) r.length:=by
  unfold grow Q0u
  rw[show (r++[x]).length - 1=r.length by simp]
 rw[hg,hn];rfl
theorem Qab(e:List Ex)(he:okB e):APure Tryz.prog Γc 4 [.one (.sl 5 (e.map cEx))] (.one (.lit (.bool true))):=by
 have hel:=he.eo.l
 have hR:=Qei e he
 unfold LfR at hR
 intro ou
 refine AFn.walk 73 tabOk Tryz.func4 rfl (by kernel_rfl) rfl rfl fun hou=>?_
 have hout:(∃er:Int,er≠0/\liftE mxT e=([],er))∨(check e=0/\∃T:Tr,liftE mxT e=(listT [] T,0)/\okB (listT [] T)/\(T=grow e∨(check (listT [] T)=0/\T.op=5))):=by
  by_cases h:check e=0
  ·exact (Qgh he h).imp id fun h2=>⟨h,h2⟩
  ·exact .inl ⟨check e,h,by unfold liftE;rw[if_pos h]⟩
 rcases hout with ⟨er,her,hE⟩|⟨hc,T,hE,hob,hT⟩
 ·rw[hE]at hR
  dsimp only at hR
  refine zA ?_
  refine zca hΓc hR hou ?_
  repeat ((fail_if_success ((with_reducible refine oj ?_);refine AOps.atDst 17 rfl ?_));first|refine zO ?_)
  refine AOps.wk 16 rfl (y:=.one (.lit (.bool true))) (.ofEq (by simp[her])) ?_
  refine zM ?_
  refine zca hΓc Q3m hou ?_
  refine zA ?_
  exact APure.fin rfl (WkF.ofEq rfl) (by simp) hou rfl
 ·have hck:check (listT [] T)=0:=hT.elim (fun h=>by rw[h];exact Qf6 hc) (·.1)
  obtain⟨O,hO⟩:∃O,O=listT [] T:=⟨_,rfl⟩
  have hgO:grow O=T:=by rw[hO,Q31]
  rw[hE]at hR
  rw[←hO]at hR hck hob
  obtain⟨r,x,hx,hxo⟩:=Qgj hck
  obtain⟨r',y,hy,hyo⟩:=Qgj hc
  rw[hgO]at hxo
  have hOl:=hob.eo.l
  have hg1:(O.map cEx)[(((O.map cEx).length:Int) - 1).toNat]?=some (cEx x):=by rw[hx];simp
  have hp1:(0:Int)<=((O.map cEx).length:Int) - 1:=by rw[hx];simp
  have hg2:(e.map cEx)[(((e.map cEx).length:Int) - 1).toNat]?=some (cEx y):=by rw[hy];simp
  have hp2:(0:Int)<=((e.map cEx).length:Int) - 1:=by rw[hy];simp
  have hl1:((O.map cEx).length:Int)<=1048576:=by simp;omega
  have hl2:((e.map cEx).length:Int)<=1048576:=by simp;omega
  dsimp only at hR
  refine zA ?_
  refine zca hΓc hR hou ?_
  repeat ((fail_if_success ((with_reducible refine oj ?_);refine AOps.atDst 20 rfl ?_));first|refine zO ?_)
  refine AOps.wk 19 rfl (y:=.one (.lit (.bool false))) (.ofEq (by simp[hx];omega)) ?_
  refine zM ?_
  refine zS (zIA rfl rfl rfl hp1 hg1) ?_
  repeat ((fail_if_success ((with_reducible refine oj ?_);refine AOps.atDst 30 rfl ?_));first|refine zO ?_)
  by_cases h5:T.op=5
  ·refine AOps.wk 29 rfl (y:=.one (.lit (.bool false))) (.ofEq (by simp[hxo,h5])) ?_
   refine zM ?_
   refine zS (zIA rfl rfl rfl hp2 hg2) ?_
   repeat ((fail_if_success ((with_reducible refine oj ?_);refine AOps.atDst 40 rfl ?_));first|refine zO ?_)
   by_cases h6:y.op=5
   ·refine AOps.wk 39 rfl (y:=.one (.lit (.bool true))) (.ofEq (by simp[h6])) ?_
    refine zM ?_
    refine zca hΓc Q3m hou ?_
    refine zA ?_
    exact APure.fin rfl (WkF.ofEq rfl) (by simp) hou rfl
   ·refine AOps.wk 39 rfl (y:=.one (.lit (.bool false))) (.ofEq (by simp[h6])) ?_
    refine zM ?_
    have hlast:=Qc5 hck (i:=r.length) (x:=x) (by rw[hx];simp) (by rw[hx];simp) (by rw[hxo];exact h5)
    have hxm:x∈O:=by rw[hx];simp
    have hok:=hob.eo.x x hxm
    have hbl:=hok.b
    have hkb:x.kids.length=x.binds.length+1:=by
     have hs:=Q6r hck x hxm
     have hx5:x.op=5:=by rw[hxo];exact h5
     simp[Go.CoreX.shape,wants,hx5]at hs
     omega
    refine zS (zIA rfl rfl rfl hp1 hg1) ?_
    repeat ((fail_if_success ((with_reducible refine oj ?_);refine AOps.atDst 48 rfl ?_));first|refine zO ?_)
    refine AOps.freeze1 (.l 0) 5 rfl rfl ?_
    refine zA ?_
    refine ACode.loopR hΓc (α:=Nat) (fun j=>[(51,.one (int j)),(50,.one (int (x.binds.map cI).length)),(5,.one (.box (cEx x))),(3,.one (.sl 5 (O.map cEx)))])
     (fun j=>⟨1,[],ou⟩) (fun m j=>j<=x.binds.length/\m=x.binds.length - j) (a0:=0) (ρ:=id) ⟨by omega,rfl⟩ (LessR.of rfl zFS (by simp) zLO rfl rfl hou) fun m j hj=>?_
    obtain⟨hjl,rfl⟩:=hj
    refine zA ?_
    refine ACode.cond rfl (fun hb2=>?_) (fun hb2=>?_)
    ·have hlt:j < x.binds.length:=by simpa using hb2
     obtain⟨k,hk⟩:=Q00 (l:=x.kids) (i:=j) (by omega)
     obtain⟨hf0,hfm,hfl⟩:=hlast k (List.mem_of_getElem? hk)
     have hFr:=Free_ok O hob k
     obtain⟨F,hF⟩:∃F,F=Q4b O k:=⟨_,rfl⟩
     rw[←hF]at hFr hf0 hfm hfl
     rw[hf0]at hFr
     refine zA ?_
     refine zS (zIA rfl rfl rfl (by omega) (Q0a hk)) ?_
     refine zA ?_
     refine zca hΓc hFr hou ?_
     have hFl:F.1.length<=1048576:=by omega
     have hH:=Qk3 hΓc 25 [.box (cEx x)] (by simp) (fun n=>!x.binds.contains n) F.1 hFl (fun n hn=>outB_ok x hok.b n)
     have hno:F.1.any (fun n=>!x.binds.contains n)=false:=by
      rw[List.any_eq_false]
      intro n hn
      simpa using hfm n hn
     rw[hno]at hH
     refine zA ?_
     refine AOps.callG hΓc hH rfl rfl rfl rfl rfl rfl rfl rfl rfl hou (by simp) ?_
     refine zM ?_

     exact cInv ⟨x.binds.length - (j+1),j+1,_root_.id,by omega,⟨by omega,rfl⟩,LessR.of rfl zFS (by simp) zLO rfl rfl hou⟩
    ·refine zA ?_
     refine zca hΓc Q3m hou ?_
     refine zA ?_
     exact APure.fin rfl (WkF.ofEq rfl) (by simp) hou rfl
  ·refine AOps.wk 29 rfl (y:=.one (.lit (.bool true))) (.ofEq (by simp[hxo,h5])) ?_
   refine zM ?_
   refine zca hΓc Q3m hou ?_
   refine zA ?_
   exact APure.fin rfl (WkF.ofEq rfl) (by simp) hou rfl
end Go.Proofs.YtmdkenkhaicbeaaGreatDoor
