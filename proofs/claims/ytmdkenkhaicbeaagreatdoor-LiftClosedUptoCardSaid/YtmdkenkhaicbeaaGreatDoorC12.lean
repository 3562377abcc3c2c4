/- lift: a clone that is appended to. -/
import Derived.Test.YtmdkenkhaicbeaaGreatDoorC11
set_option maxRecDepth 10000
set_option linter.unusedVariables false
set_option linter.unusedSimpArgs false
namespace Go.Abs
theorem AOps.frSub{E:Env}{ops:Array Oper}{l:List Oper}{K:Cont}{fr fr':Fr}{σ:St}(hs:∀k x,Fr.get k fr'=some x->Fr.get k fr=some x)(h:AOps E ops l K fr' σ):AOps E ops l K fr σ:=by
 intro F w0 C0 w C tmps hgo hi hf
 exact h F w0 C0 w C tmps hgo hi ⟨hf.1,fun k x hk=>hf.2 k x (hs k x hk)⟩
theorem AOps.appB{E:Env}{ops:Array Oper}{rest:List Oper}{K:Cont}{o:Oper}{fr:Fr}{σ σ1:St}{dd:Nat}{t:TypeId}{ti tj:TI}{x y:Operand}{c:AC}{s cap0:Nat}{es news:List (List AC)}(ou:Outer)(hT:TabOk E.P E.T)(hgd:o.guard=none)(hdst:o.dst=some dd)(hdd:Nat.ble (dd+1) E.N=true)
  (ho : o.op = .call { callee := .builtin .append, args := #[x, y], argTypes := #[t, t] }) (ht : Tab.get t E.T = some ti) (hk : Nat.beq ti.kind 2 = true) (hj : Tab.get ti.elem E.T = some tj) (hx : aEval E.Γ fr x = some (.one c)) (hy : aEval E.Γ fr y = some (.one (.sl s news))) (hb : BaseO σ c s es cap0 σ1) (hln : ∀ x ∈ news, x.length = s)
  (hs : Nat.beq tj.size s = true) (hbytes : (es.length + news.length) * tj.bytes <= 140737488355328) (h63 : es.length + news.length <= 140737488355328)
  (hou : ∀ m p, ou m = some p -> σ1.get (.o m) = some p)
  (h : ∀ n, AOps E ops rest K ((dd, .one (.sl s (es ++ news))) :: fr) ⟨n, [], ou⟩) : AOps E ops (o :: rest) K fr σ := by
 by_cases hne:news=[]
 ·subst hne
  cases hb with
  |nil=>
   refine AOps.step1 hgd hdst hdd (AStep.appNil hT ho ht hk hj hx hy) ?_
   refine AOps.wk dd (show Fr.get dd ((dd,_)::fr)=_ by simp[Fr.get]) (.one (.nilS s)) ?_
   refine AOps.frSub (fr':=(dd,.one (.sl s ([]++[])))::fr) (fun k x hk=>?_) (AOps.lessO ⟨σ.n,[],ou⟩ rfl (fun i p hp=>?_) (h _))
   ·simp only[Fr.get]at hk ⊢
    cases hb:Nat.beq dd k <;> simp[hb]at hk ⊢ <;> exact hk
   ·cases i with
    |l m=>cases hp
    |o m=>exact hou m p hp
  |own _ _ _ i hi hl hcap=>
   refine AOps.step1 hgd hdst hdd (AStep.appNone hT ho ht hk hj hx hy) ?_
   refine AOps.freezeArr i dd hi hl (show Fr.get dd ((dd,_)::fr)=_ by simp[Fr.get]) ?_
   refine AOps.frSub (fr':=(dd,.one (.sl s (es++[])))::fr) (fun k x hk=>?_) (AOps.lessO ⟨σ.n,[],ou⟩ (by rw[St.n_set]) (fun i p hp=>?_) (h _))
   ·rw[List.append_nil]at hk
    simp only[Fr.get]at hk ⊢
    cases hb:Nat.beq dd k <;> simp[hb]at hk ⊢ <;> exact hk
   ·cases i with
    |l m=>cases hp
    |o m=>exact hou m p hp
 ·refine AOps.appOwn hT hgd hdst hdd ho ht hk hj hx hy hb (.sl _ _) hne hs hbytes h63 fun cap hc=>?_
  have hl:∀x∈es++news,x.length=s:=fun z hz=>by
   rcases List.mem_append.1 hz with hz|hz
   ·cases hb with
    |nil=>simp at hz
    |own _ _ _ i hi hl hcap=>exact hl z hz
   ·exact hln z hz
  have hn1:σ1.n=σ.n:=by
   cases hb with
   |nil=>rfl
   |own _ _ _ i hi hl hcap=>exact St.n_set ..
  refine AOps.freezeArr (.l σ.n) dd (by rw[St.get_push,if_pos (by rw[hn1])]) hl (show Fr.get dd ((dd,_)::fr)=_ by simp[Fr.get]) ?_
  refine AOps.frSub (fr':=(dd,.one (.sl s (es++news)))::fr) (fun k x hk=>?_) (AOps.lessO ⟨_,[],ou⟩ rfl (fun i p hp=>?_) (h _))
  ·simp only[Fr.get]at hk ⊢
   cases hb:Nat.beq dd k <;> simp[hb]at hk ⊢ <;> exact hk
  ·cases i with
   |l m=>cases hp
   |o m=>
    rw[St.get_set_ne _ (by simp),St.get_push,if_neg (by simp)]
    exact hou m p hp
end Go.Abs
namespace Go.Proofs.YtmdkenkhaicbeaaGreatDoor
open Go Go.Abs Go.CoreX
variable {Γ:List (Nat×List AC)}
def CloneBQ (ou:Outer)(l:List Int)(r:FV)(ou':Outer):Prop:=(l=[]/\r=.one (.lit (.slice none 0 0))/\ou'=ou)∨∃k cap,r=.one (.arr (.o k) 1 0 (l.map cI).length cap)/\(l.map cI).length<=cap/\NewO ou ou' [(k,.cells (vec 1 (l.map cI) cap))]
theorem Qi8(l:List Int)(hl:l.length<=1048576)(ou:Outer):AFn Tryz.prog Γ 73 [.one (.sl 1 (l.map cI))] ou (CloneBQ ou l):=by
 refine AFn.walk 8 tabOk Tryz.func73 rfl (by kernel_rfl) rfl rfl fun hou=>?_
 refine zA ?_
 refine AOps.nilTest rfl rfl rfl rfl Tryz.underlying28 rfl rfl fun b hb=>?_
 refine zA ?_
 refine ACode.cond rfl (fun hb2=>?_) (fun hb2=>?_)
 ·have h0:l=[]:=by simpa using hb hb2
  subst h0
  refine zA ?_
  exact AFn.fin' rfl (WkF.ofEq rfl) (by simp[AC.ids]) hou (.inl ⟨rfl,rfl,rfl⟩)
 ·clear hb
  have fin:∀{k:Nat}{cap:Nat}(hk:∀m,k<=m->ou m=none),(l.map cI).length<=cap->NewO ou (ouAdd ou k [.cells (vec 1 (l.map cI) cap)]) [(k,.cells (vec 1 (l.map cI) cap))]:=fun {k cap} hk hc=>NewO.add hk hou (show idsL isO (vec 1 (l.map cI) cap)from Qdr _ _ _)
  refine zA ?_
  refine zS (AStep.buildOwn0 (s:=1) tabOk rfl rfl rfl rfl rfl) ?_
  refine zA ?_
  by_cases h0:l=[]
  ·subst h0
   refine zS (AStep.appNone tabOk rfl rfl rfl rfl rfl rfl) ?_
   refine AOps.cedes [0] rfl (by decide) hou fun k hk=>⟨[(7,.one (.arr (.o k) 1 0 (([]:List Int).map cI).length 0))],[],[.cells (vec 1 (([]:List Int).map cI) 0)],.cons rfl rfl .nil,.nil,.cons rfl rfl .nil,?_⟩
   have hN:=fin (cap:=0) hk (by simp)
   have hok:=hN.ok
   refine zA ?_
   exact AFn.fin' rfl (WkF.ofEq rfl) (by simp[AC.ids]) hok (.inr ⟨k,0,rfl,by simp,hN⟩)
  ·refine AOps.appOwn tabOk rfl rfl rfl rfl rfl rfl rfl rfl rfl (.own 1 0 [] (.l 0) rfl (by simp) (by simp)) (.sl 1 (l.map cI)) (by simpa using h0) rfl (by simp;show _ * 8<=_;omega) (by simp;omega) fun cap hc=>?_
   simp only[List.nil_append]at hc ⊢
   refine AOps.cedes [1] rfl (by decide) hou fun k hk=>⟨[(7,.one (.arr (.o k) 1 0 (l.map cI).length cap))],[],[.cells (vec 1 (l.map cI) cap)],.cons rfl rfl .nil,.nil,.cons rfl ?_ .nil,?_⟩
   ·exact AObj.sub_f (fun i hi=>by cases i with|l q=>exact hi.elim|o q=>rfl) _ (show idsL isO (vec 1 (l.map cI) cap)from Qdr _ _ _)
   have hN:=fin (cap:=cap) hk hc
   have hok:=hN.ok
   refine zA ?_
   exact AFn.fin' rfl (WkF.ofEq rfl) (by simp[AC.ids]) hok (.inr ⟨k,cap,rfl,hc,hN⟩)
theorem AStep.toEq{E:Env}{o:Oper}{fr:Fr}{σ σ1 σ2:St}{x:FV}(h:AStep E o fr σ x σ1)(e:σ1=σ2):AStep E o fr σ x σ2:=e▸h
theorem UpdL.toks{ou:Outer}{i ti tf k k2:Nat}{R:List (Nat×AObj)}{c c' τ φ τ' φ':AObj}(hO:Owns ou ((i,c)::(ti,τ)::(tf,φ)::R))(hn:(keys ((i,c)::(ti,τ)::(tf,φ)::R)).Nodup)(hou:OuOk ou)
  (hk:∀m,k<=m->updO ou ti .dead m=none) (hk2:∀m,k2<=m->updO (ouAdd (updO ou ti .dead) k [τ']) tf .dead m=none) (hc:c'.ids isO) (hτ:τ'.ids isO) (hφ:φ'.ids isO):
  UpdL ou ((i,c)::(ti,τ)::(tf,φ)::R) (updO (ouAdd (updO (ouAdd (updO ou ti .dead) k [τ']) tf .dead) k2 [φ']) i c') ((i,c')::(k,τ')::(k2,φ')::R):=by
 have hi:ou i=some c:=hO (i,c) (by simp)
 have hti:ou ti=some τ:=hO (ti,τ) (by simp)
 have htf:ou tf=some φ:=hO (tf,φ) (by simp)
 simp only[keys,List.map_cons,List.nodup_cons,List.mem_cons,not_or]at hn
 obtain⟨⟨n1,n2,n3⟩,⟨n4,n5⟩,n6,n7⟩:=hn
 have b1:i < k:=Q1d hk (by rw[Q04 _ (Ne.symm n1)];exact hi)
 have b2:ti < k:=Q1d hk (Q06 ou ti .dead)
 have b3:tf < k:=Q1d hk (by rw[Q04 _ n4];exact htf)
 have hR:∀p∈R,p.1 < k/\p.1≠i/\p.1≠ti/\p.1≠tf:=fun p hp=>by
  have h1:p.1≠ti:=fun e=>n5 (e▸List.mem_map_of_mem hp)
  exact⟨Q1d hk (by rw[Q04 _ (Ne.symm h1)];exact hO p (by simp[hp])),fun e=>n3 (e▸List.mem_map_of_mem hp),h1,fun e=>n6 (e▸List.mem_map_of_mem hp)⟩
 have hkn:ouAdd (updO ou ti .dead) k [τ'] k=some τ':=Q0e 0
 have b4:k < k2:=Q1d hk2 (by rw[Q04 _ (by omega)];exact hkn)
 have hnone:∀m,k<=m->ou m=none:=fun m hm=>by
  have:=hk m hm
  rwa [Q04 _ (by omega)]at this
 have low:∀m,m < k->m≠i->m≠ti->m≠tf->updO (ouAdd (updO (ouAdd (updO ou ti .dead) k [τ']) tf .dead) k2 [φ']) i c' m=ou m:=fun m h1 h2 h3 h4=>by
  rw[Q04 _ (Ne.symm h2),Q0f (by omega),Q04 _ (Ne.symm h4),Q0f h1,Q04 _ (Ne.symm h3)]
 refine⟨fun p hp=>?_,?_,fun j hj=>?_,fun j hj hne=>?_,Q2d (Q2f (Q2d (Q2f (Q2d hou trivial) fun o ho=>?_) trivial) fun o ho=>?_) hc⟩
 ·simp only[List.mem_cons]at hp
  rcases hp with rfl|rfl|rfl|hp
  ·exact Q06 _ _ _
  ·rw[Q04 _ (by show i≠k;omega),Q0f (by show k < k2;omega),Q04 _ (by show tf≠k;omega)];exact hkn
  ·rw[Q04 _ (by show i≠k2;omega)];exact Q0e 0
  ·obtain⟨h1,h2,h3,h4⟩:=hR p hp
   rw[low p.1 h1 h2 h3 h4]
   exact hO p (by simp[hp])
 ·have hRk:∀j∈R.map (·.1),j < k:=fun j hj=>by obtain⟨p,hp,rfl⟩:=List.mem_map.1 hj;exact (hR p hp).1
  simp only[keys,List.map_cons,List.nodup_cons,List.mem_cons,not_or]
  exact⟨⟨by omega,by omega,n3⟩,⟨by omega,fun h=>by have:=hRk _ h;omega⟩,fun h=>by have:=hRk _ h;omega,n7⟩
 ·simp only[keys,List.map_cons,List.mem_cons]at hj ⊢
  rcases hj with rfl|rfl|rfl|hj
  ·exact .inl (.inl rfl)
  ·exact .inr (hnone _ (by omega))
  ·exact .inr (hnone _ (by omega))
  ·exact .inl (.inr (.inr (.inr hj)))
 ·simp only[keys,List.map_cons,List.mem_cons,not_or]at hj
  have hjk:j < k:=Decidable.byContradiction fun h=>hne (hnone j (by omega))
  exact low j hjk hj.1 hj.2.1 hj.2.2.1
 ·simp only[List.mem_cons,List.not_mem_nil,or_false]at ho
  subst ho;exact hτ
 ·simp only[List.mem_cons,List.not_mem_nil,or_false]at ho
  subst ho;exact hφ
theorem Q64:∀l:List Tr,l.length<=cntNs l
 |[]=>by simp
 |t::l=>by
  have:=Q64 l
  obtain⟨o,n,b,k,a⟩:=t
  simp only[cntNs,cntN,List.length_cons];omega
theorem Qe5(ids needs:List Int)(l:List Tr):(exTs ids needs l).length=l.length:=by simp[Qa1]
theorem Qhl:∀l:List Int,cntNs (l.map vT)=l.length
 |[]=>rfl
 |x::l=>by
  have:=Qhl l
  simp only[List.map_cons,cntNs,vT,cntN,List.length_cons,this];omega
mutual
theorem Qhk(ids needs:List Int)(h:needs.length<=6):∀t:Tr,cntN (exT ids needs t)<=7 * cntN t
 |.mk o n b k a=>by
  have h1:=Qe6 ids needs h k
  simp only[exT,cntN,Q1l]
  split
  ·rw[Qhl];omega
  ·simp only[cntNs];omega
theorem Qe6(ids needs:List Int)(h:needs.length<=6):∀l:List Tr,cntNs (exTs ids needs l)<=7 * cntNs l
 |[]=>by simp[exTs,cntNs]
 |t::l=>by
  have h1:=Qhk ids needs h t
  have h2:=Qe6 ids needs h l
  simp only[exTs,cntNs];omega
end
theorem Q2j{p:Lab->Prop}{l r:List Tr}(h:allTs p l)(k:allTs p r):allTs p (l++r):=Q1m.2 fun t ht=>(List.mem_append.1 ht).elim (Q1m.1 h t) (Q1m.1 k t)
theorem Qff{p:Lab->Prop}(hp:∀n,p ⟨0,n,[],[],[]⟩)(l:List Int):allTs p (l.map vT):=Q1m.2 fun t ht=>by
 obtain⟨x,_,rfl⟩:=List.mem_map.1 ht
 exact⟨hp x,trivial⟩
mutual
theorem Qhj(ids needs:List Int)(h:needs.length<=6):∀t:Tr,allT pOk t->cntN t<=500000->allT pOk (exT ids needs t)
 |.mk o n b k a,ht,hc=>by
  have hl:=Q64 k
  simp only[cntN]at hc
  have h1:=Qe4 ids needs h k ht.2 (by omega)
  unfold exT
  refine pOk_lab ht ?_ (Q2j h1 ?_)
  ·rw[List.length_append,Qe5]
   split
   ·simp;omega
   ·simp;omega
  ·split
   ·exact Qff (fun n=>⟨by simp,by simp,by simp,by simp,by simp⟩) _
   ·trivial
theorem Qe4(ids needs:List Int)(h:needs.length<=6):∀l:List Tr,allTs pOk l->cntNs l<=500000->allTs pOk (exTs ids needs l)
 |[],_,_=>trivial
 |t::l,ht,hc=>by
  simp only[cntNs]at hc
  exact⟨Qhj ids needs h t ht.1 (by omega),Qe4 ids needs h l ht.2 (by omega)⟩
end
theorem Qfu{n:Int}{b:List Int}{k k':Nat}{a:List Alt}(h:ShN 3 n b k a)(hk:k<=k'):ShN 3 n b k' a:=by
 obtain⟨h1,rfl,rfl⟩:=h.app
 obtain⟨⟨ops,hl,hs⟩⟩:=h
 refine⟨⟨List.replicate k' 0,by simp,?_⟩⟩
 simp only[Go.CoreX.shape,wants]at hs ⊢
 simp at hs ⊢
 omega
mutual
theorem Qhh(ids needs:List Int):∀t:Tr,allT shpQ t->allT shpQ (exT ids needs t)
 |.mk o n b k a,ht=>by
  have h1:=Qhf ids needs k ht.2
  unfold exT
  have h0:ShN o n b k.length a:=by have:=ht.1;simpa[shpQ]using this
  refine⟨?_,Q2j h1 ?_⟩
  ·show ShN o n b _ a
   rw[List.length_map,List.length_append,Qe5]
   split
   ·rename_i hcl
    have h3:o=3:=by
     unfold isCl at hcl
     simp only[Bool.and_eq_true,beq_iff_eq]at hcl
     exact hcl.1
    subst h3
    exact Qfu h0 (by omega)
   ·simpa using h0
  ·split
   ·exact Qff (fun n=>⟨⟨[],rfl,by simp[Go.CoreX.shape,wants]⟩⟩) _
   ·trivial
theorem Qhf(ids needs:List Int):∀l:List Tr,allTs shpQ l->allTs shpQ (exTs ids needs l)
 |[],_=>trivial
 |t::l,ht=>⟨Qhh ids needs t ht.1,Qhf ids needs l ht.2⟩
end
theorem exT_G{ids needs:List Int}{t:Tr}(h:TrG t)(hn:needs.length<=6)(hc:cntN t<=500000):TrG (exT ids needs t):=
 ⟨Q4z _ (Qhj ids needs hn t (Q9i t h.ok) hc),by have:=Qhk ids needs hn t;omega,Qhh ids needs t h.sh⟩
def gOfT:Tr->Option (List Int×List Tr×Tr)
 |.mk o n b k a=>if o=5 then some (b,k.take b.length,k.getD b.length default)else if o=4/\(k.getD 0 default).op=2 then some (b,k.take 1,k.getD 1 default)else none
def prmL (next:Int)(k:Nat):List Int:=(List.range k).map fun i:Nat=>next+i
def newF (ids needs:List Int)(next:Int)(f:Tr):Tr:=.mk f.op f.n (f.binds++prmL next needs.length) (rmT needs (prmL next needs.length) (exT ids needs (kdT f 0))::f.kids.drop 1) f.alts
def newFs (ids needs:List Int):Int->List Tr->List Tr
 |_,[]=>[]
 |next,f::l=>newF ids needs next f::newFs ids needs (next+needs.length) l
def liftT (top:List Int)(next:Int)(t:Tr):Option (Tr×List Tr×List Int×Int):=
 match gOfT t with
 |none=>none
 |some (ids,fns,rest)=>
  if (knT ids (arL fns) rest&&!(fns.any fun f=>!knT ids (arL fns) (kdT f 0)))=false then none else
  if ((!(fns.any fun f=>decide ((f.binds.length:Int)+(Q0z ids top fns).length > 6)))&&decide (top.length+ids.length<=16))=false then none else
  some (exT ids (Q0z ids top fns) rest,newFs ids (Q0z ids top fns) next fns,ids,next+fns.length * (Q0z ids top fns).length)
structure LS where
 id:Nat
 ti:Nat
 tf:Nat
 c0:AC
 ids:List Int
 fns:List LTk
 next:Int
def lsO (s:LS):AObj:=.cells [s.c0,.gs 1 (s.ids.map cI) (.o s.ti),.gs 1 (kK s.fns) (.o s.tf),int s.next]
def obL (s:LS):List (Nat×AObj):=[(s.id,lsO s),(s.ti,.tok 3 1 s.ids.length),(s.tf,tO s.fns.length)]
def LiftQ (ou:Outer)(s:LS)(t:LTk)(r:FV)(ou':Outer):Prop:=match liftT s.ids s.next (erK t) with
 |none=>r=.one (.lit (.bool false))/\ou'=ou
 |some (rest,nf,gids,next)=>r=.one (.lit (.bool true))/\∃(t':LTk) (fs:List LTk) (s':LS),erK t'=rest/\t'.id=t.id/\erKs fs=nf/\s'.id=s.id/\s'.c0=s.c0/\s'.ids=s.ids++gids/\s'.fns=s.fns++fs/\s'.next=next/\UpdL ou (obL s++obK t) ou' (obL s'++(obK t'++obKs fs))
theorem gOf_er{t:LTk}:gOfT (erK t)=(gOf t).map fun g=>(g.1,erKs g.2.1,erK g.2.2):=by
 obtain⟨i,tk,o,n,b,ks,a⟩:=t
 have hd:erK default=default:=rfl
 have hg:∀j:Nat,(erKs ks).getD j default=erK (ks.getD j default):=fun j=>by
  rw[Q2p,List.getD_eq_getElem?_getD,List.getElem?_map,List.getD_eq_getElem?_getD]
  cases ks[j]? with
  |none=>exact hd.symm
  |some x=>rfl
 have hop:∀u:LTk,(erK u).op=u.op:=fun u=>by cases u;rfl
 simp only[erK,gOfT,gOf,hg,hop]
 split
 ·simp[Q2p,List.map_take]
 ·split
  ·simp[Q2p,List.map_take]
  ·rfl
theorem Qdx{t:LTk}{ids:List Int}{fns:List LTk}{rest:LTk}(h:gOf t=some (ids,fns,rest))(hG:TrG (erK t)):t.kids=fns++[rest]/\fns.length=ids.length/\0 < fns.length:=by
 obtain⟨i,tk,o,n,b,ks,a⟩:=t
 have hsn:=Q24 hG.sh
 simp only[erK,Tr.op_mk,Tr.n_mk,Tr.binds_mk,Tr.kids_mk,Tr.alts_mk,Q0w]at hsn
 simp only[gOf]at h
 split at h
 ·rename_i h5
  subst h5
  cases h
  obtain⟨h1,h2,_⟩:=hsn.recs
  obtain⟨r,hr⟩:=Q00 (l:=ks) (i:=ids.length) (by omega)
  refine⟨?_,by simp;omega,by simp;omega⟩
  simp only[LTk.kids]
  conv=>lhs;rw[←List.take_append_drop ids.length ks]
  congr 1
  rw[List.getD_eq_getElem?_getD,hr]
  have hd:ids.length < ks.length:=by omega
  rw[List.drop_eq_getElem_cons hd,List.drop_eq_nil_of_le (by omega)]
  congr 1
  exact Option.some.inj ((List.getElem?_eq_getElem hd).symm.trans hr)
 ·split at h
  ·rename_i h4
   obtain⟨h4,_⟩:=h4
   subst h4
   cases h
   obtain⟨hk2,hb1,_⟩:=hsn.lett
   obtain⟨k0,k1,rfl⟩:∃k0 k1,ks=[k0,k1]:=lst2 hk2
   exact⟨rfl,by simp[hb1],by simp⟩
  ·cases h
theorem Qix{i tk:Nat}{S D R:List Nat}(h:(S++([i,tk]++(D++R))).Nodup):(i::(S++(tk::(D++R)))).Nodup:=by
 rw[List.nodup_iff_count]at h ⊢
 intro x
 have:=h x
 simp only[List.count_cons,List.count_append,List.count_nil]at this ⊢
 omega
theorem Qiw{i tk ri rtk:Nat}{S D R:List Nat}(h:(S++([i,tk]++(D++(ri::rtk::R)))).Nodup):(S++(i::rtk::R++D)).Nodup:=by
 rw[List.nodup_iff_count]at h ⊢
 intro x
 have:=h x
 simp only[List.count_cons,List.count_append,List.count_nil]at this ⊢
 omega
structure LfG (t:Tr):Prop where
 g:TrG t
 d:Q0x t<=1048576
 c:cntN t<=500000
 l:allT (fun l=>l.op=5->l.ops.take l.binds.length=List.replicate l.binds.length 2) t
set_option maxHeartbeats 2000000 in
theorem lift_ok(s:LS)(t:LTk)(hG:LfG (erK t))(hsi:s.ids.length<=1048576)(hsf:s.fns.length<=1048576)(hsn:0<=s.next/\s.next<=1099511627776)(hc0:s.c0.ids isO)(ou:Outer)(hO:Owns ou (obL s++obK t))(hn:(keys (obL s++obK t)).Nodup)(hfk:∀f∈(gOf t).elim [] (·.2.1),0 < f.kids.length)(hou0:OuOk ou):
  AFn Tryz.prog Γc 98 [.one (.ptr (.o s.id) 0),.one (.ptr (.o t.id) 0)] ou (LiftQ ou s t):=by
 obtain⟨hOs,hOt⟩:=Owns.app.1 hO
 have hnt:(keys (obK t)).Nodup:=by rw[Q0l]at hn;exact (List.nodup_append.1 hn).2.1
 have hs0:ou s.id=some (lsO s):=hOs (s.id,lsO s) (by simp[obL])
 unfold lsO at hs0
 have hgo:=gOf_er (t:=t)
 refine AFn.walk 145 tabOk Tryz.func98 rfl (by kernel_rfl) rfl rfl fun hou=>?_
 refine zA ?_
 refine AOps.call1 hΓc rfl rfl rfl rfl rfl rfl rfl ⟨trivial,trivial⟩ hou (Qf1 t hG.g ou hOt) fun r ou' hq _ _=>?_
 obtain⟨rfl,hoe⟩:=hq
 subst ou'
 cases hg:gOf t with
 |none=>
  have hR:liftT s.ids s.next (erK t)=none:=by
   unfold liftT
   rw[hgo,hg];rfl
  have hgr:gRes t=.tup [.agg gNil,.one (.lit (.bool false))]:=by unfold gRes;rw[hg]
  rw[hgr]
  refine zA ?_
  refine AFn.fin' rfl (WkF.ofEq rfl) (by simp) hou ?_
  unfold LiftQ
  rw[hR]
  exact⟨rfl,rfl⟩
 |some g=>
  obtain⟨ids,fns,rest⟩:=g
  obtain⟨hks,hfl,hf0⟩:=Qdx hg hG.g
  rw[hg]at hfk hgo
  simp only[Option.elim,Option.map_some]at hfk hgo
  have hgr:gRes t=.tup [.agg (gcO t.id rest.id ids fns),.one (.lit (.bool true))]:=by unfold gRes;rw[hg]
  rw[hgr]
  repeat ((fail_if_success ((with_reducible refine oj ?_);refine AOps.atDst 16 rfl ?_));first|refine zO ?_)
  refine AOps.freeze1 (.l 0) 5 rfl rfl ?_
  refine zM ?_
  have hkm:∀f∈t.kids,TrG (erK f)/\cntN (erK f) < cntN (erK t)/\Q0x (erK f)<=1048576:=fun f hf=>by
   obtain⟨i,tk,o,n,b,ks,a⟩:=t
   have hm:erK f∈(erK (.mk i tk o n b ks a)).kids:=by simp only[erK,Tr.kids_mk];exact Q3s hf
   refine⟨hG.g.kid hm,?_,Int.le_trans (Q6f hm) hG.d⟩
   have:=Q3v hm
   simp only[erK,Tr.kids_mk,cntN]at this ⊢
   omega
  have hob:obK t=(obK t).take 2++(obKs fns++obK rest):=by
   obtain⟨i,tk,o,n,b,ks,a⟩:=t
   simp only[LTk.kids]at hks
   subst hks
   rw[Q0v,Q16]
   simp[obKs]
  have hOt2:=hOt
  have hnt2:=hnt
  rw[hob]at hOt2 hnt2
  rw[Q0l,Q0l]at hnt2
  obtain⟨hOf,hOr⟩:=Owns.app.1 (Owns.app.1 hOt2).2
  have hnf:=(List.nodup_append.1 (List.nodup_append.1 hnt2).2.1).1
  have hnr:=(List.nodup_append.1 (List.nodup_append.1 hnt2).2.1).2.1
  clear hOt2 hnt2
  have hfm:∀f∈fns,f∈t.kids:=fun f hf=>by rw[hks];simp[hf]
  have hrG:=(hkm rest (by rw[hks];simp)).1
  have hfl2:fns.length<=1048576:=by
   have h1:=hG.g.kl
   have h2:(erK t).kids.length=t.kids.length:=by cases t;simp[erK,LTk.kids,Q0w]
   rw[h2,hks]at h1
   simp at h1;omega
  have hfb:∀f∈erKs fns,f.binds.length<=1048576:=fun f hf=>by
   rw[Q2p]at hf
   obtain⟨g,hg2,rfl⟩:=List.mem_map.1 hf
   exact (hkm g (hfm g hg2)).1.bl
  have hfl3:(erKs fns).length=ids.length:=by rw[Q0w];exact hfl
  have hK:=Q9q hΓc (erK t) ids (erKs fns) (erK rest) (by omega) hfl3 hfb (erK rest) hrG
  have hgl:∀{σ:St},σ.ou=ou->LendL σ (gcO t.id rest.id ids fns) (cG (erK t) ids (erKs fns) (erK rest)):=fun h=>LendL.group (by rw[h];exact hOt) hnt (by rw[h];exact hOf) hnf (by rw[h];exact hOr) hnr
  refine AOps.callS hΓc hK (Plain.lit _) rfl rfl rfl rfl rfl rfl (.cons (LendF.agg (hgl rfl)) (.cons (LendF.treeK hOr hnr) .nil)) ?_
  have hR0:liftT s.ids s.next (erK t)=if (knT ids (arL (erKs fns)) (erK rest)&&!((erKs fns).any fun f=>!knT ids (arL (erKs fns)) (kdT f 0)))=false then none else
   if ((!((erKs fns).any fun f=>decide ((f.binds.length:Int)+(Q0z ids s.ids (erKs fns)).length > 6)))&&decide (s.ids.length+ids.length<=16))=false then none else
   some (exT ids (Q0z ids s.ids (erKs fns)) (erK rest),newFs ids (Q0z ids s.ids (erKs fns)) s.next (erKs fns),ids,s.next+fns.length * (Q0z ids s.ids (erKs fns)).length):=by
   unfold liftT
   rw[hgo]
   simp only[Q0w]
  have hno:liftT s.ids s.next (erK t)=none->LiftQ ou s t (.one (.lit (.bool false))) ou:=fun h=>by
   unfold LiftQ
   rw[h]
   exact⟨rfl,rfl⟩
  cases hk1:knT ids (arL (erKs fns)) (erK rest) with
  |false=>
   have hR:=hno (by rw[hR0,hk1];simp)
   refine zM ?_
   exact AFn.fin' rfl (WkF.ofEq rfl) (by simp) hou hR
  |true=>
   have hL1:∀f∈erKs fns,APure Tryz.prog Γc 125 (.one (.box (cTr f))::[AC.box (cG (erK t) ids (erKs fns) (erK rest))].map .one) (.one (.lit (.bool (!knT ids (arL (erKs fns)) (kdT f 0))))):=fun f hf=>by
    rw[Q2p]at hf
    obtain⟨g,hg2,rfl⟩:=List.mem_map.1 hf
    refine Qj5 hΓc (erK t) (erK rest) ids (erKs fns) (by omega) hfl3 hfb (erK g) ?_ (hkm g (hfm g hg2)).1
    have:=hfk g hg2
    cases g;simpa[erK,LTk.kids,Q0w]using this
   have hH:=Q5u hΓc 125 [AC.box (cG (erK t) ids (erKs fns) (erK rest))] (by simp[AC.ids]) (fun f=>!knT ids (arL (erKs fns)) (kdT f 0)) (erKs fns) (by rw[Q0w];omega) hL1
   refine zM ?_
   refine AOps.callS hΓc hH (Plain.lit _) rfl rfl rfl rfl rfl rfl (.cons (LendF.slK hOf hnf) (.cons (LendF.clo (.cons (LendF.box (hgl rfl)) .nil)) .nil)) ?_
   cases hk2:(erKs fns).any fun f=>!knT ids (arL (erKs fns)) (kdT f 0) with
   |true=>
    have hR:=hno (by rw[hR0,hk1,hk2];simp)
    refine zM ?_
    exact AFn.fin' rfl (WkF.ofEq rfl) (by simp) hou hR
   |false=>
    rw[hk1,hk2]at hR0
    simp only[Bool.not_false,Bool.and_self,Bool.true_eq_false,if_false]at hR0
    refine zM ?_
    have hcf:cntNs (erKs fns)<=500000:=by
     have h1:=hG.c
     obtain⟨i,tk,o,n,b,ks,a⟩:=t
     simp only[LTk.kids]at hks
     subst hks
     simp only[erK,cntN,Q1g,Q1l]at h1
     omega
    have hN:=Qiz (erK t) (erK rest) ids (erKs fns) s.ids (fun f hf=>by
     rw[Q2p]at hf
     obtain⟨g,hg2,rfl⟩:=List.mem_map.1 hf
     exact⟨(hkm g (hfm g hg2)).1.ok,(hkm g (hfm g hg2)).2.2⟩) hcf (by omega) hsi
    have hNl:(Q0z ids s.ids (erKs fns)).length<=500000:=by
     unfold Q0z
     rw[List.length_mergeSort]
     have:=Qc0 ids s.ids (erKs fns) []
     simp at this;omega
    obtain⟨ND,hND⟩:∃ND,ND=Q0z ids s.ids (erKs fns):=⟨_,rfl⟩
    rw[←hND]at hR0 hN hNl
    have hFi:=fits_ok (erK t) (erK rest) ids (erKs fns) (ND.map cI).length (by rw[List.length_map];omega) (by rw[Q0w];omega) hfb hΓc
    rw[List.length_map]at hFi
    refine ACode.drawX tabOk 6 [(4,.one (.sl 1 (s.ids.map cI))),(5,.one (.sl 1 (ND.map cI)))] follows (by kernel_rfl) rfl rfl rfl rfl ?_ ?_
    ·refine .step rfl (zHP (AStep.less (zLD rfl rfl hs0 rfl) (.one (.gsE rfl)))) ?_
     exact .step rfl (zHP (AStep.callSA hΓc hN rfl rfl rfl (.cons (LendF.agg (hgl rfl)) (.cons (LendF.refl (by simp)) .nil)))) .nil
    refine zA ?_
    obtain⟨FT,hFT⟩:∃FT,FT=!((erKs fns).any fun f=>decide ((f.binds.length:Int)+ND.length > 6)):=⟨_,rfl⟩
    rw[←hFT]at hR0 hFi
    have hFi2:APure Tryz.prog Γc 127 [.agg (cG (erK t) ids (erKs fns) (erK rest)),.one (int ((ND.map cI).length:Nat))] (.one (.lit (.bool FT))):=by rw[List.length_map];exact hFi
    cases FT with
    |false=>
     have hR:=hno (by rw[hR0];simp)
     refine ACode.drawX tabOk 16 [(3,.one (.lit (.bool false)))] follows (by kernel_rfl) rfl rfl rfl rfl ?_ ?_
     ·exact .step rfl (zHP (AStep.callS hΓc hFi2 (Plain.lit _) rfl rfl rfl (.cons (LendF.agg (hgl rfl)) (.cons (LendF.refl (by simp)) .nil)))) .nil
     refine zM ?_
     exact AFn.fin' rfl (WkF.ofEq rfl) (by simp) hou hR
    |true=>
     refine ACode.drawX tabOk 16 [(3,.one (.lit (.bool true))),(9,.one (.sl 1 (s.ids.map cI))),(14,.one (int (((s.ids.map cI).length:Int)+((ids.map cI).length:Int))))] follows (by kernel_rfl) rfl rfl rfl rfl ?_ ?_
     ·refine .step rfl (zHP (AStep.callS hΓc hFi2 (Plain.lit _) rfl rfl rfl (.cons (LendF.agg (hgl rfl)) (.cons (LendF.refl (by simp)) .nil)))) ?_
      refine .step rfl (HStep.guarded rfl rfl rfl (AStep.less (zLD rfl rfl hs0 rfl) (.one (.gsE rfl)))) ?_
      exact .step rfl (HStep.guarded rfl rfl rfl (AStep.arith rfl rfl rfl (.inl ⟨rfl,rfl⟩) (Q1y (by simp only[List.length_map];omega) (by simp only[List.length_map];omega)))) .nil
     refine zA ?_
     refine ACode.cond rfl (fun hb=>?_) (fun hb=>?_)
     ·have h16:¬s.ids.length+ids.length<=16:=by simp at hb;omega
      have hR:=hno (by rw[hR0];simp[h16])
      refine zA ?_
      exact AFn.fin' rfl (WkF.ofEq rfl) (by simp) hou hR
     have h16:s.ids.length+ids.length<=16:=by simp at hb;omega
     have hND6:ND.length<=6:=by
      have hall:=hFT
      cases hfe:fns with
      |nil=>rw[hfe]at hf0;simp at hf0
      |cons f l=>
       rw[hfe]at hall
       simp only[erKs,List.any_cons]at hall
       cases hd:decide (((erK f).binds.length:Int)+ND.length > 6) with
       |true=>rw[hd]at hall;simp at hall
       |false=>simp at hd;omega
     simp only[Bool.true_and,decide_eq_false_iff_not]at hR0
     rw[if_neg (by simpa using h16)]at hR0
     clear hb hFT hFi hFi2 hN hno hK
     unfold LiftQ
     rw[hR0]
     dsimp only
     refine zA ?_
     have hob2:∀(s':LS) (fs:List LTk) (r:LTk),obL s'++((obK t).take 2++(obKs fs++obK r))=(obL s'++(obK t).take 2++obKs fs)++obK r++[]:=fun s' fs r=>by simp[List.append_assoc]
     have hstart:obL s++obK t=obL s++((obK t).take 2++(obKs fns++obK rest)):=by rw[←hob]
     refine AOps.call1 hΓc rfl rfl rfl rfl rfl rfl rfl ⟨by simp[FV.ids,idsL,AC.ids,isO],trivial,by simp,trivial⟩ hou (Q7t hΓc t.id rest.id ids ND fns (by omega) (by omega) rest hrG ou hOr hnr hou0) fun r ou1 hq _ hou1=>?_
     obtain⟨rfl,rest',her,hrid,hUr⟩:=hq
     have hU0:UpdL ou (obL s++obK t) ou1 (obL s++((obK t).take 2++(obKs fns++obK rest'))):=by
      rw[hstart]at hO hn ⊢
      rw[hob2]at hO hn ⊢
      rw[hob2]
      exact hUr.part hO hn
     refine zA ?_
     refine ACode.loopR hΓc (α:=Nat×LS×List LTk×Outer) (fun c=>[(62,.one (int c.1)),(61,.one (int (kK fns).length)),(60,.one (.sl 1 (kK fns))),(7,.one (.sl 1 (ND.map cI))),(5,.one (.box (gcO t.id rest.id ids fns))),(1,.one (.ptr (.o t.id) 0)),(0,.one (.ptr (.o s.id) 0))])
      (fun c => ⟨1, [], c.2.2.2⟩) (fun m c => (c.1 <= fns.length /\ (c.2.1.id = s.id /\ c.2.1.c0 = s.c0 /\ c.2.1.ids = s.ids ++ ids.take c.1 /\ c.2.1.fns = s.fns ++ c.2.2.1 /\ c.2.1.next = s.next + c.1 * ND.length) /\ c.2.2.1.length = c.1 /\ erKs c.2.2.1 ++ newFs ids ND (s.next + c.1 * ND.length) (erKs (fns.drop c.1)) = newFs ids ND s.next (erKs fns) /\
       UpdL ou (obL s++obK t) c.2.2.2 (obL c.2.1++((obK t).take 2++(obKs (c.2.2.1++fns.drop c.1)++obK rest'))))/\m=fns.length - c.1) (a0:=(0,s,[],ou1)) (ρ:=_root_.id)
      ⟨⟨by omega,⟨rfl,rfl,by simp,by simp,by simp⟩,rfl,by simp[erKs],by simpa using hU0⟩,rfl⟩ (LessR.of rfl zFS (by simp[gcO,inL,idsL,AC.ids]) zLO rfl rfl hou1) fun m c hc=>?_
     obtain⟨q,sq,ds,ov⟩:=c
     obtain⟨⟨hq,⟨hq1,hq2,hq3,hq4,hq5⟩,hdl,hde,hU⟩,rfl⟩:=hc
     dsimp only at hq hq1 hq2 hq3 hq4 hq5 hdl hde hU
     have hov:=hU.ok
     refine zA ?_
     refine ACode.cond rfl (fun hb=>?_) (fun hb=>?_)
     ·have hlt:q < fns.length:=by simp[Q1s]at hb;omega
      obtain⟨f,hf⟩:=Q00 hlt
      have hfm2:=List.mem_of_getElem? hf
      have hfk2:=hfk f hfm2
      have hfG:=(hkm f (hfm f hfm2)).1
      have hfc:=(hkm f (hfm f hfm2)).2.1
      have hsp:fns.drop q=f::fns.drop (q+1):=by
       rw[List.drop_eq_getElem_cons hlt]
       congr 1
       exact Option.some.inj ((List.getElem?_eq_getElem hlt).symm.trans hf)
      obtain⟨x,hx⟩:=Q00 (l:=ids) (i:=q) (by omega)
      rw[hsp]at hU hde
      obtain⟨fi,ftk,fo,fn,fb,fks,fa⟩:=f
      obtain⟨k0,kr,rfl⟩:∃k0 kr,fks=k0::kr:=by
       cases fks with
       |nil=>simp[LTk.kids]at hfk2
       |cons a l=>exact⟨a,l,rfl⟩
      have hpart:∀(s':LS) (g:LTk),obL s'++((obK t).take 2++(obKs (ds++g::fns.drop (q+1))++obK rest'))=(obL s'++((obK t).take 2++obKs ds))++obK g++(obKs (fns.drop (q+1))++obK rest'):=fun s' g=>by simp[Q16,obKs,List.append_assoc]
      have hOF:Owns ov (obK (.mk fi ftk fo fn fb (k0::kr) fa)):=by
       have:=hU.own
       rw[hpart]at this
       exact (Owns.app.1 (Owns.app.1 this).1).2
      have hnF:(keys (obK (.mk fi ftk fo fn fb (k0::kr) fa))).Nodup:=by
       have:=hU.nd
       rw[hpart,Q0l,Q0l]at this
       exact (List.nodup_append.1 (List.nodup_append.1 this).1).2.1
      have hF0:=(ownsK hOF).1
      unfold nK at hF0
      have hOk:=Q8e (ownsK hOF).2.2 (t:=k0) (by simp)
      have hnk:=Q4m (l:=[]) (r:=kr) hnF
      have hk0G:TrG (erK k0):=hfG.kid (by simp[erK,erKs])
      have hgk:(kK (k0::kr))[(0:Int).toNat]?=some [.ptr (.o k0.id) 0]:=rfl
      refine zA ?_
      refine zS (zIA rfl rfl rfl (by omega) (Q8p hf)) ?_
      refine zA ?_
      refine ACode.drawX tabOk 8 [(4,.one (.sl 1 (kK (k0::kr)))),(5,.one (.box [.ptr (.o k0.id) 0]))] follows (by kernel_rfl) rfl rfl rfl rfl ?_ ?_
      ·refine .step rfl (zHP (AStep.less (zLD rfl rfl hF0 rfl) (.one (.gsE rfl)))) ?_
       exact .step rfl (zHP (zIA rfl rfl rfl (by decide) hgk)) .nil
      refine AOps.call1 hΓc rfl rfl rfl rfl rfl rfl rfl ⟨by simp[FV.ids,idsL,AC.ids,isO],trivial,by simp,trivial⟩ hov (Q7t hΓc t.id rest.id ids ND fns (by omega) (by omega) k0 hk0G ov hOk hnk hov) fun r ov1 hqq _ hov1=>?_
      obtain⟨rfl,k1,he1,hid1,hUk⟩:=hqq
      have hUF:=UpdL.kidK (l:=[]) (r:=kr) hUk hid1 hOF hnF
      have hU1:=hU
      rw[hpart]at hU1
      have hU2:=hU1.trans (hUF.part hU1.own hU1.nd)
      rw[←hpart]at hU2
      obtain⟨F1,hF1⟩:∃F1:LTk,F1=.mk fi ftk fo fn fb (k1::kr) fa:=⟨_,rfl⟩
      have hU3:UpdL ou (obL s++obK t) ov1 (obL sq++((obK t).take 2++(obKs (ds++F1::fns.drop (q+1))++obK rest'))):=by rw[hF1];exact hU2
      clear hU1 hU2
      have hs1:ov1 s.id=some (lsO sq):=by rw[←hq1];exact hU3.own (sq.id,lsO sq) (by simp[obL])
      have hprm:∀j,(prmL sq.next (j+1))=prmL sq.next j++[sq.next+j]:=fun j=>by simp[prmL,List.range_succ]
      have hnx:0<=sq.next/\sq.next<=1099511627776+6 * 1048576:=by
       have h1:(q:Int) * ND.length<=1048576 * 6:=Int.mul_le_mul (by omega) (by omega) (by omega) (by omega)
       have h2:(0:Int)<=(q:Int) * ND.length:=Int.mul_nonneg (by omega) (by omega)
       rw[hq5];omega
      have hlsN:∀j:Int,updO ov1 s.id (lsO { sq with next:=sq.next+j }) s.id=some (.cells [sq.c0,.gs 1 (sq.ids.map cI) (.o sq.ti),.gs 1 (kK sq.fns) (.o sq.tf),int (sq.next+j)]):=fun j=>Q06 _ _ _
      have hlsi:∀j:Int,(lsO { sq with next:=sq.next+j }).ids isO:=fun j=>by
       rw[←hq2]at hc0
       simp[lsO,AObj.ids,idsL,AC.ids,isO,hc0]
      have hoj:∀j:Int,OuOk (updO ov1 s.id (lsO { sq with next:=sq.next+j })):=fun j=>Q2d hov1 (hlsi j)
      have hself:ov1=updO ov1 s.id (lsO { sq with next:=sq.next+(0:Nat) }):=by
       funext m
       by_cases e:s.id=m
       ·subst e
        rw[Q06,hs1]
        simp
       ·rw[Q04 _ e]
      refine zA ?_
      refine ACode.growS 10 3 1 rfl ?_
      refine ACode.loopR hΓc (α:=Nat) (fun j=>[(10,.one (.gs 1 ((prmL sq.next j).map cI) (.l 1))),(78,.one (int j)),(77,.one (int (ND.map cI).length)),(9,.one (.ptr (.o fi) 0)),(8,.one (int q)),(62,.one (int q)),(61,.one (int (kK fns).length)),(60,.one (.sl 1 (kK fns))),(7,.one (.sl 1 (ND.map cI))),(5,.one (.box (gcO t.id rest.id ids fns))),(1,.one (.ptr (.o t.id) 0)),(0,.one (.ptr (.o s.id) 0))])
       (fun j=>⟨2,[(1,.tok 3 1 ((prmL sq.next j).map cI).length)],updO ov1 s.id (lsO { sq with next:=sq.next+j })⟩) (fun m j=>j<=ND.length/\m=ND.length - j) (a0:=0) (ρ:=_root_.id) ⟨by omega,rfl⟩
       (LessR.of rfl (FrSub.consGs rfl rfl (by simp) zFS) (by simp[gcO,inL,idsL,AC.ids]) zLO rfl hself.symm hov1) fun m j hj=>?_
      obtain⟨hjl,rfl⟩:=hj
      have hjo:=hoj j
      have hjN:=hlsN j
      have hpj:((prmL sq.next j).map cI).length=j:=by simp[prmL]
      refine zA ?_
      refine ACode.cond rfl (fun hb2=>?_) (fun hb2=>?_)
      ·have hlt2:j < ND.length:=by simpa using hb2
       have hp1:=hprm j
       have hbd:sq.next+j+1<=4611686018427387904:=by omega
       repeat' first|refine zN ?_|((with_reducible refine oj ?_);first|refine zix ?_|refine zow rfl rfl hjN ?_)
       refine AOps.app tabOk rfl rfl rfl rfl rfl rfl rfl rfl rfl (Base.gs' _ 3 1 ((prmL sq.next j).map cI) (.l 1) rfl rfl) (.sl _ _) rfl ?_ ?_ ?_
       ·rw[hpj];show (j+1) * 8<=_;omega
       ·rw[hpj];show j+1<=_;omega
       repeat' first|refine zN ?_|((with_reducible refine oj ?_);first|refine zix ?_|refine zow rfl rfl hjN ?_)
       refine AOps.storeOwn tabOk rfl rfl rfl rfl rfl rfl rfl hjN (by simp) ?_
       have hst2:AObj.cells [sq.c0,.gs 1 (sq.ids.map cI) (.o sq.ti),.gs 1 (kK sq.fns) (.o sq.tf),int (sq.next+j+1)]=lsO { sq with next:=sq.next+(j+1:Nat) }:=by
        simp only[lsO]
        rw[show sq.next+(j:Int)+1=sq.next+((j+1:Nat):Int) by push_cast;omega]
       have hou2:updO (updO ov1 s.id (lsO { sq with next:=sq.next+j })) s.id (.cells [sq.c0,.gs 1 (sq.ids.map cI) (.o sq.ti),.gs 1 (kK sq.fns) (.o sq.tf),int (sq.next+j+1)])=updO ov1 s.id (lsO { sq with next:=sq.next+(j+1:Nat) }):=by rw[Q88,hst2]
       have hpm:(prmL sq.next (j+1)).map cI=(prmL sq.next j).map cI++[[int (sq.next+j)]]:=by rw[hp1,List.map_append];rfl
       refine AOps.stEq ((Q2l _ _ (updO ov1 s.id (lsO { sq with next:=sq.next+j })) s.id _).trans (congrArg (fun o=>St.mk _ _ o) hou2)) ?_
       refine zM ?_
       refine cInv ⟨ND.length - (j+1),j+1,fun q=>if q=1 then 2 else q,by omega,⟨by omega,rfl⟩,?_⟩
       simp only[hpm]
       exact LessR.of rfl (FrSub.consGs rfl rfl (by rw[←hpm];simp) zFS) (by rw[←hpm];simp[gcO,inL,idsL,AC.ids]) zLO rfl rfl (hoj _)
      have hjl2:j=ND.length:=by simp at hb2;omega
      subst hjl2
      obtain⟨sq2,hsq2⟩:∃sq2:LS,sq2={ sq with next:=sq.next+(ND.length:Nat) }:=⟨_,rfl⟩
      obtain⟨ov2,hov2⟩:∃ov2,ov2=updO ov1 s.id (lsO { sq with next:=sq.next+(ND.length:Nat) }):=⟨_,rfl⟩
      have hov2k:=hoj ND.length
      have hU4:UpdL ou (obL s++obK t) ov2 (obL sq2++((obK t).take 2++(obKs (ds++F1::fns.drop (q+1))++obK rest'))):=by
       have h1:=hU3.own
       have h2:=hU3.nd
       have hc:=hlsi ND.length
       refine hU3.trans ?_
       rw[hov2,hsq2,←hq1]
       exact UpdL.node (i:=sq.id) (c:=lsO sq) h1 h2 hov1 hc
      rw[←hov2]at hov2k ⊢
      clear hoj hlsi hlsN hself hjo hjN
      have hpart2:∀(s':LS) (g:LTk),obL s'++((obK t).take 2++(obKs (ds++g::fns.drop (q+1))++obK rest'))=(obL s'++((obK t).take 2++obKs ds))++obK g++(obKs (fns.drop (q+1))++obK rest'):=hpart
      have hOF1:Owns ov2 (obK F1):=by
       have:=hU4.own
       rw[hpart]at this
       exact (Owns.app.1 (Owns.app.1 this).1).2
      have hnF1:(keys (obK F1)).Nodup:=by
       have:=hU4.nd
       rw[hpart,Q0l,Q0l]at this
       exact (List.nodup_append.1 (List.nodup_append.1 this).1).2.1
      rw[hF1]at hOF1 hnF1
      have hF1f:=(ownsK hOF1).1
      unfold nK at hF1f
      have hOk1:=Q8e (ownsK hOF1).2.2 (t:=k1) (by simp)
      have hnk1:=Q4m (l:=[]) (r:=kr) hnF1
      have hk1G:TrG (erK k1):=by
       rw[he1]
       refine exT_G hk0G hND6 ?_
       have h1:=hG.c
       have h2:cntN (erK k0)<=cntN (erK (.mk fi ftk fo fn fb (k0::kr) fa)):=by simp only[erK,erKs,cntN,cntNs];omega
       omega
      have hgk1:(kK (k1::kr))[(0:Int).toNat]?=some [.ptr (.o k1.id) 0]:=rfl
      obtain⟨PR,hPR⟩:∃PR,PR=prmL sq.next ND.length:=⟨_,rfl⟩
      have hPl:PR.length=ND.length:=by rw[hPR];simp[prmL]
      rw[←hPR]
      repeat ((fail_if_success ((with_reducible refine oj ?_);refine AOps.atDst 95 rfl ?_));first|refine zO ?_)
      refine AOps.wk 10 rfl (y:=.one (.sl 1 (PR.map cI))) (.one (.gsE rfl)) ?_
      repeat' first|refine zN ?_|((with_reducible refine oj ?_);first|refine zix ?_|refine zow rfl rfl hF1f ?_)
      refine zS (AStep.indexAddr tabOk rfl rfl rfl rfl rfl rfl (.inr ⟨_,rfl⟩) rfl (by decide) hgk1) ?_
      refine zA ?_
      refine AOps.call1 hΓc rfl rfl rfl rfl rfl rfl rfl ⟨trivial,by simp,by simp,trivial⟩ hov2k (Q8a hΓc ND PR (by omega) hPl k1 hk1G ov2 hOk1 hnk1 hov2k) fun r ov3 hqq _ hov3=>?_
      obtain⟨rfl,k2,he2,hid2,hUk2⟩:=hqq
      have hUF2:=UpdL.kidK (l:=[]) (r:=kr) hUk2 hid2 hOF1 hnF1
      have hF2own:=(ownsK hUF2.own).1
      unfold nK at hF2own
      repeat' first|refine zN ?_|((with_reducible refine oj ?_);first|refine zix ?_|refine zow rfl rfl hF2own ?_)
      have hfbl:fb.length<=1048576:=by have:=hfG.bl;simpa[erK]using this
      refine AOps.call1 hΓc rfl rfl rfl rfl rfl rfl rfl ⟨by simp,trivial⟩ hov3 (Qi8 fb hfbl ov3) fun r ov4 hcq _ hov4=>?_
      obtain⟨cb,cap0,σb,rfl,hBb,hkb⟩:∃c cap0 σ1,r=.one c/\BaseO ⟨2,[(1,.tok 3 1 (PR.map cI).length)],ov4⟩ c 1 (fb.map cI) cap0 σ1/\∀m p,ov3 m=some p->σ1.get (.o m)=some p:=by
       rcases hcq with ⟨hnil,rfl,hoe⟩|⟨ka,cap,rfl,hcap,hNa⟩
       ·subst hoe
        rw[hnil]
        exact⟨_,0,_,rfl,.nil 1,fun m p h=>h⟩
       ·have hka:ov3 ka=none:=hNa.new ka (by simp[keys])
        refine⟨_,cap,_,rfl,.own 1 cap (fb.map cI) (.o ka) (hNa.own (ka,_) (by simp)) (fun z hz=>by obtain⟨y,_,rfl⟩:=List.mem_map.1 hz;rfl) hcap,fun m p h=>?_⟩
        have hne:m≠ka:=fun e=>by rw[e,hka]at h;cases h
        rw[Q2l]
        show updO ov4 ka .dead m=some p
        rw[Q04 _ (Ne.symm hne),hNa.old m (by simp[keys];exact hne)]
        exact h
      refine zA ?_
      refine AOps.appB (s:=1) (es:=fb.map cI) (news:=PR.map cI) ov3 tabOk rfl rfl rfl rfl rfl rfl rfl rfl rfl hBb (fun z hz=>by obtain⟨y,_,rfl⟩:=List.mem_map.1 hz;rfl) rfl ?_ ?_ hkb fun nn=>?_
      ·rw[List.length_map,List.length_map];show (_+_) * 8<=_;omega
      ·rw[List.length_map,List.length_map];omega
      rw[←List.map_append]
      refine zA ?_
      refine AOps.storeOwn tabOk rfl rfl rfl rfl rfl rfl rfl hF2own (by simp) ?_
      rw[Q2l]
      obtain⟨F3,hF3⟩:∃F3:LTk,F3=.mk fi ftk fo fn (fb++PR) (k2::kr) fa:=⟨_,rfl⟩
      have hUF3:UpdL ov2 (obK F1) (updO ov3 fi (nK ftk fo fn (fb++PR) (k2::kr) fa)) (obK F3):=by
       rw[hF1,hF3]
       exact hUF2.trans (UpdL.nodeK (n':=fn) (b':=fb++PR) hUF2.own hUF2.nd hov3)
      have hF3e:erK F3=newF ids ND (s.next+q * ND.length) (erK (.mk fi ftk fo fn fb (k0::kr) fa)):=by
       rw[hF3]
       simp only[erK,erKs,newF,Tr.op_mk,Tr.n_mk,Tr.binds_mk,Tr.kids_mk,Tr.alts_mk,kdT,List.getD_cons_zero,List.drop_succ_cons,List.drop_zero,he2,he1,←hq5,←hPR]
      obtain⟨ov5,hov5⟩:∃ov5,ov5=updO ov3 fi (nK ftk fo fn (fb++PR) (k2::kr) fa):=⟨_,rfl⟩
      have hU5:UpdL ou (obL s++obK t) ov5 (obL sq2++((obK t).take 2++(obKs (ds++F3::fns.drop (q+1))++obK rest'))):=by
       have h1:=hU4
       rw[hpart]at h1
       have h2:=h1.trans (hUF3.part h1.own h1.nd)
       rw[←hpart]at h2
       rw[hov5];exact h2
      refine AOps.stEq (σ':=⟨nn,[],ov5⟩) (by rw[hov5];rfl) ?_
      have hov5k:=hU5.ok
      refine zA ?_
      obtain⟨a2,b2,c2,g2⟩:sq2.id=s.id/\sq2.c0=s.c0/\sq2.ids=sq.ids/\sq2.fns=sq.fns:=by rw[hsq2];exact⟨hq1,hq2,rfl,rfl⟩
      have hs5:ov5 s.id=some (lsO sq2):=by rw[←a2];exact hU5.own (sq2.id,lsO sq2) (by simp[obL])
      have ht5:ov5 sq2.ti=some (.tok 3 1 sq2.ids.length):=hU5.own (sq2.ti,.tok 3 1 sq2.ids.length) (by simp[obL])
      have hf5:ov5 sq2.tf=some (tO sq2.fns.length):=hU5.own (sq2.tf,tO sq2.fns.length) (by simp[obL])
      unfold lsO at hs5
      unfold tO at hf5
      have hsn5:s.id≠sq2.ti/\s.id≠sq2.tf/\sq2.ti≠sq2.tf:=by
       have:=hU5.nd
       rw[Q0l]at this
       have:=(List.nodup_append.1 this).1
       simp only[obL,keys,List.map_cons,List.map_nil,List.nodup_cons,List.mem_cons,List.not_mem_nil,or_false,not_or]at this
       rw[←a2]
       exact⟨this.1.1,this.1.2,this.2.1⟩
      have hgx:(ids.map cI)[(q:Int).toNat]?=some (cI x):=Q0a hx
      refine ACode.lessR (E:={ P:=Tryz.prog,T:=tab,Γ:=Γc,N:=145,ds:=[] }) hΓc (ρ:=_root_.id) (fr':=[(9,.one (.ptr (.o fi) 0)),(8,.one (int q)),(62,.one (int q)),(61,.one (int (kK fns).length)),(60,.one (.sl 1 (kK fns))),(7,.one (.sl 1 (ND.map cI))),(5,.one (.box (gcO t.id rest.id ids fns))),(1,.one (.ptr (.o t.id) 0)),(0,.one (.ptr (.o s.id) 0))]) (σ':=⟨0,[],ov5⟩) (LessR.of rfl zFS (by simp[gcO,inL,idsL,AC.ids]) zLO rfl rfl hov5k) ?_
      have hIx:∀z∈sq2.ids.map cI,z.length=1:=fun z hz=>by obtain⟨y,_,rfl⟩:=List.mem_map.1 hz;rfl
      have hq20:q<=1048576:=by omega
      have hIl:(sq2.ids.map cI).length<=2097152:=by rw[List.length_map,c2,hq3];simp;omega
      have hFl:(kK sq2.fns).length<=2097152:=by rw[Q1s,g2,hq4,List.length_append,hdl];omega
      obtain⟨I',hI'⟩:∃I',I'=sq2.ids.map cI++[cI x]:=⟨_,rfl⟩
      obtain⟨F',hF'⟩:∃F':List (List AC),F'=kK sq2.fns++[[.ptr (.o fi) 0]]:=⟨_,rfl⟩
      have hIm:I'=(sq2.ids++[x]).map cI:=by rw[hI',List.map_append];rfl
      have hFm:F'=kK (sq2.fns++[F3]):=by rw[hF',Q9s,hF3];rfl
      have hθ2:∀(js:List Nat) (k:Nat) (i:Abs.Id),isO i->toOs js k i=i:=fun js k i hi=>by cases i with|l q=>exact hi.elim|o q=>rfl
      have sI:∀js k,subS (toOs js k) I'=I':=fun js k=>by
       have h1:=AC.sub_f (hθ2 js k) (.sl 1 I') (by show idsS isO I';rw[hIm];exact Q54 isO _)
       simpa only [AC.sub,AC.sl.injEq,true_and]using h1
      have sF:∀js k,subS (toOs js k) F'=F':=fun js k=>by
       have h1:=AC.sub_f (hθ2 js k) (.sl 1 F') (by show idsS isO F';rw[hFm];exact Q9v _)
       simpa only [AC.sub,AC.sl.injEq,true_and]using h1
      obtain⟨oA,hoA⟩:∃oA:Nat->Outer,oA=fun k=>ouAdd (updO ov5 sq2.ti .dead) k [.tok 3 1 I'.length]:=⟨_,rfl⟩
      obtain⟨oB,hoB⟩:∃oB:Nat->Nat->Outer,oB=fun k k2=>ouAdd (updO (oA k) sq2.tf .dead) k2 [.tok 68 1 F'.length]:=⟨_,rfl⟩
      have hGA:∀k,(∀m,k<=m->updO ov5 sq2.ti .dead m=none)->OuOk (oA k)/\oA k s.id=ov5 s.id/\oA k sq2.tf=ov5 sq2.tf:=fun k hk=>by
       have e1:updO ov5 sq2.ti .dead s.id=ov5 s.id:=Q04 _ (Ne.symm hsn5.1) _
       have e2:updO ov5 sq2.ti .dead sq2.tf=ov5 sq2.tf:=Q04 _ hsn5.2.2 _
       rw[hoA]
       refine⟨Q2f (Q2d hov5k trivial) fun o ho=>?_,?_,?_⟩
       ·simp only[List.mem_cons,List.not_mem_nil,or_false]at ho
        subst ho;trivial
       ·exact (Q0f (Q1d hk (e1.trans hs5))).trans e1
       ·exact (Q0f (Q1d hk (e2.trans hf5))).trans e2
      have hGB:∀k k2,(∀m,k<=m->updO ov5 sq2.ti .dead m=none)->(∀m,k2<=m->updO (oA k) sq2.tf .dead m=none)->OuOk (oB k k2)/\oB k k2 s.id=ov5 s.id:=fun k k2 hk hk2=>by
       obtain⟨h1,h2,h3⟩:=hGA k hk
       have e1:updO (oA k) sq2.tf .dead s.id=ov5 s.id:=(Q04 _ (Ne.symm hsn5.2.1) _).trans h2
       rw[hoB]
       refine⟨Q2f (Q2d h1 trivial) fun o ho=>?_,(Q0f (Q1d hk2 (e1.trans hs5))).trans e1⟩
       simp only[List.mem_cons,List.not_mem_nil,or_false]at ho
       subst ho;trivial
      obtain⟨oC,hoC⟩:∃oC:Nat->Nat->Outer,oC=fun k k2=>updO (oB k k2) s.id (.cells [sq2.c0,.gs 1 I' (.o k),.gs 1 (kK sq2.fns) (.o sq2.tf),int sq2.next]):=⟨_,rfl⟩
      refine ACode.drawC2 tabOk 23 [5,12,19,20,21,22] [(9,.one (.box (cI x))),(16,.one (.gs 1 (kK sq2.fns) (.o sq2.tf)))] (fun vs σ=>match vs with
        |[]=>σ=⟨0,[],ov5⟩
        |[p]=>p=.one (.gs 1 (sq2.ids.map cI) (.o sq2.ti))/\σ=⟨0,[],ov5⟩
        |[p,a]=>p=.one (.gs 1 (sq2.ids.map cI) (.o sq2.ti))/\∃k,(∀m,k<=m->updO ov5 sq2.ti .dead m=none)/\a=.one (.gs 1 I' (.o k))/\σ=⟨1,[],oA k⟩
        |[p,a,b]=>p=.one (.gs 1 (sq2.ids.map cI) (.o sq2.ti))/\∃k k2,(∀m,k<=m->updO ov5 sq2.ti .dead m=none)/\(∀m,k2<=m->updO (oA k) sq2.tf .dead m=none)/\a=.one (.gs 1 I' (.o k))/\b=.one (.gs 1 F' (.o k2))/\σ=⟨2,[],oB k k2⟩
        |[p,a,b,c]=>p=.one (.gs 1 (sq2.ids.map cI) (.o sq2.ti))/\c=.one (.ptr (.o s.id) 0)/\∃k k2,(∀m,k<=m->updO ov5 sq2.ti .dead m=none)/\(∀m,k2<=m->updO (oA k) sq2.tf .dead m=none)/\a=.one (.gs 1 I' (.o k))/\b=.one (.gs 1 F' (.o k2))/\σ=⟨2,[],oB k k2⟩
        |[p,a,b,c,d]=>p=.one (.gs 1 (sq2.ids.map cI) (.o sq2.ti))/\c=.one (.ptr (.o s.id) 0)/\d=.one (.ptr (.o s.id) 1)/\∃k k2,(∀m,k<=m->updO ov5 sq2.ti .dead m=none)/\(∀m,k2<=m->updO (oA k) sq2.tf .dead m=none)/\a=.one (.gs 1 I' (.o k))/\b=.one (.gs 1 F' (.o k2))/\σ=⟨2,[],oB k k2⟩
        |[p,a,b,c,d,e]=>p=.one (.gs 1 (sq2.ids.map cI) (.o sq2.ti))/\c=.one (.ptr (.o s.id) 0)/\d=.one (.ptr (.o s.id) 1)/\e=.bot/\∃k k2,(∀m,k<=m->updO ov5 sq2.ti .dead m=none)/\(∀m,k2<=m->updO (oA k) sq2.tf .dead m=none)/\a=.one (.gs 1 I' (.o k))/\b=.one (.gs 1 F' (.o k2))/\σ=⟨2,[],oC k k2⟩
        |_=>False) follows (by kernel_rfl) rfl rfl (by decide) (by kernel_rfl) (by kernel_rfl) rfl rfl ?_ ?_ (by decide) ?_ ?_
      ·rintro vs σ hG2
       match vs,hG2 with
       |[],hG2=>subst hG2;rfl
       |[_],hG2=>obtain⟨_,rfl⟩:=hG2;rfl
       |[_,_],hG2=>obtain⟨_,_,_,_,rfl⟩:=hG2;rfl
       |[_,_,_],hG2=>obtain⟨_,_,_,_,_,_,_,rfl⟩:=hG2;rfl
       |[_,_,_,_],hG2=>obtain⟨_,_,_,_,_,_,_,_,rfl⟩:=hG2;rfl
       |[_,_,_,_,_],hG2=>obtain⟨_,_,_,_,_,_,_,_,_,rfl⟩:=hG2;rfl
       |[_,_,_,_,_,_],hG2=>obtain⟨_,_,_,_,_,_,_,_,_,_,rfl⟩:=hG2;rfl
      ·have key:∀(nn:Nat) (oo:Outer) (c1:AC),oo s.id=some (.cells [sq2.c0,c1,.gs 1 (kK sq2.fns) (.o sq2.tf),int sq2.next])->St.get ⟨nn,[],oo⟩ (.o s.id)=some (.cells [sq2.c0,c1,.gs 1 (kK sq2.fns) (.o sq2.tf),int sq2.next]):=fun _ _ _ h=>h
       rintro vs σ hG2
       obtain⟨nn,oo,c1,rfl,hoo⟩:∃nn oo c1,σ=⟨nn,[],oo⟩/\oo s.id=some (.cells [sq2.c0,c1,.gs 1 (kK sq2.fns) (.o sq2.tf),int sq2.next]):=by
        match vs,hG2 with
        |[],hG2=>exact⟨_,_,_,hG2,hs5⟩
        |[_],hG2=>exact⟨_,_,_,hG2.2,hs5⟩
        |[_,_],hG2=>obtain⟨_,k,hk,_,h⟩:=hG2;exact⟨_,_,_,h,(hGA k hk).2.1.trans hs5⟩
        |[_,_,_],hG2=>obtain⟨_,k,k2,hk,hk2,_,_,h⟩:=hG2;exact⟨_,_,_,h,(hGB k k2 hk hk2).2.trans hs5⟩
        |[_,_,_,_],hG2=>obtain⟨_,_,k,k2,hk,hk2,_,_,h⟩:=hG2;exact⟨_,_,_,h,(hGB k k2 hk hk2).2.trans hs5⟩
        |[_,_,_,_,_],hG2=>obtain⟨_,_,_,k,k2,hk,hk2,_,_,h⟩:=hG2;exact⟨_,_,_,h,(hGB k k2 hk hk2).2.trans hs5⟩
        |[_,_,_,_,_,_],hG2=>obtain⟨_,_,_,_,k,k2,hk,hk2,_,_,h⟩:=hG2;exact⟨_,_,_,h,by rw[hoC];exact Q06 _ _ _⟩
       refine .step rfl (zHP (zIA rfl rfl rfl (by omega) hgx)) ?_
       exact .step rfl (zHP (zLD rfl rfl (key nn oo c1 hoo) rfl)) .nil
      ·rintro vs σ hG2 j o hj ho
       match vs,hG2 with
       |[],hG2=>
        subst hG2
        cases hj
        cases ho
        exact⟨rfl,.inl (.inl ⟨_,_,HStep.plain rfl (zLD rfl rfl hs5 rfl),rfl,rfl⟩)⟩
       |[p],hG2=>
        obtain⟨rfl,rfl⟩:=hG2
        cases hj
        cases ho
        refine⟨rfl,.inl (.inr ⟨rfl,Q2k.cede [0] (σ1:=⟨1,[(0,.tok 3 1 I'.length)],updO ov5 sq2.ti .dead⟩) (v0:=.one (.gs 1 I' (.l 0))) ?_ (by simp) (by simp) (Q2d hov5k trivial) fun k hk=>⟨[],[.tok 3 1 I'.length],.nil,.cons rfl rfl .nil,rfl,k,hk,?_,by rw[hoA]⟩⟩)⟩
        ·rw[hI']
         refine AStep.toEq (AStep.append (s:=1) (es:=sq2.ids.map cI) (news:=[cI x]) (ti:=ti28) (σ:=⟨0,[],ov5⟩) tabOk rfl rfl rfl rfl rfl rfl (Base.gs' _ 3 1 (sq2.ids.map cI) (.o sq2.ti) ht5 (by rw[List.length_map])) (.sl _ _) rfl ?_ ?_) (congrArg (fun s=>St.push s (.tok 3 1 (sq2.ids.map cI++[cI x]).length)) (Q2l 0 [] ov5 sq2.ti .dead))
         ·show (_+1) * 8<=_;omega
         ·show _+1<=_;omega
        ·show FV.one (AC.gs 1 (subS (toOs [0] k) I') (.o (k+0)))=_
         rw[sI];rfl
       |[p,a],hG2=>
        obtain⟨rfl,k,hk,rfl,rfl⟩:=hG2
        obtain⟨g1,g2',g3⟩:=hGA k hk
        cases hj
        cases ho
        refine⟨rfl,.inl (.inr ⟨rfl,Q2k.cede [1] (σ1:=⟨2,[(1,.tok 68 1 F'.length)],updO (oA k) sq2.tf .dead⟩) (v0:=.one (.gs 1 F' (.l 1))) ?_ (by simp) (by simp) (Q2d g1 trivial) fun k2 hk2=>⟨[],[.tok 68 1 F'.length],.nil,.cons rfl rfl .nil,rfl,k,k2,hk,hk2,rfl,?_,by rw[hoB]⟩⟩)⟩
        ·rw[hF']
         refine AStep.toEq (AStep.append (s:=1) (es:=kK sq2.fns) (news:=[[.ptr (.o fi) 0]]) (ti:=ti72) (σ:=⟨1,[],oA k⟩) tabOk rfl rfl rfl rfl rfl rfl (Base.gs' _ 68 1 (kK sq2.fns) (.o sq2.tf) (g3.trans hf5) (by rw[Q1s])) (.sl _ _) rfl ?_ ?_) (congrArg (fun s=>St.push s (.tok 68 1 (kK sq2.fns++[[AC.ptr (.o fi) 0]]).length)) (Q2l 1 [] (oA k) sq2.tf .dead))
         ·show (_+1) * 8<=_;omega
         ·show _+1<=_;omega
        ·show FV.one (AC.gs 1 (subS (toOs [1] k2) F') (.o (k2+0)))=_
         rw[sF];rfl
       |[p,a,b],hG2=>
        obtain⟨rfl,k,k2,hk,hk2,rfl,rfl,rfl⟩:=hG2
        cases hj
        cases ho
        exact⟨rfl,.inl (.inl ⟨_,_,HStep.auto tabOk rfl,rfl,rfl,k,k2,hk,hk2,rfl,rfl,rfl⟩)⟩
       |[p,a,b,c],hG2=>
        obtain⟨rfl,rfl,k,k2,hk,hk2,rfl,rfl,rfl⟩:=hG2
        cases hj
        cases ho
        exact⟨rfl,.inl (.inl ⟨_,_,HStep.auto tabOk rfl,rfl,rfl,rfl,k,k2,hk,hk2,rfl,rfl,rfl⟩)⟩
       |[p,a,b,c,d],hG2=>
        obtain⟨rfl,rfl,rfl,k,k2,hk,hk2,rfl,rfl,rfl⟩:=hG2
        obtain⟨g1,g2'⟩:=hGB k k2 hk hk2
        cases hj
        cases ho
        refine⟨rfl,.inl (.inl ⟨_,_,HStep.plain rfl (AStep.toEq (AStep.ofStore tabOk (AStep.storeOwn tabOk rfl rfl rfl rfl rfl (show St.get ⟨2,[],oB k k2⟩ (.o s.id)=some (.cells [sq2.c0,.gs 1 (sq2.ids.map cI) (.o sq2.ti),.gs 1 (kK sq2.fns) (.o sq2.tf),int sq2.next])from g2'.trans hs5) (by simp))) ((Q2l _ _ (oB k k2) s.id _).trans (by rw[hoC];rfl))),rfl,rfl,rfl,rfl,k,k2,hk,hk2,rfl,rfl,rfl⟩)⟩
       |[p,a,b,c,d,e],hG2=>cases hj
      ·rintro vs σ hlen hG2
       match vs,hlen,hG2 with
       |[p,a,b,c,d,e],_,hG2=>
        obtain⟨rfl,rfl,rfl,rfl,k,k2,hk,hk2,rfl,rfl,rfl⟩:=hG2
        have hC0:oC k k2 s.id=some (.cells [sq2.c0,.gs 1 I' (.o k),.gs 1 (kK sq2.fns) (.o sq2.tf),int sq2.next]):=by rw[hoC];exact Q06 _ _ _
        refine zA ?_
        refine AOps.storeOwn tabOk rfl rfl rfl rfl rfl rfl rfl (show St.get ⟨2,[],oC k k2⟩ (.o s.id)=some (.cells [sq2.c0,.gs 1 I' (.o k),.gs 1 (kK sq2.fns) (.o sq2.tf),int sq2.next])from hC0) (by simp) ?_
        obtain⟨s3,hs3⟩:∃s3:LS,s3=⟨sq2.id,k,k2,sq2.c0,sq2.ids++[x],sq2.fns++[F3],sq2.next⟩:=⟨_,rfl⟩
        obtain⟨ov6,hov6⟩:∃ov6,ov6=updO (oB k k2) s.id (lsO s3):=⟨_,rfl⟩
        have hst3:updO (oC k k2) s.id (.cells [sq2.c0,.gs 1 I' (.o k),.gs 1 F' (.o k2),int sq2.next])=ov6:=by
         rw[hov6,hoC]
         show updO (updO (oB k k2) s.id _) s.id _=_
         rw[Q88,hs3,hIm,hFm]
         rfl
        refine AOps.stEq (σ':=⟨2,[],ov6⟩) ((Q2l 2 [] (oC k k2) s.id _).trans (congrArg (fun o=>St.mk 2 [] o) hst3)) ?_
        have hU6:UpdL ou (obL s++obK t) ov6 (obL s3++((obK t).take 2++(obKs (ds++F3::fns.drop (q+1))++obK rest'))):=by
         refine hU5.trans ?_
         have h1:=hU5.own
         have h2:=hU5.nd
         have hc3:(lsO s3).ids isO:=by
          rw[hs3]
          simp only[lsO,AObj.ids,idsL,AC.ids,isO,true_and,and_true]
          refine⟨by rw[b2];exact hc0,Q54 isO _,Q9v _⟩
         have hlI:I'.length=s3.ids.length:=by rw[hIm,hs3];simp
         have hlF:F'.length=s3.fns.length:=by rw[hFm,hs3,Q1s]
         have h3:=UpdL.toks (i:=sq2.id) (c:=lsO sq2) (c':=lsO s3) (τ':=.tok 3 1 I'.length) (φ':=.tok 68 1 F'.length) h1 h2 hov5k hk (by rw[hoA]at hk2;exact hk2) hc3 trivial trivial
         rw[hov6,hoB,hoA,←a2]
         rw[hlI,hlF]at h3 ⊢
         have e3:s3.id=sq2.id/\s3.ti=k/\s3.tf=k2:=by rw[hs3];exact⟨rfl,rfl,rfl⟩
         have:obL s3=[(sq2.id,lsO s3),(k,.tok 3 1 s3.ids.length),(k2,tO s3.fns.length)]:=by rw[obL,e3.1,e3.2.1,e3.2.2]
         rw[this]
         exact h3
        refine zM ?_
        refine cInv ⟨fns.length - (q+1),(q+1,s3,ds++[F3],ov6),_root_.id,by dsimp only;omega,⟨⟨by dsimp only;omega,⟨?_,?_,?_,?_,?_⟩,by simp[hdl],?_,?_⟩,rfl⟩,LessR.of rfl zFS (by simp[gcO,inL,idsL,AC.ids]) zLO rfl rfl hU6.ok⟩
        ·rw[hs3];exact a2
        ·rw[hs3];exact b2
        ·rw[hs3]
         show sq2.ids++[x]=_
         rw[c2,hq3,Q0n hx,List.append_assoc]
        ·rw[hs3]
         show sq2.fns++[F3]=_
         rw[g2,hq4,List.append_assoc]
        ·rw[hs3]
         show sq2.next=_
         rw[hsq2]
         show sq.next+((ND.length:Nat):Int)=s.next+((q+1:Nat):Int) * ND.length
         rw[hq5,show (((q+1:Nat):Int))=q+1 from by push_cast;rfl,Int.add_mul,Int.one_mul,Int.add_assoc]
        ·rw[←hde,Q1g]
         simp only[erKs,newFs,hF3e,List.append_assoc,List.cons_append,List.nil_append]
         rw[show s.next+((q+1:Nat):Int) * ND.length=s.next+q * ND.length+ND.length from by rw[show (((q+1:Nat):Int))=q+1 from by push_cast;rfl,Int.add_mul,Int.one_mul,Int.add_assoc]]
        ·simp only[List.append_assoc,List.cons_append,List.nil_append]
         exact hU6
     ·have hqe:q=fns.length:=by simp[Q1s]at hb;omega
      subst hqe
      rw[List.drop_length,List.append_nil]at hU
      rw[List.drop_length]at hde
      simp only[erKs,newFs,List.append_nil]at hde
      rw[hfl,List.take_length]at hq3
      have hOr':Owns ov (obK rest'):=by
       have:=hU.own
       exact (Owns.app.1 (Owns.app.1 (Owns.app.1 this).2).2).2
      obtain⟨ri,rtk,ro,rn,rb,rks,ra⟩:=rest'
      have hr0:=(ownsK hOr').1
      unfold nK at hr0
      have hrid2:ri=rest.id:=hrid
      subst ri
      refine zA ?_
      obtain⟨i,tk,o,n,b,ks,a⟩:=t
      have htk:(obK (.mk i tk o n b ks a)).take 2=[(i,nK tk o n b ks a),(tk,tO ks.length)]:=by simp[obK]
      rw[htk]at hU
      have hti:ov i=some (nK tk o n b ks a):=hU.own (i,nK tk o n b ks a) (by simp)
      unfold nK at hti
      refine zS (AStep.loadOwnA tabOk rfl rfl rfl rfl rfl hr0) ?_
      refine zA ?_
      refine AOps.storeOwnA (cs:=[int o,int n,.sl 1 (b.map cI),.gs 1 (kK ks) (.o tk),.sl 2 (a.map cAlt)]) (vs:=[int ro,int rn,.sl 1 (rb.map cI),.gs 1 (kK rks) (.o rtk),.sl 2 (ra.map cAlt)]) tabOk rfl rfl rfl rfl rfl rfl rfl rfl (show St.get ⟨1,[],ov⟩ (.o i)=some (.cells [int o,int n,.sl 1 (b.map cI),.gs 1 (kK ks) (.o tk),.sl 2 (a.map cAlt)])from hti) ?_
      rw[Q2l]
      have hU7:UpdL ou (obL s++obK (.mk i tk o n b ks a)) (updO ov i (nK rtk ro rn rb rks ra)) (obL sq++(obK (.mk i rtk ro rn rb rks ra)++obKs ds)):=by
       have hnd:=hU.nd
       have h1:UpdL ou (obL s++obK (.mk i tk o n b ks a)) ov ((i,nK tk o n b ks a)::(obL sq++((tk,tO ks.length)::(obKs ds++obK (.mk rest.id rtk ro rn rb rks ra))))):=by
        refine hU.sub (fun p hp=>?_) ?_
        ·simp only[List.mem_cons,List.mem_append,List.not_mem_nil,or_false]at hp ⊢
         rcases hp with hp|hp|hp|hp
         ·exact .inr (.inl (.inl hp))
         ·exact .inl hp
         ·exact .inr (.inl (.inr hp))
         ·exact .inr (.inr hp)
        ·simp only[keys,List.map_cons,List.map_append,List.map_nil]at hnd ⊢
         exact Qix hnd
       have h2:=h1.trans (UpdL.node (c':=nK rtk ro rn rb rks ra) h1.own h1.nd hov (Qb3 _ _ _ _ _ _))
       refine h2.sub (fun p hp=>?_) ?_
       ·rw[Q0v]at hp ⊢
        simp only[List.mem_cons,List.mem_append]at hp ⊢
        rcases hp with hp|(hp|hp|hp)|hp
        ·exact .inr (.inl hp)
        ·exact .inl hp
        ·exact .inr (.inr (.inr (.inr (.inr (.inl hp)))))
        ·exact .inr (.inr (.inr (.inr (.inr (.inr hp)))))
        ·exact .inr (.inr (.inr (.inl hp)))
       ·rw[Q0v]at hnd ⊢
        simp only[keys,List.map_cons,List.map_append,List.map_nil]at hnd ⊢
        exact Qiw hnd
      refine zA ?_
      refine AFn.fin' rfl (WkF.ofEq rfl) (by simp) hU7.ok ⟨rfl,.mk i rtk ro rn rb rks ra,ds,sq,?_,rfl,hde,hq1,hq2,hq3,hq4,?_,hU7⟩
      ·rw[←her];rfl
      ·rw[hq5]
mutual
def fiT (top:List Int)(next:Int):Tr->Option (Tr×List Tr×List Int×Int)
 |.mk o n b k a=>match liftT top next (.mk o n b k a) with
  |some r=>some r
  |none=>(fiTs top next k).map fun r=>(.mk o n b r.1 a,r.2)
def fiTs (top:List Int)(next:Int):List Tr->Option (List Tr×List Tr×List Int×Int)
 |[]=>none
 |t::l=>match fiT top next t with
  |some r=>some (r.1::l,r.2)
  |none=>(fiTs top next l).map fun r=>(t::r.1,r.2)
end
theorem Qe2{top:List Int}{next:Int}{u:Tr}{X:Tr×List Tr×List Int×Int}{r:List Tr}(hu:fiT top next u=some X):∀{l:List Tr},fiTs top next l=none->fiTs top next (l++u::r)=some (l++X.1::r,X.2)
 |[],_=>by simp[fiTs,hu]
 |v::l,h=>by
  have h0:fiT top next v=none:=by
   cases hv:fiT top next v with
   |none=>rfl
   |some w=>simp[fiTs,hv]at h
  have h1:fiTs top next l=none:=by
   simp only[fiTs,h0]at h
   cases hl:fiTs top next l with
   |none=>rfl
   |some w=>rw[hl]at h;cases h
  simp only[List.cons_append,fiTs,h0,Qe2 hu h1,Option.map_some]
theorem Qbc{top:List Int}{next:Int}{u:Tr}(hu:fiT top next u=none):∀{l:List Tr},fiTs top next l=none->fiTs top next (l++[u])=none
 |[],_=>by simp[fiTs,hu]
 |v::l,h=>by
  have h0:fiT top next v=none:=by
   cases hv:fiT top next v with
   |none=>rfl
   |some w=>simp[fiTs,hv]at h
  have h1:fiTs top next l=none:=by
   simp only[fiTs,h0]at h
   cases hl:fiTs top next l with
   |none=>rfl
   |some w=>rw[hl]at h;cases h
  simp only[List.cons_append,fiTs,h0,Qbc hu h1,Option.map_none]
theorem LfG.kid{t s:Tr}(h:LfG t)(hs:s∈t.kids):LfG s:=by
 refine⟨h.g.kid hs,Int.le_trans (Q6f hs) h.d,?_,Qa7 h.l hs⟩
 obtain⟨o,n,b,k,a⟩:=t
 have:=Q3v hs
 have:=h.c
 simp only[cntN,Tr.kids_mk]at *
 omega
theorem Qgl{f:LTk}(h:TrG (erK f))(h2:f.op=2):0 < f.kids.length:=by
 obtain⟨i,tk,o,n,b,ks,a⟩:=f
 have hsn:=Q24 h.sh
 simp only[erK,Tr.op_mk,Tr.n_mk,Tr.binds_mk,Tr.kids_mk,Tr.alts_mk,Q0w]at hsn
 have h2':o=2:=h2
 subst h2'
 have:=hsn.lam.1
 show 0 < ks.length
 omega
theorem gOf_fk{t:LTk}(h:LfG (erK t)):∀f∈(gOf t).elim [] (·.2.1),0 < f.kids.length:=by
 intro f hf
 cases hg:gOf t with
 |none=>rw[hg]at hf;simp at hf
 |some g=>
  obtain⟨ids,fns,rest⟩:=g
  obtain⟨hks,hfl,_⟩:=Qdx hg h.g
  rw[hg]at hf
  simp only[Option.elim]at hf
  have hfk:f∈t.kids:=by rw[hks];simp[hf]
  have hfG:TrG (erK f):=by
   refine h.g.kid ?_
   cases t
   simp only[erK,Tr.kids_mk]
   exact Q3s hfk
  refine Qgl hfG ?_
  obtain⟨i,tk,o,n,b,ks,a⟩:=t
  simp only[gOf]at hg
  split at hg
  ·rename_i h5
   cases hg
   subst h5
   have hl:=h.l.1 rfl
   simp only[List.map_map]at hl
   obtain⟨j,hj⟩:=List.mem_iff_getElem?.1 hf
   rw[List.getElem?_take]at hj
   split at hj
   ·rename_i hjl
    have h1:=congrArg (fun l=>l[j]?) hl
    simp only[List.getElem?_take_of_lt hjl,List.getElem?_map,List.getElem?_replicate,if_pos hjl,Q2p,hj,Option.map_some,Option.some.injEq]at h1
    have:(erK f).op=f.op:=by cases f;rfl
    rw[←this];exact h1
   ·cases hj
  ·split at hg
   ·rename_i h4
    cases hg
    simp only[List.mem_take_iff_getElem]at hf
    obtain⟨j,hj,rfl⟩:=hf
    have hj0:j=0:=by omega
    subst hj0
    have:=h4.2
    rw[List.getD_eq_getElem?_getD,List.getElem?_eq_getElem (by omega)]at this
    exact this
   ·cases hg
theorem nd_le{l l':List Nat}(h:l.Nodup)(hc:∀x,l'.count x<=l.count x):l'.Nodup:=by
 rw[List.nodup_iff_count]at h ⊢
 exact fun x=>Nat.le_trans (hc x) (h x)
theorem UpdL.inp{ou ou':Outer}{L L0 L':List (Nat×AObj)}(h:UpdL ou L ou' L')(hk:∀k,k∈keys L->k∈keys L0):UpdL ou L0 ou' L':=
 ⟨h.own,h.nd,fun k hk'=>(h.new k hk').imp (hk k) id,fun k hk' hn=>h.old k (fun hm=>hk' (hk k hm)) hn,h.ok⟩
theorem UpdL.more{ou ou':Outer}{L L' M:List (Nat×AObj)}(h:UpdL ou L ou' L')(ho:Owns ou (M++L))(hn:(keys (M++L)).Nodup):UpdL ou (M++L) ou' (M++L'):=by
 have:=UpdL.part (A:=M) (C:=[]) h (by simpa using ho) (by simpa using hn)
 simpa using this
def GenQ (res:Option (Tr×List Tr×List Int×Int))(ou:Outer)(s:LS)(t:LTk)(r:FV)(ou':Outer):Prop:=match res with
 |none=>r=.one (.lit (.bool false))/\ou'=ou
 |some (rest,nf,gids,next)=>r=.one (.lit (.bool true))/\∃(t':LTk) (fs:List LTk) (s':LS),erK t'=rest/\t'.id=t.id/\erKs fs=nf/\s'.id=s.id/\s'.c0=s.c0/\s'.ids=s.ids++gids/\s'.fns=s.fns++fs/\s'.next=next/\UpdL ou (obL s++obK t) ou' (obL s'++(obK t'++obKs fs))
def IdxQ (res:Option (List Tr×List Tr×List Int×Int))(ou:Outer)(s:LS)(ks:List LTk)(r:FV)(ou':Outer):Prop:=match res with
 |none=>r=.one (int (-1))/\ou'=ou
 |some (kt,nf,gids,next)=>∃(j:Nat) (ks' fs:List LTk) (s':LS),r=.one (int j)/\erKs ks'=kt/\ks'.map LTk.id=ks.map LTk.id/\erKs fs=nf/\s'.id=s.id/\s'.c0=s.c0/\s'.ids=s.ids++gids/\s'.fns=s.fns++fs/\s'.next=next/\UpdL ou (obL s++obKs ks) ou' (obL s'++(obKs ks'++obKs fs))
theorem idxL_ok(s:LS)(ks:List LTk)(hkl:ks.length<=1048576)(ou:Outer)(hO:Owns ou (obL s++obKs ks))(hn:(keys (obL s++obKs ks)).Nodup)
  (hf:∀t∈ks,Owns ou (obL s++obK t)->(keys (obL s++obK t)).Nodup->AFn Tryz.prog Γc 75 [.one (.ptr (.o s.id) 0),.one (.ptr (.o t.id) 0)] ou (GenQ (fiT s.ids s.next (erK t)) ou s t)):
  AFn Tryz.prog Γc 130 [.one (.sl 1 (kK ks)),.one (.fn (.func 75) [.ptr (.o s.id) 0] [])] ou (IdxQ (fiTs s.ids s.next (erKs ks)) ou s ks):=by
 refine AFn.walk 19 tabOk Tryz.func130 rfl (by kernel_rfl) rfl rfl fun hou=>?_
 refine zA ?_
 refine ACode.loopR hΓc (α:=Nat) (fun j=>[(8,.one (int j)),(7,.one (int (kK ks).length)),(1,.one (.fn (.func 75) [.ptr (.o s.id) 0] [])),(0,.one (.sl 1 (kK ks)))])
  (fun j => ⟨0, [], ou⟩) (fun m j => j <= ks.length /\ fiTs s.ids s.next (erKs (ks.take j)) = none /\ m = ks.length - j) (a0 := 0) (ρ := id) ⟨by omega, by simp [erKs, fiTs], rfl⟩ (LessR.of rfl zFS (by simp [idsL, AC.ids, inL]) zLO rfl rfl hou) fun m j hj => ?_
 obtain⟨hjl,hno,rfl⟩:=hj
 refine zA ?_
 refine ACode.cond rfl (fun hb2=>?_) (fun hb2=>?_)
 ·have hlt:j < ks.length:=by simp[Q1s]at hb2;omega
  obtain⟨t,ht⟩:=Q00 hlt
  have htm:=List.mem_of_getElem? ht
  have hsp:ks=ks.take j++t::ks.drop (j+1):=by
   conv=>lhs;rw[←List.take_append_drop j ks]
   congr 1
   rw[List.drop_eq_getElem_cons hlt]
   congr 1
   exact Option.some.inj ((List.getElem?_eq_getElem hlt).symm.trans ht)
  have hob:obKs ks=obKs (ks.take j)++(obK t++obKs (ks.drop (j+1))):=by conv=>lhs;rw[hsp];simp[Q16,obKs]
  have hOt:Owns ou (obL s++obK t):=by
   rw[hob]at hO
   exact fun p hp=>hO p (by simp only[List.mem_append]at hp ⊢;rcases hp with hp|hp <;> simp[hp])
  have hnt:(keys (obL s++obK t)).Nodup:=nd_le hn fun x=>by
   rw[hob]
   simp only[keys,List.map_append,List.count_append];omega
  refine zA ?_
  refine zS (zIA rfl rfl rfl (by omega) (Q8p ht)) ?_
  refine zA ?_
  refine AOps.call1 hΓc rfl rfl rfl rfl rfl rfl rfl ⟨trivial,trivial,trivial⟩ hou (hf t htm hOt hnt) fun r ou' hq _ how=>?_
  cases hft:fiT s.ids s.next (erK t) with
  |none=>
   rw[hft]at hq
   obtain⟨rfl,hoe⟩:=hq
   subst ou'
   refine zM ?_
   refine cInv ⟨ks.length - (j+1),j+1,id,by omega,⟨by omega,?_,rfl⟩,LessR.of rfl zFS (by simp[idsL,AC.ids,inL]) zLO rfl rfl hou⟩
   rw[Q0n ht,Q1g]
   exact Qbc hft hno
  |some X=>
   obtain⟨rest,nf,gids,next⟩:=X
   rw[hft]at hq
   obtain⟨rfl,t',fs,s',e1,e2,e3,e4,e5,e6,e7,e8,hU⟩:=hq
   have hres:fiTs s.ids s.next (erKs ks)=some (erKs (ks.take j)++rest::erKs (ks.drop (j+1)),nf,gids,next):=by
    conv=>lhs;rw[hsp]
    rw[Q1g]
    exact Qe2 hft hno
   rw[hres]
   have hU2:UpdL ou (obL s++obKs ks) ou' (obL s'++(obKs (ks.take j++t'::ks.drop (j+1))++obKs fs)):=by
    have hm:=UpdL.more (M:=obKs (ks.take j)++obKs (ks.drop (j+1))) hU (fun p hp=>hO p (by
     rw[hob]
     simp only[List.mem_append]at hp ⊢
     rcases hp with (hp|hp)|hp|hp <;> simp[hp])) (nd_le hn fun x=>by
     rw[hob]
     simp only[keys,List.map_append,List.count_append];omega)
    refine (hm.inp fun k hk=>?_).sub (fun p hp=>?_) (nd_le hm.nd fun x=>?_)
    ·rw[hob]
     simp only[keys,List.map_append,List.mem_append]at hk ⊢
     rcases hk with (hk|hk)|hk|hk <;> simp[hk]
    ·simp only[Q16,obKs,List.mem_append]at hp ⊢
     rcases hp with hp|(hp|hp|hp)|hp <;> simp[hp]
    ·simp only[Q16,obKs,keys,List.map_append,List.count_append];omega
   refine zM ?_
   refine AFn.fin' rfl (WkF.ofEq rfl) (by simp) hU2.ok ⟨j,ks.take j++t'::ks.drop (j+1),fs,s',rfl,?_,?_,e3,e4,e5,e6,e7,e8,hU2⟩
   ·rw[Q1g];simp only[erKs,e1]
   ·conv=>rhs;rw[hsp]
    simp[e2]
 ·have hlt:j=ks.length:=by simp[Q1s]at hb2;omega
  subst hlt
  rw[List.take_length]at hno
  refine zA ?_
  refine AFn.fin' rfl (WkF.ofEq rfl) (by simp) hou ?_
  rw[hno]
  exact⟨rfl,rfl⟩
structure LsG (s:LS):Prop where
 i:s.ids.length<=1048576
 f:s.fns.length<=1048576
 n:0<=s.next/\s.next<=1099511627776
 c:s.c0.ids isO
theorem hasL_ok(s:LS)(ks:List LTk)(hkl:ks.length<=1048576)(ou:Outer)(hO:Owns ou (obL s++obKs ks))(hn:(keys (obL s++obKs ks)).Nodup)
  (hf:∀t∈ks,Owns ou (obL s++obK t)->(keys (obL s++obK t)).Nodup->AFn Tryz.prog Γc 75 [.one (.ptr (.o s.id) 0),.one (.ptr (.o t.id) 0)] ou (GenQ (fiT s.ids s.next (erK t)) ou s t)):
  AFn Tryz.prog Γc 99 [.one (.sl 1 (kK ks)),.one (.fn (.func 75) [.ptr (.o s.id) 0] [])] ou (fun r ou'=>∃r0,IdxQ (fiTs s.ids s.next (erKs ks)) ou s ks r0 ou'/\r=.one (.lit (.bool (fiTs s.ids s.next (erKs ks)).isSome))):=by
 refine AFn.walk 9 tabOk Tryz.func99 rfl (by kernel_rfl) rfl rfl fun hou=>?_
 refine zA ?_
 refine AOps.call1 hΓc rfl rfl rfl rfl rfl rfl rfl ⟨by simp,⟨⟨trivial,trivial⟩,trivial⟩,trivial⟩ hou (idxL_ok s ks hkl ou hO hn hf) fun r ou' hq _ how=>?_
 have hq0:=hq
 cases hft:fiTs s.ids s.next (erKs ks) with
 |none=>
  rw[hft]at hq
  obtain⟨rfl,hoe⟩:=hq
  refine zA ?_
  exact AFn.fin' rfl (WkF.ofEq rfl) (by simp) how ⟨_,by rw[←hft];exact hq0,rfl⟩
 |some X=>
  obtain⟨kt,nf,gids,next⟩:=X
  rw[hft]at hq
  obtain⟨j,ks',fs,s',rfl,_⟩:=hq
  refine zA ?_
  refine AFn.fin' rfl (WkF.ofEq ?_) (by simp) how ⟨_,by rw[←hft];exact hq0,rfl⟩
  simp
theorem Q7r:∀(t:LTk)(s:LS),LsG s->LfG (erK t)->∀ou:Outer,Owns ou (obL s++obK t)->(keys (obL s++obK t)).Nodup->OuOk ou->
  AFn Tryz.prog Γc 75 [.one (.ptr (.o s.id) 0),.one (.ptr (.o t.id) 0)] ou (GenQ (fiT s.ids s.next (erK t)) ou s t)
 |.mk i tk o n b ks a,s,hs,hG,ou,hO,hn,hou0=>by
  have ih:∀t∈ks,Owns ou (obL s++obK t)->(keys (obL s++obK t)).Nodup->AFn Tryz.prog Γc 75 [.one (.ptr (.o s.id) 0),.one (.ptr (.o t.id) 0)] ou (GenQ (fiT s.ids s.next (erK t)) ou s t):=
   fun t ht h1 h2=>Q7r t s hs (hG.kid (by simp only[erK,Tr.kids_mk];exact Q3s ht)) ou h1 h2 hou0
  have hkl:ks.length<=1048576:=by have:=hG.g.kl;simp only[erK,Tr.kids_mk,Q0w]at this;exact this
  have hi:ou i=some (nK tk o n b ks a):=(ownsK (Owns.app.1 hO).2).1
  unfold nK at hi
  have hlf:=lift_ok s (.mk i tk o n b ks a) hG hs.i hs.f hs.n hs.c ou hO hn (gOf_fk hG) hou0
  have hOk:Owns ou (obL s++obKs ks):=fun p hp=>hO p (by
   rw[Q0v]
   simp only[List.mem_append,List.mem_cons]at hp ⊢
   rcases hp with hp|hp <;> simp[hp])
  have hnk:(keys (obL s++obKs ks)).Nodup:=nd_le hn fun x=>by
   rw[Q0v]
   simp only[keys,List.map_append,List.map_cons,List.count_append,List.count_cons];omega
  refine AFn.walk 15 tabOk Tryz.func75 rfl (by kernel_rfl) rfl rfl fun hou=>?_
  refine zA ?_
  refine AOps.call1 hΓc rfl rfl rfl rfl rfl rfl rfl ⟨trivial,trivial,trivial⟩ hou hlf fun r ou' hq _ how=>?_
  unfold LiftQ at hq
  have hfi:fiT s.ids s.next (erK (.mk i tk o n b ks a))=match liftT s.ids s.next (erK (.mk i tk o n b ks a)) with|some r=>some r|none=>(fiTs s.ids s.next (erKs ks)).map fun r=>(.mk o n b r.1 a,r.2):=by
   simp only[erK,fiT] <;> (cases liftT s.ids s.next (.mk o n b (erKs ks) a) <;> rfl)
  cases hlt:liftT s.ids s.next (erK (.mk i tk o n b ks a)) with
  |some X=>
   obtain⟨rest,nf,gids,next⟩:=X
   rw[hlt]at hq hfi
   obtain⟨rfl,hq⟩:=hq
   rw[hfi]
   refine zA ?_
   exact AFn.fin' rfl (WkF.ofEq rfl) (by simp) how ⟨rfl,hq⟩
  |none=>
   rw[hlt]at hq hfi
   obtain⟨rfl,hoe⟩:=hq
   subst ou'
   rw[hfi]
   dsimp only
   repeat' first|refine zN ?_|((with_reducible refine oj ?_);first|refine zix ?_|refine zow rfl rfl hi ?_)
   refine AOps.wk 11 rfl (y:=.one (.sl 1 (kK ks))) (.one (.gsE rfl)) ?_
   refine AOps.call1 hΓc rfl rfl rfl rfl rfl rfl rfl ⟨by simp,⟨⟨trivial,trivial⟩,trivial⟩,trivial⟩ hou (hasL_ok s ks hkl ou hOk hnk ih) fun r ou' hq _ how2=>?_
   obtain⟨r0,hq,rfl⟩:=hq
   cases hft:fiTs s.ids s.next (erKs ks) with
   |none=>
    rw[hft]at hq
    obtain⟨_,hoe⟩:=hq
    refine zA ?_
    exact AFn.fin' rfl (WkF.ofEq rfl) (by simp) how2 ⟨rfl,hoe⟩
   |some X=>
    obtain⟨kt,nf,gids,next⟩:=X
    rw[hft]at hq
    obtain⟨j,ks',fs,s',_,e1,e2,e3,e4,e5,e6,e7,e8,hU⟩:=hq
    have hkk:kK ks'=kK ks:=Qh5 e2
    have hll:ks'.length=ks.length:=by have:=congrArg List.length e2;simpa using this
    have hU2:UpdL ou (obL s++obK (.mk i tk o n b ks a)) ou' (obL s'++(obK (.mk i tk o n b ks' a)++obKs fs)):=by
     have hm:=UpdL.more (M:=[(i,nK tk o n b ks a),(tk,tO ks.length)]) hU (fun p hp=>hO p (by
      rw[Q0v]
      simp only[List.mem_append,List.mem_cons,List.not_mem_nil,or_false]at hp ⊢
      rcases hp with (hp|hp)|hp|hp <;> simp[hp])) (nd_le hn fun x=>by
      rw[Q0v]
      simp only[keys,List.map_append,List.map_cons,List.map_nil,List.count_append,List.count_cons,List.count_nil];omega)
     refine (hm.inp fun k hk=>?_).sub (fun p hp=>?_) (nd_le hm.nd fun x=>?_)
     ·rw[Q0v]
      simp only[keys,List.map_append,List.map_cons,List.map_nil,List.mem_append,List.mem_cons,List.not_mem_nil,or_false]at hk ⊢
      rcases hk with (hk|hk)|hk|hk <;> simp[hk]
     ·rw[Q0v]at hp
      simp only[nK,hkk,hll,List.mem_append,List.mem_cons,List.not_mem_nil,or_false]at hp ⊢
      rcases hp with hp|(hp|hp|hp)|hp <;> simp[hp]
     ·rw[Q0v]
      simp only[keys,List.map_append,List.map_cons,List.map_nil,List.count_append,List.count_cons,List.count_nil];omega
    refine zA ?_
    refine AFn.fin' rfl (WkF.ofEq rfl) (by simp) how2 ⟨rfl,.mk i tk o n b ks' a,fs,s',?_,rfl,e3,e4,e5,e6,e7,e8,hU2⟩
    simp only[erK,e1]
def anF (top:List Int)(next:Int):List Tr->Option (List Tr×List Tr×List Int×Int)
 |[]=>none
 |f::l=>match fiT top next (kdT f 0) with
  |some r=>some (.mk f.op f.n f.binds (r.1::f.kids.drop 1) f.alts::l,r.2)
  |none=>(anF top next l).map fun r=>(f::r.1,r.2)
def anyT (top:List Int)(next:Int)(root:Tr)(fns:List Tr):Option (Tr×List Tr×List Int×Int):=match fiT top next root with
 |some r=>some (r.1,fns++r.2.1,top++r.2.2.1,r.2.2.2)
 |none=>(anF top next fns).map fun r=>(root,r.1++r.2.1,top++r.2.2.1,r.2.2.2)
theorem Qhw{top:List Int}{next:Int}{u:Tr}{X:Tr×List Tr×List Int×Int}{r:List Tr}(hu:fiT top next (kdT u 0)=some X):∀{l:List Tr},anF top next l=none->anF top next (l++u::r)=some (l++.mk u.op u.n u.binds (X.1::u.kids.drop 1) u.alts::r,X.2)
 |[],_=>by simp[anF,hu]
 |v::l,h=>by
  have h0:fiT top next (kdT v 0)=none:=by
   cases hv:fiT top next (kdT v 0) with
   |none=>rfl
   |some w=>simp[anF,hv]at h
  have h1:anF top next l=none:=by
   simp only[anF,h0]at h
   cases hl:anF top next l with
   |none=>rfl
   |some w=>rw[hl]at h;cases h
  simp only[List.cons_append,anF,h0,Qhw hu h1,Option.map_some]
theorem Qee{top:List Int}{next:Int}{u:Tr}(hu:fiT top next (kdT u 0)=none):∀{l:List Tr},anF top next l=none->anF top next (l++[u])=none
 |[],_=>by simp[anF,hu]
 |v::l,h=>by
  have h0:fiT top next (kdT v 0)=none:=by
   cases hv:fiT top next (kdT v 0) with
   |none=>rfl
   |some w=>simp[anF,hv]at h
  have h1:anF top next l=none:=by
   simp only[anF,h0]at h
   cases hl:anF top next l with
   |none=>rfl
   |some w=>rw[hl]at h;cases h
  simp only[List.cons_append,anF,h0,Qee hu h1,Option.map_none]
def AnyQ (res:Option (Tr×List Tr×List Int×Int))(ou:Outer)(s:LS)(root:LTk)(r:FV)(ou':Outer):Prop:=match res with
 |none=>r=.one (.lit (.bool false))/\ou'=ou
 |some (rt,fn,ids,next)=>r=.one (.lit (.bool true))/\∃(root':LTk) (s':LS),erK root'=rt/\root'.id=root.id/\s'.id=s.id/\s'.c0=s.c0/\s'.ids=ids/\erKs s'.fns=fn/\s'.next=next/\UpdL ou (obL s++(obK root++obKs s.fns)) ou' (obL s'++(obK root'++obKs s'.fns))
set_option maxHeartbeats 1000000 in
theorem Qcp(s:LS)(root:LTk)(hs:LsG s)(hc0:s.c0=.ptr (.o root.id) 0)(hG:LfG (erK root))(hf:∀f∈s.fns,0 < f.kids.length/\LfG (erK (f.kids.getD 0 default)))(ou:Outer)(hO:Owns ou (obL s++(obK root++obKs s.fns)))(hn:(keys (obL s++(obK root++obKs s.fns))).Nodup)(hou0:OuOk ou):
  AFn Tryz.prog Γc 46 [.one (.ptr (.o s.id) 0)] ou (AnyQ (anyT s.ids s.next (erK root) (erKs s.fns)) ou s root):=by
 have hs0:ou s.id=some (lsO s):=hO (s.id,lsO s) (by simp[obL])
 unfold lsO at hs0
 rw[hc0]at hs0
 have hfl:=hs.f
 have hOr:Owns ou (obL s++obK root):=fun p hp=>hO p (by
  simp only[List.mem_append]at hp ⊢
  rcases hp with hp|hp <;> simp[hp])
 have hnr:(keys (obL s++obK root)).Nodup:=nd_le hn fun x=>by
  simp only[keys,List.map_append,List.count_append];omega
 refine AFn.walk 29 tabOk Tryz.func46 rfl (by kernel_rfl) rfl rfl fun hou=>?_
 repeat' first|refine zN ?_|((with_reducible refine oj ?_);first|refine zix ?_|refine zow rfl rfl hs0 ?_)
 refine AOps.call1 hΓc rfl rfl rfl rfl rfl rfl rfl ⟨trivial,trivial,trivial⟩ hou (Q7r root s hs hG ou hOr hnr hou0) fun r ou' hq _ how=>?_
 cases hfr:fiT s.ids s.next (erK root) with
 |some X=>
  obtain⟨rest,nf,gids,next⟩:=X
  rw[hfr]at hq
  obtain⟨rfl,t',fs,s',e1,e2,e3,e4,e5,e6,e7,e8,hU⟩:=hq
  have hA:anyT s.ids s.next (erK root) (erKs s.fns)=some (rest,erKs s.fns++nf,s.ids++gids,next):=by unfold anyT;rw[hfr]
  rw[hA]
  have hU2:UpdL ou (obL s++(obK root++obKs s.fns)) ou' (obL s'++(obK t'++obKs s'.fns)):=by
   have hm:=UpdL.more (M:=obKs s.fns) hU (fun p hp=>hO p (by
    simp only[List.mem_append]at hp ⊢
    rcases hp with hp|hp|hp <;> simp[hp])) (nd_le hn fun x=>by
    simp only[keys,List.map_append,List.count_append];omega)
   refine (hm.inp fun k hk=>?_).sub (fun p hp=>?_) (nd_le hm.nd fun x=>?_)
   ·simp only[keys,List.map_append,List.mem_append]at hk ⊢
    rcases hk with hk|hk|hk <;> simp[hk]
   ·rw[e7,Q16]at hp
    simp only[List.mem_append]at hp ⊢
    rcases hp with hp|hp|hp|hp <;> simp[hp]
   ·rw[e7,Q16]
    simp only[keys,List.map_append,List.count_append];omega
  refine zA ?_
  refine AFn.fin' rfl (WkF.ofEq rfl) (by simp) how ⟨rfl,t',s',e1,e2,e4,e5,e6,by rw[e7,Q1g,e3],e8,hU2⟩
 |none=>
  rw[hfr]at hq
  obtain⟨rfl,hoe⟩:=hq
  subst ou'
  have hA:anyT s.ids s.next (erK root) (erKs s.fns)=(anF s.ids s.next (erKs s.fns)).map fun r=>(erK root,r.1++r.2.1,s.ids++r.2.2.1,r.2.2.2):=by unfold anyT;rw[hfr]
  rw[hA]
  repeat' first|refine zN ?_|((with_reducible refine oj ?_);first|refine zix ?_|refine zow rfl rfl hs0 ?_)
  refine ACode.loopR hΓc (α:=Nat) (fun j=>[(16,.one (int j)),(15,.one (int (kK s.fns).length)),(14,.one (.sl 1 (kK s.fns))),(0,.one (.ptr (.o s.id) 0))])
   (fun j => ⟨0, [], ou⟩) (fun m j => j <= s.fns.length /\ anF s.ids s.next (erKs (s.fns.take j)) = none /\ m = s.fns.length - j) (a0 := 0) (ρ := id) ⟨by omega, by simp [erKs, anF], rfl⟩ (LessR.of rfl ?_ (by simp) zLO rfl rfl hou) fun m j hj => ?_
  ·refine .cons rfl (.ofEq rfl) (.cons rfl (.ofEq rfl) (.consP rfl (.one (.gsE rfl)) (by simp) ?_))
   (repeat' first | exact FrSub.nil | refine zfc ?_ | refine zfo ?_ | refine zfp ?_)
  obtain⟨hjl,hno,rfl⟩:=hj
  refine zA ?_
  refine ACode.cond rfl (fun hb2=>?_) (fun hb2=>?_)
  ·have hlt:j < s.fns.length:=by simp[Q1s]at hb2;omega
   obtain⟨f,hfj⟩:=Q00 hlt
   have hfm:=List.mem_of_getElem? hfj
   obtain⟨hfk,hfG⟩:=hf f hfm
   have hsp:s.fns=s.fns.take j++f::s.fns.drop (j+1):=by
    conv=>lhs;rw[←List.take_append_drop j s.fns]
    congr 1
    rw[List.drop_eq_getElem_cons hlt]
    congr 1
    exact Option.some.inj ((List.getElem?_eq_getElem hlt).symm.trans hfj)
   obtain⟨fi,ftk,fo,fn,fb,fks,fa⟩:=f
   obtain⟨k0,kr,rfl⟩:∃k0 kr,fks=k0::kr:=by
    cases fks with
    |nil=>simp[LTk.kids]at hfk
    |cons a l=>exact⟨a,l,rfl⟩
   have hfG0:LfG (erK k0):=by simpa[LTk.kids]using hfG
   have hob:obKs s.fns=obKs (s.fns.take j)++((fi,nK ftk fo fn fb (k0::kr) fa)::(ftk,tO (k0::kr).length)::(obK k0++obKs kr)++obKs (s.fns.drop (j+1))):=by
    have h1:obKs s.fns=obKs (s.fns.take j++LTk.mk fi ftk fo fn fb (k0::kr) fa::s.fns.drop (j+1)):=congrArg obKs hsp
    rw[h1,Q16]
    simp only[obKs,Q0v,List.append_assoc,List.cons_append]
   have hF0:ou fi=some (nK ftk fo fn fb (k0::kr) fa):=hO (fi,nK ftk fo fn fb (k0::kr) fa) (by rw[hob];simp)
   unfold nK at hF0
   have hOt:Owns ou (obL s++obK k0):=by
    rw[hob]at hO
    exact fun p hp=>hO p (by simp only[List.mem_append,List.mem_cons]at hp ⊢;rcases hp with hp|hp <;> simp[hp])
   have hnt:(keys (obL s++obK k0)).Nodup:=nd_le hn fun x=>by
    rw[hob]
    simp only[keys,List.map_append,List.map_cons,List.count_append,List.count_cons];omega
   have hgk:(kK (k0::kr))[(0:Int).toNat]?=some [.ptr (.o k0.id) 0]:=rfl
   refine zA ?_
   refine zS (zIA rfl rfl rfl (by omega) (Q8p hfj)) ?_
   repeat' first|refine zN ?_|((with_reducible refine oj ?_);first|refine zix ?_|refine zow rfl rfl hF0 ?_)
   refine zS (AStep.indexAddr tabOk rfl rfl rfl rfl rfl rfl (.inr ⟨_,rfl⟩) rfl (by decide) hgk) ?_
   refine zA ?_
   refine AOps.call1 hΓc rfl rfl rfl rfl rfl rfl rfl ⟨trivial,trivial,trivial⟩ hou (Q7r k0 s hs hfG0 ou hOt hnt hou0) fun r ou' hq _ how=>?_
   have hkd:kdT (erK (.mk fi ftk fo fn fb (k0::kr) fa)) 0=erK k0:=rfl
   cases hft:fiT s.ids s.next (erK k0) with
   |none=>
    rw[hft]at hq
    obtain⟨rfl,hoe⟩:=hq
    subst ou'
    refine zM ?_
    refine cInv ⟨s.fns.length - (j+1),j+1,id,by omega,⟨by omega,?_,rfl⟩,LessR.of rfl zFS (by simp) zLO rfl rfl hou⟩
    rw[Q0n hfj,Q1g]
    exact Qee (u:=erK (.mk fi ftk fo fn fb (k0::kr) fa)) (by rw[hkd];exact hft) hno
   |some X=>
    obtain⟨rest,nf,gids,next⟩:=X
    rw[hft]at hq
    obtain⟨rfl,t',fs,s',e1,e2,e3,e4,e5,e6,e7,e8,hU⟩:=hq
    have hres:anF s.ids s.next (erKs s.fns)=some (erKs (s.fns.take j)++.mk fo fn fb (rest::erKs kr) fa::erKs (s.fns.drop (j+1)),nf,gids,next):=by
     conv=>lhs;rw[hsp]
     rw[Q1g]
     exact Qhw (u:=erK (.mk fi ftk fo fn fb (k0::kr) fa)) (by rw[hkd];exact hft) hno
    rw[hres]
    obtain⟨fns',hfns'⟩:∃fns',fns'=s.fns.take j++LTk.mk fi ftk fo fn fb (t'::kr) fa::s.fns.drop (j+1):=⟨_,rfl⟩
    have hkf:kK fns'=kK s.fns:=by
     rw[hfns']
     conv=>rhs;rw[hsp]
     simp[kK,LTk.id]
    have hlf:fns'.length=s.fns.length:=by rw[←Q1s,hkf,Q1s]
    obtain⟨s2,hs2⟩:∃s2:LS,s2={ s' with fns:=fns'++fs }:=⟨_,rfl⟩
    have hobs:obL s2=obL s':=by
     rw[hs2]
     unfold obL lsO
     simp only[e7]
     rw[show kK (fns'++fs)=kK (s.fns++fs) by simp only[kK,List.map_append]at hkf ⊢;rw[hkf],show (fns'++fs).length=(s.fns++fs).length by simp[hlf]]
    have hk1:kK (t'::kr)=kK (k0::kr):=by simp[kK,e2]
    have hU2:UpdL ou (obL s++(obK root++obKs s.fns)) ou' (obL s2++(obK root++obKs s2.fns)):=by
     have hm:=UpdL.more (M:=obK root++(obKs (s.fns.take j)++((fi,nK ftk fo fn fb (k0::kr) fa)::(ftk,tO (k0::kr).length)::(obKs kr++obKs (s.fns.drop (j+1)))))) hU (fun p hp=>hO p (by
      rw[hob]
      simp only[List.mem_append,List.mem_cons]at hp ⊢
      rcases hp with (hp|hp|hp|hp|hp|hp)|hp|hp <;> simp[hp])) (nd_le hn fun x=>by
      rw[hob]
      simp only[keys,List.map_append,List.map_cons,List.count_append,List.count_cons];omega)
     rw[hobs,hs2]
     simp only
     refine (hm.inp fun k hk=>?_).sub (fun p hp=>?_) (nd_le hm.nd fun x=>?_)
     ·rw[hob]
      simp only[keys,List.map_append,List.map_cons,List.mem_append,List.mem_cons]at hk ⊢
      rcases hk with (hk|hk|hk|hk|hk|hk)|hk|hk <;> simp[hk]
     ·rw[hfns',Q16,Q16]at hp
      simp only[obKs,Q0v,nK,hk1,List.length_cons,List.mem_append,List.mem_cons]at hp ⊢
      rcases hp with hp|hp|(hp|((hp|hp|hp|hp)|hp))|hp <;> simp[hp]
     ·rw[hfns',Q16,Q16]
      simp only[obKs,Q0v,keys,List.map_append,List.map_cons,List.count_append,List.count_cons];omega
    refine zM ?_
    refine AFn.fin' rfl (WkF.ofEq rfl) (by simp) how ⟨rfl,root,s2,rfl,rfl,?_,?_,?_,?_,?_,hU2⟩
    ·rw[hs2];exact e4
    ·rw[hs2];exact e5
    ·rw[hs2];exact e6
    ·rw[hs2]
     simp only
     rw[Q1g,e3,hfns',Q1g]
     simp only[erKs,erK,e1,List.append_assoc]
    ·rw[hs2];exact e8
  ·have hlt:j=s.fns.length:=by simp[Q1s]at hb2;omega
   subst hlt
   rw[List.take_length]at hno
   rw[hno]
   refine zA ?_
   exact AFn.fin' rfl (WkF.ofEq rfl) (by simp) hou ⟨rfl,rfl⟩
-- How many calls.
mutual
def apN:Tr->Nat
 |.mk o _ _ k _=>(if o=3 then 1 else 0)+apNs k
def apNs:List Tr->Nat
 |[]=>0
 |t::l=>apN t+apNs l
end
theorem Q5s:∀l r:List Tr,apNs (l++r)=apNs l+apNs r
 |[],r=>by simp[apNs]
 |t::l,r=>by simp only[List.cons_append,apNs,Q5s l r];omega
theorem Qhu:∀l:List Int,apNs (l.map vT)=0
 |[]=>rfl
 |x::l=>by simp only[List.map_cons,apNs,vT,apN,Qhu l];simp
mutual
theorem Qco:∀t:Tr,apN t<=cntN t
 |.mk o n b k a=>by have:=Qec k;simp only[apN,cntN];split <;> omega
theorem Qec:∀l:List Tr,apNs l<=cntNs l
 |[]=>by simp[apNs]
 |t::l=>by have h1:=Qco t;have h2:=Qec l;simp only[apNs,cntNs];omega
end
mutual
theorem Qe8:∀t:Tr,Q0x t<=cntN t/\0<=Q0x t
 |.mk o n b k a=>by
  have:=Qbe k 0 (by omega)
  simp only[Q0x,cntN]
  push_cast
  omega
theorem Qbe:∀(l:List Tr)(m:Int),0<=m->(Q3t l).foldl mx m<=m+cntNs l/\0<=(Q3t l).foldl mx m
 |[],m,h=>by simp[Q3t,cntNs,h]
 |t::l,m,h=>by
  have h1:=Qe8 t
  have h3:mx m (Q0x t)<=m+Q0x t/\0<=mx m (Q0x t):=by unfold mx;split <;> omega
  have h2:=Qbe l (mx m (Q0x t)) h3.2
  simp only[Q3t,cntNs,List.foldl_cons]
  push_cast
  omega
end
structure qL (l:Lab):Prop where
 sh:shpQ l
 rc:l.op=5->l.ops.take l.binds.length=List.replicate l.binds.length 2
 b:l.binds.length<=1048576
 a:l.alts.length<=1048576
 ab:∀x∈l.alts,x.binds.length<=1048576
 s:l.binds.length+(l.alts.flatMap (·.binds)).length<=4194304
mutual
theorem Q8c:∀t:Tr,allT qL t->cntN t<=1000000->allT pOk t
 |.mk o n b k a,h,hc=>by
  have hl:=Q64 k
  simp only[cntN]at hc
  exact⟨⟨h.1.b,by simp;omega,h.1.a,h.1.ab,h.1.s⟩,Q75 k h.2 (by omega)⟩
theorem Q75:∀l:List Tr,allTs qL l->cntNs l<=1000000->allTs pOk l
 |[],_,_=>trivial
 |t::l,h,hc=>by
  simp only[cntNs]at hc
  exact⟨Q8c t h.1 (by omega),Q75 l h.2 (by omega)⟩
end
theorem qL_LfG{t:Tr}(h:allT qL t)(hc:cntN t<=500000):LfG t:=
 ⟨⟨Q4z t (Q8c t h (by omega)),by omega,Q3c (fun l h=>h.sh) t h⟩,by have:=Qe8 t;omega,hc,Q3c (fun l h=>h.rc) t h⟩
theorem exT_ops(ids needs:List Int)(k:List Tr):(exTs ids needs k).map Tr.op=k.map Tr.op:=by
 rw[Qa1,List.map_map]
 exact List.map_congr_left fun t _=>(exT_op ids needs t).1
mutual
theorem Qhi(ids needs:List Int):∀t:Tr,allT qL t->allT qL (exT ids needs t)/\apN (exT ids needs t)=apN t/\cntN (exT ids needs t)<=cntN t+needs.length * apN t
 |.mk o n b k a,h=>by
  obtain⟨h1,h2,h3⟩:=Qhg ids needs k h.2
  have hsh:=Qhh ids needs (.mk o n b k a) (Q3c (fun l h=>h.sh) _ h)
  unfold exT at hsh ⊢
  by_cases hcl:isCl ids o k=true
  ·have h3o:o=3:=by
    unfold isCl at hcl
    simp only[Bool.and_eq_true,beq_iff_eq]at hcl
    exact hcl.1
   subst h3o
   rw[if_pos hcl]at hsh ⊢
   refine⟨⟨⟨hsh.1,fun h=>by simp at h,h.1.b,h.1.a,h.1.ab,h.1.s⟩,Q2j h1 (Qff (fun n=>⟨⟨⟨[],rfl,by simp[Go.CoreX.shape,wants]⟩⟩,fun h=>by simp at h,by simp,by simp,by simp,by simp⟩) _)⟩,?_,?_⟩
   ·simp only[apN,Q5s,Qhu,h2];omega
   ·simp only[cntN,Q1l,Qhl,apN,if_pos,Nat.mul_add,Nat.mul_one]
    omega
  ·rw[if_neg hcl,List.append_nil]at hsh ⊢
   refine⟨⟨⟨hsh.1,fun h5=>?_,h.1.b,h.1.a,h.1.ab,h.1.s⟩,h1⟩,?_,?_⟩
   ·simp only
    rw[exT_ops]
    exact h.1.rc h5
   ·simp only[apN,h2]
   ·simp only[cntN,apN,Nat.mul_add]
    omega
theorem Qhg(ids needs:List Int):∀l:List Tr,allTs qL l->allTs qL (exTs ids needs l)/\apNs (exTs ids needs l)=apNs l/\cntNs (exTs ids needs l)<=cntNs l+needs.length * apNs l
 |[],_=>⟨trivial,rfl,by simp[exTs,cntNs]⟩
 |t::l,h=>by
  obtain⟨a1,a2,a3⟩:=Qhi ids needs t h.1
  obtain⟨b1,b2,b3⟩:=Qhg ids needs l h.2
  refine⟨⟨a1,b1⟩,by simp only[exTs,apNs,a2,b2],?_⟩
  simp only[exTs,cntNs,apNs,Nat.mul_add]
  omega
end
mutual
theorem rmT_qL(frm to:List Int):∀t:Tr,allT qL t->allT qL (rmT frm to t)/\apN (rmT frm to t)=apN t/\cntN (rmT frm to t)=cntN t/\(rmT frm to t).op=t.op
 |.mk o n b k a,h=>by
  obtain⟨h1,h2,h3,h4⟩:=Qfz frm to k h.2
  unfold rmT
  refine⟨⟨⟨?_,fun h5=>?_,h.1.b,h.1.a,h.1.ab,h.1.s⟩,h1⟩,by simp only[apN,h2],by simp only[cntN,h3],rfl⟩
  ·have h0:ShN o n b (k.map Tr.op).length a:=h.1.sh
   show ShN o _ b ((rmTs frm to k).map Tr.op).length a
   rw[h4]
   by_cases e:o=0
   ·rw[if_pos e]
    subst e
    obtain⟨⟨ops,hl,hs⟩⟩:=h0
    exact⟨⟨ops,hl,by simpa[Go.CoreX.shape,wants]using hs⟩⟩
   ·rw[if_neg e];exact h0
  ·simp only
   rw[h4]
   exact h.1.rc h5
theorem Qfz(frm to:List Int):∀l:List Tr,allTs qL l->allTs qL (rmTs frm to l)/\apNs (rmTs frm to l)=apNs l/\cntNs (rmTs frm to l)=cntNs l/\(rmTs frm to l).map Tr.op=l.map Tr.op
 |[],_=>⟨trivial,rfl,rfl,rfl⟩
 |t::l,h=>by
  obtain⟨a1,a2,a3,a4⟩:=rmT_qL frm to t h.1
  obtain⟨b1,b2,b3,b4⟩:=Qfz frm to l h.2
  exact⟨⟨a1,b1⟩,by simp only[rmTs,apNs,a2,b2],by simp only[rmTs,cntNs,a3,b3],by simp only[rmTs,List.map_cons,a4,b4]⟩
end
theorem Qhb{t:Tr}{ids:List Int}{fns:List Tr}{rest:Tr}(h:gOfT t=some (ids,fns,rest))(hG:allT qL t):t.kids=fns++[rest]/\fns.length=ids.length/\0 < fns.length/\(∀f∈fns,f.op=2)/\(t.op=4∨t.op=5):=by
 obtain⟨o,n,b,k,a⟩:=t
 have hsn:=Q24 (Q3c (fun l h=>h.sh) _ hG)
 simp only[Tr.op_mk,Tr.n_mk,Tr.binds_mk,Tr.kids_mk,Tr.alts_mk]at hsn
 simp only[gOfT]at h
 split at h
 ·rename_i h5
  subst h5
  cases h
  obtain⟨h1,h2,_⟩:=hsn.recs
  obtain⟨r,hr⟩:=Q00 (l:=k) (i:=ids.length) (by omega)
  refine⟨?_,by simp;omega,by simp;omega,fun f hf=>?_,.inr rfl⟩
  ·simp only[Tr.kids_mk]
   conv=>lhs;rw[←List.take_append_drop ids.length k]
   congr 1
   rw[List.getD_eq_getElem?_getD,hr]
   have hd:ids.length < k.length:=by omega
   rw[List.drop_eq_getElem_cons hd,List.drop_eq_nil_of_le (by omega)]
   congr 1
   exact Option.some.inj ((List.getElem?_eq_getElem hd).symm.trans hr)
  ·have hl:=hG.1.rc rfl
   simp only at hl
   obtain⟨j,hj⟩:=List.mem_iff_getElem?.1 hf
   rw[List.getElem?_take]at hj
   split at hj
   ·rename_i hjl
    have h1:=congrArg (fun l=>l[j]?) hl
    simp only[List.getElem?_take_of_lt hjl,List.getElem?_map,List.getElem?_replicate,if_pos hjl,hj,Option.map_some,Option.some.injEq]at h1
    exact h1
   ·cases hj
 ·split at h
  ·rename_i h4
   obtain⟨h4,h42⟩:=h4
   subst h4
   cases h
   obtain⟨hk2,hb1,_⟩:=hsn.lett
   obtain⟨k0,k1,rfl⟩:∃k0 k1,k=[k0,k1]:=lst2 hk2
   exact⟨rfl,by simp[hb1],by simp,fun f hf=>by simp at hf;subst hf;exact h42,.inl rfl⟩
  ·cases h
theorem Qiy{ids needs:List Int}{next:Int}{f:Tr}(h:allT qL f)(h2:f.op=2)(hb:f.binds.length+needs.length<=6):
  allT qL (newF ids needs next f)/\apN (newF ids needs next f)=apN f/\cntN (newF ids needs next f)<=cntN f+needs.length * apN f/\(newF ids needs next f).op=2:=by
 obtain⟨o,n,b,k,a⟩:=f
 have h2':o=2:=h2
 subst h2'
 have hsn:=Q24 (Q3c (fun l h=>h.sh) _ h)
 simp only[Tr.op_mk,Tr.n_mk,Tr.binds_mk,Tr.kids_mk,Tr.alts_mk]at hsn
 obtain⟨k0,rfl⟩:∃k0,k=[k0]:=lst1 hsn.lam.1
 have ha:a=[]:=hsn.lam.2
 subst ha
 simp only[Tr.binds_mk]at hb
 obtain⟨e1,e2,e3⟩:=Qhi ids needs k0 h.2.1
 obtain⟨r1,r2,r3,r4⟩:=rmT_qL needs (prmL next needs.length) (exT ids needs k0) e1
 have hpl:(prmL next needs.length).length=needs.length:=by simp[prmL]
 have hn:newF ids needs next (.mk 2 n b [k0] [])=.mk 2 n (b++prmL next needs.length) [rmT needs (prmL next needs.length) (exT ids needs k0)] []:=rfl
 rw[hn]
 refine⟨⟨⟨?_,fun h=>by simp at h,by simp[hpl];omega,by simp,by simp,by simp[hpl];omega⟩,r1,trivial⟩,by simp only[apN,apNs,r2,e2],?_,rfl⟩
 ·obtain⟨⟨ops,hl,hs⟩⟩:=hsn
  have h0:ShN 2 n (b++prmL next needs.length) 1 []:=by
   refine⟨⟨[0],rfl,?_⟩⟩
   simp[Go.CoreX.shape,wants]at hs ⊢
   omega
  exact h0
 ·simp only[cntN,cntNs,apN,apNs,r3,Nat.mul_add]
  simp
  omega
theorem Qat{ids needs:List Int}:∀(fns:List Tr)(next:Int),allTs qL fns->(∀f∈fns,f.op=2)->(∀f∈fns,f.binds.length+needs.length<=6)->
  allTs qL (newFs ids needs next fns)/\apNs (newFs ids needs next fns)=apNs fns/\cntNs (newFs ids needs next fns)<=cntNs fns+needs.length * apNs fns/\(∀f∈newFs ids needs next fns,f.op=2)/\(newFs ids needs next fns).length=fns.length
 |[],_,_,_,_=>⟨trivial,rfl,by simp[newFs,cntNs],by simp[newFs],rfl⟩
 |f::l,next,h,h2,hb=>by
  obtain⟨a1,a2,a3,a4⟩:=Qiy (ids:=ids) (next:=next) h.1 (h2 f (by simp)) (hb f (by simp))
  obtain⟨b1,b2,b3,b4,b5⟩:=Qat (ids:=ids) (needs:=needs) l (next+needs.length) h.2 (fun g hg=>h2 g (by simp[hg])) (fun g hg=>hb g (by simp[hg]))
  refine⟨⟨a1,b1⟩,by simp only[newFs,apNs,a2,b2],?_,fun g hg=>?_,by simp only[newFs,List.length_cons,b5]⟩
  ·simp only[newFs,cntNs,apNs,Nat.mul_add];omega
  ·simp only[newFs,List.mem_cons]at hg
   rcases hg with rfl|hg
   ·exact a4
   ·exact b4 g hg
theorem Qgg{top:List Int}{next:Int}{t:Tr}{rest:Tr}{nf:List Tr}{g:List Int}{nx:Int}(h:liftT top next t=some (rest,nf,g,nx))(hq:allT qL t):
  allT qL rest/\allTs qL nf/\(∀f∈nf,f.op=2)/\apN rest+apNs nf<=apN t/\cntN rest+cntNs nf<=cntN t+6 * apN t/\nf.length=g.length/\0 < g.length/\top.length+g.length<=16/\next<=nx/\nx<=next+96/\(t.op=4∨t.op=5):=by
 unfold liftT at h
 cases hg:gOfT t with
 |none=>rw[hg]at h;cases h
 |some x=>
  obtain⟨ids,fns,r⟩:=x
  rw[hg]at h
  simp only at h
  split at h
  ·cases h
  split at h
  ·cases h
  rename_i hk hf
  simp only[Option.some.injEq,Prod.mk.injEq]at h
  obtain⟨rfl,rfl,rfl,rfl⟩:=h
  obtain⟨k1,k2,k3,k4,k5⟩:=Qhb hg hq
  have hfit:(!(fns.any fun f=>decide ((f.binds.length:Int)+(Q0z ids top fns).length > 6)))=true/\top.length+ids.length<=16:=by simpa using hf
  have hb:∀f∈fns,f.binds.length+(Q0z ids top fns).length<=6:=fun f hfm=>by
   have h1:=hfit.1
   simp only[Bool.not_eq_true',List.any_eq_false,decide_eq_true_eq]at h1
   have:=h1 f hfm
   omega
  have hND:(Q0z ids top fns).length<=6:=by
   obtain⟨f,hf0⟩:=List.exists_mem_of_length_pos k3
   have:=hb f hf0
   omega
  have hqk:allTs qL (fns++[r]):=by
   rw[←k1]
   cases t
   exact hq.2
  have hqf:allTs qL fns:=Q1m.2 fun f hf=>Q1m.1 hqk f (by simp[hf])
  have hqr:allT qL r:=Q1m.1 hqk r (by simp)
  obtain⟨e1,e2,e3⟩:=Qhi ids (Q0z ids top fns) r hqr
  obtain⟨n1,n2,n3,n4,n5⟩:=Qat (ids:=ids) (needs:=Q0z ids top fns) fns next hqf k4 hb
  have hap:apNs fns+apN r=apN t:=by
   obtain⟨o,n,b,k,a⟩:=t
   simp only[Tr.kids_mk,Tr.op_mk]at k1 k5
   subst k1
   have h3:¬o=3:=by omega
   simp only[apN,Q5s,apNs,if_neg h3];omega
  have hct:cntN t=cntNs fns+cntN r+1:=by
   obtain⟨o,n,b,k,a⟩:=t
   simp only[Tr.kids_mk]at k1
   subst k1
   simp only[cntN,Q1l,cntNs];omega
  have hm1:(Q0z ids top fns).length * apN r<=6 * apN r:=Nat.mul_le_mul_right _ hND
  have hm2:(Q0z ids top fns).length * apNs fns<=6 * apNs fns:=Nat.mul_le_mul_right _ hND
  have hm3:fns.length * (Q0z ids top fns).length<=16 * 6:=Nat.mul_le_mul (by omega) hND
  refine⟨e1,n1,n4,by rw[e2,n2];omega,?_,n5.trans k2,by rw[←k2];exact k3,hfit.2,?_,?_,k5⟩
  ·rw[hct,←hap,Nat.mul_add];omega
  ·have:(0:Int)<=(fns.length:Int) * ((Q0z ids top fns).length:Int):=by exact_mod_cast Nat.zero_le _
   omega
  ·have:(fns.length:Int) * ((Q0z ids top fns).length:Int)<=96:=by exact_mod_cast hm3
   omega
structure LInv (top:List Int)(next:Int)(c a c' a':Nat)(nf:List Tr)(g:List Int)(nx:Int):Prop where
 q:allTs qL nf
 o:∀f∈nf,f.op=2
 ap:a'+apNs nf<=a
 cn:c'+cntNs nf<=c+6 * a
 l:nf.length=g.length
 p:0 < g.length
 t:top.length+g.length<=16
 n:next<=nx
 m:nx<=next+96
theorem LInv.mono{top:List Int}{next:Int}{c a c' a':Nat}{nf:List Tr}{g:List Int}{nx:Int}(h:LInv top next c a c' a' nf g nx)(x y:Nat):LInv top next (c+x) (a+y) (c'+x) (a'+y) nf g nx:=
 ⟨h.q,h.o,by have:=h.ap;omega,by have:=h.cn;omega,h.l,h.p,h.t,h.n,h.m⟩
theorem LInv.eq{top:List Int}{next:Int}{c a c' a' c1 a1 c1' a1':Nat}{nf:List Tr}{g:List Int}{nx:Int}(h:LInv top next c a c' a' nf g nx)(e1:c=c1)(e2:a=a1)(e3:c'=c1')(e4:a'=a1'):LInv top next c1 a1 c1' a1' nf g nx:=by
 subst e1 e2 e3 e4;exact h
theorem rc_keep{l l':List Int}{m:Nat}(h:l.take m=List.replicate m 2)(hl:l'.length=l.length)(hk:∀j:Nat,l[j]?=some 2->l'[j]?=some 2):l'.take m=List.replicate m 2:=by
 refine List.ext_getElem? fun j=>?_
 have h1:=congrArg (fun l=>l[j]?) h
 simp only[List.getElem?_take,List.getElem?_replicate]at h1 ⊢
 by_cases hj:j < m
 ·rw[if_pos hj]at h1 ⊢
  rw[if_pos hj]at h1 ⊢
  exact hk j h1
 ·rw[if_neg hj]
  rw[if_neg hj]
mutual
theorem Qci{top:List Int}{next:Int}:∀(t:Tr)(X:Tr×List Tr×List Int×Int),fiT top next t=some X->allT qL t->
  allT qL X.1/\(t.op=2->X.1.op=2)/\LInv top next (cntN t) (apN t) (cntN X.1) (apN X.1) X.2.1 X.2.2.1 X.2.2.2
 |.mk o n b k a,X,h,hq=>by
  simp only[fiT]at h
  cases hl:liftT top next (.mk o n b k a) with
  |some r=>
   obtain⟨rest,nf,g,nx⟩:=r
   rw[hl]at h
   cases h
   obtain⟨a1,a2,a3,a4,a5,a6,a7,a8,a9,a10,a11⟩:=Qgg hl hq
   exact⟨a1,fun h2=>by rcases a11 with h|h <;> rw[h2]at h <;> exact absurd h (by decide),⟨a2,a3,a4,a5,a6,a7,a8,a9,a10⟩⟩
  |none=>
   rw[hl]at h
   simp only at h
   cases hk:fiTs top next k with
   |none=>rw[hk]at h;cases h
   |some r=>
    obtain⟨k',R⟩:=r
    rw[hk]at h
    simp only[Option.map_some,Option.some.injEq]at h
    subst h
    obtain⟨b1,b2,b3,b4⟩:=Qe1 k _ hk hq.2
    have hlen:(k'.map Tr.op).length=(k.map Tr.op).length:=by simp only[List.length_map];exact b2
    refine⟨⟨⟨?_,fun h5=>?_,hq.1.b,hq.1.a,hq.1.ab,hq.1.s⟩,b1⟩,fun h=>h,(b4.mono 1 (if o=3 then 1 else 0)).eq ?_ ?_ ?_ ?_⟩
    ·have h0:ShN o n b (k.map Tr.op).length a:=hq.1.sh
     show ShN o n b (k'.map Tr.op).length a
     rw[hlen];exact h0
    ·exact rc_keep (hq.1.rc h5) hlen b3
    ·simp only[cntN]
    ·simp only[apN];omega
    ·simp only[cntN]
    ·simp only[apN];omega
theorem Qe1{top:List Int}{next:Int}:∀(l:List Tr)(X:List Tr×List Tr×List Int×Int),fiTs top next l=some X->allTs qL l->
  allTs qL X.1/\X.1.length=l.length/\(∀j:Nat,(l.map Tr.op)[j]?=some 2->(X.1.map Tr.op)[j]?=some 2)/\LInv top next (cntNs l) (apNs l) (cntNs X.1) (apNs X.1) X.2.1 X.2.2.1 X.2.2.2
 |[],X,h,hq=>by simp[fiTs]at h
 |t::l,X,h,hq=>by
  simp only[fiTs]at h
  cases ht:fiT top next t with
  |some r=>
   obtain⟨t',R⟩:=r
   rw[ht]at h
   simp only[Option.some.injEq]at h
   subst h
   obtain⟨a1,a2,a3⟩:=Qci t _ ht hq.1
   refine⟨⟨a1,hq.2⟩,rfl,fun j hj=>?_,(a3.mono (cntNs l) (apNs l)).eq rfl rfl rfl rfl⟩
   cases j with
   |zero=>
    simp only[List.map_cons,List.getElem?_cons_zero,Option.some.injEq]at hj ⊢
    exact a2 hj
   |succ j=>
    simp only[List.map_cons,List.getElem?_cons_succ]at hj ⊢
    exact hj
  |none=>
   rw[ht]at h
   simp only at h
   cases hl:fiTs top next l with
   |none=>rw[hl]at h;cases h
   |some r=>
    obtain⟨l',R⟩:=r
    rw[hl]at h
    simp only[Option.map_some,Option.some.injEq]at h
    subst h
    obtain⟨b1,b2,b3,b4⟩:=Qe1 l _ hl hq.2
    refine⟨⟨hq.1,b1⟩,by simp only[List.length_cons,b2],fun j hj=>?_,(b4.mono (cntN t) (apN t)).eq (by simp only[cntNs];omega) (by simp only[apNs];omega) (by simp only[cntNs];omega) (by simp only[apNs];omega)⟩
    cases j with
    |zero=>exact hj
    |succ j=>
     simp only[List.map_cons,List.getElem?_cons_succ]at hj ⊢
     exact b3 j hj
end
theorem Qhv{top:List Int}{next:Int}:∀(l:List Tr)(X:List Tr×List Tr×List Int×Int),anF top next l=some X->allTs qL l->(∀f∈l,f.op=2)->
  allTs qL X.1/\X.1.length=l.length/\(∀f∈X.1,f.op=2)/\LInv top next (cntNs l) (apNs l) (cntNs X.1) (apNs X.1) X.2.1 X.2.2.1 X.2.2.2
 |[],X,h,_,_=>by simp[anF]at h
 |f::l,X,h,hq,h2=>by
  simp only[anF]at h
  obtain⟨o,n,b,k,a⟩:=f
  have h2':o=2:=h2 (.mk o n b k a) (by simp)
  subst h2'
  have hsn:=Q24 (Q3c (fun l h=>h.sh) _ hq.1)
  simp only[Tr.op_mk,Tr.n_mk,Tr.binds_mk,Tr.kids_mk,Tr.alts_mk]at hsn
  obtain⟨k0,rfl⟩:∃k0,k=[k0]:=lst1 hsn.lam.1
  have hkd:kdT (.mk 2 n b [k0] a) 0=k0:=rfl
  rw[hkd]at h
  cases ht:fiT top next k0 with
  |some r=>
   obtain⟨t',R⟩:=r
   rw[ht]at h
   simp only[Option.some.injEq]at h
   subst h
   obtain⟨a1,a2,a3⟩:=Qci k0 _ ht hq.1.2.1
   simp only[Tr.op_mk,Tr.n_mk,Tr.binds_mk,Tr.kids_mk,Tr.alts_mk,List.drop_succ_cons,List.drop_zero]
   have h0:ShN 2 n b [k0.op].length a:=hq.1.1.sh
   refine⟨⟨⟨⟨h0,fun h=>by simp at h,hq.1.1.b,hq.1.1.a,hq.1.1.ab,hq.1.1.s⟩,a1,trivial⟩,hq.2⟩,rfl,fun g hg=>?_,(a3.mono (1+cntNs l) (apNs l)).eq ?_ ?_ ?_ ?_⟩
   ·rcases List.mem_cons.1 hg with rfl|hg
    ·rfl
    ·exact h2 g (by simp[hg])
   all_goals simp only[cntNs,cntN,apNs,apN];simp;try omega
  |none=>
   rw[ht]at h
   simp only at h
   cases hl:anF top next l with
   |none=>rw[hl]at h;cases h
   |some r=>
    obtain⟨l',R⟩:=r
    rw[hl]at h
    simp only[Option.map_some,Option.some.injEq]at h
    subst h
    obtain⟨b1,b2,b3,b4⟩:=Qhv l _ hl hq.2 (fun f hf=>h2 f (by simp[hf]))
    refine⟨⟨hq.1,b1⟩,by simp only[List.length_cons,b2],fun g hg=>?_,(b4.mono (cntN (.mk 2 n b [k0] a)) (apN (.mk 2 n b [k0] a))).eq (by simp only[cntNs];omega) (by simp only[apNs];omega) (by simp only[cntNs];omega) (by simp only[apNs];omega)⟩
    rcases List.mem_cons.1 hg with rfl|hg
    ·rfl
    ·exact b3 g hg
structure RInv (n0:Int)(root:Tr)(fns:List Tr)(ids:List Int)(next:Int):Prop where
 r:allT qL root
 q:allTs qL fns
 o:∀f∈fns,f.op=2
 a:apN root+apNs fns<=4096
 c:cntN root+cntNs fns<=4096+24576 * ids.length
 l:fns.length=ids.length
 t:ids.length<=16
 n:n0<=next
 m:next<=n0+96 * ids.length
theorem Qed{n0:Int}{root:Tr}{fns:List Tr}{ids:List Int}{next:Int}(h:RInv n0 root fns ids next){X:Tr×List Tr×List Int×Int}(hx:anyT ids next root fns=some X):
  RInv n0 X.1 X.2.1 X.2.2.1 X.2.2.2/\ids.length < X.2.2.1.length:=by
 obtain⟨h1,h2,h3,h4,h5,h6,h7,h8,h9⟩:=h
 unfold anyT at hx
 cases hf:fiT ids next root with
 |some r=>
  obtain⟨t',nf,g,nx⟩:=r
  rw[hf]at hx
  simp only[Option.some.injEq]at hx
  subst hx
  obtain⟨a1,a2,a3⟩:=Qci root _ hf h1
  obtain⟨b1,b2,b3,b4,b5,b6,b7,b8,b9⟩:=a3
  simp only at b1 b2 b3 b4 b5 b6 b7 b8 b9
  refine⟨⟨a1,Q2j h2 b1,fun f hf=>?_,?_,?_,?_,?_,by simp only;omega,?_⟩,by simp only[List.length_append];omega⟩
  ·rcases List.mem_append.1 hf with hf|hf
   ·exact h3 f hf
   ·exact b2 f hf
  ·simp only[Q5s];omega
  ·simp only[Q1l,List.length_append];omega
  ·simp only[List.length_append];omega
  ·simp only[List.length_append];omega
  ·simp only[List.length_append];push_cast;omega
 |none=>
  rw[hf]at hx
  simp only at hx
  cases hl:anF ids next fns with
  |none=>rw[hl]at hx;cases hx
  |some r=>
   obtain⟨l',nf,g,nx⟩:=r
   rw[hl]at hx
   simp only[Option.map_some,Option.some.injEq]at hx
   subst hx
   obtain⟨a1,a2,a3,a4⟩:=Qhv fns _ hl h2 h3
   obtain⟨b1,b2,b3,b4,b5,b6,b7,b8,b9⟩:=a4
   simp only at b1 b2 b3 b4 b5 b6 b7 b8 b9 a1 a2 a3
   refine⟨⟨h1,Q2j a1 b1,fun f hf=>?_,?_,?_,?_,?_,by simp only;omega,?_⟩,by simp only[List.length_append];omega⟩
   ·rcases List.mem_append.1 hf with hf|hf
    ·exact a3 f hf
    ·exact b2 f hf
   ·simp only[Q5s];omega
   ·simp only[Q1l,List.length_append];omega
   ·simp only[List.length_append];omega
   ·simp only[List.length_append];omega
   ·simp only[List.length_append];push_cast;omega
theorem inv_put{F:Nat->Prop}{w:World}{C:Ctx}{σ:St}(L:List (Nat×AObj))(hi:Inv Γ F w C σ)(h:∀p∈L,∃cs cs',p.2=.cells cs'/\σ.ou p.1=some (.cells cs)/\WkL cs cs'):Inv Γ F w C { σ with ou:=putU σ.ou L }:=by
 refine Qca hi rfl fun i o ho=>?_
 cases i with
 |l m=>exact .inl ho
 |o m=>
  have ho':putU σ.ou L m=some o:=ho
  unfold putU at ho'
  cases hl:lookO L m with
  |none=>rw[hl]at ho';exact .inl ho'
  |some q=>
   rw[hl]at ho'
   cases ho'
   obtain⟨cs,cs',e1,e2,e3⟩:=h _ (Q6v hl)
   exact .inr ⟨cs,cs',e1,e2,e3⟩
def lsB (s:LS)(t:LTk):List AC:=[.box (cTr (erK t)),.gs 1 (s.ids.map cI) (.o s.ti),.gs 1 (Q05 (erKs s.fns)) (.o s.tf),int s.next]
def lsP (s:LS)(t:LTk):List (Nat×AObj):=objs (lsL t)++objss (lsLs s.fns)
theorem Qj3(s:LS)(t:LTk){σ:St}(ho:Owns σ.ou (obL s++(obK t++obKs s.fns))):∀p∈lsP s t,∃cs cs',p.2=.cells cs'/\σ.ou p.1=some (.cells cs)/\WkL cs cs':=by
 intro p hp
 unfold lsP at hp
 simp only[List.mem_append]at hp
 obtain⟨h1,h23⟩:=Owns.app.1 ho
 obtain⟨h2,h3⟩:=Owns.app.1 h23
 rcases hp with hp|hp
 ·obtain⟨tk,o1,n1,b1,k1,a1,e1,e2⟩:=Q9l t _ hp
  exact⟨_,_,e1,h2 _ e2,.cons (.refl _) (.cons (.refl _) (.cons (.refl _) (.cons (.gsE rfl) (.cons (.refl _) .nil))))⟩
 ·obtain⟨tk,o1,n1,b1,k1,a1,e1,e2⟩:=Q5f s.fns _ hp
  exact⟨_,_,e1,h3 _ e2,.cons (.refl _) (.cons (.refl _) (.cons (.refl _) (.cons (.gsE rfl) (.cons (.refl _) .nil))))⟩
theorem Qgd(s:LS)(t:LTk):∀p∈lsP s t,∃cs,p.2=.cells cs:=by
 intro p hp
 unfold lsP at hp
 simp only[List.mem_append]at hp
 rcases hp with hp|hp
 ·exact Q60 _ p hp
 ·exact Q3k _ p hp
theorem Q6u(s:LS)(t:LTk):∀x,(keys (lsP s t)).count x<=(keys (obK t++obKs s.fns)).count x:=by
 intro x
 obtain⟨r1,hr1⟩:=Q7h t
 obtain⟨r2,hr2⟩:=Q4o s.fns
 have e1:=hr1.count_eq x
 have e2:=hr2.count_eq x
 simp only[lsP,keys,List.map_append,List.count_append]at e1 e2 ⊢
 omega
def frzU (ou:Outer)(s:LS)(t:LTk):Outer:=updO (deadL (putU ou (lsP s t)) (keys (lsP s t))) s.id (.cells (lsB s t))
theorem AOps.freezeLS{E:Env}{ops:Array Oper}{l:List Oper}{K:Cont}{fr:Fr}{σ:St}(s:LS)(t:LTk)(d5:Nat)(ho:Owns σ.ou (obL s++(obK t++obKs s.fns)))(hn:(keys (obL s++(obK t++obKs s.fns))).Nodup)(hc:s.c0=.ptr (.o t.id) 0)
  (h5:Fr.get d5 fr=some (.one (.ptr (.o t.id) 0)))
  (h:AOps E ops l K ((d5,.one (.box (cTr (erK t))))::fr) { σ with ou:=frzU σ.ou s t }):AOps E ops l K fr σ:=by
 intro F w0 C0 w C tmps hgo hi hf
 have hnP:(keys (lsP s t)).Nodup:=nd_le hn fun x=>by have:=Q6u s t x;simp only[keys,List.map_append,List.count_append]at this ⊢;omega
 have hi2:=inv_put (lsP s t) hi (Qj3 s t ho)
 have hO2:Owns (putU σ.ou (lsP s t)) (lsP s t):=Q6s hnP
 obtain⟨C',g1,g2,g3,g4⟩:=Q7j (σ:={ σ with ou:=putU σ.ou (lsP s t) }) (lsP s t) hi2 hO2 hnP (Qgd s t)
 have hch:Chg isO w C w C':=g1.chg.weaken fun _ _=>trivial
 have hrt:RL w C' (cTr (erK t)) ⟨C.blk (.o t.id),0,none⟩:=by
  have:=Q9g hi2 hch (lsL t) (fun p hp=>hO2 p (by simp[lsP,hp])) fun k hk=>g4 k (by simp[lsP,keys]at hk ⊢;exact .inl hk)
  rwa [Qcj,Qge]at this
 have hrf:∀ad:Addr,RS w C 1 (kK s.fns) ad->RS w C' 1 (Q05 (erKs s.fns)) ad:=fun ad had=>by
  have:=Q5d hi2 hch (lsLs s.fns) (fun p hp=>hO2 p (by simp[lsP,hp])) (fun k hk=>g4 k (by simp[lsP,keys]at hk ⊢;exact .inr hk)) ad (by rw[Qc9];exact had)
  rwa [Q5n]at this
 have hsP:s.id∉keys (lsP s t):=fun hm=>by
  have h1:=List.count_pos_iff.2 hm
  have h2:=Q6u s t s.id
  have h3:=List.nodup_iff_count.1 hn s.id
  simp only[obL,keys,List.map_append,List.map_cons,List.map_nil,List.count_append,List.count_cons,List.count_nil,beq_self_eq_true,if_true]at h1 h2 h3
  omega
 have hs0:=ho (s.id,lsO s) (by simp[obL])
 have hgA:σ.get (.o s.id)=some (lsO s):=hs0
 have hgB:St.get { σ with ou:=deadL (putU σ.ou (lsP s t)) (keys (lsP s t)) } (.o s.id)=some (lsO s):=by
  show deadL (putU σ.ou (lsP s t)) (keys (lsP s t)) s.id=_
  unfold deadL
  rw[if_neg hsP,Q9f hsP];exact hs0
 obtain⟨hokA,zs,TA,a1,a2,a3,a4⟩:=hi.obj _ _ hgA
 obtain⟨hok,zs2,T,b1,b2,b3,b4⟩:=g2.obj _ _ hgB
 have ez:zs2=zs:=by
  rw[g3]at b1
  have:=a1.symm.trans b1
  simp at this
  exact this.1.symm
 have hrv:RV w C' (lsB s t) zs2:=by
  rw[ez]
  rw[hc]at a3
  simp only[RV]at a3
  obtain⟨v1,_,rfl,h1,v2,_,rfl,h2,v3,_,rfl,h3,v4,_,rfl,h4,rfl⟩:=a3
  simp only[lsB,RV]
  refine⟨_,_,rfl,?_,_,_,rfl,h2.ext g1.chg,_,_,rfl,?_,_,_,rfl,h4.ext g1.chg,rfl⟩
  ·simp only[R]at h1 ⊢
   exact⟨_,h1.2,rfl,hrt⟩
  ·have hel:(Q05 (erKs s.fns)).length=(kK s.fns).length:=by rw[Q0q,Q1s];simp[Q0w]
   simp only[R]at h3 ⊢
   obtain⟨k1,k2⟩:=h3
   obtain⟨i1,_,i3⟩:=g1.chg.id (.o s.tf) trivial k1
   refine⟨i1,?_⟩
   rcases k2 with ⟨k2,k3,k4⟩|⟨g,cap,k2,k3,k4,k5⟩
   ·have:s.fns.length=0:=by rw[←Q1s,k3];rfl
    have hnil:s.fns=[]:=List.length_eq_zero_iff.1 this
    exact .inl ⟨k2,by rw[hnil];rfl,by rw[i3];exact k4⟩
   ·exact .inr ⟨g,cap,by rw[hel];exact k2,by rw[hel];exact k3,by rw[i3];exact k4,hrf _ k5⟩
 obtain⟨he,hi'⟩:=g2.turn hgB (g:=C'.blk (.o s.id)) rfl (w':=w) rfl (fun _ _=>rfl) (fun _ _ _=>rfl) (o':=.cells (lsB s t)) rfl fun _=>⟨zs2,T,b1,b2,hrv,b4⟩
 have hst:St.set { σ with ou:=deadL (putU σ.ou (lsP s t)) (keys (lsP s t)) } (.o s.id) (.cells (lsB s t))={ σ with ou:=frzU σ.ou s t }:=Q2l _ _ _ _ _
 rw[hst]at hi'
 refine h F w0 C0 w C' tmps (hgo.trans g1.toO) hi' ⟨hf.1,fun k x hk=>?_⟩
 simp only[Fr.get]at hk
 by_cases e:d5=k
 ·subst e
  simp at hk
  subst hk
  obtain⟨u,hu,hr⟩:=hf.2 d5 _ h5
  simp only[RF,R]at hr
  exact⟨u,hu,_,hr.2,rfl,hrt⟩
 ·rw[Q07 e]at hk
  obtain⟨u,hu,hr⟩:=hf.2 k x hk
  exact⟨u,hu,hr.ext g1.chg⟩
end Go.Proofs.YtmdkenkhaicbeaaGreatDoor
