/- How often identifiers are used does not change when they are renamed. No condition. -/
import Derived.Test.YtpaonemmbhbgoaaGreatDoorR9
set_option maxRecDepth 10000
set_option linter.unusedVariables false
set_option linter.unusedSimpArgs false
namespace Go.CoreX
end Go.CoreX
namespace Go.CoreX
def atomT (t:Tr):Bool:=t.op==0||t.op==1||(t.op==6&&t.kids.length==0)
mutual
def valT:Tr->Bool
 |.mk o n b k a=>atomT (.mk o n b k a)||o==2||(if o=5 then Q90 k else if o=6∨o=9∨o=4 then valTs k else false)
def valTs:List Tr->Bool
 |[]=>true
 |t::l=>valT t&&valTs l
def Q90:List Tr->Bool
 |[]=>true
 |t::l=>match l with
  |[]=>valT t
  |_::_=>Q90 l
end
mutual
def usesN (id:Int):Tr->Nat
 |.mk o n b k a=>if o=0 then (if n=id then 1 else 0)else Q6h id k
def Q6h (id:Int):List Tr->Nat
 |[]=>0
 |t::l=>usesN id t+Q6h id l
end
mutual
def subT (id:Int)(v:Tr):Tr->Tr
 |.mk o n b k a=>if o=0 then (if n=id then v else .mk o n b k a)else .mk o n b (subTs id v k) a
def subTs (id:Int)(v:Tr):List Tr->List Tr
 |[]=>[]
 |t::l=>subT id v t::subTs id v l
end
def letT (id:Int)(v body:Tr):Tr:=.mk 4 0 [id] [v,body] []
def letsT:List Int->List Tr->Tr->Tr
 |i::is,t::ts,b=>letT i t (letsT is ts b)
 |_,_,b=>b
def wrapI (n:Int):Int:=(n+1073741824) % 2147483648 - 1073741824
def wordT (n:Int):Tr:=.mk 1 n [] [] []
def flagT (b:Bool):Tr:=.mk 6 (if b then 1 else 0) [] [] []
def kidT (t:Tr)(i:Nat):Tr:=t.kids.getD i default
def Q8j (t:Tr):Option Tr:=
 let x:=kidT t 0;let y:=kidT t 1
 if t.n > 6∨x.op≠1∨y.op≠1 then none
 else if t.n=0 then some (wordT (wrapI (x.n+y.n)))
 else if t.n=1 then some (wordT (wrapI (x.n - y.n)))
 else if t.n=2 then some (wordT (wrapI (x.n * y.n)))
 else if t.n=3 then (if y.n=0 then none else some (wordT (wrapI (x.n.tdiv y.n))))
 else if t.n=4 then (if y.n=0 then none else some (wordT (wrapI (x.n.tmod y.n))))
 else if t.n=6 then some (flagT (x.n==y.n))
 else if t.n=5 then some (flagT (decide (x.n < y.n)))
 else some (wordT (wrapI 0))
def Q42 (con:Tr):List Alt->List Tr->Option Tr
 |a::as',k::ks=>if a.tag=con.n then (if a.binds.length≠con.kids.length then none else some (letsT a.binds con.kids k))else if a.tag=-1/\valT con=true then some k else Q42 con as' ks
 |_,_=>none
def Q6a (t:Tr):Option Tr:=Q42 (kidT t 0) t.alts t.kids.tail
def Q5f (n:Int):List Int->List Tr->Option Tr
 |b::bs,k::ks=>if b=n then some k else Q5f n bs ks
 |_,_=>none
def Qa9 (t:Tr):Option Tr:=
 let row:=kidT t 0
 if row.op≠9∨valT row=false then none else Q5f t.n row.binds row.kids
def Q58 (t:Tr):Nat:=
 if t.op=3∨t.op=6∨t.op=8∨t.op=9∨t.op=10∨t.op=11 then t.kids.length else if t.op=7∨t.op=12 then 1 else 0
mutual
def mostT:Tr->Int
 |.mk o n b k a=>Qbi ((Q07 o b a).foldl max (-1)) k
def Qbi (m:Int):List Tr->Int
 |[]=>m
 |t::l=>Qbi (max m (mostT t)) l
end
def Q8d (root t:Tr)(n:Int):Option Tr:=
 if n < 0∨(Q58 t:Int)<=n∨atomT (kidT t n.toNat)=true then none
 else if (t.kids.take n.toNat).all valT=false then none
 else some (letT (mostT root+1) (kidT t n.toNat) (.mk t.op t.n t.binds (t.kids.set n.toNat (.mk 0 (mostT root+1) [] [] [])) t.alts))
def defN (id:Int)(t:Tr):List Int->Nat->Option Tr
 |[],_=>none
 |b::bs,i=>if b=id/\(t.op=4∨t.op=5)/\(kidT t i).op=2 then some (kidT t i)else defN id t bs (i+1)
def defT (id:Int):List Tr->Option Tr
 |[]=>none
 |t::l=>match defN id t t.binds 0 with
  |some f=>some f
  |none=>defT id l
def Q4z (nodes:List Tr)(root t:Tr):Option Tr:=(defT t.n nodes).map fun f=>(rnT nmN (mostT root+1) f).1
def Q6v (rule:Int)(t:Tr):Option Tr:=
 let v:=kidT t 0;let body:=kidT t 1;let id:=t.binds.getD 0 0
 if rule=2/\atomT v=true then some (subT id v body)
 else if rule=3/\usesN id body=0/\valT v=true then some body
 else if rule=8/\v.op=4 then some (letT (v.binds.getD 0 0) (kidT v 0) (letT id (kidT v 1) body))
 else if rule=9/\v.op=7/\v.alts.length=1 then some (.mk 7 0 [] [kidT v 0,letT id (kidT v 1) body] v.alts)
 else if rule=11/\v.op=2/\usesN id body=1 then some (subT id v body)
 else none
def Q60 (t:Tr):Bool:=t.binds.all fun id=>usesN id (kidT t t.binds.length)==0
def resT (nodes:List Tr)(root:Tr)(rule n:Int)(t:Tr):Option Tr:=
 if n≠0/\rule≠10 then none
 else if rule=1/\t.op=3/\(kidT t 0).op=2/\((kidT t 0).binds.length:Int)=t.kids.length - 1 then some (letsT (kidT t 0).binds t.kids.tail (kidT (kidT t 0) 0))
 else if t.op=4/\rule≠10 then Q6v rule t
 else if rule=4/\t.op=5/\Q60 t=true then some (kidT t t.binds.length)
 else if rule=5/\t.op=7/\(kidT t 0).op=6 then Q6a t
 else if rule=6/\t.op=8/\t.kids.length=2 then Q8j t
 else if rule=7/\t.op=10 then Qa9 t
 else if rule=10 then Q8d root t n
 else if rule=12/\t.op=0 then Q4z nodes root t
 else none
def Q6z (p:Nat)(u:Tr)(ts:List Tr)(x:Ex):List Tr:=ts++[if ts.length=p then u else Q2m ts x]
def Q32 (e:List Ex)(p:Nat)(u:Tr):List Tr:=e.foldl (Q6z p u) []
def growR (e:List Ex)(p:Nat)(u:Tr):Tr:=(Q32 e p u).getD (e.length - 1) default
def Q0p (e:List Ex)(rule at' n:Int):List Ex×Int:=
 if check e≠0 then ([],check e)
 else if rule < 1∨12 < rule then ([],4)
 else if at' < 0∨(e.length:Int)<=at' then ([],12)
 else match resT (growL e) (grow e) rule n (Q0b e at'.toNat) with
  |none=>([],12)
  |some x=>if check (listT [] (growR e at'.toNat x))≠0 then ([],2)else (listT [] (growR e at'.toNat x),0)
def manyE (e:List Ex)(id:Int):Nat:=e.countP fun x=>x.op==0&&x.n==id
def Qdd (rule:Int)(t:Tr)(many:Nat):Bool:=
 let v:=kidT t 0
 if rule=2 then atomT v
 else if rule=3 then many==0&&valT v
 else if rule=8 then v.op==4
 else if rule=9 then v.op==7&&v.alts.length==1
 else if rule=11 then v.op==2&&many==1
 else false
def restT (t:Tr)(many:Int->Nat):Bool:=!(t.binds.any fun id=>decide (0 < many id))||Q60 t
def canT (rule:Int)(t:Tr)(many:Int->Nat):Bool:=
 if t.op=4 then Qdd rule t (many (t.binds.getD 0 0))
 else if rule=4/\t.op=5 then restT t many
 else if rule=6/\t.op=8 then t.kids.length==2&&(Q8j t).isSome
 else if rule=7/\t.op=10 then (Qa9 t).isSome
 else if rule=5/\t.op=7 then (kidT t 0).op==6&&(Q6a t).isSome
 else if rule=1/\t.op=3 then (kidT t 0).op==2&&((kidT t 0).binds.length:Int)==t.kids.length - 1
 else false
def Q8c:List Int:=[3,4,6,7,5,1,2,11,8,9]
def nextE (e:List Ex):Option (Int×Nat):=Q8c.findSome? fun r=>((growL e).zipIdx.find? fun p=>canT r p.1 (manyE e)).map fun p=>(r,p.2)
theorem Q5q(e:List Ex)(p:Nat)(u:Tr):(Q32 e p u).length=e.length:=by
 have:∀(l:List Ex) (ts:List Tr),(l.foldl (Q6z p u) ts).length=ts.length+l.length:=by
  intro l
  induction l with
  |nil=>intro ts;simp
  |cons x l ih=>intro ts;rw[List.foldl_cons,ih];simp[Q6z];omega
 unfold Q32
 rw[this];simp
end Go.CoreX
namespace Go.CoreX
mutual
def putL (k:Nat)(u:LTr):LTr->LTr
 |.mk i o n nb b ks a=>if i=k then u else .mk i o n nb b (putLs k u ks) a
def putLs (k:Nat)(u:LTr):List LTr->List LTr
 |[]=>[]
 |t::l=>putL k u t::putLs k u l
end
theorem Q39(k:Nat)(u:LTr):∀l:List LTr,putLs k u l=l.map (putL k u)
 |[]=>rfl
 |t::l=>by simp[putLs,Q39 k u l]
theorem Ql9{k:Nat}{u:LTr}(hu:u.id=k):∀t:LTr,(putL k u t).id=t.id
 |.mk i o n nb b ks a=>by
  simp only[putL]
  split
  ·rename_i h;rw[hu];exact h.symm
  ·rfl
inductive SubL (t0:LTr):LTr->Prop
 |here:SubL t0 t0
 |kid {t s:LTr}:s∈t.kids->SubL t0 s->SubL t0 t
theorem SubL.trans{a b c:LTr}(h:SubL a b)(k:SubL b c):SubL a c:=by
 induction k with
 |here=>exact h
 |kid hs _ ih=>exact .kid hs ih
theorem Qa3(e:List Ex)(x:Ex)(p:Nat)(U:Tr):Q32 (e++[x]) p U=Q32 e p U++[if e.length=p then U else Q2m (Q32 e p U) x]:=by
 have:=Q5q e p U
 unfold Q32 at this ⊢
 rw[List.foldl_append,List.foldl_cons,List.foldl_nil,Q6z,this]
theorem Qjp(p:Nat)(U:Tr)(l:List Ex):∀e:List Ex,∃r,Q32 (e++l) p U=Q32 e p U++r:=by
 induction l with
 |nil=>intro e;exact⟨[],by simp⟩
 |cons x l ih=>
  intro e
  obtain⟨r,hr⟩:=ih (e++[x])
  rw[List.append_assoc]at hr
  exact⟨_,by rw[show e++x::l=e++([x]++l) by simp,hr,Qa3,List.append_assoc]⟩
theorem Qbs{p:Nat}{U:Tr}{e l:List Ex}{i:Nat}(h:i < e.length):(Q32 (e++l) p U).getD i default=(Q32 e p U).getD i default:=by
 obtain⟨r,hr⟩:=Qjp p U l e
 rw[hr,Q70 (by rw[Q5q];exact h)]
theorem Qa4{e:List Ex}(hk:Q0t e)(p:Nat)(U:Tr){j:Nat}{x:Ex}(hx:e[j]?=some x):(Q32 e p U).getD j default=if j=p then U else .mk x.op x.n x.binds (x.kids.map fun q=>(Q32 e p U).getD q.toNat default) x.alts:=by
 obtain⟨h1,h2⟩:=List.getElem?_eq_some_iff.1 hx
 have he:e=e.take j++x::e.drop (j+1):=by rw[←h2,←List.drop_eq_getElem_cons h1,List.take_append_drop]
 have hl:(e.take j).length=j:=by simp;omega
 have hkj:=hk j x hx
 have h3:(Q32 e p U).getD j default=(Q32 (e.take j++[x]) p U).getD j default:=by
  conv=>lhs;rw[he,show e.take j++x::e.drop (j+1)=(e.take j++[x])++e.drop (j+1) by simp]
  exact Qbs (by simp;omega)
 rw[h3,Qa3,hl,List.getD_eq_getElem?_getD,List.getElem?_append_right (by rw[Q5q,hl];exact Nat.le_refl _),Q5q,hl]
 simp only[Nat.sub_self,List.getElem?_cons_zero,Option.getD_some]
 split
 ·rfl
 ·simp only[Q2m]
  congr 1
  refine List.map_congr_left fun q hq=>?_
  have:=hkj q hq
  conv=>rhs;rw[he]
  exact (Qbs (by rw[hl];omega)).symm
end Go.CoreX
namespace Go.Proofs.YtpaonemmbhbgoaaGreatDoor
open Go Go.Abs Go.CoreX
theorem putL_kC{k:Nat}{u:LTr}(hu:u.id=k)(l:List LTr):kC (putLs k u l)=kC l:=by
 rw[Q39]
 simp only[kC,List.map_map]
 exact List.map_congr_left fun t _=>by simp only[Function.comp,Ql9 hu]
mutual
theorem Ql8{k:Nat}{u:LTr}:∀t:LTr,k∉keys (objs t)->putL k u t=t
 |.mk i o n nb b ks a,h=>by
  simp only[objs,keys,List.cons_append,List.map_cons,List.map_append,List.mem_cons,List.mem_append,not_or]at h
  simp only[putL]
  rw[if_neg (fun e=>h.1 e.symm),Q3f ks h.2.2]
theorem Q3f{k:Nat}{u:LTr}:∀l:List LTr,k∉keys (objss l)->putLs k u l=l
 |[],_=>rfl
 |t::l,h=>by
  simp only[objss,keys,List.map_append,List.mem_append,not_or]at h
  simp only[putLs]
  rw[Ql8 t h.1,Q3f l h.2]
end
theorem Q8t{t s:LTr}(h:s∈t.kids){p:Nat×AObj}(hp:p∈objs s):p∈objss t.kids:=by
 rw[Q3s];exact List.mem_flatMap.2 ⟨s,h,hp⟩
theorem Qh0{t0 t:LTr}(h:SubL t0 t):∀p∈objs t0,p∈objs t:=by
 induction h with
 |here=>exact fun p hp=>hp
 |kid hs _ ih=>exact fun p hp=>(Q8s _ p).2 (.inr (Q8t hs (ih p hp)))
theorem Q0s{l:List (Nat×AObj)}{p:Nat×AObj}(h:p∈l):p.1∈keys l:=List.mem_map_of_mem h
theorem Q1g{l:List (Nat×AObj)}{k:Nat}(h:k∈keys l):∃o,(k,o)∈l:=by
 obtain⟨⟨j,o⟩,h1,h2⟩:=List.mem_map.1 h
 simp at h2;subst h2
 exact⟨o,h1⟩
def tailO:LTr->List (Nat×AObj)
 |.mk i o n nb b k a=>(bO nb b++aO a)++objss k
theorem Q0d:∀t:LTr,objs t=(t.id,.cells (lC t))::tailO t
 |.mk i o n nb b k a=>rfl
theorem Q1f{t s:LTr}(h:s∈t.kids){p:Nat×AObj}(hp:p∈objs s):p∈tailO t:=by
 cases t with
 |mk i o n nb b k a=>exact List.mem_append.2 (.inr (Q8t h hp))
theorem Q9a{t:LTr}(h:(keys (objs t)).Nodup):t.id∉keys (tailO t):=by
 rw[Q0d,show keys ((t.id,AObj.cells (lC t))::tailO t)=t.id::keys (tailO t)from rfl]at h
 exact (List.nodup_cons.1 h).1
theorem Ql7{u t0 t:LTr}(h:SubL t0 t)(hn:(keys (objs t)).Nodup)(hu:u.id=t0.id):∀p∈objs (putL t0.id u t),p∈objs u∨(p∈objs t/\p.1∉keys (objs t0)):=by
 induction h with
 |here=>
  intro p hp
  cases t0 with
  |mk i o n nb b k a=>
   simp only[putL,LTr.id,if_true]at hp
   exact .inl hp
 |@kid t s hs hsub ih=>
  have h0:∀k∈keys (objs t0),k∈keys (objs s):=fun k hk=>by
   obtain⟨o,ho⟩:=Q1g hk
   exact Q0s (Qh0 hsub _ ho)
  cases t with
  |mk i o n nb b ks a=>
   simp only[LTr.kids]at hs
   obtain⟨l1,l2,rfl⟩:=List.append_of_mem hs
   have hn2:=hn
   simp only[objs,Q3l,keys,List.cons_append,List.map_cons,List.map_append,show objss (s::l2)=objs s++objss l2 from rfl,List.nodup_cons,List.nodup_append,List.mem_append,not_or]at hn2
   obtain⟨⟨n1,n2,n3,n4⟩,⟨m1,m2⟩,m3⟩:(i∉keys (bO nb b++aO a)/\i∉keys (objss l1)/\i∉keys (objs s)/\i∉keys (objss l2))/\((∀k∈keys (bO nb b++aO a),k∉keys (objs s))/\True)/\(keys (objs s)).Nodup/\(∀k∈keys (objss l1),k∉keys (objs s))/\∀k∈keys (objss l2),k∉keys (objs s):=by
    obtain⟨⟨a1,a2⟩,a3⟩:=hn2
    simp only[keys,List.map_append,List.mem_append,not_or]
    refine⟨⟨⟨a1.1,a1.2⟩,a2.1,a2.2.1,a2.2.2⟩,⟨?_,trivial⟩,?_,?_,?_⟩
    ·intro k hk hk2
     exact a3.2.2 k (by simpa using hk) k (.inr (.inl hk2)) rfl
    ·exact a3.2.1.2.1.1
    ·intro k hk hk2
     exact a3.2.1.2.2 k hk k (.inl hk2) rfl
    ·intro k hk hk2
     exact a3.2.1.2.1.2.2 k hk2 k hk rfl
   have hid:t0.id∈keys (objs s):=h0 _ (Qbq t0)
   have e1:putLs t0.id u (l1++s::l2)=l1++putL t0.id u s::l2:=by
    rw[Q39,List.map_append,List.map_cons,←Q39,←Q39]
    rw[Q3f l1 fun hk=>m3.2.1 _ hk hid,Q3f l2 fun hk=>m3.2.2 _ hk hid]
   have e2:i≠t0.id:=fun e=>n3 (e▸hid)
   intro p hp
   simp only[putL,if_neg e2,objs,putL_kC hu,List.cons_append,List.mem_cons,List.mem_append]at hp
   rw[e1,Q3l,show objss (putL t0.id u s::l2)=objs (putL t0.id u s)++objss l2 from rfl]at hp
   simp only[List.mem_append]at hp
   simp only[objs,Q3l,List.cons_append,List.mem_cons,List.mem_append,show objss (s::l2)=objs s++objss l2 from rfl]
   rcases hp with rfl|hp|hp|hp|hp
   ·exact .inr ⟨.inl rfl,fun hk=>n3 (h0 _ hk)⟩
   ·exact .inr ⟨.inr (.inl hp),fun hk=>m1 _ (Q0s (List.mem_append.2 hp)) (h0 _ hk)⟩
   ·exact .inr ⟨.inr (.inr (.inl hp)),fun hk=>m3.2.1 _ (Q0s hp) (h0 _ hk)⟩
   ·rcases ih m3.1 p hp with h1|⟨h1,h2⟩
    ·exact .inl h1
    ·exact .inr ⟨.inr (.inr (.inr (.inl h1))),h2⟩
   ·exact .inr ⟨.inr (.inr (.inr (.inr hp))),fun hk=>m3.2.2 _ (Q0s hp) (h0 _ hk)⟩
end Go.Proofs.YtpaonemmbhbgoaaGreatDoor
namespace Go.CoreX
theorem Qov(k:Nat)(u:LTr)(l:List LTr):erTs (putLs k u l)=l.map fun t=>erT (putL k u t):=by rw[Q0g,Q39,List.map_map];rfl
end Go.CoreX
namespace Go.Proofs.YtpaonemmbhbgoaaGreatDoor
open Go Go.Abs Go.CoreX
section
variable {e:List Ex}{lts:List LTr}{B:Nb->List Int->Prop}
theorem LinkL.put_er(h:LinkL e lts B)(hk:Q0t e)(hid:∀(i j:Nat)(ti tj:LTr),lts[i]?=some ti->lts[j]?=some tj->ti.id=tj.id->i=j){p:Nat}{t0:LTr}(hp:lts[p]?=some t0)(u:LTr):∀(n j:Nat)(t:LTr),j < n->lts[j]?=some t->erT (putL t0.id u t)=(Q32 e p (erT u)).getD j default
 |0,j,t,hj,_=>by omega
 |n+1,j,t,hj,ht=>by
  have hjl:j < e.length:=by rw[←h.len];exact (List.getElem?_eq_some_iff.1 ht).1
  obtain⟨x,hx⟩:=Q00 hjl
  obtain⟨id,nb,a,h1,h2,_⟩:=h.at_ j x hx
  rw[Qa4 hk p (erT u) hx]
  by_cases hjp:j=p
  ·subst hjp
   rw[hp]at ht
   cases ht
   rw[if_pos rfl]
   cases t0 with
   |mk i o n nb b ks a=>simp only[putL,LTr.id,if_true]
  ·rw[if_neg hjp]
   have hne:t.id≠t0.id:=fun e1=>hjp (hid j p t t0 ht hp e1)
   rw[ht]at h1
   cases h1
   have hne2:¬id=t0.id:=hne
   simp only[putL]
   rw[if_neg hne2]
   simp only[erT,h2,Qov,List.map_map]
   congr 1
   refine List.map_congr_left fun q hq=>?_
   have hq':=hk j x hx q hq
   obtain⟨t',ht'⟩:=Q00 (l:=lts) (i:=q.toNat) (by rw[h.len];omega)
   simp only[Function.comp,h.getD ht']
   exact h.put_er hk hid hp u n q.toNat t' (by omega) ht'
theorem LinkL.sub(h:LinkL e lts B)(hT:IsTree e){root:LTr}(hr:lts[e.length - 1]?=some root):∀(k:Nat)(t:LTr),lts[k]?=some t->SubL t root:=by
 have key:∀(d k:Nat) (t:LTr),lts[k]?=some t->e.length - k=d->SubL t root:=by
  intro d
  induction d using Nat.strongRecOn with
  |_ d ih=>
   intro k t ht hd
   have hk:k < e.length:=by rw[←h.len];exact (List.getElem?_eq_some_iff.1 ht).1
   by_cases hl:k+1 < e.length
   ·have hc:=(hT.c k hk).2 hl
    obtain⟨i,x,hx,hkx⟩:=Qgh (e:=e) (k:=k) (by omega)
    have hb:=hT.k i x hx _ hkx
    have hi:=(List.getElem?_eq_some_iff.1 hx).1
    obtain⟨id,nb,a,h1,_⟩:=h.at_ i x hx
    have hp:=ih (e.length - i) (by omega) i _ h1 rfl
    refine SubL.trans (.kid ?_ .here) hp
    simp only[LTr.kids]
    exact List.mem_map.2 ⟨_,hkx,by rw[Int.toNat_natCast,h.getD ht]⟩
   ·have:k=e.length - 1:=by omega
    subst this
    rw[hr]at ht;cases ht
    exact .here
 exact fun k t ht=>key _ k t ht rfl
end
theorem Q69{t:LTr}{l:List LTr}(h:t∈l):cntN (erT t)<=cntNs (erTs l):=by
 induction l with
 |nil=>cases h
 |cons x l ih=>
  simp only[erTs,cntNs]
  rcases List.mem_cons.1 h with rfl|h
  ·omega
  ·have:=ih h;omega
theorem Q5h:∀(l r:List Tr),cntNs (l++r)=cntNs l+cntNs r
 |[],r=>by simp[cntNs]
 |t::l,r=>by simp only[List.cons_append,cntNs,Q5h l r];omega
theorem put_cnt{u t0 t:LTr}(h:SubL t0 t)(hn:(keys (objs t)).Nodup):cntN (erT (putL t0.id u t))<=cntN (erT t)+cntN (erT u):=by
 induction h with
 |here=>
  cases t0 with
  |mk i o n nb b k a=>simp only[putL,LTr.id,if_true];omega
 |@kid t s hs hsub ih=>
  have h0:∀k∈keys (objs t0),k∈keys (objs s):=fun k hk=>by
   obtain⟨o,ho⟩:=Q1g hk
   exact Q0s (Qh0 hsub _ ho)
  cases t with
  |mk i o n nb b ks a=>
   simp only[LTr.kids]at hs
   obtain⟨l1,l2,rfl⟩:=List.append_of_mem hs
   have hnk:(keys (objss (l1++s::l2))).Nodup:=by
    rw[Q0d]at hn
    simp only[tailO,keys,List.map_cons,List.map_append]at hn
    exact (List.nodup_append.1 (List.nodup_cons.1 hn).2).2.1
   rw[Q3l,show objss (s::l2)=objs s++objss l2 from rfl,Q0v,Q0v,List.nodup_append,List.nodup_append]at hnk
   have hid:t0.id∈keys (objs s):=h0 _ (Qbq t0)
   have e1:putLs t0.id u (l1++s::l2)=l1++putL t0.id u s::l2:=by
    rw[Q39,List.map_append,List.map_cons,←Q39,←Q39]
    rw[Q3f l1 fun hk=>hnk.2.2 _ hk _ (List.mem_append.2 (.inl hid)) rfl,Q3f l2 fun hk=>hnk.2.1.2.2 _ hid _ hk rfl]
   have ih':=ih hnk.2.1.1
   simp only[putL]
   split
   ·simp only[erT,cntN];omega
   ·simp only[erT,cntN,e1,Q0g,List.map_append,List.map_cons,Q5h,cntNs]
    omega
theorem Qdp:∀l:List (Nat×AObj),∃l':List (Nat×AObj),(∀p∈l',p∈l)/\(keys l').Nodup/\∀k,k∈keys l↔k∈keys l'
 | [] => ⟨[], fun _ h => h, by simp [keys], fun _ => Iff.rfl⟩
 |p::l=>by
  obtain⟨l',h1,h2,h3⟩:=Qdp l
  by_cases hp:p.1∈keys l'
  ·refine⟨l',fun q hq=>List.mem_cons_of_mem _ (h1 q hq),h2,fun k=>?_⟩
   rw[show keys (p::l)=p.1::keys l from rfl,List.mem_cons,h3]
   constructor
   ·rintro (rfl|h)
    ·exact hp
    ·exact h
   ·exact .inr
  ·refine⟨p::l',fun q hq=>?_,?_,fun k=>?_⟩
   ·rcases List.mem_cons.1 hq with rfl|hq
    ·simp
    ·exact List.mem_cons_of_mem _ (h1 q hq)
   ·rw[show keys (p::l')=p.1::keys l' from rfl];exact List.nodup_cons.2 ⟨hp,h2⟩
   ·rw[show keys (p::l)=p.1::keys l from rfl,show keys (p::l')=p.1::keys l' from rfl,List.mem_cons,List.mem_cons,h3]
theorem AOps.freezeU{E:Env}{ops:Array Oper}{l:List Oper}{K:Cont}{fr:Fr}{σ:St}{t:LTr}(d:Nat)(ho:Owns σ.ou (objs t))(hd:Fr.get d fr=some (.one (.ptr (.o t.id) 0)))
  (h:AOps E ops l K ((d,.one (.box (cTr (erT t))))::fr) { σ with ou:=deadL σ.ou (keys (objs t)) }):AOps E ops l K fr σ:=by
 intro F w0 C0 w C tmps hgo hi hf
 obtain⟨l',q1,q2,q3⟩:=Qdp (objs t)
 obtain⟨C',g1,g2,g3,g4⟩:=Q9z l' hi (fun p hp=>ho p (q1 p hp)) q2 fun p hp=>Q7o t p (q1 p hp)
 rw[show deadL σ.ou (keys l')=deadL σ.ou (keys (objs t))from funext fun j=>by unfold deadL;simp only[q3 j]]at g2
 refine h F w0 C0 w C' tmps (hgo.trans g1.toO) g2 ⟨hf.1,fun k x hk=>?_⟩
 simp only[Fr.get]at hk
 by_cases e:d=k
 ·subst e
  simp at hk
  subst hk
  obtain⟨u,hu,hr⟩:=hf.2 d _ hd
  simp only[RF,R]at hr
  exact⟨u,hu,_,hr.2,rfl,Qcl hi (g1.chg.weaken fun _ _=>trivial) t ho fun k hk=>g4 k ((q3 k).1 hk)⟩
 ·rw[Q05 e]at hk
  obtain⟨u,hu,hr⟩:=hf.2 k x hk
  exact⟨u,hu,hr.ext g1.chg⟩
structure Der (ou ou':Outer)(S:List (Nat×AObj))(u:LTr):Prop where
 old:∀j o,ou j=some o->ou' j=some o
 part:∀p∈objs u,p∈S∨(ou p.1=none/\ou' p.1=some p.2)
 ok:OuOk ou'
theorem Der.own{ou ou':Outer}{S:List (Nat×AObj)}{u:LTr}(h:Der ou ou' S u)(hS:Owns ou S):Owns ou' (objs u):=fun p hp=>by
 rcases h.part p hp with h1|⟨_,h1⟩
 ·exact h.old _ _ (hS p h1)
 ·exact h1
theorem Der.mono{ou ou':Outer}{S S':List (Nat×AObj)}{u:LTr}(h:Der ou ou' S u)(hS:∀p∈S,p∈S'):Der ou ou' S' u:=
 ⟨h.old,fun p hp=>(h.part p hp).imp (hS p) id,h.ok⟩
theorem Der.refl{ou:Outer}{S:List (Nat×AObj)}{u:LTr}(h:∀p∈objs u,p∈S)(hou:OuOk ou):Der ou ou S u:=⟨fun _ _ h=>h,fun p hp=>.inl (h p hp),hou⟩
theorem Der.pre{ou ou1 ou':Outer}{S:List (Nat×AObj)}{u:LTr}(h:Der ou1 ou' S u)(h0:∀j o,ou j=some o->ou1 j=some o):Der ou ou' S u:=by
 refine⟨fun j o hj=>h.old j o (h0 j o hj),fun p hp=>?_,h.ok⟩
 rcases h.part p hp with h1|⟨a,b⟩
 ·exact .inl h1
 ·refine .inr ⟨?_,b⟩
  cases ho:ou p.1 with
  |none=>rfl
  |some o=>rw[h0 _ _ ho]at a;cases a
theorem Der.not{ou ou':Outer}{S:List (Nat×AObj)}{u:LTr}(h:Der ou ou' S u){k:Nat}{o:AObj}(hk:ou k=some o)(hS:k∉keys S):k∉keys (objs u):=fun hm=>by
 obtain⟨q,hq⟩:=Q1g hm
 rcases h.part _ hq with h1|⟨h1,_⟩
 ·exact hS (Q0s h1)
 ·rw[hk]at h1;cases h1
end Go.Proofs.YtpaonemmbhbgoaaGreatDoor
namespace Go.CoreX
abbrev Step3:=Int×Int×Int
def Q0y:Nat->List Ex->List Ex×List Step3
 |0,out=>(out,[])
 |k+1,out=>match nextE out with
  |none=>(out,[])
  |some (r,i)=>if (Q0p out r i 0).2=0 then ((Q0y k (Q0p out r i 0).1).1,(r,(i:Int),0)::(Q0y k (Q0p out r i 0).1).2)else (out,[])
def simpE (e:List Ex)(b:Int):List Ex×List Step3×Int:=
 if check e≠0 then ([],[],check e)else if b < 0∨500 < b then ([],[],4)
 else ((Q0y b.toNat (listT [] (grow e))).1,(Q0y b.toNat (listT [] (grow e))).2,0)
def Ordd (e:List Ex):Prop:=check e=0/\listT [] (grow e)=e
theorem Q76{e:List Ex}{r p n:Int}(h:(Q0p e r p n).2=0):Ordd (Q0p e r p n).1:=by
 unfold Q0p at h ⊢
 split at h
 ·rename_i h1;exact absurd h h1
 rename_i h1
 rw[if_neg h1]
 split at h
 ·cases h
 rename_i h2
 rw[if_neg h2]
 split at h
 ·cases h
 rename_i h3
 rw[if_neg h3]
 split at h
 ·cases h
 rename_i x hx
 split at h
 ·cases h
 rename_i h4
 rw[if_neg h4]
 exact⟨by simpa using h4,by rw[Q12]⟩
theorem Q96:∀(k:Nat){e:List Ex},Ordd e->Ordd (Q0y k e).1
 |0,e,h=>h
 |k+1,e,h=>by
  simp only[Q0y]
  split
  ·exact h
  ·rename_i r i _
   split
   ·rename_i h2;exact Q96 k (Q76 h2)
   ·exact h
theorem Qli{e:List Ex}(h:check (listT [] (grow e))=0):Ordd (listT [] (grow e)):=⟨h,by rw[Q12]⟩
end Go.CoreX
namespace Go.CoreX
end Go.CoreX
namespace Go.CoreX
theorem Q1x{p:Lab->Prop}{t s:Tr}(ht:allT p t)(h:s∈t.kids):allT p s:=by
 cases t with
 |mk o n b k a=>
  have:∀l:List Tr,allTs p l->s∈l->allT p s:=by
   intro l
   induction l with
   |nil=>intro _ h;cases h
   |cons x l ih=>
    intro h1 h2
    rcases List.mem_cons.1 h2 with rfl|h2
    ·exact h1.1
    ·exact ih h1.2 h2
  exact this k ht.2 h
end Go.CoreX
namespace Go.CoreX
def shpL (l:Lab):Prop:=shape ⟨l.op,l.n,l.binds,l.ops,l.alts⟩=true
theorem Q5i{e:List Ex}(h:check e=0):allT shpL (grow e):=Qam (Q0f h) fun x hx=>by
 have:=Qnu h x hx
 unfold shpL labE
 rw[Qdy (ky:=x.kids) (by simp)]
 exact this
theorem Q2b{e:List Ex}(h:IsTree e){p:Lab->Prop}(ht:allT p (grow e)){k:Nat}(hk:k < e.length):allT p (Q0b e k):=
 Qkb h (P:=allT p) ht (fun t s h1 h2=>Q1x h1 h2) k hk
theorem Qh2{t:Tr}(h:allT shpL t):shape ⟨t.op,t.n,t.binds,t.kids.map Tr.op,t.alts⟩=true:=by
 cases t with
 |mk o n b k a=>exact h.1
section
variable {o n:Int}{b:List Int}{k:List Tr}{a:List Alt}(h:allT shpL (.mk o n b k a))
include h
theorem Q30{w:Int×Int×Bool}(h7:¬(o=7∨o=13))(hw:wants ⟨o,n,b,k.map Tr.op,a⟩=some w):(k.length:Int)=w.1/\(b.length:Int)=w.2.1/\a=[]:=by
 have:=Qh2 h
 simp only[Tr.op_mk,Tr.n_mk,Tr.binds_mk,Tr.kids_mk,Tr.alts_mk]at this
 unfold shape at this
 rw[if_neg h7,hw]at this
 simp only[Bool.and_eq_true,beq_iff_eq,List.length_map,List.length_eq_zero_iff]at this
 exact⟨this.1.1.1,this.1.1.2,this.1.2⟩
theorem Qh3(h0:o=0∨o=1):k=[]/\b=[]/\a=[]:=by
 obtain⟨h1,h2,h3⟩:=Q30 h (w:=(0,0,true)) (by omega) (by unfold wants;rw[if_pos (by simp only;omega)])
 refine⟨List.length_eq_zero_iff.1 ?_,List.length_eq_zero_iff.1 ?_,h3⟩ <;> simp at h1 h2 <;> simp[h1,h2]
theorem shp_lam(h0:o=2):k.length=1/\a=[]:=by
 subst h0
 obtain⟨h1,h2,h3⟩:=Q30 h (w:=(1,b.length,false)) (by omega) rfl
 exact⟨by simp at h1;omega,h3⟩
theorem Qcd(h0:o=3):k≠[]/\b=[]/\a=[]:=by
 subst h0
 obtain⟨h1,h2,h3⟩:=Q30 h (by omega) rfl
 simp only[List.length_map]at h1 h2
 refine⟨fun e=>?_,List.length_eq_zero_iff.1 (by omega),h3⟩
 subst e
 simp at h1
theorem Q99(h0:o=4):∃id v d,b=[id]/\k=[v,d]/\a=[]:=by
 subst h0
 obtain⟨h1,h2,h3⟩:=Q30 h (w:=(2,1,false)) (by omega) rfl
 obtain⟨id,hid⟩:=List.length_eq_one_iff.1 (show b.length=1 by simp at h2;omega)
 have h2:k.length=2:=by simp at h1;omega
 match k,h2 with
 |[v,d],_=>exact⟨id,v,d,hid,rfl,h3⟩
theorem Qcc(h0:o=5):k.length=b.length+1/\a=[]:=by
 subst h0
 obtain⟨h1,h2,h3⟩:=Q30 h (w:=(b.length+1,if (b.length:Int) > 1 then b.length else 1,false)) (by omega) rfl
 exact⟨by simp at h1;omega,h3⟩
theorem Q8n(h0:o=7):k.length=a.length+1/\b=[]:=by
 subst h0
 have:=Qh2 h
 simp only[Tr.op_mk,Tr.n_mk,Tr.binds_mk,Tr.kids_mk,Tr.alts_mk]at this
 have h1:=Qj3 this
 rw[if_pos (by simp)]at h1
 unfold shape at this
 rw[if_pos (by simp)]at this
 simp only[Bool.and_eq_true,beq_iff_eq,List.length_eq_zero_iff]at this
 exact⟨by simpa using h1,this.1.2⟩
theorem shp_row(h0:o=9):k.length=b.length:=by
 subst h0
 obtain⟨h1,h2,h3⟩:=Q30 h (w:=(b.length,b.length,false)) (by omega) rfl
 simp at h1;omega
theorem Qkm(h0:o=10):k.length=1:=by
 subst h0
 obtain⟨h1,h2,h3⟩:=Q30 h (w:=(1,0,true)) (by omega) rfl
 simp at h1;omega
end
theorem Q82{t s:Tr}(h:s∈t.kids):cntN s+1<=cntN t:=by
 cases t with
 |mk o n b k a=>
  simp only[Tr.kids_mk]at h
  simp only[cntN]
  induction k with
  |nil=>cases h
  |cons x l ih=>
   simp only[cntNs]
   rcases List.mem_cons.1 h with rfl|h
   ·omega
   ·have:=ih h;omega
theorem Qd8(t:Tr):1<=cntN t:=by cases t;simp[cntN]
theorem Qda(t:Tr)(i:Nat):cntN (kidT t i)<=cntN t:=by
 unfold kidT
 by_cases h:i < t.kids.length
 ·rw[List.getD_eq_getElem?_getD,List.getElem?_eq_getElem h]
  have:=Q82 (List.getElem_mem h)
  simp only[Option.getD_some];omega
 ·rw[List.getD_eq_getElem?_getD,List.getElem?_eq_none (by omega)]
  exact Qd8 t
theorem Qp8{p:Lab->Prop}(hp:p ⟨0,0,[],[],[]⟩):allT p default:=⟨hp,trivial⟩
theorem Q78{p:Lab->Prop}(hp:p ⟨0,0,[],[],[]⟩){t:Tr}(h:allT p t)(i:Nat):allT p (kidT t i):=by
 unfold kidT
 by_cases hi:i < t.kids.length
 ·rw[List.getD_eq_getElem?_getD,List.getElem?_eq_getElem hi]
  exact Q1x h (List.getElem_mem hi)
 ·rw[List.getD_eq_getElem?_getD,List.getElem?_eq_none (by omega)]
  exact Qp8 hp
theorem Qft:pOk ⟨0,0,[],[],[]⟩:=⟨by simp,by simp,by simp,by simp,by simp⟩
theorem Q9l(id:Int){v d:Tr}(hv:allT pOk v)(hd:allT pOk d):allT pOk (letT id v d):=⟨⟨by simp,by simp,by simp,by simp,by simp⟩,hv,hd,trivial⟩
theorem Qck{d:Tr}(hd:allT pOk d):∀(ids:List Int)(l:List Tr),(∀t∈l,allT pOk t)->allT pOk (letsT ids l d)
 |[],_,_=>by simpa[letsT]using hd
 |_::_,[],_=>by simpa[letsT]using hd
 |i::is,t::l,h=>Q9l i (h t (by simp)) (Qck hd is l fun s hs=>h s (by simp[hs]))
theorem Qaf(id:Int)(v d:Tr):cntN (letT id v d)=cntN v+cntN d+1:=by simp[letT,cntN,cntNs]
theorem Qd9(d:Tr):∀(ids:List Int)(l:List Tr),cntN (letsT ids l d)<=cntN d+2 * cntNs l
 |[],l=>by simp[letsT]
 |_::_,[]=>by simp[letsT]
 |i::is,t::l=>by
  have h1:=Qd9 d is l
  have h2:=Qd8 t
  simp only[letsT,Qaf,cntNs];omega
theorem Qdt(id:Int)(v:Tr):∀l:List Tr,(subTs id v l).length=l.length
 |[]=>rfl
 |t::l=>by simp[subTs,Qdt id v l]
mutual
theorem Qfs{id:Int}{v:Tr}(hv:allT pOk v):∀t:Tr,allT pOk t->allT pOk (subT id v t)
 |.mk o n b k a,h=>by
  simp only[subT]
  split
  ·split
   ·exact hv
   ·exact h
  ·obtain⟨h1,h2⟩:=h
   refine⟨⟨h1.b,?_,h1.a,h1.ab,h1.s⟩,Qhl hv k h2⟩
   have:=h1.k
   simp only[List.length_map]at this ⊢
   rw[Qdt];exact this
theorem Qhl{id:Int}{v:Tr}(hv:allT pOk v):∀l:List Tr,allTs pOk l->allTs pOk (subTs id v l)
 |[],_=>trivial
 |t::l,h=>⟨Qfs hv t h.1,Qhl hv l h.2⟩
end
mutual
theorem Qgg(id:Int)(v:Tr):∀t:Tr,cntN (subT id v t)<=cntN t+usesN id t * (cntN v - 1)
 |.mk o n b k a=>by
  simp only[subT,usesN]
  split
  ·split
   ·simp only[cntN];have:=Qd8 v;omega
   ·simp
  ·have:=Qij id v k
   simp only[cntN];omega
theorem Qij(id:Int)(v:Tr):∀l:List Tr,cntNs (subTs id v l)<=cntNs l+Q6h id l * (cntN v - 1)
 |[]=>by simp[subTs,cntNs]
 |t::l=>by
  have h1:=Qgg id v t
  have h2:=Qij id v l
  simp only[subTs,cntNs,Q6h,Nat.add_mul];omega
end
theorem Qbx(t:Tr):cntNs t.kids+1=cntN t:=by cases t;simp[cntN]
theorem Qju(l:List Tr):cntNs l.tail<=cntNs l:=by cases l <;> simp[cntNs]
theorem Qp5{v:Tr}(hv:allT shpL v)(h:atomT v=true):cntN v=1:=by
 cases v with
 |mk o n b k a=>
  have hk:k=[]:=by
   simp only[atomT,Tr.op_mk,Tr.kids_mk,Bool.or_eq_true,beq_iff_eq,Bool.and_eq_true,List.length_eq_zero_iff]at h
   rcases h with (h|h)|⟨_,h⟩
   ·exact (Qh3 hv (.inl h)).1
   ·exact (Qh3 hv (.inr h)).1
   ·exact h
  subst hk
  simp[cntN,cntNs]
theorem Qag{P Q:Tr->Prop}{con X:Tr}(hpq:∀d,P d->Q d)(hlet:∀ids,∀d,P d->Q (letsT ids con.kids d)):∀(as':List Alt)(ks:List Tr),(∀k∈ks,P k)->Q42 con as' ks=some X->Q X
 | [], _, _, h => by simp [Q42] at h
 |_::_,[],_,h=>by simp[Q42]at h
 |a::as',k::ks,hk,h=>by
  simp only[Q42]at h
  split at h
  ·split at h
   ·cases h
   ·cases h
    exact hlet _ _ (hk k (by simp))
  ·split at h
   ·cases h
    exact hpq _ (hk _ (by simp))
   ·exact Qag hpq hlet as' ks (fun s hs=>hk s (by simp[hs])) h
theorem Qd5{n:Int}{X:Tr}:∀(bs:List Int)(ks:List Tr),Q5f n bs ks=some X->X∈ks
 |[],_,h=>by simp[Q5f]at h
 |_::_,[],h=>by simp[Q5f]at h
 |b::bs,k::ks,h=>by
  simp only[Q5f]at h
  split at h
  ·cases h;simp
  ·exact List.mem_cons_of_mem _ (Qd5 bs ks h)
theorem Qiq{P:Tr->Prop}{t X:Tr}(hw:∀n,P (wordT n))(hf:∀b,P (flagT b))(h:Q8j t=some X):P X:=by
 unfold Q8j at h
 dsimp only at h
 repeat' split at h
 all_goals first
  |(cases h;done)
  |(cases h;exact hw _)
  |(cases h;exact hf _)
theorem Qmr{id:Int}{t X:Tr}:∀(bs:List Int)(i:Nat),defN id t bs i=some X->X.op=2/\∃j,X=kidT t j
 |[],_,h=>by simp[defN]at h
 |b::bs,i,h=>by
  simp only[defN]at h
  split at h
  ·rename_i hc
   cases h
   exact⟨hc.2.2,_,rfl⟩
  ·exact Qmr bs (i+1) h
theorem Qge{id:Int}{X:Tr}:∀(l:List Tr),defT id l=some X->X.op=2/\∃t∈l,∃j,X=kidT t j
 |[],h=>by simp[defT]at h
 |t::l,h=>by
  simp only[defT]at h
  split at h
  ·rename_i hf
   cases h
   obtain⟨h1,h2⟩:=Qmr _ _ hf
   exact⟨h1,t,by simp,h2⟩
  ·obtain⟨h1,s,h2,h3⟩:=Qge l h
   exact⟨h1,s,by simp[h2],h3⟩
theorem mem_set{l:List Tr}{i:Nat}{v s:Tr}(h:s∈l.set i v):s∈l∨s=v:=List.mem_or_eq_of_mem_set h
theorem Qf2:∀(l:List Tr)(i:Nat)(v:Tr),cntNs (l.set i v)<=cntNs l+cntN v
 |[],_,_=>by simp[cntNs]
 |t::l,0,v=>by simp only[List.set_cons_zero,cntNs];omega
 |t::l,i+1,v=>by have:=Qf2 l i v;simp only[List.set_cons_succ,cntNs];omega
theorem Ql2{nodes:List Tr}{root t X:Tr}{rule n:Int}(ht:allT pOk t)(hN:∀s∈nodes,allT pOk s)(h:resT nodes root rule n t=some X):allT pOk X:=by
 have hk:∀i,allT pOk (kidT t i):=Q78 Qft ht
 have hkk:∀i j,allT pOk (kidT (kidT t i) j):=fun i=>Q78 Qft (hk i)
 have hkm:∀s∈t.kids,allT pOk s:=fun s hs=>Q1x ht hs
 have hkkm:∀i,∀s∈(kidT t i).kids,allT pOk s:=fun i s hs=>Q1x (hk i) hs
 unfold resT at h
 split at h
 ·cases h
 split at h
 ·cases h
  exact Qck (hkk 0 0) _ _ fun s hs=>hkm s (List.mem_of_mem_tail hs)
 split at h
 ·unfold Q6v at h
  dsimp only at h
  split at h
  ·cases h;exact Qfs (hk 0) _ (hk 1)
  split at h
  ·cases h;exact hk 1
  split at h
  ·cases h;exact Q9l _ (hkk 0 0) (Q9l _ (hkk 0 1) (hk 1))
  split at h
  ·cases h
   have hv:=hk 0
   cases hv0:kidT t 0 with
   |mk o' n' b' k' a'=>
    rw[hv0]at hv
    obtain⟨hl,_⟩:=hv
    refine⟨⟨by simp,by simp,hl.a,hl.ab,?_⟩,?_,?_,trivial⟩
    ·have:=hl.s
     simp only[Tr.alts_mk,List.length_nil]at this ⊢;omega
    ·rw[←hv0];exact hkk 0 0
    ·rw[←hv0];exact Q9l _ (hkk 0 1) (hk 1)
  split at h
  ·cases h;exact Qfs (hk 0) _ (hk 1)
  ·cases h
 split at h
 ·cases h;exact hk _
 split at h
 ·exact Qag (P:=allT pOk) (Q:=allT pOk) (fun _ h=>h) (fun ids d hd=>Qck hd _ _ (hkkm 0)) _ _ (fun s hs=>hkm s (List.mem_of_mem_tail hs)) h
 split at h
 ·exact Qiq (P:=allT pOk) (fun n=>⟨⟨by simp,by simp,by simp,by simp,by simp⟩,trivial⟩) (fun b=>⟨⟨by simp,by simp,by simp,by simp,by simp⟩,trivial⟩) h
 split at h
 ·unfold Qa9 at h
  dsimp only at h
  split at h
  ·cases h
  ·exact hkkm 0 _ (Qd5 _ _ h)
 split at h
 ·unfold Q8d at h
  split at h
  ·cases h
  split at h
  ·cases h
  ·cases h
   refine Q9l _ (hk _) ?_
   cases t with
   |mk o' n' b' k' a'=>
    obtain⟨hl,hl2⟩:=ht
    refine⟨⟨hl.b,?_,hl.a,hl.ab,hl.s⟩,Q4b.2 fun s hs=>?_⟩
    ·have:=hl.k
     simpa using this
    ·rcases mem_set hs with h1|rfl
     ·exact Q4b.1 hl2 s h1
     ·exact⟨⟨by simp,by simp,by simp,by simp,by simp⟩,trivial⟩
 split at h
 ·unfold Q4z at h
  rw[Option.map_eq_some_iff]at h
  obtain⟨f,hf,rfl⟩:=h
  obtain⟨_,s,hs,j,rfl⟩:=Qge _ hf
  exact Qku _ _ _ (Q78 Qft (hN s hs) j)
 ·cases h
theorem res_cnt{nodes:List Tr}{root t X:Tr}{rule n:Int}{m:Nat}(hs:allT shpL t)(ht:cntN t<=m)(hN:∀s∈nodes,cntN s<=m)(h:resT nodes root rule n t=some X):cntN X<=4 * m+4:=by
 have hk:∀i,cntN (kidT t i)<=m:=fun i=>Nat.le_trans (Qda t i) ht
 have hkk:∀i j,cntN (kidT (kidT t i) j)<=m:=fun i j=>Nat.le_trans (Qda _ j) (hk i)
 have hkm:∀s∈t.kids,cntN s<=m:=fun s hs=>by have:=Q82 hs;omega
 have hks:=Qbx t
 have hkt:=Qju t.kids
 have hkks:∀i,cntNs (kidT t i).kids<=m:=fun i=>by have:=Qbx (kidT t i);have:=hk i;omega
 unfold resT at h
 split at h
 ·cases h
 split at h
 ·cases h
  have h1:=Qd9 (kidT (kidT t 0) 0) (kidT t 0).binds t.kids.tail
  have:=hkk 0 0
  omega
 split at h
 ·unfold Q6v at h
  dsimp only at h
  split at h
  ·cases h
   rename_i hc
   have h1:=Qgg (t.binds.getD 0 0) (kidT t 0) (kidT t 1)
   have hd:shpL ⟨0,0,[],[],[]⟩:=by unfold shpL;decide
   rw[Qp5 (Q78 hd hs 0) hc.2]at h1
   have:=hk 1
   omega
  split at h
  ·cases h;have:=hk 1;omega
  split at h
  ·cases h
   rw[Qaf,Qaf]
   have:=hk 1;have:=hkk 0 0;have:=hkk 0 1
   omega
  split at h
  ·cases h
   simp only[cntN,cntNs,Qaf]
   have:=hk 1;have:=hkk 0 0;have:=hkk 0 1
   omega
  split at h
  ·cases h
   rename_i hc
   have h1:=Qgg (t.binds.getD 0 0) (kidT t 0) (kidT t 1)
   rw[hc.2.2,Nat.one_mul]at h1
   have:=hk 1;have:=hk 0
   omega
  ·cases h
 split at h
 ·cases h;have:=hk t.binds.length;omega
 split at h
 ·refine Qag (P:=fun s=>cntN s<=m) (Q:=fun s=>cntN s<=4 * m+4) (con:=kidT t 0) (fun d hd=>by omega) ?_ t.alts t.kids.tail (fun s hs=>hkm s (List.mem_of_mem_tail hs)) h
  intro ids d hd
  have h1:=Qd9 d ids (kidT t 0).kids
  have:=hkks 0
  omega
 split at h
 ·refine Qiq (P:=fun s=>cntN s<=4 * m+4) (fun n=>?_) (fun b=>?_) h
  ·simp[wordT,cntN,cntNs]
  ·simp[flagT,cntN,cntNs]
 split at h
 ·unfold Qa9 at h
  dsimp only at h
  split at h
  ·cases h
  ·have:=Q82 (Qd5 _ _ h)
   have:=hk 0
   omega
 split at h
 ·unfold Q8d at h
  split at h
  ·cases h
  split at h
  ·cases h
  ·cases h
   rw[Qaf]
   have h1:=Qf2 t.kids n.toNat (.mk 0 (mostT root+1) [] [] [])
   have h2:cntN (.mk 0 (mostT root+1) [] [] [])=1:=by simp[cntN,cntNs]
   have:=hk n.toNat
   simp only[cntN]at h1 h2 ⊢
   omega
 split at h
 ·unfold Q4z at h
  rw[Option.map_eq_some_iff]at h
  obtain⟨f,hf,rfl⟩:=h
  obtain⟨_,s,hs,j,rfl⟩:=Qge _ hf
  rw[Qkv]
  have:=Qda s j
  have:=hN s hs
  omega
 ·cases h
end Go.CoreX
namespace Go.CoreX
open Go.Abs (orI)
theorem Q6g:∀{l:List Tr},valTs l=true↔∀t∈l,valT t=true
 |[]=>by simp[valTs]
 |t::l=>by simp[valTs,Q6g (l:=l)]
theorem Qk2{e:List Ex}{r at' n:Int}(ha:(Q0p e r at' n).2=0):check e=0/\(1<=r/\r<=12)/\(0<=at'/\at' < (e.length:Int))/\∃X,resT (growL e) (grow e) r n (Q0b e at'.toNat)=some X/\check (listT [] (growR e at'.toNat X))=0/\Q0p e r at' n=(listT [] (growR e at'.toNat X),0):=by
 unfold Q0p at ha ⊢
 split at ha
 ·rename_i h1;exact absurd ha h1
 rename_i h1
 split at ha
 ·cases ha
 rename_i h2
 split at ha
 ·cases ha
 rename_i h3
 split at ha
 ·cases ha
 rename_i X hX
 split at ha
 ·cases ha
 rename_i h4
 refine⟨by simpa using h1,by omega,by omega,X,hX,by simpa using h4,?_⟩
 rw[if_neg h4,if_neg h1,if_neg h2,if_neg h3]
end Go.CoreX
namespace Go.CoreX
theorem Qjj{e:List Ex}{r:Int}{i:Nat}(h:nextE e=some (r,i)):r∈Q8c/\i < e.length/\canT r (Q0b e i) (manyE e)=true:=by
 unfold nextE at h
 obtain⟨r',hr',h1⟩:=List.exists_of_findSome?_eq_some h
 rw[Option.map_eq_some_iff]at h1
 obtain⟨⟨t,j⟩,h2,h3⟩:=h1
 cases h3
 have h4:=List.find?_some h2
 have h5:=List.mem_of_find?_eq_some h2
 rw[List.mem_zipIdx_iff_getElem?]at h5
 simp only at h4 h5
 have h6:=(List.getElem?_eq_some_iff.1 h5).1
 rw[Q0m]at h6
 refine⟨hr',h6,?_⟩
 have:Q0b e j=t:=by unfold Q0b;rw[List.getD_eq_getElem?_getD,h5];rfl
 rw[this]
 exact h4
theorem Q98:∀(k:Nat)(e:List Ex),(Q0y k e).2.length<=k
 |0,e=>by simp[Q0y]
 |k+1,e=>by
  simp only[Q0y]
  split
  ·simp
  ·rename_i r i _
   split
   ·simp only[List.length_cons];have:=Q98 k (Q0p e r i 0).1;omega
   ·simp
def Q2i:List Ex->List Step3->Option (List Ex)
 |e,[]=>some e
 |e,(r,i,n)::l=>if (Q0p e r i n).2=0 then Q2i (Q0p e r i n).1 l else none
theorem Q51:∀(k:Nat)(e:List Ex),Q2i e (Q0y k e).2=some (Q0y k e).1
 |0,e=>rfl
 |k+1,e=>by
  simp only[Q0y]
  split
  ·rfl
  ·rename_i r i _
   split
   ·rename_i h2
    simp only[Q2i,if_pos h2]
    exact Q51 k _
   ·rfl
end Go.CoreX
namespace Go.CoreX
theorem Qkp{e:List Ex}(h:check e=0):same e e=true:=by simp[same,h,Qce]
theorem Qdx{e:List Ex}(he:check e=0){b:Nat}(hb:b<=500):simpE e b=((Q0y b (listT [] (grow e))).1,(Q0y b (listT [] (grow e))).2,0):=by
 unfold simpE
 rw[if_neg (by simpa using he),if_neg (by omega),show ((b:Int).toNat)=b by simp]
theorem Qns{e:List Ex}(he:check e≠0)(b:Int):simpE e b=([],[],check e):=by unfold simpE;rw[if_pos he]
end Go.CoreX
namespace Go.Proofs.YtpaonemmbhbgoaaGreatDoor
open Go Go.Abs Go.CoreX
variable {Γ:List (Nat×List AC)}
theorem Q4a(l:List Tr):(Q10 l).length=l.length:=by simp[Q10]
theorem Qac:∀(m:Nat)(l:List Tr),Q10 (l.drop m)=(Q10 l).drop m
 |0,l=>rfl
 |m+1,[]=>rfl
 |m+1,t::l=>by simpa[Q10]using Qac m l
theorem Qdf(t:Tr):APure Tryz.prog Γ 126 [.one (.box (cTr t))] (.one (.lit (.bool (atomT t)))):=by
 intro ou
 refine AFn.walk 30 tabOk Tryz.func126 rfl (by kernel_rfl) rfl rfl fun hou=>?_
 repeat' first|refine zN ?_|(with_reducible refine oj ?_;refine AOps.splitS rfl rfl rfl rfl (fun hb=>?_) (fun hb=>?_))|(with_reducible refine ok ?_;first|refine ACode.condS rfl (fun hb=>?_) (fun hb=>?_)|refine ACode.cond rfl (fun hb=>?_) (fun hb=>?_))
 all_goals
  refine APure.fin rfl (WkF.ofEq ?_) (by simp) hou rfl
  try simp only[Q4a]at *
  have e:((t.kids.length:Int)==0)=(t.kids.length==0):=by rw[Bool.eq_iff_iff];simp
  unfold atomT
  simp_all
theorem Q8z{l:List Tr}{i:Nat}{t:Tr}(h:l[i]?=some t):valTs (l.take (i+1))=(valTs (l.take i)&&valT t):=by
 rw[Bool.eq_iff_iff,Bool.and_eq_true,Q6g,Q6g,Q0n h]
 constructor
 ·exact fun hh=>⟨fun t ht=>hh t (by simp[ht]),hh t (by simp)⟩
 ·rintro⟨h1,h2⟩ s hs
  rcases List.mem_append.1 hs with hs|hs
  ·exact h1 s hs
  ·simp at hs;subst hs;exact h2
theorem Qay:∀{l:List Tr}{m:Nat},l.length=m+1->Q90 l=valTs (l.drop m)
 |[],m,h=>by simp at h
 |x::l,0,h=>by
  have:l=[]:=List.length_eq_zero_iff.1 (by simpa using h)
  subst this
  simp[Q90,valTs]
 |x::l,m+1,h=>by
  cases l with
  |nil=>simp at h
  |cons y l=>
   have:=Qay (l:=y::l) (m:=m) (by simpa using h)
   simpa only [Q90,List.drop_succ_cons]using this
def valK (o:Int)(ks:List Tr):List Tr:=if o=5 then ks.drop (ks.length - 1)else ks
theorem valT_eq{o n:Int}{b:List Int}{ks:List Tr}{a:List Alt}(h:o=5->ks≠[]):valT (.mk o n b ks a)=(atomT (.mk o n b ks a)||o==2||((o==5||o==6||o==9||o==4)&&valTs (valK o ks))):=by
 simp only[valT]
 congr 1
 unfold valK
 by_cases h5:o=5
 ·rw[if_pos h5,if_pos h5]
  have hl:=List.length_pos_iff.2 (h h5)
  rw[Qay (m:=ks.length - 1) (by omega)]
  simp[h5]
 ·rw[if_neg h5,if_neg h5]
  split
  ·rename_i h6
   have:(o==5||o==6||o==9||o==4)=true:=by simp only[Bool.or_eq_true,beq_iff_eq];omega
   rw[this];simp
  ·rename_i h6
   have:(o==5||o==6||o==9||o==4)=false:=by
    simp only[Bool.or_eq_false_iff,beq_eq_false_iff_ne];omega
   rw[this];simp
def ValOk (Γ:List (Nat×List AC))(t:Tr):Prop:=APure Tryz.prog Γ 127 [.one (.box (cTr t))] (.one (.lit (.bool (valT t))))
theorem Q43(hΓ:∀g cs,(g,cs)∈Γ->idsL isO cs):∀t:Tr,okT t->allT shpL t->ValOk Γ t
 |.mk o n b ks a,hok,hsh=>by
  have ih:∀t∈ks,ValOk Γ t:=fun t ht=>Q43 hΓ t (Q2k hok (by simpa using ht)) (Q1x hsh (by simpa using ht))
  have hk:ks.length<=1048576:=hok.2.1
  have h5:o=5->ks≠[]:=fun e e2=>by have:=(Qcc hsh e).1;subst e2;simp at this
  intro ou
  rw[valT_eq h5]
  refine AFn.walk 44 tabOk Tryz.func127 rfl (by kernel_rfl) rfl rfl fun hou=>?_
  refine zA ?_
  refine zca hΓ (Qdf (.mk o n b ks a)) hou ?_
  refine zA ?_
  generalize atomT (.mk o n b ks a)=A
  refine AOps.splitS rfl rfl rfl rfl (fun hA=>?_) (fun hA=>?_)
  ·subst hA
   refine zA ?_
   exact APure.fin rfl (WkF.ofEq (by simp)) (by simp) hou rfl
  subst hA
  refine zA ?_
  refine ACode.cond rfl (fun hb=>?_) (fun hb=>?_)
  ·have h2:(o==2)=true:=hb
   refine zA ?_
   exact APure.fin rfl (WkF.ofEq (by simp[h2])) (by simp) hou rfl
  have h2:(o==2)=false:=hb
  refine zA ?_
  refine ACode.cutN 1 rfl hΓ (α:=Unit) (fun _=>[(3,.one (.sl 1 (Q10 (valK o ks))))]) (fun _=>⟨0,[],ou⟩) (fun _=>(o==5||o==6||o==9||o==4)=true) ?_ fun _ hg=>?_
  ·dsimp only [List.take_succ_cons,List.take_zero,List.cons_append,List.nil_append]
   repeat' first|refine zN ?_|(with_reducible refine oj ?_;refine AOps.splitS rfl rfl rfl rfl (fun hb=>?_) (fun hb=>?_))|(with_reducible refine ok ?_;first|refine ACode.condS rfl (fun hb=>?_) (fun hb=>?_)|refine ACode.cond rfl (fun hb=>?_) (fun hb=>?_))
   ·have h5':o=5:=by simpa using hb
    have hl:=List.length_pos_iff.2 (h5 h5')
    refine AOps.wk 28 rfl (y:=.one (int ((ks.length - 1:Nat):Int))) (.ofEq (by simp[Q4a];omega)) ?_
    refine zS (AStep.sliceFrom (sz:=1) tabOk rfl rfl rfl rfl rfl rfl rfl (by simp[Q4a])) ?_
    refine zA ?_
    exact cInv ⟨(),id,by simp[h5'],LessR.of rfl (FrSub.consP rfl (.ofEq (by unfold valK;rw[if_pos h5',Qac];rfl)) (by simp) .nil) (by simp) .nil rfl rfl hou⟩
   iterate 3
    ·have h5':o≠5:=by simp_all
     exact cInv ⟨(),id,by simp_all,LessR.of rfl (FrSub.consP rfl (.ofEq (by unfold valK;rw[if_neg h5'];rfl)) (by simp) .nil) (by simp) .nil rfl rfl hou⟩
   ·refine APure.fin rfl (WkF.ofEq ?_) (by simp) hou rfl
    simp_all
  rw[hg]
  obtain⟨L,hL⟩:∃L,L=valK o ks:=⟨_,rfl⟩
  rw[←hL]
  have hLm:∀t∈L,ValOk Γ t:=by
   intro t ht
   rw[hL]at ht
   unfold valK at ht
   split at ht
   ·exact ih t (List.mem_of_mem_drop ht)
   ·exact ih t ht
  have hLl:L.length<=1048576:=by
   rw[hL];unfold valK
   split
   ·simp;omega
   ·exact hk
  clear hL
  refine zA ?_
  refine ACode.loopR hΓ (α:=Nat) (fun j=>[(36,.one (int j)),(35,.one (int (Q10 L).length)),(34,.one (.sl 1 (Q10 L)))])
   (fun j=>⟨0,[],ou⟩) (fun m j=>j<=L.length/\valTs (L.take j)=true/\m=L.length - j) (a0:=0) (ρ:=id) ⟨by omega,by simp[valTs],rfl⟩ (LessR.of rfl zFS (by simp) zLO rfl rfl hou) fun m j hj=>?_
  obtain⟨hjl,hno,rfl⟩:=hj
  refine zA ?_
  refine ACode.cond rfl (fun hb2=>?_) (fun hb2=>?_)
  ·have hlt:j < L.length:=by simpa using hb2
   obtain⟨t,ht⟩:=Q00 hlt
   have hvs:=Q8z ht
   rw[hno,Bool.true_and]at hvs
   refine zA ?_
   refine zS (zIA rfl rfl rfl (by omega) (Q1v ht)) ?_
   refine zA ?_
   refine zca hΓ (hLm t (List.mem_of_getElem? ht)) hou ?_
   refine zA ?_
   refine ACode.condS rfl (fun hb3=>?_) (fun hb3=>?_)
   ·have hv:valT t=false:=by simpa using hb3
    refine zA ?_
    refine APure.fin rfl (WkF.ofEq ?_) (by simp) hou rfl
    have:valTs L=false:=by
     rw[←Bool.not_eq_true,Q6g]
     intro h
     rw[h t (List.mem_of_getElem? ht)]at hv
     cases hv
    rw[this,h2];rfl
   ·have hv:valT t=true:=by simpa using hb3
    refine zM ?_
    exact cInv ⟨L.length - (j+1),j+1,id,by omega,⟨by omega,by rw[hvs,hv],rfl⟩,LessR.of rfl zFS (by simp) zLO rfl rfl hou⟩
  ·have hlt:j=L.length:=by simp at hb2;omega
   subst hlt
   rw[List.take_length]at hno
   refine zA ?_
   refine APure.fin rfl (WkF.ofEq ?_) (by simp) hou rfl
   rw[hno,h2];rfl
end Go.Proofs.YtpaonemmbhbgoaaGreatDoor
namespace Go.CoreX
mutual
def usesL (id:Int):LTr->List LTr
 |.mk i o n nb b ks a=>if o=0 then (if n=id then [.mk i o n nb b ks a]else [])else Q1b id ks
def Q1b (id:Int):List LTr->List LTr
 |[]=>[]
 |t::l=>usesL id t++Q1b id l
end
mutual
theorem Q4x(id:Int):∀t:LTr,(usesL id t).length=usesN id (erT t)
 |.mk i o n nb b ks a=>by
  simp only[usesL,erT,usesN]
  split
  ·split <;> rfl
  ·exact Q7f id ks
theorem Q7f(id:Int):∀l:List LTr,(Q1b id l).length=Q6h id (erTs l)
 |[]=>rfl
 |t::l=>by simp only[Q1b,erTs,Q6h,List.length_append,Q4x id t,Q7f id l]
end
theorem Qb0(id:Int):∀(l r:List LTr),Q1b id (l++r)=Q1b id l++Q1b id r
 |[],r=>rfl
 |t::l,r=>by simp only[List.cons_append,Q1b,Qb0 id l r,List.append_assoc]
mutual
theorem Qc7(id:Int):∀t:Tr,usesN id t<=cntN t
 |.mk o n b ks a=>by
  have:=Q92 id ks
  simp only[usesN,cntN]
  split
  ·split <;> omega
  ·omega
theorem Q92(id:Int):∀l:List Tr,Q6h id l<=cntNs l
 |[]=>by simp[Q6h,cntNs]
 |t::l=>by
  have h1:=Qc7 id t
  have h2:=Q92 id l
  simp only[Q6h,cntNs];omega
end
end Go.CoreX
namespace Go.Proofs.YtpaonemmbhbgoaaGreatDoor
open Go Go.Abs Go.CoreX
variable {Γ:List (Nat×List AC)}
theorem Q41(t:LTr):(erT t).kids=t.kids.map erT:=by cases t;simp[erT,LTr.kids,Q0g]
theorem Q1y{t s:LTr}(h:s∈t.kids):erT s∈(erT t).kids:=by rw[Q41];exact List.mem_map_of_mem h
theorem Q14{ou:Outer}{t s:LTr}(h:Owns ou (objs t))(hs:s∈t.kids):Owns ou (objs s):=fun p hp=>h p ((Q8s t p).2 (.inr (Q8t hs hp)))
theorem Q2n{l:List LTr}{i:Nat}{t:LTr}(h:l[i]?=some t):(kC l)[i]?=some [.ptr (.o t.id) 0]:=by simp[kC,h]
theorem Qi3(l r:List LTr):kC (l++r)=kC l++kC r:=by simp[kC]
theorem Q0q(l:List LTr):(kC l).length=l.length:=by simp[kC]
def UsesOk (Γ:List (Nat×List AC))(t:LTr):Prop:=∀(id:Int)(ou:Outer),Owns ou (objs t)->AFn Tryz.prog Γ 130 [.one (.ptr (.o t.id) 0),.one (int id)] ou (fun r ou'=>r=.one (.sl 1 (kC (usesL id t)))/\ou'=ou)
theorem Qfj(hΓ:∀g cs,(g,cs)∈Γ->idsL isO cs):∀t:LTr,okT (erT t)->cntN (erT t)<=1048576->UsesOk Γ t
 |.mk i o n nb b ks a,hok,hc=>by
  intro q ou ho
  have hkl:ks.length<=1048576:=by have:=hok.2.1;simpa[Q0g]using this
  have ih:∀t∈ks,UsesOk Γ t:=fun t ht=>Qfj hΓ t (Q2k hok (Q1y (t:=.mk i o n nb b ks a) ht)) (by
   have:=Q69 ht
   simp only[erT,cntN]at hc;omega)
  have hi:ou i=some (.cells (lC (.mk i o n nb b ks a))):=Q09 ho
  simp only[lC]at hi
  refine AFn.walk 37 tabOk Tryz.func130 rfl (by kernel_rfl) rfl rfl fun hou=>?_
  refine zA ?_
  refine zS (zLD rfl rfl hi rfl) ?_
  refine zA ?_
  refine ACode.cond rfl (fun hb1=>?_) (fun hb1=>?_)
  ·have h0:o=0:=by simpa using hb1
   refine zA ?_
   refine zS (zLD rfl rfl hi rfl) ?_
   refine zA ?_
   refine ACode.cond rfl (fun hb2=>?_) (fun hb2=>?_)
   ·have h2:n=q:=by simpa using hb2
    refine zA ?_
    refine AFn.fin' rfl (WkF.ofEq ?_) (by simp) hou ⟨rfl,rfl⟩
    simp only[usesL,if_pos h0,if_pos h2];rfl
   ·have h2:¬n=q:=by simpa using hb2
    refine zA ?_
    refine AFn.fin' rfl (WkF.one (.nilS 1)) (by simp) hou ⟨?_,rfl⟩
    simp only[usesL,if_pos h0,if_neg h2];rfl
  have h0:¬o=0:=by simpa using hb1
  refine zA ?_
  refine zS (zLD rfl rfl hi rfl) ?_
  refine zA ?_
  refine ACode.growS 5 81 1 rfl ?_
  refine ACode.loopR hΓ (α:=Nat) (fun j=>[(26,.one (int j)),(25,.one (int (kC ks).length)),(24,.one (.sl 1 (kC ks))),(5,.one (.gs 1 (kC (Q1b q (ks.take j))) (.l 0))),(1,.one (int q))])
   (fun j => ⟨1, [(0, .tok 81 1 (kC (Q1b q (ks.take j))).length)], ou⟩) (fun m j => j <= ks.length /\ m = ks.length - j) (a0 := 0) (ρ := id) ⟨by omega, rfl⟩ (LessR.of rfl zFS (by simp) zLO rfl rfl hou) fun m j hj => ?_
  obtain⟨hjl,rfl⟩:=hj
  refine zA ?_
  refine ACode.cond rfl (fun hb2=>?_) (fun hb2=>?_)
  ·have hlt:j < ks.length:=by simpa[Q0q]using hb2
   obtain⟨t,ht⟩:=Q00 hlt
   have htm:=List.mem_of_getElem? ht
   have hsn:Q1b q (ks.take (j+1))=Q1b q (ks.take j)++usesL q t:=by rw[Q0n ht,Qb0];simp[Q1b]
   have hle:(kC (Q1b q (ks.take j))).length+(kC (usesL q t)).length<=1048576:=by
    have h1:=Q7f q (ks.take (j+1))
    have h2:=Q92 q (erTs (ks.take (j+1)))
    have h3:cntNs (erTs (ks.take (j+1)))<=cntNs (erTs ks):=by
     have:erTs ks=erTs (ks.take (j+1))++erTs (ks.drop (j+1)):=by rw[Q0g,Q0g,Q0g,←List.map_append,List.take_append_drop]
     rw[this,Q5h];omega
    simp only[erT,cntN]at hc
    rw[hsn,List.length_append]at h1
    rw[Q0q,Q0q];omega
   refine zA ?_
   refine zS (zIA rfl rfl rfl (by omega) (Q2n ht)) ?_
   refine zA ?_
   refine AOps.call1 hΓ rfl rfl rfl rfl rfl rfl rfl (by exact⟨trivial,trivial,trivial⟩) hou (ih t htm q ou (Q14 ho htm)) fun r ou' hq _ _=>?_
   obtain⟨rfl,rfl⟩:=hq
   refine zA ?_
   refine AOps.app tabOk rfl rfl rfl rfl rfl rfl rfl rfl rfl (Base.gs' _ 81 1 _ _ rfl rfl) (.sl _ _) rfl ?_ ?_ ?_
   ·show _ * 8<=_;omega
   ·omega
   refine zM ?_
   have hsk:kC (Q1b q (ks.take (j+1)))=kC (Q1b q (ks.take j))++kC (usesL q t):=by rw[hsn,Qi3]
   refine cInv ⟨ks.length - (j+1),j+1,fun k=>if k=0 then 1 else k,by omega,⟨by omega,rfl⟩,?_⟩
   simp only[hsk]
   refine LessR.of rfl (FrSub.cons rfl (.ofEq rfl) (FrSub.cons rfl (.ofEq rfl) (FrSub.consP rfl (.ofEq rfl) (by simp) (FrSub.consGs rfl rfl (by rw[←Qi3];simp) (FrSub.cons rfl (.ofEq rfl) .nil))))) (by rw[←Qi3];simp) zLO rfl rfl hou
  ·have hlt:j=ks.length:=by simp[Q0q]at hb2;omega
   subst hlt
   refine zA ?_
   refine AFn.fin' rfl (WkF.one (.gsE rfl)) (by simp) hou ⟨?_,rfl⟩
   simp only[usesL,if_neg h0,List.take_length]
def letN (k:Nat)(q:Int)(v d:LTr):LTr:=.mk k 4 0 none [q] [v,d] []
theorem Q9t(k:Nat)(q:Int)(v d:LTr):erT (letN k q v d)=letT q (erT v) (erT d):=by simp[letN,letT,erT,erTs]
theorem Qhx(k:Nat)(q:Int)(v d:LTr):(AObj.cells (lC (letN k q v d))).ids isO:=by
 simp only[letN,lC,AObj.ids,idsL,AC.ids,true_and,and_true]
 exact⟨Qa1 _ (fun _=>trivial) _ _,Q8f _ (fun _=>trivial) _,Q5b _ (fun _=>trivial) _⟩
theorem Qej(hΓ:∀g cs,(g,cs)∈Γ->idsL isO cs)(q:Int)(v d:LTr)(ou:Outer):AFn Tryz.prog Γ 129 [.one (int q),.one (.ptr (.o v.id) 0),.one (.ptr (.o d.id) 0)] ou
  (fun r ou'=>∃k,r=.one (.ptr (.o k) 0)/\NewO ou ou' [(k,.cells (lC (letN k q v d)))]):=by
 refine AFn.walk 14 tabOk Tryz.func129 rfl (by kernel_rfl) rfl rfl fun hou=>?_
 iterate 14 (first|((with_reducible refine oj ?_);refine zau ?_)|(with_reducible refine zst ?_)|((with_reducible refine Q0j ?_ ?_);rfl)|(with_reducible refine ok ?_;first|refine ACode.condT rfl ?_|refine ACode.condF rfl ?_))
 refine AOps.wkObj (.l 0) rfl (cs':=lC (letN 0 q v d)) (fun w C xs h=>?_) ?_
 ·exact (show WkL _ _ from .cons (.refl _) (.cons (.refl _) (.cons (.refl _) (.cons (.refl _) (.cons (.nilS 2) .nil))))) w C xs h
 refine AOps.cedes [0] rfl (by decide) hou fun k hk=>⟨[(13,.one (.ptr (.o k) 0))],[],[.cells (lC (letN k q v d))],.cons rfl rfl .nil,.nil,?_,?_⟩
 ·exact .cons rfl (AObj.sub_f (fun i hi=>by cases i with|l q=>exact hi.elim|o q=>rfl) _ (Qhx 0 q v d)) .nil
 have hN:=NewO.add hk hou (Qhx k q v d)
 refine zA ?_
 exact AFn.fin' rfl (WkF.ofEq rfl) (by simp) hN.ok ⟨k,rfl,hN⟩
def PartO (ou ou1:Outer)(S l:List (Nat×AObj)):Prop:=∀p∈l,p∈S∨(ou p.1=none/\ou1 p.1=some p.2)
theorem NewO.oldS{ou ou':Outer}{L:List (Nat×AObj)}(h:NewO ou ou' L){j:Nat}{o:AObj}(hj:ou j=some o):ou' j=some o:=by
 rw[h.old j fun hm=>by have:=h.new j hm;rw[hj]at this;cases this];exact hj
theorem Der.node{ou ou1 ou2:Outer}{S:List (Nat×AObj)}{u:LTr}(h:∀j o,ou j=some o->ou1 j=some o)(hN:NewO ou1 ou2 [(u.id,.cells (lC u))])(ht:PartO ou ou1 S (tailO u)):Der ou ou2 S u:=by
 refine⟨fun j o hj=>hN.oldS (h j o hj),fun p hp=>?_,hN.ok⟩
 rw[Q0d]at hp
 rcases List.mem_cons.1 hp with rfl|hp
 ·refine .inr ⟨?_,hN.own _ (by simp)⟩
  have h1:=hN.new u.id (by simp[keys])
  cases ho:ou u.id with
  |none=>rfl
  |some o=>rw[h _ _ ho]at h1;cases h1
 ·rcases ht p hp with h1|⟨h1,h2⟩
  ·exact .inl h1
  ·exact .inr ⟨h1,hN.oldS h2⟩
theorem PartO.app{ou ou1:Outer}{S l r:List (Nat×AObj)}(hl:PartO ou ou1 S l)(hr:PartO ou ou1 S r):PartO ou ou1 S (l++r):=fun p hp=>(List.mem_append.1 hp).elim (hl p) (hr p)
theorem PartO.of{ou ou1:Outer}{S l:List (Nat×AObj)}(h:∀p∈l,p∈S):PartO ou ou1 S l:=fun p hp=>.inl (h p hp)
theorem Der.let{ou ou1 ou2:Outer}{S:List (Nat×AObj)}{u v:LTr}{k:Nat}{q:Int}(h:Der ou ou1 S u)(hN:NewO ou1 ou2 [(k,.cells (lC (letN k q v u)))])(hv:PartO ou ou1 S (objs v)):Der ou ou2 S (letN k q v u):=by
 refine Der.node (u:=letN k q v u) h.old hN ?_
 simp only[letN,tailO,bO,aO,List.flatMap_nil,List.append_nil,List.nil_append,objss]
 exact hv.app h.part
theorem Qlu(hΓ:∀g cs,(g,cs)∈Γ->idsL isO cs)(ids:List Int)(l:List LTr)(d:LTr)(hl:ids.length=l.length)(hb:l.length<=1048576)(ou:Outer):AFn Tryz.prog Γ 106 [.one (.sl 1 (ids.map cI)),.one (.sl 1 (kC l)),.one (.ptr (.o d.id) 0)] ou
  (fun r ou'=>∃u,r=.one (.ptr (.o u.id) 0)/\erT u=letsT ids (l.map erT) (erT d)/\Der ou ou' (objss l++objs d) u):=by
 refine AFn.walk 26 tabOk Tryz.func106 rfl (by kernel_rfl) rfl rfl fun hou=>?_
 refine zM ?_
 refine ACode.loopR hΓ (α:=Nat×Outer×LTr) (fun c=>[(7,.one (int ((c.1:Int) - 1))),(2,.one (.ptr (.o c.2.2.id) 0)),(1,.one (.sl 1 (kC l))),(0,.one (.sl 1 (ids.map cI)))])
  (fun c=>⟨0,[],c.2.1⟩) (fun m c=>c.1<=ids.length/\(erT c.2.2=letsT (ids.drop c.1) ((l.drop c.1).map erT) (erT d)/\Der ou c.2.1 (objss l++objs d) c.2.2)/\m=c.1) (a0:=(ids.length,ou,d)) (ρ:=id) ⟨by omega,⟨?_,?_⟩,rfl⟩ (LessR.of rfl (FrSub.cons rfl (.ofEq (by simp;rfl)) zFS) (by simp) zLO rfl rfl hou) fun m c hc=>?_
 ·simp[letsT]
 ·exact Der.refl (fun p hp=>List.mem_append.2 (.inr hp)) hou
 obtain⟨j,ov,u⟩:=c
 obtain⟨hjl,⟨her,hD⟩,hmj⟩:=hc
 dsimp only at hjl her hD hmj
 have hov:=hD.ok
 refine zA ?_
 refine ACode.cond rfl (fun hb2=>?_) (fun hb2=>?_)
 ·have hlt:0 < j:=by simp at hb2;omega
  obtain⟨i,rfl⟩:∃i,j=i+1:=⟨j - 1,by omega⟩
  obtain⟨q,hq⟩:=Q00 (l:=ids) (i:=i) (by omega)
  obtain⟨v,hv⟩:=Q00 (l:=l) (i:=i) (by omega)
  refine zA ?_
  refine ACode.wk 7 rfl (y:=.one (int ((i:Nat):Int))) (.ofEq (by congr 3;push_cast;omega)) ?_
  refine ACode.drawC tabOk 10 [9] [(2,.one (.box [int q])),(6,.one (.box [.ptr (.o v.id) 0]))] (fun vs σ=>match vs with
    |[]=>σ=⟨0,[],ov⟩
    |[a]=>∃k ow,a=.one (.ptr (.o k) 0)/\NewO ov ow [(k,.cells (lC (letN k q v u)))]/\σ=⟨0,[],ow⟩
    |_=>False) follows (by kernel_rfl) rfl rfl (by decide) (by kernel_rfl) (by kernel_rfl) rfl rfl ?_ ?_ (by decide) ?_ ?_
  ·rintro vs σ hG
   match vs,hG with
   |[],hG=>subst hG;rfl
   |[a],hG=>obtain⟨k,ow,_,_,rfl⟩:=hG;rfl
  ·rintro vs σ hG
   refine .step rfl (zHP (zIA rfl rfl rfl (by omega) (Q04 hq))) ?_
   exact .step rfl (zHP (zIA rfl rfl rfl (by omega) (Q2n hv))) .nil
  ·rintro vs σ hG p o hi ho
   match vs,hG with
   |[],hG=>
    subst hG
    cases hi
    cases ho
    refine⟨rfl,rfl,.inr ⟨rfl,Q0w.call hΓ rfl rfl rfl rfl (by exact⟨trivial,trivial,trivial,trivial⟩) hov (Qej hΓ q v u ov) fun r ow hq _ _=>?_⟩⟩
    obtain⟨k,rfl,hN⟩:=hq
    exact⟨k,ow,rfl,hN,rfl⟩
   |[a],hG=>cases hi
  rintro vs σ hlen hG
  match vs,hlen,hG with
  |[a],_,hG=>
  obtain⟨k,ow,rfl,hN,rfl⟩:=hG
  have hD2:=hD.let hN (PartO.of fun p hp=>List.mem_append.2 (.inl (by rw[Q3s];exact List.mem_flatMap.2 ⟨v,List.mem_of_getElem? hv,hp⟩)))
  refine zM ?_
  refine cInv ⟨i,(i,ow,letN k q v u),id,by omega,⟨by omega,⟨?_,hD2⟩,rfl⟩,LessR.of rfl zFS (by simp) .nil rfl rfl hN.ok⟩
  obtain⟨h1,h2⟩:=List.getElem?_eq_some_iff.1 hq
  obtain⟨h3,h4⟩:=List.getElem?_eq_some_iff.1 hv
  rw[Q9t,her,List.drop_eq_getElem_cons h1,List.drop_eq_getElem_cons h3,h2,h4]
  rfl
 ·have hlt:j=0:=by simp at hb2;omega
  subst hlt
  refine zA ?_
  refine AFn.fin' rfl (WkF.ofEq rfl) (by simp) hov ⟨u,rfl,?_,hD⟩
  rw[her];simp
def Q9i (nb:Nb)(l:List Int):Prop:=nb=none
mutual
def Q24:LTr->Prop
 |.mk i o n nb b ks a=>nb=none/\(∀x∈a,x.nb=none)/\Q7k ks
def Q7k:List LTr->Prop
 |[]=>True
 |t::l=>Q24 t/\Q7k l
end
theorem Q65:∀{l:List LTr},Q7k l↔∀t∈l,Q24 t
 |[]=>by simp[Q7k]
 |t::l=>by simp[Q7k,Q65 (l:=l)]
theorem Q0z{t s:LTr}(h:Q24 t)(hs:s∈t.kids):Q24 s:=by
 cases t with
 |mk i o n nb b ks a=>exact Q65.1 h.2.2 s hs
theorem Qdo(hΓ:∀g cs,(g,cs)∈Γ->idsL isO cs)(i:Nat)(o n:Int)(b:List Int)(ks:List LTr)(a:List LAlt)(hok:okT (erT (.mk i o n none b ks a)))(hc:cntN (erT (.mk i o n none b ks a))<=1048576)(hlen:b.length < ks.length)(ou:Outer)(ho:Owns ou (objs (.mk i o n none b ks a))):
  AFn Tryz.prog Γ 108 [.one (.ptr (.o i) 0)] ou (fun r ou'=>r=.one (.lit (.bool (Q60 (erT (.mk i o n none b ks a)))))/\ou'=ou):=by
 have hi:ou i=some (.cells (lC (.mk i o n none b ks a))):=Q09 ho
 simp only[lC,bC]at hi
 have hbl:b.length<=1048576:=hok.1
 have hkl:ks.length<=1048576:=by have:=hok.2.1;simpa[Q0g]using this
 obtain⟨t,ht⟩:=Q00 hlen
 have htm:=List.mem_of_getElem? ht
 have hkt:kidT (erT (.mk i o n none b ks a)) b.length=erT t:=by
  unfold kidT
  simp only[erT,Tr.kids_mk,Q0g]
  rw[List.getD_eq_getElem?_getD,List.getElem?_map,ht];rfl
 have hut:=Qfj hΓ t (Q2k hok (Q1y (t:=.mk i o n none b ks a) htm)) (by
  have:=Q69 htm
  simp only[erT,cntN]at hc;omega)
 have hun:Q60 (erT (.mk i o n none b ks a))=b.all fun q=>usesN q (erT t)==0:=by
  unfold Q60
  rw[show (erT (.mk i o n none b ks a)).binds=b from rfl,hkt]
 have hlim:∀q,usesN q (erT t)<=1048576:=fun q=>by
  have h1:=Qc7 q (erT t)
  have h2:=Q69 htm
  simp only[erT,cntN]at hc;omega
 rw[hun]
 refine AFn.walk 30 tabOk Tryz.func108 rfl (by kernel_rfl) rfl rfl fun hou=>?_
 repeat' first|refine zN ?_|((with_reducible refine oj ?_);first|refine zix ?_|refine zow rfl rfl hi ?_)
 refine ACode.loopR hΓ (α:=Nat) (fun j=>[(10,.one (int j)),(9,.one (int (b.map cI).length)),(8,.one (.sl 1 (b.map cI))),(0,.one (.ptr (.o i) 0))])
  (fun j=>⟨0,[],ou⟩) (fun m j=>j<=b.length/\((b.take j).all fun q=>usesN q (erT t)==0)=true/\m=b.length - j) (a0:=0) (ρ:=id) ⟨by omega,rfl,rfl⟩ (LessR.of rfl zFS (by simp) zLO rfl rfl hou) fun m j hj=>?_
 obtain⟨hjl,hno,rfl⟩:=hj
 refine zA ?_
 refine ACode.cond rfl (fun hb2=>?_) (fun hb2=>?_)
 ·have hlt:j < b.length:=by simpa using hb2
  obtain⟨q,hq⟩:=Q00 hlt
  refine zA ?_
  refine zS (zIA rfl rfl rfl (by omega) (Q04 hq)) ?_
  refine zA ?_
  have hcall:=hut q ou (Q14 ho htm)
  refine ACode.drawX tabOk 14 [(3,.one (.sl 1 (kC ks))),(7,.one (.sl 1 (b.map cI))),(9,.one (.box [.ptr (.o t.id) 0])),(12,.one (.sl 1 (kC (usesL q t))))] follows (by kernel_rfl) rfl rfl rfl rfl ?_ ?_
  ·refine .step rfl (zHP (zLD rfl rfl hi rfl)) ?_
   refine .step rfl (zHP (zLD rfl rfl hi rfl)) ?_
   refine .step rfl (zHP (zIA rfl rfl rfl (by simp) (by simpa using Q2n ht))) ?_
   exact .step rfl (zHP (AStep.callE hΓ rfl rfl rfl rfl (by exact⟨trivial,trivial,trivial⟩) hou hcall)) .nil
  refine zA ?_
  have hlen2:(kC (usesL q t)).length=usesN q (erT t):=by rw[Q0q,Q4x]
  rw[hlen2]
  refine ACode.condS rfl (fun hb3=>?_) (fun hb3=>?_)
  ·have h3:usesN q (erT t)≠0:=by simp at hb3;omega
   refine zA ?_
   refine AFn.fin' rfl (WkF.ofEq ?_) (by simp) hou ⟨rfl,rfl⟩
   congr 3
   symm
   rw[List.all_eq_false]
   exact⟨q,List.mem_of_getElem? hq,by simpa using h3⟩
  ·have h3:usesN q (erT t)=0:=by simp at hb3;omega
   refine zM ?_
   refine cInv ⟨b.length - (j+1),j+1,id,by omega,⟨by omega,?_,rfl⟩,LessR.of rfl zFS (by simp) zLO rfl rfl hou⟩
   rw[Q0n hq,List.all_append,hno]
   simp[h3]
 ·have hlt:j=b.length:=by simp at hb2;omega
  subst hlt
  rw[List.take_length]at hno
  refine zA ?_
  exact AFn.fin' rfl (WkF.ofEq (by rw[hno])) (by simp) hou ⟨rfl,rfl⟩
abbrev nilP:FV:=.one (.lit (.pointer none))
def ResD (ou:Outer)(t:LTr)(x:Option Tr)(r:FV)(ou':Outer):Prop:=match x with
 |none=>r=nilP/\OuOk ou'/\∀j o,ou j=some o->ou' j=some o
 |some X=>∃u:LTr,r=.one (.ptr (.o u.id) 0)/\erT u=X/\Der ou ou' (tailO t) u
theorem ResD.no{ou:Outer}{t:LTr}{r:FV}(hr:r=nilP)(hou:OuOk ou):ResD ou t none r ou:=⟨hr,hou,fun _ _ h=>h⟩
theorem Q3h{t s q:LTr}(h:s∈t.kids)(hq:q∈s.kids){p:Nat×AObj}(hp:p∈objs q):p∈tailO t:=Q1f h ((Q8s s p).2 (.inr (Q8t hq hp)))
theorem Q2f.t1{σ:St}{t:LTr}(h:Owns σ.ou (objs t)):Q2f σ [.one (.ptr (.o t.id) 0)] [.one (.box (cTr (erT t)))]:=.cons (LendF.tree h) .nil
theorem Qig(hΓ:∀g cs,(g,cs)∈Γ->idsL isO cs)(i:Nat)(o n:Int)(b:List Int)(row:LTr)(rs:List LTr)(a:List LAlt)(hpl:Q24 row)(hok:okT (erT (.mk i o n none b (row::rs) a)))(hsh:allT shpL (erT (.mk i o n none b (row::rs) a)))(ou:Outer)(ho:Owns ou (objs (.mk i o n none b (row::rs) a))):
  AFn Tryz.prog Γ 104 [.one (.ptr (.o i) 0)] ou (ResD ou (.mk i o n none b (row::rs) a) (Qa9 (erT (.mk i o n none b (row::rs) a)))):=by
 have hi:ou i=some (.cells (lC (.mk i o n none b (row::rs) a))):=Q09 ho
 simp only[lC,bC]at hi
 have hrm:row∈(LTr.mk i o n none b (row::rs) a).kids:=by simp[LTr.kids]
 have hro:=Q14 ho hrm
 have hrk:=Q2k hok (Q1y hrm)
 have hrs:=Q1x hsh (Q1y hrm)
 have hval:=Q43 hΓ (erT row) hrk hrs
 have hf:Qa9 (erT (.mk i o n none b (row::rs) a))=if (erT row).op≠9∨valT (erT row)=false then none else Q5f n (erT row).binds (erT row).kids:=rfl
 rw[hf]
 cases row with
 |mk j op2 n2 nb2 b2 ks2 a2=>
 obtain rfl:nb2=none:=hpl.1
 have hj:ou j=some (.cells (lC (.mk j op2 n2 none b2 ks2 a2))):=Q09 hro
 simp only[lC,bC]at hj
 refine AFn.walk 46 tabOk Tryz.func104 rfl (by kernel_rfl) rfl rfl fun hou=>?_
 repeat' first|refine zN ?_|((with_reducible refine oj ?_);first|refine zix ?_|refine zow rfl rfl hi ?_|refine zow rfl rfl hj ?_)
 have hsl:=fun h9=>shp_row (o:=op2) (n:=n2) (b:=b2) (k:=erTs ks2) (a:=a2.map LAlt.er) hrs h9
 have hb2l:b2.length<=1048576:=hrk.1
 obtain⟨X,hX⟩:∃X,X=Q5f n (erT (.mk j op2 n2 none b2 ks2 a2)).binds (erT (.mk j op2 n2 none b2 ks2 a2)).kids:=⟨_,rfl⟩
 rw[←hX]
 have hX':X=Q5f n b2 (erTs ks2):=hX
 have hop:(erT (.mk j op2 n2 none b2 ks2 a2)).op=op2:=rfl
 rw[hop]
 refine AOps.splitS rfl rfl rfl rfl (fun hb1=>?_) (fun hb1=>?_)
 ·have h9:op2≠9:=by simpa using hb1
  repeat' first|refine zN ?_|((with_reducible refine oj ?_);first|refine zix ?_|refine zow rfl rfl hi ?_|refine zow rfl rfl hj ?_)
  exact AFn.fin' rfl (WkF.refl _) (by simp) hou (by rw[if_pos (.inl h9)];exact ResD.no rfl hou)
 have h9:op2=9:=by simpa using hb1
 have hsl:=hsl h9
 rw[Q0g,List.length_map]at hsl
 repeat' first|refine zN ?_|((with_reducible refine oj ?_);first|refine zix ?_|refine zow rfl rfl hi ?_|refine zow rfl rfl hj ?_)
 refine AOps.callS hΓ hval (Plain.lit _) rfl rfl rfl rfl rfl rfl (Q2f.t1 hro) ?_
 repeat' first|refine zN ?_|((with_reducible refine oj ?_);first|refine zix ?_|refine zow rfl rfl hi ?_|refine zow rfl rfl hj ?_)
 refine ACode.condS rfl (fun hv=>?_) (fun hv=>?_)
 ·have hv':valT (erT (.mk j op2 n2 none b2 ks2 a2))=false:=by simpa using hv
  refine zA ?_
  exact AFn.fin' rfl (WkF.refl _) (by simp) hou (by rw[if_pos (.inr hv')];exact ResD.no rfl hou)
 have hv':valT (erT (.mk j op2 n2 none b2 ks2 a2))=true:=by simpa using hv
 rw[if_neg (by rw[hv'];simp[h9])]
 repeat' first|refine zN ?_|((with_reducible refine oj ?_);first|refine zix ?_|refine zow rfl rfl hi ?_|refine zow rfl rfl hj ?_)
 refine ACode.loopR hΓ (α:=Nat) (fun q=>[(27,.one (int q)),(26,.one (int (b2.map cI).length)),(25,.one (.sl 1 (b2.map cI))),(3,.one (.ptr (.o j) 0)),(0,.one (.ptr (.o i) 0))])
  (fun q=>⟨0,[],ou⟩) (fun m q=>q<=b2.length/\X=Q5f n (b2.drop q) ((erTs ks2).drop q)/\m=b2.length - q) (a0:=0) (ρ:=id) ⟨by omega,hX',rfl⟩ (LessR.of rfl zFS (by simp) zLO rfl rfl hou) fun m q hq=>?_
 obtain⟨hql,hXq,rfl⟩:=hq
 refine zA ?_
 refine ACode.cond rfl (fun hb2=>?_) (fun hb2=>?_)
 ·have hlt:q < b2.length:=by simpa using hb2
  obtain⟨v,hv3⟩:=Q00 hlt
  obtain⟨s,hs⟩:=Q00 (l:=ks2) (i:=q) (by omega)
  obtain⟨h1,h2⟩:=List.getElem?_eq_some_iff.1 hv3
  have hs2:(erTs ks2)[q]?=some (erT s):=by rw[Q0g];simp[hs]
  obtain⟨h3,h4⟩:=List.getElem?_eq_some_iff.1 hs2
  rw[List.drop_eq_getElem_cons h1,List.drop_eq_getElem_cons h3,h2,h4]at hXq
  simp only[Q5f]at hXq
  refine zA ?_
  refine zS (zIA rfl rfl rfl (by omega) (Q04 hv3)) ?_
  repeat' first|refine zN ?_|((with_reducible refine oj ?_);first|refine zix ?_|refine zow rfl rfl hi ?_|refine zow rfl rfl hj ?_)
  refine ACode.cond rfl (fun hb3=>?_) (fun hb3=>?_)
  ·have he:v=n:=by simpa using hb3
   rw[if_pos he]at hXq
   repeat' first|refine zN ?_|((with_reducible refine oj ?_);first|refine zix ?_|refine zow rfl rfl hi ?_|refine zow rfl rfl hj ?_)
   refine zS (zIA rfl rfl rfl (by omega) (by simpa using Q2n hs)) ?_
   refine zA ?_
   refine AFn.fin' rfl (WkF.refl _) (by simp) hou ?_
   rw[hXq]
   exact⟨s,rfl,rfl,Der.refl (fun p hp=>Q3h hrm (by simpa[LTr.kids]using List.mem_of_getElem? hs) hp) hou⟩
  ·have he:¬v=n:=by simpa using hb3
   rw[if_neg he]at hXq
   refine zM ?_
   exact cInv ⟨b2.length - (q+1),q+1,id,by omega,⟨by omega,hXq,rfl⟩,LessR.of rfl zFS (by simp) zLO rfl rfl hou⟩
 ·have hlt:q=b2.length:=by simp at hb2;omega
  subst hlt
  refine zA ?_
  refine AFn.fin' rfl (WkF.refl _) (by simp) hou ?_
  rw[hXq,List.drop_length]
  exact ResD.no rfl hou
theorem Qf4{con:Tr}{n2:Int}{K:List Tr}(h1:con.n=n2)(h2:con.kids=K)(tag:Int)(xb:List Int)(l:List Alt)(k:Tr)(ks:List Tr):
  Q42 con (⟨tag,xb⟩::l) (k::ks)=if tag=n2 then (if xb.length≠K.length then none else some (letsT xb K k))else if tag=-1/\valT con=true then some k else Q42 con l ks:=by
 subst h1;subst h2;rfl
set_option maxHeartbeats 1000000 in
theorem Qf3(hΓ:∀g cs,(g,cs)∈Γ->idsL isO cs)(i:Nat)(o n:Int)(b:List Int)(con:LTr)(rs:List LTr)(a:List LAlt)(hpl:Q24 con)(hpa:∀x∈a,x.nb=none)(hlen:rs.length=a.length)(hok:okT (erT (.mk i o n none b (con::rs) a)))(hsh:allT shpL (erT (.mk i o n none b (con::rs) a)))(ou:Outer)(ho:Owns ou (objs (.mk i o n none b (con::rs) a))):
  AFn Tryz.prog Γ 105 [.one (.ptr (.o i) 0)] ou (ResD ou (.mk i o n none b (con::rs) a) (Q6a (erT (.mk i o n none b (con::rs) a)))):=by
 have hi:ou i=some (.cells (lC (.mk i o n none b (con::rs) a))):=Q09 ho
 simp only[lC,bC]at hi
 have hrm:con∈(LTr.mk i o n none b (con::rs) a).kids:=by simp[LTr.kids]
 have hro:=Q14 ho hrm
 have hrk:=Q2k hok (Q1y hrm)
 have hval:=Q43 hΓ (erT con) hrk (Q1x hsh (Q1y hrm))
 have hal:a.length<=1048576:=by have:=hok.2.2.1;simpa using this
 have hf:Q6a (erT (.mk i o n none b (con::rs) a))=Q42 (erT con) (a.map LAlt.er) (erTs rs):=rfl
 obtain⟨X,hX⟩:∃X,X=Q6a (erT (.mk i o n none b (con::rs) a)):=⟨_,rfl⟩
 rw[←hX]
 rw[hf]at hX
 obtain⟨t,hte⟩:∃t,t=LTr.mk i o n none b (con::rs) a:=⟨_,rfl⟩
 rw[←hte]at hrm ⊢
 have htail:∀(s:LTr),s∈con::rs->∀p∈objs s,p∈tailO t:=fun s hs p hp=>Q1f (by rw[hte];exact hs) hp
 cases con with
 |mk j oo2 n2 nb2 b2 ks2 a2=>
 obtain rfl:nb2=none:=hpl.1
 have hj:ou j=some (.cells (lC (.mk j oo2 n2 none b2 ks2 a2))):=Q09 hro
 simp only[lC,bC]at hj
 have hkl2:ks2.length<=1048576:=by have:=hrk.2.1;simpa[Q0g]using this
 refine AFn.walk 81 tabOk Tryz.func105 rfl (by kernel_rfl) rfl rfl fun hou=>?_
 repeat' first|refine zN ?_|((with_reducible refine oj ?_);first|refine zix ?_|refine zow rfl rfl hi ?_|refine zow rfl rfl hj ?_)
 refine ACode.loopR hΓ (α:=Nat) (fun q=>[(17,.one (int q)),(16,.one (int (a.map lAlt).length)),(15,.one (.sl 2 (a.map lAlt))),(3,.one (.ptr (.o j) 0)),(0,.one (.ptr (.o i) 0))])
  (fun q=>⟨0,[],ou⟩) (fun m q=>q<=a.length/\X=Q42 (erT (.mk j oo2 n2 none b2 ks2 a2)) ((a.drop q).map LAlt.er) (erTs (rs.drop q))/\m=a.length - q) (a0:=0) (ρ:=id) ⟨by omega,hX,rfl⟩ (LessR.of rfl ?_ (by simp) zLO rfl rfl hou) fun m q hq=>?_
 ·refine FrSub.cons rfl (.ofEq rfl) (FrSub.cons rfl (.ofEq rfl) (FrSub.consP rfl (.ofEq rfl) (by simp) (FrSub.cons rfl (.ofEq rfl) (FrSub.cons rfl (.ofEq rfl) .nil))))
 obtain⟨hql,hXq,rfl⟩:=hq
 clear hX
 refine zA ?_
 refine ACode.cond rfl (fun hb2=>?_) (fun hb2=>?_)
 ·have hlt:q < a.length:=by simpa using hb2
  obtain⟨x,hx⟩:=Q00 hlt
  obtain⟨s,hs⟩:=Q00 (l:=rs) (i:=q) (by omega)
  obtain⟨h1,h2⟩:=List.getElem?_eq_some_iff.1 hx
  obtain⟨h3,h4⟩:=List.getElem?_eq_some_iff.1 hs
  have hxn:=hpa x (List.mem_of_getElem? hx)
  have hxb:x.binds.length<=1048576:=hok.2.2.2.1.1 x.er (List.mem_map_of_mem (List.mem_of_getElem? hx))
  rw[List.drop_eq_getElem_cons h1,List.drop_eq_getElem_cons h3,h2,h4]at hXq
  rw[List.map_cons,erTs]at hXq
  have hsx:(con_rs:List LTr)->con_rs=.mk j oo2 n2 none b2 ks2 a2::rs->(kC con_rs)[((1:Int)+(q:Int)).toNat]?=some [.ptr (.o s.id) 0]:=fun l hl=>by
   subst hl
   rw[show ((1:Int)+(q:Int)).toNat=q+1 by omega]
   exact Q2n (by simpa using hs)
  obtain⟨tag,nbx,xb⟩:=x
  obtain rfl:nbx=none:=hxn
  rw[show LAlt.er ⟨tag,none,xb⟩=⟨tag,xb⟩from rfl,Qf4 (con:=erT (.mk j oo2 n2 none b2 ks2 a2)) (n2:=n2) (K:=ks2.map erT) rfl (by rw[Q41];rfl)]at hXq
  refine zA ?_
  refine zS (zIA rfl rfl rfl (by omega) (Q04 hx)) ?_
  refine zA ?_
  by_cases ht:tag=n2
  ·refine ACode.drawX tabOk 18 [(5,.one (int n2)),(6,.one (.lit (.bool true))),(14,.one (.sl 1 (kC ks2)))] follows (by kernel_rfl) rfl rfl rfl rfl ?_ ?_
   ·refine .step rfl (zHP (zLD rfl rfl hj rfl)) ?_
    refine .step rfl (HStep.litB tabOk rfl (by simp[ht])) ?_
    exact .step rfl (HStep.guarded rfl rfl rfl (zLD rfl rfl hj rfl)) .nil
   refine zA ?_
   rw[if_pos ht]at hXq
   have hne:((xb.map cI).length:Int)=(xb.length:Int):=by simp
   have hne2:((kC ks2).length:Int)=(ks2.length:Int):=by simp[Q0q]
   rw[List.length_map]at hXq
   refine ACode.condS rfl (fun hb3=>?_) (fun hb3=>?_)
   ·have hl:xb.length≠ks2.length:=by simp[Q0q]at hb3;omega
    rw[if_pos hl]at hXq
    refine zA ?_
    exact AFn.fin' rfl (WkF.refl _) (by simp) hou (by rw[hXq];exact ResD.no rfl hou)
   have hl:xb.length=ks2.length:=by simp[Q0q]at hb3;omega
   rw[if_neg (by omega)]at hXq
   refine zA ?_
   refine ACode.drawX tabOk 7 [(5,.one (int n2)),(6,.one (.lit (.bool true)))] follows (by kernel_rfl) rfl rfl rfl rfl ?_ ?_
   ·refine .step rfl (zHP (zLD rfl rfl hj rfl)) ?_
    exact .step rfl (HStep.litB tabOk rfl (by simp[ht])) .nil
   refine zA ?_
   refine ACode.drawC tabOk 15 [14] [(5,.one (.sl 1 (kC ks2))),(9,.one (.sl 1 (kC (.mk j oo2 n2 none b2 ks2 a2::rs)))),(11,.one (int ((1:Int)+(q:Int)))),(12,.one (.box [.ptr (.o s.id) 0]))] (fun vs σ=>match vs with
     |[]=>σ=⟨1,[(0,.cells [int tag,bC none xb]),(0,.cells (ti46.zero.map .lit))],ou⟩
     |[r]=>∃(u:LTr) (ow:Outer),r=.one (.ptr (.o u.id) 0)/\erT u=letsT xb (ks2.map erT) (erT s)/\Der ou ow (objss ks2++objs s) u/\σ=⟨1,[(0,.cells [int tag,bC none xb]),(0,.cells (ti46.zero.map .lit))],ow⟩
     |_=>False) follows (by kernel_rfl) rfl rfl (by decide) (by kernel_rfl) (by kernel_rfl) rfl rfl ?_ ?_ (by decide) ?_ ?_
   ·rintro vs σ hG
    match vs,hG with
    |[],hG=>subst hG;rfl
    |[r],hG=>obtain⟨u,ow,_,_,_,rfl⟩:=hG;rfl
   ·rintro vs σ hG
    have hj':σ.ou j=some (.cells [int oo2,int n2,.sl 1 (b2.map cI),.sl 1 (kC ks2),.sl 2 (a2.map lAlt)])/\σ.ou i=some (.cells [int o,int n,.sl 1 (b.map cI),.sl 1 (kC (.mk j oo2 n2 none b2 ks2 a2::rs)),.sl 2 (a.map lAlt)]):=by
     match vs,hG with
     |[],hG=>subst hG;exact⟨hj,hi⟩
     |[r],hG=>obtain⟨u,ow,_,_,hD,rfl⟩:=hG;exact⟨hD.old _ _ hj,hD.old _ _ hi⟩
    refine .step rfl (zHP (zLD rfl rfl hj'.1 rfl)) ?_
    refine .step rfl (zHP (zLD rfl rfl hj'.2 rfl)) ?_
    refine .step rfl (zHP (AStep.arith rfl rfl rfl (.inl ⟨rfl,rfl⟩) zI)) ?_
    exact .step rfl (zHP (zIA rfl rfl rfl (by omega) (hsx _ rfl))) .nil
   ·rintro vs σ hG p oo hp1 hp2
    match vs,hG with
    |[],hG=>
     subst hG
     cases hp1
     cases hp2
     refine⟨rfl,rfl,.inr ⟨rfl,Q0w.call hΓ rfl rfl rfl rfl (by exact⟨by simp,by simp,trivial,trivial⟩) hou (Qlu hΓ xb ks2 s hl hkl2 ou) fun r ow hq _ _=>?_⟩⟩
     obtain⟨u,rfl,he,hD⟩:=hq
     exact⟨u,ow,rfl,he,hD,rfl⟩
    |[r],hG=>cases hp1
   rintro vs σ hlen2 hG
   match vs,hlen2,hG with
   |[r],_,hG=>
   obtain⟨u,ow,rfl,he,hD,rfl⟩:=hG
   refine zM ?_
   refine AFn.fin' rfl (WkF.refl _) (by simp) hD.ok ?_
   rw[hXq]
   refine⟨u,rfl,?_,hD.mono fun p hp=>?_⟩
   ·exact he
   ·rcases List.mem_append.1 hp with hp|hp
    ·rw[Q3s]at hp
     obtain⟨s2,hs2,hp2⟩:=List.mem_flatMap.1 hp
     exact Q3h hrm hs2 hp2
    ·exact htail s (by simp[List.mem_of_getElem? hs]) p hp
  ·refine ACode.drawX tabOk 18 [(5,.one (int n2)),(6,.one (.lit (.bool false)))] follows (by kernel_rfl) rfl rfl rfl rfl ?_ ?_
   ·refine .step rfl (zHP (zLD rfl rfl hj rfl)) ?_
    exact .step rfl (HStep.litB tabOk rfl (by simp[ht])) .nil
   rw[if_neg ht]at hXq
   refine zA ?_
   refine ACode.drawX tabOk 7 [(5,.one (int n2)),(6,.one (.lit (.bool false)))] follows (by kernel_rfl) rfl rfl rfl rfl ?_ ?_
   ·refine .step rfl (zHP (zLD rfl rfl hj rfl)) ?_
    exact .step rfl (HStep.litB tabOk rfl (by simp[ht])) .nil
   refine zA ?_
   refine AOps.splitS rfl rfl rfl rfl (fun hb3=>?_) (fun hb3=>?_)
   ·have ht1:tag=-1:=by simpa using hb3
    refine zM ?_
    refine AOps.callS hΓ hval (Plain.lit _) rfl rfl rfl rfl rfl rfl (Q2f.t1 (t:=.mk j oo2 n2 none b2 ks2 a2) hro) ?_
    refine zA ?_
    refine ACode.condS rfl (fun hv=>?_) (fun hv=>?_)
    ·have hv':valT (erT (.mk j oo2 n2 none b2 ks2 a2))=true:=hv
     rw[if_pos ⟨ht1,hv'⟩]at hXq
     repeat' first|refine zN ?_|((with_reducible refine oj ?_);first|refine zix ?_|refine zow rfl rfl hi ?_)
     refine zS (zIA rfl rfl rfl (by omega) (hsx _ rfl)) ?_
     refine zA ?_
     refine AFn.fin' rfl (WkF.refl _) (by simp) hou ?_
     rw[hXq]
     exact⟨s,rfl,rfl,Der.refl (htail s (by simp[List.mem_of_getElem? hs])) hou⟩
    ·have hv':valT (erT (.mk j oo2 n2 none b2 ks2 a2))=false:=hv
     rw[if_neg (by rw[hv'];simp)]at hXq
     refine zM ?_
     exact cInv ⟨a.length - (q+1),q+1,id,by omega,⟨by omega,hXq,rfl⟩,LessR.of rfl zFS (by simp) .nil rfl rfl hou⟩
   ·have ht1:tag≠-1:=by simpa using hb3
    rw[if_neg (fun h=>ht1 h.1)]at hXq
    refine zM ?_
    exact cInv ⟨a.length - (q+1),q+1,id,by omega,⟨by omega,hXq,rfl⟩,LessR.of rfl zFS (by simp) .nil rfl rfl hou⟩
 ·have hlt:q=a.length:=by simp at hb2;omega
  subst hlt
  refine zA ?_
  refine AFn.fin' rfl (WkF.refl _) (by simp) hou ?_
  rw[hXq,List.drop_length]
  exact ResD.no rfl hou
theorem Q7d(n:Int)(h0:-4611686018427387904<=n)(h1:n<=4611686018427387904):APure Tryz.prog Γ 128 [.one (int n)] (.one (int (wrapI n))):=by
 intro ou
 refine AFn.walk 7 tabOk Tryz.func128 rfl (by kernel_rfl) rfl rfl fun hou=>?_
 refine zM ?_
 refine zS (AStep.and rfl rfl rfl) ?_
 rw[Qis]
 have h4:0<=(n - (-1073741824)) % 2147483648:=Int.emod_nonneg _ (by decide)
 have h5:(n - (-1073741824)) % 2147483648 < 2147483648:=Int.emod_lt_of_pos _ (by decide)
 refine zM ?_
 refine APure.fin rfl (WkF.ofEq ?_) (by simp) hou rfl
 unfold wrapI
 congr 3
theorem Qb2{a:Int}(b:Int)(ha:-1073741824<=a/\a<=1073741823):-1073741824<=a.tdiv b/\a.tdiv b<=1073741824:=by
 have h1:(a.tdiv b).natAbs<=a.natAbs:=by
  rw[Int.natAbs_tdiv];exact Nat.div_le_self _ _
 omega
theorem Qb1{a:Int}(b:Int)(ha:-1073741824<=a/\a<=1073741823):-1073741824<=a.tmod b/\a.tmod b<=1073741824:=by
 have h1:(a.tmod b).natAbs<=a.natAbs:=by
  rw[Int.natAbs_tmod];exact Nat.mod_le _ _
 omega
set_option maxHeartbeats 2000000 in
theorem Qip(hΓ:∀g cs,(g,cs)∈Γ->idsL isO cs)(i:Nat)(o n:Int)(b:List Int)(x y:LTr)(a:List LAlt)(hrx:(erT x).op=1->-1073741824<=(erT x).n/\(erT x).n<=1073741823)(hry:(erT y).op=1->-1073741824<=(erT y).n/\(erT y).n<=1073741823)(ou:Outer)(ho:Owns ou (objs (.mk i o n none b [x,y] a))):
  AFn Tryz.prog Γ 103 [.one (.ptr (.o i) 0)] ou (ResD ou (.mk i o n none b [x,y] a) (Q8j (erT (.mk i o n none b [x,y] a)))):=by
 have hi:ou i=some (.cells (lC (.mk i o n none b [x,y] a))):=Q09 ho
 simp only[lC,bC]at hi
 have hxo:=Q14 ho (s:=x) (by simp[LTr.kids])
 have hyo:=Q14 ho (s:=y) (by simp[LTr.kids])
 cases x with
 |mk jx ox nx nbx bx kx ax=>
 cases y with
 |mk jy oy ny nby by' ky ay=>
 have hx:ou jx=some (.cells (lC (.mk jx ox nx nbx bx kx ax))):=Q09 hxo
 have hy:ou jy=some (.cells (lC (.mk jy oy ny nby by' ky ay))):=Q09 hyo
 simp only[lC]at hx hy
 obtain⟨X,hX⟩:∃X,X=Q8j (erT (.mk i o n none b [.mk jx ox nx nbx bx kx ax,.mk jy oy ny nby by' ky ay] a)):=⟨_,rfl⟩
 rw[←hX]
 have hA:X=if n > 6∨ox≠1∨oy≠1 then none
  else if n=0 then some (wordT (wrapI (nx+ny)))
  else if n=1 then some (wordT (wrapI (nx - ny)))
  else if n=2 then some (wordT (wrapI (nx * ny)))
  else if n=3 then (if ny=0 then none else some (wordT (wrapI (nx.tdiv ny))))
  else if n=4 then (if ny=0 then none else some (wordT (wrapI (nx.tmod ny))))
  else if n=6 then some (flagT (nx==ny))
  else if n=5 then some (flagT (decide (nx < ny)))
  else some (wordT (wrapI 0)):=hX
 clear hX
 generalize hT:LTr.mk i o n none b [.mk jx ox nx nbx bx kx ax,.mk jy oy ny nby by' ky ay] a=t
 refine AFn.walk 114 tabOk Tryz.func103 rfl (by kernel_rfl) rfl rfl fun hou=>?_
 by_cases hbad:n > 6∨ox≠1∨oy≠1
 ·rw[if_pos hbad]at hA
  repeat' first|refine zN ?_|((with_reducible refine oj ?_);first|refine zix ?_|refine zow rfl rfl hi ?_|refine zow rfl rfl hx ?_|refine zow rfl rfl hy ?_)|(with_reducible refine oj ?_;refine AOps.splitS rfl rfl rfl rfl (fun hb=>?_) (fun hb=>?_))|(with_reducible refine ok ?_;first|refine ACode.condS rfl (fun hb=>?_) (fun hb=>?_)|refine ACode.cond rfl (fun hb=>?_) (fun hb=>?_))
  all_goals first
   |(exfalso;simp at *;omega)
   |skip
  all_goals exact AFn.fin' rfl (WkF.refl _) (by simp) hou (by rw[hA];exact ResD.no rfl hou)
 rw[if_neg hbad]at hA
 obtain⟨hn6,rfl,rfl⟩:n<=6/\ox=1/\oy=1:=by omega
 have hrx:=hrx rfl
 have hry:=hry rfl
 simp only[erT,Tr.n_mk]at hrx hry
 rcases (by omega:n=0∨n=1∨n=2∨n=3∨n=4∨n=5∨n=6∨n < 0)with rfl|rfl|rfl|rfl|rfl|rfl|rfl|hneg
 ·repeat' first|refine zN ?_|((with_reducible refine oj ?_);first|refine zix ?_|refine zow rfl rfl hi ?_|refine zow rfl rfl hx ?_|refine zow rfl rfl hy ?_)
  refine ACode.drawX tabOk 19 [(3,.one (.sl 1 (kC [.mk jx 1 nx nbx bx kx ax,.mk jy 1 ny nby by' ky ay]))),(4,.one (.box [.ptr (.o jx) 0])),(8,.one (int nx)),(12,.one (.sl 1 (kC [.mk jx 1 nx nbx bx kx ax,.mk jy 1 ny nby by' ky ay]))),(13,.one (.box [.ptr (.o jy) 0])),(17,.one (int ny))] follows (by kernel_rfl) rfl rfl rfl rfl ?_ ?_
  ·refine .step rfl (zHP (zLD rfl rfl hi rfl)) ?_
   refine .step rfl (zHP (zIA rfl rfl rfl (by decide) rfl)) ?_
   refine .step rfl (zHP (zLD rfl rfl hx rfl)) ?_
   refine .step rfl (zHP (zLD rfl rfl hi rfl)) ?_
   refine .step rfl (zHP (zIA rfl rfl rfl (by decide) rfl)) ?_
   exact .step rfl (zHP (zLD rfl rfl hy rfl)) .nil
  repeat ((fail_if_success ((with_reducible refine oj ?_);refine AOps.atDst 104 rfl ?_));first|refine zO ?_|((with_reducible refine oj ?_);first|refine zix ?_|refine zow rfl rfl hi ?_|refine zow rfl rfl hx ?_|refine zow rfl rfl hy ?_))
  refine zca hΓ (Q7d (nx+ny) (by omega) (by omega)) hou ?_
  repeat ((fail_if_success ((with_reducible refine oj ?_);refine AOps.atDst 2 rfl ?_));first|refine zO ?_)
  refine AOps.wkObj (.l 0) rfl (cs':=lC (.mk 0 1 (wrapI (nx+ny)) none [] [] [])) (fun w C xs h=>?_) ?_
  ·exact (show WkL _ _ from .cons (.refl _) (.cons (.refl _) (.cons (.nilS 1) (.cons (.nilS 1) (.cons (.nilS 2) .nil))))) w C xs h
  refine AOps.cedes [0] rfl (by decide) hou fun k hk=>⟨[(106,.one (.ptr (.o k) 0))],[],[.cells (lC (.mk k 1 (wrapI (nx+ny)) none [] [] []))],.cons rfl rfl .nil,.nil,?_,?_⟩
  ·exact .cons rfl rfl .nil
  have hN:=NewO.add hk hou (show (AObj.cells (lC (.mk k 1 (wrapI (nx+ny)) none [] [] []))).ids isO by simp[lC,bC,kC])
  refine zA ?_
  refine AFn.fin' rfl (WkF.refl _) (by simp) hN.ok ?_
  rw[hA]
  exact⟨.mk k 1 (wrapI (nx+ny)) none [] [] [],rfl,rfl,Der.node (u:=.mk k 1 (wrapI (nx+ny)) none [] [] []) (fun _ _ h=>h) hN (fun p hp=>by simp[tailO,bO,aO,objss]at hp)⟩
 ·repeat' first|refine zN ?_|((with_reducible refine oj ?_);first|refine zix ?_|refine zow rfl rfl hi ?_|refine zow rfl rfl hx ?_|refine zow rfl rfl hy ?_)
  refine ACode.drawX tabOk 19 [(3,.one (.sl 1 (kC [.mk jx 1 nx nbx bx kx ax,.mk jy 1 ny nby by' ky ay]))),(4,.one (.box [.ptr (.o jx) 0])),(8,.one (int nx)),(12,.one (.sl 1 (kC [.mk jx 1 nx nbx bx kx ax,.mk jy 1 ny nby by' ky ay]))),(13,.one (.box [.ptr (.o jy) 0])),(17,.one (int ny))] follows (by kernel_rfl) rfl rfl rfl rfl ?_ ?_
  ·refine .step rfl (zHP (zLD rfl rfl hi rfl)) ?_
   refine .step rfl (zHP (zIA rfl rfl rfl (by decide) rfl)) ?_
   refine .step rfl (zHP (zLD rfl rfl hx rfl)) ?_
   refine .step rfl (zHP (zLD rfl rfl hi rfl)) ?_
   refine .step rfl (zHP (zIA rfl rfl rfl (by decide) rfl)) ?_
   exact .step rfl (zHP (zLD rfl rfl hy rfl)) .nil
  repeat ((fail_if_success ((with_reducible refine oj ?_);refine AOps.atDst 104 rfl ?_));first|refine zO ?_|((with_reducible refine oj ?_);first|refine zix ?_|refine zow rfl rfl hi ?_|refine zow rfl rfl hx ?_|refine zow rfl rfl hy ?_))
  refine zca hΓ (Q7d (nx - ny) (by omega) (by omega)) hou ?_
  repeat ((fail_if_success ((with_reducible refine oj ?_);refine AOps.atDst 2 rfl ?_));first|refine zO ?_)
  refine AOps.wkObj (.l 0) rfl (cs':=lC (.mk 0 1 (wrapI (nx - ny)) none [] [] [])) (fun w C xs h=>?_) ?_
  ·exact (show WkL _ _ from .cons (.refl _) (.cons (.refl _) (.cons (.nilS 1) (.cons (.nilS 1) (.cons (.nilS 2) .nil))))) w C xs h
  refine AOps.cedes [0] rfl (by decide) hou fun k hk=>⟨[(106,.one (.ptr (.o k) 0))],[],[.cells (lC (.mk k 1 (wrapI (nx - ny)) none [] [] []))],.cons rfl rfl .nil,.nil,?_,?_⟩
  ·exact .cons rfl rfl .nil
  have hN:=NewO.add hk hou (show (AObj.cells (lC (.mk k 1 (wrapI (nx - ny)) none [] [] []))).ids isO by simp[lC,bC,kC])
  refine zA ?_
  refine AFn.fin' rfl (WkF.refl _) (by simp) hN.ok ?_
  rw[hA]
  exact⟨.mk k 1 (wrapI (nx - ny)) none [] [] [],rfl,rfl,Der.node (u:=.mk k 1 (wrapI (nx - ny)) none [] [] []) (fun _ _ h=>h) hN (fun p hp=>by simp[tailO,bO,aO,objss]at hp)⟩
 ·repeat' first|refine zN ?_|((with_reducible refine oj ?_);first|refine zix ?_|refine zow rfl rfl hi ?_|refine zow rfl rfl hx ?_|refine zow rfl rfl hy ?_)
  refine ACode.drawX tabOk 19 [(3,.one (.sl 1 (kC [.mk jx 1 nx nbx bx kx ax,.mk jy 1 ny nby by' ky ay]))),(4,.one (.box [.ptr (.o jx) 0])),(8,.one (int nx)),(12,.one (.sl 1 (kC [.mk jx 1 nx nbx bx kx ax,.mk jy 1 ny nby by' ky ay]))),(13,.one (.box [.ptr (.o jy) 0])),(17,.one (int ny))] follows (by kernel_rfl) rfl rfl rfl rfl ?_ ?_
  ·refine .step rfl (zHP (zLD rfl rfl hi rfl)) ?_
   refine .step rfl (zHP (zIA rfl rfl rfl (by decide) rfl)) ?_
   refine .step rfl (zHP (zLD rfl rfl hx rfl)) ?_
   refine .step rfl (zHP (zLD rfl rfl hi rfl)) ?_
   refine .step rfl (zHP (zIA rfl rfl rfl (by decide) rfl)) ?_
   exact .step rfl (zHP (zLD rfl rfl hy rfl)) .nil
  have hm:=Qlr hrx hry
  repeat' first|refine zN ?_|((with_reducible refine oj ?_);first|refine zix ?_|refine zow rfl rfl hi ?_|refine zow rfl rfl hx ?_|refine zow rfl rfl hy ?_)
  refine zS (AStep.arith (r:=nx * ny) rfl rfl rfl (.inr (.inr ⟨rfl,rfl⟩)) zI) ?_
  repeat ((fail_if_success ((with_reducible refine oj ?_);refine AOps.atDst 104 rfl ?_));first|refine zO ?_|((with_reducible refine oj ?_);first|refine zix ?_|refine zow rfl rfl hi ?_|refine zow rfl rfl hx ?_|refine zow rfl rfl hy ?_))
  refine zca hΓ (Q7d (nx * ny) (by omega) (by omega)) hou ?_
  repeat ((fail_if_success ((with_reducible refine oj ?_);refine AOps.atDst 2 rfl ?_));first|refine zO ?_)
  refine AOps.wkObj (.l 0) rfl (cs':=lC (.mk 0 1 (wrapI (nx * ny)) none [] [] [])) (fun w C xs h=>?_) ?_
  ·exact (show WkL _ _ from .cons (.refl _) (.cons (.refl _) (.cons (.nilS 1) (.cons (.nilS 1) (.cons (.nilS 2) .nil))))) w C xs h
  refine AOps.cedes [0] rfl (by decide) hou fun k hk=>⟨[(106,.one (.ptr (.o k) 0))],[],[.cells (lC (.mk k 1 (wrapI (nx * ny)) none [] [] []))],.cons rfl rfl .nil,.nil,?_,?_⟩
  ·exact .cons rfl rfl .nil
  have hN:=NewO.add hk hou (show (AObj.cells (lC (.mk k 1 (wrapI (nx * ny)) none [] [] []))).ids isO by simp[lC,bC,kC])
  refine zA ?_
  refine AFn.fin' rfl (WkF.refl _) (by simp) hN.ok ?_
  rw[hA]
  exact⟨.mk k 1 (wrapI (nx * ny)) none [] [] [],rfl,rfl,Der.node (u:=.mk k 1 (wrapI (nx * ny)) none [] [] []) (fun _ _ h=>h) hN (fun p hp=>by simp[tailO,bO,aO,objss]at hp)⟩
 ·repeat' first|refine zN ?_|((with_reducible refine oj ?_);first|refine zix ?_|refine zow rfl rfl hi ?_|refine zow rfl rfl hx ?_|refine zow rfl rfl hy ?_)
  refine ACode.drawX tabOk 19 [(3,.one (.sl 1 (kC [.mk jx 1 nx nbx bx kx ax,.mk jy 1 ny nby by' ky ay]))),(4,.one (.box [.ptr (.o jx) 0])),(8,.one (int nx)),(12,.one (.sl 1 (kC [.mk jx 1 nx nbx bx kx ax,.mk jy 1 ny nby by' ky ay]))),(13,.one (.box [.ptr (.o jy) 0])),(17,.one (int ny))] follows (by kernel_rfl) rfl rfl rfl rfl ?_ ?_
  ·refine .step rfl (zHP (zLD rfl rfl hi rfl)) ?_
   refine .step rfl (zHP (zIA rfl rfl rfl (by decide) rfl)) ?_
   refine .step rfl (zHP (zLD rfl rfl hx rfl)) ?_
   refine .step rfl (zHP (zLD rfl rfl hi rfl)) ?_
   refine .step rfl (zHP (zIA rfl rfl rfl (by decide) rfl)) ?_
   exact .step rfl (zHP (zLD rfl rfl hy rfl)) .nil
  repeat' first|refine zN ?_|((with_reducible refine oj ?_);first|refine zix ?_|refine zow rfl rfl hi ?_|refine zow rfl rfl hx ?_|refine zow rfl rfl hy ?_)
  have hd:=Qb2 ny hrx
  have hmo:=Qb1 ny hrx
  refine ACode.condS rfl (fun h0=>?_) (fun h0=>?_)
  ·have h0':ny=0:=by simpa using h0
   refine zA ?_
   rw[if_neg (by decide),if_neg (by decide),if_neg (by decide),if_pos rfl,if_pos h0']at hA
   exact AFn.fin' rfl (WkF.refl _) (by simp) hou (by rw[hA];exact ResD.no rfl hou)
  have h0':ny≠0:=by simpa using h0
  rw[if_neg (by decide),if_neg (by decide),if_neg (by decide),if_pos rfl,if_neg h0']at hA
  repeat' first|refine zN ?_|((with_reducible refine oj ?_);first|refine zix ?_|refine zow rfl rfl hi ?_|refine zow rfl rfl hx ?_|refine zow rfl rfl hy ?_)
  refine zS (AStep.quo rfl rfl rfl h0' zI) ?_
  repeat ((fail_if_success ((with_reducible refine oj ?_);refine AOps.atDst 104 rfl ?_));first|refine zO ?_|((with_reducible refine oj ?_);first|refine zix ?_|refine zow rfl rfl hi ?_|refine zow rfl rfl hx ?_|refine zow rfl rfl hy ?_))
  refine zca hΓ (Q7d (nx.tdiv ny) (by omega) (by omega)) hou ?_
  repeat ((fail_if_success ((with_reducible refine oj ?_);refine AOps.atDst 2 rfl ?_));first|refine zO ?_)
  refine AOps.wkObj (.l 0) rfl (cs':=lC (.mk 0 1 (wrapI (nx.tdiv ny)) none [] [] [])) (fun w C xs h=>?_) ?_
  ·exact (show WkL _ _ from .cons (.refl _) (.cons (.refl _) (.cons (.nilS 1) (.cons (.nilS 1) (.cons (.nilS 2) .nil))))) w C xs h
  refine AOps.cedes [0] rfl (by decide) hou fun k hk=>⟨[(106,.one (.ptr (.o k) 0))],[],[.cells (lC (.mk k 1 (wrapI (nx.tdiv ny)) none [] [] []))],.cons rfl rfl .nil,.nil,?_,?_⟩
  ·exact .cons rfl rfl .nil
  have hN:=NewO.add hk hou (show (AObj.cells (lC (.mk k 1 (wrapI (nx.tdiv ny)) none [] [] []))).ids isO by simp[lC,bC,kC])
  refine zA ?_
  refine AFn.fin' rfl (WkF.refl _) (by simp) hN.ok ?_
  rw[hA]
  exact⟨.mk k 1 (wrapI (nx.tdiv ny)) none [] [] [],rfl,rfl,Der.node (u:=.mk k 1 (wrapI (nx.tdiv ny)) none [] [] []) (fun _ _ h=>h) hN (fun p hp=>by simp[tailO,bO,aO,objss]at hp)⟩
 ·repeat' first|refine zN ?_|((with_reducible refine oj ?_);first|refine zix ?_|refine zow rfl rfl hi ?_|refine zow rfl rfl hx ?_|refine zow rfl rfl hy ?_)
  refine ACode.drawX tabOk 19 [(3,.one (.sl 1 (kC [.mk jx 1 nx nbx bx kx ax,.mk jy 1 ny nby by' ky ay]))),(4,.one (.box [.ptr (.o jx) 0])),(8,.one (int nx)),(12,.one (.sl 1 (kC [.mk jx 1 nx nbx bx kx ax,.mk jy 1 ny nby by' ky ay]))),(13,.one (.box [.ptr (.o jy) 0])),(17,.one (int ny))] follows (by kernel_rfl) rfl rfl rfl rfl ?_ ?_
  ·refine .step rfl (zHP (zLD rfl rfl hi rfl)) ?_
   refine .step rfl (zHP (zIA rfl rfl rfl (by decide) rfl)) ?_
   refine .step rfl (zHP (zLD rfl rfl hx rfl)) ?_
   refine .step rfl (zHP (zLD rfl rfl hi rfl)) ?_
   refine .step rfl (zHP (zIA rfl rfl rfl (by decide) rfl)) ?_
   exact .step rfl (zHP (zLD rfl rfl hy rfl)) .nil
  repeat' first|refine zN ?_|((with_reducible refine oj ?_);first|refine zix ?_|refine zow rfl rfl hi ?_|refine zow rfl rfl hx ?_|refine zow rfl rfl hy ?_)
  have hd:=Qb2 ny hrx
  have hmo:=Qb1 ny hrx
  refine ACode.condS rfl (fun h0=>?_) (fun h0=>?_)
  ·have h0':ny=0:=by simpa using h0
   refine zA ?_
   rw[if_neg (by decide),if_neg (by decide),if_neg (by decide),if_neg (by decide),if_pos rfl,if_pos h0']at hA
   exact AFn.fin' rfl (WkF.refl _) (by simp) hou (by rw[hA];exact ResD.no rfl hou)
  have h0':ny≠0:=by simpa using h0
  rw[if_neg (by decide),if_neg (by decide),if_neg (by decide),if_neg (by decide),if_pos rfl,if_neg h0']at hA
  repeat' first|refine zN ?_|((with_reducible refine oj ?_);first|refine zix ?_|refine zow rfl rfl hi ?_|refine zow rfl rfl hx ?_|refine zow rfl rfl hy ?_)
  refine zS (AStep.quo rfl rfl rfl h0' zI) ?_
  repeat' first|refine zN ?_|((with_reducible refine oj ?_);first|refine zix ?_|refine zow rfl rfl hi ?_|refine zow rfl rfl hx ?_|refine zow rfl rfl hy ?_)
  refine zS (AStep.rem rfl rfl rfl h0') ?_
  repeat ((fail_if_success ((with_reducible refine oj ?_);refine AOps.atDst 104 rfl ?_));first|refine zO ?_|((with_reducible refine oj ?_);first|refine zix ?_|refine zow rfl rfl hi ?_|refine zow rfl rfl hx ?_|refine zow rfl rfl hy ?_))
  refine zca hΓ (Q7d (nx.tmod ny) (by omega) (by omega)) hou ?_
  repeat ((fail_if_success ((with_reducible refine oj ?_);refine AOps.atDst 2 rfl ?_));first|refine zO ?_)
  refine AOps.wkObj (.l 0) rfl (cs':=lC (.mk 0 1 (wrapI (nx.tmod ny)) none [] [] [])) (fun w C xs h=>?_) ?_
  ·exact (show WkL _ _ from .cons (.refl _) (.cons (.refl _) (.cons (.nilS 1) (.cons (.nilS 1) (.cons (.nilS 2) .nil))))) w C xs h
  refine AOps.cedes [0] rfl (by decide) hou fun k hk=>⟨[(106,.one (.ptr (.o k) 0))],[],[.cells (lC (.mk k 1 (wrapI (nx.tmod ny)) none [] [] []))],.cons rfl rfl .nil,.nil,?_,?_⟩
  ·exact .cons rfl rfl .nil
  have hN:=NewO.add hk hou (show (AObj.cells (lC (.mk k 1 (wrapI (nx.tmod ny)) none [] [] []))).ids isO by simp[lC,bC,kC])
  refine zA ?_
  refine AFn.fin' rfl (WkF.refl _) (by simp) hN.ok ?_
  rw[hA]
  exact⟨.mk k 1 (wrapI (nx.tmod ny)) none [] [] [],rfl,rfl,Der.node (u:=.mk k 1 (wrapI (nx.tmod ny)) none [] [] []) (fun _ _ h=>h) hN (fun p hp=>by simp[tailO,bO,aO,objss]at hp)⟩
 ·repeat' first|refine zN ?_|((with_reducible refine oj ?_);first|refine zix ?_|refine zow rfl rfl hi ?_|refine zow rfl rfl hx ?_|refine zow rfl rfl hy ?_)
  refine ACode.drawX tabOk 19 [(3,.one (.sl 1 (kC [.mk jx 1 nx nbx bx kx ax,.mk jy 1 ny nby by' ky ay]))),(4,.one (.box [.ptr (.o jx) 0])),(8,.one (int nx)),(12,.one (.sl 1 (kC [.mk jx 1 nx nbx bx kx ax,.mk jy 1 ny nby by' ky ay]))),(13,.one (.box [.ptr (.o jy) 0])),(17,.one (int ny))] follows (by kernel_rfl) rfl rfl rfl rfl ?_ ?_
  ·refine .step rfl (zHP (zLD rfl rfl hi rfl)) ?_
   refine .step rfl (zHP (zIA rfl rfl rfl (by decide) rfl)) ?_
   refine .step rfl (zHP (zLD rfl rfl hx rfl)) ?_
   refine .step rfl (zHP (zLD rfl rfl hi rfl)) ?_
   refine .step rfl (zHP (zIA rfl rfl rfl (by decide) rfl)) ?_
   exact .step rfl (zHP (zLD rfl rfl hy rfl)) .nil
  repeat' first|refine zN ?_|((with_reducible refine oj ?_);first|refine zix ?_|refine zow rfl rfl hi ?_|refine zow rfl rfl hx ?_|refine zow rfl rfl hy ?_)
  refine ACode.condS rfl (fun hB=>?_) (fun hB=>?_)
  ·have hB':nx < ny:=by simpa using hB
   have hA:X=some (flagT true):=by rw[hA];simp[hB']
   repeat ((fail_if_success ((with_reducible refine oj ?_);refine AOps.atDst 2 rfl ?_));first|refine zO ?_)
   refine AOps.wkObj (.l 0) rfl (cs':=lC (.mk 0 6 (1) none [] [] [])) (fun w C xs h=>?_) ?_
   ·exact (show WkL _ _ from .cons (.refl _) (.cons (.refl _) (.cons (.nilS 1) (.cons (.nilS 1) (.cons (.nilS 2) .nil))))) w C xs h
   refine AOps.cedes [0] rfl (by decide) hou fun k hk=>⟨[(113,.one (.ptr (.o k) 0))],[],[.cells (lC (.mk k 6 (1) none [] [] []))],.cons rfl rfl .nil,.nil,?_,?_⟩
   ·exact .cons rfl rfl .nil
   have hN:=NewO.add hk hou (show (AObj.cells (lC (.mk k 6 (1) none [] [] []))).ids isO by simp[lC,bC,kC])
   refine zA ?_
   refine AFn.fin' rfl (WkF.refl _) (by simp) hN.ok ?_
   rw[hA]
   exact⟨.mk k 6 (1) none [] [] [],rfl,rfl,Der.node (u:=.mk k 6 (1) none [] [] []) (fun _ _ h=>h) hN (fun p hp=>by simp[tailO,bO,aO,objss]at hp)⟩
  ·have hB':¬nx < ny:=by simpa using hB
   have hA:X=some (flagT false):=by rw[hA];simp[hB']
   repeat ((fail_if_success ((with_reducible refine oj ?_);refine AOps.atDst 2 rfl ?_));first|refine zO ?_)
   refine AOps.wkObj (.l 0) rfl (cs':=lC (.mk 0 6 (0) none [] [] [])) (fun w C xs h=>?_) ?_
   ·exact (show WkL _ _ from .cons (.refl _) (.cons (.refl _) (.cons (.nilS 1) (.cons (.nilS 1) (.cons (.nilS 2) .nil))))) w C xs h
   refine AOps.cedes [0] rfl (by decide) hou fun k hk=>⟨[(113,.one (.ptr (.o k) 0))],[],[.cells (lC (.mk k 6 (0) none [] [] []))],.cons rfl rfl .nil,.nil,?_,?_⟩
   ·exact .cons rfl rfl .nil
   have hN:=NewO.add hk hou (show (AObj.cells (lC (.mk k 6 (0) none [] [] []))).ids isO by simp[lC,bC,kC])
   refine zA ?_
   refine AFn.fin' rfl (WkF.refl _) (by simp) hN.ok ?_
   rw[hA]
   exact⟨.mk k 6 (0) none [] [] [],rfl,rfl,Der.node (u:=.mk k 6 (0) none [] [] []) (fun _ _ h=>h) hN (fun p hp=>by simp[tailO,bO,aO,objss]at hp)⟩
 ·repeat' first|refine zN ?_|((with_reducible refine oj ?_);first|refine zix ?_|refine zow rfl rfl hi ?_|refine zow rfl rfl hx ?_|refine zow rfl rfl hy ?_)
  refine ACode.drawX tabOk 19 [(3,.one (.sl 1 (kC [.mk jx 1 nx nbx bx kx ax,.mk jy 1 ny nby by' ky ay]))),(4,.one (.box [.ptr (.o jx) 0])),(8,.one (int nx)),(12,.one (.sl 1 (kC [.mk jx 1 nx nbx bx kx ax,.mk jy 1 ny nby by' ky ay]))),(13,.one (.box [.ptr (.o jy) 0])),(17,.one (int ny))] follows (by kernel_rfl) rfl rfl rfl rfl ?_ ?_
  ·refine .step rfl (zHP (zLD rfl rfl hi rfl)) ?_
   refine .step rfl (zHP (zIA rfl rfl rfl (by decide) rfl)) ?_
   refine .step rfl (zHP (zLD rfl rfl hx rfl)) ?_
   refine .step rfl (zHP (zLD rfl rfl hi rfl)) ?_
   refine .step rfl (zHP (zIA rfl rfl rfl (by decide) rfl)) ?_
   exact .step rfl (zHP (zLD rfl rfl hy rfl)) .nil
  repeat' first|refine zN ?_|((with_reducible refine oj ?_);first|refine zix ?_|refine zow rfl rfl hi ?_|refine zow rfl rfl hx ?_|refine zow rfl rfl hy ?_)
  refine ACode.condS rfl (fun hB=>?_) (fun hB=>?_)
  ·have hB':nx=ny:=by simpa using hB
   have hA:X=some (flagT true):=by rw[hA];simp[hB']
   repeat ((fail_if_success ((with_reducible refine oj ?_);refine AOps.atDst 2 rfl ?_));first|refine zO ?_)
   refine AOps.wkObj (.l 0) rfl (cs':=lC (.mk 0 6 (1) none [] [] [])) (fun w C xs h=>?_) ?_
   ·exact (show WkL _ _ from .cons (.refl _) (.cons (.refl _) (.cons (.nilS 1) (.cons (.nilS 1) (.cons (.nilS 2) .nil))))) w C xs h
   refine AOps.cedes [0] rfl (by decide) hou fun k hk=>⟨[(113,.one (.ptr (.o k) 0))],[],[.cells (lC (.mk k 6 (1) none [] [] []))],.cons rfl rfl .nil,.nil,?_,?_⟩
   ·exact .cons rfl rfl .nil
   have hN:=NewO.add hk hou (show (AObj.cells (lC (.mk k 6 (1) none [] [] []))).ids isO by simp[lC,bC,kC])
   refine zA ?_
   refine AFn.fin' rfl (WkF.refl _) (by simp) hN.ok ?_
   rw[hA]
   exact⟨.mk k 6 (1) none [] [] [],rfl,rfl,Der.node (u:=.mk k 6 (1) none [] [] []) (fun _ _ h=>h) hN (fun p hp=>by simp[tailO,bO,aO,objss]at hp)⟩
  ·have hB':¬nx=ny:=by simpa using hB
   have hA:X=some (flagT false):=by rw[hA];simp[hB',beq_eq_false_iff_ne.2 hB']
   repeat ((fail_if_success ((with_reducible refine oj ?_);refine AOps.atDst 2 rfl ?_));first|refine zO ?_)
   refine AOps.wkObj (.l 0) rfl (cs':=lC (.mk 0 6 (0) none [] [] [])) (fun w C xs h=>?_) ?_
   ·exact (show WkL _ _ from .cons (.refl _) (.cons (.refl _) (.cons (.nilS 1) (.cons (.nilS 1) (.cons (.nilS 2) .nil))))) w C xs h
   refine AOps.cedes [0] rfl (by decide) hou fun k hk=>⟨[(113,.one (.ptr (.o k) 0))],[],[.cells (lC (.mk k 6 (0) none [] [] []))],.cons rfl rfl .nil,.nil,?_,?_⟩
   ·exact .cons rfl rfl .nil
   have hN:=NewO.add hk hou (show (AObj.cells (lC (.mk k 6 (0) none [] [] []))).ids isO by simp[lC,bC,kC])
   refine zA ?_
   refine AFn.fin' rfl (WkF.refl _) (by simp) hN.ok ?_
   rw[hA]
   exact⟨.mk k 6 (0) none [] [] [],rfl,rfl,Der.node (u:=.mk k 6 (0) none [] [] []) (fun _ _ h=>h) hN (fun p hp=>by simp[tailO,bO,aO,objss]at hp)⟩
 ·repeat' first|refine zN ?_|((with_reducible refine oj ?_);first|refine zix ?_|refine zow rfl rfl hi ?_|refine zow rfl rfl hx ?_|refine zow rfl rfl hy ?_)|(with_reducible refine oj ?_;refine AOps.splitS rfl rfl rfl rfl (fun hb=>?_) (fun hb=>?_))|(with_reducible refine ok ?_;first|refine ACode.condS rfl (fun hb=>?_) (fun hb=>?_)|refine ACode.cond rfl (fun hb=>?_) (fun hb=>?_))
  all_goals first
   |(exfalso;simp at *;omega)
   |skip
  refine ACode.drawX tabOk 19 [(3,.one (.sl 1 (kC [.mk jx 1 nx nbx bx kx ax,.mk jy 1 ny nby by' ky ay]))),(4,.one (.box [.ptr (.o jx) 0])),(8,.one (int nx)),(12,.one (.sl 1 (kC [.mk jx 1 nx nbx bx kx ax,.mk jy 1 ny nby by' ky ay]))),(13,.one (.box [.ptr (.o jy) 0])),(17,.one (int ny))] follows (by kernel_rfl) rfl rfl rfl rfl ?_ ?_
  ·refine .step rfl (zHP (zLD rfl rfl hi rfl)) ?_
   refine .step rfl (zHP (zIA rfl rfl rfl (by decide) rfl)) ?_
   refine .step rfl (zHP (zLD rfl rfl hx rfl)) ?_
   refine .step rfl (zHP (zLD rfl rfl hi rfl)) ?_
   refine .step rfl (zHP (zIA rfl rfl rfl (by decide) rfl)) ?_
   exact .step rfl (zHP (zLD rfl rfl hy rfl)) .nil
  repeat' ((fail_if_success ((with_reducible refine oj ?_);refine AOps.atDst 104 rfl ?_));first|refine zO ?_|((with_reducible refine oj ?_);first|refine zix ?_|refine zow rfl rfl hi ?_|refine zow rfl rfl hx ?_|refine zow rfl rfl hy ?_)|(with_reducible refine oj ?_;refine AOps.splitS rfl rfl rfl rfl (fun hb=>?_) (fun hb=>?_))|(with_reducible refine ok ?_;first|refine ACode.condS rfl (fun hb=>?_) (fun hb=>?_)|refine ACode.cond rfl (fun hb=>?_) (fun hb=>?_)))
  all_goals first
   |(exfalso;simp at *;omega)
   |skip
  have hA:X=some (wordT (wrapI 0)):=by rw[hA,if_neg (by omega),if_neg (by omega),if_neg (by omega),if_neg (by omega),if_neg (by omega),if_neg (by omega),if_neg (by omega)]
  repeat ((fail_if_success ((with_reducible refine oj ?_);refine AOps.atDst 104 rfl ?_));first|refine zO ?_|((with_reducible refine oj ?_);first|refine zix ?_|refine zow rfl rfl hi ?_|refine zow rfl rfl hx ?_|refine zow rfl rfl hy ?_))
  refine zca hΓ (Q7d (0) (by omega) (by omega)) hou ?_
  repeat ((fail_if_success ((with_reducible refine oj ?_);refine AOps.atDst 2 rfl ?_));first|refine zO ?_)
  refine AOps.wkObj (.l 0) rfl (cs':=lC (.mk 0 1 (wrapI (0)) none [] [] [])) (fun w C xs h=>?_) ?_
  ·exact (show WkL _ _ from .cons (.refl _) (.cons (.refl _) (.cons (.nilS 1) (.cons (.nilS 1) (.cons (.nilS 2) .nil))))) w C xs h
  refine AOps.cedes [0] rfl (by decide) hou fun k hk=>⟨[(106,.one (.ptr (.o k) 0))],[],[.cells (lC (.mk k 1 (wrapI (0)) none [] [] []))],.cons rfl rfl .nil,.nil,?_,?_⟩
  ·exact .cons rfl rfl .nil
  have hN:=NewO.add hk hou (show (AObj.cells (lC (.mk k 1 (wrapI (0)) none [] [] []))).ids isO by simp[lC,bC,kC])
  refine zA ?_
  refine AFn.fin' rfl (WkF.refl _) (by simp) hN.ok ?_
  rw[hA]
  exact⟨.mk k 1 (wrapI (0)) none [] [] [],rfl,rfl,Der.node (u:=.mk k 1 (wrapI (0)) none [] [] []) (fun _ _ h=>h) hN (fun p hp=>by simp[tailO,bO,aO,objss]at hp)⟩
end Go.Proofs.YtpaonemmbhbgoaaGreatDoor
namespace Go.CoreX
mutual
theorem Q40:∀t:Tr,okT t->allT pOk t
 |.mk o n b k a,h=>⟨⟨h.1,by simpa using h.2.1,h.2.2.1,h.2.2.2.1.1,h.2.2.2.1.2⟩,Qho k h.2.2.2.2⟩
theorem Qho:∀l:List Tr,okTs l->allTs pOk l
 |[],_=>trivial
 |t::l,h=>⟨Q40 t h.1,Qho l h.2⟩
end
mutual
theorem Qlc:∀t:Tr,allT pOk t->okT t
 |.mk o n b k a,h=>⟨h.1.b,by simpa using h.1.k,h.1.a,⟨h.1.ab,h.1.s⟩,Qhm k h.2⟩
theorem Qhm:∀l:List Tr,allTs pOk l->okTs l
 |[],_=>trivial
 |t::l,h=>⟨Qlc t h.1,Qhm l h.2⟩
end
end Go.CoreX
namespace Go.Proofs.YtpaonemmbhbgoaaGreatDoor
open Go Go.Abs Go.CoreX
theorem Q4h{T:Tr}(h:allT pOk T)(hl:cntN T<=1048576):okB (listT [] T):=Qjc (by have:=Q27 T [];simp at this;omega) (Qal (Q16 _) (by rw[Q12];exact h))
end Go.Proofs.YtpaonemmbhbgoaaGreatDoor
