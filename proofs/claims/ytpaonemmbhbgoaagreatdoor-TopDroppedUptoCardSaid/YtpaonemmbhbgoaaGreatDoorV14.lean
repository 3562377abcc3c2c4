/- A let of a fresh function around an expression: its simplification drops it, and goes on as without it. No condition. -/
import Derived.Test.YtpaonemmbhbgoaaGreatDoorV13
import Derived.Test.YtpaonemmbhbgoaaGreatDoorRows
import Derived.Lib.LaidTab
set_option maxRecDepth 10000
set_option linter.unusedVariables false
set_option linter.unusedSimpArgs false
namespace Go.CoreX
mutual
theorem Qhv(id:Int):∀(t:Tr)(sc sc':List Int),sumT (isVar id) t=0->(∀n,n≠id->sc.contains n=sc'.contains n)->occT sc t=occT sc' t
 |.mk o n b ks a,sc,sc',h,hs=>by
  simp only[sumT]at h
  have h1:=Q3r id ⟨o,n,b,ks.map Tr.op,a⟩
  have h2:=Q3n (isVar id) (Q3r id) ks
  simp only[occT]
  rw[Qe5 id ks sc sc' o b a 0 (by omega) hs]
  congr 1
  by_cases ho:o=0
  ·have hn:n≠id:=fun e=>by
    have:isVar id ⟨o,n,b,ks.map Tr.op,a⟩=1:=by unfold isVar;rw[if_pos ⟨ho,e⟩]
    omega
   rw[hs n hn]
  ·simp[ho]
theorem Qe5(id:Int):∀(l:List Tr)(sc sc':List Int)(o:Int)(b:List Int)(a:List Alt)(i:Nat),sumTs (isVar id) l=0->(∀n,n≠id->sc.contains n=sc'.contains n)->occTs sc o b a i l=occTs sc' o b a i l
 |[],_,_,_,_,_,_,_,_=>rfl
 |t::l,sc,sc',o,b,a,i,h,hs=>by
  simp only[sumTs]at h
  have h1:=Q46 (isVar id) (Q3r id) t
  have h2:=Q3n (isVar id) (Q3r id) l
  simp only[occTs]
  rw[Qhv id t (Q1p o b a i++sc) (Q1p o b a i++sc') (by omega) (fun n hn=>by have:=hs n hn;simp only[List.contains_eq_mem,List.mem_append,decide_eq_decide]at this ⊢;rw[this]),Qe5 id l sc sc' o b a (i+1) (by omega) hs]
end
mutual
theorem Qnq:∀(t:Tr)(sc sc':List Int),(∀n,n∈sc->n∈sc')->occT sc t=[]->occT sc' t=[]
 |.mk o n b ks a,sc,sc',hs,h=>by
  simp only[occT,List.append_eq_nil_iff]at h ⊢
  refine⟨?_,Qe4 ks sc sc' o b a 0 hs h.2⟩
  have h1:=h.1
  split at h1
  ·cases h1
  ·rename_i h2
   rw[if_neg]
   rintro⟨h3,h4⟩
   refine h2 ⟨h3,?_⟩
   simp only[List.contains_eq_mem,decide_eq_false_iff_not]at h4 ⊢
   exact fun h5=>h4 (hs n h5)
theorem Qe4:∀(l:List Tr)(sc sc':List Int)(o:Int)(b:List Int)(a:List Alt)(i:Nat),(∀n,n∈sc->n∈sc')->occTs sc o b a i l=[]->occTs sc' o b a i l=[]
 |[],_,_,_,_,_,_,_,_=>rfl
 |t::l,sc,sc',o,b,a,i,hs,h=>by
  simp only[occTs,List.append_eq_nil_iff]at h ⊢
  exact⟨Qnq t _ _ (fun n hn=>by rcases List.mem_append.1 hn with h|h;exact List.mem_append_left _ h;exact List.mem_append_right _ (hs n h)) h.1,Qe4 l sc sc' o b a (i+1) hs h.2⟩
end
mutual
theorem Qes{L D:Tr}(h0:∀sc,occT sc L=[]->occT sc D=[]):∀{t t':Tr},DropR L D t t'->∀sc,occT sc t=[]->occT sc t'=[]
 |_,_,.here,sc,h=>h0 sc h
 |_,_,.node h,sc,hh=>by
  simp only[occT,List.append_eq_nil_iff]at hh ⊢
  exact⟨hh.1,Qbf h0 h _ _ _ _ _ hh.2⟩
theorem Qbf{L D:Tr}(h0:∀sc,occT sc L=[]->occT sc D=[]):∀{l l':List Tr},DropRs L D l l'->∀sc o b a i,occTs sc o b a i l=[]->occTs sc o b a i l'=[]
 |_,_,.nil,_,_,_,_,_,_=>rfl
 |_,_,.cons h k,sc,o,b,a,i,hh=>by
  simp only[occTs,List.append_eq_nil_iff]at hh ⊢
  exact⟨Qes h0 h _ hh.1,Qbf h0 k _ _ _ _ _ hh.2⟩
end
theorem Qbe{t t1 L D:Tr}(hc:check (listT [] t)=0)(h:DropR L D t t1)(h4:L.op=4)(hD:allT pLab D)(h1:cntN D<=cntN L)(h2:Q0v D<=Q0v L)(h3:(bndT D).Sublist (bndT L))(ho:∀sc,occT sc L=[]->occT sc D=[]):check (listT [] t1)=0:=by
 obtain⟨p1,p2,p3,p4⟩:=Q1j hc
 obtain⟨q1,q2,q3⟩:=(Q1f _).1 p1
 have t2:=Q0s t1
 have c1:=Q1o t []
 have c2:=Q1o t1 []
 have c3:=Qir h1 h
 have c4:=Qbg h2 h
 have hp:=Qbl hc
 rw[Q0b]at hp q3 p4
 refine Qiv ((Q1f _).2 ⟨?_,t2,?_⟩) (fun y hy=>?_) ?_ ?_
 ·simp only[List.length_nil]at c1 c2;omega
 ·rw[Q0b];omega
 ·have:=Q6t t2 (by rw[Q0b];exact Qiq h4 hD h hp) _ (List.mem_map_of_mem (f:=labE (listT [] t1)) hy)
  exact this _ y (Q7e t2.k hy) rfl
 ·have h5:=Qf6 hc
  rw[Q0b]at h5
  have h6:=Qd0 t2
  rw[Q0b]at h6
  exact h6.nodup_iff.2 ((Qct h3 h).nodup h5)
 ·rw[Q0b];exact Qes ho h [] p4
theorem Qc9(nodes:List Tr)(root:Tr){L:Tr}(h4:L.op=4)(hu:usesN (L.binds.getD 0 0) (kidT L 1)=0)(hv:valT (kidT L 0)=true):resT nodes root 3 0 L=some (kidT L 1):=by
 unfold resT
 rw[if_neg (by simp),if_neg (by simp),if_pos ⟨h4,by decide⟩]
 unfold Q5g
 rw[if_neg (by simp),if_pos ⟨rfl,hu,hv⟩]
theorem canT3{s:Tr}{m:Int->Nat}:canT 3 s m=true↔s.op=4/\m (s.binds.getD 0 0)=0/\valT (kidT s 0)=true:=by
 unfold canT Qa1
 by_cases h:s.op=4
 ·simp[h]
 ·simp[h]
theorem Qij(p q:Tr->Bool)(d:Nat):∀(G:List Tr)(k:Nat),(∀s∈G,p s=q s)->(G.zipIdx (k+d)).find? (fun x=>p x.1)=((G.zipIdx k).find? (fun x=>q x.1)).map (fun x=>(x.1,x.2+d))
 |[],_,_=>rfl
 |s::G,k,h=>by
  rw[List.zipIdx_cons,List.zipIdx_cons,List.find?_cons,List.find?_cons,h s (by simp)]
  cases q s with
  |true=>rfl
  |false=>
   simp only
   rw[show k+d+1=(k+1)+d by omega]
   exact Qij p q d G (k+1) fun s hs=>h s (by simp[hs])
theorem next_ar{t:Tr}{id:Int}(hb:∀s∈growL (listT [] t),s.op=4->s.binds.getD 0 0≠id+1)(h0:manyE (listT [] t) id=0):
  (∃i,nextE (listT [] t)=some (3,i)/\nextE (listT [] (arF id t))=some (3,i+2))∨nextE (listT [] (arF id t))=some (3,(listT [] t).length+2):=by
 have hM:=many_ar id t
 obtain⟨M,hMd⟩:∃M,M=manyE (listT [] (arF id t)):=⟨_,rfl⟩
 have hag:∀s∈growL (listT [] t),(fun s=>canT 3 s M) s=(fun s=>canT 3 s (manyE (listT [] t))) s:=fun s hs=>by
  show canT 3 s M=canT 3 s _
  rw[Bool.eq_iff_iff,canT3,canT3,hMd]
  by_cases h4:s.op=4
  ·rw[hM,if_neg (hb s hs h4),Nat.zero_add]
  ·simp[h4]
 have hz:=Qij (fun s=>canT 3 s M) (fun s=>canT 3 s (manyE (listT [] t))) 2 (growL (listT [] t)) 0 hag
 have hA:((preG id).zipIdx 0).find? (fun x=>canT 3 x.1 M)=none:=by
  simp[preG,lamF,canT,List.zipIdx]
 have hR:canT 3 (arF id t) M=true:=by
  rw[canT3,hMd]
  refine⟨rfl,?_,rfl⟩
  show manyE _ id=0
  rw[hM,if_neg (by omega),h0]
 have key:((growL (listT [] (arF id t))).zipIdx.find? fun p=>canT 3 p.1 (manyE (listT [] (arF id t))))=(((growL (listT [] t)).zipIdx.find? fun p=>canT 3 p.1 (manyE (listT [] t))).map fun x=>(x.1,x.2+2)).or (some (arF id t,(listT [] t).length+2)):=by
  rw[←hMd,Qih,List.zipIdx_append,List.zipIdx_append,List.find?_append,List.find?_append,hA]
  rw[show 0+(preG id).length=0+2 from rfl,hz]
  have hG:=Q0c (listT [] t)
  simp only[Option.none_or]
  congr 1
  rw[List.zipIdx_cons,List.find?_cons,hR]
  simp only[List.length_append,hG]
  show some (_,0+(2+_))=_
  congr 2
  omega
 cases hf:(growL (listT [] t)).zipIdx.find? fun p=>canT 3 p.1 (manyE (listT [] t)) with
 |some x=>
  refine .inl ⟨x.2,?_,?_⟩
  ·unfold nextE Q53
   rw[List.findSome?_cons,hf];rfl
  ·unfold nextE Q53
   rw[List.findSome?_cons,key,hf];rfl
 |none=>
  refine .inr ?_
  unfold nextE Q53
  rw[List.findSome?_cons,key,hf];rfl
end Go.CoreX
namespace Go.CoreX
theorem Qmn{e:List Ex}(h:check e=0){s:Tr}(hs:s∈growL e)(h4:s.op=4):s.binds.getD 0 0∈bndT (grow e):=by
 have t1:=Q0h h
 obtain⟨k,hk,rfl⟩:=List.mem_iff_getElem.1 hs
 have hke:k < e.length:=by rw[←Q0c e];exact hk
 have hst:(growL e)[k]=Q06 e k:=by unfold Q06;rw[List.getD_eq_getElem?_getD,List.getElem?_eq_getElem hk];rfl
 rw[hst]at h4 ⊢
 obtain⟨id,v,body,hb,_,_⟩:=Qi2 h hke h4
 rw[hb]
 refine (Qd0 t1).mem_iff.1 ?_
 obtain⟨x,hx⟩:∃x,e[k]?=some x:=⟨e[k],List.getElem?_eq_getElem hke⟩
 have hn:=Q2d t1.k hx
 rw[hn]at hb h4
 simp only[Tr.binds,Tr.op]at hb h4
 unfold Q04
 refine List.mem_flatMap.2 ⟨x,List.mem_of_getElem? hx,?_⟩
 unfold Q07 Q08
 rw[if_pos (.inr (.inl h4)),hb]
 simp
theorem Qmd{t:Tr}(hc:check (listT [] t)=0){i:Nat}(hn:nextE (listT [] t)=some (3,i)):∃t1,check (listT [] t1)=0/\Q0z (listT [] t) 3 (i:Int) 0=(listT [] t1,0)/\(bndT t1).Sublist (bndT t)/\
  ∀id,check (listT [] (arF id t))=0->check (listT [] (arF id t1))=0/\Q0z (listT [] (arF id t)) 3 ((i+2:Nat):Int) 0=(listT [] (arF id t1),0):=by
 have tt:=Q0s t
 obtain⟨_,hi,hcan⟩:=Qb0 hn
 obtain⟨h4,hm,hv⟩:=canT3.1 hcan
 obtain⟨id',v,D,hLb,hLk,hu⟩:=Qi2 hc hi h4
 obtain⟨L,hL⟩:∃L,L=Q06 (listT [] t) i:=⟨_,rfl⟩
 rw[←hL]at h4 hm hv hLb hLk
 have hm':manyE (listT [] t) id'=0:=by rw[hLb]at hm;exact hm
 have hkD:kidT L 1=D:=by unfold kidT;rw[hLk];rfl
 have huD:usesN (L.binds.getD 0 0) (kidT L 1)=0:=by rw[hLb,hkD];show usesN id' D=0;rw[hu,hm']
 have hDm:D∈(Q06 (listT [] t) i).kids:=by rw[←hL,hLk];simp
 have hsh:=Q60 hc
 have hpl:=Qbl hc
 have hsD:allT shLab D:=Q1l (Q2v tt hsh hi) hDm
 have hpD:allT pLab D:=Q1l (Q2v tt hpl hi) hDm
 have hvz:sumT (isVar id') D=0:=by
  have h1:=Qbw id' D hsD
  have h2:usesN id' D=0:=by rw[hu,hm']
  rw[h2]at h1
  exact h1.symm
 have hdr:=Qis tt.k i D _ ((listT [] t).length - 1) (Nat.lt_succ_self _) (by omega)
 have hroot:Q06 (listT [] t) ((listT [] t).length - 1)=t:=by
  have:=Q0b t
  unfold grow at this
  exact this
 rw[hroot,←hL]at hdr
 obtain⟨t1,ht1⟩:∃t1,t1=growR (listT [] t) i D:=⟨_,rfl⟩
 have hdr:DropR L D t t1:=by rw[ht1];exact hdr
 cases L with
 |mk o n b ks al=>
 simp only[Tr.op,Tr.binds,Tr.kids]at h4 hLb hLk
 subst h4 hLb hLk
 have c1:cntN D<=cntN (.mk 4 n [id'] [v,D] al):=by simp only[cntN,cntNs];omega
 have c2:Q0v D<=Q0v (.mk 4 n [id'] [v,D] al):=by
  simp only[Q0v,Q3j,List.foldl_cons,List.foldl_nil,mx]
  split <;> split <;> omega
 have c3:(bndT D).Sublist (bndT (.mk 4 n [id'] [v,D] al)):=by
  simp only[bndT,bndTs,List.append_nil]
  exact (List.sublist_append_right _ _).trans (List.sublist_append_right _ _)
 have c4:∀sc,occT sc (.mk 4 n [id'] [v,D] al)=[]->occT sc D=[]:=fun sc h=>by
  simp only[occT,occTs,List.append_eq_nil_iff]at h
  have h5:=h.2.2.1
  have hbn:Q1p 4 [id'] al ((0+1:Nat):Int)=[id']:=by unfold Q1p;rw[if_pos (.inr (.inr ⟨rfl,rfl⟩))]
  rw[show (((0+1:Nat):Int))=((0+1:Nat):Int)from rfl]at h5
  rw[hbn]at h5
  rw[←h5]
  refine Qhv id' D sc _ hvz fun m hm=>?_
  simp only[List.contains_eq_mem,List.mem_append,List.mem_singleton,decide_eq_decide]
  exact⟨.inr,fun h=>h.resolve_left hm⟩
 have v1:check (listT [] t1)=0:=Qbe hc hdr rfl hpD c1 c2 c3 c4
 refine⟨t1,v1,?_,Qct c3 hdr,fun id hf=>?_⟩
 ·unfold Q0z
  rw[if_neg (by simpa using hc),if_neg (by decide),if_neg (by omega),Int.toNat_natCast,←hL,Qc9 _ _ rfl huD hv,hkD]
  dsimp only
  rw[←ht1,if_neg (by simpa using v1)]
 ·have hdr2:DropR (.mk 4 n [id'] [v,D] al) D (arF id t) (arF id t1):=.node (.cons (.node (.cons (.node .nil) .nil)) (.cons hdr .nil))
  have v2:check (listT [] (arF id t1))=0:=Qbe hf hdr2 rfl hpD c1 c2 c3 c4
  refine⟨v2,?_⟩
  have hlen:=Q3g id t
  unfold Q0z
  rw[if_neg (by simpa using hf),if_neg (by decide),if_neg (by omega),Int.toNat_natCast,Qk8 id t i hi,←hL,Qc9 _ _ rfl huD hv,hkD]
  dsimp only
  rw[Qo4 id t i D hi,←ht1,if_neg (by simpa using v2)]
theorem Qme{t:Tr}{id:Int}(hc:check (listT [] t)=0)(hf:check (listT [] (arF id t))=0)(hu:usesN id t=0):Q0z (listT [] (arF id t)) 3 (((listT [] t).length+2:Nat):Int) 0=(listT [] t,0):=by
 have t1:=Q0s (arF id t)
 have hlen:=Q3g id t
 have hroot:Q06 (listT [] (arF id t)) ((listT [] t).length+2)=arF id t:=by
  have:=Q0b (arF id t)
  unfold grow at this
  rw[hlen]at this
  exact this
 have hU:growR (listT [] (arF id t)) ((listT [] t).length+2) t=t:=by
  obtain⟨x,hx⟩:∃x,(listT [] (arF id t))[(listT [] t).length+2]?=some x:=⟨_,List.getElem?_eq_getElem (by omega)⟩
  unfold growR
  rw[hlen,show (listT [] t).length+3 - 1=(listT [] t).length+2 by omega,Q4g t1.k _ t hx,if_pos rfl]
 unfold Q0z
 rw[if_neg (by simpa using hf),if_neg (by decide),if_neg (by omega),Int.toNat_natCast,hroot,Qc9 _ _ rfl (by exact hu) rfl]
 dsimp only
 rw[show kidT (arF id t) 1=t from rfl,hU,if_neg (by simpa using hc)]
theorem Q8p(id:Int):∀(k:Nat)(t:Tr),check (listT [] t)=0->check (listT [] (arF id t))=0->(∀n∈bndT t,n < id)->(Q0o k (listT [] t)).2.length < k->
  (Q0o (k+1) (listT [] (arF id t))).1=(Q0o k (listT [] t)).1/\(Q0o (k+1) (listT [] (arF id t))).2.length=(Q0o k (listT [] t)).2.length+1
 |0,t,_,_,_,h=>by simp at h
 |k+1,t,hc,hf,hb,h=>by
  have hnb:id∉bndT t:=fun hm=>by have:=hb id hm;omega
  obtain⟨_,_,_,p4⟩:=Q1j hc
  rw[Q0b]at p4
  have hz:=Q85 id t [] p4 (by simp) hnb
  have hsh:=Q60 hc
  rw[Q0b]at hsh
  have hu:usesN id t=0:=by have:=Qbw id t hsh;omega
  have h0:manyE (listT [] t) id=0:=by have:=Qhy (Q0s t) id;rw[Q0b,hz]at this;omega
  have hbs:∀s∈growL (listT [] t),s.op=4->s.binds.getD 0 0≠id+1:=fun s hs h4=>by
   have:=Qmn hc hs h4
   rw[Q0b]at this
   have:=hb _ this
   omega
  rcases next_ar hbs h0 with ⟨i,hn,hnf⟩|hnf
  ·obtain⟨t1,v1,ha,hsb,hfa⟩:=Qmd hc hn
   obtain⟨v2,ha2⟩:=hfa id hf
   have e1:Q0o (k+1) (listT [] t)=((Q0o k (listT [] t1)).1,(3,(i:Int),0)::(Q0o k (listT [] t1)).2):=by
    simp only[Q0o,hn,ha]
    rfl
   have e2:Q0o (k+1+1) (listT [] (arF id t))=((Q0o (k+1) (listT [] (arF id t1))).1,(3,((i+2:Nat):Int),0)::(Q0o (k+1) (listT [] (arF id t1))).2):=by
    rw[Q0o]
    simp only[hnf,ha2]
    rfl
   rw[e1]at h ⊢
   rw[e2]
   simp only[List.length_cons]at h ⊢
   have ih:=Q8p id k t1 v1 v2 (fun n hn=>hb n (hsb.subset hn)) (by omega)
   exact⟨ih.1,by rw[ih.2]⟩
  ·have ha:=Qme hc hf hu
   have e2:Q0o (k+1+1) (listT [] (arF id t))=((Q0o (k+1) (listT [] t)).1,(3,(((listT [] t).length+2:Nat):Int),0)::(Q0o (k+1) (listT [] t)).2):=by
    rw[Q0o]
    simp only[hnf,ha]
    rfl
   rw[e2]
   exact⟨rfl,by simp⟩
end Go.CoreX
namespace Go.Proofs.YtpaonemmbhbgoaaGreatDoor
open Go Go.Abs Go.CoreX
variable {Γ:List (Nat×List AC)}
theorem B1'(o:Int)(b:List Int)(x:Tr):APure Tryz.prog Γ 16 [.one (int o),.one (.sl 1 (b.map cI)),.one (.sl 1 [[.box (cNd x)]])] (.one (.box (cNd (.mk o 0 b [x] [])))):=by
 have:=B_ok (Γ:=Γ) o b [x]
 rwa [Q3i]at this
theorem B2'(o:Int)(b:List Int)(x y:Tr):APure Tryz.prog Γ 16 [.one (int o),.one (.sl 1 (b.map cI)),.one (.sl 1 [[.box (cNd x)],[.box (cNd y)]])] (.one (.box (cNd (.mk o 0 b [x,y] [])))):=by
 have:=B_ok (Γ:=Γ) o b [x,y]
 rwa [Q3i]at this
theorem Qd5(e:List Ex)(he:okB e):APure Tryz.prog Γo 3 [.one (.sl 5 (e.map cEx))] (.one (.lit (.bool true))):=by
 have c1:=APure.o (Q38 e he)
 have hf:=APure.o Qn5
 have hel:=he.eo.l
 have hmo:=Qom hΓo e he
 intro ou
 refine AFn.walk 86 tabOk Tryz.func3 rfl (by kernel_rfl) rfl rfl fun hou=>?_
 by_cases h:check e≠0
 ·refine zA ?_
  refine zca hΓo c1 hou ?_
  refine zA ?_
  refine AOps.splitS rfl rfl rfl rfl (fun hb=>?_) (fun hb=>absurd hb (by simpa using h))
  refine zM ?_
  refine zca hΓo hf hou ?_
  refine zM ?_
  exact APure.fin rfl (WkF.ofEq rfl) (by simp) hou rfl
 have h:check e=0:=by simpa using h
 rw[h]at c1
 have hmr:=Qfx h
 refine zA ?_
 refine zca hΓo c1 hou ?_
 refine zM ?_
 refine AOps.splitS rfl rfl rfl rfl (fun hb=>?_) (fun hb=>?_)
 ·refine zM ?_
  refine zca hΓo hf hou ?_
  refine zM ?_
  exact APure.fin rfl (WkF.ofEq rfl) (by simp) hou rfl
 have hl:e.length<=1000:=by simp at hb;omega
 refine zM ?_
 refine zca hΓo hmo hou ?_
 refine zM ?_
 refine ACode.cond rfl (fun hb1=>?_) (fun hb1=>?_)
 ·refine zM ?_
  refine zca hΓo hf hou ?_
  refine zM ?_
  exact APure.fin rfl (WkF.ofEq rfl) (by simp) hou rfl
 have t1:=Q0h h
 have hce:=Qbm h
 have hgl:=Qi5 h
 have hG:=Q0b (grow e)
 have hokt:okT (grow e):=he.t t1.k t1.ne
 have hT1:okT (arF (mostB e+1) (grow e)):=by
  simp only[arF,lamF,okT,okTs]
  simp[hokt]
 have hcn:=Q1o (grow e) []
 simp only[List.length_nil]at hcn
 have hcT:cntN (arF (mostB e+1) (grow e))=cntN (grow e)+3:=by simp only[arF,lamF,cntN,cntNs];omega
 have hTl:(listT [] (arF (mostB e+1) (grow e))).length<=1048576:=by rw[Q3g];omega
 have hTb:okB (listT [] (arF (mostB e+1) (grow e))):=Q5f (Q49 _ hT1) (by omega)
 have c2:=APure.o (Q38 (listT [] (arF (mostB e+1) (grow e))) hTb)
 refine zA ?_
 refine zca hΓo hmo hou ?_
 refine zM ?_
 refine zca hΓo (V_ok hΓo ((mostB e+1)+1)) hou ?_
 refine zM ?_
 refine zca hΓo (B1' (Γ:=Γo) 2 [(mostB e+1)+1] (.mk 0 ((mostB e+1)+1) [] [] [])) hou ?_
 refine zM ?_
 refine zca hΓo (Qoo hΓo e he.eo t1.k t1.ne) hou ?_
 refine zM ?_
 refine zca hΓo (B2' (Γ:=Γo) 4 [(mostB e+1)] (lamF (mostB e+1)) (grow e)) hou ?_
 refine zca hΓo (Qa7 hΓo (arF (mostB e+1) (grow e)) hT1 hTl) hou ?_
 refine zA ?_
 refine zca hΓo c2 hou ?_
 refine zA ?_
 refine ACode.cond rfl (fun hb2=>?_) (fun hb2=>?_)
 ·refine zM ?_
  refine zca hΓo hf hou ?_
  refine zM ?_
  exact APure.fin rfl (WkF.ofEq rfl) (by simp) hou rfl
 have hcf:check (listT [] (arF (mostB e+1) (grow e)))=0:=by simpa using hb2
 have h3:=Qmw e he (200:Nat)
 rw[Qdo h (b:=200) (by omega)]at h3
 have h4:=Qmw (listT [] (arF (mostB e+1) (grow e))) hTb (201:Nat)
 rw[Qdo hcf (b:=201) (by omega),Q0b]at h4
 have hlaw:=Q8p (mostB e+1) 200 (grow e) hce hcf (fun n hn=>by
  have:=(Qd0 t1).mem_iff.2 hn
  have:=Qdb (Q04 e) (-1) n this
  unfold mostB;omega)
 have hl1:=Q8s 200 (listT [] (grow e))
 have hl2:=Q8s 201 (listT [] (arF (mostB e+1) (grow e)))
 have ho1:=Qdn 200 (Qe2 he h)
 have hd1:=Qdm 200 (Qla hce)
 rw[show 200+1=201 from rfl]at hlaw
 generalize Q0o 200 (listT [] (grow e))=S1 at h3 hl1 ho1 hd1 hlaw
 generalize Q0o 201 (listT [] (arF (mostB e+1) (grow e)))=S2 at h4 hl2 hlaw
 obtain⟨g,l⟩:=S1
 obtain⟨g2,l2⟩:=S2
 dsimp only at h3 h4 hl1 hl2 ho1 hd1 hlaw
 have hs:=APure.o (Same_ok g g ho1 ho1 (Qkm hd1.1))
 refine zA ?_
 refine zca hΓo h3 hou ?_
 refine zA ?_
 refine zca hΓo h4 hou ?_
 refine zM ?_
 refine ACode.cond rfl (fun hb3=>?_) (fun hb3=>?_)
 ·refine zM ?_
  refine zca hΓo hf hou ?_
  refine zM ?_
  exact APure.fin rfl (WkF.ofEq rfl) (by simp) hou rfl
 have hlt:l.length < 200:=by simp at hb3;omega
 obtain⟨e1,e2⟩:=hlaw hlt
 subst e1
 refine zM ?_
 refine zca hΓo hf hou ?_
 refine zM ?_
 refine AOps.splitS rfl rfl rfl rfl (fun hb4=>?_) (fun hb4=>absurd hb4 (by simp[e2]))
 refine zM ?_
 refine zca hΓo hs hou ?_
 refine zM ?_
 exact APure.fin rfl (WkF.ofEq rfl) (by simp) hou rfl
theorem Q7t{H:Type}:∀l:List (DataW H),Rows.uptoBulkAll l=Q3l Rows.uptoBulk l
 |[]=>rfl
 |d::l=>by simp only[Rows.uptoBulkAll,Q3l,List.map_cons,List.sum_cons]at *;rw[Q7t l];rfl
theorem Qiw{H:Type}(l:List (DataW H)):Q3l Rows.uptoBulk l+1<=Rows.uptoBulk (.agg l):=by
 simp only[Rows.uptoBulk,Q7t];omega
theorem Qjx{H:Type}(l r:List (DataW H)):Q3l Rows.uptoBulk l+1<=Rows.uptoBulk (.slice l r):=by
 simp only[Rows.uptoBulk,Q7t];omega
theorem Qoe{H:Type}:1<=Rows.uptoBulk (DataW.nil:DataW H):=by simp[Rows.uptoBulk]
section
variable {H:Type}{enc:TypeId×Value->H}{w:World}
abbrev I64:={i:Int // IntKind.i64.min<=i/\i<=IntKind.i64.max}
theorem Q6g(n:Nat):Opens enc Tryz.prog w Rows.uptoBulk 3 n (fun i:I64=>[int i.1]) (fun _=>1):=by
 intro cs x h
 obtain⟨i,rfl,rfl,hw⟩:=DataW.trod_int Tryz.underlying3 h
 refine⟨⟨i,?_⟩,⟨_,_,rfl,⟨rfl,rfl⟩,rfl⟩,by simp[Rows.uptoBulk]⟩
 simpa[Lit.wf]using hw
theorem Q5u{t e:TypeId}{s:Nat}(ht:Tryz.prog.underlying t=some (.slice e))(hs:Tryz.prog.cellsOf e=s)(h0:0 < s){α:Type}{c:α->List AC}{wt:α->Nat}(n:Nat)(he:∀m,m < n->Opens enc Tryz.prog w Rows.uptoBulk e m c wt):
  Opens enc Tryz.prog w Rows.uptoBulk t n (fun l:List α=>[.sl s (l.map c)]) (fun l=>wtAll wt l+1):=by
 cases n with
 |zero=>exact Opens.zero
 |succ n=>exact Opens.slice Qjx Qoe ht hs h0 (he n (by omega))
theorem wt_one{α:Type}(l:List α):wtAll (fun _=>1) l=l.length:=by
 unfold wtAll
 induction l with
 |nil=>rfl
 |cons a l ih=>simp only[List.map_cons,List.sum_cons,List.length_cons,ih];omega
theorem Q79(n:Nat):Opens enc Tryz.prog w Rows.uptoBulk 29 n (fun l:List Int=>[.sl 1 (l.map cI)]) (fun l=>l.length+1):=by
 refine Opens.as (Q5u Tryz.underlying29 (s:=1) (by kernel_rfl) (by omega) n (fun m _=>Q6g m)) fun l=>⟨l.map (·.1),?_,?_⟩
 ·simp only[List.map_map];rfl
 ·rw[wt_one];simp
def bAlt (a:Alt):Nat:=a.binds.length+3
def bAlts (l:List Alt):Nat:=(l.map bAlt).sum
def bEx (x:Ex):Nat:=x.binds.length+x.kids.length+bAlts x.alts+6
def bExs (l:List Ex):Nat:=(l.map bEx).sum
theorem Qno(n:Nat):Opens enc Tryz.prog w Rows.uptoBulk 46 n cAlt bAlt:=by
 cases n with
 |zero=>exact Opens.zero
 |succ n=>
  refine Opens.as (Opens.struct Qiw Tryz.underlying46 (.cons rfl (by kernel_rfl) (Q6g n) (fun _=>rfl) (.cons rfl (by kernel_rfl) (Q79 n) (fun _=>rfl) (.nil _))) (fun _=>(show (2:Nat)=_ by kernel_rfl))) ?_
  rintro⟨i,l,_⟩
  exact⟨⟨i.1,l⟩,rfl,by show l.length+3<=1+(l.length+1+0)+1;omega⟩
theorem opensEx(n:Nat):Opens enc Tryz.prog w Rows.uptoBulk 57 n cEx bEx:=by
 cases n with
 |zero=>exact Opens.zero
 |succ n=>
  have ha:=Q5u (enc:=enc) (w:=w) (t:=47) Tryz.underlying47 (s:=2) (by kernel_rfl) (by omega) n (fun m _=>Qno m)
  refine Opens.as (Opens.struct Qiw Tryz.underlying57 (.cons rfl (by kernel_rfl) (Q6g n) (fun _=>rfl) (.cons rfl (by kernel_rfl) (Q6g n) (fun _=>rfl) (.cons rfl (by kernel_rfl) (Q79 n) (fun _=>rfl) (.cons rfl (by kernel_rfl) (Q79 n) (fun _=>rfl) (.cons rfl (by kernel_rfl) ha (fun _=>rfl) (.nil _)))))) (fun _=>(show (5:Nat)=_ by kernel_rfl))) ?_
  rintro⟨i,j,b,k,l,_⟩
  refine⟨⟨i.1,j.1,b,k,l⟩,rfl,?_⟩
  show b.length+k.length+bAlts l+6<=1+(1+(b.length+1+(k.length+1+(wtAll bAlt l+1+0))))+1
  have:wtAll bAlt l=bAlts l:=rfl
  omega
theorem Qnn(n:Nat):Opens enc Tryz.prog w Rows.uptoBulk 22 n (fun l:List Ex=>[.sl 5 (l.map cEx)]) (fun l=>bExs l+1):=
 Q5u Tryz.underlying22 (s:=5) (by kernel_rfl) (by omega) n (fun m _=>opensEx m)
theorem Qng{t e:TypeId}{base:Nat}{r:Reach}{W:World}{v:Value}{C:Ctx}{c:AC}(ht:Tryz.prog.underlying t=some (.slice e))(h:Value.okWide Tryz.prog W r base t v)(hr:RV W C [c] v.cells.toList):RF W C (.one c) v:=by
 obtain⟨a,len,cap,rfl⟩:=WideShapes.okWide_slice ht h
 obtain⟨u,us,he,h1,h2⟩:=hr
 simp[Value.cells]at he
 obtain⟨rfl,rfl⟩:=he
 exact h1
end
theorem Qfk{α:Type}{f:α->Nat}:∀{l:List α}{a:α},a∈l->f a<=(l.map f).sum
 |b::l,a,h=>by
  simp only[List.map_cons,List.sum_cons]
  rcases List.mem_cons.1 h with rfl|h
  ·omega
  ·have:=Qfk (f:=f) h;omega
theorem Qfl{α:Type}{f:α->Nat}(hf:∀a,1<=f a):∀l:List α,l.length<=(l.map f).sum
 |[]=>by simp
 |b::l=>by
  have h1:=hf b
  have h2:=Qfl hf l
  simp only[List.map_cons,List.sum_cons,List.length_cons];omega
theorem Qbp:∀l:List Alt,(l.flatMap (·.binds)).length<=bAlts l
 |[]=>by simp[bAlts]
 |a::l=>by
  have:=Qbp l
  simp only[bAlts,bAlt,List.flatMap_cons,List.length_append,List.map_cons,List.sum_cons]at *
  omega
theorem okB_of{e:List Ex}(h:bExs e<=1048576):okB e:=by
 have h1:=Qfl (f:=bEx) (fun x=>by simp only[bEx];omega) e
 have hx:∀x∈e,bEx x<=1048576:=fun x hx=>by
  have h2:bEx x<=bExs e:=Qfk hx
  omega
 have h1':e.length<=bExs e:=h1
 refine⟨⟨by omega,fun x hx1=>?_⟩,fun x hx1=>?_⟩
 ·have h2:=hx x hx1
  simp only[bEx]at h2
  have h3:=Qfl (f:=bAlt) (fun a=>by simp only[bAlt];omega) x.alts
  have h3':x.alts.length<=bAlts x.alts:=h3
  refine⟨by omega,by omega,by omega,fun a ha=>?_⟩
  have h4:bAlt a<=bAlts x.alts:=Qfk ha
  simp only[bAlt]at h4
  omega
 ·have h2:=hx x hx1
  simp only[bEx]at h2
  have h3:=Qbp x.alts
  omega
theorem Qed{P:Program}{W:World}{x:String×DataW Unit}{rest:List (String×DataW Unit)}(h:laidMet P (x::rest) W):laidMet P rest W:=by
 obtain⟨ps,⟨g,t,cs,fuel,p,q,h1,h2,h3,h4,h5,rfl⟩,hn,hc⟩:=h
 exact⟨q,h5,(List.nodup_append.1 hn).2.1,fun b off hm=>hc b off (by simp[hm])⟩
theorem Qfw{W:World}(h:laidMetH Tryz.prog [("provenance/core.arity",Rows.laid_provenance_core_arity),("provenance/rewrite.order",Rows.laid_provenance_rewrite_order)] W):∀g cs,(g,cs)∈Γo->RG W (ctx0 W) cs g:=by
 have h':laidMet Tryz.prog [("provenance/core.arity",Rows.laid_provenance_core_arity),("provenance/rewrite.order",Rows.laid_provenance_rewrite_order)] W:=h
 have ht:Lib.TabIs Tryz.prog W "provenance/core.arity" .i64 [2,2,2,2,2,2,2,1,2,1,2,3]:=
  Lib.tabIs_of_head (rest:=[("provenance/rewrite.order",Rows.laid_provenance_rewrite_order)]) (g:=1) (t:=168) (n:=12) (by kernel_rfl) (by kernel_rfl) (by kernel_rfl) Tryz.underlying3 (by kernel_rfl) (by kernel_rfl) h
 have hu:Lib.TabIs Tryz.prog W "provenance/rewrite.order" .i64 [3,4,6,7,5,1,2,11,8,9]:=
  Lib.tabIs_of_head (rest:=[]) (g:=0) (t:=124) (n:=10) (by kernel_rfl) (by kernel_rfl) (by kernel_rfl) Tryz.underlying3 (by kernel_rfl) (by kernel_rfl) (Qed h')
 have hg:Tryz.prog.globalNamed "provenance/core.arity" = some 1:=by kernel_rfl
 have hh:Tryz.prog.globalNamed "provenance/rewrite.order" = some 0:=by kernel_rfl
 intro g cs hm
 simp[Γo]at hm
 rcases hm with ⟨rfl,rfl⟩|⟨rfl,rfl⟩
 ·exact RG.ofVar hh hu rfl
 ·exact RG.ofVar hg ht rfl
end Go.Proofs.YtpaonemmbhbgoaaGreatDoor
