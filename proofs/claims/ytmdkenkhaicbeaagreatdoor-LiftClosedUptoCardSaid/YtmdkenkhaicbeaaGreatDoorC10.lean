/- The evaluator's start of recursive functions, walked. -/
import Derived.Test.YtmdkenkhaicbeaaGreatDoorC9
import Derived.KernelRfl
import Derived.Test.YtmdkenkhaicbeaaGreatDoorRows
import Derived.Lib.LaidTab
set_option maxRecDepth 10000
set_option linter.unusedVariables false
set_option linter.unusedSimpArgs false
namespace Go.Abs
theorem CedFrN.consP{js:List Nat}{kk k:Nat}{y:FV}{fr r:Fr}(h:Fr.get k fr=some y)(hy:y.ids isO)(hr:CedFrN (toOs js kk) fr r):CedFrN (toOs js kk) fr ((k,y)::r):=
 .cons h (FV.sub_f (fun i hi=>by cases i with|l q=>exact hi.elim|o q=>rfl) y hy) hr
end Go.Abs
namespace Go.Proofs.YtmdkenkhaicbeaaGreatDoor
open Go Go.Abs Go.CoreX
variable {Γ:List (Nat×List AC)}
def recC (base:AC):List (Nat×Nat)->AC
 |[]=>base
 |(k,_)::_=>.ptr (.o k) 0
def clC (t:Tr)(i r:Nat)(top:AC):List AC:=[.box (cTr (t.kids.getD i default)),if i < r then nilPE else top]
def RecO (t:Tr)(base top:AC)(r:Nat)(ou:Outer):List (Nat×Nat)->Prop
 |[]=>True
 |(k,q)::l=>ou k=some (.cells [int (t.binds.getD l.length 0),.ifc tClo false [.ptr (.o q) 0],recC base l])/\ou q=some (.cells (clC t l.length r top))/\RecO t base top r ou l
def nms:List (Nat×Nat)->List Nat
 |[]=>[]
 |(k,q)::l=>k::q::nms l
theorem Q9n(a b:List (Nat×Nat)):nms (a++b)=nms a++nms b:=by
 induction a with
 |nil=>rfl
 |cons x a ih=>obtain⟨k,q⟩:=x;simp[nms,ih]
structure RecI (t:Tr)(base top:AC)(r:Nat)(L:List (Nat×Nat))(ou0 ou:Outer):Prop where
 o:RecO t base top r ou L
 nd:(nms L).Nodup
 new:∀k∈nms L,ou0 k=none
 old:∀k,k∉nms L->ou k=ou0 k
 ok:OuOk ou
section
variable {t:Tr}{base top:AC}
theorem Qd9(hb:base.ids isO):∀L:List (Nat×Nat),(recC base L).ids isO
 |[]=>hb
 |(k,q)::l=>trivial
theorem RecO.chg{r r':Nat}{ou ou':Outer}:∀{L:List (Nat×Nat)},RecO t base top r ou L->(∀k∈nms L,ou' k=ou k)->(∀i,i < L.length->(i < r↔i < r'))->RecO t base top r' ou' L
 |[],_,_,_=>trivial
 |(k,q)::l,⟨h1,h2,h3⟩,h,hr=>by
  refine⟨by rw[h k (by simp[nms])];exact h1,?_,RecO.chg h3 (fun j hj=>h j (by simp[nms,hj])) fun i hi=>hr i (by simp;omega)⟩
  rw[h q (by simp[nms]),h2]
  have:=hr l.length (by simp)
  unfold clC
  simp only[this]
theorem RecO.setTop{r r':Nat}{ou:Outer}(top':AC):∀{L:List (Nat×Nat)},RecO t base top r ou L->L.length<=r->L.length<=r'->RecO t base top' r' ou L
 |[],_,_,_=>trivial
 |(k,q)::l,⟨h1,h2,h3⟩,hr,hr'=>by
  simp only[List.length_cons]at hr hr'
  refine⟨h1,?_,RecO.setTop top' h3 (by omega) (by omega)⟩
  rw[h2]
  unfold clC
  rw[if_pos (by omega),if_pos (by omega)]
theorem RecO.hasC{r:Nat}{ou:Outer}:∀{L:List (Nat×Nat)},RecO t base top r ou L->∀k∈nms L,∃cs,ou k=some (.cells cs)
 |(k,q)::l,⟨h1,h2,h3⟩,j,hj=>by
  simp only[nms,List.mem_cons]at hj
  rcases hj with rfl|rfl|hj
  ·exact⟨_,h1⟩
  ·exact⟨_,h2⟩
  ·exact RecO.hasC h3 j hj
theorem RecO.split{r:Nat}{ou:Outer}:∀{a b:List (Nat×Nat)},RecO t base top r ou (a++b)->RecO t base top r ou b
 |[],b,h=>h
 |(k,q)::a,b,h=>RecO.split (a:=a) h.2.2
theorem RecO.chain{H':Hm}{ou:Outer}:∀{L:List (Nat×Nat)},RecO t base top 0 ou L->(∀k∈nms L,∀cs,ou k=some (.cells cs)->H' k=some cs)->RecC H' t top L.length (recC base L) base
 |[],_,_=>.zero _
 |(k,q)::l,⟨h1,h2,h3⟩,h=>by
  refine .succ l.length k q (recC base l) base (h k (by simp[nms]) _ h1) ?_ (RecO.chain h3 fun j hj=>h j (by simp[nms,hj]))
  have:=h q (by simp[nms]) _ h2
  simpa[clC]using this
theorem RecO.tie{k q:Nat}{l:List (Nat×Nat)}{ou ou':Outer}(hq:ou' q=some (.cells [.box (cTr (t.kids.getD l.length default)),top]))(ho:∀m,m≠q->ou' m=ou m):∀{a:List (Nat×Nat)},RecO t base top (l.length+1) ou (a++(k,q)::l)->(nms (a++(k,q)::l)).Nodup->RecO t base top l.length ou' (a++(k,q)::l)
 |[],⟨h1,h2,h3⟩,hn=>by
  simp only[List.nil_append,nms,List.nodup_cons,List.mem_cons]at hn
  refine⟨by rw[ho k (by rintro rfl;exact hn.1 (.inl rfl))];exact h1,by rw[hq];simp[clC],RecO.chg h3 (fun j hj=>ho j (by rintro rfl;exact hn.2.1 hj)) fun i hi=>by omega⟩
 |(k0,q0)::a,⟨h1,h2,h3⟩,hn=>by
  simp only[List.cons_append,nms,List.nodup_cons,List.mem_cons]at hn
  have hqm:q∈nms (a++(k,q)::l):=by rw[Q9n];simp[nms]
  refine⟨by rw[ho k0 (by rintro rfl;exact hn.1 (.inr hqm))];exact h1,?_,RecO.tie hq ho h3 hn.2.2⟩
  rw[ho q0 (by rintro rfl;exact hn.2.1 hqm),h2]
  unfold clC
  have hl:(a++(k,q)::l).length=a.length+l.length+1:=by simp;omega
  simp only[List.append_eq,hl]
  rw[if_neg (by omega),if_neg (by omega)]
theorem RecI.tie{k q:Nat}{l a:List (Nat×Nat)}{ou0 ou ou':Outer}(h:RecI t base top (l.length+1) (a++(k,q)::l) ou0 ou)(hq:ou' q=some (.cells [.box (cTr (t.kids.getD l.length default)),top]))(ho:∀m,m≠q->ou' m=ou m)(ht:top.ids isO):RecI t base top l.length (a++(k,q)::l) ou0 ou':=by
 have hqm:q∈nms (a++(k,q)::l):=by rw[Q9n];simp[nms]
 refine⟨h.o.tie hq ho h.nd,h.nd,h.new,fun j hj=>?_,fun j o hj=>?_⟩
 ·rw[ho j (by rintro rfl;exact hj hqm)];exact h.old j hj
 ·by_cases e:j=q
  ·subst e;rw[hq]at hj;cases hj;exact⟨by simp,ht,trivial⟩
  ·rw[ho j e]at hj;exact h.ok j o hj
theorem RecI.add{k q r:Nat}{L:List (Nat×Nat)}{ou0 ou ou1 ou2:Outer}{s:Tr}{x:Int}(h:RecI t base top r L ou0 ou)(hr:L.length < r)(hs:t.kids.getD L.length default=s)(hx:t.binds.getD L.length 0=x)(hN1:NewO ou ou1 [(q,.cells [.box (cTr s),nilPE])])(hN2:NewO ou1 ou2 [(k,.cells [int x,.ifc tClo false [.ptr (.o q) 0],recC base L])]):RecI t base top r ((k,q)::L) ou0 ou2:=by
 have hq0:ou q=none:=hN1.new q (by simp[keys])
 have hq1:ou1 q=some (.cells [.box (cTr s),nilPE]):=hN1.own (q,_) (by simp)
 have hk1:ou1 k=none:=hN2.new k (by simp[keys])
 have hk2:ou2 k=some (.cells [int x,.ifc tClo false [.ptr (.o q) 0],recC base L]):=hN2.own (k,_) (by simp)
 have hkq:k≠q:=by rintro rfl;rw[hq1]at hk1;cases hk1
 have hk0:ou k=none:=by rw[←hN1.old k (by simp[keys];exact hkq)];exact hk1
 have hqL:q∉nms L:=fun hm=>by obtain⟨cs,hc⟩:=h.o.hasC q hm;rw[hq0]at hc;cases hc
 have hkL:k∉nms L:=fun hm=>by obtain⟨cs,hc⟩:=h.o.hasC k hm;rw[hk0]at hc;cases hc
 have hold:∀m,m≠k->m≠q->ou2 m=ou m:=fun m h1 h2=>by rw[hN2.old m (by simp[keys];exact h1),hN1.old m (by simp[keys];exact h2)]
 refine⟨⟨by rw[hx];exact hk2,?_,h.o.chg (fun j hj=>hold j (by rintro rfl;exact hkL hj) (by rintro rfl;exact hqL hj)) fun _ _=>Iff.rfl⟩,?_,?_,?_,hN2.ok⟩
 ·rw[hN2.old q (by simp[keys];exact fun e=>hkq e.symm),hq1]
  unfold clC
  rw[if_pos hr,hs]
 ·simp only[nms,List.nodup_cons,List.mem_cons]
  exact⟨fun e=>e.elim hkq hkL,hqL,h.nd⟩
 ·intro j hj
  simp only[nms,List.mem_cons]at hj
  rcases hj with rfl|rfl|hj
  ·rw[←h.old j hkL];exact hk0
  ·rw[←h.old j hqL];exact hq0
  ·exact h.new j hj
 ·intro j hj
  simp only[nms,List.mem_cons,not_or]at hj
  rw[hold j hj.1 hj.2.1];exact h.old j hj.2.2
def recH (H:Hm)(ou:Outer)(L:List (Nat×Nat)):Hm:=fun k=>if k∈nms L then (match ou k with|some (.cells cs)=>some cs|_=>none)else H k
theorem RecI.gro{L:List (Nat×Nat)}{ou0 ou:Outer}{H:Hm}(h:RecI t base top 0 L ou0 ou)(hH:InOu H ou0):Gro ou0 H ou (recH H ou L):=by
 have hno:∀k cs,H k=some cs->k∉nms L:=fun k cs hk hm=>by have:=hH k cs hk;rw[h.new k hm]at this;cases this
 refine⟨fun k cs hk=>?_,fun k h1 h2=>?_,fun k o hk=>?_,fun k cs hk=>?_,h.ok,fun k o hk=>?_⟩
 ·unfold recH;rw[if_neg (hno k cs hk)];exact hk
 ·unfold recH at h2
  split at h2
  ·rename_i hm;exact h.new k hm
  ·exact absurd h1 h2
 ·rw[h.old k (fun hm=>by rw[h.new k hm]at hk;cases hk)];exact hk
 ·unfold recH at hk
  split at hk
  ·split at hk
   ·rename_i hc;cases hk;exact hc
   ·cases hk
  ·rename_i hm;rw[h.old k hm];exact hH k cs hk
 ·by_cases hm:k∈nms L
  ·obtain⟨cs,hc⟩:=h.o.hasC k hm
   rw[hc]at hk;cases hk;exact .inr trivial
  ·rw[h.old k hm]at hk;exact .inl hk
end
section
variable {fu:Int}{fc:FcT}{fns:List Fun}{ou:Outer}{H:Hm}{nm:Nm2}{m:Ms}{ec vc kc:AC}{t:Tr}{e:En}
theorem Qfn(hΓ:∀g cs,(g,cs)∈Γ->idsL isO cs)(h0:M0 fu fc ou H nm m (.box (cTr t)) ec vc kc)(hfc:fc.ids isO)(he:ER H nm e ec)(hk:KR H nm m.k kc)(h1:t.op=5)(hkl:t.kids.length=t.binds.length+1)(hb20:t.binds.length<=1048576):
  Q4g fu fc ou H nm { m with c:=.ev (t.kids.getD t.binds.length default) (.recs t e) } Γ:=by
 unfold Q4g
 have hei:=he.ids
 have hki:=hk.ids
 have hoX:=h0.ouX
 rw[hoX]
 have hw:=h0.w
 rw[hoX]at hw
 generalize hmc:ou=ou0 at hw
 clear hoX
 obtain⟨le,hche,_⟩:=he.ch
 cases t with
 |mk to tn tb tk ta=>
 obtain rfl:to=5:=h1
 simp only[Tr.kids,Tr.binds]at hkl hb20 ⊢
 obtain⟨T,hT⟩:∃T,T=Tr.mk 5 tn tb tk ta:=⟨_,rfl⟩
 have hTk:T.kids=tk:=by rw[hT];rfl
 have hTb:T.binds=tb:=by rw[hT];rfl
 refine AFn.walk 149 tabOk Tryz.func120 rfl (by kernel_rfl) rfl rfl fun hou=>?_
 obtain⟨oB,hoB⟩:∃oB,oB=ouX (mC (.box (cTr (.mk 5 tn tb tk ta))) ec vc kc m.out m.steps fu fc) m.out.length ou0:=⟨_,rfl⟩
 have hB0:oB 0=some (.cells (mC (.box (cTr (.mk 5 tn tb tk ta))) ec vc kc m.out m.steps fu fc)):=by rw[hoB];rfl
 have hwB:WR oB H nm m.heap:=by rw[hoB];exact hw
 refine zA ?_
 refine ACode.loopR hΓ (α:=Nat×List (Nat×Nat)×Outer) (fun a=>[(93,.one (int a.1)),(92,.one (int (tb.map cI).length)),(91,.one (.sl 1 (tb.map cI))),(3,.one (recC ec a.2.1)),(2,.one (.box (cTr (.mk 5 tn tb tk ta)))),(0,.one (.ptr (.o 0) 0))])
  (fun a=>⟨0,[],a.2.2⟩) (fun n a=>a.1<=tb.length/\a.2.1.length=a.1/\RecI T ec ec tb.length a.2.1 oB a.2.2/\n=tb.length - a.1) (a0:=(0,[],oB)) (ρ:=_root_.id) ⟨by simp,rfl,⟨trivial,by simp[nms],by simp[nms],fun _ _=>rfl,hwB.ok⟩,rfl⟩
  (LessR.of rfl zFW (by simp[recC,Q2o hei]) zLO rfl (by rw[hoB]) (by rw[hoB]at hwB;exact hwB.ok)) fun n a ha=>?_
 obtain⟨j,L,ou1⟩:=a
 obtain⟨hj,hL,hI,rfl⟩:=ha
 dsimp only at hj hL hI ⊢
 have hou1:=hI.ok
 have hri:(recC ec L).ids isO:=Qd9 hei L
 refine zA ?_
 refine ACode.cond rfl (fun hb2=>?_) (fun hb2=>?_)
 ·have hlt:j < tb.length:=by simpa using hb2
  clear hb2
  obtain⟨x,hx⟩:=Q00 hlt
  obtain⟨s,hs⟩:=Q00 (l:=tk) (i:=j) (by omega)
  refine zA ?_
  refine zS (zIA rfl rfl rfl (by omega) (Q0a hx)) ?_
  refine zA ?_
  refine zS (zIA rfl rfl rfl (by omega) (Q0s hs)) ?_
  repeat ((fail_if_success ((with_reducible refine oj ?_);refine AOps.atDst 109 rfl ?_));first|refine zO ?_)
  refine AOps.cedes [0] rfl (by decide) hou1 fun q hq=>⟨[(108,.one (.ptr (.o q) 0)),(99,.one (int x)),(98,.one (recC ec L)),(93,.one (int j)),(92,.one (int (tb.map cI).length)),(91,.one (.sl 1 (tb.map cI))),(2,.one (.box (cTr (.mk 5 tn tb tk ta)))),(0,.one (.ptr (.o 0) 0))],[],[.cells [.box (cTr s),nilPE]],?_,.nil,?_,?_⟩
  ·exact .cons rfl rfl (.cons rfl rfl (.consP rfl hri (.cons rfl rfl (.cons rfl rfl (.consP rfl (by simp) (.consP rfl (by simp) (.cons rfl rfl .nil)))))))
  ·exact .cons rfl (AObj.sub_f (fun i hi=>by cases i with|l q=>exact hi.elim|o q=>rfl) _ ⟨by simp,trivial,trivial⟩) .nil
  have hN1:=NewO.add hq hou1 (show (AObj.cells [.box (cTr s),nilPE]).ids isO from ⟨by simp,trivial,trivial⟩)
  refine zS (AStep.mkIfc Q7w rfl rfl) ?_
  refine AOps.call1 hΓ rfl rfl rfl rfl rfl rfl rfl ⟨hri,trivial,⟨trivial,trivial⟩,trivial⟩ hN1.ok (Qbq x (.ifc tClo false [.ptr (.o q) 0]) (recC ec L) ⟨trivial,trivial⟩ hri _) fun r ou2 hq2 _ hou2=>?_
  obtain⟨k,rfl,hN2⟩:=hq2
  have hI2:RecI T ec ec tb.length ((k,q)::L) oB ou2:=hI.add (by omega) (by rw[hTk,hL,List.getD_eq_getElem?_getD,hs];rfl) (by rw[hTb,hL,List.getD_eq_getElem?_getD,hx];rfl) hN1 hN2
  refine zM ?_
  exact cInv ⟨tb.length - (j+1),(j+1,(k,q)::L,ou2),_root_.id,by omega,⟨by omega,by simp[hL],hI2,rfl⟩,LessR.of rfl zFW (by simp[recC]) zLO rfl rfl hou2⟩
 ·have hlt:j=tb.length:=by simp at hb2;omega
  subst hlt
  clear hb2
  obtain⟨tp,htp⟩:∃tp,tp=recC ec L:=⟨_,rfl⟩
  have hti:tp.ids isO:=by rw[htp];exact hri
  have hI0:RecI T ec tp L.length L oB ou1:=⟨hI.o.setTop tp (by omega) (by omega),hI.nd,hI.new,hI.old,hI.ok⟩
  refine zA ?_
  refine ACode.loopR hΓ (α:=List (Nat×Nat)×List (Nat×Nat)×Outer) (fun a=>[(6,.one (recC ec a.2.1)),(3,.one tp),(2,.one (.box (cTr (.mk 5 tn tb tk ta)))),(0,.one (.ptr (.o 0) 0))])
   (fun a=>⟨0,[],a.2.2⟩) (fun n a=>a.1++a.2.1=L/\RecI T ec tp a.2.1.length L oB a.2.2/\n=a.2.1.length) (a0:=([],L,ou1)) (ρ:=_root_.id) ⟨rfl,hI0,rfl⟩
   (LessR.of rfl (by rw[htp];(repeat' first|exact FrSub.nil|refine zfc ?_|refine zfo ?_|refine zfp ?_ (hp:=by first|assumption|(simp;done)))) (by simp[Q2o hri,Q2o hti]) zLO rfl rfl hou1) fun n a ha=>?_
  obtain⟨A,l,ou3⟩:=a
  obtain⟨hA,hI3,rfl⟩:=ha
  dsimp only at hA hI3 ⊢
  have hou3:=hI3.ok
  have hx0:ou3 0=some (.cells (mC (.box (cTr (.mk 5 tn tb tk ta))) ec vc kc m.out m.steps fu fc)):=by
   rw[hI3.old 0 (fun hm=>by have:=hI3.new 0 hm;rw[hB0]at this;cases this)];exact hB0
  have e3:=Qao (n:=m.out.length) hx0
  have hI3o:RecO T ec tp l.length ou3 (A++l):=by rw[hA];exact hI3.o
  have hneq:∀{E:Env}{o:Oper}{fr:Fr}{x y:Operand}{yt:TypeId},E.P=Tryz.prog->TabOk E.P E.T->(∃tj,Tab.get 216 E.T=some tj/\Nat.beq tj.size 0=false)->o.op=.binOp .neq 98 x y yt->aEval E.Γ fr x=some (.one (recC ec l))->aEval E.Γ fr y=some (.one ec)->AStep E o fr ⟨0,[],ou3⟩ (.one (.lit (.bool (!l.isEmpty)))) ⟨0,[],ou3⟩:=by
   intro E o fr x y yt hP hTb ⟨tj,htj,hsz⟩ ho hx hy
   have hu:E.P.underlying 98=some (.pointer 216):=by rw[hP];exact Tryz.underlying98
   cases l with
   |nil=>cases hche with
    |nil=>exact AStep.neNil0 hu ho hx hy
    |cons i k0 vc0 nc l0 hk0 hch=>exact AStep.neSame hTb hu htj ho hx hy
   |cons p l=>
    obtain⟨k,q⟩:=p
    have hkO:=(hI3o.split).1
    cases hche with
    |nil=>exact AStep.neNil hu ho hx hy
    |cons i k0 vc0 nc l0 hk0 hch=>
     have hk0B:=hwB.inO k0 _ hk0
     have hk0n:k0∉nms L:=fun hm=>by have:=hI3.new k0 hm;rw[hk0B]at this;cases this
     have hkm:k∈nms L:=by rw[←hA,Q9n];simp[nms]
     exact AStep.nePtr hTb hu htj hsz ho hx hy hkO (show ou3 k0=_ by rw[hI3.old k0 hk0n];exact hk0B) (fun e=>by cases e;exact hk0n hkm)
  cases l with
  |nil=>
   rw[List.append_nil]at hA
   subst hA
   repeat' first|refine zN ?_|((with_reducible refine oj ?_);first|refine zix ?_|refine zow rfl rfl hx0 ?_)
   refine zS (hneq rfl tabOk ⟨_,rfl,rfl⟩ rfl rfl rfl) ?_
   obtain⟨s,hs⟩:=Q00 (l:=tk) (i:=tb.length) (by omega)
   have hix:(Q05 tk)[((tb.map cI).length:Int).toNat]?=some [.box (cTr s)]:=by simpa[cB]using Q0s hs
   have hgd:tk.getD tb.length default=s:=by rw[List.getD_eq_getElem?_getD,hs];rfl
   rw[e3]
   refine zA ?_
   refine ACode.drawSt tabOk 17 16 [(11,.one (.box [.box (cTr s)]))] _ follows (by kernel_rfl) rfl rfl (by kernel_rfl) rfl ?_ rfl rfl rfl rfl ?_ ?_ (AStep.ofStore tabOk rfl) ?_
   ·rfl
   ·exact⟨⟨_,rfl,zIA rfl rfl rfl (by omega) hix⟩,trivial⟩
   ·exact⟨⟨_,rfl,zIA rfl rfl rfl (by omega) hix⟩,trivial⟩
   refine zA ?_
   have hg:=hI3.gro hwB.inO
   have hw3:WR (ouX (mC (.box (cTr (.mk 5 tn tb tk ta))) ec vc kc m.out m.steps fu fc) m.out.length ou3) (recH H ou3 A) nm m.heap:=by rw[←e3];exact hwB.gro hg (by rw[hB0];simp) trivial
   have hrc:RecC (recH H ou3 A) T tp A.length (recC ec A) ec:=hI3.o.chain fun k hk cs hc=>by unfold recH;rw[if_pos hk,hc]
   have hAl:A.length=T.binds.length:=by rw[hTb];exact hL
   rw[hAl,←htp]at hrc
   rw[hgd]
   refine StQ.fin rfl rfl (hg.mo nm) (MR.ofEv (e:=.recs (.mk 5 tn tb tk ta) e) hw3 ?_ (hk.mo (hg.mo nm)) h0.ids.2.2.1 hfc rfl rfl (fun _=>rfl))
   rw[←hT]
   exact .recs T e tp ec hrc (he.mo (hg.mo nm))
  |cons p l=>
   obtain⟨k,q⟩:=p
   have hkO:=(hI3o.split)
   obtain⟨hkc,hqc,_⟩:=hkO
   have hnd:=hI3.nd
   rw[←hA]at hnd
   have hkq:k≠q:=by
    rw[Q9n,List.nodup_append]at hnd
    have:=hnd.2.1
    simp only[nms,List.nodup_cons,List.mem_cons,not_or]at this
    exact this.1.1
   have hri2:(recC ec l).ids isO:=Qd9 hei l
   repeat' first|refine zN ?_|((with_reducible refine oj ?_);first|refine zix ?_|refine zow rfl rfl hx0 ?_)
   refine zS (hneq rfl tabOk ⟨_,rfl,rfl⟩ rfl rfl rfl) ?_
   repeat' first|refine zN ?_|((with_reducible refine oj ?_);first|refine zix ?_|refine zow rfl rfl hkc ?_)
   refine zS (AStep.assert1 Q7w rfl rfl) ?_
   refine zA ?_
   refine AOps.storeOwn tabOk rfl rfl rfl rfl rfl rfl rfl hqc (by simp[clC]) ?_
   obtain⟨ou4,hou4⟩:∃ou4:Outer,ou4=(St.set ⟨0,[],ou3⟩ (.o q) (.cells ((clC T l.length (l.length+1) tp).set 1 tp))).ou:=⟨_,rfl⟩
   have hσ:St.set ⟨0,[],ou3⟩ (.o q) (.cells ((clC T l.length (l.length+1) tp).set 1 tp))=⟨0,[],ou4⟩:=by rw[hou4];rfl
   have h4q:ou4 q=some (.cells [.box (cTr (T.kids.getD l.length default)),tp]):=by rw[hou4];simp[St.set,clC]
   have h4o:∀m,m≠q->ou4 m=ou3 m:=fun m hm=>by rw[hou4];simp[St.set,Q07 hm]
   have hI4:RecI T ec tp l.length (A++(k,q)::l) oB ou4:=RecI.tie (by rw[hA];exact hI3) h4q h4o hti
   have hkc4:ou4 k=some (.cells [int (T.binds.getD l.length 0),.ifc tClo false [.ptr (.o q) 0],recC ec l]):=by rw[h4o k hkq];exact hkc
   refine AOps.stEq hσ ?_
   repeat' first|refine zN ?_|((with_reducible refine oj ?_);first|refine zix ?_|refine zow rfl rfl hkc4 ?_)
   exact cInv ⟨l.length,(A++[(k,q)],l,ou4),_root_.id,by simp,⟨by simpa using hA,by rw[hA]at hI4;exact hI4,rfl⟩,LessR.of rfl zFW (by simp[Q2o hri2,Q2o hti]) zLO rfl rfl hI4.ok⟩
end
end Go.Proofs.YtmdkenkhaicbeaaGreatDoor
namespace Go.Abs
theorem CedFrN.gs{js:List Nat}{kk k j k' s:Nat}{es:List (List AC)}{fr r:Fr}(h:Fr.get k fr=some (.one (.gs s es (.l j))))(hes:idsS isO es)(hj:toOs js kk (.l j)=.o k')(hr:CedFrN (toOs js kk) fr r):CedFrN (toOs js kk) fr ((k,.one (.gs s es (.o k')))::r):=
 .cons h (by simp only[FV.sub,AC.sub];rw[hj,Qd0 (fun i hi=>by cases i with|l q=>exact hi.elim|o q=>rfl) es hes]) hr
end Go.Abs
namespace Go.Proofs.YtmdkenkhaicbeaaGreatDoor
open Go Go.Abs Go.CoreX
variable {Γ:List (Nat×List AC)}
section
variable {fu:Int}{fc:FcT}{fns:List Fun}{ou:Outer}{H:Hm}{nm:Nm2}{m:Ms}{tc ec vc kc:AC}{t:Tr}{e:En}
def PlQ (fu:Int)(fc:FcT)(H:Hm)(nm:Nm2)(m1:Ms)(v:Vl)(tc ec vc kc:AC):FV->Outer->Prop:=fun r ou'=>∃kt H1 nm1 c,r=.one c/\Mo H nm H1 nm1/\VR H1 nm1 v c/\M0 fu ⟨fc.ac,kt⟩ ou' H1 nm1 m1 tc ec vc kc
theorem WR.reTok{mc mc':List AC}{n kt kt':Nat}{es es':List (List AC)}{ou0 ou':Outer}{heap:List (List Vl)}(w:WR (ouX mc n ou0) H nm heap)(hmc:mc[4]?=some (.gs 1 es (.o kt)))(hi:idsL isO mc')(hmc':mc'[4]?=some (.gs 1 es' (.o kt')))(h0:ou' 0=some (.cells mc'))(hk0:ouX mc n ou0 kt'=none)(h1:ou' kt'=some (.tok 3 1 es'.length))(hd:ou' kt=some .dead)(ho:∀k,1<=k->k≠kt->k≠kt'->ou' k=ou0 k):WR ou' H nm heap:=by
 obtain⟨kt2,e1,e2,e3,e4,e5⟩:=w.tk mc rfl _ _ hmc
 cases e1
 have hk1:1<=kt':=by
  match kt',hk0 with
  |0,h=>cases h
  |k+1,_=>omega
 have e:∀k,1<=k->k≠kt->k≠kt'->ou' k=ouX mc n ou0 k:=fun k hk h2 h3=>by
  obtain⟨j,rfl⟩:∃j,k=j+1:=⟨k - 1,by omega⟩
  rw[ho _ hk h2 h3];rfl
 have hkH:∀k cs,H k=some cs->1<=k/\k≠kt/\k≠kt':=fun k cs hk=>by
  refine⟨?_,(by rintro rfl;rw[e4]at hk;cases hk),(by rintro rfl;rw[w.inO _ _ hk]at hk0;cases hk0)⟩
  match k with
  |0=>rw[w.sep.1]at hk;cases hk
  |k+1=>omega
 have hkA:∀(a k n:Nat),nm[a]?=some (k,n)->1<=k/\k≠kt/\k≠kt':=fun a k n h=>by
  refine⟨w.sep.2 a k n h,e5 a k n h,?_⟩
  rintro rfl
  obtain⟨cs,c1,_⟩:=w.arr a k n h
  rw[c1]at hk0;cases hk0
 refine⟨fun k cs hk=>?_,fun k o hk=>?_,w.len,fun a k n h=>?_,w.aH,w.aa,w.sep,fun cs hc es2 i hi2=>?_,fun k o hk=>?_⟩
 ·obtain⟨h2,h3,h4⟩:=hkH k cs hk
  rw[e k h2 h3 h4];exact w.inO k cs hk
 ·by_cases h2:k=0
  ·subst h2;rw[h0]at hk;cases hk;exact hi
  by_cases h3:k=kt
  ·subst h3;rw[hd]at hk;cases hk;trivial
  by_cases h4:k=kt'
  ·subst h4;rw[h1]at hk;cases hk;trivial
  rw[e k (by omega) h3 h4]at hk;exact w.ok k o hk
 ·obtain⟨h2,h3,h4⟩:=hkA a k n h
  rw[e k h2 h3 h4];exact w.arr a k n h
 ·rw[h0]at hc;cases hc
  rw[hmc']at hi2;cases hi2
  refine⟨kt',rfl,hk1,h1,?_,fun a k n h=>(hkA a k n h).2.2⟩
  cases hh:H kt' with
  |none=>rfl
  |some c=>exact absurd rfl (hkH _ _ hh).2.2
 ·by_cases h2:k=0
  ·subst h2;rw[h0]at hk;cases hk;trivial
  by_cases h3:k=kt
  ·subst h3;rw[hd]at hk;cases hk;trivial
  by_cases h4:k=kt'
  ·subst h4;rw[h1]at hk;cases hk;trivial
  rw[e k (by omega) h3 h4]at hk;exact w.pl k o hk
theorem Qep(hΓ:∀g cs,(g,cs)∈Γ->idsL isO cs)(h0:M0 fu fc ou H nm m tc ec vc kc)(hfc:fc.ids isO)(a:Int)(hol:m.out.length<=1000)(hne:m.out.length≠1000):
  AFn Tryz.prog Γ 179 [.one (.ptr (.o 0) 0),.one (int 7),.one (.sl 1 [[iW a]])] ou (PlQ fu fc H nm { m with out:=m.out++[a] } (.obj 0 []) tc ec vc kc):=by
 have hoX:=h0.ouX
 have hids:=h0.ids
 have hw:=h0.w
 rw[hoX]at hw ⊢
 generalize hmc:ou=ou0 at hw
 clear hoX
 obtain⟨kt2,e1,e2,e3,e4,e5⟩:=hw.tk _ rfl _ _ (show (mC tc ec vc kc m.out m.steps fu fc)[4]?=_ from rfl)
 obtain⟨ac,kt⟩:=fc
 simp only[Abs.Id.o.injEq]at e1
 subst e1
 obtain⟨kj,rfl⟩:∃kj,kt=kj+1:=⟨kt - 1,by omega⟩
 refine AFn.walk 152 tabOk Tryz.func179 rfl (by kernel_rfl) rfl rfl fun hou=>?_
 refine zA ?_
 refine ACode.cond rfl (fun hb=>absurd (by simpa using hb) (show ¬((m.out.length:Int)=1000) by omega)) (fun _=>?_)
 refine zA ?_
 refine ACode.drawC2 tabOk 13 [10,11,12] [(6,.one (.box [iW a])),(8,.one (int a))] (fun vs σ=>match vs with
   |[]=>σ=⟨0,[],ouX (mC tc ec vc kc m.out m.steps fu ⟨ac,kj+1⟩) m.out.length ou0⟩
   |[v]=>v=.one (.gs 1 (m.out.map cI++[[int a]]) (.l 0))/\σ=(St.set ⟨0,[],ouX (mC tc ec vc kc m.out m.steps fu ⟨ac,kj+1⟩) m.out.length ou0⟩ (.o (kj+1)) .dead).push (.tok 3 1 (m.out.map cI++[[int a]]).length)
   |[v,w]=>v=.one (.gs 1 (m.out.map cI++[[int a]]) (.l 0))/\w=.one (.ptr (.o 0) 0)/\σ=(St.set ⟨0,[],ouX (mC tc ec vc kc m.out m.steps fu ⟨ac,kj+1⟩) m.out.length ou0⟩ (.o (kj+1)) .dead).push (.tok 3 1 (m.out.map cI++[[int a]]).length)
   |[v,w,x]=>v=.one (.gs 1 (m.out.map cI++[[int a]]) (.l 0))/\w=.one (.ptr (.o 0) 0)/\x=.one (.ptr (.o 0) 4)/\σ=(St.set ⟨0,[],ouX (mC tc ec vc kc m.out m.steps fu ⟨ac,kj+1⟩) m.out.length ou0⟩ (.o (kj+1)) .dead).push (.tok 3 1 (m.out.map cI++[[int a]]).length)
   |_=>False) follows (by kernel_rfl) rfl rfl (by decide) (by kernel_rfl) (by kernel_rfl) rfl rfl ?_ ?_ (by decide) ?_ ?_
 ·intro vs σ h
  match vs with
  |[]=>subst h;rfl
  |[_]=>obtain⟨_,rfl⟩:=h;rfl
  |[_,_]=>obtain⟨_,_,rfl⟩:=h;rfl
  |[_,_,_]=>obtain⟨_,_,_,rfl⟩:=h;rfl
  |_::_::_::_::_=>exact h.elim
 ·intro vs σ h
  have ho2:OuOk σ.ou:=by
   have hd:OuOk (St.set ⟨0,[],ouX (mC tc ec vc kc m.out m.steps fu ⟨ac,kj+1⟩) m.out.length ou0⟩ (.o (kj+1)) .dead).ou:=fun k o hk=>by
    simp only[St.set]at hk
    by_cases e:k=kj+1
    ·subst e;simp at hk;subst hk;trivial
    ·rw[Q07 e]at hk;exact hou k o hk
   match vs with
   |[]=>subst h;exact hou
   |[_]=>obtain⟨_,rfl⟩:=h;exact hd
   |[_,_]=>obtain⟨_,_,rfl⟩:=h;exact hd
   |[_,_,_]=>obtain⟨_,_,_,rfl⟩:=h;exact hd
   |_::_::_::_::_=>exact h.elim
  exact⟨⟨_,rfl,zIA rfl rfl rfl (by decide) rfl⟩,⟨_,rfl,AStep.callPure hΓ rfl rfl rfl (by simp[idsF,iW]) ho2 (Q22 a)⟩,trivial⟩
 ·intro vs σ h i o hi ho
  match vs with
  |[]=>
   subst h;cases hi;cases ho
   exact⟨rfl,.inl (.inl ⟨_,_,AStep.append tabOk rfl rfl rfl rfl rfl rfl (Base.gs' _ _ _ _ _ (show ouX (mC tc ec vc kc m.out m.steps fu ⟨ac,kj+1⟩) m.out.length ou0 (kj+1)=_ from e3) (by simp)) (.sl 1 [[int a]]) rfl (by simp;show _ * 8<=_;omega) (by simp;omega),rfl,rfl⟩)⟩
  |[_]=>obtain⟨rfl,rfl⟩:=h;cases hi;cases ho;exact⟨rfl,.inl (.inl ⟨_,_,AStep.ofOp tabOk rfl,rfl,rfl,rfl⟩)⟩
  |[_,_]=>obtain⟨rfl,rfl,rfl⟩:=h;cases hi;cases ho;exact⟨rfl,.inl (.inl ⟨_,_,AStep.ofOp tabOk rfl,rfl,rfl,rfl,rfl⟩)⟩
  |_::_::_::_=>cases hi
 ·intro vs σ hl h
  match vs with
  |[_,_,_]=>
   obtain⟨rfl,rfl,rfl,rfl⟩:=h
   have hIds:∀l:List Int,idsS isO (l.map cI):=fun l=>by simp
   have hd:OuOk (St.set ⟨0,[],ouX (mC tc ec vc kc m.out m.steps fu ⟨ac,kj+1⟩) m.out.length ou0⟩ (.o (kj+1)) .dead).ou:=fun k o hk=>by
    simp only[St.set]at hk
    by_cases e:k=kj+1
    ·subst e;simp at hk;subst hk;trivial
    ·rw[Q07 e]at hk;exact hou k o hk
   refine AOps.cedes [0] rfl (by decide) hd fun q hq=>⟨[(134,.one (.ptr (.o 0) 4)),(132,.one (.gs 1 (m.out.map cI++[[int a]]) (.o q)))],[],[.tok 3 1 (m.out.map cI++[[int a]]).length],?_,.nil,?_,?_⟩
   ·exact .cons rfl rfl (.gs rfl (by rw[show m.out.map cI++[[int a]]=(m.out++[a]).map cI by simp[cI]];exact hIds _) rfl .nil)
   ·exact .cons rfl rfl .nil
   have hq0:kj+1 < q:=by
    rcases Nat.lt_or_ge (kj+1) q with h|h
    ·exact h
    ·have:=hq (kj+1) h
     simp[St.push,St.set]at this
   generalize hA:(ouAdd (((St.set ⟨0,[],ouX (mC tc ec vc kc m.out m.steps fu ⟨ac,kj+1⟩) m.out.length ou0⟩ (.o (kj+1)) .dead).push (.tok 3 1 (m.out.map cI++[[int a]]).length)).ou) q [.tok 3 1 (m.out.map cI++[[int a]]).length])=oA
   have hA0:oA 0=some (.cells (mC tc ec vc kc m.out m.steps fu ⟨ac,kj+1⟩)):=by rw[←hA,Q0f (by omega)];rfl
   have hAq:oA q=some (.tok 3 1 (m.out.map cI++[[int a]]).length):=by rw[←hA];exact Q0e 0
   have hAd:oA (kj+1)=some .dead:=by rw[←hA,Q0f hq0];simp[St.push,St.set]
   have hAk:∀k,1<=k->k≠kj+1->k≠q->oA k=ou0 k:=fun k h2 h3 h4=>by
    obtain⟨j,rfl⟩:∃j,k=j+1:=⟨k - 1,by omega⟩
    rcases Nat.lt_or_ge (j+1) q with h|h
    ·rw[←hA,Q0f h]
     simp[St.push,St.set,Q07 h3];rfl
    ·have e5:ou0 (j+1)=none:=by
      have:=hq (j+1) h
      simp[St.push,St.set,Q07 h3]at this
      exact this
     obtain⟨p,hp⟩:∃p,j+1=q+p:=⟨j+1 - q,by omega⟩
     rw[e5,←hA,hp,Q0e]
     match p,hp with
     |0,hp=>omega
     |p+1,_=>rfl
   have hqn:ouX (mC tc ec vc kc m.out m.steps fu ⟨ac,kj+1⟩) m.out.length ou0 q=none:=by
    have:=hq q (Nat.le_refl _)
    simp[St.push,St.set,Q07 (show q≠kj+1 by omega)]at this
    exact this
   refine AOps.storeOwn tabOk rfl rfl rfl rfl rfl rfl rfl hA0 (by simp[mC]) ?_
   have hN:M0 fu ⟨ac,q⟩ (St.set ⟨1,[],oA⟩ (.o 0) (.cells ((mC tc ec vc kc m.out m.steps fu ⟨ac,kj+1⟩).set 4 (.gs 1 (m.out.map cI++[[int a]]) (.o q))))).ou H nm { m with out:=m.out++[a] } tc ec vc kc:=by
    have hmm:(mC tc ec vc kc m.out m.steps fu ⟨ac,kj+1⟩).set 4 (.gs 1 (m.out.map cI++[[int a]]) (.o q))=mC tc ec vc kc (m.out++[a]) m.steps fu ⟨ac,q⟩:=by simp[mC,cI]
    rw[hmm]
    refine⟨hids,by simp[St.set],WR.reTok hw rfl (show idsL isO (mC tc ec vc kc (m.out++[a]) m.steps fu ⟨ac,q⟩)from ⟨hids.1,hids.2.1,hids.2.2.1,hids.2.2.2,⟨trivial,hIds _⟩,trivial,trivial,hfc,trivial⟩) (show (mC tc ec vc kc (m.out++[a]) m.steps fu ⟨ac,q⟩)[4]?=some (.gs 1 ((m.out++[a]).map cI) (.o q))from rfl) (by simp[St.set]) hqn ?_ ?_ ?_⟩
    ·simp[St.set,Q07 (show q≠0 by omega),hAq]
    ·simp[St.set,Q07 (show kj+1≠0 by omega),hAd]
    ·intro k h2 h3 h4
     simp[St.set,Q07 (show k≠0 by omega)];exact hAk k h2 h3 h4
   have hNo:=hN.w.ok
   repeat ((fail_if_success ((with_reducible refine oj ?_);refine AOps.atDst 137 rfl ?_));first|refine zO ?_)
   refine AOps.freeze1 (.l 1) 136 rfl rfl ?_
   refine AOps.wk 136 rfl (y:=.one (.box [int 0,.sl 1 []])) (.one (Wk.box (.cons (.refl _) (.cons (.nilS 1) .nil)))) ?_
   refine zS (AStep.mkIfc Q4c rfl rfl) ?_
   refine zA ?_
   exact AFn.fin' rfl (WkF.ofEq rfl) (by simp[iB]) hNo ⟨q,H,nm,iB tObj [int 0,.sl 1 []],rfl,.refl _ _,.obj 0 [] [] .nil,hN⟩
  |[]|[_]|[_,_]=>cases hl
  |_::_::_::_::_=>exact h.elim
end
section
variable {fu:Int}{fc:FcT}{fns:List Fun}{ou:Outer}{H:Hm}{nm:Nm2}{m m1:Ms}{v:Vl}{tc ec vc kc:AC}{t:Tr}{e:En}{d:List Vl}{k:List Fm}{dc:List (List AC)}{tc0 ec0 vc0 kc0:AC}
theorem Qg3(hΓ:∀g cs,(g,cs)∈Γ->idsL isO cs)(h0:M0 fu fc ou H nm m tc ec vc kc)(hd:VsR H nm d dc)(h6:t.op=6):
  AFn Tryz.prog Γ 160 [.one (.ptr (.o 0) 0),.one (.box (cTr t)),.one (.sl 1 dc)] ou (PlQ fu fc H nm m (.obj t.n d) tc ec vc kc):=by
 have hdi:=hd.ids
 refine AFn.walk 85 tabOk Tryz.func160 rfl (by kernel_rfl) rfl rfl fun hou=>?_
 cases t with
 |mk to tn tb tk ta=>
 obtain rfl:to=6:=h6
 repeat ((fail_if_success ((with_reducible refine oj ?_);refine AOps.atDst 23 rfl ?_));first|refine zO ?_)
 refine AOps.freeze1 (.l 0) 22 rfl rfl ?_
 refine zS (AStep.mkIfc Q4c rfl rfl) ?_
 refine zA ?_
 exact AFn.fin' rfl (WkF.ofEq rfl) ⟨⟨trivial,hdi,trivial⟩,trivial⟩ hou ⟨fc.kt,H,nm,iB tObj [int tn,.sl 1 dc],rfl,.refl _ _,.obj tn d dc hd,h0⟩
theorem Qeq(hΓ:∀g cs,(g,cs)∈Γ->idsL isO cs)(hd:VsR H nm d dc)(h8:t.op=8)(hp:AFn Tryz.prog Γ 179 [.one (.ptr (.o 0) 0),.one (int t.n),.one (.sl 1 dc)] ou (PlQ fu fc H nm m1 v tc ec vc kc)):
  AFn Tryz.prog Γ 160 [.one (.ptr (.o 0) 0),.one (.box (cTr t)),.one (.sl 1 dc)] ou (PlQ fu fc H nm m1 v tc ec vc kc):=by
 have hdi:=hd.ids
 refine AFn.walk 85 tabOk Tryz.func160 rfl (by kernel_rfl) rfl rfl fun hou=>?_
 cases t with
 |mk to tn tb tk ta=>
 obtain rfl:to=8:=h8
 refine zA ?_
 refine AOps.call1 hΓ rfl rfl rfl rfl rfl rfl rfl ⟨trivial,trivial,hdi,trivial⟩ hou hp fun r ou' hq hids how=>?_
 obtain⟨kt,H1,nm1,c,rfl,hq⟩:=hq
 refine zA ?_
 exact AFn.fin' rfl (WkF.refl _) hids how ⟨kt,H1,nm1,c,rfl,hq⟩
theorem Qc4(h0:M0 fu fc ou H nm m tc0 ec0 vc0 kc0)(hk:KR H nm k kc)(hfc:fc.ids isO):M0 fu fc (ouX (mC tc0 ec0 vc0 kc m.out m.steps fu fc) m.out.length ou) H nm m tc0 ec0 vc0 kc:=by
 have hw:=h0.w
 rw[h0.ouX]at hw
 exact⟨⟨h0.ids.1,h0.ids.2.1,h0.ids.2.2.1,hk.ids⟩,rfl,hw.put (mc':=mC tc0 ec0 vc0 kc m.out m.steps fu fc) (by simp[mC,h0.ids.1,h0.ids.2.1,h0.ids.2.2.1,hk.ids,hfc]) rfl rfl (fun _=>rfl)⟩
theorem Qja(hΓ:∀g cs,(g,cs)∈Γ->idsL isO cs)(h0:M0 fu fc ou H nm m tc0 ec0 vc0 kc0)(hfc:fc.ids isO)(he:ER H nm e ec)(hd:VsR H nm d dc)(hk:KR H nm k kc)(hl:d.length=1)(h7:t.op=7){x:Except Int Ms}
  (hch:∀ou',M0 fu fc ou' H nm m tc0 ec0 vc0 kc->AFn Tryz.prog Γ 155 [.one (.ptr (.o 0) 0),.one (.box [.box (cTr t),ec,.sl 1 dc,kc])] ou' (StQ fu fc H nm x)):
  AFn Tryz.prog Γ 118 [.one (.ptr (.o 0) 0),.one (.box [.box (cTr t),ec,.sl 1 dc,kc])] ou (StQ fu fc H nm x):=by
 have hN:=Qc4 h0 hk hfc
 have hei:=he.ids
 have hdi:=hd.ids
 have hki:=hk.ids
 have hdl:=hd.len
 have hop:opdN t=1:=by unfold opdN;rw[if_pos (.inr (.inl h7))]
 have hoX:=h0.ouX
 rw[hoX]
 generalize hmc:ou=ou0 at hN
 clear hoX
 refine AFn.walk 262 tabOk Tryz.func118 rfl (by kernel_rfl) rfl rfl fun hou=>?_
 refine zA ?_
 refine ACode.drawX tabOk 10 [(9,.one (int (opdN t)))] follows (by kernel_rfl) rfl rfl rfl rfl ?_ ?_
 ·exact⟨⟨_,rfl,AStep.callPure hΓ rfl rfl rfl (by simp[idsF]) hou (Q79 t)⟩,trivial⟩
 refine zA ?_
 refine ACode.cond rfl (fun hb=>absurd hb (by simp[hdl,hl,hop])) (fun hb=>?_)
 refine zA ?_
 refine ACode.stEq (σ':=⟨0,[],ouX (mC tc0 ec0 vc0 kc m.out m.steps fu fc) m.out.length ou0⟩) (setX _ _ _ _) ?_
 refine ACode.cond rfl (fun hb=>absurd hb (by simp[h7])) (fun _=>?_)
 refine zA ?_
 refine ACode.cond rfl (fun _=>?_) (fun hb=>absurd hb (by simp[h7]))
 refine zA ?_
 refine AOps.call1 hΓ rfl rfl rfl rfl rfl rfl rfl ⟨trivial,⟨by simp,hei,hdi,hki,trivial⟩,trivial⟩ hN.w.ok (hch _ hN) fun r ou' hq _ how=>?_
 obtain⟨rfl,H',nm',m',hx,hmo,hM⟩:=hq
 refine zA ?_
 exact StQ.fin rfl hx hmo hM
theorem kid_app(hΓ:∀g cs,(g,cs)∈Γ->idsL isO cs)(h0:M0 fu fc ou H nm m tc0 ec0 vc0 kc0)(hfc:fc.ids isO)(he:ER H nm e ec){v0:Vl}{c0:AC}{ds:List (List AC)}(hv0:VR H nm v0 c0)(hd:VsR H nm d ds)(hk:KR H nm k kc)(hl:d.length+1=t.kids.length)(h3:t.op=3){x:Except Int Ms}
  (hcl:∀ou',M0 fu fc ou' H nm m tc0 ec0 vc0 kc->AFn Tryz.prog Γ 156 [.one (.ptr (.o 0) 0),.one c0,.one (.sl 1 ds)] ou' (StQ fu fc H nm x)):
  AFn Tryz.prog Γ 118 [.one (.ptr (.o 0) 0),.one (.box [.box (cTr t),ec,.sl 1 ([c0]::ds),kc])] ou (StQ fu fc H nm x):=by
 have hN:=Qc4 h0 hk hfc
 have hei:=he.ids
 have hdi:=hd.ids
 have hvi:=hv0.ids
 have hki:=hk.ids
 have hdl:=hd.len
 have hop:opdN t=t.kids.length:=by unfold opdN;rw[if_neg (by rw[h3];decide)]
 have hoX:=h0.ouX
 rw[hoX]
 generalize hmc:ou=ou0 at hN
 clear hoX
 refine AFn.walk 262 tabOk Tryz.func118 rfl (by kernel_rfl) rfl rfl fun hou=>?_
 refine zA ?_
 refine ACode.drawX tabOk 10 [(9,.one (int (opdN t)))] follows (by kernel_rfl) rfl rfl rfl rfl ?_ ?_
 ·exact⟨⟨_,rfl,AStep.callPure hΓ rfl rfl rfl (by simp[idsF]) hou (Q79 t)⟩,trivial⟩
 refine zA ?_
 refine ACode.cond rfl (fun hb=>absurd hb (by simp[hdl,hop];omega)) (fun hb=>?_)
 refine zA ?_
 refine ACode.stEq (σ':=⟨0,[],ouX (mC tc0 ec0 vc0 kc m.out m.steps fu fc) m.out.length ou0⟩) (setX _ _ _ _) ?_
 refine ACode.cond rfl (fun hb=>absurd hb (by simp[h3])) (fun _=>?_)
 refine zA ?_
 refine ACode.cond rfl (fun hb=>absurd hb (by simp[h3])) (fun _=>?_)
 refine zA ?_
 refine ACode.cond rfl (fun _=>?_) (fun hb=>absurd hb (by simp[h3]))
 refine zA ?_
 refine ACode.drawX tabOk 12 [(5,.one (.box [c0])),(11,.one (.sl 1 ds))] follows (by kernel_rfl) rfl rfl rfl rfl ?_ ?_
 ·exact⟨⟨_,rfl,zIA rfl rfl rfl (by decide) rfl⟩,⟨_,rfl,AStep.sliceFrom (b:=1) (es:=[c0]::ds) tabOk rfl rfl rfl rfl rfl rfl rfl (by simp)⟩,trivial⟩
 refine zA ?_
 refine AOps.call1 hΓ rfl rfl rfl rfl rfl rfl rfl ⟨trivial,hvi,hdi,trivial⟩ hN.w.ok (hcl _ hN) fun r ou' hq _ how=>?_
 obtain⟨rfl,H',nm',m',hx,hmo,hM⟩:=hq
 refine zA ?_
 exact StQ.fin rfl hx hmo hM
theorem Qaz(hΓ:∀g cs,(g,cs)∈Γ->idsL isO cs)(h0:M0 fu fc ou H nm m tc0 ec0 vc0 kc0)(hfc:fc.ids isO)(he:ER H nm e ec)(hd:VsR H nm d dc)(hk:KR H nm k kc)(hl:d.length=opdN t)(hn:¬(t.op=4∨t.op=7∨t.op=3∨t.op=13∨t.op=12∨t.op=14∨t.op=15∨t.op=16))
  (hpl:∀ou',M0 fu fc ou' H nm m tc0 ec0 vc0 kc->AFn Tryz.prog Γ 160 [.one (.ptr (.o 0) 0),.one (.box (cTr t)),.one (.sl 1 dc)] ou' (PlQ fu fc H nm m1 v tc0 ec0 vc0 kc)):
  AFn Tryz.prog Γ 118 [.one (.ptr (.o 0) 0),.one (.box [.box (cTr t),ec,.sl 1 dc,kc])] ou (StQ fu fc H nm (.ok { m1 with c:=.rt v,k:=k })):=by
 have hN:=Qc4 h0 hk hfc
 simp only[not_or]at hn
 have hei:=he.ids
 have hdi:=hd.ids
 have hki:=hk.ids
 have hdl:=hd.len
 have hoX:=h0.ouX
 rw[hoX]
 generalize hmc:ou=ou0 at hN
 clear hoX
 refine AFn.walk 262 tabOk Tryz.func118 rfl (by kernel_rfl) rfl rfl fun hou=>?_
 refine zA ?_
 refine ACode.drawX tabOk 10 [(9,.one (int (opdN t)))] follows (by kernel_rfl) rfl rfl rfl rfl ?_ ?_
 ·exact⟨⟨_,rfl,AStep.callPure hΓ rfl rfl rfl (by simp[idsF]) hou (Q79 t)⟩,trivial⟩
 refine zA ?_
 refine ACode.cond rfl (fun hb=>absurd hb (by simp[hdl,hl])) (fun hb=>?_)
 refine zA ?_
 refine ACode.stEq (σ':=⟨0,[],ouX (mC tc0 ec0 vc0 kc m.out m.steps fu fc) m.out.length ou0⟩) (setX _ _ _ _) ?_
 refine ACode.cond rfl (fun hb=>absurd hb (by simp[hn.1])) (fun _=>?_)
 refine zA ?_
 refine ACode.cond rfl (fun hb=>absurd hb (by simp[hn.2.1])) (fun _=>?_)
 refine zA ?_
 refine ACode.cond rfl (fun hb=>absurd hb (by simp[hn.2.2.1])) (fun _=>?_)
 refine zA ?_
 refine ACode.cond rfl (fun hb=>absurd hb (by simp[hn.2.2.2.1])) (fun _=>?_)
 refine zA ?_
 refine ACode.cond rfl (fun hb=>absurd hb (by simp[hn.2.2.2.2.1])) (fun _=>?_)
 refine zA ?_
 refine ACode.cond rfl (fun hb=>absurd hb (by simp[hn.2.2.2.2.2.1])) (fun _=>?_)
 refine zA ?_
 refine ACode.cond rfl (fun hb=>absurd hb (by simp[hn.2.2.2.2.2.2.1])) (fun _=>?_)
 refine zA ?_
 refine ACode.cond rfl (fun hb=>absurd hb (by simp[hn.2.2.2.2.2.2.2])) (fun _=>?_)
 refine zA ?_
 refine ACode.drawCS tabOk 15 11 12 13 14 (.one (.ptr (.o 0) 0)) (.one (.ptr (.o 0) 0)) []
  (fun r σ=>∃kt H1 nm1 c ou1,r=.one c/\σ=⟨0,[],ouX (mC tc0 ec0 vc0 kc m1.out m1.steps fu ⟨fc.ac,kt⟩) m1.out.length ou1⟩/\Mo H nm H1 nm1/\VR H1 nm1 v c/\WR (ouX (mC tc0 ec0 vc0 kc m1.out m1.steps fu ⟨fc.ac,kt⟩) m1.out.length ou1) H1 nm1 m1.heap)
  (fun r σ=>∃kt H1 nm1 c ou1,r=.one c/\σ=⟨0,[],ouX (mC nilPE ec0 vc0 kc m1.out m1.steps fu ⟨fc.ac,kt⟩) m1.out.length ou1⟩/\Mo H nm H1 nm1/\VR H1 nm1 v c/\WR (ouX (mC tc0 ec0 vc0 kc m1.out m1.steps fu ⟨fc.ac,kt⟩) m1.out.length ou1) H1 nm1 m1.heap)
  follows (by kernel_rfl) rfl rfl (by decide) (by kernel_rfl) (by kernel_rfl) rfl rfl rfl rfl rfl rfl rfl ?_ ?_ trivial (fun _ _ _=>trivial) (fun _ _ _=>trivial) ?_ ?_ ?_ ?_ ?_
 ·rintro r σ ⟨kt,H1,nm1,c,ou1,rfl,rfl,_⟩;rfl
 ·rintro r σ ⟨kt,H1,nm1,c,ou1,rfl,rfl,_⟩;rfl
 ·refine Q3e.ofR (Q2k.call hΓ rfl rfl rfl rfl ⟨trivial,by simp,hdi,trivial⟩ hN.w.ok (hpl _ hN) fun r ou' hq hr ho=>?_)
  obtain⟨kt,H1,nm1,c,rfl,h1,h2,h3⟩:=hq
  have hw:=h3.w
  have e:=h3.ouX
  rw[e]at hw
  exact⟨kt,H1,nm1,c,ou',rfl,by rw[←e],h1,h2,hw⟩
 ·rintro r σ ⟨kt,H1,nm1,c,ou1,rfl,rfl,_⟩;exact AStep.ofOp tabOk rfl
 ·rintro r σ ⟨kt,H1,nm1,c,ou1,rfl,rfl,_⟩;exact AStep.ofOp tabOk rfl
 ·rintro r σ ⟨kt,H1,nm1,c,ou1,rfl,rfl,h1⟩;exact⟨_,⟨kt,H1,nm1,c,ou1,rfl,setX _ _ _ _,h1⟩,AStep.ofStore tabOk rfl⟩
 ·rintro r σ ⟨kt,H1,nm1,c,ou1,rfl,rfl,h1,h2,h3⟩
  refine zA ?_
  have hM:MR fu ⟨fc.ac,kt⟩ (St.set ⟨0,[],ouX (mC nilPE ec0 vc0 kc m1.out m1.steps fu ⟨fc.ac,kt⟩) m1.out.length ou1⟩ (.o 0) (.cells (mC nilPE ec0 c kc m1.out m1.steps fu ⟨fc.ac,kt⟩))).ou H1 nm1 { m1 with c:=.rt v,k:=k }:=MR.ofRt h3 h2 (hk.mo h1) h0.ids.2.1 hfc rfl rfl (fun _=>rfl)
  exact StQ.fin rfl rfl h1 ⟨hM.ex⟩
end
end Go.Proofs.YtmdkenkhaicbeaaGreatDoor
namespace Go.Abs
theorem AStep.less{E:Env}{o:Oper}{fr:Fr}{σ σ1 σ2:St}{x:FV}(h:AStep E o fr σ x σ1)(hn:σ2.n=σ1.n)(hs:∀i o,σ2.get i=some o->σ1.get i=some o):AStep E o fr σ x σ2:=
 fun F w C tmps hi hf next Q hk=>h F w C tmps hi hf next Q fun u w' C' hg hi' hr=>
  hk u w' C' hg ⟨hi'.base,by rw[hn];exact hi'.next,hi'.glob,hi'.prot,fun i o ho=>hi'.obj i o (hs i o ho),fun i j o o' g h1 h2 h3 h4=>hi'.inj i j o o' g (hs i o h1) (hs j o' h2) h3 h4⟩ hr
theorem AStep.weakV{E:Env}{o:Oper}{fr:Fr}{σ σ':St}{x y:FV}(h:AStep E o fr σ x σ')(hw:WkF x y):AStep E o fr σ y σ':=
 fun F w C tmps hi hf next Q hk=>h F w C tmps hi hf next Q fun u w' C' hg hi' hr=>hk u w' C' hg hi' (hw _ _ _ hr)
end Go.Abs
namespace Go.Proofs.YtmdkenkhaicbeaaGreatDoor
open Go Go.Abs Go.CoreX
variable {Γ:List (Nat×List AC)}
def Qi7 (cs:List (List AC))(ou:Outer)(r:FV)(ou':Outer):Prop:=
 (cs=[]/\r=.one (.lit (.slice none 0 0))/\ou'=ou)∨∃q,r=.one (.gs 1 cs (.o q))/\ou' q=some (.tok 99 1 cs.length)/\ou q=none/\∀m,m≠q->ou' m=ou m
theorem Qhn(hΓ:∀g cs,(g,cs)∈Γ->idsL isO cs)(cs:List (List AC))(hl:cs.length<=1048576)(hi:idsS isO cs)(h1:∀x∈cs,x.length=1)(ou:Outer):AFn Tryz.prog Γ 119 [.one (.sl 1 cs)] ou (Qi7 cs ou):=by
 refine AFn.walk 8 tabOk Tryz.func119 rfl (by kernel_rfl) rfl rfl fun hou=>?_
 refine zA ?_
 refine AOps.nilTest rfl rfl rfl rfl Tryz.underlying166 rfl rfl fun b hb=>?_
 cases b with
 |true=>
  have hz:cs=[]:=by have:=hb rfl;simpa using this
  subst hz
  refine zA ?_
  exact AFn.fin' rfl (.refl _) (by simp) hou (.inl ⟨rfl,rfl,rfl⟩)
 |false=>
  refine zA ?_
  refine zS (AStep.buildSlice0 tabOk rfl rfl rfl rfl rfl) ?_
  refine zA ?_
  refine AOps.app tabOk rfl rfl rfl rfl rfl rfl rfl rfl rfl (Base.gs' _ _ _ _ _ (by rfl) (by simp)) (.sl _ _) rfl (by simp;show _ * 16<=_;omega) (by simp;omega) ?_
  refine AOps.cedes [1] rfl (by decide) hou fun q hq=>⟨[(7,.one (.gs 1 ([]++cs) (.o q)))],[],[.tok 99 1 ([]++cs).length],.gs rfl (by simpa using hi) rfl .nil,.nil,.cons rfl rfl .nil,?_⟩
  have hN:=NewO.add hq hou (show (AObj.tok 99 1 ([]++cs).length).ids isO from trivial)
  refine zA ?_
  refine AFn.fin' rfl (WkF.ofEq rfl) ⟨trivial,by simpa using hi⟩ hN.ok (.inr ⟨q,by simp,?_,hN.new q (by simp[keys]),fun m hm=>hN.old m (by simp[keys];exact hm)⟩)
  have:=hN.own (q,_) (List.mem_singleton.2 rfl)
  simpa using this
section
variable {fu:Int}{ac:AC}{fns:List Fun}{G:GP}
def KidC (fu:Int)(ac:AC)(G:GP)(Γ:List (Nat×List AC)):Prop:=∀(ou:Outer)(H:Hm)(nm:Nm2)(m m':Ms)(t:Tr)(e:En)(d:List Vl)(k:List Fm)(ec kc tc0 ec0 vc0 kc0:AC)(dc:List (List AC))(kt:Nat),M0 fu ⟨ac,kt⟩ ou H nm m tc0 ec0 vc0 kc0->ER H nm e ec->VsR H nm d dc->KR H nm k kc->
 allT G.p t->gE G e->gVs G d->d.length<=opdN t->nLf t.op->gFs G k->(G.R->k.length<=1048576)->m.out.length<=1000->kidM fu G.fns m (.mk t e d) k=.ok m'->(G.R->m'.k.length<=1048576)->AFn Tryz.prog Γ 118 [.one (.ptr (.o 0) 0),.one (.box [.box (cTr t),ec,.sl 1 dc,kc])] ou (StQ fu ⟨ac,kt⟩ H nm (.ok m'))
def bndX (fu:Int)(fns:List Fun):Nat->Ms->Bool
 |0,m=>decide (m.k.length<=1048576)
 |g+1,m=>decide (m.k.length<=1048576)&&(match Q15 fu fns m with
  |.next m'=>bndX fu fns g m'
  |_=>true)
theorem bndX_k{fns:List Fun}{g:Nat}{m:Ms}(h:bndX fu fns g m=true):m.k.length<=1048576:=by
 cases g with
 |zero=>simpa[bndX]using h
 |succ g=>simp only[bndX,Bool.and_eq_true,decide_eq_true_eq]at h;exact h.1
def StartC (fu:Int)(ac:AC)(G:GP)(Γ:List (Nat×List AC)):Prop:=∀(ou:Outer)(H:Hm)(nm:Nm2)(m m':Ms)(t:Tr)(e:En)(ec vc kc:AC)(kt:Nat),M0 fu ⟨ac,kt⟩ ou H nm m (.box (cTr t)) ec vc kc->ER H nm e ec->KR H nm m.k kc->
 allT G.p t->gE G e->gFs G m.k->(G.R->m.k.length<=1048576)->m.out.length<=1000->Q29 fu G.fns m t e=.ok m'->(G.R->m'.k.length<=1048576)->AFn Tryz.prog Γ 120 [.one (.ptr (.o 0) 0)] ou (StQ fu ⟨ac,kt⟩ H nm (.ok m'))
theorem VsR.ones{H:Hm}{nm:Nm2}:∀{v:List Vl}{c:List (List AC)},VsR H nm v c->∀x∈c,x.length=1
 |_,_,.nil,x,hx=>by cases hx
 |_,_,.cons v c vs cs hv h,x,hx=>by
  rcases List.mem_cons.1 hx with rfl|hx
  ·rfl
  ·exact VsR.ones h x hx
theorem run_ok(hΓ:∀g cs,(g,cs)∈Γ->idsL isO cs)(hac:ac.ids isO)(hG:GPok G)(hopn:∀t,allT G.p t->opdN t<=1048576)(hkid:KidC fu ac G Γ)(hstart:StartC fu ac G Γ){ou:Outer}{H:Hm}{nm:Nm2}{m0:Ms}{kt0:Nat}(h0:MR fu ⟨ac,kt0⟩ ou H nm m0)(hg0:gM G m0){g0:Nat}{mf:Ms}{vf:Vl}(hgo:goX fu G.fns g0 m0=some (.done mf vf))(hbd:G.R->bndX fu G.fns g0 m0=true)(hol:mf.out.length<=1000)(hfu:0<=fu/\fu<=1000000)(hst0:0<=m0.steps)(hmf:mf.steps<=fu):
  AFn Tryz.prog Γ 94 [.one (.ptr (.o 0) 0)] ou (fun r ou'=>r=.one (.lit (.bool true))/\mf.c=.rt vf/\mf.k=[]/\∃H' nm',MR fu ⟨ac,kt0⟩ ou' H' nm' mf):=by
 refine AFn.walk 70 tabOk Tryz.func94 rfl (by kernel_rfl) rfl rfl fun hou=>?_
 refine zA ?_
 refine ACode.loopR hΓ (α:=Outer×Hm×Nm2×Ms) (fun a=>[(0,.one (.ptr (.o 0) 0))]) (fun a=>⟨0,[],a.1⟩) (fun g a=>MR fu ⟨ac,kt0⟩ a.1 a.2.1 a.2.2.1 a.2.2.2/\gM G a.2.2.2/\goX fu G.fns g a.2.2.2=some (.done mf vf)/\0<=a.2.2.2.steps/\(G.R->bndX fu G.fns g a.2.2.2=true))
  (a0:=(ou,H,nm,m0)) (ρ:=_root_.id) ⟨h0,hg0,hgo,hst0,hbd⟩ (LessR.of rfl zFW (by simp) zLO rfl rfl hou) fun g a ha=>?_
 obtain⟨ou1,H1,nm1,m⟩:=a
 obtain⟨hM,hgm,hgo,hst,hbx⟩:=ha
 dsimp only at hM hgm hgo hst hbx ⊢
 clear hou h0 hg0 hst0 hbd
 obtain⟨kt,tc,ec,vc,kc,hCR,hKR,h0⟩:=hM.ex
 have hou:=h0.w.ok
 have holm:m.out.length<=1000:=by
  rcases Qh9 hgo with h|h
  ·exact Nat.le_trans h hol
  ·cases h
 obtain⟨g,rfl⟩:∃g',g=g'+1:=by
  cases g with
  |zero=>cases hgo
  |succ g=>exact⟨g,rfl⟩
 simp only[goX]at hgo
 have hkl:G.R->m.k.length<=1048576:=fun hR=>by have:=hbx hR;simp only[bndX,Bool.and_eq_true,decide_eq_true_eq]at this;exact this.1
 have hbn:G.R->∀m1,Q15 fu G.fns m=.next m1->bndX fu G.fns g m1=true:=fun hR m1 h1=>by have:=hbx hR;simp only[bndX,h1,Bool.and_eq_true]at this;exact this.2
 have hids:=h0.ids
 have hoX:=h0.ouX
 have hki:=hKR.ids
 have hw:=h0.w
 rw[hoX]at hw hou ⊢
 obtain⟨mc,mk,mo,ms,mh⟩:=m
 dsimp only at hgo hst hw hou hids hki holm h0 hkl hbn ⊢
 cases hCR with
 |ev t e ec vc he=>
  have hei:=he.ids
  have hsf:¬ms=fu:=fun h=>by
   simp[Q15,h]at hgo
  rw[Q9d rfl hsf]at hgo
  have hox:∃m',Q29 fu G.fns ⟨.ev t e,mk,mo,ms+1,mh⟩ t e=.ok m':=by
   cases hx:Q29 fu G.fns ⟨.ev t e,mk,mo,ms+1,mh⟩ t e with
   |ok m'=>exact⟨m',rfl⟩
   |error c=>simp only[hx,rdOf]at hgo;cases hgo
  obtain⟨m',hx⟩:=hox
  simp only[hx,rdOf]at hgo
  have hgm':gM G m':=Qd7 hG hgm (by rw[Q9d rfl hsf,hx];rfl)
  have hbn':G.R->bndX fu G.fns g m'=true:=fun hR=>hbn hR m' (by rw[Q9d rfl hsf,hx];rfl)
  have haf:=Qd2 (fu:=fu) (fns:=G.fns) hx
  have hfu':m'.steps<=fu:=Int.le_trans (goX_ge hgo (by simp)) hmf
  simp only at haf
  refine zA ?_
  refine zS (AStep.neNilBox Tryz.underlying68 rfl rfl rfl) ?_
  refine zM ?_
  refine zS (AStep.eqNilBox Tryz.underlying68 rfl rfl rfl) ?_
  refine zA ?_
  refine ACode.drawX tabOk 8 [] follows (by kernel_rfl) rfl rfl rfl rfl trivial ?_
  refine zA ?_
  refine ACode.cond rfl (fun hb=>absurd (by simpa using hb) hsf) (fun _=>?_)
  refine zM ?_
  have hN:M0 fu ⟨ac,kt⟩ (St.set ⟨0,[],ouX (mC (.box (cTr t)) ec vc kc mo ms fu ⟨ac,kt⟩) mo.length ou1⟩ (.o 0) (.cells (mC (.box (cTr t)) ec vc kc mo (ms+1) fu ⟨ac,kt⟩))).ou H1 nm1 ⟨.ev t e,mk,mo,ms+1,mh⟩ (.box (cTr t)) ec vc kc:=
   ⟨hids,rfl,hw.put (mc':=mC (.box (cTr t)) ec vc kc mo (ms+1) fu ⟨ac,kt⟩) (by simp[mC,hids,hei,hki,hac]) rfl rfl (fun _=>rfl)⟩
  refine AOps.call1 hΓ rfl rfl rfl rfl rfl rfl rfl ⟨trivial,trivial⟩ hN.w.ok (hstart _ H1 nm1 _ m' t e ec vc kc kt hN he hKR hgm.c.1 hgm.c.2 hgm.k hkl holm hx fun hR=>bndX_k (hbn' hR)) fun r ou2 hq _ how=>?_
  obtain⟨rfl,H',nm',m2,hx2,hmo,hM2⟩:=hq
  cases hx2
  refine zA ?_
  exact cInv ⟨g,(ou2,H',nm',m'),_root_.id,by omega,⟨⟨hM2.ex⟩,hgm',hgo,by dsimp only;omega,hbn'⟩,LessR.of rfl zFW (by simp) zLO rfl rfl how⟩
 |rt v ec vc hv=>
  have hvi:=hv.ids
  cases hKR with
  |nil=>
   have hr:Q15 fu G.fns ⟨.rt v,[],mo,ms,mh⟩=.done ⟨.rt v,[],mo,ms,mh⟩ v:=by simp[Q15]
   rw[hr]at hgo
   cases hgo
   refine zA ?_
   refine zS (AStep.neNil0 Tryz.underlying68 rfl rfl rfl) ?_
   refine zM ?_
   refine zS (AStep.neNil0 Tryz.underlying100 rfl rfl rfl) ?_
   refine zM ?_
   refine AFn.fin' rfl (WkF.ofEq rfl) (by simp) hou ⟨rfl,rfl,rfl,H1,nm1,⟨⟨kt,nilPE,ec,vc,nilPE,.rt _ ec vc hv,.nil,?_⟩⟩⟩
   rw[←hoX];exact h0
  |cons t e d k ec2 dc kc2 he hd hk=>
   have hei:=he.ids
   have hdi:=hd.ids
   have hk2i:=hk.ids
   have hgf:=hgm.k
   obtain⟨⟨g1,g2,g3,g4,gn⟩,g5⟩:=hgf
   have hdl:=hd.len
   rw[Q9c (f:=.mk t e d) (k:=k) rfl rfl]at hgo
   have hox:∃m',kidM fu G.fns ⟨.rt v,.mk t e d::k,mo,ms,mh⟩ (.mk t e (d++[v])) k=.ok m':=by
    cases hx:kidM fu G.fns ⟨.rt v,.mk t e d::k,mo,ms,mh⟩ (.mk t e (d++[v])) k with
    |ok m'=>exact⟨m',rfl⟩
    |error c=>simp only[Fm.t_mk,Fm.e_mk,Fm.done_mk,hx,rdOf]at hgo;cases hgo
   obtain⟨m',hx⟩:=hox
   simp only[Fm.t_mk,Fm.e_mk,Fm.done_mk,hx,rdOf]at hgo
   have hgm':gM G m':=Qd7 hG hgm (by rw[Q9c (fu:=fu) (f:=.mk t e d) (k:=k) rfl rfl];simp only[Fm.t_mk,Fm.e_mk,Fm.done_mk,hx];rfl)
   have hbn':G.R->bndX fu G.fns g m'=true:=fun hR=>hbn hR m' (by rw[Q9c (fu:=fu) (f:=.mk t e d) (k:=k) rfl rfl];simp only[Fm.t_mk,Fm.e_mk,Fm.done_mk,hx];rfl)
   have haf:=(Q66 hx d v (.inl rfl)).ge
   simp only at haf
   have hopt:=hopn t g1
   have hD:VsR H1 nm1 (d++[v]) (dc++[[vc]]):=hd.snoc hv
   have hDi:=hD.ids
   have hcl:=Qhn hΓ dc (by omega) hdi hd.ones
   refine zA ?_
   refine zS (AStep.neNil0 Tryz.underlying68 rfl rfl rfl) ?_
   refine zM ?_
   refine zS (AStep.neNilBox Tryz.underlying100 rfl rfl rfl) ?_
   refine zM ?_
   refine zS (AStep.eqNil0 Tryz.underlying68 rfl rfl rfl) ?_
   refine zA ?_
   have hkd:=hkid (ouX (mC nilPE ec vc (.box [.box (cTr t),ec2,.sl 1 dc,kc2]) mo ms fu ⟨ac,kt⟩) mo.length ou1) H1 nm1 ⟨.rt v,.mk t e d::k,mo,ms,mh⟩ m' t e (d++[v]) k ec2 kc2 nilPE ec vc (.box [.box (cTr t),ec2,.sl 1 dc,kc2]) (dc++[[vc]]) kt (by rw[←hoX];exact h0) he hD hk g1 g2 (Qcd g3 ⟨hgm.c,trivial⟩) (by simp;omega) gn g5 (fun hR=>by have:=hkl hR;simp only[List.length_cons]at this;omega) holm hx fun hR=>bndX_k (hbn' hR)
   refine ACode.drawC2 tabOk 26 [13,19,24,25] [(18,.one (.sl 1 [[vc]]))] (fun vs σ=>match vs with
    |[]=>σ=⟨0,[],ouX (mC nilPE ec vc (.box [.box (cTr t),ec2,.sl 1 dc,kc2]) mo ms fu ⟨ac,kt⟩) mo.length ou1⟩
    |[a]=>∃ou2,Qi7 dc (ouX (mC nilPE ec vc (.box [.box (cTr t),ec2,.sl 1 dc,kc2]) mo ms fu ⟨ac,kt⟩) mo.length ou1) a (ouX (mC nilPE ec vc (.box [.box (cTr t),ec2,.sl 1 dc,kc2]) mo ms fu ⟨ac,kt⟩) mo.length ou2)/\σ=⟨0,[],ouX (mC nilPE ec vc (.box [.box (cTr t),ec2,.sl 1 dc,kc2]) mo ms fu ⟨ac,kt⟩) mo.length ou2⟩
    |[a,b]=>b=.one (.sl 1 (dc++[[vc]]))/\σ=⟨1,[],ouX (mC nilPE ec vc (.box [.box (cTr t),ec2,.sl 1 dc,kc2]) mo ms fu ⟨ac,kt⟩) mo.length ou1⟩
    |[a,b,c]=>b=.one (.sl 1 (dc++[[vc]]))/\c=.agg [.box (cTr t),ec2,.sl 1 (dc++[[vc]]),kc2]/\σ=⟨1,[],ouX (mC nilPE ec vc (.box [.box (cTr t),ec2,.sl 1 dc,kc2]) mo ms fu ⟨ac,kt⟩) mo.length ou1⟩
    |[a,b,c,g]=>b=.one (.sl 1 (dc++[[vc]]))/\c=.agg [.box (cTr t),ec2,.sl 1 (dc++[[vc]]),kc2]/\g=.one (.box [.box (cTr t),ec2,.sl 1 (dc++[[vc]]),kc2])/\σ=⟨1,[],ouX (mC nilPE ec vc (.box [.box (cTr t),ec2,.sl 1 dc,kc2]) mo ms fu ⟨ac,kt⟩) mo.length ou1⟩
    |_=>False) follows (by kernel_rfl) rfl rfl (by decide) (by kernel_rfl) (by kernel_rfl) rfl rfl ?_ ?_ (by decide) ?_ ?_
   ·intro vs σ h
    match vs with
    |[]=>subst h;rfl
    |[_]=>obtain⟨_,_,rfl⟩:=h;rfl
    |[_,_]=>obtain⟨_,rfl⟩:=h;rfl
    |[_,_,_]=>obtain⟨_,_,rfl⟩:=h;rfl
    |[_,_,_,_]=>obtain⟨_,_,_,rfl⟩:=h;rfl
    |_::_::_::_::_::_=>exact h.elim
   ·intro vs σ h
    exact⟨⟨_,rfl,HStep.auto tabOk rfl⟩,trivial⟩
   ·intro vs σ h i o hi ho
    match vs with
    |[]=>
     subst h;cases hi;cases ho
     refine⟨rfl,.inl (.inr ⟨rfl,Q2k.call hΓ rfl rfl rfl rfl ⟨hdi,trivial⟩ hou (hcl _) fun r ou' hq hr ho=>?_⟩)⟩
     have e:ou'=ouX (mC nilPE ec vc (.box [.box (cTr t),ec2,.sl 1 dc,kc2]) mo ms fu ⟨ac,kt⟩) mo.length ou':=Qao (by
      rcases hq with ⟨_,_,rfl⟩|⟨q,_,_,h1,h2⟩
      ·rfl
      ·rw[h2 0 (by rintro rfl;cases h1)];rfl)
     exact⟨ou',by rw[←e];exact hq,by rw[←e]⟩
    |[a]=>
     obtain⟨ou2,hq,rfl⟩:=h;cases hi;cases ho
     rcases hq with ⟨rfl,rfl,h1⟩|⟨q,rfl,h1,h2,h3⟩
     ·refine⟨rfl,.inl (.inl ⟨_,_,AStep.less (σ2:=⟨1,[],ouX (mC nilPE ec vc (.box [.box (cTr t),ec2,.sl 1 _,kc2]) mo ms fu ⟨ac,kt⟩) mo.length ou1⟩) (AStep.weakV (AStep.append tabOk rfl rfl rfl rfl rfl rfl (Base.nil _ _) (.sl 1 [[vc]]) rfl (by show (0+1) * 16<=140737488355328;decide) (by simp)) (.one (.gsE (by simp)))) rfl ?_,rfl,rfl⟩)⟩
      intro i o hi
      cases i with
      |l j=>cases hi
      |o j=>exact (congrFun h1 j).trans hi
     ·refine⟨rfl,.inl (.inl ⟨_,_,AStep.less (σ2:=⟨1,[],ouX (mC nilPE ec vc (.box [.box (cTr t),ec2,.sl 1 _,kc2]) mo ms fu ⟨ac,kt⟩) mo.length ou1⟩) (AStep.weakV (AStep.append tabOk rfl rfl rfl rfl rfl rfl (Base.gs' _ _ _ _ _ h1 rfl) (.sl 1 [[vc]]) rfl (by simp;show _ * 16<=_;omega) (by simp;omega)) (.one (.gsE (by simp)))) rfl ?_,rfl,rfl⟩)⟩
      intro i o hi
      cases i with
      |l j=>cases hi
      |o j=>
       have hjq:j≠q:=by rintro rfl;have h5:=hi;simp only[St.get]at h5;rw[h2]at h5;cases h5
       have h4:=h3 j hjq
       show (bif Nat.beq j q then some AObj.dead else _)=some o
       rw[Q07 hjq]
       exact h4.trans hi
    |[_,_]=>obtain⟨rfl,rfl⟩:=h;cases hi;cases ho;exact⟨rfl,.inl (.inl ⟨_,_,AStep.ofOp tabOk rfl,rfl,rfl,rfl⟩)⟩
    |[_,_,_]=>obtain⟨rfl,rfl,rfl⟩:=h;cases hi;cases ho;exact⟨rfl,.inl (.inl ⟨_,_,AStep.boxI rfl rfl,rfl,rfl,rfl,rfl⟩)⟩
    |_::_::_::_::_=>cases hi
   ·intro vs σ hl h
    match vs with
    |[a,_,_,_]=>
     obtain⟨rfl,rfl,rfl,rfl⟩:=h
     refine AOps.call1 hΓ rfl rfl rfl rfl rfl rfl rfl ⟨trivial,⟨by simp,hei,hDi,hk2i,trivial⟩,trivial⟩ hou hkd fun r ou2 hq _ how=>?_
     obtain⟨rfl,H',nm',m2,hx2,hmo,hM2⟩:=hq
     cases hx2
     refine zA ?_
     exact cInv ⟨g,(ou2,H',nm',m'),_root_.id,by omega,⟨⟨hM2.ex⟩,hgm',hgo,by dsimp only;omega,hbn'⟩,LessR.of rfl zFW (by simp) zLO rfl rfl how⟩
    |[]|[_]|[_,_]|[_,_,_]=>cases hl
    |_::_::_::_::_::_=>exact h.elim
end
structure FragL (hi:Bool)(l:Lab):Prop where
 sh:shpQ l
 op:0<=l.op/\l.op<=8∨hi=true/\(l.op=12∨l.op=13)
 pr:l.op=8->l.n=0∨l.n=1∨l.n=2∨l.n=5∨l.n=6∨l.n=7
 bl:l.binds.length<=1048576
 al:l.alts.length<=1048576
 ab:∀a∈l.alts,a.binds.length<=1048576
 kl:l.ops.length<=1048576
 wd:l.op=1->inW l.n
 rc:l.op=5->∀i,i < l.binds.length->l.ops[i]?=some 2
def G1 (hi:Bool):GP:={ p:=FragL hi,S:=fun _=>True,W:=inW,fns:=[],R:=hi=true }
theorem Qic{a b:Int}(ha:inW a)(hb:inW b):inW (a.tmod b):=by
 have h1:(a.tmod b).natAbs<=a.natAbs:=by
  rw[Int.natAbs_tmod];exact Nat.mod_le _ _
 unfold inW at *
 have h2:-1073741824<=a.tmod b:=by
  rcases Int.le_total 0 a with h|h
  ·have:=Int.tmod_nonneg b h;omega
  ·omega
 have h3:a.tmod b<=1073741823:=by
  rcases Int.le_total 0 a with h|h
  ·omega
  ·have h4:a.tmod b=-((-a).tmod b):=by rw[Int.neg_tmod];omega
   have:=Int.tmod_nonneg b (show 0<=-a by omega)
   omega
 exact⟨h2,h3⟩
theorem G1ok(hi:Bool):GPok (G1 hi) where
 sh:=fun l h=>h.sh
 bnd:=fun _ _ _ _=>trivial
 wd:=fun l h h1=>h.wd h1
 rc:=fun l h h1=>h.rc h1
 wr:=fun n=>by show inW (wrapW n);unfold inW wrapW;omega
 wl:=fun n h0 h1=>by show inW n;unfold inW;omega
 wm:=fun a b ha hb=>Qic ha hb
 fn:=fun f hf=>by cases hf
 cl:=fun l h ho=>by
  exfalso
  rcases h.op with h1|⟨_,h1⟩ <;> omega
 rs:=fun l h ho=>by
  rcases h.op with h1|⟨h1,_⟩
  ·omega
  ·exact h1
theorem G1opn{hi:Bool}{t:Tr}(h:allT (G1 hi).p t):opdN t<=1048576:=by
 have F:FragL hi ⟨t.op,t.n,t.binds,t.kids.map Tr.op,t.alts⟩:=Q2g h
 have:=F.kl
 simp at this
 unfold opdN
 split <;> omega
section
variable {fu:Int}{ac:AC}
structure MoreC (hi:Bool)(fu:Int)(ac:AC)(Γ:List (Nat×List AC)):Prop where
 res:hi=true->∀(ou:Outer) (H:Hm) (nm:Nm2) (m:Ms) (k fs:List Fm) (kc tc0 ec0 vc0:AC) (kt:Nat) (vc:AC) (a:Vl) (c:AC),M0 fu ⟨ac,kt⟩ ou H nm m tc0 ec0 vc0 kc->KR H nm k kc->VR H nm (.res fs) vc->VR H nm a c->gFs (G1 hi) fs->(fs++k).length<=1048576->
  AFn Tryz.prog Γ 156 [.one (.ptr (.o 0) 0),.one vc,.one (.sl 1 [[c]])] ou (StQ fu ⟨ac,kt⟩ H nm (.ok { m with c:=.rt a,k:=fs++k }))
 kid:hi=true->∀(ou:Outer) (H:Hm) (nm:Nm2) (m m':Ms) (t:Tr) (e:En) (d:List Vl) (k:List Fm) (ec kc tc0 ec0 vc0 kc0:AC) (dc:List (List AC)) (kt:Nat),M0 fu ⟨ac,kt⟩ ou H nm m tc0 ec0 vc0 kc0->ER H nm e ec->VsR H nm d dc->KR H nm k kc->
  allT (FragL hi) t->gFs (G1 hi) k->k.length<=1048576->d.length=1->t.op=12∨t.op=13->kidM fu [] m (.mk t e d) k=.ok m'->AFn Tryz.prog Γ 118 [.one (.ptr (.o 0) 0),.one (.box [.box (cTr t),ec,.sl 1 dc,kc])] ou (StQ fu ⟨ac,kt⟩ H nm (.ok m'))
theorem MoreC.no{fu:Int}{ac:AC}:MoreC false fu ac Γ:=⟨(fun h=>by cases h),(fun h=>by cases h)⟩
theorem list1{α:Type}{l:List α}(h:l.length=1):∃a,l=[a]:=by
 match l,h with
 |[a],_=>exact⟨a,rfl⟩
theorem list2{α:Type}{l:List α}(h:l.length=2):∃a b,l=[a,b]:=by
 match l,h with
 |[a,b],_=>exact⟨a,b,rfl⟩
theorem Qbp{v:Vl}{n:Int}(h:wordV v=.ok n):v=.word n:=by
 cases v with
 |word m=>cases h;rfl
 |_=>cases h
theorem Qeo{m m':Ms}{n:Int}{a b v:Vl}(hn:n=0∨n=1∨n=2∨n=5∨n=6)(h:primM fu m n [a,b]=.ok (m',v)):∃x y,a=.word x/\b=.word y:=by
 cases hx:wordV a with
 |error c=>
  exfalso
  rcases hn with rfl|rfl|rfl|rfl|rfl <;> simp[primM,hx,bind,Except.bind]at h
 |ok x=>
  cases hy:wordV b with
  |error c=>
   exfalso
   rcases hn with rfl|rfl|rfl|rfl|rfl <;> simp[primM,hx,hy,bind,Except.bind]at h
  |ok y=>exact⟨x,y,Qbp hx,Qbp hy⟩
theorem kidC(hΓ:∀g cs,(g,cs)∈Γ->idsL isO cs)(hac:ac.ids isO){hi:Bool}(hmore:MoreC hi fu ac Γ):KidC fu ac (G1 hi) Γ:=by
 intro ou H nm m m' t e d k ec kc tc0 ec0 vc0 kc0 dc kt h0 he hd hk ht hge hgd hle hn hgk hkb hol hx hnx
 have F:FragL hi ⟨t.op,t.n,t.binds,t.kids.map Tr.op,t.alts⟩:=Q2g ht
 have hsh:=g_sh (G1ok hi) ht
 have hopk:=g_opN (G1ok hi) ht
 have hfc:(FcT.mk ac kt).ids isO:=hac
 have hx0:kidM fu [] m (.mk t e d) k=.ok m':=hx
 by_cases hlt:d.length < opdN t
 ·obtain⟨s,hs⟩:=Q00 (Nat.lt_of_lt_of_le hlt hopk)
  have:=AFnP.okStep (Qj9 (fns:=[]) hΓ h0 hfc he hd hk hlt hs) hx0
  rwa [hx0]at this
 have hl:d.length=opdN t:=by omega
 have hnl:¬(Fm.mk t e d).done.length < opdN (Fm.mk t e d).t:=hlt
 obtain⟨o,n,b,ks,al⟩:=t
 simp only[Tr.op,Tr.n,Tr.binds,Tr.kids,Tr.alts]at F hsh
 have hops:o=3∨o=4∨o=6∨o=7∨o=8∨(hi=true/\(o=12∨o=13)):=by
  have h1:=F.op
  unfold nLf at hn
  simp only[Tr.op]at hn
  simp only at h1
  rcases h1 with h1|h1
  ·have:o=3∨o=4∨o=6∨o=7∨o=8:=by omega
   rcases this with h|h|h|h|h <;> simp[h]
  ·exact .inr (.inr (.inr (.inr (.inr h1))))
 rcases hops with rfl|rfl|rfl|rfl|rfl|⟨hhi,h12⟩
 · -- a call
  have hopn:opdN (.mk 3 n b ks al)=ks.length:=rfl
  have hkl:=hsh.app.1
  rw[hopn]at hl
  match d,hd,hl with
  |[],_,hl=>simp at hl;omega
  |v0::ds,hd,hl=>
   obtain⟨c0,dcs,rfl,hv0,hds⟩:=hd.consE
   have hcm:callM [] { m with k:=k } v0 ds=.ok m':=by
    unfold kidM at hx0
    rw[if_neg hnl]at hx0
    exact hx0
   refine kid_app hΓ h0 hfc he hv0 hds hk (by simpa using hl) rfl (fun ou' h0'=>?_)
   have hno:(∀t e,v0≠.clo t e)->(∀fs,v0≠.res fs)->False:=fun h1 h2=>by
    cases v0 with
    |clo t e=>exact h1 _ _ rfl
    |res fs=>exact h2 _ rfl
    |cap n s=>exact absurd hgd.1.1.2 (by show ¬(n < 0);have:=hgd.1.1.1;omega)
    |_=>cases hcm
   cases v0 with
   |clo t' e'=>
    obtain⟨g1,g2,g3⟩:=hgd.1
    have F':FragL hi ⟨t'.op,t'.n,t'.binds,t'.kids.map Tr.op,t'.alts⟩:=Q2g g2
    have hsh':=g_sh (G1ok hi) g2
    rw[g1]at hsh'
    obtain⟨s,hs⟩:=Q00 (l:=t'.kids) (i:=0) (by have:=hsh'.lam.1;omega)
    cases hv0 with
    |clo _ _ c he'=>
     have hco:Q92 fu ⟨ac,kt⟩ [] ou' H nm m k (.clo t' e') (iB tClo [.box (cTr t'),c]) ds dcs Γ:=Qjr hΓ h0' hfc hk he' hds hs F'.bl
     have:=AFnP.okStep hco hcm
     rwa [hcm]at this
    |cloP _ _ c q hq he'=>
     have hco:Q92 fu ⟨ac,kt⟩ [] ou' H nm m k (.clo t' e') (.ifc tClo false [.ptr (.o q) 0]) ds dcs Γ:=Qhq hΓ h0' hfc hk hq he' hds hs F'.bl
     have:=AFnP.okStep hco hcm
     rwa [hcm]at this
   |res fs=>
    have hR:hi=true:=hgd.1.1
    match ds,hds,hcm with
    |[a],hds,hcm=>
     obtain⟨c,ds2,rfl,hva,hnil⟩:=hds.consE
     have hz:=hnil.nilE
     subst hz
     cases hcm
     exact hmore.res hR ou' H nm m k fs kc tc0 ec0 vc0 kt _ a c h0' hk hv0 hva hgd.1.2 (hnx hR)
    |[],_,hcm=>cases hcm
    |_::_::_,_,hcm=>cases hcm
   |_=>exact (hno (by simp) (by simp)).elim
 · -- a let
  obtain⟨v,rfl⟩:=list1 (l:=d) hl
  obtain⟨hk2,hb1,_⟩:=hsh.lett
  obtain⟨id,rfl⟩:=list1 hb1
  obtain⟨s0,s1,rfl⟩:=list2 hk2
  have:=AFnP.okStep (kid_let (fns:=[]) (t:=.mk 4 n [id] [s0,s1] al) (s:=s1) (id:=id) hΓ h0 hfc he hd hk (v:=v) rfl rfl rfl rfl) hx0
  rwa [hx0]at this
 · -- a constructor
  have hp:({ m with k:=k,c:=.rt (.obj n d) }:Ms)=m':=by
   unfold kidM at hx0
   rw[if_neg hnl]at hx0
   cases hx0;rfl
  subst hp
  exact Qaz hΓ h0 hfc he hd hk hl (by simp[Tr.op]) fun ou' h0'=>Qg3 hΓ h0' hd rfl
 · -- a choice
  obtain⟨v,rfl⟩:=list1 (l:=d) hl
  have hcm:Q2q { m with k:=k } (.mk 7 n b ks al) e v=.ok m':=by
   unfold kidM at hx0
   rw[if_neg hnl]at hx0
   exact hx0
  refine Qja hΓ h0 hfc he hd hk rfl rfl (fun ou' h0'=>?_)
  have:=AFnP.okStep (Qho (t:=.mk 7 n b ks al) hΓ h0' hfc he hd hk (v:=v) rfl hsh.case.1 F.al F.ab kc hk.ids) hcm
  rwa [hcm]at this
 · -- a primitive
  have hpn:=hsh.prim
  have hopn:opdN (.mk 8 n b ks al)=ks.length:=rfl
  rw[hopn]at hl
  have hpm:(Q3z fu { m with k:=k } (.mk 8 n b ks al) d).map (fun (m',v)=>{ m' with c:=.rt v })=.ok m':=by
   unfold kidM at hx0
   rw[if_neg hnl]at hx0
   exact hx0
  have hpm2:Q3z fu { m with k:=k } (.mk 8 n b ks al) d=primM fu { m with k:=k } n d:=rfl
  rw[hpm2]at hpm
  cases hpr:primM fu { m with k:=k } n d with
  |error c=>rw[hpr]at hpm;cases hpm
  |ok mv=>
   obtain⟨m1,v⟩:=mv
   rw[hpr]at hpm
   cases hpm
   have hpk:=(Q48 (fu:=fu) (m:={ m with k:=k }) (t:=.mk 8 n b ks al) (l:=d) (m':=m1) (v:=v) hpr).2.2
   have hfin:({ m1 with c:=.rt v }:Ms)={ m1 with c:=.rt v,k:=k }:=by cases m1;simp only at hpk;rw[hpk]
   show AFn Tryz.prog Γ 118 _ ou (StQ fu ⟨ac,kt⟩ H nm (.ok { m1 with c:=.rt v }))
   rw[hfin]
   refine Qaz hΓ h0 hfc he hd hk hl (by simp[Tr.op]) fun ou' h0'=>Qeq hΓ hd rfl ?_
   rcases F.pr rfl with hn2|hn2|hn2|hn2|hn2|h7
   iterate 5
    ·have hn5:n=0∨n=1∨n=2∨n=5∨n=6:=by simp only at hn2;omega
     have hk2:ks.length=2:=by
      have:=hpn.2.2.1
      simp only at hn2
      subst hn2
      simp[Q4e]at this
      omega
     obtain⟨x0,y0,rfl⟩:=list2 (l:=d) (by omega)
     obtain⟨x,y,rfl,rfl⟩:=Qeo hn5 hpr
     obtain⟨c0,d1,rfl,hv0,hd1⟩:=hd.consE
     obtain⟨c1,d2,rfl,hv1,hd2⟩:=hd1.consE
     have hz:=hd2.nilE
     subst hz
     have e0:=hv0.wordE
     have e1:=hv1.wordE
     subst e0;subst e1
     obtain⟨hm1,c,hvc,hpa⟩:=Qiq (Γ:=Γ) (H:=H) (nm:=nm) hΓ hn5 hgd.1 hgd.2.1 hpr ou'
     subst hm1
     refine AFn.mono hpa fun r ou2 hq=>?_
     obtain⟨rfl,rfl⟩:=hq
     exact⟨kt,H,nm,c,rfl,.refl _ _,hvc,⟨h0'.ids,h0'.m0,h0'.w⟩⟩
   ·simp only at h7
    subst h7
    have hk1:ks.length=1:=by have:=hpn.2.2.1;simp[Q4e]at this;omega
    obtain⟨x0,rfl⟩:=list1 (l:=d) (by omega)
    cases hx1:wordV x0 with
    |error c=>simp[primM,hx1,bind,Except.bind]at hpr
    |ok a=>
     have e0:=Qbp hx1
     subst e0
     simp only[primM,wordV,List.getD_cons_zero,bind,Except.bind,pure,Except.pure,if_true,if_neg (show ¬(7:Int)=0 by decide),if_neg (show ¬(7:Int)=1 by decide),if_neg (show ¬(7:Int)=2 by decide),if_neg (show ¬(7:Int)=3 by decide),if_neg (show ¬(7:Int)=4 by decide),if_neg (show ¬(7:Int)=5 by decide),if_neg (show ¬(7:Int)=6 by decide)]at hpr
     split at hpr
     ·cases hpr
     rename_i hne
     cases hpr
     obtain⟨c0,d1,rfl,hv0,hd1⟩:=hd.consE
     have hz:=hd1.nilE
     subst hz
     have e0:=hv0.wordE
     subst e0
     refine AFn.mono (Qep hΓ h0' hfc a hol hne) fun r ou2 hq=>?_
     obtain⟨kt2,H1,nm1,c,q1,q2,q3,q4⟩:=hq
     exact⟨kt2,H1,nm1,c,q1,q2,q3,⟨q4.ids,q4.m0,q4.w⟩⟩
 · -- an operation, a handler
  have hl1:d.length=1:=by rw[hl];exact if_pos (show o=4∨o=7∨o=13∨o=12 by omega)
  exact hmore.kid hhi ou H nm m m' _ e d k ec kc tc0 ec0 vc0 kc0 dc kt h0 he hd hk ht hgk (hkb hhi) hl1 h12 hx0
theorem startC(hΓ:∀g cs,(g,cs)∈Γ->idsL isO cs)(hac:ac.ids isO){hi:Bool}(hk:KidC fu ac (G1 hi) Γ):StartC fu ac (G1 hi) Γ:=by
 intro ou H nm m m' t e ec vc kc kt h0 he hkr ht hge hgk hkb hol hx hnx
 have F:FragL hi ⟨t.op,t.n,t.binds,t.kids.map Tr.op,t.alts⟩:=Q2g ht
 have hsh:=g_sh (G1ok hi) ht
 have hfc:(FcT.mk ac kt).ids isO:=hac
 have hx0:Q29 fu [] m t e=.ok m':=hx
 by_cases e0:t.op=0
 ·have:=Qfm hΓ h0 hfc he hkr e0
  unfold Q29 at hx0;rw[if_pos e0]at hx0;cases hx0;exact this
 by_cases e1:t.op=1
 ·have:=Qfq hΓ h0 hfc hkr e1
  unfold Q29 at hx0;rw[if_neg e0,if_pos e1]at hx0;cases hx0;exact this
 by_cases e2:t.op=2
 ·have:=Qfp hΓ h0 hfc he hkr e2
  unfold Q29 at hx0;rw[if_neg e0,if_neg e1,if_pos e2]at hx0;cases hx0;exact this
 by_cases e17:t.op=17
 ·unfold Q29 at hx0;rw[if_neg e0,if_neg e1,if_neg e2,if_pos e17]at hx0;cases hx0
 by_cases e5:t.op=5
 ·rw[e5]at hsh
  have:=Qfn hΓ h0 hfc he hkr e5 hsh.recs.1 F.bl
  unfold Q29 at hx0;rw[if_neg e0,if_neg e1,if_neg e2,if_neg e17,if_pos e5]at hx0;cases hx0;exact this
 ·have hx1:kidM fu [] m (.mk t e []) m.k=.ok m':=by
   unfold Q29 at hx0;rw[if_neg e0,if_neg e1,if_neg e2,if_neg e17,if_neg e5]at hx0;exact hx0
  have hnl:nLf t.op:=fun h=>by rcases h with h|h|h|h|h <;> contradiction
  exact Qfr hΓ h0 he hkr hnl (hk ou H nm m m' t e [] m.k ec kc _ _ _ _ [] kt h0 he .nil hkr ht hge trivial (Nat.zero_le _) hnl hgk hkb hol hx1 hnx)
end
theorem idle_ok(a b c d:Value)(w:World):CallsD Tryz.prog 93 #[a,b,c,d] .returning w fun e u' w'=>(∃v,e=.returned v)/\u'=.returning/\w'=w:=by
 refine callsD_of_wpS Tryz.func93 rfl fun c₀ cs hu=>?_
 apply wpS_seq
 apply wpS_region
 simp[wpOpsS,go_sem,recoverD,hu,Tryz.ntmps93,Exit.thenS]
 apply wpS_seq
 apply wpS_region
 simp[wpOpsS,go_sem,recoverD,hu,Exit.thenS]
 refine wpS_cond (t:=false) (by simp[Act.eval,Array.replicate]) ?_
 simp only[Bool.false_eq_true,if_false]
 refine wpS_of_wp (wp_skip ?_)
 cases c₀
 simp_all[bodyPostS,results,Tryz.results93]
section
variable {fu:Int}{ac:AC}{G:GP}
theorem Qia(hΓ:∀g cs,(g,cs)∈Γ->idsL isO cs){ou:Outer}{mf:Ms}{vf:Vl}{kt0:Nat}
  (hrun:AFn Tryz.prog Γ 94 [.one (.ptr (.o 0) 0)] ou (fun r ou'=>r=.one (.lit (.bool true))/\mf.c=.rt vf/\mf.k=[]/\∃H' nm',MR fu ⟨ac,kt0⟩ ou' H' nm' mf)):
  AFn Tryz.prog Γ 63 [.one (.ptr (.o 0) 0)] ou (fun r ou'=>r=.tup [.agg [.sl 1 (mf.out.map cI),int 0,int (lastV vf)],.one (int mf.steps),.one (int 0)]):=by
 refine AFn.ofDefer (gd:=93) (d5:=5) (first:=[]) (caps:=[.ptr (.l 0) 0,.ptr (.l 1) 0,.ptr (.l 2) 0,.ptr (.l 3) 0]) (fr1:=[(4,.one (.ptr (.l 3) 0)),(3,.one (.ptr (.l 2) 0)),(2,.one (.ptr (.l 1) 0)),(1,.one (.ptr (.l 0) 0)),(0,.one (.ptr (.o 0) 0))])
  (σ1 := ⟨4, [(3, .cells [int 0]), (2, .cells [int 0]), (1, .cells [.lit (.slice none 0 0), int 0, int 0]), (0, .cells [.ptr (.o 0) 0])], ou⟩)
  tabOk Tryz.func63 rfl (by kernel_rfl) (by decide) ?_ rfl rfl (by decide) (AStep.ofOp tabOk rfl) rfl rfl rfl ?_ ?_
 ·intro hou
  refine zA ?_
  exact⟨rfl,rfl,rfl⟩
 ·intro us w
  refine⟨?_,fun hs=>?_⟩
  ·simp[callFunc,Tryz.func93,Tryz.f93]
  ·obtain⟨l⟩:=us
   match l,hs with
   |[a,b,c,d],_=>exact idle_ok a b c d w
 ·intro hou ds
  refine zA ?_
  refine AOps.call1 hΓ rfl rfl rfl rfl rfl rfl rfl ⟨trivial,trivial⟩ hou hrun fun r ou' hq _ how=>?_
  obtain⟨rfl,hc,hk,H',nm',hM⟩:=hq
  obtain⟨kt,tc,ec,vc,kc,hCR,hKR,h0⟩:=hM.ex
  rw[hc]at hCR
  cases hCR with
  |rt _ ec vc hv=>
   have hvi:=hv.ids
   have hoX:=h0.ouX
   rw[hoX]at how ⊢
   refine zA ?_
   refine ACode.drawSt tabOk 15 14 [(8,.one (int (lastV vf)))] _ follows (by kernel_rfl) rfl rfl (by kernel_rfl) rfl ?_ rfl rfl rfl rfl ?_ ?_ (AStep.ofStore tabOk rfl) ?_
   ·rfl
   ·exact⟨⟨_,rfl,AStep.callPure hΓ rfl rfl rfl ⟨hvi,trivial⟩ how (Qgk hv)⟩,trivial⟩
   ·exact⟨⟨_,rfl,AStep.callPure hΓ rfl rfl rfl ⟨hvi,trivial⟩ how (Qgk hv)⟩,trivial⟩
   refine zA ?_
   exact AFn.fin' rfl (WkF.tup (.cons (.agg (.cons (.gsE rfl) (.cons (.refl _) (.cons (.refl _) .nil)))) (.cons (.refl _) (.cons (.refl _) .nil)))) (by simp) how rfl
end
abbrev nilS:AC:=.lit (.slice none 0 0)
structure RunsTo (hi:Bool)(fu:Int)(e:List Ex)(mf:Ms)(vf:Vl):Prop where
 chk:check e=0
 frag:allT (FragL hi) (grow e)
 fu0:1<=fu/\fu<=1000000
 go:∃g,goX fu [] g ⟨.ev (grow e) .nil,[],[],0,[]⟩=some (.done mf vf)/\(hi=true->bndX fu [] g ⟨.ev (grow e) .nil,[],[],0,[]⟩=true)
 out:mf.out.length<=1000
 st:mf.steps<=fu
theorem MR_init(t:Tr)(fu:Int):MR fu ⟨nilS,1⟩ (ouOf [.cells (mC (.box (cTr t)) nilPE (.lit .nilIface) nilPE [] 0 fu ⟨nilS,1⟩),.tok 3 1 0]) (fun _=>none) [] ⟨.ev t .nil,[],[],0,[]⟩:=by
 refine⟨⟨1,_,_,_,_,.ev t .nil nilPE (.lit .nilIface) .nil,.nil,⟨⟨by simp,trivial,trivial,trivial⟩,rfl,⟨fun k cs hk=>(by cases hk),fun k o hk=>?_,rfl,fun a k n h=>(by simp at h),fun a k n h=>rfl,fun a b k n n' h=>(by simp at h),⟨rfl,fun a k n h=>(by simp at h)⟩,fun cs hc es i hi=>?_,fun k o hk=>?_⟩⟩⟩⟩
 ·match k,hk with
  |0,hk=>cases hk;exact⟨by simp,trivial,trivial,trivial,⟨trivial,trivial⟩,trivial,trivial,trivial,trivial⟩
  |1,hk=>cases hk;trivial
  |k+2,hk=>simp[ouOf]at hk
 ·cases hc
  cases hi
  exact⟨1,rfl,Nat.le_refl _,rfl,rfl,fun a k n h=>by simp at h⟩
 ·match k,hk with
  |0,hk=>cases hk;trivial
  |1,hk=>cases hk;trivial
  |k+2,hk=>simp[ouOf]at hk
theorem Run_ok{hi:Bool}{fu:Int}{e:List Ex}{mf:Ms}{vf:Vl}(hm:MoreC hi fu nilS Γc)(he:okB e)(h:RunsTo hi fu e mf vf):
  APure Tryz.prog Γc 34 [.one (.sl 5 (e.map cEx)),.one (int fu)] (.tup [.agg [.sl 1 (mf.out.map cI),int 0,int (lastV vf)],.one (int mf.steps),.one (int 0)]):=by
 have t1:=Q19 h.chk
 have c1:=Q5v e he
 rw[h.chk]at c1
 obtain⟨g,hg,hgb⟩:=h.go
 have hM0:=MR_init (grow e) fu
 have hkc:=kidC hΓc (fu:=fu) (ac:=nilS) trivial hm
 have hsc:=startC hΓc (fu:=fu) (ac:=nilS) trivial hkc
 have hgm:gM (G1 hi) ⟨.ev (grow e) .nil,[],[],0,[]⟩:=⟨⟨h.frag,trivial⟩,trivial,fun r hr=>by cases hr⟩
 have hrun:=run_ok hΓc (ac:=nilS) trivial (G1ok hi) (fun t ht=>G1opn ht) hkc hsc hM0 hgm hg hgb h.out ⟨by have:=h.fu0;omega,h.fu0.2⟩ (by simp) h.st
 have hwh0:=Qia (ac:=nilS) (kt0:=1) hΓc hrun
 have hwh:AFn Tryz.prog Γc 63 [.one (.ptr (.o 0) 0)] (ouOf [.cells (mC (.box (cTr (grow e))) nilPE (.lit .nilIface) nilPE [] 0 fu ⟨nilS,1⟩),.tok 3 1 0]) (fun r ou'=>r=.tup [.agg [.sl 1 (mf.out.map cI),int 0,int (lastV vf)],.one (int mf.steps),.one (int 0)]/\ou'=ouOf [.dead,.dead]):=by
  refine AFn.forgetD (AFn.mono hwh0 fun r ou' hq=>⟨ouOf [.dead,.dead],fun m o hmo=>?_,hq,rfl⟩)
  match m,hmo with
  |0,hmo=>cases hmo;exact .inr ⟨rfl,_,rfl⟩
  |1,hmo=>cases hmo;exact .inr ⟨rfl,_,rfl⟩
  |m+2,hmo=>simp[ouOf]at hmo
 intro ou
 refine AFn.walk 30 tabOk Tryz.func34 rfl (by kernel_rfl) rfl rfl fun hou=>?_
 refine zA ?_
 refine zca hΓc c1 hou ?_
 refine zA ?_
 have hf1:decide (fu < 1)=false:=by have:=h.fu0;simp;omega
 have hf2:decide (fu > 1000000)=false:=by have:=h.fu0;simp;omega
 refine AOps.wk 16 rfl (y:=.one (.lit (.bool false))) (.ofEq (by show FV.one (.lit (.bool (decide (fu < 1))))=_;rw[hf1])) ?_
 refine zM ?_
 refine ACode.cond rfl (fun hb=>absurd (show 1000000 < fu by simpa using hb) (by have:=h.fu0;omega)) (fun _=>?_)
 refine zM ?_
 refine zca hΓc (Qi5 hΓc e he.eo t1.k t1.ne) hou ?_
 repeat ((fail_if_success ((with_reducible refine oj ?_);refine AOps.atDst 26 rfl ?_));first|refine zO ?_)
 refine AOps.growO 1 4 3 1 rfl rfl ?_
 refine AOps.callR [.l 1,.l 2] [.one (.ptr (.o 0) 0)] [.cells (mC (.box (cTr (grow e))) nilPE (.lit .nilIface) nilPE [] 0 fu ⟨nilS,1⟩),.tok 3 1 0] hΓcF rfl rfl rfl rfl rfl rfl ?_ ?_ ?_ ?_ ?_ hwh ?_
 ·rfl
 ·simp[inO]
 ·simp
 ·refine⟨?_,rfl,trivial⟩
  simp only[AObj.sub,mC,subL,AC.sub,nameOf,List.map_nil,subS]
  rw[Q23 _ _ (by simp)]
  rfl
 ·simp[inO,mC]
 intro r ou' hq
 obtain⟨rfl,rfl⟩:=hq
 refine⟨[.dead,.dead],rfl,rfl,by simp,by simp,?_⟩
 rw[show FV.sub (nameOf [.l 1,.l 2]) (.tup [.agg [.sl 1 (mf.out.map cI),int 0,int (lastV vf)],.one (int mf.steps),.one (int 0)])=.tup [.agg [.sl 1 (mf.out.map cI),int 0,int (lastV vf)],.one (int mf.steps),.one (int 0)]from FV.sub_pure _ _ (by simp)]
 refine zA ?_
 exact APure.fin rfl (WkF.ofEq rfl) (by simp) hou rfl
def fragB (hi:Bool)(l:Lab):Bool:=
 Go.CoreX.shape ⟨l.op,l.n,l.binds,l.ops,l.alts⟩&&((decide (0<=l.op)&&decide (l.op<=8))||(hi&&(decide (l.op=12)||decide (l.op=13))))&&(!(decide (l.op=8))||(decide (l.n=0)||decide (l.n=1)||decide (l.n=2)||decide (l.n=5)||decide (l.n=6)||decide (l.n=7))) &&
 decide (l.binds.length<=1048576)&&decide (l.alts.length<=1048576)&&(l.alts.all fun a=>decide (a.binds.length<=1048576))&&decide (l.ops.length<=1048576)&&(!(decide (l.op=1))||(decide (-1073741824<=l.n)&&decide (l.n<=1073741823)))&&(!(decide (l.op=5))||(l.ops.take l.binds.length==List.replicate l.binds.length 2))
theorem Q27{hi:Bool}{l:Lab}(h:fragB hi l=true):FragL hi l:=by
 unfold fragB at h
 simp only[Bool.and_eq_true,Bool.or_eq_true,Bool.not_eq_true',decide_eq_true_eq,decide_eq_false_iff_not,List.all_eq_true,beq_iff_eq]at h
 obtain⟨⟨⟨⟨⟨⟨⟨⟨h1,h2⟩,h3⟩,h4⟩,h5⟩,h6⟩,h7⟩,h8⟩,h9⟩:=h
 refine⟨shpQ_of h1,?_,fun h=>?_,h4,h5,h6,h7,fun h=>?_,fun h i hi=>?_⟩
 ·rcases h2 with h2|⟨h2,h3⟩
  ·exact .inl h2
  ·exact .inr ⟨h2,h3⟩
 ·rcases h3 with h3|h3
  ·exact absurd h h3
  ·omega
 ·rcases h8 with h8|h8
  ·exact absurd h h8
  ·exact h8
 ·rcases h9 with h9|h9
  ·exact absurd h h9
  ·have:=congrArg (fun r=>r[i]?) h9
   simp only[List.getElem?_take_of_lt hi,List.getElem?_replicate,if_pos hi]at this
   exact this
theorem Q6g{H:Type}:∀l:List (DataW H),Rows.uptoBulkAll l=Q34 Rows.uptoBulk l
 |[]=>rfl
 |d::l=>by simp only[Rows.uptoBulkAll,Q34,List.map_cons,List.sum_cons]at *;rw[Q6g l];rfl
theorem Qeb{H:Type}(l:List (DataW H)):Q34 Rows.uptoBulk l+1<=Rows.uptoBulk (.agg l):=by
 simp only[Rows.uptoBulk,Q6g];omega
theorem Qf8{H:Type}(l r:List (DataW H)):Q34 Rows.uptoBulk l+1<=Rows.uptoBulk (.slice l r):=by
 simp only[Rows.uptoBulk,Q6g];omega
theorem Qjt{H:Type}:1<=Rows.uptoBulk (DataW.nil:DataW H):=by simp[Rows.uptoBulk]
section
variable {H:Type}{enc:TypeId×Value->H}{w:World}
abbrev I64:={i:Int // IntKind.i64.min<=i/\i<=IntKind.i64.max}
theorem Q5e(n:Nat):Opens enc Tryz.prog w Rows.uptoBulk 3 n (fun i:I64=>[int i.1]) (fun _=>1):=by
 intro cs x h
 obtain⟨i,rfl,rfl,hw⟩:=DataW.trod_int Tryz.underlying3 h
 refine⟨⟨i,?_⟩,⟨_,_,rfl,⟨rfl,rfl⟩,rfl⟩,by simp[Rows.uptoBulk]⟩
 simpa[Lit.wf]using hw
theorem Q50{t e:TypeId}{s:Nat}(ht:Tryz.prog.underlying t=some (.slice e))(hs:Tryz.prog.cellsOf e=s)(h0:0 < s){α:Type}{c:α->List AC}{wt:α->Nat}(n:Nat)(he:∀m,m < n->Opens enc Tryz.prog w Rows.uptoBulk e m c wt):
  Opens enc Tryz.prog w Rows.uptoBulk t n (fun l:List α=>[.sl s (l.map c)]) (fun l=>wtAll wt l+1):=by
 cases n with
 |zero=>exact Opens.zero
 |succ n=>exact Opens.slice Qf8 Qjt ht hs h0 (he n (by omega))
theorem wt_one{α:Type}(l:List α):wtAll (fun _=>1) l=l.length:=by
 unfold wtAll
 induction l with
 |nil=>rfl
 |cons a l ih=>simp only[List.map_cons,List.sum_cons,List.length_cons,ih];omega
theorem Q5z(n:Nat):Opens enc Tryz.prog w Rows.uptoBulk 28 n (fun l:List Int=>[.sl 1 (l.map cI)]) (fun l=>l.length+1):=by
 refine Opens.as (Q50 Tryz.underlying28 (s:=1) (by kernel_rfl) (by omega) n (fun m _=>Q5e m)) fun l=>⟨l.map (·.1),?_,?_⟩
 ·simp only[List.map_map];rfl
 ·rw[wt_one];simp
def bAlt (a:Alt):Nat:=a.binds.length+3
def bAlts (l:List Alt):Nat:=(l.map bAlt).sum
def bEx (x:Ex):Nat:=x.binds.length+x.kids.length+bAlts x.alts+6
def bExs (l:List Ex):Nat:=(l.map bEx).sum
theorem Qiu(n:Nat):Opens enc Tryz.prog w Rows.uptoBulk 51 n cAlt bAlt:=by
 cases n with
 |zero=>exact Opens.zero
 |succ n=>
  refine Opens.as (Opens.struct Qeb Tryz.underlying51 (.cons rfl (by kernel_rfl) (Q5e n) (fun _=>rfl) (.cons rfl (by kernel_rfl) (Q5z n) (fun _=>rfl) (.nil _))) (fun _=>(show (2:Nat)=_ by kernel_rfl))) ?_
  rintro⟨i,l,_⟩
  exact⟨⟨i.1,l⟩,rfl,by show l.length+3<=1+(l.length+1+0)+1;omega⟩
theorem opensEx(n:Nat):Opens enc Tryz.prog w Rows.uptoBulk 31 n cEx bEx:=by
 cases n with
 |zero=>exact Opens.zero
 |succ n=>
  have ha:=Q50 (enc:=enc) (w:=w) (t:=29) Tryz.underlying29 (s:=2) (by kernel_rfl) (by omega) n (fun m _=>Qiu m)
  refine Opens.as (Opens.struct Qeb Tryz.underlying31 (.cons rfl (by kernel_rfl) (Q5e n) (fun _=>rfl) (.cons rfl (by kernel_rfl) (Q5e n) (fun _=>rfl) (.cons rfl (by kernel_rfl) (Q5z n) (fun _=>rfl) (.cons rfl (by kernel_rfl) (Q5z n) (fun _=>rfl) (.cons rfl (by kernel_rfl) ha (fun _=>rfl) (.nil _)))))) (fun _=>(show (5:Nat)=_ by kernel_rfl))) ?_
  rintro⟨i,j,b,k,l,_⟩
  refine⟨⟨i.1,j.1,b,k,l⟩,rfl,?_⟩
  show b.length+k.length+bAlts l+6<=1+(1+(b.length+1+(k.length+1+(wtAll bAlt l+1+0))))+1
  have:wtAll bAlt l=bAlts l:=rfl
  omega
theorem Qit(n:Nat):Opens enc Tryz.prog w Rows.uptoBulk 22 n (fun l:List Ex=>[.sl 5 (l.map cEx)]) (fun l=>bExs l+1):=
 Q50 Tryz.underlying22 (s:=5) (by kernel_rfl) (by omega) n (fun m _=>opensEx m)
theorem Qio{t e:TypeId}{base:Nat}{r:Reach}{W:World}{v:Value}{C:Ctx}{c:AC}(ht:Tryz.prog.underlying t=some (.slice e))(h:Value.okWide Tryz.prog W r base t v)(hr:RV W C [c] v.cells.toList):RF W C (.one c) v:=by
 obtain⟨a,len,cap,rfl⟩:=WideShapes.okWide_slice ht h
 obtain⟨u,us,he,h1,h2⟩:=hr
 simp[Value.cells]at he
 obtain⟨rfl,rfl⟩:=he
 exact h1
end
theorem Qbr{α:Type}{f:α->Nat}:∀{l:List α}{a:α},a∈l->f a<=(l.map f).sum
 |b::l,a,h=>by
  simp only[List.map_cons,List.sum_cons]
  rcases List.mem_cons.1 h with rfl|h
  ·omega
  ·have:=Qbr (f:=f) h;omega
theorem Qbs{α:Type}{f:α->Nat}(hf:∀a,1<=f a):∀l:List α,l.length<=(l.map f).sum
 |[]=>by simp
 |b::l=>by
  have h1:=hf b
  have h2:=Qbs hf l
  simp only[List.map_cons,List.sum_cons,List.length_cons];omega
theorem Q8y:∀l:List Alt,(l.flatMap (·.binds)).length<=bAlts l
 |[]=>by simp[bAlts]
 |a::l=>by
  have:=Q8y l
  simp only[bAlts,bAlt,List.flatMap_cons,List.length_append,List.map_cons,List.sum_cons]at *
  omega
theorem okB_of{e:List Ex}(h:bExs e<=1048576):okB e:=by
 have h1:=Qbs (f:=bEx) (fun x=>by simp only[bEx];omega) e
 have hx:∀x∈e,bEx x<=1048576:=fun x hx=>by
  have h2:bEx x<=bExs e:=Qbr hx
  omega
 have h1':e.length<=bExs e:=h1
 refine⟨⟨by omega,fun x hx1=>?_⟩,fun x hx1=>?_⟩
 ·have h2:=hx x hx1
  simp only[bEx]at h2
  have h3:=Qbs (f:=bAlt) (fun a=>by simp only[bAlt];omega) x.alts
  have h3':x.alts.length<=bAlts x.alts:=h3
  refine⟨by omega,by omega,by omega,fun a ha=>?_⟩
  have h4:bAlt a<=bAlts x.alts:=Qbr ha
  simp only[bAlt]at h4
  omega
 ·have h2:=hx x hx1
  simp only[bEx]at h2
  have h3:=Q8y x.alts
  omega
theorem Qcn{W:World}(h:laidMetH Tryz.prog [("provenance/core.arity",Rows.laid_provenance_core_arity)] W):∀g cs,(g,cs)∈Γc->RG W (ctx0 W) cs g:=by
 have ht:Lib.TabIs Tryz.prog W "provenance/core.arity" .i64 [2,2,2,2,2,2,2,1,2,1,2,3]:=
  Lib.tabIs_of_head (rest:=[]) (g:=0) (t:=174) (n:=12) (by kernel_rfl) (by kernel_rfl) (by kernel_rfl) Tryz.underlying3 (by kernel_rfl) (by kernel_rfl) h
 have hg:Tryz.prog.globalNamed "provenance/core.arity" = some 0:=by kernel_rfl
 intro g cs hm
 simp[Γc]at hm
 obtain⟨rfl,rfl⟩:=hm
 exact RG.ofVar hg ht rfl
end Go.Proofs.YtmdkenkhaicbeaaGreatDoor
namespace Go.CoreX
mutual
def mxT:Tr->Int
 |.mk o n b k a=>mxTs ((Q0i o b a).foldl max (-1)) k
def mxTs (m:Int):List Tr->Int
 |[]=>m
 |t::l=>mxTs (max m (mxT t)) l
end
theorem Qc2:∀(l:List Tr)(m:Int),mxTs m l=(l.map mxT).foldl max m
 |[],_=>rfl
 |t::l,m=>by simp only[mxTs,List.map_cons,List.foldl_cons];exact Qc2 l _
theorem maxX_if(a b:Int):max a b=if b > a then b else a:=by rw[Int.max_def];split <;> split <;> omega
def mxLX (c:Int)(l:Lab):Prop:=∀n∈Q0i l.op l.binds l.alts,n<=c
theorem Qba(c:Int):∀(l:List Int)(m:Int),m<=c->(∀n∈l,n<=c)->l.foldl max m<=c
 |[],m,h,_=>h
 |x::l,m,h,hl=>by
  simp only[List.foldl_cons]
  have:=hl x (by simp)
  exact Qba c l _ (by omega) fun n hn=>hl n (by simp[hn])
mutual
theorem mxT_le(c:Int)(hc:-1<=c):∀t:Tr,Go.CoreX.allT (mxLX c) t->mxT t<=c
 |.mk o n b k a,h=>by
  simp only[mxT]
  exact Qg9 c hc k _ (Qba c _ _ hc h.1) h.2
theorem Qg9(c:Int)(hc:-1<=c):∀(l:List Tr)(m:Int),m<=c->Go.CoreX.allTs (mxLX c) l->mxTs m l<=c
 |[],m,h,_=>h
 |t::l,m,h,hl=>by
  simp only[mxTs]
  have:=mxT_le c hc t hl.1
  exact Qg9 c hc l _ (by omega) hl.2
end
theorem Qbk{e:List Ex}{x:Ex}(h:Q0k false e x=0):∀b∈Q0g x,b<=1048575:=by
 have hr:ranges x=0:=by
  unfold Q0k at h
  split at h
  ·cases h
  ·unfold Q1j at h
   split at h
   ·cases h
   ·split at h
    ·rename_i hr;exact absurd h hr
    ·rename_i hr;simpa using hr
 have hx:x.binds.all Q2e=true/\x.alts.all (Q2v x.op)=true:=by
  unfold ranges at hr
  split at hr
  ·cases hr
  split at hr
  ·cases hr
  rename_i h1
  split at hr
  ·cases hr
  rename_i h2
  exact⟨by simpa using h1,by simpa using h2⟩
 have ok:∀n,Q2e n=true->n<=1048575:=fun n hn=>by
  simp[Q2e,between]at hn;omega
 intro b hb
 unfold Q0g Q0i at hb
 rcases List.mem_append.1 hb with hb|hb
 ·split at hb
  ·exact ok b (List.all_eq_true.1 hx.1 b hb)
  ·cases hb
 ·obtain⟨a,ha,hba⟩:=List.mem_flatMap.1 hb
  have:=List.all_eq_true.1 hx.2 a ha
  unfold Q2v at this
  exact ok b (List.all_eq_true.1 (Bool.and_eq_true_iff.1 this).2 b hba)
theorem Qhp{e:List Ex}(h:check e=0):allT (mxLX 1048575) (grow e):=by
 obtain⟨_,p2,_,_⟩:=Q32 h
 exact Q7y (Q19 h) fun x hx=>Qbk (p2 x hx)
end Go.CoreX
namespace Go.Proofs.YtmdkenkhaicbeaaGreatDoor
open Go Go.Abs Go.CoreX
variable {Γ:List (Nat×List AC)}
theorem Q8u{l:List Int}{i:Nat}{n m:Int}(h:l[i]?=some n):(l.take (i+1)).foldl max m=if n > (l.take i).foldl max m then n else (l.take i).foldl max m:=by
 rw[Q0n h,List.foldl_append];exact maxX_if _ _
def MxOk (Γ:List (Nat×List AC))(t:Tr):Prop:=APure Tryz.prog Γ 45 [.one (.box (cTr t))] (.one (int (mxT t)))
theorem Qej(hΓ:∀g cs,(g,cs)∈Γ->idsL isO cs):∀t:Tr,okT t->MxOk Γ t
 |.mk o n b ks a,hok=>by
  have ih:∀t∈ks,MxOk Γ t:=fun t ht=>Qej hΓ t (Q36.1 hok.2.2.2.2 t ht)
  have hk:ks.length<=1048576:=hok.2.1
  have hbl:Q6h (.mk o n b ks a)<=4194304:=by
   have h1:=hok.1
   have h2:=hok.2.2.2.1.2
   unfold Q6h
   simp only[Tr.binds,Tr.alts]
   omega
  have hB:=Q93 hΓ (.mk o n b ks a) hbl hok.2.2.1
  have hbn:(Q0i o b a).length<=4194304:=by
   unfold Q6h at hbl
   simp only[Tr.binds,Tr.alts]at hbl
   unfold Q0i
   rw[List.length_append]
   split
   ·exact hbl
   ·simp only[List.length_nil];omega
  have hm:mxT (.mk o n b ks a)=(ks.map mxT).foldl max ((Q0i o b a).foldl max (-1)):=by simp only[mxT,Qc2]
  intro ou
  rw[hm]
  clear hm
  obtain⟨bn,hbe⟩:∃bn,bn=Q0i o b a:=⟨_,rfl⟩
  rw[show Q0i (Tr.mk o n b ks a).op (Tr.mk o n b ks a).binds (Tr.mk o n b ks a).alts=bn from hbe.symm]at hB
  rw[←hbe]at hbn ⊢
  clear hbe hbl
  refine AFn.walk 34 tabOk Tryz.func45 rfl (by kernel_rfl) rfl rfl fun hou=>?_
  refine zA ?_
  refine zca hΓ hB hou ?_
  refine zA ?_
  refine ACode.loopR hΓ (α:=Nat) (fun i=>[(11,.one (int i)),(10,.one (int (bn.map cI).length)),(9,.one (.sl 1 (bn.map cI))),(3,.one (int ((bn.take i).foldl max (-1)))),(0,.one (.box (cTr (.mk o n b ks a))))])
   (fun i=>⟨0,[],ou⟩) (fun m i=>i<=bn.length/\m=bn.length - i) (a0:=0) (ρ:=id) ⟨by omega,rfl⟩ (LessR.of rfl zFS (by simp) zLO rfl rfl hou) fun m i hi=>?_
  obtain⟨hil,rfl⟩:=hi
  refine zA ?_
  refine ACode.cond rfl (fun hb3=>?_) (fun hb3=>?_)
  ·have hlt2:i < bn.length:=by simpa using hb3
   obtain⟨q,hn⟩:=Q00 hlt2
   have hsm:=Q8u (m:=-1) hn
   refine zA ?_
   refine zS (zIA rfl rfl rfl (by omega) (Q0a hn)) ?_
   refine zM ?_
   refine cInv ⟨bn.length - (i+1),i+1,id,by omega,⟨by omega,rfl⟩,?_⟩
   simp only[hsm]
   exact LessR.of rfl zFS (by simp) zLO rfl rfl hou
  have hlt:i=bn.length:=by simp at hb3;omega
  subst hlt
  rw[List.take_length]
  generalize bn.foldl max (-1)=m0
  refine zA ?_
  refine ACode.loopR hΓ (α:=Nat) (fun i=>[(24,.one (int i)),(23,.one (int (Q05 ks).length)),(22,.one (.sl 1 (Q05 ks))),(3,.one (int (((ks.map mxT).take i).foldl max m0)))])
   (fun i=>⟨0,[],ou⟩) (fun m i=>i<=ks.length/\m=ks.length - i) (a0:=0) (ρ:=id) ⟨by omega,rfl⟩ (LessR.of rfl zFS (by simp) zLO rfl rfl hou) fun m i hi=>?_
  obtain⟨hil,rfl⟩:=hi
  refine zA ?_
  refine ACode.cond rfl (fun hb3=>?_) (fun hb3=>?_)
  ·have hlt2:i < ks.length:=by simpa using hb3
   obtain⟨t,ht⟩:=Q00 hlt2
   have hsm:=Q8u (l:=ks.map mxT) (n:=mxT t) (m:=m0) (i:=i) (by simp[ht])
   refine zA ?_
   refine zS (zIA rfl rfl rfl (by omega) (Q0s ht)) ?_
   refine zA ?_
   refine zca hΓ (ih t (List.mem_of_getElem? ht)) hou ?_
   refine zM ?_
   refine cInv ⟨ks.length - (i+1),i+1,id,by omega,⟨by omega,rfl⟩,?_⟩
   simp only[hsm]
   exact LessR.of rfl zFS (by simp) zLO rfl rfl hou
  have hlt:i=ks.length:=by simp[Q0q]at hb3;omega
  subst hlt
  rw[show (ks.map mxT).take ks.length=ks.map mxT from List.take_of_length_le (by simp)]
  refine zA ?_
  exact APure.fin rfl (WkF.ofEq rfl) (by simp) hou rfl
end Go.Proofs.YtmdkenkhaicbeaaGreatDoor
namespace Go.CoreX
-- How often an identifier occurs.
mutual
def occN (id:Int):Tr->Int
 |.mk o n _ k _=>if o=0/\n=id then 1 else occNs id k
def occNs (id:Int):List Tr->Int
 |[]=>0
 |t::l=>occN id t+occNs id l
end
-- The innermost nodes in tail position.
mutual
def tlT:Tr->List Tr
 |.mk o n b k a=>if o=4∨o=5 then tlL k else if o=7 then tlC k else [.mk o n b k a]
def tlL:List Tr->List Tr
 |[]=>[]
 |[t]=>tlT t
 |_::u::l=>tlL (u::l)
def tlC:List Tr->List Tr
 |[]=>[]
 |_::l=>tlA l
def tlA:List Tr->List Tr
 |[]=>[]
 |t::l=>tlT t++tlA l
end
-- Each of them replaced.
mutual
def mpT (g:Tr->Tr):Tr->Tr
 |.mk o n b k a=>if o=4∨o=5 then .mk o n b (mpL g k) a else if o=7 then .mk o n b (mpC g k) a else g (.mk o n b k a)
def mpL (g:Tr->Tr):List Tr->List Tr
 |[]=>[]
 |[t]=>[mpT g t]
 |t::u::l=>t::mpL g (u::l)
def mpC (g:Tr->Tr):List Tr->List Tr
 |[]=>[]
 |t::l=>t::mpA g l
def mpA (g:Tr->Tr):List Tr->List Tr
 |[]=>[]
 |t::l=>mpT g t::mpA g l
end
def kdT (t:Tr)(i:Nat):Tr:=t.kids.getD i default
def callsT (id:Int)(ps:Int)(t:Tr):Bool:=(((t.op==3&&(kdT t 0).op==0)&&(kdT t 0).n==id)&&(t.kids.length:Int)==ps+1)&&occN id t==1
def jmpT (j id ps:Int)(x:Tr):Tr:=if callsT id ps x=true then x else .mk 3 0 [] [.mk 0 j [] [] [],x] []
end Go.CoreX
namespace Go.CoreX
theorem Q3v{t:Tr}:∀{l:List Tr},t∈l->cntN t<=cntNs l
 |u::l,h=>by
  rcases List.mem_cons.1 h with rfl|h
  ·simp only[cntNs];omega
  ·have:=Q3v h;simp only[cntNs];omega
end Go.CoreX
namespace Go.Proofs.YtmdkenkhaicbeaaGreatDoor
open Go Go.Abs Go.CoreX
variable {Γ:List (Nat×List AC)}
theorem kdT_get{t k:Tr}{i:Nat}(h:t.kids[i]?=some k):kdT t i=k:=by unfold kdT;rw[List.getD_eq_getElem?_getD,h];rfl
end Go.Proofs.YtmdkenkhaicbeaaGreatDoor
namespace Go.CoreX
end Go.CoreX
namespace Go.Proofs.YtmdkenkhaicbeaaGreatDoor
open Go Go.Abs Go.CoreX
variable {Γ:List (Nat×List AC)}
def capC (id:Int)(T:Tr):List AC:=[.box [int id],.box [.box (cTr T)],.ptr (.o 0) 0]
def cloC (id:Int)(T:Tr):AC:=.fn (.func 105) [] (capC id T)
@[simp] theorem ids_cloC (id:Int) (T:Tr):(cloC id T).ids isO:=by simp[cloC,capC,AC.ids,idsL,isO]
@[simp] theorem ids_cloC_l (k:Nat) (id:Int) (T:Tr):(cloC id T).ids (inL k):=by simp[cloC,capC,AC.ids,idsL,inL]
structure TrG (t:Tr):Prop where
 ok:okT t
 sz:cntN t<=1099511627776
 sh:allT shpQ t
theorem TrG.kid{t s:Tr}(h:TrG t)(hs:s∈t.kids):TrG s:=by
 obtain⟨o,n,b,k,a⟩:=t
 have h1:=h.sz
 have h2:=Q3v hs
 simp only[cntN,Tr.kids_mk]at h1 h2
 exact⟨Q36.1 h.ok.2.2.2.2 s hs,by omega,Qa7 h.sh hs⟩
theorem TrG.kl{t:Tr}(h:TrG t):t.kids.length<=1048576:=by
 obtain⟨o,n,b,k,a⟩:=t
 exact h.ok.2.1
theorem TrG.bl{t:Tr}(h:TrG t):t.binds.length<=1048576:=by
 obtain⟨o,n,b,k,a⟩:=t
 exact h.ok.1
structure UpdL (ou:Outer)(L:List (Nat×AObj))(ou':Outer)(L':List (Nat×AObj)):Prop where
 own:Owns ou' L'
 nd:(keys L').Nodup
 new:∀k∈keys L',k∈keys L∨ou k=none
 old:∀k,k∉keys L->ou k≠none->ou' k=ou k
 ok:OuOk ou'
theorem UpdL.refl{ou:Outer}{L:List (Nat×AObj)}(h:Owns ou L)(hn:(keys L).Nodup)(ho:OuOk ou):UpdL ou L ou L:=⟨h,hn,fun k hk=>.inl hk,fun _ _ _=>rfl,ho⟩
theorem UpdL.trans{ou ou1 ou2:Outer}{L L1 L2:List (Nat×AObj)}(h:UpdL ou L ou1 L1)(k:UpdL ou1 L1 ou2 L2):UpdL ou L ou2 L2 where
 own:=k.own
 nd:=k.nd
 new:=fun j hj=>by
  rcases k.new j hj with h1|h1
  ·exact h.new j h1
  ·by_cases h2:j∈keys L
   ·exact .inl h2
   ·refine .inr (Decidable.byContradiction fun h3=>?_)
    rw[h.old j h2 h3]at h1
    exact h3 h1
 old:=fun j hj hn=>by
  have h1:=h.old j hj hn
  have h2:j∉keys L1:=fun h3=>(h.new j h3).elim hj hn
  rw[k.old j h2 (by rw[h1];exact hn),h1]
 ok:=k.ok
theorem Q0l(A B:List (Nat×AObj)):keys (A++B)=keys A++keys B:=by simp[keys]
theorem Qby{ou:Outer}{L:List (Nat×AObj)}(h:Owns ou L){k:Nat}(hk:k∈keys L):ou k≠none:=by
 obtain⟨p,hp,rfl⟩:=List.mem_map.1 hk
 rw[h p hp];simp
theorem UpdL.part{ou ou':Outer}{A B B' C:List (Nat×AObj)}(h:UpdL ou B ou' B')(ho:Owns ou (A++B++C))(hn:(keys (A++B++C)).Nodup):UpdL ou (A++B++C) ou' (A++B'++C):=by
 rw[Q0l,Q0l]at hn
 obtain⟨hAB,hC,hABC⟩:=List.nodup_append.1 hn
 obtain⟨hA,hB,hdAB⟩:=List.nodup_append.1 hAB
 obtain⟨hoAB,hoC⟩:=Owns.app.1 ho
 obtain⟨hoA,hoB⟩:=Owns.app.1 hoAB
 have nA:∀k∈keys A,k∉keys B:=fun k h1 h2=>hdAB k h1 k h2 rfl
 have nC:∀k∈keys C,k∉keys B:=fun k h1 h2=>hABC k (List.mem_append.2 (.inr h2)) k h1 rfl
 have nA':∀k∈keys A,k∉keys B':=fun k h1 h2=>(h.new k h2).elim (nA k h1) (Qby hoA h1)
 have nC':∀k∈keys C,k∉keys B':=fun k h1 h2=>(h.new k h2).elim (nC k h1) (Qby hoC h1)
 have e:∀{D:List (Nat×AObj)},Owns ou D->(∀k∈keys D,k∉keys B)->Owns ou' D:=fun hD hd p hp=>by
  have hk:p.1∈keys _:=List.mem_map_of_mem hp
  rw[h.old p.1 (hd _ hk) (Qby hD hk)]
  exact hD p hp
 refine⟨Owns.app.2 ⟨Owns.app.2 ⟨e hoA nA,h.own⟩,e hoC nC⟩,?_,fun k hk=>?_,fun k hk hne=>?_,h.ok⟩
 ·rw[Q0l,Q0l]
  refine List.nodup_append.2 ⟨List.nodup_append.2 ⟨hA,h.nd,fun a ha b hb e=>?_⟩,hC,fun a ha b hb e=>?_⟩
  ·subst e;exact nA' a ha hb
  ·subst e
   rcases List.mem_append.1 ha with h1|h1
   ·exact hABC a (List.mem_append.2 (.inl h1)) a hb rfl
   ·exact nC' a hb h1
 ·rw[Q0l,Q0l]at hk ⊢
  simp only[List.mem_append]at hk ⊢
  rcases hk with (hk|hk)|hk
  ·exact .inl (.inl (.inl hk))
  ·exact (h.new k hk).elim (fun h=>.inl (.inl (.inr h))) .inr
  ·exact .inl (.inr hk)
 ·rw[Q0l,Q0l]at hk
  simp only[List.mem_append,not_or]at hk
  exact h.old k hk.1.2 hne
theorem Qbz(i:Nat)(o n:Int)(nb:Nb)(b:List Int)(ks:List LTr)(a:List LAlt):objs (.mk i o n nb b ks a)=(i,.cells [int o,int n,bC nb b,.sl 1 (kC ks),.sl 2 (a.map lAlt)])::((bO nb b++aO a)++objss ks):=by simp[objs]
def capP (j id ps:Int):List AC:=[.box [int id],.box [int ps],.box [int j]]
def cloP (j id ps:Int):AC:=.fn (.func 142) [] (capP j id ps)
@[simp] theorem ids_cloP (p:Abs.Id->Prop) (j id ps:Int):(cloP j id ps).ids p:=by simp[cloP,capP,AC.ids,idsL]
@[simp] theorem ren_cloP (ρ:Nat->Nat) (j id ps:Int):(cloP j id ps).ren ρ=cloP j id ps:=by simp[cloP,capP,AC.ren,renL]
theorem UpdL.sub{ou ou':Outer}{L L' L'':List (Nat×AObj)}(h:UpdL ou L ou' L')(hs:∀p∈L'',p∈L')(hn:(keys L'').Nodup):UpdL ou L ou' L'':=⟨fun p hp=>h.own p (hs p hp),hn,fun k hk=>by
 obtain⟨p,hp,rfl⟩:=List.mem_map.1 hk
 exact h.new p.1 (List.mem_map_of_mem (hs p hp)),h.old,h.ok⟩
theorem UpdL.one{ou:Outer}{i k:Nat}{R:List (Nat×AObj)}{c c' w:AObj}(hO:Owns ou ((i,c)::R))(hn:(keys ((i,c)::R)).Nodup)(hk:∀m,k<=m->ou m=none)(hou:OuOk ou)(hc:c'.ids isO)(hw:w.ids isO):
  UpdL ou ((i,c)::R) (updO (ouAdd ou k [w]) i c') ((i,c')::(k,w)::R):=by
 have hi:ou i=some c:=hO (i,c) (by simp)
 have hik:i < k:=Q1d hk hi
 simp only[keys,List.map_cons,List.nodup_cons]at hn
 have hR:∀p∈R,p.1 < k/\p.1≠i:=fun p hp=>⟨Q1d hk (hO p (by simp[hp])),fun e=>hn.1 (e▸List.mem_map_of_mem hp)⟩
 have hRk:∀j∈R.map (·.1),j < k:=fun j hj=>by obtain⟨p,hp,rfl⟩:=List.mem_map.1 hj;exact (hR p hp).1
 refine⟨fun p hp=>?_,?_,fun j hj=>?_,fun j hj hne=>?_,Q2d (Q2f hou fun o ho=>?_) hc⟩
 ·simp only[List.mem_cons]at hp
  rcases hp with rfl|rfl|hp
  ·exact Q06 _ _ _
  ·rw[Q04 _ (by show i≠k;omega)];exact Q0e 0
  ·obtain⟨h1,h2⟩:=hR p hp
   rw[Q04 _ (Ne.symm h2),Q0f h1]
   exact hO p (by simp[hp])
 ·simp only[keys,List.map_cons,List.nodup_cons,List.mem_cons,not_or]
  refine⟨⟨by omega,hn.1⟩,fun h=>?_,hn.2⟩
  have:=hRk _ h;omega
 ·simp only[keys,List.map_cons,List.mem_cons]at hj ⊢
  rcases hj with rfl|rfl|hj
  ·exact .inl (.inl rfl)
  ·exact .inr (hk _ (by omega))
  ·exact .inl (.inr hj)
 ·simp only[keys,List.map_cons,List.mem_cons,not_or]at hj
  have hjk:j < k:=Decidable.byContradiction fun h=>hne (hk j (by omega))
  rw[Q04 _ (Ne.symm hj.1),Q0f hjk]
 ·simp only[List.mem_cons,List.not_mem_nil,or_false]at ho
  subst ho;exact hw
theorem lst1{α:Type}{l:List α}(h:l.length=1):∃a,l=[a]:=by
 match l,h with
 |[a],_=>exact⟨a,rfl⟩
theorem lst2{α:Type}{l:List α}(h:l.length=2):∃a b,l=[a,b]:=by
 match l,h with
 |[a,b],_=>exact⟨a,b,rfl⟩
end Go.Proofs.YtmdkenkhaicbeaaGreatDoor
namespace Go.CoreX
end Go.CoreX
namespace Go.Proofs.YtmdkenkhaicbeaaGreatDoor
open Go Go.Abs Go.CoreX
variable {Γ:List (Nat×List AC)}
end Go.Proofs.YtmdkenkhaicbeaaGreatDoor
namespace Go.CoreX
theorem kd_cnt2(t:Tr):cntN (kdT t 0)+cntN (kdT t 1)<=cntN t+1:=by
 obtain⟨o,n,b,k,a⟩:=t
 match k with
 |[]=>simp[kdT,cntN,cntNs,default]
 |[x]=>simp[kdT,cntN,cntNs,default]
 |x::y::r=>simp[kdT,cntN,cntNs];omega
mutual
theorem mp_cnt(j id ps:Int):∀t:Tr,cntN (mpT (jmpT j id ps) t)<=3 * cntN t
 |.mk o n b k a=>by
  unfold mpT
  split
  ·have:=Qga j id ps k;simp only[cntN];omega
  ·split
   ·have:=mpC_cnt j id ps k;simp only[cntN];omega
   ·unfold jmpT
    split
    ·omega
    ·simp only[cntN,cntNs];omega
theorem Qga(j id ps:Int):∀l:List Tr,cntNs (mpL (jmpT j id ps) l)<=3 * cntNs l
 |[]=>by simp[mpL,cntNs]
 |[t]=>by have:=mp_cnt j id ps t;simp only[mpL,cntNs];omega
 |t::u::l=>by have:=Qga j id ps (u::l);simp only[mpL,cntNs]at this ⊢;omega
theorem mpC_cnt(j id ps:Int):∀l:List Tr,cntNs (mpC (jmpT j id ps) l)<=3 * cntNs l
 |[]=>by simp[mpC,cntNs]
 |t::l=>by have:=Qgb j id ps l;simp only[mpC,cntNs];omega
theorem Qgb(j id ps:Int):∀l:List Tr,cntNs (mpA (jmpT j id ps) l)<=3 * cntNs l
 |[]=>by simp[mpA,cntNs]
 |t::l=>by have h1:=mp_cnt j id ps t;have:=Qgb j id ps l;simp only[mpA,cntNs];omega
end
theorem pOk_lab{o n:Int}{b:List Int}{k k':List Tr}{a:List Alt}(h:allT pOk (.mk o n b k a))(hl:k'.length<=1048576)(hk:allTs pOk k'):allT pOk (.mk o n b k' a):=
 ⟨⟨h.1.b,by simpa using hl,h.1.a,h.1.ab,h.1.s⟩,hk⟩
end Go.CoreX
namespace Go.Proofs.YtmdkenkhaicbeaaGreatDoor
open Go Go.Abs Go.CoreX
theorem cntE{e:List Ex}(h:IsTree e):cntN (grow e)=e.length:=by
 have h1:=Q1u (grow e) []
 have h2:=Q9p h
 simp only[List.length_nil]at h1
 omega
theorem Qf5{e:List Ex}(h:check e=0):allT shpQ (grow e):=Q7y (Q19 h) fun x hx=>⟨⟨x.kids,by simp[labE],Q6r h x hx⟩⟩
theorem Q7q:∀(l:List Int)(m:Int),m<=l.foldl max m
 |[],m=>Int.le_refl _
 |x::l,m=>by
  have:=Q7q l (max m x)
  simp only[List.foldl_cons];omega
theorem mxT_low:∀t:Tr,-1<=mxT t
 |.mk o n b k a=>by
  have h1:=Q7q (Q0i o b a) (-1)
  have h2:=Q7q (k.map mxT) ((Q0i o b a).foldl max (-1))
  simp only[mxT,Qc2];omega
end Go.Proofs.YtmdkenkhaicbeaaGreatDoor
namespace Go.CoreX
end Go.CoreX
namespace Go.Proofs.YtmdkenkhaicbeaaGreatDoor
open Go Go.Abs Go.CoreX
end Go.Proofs.YtmdkenkhaicbeaaGreatDoor
namespace Go.CoreX
end Go.CoreX
namespace Go.Proofs.YtmdkenkhaicbeaaGreatDoor
open Go Go.Abs Go.CoreX
variable {Γ:List (Nat×List AC)}
theorem Qik{e:List Ex}{mf:Ms}{vf:Vl}(he:okB e)(h:RunsTo false 3000 e mf vf):APure Tryz.prog Γc 42 [.one (.sl 5 (e.map cEx))] (.tup [.agg [.sl 1 (mf.out.map cI),int 0,int (lastV vf)],.one (.lit (.bool true))]):=by
 have hR:=Run_ok MoreC.no he h
 intro ou
 refine AFn.walk 16 tabOk Tryz.func42 rfl (by kernel_rfl) rfl rfl fun hou=>?_
 refine zA ?_
 refine zca hΓc hR hou ?_
 refine zM ?_
 exact APure.fin rfl (WkF.ofEq rfl) (by simp) hou rfl
end Go.Proofs.YtmdkenkhaicbeaaGreatDoor
