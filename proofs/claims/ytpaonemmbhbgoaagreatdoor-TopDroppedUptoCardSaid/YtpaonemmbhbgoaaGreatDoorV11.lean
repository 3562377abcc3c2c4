/- What a rule makes of a node, walked. -/
import Derived.Test.YtpaonemmbhbgoaaGreatDoorV10
set_option maxRecDepth 10000
set_option linter.unusedVariables false
set_option linter.unusedSimpArgs false
namespace Go.Proofs.YtpaonemmbhbgoaaGreatDoor
open Go Go.Abs Go.CoreX
variable {Γ:List (Nat×List AC)}
set_option maxHeartbeats 4000000 in
theorem Qku(hΓ:∀g cs,(g,cs)∈Γ->idsL isO cs)(W:List AC)(hW:idsL isO W)(nodes:List Tr)(root:Tr)(rule at' n:Int)(i:Nat)(o nn:Int)(b:List Int)(ks:List LTr)(a:List LAlt)(hpl:Q3o (.mk i o nn none b ks a))(hok:okT (erT (.mk i o nn none b ks a)))(hsh:allT shpL (erT (.mk i o nn none b ks a)))(hc:cntN (erT (.mk i o nn none b ks a))<=1048576)
  (hrg:∀s∈ks,(erT s).op=1->-1073741824<=(erT s).n/\(erT s).n<=1073741823) (ou:Outer) (ho:Owns ou (objs (.mk i o nn none b ks a))) (hn:(keys (objs (.mk i o nn none b ks a))).Nodup)
  (hN:rule=10->AFn Tryz.prog Γ 109 [.one (.box W),.one (.ptr (.o i) 0),.one (int n)] ou (ResW ou (.mk i o nn none b ks a) (Qea root (erT (.mk i o nn none b ks a)) n)))
  (hU:rule=12->o=0->AFn Tryz.prog Γ 110 [.one (.box W),.one (.ptr (.o i) 0)] ou (ResW ou (.mk i o nn none b ks a) (Q8o nodes root (erT (.mk i o nn none b ks a))))):
  AFn Tryz.prog Γ 87 [.one (.box W),.agg [int rule,int at',int n],.one (.ptr (.o i) 0)] ou (ResW ou (.mk i o nn none b ks a) (resT nodes root rule n (erT (.mk i o nn none b ks a)))):=by
 have hi:ou i=some (.cells (lC (.mk i o nn none b ks a))):=Q0f ho
 simp only[lC,bC]at hi
 have hbl:b.length<=1048576:=hok.1
 have hkl:ks.length<=1048576:=by have:=hok.2.1;simpa[Q0t]using this
 obtain⟨t,hte⟩:∃t,t=LTr.mk i o nn none b ks a:=⟨_,rfl⟩
 have hti:t.id=i:=by rw[hte];rfl
 obtain⟨X,hX⟩:∃X,X=resT nodes root rule n (erT t):=⟨_,rfl⟩
 obtain⟨B,hB⟩:∃B:Bool,B=decide (rule=1/\(erT t).op=3/\(kidT (erT t) 0).op=2/\((kidT (erT t) 0).binds.length:Int)=(erT t).kids.length - 1):=⟨_,rfl⟩
 have hop:(erT t).op=o:=by rw[hte];rfl
 rw[←hte,←hX]
 unfold resT at hX
 rw[hop]at hX hB
 refine AFn.walk 206 tabOk Tryz.func87 rfl (by kernel_rfl) rfl rfl fun hou=>?_
 have hW1:∀k,idsL (inL k) W:=fun k=>Q17 (fun i hi=>by cases i with|l q=>exact hi.elim|o q=>trivial) W hW
 have hnil:X=none->ResW ou t X nilP ou:=fun h=>by rw[h];exact⟨rfl,hou,fun _ _ h=>h⟩
 refine zA ?_
 refine AOps.cutN 0 rfl hΓ (α:=Unit) (fun _=>[(14,.one (.lit (.bool (decide (n≠0/\rule≠10))))),(4,.one (.ptr (.l 0) 0)),(2,.one (.ptr (.o i) 0)),(0,.one (.box W))]) (fun _=>⟨1,[(0,.cells [int rule,int at',int n])],ou⟩) (fun _=>True) ?_ fun _ _=>?_
 ·dsimp only [List.take_zero,List.nil_append]
  refine AOps.splitS rfl rfl rfl rfl (fun hb=>?_) (fun hb=>?_)
  ·have hn0:n≠0:=by simpa using hb
   refine zA ?_
   refine cInv ⟨(),id,trivial,LessR.of rfl (FrSub.cons rfl (.ofEq ?_) (FrSub.cons rfl (.ofEq rfl) (FrSub.cons rfl (.ofEq rfl) (FrSub.consP rfl (.ofEq rfl) (by simp[hW]) .nil)))) (by simp[hW1]) zLO rfl rfl hou⟩
   simp only[FV.ren,AC.ren]
   congr 3
   rw[Bool.eq_iff_iff];simp[hn0]
  ·have hn0:n=0:=by simpa using hb
   refine zA ?_
   refine cInv ⟨(),id,trivial,LessR.of rfl (FrSub.cons rfl (.ofEq ?_) (FrSub.cons rfl (.ofEq rfl) (FrSub.cons rfl (.ofEq rfl) (FrSub.consP rfl (.ofEq rfl) (by simp[hW]) .nil)))) (by simp[hW1]) zLO rfl rfl hou⟩
   simp only[FV.ren,AC.ren]
   congr 3
   symm;simp[hn0]
 refine ACode.condS rfl (fun hb=>?_) (fun hb=>?_)
 ·have h1:n≠0/\rule≠10:=by simpa using hb
  rw[if_pos h1]at hX
  refine zA ?_
  exact AFn.fin' rfl (WkF.refl _) (by simp) hou (hnil hX)
 have h1:¬(n≠0/\rule≠10):=by simpa using hb
 rw [if_neg h1] at hX
 refine zA ?_
 refine ACode.cutN 0 rfl hΓ (α:=Unit) (fun _=>[(15,.one (.lit (.bool B))),(4,.one (.ptr (.l 0) 0)),(2,.one (.ptr (.o i) 0)),(0,.one (.box W))]) (fun _=>⟨1,[(0,.cells [int rule,int at',int n])],ou⟩) (fun _=>True) ?_ fun _ _=>?_
 ·dsimp only [List.take_zero,List.nil_append]
  by_cases hr1:rule=1
  ·by_cases h3:o=3
   ·obtain⟨k0,ks',rfl⟩:∃k0 ks',ks=k0::ks':=by
     have:=(Qfp (o:=o) (n:=nn) (b:=b) (k:=erTs ks) (a:=a.map LAlt.er) hsh h3).1
     cases ks with
     |nil=>simp[erTs]at this
     |cons k0 ks'=>exact⟨k0,ks',rfl⟩
    have hk0m:k0∈(LTr.mk i o nn none b (k0::ks') a).kids:=by simp[LTr.kids]
    have hkt:kidT (erT t) 0=erT k0:=by rw[hte];rfl
    have hkl2:(erT t).kids.length=ks'.length+1:=by rw[hte,Q59];simp[LTr.kids]
    rw[hkt,hkl2]at hB
    have hk0o:=Q1t ho hk0m
    have hpk0:=Q15 hpl hk0m
    have hk0b:(erT k0).binds.length<=1048576:=by
     have:=Q3w hok (Q2w hk0m)
     cases hek:erT k0 with
     |mk o' n' b' k' a'=>rw[hek]at this;exact this.1
    cases k0 with
    |mk j op2 n2 nb2 b2 ks2 a2=>
    obtain rfl:nb2=none:=hpk0.1
    have hj:ou j=some (.cells (lC (.mk j op2 n2 none b2 ks2 a2))):=Q0f hk0o
    simp only[lC,bC]at hj
    have hB:B=decide (rule=1/\o=3/\op2=2/\((b2.length:Int)=((ks'.length+1:Nat):Int) - 1)):=hB
    have hk0b:b2.length<=1048576:=hk0b
    by_cases h2:op2=2
    ·refine ACode.drawX tabOk 41 [(2,.one (.lit (.bool true))),(7,.one (int o)),(8,.one (.lit (.bool true))),(14,.one (.sl 1 (kC (.mk j op2 n2 none b2 ks2 a2::ks')))),(15,.one (.box [.ptr (.o j) 0])),(19,.one (int op2)),(20,.one (.lit (.bool true))),(26,.one (.sl 1 (kC (.mk j op2 n2 none b2 ks2 a2::ks')))),(27,.one (.box [.ptr (.o j) 0])),(31,.one (.sl 1 (b2.map cI))),(36,.one (.sl 1 (kC (.mk j op2 n2 none b2 ks2 a2::ks')))),(38,.one (int (((kC (.mk j op2 n2 none b2 ks2 a2::ks')).length:Int) - 1)))] follows (by kernel_rfl) rfl rfl rfl rfl ?_ ?_
     ·refine .step rfl (HStep.litB tabOk rfl (by simp[hr1])) ?_
      refine .step rfl (HStep.guarded rfl rfl rfl (zLD rfl rfl hi rfl)) ?_
      refine .step rfl (HStep.litB tabOk rfl (by simp[h3])) ?_
      refine .step rfl (HStep.guarded rfl rfl rfl (zLD rfl rfl hi rfl)) ?_
      refine .step rfl (HStep.guarded rfl rfl rfl (zIA rfl rfl rfl (by decide) rfl)) ?_
      refine .step rfl (HStep.guarded rfl rfl rfl (zLD rfl rfl hj rfl)) ?_
      refine .step rfl (HStep.litB tabOk rfl (by simp[h2])) ?_
      refine .step rfl (HStep.guarded rfl rfl rfl (zLD rfl rfl hi rfl)) ?_
      refine .step rfl (HStep.guarded rfl rfl rfl (zIA rfl rfl rfl (by decide) rfl)) ?_
      refine .step rfl (HStep.guarded rfl rfl rfl (zLD rfl rfl hj rfl)) ?_
      refine .step rfl (HStep.guarded rfl rfl rfl (zLD rfl rfl hi rfl)) ?_
      exact .step rfl (HStep.guarded rfl rfl rfl (AStep.arith rfl rfl rfl (.inr (.inl ⟨rfl,rfl⟩)) (Q2r (by rw[Q1n];have:(0:Int)<=((LTr.mk j op2 n2 none b2 ks2 a2::ks').length:Int):=Int.natCast_nonneg _;omega) (by rw[Q1n];omega)))) .nil
     refine zA ?_
     refine cInv ⟨(),id,trivial,LessR.of rfl (FrSub.cons rfl (.ofEq ?_) (FrSub.cons rfl (.ofEq rfl) (FrSub.cons rfl (.ofEq rfl) (FrSub.consP rfl (.ofEq rfl) (by simp[hW]) .nil)))) (by simp[hW1]) zLO rfl rfl hou⟩
     simp only[FV.ren,AC.ren]
     congr 3
     rw[hB,Bool.eq_iff_iff]
     simp[Q1n,hr1,h3,h2]
    ·refine ACode.drawX tabOk 41 [(2,.one (.lit (.bool true))),(7,.one (int o)),(8,.one (.lit (.bool true))),(14,.one (.sl 1 (kC (.mk j op2 n2 none b2 ks2 a2::ks')))),(15,.one (.box [.ptr (.o j) 0])),(19,.one (int op2)),(20,.one (.lit (.bool false)))] follows (by kernel_rfl) rfl rfl rfl rfl ?_ ?_
     ·refine .step rfl (HStep.litB tabOk rfl (by simp[hr1])) ?_
      refine .step rfl (HStep.guarded rfl rfl rfl (zLD rfl rfl hi rfl)) ?_
      refine .step rfl (HStep.litB tabOk rfl (by simp[h3])) ?_
      refine .step rfl (HStep.guarded rfl rfl rfl (zLD rfl rfl hi rfl)) ?_
      refine .step rfl (HStep.guarded rfl rfl rfl (zIA rfl rfl rfl (by decide) rfl)) ?_
      refine .step rfl (HStep.guarded rfl rfl rfl (zLD rfl rfl hj rfl)) ?_
      exact .step rfl (HStep.litB tabOk rfl (by simp[h2])) .nil
     refine zA ?_
     refine cInv ⟨(),id,trivial,LessR.of rfl (FrSub.cons rfl (.ofEq ?_) (FrSub.cons rfl (.ofEq rfl) (FrSub.cons rfl (.ofEq rfl) (FrSub.consP rfl (.ofEq rfl) (by simp[hW]) .nil)))) (by simp[hW1]) zLO rfl rfl hou⟩
     simp only[FV.ren,AC.ren]
     congr 3
     rw[hB];simp[h2]
   ·refine ACode.drawX tabOk 41 [(2,.one (.lit (.bool true))),(7,.one (int o)),(8,.one (.lit (.bool false)))] follows (by kernel_rfl) rfl rfl rfl rfl ?_ ?_
    ·refine .step rfl (HStep.litB tabOk rfl (by simp[hr1])) ?_
     refine .step rfl (HStep.guarded rfl rfl rfl (zLD rfl rfl hi rfl)) ?_
     exact .step rfl (HStep.litB tabOk rfl (by simp[h3])) .nil
    refine zA ?_
    refine cInv ⟨(),id,trivial,LessR.of rfl (FrSub.cons rfl (.ofEq ?_) (FrSub.cons rfl (.ofEq rfl) (FrSub.cons rfl (.ofEq rfl) (FrSub.consP rfl (.ofEq rfl) (by simp[hW]) .nil)))) (by simp[hW1]) zLO rfl rfl hou⟩
    simp only[FV.ren,AC.ren]
    congr 3
    rw[hB];simp[h3]
  ·refine ACode.drawX tabOk 41 [(2,.one (.lit (.bool false)))] follows (by kernel_rfl) rfl rfl rfl rfl ?_ ?_
   ·exact .step rfl (HStep.litB tabOk rfl (by simp[hr1])) .nil
   refine zA ?_
   refine cInv ⟨(),id,trivial,LessR.of rfl (FrSub.cons rfl (.ofEq ?_) (FrSub.cons rfl (.ofEq rfl) (FrSub.cons rfl (.ofEq rfl) (FrSub.consP rfl (.ofEq rfl) (by simp[hW]) .nil)))) (by simp[hW1]) zLO rfl rfl hou⟩
   simp only[FV.ren,AC.ren]
   congr 3
   rw[hB];simp[hr1]
 refine ACode.condS rfl (fun hb=>?_) (fun hb=>?_)
 ·rw[hb]at hB
  have hB:=of_decide_eq_true hB.symm
  rw[if_pos hB]at hX
  obtain⟨hr1,h3,h2,h4⟩:=hB
  obtain⟨k0,ks',rfl⟩:∃k0 ks',ks=k0::ks':=by
   have:=(Qfp (o:=o) (n:=nn) (b:=b) (k:=erTs ks) (a:=a.map LAlt.er) hsh h3).1
   cases ks with
   |nil=>simp[erTs]at this
   |cons k0 ks'=>exact⟨k0,ks',rfl⟩
  have hk0m:k0∈(LTr.mk i o nn none b (k0::ks') a).kids:=by simp[LTr.kids]
  have hkt:kidT (erT t) 0=erT k0:=by rw[hte];rfl
  have hkl2:(erT t).kids=erT k0::ks'.map erT:=by rw[hte,Q59];rfl
  rw[hkt]at h2 h4 hX
  rw[hkl2]at h4 hX
  have hk0o:=Q1t ho hk0m
  have hpk0:=Q15 hpl hk0m
  have hk0s:=Q1l hsh (Q2w hk0m)
  cases k0 with
  |mk j op2 n2 nb2 b2 ks2 a2=>
  obtain rfl:nb2=none:=hpk0.1
  obtain rfl:op2=2:=h2
  obtain⟨body,rfl⟩:∃body,ks2=[body]:=by
   have:=(shp_lam (o:=2) (n:=n2) (b:=b2) (k:=erTs ks2) (a:=a2.map LAlt.er) hk0s rfl).1
   rw[Q0t,List.length_map]at this
   exact List.length_eq_one_iff.1 this
  have hj:ou j=some (.cells (lC (.mk j 2 n2 none b2 [body] a2))):=Q0f hk0o
  simp only[lC,bC]at hj
  have hbm:body∈(LTr.mk j 2 n2 none b2 [body] a2).kids:=by simp[LTr.kids]
  have h4:b2.length=ks'.length:=by
   have h5:((b2.length:Nat):Int)=(((erT (.mk j 2 n2 none b2 [body] a2)::ks'.map erT).length:Nat):Int) - 1:=h4
   simp at h5;omega
  have hX:X=some (letsT b2 (ks'.map erT) (erT body)):=hX
  have hkl':ks'.length<=1048576:=by simp at hkl;omega
  refine zA ?_
  refine ACode.drawC tabOk 26 [25] [(3,.one (.sl 1 (kC (.mk j 2 n2 none b2 [body] a2::ks')))),(4,.one (.box [.ptr (.o j) 0])),(8,.one (.sl 1 (b2.map cI))),(12,.one (.sl 1 (kC (.mk j 2 n2 none b2 [body] a2::ks')))),(13,.one (.sl 1 (kC ks'))),(17,.one (.sl 1 (kC (.mk j 2 n2 none b2 [body] a2::ks')))),(18,.one (.box [.ptr (.o j) 0])),(22,.one (.sl 1 (kC [body]))),(23,.one (.box [.ptr (.o body.id) 0]))] (fun vs σ=>match vs with
    |[]=>σ=⟨1,[(0,.cells [int rule,int at',int n])],ou⟩
    |[r]=>∃(u:LTr) (ow:Outer),r=.one (.ptr (.o u.id) 0)/\erT u=letsT b2 (ks'.map erT) (erT body)/\Der ou ow (objss ks'++objs body) u/\σ=⟨1,[(0,.cells [int rule,int at',int n])],ow⟩
    |_=>False) follows (by kernel_rfl) rfl rfl (by decide) (by kernel_rfl) (by kernel_rfl) rfl rfl ?_ ?_ (by decide) ?_ ?_
  ·rintro vs σ hG
   match vs,hG with
   |[],hG=>subst hG;rfl
   |[r],hG=>obtain⟨u,ow,_,_,_,rfl⟩:=hG;rfl
  ·rintro vs σ hG
   have hv':σ.ou j=some (.cells [int 2,int n2,.sl 1 (b2.map cI),.sl 1 (kC [body]),.sl 2 (a2.map lAlt)])/\σ.ou i=some (.cells [int o,int nn,.sl 1 (b.map cI),.sl 1 (kC (.mk j 2 n2 none b2 [body] a2::ks')),.sl 2 (a.map lAlt)]):=by
    match vs,hG with
    |[],hG=>subst hG;exact⟨hj,hi⟩
    |[r],hG=>obtain⟨u,ow,_,_,hD,rfl⟩:=hG;exact⟨hD.old _ _ hj,hD.old _ _ hi⟩
   refine .step rfl (zHP (zLD rfl rfl hv'.2 rfl)) ?_
   refine .step rfl (zHP (zIA rfl rfl rfl (by decide) rfl)) ?_
   refine .step rfl (zHP (zLD rfl rfl hv'.1 rfl)) ?_
   refine .step rfl (zHP (zLD rfl rfl hv'.2 rfl)) ?_
   refine .step rfl (zHP (AStep.sliceFrom (b:=1) (es:=kC (.mk j 2 n2 none b2 [body] a2::ks')) tabOk rfl rfl rfl rfl rfl rfl rfl (by rw[Q1n];simp))) ?_
   refine .step rfl (zHP (zLD rfl rfl hv'.2 rfl)) ?_
   refine .step rfl (zHP (zIA rfl rfl rfl (by decide) rfl)) ?_
   refine .step rfl (zHP (zLD rfl rfl hv'.1 rfl)) ?_
   exact .step rfl (zHP (zIA rfl rfl rfl (by decide) rfl)) .nil
  ·rintro vs σ hG p oo hp1 hp2
   match vs,hG with
   |[],hG=>
    subst hG
    cases hp1
    cases hp2
    refine⟨rfl,rfl,.inr ⟨rfl,Q13.call hΓ rfl rfl rfl rfl (by exact⟨by simp,by simp,trivial,trivial⟩) hou (Qlj hΓ b2 ks' body h4 hkl' ou) fun r ow hq _ _=>?_⟩⟩
    obtain⟨u,rfl,he,hD⟩:=hq
    exact⟨u,ow,rfl,he,hD,rfl⟩
   |[r],hG=>cases hp1
  rintro vs σ hlen2 hG
  match vs,hlen2,hG with
  |[r],_,hG=>
  obtain⟨u,ow,rfl,he,hD,rfl⟩:=hG
  refine zM ?_
  refine AFn.fin' rfl (WkF.refl _) (by simp) hD.ok ?_
  rw[hX,hte]
  refine ResD.w ho hn ⟨u,rfl,he,hD.mono fun p hp=>?_⟩
  rcases List.mem_append.1 hp with hp|hp
  ·rw[Q4a]at hp
   obtain⟨s2,hs2,hp2⟩:=List.mem_flatMap.1 hp
   exact Q20 (by simp[LTr.kids,hs2]) hp2
  ·exact Q3b hk0m hbm hp
 rw[hb]at hB
 have hB:=of_decide_eq_false hB.symm
 rw[if_neg hB]at hX
 by_cases h4:o=4
 ·subst h4
  by_cases h10:rule=10
  ·subst h10
   rw[if_neg (by simp),if_neg (by simp),if_neg (by simp),if_neg (by simp),if_neg (by simp),if_pos rfl]at hX
   have hN:=hN rfl
   rw[←hte,←hX]at hN
   repeat' first|refine zN ?_|((with_reducible refine oj ?_);first|refine zix ?_|refine zow rfl rfl hi ?_)
   refine AOps.call1 hΓ rfl rfl rfl rfl rfl rfl rfl (by exact⟨hW,trivial,trivial,trivial⟩) hou hN fun r ow hq hids how=>?_
   refine zA ?_
   exact AFn.fin' rfl (WkF.refl _) hids how hq
  ·obtain⟨q,y0,y1,hb2,hk2,ha2⟩:=Qfo (o:=4) (n:=nn) (b:=b) (k:=erTs ks) (a:=a.map LAlt.er) hsh rfl
   obtain⟨v,d,rfl⟩:∃v d,ks=[v,d]:=by
    rw[Q0t]at hk2
    match ks,hk2 with
    |[v,d],_=>exact⟨v,d,rfl⟩
   obtain rfl:a=[]:=by simpa using ha2
   subst hb2
   rw[if_pos ⟨rfl,h10⟩]at hX
   have hL:=Qjn hΓ rule i nn q v d hpl hok hsh hc ou ho hn
   rw[←hte,←hX]at hL
   repeat' first|refine zN ?_|((with_reducible refine oj ?_);first|refine zix ?_|refine zow rfl rfl hi ?_)
   refine ACode.condS rfl (fun hb10=>?_) (fun hb10=>absurd hb10 (by simp[h10]))
   refine zA ?_
   refine AOps.call1 hΓ rfl rfl rfl rfl rfl rfl rfl (by exact⟨trivial,trivial,trivial⟩) hou hL fun r ow hq hids how=>?_
   refine zA ?_
   exact AFn.fin' rfl (WkF.refl _) hids how hq
 rw[if_neg (fun h=>h4 h.1)]at hX
 by_cases hr4:rule=4
 ·subst hr4
  rw[if_neg (fun h:(4:Int)=5/\_=>absurd h.1 (by decide)),if_neg (fun h:(4:Int)=6/\_=>absurd h.1 (by decide)),if_neg (fun h:(4:Int)=7/\_=>absurd h.1 (by decide)),if_neg (by decide:¬(4:Int)=10),if_neg (fun h:(4:Int)=12/\_=>absurd h.1 (by decide))]at hX
  repeat' first|refine zN ?_|((with_reducible refine oj ?_);first|refine zix ?_|refine zow rfl rfl hi ?_)
  refine AOps.splitS rfl rfl rfl rfl (fun hb4=>absurd (by simpa using hb4) h4) (fun hb4=>?_)
  repeat' first|refine zN ?_|((with_reducible refine oj ?_);first|refine zix ?_|refine zow rfl rfl hi ?_)
  refine AOps.splitS rfl rfl rfl rfl (fun hb5=>?_) (fun hb5=>?_)
  ·have h5:o=5:=by simpa using hb5
   subst h5
   have hrl:=(Qfn (o:=5) (n:=nn) (b:=b) (k:=erTs ks) (a:=a.map LAlt.er) hsh rfl).1
   rw[Q0t,List.length_map]at hrl
   have hun:=Qdd hΓ i 5 nn b ks a hok hc (by omega) ou ho
   rw[←hte]at hun
   repeat' first|refine zN ?_|((with_reducible refine oj ?_);first|refine zix ?_|refine zow rfl rfl hi ?_)
   refine AOps.call1 hΓ rfl rfl rfl rfl rfl rfl rfl (by exact⟨trivial,trivial⟩) hou hun fun r ow hq _ how=>?_
   obtain⟨rfl,rfl⟩:=hq
   refine zA ?_
   refine ACode.condS rfl (fun hbu=>?_) (fun hbu=>?_)
   ·rw[if_pos ⟨rfl,rfl,hbu⟩]at hX
    obtain⟨s,hs⟩:=Q00 (l:=ks) (i:=b.length) (by omega)
    have hsm:=List.mem_of_getElem? hs
    refine zA ?_
    refine ACode.drawX tabOk 11 [(3,.one (.sl 1 (kC ks))),(7,.one (.sl 1 (b.map cI))),(9,.one (.box [.ptr (.o s.id) 0]))] follows (by kernel_rfl) rfl rfl rfl rfl ?_ ?_
    ·refine .step rfl (zHP (zLD rfl rfl hi rfl)) ?_
     refine .step rfl (zHP (zLD rfl rfl hi rfl)) ?_
     exact .step rfl (zHP (zIA rfl rfl rfl (by simp) (by simpa using Q4q hs))) .nil
    refine zA ?_
    refine AFn.fin' rfl (WkF.refl _) (by simp) hou ?_
    have hke:kidT (erT t) (erT t).binds.length=erT s:=by
     rw[hte]
     unfold kidT
     rw[Q59,List.getD_eq_getElem?_getD,List.getElem?_map]
     show (ks[b.length]?.map erT).getD default=erT s
     rw[hs];rfl
    rw[hke]at hX
    rw[hX,hte]
    exact ResD.w ho hn ⟨s,rfl,rfl,Der.refl (fun p hp=>Q20 hsm hp) hou⟩
   ·rw[if_neg (by rw[hbu];simp)]at hX
    repeat' first|refine zN ?_|((with_reducible refine oj ?_);first|refine zix ?_|refine zow rfl rfl hi ?_)
    exact AFn.fin' rfl (WkF.refl _) (by simp) hou (hnil hX)
  ·have h5:¬o=5:=by simpa using hb5
   rw[if_neg (fun h=>h5 h.2.1)]at hX
   repeat' first|refine zN ?_|((with_reducible refine oj ?_);first|refine zix ?_|refine zow rfl rfl hi ?_)
   exact AFn.fin' rfl (WkF.refl _) (by simp) hou (hnil hX)
 rw[if_neg (fun h=>hr4 h.1)]at hX
 by_cases hr5:rule=5
 ·subst hr5
  rw[if_neg (fun h:(5:Int)=6/\_=>absurd h.1 (by decide)),if_neg (fun h:(5:Int)=7/\_=>absurd h.1 (by decide)),if_neg (by decide:¬(5:Int)=10),if_neg (fun h:(5:Int)=12/\_=>absurd h.1 (by decide))]at hX
  repeat' first|refine zN ?_|((with_reducible refine oj ?_);first|refine zix ?_|refine zow rfl rfl hi ?_)
  refine AOps.splitS rfl rfl rfl rfl (fun hb4=>absurd (by simpa using hb4) h4) (fun hb4=>?_)
  repeat' first|refine zN ?_|((with_reducible refine oj ?_);first|refine zix ?_|refine zow rfl rfl hi ?_)
  refine AOps.splitS rfl rfl rfl rfl (fun hb5=>?_) (fun hb5=>?_)
  ·have h5:o=7:=by simpa using hb5
   subst h5
   have hrl:=(Qc3 (o:=7) (n:=nn) (b:=b) (k:=erTs ks) (a:=a.map LAlt.er) hsh rfl).1
   rw[Q0t,List.length_map,List.length_map]at hrl
   obtain⟨con,rs,rfl⟩:∃con rs,ks=con::rs:=by
    cases ks with
    |nil=>simp at hrl
    |cons c r=>exact⟨c,r,rfl⟩
   have hrm:con∈(LTr.mk i 7 nn none b (con::rs) a).kids:=by simp[LTr.kids]
   have hpc:=Q15 hpl hrm
   have hch:=Qf1 hΓ i 7 nn b con rs a hpc hpl.2.1 (by simpa using hrl) hok hsh ou ho
   have hro:=Q1t ho hrm
   have hcop:(kidT (erT t) 0).op=(erT con).op:=by rw[hte];rfl
   rw[hcop]at hX
   cases con with
   |mk j op2 n2 nb2 b2 ks2 a2=>
   have hj:ou j=some (.cells (lC (.mk j op2 n2 nb2 b2 ks2 a2))):=Q0f hro
   simp only[lC,bC]at hj
   repeat' first|refine zN ?_|((with_reducible refine oj ?_);first|refine zix ?_|refine zow rfl rfl hi ?_|refine zow rfl rfl hj ?_)
   refine ACode.condS rfl (fun hb6=>?_) (fun hb6=>?_)
   ·have h6:op2=6:=by simpa using hb6
    rw[if_pos ⟨rfl,rfl,h6⟩]at hX
    rw[←hte,←hX]at hch
    refine zA ?_
    refine AOps.call1 hΓ rfl rfl rfl rfl rfl rfl rfl (by exact⟨trivial,trivial⟩) hou hch fun r ow hq hids how=>?_
    refine zA ?_
    exact AFn.fin' rfl (WkF.refl _) hids how (by rw[hte]at hq ⊢;exact ResD.w ho hn hq)
   ·have h6:¬op2=6:=by simpa using hb6
    rw[if_neg (fun h=>h6 h.2.2)]at hX
    repeat' first|refine zN ?_|((with_reducible refine oj ?_);first|refine zix ?_|refine zow rfl rfl hi ?_)
    exact AFn.fin' rfl (WkF.refl _) (by simp) hou (hnil hX)
  ·have h5:¬o=7:=by simpa using hb5
   rw[if_neg (fun h=>h5 h.2.1)]at hX
   repeat' first|refine zN ?_|((with_reducible refine oj ?_);first|refine zix ?_|refine zow rfl rfl hi ?_)
   exact AFn.fin' rfl (WkF.refl _) (by simp) hou (hnil hX)
 rw[if_neg (fun h=>hr5 h.1)]at hX
 by_cases hr6:rule=6
 ·subst hr6
  rw[if_neg (fun h:(6:Int)=7/\_=>absurd h.1 (by decide)),if_neg (by decide:¬(6:Int)=10),if_neg (fun h:(6:Int)=12/\_=>absurd h.1 (by decide))]at hX
  have hkl3:(erT t).kids.length=ks.length:=by rw[hte,Q59];simp[LTr.kids]
  rw[hkl3]at hX
  repeat' first|refine zN ?_|((with_reducible refine oj ?_);first|refine zix ?_|refine zow rfl rfl hi ?_)
  refine AOps.splitS rfl rfl rfl rfl (fun hb4=>absurd (by simpa using hb4) h4) (fun hb4=>?_)
  repeat' first|refine zN ?_|((with_reducible refine oj ?_);first|refine zix ?_|refine zow rfl rfl hi ?_)
  refine AOps.splitS rfl rfl rfl rfl (fun hb5=>?_) (fun hb5=>?_)
  ·have h5:o=8:=by simpa using hb5
   subst h5
   repeat' first|refine zN ?_|((with_reducible refine oj ?_);first|refine zix ?_|refine zow rfl rfl hi ?_)
   refine ACode.condS rfl (fun hb6=>?_) (fun hb6=>?_)
   ·have h6:ks.length=2:=by simp[Q1n]at hb6;omega
    rw[if_pos ⟨rfl,rfl,h6⟩]at hX
    obtain⟨x,y,rfl⟩:∃x y,ks=[x,y]:=by
     match ks,h6 with
     |[x,y],_=>exact⟨x,y,rfl⟩
    have har:=Qix hΓ i 8 nn b x y a (hrg x (by simp)) (hrg y (by simp)) ou ho
    rw[←hte,←hX]at har
    refine zA ?_
    refine AOps.call1 hΓ rfl rfl rfl rfl rfl rfl rfl (by exact⟨trivial,trivial⟩) hou har fun r ow hq hids how=>?_
    refine zA ?_
    exact AFn.fin' rfl (WkF.refl _) hids how (by rw[hte]at hq ⊢;exact ResD.w ho hn hq)
   ·have h6:¬ks.length=2:=by simp[Q1n]at hb6;omega
    rw[if_neg (fun h=>h6 h.2.2)]at hX
    repeat' first|refine zN ?_|((with_reducible refine oj ?_);first|refine zix ?_|refine zow rfl rfl hi ?_)
    exact AFn.fin' rfl (WkF.refl _) (by simp) hou (hnil hX)
  ·have h5:¬o=8:=by simpa using hb5
   rw[if_neg (fun h=>h5 h.2.1)]at hX
   repeat' first|refine zN ?_|((with_reducible refine oj ?_);first|refine zix ?_|refine zow rfl rfl hi ?_)
   exact AFn.fin' rfl (WkF.refl _) (by simp) hou (hnil hX)
 rw[if_neg (fun h=>hr6 h.1)]at hX
 by_cases hr7:rule=7
 ·subst hr7
  rw[if_neg (by decide:¬(7:Int)=10),if_neg (fun h:(7:Int)=12/\_=>absurd h.1 (by decide))]at hX
  repeat' first|refine zN ?_|((with_reducible refine oj ?_);first|refine zix ?_|refine zow rfl rfl hi ?_)
  refine AOps.splitS rfl rfl rfl rfl (fun hb4=>absurd (by simpa using hb4) h4) (fun hb4=>?_)
  repeat' first|refine zN ?_|((with_reducible refine oj ?_);first|refine zix ?_|refine zow rfl rfl hi ?_)
  refine ACode.condS rfl (fun hb5=>?_) (fun hb5=>?_)
  ·have h5:o=10:=by simpa using hb5
   subst h5
   have hrl:=Qkj (o:=10) (n:=nn) (b:=b) (k:=erTs ks) (a:=a.map LAlt.er) hsh rfl
   rw[Q0t,List.length_map]at hrl
   obtain⟨row,rfl⟩:=List.length_eq_one_iff.1 hrl
   rw[if_pos ⟨rfl,rfl⟩]at hX
   have hfi:=Qim hΓ i 10 nn b row [] a (Q15 hpl (by simp[LTr.kids])) hok hsh ou ho
   rw[←hte,←hX]at hfi
   refine zA ?_
   refine AOps.call1 hΓ rfl rfl rfl rfl rfl rfl rfl (by exact⟨trivial,trivial⟩) hou hfi fun r ow hq hids how=>?_
   refine zA ?_
   exact AFn.fin' rfl (WkF.refl _) hids how (by rw[hte]at hq ⊢;exact ResD.w ho hn hq)
  ·have h5:¬o=10:=by simpa using hb5
   rw[if_neg (fun h=>h5 h.2)]at hX
   repeat' first|refine zN ?_|((with_reducible refine oj ?_);first|refine zix ?_|refine zow rfl rfl hi ?_)
   exact AFn.fin' rfl (WkF.refl _) (by simp) hou (hnil hX)
 rw[if_neg (fun h=>hr7 h.1)]at hX
 by_cases hr10:rule=10
 ·subst hr10
  rw[if_pos rfl]at hX
  have hN:=hN rfl
  rw[←hte,←hX]at hN
  repeat' first|refine zN ?_|((with_reducible refine oj ?_);first|refine zix ?_|refine zow rfl rfl hi ?_)
  refine AOps.splitS rfl rfl rfl rfl (fun hb4=>absurd (by simpa using hb4) h4) (fun hb4=>?_)
  repeat' first|refine zN ?_|((with_reducible refine oj ?_);first|refine zix ?_|refine zow rfl rfl hi ?_)
  refine AOps.call1 hΓ rfl rfl rfl rfl rfl rfl rfl (by exact⟨hW,trivial,trivial,trivial⟩) hou hN fun r ow hq hids how=>?_
  refine zA ?_
  exact AFn.fin' rfl (WkF.refl _) hids how hq
 rw[if_neg hr10]at hX
 by_cases hr12:rule=12
 ·subst hr12
  repeat' first|refine zN ?_|((with_reducible refine oj ?_);first|refine zix ?_|refine zow rfl rfl hi ?_)
  refine AOps.splitS rfl rfl rfl rfl (fun hb4=>absurd (by simpa using hb4) h4) (fun hb4=>?_)
  repeat' first|refine zN ?_|((with_reducible refine oj ?_);first|refine zix ?_|refine zow rfl rfl hi ?_)
  refine ACode.condS rfl (fun hb5=>?_) (fun hb5=>?_)
  ·have h5:o=0:=by simpa using hb5
   rw[if_pos ⟨rfl,h5⟩]at hX
   have hU:=hU rfl h5
   rw[←hte,←hX]at hU
   refine zA ?_
   refine AOps.call1 hΓ rfl rfl rfl rfl rfl rfl rfl (by exact⟨hW,trivial,trivial⟩) hou hU fun r ow hq hids how=>?_
   refine zA ?_
   exact AFn.fin' rfl (WkF.refl _) hids how hq
  ·have h5:¬o=0:=by simpa using hb5
   rw[if_neg (fun h=>h5 h.2)]at hX
   refine zA ?_
   exact AFn.fin' rfl (WkF.refl _) (by simp) hou (hnil hX)
 rw[if_neg (fun h=>hr12 h.1)]at hX
 repeat' first|refine zN ?_|((with_reducible refine oj ?_);first|refine zix ?_|refine zow rfl rfl hi ?_)|(with_reducible refine oj ?_;refine AOps.splitS rfl rfl rfl rfl (fun hb=>?_) (fun hb=>?_))|(with_reducible refine ok ?_;first|refine ACode.condS rfl (fun hb=>?_) (fun hb=>?_)|refine ACode.cond rfl (fun hb=>?_) (fun hb=>?_))
 all_goals first
  |(exfalso;simp at *;omega)
  |exact AFn.fin' rfl (WkF.refl _) (by simp) hou (hnil hX)
def OpenQ (e:List Ex)(ou:Outer)(r:FV)(ou':Outer):Prop:=∃(lts:List LTr)(root:LTr),r=.one (.box [.sl 1 (kC lts),.ptr (.o root.id) 0])/\LinkL e lts Qdz/\lts[e.length - 1]?=some root/\NewO ou ou' (lts.flatMap ownO)
abbrev wO (lts:List LTr):AObj:=.cells [.gs 1 (kC lts) (.l 1),.lit (.pointer none)]
set_option maxHeartbeats 2000000 in
theorem Qld(hΓ:∀g cs,(g,cs)∈Γ->idsL isO cs)(e:List Ex)(he:okE e)(hin:Q0p e)(hne:e≠[])(ou:Outer):AFn Tryz.prog Γ 84 [.one (.sl 5 (e.map cEx))] ou (OpenQ e ou):=by
 have hel:=he.l
 refine AFn.walk 99 tabOk Tryz.func84 rfl (by kernel_rfl) rfl rfl fun hou=>?_
 refine zA ?_
 refine ACode.grow 0 0 81 1 rfl rfl ?_
 refine ACode.loopR hΓ (α:=Nat×List LTr×Outer) (fun c=>[(15,.one (int c.1)),(14,.one (int (e.map cEx).length)),(13,.one (.sl 5 (e.map cEx))),(3,.one (.ptr (.l 0) 0)),(0,.one (.sl 5 (e.map cEx)))])
  (fun c=>⟨2,[(1,.tok 81 1 c.1),(0,wO c.2.1)],c.2.2⟩) (fun m c=>c.1<=e.length/\(LinkL (e.take c.1) c.2.1 Qdz/\NewO ou c.2.2 (c.2.1.flatMap ownO))/\m=e.length - c.1) (a0:=(0,[],ou)) (ρ:=id) ⟨by omega,⟨LinkL.nil,.nil hou⟩,rfl⟩
  (LessR.of rfl zFS (by simp) zLO rfl rfl hou) fun m c hc=>?_
 obtain⟨j,lts,ov⟩:=c
 obtain⟨hjl,⟨hL,hN⟩,rfl⟩:=hc
 dsimp only at hjl hL hN
 have hov:=hN.ok
 refine zA ?_
 refine ACode.cond rfl (fun hb2=>?_) (fun hb2=>?_)
 ·have hlt:j < e.length:=by simpa using hb2
  obtain⟨x,hx⟩:=Q00 hlt
  have hxo:=he.x x (List.mem_of_getElem? hx)
  have hxk:=hxo.k
  have hxa:=hxo.a
  have hxb:=hxo.b
  have hxin:=hin j x hx
  have hgl:lts.length=j:=by rw[hL.len];simp;omega
  have hkcl:(kC lts).length=j:=by rw[Q1n,hgl]
  refine zA ?_
  refine zS (zIA rfl rfl rfl (by omega) (Q05 hx)) ?_
  refine zA ?_
  refine ACode.drawC tabOk 9 [6,7,8] [] (fun vs σ=>match vs with
    |[]=>σ=⟨3,[(2,.cells (cEx x)),(2,.cells (ti57.zero.map .lit)),(1,.tok 81 1 j),(0,wO lts)],ov⟩
    |[a]=>a=.one (.sl 1 (x.binds.map cI))/\σ=⟨4,(3,.dead)::[(2,.cells (cEx x)),(2,.cells (ti57.zero.map .lit)),(1,.tok 81 1 j),(0,wO lts)],ov⟩
    |[a,b]=>a=.one (.sl 1 (x.binds.map cI))/\b=.agg [int x.op,int x.n,.sl 1 (x.binds.map cI),.lit (.slice none 0 0),.lit (.slice none 0 0)]/\σ=⟨4,(3,.dead)::[(2,.cells (cEx x)),(2,.cells (ti57.zero.map .lit)),(1,.tok 81 1 j),(0,wO lts)],ov⟩
    |[a,b,c]=>a=.one (.sl 1 (x.binds.map cI))/\b=.agg [int x.op,int x.n,.sl 1 (x.binds.map cI),.lit (.slice none 0 0),.lit (.slice none 0 0)]/\c=.one (.ptr (.l 4) 0)/\σ=⟨5,(4,.cells [int x.op,int x.n,.sl 1 (x.binds.map cI),.lit (.slice none 0 0),.lit (.slice none 0 0)])::(3,.dead)::[(2,.cells (cEx x)),(2,.cells (ti57.zero.map .lit)),(1,.tok 81 1 j),(0,wO lts)],ov⟩
    |_=>False) follows (by kernel_rfl) rfl rfl (by decide) (by kernel_rfl) (by kernel_rfl) rfl rfl ?_ (fun _ _ _=>.nil) (by decide) ?_ ?_
  ·rintro vs σ hG
   match vs,hG with
   |[],hG=>subst hG;rfl
   |[a],hG=>obtain⟨_,rfl⟩:=hG;rfl
   |[a,b],hG=>obtain⟨_,_,rfl⟩:=hG;rfl
   |[a,b,c],hG=>obtain⟨_,_,_,rfl⟩:=hG;rfl
  ·rintro vs σ hG i o hp1 hp2
   match vs,hG with
   |[],hG=>
    subst hG
    cases hp1
    cases hp2
    refine⟨rfl,rfl,.inr ⟨rfl,?_⟩⟩
    intro F w C tmps hI hF next Q hk
    refine Q13.appCopyS (news:=x.binds.map cI) tabOk rfl rfl rfl rfl rfl rfl rfl (by simp;show _ * 8<=_;omega) (by simp;omega) F w C tmps hI hF next Q fun u w' C' v σ' hq=>hk u w' C' v σ' ?_
    obtain⟨rfl,rfl⟩:=hq
    exact⟨rfl,rfl⟩
   |[a],hG=>
    obtain⟨rfl,rfl⟩:=hG
    cases hp1
    cases hp2
    exact⟨rfl,rfl,.inl ⟨_,_,HStep.auto tabOk rfl,rfl,rfl,rfl⟩⟩
   |[a,b],hG=>
    obtain⟨rfl,rfl,rfl⟩:=hG
    cases hp1
    cases hp2
    exact⟨rfl,rfl,.inl ⟨_,_,HStep.auto tabOk rfl,rfl,rfl,rfl,rfl⟩⟩
   |[a,b,c],hG=>cases hp1
  rintro vs σ hlen hG
  match vs,hlen,hG with
  |[a,b,c],_,hG=>
  obtain⟨rfl,rfl,rfl,rfl⟩:=hG
  refine zA ?_
  refine ACode.grow 4 3 81 1 rfl rfl ?_
  refine ACode.loopR hΓ (α:=Nat) (fun i=>[(31,.one (int i)),(30,.one (int (x.kids.map cI).length)),(29,.one (.sl 1 (x.kids.map cI))),(6,.one (.ptr (.l 3) 0)),(5,.one (.ptr (.l 2) 0)),(3,.one (.ptr (.l 0) 0)),(15,.one (int j)),(14,.one (int (e.map cEx).length)),(13,.one (.sl 5 (e.map cEx))),(0,.one (.sl 5 (e.map cEx)))])
   (fun i=>⟨5,[(4,.tok 81 1 i),(3,.cells [int x.op,int x.n,.sl 1 (x.binds.map cI),.gs 1 (kC (kidsL lts (x.kids.take i))) (.l 4),.lit (.slice none 0 0)]),(2,.cells (cEx x)),(1,.tok 81 1 j),(0,wO lts)],ov⟩)
   (fun m i=>i<=x.kids.length/\m=x.kids.length - i) (a0:=0) (ρ:=fun k=>if k=3 then 4 else if k=4 then 5 else k) ⟨by omega,rfl⟩ (LessR.of rfl zFS (by simp) ?_ rfl rfl hov) fun m i hi=>?_
  ·repeat' first|exact LoSub.nil|refine zlc ?_|refine zld ?_ ?_|rfl
   all_goals (simp[AObj.ren,renL,AC.ren,kidsL];exact⟨rfl,rfl⟩)
  obtain⟨hil,rfl⟩:=hi
  refine zA ?_
  refine ACode.cond rfl (fun hb3=>?_) (fun hb3=>?_)
  ·have hlt2:i < x.kids.length:=by simpa using hb3
   obtain⟨k,hk⟩:=Q00 hlt2
   have hkb:=hxin k (List.mem_of_getElem? hk)
   obtain⟨k',rfl⟩:∃k':Nat,k=k':=⟨k.toNat,by omega⟩
   obtain⟨tk,htk⟩:=Q00 (l:=lts) (i:=k') (by omega)
   have htd:(lts).getD (k':Int).toNat default=tk:=by rw[Int.toNat_natCast,List.getD_eq_getElem?_getD,htk];rfl
   have hks:=Qb3 (ts:=lts) hk
   rw[htd]at hks
   have hkl:(kC (kidsL lts (x.kids.take i))).length=i:=by simp[kC,kidsL];omega
   refine zA ?_
   refine zS (zIA rfl rfl rfl (by omega) (Q05 hk)) ?_
   refine zA ?_
   refine ACode.drawXH (va:=.one (.gs 1 (kC (kidsL lts (x.kids.take i))++[[AC.ptr (.o tk.id) 0]]) (.l 5))) (σ1:=((St.mk 5 [(4,.tok 81 1 i),(3,.cells [int x.op,int x.n,.sl 1 (x.binds.map cI),.gs 1 (kC (kidsL lts (x.kids.take i))) (.l 4),.lit (.slice none 0 0)]),(2,.cells (cEx x)),(1,.tok 81 1 j),(0,wO lts)] ov).set (.l 4) .dead).push (.tok 81 1 (kC (kidsL lts (x.kids.take i))++[[AC.ptr (.o tk.id) 0]]).length))
    tabOk 14 13 [(10,.one (.box [.ptr (.o tk.id) 0]))] follows (by kernel_rfl) rfl rfl rfl rfl rfl rfl rfl ?_ ?_ ?_ ?_
   ·refine HStep.plain rfl (AStep.append (s:=1) (es:=kC (kidsL lts (x.kids.take i))) (news:=[[AC.ptr (.o tk.id) 0]]) (ti:=ti103) (σ:=⟨5,[(4,.tok 81 1 i),(3,.cells [int x.op,int x.n,.sl 1 (x.binds.map cI),.gs 1 (kC (kidsL lts (x.kids.take i))) (.l 4),.lit (.slice none 0 0)]),(2,.cells (cEx x)),(1,.tok 81 1 j),(0,wO lts)],ov⟩) tabOk rfl rfl rfl rfl rfl rfl (Base.gs' _ 81 1 (kC (kidsL lts (x.kids.take i))) (.l 4) rfl hkl.symm) (.sl _ _) rfl ?_ ?_)
    ·rw[hkl];show (i+1) * 8<=_;omega
    ·rw[hkl];show i+1<=_;omega
   ·exact .step rfl (zHP (AStep.indexAddr tabOk rfl rfl rfl rfl rfl rfl (.inr ⟨_,rfl⟩) rfl (by omega) (Q4q htk))) .nil
   ·exact .step rfl (zHP (AStep.indexAddr tabOk rfl rfl rfl rfl rfl rfl (.inr ⟨_,rfl⟩) rfl (by omega) (Q4q htk))) .nil
   refine zM ?_
   refine cInv ⟨x.kids.length - (i+1),i+1,fun k=>if k=4 then 5 else k,by omega,⟨by omega,rfl⟩,LessR.of rfl zFS (by simp) ?_ rfl rfl hov⟩
   repeat' first|exact LoSub.nil|refine zlc ?_|refine zld ?_ ?_|rfl
   ·simp only[AObj.ren,List.length_append,hkl];rfl
   ·rw[hks,Qck];simp only[AObj.ren,renL,AC.ren];rw[←Qck,Qdv];simp;rfl
  have hlt2:i=x.kids.length:=by simp at hb3;omega
  subst hlt2
  rw[List.take_length]
  refine zA ?_
  refine ACode.grow 3 4 46 2 rfl rfl ?_
  refine ACode.loopR hΓ (α:=Nat×List LAlt) (fun c=>[(55,.one (int c.1)),(54,.one (int (x.alts.map cAlt).length)),(53,.one (.sl 2 (x.alts.map cAlt))),(6,.one (.ptr (.l 3) 0)),(3,.one (.ptr (.l 0) 0)),(15,.one (int j)),(14,.one (int (e.map cEx).length)),(13,.one (.sl 5 (e.map cEx))),(0,.one (.sl 5 (e.map cEx)))])
   (fun c=>⟨6,[(5,.tok 46 2 c.1),(3,.cells [int x.op,int x.n,.sl 1 (x.binds.map cI),.gs 1 (kC (kidsL lts x.kids)) (.l 4),.gs 2 (c.2.map lAlt) (.l 5)]),(1,.tok 81 1 j),(0,wO lts)],ov⟩)
   (fun m c=>c.1<=x.alts.length/\(c.2.map LAlt.er=x.alts.take c.1/\∀y∈c.2,y.nb=none)/\m=x.alts.length - c.1) (a0:=(0,[])) (ρ:=id) ⟨by omega,⟨rfl,by simp⟩,rfl⟩ (LessR.of rfl zFS (by simp) ?_ rfl rfl hov) fun m c hc=>?_
  ·repeat' first|exact LoSub.nil|refine zlc ?_|refine zld ?_ ?_|rfl
   all_goals (simp[AObj.ren,renL,AC.ren];exact⟨rfl,rfl⟩)
  obtain⟨i,la⟩:=c
  obtain⟨hil,⟨hla,hlo⟩,rfl⟩:=hc
  dsimp only at hil hla hlo
  have hll:la.length=i:=by have:=congrArg List.length hla;simp at this;omega
  have hal:(la.map lAlt).length=i:=by simp[hll]
  refine zA ?_
  refine ACode.cond rfl (fun hb3=>?_) (fun hb3=>?_)
  ·have hlt2:i < x.alts.length:=by simpa using hb3
   obtain⟨a,ha⟩:=Q00 hlt2
   have hab:=hxo.ab a (List.mem_of_getElem? ha)
   refine zA ?_
   refine zS (zIA rfl rfl rfl (by omega) (Q05 ha)) ?_
   refine zA ?_
   refine ACode.drawC tabOk 13 [9,10,11,12] [] (fun vs σ=>match vs with
     |[]=>σ=⟨7,[(6,.cells (cAlt a)),(6,.cells (ti46.zero.map .lit)),(5,.tok 46 2 i),(3,.cells [int x.op,int x.n,.sl 1 (x.binds.map cI),.gs 1 (kC (kidsL lts x.kids)) (.l 4),.gs 2 (la.map lAlt) (.l 5)]),(1,.tok 81 1 j),(0,wO lts)],ov⟩
     |[q1]=>q1=.one (bC none a.binds)/\σ=⟨8,(7,.dead)::[(6,.cells (cAlt a)),(6,.cells (ti46.zero.map .lit)),(5,.tok 46 2 i),(3,.cells [int x.op,int x.n,.sl 1 (x.binds.map cI),.gs 1 (kC (kidsL lts x.kids)) (.l 4),.gs 2 (la.map lAlt) (.l 5)]),(1,.tok 81 1 j),(0,wO lts)],ov⟩
     |[q1,q2]=>q1=.one (bC none a.binds)/\q2=.agg [int a.tag,bC none a.binds]/\σ=⟨8,(7,.dead)::[(6,.cells (cAlt a)),(6,.cells (ti46.zero.map .lit)),(5,.tok 46 2 i),(3,.cells [int x.op,int x.n,.sl 1 (x.binds.map cI),.gs 1 (kC (kidsL lts x.kids)) (.l 4),.gs 2 (la.map lAlt) (.l 5)]),(1,.tok 81 1 j),(0,wO lts)],ov⟩
     |[q1,q2,q3]=>q1=.one (bC none a.binds)/\q2=.agg [int a.tag,bC none a.binds]/\q3=.one (.sl 2 [[int a.tag,bC none a.binds]])/\σ=⟨8,(7,.dead)::[(6,.cells (cAlt a)),(6,.cells (ti46.zero.map .lit)),(5,.tok 46 2 i),(3,.cells [int x.op,int x.n,.sl 1 (x.binds.map cI),.gs 1 (kC (kidsL lts x.kids)) (.l 4),.gs 2 (la.map lAlt) (.l 5)]),(1,.tok 81 1 j),(0,wO lts)],ov⟩
     |[q1,q2,q3,q4]=>q1=.one (bC none a.binds)/\q2=.agg [int a.tag,bC none a.binds]/\q3=.one (.sl 2 [[int a.tag,bC none a.binds]])/\q4=.one (.gs 2 (la.map lAlt++[[int a.tag,bC none a.binds]]) (.l 8))/\σ=⟨9,[(8,.tok 46 2 (la.map lAlt++[[int a.tag,bC none a.binds]]).length),(5,.dead),(7,.dead),(6,.cells (cAlt a)),(6,.cells (ti46.zero.map .lit)),(5,.tok 46 2 i),(3,.cells [int x.op,int x.n,.sl 1 (x.binds.map cI),.gs 1 (kC (kidsL lts x.kids)) (.l 4),.gs 2 (la.map lAlt) (.l 5)]),(1,.tok 81 1 j),(0,wO lts)],ov⟩
     |_=>False) follows (by kernel_rfl) rfl rfl (by decide) (by kernel_rfl) (by kernel_rfl) rfl rfl ?_ (fun _ _ _=>.nil) (by decide) ?_ ?_
   ·rintro vs σ hG
    match vs,hG with
    |[],hG=>subst hG;rfl
    |[_],hG=>obtain⟨_,rfl⟩:=hG;rfl
    |[_,_],hG=>obtain⟨_,_,rfl⟩:=hG;rfl
    |[_,_,_],hG=>obtain⟨_,_,_,rfl⟩:=hG;rfl
    |[_,_,_,_],hG=>obtain⟨_,_,_,_,rfl⟩:=hG;rfl
   ·rintro vs σ hG q o hp1 hp2
    match vs,hG with
    |[],hG=>
     subst hG
     cases hp1
     cases hp2
     refine⟨rfl,rfl,.inr ⟨rfl,?_⟩⟩
     intro F w C tmps hI hF next Q hk
     refine Q13.appCopyS (news:=a.binds.map cI) tabOk rfl rfl rfl rfl rfl rfl rfl (by simp;show _ * 8<=_;omega) (by simp;omega) F w C tmps hI hF next Q fun u w' C' v σ' hq=>hk u w' C' v σ' ?_
     obtain⟨rfl,rfl⟩:=hq
     exact⟨rfl,rfl⟩
    |[_],hG=>
     obtain⟨rfl,rfl⟩:=hG
     cases hp1
     cases hp2
     exact⟨rfl,rfl,.inl ⟨_,_,HStep.auto tabOk rfl,rfl,rfl,rfl⟩⟩
    |[_,_],hG=>
     obtain⟨rfl,rfl,rfl⟩:=hG
     cases hp1
     cases hp2
     exact⟨rfl,rfl,.inl ⟨_,_,HStep.auto tabOk rfl,rfl,rfl,rfl,rfl⟩⟩
    |[_,_,_],hG=>
     obtain⟨rfl,rfl,rfl,rfl⟩:=hG
     cases hp1
     cases hp2
     refine⟨rfl,rfl,.inl ⟨_,_,HStep.plain rfl (AStep.append (s:=2) (es:=la.map lAlt) (news:=[[int a.tag,bC none a.binds]]) (ti:=ti47) tabOk rfl rfl rfl rfl rfl rfl (Base.gs' _ 46 2 (la.map lAlt) (.l 5) rfl hal.symm) (.sl _ _) rfl ?_ ?_),rfl,rfl,rfl,rfl,rfl⟩⟩
     ·rw[hal];show (i+1) * 32<=_;omega
     ·rw[hal];show i+1<=_;omega
    |[_,_,_,_],hG=>cases hp1
   rintro vs σ hlen hG
   match vs,hlen,hG with
   |[_,_,_,_],_,hG=>
   obtain⟨rfl,rfl,rfl,rfl,rfl⟩:=hG
   refine zM ?_
   obtain⟨la',hla'⟩:∃la',la'=la++[⟨a.tag,none,a.binds⟩]:=⟨_,rfl⟩
   have hlm:la.map lAlt++[[int a.tag,bC none a.binds]]=la'.map lAlt:=by rw[hla',List.map_append];rfl
   refine cInv ⟨x.alts.length - (i+1),(i+1,la'),fun k=>if k=5 then 8 else k,by omega,⟨by omega,⟨by rw[hla',List.map_append,hla,Q11 ha];rfl,?_⟩,rfl⟩,LessR.of rfl zFS (by simp) ?_ rfl rfl hov⟩
   ·intro y hy
    rw[hla']at hy
    rcases List.mem_append.1 hy with hy|hy
    ·exact hlo y hy
    ·simp at hy;subst hy;rfl
   ·repeat' first|exact LoSub.nil|refine zlc ?_|refine zld ?_ ?_|rfl
    ·simp only[AObj.ren,List.length_append,hal];rfl
    ·simp only[hlm,AObj.ren,renL,AC.ren,Qdv,Qdu];simp;exact⟨rfl,rfl⟩
  have hlt2:i=x.alts.length:=by simp at hb3;omega
  subst hlt2
  rw[List.take_length]at hla
  repeat ((fail_if_success ((with_reducible refine oj ?_);refine AOps.atDst 75 rfl ?_));first|refine zO ?_)
  refine AOps.wkObj (.l 3) rfl (cs':=[int x.op,int x.n,.sl 1 (x.binds.map cI),.sl 1 (kC (kidsL lts x.kids)),.sl 2 (la.map lAlt)]) (fun w C xs h=>?_) ?_
  ·exact (show WkL _ _ from .cons (.refl _) (.cons (.refl _) (.cons (.refl _) (.cons (.gsE rfl) (.cons (.gsE rfl) .nil))))) w C xs h
  have hθ:∀(k:Nat) (i:Abs.Id),isO i->toOs [3] k i=i:=fun k i hi=>by cases i with|l q=>exact hi.elim|o q=>rfl
  have hnid:(AObj.cells [int x.op,int x.n,.sl 1 (x.binds.map cI),.sl 1 (kC (kidsL lts x.kids)),.sl 2 (la.map lAlt)]).ids isO:=Q8e x.op x.n none x.binds (kidsL lts x.kids) la
  refine AOps.cedes [3] rfl (by decide) hov fun k hk=>⟨[(6,.one (.ptr (.o k) 0)),(3,.one (.ptr (.l 0) 0)),(15,.one (int j)),(14,.one (int (e.map cEx).length)),(13,.one (.sl 5 (e.map cEx))),(0,.one (.sl 5 (e.map cEx)))],
   [(1,.tok 81 1 j),(0,wO lts)],[.cells [int x.op,int x.n,.sl 1 (x.binds.map cI),.sl 1 (kC (kidsL lts x.kids)),.sl 2 (la.map lAlt)]],?_,?_,?_,?_⟩
  ·exact .cons rfl rfl (.cons rfl rfl (.cons rfl rfl (.cons rfl rfl (.cons rfl (FV.sub_f (hθ k) _ (by simp)) (.cons rfl (FV.sub_f (hθ k) _ (by simp)) .nil)))))
  ·refine .cons rfl rfl rfl (.cons rfl rfl ?_ .nil)
   simp only[wO,AObj.sub,subL,AC.sub]
   rw[Qdk (hθ k) _ (Qid _)]
   rfl
  ·exact .cons rfl (AObj.sub_f (hθ k) _ hnid) .nil
  have hN1:=NewO.add hk hov hnid
  have hN2:=hN.trans hN1
  obtain⟨t,ht⟩:∃t:LTr,t=.mk k x.op x.n none x.binds (kidsL lts x.kids) la:=⟨_,rfl⟩
  have hto:lts.flatMap ownO++[(k,.cells [int x.op,int x.n,.sl 1 (x.binds.map cI),.sl 1 (kC (kidsL lts x.kids)),.sl 2 (la.map lAlt)])]=(lts++[t]).flatMap ownO:=by
   rw[List.flatMap_append,ht]
   simp[ownO,bO,bC,Q89 hlo]
  rw[hto]at hN2
  have hL2:=hL.snoc (Qb4 (by rw[List.take_append_drop];exact hin)) (x:=x) (fun q hq=>by have:=hxin q hq;simp;omega) (id:=k) (nb:=none) hla rfl hlo
  rw[←Q11 hx,show LTr.mk k x.op x.n none x.binds (x.kids.map fun q=>lts.getD q.toNat default) la=t by rw[ht];rfl]at hL2
  refine zA ?_
  refine AOps.app tabOk rfl rfl rfl rfl rfl rfl rfl rfl rfl (Base.gs' _ 81 1 _ _ rfl hkcl.symm) (.sl _ _) rfl ?_ ?_ ?_
  ·rw[hkcl];show (j+1) * 8<=_;omega
  ·rw[hkcl];show j+1<=_;omega
  refine zM ?_
  have hsk:kC lts++[[AC.ptr (.o k) 0]]=kC (lts++[t]):=by rw[Qi9,ht];rfl
  refine cInv ⟨e.length - (j+1),(j+1,lts++[t],_),fun q=>if q=1 then 6 else q,by omega,⟨by omega,⟨hL2,hN2⟩,rfl⟩,LessR.of rfl zFS (by simp) ?_ rfl rfl hN2.ok⟩
  repeat' first|exact LoSub.nil|refine zlc ?_|refine zld ?_ ?_|rfl
  ·simp only[AObj.ren,List.length_append,hkcl];rfl
  ·show _=AObj.ren _ (.cells [.gs 1 (kC (lts++[t])) (.l 1),.lit (.pointer none)])
   simp only[AObj.ren,renL,AC.ren,Qdv]
   rw[hsk];rfl
 ·have hlt:j=e.length:=by simp at hb2;omega
  subst hlt
  rw[List.take_length]at hL
  obtain⟨N,hNe⟩:∃N,e.length=N+1:=⟨e.length - 1,by have:=List.length_pos_iff.2 hne;omega⟩
  obtain⟨t,ht⟩:=Q00 (l:=lts) (i:=N) (by rw[hL.len];omega)
  have hnt:e.length - 1=N:=by omega
  refine zM ?_
  refine AOps.wk 93 rfl (y:=.one (int (N:Nat))) (.ofEq (by congr 3;simp;omega)) ?_
  refine zS (AStep.indexAddr tabOk rfl rfl rfl rfl rfl rfl (.inr ⟨_,rfl⟩) rfl (by omega) (Q4q ht)) ?_
  repeat ((fail_if_success ((with_reducible refine oj ?_);refine AOps.atDst 98 rfl ?_));first|refine zO ?_)
  refine AOps.wkObj (.l 0) rfl (cs':=[.sl 1 (kC lts),.ptr (.o t.id) 0]) (fun w C xs h=>?_) ?_
  ·exact (show WkL _ _ from .cons (.gsE rfl) (.cons (.refl _) .nil)) w C xs h
  refine AOps.freeze1 (.l 0) 3 rfl rfl ?_
  refine zA ?_
  exact AFn.fin' rfl (WkF.ofEq rfl) (by simp) hov ⟨lts,t,rfl,hL,by rw[hnt];exact ht,hN⟩
end Go.Proofs.YtpaonemmbhbgoaaGreatDoor
namespace Go.CoreX
theorem Qj6{e:List Ex}{x:Ex}(h:Q0g false e x=0)(h1:x.op=1):-1073741824<=x.n/\x.n<=1073741823:=by
 unfold Q0g at h
 split at h
 ·cases h
 ·unfold Q1b at h
  split at h
  ·cases h
  ·split at h
   ·rename_i hr;exact absurd h hr
   ·rename_i hr
    have hr':ranges x=0:=by simpa using hr
    unfold ranges at hr'
    repeat' split at hr'
    all_goals first
     |(cases hr';done)
     |skip
    all_goals
     rename_i hf _
     simp[between,lowN,highN,h1]at *
     try omega
theorem Q9z{e:List Ex}(h:check e=0):allT (fun l=>l.op=1->-1073741824<=l.n/\l.n<=1073741823) (grow e):=by
 obtain⟨_,p2,_,_⟩:=Q1j h
 exact Q6w (Q0h h) fun x hx h1=>Qj6 (p2 x hx) h1
theorem Q78{e:List Ex}(hk:Q0p e)(hp:∀x∈e,pOk (labE e x))(p:Nat){X:Tr}(hX:allT pOk X):∀(n j:Nat),j < n->j < e.length->allT pOk ((Q1e e p X).getD j default)
 |0,j,hj,_=>by omega
 |n+1,j,hj,hl=>by
  obtain⟨x,hx⟩:∃x,e[j]?=some x:=⟨e[j],List.getElem?_eq_getElem hl⟩
  rw[Q4g hk p X hx]
  split
  ·exact hX
  ·have h:=hp x (List.mem_of_getElem? hx)
   refine⟨⟨h.b,?_,h.a,h.ab,h.s⟩,Q45.2 fun t ht=>?_⟩
   ·have:=h.k
    simp only[labE,List.length_map]at this ⊢
    exact this
   ·obtain⟨q,hq,rfl⟩:=List.mem_map.1 ht
    have:=hk j x hx q hq
    exact Q78 hk hp p hX n q.toNat (by omega) (by omega)
theorem Qez{e:List Ex}(h:check e=0){k:Nat}(hk:k < e.length):cntN (Q06 e k)<=4096:=by
 have t1:=Q0h h
 obtain⟨p1,_⟩:=Q1j h
 obtain⟨q1,_,_⟩:=(Q1f e).1 p1
 have h1:=len_sub t1 hk
 have h2:=Q1o (Q06 e k) []
 simp only[List.length_nil]at h2
 omega
end Go.CoreX
namespace Go.Proofs.YtpaonemmbhbgoaaGreatDoor
open Go Go.Abs Go.CoreX
theorem LinkL.plain{e:List Ex}{lts:List LTr}(h:LinkL e lts Qdz)(hk:Q0p e):∀(n i:Nat)(t:LTr),i < n->lts[i]?=some t->Q3o t
 |0,i,t,hi,_=>by omega
 |n+1,i,t,hi,ht=>by
  have hil:i < e.length:=by rw[←h.len];exact (List.getElem?_eq_some_iff.1 ht).1
  obtain⟨x,hx⟩:=Q00 hil
  obtain⟨id,nb,a,h1,h2,h3,h4⟩:=h.at_ i x hx
  rw[ht]at h1
  cases h1
  refine⟨h3,h4,Q5t.2 fun s hs=>?_⟩
  obtain⟨q,hq,rfl⟩:=List.mem_map.1 hs
  have hq':=hk i x hx q hq
  obtain⟨t',ht'⟩:=Q00 (l:=lts) (i:=q.toNat) (by rw[h.len];omega)
  rw[h.getD ht']
  exact h.plain hk n q.toNat t' (by omega) ht'
theorem Q5n(k:Nat){s:LTr}:∀{l:List LTr},s∈l->(keys (objs s)).count k<=(keys (objss l)).count k
 |[],h=>by cases h
 |t::l,h=>by
  simp only[objss,Q21,List.count_append]
  rcases List.mem_cons.1 h with rfl|h
  ·omega
  ·have:=Q5n k h;omega
theorem Qkc(k:Nat){t0 t:LTr}(h:SubL t0 t):(keys (objs t0)).count k<=(keys (objs t)).count k:=by
 induction h with
 |here=>exact Nat.le_refl _
 |@kid t s hs _ ih=>
  have h1:=Qax k t
  have h2:=Q5n k hs
  omega
theorem Qkb{t0 t:LTr}(h:SubL t0 t)(hn:(keys (objs t)).Nodup):(keys (objs t0)).Nodup:=by
 rw[List.nodup_iff_count]at hn ⊢
 exact fun k=>Nat.le_trans (Qkc k h) (hn k)
theorem Ql7:∀t:LTr,t.id∈keys (ownO t)
 |.mk i o n nb b k a=>by simp[ownO,keys,LTr.id]
theorem Qm1:∀{lts:List LTr},(keys (lts.flatMap ownO)).Nodup->∀(i j:Nat)(ti tj:LTr),lts[i]?=some ti->lts[j]?=some tj->ti.id=tj.id->i=j
 |[],_,i,j,ti,tj,h,_,_=>by simp at h
 |t::l,hn,i,j,ti,tj,hi,hj,he=>by
  rw[List.flatMap_cons,Q21,List.nodup_append]at hn
  have hmem:∀(q:Nat) (s:LTr),l[q]?=some s->s.id∈keys (l.flatMap ownO):=fun q s hs=>by
   obtain⟨o,ho⟩:=Q1r (Ql7 s)
   exact Q0q (List.mem_flatMap.2 ⟨s,List.mem_of_getElem? hs,ho⟩)
  cases i with
  |zero=>
   simp at hi;subst hi
   cases j with
   |zero=>rfl
   |succ j=>exact absurd he (hn.2.2 _ (Ql7 _) _ (hmem j tj (by simpa using hj)))
  |succ i=>
   cases j with
   |zero=>
    simp at hj;subst hj
    exact absurd he.symm (hn.2.2 _ (Ql7 _) _ (hmem i ti (by simpa using hi)))
   |succ j=>rw[Qm1 hn.2.1 i j ti tj (by simpa using hi) (by simpa using hj) he]
variable {Γ:List (Nat×List AC)}
structure NameOk (e:List Ex)(rule n:Int)(at':Nat):Prop where
 n:rule=10->∀(ou:Outer) (lts:List LTr) (root t:LTr),LinkL e lts Qdz->lts[e.length - 1]?=some root->lts[at']?=some t->Owns ou (lts.flatMap ownO)->(keys (objs t)).Nodup->AFn Tryz.prog Γc 109 [.one (.box [.sl 1 (kC lts),.ptr (.o root.id) 0]),.one (.ptr (.o t.id) 0),.one (int n)] ou (ResW ou t (Qea (grow e) (erT t) n))
 u:rule=12->∀(ou:Outer) (lts:List LTr) (root t:LTr),LinkL e lts Qdz->lts[e.length - 1]?=some root->lts[at']?=some t->Owns ou (lts.flatMap ownO)->(erT t).op=0->AFn Tryz.prog Γc 110 [.one (.box [.sl 1 (kC lts),.ptr (.o root.id) 0]),.one (.ptr (.o t.id) 0)] ou (ResW ou t (Q8o (growL e) (grow e) (erT t)))
theorem NameOk.no{e:List Ex}{rule n:Int}{at':Nat}(h1:rule≠10)(h2:rule≠12):NameOk e rule n at':=⟨fun h=>absurd h h1,fun h=>absurd h h2⟩
set_option maxHeartbeats 1000000 in
theorem Qos(e:List Ex)(he:okB e)(rule at' n:Int)(hno:check e=0->0<=at'->at' < (e.length:Int)->NameOk e rule n at'.toNat):APure Tryz.prog Γc 56 [.one (.sl 5 (e.map cEx)),.agg [int rule,int at',int n]] (.tup [.one (.sl 5 ((Q0z e rule at' n).1.map cEx)),.one (int (Q0z e rule at' n).2)]):=by
 have c1:=Q38 e he
 have hel:=he.eo.l
 intro ou
 refine AFn.forget ?_
 refine AFn.walk 64 tabOk Tryz.func56 rfl (by kernel_rfl) rfl rfl fun hou=>?_
 refine zA ?_
 refine zca hΓc c1 hou ?_
 refine zA ?_
 refine ACode.cond rfl (fun hb=>?_) (fun hb=>?_)
 ·have h:check e≠0:=by simpa using hb
  refine zA ?_
  refine AFn.fin' rfl (.trans (WkF.tup (.cons (.one (.nilS 5)) (.cons (.refl _) .nil))) (.ofEq ?_)) (by simp) hou ⟨ou,fun _ _ h=>h,rfl,rfl⟩
  unfold Q0z
  rw[if_pos h];rfl
 have h:check e=0:=by simpa using hb
 have t1:=Q0h h
 refine zA ?_
 refine AOps.splitS rfl rfl rfl rfl (fun hb1=>?_) (fun hb1=>?_)
 ·have h1:rule < 1:=by simpa using hb1
  refine zA ?_
  refine AFn.fin' rfl (.trans (WkF.tup (.cons (.one (.nilS 5)) (.cons (.refl _) .nil))) (.ofEq ?_)) (by simp) hou ⟨ou,fun _ _ h=>h,rfl,rfl⟩
  unfold Q0z
  rw[if_neg (by simpa using h),if_pos (.inl h1)];rfl
 have h1:¬rule < 1:=by simpa using hb1
 refine zA ?_
 refine ACode.cond rfl (fun hb2=>?_) (fun hb2=>?_)
 ·have h2:12 < rule:=by simpa using hb2
  refine zA ?_
  refine AFn.fin' rfl (.trans (WkF.tup (.cons (.one (.nilS 5)) (.cons (.refl _) .nil))) (.ofEq ?_)) (by simp) hou ⟨ou,fun _ _ h=>h,rfl,rfl⟩
  unfold Q0z
  rw[if_neg (by simpa using h),if_pos (.inr h2)];rfl
 have h2:¬12 < rule:=by simpa using hb2
 refine zA ?_
 refine AOps.splitS rfl rfl rfl rfl (fun hb3=>?_) (fun hb3=>?_)
 ·have h3:at' < 0:=by simpa using hb3
  refine zA ?_
  refine AFn.fin' rfl (.trans (WkF.tup (.cons (.one (.nilS 5)) (.cons (.refl _) .nil))) (.ofEq ?_)) (by simp) hou ⟨ou,fun _ _ h=>h,rfl,rfl⟩
  unfold Q0z
  rw[if_neg (by simpa using h),if_neg (by omega),if_pos (.inl h3)];rfl
 have h3:¬at' < 0:=by simpa using hb3
 refine zA ?_
 refine ACode.cond rfl (fun hb4=>?_) (fun hb4=>?_)
 ·have h4:(e.length:Int)<=at':=by simpa using hb4
  refine zA ?_
  refine AFn.fin' rfl (.trans (WkF.tup (.cons (.one (.nilS 5)) (.cons (.refl _) .nil))) (.ofEq ?_)) (by simp) hou ⟨ou,fun _ _ h=>h,rfl,rfl⟩
  unfold Q0z
  rw[if_neg (by simpa using h),if_neg (by omega),if_pos (.inr h4)];rfl
 have h4:¬(e.length:Int)<=at':=by simpa using hb4
 have hap:Q0z e rule at' n=match resT (growL e) (grow e) rule n (Q06 e at'.toNat) with
  |none=>([],12)
  |some x=>if check (listT [] (growR e at'.toNat x))≠0 then ([],2)else (listT [] (growR e at'.toNat x),0):=by
  conv=>lhs;unfold Q0z
  rw[if_neg (by simpa using h),if_neg (by omega),if_neg (by omega)]
  cases resT (growL e) (grow e) rule n (Q06 e at'.toNat) <;> rfl
 have hno:=hno h (by omega) (by omega)
 obtain⟨p,rfl⟩:∃p:Nat,at'=p:=⟨at'.toNat,by omega⟩
 rw[Int.toNat_natCast]at hap hno
 have hp:p < e.length:=by omega
 obtain⟨x,hx⟩:=Q00 hp
 refine zA ?_
 refine AOps.call1 hΓc rfl rfl rfl rfl rfl rfl rfl (by simp) hou (Qld hΓc e he.eo t1.k t1.ne ou) fun r ov hq hids hov=>?_
 obtain⟨lts,root,rfl,hL,hr,hN⟩:=hq
 obtain⟨id,nb,a,ht0,ha,hnb,hab⟩:=hL.at_ p x hx
 obtain rfl:nb=none:=hnb
 obtain⟨ks,hks⟩:∃ks,ks=x.kids.map fun q=>lts.getD q.toNat default:=⟨_,rfl⟩
 rw[←hks]at ht0
 obtain⟨t,hte⟩:∃t,t=LTr.mk id x.op x.n none x.binds ks a:=⟨_,rfl⟩
 have ht:lts[p]?=some t:=by rw[hte];exact ht0
 have hpl:=hL.plain t1.k _ p t (Nat.lt_succ_self _) ht
 have her:erT t=Q06 e p:=hL.er t1.k _ p t (Nat.lt_succ_self _) ht
 have hrer:erT root=grow e:=by
  have:=hL.er t1.k _ _ root (Nat.lt_succ_self _) hr
  rw[this];rfl
 have hok:okT (erT t):=by rw[her];exact Q4x he t1 hp
 have hsh:allT shpL (erT t):=by rw[her];exact Q2v t1 (Qf4 h) hp
 have hwd:allT (fun l=>l.op=1->-1073741824<=l.n/\l.n<=1073741823) (erT t):=by rw[her];exact Q2v t1 (Q9z h) hp
 have hct:cntN (erT t)<=4096:=by rw[her];exact Qez h hp
 have hcr:cntN (erT root)<=4096:=by
  rw[hrer];exact Qez h (k:=e.length - 1) (by have:=List.length_pos_iff.2 t1.ne;omega)
 have hOw:∀(q:Nat) (s:LTr),lts[q]?=some s->Owns ov (objs s):=fun q s hs o ho=>hN.own o (hL.own t1.k _ q s (Nat.lt_succ_self _) hs o ho)
 have hrn:(keys (objs root)).Nodup:=hL.nodup t1 hN.nd hr
 have hsub:=hL.sub t1 hr p t ht
 have htn:=Qkb hsub hrn
 have hinj:=Qm1 hN.nd
 have hres:=Qku (Γ:=Γc) hΓc [.sl 1 (kC lts),.ptr (.o root.id) 0] (by simp) (growL e) (grow e) rule p n id x.op x.n x.binds ks a (by rw[←hte];exact hpl) (by rw[←hte];exact hok) (by rw[←hte];exact hsh) (by rw[←hte];omega)
  (fun s hs h1 => by
   have h2:=Q1l hwd (Q2w (t:=t) (s:=s) (by rw[hte];exact hs))
   cases hse:erT s with
   |mk o' n' b' k' a'=>
    rw[hse]at h2 h1
    exact h2.1 h1)
  ov (by rw[←hte];exact hOw p t ht) (by rw[←hte];exact htn)
  (fun h10=>by rw[←hte];have:=hno.n h10 ov lts root t hL hr ht hN.own htn;rwa [hte]at this ⊢) (fun h12 h0=>by rw[←hte];have:=hno.u h12 ov lts root t hL hr ht hN.own (by rw[hte];exact h0);rwa [hte]at this ⊢)
 rw[←hte,her]at hres
 have hti:t.id=id:=by rw[hte];rfl
 obtain⟨X,hX⟩:∃X,X=resT (growL e) (grow e) rule n (Q06 e p):=⟨_,rfl⟩
 rw[←hX]at hres hap
 refine zA ?_
 refine ACode.drawX tabOk 8 [(6,.one (.box [.ptr (.o id) 0]))] follows (by kernel_rfl) rfl rfl rfl rfl ?_ ?_
 ·exact .step rfl (zHP (zIA rfl rfl rfl (by omega) (by rw[←hti];exact Q4q ht))) .nil
 refine zA ?_
 refine AOps.call1 hΓc rfl rfl rfl rfl rfl rfl rfl (by simp[idsF]) hov hres fun r ow hq hids how=>?_
 cases X with
 |none=>
  obtain⟨rfl,_,hfr⟩:=hq
  refine zA ?_
  refine zS (AStep.eqNil0 Tryz.underlying81 rfl rfl rfl) ?_
  refine zA ?_
  exact AFn.fin' rfl (.trans (WkF.tup (.cons (.one (.nilS 5)) (.cons (.refl _) .nil))) (.ofEq (by rw[hap];rfl))) (by simp) how ⟨ou,fun m o hm=>hfr m o (hN.oldS hm),rfl,rfl⟩
 |some X=>
  obtain⟨u,rfl,heu,huo,htu,_,hfr,huk⟩:=hq
  have hpX:allT pOk X:=Qkv (nodes:=growL e) (root:=grow e) (t:=Q06 e p) (by rw[←her];exact Q49 _ hok) (fun s hs=>by
   obtain⟨q,hq1,hq2⟩:=List.getElem_of_mem hs
   rw[Q0c]at hq1
   have:Q06 e q=s:=by unfold Q06;rw[List.getD_eq_getElem?_getD,List.getElem?_eq_getElem (by rw[Q0c];exact hq1),hq2];rfl
   rw[←this];exact Q49 _ (Q4x he t1 hq1)) hX.symm
  have hcX:cntN X<=4 * 4096+4:=res_cnt (nodes:=growL e) (root:=grow e) (t:=Q06 e p) (by rw[←her];exact hsh) (Qez h hp) (fun s hs=>by
   obtain⟨q,hq1,hq2⟩:=List.getElem_of_mem hs
   rw[Q0c]at hq1
   have:Q06 e q=s:=by unfold Q06;rw[List.getD_eq_getElem?_getD,List.getElem?_eq_getElem (by rw[Q0c];exact hq1),hq2];rfl
   rw[←this];exact Qez h hq1) hX.symm
  have htO:=hOw p t ht
  have htg:ow t.id=some (.cells (lC t)):=hfr _ _ (Q0f htO) (Q8u htn)
  have hug:=Q0f huo
  have htut:t.id∉keys (tailO u):=fun hm=>htu (by rw[Q0d];exact List.mem_cons_of_mem _ hm)
  have huo':Owns (setO ow t.id (.cells (lC u))) (objs (Q31 t.id u)):=Q71 (Q8a huo) htut
  have hro:Owns (setO ow t.id (.cells (lC u))) (objs (putL t.id (Q31 t.id u) root)):=fun q hq=>by
   rcases Qkz hsub hrn (Q2h t.id u) q hq with h5|⟨h5,h6⟩
   ·exact huo' q h5
   ·have hqt:q.1≠t.id:=fun e1=>h6 (e1▸Qb8 t)
    rw[Q50 hqt]
    exact hfr _ _ (hOw _ root hr q h5) (fun hm=>h6 (by rw[Q0d];exact List.mem_cons_of_mem _ hm))
  have hrid:(putL t.id (Q31 t.id u) root).id=root.id:=Ql1 (Q2h t.id u) root
  have hrer':erT (putL t.id (Q31 t.id u) root)=growR e p X:=by
   rw[hL.put_er t1.k hinj ht (Q31 t.id u) _ _ root (Nat.lt_succ_self _) hr,Q63,heu];rfl
  have hcnt:cntN (growR e p X)<=1048576:=by
   have h5:=put_cnt (u:=Q31 t.id u) hsub hrn
   rw[hrer',Q63,heu]at h5
   omega
  have hpk:allT pOk (growR e p X):=Q78 t1.k (fun y hy=>Qhu he _ (List.mem_map_of_mem (f:=labE e) hy)) p hpX _ _ (Nat.lt_succ_self _) (by have:=List.length_pos_iff.2 t1.ne;omega)
  have how3:OuOk (setO ow t.id (.cells (lC u))):=Qfr how (Qee u)
  have hhap:Q0z e rule p n=if check (listT [] (growR e p X))≠0 then ([],2)else (listT [] (growR e p X),0):=hap
  have hfin:∀m o,ou m=some o->m∉keys (objs (putL t.id (Q31 t.id u) root))/\setO ow t.id (.cells (lC u)) m=some o:=fun m o hm=>by
   have hmN:m∉keys (lts.flatMap ownO):=fun hk=>by have:=hN.new m hk;rw[hm]at this;cases this
   have hmt:m∉keys (objs t):=fun hk=>by
    obtain⟨o',ho'⟩:=Q1r hk
    exact hmN (Q0q (hL.own t1.k _ p t (Nat.lt_succ_self _) ht _ ho'))
   have hw:ow m=some o:=hfr _ _ (hN.oldS hm) (fun hk=>hmt (by rw[Q0d];exact List.mem_cons_of_mem _ hk))
   have hmt2:m≠t.id:=fun e1=>hmt (e1▸Qb8 t)
   refine⟨fun hk=>?_,by rw[Q50 hmt2];exact hw⟩
   obtain⟨o',ho'⟩:=Q1r hk
   rcases Qkz hsub hrn (Q2h t.id u) _ ho' with h5|⟨h5,_⟩
   ·rw[Q0d,Q2h,Q3a]at h5
    rcases List.mem_cons.1 h5 with h5|h5
    ·exact hmt2 (by injection h5)
    ·rcases huk m (by rw[Q0d];exact List.mem_cons_of_mem _ (Q0q h5))with h6|h6
     ·exact hmt (by rw[Q0d];exact List.mem_cons_of_mem _ h6)
     ·rw[hN.oldS hm]at h6;cases h6
   ·exact hmN (Q0q (hL.own t1.k _ _ root (Nat.lt_succ_self _) hr _ h5))
  generalize hR:putL t.id (Q31 t.id u) root=R at hro hrid hrer' hfin
  cases u with
  |mk ku ou' nu nbu bu ksu au=>
  simp only[lC]at hug
  refine zA ?_
  refine zS (AStep.eqNil Tryz.underlying81 rfl rfl rfl) ?_
  refine zA ?_
  refine zS (AStep.loadOwnA tabOk rfl rfl rfl rfl rfl hug) ?_
  refine zA ?_
  rw[hti]at htg how3 hro hfin
  refine AOps.storeOwnA tabOk rfl rfl rfl rfl rfl (by simp[Qlm]) rfl rfl htg ?_
  repeat ((fail_if_success ((with_reducible refine oj ?_);refine AOps.atDst 59 rfl ?_));first|refine zO ?_)
  rw[←hrid]
  refine AOps.freezeU (t:=R) 58 hro rfl ?_
  rw[hrer']
  have hokd:OuOk (deadL (setO ow id (.cells (lC (.mk ku ou' nu nbu bu ksu au)))) (keys (objs R))):=fun m o hm=>by
   unfold deadL at hm
   split at hm
   ·cases hm;trivial
   ·exact how3 m o hm
  have hfind:∀m o,ou m=some o->deadL (setO ow id (.cells (lC (.mk ku ou' nu nbu bu ksu au)))) (keys (objs R)) m=some o:=fun m o hm=>by
   unfold deadL
   rw[if_neg (hfin m o hm).1]
   exact (hfin m o hm).2
  have hgl:(listT [] (growR e p X)).length<=1048576:=by have:=Q1o (growR e p X) [];simp at this;omega
  have hli:=Qgt (Γ:=Γc) hΓc (growR e p X) (Ql4 _ hpk) hgl
  have hck:=Q38 _ (Q5f hpk hcnt)
  refine zca hΓc hli hokd ?_
  refine zA ?_
  refine zca hΓc hck hokd ?_
  refine zA ?_
  refine ACode.cond rfl (fun hbc=>?_) (fun hbc=>?_)
  ·have hc:check (listT [] (growR e p X))≠0:=by simpa using hbc
   refine zA ?_
   exact AFn.fin' rfl (.trans (WkF.tup (.cons (.one (.nilS 5)) (.cons (.refl _) .nil))) (.ofEq (by rw[hhap,if_pos hc];rfl))) (by simp) hokd ⟨ou,hfind,rfl,rfl⟩
  ·have hc:¬check (listT [] (growR e p X))≠0:=by simpa using hbc
   refine zA ?_
   exact AFn.fin' rfl (.ofEq (by rw[hhap,if_neg hc])) (by simp) hokd ⟨ou,hfind,rfl,rfl⟩
theorem Qk2(e:List Ex)(he:okB e)(rule at' n:Int)(h1:rule≠10)(h2:rule≠12):APure Tryz.prog Γc 56 [.one (.sl 5 (e.map cEx)),.agg [int rule,int at',int n]] (.tup [.one (.sl 5 ((Q0z e rule at' n).1.map cEx)),.one (int (Q0z e rule at' n).2)]):=Qos e he rule at' n fun _ _ _=>NameOk.no h1 h2
def ManyQ (e:List Ex)(ou:Outer)(r:FV)(ou':Outer):Prop:=∃(k ck:Nat)(l:List (Nat×Int×Int))(f:Nm),r=.one (.mp (.o k))/\ou' k=some (.map ck (encI eN l))/\IMOk f ck l/\(∀q,(f q).getD 0=(manyE e q:Nat))/\OuOk ou'/\∀j o,ou j=some o->ou' j=some o
theorem Qlh(e:List Ex)(x:Ex)(q:Int):manyE (e++[x]) q=manyE e q+if x.op=0/\x.n=q then 1 else 0:=by
 unfold manyE
 rw[List.countP_append,List.countP_singleton]
 simp
theorem many_le(e:List Ex)(q:Int):manyE e q<=e.length:=List.countP_le_length
theorem Qad(hΓ:∀g cs,(g,cs)∈Γ->idsL isO cs)(e:List Ex)(hel:e.length<=1048576)(ou:Outer):AFn Tryz.prog Γ 85 [.one (.sl 5 (e.map cEx))] ou (ManyQ e ou):=by
 refine AFn.walk 23 tabOk Tryz.func85 rfl (by kernel_rfl) rfl rfl fun hou=>?_
 refine zA ?_
 refine zS (AStep.makeMap rfl) ?_
 refine zA ?_
 refine ACode.loopR hΓ (α:=Nat×Nat×List (Nat×Int×Int)×Nm) (fun c=>[(9,.one (int c.1)),(8,.one (int (e.map cEx).length)),(7,.one (.sl 5 (e.map cEx))),(3,.one (.mp (.l 0)))])
  (fun c=>⟨1,[(0,.map c.2.1 (encI eN c.2.2.1))],ou⟩) (fun m c=>c.1<=e.length/\(IMOk c.2.2.2 c.2.1 c.2.2.1/\∀q,(c.2.2.2 q).getD 0=(manyE (e.take c.1) q:Nat))/\m=e.length - c.1) (a0:=(0,0,[],fun _=>none)) (ρ:=id) ⟨by omega,⟨IMOk.nil,by simp[manyE]⟩,rfl⟩
  (LessR.of rfl zFS (by simp) (LoSub.cons rfl rfl rfl (by simp) .nil) rfl rfl hou) fun m c hc=>?_
 obtain⟨i,ck,l,f⟩:=c
 obtain⟨hil,⟨hI,hf⟩,rfl⟩:=hc
 dsimp only at hil hI hf
 refine zA ?_
 refine ACode.cond rfl (fun hb2=>?_) (fun hb2=>?_)
 ·have hlt:i < e.length:=by simpa using hb2
  obtain⟨x,hx⟩:=Q00 hlt
  have hsn:=Qlh (e.take i) x
  rw[←Q11 hx]at hsn
  refine zA ?_
  refine zS (zIA rfl rfl rfl (by omega) (Q05 hx)) ?_
  refine zA ?_
  refine ACode.cond rfl (fun hb3=>?_) (fun hb3=>?_)
  ·have h0:x.op=0:=by simpa using hb3
   have hle:=many_le (e.take i) x.n
   have hle2:(e.take i).length<=e.length:=by simp;omega
   refine zA ?_
   refine zS (AStep.lookI eN (cm:=false) (v:=.one (int (manyE (e.take i) x.n:Nat))) rfl Tryz.underlying122 Tryz.underlying3 rfl rfl rfl (by kernel_rfl) zeroN hI (by rw[←hf x.n];cases f x.n <;> rfl)) ?_
   refine zM ?_
   refine AOps.putI eN (v:=(manyE (e.take i) x.n:Nat)+1) rfl rfl rfl Tryz.underlying122 Tryz.underlying3 rfl rfl rfl rfl hI fun ck' l' hI'=>?_
   refine zM ?_
   refine cInv ⟨e.length - (i+1),(i+1,ck',l',_),id,by omega,⟨by omega,⟨hI',fun q=>?_⟩,rfl⟩,LessR.of rfl zFS (by simp) (LoSub.cons rfl (AObj.ren_pure _ _ (Q4c _ _ _)).symm rfl (by simp) .nil) rfl rfl hou⟩
   show (setF f x.n ((manyE (e.take i) x.n:Nat)+1) q).getD 0=_
   rw[hsn]
   unfold setF
   by_cases hq:x.n=q
   ·subst hq;simp[h0]
   ·rw[if_neg hq,if_neg (by simp[hq])];exact hf q
  ·have h0:¬x.op=0:=by simpa using hb3
   refine zM ?_
   refine cInv ⟨e.length - (i+1),(i+1,ck,l,f),id,by omega,⟨by omega,⟨hI,fun q=>?_⟩,rfl⟩,LessR.of rfl zFS (by simp) (LoSub.cons rfl (AObj.ren_pure _ _ (Q4c _ _ _)).symm rfl (by simp) .nil) rfl rfl hou⟩
   rw[hsn,if_neg (by simp[h0])];exact hf q
 ·have hlt:i=e.length:=by simp at hb2;omega
  subst hlt
  rw[List.take_length]at hf
  repeat ((fail_if_success ((with_reducible refine oj ?_);refine AOps.atDst 22 rfl ?_));first|refine zO ?_)
  refine AOps.cedes [0] rfl (by decide) hou fun k hk=>⟨[(3,.one (.mp (.o k)))],[],[.map ck (encI eN l)],.cons rfl rfl .nil,.nil,?_,?_⟩
  ·exact .cons rfl (AObj.sub_f (fun i hi=>by cases i with|l q=>exact hi.elim|o q=>rfl) _ (Q4c _ _ _)) .nil
  have hN:=NewO.add hk hou (o:=.map ck (encI eN l)) (Q4c _ _ _)
  refine zA ?_
  exact AFn.fin' rfl (WkF.refl _) (by simp) hN.ok ⟨k,ck,l,f,rfl,hN.own (k,.map ck (encI eN l)) (by simp),hI,hf,hN.ok,fun j o hj=>hN.oldS hj⟩
theorem Qmk(hΓ:∀g cs,(g,cs)∈Γ->idsL isO cs)(rule:Int)(i:Nat)(n q:Int)(v d:LTr)(cnt:Nat)(hpl:Q3o v)(hok:okT (erT (.mk i 4 n none [q] [v,d] [])))(hsh:allT shpL (erT (.mk i 4 n none [q] [v,d] [])))(ou:Outer)
  (ho:Owns ou (objs (.mk i 4 n none [q] [v,d] []))):
  AFn Tryz.prog Γ 101 [.one (int rule),.one (.ptr (.o i) 0),.one (int cnt)] ou (fun r ou'=>r=.one (.lit (.bool (Qa1 rule (erT (.mk i 4 n none [q] [v,d] [])) cnt)))/\ou'=ou):=by
 have hi:ou i=some (.cells (lC (.mk i 4 n none [q] [v,d] []))):=Q0f ho
 simp only[lC,bC]at hi
 have hvm:v∈(LTr.mk i 4 n none [q] [v,d] []).kids:=by simp[LTr.kids]
 have hvo:=Q1t ho hvm
 have hvk:=Q3w hok (Q2w hvm)
 have hvs:=Q1l hsh (Q2w hvm)
 have hval:=Q4t hΓ (erT v) hvk hvs
 have hat:=Qgp (Γ:=Γ) (erT v)
 obtain⟨X,hX⟩:∃X,X=Qa1 rule (erT (.mk i 4 n none [q] [v,d] [])) cnt:=⟨_,rfl⟩
 rw[←hX]
 have hL:X=if rule=2 then atomT (erT v)else if rule=3 then cnt==0&&valT (erT v)else if rule=8 then (erT v).op==4 else if rule=9 then (erT v).op==7&&(erT v).alts.length==1 else if rule=11 then (erT v).op==2&&cnt==1 else false:=hX
 clear hX
 have hcz:((cnt:Int)==0)=(cnt==0):=by rw[Bool.eq_iff_iff];simp
 have hc1:((cnt:Int)==1)=(cnt==1):=by rw[Bool.eq_iff_iff];simp;omega
 cases v with
 |mk j op2 n2 nb2 b2 ks2 a2=>
 obtain rfl:nb2=none:=hpl.1
 have hv:ou j=some (.cells (lC (.mk j op2 n2 none b2 ks2 a2))):=Q0f hvo
 simp only[lC,bC]at hv
 have hop:(erT (.mk j op2 n2 none b2 ks2 a2)).op=op2:=rfl
 have hal:(erT (.mk j op2 n2 none b2 ks2 a2)).alts.length=a2.length:=by simp[erT]
 have hal2:((a2.map lAlt).length:Int)=(a2.length:Int):=by simp
 have ha1:((a2.length:Int)==1)=(a2.length==1):=by rw[Bool.eq_iff_iff];simp;omega
 rw[hop,hal]at hL
 refine AFn.walk 60 tabOk Tryz.func101 rfl (by kernel_rfl) rfl rfl fun hou=>?_
 by_cases h2:rule=2
 ·subst h2
  rw[if_pos rfl]at hL
  repeat' first|refine zN ?_|((with_reducible refine oj ?_);first|refine zix ?_|refine zow rfl rfl hi ?_|refine zow rfl rfl hv ?_)
  refine AOps.callS hΓ hat (Plain.lit _) rfl rfl rfl rfl rfl rfl (Q3m.t1 (t:=.mk j op2 n2 none b2 ks2 a2) hvo) ?_
  refine zA ?_
  exact AFn.fin' rfl (WkF.ofEq (by rw[hL])) (by simp) hou ⟨rfl,rfl⟩
 rw[if_neg h2]at hL
 by_cases h3:rule=3
 ·subst h3
  rw[if_pos rfl]at hL
  repeat' first|refine zN ?_|((with_reducible refine oj ?_);first|refine zix ?_|refine zow rfl rfl hi ?_|refine zow rfl rfl hv ?_)
  rw[hcz]
  refine AOps.splitS rfl rfl rfl rfl (fun hb=>?_) (fun hb=>?_)
  ·refine zM ?_
   refine AOps.callS hΓ hval (Plain.lit _) rfl rfl rfl rfl rfl rfl (Q3m.t1 (t:=.mk j op2 n2 none b2 ks2 a2) hvo) ?_
   refine zA ?_
   exact AFn.fin' rfl (WkF.ofEq (by rw[hL,hb];rfl)) (by simp) hou ⟨rfl,rfl⟩
  ·refine zA ?_
   exact AFn.fin' rfl (WkF.ofEq (by rw[hL,hb];rfl)) (by simp) hou ⟨rfl,rfl⟩
 rw[if_neg h3]at hL
 by_cases h8:rule=8
 ·subst h8
  rw[if_pos rfl]at hL
  repeat' first|refine zN ?_|((with_reducible refine oj ?_);first|refine zix ?_|refine zow rfl rfl hi ?_|refine zow rfl rfl hv ?_)
  exact AFn.fin' rfl (WkF.ofEq (by rw[hL])) (by simp) hou ⟨rfl,rfl⟩
 rw[if_neg h8]at hL
 by_cases h9:rule=9
 ·subst h9
  rw[if_pos rfl]at hL
  repeat' first|refine zN ?_|((with_reducible refine oj ?_);first|refine zix ?_|refine zow rfl rfl hi ?_|refine zow rfl rfl hv ?_)
  refine AOps.splitS rfl rfl rfl rfl (fun hb=>?_) (fun hb=>?_)
  ·repeat' first|refine zN ?_|((with_reducible refine oj ?_);first|refine zix ?_|refine zow rfl rfl hi ?_|refine zow rfl rfl hv ?_)
   exact AFn.fin' rfl (WkF.ofEq (by rw[hL,hb,hal2,ha1];simp)) (by simp) hou ⟨rfl,rfl⟩
  ·refine zA ?_
   exact AFn.fin' rfl (WkF.ofEq (by rw[hL,hb];rfl)) (by simp) hou ⟨rfl,rfl⟩
 rw[if_neg h9]at hL
 by_cases h11:rule=11
 ·subst h11
  rw[if_pos rfl]at hL
  repeat' first|refine zN ?_|((with_reducible refine oj ?_);first|refine zix ?_|refine zow rfl rfl hi ?_|refine zow rfl rfl hv ?_)
  refine AOps.splitS rfl rfl rfl rfl (fun hb=>?_) (fun hb=>?_)
  ·refine zM ?_
   exact AFn.fin' rfl (WkF.ofEq (by rw[hL,hb,hc1];simp)) (by simp) hou ⟨rfl,rfl⟩
  ·refine zA ?_
   exact AFn.fin' rfl (WkF.ofEq (by rw[hL,hb];rfl)) (by simp) hou ⟨rfl,rfl⟩
 rw[if_neg h11]at hL
 repeat' first|refine zN ?_|((with_reducible refine oj ?_);first|refine zix ?_|refine zow rfl rfl hi ?_|refine zow rfl rfl hv ?_)|(with_reducible refine oj ?_;refine AOps.splitS rfl rfl rfl rfl (fun hb=>?_) (fun hb=>?_))|(with_reducible refine ok ?_;first|refine ACode.condS rfl (fun hb=>?_) (fun hb=>?_)|refine ACode.cond rfl (fun hb=>?_) (fun hb=>?_))
 all_goals first
  |(exfalso;simp at *;omega)
  |exact AFn.fin' rfl (WkF.ofEq (by rw[hL])) (by simp) hou ⟨rfl,rfl⟩
theorem rest_ok(hΓ:∀g cs,(g,cs)∈Γ->idsL isO cs)(i:Nat)(o n:Int)(b:List Int)(ks:List LTr)(a:List LAlt)(hok:okT (erT (.mk i o n none b ks a)))(hc:cntN (erT (.mk i o n none b ks a))<=1048576)(hlen:b.length < ks.length)(ou:Outer)(ho:Owns ou (objs (.mk i o n none b ks a)))
  (km ck:Nat) (l:List (Nat×Int×Int)) (f:Nm) (many:Int->Nat) (hm:ou km=some (.map ck (encI eN l))) (hI:IMOk f ck l) (hf:∀q,(f q).getD 0=(many q:Nat)):
  AFn Tryz.prog Γ 102 [.one (.ptr (.o i) 0),.one (.mp (.o km))] ou (fun r ou'=>r=.one (.lit (.bool (restT (erT (.mk i o n none b ks a)) many)))/\ou'=ou):=by
 have hi:ou i=some (.cells (lC (.mk i o n none b ks a))):=Q0f ho
 simp only[lC,bC]at hi
 have hbl:b.length<=1048576:=hok.1
 have hun:=Qdd hΓ i o n b ks a hok hc hlen ou ho
 have hR:restT (erT (.mk i o n none b ks a)) many=(!(b.any fun id=>decide (0 < many id))||Q5r (erT (.mk i o n none b ks a))):=rfl
 rw[hR]
 generalize Q5r (erT (.mk i o n none b ks a))=U at hun
 refine AFn.walk 31 tabOk Tryz.func102 rfl (by kernel_rfl) rfl rfl fun hou=>?_
 repeat' first|refine zN ?_|((with_reducible refine oj ?_);first|refine zix ?_|refine zow rfl rfl hi ?_)
 refine ACode.loopR hΓ (α:=Nat) (fun j=>[(13,.one (int j)),(12,.one (int (b.map cI).length)),(11,.one (.sl 1 (b.map cI))),(5,.one (.lit (.bool ((b.take j).any fun id=>decide (0 < many id))))),(1,.one (.mp (.o km))),(0,.one (.ptr (.o i) 0))])
  (fun j=>⟨0,[],ou⟩) (fun m j=>j<=b.length/\m=b.length - j) (a0:=0) (ρ:=id) ⟨by omega,rfl⟩ (LessR.of rfl zFS (by simp) zLO rfl rfl hou) fun m j hj=>?_
 obtain⟨hjl,rfl⟩:=hj
 obtain⟨S,hS⟩:∃S,S=(b.take j).any fun id=>decide (0 < many id):=⟨_,rfl⟩
 rw[←hS]
 refine zA ?_
 refine ACode.cond rfl (fun hb2=>?_) (fun hb2=>?_)
 ·have hlt:j < b.length:=by simpa using hb2
  obtain⟨q,hq⟩:=Q00 hlt
  have hsn:((b.take (j+1)).any fun id=>decide (0 < many id))=(S||decide (0 < many q)):=by rw[Q11 hq,List.any_append,hS];simp
  refine zA ?_
  refine zS (zIA rfl rfl rfl (by omega) (Q05 hq)) ?_
  refine zA ?_
  refine AOps.splitS rfl rfl rfl rfl (fun hs=>?_) (fun hs=>?_)
  ·rw[hs]at hsn
   refine zM ?_
   exact cInv ⟨b.length - (j+1),j+1,id,by omega,⟨by omega,rfl⟩,LessR.of rfl (by rw[hsn];(repeat' first|exact FrSub.nil|refine zfc ?_|refine zfo ?_|refine zfp ?_)) (by simp) zLO rfl rfl hou⟩
  ·rw[hs]at hsn
   refine zM ?_
   refine zS (AStep.lookI eN (cm:=false) (v:=.one (int (many q:Nat))) rfl Tryz.underlying122 Tryz.underlying3 rfl hm rfl (by kernel_rfl) zeroN hI (by rw[←hf q];cases f q <;> rfl)) ?_
   refine zM ?_
   refine cInv ⟨b.length - (j+1),j+1,id,by omega,⟨by omega,rfl⟩,LessR.of rfl ?_ (by simp) zLO rfl rfl hou⟩
   rw[hsn]
   refine FrSub.cons rfl (.ofEq rfl) (FrSub.cons rfl (.ofEq rfl) (FrSub.consP rfl (.ofEq rfl) (by simp) (FrSub.cons rfl (.ofEq ?_) (FrSub.cons rfl (.ofEq rfl) (FrSub.cons rfl (.ofEq rfl) .nil)))))
   simp only[FV.ren,AC.ren]
   congr 3
   simp
 ·have hlt:j=b.length:=by simp at hb2;omega
  subst hlt
  rw[List.take_length]at hS
  rw[←hS]
  refine zA ?_
  refine AOps.splitS rfl rfl rfl rfl (fun hs=>?_) (fun hs=>?_)
  ·refine zA ?_
   exact AFn.fin' rfl (WkF.ofEq (by rw[hs];rfl)) (by simp) hou ⟨rfl,rfl⟩
  ·refine zM ?_
   refine AOps.call1 hΓ rfl rfl rfl rfl rfl rfl rfl (by exact⟨trivial,trivial⟩) hou hun fun r ou' hq _ how=>?_
   obtain⟨rfl,rfl⟩:=hq
   refine zA ?_
   exact AFn.fin' rfl (WkF.ofEq (by rw[hs];rfl)) (by simp) hou ⟨rfl,rfl⟩
def CanQ (x:Bool)(ou:Outer)(r:FV)(ou':Outer):Prop:=r=.one (.lit (.bool x))/\OuOk ou'/\∀j o,ou j=some o->ou' j=some o
set_option maxHeartbeats 2000000 in
theorem can_ok(hΓ:∀g cs,(g,cs)∈Γ->idsL isO cs)(rule:Int)(i:Nat)(o nn:Int)(b:List Int)(ks:List LTr)(a:List LAlt)(hpl:Q3o (.mk i o nn none b ks a))(hok:okT (erT (.mk i o nn none b ks a)))(hsh:allT shpL (erT (.mk i o nn none b ks a)))(hc:cntN (erT (.mk i o nn none b ks a))<=1048576)
  (hrg:∀s∈ks,(erT s).op=1->-1073741824<=(erT s).n/\(erT s).n<=1073741823) (ou:Outer) (ho:Owns ou (objs (.mk i o nn none b ks a)))
  (km ck:Nat) (l:List (Nat×Int×Int)) (f:Nm) (many:Int->Nat) (hm:ou km=some (.map ck (encI eN l))) (hI:IMOk f ck l) (hf:∀q,(f q).getD 0=(many q:Nat)):
  AFn Tryz.prog Γ 86 [.one (int rule),.one (.ptr (.o i) 0),.one (.mp (.o km))] ou (CanQ (canT rule (erT (.mk i o nn none b ks a)) many) ou):=by
 have hi:ou i=some (.cells (lC (.mk i o nn none b ks a))):=Q0f ho
 simp only[lC,bC]at hi
 have hbl:b.length<=1048576:=hok.1
 have hkl:ks.length<=1048576:=by have:=hok.2.1;simpa[Q0t]using this
 obtain⟨t,hte⟩:∃t,t=LTr.mk i o nn none b ks a:=⟨_,rfl⟩
 obtain⟨X,hX⟩:∃X,X=canT rule (erT t) many:=⟨_,rfl⟩
 have hop:(erT t).op=o:=by rw[hte];rfl
 rw[←hte,←hX]
 unfold canT at hX
 rw[hop]at hX
 refine AFn.walk 135 tabOk Tryz.func86 rfl (by kernel_rfl) rfl rfl fun hou=>?_
 have hfin:∀x,X=x->CanQ X ou (.one (.lit (.bool x))) ou:=fun x h=>⟨by rw[h],hou,fun _ _ h=>h⟩
 by_cases h4:o=4
 ·subst h4
  rw[if_pos rfl]at hX
  obtain⟨q,y0,y1,hb2,hk2,ha2⟩:=Qfo (o:=4) (n:=nn) (b:=b) (k:=erTs ks) (a:=a.map LAlt.er) hsh rfl
  obtain⟨v,d,rfl⟩:∃v d,ks=[v,d]:=by
   rw[Q0t]at hk2
   match ks,hk2 with
   |[v,d],_=>exact⟨v,d,rfl⟩
  obtain rfl:a=[]:=by simpa using ha2
  subst hb2
  have hcl:=Qmk hΓ rule i nn q v d (many q) (Q15 hpl (by simp[LTr.kids])) hok hsh ou ho
  have hX:X=Qa1 rule (erT (.mk i 4 nn none [q] [v,d] [])) (many q):=by rw[hX,hte];rfl
  rw[←hX]at hcl
  repeat' first|refine zN ?_|((with_reducible refine oj ?_);first|refine zix ?_|refine zow rfl rfl hi ?_)
  refine zS (AStep.lookI eN (cm:=false) (v:=.one (int (many q:Nat))) rfl Tryz.underlying122 Tryz.underlying3 rfl hm rfl (by kernel_rfl) zeroN hI (by rw[←hf q];cases f q <;> rfl)) ?_
  refine zA ?_
  refine AOps.call1 hΓ rfl rfl rfl rfl rfl rfl rfl (by exact⟨trivial,trivial,trivial,trivial⟩) hou hcl fun r ou' hq _ how=>?_
  obtain⟨rfl,rfl⟩:=hq
  refine zA ?_
  exact AFn.fin' rfl (WkF.refl _) (by simp) hou (hfin _ rfl)
 rw[if_neg h4]at hX
 by_cases hr4:rule=4
 ·subst hr4
  repeat' first|refine zN ?_|((with_reducible refine oj ?_);first|refine zix ?_|refine zow rfl rfl hi ?_)
  refine ACode.condS rfl (fun hb4=>absurd (by simpa using hb4) h4) (fun hb4=>?_)
  repeat' first|refine zN ?_|((with_reducible refine oj ?_);first|refine zix ?_|refine zow rfl rfl hi ?_)
  refine ACode.condS rfl (fun hb5=>?_) (fun hb5=>?_)
  ·have h5:o=5:=by simpa using hb5
   subst h5
   rw[if_pos ⟨rfl,rfl⟩]at hX
   have hrl:=(Qfn (o:=5) (n:=nn) (b:=b) (k:=erTs ks) (a:=a.map LAlt.er) hsh rfl).1
   rw[Q0t,List.length_map]at hrl
   have hre:=rest_ok hΓ i 5 nn b ks a hok hc (by omega) ou ho km ck l f many hm hI hf
   rw[←hte,←hX]at hre
   repeat' first|refine zN ?_|((with_reducible refine oj ?_);first|refine zix ?_|refine zow rfl rfl hi ?_)
   refine AOps.call1 hΓ rfl rfl rfl rfl rfl rfl rfl (by exact⟨trivial,trivial,trivial⟩) hou hre fun r ou' hq _ how=>?_
   obtain⟨rfl,rfl⟩:=hq
   refine zA ?_
   exact AFn.fin' rfl (WkF.refl _) (by simp) hou (hfin _ rfl)
  ·have h5:¬o=5:=by simpa using hb5
   rw[if_neg (fun h=>h5 h.2),if_neg (by simp),if_neg (by simp),if_neg (by simp),if_neg (by simp)]at hX
   repeat' first|refine zN ?_|((with_reducible refine oj ?_);first|refine zix ?_|refine zow rfl rfl hi ?_)
   exact AFn.fin' rfl (WkF.refl _) (by simp) hou (hfin _ hX)
 rw[if_neg (fun h=>hr4 h.1)]at hX
 by_cases hr6:rule=6
 ·subst hr6
  repeat' first|refine zN ?_|((with_reducible refine oj ?_);first|refine zix ?_|refine zow rfl rfl hi ?_)
  refine ACode.condS rfl (fun hb4=>absurd (by simpa using hb4) h4) (fun hb4=>?_)
  repeat' first|refine zN ?_|((with_reducible refine oj ?_);first|refine zix ?_|refine zow rfl rfl hi ?_)
  refine ACode.condS rfl (fun hb5=>?_) (fun hb5=>?_)
  ·have h5:o=8:=by simpa using hb5
   subst h5
   rw[if_pos ⟨rfl,rfl⟩]at hX
   have hkl3:(erT t).kids.length=ks.length:=by rw[hte,Q59];simp[LTr.kids]
   rw[hkl3]at hX
   repeat' first|refine zN ?_|((with_reducible refine oj ?_);first|refine zix ?_|refine zow rfl rfl hi ?_)
   refine AOps.splitS rfl rfl rfl rfl (fun hb6=>?_) (fun hb6=>?_)
   ·have h6:ks.length=2:=by simp[Q1n]at hb6;omega
    obtain⟨x,y,rfl⟩:∃x y,ks=[x,y]:=by
     match ks,h6 with
     |[x,y],_=>exact⟨x,y,rfl⟩
    have har:=Qix hΓ i 8 nn b x y a (hrg x (by simp)) (hrg y (by simp)) ou ho
    rw[←hte]at har
    have hX:X=(Q82 (erT t)).isSome:=hX
    refine zM ?_
    refine AOps.call1 hΓ rfl rfl rfl rfl rfl rfl rfl (by exact⟨trivial,trivial⟩) hou har fun r ow hq hids how=>?_
    cases hA:Q82 (erT t) with
    |none=>
     rw[hA]at hq hX
     obtain⟨rfl,_,hfr⟩:=hq
     refine zM ?_
     refine zS (AStep.neNil0 Tryz.underlying81 rfl rfl rfl) ?_
     refine zA ?_
     exact AFn.fin' rfl (WkF.refl _) (by simp) how ⟨by rw[hX];rfl,how,hfr⟩
    |some T=>
     rw[hA]at hq hX
     obtain⟨u,rfl,_,hD⟩:=hq
     refine zM ?_
     refine zS (AStep.neNil Tryz.underlying81 rfl rfl rfl) ?_
     refine zA ?_
     exact AFn.fin' rfl (WkF.refl _) (by simp) how ⟨by rw[hX];rfl,how,hD.old⟩
   ·have h6:¬ks.length=2:=by simp[Q1n]at hb6;omega
    rw[beq_eq_false_iff_ne.2 h6]at hX
    repeat' first|refine zN ?_|((with_reducible refine oj ?_);first|refine zix ?_|refine zow rfl rfl hi ?_)
    exact AFn.fin' rfl (WkF.refl _) (by simp) hou (hfin _ hX)
  ·have h5:¬o=8:=by simpa using hb5
   rw[if_neg (fun h=>h5 h.2),if_neg (by simp),if_neg (by simp),if_neg (by simp)]at hX
   repeat' first|refine zN ?_|((with_reducible refine oj ?_);first|refine zix ?_|refine zow rfl rfl hi ?_)
   exact AFn.fin' rfl (WkF.refl _) (by simp) hou (hfin _ hX)
 rw[if_neg (fun h=>hr6 h.1)]at hX
 by_cases hr7:rule=7
 ·subst hr7
  repeat' first|refine zN ?_|((with_reducible refine oj ?_);first|refine zix ?_|refine zow rfl rfl hi ?_)
  refine ACode.condS rfl (fun hb4=>absurd (by simpa using hb4) h4) (fun hb4=>?_)
  repeat' first|refine zN ?_|((with_reducible refine oj ?_);first|refine zix ?_|refine zow rfl rfl hi ?_)
  refine ACode.condS rfl (fun hb5=>?_) (fun hb5=>?_)
  ·have h5:o=10:=by simpa using hb5
   subst h5
   rw[if_pos ⟨rfl,rfl⟩]at hX
   have hrl:=Qkj (o:=10) (n:=nn) (b:=b) (k:=erTs ks) (a:=a.map LAlt.er) hsh rfl
   rw[Q0t,List.length_map]at hrl
   obtain⟨row,rfl⟩:=List.length_eq_one_iff.1 hrl
   have hfi:=Qim hΓ i 10 nn b row [] a (Q15 hpl (by simp[LTr.kids])) hok hsh ou ho
   rw[←hte]at hfi
   refine zA ?_
   refine AOps.call1 hΓ rfl rfl rfl rfl rfl rfl rfl (by exact⟨trivial,trivial⟩) hou hfi fun r ow hq hids how=>?_
   cases hA:Q9p (erT t) with
   |none=>
    rw[hA]at hq hX
    obtain⟨rfl,_,hfr⟩:=hq
    refine zS (AStep.neNil0 Tryz.underlying81 rfl rfl rfl) ?_
    refine zA ?_
    exact AFn.fin' rfl (WkF.refl _) (by simp) how ⟨by rw[hX];rfl,how,hfr⟩
   |some T=>
    rw[hA]at hq hX
    obtain⟨u,rfl,_,hD⟩:=hq
    refine zS (AStep.neNil Tryz.underlying81 rfl rfl rfl) ?_
    refine zA ?_
    exact AFn.fin' rfl (WkF.refl _) (by simp) how ⟨by rw[hX];rfl,how,hD.old⟩
  ·have h5:¬o=10:=by simpa using hb5
   rw[if_neg (fun h=>h5 h.2),if_neg (by simp),if_neg (by simp)]at hX
   repeat' first|refine zN ?_|((with_reducible refine oj ?_);first|refine zix ?_|refine zow rfl rfl hi ?_)
   exact AFn.fin' rfl (WkF.refl _) (by simp) hou (hfin _ hX)
 rw[if_neg (fun h=>hr7 h.1)]at hX
 by_cases hr5:rule=5
 ·subst hr5
  repeat' first|refine zN ?_|((with_reducible refine oj ?_);first|refine zix ?_|refine zow rfl rfl hi ?_)
  refine ACode.condS rfl (fun hb4=>absurd (by simpa using hb4) h4) (fun hb4=>?_)
  repeat' first|refine zN ?_|((with_reducible refine oj ?_);first|refine zix ?_|refine zow rfl rfl hi ?_)
  refine ACode.condS rfl (fun hb5=>?_) (fun hb5=>?_)
  ·have h5:o=7:=by simpa using hb5
   subst h5
   rw[if_pos ⟨rfl,rfl⟩]at hX
   have hrl:=(Qc3 (o:=7) (n:=nn) (b:=b) (k:=erTs ks) (a:=a.map LAlt.er) hsh rfl).1
   rw[Q0t,List.length_map,List.length_map]at hrl
   obtain⟨con,rs,rfl⟩:∃con rs,ks=con::rs:=by
    cases ks with
    |nil=>simp at hrl
    |cons c r=>exact⟨c,r,rfl⟩
   have hrm:con∈(LTr.mk i 7 nn none b (con::rs) a).kids:=by simp[LTr.kids]
   have hch:=Qf1 hΓ i 7 nn b con rs a (Q15 hpl hrm) hpl.2.1 (by simpa using hrl) hok hsh ou ho
   have hro:=Q1t ho hrm
   have hcop:(kidT (erT t) 0).op=(erT con).op:=by rw[hte];rfl
   rw[hcop]at hX
   cases con with
   |mk j op2 n2 nb2 b2 ks2 a2=>
   have hj:ou j=some (.cells (lC (.mk j op2 n2 nb2 b2 ks2 a2))):=Q0f hro
   simp only[lC,bC]at hj
   have hX:X=(op2==6&&(Q5z (erT t)).isSome):=hX
   rw[←hte]at hch
   repeat' first|refine zN ?_|((with_reducible refine oj ?_);first|refine zix ?_|refine zow rfl rfl hi ?_|refine zow rfl rfl hj ?_)
   refine AOps.splitS rfl rfl rfl rfl (fun hb6=>?_) (fun hb6=>?_)
   ·rw[hb6,Bool.true_and]at hX
    refine zM ?_
    refine AOps.call1 hΓ rfl rfl rfl rfl rfl rfl rfl (by exact⟨trivial,trivial⟩) hou hch fun r ow hq hids how=>?_
    cases hA:Q5z (erT t) with
    |none=>
     rw[hA]at hq hX
     obtain⟨rfl,_,hfr⟩:=hq
     refine zM ?_
     refine zS (AStep.neNil0 Tryz.underlying81 rfl rfl rfl) ?_
     refine zA ?_
     exact AFn.fin' rfl (WkF.refl _) (by simp) how ⟨by rw[hX];rfl,how,hfr⟩
    |some T=>
     rw[hA]at hq hX
     obtain⟨u,rfl,_,hD⟩:=hq
     refine zM ?_
     refine zS (AStep.neNil Tryz.underlying81 rfl rfl rfl) ?_
     refine zA ?_
     exact AFn.fin' rfl (WkF.refl _) (by simp) how ⟨by rw[hX];rfl,how,hD.old⟩
   ·rw[hb6,Bool.false_and]at hX
    repeat' first|refine zN ?_|((with_reducible refine oj ?_);first|refine zix ?_|refine zow rfl rfl hi ?_)
    exact AFn.fin' rfl (WkF.refl _) (by simp) hou (hfin _ hX)
  ·have h5:¬o=7:=by simpa using hb5
   rw[if_neg (fun h=>h5 h.2),if_neg (by simp)]at hX
   repeat' first|refine zN ?_|((with_reducible refine oj ?_);first|refine zix ?_|refine zow rfl rfl hi ?_)
   exact AFn.fin' rfl (WkF.refl _) (by simp) hou (hfin _ hX)
 rw[if_neg (fun h=>hr5 h.1)]at hX
 by_cases hr1:rule=1
 ·subst hr1
  repeat' first|refine zN ?_|((with_reducible refine oj ?_);first|refine zix ?_|refine zow rfl rfl hi ?_)
  refine ACode.condS rfl (fun hb4=>absurd (by simpa using hb4) h4) (fun hb4=>?_)
  repeat' first|refine zN ?_|((with_reducible refine oj ?_);first|refine zix ?_|refine zow rfl rfl hi ?_)
  refine ACode.condS rfl (fun hb5=>?_) (fun hb5=>?_)
  ·have h5:o=3:=by simpa using hb5
   subst h5
   rw[if_pos ⟨rfl,rfl⟩]at hX
   obtain⟨k0,ks',rfl⟩:∃k0 ks',ks=k0::ks':=by
    have:=(Qfp (o:=3) (n:=nn) (b:=b) (k:=erTs ks) (a:=a.map LAlt.er) hsh rfl).1
    cases ks with
    |nil=>simp[erTs]at this
    |cons k0 ks'=>exact⟨k0,ks',rfl⟩
   have hk0m:k0∈(LTr.mk i 3 nn none b (k0::ks') a).kids:=by simp[LTr.kids]
   have hkt:kidT (erT t) 0=erT k0:=by rw[hte];rfl
   have hkl2:(erT t).kids.length=ks'.length+1:=by rw[hte,Q59];simp[LTr.kids]
   rw[hkt,hkl2]at hX
   have hk0o:=Q1t ho hk0m
   have hpk0:=Q15 hpl hk0m
   cases k0 with
   |mk j op2 n2 nb2 b2 ks2 a2=>
   obtain rfl:nb2=none:=hpk0.1
   have hj:ou j=some (.cells (lC (.mk j op2 n2 none b2 ks2 a2))):=Q0f hk0o
   simp only[lC,bC]at hj
   have hX:X=(op2==2&&((b2.length:Int)==((ks'.length+1:Nat):Int) - 1)):=hX
   refine zA ?_
   by_cases h2:op2=2
   ·refine ACode.drawX tabOk 29 [(3,.one (.sl 1 (kC (.mk j op2 n2 none b2 ks2 a2::ks')))),(4,.one (.box [.ptr (.o j) 0])),(8,.one (int op2)),(9,.one (.lit (.bool true))),(14,.one (.sl 1 (kC (.mk j op2 n2 none b2 ks2 a2::ks')))),(15,.one (.box [.ptr (.o j) 0])),(19,.one (.sl 1 (b2.map cI))),(24,.one (.sl 1 (kC (.mk j op2 n2 none b2 ks2 a2::ks')))),(26,.one (int (((kC (.mk j op2 n2 none b2 ks2 a2::ks')).length:Int) - 1)))] follows (by kernel_rfl) rfl rfl rfl rfl ?_ ?_
    ·refine .step rfl (zHP (zLD rfl rfl hi rfl)) ?_
     refine .step rfl (zHP (zIA rfl rfl rfl (by decide) rfl)) ?_
     refine .step rfl (zHP (zLD rfl rfl hj rfl)) ?_
     refine .step rfl (HStep.litB tabOk rfl (by simp[h2])) ?_
     refine .step rfl (HStep.guarded rfl rfl rfl (zLD rfl rfl hi rfl)) ?_
     refine .step rfl (HStep.guarded rfl rfl rfl (zIA rfl rfl rfl (by decide) rfl)) ?_
     refine .step rfl (HStep.guarded rfl rfl rfl (zLD rfl rfl hj rfl)) ?_
     refine .step rfl (HStep.guarded rfl rfl rfl (zLD rfl rfl hi rfl)) ?_
     exact .step rfl (HStep.guarded rfl rfl rfl (AStep.arith rfl rfl rfl (.inr (.inl ⟨rfl,rfl⟩)) (Q2r (by rw[Q1n];have:(0:Int)<=((LTr.mk j op2 n2 none b2 ks2 a2::ks').length:Int):=Int.natCast_nonneg _;omega) (by rw[Q1n];omega)))) .nil
    refine zA ?_
    refine AFn.fin' rfl (WkF.refl _) (by simp) hou (hfin _ ?_)
    rw[hX,h2]
    simp[Q1n]
   ·refine ACode.drawX tabOk 29 [(3,.one (.sl 1 (kC (.mk j op2 n2 none b2 ks2 a2::ks')))),(4,.one (.box [.ptr (.o j) 0])),(8,.one (int op2)),(9,.one (.lit (.bool false)))] follows (by kernel_rfl) rfl rfl rfl rfl ?_ ?_
    ·refine .step rfl (zHP (zLD rfl rfl hi rfl)) ?_
     refine .step rfl (zHP (zIA rfl rfl rfl (by decide) rfl)) ?_
     refine .step rfl (zHP (zLD rfl rfl hj rfl)) ?_
     exact .step rfl (HStep.litB tabOk rfl (by simp[h2])) .nil
    refine zA ?_
    refine AFn.fin' rfl (WkF.refl _) (by simp) hou (hfin _ ?_)
    rw[hX,beq_eq_false_iff_ne.2 h2];rfl
  ·have h5:¬o=3:=by simpa using hb5
   rw[if_neg (fun h=>h5 h.2)]at hX
   repeat' first|refine zN ?_|((with_reducible refine oj ?_);first|refine zix ?_|refine zow rfl rfl hi ?_)
   exact AFn.fin' rfl (WkF.refl _) (by simp) hou (hfin _ hX)
 rw[if_neg (fun h=>hr1 h.1)]at hX
 repeat' first|refine zN ?_|((with_reducible refine oj ?_);first|refine zix ?_|refine zow rfl rfl hi ?_)|(with_reducible refine oj ?_;refine AOps.splitS rfl rfl rfl rfl (fun hb=>?_) (fun hb=>?_))|(with_reducible refine ok ?_;first|refine ACode.condS rfl (fun hb=>?_) (fun hb=>?_)|refine ACode.cond rfl (fun hb=>?_) (fun hb=>?_))
 all_goals first
  |(exfalso;simp at *;omega)
  |exact AFn.fin' rfl (WkF.refl _) (by simp) hou (hfin _ hX)
end Go.Proofs.YtpaonemmbhbgoaaGreatDoor
namespace Go.CoreX
def nextF (e:List Ex)(r:Int):Option (Int×Nat):=((growL e).zipIdx.find? fun p=>canT r p.1 (manyE e)).map fun p=>(r,p.2)
def nextR (e:List Ex):Int×Int×Bool×Int:=if check e≠0 then (0,0,false,check e)else match nextE e with
 |none=>(0,0,false,0)
 |some (r,i)=>(r,i,true,0)
end Go.CoreX
namespace Go.Proofs.YtpaonemmbhbgoaaGreatDoor
open Go Go.Abs Go.CoreX
def Γo:List (Nat×List AC):=[(0,orC),(1,arC)]
theorem hΓo:∀g cs,(g,cs)∈Γo->idsL isO cs:=by
 intro g cs h
 simp only[Γo,List.mem_cons,List.not_mem_nil,or_false,Prod.mk.injEq]at h
 rcases h with ⟨_,rfl⟩|⟨_,rfl⟩
 ·simp[orC]
 ·exact hΓc 1 arC (by simp[Γc])
theorem hco:∀g cs,(g,cs)∈Γc->(g,cs)∈Γo:=by
 intro g cs h
 simp only[Γc,List.mem_cons,List.not_mem_nil,or_false,Prod.mk.injEq]at h
 obtain⟨rfl,rfl⟩:=h
 simp[Γo]
theorem APure.o{g:Nat}{args:List FV}{r:FV}(h:APure Tryz.prog Γc g args r):APure Tryz.prog Γo g args r:=h.moreG hco hΓo
set_option maxHeartbeats 1000000 in
theorem Next_ok(e:List Ex)(he:okB e):APure Tryz.prog Γo 55 [.one (.sl 5 (e.map cEx))] (.tup [.agg [int (nextR e).1,int (nextR e).2.1,int 0],.one (.lit (.bool (nextR e).2.2.1)),.one (int (nextR e).2.2.2)]):=by
 have c1:=APure.o (Q38 e he)
 have hel:=he.eo.l
 intro ou
 refine AFn.forget ?_
 refine AFn.walk 46 tabOk Tryz.func55 rfl (by kernel_rfl) rfl rfl fun hou=>?_
 refine zA ?_
 refine zca hΓo c1 hou ?_
 refine zA ?_
 refine ACode.cond rfl (fun hb=>?_) (fun hb=>?_)
 ·have h:check e≠0:=by simpa using hb
  have hR:nextR e=(0,0,false,check e):=by unfold nextR;rw[if_pos h]
  rw[hR]
  refine zA ?_
  exact AFn.fin' rfl (WkF.ofEq rfl) (by simp) hou ⟨ou,fun _ _ h=>h,rfl,rfl⟩
 have h:check e=0:=by simpa using hb
 have t1:=Q0h h
 have hR:nextR e=match nextE e with
   |none=>(0,0,false,0)
   |some (r,i)=>(r,i,true,0):=by unfold nextR;rw[if_neg (by simpa using h)]
 rw[hR]
 refine zA ?_
 refine AOps.call1 hΓo rfl rfl rfl rfl rfl rfl rfl (by simp) hou (Qld hΓo e he.eo t1.k t1.ne ou) fun r ov hq hids hov=>?_
 obtain⟨lts,root,rfl,hL,hr,hN⟩:=hq
 refine zA ?_
 refine AOps.call1 hΓo rfl rfl rfl rfl rfl rfl rfl (by simp) hov (Qad hΓo e hel ov) fun r ov2 hq hids2 hov2=>?_
 obtain⟨km,ck,l,f,rfl,hkm,hI,hf,_,hext⟩:=hq
 have hown2:Owns ov2 (lts.flatMap ownO):=fun p hp=>hext _ _ (hN.own p hp)
 have hold2:∀m o,ou m=some o->ov2 m=some o:=fun m o hm=>hext _ _ (hN.oldS hm)
 have hll:lts.length=e.length:=hL.len
 obtain⟨W,hW⟩:∃W,W=[AC.sl 1 (kC lts),AC.ptr (.o root.id) 0]:=⟨_,rfl⟩
 have hWi:idsL isO W:=by rw[hW];simp
 have hWl:∀k,idsL (inL k) W:=fun k=>by rw[hW];simp[inL]
 rw[←hW]
 refine zA ?_
 refine ACode.loopR hΓo (α:=Nat×Outer) (fun c=>[(23,.one (int c.1)),(22,.agg orC),(7,.one (.mp (.o km))),(6,.one (.box W)),(2,.one (.ptr (.l 0) 0))])
  (fun c=>⟨1,[(0,.cells [int 0,int 0,int 0])],c.2⟩) (fun m c=>c.1<=10/\(nextE e=(Q53.drop c.1).findSome? (nextF e)/\(∀j o,ov2 j=some o->c.2 j=some o)/\OuOk c.2)/\m=10 - c.1) (a0:=(0,ov2)) (ρ:=id) ⟨by omega,⟨rfl,fun _ _ h=>h,hov2⟩,rfl⟩
  (LessR.of rfl (FrSub.cons rfl (.ofEq rfl) (FrSub.cons rfl (.ofEq rfl) (FrSub.cons rfl (.ofEq rfl) (FrSub.consP rfl (.ofEq rfl) (by simp [hWi]) (FrSub.cons rfl (.ofEq rfl) .nil))))) (by simp [hWl, orC]) (LoSub.cons rfl rfl rfl (by simp) .nil) rfl rfl hov2) fun m c hc => ?_
 obtain⟨ri,ow⟩:=c
 obtain⟨hri,⟨hne,how,hokw⟩,rfl⟩:=hc
 dsimp only at hri hne how hokw
 refine zA ?_
 refine ACode.cond rfl (fun hb2=>?_) (fun hb2=>?_)
 ·have hlt:ri < 10:=by simp at hb2;omega
  obtain⟨rule,hrule⟩:=Q00 (l:=Q53) (i:=ri) hlt
  obtain⟨q1,q2⟩:=List.getElem?_eq_some_iff.1 hrule
  rw[List.drop_eq_getElem_cons q1,q2,List.findSome?_cons]at hne
  have hor:orC[((ri:Nat):Int).toNat]?=some (int rule):=by
   rw[Int.toNat_natCast,show orC=Q53.map int from rfl,List.getElem?_map,hrule];rfl
  refine zA ?_
  refine zS (AStep.indexAgg tabOk rfl rfl rfl rfl rfl rfl rfl rfl (by omega) (by show _ < ((10:Nat):Int);omega) hor) ?_
  refine zA ?_
  rw[hW]
  refine zA ?_
  refine ACode.loopR hΓo (α:=Nat×Outer) (fun c=>[(31,.one (int c.1)),(30,.one (int (kC lts).length)),(29,.one (.sl 1 (kC lts))),(9,.one (int rule)),(23,.one (int ri)),(22,.agg orC),(7,.one (.mp (.o km))),(6,.one (.box W)),(2,.one (.ptr (.l 0) 0))])
   (fun c=>⟨1,[(0,.cells [int 0,int 0,int 0])],c.2⟩) (fun m c=>c.1<=e.length/\(nextF e rule=((((growL e).zipIdx.drop c.1).find? fun p=>canT rule p.1 (manyE e)).map fun p=>(rule,p.2))/\(∀j o,ov2 j=some o->c.2 j=some o)/\OuOk c.2)/\m=e.length - c.1) (a0:=(0,ow)) (ρ:=id) ⟨by omega,⟨rfl,how,hokw⟩,rfl⟩
   (LessR.of rfl ?_ (by simp[hWl,orC]) (LoSub.cons rfl rfl rfl (by simp) .nil) rfl rfl hokw) fun m c hc=>?_
  ·refine FrSub.cons rfl (.ofEq rfl) (FrSub.cons rfl (.ofEq rfl) (FrSub.consP rfl (.ofEq rfl) (by simp) (FrSub.cons rfl (.ofEq rfl) (FrSub.cons rfl (.ofEq rfl) (FrSub.cons rfl (.ofEq rfl) (FrSub.cons rfl (.ofEq rfl) (FrSub.consP rfl (.ofEq (by rw[hW])) (by simp[hWi]) (FrSub.cons rfl (.ofEq rfl) .nil))))))))
  obtain⟨j,ox⟩:=c
  obtain⟨hjl,⟨hnf,hox,hokx⟩,rfl⟩:=hc
  dsimp only at hjl hnf hox hokx
  refine zA ?_
  refine ACode.cond rfl (fun hb3=>?_) (fun hb3=>?_)
  ·have hp:j < e.length:=by simp[Q1n]at hb3;omega
   obtain⟨x,hx⟩:=Q00 hp
   obtain⟨id,nb,a,ht0,ha,hnb,hab⟩:=hL.at_ j x hx
   obtain rfl:nb=none:=hnb
   obtain⟨ks,hks⟩:∃ks,ks=x.kids.map fun q=>lts.getD q.toNat default:=⟨_,rfl⟩
   rw[←hks]at ht0
   obtain⟨t,hte⟩:∃t,t=LTr.mk id x.op x.n none x.binds ks a:=⟨_,rfl⟩
   have ht:lts[j]?=some t:=by rw[hte];exact ht0
   have hti:t.id=id:=by rw[hte];rfl
   have her:erT t=Q06 e j:=hL.er t1.k _ j t (Nat.lt_succ_self _) ht
   have hwd:allT (fun l=>l.op=1->-1073741824<=l.n/\l.n<=1073741823) (erT t):=by rw[her];exact Q2v t1 (Q9z h) hp
   have hOx:Owns ox (objs t):=fun p hpp=>hox _ _ (hown2 p (hL.own t1.k _ j t (Nat.lt_succ_self _) ht p hpp))
   have hzl:(growL e).zipIdx[j]?=some (Q06 e j,j):=by
    rw[List.getElem?_zipIdx]
    unfold Q06
    rw[List.getD_eq_getElem?_getD,List.getElem?_eq_getElem (by rw[Q0c];exact hp)]
    simp
   obtain⟨z1,z2⟩:=List.getElem?_eq_some_iff.1 hzl
   rw[List.drop_eq_getElem_cons z1,z2,List.find?_cons]at hnf
   have hcan:=can_ok (Γ:=Γo) hΓo rule id x.op x.n x.binds ks a (by rw[←hte];exact hL.plain t1.k _ j t (Nat.lt_succ_self _) ht) (by rw[←hte,her];exact Q4x he t1 hp) (by rw[←hte,her];exact Q2v t1 (Qf4 h) hp) (by rw[←hte,her];have:=Qez h hp;omega)
    (fun s hs h1 => by
     have h2:=Q1l hwd (Q2w (t:=t) (s:=s) (by rw[hte];exact hs))
     cases hse:erT s with
     |mk o' n' b' k' a'=>
      rw[hse]at h2 h1
      exact h2.1 h1) ox (by rw[←hte];exact hOx) km ck l f (manyE e) (hox _ _ hkm) hI hf
   rw[←hte,her]at hcan
   refine zA ?_
   refine zS (zIA rfl rfl rfl (by omega) (Q4q ht)) ?_
   refine zA ?_
   rw[hti]
   refine AOps.call1 hΓo rfl rfl rfl rfl rfl rfl rfl (by exact⟨trivial,trivial,trivial,trivial⟩) hokx hcan fun r oy hq _ hoy=>?_
   obtain⟨rfl,_,hyx⟩:=hq
   refine zA ?_
   refine ACode.condS rfl (fun hbc=>?_) (fun hbc=>?_)
   ·rw[hbc]at hnf
    have hnf:nextF e rule=some (rule,j):=hnf
    rw[hnf]at hne
    have hne:nextE e=some (rule,j):=hne
    rw[hne]
    refine zA ?_
    exact AFn.fin' rfl (WkF.ofEq rfl) (by simp) hoy ⟨ou,fun m o hm=>hyx _ _ (hox _ _ (hold2 m o hm)),rfl,rfl⟩
   ·rw[hbc]at hnf
    have hnf:nextF e rule=((((growL e).zipIdx.drop (j+1)).find? fun p=>canT rule p.1 (manyE e)).map fun p=>(rule,p.2)):=hnf
    refine zM ?_
    exact cInv ⟨e.length - (j+1),(j+1,oy),fun k=>k,by omega,⟨by omega,⟨hnf,fun m o hm=>hyx _ _ (hox m o hm),hoy⟩,rfl⟩,LessR.of rfl (FrSub.cons rfl (.ofEq rfl) (FrSub.cons rfl (.ofEq rfl) (FrSub.consP rfl (.ofEq rfl) (by simp) (FrSub.cons rfl (.ofEq rfl) (FrSub.cons rfl (.ofEq rfl) (FrSub.cons rfl (.ofEq rfl) (FrSub.cons rfl (.ofEq rfl) (FrSub.consP rfl (.ofEq rfl) (by simp[hWi]) (FrSub.cons rfl (.ofEq rfl) .nil))))))))) (by simp[hWl,orC]) (LoSub.cons rfl rfl rfl (by simp) .nil) rfl rfl hoy⟩
  ·have hjl2:j=e.length:=by simp[Q1n]at hb3;omega
   subst hjl2
   rw[List.drop_eq_nil_of_le (by rw[List.length_zipIdx,Q0c];exact Nat.le_refl _)]at hnf
   have hnf:nextF e rule=none:=hnf
   rw[hnf]at hne
   have hne:nextE e=(Q53.drop (ri+1)).findSome? (nextF e):=hne
   refine zM ?_
   exact cInv ⟨10 - (ri+1),(ri+1,ox),fun k=>k,by omega,⟨by omega,⟨hne,hox,hokx⟩,rfl⟩,LessR.of rfl (FrSub.cons rfl (.ofEq rfl) (FrSub.cons rfl (.ofEq rfl) (FrSub.cons rfl (.ofEq rfl) (FrSub.consP rfl (.ofEq (by rw[hW])) (by simp[←hW,hWi]) (FrSub.cons rfl (.ofEq rfl) .nil))))) (by simp[hWl,orC]) (LoSub.cons rfl rfl rfl (by simp) .nil) rfl rfl hokx⟩
 ·have hri2:ri=10:=by simp at hb2;omega
  subst hri2
  have hne:nextE e=none:=hne
  rw[hne]
  refine zA ?_
  exact AFn.fin' rfl (WkF.ofEq rfl) (by simp) hokw ⟨ou,fun m o hm=>how _ _ (hold2 m o hm),rfl,rfl⟩
def cS (s:Step3):List AC:=[int s.1,int s.2.1,int s.2.2]
theorem Qm4(p:Abs.Id->Prop)(l:List Step3):idsS p (l.map cS):=Q2c (f:=cS) (fun s=>by simp[cS]) l
@[simp] theorem ids_cS_l (k:Nat) (l:List Step3):idsS (inL k) (l.map cS):=Qm4 _ l
@[simp] theorem ids_cS_o (l:List Step3):idsS isO (l.map cS):=Qm4 _ l
theorem Qfd{e:List Ex}(he:okB e){r p n:Int}(h:(Q0z e r p n).2=0):okB (Q0z e r p n).1:=by
 obtain⟨hc,_,⟨hp0,hp1⟩,X,hX,hck,hE⟩:=Qk0 h
 have t1:=Q0h hc
 rw[hE]
 have hpX:allT pOk X:=Qkv (nodes:=growL e) (root:=grow e) (t:=Q06 e p.toNat) (Q49 _ (Q4x he t1 (by omega))) (fun s hs=>by
  obtain⟨q,hq1,hq2⟩:=List.getElem_of_mem hs
  rw[Q0c]at hq1
  have:Q06 e q=s:=by unfold Q06;rw[List.getD_eq_getElem?_getD,List.getElem?_eq_getElem (by rw[Q0c];exact hq1),hq2];rfl
  rw[←this];exact Q49 _ (Q4x he t1 hq1)) hX
 refine Q5f (Q78 t1.k (fun y hy=>Qhu he _ (List.mem_map_of_mem (f:=labE e) hy)) p.toNat hpX _ _ (Nat.lt_succ_self _) (by have:=List.length_pos_iff.2 t1.ne;omega)) ?_
 obtain⟨p1,_⟩:=Q1j hck
 obtain⟨q1,_,_⟩:=(Q1f _).1 p1
 have h2:=Q1o (growR e p.toNat X) []
 simp only[List.length_nil]at h2
 show cntN (growR e p.toNat X)<=1048576
 omega
theorem Qe2{e:List Ex}(he:okB e)(h:check e=0):okB (listT [] (grow e)):=by
 have t1:=Q0h h
 refine Q5f (Q49 _ (he.t t1.k t1.ne)) ?_
 have h1:=Qi5 h
 have h2:=Q1o (grow e) []
 have:=he.eo.l
 simp only[List.length_nil]at h2
 omega
theorem Qje{r:Int}(h:r∈Q53):r≠10/\r≠12:=by
 simp[Q53]at h
 omega
set_option maxHeartbeats 1000000 in
theorem Qmw(e:List Ex)(he:okB e)(b:Int):APure Tryz.prog Γo 20 [.one (.sl 5 (e.map cEx)),.one (int b)] (.tup [.one (.sl 5 ((simpE e b).1.map cEx)),.one (.sl 3 ((simpE e b).2.1.map cS)),.one (int (simpE e b).2.2)]):=by
 have c1:=APure.o (Q38 e he)
 intro ou
 refine AFn.walk 56 tabOk Tryz.func20 rfl (by kernel_rfl) rfl rfl fun hou=>?_
 refine zA ?_
 refine zca hΓo c1 hou ?_
 refine zA ?_
 refine ACode.cond rfl (fun hb=>?_) (fun hb=>?_)
 ·have h:check e≠0:=by simpa using hb
  have hR:simpE e b=([],[],check e):=by unfold simpE;rw[if_pos h]
  rw[hR]
  refine zA ?_
  exact APure.fin rfl (WkF.tup (.cons (.one (.nilS 5)) (.cons (.one (.nilS 3)) (.cons (.refl _) .nil)))) (by simp) hou rfl
 have h:check e=0:=by simpa using hb
 refine zA ?_
 refine AOps.splitS rfl rfl rfl rfl (fun hb1=>?_) (fun hb1=>?_)
 ·have h1:b < 0:=by simpa using hb1
  have hR:simpE e b=([],[],4):=by unfold simpE;rw[if_neg (by simpa using h),if_pos (.inl h1)]
  rw[hR]
  refine zA ?_
  exact APure.fin rfl (WkF.tup (.cons (.one (.nilS 5)) (.cons (.one (.nilS 3)) (.cons (.refl _) .nil)))) (by simp) hou rfl
 have h1:¬b < 0:=by simpa using hb1
 refine zA ?_
 refine ACode.cond rfl (fun hb2=>?_) (fun hb2=>?_)
 ·have h2:500 < b:=by simpa using hb2
  have hR:simpE e b=([],[],4):=by unfold simpE;rw[if_neg (by simpa using h),if_pos (.inr h2)]
  rw[hR]
  refine zA ?_
  exact APure.fin rfl (WkF.tup (.cons (.one (.nilS 5)) (.cons (.one (.nilS 3)) (.cons (.refl _) .nil)))) (by simp) hou rfl
 have h2:¬500 < b:=by simpa using hb2
 obtain⟨B,rfl⟩:∃B:Nat,b=B:=⟨b.toNat,by omega⟩
 have hR:simpE e (B:Int)=((Q0o B (listT [] (grow e))).1,(Q0o B (listT [] (grow e))).2,0):=by unfold simpE;rw[if_neg (by simpa using h),if_neg (by omega),Int.toNat_natCast]
 rw[hR]
 clear hR
 have t1:=Q0h h
 have hl:(listT [] (grow e)).length<=1048576:=by rw[Qcj t1];exact he.eo.l
 obtain⟨E0,hE0⟩:∃E0,E0=listT [] (grow e):=⟨_,rfl⟩
 have hOb:okB E0:=by rw[hE0];exact Qe2 he h
 have hOc:check E0=0:=by rw[hE0];exact Qbm h
 have hLi:=Qgt hΓo (grow e) (he.t t1.k t1.ne) hl
 rw[←hE0]at hLi ⊢
 refine zA ?_
 refine zca hΓo (Qa8 hΓo e he.eo t1.k t1.ne) hou ?_
 refine zca hΓo hLi hou ?_
 refine zA ?_
 refine ACode.growS 9 41 3 rfl ?_
 refine ACode.loopR hΓo (α:=List Ex×List Step3) (fun c=>[(9,.one (.gs 3 (c.2.map cS) (.l 0))),(8,.one (.sl 5 (c.1.map cEx))),(1,.one (int B))])
  (fun c=>⟨1,[(0,.tok 41 3 (c.2.map cS).length)],ou⟩) (fun m c=>(c.2.length<=B/\okB c.1/\check c.1=0/\Q0o B E0=((Q0o (B - c.2.length) c.1).1,c.2++(Q0o (B - c.2.length) c.1).2))/\m=B - c.2.length) (a0:=(E0,[])) (ρ:=id) ⟨⟨by simp,hOb,hOc,by simp⟩,rfl⟩
  (LessR.of rfl (FrSub.consGs rfl rfl (by simp) (FrSub.consP rfl (.ofEq rfl) (by simp) (FrSub.cons rfl (.ofEq rfl) .nil))) (by simp) zLO rfl rfl hou) fun m c hc=>?_
 obtain⟨out,L⟩:=c
 obtain⟨⟨hLl,hob,hoc,hst⟩,rfl⟩:=hc
 dsimp only at hLl hob hoc hst
 have hlen:((L.map cS).length:Int)=(L.length:Int):=by simp
 refine zA ?_
 have hstop:∀{k:Nat},B - L.length=k->Q0o k out=(out,[])->Q0o B E0=(out,L):=fun hk hs=>by rw[hst,hk,hs];simp
 refine ACode.cond rfl (fun hb3=>?_) (fun hb3=>?_)
 ·have hlt:L.length < B:=by simp at hb3;omega
  obtain⟨k,hk⟩:∃k,B - L.length=k+1:=⟨B - L.length - 1,by omega⟩
  have hnx:=Next_ok out hob
  refine zA ?_
  cases hn:nextE out with
  |none=>
   have hnr:nextR out=(0,0,false,0):=by unfold nextR;rw[if_neg (by simpa using hoc),hn]
   rw[hnr]at hnx
   refine zca hΓo hnx hou ?_
   refine zA ?_
   have hfin:=hstop hk (by simp only[Q0o,hn])
   rw[hfin]
   exact APure.fin (r':=.tup [.one (.sl 5 (out.map cEx)),.one (.sl 3 (L.map cS)),.one (int 0)]) rfl (WkF.tup (.cons (.refl _) (.cons (.one (.gsE rfl)) (.cons (.refl _) .nil)))) (by simp) hou rfl
  |some p=>
   obtain⟨r,i⟩:=p
   have hnr:nextR out=(r,(i:Int),true,0):=by unfold nextR;rw[if_neg (by simpa using hoc),hn]
   rw[hnr]at hnx
   have hrr:=Qje (Qb0 hn).1
   have hap:=APure.o (Qk2 out hob r i 0 hrr.1 hrr.2)
   refine zca hΓo hnx hou ?_
   refine zA ?_
   refine AOps.callC hΓo hap rfl rfl rfl rfl rfl rfl rfl hou (by simp[idsF]) ?_
   refine zA ?_
   refine ACode.cond rfl (fun hb4=>?_) (fun hb4=>?_)
   ·have h4:¬(Q0z out r i 0).2=0:=by simpa using hb4
    refine zA ?_
    have hfin:=hstop hk (by simp only[Q0o,hn,if_neg h4])
    rw[hfin]
    exact APure.fin (r':=.tup [.one (.sl 5 (out.map cEx)),.one (.sl 3 (L.map cS)),.one (int 0)]) rfl (WkF.tup (.cons (.refl _) (.cons (.one (.gsE rfl)) (.cons (.refl _) .nil)))) (by simp) hou rfl
   ·have h4:(Q0z out r i 0).2=0:=by simpa using hb4
    have hord:=Qfc h4
    have hob2:=Qfd hob h4
    generalize hA:Q0z out r i 0=A at h4 hord hob2
    refine zA ?_
    refine AOps.app tabOk rfl rfl rfl rfl rfl rfl rfl rfl rfl (Base.gs' _ 41 3 _ _ rfl rfl) (.sl _ _) rfl ?_ ?_ ?_
    ·rw[List.length_map];show (L.length+1) * 24<=_;omega
    ·rw[List.length_map];show L.length+1<=_;omega
    refine zA ?_
    obtain⟨L',hL'⟩:∃L',L'=L++[(r,(i:Int),0)]:=⟨_,rfl⟩
    have hsn:L'.map cS=L.map cS++[[int r,int i,int 0]]:=by rw[hL',List.map_append];rfl
    have hll:L'.length=L.length+1:=by rw[hL'];simp
    refine cInv ⟨B - (L.length+1),(A.1,L'),fun q=>if q=0 then 2 else q,by show B - (L.length+1) < B - L.length;omega,⟨⟨by show L'.length<=B;omega,hob2,hord.1,?_⟩,by rw[hll]⟩,?_⟩
    ·rw[hst,hk]
     have hlk:B - L'.length=k:=by omega
     rw[hlk,hL']
     simp only[Q0o,hn,hA,if_pos h4]
     simp
    ·show LessR _ _ _ [(9,.one (.gs 3 (L'.map cS) (.l 0))),(8,.one (.sl 5 (A.1.map cEx))),(1,.one (int B))] ⟨1,[(0,.tok 41 3 (L'.map cS).length)],ou⟩
     rw[hsn]
     exact LessR.of rfl (FrSub.consGs rfl rfl (by rw[←hsn];simp) (FrSub.consP rfl (.ofEq rfl) (by simp) (FrSub.cons rfl (.ofEq rfl) .nil))) (by rw[←hsn];simp) zLO rfl rfl hou
 ·have hlt:B - L.length=0:=by simp at hb3;omega
  refine zA ?_
  have hfin:=hstop hlt (by simp only[Q0o])
  rw[hfin]
  exact APure.fin (r':=.tup [.one (.sl 5 (out.map cEx)),.one (.sl 3 (L.map cS)),.one (int 0)]) rfl (WkF.tup (.cons (.refl _) (.cons (.one (.gsE rfl)) (.cons (.refl _) .nil)))) (by simp) hou rfl
theorem Qdn:∀(k:Nat){e:List Ex},okB e->okB (Q0o k e).1
 |0,e,h=>h
 |k+1,e,h=>by
  simp only[Q0o]
  split
  ·exact h
  ·rename_i r i _
   split
   ·rename_i hk;exact Qdn k (Qfd h hk)
   ·exact h
variable {Γ:List (Nat×List AC)}
end Go.Proofs.YtpaonemmbhbgoaaGreatDoor
namespace Go.CoreX
end Go.CoreX
namespace Go.Proofs.YtpaonemmbhbgoaaGreatDoor
open Go Go.Abs Go.CoreX
variable {Γ:List (Nat×List AC)}
end Go.Proofs.YtpaonemmbhbgoaaGreatDoor
namespace Go.Abs
end Go.Abs
namespace Go.Proofs.YtpaonemmbhbgoaaGreatDoor
open Go Go.Abs Go.CoreX
variable {Γ:List (Nat×List AC)}
def cL (l:List Step3):List AC:=[.sl 3 (l.map cS)]
theorem ids_cL(p:Abs.Id->Prop)(ll:List (List Step3)):idsS p (ll.map cL):=Q2c (f:=cL) (fun l=>⟨Qm4 p l,trivial⟩) ll
@[simp] theorem ids_cL_l (k:Nat) (ll:List (List Step3)):idsS (inL k) (ll.map cL):=ids_cL _ ll
@[simp] theorem ids_cL_o (ll:List (List Step3)):idsS isO (ll.map cL):=ids_cL _ ll
end Go.Proofs.YtpaonemmbhbgoaaGreatDoor
