/- Whether a simplifying rule applies to a node, walked. -/
import Derived.Test.YtpaonemmbhbgoaaGreatDoorR11
set_option maxRecDepth 10000
set_option linter.unusedVariables false
set_option linter.unusedSimpArgs false
namespace Go.Proofs.YtpaonemmbhbgoaaGreatDoor
open Go Go.Abs Go.CoreX
variable {Γ:List (Nat×List AC)}
theorem rest_ok(hΓ:∀g cs,(g,cs)∈Γ->idsL isO cs)(i:Nat)(o n:Int)(b:List Int)(ks:List LTr)(a:List LAlt)(hok:okT (erT (.mk i o n none b ks a)))(hc:cntN (erT (.mk i o n none b ks a))<=1048576)(hlen:b.length < ks.length)(ou:Outer)(ho:Owns ou (objs (.mk i o n none b ks a)))
  (km ck:Nat) (l:List (Nat×Int×Int)) (f:Nm) (many:Int->Nat) (hm:ou km=some (.map ck (encI eN l))) (hI:IMOk f ck l) (hf:∀q,(f q).getD 0=(many q:Nat)):
  AFn Tryz.prog Γ 102 [.one (.ptr (.o i) 0),.one (.mp (.o km))] ou (fun r ou'=>r=.one (.lit (.bool (restT (erT (.mk i o n none b ks a)) many)))/\ou'=ou):=by
 have hi:ou i=some (.cells (lC (.mk i o n none b ks a))):=Q09 ho
 simp only[lC,bC]at hi
 have hbl:b.length<=1048576:=hok.1
 have hun:=Qdo hΓ i o n b ks a hok hc hlen ou ho
 have hR:restT (erT (.mk i o n none b ks a)) many=(!(b.any fun id=>decide (0 < many id))||Q60 (erT (.mk i o n none b ks a))):=rfl
 rw[hR]
 generalize Q60 (erT (.mk i o n none b ks a))=U at hun
 refine AFn.walk 31 tabOk Tryz.func102 rfl (by kernel_rfl) rfl rfl fun hou=>?_
 repeat' first|refine zN ?_|((with_reducible refine oj ?_);first|refine zix ?_|refine zow rfl rfl hi ?_)
 refine ACode.loopR hΓ (α:=Nat) (fun j=>[(13,.one (int j)),(12,.one (int (b.map cI).length)),(11,.one (.sl 1 (b.map cI))),(5,.one (.lit (.bool ((b.take j).any fun id=>decide (0 < many id))))),(1,.one (.mp (.o km))),(0,.one (.ptr (.o i) 0))])
  (fun j=>⟨0,[],ou⟩) (fun m j=>j<=b.length/\m=b.length - j) (a0:=0) (ρ:=id) ⟨by omega,rfl⟩ (LessR.of rfl zFS (by simp) zLO rfl rfl hou) fun m j hj=>?_
 obtain⟨hjl,rfl⟩:=hj
 obtain⟨S,hS⟩:∃S,S=(b.take j).any fun id=>decide (0 < many id):=⟨_,rfl⟩
 rw[←hS]
 refine zA ?_
 refine ACode.cond rfl (fun hb2=>?_) (fun hb2=>?_)
 ·have hlt:j < b.length:=by simpa using hb2
  obtain⟨q,hq⟩:=Q00 hlt
  have hsn:((b.take (j+1)).any fun id=>decide (0 < many id))=(S||decide (0 < many q)):=by rw[Q0n hq,List.any_append,hS];simp
  refine zA ?_
  refine zS (zIA rfl rfl rfl (by omega) (Q04 hq)) ?_
  refine zA ?_
  refine AOps.splitS rfl rfl rfl rfl (fun hs=>?_) (fun hs=>?_)
  ·rw[hs]at hsn
   refine zM ?_
   exact cInv ⟨b.length - (j+1),j+1,id,by omega,⟨by omega,rfl⟩,LessR.of rfl (by rw[hsn];(repeat' first|exact FrSub.nil|refine zfc ?_|refine zfo ?_|refine zfp ?_)) (by simp) zLO rfl rfl hou⟩
  ·rw[hs]at hsn
   refine zM ?_
   refine zS (AStep.lookI eN (cm:=false) (v:=.one (int (many q:Nat))) rfl Tryz.underlying122 Tryz.underlying3 rfl hm rfl (by kernel_rfl) zeroN hI (by rw[←hf q];cases f q <;> rfl)) ?_
   refine zM ?_
   refine cInv ⟨b.length - (j+1),j+1,id,by omega,⟨by omega,rfl⟩,LessR.of rfl ?_ (by simp) zLO rfl rfl hou⟩
   rw[hsn]
   refine FrSub.cons rfl (.ofEq rfl) (FrSub.cons rfl (.ofEq rfl) (FrSub.consP rfl (.ofEq rfl) (by simp) (FrSub.cons rfl (.ofEq ?_) (FrSub.cons rfl (.ofEq rfl) (FrSub.cons rfl (.ofEq rfl) .nil)))))
   simp only[FV.ren,AC.ren]
   congr 3
   simp
 ·have hlt:j=b.length:=by simp at hb2;omega
  subst hlt
  rw[List.take_length]at hS
  rw[←hS]
  refine zA ?_
  refine AOps.splitS rfl rfl rfl rfl (fun hs=>?_) (fun hs=>?_)
  ·refine zA ?_
   exact AFn.fin' rfl (WkF.ofEq (by rw[hs];rfl)) (by simp) hou ⟨rfl,rfl⟩
  ·refine zM ?_
   refine AOps.call1 hΓ rfl rfl rfl rfl rfl rfl rfl (by exact⟨trivial,trivial⟩) hou hun fun r ou' hq _ how=>?_
   obtain⟨rfl,rfl⟩:=hq
   refine zA ?_
   exact AFn.fin' rfl (WkF.ofEq (by rw[hs];rfl)) (by simp) hou ⟨rfl,rfl⟩
def CanQ (x:Bool)(ou:Outer)(r:FV)(ou':Outer):Prop:=r=.one (.lit (.bool x))/\OuOk ou'/\∀j o,ou j=some o->ou' j=some o
set_option maxHeartbeats 2000000 in
theorem can_ok(hΓ:∀g cs,(g,cs)∈Γ->idsL isO cs)(rule:Int)(i:Nat)(o nn:Int)(b:List Int)(ks:List LTr)(a:List LAlt)(hpl:Q24 (.mk i o nn none b ks a))(hok:okT (erT (.mk i o nn none b ks a)))(hsh:allT shpL (erT (.mk i o nn none b ks a)))(hc:cntN (erT (.mk i o nn none b ks a))<=1048576)
  (hrg:∀s∈ks,(erT s).op=1->-1073741824<=(erT s).n/\(erT s).n<=1073741823) (ou:Outer) (ho:Owns ou (objs (.mk i o nn none b ks a)))
  (km ck:Nat) (l:List (Nat×Int×Int)) (f:Nm) (many:Int->Nat) (hm:ou km=some (.map ck (encI eN l))) (hI:IMOk f ck l) (hf:∀q,(f q).getD 0=(many q:Nat)):
  AFn Tryz.prog Γ 86 [.one (int rule),.one (.ptr (.o i) 0),.one (.mp (.o km))] ou (CanQ (canT rule (erT (.mk i o nn none b ks a)) many) ou):=by
 have hi:ou i=some (.cells (lC (.mk i o nn none b ks a))):=Q09 ho
 simp only[lC,bC]at hi
 have hbl:b.length<=1048576:=hok.1
 have hkl:ks.length<=1048576:=by have:=hok.2.1;simpa[Q0g]using this
 obtain⟨t,hte⟩:∃t,t=LTr.mk i o nn none b ks a:=⟨_,rfl⟩
 obtain⟨X,hX⟩:∃X,X=canT rule (erT t) many:=⟨_,rfl⟩
 have hop:(erT t).op=o:=by rw[hte];rfl
 rw[←hte,←hX]
 unfold canT at hX
 rw[hop]at hX
 refine AFn.walk 135 tabOk Tryz.func86 rfl (by kernel_rfl) rfl rfl fun hou=>?_
 have hfin:∀x,X=x->CanQ X ou (.one (.lit (.bool x))) ou:=fun x h=>⟨by rw[h],hou,fun _ _ h=>h⟩
 by_cases h4:o=4
 ·subst h4
  rw[if_pos rfl]at hX
  obtain⟨q,y0,y1,hb2,hk2,ha2⟩:=Q99 (o:=4) (n:=nn) (b:=b) (k:=erTs ks) (a:=a.map LAlt.er) hsh rfl
  obtain⟨v,d,rfl⟩:∃v d,ks=[v,d]:=by
   rw[Q0g]at hk2
   match ks,hk2 with
   |[v,d],_=>exact⟨v,d,rfl⟩
  obtain rfl:a=[]:=by simpa using ha2
  subst hb2
  have hcl:=Qmv hΓ rule i nn q v d (many q) (Q0z hpl (by simp[LTr.kids])) hok hsh ou ho
  have hX:X=Qdd rule (erT (.mk i 4 nn none [q] [v,d] [])) (many q):=by rw[hX,hte];rfl
  rw[←hX]at hcl
  repeat' first|refine zN ?_|((with_reducible refine oj ?_);first|refine zix ?_|refine zow rfl rfl hi ?_)
  refine zS (AStep.lookI eN (cm:=false) (v:=.one (int (many q:Nat))) rfl Tryz.underlying122 Tryz.underlying3 rfl hm rfl (by kernel_rfl) zeroN hI (by rw[←hf q];cases f q <;> rfl)) ?_
  refine zA ?_
  refine AOps.call1 hΓ rfl rfl rfl rfl rfl rfl rfl (by exact⟨trivial,trivial,trivial,trivial⟩) hou hcl fun r ou' hq _ how=>?_
  obtain⟨rfl,rfl⟩:=hq
  refine zA ?_
  exact AFn.fin' rfl (WkF.refl _) (by simp) hou (hfin _ rfl)
 rw[if_neg h4]at hX
 by_cases hr4:rule=4
 ·subst hr4
  repeat' first|refine zN ?_|((with_reducible refine oj ?_);first|refine zix ?_|refine zow rfl rfl hi ?_)
  refine ACode.condS rfl (fun hb4=>absurd (by simpa using hb4) h4) (fun hb4=>?_)
  repeat' first|refine zN ?_|((with_reducible refine oj ?_);first|refine zix ?_|refine zow rfl rfl hi ?_)
  refine ACode.condS rfl (fun hb5=>?_) (fun hb5=>?_)
  ·have h5:o=5:=by simpa using hb5
   subst h5
   rw[if_pos ⟨rfl,rfl⟩]at hX
   have hrl:=(Qcc (o:=5) (n:=nn) (b:=b) (k:=erTs ks) (a:=a.map LAlt.er) hsh rfl).1
   rw[Q0g,List.length_map]at hrl
   have hre:=rest_ok hΓ i 5 nn b ks a hok hc (by omega) ou ho km ck l f many hm hI hf
   rw[←hte,←hX]at hre
   repeat' first|refine zN ?_|((with_reducible refine oj ?_);first|refine zix ?_|refine zow rfl rfl hi ?_)
   refine AOps.call1 hΓ rfl rfl rfl rfl rfl rfl rfl (by exact⟨trivial,trivial,trivial⟩) hou hre fun r ou' hq _ how=>?_
   obtain⟨rfl,rfl⟩:=hq
   refine zA ?_
   exact AFn.fin' rfl (WkF.refl _) (by simp) hou (hfin _ rfl)
  ·have h5:¬o=5:=by simpa using hb5
   rw[if_neg (fun h=>h5 h.2),if_neg (by simp),if_neg (by simp),if_neg (by simp),if_neg (by simp)]at hX
   repeat' first|refine zN ?_|((with_reducible refine oj ?_);first|refine zix ?_|refine zow rfl rfl hi ?_)
   exact AFn.fin' rfl (WkF.refl _) (by simp) hou (hfin _ hX)
 rw[if_neg (fun h=>hr4 h.1)]at hX
 by_cases hr6:rule=6
 ·subst hr6
  repeat' first|refine zN ?_|((with_reducible refine oj ?_);first|refine zix ?_|refine zow rfl rfl hi ?_)
  refine ACode.condS rfl (fun hb4=>absurd (by simpa using hb4) h4) (fun hb4=>?_)
  repeat' first|refine zN ?_|((with_reducible refine oj ?_);first|refine zix ?_|refine zow rfl rfl hi ?_)
  refine ACode.condS rfl (fun hb5=>?_) (fun hb5=>?_)
  ·have h5:o=8:=by simpa using hb5
   subst h5
   rw[if_pos ⟨rfl,rfl⟩]at hX
   have hkl3:(erT t).kids.length=ks.length:=by rw[hte,Q41];simp[LTr.kids]
   rw[hkl3]at hX
   repeat' first|refine zN ?_|((with_reducible refine oj ?_);first|refine zix ?_|refine zow rfl rfl hi ?_)
   refine AOps.splitS rfl rfl rfl rfl (fun hb6=>?_) (fun hb6=>?_)
   ·have h6:ks.length=2:=by simp[Q0q]at hb6;omega
    obtain⟨x,y,rfl⟩:∃x y,ks=[x,y]:=by
     match ks,h6 with
     |[x,y],_=>exact⟨x,y,rfl⟩
    have har:=Qip hΓ i 8 nn b x y a (hrg x (by simp)) (hrg y (by simp)) ou ho
    rw[←hte]at har
    have hX:X=(Q8j (erT t)).isSome:=hX
    refine zM ?_
    refine AOps.call1 hΓ rfl rfl rfl rfl rfl rfl rfl (by exact⟨trivial,trivial⟩) hou har fun r ow hq hids how=>?_
    cases hA:Q8j (erT t) with
    |none=>
     rw[hA]at hq hX
     obtain⟨rfl,_,hfr⟩:=hq
     refine zM ?_
     refine zS (AStep.neNil0 Tryz.underlying81 rfl rfl rfl) ?_
     refine zA ?_
     exact AFn.fin' rfl (WkF.refl _) (by simp) how ⟨by rw[hX];rfl,how,hfr⟩
    |some T=>
     rw[hA]at hq hX
     obtain⟨u,rfl,_,hD⟩:=hq
     refine zM ?_
     refine zS (AStep.neNil Tryz.underlying81 rfl rfl rfl) ?_
     refine zA ?_
     exact AFn.fin' rfl (WkF.refl _) (by simp) how ⟨by rw[hX];rfl,how,hD.old⟩
   ·have h6:¬ks.length=2:=by simp[Q0q]at hb6;omega
    rw[beq_eq_false_iff_ne.2 h6]at hX
    repeat' first|refine zN ?_|((with_reducible refine oj ?_);first|refine zix ?_|refine zow rfl rfl hi ?_)
    exact AFn.fin' rfl (WkF.refl _) (by simp) hou (hfin _ hX)
  ·have h5:¬o=8:=by simpa using hb5
   rw[if_neg (fun h=>h5 h.2),if_neg (by simp),if_neg (by simp),if_neg (by simp)]at hX
   repeat' first|refine zN ?_|((with_reducible refine oj ?_);first|refine zix ?_|refine zow rfl rfl hi ?_)
   exact AFn.fin' rfl (WkF.refl _) (by simp) hou (hfin _ hX)
 rw[if_neg (fun h=>hr6 h.1)]at hX
 by_cases hr7:rule=7
 ·subst hr7
  repeat' first|refine zN ?_|((with_reducible refine oj ?_);first|refine zix ?_|refine zow rfl rfl hi ?_)
  refine ACode.condS rfl (fun hb4=>absurd (by simpa using hb4) h4) (fun hb4=>?_)
  repeat' first|refine zN ?_|((with_reducible refine oj ?_);first|refine zix ?_|refine zow rfl rfl hi ?_)
  refine ACode.condS rfl (fun hb5=>?_) (fun hb5=>?_)
  ·have h5:o=10:=by simpa using hb5
   subst h5
   rw[if_pos ⟨rfl,rfl⟩]at hX
   have hrl:=Qkm (o:=10) (n:=nn) (b:=b) (k:=erTs ks) (a:=a.map LAlt.er) hsh rfl
   rw[Q0g,List.length_map]at hrl
   obtain⟨row,rfl⟩:=List.length_eq_one_iff.1 hrl
   have hfi:=Qig hΓ i 10 nn b row [] a (Q0z hpl (by simp[LTr.kids])) hok hsh ou ho
   rw[←hte]at hfi
   refine zA ?_
   refine AOps.call1 hΓ rfl rfl rfl rfl rfl rfl rfl (by exact⟨trivial,trivial⟩) hou hfi fun r ow hq hids how=>?_
   cases hA:Qa9 (erT t) with
   |none=>
    rw[hA]at hq hX
    obtain⟨rfl,_,hfr⟩:=hq
    refine zS (AStep.neNil0 Tryz.underlying81 rfl rfl rfl) ?_
    refine zA ?_
    exact AFn.fin' rfl (WkF.refl _) (by simp) how ⟨by rw[hX];rfl,how,hfr⟩
   |some T=>
    rw[hA]at hq hX
    obtain⟨u,rfl,_,hD⟩:=hq
    refine zS (AStep.neNil Tryz.underlying81 rfl rfl rfl) ?_
    refine zA ?_
    exact AFn.fin' rfl (WkF.refl _) (by simp) how ⟨by rw[hX];rfl,how,hD.old⟩
  ·have h5:¬o=10:=by simpa using hb5
   rw[if_neg (fun h=>h5 h.2),if_neg (by simp),if_neg (by simp)]at hX
   repeat' first|refine zN ?_|((with_reducible refine oj ?_);first|refine zix ?_|refine zow rfl rfl hi ?_)
   exact AFn.fin' rfl (WkF.refl _) (by simp) hou (hfin _ hX)
 rw[if_neg (fun h=>hr7 h.1)]at hX
 by_cases hr5:rule=5
 ·subst hr5
  repeat' first|refine zN ?_|((with_reducible refine oj ?_);first|refine zix ?_|refine zow rfl rfl hi ?_)
  refine ACode.condS rfl (fun hb4=>absurd (by simpa using hb4) h4) (fun hb4=>?_)
  repeat' first|refine zN ?_|((with_reducible refine oj ?_);first|refine zix ?_|refine zow rfl rfl hi ?_)
  refine ACode.condS rfl (fun hb5=>?_) (fun hb5=>?_)
  ·have h5:o=7:=by simpa using hb5
   subst h5
   rw[if_pos ⟨rfl,rfl⟩]at hX
   have hrl:=(Q8n (o:=7) (n:=nn) (b:=b) (k:=erTs ks) (a:=a.map LAlt.er) hsh rfl).1
   rw[Q0g,List.length_map,List.length_map]at hrl
   obtain⟨con,rs,rfl⟩:∃con rs,ks=con::rs:=by
    cases ks with
    |nil=>simp at hrl
    |cons c r=>exact⟨c,r,rfl⟩
   have hrm:con∈(LTr.mk i 7 nn none b (con::rs) a).kids:=by simp[LTr.kids]
   have hch:=Qf3 hΓ i 7 nn b con rs a (Q0z hpl hrm) hpl.2.1 (by simpa using hrl) hok hsh ou ho
   have hro:=Q14 ho hrm
   have hcop:(kidT (erT t) 0).op=(erT con).op:=by rw[hte];rfl
   rw[hcop]at hX
   cases con with
   |mk j op2 n2 nb2 b2 ks2 a2=>
   have hj:ou j=some (.cells (lC (.mk j op2 n2 nb2 b2 ks2 a2))):=Q09 hro
   simp only[lC,bC]at hj
   have hX:X=(op2==6&&(Q6a (erT t)).isSome):=hX
   rw[←hte]at hch
   repeat' first|refine zN ?_|((with_reducible refine oj ?_);first|refine zix ?_|refine zow rfl rfl hi ?_|refine zow rfl rfl hj ?_)
   refine AOps.splitS rfl rfl rfl rfl (fun hb6=>?_) (fun hb6=>?_)
   ·rw[hb6,Bool.true_and]at hX
    refine zM ?_
    refine AOps.call1 hΓ rfl rfl rfl rfl rfl rfl rfl (by exact⟨trivial,trivial⟩) hou hch fun r ow hq hids how=>?_
    cases hA:Q6a (erT t) with
    |none=>
     rw[hA]at hq hX
     obtain⟨rfl,_,hfr⟩:=hq
     refine zM ?_
     refine zS (AStep.neNil0 Tryz.underlying81 rfl rfl rfl) ?_
     refine zA ?_
     exact AFn.fin' rfl (WkF.refl _) (by simp) how ⟨by rw[hX];rfl,how,hfr⟩
    |some T=>
     rw[hA]at hq hX
     obtain⟨u,rfl,_,hD⟩:=hq
     refine zM ?_
     refine zS (AStep.neNil Tryz.underlying81 rfl rfl rfl) ?_
     refine zA ?_
     exact AFn.fin' rfl (WkF.refl _) (by simp) how ⟨by rw[hX];rfl,how,hD.old⟩
   ·rw[hb6,Bool.false_and]at hX
    repeat' first|refine zN ?_|((with_reducible refine oj ?_);first|refine zix ?_|refine zow rfl rfl hi ?_)
    exact AFn.fin' rfl (WkF.refl _) (by simp) hou (hfin _ hX)
  ·have h5:¬o=7:=by simpa using hb5
   rw[if_neg (fun h=>h5 h.2),if_neg (by simp)]at hX
   repeat' first|refine zN ?_|((with_reducible refine oj ?_);first|refine zix ?_|refine zow rfl rfl hi ?_)
   exact AFn.fin' rfl (WkF.refl _) (by simp) hou (hfin _ hX)
 rw[if_neg (fun h=>hr5 h.1)]at hX
 by_cases hr1:rule=1
 ·subst hr1
  repeat' first|refine zN ?_|((with_reducible refine oj ?_);first|refine zix ?_|refine zow rfl rfl hi ?_)
  refine ACode.condS rfl (fun hb4=>absurd (by simpa using hb4) h4) (fun hb4=>?_)
  repeat' first|refine zN ?_|((with_reducible refine oj ?_);first|refine zix ?_|refine zow rfl rfl hi ?_)
  refine ACode.condS rfl (fun hb5=>?_) (fun hb5=>?_)
  ·have h5:o=3:=by simpa using hb5
   subst h5
   rw[if_pos ⟨rfl,rfl⟩]at hX
   obtain⟨k0,ks',rfl⟩:∃k0 ks',ks=k0::ks':=by
    have:=(Qcd (o:=3) (n:=nn) (b:=b) (k:=erTs ks) (a:=a.map LAlt.er) hsh rfl).1
    cases ks with
    |nil=>simp[erTs]at this
    |cons k0 ks'=>exact⟨k0,ks',rfl⟩
   have hk0m:k0∈(LTr.mk i 3 nn none b (k0::ks') a).kids:=by simp[LTr.kids]
   have hkt:kidT (erT t) 0=erT k0:=by rw[hte];rfl
   have hkl2:(erT t).kids.length=ks'.length+1:=by rw[hte,Q41];simp[LTr.kids]
   rw[hkt,hkl2]at hX
   have hk0o:=Q14 ho hk0m
   have hpk0:=Q0z hpl hk0m
   cases k0 with
   |mk j op2 n2 nb2 b2 ks2 a2=>
   obtain rfl:nb2=none:=hpk0.1
   have hj:ou j=some (.cells (lC (.mk j op2 n2 none b2 ks2 a2))):=Q09 hk0o
   simp only[lC,bC]at hj
   have hX:X=(op2==2&&((b2.length:Int)==((ks'.length+1:Nat):Int) - 1)):=hX
   refine zA ?_
   by_cases h2:op2=2
   ·refine ACode.drawX tabOk 29 [(3,.one (.sl 1 (kC (.mk j op2 n2 none b2 ks2 a2::ks')))),(4,.one (.box [.ptr (.o j) 0])),(8,.one (int op2)),(9,.one (.lit (.bool true))),(14,.one (.sl 1 (kC (.mk j op2 n2 none b2 ks2 a2::ks')))),(15,.one (.box [.ptr (.o j) 0])),(19,.one (.sl 1 (b2.map cI))),(24,.one (.sl 1 (kC (.mk j op2 n2 none b2 ks2 a2::ks')))),(26,.one (int (((kC (.mk j op2 n2 none b2 ks2 a2::ks')).length:Int) - 1)))] follows (by kernel_rfl) rfl rfl rfl rfl ?_ ?_
    ·refine .step rfl (zHP (zLD rfl rfl hi rfl)) ?_
     refine .step rfl (zHP (zIA rfl rfl rfl (by decide) rfl)) ?_
     refine .step rfl (zHP (zLD rfl rfl hj rfl)) ?_
     refine .step rfl (HStep.litB tabOk rfl (by simp[h2])) ?_
     refine .step rfl (HStep.guarded rfl rfl rfl (zLD rfl rfl hi rfl)) ?_
     refine .step rfl (HStep.guarded rfl rfl rfl (zIA rfl rfl rfl (by decide) rfl)) ?_
     refine .step rfl (HStep.guarded rfl rfl rfl (zLD rfl rfl hj rfl)) ?_
     refine .step rfl (HStep.guarded rfl rfl rfl (zLD rfl rfl hi rfl)) ?_
     exact .step rfl (HStep.guarded rfl rfl rfl (AStep.arith rfl rfl rfl (.inr (.inl ⟨rfl,rfl⟩)) (Q2v (by rw[Q0q];have:(0:Int)<=((LTr.mk j op2 n2 none b2 ks2 a2::ks').length:Int):=Int.natCast_nonneg _;omega) (by rw[Q0q];omega)))) .nil
    refine zA ?_
    refine AFn.fin' rfl (WkF.refl _) (by simp) hou (hfin _ ?_)
    rw[hX,h2]
    simp[Q0q]
   ·refine ACode.drawX tabOk 29 [(3,.one (.sl 1 (kC (.mk j op2 n2 none b2 ks2 a2::ks')))),(4,.one (.box [.ptr (.o j) 0])),(8,.one (int op2)),(9,.one (.lit (.bool false)))] follows (by kernel_rfl) rfl rfl rfl rfl ?_ ?_
    ·refine .step rfl (zHP (zLD rfl rfl hi rfl)) ?_
     refine .step rfl (zHP (zIA rfl rfl rfl (by decide) rfl)) ?_
     refine .step rfl (zHP (zLD rfl rfl hj rfl)) ?_
     exact .step rfl (HStep.litB tabOk rfl (by simp[h2])) .nil
    refine zA ?_
    refine AFn.fin' rfl (WkF.refl _) (by simp) hou (hfin _ ?_)
    rw[hX,beq_eq_false_iff_ne.2 h2];rfl
  ·have h5:¬o=3:=by simpa using hb5
   rw[if_neg (fun h=>h5 h.2)]at hX
   repeat' first|refine zN ?_|((with_reducible refine oj ?_);first|refine zix ?_|refine zow rfl rfl hi ?_)
   exact AFn.fin' rfl (WkF.refl _) (by simp) hou (hfin _ hX)
 rw[if_neg (fun h=>hr1 h.1)]at hX
 repeat' first|refine zN ?_|((with_reducible refine oj ?_);first|refine zix ?_|refine zow rfl rfl hi ?_)|(with_reducible refine oj ?_;refine AOps.splitS rfl rfl rfl rfl (fun hb=>?_) (fun hb=>?_))|(with_reducible refine ok ?_;first|refine ACode.condS rfl (fun hb=>?_) (fun hb=>?_)|refine ACode.cond rfl (fun hb=>?_) (fun hb=>?_))
 all_goals first
  |(exfalso;simp at *;omega)
  |exact AFn.fin' rfl (WkF.refl _) (by simp) hou (hfin _ hX)
end Go.Proofs.YtpaonemmbhbgoaaGreatDoor
namespace Go.CoreX
def nextF (e:List Ex)(r:Int):Option (Int×Nat):=((growL e).zipIdx.find? fun p=>canT r p.1 (manyE e)).map fun p=>(r,p.2)
def nextR (e:List Ex):Int×Int×Bool×Int:=if check e≠0 then (0,0,false,check e)else match nextE e with
 |none=>(0,0,false,0)
 |some (r,i)=>(r,i,true,0)
end Go.CoreX
namespace Go.Proofs.YtpaonemmbhbgoaaGreatDoor
open Go Go.Abs Go.CoreX
def Γo:List (Nat×List AC):=[(0,orC),(1,arC)]
theorem hΓo:∀g cs,(g,cs)∈Γo->idsL isO cs:=by
 intro g cs h
 simp only[Γo,List.mem_cons,List.not_mem_nil,or_false,Prod.mk.injEq]at h
 rcases h with ⟨_,rfl⟩|⟨_,rfl⟩
 ·simp[orC]
 ·exact hΓc 1 arC (by simp[Γc])
theorem hco:∀g cs,(g,cs)∈Γc->(g,cs)∈Γo:=by
 intro g cs h
 simp only[Γc,List.mem_cons,List.not_mem_nil,or_false,Prod.mk.injEq]at h
 obtain⟨rfl,rfl⟩:=h
 simp[Γo]
theorem APure.o{g:Nat}{args:List FV}{r:FV}(h:APure Tryz.prog Γc g args r):APure Tryz.prog Γo g args r:=h.moreG hco hΓo
set_option maxHeartbeats 1000000 in
theorem Next_ok(e:List Ex)(he:okB e):APure Tryz.prog Γo 55 [.one (.sl 5 (e.map cEx))] (.tup [.agg [int (nextR e).1,int (nextR e).2.1,int 0],.one (.lit (.bool (nextR e).2.2.1)),.one (int (nextR e).2.2.2)]):=by
 have c1:=APure.o (Q2r e he)
 have hel:=he.eo.l
 intro ou
 refine AFn.forget ?_
 refine AFn.walk 46 tabOk Tryz.func55 rfl (by kernel_rfl) rfl rfl fun hou=>?_
 refine zA ?_
 refine zca hΓo c1 hou ?_
 refine zA ?_
 refine ACode.cond rfl (fun hb=>?_) (fun hb=>?_)
 ·have h:check e≠0:=by simpa using hb
  have hR:nextR e=(0,0,false,check e):=by unfold nextR;rw[if_pos h]
  rw[hR]
  refine zA ?_
  exact AFn.fin' rfl (WkF.ofEq rfl) (by simp) hou ⟨ou,fun _ _ h=>h,rfl,rfl⟩
 have h:check e=0:=by simpa using hb
 have t1:=Q0f h
 have hR:nextR e=match nextE e with
   |none=>(0,0,false,0)
   |some (r,i)=>(r,i,true,0):=by unfold nextR;rw[if_neg (by simpa using h)]
 rw[hR]
 refine zA ?_
 refine AOps.call1 hΓo rfl rfl rfl rfl rfl rfl rfl (by simp) hou (Qlk hΓo e he.eo t1.k t1.ne ou) fun r ov hq hids hov=>?_
 obtain⟨lts,root,rfl,hL,hr,hN⟩:=hq
 refine zA ?_
 refine AOps.call1 hΓo rfl rfl rfl rfl rfl rfl rfl (by simp) hov (Qav hΓo e hel ov) fun r ov2 hq hids2 hov2=>?_
 obtain⟨km,ck,l,f,rfl,hkm,hI,hf,_,hext⟩:=hq
 have hown2:Owns ov2 (lts.flatMap ownO):=fun p hp=>hext _ _ (hN.own p hp)
 have hold2:∀m o,ou m=some o->ov2 m=some o:=fun m o hm=>hext _ _ (hN.oldS hm)
 have hll:lts.length=e.length:=hL.len
 obtain⟨W,hW⟩:∃W,W=[AC.sl 1 (kC lts),AC.ptr (.o root.id) 0]:=⟨_,rfl⟩
 have hWi:idsL isO W:=by rw[hW];simp
 have hWl:∀k,idsL (inL k) W:=fun k=>by rw[hW];simp[inL]
 rw[←hW]
 refine zA ?_
 refine ACode.loopR hΓo (α:=Nat×Outer) (fun c=>[(23,.one (int c.1)),(22,.agg orC),(7,.one (.mp (.o km))),(6,.one (.box W)),(2,.one (.ptr (.l 0) 0))])
  (fun c=>⟨1,[(0,.cells [int 0,int 0,int 0])],c.2⟩) (fun m c=>c.1<=10/\(nextE e=(Q8c.drop c.1).findSome? (nextF e)/\(∀j o,ov2 j=some o->c.2 j=some o)/\OuOk c.2)/\m=10 - c.1) (a0:=(0,ov2)) (ρ:=id) ⟨by omega,⟨rfl,fun _ _ h=>h,hov2⟩,rfl⟩
  (LessR.of rfl (FrSub.cons rfl (.ofEq rfl) (FrSub.cons rfl (.ofEq rfl) (FrSub.cons rfl (.ofEq rfl) (FrSub.consP rfl (.ofEq rfl) (by simp [hWi]) (FrSub.cons rfl (.ofEq rfl) .nil))))) (by simp [hWl, orC]) (LoSub.cons rfl rfl rfl (by simp) .nil) rfl rfl hov2) fun m c hc => ?_
 obtain⟨ri,ow⟩:=c
 obtain⟨hri,⟨hne,how,hokw⟩,rfl⟩:=hc
 dsimp only at hri hne how hokw
 refine zA ?_
 refine ACode.cond rfl (fun hb2=>?_) (fun hb2=>?_)
 ·have hlt:ri < 10:=by simp at hb2;omega
  obtain⟨rule,hrule⟩:=Q00 (l:=Q8c) (i:=ri) hlt
  obtain⟨q1,q2⟩:=List.getElem?_eq_some_iff.1 hrule
  rw[List.drop_eq_getElem_cons q1,q2,List.findSome?_cons]at hne
  have hor:orC[((ri:Nat):Int).toNat]?=some (int rule):=by
   rw[Int.toNat_natCast,show orC=Q8c.map int from rfl,List.getElem?_map,hrule];rfl
  refine zA ?_
  refine zS (AStep.indexAgg tabOk rfl rfl rfl rfl rfl rfl rfl rfl (by omega) (by show _ < ((10:Nat):Int);omega) hor) ?_
  refine zA ?_
  rw[hW]
  refine zA ?_
  refine ACode.loopR hΓo (α:=Nat×Outer) (fun c=>[(31,.one (int c.1)),(30,.one (int (kC lts).length)),(29,.one (.sl 1 (kC lts))),(9,.one (int rule)),(23,.one (int ri)),(22,.agg orC),(7,.one (.mp (.o km))),(6,.one (.box W)),(2,.one (.ptr (.l 0) 0))])
   (fun c=>⟨1,[(0,.cells [int 0,int 0,int 0])],c.2⟩) (fun m c=>c.1<=e.length/\(nextF e rule=((((growL e).zipIdx.drop c.1).find? fun p=>canT rule p.1 (manyE e)).map fun p=>(rule,p.2))/\(∀j o,ov2 j=some o->c.2 j=some o)/\OuOk c.2)/\m=e.length - c.1) (a0:=(0,ow)) (ρ:=id) ⟨by omega,⟨rfl,how,hokw⟩,rfl⟩
   (LessR.of rfl ?_ (by simp[hWl,orC]) (LoSub.cons rfl rfl rfl (by simp) .nil) rfl rfl hokw) fun m c hc=>?_
  ·refine FrSub.cons rfl (.ofEq rfl) (FrSub.cons rfl (.ofEq rfl) (FrSub.consP rfl (.ofEq rfl) (by simp) (FrSub.cons rfl (.ofEq rfl) (FrSub.cons rfl (.ofEq rfl) (FrSub.cons rfl (.ofEq rfl) (FrSub.cons rfl (.ofEq rfl) (FrSub.consP rfl (.ofEq (by rw[hW])) (by simp[hWi]) (FrSub.cons rfl (.ofEq rfl) .nil))))))))
  obtain⟨j,ox⟩:=c
  obtain⟨hjl,⟨hnf,hox,hokx⟩,rfl⟩:=hc
  dsimp only at hjl hnf hox hokx
  refine zA ?_
  refine ACode.cond rfl (fun hb3=>?_) (fun hb3=>?_)
  ·have hp:j < e.length:=by simp[Q0q]at hb3;omega
   obtain⟨x,hx⟩:=Q00 hp
   obtain⟨id,nb,a,ht0,ha,hnb,hab⟩:=hL.at_ j x hx
   obtain rfl:nb=none:=hnb
   obtain⟨ks,hks⟩:∃ks,ks=x.kids.map fun q=>lts.getD q.toNat default:=⟨_,rfl⟩
   rw[←hks]at ht0
   obtain⟨t,hte⟩:∃t,t=LTr.mk id x.op x.n none x.binds ks a:=⟨_,rfl⟩
   have ht:lts[j]?=some t:=by rw[hte];exact ht0
   have hti:t.id=id:=by rw[hte];rfl
   have her:erT t=Q0b e j:=hL.er t1.k _ j t (Nat.lt_succ_self _) ht
   have hwd:allT (fun l=>l.op=1->-1073741824<=l.n/\l.n<=1073741823) (erT t):=by rw[her];exact Q2b t1 (Qah h) hp
   have hOx:Owns ox (objs t):=fun p hpp=>hox _ _ (hown2 p (hL.own t1.k _ j t (Nat.lt_succ_self _) ht p hpp))
   have hzl:(growL e).zipIdx[j]?=some (Q0b e j,j):=by
    rw[List.getElem?_zipIdx]
    unfold Q0b
    rw[List.getD_eq_getElem?_getD,List.getElem?_eq_getElem (by rw[Q0m];exact hp)]
    simp
   obtain⟨z1,z2⟩:=List.getElem?_eq_some_iff.1 hzl
   rw[List.drop_eq_getElem_cons z1,z2,List.find?_cons]at hnf
   have hcan:=can_ok (Γ:=Γo) hΓo rule id x.op x.n x.binds ks a (by rw[←hte];exact hL.plain t1.k _ j t (Nat.lt_succ_self _) ht) (by rw[←hte,her];exact Q47 he t1 hp) (by rw[←hte,her];exact Q2b t1 (Q5i h) hp) (by rw[←hte,her];have:=Q8h h hp;omega)
    (fun s hs h1 => by
     have h2:=Q1x hwd (Q1y (t:=t) (s:=s) (by rw[hte];exact hs))
     cases hse:erT s with
     |mk o' n' b' k' a'=>
      rw[hse]at h2 h1
      exact h2.1 h1) ox (by rw[←hte];exact hOx) km ck l f (manyE e) (hox _ _ hkm) hI hf
   rw[←hte,her]at hcan
   refine zA ?_
   refine zS (zIA rfl rfl rfl (by omega) (Q2n ht)) ?_
   refine zA ?_
   rw[hti]
   refine AOps.call1 hΓo rfl rfl rfl rfl rfl rfl rfl (by exact⟨trivial,trivial,trivial,trivial⟩) hokx hcan fun r oy hq _ hoy=>?_
   obtain⟨rfl,_,hyx⟩:=hq
   refine zA ?_
   refine ACode.condS rfl (fun hbc=>?_) (fun hbc=>?_)
   ·rw[hbc]at hnf
    have hnf:nextF e rule=some (rule,j):=hnf
    rw[hnf]at hne
    have hne:nextE e=some (rule,j):=hne
    rw[hne]
    refine zA ?_
    exact AFn.fin' rfl (WkF.ofEq rfl) (by simp) hoy ⟨ou,fun m o hm=>hyx _ _ (hox _ _ (hold2 m o hm)),rfl,rfl⟩
   ·rw[hbc]at hnf
    have hnf:nextF e rule=((((growL e).zipIdx.drop (j+1)).find? fun p=>canT rule p.1 (manyE e)).map fun p=>(rule,p.2)):=hnf
    refine zM ?_
    exact cInv ⟨e.length - (j+1),(j+1,oy),fun k=>k,by omega,⟨by omega,⟨hnf,fun m o hm=>hyx _ _ (hox m o hm),hoy⟩,rfl⟩,LessR.of rfl (FrSub.cons rfl (.ofEq rfl) (FrSub.cons rfl (.ofEq rfl) (FrSub.consP rfl (.ofEq rfl) (by simp) (FrSub.cons rfl (.ofEq rfl) (FrSub.cons rfl (.ofEq rfl) (FrSub.cons rfl (.ofEq rfl) (FrSub.cons rfl (.ofEq rfl) (FrSub.consP rfl (.ofEq rfl) (by simp[hWi]) (FrSub.cons rfl (.ofEq rfl) .nil))))))))) (by simp[hWl,orC]) (LoSub.cons rfl rfl rfl (by simp) .nil) rfl rfl hoy⟩
  ·have hjl2:j=e.length:=by simp[Q0q]at hb3;omega
   subst hjl2
   rw[List.drop_eq_nil_of_le (by rw[List.length_zipIdx,Q0m];exact Nat.le_refl _)]at hnf
   have hnf:nextF e rule=none:=hnf
   rw[hnf]at hne
   have hne:nextE e=(Q8c.drop (ri+1)).findSome? (nextF e):=hne
   refine zM ?_
   exact cInv ⟨10 - (ri+1),(ri+1,ox),fun k=>k,by omega,⟨by omega,⟨hne,hox,hokx⟩,rfl⟩,LessR.of rfl (FrSub.cons rfl (.ofEq rfl) (FrSub.cons rfl (.ofEq rfl) (FrSub.cons rfl (.ofEq rfl) (FrSub.consP rfl (.ofEq (by rw[hW])) (by simp[←hW,hWi]) (FrSub.cons rfl (.ofEq rfl) .nil))))) (by simp[hWl,orC]) (LoSub.cons rfl rfl rfl (by simp) .nil) rfl rfl hokx⟩
 ·have hri2:ri=10:=by simp at hb2;omega
  subst hri2
  have hne:nextE e=none:=hne
  rw[hne]
  refine zA ?_
  exact AFn.fin' rfl (WkF.ofEq rfl) (by simp) hokw ⟨ou,fun m o hm=>how _ _ (hold2 m o hm),rfl,rfl⟩
def cS (s:Step3):List AC:=[int s.1,int s.2.1,int s.2.2]
theorem Qi7(p:Abs.Id->Prop)(l:List Step3):idsS p (l.map cS):=Q2y (f:=cS) (fun s=>by simp[cS]) l
@[simp] theorem ids_cS_l (k:Nat) (l:List Step3):idsS (inL k) (l.map cS):=Qi7 _ l
@[simp] theorem ids_cS_o (l:List Step3):idsS isO (l.map cS):=Qi7 _ l
theorem Q3q{e:List Ex}(he:okB e){r p n:Int}(h:(Q0p e r p n).2=0):okB (Q0p e r p n).1:=by
 obtain⟨hc,_,⟨hp0,hp1⟩,X,hX,hck,hE⟩:=Qk2 h
 have t1:=Q0f hc
 rw[hE]
 have hpX:allT pOk X:=Ql2 (nodes:=growL e) (root:=grow e) (t:=Q0b e p.toNat) (Q40 _ (Q47 he t1 (by omega))) (fun s hs=>by
  obtain⟨q,hq1,hq2⟩:=List.getElem_of_mem hs
  rw[Q0m]at hq1
  have:Q0b e q=s:=by unfold Q0b;rw[List.getD_eq_getElem?_getD,List.getElem?_eq_getElem (by rw[Q0m];exact hq1),hq2];rfl
  rw[←this];exact Q40 _ (Q47 he t1 hq1)) hX
 refine Q4h (Q7l t1.k (fun y hy=>Qhp he _ (List.mem_map_of_mem (f:=labE e) hy)) p.toNat hpX _ _ (Nat.lt_succ_self _) (by have:=List.length_pos_iff.2 t1.ne;omega)) ?_
 obtain⟨p1,_⟩:=Q4p hck
 obtain⟨q1,_,_⟩:=(Q29 _).1 p1
 have h2:=Q27 (growR e p.toNat X) []
 simp only[List.length_nil]at h2
 show cntN (growR e p.toNat X)<=1048576
 omega
theorem Q6t{e:List Ex}(he:okB e)(h:check e=0):okB (listT [] (grow e)):=by
 have t1:=Q0f h
 refine Q4h (Q40 _ (he.t t1.k t1.ne)) ?_
 have h1:=Qhy h
 have h2:=Q27 (grow e) []
 have:=he.eo.l
 simp only[List.length_nil]at h2
 omega
theorem Qjb{r:Int}(h:r∈Q8c):r≠10/\r≠12:=by
 simp[Q8c]at h
 omega
set_option maxHeartbeats 1000000 in
theorem Qn6(e:List Ex)(he:okB e)(b:Int):APure Tryz.prog Γo 20 [.one (.sl 5 (e.map cEx)),.one (int b)] (.tup [.one (.sl 5 ((simpE e b).1.map cEx)),.one (.sl 3 ((simpE e b).2.1.map cS)),.one (int (simpE e b).2.2)]):=by
 have c1:=APure.o (Q2r e he)
 intro ou
 refine AFn.walk 56 tabOk Tryz.func20 rfl (by kernel_rfl) rfl rfl fun hou=>?_
 refine zA ?_
 refine zca hΓo c1 hou ?_
 refine zA ?_
 refine ACode.cond rfl (fun hb=>?_) (fun hb=>?_)
 ·have h:check e≠0:=by simpa using hb
  have hR:simpE e b=([],[],check e):=by unfold simpE;rw[if_pos h]
  rw[hR]
  refine zA ?_
  exact APure.fin rfl (WkF.tup (.cons (.one (.nilS 5)) (.cons (.one (.nilS 3)) (.cons (.refl _) .nil)))) (by simp) hou rfl
 have h:check e=0:=by simpa using hb
 refine zA ?_
 refine AOps.splitS rfl rfl rfl rfl (fun hb1=>?_) (fun hb1=>?_)
 ·have h1:b < 0:=by simpa using hb1
  have hR:simpE e b=([],[],4):=by unfold simpE;rw[if_neg (by simpa using h),if_pos (.inl h1)]
  rw[hR]
  refine zA ?_
  exact APure.fin rfl (WkF.tup (.cons (.one (.nilS 5)) (.cons (.one (.nilS 3)) (.cons (.refl _) .nil)))) (by simp) hou rfl
 have h1:¬b < 0:=by simpa using hb1
 refine zA ?_
 refine ACode.cond rfl (fun hb2=>?_) (fun hb2=>?_)
 ·have h2:500 < b:=by simpa using hb2
  have hR:simpE e b=([],[],4):=by unfold simpE;rw[if_neg (by simpa using h),if_pos (.inr h2)]
  rw[hR]
  refine zA ?_
  exact APure.fin rfl (WkF.tup (.cons (.one (.nilS 5)) (.cons (.one (.nilS 3)) (.cons (.refl _) .nil)))) (by simp) hou rfl
 have h2:¬500 < b:=by simpa using hb2
 obtain⟨B,rfl⟩:∃B:Nat,b=B:=⟨b.toNat,by omega⟩
 have hR:simpE e (B:Int)=((Q0y B (listT [] (grow e))).1,(Q0y B (listT [] (grow e))).2,0):=by unfold simpE;rw[if_neg (by simpa using h),if_neg (by omega),Int.toNat_natCast]
 rw[hR]
 clear hR
 have t1:=Q0f h
 have hl:(listT [] (grow e)).length<=1048576:=by rw[Q8u t1];exact he.eo.l
 obtain⟨E0,hE0⟩:∃E0,E0=listT [] (grow e):=⟨_,rfl⟩
 have hOb:okB E0:=by rw[hE0];exact Q6t he h
 have hOc:check E0=0:=by rw[hE0];exact Q83 h
 have hLi:=Qaq hΓo (grow e) (he.t t1.k t1.ne) hl
 rw[←hE0]at hLi ⊢
 refine zA ?_
 refine zca hΓo (Q6c hΓo e he.eo t1.k t1.ne) hou ?_
 refine zca hΓo hLi hou ?_
 refine zA ?_
 refine ACode.growS 9 41 3 rfl ?_
 refine ACode.loopR hΓo (α:=List Ex×List Step3) (fun c=>[(9,.one (.gs 3 (c.2.map cS) (.l 0))),(8,.one (.sl 5 (c.1.map cEx))),(1,.one (int B))])
  (fun c=>⟨1,[(0,.tok 41 3 (c.2.map cS).length)],ou⟩) (fun m c=>(c.2.length<=B/\okB c.1/\check c.1=0/\Q0y B E0=((Q0y (B - c.2.length) c.1).1,c.2++(Q0y (B - c.2.length) c.1).2))/\m=B - c.2.length) (a0:=(E0,[])) (ρ:=id) ⟨⟨by simp,hOb,hOc,by simp⟩,rfl⟩
  (LessR.of rfl (FrSub.consGs rfl rfl (by simp) (FrSub.consP rfl (.ofEq rfl) (by simp) (FrSub.cons rfl (.ofEq rfl) .nil))) (by simp) zLO rfl rfl hou) fun m c hc=>?_
 obtain⟨out,L⟩:=c
 obtain⟨⟨hLl,hob,hoc,hst⟩,rfl⟩:=hc
 dsimp only at hLl hob hoc hst
 have hlen:((L.map cS).length:Int)=(L.length:Int):=by simp
 refine zA ?_
 have hstop:∀{k:Nat},B - L.length=k->Q0y k out=(out,[])->Q0y B E0=(out,L):=fun hk hs=>by rw[hst,hk,hs];simp
 refine ACode.cond rfl (fun hb3=>?_) (fun hb3=>?_)
 ·have hlt:L.length < B:=by simp at hb3;omega
  obtain⟨k,hk⟩:∃k,B - L.length=k+1:=⟨B - L.length - 1,by omega⟩
  have hnx:=Next_ok out hob
  refine zA ?_
  cases hn:nextE out with
  |none=>
   have hnr:nextR out=(0,0,false,0):=by unfold nextR;rw[if_neg (by simpa using hoc),hn]
   rw[hnr]at hnx
   refine zca hΓo hnx hou ?_
   refine zA ?_
   have hfin:=hstop hk (by simp only[Q0y,hn])
   rw[hfin]
   exact APure.fin (r':=.tup [.one (.sl 5 (out.map cEx)),.one (.sl 3 (L.map cS)),.one (int 0)]) rfl (WkF.tup (.cons (.refl _) (.cons (.one (.gsE rfl)) (.cons (.refl _) .nil)))) (by simp) hou rfl
  |some p=>
   obtain⟨r,i⟩:=p
   have hnr:nextR out=(r,(i:Int),true,0):=by unfold nextR;rw[if_neg (by simpa using hoc),hn]
   rw[hnr]at hnx
   have hrr:=Qjb (Qjj hn).1
   have hap:=APure.o (Qk5 out hob r i 0 hrr.1 hrr.2)
   refine zca hΓo hnx hou ?_
   refine zA ?_
   refine AOps.callC hΓo hap rfl rfl rfl rfl rfl rfl rfl hou (by simp[idsF]) ?_
   refine zA ?_
   refine ACode.cond rfl (fun hb4=>?_) (fun hb4=>?_)
   ·have h4:¬(Q0p out r i 0).2=0:=by simpa using hb4
    refine zA ?_
    have hfin:=hstop hk (by simp only[Q0y,hn,if_neg h4])
    rw[hfin]
    exact APure.fin (r':=.tup [.one (.sl 5 (out.map cEx)),.one (.sl 3 (L.map cS)),.one (int 0)]) rfl (WkF.tup (.cons (.refl _) (.cons (.one (.gsE rfl)) (.cons (.refl _) .nil)))) (by simp) hou rfl
   ·have h4:(Q0p out r i 0).2=0:=by simpa using hb4
    have hord:=Q76 h4
    have hob2:=Q3q hob h4
    generalize hA:Q0p out r i 0=A at h4 hord hob2
    refine zA ?_
    refine AOps.app tabOk rfl rfl rfl rfl rfl rfl rfl rfl rfl (Base.gs' _ 41 3 _ _ rfl rfl) (.sl _ _) rfl ?_ ?_ ?_
    ·rw[List.length_map];show (L.length+1) * 24<=_;omega
    ·rw[List.length_map];show L.length+1<=_;omega
    refine zA ?_
    obtain⟨L',hL'⟩:∃L',L'=L++[(r,(i:Int),0)]:=⟨_,rfl⟩
    have hsn:L'.map cS=L.map cS++[[int r,int i,int 0]]:=by rw[hL',List.map_append];rfl
    have hll:L'.length=L.length+1:=by rw[hL'];simp
    refine cInv ⟨B - (L.length+1),(A.1,L'),fun q=>if q=0 then 2 else q,by show B - (L.length+1) < B - L.length;omega,⟨⟨by show L'.length<=B;omega,hob2,hord.1,?_⟩,by rw[hll]⟩,?_⟩
    ·rw[hst,hk]
     have hlk:B - L'.length=k:=by omega
     rw[hlk,hL']
     simp only[Q0y,hn,hA,if_pos h4]
     simp
    ·show LessR _ _ _ [(9,.one (.gs 3 (L'.map cS) (.l 0))),(8,.one (.sl 5 (A.1.map cEx))),(1,.one (int B))] ⟨1,[(0,.tok 41 3 (L'.map cS).length)],ou⟩
     rw[hsn]
     exact LessR.of rfl (FrSub.consGs rfl rfl (by rw[←hsn];simp) (FrSub.consP rfl (.ofEq rfl) (by simp) (FrSub.cons rfl (.ofEq rfl) .nil))) (by rw[←hsn];simp) zLO rfl rfl hou
 ·have hlt:B - L.length=0:=by simp at hb3;omega
  refine zA ?_
  have hfin:=hstop hlt (by simp only[Q0y])
  rw[hfin]
  exact APure.fin (r':=.tup [.one (.sl 5 (out.map cEx)),.one (.sl 3 (L.map cS)),.one (int 0)]) rfl (WkF.tup (.cons (.refl _) (.cons (.one (.gsE rfl)) (.cons (.refl _) .nil)))) (by simp) hou rfl
theorem Q97:∀(k:Nat){e:List Ex},okB e->okB (Q0y k e).1
 |0,e,h=>h
 |k+1,e,h=>by
  simp only[Q0y]
  split
  ·exact h
  ·rename_i r i _
   split
   ·rename_i hk;exact Q97 k (Q3q h hk)
   ·exact h
variable {Γ:List (Nat×List AC)}
end Go.Proofs.YtpaonemmbhbgoaaGreatDoor
namespace Go.CoreX
end Go.CoreX
namespace Go.Proofs.YtpaonemmbhbgoaaGreatDoor
open Go Go.Abs Go.CoreX
variable {Γ:List (Nat×List AC)}
end Go.Proofs.YtpaonemmbhbgoaaGreatDoor
namespace Go.Abs
theorem Qc4{p:Id->Prop}{s cap:Nat}(es:List (List AC))(h:idsS p es):(AObj.cells (vec s es cap)).ids p:=by
 show idsL p (vec s es cap)
 refine Q6y.2 fun c hc=>?_
 unfold vec at hc
 rcases List.mem_append.1 hc with hc|hc
 ·obtain⟨x,hx,hcx⟩:=List.mem_flatten.1 hc
  exact Q6y.1 (Qi8.1 h x hx) c hcx
 ·obtain⟨_,rfl⟩:=List.mem_replicate.1 hc
  trivial
theorem updO_ok{ou:Outer}{k:Nat}{o:AObj}(h:OuOk ou)(ho:o.ids isO):OuOk (updO ou k o):=fun j x hx=>by
 by_cases e:k=j
 ·subst e;rw[Q06]at hx;cases hx;exact ho
 ·rw[Q0c _ e]at hx;exact h j x hx
end Go.Abs
namespace Go.Proofs.YtpaonemmbhbgoaaGreatDoor
open Go Go.Abs Go.CoreX
variable {Γ:List (Nat×List AC)}
def GrwQ (ou:Outer)(r:FV)(ou':Outer):Prop:=
 (r=.one (.lit (.slice none 0 0))/\ou'=ou)∨∃k cap,ou k=none/\r=.one (.arr (.o k) 3 0 0 cap)/\ou'=updO ou k (.cells (vec 3 [] cap))
theorem Qpd(n:Nat)(hn:n<=1048576)(ou:Outer):AFn Tryz.prog Γ 59 [.one (.lit (.slice none 0 0)),.one (int n)] ou (GrwQ ou):=by
 refine AFn.walk 27 tabOk Tryz.func59 rfl (by kernel_rfl) rfl rfl fun hou=>?_
 refine zA ?_
 refine zS (AStep.capNil tabOk rfl rfl rfl rfl) ?_
 refine zM ?_
 refine ACode.cond rfl (fun hb=>?_) (fun hb=>?_)
 ·have hn0:0 < n:=by simp at hb;omega
  refine zA ?_
  refine zS (AStep.capNil tabOk rfl rfl rfl rfl) ?_
  refine zA ?_
  refine zS (AStep.sliceNilTo tabOk rfl rfl rfl rfl rfl rfl) ?_
  refine zA ?_
  refine AOps.wk 21 rfl (y:=.one (int n)) (.ofEq (by simp)) ?_
  refine AOps.stepR rfl rfl rfl (Q0w.appZeros0 (m:=n) (s:=3) tabOk rfl rfl rfl rfl rfl Tryz.underlying3 rfl rfl hn0 (by show _ * 24<=_;omega) (by omega)) ?_
  rintro v σ' ⟨cap,hcap,rfl,rfl⟩
  refine zA ?_
  refine zS (AStep.sliceOwn (a:=0) (b:=0) (c:=cap) tabOk rfl rfl rfl rfl rfl rfl rfl ⟨.i64,rfl⟩ rfl (fun h=>by cases h) (by omega) (by omega) (by omega)) ?_
  rw[show (AC.arr (.l 0) 3 (if cap=0 then 0 else 0) (0 - 0) (cap - 0))=.arr (.l 0) 3 0 0 cap by simp]
  refine AOps.cede 0 (show 0 < 1 by omega) fun k hk=>⟨[(25,.one (.arr (.o k) 3 0 0 cap))],⟨1,[],updO ou k (.cells (vec 3 [] cap))⟩,⟨CedFr.get (.cons rfl rfl .nil),rfl,fun i x hx=>?_⟩,?_⟩
  ·have hk:ou k=none:=hk
   cases i with
   |l m=>cases hx
   |o m=>
    have hx':updO ou k (.cells (vec 3 [] cap)) m=some x:=hx
    by_cases e:k=m
    ·subst e;rw[Q06]at hx';cases hx'
     exact⟨.l 0,_,rfl,rfl,(AObj.sub_o _ (Qc4 _ (by simp))).symm⟩
    ·rw[Q0c _ e]at hx'
     exact⟨.o m,x,hx',rfl,(AObj.sub_o x (hou m x hx')).symm⟩
  refine zA ?_
  exact AFn.fin' rfl (.refl _) (by simp) (updO_ok hou (Qc4 _ (by simp))) (.inr ⟨k,cap,hk,rfl,rfl⟩)
 ·refine zA ?_
  exact AFn.fin' rfl (.refl _) (by simp) hou (.inl ⟨rfl,rfl⟩)
def cL (l:List Step3):List AC:=[.sl 3 (l.map cS)]
theorem ids_cL(p:Abs.Id->Prop)(ll:List (List Step3)):idsS p (ll.map cL):=Q2y (f:=cL) (fun l=>⟨Qi7 p l,trivial⟩) ll
@[simp] theorem ids_cL_l (k:Nat) (ll:List (List Step3)):idsS (inL k) (ll.map cL):=ids_cL _ ll
@[simp] theorem ids_cL_o (ll:List (List Step3)):idsS isO (ll.map cL):=ids_cL _ ll
def cat (ll:List (List Step3))(i:Nat):List Step3:=(ll.take i).flatten
theorem Qil{ll:List (List Step3)}{i:Nat}{l:List Step3}(h:ll[i]?=some l):cat ll (i+1)=cat ll i++l:=by unfold cat;rw[Q2c h];simp
theorem Qim(ll:List (List Step3)):cat ll ll.length=ll.flatten:=by unfold cat;rw[List.take_length]
theorem cat_le(ll:List (List Step3))(j:Nat):(cat ll j).length<=ll.flatten.length:=by
 have:=congrArg (fun z=>z.flatten.length) (List.take_append_drop j ll)
 simp only[List.flatten_append,List.length_append]at this
 unfold cat;omega
theorem Qnc(hΓ:∀g cs,(g,cs)∈Γ->idsL isO cs)(ll:List (List Step3))(hl:ll.length<=1048576)(hs:ll.flatten.length<=1048576):
  APure Tryz.prog Γ 24 [.one (.sl 1 (ll.map cL))] (.one (.sl 3 (ll.flatten.map cS))):=by
 intro ou
 have hpre:=cat_le ll
 refine AFn.walk 36 tabOk Tryz.func24 rfl (by kernel_rfl) rfl rfl fun hou=>?_
 refine zA ?_
 refine ACode.loopR hΓ (α:=Nat) (fun j=>[(11,.one (int j)),(10,.one (int (ll.map cL).length)),(9,.one (.sl 1 (ll.map cL))),(3,.one (int (cat ll j).length)),(0,.one (.sl 1 (ll.map cL)))])
  (fun j=>⟨0,[],ou⟩) (fun m j=>j<=ll.length/\m=ll.length - j) (a0:=0) (ρ:=id) ⟨by omega,rfl⟩ (LessR.of rfl zFS (by simp) zLO rfl rfl hou) fun m j hj=>?_
 obtain⟨hjl,rfl⟩:=hj
 refine zA ?_
 refine ACode.cond rfl (fun hb=>?_) (fun hb=>?_)
 ·have hlt:j < ll.length:=by simpa using hb
  clear hb
  obtain⟨l,hx⟩:=Q00 hlt
  have hsn:(cat ll (j+1))=(cat ll j)++l:=Qil hx
  have hle:=hpre (j+1)
  rw[hsn,List.length_append]at hle
  refine zA ?_
  refine zS (zIA rfl rfl rfl (by omega) (Q04 hx)) ?_
  refine zM ?_
  exact cInv ⟨ll.length - (j+1),j+1,id,by omega,⟨by omega,rfl⟩,LessR.of rfl (FrSub.cons rfl (.ofEq rfl) (FrSub.cons rfl (.ofEq rfl) (FrSub.consP rfl (.ofEq rfl) (by simp) (FrSub.cons rfl (.ofEq (by simp[hsn,FV.ren,AC.ren])) (FrSub.consP rfl (.ofEq rfl) (by simp) .nil))))) (by simp) zLO rfl rfl hou⟩
 ·have hlt:j=ll.length:=by simp at hb;omega
  subst hlt
  rw[Qim]
  refine zA ?_
  refine AOps.cutN 0 rfl hΓ (α:=Option Nat) (fun oc=>[(6,.one (oaC 0 3 [] oc)),(0,.one (.sl 1 (ll.map cL)))]) (fun oc=>⟨1,[(0,oaO 3 [] oc)],ou⟩) (fun oc=>coO ([]:List (List AC)) oc) ?_ fun oc hoc=>?_
  ·dsimp only [List.take_zero,List.nil_append]
   refine AOps.call1 hΓ rfl rfl rfl rfl rfl rfl rfl (by exact⟨trivial,trivial,trivial⟩) hou (Qpd ll.flatten.length hs ou) fun r ou' hq _ hov=>?_
   rcases hq with ⟨rfl,rfl⟩|⟨k,cap,hk,rfl,rfl⟩
   ·refine AOps.ghost ?_
    refine zA ?_
    exact cInv ⟨none,id,rfl,LessR.of rfl zFS (by simp) zLO rfl rfl hou⟩
   ·refine AOps.adopt hk (Qc4 _ (by simp)) ?_
    refine AOps.wk 24 rfl (y:=.one (oaC 0 3 [] (some cap))) (.ofEq (by simp[FV.sub,AC.sub,toL,oaC])) ?_
    refine zA ?_
    exact cInv ⟨some cap,id,by simp[coO],LessR.of rfl zFS (by simp) (LoSub.cons rfl (show AObj.cells (vec 3 [] cap)=AObj.ren id (oaO 3 [] (some cap))from (Ql3 id 3 [] (some cap) fun _=>Qcz (by simp)).symm) rfl (Qg2 (by simp)) .nil) rfl rfl hou⟩
  refine zA ?_
  refine ACode.loopR hΓ (α:=Nat×Option Nat) (fun c=>[(27,.one (int c.1)),(26,.one (int (ll.map cL).length)),(25,.one (.sl 1 (ll.map cL))),(6,.one (oaC 0 3 ((cat ll c.1).map cS) c.2))])
   (fun c=>⟨1,[(0,oaO 3 ((cat ll c.1).map cS) c.2)],ou⟩) (fun m c=>c.1<=ll.length/\coO ((cat ll c.1).map cS) c.2/\m=ll.length - c.1) (a0:=(0,oc)) (ρ:=id) ⟨by omega,hoc,rfl⟩ (LessR.of rfl ?_ (by simp) zLO rfl rfl hou) fun m c hc=>?_
  ·(repeat' first|exact FrSub.nil|refine zfc ?_|refine zfo ?_|refine zfp ?_)
  obtain⟨i,oc⟩:=c
  obtain⟨hil,hco,rfl⟩:=hc
  dsimp only at hil hco
  refine zA ?_
  refine ACode.cond rfl (fun hb2=>?_) (fun hb2=>?_)
  ·have hlt:i < ll.length:=by simpa using hb2
   clear hb2
   obtain⟨l,hx⟩:=Q00 hlt
   have hsn:(cat ll (i+1))=(cat ll i)++l:=Qil hx
   have hle:=hpre (i+1)
   rw[hsn,List.length_append]at hle
   refine zA ?_
   refine zS (zIA rfl rfl rfl (by omega) (Q04 hx)) ?_
   refine zA ?_
   by_cases hxe:l=[]
   ·subst hxe
    rw[List.append_nil]at hsn
    refine AOps.appG0 (k:=0) (s:=3) (es:=(cat ll i).map cS) (oc:=oc) tabOk rfl rfl rfl rfl rfl rfl rfl rfl rfl ?_
    refine zM ?_
    exact cInv ⟨ll.length - (i+1),(i+1,oc),id,by omega,⟨by omega,by dsimp only;rw[hsn];exact hco,rfl⟩,LessR.of rfl (by dsimp only;rw[hsn];(repeat' first|exact FrSub.nil|refine zfc ?_|refine zfo ?_|refine zfp ?_)) (by simp) (by dsimp only;rw[hsn];repeat' first|exact LoSub.nil|refine zlc ?_|refine zld ?_ ?_|rfl) rfl rfl hou⟩
   ·refine AOps.appG (k:=0) (s:=3) (es:=(cat ll i).map cS) (oc:=oc) (news:=l.map cS) tabOk rfl rfl rfl rfl rfl rfl rfl rfl rfl rfl hco (fun y hy=>by obtain⟨z,_,rfl⟩:=List.mem_map.1 hy;rfl) (.sl 3 _) (by simpa using hxe) rfl (by simp only[List.length_map];show (_+_) * 24<=_;omega) (by simp only[List.length_map];omega) fun cap hc=>?_
    rw[←List.map_append,←hsn]at hc ⊢
    refine zM ?_
    exact cInv ⟨ll.length - (i+1),(i+1,some cap),fun _=>1,by omega,⟨by omega,hc,rfl⟩,LessR.of rfl zFS (by simp) zLO rfl rfl hou⟩
  ·have hlt:i=ll.length:=by simp at hb2;omega
   subst hlt
   have hfu:=Qim ll
   repeat ((fail_if_success ((with_reducible refine oj ?_);refine AOps.atDst 35 rfl ?_));first|refine zO ?_)
   refine AOps.freezeG 0 6 rfl hco (fun y hy=>by obtain⟨z,_,rfl⟩:=List.mem_map.1 hy;rfl) rfl ?_
   refine zA ?_
   exact APure.fin rfl (WkF.ofEq (by rw[hfu])) (by rw[←hfu];simp) hou rfl
end Go.Proofs.YtpaonemmbhbgoaaGreatDoor
namespace Go.CoreX
end Go.CoreX
namespace Go.Proofs.YtpaonemmbhbgoaaGreatDoor
open Go Go.Abs Go.CoreX
variable {Γ:List (Nat×List AC)}
end Go.Proofs.YtpaonemmbhbgoaaGreatDoor
namespace Go.CoreX
theorem Q9r:∀(l:List Tr)(m:Int),Qbi m l=(l.map mostT).foldl max m
 |[],_=>rfl
 |t::l,m=>by simp only[Qbi,List.map_cons,List.foldl_cons];exact Q9r l _
theorem max_if(a b:Int):max a b=if b > a then b else a:=by rw[Int.max_def];split <;> split <;> omega
theorem Q5e:∀(l:List Int)(m:Int),m<=l.foldl max m
 |[],_=>Int.le_refl _
 |x::l,m=>by simp only[List.foldl_cons];have:=Q5e l (max m x);omega
end Go.CoreX
namespace Go.Proofs.YtpaonemmbhbgoaaGreatDoor
open Go Go.Abs Go.CoreX
variable {Γ:List (Nat×List AC)}
theorem Qev{l:List Int}{i:Nat}{n m:Int}(h:l[i]?=some n):(l.take (i+1)).foldl max m=if n > (l.take i).foldl max m then n else (l.take i).foldl max m:=by
 rw[Q0n h,List.foldl_append];exact max_if _ _
def Qiv (Γ:List (Nat×List AC))(t:Tr):Prop:=APure Tryz.prog Γ 64 [.one (.box (cTr t))] (.one (int (mostT t)))
theorem Qgq(hΓ:∀g cs,(g,cs)∈Γ->idsL isO cs):∀t:Tr,okT t->Qiv Γ t
 |.mk o n b ks a,hok=>by
  have ih:∀t∈ks,Qiv Γ t:=fun t ht=>Qgq hΓ t (Q2k hok (by simpa using ht))
  have hk:ks.length<=1048576:=hok.2.1
  have hbl:Q5k (.mk o n b ks a)<=4194304:=by
   have h1:=hok.1
   have h2:=hok.2.2.2.1.2
   unfold Q5k
   simp only[Tr.binds,Tr.alts]
   omega
  have hB:=Q5v hΓ (.mk o n b ks a) hbl hok.2.2.1
  have hbn:(Q07 o b a).length<=4194304:=by
   unfold Q5k at hbl
   simp only[Tr.binds,Tr.alts]at hbl
   unfold Q07
   rw[List.length_append]
   split
   ·exact hbl
   ·simp only[List.length_nil];omega
  have hm:mostT (.mk o n b ks a)=(ks.map mostT).foldl max ((Q07 o b a).foldl max (-1)):=by simp only[mostT,Q9r]
  intro ou
  rw[hm]
  clear hm
  obtain⟨bn,hbe⟩:∃bn,bn=Q07 o b a:=⟨_,rfl⟩
  rw[show Q07 (Tr.mk o n b ks a).op (Tr.mk o n b ks a).binds (Tr.mk o n b ks a).alts=bn from hbe.symm]at hB
  rw[←hbe]at hbn ⊢
  clear hbe hbl
  refine AFn.walk 34 tabOk Tryz.func64 rfl (by kernel_rfl) rfl rfl fun hou=>?_
  refine zA ?_
  refine zca hΓ hB hou ?_
  refine zA ?_
  refine ACode.loopR hΓ (α:=Nat) (fun i=>[(11,.one (int i)),(10,.one (int (bn.map cI).length)),(9,.one (.sl 1 (bn.map cI))),(3,.one (int ((bn.take i).foldl max (-1)))),(0,.one (.box (cTr (.mk o n b ks a))))])
   (fun i=>⟨0,[],ou⟩) (fun m i=>i<=bn.length/\m=bn.length - i) (a0:=0) (ρ:=id) ⟨by omega,rfl⟩ (LessR.of rfl zFS (by simp) zLO rfl rfl hou) fun m i hi=>?_
  obtain⟨hil,rfl⟩:=hi
  refine zA ?_
  refine ACode.cond rfl (fun hb3=>?_) (fun hb3=>?_)
  ·have hlt2:i < bn.length:=by simpa using hb3
   obtain⟨q,hn⟩:=Q00 hlt2
   have hsm:=Qev (m:=-1) hn
   refine zA ?_
   refine zS (zIA rfl rfl rfl (by omega) (Q04 hn)) ?_
   refine zM ?_
   refine cInv ⟨bn.length - (i+1),i+1,id,by omega,⟨by omega,rfl⟩,?_⟩
   simp only[hsm]
   exact LessR.of rfl zFS (by simp) zLO rfl rfl hou
  have hlt:i=bn.length:=by simp at hb3;omega
  subst hlt
  rw[List.take_length]
  generalize bn.foldl max (-1)=m0
  refine zA ?_
  refine ACode.loopR hΓ (α:=Nat) (fun i=>[(24,.one (int i)),(23,.one (int (Q10 ks).length)),(22,.one (.sl 1 (Q10 ks))),(3,.one (int (((ks.map mostT).take i).foldl max m0)))])
   (fun i=>⟨0,[],ou⟩) (fun m i=>i<=ks.length/\m=ks.length - i) (a0:=0) (ρ:=id) ⟨by omega,rfl⟩ (LessR.of rfl zFS (by simp) zLO rfl rfl hou) fun m i hi=>?_
  obtain⟨hil,rfl⟩:=hi
  refine zA ?_
  refine ACode.cond rfl (fun hb3=>?_) (fun hb3=>?_)
  ·have hlt2:i < ks.length:=by simpa using hb3
   obtain⟨t,ht⟩:=Q00 hlt2
   have hsm:=Qev (l:=ks.map mostT) (n:=mostT t) (m:=m0) (i:=i) (by simp[ht])
   refine zA ?_
   refine zS (zIA rfl rfl rfl (by omega) (Q1v ht)) ?_
   refine zA ?_
   refine zca hΓ (ih t (List.mem_of_getElem? ht)) hou ?_
   refine zM ?_
   refine cInv ⟨ks.length - (i+1),i+1,id,by omega,⟨by omega,rfl⟩,?_⟩
   simp only[hsm]
   exact LessR.of rfl zFS (by simp) zLO rfl rfl hou
  have hlt:i=ks.length:=by simp[Q4a]at hb3;omega
  subst hlt
  rw[show (ks.map mostT).take ks.length=ks.map mostT from List.take_of_length_le (by simp)]
  refine zA ?_
  exact APure.fin rfl (WkF.ofEq rfl) (by simp) hou rfl
theorem Qbb:∀{a:List LAlt},(∀x∈a,x.nb=none)->a.map lAlt=(a.map LAlt.er).map cAlt
 |[],_=>rfl
 |x::a,h=>by
  have h1:=h x (by simp)
  have h2:=Qbb fun y hy=>h y (List.mem_cons_of_mem x hy)
  simp only[List.map_cons,h2]
  congr 1
  simp only[lAlt,h1]
  rfl
def Qn8 (Γ:List (Nat×List AC))(t:LTr):Prop:=∀(ou:Outer)(kw ko kt:Nat)(out:List Ex),OuOk ou->Owns ou (objs t)->ou kw=some (.cells [fnW kw ko])->ou ko=none->ou kt=none->ko≠kt->(listT out (erT t)).length<=1048576->
 AFn Tryz.prog Γ 82 [.one (.ptr (.o t.id) 0),.one (.ptr (.o kw) 0),.one (.ptr (.o ko) 0)] (ouS ou ko kt (out.map cEx)) (fun r ou'=>r=.one (int (((listT out (erT t)).length:Int) - 1))/\∃kt',ou kt'=none/\ko≠kt'/\ou'=ouS ou ko kt' ((listT out (erT t)).map cEx))
set_option maxHeartbeats 1000000 in
theorem Qhv(hΓ:∀g cs,(g,cs)∈Γ->idsL isO cs):∀t:LTr,okT (erT t)->Q24 t->Qn8 Γ t
 |.mk i o n nb b lks a,hok,hpl=>by
  have ih:∀t∈lks,Qn8 Γ t:=fun t ht=>Qhv hΓ t (Q2k hok (Q1y (t:=.mk i o n nb b lks a) (by simpa[LTr.kids]using ht))) (Q0z hpl (by simpa[LTr.kids]using ht))
  obtain⟨hb,hk,ha,⟨hab,_⟩,hks⟩:=hok
  obtain⟨rfl,hpa,_⟩:=hpl
  intro ou kw ko kt out hou0 hOw hw ho ht hne hsz
  have hown:∀t∈lks,Owns ou (objs t):=fun t ht=>Q14 hOw (by simpa[LTr.kids]using ht)
  have hi0:ou i=some (.cells (lC (.mk i o n none b lks a))):=Q09 hOw
  simp only[lC,bC,Qbb hpa]at hi0
  have hi:∀kt es,ou kt=none->ouS ou ko kt es i=some (.cells [int o,int n,.sl 1 (b.map cI),.sl 1 (kC lks),.sl 2 ((a.map LAlt.er).map cAlt)]):=fun kt es hkt=>(ouS_w (fun e=>by rw[e,ho]at hi0;cases hi0) (fun e=>by rw[e,hkt]at hi0;cases hi0) es).trans hi0
  have hkl:(kC lks).length=lks.length:=Q0q lks
  obtain⟨ks,hkse⟩:∃ks,ks=erTs lks:=⟨_,rfl⟩
  have hkn:ks.length=lks.length:=by rw[hkse,Q0g,List.length_map]
  have hkg:∀{j:Nat}{s:LTr},lks[j]?=some s->ks[j]?=some (erT s):=fun h=>by rw[hkse,Q0g];simp[h]
  simp only[erT]at hsz ⊢
  rw[←hkse]at hsz hk ⊢
  generalize hae:a.map LAlt.er=al at *
  clear hkse hae
  have hwo:kw≠ko:=fun e=>by rw[e,ho]at hw;cases hw
  have hsz2:(Q02 out ks).1.length < 1048576:=by simp only[listT,List.length_append,List.length_singleton]at hsz;omega
  refine AFn.walk 70 tabOk Tryz.func82 rfl (by kernel_rfl) rfl rfl fun hou=>?_
  have hcl:=Q5u (Γ:=Γ) b hb
  refine zA ?_
  refine ACode.drawXA tabOk 15 14 [(3,.one (int o)),(7,.one (int n)),(11,.one (.sl 1 (b.map cI))),(12,.one (.sl 1 (b.map cI)))] follows (by kernel_rfl) rfl rfl rfl rfl rfl rfl rfl rfl rfl ?_ ?_ ?_
  ·refine .step rfl (zHP (zLD rfl rfl (hi _ _ ht) rfl)) ?_
   refine .step rfl (zHP (zLD rfl rfl (hi _ _ ht) rfl)) ?_
   refine .step rfl (zHP (zLD rfl rfl (hi _ _ ht) rfl)) ?_
   exact .call hΓ hcl hou (by simp) rfl rfl rfl rfl rfl rfl .nil
  ·refine .step rfl (zHP (zLD rfl rfl (hi _ _ ht) rfl)) ?_
   refine .step rfl (zHP (zLD rfl rfl (hi _ _ ht) rfl)) ?_
   refine .step rfl (zHP (zLD rfl rfl (hi _ _ ht) rfl)) ?_
   exact .call hΓ hcl hou (by simp) rfl rfl rfl rfl rfl rfl .nil
  repeat' first|refine zN ?_|((with_reducible refine oj ?_);first|refine zix ?_|refine zow rfl rfl (hi _ _ ht) ?_)
  refine ACode.grow 0 3 3 1 rfl rfl ?_
  refine ACode.loopR hΓ (α:=Nat×Nat) (fun c=>[(29,.one (int c.1)),(28,.one (int (kC lks).length)),(27,.one (.sl 1 (kC lks))),(5,.one (.ptr (.l 0) 0)),(2,.one (.ptr (.o ko) 0)),(1,.one (.ptr (.o kw) 0)),(0,.one (.ptr (.o i) 0))])
   (fun c=>⟨2,[(1,.tok 3 1 c.1),(0,.cells [int o,int n,.sl 1 (b.map cI),.gs 1 ((Q02 out (ks.take c.1)).2.map cI) (.l 1),.lit (.slice none 0 0)])],ouS ou ko c.2 ((Q02 out (ks.take c.1)).1.map cEx)⟩)
   (fun m c=>c.1<=ks.length/\(ou c.2=none/\ko≠c.2)/\m=ks.length - c.1) (a0:=(0,kt)) (ρ:=id) ⟨by omega,⟨ht,hne⟩,rfl⟩ (LessR.of rfl zFS (by simp) ?_ rfl (by simp[Q02];rfl) hou) fun m c hi=>?_
  ·repeat' first|exact LoSub.nil|refine zlc ?_|refine zld ?_ ?_|rfl
   all_goals (simp[AObj.ren,renL,AC.ren,Q02];rfl)
  obtain⟨q,kt⟩:=c
  obtain⟨hil,⟨ht,hne⟩,rfl⟩:=hi
  simp only at hil ht hne
  have hwt:kw≠kt:=fun e=>by rw[e,ht]at hw;cases hw
  have hle:(Q02 out (ks.take q)).1.length<=(Q02 out ks).1.length:=by
   have:=Q2u (ks.take q) (ks.drop q) out
   rw[List.take_append_drop]at this
   rw[this];exact Q31 _ _
  refine zA ?_
  refine ACode.cond rfl (fun hb3=>?_) (fun hb3=>?_)
  ·have hlt2:q < ks.length:=by simp[Q0q]at hb3;omega
   obtain⟨lt,hlt3⟩:=Q00 (l:=lks) (i:=q) (by omega)
   obtain⟨t,hte⟩:∃t,t=erT lt:=⟨_,rfl⟩
   have ht2:ks[q]?=some t:=by rw[hte];exact hkg hlt3
   have hsn:=Q4i t (ks.take q) out
   rw[←Q0n ht2]at hsn
   have hle2:(listT (Q02 out (ks.take q)).1 t).length<=1048576:=by
    have:=Q2u (ks.take (q+1)) (ks.drop (q+1)) out
    rw[List.take_append_drop]at this
    have h2:=Q31 (ks.drop (q+1)) (Q02 out (ks.take (q+1))).1
    rw[←this,hsn]at h2
    simp only at h2
    omega
   have hcall:=ih lt (List.mem_of_getElem? hlt3) ou kw ko kt (Q02 out (ks.take q)).1 hou0 (hown lt (List.mem_of_getElem? hlt3)) hw ho ht hne (by rw[←hte];exact hle2)
   rw[←hte]at hcall
   have hil2:((Q02 out (ks.take q)).2.map cI).length=q:=by rw[List.length_map,Q3a];simp;omega
   refine zA ?_
   refine zS (zIA rfl rfl rfl (by omega) (Q2n hlt3)) ?_
   refine zA ?_
   refine ACode.drawXR (va:=.one (int (((listT (Q02 out (ks.take q)).1 t).length:Int) - 1))) tabOk 6 4 [(2,.one (fnW kw ko))]
    (fun σ=>∃kt',ou kt'=none/\ko≠kt'/\σ=⟨2,[(1,.tok 3 1 q),(0,.cells [int o,int n,.sl 1 (b.map cI),.gs 1 ((Q02 out (ks.take q)).2.map cI) (.l 1),.lit (.slice none 0 0)])],ouS ou ko kt' ((listT (Q02 out (ks.take q)).1 t).map cEx)⟩)
    follows (by kernel_rfl) rfl rfl rfl rfl rfl ?_ rfl ⟨rfl,rfl⟩ rfl ?_ ?_ ?_ ?_
   ·rintro σ ⟨kt',h1,h2,rfl⟩;rfl
   ·refine Q0w.call hΓ rfl rfl rfl rfl (by simp) (Q37 hou0 (by simp)) hcall fun r ou' hq _ _=>?_
    obtain⟨rfl,kt',h1,h2,rfl⟩:=hq
    exact⟨rfl,kt',h1,h2,rfl⟩
   ·exact .step rfl (zHP (zLD rfl rfl (ouS_w hwo hwt _ |>.trans hw) rfl)) .nil
   ·rintro σ ⟨kt',h1,h2,rfl⟩
    have hwt':kw≠kt':=fun e=>by rw[e,h1]at hw;cases hw
    exact .step rfl (zHP (zLD rfl rfl (ouS_w hwo hwt' _ |>.trans hw) rfl)) .nil
   rintro σ ⟨kt',h1,h2,rfl⟩
   refine zA ?_
   refine AOps.app tabOk rfl rfl rfl rfl rfl rfl rfl rfl rfl (Base.gs' _ _ _ _ _ (by rfl) hil2.symm) (.sl _ _) rfl ?_ ?_ ?_
   ·rw[hil2];show (q+1) * 8<=_;omega
   ·rw[hil2];show q+1<=_;omega
   refine zM ?_
   refine cInv ⟨ks.length - (q+1),(q+1,kt'),fun k=>if k=1 then 2 else k,by omega,⟨by omega,⟨h1,h2⟩,rfl⟩,LessR.of rfl zFS (by simp) ?_ rfl (by simp only[hsn];rfl) (Q37 hou0 (by simp))⟩
   repeat' first|exact LoSub.nil|refine zlc ?_|refine zld ?_ ?_|rfl
   ·simp only[AObj.ren,List.length_append,hil2];rfl
   ·simp only[hsn];simp only[AObj.ren,renL,AC.ren,Q63];rw[List.map_append];rfl
  have hlt2:q=ks.length:=by simp[Q0q]at hb3;omega
  subst hlt2
  rw[List.take_length]at *
  repeat' first|refine zN ?_|((with_reducible refine oj ?_);first|refine zix ?_|refine zow rfl rfl (hi _ _ ht) ?_)
  refine ACode.grow 0 4 46 2 rfl rfl ?_
  refine ACode.loopR hΓ (α:=Nat) (fun q=>[(47,.one (int q)),(46,.one (int (al.map cAlt).length)),(45,.one (.sl 2 (al.map cAlt))),(5,.one (.ptr (.l 0) 0)),(2,.one (.ptr (.o ko) 0)),(1,.one (.ptr (.o kw) 0)),(0,.one (.ptr (.o i) 0))])
   (fun q=>⟨3,[(2,.tok 46 2 q),(0,.cells [int o,int n,.sl 1 (b.map cI),.gs 1 ((Q02 out ks).2.map cI) (.l 1),.gs 2 ((al.take q).map cAlt) (.l 2)])],ouS ou ko kt ((Q02 out ks).1.map cEx)⟩)
   (fun m q=>q<=al.length/\m=al.length - q) (a0:=0) (ρ:=id) ⟨by omega,rfl⟩ (LessR.of rfl zFS (by simp) ?_ rfl rfl (Q37 hou0 (by simp))) fun m q hq=>?_
  ·repeat' first|exact LoSub.nil|refine zlc ?_|refine zld ?_ ?_|rfl
   all_goals (simp[AObj.ren,renL,AC.ren];exact⟨rfl,rfl⟩)
  obtain⟨hil,rfl⟩:=hq
  have hou2:OuOk (ouS ou ko kt ((Q02 out ks).1.map cEx)):=Q37 hou0 (by simp)
  refine zA ?_
  refine ACode.cond rfl (fun hb3=>?_) (fun hb3=>?_)
  ·have hlt2:q < al.length:=by simpa using hb3
   obtain⟨c,hc⟩:=Q00 hlt2
   have hal:((al.take q).map cAlt).length=q:=by simp;omega
   have hca:=Q5u (Γ:=Γ) c.binds (hab c (List.mem_of_getElem? hc))
   refine zA ?_
   refine zS (zIA rfl rfl rfl (by omega) (Q04 hc)) ?_
   refine zA ?_
   refine ACode.drawX tabOk 9 [(6,.one (.sl 1 (c.binds.map cI)))] follows (by kernel_rfl) rfl rfl rfl rfl (.call hΓ hca hou2 (by simp) rfl rfl rfl rfl rfl rfl .nil) ?_
   refine zA ?_
   refine AOps.app tabOk rfl rfl rfl rfl rfl rfl rfl rfl rfl (Base.gs' _ _ _ _ _ (by rfl) hal.symm) (.sl _ _) rfl ?_ ?_ ?_
   ·rw[hal];show (q+1) * 32<=_;omega
   ·rw[hal];show q+1<=_;omega
   refine zM ?_
   refine cInv ⟨al.length - (q+1),q+1,fun k=>if k=2 then 4 else k,by omega,⟨by omega,rfl⟩,LessR.of rfl zFS (by simp) ?_ rfl rfl hou2⟩
   repeat' first|exact LoSub.nil|refine zlc ?_|refine zld ?_ ?_|rfl
   ·simp only[AObj.ren,List.length_append,hal];rfl
   ·rw[Q0n hc];simp only[AObj.ren,renL,AC.ren,Q63,Q6p];rw[List.map_append];rfl
  have hlt2:q=al.length:=by simp at hb3;omega
  subst hlt2
  rw[List.take_length]
  refine zA ?_
  refine zS (zLD rfl rfl (ouS_o hne _) rfl) ?_
  (first|((with_reducible refine oj ?_);refine zau ?_)|(with_reducible refine zst ?_)|((with_reducible refine Q0j ?_ ?_);rfl)|(with_reducible refine ok ?_;first|refine ACode.condT rfl ?_|refine ACode.condF rfl ?_))
  refine AOps.wk 64 rfl (y:=.agg (cEx ⟨o,n,b,(Q02 out ks).2,al⟩)) (WkF.agg ?_) ?_
  ·exact .cons (.refl _) (.cons (.refl _) (.cons (.refl _) (.cons (.gsE rfl) (.cons (.gsE rfl) .nil))))
  refine zA ?_
  have hT:listT out (.mk o n b ks al)=(Q02 out ks).1++[⟨o,n,b,(Q02 out ks).2,al⟩]:=by simp only[listT]
  have hmap:(Q02 out ks).1.map cEx++[cEx ⟨o,n,b,(Q02 out ks).2,al⟩]=(listT out (.mk o n b ks al)).map cEx:=by rw[hT,List.map_append];rfl
  refine AOps.app (es:=(Q02 out ks).1.map cEx) tabOk rfl rfl rfl rfl rfl rfl rfl rfl rfl (Base.gs' _ 57 5 _ (.o kt) (ouS_t ou ko kt _) rfl) (.sl 5 [cEx ⟨o,n,b,(Q02 out ks).2,al⟩]) rfl ?_ ?_ ?_
  ·simp;show (_+1) * 88<=_;omega
  ·simp;omega
  rw[hmap]
  refine AOps.storeOwn (cs:=[.gs 5 ((Q02 out ks).1.map cEx) (.o kt)]) tabOk rfl rfl rfl rfl rfl rfl rfl (show (bif Nat.beq ko kt then some AObj.dead else ouS ou ko kt ((Q02 out ks).1.map cEx) ko)=_ by rw[Q05 hne];exact ouS_o hne _) (by simp) ?_
  refine AOps.cede 3 (show 3 < 4 by omega) fun k hk=>⟨[(2,.one (.ptr (.o ko) 0))],⟨4,[],ouS ou ko k ((listT out (.mk o n b ks al)).map cEx)⟩,⟨fun d x hd=>?_,rfl,fun i x hx=>?_⟩,?_⟩
  ·by_cases e:2=d
   ·subst e
    simp[Fr.get]at hd;subst hd
    exact⟨_,rfl,WkF.ofEq rfl⟩
   ·simp[Fr.get,Q05 e]at hd
  ·have hk':(bif Nat.beq k ko then some (AObj.cells [.gs 5 ((listT out (.mk o n b ks al)).map cEx) (.l 3)])else bif Nat.beq k kt then some AObj.dead else ouS ou ko kt ((Q02 out ks).1.map cEx) k)=none:=hk
   have k1:k≠ko:=fun e=>by subst e;simp at hk'
   rw[Q05 k1]at hk'
   have k2:k≠kt:=fun e=>by subst e;simp at hk'
   rw[Q05 k2]at hk'
   simp only[cond_false,ouS_w k1 k2]at hk'
   cases i with
   |l m=>cases hx
   |o m=>
    have hx':ouS ou ko k ((listT out (.mk o n b ks al)).map cEx) m=some x:=hx
    by_cases e:m=k
    ·subst e
     rw[ouS_t]at hx';cases hx'
     exact⟨.l 3,_,rfl,rfl,rfl⟩
    ·by_cases e2:m=ko
     ·subst e2
      rw[ouS_o e]at hx';cases hx'
      refine⟨.o m,.cells [.gs 5 ((listT out (.mk o n b ks al)).map cEx) (.l 3)],?_,rfl,?_⟩
      ·show (bif Nat.beq m m then _ else _)=_;rw[Q2z];rfl
      ·simp only[AObj.sub,subL,AC.sub];rw[Qb3 _ (by simp)];rfl
     ·rw[ouS_w e2 e]at hx'
      have e3:m≠kt:=fun e=>by rw[e,ht]at hx';cases hx'
      refine⟨.o m,x,?_,rfl,(AObj.sub_o x (hou0 m x hx')).symm⟩
      show (bif Nat.beq m ko then _ else bif Nat.beq m kt then _ else ouS ou ko kt _ m)=_
      rw[Q05 e2,Q05 e3]
      exact (ouS_w e2 e3 _).trans hx'
  ·have hk':(bif Nat.beq k ko then some (AObj.cells [.gs 5 ((listT out (.mk o n b ks al)).map cEx) (.l 3)])else bif Nat.beq k kt then some AObj.dead else ouS ou ko kt ((Q02 out ks).1.map cEx) k)=none:=hk
   have k1:k≠ko:=fun e=>by subst e;simp at hk'
   rw[Q05 k1]at hk'
   have k2:k≠kt:=fun e=>by subst e;simp at hk'
   rw[Q05 k2]at hk'
   simp only[cond_false,ouS_w k1 k2]at hk'
   refine zA ?_
   refine zS (zLD rfl rfl (ouS_o (Ne.symm k1) _) rfl) ?_
   refine zM ?_
   refine AFn.fin' rfl (WkF.ofEq ?_) (by simp) (Q37 hou0 (by simp)) ⟨rfl,k,hk',Ne.symm k1,rfl⟩
   simp
def IsR (X:FV)(ou:Outer)(r:FV)(ou':Outer):Prop:=r=X/\ou'=ou
theorem Qpb(hΓ:∀g cs,(g,cs)∈Γ->idsL isO cs)(t:LTr)(ht:okT (erT t))(hpl:Q24 t)(hsz:(listT [] (erT t)).length<=1048576)(ou:Outer)(hOw:Owns ou (objs t)):AFn Tryz.prog Γ 53 [.one (.ptr (.o t.id) 0)] ou (IsR (.one (.sl 5 ((listT [] (erT t)).map cEx))) ou):=by
 refine AFn.walk 10 tabOk Tryz.func53 rfl (by kernel_rfl) rfl rfl fun hou=>?_
 iterate 22 (first|((with_reducible refine oj ?_);refine zau ?_)|(with_reducible refine zst ?_)|((with_reducible refine Q0j ?_ ?_);rfl)|(with_reducible refine ok ?_;first|refine ACode.condT rfl ?_|refine ACode.condF rfl ?_))
 refine ACode.grow 0 0 57 5 rfl rfl ?_
 refine zA ?_
 refine AOps.cede 0 (show 0 < 3 by omega) fun ko hko=>⟨[(7,.one (.ptr (.o t.id) 0)),(6,.one (.fn (.func 82) [] [.ptr (.l 1) 0,.ptr (.o ko) 0])),(3,.one (.ptr (.o ko) 0))],
  ⟨3, [(2, .tok 57 5 0), (1, .cells [.fn (.func 82) [] [.ptr (.l 1) 0, .ptr (.o ko) 0]])], updO ou ko (.cells [.gs 5 [] (.l 2)])⟩, ⟨CedFr.get ?_, rfl, fun i x hx => ?_⟩, ?_⟩
 ·exact .cons rfl (rfl) (.cons rfl rfl (.cons rfl rfl .nil))
 ·have hko:ou ko=none:=hko
  cases i with
  |l m=>
   by_cases e:2=m
   ·subst e;cases hx;exact⟨.l 2,_,rfl,rfl,rfl⟩
   ·have hx':lookL m [(1,AObj.cells [.fn (.func 82) [] [.ptr (.l 1) 0,.ptr (.o ko) 0]])]=some x:=by simpa[St.get,lookL,Q05 e]using hx
    by_cases e1:1=m
    ·subst e1;cases hx';exact⟨.l 1,_,rfl,rfl,rfl⟩
    ·simp[lookL,Q05 e1]at hx'
  |o m=>
   have hx':updO ou ko (.cells [.gs 5 [] (.l 2)]) m=some x:=hx
   by_cases e:ko=m
   ·subst e;rw[Q06]at hx';cases hx';exact⟨.l 0,_,rfl,rfl,rfl⟩
   ·rw[Q0c _ e]at hx'
    exact⟨.o m,x,hx',rfl,(AObj.sub_o x (hou m x hx')).symm⟩
 have hko:ou ko=none:=hko
 refine AOps.cede 1 (show 1 < 3 by omega) fun kw hkw=>⟨[(7,.one (.ptr (.o t.id) 0)),(6,.one (fnW kw ko)),(3,.one (.ptr (.o ko) 0))],
  ⟨3, [(2, .tok 57 5 0)], updO (updO ou ko (.cells [.gs 5 [] (.l 2)])) kw (.cells [fnW kw ko])⟩, ⟨CedFr.get ?_, rfl, fun i x hx => ?_⟩, ?_⟩
 ·exact .cons rfl (rfl) (.cons rfl rfl (.cons rfl rfl .nil))
 ·have hkw:updO ou ko (.cells [.gs 5 [] (.l 2)]) kw=none:=hkw
  cases i with
  |l m=>
   by_cases e:2=m
   ·subst e;cases hx;exact⟨.l 2,_,rfl,rfl,rfl⟩
   ·simp[St.get,lookL,Q05 e]at hx
  |o m=>
   have hx':updO (updO ou ko (.cells [.gs 5 [] (.l 2)])) kw (.cells [fnW kw ko]) m=some x:=hx
   by_cases e:kw=m
   ·subst e;rw[Q06]at hx';cases hx';exact⟨.l 1,_,rfl,rfl,rfl⟩
   ·rw[Q0c _ e]at hx'
    by_cases e2:ko=m
    ·subst e2;rw[Q06]at hx';cases hx'
     exact⟨.o ko,_,Q06 _ _ _,rfl,rfl⟩
    ·have hx2:=hx'
     rw[Q0c _ e2]at hx2
     exact⟨.o m,x,hx',rfl,(AObj.sub_o x (hou m x hx2)).symm⟩
 have hkw:updO ou ko (.cells [.gs 5 [] (.l 2)]) kw=none:=hkw
 have hwo:ko≠kw:=fun e=>by subst e;rw[Q06]at hkw;cases hkw
 rw[Q0c _ hwo]at hkw
 refine AOps.cede 2 (show 2 < 3 by omega) fun kt hkt=>⟨[(7,.one (.ptr (.o t.id) 0)),(6,.one (fnW kw ko)),(3,.one (.ptr (.o ko) 0))],
  ⟨3, [], ouS (updO ou kw (.cells [fnW kw ko])) ko kt (([] : List Ex).map cEx)⟩, ⟨CedFr.get ?_, rfl, fun i x hx => ?_⟩, ?_⟩
 ·exact .cons rfl (rfl) (.cons rfl rfl (.cons rfl rfl .nil))
 ·have hkt:updO (updO ou ko (.cells [.gs 5 [] (.l 2)])) kw (.cells [fnW kw ko]) kt=none:=hkt
  have hkto:ko≠kt:=fun e=>by subst e;rw[Q0c _ (Ne.symm hwo),Q06]at hkt;cases hkt
  cases i with
  |l m=>cases hx
  |o m=>
   have hx':ouS (updO ou kw (.cells [fnW kw ko])) ko kt (([]:List Ex).map cEx) m=some x:=hx
   by_cases e:m=kt
   ·subst e;rw[ouS_t]at hx';cases hx';exact⟨.l 2,_,rfl,rfl,rfl⟩
   ·by_cases e2:m=ko
    ·subst e2;rw[ouS_o hkto]at hx';cases hx'
     refine⟨.o m,.cells [.gs 5 [] (.l 2)],?_,rfl,rfl⟩
     show updO (updO ou m (.cells [.gs 5 [] (.l 2)])) kw (.cells [fnW kw m]) m=_
     rw[Q0c _ (Ne.symm hwo),Q06]
    ·rw[ouS_w e2 e]at hx'
     by_cases e3:kw=m
     ·subst e3;rw[Q06]at hx';cases hx'
      exact⟨.o kw,_,Q06 _ _ _,rfl,rfl⟩
     ·rw[Q0c _ e3]at hx'
      refine⟨.o m,x,?_,rfl,(AObj.sub_o x (hou m x hx')).symm⟩
      show updO (updO ou ko (.cells [.gs 5 [] (.l 2)])) kw (.cells [fnW kw ko]) m=_
      rw[Q0c _ e3,Q0c _ (Ne.symm e2)];exact hx'
 have hkt:updO (updO ou ko (.cells [.gs 5 [] (.l 2)])) kw (.cells [fnW kw ko]) kt=none:=hkt
 have hwt:kw≠kt:=fun e=>by subst e;rw[Q06]at hkt;cases hkt
 rw[Q0c _ hwt]at hkt
 have hot:ko≠kt:=fun e=>by subst e;rw[Q06]at hkt;cases hkt
 rw[Q0c _ hot]at hkt
 have hob:OuOk (updO ou kw (.cells [fnW kw ko])):=fun k o hk=>by
  by_cases e:kw=k
  ·subst e;rw[Q06]at hk;cases hk;simp
  ·rw[Q0c _ e]at hk;exact hou k o hk
 have hOw2:Owns (updO ou kw (.cells [fnW kw ko])) (objs t):=hOw.frame fun j hj=>by
  obtain⟨o,hp⟩:=Q1g hj
  have hne:kw≠j:=fun e=>by
   have h1:ou j=some o:=hOw _ hp
   rw[←e,hkw]at h1;cases h1
  exact Q0c _ hne _
 have hcall:=Qhv hΓ t ht hpl (updO ou kw (.cells [fnW kw ko])) kw ko kt [] hob hOw2 (Q06 _ _ _) (by rw[Q0c _ (Ne.symm hwo)];exact hko) (by rw[Q0c _ hwt];exact hkt) hot hsz
 refine AOps.call1 hΓ rfl rfl rfl rfl rfl rfl rfl (by simp) (Q37 hob (by simp)) hcall fun r ou' hq hids hou'=>?_
 obtain⟨rfl,kt',h1,h2,rfl⟩:=hq
 refine zA ?_
 refine zS (zLD rfl rfl (ouS_o h2 _) rfl) ?_
 refine AOps.wk 9 rfl (y:=.one (.sl 5 ((listT [] (erT t)).map cEx))) (.one (.gsE rfl)) ?_
 refine AOps.lessO ⟨3,[],ou⟩ rfl (fun i o ho=>?_) ?_
 ·cases i with
  |l m=>cases ho
  |o m=>
   have ho':ou m=some o:=ho
   show ouS (updO ou kw (.cells [fnW kw ko])) ko kt' _ m=some o
   have e1:m≠ko:=fun e=>by rw[e,hko]at ho';cases ho'
   have e2:kw≠m:=fun e=>by rw[←e,hkw]at ho';cases ho'
   have e3:m≠kt':=fun e=>by
    rw[←e,Q0c _ e2]at h1
    rw[h1]at ho';cases ho'
   rw[ouS_w e1 e3,Q0c _ e2];exact ho'
 refine zA ?_
 exact AFn.fin' rfl (WkF.ofEq rfl) (by simp) hou ⟨rfl,rfl⟩
theorem Qjs(hΓ:∀g cs,(g,cs)∈Γ->idsL isO cs)(t:LTr)(hT:okT (erT t))(hpl:Q24 t)(hl:cntN (erT t)<=1048576)(ou:Outer)(hOw:Owns ou (objs t)):AFn Tryz.prog Γ 131 [.one (.ptr (.o t.id) 0)] ou (GrowQ (listT [] (erT t)) ou):=by
 have hll:(listT [] (erT t)).length<=1048576:=by have:=Q27 (erT t) [];simp at this;omega
 have hli:=Qpb hΓ t hT hpl hll ou hOw
 refine AFn.walk 6 tabOk Tryz.func131 rfl (by kernel_rfl) rfl rfl fun hou=>?_
 refine zA ?_
 refine AOps.call1 hΓ rfl rfl rfl rfl rfl rfl rfl (by simp) hou hli fun r ou' hq hids hou'=>?_
 obtain⟨rfl,rfl⟩:=hq
 refine AOps.call1 hΓ rfl rfl rfl rfl rfl rfl rfl (by simp) hou (Qiy hΓ _ (Q4h (Q40 _ hT) hl).eo (Q16 _).k (Q16 _) _) fun r ou' hq hids hou'=>?_
 obtain⟨t',rfl,h⟩:=hq
 refine zA ?_
 exact AFn.fin' rfl (WkF.refl _) (by simp) hou' ⟨t',rfl,h⟩
def DefQ (lts:List LTr)(X:Option Tr)(ou:Outer)(r:FV)(ou':Outer):Prop:=ou'=ou/\match X with
 |none=>r=nilP
 |some F=>∃t∈lts,∃s∈t.kids,r=.one (.ptr (.o s.id) 0)/\erT s=F
def defR (id:Int)(l:List Tr):Option Tr->Option Tr
 |some f=>some f
 |none=>defT id l
theorem Qmq(id:Int)(t:Tr)(l:List Tr):defT id (t::l)=defR id l (defN id t t.binds 0):=by
 simp only[defT]
 cases defN id t t.binds 0 <;> rfl
theorem Qi1{t:Tr}{i:Nat}{s:Tr}(h:t.kids[i]?=some s):kidT t i=s:=by
 unfold kidT
 rw[List.getD_eq_getElem?_getD,h];rfl
set_option maxHeartbeats 1000000 in
theorem Qd7(hΓ:∀g cs,(g,cs)∈Γ->idsL isO cs)(nm:Int)(root:Nat)(lts:List LTr)(hlen:lts.length<=1048576)(hpl:∀t∈lts,Q24 t)(hok:∀t∈lts,okT (erT t))(hsh:∀t∈lts,allT shpL (erT t))(ou:Outer)(ho:∀t∈lts,Owns ou (objs t)):
  AFn Tryz.prog Γ 133 [.one (.box [.sl 1 (kC lts),.ptr (.o root) 0]),.one (int nm)] ou (DefQ lts (defT nm (lts.map erT)) ou):=by
 obtain⟨X,hX⟩:∃X,X=defT nm (lts.map erT):=⟨_,rfl⟩
 rw[←hX]
 refine AFn.walk 67 tabOk Tryz.func133 rfl (by kernel_rfl) rfl rfl fun hou=>?_
 refine zA ?_
 refine ACode.loopR hΓ (α:=Nat) (fun q=>[(14,.one (int q)),(13,.one (int (kC lts).length)),(12,.one (.sl 1 (kC lts))),(1,.one (int nm))])
  (fun q => ⟨0, [], ou⟩) (fun m q => q <= lts.length /\ X = defT nm ((lts.map erT).drop q) /\ m = lts.length - q) (a0 := 0) (ρ := id) ⟨by omega, hX, rfl⟩ (LessR.of rfl zFS (by simp) zLO rfl rfl hou) fun m q hq => ?_
 obtain⟨hql,hXq,rfl⟩:=hq
 refine zA ?_
 refine ACode.cond rfl (fun hb2=>?_) (fun hb2=>?_)
 ·have hlt:q < lts.length:=by simp[Q0q]at hb2;omega
  clear hb2
  obtain⟨t,ht⟩:=Q00 hlt
  have htm:=List.mem_of_getElem? ht
  have hd:(lts.map erT).drop q=erT t::(lts.map erT).drop (q+1):=by
   rw[List.drop_eq_getElem_cons (by simpa using hlt)]
   congr 1
   obtain⟨_,h2⟩:=List.getElem?_eq_some_iff.1 ht
   simp[h2]
  rw[hd,Qmq]at hXq
  obtain⟨R,hR⟩:∃R,R=(lts.map erT).drop (q+1):=⟨_,rfl⟩
  rw[←hR]at hXq
  have hpt:=hpl t htm
  have hot:=ho t htm
  have hkt:=hok t htm
  have hst:=hsh t htm
  have hit:=Q2n ht
  obtain⟨t0,ht0⟩:∃t0,t0=t:=⟨_,rfl⟩
  cases t with
  |mk i o n nb b ks a=>
  obtain rfl:nb=none:=hpt.1
  have hi:ou i=some (.cells (lC (.mk i o n none b ks a))):=Q09 hot
  simp only[lC,bC]at hi
  have hbl:b.length<=1048576:=hkt.1
  have hbi:(erT (.mk i o n none b ks a)).binds=b:=rfl
  have hopi:(erT (.mk i o n none b ks a)).op=o:=rfl
  have hkk:(erT (.mk i o n none b ks a)).kids=ks.map erT:=Q41 _
  rw[hbi]at hXq
  have hkid:∀p,p < b.length->o=4∨o=5->p < ks.length:=fun p hp h=>by
   rcases h with h4|h5
   ·obtain⟨_,_,_,h1,h2,_⟩:=Q99 (o:=o) (n:=n) (b:=b) (k:=erTs ks) (a:=a.map LAlt.er) hst h4
    have:=congrArg List.length h1
    have h3:=congrArg List.length h2
    rw[Q0g,List.length_map]at h3
    simp at this h3;omega
   ·have:=(Qcc (o:=o) (n:=n) (b:=b) (k:=erTs ks) (a:=a.map LAlt.er) hst h5).1
    rw[Q0g,List.length_map]at this;omega
  refine zA ?_
  refine zS (zIA rfl rfl rfl (by omega) hit) ?_
  repeat' first|refine zN ?_|((with_reducible refine oj ?_);first|refine zix ?_|refine zow rfl rfl hi ?_)
  refine ACode.loopR hΓ (α:=Nat) (fun p=>[(23,.one (int p)),(22,.one (int (b.map cI).length)),(21,.one (.sl 1 (b.map cI))),(14,.one (int q)),(13,.one (int (kC lts).length)),(12,.one (.sl 1 (kC lts))),(6,.one (.ptr (.o i) 0)),(1,.one (int nm))])
   (fun p => ⟨0, [], ou⟩) (fun m p => p <= b.length /\ X = defR nm R (defN nm (erT (.mk i o n none b ks a)) (b.drop p) p) /\ m = b.length - p) (a0 := 0) (ρ := id) ⟨by omega, hXq, rfl⟩ (LessR.of rfl zFS (by simp) zLO rfl rfl hou) fun m p hp => ?_
  obtain⟨hpl2,hXp,rfl⟩:=hp
  refine zA ?_
  refine ACode.cond rfl (fun hb3=>?_) (fun hb3=>?_)
  ·have hlt2:p < b.length:=by simpa using hb3
   clear hb3
   obtain⟨v,hv⟩:=Q00 hlt2
   have hdp:b.drop p=v::b.drop (p+1):=by
    obtain⟨h1,h2⟩:=List.getElem?_eq_some_iff.1 hv
    rw[List.drop_eq_getElem_cons h1,h2]
   rw[hdp]at hXp
   simp only[defN,hopi]at hXp
   refine zA ?_
   refine zS (zIA rfl rfl rfl (by omega) (Q04 hv)) ?_
   refine zA ?_
   have hcont:(X=defR nm R (defN nm (erT (.mk i o n none b ks a)) (b.drop (p+1)) (p+1)))->(p+1<=b.length/\X=defR nm R (defN nm (erT (.mk i o n none b ks a)) (b.drop (p+1)) (p+1))/\b.length - (p+1)=b.length - (p+1)):=fun h=>⟨by omega,h,rfl⟩
   refine AOps.splitS rfl rfl rfl rfl (fun hb4=>?_) (fun hb4=>?_)
   ·have hvid:v=nm:=by simpa using hb4
    subst hvid
    repeat' first|refine zN ?_|((with_reducible refine oj ?_);first|refine zix ?_|refine zow rfl rfl hi ?_)|(with_reducible refine oj ?_;refine AOps.splitS rfl rfl rfl rfl (fun hb=>?_) (fun hb=>?_))|(with_reducible refine ok ?_;first|refine ACode.condS rfl (fun hb=>?_) (fun hb=>?_)|refine ACode.cond rfl (fun hb=>?_) (fun hb=>?_))
    iterate 2
     ·have h45:o=4∨o=5:=by first|exact .inl (by simpa using hb)|exact .inr (by simpa using hb)
      obtain⟨s,hs⟩:=Q00 (hkid p hlt2 h45)
      have hsm:s∈(LTr.mk i o n none b ks a).kids:=List.mem_of_getElem? hs
      have hos:=Q14 hot hsm
      have hps:=Q0z hpt hsm
      have hks:kidT (erT (.mk i o n none b ks a)) p=erT s:=Qi1 (by rw[hkk];simp[hs])
      rw[hks]at hXp
      cases s with
      |mk j op2 n2 nb2 b2 ks2 a2=>
      obtain rfl:nb2=none:=hps.1
      have hj:ou j=some (.cells (lC (.mk j op2 n2 none b2 ks2 a2))):=Q09 hos
      simp only[lC,bC]at hj
      rw[show (erT (.mk j op2 n2 none b2 ks2 a2)).op=op2 from rfl]at hXp
      refine zS (zIA rfl rfl rfl (by omega) (by simpa using Q2n hs)) ?_
      repeat' first|refine zN ?_|((with_reducible refine oj ?_);first|refine zix ?_|refine zow rfl rfl hj ?_)
      refine ACode.condS rfl (fun hb5=>?_) (fun hb5=>?_)
      ·have h2:op2=2:=by simpa using hb5
       rw[if_pos ⟨rfl,h45,h2⟩]at hXp
       simp only[defR]at hXp
       repeat' first|refine zN ?_|((with_reducible refine oj ?_);first|refine zix ?_|refine zow rfl rfl hi ?_)
       refine zS (zIA rfl rfl rfl (by omega) (by simpa using Q2n hs)) ?_
       repeat' first|refine zN ?_|((with_reducible refine oj ?_);first|refine zix ?_|refine zow rfl rfl hi ?_)
       refine AFn.fin' rfl (WkF.refl _) (by simp) hou ⟨rfl,?_⟩
       rw[hXp];exact⟨_,htm,_,hsm,rfl,rfl⟩
      ·have h2:¬op2=2:=by simpa using hb5
       rw[if_neg (fun h=>h2 h.2.2)]at hXp
       refine zM ?_
       exact cInv ⟨b.length - (p+1),p+1,id,by omega,hcont hXp,LessR.of rfl zFS (by simp) zLO rfl rfl hou⟩
    ·have h45:¬(o=4∨o=5):=by rintro (h|h) <;> simp_all
     rw[if_neg (fun h=>h45 h.2.1)]at hXp
     exact cInv ⟨b.length - (p+1),p+1,id,by omega,hcont hXp,LessR.of rfl zFS (by simp) zLO rfl rfl hou⟩
   ·have hvid:¬v=nm:=by simpa using hb4
    rw[if_neg (fun h=>hvid h.1)]at hXp
    refine zM ?_
    exact cInv ⟨b.length - (p+1),p+1,id,by omega,hcont hXp,LessR.of rfl zFS (by simp) zLO rfl rfl hou⟩
  ·have hlt2:p=b.length:=by simp at hb3;omega
   subst hlt2
   rw[List.drop_length]at hXp
   simp only[defN,defR]at hXp
   refine zM ?_
   exact cInv ⟨lts.length - (q+1),q+1,id,by omega,⟨by omega,by rw[←hR];exact hXp,rfl⟩,LessR.of rfl zFS (by simp) zLO rfl rfl hou⟩
 ·have hlt:q=lts.length:=by simp[Q0q]at hb2;omega
  subst hlt
  rw[List.drop_of_length_le (by simp)]at hXq
  simp only[defT]at hXq
  refine zA ?_
  refine AFn.fin' rfl (WkF.refl _) (by simp) hou ⟨rfl,?_⟩
  rw[hXq]
end Go.Proofs.YtpaonemmbhbgoaaGreatDoor
namespace Go.CoreX
def mxL (c:Int)(l:Lab):Prop:=∀n∈Q07 l.op l.binds l.alts,n<=c
theorem Q8g(c:Int):∀(l:List Int)(m:Int),m<=c->(∀n∈l,n<=c)->l.foldl max m<=c
 |[],m,h,_=>h
 |x::l,m,h,hl=>by
  simp only[List.foldl_cons]
  have:=hl x (by simp)
  exact Q8g c l _ (by omega) fun n hn=>hl n (by simp[hn])
mutual
theorem Qhr(c:Int)(hc:-1<=c):∀t:Tr,Go.CoreX.allT (mxL c) t->mostT t<=c
 |.mk o n b k a,h=>by
  simp only[mostT]
  exact Qeh c hc k _ (Q8g c _ _ hc h.1) h.2
theorem Qeh(c:Int)(hc:-1<=c):∀(l:List Tr)(m:Int),m<=c->Go.CoreX.allTs (mxL c) l->Qbi m l<=c
 |[],m,h,_=>h
 |t::l,m,h,hl=>by
  simp only[Qbi]
  have:=Qhr c hc t hl.1
  exact Qeh c hc l _ (by omega) hl.2
end
theorem Qhs:∀t:Tr,-1<=mostT t
 |.mk o n b k a=>by
  simp only[mostT,Q9r]
  have h1:=Q5e (Q07 o b a) (-1)
  have h2:=Q5e (k.map mostT) ((Q07 o b a).foldl max (-1))
  omega
end Go.CoreX
namespace Go.Proofs.YtpaonemmbhbgoaaGreatDoor
open Go Go.Abs Go.CoreX
variable {Γ:List (Nat×List AC)}
theorem Qdq(hΓ:∀g cs,(g,cs)∈Γ->idsL isO cs)(root t:LTr)(lts:List LTr)(hlen:lts.length<=1048576)(hpl:∀t∈lts,Q24 t)(hok:∀t∈lts,okT (erT t))(hct:∀t∈lts,cntN (erT t)<=1048576)(hsh:∀t∈lts,allT shpL (erT t))(hm:mostT (erT root)<=1048576)(hr:root∈lts)(ht:t∈lts)(h0:(erT t).op=0)(ou:Outer)(ho:∀t∈lts,Owns ou (objs t)):
  AFn Tryz.prog Γ 110 [.one (.box [.sl 1 (kC lts),.ptr (.o root.id) 0]),.one (.ptr (.o t.id) 0)] ou (ResW ou t (Q4z (lts.map erT) (erT root) (erT t))):=by
 have hot:=ho t ht
 have hop:=hok t ht
 have hpt:=hpl t ht
 have hst:=hsh t ht
 have hM:=Qgq hΓ (erT root) (hok root hr)
 have hm0:=Qhs (erT root)
 have hor:=ho root hr
 obtain⟨M,hMe⟩:∃M,M=mostT (erT root):=⟨_,rfl⟩
 unfold Qiv at hM
 rw[←hMe]at hM hm hm0
 obtain⟨X,hX⟩:∃X,X=Q4z (lts.map erT) (erT root) (erT t):=⟨_,rfl⟩
 rw[←hX]
 unfold Q4z at hX
 rw[←hMe]at hX
 cases t with
 |mk i o n nb b ks a=>
 obtain rfl:nb=none:=hpt.1
 have hi:ou i=some (.cells (lC (.mk i o n none b ks a))):=Q09 hot
 simp only[lC,bC]at hi
 have hD:=Qd7 hΓ n root.id lts hlen hpl hok hsh ou ho
 rw[show (erT (.mk i o n none b ks a)).n=n from rfl]at hX
 refine AFn.walk 26 tabOk Tryz.func110 rfl (by kernel_rfl) rfl rfl fun hou=>?_
 repeat' first|refine zN ?_|((with_reducible refine oj ?_);first|refine zix ?_|refine zow rfl rfl hi ?_)
 refine AOps.call1 hΓ rfl rfl rfl rfl rfl rfl rfl (by simp[idsF]) hou hD fun r ow hq hids how=>?_
 obtain⟨hqe,hq⟩:=hq
 have hqe:=hqe.symm
 subst hqe
 cases hDe:defT n (lts.map erT) with
 |none=>
  rw[hDe]at hX hq
  dsimp only at hq
  subst hq
  refine zA ?_
  refine zS (AStep.eqNil0 Tryz.underlying81 rfl rfl rfl) ?_
  refine zA ?_
  refine AFn.fin' rfl (WkF.refl _) (by simp) hou ?_
  rw[hX]
  exact⟨rfl,hou,fun _ _ h=>h⟩
 |some F=>
  rw[hDe]at hX hq
  obtain⟨t1,ht1,s,hs,rfl,hF⟩:=hq
  have hsp:=Q0z (hpl t1 ht1) hs
  have hso:=Q14 (ho t1 ht1) hs
  have hsk:=Q2k (hok t1 ht1) (Q1y hs)
  have hsc:cntN (erT s)<=1048576:=by
   have:=Q82 (Q1y hs)
   have:=hct t1 ht1
   omega
  have hC:=Qjs hΓ s hsk hsp hsc _ hso
  refine zA ?_
  refine zS (AStep.eqNil Tryz.underlying81 rfl rfl rfl) ?_
  refine zA ?_
  refine AOps.call1 hΓ rfl rfl rfl rfl rfl rfl rfl (by simp[idsF]) hou hC fun r ow hq hids how=>?_
  obtain⟨c,rfl,hce,hcok,hcO,hcN,hcn,_,hold⟩:=hq
  rw[Q12]at hce
  have hrO:Owns ow (objs root):=fun p hp=>hold _ _ (hor p hp)
  refine zA ?_
  refine AOps.callS hΓ hM (Plain.lit _) rfl rfl rfl rfl rfl rfl (Q2f.t1 hrO) ?_
  have hnb:(nbL c:Int)<=4398046511104:=by
   have h1:=nb_le (Q4h (Q40 _ hsk) hsc) (Q16 (erT s))
   unfold nbE at h1
   rw[Q12]at h1
   have h2:=nbL_er c
   rw[hce]at h2
   omega
  have hR:=Qn7 hΓ c hcok ow hcO hcN (M+1) (by omega) (by omega) how
  refine zM ?_
  refine AOps.call1 hΓ rfl rfl rfl rfl rfl rfl rfl (by simp[idsF]) how hR fun r ov hq hids hov=>?_
  obtain⟨rfl,hO2,_,hfr⟩:=hq
  refine zA ?_
  refine AFn.fin' rfl (WkF.refl _) (by simp) hov ?_
  rw[hX]
  refine⟨(rnL nm0 (M+1) c).1,by rw[rnL_id],?_,hO2,?_,hov,fun j o' hj hn=>?_,fun k hk=>?_⟩
  ·rw[(rnL_er c nm0 (M+1)).1,hce,hF]
  ·rw[rnL_k]
   intro h
   have h1:=hcn _ h
   have h2:ou i=_:=hi
   rw[show (LTr.mk i o n none b ks a).id=i from rfl]at h1
   rw[h1]at h2;cases h2
  ·show ov j=some o'
   rw[hfr j fun h=>by rw[hcn j h]at hj;cases hj]
   exact hold _ _ hj
  ·rw[rnL_k]at hk
   exact .inr (hcn k hk)
end Go.Proofs.YtpaonemmbhbgoaaGreatDoor
namespace Go.CoreX
theorem Qf7{e:List Ex}{x:Ex}(h:Q0l false e x=0):∀b∈Q0r x,b<=1048575:=by
 have hr:ranges x=0:=by
  unfold Q0l at h
  split at h
  ·cases h
  ·unfold Q1h at h
   split at h
   ·cases h
   ·split at h
    ·rename_i hr;exact absurd h hr
    ·rename_i hr;simpa using hr
 have hx:x.binds.all Q2w=true/\x.alts.all (Q3d x.op)=true:=by
  unfold ranges at hr
  split at hr
  ·cases hr
  split at hr
  ·cases hr
  rename_i h1
  split at hr
  ·cases hr
  rename_i h2
  exact⟨by simpa using h1,by simpa using h2⟩
 have ok:∀n,Q2w n=true->n<=1048575:=fun n hn=>by
  simp[Q2w,between]at hn;omega
 intro b hb
 unfold Q0r Q07 at hb
 rcases List.mem_append.1 hb with hb|hb
 ·split at hb
  ·exact ok b (List.all_eq_true.1 hx.1 b hb)
  ·cases hb
 ·obtain⟨a,ha,hba⟩:=List.mem_flatMap.1 hb
  have:=List.all_eq_true.1 hx.2 a ha
  unfold Q3d at this
  exact ok b (List.all_eq_true.1 (Bool.and_eq_true_iff.1 this).2 b hba)
theorem Qjv{e:List Ex}(h:check e=0):allT (mxL 1048575) (grow e):=by
 obtain⟨_,p2,_,_⟩:=Q4p h
 exact Qam (Q0f h) fun x hx=>Qf7 (p2 x hx)
end Go.CoreX
namespace Go.Proofs.YtpaonemmbhbgoaaGreatDoor
open Go Go.Abs Go.CoreX
variable {Γ:List (Nat×List AC)}
theorem Q5p{e:List Ex}{i:Nat}(h:i < e.length):(growL e)[i]?=some (Q0b e i):=by
 unfold Q0b
 have:i < (growL e).length:=by rw[Q0m];exact h
 rw[List.getD_eq_getElem?_getD,List.getElem?_eq_getElem this];rfl
theorem Qoe{e:List Ex}{lts:List LTr}(hL:LinkL e lts Q9i)(hk:Q0t e):lts.map erT=growL e:=by
 refine List.ext_getElem? fun i=>?_
 rw[List.getElem?_map]
 by_cases hi:i < e.length
 ·obtain⟨t,ht⟩:=Q00 (l:=lts) (i:=i) (by rw[hL.len];exact hi)
  rw[ht,Q5p hi]
  show some (erT t)=_
  rw[hL.er hk _ i t (Nat.lt_succ_self _) ht]
 ·rw[List.getElem?_eq_none (by rw[hL.len];omega),List.getElem?_eq_none (by rw[Q0m];omega)];rfl
structure Opened (e:List Ex)(lts:List LTr)(root:LTr)(ou:Outer):Prop where
 len:lts.length<=1048576
 pl:∀t∈lts,Q24 t
 ok:∀t∈lts,okT (erT t)
 ct:∀t∈lts,cntN (erT t)<=4096
 sh:∀t∈lts,allT shpL (erT t)
 own:∀t∈lts,Owns ou (objs t)
 rin:root∈lts
 rer:erT root=grow e
 map:lts.map erT=growL e
 most:mostT (grow e)<=1048575
theorem Opened.of{e:List Ex}(he:okB e)(h:check e=0){lts:List LTr}{root:LTr}{ou:Outer}(hL:LinkL e lts Q9i)(hr:lts[e.length - 1]?=some root)(hO:Owns ou (lts.flatMap ownO)):Opened e lts root ou:=by
 have t1:=Q0f h
 have hix:∀t∈lts,∃p:Nat,lts[p]?=some t/\p < e.length:=fun t ht=>by
  obtain⟨p,hp⟩:=List.getElem?_of_mem ht
  exact⟨p,hp,by have:=(List.getElem?_eq_some_iff.1 hp).1;rw[hL.len]at this;exact this⟩
 have her:∀(p:Nat) (t:LTr),lts[p]?=some t->erT t=Q0b e p:=fun p t ht=>hL.er t1.k _ p t (Nat.lt_succ_self _) ht
 refine⟨by rw[hL.len];exact he.eo.l,fun t ht=>?_,fun t ht=>?_,fun t ht=>?_,fun t ht=>?_,fun t ht=>?_,List.mem_of_getElem? hr,?_,Qoe hL t1.k,Qhr _ (by omega) _ (Qjv h)⟩
 ·obtain⟨p,hp,_⟩:=hix t ht
  exact hL.plain t1.k _ p t (Nat.lt_succ_self _) hp
 ·obtain⟨p,hp,hl⟩:=hix t ht
  rw[her p t hp];exact Q47 he t1 hl
 ·obtain⟨p,hp,hl⟩:=hix t ht
  rw[her p t hp];exact Q8h h hl
 ·obtain⟨p,hp,hl⟩:=hix t ht
  rw[her p t hp];exact Q2b t1 (Q5i h) hl
 ·obtain⟨p,hp,hl⟩:=hix t ht
  exact fun o ho=>hO o (hL.own t1.k _ p t (Nat.lt_succ_self _) hp o ho)
 ·rw[her _ root hr];rfl
theorem nameU{e:List Ex}(he:okB e)(h:check e=0){rule n:Int}{at':Nat}(h10:rule≠10):NameOk e rule n at':=by
 refine⟨fun h=>absurd h h10,fun _ ou lts root t hL hr ht hO h0=>?_⟩
 have o:=Opened.of he h hL hr hO
 have hU:=Qdq hΓc root t lts o.len o.pl o.ok (fun t ht=>by have:=o.ct t ht;omega) o.sh (by rw[o.rer];have:=o.most;omega) o.rin (List.mem_of_getElem? ht) h0 ou o.own
 rw[o.map,o.rer]at hU
 exact hU
theorem Qne(e:List Ex)(he:okB e)(rule at' n:Int)(h1:rule≠10):APure Tryz.prog Γc 56 [.one (.sl 5 (e.map cEx)),.agg [int rule,int at',int n]] (.tup [.one (.sl 5 ((Q0p e rule at' n).1.map cEx)),.one (int (Q0p e rule at' n).2)]):=Qdl e he rule at' n fun h _ _=>nameU he h h1
def kidX (e:List Ex)(x:Ex):Ex:=e.getD (x.kids.getD 0 0).toNat ⟨0,0,[],[],[]⟩
def Q86 (e:List Ex)(f:Int->Option Int)(x:Ex):Int->Option Int:=
 if x.op=4/\(kidX e x).op=2 then setF f (x.binds.getD 0 0) (cntN (Q0b e (x.kids.getD 0 0).toNat):Nat)else f
def Q4r (e l:List Ex):Int->Option Int:=l.foldl (Q86 e) (fun _=>none)
def callX (e:List Ex)(f:Int->Option Int)(x:Ex):Bool:=
 decide (x.op=3)&&((f (kidX e x).n).isSome&&decide ((kidX e x).op=0)&&decide ((f (kidX e x).n).getD 0<=20))
def candL (e:List Ex)(f:Int->Option Int):List Ex->Nat->Option (Int×Nat)
 |[],_=>none
 |x::l,i=>if callX e f x=true then some (x.kids.getD 0 0,i)else candL e f l (i+1)
def candE (e:List Ex):Option (Int×Nat):=candL e (Q4r e e) e 0
def candR (e:List Ex):Int×Int×Bool:=match candE e with
 |some (k,i)=>(k,(i:Int),true)
 |none=>(0,0,false)
theorem Qfn(e l:List Ex)(x:Ex):Q4r e (l++[x])=Q86 e (Q4r e l) x:=by unfold Q4r;rw[List.foldl_append];rfl
theorem Qf1:∀l:List Tr,cntNs l=(l.map cntN).sum
 |[]=>rfl
 |t::l=>by simp only[cntNs,List.map_cons,List.sum_cons,Qf1 l]
def sumK (e:List Ex)(l:List Int):Nat:=(l.map fun k=>cntN (Q0b e k.toNat)).sum
theorem Qke(e:List Ex)(l:List Int)(k:Int):sumK e (l++[k])=sumK e l+cntN (Q0b e k.toNat):=by simp[sumK]
theorem Qoy{e:List Ex}(hk:Q0t e){i:Nat}{x:Ex}(hx:e[i]?=some x):cntN (Q0b e i)=1+sumK e x.kids:=by
 rw[Q2a hk hx]
 simp only[cntN,Qf1,List.map_map]
 unfold sumK
 have:(cntN∘fun k:Int=>Q0b e k.toNat)=fun k:Int=>cntN (Q0b e k.toNat):=rfl
 rw[this];omega
theorem Qoh{e:List Ex}(hc:check e=0){i:Nat}{x:Ex}(hx:e[i]?=some x)(h:x.op=3):∃k,x.kids[0]?=some k/\0<=k/\k < (i:Int):=by
 have t1:=Q0f hc
 have hlt:=(List.getElem?_eq_some_iff.1 hx).1
 have hs:=Q2b t1 (Q5i hc) hlt
 rw[Q2a t1.k hx]at hs
 obtain⟨h1,_⟩:=Qcd hs h
 cases hk:x.kids with
 |nil=>rw[hk]at h1;exact absurd rfl h1
 |cons k l=>exact⟨k,rfl,t1.k i x hx k (by rw[hk];simp)⟩
theorem Qog{e:List Ex}(hc:check e=0){i:Nat}{x:Ex}(hx:e[i]?=some x)(h:x.op=4):∃k b,x.kids[0]?=some k/\x.binds[0]?=some b/\0<=k/\k < (i:Int):=by
 have t1:=Q0f hc
 have hlt:=(List.getElem?_eq_some_iff.1 hx).1
 have hs:=Q2b t1 (Q5i hc) hlt
 rw[Q2a t1.k hx]at hs
 obtain⟨b,v,d,h1,h2,_⟩:=Q99 hs h
 cases hk:x.kids with
 |nil=>rw[hk]at h2;cases h2
 |cons k l=>exact⟨k,b,rfl,by rw[h1];rfl,t1.k i x hx k (by rw[hk];simp)⟩
theorem Qm2{e:List Ex}{x y:Ex}{k:Int}(hk:x.kids[0]?=some k)(hy:e[k.toNat]?=some y):kidX e x=y:=by
 unfold kidX
 rw[show x.kids.getD 0 0=k by rw[List.getD_eq_getElem?_getD,hk];rfl,List.getD_eq_getElem?_getD,hy];rfl
theorem Qg6{l:List Int}{k:Int}(h:l[0]?=some k):l.getD 0 0=k:=by rw[List.getD_eq_getElem?_getD,h];rfl
variable {Γ:List (Nat×List AC)}
set_option maxHeartbeats 1000000 in
theorem Qf6(hΓ:∀g cs,(g,cs)∈Γ->idsL isO cs)(e:List Ex)(he:okB e)(hc:check e=0):APure Tryz.prog Γ 58 [.one (.sl 5 (e.map cEx))] (.tup [.one (int (candR e).1),.one (int (candR e).2.1),.one (.lit (.bool (candR e).2.2))]):=by
 have hel:=he.eo.l
 have t1:=Q0f hc
 intro ou
 refine AFn.walk 115 tabOk Tryz.func58 rfl (by kernel_rfl) rfl rfl fun hou=>?_
 refine zA ?_
 refine zS (AStep.makeMap rfl) ?_
 refine zA ?_
 have hb:ti3.bytes * (e.map cEx).length<=281474976710656:=by simp;show 8 * _<=_;omega
 have hb2:(e.map cEx).length<=281474976710656:=by simp;omega
 refine zS (AStep.makeArr tabOk rfl rfl rfl rfl rfl rfl rfl rfl hb hb2) ?_
 refine zA ?_
 have hz:(z0 e).map int=List.replicate (e.map cEx).length (.lit (.int .i64 0)):=by simp[z0]
 rw[←hz]
 refine ACode.loopR hΓ (α:=Nat×List Int×Nat×List (Nat×Int×Int)) (fun a=>[(22,.one (int a.1)),(21,.one (int (e.map cEx).length)),(20,.one (.sl 5 (e.map cEx))),(6,.one (.arr (.l 1) 1 0 (e.map cEx).length (e.map cEx).length)),(5,.one (.mp (.l 0))),(0,.one (.sl 5 (e.map cEx)))])
  (fun a=>⟨2,[(1,.cells (a.2.1.map int)),(0,.map a.2.2.1 (encI eN a.2.2.2))],ou⟩)
  (fun m a=>a.1<=e.length/\(a.2.1.length=e.length/\(∀i,i < a.1->a.2.1[i]?=some ((cntN (Q0b e i):Nat):Int))/\IMOk (Q4r e (e.take a.1)) a.2.2.1 a.2.2.2)/\m=e.length - a.1)
  (a0:=(0,z0 e,0,[])) (ρ:=id) ⟨by omega,⟨by simp[z0],by simp,IMOk.nil⟩,rfl⟩ (LessR.of rfl zFS (by simp) zLO rfl rfl hou) fun m a hj=>?_
 obtain⟨j,d,ck,l⟩:=a
 obtain⟨hjl,⟨hdl,hdv,hI⟩,rfl⟩:=hj
 dsimp only at hjl hdl hdv hI
 refine zA ?_
 refine ACode.cond rfl (fun hb2=>?_) (fun hb2=>?_)
 ·have hlt:j < e.length:=by simpa using hb2
  clear hb2
  obtain⟨x,hx⟩:=Q00 hlt
  have hxo:=he.eo.x x (List.mem_of_getElem? hx)
  have hxk:=hxo.k
  have hcn:=Qoy t1.k hx
  have hca:=Q8h hc hlt
  refine zA ?_
  refine zS (zIA rfl rfl rfl (by omega) (Q04 hx)) ?_
  refine zA ?_
  refine zS (idxI tabOk rfl rfl rfl rfl rfl rfl rfl (by simp;omega)) ?_
  refine Qdw tabOk rfl rfl rfl rfl rfl rfl rfl rfl (show j < d.length by omega) ?_
  refine zA ?_
  refine ACode.loopR hΓ (α:=Nat×List Int) (fun a=>[(33,.one (int a.1)),(32,.one (int (x.kids.map cI).length)),(31,.one (.sl 1 (x.kids.map cI))),(8,.one (.ptr (.l 2) 0)),(7,.one (int j)),(22,.one (int j)),(21,.one (int (e.map cEx).length)),(20,.one (.sl 5 (e.map cEx))),(6,.one (.arr (.l 1) 1 0 (e.map cEx).length (e.map cEx).length)),(5,.one (.mp (.l 0))),(0,.one (.sl 5 (e.map cEx)))])
   (fun a=>⟨3,[(2,.cells (cEx x)),(1,.cells (a.2.map int)),(0,.map ck (encI eN l))],ou⟩)
   (fun m a=>a.1<=x.kids.length/\(a.2.length=e.length/\(∀i,i < j->a.2[i]?=some ((cntN (Q0b e i):Nat):Int))/\a.2[j]?=some ((1+sumK e (x.kids.take a.1):Nat):Int))/\m=x.kids.length - a.1)
   (a0:=(0,d.set j 1)) (ρ:=id) ⟨by omega,⟨by simp[hdl],fun i hi=>?_,?_⟩,rfl⟩ (LessR.of rfl zFS (by simp) zLO rfl rfl hou) fun m a hi=>?_
  ·rw[List.getElem?_set_ne (by omega)];exact hdv i hi
  ·rw[List.getElem?_set_self (by omega)];simp[sumK]
  obtain⟨i,d'⟩:=a
  obtain⟨hil,⟨hdl',hdv',hdj⟩,rfl⟩:=hi
  dsimp only at hil hdl' hdv' hdj
  refine zA ?_
  refine ACode.cond rfl (fun hb3=>?_) (fun hb3=>?_)
  ·have hlt2:i < x.kids.length:=by simpa using hb3
   clear hb3
   obtain⟨k,hk⟩:=Q00 hlt2
   have hkr:=t1.k j x hx k (List.mem_of_getElem? hk)
   have hsn:=Qke e (x.kids.take i) k
   rw[←Q0n hk]at hsn
   refine zA ?_
   refine zS (zIA rfl rfl rfl (by omega) (Q04 hk)) ?_
   obtain⟨k,rfl⟩:∃k':Nat,k=k':=⟨k.toNat,by omega⟩
   rw[Int.toNat_natCast]at hsn
   have hdk:=hdv' k (by omega)
   have hck:=Q8h hc (show k < e.length by omega)
   have hsl:sumK e (x.kids.take i)<=sumK e x.kids:=by
    conv=>rhs;rw[←List.take_append_drop i x.kids]
    unfold sumK
    rw[List.map_append,List.sum_append];omega
   refine zA ?_
   refine ACode.drawX tabOk 9 [(2,.one (.ptr (.l 1) j)),(3,.one (int ((1+sumK e (x.kids.take i):Nat):Int))),(6,.one (.ptr (.l 1) k)),(7,.one (int ((cntN (Q0b e k):Nat):Int))),(8,.one (int (((1+sumK e (x.kids.take i):Nat):Int)+((cntN (Q0b e k):Nat):Int))))] follows (by kernel_rfl) rfl rfl rfl rfl ?_ ?_
   ·refine .step rfl (zHP (idxI tabOk rfl rfl rfl rfl rfl rfl rfl (by simp;omega))) ?_
    refine .step rfl (zHP (loadI tabOk rfl rfl rfl rfl rfl rfl hdj)) ?_
    refine .step rfl (zHP (idxI tabOk rfl rfl rfl rfl rfl rfl rfl (by simp;omega))) ?_
    refine .step rfl (zHP (loadI tabOk rfl rfl rfl rfl rfl rfl hdk)) ?_
    exact .step rfl (zHP (AStep.arith rfl rfl rfl (.inl ⟨rfl,rfl⟩) zI)) .nil
   refine zA ?_
   refine zS (idxI tabOk rfl rfl rfl rfl rfl rfl rfl (by simp;omega)) ?_
   refine Qdw tabOk rfl rfl rfl rfl rfl rfl rfl rfl (show j < d'.length by omega) ?_
   refine zM ?_
   refine cInv ⟨x.kids.length - (i+1),(i+1,d'.set j (((1+sumK e (x.kids.take i):Nat):Int)+((cntN (Q0b e k):Nat):Int))),id,by omega,⟨by omega,⟨by simp[hdl'],fun i' hi'=>?_,?_⟩,rfl⟩,LessR.of rfl zFS (by simp) zLO rfl rfl hou⟩
   ·rw[List.getElem?_set_ne (by omega)];exact hdv' i' hi'
   ·rw[List.getElem?_set_self (by omega),hsn];congr 1;push_cast;omega
  have hlt2:i=x.kids.length:=by simp at hb3;omega
  subst hlt2
  rw[List.take_length,←hcn]at hdj
  have hsz:=Qfn e (e.take j) x
  rw[←Q0n hx]at hsz
  have hnext:∀i,i < j+1->d'[i]?=some ((cntN (Q0b e i):Nat):Int):=fun i hi=>by
   by_cases h:i=j
   ·subst h;exact hdj
   ·exact hdv' i (by omega)
  refine zA ?_
  refine AOps.splitS rfl rfl rfl rfl (fun hb4=>?_) (fun hb4=>?_)
  ·have h4:x.op=4:=by simpa using hb4
   obtain⟨k,b,hk0,hb0,hk1,hk2⟩:=Qog hc hx h4
   obtain⟨k,rfl⟩:∃k':Nat,k=k':=⟨k.toNat,by omega⟩
   obtain⟨y,hy⟩:=Q00 (l:=e) (i:=k) (by omega)
   have hkx:kidX e x=y:=Qm2 hk0 (by simpa using hy)
   have hdk:=hdv' k (by omega)
   have hgk:=Qg6 hk0
   have hgb:=Qg6 hb0
   refine zM ?_
   refine zS (zIA rfl rfl rfl (by decide) (Q04 hk0)) ?_
   refine zM ?_
   refine zS (zIA rfl rfl rfl (by omega) (Q04 hy)) ?_
   refine zM ?_
   refine ACode.condS rfl (fun hb5=>?_) (fun hb5=>?_)
   ·have h2:y.op=2:=by simpa using hb5
    have hst:Q86 e (Q4r e (e.take j)) x=setF (Q4r e (e.take j)) b ((cntN (Q0b e k):Nat):Int):=by
     unfold Q86
     rw[if_pos ⟨h4,by rw[hkx];exact h2⟩,hgk,hgb,Int.toNat_natCast]
    rw[hst]at hsz
    refine ACode.drawX tabOk 12 [(3,.one (.box (cI b))),(8,.one (.box (cI (k:Int)))),(10,.one (.ptr (.l 1) k)),(11,.one (int ((cntN (Q0b e k):Nat):Int)))] follows (by kernel_rfl) rfl rfl rfl rfl ?_ ?_
    ·refine .step rfl (zHP (zIA rfl rfl rfl (by decide) (Q04 hb0))) ?_
     refine .step rfl (zHP (zIA rfl rfl rfl (by decide) (Q04 hk0))) ?_
     refine .step rfl (zHP (idxI tabOk rfl rfl rfl rfl rfl rfl rfl (by simp;omega))) ?_
     exact .step rfl (zHP (loadI tabOk rfl rfl rfl rfl rfl rfl hdk)) .nil
    refine zA ?_
    refine AOps.putI eN (v:=((cntN (Q0b e k):Nat):Int)) rfl rfl rfl Tryz.underlying122 Tryz.underlying3 rfl rfl rfl rfl hI fun ck' l' hI'=>?_
    refine zM ?_
    refine cInv ⟨e.length - (j+1),(j+1,d',ck',l'),id,by omega,⟨by omega,⟨hdl',hnext,?_⟩,rfl⟩,LessR.of rfl zFS (by simp) zLO rfl rfl hou⟩
    dsimp only
    rw[hsz];exact hI'
   ·have h2:¬y.op=2:=by simpa using hb5
    have hst:Q86 e (Q4r e (e.take j)) x=Q4r e (e.take j):=by
     unfold Q86
     rw[if_neg (fun h=>h2 (by rw[←hkx];exact h.2))]
    rw[hst]at hsz
    refine zM ?_
    refine cInv ⟨e.length - (j+1),(j+1,d',ck,l),id,by omega,⟨by omega,⟨hdl',hnext,?_⟩,rfl⟩,LessR.of rfl zFS (by simp) zLO rfl rfl hou⟩
    dsimp only
    rw[hsz];exact hI
  ·have h4:¬x.op=4:=by simpa using hb4
   have hst:Q86 e (Q4r e (e.take j)) x=Q4r e (e.take j):=by
    unfold Q86
    rw[if_neg (fun h=>h4 h.1)]
   rw[hst]at hsz
   refine zM ?_
   refine cInv ⟨e.length - (j+1),(j+1,d',ck,l),id,by omega,⟨by omega,⟨hdl',hnext,?_⟩,rfl⟩,LessR.of rfl zFS (by simp) zLO rfl rfl hou⟩
   dsimp only
   rw[hsz];exact hI
 have hlt:j=e.length:=by simp at hb2;omega
 subst hlt
 clear hb2
 rw[List.take_length]at hI
 obtain⟨f,hf⟩:∃f,f=Q4r e e:=⟨_,rfl⟩
 rw[←hf]at hI
 have hC:candE e=candL e f e 0:=by rw[hf];rfl
 refine zA ?_
 refine ACode.loopR hΓ (α:=Nat) (fun i=>[(77,.one (int i)),(76,.one (int (e.map cEx).length)),(75,.one (.sl 5 (e.map cEx))),(5,.one (.mp (.l 0))),(0,.one (.sl 5 (e.map cEx)))])
  (fun i => ⟨1, [(0, .map ck (encI eN l))], ou⟩) (fun m i => i <= e.length /\ candE e = candL e f (e.drop i) i /\ m = e.length - i) (a0 := 0) (ρ := id) ⟨by omega, hC, rfl⟩ (LessR.of rfl zFS (by simp) zLO rfl rfl hou) fun m i hi => ?_
 obtain⟨hil,hCi,rfl⟩:=hi
 refine zA ?_
 refine ACode.cond rfl (fun hb3=>?_) (fun hb3=>?_)
 ·have hlt:i < e.length:=by simpa using hb3
  clear hb3
  obtain⟨x,hx⟩:=Q00 hlt
  have hd:e.drop i=x::e.drop (i+1):=by
   obtain⟨h1,h2⟩:=List.getElem?_eq_some_iff.1 hx
   rw[List.drop_eq_getElem_cons h1,h2]
  rw[hd]at hCi
  simp only[candL]at hCi
  have hno:callX e f x=false->candE e=candL e f (e.drop (i+1)) (i+1):=fun h=>by rw[hCi,h];simp
  refine zA ?_
  refine zS (zIA rfl rfl rfl (by omega) (Q04 hx)) ?_
  refine zA ?_
  refine ACode.condS rfl (fun hb4=>?_) (fun hb4=>?_)
  ·have h3:¬x.op=3:=by simpa using hb4
   refine zM ?_
   exact cInv ⟨e.length - (i+1),i+1,id,by omega,⟨by omega,hno (by unfold callX;simp[h3]),rfl⟩,LessR.of rfl zFS (by simp) zLO rfl rfl hou⟩
  have h3:x.op=3:=by simpa using hb4
  obtain⟨k,hk0,hk1,hk2⟩:=Qoh hc hx h3
  obtain⟨k,rfl⟩:∃k':Nat,k=k':=⟨k.toNat,by omega⟩
  obtain⟨y,hy⟩:=Q00 (l:=e) (i:=k) (by omega)
  have hkx:kidX e x=y:=Qm2 hk0 (by simpa using hy)
  have hgk:=Qg6 hk0
  refine zA ?_
  refine zS (zIA rfl rfl rfl (by decide) (Q04 hk0)) ?_
  refine zA ?_
  refine zS (zIA rfl rfl rfl (by omega) (Q04 hy)) ?_
  refine zA ?_
  refine zS (AStep.lookI eN (cm:=true) (v:=.one (int ((f y.n).getD 0))) rfl Tryz.underlying122 Tryz.underlying3 rfl rfl rfl (by kernel_rfl) zeroN hI (by cases f y.n <;> rfl)) ?_
  obtain⟨B,hB⟩:∃B,B=(f y.n).isSome:=⟨_,rfl⟩
  obtain⟨V,hV⟩:∃V,V=(f y.n).getD 0:=⟨_,rfl⟩
  have hcx:callX e f x=(B&&decide (y.op=0)&&decide (V<=20)):=by unfold callX;rw[hkx,←hB,←hV];simp[h3]
  rw[←hB,←hV]
  clear hB hV
  refine zA ?_
  cases B with
  |false=>
   refine zM ?_
   exact cInv ⟨e.length - (i+1),i+1,id,by omega,⟨by omega,hno (by rw[hcx];rfl),rfl⟩,LessR.of rfl zFS (by simp) zLO rfl rfl hou⟩
  |true=>
   refine zA ?_
   refine AOps.splitS rfl rfl rfl rfl (fun hb5=>?_) (fun hb5=>?_)
   ·have h0:y.op=0:=by simpa using hb5
    refine zM ?_
    refine ACode.condS rfl (fun hb6=>?_) (fun hb6=>?_)
    ·have h20:V<=20:=by simpa using hb6
     rw[if_pos (by rw[hcx];simp[h0,h20]),hgk]at hCi
     refine zA ?_
     refine zS (zIA rfl rfl rfl (by decide) (Q04 hk0)) ?_
     refine zA ?_
     refine APure.fin rfl (WkF.ofEq ?_) (by simp) hou rfl
     unfold candR
     rw[hCi]
    ·have h20:¬V<=20:=by simpa using hb6
     refine zM ?_
     exact cInv ⟨e.length - (i+1),i+1,id,by omega,⟨by omega,hno (by rw[hcx];simp[h20]),rfl⟩,LessR.of rfl zFS (by simp) zLO rfl rfl hou⟩
   ·have h0:¬y.op=0:=by simpa using hb5
    refine zM ?_
    exact cInv ⟨e.length - (i+1),i+1,id,by omega,⟨by omega,hno (by rw[hcx];simp[h0]),rfl⟩,LessR.of rfl zFS (by simp) zLO rfl rfl hou⟩
 have hlt:i=e.length:=by simp at hb3;omega
 subst hlt
 rw[List.drop_length]at hCi
 simp only[candL]at hCi
 refine zA ?_
 refine APure.fin rfl (WkF.ofEq ?_) (by simp) hou rfl
 unfold candR
 rw[hCi]
end Go.Proofs.YtpaonemmbhbgoaaGreatDoor
