/- flow: prim; walked. -/
import Derived.Test.YtlmokgooijbcdaaGreatDoorE5
import Derived.RangeFuncBox
import Derived.RangeFuncLeaves
import Derived.WalkKit
import Derived.OwnWalkIn
import Derived.TacticsInMore
import Derived.LoopNIn
import Derived.LoopIn
set_option maxRecDepth 10000
set_option maxHeartbeats 4000000
set_option linter.unusedVariables false
set_option linter.unusedSimpArgs false
open Array renaming getD_eq_getD_getElem?->Qz7
open Go.Proofs.YtlmokgooijbcdaaGreatDoor.FStep renaming refl->Qzm,trans->Qzn
open Int renaming tdiv_eq_ediv_of_nonneg->Qzu
open List renaming getElem?_set_ne->Z0y,length_set->Z1a,range_succ->Z2a
open Nat renaming and_le_right->Z2u,le_add_right->Z2w,le_of_lt->Z2z,mul_one->Z36,testBit_and->Z39
open Option renaming getD_some->Z3i
open Go.Proofs.Tryz renaming func127->Z3y
open Go.World renaming putObj_heap_other->Z4a
open Go Go.Abs Go.CoreX
variable {L j q i k a n f b ks cap kk km kh ka kn B gf N cp:Nat}{nk js ws pre cl rt:List Nat}{e:List Ex}{x:Ex}{l args:List Int}{α:Type}{s:FSt}{ou ov o1 o3 oX oz:Outer}{first tmps:Array Value}{p:Nat×AObj}{σ:St}{r:Int}{E:Env}{c y assign body:Code}{K:Cont}{fr:Fr}{es:List (List AC)}{cs:List AC}{nf oc og:Option (Nat×Nat)}{W w w0:World}{P:Program}{g o:Operand}{ps:Array Tmp}{Q:Exit->Act->World->Prop}{encs:α->Array Value}{S:List α->Prop}{F:Nat->Prop}{C0 C:Ctx}{Γ:List (Nat×List AC)}{T Tb:Tab}{imp eff:List Bool}
namespace Go.Proofs.YtlmokgooijbcdaaGreatDoor
structure FE (e:List Ex):Prop where
 l:e.length<=1048576
 sh:∀x∈e,ShN x.op x.n x.binds x.kids.length x.alts
 k:∀(i:Nat) (x:Ex),e[i]?=some x->∀k∈x.kids,0<=k/\k < (i:Int)
 kl:∀x∈e,x.kids.length<=1048576
 bl:∀x∈e,x.binds.length<=1048576
 al:∀x∈e,x.alts.length<=1048576/\∀a∈x.alts,a.binds.length<=1048576
def FlStQ (e:List Ex)(y:Lay)(s:FSt)(l:List (Ref×Ref))(ou:Outer)(r:FV)(ou':Outer):Prop:=r=.tup []/\∃y',FStep e y ou (Q13 l s) y' ou'
theorem Q15(h:nk[j]?=some q):(nC L nk)[j]?=some [aS L q]:=by simp[nC,h]
@[simp] theorem Qie (p:Abs.Id->Prop) (hp:∀k,p (.o k)) (L:Nat) (nk:List Nat):idsS p (nC L nk):=Q2a (f:=fun k=>[aS L k]) (fun k=>by simp[AC.ids,hp]) nk
theorem Q2e(hE:FE e){y:Lay}(hn:y.nk.length=e.length)(hx:e[i]?=some x){k:Int}(hk:x.kids[j]?=some k):0<=k/\k.toNat < i/\∃q,y.nk[k.toNat]?=some q/\y.key (nodeR k)=some q:=by
 obtain⟨h1,h2⟩:=hE.k i x hx k (Z1y hk);have hi:=(Z0v.1 hx).1;have hlt:k.toNat < y.nk.length:=by omega
 exact⟨h1,by omega,y.nk[k.toNat],Z0t hlt,Z0t hlt⟩
theorem Q2k{y:Lay}(hn:y.nk.length=e.length)(hx:e[i]?=some x):∃q,y.nk[i]?=some q/\y.key (.node i)=some q:=by
 have hi:=(Z0v.1 hx).1;have hlt:i < y.nk.length:=by omega
 exact⟨y.nk[i],Z0t hlt,Z0t hlt⟩
theorem Q1f{k:Int}(h:l[j]?=some k):(l.map cI)[j]?=some [int k]:=by simp[cI,h]
theorem Q0b{l:List α}{x d:α}(h:l[j]?=some x):l.getD j d=x:=by rw[Z0o,h];rfl
theorem prim_ok(e:List Ex)(hE:FE e)(y:Lay)(s:FSt)(ou:Outer)(h:FlR e y s ou)(hn:y.nk.length=e.length)(i:Nat)(x:Ex)(hx:e[i]?=some x)(h8:x.op=8):
  AFn Tryz.prog Γt 170 [.one (.ptr (.o y.ks) 0),.one (int (i:Nat)),.agg (cEx x)] ou (FlStQ e y s (Q31 i x) ou):=by
 have hs:ou y.ks=some (.cells [.sl 5 (e.map cEx),.sl 1 (nC (words e) y.nk),.mp (.o y.km),aS (words e) y.kh,aS (words e) y.ka,.lit (.bool s.2)]):=h.so;have hsh:=hE.sh x (Z1y hx);rw[h8]at hsh;obtain⟨_,_,hpl,_,_⟩:=hsh.prim;obtain⟨qi,hqi,hki⟩:=Q2k hn hx;refine zwk 59 Tryz.func170 fun hou=>?_;refine zA ?_;refine Qyl rfl (fun hb=>?_) (fun hb=>?_)
 ·have hn8:x.n=8:=by simpa using hb
  obtain⟨k,hk⟩:∃k,x.kids[1]?=some k:=by refine Q00 ?_;rw[hn8]at hpl;have:(x.kids.length:Int)=2:=hpl;omega
  obtain⟨k0,k1,q,hq,hkq⟩:=Q2e hE hn hx hk;have hl:Q31 i x=[(.heap,nodeR k)]:=by unfold Q31;rw[if_pos hn8,Q0b hk]
  rw[hl];refine zA ?_;refine zdx 15 [(4,.one (aS (words e) y.kh)),(8,.one (.sl 1 (nC (words e) y.nk))),(11,.one (.box [int k])),(13,.one (.box [aS (words e) q]))] ?_ ?_
  ·refine .step rfl (zHP (zLD rfl rfl hs rfl)) ?_;refine .step rfl (zHP (zLD rfl rfl hs rfl)) ?_;refine .step rfl (zHP (zIA rfl rfl rfl zoy (Q1f hk))) ?_;exact .step rfl (zHP (zIA rfl rfl rfl k0 (Q15 hq))) .nil
  refine Qrb hΓt rfl rfl rfl rfl rfl rfl rfl ziy hou (Q0x e hE.l y s ou h (.heap,nodeR k) y.kh q rfl hkq (by simp[nodeR])) fun r ow hqq Qvd how=>?_;obtain⟨rfl,hst⟩:=hqq;refine zA ?_;exact Qst rfl (Z46 rfl) zsy how ⟨rfl,y,hst⟩
 have hn8:x.n≠8:=by simpa using hb
 refine zA ?_;refine Qyl rfl (fun hb=>?_) (fun hb=>?_)
 ·have Qxe:x.n=11:=by simpa using hb
  obtain⟨k,hk⟩:∃k,x.kids[2]?=some k:=by refine Q00 ?_;rw[Qxe]at hpl;have:(x.kids.length:Int)=3:=hpl;omega
  obtain⟨k0,k1,q,hq,hkq⟩:=Q2e hE hn hx hk;have hl:Q31 i x=[(.heap,nodeR k)]:=by unfold Q31;rw[if_neg hn8,if_pos Qxe,Q0b hk]
  rw[hl];refine zA ?_;refine zdx 15 [(4,.one (aS (words e) y.kh)),(8,.one (.sl 1 (nC (words e) y.nk))),(11,.one (.box [int k])),(13,.one (.box [aS (words e) q]))] ?_ ?_
  ·refine .step rfl (zHP (zLD rfl rfl hs rfl)) ?_;refine .step rfl (zHP (zLD rfl rfl hs rfl)) ?_;refine .step rfl (zHP (zIA rfl rfl rfl zoy (Q1f hk))) ?_;exact .step rfl (zHP (zIA rfl rfl rfl k0 (Q15 hq))) .nil
  refine Qrb hΓt rfl rfl rfl rfl rfl rfl rfl ziy hou (Q0x e hE.l y s ou h (.heap,nodeR k) y.kh q rfl hkq (by simp[nodeR])) fun r ow hqq Qvd how=>?_;obtain⟨rfl,hst⟩:=hqq;refine zA ?_;exact Qst rfl (Z46 rfl) zsy how ⟨rfl,y,hst⟩
 have Qxe:x.n≠11:=by simpa using hb
 refine zA ?_;refine Qyl rfl (fun hb=>?_) (fun hb=>?_)
 ·have Qy6:x.n=10:=by simpa using hb
  have hl:Q31 i x=[(.node i,.heap)]:=by unfold Q31;rw[if_neg hn8,if_neg Qxe,if_pos Qy6]
  rw[hl];refine zA ?_;refine zdx 12 [(4,.one (.sl 1 (nC (words e) y.nk))),(6,.one (.box [aS (words e) qi])),(11,.one (aS (words e) y.kh))] ?_ ?_
  ·refine .step rfl (zHP (zLD rfl rfl hs rfl)) ?_;refine .step rfl (zHP (zIA rfl rfl rfl zoy (Q15 hqi))) ?_;exact .step rfl (zHP (zLD rfl rfl hs rfl)) .nil
  refine Qrb hΓt rfl rfl rfl rfl rfl rfl rfl ziy hou (Q0x e hE.l y s ou h (.node i,.heap) qi y.kh hki rfl zsy) fun r ow hqq Qvd how=>?_;obtain⟨rfl,hst⟩:=hqq;refine zA ?_;exact Qst rfl (Z46 rfl) zsy how ⟨rfl,y,hst⟩
 have Qy6:x.n≠10:=by simpa using hb
 have hl:Q31 i x=[]:=by unfold Q31;rw[if_neg hn8,if_neg Qxe,if_neg Qy6]
 rw[hl];refine zA ?_;exact Qst rfl (Z46 rfl) zsy hou ⟨rfl,y,Qzm h⟩
theorem Qus{y:Lay}(h:FlR e y s ou):ou y.ks=some (.cells [.sl 5 (e.map cEx),.sl 1 (nC (words e) y.nk),.mp (.o y.km),aS (words e) y.kh,aS (words e) y.ka,.lit (.bool s.2)]):=h.so
theorem Q0k(l:List (Ref×Ref))(p:Ref×Ref)(s:FSt):Q13 (l++[p]) s=intoF p (Q13 l s):=by rw[Qbf,Q7x]
theorem Qq8{l:List Alt}{a:Alt}(h:l[j]?=some a):(l.map cAlt)[j]?=some (cAlt a):=by simp[h]
theorem Qaw(e:List Ex)(hE:FE e)(y:Lay)(s:FSt)(ou:Outer)(h:FlR e y s ou)(hn:y.nk.length=e.length)(i:Nat)(x:Ex)(hx:e[i]?=some x)(h7:x.op=7∨x.op=13):
  AFn Tryz.prog Γt 169 [.one (.ptr (.o y.ks) 0),.one (int (i:Nat)),.agg (cEx x)] ou (FlStQ e y s (Q4o i x x.alts.length++(if x.op=13 then [(.heap,.node i)]else [])) ou):=by
 have hxm:=Z1y hx;have hkl:=((hE.sh x hxm).alts7 h7).1;have hal:=hE.al x hxm;obtain⟨qi,hqi,hki⟩:=Q2k hn hx;obtain⟨k0,hk0⟩:∃k,x.kids[0]?=some k:=Q00 zoy;obtain⟨hk0p,hk0l,q0,hq0,hkq0⟩:=Q2e hE hn hx hk0;obtain⟨b13,hop⟩:∃b13,(x.op==13)=b13:=⟨_,rfl⟩;refine zwk 114 Tryz.func169 fun hou=>?_;refine zA ?_;refine Qre hΓt (α:=Nat×(Int->Option Nat)×Outer) (fun c=>[(13,.one (int c.1)),(12,.one (int (x.alts.map cAlt).length)),(11,.one (.sl 2 (x.alts.map cAlt))),(5,.one (.ptr (.l 0) 0)),(0,.one (.ptr (.o y.ks) 0)),(1,.one (int (i:Nat)))]) (fun c=>⟨1,[(0,.cells (cEx x))],c.2.2⟩)
  (fun m c=>(c.1<=x.alts.length/\FStep e y ou (Q13 (Q4o i x c.1) s) (y.withI c.2.1) c.2.2)/\m=x.alts.length - c.1)
  (a0:=(0,y.ik,ou)) (ρ:=_root_.id) ⟨⟨by omega,Qzm h⟩,rfl⟩ (Qzw rfl zFS zsy zLO rfl rfl hou) fun m c hc=>?_
 obtain⟨j,ik1,ov⟩:=c;obtain⟨⟨hjl,hU⟩,rfl⟩:=hc;dsimp only at hjl hU;have hov:=hU.fr.ok;refine zA ?_;refine Qyl rfl (fun hb=>?_) (fun hb=>?_)
 ·have hlt:j < x.alts.length:=by simp at hb;omega
  obtain⟨a,ha⟩:=Q00 hlt;have habl:=hal.2 a (Z1y ha);obtain⟨k1,hk1⟩:∃k,x.kids[1+j]?=some k:=Q00 zoy;obtain⟨hk1p,hk1l,q1,hq1,hkq1⟩:=Q2e hE hn hx hk1;refine zA ?_;refine zS (zIA rfl rfl rfl zoy (Qq8 ha)) ?_;refine zA ?_;refine Qre hΓt (α:=Nat×(Int->Option Nat)×Outer) (fun c=>[(21,.one (int c.1)),(20,.one (int (a.binds.map cI).length)),(19,.one (.sl 1 (a.binds.map cI))),(6,.one (int (j:Nat))),(13,.one (int (j:Nat))),(12,.one (int (x.alts.map cAlt).length)),(11,.one (.sl 2 (x.alts.map cAlt))),(5,.one (.ptr (.l 0) 0)),(0,.one (.ptr (.o y.ks) 0)),(1,.one (int (i:Nat)))]) (fun c=>⟨1,[(0,.cells (cEx x))],c.2.2⟩)
   (fun m c=>(c.1<=a.binds.length/\FStep e y ou (Q13 (Q4o i x j++Q5t x j a.binds c.1) s) (y.withI c.2.1) c.2.2)/\m=a.binds.length - c.1)
   (a0:=(0,ik1,ov)) (ρ:=_root_.id) ⟨⟨by omega,by simpa[Q5t]using hU⟩,rfl⟩ (Qzw rfl zFS zsy zLO rfl rfl hov) fun m c hc=>?_
  clear hU hov;obtain⟨n,ik1,ov⟩:=c;obtain⟨⟨hnl,hU⟩,rfl⟩:=hc;dsimp only at hnl hU;have hov:=hU.fr.ok;obtain⟨s1,hs1e⟩:∃s1,s1=Q13 (Q4o i x j++Q5t x j a.binds n) s:=⟨_,rfl⟩;rw[←hs1e]at hU;have hF:=hU.fr;have hs1:ov y.ks=some (.cells [.sl 5 (e.map cEx),.sl 1 (nC (words e) y.nk),.mp (.o y.km),aS (words e) y.kh,aS (words e) y.ka,.lit (.bool s1.2)]):=by have h0:=Qus hF;exact h0
  refine zA ?_;refine Qyl rfl (fun hb2=>?_) (fun hb2=>?_)
  ·have Qvg:n < a.binds.length:=by simp at hb2;omega
   obtain⟨id,hid⟩:=Q00 Qvg;refine zA ?_;refine zS (zIA rfl rfl rfl zoy (Q1f hid)) ?_;repeat ((fail_if_success ((with_reducible refine oj ?_);refine Qtz 40 rfl ?_));first|refine zO ?_)
   rw[hop];have Qy1:∀{Z:Prop},(Z->¬(x.op=13/\j=0))->True:=fun _=>trivial;cases b13 with
   |true=>
    have h13:x.op=13:=by simpa using hop
    refine zA ?_;refine Qyl rfl (fun hb3=>?_) (fun hb3=>?_)
    ·have hj0:j=0:=by simp at hb3;omega
     refine zA ?_;refine Qtm tabOk 14 3 [(7,.one (.sl 1 (nC (words e) y.nk))),(10,.one (.box [int k0])),(12,.one (.box [aS (words e) q0]))] (fun v σ=>∃(ik:Int->Option Nat) (kq:Nat) (o2:Outer),v=.one (aS (words e) kq)/\FStep e (y.withI ik1) ov s1 ((y.withI ik1).withI ik) o2/\ik id=some kq/\σ=⟨1,[(0,.cells (cEx x))],o2⟩) follows zky rfl rfl zky zky rfl rfl rfl rfl ?_ ?_ ?_ ?_ ?_
     ·rintro v σ ⟨ik,kq,o2,_,_,_,rfl⟩;rfl
     ·refine .step rfl (zHP (zLD rfl rfl hs1 rfl)) ?_;refine .step rfl (zHP (zIA rfl rfl rfl zoy (Q1f hk0))) ?_;exact .step rfl (zHP (zIA rfl rfl rfl hk0p (Q15 hq0))) .nil
     ·rintro v σ ⟨ik,kq,o2,rfl,hst2,hik,rfl⟩;have hs2:=Qus hst2.fr;refine .step rfl (zHP (zLD rfl rfl hs2 rfl)) ?_;refine .step rfl (zHP (zIA rfl rfl rfl zoy (Q1f hk0))) ?_;exact .step rfl (zHP (zIA rfl rfl rfl hk0p (Q15 hq0))) .nil
     ·exact .inl (.inr ⟨rfl,Q1m.call hΓt rfl rfl rfl rfl ziy hF.ok (Q4a e hE.l (y.withI ik1) s1 ov hF id) fun r o2 hq _ _=>by obtain⟨y',kq,h1,h2,h3⟩:=hq;obtain⟨ik,rfl⟩:=h2.same;exact⟨ik,kq,o2,h1,h2,h3,rfl⟩⟩)
     ·rintro v σ ⟨ik,kq,o2,rfl,hst2,hik,rfl⟩;refine Qrb hΓt rfl rfl rfl rfl rfl rfl rfl ziy hst2.fr.ok (Q0x e hE.l ((y.withI ik1).withI ik) (s1) o2 hst2.fr (.idn id,nodeR k0) kq q0 hik hkq0 (by simp[nodeR])) fun r ow hqq Qvd how=>?_;obtain⟨rfl,hst3⟩:=hqq;have Qw3:=Qzn hF hst2 hst3;refine zM ?_;refine cInv ⟨a.binds.length - (n+1),(n+1,ik,ow),_root_.id,by omega,⟨⟨by omega,?_⟩,rfl⟩,Qzw rfl zFS zsy zLO rfl rfl how⟩;dsimp only;rw[Q4e,←Z01,Q0k,Q0b hid,if_pos (show x.op=13/\j=0 from ⟨h13,hj0⟩),Q0b hk0,←hs1e];exact Qzn h hU Qw3
    have hj0:j≠0:=by simp at hb3;omega
    repeat ((fail_if_success ((with_reducible refine oj ?_);refine Qtz 63 rfl ?_));first|refine zO ?_)
    rw[hop];refine zA ?_;refine Qyl rfl (fun hb4=>?_) (fun hb4=>?_)
    ·have hn1:n=1:=by simp at hb4;omega
     refine zA ?_;refine Qtm tabOk 8 3 [(7,.one (aS (words e) y.ka))] (fun v σ=>∃(ik:Int->Option Nat) (kq:Nat) (o2:Outer),v=.one (aS (words e) kq)/\FStep e (y.withI ik1) ov s1 ((y.withI ik1).withI ik) o2/\ik id=some kq/\σ=⟨1,[(0,.cells (cEx x))],o2⟩) follows zky rfl rfl zky zky rfl rfl rfl rfl ?_ ?_ ?_ ?_ ?_
     ·rintro v σ ⟨ik,kq,o2,_,_,_,rfl⟩;rfl
     ·exact .step rfl (zHP (zLD rfl rfl hs1 rfl)) .nil
     ·rintro v σ ⟨ik,kq,o2,rfl,hst2,hik,rfl⟩;have hs2:=Qus hst2.fr;exact .step rfl (zHP (zLD rfl rfl hs2 rfl)) .nil
     ·exact .inl (.inr ⟨rfl,Q1m.call hΓt rfl rfl rfl rfl ziy hF.ok (Q4a e hE.l (y.withI ik1) s1 ov hF id) fun r o2 hq _ _=>by obtain⟨y',kq,h1,h2,h3⟩:=hq;obtain⟨ik,rfl⟩:=h2.same;exact⟨ik,kq,o2,h1,h2,h3,rfl⟩⟩)
     ·rintro v σ ⟨ik,kq,o2,rfl,hst2,hik,rfl⟩;refine Qrb hΓt rfl rfl rfl rfl rfl rfl rfl ziy hst2.fr.ok (Q0x e hE.l ((y.withI ik1).withI ik) (s1) o2 hst2.fr (.idn id,.again) kq y.ka hik rfl (by simp[nodeR])) fun r ow hqq Qvd how=>?_;obtain⟨rfl,hst3⟩:=hqq;have Qw3:=Qzn hF hst2 hst3;refine zM ?_;refine cInv ⟨a.binds.length - (n+1),(n+1,ik,ow),_root_.id,by omega,⟨⟨by omega,?_⟩,rfl⟩,Qzw rfl zFS zsy zLO rfl rfl how⟩;dsimp only;rw[Q4e,←Z01,Q0k,Q0b hid,if_neg (show ¬(x.op=13/\j=0)from fun h=>hj0 h.2),if_pos (show x.op=13/\n=1 from ⟨h13,hn1⟩),←hs1e];exact Qzn h hU Qw3
    ·have hn1:n≠1:=by simp at hb4;omega
     refine zA ?_;refine Qtm tabOk 8 3 [(7,.one (aS (words e) y.kh))] (fun v σ=>∃(ik:Int->Option Nat) (kq:Nat) (o2:Outer),v=.one (aS (words e) kq)/\FStep e (y.withI ik1) ov s1 ((y.withI ik1).withI ik) o2/\ik id=some kq/\σ=⟨1,[(0,.cells (cEx x))],o2⟩) follows zky rfl rfl zky zky rfl rfl rfl rfl ?_ ?_ ?_ ?_ ?_
     ·rintro v σ ⟨ik,kq,o2,_,_,_,rfl⟩;rfl
     ·exact .step rfl (zHP (zLD rfl rfl hs1 rfl)) .nil
     ·rintro v σ ⟨ik,kq,o2,rfl,hst2,hik,rfl⟩;have hs2:=Qus hst2.fr;exact .step rfl (zHP (zLD rfl rfl hs2 rfl)) .nil
     ·exact .inl (.inr ⟨rfl,Q1m.call hΓt rfl rfl rfl rfl ziy hF.ok (Q4a e hE.l (y.withI ik1) s1 ov hF id) fun r o2 hq _ _=>by obtain⟨y',kq,h1,h2,h3⟩:=hq;obtain⟨ik,rfl⟩:=h2.same;exact⟨ik,kq,o2,h1,h2,h3,rfl⟩⟩)
     ·rintro v σ ⟨ik,kq,o2,rfl,hst2,hik,rfl⟩;refine Qrb hΓt rfl rfl rfl rfl rfl rfl rfl ziy hst2.fr.ok (Q0x e hE.l ((y.withI ik1).withI ik) (s1) o2 hst2.fr (.idn id,.heap) kq y.kh hik rfl (by simp[nodeR])) fun r ow hqq Qvd how=>?_;obtain⟨rfl,hst3⟩:=hqq;have Qw3:=Qzn hF hst2 hst3;refine zM ?_;refine cInv ⟨a.binds.length - (n+1),(n+1,ik,ow),_root_.id,by omega,⟨⟨by omega,?_⟩,rfl⟩,Qzw rfl zFS zsy zLO rfl rfl how⟩;dsimp only;rw[Q4e,←Z01,Q0k,Q0b hid,if_neg (show ¬(x.op=13/\j=0)from fun h=>hj0 h.2),if_neg (show ¬(x.op=13/\n=1)from fun h=>hn1 h.2),←hs1e];exact Qzn h hU Qw3
   |false=>
    have h13:x.op≠13:=by simpa using hop
    repeat ((fail_if_success ((with_reducible refine oj ?_);refine Qtz 63 rfl ?_));first|refine zO ?_)
    rw[hop];refine zA ?_;refine Qtm tabOk 8 3 [(7,.one (aS (words e) y.kh))] (fun v σ=>∃(ik:Int->Option Nat) (kq:Nat) (o2:Outer),v=.one (aS (words e) kq)/\FStep e (y.withI ik1) ov s1 ((y.withI ik1).withI ik) o2/\ik id=some kq/\σ=⟨1,[(0,.cells (cEx x))],o2⟩) follows zky rfl rfl zky zky rfl rfl rfl rfl ?_ ?_ ?_ ?_ ?_
    ·rintro v σ ⟨ik,kq,o2,_,_,_,rfl⟩;rfl
    ·exact .step rfl (zHP (zLD rfl rfl hs1 rfl)) .nil
    ·rintro v σ ⟨ik,kq,o2,rfl,hst2,hik,rfl⟩;have hs2:=Qus hst2.fr;exact .step rfl (zHP (zLD rfl rfl hs2 rfl)) .nil
    ·exact .inl (.inr ⟨rfl,Q1m.call hΓt rfl rfl rfl rfl ziy hF.ok (Q4a e hE.l (y.withI ik1) s1 ov hF id) fun r o2 hq _ _=>by obtain⟨y',kq,h1,h2,h3⟩:=hq;obtain⟨ik,rfl⟩:=h2.same;exact⟨ik,kq,o2,h1,h2,h3,rfl⟩⟩)
    ·rintro v σ ⟨ik,kq,o2,rfl,hst2,hik,rfl⟩;refine Qrb hΓt rfl rfl rfl rfl rfl rfl rfl ziy hst2.fr.ok (Q0x e hE.l ((y.withI ik1).withI ik) (s1) o2 hst2.fr (.idn id,.heap) kq y.kh hik rfl (by simp[nodeR])) fun r ow hqq Qvd how=>?_;obtain⟨rfl,hst3⟩:=hqq;have Qw3:=Qzn hF hst2 hst3;refine zM ?_;refine cInv ⟨a.binds.length - (n+1),(n+1,ik,ow),_root_.id,by omega,⟨⟨by omega,?_⟩,rfl⟩,Qzw rfl zFS zsy zLO rfl rfl how⟩;dsimp only;rw[Q4e,←Z01,Q0k,Q0b hid,if_neg (show ¬(x.op=13/\j=0)from fun h=>h13 h.1),if_neg (show ¬(x.op=13/\n=1)from fun h=>h13 h.1),←hs1e];exact Qzn h hU Qw3
  ·have hne:n=a.binds.length:=by simp at hb2;omega
   refine zA ?_;refine zdx 20 [(4,.one (.sl 1 (nC (words e) y.nk))),(6,.one (.box [aS (words e) qi])),(11,.one (.sl 1 (nC (words e) y.nk))),(15,.one (int ((1+j:Nat):Int))),(16,.one (.box [int k1])),(18,.one (.box [aS (words e) q1]))] ?_ ?_
   ·refine .step rfl (zHP (zLD rfl rfl hs1 rfl)) ?_;refine .step rfl (zHP (zIA rfl rfl rfl zoy (Q15 hqi))) ?_;refine .step rfl (zHP (zLD rfl rfl hs1 rfl)) ?_;refine .step rfl (zHP (Qr0 (r:=((1+j:Nat):Int)) rfl rfl rfl (.inl ⟨rfl,by omega⟩) zI)) ?_;refine .step rfl (zHP (zIA rfl rfl rfl zoy (Q1f hk1))) ?_;exact .step rfl (zHP (zIA rfl rfl rfl hk1p (Q15 hq1))) .nil
   refine Qrb hΓt rfl rfl rfl rfl rfl rfl rfl ziy hov (Q0x e hE.l (y.withI ik1) s1 ov hF (.node i,nodeR k1) qi q1 hki hkq1 (by simp[nodeR];omega)) fun r ow hqq Qvd how=>?_;obtain⟨rfl,hst3⟩:=hqq;refine zM ?_;refine cInv ⟨x.alts.length - (j+1),(j+1,ik1,ow),_root_.id,by omega,⟨⟨by omega,?_⟩,rfl⟩,Qzw rfl zFS zsy zLO rfl rfl how⟩;dsimp only;rw[Qgs,←Z01,Q0k,Q0b ha,Q0b hk1,←hne,←hs1e];exact Qzn h hU hst3
 ·have hje:j=x.alts.length:=by simp at hb;omega
  subst hje;obtain⟨s1,hs1e⟩:∃s1,s1=Q13 (Q4o i x x.alts.length) s:=⟨_,rfl⟩;rw[←hs1e]at hU;have hF:=hU.fr;have hs1:ov y.ks=some (.cells [.sl 5 (e.map cEx),.sl 1 (nC (words e) y.nk),.mp (.o y.km),aS (words e) y.kh,aS (words e) y.ka,.lit (.bool s1.2)]):=by have h0:=Qus hF;exact h0
  refine zA ?_;refine Qyl rfl (fun hb3=>?_) (fun hb3=>?_)
  ·have h13:x.op=13:=by simpa using hb3
   refine zA ?_;refine zdx 12 [(4,.one (aS (words e) y.kh)),(8,.one (.sl 1 (nC (words e) y.nk))),(10,.one (.box [aS (words e) qi]))] ?_ ?_
   ·refine .step rfl (zHP (zLD rfl rfl hs1 rfl)) ?_;refine .step rfl (zHP (zLD rfl rfl hs1 rfl)) ?_;exact .step rfl (zHP (zIA rfl rfl rfl zoy (Q15 hqi))) .nil
   refine Qrb hΓt rfl rfl rfl rfl rfl rfl rfl ziy hov (Q0x e hE.l (y.withI ik1) s1 ov hF (.heap,.node i) y.kh qi rfl hki zsy) fun r ow hqq Qvd how=>?_;obtain⟨rfl,hst3⟩:=hqq;refine zA ?_;refine Qst rfl (Z46 rfl) zsy how ⟨rfl,y.withI ik1,?_⟩;rw[if_pos h13,Q0k,←hs1e];exact Qzn h hU hst3
  ·have h13:x.op≠13:=by simpa using hb3
   refine zA ?_;refine Qst rfl (Z46 rfl) zsy hov ⟨rfl,y.withI ik1,?_⟩;rw[if_neg h13,Z02,←hs1e];exact hU
end Go.Proofs.YtlmokgooijbcdaaGreatDoor
namespace Go.CoreX
theorem Q69:∀(a b:List Nat)(k:Nat),Q1x k (a++b)=Q1x k a++Q1x (k+a.length) b
 |[],b,k=>by simp[Q1x]
 |w::a,b,k=>by simp only[Z03,Q1x,Q69 a b (k+1),Z01,Z13];rw[show k+1+a.length=k+(a.length+1) by omega]
theorem Q50(a:List Nat)(w:Nat):Q1x 0 (a++[w])=Q1x 0 a++(Q1w w).map (fun n=>64 * a.length+n):=by rw[Q69];simp[Q1x]
end Go.CoreX
namespace Go.Proofs.YtlmokgooijbcdaaGreatDoor
theorem Qg8{n:Int}(h1:0<=n)(h2:n<=18446744073709551615):Q4w .u64 n:=by constructor <;> simp[IntKind.min,IntKind.max,IntKind.signed,IntKind.bits] <;> omega
theorem ids_all{first caps:List AC}{n:Int}(h1:idsL isO first)(h2:idsL isO caps):idsF isO (first.map FV.one++[FV.one (int n)]++caps.map FV.one):=by
 have h3:∀(l:List AC) (r:List FV),idsL isO l->idsF isO r->idsF isO (l.map FV.one++r):=fun l=>by
  induction l with
  |nil=>exact fun r _ hr=>hr
  |cons c l ih=>exact fun r hl hr=>⟨hl.1,ih r hl.2 hr⟩
 rw[Z01];refine h3 _ _ h1 ⟨by simp,?_⟩;have:=h3 caps [] h2 trivial;rwa [Z02]at this
theorem Ql2(L:Nat)(hL:L<=1048576)(ws:List Nat)(hw:WOk L ws)(k g:Nat)(first caps:List AC)(hi1:idsL isO first)(hi2:idsL isO caps)(I:List Nat->Outer->Prop)(hI:∀pre ou,I pre ou->ou k=some (.cells (wC ws))/\OuOk ou)
  (Qvi:∀pre f ou,I pre ou->f∈elems ws->AFn Tryz.prog Γt g (first.map .one++[.one (int (f:Nat))]++caps.map .one) ou (fun r ou'=>r=.one (.lit (.bool true))/\I (pre++[f]) ou')) (ou:Outer) (h0:I [] ou):
  AFn Tryz.prog Γt 103 [.one (aS L k),.one (.fn (.func g) first caps)] ou (fun r ou'=>r=.tup []/\I (elems ws) ou'):=by
 refine zwk 28 Tryz.func103 fun hou=>?_;have hj1:idsL (inL 0) first:=Q18 Qag _ hi1
 have hj2:idsL (inL 0) caps:=Q18 Qag _ hi2;have hidf:FV.ids isO (.one (.fn (.func g) first caps)):=⟨hi1,hi2⟩;refine zA ?_;refine Qre hΓt (α:=Nat×Outer) (fun c=>[(8,.one (int c.1)),(7,.one (int (L:Nat))),(6,.one (aS L k)),(1,.one (.fn (.func g) first caps))]) (fun c=>⟨0,[],c.2⟩)
  (fun m c=>(c.1<=L/\I (Q1x 0 (ws.take c.1)) c.2)/\m=L - c.1) (a0:=(0,ou)) (ρ:=_root_.id) ⟨⟨by omega,by simpa[Q1x]using h0⟩,rfl⟩ (Qzw rfl zFW (by simp[hj1,hj2]) zLO rfl rfl hou) fun m c hc=>?_
 obtain⟨j,ov⟩:=c;obtain⟨⟨hjl,hIj⟩,rfl⟩:=hc;dsimp only at hjl hIj;obtain⟨hk,hov⟩:=hI _ _ hIj;refine zA ?_;refine Qyl rfl (fun hb=>?_) (fun hb=>?_)
 ·have hlt:j < L:=by have:=of_decide_eq_true hb;omega
  obtain⟨w,hwj⟩:=Q00 (show j < ws.length by rw[hw.1];exact hlt);have hwl:=hw.2 w (Z1y hwj);have hg:(wC ws)[0 * 1+j * 1]?=some (cW w):=by rw[Z3c,Z3a,Z36];exact Qh1 hwj
  have htl:(ws.take j).length=j:=by rw[Z1c,hw.1];omega
  refine zA ?_;refine zS (Qsb (n:=j) tabOk rfl rfl rfl rfl rfl rfl rfl hlt) ?_;refine zS (zLD rfl rfl hk hg) ?_;refine zA ?_;obtain⟨A,hA⟩:∃A,A=Q1x 0 (ws.take j):=⟨_,rfl⟩;rw[←hA]at hIj;refine Qre hΓt (α:=List Nat×Nat×Outer) (fun c=>[(5,.one (cW c.2.1)),(4,.one (int (j:Nat))),(8,.one (int (j:Nat))),(7,.one (int (L:Nat))),(6,.one (aS L k)),(1,.one (.fn (.func g) first caps))]) (fun c=>⟨0,[],c.2.2⟩)
   (fun m c=>(I (A++c.1.map fun n=>64 * j+n) c.2.2/\c.1++Q1w c.2.1=Q1w w/\c.2.1<=w)/\m=c.2.1 * 1) (a0:=([],w,ov)) (ρ:=_root_.id) ⟨⟨by simpa using hIj,rfl,Z30 _⟩,rfl⟩ (Qzw rfl zFW (by simp[hj1,hj2,cW]) zLO rfl rfl hov) fun m c hc=>?_
  clear hk hov hIj;obtain⟨dn,w1,ov⟩:=c;obtain⟨⟨hIw,hel,hwle⟩,rfl⟩:=hc;dsimp only at hIw hel hwle;obtain⟨hk,hov⟩:=hI _ _ hIw;refine zA ?_;refine Qyl rfl (fun hb2=>?_) (fun hb2=>?_)
  ·have hw0:w1≠0:=by simpa using hb2
   have hlw:w1 < 18446744073709551616:=by omega
   have hctz:=(Qzx 64 w1 hw0 hlw).2;have Qxf:Q1w w1=Lib.ctz 64 w1::Q1w (w1 &&& (w1 - 1)):=by rw[Q1w,dif_neg hw0]
   have hmem:64 * j+Lib.ctz 64 w1∈elems ws:=by
    have h1:Lib.ctz 64 w1∈Q1w w:=by rw[←hel,Qxf];simp
    have h2:ws=(ws.take j++[w])++ws.drop (j+1):=by rw[←Q0h hwj];simp
    unfold elems;rw[h2,Q69,Q50,htl];exact Z1n _ (Z1o _ (Z1x h1))
   have hcall:=Qvi _ _ ov hIw hmem;refine zA ?_;refine zS (Qr0 (r:=((64 * j:Nat):Int)) rfl rfl rfl (.inr (.inr ⟨rfl,by simp⟩)) zI) ?_;refine zA ?_;refine Qrl hΓt (tz_ok w1 hlw hw0) rfl rfl rfl rfl rfl rfl rfl hov (by simp[cW]) ?_;refine zS (Qr0 (r:=((64 * j+Lib.ctz 64 w1:Nat):Int)) rfl rfl rfl (.inl ⟨rfl,by simp⟩) zI) ?_;refine Qrb hΓt rfl rfl rfl rfl rfl rfl rfl (ids_all hi1 hi2) hov hcall fun r ow hqq hidr how=>?_;obtain⟨rfl,hI2⟩:=hqq;refine zA ?_;refine zS (Qr0 (r:=((w1 - 1:Nat):Int)) rfl rfl rfl (.inr (.inl ⟨rfl,by dsimp only;omega⟩)) (Qg8 zoy zoy)) ?_;refine zS (Qtt (a:=w1) (b:=w1 - 1) hlw zoy rfl rfl rfl) ?_;refine zA ?_;have hle:w1 &&& (w1 - 1)<=w1 - 1:=Z2u;refine cInv ⟨(w1 &&& (w1 - 1)) * 1,(dn++[Lib.ctz 64 w1],w1 &&& (w1 - 1),ow),_root_.id,by dsimp only;omega,⟨⟨?_,?_,by dsimp only;omega⟩,rfl⟩,Qzw rfl zFW (by simp[hj1,hj2,cW]) zLO rfl rfl how⟩
   ·dsimp only;rw[Z1e,←Z01];exact hI2
   ·dsimp only;rw[Z01,List.singleton_append,←Qxf];exact hel
  ·have hw0:w1=0:=by simpa using hb2
   subst hw0;refine zM ?_;refine cInv ⟨L - (j+1),(j+1,ov),_root_.id,by omega,⟨⟨by dsimp only;omega,?_⟩,rfl⟩,Qzw rfl zFW (by simp[hj1,hj2]) zLO rfl rfl hov⟩;dsimp only;rw[Q0h hwj,Q50,htl,←hA,←hel];have h0:Q1w 0=[]:=by rw[Q1w,dif_pos rfl]
   rw[h0,Z02];exact hIw
 ·have hje:j=L:=by have:=of_decide_eq_false hb;omega
  subst hje;rw[Z2k (by rw[hw.1];exact Z30 _)]at hIj;refine zA ?_;exact Qst rfl (Z46 rfl) zsy hov ⟨rfl,hIj⟩
theorem Qhn:∀a:List Nat,orL a a=a
 |[]=>rfl
 |x::a=>by have:=Qhn a;unfold orL at this ⊢;rw[List.zipWith_cons_cons,this,Nat.or_self]
theorem Qmd(L:Nat)(hL:L<=1048576)(a:List Nat)(ha:WOk L a)(ks k1:Nat)(ou:Outer)(h1:ou k1=some (.cells (wC a))):
  AFn Tryz.prog Γt 166 [.one (.ptr (.o ks) 0),.one (aS L k1),.one (aS L k1)] ou (fun r ou'=>r=.tup []/\ou'=ou):=by
 refine zwk 37 Tryz.func166 fun hou=>?_;refine zA ?_;refine Qre hΓt (α:=Nat) (fun c=>[(10,.one (int c)),(9,.one (int (L:Nat))),(8,.one (aS L k1)),(0,.one (.ptr (.o ks) 0)),(1,.one (aS L k1))]) (fun c=>⟨0,[],ou⟩)
  (fun m c=>c<=L/\m=L - c) (a0:=0) (ρ:=_root_.id) ⟨by omega,rfl⟩ (Qzw rfl zFS zsy zLO rfl rfl hou) fun m j hc=>?_
 obtain⟨hjl,rfl⟩:=hc;refine zA ?_;refine Qyl rfl (fun hc=>?_) (fun hc=>?_)
 ·have hlt:j < L:=by have:=of_decide_eq_true hc;omega
  obtain⟨x,hx⟩:=Q00 (show j < a.length by rw[ha.1];exact hlt);have hxl:=ha.2 x (Z1y hx);have hg1:(wC a)[0 * 1+j * 1]?=some (cW x):=by rw[Z3c,Z3a,Z36];exact Qh1 hx
  refine zA ?_;refine zS (Qsb (n:=j) tabOk rfl rfl rfl rfl rfl rfl rfl hlt) ?_;refine zS (zLD rfl rfl h1 hg1) ?_;refine zA ?_;refine zdx 10 [(2,.one (.ptr (.o k1) (0 * 1+j * 1))),(3,.one (cW x)),(5,.one (cW (x ||| x))),(8,.one (.ptr (.o k1) (0 * 1+j * 1))),(9,.one (cW x))] ?_ ?_
  ·refine .step rfl (zHP (Qsb (n:=j) tabOk rfl rfl rfl rfl rfl rfl rfl hlt)) ?_;refine .step rfl (zHP (zLD rfl rfl h1 hg1)) ?_;refine .step rfl (zHP (Qul hxl hxl rfl rfl rfl)) ?_;refine .step rfl (zHP (Qsb (n:=j) tabOk rfl rfl rfl rfl rfl rfl rfl hlt)) ?_;exact .step rfl (zHP (zLD rfl rfl h1 hg1)) .nil
  rw[Nat.or_self];refine zA ?_;refine Qyl rfl (fun hb=>?_) (fun hb=>?_)
  ·exact absurd hb zsy
  ·refine zM ?_;exact cInv ⟨L - (j+1),j+1,_root_.id,by omega,⟨by omega,rfl⟩,Qzw rfl zFS zsy zLO rfl rfl hou⟩
 ·refine zA ?_;exact Qst rfl (Z46 rfl) zsy hou ⟨rfl,rfl⟩
theorem Qkl(σ:Ref->List Nat)(r:Ref):updR σ r (σ r)=σ:=by
 funext q;unfold updR;split
 ·rename_i h;rw[h]
 ·rfl
theorem Qjq(r:Ref)(s:FSt):intoF (r,r) s=s:=by unfold intoF;dsimp only;rw[Qhn,Qkl];simp
theorem Q12(e:List Ex)(he:e.length<=1048576)(y:Lay)(s:FSt)(ou:Outer)(h:FlR e y s ou)(p:Ref×Ref)(k1 k2:Nat)(h1:y.key p.1=some k1)(h2:y.key p.2=some k2):
  AFn Tryz.prog Γt 166 [.one (.ptr (.o y.ks) 0),.one (aS (words e) k1),.one (aS (words e) k2)] ou (fun r ou'=>r=.tup []/\FStep e y ou (intoF p s) y ou'):=by
 by_cases hne:p.1=p.2
 ·obtain⟨a,b⟩:=p;have hne:a=b:=hne;subst hne;obtain rfl:k1=k2:=Z3n (h1.symm.trans h2);refine (Qmd (words e) (by unfold words;omega) (s.1 a) (h.w a) y.ks k1 ou (h.ro a k1 h1)).mono fun r ou' hq=>?_;obtain⟨rfl,rfl⟩:=hq;rw[Qjq];exact⟨rfl,Qzm h⟩
 ·exact Q0x e he y s ou h p k1 k2 h1 h2 hne
theorem Qq3(e:List Ex)(hE:FE e)(y:Lay)(s:FSt)(ou:Outer)(h:FlR e y s ou)(hn:y.nk.length=e.length)(i:Nat)(x:Ex)(hx:e[i]?=some x)(args:List Int)(hargs:args=x.kids.drop 1)(f:Nat)(hf:f=e.length∨∃yf,e[f]?=some yf/\yf.op=2):
  AFn Tryz.prog Γt 203 [.one (int (f:Nat)),.one (.box [.ptr (.o y.ks) 0]),.one (.box [.sl 1 (args.map cI)]),.one (.box [int (i:Nat)])] ou (fun r ou'=>r=.one (.lit (.bool true))/\∃y',FStep e y ou (Q13 (Q22 e i args f) s) y' ou'):=by
 have hxm:=Z1y hx;have hs:ou y.ks=some (.cells [.sl 5 (e.map cEx),.sl 1 (nC (words e) y.nk),.mp (.o y.km),aS (words e) y.kh,aS (words e) y.ka,.lit (.bool s.2)]):=h.so;obtain⟨qi,hqi,hki⟩:=Q2k hn hx;have hal:args.length<=1048576:=by have:=hE.kl x hxm;rw[hargs,Z14];omega
 have hak:∀(j:Nat) (k:Int),args[j]?=some k->0<=k/\k.toNat < i/\∃q,y.nk[k.toNat]?=some q/\y.key (nodeR k)=some q:=fun j k hk=>by rw[hargs,Z0s]at hk;exact Q2e hE hn hx hk
 obtain⟨bf,hbf⟩:∃bf,(((f:Nat):Int)==(((e.map cEx).length:Nat):Int))=bf:=⟨_,rfl⟩;refine zwk 126 Tryz.func203 fun hou=>?_;repeat ((fail_if_success ((with_reducible refine oj ?_);refine Qtz 17 rfl ?_));first|refine zO ?_|((with_reducible refine oj ?_);first|refine zix ?_|refine zow rfl rfl hs ?_))
 rw[hbf];cases bf with
 |true=>
  have hfe:f=e.length:=by simp at hbf;omega
  refine zA ?_;refine Qyl rfl (fun hb=>?_) (fun hb=>?_)
  ·have ha1:args.length=1:=by simp at hb;omega
   obtain⟨a0,ha0⟩:∃a0,args[0]?=some a0:=Q00 zoy;obtain⟨hap,hal2,qa,hqa,hkqa⟩:=hak 0 a0 ha0;have hl:Q22 e i args f=[(.heap,nodeR a0)]++[(.node i,.heap)]:=by unfold Q22;rw[if_pos hfe,if_pos ha1,Q0b ha0];rfl
   rw[hl];refine zA ?_;refine zdx 14 [(4,.one (aS (words e) y.kh)),(8,.one (.sl 1 (nC (words e) y.nk))),(10,.one (.box [int a0])),(12,.one (.box [aS (words e) qa]))] ?_ ?_
   ·refine .step rfl (zHP (zLD rfl rfl hs rfl)) ?_;refine .step rfl (zHP (zLD rfl rfl hs rfl)) ?_;refine .step rfl (zHP (zIA rfl rfl rfl zoy (Q1f ha0))) ?_;exact .step rfl (zHP (zIA rfl rfl rfl hap (Q15 hqa))) .nil
   refine Qrb hΓt rfl rfl rfl rfl rfl rfl rfl ziy hou (Q12 e hE.l y s ou h (.heap,nodeR a0) y.kh qa rfl hkqa) fun r ow hqq Qvd how=>?_;obtain⟨rfl,hst⟩:=hqq;have hs2:ow y.ks=some (.cells [.sl 5 (e.map cEx),.sl 1 (nC (words e) y.nk),.mp (.o y.km),aS (words e) y.kh,aS (words e) y.ka,.lit (.bool (intoF (.heap,nodeR a0) s).2)]):=by have h0:=Qus hst.fr;exact h0
   refine zA ?_;refine zdx 12 [(4,.one (.sl 1 (nC (words e) y.nk))),(6,.one (.box [aS (words e) qi])),(11,.one (aS (words e) y.kh))] ?_ ?_
   ·refine .step rfl (zHP (zLD rfl rfl hs2 rfl)) ?_;refine .step rfl (zHP (zIA rfl rfl rfl zoy (Q15 hqi))) ?_;exact .step rfl (zHP (zLD rfl rfl hs2 rfl)) .nil
   refine Qrb hΓt rfl rfl rfl rfl rfl rfl rfl ziy how (Q12 e hE.l y _ ow hst.fr (.node i,.heap) qi y.kh hki rfl) fun r ow2 hqq Qvd Qx1=>?_;obtain⟨rfl,hst2⟩:=hqq;refine zA ?_;refine Qst rfl (Z46 rfl) zsy Qx1 ⟨rfl,y,?_⟩;rw[Q0k,Q7x];exact Qzn h hst hst2
  ·have ha1:args.length≠1:=by simp at hb;omega
   have hl:Q22 e i args f=[]:=by unfold Q22;rw[if_pos hfe,if_neg ha1]
   rw[hl];have hlt:decide (((f:Nat):Int) < (((e.map cEx).length:Nat):Int))=false:=by simp;omega
   refine zA ?_;refine zdx 21 [(4,.one (.sl 5 (e.map cEx))),(6,.one (.lit (.bool false)))] ?_ ?_
   ·refine .step rfl (zHP (zLD rfl rfl hs rfl)) ?_;exact .step rfl (Qs2 tabOk rfl hlt) .nil
   refine zA ?_;exact Qst rfl (Z46 rfl) zsy hou ⟨rfl,y,Qzm h⟩
 |false=>
  have hfe:f≠e.length:=by simp at hbf;omega
  obtain⟨yf,hy,hop⟩:∃yf,e[f]?=some yf/\yf.op=2:=by
   rcases hf with hf|hf
   ·exact absurd hf hfe
   ·exact hf
  have hyl:=(Z0v.1 hy).1;have hlt:decide (((f:Nat):Int) < (((e.map cEx).length:Nat):Int))=true:=by simp;omega
  refine zA ?_;refine zdx 21 [(4,.one (.sl 5 (e.map cEx))),(6,.one (.lit (.bool true))),(11,.one (.sl 5 (e.map cEx))),(13,.one (.box (cEx yf)))] ?_ ?_
  ·refine .step rfl (zHP (zLD rfl rfl hs rfl)) ?_;refine .step rfl (Qs2 tabOk rfl hlt) ?_;refine .step rfl (Qrf rfl rfl rfl (zLD rfl rfl hs rfl)) ?_;exact .step rfl (Qrf rfl rfl rfl (zIA rfl rfl rfl zoy (Q0c hy))) .nil
  refine zA ?_;refine Qyl rfl (fun hb=>?_) (fun hb=>?_)
  ·have hbl:yf.binds.length=args.length:=by simp at hb;omega
   have hsh:=hE.sh yf (Z1y hy);rw[hop]at hsh;obtain⟨hkl,_⟩:=hsh.lam;obtain⟨kb,hkb⟩:∃kb,yf.kids[0]?=some kb:=Q00 zoy;obtain⟨hkbp,_,qb,hqb,hkqb⟩:=Q2e hE hn hy hkb;have hl:Q22 e i args f=Q3i yf.binds args args.length++[(.node i,nodeR kb)]:=by unfold Q22;rw[if_neg hfe,hy];dsimp only;rw[if_pos hbl,Q0b hkb]
   rw[hl];refine zA ?_;refine Qre hΓt (α:=Nat×(Int->Option Nat)×Outer) (fun c=>[(73,.one (int c.1)),(72,.one (int (args.map cI).length)),(71,.one (.sl 1 (args.map cI))),(0,.one (int (f:Nat))),(1,.one (.box [.ptr (.o y.ks) 0])),(2,.one (.box [.sl 1 (args.map cI)])),(3,.one (.box [int (i:Nat)]))]) (fun c=>⟨0,[],c.2.2⟩)
    (fun m c=>(c.1<=args.length/\FStep e y ou (Q13 (Q3i yf.binds args c.1) s) (y.withI c.2.1) c.2.2)/\m=args.length - c.1)
    (a0:=(0,y.ik,ou)) (ρ:=_root_.id) ⟨⟨by omega,Qzm h⟩,rfl⟩ (Qzw rfl zFS zsy zLO rfl rfl hou) fun m c hc=>?_
   obtain⟨j,ik1,ov⟩:=c;obtain⟨⟨hjl,hU⟩,rfl⟩:=hc;dsimp only at hjl hU;have hov:=hU.fr.ok;obtain⟨s1,hs1e⟩:∃s1,s1=Q13 (Q3i yf.binds args j) s:=⟨_,rfl⟩;rw[←hs1e]at hU;have hF:=hU.fr;have hs1:ov y.ks=some (.cells [.sl 5 (e.map cEx),.sl 1 (nC (words e) y.nk),.mp (.o y.km),aS (words e) y.kh,aS (words e) y.ka,.lit (.bool s1.2)]):=by have h0:=Qus hF;exact h0
   refine zA ?_;refine Qyl rfl (fun hb2=>?_) (fun hb2=>?_)
   ·have Qvg:j < args.length:=by simp at hb2;omega
    obtain⟨ak,hak1⟩:=Q00 Qvg;obtain⟨bk,hbk⟩:=Q00 (show j < yf.binds.length by omega);obtain⟨hap,hal2,qa,hqa,hkqa⟩:=hak j ak hak1;refine zA ?_;refine zS (zIA rfl rfl rfl zoy (Q1f hak1)) ?_;refine zA ?_;refine Qtm tabOk 21 13 [(5,.one (.sl 5 (e.map cEx))),(7,.one (.box (cEx yf))),(11,.one (.box [int bk])),(17,.one (.sl 1 (nC (words e) y.nk))),(19,.one (.box [aS (words e) qa]))] (fun v σ=>∃(ik:Int->Option Nat) (kq:Nat) (o2:Outer),v=.one (aS (words e) kq)/\FStep e (y.withI ik1) ov s1 ((y.withI ik1).withI ik) o2/\ik bk=some kq/\σ=⟨0,[],o2⟩) follows zky rfl rfl zky zky rfl rfl rfl rfl ?_ ?_ ?_ ?_ ?_
    ·rintro v σ ⟨ik,kq,o2,_,_,_,rfl⟩;rfl
    ·refine .step rfl (zHP (zLD rfl rfl hs1 rfl)) ?_;refine .step rfl (zHP (zIA rfl rfl rfl zoy (Q0c hy))) ?_;refine .step rfl (zHP (zIA rfl rfl rfl zoy (Q1f hbk))) ?_;refine .step rfl (zHP (zLD rfl rfl hs1 rfl)) ?_;exact .step rfl (zHP (zIA rfl rfl rfl hap (Q15 hqa))) .nil
    ·rintro v σ ⟨ik,kq,o2,rfl,hst2,hik,rfl⟩;have hs2:=Qus hst2.fr;refine .step rfl (zHP (zLD rfl rfl hs2 rfl)) ?_;refine .step rfl (zHP (zIA rfl rfl rfl zoy (Q0c hy))) ?_;refine .step rfl (zHP (zIA rfl rfl rfl zoy (Q1f hbk))) ?_;refine .step rfl (zHP (zLD rfl rfl hs2 rfl)) ?_;exact .step rfl (zHP (zIA rfl rfl rfl hap (Q15 hqa))) .nil
    ·exact .inl (.inr ⟨rfl,Q1m.call hΓt rfl rfl rfl rfl ziy hF.ok (Q4a e hE.l (y.withI ik1) s1 ov hF bk) fun r o2 hq _ _=>by obtain⟨y',kq,h1,h2,h3⟩:=hq;obtain⟨ik,rfl⟩:=h2.same;exact⟨ik,kq,o2,h1,h2,h3,rfl⟩⟩)
    ·rintro v σ ⟨ik,kq,o2,rfl,hst2,hik,rfl⟩;refine Qrb hΓt rfl rfl rfl rfl rfl rfl rfl ziy hst2.fr.ok (Q0x e hE.l ((y.withI ik1).withI ik) (s1) o2 hst2.fr (.idn bk,nodeR ak) kq qa hik hkqa (by simp[nodeR])) fun r ow hqq Qvd how=>?_;obtain⟨rfl,hst3⟩:=hqq;have Qw3:=Qzn hF hst2 hst3;refine zM ?_;refine cInv ⟨args.length - (j+1),(j+1,ik,ow),_root_.id,by omega,⟨⟨by omega,?_⟩,rfl⟩,Qzw rfl zFS zsy zLO rfl rfl how⟩;dsimp only;rw[Q6i,Q0k,Q0b hak1,Q0b hbk,←hs1e];exact Qzn h hU Qw3
   ·have hje:j=args.length:=by simp at hb2;omega
    subst hje;refine zA ?_;refine zdx 24 [(4,.one (.sl 1 (nC (words e) y.nk))),(6,.one (.box [aS (words e) qi])),(11,.one (.sl 1 (nC (words e) y.nk))),(15,.one (.sl 5 (e.map cEx))),(17,.one (.box (cEx yf))),(20,.one (.box [int kb])),(22,.one (.box [aS (words e) qb]))] ?_ ?_
    ·refine .step rfl (zHP (zLD rfl rfl hs1 rfl)) ?_;refine .step rfl (zHP (zIA rfl rfl rfl zoy (Q15 hqi))) ?_;refine .step rfl (zHP (zLD rfl rfl hs1 rfl)) ?_;refine .step rfl (zHP (zLD rfl rfl hs1 rfl)) ?_;refine .step rfl (zHP (zIA rfl rfl rfl zoy (Q0c hy))) ?_;refine .step rfl (zHP (zIA rfl rfl rfl zoy (Q1f hkb))) ?_;exact .step rfl (zHP (zIA rfl rfl rfl hkbp (Q15 hqb))) .nil
    refine Qrb hΓt rfl rfl rfl rfl rfl rfl rfl ziy hov (Q12 e hE.l (y.withI ik1) s1 ov hF (.node i,nodeR kb) qi qb hki hkqb) fun r ow hqq Qvd how=>?_;obtain⟨rfl,hst3⟩:=hqq;refine zA ?_;refine Qst rfl (Z46 rfl) zsy how ⟨rfl,y.withI ik1,?_⟩;rw[Q0k,←hs1e];exact Qzn h hU hst3
  ·have hbl:yf.binds.length≠args.length:=by simp at hb;omega
   have hl:Q22 e i args f=[]:=by unfold Q22;rw[if_neg hfe,hy];dsimp only;rw[if_neg hbl]
   rw[hl];refine zA ?_;exact Qst rfl (Z46 rfl) zsy hou ⟨rfl,y,Qzm h⟩
end Go.Proofs.YtlmokgooijbcdaaGreatDoor
namespace Go.CoreX
theorem Q8p:∀(l:List (Ref×Ref))(s:FSt)(r:Ref),(∀p∈l,p.1≠r)->(Q13 l s).1 r=s.1 r
 |[],s,r,_=>rfl
 |p::l,s,r,h=>by show (Q13 l (intoF p s)).1 r=s.1 r;rw[Q8p l _ r fun q hq=>h q (Z1q _ hq)];exact Q6k _ _ (Z3d (h p Z1r))
theorem Qka:∀p∈Q22 e i args f,p.1=.heap∨p.1=.node i∨∃b,p.1=.idn b:=fun p hp=>by
 unfold Q22 at hp;split at hp
 ·split at hp
  ·simp only[Z1p,Z28,or_false]at hp;rcases hp with rfl|rfl
   ·exact .inl rfl
   ·exact .inr (.inl rfl)
  ·simp at hp
 ·split at hp
  ·simp at hp
  ·split at hp
   ·rcases Z1m.1 hp with hp|hp
    ·obtain⟨k,_,rfl⟩:=Z1w.1 hp;exact .inr (.inr ⟨_,rfl⟩)
    ·simp at hp;subst hp;exact .inr (.inl rfl)
   ·simp at hp
def Q0t (e:List Ex)(σ:Ref->List Nat):Prop:=∀r f,Bit (σ r) f->f=e.length∨∃y,e[f]?=some y/\y.op=2
end Go.CoreX
namespace Go.Proofs.YtlmokgooijbcdaaGreatDoor
theorem call_ok(e:List Ex)(hE:FE e)(y:Lay)(s:FSt)(ou:Outer)(h:FlR e y s ou)(hG:Q0t e s.1)(hn:y.nk.length=e.length)(i:Nat)(x:Ex)(hx:e[i]?=some x)(h3:x.op=3):
  AFn Tryz.prog Γt 168 [.one (.ptr (.o y.ks) 0),.one (int (i:Nat)),.agg (cEx x)] ou (FlStQ e y s ((elems (s.1 (nodeR (x.kids.getD 0 0)))).flatMap (Q22 e i (x.kids.drop 1))) ou):=by
 have hxm:=Z1y hx;have hs:ou y.ks=some (.cells [.sl 5 (e.map cEx),.sl 1 (nC (words e) y.nk),.mp (.o y.km),aS (words e) y.kh,aS (words e) y.ka,.lit (.bool s.2)]):=h.so;have hsh:=hE.sh x hxm;rw[h3]at hsh;have hkl:=hsh.app.1;have hkl2:=hE.kl x hxm;obtain⟨k0,hk0⟩:∃k,x.kids[0]?=some k:=Q00 zoy;obtain⟨hk0p,hk0l,q0,hq0,hkq0⟩:=Q2e hE hn hx hk0;rw[Q0b hk0];obtain⟨args,hargs⟩:∃args,args=x.kids.drop 1:=⟨_,rfl⟩;rw[←hargs];have hdr:(x.kids.map cI).drop 1=args.map cI:=by rw[hargs,List.map_drop]
 have hW:=h.w (nodeR k0);have hall:=Ql2 (words e) (by have:=hE.l;unfold words;omega) (s.1 (nodeR k0)) hW q0 203 [] [.box [.ptr (.o y.ks) 0],.box [.sl 1 (args.map cI)],.box [int (i:Nat)]] trivial zsy
  (fun pre o1=>∃ik,FStep e y ou (Q13 (pre.flatMap (Q22 e i args)) s) (y.withI ik) o1)
  (fun pre o1 ⟨ik,hst⟩=>⟨by
   have h1:=hst.fr.ro (nodeR k0) q0 hkq0;rw[Q8p _ _ _ (fun p hp=>by
    obtain⟨f,_,hp⟩:=Z1u.1 hp;rcases Qka p hp with h2|h2|⟨b,h2⟩ <;> rw[h2]
    ·simp[nodeR]
    ·simp[nodeR];omega
    ·simp[nodeR])]at h1
   exact h1,hst.fr.ok⟩)
  (fun pre f o1 ⟨ik,hst⟩ hf=>by have hf2:=hG _ f (Qf4 hW.2 hf).2;refine (Qq3 e hE (y.withI ik) _ o1 hst.fr hn i x hx args hargs f hf2).mono fun r o2 hq=>?_;obtain⟨rfl,y',hst2⟩:=hq;obtain⟨ik2,rfl⟩:=hst2.same;refine⟨rfl,ik2,?_⟩;rw[Z0h,Qbf,List.flatMap_cons,List.flatMap_nil,Z02];exact Qzn h hst hst2) ou ⟨y.ik,Qzm h⟩
 refine zwk 22 Tryz.func168 fun hou=>?_;refine zA ?_;refine zS (Qt7 (b:=1) tabOk rfl rfl rfl rfl rfl rfl rfl (by rw[Z16];omega)) ?_;rw[hdr];refine zA ?_;refine Qyp (.l 0) 3 rfl rfl ?_;refine Qyp (.l 1) 4 rfl rfl ?_;refine Qyp (.l 3) 6 rfl rfl ?_;refine zdx 11 [(3,.one (.sl 1 (nC (words e) y.nk))),(6,.one (.box [int k0])),(8,.one (.box [aS (words e) q0]))] ?_ ?_
 ·refine .step rfl (zHP (zLD rfl rfl hs rfl)) ?_;refine .step rfl (zHP (zIA rfl rfl rfl zoy (Q1f hk0))) ?_;exact .step rfl (zHP (zIA rfl rfl rfl hk0p (Q15 hq0))) .nil
 refine Qrb hΓt rfl rfl rfl rfl rfl rfl rfl ziy hou hall fun r ow hqq Qvd how=>?_;obtain⟨rfl,ik,hst⟩:=hqq;refine zA ?_;exact Qst rfl (Z46 rfl) zsy how ⟨rfl,_,hst⟩
theorem Qoz(e:List Ex)(hE:FE e)(y:Lay)(s:FSt)(ou:Outer)(h:FlR e y s ou)(hG:Q0t e s.1)(hn:y.nk.length=e.length)(i:Nat)(n:Int)(b ks:List Int)(a:List Alt)(hx:e[i]?=some ⟨0,n,b,ks,a⟩):
  AFn Tryz.prog Γt 127 [.one (.ptr (.o y.ks) 0),.one (int (i:Nat)),.agg (cEx ⟨0,n,b,ks,a⟩)] ou (FlStQ e y s (opsOf e i ⟨0,n,b,ks,a⟩ s.1) ou):=by
 have hxm:=Z1y hx;have hsh:=hE.sh _ hxm;dsimp only at hsh;have hs:ou y.ks=some (.cells [.sl 5 (e.map cEx),.sl 1 (nC (words e) y.nk),.mp (.o y.km),aS (words e) y.kh,aS (words e) y.ka,.lit (.bool s.2)]):=h.so;obtain⟨qi,hqi,hki⟩:=Q2k hn hx;have Qwh:ks.length<=1048576:=hE.kl _ hxm;have Qwi:b.length<=1048576:=hE.bl _ hxm;obtain⟨X,hX⟩:∃X:Ex,X=⟨0,n,b,ks,a⟩:=⟨_,rfl⟩;have hl:opsOf e i ⟨0,n,b,ks,a⟩ s.1=[(.node i,.idn n)]:=by unfold opsOf;rw[if_pos rfl]
 rw[hl];refine zwk 185 Z3y fun hou=>?_;refine zA ?_;refine Qtm tabOk 12 11 [(4,.one (.sl 1 (nC (words e) y.nk))),(6,.one (.box [aS (words e) qi]))] (fun v σ=>∃(ik:Int->Option Nat) (kq:Nat) (o2:Outer),v=.one (aS (words e) kq)/\FStep e y ou s (y.withI ik) o2/\ik n=some kq/\σ=⟨1,[(0,.cells (cEx ⟨0,n,b,ks,a⟩))],o2⟩) follows zky rfl rfl zky zky rfl rfl rfl rfl ?_ ?_ ?_ ?_ ?_
 ·rintro v σ ⟨ik,kq,o2,_,_,_,rfl⟩;rfl
 ·refine .step rfl (zHP (zLD rfl rfl hs rfl)) ?_;exact .step rfl (zHP (zIA rfl rfl rfl zoy (Q15 hqi))) .nil
 ·rintro v σ ⟨ik,kq,o2,rfl,hst2,hik,rfl⟩;have hs2:=Qus hst2.fr;refine .step rfl (zHP (zLD rfl rfl hs2 rfl)) ?_;exact .step rfl (zHP (zIA rfl rfl rfl zoy (Q15 hqi))) .nil
 ·exact .inl (.inr ⟨rfl,Q1m.call hΓt rfl rfl rfl rfl ziy h.ok (Q4a e hE.l y s ou h n) fun r o2 hq _ _=>by obtain⟨y',kq,h1,h2,h3⟩:=hq;obtain⟨ik,rfl⟩:=h2.same;exact⟨ik,kq,o2,h1,h2,h3,rfl⟩⟩)
 ·rintro v σ ⟨ik,kq,o2,rfl,hst2,hik,rfl⟩;refine Qrb hΓt rfl rfl rfl rfl rfl rfl rfl ziy hst2.fr.ok (Q0x e hE.l (y.withI ik) s o2 hst2.fr (.node i,.idn n) qi kq hki hik zsy) fun r ow hqq Qvd how=>?_;obtain⟨rfl,hst3⟩:=hqq;have Qw3:=Qzn h hst2 hst3;refine zA ?_;exact Qst rfl (Z46 rfl) zsy how ⟨rfl,_,Qw3⟩
theorem Qp6(e:List Ex)(hE:FE e)(y:Lay)(s:FSt)(ou:Outer)(h:FlR e y s ou)(hG:Q0t e s.1)(hn:y.nk.length=e.length)(i:Nat)(n:Int)(b ks:List Int)(a:List Alt)(hx:e[i]?=some ⟨3,n,b,ks,a⟩):
  AFn Tryz.prog Γt 127 [.one (.ptr (.o y.ks) 0),.one (int (i:Nat)),.agg (cEx ⟨3,n,b,ks,a⟩)] ou (FlStQ e y s (opsOf e i ⟨3,n,b,ks,a⟩ s.1) ou):=by
 have hxm:=Z1y hx;have hsh:=hE.sh _ hxm;dsimp only at hsh;have hs:ou y.ks=some (.cells [.sl 5 (e.map cEx),.sl 1 (nC (words e) y.nk),.mp (.o y.km),aS (words e) y.kh,aS (words e) y.ka,.lit (.bool s.2)]):=h.so;obtain⟨qi,hqi,hki⟩:=Q2k hn hx;have Qwh:ks.length<=1048576:=hE.kl _ hxm;have Qwi:b.length<=1048576:=hE.bl _ hxm;obtain⟨X,hX⟩:∃X:Ex,X=⟨3,n,b,ks,a⟩:=⟨_,rfl⟩;have hl:opsOf e i ⟨3,n,b,ks,a⟩ s.1=(elems (s.1 (nodeR (ks.getD 0 0)))).flatMap (Q22 e i (ks.drop 1)):=by unfold opsOf;rw[if_neg zgy,if_pos rfl]
 rw[hl];refine zwk 185 Z3y fun hou=>?_;refine zA ?_;refine Qrb hΓt rfl rfl rfl rfl rfl rfl rfl ziy hou (call_ok e hE y s ou h hG hn i _ hx rfl) fun r ow hqq Qvd how=>?_;obtain⟨rfl,y',hst⟩:=hqq;refine zA ?_;exact Qst rfl (Z46 rfl) zsy how ⟨rfl,y',hst⟩
theorem Qlr(e:List Ex)(hE:FE e)(y:Lay)(s:FSt)(ou:Outer)(h:FlR e y s ou)(hG:Q0t e s.1)(hn:y.nk.length=e.length)(i:Nat)(n:Int)(b ks:List Int)(a:List Alt)(hx:e[i]?=some ⟨8,n,b,ks,a⟩):
  AFn Tryz.prog Γt 127 [.one (.ptr (.o y.ks) 0),.one (int (i:Nat)),.agg (cEx ⟨8,n,b,ks,a⟩)] ou (FlStQ e y s (opsOf e i ⟨8,n,b,ks,a⟩ s.1) ou):=by
 have hxm:=Z1y hx;have hsh:=hE.sh _ hxm;dsimp only at hsh;have hs:ou y.ks=some (.cells [.sl 5 (e.map cEx),.sl 1 (nC (words e) y.nk),.mp (.o y.km),aS (words e) y.kh,aS (words e) y.ka,.lit (.bool s.2)]):=h.so;obtain⟨qi,hqi,hki⟩:=Q2k hn hx;have Qwh:ks.length<=1048576:=hE.kl _ hxm;have Qwi:b.length<=1048576:=hE.bl _ hxm;obtain⟨X,hX⟩:∃X:Ex,X=⟨8,n,b,ks,a⟩:=⟨_,rfl⟩;have hl:opsOf e i ⟨8,n,b,ks,a⟩ s.1=Q31 i ⟨8,n,b,ks,a⟩:=by unfold opsOf;rw[if_neg zgy,if_neg zgy,if_neg zgy,if_neg zgy,if_neg zgy,if_pos rfl]
 rw[hl];refine zwk 185 Z3y fun hou=>?_;refine zA ?_;refine Qrb hΓt rfl rfl rfl rfl rfl rfl rfl ziy hou (prim_ok e hE y s ou h hn i _ hx rfl) fun r ow hqq Qvd how=>?_;obtain⟨rfl,y',hst⟩:=hqq;refine zA ?_;exact Qst rfl (Z46 rfl) zsy how ⟨rfl,y',hst⟩
theorem Qlv(e:List Ex)(hE:FE e)(y:Lay)(s:FSt)(ou:Outer)(h:FlR e y s ou)(hG:Q0t e s.1)(hn:y.nk.length=e.length)(i:Nat)(n:Int)(b ks:List Int)(a:List Alt)(hx:e[i]?=some ⟨7,n,b,ks,a⟩):
  AFn Tryz.prog Γt 127 [.one (.ptr (.o y.ks) 0),.one (int (i:Nat)),.agg (cEx ⟨7,n,b,ks,a⟩)] ou (FlStQ e y s (opsOf e i ⟨7,n,b,ks,a⟩ s.1) ou):=by
 have hxm:=Z1y hx;have hsh:=hE.sh _ hxm;dsimp only at hsh;have hs:ou y.ks=some (.cells [.sl 5 (e.map cEx),.sl 1 (nC (words e) y.nk),.mp (.o y.km),aS (words e) y.kh,aS (words e) y.ka,.lit (.bool s.2)]):=h.so;obtain⟨qi,hqi,hki⟩:=Q2k hn hx;have Qwh:ks.length<=1048576:=hE.kl _ hxm;have Qwi:b.length<=1048576:=hE.bl _ hxm;obtain⟨X,hX⟩:∃X:Ex,X=⟨7,n,b,ks,a⟩:=⟨_,rfl⟩;have hl:opsOf e i ⟨7,n,b,ks,a⟩ s.1=Q4o i ⟨7,n,b,ks,a⟩ a.length++(if (7:Int)=13 then [(.heap,.node i)]else []):=by unfold opsOf;rw[if_neg zgy,if_neg zgy,if_neg zgy,if_neg zgy,if_pos (.inl rfl)]
 rw[hl];refine zwk 185 Z3y fun hou=>?_;refine zA ?_;refine Qrb hΓt rfl rfl rfl rfl rfl rfl rfl ziy hou (Qaw e hE y s ou h hn i _ hx (.inl rfl)) fun r ow hqq Qvd how=>?_;obtain⟨rfl,y',hst⟩:=hqq;refine zA ?_;exact Qst rfl (Z46 rfl) zsy how ⟨rfl,y',hst⟩
theorem Qlu(e:List Ex)(hE:FE e)(y:Lay)(s:FSt)(ou:Outer)(h:FlR e y s ou)(hG:Q0t e s.1)(hn:y.nk.length=e.length)(i:Nat)(n:Int)(b ks:List Int)(a:List Alt)(hx:e[i]?=some ⟨13,n,b,ks,a⟩):
  AFn Tryz.prog Γt 127 [.one (.ptr (.o y.ks) 0),.one (int (i:Nat)),.agg (cEx ⟨13,n,b,ks,a⟩)] ou (FlStQ e y s (opsOf e i ⟨13,n,b,ks,a⟩ s.1) ou):=by
 have hxm:=Z1y hx;have hsh:=hE.sh _ hxm;dsimp only at hsh;have hs:ou y.ks=some (.cells [.sl 5 (e.map cEx),.sl 1 (nC (words e) y.nk),.mp (.o y.km),aS (words e) y.kh,aS (words e) y.ka,.lit (.bool s.2)]):=h.so;obtain⟨qi,hqi,hki⟩:=Q2k hn hx;have Qwh:ks.length<=1048576:=hE.kl _ hxm;have Qwi:b.length<=1048576:=hE.bl _ hxm;obtain⟨X,hX⟩:∃X:Ex,X=⟨13,n,b,ks,a⟩:=⟨_,rfl⟩;have hl:opsOf e i ⟨13,n,b,ks,a⟩ s.1=Q4o i ⟨13,n,b,ks,a⟩ a.length++(if (13:Int)=13 then [(.heap,.node i)]else []):=by unfold opsOf;rw[if_neg zgy,if_neg zgy,if_neg zgy,if_neg zgy,if_pos (.inr rfl)]
 rw[hl];refine zwk 185 Z3y fun hou=>?_;refine zA ?_;refine Qrb hΓt rfl rfl rfl rfl rfl rfl rfl ziy hou (Qaw e hE y s ou h hn i _ hx (.inr rfl)) fun r ow hqq Qvd how=>?_;obtain⟨rfl,y',hst⟩:=hqq;refine zA ?_;exact Qst rfl (Z46 rfl) zsy how ⟨rfl,y',hst⟩
theorem Qp3(e:List Ex)(hE:FE e)(y:Lay)(s:FSt)(ou:Outer)(h:FlR e y s ou)(hG:Q0t e s.1)(hn:y.nk.length=e.length)(i:Nat)(n:Int)(b ks:List Int)(a:List Alt)(hx:e[i]?=some ⟨4,n,b,ks,a⟩):
  AFn Tryz.prog Γt 127 [.one (.ptr (.o y.ks) 0),.one (int (i:Nat)),.agg (cEx ⟨4,n,b,ks,a⟩)] ou (FlStQ e y s (opsOf e i ⟨4,n,b,ks,a⟩ s.1) ou):=by
 have hxm:=Z1y hx;have hsh:=hE.sh _ hxm;dsimp only at hsh;have hs:ou y.ks=some (.cells [.sl 5 (e.map cEx),.sl 1 (nC (words e) y.nk),.mp (.o y.km),aS (words e) y.kh,aS (words e) y.ka,.lit (.bool s.2)]):=h.so;obtain⟨qi,hqi,hki⟩:=Q2k hn hx;have Qwh:ks.length<=1048576:=hE.kl _ hxm;have Qwi:b.length<=1048576:=hE.bl _ hxm;obtain⟨X,hX⟩:∃X:Ex,X=⟨4,n,b,ks,a⟩:=⟨_,rfl⟩;have hkl:b.length < ks.length:=by obtain⟨h1,h2,_⟩:=hsh.lett;omega
 obtain⟨kl,hkl1⟩:∃k,ks[ks.length - 1]?=some k:=Q00 zoy;obtain⟨hklp,_,ql,hql,hkql⟩:=Q2e hE hn hx hkl1;have hl:opsOf e i ⟨4,n,b,ks,a⟩ s.1=Q3i b ks b.length++[(.node i,nodeR kl)]:=by unfold opsOf;rw[if_neg zgy,if_neg zgy,if_pos (.inl rfl)];dsimp only;rw[Q0b hkl1]
 rw[hl];refine zwk 185 Z3y fun hou=>?_;refine zA ?_;refine Qre hΓt (α:=Nat×(Int->Option Nat)×Outer) (fun c=>[(39,.one (int c.1)),(38,.one (int (b.map cI).length)),(37,.one (.sl 1 (b.map cI))),(5,.one (.ptr (.l 0) 0)),(0,.one (.ptr (.o y.ks) 0)),(1,.one (int (i:Nat)))]) (fun c=>⟨1,[(0,.cells (cEx ⟨4,n,b,ks,a⟩))],c.2.2⟩)
  (fun m c=>(c.1<=b.length/\FStep e y ou (Q13 (Q3i b ks c.1) s) (y.withI c.2.1) c.2.2)/\m=b.length - c.1)
  (a0:=(0,y.ik,ou)) (ρ:=_root_.id) ⟨⟨by omega,Qzm h⟩,rfl⟩ (Qzw rfl zFS zsy zLO rfl rfl hou) fun m c hc=>?_
 obtain⟨j,ik1,ov⟩:=c;obtain⟨⟨hjl,hU⟩,rfl⟩:=hc;dsimp only at hjl hU;have hov:=hU.fr.ok;obtain⟨s1,hs1e⟩:∃s1,s1=Q13 (Q3i b ks j) s:=⟨_,rfl⟩;rw[←hs1e]at hU;have hF:=hU.fr;have hs1:ov y.ks=some (.cells [.sl 5 (e.map cEx),.sl 1 (nC (words e) y.nk),.mp (.o y.km),aS (words e) y.kh,aS (words e) y.ka,.lit (.bool s1.2)]):=by have h0:=Qus hF;exact h0
 refine zA ?_;refine Qyl rfl (fun hb2=>?_) (fun hb2=>?_)
 ·have Qvg:j < b.length:=by simp at hb2;omega
  obtain⟨bk,hbk⟩:=Q00 Qvg;obtain⟨kk,hkk⟩:∃kk,ks[j]?=some kk:=Q00 zoy;obtain⟨hkp,hkk2,qk,hqk,hkqk⟩:=Q2e hE hn hx hkk;refine zA ?_;refine zS (zIA rfl rfl rfl zoy (Q1f hbk)) ?_;refine zA ?_;refine Qtm tabOk 15 3 [(7,.one (.sl 1 (nC (words e) y.nk))),(11,.one (.box [int kk])),(13,.one (.box [aS (words e) qk]))] (fun v σ=>∃(ik:Int->Option Nat) (kq:Nat) (o2:Outer),v=.one (aS (words e) kq)/\FStep e (y.withI ik1) ov s1 ((y.withI ik1).withI ik) o2/\ik bk=some kq/\σ=⟨1,[(0,.cells (cEx ⟨4,n,b,ks,a⟩))],o2⟩) follows zky rfl rfl zky zky rfl rfl rfl rfl ?_ ?_ ?_ ?_ ?_
  ·rintro v σ ⟨ik,kq,o2,_,_,_,rfl⟩;rfl
  ·refine .step rfl (zHP (zLD rfl rfl hs1 rfl)) ?_;refine .step rfl (zHP (zIA rfl rfl rfl zoy (Q1f hkk))) ?_;exact .step rfl (zHP (zIA rfl rfl rfl hkp (Q15 hqk))) .nil
  ·rintro v σ ⟨ik,kq,o2,rfl,hst2,hik,rfl⟩;have hs2:=Qus hst2.fr;refine .step rfl (zHP (zLD rfl rfl hs2 rfl)) ?_;refine .step rfl (zHP (zIA rfl rfl rfl zoy (Q1f hkk))) ?_;exact .step rfl (zHP (zIA rfl rfl rfl hkp (Q15 hqk))) .nil
  ·exact .inl (.inr ⟨rfl,Q1m.call hΓt rfl rfl rfl rfl ziy hF.ok (Q4a e hE.l (y.withI ik1) s1 ov hF bk) fun r o2 hq _ _=>by obtain⟨y',kq,h1,h2,h3⟩:=hq;obtain⟨ik,rfl⟩:=h2.same;exact⟨ik,kq,o2,h1,h2,h3,rfl⟩⟩)
  ·rintro v σ ⟨ik,kq,o2,rfl,hst2,hik,rfl⟩;refine Qrb hΓt rfl rfl rfl rfl rfl rfl rfl ziy hst2.fr.ok (Q0x e hE.l ((y.withI ik1).withI ik) (s1) o2 hst2.fr (.idn bk,nodeR kk) kq qk hik hkqk (by simp[nodeR])) fun r ow hqq Qvd how=>?_;obtain⟨rfl,hst3⟩:=hqq;have Qw3:=Qzn hF hst2 hst3;refine zM ?_;refine cInv ⟨b.length - (j+1),(j+1,ik,ow),_root_.id,by omega,⟨⟨by omega,?_⟩,rfl⟩,Qzw rfl zFS zsy zLO rfl rfl how⟩;dsimp only;rw[Q6i,Q0k,Q0b hkk,Q0b hbk,←hs1e];exact Qzn h hU Qw3
 ·have hje:j=b.length:=by simp at hb2;omega
  subst hje;refine zA ?_;refine zdx 22 [(4,.one (.sl 1 (nC (words e) y.nk))),(6,.one (.box [aS (words e) qi])),(11,.one (.sl 1 (nC (words e) y.nk))),(17,.one (int ((ks.length - 1:Nat):Int))),(18,.one (.box [int kl])),(20,.one (.box [aS (words e) ql]))] ?_ ?_
  ·refine .step rfl (zHP (zLD rfl rfl hs1 rfl)) ?_;refine .step rfl (zHP (zIA rfl rfl rfl zoy (Q15 hqi))) ?_;refine .step rfl (zHP (zLD rfl rfl hs1 rfl)) ?_;refine .step rfl (zHP (Qr0 (r:=((ks.length - 1:Nat):Int)) rfl rfl rfl (.inr (.inl ⟨rfl,by simp;omega⟩)) zI)) ?_;refine .step rfl (zHP (zIA rfl rfl rfl zoy (Q1f hkl1))) ?_;exact .step rfl (zHP (zIA rfl rfl rfl hklp (Q15 hql))) .nil
  refine Qrb hΓt rfl rfl rfl rfl rfl rfl rfl ziy hov (Q12 e hE.l (y.withI ik1) s1 ov hF (.node i,nodeR kl) qi ql hki hkql) fun r ow hqq Qvd how=>?_;obtain⟨rfl,hst3⟩:=hqq;refine zA ?_;refine Qst rfl (Z46 rfl) zsy how ⟨rfl,y.withI ik1,?_⟩;rw[Q0k,←hs1e];exact Qzn h hU hst3
theorem Qp2(e:List Ex)(hE:FE e)(y:Lay)(s:FSt)(ou:Outer)(h:FlR e y s ou)(hG:Q0t e s.1)(hn:y.nk.length=e.length)(i:Nat)(n:Int)(b ks:List Int)(a:List Alt)(hx:e[i]?=some ⟨5,n,b,ks,a⟩):
  AFn Tryz.prog Γt 127 [.one (.ptr (.o y.ks) 0),.one (int (i:Nat)),.agg (cEx ⟨5,n,b,ks,a⟩)] ou (FlStQ e y s (opsOf e i ⟨5,n,b,ks,a⟩ s.1) ou):=by
 have hxm:=Z1y hx;have hsh:=hE.sh _ hxm;dsimp only at hsh;have hs:ou y.ks=some (.cells [.sl 5 (e.map cEx),.sl 1 (nC (words e) y.nk),.mp (.o y.km),aS (words e) y.kh,aS (words e) y.ka,.lit (.bool s.2)]):=h.so;obtain⟨qi,hqi,hki⟩:=Q2k hn hx;have Qwh:ks.length<=1048576:=hE.kl _ hxm;have Qwi:b.length<=1048576:=hE.bl _ hxm;obtain⟨X,hX⟩:∃X:Ex,X=⟨5,n,b,ks,a⟩:=⟨_,rfl⟩;have hkl:b.length < ks.length:=by obtain⟨h1,h2,_⟩:=hsh.recs;omega
 obtain⟨kl,hkl1⟩:∃k,ks[ks.length - 1]?=some k:=Q00 zoy;obtain⟨hklp,_,ql,hql,hkql⟩:=Q2e hE hn hx hkl1;have hl:opsOf e i ⟨5,n,b,ks,a⟩ s.1=Q3i b ks b.length++[(.node i,nodeR kl)]:=by unfold opsOf;rw[if_neg zgy,if_neg zgy,if_pos (.inr rfl)];dsimp only;rw[Q0b hkl1]
 rw[hl];refine zwk 185 Z3y fun hou=>?_;refine zA ?_;refine Qre hΓt (α:=Nat×(Int->Option Nat)×Outer) (fun c=>[(39,.one (int c.1)),(38,.one (int (b.map cI).length)),(37,.one (.sl 1 (b.map cI))),(5,.one (.ptr (.l 0) 0)),(0,.one (.ptr (.o y.ks) 0)),(1,.one (int (i:Nat)))]) (fun c=>⟨1,[(0,.cells (cEx ⟨5,n,b,ks,a⟩))],c.2.2⟩)
  (fun m c=>(c.1<=b.length/\FStep e y ou (Q13 (Q3i b ks c.1) s) (y.withI c.2.1) c.2.2)/\m=b.length - c.1)
  (a0:=(0,y.ik,ou)) (ρ:=_root_.id) ⟨⟨by omega,Qzm h⟩,rfl⟩ (Qzw rfl zFS zsy zLO rfl rfl hou) fun m c hc=>?_
 obtain⟨j,ik1,ov⟩:=c;obtain⟨⟨hjl,hU⟩,rfl⟩:=hc;dsimp only at hjl hU;have hov:=hU.fr.ok;obtain⟨s1,hs1e⟩:∃s1,s1=Q13 (Q3i b ks j) s:=⟨_,rfl⟩;rw[←hs1e]at hU;have hF:=hU.fr;have hs1:ov y.ks=some (.cells [.sl 5 (e.map cEx),.sl 1 (nC (words e) y.nk),.mp (.o y.km),aS (words e) y.kh,aS (words e) y.ka,.lit (.bool s1.2)]):=by have h0:=Qus hF;exact h0
 refine zA ?_;refine Qyl rfl (fun hb2=>?_) (fun hb2=>?_)
 ·have Qvg:j < b.length:=by simp at hb2;omega
  obtain⟨bk,hbk⟩:=Q00 Qvg;obtain⟨kk,hkk⟩:∃kk,ks[j]?=some kk:=Q00 zoy;obtain⟨hkp,hkk2,qk,hqk,hkqk⟩:=Q2e hE hn hx hkk;refine zA ?_;refine zS (zIA rfl rfl rfl zoy (Q1f hbk)) ?_;refine zA ?_;refine Qtm tabOk 15 3 [(7,.one (.sl 1 (nC (words e) y.nk))),(11,.one (.box [int kk])),(13,.one (.box [aS (words e) qk]))] (fun v σ=>∃(ik:Int->Option Nat) (kq:Nat) (o2:Outer),v=.one (aS (words e) kq)/\FStep e (y.withI ik1) ov s1 ((y.withI ik1).withI ik) o2/\ik bk=some kq/\σ=⟨1,[(0,.cells (cEx ⟨5,n,b,ks,a⟩))],o2⟩) follows zky rfl rfl zky zky rfl rfl rfl rfl ?_ ?_ ?_ ?_ ?_
  ·rintro v σ ⟨ik,kq,o2,_,_,_,rfl⟩;rfl
  ·refine .step rfl (zHP (zLD rfl rfl hs1 rfl)) ?_;refine .step rfl (zHP (zIA rfl rfl rfl zoy (Q1f hkk))) ?_;exact .step rfl (zHP (zIA rfl rfl rfl hkp (Q15 hqk))) .nil
  ·rintro v σ ⟨ik,kq,o2,rfl,hst2,hik,rfl⟩;have hs2:=Qus hst2.fr;refine .step rfl (zHP (zLD rfl rfl hs2 rfl)) ?_;refine .step rfl (zHP (zIA rfl rfl rfl zoy (Q1f hkk))) ?_;exact .step rfl (zHP (zIA rfl rfl rfl hkp (Q15 hqk))) .nil
  ·exact .inl (.inr ⟨rfl,Q1m.call hΓt rfl rfl rfl rfl ziy hF.ok (Q4a e hE.l (y.withI ik1) s1 ov hF bk) fun r o2 hq _ _=>by obtain⟨y',kq,h1,h2,h3⟩:=hq;obtain⟨ik,rfl⟩:=h2.same;exact⟨ik,kq,o2,h1,h2,h3,rfl⟩⟩)
  ·rintro v σ ⟨ik,kq,o2,rfl,hst2,hik,rfl⟩;refine Qrb hΓt rfl rfl rfl rfl rfl rfl rfl ziy hst2.fr.ok (Q0x e hE.l ((y.withI ik1).withI ik) (s1) o2 hst2.fr (.idn bk,nodeR kk) kq qk hik hkqk (by simp[nodeR])) fun r ow hqq Qvd how=>?_;obtain⟨rfl,hst3⟩:=hqq;have Qw3:=Qzn hF hst2 hst3;refine zM ?_;refine cInv ⟨b.length - (j+1),(j+1,ik,ow),_root_.id,by omega,⟨⟨by omega,?_⟩,rfl⟩,Qzw rfl zFS zsy zLO rfl rfl how⟩;dsimp only;rw[Q6i,Q0k,Q0b hkk,Q0b hbk,←hs1e];exact Qzn h hU Qw3
 ·have hje:j=b.length:=by simp at hb2;omega
  subst hje;refine zA ?_;refine zdx 22 [(4,.one (.sl 1 (nC (words e) y.nk))),(6,.one (.box [aS (words e) qi])),(11,.one (.sl 1 (nC (words e) y.nk))),(17,.one (int ((ks.length - 1:Nat):Int))),(18,.one (.box [int kl])),(20,.one (.box [aS (words e) ql]))] ?_ ?_
  ·refine .step rfl (zHP (zLD rfl rfl hs1 rfl)) ?_;refine .step rfl (zHP (zIA rfl rfl rfl zoy (Q15 hqi))) ?_;refine .step rfl (zHP (zLD rfl rfl hs1 rfl)) ?_;refine .step rfl (zHP (Qr0 (r:=((ks.length - 1:Nat):Int)) rfl rfl rfl (.inr (.inl ⟨rfl,by simp;omega⟩)) zI)) ?_;refine .step rfl (zHP (zIA rfl rfl rfl zoy (Q1f hkl1))) ?_;exact .step rfl (zHP (zIA rfl rfl rfl hklp (Q15 hql))) .nil
  refine Qrb hΓt rfl rfl rfl rfl rfl rfl rfl ziy hov (Q12 e hE.l (y.withI ik1) s1 ov hF (.node i,nodeR kl) qi ql hki hkql) fun r ow hqq Qvd how=>?_;obtain⟨rfl,hst3⟩:=hqq;refine zA ?_;refine Qst rfl (Z46 rfl) zsy how ⟨rfl,y.withI ik1,?_⟩;rw[Q0k,←hs1e];exact Qzn h hU hst3
theorem Qp5(e:List Ex)(hE:FE e)(y:Lay)(s:FSt)(ou:Outer)(h:FlR e y s ou)(hG:Q0t e s.1)(hn:y.nk.length=e.length)(i:Nat)(n:Int)(b ks:List Int)(a:List Alt)(hx:e[i]?=some ⟨6,n,b,ks,a⟩):
  AFn Tryz.prog Γt 127 [.one (.ptr (.o y.ks) 0),.one (int (i:Nat)),.agg (cEx ⟨6,n,b,ks,a⟩)] ou (FlStQ e y s (opsOf e i ⟨6,n,b,ks,a⟩ s.1) ou):=by
 have hxm:=Z1y hx;have hsh:=hE.sh _ hxm;dsimp only at hsh;have hs:ou y.ks=some (.cells [.sl 5 (e.map cEx),.sl 1 (nC (words e) y.nk),.mp (.o y.km),aS (words e) y.kh,aS (words e) y.ka,.lit (.bool s.2)]):=h.so;obtain⟨qi,hqi,hki⟩:=Q2k hn hx;have Qwh:ks.length<=1048576:=hE.kl _ hxm;have Qwi:b.length<=1048576:=hE.bl _ hxm;obtain⟨X,hX⟩:∃X:Ex,X=⟨6,n,b,ks,a⟩:=⟨_,rfl⟩;have hl:opsOf e i ⟨6,n,b,ks,a⟩ s.1=Q3f ⟨6,n,b,ks,a⟩ ks.length:=by unfold opsOf;rw[if_neg zgy,if_neg zgy,if_neg zgy,if_pos (.inl rfl)]
 rw[hl];refine zwk 185 Z3y fun hou=>?_;refine zA ?_;refine Qre hΓt (α:=Nat×Outer) (fun c=>[(90,.one (int c.1)),(89,.one (int (ks.map cI).length)),(88,.one (.sl 1 (ks.map cI))),(0,.one (.ptr (.o y.ks) 0)),(1,.one (int (i:Nat)))]) (fun c=>⟨0,[],c.2⟩)
  (fun m c=>(c.1<=ks.length/\FStep e y ou (Q13 (Q3f ⟨6,n,b,ks,a⟩ c.1) s) y c.2)/\m=ks.length - c.1)
  (a0:=(0,ou)) (ρ:=_root_.id) ⟨⟨by omega,Qzm h⟩,rfl⟩ (Qzw rfl zFS zsy zLO rfl rfl hou) fun m c hc=>?_
 obtain⟨j,ov⟩:=c;obtain⟨⟨hjl,hU⟩,rfl⟩:=hc;dsimp only at hjl hU;have hov:=hU.fr.ok;obtain⟨s1,hs1e⟩:∃s1,s1=Q13 (Q3f ⟨6,n,b,ks,a⟩ j) s:=⟨_,rfl⟩;rw[←hs1e]at hU;have hF:=hU.fr;have hs1:ov y.ks=some (.cells [.sl 5 (e.map cEx),.sl 1 (nC (words e) y.nk),.mp (.o y.km),aS (words e) y.kh,aS (words e) y.ka,.lit (.bool s1.2)]):=by have h0:=Qus hF;exact h0
 refine zA ?_;refine Qyl rfl (fun hb2=>?_) (fun hb2=>?_)
 ·have Qvg:j < ks.length:=by simp at hb2;omega
  obtain⟨kk,hkk⟩:=Q00 Qvg;obtain⟨hkp,hkk2,qk,hqk,hkqk⟩:=Q2e hE hn hx hkk;refine zA ?_;refine zS (zIA rfl rfl rfl zoy (Q1f hkk)) ?_;refine zA ?_;refine zdx 12 [(4,.one (aS (words e) y.kh)),(8,.one (.sl 1 (nC (words e) y.nk))),(10,.one (.box [aS (words e) qk]))] ?_ ?_
  ·refine .step rfl (zHP (zLD rfl rfl hs1 rfl)) ?_;refine .step rfl (zHP (zLD rfl rfl hs1 rfl)) ?_;exact .step rfl (zHP (zIA rfl rfl rfl hkp (Q15 hqk))) .nil
  refine Qrb hΓt rfl rfl rfl rfl rfl rfl rfl ziy hov (Q12 e hE.l y s1 ov hF (.heap,nodeR kk) y.kh qk rfl hkqk) fun r ow hqq Qvd how=>?_;obtain⟨rfl,hst3⟩:=hqq;refine zM ?_;refine cInv ⟨ks.length - (j+1),(j+1,ow),_root_.id,by omega,⟨⟨by omega,?_⟩,rfl⟩,Qzw rfl zFS zsy zLO rfl rfl how⟩;dsimp only;rw[Q8y,Q0k,Q0b hkk,←hs1e];exact Qzn h hU hst3
 ·have hje:j=ks.length:=by simp at hb2;omega
  subst hje;refine zA ?_;refine Qst rfl (Z46 rfl) zsy hov ⟨rfl,y,?_⟩;rw[←hs1e];exact hU
theorem Qp1(e:List Ex)(hE:FE e)(y:Lay)(s:FSt)(ou:Outer)(h:FlR e y s ou)(hG:Q0t e s.1)(hn:y.nk.length=e.length)(i:Nat)(n:Int)(b ks:List Int)(a:List Alt)(hx:e[i]?=some ⟨9,n,b,ks,a⟩):
  AFn Tryz.prog Γt 127 [.one (.ptr (.o y.ks) 0),.one (int (i:Nat)),.agg (cEx ⟨9,n,b,ks,a⟩)] ou (FlStQ e y s (opsOf e i ⟨9,n,b,ks,a⟩ s.1) ou):=by
 have hxm:=Z1y hx;have hsh:=hE.sh _ hxm;dsimp only at hsh;have hs:ou y.ks=some (.cells [.sl 5 (e.map cEx),.sl 1 (nC (words e) y.nk),.mp (.o y.km),aS (words e) y.kh,aS (words e) y.ka,.lit (.bool s.2)]):=h.so;obtain⟨qi,hqi,hki⟩:=Q2k hn hx;have Qwh:ks.length<=1048576:=hE.kl _ hxm;have Qwi:b.length<=1048576:=hE.bl _ hxm;obtain⟨X,hX⟩:∃X:Ex,X=⟨9,n,b,ks,a⟩:=⟨_,rfl⟩;have hl:opsOf e i ⟨9,n,b,ks,a⟩ s.1=Q3f ⟨9,n,b,ks,a⟩ ks.length:=by unfold opsOf;rw[if_neg zgy,if_neg zgy,if_neg zgy,if_pos (.inr rfl)]
 rw[hl];refine zwk 185 Z3y fun hou=>?_;refine zA ?_;refine Qre hΓt (α:=Nat×Outer) (fun c=>[(90,.one (int c.1)),(89,.one (int (ks.map cI).length)),(88,.one (.sl 1 (ks.map cI))),(0,.one (.ptr (.o y.ks) 0)),(1,.one (int (i:Nat)))]) (fun c=>⟨0,[],c.2⟩)
  (fun m c=>(c.1<=ks.length/\FStep e y ou (Q13 (Q3f ⟨9,n,b,ks,a⟩ c.1) s) y c.2)/\m=ks.length - c.1)
  (a0:=(0,ou)) (ρ:=_root_.id) ⟨⟨by omega,Qzm h⟩,rfl⟩ (Qzw rfl zFS zsy zLO rfl rfl hou) fun m c hc=>?_
 obtain⟨j,ov⟩:=c;obtain⟨⟨hjl,hU⟩,rfl⟩:=hc;dsimp only at hjl hU;have hov:=hU.fr.ok;obtain⟨s1,hs1e⟩:∃s1,s1=Q13 (Q3f ⟨9,n,b,ks,a⟩ j) s:=⟨_,rfl⟩;rw[←hs1e]at hU;have hF:=hU.fr;have hs1:ov y.ks=some (.cells [.sl 5 (e.map cEx),.sl 1 (nC (words e) y.nk),.mp (.o y.km),aS (words e) y.kh,aS (words e) y.ka,.lit (.bool s1.2)]):=by have h0:=Qus hF;exact h0
 refine zA ?_;refine Qyl rfl (fun hb2=>?_) (fun hb2=>?_)
 ·have Qvg:j < ks.length:=by simp at hb2;omega
  obtain⟨kk,hkk⟩:=Q00 Qvg;obtain⟨hkp,hkk2,qk,hqk,hkqk⟩:=Q2e hE hn hx hkk;refine zA ?_;refine zS (zIA rfl rfl rfl zoy (Q1f hkk)) ?_;refine zA ?_;refine zdx 12 [(4,.one (aS (words e) y.kh)),(8,.one (.sl 1 (nC (words e) y.nk))),(10,.one (.box [aS (words e) qk]))] ?_ ?_
  ·refine .step rfl (zHP (zLD rfl rfl hs1 rfl)) ?_;refine .step rfl (zHP (zLD rfl rfl hs1 rfl)) ?_;exact .step rfl (zHP (zIA rfl rfl rfl hkp (Q15 hqk))) .nil
  refine Qrb hΓt rfl rfl rfl rfl rfl rfl rfl ziy hov (Q12 e hE.l y s1 ov hF (.heap,nodeR kk) y.kh qk rfl hkqk) fun r ow hqq Qvd how=>?_;obtain⟨rfl,hst3⟩:=hqq;refine zM ?_;refine cInv ⟨ks.length - (j+1),(j+1,ow),_root_.id,by omega,⟨⟨by omega,?_⟩,rfl⟩,Qzw rfl zFS zsy zLO rfl rfl how⟩;dsimp only;rw[Q8y,Q0k,Q0b hkk,←hs1e];exact Qzn h hU hst3
 ·have hje:j=ks.length:=by simp at hb2;omega
  subst hje;refine zA ?_;refine Qst rfl (Z46 rfl) zsy hov ⟨rfl,y,?_⟩;rw[←hs1e];exact hU
theorem Qp0(e:List Ex)(hE:FE e)(y:Lay)(s:FSt)(ou:Outer)(h:FlR e y s ou)(hG:Q0t e s.1)(hn:y.nk.length=e.length)(i:Nat)(n:Int)(b ks:List Int)(a:List Alt)(hx:e[i]?=some ⟨11,n,b,ks,a⟩):
  AFn Tryz.prog Γt 127 [.one (.ptr (.o y.ks) 0),.one (int (i:Nat)),.agg (cEx ⟨11,n,b,ks,a⟩)] ou (FlStQ e y s (opsOf e i ⟨11,n,b,ks,a⟩ s.1) ou):=by
 have hxm:=Z1y hx;have hsh:=hE.sh _ hxm;dsimp only at hsh;have hs:ou y.ks=some (.cells [.sl 5 (e.map cEx),.sl 1 (nC (words e) y.nk),.mp (.o y.km),aS (words e) y.kh,aS (words e) y.ka,.lit (.bool s.2)]):=h.so;obtain⟨qi,hqi,hki⟩:=Q2k hn hx;have Qwh:ks.length<=1048576:=hE.kl _ hxm;have Qwi:b.length<=1048576:=hE.bl _ hxm;obtain⟨X,hX⟩:∃X:Ex,X=⟨11,n,b,ks,a⟩:=⟨_,rfl⟩;have hkl:=hsh.two.1;obtain⟨kk,hkk⟩:∃kk,ks[1]?=some kk:=Q00 zoy;obtain⟨hkp,hkk2,qk,hqk,hkqk⟩:=Q2e hE hn hx hkk;have hl:opsOf e i ⟨11,n,b,ks,a⟩ s.1=[(.heap,nodeR kk)]:=by unfold opsOf;rw[if_neg zgy,if_neg zgy,if_neg zgy,if_neg zgy,if_neg zgy,if_neg zgy,if_pos rfl];dsimp only;rw[Q0b hkk]
 rw[hl];refine zwk 185 Z3y fun hou=>?_;refine zA ?_;refine zdx 15 [(4,.one (aS (words e) y.kh)),(8,.one (.sl 1 (nC (words e) y.nk))),(11,.one (.box [int kk])),(13,.one (.box [aS (words e) qk]))] ?_ ?_
 ·refine .step rfl (zHP (zLD rfl rfl hs rfl)) ?_;refine .step rfl (zHP (zLD rfl rfl hs rfl)) ?_;refine .step rfl (zHP (zIA rfl rfl rfl zoy (Q1f hkk))) ?_;exact .step rfl (zHP (zIA rfl rfl rfl hkp (Q15 hqk))) .nil
 refine Qrb hΓt rfl rfl rfl rfl rfl rfl rfl ziy hou (Q12 e hE.l y s ou h (.heap,nodeR kk) y.kh qk rfl hkqk) fun r ow hqq Qvd how=>?_;obtain⟨rfl,hst⟩:=hqq;refine zA ?_;exact Qst rfl (Z46 rfl) zsy how ⟨rfl,y,hst⟩
theorem Qp4(e:List Ex)(hE:FE e)(y:Lay)(s:FSt)(ou:Outer)(h:FlR e y s ou)(hG:Q0t e s.1)(hn:y.nk.length=e.length)(i:Nat)(n:Int)(b ks:List Int)(a:List Alt)(hx:e[i]?=some ⟨10,n,b,ks,a⟩):
  AFn Tryz.prog Γt 127 [.one (.ptr (.o y.ks) 0),.one (int (i:Nat)),.agg (cEx ⟨10,n,b,ks,a⟩)] ou (FlStQ e y s (opsOf e i ⟨10,n,b,ks,a⟩ s.1) ou):=by
 have hxm:=Z1y hx;have hsh:=hE.sh _ hxm;dsimp only at hsh;have hs:ou y.ks=some (.cells [.sl 5 (e.map cEx),.sl 1 (nC (words e) y.nk),.mp (.o y.km),aS (words e) y.kh,aS (words e) y.ka,.lit (.bool s.2)]):=h.so;obtain⟨qi,hqi,hki⟩:=Q2k hn hx;have Qwh:ks.length<=1048576:=hE.kl _ hxm;have Qwi:b.length<=1048576:=hE.bl _ hxm;obtain⟨X,hX⟩:∃X:Ex,X=⟨10,n,b,ks,a⟩:=⟨_,rfl⟩;have hl:opsOf e i ⟨10,n,b,ks,a⟩ s.1=[(.node i,.heap)]:=by unfold opsOf;rw[if_neg zgy,if_neg zgy,if_neg zgy,if_neg zgy,if_neg zgy,if_neg zgy,if_neg zgy,if_neg zgy,if_pos rfl]
 rw[hl];refine zwk 185 Z3y fun hou=>?_;refine zA ?_;refine zdx 12 [(4,.one (.sl 1 (nC (words e) y.nk))),(6,.one (.box [aS (words e) qi])),(11,.one (aS (words e) y.kh))] ?_ ?_
 ·refine .step rfl (zHP (zLD rfl rfl hs rfl)) ?_;refine .step rfl (zHP (zIA rfl rfl rfl zoy (Q15 hqi))) ?_;exact .step rfl (zHP (zLD rfl rfl hs rfl)) .nil
 refine Qrb hΓt rfl rfl rfl rfl rfl rfl rfl ziy hou (Q12 e hE.l y s ou h (.node i,.heap) qi y.kh hki rfl) fun r ow hqq Qvd how=>?_;obtain⟨rfl,hst⟩:=hqq;refine zA ?_;exact Qst rfl (Z46 rfl) zsy how ⟨rfl,y,hst⟩
theorem Qls(e:List Ex)(hE:FE e)(y:Lay)(s:FSt)(ou:Outer)(h:FlR e y s ou)(hG:Q0t e s.1)(hn:y.nk.length=e.length)(i:Nat)(n:Int)(b ks:List Int)(a:List Alt)(hx:e[i]?=some ⟨12,n,b,ks,a⟩):
  AFn Tryz.prog Γt 127 [.one (.ptr (.o y.ks) 0),.one (int (i:Nat)),.agg (cEx ⟨12,n,b,ks,a⟩)] ou (FlStQ e y s (opsOf e i ⟨12,n,b,ks,a⟩ s.1) ou):=by
 have hxm:=Z1y hx;have hsh:=hE.sh _ hxm;dsimp only at hsh;have hs:ou y.ks=some (.cells [.sl 5 (e.map cEx),.sl 1 (nC (words e) y.nk),.mp (.o y.km),aS (words e) y.kh,aS (words e) y.ka,.lit (.bool s.2)]):=h.so;obtain⟨qi,hqi,hki⟩:=Q2k hn hx;have Qwh:ks.length<=1048576:=hE.kl _ hxm;have Qwi:b.length<=1048576:=hE.bl _ hxm;obtain⟨X,hX⟩:∃X:Ex,X=⟨12,n,b,ks,a⟩:=⟨_,rfl⟩;have hkl:=(hsh.one (.inr (.inl rfl))).1;obtain⟨kk,hkk⟩:∃kk,ks[0]?=some kk:=Q00 zoy;obtain⟨hkp,hkk2,qk,hqk,hkqk⟩:=Q2e hE hn hx hkk;have hl:opsOf e i ⟨12,n,b,ks,a⟩ s.1=[(.heap,nodeR kk)]++[(.node i,.heap)]:=by unfold opsOf;rw[if_neg zgy,if_neg zgy,if_neg zgy,if_neg zgy,if_neg zgy,if_neg zgy,if_neg zgy,if_pos rfl];dsimp only;rw[Q0b hkk];rfl
 rw[hl];refine zwk 185 Z3y fun hou=>?_;refine zA ?_;refine zdx 15 [(4,.one (aS (words e) y.kh)),(8,.one (.sl 1 (nC (words e) y.nk))),(11,.one (.box [int kk])),(13,.one (.box [aS (words e) qk]))] ?_ ?_
 ·refine .step rfl (zHP (zLD rfl rfl hs rfl)) ?_;refine .step rfl (zHP (zLD rfl rfl hs rfl)) ?_;refine .step rfl (zHP (zIA rfl rfl rfl zoy (Q1f hkk))) ?_;exact .step rfl (zHP (zIA rfl rfl rfl hkp (Q15 hqk))) .nil
 refine Qrb hΓt rfl rfl rfl rfl rfl rfl rfl ziy hou (Q12 e hE.l y s ou h (.heap,nodeR kk) y.kh qk rfl hkqk) fun r o1 hqq Qvd ho1=>?_;obtain⟨rfl,hst⟩:=hqq;have hs2:o1 y.ks=some (.cells [.sl 5 (e.map cEx),.sl 1 (nC (words e) y.nk),.mp (.o y.km),aS (words e) y.kh,aS (words e) y.ka,.lit (.bool (intoF (.heap,nodeR kk) s).2)]):=by have h0:=Qus hst.fr;exact h0
 refine zA ?_;refine zdx 12 [(4,.one (.sl 1 (nC (words e) y.nk))),(6,.one (.box [aS (words e) qi])),(11,.one (aS (words e) y.kh))] ?_ ?_
 ·refine .step rfl (zHP (zLD rfl rfl hs2 rfl)) ?_;refine .step rfl (zHP (zIA rfl rfl rfl zoy (Q15 hqi))) ?_;exact .step rfl (zHP (zLD rfl rfl hs2 rfl)) .nil
 refine Qrb hΓt rfl rfl rfl rfl rfl rfl rfl ziy ho1 (Q12 e hE.l y _ o1 hst.fr (.node i,.heap) qi y.kh hki rfl) fun r ow hqq Qvd how=>?_;obtain⟨rfl,hst2⟩:=hqq;refine zA ?_;refine Qst rfl (Z46 rfl) zsy how ⟨rfl,y,?_⟩;rw[Q0k,Q7x];exact Qzn h hst hst2
theorem Qlt(e:List Ex)(y:Lay)(s:FSt)(ou:Outer)(h:FlR e y s ou)(i:Nat)(x:Ex)(n0:x.op≠0)(n3:x.op≠3)(n4:x.op≠4)(n5:x.op≠5)(n6:x.op≠6)(n9:x.op≠9)(n7:x.op≠7)(n13:x.op≠13)(n8:x.op≠8)(n11:x.op≠11)(n12:x.op≠12)(n10:x.op≠10):
  AFn Tryz.prog Γt 127 [.one (.ptr (.o y.ks) 0),.one (int (i:Nat)),.agg (cEx x)] ou (FlStQ e y s (opsOf e i x s.1) ou):=by
 have hl:opsOf e i x s.1=[]:=by simp[opsOf,n0,n3,n4,n5,n6,n9,n7,n13,n8,n11,n12,n10]
 rw[hl];refine zwk 185 Z3y fun hou=>?_;refine zA ?_;refine Qyl rfl (fun hb=>absurd (by simpa using hb) n0) (fun hb=>?_);clear hb;refine zA ?_;refine Qyl rfl (fun hb=>absurd (by simpa using hb) n3) (fun hb=>?_);clear hb;refine zA ?_;refine Qyl rfl (fun hb=>absurd (by simpa using hb) n4) (fun hb=>?_);clear hb;refine zA ?_;refine Qyl rfl (fun hb=>absurd (by simpa using hb) n5) (fun hb=>?_);clear hb;refine zA ?_;refine Qyl rfl (fun hb=>absurd (by simpa using hb) n6) (fun hb=>?_);clear hb;refine zA ?_;refine Qyl rfl (fun hb=>absurd (by simpa using hb) n9) (fun hb=>?_);clear hb;refine zA ?_;refine Qyl rfl (fun hb=>absurd (by simpa using hb) n7) (fun hb=>?_);clear hb;refine zA ?_;refine Qyl rfl (fun hb=>absurd (by simpa using hb) n13) (fun hb=>?_);clear hb;refine zA ?_;refine Qyl rfl (fun hb=>absurd (by simpa using hb) n8) (fun hb=>?_);clear hb;refine zA ?_;refine Qyl rfl (fun hb=>absurd (by simpa using hb) n11) (fun hb=>?_);clear hb;refine zA ?_;refine Qyl rfl (fun hb=>absurd (by simpa using hb) n12) (fun hb=>?_);clear hb;refine zA ?_;refine Qyl rfl (fun hb=>absurd (by simpa using hb) n10) (fun hb=>?_);clear hb;refine zA ?_;exact Qst rfl (Z46 rfl) zsy hou ⟨rfl,y,Qzm h⟩
theorem node_ok(e:List Ex)(hE:FE e)(y:Lay)(s:FSt)(ou:Outer)(h:FlR e y s ou)(hG:Q0t e s.1)(hn:y.nk.length=e.length)(i:Nat)(x:Ex)(hx:e[i]?=some x):
  AFn Tryz.prog Γt 127 [.one (.ptr (.o y.ks) 0),.one (int (i:Nat)),.agg (cEx x)] ou (FlStQ e y s (opsOf e i x s.1) ou):=by
 obtain⟨o,n,b,ks,a⟩:=x;by_cases n0:o=0
 ·subst n0;exact Qoz e hE y s ou h hG hn i n b ks a hx
 by_cases n3:o=3
 ·subst n3;exact Qp6 e hE y s ou h hG hn i n b ks a hx
 by_cases n4:o=4
 ·subst n4;exact Qp3 e hE y s ou h hG hn i n b ks a hx
 by_cases n5:o=5
 ·subst n5;exact Qp2 e hE y s ou h hG hn i n b ks a hx
 by_cases n6:o=6
 ·subst n6;exact Qp5 e hE y s ou h hG hn i n b ks a hx
 by_cases n9:o=9
 ·subst n9;exact Qp1 e hE y s ou h hG hn i n b ks a hx
 by_cases n7:o=7
 ·subst n7;exact Qlv e hE y s ou h hG hn i n b ks a hx
 by_cases n13:o=13
 ·subst n13;exact Qlu e hE y s ou h hG hn i n b ks a hx
 by_cases n8:o=8
 ·subst n8;exact Qlr e hE y s ou h hG hn i n b ks a hx
 by_cases n11:o=11
 ·subst n11;exact Qp0 e hE y s ou h hG hn i n b ks a hx
 by_cases n12:o=12
 ·subst n12;exact Qls e hE y s ou h hG hn i n b ks a hx
 by_cases n10:o=10
 ·subst n10;exact Qp4 e hE y s ou h hG hn i n b ks a hx
 exact Qlt e y s ou h i _ n0 n3 n4 n5 n6 n9 n7 n13 n8 n11 n12 n10
def AllW (e:List Ex)(σ:Ref->List Nat):Prop:=∀r,WOk (words e) (σ r)
theorem Qg7(h:AllW e s.1)(p:Ref×Ref):AllW e (intoF p s).1:=fun r=>by
 by_cases hr:r=p.1
 ·subst hr;simp only[intoF,Q7u];exact⟨by rw[Q80 _ _ (by rw[(h _).1,(h _).1])];exact (h _).1,orL_lt (h _).2 (h _).2⟩
 ·simp only[intoF,Q6k _ _ hr];exact h r
theorem Qhc{e:List Ex}:∀(l:List (Ref×Ref))(s:FSt),AllW e s.1->AllW e (Q13 l s).1
 |[],s,h=>h
 |p::l,s,h=>Qhc l _ (Qg7 h p)
theorem Qjs(h:AllW e s.1)(hg:Q0t e s.1)(p:Ref×Ref):Q0t e (intoF p s).1:=fun r f hf=>by
 by_cases hr:r=p.1
 ·subst hr;simp only[intoF,Q7u]at hf;rcases orL_bit (by rw[(h _).1,(h _).1]) hf with h1|h1
  ·exact hg _ f h1
  ·exact hg _ f h1
 ·simp only[intoF,Q6k _ _ hr]at hf;exact hg r f hf
theorem Q9t{e:List Ex}:∀(l:List (Ref×Ref))(s:FSt),AllW e s.1->Q0t e s.1->Q0t e (Q13 l s).1
 |[],s,_,h=>h
 |p::l,s,hw,h=>Q9t l _ (Qg7 hw p) (Qjs hw h p)
theorem Q9c{e:List Ex}{s:FSt}(hw:AllW e s.1)(h:Q0t e s.1):∀n,AllW e (passN e n s).1/\Q0t e (passN e n s).1
 |0=>⟨hw,h⟩
 |n+1=>by rw[Q7z];have h1:=Q9c hw h n;exact⟨Qhc _ _ h1.1,Q9t _ _ h1.1 h1.2⟩
theorem Q5y(e:List Ex)(f:Nat):¬Bit (Q16 e) f:=fun h=>by unfold Bit Q16 at h;rw[Z0o,Z0x]at h;split at h <;> simp at h
theorem Qbl(h:Bit (Q58 e i) f):f=i:=by
 unfold Bit Q58 at h;rw[Z0o,List.getElem?_set]at h;split at h
 ·rename_i h1;split at h
  ·simp only[Z3i,Nat.testBit_two_pow,decide_eq_true_eq]at h;omega
  ·simp at h
 ·exact absurd h (by have:=Q5y e f;unfold Bit at this;rwa [Z0o]at this)
theorem Qfr(e:List Ex):Q0t e (Q1i e):=fun r f hf=>by
 cases r with
 |node i=>
  simp only[Q1i]at hf;split at hf
  ·rename_i h2;obtain rfl:=Qbl hf;right;cases hx:e[f]? with
   |none=>
    rw[Z0o,hx]at h2;simp at h2
   |some y=>
    rw[Q0b hx]at h2;exact⟨y,rfl,h2⟩
  ·exact absurd hf (Q5y e f)
 |idn x=>exact absurd hf (Q5y e f)
 |heap=>exact absurd hf (Q5y e f)
 |again=>exact .inl (Qbl hf)
def lackL (s:List Nat):Nat:=(s.map fun w=>18446744073709551616 - w).sum
theorem Qi8:∀(a b:List Nat),a.length=b.length->(∀w∈a,w < 18446744073709551616)->(∀w∈b,w < 18446744073709551616)->lackL (orL a b)<=lackL a/\(orL a b≠a->lackL (orL a b) < lackL a)
 |[],[],_,_,_=>⟨Z30 _,fun h=>absurd rfl h⟩
 |x::a,y::b,hl,ha,hb=>by
  obtain⟨h1,h2⟩:=Qi8 a b (by simpa using hl) (fun w hw=>ha w (Z1q _ hw)) (fun w hw=>hb w (Z1q _ hw));have h3:orL (x::a) (y::b)=(x ||| y)::orL a b:=rfl;have h4:x<=x ||| y:=Nat.left_le_or;have hx:=ha x Z1r;rw[h3];simp only[lackL,Z1g,Z2f]at h1 h2 ⊢;refine⟨by omega,fun hne=>?_⟩;by_cases hxy:x ||| y=x
  ·have:orL a b≠a:=fun e1=>hne (by rw[hxy,e1]);have:=h2 this;omega
  ·have:(x ||| y) < 18446744073709551616:=Nat.or_lt_two_pow (n:=64) hx (hb y Z1r);omega
def lackR (R:List Ref)(σ:Ref->List Nat):Nat:=(R.map fun r=>lackL (σ r)).sum
theorem Qfq{α:Type}{f g:α->Nat}:∀{l:List α},(∀x∈l,f x<=g x)->(l.map f).sum<=(l.map g).sum
 |[],_=>Z30 _
 |x::l,h=>by have:=Qfq (l:=l) fun y hy=>h y (Z1q _ hy);have:=h x Z1r;simp only[Z1g,Z2f];omega
theorem Qkq{α:Type}{f g:α->Nat}{x:α}(hx:f x < g x):∀{l:List α},x∈l->(∀x∈l,f x<=g x)->(l.map f).sum < (l.map g).sum
 |y::l,hm,h=>by
  have h1:=Qfq (l:=l) fun z hz=>h z (Z1q _ hz);have h2:=h y Z1r;simp only[Z1g,Z2f];rcases Z1p.1 hm with rfl|hm
  ·omega
  ·have:=Qkq hx hm fun z hz=>h z (Z1q _ hz);omega
theorem Qjr{R:List Ref}(h:AllW e s.1){p:Ref×Ref}(hp:p.1∈R):lackR R (intoF p s).1<=lackR R s.1/\((intoF p s).2=true->s.2=true∨lackR R (intoF p s).1 < lackR R s.1):=by
 obtain⟨h1,h2⟩:=Qi8 (s.1 p.1) (s.1 p.2) (by rw[(h _).1,(h _).1]) (h _).2 (h _).2;have hle:∀r∈R,lackL ((intoF p s).1 r)<=lackL (s.1 r):=fun r _=>by
  by_cases hr:r=p.1
  ·subst hr;simp only[intoF,Q7u];exact h1
  ·simp only[intoF,Q6k _ _ hr];exact Z30 _
 refine⟨Qfq hle,fun hm=>?_⟩;simp only[intoF,Qzk,Qzh,beq_eq_false_iff_ne]at hm;rcases hm with hm|hm
 ·exact .inl hm
 ·right;refine Qkq (x:=p.1) ?_ hp hle;simp only[intoF,Q7u];exact h2 hm
theorem Q9s{e:List Ex}{R:List Ref}:∀(l:List (Ref×Ref))(s:FSt),AllW e s.1->(∀p∈l,p.1∈R)->lackR R (Q13 l s).1<=lackR R s.1/\((Q13 l s).2=true->s.2=true∨lackR R (Q13 l s).1 < lackR R s.1)
 |[],s,_,_=>⟨Z30 _,fun h=>.inl h⟩
 |p::l,s,h,hp=>by
  obtain⟨h1,h2⟩:=Qjr h (hp p Z1r);obtain⟨h3,h4⟩:=Q9s l (intoF p s) (Qg7 h p) fun q hq=>hp q (Z1q _ hq);refine⟨Z31 h3 h1,fun hm=>?_⟩;rcases h4 hm with h5|h5
  ·rcases h2 h5 with h6|h6
   ·exact .inl h6
   ·exact .inr (Nat.lt_of_le_of_lt h3 h6)
  ·exact .inr (Z32 h5 h1)
def refsOf (e:List Ex):List Ref:=.heap::((List.range e.length).map .node++e.flatMap fun x=>(x.binds++x.alts.flatMap (·.binds)).map .idn)
theorem Qhf(e:List Ex):Ref.heap∈refsOf e:=Z1r
theorem Q9a(h:e[i]?=some x):Ref.node i∈refsOf e:=Z1q _ (Z1n _ (Z1x (Z21.2 (Z0v.1 h).1)))
theorem Qlc(hx:x∈e){b:Int}(hb:b∈x.binds++x.alts.flatMap (·.binds)):Ref.idn b∈refsOf e:=Z1q _ (Z1o _ (Z1u.2 ⟨x,hx,Z1x hb⟩))
theorem Qij(h:k < l.length):l.getD k 0∈l:=by rw[Z0o,Z0t h];exact Z11 h
theorem Qdt(hx:x∈e){ks:List Int}:∀p∈Q3i x.binds ks x.binds.length,p.1∈refsOf e:=fun p hp=>by obtain⟨k,hk,rfl⟩:=Z1w.1 hp;exact Qlc hx (Z1n _ (Qij (Z21.1 hk)))
theorem Qgp(hx:e[i]?=some x):∀p∈Q22 e i args f,p.1∈refsOf e:=fun p hp=>by
 unfold Q22 at hp;split at hp
 ·split at hp
  ·simp only[Z1p,Z28,or_false]at hp;rcases hp with rfl|rfl
   ·exact Qhf e
   ·exact Q9a hx
  ·simp at hp
 ·split at hp
  ·simp at hp
  ·rename_i y hy;split at hp
   ·rename_i hl;rcases Z1m.1 hp with hp|hp
    ·rw[←hl]at hp;exact Qdt (Z1y hy) p hp
    ·simp at hp;subst hp;exact Q9a hx
   ·simp at hp
theorem Qc9(hx:e[i]?=some x):∀p∈Q4o i x x.alts.length,p.1∈refsOf e:=fun p hp=>by
 obtain⟨k,hk,hp⟩:=Z1u.1 hp;have hk:=Z21.1 hk;rcases Z1m.1 hp with hp|hp
 ·obtain⟨j,hj,rfl⟩:=Z1w.1 hp;refine Qlc (Z1y hx) (Z1o _ (Z1u.2 ⟨x.alts.getD k ⟨0,[]⟩,?_,Qij (Z21.1 hj)⟩));rw[Z0o,Z0t hk];exact Z11 hk
 ·simp at hp;subst hp;exact Q9a hx
theorem Qlh(hx:e[i]?=some x)(σ:Ref->List Nat):∀p∈opsOf e i x σ,p.1∈refsOf e:=fun p hp=>by
 have hh:=Qhf e;have hn:=Q9a hx;have hheap:∀n,p∈Q3f x n->p.1∈refsOf e:=fun n h=>by obtain⟨j,_,rfl⟩:=Z1w.1 h;exact hh
 unfold opsOf at hp;repeat' split at hp
 ·simp at hp;subst hp;exact hn
 ·obtain⟨f,_,hp⟩:=Z1u.1 hp;exact Qgp hx p hp
 ·rcases Z1m.1 hp with hp|hp
  ·exact Qdt (Z1y hx) p hp
  ·simp at hp;subst hp;exact hn
 ·exact hheap _ hp
 ·rcases Z1m.1 hp with hp|hp
  ·exact Qc9 hx p hp
  ·simp at hp;subst hp;exact hh
 ·rw[Z02]at hp;exact Qc9 hx p hp
 ·unfold Q31 at hp;repeat' split at hp
  all_goals simp at hp
  all_goals (subst hp;first|exact hh|exact hn)
 ·simp at hp;subst hp;exact hh
 ·simp only[Z1p,Z28,or_false]at hp;rcases hp with rfl|rfl
  ·exact hh
  ·exact hn
 ·simp at hp;subst hp;exact hn
 ·simp at hp
theorem Qbj{e:List Ex}{s:FSt}(hw:AllW e s.1)(hg:Q0t e s.1):∀n,n<=e.length->lackR (refsOf e) (passN e n s).1<=lackR (refsOf e) s.1/\((passN e n s).2=true->s.2=true∨lackR (refsOf e) (passN e n s).1 < lackR (refsOf e) s.1)
 |0,_=>⟨Z30 _,fun h=>.inl h⟩
 |n+1,hn=>by
  rw[Q7z];obtain⟨h1,h2⟩:=Qbj hw hg n zoy;obtain⟨x,hx⟩:=Q00 (show n < e.length by omega);unfold nodeF;rw[Q0b hx];obtain⟨h3,h4⟩:=Q9s (e:=e) (R:=refsOf e) (opsOf e n x (passN e n s).1) (passN e n s) (Q9c hw hg n).1 (Qlh hx _);refine⟨Z31 h3 h1,fun hm=>?_⟩;rcases h4 hm with h5|h5
  ·rcases h2 h5 with h6|h6
   ·exact .inl h6
   ·exact .inr (Nat.lt_of_le_of_lt h3 h6)
  ·exact .inr (Z32 h5 h1)
theorem Qbk{σ:Ref->List Nat}(hw:AllW e σ)(hg:Q0t e σ)(h:(passF e σ).2=true):lackR (refsOf e) (passF e σ).1 < lackR (refsOf e) σ:=by
 rcases (Qbj (s:=(σ,false)) hw hg e.length (Z30 _)).2 h with h1|h1
 ·cases h1
 ·exact h1
theorem Q5e{e:List Ex}(h0:AllW e (Q1i e)):∀n,AllW e (Q0q e n).1/\Q0t e (Q0q e n).1
 |0=>⟨h0,Qfr e⟩
 |n+1=>by
  obtain⟨h1,h2⟩:=Q5e h0 n;unfold Q0q;split
  ·exact Q9c (s:=((Q0q e n).1,false)) h1 h2 e.length
  ·exact⟨h1,h2⟩
theorem Q6l{e:List Ex}{n:Nat}(h:(Q0q e n).2=false):∀m,n<=m->Q0q e m=Q0q e n
 |0,hm=>by rw[show n=0 by omega]
 |m+1,hm=>by
  by_cases he:n=m+1
  ·rw[he]
  ·have h1:=Q6l h m zoy;conv=>lhs;unfold Q0q
   rw[h1,h];rfl
theorem Q6m{e:List Ex}(h0:AllW e (Q1i e)):∀n,(Q0q e n).2=true->n+lackR (refsOf e) (Q0q e n).1<=lackR (refsOf e) (Q1i e)
 |0,_=>by simp[Q0q]
 |n+1,h=>by
  obtain⟨h1,h2⟩:=Q5e h0 n;by_cases hm:(Q0q e n).2=true
  ·have h3:=Q6m h0 n hm;unfold Q0q at h ⊢;rw[if_pos hm]at h ⊢;have:=Qbk h1 h2 h;omega
  ·unfold Q0q at h;rw[if_neg hm]at h;exact absurd h hm
def Q19 (e:List Ex):Ref->List Nat:=(Q0q e (lackR (refsOf e) (Q1i e)+1)).1
theorem Q5n(h0:AllW e (Q1i e))(h:(Q0q e n).2=false):(Q0q e n).1=Q19 e:=by
 obtain⟨N,hN⟩:∃N,N=lackR (refsOf e) (Q1i e)+1:=⟨_,rfl⟩;have h1:(Q0q e N).2=false:=by
  cases hb:(Q0q e N).2 with
  |false=>rfl
  |true=>
   have:=Q6m h0 N hb;omega
 unfold Q19;rw[←hN];rcases Nat.le_total n N with h2|h2
 ·rw[Q6l h N h2]
 ·rw[Q6l h1 n h2]
end Go.Proofs.YtlmokgooijbcdaaGreatDoor
namespace Go.Abs
section
variable {E:Env}{o:Oper}{fr:Fr}{σ:St}{t yt:TypeId}{x y:Operand}
theorem Qut{k:IntKind}{a b:Int}(ho:o.op=.binOp .quo t x y yt)(hx:aEval E.Γ fr x=some (.one (.lit (.int k a))))(hy:aEval E.Γ fr y=some (.one (.lit (.int k b))))(hb:b≠0)(h:a.tdiv b=r)(hr:Q4w k r):AStep E o fr σ (.one (.lit (.int k r))) σ:=by subst h;exact AStep.quo ho hx hy hb hr
theorem Quu{k:IntKind}{a b:Int}(ho:o.op=.binOp .rem t x y yt)(hx:aEval E.Γ fr x=some (.one (.lit (.int k a))))(hy:aEval E.Γ fr y=some (.one (.lit (.int k b))))(hb:b≠0)(h:a.tmod b=r):AStep E o fr σ (.one (.lit (.int k r))) σ:=by subst h;exact AStep.rem ho hx hy hb
theorem Quv{k j:IntKind}{a b:Int}(ho:o.op=.binOp .shl t x y yt)(hx:aEval E.Γ fr x=some (.one (.lit (.int k a))))(hy:aEval E.Γ fr y=some (.one (.lit (.int j b))))(h0:0<=b)(h1:b<=k.bits)(h:k.wrap (a * 2 ^ b.toNat)=r):AStep E o fr σ (.one (.lit (.int k r))) σ:=by subst h;exact Quo ho hx hy h0 h1
end
theorem ACode.freezeArrO(i j:Id)(off:Nat){s:Nat}(hg:σ.get i=some (.cells (vec s es cap)))(hl:∀x∈es,x.length=s)(hgj:(σ.set i .dead).get j=some (.cells cs))(hoff:cs[off]?=some (.arr i s 0 es.length cap))
  (h:ACode E c K fr ((σ.set i .dead).set j (.cells (cs.set off (.sl s es))))):ACode E c K fr σ:=by
 intro F w0 C0 w C tmps hgo hi hf;obtain⟨h1,h2,h3⟩:=Q6q hi hf hg (fr':=[]) trivial;obtain⟨hok,zs,T,b1,b2,b3,b4⟩:=hi.obj i _ hg;have key:∀v,R w (C.froze (C.blk i)) (.arr i s 0 es.length cap) v->R w (C.froze (C.blk i)) (.sl s es) v:=by
  intro u hr;simp only[R,Z3c]at hr;refine⟨some ⟨C.blk i,0,none⟩,cap,hr.2.1,hr.2.2,.inr ⟨_,rfl,rfl,?_⟩⟩;have hfl:=Q3o hl;have hzl:=RV.length b3;have hv:RV w (C.froze (C.blk i)) es.flatten (zs.take (es.length * s)):=by have:=(b3.take (es.length * s)).ext h1.chg;rwa [vec,Z2i zoy,Z2k zoy]at this
  refine RS.ofVals 0 hl hv fun j v hj=>⟨?_,.inr rfl⟩;have h2:j < es.length * s:=by have:=(Z0v.1 hj).1;simp at this;omega
  rw[Z0z h2]at hj;rw[Z3a,cell_of_row _ _ _ _ _ _ b1];simpa using hj
 obtain⟨hokj,xs,Tj,o1,o2,o3,o4⟩:=h2.obj j _ hgj;obtain⟨he,hi'⟩:=h2.turn hgj (g:=(C.froze (C.blk i)).blk j) rfl (w':=w) rfl (fun _ _=>rfl) (fun _ _ _=>rfl) (o':=.cells (cs.set off (.sl s es))) rfl fun _=>⟨xs,Tj,o1,o2,Qts key o3 hoff,o4⟩;refine h F w0 C0 w _ tmps (hgo.trans h1.toO) hi' ⟨hf.1,fun k x hk=>?_⟩;obtain⟨u,hu,hr⟩:=hf.2 k x hk;exact⟨u,hu,hr.ext h1.chg⟩
theorem CedFrN.consT{y:FV}{r:Fr}(h:Fr.get k fr=some y)(hy:y.ids isO)(hr:CedFrN (toOs js kk) fr r):CedFrN (toOs js kk) fr ((k,y)::r):=
 CedFrN.cons h (FV.sub_f (fun i hi=>by cases i with|l k=>exact hi.elim|o k=>rfl) y hy) hr
end Go.Abs
namespace Go.Proofs.YtlmokgooijbcdaaGreatDoor
def nfC (L:Nat)(nk:List Nat):Option (Nat×Nat)->AC
 |none=>.lit (.slice none 0 0)
 |some (kn,cap)=>.arr (.o kn) 1 0 (nC L nk).length cap
def nfK:Option (Nat×Nat)->List Nat
 |none=>[]
 |some (kn,_)=>[kn]
structure BI (e:List Ex)(ks km kh ka:Nat)(nk:List Nat)(nf:Option (Nat×Nat))(ou ov:Outer):Prop where
 so:ov ks=some (.cells [.sl 5 (e.map cEx),nfC (words e) nk nf,.mp (.o km),aS (words e) kh,aS (words e) ka,.lit (.bool true)])
 mo:ov km=some (.map 0 [])
 ho:ov kh=some (.cells (wC (Q16 e)))
 ao:ov ka=some (.cells (wC (Q58 e e.length)))
 no:∀i q,nk[i]?=some q->ov q=some (.cells (wC (Q1i e (.node i))))
 fo:∀kn cap,nf=some (kn,cap)->ov kn=some (.cells (vec 1 (nC (words e) nk) cap))/\(nC (words e) nk).length<=cap
 fn:nf=none->nk=[]
 nd:([ks,km,kh,ka]++nk++nfK nf).Nodup
 new:∀q∈[ks,km,kh,ka]++nk++nfK nf,ou q=none
 old:∀q,ou q≠none->ov q=ou q
 ok:OuOk ov
theorem BI.ne0(h:BI e ks km kh ka nk nf ou ov):∀q∈[ks,km,kh,ka]++nk++nfK nf,ov q≠none:=fun q hq=>by
 simp only[Z1m,Z1p,Z28,or_false]at hq;rcases hq with ((rfl|rfl|rfl|rfl)|hq)|hq
 ·rw[h.so];simp
 ·rw[h.mo];simp
 ·rw[h.ho];simp
 ·rw[h.ao];simp
 ·obtain⟨i,hi⟩:=Z1v.1 hq;rw[h.no i q hi];simp
 ·cases nf with
  |none=>simp[nfK]at hq
  |some p=>
   obtain⟨kn,cap⟩:=p;simp[nfK]at hq;subst hq;rw[(h.fo _ _ rfl).1];simp
theorem Qhw(h:BI e ks km kh ka nk nf ou ov){o2:Outer}(h2:∀q∈nfK nf,o2 q=ov q):
  ∃(cap0:Nat) (o3:Outer),(∀(m:Nat) (lo:List (Nat×AObj)),BaseO ⟨m,lo,o2⟩ (nfC (words e) nk nf) 1 (nC (words e) nk) cap0 ⟨m,lo,o3⟩)/\(OuOk o2->OuOk o3)/\(∀q,q∉nfK nf->o3 q=o2 q)/\∀q∈nfK nf,o3 q≠none:=by
 cases hn:nf with
 |none=>
  rw[h.fn hn];exact⟨0,o2,fun m lo=>BaseO.nil 1,fun h=>h,fun q _=>rfl,fun q hq=>by simp[nfK]at hq⟩
 |some p=>
  obtain⟨kn,cap⟩:=p;obtain⟨h3,h4⟩:=h.fo kn cap hn;refine⟨cap,updO o2 kn .dead,fun m lo=>?_,fun h5=>Q0m h5 trivial,fun q hq=>Q02 _ (fun e1=>hq (by simp[nfK];exact e1.symm)) _,fun q hq=>by simp[nfK]at hq;subst hq;rw[Q04];simp⟩;have hb:=BaseO.own (σ:=⟨m,lo,o2⟩) 1 cap (nC (words e) nk) (.o kn) (by show o2 kn=_;rw[h2 kn (by rw[hn];simp[nfK])];exact h3) (fun x hx=>by obtain⟨q,_,rfl⟩:=Z1w.1 hx;rfl) h4;rw[Q0n]at hb;exact hb
theorem Qa7{l:List Nat}(h:l.Nodup)(ha:a∉l):(l++[a]).Nodup:=Z26.2 ⟨h,by simp,fun x hx y hy=>by simp at hy;subst hy;rintro rfl;exact ha hx⟩
theorem BI.step{e:List Ex}{ks km kh ka:Nat}{nk:List Nat}{nf:Option (Nat×Nat)}{ou ov:Outer}(h:BI e ks km kh ka nk nf ou ov){q:Nat}{o1 o2 o3 o5:Outer}(hN:NewO ov o1 [(q,.cells (wC (Q16 e)))])(hq2:o2 q=some (.cells (wC (Q1i e (.node nk.length)))))
  (ho2:∀p,p≠q->o2 p=o1 p) (ho3:∀p,p∉nfK nf->o3 p=o2 p) (hd3:∀p∈nfK nf,o3 p≠none){kn cap:Nat}(hkn:∀m,kn<=m->o3 m=none) (hcap:(nC (words e) (nk++[q])).length<=cap) (hok:OuOk o5)
  (ho5:o5=updO (ouAdd o3 kn [.cells (vec 1 (nC (words e) (nk++[q])) cap)]) ks (.cells [.sl 5 (e.map cEx),nfC (words e) (nk++[q]) (some (kn,cap)),.mp (.o km),aS (words e) kh,aS (words e) ka,.lit (.bool true)])):
  BI e ks km kh ka (nk++[q]) (some (kn,cap)) ou o5:=by
 have Qwu:ov q=none:=hN.new q (by simp[keys]);have hA:∀p∈[ks,km,kh,ka]++nk++nfK nf,p≠q:=fun p hp e1=>h.ne0 p hp (e1▸Qwu);have hnd:=Z26.1 h.nd;have hnf:∀p∈[ks,km,kh,ka]++nk,p∉nfK nf:=fun p hp h1=>hnd.2.2 p hp p h1 rfl;have hov1:∀p,p≠q->o1 p=ov p:=fun p hp=>hN.old p (by simpa[keys]using hp);have hB:∀p∈[ks,km,kh,ka]++nk,o3 p=ov p:=fun p hp=>by have hpq:=hA p (Z1n _ hp);rw[ho3 p (hnf p hp),ho2 p hpq,hov1 p hpq]
 have hqn:q∉nfK nf:=fun h1=>hA q (Z1o _ h1) rfl;have hq3:o3 q=some (.cells (wC (Q1i e (.node nk.length)))):=by rw[ho3 q hqn,hq2]
 have hlt:∀p,o3 p≠none->p < kn:=fun p hp=>by
  cases h1:o3 p with
  |none=>exact absurd h1 hp
  |some o=>exact Q4u hkn h1
 have hS:∀p∈[ks,km,kh,ka]++nk,p < kn:=fun p hp=>hlt p (by rw[hB p hp];exact h.ne0 p (Z1n _ hp));have hqk:q < kn:=hlt q (by rw[hq3];simp);have h5:∀p,p≠ks->p < kn->o5 p=o3 p:=fun p hp hpk=>by rw[ho5,Q02 _ (Z3d hp),Q14 hpk]
 have hks:ks < kn:=hS ks zsy;have Qwq:=hnd.1;have hmem:∀p,p∈[km,kh,ka]∨p∈nk->p≠ks:=fun p hp e1=>by
  subst e1;simp only[Z03,Z25,Z27,Z1p,Z1m,not_or]at Qwq;rcases hp with hp|hp
  ·simp only[Z1p,Z28,or_false]at hp;rcases hp with hp|hp|hp
   ·exact Qwq.1.1 hp
   ·exact Qwq.1.2.1 hp
   ·exact Qwq.1.2.2.1 hp
  ·exact Qwq.1.2.2.2 hp
 have hup:∀p,p∈[km,kh,ka]∨p∈nk->o5 p=ov p:=fun p hp=>by
  have hp2:p∈[ks,km,kh,ka]++nk:=by
   simp only[Z1m,Z1p]at hp ⊢;rcases hp with hp|hp
   ·exact .inl (.inr hp)
   ·exact .inr hp
  rw[h5 p (hmem p hp) (hS p hp2),hB p hp2]
 have hkq:q≠ks:=fun e1=>hA ks zsy e1.symm;have Qvz:∀p,ou p≠none->o3 p=ou p:=fun p hp=>by have h1:=h.old p hp;have hpq:p≠q:=fun e1=>hp (by rw[←h1,e1];exact Qwu);have hpn:p∉nfK nf:=fun h2=>hp (h.new p (Z1o _ h2));rw[ho3 p hpn,ho2 p hpq,hov1 p hpq,h1]
 refine⟨by rw[ho5,Q04],(hup km (.inl zsy)).trans h.mo,(hup kh (.inl zsy)).trans h.ho,(hup ka (.inl zsy)).trans h.ao,fun i p hp=>?_,fun k2 c2 hk2=>?_,fun hn=>(by cases hn),?_,fun p hp=>?_,fun p hp=>?_,hok⟩
 ·by_cases hi:i < nk.length
  ·rw[Z0p hi]at hp;rw[hup p (.inr (Z1y hp))];exact h.no i p hp
  ·have hi2:i=nk.length:=by have:=(Z0v.1 hp).1;simp at this;omega
   subst hi2;simp at hp;subst hp;rw[h5 q hkq hqk,hq3]
 ·cases hk2;refine⟨?_,hcap⟩;rw[ho5,Q02 _ zoy];exact Q0o 0
 ·rw[show nfK (some (kn,cap))=[kn]from rfl,←Z01];refine Qa7 (Qa7 Qwq fun h1=>hA q (Z1n _ h1) rfl) fun h1=>?_;rcases Z1m.1 h1 with h1|h1
  ·have:=hS kn h1;omega
  ·simp at h1;omega
 ·rw[show nfK (some (kn,cap))=[kn]from rfl,←Z01]at hp;rcases Z1m.1 hp with hp|hp
  ·rcases Z1m.1 hp with hp|hp
   ·exact h.new p (Z1n _ hp)
   ·simp at hp;subst hp;cases h1:ou p with
    |none=>rfl
    |some o=>
     have:=h.old p (by rw[h1];simp);rw[Qwu,h1]at this;cases this
  ·simp at hp;subst hp;cases h1:ou p with
   |none=>rfl
   |some o=>
    have:=Qvz p (by rw[h1];simp);rw[hkn p (Z30 _),h1]at this;cases this
 ·have h1:=Qvz p hp;have hpk:p≠ks:=fun e1=>hp (e1▸h.new ks zsy);rw[h5 p hpk (hlt p (by rw[h1];exact hp)),h1]
theorem Qee(e:List Ex)(i:Nat):WOk (words e) (Q58 e i):=by
 refine⟨by simp[Q58,Q16],fun w hw=>?_⟩;unfold Q58 at hw;rcases Z20 hw with h|h
 ·rw[(Z22.1 h).2];omega
 ·rw[h];exact Nat.lt_of_lt_of_eq (Nat.pow_lt_pow_right zoy (Nat.mod_lt _ zoy)) (show 2 ^ 64=_ by decide)
theorem Q9n(e:List Ex):WOk (words e) (Q16 e):=⟨by simp[Q16],fun w hw=>by rw[(Z22.1 hw).2];omega⟩
theorem Q37(e:List Ex)(r:Ref):WOk (words e) (Q1i e r):=by
 cases r with
 |node i=>
  simp only[Q1i];split
  ·exact Qee e i
  ·exact Q9n e
 |idn x=>exact Q9n e
 |heap=>exact Q9n e
 |again=>exact Qee e e.length
theorem BI.toFR{o':Outer}(h:BI e ks km kh ka nk (some (kn,cap)) ou ov)(hok:OuOk o')
  (ho':o'=updO (updO ov kn .dead) ks (.cells (solC e ⟨ks,km,kh,ka,nk,fun _=>none⟩ true))):FlR e ⟨ks,km,kh,ka,nk,fun _=>none⟩ (Q1i e,true) o'/\(∀q,ou q≠none->o' q=ou q)/\∀q,(Lay.mk ks km kh ka nk fun _=>none).has q->ou q=none:=by
 have hnd:=Z26.1 h.nd;have hkn:∀p∈[ks,km,kh,ka]++nk,p≠kn:=fun p hp e1=>hnd.2.2 p hp kn (by simp[nfK]) e1;have Qwq:=hnd.1;have h4:∀p∈[ks,km,kh,ka]++nk,p≠ks->o' p=ov p:=fun p hp hpk=>by rw[ho',Q02 _ (Z3d hpk),Q02 _ (Z3d (hkn p hp))]
 have hn2:=Z26.1 Qwq;have hkey:∀r k,(Lay.mk ks km kh ka nk fun _=>none).key r=some k->(r=.heap/\k=kh)∨(r=.again/\k=ka)∨∃i,r=.node i/\nk[i]?=some k:=fun r k hk=>by
  cases r with
  |node i=>exact .inr (.inr ⟨i,rfl,hk⟩)
  |idn x=>cases hk
  |heap=>cases hk;exact .inl ⟨rfl,rfl⟩
  |again=>cases hk;exact .inr (.inl ⟨rfl,rfl⟩)
 have hn0:=hn2.1;simp only[Z27,Z1p,Z28,or_false,not_or]at hn0;obtain⟨⟨a1,a2,a3⟩,⟨b1,b2⟩,c1,_⟩:=hn0;have hd:∀p∈nk,p≠ks/\p≠km/\p≠kh/\p≠ka:=fun p hp=>⟨fun e1=>hn2.2.2 ks zsy p hp e1.symm,fun e1=>hn2.2.2 km zsy p hp e1.symm,fun e1=>hn2.2.2 kh zsy p hp e1.symm,fun e1=>hn2.2.2 ka zsy p hp e1.symm⟩;refine⟨⟨by rw[ho'];exact Q04 _ _ _,⟨0,[],by rw[h4 km zsy (Z3d a1)];exact h.mo,IMOk.nil⟩,fun r k hk=>?_,fun x _=>rfl,fun r q k hr hq=>?_,fun r k hk=>?_,a1,Q37 e,hok⟩,fun q hq=>?_,fun q hq=>h.new q (Z1n _ ?_)⟩
 ·rcases hkey r k hk with ⟨rfl,rfl⟩|⟨rfl,rfl⟩|⟨i,rfl,hi⟩
  ·rw[h4 _ zsy (Z3d a2)];exact h.ho
  ·rw[h4 _ zsy (Z3d a3)];exact h.ao
  ·have hm:=Z1y hi;rw[h4 _ (Z1o _ hm) (hd k hm).1];exact h.no i k hi
 ·rcases hkey r k hr with ⟨rfl,rfl⟩|⟨rfl,rfl⟩|⟨i,rfl,hi⟩
  ·rcases hkey q _ hq with ⟨rfl,_⟩|⟨rfl,e1⟩|⟨j,rfl,hj⟩
   ·rfl
   ·exact absurd e1 c1
   ·exact absurd rfl (hd _ (Z1y hj)).2.2.1
  ·rcases hkey q _ hq with ⟨rfl,e1⟩|⟨rfl,_⟩|⟨j,rfl,hj⟩
   ·exact absurd e1.symm c1
   ·rfl
   ·exact absurd rfl (hd _ (Z1y hj)).2.2.2
  ·rcases hkey q _ hq with ⟨rfl,e1⟩|⟨rfl,e1⟩|⟨j,rfl,hj⟩
   ·exact absurd e1 (hd _ (Z1y hi)).2.2.1
   ·exact absurd e1 (hd _ (Z1y hi)).2.2.2
   ·rw[(List.getElem?_inj (Z0v.1 hi).1 hn2.2.1).1 (hi.trans hj.symm)]
 ·rcases hkey r k hk with ⟨rfl,rfl⟩|⟨rfl,rfl⟩|⟨i,rfl,hi⟩
  ·exact⟨Z3d a2,Z3d b1⟩
  ·exact⟨Z3d a3,Z3d b2⟩
  ·exact⟨(hd _ (Z1y hi)).1,(hd _ (Z1y hi)).2.1⟩
 ·have h1:=h.old q hq;have hqs:q≠ks:=fun e1=>hq (e1▸h.new ks zsy);have hqn:q≠kn:=fun e1=>hq (e1▸h.new kn (by simp[nfK]));rw[ho',Q02 _ (Z3d hqs),Q02 _ (Z3d hqn),h1]
 ·rcases hq with rfl|rfl|⟨r,hr⟩
  ·simp
  ·simp
  ·rcases hkey r q hr with ⟨_,rfl⟩|⟨_,rfl⟩|⟨i,_,hi⟩
   ·simp
   ·simp
   ·exact Z1o _ (Z1y hi)
theorem FlR.mv{y:Lay}(h:FlR e y s ou){b:Bool}(hok:OuOk o1)(ho:o1=updO ou y.ks (.cells (solC e y b))):FlR e y (s.1,b) o1:=by
 have hne:∀q,q≠y.ks->o1 q=ou q:=fun q hq=>by rw[ho,Q02 _ (Z3d hq)]
 obtain⟨ck,l,m1,m2⟩:=h.mo;exact⟨by rw[ho];exact Q04 _ _ _,⟨ck,l,by rw[hne _ (Z3d h.sm)];exact m1,m2⟩,fun r k hk=>by rw[hne _ (h.ns r k hk).1];exact h.ro r k hk,h.zo,h.inj,h.ns,h.sm,h.w,hok⟩
theorem FStep.mv{y:Lay}{ik:Int->Option Nat}(h:FStep e y ou s (y.withI ik) ov){b:Bool}(hf:FlR e (y.withI ik) (s.1,b) o1)(ho:o1=updO ov y.ks (.cells (solC e (y.withI ik) b))):FStep e y ou (s.1,b) (y.withI ik) o1:=
 ⟨hf,h.same,h.ext,h.new,fun q hq hn=>by rw[ho,Q02 _ (fun e1=>hq (.inl e1.symm))];exact h.old q hq hn⟩
theorem Qoi(e:List Ex)(hE:FE e)(hne:1<=e.length)(ou:Outer):
  AFn Tryz.prog Γt 102 [.one (.sl 5 (e.map cEx))] ou (fun r ou'=>∃(y:Lay) (n:Nat),r=.one (.ptr (.o y.ks) 0)/\y.nk.length=e.length/\FlR e y (Q0q e n) ou'/\(Q0q e n).2=false/\∀k,ou k≠none->ou' k=ou k):=by
 have hel:=hE.l;refine zwk 85 Tryz.func102 fun hou=>?_;repeat ((fail_if_success ((with_reducible refine oj ?_);refine Qtz 10 rfl ?_));first|refine zO ?_)
 refine zS (AStep.makeMap rfl) ?_;repeat ((fail_if_success ((with_reducible refine oj ?_);refine Qtz 16 rfl ?_));first|refine zO ?_)
 have hL:words e<=1048576:=by unfold words;omega
 refine Qyw [0,1] rfl zdy hou fun k hk=>⟨[(15,.one (.ptr (.o (k+1)) 0)),(14,.one (.ptr (.o (k+1)) 0)),(13,.one (.ptr (.o (k+1)) 0)),(3,.one (.ptr (.o (k+1)) 0)),(0,.one (.sl 5 (e.map cEx)))],[],[.map 0 [],.cells [.sl 5 (e.map cEx),.lit (.slice none 0 0),.mp (.o k),.lit (.slice none 0 0),.lit (.slice none 0 0),.lit (.bool true)]],?_,.nil,?_,?_⟩
 ·exact .cons rfl rfl (.cons rfl rfl (.cons rfl rfl (.cons rfl rfl (.consT rfl zsy .nil))))
 ·exact .cons rfl rfl (.cons rfl (by simp only[AObj.sub,subL];rw[AC.sub_f (fun i hi=>by cases i with|l q=>exact hi.elim|o q=>rfl) (.sl 5 (e.map cEx)) zsy];rfl) .nil)
 have hk':∀m,k<=m->ou m=none:=hk;have hN1:=Quk (v:=.cells [.sl 5 (e.map cEx),.lit (.slice none 0 0),.mp (.o k),.lit (.slice none 0 0),.lit (.slice none 0 0),.lit (.bool true)]) (w:=.map 0 []) hk' hou zsy (fun x hx=>by simp at hx);show AOps _ _ _ _ _ ⟨_,[],ouAdd ou k _⟩;obtain⟨o1,ho1⟩:∃o1,o1=ouAdd ou k [.map 0 [],.cells [.sl 5 (e.map cEx),.lit (.slice none 0 0),.mp (.o k),.lit (.slice none 0 0),.lit (.slice none 0 0),.lit (.bool true)]]:=⟨_,rfl⟩;rw[←ho1]at hN1 ⊢;have hs1:o1 (k+1)=some (.cells [.sl 5 (e.map cEx),.lit (.slice none 0 0),.mp (.o k),.lit (.slice none 0 0),.lit (.slice none 0 0),.lit (.bool true)]):=hN1.own (k+1,_) Z1r;refine Qrb hΓt rfl rfl rfl rfl rfl rfl rfl ziy hN1.ok (Q9j e hel (k+1) _ _ _ _ _ o1 hs1) fun r o2 hq Qvd ho2=>?_;obtain⟨kh,rfl,hN2⟩:=hq;have hN12:=hN1.trans hN2;have hs2:=hN2.frame (M:=[(k+1,.cells [.sl 5 (e.map cEx),.lit (.slice none 0 0),.mp (.o k),.lit (.slice none 0 0),.lit (.slice none 0 0),.lit (.bool true)])]) (fun p hp=>by simp at hp;subst hp;exact hs1) (k+1,_) Z1r;refine zA ?_;refine Qrb hΓt rfl rfl rfl rfl rfl rfl rfl ziy hN2.ok (Q9j e hel (k+1) _ _ _ _ _ o2 hs2) fun r o3 hq Qvd ho3=>?_;obtain⟨ka,rfl,hN3⟩:=hq;have hN:=hN12.trans hN3;have hs3:o3 (k+1)=some (.cells [.sl 5 (e.map cEx),.lit (.slice none 0 0),.mp (.o k),.lit (.slice none 0 0),.lit (.slice none 0 0),.lit (.bool true)]):=hN.own (k+1,_) zsy;have hm3:o3 k=some (.map 0 []):=hN.own (k,_) zsy;have hh3:o3 kh=some (.cells (wC (Q16 e))):=hN.own (kh,_) zsy;have ha3:o3 ka=some (.cells (wC (Q16 e))):=hN.own (ka,_) zsy;have hnd:[k+1,k,kh,ka].Nodup:=by simpa[keys]using hN.nd
 have hnew:∀q∈[k+1,k,kh,ka],ou q=none:=fun q hq=>hN.new q (by simpa[keys]using hq);have hold:∀q,q∉[k+1,k,kh,ka]->o3 q=ou q:=fun q hq=>hN.old q (by simpa[keys]using hq);clear hN hN12 hN1 hN2 hN3 hs1 hs2;have e1:k≠k+1:=by omega
 have e2:kh≠k+1:=fun e=>by simp[e]at hnd
 have e3:ka≠k+1:=fun e=>by simp[e]at hnd
 have e4:kh≠k:=fun e=>by simp[e]at hnd
 have e5:ka≠k:=fun e=>by simp[e]at hnd
 have e6:ka≠kh:=fun e=>by simp[e]at hnd
 refine zA ?_;show AOps _ _ _ _ _ ⟨2,[],o3⟩;refine Qyy (c:=aS (words e) kh) tabOk rfl rfl rfl rfl rfl rfl rfl hs3 zsy ?_;rw[Q0n];obtain⟨o4,ho4⟩:∃o4,o4=updO o3 (k+1) (.cells [.sl 5 (e.map cEx),.lit (.slice none 0 0),.mp (.o k),aS (words e) kh,.lit (.slice none 0 0),.lit (.bool true)]):=⟨_,rfl⟩;show AOps _ _ _ _ _ ⟨2,[],updO o3 (k+1) (.cells [.sl 5 (e.map cEx),.lit (.slice none 0 0),.mp (.o k),aS (words e) kh,.lit (.slice none 0 0),.lit (.bool true)])⟩;rw[←ho4];have hs4:o4 (k+1)=some (.cells [.sl 5 (e.map cEx),.lit (.slice none 0 0),.mp (.o k),aS (words e) kh,.lit (.slice none 0 0),.lit (.bool true)]):=by rw[ho4,Q04]
 have Qvq:OuOk o4:=by rw[ho4];exact Q0m ho3 (by simp[isO])
 refine zA ?_;refine Qyy (c:=aS (words e) ka) tabOk rfl rfl rfl rfl rfl rfl rfl hs4 zsy ?_;rw[Q0n];obtain⟨o5,ho5⟩:∃o5,o5=updO o4 (k+1) (.cells [.sl 5 (e.map cEx),.lit (.slice none 0 0),.mp (.o k),aS (words e) kh,aS (words e) ka,.lit (.bool true)]):=⟨_,rfl⟩;show AOps _ _ _ _ _ ⟨2,[],updO o4 (k+1) (.cells [.sl 5 (e.map cEx),.lit (.slice none 0 0),.mp (.o k),aS (words e) kh,aS (words e) ka,.lit (.bool true)])⟩;rw[←ho5];have hs5:o5 (k+1)=some (.cells [.sl 5 (e.map cEx),.lit (.slice none 0 0),.mp (.o k),aS (words e) kh,aS (words e) ka,.lit (.bool true)]):=by rw[ho5,Q04]
 have Qvv:OuOk o5:=by rw[ho5];exact Q0m Qvq (by simp[isO])
 have hoth:∀q,q≠k+1->o5 q=o3 q:=fun q hq=>by rw[ho5,Q02 _ (Z3d hq),ho4,Q02 _ (Z3d hq)]
 have ha5:o5 ka=some (.cells (wC (Q16 e))):=by rw[hoth _ e3];exact ha3
 have hq:((e.map cEx).length:Int).tdiv 64=((e.length / 64:Nat):Int):=by rw[Z16,Qzu zoy];omega
 have hr:((e.map cEx).length:Int).tmod 64=((e.length % 64:Nat):Int):=by rw[Z16,Int.tmod_eq_emod_of_nonneg zoy];omega
 have hsh:∀j:Nat,IntKind.u64.wrap ((1:Int) * 2 ^ (((j % 64:Nat):Int)).toNat)=((2 ^ (j % 64):Nat):Int):=fun j=>by
  have h1:2 ^ (j % 64) < 18446744073709551616:=Nat.lt_of_lt_of_eq (Nat.pow_lt_pow_right zoy (Nat.mod_lt _ zoy)) (show 2 ^ 64=_ by decide);have h3:(2:Int) ^ (j % 64)=((2 ^ (j % 64):Nat):Int):=by simp
  rw[IntKind.wrap_u64,Qzv,Int.one_mul,h3];generalize 2 ^ (j % 64)=p at h1;omega
 refine zA ?_;refine zdx 11 [(3,.one (aS (words e) ka)),(6,.one (int ((e.length / 64:Nat):Int))),(9,.one (int ((e.length % 64:Nat):Int))),(10,.one (cW (2 ^ (e.length % 64))))] ?_ ?_
 ·refine .step rfl (zHP (zLD rfl rfl hs5 rfl)) ?_;refine .step rfl (zHP (Qut rfl rfl rfl zdy hq zI)) ?_;refine .step rfl (zHP (Quu rfl rfl rfl zdy hr)) ?_;exact .step rfl (zHP (Quv rfl rfl rfl zoy (by show ((e.length % 64:Nat):Int)<=64;omega) (hsh e.length))) .nil
 have hlw:e.length / 64 < words e:=by unfold words;omega
 refine zS (Qsb (n:=e.length / 64) tabOk rfl rfl rfl rfl rfl rfl rfl hlw) ?_;refine Qyy (c:=cW (2 ^ (e.length % 64))) tabOk rfl rfl rfl rfl rfl rfl rfl ha5 (by simp[Q16];omega) ?_;rw[Q0n,show (wC (Q16 e)).set (0 * 1+e.length / 64 * 1) (cW (2 ^ (e.length % 64)))=wC (Q58 e e.length) by rw[Z3c,Z3a,Z36,Qki];rfl];obtain⟨o6,ho6⟩:∃o6,o6=updO o5 ka (.cells (wC (Q58 e e.length))):=⟨_,rfl⟩;rw[←ho6];have Qwv:OuOk o6:=by rw[ho6];exact Q0m Qvv zsy
 have hB:BI e (k+1) k kh ka [] none ou o6:={
  so:=by rw[ho6,Q02 _ e3];exact hs5
  mo:=by rw[ho6,Q02 _ e5,hoth _ e1];exact hm3
  ho:=by rw[ho6,Q02 _ e6,hoth _ e2];exact hh3
  ao:=by rw[ho6,Q04]
  no:=fun i q hq=>by simp at hq
  fo:=fun kn cap hq=>by cases hq
  fn:=fun _=>rfl
  nd:=by simpa[nfK]using hnd
  new:=fun q hq=>hnew q (by simpa[nfK]using hq)
  old:=fun q hq=>by have hne:q∉[k+1,k,kh,ka]:=fun h=>hq (hnew q h);rw[ho6,Q02 _ (fun e=>hne (by simp[e])),hoth _ (fun e=>hne (by simp[e])),hold q hne]
  ok:=Qwv }
 clear hs3 hm3 hh3 ha3 hnd hnew hold e1 e2 e3 e4 e5 e6 hs4 Qvq hs5 Qvv hoth ha5 ho4 ho5 ho6 hk hk' ho1;refine zA ?_;refine Qre hΓt (α:=Nat×List Nat×Option (Nat×Nat)×Outer) (fun c=>[(37,.one (int c.1)),(36,.one (int (e.map cEx).length)),(35,.one (.sl 5 (e.map cEx))),(3,.one (.ptr (.o (k+1)) 0)),(0,.one (.sl 5 (e.map cEx)))]) (fun c=>⟨0,[],c.2.2.2⟩)
  (fun m c=>(c.1<=e.length/\c.2.1.length=c.1/\BI e (k+1) k kh ka c.2.1 c.2.2.1 ou c.2.2.2)/\m=e.length - c.1)
  (a0:=(0,[],none,o6)) (ρ:=_root_.id) ⟨⟨by omega,rfl,hB⟩,rfl⟩ (Qzw rfl zFS zsy zLO rfl rfl Qwv) fun m c hc=>?_
 clear hB Qwv;obtain⟨j,nk,nf,ov⟩:=c;obtain⟨⟨hjl,hnl,hB⟩,rfl⟩:=hc;dsimp only at hjl hnl hB;have hov:=hB.ok;have hs:=hB.so;refine zA ?_;refine Qyl rfl (fun hb=>?_) (fun hb=>?_)
 ·have hlt:j < e.length:=by simp at hb;omega
  obtain⟨x,hx⟩:=Q00 hlt;refine zA ?_;refine zS (zIA rfl rfl rfl zoy (Q0c hx)) ?_;refine zA ?_;refine Qrb hΓt rfl rfl rfl rfl rfl rfl rfl ziy hov (Q9j e hel (k+1) _ _ _ _ _ ov hs) fun r o1 hq Qvd ho1=>?_;obtain⟨q,rfl,hN⟩:=hq;have Qwu:ov q=none:=hN.new q (by simp[keys]);have hkq:k+1≠q:=fun e1=>hB.ne0 (k+1) zsy (e1▸Qwu);have hq1:o1 q=some (.cells (wC (Q16 e))):=hN.own (q,_) Z1r;refine zA ?_;refine Qyl rfl (fun hb2=>?_) (fun hb2=>?_)
  ·have h2:x.op=2:=by simpa using hb2
   have hjq:((j:Nat):Int).tdiv 64=((j / 64:Nat):Int):=by rw[Qzu zoy];omega
   have hjr:((j:Nat):Int).tmod 64=((j % 64:Nat):Int):=by rw[Int.tmod_eq_emod_of_nonneg zoy];omega
   have hjw:j / 64 < words e:=by unfold words;omega
   refine zA ?_;refine zS (Qut rfl rfl rfl zdy hjq zI) ?_;refine zA ?_;refine zS (Quu rfl rfl rfl zdy hjr) ?_;refine zS (Quv rfl rfl rfl zoy (by show ((j % 64:Nat):Int)<=64;omega) (hsh j)) ?_;refine zS (Qsb (n:=j / 64) tabOk rfl rfl rfl rfl rfl rfl rfl hjw) ?_;refine Qyy (c:=cW (2 ^ (j % 64))) tabOk rfl rfl rfl rfl rfl rfl rfl hq1 (by simp[Q16];omega) ?_;rw[Q0n,show (wC (Q16 e)).set (0 * 1+j / 64 * 1) (cW (2 ^ (j % 64)))=wC (Q58 e j) by rw[Z3c,Z3a,Z36,Qki];rfl];obtain⟨o2,hO2⟩:∃o2,o2=updO o1 q (.cells (wC (Q58 e j))):=⟨_,rfl⟩;rw[←hO2];have Qvp:OuOk o2:=by rw[hO2];exact Q0m ho1 zsy
   have ho2:∀p,p≠q->o2 p=o1 p:=fun p hp=>by rw[hO2,Q02 _ (Z3d hp)]
   have hq2:o2 q=some (.cells (wC (Q1i e (.node j)))):=by rw[hO2,Q04];simp only[Q1i];rw[Q0b hx,if_pos h2]
   have hs2:o2 (k+1)=some (.cells [.sl 5 (e.map cEx),nfC (words e) nk nf,.mp (.o k),aS (words e) kh,aS (words e) ka,.lit (.bool true)]):=by rw[ho2 _ hkq,hN.old _ (by simpa[keys]using hkq)];exact hs
   obtain⟨cap0,o3,hbase,Qvl,hb3,hb3n⟩:=Qhw hB (o2:=o2) (fun p hp=>by have hp2:p∈[k+1,k,kh,ka]++nk++nfK nf:=Z1o _ hp;have hpq:p≠q:=fun e1=>hB.ne0 p hp2 (e1▸Qwu);rw[ho2 p hpq,hN.old p (by simpa[keys]using hpq)]);repeat' first|refine zN ?_|((with_reducible refine oj ?_);first|refine zix ?_|refine zow rfl rfl hs2 ?_)
   refine Qyu tabOk rfl rfl rfl rfl rfl rfl rfl rfl rfl (hbase _ _) (.sl 1 [[aS (words e) q]]) zsy rfl (by show (_+1) * 24<=_;simp[nC];omega) (by simp[nC];omega) fun cap hcap=>?_;have hnc:nC (words e) nk++[[aS (words e) q]]=nC (words e) (nk++[q]):=by simp[nC]
   rw[hnc]at hcap ⊢;have Qwd:(AObj.cells (vec 1 (nC (words e) (nk++[q])) cap)).ids isO:=Q29 _ (Qie isO (fun _=>trivial) _ _);refine Qyw [1] rfl zdy (Qvl Qvp) fun kn hkn=>⟨[(61,.one (.arr (.o kn) 1 0 (nC (words e) (nk++[q])).length cap)),(54,.one (.ptr (.o (k+1)) 0)),(37,.one (int j)),(36,.one (int (e.map cEx).length)),(35,.one (.sl 5 (e.map cEx))),(3,.one (.ptr (.o (k+1)) 0)),(0,.one (.sl 5 (e.map cEx)))],[],[.cells (vec 1 (nC (words e) (nk++[q])) cap)],?_,.nil,?_,?_⟩
   ·exact .cons rfl rfl (.consT rfl (by simp[isO]) (.consT rfl zsy (.consT rfl zsy (.consT rfl zsy (.consT rfl (by simp[isO]) (.consT rfl zsy .nil))))))
   ·exact .cons rfl (Qys (fun i hi=>by cases i with|l q=>exact hi.elim|o q=>rfl) _ Qwd) .nil
   have Qw6:∀m,kn<=m->o3 m=none:=hkn;have Qvq:OuOk (ouAdd o3 kn [.cells (vec 1 (nC (words e) (nk++[q])) cap)]):=Q64 (Qvl Qvp) fun o ho=>by simp only[Z1p,Z28,or_false]at ho;subst ho;exact Qwd
   have hs3:o3 (k+1)=some (.cells [.sl 5 (e.map cEx),nfC (words e) nk nf,.mp (.o k),aS (words e) kh,aS (words e) ka,.lit (.bool true)]):=by rw[hb3 _ (fun h1=>(Z26.1 hB.nd).2.2 (k+1) zsy (k+1) h1 rfl)];exact hs2
   have hs4:ouAdd o3 kn [.cells (vec 1 (nC (words e) (nk++[q])) cap)] (k+1)=some (.cells [.sl 5 (e.map cEx),nfC (words e) nk nf,.mp (.o k),aS (words e) kh,aS (words e) ka,.lit (.bool true)]):=by rw[Q14 (Q4u Qw6 hs3)];exact hs3
   show AOps _ _ _ _ _ ⟨_,[],ouAdd o3 kn [.cells (vec 1 (nC (words e) (nk++[q])) cap)]⟩;obtain⟨o4,ho4⟩:∃o4,o4=ouAdd o3 kn [.cells (vec 1 (nC (words e) (nk++[q])) cap)]:=⟨_,rfl⟩;rw[←ho4]at Qvq hs4 ⊢;refine zA ?_;refine Qyy (c:=.arr (.o kn) 1 0 (nC (words e) (nk++[q])).length cap) tabOk rfl rfl rfl rfl rfl rfl rfl hs4 zsy ?_;rw[Q0n];obtain⟨o5,ho5⟩:∃o5,o5=updO o4 (k+1) (.cells [.sl 5 (e.map cEx),nfC (words e) (nk++[q]) (some (kn,cap)),.mp (.o k),aS (words e) kh,aS (words e) ka,.lit (.bool true)]):=⟨_,rfl⟩;show AOps _ _ _ _ _ ⟨_,[],updO o4 (k+1) (.cells [.sl 5 (e.map cEx),nfC (words e) (nk++[q]) (some (kn,cap)),.mp (.o k),aS (words e) kh,aS (words e) ka,.lit (.bool true)])⟩;rw[←ho5];have Qvv:OuOk o5:=by rw[ho5];exact Q0m Qvq (by simp[isO,nfC])
   have hB5:=BI.step (nk:=nk) hB hN (by rw[hnl];exact hq2) ho2 hb3 hb3n Qw6 hcap Qvv (by rw[ho5,ho4]);refine zM ?_;exact cInv ⟨e.length - (j+1),(j+1,nk++[q],some (kn,cap),o5),_root_.id,by omega,⟨⟨by omega,by simp[hnl],hB5⟩,rfl⟩,Qzw rfl zFS zsy zLO rfl rfl Qvv⟩
  ·have h2:x.op≠2:=by simpa using hb2
   obtain⟨o2,hO2⟩:∃o2,o2=o1:=⟨_,rfl⟩;rw[←hO2];have Qvp:OuOk o2:=by rw[hO2];exact ho1
   have ho2:∀p,p≠q->o2 p=o1 p:=fun p hp=>by rw[hO2]
   have hq2:o2 q=some (.cells (wC (Q1i e (.node j)))):=by rw[hO2,hq1];simp only[Q1i];rw[Q0b hx,if_neg h2]
   have hs2:o2 (k+1)=some (.cells [.sl 5 (e.map cEx),nfC (words e) nk nf,.mp (.o k),aS (words e) kh,aS (words e) ka,.lit (.bool true)]):=by rw[ho2 _ hkq,hN.old _ (by simpa[keys]using hkq)];exact hs
   obtain⟨cap0,o3,hbase,Qvl,hb3,hb3n⟩:=Qhw hB (o2:=o2) (fun p hp=>by have hp2:p∈[k+1,k,kh,ka]++nk++nfK nf:=Z1o _ hp;have hpq:p≠q:=fun e1=>hB.ne0 p hp2 (e1▸Qwu);rw[ho2 p hpq,hN.old p (by simpa[keys]using hpq)]);repeat' first|refine zN ?_|((with_reducible refine oj ?_);first|refine zix ?_|refine zow rfl rfl hs2 ?_)
   refine Qyu tabOk rfl rfl rfl rfl rfl rfl rfl rfl rfl (hbase _ _) (.sl 1 [[aS (words e) q]]) zsy rfl (by show (_+1) * 24<=_;simp[nC];omega) (by simp[nC];omega) fun cap hcap=>?_;have hnc:nC (words e) nk++[[aS (words e) q]]=nC (words e) (nk++[q]):=by simp[nC]
   rw[hnc]at hcap ⊢;have Qwd:(AObj.cells (vec 1 (nC (words e) (nk++[q])) cap)).ids isO:=Q29 _ (Qie isO (fun _=>trivial) _ _);refine Qyw [1] rfl zdy (Qvl Qvp) fun kn hkn=>⟨[(61,.one (.arr (.o kn) 1 0 (nC (words e) (nk++[q])).length cap)),(54,.one (.ptr (.o (k+1)) 0)),(37,.one (int j)),(36,.one (int (e.map cEx).length)),(35,.one (.sl 5 (e.map cEx))),(3,.one (.ptr (.o (k+1)) 0)),(0,.one (.sl 5 (e.map cEx)))],[],[.cells (vec 1 (nC (words e) (nk++[q])) cap)],?_,.nil,?_,?_⟩
   ·exact .cons rfl rfl (.consT rfl (by simp[isO]) (.consT rfl zsy (.consT rfl zsy (.consT rfl zsy (.consT rfl (by simp[isO]) (.consT rfl zsy .nil))))))
   ·exact .cons rfl (Qys (fun i hi=>by cases i with|l q=>exact hi.elim|o q=>rfl) _ Qwd) .nil
   have Qw6:∀m,kn<=m->o3 m=none:=hkn;have Qvq:OuOk (ouAdd o3 kn [.cells (vec 1 (nC (words e) (nk++[q])) cap)]):=Q64 (Qvl Qvp) fun o ho=>by simp only[Z1p,Z28,or_false]at ho;subst ho;exact Qwd
   have hs3:o3 (k+1)=some (.cells [.sl 5 (e.map cEx),nfC (words e) nk nf,.mp (.o k),aS (words e) kh,aS (words e) ka,.lit (.bool true)]):=by rw[hb3 _ (fun h1=>(Z26.1 hB.nd).2.2 (k+1) zsy (k+1) h1 rfl)];exact hs2
   have hs4:ouAdd o3 kn [.cells (vec 1 (nC (words e) (nk++[q])) cap)] (k+1)=some (.cells [.sl 5 (e.map cEx),nfC (words e) nk nf,.mp (.o k),aS (words e) kh,aS (words e) ka,.lit (.bool true)]):=by rw[Q14 (Q4u Qw6 hs3)];exact hs3
   show AOps _ _ _ _ _ ⟨_,[],ouAdd o3 kn [.cells (vec 1 (nC (words e) (nk++[q])) cap)]⟩;obtain⟨o4,ho4⟩:∃o4,o4=ouAdd o3 kn [.cells (vec 1 (nC (words e) (nk++[q])) cap)]:=⟨_,rfl⟩;rw[←ho4]at Qvq hs4 ⊢;refine zA ?_;refine Qyy (c:=.arr (.o kn) 1 0 (nC (words e) (nk++[q])).length cap) tabOk rfl rfl rfl rfl rfl rfl rfl hs4 zsy ?_;rw[Q0n];obtain⟨o5,ho5⟩:∃o5,o5=updO o4 (k+1) (.cells [.sl 5 (e.map cEx),nfC (words e) (nk++[q]) (some (kn,cap)),.mp (.o k),aS (words e) kh,aS (words e) ka,.lit (.bool true)]):=⟨_,rfl⟩;show AOps _ _ _ _ _ ⟨_,[],updO o4 (k+1) (.cells [.sl 5 (e.map cEx),nfC (words e) (nk++[q]) (some (kn,cap)),.mp (.o k),aS (words e) kh,aS (words e) ka,.lit (.bool true)])⟩;rw[←ho5];have Qvv:OuOk o5:=by rw[ho5];exact Q0m Qvq (by simp[isO,nfC])
   have hB5:=BI.step (nk:=nk) hB hN (by rw[hnl];exact hq2) ho2 hb3 hb3n Qw6 hcap Qvv (by rw[ho5,ho4]);refine zM ?_;exact cInv ⟨e.length - (j+1),(j+1,nk++[q],some (kn,cap),o5),_root_.id,by omega,⟨⟨by omega,by simp[hnl],hB5⟩,rfl⟩,Qzw rfl zFS zsy zLO rfl rfl Qvv⟩
 have hje:j=e.length:=by simp at hb;omega
 subst hje;obtain⟨kn,cap,rfl⟩:∃kn cap,nf=some (kn,cap):=by
  cases nf with
  |none=>rw[hB.fn rfl]at hnl;simp at hnl;omega
  |some p=>exact⟨p.1,p.2,rfl⟩
 have hkn:=(hB.fo kn cap rfl).1;have hkk:k+1≠kn:=fun e1=>(Z26.1 hB.nd).2.2 (k+1) zsy kn (by simp[nfK]) e1;refine zA ?_;refine ACode.freezeArrO (.o kn) (.o (k+1)) 1 (s:=1) (cap:=cap) (es:=nC (words e) nk) (cs:=[.sl 5 (e.map cEx),.arr (.o kn) 1 0 (nC (words e) nk).length cap,.mp (.o k),aS (words e) kh,aS (words e) ka,.lit (.bool true)]) hkn (fun x hx=>by obtain⟨q,_,rfl⟩:=Z1w.1 hx;rfl) (by rw[Q0n];show updO _ _ _ _=_;rw[Q02 _ (Z3d hkk)];exact hs) rfl ?_;rw[Q0n,Q0n];obtain⟨o0,ho0⟩:∃o0,o0=updO (updO ov kn .dead) (k+1) (.cells (solC e ⟨k+1,k,kh,ka,nk,fun _=>none⟩ true)):=⟨_,rfl⟩;show ACode _ _ _ _ ⟨_,_,updO (updO ov kn .dead) (k+1) (.cells (solC e ⟨k+1,k,kh,ka,nk,fun _=>none⟩ true))⟩;rw[←ho0];obtain⟨y,hy⟩:∃y:Lay,y=⟨k+1,k,kh,ka,nk,fun _=>none⟩:=⟨_,rfl⟩;have hok0:OuOk o0:=by rw[ho0];exact Q0m (Q0m hov trivial) (by have:=Qie isO (fun _=>trivial) (words e) nk;simp[solC,isO,this])
 obtain⟨hFR,hold,hfresh⟩:=hB.toFR hok0 ho0;rw[←hy]at hFR hfresh;have hyk:y.ks=k+1:=by rw[hy]
 have hyn:y.nk.length=e.length:=by rw[hy];exact hnl
 have h0W:AllW e (Q1i e):=Q37 e;rw[←hyk];clear hB hnl hkn hkk hs hov hb hjl;refine Qre hΓt (α:=Nat×(Int->Option Nat)×Outer) (fun c=>[(3,.one (.ptr (.o y.ks) 0)),(0,.one (.sl 5 (e.map cEx)))]) (fun c=>⟨0,[],c.2.2⟩)
  (fun m c=>FStep e y o0 (Q0q e c.1) (y.withI c.2.1) c.2.2/\m=if (Q0q e c.1).2=true then lackR (refsOf e) (Q0q e c.1).1+1 else 0)
  (a0:=(0,y.ik,o0)) (ρ:=_root_.id) ⟨Qzm hFR,rfl⟩ (Qzw rfl zFS zsy zLO rfl rfl hok0) fun m c hc=>?_
 obtain⟨n,ik1,ov⟩:=c;obtain⟨hU,rfl⟩:=hc;dsimp only at hU;obtain⟨hWn,hGn⟩:=Q5e h0W n;have hov:=hU.fr.ok;have hs:ov y.ks=some (.cells [.sl 5 (e.map cEx),.sl 1 (nC (words e) y.nk),.mp (.o y.km),aS (words e) y.kh,aS (words e) y.ka,.lit (.bool (Q0q e n).2)]):=by have h0:=Qus hU.fr;exact h0
 obtain⟨mv,hmv⟩:∃mv,mv=(Q0q e n).2:=⟨_,rfl⟩;rw[←hmv]at hs;repeat' first|refine zN ?_|((with_reducible refine oj ?_);first|refine zix ?_|refine zow rfl rfl hs ?_)
 cases mv with
 |false=>
  refine zA ?_;refine Qst rfl (Z46 rfl) zsy hov ⟨y.withI ik1,n,rfl,hyn,hU.fr,hmv.symm,fun q hq=>?_⟩;show ov q=ou q;rw[hU.old q (fun h=>hq (hfresh q h)) (by rw[hold q hq];exact hq),hold q hq]
 |true=>
  refine zA ?_;refine Qyy (c:=.lit (.bool false)) tabOk rfl rfl rfl rfl rfl rfl rfl hs zsy ?_;rw[Q0n];obtain⟨o1,ho1⟩:∃o1,o1=updO ov y.ks (.cells (solC e (y.withI ik1) false)):=⟨_,rfl⟩;show AOps _ _ _ _ _ ⟨_,_,updO ov y.ks (.cells (solC e (y.withI ik1) false))⟩;rw[←ho1];have Qx0:OuOk o1:=by rw[ho1];exact Q0m hov (by have:=Qie isO (fun _=>trivial) (words e) y.nk;simp[solC,isO,this,Lay.withI])
  have hF1:FlR e (y.withI ik1) ((Q0q e n).1,false) o1:=hU.fr.mv Qx0 ho1;have hU1:FStep e y o0 ((Q0q e n).1,false) (y.withI ik1) o1:=hU.mv hF1 ho1;refine zA ?_;refine Qre hΓt (α:=Nat×(Int->Option Nat)×Outer) (fun c=>[(74,.one (int c.1)),(73,.one (int (e.map cEx).length)),(72,.one (.sl 5 (e.map cEx))),(3,.one (.ptr (.o y.ks) 0)),(0,.one (.sl 5 (e.map cEx)))]) (fun c=>⟨0,[],c.2.2⟩)
   (fun m c=>(c.1<=e.length/\FStep e y o0 (passN e c.1 ((Q0q e n).1,false)) (y.withI c.2.1) c.2.2)/\m=e.length - c.1)
   (a0:=(0,ik1,o1)) (ρ:=_root_.id) ⟨⟨by omega,hU1⟩,rfl⟩ (Qzw rfl zFS zsy zLO rfl rfl Qx0) fun m c hc=>?_
  clear hU1 hF1 Qx0 ho1 hs hU hov;obtain⟨j,ik1,ov⟩:=c;obtain⟨⟨hjl,hU⟩,rfl⟩:=hc;dsimp only at hjl hU;have hov:=hU.fr.ok;obtain⟨hWj,hGj⟩:=Q9c (s:=((Q0q e n).1,false)) hWn hGn j;refine zA ?_;refine Qyl rfl (fun hb=>?_) (fun hb=>?_)
  ·have hlt:j < e.length:=by simp at hb;omega
   obtain⟨x,hx⟩:=Q00 hlt;refine zA ?_;refine zS (zIA rfl rfl rfl zoy (Q0c hx)) ?_;refine zA ?_;refine Qrb hΓt rfl rfl rfl rfl rfl rfl rfl ziy hov (node_ok e hE (y.withI ik1) _ ov hU.fr hGj hyn j x hx) fun r ow hqq Qvd how=>?_;obtain⟨rfl,y',hst⟩:=hqq;obtain⟨ik2,rfl⟩:=hst.same;refine zM ?_;refine cInv ⟨e.length - (j+1),(j+1,ik2,ow),_root_.id,by omega,⟨⟨by omega,?_⟩,rfl⟩,Qzw rfl zFS zsy zLO rfl rfl how⟩;dsimp only;rw[Q7z];unfold nodeF;rw[Q0b hx];exact Qzn hFR hU hst
  ·have hje:j=e.length:=by simp at hb;omega
   subst hje;have hsn:Q0q e (n+1)=passN e e.length ((Q0q e n).1,false):=by
    conv=>lhs;unfold Q0q
    rw[if_pos hmv.symm];rfl
   refine zA ?_;refine cInv ⟨_,(n+1,ik1,ov),_root_.id,?_,⟨by rw[hsn];exact hU,rfl⟩,Qzw rfl zFS zsy zLO rfl rfl hov⟩;dsimp only;rw[if_pos hmv.symm,hsn];split
   ·rename_i hmv2;have:=Qbk hWn hGn hmv2;unfold passF at this;omega
   ·omega
end Go.Proofs.YtlmokgooijbcdaaGreatDoor
namespace Go.CoreX
section
variable {ν:Int->Int}
end
end Go.CoreX
namespace Go.CoreX
def mapR (ν:Int->Int):Ref->Ref
 |.idn x=>.idn (ν x)
 |r=>r
def RefIn (S:Int->Prop):Ref->Prop
 |.idn x=>S x
 |_=>True
@[simp] theorem mapR_nodeR (ν:Int->Int) (k:Int):mapR ν (nodeR k)=nodeR k:=rfl
@[simp] theorem refIn_nodeR (S:Int->Prop) (k:Int):RefIn S (nodeR k):=trivial
theorem getD_in(h:k < l.length):l.getD k 0∈l:=by rw[Z0o,Z0t h];exact Z11 h
end Go.CoreX
namespace Go.Proofs.YtlmokgooijbcdaaGreatDoor
def Q5r (e:List Ex)(i:Nat)(x:Ex):Nat×List Nat×Bool:=
 let s:=elems (Q19 e (nodeR (x.kids.getD 0 0)))
 (i,s.filter (fun f=>f != e.length),s.contains e.length)
def Q1k (e:List Ex):List (Nat×List Nat×Bool):=(List.range e.length).flatMap fun i=>if (e.getD i ⟨0,0,[],[],[]⟩).op=3 then [Q5r e i (e.getD i ⟨0,0,[],[],[]⟩)]else []
theorem stops(h0:AllW e (Q1i e)):∃n,(Q0q e n).2=false:=by
 refine⟨lackR (refsOf e) (Q1i e)+1,?_⟩;cases hb:(Q0q e (lackR (refsOf e) (Q1i e)+1)).2 with
 |false=>rfl
 |true=>
  have:=Q6m h0 _ hb;omega
end Go.Proofs.YtlmokgooijbcdaaGreatDoor
namespace Go.Abs
open Go.RowKit
def SeqB {α:Type}(P:Program)(gf:Nat)(first:Array Value)(encs:α->Array Value)(Kp:World->World->Prop)(S:List α->Prop)(N:Nat)(w:World):Prop:=
 ∀(l:Nat) (J:List α->World->Prop) (W:World),Below w.heap.size w W->
  (∀pre x W1,J pre W1->pre.length < N->YieldAt Fence.wide 0 P l (encs x) W1 fun e W'=>e=.returned (.bool true)/\J (pre++[x]) W'/\Kp W1 W')->
  J [] W->CallsIn Fence.wide 1 P gf (first++#[.func (.yield l) #[] #[]]) W fun e W'=>(∃v,e=.returned v)/\∃xs,S xs/\J xs W'
def Q96 (B:Nat)(r:Loop)(W:World):Prop:=W.heap[B+1]?=some (.loop r)/\W.heap[B]?=some (.deferred (some []))
theorem Q96.put{r r':Loop}(h:Q96 B r W):Q96 B r' (W.putObj (B+1) (.loop r')):=
 ⟨World.putObj_heap_same (Array.getElem?_eq_some_iff.1 h.1).1,(Z4a zoy).trans h.2⟩
theorem Q96.keep{r:Loop}{W':World}(h:Q96 B r W)(k:KeepsFrom B W W'):Q96 B r W':=⟨k.same _ _ zoy h.1 rfl,k.same _ _ (Z30 _) h.2 rfl⟩
theorem Qfw{a:Act}{Kp:World->World->Prop}
  (hg:a.eval g=.func (.func gf) first #[]) (eg:∀args w,(callFunc gf args).run P w=.ok (.enter gf args) w) (hseq:SeqB P gf first encs Kp S N w)
  (hKt:∀{A B C:World},Kp A B->Kp B C->Kp A C) (hKb:∀(W:World) (l:Nat) (o o':Obj),w.heap.size<=l->W.heap[l]?=some o->o.isCells=false->o.isWalk=false->Kp W (W.putObj l o')) (hps:∀x,(encs x).size=ps.size)
  (I:List α->World->Prop) (hI:OwnFrom w.heap.size I) (h0:I [] w) (a1:α->Act)
  (hassign:∀(l:Nat) (x:α) (W:World) (K:Act->World->Prop),K (a1 x) W->assign.wpIn (Fence.wide.inRound l) 0 P (Exit.then K (fun _ _ _=>False)) { tmps:=(ps.zip (encs x)).foldl (fun t (p,v)=>t.setIfInBounds p v) a.tmps,defers:=[] } W)
  (hbody:∀(l:Nat) (pre:List α) (x:α) (W:World),I pre W->pre.length < N->body.wpIn (Fence.wide.inRound l) 0 P (fun e _ W'=>e=.normal/\KeepsFrom w.heap.size W W'/\Kp W W'/\I (pre++[x]) W') (a1 x) W)
  (hdone:∀(D:Nat) (xs:List α) (W:World),w.heap.size<=D->S xs->I xs W->W.heap[D]?=some (.deferred (some []))->Q .normal { a with defers:={ target:=.collected D,args:=#[] }::a.defers } W):
  (Code.rangeFunc g ps assign body).wpIn Fence.wide 2 P Q a w:=by
 obtain⟨B,hB⟩:∃B,B=w.heap.size:=⟨_,rfl⟩;refine wpIn_rangeFunc fun fn hfn=>?_
 let r0:Loop:={ state:=.ready,pending:=none,fn,tmps:=a.tmps,params:=ps,assign,body,defers:=w.heap.size }
 let w1:World:=(w.alloc (.deferred (some []))).alloc (.loop r0)
 have hlaid:Q96 B r0 w1:=by
  rw[hB];constructor
  ·have:=World.alloc_heap_new (w.alloc (.deferred (some []))) (.loop r0);rwa [World.size_alloc]at this
  ·exact (Below.heap_alloc _ _ _ zsy).trans (World.alloc_heap_new w _)
 have hI1:I [] w1:=hI.alloc _ (hI.alloc _ h0);have Qxp:Below w.heap.size w w1:=((Below.refl _ w).alloc (Z30 _) _).alloc zsy _;refine⟨B+1,[{ target:=.collected B,args:=#[] }],w1,{ target:=.fn (.func gf) #[],args:=first++#[.func (.yield (B+1)) #[] #[]] },w1,gf,first++#[.func (.yield (B+1)) #[] #[]],w1,?_,?_,?_,?_,fun _=>(by omega),?_⟩
 ·rw[hB];exact run_enterLoop_outer _ _ _ _ _
 ·simp only[resolve,hg];simp[go_sem]
 ·intro f' _;trivial
 ·simp[invoke,go_sem,eg]
 ·refine (hseq (B+1) (fun pre W=>I pre W/\Q96 B r0 W) w1 Qxp ?_ ⟨hI1,hlaid⟩).mono ?_
  ·rintro pre x W ⟨hi,hl⟩ hlen;refine⟨fn,_,assign,body,run_yield (P:=P) (args:=encs x) hl.1 (hps x),roundIn_of_wpIn hfn (hassign _ x W _ ⟨_,run_beginRound hl.1 rfl,?_⟩)⟩;refine wpIn_mono (hbody (B+1) pre x _ (hI.putObj _ hi zoy hl.1 rfl) hlen) ?_;rintro e a3 W3 ⟨rfl,hk,hkp,hi3⟩;have hl2:=(hl.put (r':={ r0 with state:=.busy })).keep (by rw[←hB]at hk;exact hk);have hkb:Kp W (W.putObj (B+1) (.loop { r0 with state:=.busy })):=hKb _ _ _ _ zoy hl.1 rfl rfl;refine⟨_,_,run_endRound (P:=P) none hl2.1,rfl,⟨hI.putObj _ hi3 zoy hl2.1 rfl,hl2.put⟩,?_⟩;exact hKt (hKt hkb hkp) (hKb _ _ _ _ zoy hl2.1 rfl rfl)
  ·rintro e W2 ⟨⟨v,rfl⟩,xs,hS,hi,hl⟩;exact⟨none,_,run_endLoop (P:=P) hl.1 (by simp[r0]),hdone B xs _ zoy hS (hI.putObj _ hi zoy hl.1 rfl) ((Z4a zoy).trans hl.2)⟩
end Go.Abs
namespace Go.Abs
def KpA (C:Ctx)(b L:Nat)(A B:World):Prop:=KpC C A B/\∀j,j < L->B.cell? ⟨b,j,none⟩=A.cell? ⟨b,j,none⟩
theorem KpA.trans{C:Ctx}{b L:Nat}{X Y Z:World}(h:KpA C b L X Y)(k:KpA C b L Y Z):KpA C b L X Z:=⟨⟨h.1.1.trans k.1.1,fun a ha=>(k.1.2 a ha).trans (h.1.2 a ha)⟩,fun j hj=>(k.2 j hj).trans (h.2 j hj)⟩
theorem Qle(J:List α->St->Prop)(a1:α->Array Value)(b L:Nat)
  (hgo:Goes F isO w0 C0 w C) (hi:Inv E.Γ F w C σ) (hf:FrOk w C E.N fr tmps) (hJ:∀pre σ,J pre σ->Q28 σ) (hj0:J [] σ) (hfi:∀k x,Fr.get k fr=some x->x.ids isO)
  (hg:Act.eval ⟨tmps,E.ds⟩ g=.func (.func gf) first #[]) (eg:∀args w,(callFunc gf args).run E.P w=.ok (.enter gf args) w)
  (hseq:SeqB E.P gf first encs (KpA C b L) S N w) (hb:b < w.heap.size) (hps:∀x,(encs x).size=ps.size)
  (hkeep:∀(pre:List α) (x:α) (W W':World) (C' C'':Ctx) (σ' σ'':St),Goes F isO w C W C'->Inv E.Γ (Q17 F W) W C' σ'->J pre σ'->Goes (Q17 F W) isO W C' W' C''->Inv E.Γ (Q17 F W) W' C'' σ''->J (pre++[x]) σ''->∀j,j < L->W'.cell? ⟨b,j,none⟩=W.cell? ⟨b,j,none⟩)
  (hassign:∀(l:Nat) (x:α) (W:World) (K:Act->World->Prop),K ⟨a1 x,[]⟩ W->assign.wpIn (Q56 l) 0 E.P (Exit.then K (fun _ _ _=>False)) { tmps:=(ps.zip (encs x)).foldl (fun t (p,v)=>t.setIfInBounds p v) tmps,defers:=[] } W)
  (hbody:∀(l:Nat) (pre:List α) (x:α) (W:World) (C':Ctx) (σ':St),pre.length < N->Goes F isO w C W C'->Inv E.Γ (Q17 F W) W C' σ'->FrOk W C' E.N fr tmps->J pre σ'->
   body.wpIn (Q56 l) 0 E.P (Post { E with ds:=[] } (Q17 F W) W C' (fun e _ σ''=>e=.normal/\J (pre++[x]) σ'')) ⟨a1 x,[]⟩ W)
  (hdone:∀(D:Nat) (xs:List α) (W:World) (C':Ctx) (σ':St),w.heap.size<=D->S xs->Goes F isO w0 C0 W C'->Inv E.Γ F W C' σ'->FrOk W C' E.N fr tmps->J xs σ'->W.heap[D]?=some (.deferred (some []))->Q .normal ⟨tmps,{ target:=.collected D,args:=#[] }::E.ds⟩ W):
  (Code.rangeFunc g ps assign body).wp E.P Q ⟨tmps,E.ds⟩ w:=by
 have hgl:∀g cs,(g,cs)∈E.Γ->g < w.heap.size:=fun g cs hm=>hi.prot _ (hi.glob g cs hm).pr;have hFb:∀k,F k->k < w.heap.size:=hi.base;refine wpIn_wide.1 (Qfw hg eg hseq (fun a b=>a.trans b) (fun W l o o' hl h hc hw=>?_) hps
  (fun pre W=>w.heap.size<=W.heap.size/\∃C' σ',Goes F isO w C W C'/\Inv E.Γ F W C' σ'/\FrOk W C' E.N fr tmps/\ProtB w.heap.size W C'/\J pre σ')
  ?_ ?_ (fun x=>⟨a1 x,[]⟩) hassign ?_ ?_)
 ·have hlt:=Q0f h;refine⟨⟨walksK_b (w:=w) W l o o' hl h hc hw,fun a ha=>Z49 ((grownBy_putObj' W l o').block a.block (Z32 (hi.prot a ha) (Z31 hl (Z2z hlt))) (fun e=>by have:=hi.prot a ha;cases e;omega))⟩,fun j hj=>Z49 ((grownBy_putObj' W l o').block b zoy (fun e=>by cases e;omega))⟩
 ·intro pre W W' row ⟨hsz,C',σ',h1,h2,h3,h4,h5⟩ hgr hrow;exact⟨Z31 hsz hgr.size,C',σ',Goes.rowed hgr hrow h1 hsz (Z30 _) hFb hi.prot,Inv.rowed hgr hrow h2 hsz h4 (hJ _ _ h5),h3.ext (Ext.rowed hgr hrow hsz h4),ProtB.rowed hgr hrow hsz h4,h5⟩
 ·exact⟨Z30 _,trimB w.heap.size w C,σ,(Goes.refl F isO w C).trimB hi.prot,hi.trimB _ (hJ _ _ hj0) hgl,hf.trm (Q6y _ _ _),Q7v _ _ _,hj0⟩
 ·intro l pre x W ⟨hsz,C',σ',h1,h2,h3,h4,h5⟩ hlt;have h2r:=h2.intoRound (hJ _ _ h5);refine wpIn_mono (hbody l pre x W C' σ' hlt h1 h2r h3 h5) fun e a W' ⟨hd,fr',σ'',C'',g1,g2,g3,he,hj⟩=>?_;subst he;have hF2:FrOk W' C'' E.N fr tmps:=⟨h3.1,fun k x hk=>let ⟨u,hu,hr⟩:=h3.2 k x hk;⟨u,hu,RF.chg g1.chg x u (hfi k x hk) hr⟩⟩;have hB2:∀a,C'.prot a->a.block < W.heap.size:=h2.prot;have g4:=g2.outOfRound (hJ _ _ hj);exact⟨rfl,g1.keepsFrom _,⟨⟨g1.keepsWalks,fun a ha=>g1.chg.cell a (h1.chg.prot a ha)⟩,hkeep pre x W W' C' C'' σ' σ'' h1 h2r h5 g1 g2 hj⟩,Z31 hsz g1.stp.size,trimB w.heap.size W' C'',σ'',(h1.trans g1.outOfRound).trimB hi.prot,g4.trimB _ (hJ _ _ hj) hgl,hF2.trm (Q6y _ _ _),Q7v _ _ _,hj⟩
 ·intro D xs W hD hS ⟨hsz,C',σ',h1,h2,h3,h4,h5⟩ hmk;exact hdone D xs W C' σ' hD hS (hgo.trans h1) h2 h3 h5 hmk
def Q5j (D:Nat):Deferred:={ target:=.collected D,args:=#[] }
def Marks (B:Nat)(Ds:List Nat)(W:World):Prop:=Ds.Nodup/\∀D∈Ds,B<=D/\W.heap[D]?=some (.deferred (some []))
theorem Marks.cons{B D:Nat}{Ds:List Nat}{W:World}(h:Marks B Ds W)(hB:B<=D)(hD:W.heap[D]?=some (.deferred (some [])))(hn:D∉Ds):Marks B (D::Ds) W:=
 ⟨Z27.2 ⟨hn,h.1⟩,fun x hx=>by
  rcases Z1p.1 hx with rfl|hx
  ·exact⟨hB,hD⟩
  ·exact h.2 x hx⟩
theorem Q8v{P:Program}{T:Tab}{Γ:List (Nat×List AC)}{N n:Nat}{fn:Func}{ds:List Deferred}{Q:FV->Outer->Prop}{F:Nat->Prop}{w:World}{C:Ctx}{ou:Outer}{fr3:Fr}{σ3:St}{tmps:Array Value}(hT:TabOk P T)(h0:C.nl=0)(hi:Inv Γ F w C ⟨0,[],ou⟩)
  (hfin:Fin ⟨P,T,Γ,N,ds⟩ fn Q fr3 σ3) (hpl:Q28 σ3):∀(Ds:List Nat) (w3:World) (C3:Ctx),Goes F isO w C w3 C3->Inv Γ F w3 C3 σ3->FrOk w3 C3 N fr3 tmps->Marks w.heap.size Ds w3->
  LeavesInM Fence.wide n P fn tmps (Owes Γ F w C Q) (Ds.map Q5j) .returning w3
 |[],w3,C3,hgo,hi3,hf3,_=>Qim hT h0 hi hgo hi3 hf3 hfin
 |D::Ds,w3,C3,hgo,hi3,hf3,hm=>by
  obtain⟨hD,hmD⟩:=hm.2 D Z1r;have hnd:=Z27.1 hm.1;have hDl:D < w3.heap.size:=Q0f hmD;have hgr:=grownBy_putObj' w3 D (.deferred none);have hrow:∀r,some D=some r->D<=r/\∃o:Obj,w3.heap[r]?=some o/\o.isCells=false:=fun r e=>by cases e;exact⟨Z30 _,_,hmD,rfl⟩
  have hgl:∀g cs,(g,cs)∈Γ->g < D:=fun g cs h=>Z32 (hi.prot _ (hi.glob g cs h).pr) hD;have hp0:∀a,C.prot a->a.block < D:=fun a ha=>Z32 (hi.prot a ha) hD;have hi4:=hi3.trimB D hpl hgl;have hg4:=hgo.trimB (B:=D) hp0;have hf4:=hf3.trm (Q6y D w3 C3);have hp4:=Q7v D w3 C3;have hi5:=Inv.rowed hgr hrow hi4 (Z2z hDl) hp4 hpl;have hg5:=Goes.rowed hgr hrow hg4 (Z2z hDl) hD (fun k hk=>Z32 (hi.base k hk) hD) hp0;have hf5:=hf4.ext (Ext.rowed hgr hrow (Z2z hDl) hp4);refine⟨by simp,.inl ⟨D,_,rfl,run_takeDeferred hmD,?_⟩⟩;refine Q8v hT h0 hi hfin hpl Ds _ _ hg5 hi5 hf5 ⟨hnd.2,fun x hx=>?_⟩;obtain⟨hx1,hx2⟩:=hm.2 x (Z1q _ hx);exact⟨hx1,(Z4a (fun e=>hnd.1 (by first|(rw[e];exact hx)|(rw[←e];exact hx)))).trans hx2⟩
section
variable {P:Program}{T:Tab}{Γ:List (Nat×List AC)}{N:Nat}{F:Nat->Prop}{w0:World}{C0:Ctx}
def PostM (P:Program)(Γ:List (Nat×List AC))(N:Nat)(F:Nat->Prop)(w0:World)(C0:Ctx)(K:Cont):Exit->Act->World->Prop:=fun e a W=>
 ∃Ds fr σ C,a.defers=Ds.map Q5j/\Goes F isO w0 C0 W C/\Inv Γ F W C σ/\FrOk W C N fr a.tmps/\Marks w0.heap.size Ds W/\Q28 σ/\K e fr σ
def XM (P:Program)(T:Tab)(Γ:List (Nat×List AC))(N:Nat)(F:Nat->Prop)(w0:World)(C0:Ctx)(K:Cont)(c:Code)(fr:Fr)(σ:St):Prop:=
 ∀(Ds:List Nat) (W:World) (C:Ctx) (tmps:Array Value),Goes F isO w0 C0 W C->Inv Γ F W C σ->FrOk W C N fr tmps->Marks w0.heap.size Ds W->Q28 σ->c.wp P (PostM P Γ N F w0 C0 K) ⟨tmps,Ds.map Q5j⟩ W
theorem XM.code(h:∀ds,ACode ⟨P,T,Γ,N,ds⟩ c (fun e fr σ=>Q28 σ/\K e fr σ) fr σ):XM P T Γ N F w0 C0 K c fr σ:=fun Ds W C tmps hg hi hf hm hpl=>by
 have hiF:Inv Γ (fun k=>F k∨k∈Ds) W C σ:=by
  refine hi.keepF (fun k hk=>hk.elim (hi.base k) fun e=>Q0f (hm.2 k e).2) fun i o g h hb hF=>?_;obtain⟨⟨o',ho',hc'⟩,hn⟩:=hi.blockCells hpl h hb;rcases hF with hF|hF
  ·exact hn hF
  ·have:=(hm.2 g hF).2;rw[ho']at this;cases this;cases hc'
 refine wp_mono (h (Ds.map Q5j) (fun k=>F k∨k∈Ds) W C W C tmps (Goes.refl _ _ _ _) hiF hf) fun e a w3 hp=>?_;obtain⟨hd,fr3,σ3,C3,hg3,hi3,hf3,Qwa,hk⟩:=hp;have Qy7:Goes F isO W C w3 C3:=⟨hg3.stp.mono fun k hk=>.inl hk,hg3.chg,hg3.no,fun a ha=>(hg3.newp a ha).imp id fun hn hF=>hn (.inl hF)⟩;have Qy8:Inv Γ F w3 C3 σ3:=hi3.keepF (fun k hk=>hi3.base k (.inl hk)) fun i o g h hb hF=>(hi3.blockCells Qwa h hb).2 (.inl hF);exact⟨Ds,fr3,σ3,C3,hd,hg.trans Qy7,Qy8,hf3,⟨hm.1,fun D hD=>⟨(hm.2 D hD).1,(hg3.stp.block D (.inr hD)).trans (hm.2 D hD).2⟩⟩,Qwa,hk⟩
def thenM (next:Fr->St->Prop)(K:Cont):Cont:=fun e fr σ=>match e with
 |.normal=>next fr σ
 |e=>K e fr σ
theorem XM.seq{K:Cont}{x y:Code}{fr:Fr}{σ:St}(h:XM P T Γ N F w0 C0 (thenM (XM P T Γ N F w0 C0 K y) K) x fr σ):XM P T Γ N F w0 C0 K (.seq x y) fr σ:=fun Ds W C tmps hg hi hf hm hpl=>by
 refine wp_seq (wp_mono (h Ds W C tmps hg hi hf hm hpl) fun e a w' hp=>?_);obtain⟨Ds',fr',σ',C',hd,hg',hi',hf',hm',Qvu,hk⟩:=hp;cases e with
 |normal=>
  have:a=⟨a.tmps,Ds'.map Q5j⟩:=by cases a;simp_all
  show y.wp P _ a w';rw[this];exact hk Ds' w' C' a.tmps hg' hi' hf' hm' Qvu
 |_=>exact⟨Ds',fr',σ',C',hd,hg',hi',hf',hm',Qvu,hk⟩
theorem XM.block{K:Cont}{id:Nat}{c:Code}{fr:Fr}{σ:St}(h:XM P T Γ N F w0 C0 (inBlk id K) c fr σ):XM P T Γ N F w0 C0 K (.block id c) fr σ:=fun Ds W C tmps hg hi hf hm hpl=>by
 refine wp_block (wp_mono (h Ds W C tmps hg hi hf hm hpl) fun e a w' hp=>?_);obtain⟨Ds',fr',σ',C',hd,hg',hi',hf',hm',Qvu,hk⟩:=hp;cases e with
 |exit j=>
  by_cases hj:j=id
  ·simp only[Exit.inBlock,if_pos hj];simp only[inBlk,if_pos hj]at hk;exact⟨Ds',fr',σ',C',hd,hg',hi',hf',hm',Qvu,hk⟩
  ·simp only[Exit.inBlock,if_neg hj];simp only[inBlk,if_neg hj]at hk;exact⟨Ds',fr',σ',C',hd,hg',hi',hf',hm',Qvu,hk⟩
 |_=>exact⟨Ds',fr',σ',C',hd,hg',hi',hf',hm',Qvu,hk⟩
theorem XM.loop{K:Cont}{c:Code}{fr:Fr}{σ:St}(I:Nat->Fr->St->Prop){m:Nat}(h0:I m fr σ)(round:∀m fr σ,I m fr σ->XM P T Γ N F w0 C0 (thenM (fun fr' σ'=>∃m',m' < m/\I m' fr' σ') K) c fr σ):XM P T Γ N F w0 C0 K (.loop c) fr σ:=by
 have key:∀(n m:Nat) (fr:Fr) (σ:St),m < n->I m fr σ->∀(Ds:List Nat) (W:World) (C:Ctx) (tmps:Array Value),Goes F isO w0 C0 W C->Inv Γ F W C σ->FrOk W C N fr tmps->Marks w0.heap.size Ds W->Q28 σ->Code.rounds P c (PostM P Γ N F w0 C0 K) n ⟨tmps,Ds.map Q5j⟩ W:=by
  intro n
  induction n with
  |zero=>intro m fr σ hm;omega
  |succ n ih=>
   intro m fr σ hmn hI Ds W C tmps hg hi hf hm hpl;rw[rounds_succ];refine wp_mono (round m fr σ hI Ds W C tmps hg hi hf hm hpl) fun e a w' hp=>?_;obtain⟨Ds',fr',σ',C',hd,hg',hi',hf',hm',Qvu,hk⟩:=hp;cases e with
   |normal=>
    obtain⟨m',hlt,hI'⟩:=hk;have:a=⟨a.tmps,Ds'.map Q5j⟩:=by cases a;simp_all
    show Code.rounds P c _ n a w';rw[this];exact ih m' fr' σ' zoy hI' Ds' w' C' a.tmps hg' hi' hf' hm' Qvu
   |_=>exact⟨Ds',fr',σ',C',hd,hg',hi',hf',hm',Qvu,hk⟩
 intro Ds W C tmps hg hi hf hm hpl;exact wp_loop_rounds (m+1) (key (m+1) m fr σ zoy h0 Ds W C tmps hg hi hf hm hpl)
theorem XM.lessR{fr':Fr}{σ':St}{ρ:Nat->Nat}(hΓ:GI Γ)(hl:LessR ρ fr σ fr' σ')(Qvu:Q28 σ')(h:XM P T Γ N F w0 C0 K c fr' σ'):XM P T Γ N F w0 C0 K c fr σ:=fun Ds W C tmps hg hi hf hm hpl=>by obtain⟨C',h1,h2,h3⟩:=hl.run hΓ hi hf;exact h Ds W C' tmps (hg.trans h1) h2 h3 hm Qvu
theorem Quw{g:Nat}{fn:Func}{args:List FV}{Q:FV->Outer->Prop}(N:Nat)(hT:TabOk P T)(hf:P.funcs[g]?=some fn)(hb:fn.body=some c)(hname:(fn.name == "runtime.NumGoroutine")=false)(hN:fn.ntmps=N)(hlen:Nat.ble args.length N=true)(hpl:Q28 ⟨0,[],ou⟩)
  (h:OuOk ou->∀(F:Nat->Prop) (w0:World) (C0:Ctx),XM P T Γ N F w0 C0 (fun e fr σ=>e=.ret/\Fin ⟨P,T,Γ,N,[]⟩ fn Q fr σ) c (argFr 0 args) ⟨0,[],ou⟩):AFn P Γ g args ou Q:=by
 subst hN;refine Qtr hf hb hname (Z2x hlen) fun hou F w C tmps h0 hi hfr=>?_;refine wp_mono (h hou F w C [] w C tmps (Goes.refl _ _ _ _) hi hfr ⟨List.nodup_nil,fun D hD=>by simp at hD⟩ hpl) fun e a w3 hp=>?_;obtain⟨Ds,fr3,σ3,C3,hd,hg3,hi3,hf3,hm3,Qwa,rfl,hfin⟩:=hp;show LeavesInM Fence.wide 0 P fn a.tmps (Owes Γ F w C Q) a.defers .returning w3;rw[hd];exact Q8v hT h0 hi hfin Qwa Ds w3 C3 hg3 hi3 hf3 hm3
structure RangeOk (P:Program)(T:Tab)(Γ:List (Nat×List AC))(N:Nat){α:Type}(J:List α->St->Prop)(S:List α->Prop)(g:Operand)(ps:Array Tmp)(assign body:Code)(fr:Fr)(F':Nat->Prop)(W:World)(C:Ctx)(tmps:Array Value)(ds:List Deferred) where
 gf:Nat
 first:Array Value
 encs:α->Array Value
 n:Nat
 b:Nat
 L:Nat
 a1:α->Array Value
 ev:Act.eval ⟨tmps,ds⟩ g=.func (.func gf) first #[]
 eg:∀args w,(callFunc gf args).run P w=.ok (.enter gf args) w
 seq:SeqB P gf first encs (KpA C b L) S n W
 hb:b < W.heap.size
 hps:∀x,(encs x).size=ps.size
 keep:∀(pre:List α) (x:α) (W1 W':World) (C' C'':Ctx) (σ' σ'':St),Goes F' isO W C W1 C'->Inv Γ (Q17 F' W1) W1 C' σ'->J pre σ'->Goes (Q17 F' W1) isO W1 C' W' C''->Inv Γ (Q17 F' W1) W' C'' σ''->J (pre++[x]) σ''->∀j,j < L->W'.cell? ⟨b,j,none⟩=W1.cell? ⟨b,j,none⟩
 asg:∀(l:Nat) (x:α) (W1:World) (K:Act->World->Prop),K ⟨a1 x,[]⟩ W1->assign.wpIn (Q56 l) 0 P (Exit.then K (fun _ _ _=>False)) { tmps:=(ps.zip (encs x)).foldl (fun t (p,v)=>t.setIfInBounds p v) tmps,defers:=[] } W1
 bod:∀(l:Nat) (pre:List α) (x:α) (W1:World) (C':Ctx) (σ':St),pre.length < n->Goes F' isO W C W1 C'->Inv Γ (Q17 F' W1) W1 C' σ'->FrOk W1 C' N fr tmps->J pre σ'->
  body.wpIn (Q56 l) 0 P (Post ⟨P,T,Γ,N,[]⟩ (Q17 F' W1) W1 C' (fun e _ σ''=>e=.normal/\J (pre++[x]) σ'')) ⟨a1 x,[]⟩ W1
theorem Qux(J:List α->St->Prop)(S:List α->Prop)(hJ:∀pre σ,J pre σ->Q28 σ)(hj0:J [] σ)(hfi:∀k x,Fr.get k fr=some x->x.ids isO)
  (hraw:∀(F':Nat->Prop) (W:World) (C:Ctx) (tmps:Array Value) (ds:List Deferred),Inv Γ F' W C σ->FrOk W C N fr tmps->Nonempty (RangeOk P T Γ N J S g ps assign body fr F' W C tmps ds))
  (hdone:∀xs σ',S xs->J xs σ'->K .normal fr σ'):XM P T Γ N F w0 C0 K (.rangeFunc g ps assign body) fr σ:=fun Ds W C tmps hg hi hf hm hpl=>by
 have hiF:Inv Γ (fun k=>F k∨k∈Ds) W C σ:=by
  refine hi.keepF (fun k hk=>hk.elim (hi.base k) fun e=>Q0f (hm.2 k e).2) fun i o g h hb hF=>?_;obtain⟨⟨o',ho',hc'⟩,hn⟩:=hi.blockCells hpl h hb;rcases hF with hF|hF
  ·exact hn hF
  ·have:=(hm.2 g hF).2;rw[ho']at this;cases this;cases hc'
 obtain⟨R⟩:=hraw _ W C tmps (Ds.map Q5j) hiF hf;refine Qle (E:=⟨P,T,Γ,N,Ds.map Q5j⟩) J R.a1 R.b R.L (Goes.refl _ _ _ _) hiF hf hJ hj0 hfi R.ev R.eg R.seq R.hb R.hps R.keep R.asg R.bod ?_;intro D xs W3 C3 σ3 hD hS hg3 hi3 hf3 hj hmD;have Qwa:=hJ _ _ hj;have Qy7:Goes F isO W C W3 C3:=⟨hg3.stp.mono fun k hk=>.inl hk,hg3.chg,hg3.no,fun a ha=>(hg3.newp a ha).imp id fun hn hF=>hn (.inl hF)⟩;have Qy8:Inv Γ F W3 C3 σ3:=hi3.keepF (fun k hk=>hi3.base k (.inl hk)) fun i o g h hb hF=>(hi3.blockCells Qwa h hb).2 (.inl hF);have hm3:Marks w0.heap.size Ds W3:=⟨hm.1,fun x hx=>⟨(hm.2 x hx).1,(hg3.stp.block x (.inr hx)).trans (hm.2 x hx).2⟩⟩;refine⟨D::Ds,fr,σ3,C3,rfl,hg.trans Qy7,Qy8,hf3,hm3.cons (Z31 hg.stp.size hD) hmD fun hx=>?_,Qwa,hdone xs σ3 hS hj⟩;have:=Q0f (hm.2 D hx).2;omega
theorem Quy{x:Code}(h:∀ds,ACode ⟨P,T,Γ,N,ds⟩ x (Q05 ⟨P,T,Γ,N,ds⟩ noFin [.inv fun fr σ=>Q28 σ/\XM P T Γ N F w0 C0 K y fr σ]) fr σ):XM P T Γ N F w0 C0 K (.seq x y) fr σ:=
 XM.seq (XM.code fun ds=>by
  intro F1 w1 C1 w C tmps hg hi hf;refine wp_mono (h ds F1 w1 C1 w C tmps hg hi hf) fun e a w' hp=>?_;obtain⟨hd,fr',σ',C',hg',hi',hf',hk⟩:=hp;refine⟨hd,fr',σ',C',hg',hi',hf',?_⟩;cases e with
  |normal=>exact hk
  |_=>exact (hk:False).elim)
theorem XM.fin(h:∀ds,ACode ⟨P,T,Γ,N,ds⟩ c (Q05 ⟨P,T,Γ,N,ds⟩ (fun fr σ=>Q28 σ/\K .ret fr σ) [.inv fun _ _=>False]) fr σ):XM P T Γ N F w0 C0 K c fr σ:=
 XM.code fun ds=>by
  intro F1 w1 C1 w C tmps hg hi hf;refine wp_mono (h ds F1 w1 C1 w C tmps hg hi hf) fun e a w' hp=>?_;obtain⟨hd,fr',σ',C',hg',hi',hf',hk⟩:=hp;refine⟨hd,fr',σ',C',hg',hi',hf',?_⟩;cases e with
  |ret=>exact hk
  |_=>exact (hk:False).elim
theorem XM.condT{x:Code}(hc:aEval Γ fr o=some (.one (.lit (.bool true))))(h:XM P T Γ N F w0 C0 K x fr σ):XM P T Γ N F w0 C0 K (.cond o x y) fr σ:=fun Ds W C tmps hg hi hf hm hpl=>by have hr:=Q01 (a:=⟨tmps,Ds.map Q5j⟩) hi hf hc;simp only[RF,R]at hr;exact wp_cond_true hr.1 (h Ds W C tmps hg hi hf hm hpl)
theorem XM.condF{x:Code}(hc:aEval Γ fr o=some (.one (.lit (.bool false))))(h:XM P T Γ N F w0 C0 K y fr σ):XM P T Γ N F w0 C0 K (.cond o x y) fr σ:=fun Ds W C tmps hg hi hf hm hpl=>by have hr:=Q01 (a:=⟨tmps,Ds.map Q5j⟩) hi hf hc;simp only[RF,R]at hr;exact wp_cond_false hr.1 (h Ds W C tmps hg hi hf hm hpl)
theorem XM.cond{K:Cont}{o:Operand}{x y:Code}{fr:Fr}{σ:St}{b:Bool}(hc:aEval Γ fr o=some (.one (.lit (.bool b))))(ht:b=true->XM P T Γ N F w0 C0 K x fr σ)(hf:b=false->XM P T Γ N F w0 C0 K y fr σ):XM P T Γ N F w0 C0 K (.cond o x y) fr σ:=by
 cases b with
 |true=>exact XM.condT hc (ht rfl)
 |false=>exact XM.condF hc (hf rfl)
theorem XM.exit{K:Cont}{id:Nat}{fr:Fr}{σ:St}(h:K (.exit id) fr σ):XM P T Γ N F w0 C0 K (.exit id) fr σ:=fun Ds W C tmps hg hi hf hm hpl=>wp_exit ⟨Ds,fr,σ,C,rfl,hg,hi,hf,hm,hpl,h⟩
theorem XM.skip{K:Cont}{fr:Fr}{σ:St}(h:K .normal fr σ):XM P T Γ N F w0 C0 K .skip fr σ:=fun Ds W C tmps hg hi hf hm hpl=>wp_skip ⟨Ds,fr,σ,C,rfl,hg,hi,hf,hm,hpl,h⟩
theorem XM.ret{K:Cont}{fr:Fr}{σ:St}(h:K .ret fr σ):XM P T Γ N F w0 C0 K .ret fr σ:=fun Ds W C tmps hg hi hf hm hpl=>wp_ret ⟨Ds,fr,σ,C,rfl,hg,hi,hf,hm,hpl,h⟩
end
end Go.Abs
namespace Go.Abs
theorem AFn.frame{g:Nat}{args:List FV}{r:FV}(h:AFn P Γ g args (fun _=>none) (fun r' ou'=>r'=r/\ou'=fun _=>none)):APure P Γ g args r:=fun ou=>⟨h.1,fun F w C cargs h0 hi hr=>by
 obtain⟨F',hF'⟩:∃F':Nat->Prop,F'=fun k=>F k∨∃i o,ou i=some o/\o.block C (.o i)=some k:=⟨_,rfl⟩;have hF:∀k,F k->F' k:=fun k hk=>by rw[hF'];exact .inl hk
 have hB:∀i o k,ou i=some o->o.block C (.o i)=some k->F' k:=fun i o k ho hb=>by rw[hF'];exact .inr ⟨i,o,ho,hb⟩
 have hi0:Inv Γ F' w C ⟨0,[],fun _=>none⟩:=by
  refine⟨fun k hk=>?_,hi.next,hi.glob,hi.prot,fun i o h=>?_,fun i j o o' g h1=>?_⟩
  ·rw[hF']at hk;exact hk.elim (hi.base k) fun ⟨i,o,ho,hb⟩=>(Qqn (hi.obj (.o i) o ho).2 hb).2
  ·cases i <;> cases h
  ·cases i <;> cases h1
 refine (h.2 F' w C cargs h0 hi0 hr).mono fun e w' ⟨v,r',ou',C',he,hgo,h0',hi',hr',hq,ho'⟩=>?_;have hx:Ext w C w' C':=⟨hgo.chg.cell,hgo.chg.prot,fun i _ ho=>hgo.chg.id i (Q4l h0 i ho) ho⟩;have hnp:NewP F C C':=fun a ha=>(hgo.newp a ha).imp id (fun h hf=>h (hF _ hf));refine⟨v,r',ou,C',he,⟨hgo.stp.mono hF,hgo.chg,hgo.no,hnp⟩,h0',⟨fun k hk=>Z32 (hi.base k hk) hgo.stp.size,h0',hi'.glob,hi'.prot,fun i o h=>?_,fun i j o o' g h1 h2 h3 h4=>?_⟩,hr',hq,rfl⟩
 ·cases i with
  |l k=>cases h
  |o k=>
   obtain⟨h1,h2⟩:=hi.obj (.o k) o h;refine⟨(hx.id _ trivial h1).1,h2.keep hx h1 (fun g x hb hx=>?_) (fun a hb _ ha=>?_)⟩
   ·rw[hgo.stp.block g (hB k o g h hb)];exact hx
   ·exact (hgo.newp a ha).resolve_right (fun hn=>hn (hB k o _ h hb))
 ·refine hi.inj i j o o' g h1 h2 ?_ ?_
  ·rw[←Qqo hx (hi.obj i o h1).1];exact h3
  ·rw[←Qqo hx (hi.obj j o' h2).1];exact h4⟩
theorem Qq1(hi:Inv Γ F w C σ)(hf:FrOk w C N fr tmps)(js:List Nat):∃k,(∀m,k<=m->σ.ou m=none)/\∀fr' σ',CedN (toOs js k) fr σ fr' σ'->∃C2,Goes F isO w C w C2/\Inv Γ F w C2 σ'/\FrOk w C2 N fr' tmps:=by
 have hnone:∀m,C.no<=m->σ.ou m=none:=fun m hm=>by
  cases hx:σ.ou m with
  |none=>rfl
  |some x=>
   have:m < C.no:=(hi.obj (.o m) x hx).1;omega
 refine⟨C.no,hnone,fun fr' σ' hc=>?_⟩
 let C2:Ctx:={ C with no:=C.no+js.length,phi:=fun i=>match i with|.o m=>if m < C.no then C.phi (.o m)else (match js[m - C.no]? with|some j=>C.phi (.l j)|none=>C.phi (.o m))|.l m=>C.phi (.l m),tk:=fun i=>match i with|.o m=>if m < C.no then C.tk (.o m)else (match js[m - C.no]? with|some j=>C.tk (.l j)|none=>C.tk (.o m))|.l m=>C.tk (.l m) }
 have hx:Ext w C w C2:=⟨fun _ _=>rfl,fun _ h=>h,fun i _ ho=>by
  cases i with
  |l m=>exact⟨ho,rfl,rfl⟩
  |o m=>
   have hm:m < C.no:=ho;refine⟨Z32 hm (Z2w _ _),?_,?_⟩
   ·show (if m < C.no then _ else _)=_;rw[if_pos hm];rfl
   ·show (if m < C.no then _ else _)=_;rw[if_pos hm];rfl⟩
 have hb:Bus (toOs js C.no) (fun _=>True) w C2 C:=⟨fun _ h=>h,fun i _ ho=>by
  cases i with
  |o m=>exact hx.id (.o m) trivial ho
  |l m=>
   simp only[toOs];cases hp:posOf m js with
   |none=>exact⟨ho,rfl,rfl⟩
   |some p=>
    have hjp:=Q7y hp;have hlt:p < js.length:=(Z0v.1 hjp).1;refine⟨Nat.add_lt_add_left hlt _,?_,?_⟩
    ·show (if C.no+p < C.no then _ else _)=_;rw[if_neg zoy,Z2s,hjp];rfl
    ·show (if C.no+p < C.no then _ else _)=_;rw[if_neg zoy,Z2s,hjp];rfl⟩
 have hok:∀i0 y,σ.get i0=some y->C.ok i0:=fun i0 y hy=>(hi.obj i0 y hy).1;have hi':Inv Γ F w C2 σ':=by
  refine⟨hi.base,by rw[hc.n];exact hi.next,fun g cs hm=>(hi.glob g cs hm).ext hx,hi.prot,fun i x hxx=>?_,fun i1 i2 x1 x2 g h1 h2 h3 h4=>?_⟩
  ·obtain⟨i0,y,hy,rfl,rfl⟩:=hc.obj i x hxx;obtain⟨k1,k2⟩:=hi.obj i0 y hy;exact⟨(hb.id i0 trivial k1).1,ObjOk.bus hb (Qsr y) trivial k1 (fun _ h=>h) k2⟩
  ·obtain⟨a,y,hy,rfl,rfl⟩:=hc.obj i1 x1 h1;obtain⟨b,z,hz,rfl,rfl⟩:=hc.obj i2 x2 h2;rw[Qrs hb trivial (hok a y hy)]at h3;rw[Qrs hb trivial (hok b z hz)]at h4;rw[hi.inj a b y z g hy hz h3 h4]
 refine⟨C2,⟨Z3v _ _,hx.weaken (fun _ _=>trivial),Z2w _ _,NewP.refl _ _⟩,hi',hf.1,fun d x hd=>?_⟩;obtain⟨y,hy,hw⟩:=hc.fr d x hd;obtain⟨u,hu,hr⟩:=hf.2 d y hy;exact⟨u,hu,hw _ _ _ (RF.bus hb y u (FV.ids_true y) hr)⟩
theorem XM.cedes(js:List Nat)(hnd:js.Nodup)(hou:OuOk σ.ou)
  (h:∀k,(∀m,k<=m->σ.ou m=none)->∃fr' lo' os,CedFrN (toOs js k) fr fr'/\CedLo (toOs js k) σ.lo js lo'/\CedOs (toOs js k) σ.lo js os/\Q28 ⟨σ.n,lo',ouAdd σ.ou k os⟩/\XM P T Γ N F w0 C0 K c fr' ⟨σ.n,lo',ouAdd σ.ou k os⟩):XM P T Γ N F w0 C0 K c fr σ:=fun Ds W C tmps hg hi hf hm hpl=>by
 obtain⟨k,hk,hrun⟩:=Qq1 hi hf js;obtain⟨fr',lo',os,h1,h2,h3,Qvu,h4⟩:=h k hk;obtain⟨C2,g1,g2,g3⟩:=hrun fr' ⟨σ.n,lo',ouAdd σ.ou k os⟩ ⟨h1.get,rfl,fun i x hx=>by
  cases i with
  |l m=>
   obtain⟨hp,y,hy,rfl⟩:=h2.get m x hx;exact⟨.l m,y,hy,by simp[toOs,hp],rfl⟩
  |o m=>
   have hx':ouAdd σ.ou k os m=some x:=hx;rcases Z33 m k with hm|hm
   ·rw[Q14 hm]at hx';exact⟨.o m,x,hx',rfl,(Qys (fun i hi=>by cases i with|l q=>exact hi.elim|o q=>rfl) x (hou m x hx')).symm⟩
   ·obtain⟨p,rfl⟩:∃p,m=k+p:=⟨m - k,by omega⟩;rw[Q0o]at hx';obtain⟨j,y,q1,q2,rfl⟩:=h3.get p x hx';exact⟨.l j,y,q2,by simp[toOs,Q83 hnd q1],rfl⟩⟩
 exact h4 Ds W C2 tmps (hg.trans g1) g2 g3 hm Qvu
theorem Quz(h:∀ds,ACode ⟨P,T,Γ,N,ds⟩ c (Q05 ⟨P,T,Γ,N,ds⟩ noFin [.inv fun fr σ=>Q28 σ/\K .normal fr σ]) fr σ):XM P T Γ N F w0 C0 K c fr σ:=
 XM.code fun ds=>by
  intro F1 w1 C1 w C tmps hg hi hf;refine wp_mono (h ds F1 w1 C1 w C tmps hg hi hf) fun e a w' hp=>?_;obtain⟨hd,fr',σ',C',hg',hi',hf',hk⟩:=hp;refine⟨hd,fr',σ',C',hg',hi',hf',?_⟩;cases e with
  |normal=>exact hk
  |_=>exact (hk:False).elim
def gC (s:Nat)(es:List (List AC)):Option (Nat×Nat)->AC
 |none=>.lit (.slice none 0 0)
 |some (kn,cap)=>.arr (.o kn) s 0 es.length cap
def gK:Option (Nat×Nat)->List Nat
 |none=>[]
 |some (kn,_)=>[kn]
structure GO (s:Nat)(es:List (List AC))(oc:Option (Nat×Nat))(ov:Outer):Prop where
 nn:oc=none->es=[]
 ob:∀kn cap,oc=some (kn,cap)->ov kn=some (.cells (vec s es cap))/\es.length<=cap
theorem GO.keep{s:Nat}{ov':Outer}(h:GO s es oc ov)(hk:∀q∈gK oc,ov' q=ov q):GO s es oc ov':=⟨h.nn,fun kn cap e=>by obtain⟨h1,h2⟩:=h.ob kn cap e;exact⟨by rw[hk kn (by rw[e];simp[gK])];exact h1,h2⟩⟩
@[simp] theorem ids_gC (s:Nat) (es:List (List AC)) (oc:Option (Nat×Nat)):(gC s es oc).ids isO:=by
 cases oc with
 |none=>simp[gC,AC.ids]
 |some p=>obtain⟨a,b⟩:=p;simp[gC,AC.ids,isO]
@[simp] theorem ids_gCL (n s:Nat) (es:List (List AC)) (oc:Option (Nat×Nat)):(gC s es oc).ids (inL n):=by
 cases oc with
 |none=>simp[gC,AC.ids]
 |some p=>obtain⟨a,b⟩:=p;simp[gC,AC.ids,inL]
theorem Qgh{s:Nat}(h:GO s es oc ov)(hl:∀x∈es,x.length=s):
  ∃(cap0:Nat) (o3:Outer),(∀(m:Nat) (lo:List (Nat×AObj)),BaseO ⟨m,lo,ov⟩ (gC s es oc) s es cap0 ⟨m,lo,o3⟩)/\(OuOk ov->OuOk o3)/\(∀q,q∉gK oc->o3 q=ov q)/\∀q∈gK oc,o3 q=some .dead:=by
 cases hn:oc with
 |none=>
  rw[h.nn hn];exact⟨0,ov,fun m lo=>BaseO.nil s,fun h=>h,fun q _=>rfl,fun q hq=>by simp[gK]at hq⟩
 |some p=>
  obtain⟨kn,cap⟩:=p;obtain⟨h3,h4⟩:=h.ob kn cap hn;refine⟨cap,updO ov kn .dead,fun m lo=>?_,fun h5=>Q0m h5 trivial,fun q hq=>Q02 _ (fun e1=>hq (by simp[gK];exact e1.symm)) _,fun q hq=>by simp[gK]at hq;subst hq;exact Q04 _ _ _⟩;have hb:=BaseO.own (σ:=⟨m,lo,ov⟩) s cap es (.o kn) h3 hl h4;rw[Q0n]at hb;exact hb
theorem GO.new{s:Nat}(hkn:∀m,kn<=m->o3 m=none)(hc:es.length<=cap):GO s es (some (kn,cap)) (ouAdd o3 kn [.cells (vec s es cap)])/\∀q o,o3 q=some o->ouAdd o3 kn [.cells (vec s es cap)] q=some o:=by
 refine⟨⟨zsy,fun k c e=>?_⟩,fun q o h=>?_⟩
 ·cases e;exact⟨by simpa using Q0o (ou:=o3) (k:=kn) (os:=[.cells (vec s es cap)]) 0,hc⟩
 ·rw[Q14 (Q4u hkn h)];exact h
theorem CedFrN.keepO{y:FV}{r:Fr}(h:Fr.get k fr=some y)(hy:y.ids isO)(hr:CedFrN (toOs js kk) fr r):CedFrN (toOs js kk) fr ((k,y)::r):=
 CedFrN.cons h (FV.sub_f (fun i hi=>by cases i with|l k=>exact hi.elim|o k=>rfl) y hy) hr
mutual
def litA (β:Nat->Nat):AC->AC
 |.lit v=>.lit v
 |.any=>.any
 |.sl s es=>.sl s (litS β es)
 |.box cs=>.box (litL β cs)
 |.ptr (.o k) off=>.lit (.pointer (some ⟨β k,off,none⟩))
 |.ptr (.l k) off=>.ptr (.l k) off
 |.gs s es i=>.gs s es i
 |.arr i s off len cap=>.arr i s off len cap
 |.mp i=>.mp i
 |.fn f a b=>.fn f a b
 |.ifc t ag cs=>.ifc t ag cs
def litS (β:Nat->Nat):List (List AC)->List (List AC)
 |[]=>[]
 |e::es=>litL β e::litS β es
def litL (β:Nat->Nat):List AC->List AC
 |[]=>[]
 |c::cs=>litA β c::litL β cs
end
theorem Qi2(β:Nat->Nat):∀es:List (List AC),litS β es=es.map (litL β)
 |[]=>rfl
 |e::es=>by simp only[litS,Z1g];rw[Qi2 β es]
theorem Qi4(β:Nat->Nat):∀cs:List AC,litL β cs=cs.map (litA β)
 |[]=>rfl
 |c::cs=>by simp only[litL,Z1g];rw[Qi4 β cs]
theorem Qi3(β:Nat->Nat)(es:List (List AC)):(litS β es).length=es.length:=by rw[Qi2];simp
theorem Qd1(β:Nat->Nat)(es:List AC):(litL β es).length=es.length:=by rw[Qi4];simp
section
variable {w:World}{C:Ctx}{β:Nat->Nat}
mutual
theorem R.lit(hβ:∀k,C.blk (.o k)=β k):∀(c:AC)(v:Value),R w C c v->R w C (litA β c) v
 |.lit u,v,hr=>by simpa only [litA]using hr
 |.any,v,hr=>by simpa only [litA]using hr
 |.sl s es,v,hr=>by
  simp only[litA,R]at *;obtain⟨a,cap,rfl,hc,h2⟩:=hr;refine⟨a,cap,by rw[Qi3],by rw[Qi3];exact hc,?_⟩;rcases h2 with rfl|⟨ad,rfl,hs,h2⟩
  ·exact .inl rfl
  ·exact .inr ⟨ad,rfl,hs,RS.lit hβ s es ad h2⟩
 |.box cs,v,hr=>by simp only[litA,R]at *;obtain⟨ad,rfl,hs,h2⟩:=hr;exact⟨ad,rfl,hs,RL.lit hβ cs ad h2⟩
 |.ptr (.o k) off,v,hr=>by simp only[litA,R]at *;rw[hr.2,hβ];exact⟨rfl,rfl⟩
 |.ptr (.l k) off,v,hr=>by simpa only [litA]using hr
 |.gs s es i,v,hr=>by simpa only [litA]using hr
 |.arr i s off len cap,v,hr=>by simpa only [litA]using hr
 |.mp i,v,hr=>by simpa only [litA]using hr
 |.fn f a b,v,hr=>by simpa only [litA]using hr
 |.ifc t ag cs,v,hr=>by simpa only [litA]using hr
theorem RS.lit(hβ:∀k,C.blk (.o k)=β k)(s:Nat):∀(es:List (List AC))(ad:Addr),RS w C s es ad->RS w C s (litS β es) ad
 |[],_,_=>by simp[litS,RS]
 |e::es,ad,hr=>by simp only[litS,RS]at *;exact⟨by rw[Qd1];exact hr.1,RL.lit hβ e ad hr.2.1,RS.lit hβ s es _ hr.2.2⟩
theorem RL.lit(hβ:∀k,C.blk (.o k)=β k):∀(cs:List AC)(ad:Addr),RL w C cs ad->RL w C (litL β cs) ad
 |[],_,_=>by simp[litL,RL]
 |c::cs,ad,hr=>by simp only[litL,RL]at *;obtain⟨⟨u,hu,hp,hr⟩,h2⟩:=hr;exact⟨⟨u,hu,hp,R.lit hβ c u hr⟩,RL.lit hβ cs _ h2⟩
end
end
theorem RG.lit{w:World}{C:Ctx}{β:Nat->Nat}(hβ:∀k,C.blk (.o k)=β k){cs:List AC}{g:Nat}(h:RG w C cs g):RG w C (litL β cs) g:=⟨RL.lit hβ cs _ h.rl,by rw[Qd1];exact h.fin,by rw[Qd1];exact h.pr⟩
end Go.Abs
namespace Go.Abs
section
variable {E:Env}{fr:Fr}{K:Cont}{σ:St}
def seqK (E:Env)(y:Code)(K:Cont):Cont:=fun e fr σ=>match e with
 |.normal=>AIn E y K fr σ
 |e=>K e fr σ
theorem Qv0{y:Code}(h:Tame K):Tame (seqK E y K):=h
theorem AIn.seq{x y:Code}(h:AIn E x (seqK E y K) fr σ):AIn E (.seq x y) K fr σ:=fun F w0 C0 w C tmps hg hi hf r n=>by
 refine wpIn_seq (wpIn_mono (h F w0 C0 w C tmps hg hi hf r n) fun e a w' ⟨hd,fr',σ',C',h1,h2,h3,hk⟩=>?_);cases e with
 |normal=>
  have:a=⟨a.tmps,E.ds⟩:=by cases a;simp_all
  show y.wpIn _ _ _ _ a w';rw[this];exact hk F w0 C0 w' C' a.tmps h1 h2 h3 r n
 |_=>exact⟨hd,fr',σ',C',h1,h2,h3,hk⟩
theorem AIn.condT{x:Code}(hc:aEval E.Γ fr o=some (.one (.lit (.bool true))))(h:AIn E x K fr σ):AIn E (.cond o x y) K fr σ:=fun F w0 C0 w C tmps hg hi hf r n=>by have hr:=Q01 (a:=⟨tmps,E.ds⟩) hi hf hc;simp only[RF,R]at hr;exact wpIn_cond (t:=true) hr.1 (h F w0 C0 w C tmps hg hi hf r n)
theorem AIn.condF{x:Code}(hc:aEval E.Γ fr o=some (.one (.lit (.bool false))))(h:AIn E y K fr σ):AIn E (.cond o x y) K fr σ:=fun F w0 C0 w C tmps hg hi hf r n=>by have hr:=Q01 (a:=⟨tmps,E.ds⟩) hi hf hc;simp only[RF,R]at hr;exact wpIn_cond (t:=false) hr.1 (h F w0 C0 w C tmps hg hi hf r n)
theorem AIn.cond{o:Operand}{x y:Code}{b:Bool}(hc:aEval E.Γ fr o=some (.one (.lit (.bool b))))(ht:b=true->AIn E x K fr σ)(hf:b=false->AIn E y K fr σ):AIn E (.cond o x y) K fr σ:=by
 cases b with
 |true=>exact AIn.condT hc (ht rfl)
 |false=>exact AIn.condF hc (hf rfl)
theorem Qv1{id:Nat}{l:List Oper}(hK:Tame K)(hnd:∀o∈l,∀c,o.op≠.defer c)(h:AOps E l.toArray l (Q05 E noFin [.inv fun fr σ=>K .normal fr σ]) fr σ):AIn E (.region id l.toArray false) K fr σ:=
 AIn.region hK hnd (h.monoK fun e fr σ hk=>by
  cases e with
  |normal=>exact hk
  |_=>exact (hk:False).elim)
end
theorem XM.freezeArrO(i j:Id)(off:Nat){s:Nat}(hg:σ.get i=some (.cells (vec s es cap)))(hl:∀x∈es,x.length=s)(hgj:(σ.set i .dead).get j=some (.cells cs))(hoff:cs[off]?=some (.arr i s 0 es.length cap))
  (Qvu:Q28 ((σ.set i .dead).set j (.cells (cs.set off (.sl s es))))) (h:XM P Tb Γ N F w0 C0 K c fr ((σ.set i .dead).set j (.cells (cs.set off (.sl s es))))):XM P Tb Γ N F w0 C0 K c fr σ:=by
 intro Ds w C tmps hgo hi hf hm hpl;obtain⟨h1,h2,h3⟩:=Q6q hi hf hg (fr':=[]) trivial;obtain⟨hok,zs,T,b1,b2,b3,b4⟩:=hi.obj i _ hg;have key:∀v,R w (C.froze (C.blk i)) (.arr i s 0 es.length cap) v->R w (C.froze (C.blk i)) (.sl s es) v:=by
  intro u hr;simp only[R,Z3c]at hr;refine⟨some ⟨C.blk i,0,none⟩,cap,hr.2.1,hr.2.2,.inr ⟨_,rfl,rfl,?_⟩⟩;have hfl:=Q3o hl;have hzl:=RV.length b3;have hv:RV w (C.froze (C.blk i)) es.flatten (zs.take (es.length * s)):=by have:=(b3.take (es.length * s)).ext h1.chg;rwa [vec,Z2i zoy,Z2k zoy]at this
  refine RS.ofVals 0 hl hv fun j v hj=>⟨?_,.inr rfl⟩;have h2:j < es.length * s:=by have:=(Z0v.1 hj).1;simp at this;omega
  rw[Z0z h2]at hj;rw[Z3a,cell_of_row _ _ _ _ _ _ b1];simpa using hj
 obtain⟨hokj,xs,Tj,o1,o2,o3,o4⟩:=h2.obj j _ hgj;obtain⟨he,hi'⟩:=h2.turn hgj (g:=(C.froze (C.blk i)).blk j) rfl (w':=w) rfl (fun _ _=>rfl) (fun _ _ _=>rfl) (o':=.cells (cs.set off (.sl s es))) rfl fun _=>⟨xs,Tj,o1,o2,Qts key o3 hoff,o4⟩;refine h Ds w _ tmps (hgo.trans h1.toO) hi' ⟨hf.1,fun k x hk=>?_⟩ hm Qvu;obtain⟨u,hu,hr⟩:=hf.2 k x hk;exact⟨u,hu,hr.ext h1.chg⟩
theorem XM.wkObj(i:Id){cs':List AC}(hg:σ.get i=some (.cells cs))(hw:∀(w:World)(C:Ctx)(xs:List Value),RV w C cs xs->RV w C cs' xs)(Qvu:Q28 (σ.set i (.cells cs')))(h:XM P Tb Γ N F w0 C0 K c fr (σ.set i (.cells cs'))):XM P Tb Γ N F w0 C0 K c fr σ:=by intro Ds w C tmps hgo hi hf hm hpl;obtain⟨hok,xs,T,o1,o2,o3,o4⟩:=hi.obj i _ hg;obtain⟨he,hi'⟩:=hi.turn hg (g:=C.blk i) rfl (w':=w) rfl (fun _ _=>rfl) (fun _ _ _=>rfl) (o':=.cells cs') rfl fun _=>⟨xs,T,o1,o2,hw w C xs o3,o4⟩;exact h Ds w C tmps hgo hi' hf hm Qvu
theorem fr_isO:∀{fr:Fr},(∀p∈fr,p.2.ids isO)->∀k x,Fr.get k fr=some x->x.ids isO
 |[],_,k,x,h=>by cases h
 |(j,y)::fr,hp,k,x,h=>by
  simp only[Fr.get]at h;cases hb:Nat.beq j k with
  |true=>rw[hb]at h;cases h;exact hp _ Z1r
  |false=>rw[hb]at h;exact fr_isO (fun q hq=>hp q (Z1q _ hq)) k x h
theorem ouAdd1{kc:Nat}{o:AObj}(h:∀m,kc<=m->ov m=none):ouAdd ov kc [o] kc=some o/\∀q x,ov q=some x->ouAdd ov kc [o] q=some x:=by refine⟨by simpa using Q0o (ou:=ov) (k:=kc) (os:=[o]) 0,fun q x hx=>?_⟩;rw[Q14 (Q4u h hx)];exact hx
theorem Q1y{p:AObj->Prop}{kc:Nat}{o:AObj}(h:∀k x,ov k=some x->p x)(ho:p o):∀k x,ouAdd ov kc [o] k=some x->p x:=fun k x hx=>by
 rcases Z33 k kc with hk|hk
 ·rw[Q14 hk]at hx;exact h k x hx
 ·obtain⟨p,rfl⟩:∃p,k=kc+p:=⟨k - kc,by omega⟩;rw[Q0o]at hx;cases p with
  |zero=>simp at hx;subst hx;exact ho
  |succ p=>simp at hx
end Go.Abs
namespace Go.Proofs.YtlmokgooijbcdaaGreatDoor
open Go Go.RowKit Go.Abs Go.CoreX
attribute [local go_sem] Oper.semAt_some
set_option maxRecDepth 100000 in
theorem tz_in(F:Fence)(n:Nat)(h7:F.fn 128)(hro:F.round=none)(x:Nat)(hx:x < 18446744073709551616)(h0:x≠0)(W:World)(hT:TabAt 2 Lib.deBruijn64tab W):
  CallsIn F n Tryz.prog 128 #[.int .u64 (x:Int)] W fun e W'=>e=.returned (.int .i64 (Lib.ctz 64 x:Nat))/\W'=W:=by
 obtain⟨hlow,hk⟩:=Qzx 64 x h0 hx;obtain⟨hi,htab⟩:=Lib.deBruijn64_at _ hk;have hcell:=hT _ hi;rw[htab]at hcell;have key:=tz64_key x _ hx h0 hlow;obtain⟨idx,hidx⟩:∃idx,idx=2 ^ Lib.ctz 64 x * 285870213051353865 % 18446744073709551616 / 288230376151711744:=⟨_,rfl⟩;rw[←hidx]at key hi hcell;obtain⟨k,hkk⟩:∃k,k=Lib.ctz 64 x:=⟨_,rfl⟩;rw[←hkk]at hcell hk ⊢;have hx0:((x:Int)==0)=false:=by simp;omega
 clear hidx hlow htab hkk hT;refine callsIn_of_wp Tryz.func128 rfl h7 ?_ hro;simp only[Tryz.ntmps128,Z2e,Z13,Z17,Nat.reduceAdd,Nat.reduceSub,Array.replicate_succ,Array.replicate_zero,List.push_toArray,List.append_toArray,Z25,Z03]
 gi_wp2_with (simp only[key])
 go_ret
 exact⟨rfl,rfl⟩
set_option maxRecDepth 100000 in
theorem all_in(F:Fence)(n:Nat)(h7:F.fn 103)(h50:F.fn 128)(hro:F.round=none)(l b L:Nat)(hL:L<=1048576)(ws:List Nat)(hws:WOk L ws)(Kp:World->World->Prop)(hKr:∀A,Kp A A)(hKt:∀A B C,Kp A B->Kp B C->Kp A C)
  (hKe:∀A B j,Kp A B->j < L->B.cell? ⟨b,j,none⟩=A.cell? ⟨b,j,none⟩) (hKT:∀A B,Kp A B->TabAt 2 Lib.deBruijn64tab A->TabAt 2 Lib.deBruijn64tab B) (J:List Nat->World->Prop)
  (hY:∀pre (x:Nat) W,J pre W->pre.length < (elems ws).length->YieldAt F (n - 1) Tryz.prog l #[.int .i64 (x:Int)] W fun e W'=>e=.returned (.bool true)/\J (pre++[x]) W'/\Kp W W')
  (W:World) (hc:∀(j w:Nat),ws[j]?=some w->W.cell? ⟨b,j,none⟩=some (.int .u64 (w:Int))) (hT:TabAt 2 Lib.deBruijn64tab W) (h0:J [] W) (hn:1<=n):
  CallsIn F n Tryz.prog 103 #[.slice (some ⟨b,0,none⟩) L L,.func (.yield l) #[] #[]] W fun e W'=>(∃v,e=.returned v)/\∃xs,xs=elems ws/\J xs W':=by
 refine callsIn_of_wp Tryz.func103 rfl h7 ?_ hro;simp only[Tryz.ntmps103,Z2e,Z13,Z17,Nat.reduceAdd,Nat.reduceSub,Array.replicate_succ,Array.replicate_zero,List.push_toArray,List.append_toArray,Z25,Z03]
 gi_wp2
 gi_loopw [8] (fun i wr=>∃k:Nat,k<=L/\i=.int .i64 (k:Int)/\J (Q1x 0 (ws.take k)) wr/\Kp W wr)
  (fun i _=>L - (intOf i).toNat)
 case atStart=>exact⟨0,Z3b _,rfl,by simpa[Q1x]using h0,hKr _⟩
 case round=>
  obtain⟨k,hk,rfl,hJs,hnx⟩:=hrel;by_cases hlt:k < L
  ·obtain⟨w,hwk⟩:=Q00 (show k < ws.length by rw[hws.1];exact hlt);have hcx:wr.cell? ⟨b,0+k,none⟩=some (.int .u64 (w:Int)):=by rw[Z3a];exact (hKe W wr k hnx hlt).trans (hc k w hwk)
   have hcx':wr.cell? ⟨b,k,none⟩=some (.int .u64 (w:Int)):=(hKe W wr k hnx hlt).trans (hc k w hwk);have hki:((k:Nat):Int) < (L:Int):=by omega
   have hTr:=hKT W wr hnx hT;have htl:(ws.take k).length=k:=by rw[Z1c,hws.1];omega
   have hwl:=hws.2 w (Z1y hwk);obtain⟨A,hA⟩:∃A,A=Q1x 0 (ws.take k):=⟨_,rfl⟩;rw[←hA]at hJs;have Qxg:∃r,elems ws=(A++(Q1w w).map (fun n=>64 * k+n))++r:=by
    have h2:ws=(ws.take k++[w])++ws.drop (k+1):=by rw[←Q0h hwk];simp
    refine⟨Q1x (0+(ws.take k++[w]).length) (ws.drop (k+1)),?_⟩;unfold elems;conv=>lhs;rw[h2]
    rw[Q69,Q50,htl,←hA]
   gi_wp2_with (fail)
   gi_loopw [5] (fun v wr2=>∃(w1:Nat) (dn:List Nat),v=.int .u64 (w1:Int)/\J (A++dn.map (fun n=>64 * k+n)) wr2/\Kp wr wr2/\dn++Q1w w1=Q1w w/\w1<=w)
    (fun v _=>(intOf v).toNat)
   case atStart=>exact⟨w,[],rfl,by simpa using hJs,hKr _,rfl,Z30 _⟩
   case round=>
    obtain⟨w1,dn,rfl,hJ2,hk2,hel,hwle⟩:=hrel;by_cases hw0:w1=0
    ·subst hw0
     gi_wp2_with (fail)
     have hz:Q1w 0=[]:=by rw[Q1w,dif_pos rfl]
     refine⟨⟨k+1,by omega,rfl,?_,hKt _ _ _ hnx hk2⟩,?_⟩
     ·rw[Q0h hwk,Q50,htl,←hA,←hel,hz,Z02];exact hJ2
     ·simp only[intOf];omega
    ·have hlw:w1 < 18446744073709551616:=by omega
     have hne:((w1:Int)==0)=false:=by simp;omega
     have hctz:=(Qzx 64 w1 hw0 hlw).2;obtain⟨cz,hcz⟩:∃cz,cz=Lib.ctz 64 w1:=⟨_,rfl⟩;have htz:=fun n=>tz_in F n h50 hro w1 hlw hw0 _ (hKT _ _ hk2 hTr);rw[←hcz]at hctz;simp only[←hcz]at htz;have Qxf:Q1w w1=cz::Q1w (w1 &&& (w1 - 1)):=by rw[Q1w,dif_neg hw0,←hcz]
     have hlen:(A++dn.map (fun n=>64 * k+n)).length < (elems ws).length:=by obtain⟨r,hr⟩:=Qxg;rw[hr,←hel,Qxf];simp
     obtain⟨fn,tmps,assign,body,hy,hR⟩:=hY _ (64 * k+cz) _ hJ2 hlen;rw[show ((64 * k+cz:Nat):Int)=64 * (k:Int)+(cz:Int) by simp]at hy;have hand:bits BinOp.and IntKind.u64 (w1:Int) ((w1:Int) - 1)=((w1 &&& (w1 - 1):Nat):Int):=by rw[show (w1:Int) - 1=((w1 - 1:Nat):Int) by omega];exact bits_and_u64_nat w1 (w1 - 1) hlw zoy
     clear hcz hlen
     gi_wp2_with (fail)
     refine (htz _).mono ?_;rintro e W3 ⟨rfl,rfl⟩
     gi_wp2_with (fail)
     refine hR.mono ?_;rintro e W4 ⟨rfl,hJ4,hk4⟩
     gi_wp2_with (simp only[hand])
     have hle:w1 &&& (w1 - 1)<=w1 - 1:=Z2u;refine⟨⟨w1 &&& (w1 - 1),dn++[cz],rfl,?_,hKt _ _ _ hk2 hk4,?_,by omega⟩,?_⟩
     ·rw[Z1e,←Z01];exact hJ4
     ·rw[Z01,List.singleton_append,←Qxf];exact hel
     ·simp only[intOf,Qzv];omega
  ·obtain rfl:k=L:=by omega
   gi_wp2_with (fail)
   go_end0
   rw[Z2k (by rw[hws.1];exact Z30 _)]at hJs;exact⟨⟨_,rfl⟩,_,rfl,hJs⟩
end Go.Proofs.YtlmokgooijbcdaaGreatDoor
namespace Go.Proofs.YtlmokgooijbcdaaGreatDoor
open Go Go.RowKit Go.Abs Go.CoreX
theorem all_seq(hL:L<=1048576)(hws:WOk L ws)(hb:b < w.heap.size)(hpt:∀j,j < 64->C.prot ⟨2,j,none⟩)(hlt:∀a,C.prot a->a.block < w.heap.size)(hT:TabAt 2 Lib.deBruijn64tab w)
  (hc:∀(j x:Nat),ws[j]?=some x->w.cell? ⟨b,j,none⟩=some (.int .u64 (x:Int))):
  SeqB Tryz.prog 103 #[.slice (some ⟨b,0,none⟩) L L] (fun x:Nat=>#[.int .i64 (x:Int)]) (KpA C b L) (fun xs=>xs=elems ws) (elems ws).length w:=by
 intro l J W Qxp hY h0;have hlen:Lib.deBruijn64tab.length=64:=by simp[Lib.deBruijn64tab]
 exact all_in Fence.wide 1 trivial trivial rfl l b L hL ws hws (KpA C b L) (fun A=>⟨⟨KeepsWalks.refl A,fun _ _=>rfl⟩,fun _ _=>rfl⟩) (fun A B D h k=>h.trans k) (fun A B j h hj=>h.2 j hj) (fun A B h hA j hj=>(h.1.2 _ (hpt j (by rw[hlen]at hj;exact hj))).trans (hA j hj)) J hY W
  (fun j x hx=>(Qxp.cell (p:=⟨b,j,none⟩) hb).trans (hc j x hx)) (fun j hj=>(Qxp.cell (p:=⟨2,j,none⟩) (hlt _ (hpt j (by rw[hlen]at hj;exact hj)))).trans (hT j hj)) h0 (Z30 1)
end Go.Proofs.YtlmokgooijbcdaaGreatDoor
namespace Go.Proofs.YtlmokgooijbcdaaGreatDoor
theorem FE_of(he:okB e)(h:check e=0):FE e where
 l:=he.eo.l
 sh:=fun x hx=>⟨⟨x.kids,rfl,Qcn h x hx⟩⟩
 k:=((Q2j e).1 (Q43 h).1).2.1.k
 kl:=fun x hx=>(he.eo.x x hx).k
 bl:=fun x hx=>(he.eo.x x hx).b
 al:=fun x hx=>⟨(he.eo.x x hx).a,(he.eo.x x hx).ab⟩
def cFl (x:Nat×List Nat×Bool):List AC:=[int (x.1:Nat),.sl 1 ((x.2.1.map fun f:Nat=>(f:Int)).map cI),.lit (.bool x.2.2)]
@[simp] theorem ids_cNs (p:Abs.Id->Prop) (l:List Nat):idsS p (l.map (cI∘fun f:Nat=>(f:Int))):=Q2a (f:=cI∘fun f:Nat=>(f:Int)) (fun f=>Qml p _) l
@[simp] theorem Qmm (p:Abs.Id->Prop) (x:Nat×List Nat×Bool):idsL p (cFl x):=by simp[cFl]
@[simp] theorem ids_cFls (p:Abs.Id->Prop) (l:List (Nat×List Nat×Bool)):idsS p (l.map cFl):=Q2a (f:=cFl) (fun x=>Qmm p x) l
def noO:Outer:=fun _=>none
def OfC:Prop:=∀e:List Ex,okB e->check e=0->AFn Tryz.prog Γt 67 [.one (.sl 5 (e.map cEx))] noO (fun r ou'=>r=.tup [.one (.sl 3 ((Q1k e).map cFl)),.one (int 0)]/\ou'=noO)
def SzC:Prop:=∀e:List Ex,okB e->check e=0->(Q1k e).length<=1048576/\∀x∈Q1k e,x.2.1.length<=1048576
end Go.Proofs.YtlmokgooijbcdaaGreatDoor
namespace Go.CoreX
theorem Qpf{w:Nat}(h0:w≠0)(hw:w < 18446744073709551616):∀i,i<=Lib.ctz 64 w->(w &&& (w - 1)).testBit i=false:=fun i hi=>by
 obtain⟨m,hm,_⟩:=Lib.ctzFrom_spec 64 w zoy hw;have e:Lib.ctz 64 w=Lib.ctzFrom 64 w:=by simp[Lib.ctz,h0]
 rw[e]at hi;obtain⟨c,hc⟩:∃c,c=Lib.ctzFrom 64 w:=⟨_,rfl⟩;rw[←hc]at hm hi;rw[Z39,Bool.and_eq_false_iff];by_cases hic:i < c
 ·left;rw[hm,Nat.testBit_two_pow_mul];simp;omega
 ·right;have hi2:i=c:=by omega
  subst hi2;have hp:0 < 2 ^ i:=Nat.pow_pos zoy;have h1:w - 1=2 ^ i * (2 * m)+(2 ^ i - 1):=by rw[hm,Nat.mul_add,Z36];omega
  rw[h1,Nat.testBit_two_pow_mul_add _ zoy,if_neg zoy];simp
theorem Qk0(w:Nat)(hw:w < 18446744073709551616):∀k,(∀i,i < k->w.testBit i=false)->(Q1w w).length<=64 - k:=by
 induction w using Nat.strongRecOn with
 |_ w ih=>
  intro k hk;rw[Q1w];split
  ·simp
  ·rename_i h0;obtain⟨h1,h2⟩:=Qzx 64 w h0 hw;have hle:w &&& (w - 1)<=w - 1:=Z2u;have hb:w.testBit (Lib.ctz 64 w)=true:=by
    have h3:(w &&& (2 ^ 64 - w)).testBit (Lib.ctz 64 w)=true:=by rw[h1];simp
    rw[Z39,Qzc]at h3;exact h3.1
   have hkc:k<=Lib.ctz 64 w:=by
    by_cases hlt:Lib.ctz 64 w < k
    ·rw[hk _ hlt]at hb;cases hb
    ·omega
   have:=ih (w &&& (w - 1)) zoy zoy (Lib.ctz 64 w+1) fun i hi=>Qpf h0 hw i zoy;rw[Z13];omega
theorem Q8h:∀(s:List Nat)(k:Nat),(∀w∈s,w < 18446744073709551616)->(Q1x k s).length<=64 * s.length
 |[],k,_=>by simp[Q1x]
 |w::s,k,h=>by
  have h1:=Qk0 w (h w Z1r) 0 fun i hi=>by omega
  have h2:=Q8h s (k+1) fun x hx=>h x (Z1q _ hx);simp only[Q1x,Z12,Z16,Z13];omega
end Go.CoreX
namespace Go.Proofs.YtlmokgooijbcdaaGreatDoor
theorem Qby(e:List Ex):(Q1k e).length<=e.length:=by
 unfold Q1k;have key:∀n,((List.range n).flatMap fun i=>if (e.getD i ⟨0,0,[],[],[]⟩).op=3 then [Q5r e i (e.getD i ⟨0,0,[],[],[]⟩)]else []).length<=n:=by
  intro n
  induction n with
  |zero=>simp
  |succ n ih=>
   rw[Z2a,Z0h,Z12];simp only[List.flatMap_cons,List.flatMap_nil,Z02];split
   ·rw[Z1b];omega
   ·rw[Z17];omega
 exact key e.length
theorem szC:SzC:=fun e he hc=>by
 have hl:e.length<=4096:=((Q2j e).1 (Q43 hc).1).1;refine⟨Z31 (Qby e) zoy,fun x hx=>?_⟩;unfold Q1k at hx;obtain⟨i,_,hx⟩:=Z1u.1 hx;split at hx
 ·simp only[Z1p,Z28,or_false]at hx;subst hx;obtain⟨n,hn⟩:=stops (Q37 e);have hW:=(Q5e (Q37 e) n).1;rw[Q5n (Q37 e) hn]at hW;obtain⟨h1,h2⟩:=hW (nodeR ((e.getD i ⟨0,0,[],[],[]⟩).kids.getD 0 0));have h3:=Q8h _ 0 h2;rw[h1]at h3;refine Z31 (List.length_filter_le _ _) (Z31 h3 ?_);unfold words;omega
 ·simp at hx
theorem rl_get{w:World}{C:Ctx}{g:Nat}:∀{cs:List AC}{off j:Nat}{c:AC},RL w C cs ⟨g,off,none⟩->cs[j]?=some c->∃u,w.cell? ⟨g,off+j,none⟩=some u/\C.prot ⟨g,off+j,none⟩/\R w C c u
 |[],off,j,c,_,h=>by simp at h
 |c0::cs,off,0,c,hr,h=>by simp only[RL]at hr;obtain⟨⟨u,h1,h2,h3⟩,_⟩:=hr;simp at h;subst h;exact⟨u,h1,h2,h3⟩
 |c0::cs,off,j+1,c,hr,h=>by simp only[RL]at hr;obtain⟨u,h1,h2,h3⟩:=rl_get hr.2 (show cs[j]?=some c by simpa using h);exact⟨u,by rw[show off+(j+1)=off+1+j by omega];exact h1,by rw[show off+(j+1)=off+1+j by omega];exact h2,h3⟩
theorem Qcx(hi:Inv Γ F W C σ)(h:σ.get (.o k)=some (.cells (wC ws))){w:Nat}(hj:ws[j]?=some w):W.cell? ⟨C.blk (.o k),j,none⟩=some (.int .u64 (w:Int)):=by
 obtain⟨_,xs,T,h1,h2,h3,h4⟩:=hi.obj _ _ h;have e:wC ws=(ws.map fun w:Nat=>Value.int .u64 (w:Int)).map .lit++[]:=by simp[wC,cW,Z1i]
 rw[e]at h3;obtain⟨h5,h6⟩:=Qt0 h3;simp only[RV]at h6;rw[h6,Z02]at h5;subst h5;unfold World.cell?;rw[h1];simp[hj]
theorem tab_at(hi:Inv Γt F W C σ):TabAt 2 Lib.deBruijn64tab W/\∀j,j < 64->C.prot ⟨2,j,none⟩:=by
 have hg:=(hi.glob 2 dbC (by simp[Γt])).rl;have hl:Lib.deBruijn64tab.length=64:=by simp[Lib.deBruijn64tab]
 have key:∀j,j < 64->∃u,W.cell? ⟨2,0+j,none⟩=some u/\C.prot ⟨2,0+j,none⟩/\R W C (.lit (.int .u8 ((Lib.deBruijn64tab.getD j 0:Nat):Int))) u:=fun j hj=>rl_get hg (by
  have:Lib.deBruijn64tab[j]?=some (Lib.deBruijn64tab.getD j 0):=by rw[Z0o,Z0t (by rw[hl];exact hj)];rfl
  unfold dbC;rw[Z0w,this];rfl)
 refine⟨fun j hj=>?_,fun j hj=>?_⟩
 ·obtain⟨u,h1,_,h3⟩:=key j (by rw[hl]at hj;exact hj);simp only[R]at h3;rw[Z3a]at h1;rw[h1,h3.1]
 ·obtain⟨u,_,h2,_⟩:=key j hj;rwa [Z3a]at h2
def Q1a:AObj->Prop
 |.cells _=>True
 |.tok _ _ _=>True
 |.dead=>True
 |_=>False
theorem Qe9(hp:p∈[(a,AObj.cells cs)]):Q1a p.2:=by
 rcases Z1p.1 hp with rfl|hp
 ·trivial
 ·cases hp
theorem Qbg(hp:p∈[(b,AObj.dead),(a,AObj.cells cs)]):Q1a p.2:=by
 rcases Z1p.1 hp with rfl|hp
 ·trivial
 ·exact Qe9 hp
theorem Q0w{lo:List (Nat×AObj)}(h1:∀p∈lo,Q1a p.2)(h2:∀k o,ou k=some o->Q1a o):Q28 ⟨n,lo,ou⟩:=fun i o h=>by
 have h3:Q1a o:=by
  cases i with
  |o k=>exact h2 k o h
  |l k=>
   have h4:∀(lo:List (Nat×AObj)),(∀p∈lo,Q1a p.2)->lookL k lo=some o->Q1a o:=by
    intro lo
    induction lo with
    |nil=>intro _ h5;cases h5
    |cons p lo ih=>
     intro hp h5;by_cases hpk:p.1=k
     ·subst hpk;rw[show p=(p.1,p.2)from rfl,Qaa]at h5;cases h5;exact hp p Z1r
     ·rw[show p=(p.1,p.2)from rfl,Qd0 hpk]at h5;exact ih (fun q hq=>hp q (Z1q _ hq)) h5
   exact h4 lo h1 h
 cases o <;> first|trivial|exact h3
def flowN (e:List Ex)(n:Nat):List (Nat×List Nat×Bool):=(List.range n).flatMap fun i=>if (e.getD i ⟨0,0,[],[],[]⟩).op=3 then [Q5r e i (e.getD i ⟨0,0,[],[],[]⟩)]else []
theorem Q8d(e:List Ex)(n:Nat):flowN e (n+1)=flowN e n++(if (e.getD n ⟨0,0,[],[],[]⟩).op=3 then [Q5r e n (e.getD n ⟨0,0,[],[],[]⟩)]else []):=by simp[flowN,Z2a]
theorem Qf1(e:List Ex):∀n,(flowN e n).length<=n
 |0=>Z30 _
 |n+1=>by have:=Qf1 e n;rw[Q8d,Z12];split <;> simp <;> omega
def ofF (e:List Ex)(ks j:Nat)(oc:Option (Nat×Nat)):Fr:=[(20,.one (int (j:Nat))),(19,.one (int (e.map cEx).length)),(18,.one (.sl 5 (e.map cEx))),(6,.one (gC 3 ((flowN e j).map cFl) oc)),(5,.one (.ptr (.o ks) 0)),(1,.one (.box [.sl 5 (e.map cEx)]))]
structure OfI (e:List Ex)(oN:Outer)(j:Nat)(oc:Option (Nat×Nat))(ov:Outer):Prop where
 go:GO 3 ((flowN e j).map cFl) oc ov
 ok:OuOk ov
 pl:∀k o,ov k=some o->Q1a o
 old:∀k o,oN k=some o->ov k=some o
 new:∀q∈gK oc,oN q=none
def fnsL (l:List Nat):List (List AC):=(l.map fun f:Nat=>(f:Int)).map cI
structure RI (e:List Ex)(j kc:Nat)(oX:Outer)(pre:List Nat)(og:Option (Nat×Nat))(oz:Outer):Prop where
 c:oz kc=some (.cells [int (j:Nat),gC 1 (fnsL (pre.filter fun f=>f != e.length)) og,.lit (.bool (pre.contains e.length))])
 go:GO 1 (fnsL (pre.filter fun f=>f != e.length)) og oz
 ok:OuOk oz
 pl:∀k o,oz k=some o->Q1a o
 old:∀k o,oX k=some o->k≠kc->oz k=some o
 new:∀q∈gK og,oX q=none
theorem Q7g(l:List Nat)(f:Nat):fnsL (l++[f])=fnsL l++[[int (f:Nat)]]:=by simp[fnsL,cI]
theorem Qpu(l:List Nat):∀x∈fnsL l,x.length=1:=by intro x hx;obtain⟨z,_,rfl⟩:=Z1w.1 hx;rfl
theorem RI.kc{e:List Ex}{j kc:Nat}{oX:Outer}{pre:List Nat}{og:Option (Nat×Nat)}{oz:Outer}(h:RI e j kc oX pre og oz)(hX:oX kc≠none):kc∉gK og:=fun hq=>hX (h.new kc hq)
@[simp] theorem ids_fnsL (p:Abs.Id->Prop) (l:List Nat):idsS p (fnsL l):=Q2a (f:=cI) (fun x=>Qml p x) _
theorem Qbh:Q1a .dead:=trivial
theorem Q2u(h:∀k o,ov k=some o->Q1a o){o:AObj}(ho:Q1a o):∀k x,updO ov q o k=some x->Q1a x:=fun k x hx=>by
 by_cases e:q=k
 ·subst e;rw[Q04]at hx;cases hx;exact ho
 ·rw[Q02 _ e]at hx;exact h k x hx
theorem RI.other{kc:Nat}(h:RI e j kc oX pre og oz)(hX:oX kc≠none)(hf:f=e.length):
  RI e j kc oX (pre++[f]) og (updO oz kc (.cells ([int (j:Nat),gC 1 (fnsL (pre.filter fun f=>f != e.length)) og,.lit (.bool (pre.contains e.length))].set (0+2) (.lit (.bool true))))):=by
 have e1:(pre++[f]).filter (fun f=>f != e.length)=pre.filter fun f=>f != e.length:=by simp[List.filter_append,hf]
 have e2:(pre++[f]).contains e.length=true:=by simp[hf]
 have hk:=h.kc hX;refine⟨by rw[Q04,e1,e2];rfl,by rw[e1];exact h.go.keep fun q hq=>by rw[Q02 _ (fun e'=>hk (by rw[e'];exact hq))],Q0m h.ok zsy,Q2u h.pl trivial,fun k o ho hne=>by rw[Q02 _ (Z3d hne)];exact h.old k o ho hne,h.new⟩
theorem RI.fn{kc:Nat}(h:RI e j kc oX pre og oz)(hX:oX kc≠none)(hf:f≠e.length)(hok:OuOk o3)(hb3:∀q,q∉gK og->o3 q=oz q)(hbn:∀q∈gK og,o3 q=some .dead)(hkn:∀m,kn<=m->o3 m=none)
  (hcap:(fnsL (pre.filter fun f=>f != e.length)++[[int (f:Nat)]]).length<=cap):
  RI e j kc oX (pre++[f]) (some (kn,cap)) (updO (ouAdd o3 kn [.cells (vec 1 (fnsL (pre.filter fun f=>f != e.length)++[[int (f:Nat)]]) cap)]) kc (.cells ([int (j:Nat),gC 1 (fnsL (pre.filter fun f=>f != e.length)) og,.lit (.bool (pre.contains e.length))].set (0+1) (.arr (.o kn) 1 0 (fnsL (pre.filter fun f=>f != e.length)++[[int (f:Nat)]]).length cap)))):=by
 have e1:(pre++[f]).filter (fun f=>f != e.length)=(pre.filter fun f=>f != e.length)++[f]:=by simp[List.filter_append,hf]
 have e2:(pre++[f]).contains e.length=pre.contains e.length:=by simp[Z3d hf]
 have hk:=h.kc hX;obtain⟨g1,g2⟩:=GO.new (s:=1) (es:=fnsL (pre.filter fun f=>f != e.length)++[[int (f:Nat)]]) hkn hcap;have hz:∀q o,oz q=some o->q∉gK og->o3 q=some o:=fun q o ho hq=>by rw[hb3 q hq];exact ho
 have hkc:kc≠kn:=fun e=>by have h1:=hz kc _ h.c hk;rw[hkn kc zoy]at h1;cases h1
 have Qwa:∀k o,o3 k=some o->Q1a o:=fun k o ho=>by
  by_cases hq:k∈gK og
  ·rw[hbn k hq]at ho;cases ho;trivial
  ·rw[hb3 k hq]at ho;exact h.pl k o ho
 have Qvd:(AObj.cells (vec 1 (fnsL (pre.filter fun f=>f != e.length)++[[int (f:Nat)]]) cap)).ids isO:=Q29 _ (by rw[←Q7g];simp);refine⟨by rw[Q04,e1,e2,Q7g];rfl,?_,Q0m (Q1y (p:=fun o=>o.ids isO) hok Qvd) (by simp[AC.ids,isO]),Q2u (Q1y (p:=Q1a) Qwa (show Q1a (.cells _)from trivial)) trivial,fun k o ho hne=>?_,fun q hq=>?_⟩
 ·rw[e1,Q7g];exact g1.keep fun q hq=>Q02 _ (fun e=>by simp[gK]at hq;exact hkc (e.trans hq)) _
 ·rw[Q02 _ (Z3d hne)];exact g2 _ _ (hz _ _ (h.old k o ho hne) fun hq=>by rw[h.new k hq]at ho;cases ho)
 ·simp[gK]at hq;subst hq;cases ho:oX q with
  |none=>rfl
  |some o=>
   have:=hz q o (h.old q o ho (fun e=>hkc e.symm)) fun hq=>by rw[h.new q hq]at ho;cases ho
   rw[hkn q (Z30 _)]at this;cases this
theorem RI.froze{kc:Nat}(h:RI e j kc oX pre og oz)(hX:oX kc≠none)
  (hk:∀oy:Outer,oy kc=some (.cells [int (j:Nat),.sl 1 (fnsL (pre.filter fun f=>f != e.length)),.lit (.bool (pre.contains e.length))])->OuOk oy->(∀k o,oy k=some o->Q1a o)->(∀k o,oX k=some o->k≠kc->oy k=some o)->XM P T Γ N F w0 C0 K c fr ⟨0,[],oy⟩):XM P T Γ N F w0 C0 K c fr ⟨0,[],oz⟩:=by
 have hkc:=h.kc hX;cases hg:og with
 |none=>
  subst hg;have hn:=h.go.nn rfl;have hc:=h.c;rw[hn]at hc hk;refine XM.wkObj (.o kc) hc (cs':=[int (j:Nat),.sl 1 [],.lit (.bool (pre.contains e.length))]) (fun w C xs hr=>?_) ?_ ?_
  ·simp only[gC,RV]at hr ⊢;obtain⟨u,us,rfl,h1,u2,us2,rfl,h2,h3⟩:=hr;exact⟨u,_,rfl,h1,u2,_,rfl,Wk.nilS 1 w C u2 h2,h3⟩
  ·rw[Q0n];exact Q0w zsy (Q2u h.pl trivial)
  ·rw[Q0n];exact hk _ (Q04 _ _ _) (Q0m h.ok (by simp[AC.ids])) (Q2u h.pl trivial) fun k o ho hne=>by rw[Q02 _ (Z3d hne)];exact h.old k o ho hne
 |some p=>
  obtain⟨kn,cap⟩:=p;subst hg;have hc:=h.c;obtain⟨h1,h2⟩:=h.go.ob kn cap rfl;have hne:kn≠kc:=fun e=>hkc (by simp[gK,e]);have hset:(St.set ⟨0,[],oz⟩ (.o kn) .dead).set (.o kc) (.cells ([int (j:Nat),gC 1 (fnsL (pre.filter fun f=>f != e.length)) (some (kn,cap)),.lit (.bool (pre.contains e.length))].set 1 (.sl 1 (fnsL (pre.filter fun f=>f != e.length)))))=⟨0,[],updO (updO oz kn .dead) kc (.cells [int (j:Nat),.sl 1 (fnsL (pre.filter fun f=>f != e.length)),.lit (.bool (pre.contains e.length))])⟩:=by rw[Q0n,Q0n];rfl
  refine XM.freezeArrO (.o kn) (.o kc) 1 (s:=1) (cap:=cap) (es:=fnsL (pre.filter fun f=>f != e.length)) (cs:=[int (j:Nat),gC 1 (fnsL (pre.filter fun f=>f != e.length)) (some (kn,cap)),.lit (.bool (pre.contains e.length))]) h1 (Qpu _) (by rw[Q0n];show updO oz kn .dead kc=_;rw[Q02 _ hne];exact hc) rfl ?_ ?_
  ·rw[hset];exact Q0w zsy (Q2u (Q2u h.pl Qbh) trivial)
  ·rw[hset];exact hk _ (Q04 _ _ _) (Q0m (Q0m h.ok trivial) (by simp[AC.ids])) (Q2u (Q2u h.pl Qbh) trivial) fun k o ho Qx7=>by rw[Q02 _ (Z3d Qx7),Q02 _ (fun e=>by rw[←e,h.new kn (by simp[gK])]at ho;cases ho)];exact h.old k o ho Qx7
theorem Q63(h:∀k o,ov k=some o->Q1a o):Q28 ⟨0,[],ov⟩:=Q0w (fun p hp=>by cases hp) h
theorem Of_ok(e:List Ex)(he:okB e)(hE:check e=0->FE e):AFn Tryz.prog Γt 67 [.one (.sl 5 (e.map cEx))] noO (fun r ou'=>r=(if check e=0 then .tup [.one (.sl 3 ((Q1k e).map cFl)),.one (int 0)]else .tup [.one (.sl 3 []),.one (int (check e))])/\ou'=noO):=by
 have hc:=APure.t (Q9m e he);by_cases h:check e=0
 ·rw[h]at hc;have hE':=hE h;have hne:1<=e.length:=Z18.2 (Q1t h).ne;have hel:=hE'.l;rw[if_pos h];refine Qt5 ?_;refine Quw 59 tabOk Tryz.func67 rfl zky rfl rfl ?_ fun hou F w0 C0=>?_
  ·intro i o h;cases i <;> cases h
  refine Quy fun ds=>?_;refine zA ?_;refine cInv ⟨Q0w (by simp[Q1a]) (fun k o h=>by cases h),?_⟩;refine Quy fun ds=>?_;refine zA ?_;refine zca hΓt hc hou ?_;refine zA ?_;refine cInv ⟨Q0w (by simp[Q1a]) (fun k o h=>by cases h),?_⟩;refine Quy fun ds=>?_;refine zA ?_;refine Qrb hΓt rfl rfl rfl rfl rfl rfl rfl (by simp[FV.ids,idsF]) hou (Qoi e hE' hne _) fun r oS hq Qvd ho1=>?_;obtain⟨y,n,rfl,hyn,hFR,hst,_⟩:=hq;obtain⟨oN,hoN⟩:∃oN:Outer,oN=fun k=>if k=y.ks∨k∈y.nk then oS k else none:=⟨_,rfl⟩;have hsub:∀k o,oN k=some o->oS k=some o:=fun k o hk=>by
   rw[hoN]at hk;dsimp only at hk;split at hk
   ·exact hk
   ·cases hk
  have hokN:OuOk oN:=fun k o hk=>ho1 k o (hsub k o hk);have hsN:oN y.ks=some (.cells [.sl 5 (e.map cEx),.sl 1 (nC (words e) y.nk),.mp (.o y.km),aS (words e) y.kh,aS (words e) y.ka,.lit (.bool (Q0q e n).2)]):=by rw[hoN];dsimp only;rw[if_pos (.inl rfl)];exact Qus hFR
  have h0W:AllW e (Q1i e):=Q37 e;have hfs:=Q5n h0W hst;have hnN:∀i q,y.nk[i]?=some q->oN q=some (.cells (wC (Q19 e (.node i)))):=fun i q hq=>by rw[hoN];dsimp only;rw[if_pos (.inr (Z1y hq)),←hfs];exact hFR.ro (.node i) q hq
  have Qxq:∀k o,oN k=some o->Q1a o:=fun k o hk=>by
   rw[hoN]at hk;dsimp only at hk;split at hk
   ·rename_i hh;rcases hh with rfl|hh
    ·rw[hFR.so]at hk;cases hk;trivial
    ·obtain⟨i,hi⟩:=Z1v.1 hh;rw[hFR.ro (.node i) k hi]at hk;cases hk;trivial
   ·cases hk
  have hwN:∀i,WOk (words e) (Q19 e (.node i)):=fun i=>by rw[←hfs];exact hFR.w _
  refine Qsy hsub ?_;clear hoN hFR hst hfs ho1 hsub;refine zA ?_;refine cInv ⟨Q0w (fun p hp=>Qe9 hp) Qxq,?_⟩;refine Quy fun ds=>?_;refine Qyp (.l 0) 1 rfl rfl ?_;refine zA ?_;refine cInv ⟨Q0w (fun p hp=>Qbg hp) Qxq,?_⟩;refine XM.seq ?_;refine Quy fun ds=>?_;refine zA ?_;refine cInv ⟨Q0w (fun p hp=>Qbg hp) Qxq,?_⟩;refine XM.block ?_;refine XM.loop (fun m fr σ=>∃(j:Nat) (oc:Option (Nat×Nat)) (ov:Outer) (ρ:Nat->Nat),j<=e.length/\OfI e oN j oc ov/\m=e.length - j/\LessR ρ fr σ (ofF e y.ks j oc) ⟨0,[],ov⟩) (m:=e.length) ⟨0,none,oN,_root_.id,by omega,⟨⟨fun _=>rfl,fun kn cap h=>by cases h⟩,hokN,Qxq,fun _ _ h=>h,fun q hq=>by simp[gK]at hq⟩,by simp,Qzw rfl (by unfold ofF;(repeat' first|exact Qzq|refine zfc ?_|refine zfo ?_|refine zfp ?_)) (by simp[ofF,gC,flowN]) zLO rfl rfl hokN⟩ ?_;rintro m fr σ ⟨j,oc,ov,ρ,hjl,hI,rfl,hl⟩;refine XM.lessR hΓt hl (Q63 hI.pl) ?_;clear hl;have hgi:=ids_gC 3 ((flowN e j).map cFl) oc;refine Quy fun ds=>?_;unfold ofF;refine zA ?_;refine cInv ⟨Q63 hI.pl,?_⟩;refine XM.seq ?_;refine XM.cond rfl (fun hb=>?_) (fun hb=>?_)
  ·have hlt:j < e.length:=by simp at hb;omega
   obtain⟨x,hx⟩:=Q00 hlt;have hg:(e.map cEx)[j]?=some (cEx x):=by simp[hx]
   refine XM.skip ?_;refine XM.seq (T:=tab) ?_;refine XM.block ?_;refine Quy fun ds=>?_;refine zA ?_;refine zS (zIA rfl rfl rfl zoy hg) ?_;refine zA ?_;refine cInv ⟨Q0w (by simp[Q1a,St.push,St.set,or_imp,forall_and]) hI.pl,?_⟩;refine XM.seq ?_;refine Quy fun ds=>?_;refine Qyp (.l 0) 8 rfl rfl ?_;refine zA ?_;refine cInv ⟨Q0w (by simp[Q1a,St.push,St.set,or_imp,forall_and]) hI.pl,?_⟩;refine XM.cond rfl (fun hb3=>?_) (fun hb3=>?_)
   ·refine XM.exit ?_;simp only[thenM,inBlk];have h3:x.op≠3:=by simpa using hb3
    have hfl:flowN e (j+1)=flowN e j:=by rw[Q8d,Q0b hx,if_neg h3,Z02]
    refine Quz (T:=tab) fun ds=>?_;refine zM ?_;refine cInv ⟨Q0w (by simp[Q1a,St.push,St.set,or_imp,forall_and]) hI.pl,?_⟩;exact⟨e.length - (j+1),by omega,j+1,oc,ov,_root_.id,by omega,⟨by rw[hfl];exact hI.go,hI.ok,hI.pl,hI.old,hI.new⟩,rfl,Qzw rfl (by rw[hfl];(repeat' first|exact Qzq|refine zfc ?_|refine zfo ?_|refine zfp ?_)) (by rw[hfl];simp[hgi]) zLO rfl rfl hI.ok⟩
   ·refine XM.skip ?_;have h3:x.op=3:=by simpa using hb3
    refine Quy (T:=tab) fun ds=>?_;refine zA ?_;refine cInv ⟨Q0w (by simp[Q1a,St.push,St.set,or_imp,forall_and]) hI.pl,?_⟩;refine XM.cedes [1] zdy hI.ok fun kc hkc=>⟨[(9,.one (.ptr (.o kc) 0)),(8,.one (.box (cEx x))),(20,.one (int (j:Nat))),(19,.one (int (e.map cEx).length)),(18,.one (.sl 5 (e.map cEx))),(6,.one (gC 3 ((flowN e j).map cFl) oc)),(5,.one (.ptr (.o y.ks) 0)),(1,.one (.box [.sl 5 (e.map cEx)]))],[],[.cells [int (j:Nat),.lit (.slice none 0 0),.lit (.bool false)]],.cons rfl rfl (.keepO rfl zsy (.keepO rfl zsy (.keepO rfl zsy (.keepO rfl zsy (.keepO rfl zsy (.keepO rfl (by simp[isO]) (.keepO rfl zsy .nil))))))),.nil,.cons rfl rfl .nil,?_,?_⟩
    ·exact Q0w zsy (Q1y hI.pl trivial)
    have Qy9:∀m,kc<=m->ov m=none:=hkc;obtain⟨oX,hoX⟩:∃oX,oX=ouAdd ov kc [.cells [int (j:Nat),.lit (.slice none 0 0),.lit (.bool false)]]:=⟨_,rfl⟩;show XM _ tab _ _ _ _ _ _ _ _ ⟨_,[],ouAdd ov kc [.cells [int (j:Nat),.lit (.slice none 0 0),.lit (.bool false)]]⟩;rw[←hoX];obtain⟨hXc,hXo⟩:=ouAdd1 (o:=.cells [int (j:Nat),.lit (.slice none 0 0),.lit (.bool false)]) Qy9;have hXp:=Q1y (p:=Q1a) (kc:=kc) (o:=.cells [int (j:Nat),.lit (.slice none 0 0),.lit (.bool false)]) hI.pl trivial;have hXk:OuOk (ouAdd ov kc [.cells [int (j:Nat),.lit (.slice none 0 0),.lit (.bool false)]]):=Q1y (p:=fun o=>o.ids isO) hI.ok zsy;rw[←hoX]at hXc hXo hXp hXk;have hxm:=Z1y hx;have hsh:=hE'.sh x hxm;rw[h3]at hsh;have hkl:=hsh.app.1;have hkl2:=hE'.kl x hxm;obtain⟨k0,hk0⟩:∃k,x.kids[0]?=some k:=Q00 zoy;obtain⟨hk0p,hk0l,q0,hq0,hkq0⟩:=Q2e hE' hyn hx hk0;have hsX:=hXo _ _ (hI.old _ _ hsN);refine XM.seq (T:=tab) ?_;refine Quy (T:=tab) fun ds=>?_;refine zdx 10 [(3,.one (.sl 1 (nC (words e) y.nk))),(6,.one (.box [int k0])),(8,.one (.box [aS (words e) q0]))] ?_ ?_
    ·refine .step rfl (zHP (zLD rfl rfl hsX rfl)) ?_;refine .step rfl (zHP (zIA rfl rfl rfl zoy (Q1f hk0))) ?_;exact .step rfl (zHP (zIA rfl rfl rfl hk0p (Q15 hq0))) .nil
    refine zA ?_;refine cInv ⟨Q0w zsy hXp,?_⟩;refine XM.lessR (T:=tab) (fr':=[(40,.one (.fn (.func 103) [aS (words e) q0] [])),(9,.one (.ptr (.o kc) 0)),(20,.one (int (j:Nat))),(19,.one (int (e.map cEx).length)),(18,.one (.sl 5 (e.map cEx))),(6,.one (gC 3 ((flowN e j).map cFl) oc)),(5,.one (.ptr (.o y.ks) 0)),(1,.one (.box [.sl 5 (e.map cEx)]))]) (σ':=⟨0,[],oX⟩) (ρ:=_root_.id) hΓt (Qzw rfl zFS (by simp[AC.ids,inL]) zLO rfl rfl hXk) (Q63 hXp) ?_;refine XM.block (T:=tab) ?_;refine Qux (T:=tab) (α:=Nat) (fun pre σ=>∃og oz m,σ=⟨m,[],oz⟩/\RI e j kc oX pre og oz) (fun xs=>xs=elems (Q19 e (nodeR k0))) ?_ ⟨none,oX,0,rfl,⟨hXc,⟨fun _=>rfl,fun kn cap h=>by cases h⟩,hXk,hXp,fun k o h _=>h,fun q hq=>by simp[gK]at hq⟩⟩ ?_ ?_ ?_
    ·rintro pre σ ⟨og,oz,m,rfl,hR⟩;exact Q0w zsy hR.pl
    ·exact fr_isO (by simp[AC.ids,isO])
    ·intro F' W C tmps ds hi hf;have hqX:oX q0=some (.cells (wC (Q19 e (nodeR k0)))):=hXo _ _ (hI.old _ _ (hnN _ _ hq0));have hqc:q0≠kc:=fun e1=>by have:=Qy9 kc (Z30 _);rw[←e1,hI.old _ _ (hnN _ _ hq0)]at this;cases this
     have hqz:∀pre og oz,RI e j kc oX pre og oz->oz q0=some (.cells (wC (Q19 e (nodeR k0)))):=fun pre og oz hR=>hR.old _ _ hqX hqc;have hokq:C.ok (.o q0):=(hi.obj (.o q0) _ hqX).1;obtain⟨u,hu,hr⟩:=hf.2 40 _ rfl;simp only[RF,R,RV,aS]at hr;obtain⟨xs,ys,rfl,⟨v,us,rfl,⟨_,rfl,_⟩,rfl⟩,rfl⟩:=hr;obtain⟨htab,hpt⟩:=tab_at hi;have hb:C.blk (.o q0) < W.heap.size:=by obtain⟨_,xs,T,h1,_⟩:=hi.obj (.o q0) _ hqX;exact Q0f h1
     refine⟨{ gf:=103,first:=#[.slice (some ⟨C.blk (.o q0),0,none⟩) (words e) (words e)],encs:=fun x:Nat=>#[.int .i64 (x:Int)],n:=(elems (Q19 e (nodeR k0))).length,b:=C.blk (.o q0),L:=words e,a1:=fun x=>(tmps.setIfInBounds 41 (.int .i64 (x:Int))).setIfInBounds 10 (.int .i64 (x:Int)),ev:=by simp[Act.eval,hu],eg:=?_,seq:=all_seq (by unfold words;omega) (hwN _) hb hpt hi.prot htab (fun j' w hw=>Qcx hi hqX hw),hb:=hb,hps:=fun _=>rfl,keep:=?_,asg:=?_,bod:=?_ }⟩
     ·intro args w';exact Qpw Tryz.func103 rfl zky args w'
     ·rintro pre f W1 W' C' C'' σ' σ'' hg1 hi1 ⟨og,oz,m1,rfl,hR⟩ hg2 hi2 ⟨og2,oz2,m2,rfl,hR2⟩ jj hjj;obtain⟨w,hw⟩:=Q00 (l:=Q19 e (nodeR k0)) (i:=jj) (by have:=(hwN k0.toNat).1;unfold nodeR;omega);obtain⟨e1,e2,_⟩:=hg1.chg.id (.o q0) trivial hokq;obtain⟨_,e3,_⟩:=hg2.chg.id (.o q0) trivial e1;have h1:=Qcx hi1 (hqz _ _ _ hR) hw;have h2:=Qcx hi2 (hqz _ _ _ hR2) hw;rw[e2]at h1;rw[e3,e2]at h2;rw[h1,h2]
     ·intro l' f W1 K hK;have e0:((#[41]:Array Tmp).zip #[Value.int .i64 (f:Int)]).foldl (fun t (p,v)=>t.setIfInBounds p v) tmps=tmps.setIfInBounds 41 (.int .i64 (f:Int)):=by simp
      rw[e0];refine wpIn_assign rfl rfl rfl ?_;have h41:41 < tmps.size:=by simp[hf.1]
      have e2:Act.eval ⟨tmps.setIfInBounds 41 (.int .i64 (f:Int)),[]⟩ (.tmp 41)=.int .i64 (f:Int):=by simp only[Act.eval];rw[Qz7,Array.getElem?_setIfInBounds_self_of_lt h41];rfl
      show K ⟨(tmps.setIfInBounds 41 (.int .i64 (f:Int))).setIfInBounds 10 (Act.eval ⟨tmps.setIfInBounds 41 (.int .i64 (f:Int)),[]⟩ (.tmp 41)),[]⟩ W1;rw[e2];exact hK
     ·rintro l' pre f W1 C' σ' Qvg hgW hiW hfW ⟨og,oz,m1,rfl,hR⟩;have hXn:oX kc≠none:=by rw[hXc];simp
      have hpl9:(fnsL (pre.filter fun f=>f != e.length)).length<=1048640:=by
       have h1:(pre.filter fun f=>f != e.length).length<=pre.length:=List.length_filter_le _ _;have h2:=Q8h (Q19 e (nodeR k0)) 0 (hwN _).2;have h3:(Q19 e (nodeR k0)).length=words e:=(hwN _).1;have h4:(elems (Q19 e (nodeR k0))).length<=64 * words e:=by unfold elems;omega
       unfold fnsL;simp only[Z16];unfold words at h4;omega
      have hc9:=hR.c;have hgo9:=hR.go;have Qya:=hR.ok;have hl2:LessR _root_.id [(40,.one (.fn (.func 103) [aS (words e) q0] [])),(9,.one (.ptr (.o kc) 0)),(20,.one (int (j:Nat))),(19,.one (int (e.map cEx).length)),(18,.one (.sl 5 (e.map cEx))),(6,.one (gC 3 ((flowN e j).map cFl) oc)),(5,.one (.ptr (.o y.ks) 0)),(1,.one (.box [.sl 5 (e.map cEx)]))] ⟨m1,[],oz⟩ [(40,.one (.fn (.func 103) [aS (words e) q0] [])),(9,.one (.ptr (.o kc) 0)),(20,.one (int (j:Nat))),(19,.one (int (e.map cEx).length)),(18,.one (.sl 5 (e.map cEx))),(6,.one (gC 3 ((flowN e j).map cFl) oc)),(5,.one (.ptr (.o y.ks) 0)),(1,.one (.box [.sl 5 (e.map cEx)]))] ⟨0,[],oz⟩:=Qzw rfl zFS (by simp[AC.ids,inL]) zLO rfl rfl Qya;obtain⟨C2,gL,hiL,hfL⟩:=hl2.run hΓt hiW hfW;have hf2:=((hfL.put (d:=41) (x:=.one (int (f:Int))) (u:=.int .i64 (f:Int)) (show 41 < 59 by decide) (show RF W1 C2 (.one (int _)) _ from ⟨rfl,rfl⟩)).put (d:=10) (x:=.one (int (f:Int))) (u:=.int .i64 (f:Int)) (show 10 < 59 by decide) (show RF W1 C2 (.one (int _)) _ from ⟨rfl,rfl⟩));have hT:Tame (fun e_1 (_:Fr) σ''=>e_1=.normal/\∃og oz m,σ''=⟨m,[],oz⟩/\RI e j kc oX (pre++[f]) og oz):=fun fr σ h=>by cases h.1
      refine AIn.block (E:=⟨Tryz.prog,tab,Γt,59,[]⟩) (K:=fun e_1 _ σ''=>e_1=.normal/\∃og oz m,σ''=⟨m,[],oz⟩/\RI e j kc oX (pre++[f]) og oz) (AIn.seq (Qv1 (Qv0 (Qtq hT)) zsy ?_)) _ W1 C' W1 C2 _ gL hiL hf2 l' 0;refine zA ?_;refine cInv ?_;refine AIn.cond rfl (fun hbb=>?_) (fun hbb=>?_)
      ·have hfe:f=e.length:=by have:=hbb;simp at this;omega
       refine Qv1 (Qtq hT) zsy ?_;repeat' first|refine zN ?_|((with_reducible refine oj ?_);first|refine zix ?_|refine zow rfl rfl hc9 ?_)
       refine Qyy (c:=.lit (.bool true)) tabOk rfl rfl rfl rfl rfl rfl rfl hc9 zsy ?_;rw[Q0n];refine zA ?_;exact cInv ⟨rfl,og,_,_,rfl,hR.other hXn hfe⟩
      ·have hfe:f≠e.length:=by have:=hbb;simp at this;omega
       obtain⟨cap0,o3,hbase,Qvl,hb3,hb3n⟩:=Qgh hgo9 (by intro x hx;obtain⟨z,_,rfl⟩:=Z1w.1 hx;rfl);refine Qv1 (Qtq hT) zsy ?_;repeat' first|refine zN ?_|((with_reducible refine oj ?_);first|refine zix ?_|refine zow rfl rfl hc9 ?_)
       refine Qyu tabOk rfl rfl rfl rfl rfl rfl rfl rfl rfl (hbase _ _) (.sl 1 [[int (f:Nat)]]) zsy rfl (by show (_+1) * 8<=_;omega) (by show _+1<=_;omega) fun cap hcap=>?_;refine Qyw [0] rfl zdy (Qvl Qya) fun kn hkn=>⟨[(51,.one (.arr (.o kn) 1 0 (fnsL (pre.filter fun f=>f != e.length)++[[int (f:Nat)]]).length cap)),(9,.one (.ptr (.o kc) 0))],[],[.cells (vec 1 (fnsL (pre.filter fun f=>f != e.length)++[[int (f:Nat)]]) cap)],.cons rfl rfl (.keepO rfl (by simp[isO]) .nil),.nil,.cons rfl (Qys (fun i hi=>by cases i with|l q=>exact hi.elim|o q=>rfl) _ (Q29 _ (by rw[←Q7g];simp))) .nil,?_⟩;have Qw6:∀m,kn<=m->o3 m=none:=hkn;have hRn:=hR.fn hXn hfe (Qvl Qya) hb3 hb3n Qw6 hcap;obtain⟨g1,g2⟩:=GO.new (s:=1) (es:=fnsL (pre.filter fun f=>f != e.length)++[[int (f:Nat)]]) Qw6 hcap;have hc10:=g2 kc _ (by rw[hb3 kc (hR.kc hXn)];exact hc9);show AOps _ _ _ _ _ ⟨_,[],ouAdd o3 kn [.cells (vec 1 (fnsL (pre.filter fun f=>f != e.length)++[[int (f:Nat)]]) cap)]⟩;refine zA ?_;refine Qyy (c:=.arr (.o kn) 1 0 (fnsL (pre.filter fun f=>f != e.length)++[[int (f:Nat)]]).length cap) tabOk rfl rfl rfl rfl rfl rfl rfl hc10 zsy ?_;rw[Q0n];refine zA ?_;exact cInv ⟨rfl,some (kn,cap),_,_,rfl,hRn⟩
    ·rintro xs σ' rfl ⟨og,oz,m1,rfl,hR⟩;have hXn:oX kc≠none:=by rw[hXc];simp
     have hck:Q5r e j x=(j,(elems (Q19 e (nodeR k0))).filter (fun f=>f != e.length),(elems (Q19 e (nodeR k0))).contains e.length):=by unfold Q5r;rw[Q0b hk0]
     have hvk:∀k o,ov k=some o->k≠kc:=fun k o ho e1=>by rw[e1,Qy9 kc (Z30 _)]at ho;cases ho
     refine XM.lessR (T:=tab) (fr':=[(9,.one (.ptr (.o kc) 0)),(20,.one (int (j:Nat))),(19,.one (int (e.map cEx).length)),(18,.one (.sl 5 (e.map cEx))),(6,.one (gC 3 ((flowN e j).map cFl) oc)),(5,.one (.ptr (.o y.ks) 0)),(1,.one (.box [.sl 5 (e.map cEx)]))]) (σ':=⟨0,[],oz⟩) (ρ:=_root_.id) hΓt (Qzw rfl zFS (by simp[AC.ids,inL]) zLO rfl rfl hR.ok) (Q63 hR.pl) ?_;refine RI.froze hR hXn fun oy hyc hyk hyp hyo=>?_;have hyc':oy kc=some (.cells (cFl (Q5r e j x))):=by rw[hck];exact hyc
     have hgo3:GO 3 ((flowN e j).map cFl) oc oy:=⟨hI.go.nn,fun kn cap h=>by obtain⟨h1,h2⟩:=hI.go.ob kn cap h;exact⟨hyo _ _ (hXo _ _ h1) (hvk _ _ h1),h2⟩⟩;obtain⟨cap0,o3,hbase,Qvl,hb3,hb3n⟩:=Qgh hgo3 (by intro x hx;obtain⟨z,_,rfl⟩:=Z1w.1 hx;rfl);have hfn:=Qf1 e j;refine Quz (T:=tab) fun ds=>?_;refine zA ?_;refine zS (Qt6 tabOk rfl rfl rfl rfl rfl hyc') ?_;refine zA ?_;have hfs:(flowN e j).map cFl++[cFl (Q5r e j x)]=(flowN e (j+1)).map cFl:=by rw[Q8d,Q0b hx,if_pos h3];simp
     refine Qyu tabOk rfl rfl rfl rfl rfl rfl rfl rfl rfl (hbase _ _) (.sl 3 [cFl (Q5r e j x)]) zsy rfl (by rw[Z16];show (_+1) * 40<=_;omega) (by rw[Z16];show _+1<=_;omega) fun cap hcap=>?_;rw[hfs]at hcap ⊢;have Qwd:(AObj.cells (vec 3 ((flowN e (j+1)).map cFl) cap)).ids isO:=Q29 _ zsy;refine zA ?_;have Qwa:∀k o,o3 k=some o->Q1a o:=fun k o ho=>by
      by_cases hq:k∈gK oc
      ·rw[hb3n k hq]at ho;cases ho;trivial
      ·rw[hb3 k hq]at ho;exact hyp k o ho
     have ho3:∀k o,oN k=some o->o3 k=some o:=fun k o ho=>by have h1:=hI.old k o ho;rw[hb3 k fun hq=>by rw[hI.new k hq]at ho;cases ho];exact hyo k o (hXo _ _ h1) (hvk _ _ h1)
     refine cInv ⟨Q0w (by simp[Q1a,St.push]) Qwa,?_⟩;refine XM.cedes (T:=tab) [0] zdy (Qvl hyk) fun kn hkn=>⟨[(6,.one (gC 3 ((flowN e (j+1)).map cFl) (some (kn,cap)))),(20,.one (int (j:Nat))),(19,.one (int (e.map cEx).length)),(18,.one (.sl 5 (e.map cEx))),(5,.one (.ptr (.o y.ks) 0)),(1,.one (.box [.sl 5 (e.map cEx)]))],[],[.cells (vec 3 ((flowN e (j+1)).map cFl) cap)],.cons rfl rfl (.keepO rfl zsy (.keepO rfl zsy (.keepO rfl zsy (.keepO rfl (by simp[isO]) (.keepO rfl zsy .nil))))),.nil,.cons rfl (Qys (fun i hi=>by cases i with|l q=>exact hi.elim|o q=>rfl) _ Qwd) .nil,Q0w zsy (Q1y Qwa trivial),?_⟩;have Qw6:∀m,kn<=m->o3 m=none:=hkn;obtain⟨g1,g2⟩:=GO.new (s:=3) (es:=(flowN e (j+1)).map cFl) Qw6 hcap;have Qvq:OuOk (ouAdd o3 kn [.cells (vec 3 ((flowN e (j+1)).map cFl) cap)]):=Q1y (p:=fun o=>o.ids isO) (Qvl hyk) Qwd;have Qyb:=Q1y (p:=Q1a) (kc:=kn) (o:=.cells (vec 3 ((flowN e (j+1)).map cFl) cap)) Qwa trivial;show XM _ tab _ _ _ _ _ _ _ _ ⟨_,[],ouAdd o3 kn [.cells (vec 3 ((flowN e (j+1)).map cFl) cap)]⟩;obtain⟨oZ,hoZ⟩:∃oZ,oZ=ouAdd o3 kn [.cells (vec 3 ((flowN e (j+1)).map cFl) cap)]:=⟨_,rfl⟩;rw[←hoZ]at g1 g2 Qvq Qyb ⊢;refine Quz (T:=tab) fun ds=>?_;refine zM ?_;refine cInv ⟨Q0w zsy Qyb,?_⟩;exact⟨e.length - (j+1),by omega,j+1,some (kn,cap),oZ,_root_.id,by omega,⟨g1,Qvq,Qyb,fun k o ho=>g2 k o (ho3 k o ho),fun q hq=>by
      simp[gK]at hq;subst hq;cases ho:oN q with
      |none=>rfl
      |some o=>
       have:=ho3 q o ho;rw[Qw6 q (Z30 _)]at this;cases this⟩,rfl,Qzw rfl zFS zsy zLO rfl rfl Qvq⟩
  ·refine XM.exit ?_;simp only[thenM,inBlk];obtain rfl:j=e.length:=by simp at hb;omega
   have hfe:(flowN e e.length).map cFl=(Q1k e).map cFl:=rfl;rw[hfe];have hgo:=hI.go;rw[hfe]at hgo;cases hoc:oc with
   |none=>
    rw[hoc]at hgo;refine XM.fin (T:=tab) fun ds=>?_;refine zA ?_;exact⟨Q63 hI.pl,rfl,Qst rfl (WkF.tup (.cons (by rw[hgo.nn rfl];exact .one (.nilS 3)) (.cons (.refl _) .nil))) zsy hI.ok ⟨noO,by simp[noO],rfl,rfl⟩⟩
   |some p=>
    obtain⟨kn,cap⟩:=p;rw[hoc]at hgo;obtain⟨hkn,hcap⟩:=hgo.ob kn cap rfl;refine XM.fin (T:=tab) fun ds=>?_;iterate 2 (refine zO ?_)
    refine AOps.freezeArr (.o kn) 6 hkn (by intro x hx;obtain⟨z,_,rfl⟩:=Z1w.1 hx;rfl) rfl ?_;refine zA ?_;rw[Q0n];exact⟨Q63 (Q2u hI.pl trivial),rfl,Qst rfl (Z47 _) zsy (Q0m hI.ok trivial) ⟨noO,by simp[noO],rfl,rfl⟩⟩
 ·rw[if_neg h];refine Quw 59 tabOk Tryz.func67 rfl zky rfl rfl ?_ fun hou F w0 C0=>?_
  ·intro i o h;cases i <;> cases h
  refine XM.fin fun ds=>?_;refine zA ?_;refine zca hΓt hc hou ?_;refine zA ?_;refine Qyl rfl (fun hb=>?_) (fun hb=>absurd (by simpa using hb) h);refine zA ?_;exact⟨Q0w (by simp[Q1a]) (fun k o h=>by cases h),rfl,Qst rfl (WkF.tup (.cons (.one (.nilS 3)) (.cons (.refl _) .nil))) zsy hou ⟨rfl,rfl⟩⟩
end Go.Proofs.YtlmokgooijbcdaaGreatDoor
namespace Go.CoreX
def Qit:Nat->Nat->List Nat
 |0,_=>[]
 |n+1,w=>if w=0 then []else Lib.ctz 64 w::Qit n (w &&& (w - 1))
theorem Qf6:∀n w,w < n->Q1w w=Qit n w
 |0,w,h=>by omega
 |n+1,w,h=>by
  rw[Q1w,Qit];by_cases h0:w=0
  ·rw[dif_pos h0,if_pos h0]
  ·have hle:w &&& (w - 1)<=w - 1:=Z2u;rw[dif_neg h0,if_neg h0,Qf6 n _ zoy]
def Qdh:Nat->List Nat->List Nat
 |_,[]=>[]
 |k,w::s=>(Qit (w+1) w).map (fun n=>64 * k+n)++Qdh (k+1) s
theorem Qc2:∀(k:Nat)(s:List Nat),Q1x k s=Qdh k s
 |_,[]=>rfl
 |k,w::s=>by rw[Q1x,Qdh,Qf6 (w+1) w zoy,Qc2 (k+1) s]
def Qn9 (s:List Nat):List Nat:=Qdh 0 s
theorem Qf5(s:List Nat):elems s=Qn9 s:=Qc2 0 s
def Qlj (e:List Ex)(i:Nat)(x:Ex)(σ:Ref->List Nat):List (Ref×Ref):=
 if x.op=0 then [(.node i,.idn x.n)] else
 if x.op=3 then (Qn9 (σ (nodeR (x.kids.getD 0 0)))).flatMap (Q22 e i (x.kids.drop 1)) else
 if x.op=4∨x.op=5 then Q3i x.binds x.kids x.binds.length++[(.node i,nodeR (x.kids.getD (x.kids.length - 1) 0))] else
 if x.op=6∨x.op=9 then Q3f x x.kids.length else
 if x.op=7∨x.op=13 then Q4o i x x.alts.length++(if x.op=13 then [(.heap,.node i)]else []) else
 if x.op=8 then Q31 i x else
 if x.op=11 then [(.heap,nodeR (x.kids.getD 1 0))] else
 if x.op=12 then [(.heap,nodeR (x.kids.getD 0 0)),(.node i,.heap)] else
 if x.op=10 then [(.node i,.heap)]else []
theorem Qli(e:List Ex)(i:Nat)(x:Ex)(σ:Ref->List Nat):opsOf e i x σ=Qlj e i x σ:=by unfold opsOf Qlj;rw[Qf5]
abbrev Q3c:=List (Ref×List Nat)
def lookX (e:List Ex):Q3c->Ref->List Nat
 |[],r=>Q1i e r
 |(q,s)::l,r=>if r=q then s else lookX e l r
def putX (r:Ref)(s:List Nat):Q3c->Q3c
 |[]=>[(r,s)]
 |(q,t)::l=>if r=q then (q,s)::l else (q,t)::putX r s l
theorem Qi1(e:List Ex)(r:Ref)(s:List Nat):∀l:Q3c,lookX e (putX r s l)=updR (lookX e l) r s
 |[]=>by funext q;simp only[putX,lookX,updR]
 |(q,t)::l=>by
  funext z;have ih:=congrFun (Qi1 e r s l) z;simp only[putX];by_cases h:r=q
  ·subst h;rw[if_pos rfl];simp only[lookX,updR];by_cases h2:z=r
   ·simp[h2]
   ·simp[h2]
  ·rw[if_neg h];simp only[lookX,updR]at ih ⊢;by_cases h2:z=q
   ·subst h2;simp[Z3d h]
   ·simp only[if_neg h2];exact ih
def intoX (e:List Ex)(p:Ref×Ref)(s:Q3c×Bool):Q3c×Bool:=
 let a:=lookX e s.1 p.1
 let o:=orL a (lookX e s.1 p.2)
 if o=a then s else (putX p.1 o s.1,true)
structure SimX (e:List Ex)(s:FSt)(t:Q3c×Bool):Prop where
 r:s.1=lookX e t.1
 m:s.2=t.2
theorem SimX.into{t:Q3c×Bool}(h:SimX e s t)(p:Ref×Ref):SimX e (intoF p s) (intoX e p t):=by
 unfold intoF intoX;rw[h.r];by_cases ho:orL (lookX e t.1 p.1) (lookX e t.1 p.2)=lookX e t.1 p.1
 ·simp only[if_pos ho];refine⟨?_,by simp only[ho];simp[h.m]⟩;funext q;simp only[updR];split
  ·rename_i hq;rw[hq,ho]
  ·rfl
 ·simp only[if_neg ho];refine⟨by rw[Qi1],?_⟩;have:(orL (lookX e t.1 p.1) (lookX e t.1 p.2)==lookX e t.1 p.1)=false:=by simp[ho]
  simp[this]
def runX (e:List Ex)(l:List (Ref×Ref))(s:Q3c×Bool):Q3c×Bool:=l.foldl (fun s p=>intoX e p s) s
theorem SimX.run{e:List Ex}:∀(l:List (Ref×Ref)){s:FSt}{t:Q3c×Bool},SimX e s t->SimX e (Q13 l s) (runX e l t)
 |[],_,_,h=>h
 |p::l,s,t,h=>SimX.run l (h.into p)
def nodeX (e:List Ex)(s:Q3c×Bool)(i:Nat):Q3c×Bool:=runX e (Qlj e i (e.getD i ⟨0,0,[],[],[]⟩) (lookX e s.1)) s
def passX (e:List Ex)(l:Q3c):Q3c×Bool:=(List.range e.length).foldl (nodeX e) (l,false)
theorem Qv2{e:List Ex}:∀(l:List Nat){s:FSt}{t:Q3c×Bool},SimX e s t->SimX e (l.foldl (nodeF e) s) (l.foldl (nodeX e) t)
 |[],_,_,h=>h
 |i::l,s,t,h=>by refine Qv2 l ?_;unfold nodeF nodeX;rw[Qli,h.r];exact SimX.run _ h
def Q8o (e:List Ex):Nat->Q3c×Bool
 |0=>([],true)
 |n+1=>let s:=Q8o e n;if s.2=true then passX e s.1 else s
theorem Qe1(e:List Ex):∀n,SimX e (Q0q e n) (Q8o e n)
 |0=>⟨rfl,rfl⟩
 |n+1=>by
  have h:=Qe1 e n;simp only[Q0q,Q8o];rw[h.m];split
  ·exact Qv2 (List.range e.length) (s:=((Q0q e n).1,false)) (t:=((Q8o e n).1,false)) ⟨h.r,rfl⟩
  ·exact h
end Go.CoreX
namespace Go.Proofs.YtlmokgooijbcdaaGreatDoor
open Go Go.CoreX
def flowX (e:List Ex)(n:Nat):List (Nat×List Nat×Bool):=(List.range e.length).flatMap fun i=>if (e.getD i ⟨0,0,[],[],[]⟩).op=3 then
 let s:=Qn9 (lookX e (Q8o e n).1 (nodeR ((e.getD i ⟨0,0,[],[],[]⟩).kids.getD 0 0)))
 [(i,s.filter (fun f=>f != e.length),s.contains e.length)]else []
theorem Qpv(h0:AllW e (Q1i e))(h:(Q8o e n).2=false):Q1k e=flowX e n:=by have hs:=Qe1 e n;have hf:=Q5n h0 (hs.m.trans h);unfold Q1k flowX;congr 1;funext i;unfold Q5r;rw[←hf,hs.r,Qf5]
end Go.Proofs.YtlmokgooijbcdaaGreatDoor
namespace Go.Proofs.YtlmokgooijbcdaaGreatDoor
theorem ofC:OfC:=fun e he hc=>by have h:=Of_ok e he (fun h=>FE_of he h);rw[if_pos hc]at h;exact h
theorem Qo6(e:List Ex)(he:okB e)(hc:check e=0):APure Tryz.prog Γt 67 [.one (.sl 5 (e.map cEx))] (.tup [.one (.sl 3 ((Q1k e).map cFl)),.one (int 0)]):=AFn.frame (ofC e he hc)
theorem Qd3{x:String×DataW Unit}{rest:List (String×DataW Unit)}(h:laidMet P (x::rest) W):laidMet P rest W:=by obtain⟨ps,⟨g,t,cs,fuel,p,q,h1,h2,h3,h4,h5,rfl⟩,hn,hc⟩:=h;exact⟨q,h5,(Z26.1 hn).2.1,fun b off hm=>hc b off (by simp[hm])⟩
def dbZ:List Int:=Lib.deBruijn64tab.map fun n:Nat=>(n:Int)
theorem Qjx(h:laidMetH Tryz.prog [("math/bits.deBruijn64tab",Rows.laid_math_bits_deBruijn64tab),("provenance/core.arity",Rows.laid_provenance_core_arity)] W):∀g cs,(g,cs)∈Γt->RG W (ctx0 W) cs g:=by
 have h':laidMet Tryz.prog [("math/bits.deBruijn64tab",Rows.laid_math_bits_deBruijn64tab),("provenance/core.arity",Rows.laid_provenance_core_arity)] W:=h;have ht:Lib.TabIs Tryz.prog W "provenance/core.arity" .i64 [2,2,2,2,2,2,2,1,2,1,2,3]:=
  Lib.tabIs_of_head (rest:=[]) (g:=1) (t:=249) (n:=12) zky zky zky Z42 zky zky (Qd3 h')
 have hu:Lib.TabIs Tryz.prog W "math/bits.deBruijn64tab" .u8 dbZ:=
  Lib.tabIs_of_head (rest:=[("provenance/core.arity",Rows.laid_provenance_core_arity)]) (g:=2) (t:=274) (n:=64) (e:=5) zky zky zky zky zky zky h
 have hg:Tryz.prog.globalNamed "provenance/core.arity" = some 1:=by kernel_rfl
 have hh:Tryz.prog.globalNamed "math/bits.deBruijn64tab" = some 2:=by kernel_rfl
 intro g cs hm;simp only[Γt,Z1p,Z28,or_false,Z3p]at hm;rcases hm with ⟨rfl,rfl⟩|⟨rfl,rfl⟩
 ·have:=Qs3 hh hu zky;unfold dbZ at this;rw[Z1i,Z1i]at this;exact this
 ·exact Qs3 hg ht rfl
end Go.Proofs.YtlmokgooijbcdaaGreatDoor
namespace Go.CoreX
def rtOf (rt:List Nat)(i:Nat):Nat:=rt.getD i 0
def joinR (rt:List Nat)(i j:Nat):List Nat:=rt.map fun r=>if r=rtOf rt i then rtOf rt j else r
abbrev FCl:=Nat×List Nat×Bool
def joinF (m:Nat)(c:FCl)(cl:List Nat)(f:Nat):List Nat:=
 if c.2.2=true then joinR (joinR cl f (c.2.1.getD 0 0)) f m else joinR cl f (c.2.1.getD 0 0)
def joinC (m:Nat)(cl:List Nat)(c:FCl):List Nat:=c.2.1.foldl (joinF m c) cl
def Q93 (m:Nat)(l:List FCl):List Nat:=l.foldl (joinC m) (List.range (m+1))
def Q44 (l:List FCl):Int->Option FCl:=l.foldl (fun f c j=>if (c.1:Int)=j then some c else f j) fun _=>none
def Q5q (l:List FCl)(i:Nat):FCl:=(Q44 l (i:Int)).getD (0,[],false)
structure PSt where
 imp:List Bool
 eff:List Bool
 moved:Bool
def cnvN (cl:List Nat)(l:List FCl)(imp:List Bool)(i:Nat):Bool:=
 if (Q5q l i).2.2=true then true else if (Q5q l i).2.1=[]then false else imp.getD (rtOf cl ((Q5q l i).2.1.getD 0 0)) false
def Q2l (x:Ex)(eff:List Bool)(n:Nat)(b:Bool):Bool:=
 (List.range n).foldl (fun is k=>if x.op=2∨(x.op=5/\k < x.binds.length)then is else is||eff.getD (x.kids.getD k 0).toNat false) b
def isEff (cl:List Nat)(l:List FCl)(s:PSt)(i:Nat)(x:Ex):Bool:=x.op==12||x.op==13||(x.op==3&&cnvN cl l s.imp i)
def Q6e (s:PSt)(i:Nat)(is:Bool):PSt:=if is=s.eff.getD i false then s else ⟨s.imp,s.eff.set i is,true⟩
def Q8w (cl:List Nat)(s:PSt)(i:Nat)(x:Ex):PSt:=
 if s.eff.getD (x.kids.getD 0 0).toNat false=true/\s.imp.getD (rtOf cl i) false=false then ⟨s.imp.set (rtOf cl i) true,s.eff,true⟩else s
def Q6s (e:List Ex)(cl:List Nat)(l:List FCl)(s:PSt)(i:Nat):PSt:=
 let x:=e.getD i ⟨0,0,[],[],[]⟩
 if x.op=2 then Q6e (Q8w cl s i x) i false else Q6e s i (Q2l x s.eff x.kids.length (isEff cl l s i x))
def Q20 (e:List Ex)(cl:List Nat)(l:List FCl)(n:Nat)(s:PSt):PSt:=(List.range n).foldl (Q6s e cl l) s
def Qap (e:List Ex)(cl:List Nat)(l:List FCl)(s:PSt):PSt:=Q20 e cl l e.length ⟨s.imp,s.eff,false⟩
def eff0 (e:List Ex)(cl:List Nat):PSt:=⟨(List.replicate (e.length+1) false).set (rtOf cl e.length) true,List.replicate e.length false,true⟩
def effN (e:List Ex)(cl:List Nat)(l:List FCl):Nat->PSt
 |0=>eff0 e cl
 |n+1=>if (effN e cl l n).moved=true then Qap e cl l (effN e cl l n)else effN e cl l n
structure Mdl where
 eff:Nat->Bool
 pas:Nat->Bool
 cnv:Nat->Bool
 up:Int
def planM (e:List Ex)(l:List FCl)(up:Int):Mdl:=
 let cl:=Q93 e.length l
 let s:=effN e cl l (2 * e.length+3)
 ⟨fun i=>s.eff.getD i false,fun i=>s.imp.getD (rtOf cl i) false,fun i=>cnvN cl l s.imp i,up⟩
def refE (id:Int):Tr:=.mk 0 id [] [] []
def wordE (n:Int):Tr:=.mk 1 n [] [] []
def conE (tag:Int)(kids:List Tr):Tr:=.mk 6 tag [] kids []
def lamE (body:Tr)(ids:List Int):Tr:=.mk 2 0 ids [body] []
def appE (kids:List Tr):Tr:=.mk 3 0 [] kids []
def letE (id:Int)(v body:Tr):Tr:=.mk 4 0 [id] [v,body] []
def takeE (v body:Tr)(ids:List Int):Tr:=.mk 7 0 [] [v,body] [⟨1,ids⟩]
structure Cv where
 op:Int
 eff:Bool
 P:Int->Tr×Int
 F:Int->Tr×Int
 T:Int->Int->Int->Tr×Int
instance:Inhabited Cv:=⟨⟨0,false,fun s=>(default,s),fun s=>(default,s),fun _ _ s=>(default,s)⟩⟩
def mpP:List Cv->Int->List Tr×Int
 |[],s=>([],s)
 |c::r,s=>((c.P s).1::(mpP r (c.P s).2).1,(mpP r (c.P s).2).2)
def mpF:List Cv->Int->List Tr×Int
 |[],s=>([],s)
 |c::r,s=>((c.F s).1::(mpF r (c.F s).2).1,(mpF r (c.F s).2).2)
def mpK (k m:Int):List Cv->Int->List Tr×Int
 |[],s=>([],s)
 |c::r,s=>((c.T k m s).1::(mpK k m r (c.T k m s).2).1,(mpK k m r (c.T k m s).2).2)
def funB (pas:Bool)(binds:List Int)(c:Cv)(s:Int):Tr×Int:=
 if pas=true then (lamE (takeE (refE s) (c.T (s+1) (s+2) (s+3)).1 [s+1,s+2]) (binds++[s]),(c.T (s+1) (s+2) (s+3)).2)
 else (lamE (c.P s).1 binds,(c.P s).2)
def pureB (pas:Bool)(op n:Int)(binds:List Int)(alts:List Alt)(ks:List Cv)(s:Int):Tr×Int:=
 if op=2 then funB pas binds (ks.getD 0 default) s else (.mk op n binds (mpP ks s).1 alts,(mpP ks s).2)
def opnds (op:Int)(k:Nat):Nat:=if op=3∨op=6∨op=8∨op=9∨op=10∨op=11 then k else if op=7∨op=12 then 1 else 0
def bindB (c:Cv)(id inn:Int)(rest:Tr)(m s:Int):Tr×Int:=(letE s (lamE rest [id,inn]) (c.T s m (s+1)).1,(c.T s m (s+1)).2)
def seqB (fin:List Tr->Int->Int->Int->Tr×Int):List Cv->List Tr->Int->Int->Int->Tr×Int
 |[],done,k,m,s=>fin done k m s
 |x::r,done,k,m,s=>
  if (x::r).all (fun c=>!c.eff)=true then fin (done++(mpP (x::r) s).1) k m (mpP (x::r) s).2
  else if x.eff=false then
   let v:=x.P (s+1)
   let b:=seqB fin r (done++[refE s]) k m v.2
   (letE s v.1 b.1,b.2)
  else
   let b:=seqB fin r (done++[refE s]) k (s+1) (s+2)
   bindB x s (s+1) b.1 m b.2
def finB (up:Int)(cnv:Bool)(op n:Int)(binds:List Int)(alts:List Alt)(rest:List Cv)(l:List Tr)(k m s:Int):Tr×Int:=
 if op=7 then (.mk 7 0 [] (l++(mpK k m rest s).1) alts,(mpK k m rest s).2)
 else if op=12 then (appE [refE up,wordE n,l.getD 0 default,refE k,refE m],s)
 else if op=3/\cnv=true then (appE (l++[conE 1 [refE k,refE m]]),s)
 else (appE [refE k,.mk op n binds l [],refE m],s)
def Q1h (op v b h k2 m2:Int):List (Alt×Cv)->Tr->Int->Tr×Int
 |[],body,s=>(body,s)
 |(a,c)::r,body,s=>
  let t:=c.T k2 m2 (s+2)
  Q1h op v b h k2 m2 r (.mk 7 0 [] [.mk 8 6 [] [refE op,wordE a.tag] [],
   letE (a.binds.getD 0 0) (refE v) (letE (a.binds.getD 1 0) (lamE (appE [refE b,refE s,conE 1 [refE h,refE (s+1)]]) [s,s+1]) t.1),body] [⟨1,[]⟩,⟨-1,[]⟩]) t.2
def Q35 (up h op v b k2 m2 s:Int):Tr×Int:=
 (appE [refE up,refE op,refE v,lamE (appE [refE b,refE s,conE 1 [refE h,conE 1 [refE k2,refE (s+1)]]]) [s,s+1],refE m2],s+2)
def Q39 (a0:Int)(c0 c1:Cv)(inner s:Int):Tr×Int:=
 let t1:=c1.T (s+4) (s+5) (s+6)
 let t0:=c0.T s inner t1.2
 (letE s (lamE (takeE (refE (s+1)) (takeE (refE (s+3)) t1.1 [s+4,s+5]) [s+2,s+3]) [a0,s+1]) t0.1,t0.2)
def Q4y (up:Int)(alts:List Alt)(ks:List Cv)(k m s:Int):Tr×Int:=
 let f:=Q35 up s (s+1) (s+2) (s+3) (s+5) (s+6) (s+7)
 let c:=Q1h (s+1) (s+2) (s+3) s (s+5) (s+6) ((alts.drop 1).zip (ks.drop 2)).reverse f.1 f.2
 let r:=Q39 ((alts.getD 0 ⟨0,[]⟩).binds.getD 0 0) (ks.getD 0 default) (ks.getD 1 default) c.2 (c.2+1)
 (.mk 5 0 [s] [lamE (takeE (refE (s+4)) c.1 [s+5,s+6]) [s+1,s+2,s+3,s+4],letE c.2 (conE 1 [refE s,conE 1 [refE k,refE m]]) r.1] [],r.2)
def tailB (M:Mdl)(i:Nat)(op n:Int)(binds:List Int)(alts:List Alt)(ks:List Cv)(k m s:Int):Tr×Int:=
 if M.eff i=false then (appE [refE k,(pureB (M.pas i) op n binds alts ks s).1,refE m],(pureB (M.pas i) op n binds alts ks s).2)
 else if op=4 then
  (let x:=ks.getD 0 default
  let y:=ks.getD 1 default
  if x.eff=false then (letE (binds.getD 0 0) (x.P s).1 (y.T k m (x.P s).2).1,(y.T k m (x.P s).2).2)
  else bindB x (binds.getD 0 0) s (y.T k s (s+1)).1 m (y.T k s (s+1)).2)
 else if op=5 then
  (let fs:=mpF (ks.take binds.length) s
  let b:=(ks.getD binds.length default).T k m fs.2
  (.mk 5 0 binds (fs.1++[b.1]) [],b.2))
 else if op=13 then Q4y M.up alts ks k m s
 else seqB (finB M.up (M.cnv i) op n binds alts (ks.drop 1)) (ks.take (opnds op ks.length)) [] k m s
mutual
def szT:Tr->Nat
 |.mk _ _ _ kids _=>szTs kids+1
def szTs:List Tr->Nat
 |[]=>0
 |t::ts=>szT t+szTs ts
end
mutual
def cvT (M:Mdl)(i:Nat):Tr->Cv
 |.mk op n binds kids alts=>
  let ks:=cvTs M i kids
  ⟨op,M.eff (i+szTs kids),pureB (M.pas (i+szTs kids)) op n binds alts ks,funB (M.pas (i+szTs kids)) binds (ks.getD 0 default),tailB M (i+szTs kids) op n binds alts ks⟩
def cvTs (M:Mdl)(i:Nat):List Tr->List Cv
 |[]=>[]
 |t::ts=>cvT M i t::cvTs M (i+szT t) ts
end
def Q4s (M:Mdl)(root:Cv)(s:Int):Tr×Int:=
 let t:=root.T (s+6) (s+7) (s+10)
 (.mk 5 0 [M.up] [lamE (.mk 7 0 [] [refE (s+3),appE [refE (s+4),refE s,refE (s+1),refE (s+2),refE (s+5)],.mk 17 4 [] [] []] [⟨1,[s+4,s+5]⟩,⟨-1,[]⟩]) [s,s+1,s+2,s+3],
  letE (s+6) (lamE (refE (s+8)) [s+8,s+9]) (letE (s+7) (conE 0 []) t.1)] [],t.2)
def Q59 (e:List Ex):Bool:=e.any fun x=>x.op==12||x.op==13
def Q5c (M:Mdl)(e:List Ex):Bool:=e.zipIdx.any fun p=>p.1.op==2&&M.pas p.2&&decide (5 < p.1.binds.length)
end Go.CoreX
namespace Go.Proofs.YtlmokgooijbcdaaGreatDoor
variable {Γ:List (Nat×List AC)}
theorem Qjy(b:Tr):Q0y [b]=[[.box (cTr b)]]:=by rw[Q0a];rfl
theorem Q8g(a b:Tr):Q0y [a,b]=[[.box (cTr a)],[.box (cTr b)]]:=by rw[Q0a];rfl
theorem Q0e(id:Int):APure Tryz.prog Γ 74 [.one (int id)] (.one (.box (cTr (refE id)))):=by
 intro ou;refine zwk 6 Tryz.func74 fun hou=>?_;iterate 10 (refine zO ?_)
 refine Qyx (.l 0) 5 rfl rfl ?_;refine zA ?_;exact Qz0 rfl (.one (Z45 (.cons (fun _ _ _ h=>h) (.cons (fun _ _ _ h=>h) (.cons (.nilS 1) (.cons (.nilS 1) (.cons (.nilS 2) .nil))))))) zsy hou rfl
theorem Qch(n:Int):APure Tryz.prog Γ 131 [.one (int n)] (.one (.box (cTr (wordE n)))):=by
 intro ou;refine zwk 6 Tryz.func131 fun hou=>?_;iterate 10 (refine zO ?_)
 refine Qyx (.l 0) 5 rfl rfl ?_;refine zA ?_;exact Qz0 rfl (.one (Z45 (.cons (fun _ _ _ h=>h) (.cons (fun _ _ _ h=>h) (.cons (.nilS 1) (.cons (.nilS 1) (.cons (.nilS 2) .nil))))))) zsy hou rfl
theorem Q6t(tag:Int)(ks:List Tr):APure Tryz.prog Γ 77 [.one (int tag),.one (.sl 1 (Q0y ks))] (.one (.box (cTr (conE tag ks)))):=by
 intro ou;refine zwk 9 Tryz.func77 fun hou=>?_;iterate 11 (refine zO ?_)
 refine Qyx (.l 0) 8 rfl rfl ?_;refine zA ?_;exact Qz0 rfl (.one (Z45 (.cons (fun _ _ _ h=>h) (.cons (fun _ _ _ h=>h) (.cons (.nilS 1) (.cons (fun _ _ _ h=>h) (.cons (.nilS 2) .nil))))))) zsy hou rfl
theorem Q3x(b:Tr)(ids:List Int):APure Tryz.prog Γ 76 [.one (.box (cTr b)),.one (.sl 1 (ids.map cI))] (.one (.box (cTr (lamE b ids)))):=by
 intro ou;refine zwk 10 Tryz.func76 fun hou=>?_;iterate 12 (refine zO ?_)
 refine Qyx (.l 0) 9 rfl rfl ?_;refine zA ?_;exact Qz0 rfl (.one (Z45 (.cons (fun _ _ _ h=>h) (.cons (fun _ _ _ h=>h) (.cons (fun _ _ _ h=>h) (.cons (fun w C u h=>by show R w C (.sl 1 (Q0y [b])) u;rw[Qjy];exact h) (.cons (.nilS 2) .nil))))))) zsy hou rfl
theorem Q53(ks:List Tr):APure Tryz.prog Γ 73 [.one (.sl 1 (Q0y ks))] (.one (.box (cTr (appE ks)))):=by
 intro ou;refine zwk 6 Tryz.func73 fun hou=>?_;iterate 10 (refine zO ?_)
 refine Qyx (.l 0) 5 rfl rfl ?_;refine zA ?_;exact Qz0 rfl (.one (Z45 (.cons (fun _ _ _ h=>h) (.cons (fun _ _ _ h=>h) (.cons (.nilS 1) (.cons (fun _ _ _ h=>h) (.cons (.nilS 2) .nil))))))) zsy hou rfl
theorem Q4i(id:Int)(v b:Tr):APure Tryz.prog Γ 75 [.one (int id),.one (.box (cTr v)),.one (.box (cTr b))] (.one (.box (cTr (letE id v b)))):=by
 intro ou;refine zwk 14 Tryz.func75 fun hou=>?_;iterate 14 (refine zO ?_)
 refine Qyx (.l 0) 13 rfl rfl ?_;refine zA ?_;exact Qz0 rfl (.one (Z45 (.cons (fun _ _ _ h=>h) (.cons (fun _ _ _ h=>h) (.cons (fun _ _ _ h=>h) (.cons (fun w C u h=>by show R w C (.sl 1 (Q0y [v,b])) u;rw[Q8g];exact h) (.cons (.nilS 2) .nil))))))) zsy hou rfl
theorem Q97(v b:Tr)(ids:List Int):APure Tryz.prog Γ 129 [.one (.box (cTr v)),.one (.box (cTr b)),.one (.sl 1 (ids.map cI))] (.one (.box (cTr (takeE v b ids)))):=by
 intro ou;refine zwk 15 Tryz.func129 fun hou=>?_;iterate 15 (refine zO ?_)
 refine Qyx (.l 0) 14 rfl rfl ?_;refine zA ?_;exact Qz0 rfl (.one (Z45 (.cons (fun _ _ _ h=>h) (.cons (fun _ _ _ h=>h) (.cons (.nilS 1) (.cons (fun w C u h=>by show R w C (.sl 1 (Q0y [v,b])) u;rw[Q8g];exact h) (.cons (fun _ _ _ h=>h) .nil))))))) zsy hou rfl
end Go.Proofs.YtlmokgooijbcdaaGreatDoor
namespace Go.CoreX
inductive Rch (cl:List Nat):Nat->Nat->Nat->Prop
 |base {i:Nat}(h:cl.getD i 0=i):Rch cl 0 i i
 |step {n i r:Nat}(h:cl.getD i 0≠i) (hr:Rch cl n (cl.getD i 0) r):Rch cl (n+1) i r
theorem Rch.root{r:Nat}(h:Rch cl n i r):cl.getD r 0=r:=by
 induction h with
 |base h=>exact h
 |step _ _ ih=>exact ih
theorem Rch.lt{r:Nat}(h:Rch cl n i r)(hl:∀i,i < cl.length->cl.getD i 0 < cl.length)(hi:i < cl.length):r < cl.length:=by
 induction h with
 |base h=>exact hi
 |step _ _ ih=>exact ih (hl _ hi)
structure URel (cl rt:List Nat):Prop where
 l:cl.length=rt.length
 lt:∀i,i < cl.length->cl.getD i 0 < cl.length
 r:∀i,i < cl.length->∃n,Rch cl n i (rtOf rt i)
theorem Qv3(n:Nat):URel (List.range n) (List.range n):=by
 have hg:∀i,i < n->(List.range n).getD i 0=i:=fun i hi=>by rw[Z0o,List.getElem?_range hi];rfl
 refine⟨rfl,fun i hi=>?_,fun i hi=>⟨0,?_⟩⟩
 ·simp only[Z19]at hi ⊢;rw[hg i hi];exact hi
 ·simp only[Z19]at hi;unfold rtOf;rw[hg i hi];exact .base (hg i hi)
theorem Qgd{l:List Nat}(h:a < l.length):(l.set a b).getD a 0=b:=by rw[Z0o,List.getElem?_set_self h];rfl
theorem Qah{l:List Nat}(h:i≠a):(l.set a b).getD i 0=l.getD i 0:=by rw[Z0o,Z0y (Z3d h),←Z0o]
theorem Qoo{f:Nat->Nat}(h:i < rt.length):rtOf (rt.map f) i=f (rtOf rt i):=by unfold rtOf;rw[Z0o,Z0o,Z0w,Z0t h];rfl
theorem Rch.join(hab:a≠b)(ha:cl.getD a 0=a)(hb:cl.getD b 0=b)(hal:a < cl.length){r:Nat}(h:Rch cl n i r):∃n',Rch (cl.set a b) n' i (if r=a then b else r):=by
 have hbb:Rch (cl.set a b) 0 b b:=.base (by rw[Qah (Z3d hab)];exact hb)
 induction h with
 |@base i h=>
  by_cases e:i=a
  ·subst e;rw[if_pos rfl];refine⟨1,.step (by rw[Qgd hal];exact Z3d hab) ?_⟩;rw[Qgd hal];exact hbb
  ·rw[if_neg e];exact⟨0,.base (by rw[Qah e];exact h)⟩
 |@step n i r h _ ih=>
  obtain⟨n',hn⟩:=ih;have e:i≠a:=fun e=>h (by rw[e];exact ha);refine⟨n'+1,.step (by rw[Qah e];exact h) ?_⟩;rw[Qah e];exact hn
theorem URel.join{cl rt:List Nat}(h:URel cl rt){i j:Nat}(hi:i < cl.length)(hj:j < cl.length):URel (cl.set (rtOf rt i) (rtOf rt j)) (joinR rt i j):=by
 obtain⟨n1,h1⟩:=h.r i hi;obtain⟨n2,h2⟩:=h.r j hj;have hal:=h1.lt h.lt hi;have hbl:=h2.lt h.lt hj;refine⟨by simp[joinR,h.l],fun x hx=>?_,fun x hx=>?_⟩
 ·rw[Z1a]at hx ⊢;by_cases e:x=rtOf rt i
  ·subst e;rw[Qgd hal];exact hbl
  ·rw[Qah e];exact h.lt x hx
 ·rw[Z1a]at hx;obtain⟨n,hn⟩:=h.r x hx;unfold joinR;rw[Qoo (by rw[←h.l];exact hx)];by_cases e:rtOf rt i=rtOf rt j
  ·refine⟨n,?_⟩;rw[e];have e1:(if rtOf rt x=rtOf rt j then rtOf rt j else rtOf rt x)=rtOf rt x:=by split <;> simp_all
   rw[e1];have e2:cl.set (rtOf rt j) (rtOf rt j)=cl:=by
    have hr:=h2.root;rw[Z0o,Z0t hbl]at hr;simp only[Z3i]at hr;conv=>lhs;rw[show cl.set (rtOf rt j) (rtOf rt j)=cl.set (rtOf rt j) cl[rtOf rt j] by rw[hr]]
    exact List.set_getElem_self hbl
   rw[e2];exact hn
  ·exact Rch.join e h1.root h2.root hal hn
theorem URel.rt_lt(h:URel cl rt)(hi:i < cl.length):rtOf rt i < cl.length:=by obtain⟨n,hn⟩:=h.r i hi;exact hn.lt h.lt hi
end Go.CoreX
namespace Go.Proofs.YtlmokgooijbcdaaGreatDoor
structure PLay where
 kp:Nat
 kc:Nat
 kl:Nat
 ki:Nat
 kf:Nat
 cp:Nat
def bA (b:Bool):AC:=.lit (.bool b)
def nA (n:Nat):AC:=int (n:Nat)
def clsC (cl:List Nat)(cp:Nat):List AC:=cl.map nA++List.replicate (cp - cl.length) .any
def plC (e:List Ex)(y:PLay):List AC:=[.sl 5 (e.map cEx),.mp (.o y.kc),.arr (.o y.kl) 1 0 (e.length+1) y.cp,int (e.length:Nat),.lit (.slice none 0 0),.arr (.o y.ki) 1 0 (e.length+1) (e.length+1),.arr (.o y.kf) 1 0 e.length e.length]
def eFl:FCl->FV:=fun c=>.agg (cFl c)
structure PlanO (e:List Ex)(l:List FCl)(y:PLay)(rt:List Nat)(imp eff:List Bool)(ou:Outer):Prop where
 p:ou y.kp=some (.cells (plC e y))
 c:∃ck m,ou y.kc=some (.map ck (encI eFl m))/\IMOk (Q44 l) ck m
 l:∃cl,URel cl rt/\ou y.kl=some (.cells (clsC cl y.cp))
 i:ou y.ki=some (.cells (imp.map bA))
 f:ou y.kf=some (.cells (eff.map bA))
 rl:rt.length=e.length+1
 il:imp.length=e.length+1
 fl:eff.length=e.length
 el:e.length<=1048576
 nd:[y.kp,y.kc,y.kl,y.ki,y.kf].Nodup
theorem clC_get(h:i < cl.length):(clsC cl cp)[0 * 1+i * 1]?=some (nA (cl.getD i 0)):=by rw[Z3c,Z3a,Z36];unfold clsC;rw[Z0p (by simpa using h),Z0w,Z0o,Z0t h];rfl
theorem clC_set{v:Nat}(h:i < cl.length):(clsC cl cp).set (0 * 1+i * 1) (int (v:Nat))=clsC (cl.set i v) cp:=by rw[Z3c,Z3a,Z36];unfold clsC;rw[List.set_append_left _ _ (by simpa using h),Z1a,List.map_set];rfl
@[simp] theorem ids_clC (p:Abs.Id->Prop) (cl:List Nat) (cp:Nat):idsL p (clsC cl cp):=by
 unfold clsC;rw[Q2b];intro c hc;rcases Z1m.1 hc with hc|hc
 ·obtain⟨n,_,rfl⟩:=Z1w.1 hc;simp[nA,AC.ids]
 ·rw[(Z22.1 hc).2];simp[AC.ids]
section
variable {e:List Ex}{l:List FCl}{y:PLay}{rt:List Nat}{imp eff:List Bool}{ou:Outer}
theorem PlanO.ne(h:PlanO e l y rt imp eff ou):(y.kp≠y.kc/\y.kp≠y.kl/\y.kp≠y.ki/\y.kp≠y.kf)/\(y.kc≠y.kl/\y.kc≠y.ki/\y.kc≠y.kf)/\(y.kl≠y.ki/\y.kl≠y.kf)/\y.ki≠y.kf:=by have hnd:=h.nd;simp only[Z27,Z1p,Z28,or_false,not_or]at hnd;exact⟨hnd.1,hnd.2.1,hnd.2.2.1,hnd.2.2.2.1⟩
theorem PlanO.updL(h:PlanO e l y rt imp eff ou){cl' rt':List Nat}(hu:URel cl' rt')(hl:rt'.length=e.length+1):PlanO e l y rt' imp eff (updO ou y.kl (.cells (clsC cl' y.cp))):=by obtain⟨⟨a1,a2,a3,a4⟩,⟨b1,b2,b3⟩,⟨c1,c2⟩,d⟩:=h.ne;exact⟨by rw[Q02 _ (Z3d a2)];exact h.p,by rw[Q02 _ (Z3d b1)];exact h.c,⟨_,hu,Q04 _ _ _⟩,by rw[Q02 _ c1];exact h.i,by rw[Q02 _ c2];exact h.f,hl,h.il,h.fl,h.el,h.nd⟩
theorem PlanO.updI(h:PlanO e l y rt imp eff ou){imp':List Bool}(hl:imp'.length=e.length+1):PlanO e l y rt imp' eff (updO ou y.ki (.cells (imp'.map bA))):=by obtain⟨⟨a1,a2,a3,a4⟩,⟨b1,b2,b3⟩,⟨c1,c2⟩,d⟩:=h.ne;obtain⟨cl,hu,hcl⟩:=h.l;exact⟨by rw[Q02 _ (Z3d a3)];exact h.p,by rw[Q02 _ (Z3d b2)];exact h.c,⟨cl,hu,by rw[Q02 _ (Z3d c1)];exact hcl⟩,Q04 _ _ _,by rw[Q02 _ d];exact h.f,h.rl,hl,h.fl,h.el,h.nd⟩
theorem PlanO.updF(h:PlanO e l y rt imp eff ou){eff':List Bool}(hl:eff'.length=e.length):PlanO e l y rt imp eff' (updO ou y.kf (.cells (eff'.map bA))):=by obtain⟨⟨a1,a2,a3,a4⟩,⟨b1,b2,b3⟩,⟨c1,c2⟩,d⟩:=h.ne;obtain⟨cl,hu,hcl⟩:=h.l;exact⟨by rw[Q02 _ (Z3d a4)];exact h.p,by rw[Q02 _ (Z3d b3)];exact h.c,⟨cl,hu,by rw[Q02 _ (Z3d c2)];exact hcl⟩,by rw[Q02 _ (Z3d d)];exact h.i,Q04 _ _ _,h.rl,h.il,hl,h.el,h.nd⟩
theorem Qax{l:List Bool}(h:i < l.length):(l.map bA)[0 * 1+i * 1]?=some (bA (l.getD i false)):=by rw[Z3c,Z3a,Z36,Z0w,Z0o,Z0t h];rfl
theorem Qnq(l:List Bool)(i:Nat)(b:Bool):(l.map bA).set (0 * 1+i * 1) (bA b)=(l.set i b).map bA:=by rw[Z3c,Z3a,Z36,List.map_set]
@[simp] theorem Qmp (p:Abs.Id->Prop) (l:List Bool):idsL p (l.map bA):=by rw[Q2b];intro c hc;obtain⟨n,_,rfl⟩:=Z1w.1 hc;simp[bA,AC.ids]
end
section
variable {Γ:List (Nat×List AC)}
theorem Q3s(hΓ:GI Γ){l:List FCl}{y:PLay}(h:PlanO e l y rt imp eff ou)(hi:i < e.length+1):
  AFn Tryz.prog Γ 69 [.one (.ptr (.o y.kp) 0),.one (int (i:Nat))] ou (fun r ou'=>r=.one (int (rtOf rt i:Nat))/\ou'=ou):=by
 obtain⟨cl,hu,hl⟩:=h.l;have hp:ou y.kp=some (.cells [.sl 5 (e.map cEx),.mp (.o y.kc),.arr (.o y.kl) 1 0 (e.length+1) y.cp,int (e.length:Nat),.lit (.slice none 0 0),.arr (.o y.ki) 1 0 (e.length+1) (e.length+1),.arr (.o y.kf) 1 0 e.length e.length]):=h.p;have hcl:cl.length=e.length+1:=by rw[hu.l,h.rl]
 obtain⟨n0,hn0⟩:=hu.r i zoy;refine zwk 22 Tryz.func69 fun hou=>?_;refine zA ?_;refine Qre hΓ (α:=Nat) (fun j=>[(1,.one (int (j:Nat))),(0,.one (.ptr (.o y.kp) 0))]) (fun j=>⟨0,[],ou⟩) (fun m j=>j < e.length+1/\Rch cl m j (rtOf rt i)) (a0:=i) (ρ:=_root_.id) ⟨hi,hn0⟩
  (Qzw rfl zFS zsy zLO rfl rfl hou) fun m j hj=>?_
 obtain⟨hjl,hr⟩:=hj;have hg:=clC_get (cp:=y.cp) (show j < cl.length by omega);repeat' first|refine zN ?_|((with_reducible refine oj ?_);first|refine zix ?_|refine zow rfl rfl hp ?_)
 refine zS (Qsb (n:=j) tabOk rfl rfl rfl rfl rfl rfl rfl hjl) ?_;refine zS (zLD rfl rfl hl hg) ?_;refine zM ?_;refine Qyl rfl (fun hb=>?_) (fun hb=>?_)
 ·have hne:cl.getD j 0≠j:=by
   have h2:((cl.getD j 0:Nat):Int)≠((j:Nat):Int):=by simpa[-List.getD_eq_getElem?_getD]using hb
   omega
  cases hr with
  |base h0=>exact absurd h0 hne
  |@step n _ _ _ hr=>
   repeat' first|refine zN ?_|((with_reducible refine oj ?_);first|refine zix ?_|refine zow rfl rfl hp ?_)
   refine zS (Qsb (n:=j) tabOk rfl rfl rfl rfl rfl rfl rfl hjl) ?_;refine zS (zLD rfl rfl hl hg) ?_;refine zM ?_;exact cInv ⟨n,cl.getD j 0,_root_.id,by omega,⟨by have:=hu.lt j zoy;omega,hr⟩,Qzw rfl zFS zsy zLO rfl rfl hou⟩
 ·have he:cl.getD j 0=j:=by
   have h2:((cl.getD j 0:Nat):Int)=((j:Nat):Int):=by simpa[-List.getD_eq_getElem?_getD]using hb
   omega
  have hj:j=rtOf rt i:=by
   cases hr with
   |base h0=>rfl
   |step h0 _=>exact absurd he h0
  subst hj;refine zA ?_;exact Qst rfl (.refl _) zsy hou ⟨rfl,rfl⟩
theorem Qmb(hΓ:GI Γ){l:List FCl}{y:PLay}(h:PlanO e l y rt imp eff ou)(hi:i < e.length+1)(hj:j < e.length+1):
  AFn Tryz.prog Γ 68 [.one (.ptr (.o y.kp) 0),.one (int (i:Nat)),.one (int (j:Nat))] ou (fun r ou'=>r=.tup []/\PlanO e l y (joinR rt i j) imp eff ou'/\(∀q,q≠y.kl->ou' q=ou q)/\OuOk ou'):=by
 obtain⟨cl,hu,hl⟩:=h.l;have hp:ou y.kp=some (.cells [.sl 5 (e.map cEx),.mp (.o y.kc),.arr (.o y.kl) 1 0 (e.length+1) y.cp,int (e.length:Nat),.lit (.slice none 0 0),.arr (.o y.ki) 1 0 (e.length+1) (e.length+1),.arr (.o y.kf) 1 0 e.length e.length]):=h.p;have hcl:cl.length=e.length+1:=by rw[hu.l,h.rl]
 have hf1:=Q3s hΓ h hi;have hf2:=Q3s hΓ h hj;have hri:=hu.rt_lt (i:=i) zoy;rw[hcl]at hri;refine zwk 17 Tryz.func68 fun hou=>?_;refine zdx 10 [(3,.one (.arr (.o y.kl) 1 0 (e.length+1) y.cp)),(6,.one (int (rtOf rt i:Nat))),(9,.one (int (rtOf rt j:Nat)))] ?_ ?_
 ·refine .step rfl (zHP (zLD rfl rfl hp rfl)) ?_;exact Q09.callK hΓ hf1 hou zsy rfl rfl rfl rfl rfl rfl (Q09.callK hΓ hf2 hou zsy rfl rfl rfl rfl rfl rfl .nil)
 refine zS (Qsb (n:=rtOf rt i) tabOk rfl rfl rfl rfl rfl rfl rfl hri) ?_;refine Qyy (c:=int (rtOf rt j:Nat)) tabOk rfl rfl rfl rfl rfl rfl rfl hl (by unfold clsC;simp;omega) ?_;rw[Q0n,clC_set zoy];refine zA ?_;have hju:=hu.join (i:=i) (j:=j) zoy zoy;exact Qst rfl (.refl _) zsy (Q0m hou zsy) ⟨rfl,h.updL hju (by simp[joinR,h.rl]),fun q hq=>Q02 _ (Z3d hq) _,Q0m hou zsy⟩
end
variable {Γ:List (Nat×List AC)}
theorem PlanO.rt_lt{e:List Ex}{l:List FCl}{y:PLay}{rt:List Nat}{imp eff:List Bool}{ou:Outer}(h:PlanO e l y rt imp eff ou){i:Nat}(hi:i < e.length+1):rtOf rt i < e.length+1:=by
 obtain⟨cl,hu,_⟩:=h.l;have hcl:cl.length=e.length+1:=by rw[hu.l,h.rl]
 have:=hu.rt_lt (i:=i) zoy;omega
theorem Qea(hΓ:GI Γ){l:List FCl}{y:PLay}(h:PlanO e l y rt imp eff ou)(hi:i < e.length+1):
  AFn Tryz.prog Γ 35 [.one (.ptr (.o y.kp) 0),.one (int (i:Nat))] ou (fun r ou'=>r=.one (bA (imp.getD (rtOf rt i) false))/\ou'=ou):=by
 have hp:ou y.kp=some (.cells [.sl 5 (e.map cEx),.mp (.o y.kc),.arr (.o y.kl) 1 0 (e.length+1) y.cp,int (e.length:Nat),.lit (.slice none 0 0),.arr (.o y.ki) 1 0 (e.length+1) (e.length+1),.arr (.o y.kf) 1 0 e.length e.length]):=h.p;have hf1:=Q3s hΓ h hi;have hri:=h.rt_lt hi;have hg:=Qax (l:=imp) (i:=rtOf rt i) (by rw[h.il];exact hri);refine zwk 14 Tryz.func35 fun hou=>?_;refine zA ?_;refine zdx 9 [(3,.one (.arr (.o y.ki) 1 0 (e.length+1) (e.length+1))),(6,.one (int (rtOf rt i:Nat))),(7,.one (.ptr (.o y.ki) (0 * 1+rtOf rt i * 1))),(8,.one (bA (imp.getD (rtOf rt i) false)))] ?_ ?_
 ·refine .step rfl (zHP (zLD rfl rfl hp rfl)) ?_;refine Q09.callK hΓ hf1 hou zsy rfl rfl rfl rfl rfl rfl ?_;refine .step rfl (zHP (Qsb (n:=rtOf rt i) tabOk rfl rfl rfl rfl rfl rfl rfl hri)) ?_;exact .step rfl (zHP (zLD rfl rfl h.i hg)) .nil
 refine zA ?_;exact Qst rfl (.refl _) (by simp[bA,AC.ids]) hou ⟨rfl,rfl⟩
theorem zeroFl(w:World)(C:Ctx):RF w C (eFl (0,[],false)) (.agg #[.int .i64 0,.slice none 0 0,.bool false]):=by refine⟨[.int .i64 0,.slice none 0 0,.bool false],rfl,?_⟩;simp[cFl,RV,R,Value.oneCell'];exact⟨_,_,⟨rfl,rfl⟩,rfl,_,rfl,none,0,rfl⟩
def FnsIn (e:List Ex)(l:List FCl):Prop:=∀c∈l,∀f∈c.2.1,f < e.length
theorem Qkb(l:List FCl):∀(pre:List FCl)(i:Int)(c:FCl),(∀x∈pre,x∈l)->pre.foldl (fun f c j=>if (c.1:Int)=j then some c else f j) (fun _=>none) i=some c->c∈l:=by
 intro pre;have key:∀(pre:List FCl) (f:Int->Option FCl) (i:Int) (c:FCl),(∀x∈pre,x∈l)->(∀i c,f i=some c->c∈l)->pre.foldl (fun f c j=>if (c.1:Int)=j then some c else f j) f i=some c->c∈l:=by
  intro pre
  induction pre with
  |nil=>intro f i c _ hf h;exact hf i c h
  |cons x r ih=>
   intro f i c hp hf h;refine ih _ i c (fun y hy=>hp y (Z1q _ hy)) (fun i c hc=>?_) h;dsimp only at hc;split at hc
   ·cases hc;exact hp x Z1r
   ·exact hf i c hc
 intro i c hp h;exact key pre _ i c hp (fun _ _ h=>by cases h) h
theorem FnsIn.at{e:List Ex}{l:List FCl}(h:FnsIn e l)(i:Nat):∀f∈(Q5q l i).2.1,f < e.length:=fun f hf=>by
 unfold Q5q at hf;cases hc:Q44 l (i:Int) with
 |none=>rw[hc]at hf;simp at hf
 |some c=>
  rw[hc]at hf;exact h c (Qkb l l i c (fun _ h=>h) hc) f hf
theorem Q91(hΓ:GI Γ){l:List FCl}{y:PLay}(h:PlanO e l y rt imp eff ou)(hl:FnsIn e l)(i:Nat):
  AFn Tryz.prog Γ 104 [.one (.ptr (.o y.kp) 0),.one (int (i:Nat))] ou (fun r ou'=>r=.one (bA (cnvN rt l imp i))/\ou'=ou):=by
 have hp:ou y.kp=some (.cells [.sl 5 (e.map cEx),.mp (.o y.kc),.arr (.o y.kl) 1 0 (e.length+1) y.cp,int (e.length:Nat),.lit (.slice none 0 0),.arr (.o y.ki) 1 0 (e.length+1) (e.length+1),.arr (.o y.kf) 1 0 e.length e.length]):=h.p;obtain⟨ck,m,hm,him⟩:=h.c;have hfi:=hl.at i;have hv:(match Q44 l (i:Int) with|some b=>eFl b|none=>eFl (0,[],false))=eFl (Q5q l i):=by unfold Q5q;cases Q44 l (i:Int) <;> rfl
 have hres:cnvN rt l imp i=(if (Q5q l i).2.2=true then true else if (Q5q l i).2.1=[]then false else imp.getD (rtOf rt ((Q5q l i).2.1.getD 0 0)) false):=rfl;rw[hres];obtain⟨c,hc⟩:∃c,c=Q5q l i:=⟨_,rfl⟩;rw[←hc]at hfi hv ⊢;obtain⟨ca,fs,co⟩:=c;refine zwk 32 Tryz.func104 fun hou=>?_;repeat' first|refine zN ?_|((with_reducible refine oj ?_);first|refine zix ?_|refine zow rfl rfl hp ?_)
 refine zS (Qu3 eFl (cm:=false) (z:=eFl (0,[],false)) (v:=eFl (ca,fs,co)) rfl Tryz.underlying132 Z42 rfl hm rfl zky zeroFl him (by rw[←hv];cases Q44 l (i:Int) <;> rfl)) ?_;refine zA ?_;cases co with
 |true=>
  rw[if_pos rfl];refine zA ?_;exact Qst rfl (.refl _) (by simp[bA,AC.ids]) hou ⟨rfl,rfl⟩
 |false=>
  rw[if_neg zsy];refine zM ?_;refine Qyl rfl (fun hb=>?_) (fun hb=>?_)
  ·cases fs with
   |nil=>simp at hb
   |cons f r=>
    have hf:=hfi f Z1r;rw[if_neg zsy];have hf1:=Q3s hΓ h (i:=f) zoy;have hri:=h.rt_lt (i:=f) zoy;have hg:=Qax (l:=imp) (i:=rtOf rt f) (by rw[h.il];exact hri);show ACode _ _ _ _ _;refine Qyp (.l 0) 5 rfl rfl ?_
    (first|((with_reducible refine oj ?_);refine zau ?_)|(with_reducible refine zst ?_)|((with_reducible refine Q07 ?_ ?_);rfl)|(with_reducible refine ok ?_;first|refine Qyn rfl ?_|refine Qym rfl ?_))
    refine zdx 12 [(3,.one (.arr (.o y.ki) 1 0 (e.length+1) (e.length+1))),(7,.one (.box [int (f:Nat)])),(9,.one (int (rtOf rt f:Nat))),(10,.one (.ptr (.o y.ki) (0 * 1+rtOf rt f * 1))),(11,.one (bA (imp.getD (rtOf rt f) false)))] ?_ ?_
    ·refine .step rfl (zHP (zLD rfl rfl hp rfl)) ?_;refine .step rfl (zHP (zIA rfl rfl rfl zoy rfl)) ?_;refine Q09.callK hΓ hf1 hou zsy rfl rfl rfl rfl rfl rfl ?_;refine .step rfl (zHP (Qsb (n:=rtOf rt f) tabOk rfl rfl rfl rfl rfl rfl rfl hri)) ?_;exact .step rfl (zHP (zLD rfl rfl h.i hg)) .nil
    refine zA ?_;exact Qst rfl (.refl _) (by simp[bA,AC.ids]) hou ⟨rfl,rfl⟩
  ·cases fs with
   |cons f r=>simp at hb
   |nil=>
    rw[if_pos rfl];refine zA ?_;exact Qst rfl (.refl _) (by simp[bA,AC.ids]) hou ⟨rfl,rfl⟩
end Go.Proofs.YtlmokgooijbcdaaGreatDoor
