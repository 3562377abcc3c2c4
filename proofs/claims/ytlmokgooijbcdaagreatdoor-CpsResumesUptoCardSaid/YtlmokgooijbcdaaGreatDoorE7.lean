/- cps: one pass over the nodes; walked. -/
import Derived.Test.YtlmokgooijbcdaaGreatDoorE6
import Derived.LaidEqlPtr
set_option maxRecDepth 10000
set_option maxHeartbeats 4000000
set_option linter.unusedVariables false
set_option linter.unusedSimpArgs false
open Go.Abs.AStep renaming wk->Qz3
open Bool renaming not_true->Qzi,true_eq_false->Qzl
open Int renaming le_refl->Qzt
open List renaming count_cons->Z05,drop_succ_cons->Z09,drop_zero->Z0a,find?_eq_none->Z0g,getD_cons_succ->Z0m,getD_cons_zero->Z0n,map_take->Z1k,mem_filter->Z1s,mem_of_mem_drop->Z1z,mem_singleton->Z23,range_succ->Z2a,reverse_cons->Z2c,take_succ_cons->Z2l
open Nat renaming add_comm->Z2q,sub_zero->Z38
open Option renaming map_none->Z3l
open Go Go.Abs Go.CoreX
variable {e:List Ex}{l r:List Cv}{rt cl:List Nat}{imp eff:List Bool}{ou ov ou2:Outer}{a:List LAlt}{b binds:List Int}{c:Code}{i j k p cap ck km kx id d g q:Nat}{s n o C B op up A a0:Int}{s':PSt}{x f:Operand}{σ σ':St}{P:Program}{w:World}{kt te et:TypeId}{ti:TypeInfo}{t:LTr}{v:FV}{cj first caps cs:List AC}{pas cnv:Bool}{alts:List Alt}{ks:List LTr}{fin:List Tr->Int->Int->Int->Tr×Int}{rest:List Oper}{nb:Nb}{E:Env}{ops:Array Oper}{K:Cont}{args:Array Operand}{tys:Array TypeId}{vs bs vs0:List FV}{es:List (List AC)}{F:Nat->Prop}{PP:List PanicEntry->St->Prop}{oc:Option Nat}
namespace Go.Proofs.YtlmokgooijbcdaaGreatDoor
variable {Γ:List (Nat×List AC)}
structure PassI (e:List Ex)(l:List FCl)(y:PLay)(rt:List Nat)(ou:Outer)(s:PSt)(ov:Outer):Prop where
 p:PlanO e l y rt s.imp s.eff ov
 old:∀q,q≠y.ki->q≠y.kf->ov q=ou q
 ok:OuOk ov
@[simp] theorem ids_bA1 (p:Abs.Id->Prop) (b:Bool):(bA b).ids p:=by simp[bA,AC.ids]
theorem Q8x(x:Ex)(eff:List Bool)(n:Nat)(b:Bool):Q2l x eff (n+1) b=if x.op=2∨(x.op=5/\n < x.binds.length)then Q2l x eff n b else Q2l x eff n b||eff.getD (x.kids.getD n 0).toNat false:=by simp[Q2l,Z2a]
theorem Q8z(e:List Ex)(cl:List Nat)(l:List FCl)(n:Nat)(s:PSt):Q20 e cl l (n+1) s=Q6s e cl l (Q20 e cl l n s) n:=by simp[Q20,Z2a]
theorem pass_ok(hΓ:GI Γ)(hE:FE e){l:List FCl}{y:PLay}(h:PlanO e l y rt imp eff ou)(hl:FnsIn e l):
  AFn Tryz.prog Γ 70 [.one (.ptr (.o y.kp) 0)] ou (fun r ou'=>r=.one (bA (Q20 e rt l e.length ⟨imp,eff,false⟩).moved)/\PassI e l y rt ou (Q20 e rt l e.length ⟨imp,eff,false⟩) ou'):=by
 have hp:ou y.kp=some (.cells [.sl 5 (e.map cEx),.mp (.o y.kc),.arr (.o y.kl) 1 0 (e.length+1) y.cp,int (e.length:Nat),.lit (.slice none 0 0),.arr (.o y.ki) 1 0 (e.length+1) (e.length+1),.arr (.o y.kf) 1 0 e.length e.length]):=h.p;have hel:=hE.l;refine zwk 123 Tryz.func70 fun hou=>?_;repeat' first|refine zN ?_|((with_reducible refine oj ?_);first|refine zix ?_|refine zow rfl rfl hp ?_)
 refine Qre hΓ (α:=Nat×Outer) (fun c=>[(15,.one (int (c.1:Nat))),(14,.one (int (e.map cEx).length)),(13,.one (.sl 5 (e.map cEx))),(3,.one (bA (Q20 e rt l c.1 ⟨imp,eff,false⟩).moved)),(0,.one (.ptr (.o y.kp) 0))]) (fun c=>⟨0,[],c.2⟩)
  (fun m c=>(c.1<=e.length/\PassI e l y rt ou (Q20 e rt l c.1 ⟨imp,eff,false⟩) c.2)/\m=e.length - c.1) (a0:=(0,ou)) (ρ:=_root_.id) ⟨⟨by omega,⟨h,fun _ _ _=>rfl,hou⟩⟩,rfl⟩
  (Qzw rfl zFS zsy zLO rfl rfl hou) fun m c hc=>?_
 obtain⟨j,ov⟩:=c;obtain⟨⟨hjl,hI⟩,rfl⟩:=hc;dsimp only at hjl hI;have hov:=hI.ok;have hps:ov y.kp=some (.cells [.sl 5 (e.map cEx),.mp (.o y.kc),.arr (.o y.kl) 1 0 (e.length+1) y.cp,int (e.length:Nat),.lit (.slice none 0 0),.arr (.o y.ki) 1 0 (e.length+1) (e.length+1),.arr (.o y.kf) 1 0 e.length e.length]):=hI.p.p;refine zA ?_;refine Qyl rfl (fun hb=>?_) (fun hb=>?_)
 ·have hlt:j < e.length:=by have:=of_decide_eq_true hb;simp at this;omega
  obtain⟨x,hx⟩:=Q00 hlt;have hg:(e.map cEx)[j]?=some (cEx x):=by simp[hx]
  have hxm:=Z1y hx;have hsh:=hE.sh x hxm;have hkl:=hE.kl x hxm;have hbl:=hE.bl x hxm;have hsN:Q20 e rt l (j+1) ⟨imp,eff,false⟩=Q6s e rt l (Q20 e rt l j ⟨imp,eff,false⟩) j:=Q8z _ _ _ _ _;obtain⟨s,hs⟩:∃s,s=Q20 e rt l j ⟨imp,eff,false⟩:=⟨_,rfl⟩;rw[←hs]at hI hsN ⊢;have hsN2:Q20 e rt l (j+1) ⟨imp,eff,false⟩=(if x.op=2 then Q6e (Q8w rt s j x) j false else Q6e s j (Q2l x s.eff x.kids.length (isEff rt l s j x))):=by rw[hsN];unfold Q6s;rw[Q0b hx]
  refine zA ?_;refine zS (zIA rfl rfl rfl zoy hg) ?_;iterate 7 (refine zO ?_)
  refine Qyp (.l 0) 5 rfl rfl ?_;refine Qs5 hΓ (α:=Unit) (fun _=>[(6,.one (bA (isEff rt l s j x))),(5,.one (.box (cEx x))),(4,.one (int (j:Nat))),(15,.one (int (j:Nat))),(14,.one (int (e.map cEx).length)),(13,.one (.sl 5 (e.map cEx))),(3,.one (bA s.moved)),(0,.one (.ptr (.o y.kp) 0))]) (fun _=>⟨0,[],ov⟩) (fun _=>True) ?_ fun _ _=>?_
  ·have hfin:∀(b:Bool),isEff rt l s j x=b->FV.one (.lit (.bool b))=.one (bA (isEff rt l s j x)):=fun b hb=>by rw[hb];rfl
   by_cases h12:x.op=12
   ·have hv:isEff rt l s j x=true:=by simp[isEff,h12]
    repeat ((fail_if_success ((with_reducible refine oj ?_);refine Qtz 23 rfl ?_));first|refine zO ?_)
    refine Qyz 22 rfl (y:=.one (.lit (.bool true))) (.ofEq (by show FV.one (.lit (.bool (x.op==12)))=_;simp[h12])) ?_;refine zM ?_;exact cInv ⟨(),_root_.id,trivial,Qzw rfl (by rw[hv];(repeat' first|exact Qzq|refine zfc ?_|refine zfo ?_|refine zfp ?_)) zsy zLO rfl rfl hov⟩
   by_cases h13:x.op=13
   ·have hv:isEff rt l s j x=true:=by simp[isEff,h13]
    repeat ((fail_if_success ((with_reducible refine oj ?_);refine Qtz 23 rfl ?_));first|refine zO ?_)
    refine Qyz 22 rfl (y:=.one (.lit (.bool false))) (.ofEq (by show FV.one (.lit (.bool (x.op==12)))=_;simp[h13])) ?_;repeat ((fail_if_success ((with_reducible refine oj ?_);refine Qtz 27 rfl ?_));first|refine zO ?_)
    refine Qyz 26 rfl (y:=.one (.lit (.bool true))) (.ofEq (by show FV.one (.lit (.bool (x.op==13)))=_;simp[h13])) ?_;refine zM ?_;exact cInv ⟨(),_root_.id,trivial,Qzw rfl (by rw[hv];(repeat' first|exact Qzq|refine zfc ?_|refine zfo ?_|refine zfp ?_)) zsy zLO rfl rfl hov⟩
   by_cases h3:x.op=3
   ·have hv:isEff rt l s j x=cnvN rt l s.imp j:=by simp[isEff,h3]
    repeat ((fail_if_success ((with_reducible refine oj ?_);refine Qtz 23 rfl ?_));first|refine zO ?_)
    refine Qyz 22 rfl (y:=.one (.lit (.bool false))) (.ofEq (by show FV.one (.lit (.bool (x.op==12)))=_;simp[h3])) ?_;repeat ((fail_if_success ((with_reducible refine oj ?_);refine Qtz 27 rfl ?_));first|refine zO ?_)
    refine Qyz 26 rfl (y:=.one (.lit (.bool false))) (.ofEq (by show FV.one (.lit (.bool (x.op==13)))=_;simp[h3])) ?_;repeat ((fail_if_success ((with_reducible refine oj ?_);refine Qtz 32 rfl ?_));first|refine zO ?_)
    refine Qyz 31 rfl (y:=.one (.lit (.bool true))) (.ofEq (by show FV.one (.lit (.bool (x.op==3)))=_;simp[h3])) ?_;refine zM ?_;refine Qyv hΓ (Q91 hΓ hI.p hl j) rfl rfl rfl rfl rfl rfl rfl hov zsy ?_;refine zM ?_;exact cInv ⟨(),_root_.id,trivial,Qzw rfl (by rw[hv];(repeat' first|exact Qzq|refine zfc ?_|refine zfo ?_|refine zfp ?_)) zsy zLO rfl rfl hov⟩
   ·have hv:isEff rt l s j x=false:=by simp[isEff,h12,h13,h3]
    repeat ((fail_if_success ((with_reducible refine oj ?_);refine Qtz 23 rfl ?_));first|refine zO ?_)
    refine Qyz 22 rfl (y:=.one (.lit (.bool false))) (.ofEq (by show FV.one (.lit (.bool (x.op==12)))=_;simp[h12])) ?_;repeat ((fail_if_success ((with_reducible refine oj ?_);refine Qtz 27 rfl ?_));first|refine zO ?_)
    refine Qyz 26 rfl (y:=.one (.lit (.bool false))) (.ofEq (by show FV.one (.lit (.bool (x.op==13)))=_;simp[h13])) ?_;repeat ((fail_if_success ((with_reducible refine oj ?_);refine Qtz 32 rfl ?_));first|refine zO ?_)
    refine Qyz 31 rfl (y:=.one (.lit (.bool false))) (.ofEq (by show FV.one (.lit (.bool (x.op==3)))=_;simp[h3])) ?_;refine zM ?_;exact cInv ⟨(),_root_.id,trivial,Qzw rfl (by rw[hv];(repeat' first|exact Qzq|refine zfc ?_|refine zfo ?_|refine zfp ?_)) zsy zLO rfl rfl hov⟩
  ·refine zA ?_;refine Qre hΓ (α:=Nat) (fun k=>[(41,.one (int (k:Nat))),(40,.one (int (x.kids.map cI).length)),(39,.one (.sl 1 (x.kids.map cI))),(6,.one (bA (Q2l x s.eff k (isEff rt l s j x)))),(5,.one (.box (cEx x))),(4,.one (int (j:Nat))),(15,.one (int (j:Nat))),(14,.one (int (e.map cEx).length)),(13,.one (.sl 5 (e.map cEx))),(3,.one (bA s.moved)),(0,.one (.ptr (.o y.kp) 0))]) (fun k=>⟨0,[],ov⟩)
    (fun m k=>k<=x.kids.length/\m=x.kids.length - k) (a0:=0) (ρ:=_root_.id) ⟨by omega,rfl⟩
    (Qzw rfl zFS zsy zLO rfl rfl hov) fun m k hk=>?_
   obtain⟨hkl2,rfl⟩:=hk;refine zA ?_;refine Qyl rfl (fun hb2=>?_) (fun hb2=>?_)
   ·have Qvg:k < x.kids.length:=by have:=of_decide_eq_true hb2;simp at this;omega
    obtain⟨kd,hkd⟩:=Q00 Qvg;obtain⟨kd0,kd1⟩:=hE.k j x hx kd (Z1y hkd);obtain⟨kn,rfl⟩:∃kn:Nat,kd=kn:=⟨kd.toNat,by omega⟩;have hsc:=Q8x x s.eff k (isEff rt l s j x);rw[Q0b hkd]at hsc;obtain⟨bb,hbb⟩:∃bb,bb=Q2l x s.eff k (isEff rt l s j x):=⟨_,rfl⟩;rw[←hbb]at hsc ⊢;refine zA ?_;refine zS (zIA rfl rfl rfl zoy (Q1f hkd)) ?_;iterate 6 (refine zO ?_)
    refine Qs5 hΓ (α:=Unit) (fun _=>[(61,.one (.lit (.bool (!decide (x.op=2∨(x.op=5/\k < x.binds.length)))))),(8,.one (int (kn:Nat))),(7,.one (int (k:Nat))),(41,.one (int (k:Nat))),(40,.one (int (x.kids.map cI).length)),(39,.one (.sl 1 (x.kids.map cI))),(6,.one (bA bb)),(5,.one (.box (cEx x))),(4,.one (int (j:Nat))),(15,.one (int (j:Nat))),(14,.one (int (e.map cEx).length)),(13,.one (.sl 5 (e.map cEx))),(3,.one (bA s.moved)),(0,.one (.ptr (.o y.kp) 0))]) (fun _=>⟨0,[],ov⟩) (fun _=>True) ?_ fun _ _=>?_
    ·by_cases h2:x.op=2
     ·have hv:(!decide (x.op=2∨(x.op=5/\k < x.binds.length)))=false:=by simp[h2]
      repeat ((fail_if_success ((with_reducible refine oj ?_);refine Qtz 49 rfl ?_));first|refine zO ?_)
      refine Qyz 48 rfl (y:=.one (.lit (.bool false))) (.ofEq (by show FV.one (.lit (.bool (x.op != 2)))=_;simp[h2])) ?_;refine zM ?_;exact cInv ⟨(),_root_.id,trivial,Qzw rfl (by rw[hv];(repeat' first|exact Qzq|refine zfc ?_|refine zfo ?_|refine zfp ?_)) zsy zLO rfl rfl hov⟩
     by_cases h5:x.op=5
     ·by_cases hkb:k < x.binds.length
      ·have hv:(!decide (x.op=2∨(x.op=5/\k < x.binds.length)))=false:=by simp[h5,hkb]
       repeat ((fail_if_success ((with_reducible refine oj ?_);refine Qtz 49 rfl ?_));first|refine zO ?_)
       refine Qyz 48 rfl (y:=.one (.lit (.bool true))) (.ofEq (by show FV.one (.lit (.bool (x.op != 2)))=_;simp[h2])) ?_;repeat ((fail_if_success ((with_reducible refine oj ?_);refine Qtz 53 rfl ?_));first|refine zO ?_)
       refine Qyz 52 rfl (y:=.one (.lit (.bool true))) (.ofEq (by show FV.one (.lit (.bool (x.op==5)))=_;simp[h5])) ?_;repeat ((fail_if_success ((with_reducible refine oj ?_);refine Qtz 59 rfl ?_));first|refine zO ?_)
       refine Qyz 58 rfl (y:=.one (.lit (.bool true))) (.ofEq (by show FV.one (.lit (.bool (decide ((k:Int) < ((x.binds.map cI).length:Nat)))))=_;simp[hkb])) ?_;refine zM ?_;exact cInv ⟨(),_root_.id,trivial,Qzw rfl (by rw[hv];(repeat' first|exact Qzq|refine zfc ?_|refine zfo ?_|refine zfp ?_)) zsy zLO rfl rfl hov⟩
      ·have hv:(!decide (x.op=2∨(x.op=5/\k < x.binds.length)))=true:=by simp[h5,hkb]
       repeat ((fail_if_success ((with_reducible refine oj ?_);refine Qtz 49 rfl ?_));first|refine zO ?_)
       refine Qyz 48 rfl (y:=.one (.lit (.bool true))) (.ofEq (by show FV.one (.lit (.bool (x.op != 2)))=_;simp[h2])) ?_;repeat ((fail_if_success ((with_reducible refine oj ?_);refine Qtz 53 rfl ?_));first|refine zO ?_)
       refine Qyz 52 rfl (y:=.one (.lit (.bool true))) (.ofEq (by show FV.one (.lit (.bool (x.op==5)))=_;simp[h5])) ?_;repeat ((fail_if_success ((with_reducible refine oj ?_);refine Qtz 59 rfl ?_));first|refine zO ?_)
       refine Qyz 58 rfl (y:=.one (.lit (.bool false))) (.ofEq (by show FV.one (.lit (.bool (decide ((k:Int) < ((x.binds.map cI).length:Nat)))))=_;simp;omega)) ?_;refine zM ?_;exact cInv ⟨(),_root_.id,trivial,Qzw rfl (by rw[hv];(repeat' first|exact Qzq|refine zfc ?_|refine zfo ?_|refine zfp ?_)) zsy zLO rfl rfl hov⟩
     ·have hv:(!decide (x.op=2∨(x.op=5/\k < x.binds.length)))=true:=by simp[h2,h5]
      repeat ((fail_if_success ((with_reducible refine oj ?_);refine Qtz 49 rfl ?_));first|refine zO ?_)
      refine Qyz 48 rfl (y:=.one (.lit (.bool true))) (.ofEq (by show FV.one (.lit (.bool (x.op != 2)))=_;simp[h2])) ?_;repeat ((fail_if_success ((with_reducible refine oj ?_);refine Qtz 53 rfl ?_));first|refine zO ?_)
      refine Qyz 52 rfl (y:=.one (.lit (.bool false))) (.ofEq (by show FV.one (.lit (.bool (x.op==5)))=_;simp[h5])) ?_;refine zM ?_;exact cInv ⟨(),_root_.id,trivial,Qzw rfl (by rw[hv];(repeat' first|exact Qzq|refine zfc ?_|refine zfo ?_|refine zfp ?_)) zsy zLO rfl rfl hov⟩
    ·have hgf:=Qax (l:=s.eff) (i:=kn) (by rw[hI.p.fl];omega);refine Qyl rfl (fun hq=>?_) (fun hq=>?_)
     ·have hq':¬(x.op=2∨(x.op=5/\k < x.binds.length)):=by rw[Qzh]at hq;exact of_decide_eq_false hq
      rw[if_neg hq',Qzv]at hsc;cases bb with
      |true=>
       rw[Bool.true_or]at hsc;refine zM ?_;exact cInv ⟨x.kids.length - (k+1),k+1,_root_.id,by omega,⟨by omega,rfl⟩,Qzw rfl (by rw[hsc];(repeat' first|exact Qzq|refine zfc ?_|refine zfo ?_|refine zfp ?_)) zsy zLO rfl rfl hov⟩
      |false=>
       rw[Qzf]at hsc;repeat' first|refine zN ?_|((with_reducible refine oj ?_);first|refine zix ?_|refine zow rfl rfl hps ?_)
       refine zS (Qsb (n:=kn) tabOk rfl rfl rfl rfl rfl rfl rfl zoy) ?_;refine Qs6 rfl rfl rfl ?_;refine zS (zLD rfl rfl hI.p.f hgf) ?_;refine zM ?_;exact cInv ⟨x.kids.length - (k+1),k+1,_root_.id,by omega,⟨by omega,rfl⟩,Qzw rfl (by rw[hsc];(repeat' first|exact Qzq|refine zfc ?_|refine zfo ?_|refine zfp ?_)) zsy zLO rfl rfl hov⟩
     ·have hq':x.op=2∨(x.op=5/\k < x.binds.length):=by rw[Bool.not_eq_false']at hq;exact of_decide_eq_true hq
      rw[if_pos hq']at hsc;refine zM ?_;exact cInv ⟨x.kids.length - (k+1),k+1,_root_.id,by omega,⟨by omega,rfl⟩,Qzw rfl (by rw[hsc];(repeat' first|exact Qzq|refine zfc ?_|refine zfo ?_|refine zfp ?_)) zsy zLO rfl rfl hov⟩
   ·have hke:k=x.kids.length:=by simp at hb2;omega
    subst hke;obtain⟨bk,hbk⟩:∃bk,bk=Q2l x s.eff x.kids.length (isEff rt l s j x):=⟨_,rfl⟩;rw[←hbk]at hsN2 ⊢;iterate 6 (refine zO ?_)
    obtain⟨s1,hs1⟩:∃s1,s1=if x.op=2 then Q8w rt s j x else s:=⟨_,rfl⟩;obtain⟨bi,hbi⟩:∃bi,bi=if x.op=2 then false else bk:=⟨_,rfl⟩;have hsN3:Q20 e rt l (j+1) ⟨imp,eff,false⟩=Q6e s1 j bi:=by rw[hsN2,hs1,hbi];split <;> rfl
    refine Qs5 hΓ (α:=Outer) (fun _=>[(6,.one (bA bi)),(4,.one (int (j:Nat))),(15,.one (int (j:Nat))),(14,.one (int (e.map cEx).length)),(13,.one (.sl 5 (e.map cEx))),(3,.one (bA s1.moved)),(0,.one (.ptr (.o y.kp) 0))]) (fun o3=>⟨0,[],o3⟩) (fun o3=>PassI e l y rt ou s1 o3) ?_ fun o3 hI3=>?_
    ·refine zA ?_;refine Qyl rfl (fun hq=>?_) (fun hq=>?_)
     ·have h2:x.op=2:=by simpa using hq
      rw[if_pos h2]at hs1 hbi;subst hbi;have hsl:=hsh;rw[h2]at hsl;have hk1:=hsl.lam.1;obtain⟨kd,hkd⟩:∃k,x.kids[0]?=some k:=Q00 zoy;obtain⟨kd0,kd1⟩:=hE.k j x hx kd (Z1y hkd);obtain⟨kn,rfl⟩:∃kn:Nat,kd=kn:=⟨kd.toNat,by omega⟩;have hs2:s1=if s.eff.getD kn false=true/\s.imp.getD (rtOf rt j) false=false then ⟨s.imp.set (rtOf rt j) true,s.eff,true⟩else s:=by rw[hs1];unfold Q8w;rw[Q0b hkd,Qzv]
      have hgf:=Qax (l:=s.eff) (i:=kn) (by rw[hI.p.fl];omega);have hri:=hI.p.rt_lt (i:=j) zoy;have hgi:=Qax (l:=s.imp) (i:=rtOf rt j) (by rw[hI.p.il];exact hri);refine zA ?_;refine Qyv hΓ (Q3s hΓ hI.p (i:=j) zoy) rfl rfl rfl rfl rfl rfl rfl hov zsy ?_;iterate 5 (refine zO ?_)
      obtain⟨b0,hb0⟩:∃b0,b0=s.eff.getD kn false:=⟨_,rfl⟩;obtain⟨b1,hb1⟩:∃b1,b1=s.imp.getD (rtOf rt j) false:=⟨_,rfl⟩;rw[←hb0]at hgf hs2;rw[←hb1]at hgi hs2;cases b0 with
      |false=>
       rw[if_neg zsy]at hs2;subst hs2;refine zdx 19 [(3,.one (.arr (.o y.kf) 1 0 e.length e.length)),(6,.one (.box [int (kn:Nat)])),(8,.one (.ptr (.o y.kf) (0 * 1+kn * 1))),(9,.one (bA false))] ?_ ?_
       ·refine .step rfl (zHP (zLD rfl rfl hps rfl)) ?_;refine .step rfl (zHP (zIA rfl rfl rfl zoy (Q1f hkd))) ?_;refine .step rfl (zHP (Qsb (n:=kn) tabOk rfl rfl rfl rfl rfl rfl rfl zoy)) ?_;exact .step rfl (zHP (zLD rfl rfl hI.p.f hgf)) .nil
       refine zA ?_;exact cInv ⟨ov,_root_.id,hI,Qzw rfl zFS zsy zLO rfl rfl hov⟩
      |true=>
       refine zdx 19 [(3,.one (.arr (.o y.kf) 1 0 e.length e.length)),(6,.one (.box [int (kn:Nat)])),(8,.one (.ptr (.o y.kf) (0 * 1+kn * 1))),(9,.one (bA true)),(14,.one (.arr (.o y.ki) 1 0 (e.length+1) (e.length+1))),(16,.one (.ptr (.o y.ki) (0 * 1+rtOf rt j * 1))),(17,.one (bA b1))] ?_ ?_
       ·refine .step rfl (zHP (zLD rfl rfl hps rfl)) ?_;refine .step rfl (zHP (zIA rfl rfl rfl zoy (Q1f hkd))) ?_;refine .step rfl (zHP (Qsb (n:=kn) tabOk rfl rfl rfl rfl rfl rfl rfl zoy)) ?_;refine .step rfl (zHP (zLD rfl rfl hI.p.f hgf)) ?_;refine .step rfl (Qrf rfl rfl rfl (zLD rfl rfl hps rfl)) ?_;refine .step rfl (Qrf rfl rfl rfl (Qsb (n:=rtOf rt j) tabOk rfl rfl rfl rfl rfl rfl rfl hri)) ?_;exact .step rfl (Qrf rfl rfl rfl (zLD rfl rfl hI.p.i hgi)) .nil
       cases b1 with
       |true=>
        rw[if_neg zsy]at hs2;subst hs2;refine zA ?_;exact cInv ⟨ov,_root_.id,hI,Qzw rfl zFS zsy zLO rfl rfl hov⟩
       |false=>
        rw[if_pos zsy]at hs2;subst hs2;refine zA ?_;repeat' first|refine zN ?_|((with_reducible refine oj ?_);first|refine zix ?_|refine zow rfl rfl hps ?_)
        refine zS (Qsb (n:=rtOf rt j) tabOk rfl rfl rfl rfl rfl rfl rfl hri) ?_;refine Qyy (c:=bA true) tabOk rfl rfl rfl rfl rfl rfl rfl hI.p.i (by simp[hI.p.il];omega) ?_;rw[Q0n,Qnq];have Qw4:OuOk (updO ov y.ki (.cells ((s.imp.set (rtOf rt j) true).map bA))):=Q0m hov (Qmp isO _);refine zA ?_;exact cInv ⟨_,_root_.id,⟨hI.p.updI (by simp[hI.p.il]),fun q h1 h2=>by rw[Q02 _ (Z3d h1)];exact hI.old q h1 h2,Qw4⟩,Qzw rfl zFS zsy zLO rfl rfl Qw4⟩
     ·have h2:x.op≠2:=by simpa using hq
      rw[if_neg h2]at hs1 hbi;subst hs1;subst hbi;refine zA ?_;exact cInv ⟨ov,_root_.id,hI,Qzw rfl zFS zsy zLO rfl rfl hov⟩
    ·have hov3:=hI3.ok;have hps3:o3 y.kp=some (.cells [.sl 5 (e.map cEx),.mp (.o y.kc),.arr (.o y.kl) 1 0 (e.length+1) y.cp,int (e.length:Nat),.lit (.slice none 0 0),.arr (.o y.ki) 1 0 (e.length+1) (e.length+1),.arr (.o y.kf) 1 0 e.length e.length]):=hI3.p.p;have hgf:=Qax (l:=s1.eff) (i:=j) (by rw[hI3.p.fl];omega);obtain⟨bo,hbo⟩:∃bo,bo=s1.eff.getD j false:=⟨_,rfl⟩;rw[←hbo]at hgf;repeat' first|refine zN ?_|((with_reducible refine oj ?_);first|refine zix ?_|refine zow rfl rfl hps3 ?_)
     refine zS (Qsb (n:=j) tabOk rfl rfl rfl rfl rfl rfl rfl zoy) ?_;refine zS (zLD rfl rfl hI3.p.f hgf) ?_;refine zM ?_;refine Qyl rfl (fun hq=>?_) (fun hq=>?_)
     ·have hne:bi≠bo:=by simpa using hq
      have Qxh:Q20 e rt l (j+1) ⟨imp,eff,false⟩=⟨s1.imp,s1.eff.set j bi,true⟩:=by rw[hsN3];unfold Q6e;rw[←hbo,if_neg hne]
      repeat' first|refine zN ?_|((with_reducible refine oj ?_);first|refine zix ?_|refine zow rfl rfl hps3 ?_)
      refine zS (Qsb (n:=j) tabOk rfl rfl rfl rfl rfl rfl rfl zoy) ?_;refine Qyy (c:=bA bi) tabOk rfl rfl rfl rfl rfl rfl rfl hI3.p.f (by simp[hI3.p.fl];omega) ?_;rw[Q0n,Qnq];obtain⟨oN,hoN⟩:∃oN,oN=updO o3 y.kf (.cells ((s1.eff.set j bi).map bA)):=⟨_,rfl⟩;have Qw4:OuOk oN:=by rw[hoN];exact Q0m hov3 (Qmp isO _)
      have hpN:PassI e l y rt ou ⟨s1.imp,s1.eff.set j bi,true⟩ oN:=⟨by rw[hoN];exact hI3.p.updF (by simp[hI3.p.fl]),fun q h1 h2=>by rw[hoN,Q02 _ (Z3d h2)];exact hI3.old q h1 h2,Qw4⟩;rw[←hoN];refine zM ?_;exact cInv ⟨e.length - (j+1),(j+1,oN),_root_.id,by omega,⟨⟨by omega,by rw[Qxh];exact hpN⟩,rfl⟩,Qzw rfl (by rw[Qxh];(repeat' first|exact Qzq|refine zfc ?_|refine zfo ?_|refine zfp ?_)) zsy zLO rfl rfl Qw4⟩
     ·have he:bi=bo:=by simpa using hq
      have Qxh:Q20 e rt l (j+1) ⟨imp,eff,false⟩=s1:=by rw[hsN3];unfold Q6e;rw[←hbo,if_pos he]
      refine zM ?_;exact cInv ⟨e.length - (j+1),(j+1,o3),_root_.id,by omega,⟨⟨by omega,by rw[Qxh];exact hI3⟩,rfl⟩,Qzw rfl (by rw[Qxh];(repeat' first|exact Qzq|refine zfc ?_|refine zfo ?_|refine zfp ?_)) zsy zLO rfl rfl hov3⟩
 ·have hje:j=e.length:=by simp at hb;omega
  subst hje;refine zA ?_;exact Qst rfl (.refl _) zsy hov ⟨rfl,hI⟩
def LeB (a b:List Bool):Prop:=∀i,a.getD i false=true->b.getD i false=true
theorem LeB.refl(a:List Bool):LeB a a:=fun _ h=>h
theorem LeB.trans{a b c:List Bool}(h:LeB a b)(k:LeB b c):LeB a c:=fun i hi=>k i (h i hi)
theorem Qey{l:List Bool}{b:Bool}:(l.set i b).getD j false=if i=j/\i < l.length then b else l.getD j false:=by
 rw[Z0o,Z0o,List.getElem?_set];by_cases h:i=j
 ·subst h;by_cases h2:i < l.length
  ·simp[h2]
  ·simp[h2]
 ·simp[h]
theorem LeB.set(l:List Bool)(i:Nat):LeB l (l.set i true):=fun j h=>by
 rw[Qey];split
 ·rfl
 ·exact h
theorem Q7m:∀(l:List Bool)(i:Nat),i < l.length->l.getD i false=false->(l.set i true).count false+1=l.count false
 |[],i,h,_=>by simp at h
 |b::l,0,_,h=>by simp at h;subst h;simp
 |b::l,i+1,h,h2=>by have:=Q7m l i (by simpa using h) (by simpa using h2);simp only[List.set_cons_succ,Z05];omega
theorem Q48{x:Ex}{a a':List Bool}(h:LeB a a'){b b':Bool}(hb:b=true->b'=true):∀n,Q2l x a n b=true->Q2l x a' n b'=true
 |0,h0=>hb h0
 |n+1,h0=>by
  rw[Q8x]at h0 ⊢;split
  ·rename_i hc;rw[if_pos hc]at h0;exact Q48 h hb n h0
  ·rename_i hc;rw[if_neg hc]at h0;rw[Qzk]at h0 ⊢;exact h0.imp (Q48 h hb n) (h _)
theorem Qng{l:List FCl}{a a':List Bool}(h:LeB a a')(h0:cnvN cl l a i=true):cnvN cl l a' i=true:=by
 unfold cnvN at h0 ⊢;split
 ·rfl
 ·rename_i h1;rw[if_neg h1]at h0;split
  ·rename_i h2;rw[if_pos h2]at h0;exact h0
  ·rename_i h2;rw[if_neg h2]at h0;exact h _ h0
theorem Qbs{l:List FCl}{s:PSt}(h:LeB s.imp s'.imp){x:Ex}(h0:isEff cl l s i x=true):isEff cl l s' i x=true:=by unfold isEff at h0 ⊢;simp only[Qzk,Qzc]at h0 ⊢;exact h0.imp id fun ⟨h1,h2⟩=>⟨h1,Qng h h2⟩
structure EffI (e:List Ex)(cl:List Nat)(l:List FCl)(s:PSt):Prop where
 il:s.imp.length=e.length+1
 fl:s.eff.length=e.length
 g:∀i x,e[i]?=some x->s.eff.getD i false=true->x.op≠2/\Q2l x s.eff x.kids.length (isEff cl l s i x)=true
def lackB (s:PSt):Nat:=s.imp.count false+s.eff.count false
structure EffS (s s':PSt):Prop where
 i:LeB s.imp s'.imp
 f:LeB s.eff s'.eff
 k:lackB s'<=lackB s
 m:s'.moved=true->s.moved=true∨lackB s' < lackB s
 n:s'.moved=false->s'=s
theorem EffS.refl(s:PSt):EffS s s:=⟨LeB.refl _,LeB.refl _,Z30 _,fun h=>.inl h,fun _=>rfl⟩
theorem EffS.trans{a b c:PSt}(h:EffS a b)(k:EffS b c):EffS a c:=⟨h.i.trans k.i,h.f.trans k.f,Z31 k.k h.k,fun hm=>by
 rcases k.m hm with h1|h1
 ·rcases h.m h1 with h2|h2
  ·exact .inl h2
  ·exact .inr (Nat.lt_of_le_of_lt k.k h2)
 ·exact .inr (Z32 h1 h.k),fun hm=>by
 have h1:=k.n hm;subst h1;exact h.n hm⟩
theorem EffI.grow{l:List FCl}{s:PSt}(h:EffI e cl l s)(hi:LeB s.imp s'.imp)(hf:LeB s.eff s'.eff){x:Ex}(hx:e[i]?=some x)(h0:s.eff.getD i false=true):x.op≠2/\Q2l x s'.eff x.kids.length (isEff cl l s' i x)=true:=by obtain⟨h1,h2⟩:=h.g i x hx h0;exact⟨h1,Q48 hf (Qbs hi) _ h2⟩
theorem Qk2{l:List FCl}{s:PSt}(h:EffI e cl l s){x:Ex}(hx:e[i]?=some x)(hcl:cl.getD i 0 < e.length+1):EffI e cl l (Q6s e cl l s i)/\EffS s (Q6s e cl l s i):=by
 have hi:=(Z0v.1 hx).1;unfold Q6s;rw[Q0b hx];by_cases h2:x.op=2
 ·simp only[if_pos h2];have he:s.eff.getD i false=false:=by
   cases hb:s.eff.getD i false with
   |false=>rfl
   |true=>exact absurd h2 (h.g i x hx hb).1
  have hset:Q6e (Q8w cl s i x) i false=Q8w cl s i x:=by
   unfold Q6e;rw[if_pos];unfold Q8w;split
   ·exact he.symm
   ·exact he.symm
  rw[hset];unfold Q8w;split
  ·rename_i hc;have hs:LeB s.imp (s.imp.set (rtOf cl i) true):=LeB.set _ _;refine⟨⟨by simp[h.il],h.fl,fun j z hz h0=>h.grow (s':=⟨s.imp.set (rtOf cl i) true,s.eff,true⟩) hs (LeB.refl _) hz h0⟩,hs,LeB.refl _,?_,fun _=>.inr ?_,fun hm=>by cases hm⟩
   ·have:=Q7m s.imp (rtOf cl i) (by rw[h.il];exact hcl) hc.2;unfold lackB;simp only;omega
   ·have:=Q7m s.imp (rtOf cl i) (by rw[h.il];exact hcl) hc.2;unfold lackB;simp only;omega
  ·exact⟨h,EffS.refl s⟩
 ·simp only[if_neg h2];unfold Q6e;split
  ·exact⟨h,EffS.refl s⟩
  ·rename_i hne;have he:s.eff.getD i false=false:=by
    cases hb:s.eff.getD i false with
    |false=>rfl
    |true=>rw[hb]at hne;exact absurd (h.g i x hx hb).2 hne
   have hk:Q2l x s.eff x.kids.length (isEff cl l s i x)=true:=by
    rw[he]at hne;cases hb:Q2l x s.eff x.kids.length (isEff cl l s i x) with
    |true=>rfl
    |false=>exact absurd hb hne
   rw[hk];have hs:LeB s.eff (s.eff.set i true):=LeB.set _ _;have hc:=Q7m s.eff i (by rw[h.fl];exact hi) he;refine⟨⟨h.il,by simp[h.fl],fun j z hz h0=>?_⟩,LeB.refl _,hs,by unfold lackB;simp only;omega,fun _=>.inr (by unfold lackB;simp only;omega),fun hm=>by cases hm⟩;simp only at h0;rw[Qey]at h0;by_cases hij:i=j
   ·subst hij;rw[hx]at hz;cases hz;exact⟨h2,Q48 hs (Qbs (s':=⟨s.imp,s.eff.set i true,true⟩) (LeB.refl _)) _ hk⟩
   ·rw[if_neg (fun hh=>hij hh.1)]at h0;exact h.grow (s':=⟨s.imp,s.eff.set i true,true⟩) (LeB.refl _) hs hz h0
theorem Qc3{e:List Ex}{cl:List Nat}{l:List FCl}{s:PSt}(h:EffI e cl l s)(hcl:∀i,i < e.length->cl.getD i 0 < e.length+1):∀n,n<=e.length->EffI e cl l (Q20 e cl l n s)/\EffS s (Q20 e cl l n s)
 |0,_=>⟨h,EffS.refl s⟩
 |n+1,hn=>by obtain⟨h1,h2⟩:=Qc3 h hcl n zoy;obtain⟨x,hx⟩:=Q00 (show n < e.length by omega);rw[Q8z];obtain⟨h3,h4⟩:=Qk2 h1 hx (hcl n zoy);exact⟨h3,h2.trans h4⟩
theorem Qnc{l:List FCl}{s:PSt}(h:EffI e cl l s)(hcl:∀i,i < e.length->cl.getD i 0 < e.length+1):EffI e cl l (Qap e cl l s)/\LeB s.imp (Qap e cl l s).imp/\LeB s.eff (Qap e cl l s).eff/\lackB (Qap e cl l s)<=lackB s/\((Qap e cl l s).moved=true->lackB (Qap e cl l s) < lackB s):=by
 have h0:EffI e cl l ⟨s.imp,s.eff,false⟩:=⟨h.il,h.fl,h.g⟩;obtain⟨h1,h2⟩:=Qc3 h0 hcl e.length (Z30 _);refine⟨h1,h2.i,h2.f,h2.k,fun hm=>?_⟩;rcases h2.m hm with h3|h3
 ·cases h3
 ·exact h3
theorem eff0_ok(e:List Ex)(cl:List Nat)(l:List FCl):EffI e cl l (eff0 e cl):=⟨by simp[eff0],by simp[eff0],fun i x hx h0=>by simp only[eff0,Z0o,Z0x]at h0;split at h0 <;> simp at h0⟩
theorem Qnb{e:List Ex}{cl:List Nat}{l:List FCl}(hcl:∀i,i < e.length->cl.getD i 0 < e.length+1):∀n,EffI e cl l (effN e cl l n)/\((effN e cl l n).moved=true->n+lackB (effN e cl l n)<=lackB (eff0 e cl))
 |0=>⟨eff0_ok e cl l,fun _=>by simp[effN]⟩
 |n+1=>by
  obtain⟨h1,h2⟩:=Qnb hcl n;simp only[effN];by_cases hm:(effN e cl l n).moved=true
  ·rw[if_pos hm];obtain⟨g1,_,_,g2,g3⟩:=Qnc h1 hcl;exact⟨g1,fun h=>by have:=h2 hm;have:=g3 h;omega⟩
  ·rw[if_neg hm];exact⟨h1,fun h=>absurd h hm⟩
theorem lack0(e:List Ex)(cl:List Nat):lackB (eff0 e cl)<=2 * e.length+1:=by have h1:∀l:List Bool,l.count false<=l.length:=fun l=>List.count_le_length;unfold lackB;have:=h1 (eff0 e cl).imp;have:=h1 (eff0 e cl).eff;simp[eff0]at *;omega
theorem Qna{l:List FCl}{n:Nat}(h:(effN e cl l n).moved=false):∀m,n<=m->effN e cl l m=effN e cl l n:=by
 intro m hm;obtain⟨k,rfl⟩:∃k,m=n+k:=⟨m - n,by omega⟩;clear hm
 induction k with
 |zero=>rfl
 |succ k ih=>
  show effN e cl l (n+k+1)=_;rw[effN,ih,if_neg (by rw[h];simp)]
def pl0 (e:List Ex)(a b c:Nat):List AC:=[.sl 5 (e.map cEx),.mp (.l a),.lit (.slice none 0 0),int (e.map cEx).length,.lit (.slice none 0 0),.arr (.l c) 1 0 (e.length+1) (e.length+1),.arr (.l b) 1 0 e.length e.length]
def fPl (e:List Ex)(k1 k6 k10:Option Nat)(b:Bool)(k12:Option Nat):Nat->Option FV:=fun i=>match i with
 |1=>k1.map fun k=>.one (.mp (.l k))
 |6=>k6.map fun k=>.one (.arr (.l k) 1 0 e.length e.length)
 |10=>k10.map fun k=>.one (.arr (.l k) 1 0 (e.length+1) (e.length+1))
 |11=>match b,k1,k6,k10 with
  |true,some x,some y,some z=>some (.agg (pl0 e x y z))
  |_,_,_,_=>none
 |12=>k12.map fun k=>.one (.ptr (.l k) 0)
 |_=>none
structure PlM (e:List Ex)(ou:Outer)(k1 k6 k10:Option Nat)(b:Bool)(k12:Option Nat)(σ:St):Prop where
 ou:σ.ou=ou
 h1:∀k,k1=some k->k < σ.n/\σ.get (.l k)=some (.map 0 [])
 h6:∀k,k6=some k->k < σ.n/\σ.get (.l k)=some (.cells (List.replicate e.length (bA false)))
 h10:∀k,k10=some k->k < σ.n/\σ.get (.l k)=some (.cells (List.replicate (e.length+1) (bA false)))
 hb:b=true->∃x y z,k1=some x/\k6=some y/\k10=some z
 h12:∀k,k12=some k->b=true/\k < σ.n/\∀x y z,k1=some x->k6=some y->k10=some z->σ.get (.l k)=some (.cells (pl0 e x y z))
theorem Q9b{o:AObj}{p:AObj}(h:k < σ.n/\σ.get (.l k)=some p):k < (σ.push o).n/\(σ.push o).get (.l k)=some p:=by refine⟨by show k < σ.n+1;omega,?_⟩;rw[Z3u,if_neg (by intro e;cases e;omega)];exact h.2
theorem Q76(σ:St)(o:AObj):σ.n < (σ.push o).n/\(σ.push o).get (.l σ.n)=some o:=⟨by show σ.n < σ.n+1;omega,by rw[Z3u,if_pos rfl]⟩
section
variable {e:List Ex}{ou:Outer}{k1 k6 k10 k12:Option Nat}{b:Bool}{σ:St}
theorem PlM.pushed(h:PlM e ou k1 k6 k10 b k12 σ)(o:AObj):PlM e ou k1 k6 k10 b k12 (σ.push o):=
 ⟨h.ou,fun k e=>Q9b (h.h1 k e),fun k e=>Q9b (h.h6 k e),fun k e=>Q9b (h.h10 k e),h.hb,fun k e=>by obtain⟨a,b,c⟩:=h.h12 k e;exact⟨a,Nat.lt_succ_of_lt b,fun x y z h1 h2 h3=>(Q9b ⟨b,c x y z h1 h2 h3⟩).2⟩⟩
theorem PlM.p1(h:PlM e ou none k6 k10 b k12 σ):b=false/\k12=none/\PlM e ou (some σ.n) k6 k10 false none (σ.push (.map 0 [])):=by
 have hb:b=false:=by
  cases hbb:b with
  |false=>rfl
  |true=>obtain⟨x,_,_,h1,_⟩:=h.hb hbb;cases h1
 have h12:k12=none:=by
  cases hk:k12 with
  |none=>rfl
  |some k=>have:=(h.h12 k hk).1;rw[hb]at this;cases this
 have hp:=h.pushed (.map 0 []);exact⟨hb,h12,h.ou,fun k e=>by cases e;exact Q76 _ _,hp.h6,hp.h10,fun h=>(by cases h),fun k h=>(by cases h)⟩
theorem PlM.p6(h:PlM e ou k1 none k10 b k12 σ):b=false/\k12=none/\PlM e ou k1 (some σ.n) k10 false none (σ.push (.cells (List.replicate e.length (bA false)))):=by
 have hb:b=false:=by
  cases hbb:b with
  |false=>rfl
  |true=>obtain⟨x,_,_,_,h1,_⟩:=h.hb hbb;cases h1
 have h12:k12=none:=by
  cases hk:k12 with
  |none=>rfl
  |some k=>have:=(h.h12 k hk).1;rw[hb]at this;cases this
 have hp:=h.pushed (.cells (List.replicate e.length (bA false)));exact⟨hb,h12,h.ou,hp.h1,fun k e=>by cases e;exact Q76 _ _,hp.h10,fun h=>(by cases h),fun k h=>(by cases h)⟩
theorem PlM.p10(h:PlM e ou k1 k6 none b k12 σ):b=false/\k12=none/\PlM e ou k1 k6 (some σ.n) false none (σ.push (.cells (List.replicate (e.length+1) (bA false)))):=by
 have hb:b=false:=by
  cases hbb:b with
  |false=>rfl
  |true=>obtain⟨x,_,_,_,_,h1⟩:=h.hb hbb;cases h1
 have h12:k12=none:=by
  cases hk:k12 with
  |none=>rfl
  |some k=>have:=(h.h12 k hk).1;rw[hb]at this;cases this
 have hp:=h.pushed (.cells (List.replicate (e.length+1) (bA false)));exact⟨hb,h12,h.ou,hp.h1,hp.h6,fun k e=>by cases e;exact Q76 _ _,fun h=>(by cases h),fun k h=>(by cases h)⟩
end
theorem fPl0(e:List Ex):(fun _=>none)=fPl e none none none false none:=by
 funext i
 match i with
 |0=>rfl
 |1=>rfl
 |2=>rfl
 |3=>rfl
 |4=>rfl
 |5=>rfl
 |6=>rfl
 |7=>rfl
 |8=>rfl
 |9=>rfl
 |10=>rfl
 |11=>rfl
 |12=>rfl
 |n+13=>rfl
theorem fPl1(e:List Ex)(k:Nat)(k6 k10:Option Nat):updV (fPl e none k6 k10 false none) 1 (.one (.mp (.l k)))=fPl e (some k) k6 k10 false none:=by
 funext i
 match i with
 |0=>rfl
 |1=>rfl
 |2=>rfl
 |3=>rfl
 |4=>rfl
 |5=>rfl
 |6=>rfl
 |7=>rfl
 |8=>rfl
 |9=>rfl
 |10=>rfl
 |11=>rfl
 |12=>rfl
 |n+13=>rfl
theorem fPl6(e:List Ex)(k:Nat)(k1 k10:Option Nat):updV (fPl e k1 none k10 false none) 6 (.one (.arr (.l k) 1 0 e.length e.length))=fPl e k1 (some k) k10 false none:=by
 funext i
 match i with
 |0=>rfl
 |1=>rfl
 |2=>rfl
 |3=>rfl
 |4=>rfl
 |5=>rfl
 |6=>rfl
 |7=>rfl
 |8=>rfl
 |9=>rfl
 |10=>rfl
 |11=>rfl
 |12=>rfl
 |n+13=>rfl
theorem fPl10(e:List Ex)(k:Nat)(k1 k6:Option Nat):updV (fPl e k1 k6 none false none) 10 (.one (.arr (.l k) 1 0 (e.length+1) (e.length+1)))=fPl e k1 k6 (some k) false none:=by
 funext i
 match i with
 |0=>rfl
 |1=>rfl
 |2=>rfl
 |3=>rfl
 |4=>rfl
 |5=>rfl
 |6=>rfl
 |7=>rfl
 |8=>rfl
 |9=>rfl
 |10=>rfl
 |11=>rfl
 |12=>rfl
 |n+13=>rfl
theorem fPl11(e:List Ex)(x y z:Nat)(k12:Option Nat):updV (fPl e (some x) (some y) (some z) false k12) 11 (.agg (pl0 e x y z))=fPl e (some x) (some y) (some z) true k12:=by
 funext i
 match i with
 |0=>rfl
 |1=>rfl
 |2=>rfl
 |3=>rfl
 |4=>rfl
 |5=>rfl
 |6=>rfl
 |7=>rfl
 |8=>rfl
 |9=>rfl
 |10=>rfl
 |11=>rfl
 |12=>rfl
 |n+13=>rfl
theorem fPl12(e:List Ex)(x y z:Nat)(k:Nat):updV (fPl e (some x) (some y) (some z) true none) 12 (.one (.ptr (.l k) 0))=fPl e (some x) (some y) (some z) true (some k):=by
 funext i
 match i with
 |0=>rfl
 |1=>rfl
 |2=>rfl
 |3=>rfl
 |4=>rfl
 |5=>rfl
 |6=>rfl
 |7=>rfl
 |8=>rfl
 |9=>rfl
 |10=>rfl
 |11=>rfl
 |12=>rfl
 |n+13=>rfl
def plV (e:List Ex):List FV:=[.one (.sl 5 (e.map cEx)),.bot,.one (.sl 5 (e.map cEx)),.one (int (e.map cEx).length),.one (.sl 5 (e.map cEx)),.one (int (e.map cEx).length),.bot,.one (.sl 5 (e.map cEx)),.one (int (e.map cEx).length),.one (int ((e.length:Nat)+1:Nat)),.bot,.bot,.bot]
def nL (n:Nat):List (List AC):=(List.range n).map fun i=>[int (i:Nat)]
theorem nL_succ(n:Nat):nL (n+1)=nL n++[[int (n:Nat)]]:=by simp[nL,Z2a]
theorem Qhx(n:Nat):(nL n).length=n:=by simp[nL]
theorem nL_one(n:Nat):∀x∈nL n,x.length=1:=by intro x hx;obtain⟨i,_,rfl⟩:=Z1w.1 hx;rfl
@[simp] theorem ids_nL (p:Abs.Id->Prop) (n:Nat):idsS p (nL n):=Q2a (f:=fun i:Nat=>[int (i:Nat)]) (fun i=>by simp[AC.ids]) _
def plG (e:List Ex)(kc ki kf:Nat)(c:AC):List AC:=[.sl 5 (e.map cEx),.mp (.o kc),c,int (e.length:Nat),.lit (.slice none 0 0),.arr (.o ki) 1 0 (e.length+1) (e.length+1),.arr (.o kf) 1 0 e.length e.length]
structure PlJ (e:List Ex)(ou:Outer)(k j:Nat)(oc:Option (Nat×Nat))(ov:Outer):Prop where
 p:ov (k+3)=some (.cells (plG e k (k+2) (k+1) (gC 1 (nL j) oc)))
 c:ov k=some (.map 0 [])
 f:ov (k+1)=some (.cells (List.replicate e.length (bA false)))
 i:ov (k+2)=some (.cells (List.replicate (e.length+1) (bA false)))
 go:GO 1 (nL j) oc ov
 old:∀q,ou q≠none->ov q=ou q
 ok:OuOk ov
 new:∀q∈gK oc,ou q=none/\k+4<=q
 nk:∀m,k<=m->ou m=none
theorem PlJ.step{e:List Ex}{ou:Outer}{k j:Nat}{oc:Option (Nat×Nat)}{ov:Outer}(h:PlJ e ou k j oc ov){o3 oN:Outer}{kn cap:Nat}(hok:OuOk o3)(hb3:∀q,q∉gK oc->o3 q=ov q)(hkn:∀m,kn<=m->o3 m=none)(hcap:(nL (j+1)).length<=cap)
  (hN:oN=updO (ouAdd o3 kn [.cells (vec 1 (nL (j+1)) cap)]) (k+3) (.cells (plG e k (k+2) (k+1) (gC 1 (nL (j+1)) (some (kn,cap)))))):PlJ e ou k (j+1) (some (kn,cap)) oN:=by
 obtain⟨g1,g2⟩:=GO.new (s:=1) (es:=nL (j+1)) hkn hcap;have hnk:∀q,q < k+4->q∉gK oc:=fun q hq hm=>by have:=(h.new q hm).2;omega
 have h3:∀q o,ov q=some o->q < k+4->ouAdd o3 kn [.cells (vec 1 (nL (j+1)) cap)] q=some o:=fun q o ho hq=>g2 q o (by rw[hb3 q (hnk q hq)];exact ho);have hlt:k+3 < kn:=by
  have h1:o3 (k+3)=some (.cells (plG e k (k+2) (k+1) (gC 1 (nL j) oc))):=by rw[hb3 _ (hnk _ zoy)];exact h.p
  exact Q4u hkn h1
 have Qwd:(AObj.cells (vec 1 (nL (j+1)) cap)).ids isO:=Q29 _ zsy;subst hN;refine⟨Q04 _ _ _,?_,?_,?_,g1.keep fun q hq=>Q02 _ (by simp[gK]at hq;omega) _,fun q hq=>?_,Q0m (Q1y (p:=fun o=>o.ids isO) hok Qwd) (by simp[plG,AC.ids,isO]),fun q hq=>?_,h.nk⟩
 ·rw[Q02 _ zoy];exact h3 _ _ h.c zoy
 ·rw[Q02 _ zoy];exact h3 _ _ h.f zoy
 ·rw[Q02 _ zoy];exact h3 _ _ h.i zoy
 ·have hqk:q < k:=by
   rcases Z33 q k with h1|h1
   ·exact h1
   ·exact absurd (h.nk q h1) hq
  rw[Q02 _ zoy];have h1:=h.old q hq;cases ho:ou q with
  |none=>exact absurd ho hq
  |some o=>exact h3 q o (by rw[h1];exact ho) zoy
 ·simp[gK]at hq;subst hq;exact⟨h.nk _ zoy,by omega⟩
theorem PlJ.done{kn:Nat}(hel:e.length<=1048576)(h:PlJ e ou k (e.length+1) (some (kn,cap)) ov):PlanO e [] ⟨k+3,k,kn,k+2,k+1,cap⟩ (List.range (e.length+1)) (List.replicate (e.length+1) false) (List.replicate e.length false) ov:=by
 obtain⟨h1,h2⟩:=h.go.ob kn cap rfl;have hnk:=(h.new kn (by simp[gK])).2;rw[Qhx]at h2;refine⟨?_,⟨0,[],h.c,IMOk.nil⟩,⟨_,Qv3 _,?_⟩,?_,?_,by simp,by simp,by simp,hel,?_⟩
 ·have:=h.p;unfold plG gC at this;rw[Qhx]at this;exact this
 ·rw[h1];unfold vec clsC nL;have hfl:∀l:List Nat,(l.map fun i:Nat=>[int (i:Nat)]).flatten=l.map nA:=by
   intro l
   induction l with
   |nil=>rfl
   |cons a l ih=>simp only[Z1g,Z0j,ih];rfl
  rw[hfl];simp
 ·rw[h.i,List.map_replicate]
 ·rw[h.f,List.map_replicate]
 ·simp only[Z27,Z1p,Z28,or_false,not_or,List.nodup_nil,and_true,not_false_eq_true];omega
theorem PlanO.updC{l:List FCl}{y:PLay}(h:PlanO e l y rt imp eff ou){l':List FCl}{m:List (Nat×Int×FCl)}(hm:IMOk (Q44 l') ck m):PlanO e l' y rt imp eff (updO ou y.kc (.map ck (encI eFl m))):=by obtain⟨⟨a1,a2,a3,a4⟩,⟨b1,b2,b3⟩,⟨c1,c2⟩,d⟩:=h.ne;obtain⟨cl,hu,hcl⟩:=h.l;exact⟨by rw[Q02 _ (Z3d a1)];exact h.p,⟨ck,m,Q04 _ _ _,hm⟩,⟨cl,hu,by rw[Q02 _ b1];exact hcl⟩,by rw[Q02 _ b2];exact h.i,by rw[Q02 _ b3];exact h.f,h.rl,h.il,h.fl,h.el,h.nd⟩
theorem Qfe(l:List FCl)(c:FCl):Q44 (l++[c])=setF (Q44 l) (c.1:Int) c:=by unfold Q44;rw[Z0k];rfl
theorem Qn3(e:List Ex):FnsIn e (Q1k e):=fun c hc f hf=>by
 unfold Q1k at hc;obtain⟨i,hi,hc⟩:=Z1u.1 hc;split at hc
 ·simp only[Z1p,Z28,or_false]at hc;subst hc;unfold Q5r at hf;simp only[Z1s]at hf;obtain⟨h1,h2⟩:=hf;obtain⟨h3,h4⟩:=Q5e (e:=e) (Q37 e) (lackR (refsOf e) (Q1i e)+1);have hb:=(Qf4 (h3 _).2 h1).2;rcases h4 _ f hb with h5|⟨y,h5,_⟩
  ·simp[h5]at h2
  ·exact (Z0v.1 h5).1
 ·cases hc
theorem Qol(σ:St)(k:Nat)(o:AObj):σ.set (.o k) o=⟨σ.n,σ.lo,updO σ.ou k o⟩:=by cases σ;exact Q0n _ _ _ _ _
structure AnI (e:List Ex)(l:List FCl)(y:PLay)(rt:List Nat)(ou ov:Outer):Prop where
 p:PlanO e l y rt (List.replicate (e.length+1) false) (List.replicate e.length false) ov
 old:∀q,ou q≠none->ov q=ou q
 ok:OuOk ov
theorem Qkg(hΓ:GI Γ)(hsub:∀g cs,(g,cs)∈Γt->(g,cs)∈Γ)(he:okB e)(hc0:check e=0)(hE:FE e)(ou:Outer):
  AFn Tryz.prog Γ 34 [.one (.sl 5 (e.map cEx))] ou (fun r ou'=>∃y:PLay,r=.one (.ptr (.o y.kp) 0)/\PlanO e (Q1k e) y (Q93 e.length (Q1k e)) (effN e (Q93 e.length (Q1k e)) (Q1k e) (2 * e.length+3)).imp (effN e (Q93 e.length (Q1k e)) (Q1k e) (2 * e.length+3)).eff ou'/\(∀q,ou q≠none->ou' q=ou q)/\OuOk ou'/\∀q∈[y.kp,y.kc,y.kl,y.ki,y.kf],ou q=none):=by
 have hel:=hE.l;refine zwk 98 Tryz.func34 fun hou=>?_;iterate 6 (refine zO ?_)
 refine Qs5 hΓ (α:=Unit) (fun _=>[(3,.one (.ptr (.l 3) 0)),(0,.one (.sl 5 (e.map cEx)))]) (fun _=>⟨4,[(3,.cells (pl0 e 0 1 2)),(2,.cells (List.replicate (e.length+1) (bA false))),(1,.cells (List.replicate e.length (bA false))),(0,.map 0 [])],ou⟩) (fun _=>True) ?_ fun _ _=>?_
 ·refine Qso 13 [1,6,10,11,12] (plV e) (fun f σ=>∃k1 k6 k10 b k12,f=fPl e k1 k6 k10 b k12/\PlM e ou k1 k6 k10 b k12 σ)
   follows zky rfl rfl ⟨none,none,none,false,none,fPl0 e,rfl,zsy,zsy,zsy,zsy,zsy⟩ ?_ ?_ ?_ ?_
  ·rintro f σ ⟨k1,k6,k10,b,k12,rfl,_⟩ i hi
   match i with
   |1|6|10|11|12=>cases hi
   |0|2|3|4|5|7|8|9=>rfl
   |n+13=>rfl
  ·intro i o hi hS hlo
   match i,hi with
   |0,_|2,_|3,_|4,_|5,_|7,_|8,_=>cases hlo;exact⟨_,rfl,rfl,rfl,by kernel_rfl,fun f σ _=>Qzr tabOk rfl⟩
   |9,_=>cases hlo;exact⟨_,rfl,rfl,rfl,by kernel_rfl,fun f σ _=>Qzs rfl (Qr0 (r:=((e.length:Nat)+1:Nat)) rfl rfl rfl (.inl ⟨rfl,by simp⟩) zI)⟩
   |1,_|6,_|10,_|11,_|12,_=>cases hS
  ·rintro f σ i o ⟨k1,k6,k10,b,k12,rfl,hM⟩ hS hlo hfi Qvw;have hi:i=1∨i=6∨i=10∨i=11∨i=12:=by simp only[List.any_cons,List.any_nil,Bool.or_false,Qzk]at hS;rcases hS with h|h|h|h|h <;> have:=Z2v h <;> omega
   rcases hi with rfl|rfl|rfl|rfl|rfl <;> cases hlo
   ·cases k1 with
    |some k=>cases hfi
    |none=>
     obtain⟨rfl,rfl,hp⟩:=hM.p1;exact⟨rfl,rfl,_,_,Qzs rfl (AStep.makeMap rfl),_,_,_,_,_,fPl1 e _ _ _,hp⟩
   ·cases k6 with
    |some k=>cases hfi
    |none=>
     obtain⟨rfl,rfl,hp⟩:=hM.p6;have hz:List.replicate e.length (AC.lit (.bool false))=List.replicate e.length (bA false):=rfl;have hln:(e.map cEx).length=e.length:=by simp
     refine⟨rfl,rfl,_,_,Qzs rfl (Qsa (n:=e.length) tabOk rfl rfl rfl rfl rfl rfl (by show some (FV.one (int ((e.map cEx).length:Nat)))=some (FV.one (int (e.length:Nat)));rw[Z16]) (by show some (FV.one (int ((e.map cEx).length:Nat)))=some (FV.one (int (e.length:Nat)));rw[Z16]) (by show 1 * e.length<=_;omega) zoy),_,_,_,_,_,fPl6 e _ _ _,hp⟩
   ·cases k10 with
    |some k=>cases hfi
    |none=>
     obtain⟨rfl,rfl,hp⟩:=hM.p10;refine⟨rfl,rfl,_,_,Qzs rfl (Qsa (n:=e.length+1) tabOk rfl rfl rfl rfl rfl rfl rfl rfl (by show 1 * (e.length+1)<=_;omega) zoy),_,_,_,_,_,fPl10 e _ _ _,hp⟩
   ·have h1:=Qvw ⟨1,.data⟩ zsy rfl rfl;have h6:=Qvw ⟨6,.data⟩ zsy rfl rfl;have h10:=Qvw ⟨10,.data⟩ zsy rfl rfl;cases k1 with
    |none=>cases h1
    |some x=>
    cases k6 with
    |none=>cases h6
    |some y=>
    cases k10 with
    |none=>cases h10
    |some z=>
    cases b with
    |true=>cases hfi
    |false=>
     have h12:k12=none:=by
      cases hk:k12 with
      |none=>rfl
      |some k=>have:=(hM.h12 k hk).1;cases this
     subst h12;exact⟨rfl,rfl,_,_,Qzr tabOk rfl,_,_,_,_,_,fPl11 e _ _ _ _,hM.ou,hM.h1,hM.h6,hM.h10,fun _=>⟨x,y,z,rfl,rfl,rfl⟩,fun k h=>(by cases h)⟩
   ·have h11:=Qvw ⟨11,.data⟩ zsy rfl rfl;cases b with
    |false=>cases h11
    |true=>
     obtain⟨x,y,z,rfl,rfl,rfl⟩:=hM.hb rfl;cases k12 with
     |some k=>cases hfi
     |none=>
      have hp:=hM.pushed (.cells (pl0 e x y z));exact⟨rfl,rfl,_,_,Qzr tabOk rfl,_,_,_,_,_,fPl12 e _ _ _ _,hM.ou,hp.h1,hp.h6,hp.h10,fun _=>⟨x,y,z,rfl,rfl,rfl⟩,fun k h=>(by cases h;exact⟨rfl,(Q76 _ _).1,fun x y z h1 h2 h3=>(by cases h1;cases h2;cases h3;exact (Q76 _ _).2)⟩)⟩
  ·rintro f σ ⟨k1,k6,k10,b,k12,rfl,hM⟩ hall;have h12:=hall 12 zsy zoy;cases k12 with
   |none=>cases h12
   |some w=>
   obtain⟨rfl,hw,hwo⟩:=hM.h12 w rfl;obtain⟨x,y,z,rfl,rfl,rfl⟩:=hM.hb rfl;have hw2:=hwo x y z rfl rfl rfl;obtain⟨hx1,hx2⟩:=hM.h1 x rfl;obtain⟨hy1,hy2⟩:=hM.h6 y rfl;obtain⟨hz1,hz2⟩:=hM.h10 z rfl;refine zA ?_;have hxy:x≠y:=fun h=>by subst h;rw[hx2]at hy2;cases hy2
   have hxz:x≠z:=fun h=>by subst h;rw[hx2]at hz2;cases hz2
   have hxw:x≠w:=fun h=>by subst h;rw[hx2]at hw2;cases hw2
   have hyz:y≠z:=fun h=>by subst h;rw[hy2]at hz2;have:=congrArg List.length (AObj.cells.inj (Z3n hz2));simp at this
   have Qx4:∀n,List.replicate n (bA false)≠pl0 e x y z:=fun n h=>by
    cases n with
    |zero=>cases h
    |succ n=>rw[Z2b]at h;cases h
   have hyw:y≠w:=fun h=>by subst h;rw[hy2]at hw2;exact Qx4 _ (AObj.cells.inj (Z3n hw2))
   have hzw:z≠w:=fun h=>by subst h;rw[hz2]at hw2;exact Qx4 _ (AObj.cells.inj (Z3n hw2))
   have Qw1:∀(ρ:Nat->Nat) n,(AObj.cells (List.replicate n (bA false))).ren ρ=.cells (List.replicate n (bA false)):=fun ρ n=>Qyr _ _ (Q2b.2 fun c hc=>by rw[(Z22.1 hc).2];simp);have hsl:∀ρ:Nat->Nat,(AC.sl 5 (e.map cEx)).ren ρ=.sl 5 (e.map cEx):=fun ρ=>AC.ren_pure _ _ zsy;have hren:(AObj.cells (pl0 e 0 1 2)).ren (fun i=>match i with|0=>x|1=>y|2=>z|_=>w)=.cells (pl0 e x y z):=by unfold pl0;simp only[AObj.ren,renL,hsl];rfl
   refine cInv ⟨(),fun i=>match i with|0=>x|1=>y|2=>z|_=>w,trivial,?_⟩;refine⟨fun k hk=>?_,FrSub.get zFS,zsy,fun k o h=>?_,fun k k' o o' h h' hr=>?_,hM.ou.symm,hM.ou▸hou⟩
   ·match k,hk with
    |0,_=>exact hx1
    |1,_=>exact hy1
    |2,_=>exact hz1
    |3,_=>exact hw
   ·match k with
    |0=>cases h;exact⟨hx2,by show 0 < 4;omega,by simp⟩
    |1=>cases h;exact⟨hy2.trans (by rw[Qw1]),by show 1 < 4;omega,Q2b.2 fun c hc=>by rw[(Z22.1 hc).2];simp⟩
    |2=>cases h;exact⟨hz2.trans (by rw[Qw1]),by show 2 < 4;omega,Q2b.2 fun c hc=>by rw[(Z22.1 hc).2];simp⟩
    |3=>cases h;exact⟨hw2.trans (by rw[hren]),by show 3 < 4;omega,by simp[pl0,AC.ids,inL]⟩
    |n+4=>cases h
   ·match k,k' with
    |0,0|1,1|2,2|3,3=>rfl
    |0,1=>exact absurd hr hxy
    |0,2=>exact absurd hr hxz
    |0,3=>exact absurd hr hxw
    |1,0=>exact absurd hr.symm hxy
    |1,2=>exact absurd hr hyz
    |1,3=>exact absurd hr hyw
    |2,0=>exact absurd hr.symm hxz
    |2,1=>exact absurd hr.symm hyz
    |2,3=>exact absurd hr hzw
    |3,0=>exact absurd hr.symm hxw
    |3,1=>exact absurd hr.symm hyw
    |3,2=>exact absurd hr.symm hzw
    |n+4,_=>cases h
    |0,n+4|1,n+4|2,n+4|3,n+4=>cases h'
 ·iterate 3 (refine zO ?_)
  refine Qyw [0,1,2,3] rfl zdy hou fun k hk=>⟨[(3,.one (.ptr (.o (k+3)) 0)),(0,.one (.sl 5 (e.map cEx)))],[],[.map 0 [],.cells (List.replicate e.length (bA false)),.cells (List.replicate (e.length+1) (bA false)),.cells (plG e k (k+2) (k+1) (gC 1 (nL 0) none))],.cons rfl rfl (.keepO rfl zsy .nil),.nil,.cons rfl rfl (.cons rfl ?_ (.cons rfl ?_ (.cons rfl ?_ .nil))),?_⟩
  ·exact Qys (fun i hi=>by cases i with|l q=>exact hi.elim|o q=>rfl) _ (Q2b.2 fun c hc=>by rw[(Z22.1 hc).2];simp)
  ·exact Qys (fun i hi=>by cases i with|l q=>exact hi.elim|o q=>rfl) _ (Q2b.2 fun c hc=>by rw[(Z22.1 hc).2];simp)
  ·have hsl:(AC.sl 5 (e.map cEx)).sub (toOs [0,1,2,3] k)=.sl 5 (e.map cEx):=AC.sub_f (fun i hi=>by cases i with|l q=>exact hi.elim|o q=>rfl) _ zsy;unfold pl0 plG;simp only[AObj.sub,subL,hsl,Z16];rfl
  have hk':∀m,k<=m->ou m=none:=hk;have hz:∀n,idsL isO (List.replicate n (bA false)):=fun n=>Q2b.2 fun c hc=>by rw[(Z22.1 hc).2];simp
  have hJ0:PlJ e ou k 0 none (ouAdd ou k [.map 0 [],.cells (List.replicate e.length (bA false)),.cells (List.replicate (e.length+1) (bA false)),.cells (plG e k (k+2) (k+1) (gC 1 (nL 0) none))]):=by
   refine⟨?_,?_,?_,?_,⟨fun _=>rfl,fun kn cap h=>by cases h⟩,fun q hq=>?_,Q64 hou ?_,fun q hq=>by simp[gK]at hq,hk'⟩
   ·exact Q0o 3
   ·exact Q0o 0
   ·exact Q0o 1
   ·exact Q0o 2
   ·rcases Z33 q k with h|h
    ·exact Q14 h
    ·exact absurd (hk' q h) hq
   ·intro o ho;simp only[Z1p,Z28,or_false]at ho;rcases ho with rfl|rfl|rfl|rfl
    ·intro x hx;cases hx
    ·exact hz _
    ·exact hz _
    ·simp[plG,AC.ids,isO]
  show AOps _ _ _ _ _ ⟨_,[],ouAdd ou k [.map 0 [],.cells (List.replicate e.length (bA false)),.cells (List.replicate (e.length+1) (bA false)),.cells (plG e k (k+2) (k+1) (gC 1 (nL 0) none))]⟩;obtain⟨o0,ho0⟩:∃o0,o0=ouAdd ou k [.map 0 [],.cells (List.replicate e.length (bA false)),.cells (List.replicate (e.length+1) (bA false)),.cells (plG e k (k+2) (k+1) (gC 1 (nL 0) none))]:=⟨_,rfl⟩;rw[←ho0]at hJ0 ⊢;clear ho0;refine zA ?_;refine zS (Qr0 (r:=((e.length+1:Nat):Int)) rfl rfl rfl (.inl ⟨rfl,by simp⟩) zI) ?_;refine zA ?_;refine Qre hΓ (α:=Nat×Option (Nat×Nat)×Outer) (fun c=>[(27,.one (int (c.1:Nat))),(26,.one (int ((e.length+1:Nat):Int))),(3,.one (.ptr (.o (k+3)) 0)),(0,.one (.sl 5 (e.map cEx)))]) (fun c=>⟨0,[],c.2.2⟩)
   (fun m c=>(c.1<=e.length+1/\PlJ e ou k c.1 c.2.1 c.2.2)/\m=e.length+1 - c.1) (a0:=(0,none,o0)) (ρ:=_root_.id) ⟨⟨by omega,hJ0⟩,rfl⟩
   (Qzw rfl zFS (by simp[AC.ids,inL]) zLO rfl rfl hJ0.ok) fun m c hc=>?_
  obtain⟨j,oc,ov⟩:=c;obtain⟨⟨hjl,hJ⟩,rfl⟩:=hc;dsimp only at hjl hJ;have hov:=hJ.ok;refine zA ?_;refine Qyl rfl (fun hb=>?_) (fun hb=>?_)
  ·have hlt:j < e.length+1:=by have:=of_decide_eq_true hb;omega
   obtain⟨cap0,o3,hbase,Qvl,hb3,hb3n⟩:=Qgh hJ.go (nL_one j);have hpj:ov (k+3)=some (.cells [.sl 5 (e.map cEx),.mp (.o k),gC 1 (nL j) oc,int (e.length:Nat),.lit (.slice none 0 0),.arr (.o (k+2)) 1 0 (e.length+1) (e.length+1),.arr (.o (k+1)) 1 0 e.length e.length]):=hJ.p;have hln:=Qhx j;repeat' first|refine zN ?_|((with_reducible refine oj ?_);first|refine zix ?_|refine zow rfl rfl hpj ?_)
   refine Qyu tabOk rfl rfl rfl rfl rfl rfl rfl rfl rfl (hbase _ _) (.sl 1 [[int (j:Nat)]]) zsy rfl (by rw[hln];show (_+1) * 8<=_;omega) (by rw[hln];show _+1<=_;omega) fun cap hcap=>?_;rw[←nL_succ]at hcap ⊢;have Qwd:(AObj.cells (vec 1 (nL (j+1)) cap)).ids isO:=Q29 _ zsy;refine Qyw [0] rfl zdy (Qvl hov) fun kn hkn=>⟨[(37,.one (.arr (.o kn) 1 0 (nL (j+1)).length cap)),(30,.one (.ptr (.o (k+3)) 0)),(27,.one (int (j:Nat))),(26,.one (int ((e.length+1:Nat):Int))),(3,.one (.ptr (.o (k+3)) 0)),(0,.one (.sl 5 (e.map cEx)))],[],[.cells (vec 1 (nL (j+1)) cap)],.cons rfl rfl (.keepO rfl (by simp[isO]) (.keepO rfl zsy (.keepO rfl zsy (.keepO rfl (by simp[isO]) (.keepO rfl zsy .nil))))),.nil,.cons rfl (Qys (fun i hi=>by cases i with|l q=>exact hi.elim|o q=>rfl) _ Qwd) .nil,?_⟩;have Qw6:∀m,kn<=m->o3 m=none:=hkn;have hpn:=(GO.new (s:=1) (es:=nL (j+1)) Qw6 hcap).2 _ _ (by rw[hb3 (k+3) (fun hm=>by have:=(hJ.new _ hm).2;omega)];exact hpj);show AOps _ _ _ _ _ ⟨_,[],ouAdd o3 kn [.cells (vec 1 (nL (j+1)) cap)]⟩;refine zA ?_;refine Qyy (c:=.arr (.o kn) 1 0 (nL (j+1)).length cap) tabOk rfl rfl rfl rfl rfl rfl rfl hpn zsy ?_;rw[Q0n];obtain⟨oN,hN⟩:∃oN,oN=updO (ouAdd o3 kn [.cells (vec 1 (nL (j+1)) cap)]) (k+3) (.cells (plG e k (k+2) (k+1) (gC 1 (nL (j+1)) (some (kn,cap))))):=⟨_,rfl⟩;show AOps _ _ _ _ _ ⟨_,[],updO (ouAdd o3 kn [.cells (vec 1 (nL (j+1)) cap)]) (k+3) (.cells (plG e k (k+2) (k+1) (gC 1 (nL (j+1)) (some (kn,cap)))))⟩;rw[←hN];have hJN:=hJ.step (Qvl hov) hb3 Qw6 hcap hN;refine zM ?_;exact cInv ⟨e.length+1 - (j+1),(j+1,some (kn,cap),oN),_root_.id,by omega,⟨⟨by omega,hJN⟩,rfl⟩,Qzw rfl zFS (by simp[AC.ids,inL]) zLO rfl rfl hJN.ok⟩
  ·have hje:j=e.length+1:=by have:=of_decide_eq_false hb;omega
   subst hje;obtain⟨kn,cap,rfl⟩:∃kn cap,oc=some (kn,cap):=by
    cases oc with
    |none=>
     have:=congrArg List.length (hJ.go.nn rfl);rw[Qhx]at this;simp at this
    |some p=>exact⟨p.1,p.2,rfl⟩
   have hP0:=hJ.done hel;obtain⟨y,hy⟩:∃y:PLay,y=⟨k+3,k,kn,k+2,k+1,cap⟩:=⟨_,rfl⟩;rw[←hy]at hP0;have hyp:y.kp=k+3:=by rw[hy]
   rw[←hyp];have hyn:∀q∈[y.kp,y.kc,y.kl,y.ki,y.kf],ou q=none:=fun q hq=>by
    have hkn:=(hJ.new kn (by simp[gK])).1;rw[hy]at hq;simp only[Z1p,Z28,or_false]at hq;rcases hq with rfl|rfl|rfl|rfl|rfl
    ·exact hk' _ zoy
    ·exact hk' _ zoy
    ·exact hkn
    ·exact hk' _ zoy
    ·exact hk' _ zoy
   have hA0:AnI e [] y (List.range (e.length+1)) ou ov:=⟨hP0,hJ.old,hov⟩;clear hJ hy hP0 hk' hk hyp;have hfl:=(Qo6 e he hc0).moreG hsub hΓ;obtain⟨l,hl⟩:∃l,l=Q1k e:=⟨_,rfl⟩;have hfi:=Qn3 e;rw[←hl]at hfl hfi;have hll:l.length<=1048576:=by rw[hl];have:=Qby e;omega
   refine zA ?_;refine zca hΓ hfl hov ?_;refine zA ?_;refine Qre hΓ (α:=Nat×Outer) (fun c=>[(48,.one (int (c.1:Nat))),(47,.one (int (l.map cFl).length)),(46,.one (.sl 3 (l.map cFl))),(3,.one (.ptr (.o y.kp) 0))]) (fun c=>⟨0,[],c.2⟩)
    (fun m c=>(c.1<=l.length/\AnI e (l.take c.1) y ((l.take c.1).foldl (joinC e.length) (List.range (e.length+1))) ou c.2)/\m=l.length - c.1) (a0:=(0,ov)) (ρ:=_root_.id) ⟨⟨by omega,hA0⟩,rfl⟩
    (Qzw rfl zFS zsy zLO rfl rfl hov) fun m c hc=>?_
   obtain⟨j,o1⟩:=c;obtain⟨⟨hjl2,hA⟩,rfl⟩:=hc;dsimp only at hjl2 hA;have ho1:=hA.ok;refine zA ?_;refine Qyl rfl (fun hb2=>?_) (fun hb2=>?_)
   ·have hlt:j < l.length:=by have:=of_decide_eq_true hb2;simp at this;omega
    obtain⟨⟨ca,fs,co⟩,hcj⟩:=Q00 hlt;obtain⟨c,hcc⟩:∃c:FCl,c=(ca,fs,co):=⟨_,rfl⟩;rw[←hcc]at hcj;have hg:(l.map cFl)[j]?=some (cFl c):=by simp[hcj]
    have hcm:=Z1y hcj;have hci:=hfi c hcm;have hfsl:c.2.1.length<=1048576:=(szC e he hc0).2 c (by rw[←hl];exact hcm);have htk:l.take (j+1)=l.take j++[c]:=Q0h hcj;obtain⟨rt,hrt⟩:∃rt,rt=(l.take j).foldl (joinC e.length) (List.range (e.length+1)):=⟨_,rfl⟩;have Qyc:(l.take (j+1)).foldl (joinC e.length) (List.range (e.length+1))=joinC e.length rt c:=by rw[htk,Z0k,←hrt];rfl
    rw[←hrt]at hA;refine zA ?_;refine zS (zIA rfl rfl rfl zoy hg) ?_;iterate 6 (refine zO ?_)
    subst hcc;dsimp only at hfsl;refine Qyp (.l 0) 8 rfl rfl ?_;obtain⟨ck,m,hm,him⟩:=hA.p.c;have hps:o1 y.kp=some (.cells [.sl 5 (e.map cEx),.mp (.o y.kc),.arr (.o y.kl) 1 0 (e.length+1) y.cp,int (e.length:Nat),.lit (.slice none 0 0),.arr (.o y.ki) 1 0 (e.length+1) (e.length+1),.arr (.o y.kf) 1 0 e.length e.length]):=hA.p.p;refine zdx 7 [(3,.one (.mp (.o y.kc)))] ?_ ?_
    ·exact .step rfl (zHP (zLD rfl rfl hps rfl)) .nil
    refine Qu2 eFl (v:=(ca,fs,co)) rfl rfl rfl Tryz.underlying132 Z42 rfl hm rfl rfl him fun ck' m' him'=>?_;rw[Qol];have him2:IMOk (Q44 (l.take (j+1))) ck' m':=by rw[htk,Qfe];exact him'
    have Qvp:OuOk (updO o1 y.kc (.map ck' (encI eFl m'))):=Q0m ho1 (Qd9 eFl (fun b p=>Qmm p b) _ _ _);have hA2:AnI e (l.take (j+1)) y rt ou (updO o1 y.kc (.map ck' (encI eFl m'))):=⟨hA.p.updC him2,fun q hq=>by rw[Q02 _ (fun e1=>hq (by rw[←e1];exact hyn _ zsy))];exact hA.old q hq,Qvp⟩;obtain⟨o2,ho2⟩:∃o2,o2=updO o1 y.kc (.map ck' (encI eFl m')):=⟨_,rfl⟩;rw[←ho2]at Qvp hA2;show AOps _ _ _ _ _ ⟨_,_,updO o1 y.kc (.map ck' (encI eFl m'))⟩;rw[←ho2];clear ho2;refine zA ?_;refine Qre hΓ (α:=Nat×Outer) (fun c=>[(62,.one (int (c.1:Nat))),(61,.one (int ((fs.map fun f:Nat=>(f:Int)).map cI).length)),(60,.one (.sl 1 ((fs.map fun f:Nat=>(f:Int)).map cI))),(8,.one (.box (cFl (ca,fs,co)))),(48,.one (int (j:Nat))),(47,.one (int (l.map cFl).length)),(46,.one (.sl 3 (l.map cFl))),(3,.one (.ptr (.o y.kp) 0))]) (fun c=>⟨0,[],c.2⟩)
     (fun m c=>(c.1<=fs.length/\AnI e (l.take (j+1)) y ((fs.take c.1).foldl (joinF e.length (ca,fs,co)) rt) ou c.2)/\m=fs.length - c.1) (a0:=(0,o2)) (ρ:=_root_.id) ⟨⟨by omega,hA2⟩,rfl⟩
     (Qzw rfl zFS zsy zLO rfl rfl Qvp) fun m c hc=>?_
    obtain⟨i,o3⟩:=c;obtain⟨⟨hil,hA3⟩,rfl⟩:=hc;dsimp only at hil hA3;have ho3:=hA3.ok;refine zA ?_;refine Qyl rfl (fun hb3=>?_) (fun hb3=>?_)
    ·have hlt3:i < fs.length:=by have:=of_decide_eq_true hb3;simp at this;omega
     have hlt3':(i,o3).1 < fs.length:=hlt3;obtain⟨f,hf⟩:=Q00 hlt3;obtain⟨f0,hf0⟩:∃f,fs[0]?=some f:=Q00 zoy;have hfl1:=hci f (Z1y hf);have hfl0:=hci f0 (Z1y hf0);have hgf:((fs.map fun f:Nat=>(f:Int)).map cI)[i]?=some [int (f:Nat)]:=by simp[hf,cI]
     have hg0:((fs.map fun f:Nat=>(f:Int)).map cI)[0]?=some [int (f0:Nat)]:=by simp[hf0,cI]
     have htf:fs.take (i+1)=fs.take i++[f]:=Q0h hf;obtain⟨r3,hr3⟩:∃r3,r3=(fs.take i).foldl (joinF e.length (ca,fs,co)) rt:=⟨_,rfl⟩;have hr4:(fs.take (i+1)).foldl (joinF e.length (ca,fs,co)) rt=joinF e.length (ca,fs,co) r3 f:=by rw[htf,Z0k,←hr3];rfl
     rw[←hr3]at hA3;have hjF:joinF e.length (ca,fs,co) r3 f=if co=true then joinR (joinR r3 f f0) f e.length else joinR r3 f f0:=by unfold joinF;simp only;rw[Q0b hf0]
     refine zA ?_;refine zS (zIA rfl rfl rfl zoy hgf) ?_;refine zA ?_;refine zS (zIA rfl rfl rfl zoy hg0) ?_;refine zA ?_;refine Qrb hΓ rfl rfl rfl rfl rfl rfl rfl ziy ho3 (Qmb hΓ hA3.p (i:=f) (j:=f0) zoy zoy) fun r o4 hqq Qvd ho4=>?_;obtain⟨rfl,hP4,hO4,_⟩:=hqq;have hA4:AnI e (l.take (j+1)) y (joinR r3 f f0) ou o4:=⟨hP4,fun q hq=>by rw[hO4 q (fun e1=>hq (by rw[e1];exact hyn _ zsy))];exact hA3.old q hq,ho4⟩;have hp4:o4 y.kp=some (.cells [.sl 5 (e.map cEx),.mp (.o y.kc),.arr (.o y.kl) 1 0 (e.length+1) y.cp,int (e.length:Nat),.lit (.slice none 0 0),.arr (.o y.ki) 1 0 (e.length+1) (e.length+1),.arr (.o y.kf) 1 0 e.length e.length]):=hP4.p;refine zA ?_;cases co with
     |false=>
      rw[if_neg zsy]at hjF;refine zM ?_;exact cInv ⟨fs.length - (i+1),(i+1,o4),_root_.id,by dsimp only;omega,⟨⟨by dsimp only;omega,by dsimp only;rw[hr4,hjF];exact hA4⟩,rfl⟩,Qzw rfl zFS zsy zLO rfl rfl ho4⟩
     |true=>
      rw[if_pos rfl]at hjF;repeat' first|refine zN ?_|((with_reducible refine oj ?_);first|refine zix ?_|refine zow rfl rfl hp4 ?_)
      refine Qrb hΓ rfl rfl rfl rfl rfl rfl rfl ziy ho4 (Qmb hΓ hP4 (i:=f) (j:=e.length) zoy zoy) fun r o5 hqq Qvd ho5=>?_;obtain⟨rfl,hP5,hO5,_⟩:=hqq;have hA5:AnI e (l.take (j+1)) y (joinR (joinR r3 f f0) f e.length) ou o5:=⟨hP5,fun q hq=>by rw[hO5 q (fun e1=>hq (by rw[e1];exact hyn _ zsy))];exact hA4.old q hq,ho5⟩;refine zM ?_;exact cInv ⟨fs.length - (i+1),(i+1,o5),_root_.id,by dsimp only;omega,⟨⟨by dsimp only;omega,by dsimp only;rw[hr4,hjF];exact hA5⟩,rfl⟩,Qzw rfl zFS zsy zLO rfl rfl ho5⟩
    ·have hje:i=fs.length:=by have:=of_decide_eq_false hb3;simp at this;omega
     subst hje;rw[Z2j]at hA3;refine zM ?_;exact cInv ⟨l.length - (j+1),(j+1,o3),_root_.id,by dsimp only;omega,⟨⟨by dsimp only;omega,by dsimp only;rw[Qyc];exact hA3⟩,rfl⟩,Qzw rfl zFS zsy zLO rfl rfl ho3⟩
   ·have hje:j=l.length:=by have:=of_decide_eq_false hb2;simp at this;omega
    subst hje;rw[Z2j]at hA;obtain⟨rt,hrt⟩:∃rt,rt=Q93 e.length l:=⟨_,rfl⟩;have Qyc:l.foldl (joinC e.length) (List.range (e.length+1))=rt:=hrt.symm;rw[Qyc]at hA;have hps:o1 y.kp=some (.cells [.sl 5 (e.map cEx),.mp (.o y.kc),.arr (.o y.kl) 1 0 (e.length+1) y.cp,int (e.length:Nat),.lit (.slice none 0 0),.arr (.o y.ki) 1 0 (e.length+1) (e.length+1),.arr (.o y.kf) 1 0 e.length e.length]):=hA.p.p;have hcl:∀i,i < e.length->rt.getD i 0 < e.length+1:=fun i hi=>hA.p.rt_lt (i:=i) zoy;have hri:=hA.p.rt_lt (i:=e.length) zoy;refine zA ?_;refine zdx 10 [(3,.one (.arr (.o y.ki) 1 0 (e.length+1) (e.length+1))),(8,.one (int (e.length:Nat))),(9,.one (int (rtOf rt e.length:Nat)))] ?_ ?_
    ·refine .step rfl (zHP (zLD rfl rfl hps rfl)) ?_;refine .step rfl (zHP (zLD rfl rfl hps rfl)) ?_;exact Q09.callK hΓ (Q3s hΓ hA.p (i:=e.length) zoy) ho1 zsy rfl rfl rfl rfl rfl rfl .nil
    refine zS (Qsb (n:=rtOf rt e.length) tabOk rfl rfl rfl rfl rfl rfl rfl hri) ?_;refine Qyy (c:=bA true) tabOk rfl rfl rfl rfl rfl rfl rfl hA.p.i zuy ?_;rw[Q0n,Qnq];have hP1:=hA.p.updI (imp':=(List.replicate (e.length+1) false).set (rtOf rt e.length) true) zsy;obtain⟨o2,ho2⟩:∃o2,o2=updO o1 y.ki (.cells (((List.replicate (e.length+1) false).set (rtOf rt e.length) true).map bA)):=⟨_,rfl⟩;have Qvp:OuOk o2:=by rw[ho2];exact Q0m ho1 (Qmp isO _)
    have Qwl:∀q,ou q≠none->o2 q=ou q:=fun q hq=>by rw[ho2,Q02 _ (fun e1=>hq (by rw[←e1];exact hyn _ zsy))];exact hA.old q hq
    rw[←ho2]at hP1 ⊢;clear ho2;refine zA ?_;refine Qre hΓ (α:=Nat×Outer) (fun c=>[(3,.one (.ptr (.o y.kp) 0))]) (fun c=>⟨0,[],c.2⟩)
     (fun m c=>(PlanO e l y rt (effN e rt l c.1).imp (effN e rt l c.1).eff c.2/\(effN e rt l c.1).moved=true/\(∀q,ou q≠none->c.2 q=ou q)/\OuOk c.2)/\m=2 * e.length+3 - c.1) (a0:=(0,o2)) (ρ:=_root_.id) ⟨⟨hP1,rfl,Qwl,Qvp⟩,rfl⟩
     (Qzw rfl zFS zsy zLO rfl rfl Qvp) fun m c hc=>?_
    obtain⟨n,o3⟩:=c;obtain⟨⟨hP3,hm3,Qvz,Qvl⟩,rfl⟩:=hc;dsimp only at hP3 hm3 Qvz Qvl;have hbd:=(Qnb hcl (l:=l) n).2 hm3;have hb0:=lack0 e rt;have Qwe:effN e rt l (n+1)=Q20 e rt l e.length ⟨(effN e rt l n).imp,(effN e rt l n).eff,false⟩:=by rw[effN,if_pos hm3];rfl
    refine zA ?_;refine Qrb hΓ rfl rfl rfl rfl rfl rfl rfl ziy Qvl (pass_ok hΓ hE hP3 hfi) fun r o4 hqq Qvd ho4=>?_;obtain⟨rfl,hI4⟩:=hqq;rw[←Qwe]at hI4 ⊢;have Qxi:∀q,ou q≠none->o4 q=ou q:=fun q hq=>by rw[hI4.old q (fun e1=>hq (by rw[e1];exact hyn _ zsy)) (fun e1=>hq (by rw[e1];exact hyn _ zsy))];exact Qvz q hq
    refine zA ?_;refine Qyl rfl (fun hq=>?_) (fun hq=>?_)
    ·refine zA ?_;exact cInv ⟨2 * e.length+3 - (n+1),(n+1,o4),_root_.id,by dsimp only;omega,⟨⟨hI4.p,hq,Qxi,ho4⟩,rfl⟩,Qzw rfl zFS zsy zLO rfl rfl ho4⟩
    ·have hst:=Qna hq (2 * e.length+3) zoy;refine zA ?_;refine Qst rfl (.refl _) zsy ho4 ⟨y,rfl,?_,Qxi,ho4,hyn⟩;rw[←hl,←hrt,hst];exact hI4.p
end Go.Proofs.YtlmokgooijbcdaaGreatDoor
namespace Go.Abs
def pk:Value:=.tuple #[]
def encQ (l:List (Nat×Id×FV)):List (Nat×Value×FV):=l.map fun x=>(x.1,pk,.tup [.one (.ptr x.2.1 0),x.2.2])
def findQ (j:Id)(l:List (Nat×Id×FV)):Option FV:=(l.find? fun x=>decide (x.2.1=j)).map (·.2.2)
theorem Qn8(hp:P.underlying kt=some (.pointer te))(hte:P.info? te=some ti)(hsz:ti.size≠0){x y:Nat}{cx cy:Array Value}{tx ty:TypeId}(hx:w.heap[x]?=some (.cells cx tx (0,0)))(hy:w.heap[y]?=some (.cells cy ty (0,0))):
  (Op.equal kt (.pointer (some ⟨x,0,none⟩)) (.pointer (some ⟨y,0,none⟩))).run P w=.ok (decide (y=x)) w:=by
 by_cases h:y=x
 ·subst h;have h9:∀d:Nat,(Op.equalIn (d+1) kt (.pointer (some ⟨y,0,none⟩)) (.pointer (some ⟨y,0,none⟩))).run P w=.ok true w:=fun d=>by simp[Op.equalIn,run_underlying hp,sizeOf,typeInfo,hte,run_sameAddr_same]
  simp[Op.equal,Op.maxDepth,h9 9999]
 ·have hne:(⟨x,0,none⟩:Addr)≠⟨y,0,none⟩:=fun e=>h (by cases e;rfl);have h9:∀d:Nat,(Op.equalIn (d+1) kt (.pointer (some ⟨x,0,none⟩)) (.pointer (some ⟨y,0,none⟩))).run P w=.ok false w:=fun d=>by simp[Op.equalIn,run_underlying hp,sizeOf,typeInfo,hte,hsz,run_sameAddr_other w hne hx hy]
  simp[Op.equal,Op.maxDepth,h9 9999,h]
theorem Q8f{P:Program}{w:World}{C:Ctx}{kt te:TypeId}{ti:TypeInfo}(hp:P.underlying kt=some (.pointer te))(hte:P.info? te=some ti)(hsz:ti.size≠0){j:Id}{cj:Array Value}{tj:TypeId}(hj:w.heap[C.blk j]?=some (.cells cj tj (0,0))):
  ∀{l:List (Nat×Id×FV)}{es:List MapEntry}(n:Nat),RM w C (encQ l) es->(∀x∈l,∃cs T,w.heap[C.blk x.2.1]?=some (.cells cs T (0,0)))->(∀x∈l,C.blk x.2.1=C.blk j->x.2.1=j)->
   (findQ j l=none/\(Instr.findAsking kt (.pointer (some ⟨C.blk j,0,none⟩)) es n).run P w=.ok none w) ∨
   ∃v idx val,findQ j l=some v/\(Instr.findAsking kt (.pointer (some ⟨C.blk j,0,none⟩)) es n).run P w=.ok (some (idx,val)) w/\RF w C v val
 |[],es,n,h,_,_=>by simp only[encQ,Z1j,RM]at h;subst h;exact .inl ⟨rfl,by simp[Instr.findAsking]⟩
 |(b,i,v)::l,es,n,h,hc,hi=>by
  simp only[encQ,Z1g,RM]at h;obtain⟨e,es',rfl,_,h2,h3⟩:=h;have hev:entV pk e=.tuple #[e.key,e.val]:=by unfold entV;rw[if_neg (by simp[pk,Value.oneCell'])]
  rw[hev]at h2;obtain⟨xs,hx,hr⟩:=h2;simp only[RFs]at hr;obtain⟨u,us,rfl,hr1,u2,us2,rfl,hr2,rfl⟩:=hr;have hx2:[e.key,e.val]=[u,u2]:=by have:=congrArg (fun v=>match v with|.tuple a=>a.toList|_=>[]) hx;simpa using this
  simp only[List.cons.injEq,and_true]at hx2;obtain⟨rfl,rfl⟩:=hx2;simp only[RF,R]at hr1;obtain⟨cs,T,hcs⟩:=hc (b,i,v) Z1r;have hq:=Qn8 (w:=w) hp hte hsz hj hcs;rw[←hr1.2]at hq;by_cases hij:i=j
  ·subst hij;refine .inr ⟨v,n,e.val,by simp[findQ],?_,hr2⟩;rw[decide_eq_true rfl]at hq;unfold Instr.findAsking;simp[Z3s,hq,Result.andThen]
  ·have hne:C.blk i≠C.blk j:=fun e1=>hij (hi (b,i,v) Z1r e1);rw[decide_eq_false hne]at hq;have hf:findQ j ((b,i,v)::l)=findQ j l:=by simp[findQ,hij]
   have hrun:(Instr.findAsking kt (.pointer (some ⟨C.blk j,0,none⟩)) (e::es') n).run P w=(Instr.findAsking kt (.pointer (some ⟨C.blk j,0,none⟩)) es' (n+1)).run P w:=by
    conv=>lhs;unfold Instr.findAsking
    simp[Z3s,hq,Result.andThen]
   rw[hf,hrun];exact Q8f hp hte hsz hj (n+1) h3 (fun x hx=>hc x (Z1q _ hx)) (fun x hx=>hi x (Z1q _ hx))
theorem Qan(hp:P.underlying kt=some (.pointer te))(k:Value)(es:List MapEntry):(Instr.findKey kt k es).run P w=(Instr.findAsking kt k es 0).run P w:=by
 cases es with
 |nil=>simp[Instr.findKey,run_underlying hp,Instr.findNow,Instr.findAsking,Result.andThen]
 |cons e es=>simp[Instr.findKey,run_underlying hp,Instr.findNow,Instr.sameNow,Result.andThen]
theorem Q94{k:Value}(hp:P.underlying kt=some (.pointer te))(e:Bool)(n:Nat):(Instr.checkKey e (n+1) kt k).run P w=.ok () w:=by unfold Instr.checkKey;simp only[Z3s,run_underlying hp,Result.andThen];cases k <;> rfl
section
variable {E:Env}{o:Oper}{fr:Fr}{σ:St}
theorem Qv4{t:TypeId}{i:Operand}{m j:Id}{l:List (Nat×Id×FV)}(ho:o.op=.lookup t x i false)(hm:E.P.underlying t=some (.map kt et))(hp:E.P.underlying kt=some (.pointer te))(hte:E.P.info? te=some ti)(hsz:ti.size≠0)
  (hx:aEval E.Γ fr x=some (.one (.mp m))) (hg:σ.get m=some (.map ck (encQ l))) (hu:aEval E.Γ fr i=some (.one (.ptr j 0))) (hj:σ.get j=some (.cells cj)) (hl:∀x∈l,∃c,σ.get x.2.1=some (.cells c)) (hv:findQ j l=some v):AStep E o fr σ v σ:=by
 refine Qqz fun F w C tmps hi hf=>?_;have h1:=Q01 (a:=⟨tmps,E.ds⟩) hi hf hx;have h2:=Q01 (a:=⟨tmps,E.ds⟩) hi hf hu;simp only[RF,R]at h1 h2;obtain⟨hok,ents,he,_,hrm⟩:=hi.obj m _ hg;obtain⟨_,xs,T,hb,_⟩:=hi.obj j _ hj;have hcs:∀x∈l,∃cs T,w.heap[C.blk x.2.1]?=some (.cells cs T (0,0)):=fun x hx=>by obtain⟨c,hc⟩:=hl x hx;obtain⟨_,xs,T,hb,_⟩:=hi.obj x.2.1 _ hc;exact⟨_,_,hb⟩
 have Qyd:∀x∈l,C.blk x.2.1=C.blk j->x.2.1=j:=fun x hx e=>by obtain⟨c,hc⟩:=hl x hx;exact hi.inj x.2.1 j _ _ (C.blk j) hc hj (by simp[AObj.block,e]) rfl
 rcases Q8f hp hte hsz hb 0 hrm hcs Qyd with ⟨a1,_⟩|⟨v',idx,val,a1,a2,a3⟩
 ·rw[a1]at hv;cases hv
 ·rw[a1]at hv;cases hv;refine⟨val,?_,a3⟩;unfold execOp;simp only[ho];simp[Instr.lookup,run_underlying hm,h1.2,h2.2,Z2o he,Q94 hp,Qan hp,a2,Result.andThen]
theorem Qv5{t:TypeId}{i y:Operand}{m j:Id}{l:List (Nat×Id×FV)}(ho:o.op=.mapUpdate t x i y)(hm:E.P.underlying t=some (.map kt et))(hp:E.P.underlying kt=some (.pointer te))(hte:E.P.info? te=some ti)(hsz:ti.size≠0)
  (hx:aEval E.Γ fr x=some (.one (.mp m))) (hg:σ.get m=some (.map ck (encQ l))) (hu:aEval E.Γ fr i=some (.one (.ptr j 0))) (hy:aEval E.Γ fr y=some v) (hj:σ.get j=some (.cells cj)) (hl:∀x∈l,∃c,σ.get x.2.1=some (.cells c)) (hv:findQ j l=none):
  AStep E o fr σ .bot (σ.set m (.map (ck+1) (encQ (l++[(ck,j,v)])))):=by
 intro F w C tmps hi hf next Q hk
 have h1:=Q01 (a:=⟨tmps,E.ds⟩) hi hf hx;have h2:=Q01 (a:=⟨tmps,E.ds⟩) hi hf hu;have h3:=Q01 (a:=⟨tmps,E.ds⟩) hi hf hy;simp only[RF,R]at h1 h2;obtain⟨hok,ents,he,hnf,hrm⟩:=hi.obj m _ hg;obtain⟨_,xs,T,hb,_⟩:=hi.obj j _ hj;have hcs:∀x∈l,∃cs T,w.heap[C.blk x.2.1]?=some (.cells cs T (0,0)):=fun x hx=>by obtain⟨c,hc⟩:=hl x hx;obtain⟨_,xs,T,hb,_⟩:=hi.obj x.2.1 _ hc;exact⟨_,_,hb⟩
 have Qyd:∀x∈l,C.blk x.2.1=C.blk j->x.2.1=j:=fun x hx e=>by obtain⟨c,hc⟩:=hl x hx;exact hi.inj x.2.1 j _ _ (C.blk j) hc hj (by simp[AObj.block,e]) rfl
 rcases Q8f hp hte hsz hb 0 hrm hcs Qyd with ⟨_,a2⟩|⟨v',idx,val,a1,_,_⟩
 ·obtain⟨ents',hents⟩:∃ents',ents'=ents++[{ key:=Value.pointer (some ⟨C.blk j,0,none⟩),val:=(Act.eval ⟨tmps,E.ds⟩ y),born:=ck }]:=⟨_,rfl⟩;have hr:∀w':World,Ext w C w' C->RM w' C (encQ (l++[(ck,j,v)])) ents':=fun w' Qvt=>by
   rw[hents];unfold encQ;rw[Z1e];refine RM.push (e:={ key:=Value.pointer (some ⟨C.blk j,0,none⟩),val:=(Act.eval ⟨tmps,E.ds⟩ y),born:=ck }) (b:=ck) (k:=pk) (v:=.tup [.one (.ptr j 0),v]) ⟨fun h=>by simp[pk,Value.oneCell']at h,rfl⟩ ?_ (hrm.ext Qvt);have hev:∀e:MapEntry,entV pk e=.tuple #[e.key,e.val]:=fun e=>by unfold entV;rw[if_neg (by simp[pk,Value.oneCell'])]
   rw[hev];refine⟨[_,_],rfl,_,_,rfl,?_,_,_,rfl,h3.ext Qvt,rfl⟩;show R w' C (.ptr j 0) _;exact R.ext Qvt ⟨h2.1,rfl⟩
  obtain⟨k1,k2⟩:=hi.setAny (o':=.map (ck+1) (encQ (l++[(ck,j,v)]))) (obj':=.map ents'.toArray (ck+1)) hg rfl rfl he (by intro c t fr h;cases h) (by intro c t fr h;cases h) (fun w' Qvt hat _=>⟨ents',hat,hnf,hr w' Qvt⟩);have hrun:(execOp (Act.eval ⟨tmps,E.ds⟩) o).run E.P w=.ok .skip { w with heap:=w.heap.setIfInBounds (C.blk m) (.map ents'.toArray (ck+1)) }:=by unfold execOp;simp only[ho];rw[hents];simp[Instr.mapUpdate,run_underlying hm,h1.2,h2.2,Z2o he,Q94 hp,Qan hp,a2,MapKept.run_setObj_map _ he,Result.andThen]
  unfold Oper.wp;rw[hrun,Oper.upon_skip];exact hk undef _ C k1 k2 (by simp[RF])
 ·rw[a1]at hv;cases hv
end
end Go.Abs
namespace Go.Proofs.YtlmokgooijbcdaaGreatDoor
variable {Γ:List (Nat×List AC)}
mutual
def postL:LTr->List Nat
 |.mk i _ _ _ _ ks _=>Q0v ks++[i]
def Q0v:List LTr->List Nat
 |[]=>[]
 |t::ts=>postL t++Q0v ts
end
theorem Qfy(l:List LTr)(n:Nat)(h:l[n]?=some t):Q0v (l.take (n+1))=Q0v (l.take n)++postL t:=by
 have key:∀(a b:List LTr),Q0v (a++b)=Q0v a++Q0v b:=by
  intro a b
  induction a with
  |nil=>rfl
  |cons x a ih=>simp[Q0v,ih]
 rw[Q0h h,key];simp[Q0v]
def atL (l:List Nat):List (Nat×Abs.Id×FV):=l.zipIdx.map fun x=>(x.2,.o x.1,.one (int (x.2:Nat)))
theorem Qq7(l:List Nat)(i:Nat):atL (l++[i])=atL l++[(l.length,.o i,.one (int (l.length:Nat)))]:=by simp[atL,List.zipIdx_append]
theorem Q8l{l:List Nat}{x:Nat×Abs.Id×FV}(h:x∈atL l):∃i∈l,x.2.1=.o i:=by obtain⟨p,hp,rfl⟩:=Z1w.1 h;obtain⟨i,b⟩:=p;exact⟨i,by have:=List.mem_zipIdx hp;simp at this;exact this.2▸Z11 _,rfl⟩
theorem Qc0{l:List Nat}(h:i∉l):findQ (.o i) (atL l)=none:=by
 unfold findQ;rw[Z0g.2]
 ·rfl
 ·intro x hx;obtain⟨j,hj,e⟩:=Q8l hx;rw[e];simp only[decide_eq_true_eq];intro e2;cases e2;exact h hj
theorem Qn6{pre post:List Nat}(h:i∉pre):findQ (.o i) (atL (pre++i::post))=some (.one (int (pre.length:Nat))):=by
 have h1:atL (pre++i::post)=atL pre++(pre.length,.o i,.one (int (pre.length:Nat)))::(post.zipIdx (pre.length+1)).map fun x=>(x.2,.o x.1,.one (int (x.2:Nat))):=by simp[atL,List.zipIdx_append]
 unfold findQ;have h3:(atL pre).find? (fun x=>decide (x.2.1=(.o i:Abs.Id)))=none:=by
  have:=Qc0 h;unfold findQ at this;cases hf:(atL pre).find? (fun x=>decide (x.2.1=(.o i:Abs.Id))) with
  |none=>rfl
  |some y=>rw[hf]at this;cases this
 rw[h1,List.find?_append,h3];simp
theorem Q9g:∃ti,Tryz.prog.info? 119=some ti/\ti.size≠0:=by
 have h:(Tryz.prog.info? 119).map (fun t=>t.size != 0)=some true:=by kernel_rfl
 cases hi:Tryz.prog.info? 119 with
 |none=>rw[hi]at h;cases h
 |some t=>rw[hi]at h;exact⟨t,rfl,by simpa using h⟩
def Qo8 (ou:Outer)(l:List Nat):Prop:=∀i∈l,∃c,ou i=some (.cells c)
def numO (ou:Outer)(km kx:Nat)(l:List Nat):Outer:=updO (updO ou km (.map l.length (encQ (atL l)))) kx (.cells [int (l.length:Nat)])
theorem Qa6{l:List Nat}(h1:i≠km)(h2:i≠kx):numO ou km kx l i=ou i:=by unfold numO;rw[Q02 _ (Z3d h2),Q02 _ (Z3d h1)]
theorem Qlp{l:List Nat}(h:km≠kx):numO ou km kx l km=some (.map l.length (encQ (atL l))):=by unfold numO;rw[Q02 _ (Z3d h),Q04]
theorem numO_kx{l:List Nat}:numO ou km kx l kx=some (.cells [int (l.length:Nat)]):=by unfold numO;rw[Q04]
theorem Qln{l l':List Nat}(h:km≠kx):updO (updO (numO ou km kx l) km (.map l'.length (encQ (atL l')))) kx (.cells [int (l'.length:Nat)])=numO ou km kx l':=by
 funext q;unfold numO;by_cases h1:kx=q
 ·subst h1;rw[Q04,Q04]
 ·rw[Q02 _ h1,Q02 _ h1];by_cases h2:km=q
  ·subst h2;rw[Q04,Q04]
  ·rw[Q02 _ h2,Q02 _ h2,Q02 _ h1,Q02 _ h2]
theorem Qmq(l:List Nat)(ck:Nat):(AObj.map ck (encQ (atL l))).ids isO:=by intro x hx;obtain⟨p,hp,rfl⟩:=Z1w.1 hx;obtain⟨j,_,hj⟩:=Q8l hp;obtain⟨q,hq,rfl⟩:=Z1w.1 hp;simp[FV.ids,idsF,AC.ids,isO]
theorem Qlo{l:List Nat}(h:OuOk ou):OuOk (numO ou km kx l):=Q0m (Q0m h (Qmq _ _)) zsy
def NumOk (Γ:List (Nat×List AC))(t:LTr):Prop:=∀(ou:Outer)(km kx:Nat)(pre:List Nat),OuOk ou->Owns ou (objs t)->Qo8 ou (pre++postL t)->(pre++postL t).Nodup->km∉pre++postL t->kx∉pre++postL t->km≠kx->(pre++postL t).length<=1048576->
 AFn Tryz.prog Γ 37 [.one (.ptr (.o t.id) 0),.one (.mp (.o km)),.one (.ptr (.o kx) 0)] (numO ou km kx pre) (fun r ou'=>r=.tup []/\ou'=numO ou km kx (pre++postL t))
theorem Qej(hΓ:GI Γ):∀t:LTr,Q6f t->okT (erT t)->NumOk Γ t
 |.mk i o n nb b lks a,hpl,hok=>by
  have ih:∀t∈lks,NumOk Γ t:=fun t ht=>Qej hΓ t (Q9x hpl (by simpa[LTr.kids]using ht)) (Qg1 hok (Qip (t:=.mk i o n nb b lks a) (by simpa[LTr.kids]using ht)));obtain⟨hb,hk,ha,⟨hab,_⟩,hks⟩:=hok;obtain⟨rfl,hpa,_⟩:=hpl;intro ou km kx pre Qvn hOw hC hnd hkm hkx hne hsz;have hown:∀t∈lks,Owns ou (objs t):=fun t ht=>Qhj hOw (by simpa[LTr.kids]using ht);have hi0:ou i=some (.cells (lC (.mk i o n none b lks a))):=Q77 hOw;simp only[lC,bC,Q62 hpa]at hi0;have hpost:postL (.mk i o n none b lks a)=Q0v lks++[i]:=rfl;rw[hpost]at hC hnd hkm hkx hsz ⊢;have him:i≠km:=fun e=>hkm (by simp[e]);have hix:i≠kx:=fun e=>hkx (by simp[e]);have hkl:lks.length<=1048576:=by simpa[Q26]using hk
  obtain⟨ti,hti,htz⟩:=Q9g;have hiN:∀l,numO ou km kx l i=some (.cells [int o,int n,.sl 1 (b.map cI),.sl 1 (kC lks),.sl 2 ((a.map LAlt.er).map cAlt)]):=fun l=>by rw[Qa6 him hix];exact hi0
  refine zwk 32 Tryz.func37 fun hou=>?_;have hi1:=hiN pre;repeat' first|refine zN ?_|((with_reducible refine oj ?_);first|refine zix ?_|refine zow rfl rfl hi1 ?_)
  refine Qre hΓ (α:=Nat) (fun c=>[(13,.one (int (c:Nat))),(12,.one (int (kC lks).length)),(11,.one (.sl 1 (kC lks))),(0,.one (.ptr (.o i) 0)),(1,.one (.mp (.o km))),(2,.one (.ptr (.o kx) 0))]) (fun c=>⟨0,[],numO ou km kx (pre++Q0v (lks.take c))⟩)
   (fun m c=>c<=lks.length/\m=lks.length - c) (a0:=0) (ρ:=_root_.id) ⟨by omega,rfl⟩
   (Qzw rfl zFS (by simp[AC.ids,inL]) zLO rfl (by simp[Q0v]) hou) fun m c hc=>?_
  obtain⟨hcl,rfl⟩:=hc;obtain⟨pc,hpc⟩:∃pc,pc=pre++Q0v (lks.take c):=⟨_,rfl⟩;rw[←hpc];have hokc:OuOk (numO ou km kx pc):=Qlo Qvn;refine zA ?_;refine Qyl rfl (fun hb2=>?_) (fun hb2=>?_)
  ·have hlt:c < lks.length:=by have:=of_decide_eq_true hb2;rw[Q3z]at this;omega
   obtain⟨t,htc⟩:=Q00 hlt;have htm:=Z1y htc;have hg:(kC lks)[c]?=some [.ptr (.o t.id) 0]:=by simp[kC,htc]
   have hst:=Qfy lks c htc;have hpn:pre++Q0v (lks.take (c+1))=pc++postL t:=by rw[hst,←Z01,←hpc]
   have hall:lks=lks.take (c+1)++lks.drop (c+1):=(Z2h _ _).symm;have hpo:∃r,pre++(Q0v lks++[i])=(pc++postL t)++r:=by
    have key:∀(a b:List LTr),Q0v (a++b)=Q0v a++Q0v b:=by
     intro a b
     induction a with
     |nil=>rfl
     |cons x a ih=>simp[Q0v,ih]
    refine⟨Q0v (lks.drop (c+1))++[i],?_⟩;rw[←hpn];conv=>lhs;rw[hall,key]
    simp
   obtain⟨r,hr⟩:=hpo;rw[hr]at hC hnd hkm hkx hsz;have hsub:∀x∈pc++postL t,x∈pc++postL t++r:=fun x hx=>Z1n _ hx;refine zA ?_;refine zS (zIA rfl rfl rfl zoy hg) ?_;refine zA ?_;refine Qrb hΓ rfl rfl rfl rfl rfl rfl rfl ziy hokc (ih t htm ou km kx pc Qvn (hown t htm) (fun x hx=>hC x (hsub x hx)) (Z26.1 hnd).1 (fun h=>hkm (hsub _ h)) (fun h=>hkx (hsub _ h)) hne (by simp only[Z12]at hsz ⊢;omega)) fun q o1 hqq Qvd ho1=>?_;obtain⟨rfl,rfl⟩:=hqq;refine zM ?_;exact cInv ⟨lks.length - (c+1),c+1,_root_.id,by omega,⟨by omega,rfl⟩,Qzw rfl zFS (by simp[AC.ids,inL]) zLO rfl (by rw[hpn]) ho1⟩
  ·have hce:c=lks.length:=by have:=of_decide_eq_false hb2;rw[Q3z]at this;omega
   subst hce;rw[Z2j]at hpc;have hi2:=hiN pc;have hkx2:numO ou km kx pc kx=some (.cells [int (pc.length:Nat)]):=numO_kx;have hkm2:numO ou km kx pc km=some (.map pc.length (encQ (atL pc))):=Qlp hne;have hpre:pre++(Q0v lks++[i])=pc++[i]:=by rw[←Z01,←hpc]
   rw[hpre]at hC hnd hkm hkx hsz ⊢;have hni:i∉pc:=fun h=>(Z26.1 hnd).2.2 i h i zsy rfl;have hcells:∀x∈atL pc,∃c,(⟨0,[],numO ou km kx pc⟩:St).get x.2.1=some (.cells c):=fun x hx=>by obtain⟨j,hj,e⟩:=Q8l hx;rw[e];obtain⟨c,hc⟩:=hC j (by simp[hj]);refine⟨c,?_⟩;show numO ou km kx pc j=_;rw[Qa6 (fun e=>hkm (by simp[←e,hj])) (fun e=>hkx (by simp[←e,hj]))];exact hc
   repeat' first|refine zN ?_|((with_reducible refine oj ?_);first|refine zix ?_|refine zow rfl rfl hkx2 ?_)
   refine AOps.step rfl rfl (Qv5 (v:=.one (int (pc.length:Nat))) rfl Tryz.underlying92 Z43 hti htz rfl hkm2 rfl rfl hi2 hcells (Qc0 hni)) ?_;rw[Q0n,←Qq7];have hlen:pc.length+1=(pc++[i]).length:=by simp
   rw[hlen];have hkx3:updO (numO ou km kx pc) km (.map (pc++[i]).length (encQ (atL (pc++[i])))) kx=some (.cells [int (pc.length:Nat)]):=by rw[Q02 _ hne];exact hkx2
   have Qvl:OuOk (updO (numO ou km kx pc) km (.map (pc++[i]).length (encQ (atL (pc++[i]))))):=Q0m hokc (Qmq _ _);repeat' first|refine zN ?_|((with_reducible refine oj ?_);first|refine zix ?_|refine zow rfl rfl hkx3 ?_)
   refine Qyy (c:=int ((pc.length:Nat)+1:Int)) tabOk rfl rfl rfl rfl rfl rfl rfl hkx3 zsy ?_;rw[Q0n];have hfin:updO (updO (numO ou km kx pc) km (.map (pc++[i]).length (encQ (atL (pc++[i]))))) kx (.cells ([int (pc.length:Nat)].set 0 (int ((pc.length:Nat)+1:Int))))=numO ou km kx (pc++[i]):=by rw[show ((pc.length:Nat)+1:Int)=((pc++[i]).length:Nat) by simp];exact Qln hne
   rw[hfin];refine zA ?_;exact Qst rfl (Z46 rfl) zsy (Qlo Qvn) ⟨rfl,rfl⟩
end Go.Proofs.YtlmokgooijbcdaaGreatDoor
namespace Go.CoreX
structure Bd (c:Cv)(B:Int):Prop where
 P:∀s,s<=(c.P s).2/\(c.P s).2<=s+B
 F:∀s,s<=(c.F s).2/\(c.F s).2<=s+B
 T:∀k m s,s<=(c.T k m s).2/\(c.T k m s).2<=s+B
inductive Bds:List Cv->Int->Prop
 |nil:Bds [] 0
 |cons {c:Cv}{r:List Cv}{B C:Int}(h:Bd c B) (h0:0<=B) (hr:Bds r C):Bds (c::r) (B+4+C)
theorem Bds.nonneg(h:Bds l C):4 * (l.length:Int)<=C:=by
 induction h with
 |nil=>simp
 |cons _ h0 _ ih=>simp only[Z13];push_cast;omega
theorem Bds.mpP{l:List Cv}{C:Int}(h:Bds l C):∀s,s<=(mpP l s).2/\(mpP l s).2<=s+C - 4 * (l.length:Int):=by
 induction h with
 |nil=>intro s;simp[Go.CoreX.mpP]
 |@cons c r B C h h0 hr ih=>
  intro s;have h1:=h.P s;have h2:=ih (c.P s).2;simp only[Go.CoreX.mpP,Z13];push_cast;omega
theorem Bds.mpF{l:List Cv}{C:Int}(h:Bds l C):∀s,s<=(mpF l s).2/\(mpF l s).2<=s+C - 4 * (l.length:Int):=by
 induction h with
 |nil=>intro s;simp[Go.CoreX.mpF]
 |@cons c r B C h h0 hr ih=>
  intro s;have h1:=h.F s;have h2:=ih (c.F s).2;simp only[Go.CoreX.mpF,Z13];push_cast;omega
theorem Bds.mpK{l:List Cv}{C:Int}(h:Bds l C)(k m:Int):∀s,s<=(mpK k m l s).2/\(mpK k m l s).2<=s+C - 4 * (l.length:Int):=by
 induction h with
 |nil=>intro s;simp[Go.CoreX.mpK]
 |@cons c r B C h h0 hr ih=>
  intro s;have h1:=h.T k m s;have h2:=ih (c.T k m s).2;simp only[Go.CoreX.mpK,Z13];push_cast;omega
theorem Bds.split(h:Bds l C):∀n,∃A B,Bds (l.take n) A/\Bds (l.drop n) B/\A+B=C:=by
 induction h with
 |nil=>intro n;exact⟨0,0,by simpa using Bds.nil,by simpa using Bds.nil,rfl⟩
 |@cons c r B C h h0 hr ih=>
  intro n;cases n with
  |zero=>exact⟨0,B+4+C,.nil,.cons h h0 hr,by omega⟩
  |succ n=>
   obtain⟨A,D,h1,h2,h3⟩:=ih n;exact⟨B+4+A,D,.cons h h0 h1,h2,by omega⟩
theorem Bds.at_(h:Bds l C):∀(n:Nat),∃B,Bd (l.getD n default) B/\0<=B/\B<=C:=by
 have hd:Bd (default:Cv) 0:=⟨fun s=>⟨Qzt _,by show s<=s+0;omega⟩,fun s=>⟨Qzt _,by show s<=s+0;omega⟩,fun k m s=>⟨Qzt _,by show s<=s+0;omega⟩⟩
 induction h with
 |nil=>intro n;exact⟨0,by simpa using hd,by omega,by omega⟩
 |@cons c r B C h h0 hr ih=>
  intro n;have:=hr.nonneg;cases n with
  |zero=>exact⟨B,by simpa using h,h0,by omega⟩
  |succ n=>
   obtain⟨D,h1,h2,h3⟩:=ih n;exact⟨D,by simpa using h1,h2,by omega⟩
theorem Qmz{c:Cv}(h:Bd c B)(s:Int):s<=(funB pas binds c s).2/\(funB pas binds c s).2<=s+B+3:=by
 unfold funB;split
 ·have:=h.T (s+1) (s+2) (s+3);simp only;omega
 ·have:=h.P s;simp only;omega
theorem Qhi{ks:List Cv}(h:Bds ks C)(s:Int):s<=(pureB pas op n binds alts ks s).2/\(pureB pas op n binds alts ks s).2<=s+C+3:=by
 unfold pureB;have hn:=h.nonneg;split
 ·obtain⟨B,h1,h2,h3⟩:=h.at_ 0;have:=Qmz (pas:=pas) (binds:=binds) h1 s;omega
 ·have:=h.mpP s;simp only;omega
theorem Qco{D:Int}(hfin:∀l k m s,s<=(fin l k m s).2/\(fin l k m s).2<=s+D)(h:Bds l C):∀done k m s,s<=(seqB fin l done k m s).2/\(seqB fin l done k m s).2<=s+C+D:=by
 induction h with
 |nil=>intro done k m s;have:=hfin done k m s;simp only[seqB];omega
 |@cons c r B C h h0 hr ih=>
  intro done k m s;have hn:=hr.nonneg;simp only[seqB];split
  ·have h1:=(Bds.cons h h0 hr).mpP s;have h2:=hfin (done++(Go.CoreX.mpP (c::r) s).1) k m (Go.CoreX.mpP (c::r) s).2;simp only[Z13]at h1;push_cast at h1;omega
  ·split
   ·have h1:=h.P (s+1);have h2:=ih (done++[refE s]) k m (c.P (s+1)).2;simp only;omega
   ·have h2:=ih (done++[refE s]) k (s+1) (s+2);unfold bindB;have h1:=h.T (seqB fin r (done++[refE s]) k (s+1) (s+2)).2 m ((seqB fin r (done++[refE s]) k (s+1) (s+2)).2+1);simp only;omega
theorem Qdc{rest:List Cv}(h:Bds rest C)(l:List Tr)(k m s:Int):s<=(finB up cnv op n binds alts rest l k m s).2/\(finB up cnv op n binds alts rest l k m s).2<=s+(if op=7 then C else 0):=by
 unfold finB;have hn:=h.nonneg;have h1:=h.mpK k m s;split
 ·simp only;omega
 ·split
  ·simp only;omega
  ·split <;> (simp only;omega)
theorem Qau{op v b h k2 m2:Int}:∀{l:List (Alt×Cv)}{C:Int},Bds (l.map (·.2)) C->∀(body:Tr)(s:Int),s<=(Q1h op v b h k2 m2 l body s).2/\(Q1h op v b h k2 m2 l body s).2<=s+C
 |[],C,hb,body,s=>by cases hb;simp[Q1h]
 |(a,c)::l,C,hb,body,s=>by
  cases hb with
  |@cons _ _ B D h1 h0 hr=>
  have h2:s+2<=(c.T k2 m2 (s+2)).2/\(c.T k2 m2 (s+2)).2<=s+2+B:=h1.T k2 m2 (s+2);simp only[Q1h];have h3:=Qau (op:=op) (v:=v) (b:=b) (h:=h) (k2:=k2) (m2:=m2) hr (.mk 7 0 [] [.mk 8 6 [] [refE op,wordE a.tag] [],letE (a.binds.getD 0 0) (refE v) (letE (a.binds.getD 1 0) (lamE (appE [refE b,refE s,conE 1 [refE h,refE (s+1)]]) [s,s+1]) (c.T k2 m2 (s+2)).1),body] [⟨1,[]⟩,⟨-1,[]⟩]) (c.T k2 m2 (s+2)).2;omega
theorem Bds.app(h:Bds l A)(k:Bds r B):Bds (l++r) (A+B):=by
 induction h with
 |nil=>simpa using k
 |@cons c t B' C h h0 hr ih=>
  have:=Bds.cons h h0 ih;rw[show B'+4+(C+B)=B'+4+C+B by omega]at this;exact this
theorem Bds.rev(h:Bds l A):Bds l.reverse A:=by
 induction h with
 |nil=>exact .nil
 |@cons c t B C h h0 hr ih=>
  rw[Z2c];have:=ih.app (.cons h h0 .nil);rw[show C+(B+4+0)=B+4+C by omega]at this;exact this
theorem Bds.zip_(hB:Bds r B):∀(l:List Alt),∃D,Bds ((l.zip r).map (·.2)) D/\0<=D/\D<=B:=by
 induction hB with
 |nil=>intro l;exact⟨0,by simpa using Bds.nil,by omega,by omega⟩
 |@cons c r B' C' g g0 gr ih=>
  intro l;have:=gr.nonneg;cases l with
  |nil=>exact⟨0,.nil,by omega,by omega⟩
  |cons a l=>
   obtain⟨D,h1,h2,h3⟩:=ih l;exact⟨B'+4+D,.cons g g0 h1,by omega,by omega⟩
theorem Qju{ks:List Cv}(h:Bds ks C)(hl:2<=ks.length)(k m s:Int):s<=(Q4y up alts ks k m s).2/\(Q4y up alts ks k m s).2<=s+C+8:=by
 obtain⟨A,B,hA,hB,hAB⟩:=h.split 2
 match ks,hl with
 |c0::c1::r,_=>
  simp only[Z2l,List.take_zero,Z09,Z0a]at hA hB;cases hA with
  |@cons _ _ B0 _ h0 h00 hr=>
  cases hr with
  |@cons _ _ B1 _ h1 h10 hr=>
  cases hr;obtain⟨D,hD,hD0,hDB⟩:=hB.zip_ (alts.drop 1);have hrev:Bds (((alts.drop 1).zip r).reverse.map (·.2)) D:=by rw[List.map_reverse];exact hD.rev
  unfold Q4y;simp only[Q35,Q39,Z09,Z0a,Z0n,Z0m];have hc:=Qau (op:=s+1) (v:=s+2) (b:=s+3) (h:=s) (k2:=s+5) (m2:=s+6) hrev (appE [refE up,refE (s+1),refE (s+2),lamE (appE [refE (s+3),refE (s+7),conE 1 [refE s,conE 1 [refE (s+5),refE (s+7+1)]]]) [s+7,s+7+1],refE (s+6)]) (s+7+2);generalize Q1h (s+1) (s+2) (s+3) s (s+5) (s+6) ((alts.drop 1).zip r).reverse _ _=cc at hc ⊢;have g1:=h1.T (cc.2+1+4) (cc.2+1+5) (cc.2+1+6);have g0:=h0.T (cc.2+1) cc.2 (c1.T (cc.2+1+4) (cc.2+1+5) (cc.2+1+6)).2;omega
theorem Qoe{M:Mdl}{ks:List Cv}(h:Bds ks C)(h13:op=13->2<=ks.length)(k m s:Int):s<=(tailB M i op n binds alts ks k m s).2/\(tailB M i op n binds alts ks k m s).2<=s+C+8:=by
 have hn:=h.nonneg;unfold tailB;split
 ·have:=Qhi (pas:=M.pas i) (op:=op) (n:=n) (binds:=binds) (alts:=alts) h s;simp only;omega
 ·split
  ·match ks with
   |[]=>
    have hd:∀a b s,((default:Cv).T a b s).2=s:=fun _ _ _=>rfl;have hp:∀s,((default:Cv).P s).2=s:=fun _=>rfl;simp only[List.getD_nil,bindB,hd,hp];split <;> (simp only[hd,hp];omega)
   |[c0]=>
    cases h with
    |@cons _ _ B0 _ h0 h00 hr=>
    cases hr;have hd:∀a b s,((default:Cv).T a b s).2=s:=fun _ _ _=>rfl;simp only[Z0n,Z0m,List.getD_nil,bindB,hd];split
    ·have:=h0.P s;simp only[hd];omega
    ·have:=h0.T (s+1) m (s+1+1);simp only[hd];omega
   |c0::c1::r=>
    cases h with
    |@cons _ _ B0 _ h0 h00 hr=>
    cases hr with
    |@cons _ _ B1 _ h1 h10 hr=>
    have:=hr.nonneg;simp only[Z0n,Z0m,bindB];split
    ·have g0:=h0.P s;have g1:=h1.T k m (c0.P s).2;simp only;omega
    ·have g1:=h1.T k s (s+1);have g0:=h0.T (c1.T k s (s+1)).2 m ((c1.T k s (s+1)).2+1);simp only;omega
  ·split
   ·obtain⟨A,B,hA,hB,hAB⟩:=h.split binds.length;have g1:=hA.mpF s;have hb:∃D,Bd (ks.getD binds.length default) D/\0<=D/\D<=B:=by obtain⟨D,d1,d2,d3⟩:=hB.at_ 0;refine⟨D,?_,d2,d3⟩;rw[Z0o,Z0s,Z2t,←Z0o]at d1;exact d1
    obtain⟨D,d1,d2,d3⟩:=hb;have g2:=d1.T k m (mpF (ks.take binds.length) s).2;have:=hA.nonneg;simp only;omega
   ·split
    ·rename_i h13';exact Qju h (h13 h13') k m s
    ·obtain⟨A,B,hA,hB,hAB⟩:=h.split (opnds op ks.length);obtain⟨A1,B1,hA1,hB1,hAB1⟩:=h.split 1;by_cases h7:op=7
     ·have ho:opnds op ks.length=1:=by unfold opnds;simp[h7]
      rw[ho]at hA ⊢;rw[ho]at hB;have:=Qco (fin:=finB M.up (M.cnv i) op n binds alts (ks.drop 1)) (D:=B) (fun l k m s=>by have:=Qdc (up:=M.up) (cnv:=M.cnv i) (op:=op) (n:=n) (binds:=binds) (alts:=alts) hB l k m s;rw[if_pos h7]at this;exact this) hA [] k m s;omega
     ·have hBn:=hB.nonneg;have:=Qco (fin:=finB M.up (M.cnv i) op n binds alts (ks.drop 1)) (D:=0) (fun l k m s=>by have:=Qdc (up:=M.up) (cnv:=M.cnv i) (op:=op) (n:=n) (binds:=binds) (alts:=alts) hB1 l k m s;rw[if_neg h7]at this;exact this) hA [] k m s;omega
theorem Q9q(t:Tr):1<=szT t:=by cases t;simp[szT]
def P13 (l:Lab):Prop:=l.op=13->2<=l.ops.length
theorem Q1c(M:Mdl):∀(l:List Tr)(i:Nat),(cvTs M i l).length=l.length
 |[],_=>rfl
 |t::ts,i=>by simp[cvTs,Q1c M ts]
mutual
theorem Qc4(M:Mdl):∀(t:Tr)(i:Nat),allT P13 t->Bd (cvT M i t) (20 * (szT t:Int) - 4)
 |.mk op n binds kids alts,i,h=>by
  simp only[allT]at h;have hk:=Qdj M kids i h.2;have h13:op=13->2<=(cvTs M i kids).length:=fun e=>by rw[Q1c];simpa[P13]using h.1 e
  simp only[cvT,szT];push_cast;refine⟨fun s=>?_,fun s=>?_,fun k m s=>?_⟩
  ·have:=Qhi (pas:=M.pas (i+szTs kids)) (op:=op) (n:=n) (binds:=binds) (alts:=alts) hk s;simp only;omega
  ·obtain⟨B,h1,h2,h3⟩:=hk.at_ 0;have:=Qmz (pas:=M.pas (i+szTs kids)) (binds:=binds) h1 s;simp only;omega
  ·have:=Qoe (M:=M) (i:=i+szTs kids) (op:=op) (n:=n) (binds:=binds) (alts:=alts) hk h13 k m s;simp only;omega
theorem Qdj(M:Mdl):∀(l:List Tr)(i:Nat),allTs P13 l->Bds (cvTs M i l) (20 * (szTs l:Int))
 |[],_,_=>.nil
 |t::ts,i,h=>by simp only[allTs]at h;have h1:=Qc4 M t i h.1;have h2:=Qdj M ts (i+szT t) h.2;have h3:=Q9q t;have:=Bds.cons h1 zoy h2;simp only[cvTs,szTs];rw[show (20:Int) * ((szT t+szTs ts:Nat):Int)=20 * (szT t:Int) - 4+4+20 * (szTs ts:Int) by push_cast;omega];exact this
end
end Go.CoreX
namespace Go.Proofs.YtlmokgooijbcdaaGreatDoor
variable {Γ:List (Nat×List AC)}
structure CvX where
 e:List Ex
 l:List FCl
 y:PLay
 rt:List Nat
 imp:List Bool
 eff:List Bool
 ids:List Nat
 ka:Nat
 kv:Nat
 up:Int
 T:LTr
def CvX.M (X:CvX):Mdl:=⟨fun i=>X.eff.getD i false,fun i=>X.imp.getD (rtOf X.rt i) false,fun i=>cnvN X.rt X.l X.imp i,X.up⟩
def cvC (X:CvX)(s:Int):List AC:=[.ptr (.o X.y.kp) 0,.mp (.o X.ka),int s,int X.up]
def cvO (X:CvX)(ou:Outer)(s:Int):Outer:=updO ou X.kv (.cells (cvC X s))
structure CvO (X:CvX)(s:Int)(ou:Outer):Prop where
 p:PlanO X.e X.l X.y X.rt X.imp X.eff ou
 a:ou X.ka=some (.map X.ids.length (encQ (atL X.ids)))
 v:ou X.kv=some (.cells (cvC X s))
 o:Qo8 ou X.ids
 w:Owns ou (objs X.T)
 nd:X.ids.Nodup
 il:X.ids.length=X.e.length
 nv:X.kv∉X.ids/\X.kv≠X.ka/\X.kv∉[X.y.kp,X.y.kc,X.y.kl,X.y.ki,X.y.kf]/\X.kv∉keys (objs X.T)
 fi:FnsIn X.e X.l
 ok:OuOk ou
theorem PlanO.other{l:List FCl}{y:PLay}(h:PlanO e l y rt imp eff ou){o:AObj}(hk:k∉[y.kp,y.kc,y.kl,y.ki,y.kf]):PlanO e l y rt imp eff (updO ou k o):=by simp only[Z1p,Z28,or_false,not_or]at hk;obtain⟨h1,h2,h3,h4,h5⟩:=hk;obtain⟨cl,hu,hcl⟩:=h.l;exact⟨by rw[Q02 _ h1];exact h.p,by rw[Q02 _ h2];exact h.c,⟨cl,hu,by rw[Q02 _ h3];exact hcl⟩,by rw[Q02 _ h4];exact h.i,by rw[Q02 _ h5];exact h.f,h.rl,h.il,h.fl,h.el,h.nd⟩
theorem CvO.set{X:CvX}(h:CvO X s ou)(s':Int):CvO X s' (cvO X ou s'):=by
 obtain⟨n1,n2,n3,n4⟩:=h.nv;refine⟨h.p.other n3,?_,Q04 _ _ _,fun i hi=>?_,fun p hp=>?_,h.nd,h.il,h.nv,h.fi,Q0m h.ok (by simp[cvC,AC.ids,isO])⟩
 ·unfold cvO;rw[Q02 _ n2];exact h.a
 ·obtain⟨c,hc⟩:=h.o i hi;exact⟨c,by unfold cvO;rw[Q02 _ (show X.kv≠i from fun e=>n1 (by rw[e];exact hi))];exact hc⟩
 ·unfold cvO;rw[Q02 _ (show X.kv≠p.1 from fun e=>n4 (by rw[e];exact Z1x (f:=(·.1)) hp))];exact h.w p hp
theorem cvO_cvO(X:CvX)(ou:Outer)(a b:Int):cvO X (cvO X ou a) b=cvO X ou b:=by
 funext q;unfold cvO;by_cases h:X.kv=q
 ·subst h;rw[Q04,Q04]
 ·rw[Q02 _ h,Q02 _ h,Q02 _ h]
theorem Qpy{X:CvX}(h:CvO X s ou):cvO X ou s=ou:=by
 funext q;unfold cvO;by_cases e:X.kv=q
 ·subst e;rw[Q04,h.v]
 ·rw[Q02 _ e]
def lim:Int:=1099511627776
theorem Qgl(hΓ:GI Γ){X:CvX}(h:CvO X s ou)(hs:0<=s/\s<=lim):
  AFn Tryz.prog Γ 72 [.one (.ptr (.o X.kv) 0)] ou (fun r ou'=>r=.one (int s)/\ou'=cvO X ou (s+1)):=by
 have hv:ou X.kv=some (.cells [.ptr (.o X.y.kp) 0,.mp (.o X.ka),int s,int X.up]):=h.v;unfold lim at hs;refine zwk 15 Tryz.func72 fun hou=>?_;repeat' first|refine zN ?_|((with_reducible refine oj ?_);first|refine zix ?_|refine zow rfl rfl hv ?_)
 refine Qyy (c:=int (s+1)) tabOk rfl rfl rfl rfl rfl rfl rfl hv zsy ?_;rw[Q0n];have hv2:cvO X ou (s+1) X.kv=some (.cells [.ptr (.o X.y.kp) 0,.mp (.o X.ka),int (s+1),int X.up]):=Q04 _ _ _;have ho2:=(h.set (s+1)).ok;show AOps _ _ _ _ _ ⟨_,_,cvO X ou (s+1)⟩;repeat' first|refine zN ?_|((with_reducible refine oj ?_);first|refine zix ?_|refine zow rfl rfl hv2 ?_)
 exact Qst rfl (Z46 zsy) zsy ho2 ⟨rfl,rfl⟩
def AtP (X:CvX)(i:Nat)(t:LTr):Prop:=∃pre post,X.ids=pre++postL t++post/\pre.length=i
mutual
theorem Qe8:∀t:LTr,(postL t).length=szT (erT t)
 |.mk i o n nb b ks a=>by simp only[postL,erT,szT,Z12,Z13,Z17];rw[Q60 ks]
theorem Q60:∀l:List LTr,(Q0v l).length=szTs (erTs l)
 |[]=>rfl
 |t::ts=>by simp only[Q0v,erTs,szTs,Z12];rw[Qe8 t,Q60 ts]
end
theorem AtP.kid{X:CvX}(h:AtP X i (.mk id o n nb b ks a))(ht:ks[j]?=some t):AtP X (i+szTs (erTs (ks.take j))) t:=by
 obtain⟨pre,post,h1,h2⟩:=h;have key:∀(a b:List LTr),Q0v (a++b)=Q0v a++Q0v b:=by
  intro a b
  induction a with
  |nil=>rfl
  |cons x a ih=>simp[Q0v,ih]
 have hall:ks=ks.take j++[t]++ks.drop (j+1):=by rw[←Q0h ht,Z2h]
 refine⟨pre++Q0v (ks.take j),Q0v (ks.drop (j+1))++[id]++post,?_,by rw[Z12,Q60,h2]⟩;rw[h1];simp only[postL];conv=>lhs;rw[hall,key,key]
 simp[Q0v]
theorem AtP.node{X:CvX}(hC:CvO X s ou)(h:AtP X i (.mk id o n nb b ks a)):findQ (.o id) (atL X.ids)=some (.one (int ((i+szTs (erTs ks):Nat):Int)))/\i+szTs (erTs ks) < X.e.length:=by
 obtain⟨pre,post,h1,h2⟩:=h;have h3:X.ids=(pre++Q0v ks)++id::post:=by rw[h1];simp[postL]
 have hni:id∉pre++Q0v ks:=by have:=hC.nd;rw[h3]at this;exact fun hh=>(Z26.1 this).2.2 id hh id zsy rfl
 have hl:(pre++Q0v ks).length=i+szTs (erTs ks):=by rw[Z12,Q60,h2]
 refine⟨?_,?_⟩
 ·rw[h3,Qn6 hni,hl]
 ·have:=hC.il;rw[h3,Z12,hl]at this;simp at this;omega
structure ShL (l:Lab):Prop where
 sh:ShN l.op l.n l.binds l.ops.length l.alts
 rc:l.op=5->∀i,i < l.binds.length->l.ops[i]?=some 2
structure PtO (X:CvX)(i:Nat)(t:LTr):Prop where
 at_:AtP X i t
 sub:∀p∈objs t,p∈objs X.T
 pl:Q6f t
 ok:okT (erT t)
 sh:allT ShL (erT t)
theorem PtO.id_in{X:CvX}(h:PtO X i t):t.id∈X.ids:=by obtain⟨pre,post,h1,_⟩:=h.at_;rw[h1];cases t;simp[postL,LTr.id]
theorem Q7k(hΓ:GI Γ){X:CvX}(h:CvO X s ou)(ht:PtO X i t):
  AFn Tryz.prog Γ 105 [.one (.ptr (.o X.kv) 0),.one (.ptr (.o t.id) 0)] ou (fun r ou'=>r=.one (bA (cvT X.M i (erT t)).eff)/\ou'=ou):=by
 have hv:ou X.kv=some (.cells [.ptr (.o X.y.kp) 0,.mp (.o X.ka),int s,int X.up]):=h.v;have hp:ou X.y.kp=some (.cells [.sl 5 (X.e.map cEx),.mp (.o X.y.kc),.arr (.o X.y.kl) 1 0 (X.e.length+1) X.y.cp,int (X.e.length:Nat),.lit (.slice none 0 0),.arr (.o X.y.ki) 1 0 (X.e.length+1) (X.e.length+1),.arr (.o X.y.kf) 1 0 X.e.length X.e.length]):=h.p.p;obtain⟨id,o,n,nb,b,ks,a⟩:=t;obtain⟨hq,hlt⟩:=AtP.node h ht.at_;obtain⟨ti,hti,htz⟩:=Q9g;obtain⟨N,hN⟩:∃N,N=i+szTs (erTs ks):=⟨_,rfl⟩;rw[←hN]at hq hlt;have hres:(cvT X.M i (erT (.mk id o n nb b ks a))).eff=X.eff.getD N false:=by rw[hN];rfl
 rw[hres];have hid:id∈X.ids:=ht.id_in;obtain⟨cj,hcj⟩:=h.o id hid;have hcells:∀x∈atL X.ids,∃c,(⟨0,[],ou⟩:St).get x.2.1=some (.cells c):=fun x hx=>by obtain⟨j,hj,e⟩:=Q8l hx;rw[e];exact h.o j hj
 have hg:=Qax (l:=X.eff) (i:=N) (by rw[h.p.fl];exact hlt);refine zwk 20 Tryz.func105 fun hou=>?_;refine zA ?_;refine zdx 15 [(3,.one (.ptr (.o X.y.kp) 0)),(6,.one (.arr (.o X.y.kf) 1 0 X.e.length X.e.length)),(10,.one (.mp (.o X.ka))),(12,.one (int (N:Nat))),(13,.one (.ptr (.o X.y.kf) (0 * 1+N * 1))),(14,.one (bA (X.eff.getD N false)))] ?_ ?_
 ·refine .step rfl (zHP (zLD rfl rfl hv rfl)) ?_;refine .step rfl (zHP (zLD rfl rfl hp rfl)) ?_;refine .step rfl (zHP (zLD rfl rfl hv rfl)) ?_;refine .step rfl (zHP (Qv4 (j:=.o id) rfl Tryz.underlying92 Z43 hti htz rfl h.a rfl hcj hcells hq)) ?_;refine .step rfl (zHP (Qsb (n:=N) tabOk rfl rfl rfl rfl rfl rfl rfl hlt)) ?_;exact .step rfl (zHP (zLD rfl rfl h.p.f hg)) .nil
 refine zA ?_;exact Qst rfl (.refl _) zsy hou ⟨rfl,rfl⟩
end Go.Proofs.YtlmokgooijbcdaaGreatDoor
namespace Go.Abs
theorem Qv6{o:Oper}{fr:Fr}{r:FV}
  (hΓ:GI E.Γ) (hc:AFn E.P E.Γ g bs σ.ou (fun r' ou'=>r'=r/\ou'=ou2)) (hgd:o.guard=none) (Qvh:o.dst=some d) (hd:Nat.ble (d+1) E.N=true) (ho:o.op=.call { callee:=.value f,args:=args,argTypes:=tys })
  (hf:aEval E.Γ fr f=some (.one (.fn (.func g) first caps))) (hargs:Q1g E.Γ fr args.toList=some vs) (has:first.map .one++vs++caps.map .one=bs) (Qvd:idsF isO bs) (hou:OuOk σ.ou)
  (h:OuOk ou2->AOps E ops rest K ((d,r)::fr) { σ with ou:=ou2 }):AOps E ops (o::rest) K fr σ:=by
 refine Qrb hΓ hgd Qvh hd ho hf hargs has Qvd hou hc fun r' ou' hq _ how=>?_;obtain⟨rfl,rfl⟩:=hq;exact h how
theorem zcd{o:Oper}{fr:Fr}{r:FV}(hΓ:GI E.Γ)(hc:AFn E.P E.Γ g bs σ.ou (fun r' ou'=>r'=r/\ou'=ou2))(Qvd:idsF isO bs)(hou:OuOk σ.ou)(h:OuOk ou2->AOps E ops rest K ((d,r)::fr) { σ with ou:=ou2 })(hgd:o.guard=none:=by exact rfl)(Qvh:o.dst=some d:=by exact rfl)(hd:Nat.ble (d+1) E.N=true:=by exact rfl)(ho:o.op=.call { callee:=.value f,args:=args,argTypes:=tys }:=by exact rfl)(hf:aEval E.Γ fr f=some (.one (.fn (.func g) first caps)):=by exact rfl)(hargs:Q1g E.Γ fr args.toList=some vs:=by exact rfl)(has:first.map .one++vs++caps.map .one=bs:=by exact rfl):AOps E ops (o::rest) K fr σ:=Qv6 hΓ hc hgd Qvh hd ho hf hargs has Qvd hou h
theorem Qv7{o:Oper}{fr:Fr}{t:TypeId}{ti tj:TI}{l h:Operand}{k k':IntKind}{a b sz:Nat}(hT:TabOk E.P E.T)(ho:o.op=.slice t x (some l) (some h) none)(ht:Tab.get t E.T=some ti)(hk:Nat.beq ti.kind 2=true)(hj:Tab.get ti.elem E.T=some tj)(hsz:Nat.beq tj.size sz=true)
  (hx:aEval E.Γ fr x=some (.one (.sl sz es))) (hl:aEval E.Γ fr l=some (.one (.lit (.int k (a:Int))))) (hh:aEval E.Γ fr h=some (.one (.lit (.int k' (b:Int))))) (hab:a<=b) (hb:b<=es.length):AStep E o fr σ (.one (.sl sz ((es.drop a).take (b - a)))) σ:=by
 refine Qqz fun F w C tmps hi hf=>?_;have e1:=Q01 (a:=⟨tmps,E.ds⟩) hi hf hx;have e3:=Q01 (a:=⟨tmps,E.ds⟩) hi hf hl;have e4:=Q01 (a:=⟨tmps,E.ds⟩) hi hf hh;simp only[RF,R]at e1 e3 e4;obtain⟨ad,cap,hv,hcap,hrs⟩:=e1;have Qxz:tj.size=sz:=Z2v hsz;have hu:=(hT t ti ht).slice (Z2v hk);have Qwj:=(hT _ _ hj).run_sizeOf (w:=w);have hrun:(execOp (Act.eval ⟨tmps,E.ds⟩) o).run E.P w=.ok (.value (.slice (if cap=a then ad else ad.map (·.add (a * tj.size))) (b - a) (cap - a))) w:=by
  have h3:b<=cap:=by omega
  unfold execOp;simp only[ho,hv,e3.1,e4.1,Z3m,Z3l];have h4:(b:Int)<=(cap:Int):=by omega
  simp[Instr.sliceAt,Instr.slice,run_underlying hu,Qwj,Instr.sliceBounds,Instr.sliceBound,asIntOf,Result.andThen,h3,h4,hab]
 have hlen:((es.drop a).take (b - a)).length=b - a:=by simp;omega
 refine⟨_,hrun,?_⟩;simp only[RF,R,hlen];refine⟨_,_,rfl,by omega,?_⟩;rcases hrs with rfl|⟨b0,rfl,hs,hr⟩
 ·left;simp
 ·by_cases hca:a=es.length
  ·left;rw[hca];simp
  ·right;have e2:b0.add (a * tj.size)=⟨b0.block,b0.off+a * sz,none⟩:=by
    obtain⟨bl,of,sp⟩:=b0;simp only at hs;subst hs;simp only[Addr.add,Qxz];split
    ·rename_i h0;simp[h0]
    ·rfl
   rw[if_neg zoy,Z3m,e2];exact⟨_,rfl,rfl,RS.take _ (RS.drop a es b0 hs hr)⟩
theorem Qnv{Γ:List (Nat×List AC)}{C:Ctx}{N:Nat}{fr:Fr}{tmps:Array Value}(hi:Inv Γ F w C σ)(hf:FrOk w C N fr tmps){s len:Nat}(hg:σ.get (.o k)=some (.cells cs))(hd:Fr.get d fr=some (.one (.arr (.o k) s 0 len cap))):
  ∃C2,Goes F isO w C w C2/\Inv Γ F w C2 ((σ.set (.o k) .dead).push (.cells cs))/\FrOk w C2 N ((d,.one (.arr (.l σ.n) s 0 len cap))::fr) tmps:=by
 have hnw:=Qqq C (C.blk (.o k)) none hi.next;have he:Ext w C w (C.more (C.blk (.o k)) none):=⟨fun _ _=>rfl,fun _ h=>h,fun i _ ho=>Qqp C _ _ ho⟩;have hn:(σ.set (.o k) .dead).n=σ.n:=Qql _ _ _;obtain⟨hok,xs,T,h1,h2,h3,h4⟩:=hi.obj _ _ hg;refine⟨_,⟨Z3v _ _,he.weaken (fun _ _=>trivial),Z30 _,NewP.refl _ _⟩,(hi.kill hg).addObj (o:=.cells cs) (d:=.l σ.n) (fun i=>by rw[Z3u,hn]) he (by simp[Ctx.more,St.push,hn,hi.next]) hi.base hi.prot (fun _ _ _ _ _ _ h=>h) (fun _ _ _ _ _ _ h=>h) hnw.1 ?_ (fun i p g hp hb=>?_),hf.1,fun q x hq=>?_⟩
 ·refine⟨xs,T,?_,?_,h3.ext he,fun a ha=>?_⟩
  ·rw[hnw.2.1];exact h1
  ·rw[hnw.2.1];exact h2
  ·rw[hnw.2.1]at ha;exact h4 a ha
 ·intro hx;simp only[AObj.block,hnw.2.1,Z3o]at hx;by_cases e:i=.o k
  ·subst e;rw[Qqj]at hp;cases hp;cases hb
  ·rw[Qqk _ (fun h=>e h.symm)]at hp;exact e (hi.inj i (.o k) p (.cells cs) g hp hg hb (by simp only[AObj.block,hx]))
 ·simp only[Fr.get]at hq;by_cases e:d=q
  ·subst e;simp at hq;subst hq;obtain⟨u,hu,hr⟩:=hf.2 d _ hd;simp only[RF,R]at hr;refine⟨u,hu,?_⟩;simp only[RF,R];exact⟨hnw.1,by rw[hnw.2.1];exact hr.2.1,hr.2.2⟩
  ·rw[Q06 e]at hq;obtain⟨u,hu,hr⟩:=hf.2 q x hq;exact⟨u,hu,hr.ext he⟩
theorem Qv8{fr:Fr}(k d:Nat){s len:Nat}(hg:σ.get (.o k)=some (.cells cs))(hd:Fr.get d fr=some (.one (.arr (.o k) s 0 len cap)))
  (h:ACode E c K ((d,.one (.arr (.l σ.n) s 0 len cap))::fr) ((σ.set (.o k) .dead).push (.cells cs))):ACode E c K fr σ:=by
 intro F w0 C0 w C tmps hgo hi hf;obtain⟨C2,h1,h2,h3⟩:=Qnv hi hf hg hd;exact h F w0 C0 w C2 tmps (hgo.trans h1) h2 h3
theorem ACode.lessO{fr:Fr}(σ':St)(hn:σ'.n=σ.n)(hs:∀i o,σ'.get i=some o->σ.get i=some o)(h:ACode E c K fr σ'):ACode E c K fr σ:=by intro F w0 C0 w C tmps hg hi hf;exact h F w0 C0 w C tmps hg ⟨hi.base,by rw[hn];exact hi.next,hi.glob,hi.prot,fun i o ho=>hi.obj i o (hs i o ho),fun i j o o' g h1 h2 h3 h4=>hi.inj i j o o' g (hs i o h1) (hs j o' h2) h3 h4⟩ hf
section
variable {E:Env}{l:List Oper}{frb:Fr}{K:Cont}
theorem Q6d{o:Oper}{fr:Fr}(h:HStep E ops o fr σ σ' v):Q2n E ops o fr σ (fun w σ2=>w=v/\σ2=σ') PP:=.inl (.inl ⟨_,_,h,rfl,rfl⟩)
theorem Q0u{o:Oper}{fr:Fr}{us:List FV}{r:FV}
  (hΓ:GI E.Γ) (hc:AFn E.P E.Γ g us σ.ou (fun r' ou'=>r'=r/\ou'=ou2)) (hgd:o.guard=none) (ho:o.op=.call { callee:=.value f,args:=args,argTypes:=tys })
  (hf:aEval E.Γ fr f=some (.one (.fn (.func g) first caps))) (hargs:Q1g E.Γ fr args.toList=some vs) (has:first.map .one++vs++caps.map .one=us) (Qvd:idsF isO us) (hou:OuOk σ.ou):
  Q2n E ops o fr σ (fun w σ2=>w=r/\σ2={ σ with ou:=ou2 }) PP:=
 .inl (.inr ⟨hgd,Q1m.call hΓ ho hf hargs has Qvd hou hc fun r' ou' hq _ _=>⟨hq.1,by rw[hq.2]⟩⟩)
inductive AllP {α:Type}(P:α->Prop):List α->Prop
 |nil:AllP P []
 |cons {x:α}{r:List α}(h:P x) (k:AllP P r):AllP P (x::r)
theorem AllP.get{α:Type}{P:α->Prop}{l:List α}(h:AllP P l):∀{i:Nat}{x:α},l[i]?=some x->P x:=by
 induction h with
 |nil=>intro i x hx;simp at hx
 |cons h k ih=>
  intro i x hx;cases i with
  |zero=>simp at hx;subst hx;exact h
  |succ i=>exact ih (by simpa using hx)
inductive StD (E:Env)(l:List Oper)(frb:Fr)(vs0:List FV)(S:List Nat)(K:Cont):List FV->List Nat->List FV->List St->Prop
 |nil {vs:List FV}{σ:St}:StD E l frb vs0 S K vs [] [] [σ]
 |cons {vs:List FV}{i:Nat}{r:List Nat}{v:FV}{V:List FV}{σ σ':St}{Z:List St}{o:Oper}(h1:l[i]?=some o) (h2:dstOk E.N o.dst=true)
   (h3:Q2n E l.toArray o (Q0p l (mixV S vs0 (fC S vs)) o++frb) σ (fun w σ2=>w=v/\σ2=σ') (fun ps σ'=>K (.panic ps) frb σ')) (h4:StD E l frb vs0 S K (vs++[v]) r V (σ'::Z)):StD E l frb vs0 S K vs (i::r) (v::V) (σ::σ'::Z)
theorem StD.step{vs0:List FV}{S:List Nat}{vs:List FV}{r:List Nat}{V:List FV}{Z:List St}(h:StD E l frb vs0 S K vs r V Z):∀(p i:Nat)(o:Oper)(σ:St),r[p]?=some i->l[i]?=some o->Z[p]?=some σ->
  dstOk E.N o.dst=true/\∃v σ',V[p]?=some v/\Z[p+1]?=some σ'/\Q2n E l.toArray o (Q0p l (mixV S vs0 (fC S (vs++V.take p))) o++frb) σ (fun w σ2=>w=v/\σ2=σ') (fun ps σ'=>K (.panic ps) frb σ'):=by
 induction h with
 |nil=>intro p i o σ h1;simp at h1
 |@cons vs i0 r v V σ0 σ1 Z o0 h1 h2 h3 h4 ih=>
  intro p i o σ hp hl hz;cases p with
  |zero=>
   simp at hp hz;subst hp;subst hz;rw[h1]at hl;cases hl;exact⟨h2,v,σ1,rfl,rfl,by simpa using h3⟩
  |succ p=>
   obtain⟨q1,v',σ',q2,q3,q4⟩:=ih p i o σ (by simpa using hp) hl (by simpa using hz);refine⟨q1,v',σ',by simpa using q2,by simpa using q3,?_⟩;rw[show vs++(v::V).take (p+1)=vs++[v]++V.take p by simp];exact q4
theorem StD.len{S:List Nat}{r:List Nat}{V:List FV}{Z:List St}(h:StD E l frb vs0 S K vs r V Z):V.length=r.length/\Z.length=r.length+1:=by
 induction h with
 |nil=>simp
 |cons _ _ _ _ ih=>simp only[Z13]at ih ⊢;omega
theorem Qv9{fr:Fr}{σ0:St}{hd tl:List Oper}(hT:TabOk E.P E.T)(n:Nat)(S:List Nat)(cs:List (Nat×FV))(V:List FV)(Z:List St)(hm:E.P.follows .mixedOrders=true)(hB:drawB l n=true)(hsp:Q2s n l=some (hd,tl))(hfb:Qrn (dsts hd) fr=some frb)
  (hn:S.Nodup) (hch:chainB l S=true) (hqb:Q8r l S n=true) (Qvk:Q0g E l.toArray l frb σ0 (S.map (fun i=>(i,FV.bot))++cs) 0 hd []=some vs0)
  (hrun:AllP (fun σ=>Q0g E l.toArray l frb σ (S.map (fun i=>(i,FV.bot))++cs) 0 hd []=some vs0) Z) (hSl:∀i∈S,i < n) (hcs:AllP (fun σ=>Q09 E l frb σ vs0 cs) (σ0::Z))
  (hs:StD E l frb vs0 S K [] S V (σ0::Z))
  (Qvf:∀σ,(σ0::Z)[S.length]?=some σ->AOps E l.toArray tl K (Q0j (mixV S vs0 (fC S V)) 0 hd++frb) σ):ACode E (.region id l.toArray true) K fr σ0:=by
 have hlen:=hs.len;refine ACode.drawC2 hT n S cs (fun vs σ=>vs=V.take vs.length/\(σ0::Z)[vs.length]?=some σ) hm hB hsp hfb hn hch hqb ⟨by simp,rfl⟩ Qvk (fun vs σ h=>?_) (fun vs σ h=>hcs.get h.2) hSl (fun vs σ h i o hi ho=>?_) (fun vs σ hl h=>?_)
 ·exact (AllP.cons (P:=fun σ=>Q0g E l.toArray l frb σ (S.map (fun i=>(i,FV.bot))++cs) 0 hd []=some vs0) Qvk hrun).get h.2
 ·obtain⟨q1,v,σ',q2,q3,q4⟩:=hs.step vs.length i o σ hi ho h.2;rw[Z25,←h.1]at q4;refine⟨q1,q4.mono fun w σ2 hw=>?_⟩;obtain⟨rfl,rfl⟩:=hw;refine⟨?_,by simpa using q3⟩;rw[Z12,Z1b,Z2g,←h.1,q2];rfl
 ·have h1:vs=V:=by rw[h.1,hl,←hlen.1,Z2j]
  subst h1;exact Qvf σ (by rw[←hl];exact h.2)
def allB (l:List Oper):Bool:=distinct (dsts l)&&l.zipIdx.all fun x=>x.1.after.all fun e=>!Region.binds .any e||decide (e.on < x.2)
theorem Qpa{frb:Fr}(hB:allB l=true)(hfb:(dsts l).all (fun d=>(Fr.get d frb).isNone)=true)
  (Qvi:∀(i:Nat) (o:Oper),l[i]?=some o->∃v,vs[i]?=some v/\dstOk E.N o.dst=true/\HStep E l.toArray o (depFr l vs o++frb) σ σ v)
  (Qvf:AOps E l.toArray [] K (Q2x l vs++frb) σ){w0:World}{C0:Ctx}:
  ∀(c:Nat) (listed:Array Bool) (a:Act) (w:World),((List.range l.length).filter fun j=>!listed.getD j false).length=c->HeadInv .any l.toArray l.length listed->
   (a.defers=E.ds/\∃C,Goes F isO w0 C0 w C/\Inv E.Γ F w C σ/\FrOk w C E.N frb a.tmps/\∀i o d v,listed.getD i false=true->l[i]?=some o->o.dst=some d->vs[i]?=some v->∃u,a.tmps[d]?=some u/\RF w C v u)->
   wpAny E.P .any l.toArray (Post E F w0 C0 K) c listed a w:=by
 simp only[allB,Qzc]at hB;obtain⟨hdi,haf⟩:=hB;have hsz:l.toArray.size=l.length:=by simp
 intro c
 induction c with
 |zero=>
  intro listed a w Qvo hinv Qvr;have hall:∀j,j < l.length->listed.getD j false=true:=by intro j hj;have:(List.range l.length).filter (fun j=>!listed.getD j false)=[]:=Z0b Qvo;have h2:=Z0d.1 this j (Z21.2 hj);simpa using h2
  refine⟨List.eq_nil_iff_forall_not_mem.2 fun i hi=>?_,?_⟩
  ·obtain⟨hun,o,ho,_⟩:=mem_ready.1 hi;have hlo:l[i]?=some o:=by simpa using ho
   have:=hall i (Z0v.1 hlo).1;rw[getD_both hun]at this;cases this
  ·obtain⟨hd,C,hg,hi,hf,hv⟩:=Qvr;have ha:a=⟨a.tmps,E.ds⟩:=by cases a;simp_all
   rw[ha];refine Qvf F w0 C0 w C a.tmps hg hi ⟨hf.1,fun k x hk=>?_⟩;rcases Qr5 hk with hk|⟨_,hk⟩
   ·obtain⟨i,o,h1,h2,h3⟩:=Q66 (Qr6 hk);exact hv i o k x (hall i (Z0v.1 h1).1) h1 h2 h3
   ·exact hf.2 k x hk
 |succ c ih=>
  intro listed a w Qvo hinv Qvr;have hex:∃i,i < l.length/\listed.getD i false=false/\∀j,j < i->listed.getD j false=true:=by
   have hne:∃i,i < l.length/\listed.getD i false=false:=by
    cases hL:(List.range l.length).filter (fun j=>!listed.getD j false) with
    |nil=>rw[hL]at Qvo;simp at Qvo
    |cons i L=>
     have:i∈(List.range l.length).filter (fun j=>!listed.getD j false):=by rw[hL];simp
     obtain⟨h1,h2⟩:=Z1s.1 this;exact⟨i,Z21.1 h1,by simpa using h2⟩
   obtain⟨i,hi⟩:=hne
   induction i using Nat.strongRecOn with
   |_ i ih2=>
    by_cases h:∃j,j < i/\listed.getD j false=false
    ·obtain⟨j,hj,hj2⟩:=h;exact ih2 j hj ⟨by omega,hj2⟩
    ·exact⟨i,hi.1,hi.2,fun j hj=>(Qzg _).mp (fun hb=>h ⟨j,hj,hb⟩)⟩
  obtain⟨i0,hi0n,hi0u,hi0m⟩:=hex;have Qvj:i0∈Region.ready .any l.toArray listed:=by rw[mem_ready];refine⟨by rw[Q4j (by rw[hinv.size,hsz];exact hi0n)];exact hi0u,l[i0],by simp[hi0n],fun e he hb=>?_⟩;have h1:=Qzy.1 haf (l[i0],i0) (by rw[Z24];simp[hi0n]);have h2:=Qz4.1 h1 e he;simp only[hb,Qzi,Qzf,decide_eq_true_eq]at h2;exact hi0m _ h2
  refine⟨fun h=>absurd Qvj (by rw[h];simp),fun i hi=>?_⟩;obtain⟨hun,o,ho,hall⟩:=mem_ready.1 hi;have hlo:l[i]?=some o:=by simpa using ho
  have hin:i < l.length:=(Z0v.1 hlo).1;obtain⟨hd,C,hg,hinvw,hf,hvals⟩:=Qvr;have ha:a=⟨a.tmps,E.ds⟩:=by cases a;simp_all
  rw[ha];have Qw8:listed.getD i false=false:=getD_both hun;have hil:i < listed.size:=by rw[hinv.size,hsz];omega
  obtain⟨v,hvi,hdo,hst⟩:=Qvi i o hlo;have hdj:depFr l vs o=Q0p l (fun i=>vs[i]?) o:=rfl;have hfr:FrOk w C E.N (depFr l vs o++frb) a.tmps:=by
   rw[hdj];refine⟨hf.1,fun k x hk=>?_⟩;rcases Qr5 hk with hk|⟨_,hk⟩
   ·have hm:=Qr6 hk;obtain⟨e,he,he2⟩:=Z1t.1 hm;cases hb:Region.binds .any e with
    |false=>rw[hb]at he2;cases he2
    |true=>
     rw[hb]at he2;simp only[cond_true]at he2;cases h1:(l[e.on]?).bind (·.dst) with
     |none=>rw[h1]at he2;cases he2
     |some d=>
      cases h2:vs[e.on]? with
      |none=>rw[h1,h2]at he2;cases he2
      |some v'=>
       rw[h1,h2]at he2;cases he2;cases h3:l[e.on]? with
       |none=>rw[h3]at h1;cases h1
       |some oe=>
        rw[h3]at h1;exact hvals e.on oe k x (hall e (by simpa using he) hb) h3 h1 h2
   ·exact hf.2 k x hk
  refine Q7f hst hinvw hfr ho fun u w' C' hgo hi' hr=>?_;refine ih _ _ _ ?_ (hinv.set hi hin) ⟨put_defers ..,C',hg.trans hgo.toO,hi',?_,fun j oj dj vj hj hoj hdj hvj=>?_⟩
  ·have h2:((List.range l.length).filter fun j=>!(listed.setIfInBounds i true).getD j false).length+1=((List.range l.length).filter fun j=>!listed.getD j false).length:=Q7n hin Qw8 hil;omega
  ·cases hdd:o.dst with
   |none=>exact hf.ext hgo.chg
   |some d=>
    refine⟨by simp[Act.put,hf.1],fun k x hk=>?_⟩;obtain⟨u',hu',hr'⟩:=hf.2 k x hk;have hne:d≠k:=by rintro rfl;have h1:=Qzy.1 hfb d (Z1t.2 ⟨o,Z1y (i:=i) hlo,hdd⟩);rw[hk]at h1;cases h1
    refine⟨u',?_,hr'.ext hgo.chg⟩;simp only[Act.put];rw[Qz9 hne];exact hu'
  ·by_cases e:i=j
   ·subst e;rw[hlo]at hoj;cases hoj;rw[hvi]at hvj;cases hvj;have hdN:dj < a.tmps.size:=by rw[hf.1];rw[hdj]at hdo;exact Z2x (show Nat.ble (dj+1) E.N=true from hdo)
    exact⟨u,by rw[hdj];simp[Act.put,hdN],hr⟩
   ·rw[getD_set_ne false e]at hj;obtain⟨u',hu',hr'⟩:=hvals j oj dj vj hj hoj hdj hvj;cases hdd:o.dst with
    |none=>exact⟨u',hu',hr'.ext hgo.chg⟩
    |some d=>
     have hne:d≠dj:=by rintro rfl;exact e (Q1s hdi hlo hoj hdd hdj)
     refine⟨u',?_,hr'.ext hgo.chg⟩;simp only[Act.put];rw[Qz9 hne];exact hu'
theorem Qva{fr frb fr':Fr}(hT:TabOk E.P E.T)(cs:List (Nat×FV))(hm:E.P.follows .mixedOrders=true)(hB:allB l=true)(hfb:Qrn (dsts l) fr=some frb)
  (hrun:Q0l E l.toArray l frb σ cs 0 l []=some vs) (hfr:frOf l vs frb=some fr') (hcs:Q09 E l frb σ vs cs) (Qvf:AOps E l.toArray [] K fr' σ):ACode E (.region id l.toArray true) K fr σ:=by
 have h3:=Qro hfb;have h4:=Q6r hfr;have haf:(l.zipIdx.all fun x=>x.1.after.all fun e=>!Region.binds .any e||decide (e.on < x.2))=true:=by simp only[allB,Qzc]at hB;exact hB.2
 have hH:=Q6n (n:=l.length) hT (fun k o hk hkn=>Qzy.1 haf (o,k) (by rw[Z24];exact hk)) hcs l 0 [] vs rfl (fun i o hi=>⟨by simpa using hi,by have:=(Z0v.1 hi).1;omega⟩) hrun rfl;refine AAny.code hm fun F w0 C0 w C tmps hg hi hf=>?_;have h:=Qpa (F:=F) (w0:=w0) (C0:=C0) (frb:=frb) (σ:=σ) (vs:=vs) (K:=K) hB (by rw[←h3];exact Qri _ _) (fun i o ho=>by
   obtain⟨v,q1,_,q3,q4⟩:=hH.at.2 i o ho;refine⟨v,q1,q3,?_⟩;rw[if_neg (by have:=(Z0v.1 ho).1;omega)]at q4;exact q4.1) (by rw[h4];exact Qvf) l.length (Array.replicate l.toArray.size false) ⟨tmps,E.ds⟩ w.drew (by
   have:∀j,(!(Array.replicate l.toArray.size false).getD j false)=true:=fun j=>by rw[getD_replicate_false];rfl
   simp only[this];rw[Z0e.2 (fun _ _=>rfl),Z19])
  ⟨by simp,fun j oj _ hl=>(by rw[getD_replicate_false]at hl;cases hl),fun t _ ht=>getD_in (by simpa using ht) (getD_replicate_false _ _)⟩
  ⟨rfl,C,hg.trans (Goes.drew hi).toO,hi.drew.2,⟨hf.1,fun k x hk=>by obtain⟨u,hu,hr⟩:=hf.2 k x (by rw[←h3]at hk;exact (Qrh hk).1);exact⟨u,hu,hr.ext hi.drew.1⟩⟩,fun i o d v hl _ _ _=>by rw[getD_replicate_false]at hl;cases hl⟩
 rw[show l.toArray.size=l.length by simp];rw[show l.toArray.size=l.length by simp]at h;exact h
end
end Go.Abs
namespace Go.Proofs.YtlmokgooijbcdaaGreatDoor
variable {Γ:List (Nat×List AC)}
theorem P13_of{t:Tr}(h:allT ShL t):allT P13 t:=Qdp (fun l hl h13=>by obtain⟨o,n,b,ops,a⟩:=l;simp only at h13;subst h13;have h1:=ShN.handle (show ShN 13 n b ops.length a from hl.sh);simp only;omega) t h
def CvU (X:CvX)(ou:Outer):Prop:=∀s,CvO X s (cvO X ou s)
theorem CvO.u{X:CvX}(h:CvO X s ou):CvU X ou:=fun s'=>h.set s'
theorem CvU.fresh(hΓ:GI Γ){X:CvX}(H:CvU X ou)(hs:0<=s/\s<=lim):
  AFn Tryz.prog Γ 72 [.one (.ptr (.o X.kv) 0)] (cvO X ou s) (fun r ou'=>r=.one (int s)/\ou'=cvO X ou (s+1)):=by
 have h:=Qgl hΓ (H s) hs;rw[cvO_cvO]at h;exact h
theorem CvU.fr(hΓ:GI Γ){X:CvX}(H:CvU X ou)(s s':Int)(hs:0<=s/\s<=lim/\s'=s+1):
  AFn Tryz.prog Γ 72 [.one (.ptr (.o X.kv) 0)] (cvO X ou s) (fun r ou'=>r=.one (int s)/\ou'=cvO X ou s'):=by
 rw[hs.2.2];exact H.fresh hΓ ⟨hs.1,hs.2.1⟩
theorem CvU.node{X:CvX}(H:CvU X ou)(ht:PtO X i (.mk id o n nb b ks a))(s:Int):
  cvO X ou s id=some (.cells [int o,int n,.sl 1 (b.map cI),.sl 1 (kC ks),.sl 2 ((a.map LAlt.er).map cAlt)]):=by
 have h1:Owns (cvO X ou s) (objs (.mk id o n nb b ks a)):=fun p hp=>(H s).w p (ht.sub p hp);have h2:cvO X ou s id=some (.cells (lC (.mk id o n nb b ks a))):=Q77 h1;obtain⟨rfl,hpa,_⟩:=ht.pl;simp only[lC,bC,Q62 hpa]at h2;exact h2
theorem Qei{p:Nat×AObj}:∀{ks:List LTr}{t:LTr},t∈ks->p∈objs t->p∈objss ks
 |x::ks,t,h,hp=>by
  simp only[objss,Z1m];rcases Z1p.1 h with rfl|h
  ·exact .inl hp
  ·exact .inr (Qei h hp)
theorem PtO.kid{X:CvX}{i id:Nat}{o n:Int}{nb:Nb}{b:List Int}{ks:List LTr}{a:List LAlt}(h:PtO X i (.mk id o n nb b ks a)){j:Nat}{t:LTr}(ht:ks[j]?=some t):PtO X (i+szTs (erTs (ks.take j))) t:=by have hm:=Z1y ht;have hme:erT t∈(erT (.mk id o n nb b ks a)).kids:=Qip (t:=.mk id o n nb b ks a) (by simpa[LTr.kids]using hm);exact⟨h.at_.kid ht,fun p hp=>h.sub p (by simp only[objs,Z1m,Z1p];exact .inr (Qei hm hp)),Q9x h.pl (by simpa[LTr.kids]using hm),Qg1 h.ok hme,Qdo h.sh hme⟩
theorem Q6a(M:Mdl):∀{ks:List LTr}{i j:Nat}{t:LTr},ks[j]?=some t->(cvTs M i (erTs ks))[j]?=some (cvT M (i+szTs (erTs (ks.take j))) (erT t))
 |[],_,_,_,h=>by simp at h
 |k::ks,i,0,t,h=>by simp at h;subst h;simp[erTs,cvTs,szTs]
 |k::ks,i,j+1,t,h=>by have:=Q6a M (ks:=ks) (i:=i+szT (erT k)) (by simpa using h);simp only[erTs,cvTs,List.getElem?_cons_succ,this,Z2l,szTs,Z2p]
theorem Q5o(M:Mdl)(h:ks[j]?=some t):(cvTs M i (erTs ks)).getD j default=cvT M (i+szTs (erTs (ks.take j))) (erT t):=by rw[Z0o,Q6a M h];rfl
def CvA (Γ:List (Nat×List AC))(X:CvX)(ou:Outer)(g:Nat)(us:List FV)(s:Int)(R:Tr×Int):Prop:=AFn Tryz.prog Γ g us (cvO X ou s) (fun r ou'=>r=.one (.box (cTr R.1))/\ou'=cvO X ou R.2)
structure CvK (Γ:List (Nat×List AC))(X:CvX)(i:Nat)(t:LTr):Prop where
 P:∀ou s,CvU X ou->0<=s->s+20 * (szT (erT t):Int)<=lim->CvA Γ X ou 106 [.one (.ptr (.o X.kv) 0),.one (.ptr (.o t.id) 0)] s ((cvT X.M i (erT t)).P s)
 F:(erT t).op=2->∀ou s,CvU X ou->0<=s->s+20 * (szT (erT t):Int)<=lim->CvA Γ X ou 108 [.one (.ptr (.o X.kv) 0),.one (.ptr (.o t.id) 0)] s ((cvT X.M i (erT t)).F s)
 T:∀ou k m s,CvU X ou->0<=s->s+20 * (szT (erT t):Int)<=lim->CvA Γ X ou 78 [.one (.ptr (.o X.kv) 0),.one (.ptr (.o t.id) 0),.one (int k),.one (int m)] s ((cvT X.M i (erT t)).T k m s)
def CvKs (Γ:List (Nat×List AC))(X:CvX)(i:Nat)(ks:List LTr):Prop:=∀j t,ks[j]?=some t->CvK Γ X (i+szTs (erTs (ks.take j))) t
theorem Qdy(id:Nat)(o n:Int)(nb:Nb)(b:List Int)(ks:List LTr)(a:List LAlt):szT (erT (.mk id o n nb b ks a))=szTs (erTs ks)+1:=by simp[erT,szT]
theorem Qh4(h:ks[j]?=some t):szT (erT t)<=szTs (erTs ks):=by
 induction ks generalizing j with
 |nil=>simp at h
 |cons k ks ih=>
  simp only[erTs,szTs];cases j with
  |zero=>simp at h;subst h;omega
  |succ j=>have:=ih (j:=j) (by simpa using h);omega
theorem Q10:(erTs ks).length=ks.length:=by rw[Q26];simp
theorem Qa2(hΓ:GI Γ){X:CvX}(H:CvU X ou)(ht:PtO X i (.mk id o n nb b ks a))(s:Int):
  AFn Tryz.prog Γ 134 [.one (.ptr (.o id) 0)] (cvO X ou s) (fun r ou'=>r=.one (int (opnds o ks.length:Nat))/\ou'=cvO X ou s):=by
 have hi:=H.node ht s;refine zwk 22 Tryz.func134 fun hou=>?_;repeat' first|refine zN ?_|((with_reducible refine oj ?_);first|refine zix ?_|refine zow rfl rfl hi ?_)|(with_reducible refine oj ?_;refine Qrq rfl rfl rfl rfl (fun hb=>?_) (fun hb=>?_))|(with_reducible refine ok ?_;first|refine Qsk rfl (fun hb=>?_) (fun hb=>?_)|refine Qyl rfl (fun hb=>?_) (fun hb=>?_))
 all_goals (refine Qst rfl (Z46 ?_) zsy hou ⟨rfl,rfl⟩;simp_all[opnds,kC])
theorem Qaj(hΓ:GI Γ){X:CvX}{k0:LTr}(ht:PtO X i (.mk id 2 n nb b [k0] a))(ih:CvK Γ X i k0):
  ∀ou s,CvU X ou->0<=s->s+20 * (szT (erT (.mk id 2 n nb b [k0] a)):Int)<=lim->CvA Γ X ou 108 [.one (.ptr (.o X.kv) 0),.one (.ptr (.o id) 0)] s ((cvT X.M i (erT (.mk id 2 n nb b [k0] a))).F s):=by
 intro ou s H hs0 hsl;have hi:=H.node ht s;have hv:cvO X ou s X.kv=some (.cells [.ptr (.o X.y.kp) 0,.mp (.o X.ka),int s,int X.up]):=(H s).v;obtain⟨N,hN⟩:∃N,N=i+szTs (erTs [k0]):=⟨_,rfl⟩;obtain⟨hq,hlt⟩:=AtP.node (H s) ht.at_;rw[←hN]at hq hlt;obtain⟨ti,hti,htz⟩:=Q9g;have hid:id∈X.ids:=ht.id_in;obtain⟨cj,hcj⟩:=(H s).o id hid;have hcells:∀x∈atL X.ids,∃c,(⟨0,[],cvO X ou s⟩:St).get x.2.1=some (.cells c):=fun x hx=>by obtain⟨j,hj,e⟩:=Q8l hx;rw[e];exact (H s).o j hj
 have hps:=Qea hΓ (H s).p (i:=N) zoy;have hsz:szT (erT k0)<=szTs (erTs [k0]):=Qh4 (j:=0) rfl;rw[Qdy]at hsl;have hF:(cvT X.M i (erT (.mk id 2 n nb b [k0] a))).F s=funB (X.imp.getD (rtOf X.rt N) false) b (cvT X.M i (erT k0)) s:=by rw[hN];rfl
 rw[hF];refine zwk 66 Tryz.func108 fun hou=>?_;refine zA ?_;refine zdx 11 [(3,.one (.ptr (.o X.y.kp) 0)),(7,.one (.mp (.o X.ka))),(9,.one (int (N:Nat))),(10,.one (bA (X.imp.getD (rtOf X.rt N) false)))] ?_ ?_
 ·refine .step rfl (zHP (zLD rfl rfl hv rfl)) ?_;refine .step rfl (zHP (zLD rfl rfl hv rfl)) ?_;refine .step rfl (zHP (Qv4 (j:=.o id) rfl Tryz.underlying92 Z43 hti htz rfl (H s).a rfl hcj hcells hq)) ?_;exact Q09.callK hΓ hps hou zsy rfl rfl rfl rfl rfl rfl .nil
 cases hb:X.imp.getD (rtOf X.rt N) false with
 |false=>
  refine zM ?_;obtain⟨p,hp⟩:∃p,p=(cvT X.M i (erT k0)).P s:=⟨_,rfl⟩;have hP:=ih.P ou s H hs0 zoy;have hFf:funB false b (cvT X.M i (erT k0)) s=(lamE p.1 b,p.2):=by rw[hp];rfl
  unfold CvA at hP;rw[←hp]at hP;rw[hFf];refine Qv9 tabOk 13 [7,12] [(4,.one (.sl 1 (kC [k0]))),(5,.one (.box [.ptr (.o k0.id) 0])),(11,.one (.sl 1 (b.map cI)))] [.one (.box (cTr p.1)),.one (.box (cTr (lamE p.1 b)))] [⟨0,[],cvO X ou p.2⟩,⟨0,[],cvO X ou p.2⟩] follows zky rfl rfl zdy zky zky rfl (.cons rfl (.cons rfl .nil)) zdy ?_ ?_ ?_
  ·refine .cons ?_ (.cons ?_ (.cons ?_ .nil)) <;> exact .step rfl (zHP (zLD rfl rfl (H.node ht _) rfl)) (.step rfl (zHP (Qz2 (n:=0) tabOk rfl rfl rfl rfl rfl rfl (.inl rfl) rfl zdy rfl)) (.step rfl (zHP (zLD rfl rfl (H.node ht _) rfl)) .nil))
  ·refine .cons rfl rfl (Q0u hΓ hP rfl rfl rfl rfl rfl zsy hou) ?_;exact .cons rfl rfl (Q0u hΓ (Q3x p.1 b _) rfl rfl rfl rfl rfl zsy (H p.2).ok) .nil
  ·intro σ hσ;cases hσ;refine zA ?_;exact Qst rfl (.refl _) zsy (H p.2).ok ⟨rfl,rfl⟩
 |true=>
  have hbl:b.length<=1048576:=ht.ok.1;obtain⟨p,hp⟩:∃p,p=(cvT X.M i (erT k0)).T (s+1) (s+2) (s+3):=⟨_,rfl⟩;have hT:=ih.T ou (s+1) (s+2) (s+3) H zoy zoy;have hFt:funB true b (cvT X.M i (erT k0)) s=(lamE (takeE (refE s) p.1 [s+1,s+2]) (b++[s]),p.2):=by rw[hp];rfl
  unfold CvA at hT;rw[←hp]at hT;rw[hFt];refine zM ?_;refine zcd hΓ (H.fr hΓ s (s+1) zoy) zsy hou fun h1=>?_;refine zA ?_;refine zcd hΓ (H.fr hΓ (s+1) (s+2) zoy) zsy h1 fun h2=>?_;refine zA ?_;refine zcd hΓ (H.fr hΓ (s+2) (s+3) zoy) zsy h2 fun h3=>?_;refine zA ?_;refine Qv9 tabOk 16 [11,15] [(1,.one (.box (cTr (refE s)))),(6,.one (.sl 1 (kC [k0]))),(7,.one (.box [.ptr (.o k0.id) 0]))] [.one (.box (cTr p.1)),.one (.box (cTr (takeE (refE s) p.1 [s+1,s+2])))] [⟨0,[],cvO X ou p.2⟩,⟨0,[],cvO X ou p.2⟩] follows zky rfl rfl zdy zky zky rfl (.cons rfl (.cons rfl .nil)) zdy ?_ ?_ ?_
  ·refine .cons ?_ (.cons ?_ (.cons ?_ .nil)) <;> exact .callK hΓ (Q0e s _) (H _).ok zsy rfl rfl rfl rfl rfl rfl (.step rfl (zHP (zLD rfl rfl (H.node ht _) rfl)) (.step rfl (zHP (Qz2 (n:=0) tabOk rfl rfl rfl rfl rfl rfl (.inl rfl) rfl zdy rfl)) .nil))
  ·refine .cons rfl rfl (Q0u hΓ hT rfl rfl rfl rfl rfl zsy h3) ?_;exact .cons rfl rfl (Q0u hΓ (Q97 (refE s) p.1 [s+1,s+2] _) rfl rfl rfl rfl rfl zsy (H p.2).ok) .nil
  ·intro σ hσ;cases hσ;have hi2:=H.node ht p.2;repeat' first|refine zN ?_|((with_reducible refine oj ?_);first|refine zix ?_|refine zow rfl rfl hi2 ?_)
   by_cases hb0:b=[]
   ·subst hb0;refine zS (Qt3 tabOk rfl rfl rfl rfl rfl rfl) ?_;refine zA ?_;refine Qyu tabOk rfl rfl rfl rfl rfl rfl rfl rfl rfl (.nil 1) (.sl 1 [cI s]) zsy rfl (by simp;show 1 * 8<=_;omega) zsy fun cap hc=>?_;refine AOps.freezeArr (.l 0) 64 rfl (by intro x hx;simp at hx;subst hx;rfl) rfl ?_;refine zA ?_;refine zcd hΓ (Q3x (takeE (refE s) p.1 [s+1,s+2]) [s] _) zsy (H p.2).ok fun h5=>?_;refine zA ?_;exact Qst rfl (.refl _) zsy (H p.2).ok ⟨rfl,rfl⟩
   ·have h1l:∀x∈b.map cI,x.length=1:=fun x hx=>by obtain⟨y,_,rfl⟩:=Z1w.1 hx;rfl
    refine Qyu tabOk rfl rfl rfl rfl rfl rfl rfl rfl rfl (.nil 1) (.sl 1 (b.map cI)) (by simpa using hb0) rfl (by simp;show _ * 8<=_;omega) zuy fun cap hc=>?_;simp only[Z25]at hc ⊢;refine zA ?_;refine Qyu tabOk rfl rfl rfl rfl rfl rfl rfl rfl rfl (.own 1 cap (b.map cI) (.l 0) rfl h1l hc) (.sl 1 [cI s]) zsy rfl (by simp;show (_+1) * 8<=_;omega) zuy fun cap2 hc2=>?_;refine AOps.freezeArr (.l 1) 64 rfl (by intro x hx;rcases Z1m.1 hx with hx|hx;exact h1l x hx;simp at hx;subst hx;rfl) rfl ?_;refine Qyz 64 rfl (y:=.one (.sl 1 ((b++[s]).map cI))) (.ofEq zsy) ?_;refine zA ?_;refine zcd hΓ (Q3x (takeE (refE s) p.1 [s+1,s+2]) (b++[s]) _) ⟨by simp[FV.ids,AC.ids],Qda _ _,trivial⟩ (H p.2).ok fun h5=>?_;refine zA ?_;exact Qst rfl (.refl _) zsy (H p.2).ok ⟨rfl,rfl⟩
end Go.Proofs.YtlmokgooijbcdaaGreatDoor
namespace Go.CoreX
theorem Qg4:∀(l r:List Cv)(s:Int),mpP (l++r) s=((mpP l s).1++(mpP r (mpP l s).2).1,(mpP r (mpP l s).2).2)
 |[],r,s=>by simp[mpP]
 |c::l,r,s=>by simp[mpP,Qg4 l r]
theorem Qm1:∀(l r:List Cv)(s:Int),mpF (l++r) s=((mpF l s).1++(mpF r (mpF l s).2).1,(mpF r (mpF l s).2).2)
 |[],r,s=>by simp[mpF]
 |c::l,r,s=>by simp[mpF,Qm1 l r]
theorem Qlz(k m:Int):∀(l r:List Cv)(s:Int),mpK k m (l++r) s=((mpK k m l s).1++(mpK k m r (mpK k m l s).2).1,(mpK k m r (mpK k m l s).2).2)
 |[],r,s=>by simp[mpK]
 |c::l,r,s=>by simp[mpK,Qlz k m l r]
theorem Qg3:∀(l:List Cv)(s:Int),(mpP l s).1.length=l.length
 |[],s=>rfl
 |c::l,s=>by simp[mpP,Qg3 l]
theorem Qm0:∀(l:List Cv)(s:Int),(mpF l s).1.length=l.length
 |[],s=>rfl
 |c::l,s=>by simp[mpF,Qm0 l]
theorem Qly(k m:Int):∀(l:List Cv)(s:Int),(mpK k m l s).1.length=l.length
 |[],s=>rfl
 |c::l,s=>by simp[mpK,Qly k m l]
theorem Qdk(M:Mdl):∀(l r:List Tr)(i:Nat),cvTs M i (l++r)=cvTs M i l++cvTs M (i+szTs l) r
 |[],r,i=>by simp[cvTs,szTs]
 |t::l,r,i=>by simp[cvTs,szTs,Qdk M l r,Z2p]
theorem Q98:∀(l r:List Tr),szTs (l++r)=szTs l+szTs r
 |[],r=>by simp[szTs]
 |t::l,r=>by simp[szTs,Q98 l r,Z2p]
theorem Qix{p:Lab->Prop}:∀{l:List Tr},(∀t∈l,allT p t)->allTs p l
 |[],_=>trivial
 |t::l,h=>⟨h t zsy,Qix fun x hx=>h x (by simp[hx])⟩
end Go.CoreX
namespace Go.Proofs.YtlmokgooijbcdaaGreatDoor
variable {Γ:List (Nat×List AC)}
theorem PtO.sh13{X:CvX}(h:PtO X i (.mk id o n nb b ks a)):∀t∈ks,allT P13 (erT t):=fun t ht=>P13_of (Qdo h.sh (Qip (t:=.mk id o n nb b ks a) (by simpa[LTr.kids]using ht)))
theorem PtO.shN{X:CvX}(h:PtO X i (.mk id o n nb b ks a)):ShN o n b ks.length (a.map LAlt.er):=by have h1:=Q1u h.sh;have h2:ShN o n b (((erTs ks).map Tr.op).length) (a.map LAlt.er):=h1.sh;rw[Z16,Q10]at h2;exact h2
def cvS (X:CvX)(i:Nat)(ks:List LTr)(p q:Nat):List Cv:=((cvTs X.M i (erTs ks)).drop p).take q
theorem Q7l{X:CvX}(h:ks[p+q]?=some t):cvS X i ks p (q+1)=cvS X i ks p q++[cvT X.M (i+szTs (erTs (ks.take (p+q)))) (erT t)]:=by unfold cvS;rw[Z2g,Z0s,Q6a X.M h];rfl
theorem Qkm(h:ks[j]?=some t):szTs (erTs (ks.take j))+szT (erT t)<=szTs (erTs ks):=by
 have h1:ks=ks.take j++[t]++ks.drop (j+1):=by rw[←Q0h h,Z2h]
 have h2:szTs (erTs ks)=szTs (erTs (ks.take j))+szT (erT t)+szTs (erTs (ks.drop (j+1))):=by
  conv=>lhs;rw[h1]
  simp only[Q26,Z1e,Q98,Z1g,Z1j,szTs,Z2t]
 omega
theorem Qdx(ks:List LTr)(p:Nat):szTs (erTs ks)=szTs (erTs (ks.take p))+szTs (erTs (ks.drop p)):=by
 conv=>lhs;rw[←Z2h p ks]
 simp only[Q26,Z1e,Q98]
theorem Q3t(h:ks[j]?=some t):szTs (erTs (ks.drop j))=szT (erT t)+szTs (erTs (ks.drop (j+1))):=by have hj:=(Z0v.1 h).1;rw[Z07 hj,(Z0v.1 h).2];rfl
theorem Q90{X:CvX}(h:∀t∈ks,allT P13 (erT t))(p q:Nat):∃C,Bds (cvS X i ks p q) C/\C+20 * (szTs (erTs (ks.drop (p+q))):Int)<=20 * (szTs (erTs (ks.drop p)):Int):=by
 have h13:∀l:List LTr,(∀t∈l,t∈ks)->allTs P13 (erTs l):=fun l hl=>Qix fun t ht=>by rw[Q26]at ht;obtain⟨s,hs,rfl⟩:=Z1w.1 ht;exact h s (hl s hs)
 have e1:cvTs X.M i (erTs ks)=cvTs X.M i (erTs (ks.take p))++cvTs X.M (i+szTs (erTs (ks.take p))) (erTs (ks.drop p)):=by rw[←Qdk];congr 1;simp only[Q26,←Z1e,Z2h]
 rcases Z33 p ks.length with hp|hp
 ·have e2:(cvTs X.M i (erTs ks)).drop p=cvTs X.M (i+szTs (erTs (ks.take p))) (erTs (ks.drop p)):=by rw[e1,List.drop_append_of_le_length (by rw[Q1c,Q10];simp;omega),Z08 (by rw[Q1c,Q10];simp;omega)];rfl
  have e3:cvTs X.M (i+szTs (erTs (ks.take p))) (erTs (ks.drop p))=cvTs X.M (i+szTs (erTs (ks.take p))) (erTs ((ks.drop p).take q))++cvTs X.M (i+szTs (erTs (ks.take p))+szTs (erTs ((ks.drop p).take q))) (erTs ((ks.drop p).drop q)):=by rw[←Qdk];congr 1;simp only[Q26,←Z1e,Z2h]
  refine⟨20 * (szTs (erTs ((ks.drop p).take q)):Int),?_,?_⟩
  ·unfold cvS;rw[e2,e3];rcases Z33 q (ks.drop p).length with hq|hq
   ·rw[Z2i (by rw[Q1c,Q10];simp at hq ⊢;omega),Z2k (by rw[Q1c,Q10];simp;omega)];exact Qdj X.M _ _ (h13 _ fun t ht=>Z1z (List.mem_of_mem_take ht))
   ·rw[←e3,Z2k (by rw[Q1c,Q10];exact hq),Z2k hq];exact Qdj X.M _ _ (h13 _ fun t ht=>Z1z ht)
  ·have h1:=Qdx (ks.drop p) q;rw[List.drop_drop]at h1;omega
 ·refine⟨0,?_,?_⟩
  ·unfold cvS;rw[Z08 (by rw[Q1c,Q10];exact hp),List.take_nil];exact .nil
  ·rw[Z08 zoy,Z08 hp];simp
theorem Qc5(hΓ:GI Γ){X:CvX}(ht:PtO X i (.mk id o n nb b ks a))(ih:CvKs Γ X i ks):
  ∀ou s,CvU X ou->0<=s->s+20 * (szT (erT (.mk id o n nb b ks a)):Int)<=lim->CvA Γ X ou 106 [.one (.ptr (.o X.kv) 0),.one (.ptr (.o id) 0)] s ((cvT X.M i (erT (.mk id o n nb b ks a))).P s):=by
 intro ou s H hs0 hsl;have hi:=H.node ht s;have hsh:=ht.shN;have hkl:ks.length<=1048576:=by have:=ht.ok.2.1;rwa [Q10]at this
 have Qye:=hsl;rw[Qdy]at hsl;obtain⟨N,hN⟩:∃N,N=i+szTs (erTs ks):=⟨_,rfl⟩;have hP:(cvT X.M i (erT (.mk id o n nb b ks a))).P s=pureB (X.M.pas N) o n b (a.map LAlt.er) (cvTs X.M i (erTs ks)) s:=by rw[hN];rfl
 rw[hP];refine zwk 57 Tryz.func106 fun hou=>?_;by_cases e2:o=2
 ·subst e2;obtain⟨k0,rfl⟩:∃k0,ks=[k0]:=by
   have:=hsh.lam.1
   match ks,this with|[k0],_=>exact⟨k0,rfl⟩
  have hF:=Qaj hΓ ht (ih 0 k0 rfl) ou s H hs0 Qye;have hFe:(cvT X.M i (erT (.mk id 2 n nb b [k0] a))).F s=pureB (X.M.pas N) 2 n b (a.map LAlt.er) (cvTs X.M i (erTs [k0])) s:=by rw[hN];rfl
  rw[hFe]at hF;repeat' first|refine zN ?_|((with_reducible refine oj ?_);first|refine zix ?_|refine zow rfl rfl hi ?_)
  refine zcd hΓ hF zsy hou fun h1=>?_;refine zA ?_;exact Qst rfl (.refl _) zsy h1 ⟨rfl,rfl⟩
 have hPe:pureB (X.M.pas N) o n b (a.map LAlt.er) (cvTs X.M i (erTs ks)) s=(.mk o n b (mpP (cvS X i ks 0 ks.length) s).1 (a.map LAlt.er),(mpP (cvS X i ks 0 ks.length) s).2):=by unfold pureB cvS;rw[if_neg e2,Z0a,Z2k (by rw[Q1c,Q10];exact Z30 _)]
 rw[hPe];obtain⟨al,hal⟩:∃al,al=a.map LAlt.er:=⟨_,rfl⟩;rw[←hal]at hi ⊢;have hbd:∀j t,ks[j]?=some t->s<=(mpP (cvS X i ks 0 j) s).2/\(mpP (cvS X i ks 0 j) s).2+20 * (szT (erT t):Int)<=lim:=fun j t hj=>by obtain⟨C,h1,h2⟩:=Q90 (X:=X) (i:=i) ht.sh13 0 j;have h3:=h1.mpP s;have h4:=Q3t hj;rw[Z3a,Z0a]at h2;omega
 repeat' first|refine zN ?_|((with_reducible refine oj ?_);first|refine zix ?_|refine zow rfl rfl hi ?_)
 refine Qyl rfl (fun hb=>absurd hb (by simpa using e2)) (fun _=>?_);refine zA ?_;refine Qu1 (va:=.one (.ptr (.l 0) 0)) (σ1:=(⟨1,[(0,.cells [int o,int n,.sl 1 (b.map cI),.lit (.slice none 0 0),.sl 2 (al.map cAlt)])],cvO X ou s⟩)) tabOk 18 17 [(3,.one (int o)),(7,.one (int n)),(11,.one (.sl 1 (b.map cI))),(15,.one (.sl 2 (al.map cAlt)))] follows zky rfl rfl rfl rfl rfl rfl rfl (Qzr tabOk rfl) ?_ ?_ ?_
 ·exact .step rfl (zHP (zLD rfl rfl hi rfl)) (.step rfl (zHP (zLD rfl rfl hi rfl)) (.step rfl (zHP (zLD rfl rfl hi rfl)) (.step rfl (zHP (zLD rfl rfl hi rfl)) .nil)))
 ·exact .step rfl (zHP (zLD rfl rfl hi rfl)) (.step rfl (zHP (zLD rfl rfl hi rfl)) (.step rfl (zHP (zLD rfl rfl hi rfl)) (.step rfl (zHP (zLD rfl rfl hi rfl)) .nil)))
 repeat' first|refine zN ?_|((with_reducible refine oj ?_);first|refine zix ?_|refine zow rfl rfl hi ?_)
 refine Qyq 0 3 74 1 rfl rfl ?_;refine Qre hΓ (α:=Nat) (fun c=>[(39,.one (int (c:Nat))),(38,.one (int (kC ks).length)),(37,.one (.sl 1 (kC ks))),(5,.one (.ptr (.l 0) 0)),(0,.one (.ptr (.o X.kv) 0))])
  (fun c=>⟨2,[(1,.tok 74 1 c),(0,.cells [int o,int n,.sl 1 (b.map cI),.gs 1 ((mpP (cvS X i ks 0 c) s).1.map cB) (.l 1),.sl 2 (al.map cAlt)])],cvO X ou (mpP (cvS X i ks 0 c) s).2⟩) (fun m c=>c<=ks.length/\m=ks.length - c) (a0:=0) (ρ:=_root_.id) ⟨by omega,rfl⟩
  (Qzw rfl zFS zsy ?_ rfl rfl hou) fun m c hcc=>?_
 ·repeat' first|exact Z2n|refine zlc ?_|refine zld ?_ ?_|rfl
  all_goals (simp[AObj.ren,renL,AC.ren];exact⟨rfl,rfl⟩)
 obtain⟨hjl,rfl⟩:=hcc;have hok:=(H (mpP (cvS X i ks 0 c) s).2).ok;refine zA ?_;refine Qyl rfl (fun hb2=>?_) (fun hb2=>?_)
 ·have hlt:c < ks.length:=by have:=of_decide_eq_true hb2;rw[Q3z]at this;omega
  obtain⟨t,htc⟩:=Q00 hlt;obtain⟨g1,g2⟩:=hbd c t htc;obtain⟨pv,hpv⟩:∃pv,pv=(mpP (cvS X i ks 0 c) s).1:=⟨_,rfl⟩;obtain⟨sv,hsv⟩:∃sv,sv=(mpP (cvS X i ks 0 c) s).2:=⟨_,rfl⟩;obtain⟨rt,hrt⟩:∃rt,rt=(cvT X.M (i+szTs (erTs (ks.take c))) (erT t)).P sv:=⟨_,rfl⟩;have hs1:mpP (cvS X i ks 0 (c+1)) s=(pv++[rt.1],rt.2):=by rw[Q7l (by simpa using htc),Qg4,←hpv,←hsv,hrt];simp only[Z3a];rfl
  have hpl:(pv.map cB).length=c:=by rw[Z16,hpv,Qg3];unfold cvS;rw[Z0a,Z1c,Q1c,Q10];omega
  rw[←hsv]at g1 g2 hok;have hca:=(ih c t htc).P ou sv H zoy g2;unfold CvA at hca;rw[←hrt]at hca;rw[←hpv,←hsv];refine zA ?_;refine zS (zIA rfl rfl rfl zoy (Q5k htc)) ?_;refine zA ?_;refine Qv9 tabOk 10 [7,8,9] [] [.one (.box (cTr rt.1)),.one (.sl 1 [cB rt.1]),.one (.gs 1 (pv.map cB++[cB rt.1]) (.l 2))] [⟨2,[(1,.tok 74 1 c),(0,.cells [int o,int n,.sl 1 (b.map cI),.gs 1 (pv.map cB) (.l 1),.sl 2 (al.map cAlt)])],cvO X ou rt.2⟩,⟨2,[(1,.tok 74 1 c),(0,.cells [int o,int n,.sl 1 (b.map cI),.gs 1 (pv.map cB) (.l 1),.sl 2 (al.map cAlt)])],cvO X ou rt.2⟩,(St.set ⟨2,[(1,.tok 74 1 c),(0,.cells [int o,int n,.sl 1 (b.map cI),.gs 1 (pv.map cB) (.l 1),.sl 2 (al.map cAlt)])],cvO X ou rt.2⟩ (.l 1) .dead).push (.tok 74 1 (pv.map cB++[cB rt.1]).length)] follows zky rfl rfl zdy zky zky rfl (.cons rfl (.cons rfl (.cons rfl .nil))) zdy (.cons .nil (.cons .nil (.cons .nil (.cons .nil .nil)))) ?_ ?_
  ·refine .cons rfl rfl (Q0u hΓ hca rfl rfl rfl rfl rfl zsy hok) ?_;refine .cons rfl rfl (Q6d (zHP (Qqs tabOk rfl))) ?_;refine .cons rfl rfl (Q6d (zHP (Qz1 (s:=1) (es:=pv.map cB) (news:=[cB rt.1]) (ti:=ti117) tabOk rfl rfl rfl rfl rfl rfl (Qrm _ 74 1 (pv.map cB) (.l 1) rfl hpl.symm) (.sl _ _) rfl ?_ ?_))) .nil
   ·rw[hpl];show (c+1) * 8<=_;omega
   ·rw[hpl];show c+1<=_;omega
  ·intro σ hσ;cases hσ;have Qwm:=(H rt.2).ok;refine zM ?_;refine cInv ⟨ks.length - (c+1),c+1,fun k=>if k=1 then 2 else k,by omega,⟨by omega,rfl⟩,Qzw rfl zFS zsy ?_ rfl (by rw[hs1];rfl) Qwm⟩;repeat' first|exact Z2n|refine zlc ?_|refine zld ?_ ?_|rfl
   ·simp only[AObj.ren,Z12,hpl];rfl
   ·rw[hs1];simp only[AObj.ren,renL,AC.ren,Q3v,Qct,Q3w];rw[Z1e];rfl
 ·have hce:c=ks.length:=by have:=of_decide_eq_false hb2;rw[Q3z]at this;omega
  subst hce;repeat ((fail_if_success ((with_reducible refine oj ?_);refine Qtz 4 rfl ?_));first|refine zO ?_)
  refine Qyx (.l 0) 56 rfl rfl ?_;refine zA ?_;refine Qst rfl (.one (Z45 (.cons (.refl _) (.cons (.refl _) (.cons (.refl _) (.cons (.gsE (Q0a _).symm) (.cons (.refl _) .nil))))))) zsy hok ⟨rfl,rfl⟩
theorem Qho{X:CvX}(ht:PtO X i (.mk id o n nb b ks a)):opnds o ks.length<=ks.length:=by
 unfold opnds;split
 ·exact Z30 _
 ·split
  ·rename_i h;rcases h with rfl|rfl
   ·have:=ht.shN.case.1;omega
   ·have:=(ht.shN.one (.inr (.inl rfl))).1;omega
  ·omega
def midK (ks:List LTr)(p q:Nat):List LTr:=(ks.drop p).take q
theorem Qma(ks:List LTr)(p q:Nat):((kC ks).drop p).take q=kC (midK ks p q):=by simp[kC,midK,List.map_drop,Z1k]
theorem Qhy(h:ks[p+j]?=some t)(hj:j < q):(midK ks p q)[j]?=some t:=by unfold midK;rw[Z0z hj,Z0s];exact h
theorem Qph(hΓ:GI Γ){X:CvX}(H:CvU X ou)(ht:PtO X i (.mk id o n nb b ks a))(s:Int){at_:Nat}(hat:at_<=opnds o ks.length):
  AFn Tryz.prog Γ 133 [.one (.ptr (.o X.kv) 0),.one (.ptr (.o id) 0),.one (int (at_:Nat))] (cvO X ou s) (fun r ou'=>r=.one (bA ((cvS X i ks at_ (opnds o ks.length - at_)).any fun c=>c.eff))/\ou'=cvO X ou s):=by
 have hi:=H.node ht s;have hol:=Qho ht;have hop:=Qa2 hΓ H ht s;obtain⟨K,hK⟩:∃K,K=opnds o ks.length:=⟨_,rfl⟩;rw[←hK]at hop hat hol ⊢;have hkl:ks.length<=1048576:=by have:=ht.ok.2.1;rwa [Q10]at this
 refine zwk 26 Tryz.func133 fun hou=>?_;refine zA ?_;refine Qva tabOk [(3,.one (.sl 1 (kC ks))),(6,.one (int (K:Nat))),(7,.one (.sl 1 (kC (midK ks at_ (K - at_)))))] follows zky rfl rfl rfl ?_ ?_
 ·refine .step rfl (zHP (zLD rfl rfl hi rfl)) ?_;refine .callK hΓ hop hou zsy rfl rfl rfl rfl rfl rfl ?_;exact .step rfl (zHP (Qz3 (Qv7 tabOk rfl rfl rfl rfl rfl rfl rfl rfl hat (by rw[Q3z];exact hol)) (.ofEq (by rw[Qma])))) .nil
 refine zA ?_;refine Qre hΓ (α:=Nat) (fun c=>[(18,.one (int (c:Nat))),(17,.one (int (kC (midK ks at_ (K - at_))).length)),(16,.one (.sl 1 (kC (midK ks at_ (K - at_))))),(0,.one (.ptr (.o X.kv) 0))]) (fun c=>⟨0,[],cvO X ou s⟩)
   (fun m c=>c<=K - at_/\(cvS X i ks at_ c).any (fun c=>c.eff)=false/\m=K - at_ - c) (a0:=0) (ρ:=_root_.id) ⟨by omega,rfl,rfl⟩
   (Qzw rfl zFS (by simp[AC.ids,inL]) zLO rfl rfl hou) fun m c hc=>?_
 obtain⟨hcl,hno,rfl⟩:=hc;have hlen:(kC (midK ks at_ (K - at_))).length=K - at_:=by rw[Q3z,midK,Z1c,Z14];omega
 refine zA ?_;refine Qyl rfl (fun hb2=>?_) (fun hb2=>?_)
 ·have hlt:c < K - at_:=by have:=of_decide_eq_true hb2;rw[hlen]at this;omega
  obtain⟨t,htc⟩:=Q00 (l:=ks) (i:=at_+c) zoy;have hef:=Q7k hΓ (H s) (ht.kid htc);have hsc:=Q7l (X:=X) (i:=i) htc;refine zA ?_;refine zS (zIA rfl rfl rfl zoy (Q5k (Qhy htc hlt))) ?_;refine zA ?_;refine Qyv hΓ hef rfl rfl rfl rfl rfl rfl rfl hou zsy ?_;cases hE:(cvT X.M (i+szTs (erTs (ks.take (at_+c)))) (erT t)).eff with
  |true=>
   have hall:(cvS X i ks at_ (K - at_)).any (fun c=>c.eff)=true:=by rw[Z00];refine⟨cvT X.M (i+szTs (erTs (ks.take (at_+c)))) (erT t),?_,hE⟩;unfold cvS;rw[List.mem_take_iff_getElem];have h1:=Q6a X.M (i:=i) htc;have h2:=(Z0v.1 h1).1;refine⟨c,by rw[Z14];omega,?_⟩;rw[List.getElem_drop];exact (Z0v.1 h1).2
   rw[hall];refine zM ?_;exact Qst rfl (.refl _) (by simp[bA,AC.ids]) hou ⟨rfl,rfl⟩
  |false=>
   refine zM ?_;exact cInv ⟨K - at_ - (c+1),c+1,_root_.id,by omega,⟨by omega,by rw[hsc,List.any_append,hno];simp[hE],rfl⟩,Qzw rfl zFS (by simp[AC.ids,inL]) zLO rfl rfl hou⟩
 ·have hce:c=K - at_:=by have:=of_decide_eq_false hb2;rw[hlen]at this;omega
  subst hce;rw[hno];refine zA ?_;exact Qst rfl (.refl _) (by simp[bA,AC.ids]) hou ⟨rfl,rfl⟩
theorem Qgr(hΓ:GI Γ){X:CvX}(H:CvU X ou)(ih:CvK Γ X i t)(id inn:Int)(rest:Tr)(m s:Int)(hs0:0<=s)(hsl:s+1+20 * (szT (erT t):Int)<=lim):
  CvA Γ X ou 107 [.one (.ptr (.o X.kv) 0),.one (.ptr (.o t.id) 0),.one (int id),.one (int inn),.one (.box (cTr rest)),.one (int m)] s (bindB (cvT X.M i (erT t)) id inn rest m s):=by
 obtain⟨p,hp⟩:∃p,p=(cvT X.M i (erT t)).T s m (s+1):=⟨_,rfl⟩;have hT:=ih.T ou s m (s+1) H zoy hsl;have hB:bindB (cvT X.M i (erT t)) id inn rest m s=(letE s (lamE rest [id,inn]) p.1,p.2):=by rw[hp];rfl
 unfold CvA at hT;rw[←hp]at hT;rw[hB];refine zwk 28 Tryz.func107 fun hou=>?_;refine zA ?_;refine zcd hΓ (H.fr hΓ s (s+1) zoy) zsy hou fun h1=>?_;refine zA ?_;refine zcd hΓ (Q3x rest [id,inn] _) zsy h1 fun h2=>?_;refine zA ?_;refine zcd hΓ hT zsy h1 fun h3=>?_;refine zA ?_;refine zcd hΓ (Q4i s (lamE rest [id,inn]) p.1 _) zsy h3 fun h4=>?_;refine zA ?_;exact Qst rfl (.refl _) zsy h3 ⟨rfl,rfl⟩
end Go.Proofs.YtlmokgooijbcdaaGreatDoor
namespace Go.Abs
theorem ACode.done{fr:Fr}(d:Nat){s:Nat}{oc:Option (Nat×Nat)}(hG:GO s es oc ov)(hd:Fr.get d fr=some (.one (gC s es oc)))(hsub:∀q o,ou q=some o->ov q=some o/\q∉gK oc)
  (h:∀oc',coO es oc'->ACode E c K ((d,.one (oaC 0 s es oc'))::fr) ⟨1,[(0,oaO s es oc')],ou⟩):ACode E c K fr ⟨0,[],ov⟩:=by
 cases oc with
 |none=>
  refine ACode.ghost ?_;refine ACode.lessO ⟨1,[(0,.dead)],ou⟩ rfl (fun i o ho=>?_) ?_
  ·cases i with
   |l m=>exact ho
   |o m=>exact (hsub m o ho).1
  ·intro F w0 C0 w C tmps hg hi hf;refine h none (hG.nn rfl) F w0 C0 w C tmps hg hi ⟨hf.1,fun k x hk=>?_⟩;simp only[Fr.get]at hk;by_cases e:d=k
   ·subst e;simp at hk;subst hk;exact hf.2 d _ hd
   ·rw[Q06 e]at hk;exact hf.2 k x hk
 |some p=>
  obtain⟨kn,cap⟩:=p;obtain⟨h1,h2⟩:=hG.ob kn cap rfl;refine Qv8 kn d h1 hd (ACode.lessO ⟨1,[(0,oaO s es (some cap))],ou⟩ rfl (fun i o ho=>?_) (h (some cap) h2));cases i with
  |l m=>exact ho
  |o m=>
   obtain⟨q1,q2⟩:=hsub m o ho;have hne:m≠kn:=fun e=>q2 (by simp[gK,e]);show (bif Nat.beq m kn then some AObj.dead else ov m)=some o;rw[Q06 hne];exact q1
theorem ACode.freezeArr{fr:Fr}(i:Id)(d:Nat){s:Nat}(hg:σ.get i=some (.cells (vec s es cap)))(hl:∀x∈es,x.length=s)(hd:Fr.get d fr=some (.one (.arr i s 0 es.length cap)))
  (h:ACode E c K ((d,.one (.sl s es))::fr) (σ.set i .dead)):ACode E c K fr σ:=by
 intro F w0 C0 w C tmps hgo hi hf;obtain⟨h1,h2,h3⟩:=Q6q hi hf hg (fr':=[]) trivial;obtain⟨hok,zs,T,b1,b2,b3,b4⟩:=hi.obj i _ hg;refine h F w0 C0 w _ tmps (hgo.trans h1.toO) h2 ⟨hf.1,fun k x hk=>?_⟩;simp only[Fr.get]at hk;by_cases e:d=k
 ·subst e;simp at hk;subst hk;obtain⟨u,hu,hr⟩:=hf.2 d _ hd;simp only[RF,R,Z3c]at hr;refine⟨u,hu,some ⟨C.blk i,0,none⟩,cap,hr.2.1,hr.2.2,.inr ⟨_,rfl,rfl,?_⟩⟩;have hfl:=Q3o hl;have hzl:=RV.length b3;have hv:RV w (C.froze (C.blk i)) es.flatten (zs.take (es.length * s)):=by have:=(b3.take (es.length * s)).ext h1.chg;rwa [vec,Z2i zoy,Z2k zoy]at this
  refine RS.ofVals 0 hl hv fun j v hj=>⟨?_,.inr rfl⟩;have h2:j < es.length * s:=by have:=(Z0v.1 hj).1;simp at this;omega
  rw[Z0z h2]at hj;rw[Z3a,cell_of_row _ _ _ _ _ _ b1];simpa using hj
 ·rw[Q06 e]at hk;obtain⟨u,hu,hr⟩:=hf.2 k x hk;exact⟨u,hu,hr.ext h1.chg⟩
theorem Qvb{o:Oper}{fr:Fr}{i:Id}(h:AStep E o fr σ (.one (.ptr i 0)) σ')(hg:σ'.get i=some (.cells cs)):AStep E o fr σ (.one (.box cs)) (σ'.set i .dead):=by
 intro F w C tmps hi hf next Q hk
 refine h F w C tmps hi hf next Q fun u w' C' hgo hi' hr=>?_
 obtain⟨h1,h2,h4⟩:=hi'.freeze hg;refine hk u w' _ (hgo.trans h1) h2 ?_;simp only[RF,R]at hr ⊢;exact⟨⟨C'.blk i,0,none⟩,hr.2,rfl,h4⟩
theorem ACode.frzG{fr:Fr}(j d:Nat){s:Nat}(hg:σ.get (.l j)=some (oaO s es oc))(hco:coO es oc)(hl:∀x∈es,x.length=s)(hd:Fr.get d fr=some (.one (oaC j s es oc)))
  (h:ACode E c K ((d,.one (.sl s es))::fr) (σ.set (.l j) .dead)):ACode E c K fr σ:=by
 cases oc with
 |some cap=>exact ACode.freezeArr (.l j) d hg hl hd h
 |none=>
  have he:es=[]:=hco;subst he;refine ACode.lessO (σ.set (.l j) .dead) (Qql _ _ _) (fun i o ho=>?_) ?_
  ·by_cases e:Id.l j=i
   ·subst e;rw[Qqj]at ho;rw[←ho];exact hg
   ·rw[Qqk _ e]at ho;exact ho
  ·intro F w0 C0 w C tmps hgo hi hf;refine h F w0 C0 w C tmps hgo hi ⟨hf.1,fun k x hk=>?_⟩;simp only[Fr.get]at hk;by_cases e:d=k
   ·subst e;simp at hk;subst hk;obtain⟨u,hu,hr⟩:=hf.2 d _ hd;simp only[RF,R,oaC]at hr;refine⟨u,hu,?_⟩;simp only[RF,R];exact⟨none,0,hr.1,by simp,.inl zsy⟩
   ·rw[Q06 e]at hk;exact hf.2 k x hk
theorem AOps.frzG{c:List Oper}{fr:Fr}(j d:Nat){s:Nat}(hg:σ.get (.l j)=some (oaO s es oc))(hco:coO es oc)(hl:∀x∈es,x.length=s)(hd:Fr.get d fr=some (.one (oaC j s es oc)))
  (h:AOps E ops c K ((d,.one (.sl s es))::fr) (σ.set (.l j) .dead)):AOps E ops c K fr σ:=by
 cases oc with
 |some cap=>exact AOps.freezeArr (.l j) d hg hl hd h
 |none=>
  have he:es=[]:=hco;subst he;refine AOps.lessO (σ.set (.l j) .dead) (Qql _ _ _) (fun i o ho=>?_) ?_
  ·by_cases e:Id.l j=i
   ·subst e;rw[Qqj]at ho;rw[←ho];exact hg
   ·rw[Qqk _ e]at ho;exact ho
  ·intro F w0 C0 w C tmps hgo hi hf;refine h F w0 C0 w C tmps hgo hi ⟨hf.1,fun k x hk=>?_⟩;simp only[Fr.get]at hk;by_cases e:d=k
   ·subst e;simp at hk;subst hk;obtain⟨u,hu,hr⟩:=hf.2 d _ hd;simp only[RF,R,oaC]at hr;refine⟨u,hu,?_⟩;simp only[RF,R];exact⟨none,0,hr.1,by simp,.inl zsy⟩
   ·rw[Q06 e]at hk;exact hf.2 k x hk
end Go.Abs
namespace Go.Proofs.YtlmokgooijbcdaaGreatDoor
variable {Γ:List (Nat×List AC)}
def CvL (Γ:List (Nat×List AC))(X:CvX)(ou:Outer)(g:Nat)(pre:List FV)(l:List Tr)(k m:Int)(s:Int)(R:Tr×Int):Prop:=∀(ov:Outer)(oc:Option (Nat×Nat)),GO 1 (l.map cB) oc ov->OuOk ov->(∀q o,cvO X ou s q=some o->ov q=some o/\q∉gK oc)->
 AFn Tryz.prog Γ g (pre++[.one (gC 1 (l.map cB) oc),.one (int k),.one (int m)]) ov (fun r ou'=>r=.one (.box (cTr R.1))/\ou'=cvO X ou R.2)
theorem Q6h(l:List Tr):∀x∈l.map cB,x.length=1:=fun x hx=>by obtain⟨y,_,rfl⟩:=Z1w.1 hx;rfl
theorem mpK_bd{X:CvX}(h:∀t∈ks,allT P13 (erT t))(k m s:Int)(p q:Nat)(t:LTr)(ht:ks[p+q]?=some t):s<=(mpK k m (cvS X i ks p q) s).2/\(mpK k m (cvS X i ks p q) s).2+20 * (szT (erT t):Int)<=s+20 * (szTs (erTs (ks.drop p)):Int):=by obtain⟨C,h1,h2⟩:=Q90 (X:=X) (i:=i) h p q;have h3:=h1.mpK k m s;have h4:=Q3t ht;omega
theorem Qn4(hΓ:GI Γ){X:CvX}(ht:PtO X i (.mk id o n nb b ks a))(ih:CvKs Γ X i ks)(l:List Tr)(hll:l.length<=1048576)(hl7:o=7∨o=12->l≠[]):
  ∀ou k m s,CvU X ou->0<=s->s+(if o=7 then 20 * (szTs (erTs (ks.drop 1)):Int)else 0)<=lim->CvL Γ X ou 135 [.one (.ptr (.o X.kv) 0),.one (.ptr (.o id) 0)] l k m s (finB X.M.up (X.M.cnv (i+szTs (erTs ks))) o n b (a.map LAlt.er) (cvS X i ks 1 (ks.length - 1)) l k m s):=by
 intro ou k m s H hs0 hsl ov oc hG hov hsub;have hi:=H.node ht s;have hsh:=ht.shN;have hkl:ks.length<=1048576:=by have:=ht.ok.2.1;rwa [Q10]at this
 obtain⟨N,hN⟩:∃N,N=i+szTs (erTs ks):=⟨_,rfl⟩;obtain⟨hq,hlt⟩:=AtP.node (H s) ht.at_;rw[←hN]at hq hlt ⊢;obtain⟨al,hal⟩:∃al,al=a.map LAlt.er:=⟨_,rfl⟩;rw[←hal]at hi ⊢;have hou:OuOk (cvO X ou s):=(H s).ok;have hv:cvO X ou s X.kv=some (.cells [.ptr (.o X.y.kp) 0,.mp (.o X.ka),int s,int X.up]):=(H s).v;obtain⟨ti,hti,htz⟩:=Q9g;have hid:id∈X.ids:=ht.id_in;obtain⟨cj,hcj⟩:=(H s).o id hid;have hcells:∀lo n',∀x∈atL X.ids,∃c,(⟨n',lo,cvO X ou s⟩:St).get x.2.1=some (.cells c):=fun lo n' x hx=>by obtain⟨j,hj,e⟩:=Q8l hx;rw[e];exact (H s).o j hj
 refine zwk 128 Tryz.func135 fun _=>?_;refine ACode.done (ou:=cvO X ou s) 2 hG rfl hsub fun oc' hco=>?_;repeat' first|refine zN ?_|((with_reducible refine oj ?_);first|refine zix ?_|refine zow rfl rfl hi ?_)
 by_cases e7:o=7
 ·subst e7;cases oc' with
  |none=>exact absurd (List.map_eq_nil_iff.1 hco) (hl7 (.inl rfl))
  |some cap0=>
  have hk1:1<=ks.length:=by have:=hsh.case.1;omega
  rw[if_pos rfl]at hsl;have hFe:finB X.M.up (X.M.cnv N) 7 n b al (cvS X i ks 1 (ks.length - 1)) l k m s=(.mk 7 0 [] (l++(mpK k m (cvS X i ks 1 (ks.length - 1)) s).1) al,(mpK k m (cvS X i ks 1 (ks.length - 1)) s).2):=by simp[finB]
  rw[hFe];repeat' first|refine zN ?_|((with_reducible refine oj ?_);first|refine zix ?_|refine zow rfl rfl hi ?_)
  refine zS (Qz3 (Qt7 (b:=1) tabOk rfl rfl rfl rfl rfl rfl rfl (by rw[Q3z];exact hk1)) (y:=.one (.sl 1 (kC (ks.drop 1)))) (.ofEq (by simp[kC,List.map_drop]))) ?_;refine zA ?_;have hdl:(kC (ks.drop 1)).length=ks.length - 1:=by rw[Q3z,Z14]
  refine Qre hΓ (α:=Nat×Nat) (fun c=>[(33,.one (int (c.1:Nat))),(32,.one (int (kC (ks.drop 1)).length)),(31,.one (.sl 1 (kC (ks.drop 1)))),(11,.one (.ptr (.l 1) 0)),(4,.one (int m)),(3,.one (int k)),(0,.one (.ptr (.o X.kv) 0))])
   (fun c=>⟨2,[(1,.cells [int 7,int 0,.lit (.slice none 0 0),oaC 0 1 ((l++(mpK k m (cvS X i ks 1 c.1) s).1).map cB) (some c.2),.sl 2 (al.map cAlt)]),(0,oaO 1 ((l++(mpK k m (cvS X i ks 1 c.1) s).1).map cB) (some c.2))],cvO X ou (mpK k m (cvS X i ks 1 c.1) s).2⟩) (fun m' c=>c.1<=ks.length - 1/\((l++(mpK k m (cvS X i ks 1 c.1) s).1).map cB).length<=c.2/\m'=ks.length - 1 - c.1) (a0:=(0,cap0)) (ρ:=_root_.id) ⟨by omega,by simpa[cvS,mpK,coO]using hco,rfl⟩
   (Qzw rfl zFS zsy ?_ rfl rfl hou) fun m' c hcc=>?_
  ·have h0:(mpK k m (cvS X i ks 1 0) s).1=[]:=by simp[cvS,mpK]
   dsimp only;rw[h0,Z02];repeat' first|exact Z2n|refine zlc ?_|refine zld ?_ ?_|rfl
   all_goals (simp[AObj.ren,renL,AC.ren];try rfl)
  obtain⟨c,cap⟩:=c;obtain⟨hcl,hcc,rfl⟩:=hcc;dsimp only at hcl hcc;obtain⟨pv,hpv⟩:∃pv,pv=l++(mpK k m (cvS X i ks 1 c) s).1:=⟨_,rfl⟩;obtain⟨sv,hsv⟩:∃sv,sv=(mpK k m (cvS X i ks 1 c) s).2:=⟨_,rfl⟩;have hok:=(H sv).ok;have hpl:pv.length=l.length+c:=by rw[hpv,Z12,Qly];unfold cvS;rw[Z1c,Z14,Q1c,Q10];omega
  dsimp only;rw[←hpv]at hcc;rw[←hpv,←hsv];refine zA ?_;refine Qyl rfl (fun hb2=>?_) (fun hb2=>?_)
  ·have hlt:c < ks.length - 1:=by have:=of_decide_eq_true hb2;rw[hdl]at this;omega
   obtain⟨t,htc⟩:=Q00 (l:=ks) (i:=1+c) zoy;obtain⟨g1,g2⟩:=mpK_bd (X:=X) (i:=i) ht.sh13 k m s 1 c t htc;rw[←hsv]at g1 g2;obtain⟨rt,hrt⟩:∃rt,rt=(cvT X.M (i+szTs (erTs (ks.take (1+c)))) (erT t)).T k m sv:=⟨_,rfl⟩;have hs1:l++(mpK k m (cvS X i ks 1 (c+1)) s).1=pv++[rt.1]/\(mpK k m (cvS X i ks 1 (c+1)) s).2=rt.2:=by rw[Q7l htc,Qlz,←hsv,hrt,hpv];simp only[Z01];exact⟨rfl,rfl⟩
   have hca:=(ih (1+c) t htc).T ou k m sv H zoy zoy;unfold CvA at hca;rw[←hrt]at hca;have htd:(ks.drop 1)[c]?=some t:=by rw[Z0s];exact htc
   refine zA ?_;refine zS (zIA rfl rfl rfl zoy (Q5k htd)) ?_;refine zA ?_;refine ACode.drawC2 tabOk 12 [9,10,11] [] (fun vs σ=>match vs with
    |[]=>σ=⟨2,[(1,.cells [int 7,int 0,.lit (.slice none 0 0),oaC 0 1 (pv.map cB) (some cap),.sl 2 (al.map cAlt)]),(0,oaO 1 (pv.map cB) (some cap))],cvO X ou sv⟩
    |[v]=>v=.one (.box (cTr rt.1))/\σ=⟨2,[(1,.cells [int 7,int 0,.lit (.slice none 0 0),oaC 0 1 (pv.map cB) (some cap),.sl 2 (al.map cAlt)]),(0,oaO 1 (pv.map cB) (some cap))],cvO X ou rt.2⟩
    |[v,w]=>v=.one (.box (cTr rt.1))/\w=.one (.sl 1 [cB rt.1])/\σ=⟨2,[(1,.cells [int 7,int 0,.lit (.slice none 0 0),oaC 0 1 (pv.map cB) (some cap),.sl 2 (al.map cAlt)]),(0,oaO 1 (pv.map cB) (some cap))],cvO X ou rt.2⟩
    |[v,w,y]=>v=.one (.box (cTr rt.1))/\w=.one (.sl 1 [cB rt.1])/\∃cap',(pv.map cB++[cB rt.1]).length<=cap'/\y=.one (.arr (.l 2) 1 0 (pv.map cB++[cB rt.1]).length cap')/\σ=(St.set ⟨2,[(1,.cells [int 7,int 0,.lit (.slice none 0 0),oaC 0 1 (pv.map cB) (some cap),.sl 2 (al.map cAlt)]),(0,oaO 1 (pv.map cB) (some cap))],cvO X ou rt.2⟩ (.l 0) .dead).push (.cells (vec 1 (pv.map cB++[cB rt.1]) cap'))
    |_=>False) follows zky rfl rfl zdy zky zky rfl rfl ?_ (fun _ _ _=>.nil) zdy ?_ ?_
   ·intro vs σ h
    match vs with
    |[]=>subst h;rfl
    |[_]=>obtain⟨_,rfl⟩:=h;rfl
    |[_,_]=>obtain⟨_,_,rfl⟩:=h;rfl
    |[_,_,_]=>obtain⟨_,_,cap',_,_,rfl⟩:=h;rfl
    |_::_::_::_::_=>exact h.elim
   ·intro vs σ h i op hi ho
    match vs with
    |[]=>
     subst h;cases hi;cases ho;exact⟨rfl,Q0u hΓ hca rfl rfl rfl rfl rfl zsy hok⟩
    |[_]=>
     obtain⟨rfl,rfl⟩:=h;cases hi;cases ho;exact⟨rfl,.inl (.inl ⟨_,_,Qzs rfl (Qqs tabOk rfl),rfl,rfl,rfl⟩)⟩
    |[_,_]=>
     obtain⟨rfl,rfl,rfl⟩:=h;cases hi;cases ho;refine⟨rfl,Q2n.mono (.inl (.inr ⟨rfl,Q1m.appOwn (es:=pv.map cB) (news:=[cB rt.1]) tabOk rfl rfl rfl rfl rfl rfl (.own 1 cap (pv.map cB) (.l 0) rfl (Q6h pv) hcc) (.sl 1 _) zsy rfl (by simp;show (_+1) * 8<=_;omega) zuy⟩)) fun v σ' hq=>?_⟩;obtain⟨cap',q1,q2,q3⟩:=hq;exact⟨rfl,rfl,cap',q1,q2,q3⟩
    |_::_::_::_=>cases hi
   ·intro vs σ hl h
    match vs,hl with
    |[_,_,_],_=>
     obtain⟨rfl,rfl,cap',hc',rfl,rfl⟩:=h;have Qwm:=(H rt.2).ok;obtain⟨pw,hpw⟩:∃pw,pw=pv++[rt.1]:=⟨_,rfl⟩;have he:pv.map cB++[cB rt.1]=pw.map cB:=by rw[hpw];simp
     rw[←hpw]at hs1;rw[he]at hc' ⊢;refine zM ?_;refine cInv ⟨ks.length - 1 - (c+1),(c+1,cap'),fun k=>if k=0 then 2 else k,by omega,⟨by omega,by dsimp only;rw[hs1.1];exact hc',rfl⟩,Qzw rfl zFS zsy ?_ rfl (by dsimp only;rw[hs1.2];rfl) Qwm⟩;dsimp only;rw[hs1.1];repeat' first|exact Z2n|refine zlc ?_|refine zld ?_ ?_|rfl
     ·simp only[AObj.ren,renL,AC.ren,Qlb,Q3w];rfl
     ·exact (Qla (fun k=>if k=0 then 2 else k) 1 (pw.map cB) (some cap') fun _=>Qg9 zsy).symm
  ·have hce:c=ks.length - 1:=by have:=of_decide_eq_false hb2;rw[hdl]at this;omega
   subst hce;repeat ((fail_if_success ((with_reducible refine oj ?_);refine Qtz 10 rfl ?_));first|refine zO ?_)
   refine AOps.freezeArrO (.l 0) (.l 1) 3 (s:=1) (cap:=cap) (es:=pv.map cB) (cs:=[int 7,int 0,.lit (.slice none 0 0),oaC 0 1 (pv.map cB) (some cap),.sl 2 (al.map cAlt)]) rfl (Q6h pv) rfl rfl ?_;refine Qyx (.l 1) 52 rfl rfl ?_;refine zA ?_;rw[←hpv,←hsv];exact Qst rfl (.one (Z45 (.cons (.refl _) (.cons (.refl _) (.cons (.nilS 1) (.cons (.ofEq (by rw[Q0a];rfl)) (.cons (.refl _) .nil))))))) zsy hok ⟨rfl,rfl⟩
 refine Qyl rfl (fun hb=>absurd hb (by simpa using e7)) (fun _=>?_);by_cases e12:o=12
 ·subst e12;obtain⟨x,r,rfl⟩:∃x r,l=x::r:=by
   cases l with
   |nil=>exact absurd rfl (hl7 (.inr rfl))
   |cons x r=>exact⟨x,r,rfl⟩
  have hFe:finB X.M.up (X.M.cnv N) 12 n b al (cvS X i ks 1 (ks.length - 1)) (x::r) k m s=(appE [refE X.up,wordE n,x,refE k,refE m],s):=by simp[finB];rfl
  rw[hFe];refine ACode.frzG 0 2 rfl hco (Q6h _) rfl ?_;repeat' first|refine zN ?_|((with_reducible refine oj ?_);first|refine zix ?_|refine zow rfl rfl hi ?_)
  have happ:=Q53 (Γ:=Γ) [refE X.up,wordE n,x,refE k,refE m];refine zdx 19 [(3,.one (int X.up)),(4,.one (.box (cTr (refE X.up)))),(8,.one (int n)),(9,.one (.box (cTr (wordE n)))),(11,.one (.box [.box (cTr x)])),(14,.one (.box (cTr (refE k)))),(16,.one (.box (cTr (refE m)))),(18,.one (.box (cTr (appE [refE X.up,wordE n,x,refE k,refE m]))))] ?_ ?_
  ·refine .step rfl (zHP (zLD rfl rfl hv rfl)) ?_;refine .callK hΓ (Q0e X.up _) hou zsy rfl rfl rfl rfl rfl rfl ?_;refine .step rfl (zHP (zLD rfl rfl hi rfl)) ?_;refine .callK hΓ (Qch n _) hou zsy rfl rfl rfl rfl rfl rfl ?_;refine .step rfl (zHP (Qz2 (n:=0) tabOk rfl rfl rfl rfl rfl rfl (.inl rfl) rfl zdy rfl)) ?_;refine .callK hΓ (Q0e k _) hou zsy rfl rfl rfl rfl rfl rfl ?_;refine .callK hΓ (Q0e m _) hou zsy rfl rfl rfl rfl rfl rfl ?_;exact .callK hΓ (happ _) hou zsy rfl rfl rfl rfl rfl (by rw[Q0a];rfl) .nil
  refine zA ?_;exact Qst rfl (.refl _) zsy hou ⟨rfl,rfl⟩
 repeat' first|refine zN ?_|((with_reducible refine oj ?_);first|refine zix ?_|refine zow rfl rfl hi ?_)
 refine Qyl rfl (fun hb=>absurd hb (by simpa using e12)) (fun _=>?_);refine zA ?_;have hco3:=Q91 hΓ (H s).p (H s).fi N;by_cases e3:o=3
 ·subst e3;refine zdx 18 [(3,.one (int 3)),(4,.one (.lit (.bool true))),(9,.one (.ptr (.o X.y.kp) 0)),(13,.one (.mp (.o X.ka))),(15,.one (int (N:Nat))),(16,.one (bA (cnvN X.rt X.l X.imp N)))] ?_ ?_
  ·refine .step rfl (zHP (zLD rfl rfl hi rfl)) ?_;refine .step rfl (zHP (Qqs tabOk rfl)) ?_;refine .step rfl (Qrf rfl rfl rfl (zLD rfl rfl hv rfl)) ?_;refine .step rfl (Qrf rfl rfl rfl (zLD rfl rfl hv rfl)) ?_;refine .step rfl (Qrf rfl rfl rfl (Qv4 (j:=.o id) rfl Tryz.underlying92 Z43 hti htz rfl (H s).a rfl hcj (hcells _ _) hq)) ?_;exact .step rfl (Qrf rfl rfl rfl (AStep.callK hΓ rfl rfl rfl zsy hou hco3)) .nil
  cases hb:cnvN X.rt X.l X.imp N with
  |true=>
   have hFe:finB X.M.up (X.M.cnv N) 3 n b al (cvS X i ks 1 (ks.length - 1)) l k m s=(appE (l++[conE 1 [refE k,refE m]]),s):=by have:X.M.cnv N=true:=hb;simp[finB,this]
   rw[hFe];refine zM ?_;refine zcd hΓ (Q0e k _) zsy hou fun _=>?_;refine zA ?_;refine zcd hΓ (Q0e m _) zsy hou fun _=>?_;refine zA ?_;refine Qv6 hΓ (Q6t 1 [refE k,refE m] _) rfl rfl rfl rfl rfl rfl (by rw[Q8g];rfl) zsy hou fun _=>?_;refine zA ?_;refine Qt1 (k:=0) (s:=1) (es:=l.map cB) (oc:=oc') (news:=[cB (conE 1 [refE k,refE m])]) tabOk rfl rfl rfl rfl rfl rfl rfl rfl rfl rfl hco (Q6h l) (.sl 1 _) zsy rfl (by simp only[Z16,Z13,Z17];show (_+_) * 8<=_;omega) (by simp only[Z16,Z13,Z17];omega) fun cap hc=>?_;have he:l.map cB++[cB (conE 1 [refE k,refE m])]=(l++[conE 1 [refE k,refE m]]).map cB:=by simp
   rw[he]at hc ⊢;refine AOps.freezeArr (.l 1) 105 rfl (Q6h _) rfl ?_;refine Qyz 105 rfl (y:=.one (.sl 1 (Q0y (l++[conE 1 [refE k,refE m]])))) (.ofEq (by rw[Q0a])) ?_;refine zA ?_;refine zcd hΓ (Q53 (l++[conE 1 [refE k,refE m]]) _) zsy hou fun _=>?_;refine zA ?_;exact Qst rfl (.refl _) zsy hou ⟨rfl,rfl⟩
  |false=>
   have hFe:finB X.M.up (X.M.cnv N) 3 n b al (cvS X i ks 1 (ks.length - 1)) l k m s=(appE [refE k,.mk 3 n b l [],refE m],s):=by have:X.M.cnv N=false:=hb;simp[finB,this]
   rw[hFe];refine zM ?_;refine ACode.frzG 0 2 rfl hco (Q6h _) rfl ?_;refine Qv9 tabOk 21 [16,19,20] [(1,.one (.box (cTr (refE k)))),(5,.one (int 3)),(9,.one (int n)),(13,.one (.sl 1 (b.map cI))),(18,.one (.box (cTr (refE m))))] [.one (.box (cTr (.mk 3 n b l []))),.one (.sl 1 [cB (refE k),cB (.mk 3 n b l []),cB (refE m)]),.one (.box (cTr (appE [refE k,.mk 3 n b l [],refE m])))] [(St.set ((St.set ⟨1,[(0,oaO 1 (l.map cB) oc')],cvO X ou s⟩ (.l 0) .dead).push (.cells [int 3,int n,.sl 1 (b.map cI),.sl 1 (l.map cB),.lit (.slice none 0 0)])) (.l 1) .dead),(St.set ((St.set ⟨1,[(0,oaO 1 (l.map cB) oc')],cvO X ou s⟩ (.l 0) .dead).push (.cells [int 3,int n,.sl 1 (b.map cI),.sl 1 (l.map cB),.lit (.slice none 0 0)])) (.l 1) .dead),(St.set ((St.set ⟨1,[(0,oaO 1 (l.map cB) oc')],cvO X ou s⟩ (.l 0) .dead).push (.cells [int 3,int n,.sl 1 (b.map cI),.sl 1 (l.map cB),.lit (.slice none 0 0)])) (.l 1) .dead)] follows zky rfl rfl zdy zky zky rfl (.cons rfl (.cons rfl (.cons rfl .nil))) zdy ?_ ?_ ?_
   ·refine .cons ?_ (.cons ?_ (.cons ?_ (.cons ?_ .nil))) <;> exact .callK hΓ (Q0e k _) hou zsy rfl rfl rfl rfl rfl rfl (.step rfl (zHP (zLD rfl rfl hi rfl)) (.step rfl (zHP (zLD rfl rfl hi rfl)) (.step rfl (zHP (zLD rfl rfl hi rfl)) (.callK hΓ (Q0e m _) hou zsy rfl rfl rfl rfl rfl rfl .nil))))
   ·refine .cons rfl rfl (Q6d (zHP (Qz3 (Qvb (Qqs tabOk rfl) rfl) (.one (Z45 (.cons (.refl _) (.cons (.refl _) (.cons (.refl _) (.cons (.ofEq (by rw[Q0a];rfl)) (.cons (.nilS 2) .nil)))))))))) ?_;refine .cons rfl rfl (Q6d (zHP (Qqs tabOk rfl))) ?_;exact .cons rfl rfl (Q0u hΓ (Q53 [refE k,.mk 3 n b l [],refE m] _) rfl rfl rfl rfl (by rw[Q0a];rfl) zsy hou) .nil
   ·intro σ hσ;cases hσ;refine zA ?_;exact Qst rfl (.refl _) zsy hou ⟨rfl,rfl⟩
 ·have hFe:finB X.M.up (X.M.cnv N) o n b al (cvS X i ks 1 (ks.length - 1)) l k m s=(appE [refE k,.mk o n b l [],refE m],s):=by simp[finB,e7,e12,e3]
  rw[hFe];refine zdx 18 [(3,.one (int o)),(4,.one (.lit (.bool false)))] ?_ ?_
  ·refine .step rfl (zHP (zLD rfl rfl hi rfl)) ?_;exact .step rfl (Qs2 tabOk rfl (by simpa using e3)) .nil
  refine zM ?_;refine ACode.frzG 0 2 rfl hco (Q6h _) rfl ?_;refine Qv9 tabOk 21 [16,19,20] [(1,.one (.box (cTr (refE k)))),(5,.one (int o)),(9,.one (int n)),(13,.one (.sl 1 (b.map cI))),(18,.one (.box (cTr (refE m))))] [.one (.box (cTr (.mk o n b l []))),.one (.sl 1 [cB (refE k),cB (.mk o n b l []),cB (refE m)]),.one (.box (cTr (appE [refE k,.mk o n b l [],refE m])))] [(St.set ((St.set ⟨1,[(0,oaO 1 (l.map cB) oc')],cvO X ou s⟩ (.l 0) .dead).push (.cells [int o,int n,.sl 1 (b.map cI),.sl 1 (l.map cB),.lit (.slice none 0 0)])) (.l 1) .dead),(St.set ((St.set ⟨1,[(0,oaO 1 (l.map cB) oc')],cvO X ou s⟩ (.l 0) .dead).push (.cells [int o,int n,.sl 1 (b.map cI),.sl 1 (l.map cB),.lit (.slice none 0 0)])) (.l 1) .dead),(St.set ((St.set ⟨1,[(0,oaO 1 (l.map cB) oc')],cvO X ou s⟩ (.l 0) .dead).push (.cells [int o,int n,.sl 1 (b.map cI),.sl 1 (l.map cB),.lit (.slice none 0 0)])) (.l 1) .dead)] follows zky rfl rfl zdy zky zky rfl (.cons rfl (.cons rfl (.cons rfl .nil))) zdy ?_ ?_ ?_
  ·refine .cons ?_ (.cons ?_ (.cons ?_ (.cons ?_ .nil))) <;> exact .callK hΓ (Q0e k _) hou zsy rfl rfl rfl rfl rfl rfl (.step rfl (zHP (zLD rfl rfl hi rfl)) (.step rfl (zHP (zLD rfl rfl hi rfl)) (.step rfl (zHP (zLD rfl rfl hi rfl)) (.callK hΓ (Q0e m _) hou zsy rfl rfl rfl rfl rfl rfl .nil))))
  ·refine .cons rfl rfl (Q6d (zHP (Qz3 (Qvb (Qqs tabOk rfl) rfl) (.one (Z45 (.cons (.refl _) (.cons (.refl _) (.cons (.refl _) (.cons (.ofEq (by rw[Q0a];rfl)) (.cons (.nilS 2) .nil)))))))))) ?_;refine .cons rfl rfl (Q6d (zHP (Qqs tabOk rfl))) ?_;exact .cons rfl rfl (Q0u hΓ (Q53 [refE k,.mk o n b l [],refE m] _) rfl rfl rfl rfl (by rw[Q0a];rfl) zsy hou) .nil
  ·intro σ hσ;cases hσ;refine zA ?_;exact Qst rfl (.refl _) zsy hou ⟨rfl,rfl⟩
end Go.Proofs.YtlmokgooijbcdaaGreatDoor
namespace Go.CoreX
theorem Ql4:∀{L:List Cv}{done:List Tr}{k m s:Int},L.any (fun c=>c.eff)=false->seqB fin L done k m s=fin (done++(mpP L s).1) k m (mpP L s).2
 |[],done,k,m,s,_=>by simp[seqB,mpP]
 |x::r,done,k,m,s,h=>by
  have:(x::r).all (fun c=>!c.eff)=true:=by rw[Qzy];intro c hc;have:=Qzz.1 h c hc;simpa using this
  simp only[seqB,this,if_true]
end Go.CoreX
namespace Go.Proofs.YtlmokgooijbcdaaGreatDoor
variable {Γ:List (Nat×List AC)}
theorem CvL.own{X:CvX}{pre:List FV}{l:List Tr}{k m:Int}{R:Tr×Int}(hc:CvL Γ X ou g pre l k m s R)(hq:∀m,q<=m->cvO X ou s m=none)(hcap:(l.map cB).length<=cap)(hok:OuOk (cvO X ou s)):
  OuOk (ouAdd (cvO X ou s) q [.cells (vec 1 (l.map cB) cap)])/\AFn Tryz.prog Γ g (pre++[.one (.arr (.o q) 1 0 (l.map cB).length cap),.one (int k),.one (int m)]) (ouAdd (cvO X ou s) q [.cells (vec 1 (l.map cB) cap)]) (fun r ou'=>r=.one (.box (cTr R.1))/\ou'=cvO X ou R.2):=by
 obtain⟨g1,g2⟩:=GO.new (s:=1) (es:=l.map cB) hq hcap;have Qvp:OuOk (ouAdd (cvO X ou s) q [.cells (vec 1 (l.map cB) cap)]):=Q1y (p:=fun o=>o.ids isO) hok (Q29 _ zsy);refine⟨Qvp,hc _ (some (q,cap)) g1 Qvp fun j o ho=>⟨g2 j o ho,fun hm=>?_⟩⟩;simp[gK]at hm;subst hm;rw[hq j (Z30 _)]at ho;cases ho
theorem Qom{X:CvX}(ht:PtO X i (.mk id o n nb b ks a)){al:List Alt}{done:List Tr}{k m:Int}{at_:Nat}(hat:at_<=opnds o ks.length):
  (seqB (finB up cnv o n b al (cvS X i ks 1 (ks.length - 1))) (cvS X i ks at_ (opnds o ks.length - at_)) done k m s).2<=s+20 * (szTs (erTs (ks.drop at_)):Int):=by
 obtain⟨C,h1,h2⟩:=Q90 (X:=X) (i:=i) ht.sh13 at_ (opnds o ks.length - at_);obtain⟨D,h3,h4⟩:=Q90 (X:=X) (i:=i) ht.sh13 1 (ks.length - 1);have h5:=(Qco (fin:=finB up cnv o n b al (cvS X i ks 1 (ks.length - 1))) (D:=if o=7 then D else 0) (fun l k m s=>Qdc h3 l k m s) h1 done k m s).2;rw[show at_+(opnds o ks.length - at_)=opnds o ks.length by omega]at h2;by_cases e7:o=7
 ·have ho:opnds o ks.length=1:=by unfold opnds;simp[e7]
  rw[if_pos e7]at h5;rw[ho]at h2 h5 ⊢;omega
 ·rw[if_neg e7]at h5;omega
theorem Qft(hΓ:GI Γ){X:CvX}(ht:PtO X i (.mk id o n nb b ks a))(ih:CvKs Γ X i ks):∀(d at_:Nat),at_+d=opnds o ks.length->∀(l:List Tr),l.length=at_->
  ∀ou k m s,CvU X ou->0<=s->s+20 * (szTs (erTs (ks.drop at_)):Int)+8<=lim->CvL Γ X ou 110 [.one (.ptr (.o X.kv) 0),.one (.ptr (.o id) 0),.one (int (at_:Nat))] l k m s (seqB (finB X.M.up (X.M.cnv (i+szTs (erTs ks))) o n b (a.map LAlt.er) (cvS X i ks 1 (ks.length - 1))) (cvS X i ks at_ (opnds o ks.length - at_)) l k m s):=by
 intro d
 induction d using Nat.strongRecOn with
 |_ d ihd=>
 intro at_ hat l hll ou k m s H hs0 hsl ov oc hG hov hsub;have hi:=H.node ht s;have hsh:=ht.shN;have hkl:ks.length<=1048576:=by have:=ht.ok.2.1;rwa [Q10]at this
 have hol:=Qho ht;have hop:=Qa2 hΓ H ht s;have hlat:=Qph hΓ H ht s (at_:=at_) zoy;have hnx:=fun (done:List Tr) (k m s:Int) (at2:Nat) (h:at2<=opnds o ks.length)=>Qom ht (up:=X.M.up) (cnv:=X.M.cnv (i+szTs (erTs ks))) (al:=a.map LAlt.er) (done:=done) (k:=k) (m:=m) (s:=s) h;have hfin:=Qn4 hΓ ht ih;have hK7:o=7->opnds o ks.length=1:=fun e=>by unfold opnds;simp[e]
 have hK12:o=12->opnds o ks.length=1:=fun e=>by unfold opnds;simp[e]
 obtain⟨K,hK⟩:∃K,K=opnds o ks.length:=⟨_,rfl⟩;obtain⟨fin,hfe⟩:∃fin,fin=finB X.M.up (X.M.cnv (i+szTs (erTs ks))) o n b (a.map LAlt.er) (cvS X i ks 1 (ks.length - 1)):=⟨_,rfl⟩;rw[←hK]at hop hat hol hlat hnx ihd hK7 hK12 ⊢;rw[←hfe]at hfin hnx ihd ⊢;have hou:OuOk (cvO X ou s):=(H s).ok;refine zwk 97 Tryz.func110 fun _=>?_;refine ACode.done (ou:=cvO X ou s) 3 hG rfl hsub fun oc' hco=>?_;refine zA ?_;refine Qyv hΓ hlat rfl rfl rfl rfl rfl rfl rfl hou zsy ?_;cases hb:(cvS X i ks at_ (K - at_)).any fun c=>c.eff with
 |false=>
  rw[Ql4 hb];refine zM ?_;refine Qva tabOk [(3,.one (.sl 1 (kC ks))),(6,.one (int (K:Nat))),(7,.one (.sl 1 (kC (midK ks at_ (K - at_)))))] follows zky rfl rfl rfl ?_ ?_
  ·refine .step rfl (zHP (zLD rfl rfl hi rfl)) ?_;refine .callK hΓ hop hou zsy rfl rfl rfl rfl rfl rfl ?_;exact .step rfl (zHP (Qz3 (Qv7 tabOk rfl rfl rfl rfl rfl rfl rfl rfl zoy (by rw[Q3z];exact hol)) (.ofEq (by rw[Qma])))) .nil
  refine zA ?_;have hlen:(kC (midK ks at_ (K - at_))).length=K - at_:=by rw[Q3z,midK,Z1c,Z14];omega
  refine Qre hΓ (α:=Nat×Option Nat) (fun c=>[(32,.one (int (c.1:Nat))),(31,.one (int (kC (midK ks at_ (K - at_))).length)),(30,.one (.sl 1 (kC (midK ks at_ (K - at_))))),(3,.one (oaC 0 1 ((l++(mpP (cvS X i ks at_ c.1) s).1).map cB) c.2)),(5,.one (int m)),(4,.one (int k)),(1,.one (.ptr (.o id) 0)),(0,.one (.ptr (.o X.kv) 0))])
   (fun c=>⟨1,[(0,oaO 1 ((l++(mpP (cvS X i ks at_ c.1) s).1).map cB) c.2)],cvO X ou (mpP (cvS X i ks at_ c.1) s).2⟩) (fun m' c=>c.1<=K - at_/\coO ((l++(mpP (cvS X i ks at_ c.1) s).1).map cB) c.2/\m'=K - at_ - c.1) (a0:=(0,oc')) (ρ:=_root_.id) ⟨by omega,by simpa[cvS,mpP]using hco,rfl⟩
   (Qzw rfl ?_ zsy ?_ rfl rfl hou) fun m' c hcc=>?_
  ·have h0:(mpP (cvS X i ks at_ 0) s).1=[]:=by simp[cvS,mpP]
   dsimp only;rw[h0,Z02]
   (repeat' first|exact Qzq|refine zfc ?_|refine zfo ?_|refine zfp ?_)
  ·have h0:(mpP (cvS X i ks at_ 0) s).1=[]:=by simp[cvS,mpP]
   dsimp only;rw[h0,Z02];repeat' first|exact Z2n|refine zlc ?_|refine zld ?_ ?_|rfl
  obtain⟨c,oc2⟩:=c;obtain⟨hcl,hcc,rfl⟩:=hcc;dsimp only at hcl hcc;obtain⟨pv,hpv⟩:∃pv,pv=l++(mpP (cvS X i ks at_ c) s).1:=⟨_,rfl⟩;obtain⟨sv,hsv⟩:∃sv,sv=(mpP (cvS X i ks at_ c) s).2:=⟨_,rfl⟩;have hok:=(H sv).ok;have hpl:pv.length=l.length+c:=by rw[hpv,Z12,Qg3];unfold cvS;rw[Z1c,Z14,Q1c,Q10];omega
  have hsb:s<=sv/\sv+20 * (szTs (erTs (ks.drop (at_+c))):Int)<=s+20 * (szTs (erTs (ks.drop at_)):Int):=by obtain⟨C,q1,q2⟩:=Q90 (X:=X) (i:=i) ht.sh13 at_ c;have q3:=q1.mpP s;rw[←hsv]at q3;omega
  dsimp only;rw[←hpv]at hcc;rw[←hpv,←hsv];refine zA ?_;refine Qyl rfl (fun hb2=>?_) (fun hb2=>?_)
  ·have hlt:c < K - at_:=by have:=of_decide_eq_true hb2;rw[hlen]at this;omega
   obtain⟨t,htc⟩:=Q00 (l:=ks) (i:=at_+c) zoy;have hkd:=Q3t htc;obtain⟨rt,hrt⟩:∃rt,rt=(cvT X.M (i+szTs (erTs (ks.take (at_+c)))) (erT t)).P sv:=⟨_,rfl⟩;have hs1:l++(mpP (cvS X i ks at_ (c+1)) s).1=pv++[rt.1]/\(mpP (cvS X i ks at_ (c+1)) s).2=rt.2:=by rw[Q7l htc,Qg4,←hsv,hrt,hpv];simp only[Z01];exact⟨rfl,rfl⟩
   have hca:=(ih (at_+c) t htc).P ou sv H zoy zoy;unfold CvA at hca;rw[←hrt]at hca;refine zA ?_;refine zS (zIA rfl rfl rfl zoy (Q5k (Qhy htc hlt))) ?_;refine zA ?_;refine zcd hΓ hca zsy hok fun Qwm=>?_;refine zA ?_;refine Qt1 (k:=0) (s:=1) (es:=pv.map cB) (oc:=oc2) (news:=[cB rt.1]) tabOk rfl rfl rfl rfl rfl rfl rfl rfl rfl rfl hcc (Q6h pv) (.sl 1 _) zsy rfl (by simp only[Z16,Z13,Z17];show (_+_) * 8<=_;omega) (by simp only[Z16,Z13,Z17];omega) fun cap hc=>?_;obtain⟨pw,hpw⟩:∃pw,pw=pv++[rt.1]:=⟨_,rfl⟩;have he:pv.map cB++[cB rt.1]=pw.map cB:=by rw[hpw];simp
   rw[←hpw]at hs1;rw[he]at hc ⊢;refine zM ?_;refine cInv ⟨K - at_ - (c+1),(c+1,some cap),fun _=>1,by omega,⟨by omega,by dsimp only;rw[hs1.1];exact hc,rfl⟩,Qzw rfl (by dsimp only;rw[hs1.1];(repeat' first|exact Qzq|refine zfc ?_|refine zfo ?_|refine zfp ?_)) zsy (by dsimp only;rw[hs1.1];repeat' first|exact Z2n|refine zlc ?_|refine zld ?_ ?_|rfl) rfl (by dsimp only;rw[hs1.2];rfl) Qwm⟩
  ·have hce:c=K - at_:=by have:=of_decide_eq_false hb2;rw[hlen]at this;omega
   subst hce;have hf:=hfin pv zoy (fun h7 hn=>by
    rw[hn]at hpl;rcases h7 with e|e
    ·have:=hK7 e;simp at hpl;omega
    ·have:=hK12 e;simp at hpl;omega) ou k m sv H zoy (by
    split
    ·rename_i e;have:=hK7 e;rw[show at_+(K - at_)=1 by omega]at hsb;omega
    ·omega)
   repeat ((fail_if_success ((with_reducible refine oj ?_);refine Qtz 48 rfl ?_));first|refine zO ?_)
   cases oc2 with
   |none=>
    refine zcd hΓ (hf (cvO X ou sv) none ⟨fun _=>hcc,fun _ _ e=>by cases e⟩ hok fun q o h=>⟨h,by simp[gK]⟩) zsy hok fun Qyf=>?_;refine zA ?_;rw[←hpv,←hsv];exact Qst rfl (.refl _) zsy Qyf ⟨rfl,rfl⟩
   |some cap=>
    refine Qyw [0] rfl zdy hok fun q hq=>⟨[(47,.one (int m)),(46,.one (int k)),(45,.one (.arr (.o q) 1 0 (pv.map cB).length cap)),(44,.one (.ptr (.o id) 0)),(43,.one (.ptr (.o X.kv) 0))],[],[.cells (vec 1 (pv.map cB) cap)],.keepO rfl zsy (.keepO rfl zsy (.cons rfl rfl (.keepO rfl zsy (.keepO rfl zsy .nil)))),.nil,.cons rfl (Qys (fun i hi=>by cases i with|l q=>exact hi.elim|o q=>rfl) _ (Q29 _ zsy)) .nil,?_⟩;obtain⟨Qvp,hf2⟩:=hf.own hq hcc hok;refine zcd hΓ hf2 zsy Qvp fun Qyf=>?_;refine zA ?_;rw[←hpv,←hsv];exact Qst rfl (.refl _) zsy Qyf ⟨rfl,rfl⟩
 |true=>
  have hd0:0 < d:=by
   rcases Nat.eq_zero_or_pos d with e|e
   ·exfalso;rw[show K - at_=0 by omega]at hb;simp[cvS]at hb
   ·exact e
  obtain⟨t,htc⟩:=Q00 (l:=ks) (i:=at_) zoy;have hkd:=Q3t htc;obtain⟨x,hx⟩:∃x,x=cvT X.M (i+szTs (erTs (ks.take at_))) (erT t):=⟨_,rfl⟩;have hL:cvS X i ks at_ (K - at_)=x::cvS X i ks (at_+1) (K - (at_+1)):=by have h1:=Q6a X.M (i:=i) htc;have h2:=(Z0v.1 h1).1;unfold cvS;rw[Z07 h2,(Z0v.1 h1).2,show K - at_=(K - (at_+1))+1 by omega,Z2l,hx]
  have hall:(x::cvS X i ks (at_+1) (K - (at_+1))).all (fun c=>!c.eff)=false:=by
   rw[hL]at hb;cases h:(x::cvS X i ks (at_+1) (K - (at_+1))).all (fun c=>!c.eff) with
   |false=>rfl
   |true=>
    obtain⟨c,hc,hce⟩:=Z00.1 hb;have:=Qzy.1 h c hc;rw[hce]at this;cases this
  rw[hL];simp only[seqB,hall,Qze,if_false];have hek:(kC ks)[at_]?=some [.ptr (.o t.id) 0]:=Q5k htc;have hxb:Bd x (20 * (szT (erT t):Int) - 4):=by rw[hx];exact Qc4 X.M _ _ (ht.sh13 t (Z1y htc))
  have hge:∀done k m s,s<=(seqB fin (cvS X i ks (at_+1) (K - (at_+1))) done k m s).2:=fun done k m s=>by obtain⟨C,q1,q2⟩:=Q90 (X:=X) (i:=i) ht.sh13 (at_+1) (K - (at_+1));obtain⟨D,q3,q4⟩:=Q90 (X:=X) (i:=i) ht.sh13 1 (ks.length - 1);rw[hfe];exact (Qco (fun l k m s=>Qdc q3 l k m s) q1 done k m s).1
  have Qvs:OuOk (cvO X ou (s+1)):=(H _).ok;have hef:=Q7k hΓ (H (s+1)) (ht.kid htc);rw[←hx]at hef;obtain⟨lp,hlp⟩:∃lp,lp=l++[refE s]:=⟨_,rfl⟩;have hl1:l.length<=1048576:=by omega
  have hsz1:=Q9q (erT t);rw[←hlp];refine zM ?_;refine AOps.frzG 0 3 rfl hco (Q6h _) rfl ?_;repeat' first|refine zN ?_|((with_reducible refine oj ?_);first|refine zix ?_|refine zow rfl rfl hi ?_)
  refine zS (zIA rfl rfl rfl zoy hek) ?_;refine zA ?_;refine zcd hΓ (H.fr hΓ s (s+1) zoy) zsy hou fun _=>?_;refine zA ?_;by_cases hl0:l=[]
  ·refine Qyz 58 rfl (y:=.one (.sl 1 [])) (.ofEq (by rw[hl0];rfl)) ?_;refine zS (Qt3 tabOk rfl rfl rfl rfl rfl rfl) ?_;refine zA ?_;refine zcd hΓ (Q0e s _) zsy Qvs fun _=>?_;refine zA ?_;refine Qyu tabOk rfl rfl rfl rfl rfl rfl rfl rfl rfl (.nil 1) (.sl 1 [cB (refE s)]) zsy rfl (by simp;show 1 * 8<=_;omega) zsy fun cap2 hc2=>?_;have he:[]++[cB (refE s)]=lp.map cB:=by rw[hlp,hl0];rfl
   rw[he]at hc2 ⊢;refine zA ?_;refine Qyv hΓ hef rfl rfl rfl rfl rfl rfl rfl Qvs zsy ?_;cases hE:x.eff with
   |false=>
    obtain⟨v,hv⟩:∃v,v=x.P (s+1):=⟨_,rfl⟩;have hP:=(ih at_ t htc).P ou (s+1) H zoy zoy;rw[←hx]at hP;have hvb:s+1<=v.2/\v.2<=s+1+(20 * (szT (erT t):Int) - 4):=by rw[hv];exact hxb.P (s+1)
    unfold CvA at hP;rw[←hv]at hP;have hrec:=ihd (d - 1) zoy (at_+1) zoy (l++[refE s]) (by simp[hll]) ou k m v.2 H zoy zoy;rw[←hlp]at hrec;obtain⟨bb,hbb⟩:∃bb,bb=seqB fin (cvS X i ks (at_+1) (K - (at_+1))) lp k m v.2:=⟨_,rfl⟩;rw[←hbb]at hrec;simp only[if_true];rw[←hv,←hbb];refine zM ?_;refine zcd hΓ hP zsy Qvs fun Qvl=>?_;refine zM ?_;refine Qyz 75 rfl (y:=.one (int ((at_+1:Nat):Int))) (.ofEq zsy) ?_;repeat ((fail_if_success ((with_reducible refine oj ?_);refine Qtz 79 rfl ?_));first|refine zO ?_)
    refine Qyw [1] rfl zdy Qvl fun q hq=>⟨[(78,.one (int m)),(77,.one (int k)),(76,.one (.arr (.o q) 1 0 (lp.map cB).length cap2)),(75,.one (int ((at_+1:Nat):Int))),(73,.one (.ptr (.o id) 0)),(72,.one (.ptr (.o X.kv) 0)),(71,.one (.box (cTr v.1))),(68,.one (int s))],[],[.cells (vec 1 (lp.map cB) cap2)],.keepO rfl zsy (.keepO rfl zsy (.cons rfl rfl (.keepO rfl zsy (.keepO rfl zsy (.keepO rfl zsy (.keepO rfl zsy (.keepO rfl zsy .nil))))))),.nil,.cons rfl (Qys (fun i hi=>by cases i with|l q=>exact hi.elim|o q=>rfl) _ (Q29 _ zsy)) .nil,?_⟩;obtain⟨Qvq,hf2⟩:=hrec.own hq hc2 Qvl;refine zcd hΓ hf2 zsy Qvq fun Qvv=>?_;refine zA ?_;refine zcd hΓ (Q4i s v.1 bb.1 _) zsy Qvv fun _=>?_;refine zA ?_;exact Qst rfl (.refl _) zsy Qvv ⟨rfl,rfl⟩
   |true=>
    have hrec:=ihd (d - 1) zoy (at_+1) zoy (l++[refE s]) (by simp[hll]) ou k (s+1) (s+2) H zoy zoy;have hnb:=hnx (l++[refE s]) k (s+1) (s+2) (at_+1) zoy;rw[←hlp]at hrec hnb;obtain⟨bb,hbb⟩:∃bb,bb=seqB fin (cvS X i ks (at_+1) (K - (at_+1))) lp k (s+1) (s+2):=⟨_,rfl⟩;rw[←hbb]at hrec hnb;have hb0:s+2<=bb.2:=by rw[hbb];exact hge _ _ _ _
    have hbd:=Qgr hΓ H (ih at_ t htc) s (s+1) bb.1 m bb.2 zoy zoy;rw[←hx]at hbd;simp only[Qzl,if_false];rw[←hbb];obtain⟨cc,hcc⟩:∃cc,cc=bindB x s (s+1) bb.1 m bb.2:=⟨_,rfl⟩;unfold CvA at hbd;rw[←hcc]at hbd ⊢;refine zM ?_;refine zcd hΓ (H.fr hΓ (s+1) (s+2) zoy) zsy Qvs fun Qvl=>?_;refine zM ?_;refine Qyz 90 rfl (y:=.one (int ((at_+1:Nat):Int))) (.ofEq zsy) ?_;repeat ((fail_if_success ((with_reducible refine oj ?_);refine Qtz 94 rfl ?_));first|refine zO ?_)
    refine Qyw [1] rfl zdy Qvl fun q hq=>⟨[(93,.one (int (s+1))),(92,.one (int k)),(91,.one (.arr (.o q) 1 0 (lp.map cB).length cap2)),(90,.one (int ((at_+1:Nat):Int))),(88,.one (.ptr (.o id) 0)),(87,.one (.ptr (.o X.kv) 0)),(86,.one (int (s+1))),(85,.one (int s)),(84,.one (.ptr (.o t.id) 0)),(83,.one (.ptr (.o X.kv) 0)),(5,.one (int m))],[],[.cells (vec 1 (lp.map cB) cap2)],.keepO rfl zsy (.keepO rfl zsy (.cons rfl rfl (.keepO rfl zsy (.keepO rfl zsy (.keepO rfl zsy (.keepO rfl zsy (.keepO rfl zsy (.keepO rfl zsy (.keepO rfl zsy (.keepO rfl zsy .nil)))))))))),.nil,.cons rfl (Qys (fun i hi=>by cases i with|l q=>exact hi.elim|o q=>rfl) _ (Q29 _ zsy)) .nil,?_⟩;obtain⟨Qvq,hf2⟩:=hrec.own hq hc2 Qvl;refine zcd hΓ hf2 zsy Qvq fun Qvv=>?_;refine zA ?_;refine zcd hΓ hbd zsy Qvv fun Qwv=>?_;refine zA ?_;exact Qst rfl (.refl _) zsy Qwv ⟨rfl,rfl⟩
  ·refine Qyu tabOk rfl rfl rfl rfl rfl rfl rfl rfl rfl (.nil 1) (.sl 1 (l.map cB)) (by simpa using hl0) rfl (by simp;show _ * 8<=_;omega) zuy fun cap hc=>?_;simp only[Z25]at hc ⊢;refine zA ?_;refine zcd hΓ (Q0e s _) zsy Qvs fun _=>?_;refine zA ?_;refine Qyu tabOk rfl rfl rfl rfl rfl rfl rfl rfl rfl (.own 1 cap (l.map cB) (.l 1) rfl (Q6h l) hc) (.sl 1 [cB (refE s)]) zsy rfl (by simp;show (_+1) * 8<=_;omega) zuy fun cap2 hc2=>?_;have he:l.map cB++[cB (refE s)]=lp.map cB:=by rw[hlp];simp
   rw[he]at hc2 ⊢;refine zA ?_;refine Qyv hΓ hef rfl rfl rfl rfl rfl rfl rfl Qvs zsy ?_;cases hE:x.eff with
   |false=>
    obtain⟨v,hv⟩:∃v,v=x.P (s+1):=⟨_,rfl⟩;have hP:=(ih at_ t htc).P ou (s+1) H zoy zoy;rw[←hx]at hP;have hvb:s+1<=v.2/\v.2<=s+1+(20 * (szT (erT t):Int) - 4):=by rw[hv];exact hxb.P (s+1)
    unfold CvA at hP;rw[←hv]at hP;have hrec:=ihd (d - 1) zoy (at_+1) zoy (l++[refE s]) (by simp[hll]) ou k m v.2 H zoy zoy;rw[←hlp]at hrec;obtain⟨bb,hbb⟩:∃bb,bb=seqB fin (cvS X i ks (at_+1) (K - (at_+1))) lp k m v.2:=⟨_,rfl⟩;rw[←hbb]at hrec;simp only[if_true];rw[←hv,←hbb];refine zM ?_;refine zcd hΓ hP zsy Qvs fun Qvl=>?_;refine zM ?_;refine Qyz 75 rfl (y:=.one (int ((at_+1:Nat):Int))) (.ofEq zsy) ?_;repeat ((fail_if_success ((with_reducible refine oj ?_);refine Qtz 79 rfl ?_));first|refine zO ?_)
    refine Qyw [2] rfl zdy Qvl fun q hq=>⟨[(78,.one (int m)),(77,.one (int k)),(76,.one (.arr (.o q) 1 0 (lp.map cB).length cap2)),(75,.one (int ((at_+1:Nat):Int))),(73,.one (.ptr (.o id) 0)),(72,.one (.ptr (.o X.kv) 0)),(71,.one (.box (cTr v.1))),(68,.one (int s))],[],[.cells (vec 1 (lp.map cB) cap2)],.keepO rfl zsy (.keepO rfl zsy (.cons rfl rfl (.keepO rfl zsy (.keepO rfl zsy (.keepO rfl zsy (.keepO rfl zsy (.keepO rfl zsy .nil))))))),.nil,.cons rfl (Qys (fun i hi=>by cases i with|l q=>exact hi.elim|o q=>rfl) _ (Q29 _ zsy)) .nil,?_⟩;obtain⟨Qvq,hf2⟩:=hrec.own hq hc2 Qvl;refine zcd hΓ hf2 zsy Qvq fun Qvv=>?_;refine zA ?_;refine zcd hΓ (Q4i s v.1 bb.1 _) zsy Qvv fun _=>?_;refine zA ?_;exact Qst rfl (.refl _) zsy Qvv ⟨rfl,rfl⟩
   |true=>
    have hrec:=ihd (d - 1) zoy (at_+1) zoy (l++[refE s]) (by simp[hll]) ou k (s+1) (s+2) H zoy zoy;have hnb:=hnx (l++[refE s]) k (s+1) (s+2) (at_+1) zoy;rw[←hlp]at hrec hnb;obtain⟨bb,hbb⟩:∃bb,bb=seqB fin (cvS X i ks (at_+1) (K - (at_+1))) lp k (s+1) (s+2):=⟨_,rfl⟩;rw[←hbb]at hrec hnb;have hb0:s+2<=bb.2:=by rw[hbb];exact hge _ _ _ _
    have hbd:=Qgr hΓ H (ih at_ t htc) s (s+1) bb.1 m bb.2 zoy zoy;rw[←hx]at hbd;simp only[Qzl,if_false];rw[←hbb];obtain⟨cc,hcc⟩:∃cc,cc=bindB x s (s+1) bb.1 m bb.2:=⟨_,rfl⟩;unfold CvA at hbd;rw[←hcc]at hbd ⊢;refine zM ?_;refine zcd hΓ (H.fr hΓ (s+1) (s+2) zoy) zsy Qvs fun Qvl=>?_;refine zM ?_;refine Qyz 90 rfl (y:=.one (int ((at_+1:Nat):Int))) (.ofEq zsy) ?_;repeat ((fail_if_success ((with_reducible refine oj ?_);refine Qtz 94 rfl ?_));first|refine zO ?_)
    refine Qyw [2] rfl zdy Qvl fun q hq=>⟨[(93,.one (int (s+1))),(92,.one (int k)),(91,.one (.arr (.o q) 1 0 (lp.map cB).length cap2)),(90,.one (int ((at_+1:Nat):Int))),(88,.one (.ptr (.o id) 0)),(87,.one (.ptr (.o X.kv) 0)),(86,.one (int (s+1))),(85,.one (int s)),(84,.one (.ptr (.o t.id) 0)),(83,.one (.ptr (.o X.kv) 0)),(5,.one (int m))],[],[.cells (vec 1 (lp.map cB) cap2)],.keepO rfl zsy (.keepO rfl zsy (.cons rfl rfl (.keepO rfl zsy (.keepO rfl zsy (.keepO rfl zsy (.keepO rfl zsy (.keepO rfl zsy (.keepO rfl zsy (.keepO rfl zsy (.keepO rfl zsy .nil)))))))))),.nil,.cons rfl (Qys (fun i hi=>by cases i with|l q=>exact hi.elim|o q=>rfl) _ (Q29 _ zsy)) .nil,?_⟩;obtain⟨Qvq,hf2⟩:=hrec.own hq hc2 Qvl;refine zcd hΓ hf2 zsy Qvq fun Qvv=>?_;refine zA ?_;refine zcd hΓ hbd zsy Qvv fun Qwv=>?_;refine zA ?_;exact Qst rfl (.refl _) zsy Qwv ⟨rfl,rfl⟩
theorem Qjw(hΓ:GI Γ){X:CvX}(H:CvU X ou)(h op v b k2 m2 s:Int)(hs0:0<=s)(hsl:s+2<=lim):
  CvA Γ X ou 130 [.one (.ptr (.o X.kv) 0),.one (int h),.one (int op),.one (int v),.one (int b),.one (int k2),.one (int m2)] s (Q35 X.up h op v b k2 m2 s):=by
 have hv:cvO X ou (s+2) X.kv=some (.cells [.ptr (.o X.y.kp) 0,.mp (.o X.ka),int (s+2),int X.up]):=(H (s+2)).v;have h0:=(H s).ok;have h1:=(H (s+1)).ok;have h2:=(H (s+2)).ok;unfold Q35;refine zwk 56 Tryz.func130 fun _=>?_;refine zA ?_;refine zcd hΓ (H.fr hΓ (s) (s+1) zoy) zsy h0 fun _=>?_;refine zA ?_;refine zcd hΓ (H.fr hΓ (s+1) (s+2) zoy) zsy h1 fun _=>?_;refine zA ?_;refine zcd hΓ (Q0e (b) _) zsy h2 fun _=>?_;refine zA ?_;refine zcd hΓ (Q0e (s) _) zsy h2 fun _=>?_;refine zA ?_;refine zcd hΓ (Q0e (h) _) zsy h2 fun _=>?_;refine zA ?_;refine zcd hΓ (Q0e (k2) _) zsy h2 fun _=>?_;refine zA ?_;refine zcd hΓ (Q0e (s+1) _) zsy h2 fun _=>?_;refine zA ?_;refine Qv6 hΓ (Q6t 1 [refE k2,refE (s+1)] _) rfl rfl rfl rfl rfl rfl (by rw[Q0a];rfl) zsy h2 fun _=>?_;refine zA ?_;refine Qv6 hΓ (Q6t 1 [refE h,conE 1 [refE k2,refE (s+1)]] _) rfl rfl rfl rfl rfl rfl (by rw[Q0a];rfl) zsy h2 fun _=>?_;refine zA ?_;refine Qv6 hΓ (Q53 [refE b,refE s,conE 1 [refE h,conE 1 [refE k2,refE (s+1)]]] _) rfl rfl rfl rfl rfl rfl (by rw[Q0a];rfl) zsy h2 fun _=>?_;refine zA ?_;refine zcd hΓ (Q3x (appE [refE b,refE s,conE 1 [refE h,conE 1 [refE k2,refE (s+1)]]]) [s,s+1] _) zsy h2 fun _=>?_;repeat' first|refine zN ?_|((with_reducible refine oj ?_);first|refine zix ?_|refine zow rfl rfl hv ?_)
 refine zcd hΓ (Q0e (X.up) _) zsy h2 fun _=>?_;refine zA ?_;refine zcd hΓ (Q0e (op) _) zsy h2 fun _=>?_;refine zA ?_;refine zcd hΓ (Q0e (v) _) zsy h2 fun _=>?_;refine zA ?_;refine zcd hΓ (Q0e (m2) _) zsy h2 fun _=>?_;refine zA ?_;refine Qv6 hΓ (Q53 [refE X.up,refE op,refE v,lamE (appE [refE b,refE s,conE 1 [refE h,conE 1 [refE k2,refE (s+1)]]]) [s,s+1],refE m2] _) rfl rfl rfl rfl rfl rfl (by rw[Q0a];rfl) zsy h2 fun _=>?_;refine zA ?_;exact Qst rfl (.refl _) zsy h2 ⟨rfl,rfl⟩
theorem Qfv(hΓ:GI Γ){X:CvX}(H:CvU X ou)(ht:PtO X i (.mk id 13 n nb b ks a)){c0 c1:LTr}{i0 i1:Nat}(hc0:ks[0]?=some c0)(hc1:ks[1]?=some c1)(ih0:CvK Γ X i0 c0)(ih1:CvK Γ X i1 c1){al0:Alt}(ha0:(a.map LAlt.er)[0]?=some al0)(hb0:al0.binds=[a0])
  (inner s:Int) (hs0:0<=s) (hsl:s+6+20 * (szT (erT c0):Int)+20 * (szT (erT c1):Int)<=lim) (hP0:allT P13 (erT c0)) (hP1:allT P13 (erT c1)):
  CvA Γ X ou 132 [.one (.ptr (.o X.kv) 0),.one (.ptr (.o id) 0),.one (int inner)] s (Q39 a0 (cvT X.M i0 (erT c0)) (cvT X.M i1 (erT c1)) inner s):=by
 obtain⟨t1,ht1⟩:∃t1,t1=(cvT X.M i1 (erT c1)).T (s+4) (s+5) (s+6):=⟨_,rfl⟩;obtain⟨t0,ht0⟩:∃t0,t0=(cvT X.M i0 (erT c0)).T s inner t1.2:=⟨_,rfl⟩;have hb1:=(Qc4 X.M (erT c1) i1 hP1).T (s+4) (s+5) (s+6);rw[←ht1]at hb1;have hT1:=ih1.T ou (s+4) (s+5) (s+6) H zoy zoy;have hT0:=ih0.T ou s inner t1.2 H zoy zoy;unfold CvA at hT1 hT0;rw[←ht1]at hT1;rw[←ht0]at hT0;have hR:Q39 a0 (cvT X.M i0 (erT c0)) (cvT X.M i1 (erT c1)) inner s=(letE s (lamE (takeE (refE (s+1)) (takeE (refE (s+3)) t1.1 [s+4,s+5]) [s+2,s+3]) [a0,s+1]) t0.1,t0.2):=by rw[ht0,ht1];rfl
 rw[hR];have hok:=fun s=>(H s).ok;refine zwk 73 Tryz.func132 fun _=>?_;refine zA ?_;refine zcd hΓ (H.fr hΓ (s) (s+1) zoy) zsy (hok _) fun _=>?_;refine zA ?_;refine zcd hΓ (H.fr hΓ (s+1) (s+2) zoy) zsy (hok _) fun _=>?_;refine zA ?_;refine zcd hΓ (H.fr hΓ (s+2) (s+3) zoy) zsy (hok _) fun _=>?_;refine zA ?_;refine zcd hΓ (H.fr hΓ (s+3) (s+4) zoy) zsy (hok _) fun _=>?_;refine zA ?_;refine zcd hΓ (H.fr hΓ (s+4) (s+5) zoy) zsy (hok _) fun _=>?_;refine zA ?_;refine zcd hΓ (H.fr hΓ (s+5) (s+6) zoy) zsy (hok _) fun _=>?_;refine zA ?_;refine Qv9 tabOk 22 [13,17,21] [(1,.one (.box (cTr (refE (s+1))))),(3,.one (.box (cTr (refE (s+3))))),(8,.one (.sl 1 (kC ks))),(9,.one (.box [.ptr (.o c1.id) 0]))] [.one (.box (cTr t1.1)),.one (.box (cTr (takeE (refE (s+3)) t1.1 [s+4,s+5]))),.one (.box (cTr (takeE (refE (s+1)) (takeE (refE (s+3)) t1.1 [s+4,s+5]) [s+2,s+3])))] [⟨0,[],cvO X ou t1.2⟩,⟨0,[],cvO X ou t1.2⟩,⟨0,[],cvO X ou t1.2⟩] follows zky rfl rfl zdy zky zky rfl (.cons rfl (.cons rfl (.cons rfl .nil))) zdy ?_ ?_ ?_
 ·refine .cons ?_ (.cons ?_ (.cons ?_ (.cons ?_ .nil))) <;> exact .callK hΓ (Q0e (s+1) _) (hok _) zsy rfl rfl rfl rfl rfl rfl (.callK hΓ (Q0e (s+3) _) (hok _) zsy rfl rfl rfl rfl rfl rfl (.step rfl (zHP (zLD rfl rfl (H.node ht _) rfl)) (.step rfl (zHP (Qz2 (n:=1) tabOk rfl rfl rfl rfl rfl rfl (.inl rfl) rfl zdy (Q5k hc1))) .nil)))
 ·refine .cons rfl rfl (Q0u hΓ hT1 rfl rfl rfl rfl rfl zsy (hok _)) ?_;refine .cons rfl rfl (Q0u hΓ (Q97 (refE (s+3)) t1.1 [s+4,s+5] _) rfl rfl rfl rfl rfl zsy (hok _)) ?_;exact .cons rfl rfl (Q0u hΓ (Q97 (refE (s+1)) (takeE (refE (s+3)) t1.1 [s+4,s+5]) [s+2,s+3] _) rfl rfl rfl rfl rfl zsy (hok _)) .nil
 intro σ hσ;cases hσ;refine zA ?_;refine Qv9 tabOk 25 [23,24] [(5,.one (.sl 2 ((a.map LAlt.er).map cAlt))),(6,.one (.box (cAlt al0))),(9,.one (.box [int a0])),(13,.one (.box (cTr (lamE (takeE (refE (s+1)) (takeE (refE (s+3)) t1.1 [s+4,s+5]) [s+2,s+3]) [a0,s+1])))),(18,.one (.sl 1 (kC ks))),(19,.one (.box [.ptr (.o c0.id) 0]))] [.one (.box (cTr t0.1)),.one (.box (cTr (letE s (lamE (takeE (refE (s+1)) (takeE (refE (s+3)) t1.1 [s+4,s+5]) [s+2,s+3]) [a0,s+1]) t0.1)))] [⟨0,[],cvO X ou t0.2⟩,⟨0,[],cvO X ou t0.2⟩] follows zky rfl rfl zdy zky zky rfl (.cons rfl (.cons rfl .nil)) zdy ?_ ?_ ?_
 ·refine .cons ?_ (.cons ?_ (.cons ?_ .nil)) <;> exact .step rfl (zHP (zLD rfl rfl (H.node ht _) rfl)) (.step rfl (zHP (Qz2 (n:=0) tabOk rfl rfl rfl rfl rfl rfl (.inl rfl) rfl zdy (Q0c ha0))) (.step rfl (zHP (Qz2 (n:=0) (es:=al0.binds.map cI) tabOk rfl rfl rfl rfl rfl rfl (.inl rfl) rfl zdy (by rw[hb0];rfl))) (.callK hΓ (Q3x (takeE (refE (s+1)) (takeE (refE (s+3)) t1.1 [s+4,s+5]) [s+2,s+3]) [a0,s+1] _) (hok _) zsy rfl rfl rfl rfl rfl rfl (.step rfl (zHP (zLD rfl rfl (H.node ht _) rfl)) (.step rfl (zHP (Qz2 (n:=0) tabOk rfl rfl rfl rfl rfl rfl (.inl rfl) rfl zdy (Q5k hc0))) .nil)))))
 ·refine .cons rfl rfl (Q0u hΓ hT0 rfl rfl rfl rfl rfl zsy (hok _)) ?_;exact .cons rfl rfl (Q0u hΓ (Q4i s (lamE (takeE (refE (s+1)) (takeE (refE (s+3)) t1.1 [s+4,s+5]) [s+2,s+3]) [a0,s+1]) t0.1 _) rfl rfl rfl rfl rfl zsy (hok _)) .nil
 intro σ hσ;cases hσ;refine zA ?_;exact Qst rfl (.refl _) zsy (hok _) ⟨rfl,rfl⟩
theorem int_eq{a b:Int}(h:a=b):(FV.one (int a))=.one (int b):=by rw[h]
theorem Qmt(hΓ:GI Γ){X:CvX}(H:CvU X ou)(ht:PtO X i (.mk id 13 n nb b ks a))(ih:CvKs Γ X i ks)
  (k m s:Int) (hs0:0<=s) (hsl:s+20 * (szT (erT (.mk id 13 n nb b ks a)):Int)<=lim):
  CvA Γ X ou 109 [.one (.ptr (.o X.kv) 0),.one (.ptr (.o id) 0),.one (int k),.one (int m)] s (Q4y X.up (a.map LAlt.er) (cvTs X.M i (erTs ks)) k m s):=by
 have hsh:=ht.shN.handle;rw[Qdy]at hsl;obtain⟨al,hal⟩:∃al,al=a.map LAlt.er:=⟨_,rfl⟩;rw[←hal]at hsh ⊢;have hok:=fun s=>(H s).ok;have hkl:ks.length<=1048576:=by have:=ht.ok.2.1;rwa [Q10]at this
 obtain⟨F,hF⟩:∃F,F=Q35 X.up s (s+1) (s+2) (s+3) (s+5) (s+6) (s+7):=⟨_,rfl⟩;have hF2:F.2=s+9:=by rw[hF];unfold Q35;simp only;omega
 have hfo:=Qjw hΓ H s (s+1) (s+2) (s+3) (s+5) (s+6) (s+7) zoy zoy;unfold CvA at hfo;rw[←hF]at hfo;refine zwk 166 Tryz.func109 fun _=>?_;refine zA ?_;refine zcd hΓ (H.fr hΓ (s) (s+1) zoy) zsy (hok _) fun _=>?_;refine zA ?_;refine zcd hΓ (H.fr hΓ (s+1) (s+2) zoy) zsy (hok _) fun _=>?_;refine zA ?_;refine zcd hΓ (H.fr hΓ (s+2) (s+3) zoy) zsy (hok _) fun _=>?_;refine zA ?_;refine zcd hΓ (H.fr hΓ (s+3) (s+4) zoy) zsy (hok _) fun _=>?_;refine zA ?_;refine zcd hΓ (H.fr hΓ (s+4) (s+5) zoy) zsy (hok _) fun _=>?_;refine zA ?_;refine zcd hΓ (H.fr hΓ (s+5) (s+6) zoy) zsy (hok _) fun _=>?_;refine zA ?_;refine zcd hΓ (H.fr hΓ (s+6) (s+7) zoy) zsy (hok _) fun _=>?_;refine zA ?_;refine zcd hΓ hfo zsy (hok _) fun _=>?_;refine zA ?_;have hiF:=H.node ht F.2;rw[←hal]at hiF;repeat' first|refine zN ?_|((with_reducible refine oj ?_);first|refine zix ?_|refine zow rfl rfl hiF ?_)
 obtain⟨Z,hZ⟩:∃Z,Z=(al.drop 1).zip ((cvTs X.M i (erTs ks)).drop 2):=⟨_,rfl⟩;obtain⟨FIN,hFIN⟩:∃FIN,FIN=Q1h (s+1) (s+2) (s+3) s (s+5) (s+6) Z.reverse F.1 F.2:=⟨_,rfl⟩;have hZl:Z.length=al.length - 1:=by rw[hZ,List.length_zip,Z14,Z14,Q1c,Q10];omega
 have hdl:((ks.drop 2).take (al.length - 1))=ks.drop 2:=Z2k (by rw[Z14];omega);refine Qre hΓ (α:=Nat×Tr×Int) (fun c=>[(17,.one (int (c.1:Nat))),(16,.one (.box (cTr c.2.1))),(15,.one (int (s+6))),(14,.one (int (s+5))),(13,.one (int (s+4))),(12,.one (int (s+3))),(11,.one (int (s+2))),(10,.one (int (s+1))),(9,.one (int s)),(3,.one (int m)),(2,.one (int k)),(1,.one (.ptr (.o id) 0)),(0,.one (.ptr (.o X.kv) 0))])
  (fun c=>⟨0,[],cvO X ou c.2.2⟩) (fun m' c=>c.1<=al.length - 1/\(Q1h (s+1) (s+2) (s+3) s (s+5) (s+6) (Z.take c.1).reverse c.2.1 c.2.2=FIN/\s<=c.2.2/\c.2.2+20 * (szTs (erTs ((ks.drop 2).take c.1)):Int)<=s+9+20 * (szTs (erTs (ks.drop 2)):Int))/\m'=c.1) (a0:=(al.length - 1,F.1,F.2)) (ρ:=_root_.id)
  ⟨Z30 _,⟨by rw[hFIN];dsimp only;rw[←hZl,Z2j],by dsimp only;omega,by dsimp only;rw[hdl];omega⟩,rfl⟩
  (Qzw rfl (Qzp rfl (.ofEq (int_eq zuy)) zsy zFS) zsy zLO rfl rfl (hok _)) fun m' c hcc=>?_
 obtain⟨c,cur,sc⟩:=c;obtain⟨hcl,⟨hcu,hsc,hsb⟩,hme⟩:=hcc;dsimp only at hcl hcu hsc hsb hme;have hiC:=H.node ht sc;rw[←hal]at hiC;have hk0:=Qdx ks 2;obtain⟨c0,hc0⟩:=Q00 (l:=ks) (i:=0) zoy;obtain⟨c1,hc1⟩:=Q00 (l:=ks) (i:=1) zoy;have hk1:szTs (erTs ks)=szT (erT c0)+szTs (erTs (ks.drop 1)):=by have:=Q3t hc0;simpa using this
 have hk2:szTs (erTs (ks.drop 1))=szT (erT c1)+szTs (erTs (ks.drop 2)):=Q3t hc1;refine zA ?_;cases c with
 |zero=>
  refine Qyl rfl (fun hb2=>absurd hb2 zsy) (fun _=>?_);have hcu2:FIN=(cur,sc):=by rw[←hcu];simp[Q1h]
  obtain⟨al0,hal0⟩:=Q00 (l:=al) (i:=0) zoy;have hbl:=(hsh.2.2.2 0 al0 hal0).2;rw[if_pos rfl]at hbl;obtain⟨a0,ha0⟩:∃a0,al0.binds=[a0]:=by
   match h:al0.binds,hbl with
   |[a0],_=>exact⟨a0,rfl⟩
  have Qyg:=Qfv hΓ H ht hc0 hc1 (ih 0 c0 hc0) (ih 1 c1 hc1) (by rw[←hal];exact hal0) ha0 sc (sc+1) zoy zoy (ht.sh13 c0 (Z1y hc0)) (ht.sh13 c1 (Z1y hc1));obtain⟨r,hr⟩:∃r,r=Q39 a0 (cvT X.M (i+szTs (erTs (ks.take 0))) (erT c0)) (cvT X.M (i+szTs (erTs (ks.take 1))) (erT c1)) sc (sc+1):=⟨_,rfl⟩;unfold CvA at Qyg;rw[←hr]at Qyg;have hRes:Q4y X.up al (cvTs X.M i (erTs ks)) k m s=(.mk 5 0 [s] [lamE (takeE (refE (s+4)) cur [s+5,s+6]) [s+1,s+2,s+3,s+4],letE sc (conE 1 [refE s,conE 1 [refE k,refE m]]) r.1] [],r.2):=by unfold Q4y;simp only[←hF,←hZ,←hFIN,hcu2];rw[Q5o X.M hc0,Q5o X.M hc1,show al.getD 0 ⟨0,[]⟩=al0 by rw[Z0o,hal0];rfl,ha0,Z0n,←hr]
  rw[hRes];refine zA ?_;refine zcd hΓ (Q0e (s+4) _) zsy (hok _) fun _=>?_;refine zA ?_;refine zcd hΓ (Q97 (refE (s+4)) cur [s+5,s+6] _) zsy (hok _) fun _=>?_;refine zA ?_;refine zcd hΓ (Q3x (takeE (refE (s+4)) cur [s+5,s+6]) [s+1,s+2,s+3,s+4] _) zsy (hok _) fun _=>?_;refine zA ?_;refine zcd hΓ (H.fr hΓ (sc) (sc+1) zoy) zsy (hok _) fun _=>?_;refine zA ?_;refine zcd hΓ (Q0e (s) _) zsy (hok _) fun _=>?_;refine zA ?_;refine zcd hΓ (Q0e (k) _) zsy (hok _) fun _=>?_;refine zA ?_;refine zcd hΓ (Q0e (m) _) zsy (hok _) fun _=>?_;refine zA ?_;refine Qv6 hΓ (Q6t 1 [refE k,refE m] _) rfl rfl rfl rfl rfl rfl (by rw[Q0a];rfl) zsy (hok _) fun _=>?_;refine zA ?_;refine Qv6 hΓ (Q6t 1 [refE s,conE 1 [refE k,refE m]] _) rfl rfl rfl rfl rfl rfl (by rw[Q0a];rfl) zsy (hok _) fun _=>?_;refine zA ?_;refine zcd hΓ (Qyg) zsy (hok _) fun _=>?_;refine zA ?_;refine zcd hΓ (Q4i sc (conE 1 [refE s,conE 1 [refE k,refE m]]) r.1 _) zsy (hok _) fun _=>?_;repeat ((fail_if_success ((with_reducible refine oj ?_);refine Qtz 8 rfl ?_));first|refine zO ?_)
  refine Qyx (.l 0) 165 rfl rfl ?_;refine zA ?_;exact Qst rfl (.one (Z45 (.cons (.refl _) (.cons (.refl _) (.cons (.refl _) (.cons (.ofEq (by rw[Q0a];rfl)) (.cons (.nilS 2) .nil))))))) zsy (hok _) ⟨rfl,rfl⟩
 |succ c=>
  refine Qyl rfl (fun _=>?_) (fun hb2=>absurd hb2 zsy);repeat' first|refine zN ?_|((with_reducible refine oj ?_);first|refine zix ?_|refine zow rfl rfl hiC ?_)
  obtain⟨ac,hac⟩:=Q00 (l:=al) (i:=c+1) zoy;obtain⟨tk,htk⟩:=Q00 (l:=ks) (i:=c+2) zoy;have hbl:=(hsh.2.2.2 (c+1) ac hac).2;rw[if_neg zoy]at hbl;obtain⟨x1,x2,hxx⟩:∃x1 x2,ac.binds=[x1,x2]:=by
   match h:ac.binds,hbl with
   |[x1,x2],_=>exact⟨x1,x2,rfl⟩
  have hdk:(ks.drop 2)[c]?=some tk:=by rw[Z0s,Z2q];exact htk
  have hsz:szTs (erTs ((ks.drop 2).take (c+1)))=szTs (erTs ((ks.drop 2).take c))+szT (erT tk):=by rw[Q0h hdk,Q26,Z1e,Q98,←Q26];simp[szTs]
  have Qwj:=Qkm hdk;obtain⟨cv,hcv⟩:∃cv,cv=cvT X.M (i+szTs (erTs (ks.take (c+2)))) (erT tk):=⟨_,rfl⟩;have hzc:Z[c]?=some (ac,cv):=by rw[hZ,List.getElem?_zip_eq_some];refine⟨by rw[Z0s,Z2q];exact hac,?_⟩;rw[Z0s,Z2q,hcv];exact Q6a X.M htk
  obtain⟨tt,htt⟩:∃tt,tt=cv.T (s+5) (s+6) (sc+2):=⟨_,rfl⟩;have hT:=(ih (c+2) tk htk).T ou (s+5) (s+6) (sc+2) H zoy zoy;unfold CvA at hT;rw[←hcv,←htt]at hT;have htb:sc+2<=tt.2/\tt.2<=sc+2+(20 * (szT (erT tk):Int) - 4):=by rw[htt,hcv];exact (Qc4 X.M (erT tk) _ (ht.sh13 tk (Z1y htk))).T _ _ _
  obtain⟨LM,hLM⟩:∃LM,LM=lamE (appE [refE (s+3),refE sc,conE 1 [refE s,refE (sc+1)]]) [sc,sc+1]:=⟨_,rfl⟩;obtain⟨nw,hnw⟩:∃nw,nw=Tr.mk 7 0 [] [.mk 8 6 [] [refE (s+1),wordE ac.tag] [],letE x1 (refE (s+2)) (letE x2 LM tt.1),cur] [⟨1,[]⟩,⟨-1,[]⟩]:=⟨_,rfl⟩;have Qvi:Q1h (s+1) (s+2) (s+3) s (s+5) (s+6) (Z.take c).reverse nw tt.2=FIN:=by rw[←hcu,Q0h hzc,List.reverse_append];simp only[Z2c,List.reverse_nil,Z25,Z03,Q1h];rw[hxx];simp only[Z0n,Z0m];rw[←htt,←hLM,←hnw]
  refine Qyz 63 rfl (y:=.one (int ((c+1:Nat):Int))) (.ofEq (int_eq zsy)) ?_;refine zS (zIA rfl rfl rfl zoy (Q0c hac)) ?_;refine zA ?_;refine zcd hΓ (H.fr hΓ (sc) (sc+1) zoy) zsy (hok _) fun _=>?_;refine zA ?_;refine zcd hΓ (H.fr hΓ (sc+1) (sc+2) zoy) zsy (hok _) fun _=>?_;refine zA ?_;refine zcd hΓ (Q0e (s+3) _) zsy (hok _) fun _=>?_;refine zA ?_;refine zcd hΓ (Q0e (sc) _) zsy (hok _) fun _=>?_;refine zA ?_;refine zcd hΓ (Q0e (s) _) zsy (hok _) fun _=>?_;refine zA ?_;refine zcd hΓ (Q0e (sc+1) _) zsy (hok _) fun _=>?_;refine zA ?_;refine Qv6 hΓ (Q6t 1 [refE s,refE (sc+1)] _) rfl rfl rfl rfl rfl rfl (by rw[Q0a];rfl) zsy (hok _) fun _=>?_;refine zA ?_;refine Qv6 hΓ (Q53 [refE (s+3),refE sc,conE 1 [refE s,refE (sc+1)]] _) rfl rfl rfl rfl rfl rfl (by rw[Q0a];rfl) zsy (hok _) fun _=>?_;refine zA ?_;refine zcd hΓ (Q3x (appE [refE (s+3),refE sc,conE 1 [refE s,refE (sc+1)]]) [sc,sc+1] _) zsy (hok _) fun _=>?_;refine zA ?_;rw[←hLM];obtain⟨L1,hL1⟩:∃L1,L1=letE x2 LM tt.1:=⟨_,rfl⟩;obtain⟨L2,hL2⟩:∃L2,L2=letE x1 (refE (s+2)) L1:=⟨_,rfl⟩;rw[←hL1,←hL2]at hnw;have Qxj:=Q4i (Γ:=Γ) x2 LM tt.1;have hle2:=Q4i (Γ:=Γ) x1 (refE (s+2)) L1;rw[←hL1]at Qxj;rw[←hL2]at hle2;refine ACode.lessO ⟨1,[(0,.cells (cAlt ac))],cvO X ou (sc+2)⟩ rfl (fun i o h=>?_) ?_
  ·cases i with
   |l j=>
    cases j with
    |zero=>exact h
    |succ j=>cases h
   |o j=>exact h
  refine Qv9 tabOk 25 [22,23,24] [(2,.one (.box [int x1])),(5,.one (.box (cTr (refE (s+2))))),(8,.one (.box [int x2])),(15,.one (.sl 1 (kC ks))),(17,.one (int ((c+2:Nat):Int))),(18,.one (.box [.ptr (.o tk.id) 0]))] [.one (.box (cTr tt.1)),.one (.box (cTr L1)),.one (.box (cTr L2))] [⟨1,[(0,.cells (cAlt ac))],cvO X ou tt.2⟩,⟨1,[(0,.cells (cAlt ac))],cvO X ou tt.2⟩,⟨1,[(0,.cells (cAlt ac))],cvO X ou tt.2⟩] follows zky rfl rfl zdy zky zky rfl (.cons rfl (.cons rfl (.cons rfl .nil))) zdy ?_ ?_ ?_
  ·refine .cons ?_ (.cons ?_ (.cons ?_ (.cons ?_ .nil))) <;> exact .step rfl (zHP (Qz2 (n:=0) (es:=ac.binds.map cI) tabOk rfl rfl rfl rfl rfl rfl (.inl rfl) rfl zdy (by rw[hxx];rfl))) (.callK hΓ (Q0e (s+2) _) (hok _) zsy rfl rfl rfl rfl rfl rfl (.step rfl (zHP (Qz2 (n:=1) (es:=ac.binds.map cI) tabOk rfl rfl rfl rfl rfl rfl (.inl rfl) rfl zdy (by rw[hxx];rfl))) (.step rfl (zHP (zLD rfl rfl (H.node ht _) rfl)) (.step rfl (zHP (Qz3 (Qr0 rfl rfl rfl (.inl ⟨rfl,rfl⟩) zI) (.ofEq (int_eq (by push_cast;omega))))) (.step rfl (zHP (zIA rfl rfl rfl zoy (Q5k htk))) .nil)))))
  ·refine .cons rfl rfl (Q0u hΓ hT rfl rfl rfl rfl rfl zsy (hok _)) ?_;refine .cons rfl rfl (Q0u hΓ (Qxj _) rfl rfl rfl rfl rfl zsy (hok _)) ?_;exact .cons rfl rfl (Q0u hΓ (hle2 _) rfl rfl rfl rfl rfl zsy (hok _)) .nil
  intro σ hσ;cases hσ;refine zA ?_;refine Qu1 (va:=.one (.ptr (.l 1) 0)) (σ1:=St.push ⟨1,[(0,.cells (cAlt ac))],cvO X ou tt.2⟩ (.cells [int 8,int 6,.lit (.slice none 0 0),.sl 1 [cB (refE (s+1)),cB (wordE ac.tag)],.lit (.slice none 0 0)])) tabOk 8 7 [(1,.one (.box (cTr (refE (s+1))))),(4,.one (.box (cTr (wordE ac.tag))))] follows zky rfl rfl rfl rfl rfl rfl rfl (Qzr tabOk rfl) ?_ ?_ ?_
  ·exact .callK hΓ (Q0e (s+1) _) (hok _) zsy rfl rfl rfl rfl rfl rfl (.callK hΓ (Qch ac.tag _) (hok _) zsy rfl rfl rfl rfl rfl rfl .nil)
  ·exact .callK hΓ (Q0e (s+1) _) (hok _) zsy rfl rfl rfl rfl rfl rfl (.callK hΓ (Qch ac.tag _) (hok _) zsy rfl rfl rfl rfl rfl rfl .nil)
  repeat ((fail_if_success ((with_reducible refine oj ?_);refine Qtz 119 rfl ?_));first|refine zO ?_)
  refine Qyx (.l 1) 23 rfl rfl ?_;refine Qyz 23 rfl (y:=.one (.box (cTr (.mk 8 6 [] [refE (s+1),wordE ac.tag] [])))) (.one (Z45 (.cons (.refl _) (.cons (.refl _) (.cons (.nilS 1) (.cons (.ofEq (by rw[Q0a];rfl)) (.cons (.nilS 2) .nil))))))) ?_;repeat ((fail_if_success ((with_reducible refine oj ?_);refine Qtz 57 rfl ?_));first|refine zO ?_)
  refine Qyx (.l 2) 16 rfl rfl ?_;refine Qyz 16 rfl (y:=.one (.box (cTr nw))) (by rw[hnw];exact .one (Z45 (.cons (.refl _) (.cons (.refl _) (.cons (.nilS 1) (.cons (.ofEq (by rw[Q0a];rfl)) (.cons (Wk.sl (.cons (.cons (.refl _) (.cons (.nilS 1) .nil)) (.cons (.cons (.refl _) (.cons (.nilS 1) .nil)) .nil))) .nil))))))) ?_;refine zM ?_;exact cInv ⟨c,(c,nw,tt.2),_root_.id,by omega,⟨by dsimp only;omega,⟨Qvi,by dsimp only;omega,by dsimp only;omega⟩,rfl⟩,Qzw rfl (Qzp rfl (.ofEq (int_eq zsy)) zsy zFS) zsy zLO rfl rfl (hok _)⟩
theorem PtO.rec_{X:CvX}(h:PtO X i (.mk id 5 n nb b ks a))(hj:j < b.length)(ht:ks[j]?=some t):(erT t).op=2:=by have h1:=(Q1u h.sh).rc rfl j hj;have h2:((erTs ks).map Tr.op)[j]?=some 2:=h1;rw[Q26,Z0w,Z0w,ht]at h2;simpa using h2
theorem kC_take(ks:List LTr)(p:Nat):(kC ks).take p=kC (ks.take p):=by simp[kC,Z1k]
theorem Qk3(hΓ:GI Γ){X:CvX}(ht:PtO X i (.mk id o n nb b ks a))(ih:CvKs Γ X i ks):
  ∀ou k m s,CvU X ou->0<=s->s+20 * (szT (erT (.mk id o n nb b ks a)):Int)<=lim->CvA Γ X ou 78 [.one (.ptr (.o X.kv) 0),.one (.ptr (.o id) 0),.one (int k),.one (int m)] s ((cvT X.M i (erT (.mk id o n nb b ks a))).T k m s):=by
 intro ou k m s H hs0 hsl;have hi:=H.node ht s;have hsh:=ht.shN;have hkl:ks.length<=1048576:=by have:=ht.ok.2.1;rwa [Q10]at this
 have hef:=Q7k hΓ (H s) ht;have hpu:=Qc5 hΓ ht ih ou s H hs0 hsl;have hha:=fun (e:o=13)=>e;have Qye:=hsl;rw[Qdy]at hsl;have hok:=fun s=>(H s).ok;obtain⟨N,hN⟩:∃N,N=i+szTs (erTs ks):=⟨_,rfl⟩;have hT:(cvT X.M i (erT (.mk id o n nb b ks a))).T k m s=tailB X.M N o n b (a.map LAlt.er) (cvTs X.M i (erTs ks)) k m s:=by rw[hN];rfl
 have hP:(cvT X.M i (erT (.mk id o n nb b ks a))).P s=pureB (X.M.pas N) o n b (a.map LAlt.er) (cvTs X.M i (erTs ks)) s:=by rw[hN];rfl
 have hE:(cvT X.M i (erT (.mk id o n nb b ks a))).eff=X.M.eff N:=by rw[hN];rfl
 unfold CvA at hpu;rw[hE]at hef;rw[hP]at hpu;rw[hT];unfold tailB;refine zwk 167 Tryz.func78 fun hou=>?_;refine zA ?_;refine Qyv hΓ hef rfl rfl rfl rfl rfl rfl rfl hou zsy ?_;cases hb:X.M.eff N with
 |false=>
  simp only[if_true];obtain⟨p,hp⟩:∃p,p=pureB (X.M.pas N) o n b (a.map LAlt.er) (cvTs X.M i (erTs ks)) s:=⟨_,rfl⟩;rw[←hp]at hpu ⊢;refine zM ?_;refine zcd hΓ (Q0e k _) zsy hou fun _=>?_;refine zA ?_;refine zcd hΓ hpu zsy hou fun h1=>?_;refine zA ?_;refine zcd hΓ (Q0e m _) zsy h1 fun _=>?_;refine zA ?_;refine Qv6 hΓ (Q53 [refE k,p.1,refE m] _) rfl rfl rfl rfl rfl rfl (by rw[Q0a];rfl) zsy h1 fun _=>?_;refine zA ?_;exact Qst rfl (.refl _) zsy h1 ⟨rfl,rfl⟩
 |true=>
  simp only[Qzl,if_false];refine zM ?_;repeat' first|refine zN ?_|((with_reducible refine oj ?_);first|refine zix ?_|refine zow rfl rfl hi ?_)
  by_cases e4:o=4
  ·subst e4;obtain⟨hk2,hb1,_⟩:=hsh.lett;obtain⟨k0,k1,rfl⟩:∃x y,ks=[x,y]:=by match ks,hk2 with|[x,y],_=>exact⟨x,y,rfl⟩
   obtain⟨x,rfl⟩:∃x,b=[x]:=by match b,hb1 with|[x],_=>exact⟨x,rfl⟩
   have hc0:[k0,k1][0]?=some k0:=rfl;have hc1:[k0,k1][1]?=some k1:=rfl;have hef0:=Q7k hΓ (H s) (ht.kid hc0);have ih0:=ih 0 k0 hc0;have ih1:=ih 1 k1 hc1;have hx0:=Q5o X.M (i:=i) hc0;have hx1:=Q5o X.M (i:=i) hc1;have hbd0:=Qc4 X.M (erT k0) (i+szTs (erTs ([k0,k1].take 0))) (ht.sh13 k0 zsy);have hbd1:=Qc4 X.M (erT k1) (i+szTs (erTs ([k0,k1].take 1))) (ht.sh13 k1 zsy);rw[hx0,hx1];obtain⟨c0,hc0e⟩:∃c0,c0=cvT X.M (i+szTs (erTs ([k0,k1].take 0))) (erT k0):=⟨_,rfl⟩;obtain⟨c1,hc1e⟩:∃c1,c1=cvT X.M (i+szTs (erTs ([k0,k1].take 1))) (erT k1):=⟨_,rfl⟩;rw[←hc0e]at hef0 hbd0 ⊢;rw[←hc1e]at hbd1 ⊢;simp only[erTs,szTs]at hsl;simp only[if_true,Z0n];repeat' first|refine zN ?_|((with_reducible refine oj ?_);first|refine zix ?_|refine zow rfl rfl hi ?_)
   refine Qyv hΓ hef0 rfl rfl rfl rfl rfl rfl rfl hou zsy ?_;cases hE0:c0.eff with
   |false=>
    obtain⟨p,hp⟩:∃p,p=c0.P s:=⟨_,rfl⟩;obtain⟨q,hqe⟩:∃q,q=c1.T k m p.2:=⟨_,rfl⟩;have hpb:=hbd0.P s;have hP0:=ih0.P ou s H hs0 zoy;rw[←hp]at hpb;have hT1:=ih1.T ou k m p.2 H zoy zoy;unfold CvA at hP0 hT1;rw[←hc0e,←hp]at hP0;rw[←hc1e,←hqe]at hT1;simp only[if_true];rw[←hp,←hqe];refine zM ?_;refine Qv9 tabOk 25 [13,23,24] [(3,.one (.sl 1 [cI x])),(4,.one (.box [int x])),(10,.one (.sl 1 (kC [k0,k1]))),(11,.one (.box [.ptr (.o k0.id) 0])),(18,.one (.sl 1 (kC [k0,k1]))),(19,.one (.box [.ptr (.o k1.id) 0]))] [.one (.box (cTr p.1)),.one (.box (cTr q.1)),.one (.box (cTr (letE x p.1 q.1)))] [⟨0,[],cvO X ou p.2⟩,⟨0,[],cvO X ou q.2⟩,⟨0,[],cvO X ou q.2⟩] follows zky rfl rfl zdy zky zky rfl (.cons rfl (.cons rfl (.cons rfl .nil))) zdy ?_ ?_ ?_
    ·refine .cons ?_ (.cons ?_ (.cons ?_ (.cons ?_ .nil))) <;> exact .step rfl (zHP (zLD rfl rfl (H.node ht _) rfl)) (.step rfl (zHP (Qz2 (n:=0) tabOk rfl rfl rfl rfl rfl rfl (.inl rfl) rfl zdy rfl)) (.step rfl (zHP (zLD rfl rfl (H.node ht _) rfl)) (.step rfl (zHP (Qz2 (n:=0) tabOk rfl rfl rfl rfl rfl rfl (.inl rfl) rfl zdy rfl)) (.step rfl (zHP (zLD rfl rfl (H.node ht _) rfl)) (.step rfl (zHP (Qz2 (n:=1) tabOk rfl rfl rfl rfl rfl rfl (.inl rfl) rfl zdy rfl)) .nil)))))
    ·refine .cons rfl rfl (Q0u hΓ hP0 rfl rfl rfl rfl rfl zsy (hok _)) ?_;refine .cons rfl rfl (Q0u hΓ hT1 rfl rfl rfl rfl rfl zsy (hok _)) ?_;exact .cons rfl rfl (Q0u hΓ (Q4i x p.1 q.1 _) rfl rfl rfl rfl rfl zsy (hok _)) .nil
    ·intro σ hσ;cases hσ;refine zA ?_;exact Qst rfl (.refl _) zsy (hok _) ⟨rfl,rfl⟩
   |true=>
    obtain⟨q,hqe⟩:∃q,q=c1.T k s (s+1):=⟨_,rfl⟩;have hqb:=hbd1.T k s (s+1);rw[←hqe]at hqb;have hT1:=ih1.T ou k s (s+1) H zoy zoy;have hbi:=Qgr hΓ H ih0 x s q.1 m q.2 zoy zoy;obtain⟨r,hr⟩:∃r,r=bindB c0 x s q.1 m q.2:=⟨_,rfl⟩;unfold CvA at hT1 hbi;rw[←hc1e,←hqe]at hT1;rw[←hc0e,←hr]at hbi;simp only[Qzl,if_false];rw[←hqe,←hr];refine zM ?_;refine zcd hΓ (H.fr hΓ s (s+1) zoy) zsy hou fun _=>?_;refine zA ?_;refine Qv9 tabOk 26 [23,25] [(4,.one (.sl 1 (kC [k0,k1]))),(5,.one (.box [.ptr (.o k0.id) 0])),(10,.one (.sl 1 [cI x])),(11,.one (.box [int x])),(18,.one (.sl 1 (kC [k0,k1]))),(19,.one (.box [.ptr (.o k1.id) 0]))] [.one (.box (cTr q.1)),.one (.box (cTr r.1))] [⟨0,[],cvO X ou q.2⟩,⟨0,[],cvO X ou r.2⟩] follows zky rfl rfl zdy zky zky rfl (.cons rfl (.cons rfl .nil)) zdy ?_ ?_ ?_
    ·refine .cons ?_ (.cons ?_ (.cons ?_ .nil)) <;> exact .step rfl (zHP (zLD rfl rfl (H.node ht _) rfl)) (.step rfl (zHP (Qz2 (n:=0) tabOk rfl rfl rfl rfl rfl rfl (.inl rfl) rfl zdy rfl)) (.step rfl (zHP (zLD rfl rfl (H.node ht _) rfl)) (.step rfl (zHP (Qz2 (n:=0) tabOk rfl rfl rfl rfl rfl rfl (.inl rfl) rfl zdy rfl)) (.step rfl (zHP (zLD rfl rfl (H.node ht _) rfl)) (.step rfl (zHP (Qz2 (n:=1) tabOk rfl rfl rfl rfl rfl rfl (.inl rfl) rfl zdy rfl)) .nil)))))
    ·refine .cons rfl rfl (Q0u hΓ hT1 rfl rfl rfl rfl rfl zsy (hok _)) ?_;exact .cons rfl rfl (Q0u hΓ hbi rfl rfl rfl rfl rfl zsy (hok _)) .nil
    ·intro σ hσ;cases hσ;refine zA ?_;exact Qst rfl (.refl _) zsy (hok _) ⟨rfl,rfl⟩
  refine Qyl rfl (fun hb=>absurd hb (by simpa using e4)) (fun _=>?_);refine zA ?_;rw[if_neg e4];by_cases e5:o=5
  ·subst e5;rw[if_pos rfl];have hkb:ks.length=b.length+1:=hsh.recs.1;have hbd:∀j t,ks[j]?=some t->s<=(mpF (cvS X i ks 0 j) s).2/\(mpF (cvS X i ks 0 j) s).2+20 * (szT (erT t):Int)<=lim:=fun j t hj=>by obtain⟨C,h1,h2⟩:=Q90 (X:=X) (i:=i) ht.sh13 0 j;have h3:=h1.mpF s;have h4:=Q3t hj;rw[Z3a,Z0a]at h2;omega
   have hpl:∀c,c<=ks.length->(mpF (cvS X i ks 0 c) s).1.length=c:=fun c hc=>by rw[Qm0];unfold cvS;rw[Z0a,Z1c,Q1c,Q10];omega
   repeat' first|refine zN ?_|((with_reducible refine oj ?_);first|refine zix ?_|refine zow rfl rfl hi ?_)
   refine Qva tabOk [(3,.one (.sl 1 (kC ks))),(7,.one (.sl 1 (b.map cI))),(9,.one (.sl 1 (kC (ks.take b.length))))] follows zky rfl rfl rfl ?_ ?_
   ·refine .step rfl (zHP (zLD rfl rfl hi rfl)) ?_;refine .step rfl (zHP (zLD rfl rfl hi rfl)) ?_;exact .step rfl (zHP (Qz3 (Qry (b:=(b.map cI).length) (es:=kC ks) tabOk rfl rfl rfl rfl rfl rfl (by rw[Q3z];simp;omega)) (.ofEq (by rw[Z16,kC_take])))) .nil
   refine zA ?_;refine Qyq 0 3 74 1 rfl rfl ?_;have htl:(kC (ks.take b.length)).length=b.length:=by rw[Q3z,Z1c];omega
   refine Qre hΓ (α:=Nat) (fun c=>[(113,.one (int (c:Nat))),(112,.one (int (kC (ks.take b.length)).length)),(111,.one (.sl 1 (kC (ks.take b.length)))),(10,.one (.ptr (.l 0) 0)),(3,.one (int m)),(2,.one (int k)),(1,.one (.ptr (.o id) 0)),(0,.one (.ptr (.o X.kv) 0))])
    (fun c=>⟨2,[(1,.tok 74 1 c),(0,.cells [int 5,int 0,.sl 1 (b.map cI),.gs 1 ((mpF (cvS X i ks 0 c) s).1.map cB) (.l 1),.lit (.slice none 0 0)])],cvO X ou (mpF (cvS X i ks 0 c) s).2⟩) (fun m' c=>c<=b.length/\m'=b.length - c) (a0:=0) (ρ:=_root_.id) ⟨by omega,rfl⟩
    (Qzw rfl zFS zsy ?_ rfl rfl hou) fun m' c hcc=>?_
   ·repeat' first|exact Z2n|refine zlc ?_|refine zld ?_ ?_|rfl
    all_goals (simp[AObj.ren,renL,AC.ren];exact⟨rfl,rfl⟩)
   obtain⟨hjl,rfl⟩:=hcc;obtain⟨pv,hpv⟩:∃pv,pv=(mpF (cvS X i ks 0 c) s).1:=⟨_,rfl⟩;obtain⟨sv,hsv⟩:∃sv,sv=(mpF (cvS X i ks 0 c) s).2:=⟨_,rfl⟩;have hpc:(pv.map cB).length=c:=by rw[Z16,hpv];exact hpl c zoy
   have hoks:=hok sv;dsimp only;rw[←hpv,←hsv];refine zA ?_;refine Qyl rfl (fun hb2=>?_) (fun hb2=>?_)
   ·have hlt:c < b.length:=by have:=of_decide_eq_true hb2;rw[htl]at this;omega
    obtain⟨t,htc⟩:=Q00 (l:=ks) (i:=c) zoy;obtain⟨g1,g2⟩:=hbd c t htc;rw[←hsv]at g1 g2;obtain⟨rt,hrt⟩:∃rt,rt=(cvT X.M (i+szTs (erTs (ks.take c))) (erT t)).F sv:=⟨_,rfl⟩;have hs1:mpF (cvS X i ks 0 (c+1)) s=(pv++[rt.1],rt.2):=by rw[Q7l (by simpa using htc),Qm1,←hpv,←hsv,hrt];simp only[Z3a];rfl
    have hca:=(ih c t htc).F (ht.rec_ hlt htc) ou sv H zoy g2;unfold CvA at hca;rw[←hrt]at hca;have htd:(ks.take b.length)[c]?=some t:=by rw[Z0z hlt];exact htc
    refine zA ?_;refine zS (zIA rfl rfl rfl zoy (Q5k htd)) ?_;refine zA ?_;refine Qv9 tabOk 10 [7,8,9] [] [.one (.box (cTr rt.1)),.one (.sl 1 [cB rt.1]),.one (.gs 1 (pv.map cB++[cB rt.1]) (.l 2))] [⟨2,[(1,.tok 74 1 c),(0,.cells [int 5,int 0,.sl 1 (b.map cI),.gs 1 (pv.map cB) (.l 1),.lit (.slice none 0 0)])],cvO X ou rt.2⟩,⟨2,[(1,.tok 74 1 c),(0,.cells [int 5,int 0,.sl 1 (b.map cI),.gs 1 (pv.map cB) (.l 1),.lit (.slice none 0 0)])],cvO X ou rt.2⟩,(St.set ⟨2,[(1,.tok 74 1 c),(0,.cells [int 5,int 0,.sl 1 (b.map cI),.gs 1 (pv.map cB) (.l 1),.lit (.slice none 0 0)])],cvO X ou rt.2⟩ (.l 1) .dead).push (.tok 74 1 (pv.map cB++[cB rt.1]).length)] follows zky rfl rfl zdy zky zky rfl (.cons rfl (.cons rfl (.cons rfl .nil))) zdy (.cons .nil (.cons .nil (.cons .nil (.cons .nil .nil)))) ?_ ?_
    ·refine .cons rfl rfl (Q0u hΓ hca rfl rfl rfl rfl rfl zsy hoks) ?_;refine .cons rfl rfl (Q6d (zHP (Qqs tabOk rfl))) ?_;refine .cons rfl rfl (Q6d (zHP (Qz1 (s:=1) (es:=pv.map cB) (news:=[cB rt.1]) (ti:=ti117) tabOk rfl rfl rfl rfl rfl rfl (Qrm _ 74 1 (pv.map cB) (.l 1) rfl hpc.symm) (.sl _ _) rfl ?_ ?_))) .nil
     ·rw[hpc];show (c+1) * 8<=_;omega
     ·rw[hpc];show c+1<=_;omega
    ·intro σ hσ;cases hσ;have Qwm:=hok rt.2;refine zM ?_;refine cInv ⟨b.length - (c+1),c+1,fun k=>if k=1 then 2 else k,by omega,⟨by omega,rfl⟩,Qzw rfl zFS zsy ?_ rfl (by rw[hs1];rfl) Qwm⟩;repeat' first|exact Z2n|refine zlc ?_|refine zld ?_ ?_|rfl
     ·simp only[AObj.ren,Z12,hpc];rfl
     ·rw[hs1];simp only[AObj.ren,renL,AC.ren,Q3v,Qct];rw[Z1e];rfl
   ·have hce:c=b.length:=by have:=of_decide_eq_false hb2;rw[htl]at this;omega
    subst hce;obtain⟨t,htc⟩:=Q00 (l:=ks) (i:=b.length) zoy;obtain⟨g1,g2⟩:=hbd b.length t htc;rw[←hsv]at g1 g2;obtain⟨rt,hrt⟩:∃rt,rt=(cvT X.M (i+szTs (erTs (ks.take b.length))) (erT t)).T k m sv:=⟨_,rfl⟩;have hR:mpF ((cvTs X.M i (erTs ks)).take b.length) s=(pv,sv):=by rw[hpv,hsv];unfold cvS;rw[Z0a]
    have hca:=(ih b.length t htc).T ou k m sv H zoy g2;unfold CvA at hca;rw[←hrt]at hca;rw[Q5o X.M htc,hR,←hrt];have htb:(kC ks)[(b.map cI).length]?=some [.ptr (.o t.id) 0]:=by rw[Z16];exact Q5k htc
    refine zA ?_;refine Qv9 tabOk 22 [19,20,21] [(9,.one (.sl 1 (kC ks))),(13,.one (.sl 1 (b.map cI))),(15,.one (.box [.ptr (.o t.id) 0]))] [.one (.box (cTr rt.1)),.one (.sl 1 [cB rt.1]),.one (.gs 1 (pv.map cB++[cB rt.1]) (.l 2))] [⟨2,[(1,.tok 74 1 b.length),(0,.cells [int 5,int 0,.sl 1 (b.map cI),.gs 1 (pv.map cB) (.l 1),.lit (.slice none 0 0)])],cvO X ou rt.2⟩,⟨2,[(1,.tok 74 1 b.length),(0,.cells [int 5,int 0,.sl 1 (b.map cI),.gs 1 (pv.map cB) (.l 1),.lit (.slice none 0 0)])],cvO X ou rt.2⟩,(St.set ⟨2,[(1,.tok 74 1 b.length),(0,.cells [int 5,int 0,.sl 1 (b.map cI),.gs 1 (pv.map cB) (.l 1),.lit (.slice none 0 0)])],cvO X ou rt.2⟩ (.l 1) .dead).push (.tok 74 1 (pv.map cB++[cB rt.1]).length)] follows zky rfl rfl zdy zky zky rfl (.cons rfl (.cons rfl (.cons rfl .nil))) zdy ?_ ?_ ?_
    ·refine .cons ?_ (.cons ?_ (.cons ?_ (.cons ?_ .nil))) <;> exact .step rfl (zHP (zLD rfl rfl (H.node ht _) rfl)) (.step rfl (zHP (zLD rfl rfl (H.node ht _) rfl)) (.step rfl (zHP (zIA rfl rfl rfl (Int.natCast_nonneg _) htb)) .nil))
    ·refine .cons rfl rfl (Q0u hΓ hca rfl rfl rfl rfl rfl zsy hoks) ?_;refine .cons rfl rfl (Q6d (zHP (Qqs tabOk rfl))) ?_;refine .cons rfl rfl (Q6d (zHP (Qz1 (s:=1) (es:=pv.map cB) (news:=[cB rt.1]) (ti:=ti117) tabOk rfl rfl rfl rfl rfl rfl (Qrm _ 74 1 (pv.map cB) (.l 1) rfl hpc.symm) (.sl _ _) rfl ?_ ?_))) .nil
     ·rw[hpc];show (b.length+1) * 8<=_;omega
     ·rw[hpc];show b.length+1<=_;omega
    ·intro σ hσ;cases hσ;have Qwm:=hok rt.2;repeat ((fail_if_success ((with_reducible refine oj ?_);refine Qtz 8 rfl ?_));first|refine zO ?_)
     refine Qyx (.l 0) 154 rfl rfl ?_;refine zA ?_;refine Qst rfl (.one (Z45 (.cons (.refl _) (.cons (.refl _) (.cons (.refl _) (.cons (.gsE (by rw[Q0a];simp)) (.cons (.nilS 2) .nil))))))) zsy Qwm ⟨rfl,rfl⟩
  refine Qyl rfl (fun hb=>absurd hb (by simpa using e5)) (fun _=>?_);refine zA ?_;rw[if_neg e5];by_cases e13:o=13
  ·subst e13;rw[if_pos rfl];have hhd:=Qmt hΓ H ht ih k m s hs0 Qye;unfold CvA at hhd;refine zM ?_;refine zcd hΓ hhd zsy hou fun h1=>?_;refine zA ?_;exact Qst rfl (.refl _) zsy h1 ⟨rfl,rfl⟩
  refine Qyl rfl (fun hb=>absurd hb (by simpa using e13)) (fun _=>?_);rw[if_neg e13];have hsq:=Qft hΓ ht ih (opnds o ks.length) 0 zoy [] rfl ou k m s H hs0 (by rw[Z0a];omega) (cvO X ou s) none ⟨fun _=>rfl,fun _ _ e=>by cases e⟩ hou fun q o h=>⟨h,by simp[gK]⟩;have hR:seqB (finB X.M.up (X.M.cnv N) o n b (a.map LAlt.er) ((cvTs X.M i (erTs ks)).drop 1)) ((cvTs X.M i (erTs ks)).take (opnds o (cvTs X.M i (erTs ks)).length)) [] k m s=seqB (finB X.M.up (X.M.cnv (i+szTs (erTs ks))) o n b (a.map LAlt.er) (cvS X i ks 1 (ks.length - 1))) (cvS X i ks 0 (opnds o ks.length - 0)) [] k m s:=by unfold cvS;rw[Q1c,Q10,Z0a,Z38,Z2k (show ((cvTs X.M i (erTs ks)).drop 1).length<=ks.length - 1 by rw[Z14,Q1c,Q10];exact Z30 _),hN]
  rw[hR];refine zM ?_;refine zcd hΓ hsq zsy hou fun h1=>?_;refine zA ?_;exact Qst rfl (.refl _) zsy h1 ⟨rfl,rfl⟩
theorem cvK_ok(hΓ:GI Γ){X:CvX}:∀(q:Nat)(t:LTr)(i:Nat),szT (erT t)<=q->PtO X i t->CvK Γ X i t
 |0,t,i,h,_=>by have:=Q9q (erT t);omega
 |q+1,.mk id o n nb b ks a,i,h,ht=>by
  rw[Qdy]at h;have ih:CvKs Γ X i ks:=fun j t hj=>cvK_ok hΓ q t _ (by have:=Qh4 hj;omega) (ht.kid hj);refine⟨Qc5 hΓ ht ih,fun h2=>?_,Qk3 hΓ ht ih⟩;have e2:o=2:=h2;subst e2;obtain⟨k0,rfl⟩:∃k0,ks=[k0]:=by
   have:=ht.shN.lam.1
   match ks,this with|[k0],_=>exact⟨k0,rfl⟩
  exact Qaj hΓ ht (ih 0 k0 rfl)
theorem Qj8(hΓ:GI Γ){X:CvX}(H:CvU X ou)(ht:PtO X 0 t)(s:Int)(hs0:0<=s)(hsl:s+10+20 * (szT (erT t):Int)<=lim):
  CvA Γ X ou 38 [.one (.ptr (.o X.kv) 0),.one (.ptr (.o t.id) 0)] s (Q4s X.M (cvT X.M 0 (erT t)) s):=by
 have hok:=fun s=>(H s).ok;obtain⟨r,hr⟩:∃r,r=(cvT X.M 0 (erT t)).T (s+6) (s+7) (s+10):=⟨_,rfl⟩;have hT:=(cvK_ok hΓ _ t 0 (Z30 _) ht).T ou (s+6) (s+7) (s+10) H zoy zoy;unfold CvA at hT;rw[←hr]at hT;obtain⟨FD,hFD⟩:∃FD,FD=Tr.mk 7 0 [] [refE (s+3),appE [refE (s+4),refE s,refE (s+1),refE (s+2),refE (s+5)],.mk 17 4 [] [] []] [⟨1,[s+4,s+5]⟩,⟨-1,[]⟩]:=⟨_,rfl⟩;obtain⟨L1,hL1⟩:∃L1,L1=letE (s+7) (conE 0 []) r.1:=⟨_,rfl⟩;obtain⟨L2,hL2⟩:∃L2,L2=letE (s+6) (lamE (refE (s+8)) [s+8,s+9]) L1:=⟨_,rfl⟩;have Qxj:=Q4i (Γ:=Γ) (s+7) (conE 0 []) r.1;have hle2:=Q4i (Γ:=Γ) (s+6) (lamE (refE (s+8)) [s+8,s+9]) L1;rw[←hL1]at Qxj;rw[←hL2]at hle2;have hR:Q4s X.M (cvT X.M 0 (erT t)) s=(.mk 5 0 [X.up] [lamE FD [s,s+1,s+2,s+3],L2] [],r.2):=by rw[hL2,hL1,hr,hFD];rfl
 rw[hR];have hcon:=(Q6t (Γ:=Γ) 0 [] (cvO X ou (s+10))).wkArgs (xs:=[.one (int 0),.one (.lit (.slice none 0 0))]) (.cons (.refl _) (.cons (.one (.nilS 1)) .nil));refine zwk 96 Tryz.func38 fun _=>?_;refine zA ?_;refine zcd hΓ (H.fr hΓ (s) (s+1) zoy) zsy (hok _) fun _=>?_;refine zA ?_;refine zcd hΓ (H.fr hΓ (s+1) (s+2) zoy) zsy (hok _) fun _=>?_;refine zA ?_;refine zcd hΓ (H.fr hΓ (s+2) (s+3) zoy) zsy (hok _) fun _=>?_;refine zA ?_;refine zcd hΓ (H.fr hΓ (s+3) (s+4) zoy) zsy (hok _) fun _=>?_;refine zA ?_;refine zcd hΓ (H.fr hΓ (s+4) (s+5) zoy) zsy (hok _) fun _=>?_;refine zA ?_;refine zcd hΓ (H.fr hΓ (s+5) (s+6) zoy) zsy (hok _) fun _=>?_;refine zA ?_;refine zcd hΓ (Q0e (s+4) _) zsy (hok _) fun _=>?_;refine zA ?_;refine zcd hΓ (Q0e (s) _) zsy (hok _) fun _=>?_;refine zA ?_;refine zcd hΓ (Q0e (s+1) _) zsy (hok _) fun _=>?_;refine zA ?_;refine zcd hΓ (Q0e (s+2) _) zsy (hok _) fun _=>?_;refine zA ?_;refine zcd hΓ (Q0e (s+5) _) zsy (hok _) fun _=>?_;refine zA ?_;refine Qv6 hΓ (Q53 [refE (s+4),refE s,refE (s+1),refE (s+2),refE (s+5)] _) rfl rfl rfl rfl rfl rfl (by rw[Q0a];rfl) zsy (hok _) fun _=>?_;refine zA ?_;refine zcd hΓ (Q0e (s+3) _) zsy (hok _) fun _=>?_;repeat ((fail_if_success ((with_reducible refine oj ?_);refine Qtz 53 rfl ?_));first|refine zO ?_)
 refine Qyx (.l 0) 52 rfl rfl ?_;refine Qyz 52 rfl (y:=.one (.box (cTr (.mk 17 4 [] [] [])))) (.one (Z45 (.cons (.refl _) (.cons (.refl _) (.cons (.nilS 1) (.cons (.nilS 1) (.cons (.nilS 2) .nil))))))) ?_;repeat ((fail_if_success ((with_reducible refine oj ?_);refine Qtz 56 rfl ?_));first|refine zO ?_)
 refine Qyx (.l 1) 12 rfl rfl ?_;refine Qyz 12 rfl (y:=.one (.box (cTr FD))) (by rw[hFD];exact .one (Z45 (.cons (.refl _) (.cons (.refl _) (.cons (.nilS 1) (.cons (.ofEq (by rw[Q0a];rfl)) (.cons (Wk.sl (.cons (.cons (.refl _) (.cons (.refl _) .nil)) (.cons (.cons (.refl _) (.cons (.nilS 1) .nil)) .nil))) .nil))))))) ?_;refine zA ?_;refine zcd hΓ (H.fr hΓ (s+6) (s+7) zoy) zsy (hok _) fun _=>?_;refine zA ?_;refine zcd hΓ (H.fr hΓ (s+7) (s+8) zoy) zsy (hok _) fun _=>?_;refine zA ?_;refine zcd hΓ (H.fr hΓ (s+8) (s+9) zoy) zsy (hok _) fun _=>?_;refine zA ?_;refine zcd hΓ (H.fr hΓ (s+9) (s+10) zoy) zsy (hok _) fun _=>?_;refine zA ?_;refine zcd hΓ (Q0e (s+8) _) zsy (hok _) fun _=>?_;refine zA ?_;refine zcd hΓ (Q3x (refE (s+8)) [s+8,s+9] _) zsy (hok _) fun _=>?_;refine zA ?_;refine zcd hΓ (hcon) zsy (hok _) fun _=>?_;refine zA ?_;refine zcd hΓ (hT) zsy (hok _) fun _=>?_;refine zA ?_;refine zcd hΓ (Qxj _) zsy (hok _) fun _=>?_;refine zA ?_;refine zcd hΓ (hle2 _) zsy (hok _) fun _=>?_;refine zA ?_;have hv:cvO X ou r.2 X.kv=some (.cells [.ptr (.o X.y.kp) 0,.mp (.o X.ka),int r.2,int X.up]):=(H _).v;refine ACode.lessO ⟨2,[],cvO X ou r.2⟩ rfl (fun i o h=>?_) ?_
 ·cases i with
  |l j=>cases h
  |o j=>exact h
 refine Qu1 (va:=.one (.ptr (.l 2) 0)) (σ1:=St.push ⟨2,[],cvO X ou r.2⟩ (.cells [int 5,int 0,.sl 1 [cI X.up],.sl 1 [cB (lamE FD [s,s+1,s+2,s+3]),cB L2],.lit (.slice none 0 0)])) tabOk 16 15 [(3,.one (int X.up)),(11,.one (.box (cTr (lamE FD [s,s+1,s+2,s+3]))))] follows zky rfl rfl rfl rfl rfl rfl rfl (Qzr tabOk rfl) ?_ ?_ ?_
 ·exact .step rfl (zHP (zLD rfl rfl hv rfl)) (.callK hΓ (Q3x FD [s,s+1,s+2,s+3] _) (hok _) zsy rfl rfl rfl rfl rfl rfl .nil)
 ·exact .step rfl (zHP (zLD rfl rfl hv rfl)) (.callK hΓ (Q3x FD [s,s+1,s+2,s+3] _) (hok _) zsy rfl rfl rfl rfl rfl rfl .nil)
 refine Qyx (.l 2) 95 rfl rfl ?_;refine zA ?_;exact Qst rfl (.one (Z45 (.cons (.refl _) (.cons (.refl _) (.cons (.refl _) (.cons (.ofEq (by rw[Q0a];rfl)) (.cons (.nilS 2) .nil))))))) zsy (hok _) ⟨rfl,rfl⟩
theorem Qms(hΓ:GI Γ)(e:List Ex)(he:e.length<=1048576):APure Tryz.prog Γ 33 [.one (.sl 5 (e.map cEx))] (.one (bA (Q59 e))):=by
 intro ou;refine zwk 20 Tryz.func33 fun hou=>?_;refine zA ?_;refine Qre hΓ (α:=Nat) (fun c=>[(7,.one (int (c:Nat))),(6,.one (int (e.map cEx).length)),(5,.one (.sl 5 (e.map cEx)))]) (fun c=>⟨0,[],ou⟩)
  (fun m c=>c<=e.length/\(e.take c).any (fun x=>x.op==12||x.op==13)=false/\m=e.length - c) (a0:=0) (ρ:=_root_.id) ⟨by omega,rfl,rfl⟩ (Qzw rfl zFS zsy zLO rfl rfl hou) fun m c hc=>?_
 obtain⟨hcl,hno,rfl⟩:=hc;refine zA ?_;refine Qyl rfl (fun hb2=>?_) (fun hb2=>?_)
 ·have hlt:c < e.length:=by simpa using hb2
  obtain⟨x,hx⟩:=Q00 hlt;have hxm:=Z1y hx;refine zA ?_;refine zS (zIA rfl rfl rfl zoy (Q0c hx)) ?_;repeat ((fail_if_success ((with_reducible refine oj ?_);refine Qtz 15 rfl ?_));first|refine zO ?_)
  by_cases h12:x.op=12
  ·have ht:Q59 e=true:=by unfold Q59;rw[Z00];exact⟨x,hxm,by simp[h12]⟩
   rw[ht];refine Qyz 14 rfl (y:=.one (.lit (.bool true))) (.ofEq (by simp[h12])) ?_;refine zM ?_;exact Qst rfl (.refl _) (by simp[bA,AC.ids]) hou ⟨rfl,rfl⟩
  ·refine Qyz 14 rfl (y:=.one (.lit (.bool false))) (.ofEq (by simp[h12])) ?_;by_cases h13:x.op=13
   ·have ht:Q59 e=true:=by unfold Q59;rw[Z00];exact⟨x,hxm,by simp[h13]⟩
    rw[ht];repeat ((fail_if_success ((with_reducible refine oj ?_);refine Qtz 18 rfl ?_));first|refine zO ?_)
    refine Qyz 17 rfl (y:=.one (.lit (.bool true))) (.ofEq (by simp[h13])) ?_;refine zM ?_;exact Qst rfl (.refl _) (by simp[bA,AC.ids]) hou ⟨rfl,rfl⟩
   ·repeat ((fail_if_success ((with_reducible refine oj ?_);refine Qtz 18 rfl ?_));first|refine zO ?_)
    refine Qyz 17 rfl (y:=.one (.lit (.bool false))) (.ofEq (by simp[h13])) ?_;refine zM ?_;exact cInv ⟨e.length - (c+1),c+1,_root_.id,by omega,⟨by omega,by rw[Q0h hx,List.any_append,hno];simp[h12,h13],rfl⟩,Qzw rfl zFS zsy zLO rfl rfl hou⟩
 ·have hce:c=e.length:=by simp at hb2;omega
  subst hce;have ht:Q59 e=false:=by unfold Q59;rw[←hno,Z2j]
  rw[ht];refine zA ?_;exact Qst rfl (.refl _) (by simp[bA,AC.ids]) hou ⟨rfl,rfl⟩
end Go.Proofs.YtlmokgooijbcdaaGreatDoor
namespace Go.CoreX
def Ok (t:Tr)(n:Nat):Prop:=okT t/\cntN t<=n
structure Sz (c:Cv)(B:Nat):Prop where
 P:∀s,Ok (c.P s).1 B
 F:∀s,Ok (c.F s).1 B
 T:∀k m s,Ok (c.T k m s).1 B
inductive SzL:List Cv->Nat->Prop
 |nil:SzL [] 0
 |cons {c:Cv}{r:List Cv}{B C:Nat}(h:Sz c B) (hr:SzL r C):SzL (c::r) (B+30+C)
theorem SzL.len{C:Nat}(h:SzL l C):30 * l.length<=C:=by
 induction h with
 |nil=>simp
 |cons h hr ih=>simp only[Z13];omega
def OkS (l:List Tr)(n m:Nat):Prop:=okTs l/\cntNs l<=n/\l.length=m
theorem SzL.mpP{l:List Cv}{C:Nat}(h:SzL l C):∀s,OkS (mpP l s).1 (C - 30 * l.length) l.length:=by
 induction h with
 |nil=>intro s;exact⟨trivial,Z30 _,rfl⟩
 |@cons c r B C h hr ih=>
  intro s;obtain⟨h1,h2⟩:=h.P s;obtain⟨h3,h4,h5⟩:=ih (c.P s).2;have:=hr.len;refine⟨⟨h1,h3⟩,?_,by simp[Go.CoreX.mpP,h5]⟩;simp only[Go.CoreX.mpP,cntNs,Z13];omega
theorem SzL.mpF{l:List Cv}{C:Nat}(h:SzL l C):∀s,OkS (mpF l s).1 (C - 30 * l.length) l.length:=by
 induction h with
 |nil=>intro s;exact⟨trivial,Z30 _,rfl⟩
 |@cons c r B C h hr ih=>
  intro s;obtain⟨h1,h2⟩:=h.F s;obtain⟨h3,h4,h5⟩:=ih (c.F s).2;have:=hr.len;refine⟨⟨h1,h3⟩,?_,by simp[Go.CoreX.mpF,h5]⟩;simp only[Go.CoreX.mpF,cntNs,Z13];omega
theorem SzL.mpK{l:List Cv}{C:Nat}(h:SzL l C)(k m:Int):∀s,OkS (mpK k m l s).1 (C - 30 * l.length) l.length:=by
 induction h with
 |nil=>intro s;exact⟨trivial,Z30 _,rfl⟩
 |@cons c r B C h hr ih=>
  intro s;obtain⟨h1,h2⟩:=h.T k m s;obtain⟨h3,h4,h5⟩:=ih (c.T k m s).2;have:=hr.len;refine⟨⟨h1,h3⟩,?_,by simp[Go.CoreX.mpK,h5]⟩;simp only[Go.CoreX.mpK,cntNs,Z13];omega
theorem SzL.split{C:Nat}(h:SzL l C):∀n,∃A B,SzL (l.take n) A/\SzL (l.drop n) B/\A+B=C:=by
 induction h with
 |nil=>intro n;exact⟨0,0,by simpa using SzL.nil,by simpa using SzL.nil,rfl⟩
 |@cons c r B C h hr ih=>
  intro n;cases n with
  |zero=>exact⟨0,B+30+C,.nil,.cons h hr,by omega⟩
  |succ n=>
   obtain⟨A,D,h1,h2,h3⟩:=ih n;exact⟨B+30+A,D,.cons h h1,h2,by omega⟩
theorem Q79(o n:Int):okT (.mk o n [] [] []):=by simp[okT,okTs]
theorem Qvc:Sz default 1:=⟨fun _=>⟨Q79 0 0,Z30 _⟩,fun _=>⟨Q79 0 0,Z30 _⟩,fun _ _ _=>⟨Q79 0 0,Z30 _⟩⟩
theorem SzL.at_{C:Nat}(h:SzL l C):∀(n:Nat),∃B,Sz (l.getD n default) B/\B<=C+1:=by
 induction h with
 |nil=>intro n;exact⟨1,by simpa using Qvc,by omega⟩
 |@cons c r B C h hr ih=>
  intro n;cases n with
  |zero=>exact⟨B,by simpa using h,by omega⟩
  |succ n=>
   obtain⟨D,h1,h2⟩:=ih n;exact⟨D,by simpa using h1,by omega⟩
theorem SzL.app{A B:Nat}(h:SzL l A)(k:SzL r B):SzL (l++r) (A+B):=by
 induction h with
 |nil=>simpa using k
 |@cons c t B' C h hr ih=>
  have:=SzL.cons h ih;rw[show B'+30+(C+B)=B'+30+C+B by omega]at this;exact this
theorem SzL.rev{A:Nat}(h:SzL l A):SzL l.reverse A:=by
 induction h with
 |nil=>exact .nil
 |@cons c t B C h hr ih=>
  rw[Z2c];have:=ih.app (.cons h .nil);rw[show C+(B+30+0)=B+30+C by omega]at this;exact this
theorem SzL.zip_{B:Nat}(hB:SzL r B):∀(l:List Alt),∃D,SzL ((l.zip r).map (·.2)) D/\D<=B:=by
 induction hB with
 |nil=>intro l;exact⟨0,by simpa using SzL.nil,by omega⟩
 |@cons c r B' C' g gr ih=>
  intro l;cases l with
  |nil=>exact⟨0,.nil,by omega⟩
  |cons a l=>
   obtain⟨D,h1,h2⟩:=ih l;exact⟨B'+30+D,.cons g h1,by omega⟩
theorem Q78{l r:List Tr}(h:okTs l)(k:okTs r):okTs (l++r):=Q34.2 fun t ht=>(Z1m.1 ht).elim (Q34.1 h t) (Q34.1 k t)
theorem Q4n(l r:List Tr):cntNs (l++r)=cntNs l+cntNs r:=by
 induction l with
 |nil=>simp[cntNs]
 |cons a l ih=>simp only[Z03,cntNs,ih];omega
theorem Qmy{c:Cv}{B:Nat}(h:Sz c B)(hb:binds.length+1<=1048576)(s:Int):Ok (funB pas binds c s).1 (B+3):=by
 unfold funB;split
 ·obtain⟨h1,h2⟩:=h.T (s+1) (s+2) (s+3);constructor
  ·simp[lamE,takeE,refE,okT,okTs,h1];omega
  ·simp[lamE,takeE,refE,cntN,cntNs];omega
 ·obtain⟨h1,h2⟩:=h.P s;constructor
  ·simp[lamE,okT,okTs,h1];omega
  ·simp[lamE,cntN,cntNs];omega
structure NdO (op:Int)(binds:List Int)(alts:List Alt)(q:Nat):Prop where
 b:binds.length+1<=1048576
 a:alts.length<=1048576
 ab:∀x∈alts,x.binds.length<=1048576
 s:binds.length+(alts.flatMap (·.binds)).length<=4194304
 k:q<=4096
 k13:op=13->2<=q
theorem Qhh{ks:List Cv}{C:Nat}(h:SzL ks C)(hn:NdO op binds alts ks.length)(s:Int):Ok (pureB pas op n binds alts ks s).1 (C+4):=by
 unfold pureB;have hl:=h.len;split
 ·obtain⟨B,h1,h2⟩:=h.at_ 0;obtain⟨h3,h4⟩:=Qmy (pas:=pas) (binds:=binds) h1 hn.b s;exact⟨h3,by omega⟩
 ·obtain⟨h1,h2,h3⟩:=h.mpP s;have:=hn.b;have:=hn.k;exact⟨⟨by omega,by omega,hn.a,⟨hn.ab,hn.s⟩,h1⟩,by simp only[cntN];omega⟩
theorem Ql3{D:Nat}(hfin:∀l k m s,okTs l->l.length<=4096->Ok (fin l k m s).1 (cntNs l+D)){C:Nat}(h:SzL l C):∀done k m s,okTs done->done.length+l.length<=4096->Ok (seqB fin l done k m s).1 (cntNs done+C+D):=by
 induction h with
 |nil=>intro done k m s h1 h2;simpa[seqB]using hfin done k m s h1 (by simpa using h2)
 |@cons c r B C h hr ih=>
  intro done k m s h1 h2;have hl:=hr.len;simp only[Z13]at h2;simp only[seqB];split
  ·obtain⟨q1,q2,q3⟩:=(SzL.cons h hr).mpP s;simp only[Z13]at q2 q3;obtain⟨q4,q5⟩:=hfin (done++(Go.CoreX.mpP (c::r) s).1) k m (Go.CoreX.mpP (c::r) s).2 (Q78 h1 q1) (by rw[Z12,q3];omega);exact⟨q4,by rw[Q4n]at q5;omega⟩
  ·have hdn:∀x:Int,okTs (done++[refE x]):=fun x=>Q78 h1 ⟨Q79 0 x,trivial⟩;have hdc:∀x:Int,cntNs (done++[refE x])=cntNs done+1:=fun x=>by rw[Q4n];rfl
   have hdl:∀x:Int,(done++[refE x]).length+r.length<=4096:=fun x=>by simp;omega
   split
   ·obtain⟨p1,p2⟩:=h.P (s+1);obtain⟨q1,q2⟩:=ih (done++[refE s]) k m (c.P (s+1)).2 (hdn s) (hdl s);rw[hdc]at q2;constructor
    ·simp[letE,okT,okTs,p1,q1]
    ·simp only[letE,cntN,cntNs];omega
   ·obtain⟨q1,q2⟩:=ih (done++[refE s]) k (s+1) (s+2) (hdn s) (hdl s);rw[hdc]at q2;unfold bindB;obtain⟨p1,p2⟩:=h.T (seqB fin r (done++[refE s]) k (s+1) (s+2)).2 m ((seqB fin r (done++[refE s]) k (s+1) (s+2)).2+1);constructor
    ·simp[letE,lamE,okT,okTs,p1,q1]
    ·simp only[letE,lamE,cntN,cntNs];omega
theorem Qn7{rest:List Cv}{C:Nat}(h:SzL rest C)(hn:NdO op binds alts q)(hr:rest.length<=4096)(l:List Tr)(k m s:Int)(hl:okTs l)(hll:l.length<=4096):Ok (finB up cnv op n binds alts rest l k m s).1 (cntNs l+((if op=7 then C else 0)+8)):=by
 unfold finB;split
 ·obtain⟨h1,h2,h3⟩:=h.mpK k m s;constructor
  ·refine⟨by simp,by rw[Z12,h3];omega,hn.a,⟨hn.ab,?_⟩,Q78 hl h1⟩;have:=hn.s;simp only[Z17];omega
  ·simp only[cntN,Q4n];omega
 ·split
  ·have hx:okT (l.getD 0 default)/\cntN (l.getD 0 default)<=cntNs l+1:=by
    cases l with
    |nil=>exact⟨Q79 0 0,by simp[cntN,cntNs,default,instInhabitedTr]⟩
    |cons x l=>exact⟨hl.1,by simp[cntNs];omega⟩
   constructor
   ·simp only[appE,refE,wordE,okT,okTs,Z13,Z17];exact⟨by omega,by omega,by omega,by simp,by simp,by simp,hx.1,by simp,by simp,trivial⟩
   ·simp only[appE,refE,wordE,cntN,cntNs];omega
  ·split
   ·constructor
    ·refine⟨by simp,by simp;omega,by simp,by simp,Q78 hl ?_⟩;simp[conE,refE,okT,okTs]
    ·simp only[appE,conE,refE,cntN,Q4n,cntNs];omega
   ·constructor
    ·have:=hn.b;simp only[appE,refE,okT,okTs,Z13,Z17];refine⟨by omega,by omega,by omega,by simp,?_⟩;simp[hl];omega
    ·simp only[appE,refE,cntN,cntNs];omega
theorem Qat{op v b h k2 m2:Int}:∀{l:List (Alt×Cv)}{C:Nat},SzL (l.map (·.2)) C->∀(body:Tr)(s:Int)(N:Nat),Ok body N->Ok (Q1h op v b h k2 m2 l body s).1 (N+C)
 |[],C,hb,body,s,N,ho=>by cases hb;simpa[Q1h]using ho
 |(a,c)::l,C,hb,body,s,N,ho=>by
  cases hb with
  |@cons _ _ B D h1 hr=>
  have h1:Sz c B:=h1;obtain⟨q1,q2⟩:=h1.T k2 m2 (s+2);simp only[Q1h];have h3:=Qat (op:=op) (v:=v) (b:=b) (h:=h) (k2:=k2) (m2:=m2) hr (.mk 7 0 [] [.mk 8 6 [] [refE op,wordE a.tag] [],letE (a.binds.getD 0 0) (refE v) (letE (a.binds.getD 1 0) (lamE (appE [refE b,refE s,conE 1 [refE h,refE (s+1)]]) [s,s+1]) (c.T k2 m2 (s+2)).1),body] [⟨1,[]⟩,⟨-1,[]⟩]) (c.T k2 m2 (s+2)).2 (N+B+30) (by
   constructor
   ·simp[appE,refE,wordE,letE,lamE,conE,okT,okTs,q1,ho.1]
   ·simp only[appE,refE,wordE,letE,lamE,conE,cntN,cntNs];have:=ho.2;omega)
  rw[show N+(B+30+D)=N+B+30+D by omega];exact h3
theorem Qgi(up h op v b k2 m2 s:Int):Ok (Q35 up h op v b k2 m2 s).1 14:=by
 unfold Q35;constructor
 ·simp[appE,refE,lamE,conE,okT,okTs]
 ·simp[appE,refE,lamE,conE,cntN,cntNs]
theorem Qe6{c0 c1:Cv}{B0 B1:Nat}(h0:Sz c0 B0)(h1:Sz c1 B1)(inner s:Int):Ok (Q39 a0 c0 c1 inner s).1 (B0+B1+6):=by
 unfold Q39;obtain⟨p1,p2⟩:=h1.T (s+4) (s+5) (s+6);obtain⟨q1,q2⟩:=h0.T s inner (c1.T (s+4) (s+5) (s+6)).2;constructor
 ·simp[letE,lamE,takeE,refE,okT,okTs,p1,q1]
 ·simp only[letE,lamE,takeE,refE,cntN,cntNs];omega
theorem Qjt{ks:List Cv}{C:Nat}(h:SzL ks C)(hl:2<=ks.length)(k m s:Int):Ok (Q4y up alts ks k m s).1 (C+40):=by
 obtain⟨A,B,hA,hB,hAB⟩:=h.split 2
 match ks,hl with
 |c0::c1::r,_=>
  simp only[Z2l,List.take_zero,Z09,Z0a]at hA hB;cases hA with
  |@cons _ _ B0 _ h0 hr=>
  cases hr with
  |@cons _ _ B1 _ h1 hr=>
  cases hr;obtain⟨D,hD,hDB⟩:=hB.zip_ (alts.drop 1);have hrev:SzL (((alts.drop 1).zip r).reverse.map (·.2)) D:=by rw[List.map_reverse];exact hD.rev
  unfold Q4y;simp only[Z09,Z0a,Z0n,Z0m];have hf:=Qgi up s (s+1) (s+2) (s+3) (s+5) (s+6) (s+7);have hc:=Qat (op:=s+1) (v:=s+2) (b:=s+3) (h:=s) (k2:=s+5) (m2:=s+6) hrev (Q35 up s (s+1) (s+2) (s+3) (s+5) (s+6) (s+7)).1 (Q35 up s (s+1) (s+2) (s+3) (s+5) (s+6) (s+7)).2 14 hf;generalize Q1h (s+1) (s+2) (s+3) s (s+5) (s+6) ((alts.drop 1).zip r).reverse _ _=cc at hc ⊢;have hr:=Qe6 (a0:=(alts.getD 0 ⟨0,[]⟩).binds.getD 0 0) h0 h1 cc.2 (cc.2+1);generalize Q39 ((alts.getD 0 ⟨0,[]⟩).binds.getD 0 0) c0 c1 cc.2 (cc.2+1)=rr at hr ⊢;obtain⟨p1,p2⟩:=hc;obtain⟨q1,q2⟩:=hr;constructor
  ·simp[letE,lamE,takeE,refE,conE,okT,okTs,p1,q1]
  ·simp only[letE,lamE,takeE,refE,conE,cntN,cntNs];omega
theorem Qod{M:Mdl}{ks:List Cv}{C:Nat}(h:SzL ks C)(hn:NdO op binds alts ks.length)(k m s:Int):Ok (tailB M i op n binds alts ks k m s).1 (C+40):=by
 have hl:=h.len;unfold tailB;split
 ·obtain⟨h1,h2⟩:=Qhh (pas:=M.pas i) (n:=n) h hn s;constructor
  ·simp[appE,refE,okT,okTs,h1]
  ·simp only[appE,refE,cntN,cntNs];omega
 ·split
  ·have key:∀(x y:Cv) (B0 B1:Nat),Sz x B0->Sz y B1->B0+B1<=C+2->Ok (if x.eff=false then (letE (binds.getD 0 0) (x.P s).1 (y.T k m (x.P s).2).1,(y.T k m (x.P s).2).2)else bindB x (binds.getD 0 0) s (y.T k s (s+1)).1 m (y.T k s (s+1)).2).1 (C+40):=by
    intro x y B0 B1 h0 h1 hB;split
    ·obtain⟨p1,p2⟩:=h0.P s;obtain⟨q1,q2⟩:=h1.T k m (x.P s).2;constructor
     ·simp[letE,okT,okTs,p1,q1]
     ·simp only[letE,cntN,cntNs];omega
    ·obtain⟨q1,q2⟩:=h1.T k s (s+1);unfold bindB;obtain⟨p1,p2⟩:=h0.T (y.T k s (s+1)).2 m ((y.T k s (s+1)).2+1);constructor
     ·simp[letE,lamE,okT,okTs,p1,q1]
     ·simp only[letE,lamE,cntN,cntNs];omega
   match ks,h with
   |[],h=>exact key default default 1 1 Qvc Qvc zoy
   |[c0],h=>
    cases h with
    |@cons _ _ B0 _ h0 hr=>exact key c0 default B0 1 h0 Qvc zoy
   |c0::c1::r,h=>
    cases h with
    |@cons _ _ B0 _ h0 hr=>
    cases hr with
    |@cons _ _ B1 _ h1 hr=>exact key c0 c1 B0 B1 h0 h1 zoy
  ·split
   ·obtain⟨A,B,hA,hB,hAB⟩:=h.split binds.length;obtain⟨g1,g2,g3⟩:=hA.mpF s;have hb:∃D,Sz (ks.getD binds.length default) D/\D<=B+1:=by obtain⟨D,d1,d2⟩:=hB.at_ 0;refine⟨D,?_,d2⟩;rw[Z0o,Z0s,Z2t,←Z0o]at d1;exact d1
    obtain⟨D,d1,d2⟩:=hb;obtain⟨e1,e2⟩:=d1.T k m (mpF (ks.take binds.length) s).2;have hbn:=hn.b;have hkn:=hn.k;have htl:(ks.take binds.length).length<=ks.length:=by rw[Z1c];omega
    constructor
    ·refine⟨by omega,by simp only[Z12,g3,Z13,Z17];omega,by simp,by simp;omega,Q78 g1 ⟨e1,trivial⟩⟩
    ·simp only[cntN,Q4n,cntNs];omega
   ·split
    ·rename_i h13;exact Qjt h (hn.k13 h13) k m s
    ·obtain⟨A,B,hA,hB,hAB⟩:=h.split (opnds op ks.length);have hkn:=hn.k;have htl:(ks.take (opnds op ks.length)).length<=4096:=by rw[Z1c];omega
     by_cases h7:op=7
     ·have ho:opnds op ks.length=1:=by unfold opnds;simp[h7]
      rw[ho]at hB;have hsq:=Ql3 (fin:=finB M.up (M.cnv i) op n binds alts (ks.drop 1)) (D:=(if op=7 then B else 0)+8) (fun l k m s hl hll=>Qn7 hB hn (by rw[Z14];omega) l k m s hl hll) hA [] k m s trivial (by simpa using htl);rw[if_pos h7]at hsq;refine⟨hsq.1,Z31 hsq.2 ?_⟩;simp only[cntNs];omega
     ·obtain⟨A1,B1,hA1,hB1,hAB1⟩:=h.split 1;have hsq:=Ql3 (fin:=finB M.up (M.cnv i) op n binds alts (ks.drop 1)) (D:=(if op=7 then B1 else 0)+8) (fun l k m s hl hll=>Qn7 hB1 hn (by rw[Z14];omega) l k m s hl hll) hA [] k m s trivial (by simpa using htl);rw[if_neg h7]at hsq;refine⟨hsq.1,Z31 hsq.2 ?_⟩;simp only[cntNs];omega
def NdL (l:Lab):Prop:=NdO l.op l.binds l.alts l.ops.length
mutual
theorem cvT_sz(M:Mdl):∀(t:Tr)(i:Nat),allT NdL t->Sz (cvT M i t) (80 * szT t - 30)
 |.mk op n binds kids alts,i,h=>by
  simp only[allT]at h;have hk:=Qnf M kids i h.2;have hn:NdO op binds alts (cvTs M i kids).length:=by have h1:NdO op binds alts (kids.map Tr.op).length:=h.1;rw[Z16]at h1;rw[Q1c];exact h1
  simp only[cvT,szT];have key:∀{x:Tr}{B:Nat},Ok x B->B<=80 * (szTs kids+1) - 30->Ok x (80 * (szTs kids+1) - 30):=fun h hb=>⟨h.1,Z31 h.2 hb⟩;refine⟨fun s=>key (Qhh (pas:=M.pas (i+szTs kids)) (n:=n) hk hn s) zoy,fun s=>?_,fun k m s=>key (Qod (M:=M) (i:=i+szTs kids) hk hn k m s) zoy⟩;obtain⟨B,h1,h2⟩:=hk.at_ 0;exact key (Qmy (pas:=M.pas (i+szTs kids)) (binds:=binds) h1 hn.b s) zoy
theorem Qnf(M:Mdl):∀(l:List Tr)(i:Nat),allTs NdL l->SzL (cvTs M i l) (80 * szTs l)
 |[],_,_=>.nil
 |t::ts,i,h=>by simp only[allTs]at h;have h1:=cvT_sz M t i h.1;have h2:=Qnf M ts (i+szT t) h.2;have h3:=Q9q t;have:=SzL.cons h1 h2;simp only[cvTs,szTs];rw[show 80 * (szT t+szTs ts)=80 * szT t - 30+30+80 * szTs ts by omega];exact this
end
theorem Q9v(M:Mdl)(t:Tr)(i:Nat)(h:allT NdL t)(s:Int):Ok (Q4s M (cvT M i t) s).1 (80 * szT t):=by
 unfold Q4s;obtain⟨h1,h2⟩:=(cvT_sz M t i h).T (s+6) (s+7) (s+10);have h3:=Q9q t;constructor
 ·simp[appE,refE,letE,lamE,conE,okT,okTs,h1]
 ·simp only[appE,refE,letE,lamE,conE,cntN,cntNs];omega
mutual
def mxT:Tr->Int
 |.mk o n b k a=>mxTs ((Q0s o b a).foldl max (-1)) k
def mxTs (m:Int):List Tr->Int
 |[]=>m
 |t::l=>mxTs (max m (mxT t)) l
end
theorem Qg2:∀(l:List Tr)(m:Int),mxTs m l=(l.map mxT).foldl max m
 |[],_=>rfl
 |t::l,m=>by simp only[mxTs,Z1g,Z0l];exact Qg2 l _
theorem maxX_if(a b:Int):max a b=if b > a then b else a:=by rw[Int.max_def];split <;> split <;> omega
def mxLX (c:Int)(l:Lab):Prop:=∀n∈Q0s l.op l.binds l.alts,n<=c
theorem Qf0(c:Int):∀(l:List Int)(m:Int),m<=c->(∀n∈l,n<=c)->l.foldl max m<=c
 |[],m,h,_=>h
 |x::l,m,h,hl=>by simp only[Z0l];have:=hl x zsy;exact Qf0 c l _ zoy fun n hn=>hl n (by simp[hn])
mutual
theorem mxT_le(c:Int)(hc:-1<=c):∀t:Tr,Go.CoreX.allT (mxLX c) t->mxT t<=c
 |.mk o n b k a,h=>by simp only[mxT];exact Qlx c hc k _ (Qf0 c _ _ hc h.1) h.2
theorem Qlx(c:Int)(hc:-1<=c):∀(l:List Tr)(m:Int),m<=c->Go.CoreX.allTs (mxLX c) l->mxTs m l<=c
 |[],m,h,_=>h
 |t::l,m,h,hl=>by simp only[mxTs];have:=mxT_le c hc t hl.1;exact Qlx c hc l _ zoy hl.2
end
theorem Qff{x:Ex}(h:Q0i false e x=0):∀b∈Q0r x,b<=1048575:=by
 have hr:ranges x=0:=by
  unfold Q0i at h;split at h
  ·cases h
  ·unfold Q1p at h;split at h
   ·cases h
   ·split at h
    ·rename_i hr;exact absurd h hr
    ·rename_i hr;simpa using hr
 have hx:x.binds.all Q33=true/\x.alts.all (Q3q x.op)=true:=by
  unfold ranges at hr;split at hr
  ·cases hr
  split at hr
  ·cases hr
  rename_i h1;split at hr
  ·cases hr
  rename_i h2;exact⟨by simpa using h1,by simpa using h2⟩
 have ok:∀n,Q33 n=true->n<=1048575:=fun n hn=>by simp[Q33,between]at hn;omega
 intro b hb;unfold Q0r Q0s at hb;rcases Z1m.1 hb with hb|hb
 ·split at hb
  ·exact ok b (Qzy.1 hx.1 b hb)
  ·cases hb
 ·obtain⟨a,ha,hba⟩:=Z1u.1 hb;have:=Qzy.1 hx.2 a ha;unfold Q3q at this;exact ok b (Qzy.1 (Bool.and_eq_true_iff.1 this).2 b hba)
theorem Qnk(h:check e=0):allT (mxLX 1048575) (grow e):=by obtain⟨_,p2,_,_⟩:=Q43 h;exact Qb1 (Q1t h) fun x hx=>Qff (p2 x hx)
end Go.CoreX
namespace Go.Proofs.YtlmokgooijbcdaaGreatDoor
variable {Γ:List (Nat×List AC)}
theorem Qbx{l:List Int}{m:Int}(h:l[i]?=some n):(l.take (i+1)).foldl max m=if n > (l.take i).foldl max m then n else (l.take i).foldl max m:=by rw[Q0h h,Z0k];exact maxX_if _ _
def MxOk (Γ:List (Nat×List AC))(t:Tr):Prop:=APure Tryz.prog Γ 36 [.one (.box (cTr t))] (.one (int (mxT t)))
theorem Qj2(hΓ:GI Γ):∀t:Tr,okT t->MxOk Γ t
 |.mk o n b ks a,hok=>by
  have ih:∀t∈ks,MxOk Γ t:=fun t ht=>Qj2 hΓ t (Q34.1 hok.2.2.2.2 t ht);have hk:ks.length<=1048576:=hok.2.1;have hbl:Q8k (.mk o n b ks a)<=4194304:=by have h1:=hok.1;have h2:=hok.2.2.2.1.2;unfold Q8k;simp only[Tr.binds,Tr.alts];omega
  have hB:=Qce hΓ (.mk o n b ks a) hbl hok.2.2.1;have hbn:(Q0s o b a).length<=4194304:=by
   unfold Q8k at hbl;simp only[Tr.binds,Tr.alts]at hbl;unfold Q0s;rw[Z12];split
   ·exact hbl
   ·simp only[Z17];omega
  have hm:mxT (.mk o n b ks a)=(ks.map mxT).foldl max ((Q0s o b a).foldl max (-1)):=by simp only[mxT,Qg2]
  intro ou;rw[hm];clear hm;obtain⟨bn,hbe⟩:∃bn,bn=Q0s o b a:=⟨_,rfl⟩;rw[show Q0s (Tr.mk o n b ks a).op (Tr.mk o n b ks a).binds (Tr.mk o n b ks a).alts=bn from hbe.symm]at hB;rw[←hbe]at hbn ⊢;clear hbe hbl;refine zwk 34 Tryz.func36 fun hou=>?_;refine zA ?_;refine zca hΓ hB hou ?_;refine zA ?_;refine Qre hΓ (α:=Nat) (fun i=>[(11,.one (int i)),(10,.one (int (bn.map cI).length)),(9,.one (.sl 1 (bn.map cI))),(3,.one (int ((bn.take i).foldl max (-1)))),(0,.one (.box (cTr (.mk o n b ks a))))])
   (fun i=>⟨0,[],ou⟩) (fun m i=>i<=bn.length/\m=bn.length - i) (a0:=0) (ρ:=id) ⟨by omega,rfl⟩ (Qzw rfl zFS zsy zLO rfl rfl hou) fun m i hi=>?_
  obtain⟨hil,rfl⟩:=hi;refine zA ?_;refine Qyl rfl (fun hb3=>?_) (fun hb3=>?_)
  ·have Qvg:i < bn.length:=by simpa using hb3
   obtain⟨q,hn⟩:=Q00 Qvg;have hsm:=Qbx (m:=-1) hn;refine zA ?_;refine zS (zIA rfl rfl rfl zoy (Q0c hn)) ?_;refine zM ?_;refine cInv ⟨bn.length - (i+1),i+1,id,by omega,⟨by omega,rfl⟩,?_⟩;simp only[hsm];exact Qzw rfl zFS zsy zLO rfl rfl hou
  have hlt:i=bn.length:=by simp at hb3;omega
  subst hlt;rw[Z2j];generalize bn.foldl max (-1)=m0;refine zA ?_;refine Qre hΓ (α:=Nat) (fun i=>[(24,.one (int i)),(23,.one (int (Q0y ks).length)),(22,.one (.sl 1 (Q0y ks))),(3,.one (int (((ks.map mxT).take i).foldl max m0)))])
   (fun i=>⟨0,[],ou⟩) (fun m i=>i<=ks.length/\m=ks.length - i) (a0:=0) (ρ:=id) ⟨by omega,rfl⟩ (Qzw rfl zFS zsy zLO rfl rfl hou) fun m i hi=>?_
  obtain⟨hil,rfl⟩:=hi;refine zA ?_;refine Qyl rfl (fun hb3=>?_) (fun hb3=>?_)
  ·have Qvg:i < ks.length:=by simpa using hb3
   obtain⟨t,ht⟩:=Q00 Qvg;have hsm:=Qbx (l:=ks.map mxT) (n:=mxT t) (m:=m0) (i:=i) (by simp[ht]);refine zA ?_;refine zS (zIA rfl rfl rfl zoy (Q1z ht)) ?_;refine zA ?_;refine zca hΓ (ih t (Z1y ht)) hou ?_;refine zM ?_;refine cInv ⟨ks.length - (i+1),i+1,id,by omega,⟨by omega,rfl⟩,?_⟩;simp only[hsm];exact Qzw rfl zFS zsy zLO rfl rfl hou
  have hlt:i=ks.length:=by simp[Q0a]at hb3;omega
  subst hlt;rw[show (ks.map mxT).take ks.length=ks.map mxT from Z2k zsy];refine zA ?_;exact Qz0 rfl (Z46 rfl) zsy hou rfl
end Go.Proofs.YtlmokgooijbcdaaGreatDoor
namespace Go.CoreX
mutual
theorem Q9r:∀t:Tr,szT t=cntN t
 |.mk o n b k a=>by simp only[szT,cntN,Qh5 k]
theorem Qh5:∀l:List Tr,szTs l=cntNs l
 |[]=>rfl
 |t::l=>by simp only[szTs,cntNs,Q9r t,Qh5 l]
end
end Go.CoreX
namespace Go.Proofs.YtlmokgooijbcdaaGreatDoor
theorem PlanO.mono{l:List FCl}{y:PLay}{ou':Outer}(h:PlanO e l y rt imp eff ou)(hs:∀k o,ou k=some o->ou' k=some o):PlanO e l y rt imp eff ou':=by obtain⟨ck,m,hm,him⟩:=h.c;obtain⟨cl,hu,hcl⟩:=h.l;exact⟨hs _ _ h.p,⟨ck,m,hs _ _ hm,him⟩,⟨cl,hu,hs _ _ hcl⟩,hs _ _ h.i,hs _ _ h.f,h.rl,h.il,h.fl,h.el,h.nd⟩
mutual
theorem Q61:∀(t:LTr)(k:Nat),k∈postL t->k∈keys (objs t)
 |.mk i o n nb b ks a,k,h=>by
  simp only[postL,Z1m,Z23]at h;simp only[objs,keys,Z1g,Z1e,Z1p,Z1m,Z03];rcases h with h|h
  ·exact .inr (.inr (Q4t ks k h))
  ·exact .inl h
theorem Q4t:∀(l:List LTr)(k:Nat),k∈Q0v l->k∈keys (objss l)
 |[],k,h=>by simp[Q0v]at h
 |t::l,k,h=>by
  simp only[Q0v,Z1m]at h;simp only[objss,keys,Z1e,Z1m];rcases h with h|h
  ·exact .inl (Q61 t k h)
  ·exact .inr (Q4t l k h)
end
mutual
theorem Q9w:∀(t:LTr),(keys (objs t)).Nodup->(postL t).Nodup
 |.mk i o n nb b ks a,h=>by simp only[objs,keys,Z1g,Z1e,Z03,Z27]at h;simp only[postL];rw[Z26];refine⟨Q8t ks (Z26.1 h.2).2.1,by simp,fun x hx y hy e=>?_⟩;simp at hy;subst hy;subst e;exact h.1 (Z1o _ (Q4t ks x hx))
theorem Q8t:∀(l:List LTr),(keys (objss l)).Nodup->(Q0v l).Nodup
 |[],_=>by simp[Q0v]
 |t::l,h=>by simp only[objss,keys,Z1e]at h;obtain⟨h1,h2,h3⟩:=Z26.1 h;simp only[Q0v];rw[Z26];exact⟨Q9w t h1,Q8t l h2,fun x hx y hy=>h3 x (Q61 t x hx) y (Q4t l y hy)⟩
end
theorem Qnl(h:check e=0):allT ShL (grow e):=Qb1 (Q1t h) fun x hx=>by
 have hs:=Qcn h x hx;obtain⟨_,h2,_,_⟩:=Q43 h;have h3:=h2 x hx;refine⟨⟨⟨x.kids,by simp[labE],hs⟩⟩,fun h5 i hi=>?_⟩;simp only[labE]at h5 hi ⊢;have h4:Q1p e x=0:=by
  unfold Q0i at h3;split at h3
  ·cases h3
  ·exact h3
 unfold Q1p at h4;rw[if_neg (by rw[hs];simp)]at h4;split at h4
 ·exact absurd h4 (by assumption)
 split at h4
 ·cases h4
 ·rename_i _ hb;have hb:(List.range x.binds.length).any (Q1l e x)=false:=by simpa using hb
  have hb2:=Qzz.1 hb i (Z21.2 hi);simp only[Q1l,Qzk,not_or]at hb2;have h6:=hb2.1;have hkl:x.kids.length=x.binds.length+1:=by have:ShN 5 x.n x.binds x.kids.length x.alts:=⟨⟨x.kids,rfl,by rw[←h5];exact hs⟩⟩;exact this.recs.1
  have hil:i < x.kids.length:=by omega
  have hkk:=Qad (Q1t h).k hx _ (Z11 hil);have h7:x.kids.getD i 0=x.kids[i]:=by rw[Z0o,Z0t hil];rfl
  rw[h7]at h6;rw[Z0w,Z0t hil,Z3m,Qg0 e _ zoy];simpa[h5]using h6
theorem Qal:∀(l:List Int)(m:Int),m<=l.foldl max m
 |[],m=>Qzt _
 |x::l,m=>by have:=Qal l (max m x);simp only[Z0l];omega
theorem mxT_geC:∀t:Tr,-1<=mxT t
 |.mk o n b k a=>by have h1:=Qal (Q0s o b a) (-1);have h2:=Qal (k.map mxT) ((Q0s o b a).foldl max (-1));simp only[mxT,Qg2];omega
theorem Qbo:∀(l:List Tr),l.length<=cntNs l
 |[]=>by simp[cntNs]
 |t::l=>by
  have h1:=Qbo l;have h2:1<=cntN t:=by cases t;simp[cntN]
  simp only[Z13,cntNs];omega
structure NdP (l:Lab):Prop where
 b:l.binds.length+1<=1048576
 a:l.alts.length<=1048576
 ab:∀x∈l.alts,x.binds.length<=1048576
 s:l.binds.length+(l.alts.flatMap (·.binds)).length<=4194304
 k13:l.op=13->2<=l.ops.length
mutual
theorem Qiy:∀(t:Tr),allT NdP t->cntN t<=4096->allT NdL t
 |.mk o n b k a,h,hc=>by simp only[allT]at h ⊢;simp only[cntN]at hc;have:=Qbo k;exact⟨⟨h.1.b,h.1.a,h.1.ab,h.1.s,by simp only[Z16];omega,h.1.k13⟩,Qfh k h.2 zoy⟩
theorem Qfh:∀(l:List Tr),allTs NdP l->cntNs l<=4096->allTs NdL l
 |[],_,_=>trivial
 |t::l,h,hc=>by simp only[allTs]at h ⊢;simp only[cntNs]at hc;exact⟨Qiy t h.1 zoy,Qfh l h.2 zoy⟩
end
theorem Q7r(h:check e=0):cntN (grow e)<=4096/\(listT [] (grow e)).length=cntN (grow e):=by have t1:=Q1t h;have h1:=Q42 (grow e) [];have h2:=Q9e t1;have h3:=(Q2j e).1 (Q43 h).1;simp only[Z17]at h1;omega
theorem Qfc(he:okB e)(hb:∀x∈e,x.binds.length+1<=1048576)(h:check e=0):allT NdL (grow e):=by refine Qiy _ (Qb1 (Q1t h) fun x hx=>?_) (Q7r h).1;have hs:=Qcn h x hx;have hX:=he.eo.x x hx;exact⟨hb x hx,hX.a,hX.ab,he.b x hx,fun h13=>by have:ShN 13 x.n x.binds x.kids.length x.alts:=⟨⟨x.kids,rfl,by rw[←show x.op=13 from h13];exact hs⟩⟩;have:=this.handle;simp only[labE,Z16];omega⟩
end Go.Proofs.YtlmokgooijbcdaaGreatDoor
