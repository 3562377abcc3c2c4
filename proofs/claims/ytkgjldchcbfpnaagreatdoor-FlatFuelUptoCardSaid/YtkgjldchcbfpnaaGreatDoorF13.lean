/- The evaluator's primitives and plain nodes, whatever they are given, walked. -/
import Derived.Test.YtkgjldchcbfpnaaGreatDoorF12
set_option maxRecDepth 10000
set_option linter.unusedVariables false
set_option linter.unusedSimpArgs false
namespace Go.Proofs.YtkgjldchcbfpnaaGreatDoor
open Go Go.Abs Go.CoreX
variable {Γ:List (Nat×List AC)}
section
variable {fu:Int}{fc:FcT}{ou:Outer}{H:Hm}{nm:Nm2}{m:Ms}{tc ec vc kc:AC}
theorem VsR.setL:∀{l:List Vl}{cs:List (List AC)}{i:Nat}{v:Vl}{c:AC},VsR H nm l cs->VR H nm v c->VsR H nm (l.set i v) (cs.set i [c])
 |_,_,_,_,_,.nil,_=>.nil
 |_,_,0,v,c,.cons _ _ vs cs hv h,hx=>.cons v c vs cs hx h
 |_,_,i+1,v,c,.cons w d vs cs hv h,hx=>.cons w d _ _ hv (VsR.setL h hx)
theorem VsR.take:∀{l:List Vl}{cs:List (List AC)}(n:Nat),VsR H nm l cs->VsR H nm (l.take n) (cs.take n)
 |_,_,0,h=>by simp only[List.take_zero];exact .nil
 |_,_,n+1,.nil=>.nil
 |_,_,n+1,.cons v c vs cs hv h=>.cons v c _ _ hv (VsR.take n h)
theorem VsR.app:∀{l l':List Vl}{cs cs':List (List AC)},VsR H nm l cs->VsR H nm l' cs'->VsR H nm (l++l') (cs++cs')
 |_,_,_,_,.nil,h'=>h'
 |_,_,_,_,.cons v c vs cs hv h,h'=>.cons v c _ _ hv (VsR.app h h')
theorem Qhl{ls:List Int}{fs:List Vl}{cs:List (List AC)}{n:Int}{v:Vl}{c:AC}(hf:VsR H nm fs cs)(hv:VR H nm v c):VR H nm (withR ls fs n v) (iB tRow [.sl 1 ((rwL ls n).map cI),.sl 1 (rwC ls n cs c)]):=by
 unfold withR rwL rwC
 split
 ·exact .row _ _ _ (hf.setL hv)
 ·have:putAt ls (bsAt ls n) n=ls.take (bsAt ls n)++n::ls.drop (bsAt ls n):=by simp[putAt]
  rw[this]
  refine .row _ _ _ ?_
  have:putAt cs (bsAt ls n) [c]=cs.take (bsAt ls n)++[c]::cs.drop (bsAt ls n):=by simp[putAt]
  rw[this]
  exact (hf.take _).app (.cons v c _ _ hv (hf.drop _))
theorem Qfk(a b:Vl):primM fu m 8 [a,b]=(match wordV a with|.error e=>.error e|.ok x=>Q2t fu m x b):=by
 simp only[primM,List.getD_cons_zero,bind,Except.bind,if_neg (show ¬(8:Int)=0 by decide),if_neg (show ¬(8:Int)=1 by decide),if_neg (show ¬(8:Int)=2 by decide),if_neg (show ¬(8:Int)=3 by decide),if_neg (show ¬(8:Int)=4 by decide),if_neg (show ¬(8:Int)=5 by decide),if_neg (show ¬(8:Int)=6 by decide),if_neg (show ¬(8:Int)=7 by decide),if_true]
 cases wordV a <;> rfl
theorem Qi3(hΓ:∀g cs,(g,cs)∈Γ->idsL isO cs)(h0:M0 fu fc ou H nm m tc ec vc kc)(hfc:fc.ids isO)(hst:0<=m.steps/\m.steps<=1000000)(hfu:0<=fu/\fu<=1000000){a b:Vl}{ca cb:AC}(ha:VR H nm a ca)(hb:VR H nm b cb):
  AFnP Tryz.prog Γ 136 [.one (.ptr (.o 0) 0),.one (int 8),.one (.sl 1 [[ca],[cb]])] ou (PlE fu fc H nm (primM fu m 8 [a,b]) tc ec vc kc) (PlP m (primM fu m 8 [a,b])):=by
 have hai:=ha.ids
 have hbi:=hb.ids
 have hpr:=h0.pr
 rw[Qfk]
 refine AFnP.walk 152 tabOk hΓ Tryz.func136 rfl (by kernel_rfl) rfl rfl fun hou=>?_
 refine zA ?_
 rcases ha.isWord with ⟨x,rfl,rfl⟩|⟨hvn,hno⟩
 ·refine ACode.drawC2 tabOk 9 [8] [(2,.one (.box [iW x])),(4,.one (int x)),(6,.one (.box [cb]))] (fun vs σ=>match vs with
   |[]=>σ=⟨0,[],ou⟩
   |[r]=>∃ou',PlE fu fc H nm (Q2t fu m x b) tc ec vc kc r ou'/\OuOk ou'/\r.ids isO/\σ=⟨0,[],ou'⟩
   |_=>False) follows (by kernel_rfl) rfl rfl (by decide) (by kernel_rfl) (by kernel_rfl) rfl rfl ?_ ?_ (by decide) ?_ ?_
  ·intro vs σ h
   match vs with
   |[]=>subst h;rfl
   |[_]=>obtain⟨_,_,_,_,rfl⟩:=h;rfl
   |_::_::_=>exact h.elim
  ·intro vs σ h
   have ho2:OuOk σ.ou:=by
    match vs with
    |[]=>subst h;exact hou
    |[_]=>obtain⟨_,_,h2,_,rfl⟩:=h;exact h2
    |_::_::_=>exact h.elim
   exact⟨⟨_,rfl,zIA rfl rfl rfl (by decide) rfl⟩,⟨_,rfl,AStep.callPure hΓ rfl rfl rfl (by simp[idsF,iW]) ho2 (Q0d x)⟩,⟨_,rfl,zIA rfl rfl rfl (by decide) rfl⟩,trivial⟩
  ·intro vs σ h i o hi ho
   match vs with
   |[]=>
    subst h;cases hi;cases ho
    exact⟨rfl,.inr ⟨rfl,Q0u.callP hΓ (Qe0 hΓ h0 hfc hst hfu x hb) rfl rfl rfl rfl ⟨trivial,trivial,hbi,trivial⟩ hou (fun r ou' hq hr ho=>⟨ou',hq,ho,hr,rfl⟩) fun ps ou' h ho=>⟨ho,h⟩⟩⟩
   |_::_=>cases hi
  ·intro vs σ hl h
   match vs with
   |[r]=>
    obtain⟨ou',hq,how,hri,rfl⟩:=h
    obtain⟨m1,v1,hx,kt,H1,nm1,c,rfl,hq⟩:=hq
    refine zA ?_
    exact AFn.fin' rfl (WkF.refl _) hri how ⟨m1,v1,hx,kt,H1,nm1,c,rfl,hq⟩
   |[]=>cases hl
   |_::_::_=>exact h.elim
 ·refine ACode.drawPan tabOk 9 4 [8] [(2,.one (.box [ca])),(6,.one (.box [cb]))] follows (by kernel_rfl) rfl rfl (by kernel_rfl) (by kernel_rfl) rfl ?_ rfl rfl rfl (by kernel_rfl) rfl ?_
  ·exact⟨⟨_,rfl,zIA rfl rfl rfl (by decide) rfl⟩,⟨_,rfl,zIA rfl rfl rfl (by decide) rfl⟩,trivial⟩
  ·exact Q10 hΓ hno hai rfl rfl rfl hou fun ps hps=>⟨hou,5,by rw[Q46 hvn],hps,hpr⟩
theorem Qfl{n:Int}(hn:n=9∨n=10∨n=11)(l:List Vl):primM fu m n l=Q2d m n l:=by
 unfold primM
 rw[if_neg (by omega),if_neg (by omega),if_neg (by omega),if_neg (by omega),if_neg (by omega),if_neg (by omega),if_neg (by omega),if_neg (by omega),if_neg (by omega)]
theorem Qi5(hΓ:∀g cs,(g,cs)∈Γ->idsL isO cs)(h0:M0 fu fc ou H nm m tc ec vc kc){n:Int}(hn:n=9∨n=10∨n=11){l:List Vl}{dc:List (List AC)}(hd:VsR H nm l dc)(hl:(l.length:Int)=Q2j.getD n.toNat 0)(hwd:∀v∈l,wdV v):
  AFnP Tryz.prog Γ 136 [.one (.ptr (.o 0) 0),.one (int n),.one (.sl 1 dc)] ou (PlE fu fc H nm (primM fu m n l) tc ec vc kc) (PlP m (primM fu m n l)):=by
 have hdi:=hd.ids
 rw[Qfl hn]
 have hA:=Qbj hΓ h0 hn hd hl hwd
 refine AFnP.walk 152 tabOk hΓ Tryz.func136 rfl (by kernel_rfl) rfl rfl fun hou=>?_
 have key:∀r ou',PlE fu fc H nm (Q2d m n l) tc ec vc kc r ou'->r.ids isO->OuOk ou'->∃c,r=.one c:=fun r ou' ⟨m1,v1,_,kt,H1,nm1,c,h,_⟩ _ _=>⟨c,h⟩
 rcases hn with rfl|rfl|rfl
 ·refine zA ?_
  refine AOps.callP hΓ hA rfl rfl rfl rfl rfl rfl hou ⟨trivial,hdi,trivial⟩ (fun ps ou' h ho=>⟨ho,h⟩) fun r ou' hq hri how=>?_
  obtain⟨c,rfl⟩:=key r ou' hq hri how
  refine zA ?_
  exact AFn.fin' rfl (WkF.refl _) hri how hq
 ·refine zA ?_
  refine AOps.callP hΓ hA rfl rfl rfl rfl rfl rfl hou ⟨trivial,hdi,trivial⟩ (fun ps ou' h ho=>⟨ho,h⟩) fun r ou' hq hri how=>?_
  obtain⟨c,rfl⟩:=key r ou' hq hri how
  refine zA ?_
  exact AFn.fin' rfl (WkF.refl _) hri how hq
 ·refine zA ?_
  refine AOps.callP hΓ hA rfl rfl rfl rfl rfl rfl hou ⟨trivial,hdi,trivial⟩ (fun ps ou' h ho=>⟨ho,h⟩) fun r ou' hq hri how=>?_
  obtain⟨c,rfl⟩:=key r ou' hq hri how
  refine zA ?_
  exact AFn.fin' rfl (WkF.refl _) hri how hq
theorem Qfi(hΓ:∀g cs,(g,cs)∈Γ->idsL isO cs)(h0:M0 fu fc ou H nm m tc ec vc kc)(hfc:fc.ids isO)(hst:0<=m.steps/\m.steps<=1000000)(hfu:0<=fu/\fu<=1000000)(hol:m.out.length<=1000){n:Int}(hn:0<=n/\n<=11){l:List Vl}{dc:List (List AC)}(hd:VsR H nm l dc)(hl:(l.length:Int)=Q2j.getD n.toNat 0)(hwd:∀v∈l,wdV v):
  AFnP Tryz.prog Γ 136 [.one (.ptr (.o 0) 0),.one (int n),.one (.sl 1 dc)] ou (PlE fu fc H nm (primM fu m n l) tc ec vc kc) (PlP m (primM fu m n l)):=by
 have h3:n=0∨n=1∨n=2∨n=3∨n=4∨n=5∨n=6∨n=7∨n=8∨n=9∨n=10∨n=11:=by omega
 have two:(l.length:Int)=2->∃a b ca cb,l=[a,b]/\dc=[[ca],[cb]]/\VR H nm a ca/\VR H nm b cb:=fun h=>by
  obtain⟨a,b,rfl⟩:=list2 (l:=l) (by omega)
  obtain⟨ca,d1,rfl,ha,hd1⟩:=hd.consE
  obtain⟨cb,d2,rfl,hb,hd2⟩:=hd1.consE
  have hz:=hd2.nilE
  subst hz
  exact⟨a,b,ca,cb,rfl,rfl,ha,hb⟩
 by_cases h6:n<=6
 ·have h7:n=0∨n=1∨n=2∨n=3∨n=4∨n=5∨n=6:=by omega
  obtain⟨a,b,ca,cb,rfl,rfl,ha,hb⟩:=two (by rw[hl];rcases h7 with rfl|rfl|rfl|rfl|rfl|rfl|rfl <;> rfl)
  exact Qi4 hΓ h0 h7 ha hb (hwd a (by simp)) (hwd b (by simp))
 by_cases h7:n=7
 ·subst h7
  obtain⟨a,rfl⟩:=list1 (l:=l) (by have:(l.length:Int)=1:=hl;omega)
  obtain⟨ca,d1,rfl,ha,hd1⟩:=hd.consE
  have hz:=hd1.nilE
  subst hz
  exact prim_pr hΓ h0 hfc ha hol
 by_cases h8:n=8
 ·subst h8
  obtain⟨a,b,ca,cb,rfl,rfl,ha,hb⟩:=two hl
  exact Qi3 hΓ h0 hfc hst hfu ha hb
 ·exact Qi5 hΓ h0 (by omega) hd hl hwd
def rowV (v:Vl):Prop:=∀ls fs,v=.row ls fs->ls.length=fs.length/\ls.length<=1048576
theorem Qfo(hΓ:∀g cs,(g,cs)∈Γ->idsL isO cs)(h0:M0 fu fc ou H nm m tc ec vc kc){t:Tr}{d:List Vl}{dc:List (List AC)}(hd:VsR H nm d dc)(h9:t.op=9):
  AFn Tryz.prog Γ 113 [.one (.ptr (.o 0) 0),.one (.box (cTr t)),.one (.sl 1 dc)] ou (PlQ fu fc H nm m (.row t.binds d) tc ec vc kc):=by
 have hdi:=hd.ids
 refine AFn.walk 85 tabOk Tryz.func113 rfl (by kernel_rfl) rfl rfl fun hou=>?_
 cases t with
 |mk to tn tb tk ta=>
 obtain rfl:to=9:=h9
 repeat ((fail_if_success ((with_reducible refine oj ?_);refine AOps.atDst 42 rfl ?_));first|refine zO ?_)
 refine AOps.freeze1 (.l 0) 41 rfl rfl ?_
 refine zS (AStep.mkIfc Q9h rfl rfl) ?_
 refine zA ?_
 exact AFn.fin' rfl (WkF.ofEq rfl) ⟨⟨by simp,hdi,trivial⟩,trivial⟩ hou ⟨fc.kt,H,nm,iB tRow [.sl 1 (tb.map cI),.sl 1 dc],rfl,.refl _ _,.row tb d dc hd,h0⟩
theorem Qdr{t:Tr}(h:t.op=10)(v:Vl):Q0o fu m t [v]=(match rowsV v with|.error e=>.error e|.ok (ls,fs)=>if bsIs ls t.n then .ok (m,fs.getD (bsAt ls t.n) .nil)else .error 3):=by
 unfold Q0o
 rw[if_neg (by omega),if_neg (by omega),if_neg (by omega),if_pos h]
 cases v <;> rfl
theorem Qc7{v:Vl}(h:∀ls fs,v≠.row ls fs):rowsV v=.error 5:=by cases v <;> first|rfl|exact absurd rfl (h _ _)
theorem Qfr(hΓ:∀g cs,(g,cs)∈Γ->idsL isO cs)(h0:M0 fu fc ou H nm m tc ec vc kc){t:Tr}{v:Vl}{c:AC}(hv:VR H nm v c)(h10:t.op=10)(hr:rowV v):
  AFnP Tryz.prog Γ 113 [.one (.ptr (.o 0) 0),.one (.box (cTr t)),.one (.sl 1 [[c]])] ou (PlE fu fc H nm (Q0o fu m t [v]) tc ec vc kc) (PlP m (Q0o fu m t [v])):=by
 have hvi:=hv.ids
 have hpr:=h0.pr
 rw[Qdr h10]
 refine AFnP.walk 85 tabOk hΓ Tryz.func113 rfl (by kernel_rfl) rfl rfl fun hou=>?_
 cases t with
 |mk to tn tb tk ta=>
 obtain rfl:to=10:=h10
 refine zA ?_
 refine zS (zIA rfl rfl rfl (by decide) rfl) ?_
 refine zA ?_
 rcases hv.isRow with ⟨ls,fs,cs,rfl,rfl,hfs⟩|⟨hvn,hno⟩
 ·obtain⟨hlf,hl20⟩:=hr ls fs rfl
  have hci:=hfs.ids
  have hcl:=hfs.len
  refine AOps.callC hΓ (Qc6 (.sl 1 (ls.map cI)) (.sl 1 cs) (by simp) hci) rfl rfl rfl rfl rfl rfl rfl hou ⟨⟨⟨by simp,hci,trivial⟩,trivial⟩,trivial⟩ ?_
  refine zA ?_
  refine ACode.drawX tabOk 13 [(8,.tup [.one (int (bsAt ls tn:Nat)),.one (.lit (.bool (bsIs ls tn)))])] follows (by kernel_rfl) rfl rfl rfl rfl ?_ ?_
  ·exact⟨⟨_,rfl,AStep.callPure hΓ rfl rfl rfl (by simp[idsF]) hou (Q44 hΓ ls hl20 tn)⟩,trivial⟩
  by_cases hbs:bsIs ls tn=true
  ·have hlt:bsAt ls tn < ls.length:=by simp[bsIs]at hbs;exact hbs.1
   obtain⟨w,hw⟩:=Q01 (l:=fs) (i:=bsAt ls tn) (by omega)
   obtain⟨y,hy,hvy⟩:=hfs.get hw
   have hyi:=hvy.ids
   refine zA ?_
   refine ACode.wk 62 rfl (y:=.one (.lit (.bool false))) (.ofEq (by rw[hbs];rfl)) ?_
   refine zA ?_
   refine zS (zIA rfl rfl rfl (by omega) (show cs[bsAt ls tn]?=some [y]from hy)) ?_
   refine zA ?_
   exact AFn.fin' rfl (WkF.refl _) hyi hou ⟨m,w,by simp only[rowsV,Tr.n,hbs,if_true];rw[List.getD_eq_getElem?_getD,hw];rfl,fc.kt,H,nm,y,rfl,.refl _ _,hvy,h0⟩
  ·have hbf:bsIs ls tn=false:=by simpa using hbs
   refine zA ?_
   refine ACode.wk 62 rfl (y:=.one (.lit (.bool true))) (.ofEq (by rw[hbf];rfl)) ?_
   refine zA ?_
   refine zS (AStep.mkIfcA Q0k rfl rfl) ?_
   exact AOps.panicI rfl rfl rfl fun w C u hu=>⟨hou,3,by simp[rowsV,Tr.n,hbf],Q0l hu,hpr⟩
 ·refine AOps.callP hΓ (Qf7 hΓ hno _) rfl rfl rfl rfl rfl rfl hou ⟨hvi,trivial⟩ (fun ps ou' h ho=>?_) (fun r ou' h _ _=>h.elim)
  obtain⟨rfl,rfl⟩:=h
  exact⟨ho,5,by rw[Qc7 hvn],rfl,hpr⟩
theorem Qdq{t:Tr}(h:t.op=11)(v w:Vl):Q0o fu m t [v,w]=(match rowsV v with|.error e=>.error e|.ok (ls,fs)=>.ok (m,withR ls fs t.n w)):=by
 unfold Q0o
 rw[if_neg (by omega),if_neg (by omega),if_neg (by omega),if_neg (by omega)]
 cases v <;> rfl
theorem Qfn(hΓ:∀g cs,(g,cs)∈Γ->idsL isO cs)(h0:M0 fu fc ou H nm m tc ec vc kc){t:Tr}{v w:Vl}{c d:AC}(hv:VR H nm v c)(hw:VR H nm w d)(h11:t.op=11)(hr:rowV v):
  AFnP Tryz.prog Γ 113 [.one (.ptr (.o 0) 0),.one (.box (cTr t)),.one (.sl 1 [[c],[d]])] ou (PlE fu fc H nm (Q0o fu m t [v,w]) tc ec vc kc) (PlP m (Q0o fu m t [v,w])):=by
 have hvi:=hv.ids
 have hwi:=hw.ids
 have hpr:=h0.pr
 rw[Qdq h11]
 refine AFnP.walk 85 tabOk hΓ Tryz.func113 rfl (by kernel_rfl) rfl rfl fun hou=>?_
 cases t with
 |mk to tn tb tk ta=>
 obtain rfl:to=11:=h11
 refine zA ?_
 rcases hv.isRow with ⟨ls,fs,cs,rfl,rfl,hfs⟩|⟨hvn,hno⟩
 ·obtain⟨hlf,hl20⟩:=hr ls fs rfl
  have hci:=hfs.ids
  have hcl:=hfs.len
  have hres:VR H nm (withR ls fs tn w) (iB tRow [.sl 1 ((rwL ls tn).map cI),.sl 1 (rwC ls tn cs d)]):=Qhl hfs hw
  have hri:=hres.ids
  refine ACode.drawX tabOk 13 [(1,.one (.box [iB tRow [.sl 1 (ls.map cI),.sl 1 cs]])),(3,.one (.box [.sl 1 (ls.map cI),.sl 1 cs])),(9,.one (.box [d])),(11,.one (.box [.sl 1 ((rwL ls tn).map cI),.sl 1 (rwC ls tn cs d)])),(12,.one (iB tRow [.sl 1 ((rwL ls tn).map cI),.sl 1 (rwC ls tn cs d)]))] follows (by kernel_rfl) rfl rfl rfl rfl ?_ ?_
  ·refine⟨⟨_,rfl,zIA rfl rfl rfl (by decide) rfl⟩,⟨_,rfl,AStep.callPure hΓ rfl rfl rfl ⟨⟨⟨by simp,hci,trivial⟩,trivial⟩,trivial⟩ hou (Qc6 (.sl 1 (ls.map cI)) (.sl 1 cs) (by simp) hci)⟩,⟨_,rfl,zIA rfl rfl rfl (by decide) rfl⟩,⟨_,rfl,AStep.callPure hΓ rfl rfl rfl ⟨⟨by simp,hci,trivial⟩,trivial,hwi,trivial⟩ hou (Qhw hΓ (by omega) hfs.ones hci hl20 tn d hwi)⟩,⟨_,rfl,AStep.mkIfc Q9h rfl rfl⟩,trivial⟩
  refine zA ?_
  exact AFn.fin' rfl (WkF.refl _) hri hou ⟨m,withR ls fs tn w,rfl,fc.kt,H,nm,_,rfl,.refl _ _,hres,h0⟩
 ·refine ACode.drawPan tabOk 13 3 [11,12] [(1,.one (.box [c])),(9,.one (.box [d]))] follows (by kernel_rfl) rfl rfl (by kernel_rfl) (by kernel_rfl) rfl ?_ rfl rfl rfl (by kernel_rfl) rfl ?_
  ·exact⟨⟨_,rfl,zIA rfl rfl rfl (by decide) rfl⟩,⟨_,rfl,zIA rfl rfl rfl (by decide) rfl⟩,trivial⟩
  ·refine Q0u.callP hΓ (Qf7 hΓ hno _) rfl rfl rfl rfl ⟨hvi,trivial⟩ hou (fun r ou' h=>h.elim) fun ps ou' h ho2=>?_
   obtain⟨rfl,rfl⟩:=h
   exact⟨ho2,5,by rw[Qc7 hvn],rfl,hpr⟩
theorem Qb2(hΓ:∀g cs,(g,cs)∈Γ->idsL isO cs){t:Tr}{d:List Vl}{dc:List (List AC)}(hd:VsR H nm d dc)(h8:t.op=8){x:Except Int (Ms×Vl)}(hp:AFnP Tryz.prog Γ 136 [.one (.ptr (.o 0) 0),.one (int t.n),.one (.sl 1 dc)] ou (PlE fu fc H nm x tc ec vc kc) (PlP m x)):
  AFnP Tryz.prog Γ 113 [.one (.ptr (.o 0) 0),.one (.box (cTr t)),.one (.sl 1 dc)] ou (PlE fu fc H nm x tc ec vc kc) (PlP m x):=by
 have hdi:=hd.ids
 refine AFnP.walk 85 tabOk hΓ Tryz.func113 rfl (by kernel_rfl) rfl rfl fun hou=>?_
 cases t with
 |mk to tn tb tk ta=>
 obtain rfl:to=8:=h8
 refine zA ?_
 refine AOps.callP hΓ hp rfl rfl rfl rfl rfl rfl hou ⟨trivial,trivial,hdi,trivial⟩ (fun ps ou' h ho=>⟨ho,h⟩) fun r ou' hq hids how=>?_
 obtain⟨m1,v1,hx,kt,H1,nm1,c,rfl,hq⟩:=hq
 refine zA ?_
 exact AFn.fin' rfl (WkF.refl _) hids how ⟨m1,v1,hx,kt,H1,nm1,c,rfl,hq⟩
theorem Qdo(hΓ:∀g cs,(g,cs)∈Γ->idsL isO cs)(h0:M0 fu fc ou H nm m tc ec vc kc)(hfc:fc.ids isO)(hst:0<=m.steps/\m.steps<=1000000)(hfu:0<=fu/\fu<=1000000)(hol:m.out.length<=1000){t:Tr}{d:List Vl}{dc:List (List AC)}(hd:VsR H nm d dc)
  (ho:t.op=6∨t.op=8∨t.op=9∨t.op=10∨t.op=11) (hsh:ShN t.op t.n t.binds t.kids.length t.alts) (hl:d.length=t.kids.length) (hwd:∀v∈d,wdV v/\rowV v):
  AFnP Tryz.prog Γ 113 [.one (.ptr (.o 0) 0),.one (.box (cTr t)),.one (.sl 1 dc)] ou (PlE fu fc H nm (Q0o fu m t d) tc ec vc kc) (PlP m (Q0o fu m t d)):=by
 rcases ho with h|h|h|h|h
 ·refine AFn.toP ((Qfs hΓ h0 hd h).mono fun r ou' hq=>⟨_,_,?_,hq⟩)
  unfold Q0o;rw[if_pos h]
 ·have hpn:=by rw[h]at hsh;exact hsh.prim
  have e:Q0o fu m t d=primM fu m t.n d:=by unfold Q0o;rw[if_neg (by omega),if_pos h]
  rw[e]
  exact Qb2 hΓ hd h (Qfi hΓ h0 hfc hst hfu hol ⟨hpn.1,hpn.2.1⟩ hd (by rw[hl];exact hpn.2.2.1) fun v hv=>(hwd v hv).1)
 ·refine AFn.toP ((Qfo hΓ h0 hd h).mono fun r ou' hq=>⟨_,_,?_,hq⟩)
  unfold Q0o;rw[if_neg (by omega),if_neg (by omega),if_pos h]
 ·obtain⟨v,rfl⟩:=list1 (l:=d) (by rw[hl,(hsh.one (.inl h)).1])
  obtain⟨c,d1,rfl,hv,hd1⟩:=hd.consE
  have hz:=hd1.nilE
  subst hz
  exact Qfr hΓ h0 hv h (hwd v (by simp)).2
 ·obtain⟨v,w,rfl⟩:=list2 (l:=d) (by rw[h]at hsh;rw[hl,hsh.two.1])
  obtain⟨c,d1,rfl,hv,hd1⟩:=hd.consE
  obtain⟨c2,d2,rfl,hw,hd2⟩:=hd1.consE
  have hz:=hd2.nilE
  subst hz
  exact Qfn hΓ h0 hv hw h (hwd v (by simp)).2
end
section
variable {fu:Int}{fc:FcT}{fns:List Fun}{ou:Outer}{H:Hm}{nm:Nm2}{m m1:Ms}{v:Vl}{tc ec vc kc:AC}{t:Tr}{e:En}{d:List Vl}{k:List Fm}{dc:List (List AC)}{tc0 ec0 vc0 kc0:AC}
theorem Qg5(hΓ:∀g cs,(g,cs)∈Γ->idsL isO cs)(h0:M0 fu fc ou H nm m tc0 ec0 vc0 kc0)(hfc:fc.ids isO)(he:ER H nm e ec)(hd:VsR H nm d dc)(hk:KR H nm k kc)(hl:d.length=1)(h7:t.op=7){x:Except Int Ms}
  (hch:∀ou',M0 fu fc ou' H nm m tc0 ec0 vc0 kc->AFnP Tryz.prog Γ 108 [.one (.ptr (.o 0) 0),.one (.box [.box (cTr t),ec,.sl 1 dc,kc])] ou' (StQ fu fc H nm x) (StP m x)):
  AFnP Tryz.prog Γ 86 [.one (.ptr (.o 0) 0),.one (.box [.box (cTr t),ec,.sl 1 dc,kc])] ou (StQ fu fc H nm x) (StP m x):=by
 have hN:=Q3a h0 hk hfc
 have hei:=he.ids
 have hdi:=hd.ids
 have hki:=hk.ids
 have hdl:=hd.len
 have hop:opdN t=1:=by unfold opdN;rw[if_pos (.inr (.inl h7))]
 have hoX:=h0.ouX
 rw[hoX]
 generalize hmc:ou=ou0 at hN
 clear hoX
 refine AFnP.walk 262 tabOk hΓ Tryz.func86 rfl (by kernel_rfl) rfl rfl fun hou=>?_
 refine zA ?_
 refine ACode.drawX tabOk 10 [(9,.one (int (opdN t)))] follows (by kernel_rfl) rfl rfl rfl rfl ?_ ?_
 ·exact⟨⟨_,rfl,AStep.callPure hΓ rfl rfl rfl (by simp[idsF]) hou (Q2r t)⟩,trivial⟩
 refine zA ?_
 refine ACode.cond rfl (fun hb=>absurd hb (by simp[hdl,hl,hop])) (fun hb=>?_)
 refine zA ?_
 refine ACode.stEq (σ':=⟨0,[],ouX (mC tc0 ec0 vc0 kc m.out m.steps fu fc) m.out.length ou0⟩) (setX _ _ _ _) ?_
 refine ACode.cond rfl (fun hb=>absurd hb (by simp[h7])) (fun _=>?_)
 refine zA ?_
 refine ACode.cond rfl (fun _=>?_) (fun hb=>absurd hb (by simp[h7]))
 refine zA ?_
 refine AOps.callP hΓ (hch _ hN) rfl rfl rfl rfl rfl rfl hN.w.ok ⟨trivial,⟨by simp,hei,hdi,hki,trivial⟩,trivial⟩ (fun ps ou' h ho=>⟨ho,h⟩) fun r ou' hq _ how=>?_
 obtain⟨rfl,H',nm',m',hx,hmo,hM⟩:=hq
 refine zA ?_
 exact StQ.fin rfl hx hmo hM
theorem Qih(hΓ:∀g cs,(g,cs)∈Γ->idsL isO cs)(h0:M0 fu fc ou H nm m tc0 ec0 vc0 kc0)(hfc:fc.ids isO)(he:ER H nm e ec){v0:Vl}{c0:AC}{ds:List (List AC)}(hv0:VR H nm v0 c0)(hd:VsR H nm d ds)(hk:KR H nm k kc)(hl:d.length+1=t.kids.length)(h3:t.op=3){x:Except Int Ms}
  (hcl:∀ou',M0 fu fc ou' H nm m tc0 ec0 vc0 kc->AFnP Tryz.prog Γ 109 [.one (.ptr (.o 0) 0),.one c0,.one (.sl 1 ds)] ou' (StQ fu fc H nm x) (StP m x)):
  AFnP Tryz.prog Γ 86 [.one (.ptr (.o 0) 0),.one (.box [.box (cTr t),ec,.sl 1 ([c0]::ds),kc])] ou (StQ fu fc H nm x) (StP m x):=by
 have hN:=Q3a h0 hk hfc
 have hei:=he.ids
 have hdi:=hd.ids
 have hvi:=hv0.ids
 have hki:=hk.ids
 have hdl:=hd.len
 have hop:opdN t=t.kids.length:=by unfold opdN;rw[if_neg (by rw[h3];decide)]
 have hoX:=h0.ouX
 rw[hoX]
 generalize hmc:ou=ou0 at hN
 clear hoX
 refine AFnP.walk 262 tabOk hΓ Tryz.func86 rfl (by kernel_rfl) rfl rfl fun hou=>?_
 refine zA ?_
 refine ACode.drawX tabOk 10 [(9,.one (int (opdN t)))] follows (by kernel_rfl) rfl rfl rfl rfl ?_ ?_
 ·exact⟨⟨_,rfl,AStep.callPure hΓ rfl rfl rfl (by simp[idsF]) hou (Q2r t)⟩,trivial⟩
 refine zA ?_
 refine ACode.cond rfl (fun hb=>absurd hb (by simp[hdl,hop];omega)) (fun hb=>?_)
 refine zA ?_
 refine ACode.stEq (σ':=⟨0,[],ouX (mC tc0 ec0 vc0 kc m.out m.steps fu fc) m.out.length ou0⟩) (setX _ _ _ _) ?_
 refine ACode.cond rfl (fun hb=>absurd hb (by simp[h3])) (fun _=>?_)
 refine zA ?_
 refine ACode.cond rfl (fun hb=>absurd hb (by simp[h3])) (fun _=>?_)
 refine zA ?_
 refine ACode.cond rfl (fun _=>?_) (fun hb=>absurd hb (by simp[h3]))
 refine zA ?_
 refine ACode.drawX tabOk 12 [(5,.one (.box [c0])),(11,.one (.sl 1 ds))] follows (by kernel_rfl) rfl rfl rfl rfl ?_ ?_
 ·exact⟨⟨_,rfl,zIA rfl rfl rfl (by decide) rfl⟩,⟨_,rfl,AStep.sliceFrom (b:=1) (es:=[c0]::ds) tabOk rfl rfl rfl rfl rfl rfl rfl (by simp)⟩,trivial⟩
 refine zA ?_
 refine AOps.callP hΓ (hcl _ hN) rfl rfl rfl rfl rfl rfl hN.w.ok ⟨trivial,hvi,hdi,trivial⟩ (fun ps ou' h ho=>⟨ho,h⟩) fun r ou' hq _ how=>?_
 obtain⟨rfl,H',nm',m',hx,hmo,hM⟩:=hq
 refine zA ?_
 exact StQ.fin rfl hx hmo hM
theorem Qdz(hΓ:∀g cs,(g,cs)∈Γ->idsL isO cs)(h0:M0 fu fc ou H nm m tc0 ec0 vc0 kc0)(hfc:fc.ids isO)(he:ER H nm e ec)(hd:VsR H nm d dc)(hk:KR H nm k kc)(hl:d.length=opdN t)(hn:¬(t.op=4∨t.op=7∨t.op=3∨t.op=13∨t.op=12∨t.op=14∨t.op=15∨t.op=16))
  {x:Except Int (Ms×Vl)}
  (hpl:∀ou',M0 fu fc ou' H nm m tc0 ec0 vc0 kc->AFnP Tryz.prog Γ 113 [.one (.ptr (.o 0) 0),.one (.box (cTr t)),.one (.sl 1 dc)] ou' (PlE fu fc H nm x tc0 ec0 vc0 kc) (PlP m x)):
  AFnP Tryz.prog Γ 86 [.one (.ptr (.o 0) 0),.one (.box [.box (cTr t),ec,.sl 1 dc,kc])] ou (StQ fu fc H nm (x.map fun (m1,v)=>{ m1 with c:=.rt v,k:=k })) (StP m (x.map fun (m1,v)=>{ m1 with c:=.rt v,k:=k })):=by
 have hN:=Q3a h0 hk hfc
 simp only[not_or]at hn
 have hei:=he.ids
 have hdi:=hd.ids
 have hki:=hk.ids
 have hdl:=hd.len
 have hoX:=h0.ouX
 rw[hoX]
 generalize hmc:ou=ou0 at hN
 clear hoX
 refine AFnP.walk 262 tabOk hΓ Tryz.func86 rfl (by kernel_rfl) rfl rfl fun hou=>?_
 refine zA ?_
 refine ACode.drawX tabOk 10 [(9,.one (int (opdN t)))] follows (by kernel_rfl) rfl rfl rfl rfl ?_ ?_
 ·exact⟨⟨_,rfl,AStep.callPure hΓ rfl rfl rfl (by simp[idsF]) hou (Q2r t)⟩,trivial⟩
 refine zA ?_
 refine ACode.cond rfl (fun hb=>absurd hb (by simp[hdl,hl])) (fun hb=>?_)
 refine zA ?_
 refine ACode.stEq (σ':=⟨0,[],ouX (mC tc0 ec0 vc0 kc m.out m.steps fu fc) m.out.length ou0⟩) (setX _ _ _ _) ?_
 refine ACode.cond rfl (fun hb=>absurd hb (by simp[hn.1])) (fun _=>?_)
 refine zA ?_
 refine ACode.cond rfl (fun hb=>absurd hb (by simp[hn.2.1])) (fun _=>?_)
 refine zA ?_
 refine ACode.cond rfl (fun hb=>absurd hb (by simp[hn.2.2.1])) (fun _=>?_)
 refine zA ?_
 refine ACode.cond rfl (fun hb=>absurd hb (by simp[hn.2.2.2.1])) (fun _=>?_)
 refine zA ?_
 refine ACode.cond rfl (fun hb=>absurd hb (by simp[hn.2.2.2.2.1])) (fun _=>?_)
 refine zA ?_
 refine ACode.cond rfl (fun hb=>absurd hb (by simp[hn.2.2.2.2.2.1])) (fun _=>?_)
 refine zA ?_
 refine ACode.cond rfl (fun hb=>absurd hb (by simp[hn.2.2.2.2.2.2.1])) (fun _=>?_)
 refine zA ?_
 refine ACode.cond rfl (fun hb=>absurd hb (by simp[hn.2.2.2.2.2.2.2])) (fun _=>?_)
 refine zA ?_
 refine ACode.drawCS tabOk 15 11 12 13 14 (.one (.ptr (.o 0) 0)) (.one (.ptr (.o 0) 0)) []
  (fun r σ => ∃ m1 v kt H1 nm1 c ou1, x = .ok (m1, v) /\ r = .one c /\ σ = ⟨0, [], ouX (mC tc0 ec0 vc0 kc m1.out m1.steps fu ⟨fc.ac, kt⟩) m1.out.length ou1⟩ /\ Mo H nm H1 nm1 /\ VR H1 nm1 v c /\ WR (ouX (mC tc0 ec0 vc0 kc m1.out m1.steps fu ⟨fc.ac, kt⟩) m1.out.length ou1) H1 nm1 m1.heap)
  (fun r σ => ∃ m1 v kt H1 nm1 c ou1, x = .ok (m1, v) /\ r = .one c /\ σ = ⟨0, [], ouX (mC nilPE ec0 vc0 kc m1.out m1.steps fu ⟨fc.ac, kt⟩) m1.out.length ou1⟩ /\ Mo H nm H1 nm1 /\ VR H1 nm1 v c /\ WR (ouX (mC tc0 ec0 vc0 kc m1.out m1.steps fu ⟨fc.ac, kt⟩) m1.out.length ou1) H1 nm1 m1.heap)
  follows (by kernel_rfl) rfl rfl (by decide) (by kernel_rfl) (by kernel_rfl) rfl rfl rfl rfl rfl rfl rfl ?_ ?_ trivial (fun _ _ _=>trivial) (fun _ _ _=>trivial) ?_ ?_ ?_ ?_ ?_
 ·rintro r σ ⟨m1,v,kt,H1,nm1,c,ou1,hx,rfl,rfl,_⟩;rfl
 ·rintro r σ ⟨m1,v,kt,H1,nm1,c,ou1,hx,rfl,rfl,_⟩;rfl
 ·refine Q0u.callP hΓ (hpl _ hN) rfl rfl rfl rfl ⟨trivial,by simp,hdi,trivial⟩ hN.w.ok (fun r ou' hq hr ho=>?_) fun ps ou' h ho=>⟨ho,?_⟩
  rotate_left
  ·obtain⟨c,hx,h1,h2⟩:=h
   exact⟨c,by rw[hx];rfl,h1,h2⟩
  obtain⟨m1,v,hx,kt,H1,nm1,c,rfl,h1,h2,h3⟩:=hq
  have hw:=h3.w
  have e:=h3.ouX
  rw[e]at hw
  exact⟨m1,v,kt,H1,nm1,c,ou',hx,rfl,by rw[←e],h1,h2,hw⟩
 ·rintro r σ ⟨m1,v,kt,H1,nm1,c,ou1,hx,rfl,rfl,_⟩;exact AStep.ofOp tabOk rfl
 ·rintro r σ ⟨m1,v,kt,H1,nm1,c,ou1,hx,rfl,rfl,_⟩;exact AStep.ofOp tabOk rfl
 ·rintro r σ ⟨m1,v,kt,H1,nm1,c,ou1,hx,rfl,rfl,h1⟩;exact⟨_,⟨m1,v,kt,H1,nm1,c,ou1,hx,rfl,setX _ _ _ _,h1⟩,AStep.ofStore tabOk rfl⟩
 ·rintro r σ ⟨m1,v,kt,H1,nm1,c,ou1,hx,rfl,rfl,h1,h2,h3⟩
  refine zA ?_
  have hM:MR fu ⟨fc.ac,kt⟩ (St.set ⟨0,[],ouX (mC nilPE ec0 vc0 kc m1.out m1.steps fu ⟨fc.ac,kt⟩) m1.out.length ou1⟩ (.o 0) (.cells (mC nilPE ec0 c kc m1.out m1.steps fu ⟨fc.ac,kt⟩))).ou H1 nm1 { m1 with c:=.rt v,k:=k }:=MR.ofRt h3 h2 (hk.mo h1) h0.ids.2.1 hfc rfl rfl (fun _=>rfl)
  exact StQ.fin rfl (by rw[hx];rfl) h1 ⟨hM.ex⟩
theorem Qdj(hΓ:∀g cs,(g,cs)∈Γ->idsL isO cs)(h0:M0 fu fc ou H nm m (.box (cTr t)) ec vc kc)(he:ER H nm e ec)(hk:KR H nm m.k kc)(h1:¬(t.op=0∨t.op=1∨t.op=2∨t.op=17∨t.op=5)){x:Except Int Ms}
  (hkid:AFnP Tryz.prog Γ 86 [.one (.ptr (.o 0) 0),.one (.box [.box (cTr t),ec,.sl 1 [],kc])] ou (StQ fu fc H nm x) (StP m x)):AFnP Tryz.prog Γ 88 [.one (.ptr (.o 0) 0)] ou (StQ fu fc H nm x) (StP m x):=by
 have hei:=he.ids
 have hki:=hk.ids
 have hoX:=h0.ouX
 rw[hoX]at hkid ⊢
 generalize hmc:ou=ou0 at hkid
 clear hoX
 refine AFnP.walk 149 tabOk hΓ Tryz.func88 rfl (by kernel_rfl) rfl rfl fun hou=>?_
 cases t with
 |mk to tn tb tk ta=>
 simp only[Tr.op]at h1
 have e0:to≠0:=fun e=>h1 (.inl e)
 have e1:to≠1:=fun e=>h1 (.inr (.inl e))
 have e2:to≠2:=fun e=>h1 (.inr (.inr (.inl e)))
 have e17:to≠17:=fun e=>h1 (.inr (.inr (.inr (.inl e))))
 have e5:to≠5:=fun e=>h1 (.inr (.inr (.inr (.inr e))))
 refine zA ?_
 refine ACode.cond rfl (fun hb=>absurd (by simpa using hb) e0) (fun _=>?_)
 refine zA ?_
 refine ACode.cond rfl (fun hb=>absurd (by simpa using hb) e1) (fun _=>?_)
 refine zA ?_
 refine ACode.cond rfl (fun hb=>absurd (by simpa using hb) e2) (fun _=>?_)
 refine zA ?_
 refine ACode.cond rfl (fun hb=>absurd (by simpa using hb) e17) (fun _=>?_)
 refine zA ?_
 refine ACode.cond rfl (fun hb=>absurd (by simpa using hb) e5) (fun _=>?_)
 refine zA ?_
 refine ACode.drawXH (va:=.one (.ptr (.l 0) 0)) (σ1:=St.push ⟨0,[],ouX (mC (.box (cTr (.mk to tn tb tk ta))) ec vc kc m.out m.steps fu fc) m.out.length ou0⟩ (.cells [.box (cTr (.mk to tn tb tk ta)),ec,.lit (.slice none 0 0),kc])) tabOk 12 11 [] follows (by kernel_rfl) rfl rfl rfl rfl rfl rfl rfl (HStep.auto tabOk rfl) trivial trivial ?_
 refine AOps.freeze1 (.l 0) 26 rfl rfl ?_
 refine AOps.wk 26 rfl (y:=.one (.box [.box (cTr (.mk to tn tb tk ta)),ec,.sl 1 [],kc])) (.one (Wk.box (.cons (.refl _) (.cons (.refl _) (.cons (.nilS 1) (.cons (.refl _) .nil)))))) ?_
 refine AOps.callP hΓ hkid rfl rfl rfl rfl rfl rfl hou ⟨trivial,⟨by simp,hei,trivial,hki,trivial⟩,trivial⟩ (fun ps ou' h ho=>⟨ho,h⟩) fun r ou' hq _ how=>?_
 obtain⟨rfl,H',nm',m',hx,hmo,hM⟩:=hq
 refine zA ?_
 exact StQ.fin rfl hx hmo hM
theorem slot_no(hΓ:∀g cs,(g,cs)∈Γ->idsL isO cs){c:AC}{n:Nat}(hc:notT tCap c∨∃g l,c=iB tCap [int g,.sl 1 l]/\l.length<=n)(ou:Outer):AFnP Tryz.prog Γ 112 [.one c,.one (int n)] ou (fun _ _=>False) (fun ps ou'=>ps=trapE 5/\ou'=ou):=by
 refine AFnP.walk 32 tabOk hΓ Tryz.func112 rfl (by kernel_rfl) rfl rfl fun hou=>?_
 refine zA ?_
 rcases hc with hno|⟨g,l,rfl,hl⟩
 ·refine zS (AStep.assertNo Q3h rfl zCap rfl rfl hno) ?_
  refine zM ?_
  refine zS (AStep.mkIfcA Q0k rfl rfl) ?_
  exact AOps.panicI rfl rfl rfl fun w C v hv=>⟨hou,Q0l hv,rfl⟩
 ·refine zS (AStep.assertYes Q3h rfl rfl) ?_
  refine zM ?_
  refine ACode.cond rfl (fun _=>?_) (fun hb=>absurd hb (by simp;omega))
  refine zA ?_
  refine zS (AStep.mkIfcA Q0k rfl rfl) ?_
  exact AOps.panicI rfl rfl rfl fun w C v hv=>⟨hou,Q0l hv,rfl⟩
theorem Q80(hΓ:∀g cs,(g,cs)∈Γ->idsL isO cs)(h0:M0 fu fc ou H nm m tc0 ec0 vc0 kc0)(hfc:fc.ids isO)(he:ER H nm e ec){c:AC}(hci:c.ids isO)(hk:KR H nm k kc)(hkl:t.kids.length=1)(h16:t.op=16){n:Nat}(hn:t.n=(n:Int))(hc:notT tCap c∨∃g l,c=iB tCap [int g,.sl 1 l]/\l.length<=n){x:Except Int Ms}(hx:x=.error 5){Q:FV->Outer->Prop}:
  AFnP Tryz.prog Γ 86 [.one (.ptr (.o 0) 0),.one (.box [.box (cTr t),ec,.sl 1 [[c]],kc])] ou Q (StP m x):=by
 have hN:=Q3a h0 hk hfc
 have hei:=he.ids
 have hki:=hk.ids
 have hpr:=hN.pr
 have hw:=hN.w
 have hoX:=h0.ouX
 rw[hoX]
 generalize hmc:ou=ou0 at hN hw hpr
 clear hoX
 obtain⟨o,tn,b,ks,al⟩:=t
 simp only[Tr.op,Tr.n,Tr.kids]at h16 hn hkl
 subst h16;subst hn
 have hop:opdN (.mk 16 (n:Int) b ks al)=1:=by show ks.length=1;exact hkl
 refine AFnP.walk 262 tabOk hΓ Tryz.func86 rfl (by kernel_rfl) rfl rfl fun hou=>?_
 refine zA ?_
 refine ACode.drawX tabOk 10 [(9,.one (int (opdN (.mk 16 (n:Int) b ks al))))] follows (by kernel_rfl) rfl rfl rfl rfl ?_ ?_
 ·exact⟨⟨_,rfl,AStep.callPure hΓ rfl rfl rfl (by simp[idsF]) hou (Q2r _)⟩,trivial⟩
 refine zA ?_
 refine ACode.cond rfl (fun hb=>absurd hb (by simp[hop])) (fun hb=>?_)
 refine zA ?_
 refine ACode.stEq (σ':=⟨0,[],ouX (mC tc0 ec0 vc0 kc m.out m.steps fu fc) m.out.length ou0⟩) (setX _ _ _ _) ?_
 refine zA ?_
 refine ACode.drawPan tabOk 19 15 [16,17,18] [(6,.one (.box [c]))] follows (by kernel_rfl) rfl rfl (by kernel_rfl) (by kernel_rfl) rfl ?_ rfl rfl rfl (by kernel_rfl) rfl ?_
 ·exact⟨⟨_,rfl,zIA rfl rfl rfl (by decide) rfl⟩,trivial⟩
 ·refine Q0u.callP hΓ (slot_no hΓ hc _) rfl rfl rfl rfl ⟨hci,trivial,trivial⟩ hw.ok (fun r ou' h=>h.elim) fun ps ou' h ho2=>?_
  obtain⟨rfl,rfl⟩:=h
  exact⟨ho2,5,hx,rfl,hpr⟩
theorem Qe9(hΓ:∀g cs,(g,cs)∈Γ->idsL isO cs){kt:Nat}(h0:M0 fu ⟨.sl 2 (fns.map cFun),kt⟩ ou H nm m tc0 ec0 vc0 kc){n:Nat}{sl:List Vl}{c:AC}(hv:VR H nm (.cap (n:Int) sl) c){f:Fun}(hf:fns[n]?=some f){l:List Vl}{cs:List (List AC)}(hl:VsR H nm l cs)(hpl:f.params.length≠l.length+1)(h20:l.length<=1048576){x:Except Int Ms}(hx:x=.error 5){Q:FV->Outer->Prop}:
  AFnP Tryz.prog Γ 109 [.one (.ptr (.o 0) 0),.one c,.one (.sl 1 cs)] ou Q (StP m x):=by
 have hoX:=h0.ouX
 have hvi:=hv.ids
 have hli:=hl.ids
 have hll:=hl.len
 have hpr:=h0.pr
 rw[hoX]at hpr ⊢
 generalize hmc:ou=ou0 at hpr
 clear hoX
 obtain⟨scs,rfl⟩:∃scs,c=iB tCap [int n,.sl 1 scs]:=by
  rcases hv.isCap with ⟨g,fs,cs,h1,h2,h3⟩|⟨h1,_⟩
  ·cases h1;exact⟨cs,h2⟩
  ·exact absurd rfl (h1 _ sl)
 have n1:notT tClo (iB tCap [int n,.sl 1 scs]):=.inr ⟨_,_,_,rfl,rfl⟩
 have hsc:(fns.map cFun)[n]?=some (cFun f):=by rw[List.getElem?_map,hf];rfl
 refine AFnP.walk 137 tabOk hΓ Tryz.func109 rfl (by kernel_rfl) rfl rfl fun hou=>?_
 refine zA ?_
 refine zS (AStep.assertNo Q3z rfl zClo rfl rfl n1) ?_
 refine zA ?_
 refine zS (AStep.assertYes Q3h rfl rfl) ?_
 refine zA ?_
 refine ACode.drawXA tabOk 11 10 [(8,.one (.box (cFun f)))] follows (by kernel_rfl) rfl rfl rfl rfl rfl rfl rfl rfl rfl ?_ ?_ ?_
 ·exact⟨⟨_,rfl,zIA rfl rfl rfl (by show (0:Int)<=(n:Int);omega) (by simpa using hsc)⟩,trivial⟩
 ·exact⟨⟨_,rfl,zIA rfl rfl rfl (by show (0:Int)<=(n:Int);omega) (by simpa using hsc)⟩,trivial⟩
 refine zM ?_
 refine ACode.cond rfl (fun hb=>absurd hb (by simp;omega)) (fun _=>?_)
 refine zA ?_
 refine zS (AStep.mkIfcA Q0k rfl rfl) ?_
 exact AOps.panicI rfl rfl rfl fun w C v hv=>⟨hou,5,hx,Q0l hv,hpr⟩
theorem Qdg(hΓ:∀g cs,(g,cs)∈Γ->idsL isO cs)(h0:M0 fu fc ou H nm m (.box (cTr t)) ec vc kc)(h17:t.op=17){x:Except Int Ms}(hx:x=.error t.n){Q:FV->Outer->Prop}:AFnP Tryz.prog Γ 88 [.one (.ptr (.o 0) 0)] ou Q (StP m x):=by
 have hpr:=h0.pr
 have hoX:=h0.ouX
 rw[hoX]at hpr ⊢
 generalize hmc:ou=ou0 at hpr
 clear hoX
 refine AFnP.walk 149 tabOk hΓ Tryz.func88 rfl (by kernel_rfl) rfl rfl fun hou=>?_
 cases t with
 |mk to tn tb tk ta=>
 obtain rfl:to=17:=h17
 refine zA ?_
 refine zS (AStep.mkIfcA Q0k rfl rfl) ?_
 exact AOps.panicI rfl rfl rfl fun w C v hv=>⟨hou,tn,hx,Q0l hv,hpr⟩
end
end Go.Proofs.YtkgjldchcbfpnaaGreatDoor
namespace Go.CoreX
def rowOk (ls:List Int):Prop:=ls.Pairwise (· < ·)/\∀x∈ls,0<=x/\x < 1048576
theorem Qf8{ls:List Int}(h:rowOk ls):ls.length<=1048576:=by
 have key:∀(l:List Int) (a:Int),l.Pairwise (· < ·)->(∀x∈l,a<=x/\x < 1048576)->a<=1048576->(l.length:Int)<=1048576 - a:=by
  intro l
  induction l with
  |nil=>intro a _ _ h;simp;omega
  |cons y l ih=>
   intro a hp hx ha
   rw[List.pairwise_cons]at hp
   have hy:=hx y (by simp)
   have:=ih (y+1) hp.2 (fun x hxl=>⟨by have:=hp.1 x hxl;omega,(hx x (by simp[hxl])).2⟩) (by omega)
   simp only[List.length_cons]
   omega
 have:=key ls 0 h.1 h.2 (by omega)
 omega
theorem Qfe{ls:List Int}(h:ls.Pairwise (· < ·)){i j:Nat}(hij:i < j)(hj:j < ls.length):ls.getD i 0 < ls.getD j 0:=by
 rw[List.getD_eq_getElem?_getD,List.getD_eq_getElem?_getD,List.getElem?_eq_getElem hj,List.getElem?_eq_getElem (by omega)]
 exact List.pairwise_iff_getElem.1 h i j (by omega) hj hij
theorem Q7f{ls:List Int}(h:ls.Pairwise (· < ·))(x:Int):∀(g i j:Nat),i<=j->j<=ls.length->j - i<=g->(∀k,k < i->ls.getD k 0 < x)->(∀k,j<=k->k < ls.length->x<=ls.getD k 0) ->
  (∀ k, k < bsGo ls x g i j -> ls.getD k 0 < x) /\ (∀ k, bsGo ls x g i j <= k -> k < ls.length -> x <= ls.getD k 0)
 |0,i,j,h1,h2,h3,h4,h5=>by
  have:i=j:=by omega
  subst this
  exact⟨h4,h5⟩
 |g+1,i,j,h1,h2,h3,h4,h5=>by
  unfold bsGo
  split
  ·rename_i hij
   split
   ·rename_i hlt
    refine Q7f h x g _ _ (by omega) h2 (by omega) (fun k hk=>?_) h5
    rcases Nat.lt_or_ge k ((i+j) / 2)with hk2|hk2
    ·have:=Qfe h hk2 (by omega);omega
    ·rw[show k=(i+j) / 2 by omega];exact hlt
   ·rename_i hge
    refine Q7f h x g _ _ (by omega) (by omega) (by omega) h4 fun k hk hkl=>?_
    rcases Nat.lt_or_ge ((i+j) / 2) k with hk2|hk2
    ·have:=Qfe h hk2 hkl;omega
    ·rw[show k=(i+j) / 2 by omega];omega
  ·rename_i hij
   have:i=j:=by omega
   subst this
   exact⟨h4,h5⟩
theorem Qf9{ls:List Int}(h:rowOk ls){n:Int}(hn:0<=n/\n < 1048576)(hb:bsIs ls n=false):rowOk (ls.take (bsAt ls n)++n::ls.drop (bsAt ls n)):=by
 obtain⟨h1,h2⟩:=Q7f h.1 n ls.length 0 ls.length (Nat.zero_le _) (Nat.le_refl _) (by omega) (fun k hk=>by omega) (fun k hk hl=>by omega)
 have hgt:∀k,bsAt ls n<=k->k < ls.length->n < ls.getD k 0:=fun k hk hl=>by
  have h3:=h2 k hk hl
  have hne:ls.getD (bsAt ls n) 0≠n:=fun e=>by
   have:bsIs ls n=true:=by
    unfold bsIs
    rw[e]
    simp;omega
   rw[hb]at this;cases this
  rcases Nat.lt_or_ge (bsAt ls n) k with hk2|hk2
  ·have hbl:bsGo ls n ls.length 0 ls.length < ls.length:=Nat.lt_trans hk2 hl
   have h4:=h2 _ (Nat.le_refl _) hbl
   have h5:=Qfe h.1 hk2 hl
   have:n<=ls.getD (bsAt ls n) 0:=h4
   omega
  ·have e:k=bsAt ls n:=by omega
   subst e;omega
 have mt:∀x∈ls.take (bsAt ls n),x < n:=fun x hx=>by
  obtain⟨k,hk⟩:=List.mem_iff_getElem?.1 hx
  have hkl:=(List.getElem?_eq_some_iff.1 hk).1
  simp at hkl
  rw[List.getElem?_take_of_lt (by omega)]at hk
  have:=h1 k (show k < bsAt ls n by omega)
  rw[List.getD_eq_getElem?_getD,hk]at this
  exact this
 have md:∀x∈ls.drop (bsAt ls n),n < x:=fun x hx=>by
  obtain⟨k,hk⟩:=List.mem_iff_getElem?.1 hx
  have hkl:=(List.getElem?_eq_some_iff.1 hk).1
  simp at hkl
  rw[List.getElem?_drop]at hk
  have:=hgt (bsAt ls n+k) (by omega) (by omega)
  rw[List.getD_eq_getElem?_getD,hk]at this
  exact this
 refine⟨List.pairwise_append.2 ⟨h.1.sublist (List.take_sublist _ _),List.pairwise_cons.2 ⟨md,h.1.sublist (List.drop_sublist _ _)⟩,fun a ha b hb2=>?_⟩,fun x hx=>?_⟩
 ·have:=mt a ha
  rcases List.mem_cons.1 hb2 with rfl|hb3
  ·exact this
  ·have:=md b hb3;omega
 ·rcases List.mem_append.1 hx with hx|hx
  ·exact h.2 x (List.mem_of_mem_take hx)
  ·rcases List.mem_cons.1 hx with rfl|hx
   ·exact hn
   ·exact h.2 x (List.mem_of_mem_drop hx)
end Go.CoreX
namespace Go.Proofs.YtkgjldchcbfpnaaGreatDoor
open Go Go.Abs Go.CoreX
variable {Γ:List (Nat×List AC)}
structure FragU (fns:List Fun)(hi:Bool)(l:Lab):Prop where
 sh:shpQ l
 op:l.op=12∨l.op=13->hi=true
 bl:l.binds.length<=1048576
 al:l.alts.length<=1048576
 ab:∀a∈l.alts,a.binds.length<=1048576
 kl:l.ops.length<=1048576
 wd:l.op=1->inW l.n
 rc:l.op=5->∀i,i < l.binds.length->l.ops[i]?=some 2
 cl:l.op=14∨l.op=15->0<=l.n/\l.n < fns.length
 ar:l.op=14->(fns.getD l.n.toNat ⟨[],default⟩).params.length=l.ops.length
 sl:l.op=16->0<=l.n
 rb:l.op=9->rowOk l.binds
 rn:l.op=11->0<=l.n/\l.n < 1048576
structure FnsU (fns:List Fun)(hi:Bool):Prop where
 b:∀f∈fns,allT (FragU fns hi) f.body
 p:∀f∈fns,f.params.length<=1048576
def GU (fns:List Fun)(hi:Bool):GP:={ p:=FragU fns hi,S:=fun _=>True,W:=inW,fns:=fns,R:=hi=true,RW:=rowOk }
theorem GUok{fns:List Fun}{hi:Bool}(hf:FnsU fns hi):GPok (GU fns hi) where
 sh:=fun l h=>h.sh
 bnd:=fun _ _ _ _=>trivial
 wd:=fun l h h1=>h.wd h1
 rc:=fun l h h1=>h.rc h1
 wr:=fun n=>by show inW (wrapW n);unfold inW wrapW;omega
 wl:=fun n h0 h1=>by show inW n;unfold inW;omega
 wm:=fun a b ha hb=>Qbx ha hb
 fn:=fun f h=>⟨hf.b f h,fun _ _=>trivial⟩
 cl:=fun l h ho=>h.cl ho
 rs:=fun l h ho=>h.op (.inl ho)
 rw:=fun l h ho=>h.rb ho
 ri:=fun l h ho ls hl hb=>Qf9 hl (h.rn ho) hb
theorem GUopn{fns:List Fun}{hi:Bool}{t:Tr}(h:allT (FragU fns hi) t):opdN t<=1048576:=by
 have F:FragU fns hi ⟨t.op,t.n,t.binds,t.kids.map Tr.op,t.alts⟩:=Q0x h
 have:=F.kl
 simp at this
 unfold opdN
 split <;> omega

section
variable {fu:Int}{ac:AC}
structure MoreU (fns:List Fun)(hi:Bool)(fu:Int)(ac:AC)(Γ:List (Nat×List AC)):Prop where
 res:hi=true->∀(ou:Outer) (H:Hm) (nm:Nm2) (m:Ms) (k fs:List Fm) (kc tc0 ec0 vc0:AC) (kt:Nat) (vc:AC) (a:Vl) (c:AC),M0 fu ⟨ac,kt⟩ ou H nm m tc0 ec0 vc0 kc->KR H nm k kc->VR H nm (.res fs) vc->VR H nm a c->gFs (GU fns hi) fs->(fs++k).length<=1048576->
  AFn Tryz.prog Γ 109 [.one (.ptr (.o 0) 0),.one vc,.one (.sl 1 [[c]])] ou (StQ fu ⟨ac,kt⟩ H nm (.ok { m with c:=.rt a,k:=fs++k }))
 kid:hi=true->∀(ou:Outer) (H:Hm) (nm:Nm2) (m m':Ms) (t:Tr) (e:En) (d:List Vl) (k:List Fm) (ec kc tc0 ec0 vc0 kc0:AC) (dc:List (List AC)) (kt:Nat),M0 fu ⟨ac,kt⟩ ou H nm m tc0 ec0 vc0 kc0->ER H nm e ec->VsR H nm d dc->KR H nm k kc->
  allT (FragU fns hi) t->gFs (GU fns hi) k->k.length<=1048576->d.length=1->t.op=12∨t.op=13->kidM fu fns m (.mk t e d) k=.ok m'->AFn Tryz.prog Γ 86 [.one (.ptr (.o 0) 0),.one (.box [.box (cTr t),ec,.sl 1 dc,kc])] ou (StQ fu ⟨ac,kt⟩ H nm (.ok m'))
theorem MoreU.no{fns:List Fun}{fu:Int}{ac:AC}:MoreU fns false fu ac Γ:=⟨(fun h=>by cases h),(fun h=>by cases h)⟩
theorem PR.k{ou:Outer}{m:Ms}{k:List Fm}(h:PR ou { m with k:=k }):PR ou m:=⟨h.ok,h.m0⟩
theorem M0.k{fc:FcT}{ou:Outer}{H:Hm}{nm:Nm2}{m:Ms}{k:List Fm}{tc ec vc kc:AC}(h:M0 fu fc ou H nm m tc ec vc kc):M0 fu fc ou H nm { m with k:=k } tc ec vc kc:=⟨h.ids,h.m0,h.w⟩
def KidP (fu:Int)(ac:AC)(G:GP)(Γ:List (Nat×List AC)):Prop:=∀(ou:Outer)(H:Hm)(nm:Nm2)(m:Ms)(t:Tr)(e:En)(d:List Vl)(k:List Fm)(ec kc tc0 ec0 vc0 kc0:AC)(dc:List (List AC))(kt:Nat),M0 fu ⟨ac,kt⟩ ou H nm m tc0 ec0 vc0 kc0->ER H nm e ec->VsR H nm d dc->KR H nm k kc->
 allT G.p t->gE G e->gVs G d->d.length<=opdN t->nLf t.op->gFs G k->(G.R->k.length<=1048576)->m.out.length<=1000->0<=m.steps/\m.steps<=1000000->(t.op=12->∃m',kidM fu G.fns m (.mk t e d) k=.ok m')->(∀m',kidM fu G.fns m (.mk t e d) k=.ok m'->G.R->m'.k.length<=1048576)->
 AFnP Tryz.prog Γ 86 [.one (.ptr (.o 0) 0),.one (.box [.box (cTr t),ec,.sl 1 dc,kc])] ou (StQ fu ⟨ac,kt⟩ H nm (kidM fu G.fns m (.mk t e d) k)) (StP m (kidM fu G.fns m (.mk t e d) k))
def StartP (fu:Int)(ac:AC)(G:GP)(Γ:List (Nat×List AC)):Prop:=∀(ou:Outer)(H:Hm)(nm:Nm2)(m:Ms)(t:Tr)(e:En)(ec vc kc:AC)(kt:Nat),M0 fu ⟨ac,kt⟩ ou H nm m (.box (cTr t)) ec vc kc->ER H nm e ec->KR H nm m.k kc->
 allT G.p t->gE G e->gFs G m.k->(G.R->m.k.length<=1048576)->m.out.length<=1000->0<=m.steps/\m.steps<=1000000->(t.op=12->∃m',Q0h fu G.fns m t e=.ok m')->(∀m',Q0h fu G.fns m t e=.ok m'->G.R->m'.k.length<=1048576)->
 AFnP Tryz.prog Γ 88 [.one (.ptr (.o 0) 0)] ou (StQ fu ⟨ac,kt⟩ H nm (Q0h fu G.fns m t e)) (StP m (Q0h fu G.fns m t e))
theorem kidU(hΓ:∀g cs,(g,cs)∈Γ->idsL isO cs){fns:List Fun}{hi:Bool}(hf:FnsU fns hi)(hfu:0<=fu/\fu<=1000000)(hmore:MoreU fns hi fu (.sl 2 (fns.map cFun)) Γ):KidP fu (.sl 2 (fns.map cFun)) (GU fns hi) Γ:=by
 intro ou H nm m t e d k ec kc tc0 ec0 vc0 kc0 dc kt h0 he hd hk ht hge hgd hle hn hgk hkb hol hst h12 hnx
 have F:FragU fns hi ⟨t.op,t.n,t.binds,t.kids.map Tr.op,t.alts⟩:=Q0x ht
 have hsh:=g_sh (GUok hf) ht
 have hopk:=g_opN (GUok hf) ht
 have hfc:(FcT.mk (.sl 2 (fns.map cFun)) kt).ids isO:=by show idsS isO _;simp
 show AFnP _ _ _ _ _ (StQ fu _ H nm (kidM fu fns m (.mk t e d) k)) (StP m (kidM fu fns m (.mk t e d) k))
 replace h12:t.op=12->∃m',kidM fu fns m (.mk t e d) k=.ok m':=h12
 replace hnx:∀m',kidM fu fns m (.mk t e d) k=.ok m'->hi=true->m'.k.length<=1048576:=hnx
 by_cases hlt:d.length < opdN t
 ·obtain⟨s,hs⟩:=Q01 (Nat.lt_of_lt_of_le hlt hopk)
  exact Qcq (fns:=fns) hΓ h0 hfc he hd hk hlt hs
 have hl:d.length=opdN t:=by omega
 have hnl:¬(Fm.mk t e d).done.length < opdN (Fm.mk t e d).t:=hlt
 have hkm:∀{x:Except Int Ms},x=kidM fu fns m (.mk t e d) k->AFnP Tryz.prog Γ 86 [.one (.ptr (.o 0) 0),.one (.box [.box (cTr t),ec,.sl 1 dc,kc])] ou (StQ fu ⟨.sl 2 (fns.map cFun),kt⟩ H nm x) (StP m x)->AFnP Tryz.prog Γ 86 [.one (.ptr (.o 0) 0),.one (.box [.box (cTr t),ec,.sl 1 dc,kc])] ou (StQ fu ⟨.sl 2 (fns.map cFun),kt⟩ H nm (kidM fu fns m (.mk t e d) k)) (StP m (kidM fu fns m (.mk t e d) k)):=fun h1 h2=>by rw[←h1];exact h2
 have hwr:∀v∈d,wdV v/\rowV v:=fun v hv=>by
  have hg:=Q1h.1 hgd v hv
  refine⟨fun n hn=>by rw[hn]at hg;exact hg,fun ls fs hr=>?_⟩
  rw[hr]at hg
  exact⟨hg.1,Qf8 hg.2.1⟩
 have hops:=Qez hsh
 obtain⟨o,n,b,ks,al⟩:=t
 simp only[Tr.op,Tr.n,Tr.binds,Tr.kids,Tr.alts]at F hsh h12 hops
 by_cases h1213:o=12∨o=13
 · -- an operation, a handler
  have hhi:hi=true:=F.op h1213
  have hl1:d.length=1:=by rw[hl];exact if_pos (show o=4∨o=7∨o=13∨o=12 by omega)
  obtain⟨m',hx⟩:∃m',kidM fu fns m (.mk (.mk o n b ks al) e d) k=.ok m':=by
   rcases h1213 with h|h
   ·exact h12 h
   ·have hx:kidM fu fns m (.mk (.mk o n b ks al) e d) k=.ok { m with c:=.ev (ks.getD 1 default) (.bind ((al.getD 0 ⟨0,[]⟩).binds.getD 0 0) (d.getD 0 .nil) e),k:=k }:=by
     unfold kidM
     rw[if_neg hnl]
     rw[if_neg (show ¬(Fm.mk (Tr.mk o n b ks al) e d).t.op=4 from (by omega:¬o=4)),if_neg (show ¬(Fm.mk (Tr.mk o n b ks al) e d).t.op=7 from (by omega:¬o=7)),if_neg (show ¬(Fm.mk (Tr.mk o n b ks al) e d).t.op=3 from (by omega:¬o=3)),if_pos (show (Fm.mk (Tr.mk o n b ks al) e d).t.op=13 from h)]
     rfl
    exact⟨_,hx⟩
  refine hkm hx.symm (AFn.toP ?_)
  exact hmore.kid hhi ou H nm m m' _ e d k ec kc tc0 ec0 vc0 kc0 dc kt h0 he hd hk ht hgk (hkb hhi) hl1 h1213 hx
 by_cases h3:o=3
 ·subst h3
  have hopn:opdN (.mk 3 n b ks al)=ks.length:=rfl
  have hkl:=hsh.app.1
  rw[hopn]at hl
  match d,hd,hl with
  |[],_,hl=>simp at hl;omega
  |v0::ds,hd,hl=>
   obtain⟨c0,dcs,rfl,hv0,hds⟩:=hd.consE
   have hke:callM fns { m with k:=k } v0 ds=kidM fu fns m (.mk (.mk 3 n b ks al) e (v0::ds)) k:=by
    unfold kidM;rw[if_neg hnl];rfl
   rw[←hke]at hnx ⊢
   refine Qih hΓ h0 hfc he hv0 hds hk (by simpa using hl) rfl (fun ou' h0'=>?_)
   cases v0 with
   |clo t' e'=>
    obtain⟨g1,g2,g3⟩:=hgd.1
    have F':FragU fns hi ⟨t'.op,t'.n,t'.binds,t'.kids.map Tr.op,t'.alts⟩:=Q0x g2
    have hsh':=g_sh (GUok hf) g2
    rw[g1]at hsh'
    obtain⟨s,hs⟩:=Q01 (l:=t'.kids) (i:=0) (by have:=hsh'.lam.1;omega)
    cases hv0 with
    |clo _ _ c he'=>exact Qiw hΓ h0' hfc hk he' hds hs F'.bl
    |cloP _ _ c q hq he'=>exact Qh4 hΓ h0' hfc hk hq he' hds hs F'.bl
   |cap g s=>
    obtain⟨⟨hg0,hg1⟩,_⟩:=hgd.1
    obtain⟨i,rfl⟩:∃i:Nat,g=(i:Int):=⟨g.toNat,by omega⟩
    have hi2:i < fns.length:=by have:((i:Int)) < ((GU fns hi).fns.length:Int):=hg1;simpa[GU]using this
    obtain⟨f,hfi⟩:=Q01 hi2
    have hgd':fns.getD (i:Int).toNat ⟨[],default⟩=f:=by rw[Int.toNat_natCast,List.getD_eq_getElem?_getD,hfi];rfl
    simp only[callM,hgd']
    by_cases hpl:f.params.length=ds.length+1
    ·rw[if_pos hpl]
     exact AFn.toP (Qd6 hΓ h0' hk hv0 hfi hds hpl (hf.p f (List.mem_of_getElem? hfi)))
    ·rw[if_neg hpl]
     exact Qe9 hΓ h0' hv0 hfi hds hpl (by have:=F.kl;simp at this;simp at hl;omega) rfl
   |res fs=>
    have hR:hi=true:=hgd.1.1
    by_cases h1:ds.length=1
    ·obtain⟨a,rfl⟩:=list1 h1
     obtain⟨c,ds2,rfl,hva,hnil⟩:=hds.consE
     have hz:=hnil.nilE
     subst hz
     exact AFn.toP (hmore.res hR ou' H nm m k fs kc tc0 ec0 vc0 kt _ a c h0' hk hv0 hva hgd.1.2 (hnx _ rfl hR))
    ·exact Qh3 hΓ h0' hv0 hds (by simp) (by simp) (.inr h1)
   |_=>exact Qh3 hΓ h0' hv0 hds (by simp) (by simp) (.inl (by simp))
 by_cases h4:o=4
 ·subst h4
  obtain⟨v,rfl⟩:=list1 (l:=d) hl
  obtain⟨hk2,hb1,_⟩:=hsh.lett
  obtain⟨id,rfl⟩:=list1 hb1
  obtain⟨s0,s1,rfl⟩:=list2 hk2
  exact kid_let (fns:=fns) (t:=.mk 4 n [id] [s0,s1] al) (s:=s1) (id:=id) hΓ h0 hfc he hd hk (v:=v) rfl rfl rfl rfl
 by_cases h7:o=7
 ·subst h7
  obtain⟨v,rfl⟩:=list1 (l:=d) hl
  have hke:Q2c { m with k:=k } (.mk 7 n b ks al) e v=kidM fu fns m (.mk (.mk 7 n b ks al) e [v]) k:=by
   unfold kidM;rw[if_neg hnl];rfl
  refine hkm hke (Qg5 hΓ h0 hfc he hd hk rfl rfl fun ou' h0'=>?_)
  exact Qh2 (t:=.mk 7 n b ks al) hΓ h0' hfc he hd hk (v:=v) rfl hsh.case.1 F.al F.ab kc hk.ids
 by_cases h14:o=14
 ·subst h14
  obtain⟨h1,h2⟩:=F.cl (.inl rfl)
  obtain⟨i,rfl⟩:∃i:Nat,n=(i:Int):=⟨n.toNat,by simp only at h1;omega⟩
  have hi2:i < fns.length:=by simpa using h2
  obtain⟨f,hfi⟩:=Q01 hi2
  have hgd':fns.getD (i:Int).toNat ⟨[],default⟩=f:=by rw[Int.toNat_natCast,List.getD_eq_getElem?_getD,hfi];rfl
  have har:=F.ar rfl
  simp only[hgd',List.length_map]at har
  have hdl:d.length=ks.length:=hl
  have hke:Except.ok { m with c:=.ev f.body (allE .nil f.params d),k:=k }=kidM fu fns m (.mk (.mk 14 (i:Int) b ks al) e d) k:=by
   unfold kidM;rw[if_neg hnl];rw[←hgd'];rfl
  exact hkm hke (AFn.toP (kid_fn (t:=.mk 14 (i:Int) b ks al) hΓ h0 he hd hk hdl rfl rfl hfi (by omega) (hf.p f (List.mem_of_getElem? hfi))))
 by_cases h15:o=15
 ·subst h15
  have hke:Except.ok { m with c:=.rt (.cap n d),k:=k }=kidM fu fns m (.mk (.mk 15 n b ks al) e d) k:=by
   unfold kidM;rw[if_neg hnl];rfl
  exact hkm hke (AFn.toP (Qcs hΓ h0 hfc he hd hk hl rfl))
 by_cases h16:o=16
 ·subst h16
  have hn0:0<=n:=F.sl rfl
  obtain⟨i,rfl⟩:∃i:Nat,n=(i:Int):=⟨n.toNat,by omega⟩
  have hopn:opdN (.mk 16 (i:Int) b ks al)=ks.length:=rfl
  have hk1:ks.length=1:=(hsh.one (.inr (.inr rfl))).1
  obtain⟨v,rfl⟩:=list1 (l:=d) (by omega)
  obtain⟨c,dd,rfl,hv,hdd⟩:=hd.consE
  have hz:=hdd.nilE
  subst hz
  have hke:(match (generalizing:=false) v with
   |.cap _ slots=>if (i:Int) < slots.length then (Except.ok { m with c:=.rt (slots.getD (i:Int).toNat .nil),k:=k }:Except Int Ms)else .error 5
   |_=>.error 5)=kidM fu fns m (.mk (.mk 16 (i:Int) b ks al) e [v]) k:=by
   unfold kidM;rw[if_neg hnl];rfl
  refine hkm hke ?_
  rcases hv.isCap with ⟨g,s,l,rfl,rfl,hsl⟩|⟨hvn,hno⟩
  ·have hsll:=hsl.len
   simp only
   by_cases hlt2:(i:Int) < s.length
   ·rw[if_pos hlt2]
    obtain⟨y,hy⟩:=Q01 (show i < s.length by omega)
    have hgy:s.getD (i:Int).toNat .nil=y:=by rw[Int.toNat_natCast,List.getD_eq_getElem?_getD,hy];rfl
    rw[hgy]
    exact AFn.toP (Qco (t:=.mk 16 (i:Int) b ks al) hΓ h0 hfc he hv hk hk1 rfl rfl hy)
   ·rw[if_neg hlt2]
    exact Q80 (t:=.mk 16 (i:Int) b ks al) hΓ h0 hfc he hv.ids hk hk1 rfl rfl (.inr ⟨g,l,rfl,by omega⟩) rfl
  ·refine Q80 (t:=.mk 16 (i:Int) b ks al) hΓ h0 hfc he hv.ids hk hk1 rfl rfl (.inl hno) ?_
   cases v <;> first|rfl|exact absurd rfl (hvn _ _)
 · -- a plain node
  have hpo:o=6∨o=8∨o=9∨o=10∨o=11:=by
   unfold nLf at hn
   simp only[Tr.op]at hn
   omega
  have hdl:d.length=ks.length:=by rw[hl];exact if_neg (show ¬(o=4∨o=7∨o=13∨o=12) by omega)
  have hke:(Q0o fu { m with k:=k } (.mk o n b ks al) d).map (fun (m1,v)=>{ m1 with c:=.rt v,k:=k })=kidM fu fns m (.mk (.mk o n b ks al) e d) k:=by
   unfold kidM
   rw[if_neg hnl]
   rw[if_neg (show ¬(Fm.mk (Tr.mk o n b ks al) e d).t.op=4 from h4),if_neg (show ¬(Fm.mk (Tr.mk o n b ks al) e d).t.op=7 from h7),if_neg (show ¬(Fm.mk (Tr.mk o n b ks al) e d).t.op=3 from h3),if_neg (show ¬(Fm.mk (Tr.mk o n b ks al) e d).t.op=13 from (by omega:¬o=13)),if_neg (show ¬(Fm.mk (Tr.mk o n b ks al) e d).t.op=12 from (by omega:¬o=12)),if_neg (show ¬(Fm.mk (Tr.mk o n b ks al) e d).t.op=14 from h14),if_neg (show ¬(Fm.mk (Tr.mk o n b ks al) e d).t.op=15 from h15),if_neg (show ¬(Fm.mk (Tr.mk o n b ks al) e d).t.op=16 from h16)]
   show _=(Q0o fu { m with k:=k } (.mk o n b ks al) d).map (fun (m',v)=>{ m' with c:=.rt v })
   cases hp:Q0o fu { m with k:=k } (.mk o n b ks al) d with
   |error c=>rfl
   |ok mv=>
    obtain⟨m1,v⟩:=mv
    have hpk:=(Q3s hp).2.2
    cases m1
    simp only at hpk
    rw[hpk];rfl
  refine hkm hke (Qdz hΓ h0 hfc he hd hk hl (by simp only[Tr.op];omega) fun ou' h0'=>?_)
  refine AFnP.mono (Qdo (m:={ m with k:=k }) (t:=.mk o n b ks al) hΓ h0'.k hfc hst hfu hol hd hpo hsh hdl hwr) (fun r ou2 hq=>?_) fun ps ou2 hq=>?_
  ·exact hq
  ·obtain⟨c,h1,h2,h3⟩:=hq
   exact⟨c,h1,h2,h3.k⟩
theorem startU(hΓ:∀g cs,(g,cs)∈Γ->idsL isO cs){fns:List Fun}{hi:Bool}(hf:FnsU fns hi)(hk:KidP fu (.sl 2 (fns.map cFun)) (GU fns hi) Γ):StartP fu (.sl 2 (fns.map cFun)) (GU fns hi) Γ:=by
 intro ou H nm m t e ec vc kc kt h0 he hkr ht hge hgk hkb hol hst h12 hnx
 have F:FragU fns hi ⟨t.op,t.n,t.binds,t.kids.map Tr.op,t.alts⟩:=Q0x ht
 have hsh:=g_sh (GUok hf) ht
 have hfc:(FcT.mk (.sl 2 (fns.map cFun)) kt).ids isO:=by show idsS isO _;simp
 show AFnP _ _ _ _ _ (StQ fu _ H nm (Q0h fu fns m t e)) (StP m (Q0h fu fns m t e))
 replace h12:t.op=12->∃m',Q0h fu fns m t e=.ok m':=h12
 replace hnx:∀m',Q0h fu fns m t e=.ok m'->hi=true->m'.k.length<=1048576:=hnx
 by_cases e0:t.op=0
 ·have hx:Q0h fu fns m t e=.ok { m with c:=.rt (findE t.n e) }:=by unfold Q0h;rw[if_pos e0]
  rw[hx];exact AFn.toP (Q9s hΓ h0 hfc he hkr e0)
 by_cases e1:t.op=1
 ·have hx:Q0h fu fns m t e=.ok { m with c:=.rt (.word t.n) }:=by unfold Q0h;rw[if_neg e0,if_pos e1]
  rw[hx];exact AFn.toP (Q9t hΓ h0 hfc hkr e1)
 by_cases e2:t.op=2
 ·have hx:Q0h fu fns m t e=.ok { m with c:=.rt (.clo t e) }:=by unfold Q0h;rw[if_neg e0,if_neg e1,if_pos e2]
  rw[hx];exact AFn.toP (Qex hΓ h0 hfc he hkr e2)
 by_cases e17:t.op=17
 ·exact Qdg hΓ h0 e17 (by unfold Q0h;rw[if_neg e0,if_neg e1,if_neg e2,if_pos e17])
 by_cases e5:t.op=5
 ·rw[e5]at hsh
  have hx:Q0h fu fns m t e=.ok { m with c:=.ev (t.kids.getD t.binds.length default) (.recs t e) }:=by unfold Q0h;rw[if_neg e0,if_neg e1,if_neg e2,if_neg e17,if_pos e5]
  rw[hx];exact AFn.toP (Qev hΓ h0 hfc he hkr e5 hsh.recs.1 F.bl)
 ·have hx:Q0h fu fns m t e=kidM fu fns m (.mk t e []) m.k:=by unfold Q0h;rw[if_neg e0,if_neg e1,if_neg e2,if_neg e17,if_neg e5]
  rw[hx]at h12 hnx ⊢
  have hnl:nLf t.op:=fun h=>by rcases h with h|h|h|h|h <;> contradiction
  exact Qdj hΓ h0 he hkr hnl (hk ou H nm m t e [] m.k ec kc _ _ _ _ [] kt h0 he .nil hkr ht hge trivial (Nat.zero_le _) hnl hgk hkb hol hst h12 hnx)
end
end Go.Proofs.YtkgjldchcbfpnaaGreatDoor
namespace Go.CoreX
theorem Qfh{fu:Int}{m m':Ms}{n:Int}{l:List Vl}{v:Vl}(h:primM fu m n l=.ok (m',v)):m.out.length<=1000->m'.out.length<=1000:=by
 unfold primM at h
 repeat' split at h
 all_goals try (simp only[bind,Except.bind,pure,Except.pure]at h;repeat' split at h)
 all_goals try (cases h;done)
 all_goals try (cases h;exact id)
 ·rename_i hne
  cases h;intro h1;simp;omega
 ·unfold Q2t at h
  repeat' split at h
  all_goals try (cases h;done)
  cases h;exact id
 ·unfold Q2d at h
  simp only[bind,Except.bind,pure,Except.pure]at h
  repeat' split at h
  all_goals try (cases h;done)
  all_goals (cases h;exact id)
theorem Qdn{fu:Int}{m m':Ms}{t:Tr}{l:List Vl}{v:Vl}(h:Q0o fu m t l=.ok (m',v)):m.out.length<=1000->m'.out.length<=1000:=by
 unfold Q0o at h
 repeat' split at h
 ·cases h;exact id
 ·exact Qfh h
 ·cases h;exact id
 ·simp only[bind,Except.bind,pure,Except.pure]at h
  repeat' split at h
  all_goals try (cases h;done)
  all_goals (cases h;exact id)
 ·simp only[bind,Except.bind,pure,Except.pure]at h
  repeat' split at h
  all_goals try (cases h;done)
  all_goals (cases h;exact id)
theorem Qcp{fu:Int}{fns:List Fun}{m m':Ms}{f:Fm}{k:List Fm}(h:kidM fu fns m f k=.ok m'):m.out.length<=1000->m'.out.length<=1000:=by
 unfold kidM at h
 repeat' split at h
 all_goals try (cases h;done)
 all_goals try (cases h;exact id)
 ·unfold Q2c at h
  split at h
  ·cases hc:Q19 _ _ f.e f.t.kids 0 f.t.alts <;> rw[hc]at h <;> cases h
   exact id
  ·cases h
 ·unfold callM at h
  repeat' split at h
  all_goals try (cases h;done)
  all_goals (cases h;exact id)
 ·rw[Q4k _ _ h];exact id
 ·cases hp:Q0o fu { m with k:=k } f.t f.done with
  |error c=>rw[hp]at h;cases h
  |ok mv=>
   rw[hp]at h;cases h
   obtain⟨m2,v2⟩:=mv
   exact Qdn (m:={ m with k:=k }) (m':=m2) hp
theorem Qdh{fu:Int}{fns:List Fun}{m m':Ms}{t:Tr}{e:En}(h:Q0h fu fns m t e=.ok m'):m.out.length<=1000->m'.out.length<=1000:=by
 unfold Q0h at h
 repeat' split at h
 all_goals try (cases h;done)
 all_goals try (cases h;exact id)
 exact Qcp h
theorem Q7s{fu:Int}{fns:List Fun}{m m':Ms}(h:Q0a fu fns m=.next m'):m.out.length<=1000->m'.out.length<=1000:=by
 unfold Q0a at h
 repeat' split at h
 all_goals try (cases h;done)
 ·rename_i hk;cases h;exact Qcp hk
 ·rename_i hk;cases h;exact Qdh (m:={ m with steps:=m.steps+1 }) hk

structure RunInv (fu:Int)(fns:List Fun)(R:Prop)(I:Ms->Prop):Prop where
 st:∀m m',I m->Q0a fu fns m=.next m'->I m'
 fr:R->∀m,I m->m.k.length<=1048576
 pf:∀m,I m->∀v f k,m.c=.rt v->m.k=f::k->f.t.op=12->∃m',kidM fu fns m (.mk f.t f.e (f.done++[v])) k=.ok m'
end Go.CoreX
namespace Go.Proofs.YtkgjldchcbfpnaaGreatDoor
open Go Go.Abs Go.CoreX
variable {Γ:List (Nat×List AC)}
section
variable {fu:Int}{ac:AC}{G:GP}
def RunQ (fu:Int)(ac:AC)(kt0:Nat)(r:Rd):FV->Outer->Prop:=fun b ou'=>match r with
 |.done mf vf=>b=.one (.lit (.bool true))/\mf.c=.rt vf/\mf.k=[]/\∃H' nm',MR fu ⟨ac,kt0⟩ ou' H' nm' mf
 |.fuel=>b=.one (.lit (.bool false))/\∃m H' nm',MR fu ⟨ac,kt0⟩ ou' H' nm' m
 |_=>False
def RunP (r:Rd):List PanicEntry->Outer->Prop:=fun ps ou'=>∃c m,r=.trap c m/\ps=trapE c/\PR ou' m
theorem Qhx(hΓ:∀g cs,(g,cs)∈Γ->idsL isO cs)(hac:ac.ids isO)(hG:GPok G)(hopn:∀t,allT G.p t->opdN t<=1048576)(hkid:KidP fu ac G Γ)(hstart:StartP fu ac G Γ){I:Ms->Prop}(hI:RunInv fu G.fns G.R I){ou:Outer}{H:Hm}{nm:Nm2}{m0:Ms}{kt0:Nat}(h0:MR fu ⟨ac,kt0⟩ ou H nm m0)(hg0:gM G m0){g0:Nat}{r0:Rd}(hgo:goX fu G.fns g0 m0=some r0)(hi0:I m0)(hol0:m0.out.length<=1000)(hfu:0<=fu/\fu<=1000000)(hst0:0<=m0.steps/\m0.steps<=fu):
  AFnP Tryz.prog Γ 50 [.one (.ptr (.o 0) 0)] ou (RunQ fu ac kt0 r0) (RunP r0):=by
 refine AFnP.walk 70 tabOk hΓ Tryz.func50 rfl (by kernel_rfl) rfl rfl fun hou=>?_
 refine zA ?_
 refine ACode.loopR hΓ (α:=Outer×Hm×Nm2×Ms) (fun a=>[(0,.one (.ptr (.o 0) 0))]) (fun a=>⟨0,[],a.1⟩) (fun g a=>MR fu ⟨ac,kt0⟩ a.1 a.2.1 a.2.2.1 a.2.2.2/\gM G a.2.2.2/\goX fu G.fns g a.2.2.2=some r0/\(0<=a.2.2.2.steps/\a.2.2.2.steps<=fu)/\I a.2.2.2/\a.2.2.2.out.length<=1000)
  (a0:=(ou,H,nm,m0)) (ρ:=_root_.id) ⟨h0,hg0,hgo,hst0,hi0,hol0⟩ (LessR.of rfl zFW (by simp) zLO rfl rfl hou) fun g a ha=>?_
 obtain⟨ou1,H1,nm1,m⟩:=a
 obtain⟨hM,hgm,hgo,hst,hIm,holm⟩:=ha
 dsimp only at hM hgm hgo hst hIm holm ⊢
 clear hou h0 hg0 hst0 hi0 hol0
 obtain⟨kt,tc,ec,vc,kc,hCR,hKR,h0⟩:=hM.ex
 have hou:=h0.w.ok
 obtain⟨g,rfl⟩:∃g',g=g'+1:=by
  cases g with
  |zero=>cases hgo
  |succ g=>exact⟨g,rfl⟩
 simp only[goX]at hgo
 have hkl:G.R->m.k.length<=1048576:=fun hR=>hI.fr hR m hIm
 have hIn:∀m1,Q0a fu G.fns m=.next m1->I m1:=fun m1 h1=>hI.st m m1 hIm h1
 have hpf:=hI.pf m hIm
 have hnle:∀m1,Q0a fu G.fns m=.next m1->m1.steps<=fu:=fun m1 h1=>(Q4j h1 hst.2).1
 have hnol:∀m1,Q0a fu G.fns m=.next m1->m1.out.length<=1000:=fun m1 h1=>Q7s h1 holm
 have hids:=h0.ids
 have hoX:=h0.ouX
 have hki:=hKR.ids
 have hw:=h0.w
 rw[hoX]at hw hou ⊢
 obtain⟨mc,mk,mo,ms,mh⟩:=m
 dsimp only at hgo hst hw hou hids hki holm h0 hkl hIn hpf hnle hnol ⊢
 cases hCR with
 |ev t e ec vc he=>
  have hei:=he.ids
  by_cases hsf:ms=fu
  ·have hr:Q0a fu G.fns ⟨.ev t e,mk,mo,ms,mh⟩=.fuel:=by simp[Q0a,hsf]
   rw[hr]at hgo
   cases hgo
   refine zA ?_
   refine zS (AStep.neNilBox Tryz.underlying65 rfl rfl rfl) ?_
   refine zM ?_
   refine zS (AStep.eqNilBox Tryz.underlying65 rfl rfl rfl) ?_
   refine zA ?_
   refine ACode.drawX tabOk 8 [] follows (by kernel_rfl) rfl rfl rfl rfl trivial ?_
   refine zA ?_
   refine ACode.cond rfl (fun _=>?_) (fun hb=>absurd hsf (by simpa using hb))
   refine zA ?_
   refine AFn.fin' rfl (WkF.ofEq rfl) (by simp) hou ⟨rfl,⟨.ev t e,mk,mo,ms,mh⟩,H1,nm1,⟨⟨kt,_,ec,vc,kc,.ev t e ec vc he,hKR,?_⟩⟩⟩
   rw[←hoX];exact h0
  rw[Q38 rfl hsf]at hgo
  refine zA ?_
  refine zS (AStep.neNilBox Tryz.underlying65 rfl rfl rfl) ?_
  refine zM ?_
  refine zS (AStep.eqNilBox Tryz.underlying65 rfl rfl rfl) ?_
  refine zA ?_
  refine ACode.drawX tabOk 8 [] follows (by kernel_rfl) rfl rfl rfl rfl trivial ?_
  refine zA ?_
  refine ACode.cond rfl (fun hb=>absurd (by simpa using hb) hsf) (fun _=>?_)
  refine zM ?_
  have hN:M0 fu ⟨ac,kt⟩ (St.set ⟨0,[],ouX (mC (.box (cTr t)) ec vc kc mo ms fu ⟨ac,kt⟩) mo.length ou1⟩ (.o 0) (.cells (mC (.box (cTr t)) ec vc kc mo (ms+1) fu ⟨ac,kt⟩))).ou H1 nm1 ⟨.ev t e,mk,mo,ms+1,mh⟩ (.box (cTr t)) ec vc kc:=
   ⟨hids,rfl,hw.put (mc':=mC (.box (cTr t)) ec vc kc mo (ms+1) fu ⟨ac,kt⟩) (by simp[mC,hids,hei,hki,hac]) rfl rfl (fun _=>rfl)⟩
  have hrn:∀m',Q0h fu G.fns ⟨.ev t e,mk,mo,ms+1,mh⟩ t e=.ok m'->Q0a fu G.fns ⟨.ev t e,mk,mo,ms,mh⟩=.next m':=fun m' hx=>by rw[Q38 rfl hsf,hx];rfl
  have h12:t.op=12->∃m',Q0h fu G.fns ⟨.ev t e,mk,mo,ms+1,mh⟩ t e=.ok m':=fun h=>by
   have ho1:opdN t=1:=by unfold opdN;rw[if_pos (by omega)]
   unfold Q0h
   rw[if_neg (by omega),if_neg (by omega),if_neg (by omega),if_neg (by omega),if_neg (by omega)]
   unfold kidM
   rw[if_pos (show (Fm.mk t e []).done.length < opdN (Fm.mk t e []).t by simp[ho1])]
   exact⟨_,rfl⟩
  refine AOps.callP hΓ (hstart _ H1 nm1 _ t e ec vc kc kt hN he hKR hgm.c.1 hgm.c.2 hgm.k hkl holm ⟨by dsimp only;omega,by dsimp only;omega⟩ h12 fun m' hx hR=>hI.fr hR m' (hIn m' (hrn m' hx))) rfl rfl rfl rfl rfl rfl hN.w.ok ⟨trivial,trivial⟩ (fun ps ou2 hq how=>⟨how,?_⟩) fun r ou2 hq _ how=>?_
  ·obtain⟨c,hx,h1,h2⟩:=hq
   rw[hx]at hgo
   cases hgo
   exact⟨c,_,rfl,h1,h2⟩
  obtain⟨rfl,H',nm',m',hx,hmo,hM2⟩:=hq
  have hgm':gM G m':=Q4z hG hgm (hrn m' hx)
  have haf:=Q66 (fu:=fu) (fns:=G.fns) hx
  simp only at haf
  simp only[hx,rdOf]at hgo
  refine zA ?_
  exact cInv ⟨g,(ou2,H',nm',m'),_root_.id,by omega,⟨⟨hM2.ex⟩,hgm',hgo,⟨by dsimp only;omega,hnle m' (hrn m' hx)⟩,hIn m' (hrn m' hx),hnol m' (hrn m' hx)⟩,LessR.of rfl zFW (by simp) zLO rfl rfl how⟩
 |rt v ec vc hv=>
  have hvi:=hv.ids
  cases hKR with
  |nil=>
   have hr:Q0a fu G.fns ⟨.rt v,[],mo,ms,mh⟩=.done ⟨.rt v,[],mo,ms,mh⟩ v:=by simp[Q0a]
   rw[hr]at hgo
   cases hgo
   refine zA ?_
   refine zS (AStep.neNil0 Tryz.underlying65 rfl rfl rfl) ?_
   refine zM ?_
   refine zS (AStep.neNil0 Tryz.underlying69 rfl rfl rfl) ?_
   refine zM ?_
   refine AFn.fin' rfl (WkF.ofEq rfl) (by simp) hou ⟨rfl,rfl,rfl,H1,nm1,⟨⟨kt,nilPE,ec,vc,nilPE,.rt _ ec vc hv,.nil,?_⟩⟩⟩
   rw[←hoX];exact h0
  |cons t e d k ec2 dc kc2 he hd hk=>
   have hei:=he.ids
   have hdi:=hd.ids
   have hk2i:=hk.ids
   have hgf:=hgm.k
   obtain⟨⟨g1,g2,g3,g4,gn⟩,g5⟩:=hgf
   have hdl:=hd.len
   rw[Q47 (f:=.mk t e d) (k:=k) rfl rfl]at hgo
   have hrn:∀m',kidM fu G.fns ⟨.rt v,.mk t e d::k,mo,ms,mh⟩ (.mk t e (d++[v])) k=.ok m'->Q0a fu G.fns ⟨.rt v,.mk t e d::k,mo,ms,mh⟩=.next m':=fun m' hx=>by rw[Q47 (f:=.mk t e d) (k:=k) rfl rfl];simp only[Fm.t_mk,Fm.e_mk,Fm.done_mk,hx];rfl
   have hopt:=hopn t g1
   have hD:VsR H1 nm1 (d++[v]) (dc++[[vc]]):=hd.snoc hv
   have hDi:=hD.ids
   have hcl:=Qai hΓ dc (by omega) hdi hd.ones
   refine zA ?_
   refine zS (AStep.neNil0 Tryz.underlying65 rfl rfl rfl) ?_
   refine zM ?_
   refine zS (AStep.neNilBox Tryz.underlying69 rfl rfl rfl) ?_
   refine zM ?_
   refine zS (AStep.eqNil0 Tryz.underlying65 rfl rfl rfl) ?_
   refine zA ?_
   have hkd:=hkid (ouX (mC nilPE ec vc (.box [.box (cTr t),ec2,.sl 1 dc,kc2]) mo ms fu ⟨ac,kt⟩) mo.length ou1) H1 nm1 ⟨.rt v,.mk t e d::k,mo,ms,mh⟩ t e (d++[v]) k ec2 kc2 nilPE ec vc (.box [.box (cTr t),ec2,.sl 1 dc,kc2]) (dc++[[vc]]) kt (by rw[←hoX];exact h0) he hD hk g1 g2 (Q9a g3 ⟨hgm.c,trivial⟩) (by simp;omega) gn g5 (fun hR=>by have:=hkl hR;simp only[List.length_cons]at this;omega) holm ⟨hst.1,by dsimp only;omega⟩ (fun h12=>hpf v (.mk t e d) k rfl rfl h12) fun m' hx hR=>hI.fr hR m' (hIn m' (hrn m' hx))
   refine ACode.drawC2 tabOk 26 [13,19,24,25] [(18,.one (.sl 1 [[vc]]))] (fun vs σ=>match vs with
    |[]=>σ=⟨0,[],ouX (mC nilPE ec vc (.box [.box (cTr t),ec2,.sl 1 dc,kc2]) mo ms fu ⟨ac,kt⟩) mo.length ou1⟩
    |[a]=>∃ou2,Qbs dc (ouX (mC nilPE ec vc (.box [.box (cTr t),ec2,.sl 1 dc,kc2]) mo ms fu ⟨ac,kt⟩) mo.length ou1) a (ouX (mC nilPE ec vc (.box [.box (cTr t),ec2,.sl 1 dc,kc2]) mo ms fu ⟨ac,kt⟩) mo.length ou2)/\σ=⟨0,[],ouX (mC nilPE ec vc (.box [.box (cTr t),ec2,.sl 1 dc,kc2]) mo ms fu ⟨ac,kt⟩) mo.length ou2⟩
    |[a,b]=>b=.one (.sl 1 (dc++[[vc]]))/\σ=⟨1,[],ouX (mC nilPE ec vc (.box [.box (cTr t),ec2,.sl 1 dc,kc2]) mo ms fu ⟨ac,kt⟩) mo.length ou1⟩
    |[a,b,c]=>b=.one (.sl 1 (dc++[[vc]]))/\c=.agg [.box (cTr t),ec2,.sl 1 (dc++[[vc]]),kc2]/\σ=⟨1,[],ouX (mC nilPE ec vc (.box [.box (cTr t),ec2,.sl 1 dc,kc2]) mo ms fu ⟨ac,kt⟩) mo.length ou1⟩
    |[a,b,c,g]=>b=.one (.sl 1 (dc++[[vc]]))/\c=.agg [.box (cTr t),ec2,.sl 1 (dc++[[vc]]),kc2]/\g=.one (.box [.box (cTr t),ec2,.sl 1 (dc++[[vc]]),kc2])/\σ=⟨1,[],ouX (mC nilPE ec vc (.box [.box (cTr t),ec2,.sl 1 dc,kc2]) mo ms fu ⟨ac,kt⟩) mo.length ou1⟩
    |_=>False) follows (by kernel_rfl) rfl rfl (by decide) (by kernel_rfl) (by kernel_rfl) rfl rfl ?_ ?_ (by decide) ?_ ?_
   ·intro vs σ h
    match vs with
    |[]=>subst h;rfl
    |[_]=>obtain⟨_,_,rfl⟩:=h;rfl
    |[_,_]=>obtain⟨_,rfl⟩:=h;rfl
    |[_,_,_]=>obtain⟨_,_,rfl⟩:=h;rfl
    |[_,_,_,_]=>obtain⟨_,_,_,rfl⟩:=h;rfl
    |_::_::_::_::_::_=>exact h.elim
   ·intro vs σ h
    exact⟨⟨_,rfl,HStep.auto tabOk rfl⟩,trivial⟩
   ·intro vs σ h i o hi ho
    match vs with
    |[]=>
     subst h;cases hi;cases ho
     refine⟨rfl,.inl (.inr ⟨rfl,Q0y.call hΓ rfl rfl rfl rfl ⟨hdi,trivial⟩ hou (hcl _) fun r ou' hq hr ho=>?_⟩)⟩
     have e:ou'=ouX (mC nilPE ec vc (.box [.box (cTr t),ec2,.sl 1 dc,kc2]) mo ms fu ⟨ac,kt⟩) mo.length ou':=Q7u (by
      rcases hq with ⟨_,_,rfl⟩|⟨q,_,_,h1,h2⟩
      ·rfl
      ·rw[h2 0 (by rintro rfl;cases h1)];rfl)
     exact⟨ou',by rw[←e];exact hq,by rw[←e]⟩
    |[a]=>
     obtain⟨ou2,hq,rfl⟩:=h;cases hi;cases ho
     rcases hq with ⟨rfl,rfl,h1⟩|⟨q,rfl,h1,h2,h3⟩
     ·refine⟨rfl,.inl (.inl ⟨_,_,AStep.less (σ2:=⟨1,[],ouX (mC nilPE ec vc (.box [.box (cTr t),ec2,.sl 1 _,kc2]) mo ms fu ⟨ac,kt⟩) mo.length ou1⟩) (AStep.weakV (AStep.append tabOk rfl rfl rfl rfl rfl rfl (Base.nil _ _) (.sl 1 [[vc]]) rfl (by show (0+1) * 16<=140737488355328;decide) (by simp)) (.one (.gsE (by simp)))) rfl ?_,rfl,rfl⟩)⟩
      intro i o hi
      cases i with
      |l j=>cases hi
      |o j=>exact (congrFun h1 j).trans hi
     ·refine⟨rfl,.inl (.inl ⟨_,_,AStep.less (σ2:=⟨1,[],ouX (mC nilPE ec vc (.box [.box (cTr t),ec2,.sl 1 _,kc2]) mo ms fu ⟨ac,kt⟩) mo.length ou1⟩) (AStep.weakV (AStep.append tabOk rfl rfl rfl rfl rfl rfl (Base.gs' _ _ _ _ _ h1 rfl) (.sl 1 [[vc]]) rfl (by simp;show _ * 16<=_;omega) (by simp;omega)) (.one (.gsE (by simp)))) rfl ?_,rfl,rfl⟩)⟩
      intro i o hi
      cases i with
      |l j=>cases hi
      |o j=>
       have hjq:j≠q:=by rintro rfl;have h5:=hi;simp only[St.get]at h5;rw[h2]at h5;cases h5
       have h4:=h3 j hjq
       show (bif Nat.beq j q then some AObj.dead else _)=some o
       rw[Q08 hjq]
       exact h4.trans hi
    |[_,_]=>obtain⟨rfl,rfl⟩:=h;cases hi;cases ho;exact⟨rfl,.inl (.inl ⟨_,_,AStep.ofOp tabOk rfl,rfl,rfl,rfl⟩)⟩
    |[_,_,_]=>obtain⟨rfl,rfl,rfl⟩:=h;cases hi;cases ho;exact⟨rfl,.inl (.inl ⟨_,_,AStep.boxI rfl rfl,rfl,rfl,rfl,rfl⟩)⟩
    |_::_::_::_::_=>cases hi
   ·intro vs σ hl h
    match vs with
    |[a,_,_,_]=>
     obtain⟨rfl,rfl,rfl,rfl⟩:=h
     refine AOps.callP hΓ hkd rfl rfl rfl rfl rfl rfl hou ⟨trivial,⟨by simp,hei,hDi,hk2i,trivial⟩,trivial⟩ (fun ps ou2 hq how=>⟨how,?_⟩) fun r ou2 hq _ how=>?_
     ·obtain⟨c,hx,h1,h2⟩:=hq
      simp only[Fm.t_mk,Fm.e_mk,Fm.done_mk,hx,rdOf]at hgo
      cases hgo
      exact⟨c,_,rfl,h1,h2⟩
     obtain⟨rfl,H',nm',m',hx,hmo,hM2⟩:=hq
     have hgm':gM G m':=Q4z hG hgm (hrn m' hx)
     have haf:=(Q2o hx d v (.inl rfl)).ge
     simp only at haf
     simp only[Fm.t_mk,Fm.e_mk,Fm.done_mk,hx,rdOf]at hgo
     refine zA ?_
     exact cInv ⟨g,(ou2,H',nm',m'),_root_.id,by omega,⟨⟨hM2.ex⟩,hgm',hgo,⟨by dsimp only;omega,hnle m' (hrn m' hx)⟩,hIn m' (hrn m' hx),hnol m' (hrn m' hx)⟩,LessR.of rfl zFW (by simp) zLO rfl rfl how⟩
    |[]|[_]|[_,_]|[_,_,_]=>cases hl
    |_::_::_::_::_::_=>exact h.elim
end
end Go.Proofs.YtkgjldchcbfpnaaGreatDoor
namespace Go.Abs
theorem Q5x{T:Tab}{fr:Fr}{σ:St}{a t:Nat}{ti:TI}{i:Id}{off:Nat}{cs:List AC}{x:FV}(ht:Tab.get t T=some ti)(hb:(ti.agg||Nat.beq ti.size 1)=true)(hf:Fr.get a fr=some (.one (.ptr i off)))(hσ:σ.get i=some (.cells cs))(hle:Nat.ble (off+ti.size) cs.length=true)(hx:Q2u ((cs.drop off).take ti.size) (mkFV ti.agg)=some x):aRes1 T fr σ (.cell a t)=some x:=by
 simp only[aRes1,ht,hb,cond_true,hf,aLoad,hσ,hle,hx]
theorem AStep.assertYesA{E:Env}{o:Oper}{fr:Fr}{σ:St}{t T0:TypeId}{x:Operand}{cs:List AC}(hc:E.P.concrete t=true)(ho:o.op=.typeAssert x T0 t true)(hx:aEval E.Γ fr x=some (.one (.ifc t true cs))):AStep E o fr σ (.tup [.agg cs,.one (.lit (.bool true))]) σ:=by
 refine AStep.quiet fun F w C tmps hi hf=>?_
 obtain⟨d,hd⟩:=Q2m hc
 obtain⟨xs,h1,h2⟩:=Q00 (a:=⟨tmps,E.ds⟩) hi hf hx
 rcases h2 with ⟨_,h2⟩|⟨h2,_⟩
 ·refine⟨.tuple #[.agg xs.toArray,.bool true],?_,[.agg xs.toArray,.bool true],rfl,.agg xs.toArray,[.bool true],rfl,⟨xs,rfl,h1⟩,.bool true,[],rfl,⟨rfl,rfl⟩,rfl⟩
  unfold execOp
  simp[ho,h2,Q4g w hd hc]
 ·cases h2
theorem Qcv{Γ:List (Nat×List AC)}{F:Nat->Prop}{w':World}{C':Ctx}{σ':St}(hΓ:∀g cs,(g,cs)∈Γ->idsL isO cs)(hi':Inv Γ F w' C' σ')(ho:OuOk σ'.ou):Chg isO w' C' w' { C' with nl:=0 }/\Inv Γ F w' { C' with nl:=0 } ⟨0,[],σ'.ou⟩:=by
 have hc:Chg isO w' C' w' { C' with nl:=0 }:=⟨fun _ _=>rfl,fun _ h=>h,fun i hp ho=>⟨by cases i with|l k=>cases hp|o k=>exact ho,rfl,rfl⟩⟩
 refine⟨hc,⟨hi'.base,rfl,fun g cs hm=>RG.chg hc (hΓ g cs hm) (hi'.glob g cs hm),hi'.prot,fun i o h=>?_,fun i j o o' g k1 k2 k3 k4=>?_⟩⟩
 ·cases i with
  |l k=>cases h
  |o k=>
   obtain⟨k1,k2⟩:=hi'.obj (.o k) o h
   exact⟨k1,k2.ctx isO (ho k o h) trivial k1 hc (fun _ h=>h) (fun _ h=>h)⟩
 ·cases i with
  |l k=>cases k1
  |o k=>cases j with
   |l k=>cases k2
   |o k'=>
    have e1:=AObj.block_ctx (o:=o) isO (i:=.o k) trivial (hi'.obj (.o k) o k1).1 hc
    have e2:=AObj.block_ctx (o:=o') isO (i:=.o k') trivial (hi'.obj (.o k') o' k2).1 hc
    exact hi'.inj (.o k) (.o k') o o' g k1 k2 (by rw[←e1];exact k3) (by rw[←e2];exact k4)
end Go.Abs
namespace Go.Proofs.YtkgjldchcbfpnaaGreatDoor
open Go Go.Abs Go.CoreX
variable {Γ:List (Nat×List AC)}
def resF (R:Rs):FV:=.tup [.agg [.sl 1 (R.out.map cI),int R.fin,int R.val],.one (int R.steps),.one (int R.err)]
abbrev whS (ou':Outer):St:=⟨4,[(3,.cells [int 0]),(2,.cells [int 0]),(1,.cells [.lit (.slice none 0 0),int 0,int 0]),(0,.cells [.ptr (.o 0) 0])],ou'⟩
abbrev whO:List AObj:=[.cells [.ptr (.o 0) 0],.cells [.lit (.slice none 0 0),int 0,int 0],.cells [int 0],.cells [int 0]]
def CatQ (k:Nat)(c:Int)(m:Ms)(ou2:Outer):Prop:=OuOk ou2/\∃r0,ou2 (k+1)=some (.cells [r0,int (rsOf (.trap c m)).fin,int (rsOf (.trap c m)).val])/\Wk r0 (.sl 1 ((rsOf (.trap c m)).out.map cI))/\ou2 (k+2)=some (.cells [int (rsOf (.trap c m)).steps])/\ou2 (k+3)=some (.cells [int (rsOf (.trap c m)).err])
theorem Qe7(hΓ:∀g cs,(g,cs)∈Γ->idsL isO cs){ouY:Outer}{k:Nat}{m:Ms}{c:Int}(hou:OuOk ouY)(hk:0 < k)(hm:∃tc ec vc kc fu fc,ouY 0=some (.cells (mC tc ec vc kc m.out m.steps fu fc)))
  (h0:ouY k=some (.cells [.ptr (.o 0) 0])) (h1:ouY (k+1)=some (.cells [.lit (.slice none 0 0),int 0,int 0])) (h2:ouY (k+2)=some (.cells [int 0])) (h3:ouY (k+3)=some (.cells [int 0]))
  (F:Nat->Prop) (w:World) (C:Ctx) (cargs:List Value) (hnl:C.nl=0) (hi:Inv Γ F w C ⟨0,[],ouY⟩) (hr:RFs w C [.one (.ptr (.o k) 0),.one (.ptr (.o (k+1)) 0),.one (.ptr (.o (k+2)) 0),.one (.ptr (.o (k+3)) 0)] cargs):
  CallsD Tryz.prog 49 cargs.toArray (.panicking (trapE c)) w fun e u' w'=>(∃v,e=.returned v)/\settle u'=.returning/\∃C' ou2,Goes F isO w C w' C'/\C'.nl=0/\Inv Γ F w' C' ⟨0,[],ou2⟩/\CatQ k c m ou2:=by
 obtain⟨tc,ec,vc,kc,fu,fc,hm0⟩:=hm
 simp only[RFs]at hr
 obtain⟨p,_,rfl,hp,q,_,rfl,hq,r,_,rfl,hrr,s,_,rfl,hs,rfl⟩:=hr
 generalize hR:(fun (e:Ending) (u':FrameMode) (w':World)=>(∃v,e=.returned v)/\settle u'=.returning/\∃C' ou2,Goes F isO w C w' C'/\C'.nl=0/\Inv Γ F w' C' ⟨0,[],ou2⟩/\CatQ k c m ou2)=RR
 refine callsD_of_wpS Tryz.func49 rfl fun c₀ cs hu=>?_
 apply wpS_seq
 apply wpS_region
 simp[wpOpsS,go_sem,recoverD,hu,Tryz.ntmps49,Exit.thenS,trapE]
 apply wpS_seq
 apply wpS_region
 simp[wpOpsS,go_sem,recoverD,hu,Exit.thenS]
 refine wpS_cond (t:=true) (by simp[Act.eval,Array.replicate]) ?_
 simp only[if_true]
 refine wpS_of_wp ?_
 have hpv:R w C (.ifc tTrap true [int c]) (.iface tTrap (.agg #[.int .i64 c])):=⟨[.int .i64 c],⟨_,_,rfl,⟨rfl,rfl⟩,rfl⟩,.inl ⟨rfl,rfl⟩⟩
 generalize htm:(#[p,q,r,s]++_:Array Value)=tmps
 have hsz:tmps.size=33:=by rw[←htm];simp
 have hfr:FrOk w C 33 [(4,.one (.ifc tTrap true [int c])),(3,.one (.ptr (.o (k+3)) 0)),(2,.one (.ptr (.o (k+2)) 0)),(1,.one (.ptr (.o (k+1)) 0)),(0,.one (.ptr (.o k) 0))] tmps:=by
  refine⟨hsz,fun j x hj=>?_⟩
  rw[←htm]
  match j,hj with
  |0,hj=>cases hj;exact⟨p,by simp,hp⟩
  |1,hj=>cases hj;exact⟨q,by simp,hq⟩
  |2,hj=>cases hj;exact⟨r,by simp,hrr⟩
  |3,hj=>cases hj;exact⟨s,by simp,hs⟩
  |4,hj=>cases hj;exact⟨_,by simp,hpv⟩
  |j+5,hj=>cases hj
 refine wp_mono ((show ACode ⟨Tryz.prog,tab,Γ,33,[]⟩ _ (Q02 ⟨Tryz.prog,tab,Γ,33,[]⟩ (fun fr σ=>CatQ k c m σ.ou) []) [(4,.one (.ifc tTrap true [int c])),(3,.one (.ptr (.o (k+3)) 0)),(2,.one (.ptr (.o (k+2)) 0)),(1,.one (.ptr (.o (k+1)) 0)),(0,.one (.ptr (.o k) 0))] ⟨0,[],ouY⟩from ?_) F w C w C tmps (Goes.refl _ _ _ _) hi hfr) fun e a w' hp=>?_
 ·refine ACode.seq ?_
  refine zA ?_
  refine zS (AStep.assertYesA Q0k rfl rfl) ?_
  refine zA ?_
  refine ACode.drawX tabOk 11 [(0,.one (.ptr (.o 0) 0)),(3,.one (.gs 1 (m.out.map cI) (.o fc.kt))),(7,.one (.ptr (.o 0) 0)),(10,.one (int m.steps))] follows (by kernel_rfl) rfl rfl rfl rfl ?_ ?_
  ·exact⟨⟨_,rfl,zLD rfl rfl h0 rfl⟩,⟨_,rfl,zLD rfl rfl hm0 rfl⟩,⟨_,rfl,zLD rfl rfl h0 rfl⟩,⟨_,rfl,zLD rfl rfl hm0 rfl⟩,trivial⟩
  obtain⟨r0,hr0⟩:∃r0:AC,r0=.gs 1 (m.out.map cI) (.o fc.kt):=⟨_,rfl⟩
  have hri:r0.ids isO:=by rw[hr0];exact⟨trivial,by simp⟩
  refine AOps.storeOwnA (cs:=[.lit (.slice none 0 0),int 0,int 0]) (vs:=[.gs 1 (m.out.map cI) (.o fc.kt),int c,int 0]) tabOk rfl rfl rfl rfl rfl rfl rfl rfl (show ouY (k+1)=_ from h1) ?_
  rw[Q1e,←hr0]
  refine AOps.storeOwn tabOk rfl rfl rfl rfl rfl rfl rfl (show updO _ _ _ _=_ by rw[Q05 _ (by omega)];exact h2) (by simp) ?_
  rw[Q1e]
  refine AOps.storeOwn tabOk rfl rfl rfl rfl rfl rfl rfl (show updO _ _ _ _=_ by rw[Q05 _ (by omega),Q05 _ (by omega)];exact h3) (by simp) ?_
  rw[Q1e]
  obtain⟨ou2,hou2⟩:∃ou2:Outer,ou2=updO (updO (updO ouY (k+1) (.cells [r0,int c,int 0])) (k+2) (.cells [int m.steps])) (k+3) (.cells [int 0]):=⟨_,rfl⟩
  have e1:ou2 (k+1)=some (.cells [r0,int c,int 0]):=by rw[hou2,Q05 _ (by omega),Q05 _ (by omega),Q03]
  have e2:ou2 (k+2)=some (.cells [int m.steps]):=by rw[hou2,Q05 _ (by omega),Q03]
  have e3:ou2 (k+3)=some (.cells [int 0]):=by rw[hou2,Q03]
  have ho2:OuOk ou2:=by rw[hou2];exact Q0i (Q0i (Q0i hou ⟨hri,trivial,trivial,trivial⟩) ⟨trivial,trivial⟩) ⟨trivial,trivial⟩
  refine AOps.stEq (σ':=⟨1,[(0,.cells [int c]),(0,.cells [int 0])],ou2⟩) (by rw[hou2];rfl) ?_
  refine zA ?_
  refine ACode.cond rfl (fun hb=>?_) (fun hb=>?_)
  ·have hlt:c < 0:=by simpa using hb
   refine zA ?_
   refine AOps.storeOwnA (cs:=[r0,int c,int 0]) (vs:=[.lit (.slice none 0 0),int 0,int 0]) tabOk rfl rfl rfl rfl rfl rfl rfl rfl (show ou2 (k+1)=_ from e1) ?_
   rw[Q1e]
   refine AOps.storeOwn tabOk rfl rfl rfl rfl rfl rfl rfl (show updO _ _ _ _=_ by rw[Q05 _ (by omega)];exact e2) (by simp) ?_
   rw[Q1e]
   refine AOps.storeOwn tabOk rfl rfl rfl rfl rfl rfl rfl (show updO _ _ _ _=_ by rw[Q05 _ (by omega),Q05 _ (by omega)];exact e3) (by simp) ?_
   rw[Q1e]
   refine zA ?_
   refine⟨Q0i (Q0i (Q0i ho2 ⟨trivial,trivial,trivial,trivial⟩) ⟨trivial,trivial⟩) ⟨trivial,trivial⟩,.lit (.slice none 0 0),?_,?_,?_,?_⟩
   ·simp only[rsOf,if_pos hlt]
    show updO _ _ _ _=_
    rw[Q05 _ (by omega),Q05 _ (by omega),Q03];rfl
   ·simp only[rsOf,if_pos hlt];exact .nilS 1
   ·simp only[rsOf,if_pos hlt]
    show updO _ _ _ _=_
    rw[Q05 _ (by omega),Q03];rfl
   ·simp only[rsOf,if_pos hlt]
    show updO _ _ _ _=_
    rw[Q03];rfl
  ·have hge:¬c < 0:=by simpa using hb
   refine zA ?_
   exact⟨ho2,r0,by simp only[rsOf,if_neg hge];exact e1,by simp only[rsOf,if_neg hge];rw[hr0];exact .gsE rfl,by simp only[rsOf,if_neg hge];exact e2,by simp only[rsOf,if_neg hge];exact e3⟩
 ·obtain⟨hd,fr',σ',C',hgo,hi',hf',hk⟩:=hp
  cases e with
  |normal=>
   have hk:CatQ k c m σ'.ou:=hk
   obtain⟨hc,hi2⟩:=Qcv hΓ hi' hk.1
   refine⟨hd,_,rfl,.tuple #[],by simp[results,Tryz.results49],?_⟩
   rw[←hR]
   exact⟨⟨_,rfl⟩,rfl,_,σ'.ou,⟨hgo.stp,hgo.chg.trans hc,hgo.no,hgo.newp⟩,rfl,hi2,hk⟩
  |ret=>
   have hk:CatQ k c m σ'.ou:=hk
   obtain⟨hc,hi2⟩:=Qcv hΓ hi' hk.1
   refine⟨hd,_,rfl,.tuple #[],by simp[results,Tryz.results49],?_⟩
   rw[←hR]
   exact⟨⟨_,rfl⟩,rfl,_,σ'.ou,⟨hgo.stp,hgo.chg.trans hc,hgo.no,hgo.newp⟩,rfl,hi2,hk⟩
  |panic ps=>exact hk.elim
  |exit id=>exact hk.elim
  |goto l=>exact hk.elim
  |outgrown=>exact hk.elim
theorem Qiv(hΓ:∀g cs,(g,cs)∈Γ->idsL isO cs){ou':Outer}{m:Ms}(hpr:PR ou' m)(c:Int){x0 x5 x6:FV}:
  Caught Tryz.prog tab Γ Tryz.f23 49 [] [.ptr (.l 0) 0,.ptr (.l 1) 0,.ptr (.l 2) 0,.ptr (.l 3) 0] (fun r _=>r=resF (rsOf (.trap c m))) (trapE c)
   [(6,x6),(5,x5),(4,.one (.ptr (.l 3) 0)),(3,.one (.ptr (.l 2) 0)),(2,.one (.ptr (.l 1) 0)),(1,.one (.ptr (.l 0) 0)),(0,x0)] (whS ou'):=by
 intro F w C tmps xs ys hi hf hx hy
 simp only[RV]at hx hy
 subst hx
 obtain⟨y0,_,rfl,hy0,y1,_,rfl,hy1,y2,_,rfl,hy2,y3,_,rfl,hy3,rfl⟩:=hy
 obtain⟨C2,k,hnone,hgo2,hinv,hrf⟩:=Qij [0,1,2,3] (by intro j hj;simp only[List.mem_cons,List.not_mem_nil,or_false]at hj;show j < 4;omega) hi
 have hnone:∀m,k<=m->ou' m=none:=hnone
 have hk0:0 < k:=by
  rcases Nat.eq_zero_or_pos k with h|h
  ·obtain⟨_,_,_,_,_,_,h0⟩:=hpr.m0
   rw[hnone 0 (by omega)]at h0;cases h0
  ·exact h
 have hsub:∀i,isO i->toOs [0,1,2,3] k i=i:=fun i hi=>by cases i with|l q=>exact hi.elim|o q=>rfl
 have hnew:∀p,ouAdd ou' k whO (k+p)=whO[p]?:=fun p=>Q2q p
 have hi2:Inv Γ F w C2 ⟨4,[],ouAdd ou' k whO⟩:=hinv _ rfl fun i x hx=>by
  cases i with
  |l q=>cases hx
  |o q=>
   have hx':ouAdd ou' k whO q=some x:=hx
   rcases Nat.lt_or_ge q k with hq|hq
   ·rw[Q24 hq]at hx'
    exact⟨.o q,x,hx',rfl,(AObj.sub_f hsub x (hpr.ok q x hx')).symm⟩
   ·obtain⟨p,rfl⟩:∃p,q=k+p:=⟨q - k,by omega⟩
    rw[hnew]at hx'
    match p,hx' with
    |0,h=>cases h;exact⟨.l 0,_,rfl,rfl,rfl⟩
    |1,h=>cases h;exact⟨.l 1,_,rfl,rfl,rfl⟩
    |2,h=>cases h;exact⟨.l 2,_,rfl,rfl,rfl⟩
    |3,h=>cases h;exact⟨.l 3,_,rfl,rfl,rfl⟩
    |p+4,h=>cases h
 have hou2:OuOk (ouAdd ou' k whO):=fun q x hx=>by
  rcases Nat.lt_or_ge q k with hq|hq
  ·rw[Q24 hq]at hx
   exact hpr.ok q x hx
  ·obtain⟨p,rfl⟩:∃p,q=k+p:=⟨q - k,by omega⟩
   rw[hnew]at hx
   match p,hx with
   |0,h=>cases h;exact⟨trivial,trivial⟩
   |1,h=>cases h;exact⟨trivial,trivial,trivial,trivial⟩
   |2,h=>cases h;exact⟨trivial,trivial⟩
   |3,h=>cases h;exact⟨trivial,trivial⟩
   |p+4,h=>cases h
 have hr:RFs w C2 [.one (.ptr (.o k) 0),.one (.ptr (.o (k+1)) 0),.one (.ptr (.o (k+2)) 0),.one (.ptr (.o (k+3)) 0)] [y0,y1,y2,y3]:=
  ⟨y0,_,rfl,hrf (.one (.ptr (.l 0) 0)) y0 hy0,y1,_,rfl,hrf (.one (.ptr (.l 1) 0)) y1 hy1,y2,_,rfl,hrf (.one (.ptr (.l 2) 0)) y2 hy2,y3,_,rfl,hrf (.one (.ptr (.l 3) 0)) y3 hy3,rfl⟩
 have hc1:Chg isO w C2 w { C2 with nl:=0 }:=⟨fun _ _=>rfl,fun _ h=>h,fun i hp ho=>⟨by cases i with|l k=>cases hp|o k=>exact ho,rfl,rfl⟩⟩
 obtain⟨tc,ec,vc,kc,fu,fc,hm0⟩:=hpr.m0
 refine (Qe7 (c:=c) (m:=m) hΓ hou2 hk0 ⟨tc,ec,vc,kc,fu,fc,by rw[Q24 hk0];exact hm0⟩ (hnew 0) (hnew 1) (hnew 2) (hnew 3) (Q1v w C2 (ouAdd ou' k whO)) w { C2 with nl:=0 } [y0,y1,y2,y3] rfl (hi2.forCallee hou2 hΓ) (RFs.chg hc1 _ _ ⟨trivial,trivial,trivial,trivial,trivial⟩ hr)).mono ?_
 rintro e u' w' ⟨hv,hset,C',ou3,hgo,h0,hi',hQ⟩
 obtain⟨hb1,hb2,hb3⟩:=hi2.back hgo h0 hi'
 obtain⟨ho3,r0,q1,q2,q3,q4⟩:=hQ
 refine⟨hv,hset,C2.behind C',[(4,.one (.ptr (.o (k+3)) 0)),(3,.one (.ptr (.o (k+2)) 0)),(2,.one (.ptr (.o (k+1)) 0))],⟨4,[],ou3⟩,hgo2.toO.trans hb1.toO,hb2,⟨hf.1,fun j x hj=>?_⟩,fun ds=>?_⟩
 ·match j,hj with
  |0,hj=>cases hj
  |1,hj=>cases hj
  |2,hj=>cases hj;obtain⟨u,hu,hr⟩:=hf.2 2 (.one (.ptr (.l 1) 0)) rfl;exact⟨u,hu,(hrf _ _ hr).ext hb1.chg⟩
  |3,hj=>cases hj;obtain⟨u,hu,hr⟩:=hf.2 3 (.one (.ptr (.l 2) 0)) rfl;exact⟨u,hu,(hrf _ _ hr).ext hb1.chg⟩
  |4,hj=>cases hj;obtain⟨u,hu,hr⟩:=hf.2 4 (.one (.ptr (.l 3) 0)) rfl;exact⟨u,hu,(hrf _ _ hr).ext hb1.chg⟩
  |j+5,hj=>cases hj
 ·have ha:aRes tab [(4,.one (.ptr (.o (k+3)) 0)),(3,.one (.ptr (.o (k+2)) 0)),(2,.one (.ptr (.o (k+1)) 0))] ⟨4,[],ou3⟩ Tryz.f23.results.toList=some (.tup [.agg [r0,int (rsOf (.trap c m)).fin,int (rsOf (.trap c m)).val],.one (int (rsOf (.trap c m)).steps),.one (int (rsOf (.trap c m)).err)]):=by
   show aRes tab _ _ [.cell 2 27,.cell 3 3,.cell 4 28]=_
   unfold aRes aResL
   rw[Q5x (T:=tab) (x:=.agg [r0,int (rsOf (.trap c m)).fin,int (rsOf (.trap c m)).val]) (σ:=⟨4,[],ou3⟩) (i:=.o (k+1)) rfl rfl rfl q1 rfl rfl]
   unfold aResL
   rw[Q5x (T:=tab) (x:=.one (int (rsOf (.trap c m)).steps)) (σ:=⟨4,[],ou3⟩) (i:=.o (k+2)) rfl rfl rfl q3 rfl rfl]
   unfold aResL
   rw[Q5x (T:=tab) (x:=.one (int (rsOf (.trap c m)).err)) (σ:=⟨4,[],ou3⟩) (i:=.o (k+3)) rfl rfl rfl q4 rfl rfl]
   rfl
  exact⟨_,_,ha,WkF.tup (.cons (.agg (.cons q2 (.cons (.refl _) (.cons (.refl _) .nil)))) (.cons (.refl _) (.cons (.refl _) .nil))),by simp,ho3,rfl⟩
section
variable {fu:Int}{ac:AC}
theorem Qdf(hΓ:∀g cs,(g,cs)∈Γ->idsL isO cs){ou:Outer}{r0:Rd}{kt0:Nat}(hrun:AFnP Tryz.prog Γ 50 [.one (.ptr (.o 0) 0)] ou (RunQ fu ac kt0 r0) (RunP r0)):
  AFn Tryz.prog Γ 23 [.one (.ptr (.o 0) 0)] ou (fun r _=>r=resF (rsOf r0)):=by
 refine AFn.ofDeferP (gd:=49) (d5:=5) (d6:=6) (d7:=7) (d8:=8) (first:=[]) (caps:=[.ptr (.l 0) 0,.ptr (.l 1) 0,.ptr (.l 2) 0,.ptr (.l 3) 0]) (fr1:=[(4,.one (.ptr (.l 3) 0)),(3,.one (.ptr (.l 2) 0)),(2,.one (.ptr (.l 1) 0)),(1,.one (.ptr (.l 0) 0)),(0,.one (.ptr (.o 0) 0))])
  (σ1 := whS ou) (v0 := .one (.ptr (.o 0) 0)) (us := [.one (.ptr (.o 0) 0)]) (Q1 := RunQ fu ac kt0 r0) (QP1 := RunP r0)
  tabOk hΓ Tryz.func23 rfl (by kernel_rfl) (by decide) ?_ rfl rfl (by decide) (AStep.ofOp tabOk rfl) rfl rfl rfl rfl rfl (by decide) (fun ds=>AStep.ofOp tabOk rfl) rfl rfl (by decide) rfl rfl rfl ⟨trivial,trivial⟩ (fun h=>h) hrun rfl rfl (by decide) ?_ ?_ ?_
 ·intro hou
  refine zA ?_
  exact⟨rfl,rfl,rfl⟩
 ·intro hou r ou' hq hri how
  cases r0 with
  |next m=>exact hq.elim
  |trap c m=>exact hq.elim
  |fuel=>
   obtain⟨rfl,_⟩:=hq
   refine⟨.one (.lit (.bool true)),fun ds=>⟨AStep.ofOp tabOk rfl,?_⟩⟩
   refine zA ?_
   exact AFn.fin' rfl (WkF.tup (.cons (.agg (.cons (.nilS 1) (.cons (.refl _) (.cons (.refl _) .nil)))) (.cons (.refl _) (.cons (.refl _) .nil)))) (by simp[resF,rsOf,Q1p]) how rfl
  |done mf vf=>
   obtain⟨rfl,hc,hk,H',nm',hM⟩:=hq
   refine⟨.one (.lit (.bool false)),fun ds=>⟨AStep.ofOp tabOk rfl,?_⟩⟩
   obtain⟨kt,tc,ec,vc,kc,hCR,hKR,h0⟩:=hM.ex
   rw[hc]at hCR
   cases hCR with
   |rt _ ec vc hv=>
    have hvi:=hv.ids
    have hoX:=h0.ouX
    rw[hoX]at how ⊢
    refine zA ?_
    refine ACode.drawSt tabOk 15 14 [(8,.one (int (lastV vf)))] _ follows (by kernel_rfl) rfl rfl (by kernel_rfl) rfl ?_ rfl rfl rfl rfl ?_ ?_ (AStep.ofStore tabOk rfl) ?_
    ·rfl
    ·exact⟨⟨_,rfl,AStep.callPure hΓ rfl rfl rfl ⟨hvi,trivial⟩ how (Q91 hv)⟩,trivial⟩
    ·exact⟨⟨_,rfl,AStep.callPure hΓ rfl rfl rfl ⟨hvi,trivial⟩ how (Q91 hv)⟩,trivial⟩
    refine zA ?_
    exact AFn.fin' rfl (WkF.tup (.cons (.agg (.cons (.gsE rfl) (.cons (.refl _) (.cons (.refl _) .nil)))) (.cons (.refl _) (.cons (.refl _) .nil)))) (by simp[resF,rsOf]) how rfl
 ·intro us w
  refine⟨?_,fun hs=>?_⟩
  ·simp[callFunc,Tryz.func49,Tryz.f49]
  ·obtain⟨l⟩:=us
   match l,hs with
   |[a,b,c,d],_=>exact Qgm a b c d w
 ·intro hou ps ou' hq how
  obtain⟨c,m,rfl,rfl,hpr⟩:=hq
  exact Qiv hΓ hpr c
end
end Go.Proofs.YtkgjldchcbfpnaaGreatDoor
namespace Go.CoreX
theorem adj_pw:∀{l:List Int},(∀i,0 < i->i < l.length->l.getD (i - 1) 0 < l.getD i 0)->l.Pairwise (· < ·)
 |[],_=>.nil
 |a::l,h=>by
  have ih:l.Pairwise (· < ·):=adj_pw fun i hi hl=>by
   have:=h (i+1) (by omega) (by simp;omega)
   obtain⟨j,rfl⟩:∃j,i=j+1:=⟨i - 1,by omega⟩
   simpa using this
  refine List.pairwise_cons.2 ⟨fun b hb=>?_,ih⟩
  match l,hb,h,ih with
  |c::l,hb,h,ih=>
   have h0:a < c:=by simpa using h 1 (by omega) (by simp)
   rcases List.mem_cons.1 hb with rfl|hb
   ·exact h0
   ·exact Int.lt_trans h0 ((List.pairwise_cons.1 ih).1 b hb)
structure NodeU (l:Lab):Prop where
 sh:shpQ l
 bl:l.binds.length<=1048576
 al:l.alts.length<=1048576
 ab:∀a∈l.alts,a.binds.length<=1048576
 kl:l.ops.length<=1048576
 wd:l.op=1->-1073741824<=l.n/\l.n<=1073741823
 rc:l.op=5->∀i,i < l.binds.length->l.ops[i]?=some 2
 sl:l.op=16->0<=l.n
 rb:l.op=9->rowOk l.binds
 rn:l.op=11->0<=l.n/\l.n < 1048576
theorem Q8x{e:List Ex}{x:Ex}(h:Q0z e x=0):shape x=true/\between x.n (lowN x.op) (highN x.op)=true/\x.binds.all Q2g=true/\(List.range x.binds.length).any (Q1j e x)=false:=by
 unfold Q0z at h
 split at h
 ·cases h
 rename_i h1
 split at h
 ·rename_i h2;exact absurd h h2
 rename_i h2
 split at h
 ·cases h
 rename_i h3
 have h2':ranges x=0:=by simpa using h2
 unfold ranges at h2'
 split at h2'
 ·cases h2'
 rename_i h4
 split at h2'
 ·cases h2'
 rename_i h5
 exact⟨by simpa using h1,by simpa using h4,by simpa using h5,by simpa using h3⟩
theorem Q7n{flat:Bool}{e:List Ex}{x:Ex}(h:Q0q flat e x=0):((flat&&Q3f x.op)||(!flat&&Q4c x.op))=false/\Q0z e x=0:=by
 unfold Q0q at h
 split at h
 ·cases h
 ·rename_i h1;exact⟨by simpa using h1,h⟩
end Go.CoreX
namespace Go.Proofs.YtkgjldchcbfpnaaGreatDoor
open Go Go.Abs Go.CoreX
theorem nodeU{e:List Ex}(ht:IsTree e)(he:okB e){x:Ex}(hx:x∈e)(hn:Q0z e x=0):NodeU (labE e x):=by
 obtain⟨h1,h2,h3,h4⟩:=Q8x hn
 have hsz:=he.eo.x x hx
 have hbt:lowN x.op<=x.n/\x.n<=highN x.op:=by simpa[between]using h2
 have hid:∀y∈x.binds,0<=y/\y < 1048576:=fun y hy=>by
  have:=List.all_eq_true.1 h3 y hy
  simp[Q2g,between]at this
  omega
 have hbb:∀i,i < x.binds.length->Q1j e x i=false:=fun i hi=>by
  have:=List.any_eq_false.1 h4 i (List.mem_range.2 hi)
  simpa using this
 refine⟨⟨⟨x.kids,by simp[labE],h1⟩⟩,hsz.b,hsz.a,hsz.ab,by simpa[labE]using hsz.k,fun h=>?_,fun h5 i hi=>?_,fun h=>?_,fun h=>⟨adj_pw fun i h0 hi=>?_,hid⟩,fun h=>?_⟩
 ·have h:x.op=1:=h
  rw[h]at hbt;simpa[lowN,highN,labE]using hbt
 ·simp only[labE]at h5 hi ⊢
  have h6:=hbb i hi
  simp only[Q1j,Bool.or_eq_false_iff]at h6
  have h6:=h6.1
  have hkl:x.kids.length=x.binds.length+1:=by
   have:ShN 5 x.n x.binds x.kids.length x.alts:=⟨⟨x.kids,rfl,by rw[←h5];exact h1⟩⟩
   exact this.recs.1
  have hil:i < x.kids.length:=by omega
  have hkk:=Qg2 ht.k hx _ (List.getElem_mem hil)
  have h7:x.kids.getD i 0=x.kids[i]:=by rw[List.getD_eq_getElem?_getD,List.getElem?_eq_getElem hil];rfl
  rw[h7]at h6
  rw[List.getElem?_map,List.getElem?_eq_getElem hil,Option.map_some,op_grow e _ (by omega)]
  simpa[h5]using h6
 ·have h:x.op=16:=h
  rw[h]at hbt;exact hbt.1
 ·have h:x.op=9:=h
  have h6:=hbb i hi
  simp only[Q1j,Bool.or_eq_false_iff]at h6
  have h7:=h6.2
  simp[h]at h7
  have:=h7 h0
  simp only[labE]
  rw[List.getD_eq_getElem?_getD,List.getD_eq_getElem?_getD]
  exact this
 ·have h:x.op=11:=h
  rw[h]at hbt
  have:=hbt.1;have h8:=hbt.2
  simp[lowN,highN,labE]at *
  omega
theorem RunInv.no{fu:Int}{fns:List Fun}(hf:FnsU fns false):RunInv fu fns (false=true) (gM (GU fns false)) where
 st:=fun m m' h hr=>Q4z (GUok hf) h hr
 fr:=fun h=>by cases h
 pf:=fun m h v f k hc hk h12=>by
  have hg:=h.k
  rw[hk]at hg
  have F:FragU fns false ⟨f.t.op,f.t.n,f.t.binds,f.t.kids.map Tr.op,f.t.alts⟩:=Q0x (gF_iff.1 hg.1).1
  have:=F.op (.inl h12)
  cases this
theorem Qgs{fns:List Fun}{hi:Bool}{t:Tr}(h:allT (FragU fns hi) t):gM (GU fns hi) (initM t):=⟨⟨h,trivial⟩,trivial,fun r hr=>by cases hr⟩
theorem Qd2{fu:Int}{fns:List Fun}{m:Ms}{R:Rs}(h:EndsM fu fns m R):∃g r,goX fu fns g m=some r/\rsOf r=R:=by
 obtain⟨g,hg⟩:=h
 rw[Q98]at hg
 cases hx:goX fu fns g m with
 |none=>rw[hx]at hg;cases hg
 |some r=>rw[hx]at hg;exact⟨g,r,hx,Option.some.inj hg⟩
theorem Qj9(t:Tr)(fu:Int)(ac:AC)(ha:ac.ids isO):MR fu ⟨ac,1⟩ (ouOf [.cells (mC (.box (cTr t)) nilPE (.lit .nilIface) nilPE [] 0 fu ⟨ac,1⟩),.tok 3 1 0]) (fun _=>none) [] (initM t):=by
 refine⟨⟨1,_,_,_,_,.ev t .nil nilPE (.lit .nilIface) .nil,.nil,⟨⟨by simp,trivial,trivial,trivial⟩,rfl,⟨fun k cs hk=>(by cases hk),fun k o hk=>?_,rfl,fun a k n h=>(by simp at h),fun a k n h=>rfl,fun a b k n n' h=>(by simp at h),⟨rfl,fun a k n h=>(by simp at h)⟩,fun cs hc es i hi=>?_,fun k o hk=>?_⟩⟩⟩⟩
 ·match k,hk with
  |0,hk=>cases hk;exact⟨by simp,trivial,trivial,trivial,⟨trivial,trivial⟩,trivial,trivial,ha,trivial⟩
  |1,hk=>cases hk;trivial
  |k+2,hk=>simp[ouOf]at hk
 ·cases hc
  cases hi
  exact⟨1,rfl,Nat.le_refl _,rfl,rfl,fun a k n h=>by simp at h⟩
 ·match k,hk with
  |0,hk=>cases hk;trivial
  |1,hk=>cases hk;trivial
  |k+2,hk=>simp[ouOf]at hk
theorem Qep{fns:List Fun}{hi:Bool}{fu:Int}(hf:FnsU fns hi)(hfu:1<=fu/\fu<=1000000)(hm:MoreU fns hi fu (.sl 2 (fns.map cFun)) Γc){t:Tr}(ht:allT (FragU fns hi) t){I:Ms->Prop}(hI:RunInv fu fns (hi=true) I)(hi0:I (initM t)){R:Rs}(hR:EndsM fu fns (initM t) R):
  AFn Tryz.prog Γc 23 [.one (.ptr (.o 0) 0)] (ouOf [.cells (mC (.box (cTr t)) nilPE (.lit .nilIface) nilPE [] 0 fu ⟨.sl 2 (fns.map cFun),1⟩),.tok 3 1 0]) (fun r ou'=>r=resF R/\ou'=ouOf [.dead,.dead]):=by
 obtain⟨g,r0,hg,rfl⟩:=Qd2 hR
 have hac:(AC.sl 2 (fns.map cFun)).ids isO:=by show idsS isO _;simp
 have hkc:=kidU hΓc hf (show 0<=fu/\fu<=1000000 by omega) hm
 have hsc:=startU hΓc hf hkc
 have hrun:=Qhx hΓc hac (GUok hf) (fun t ht=>GUopn ht) hkc hsc hI (Qj9 t fu _ hac) (Qgs ht) hg hi0 (by simp[initM]) (show 0<=fu/\fu<=1000000 by omega) (by simp[initM];omega)
 refine AFn.forgetD (AFn.mono (Qdf hΓc hrun) fun r ou' hq=>⟨ouOf [.dead,.dead],fun m o hmo=>?_,hq,rfl⟩)
 match m,hmo with
 |0,hmo=>cases hmo;exact .inr ⟨rfl,_,rfl⟩
 |1,hmo=>cases hmo;exact .inr ⟨rfl,_,rfl⟩
 |m+2,hmo=>simp[ouOf]at hmo
theorem Q67(R:Rs)(p:Abs.Id->Prop):(resF R).ids p:=by simp[resF]
theorem Q71{fu:Int}{fns:List Fun}:∀{g:Nat}{m:Ms}{r:Rd},goX fu fns g m=some r->m.out.length<=1000->(rsOf r).out.length<=1048576
 |0,_,_,h,_=>by cases h
 |g+1,m,r,h,hm=>by
  simp only[goX]at h
  cases hr:Q0a fu fns m with
  |next m'=>rw[hr]at h;exact Q71 h (Q7s hr hm)
  |done m' v=>
   rw[hr]at h;cases h
   obtain⟨_,hd⟩:=Q4y hr
   obtain⟨rfl,_⟩:=hd m' v rfl
   show m'.out.length<=_;omega
  |fuel=>rw[hr]at h;cases h;simp[rsOf,Q1p]
  |trap c m'=>
   rw[hr]at h;cases h
   have hmo:m'.out=m.out:=by
    unfold Q0a at hr
    repeat' split at hr
    all_goals try (cases hr;done)
    all_goals (cases hr;rfl)
   simp only[rsOf]
   split
   ·simp[Q1p]
   ·show m'.out.length<=_;rw[hmo];omega
def resA (R:Rs):FV:=.agg [.sl 1 (R.out.map cI),int R.fin,int R.val]
theorem Qbn(a b:Rs)(ha:a.out.length<=1048576):APure Tryz.prog Γc 9 [resA a,resA b] (.one (.lit (.bool (decide (a.fin=b.fin)&&decide (a.val=b.val)&&(a.out==b.out))))):=by
 have hs:=Qbo hΓc a.out b.out ha
 intro ou
 refine AFn.walk 24 tabOk Tryz.func9 rfl (by kernel_rfl) rfl rfl fun hou=>?_
 refine zM ?_
 by_cases h1:a.fin=b.fin
 ·refine AOps.wk 10 rfl (y:=.one (.lit (.bool true))) (.ofEq (by simp[h1])) ?_
  refine zM ?_
  by_cases h2:a.val=b.val
  ·refine AOps.wk 17 rfl (y:=.one (.lit (.bool true))) (.ofEq (by simp[h2])) ?_
   refine zM ?_
   refine zca hΓc hs hou ?_
   refine zM ?_
   exact APure.fin rfl (WkF.ofEq (by simp[h1,h2])) (by simp) hou rfl
  ·refine AOps.wk 17 rfl (y:=.one (.lit (.bool false))) (.ofEq (by simp[h2])) ?_
   refine zM ?_
   exact APure.fin rfl (WkF.ofEq (by simp[h1,h2])) (by simp) hou rfl
 ·refine AOps.wk 10 rfl (y:=.one (.lit (.bool false))) (.ofEq (by simp[h1])) ?_
  refine zM ?_
  exact APure.fin rfl (WkF.ofEq (by simp[h1])) (by simp) hou rfl
def bFn (f:FnD):Nat:=f.params.length+bExs f.body+4
def bFns (l:List FnD):Nat:=(l.map bFn).sum
section
variable {H:Type}{enc:TypeId×Value->H}{w:World}
theorem opensFn(n:Nat):Opens enc Tryz.prog w Rows.uptoBulk 36 n encF bFn:=by
 cases n with
 |zero=>exact Opens.zero
 |succ n=>
  refine Opens.as (Opens.struct Q6h Tryz.underlying36 (.cons rfl (by kernel_rfl) (Q34 n) (fun _=>rfl) (.cons rfl (by kernel_rfl) (Q48 n) (fun _=>rfl) (.cons rfl (by kernel_rfl) (Qi9 n) (fun _=>rfl) (.nil _)))) (fun _=>(show (3:Nat)=_ by kernel_rfl))) ?_
  rintro⟨i,l,b,_⟩
  exact⟨⟨i.1,l,b⟩,rfl,by show l.length+bExs b+4<=1+(l.length+1+(bExs b+1+0))+1;omega⟩
theorem Qi8(n:Nat):Opens enc Tryz.prog w Rows.uptoBulk 24 n (fun p:List FnD×I64=>[.sl 3 (p.1.map encF),int p.2.1]) (fun p=>bFns p.1+3):=by
 cases n with
 |zero=>exact Opens.zero
 |succ n=>
  have ha:=Q39 (enc:=enc) (w:=w) (t:=22) Tryz.underlying22 (s:=3) (by kernel_rfl) (by omega) n (fun m _=>opensFn m)
  refine Opens.as (Opens.struct Q6h Tryz.underlying24 (.cons rfl (by kernel_rfl) ha (fun _=>rfl) (.cons rfl (by kernel_rfl) (Q34 n) (fun _=>rfl) (.nil _))) (fun _=>(show (2:Nat)=_ by kernel_rfl))) ?_
  rintro⟨l,i,_⟩
  refine⟨⟨l,i⟩,rfl,?_⟩
  show bFns l+3<=wtAll bFn l+1+(1+0)+1
  have:wtAll bFn l=bFns l:=rfl
  omega
end
theorem Qfm{fs:List FnD}(h:bFns fs<=1048576):fs.length<=1048576/\∀f∈fs,f.params.length<=1099511627776/\okB f.body:=by
 have h1:=Q8o (f:=bFn) (fun x=>by simp only[bFn];omega) fs
 have h1':fs.length<=bFns fs:=h1
 refine⟨by omega,fun f hf=>?_⟩
 have h2:bFn f<=bFns fs:=Q8n hf
 simp only[bFn]at h2
 exact⟨by omega,okB_of (by omega)⟩
structure BodyK (e:List Ex):Prop where
 l:e.length<=1099511627776
 b:e.length<=4096->okB e
theorem BodyK.ofB{e:List Ex}(h:okB e):BodyK e:=⟨by have:=h.eo.l;omega,fun _=>h⟩
theorem Body_k{e:List Ex}(h:BodyK e){params:List Int}(hp:params.length<=6):∃r:Int,APure Tryz.prog Γc 21 [.one (.sl 5 (e.map cEx)),.one (.sl 1 (params.map cI)),.one (.lit (.bool true))] (.one (int r))/\(r=0->body e params true=0/\okB e):=by
 by_cases hl:e.length<=4096
 ·exact⟨_,Qhi e (h.b hl) params (by omega) true,fun h0=>⟨h0,h.b hl⟩⟩
 ·exact⟨2,Qjd e (by omega) h.l params true,fun h=>by cases h⟩
def ErrR (P:Prop)(ou:Outer):FV->Outer->Prop:=fun r ou'=>(∃k:Int,r=.one (int k)/\(k=0->P))/\ou'=ou
theorem Qgu(fs:List FnD)(hfl:fs.length<=1048576)(f:FnD)(hpl:f.params.length<=1099511627776)(hb0:BodyK f.body)(main:Int)(ou:Outer):AFn Tryz.prog Γc 22 [.agg [.sl 3 (fs.map encF),int main],.agg (encF f)] ou (ErrR (FnOkD fs f) ou):=by
 have hbl:=hb0.l
 refine AFn.walk 94 tabOk Tryz.func22 rfl (by kernel_rfl) rfl rfl fun hou=>?_
 refine zM ?_
 refine AOps.splitS rfl rfl rfl rfl (fun _=>?_) (fun hn1=>?_)
 ·refine zM ?_
  exact AFn.fin' rfl (.refl _) (by simp) hou ⟨⟨_,rfl,fun h=>absurd h (by decide)⟩,rfl⟩
 refine zM ?_
 refine ACode.cond rfl (fun _=>?_) (fun hn2=>?_)
 ·refine zM ?_
  exact AFn.fin' rfl (.refl _) (by simp) hou ⟨⟨_,rfl,fun h=>absurd h (by decide)⟩,rfl⟩
 refine zM ?_
 refine ACode.cond rfl (fun _=>?_) (fun hp6=>?_)
 ·refine zM ?_
  exact AFn.fin' rfl (.refl _) (by simp) hou ⟨⟨_,rfl,fun h=>absurd h (by decide)⟩,rfl⟩
 have hp6:f.params.length<=6:=by simp at hp6;omega
 have hn1:¬f.name < -1:=by simpa using hn1
 have hn2:¬1048576<=f.name:=by simpa using hn2
 obtain⟨rb,hB,hrb⟩:=Body_k hb0 hp6
 refine zM ?_
 refine ACode.freeze1 (.l 0) 2 rfl rfl ?_
 refine ACode.freeze1 (.l 1) 3 rfl rfl ?_
 refine ACode.loopR hΓc (α:=Nat) (fun j=>[(26,.one (int j)),(25,.one (int (f.params.map cI).length)),(24,.one (.sl 1 (f.params.map cI))),(3,.one (.box (encF f))),(2,.one (.box [.sl 3 (fs.map encF),int main]))]) (fun j=>⟨0,[],ou⟩) (fun m j=>j<=f.params.length/\m=f.params.length - j/\∀x∈f.params.take j,0<=x/\x < 1048576) (a0:=0) (ρ:=_root_.id) ⟨by omega,rfl,by simp⟩ (LessR.of rfl zFS (by simp) zLO rfl rfl hou) fun m j hj=>?_
 obtain⟨hjl,rfl,hpr⟩:=hj
 refine zA ?_
 refine ACode.cond rfl (fun hb2=>?_) (fun hb2=>?_)
 ·have hlt:j < f.params.length:=by simpa using hb2
  obtain⟨x,hx⟩:=Q01 hlt
  refine zA ?_
  refine zS (zIA rfl rfl rfl (by omega) (Q06 hx)) ?_
  refine zA ?_
  refine AOps.splitS rfl rfl rfl rfl (fun _=>?_) (fun hx1=>?_)
  ·refine zM ?_
   exact AFn.fin' rfl (.refl _) (by simp) hou ⟨⟨_,rfl,fun h=>absurd h (by decide)⟩,rfl⟩
  refine zM ?_
  refine ACode.cond rfl (fun _=>?_) (fun hx2=>?_)
  ·refine zM ?_
   exact AFn.fin' rfl (.refl _) (by simp) hou ⟨⟨_,rfl,fun h=>absurd h (by decide)⟩,rfl⟩
  refine zM ?_
  have hx1:¬x < 0:=by simpa using hx1
  have hx2:¬1048576<=x:=by simpa using hx2
  refine cInv ⟨f.params.length - (j+1),j+1,_root_.id,by omega,⟨by omega,rfl,fun y hy=>?_⟩,LessR.of rfl zFS (by simp) zLO rfl rfl hou⟩
  rw[Q2e hx]at hy
  rcases List.mem_append.1 hy with hy|hy
  ·exact hpr y hy
  ·rw[List.mem_singleton.1 hy];omega
 have hjj:j=f.params.length:=by simp at hb2;omega
 subst hjj
 rw[List.take_length]at hpr
 refine zA ?_
 refine zca hΓc hB hou ?_
 refine zM ?_
 refine ACode.cond rfl (fun hr0=>?_) (fun hr0=>?_)
 ·refine zM ?_
  exact AFn.fin' rfl (.refl _) (by simp) hou ⟨⟨_,rfl,fun h=>absurd h (by simpa using hr0)⟩,rfl⟩
 obtain⟨hbody,hokb⟩:=hrb (by simpa using hr0)
 refine zM ?_
 refine ACode.loopR hΓc (α:=Nat) (fun j=>[(48,.one (int j)),(47,.one (int (f.body.map cEx).length)),(46,.one (.sl 5 (f.body.map cEx))),(3,.one (.box (encF f))),(2,.one (.box [.sl 3 (fs.map encF),int main]))]) (fun j=>⟨0,[],ou⟩) (fun m j=>j<=f.body.length/\m=f.body.length - j/\∀x∈f.body.take j,Q7e fs x) (a0:=0) (ρ:=_root_.id) ⟨by omega,rfl,by simp⟩ (LessR.of rfl zFS (by simp) zLO rfl rfl hou) fun m j hj=>?_
 obtain⟨hjl,rfl,hcl⟩:=hj
 clear hb2
 refine zA ?_
 refine ACode.cond rfl (fun hb2=>?_) (fun hb2=>?_)
 ·have hlt:j < f.body.length:=by simpa using hb2
  obtain⟨x,hx⟩:=Q01 hlt
  have hstep:Q7e fs x->∀y∈f.body.take (j+1),Q7e fs y:=fun h y hy=>by
   rw[Q2e hx]at hy
   rcases List.mem_append.1 hy with hy|hy
   ·exact hcl y hy
   ·rw[List.mem_singleton.1 hy];exact h
  have hc:=Qec hbody (List.mem_of_getElem? hx)
  obtain⟨o,n,b,k,al⟩:=x
  simp only at hc
  by_cases h14:o=14
  ·subst h14
   have hn0:=hc (.inl rfl)
   obtain⟨i,rfl⟩:∃i:Nat,n=(i:Int):=⟨n.toNat,by omega⟩
   refine zA ?_
   refine zS (zIA rfl rfl rfl (by omega) (Q06 hx)) ?_
   refine zA ?_
   refine ACode.cond rfl (fun _=>?_) (fun hb3=>?_)
   ·refine zM ?_
    exact AFn.fin' rfl (.refl _) (by simp) hou ⟨⟨_,rfl,fun h=>absurd h (by decide)⟩,rfl⟩
   have hgl:i < fs.length:=by simp at hb3;omega
   obtain⟨g,hg⟩:=Q01 hgl
   refine zA ?_
   refine zS (zIA rfl rfl rfl (Int.natCast_nonneg i) (Q06 hg)) ?_
   refine zA ?_
   refine AOps.splitS rfl rfl rfl rfl (fun _=>?_) (fun hb4=>?_)
   ·refine zM ?_
    exact AFn.fin' rfl (.refl _) (by simp) hou ⟨⟨_,rfl,fun h=>absurd h (by decide)⟩,rfl⟩
   refine zM ?_
   exact cInv ⟨f.body.length - (j+1),j+1,_root_.id,by omega,⟨by omega,rfl,hstep fun _=>⟨i,g,rfl,hg,fun _=>(show k.length=g.params.length by first|(simpa using hb4)|(simp at hb4;omega)),fun h=>absurd h (show ¬(14:Int)=15 by decide)⟩⟩,LessR.of rfl zFS (by simp) zLO rfl rfl hou⟩
  by_cases h15:o=15
  ·subst h15
   have hn0:=hc (.inr rfl)
   obtain⟨i,rfl⟩:∃i:Nat,n=(i:Int):=⟨n.toNat,by omega⟩
   refine zA ?_
   refine zS (zIA rfl rfl rfl (by omega) (Q06 hx)) ?_
   refine zA ?_
   refine ACode.cond rfl (fun _=>?_) (fun hb3=>?_)
   ·refine zM ?_
    exact AFn.fin' rfl (.refl _) (by simp) hou ⟨⟨_,rfl,fun h=>absurd h (by decide)⟩,rfl⟩
   have hgl:i < fs.length:=by simp at hb3;omega
   obtain⟨g,hg⟩:=Q01 hgl
   refine zA ?_
   refine zS (zIA rfl rfl rfl (Int.natCast_nonneg i) (Q06 hg)) ?_
   refine zA ?_
   refine ACode.cond rfl (fun _=>?_) (fun hb4=>?_)
   ·refine zM ?_
    exact AFn.fin' rfl (.refl _) (by simp) hou ⟨⟨_,rfl,fun h=>absurd h (by decide)⟩,rfl⟩
   refine zM ?_
   exact cInv ⟨f.body.length - (j+1),j+1,_root_.id,by omega,⟨by omega,rfl,hstep fun _=>⟨i,g,rfl,hg,fun h=>absurd h (show ¬(15:Int)=14 by decide),fun _=>(show g.params.length≠0 by simpa using hb4)⟩⟩,LessR.of rfl zFS (by simp) zLO rfl rfl hou⟩
  refine zA ?_
  refine zS (zIA rfl rfl rfl (by omega) (Q06 hx)) ?_
  refine zA ?_
  refine AOps.splitS rfl rfl rfl rfl (fun _=>?_) (fun hb=>absurd hb (by simpa using h14))
  refine zM ?_
  refine ACode.cond rfl (fun _=>?_) (fun hb=>absurd hb (by simpa using h15))
  refine zM ?_
  exact cInv ⟨f.body.length - (j+1),j+1,_root_.id,by omega,⟨by omega,rfl,hstep fun h=>absurd h (not_or.2 ⟨h14,h15⟩)⟩,LessR.of rfl zFS (by simp) zLO rfl rfl hou⟩
 have hjj:j=f.body.length:=by simp at hb2;omega
 subst hjj
 rw[List.take_length]at hcl
 refine zA ?_
 exact AFn.fin' rfl (.refl _) (by simp) hou ⟨⟨_,rfl,fun _=>⟨by omega,by omega,hpr,hokb,hbody,hcl⟩⟩,rfl⟩
theorem Qir(fs:List FnD)(hfl:fs.length<=1048576)(hb:∀f∈fs,f.params.length<=1099511627776/\BodyK f.body)(main:Int)(ou:Outer):AFn Tryz.prog Γc 11 [.agg [.sl 3 (fs.map encF),int main]] ou (ErrR (∃mn:Nat,main=mn/\PrgOk fs mn) ou):=by
 refine AFn.walk 52 tabOk Tryz.func11 rfl (by kernel_rfl) rfl rfl fun hou=>?_
 refine zM ?_
 refine ACode.cond rfl (fun _=>?_) (fun hb0=>?_)
 ·refine zM ?_
  exact AFn.fin' rfl (.refl _) (by simp) hou ⟨⟨_,rfl,fun h=>absurd h (by decide)⟩,rfl⟩
 have hpos:0 < fs.length:=by
  rcases Nat.eq_zero_or_pos fs.length with h0|h0
  ·simp[List.length_eq_zero_iff.1 h0]at hb0
  ·exact h0
 refine zM ?_
 refine ACode.cond rfl (fun _=>?_) (fun h256=>?_)
 ·refine zM ?_
  exact AFn.fin' rfl (.refl _) (by simp) hou ⟨⟨_,rfl,fun h=>absurd h (by decide)⟩,rfl⟩
 have h256:fs.length<=256:=by simp at h256;omega
 refine zM ?_
 refine AOps.splitS rfl rfl rfl rfl (fun _=>?_) (fun hm0=>?_)
 ·refine zM ?_
  exact AFn.fin' rfl (.refl _) (by simp) hou ⟨⟨_,rfl,fun h=>absurd h (by decide)⟩,rfl⟩
 have hm0:¬main < 0:=by simpa using hm0
 obtain⟨mn,rfl⟩:∃mn:Nat,main=mn:=⟨main.toNat,by omega⟩
 refine zM ?_
 refine ACode.cond rfl (fun _=>?_) (fun hm1=>?_)
 ·refine zM ?_
  exact AFn.fin' rfl (.refl _) (by simp) hou ⟨⟨_,rfl,fun h=>absurd h (by decide)⟩,rfl⟩
 have hm1:mn < fs.length:=by simp at hm1;omega
 obtain⟨f0,h0⟩:=Q01 hm1
 refine zA ?_
 refine zS (zIA rfl rfl rfl (Int.natCast_nonneg mn) (Q06 h0)) ?_
 refine zM ?_
 refine ACode.cond rfl (fun _=>?_) (fun hp0=>?_)
 ·refine zM ?_
  exact AFn.fin' rfl (.refl _) (by simp) hou ⟨⟨_,rfl,fun h=>absurd h (by decide)⟩,rfl⟩
 have hp0:f0.params=[]:=List.length_eq_zero_iff.1 (by simp at hp0;first|omega|simpa using hp0)
 refine zA ?_
 refine ACode.freeze1 (.l 0) 1 rfl rfl ?_
 refine ACode.loopR hΓc (α:=Nat) (fun j=>[(41,.one (int j)),(40,.one (int (fs.map encF).length)),(39,.one (.sl 3 (fs.map encF))),(1,.one (.box [.sl 3 (fs.map encF),int (mn:Int)]))]) (fun j=>⟨0,[],ou⟩) (fun m j=>j<=fs.length/\m=fs.length - j/\∀x∈fs.take j,FnOkD fs x) (a0:=0) (ρ:=_root_.id) ⟨by omega,rfl,by simp⟩ (LessR.of rfl zFS (by simp) zLO rfl rfl hou) fun m j hj=>?_
 obtain⟨hjl,rfl,hcl⟩:=hj
 refine zA ?_
 refine ACode.cond rfl (fun hb2=>?_) (fun hb2=>?_)
 ·have hlt:j < fs.length:=by simpa using hb2
  obtain⟨x,hx⟩:=Q01 hlt
  have hxm:=List.mem_of_getElem? hx
  refine zA ?_
  refine zS (zIA rfl rfl rfl (by omega) (Q06 hx)) ?_
  refine zA ?_
  refine AOps.call1 hΓc rfl rfl rfl rfl rfl rfl rfl (by simp[idsF]) hou (Qgu fs (by omega) x (hb x hxm).1 (hb x hxm).2 mn ou) fun r ou' hq _ how=>?_
  obtain⟨⟨k,rfl,hk⟩,rfl⟩:=hq
  refine zM ?_
  refine ACode.cond rfl (fun hk0=>?_) (fun hk0=>?_)
  ·refine zM ?_
   exact AFn.fin' rfl (.refl _) (by simp) hou ⟨⟨_,rfl,fun h=>absurd h (by simpa using hk0)⟩,rfl⟩
  have hk1:=hk (by simpa using hk0)
  have hstep:∀y∈fs.take (j+1),FnOkD fs y:=fun y hy=>by
   rw[Q2e hx]at hy
   rcases List.mem_append.1 hy with hy|hy
   ·exact hcl y hy
   ·rw[List.mem_singleton.1 hy];exact hk1
  refine zM ?_
  exact cInv ⟨fs.length - (j+1),j+1,_root_.id,by omega,⟨by omega,rfl,hstep⟩,LessR.of rfl zFS (by simp) zLO rfl rfl hou⟩
 have hjj:j=fs.length:=by simp at hb2;omega
 subst hjj
 rw[List.take_length]at hcl
 refine zA ?_
 exact AFn.fin' rfl (.refl _) (by simp) hou ⟨⟨_,rfl,fun _=>⟨mn,rfl,h256,hcl,f0,h0,hp0⟩⟩,rfl⟩
end Go.Proofs.YtkgjldchcbfpnaaGreatDoor
