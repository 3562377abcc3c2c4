/- The evaluator's small functions, walked. -/
import Derived.Test.YtkgjldchcbfpnaaGreatDoorF9
import Derived.LaidEqlPtr
set_option maxRecDepth 10000
set_option linter.unusedVariables false
set_option linter.unusedSimpArgs false
namespace Go.Proofs.YtkgjldchcbfpnaaGreatDoor
open Go Go.Abs Go.CoreX
variable {Γ:List (Nat×List AC)}
def unitF:FV:=.tup []
def trapE (c:Int):List PanicEntry:=[{ v:=.iface tTrap (.agg #[.int .i64 c]),recovered:=false }]
theorem Q0l{w:World}{C:Ctx}{v:Value}{c:Int}(h:R w C (.ifc tTrap true [int c]) v):[({ v:=v,recovered:=false }:PanicEntry)]=trapE c:=by
 obtain⟨xs,h1,⟨_,rfl⟩|⟨h2,_⟩⟩:=h
 ·simp only[RV]at h1
  obtain⟨u,us,rfl,h3,rfl⟩:=h1
  simp only[int,R]at h3
  rw[h3.1];rfl
 ·cases h2
theorem conc3:Tryz.prog.concrete 3=true:=by kernel_rfl
theorem Q3z:Tryz.prog.concrete tClo=true:=by kernel_rfl
theorem Q3g:Tryz.prog.concrete tObj=true:=by kernel_rfl
theorem Q9h:Tryz.prog.concrete tRow=true:=by kernel_rfl
theorem Qbe:Tryz.prog.concrete tArr=true:=by kernel_rfl
theorem Qh1:Tryz.prog.concrete tRes=true:=by kernel_rfl
theorem Q3h:Tryz.prog.concrete tCap=true:=by kernel_rfl
theorem Q0k:Tryz.prog.concrete tTrap=true:=by kernel_rfl
theorem z3(w:World):(zeroValue 3).run Tryz.prog w=.ok (.int .i64 0) w:=Q36 (by kernel_rfl) w
theorem zClo(w:World):(zeroValue tClo).run Tryz.prog w=.ok (.pointer none) w:=Q36 (by kernel_rfl) w
theorem zObj(w:World):(zeroValue tObj).run Tryz.prog w=.ok (.pointer none) w:=Q36 (by kernel_rfl) w
theorem zRow(w:World):(zeroValue tRow).run Tryz.prog w=.ok (.pointer none) w:=Q36 (by kernel_rfl) w
theorem zArr(w:World):(zeroValue tArr).run Tryz.prog w=.ok (.pointer none) w:=Q36 (by kernel_rfl) w
theorem zRes(w:World):(zeroValue tRes).run Tryz.prog w=.ok (.pointer none) w:=Q36 (by kernel_rfl) w
theorem zCap(w:World):(zeroValue tCap).run Tryz.prog w=.ok (.pointer none) w:=Q36 (by kernel_rfl) w
def notT (t:Nat)(c:AC):Prop:=c=.lit .nilIface∨∃t' ag cs,c=.ifc t' ag cs/\Nat.beq t' t=false
section
variable {H:Hm}{nm:Nm2}{v:Vl}{c:AC}
theorem VR.isWord(h:VR H nm v c):(∃n,v=.word n/\c=iW n)∨((∀n,v≠.word n)/\notT 3 c):=by
 cases h <;> first|exact .inl ⟨_,rfl,rfl⟩|exact .inr ⟨by simp,.inl rfl⟩|exact .inr ⟨by simp,.inr ⟨_,_,_,rfl,rfl⟩⟩
theorem VR.isClo(h:VR H nm v c):(∃t e,v=.clo t e)∨((∀t e,v≠.clo t e)/\notT tClo c):=by
 cases h <;> first|exact .inl ⟨_,_,rfl⟩|exact .inr ⟨by simp,.inl rfl⟩|exact .inr ⟨by simp,.inr ⟨_,_,_,rfl,rfl⟩⟩
theorem VR.isObj(h:VR H nm v c):(∃g fs cs,v=.obj g fs/\c=iB tObj [int g,.sl 1 cs]/\VsR H nm fs cs)∨((∀g fs,v≠.obj g fs)/\notT tObj c):=by
 cases h <;> first|exact .inl ⟨_,_,_,rfl,rfl,‹_›⟩|exact .inr ⟨by simp,.inl rfl⟩|exact .inr ⟨by simp,.inr ⟨_,_,_,rfl,rfl⟩⟩
theorem VR.isRow(h:VR H nm v c):(∃ls fs cs,v=.row ls fs/\c=iB tRow [.sl 1 (ls.map cI),.sl 1 cs]/\VsR H nm fs cs)∨((∀g fs,v≠.row g fs)/\notT tRow c):=by
 cases h <;> first|exact .inl ⟨_,_,_,rfl,rfl,‹_›⟩|exact .inr ⟨by simp,.inl rfl⟩|exact .inr ⟨by simp,.inr ⟨_,_,_,rfl,rfl⟩⟩
theorem VR.isArr(h:VR H nm v c):(∃a k n,v=.arr a/\c=iB tArr [.arr (.o k) 1 0 n n]/\nm[a]?=some (k,n))∨((∀a,v≠.arr a)/\notT tArr c):=by
 cases h <;> first|exact .inl ⟨_,_,_,rfl,rfl,‹_›⟩|exact .inr ⟨by simp,.inl rfl⟩|exact .inr ⟨by simp,.inr ⟨_,_,_,rfl,rfl⟩⟩
theorem VR.isRes(h:VR H nm v c):(∃fs l,v=.res fs/\c=iB tRes [.sl 1 l]/\FsR H nm fs l)∨((∀fs,v≠.res fs)/\notT tRes c):=by
 cases h <;> first|exact .inl ⟨_,_,rfl,rfl,‹_›⟩|exact .inr ⟨by simp,.inl rfl⟩|exact .inr ⟨by simp,.inr ⟨_,_,_,rfl,rfl⟩⟩
theorem VR.isCap(h:VR H nm v c):(∃n fs cs,v=.cap n fs/\c=iB tCap [int n,.sl 1 cs]/\VsR H nm fs cs)∨((∀n fs,v≠.cap n fs)/\notT tCap c):=by
 cases h <;> first|exact .inl ⟨_,_,_,rfl,rfl,‹_›⟩|exact .inr ⟨by simp,.inl rfl⟩|exact .inr ⟨by simp,.inr ⟨_,_,_,rfl,rfl⟩⟩
theorem Q46(h:∀n,v≠.word n):wordV v=.error 5:=by cases v <;> first|rfl|exact absurd rfl (h _)
end
theorem Q0d(n:Int):APure Tryz.prog Γ 166 [.one (iW n)] (.one (int n)):=by
 intro ou
 refine AFn.walk 15 tabOk Tryz.func166 rfl (by kernel_rfl) rfl rfl fun hou=>?_
 refine zA ?_
 refine zS (AStep.assertYes conc3 rfl rfl) ?_
 refine zA ?_
 exact APure.fin rfl (WkF.ofEq rfl) (by simp) hou rfl
theorem Qat(hΓ:∀g cs,(g,cs)∈Γ->idsL isO cs){c:AC}(hc:notT 3 c)(ou:Outer):AFnP Tryz.prog Γ 166 [.one c] ou (fun _ _=>False) (fun ps ou'=>ps=trapE 5/\ou'=ou):=by
 refine AFnP.walk 15 tabOk hΓ Tryz.func166 rfl (by kernel_rfl) rfl rfl fun hou=>?_
 refine zA ?_
 refine zS (AStep.assertNo conc3 rfl z3 rfl rfl hc) ?_
 refine zA ?_
 refine zS (AStep.mkIfcA Q0k rfl rfl) ?_
 exact AOps.panicI rfl rfl rfl fun w C v hv=>⟨hou,Q0l hv,rfl⟩
theorem Qg6(k n:Nat):APure Tryz.prog Γ 189 [.one (iB tArr [.arr (.o k) 1 0 n n])] (.one (.box [.arr (.o k) 1 0 n n])):=by
 intro ou
 refine AFn.walk 15 tabOk Tryz.func189 rfl (by kernel_rfl) rfl rfl fun hou=>?_
 refine zA ?_
 refine zS (AStep.assertYes Qbe rfl rfl) ?_
 refine zA ?_
 exact APure.fin rfl (WkF.ofEq rfl) (by simp) hou rfl
theorem Qii(hΓ:∀g cs,(g,cs)∈Γ->idsL isO cs){c:AC}(hc:notT tArr c)(ou:Outer):AFnP Tryz.prog Γ 189 [.one c] ou (fun _ _=>False) (fun ps ou'=>ps=trapE 5/\ou'=ou):=by
 refine AFnP.walk 15 tabOk hΓ Tryz.func189 rfl (by kernel_rfl) rfl rfl fun hou=>?_
 refine zA ?_
 refine zS (AStep.assertNo Qbe rfl zArr rfl rfl hc) ?_
 refine zA ?_
 refine zS (AStep.mkIfcA Q0k rfl rfl) ?_
 exact AOps.panicI rfl rfl rfl fun w C v hv=>⟨hou,Q0l hv,rfl⟩
theorem Qc6(a b:AC)(ha:a.ids isO)(hb:b.ids isO):APure Tryz.prog Γ 137 [.one (iB tRow [a,b])] (.one (.box [a,b])):=by
 intro ou
 refine AFn.walk 15 tabOk Tryz.func137 rfl (by kernel_rfl) rfl rfl fun hou=>?_
 refine zA ?_
 refine zS (AStep.assertYes Q9h rfl rfl) ?_
 refine zA ?_
 exact APure.fin rfl (WkF.ofEq rfl) ⟨ha,hb,trivial⟩ hou rfl
theorem Qf7(hΓ:∀g cs,(g,cs)∈Γ->idsL isO cs){c:AC}(hc:notT tRow c)(ou:Outer):AFnP Tryz.prog Γ 137 [.one c] ou (fun _ _=>False) (fun ps ou'=>ps=trapE 5/\ou'=ou):=by
 refine AFnP.walk 15 tabOk hΓ Tryz.func137 rfl (by kernel_rfl) rfl rfl fun hou=>?_
 refine zA ?_
 refine zS (AStep.assertNo Q9h rfl zRow rfl rfl hc) ?_
 refine zA ?_
 refine zS (AStep.mkIfcA Q0k rfl rfl) ?_
 exact AOps.panicI rfl rfl rfl fun w C v hv=>⟨hou,Q0l hv,rfl⟩
theorem Q62(b:Bool):APure Tryz.prog Γ 168 [.one (.lit (.bool b))] (.one (iB tObj [int (if b then 1 else 0),.sl 1 []])):=by
 intro ou
 refine AFn.walk 10 tabOk Tryz.func168 rfl (by kernel_rfl) rfl rfl fun hou=>?_
 refine zA ?_
 refine ACode.cond rfl (fun hb=>?_) (fun hb=>?_)
 ·subst hb
  repeat ((fail_if_success ((with_reducible refine oj ?_);refine AOps.atDst 6 rfl ?_));first|refine zO ?_)
  refine AOps.freeze1 (.l 0) 5 rfl rfl ?_
  refine AOps.wk 5 rfl (y:=.one (.box [int 1,.sl 1 []])) (.one (Wk.box (.cons (.refl _) (.cons (.nilS 1) .nil)))) ?_
  refine zS (AStep.mkIfc Q3g rfl rfl) ?_
  refine zA ?_
  exact APure.fin rfl (WkF.ofEq rfl) (by simp[iB]) hou rfl
 ·subst hb
  repeat ((fail_if_success ((with_reducible refine oj ?_);refine AOps.atDst 9 rfl ?_));first|refine zO ?_)
  refine AOps.freeze1 (.l 0) 8 rfl rfl ?_
  refine AOps.wk 8 rfl (y:=.one (.box [int 0,.sl 1 []])) (.one (Wk.box (.cons (.refl _) (.cons (.nilS 1) .nil)))) ?_
  refine zS (AStep.mkIfc Q3g rfl rfl) ?_
  refine zA ?_
  exact APure.fin rfl (WkF.ofEq rfl) (by simp[iB]) hou rfl
theorem Q6e(n:Int)(h0:-2305843009213693952<=n)(h1:n<=2305843009213693952):APure Tryz.prog Γ 165 [.one (int n)] (.one (int (wrapW n))):=by
 intro ou
 refine AFn.walk 7 tabOk Tryz.func165 rfl (by kernel_rfl) rfl rfl fun hou=>?_
 refine zM ?_
 refine zS (AStep.and rfl rfl rfl) ?_
 rw[Qj5]
 have h4:0<=(n - (-1073741824)) % 2147483648:=Int.emod_nonneg _ (by decide)
 have h5:(n - (-1073741824)) % 2147483648 < 2147483648:=Int.emod_lt_of_pos _ (by decide)
 refine zM ?_
 refine APure.fin rfl (WkF.ofEq ?_) (by simp) hou rfl
 unfold wrapW
 congr 3
theorem Q8a(hΓ:∀g cs,(g,cs)∈Γ->idsL isO cs)(a b:Int)(ha:-1073741824<=a/\a<=1073741823)(hb:-1073741824<=b/\b<=1073741823)(hb0:b≠0):APure Tryz.prog Γ 167 [.one (int a),.one (int b)] (.tup [.one (int (a.tdiv b)),.one (int (a.tmod b))]):=by
 intro ou
 refine AFn.walk 16 tabOk Tryz.func167 rfl (by kernel_rfl) rfl rfl fun hou=>?_
 refine zA ?_
 refine ACode.cond rfl (fun hb=>absurd hb (by simpa using hb0)) (fun hb=>?_)
 have hq:Q3b .i64 (a.tdiv b):=by
  have h1:(a.tdiv b).natAbs<=a.natAbs:=Int.natAbs_tdiv_le_natAbs a b
  exact Q2a (by omega) (by omega)
 refine zA ?_
 refine ACode.drawX tabOk 7 [(2,.one (int (a.tdiv b))),(5,.one (int (a.tmod b)))] follows (by kernel_rfl) rfl rfl rfl rfl ?_ ?_
 ·exact⟨⟨_,rfl,AStep.quo rfl rfl rfl hb0 hq⟩,⟨_,rfl,AStep.rem rfl rfl rfl hb0⟩,trivial⟩
 refine zA ?_
 exact APure.fin rfl (WkF.ofEq rfl) (by simp) hou rfl
theorem Q8b(hΓ:∀g cs,(g,cs)∈Γ->idsL isO cs)(a:Int)(ou:Outer):AFnP Tryz.prog Γ 167 [.one (int a),.one (int 0)] ou (fun _ _=>False) (fun ps ou'=>ps=trapE 1/\ou'=ou):=by
 refine AFnP.walk 16 tabOk hΓ Tryz.func167 rfl (by kernel_rfl) rfl rfl fun hou=>?_
 refine zA ?_
 refine zS (AStep.mkIfcA Q0k rfl rfl) ?_
 exact AOps.panicI rfl rfl rfl fun w C v hv=>⟨hou,Q0l hv,rfl⟩
theorem Q91{H:Hm}{nm:Nm2}{v:Vl}{c:AC}(h:VR H nm v c):APure Tryz.prog Γ 51 [.one c] (.one (int (lastV v))):=by
 intro ou
 refine AFn.walk 17 tabOk Tryz.func51 rfl (by kernel_rfl) rfl rfl fun hou=>?_
 rcases h.isWord with ⟨n,rfl,rfl⟩|⟨hw,hn⟩
 ·refine zA ?_
  refine zS (AStep.assertYes conc3 rfl rfl) ?_
  refine zA ?_
  exact APure.fin rfl (WkF.ofEq rfl) (by simp) hou rfl
 ·refine zA ?_
  refine zS (AStep.assertNo conc3 rfl z3 rfl rfl hn) ?_
  refine zA ?_
  rcases h.isObj with ⟨g,fs,cs,rfl,rfl,h2⟩|⟨ho,hn2⟩
  ·refine zS (AStep.assertYes Q3g rfl rfl) ?_
   refine zA ?_
   exact APure.fin rfl (WkF.ofEq rfl) (by simp) hou rfl
  ·refine zS (AStep.assertNo Q3g rfl zObj rfl rfl hn2) ?_
   refine zA ?_
   refine APure.fin rfl (WkF.ofEq ?_) (by simp) hou rfl
   cases v <;> first|rfl|exact absurd rfl (hw _)|exact absurd rfl (ho _ _)
theorem Q2r(t:Tr):APure Tryz.prog Γ 106 [.one (.box (cTr t))] (.one (int (opdN t))):=by
 intro ou
 refine AFn.walk 17 tabOk Tryz.func106 rfl (by kernel_rfl) rfl rfl fun hou=>?_
 unfold opdN
 repeat' first|refine zN ?_|(with_reducible refine oj ?_;refine AOps.splitS rfl rfl rfl rfl (fun hb=>?_) (fun hb=>?_))|(with_reducible refine ok ?_;first|refine ACode.condS rfl (fun hb=>?_) (fun hb=>?_)|refine ACode.cond rfl (fun hb=>?_) (fun hb=>?_))
 all_goals (refine APure.fin rfl (WkF.ofEq ?_) (by simp) hou rfl)
 all_goals (simp_all[int,Q3x])
theorem Qau(id:Int)(vc ec:AC)(hv:vc.ids isO)(he:ec.ids isO)(ou:Outer):AFn Tryz.prog Γ 107 [.one ec,.one (int id),.one vc] ou
  (fun r ou'=>∃k,r=.one (.ptr (.o k) 0)/\NewO ou ou' [(k,.cells [int id,vc,ec])]):=by
 refine AFn.walk 12 tabOk Tryz.func107 rfl (by kernel_rfl) rfl rfl fun hou=>?_
 repeat ((fail_if_success ((with_reducible refine oj ?_);refine AOps.atDst 11 rfl ?_));first|refine zO ?_)
 (first|((with_reducible refine oj ?_);refine zau ?_)|(with_reducible refine zst ?_)|((with_reducible refine Q0t ?_ ?_);rfl)|(with_reducible refine ok ?_;first|refine ACode.condT rfl ?_|refine ACode.condF rfl ?_))
 refine AOps.cedes [0] rfl (by decide) hou fun k hk=>⟨[(11,.one (.ptr (.o k) 0))],[],[.cells [int id,vc,ec]],.cons rfl rfl .nil,.nil,?_,?_⟩
 ·exact .cons rfl (AObj.sub_f (fun i hi=>by cases i with|l q=>exact hi.elim|o q=>rfl) _ ⟨trivial,hv,he,trivial⟩) .nil
 have hN:=NewO.add hk hou (show (AObj.cells [int id,vc,ec]).ids isO from ⟨trivial,hv,he,trivial⟩)
 refine zA ?_
 exact AFn.fin' rfl (WkF.ofEq rfl) (by simp) hN.ok ⟨k,rfl,hN⟩
inductive Ch (H:Hm):AC->List (Int×AC)->Prop
 |nil:Ch H nilPE []
 |cons (i:Int) (k:Nat) (vc nc:AC) (l:List (Int×AC)) (hk:H k=some [int i,vc,nc]) (h:Ch H nc l):Ch H (.ptr (.o k) 0) ((i,vc)::l)
def lookI (id:Int):List (Int×AC)->AC
 |[]=>.lit .nilIface
 |(i,c)::l=>if i=id then c else lookI id l
theorem RecC.ch{H:Hm}{t:Tr}{top:AC}{b:AC}{lb:List (Int×AC)}(hb:Ch H b lb):∀{i:Nat}{c:AC},RecC H t top i c b->
  ∃l,Ch H c l/\∀id,(∃j q,Q6v t.binds id i=some j/\lookI id l=.ifc tClo false [.ptr (.o q) 0]/\H q=some [.box (cTr (t.kids.getD j default)),top])∨(Q6v t.binds id i=none/\lookI id l=lookI id lb)
 |_,_,.zero c=>⟨lb,hb,fun id=>.inr ⟨rfl,rfl⟩⟩
 |_,_,.succ i k q c b hk hq h=>by
  obtain⟨l,h1,h2⟩:=RecC.ch hb h
  refine⟨_,.cons _ k _ _ l hk h1,fun id=>?_⟩
  simp only[lookI,Q6v]
  by_cases e:t.binds.getD i 0=id
  ·exact .inl ⟨i,q,by rw[if_pos e],by rw[if_pos e],hq⟩
  ·rw[if_neg e,if_neg e];exact h2 id
theorem ER.ch{H:Hm}{nm:Nm2}:∀{e:En}{c:AC},ER H nm e c->∃l,Ch H c l/\∀id,VR H nm (findE id e) (lookI id l)
 |_,_,.nil=>⟨[],.nil,fun id=>by simp only[findE,lookI];exact .nil⟩
 |_,_,.bind i v n k vc nc hk hv hn=>by
  obtain⟨l,h1,h2⟩:=ER.ch hn
  refine⟨_,.cons i k vc nc l hk h1,fun id=>?_⟩
  simp only[findE,lookI]
  by_cases e:i=id
  ·rw[if_pos e,if_pos e];exact hv
  ·rw[if_neg e,if_neg e];exact h2 id
 |_,_,.recs t n c nc hc hn=>by
  obtain⟨l,h1,h2⟩:=ER.ch hn
  obtain⟨l',h3,h4⟩:=hc.ch h1
  refine⟨l',h3,fun id=>?_⟩
  simp only[findE]
  rcases h4 id with ⟨j,q,h5,h6,h7⟩|⟨h5,h6⟩
  ·rw[h5,h6]
   exact .cloP _ _ _ q h7 (.recs t n c nc hc hn)
  ·rw[h5,h6];exact h2 id
theorem Q2b{c:AC}(h:c.ids isO)(n:Nat):c.ids (inL n):=AC.ids_mono (fun i hi=>by cases i with|l k=>exact hi.elim|o k=>trivial) c h
theorem Q4a{c:List (List AC)}(h:idsS isO c)(n:Nat):idsS (inL n) c:=Q57 (fun i hi=>by cases i with|l k=>exact hi.elim|o k=>trivial) c h
def InOu (H:Hm)(ou:Outer):Prop:=∀k cs,H k=some cs->ou k=some (.cells cs)
theorem Qgv(hΓ:∀g cs,(g,cs)∈Γ->idsL isO cs){H:Hm}{c:AC}{l:List (Int×AC)}(hc:Ch H c l)(id:Int)(ou:Outer)(hH:InOu H ou)(hci:c.ids isO)(hli:(lookI id l).ids isO):
  AFn Tryz.prog Γ 114 [.one c,.one (int id)] ou (fun r ou'=>r=.one (lookI id l)/\ou'=ou):=by
 refine AFn.walk 21 tabOk Tryz.func114 rfl (by kernel_rfl) rfl rfl fun hou=>?_
 refine zA ?_
 refine ACode.loopR hΓ (α:=AC×List (Int×AC)) (fun a=>[(1,.one (int id)),(0,.one a.1)]) (fun a=>⟨0,[],ou⟩) (fun m a=>Ch H a.1 a.2/\lookI id a.2=lookI id l/\a.1.ids isO/\m=a.2.length) (a0:=(c,l)) (ρ:=_root_.id) ⟨hc,rfl,hci,rfl⟩ (LessR.of rfl zFW (by simp[Q2b hci]) zLO rfl rfl hou) fun m a ha=>?_
 obtain⟨c1,l1⟩:=a
 obtain⟨h1,h2,h3,rfl⟩:=ha
 dsimp only at h1 h2 h3 ⊢
 cases h1 with
 |nil=>
  refine zA ?_
  refine zS (AStep.neNil0 Tryz.underlying67 rfl rfl rfl) ?_
  refine zA ?_
  exact AFn.fin' (r':=.one (lookI id l)) rfl (WkF.ofEq (by rw[←h2];rfl)) hli hou ⟨rfl,rfl⟩
 |cons i k vc nc l2 hk hch=>
  have hx:=hH k _ hk
  have hids:idsL isO [int i,vc,nc]:=hou k _ hx
  have hnc:nc.ids isO:=hids.2.2.1
  refine zA ?_
  refine zS (AStep.neNil Tryz.underlying67 rfl rfl rfl) ?_
  repeat' first|refine zN ?_|((with_reducible refine oj ?_);first|refine zix ?_|refine zow rfl rfl hx ?_)
  refine ACode.cond rfl (fun hb=>?_) (fun hb=>?_)
  ·have he:i=id:=by simpa using hb
   repeat' first|refine zN ?_|((with_reducible refine oj ?_);first|refine zix ?_|refine zow rfl rfl hx ?_)
   exact AFn.fin' (r':=.one (lookI id l)) rfl (WkF.ofEq (by rw[←h2];simp[lookI,he])) hli hou ⟨rfl,rfl⟩
  ·have he:i≠id:=by simpa using hb
   repeat' first|refine zN ?_|((with_reducible refine oj ?_);first|refine zix ?_|refine zow rfl rfl hx ?_)
   exact cInv ⟨l2.length,(nc,l2),_root_.id,by simp,⟨hch,by rw[←h2];simp[lookI,he],hnc,rfl⟩,LessR.of rfl zFW (by simp[Q2b hnc]) zLO rfl rfl hou⟩
def plainO:AObj->Prop
 |.cells _=>True
 |.tok _ _ _=>True
 |.dead=>True
 |_=>False
structure Gro (ou:Outer)(H:Hm)(ou':Outer)(H':Hm):Prop where
 h:∀k cs,H k=some cs->H' k=some cs
 new:∀k,H k=none->H' k≠none->ou k=none
 old:∀k o,ou k=some o->ou' k=some o
 inO:InOu H' ou'
 ok:OuOk ou'
 pl:∀k o,ou' k=some o->ou k=some o∨plainO o
theorem Gro.refl{ou:Outer}{H:Hm}(h:InOu H ou)(ho:OuOk ou):Gro ou H ou H:=⟨fun _ _ h=>h,fun k h1 h2=>absurd h1 h2,fun _ _ h=>h,h,ho,fun _ _ h=>.inl h⟩
theorem Gro.trans{ou ou1 ou2:Outer}{H H1 H2:Hm}(a:Gro ou H ou1 H1)(b:Gro ou1 H1 ou2 H2):Gro ou H ou2 H2:=by
 refine⟨fun k cs h=>b.h k cs (a.h k cs h),fun k h1 h2=>?_,fun k o h=>b.old k o (a.old k o h),b.inO,b.ok,fun k o h=>(b.pl k o h).elim (a.pl k o) .inr⟩
 by_cases h3:H1 k=none
 ·have:=b.new k h3 h2
  cases h4:ou k with
  |none=>rfl
  |some o=>rw[a.old k o h4]at this;cases this
 ·exact a.new k h1 h3
theorem Gro.mo{ou ou':Outer}{H H':Hm}(g:Gro ou H ou' H')(nm:Nm2):Mo H nm H' nm:=⟨g.h,fun _ _ h=>h⟩
def addH (H:Hm)(k:Nat)(cs:List AC):Hm:=fun j=>if j=k then some cs else H j
theorem Gro.add{ou ou':Outer}{H:Hm}(h:InOu H ou){k:Nat}{cs:List AC}(hN:NewO ou ou' [(k,.cells cs)]):Gro ou H ou' (addH H k cs):=by
 have hk:ou k=none:=hN.new k (by simp[keys])
 have hHk:H k=none:=by
  cases h1:H k with
  |none=>rfl
  |some c=>rw[h k c h1]at hk;cases hk
 have hold:∀j o,ou j=some o->ou' j=some o:=fun j o hj=>by
  rw[hN.old j (by simp[keys];rintro rfl;rw[hk]at hj;cases hj)];exact hj
 refine⟨fun j c hj=>?_,fun j h1 h2=>?_,hold,fun j c hj=>?_,hN.ok,fun j o hj=>?_⟩
 ·unfold addH
  rw[if_neg (by rintro rfl;rw[hHk]at hj;cases hj)];exact hj
 ·unfold addH at h2
  split at h2
  ·rename_i e;rw[e];exact hk
  ·exact absurd h1 h2
 ·unfold addH at hj
  split at hj
  ·rename_i e;subst e;cases hj
   exact hN.own (j,_) (by simp)
  ·exact hold j _ (h j c hj)
 ·by_cases e:j=k
  ·subst e
   have:=hN.own (j,_) (List.mem_singleton.2 rfl)
   rw[this]at hj;cases hj;exact .inr trivial
  ·rw[hN.old j (by simp[keys];exact e)]at hj;exact .inl hj
theorem Qap(x:Int):∀(b:List Int)(l:List Vl)(e:En),allE e (b++[x]) l=.bind x (l.getD b.length .nil) (allE e b l)
 |[],l,e=>by cases l <;> simp[allE]
 |y::b,l,e=>by
  simp only[List.cons_append,allE,Qap x b]
  cases l <;> simp
theorem Qan(hΓ:∀g cs,(g,cs)∈Γ->idsL isO cs){H:Hm}{nm:Nm2}{e:En}{ec:AC}{b:List Int}{l:List Vl}{cs:List (List AC)}(he:ER H nm e ec)(hl:VsR H nm l cs)(hbl:b.length=l.length)(hb20:b.length<=1048576)(ou:Outer)(hH:InOu H ou):
  AFn Tryz.prog Γ 111 [.one ec,.one (.sl 1 (b.map cI)),.one (.sl 1 cs)] ou (fun r ou'=>∃H' c,r=.one c/\Gro ou H ou' H'/\ER H' nm (allE e b l) c):=by
 have hei:=he.ids
 have hci:=hl.ids
 have hcl:=hl.len
 refine AFn.walk 25 tabOk Tryz.func111 rfl (by kernel_rfl) rfl rfl fun hou=>?_
 refine zA ?_
 refine ACode.loopR hΓ (α:=Nat×AC×Outer×Hm) (fun a=>[(11,.one (int a.1)),(10,.one (int (b.map cI).length)),(9,.one (.sl 1 (b.map cI))),(2,.one (.sl 1 cs)),(0,.one a.2.1)]) (fun a=>⟨0,[],a.2.2.1⟩)
  (fun m a=>a.1<=b.length/\Gro ou H a.2.2.1 a.2.2.2/\ER a.2.2.2 nm (allE e (b.take a.1) l) a.2.1/\m=b.length - a.1) (a0:=(0,ec,ou,H)) (ρ:=_root_.id) ⟨by simp,Gro.refl hH hou,by simpa[allE]using he,rfl⟩
  (LessR.of rfl zFW (by simp[Q2b hei,Q4a hci]) zLO rfl rfl hou) fun m a ha=>?_
 obtain⟨i,c,ou1,H1⟩:=a
 obtain⟨hi,hg,he1,rfl⟩:=ha
 dsimp only at hi hg he1 ⊢
 have hou1:=hg.ok
 have hc1:=he1.ids
 refine zA ?_
 refine ACode.cond rfl (fun hb2=>?_) (fun hb2=>?_)
 ·have hlt:i < b.length:=by simpa using hb2
  clear hb2
  obtain⟨x,hx⟩:=Q01 hlt
  obtain⟨v,hv⟩:=Q01 (l:=l) (i:=i) (by omega)
  obtain⟨y,hy,hvy⟩:=hl.get hv
  have hyi:=hvy.ids
  refine zA ?_
  refine zS (zIA rfl rfl rfl (by omega) (Q06 hx)) ?_
  refine zA ?_
  refine zS (zIA rfl rfl rfl (by omega) (show cs[i]?=some [y]from hy)) ?_
  refine zA ?_
  refine AOps.call1 hΓ rfl rfl rfl rfl rfl rfl rfl ⟨hc1,trivial,hyi,trivial⟩ hou1 (Qau x y c hyi hc1 ou1) fun r ou2 hq hids hou2=>?_
  obtain⟨k,rfl,hN⟩:=hq
  have hg2:=Gro.add hg.inO hN
  have he2:ER (addH H1 k [int x,y,c]) nm (allE e (b.take (i+1)) l) (.ptr (.o k) 0):=by
   have ht:b.take (i+1)=b.take i++[x]:=Q2e hx
   rw[ht,Qap]
   have hlen:(b.take i).length=i:=by simp;omega
   rw[hlen,List.getD_eq_getElem?_getD,hv]
   exact .bind x v _ k y c (by simp[addH]) (hvy.mo (((hg.trans hg2).mo nm))) (he1.mo (hg2.mo nm))
  refine zM ?_
  exact cInv ⟨b.length - (i+1),(i+1,.ptr (.o k) 0,ou2,addH H1 k [int x,y,c]),_root_.id,by omega,⟨by omega,hg.trans hg2,he2,rfl⟩,LessR.of rfl zFW (by simp[Q4a hci]) zLO rfl rfl hou2⟩
 ·have hlt:i=b.length:=by simp at hb2;omega
  subst hlt
  rw[List.take_length]at he1
  refine zA ?_
  exact AFn.fin' (r':=.one c) rfl (WkF.refl _) hc1 hou1 ⟨H1,c,rfl,hg,he1⟩
structure FcT where
 ac:AC
 kt:Nat
abbrev FcT.ids (fc:FcT)(p:Abs.Id->Prop):Prop:=fc.ac.ids p
def mC (tc ec vc kc:AC)(out:List Int)(st fu:Int)(fc:FcT):List AC:=[tc,ec,vc,kc,.gs 1 (out.map cI) (.o fc.kt),int st,int fu,fc.ac]
def ouX (mc:List AC)(n:Nat)(ou:Outer):Outer:=fun k=>match k with
 |0=>some (.cells mc)
 |k+1=>ou (k+1)
theorem Q7u{ou:Outer}{mc:List AC}{n:Nat}(h0:ou 0=some (.cells mc)):ou=ouX mc n ou:=by
 funext k
 match k with
 |0=>exact h0
 |k+1=>rfl
theorem setX(mc mc':List AC)(n:Nat)(ou:Outer):(⟨0,[],ouX mc n ou⟩:St).set (.o 0) (.cells mc')=⟨0,[],ouX mc' n ou⟩:=by
 simp only[St.set,St.mk.injEq,true_and]
 funext k
 match k with
 |0=>rfl
 |k+1=>simp[Q08 (show k+1≠0 by omega)];rfl
def TkR (ou:Outer)(H:Hm)(nm:Nm2):Prop:=∀cs,ou 0=some (.cells cs)->∀es i,cs[4]?=some (.gs 1 es i)->∃kt,i=.o kt/\1<=kt/\ou kt=some (.tok 3 1 es.length)/\H kt=none/\∀(a k n:Nat),nm[a]?=some (k,n)->k≠kt
structure WR (ou:Outer)(H:Hm)(nm:Nm2)(heap:List (List Vl)):Prop where
 inO:InOu H ou
 ok:OuOk ou
 len:nm.length=heap.length
 arr:∀(a k n:Nat),nm[a]?=some (k,n)->∃cs:List AC,ou k=some (.cells cs)/\VsR H nm (heap.getD a []) (cs.map fun c=>[c])/\n=cs.length
 aH:∀(a k n:Nat),nm[a]?=some (k,n)->H k=none
 aa:∀(a b k n n':Nat),nm[a]?=some (k,n)->nm[b]?=some (k,n')->a=b
 sep:H 0=none/\∀(a k n:Nat),nm[a]?=some (k,n)->1<=k
 tk:TkR ou H nm
 pl:∀k o,ou k=some o->plainO o
theorem WR.gro{ou ou':Outer}{H H':Hm}{nm:Nm2}{heap:List (List Vl)}(w:WR ou H nm heap)(g:Gro ou H ou' H')(h0:ou 0≠none)(h1:True):WR ou' H' nm heap:=by
 have hH:∀k,ou k≠none->H k=none->H' k=none:=fun k hk hh=>by
  cases h:H' k with
  |none=>rfl
  |some c=>exact absurd (g.new k hh (by rw[h];simp)) hk
 refine⟨g.inO,g.ok,w.len,fun a k n h=>?_,fun a k n h=>?_,w.aa,⟨hH 0 h0 w.sep.1,w.sep.2⟩,fun cs hc es i hi=>?_,fun k o hk=>(g.pl k o hk).elim (w.pl k o) id⟩
 ·obtain⟨cs,c1,c2,c3⟩:=w.arr a k n h
  exact⟨cs,g.old k _ c1,c2.mo (g.mo nm),c3⟩
 ·obtain⟨cs,c1,c2,c3⟩:=w.arr a k n h
  exact hH k (by rw[c1];simp) (w.aH a k n h)
 ·cases ho:ou 0 with
  |none=>exact absurd ho h0
  |some o=>
   have:=g.old 0 _ ho
   rw[hc]at this
   cases this
   obtain⟨kt,e1,e2,e3,e4,e5⟩:=w.tk cs ho es i hi
   exact⟨kt,e1,e2,g.old _ _ e3,hH kt (by rw[e3];simp) e4,e5⟩
theorem WR.put{mc mc':List AC}{n:Nat}{ou:Outer}{H:Hm}{nm:Nm2}{heap:List (List Vl)}(w:WR (ouX mc n ou) H nm heap)(hi:idsL isO mc'){ou':Outer}(h0:ou' 0=some (.cells mc'))(h1:mc'[4]?=mc[4]?)(h2:∀k,ou' (k+1)=ou (k+1)):WR ou' H nm heap:=by
 have e:∀k,1<=k->ou' k=ouX mc n ou k:=fun k hk=>by
  obtain⟨j,rfl⟩:∃j,k=j+1:=⟨k - 1,by omega⟩
  rw[h2];rfl
 have hk2:∀k cs,H k=some cs->1<=k:=fun k cs hk=>by
  match k with
  |0=>rw[w.sep.1]at hk;cases hk
  |k+1=>omega
 refine⟨fun k cs hk=>?_,fun k o hk=>?_,w.len,fun a k n h=>?_,w.aH,w.aa,w.sep,fun cs hc es i hi=>?_,fun k o hk=>?_⟩
 ·rw[e k (hk2 k cs hk)];exact w.inO k cs hk
 ·match k with
  |0=>rw[h0]at hk;cases hk;exact hi
  |k+1=>rw[e _ (by omega)]at hk;exact w.ok _ o hk
 ·rw[e k (w.sep.2 a k n h)];exact w.arr a k n h
 ·rw[h0]at hc;cases hc
  rw[h1]at hi
  obtain⟨kt,e1,e2,e3,e4,e5⟩:=w.tk mc rfl es i hi
  exact⟨kt,e1,e2,(e kt e2).trans e3,e4,e5⟩
 ·match k with
  |0=>rw[h0]at hk;cases hk;trivial
  |k+1=>rw[e _ (by omega)]at hk;exact w.pl _ o hk
inductive CR (H:Hm)(nm:Nm2):Ctl->AC->AC->AC->Prop
 |ev (t:Tr) (e:En) (ec vc:AC) (he:ER H nm e ec):CR H nm (.ev t e) (.box (cTr t)) ec vc
 |rt (v:Vl) (ec vc:AC) (hv:VR H nm v vc):CR H nm (.rt v) nilPE ec vc
structure M0 (fu:Int)(fc:FcT)(ou:Outer)(H:Hm)(nm:Nm2)(m:Ms)(tc ec vc kc:AC):Prop where
 ids:tc.ids isO/\ec.ids isO/\vc.ids isO/\kc.ids isO
 m0:ou 0=some (.cells (mC tc ec vc kc m.out m.steps fu fc))
 w:WR ou H nm m.heap
structure MR (fu:Int)(fc:FcT)(ou:Outer)(H:Hm)(nm:Nm2)(m:Ms):Prop where
 ex:∃kt tc ec vc kc,CR H nm m.c tc ec vc/\KR H nm m.k kc/\M0 fu ⟨fc.ac,kt⟩ ou H nm m tc ec vc kc
theorem MR.ok{fu:Int}{fc:FcT}{H:Hm}{nm:Nm2}{m:Ms}{ou:Outer}(h:MR fu fc ou H nm m):OuOk ou:=h.ex.choose_spec.choose_spec.choose_spec.choose_spec.choose_spec.2.2.w.ok
structure PR (ou:Outer)(m:Ms):Prop where
 ok:OuOk ou
 m0:∃tc ec vc kc fu fc,ou 0=some (.cells (mC tc ec vc kc m.out m.steps fu fc))
theorem M0.pr{fu:Int}{fc:FcT}{ou:Outer}{H:Hm}{nm:Nm2}{m:Ms}{tc ec vc kc:AC}(h:M0 fu fc ou H nm m tc ec vc kc):PR ou m:=⟨h.w.ok,⟨_,_,_,_,_,_,h.m0⟩⟩
def StQ (fu:Int)(fc:FcT)(H:Hm)(nm:Nm2)(x:Except Int Ms):FV->Outer->Prop:=fun r ou'=>r=unitF/\∃H' nm' m',x=.ok m'/\Mo H nm H' nm'/\MR fu fc ou' H' nm' m'
def StP (m:Ms)(x:Except Int Ms):List PanicEntry->Outer->Prop:=fun ps ou'=>∃c,x=.error c/\ps=trapE c/\PR ou' m
theorem M0.ouX{fu:Int}{fc:FcT}{ou:Outer}{H:Hm}{nm:Nm2}{m:Ms}{tc ec vc kc:AC}(h:M0 fu fc ou H nm m tc ec vc kc):ou=ouX (mC tc ec vc kc m.out m.steps fu fc) m.out.length ou:=Q7u h.m0
theorem KR.cell{H:Hm}{nm:Nm2}{t:Tr}{e:En}{d:List Vl}{k:List Fm}{c:AC}(h:KR H nm (.mk t e d::k) c):∃ec dc kc,c=.box [.box (cTr t),ec,.sl 1 dc,kc]/\ER H nm e ec/\VsR H nm d dc/\KR H nm k kc:=by
 cases h with
 |cons _ _ _ _ ec dc kc he hd hk=>exact⟨ec,dc,kc,rfl,he,hd,hk⟩
theorem MR.ofEv{fu:Int}{fc:FcT}{mc:List AC}{n:Nat}{ou0 ou':Outer}{H:Hm}{nm:Nm2}{m:Ms}{e:En}{s:Tr}{k:List Fm}{ec vc kc:AC}(w:WR (ouX mc n ou0) H nm m.heap)(he:ER H nm e ec)(hk:KR H nm k kc)(hv:vc.ids isO)(hf:fc.ids isO)
  (h0:ou' 0=some (.cells (mC (.box (cTr s)) ec vc kc m.out m.steps fu fc))) (h1:mc[4]?=some (.gs 1 (m.out.map cI) (.o fc.kt))) (h2:∀k,ou' (k+1)=ou0 (k+1)):MR fu fc ou' H nm { m with c:=.ev s e,k:=k }:=
 have hi:idsL isO (mC (.box (cTr s)) ec vc kc m.out m.steps fu fc):=by simp[mC,he.ids,hk.ids,hv,hf]
 ⟨fc.kt,_,_,_,_,.ev s e ec vc he,hk,⟨by simp,he.ids,hv,hk.ids⟩,h0,w.put hi h0 h1.symm h2⟩
theorem MR.ofRt{fu:Int}{fc:FcT}{mc:List AC}{n:Nat}{ou0 ou':Outer}{H:Hm}{nm:Nm2}{m:Ms}{v:Vl}{k:List Fm}{ec vc kc:AC}(w:WR (ouX mc n ou0) H nm m.heap)(he:VR H nm v vc)(hk:KR H nm k kc)(hv:ec.ids isO)(hf:fc.ids isO)
  (h0:ou' 0=some (.cells (mC nilPE ec vc kc m.out m.steps fu fc))) (h1:mc[4]?=some (.gs 1 (m.out.map cI) (.o fc.kt))) (h2:∀k,ou' (k+1)=ou0 (k+1)):MR fu fc ou' H nm { m with c:=.rt v,k:=k }:=
 have hi:idsL isO (mC nilPE ec vc kc m.out m.steps fu fc):=by simp[mC,he.ids,hk.ids,hv,hf,nilPE]
 ⟨fc.kt,_,_,_,_,.rt v ec vc he,hk,⟨trivial,hv,he.ids,hk.ids⟩,h0,w.put hi h0 h1.symm h2⟩
theorem Qcq(hΓ:∀g cs,(g,cs)∈Γ->idsL isO cs){fu:Int}{fc:FcT}{fns:List Fun}{ou:Outer}{H:Hm}{nm:Nm2}{m:Ms}{tc0 ec0 vc0 kc0:AC}(h0:M0 fu fc ou H nm m tc0 ec0 vc0 kc0)(hfc:fc.ids isO)
  {t:Tr}{e:En}{d:List Vl}{k:List Fm}{ec:AC}{dc:List (List AC)}{kc:AC}(he:ER H nm e ec) (hd:VsR H nm d dc) (hk:KR H nm k kc){s:Tr}(hlt:d.length < opdN t) (hs:t.kids[d.length]?=some s):
  AFnP Tryz.prog Γ 86 [.one (.ptr (.o 0) 0),.one (.box [.box (cTr t),ec,.sl 1 dc,kc])] ou (StQ fu fc H nm (kidM fu fns m (.mk t e d) k)) (StP m (kidM fu fns m (.mk t e d) k)):=by
 have hoX:=h0.ouX
 have hei:=he.ids
 have hdi:=hd.ids
 have hki:=hk.ids
 have hdl:=hd.len
 rw[hoX]
 have hw:=h0.w
 rw[hoX]at hw
 generalize hmc:ou=ou0 at hw
 clear hoX
 refine AFnP.walk 262 tabOk hΓ Tryz.func86 rfl (by kernel_rfl) rfl rfl fun hou=>?_
 refine zA ?_
 refine ACode.drawX tabOk 10 [(9,.one (int (opdN t)))] follows (by kernel_rfl) rfl rfl rfl rfl ?_ ?_
 ·exact⟨⟨_,rfl,AStep.callPure hΓ rfl rfl rfl (by simp[idsF]) hou (Q2r t)⟩,trivial⟩
 refine zA ?_
 refine ACode.cond rfl (fun hb=>?_) (fun hb=>absurd hb (by simp[hdl];exact hlt))
 refine zA ?_
 have hsc:(Q1i t.kids)[d.length]?=some [.box (cTr s)]:=Q20 hs
 generalize hM:ouX (mC tc0 ec0 vc0 kc0 m.out m.steps fu fc) m.out.length ou0=ou1 at hou hw ⊢
 subst hM
 refine ACode.drawC2 tabOk 28 [24,25,26,27] [(15,.one (.box [.box (cTr s)]))] (fun vs σ=>match vs with
   |[]=>σ=⟨0,[],ouX (mC tc0 ec0 vc0 kc0 m.out m.steps fu fc) m.out.length ou0⟩
   |[_]=>σ=⟨0,[],ouX (mC (.box (cTr s)) ec0 vc0 kc0 m.out m.steps fu fc) m.out.length ou0⟩
   |[_,v]=>v=.one (.ptr (.o 0) 0)/\σ=⟨0,[],ouX (mC (.box (cTr s)) ec0 vc0 kc0 m.out m.steps fu fc) m.out.length ou0⟩
   |[_,v,w]=>v=.one (.ptr (.o 0) 0)/\w=.one (.ptr (.o 0) 1)/\σ=⟨0,[],ouX (mC (.box (cTr s)) ec0 vc0 kc0 m.out m.steps fu fc) m.out.length ou0⟩
   |[_,v,w,_]=>v=.one (.ptr (.o 0) 0)/\w=.one (.ptr (.o 0) 1)/\σ=⟨0,[],ouX (mC (.box (cTr s)) ec vc0 kc0 m.out m.steps fu fc) m.out.length ou0⟩
   |_=>False) follows (by kernel_rfl) rfl rfl (by decide) (by kernel_rfl) (by kernel_rfl) rfl rfl ?_ ?_ (by decide) ?_ ?_
 ·intro vs σ h
  match vs with
  |[]=>subst h;rfl
  |[_]=>subst h;rfl
  |[_,_]=>obtain⟨_,rfl⟩:=h;rfl
  |[_,_,_]=>obtain⟨_,_,rfl⟩:=h;rfl
  |[_,_,_,_]=>obtain⟨_,_,rfl⟩:=h;rfl
  |_::_::_::_::_::_=>exact h.elim
 ·intro vs σ h
  exact⟨⟨_,rfl,zIA rfl rfl rfl (by omega) (by simpa[hdl]using hsc)⟩,trivial⟩
 ·intro vs σ h i o hi ho
  match vs with
  |[]=>subst h;cases hi;cases ho;exact⟨rfl,.inl (.inl ⟨.bot,_,AStep.ofStore tabOk rfl,setX _ _ _ _⟩)⟩
  |[_]=>subst h;cases hi;cases ho;exact⟨rfl,.inl (.inl ⟨_,_,AStep.ofOp tabOk rfl,rfl,rfl⟩)⟩
  |[_,_]=>obtain⟨rfl,rfl⟩:=h;cases hi;cases ho;exact⟨rfl,.inl (.inl ⟨_,_,AStep.ofOp tabOk rfl,rfl,rfl,rfl⟩)⟩
  |[_,_,_]=>obtain⟨rfl,rfl,rfl⟩:=h;cases hi;cases ho;exact⟨rfl,.inl (.inl ⟨.bot,_,AStep.ofStore tabOk rfl,rfl,rfl,setX _ _ _ _⟩)⟩
  |_::_::_::_::_=>cases hi
 ·intro vs σ hl h
  match vs with
  |[_,_,_,_]=>
   obtain⟨rfl,rfl,rfl⟩:=h
   refine zA ?_
   have hM:MR fu fc _ H nm { m with c:=.ev s e,k:=.mk t e d::k }:=MR.ofEv (ou':=(St.set ⟨0,[],ouX (mC (.box (cTr s)) ec vc0 kc0 m.out m.steps fu fc) m.out.length ou0⟩ (.o 0) (.cells (mC (.box (cTr s)) ec vc0 (.box [.box (cTr t),ec,.sl 1 dc,kc]) m.out m.steps fu fc))).ou) hw he (.cons t e d k ec dc kc he hd hk) h0.ids.2.2.1 hfc rfl rfl (fun _=>rfl)
   refine AFn.fin' rfl (WkF.refl _) (by simp) hM.ok ⟨rfl,H,nm,_,?_,.refl _ _,hM⟩
   unfold kidM
   rw[if_pos (show (Fm.mk t e d).done.length < opdN (Fm.mk t e d).t from hlt)]
   simp only[Fm.done_mk,Fm.t_mk,Fm.e_mk]
   rw[List.getD_eq_getElem?_getD,hs]
   rfl
  |[]|[_]|[_,_]|[_,_,_]=>cases hl
  |_::_::_::_::_::_=>exact h.elim
theorem ACode.stEq{E:Env}{c:Code}{K:Cont}{fr:Fr}{σ σ':St}(h:σ=σ')(k:ACode E c K fr σ'):ACode E c K fr σ:=h▸k
theorem AOps.stEq{E:Env}{ops:Array Oper}{l:List Oper}{K:Cont}{fr:Fr}{σ σ':St}(h:σ=σ')(k:AOps E ops l K fr σ'):AOps E ops l K fr σ:=h▸k
def GrP (mc:List AC)(n:Nat)(ou0:Outer)(H:Hm)(mc':List AC)(R:FV->Hm->Prop):FV->St->Prop:=fun v σ=>∃ou1 H1,σ=⟨0,[],ouX mc' n ou1⟩/\Gro (ouX mc n ou0) H (ouX mc n ou1) H1/\R v H1
theorem GrP.of{mc:List AC}{n:Nat}{ou0 ou':Outer}{H H1:Hm}{R:FV->Hm->Prop}{v:FV}(g:Gro (ouX mc n ou0) H ou' H1)(h:R v H1):GrP mc n ou0 H mc R v ⟨0,[],ou'⟩:=by
 have e:=Q7u (n:=n) (g.old 0 _ rfl)
 refine⟨ou',H1,by rw[←e],?_,h⟩
 rw[←e];exact g
section
variable {fu:Int}{fc:FcT}{fns:List Fun}{ou:Outer}{H:Hm}{nm:Nm2}{m:Ms}{tc0 ec0 vc0 kc0:AC}{t:Tr}{e:En}{d:List Vl}{k:List Fm}{ec:AC}{dc:List (List AC)}{kc:AC}
theorem kid_let(hΓ:∀g cs,(g,cs)∈Γ->idsL isO cs)(h0:M0 fu fc ou H nm m tc0 ec0 vc0 kc0)(hfc:fc.ids isO)(he:ER H nm e ec)(hd:VsR H nm d dc)(hk:KR H nm k kc){v:Vl}(hdv:d=[v]){s:Tr}{id:Int}(h4:t.op=4)(hs:t.kids[1]?=some s)(hbn:t.binds=[id]):
  AFnP Tryz.prog Γ 86 [.one (.ptr (.o 0) 0),.one (.box [.box (cTr t),ec,.sl 1 dc,kc])] ou (StQ fu fc H nm (kidM fu fns m (.mk t e d) k)) (StP m (kidM fu fns m (.mk t e d) k)):=by
 have hoX:=h0.ouX
 have hei:=he.ids
 have hdi:=hd.ids
 have hki:=hk.ids
 have hdl:=hd.len
 have hop:opdN t=1:=by unfold opdN;rw[if_pos (.inl h4)]
 subst hdv
 obtain⟨y,hy,hvy⟩:=hd.get (i:=0) rfl
 rw[hoX]
 have hw:=h0.w
 rw[hoX]at hw
 generalize hmc:ou=ou0 at hw
 clear hoX
 refine AFnP.walk 262 tabOk hΓ Tryz.func86 rfl (by kernel_rfl) rfl rfl fun hou=>?_
 refine zA ?_
 refine ACode.drawX tabOk 10 [(9,.one (int (opdN t)))] follows (by kernel_rfl) rfl rfl rfl rfl ?_ ?_
 ·exact⟨⟨_,rfl,AStep.callPure hΓ rfl rfl rfl (by simp[idsF]) hou (Q2r t)⟩,trivial⟩
 refine zA ?_
 refine ACode.cond rfl (fun hb=>absurd hb (by simp[hdl,hop])) (fun hb=>?_)
 refine zA ?_
 refine ACode.stEq (σ':=⟨0,[],ouX (mC tc0 ec0 vc0 kc m.out m.steps fu fc) m.out.length ou0⟩) (setX _ _ _ _) ?_
 have hw1:WR (ouX (mC tc0 ec0 vc0 kc m.out m.steps fu fc) m.out.length ou0) H nm m.heap:=hw.put (by simp[mC,h0.ids.1,h0.ids.2.1,h0.ids.2.2.1,hki,hfc]) rfl rfl (fun _=>rfl)
 have hyi:=hvy.ids
 have hsc:(Q1i t.kids)[1]?=some [.box (cTr s)]:=Q20 hs
 have hbc:(t.binds.map cI)[0]?=some [int id]:=by rw[hbn];rfl
 refine ACode.cond rfl (fun _=>?_) (fun hb=>absurd hb (by simp[h4]))
 refine ACode.drawCS tabOk 34 30 31 32 33 (.one (.ptr (.o 0) 0)) (.one (.ptr (.o 0) 0)) [(9,.one (.box [.box (cTr s)])),(22,.one (.box [int id])),(28,.one (.box [y]))]
  (GrP (mC tc0 ec0 vc0 kc m.out m.steps fu fc) m.out.length ou0 H (mC tc0 ec0 vc0 kc m.out m.steps fu fc) fun v H1=>∃q,v=.one (.ptr (.o q) 0)/\H1 q=some [int id,y,ec])
  (GrP (mC tc0 ec0 vc0 kc m.out m.steps fu fc) m.out.length ou0 H (mC (.box (cTr s)) ec0 vc0 kc m.out m.steps fu fc) fun v H1=>∃q,v=.one (.ptr (.o q) 0)/\H1 q=some [int id,y,ec])
  follows (by kernel_rfl) rfl rfl (by decide) (by kernel_rfl) (by kernel_rfl) rfl rfl rfl rfl rfl rfl rfl ?_ ?_ ?_ ?_ ?_ ?_ ?_ ?_ ?_ ?_
 ·rintro v σ ⟨ou1,H1,rfl,_,_⟩;rfl
 ·rintro v σ ⟨ou1,H1,rfl,_,_⟩;rfl
 ·exact⟨⟨_,rfl,zIA rfl rfl rfl (by decide) hsc⟩,⟨_,rfl,zIA rfl rfl rfl (by decide) hbc⟩,⟨_,rfl,zIA rfl rfl rfl (by decide) hy⟩,trivial⟩
 ·rintro v σ ⟨ou1,H1,rfl,_,_⟩
  exact⟨⟨_,rfl,zIA rfl rfl rfl (by decide) hsc⟩,⟨_,rfl,zIA rfl rfl rfl (by decide) hbc⟩,⟨_,rfl,zIA rfl rfl rfl (by decide) hy⟩,trivial⟩
 ·rintro v σ ⟨ou1,H1,rfl,_,_⟩
  exact⟨⟨_,rfl,zIA rfl rfl rfl (by decide) hsc⟩,⟨_,rfl,zIA rfl rfl rfl (by decide) hbc⟩,⟨_,rfl,zIA rfl rfl rfl (by decide) hy⟩,trivial⟩
 ·refine Q0u.ofR (Q0y.call hΓ rfl rfl rfl rfl ⟨hei,trivial,hyi,trivial⟩ hw1.ok (Qau id y ec hyi hei _) fun r ou' hq hr ho=>?_)
  obtain⟨q,rfl,hN⟩:=hq
  exact GrP.of (Gro.add hw1.inO hN) ⟨q,rfl,by simp[addH]⟩
 ·rintro v σ ⟨ou1,H1,rfl,_,q,rfl,_⟩;exact AStep.ofOp tabOk rfl
 ·rintro v σ ⟨ou1,H1,rfl,_,q,rfl,_⟩;exact AStep.ofOp tabOk rfl
 ·rintro v σ ⟨ou1,H1,rfl,h1,h2⟩;exact⟨_,⟨ou1,H1,setX _ _ _ _,h1,h2⟩,AStep.ofStore tabOk rfl⟩
 ·rintro v' σ ⟨ou1,H1,rfl,h1,q,rfl,h3⟩
  refine zA ?_
  have hw2:=hw1.gro h1 (by simp[ouX]) (by simp[ouX])
  have hM:MR fu fc _ H1 nm { m with c:=.ev s (.bind id v e),k:=k }:=MR.ofEv (ou':=(St.set ⟨0,[],ouX (mC (.box (cTr s)) ec0 vc0 kc m.out m.steps fu fc) m.out.length ou1⟩ (.o 0) (.cells (mC (.box (cTr s)) (.ptr (.o q) 0) vc0 kc m.out m.steps fu fc))).ou) hw2 (.bind id v e q y ec h3 (hvy.mo (h1.mo nm)) (he.mo (h1.mo nm))) (hk.mo (h1.mo nm)) h0.ids.2.2.1 hfc rfl rfl (fun _=>rfl)
  refine AFn.fin' rfl (WkF.refl _) (by simp) hM.ok ⟨rfl,H1,nm,_,?_,h1.mo nm,hM⟩
  unfold kidM
  rw[if_neg (show ¬(Fm.mk t e [v]).done.length < opdN (Fm.mk t e [v]).t by simp[hop]),if_pos (show (Fm.mk t e [v]).t.op=4 from h4)]
  simp only[Fm.done_mk,Fm.t_mk,Fm.e_mk,hbn]
  rw[List.getD_eq_getElem?_getD,hs]
  rfl
end
theorem setXs(N:Nat)(lo:List (Nat×AObj))(mc mc':List AC)(n:Nat)(ou:Outer):(⟨N,lo,ouX mc n ou⟩:St).set (.o 0) (.cells mc')=⟨N,lo,ouX mc' n ou⟩:=by
 have:=setX mc mc' n ou
 simp only[St.set,St.mk.injEq,true_and]at this ⊢
 exact this
def GrS (mc:List AC)(n:Nat)(ou0:Outer)(H:Hm)(mc':List AC)(L:Nat×List (Nat×AObj))(R:FV->Hm->Prop):FV->St->Prop:=fun v σ=>∃ou1 H1,σ=⟨L.1,L.2,ouX mc' n ou1⟩/\Gro (ouX mc n ou0) H (ouX mc n ou1) H1/\R v H1
theorem GrS.of{mc:List AC}{n:Nat}{ou0 ou':Outer}{H H1:Hm}{L:Nat×List (Nat×AObj)}{R:FV->Hm->Prop}{v:FV}(g:Gro (ouX mc n ou0) H ou' H1)(h:R v H1):GrS mc n ou0 H mc L R v ⟨L.1,L.2,ou'⟩:=by
 have e:=Q7u (n:=n) (g.old 0 _ rfl)
 refine⟨ou',H1,by rw[←e],?_,h⟩
 rw[←e];exact g
section
variable {fu:Int}{fc:FcT}{fns:List Fun}{ou:Outer}{H:Hm}{nm:Nm2}{m:Ms}{tc0 ec0 vc0 kc:AC}{t:Tr}{e:En}{d:List Vl}{k:List Fm}{ec:AC}{dc:List (List AC)}
theorem Qak{tag:Int}{fs:List Vl}{e:En}{kids:List Tr}{a:Alt}{al:List Alt}{i:Nat}(h:al.drop i=a::al.drop (i+1))(h1:a.tag≠tag)(h2:a.tag≠-1):Q19 tag fs e kids i (al.drop i)=Q19 tag fs e kids (i+1) (al.drop (i+1)):=by
 rw[h,Q19,if_neg h1,if_neg h2]
theorem Qe6{v:Vl}(h:∀g fs,v≠.obj g fs):Q2c m t e v=.error 5:=by cases v <;> first|rfl|exact absurd rfl (h _ _)
theorem Qh2(hΓ:∀g cs,(g,cs)∈Γ->idsL isO cs)(h0:M0 fu fc ou H nm m tc0 ec0 vc0 kc)(hfc:fc.ids isO)(he:ER H nm e ec)(hd:VsR H nm d dc)(hk:KR H nm k kc){v:Vl}(hdv:d[0]?=some v)(hkl:t.kids.length=1+t.alts.length)(hal:t.alts.length<=1048576)(hbl:∀a∈t.alts,a.binds.length<=1048576)(nx:AC)(hnx:nx.ids isO):
  AFnP Tryz.prog Γ 108 [.one (.ptr (.o 0) 0),.one (.box [.box (cTr t),ec,.sl 1 dc,nx])] ou (StQ fu fc H nm (Q2c { m with k:=k } t e v)) (StP m (Q2c { m with k:=k } t e v)):=by
 have hoX:=h0.ouX
 have hei:=he.ids
 have hdi:=hd.ids
 have hki:=hk.ids
 have hpr:=h0.pr
 obtain⟨y,hy,hvy⟩:=hd.get hdv
 have hyi:=hvy.ids
 rw[hoX]at hpr ⊢
 have hw:=h0.w
 rw[hoX]at hw
 generalize hmc:ou=ou0 at hw hpr
 clear hoX
 refine AFnP.walk 120 tabOk hΓ Tryz.func108 rfl (by kernel_rfl) rfl rfl fun hou=>?_
 refine zA ?_
 refine zS (zIA rfl rfl rfl (by decide) hy) ?_
 refine zA ?_
 rcases hvy.isObj with ⟨g,fs,cs,rfl,rfl,hfs⟩|⟨ho,hno⟩
 ·refine zS (AStep.assertYes Q3g rfl rfl) ?_
  have hci:=hfs.ids
  have hcl:=hfs.len
  have hfcell:(FV.one (.box [.box (cTr t),ec,.sl 1 dc,nx])).ids isO:=⟨by simp,hei,hdi,hnx,trivial⟩
  have hocell:(FV.one (.box [int g,.sl 1 cs])).ids isO:=⟨trivial,hci,trivial⟩
  refine zA ?_
  refine ACode.loopR hΓ (α:=Nat) (fun i=>[(30,.one (int i)),(29,.one (int (t.alts.map cAlt).length)),(28,.one (.sl 2 (t.alts.map cAlt))),(4,.one (.box [int g,.sl 1 cs])),(1,.one (.box [.box (cTr t),ec,.sl 1 dc,nx])),(0,.one (.ptr (.o 0) 0))])
   (fun i => ⟨0, [], ouX (mC tc0 ec0 vc0 kc m.out m.steps fu fc) m.out.length ou0⟩) (fun n i => i <= t.alts.length /\ Q19 g fs e t.kids i (t.alts.drop i) = Q19 g fs e t.kids 0 t.alts /\ n = t.alts.length - i) (a0 := 0) (ρ := _root_.id) ⟨by simp, by simp, rfl⟩
   (LessR.of rfl zFW (by simp [Q2b hei, Q4a hdi, Q2b hnx, Q4a hci]) zLO rfl rfl hou) fun n i hi => ?_
  obtain⟨hil,hch,rfl⟩:=hi
  refine zA ?_
  refine ACode.cond rfl (fun hb2=>?_) (fun hb2=>?_)
  ·have hlt:i < t.alts.length:=by simpa using hb2
   clear hb2
   obtain⟨a,ha⟩:=Q01 hlt
   have hdr:t.alts.drop i=a::t.alts.drop (i+1):=by
    rw[List.drop_eq_getElem_cons hlt]
    congr 1
    exact Option.some.inj ((List.getElem?_eq_getElem hlt).symm.trans ha)
   refine zA ?_
   refine zS (zIA rfl rfl rfl (by omega) (Q06 ha)) ?_
   refine zA ?_
   have hk1:1+i < t.kids.length:=by omega
   obtain⟨s,hs⟩:=Q01 hk1
   have hsc:(Q1i t.kids)[1+i]?=some [.box (cTr s)]:=Q20 hs
   have hgd:t.kids.getD (1+i) default=s:=by rw[List.getD_eq_getElem?_getD,hs];rfl
   have hadd:Q3b .i64 ((1:Int)+(i:Int)):=Q2a (by omega) (by omega)
   have hix:(Q1i t.kids)[((1:Int)+(i:Int)).toNat]?=some [.box (cTr s)]:=by rw[show ((1:Int)+(i:Int)).toNat=1+i by omega];exact hsc
   by_cases htag:a.tag=g
   ·refine ACode.drawX tabOk 18 [(6,.one (.lit (.bool true)))] follows (by kernel_rfl) rfl rfl rfl rfl ?_ ?_
    ·exact .step rfl (HStep.litB tabOk rfl (by simp[htag])) .nil
    refine zA ?_
    refine ACode.cond rfl (fun hb3=>?_) (fun hb3=>?_)
    ·refine zA ?_
     refine zS (AStep.mkIfcA Q0k rfl rfl) ?_
     refine AOps.panicI rfl rfl rfl fun w C v hv=>⟨hou,5,?_,Q0l hv,hpr⟩
     unfold Q2c
     simp only[←hch]
     rw[hdr,Q19,if_pos htag,if_neg (by simp[hcl]at hb3;omega)]
     rfl
    ·have hlen:a.binds.length=fs.length:=by simp[hcl]at hb3;omega
     refine zA ?_
     refine ACode.drawX tabOk 7 [(6,.one (.lit (.bool true)))] follows (by kernel_rfl) rfl rfl rfl rfl ?_ ?_
     ·exact .step rfl (HStep.litB tabOk rfl (by simp[htag])) .nil
     refine zA ?_
     refine ACode.drawCS tabOk 27 23 24 25 26 (.one (.ptr (.o 0) 0)) (.one (.ptr (.o 0) 0)) [(10,.one (int ((1:Int)+(i:Int)))),(11,.one (.box [.box (cTr s)]))]
      (GrS (mC tc0 ec0 vc0 kc m.out m.steps fu fc) m.out.length ou0 H (mC tc0 ec0 vc0 kc m.out m.steps fu fc) (1,[(0,.cells (cAlt a)),(0,.cells [int 0,.lit (.slice none 0 0)])]) fun v H1=>∃c,v=.one c/\ER H1 nm (allE e a.binds fs) c)
      (GrS (mC tc0 ec0 vc0 kc m.out m.steps fu fc) m.out.length ou0 H (mC (.box (cTr s)) ec0 vc0 kc m.out m.steps fu fc) (1,[(0,.cells (cAlt a)),(0,.cells [int 0,.lit (.slice none 0 0)])]) fun v H1=>∃c,v=.one c/\ER H1 nm (allE e a.binds fs) c)
      follows (by kernel_rfl) rfl rfl (by decide) (by kernel_rfl) (by kernel_rfl) rfl rfl rfl rfl rfl rfl rfl ?_ ?_ ?_ ?_ ?_ ?_ ?_ ?_ ?_ ?_
     ·rintro v σ ⟨ou1,H1,rfl,_,_⟩;rfl
     ·rintro v σ ⟨ou1,H1,rfl,_,_⟩;rfl
     ·exact⟨⟨_,rfl,AStep.arith rfl rfl rfl (.inl ⟨rfl,rfl⟩) hadd⟩,⟨_,rfl,zIA rfl rfl rfl (by omega) hix⟩,trivial⟩
     ·rintro v σ ⟨ou1,H1,rfl,_,_⟩
      exact⟨⟨_,rfl,AStep.arith rfl rfl rfl (.inl ⟨rfl,rfl⟩) hadd⟩,⟨_,rfl,zIA rfl rfl rfl (by omega) hix⟩,trivial⟩
     ·rintro v σ ⟨ou1,H1,rfl,_,_⟩
      exact⟨⟨_,rfl,AStep.arith rfl rfl rfl (.inl ⟨rfl,rfl⟩) hadd⟩,⟨_,rfl,zIA rfl rfl rfl (by omega) hix⟩,trivial⟩
     ·refine Q0u.ofR (Q0y.call hΓ rfl rfl rfl rfl ⟨hei,by simp,hci,trivial⟩ hw.ok (Qan hΓ he hfs hlen (hbl a (List.mem_of_getElem? ha)) _ hw.inO) fun r ou' hq hr ho=>?_)
      obtain⟨H1,c,rfl,hg,hec⟩:=hq
      exact GrS.of hg ⟨c,rfl,hec⟩
     ·rintro v σ ⟨ou1,H1,rfl,_,_,rfl,_⟩;exact AStep.ofOp tabOk rfl
     ·rintro v σ ⟨ou1,H1,rfl,_,_,rfl,_⟩;exact AStep.ofOp tabOk rfl
     ·rintro v σ ⟨ou1,H1,rfl,h1,h2⟩;exact⟨_,⟨ou1,H1,setXs _ _ _ _ _ _,h1,h2⟩,AStep.ofStore tabOk rfl⟩
     ·rintro v' σ ⟨ou1,H1,rfl,h1,c,rfl,h3⟩
      refine zA ?_
      have hw2:=hw.gro h1 (by simp[ouX]) (by simp[ouX])
      have hM:MR fu fc _ H1 nm { m with c:=.ev s (allE e a.binds fs),k:=k }:=MR.ofEv (ou':=(St.set ⟨0,[],ouX (mC (.box (cTr s)) ec0 vc0 kc m.out m.steps fu fc) m.out.length ou1⟩ (.o 0) (.cells (mC (.box (cTr s)) c vc0 kc m.out m.steps fu fc))).ou) hw2 h3 (hk.mo (h1.mo nm)) h0.ids.2.2.1 hfc rfl rfl (fun _=>rfl)
      refine AFn.fin' rfl (WkF.refl _) (by simp) hM.ok ⟨rfl,H1,nm,_,?_,h1.mo nm,hM⟩
      unfold Q2c
      simp only[←hch]
      rw[hdr,Q19,if_pos htag,if_pos hlen,hgd]
      rfl
   ·refine ACode.drawX tabOk 18 [(6,.one (.lit (.bool false)))] follows (by kernel_rfl) rfl rfl rfl rfl ?_ ?_
    ·exact .step rfl (HStep.litB tabOk rfl (by simp[htag])) .nil
    refine zA ?_
    refine ACode.drawX tabOk 7 [(6,.one (.lit (.bool false)))] follows (by kernel_rfl) rfl rfl rfl rfl ?_ ?_
    ·exact .step rfl (HStep.litB tabOk rfl (by simp[htag])) .nil
    refine zA ?_
    refine ACode.cond rfl (fun hb3=>?_) (fun hb3=>?_)
    ·have h1:a.tag=-1:=by simpa using hb3
     refine zA ?_
     refine ACode.drawSt tabOk 20 19 [(10,.one (int ((1:Int)+(i:Int)))),(11,.one (.box [.box (cTr s)]))] _ follows (by kernel_rfl) rfl rfl (by kernel_rfl) rfl ?_ rfl rfl rfl rfl ?_ ?_ (AStep.ofStore tabOk rfl) ?_
     ·rfl
     ·exact⟨⟨_,rfl,AStep.arith rfl rfl rfl (.inl ⟨rfl,rfl⟩) hadd⟩,⟨_,rfl,zIA rfl rfl rfl (by omega) hix⟩,trivial⟩
     ·exact⟨⟨_,rfl,AStep.arith rfl rfl rfl (.inl ⟨rfl,rfl⟩) hadd⟩,⟨_,rfl,zIA rfl rfl rfl (by omega) hix⟩,trivial⟩
     refine zA ?_
     have hM:MR fu fc _ H nm { m with c:=.ev s e,k:=k }:=MR.ofEv (ou':=(St.set (St.set ⟨0,[],ouX (mC tc0 ec0 vc0 kc m.out m.steps fu fc) m.out.length ou0⟩ (.o 0) (.cells (mC (.box (cTr s)) ec0 vc0 kc m.out m.steps fu fc))) (.o 0) (.cells (mC (.box (cTr s)) ec vc0 kc m.out m.steps fu fc))).ou) hw he hk h0.ids.2.2.1 hfc rfl rfl (fun _=>rfl)
     refine AFn.fin' rfl (WkF.refl _) (by simp) hM.ok ⟨rfl,H,nm,_,?_,.refl _ _,hM⟩
     unfold Q2c
     simp only[←hch]
     rw[hdr,Q19,if_neg htag,if_pos h1,hgd]
     rfl
    ·have h1:a.tag≠-1:=by simpa using hb3
     refine zM ?_
     exact cInv ⟨t.alts.length - (i+1),i+1,fun k=>k,by omega,⟨by omega,by rw[←Qak hdr htag h1];exact hch,rfl⟩,LessR.of rfl zFW (by simp[Q2b hei,Q4a hdi,Q2b hnx,Q4a hci]) zLO rfl rfl hou⟩
  ·have hlt:i=t.alts.length:=by simp at hb2;omega
   subst hlt
   refine zA ?_
   refine zS (AStep.mkIfcA Q0k rfl rfl) ?_
   refine AOps.panicI rfl rfl rfl fun w C v hv=>⟨hou,3,?_,Q0l hv,hpr⟩
   rw[List.drop_length]at hch
   unfold Q2c
   simp only[←hch,Q19]
   rfl
 ·refine zS (AStep.assertNo Q3g rfl zObj rfl rfl hno) ?_
  refine zA ?_
  refine zS (AStep.mkIfcA Q0k rfl rfl) ?_
  refine AOps.panicI rfl rfl rfl fun w C v hv=>⟨hou,5,?_,Q0l hv,hpr⟩
  exact Qe6 ho
end
section
variable {fu:Int}{fc:FcT}{fns:List Fun}{ou:Outer}{H:Hm}{nm:Nm2}{m:Ms}{tc0 ec0 vc0 kc:AC}{k:List Fm}
theorem ouX_2{mc mc':List AC}{n n' q:Nat}{ou:Outer}(h:1<=q):ouX mc n ou q=ouX mc' n' ou q:=by
 obtain⟨j,rfl⟩:∃j,q=j+1:=⟨q - 1,by omega⟩
 rfl
theorem WR.ge2{ou:Outer}{H:Hm}{nm:Nm2}{heap:List (List Vl)}(w:WR ou H nm heap){q:Nat}{cs:List AC}(h:H q=some cs):1<=q:=by
 match q with
 |0=>rw[w.sep.1]at h;cases h
 |q+1=>omega
def Q8j (fu:Int)(fc:FcT)(fns:List Fun)(ou:Outer)(H:Hm)(nm:Nm2)(m:Ms)(k:List Fm)(v:Vl)(vc:AC)(l:List Vl)(cs:List (List AC))(Γ:List (Nat×List AC)):Prop:=
 AFnP Tryz.prog Γ 109 [.one (.ptr (.o 0) 0),.one vc,.one (.sl 1 cs)] ou (StQ fu fc H nm (callM fns { m with k:=k } v l)) (StP m (callM fns { m with k:=k } v l))
theorem Qiw(hΓ:∀g cs,(g,cs)∈Γ->idsL isO cs)(h0:M0 fu fc ou H nm m tc0 ec0 vc0 kc)(hfc:fc.ids isO)(hk:KR H nm k kc){t:Tr}{e:En}{c:AC}{l:List Vl}{cs:List (List AC)}(he:ER H nm e c)(hl:VsR H nm l cs){s:Tr}(hs:t.kids[0]?=some s)(hb20:t.binds.length<=1048576):
  Q8j fu fc fns ou H nm m k (.clo t e) (iB tClo [.box (cTr t),c]) l cs Γ:=by
 unfold Q8j
 have hoX:=h0.ouX
 have hei:=he.ids
 have hli:=hl.ids
 have hki:=hk.ids
 have hll:=hl.len
 have hpr:=h0.pr
 rw[hoX]at hpr ⊢
 have hw:=h0.w
 rw[hoX]at hw
 generalize hmc:ou=ou0 at hw hpr
 clear hoX
 have hsc:(Q1i t.kids)[0]?=some [.box (cTr s)]:=Q20 hs
 refine AFnP.walk 137 tabOk hΓ Tryz.func109 rfl (by kernel_rfl) rfl rfl fun hou=>?_
 refine zA ?_
 refine zS (AStep.assertYes Q3z rfl rfl) ?_
 refine zA ?_
 refine ACode.cond rfl (fun hb=>?_) (fun hb=>?_)
 ·have hlen:t.binds.length=l.length:=by simp[hll]at hb;omega
  refine zA ?_
  refine ACode.drawCS tabOk 27 23 24 25 26 (.one (.ptr (.o 0) 0)) (.one (.ptr (.o 0) 0)) [(9,.one (.box [.box (cTr s)]))]
   (GrS (mC tc0 ec0 vc0 kc m.out m.steps fu fc) m.out.length ou0 H (mC tc0 ec0 vc0 kc m.out m.steps fu fc) (1,[(0,.cells [.ptr (.o 0) 0])]) fun v H1=>∃c,v=.one c/\ER H1 nm (allE e t.binds l) c)
   (GrS (mC tc0 ec0 vc0 kc m.out m.steps fu fc) m.out.length ou0 H (mC (.box (cTr s)) ec0 vc0 kc m.out m.steps fu fc) (1,[(0,.cells [.ptr (.o 0) 0])]) fun v H1=>∃c,v=.one c/\ER H1 nm (allE e t.binds l) c)
   follows (by kernel_rfl) rfl rfl (by decide) (by kernel_rfl) (by kernel_rfl) rfl rfl rfl rfl rfl rfl rfl ?_ ?_ ?_ ?_ ?_ ?_ ?_ ?_ ?_ ?_
  ·rintro v σ ⟨ou1,H1,rfl,_,_⟩;rfl
  ·rintro v σ ⟨ou1,H1,rfl,_,_⟩;rfl
  ·exact⟨⟨_,rfl,zIA rfl rfl rfl (by decide) hsc⟩,trivial⟩
  ·rintro v σ ⟨ou1,H1,rfl,hg,_⟩
   skip
   exact⟨⟨_,rfl,zIA rfl rfl rfl (by decide) hsc⟩,trivial⟩
  ·rintro v σ ⟨ou1,H1,rfl,hg,_⟩
   skip
   exact⟨⟨_,rfl,zIA rfl rfl rfl (by decide) hsc⟩,trivial⟩
  ·refine Q0u.ofR (Q0y.call hΓ rfl rfl rfl rfl ⟨hei,by simp,hli,trivial⟩ hw.ok (Qan hΓ he hl hlen hb20 _ hw.inO) fun r ou' hq hr ho=>?_)
   obtain⟨H1,c1,rfl,hg,hec⟩:=hq
   exact GrS.of hg ⟨c1,rfl,hec⟩
  ·rintro v σ ⟨ou1,H1,rfl,_,_,rfl,_⟩;exact AStep.ofOp tabOk rfl
  ·rintro v σ ⟨ou1,H1,rfl,_,_,rfl,_⟩;exact AStep.ofOp tabOk rfl
  ·rintro v σ ⟨ou1,H1,rfl,h1,h2⟩;exact⟨_,⟨ou1,H1,setXs _ _ _ _ _ _,h1,h2⟩,AStep.ofStore tabOk rfl⟩
  ·rintro v' σ ⟨ou1,H1,rfl,h1,c1,rfl,h3⟩
   refine zA ?_
   have hw2:=hw.gro h1 (by simp[ouX]) (by simp[ouX])
   have hM:MR fu fc _ H1 nm { m with c:=.ev s (allE e t.binds l),k:=k }:=MR.ofEv (ou':=(St.set ⟨0,[],ouX (mC (.box (cTr s)) ec0 vc0 kc m.out m.steps fu fc) m.out.length ou1⟩ (.o 0) (.cells (mC (.box (cTr s)) c1 vc0 kc m.out m.steps fu fc))).ou) hw2 h3 (hk.mo (h1.mo nm)) h0.ids.2.2.1 hfc rfl rfl (fun _=>rfl)
   refine AFn.fin' rfl (WkF.refl _) (by simp) hM.ok ⟨rfl,H1,nm,_,?_,h1.mo nm,hM⟩
   simp only[callM]
   rw[if_pos hlen,List.getD_eq_getElem?_getD,hs]
   rfl
 ·have hlen:¬t.binds.length=l.length:=by simp[hll]at hb;omega
  refine zA ?_
  refine zS (AStep.mkIfcA Q0k rfl rfl) ?_
  refine AOps.panicI rfl rfl rfl fun w C v hv=>⟨hou,5,?_,Q0l hv,hpr⟩
  simp only[callM]
  rw[if_neg hlen]
theorem Qh4(hΓ:∀g cs,(g,cs)∈Γ->idsL isO cs)(h0:M0 fu fc ou H nm m tc0 ec0 vc0 kc)(hfc:fc.ids isO)(hk:KR H nm k kc){t:Tr}{e:En}{c:AC}{l:List Vl}{cs:List (List AC)}{q:Nat}(hq:H q=some [.box (cTr t),c])(he:ER H nm e c)(hl:VsR H nm l cs){s:Tr}(hs:t.kids[0]?=some s)(hb20:t.binds.length<=1048576):
  Q8j fu fc fns ou H nm m k (.clo t e) (.ifc tClo false [.ptr (.o q) 0]) l cs Γ:=by
 unfold Q8j
 have hoX:=h0.ouX
 have hei:=he.ids
 have hli:=hl.ids
 have hki:=hk.ids
 have hll:=hl.len
 have hpr:=h0.pr
 rw[hoX]at hpr ⊢
 have hw:=h0.w
 rw[hoX]at hw
 generalize hmc:ou=ou0 at hw hpr
 clear hoX
 have hsc:(Q1i t.kids)[0]?=some [.box (cTr s)]:=Q20 hs
 have hx:=hw.inO q _ hq
 refine AFnP.walk 137 tabOk hΓ Tryz.func109 rfl (by kernel_rfl) rfl rfl fun hou=>?_
 refine zA ?_
 refine zS (AStep.assertYes Q3z rfl rfl) ?_
 repeat' first|refine zN ?_|((with_reducible refine oj ?_);first|refine zix ?_|refine zow rfl rfl hx ?_)
 refine ACode.cond rfl (fun hb=>?_) (fun hb=>?_)
 ·have hlen:t.binds.length=l.length:=by simp[hll]at hb;omega
  refine zA ?_
  refine ACode.drawCS tabOk 27 23 24 25 26 (.one (.ptr (.o 0) 0)) (.one (.ptr (.o 0) 0)) [(5,.one (.box (cTr t))),(14,.one c),(18,.one (.box (cTr t))),(9,.one (.box [.box (cTr s)]))]
   (GrS (mC tc0 ec0 vc0 kc m.out m.steps fu fc) m.out.length ou0 H (mC tc0 ec0 vc0 kc m.out m.steps fu fc) (1,[(0,.cells [.ptr (.o 0) 0])]) fun v H1=>∃c,v=.one c/\ER H1 nm (allE e t.binds l) c)
   (GrS (mC tc0 ec0 vc0 kc m.out m.steps fu fc) m.out.length ou0 H (mC (.box (cTr s)) ec0 vc0 kc m.out m.steps fu fc) (1,[(0,.cells [.ptr (.o 0) 0])]) fun v H1=>∃c,v=.one c/\ER H1 nm (allE e t.binds l) c)
   follows (by kernel_rfl) rfl rfl (by decide) (by kernel_rfl) (by kernel_rfl) rfl rfl rfl rfl rfl rfl rfl ?_ ?_ ?_ ?_ ?_ ?_ ?_ ?_ ?_ ?_
  ·rintro v σ ⟨ou1,H1,rfl,_,_⟩;rfl
  ·rintro v σ ⟨ou1,H1,rfl,_,_⟩;rfl
  ·exact⟨⟨_,rfl,zLD rfl rfl hx rfl⟩,⟨_,rfl,zLD rfl rfl hx rfl⟩,⟨_,rfl,zLD rfl rfl hx rfl⟩,⟨_,rfl,zIA rfl rfl rfl (by decide) hsc⟩,trivial⟩
  ·rintro v σ ⟨ou1,H1,rfl,hg,_⟩
   have hx1:=hg.old _ _ hx
   exact⟨⟨_,rfl,zLD rfl rfl hx1 rfl⟩,⟨_,rfl,zLD rfl rfl hx1 rfl⟩,⟨_,rfl,zLD rfl rfl hx1 rfl⟩,⟨_,rfl,zIA rfl rfl rfl (by decide) hsc⟩,trivial⟩
  ·rintro v σ ⟨ou1,H1,rfl,hg,_⟩
   have hx1:ouX (mC (.box (cTr s)) ec0 vc0 kc m.out m.steps fu fc) m.out.length ou1 q=some (.cells [.box (cTr t),c]):=(ouX_2 (hw.ge2 hq)).trans (hg.old _ _ hx)
   exact⟨⟨_,rfl,zLD rfl rfl hx1 rfl⟩,⟨_,rfl,zLD rfl rfl hx1 rfl⟩,⟨_,rfl,zLD rfl rfl hx1 rfl⟩,⟨_,rfl,zIA rfl rfl rfl (by decide) hsc⟩,trivial⟩
  ·refine Q0u.ofR (Q0y.call hΓ rfl rfl rfl rfl ⟨hei,by simp,hli,trivial⟩ hw.ok (Qan hΓ he hl hlen hb20 _ hw.inO) fun r ou' hq hr ho=>?_)
   obtain⟨H1,c1,rfl,hg,hec⟩:=hq
   exact GrS.of hg ⟨c1,rfl,hec⟩
  ·rintro v σ ⟨ou1,H1,rfl,_,_,rfl,_⟩;exact AStep.ofOp tabOk rfl
  ·rintro v σ ⟨ou1,H1,rfl,_,_,rfl,_⟩;exact AStep.ofOp tabOk rfl
  ·rintro v σ ⟨ou1,H1,rfl,h1,h2⟩;exact⟨_,⟨ou1,H1,setXs _ _ _ _ _ _,h1,h2⟩,AStep.ofStore tabOk rfl⟩
  ·rintro v' σ ⟨ou1,H1,rfl,h1,c1,rfl,h3⟩
   refine zA ?_
   have hw2:=hw.gro h1 (by simp[ouX]) (by simp[ouX])
   have hM:MR fu fc _ H1 nm { m with c:=.ev s (allE e t.binds l),k:=k }:=MR.ofEv (ou':=(St.set ⟨0,[],ouX (mC (.box (cTr s)) ec0 vc0 kc m.out m.steps fu fc) m.out.length ou1⟩ (.o 0) (.cells (mC (.box (cTr s)) c1 vc0 kc m.out m.steps fu fc))).ou) hw2 h3 (hk.mo (h1.mo nm)) h0.ids.2.2.1 hfc rfl rfl (fun _=>rfl)
   refine AFn.fin' rfl (WkF.refl _) (by simp) hM.ok ⟨rfl,H1,nm,_,?_,h1.mo nm,hM⟩
   simp only[callM]
   rw[if_pos hlen,List.getD_eq_getElem?_getD,hs]
   rfl
 ·have hlen:¬t.binds.length=l.length:=by simp[hll]at hb;omega
  refine zA ?_
  refine zS (AStep.mkIfcA Q0k rfl rfl) ?_
  refine AOps.panicI rfl rfl rfl fun w C v hv=>⟨hou,5,?_,Q0l hv,hpr⟩
  simp only[callM]
  rw[if_neg hlen]
theorem Qix{v:Vl}{l:List Vl}(h1:∀t e,v≠.clo t e)(h2:∀n s,v≠.cap n s)(h3:(∀fs,v≠.res fs)∨l.length≠1):callM fns { m with k:=k } v l=.error 5:=by
 cases v with
 |clo t e=>exact absurd rfl (h1 t e)
 |cap n s=>exact absurd rfl (h2 n s)
 |res fs=>
  rcases h3 with h3|h3
  ·exact absurd rfl (h3 fs)
  ·match l,h3 with
   |[],_=>rfl
   |[a],h3=>exact absurd rfl h3
   |a::b::l,_=>rfl
 |nil=>rfl
 |word n=>rfl
 |obj g fs=>rfl
 |row ls fs=>rfl
 |arr a=>rfl
theorem Qh3(hΓ:∀g cs,(g,cs)∈Γ->idsL isO cs)(h0:M0 fu fc ou H nm m tc0 ec0 vc0 kc){v:Vl}{vc:AC}{l:List Vl}{cs:List (List AC)}(hv:VR H nm v vc)(hl:VsR H nm l cs)(h1:∀t e,v≠.clo t e)(h2:∀n s,v≠.cap n s)(h3:(∀fs,v≠.res fs)∨l.length≠1):
  Q8j fu fc fns ou H nm m k v vc l cs Γ:=by
 unfold Q8j
 have hno:=Qix (fns:=fns) (m:=m) (k:=k) h1 h2 h3
 have hpr:=h0.pr
 have hll:=hl.len
 refine AFnP.walk 137 tabOk hΓ Tryz.func109 rfl (by kernel_rfl) rfl rfl fun hou=>?_
 refine zA ?_
 have n1:notT tClo vc:=by
  rcases hv.isClo with ⟨t,e,rfl⟩|⟨_,h⟩
  ·exact absurd rfl (h1 t e)
  ·exact h
 have n2:notT tCap vc:=by
  rcases hv.isCap with ⟨n,fs,cs,rfl,_⟩|⟨_,h⟩
  ·exact absurd rfl (h2 n fs)
  ·exact h
 refine zS (AStep.assertNo Q3z rfl zClo rfl rfl n1) ?_
 refine zA ?_
 refine zS (AStep.assertNo Q3h rfl zCap rfl rfl n2) ?_
 refine zA ?_
 rcases hv.isRes with ⟨fs,lc,rfl,rfl,hf⟩|⟨_,n3⟩
 ·have hne:l.length≠1:=h3.resolve_left (fun h=>h fs rfl)
  refine zS (AStep.assertYes Qh1 rfl rfl) ?_
  refine zA ?_
  refine ACode.cond rfl (fun hb=>absurd hb (by simp[hll];omega)) (fun hb=>?_)
  refine zA ?_
  refine zS (AStep.mkIfcA Q0k rfl rfl) ?_
  exact AOps.panicI rfl rfl rfl fun w C v hv=>⟨hou,5,hno,Q0l hv,hpr⟩
 ·refine zS (AStep.assertNo Qh1 rfl zRes rfl rfl n3) ?_
  refine zA ?_
  refine zS (AStep.mkIfcA Q0k rfl rfl) ?_
  exact AOps.panicI rfl rfl rfl fun w C v hv=>⟨hou,5,hno,Q0l hv,hpr⟩
end
theorem AFnP.toF{P:Program}{g:Nat}{args:List FV}{ou:Outer}{Q:FV->Outer->Prop}{QP:List PanicEntry->Outer->Prop}(h:AFnP P Γ g args ou Q QP)(hn:∀ps ou',¬QP ps ou'):AFn P Γ g args ou Q:=
 ⟨h.1,fun F w C cargs h0 hi hr=>(h.2 F w C cargs h0 hi hr).mono fun e w' hh=>hh.elim id fun ⟨ps,ou',C',_,_,_,_,hq⟩=>(hn _ _ hq).elim⟩
theorem AFnP.okStep{fu:Int}{fc:FcT}{H:Hm}{nm:Nm2}{m:Ms}{x:Except Int Ms}{m':Ms}{g:Nat}{args:List FV}{ou:Outer}(h:AFnP Tryz.prog Γ g args ou (StQ fu fc H nm x) (StP m x))(hx:x=.ok m'):AFn Tryz.prog Γ g args ou (StQ fu fc H nm x):=
 AFnP.toF h fun ps ou' ⟨c,hc,_⟩=>by rw[hx]at hc;cases hc
def inW (n:Int):Prop:=-1073741824<=n/\n<=1073741823
section
variable {H:Hm}{nm:Nm2}
theorem VsR.nilE{cs:List (List AC)}(h:VsR H nm [] cs):cs=[]:=by cases h;rfl
theorem VsR.consE{v:Vl}{l:List Vl}{cs:List (List AC)}(h:VsR H nm (v::l) cs):∃c ds,cs=[c]::ds/\VR H nm v c/\VsR H nm l ds:=by
 cases h with
 |cons _ c _ ds hv hl=>exact⟨c,ds,rfl,hv,hl⟩
theorem VR.wordE{n:Int}{c:AC}(h:VR H nm (.word n) c):c=iW n:=by cases h;rfl
theorem Qca(hΓ:∀g cs,(g,cs)∈Γ->idsL isO cs){fu:Int}{m m':Ms}{n x y:Int}{v:Vl}(hn:n=0∨n=1∨n=2∨n=5∨n=6)(hx:inW x)(hy:inW y)(hv:primM fu m n [.word x,.word y]=.ok (m',v))(ou:Outer):
  m'=m/\∃c,VR H nm v c/\AFn Tryz.prog Γ 136 [.one (.ptr (.o 0) 0),.one (int n),.one (.sl 1 [[iW x],[iW y]])] ou (fun r ou'=>r=.one c/\ou'=ou):=by
 obtain⟨hx0,hx1⟩:=hx
 obtain⟨hy0,hy1⟩:=hy
 have hm1:-2305843009213693952<=x * y/\x * y<=2305843009213693952:=by
  have h1:(x * y).natAbs<=1073741824 * 1073741824:=by
   rw[Int.natAbs_mul];exact Nat.mul_le_mul (by omega) (by omega)
  omega
 have w1:=wrapW
 rcases hn with rfl|rfl|rfl|rfl|rfl
 ·cases hv
  refine⟨rfl,iW (wrapW (x+y)),.word _,?_⟩
  refine AFn.walk 152 tabOk Tryz.func136 rfl (by kernel_rfl) rfl rfl fun hou=>?_
  refine zA ?_
  refine ACode.drawX tabOk 11 [(1,.one (.box [iW x])),(3,.one (int x)),(5,.one (.box [iW y])),(7,.one (int y)),(8,.one (int (x+y))),(9,.one (int (wrapW (x+y)))),(10,.one (iW (wrapW (x+y))))] follows (by kernel_rfl) rfl rfl rfl rfl ?_ ?_
  ·exact⟨⟨_,rfl,zIA rfl rfl rfl (by decide) rfl⟩,⟨_,rfl,AStep.callPure hΓ rfl rfl rfl (by simp[idsF,iW]) hou (Q0d x)⟩,⟨_,rfl,zIA rfl rfl rfl (by decide) rfl⟩,⟨_,rfl,AStep.callPure hΓ rfl rfl rfl (by simp[idsF,iW]) hou (Q0d y)⟩,⟨_,rfl,AStep.arith rfl rfl rfl (.inl ⟨rfl,rfl⟩) zI⟩,⟨_,rfl,AStep.callPure hΓ rfl rfl rfl (by simp[idsF]) hou (Q6e _ (by omega) (by omega))⟩,⟨_,rfl,AStep.mkIfc conc3 rfl rfl⟩,trivial⟩
  refine zA ?_
  exact AFn.fin' rfl (WkF.ofEq rfl) (by simp[iW]) hou ⟨rfl,rfl⟩
 ·cases hv
  refine⟨rfl,iW (wrapW (x - y)),.word _,?_⟩
  refine AFn.walk 152 tabOk Tryz.func136 rfl (by kernel_rfl) rfl rfl fun hou=>?_
  refine zA ?_
  refine ACode.drawX tabOk 11 [(1,.one (.box [iW x])),(3,.one (int x)),(5,.one (.box [iW y])),(7,.one (int y)),(8,.one (int (x - y))),(9,.one (int (wrapW (x - y)))),(10,.one (iW (wrapW (x - y))))] follows (by kernel_rfl) rfl rfl rfl rfl ?_ ?_
  ·exact⟨⟨_,rfl,zIA rfl rfl rfl (by decide) rfl⟩,⟨_,rfl,AStep.callPure hΓ rfl rfl rfl (by simp[idsF,iW]) hou (Q0d x)⟩,⟨_,rfl,zIA rfl rfl rfl (by decide) rfl⟩,⟨_,rfl,AStep.callPure hΓ rfl rfl rfl (by simp[idsF,iW]) hou (Q0d y)⟩,⟨_,rfl,AStep.arith rfl rfl rfl (.inr (.inl ⟨rfl,rfl⟩)) zI⟩,⟨_,rfl,AStep.callPure hΓ rfl rfl rfl (by simp[idsF]) hou (Q6e _ (by omega) (by omega))⟩,⟨_,rfl,AStep.mkIfc conc3 rfl rfl⟩,trivial⟩
  refine zA ?_
  exact AFn.fin' rfl (WkF.ofEq rfl) (by simp[iW]) hou ⟨rfl,rfl⟩
 ·cases hv
  refine⟨rfl,iW (wrapW (x * y)),.word _,?_⟩
  refine AFn.walk 152 tabOk Tryz.func136 rfl (by kernel_rfl) rfl rfl fun hou=>?_
  refine zA ?_
  refine ACode.drawX tabOk 11 [(1,.one (.box [iW x])),(3,.one (int x)),(5,.one (.box [iW y])),(7,.one (int y)),(8,.one (int (x * y))),(9,.one (int (wrapW (x * y)))),(10,.one (iW (wrapW (x * y))))] follows (by kernel_rfl) rfl rfl rfl rfl ?_ ?_
  ·exact⟨⟨_,rfl,zIA rfl rfl rfl (by decide) rfl⟩,⟨_,rfl,AStep.callPure hΓ rfl rfl rfl (by simp[idsF,iW]) hou (Q0d x)⟩,⟨_,rfl,zIA rfl rfl rfl (by decide) rfl⟩,⟨_,rfl,AStep.callPure hΓ rfl rfl rfl (by simp[idsF,iW]) hou (Q0d y)⟩,⟨_,rfl,AStep.arith rfl rfl rfl (.inr (.inr ⟨rfl,rfl⟩)) zI⟩,⟨_,rfl,AStep.callPure hΓ rfl rfl rfl (by simp[idsF]) hou (Q6e _ (by omega) (by omega))⟩,⟨_,rfl,AStep.mkIfc conc3 rfl rfl⟩,trivial⟩
  refine zA ?_
  exact AFn.fin' rfl (WkF.ofEq rfl) (by simp[iW]) hou ⟨rfl,rfl⟩
 ·cases hv
  refine⟨rfl,iB tObj [int (if decide (x < y)then 1 else 0),.sl 1 []],.obj _ [] [] .nil,?_⟩
  refine AFn.walk 152 tabOk Tryz.func136 rfl (by kernel_rfl) rfl rfl fun hou=>?_
  refine zA ?_
  refine ACode.drawX tabOk 10 [(1,.one (.box [iW x])),(3,.one (int x)),(5,.one (.box [iW y])),(7,.one (int y)),(9,.one (iB tObj [int (if decide (x < y)then 1 else 0),.sl 1 []]))] follows (by kernel_rfl) rfl rfl rfl rfl ?_ ?_
  ·exact⟨⟨_,rfl,zIA rfl rfl rfl (by decide) rfl⟩,⟨_,rfl,AStep.callPure hΓ rfl rfl rfl (by simp[idsF,iW]) hou (Q0d x)⟩,⟨_,rfl,zIA rfl rfl rfl (by decide) rfl⟩,⟨_,rfl,AStep.callPure hΓ rfl rfl rfl (by simp[idsF,iW]) hou (Q0d y)⟩,⟨_,rfl,AStep.callPure hΓ rfl rfl rfl (by simp[idsF]) hou (Q62 _)⟩,trivial⟩
  refine zA ?_
  exact AFn.fin' rfl (WkF.ofEq rfl) (by simp[iB]) hou ⟨rfl,rfl⟩
 ·cases hv
  refine⟨rfl,iB tObj [int (if decide (x=y)then 1 else 0),.sl 1 []],.obj _ [] [] .nil,?_⟩
  refine AFn.walk 152 tabOk Tryz.func136 rfl (by kernel_rfl) rfl rfl fun hou=>?_
  refine zA ?_
  refine ACode.drawX tabOk 10 [(1,.one (.box [iW x])),(3,.one (int x)),(5,.one (.box [iW y])),(7,.one (int y)),(9,.one (iB tObj [int (if decide (x=y)then 1 else 0),.sl 1 []]))] follows (by kernel_rfl) rfl rfl rfl rfl ?_ ?_
  ·exact⟨⟨_,rfl,zIA rfl rfl rfl (by decide) rfl⟩,⟨_,rfl,AStep.callPure hΓ rfl rfl rfl (by simp[idsF,iW]) hou (Q0d x)⟩,⟨_,rfl,zIA rfl rfl rfl (by decide) rfl⟩,⟨_,rfl,AStep.callPure hΓ rfl rfl rfl (by simp[idsF,iW]) hou (Q0d y)⟩,⟨_,rfl,AStep.callPure hΓ rfl rfl rfl (by simp[idsF]) hou (Q62 _)⟩,trivial⟩
  refine zA ?_
  exact AFn.fin' rfl (WkF.ofEq rfl) (by simp[iB]) hou ⟨rfl,rfl⟩
end
end Go.Proofs.YtkgjldchcbfpnaaGreatDoor
namespace Go.Abs
section
variable {E:Env}{o:Oper}{fr:Fr}{σ:St}{t T0 el yt:TypeId}{x y:Operand}
theorem AStep.assert1{c:AC}(hc:E.P.concrete t=true)(ho:o.op=.typeAssert x T0 t false)(hx:aEval E.Γ fr x=some (.one (.ifc t false [c]))):AStep E o fr σ (.one c) σ:=by
 refine AStep.quiet fun F w C tmps hi hf=>?_
 obtain⟨d,hd⟩:=Q2m hc
 obtain⟨xs,h1,h2⟩:=Q00 (a:=⟨tmps,E.ds⟩) hi hf hx
 simp only[RV]at h1
 obtain⟨u,us,rfl,h3,rfl⟩:=h1
 rcases h2 with ⟨h2,_⟩|⟨_,v,hv,h2⟩
 ·cases h2
 ·cases hv
  refine⟨u,?_,h3⟩
  have hrun:(Instr.typeAssert (.iface t u) T0 t false).run E.P w=.ok u w:=by
   unfold Program.concrete at hc
   rw[hd]at hc
   cases d <;> first|(simp at hc;done)|simp[Instr.typeAssert,run_underlying hd]
  unfold execOp
  simp[ho,h2,hrun]
theorem AStep.nePtr{i j:Id}{cs ds:List AC}{tj:TI}(hT:TabOk E.P E.T)(ht:E.P.underlying t=some (.pointer el))(htj:Tab.get el E.T=some tj)(hsz:Nat.beq tj.size 0=false)(ho:o.op=.binOp .neq t x y yt)(hx:aEval E.Γ fr x=some (.one (.ptr i 0)))(hy:aEval E.Γ fr y=some (.one (.ptr j 0)))
  (hi1:σ.get i=some (.cells cs)) (hj1:σ.get j=some (.cells ds)) (hne:i≠j):AStep E o fr σ (.one (.lit (.bool true))) σ:=by
 refine AStep.quiet fun F w C tmps hi hf=>⟨.bool true,?_,rfl,rfl⟩
 have h1:=Q00 (a:=⟨tmps,E.ds⟩) hi hf hx
 have h2:=Q00 (a:=⟨tmps,E.ds⟩) hi hf hy
 simp only[RF,R]at h1 h2
 obtain⟨xs,T,b1,_⟩:=(hi.obj i _ hi1).2
 obtain⟨ys,T',b2,_⟩:=(hi.obj j _ hj1).2
 obtain⟨inf,d,z,hte,_,hz3,_⟩:=(hT _ _ htj).ex
 have hsz:inf.size≠0:=fun e=>by rw[hz3]at e;rw[e]at hsz;cases hsz
 have hb:C.blk i≠C.blk j:=fun e=>hne (hi.inj i j _ _ (C.blk i) hi1 hj1 rfl (by simp only[AObj.block];rw[e]))
 have h:∀d:Nat,(Op.equalIn (d+1) t (.pointer (some ⟨C.blk i,0,none⟩)) (.pointer (some ⟨C.blk j,0,none⟩))).run E.P w=.ok false w:=fun d=>by
  simp[Op.equalIn,run_underlying ht,sizeOf,typeInfo,hte,hsz,run_sameAddr_other w (a:=⟨C.blk i,0,none⟩) (b:=⟨C.blk j,0,none⟩) (fun e=>hb (congrArg Addr.block e)) b1 b2]
 unfold execOp
 simp only[ho,h1.2,h2.2,eqGuard_at_pointer,Sem.run_bind,Sem.run_pure,Result.andThen_ok]
 simp[binOp,Op.equal,Op.maxDepth,h 9999]
theorem AStep.neSame{i:Id}{tj:TI}(hT:TabOk E.P E.T)(ht:E.P.underlying t=some (.pointer el))(htj:Tab.get el E.T=some tj)(ho:o.op=.binOp .neq t x y yt)(hx:aEval E.Γ fr x=some (.one (.ptr i 0)))(hy:aEval E.Γ fr y=some (.one (.ptr i 0))):AStep E o fr σ (.one (.lit (.bool false))) σ:=by
 refine AStep.quiet fun F w C tmps hi hf=>⟨.bool false,?_,rfl,rfl⟩
 have h1:=Q00 (a:=⟨tmps,E.ds⟩) hi hf hx
 have h2:=Q00 (a:=⟨tmps,E.ds⟩) hi hf hy
 simp only[RF,R]at h1 h2
 obtain⟨inf,d,z,hte,_⟩:=(hT _ _ htj).ex
 have h:∀d:Nat,(Op.equalIn (d+1) t (.pointer (some ⟨C.blk i,0,none⟩)) (.pointer (some ⟨C.blk i,0,none⟩))).run E.P w=.ok true w:=fun d=>by
  simp[Op.equalIn,run_underlying ht,sizeOf,typeInfo,hte,run_sameAddr_same]
 unfold execOp
 simp only[ho,h1.2,h2.2,eqGuard_at_pointer,Sem.run_bind,Sem.run_pure,Result.andThen_ok]
 simp[binOp,Op.equal,Op.maxDepth,h 9999]
end
end Go.Abs
namespace Go.Proofs.YtkgjldchcbfpnaaGreatDoor
open Go Go.Abs Go.CoreX
variable {Γ:List (Nat×List AC)}
section
variable {fu:Int}{fc:FcT}{fns:List Fun}{ou:Outer}{H:Hm}{nm:Nm2}{m:Ms}{ec vc kc:AC}{t:Tr}{e:En}
theorem StQ.fin{E:Env}{fn:Func}{fr:Fr}{σ:St}{H':Hm}{nm':Nm2}{x:Except Int Ms}{m':Ms}(h:aRes E.T fr σ fn.results.toList=some unitF)(hx:x=.ok m')(hm:Mo H nm H' nm')(hM:MR fu fc σ.ou H' nm' m'):Fin E fn (StQ fu fc H nm x) fr σ:=
 AFn.fin' h (WkF.refl _) (by simp[unitF]) hM.ok ⟨rfl,H',nm',m',hx,hm,hM⟩
def Q43 (fu:Int)(fc:FcT)(ou:Outer)(H:Hm)(nm:Nm2)(m':Ms)(Γ:List (Nat×List AC)):Prop:=AFn Tryz.prog Γ 88 [.one (.ptr (.o 0) 0)] ou (StQ fu fc H nm (.ok m'))
theorem Q9t(hΓ:∀g cs,(g,cs)∈Γ->idsL isO cs)(h0:M0 fu fc ou H nm m (.box (cTr t)) ec vc kc)(hfc:fc.ids isO)(hk:KR H nm m.k kc)(h1:t.op=1):Q43 fu fc ou H nm { m with c:=.rt (.word t.n) } Γ:=by
 unfold Q43
 have hoX:=h0.ouX
 rw[hoX]
 have hw:=h0.w
 rw[hoX]at hw
 generalize hmc:ou=ou0 at hw
 clear hoX
 refine AFn.walk 149 tabOk Tryz.func88 rfl (by kernel_rfl) rfl rfl fun hou=>?_
 cases t with
 |mk to tn tb tk ta=>
 obtain rfl:to=1:=h1
 refine zA ?_
 refine zS (AStep.mkIfc conc3 rfl rfl) ?_
 refine zA ?_
 exact StQ.fin rfl rfl (.refl _ _) (MR.ofRt hw (.word tn) hk h0.ids.2.1 hfc rfl rfl (fun _=>rfl))
theorem Qex(hΓ:∀g cs,(g,cs)∈Γ->idsL isO cs)(h0:M0 fu fc ou H nm m (.box (cTr t)) ec vc kc)(hfc:fc.ids isO)(he:ER H nm e ec)(hk:KR H nm m.k kc)(h1:t.op=2):Q43 fu fc ou H nm { m with c:=.rt (.clo t e) } Γ:=by
 unfold Q43
 have hei:=he.ids
 have hoX:=h0.ouX
 rw[hoX]
 have hw:=h0.w
 rw[hoX]at hw
 generalize hmc:ou=ou0 at hw
 clear hoX
 refine AFn.walk 149 tabOk Tryz.func88 rfl (by kernel_rfl) rfl rfl fun hou=>?_
 cases t with
 |mk to tn tb tk ta=>
 obtain rfl:to=2:=h1
 repeat ((fail_if_success ((with_reducible refine oj ?_);refine AOps.atDst 69 rfl ?_));first|refine zO ?_)
 refine AOps.freeze1 (.l 0) 68 rfl rfl ?_
 refine zS (AStep.mkIfc Q3z rfl rfl) ?_
 refine zA ?_
 exact StQ.fin rfl rfl (.refl _ _) (MR.ofRt hw (.clo _ e ec he) hk h0.ids.2.1 hfc rfl rfl (fun _=>rfl))
theorem Q9s(hΓ:∀g cs,(g,cs)∈Γ->idsL isO cs)(h0:M0 fu fc ou H nm m (.box (cTr t)) ec vc kc)(hfc:fc.ids isO)(he:ER H nm e ec)(hk:KR H nm m.k kc)(h1:t.op=0):Q43 fu fc ou H nm { m with c:=.rt (findE t.n e) } Γ:=by
 unfold Q43
 have hei:=he.ids
 have hki:=hk.ids
 have hoX:=h0.ouX
 rw[hoX]
 have hw:=h0.w
 rw[hoX]at hw
 generalize hmc:ou=ou0 at hw
 clear hoX
 obtain⟨l,hch,hfd⟩:=he.ch
 have hv:=hfd t.n
 have hvi:=hv.ids
 refine AFn.walk 149 tabOk Tryz.func88 rfl (by kernel_rfl) rfl rfl fun hou=>?_
 cases t with
 |mk to tn tb tk ta=>
 obtain rfl:to=0:=h1
 have hw1:WR (ouX (mC nilPE ec vc kc m.out m.steps fu fc) m.out.length ou0) H nm m.heap:=hw.put (by simp[mC,h0.ids.2.2.1,hei,hki,hfc,nilPE]) rfl rfl (fun _=>rfl)
 refine zA ?_
 refine ACode.drawSt tabOk 14 13 [(10,.one (lookI tn l))] _ follows (by kernel_rfl) rfl rfl (by kernel_rfl) rfl ?_ rfl rfl rfl rfl ?_ ?_ (AStep.ofStore tabOk rfl) ?_
 ·rfl
 ·exact⟨⟨_,rfl,AStep.callE hΓ rfl rfl rfl rfl ⟨hei,trivial,trivial⟩ hou (Qgv hΓ hch tn _ hw.inO hei hvi)⟩,trivial⟩
 ·show Q0b _ _ _ (St.set ⟨0,[],ouX (mC (.box (cTr (.mk 0 tn tb tk ta))) ec vc kc m.out m.steps fu fc) m.out.length ou0⟩ (.o 0) (.cells (mC nilPE ec vc kc m.out m.steps fu fc))) _ _
  rw[setX]
  exact⟨⟨_,rfl,AStep.callE hΓ rfl rfl rfl rfl ⟨hei,trivial,trivial⟩ hw1.ok (Qgv hΓ hch tn _ hw1.inO hei hvi)⟩,trivial⟩
 refine zA ?_
 exact StQ.fin rfl rfl (.refl _ _) (MR.ofRt hw hv hk hei hfc rfl rfl (fun _=>rfl))
theorem Qey(hΓ:∀g cs,(g,cs)∈Γ->idsL isO cs)(h0:M0 fu fc ou H nm m (.box (cTr t)) ec vc kc)(he:ER H nm e ec)(hk:KR H nm m.k kc)(h1:¬(t.op=0∨t.op=1∨t.op=2∨t.op=17∨t.op=5)){x:Except Int Ms}
  (hkid:AFn Tryz.prog Γ 86 [.one (.ptr (.o 0) 0),.one (.box [.box (cTr t),ec,.sl 1 [],kc])] ou (StQ fu fc H nm x)):AFn Tryz.prog Γ 88 [.one (.ptr (.o 0) 0)] ou (StQ fu fc H nm x):=by
 have hei:=he.ids
 have hki:=hk.ids
 have hoX:=h0.ouX
 rw[hoX]at hkid ⊢
 generalize hmc:ou=ou0 at hkid
 clear hoX
 refine AFn.walk 149 tabOk Tryz.func88 rfl (by kernel_rfl) rfl rfl fun hou=>?_
 cases t with
 |mk to tn tb tk ta=>
 simp only[Tr.op]at h1
 have e0:to≠0:=fun e=>h1 (.inl e)
 have e1:to≠1:=fun e=>h1 (.inr (.inl e))
 have e2:to≠2:=fun e=>h1 (.inr (.inr (.inl e)))
 have e17:to≠17:=fun e=>h1 (.inr (.inr (.inr (.inl e))))
 have e5:to≠5:=fun e=>h1 (.inr (.inr (.inr (.inr e))))
 refine zA ?_
 refine ACode.cond rfl (fun hb=>absurd (by simpa using hb) e0) (fun _=>?_)
 refine zA ?_
 refine ACode.cond rfl (fun hb=>absurd (by simpa using hb) e1) (fun _=>?_)
 refine zA ?_
 refine ACode.cond rfl (fun hb=>absurd (by simpa using hb) e2) (fun _=>?_)
 refine zA ?_
 refine ACode.cond rfl (fun hb=>absurd (by simpa using hb) e17) (fun _=>?_)
 refine zA ?_
 refine ACode.cond rfl (fun hb=>absurd (by simpa using hb) e5) (fun _=>?_)
 refine zA ?_
 refine ACode.drawXH (va:=.one (.ptr (.l 0) 0)) (σ1:=St.push ⟨0,[],ouX (mC (.box (cTr (.mk to tn tb tk ta))) ec vc kc m.out m.steps fu fc) m.out.length ou0⟩ (.cells [.box (cTr (.mk to tn tb tk ta)),ec,.lit (.slice none 0 0),kc])) tabOk 12 11 [] follows (by kernel_rfl) rfl rfl rfl rfl rfl rfl rfl (HStep.auto tabOk rfl) trivial trivial ?_
 refine AOps.freeze1 (.l 0) 26 rfl rfl ?_
 refine AOps.wk 26 rfl (y:=.one (.box [.box (cTr (.mk to tn tb tk ta)),ec,.sl 1 [],kc])) (.one (Wk.box (.cons (.refl _) (.cons (.refl _) (.cons (.nilS 1) (.cons (.refl _) .nil)))))) ?_
 refine AOps.call1 hΓ rfl rfl rfl rfl rfl rfl rfl ⟨trivial,⟨by simp,hei,trivial,hki,trivial⟩,trivial⟩ hou hkid fun r ou' hq _ how=>?_
 obtain⟨rfl,H',nm',m',hx,hmo,hM⟩:=hq
 refine zA ?_
 exact StQ.fin rfl hx hmo hM
end
end Go.Proofs.YtkgjldchcbfpnaaGreatDoor
namespace Go.Abs
theorem CedFrN.consP{js:List Nat}{kk k:Nat}{y:FV}{fr r:Fr}(h:Fr.get k fr=some y)(hy:y.ids isO)(hr:CedFrN (toOs js kk) fr r):CedFrN (toOs js kk) fr ((k,y)::r):=
 .cons h (FV.sub_f (fun i hi=>by cases i with|l q=>exact hi.elim|o q=>rfl) y hy) hr
end Go.Abs
namespace Go.Proofs.YtkgjldchcbfpnaaGreatDoor
open Go Go.Abs Go.CoreX
variable {Γ:List (Nat×List AC)}
def recC (base:AC):List (Nat×Nat)->AC
 |[]=>base
 |(k,_)::_=>.ptr (.o k) 0
def clC (t:Tr)(i r:Nat)(top:AC):List AC:=[.box (cTr (t.kids.getD i default)),if i < r then nilPE else top]
def RecO (t:Tr)(base top:AC)(r:Nat)(ou:Outer):List (Nat×Nat)->Prop
 |[]=>True
 |(k,q)::l=>ou k=some (.cells [int (t.binds.getD l.length 0),.ifc tClo false [.ptr (.o q) 0],recC base l])/\ou q=some (.cells (clC t l.length r top))/\RecO t base top r ou l
def nms:List (Nat×Nat)->List Nat
 |[]=>[]
 |(k,q)::l=>k::q::nms l
theorem Q8y(a b:List (Nat×Nat)):nms (a++b)=nms a++nms b:=by
 induction a with
 |nil=>rfl
 |cons x a ih=>obtain⟨k,q⟩:=x;simp[nms,ih]
structure RecI (t:Tr)(base top:AC)(r:Nat)(L:List (Nat×Nat))(ou0 ou:Outer):Prop where
 o:RecO t base top r ou L
 nd:(nms L).Nodup
 new:∀k∈nms L,ou0 k=none
 old:∀k,k∉nms L->ou k=ou0 k
 ok:OuOk ou
section
variable {t:Tr}{base top:AC}
theorem Qc9(hb:base.ids isO):∀L:List (Nat×Nat),(recC base L).ids isO
 |[]=>hb
 |(k,q)::l=>trivial
theorem RecO.chg{r r':Nat}{ou ou':Outer}:∀{L:List (Nat×Nat)},RecO t base top r ou L->(∀k∈nms L,ou' k=ou k)->(∀i,i < L.length->(i < r↔i < r'))->RecO t base top r' ou' L
 |[],_,_,_=>trivial
 |(k,q)::l,⟨h1,h2,h3⟩,h,hr=>by
  refine⟨by rw[h k (by simp[nms])];exact h1,?_,RecO.chg h3 (fun j hj=>h j (by simp[nms,hj])) fun i hi=>hr i (by simp;omega)⟩
  rw[h q (by simp[nms]),h2]
  have:=hr l.length (by simp)
  unfold clC
  simp only[this]
theorem RecO.setTop{r r':Nat}{ou:Outer}(top':AC):∀{L:List (Nat×Nat)},RecO t base top r ou L->L.length<=r->L.length<=r'->RecO t base top' r' ou L
 |[],_,_,_=>trivial
 |(k,q)::l,⟨h1,h2,h3⟩,hr,hr'=>by
  simp only[List.length_cons]at hr hr'
  refine⟨h1,?_,RecO.setTop top' h3 (by omega) (by omega)⟩
  rw[h2]
  unfold clC
  rw[if_pos (by omega),if_pos (by omega)]
theorem RecO.hasC{r:Nat}{ou:Outer}:∀{L:List (Nat×Nat)},RecO t base top r ou L->∀k∈nms L,∃cs,ou k=some (.cells cs)
 |(k,q)::l,⟨h1,h2,h3⟩,j,hj=>by
  simp only[nms,List.mem_cons]at hj
  rcases hj with rfl|rfl|hj
  ·exact⟨_,h1⟩
  ·exact⟨_,h2⟩
  ·exact RecO.hasC h3 j hj
theorem RecO.split{r:Nat}{ou:Outer}:∀{a b:List (Nat×Nat)},RecO t base top r ou (a++b)->RecO t base top r ou b
 |[],b,h=>h
 |(k,q)::a,b,h=>RecO.split (a:=a) h.2.2
theorem RecO.chain{H':Hm}{ou:Outer}:∀{L:List (Nat×Nat)},RecO t base top 0 ou L->(∀k∈nms L,∀cs,ou k=some (.cells cs)->H' k=some cs)->RecC H' t top L.length (recC base L) base
 |[],_,_=>.zero _
 |(k,q)::l,⟨h1,h2,h3⟩,h=>by
  refine .succ l.length k q (recC base l) base (h k (by simp[nms]) _ h1) ?_ (RecO.chain h3 fun j hj=>h j (by simp[nms,hj]))
  have:=h q (by simp[nms]) _ h2
  simpa[clC]using this
theorem RecO.tie{k q:Nat}{l:List (Nat×Nat)}{ou ou':Outer}(hq:ou' q=some (.cells [.box (cTr (t.kids.getD l.length default)),top]))(ho:∀m,m≠q->ou' m=ou m):∀{a:List (Nat×Nat)},RecO t base top (l.length+1) ou (a++(k,q)::l)->(nms (a++(k,q)::l)).Nodup->RecO t base top l.length ou' (a++(k,q)::l)
 |[],⟨h1,h2,h3⟩,hn=>by
  simp only[List.nil_append,nms,List.nodup_cons,List.mem_cons]at hn
  refine⟨by rw[ho k (by rintro rfl;exact hn.1 (.inl rfl))];exact h1,by rw[hq];simp[clC],RecO.chg h3 (fun j hj=>ho j (by rintro rfl;exact hn.2.1 hj)) fun i hi=>by omega⟩
 |(k0,q0)::a,⟨h1,h2,h3⟩,hn=>by
  simp only[List.cons_append,nms,List.nodup_cons,List.mem_cons]at hn
  have hqm:q∈nms (a++(k,q)::l):=by rw[Q8y];simp[nms]
  refine⟨by rw[ho k0 (by rintro rfl;exact hn.1 (.inr hqm))];exact h1,?_,RecO.tie hq ho h3 hn.2.2⟩
  rw[ho q0 (by rintro rfl;exact hn.2.1 hqm),h2]
  unfold clC
  have hl:(a++(k,q)::l).length=a.length+l.length+1:=by simp;omega
  simp only[List.append_eq,hl]
  rw[if_neg (by omega),if_neg (by omega)]
theorem RecI.tie{k q:Nat}{l a:List (Nat×Nat)}{ou0 ou ou':Outer}(h:RecI t base top (l.length+1) (a++(k,q)::l) ou0 ou)(hq:ou' q=some (.cells [.box (cTr (t.kids.getD l.length default)),top]))(ho:∀m,m≠q->ou' m=ou m)(ht:top.ids isO):RecI t base top l.length (a++(k,q)::l) ou0 ou':=by
 have hqm:q∈nms (a++(k,q)::l):=by rw[Q8y];simp[nms]
 refine⟨h.o.tie hq ho h.nd,h.nd,h.new,fun j hj=>?_,fun j o hj=>?_⟩
 ·rw[ho j (by rintro rfl;exact hj hqm)];exact h.old j hj
 ·by_cases e:j=q
  ·subst e;rw[hq]at hj;cases hj;exact⟨by simp,ht,trivial⟩
  ·rw[ho j e]at hj;exact h.ok j o hj
theorem RecI.add{k q r:Nat}{L:List (Nat×Nat)}{ou0 ou ou1 ou2:Outer}{s:Tr}{x:Int}(h:RecI t base top r L ou0 ou)(hr:L.length < r)(hs:t.kids.getD L.length default=s)(hx:t.binds.getD L.length 0=x)(hN1:NewO ou ou1 [(q,.cells [.box (cTr s),nilPE])])(hN2:NewO ou1 ou2 [(k,.cells [int x,.ifc tClo false [.ptr (.o q) 0],recC base L])]):RecI t base top r ((k,q)::L) ou0 ou2:=by
 have hq0:ou q=none:=hN1.new q (by simp[keys])
 have hq1:ou1 q=some (.cells [.box (cTr s),nilPE]):=hN1.own (q,_) (by simp)
 have hk1:ou1 k=none:=hN2.new k (by simp[keys])
 have hk2:ou2 k=some (.cells [int x,.ifc tClo false [.ptr (.o q) 0],recC base L]):=hN2.own (k,_) (by simp)
 have hkq:k≠q:=by rintro rfl;rw[hq1]at hk1;cases hk1
 have hk0:ou k=none:=by rw[←hN1.old k (by simp[keys];exact hkq)];exact hk1
 have hqL:q∉nms L:=fun hm=>by obtain⟨cs,hc⟩:=h.o.hasC q hm;rw[hq0]at hc;cases hc
 have hkL:k∉nms L:=fun hm=>by obtain⟨cs,hc⟩:=h.o.hasC k hm;rw[hk0]at hc;cases hc
 have hold:∀m,m≠k->m≠q->ou2 m=ou m:=fun m h1 h2=>by rw[hN2.old m (by simp[keys];exact h1),hN1.old m (by simp[keys];exact h2)]
 refine⟨⟨by rw[hx];exact hk2,?_,h.o.chg (fun j hj=>hold j (by rintro rfl;exact hkL hj) (by rintro rfl;exact hqL hj)) fun _ _=>Iff.rfl⟩,?_,?_,?_,hN2.ok⟩
 ·rw[hN2.old q (by simp[keys];exact fun e=>hkq e.symm),hq1]
  unfold clC
  rw[if_pos hr,hs]
 ·simp only[nms,List.nodup_cons,List.mem_cons]
  exact⟨fun e=>e.elim hkq hkL,hqL,h.nd⟩
 ·intro j hj
  simp only[nms,List.mem_cons]at hj
  rcases hj with rfl|rfl|hj
  ·rw[←h.old j hkL];exact hk0
  ·rw[←h.old j hqL];exact hq0
  ·exact h.new j hj
 ·intro j hj
  simp only[nms,List.mem_cons,not_or]at hj
  rw[hold j hj.1 hj.2.1];exact h.old j hj.2.2
def recH (H:Hm)(ou:Outer)(L:List (Nat×Nat)):Hm:=fun k=>if k∈nms L then (match ou k with|some (.cells cs)=>some cs|_=>none)else H k
theorem RecI.gro{L:List (Nat×Nat)}{ou0 ou:Outer}{H:Hm}(h:RecI t base top 0 L ou0 ou)(hH:InOu H ou0):Gro ou0 H ou (recH H ou L):=by
 have hno:∀k cs,H k=some cs->k∉nms L:=fun k cs hk hm=>by have:=hH k cs hk;rw[h.new k hm]at this;cases this
 refine⟨fun k cs hk=>?_,fun k h1 h2=>?_,fun k o hk=>?_,fun k cs hk=>?_,h.ok,fun k o hk=>?_⟩
 ·unfold recH;rw[if_neg (hno k cs hk)];exact hk
 ·unfold recH at h2
  split at h2
  ·rename_i hm;exact h.new k hm
  ·exact absurd h1 h2
 ·rw[h.old k (fun hm=>by rw[h.new k hm]at hk;cases hk)];exact hk
 ·unfold recH at hk
  split at hk
  ·split at hk
   ·rename_i hc;cases hk;exact hc
   ·cases hk
  ·rename_i hm;rw[h.old k hm];exact hH k cs hk
 ·by_cases hm:k∈nms L
  ·obtain⟨cs,hc⟩:=h.o.hasC k hm
   rw[hc]at hk;cases hk;exact .inr trivial
  ·rw[h.old k hm]at hk;exact .inl hk
end
section
variable {fu:Int}{fc:FcT}{fns:List Fun}{ou:Outer}{H:Hm}{nm:Nm2}{m:Ms}{ec vc kc:AC}{t:Tr}{e:En}
theorem Qev(hΓ:∀g cs,(g,cs)∈Γ->idsL isO cs)(h0:M0 fu fc ou H nm m (.box (cTr t)) ec vc kc)(hfc:fc.ids isO)(he:ER H nm e ec)(hk:KR H nm m.k kc)(h1:t.op=5)(hkl:t.kids.length=t.binds.length+1)(hb20:t.binds.length<=1048576):
  Q43 fu fc ou H nm { m with c:=.ev (t.kids.getD t.binds.length default) (.recs t e) } Γ:=by
 unfold Q43
 have hei:=he.ids
 have hki:=hk.ids
 have hoX:=h0.ouX
 rw[hoX]
 have hw:=h0.w
 rw[hoX]at hw
 generalize hmc:ou=ou0 at hw
 clear hoX
 obtain⟨le,hche,_⟩:=he.ch
 cases t with
 |mk to tn tb tk ta=>
 obtain rfl:to=5:=h1
 simp only[Tr.kids,Tr.binds]at hkl hb20 ⊢
 obtain⟨T,hT⟩:∃T,T=Tr.mk 5 tn tb tk ta:=⟨_,rfl⟩
 have hTk:T.kids=tk:=by rw[hT];rfl
 have hTb:T.binds=tb:=by rw[hT];rfl
 refine AFn.walk 149 tabOk Tryz.func88 rfl (by kernel_rfl) rfl rfl fun hou=>?_
 obtain⟨oB,hoB⟩:∃oB,oB=ouX (mC (.box (cTr (.mk 5 tn tb tk ta))) ec vc kc m.out m.steps fu fc) m.out.length ou0:=⟨_,rfl⟩
 have hB0:oB 0=some (.cells (mC (.box (cTr (.mk 5 tn tb tk ta))) ec vc kc m.out m.steps fu fc)):=by rw[hoB];rfl
 have hwB:WR oB H nm m.heap:=by rw[hoB];exact hw
 refine zA ?_
 refine ACode.loopR hΓ (α:=Nat×List (Nat×Nat)×Outer) (fun a=>[(93,.one (int a.1)),(92,.one (int (tb.map cI).length)),(91,.one (.sl 1 (tb.map cI))),(3,.one (recC ec a.2.1)),(2,.one (.box (cTr (.mk 5 tn tb tk ta)))),(0,.one (.ptr (.o 0) 0))])
  (fun a=>⟨0,[],a.2.2⟩) (fun n a=>a.1<=tb.length/\a.2.1.length=a.1/\RecI T ec ec tb.length a.2.1 oB a.2.2/\n=tb.length - a.1) (a0:=(0,[],oB)) (ρ:=_root_.id) ⟨by simp,rfl,⟨trivial,by simp[nms],by simp[nms],fun _ _=>rfl,hwB.ok⟩,rfl⟩
  (LessR.of rfl zFW (by simp[recC,Q2b hei]) zLO rfl (by rw[hoB]) (by rw[hoB]at hwB;exact hwB.ok)) fun n a ha=>?_
 obtain⟨j,L,ou1⟩:=a
 obtain⟨hj,hL,hI,rfl⟩:=ha
 dsimp only at hj hL hI ⊢
 have hou1:=hI.ok
 have hri:(recC ec L).ids isO:=Qc9 hei L
 refine zA ?_
 refine ACode.cond rfl (fun hb2=>?_) (fun hb2=>?_)
 ·have hlt:j < tb.length:=by simpa using hb2
  clear hb2
  obtain⟨x,hx⟩:=Q01 hlt
  obtain⟨s,hs⟩:=Q01 (l:=tk) (i:=j) (by omega)
  refine zA ?_
  refine zS (zIA rfl rfl rfl (by omega) (Q06 hx)) ?_
  refine zA ?_
  refine zS (zIA rfl rfl rfl (by omega) (Q20 hs)) ?_
  repeat ((fail_if_success ((with_reducible refine oj ?_);refine AOps.atDst 109 rfl ?_));first|refine zO ?_)
  refine AOps.cedes [0] rfl (by decide) hou1 fun q hq=>⟨[(108,.one (.ptr (.o q) 0)),(99,.one (int x)),(98,.one (recC ec L)),(93,.one (int j)),(92,.one (int (tb.map cI).length)),(91,.one (.sl 1 (tb.map cI))),(2,.one (.box (cTr (.mk 5 tn tb tk ta)))),(0,.one (.ptr (.o 0) 0))],[],[.cells [.box (cTr s),nilPE]],?_,.nil,?_,?_⟩
  ·exact .cons rfl rfl (.cons rfl rfl (.consP rfl hri (.cons rfl rfl (.cons rfl rfl (.consP rfl (by simp) (.consP rfl (by simp) (.cons rfl rfl .nil)))))))
  ·exact .cons rfl (AObj.sub_f (fun i hi=>by cases i with|l q=>exact hi.elim|o q=>rfl) _ ⟨by simp,trivial,trivial⟩) .nil
  have hN1:=NewO.add hq hou1 (show (AObj.cells [.box (cTr s),nilPE]).ids isO from ⟨by simp,trivial,trivial⟩)
  refine zS (AStep.mkIfc Q3z rfl rfl) ?_
  refine AOps.call1 hΓ rfl rfl rfl rfl rfl rfl rfl ⟨hri,trivial,⟨trivial,trivial⟩,trivial⟩ hN1.ok (Qau x (.ifc tClo false [.ptr (.o q) 0]) (recC ec L) ⟨trivial,trivial⟩ hri _) fun r ou2 hq2 _ hou2=>?_
  obtain⟨k,rfl,hN2⟩:=hq2
  have hI2:RecI T ec ec tb.length ((k,q)::L) oB ou2:=hI.add (by omega) (by rw[hTk,hL,List.getD_eq_getElem?_getD,hs];rfl) (by rw[hTb,hL,List.getD_eq_getElem?_getD,hx];rfl) hN1 hN2
  refine zM ?_
  exact cInv ⟨tb.length - (j+1),(j+1,(k,q)::L,ou2),_root_.id,by omega,⟨by omega,by simp[hL],hI2,rfl⟩,LessR.of rfl zFW (by simp[recC]) zLO rfl rfl hou2⟩
 ·have hlt:j=tb.length:=by simp at hb2;omega
  subst hlt
  clear hb2
  obtain⟨tp,htp⟩:∃tp,tp=recC ec L:=⟨_,rfl⟩
  have hti:tp.ids isO:=by rw[htp];exact hri
  have hI0:RecI T ec tp L.length L oB ou1:=⟨hI.o.setTop tp (by omega) (by omega),hI.nd,hI.new,hI.old,hI.ok⟩
  refine zA ?_
  refine ACode.loopR hΓ (α:=List (Nat×Nat)×List (Nat×Nat)×Outer) (fun a=>[(6,.one (recC ec a.2.1)),(3,.one tp),(2,.one (.box (cTr (.mk 5 tn tb tk ta)))),(0,.one (.ptr (.o 0) 0))])
   (fun a=>⟨0,[],a.2.2⟩) (fun n a=>a.1++a.2.1=L/\RecI T ec tp a.2.1.length L oB a.2.2/\n=a.2.1.length) (a0:=([],L,ou1)) (ρ:=_root_.id) ⟨rfl,hI0,rfl⟩
   (LessR.of rfl (by rw[htp];(repeat' first|exact FrSub.nil|refine zfc ?_|refine zfo ?_|refine zfp ?_ (hp:=by first|assumption|(simp;done)))) (by simp[Q2b hri,Q2b hti]) zLO rfl rfl hou1) fun n a ha=>?_
  obtain⟨A,l,ou3⟩:=a
  obtain⟨hA,hI3,rfl⟩:=ha
  dsimp only at hA hI3 ⊢
  have hou3:=hI3.ok
  have hx0:ou3 0=some (.cells (mC (.box (cTr (.mk 5 tn tb tk ta))) ec vc kc m.out m.steps fu fc)):=by
   rw[hI3.old 0 (fun hm=>by have:=hI3.new 0 hm;rw[hB0]at this;cases this)];exact hB0
  have e3:=Q7u (n:=m.out.length) hx0
  have hI3o:RecO T ec tp l.length ou3 (A++l):=by rw[hA];exact hI3.o
  have hneq:∀{E:Env}{o:Oper}{fr:Fr}{x y:Operand}{yt:TypeId},E.P=Tryz.prog->TabOk E.P E.T->(∃tj,Tab.get 202 E.T=some tj/\Nat.beq tj.size 0=false)->o.op=.binOp .neq 67 x y yt->aEval E.Γ fr x=some (.one (recC ec l))->aEval E.Γ fr y=some (.one ec)->AStep E o fr ⟨0,[],ou3⟩ (.one (.lit (.bool (!l.isEmpty)))) ⟨0,[],ou3⟩:=by
   intro E o fr x y yt hP hTb ⟨tj,htj,hsz⟩ ho hx hy
   have hu:E.P.underlying 67=some (.pointer 202):=by rw[hP];exact Tryz.underlying67
   cases l with
   |nil=>cases hche with
    |nil=>exact AStep.neNil0 hu ho hx hy
    |cons i k0 vc0 nc l0 hk0 hch=>exact AStep.neSame hTb hu htj ho hx hy
   |cons p l=>
    obtain⟨k,q⟩:=p
    have hkO:=(hI3o.split).1
    cases hche with
    |nil=>exact AStep.neNil hu ho hx hy
    |cons i k0 vc0 nc l0 hk0 hch=>
     have hk0B:=hwB.inO k0 _ hk0
     have hk0n:k0∉nms L:=fun hm=>by have:=hI3.new k0 hm;rw[hk0B]at this;cases this
     have hkm:k∈nms L:=by rw[←hA,Q8y];simp[nms]
     exact AStep.nePtr hTb hu htj hsz ho hx hy hkO (show ou3 k0=_ by rw[hI3.old k0 hk0n];exact hk0B) (fun e=>by cases e;exact hk0n hkm)
  cases l with
  |nil=>
   rw[List.append_nil]at hA
   subst hA
   repeat' first|refine zN ?_|((with_reducible refine oj ?_);first|refine zix ?_|refine zow rfl rfl hx0 ?_)
   refine zS (hneq rfl tabOk ⟨_,rfl,rfl⟩ rfl rfl rfl) ?_
   obtain⟨s,hs⟩:=Q01 (l:=tk) (i:=tb.length) (by omega)
   have hix:(Q1i tk)[((tb.map cI).length:Int).toNat]?=some [.box (cTr s)]:=by simpa[cB]using Q20 hs
   have hgd:tk.getD tb.length default=s:=by rw[List.getD_eq_getElem?_getD,hs];rfl
   rw[e3]
   refine zA ?_
   refine ACode.drawSt tabOk 17 16 [(11,.one (.box [.box (cTr s)]))] _ follows (by kernel_rfl) rfl rfl (by kernel_rfl) rfl ?_ rfl rfl rfl rfl ?_ ?_ (AStep.ofStore tabOk rfl) ?_
   ·rfl
   ·exact⟨⟨_,rfl,zIA rfl rfl rfl (by omega) hix⟩,trivial⟩
   ·exact⟨⟨_,rfl,zIA rfl rfl rfl (by omega) hix⟩,trivial⟩
   refine zA ?_
   have hg:=hI3.gro hwB.inO
   have hw3:WR (ouX (mC (.box (cTr (.mk 5 tn tb tk ta))) ec vc kc m.out m.steps fu fc) m.out.length ou3) (recH H ou3 A) nm m.heap:=by rw[←e3];exact hwB.gro hg (by rw[hB0];simp) trivial
   have hrc:RecC (recH H ou3 A) T tp A.length (recC ec A) ec:=hI3.o.chain fun k hk cs hc=>by unfold recH;rw[if_pos hk,hc]
   have hAl:A.length=T.binds.length:=by rw[hTb];exact hL
   rw[hAl,←htp]at hrc
   rw[hgd]
   refine StQ.fin rfl rfl (hg.mo nm) (MR.ofEv (e:=.recs (.mk 5 tn tb tk ta) e) hw3 ?_ (hk.mo (hg.mo nm)) h0.ids.2.2.1 hfc rfl rfl (fun _=>rfl))
   rw[←hT]
   exact .recs T e tp ec hrc (he.mo (hg.mo nm))
  |cons p l=>
   obtain⟨k,q⟩:=p
   have hkO:=(hI3o.split)
   obtain⟨hkc,hqc,_⟩:=hkO
   have hnd:=hI3.nd
   rw[←hA]at hnd
   have hkq:k≠q:=by
    rw[Q8y,List.nodup_append]at hnd
    have:=hnd.2.1
    simp only[nms,List.nodup_cons,List.mem_cons,not_or]at this
    exact this.1.1
   have hri2:(recC ec l).ids isO:=Qc9 hei l
   repeat' first|refine zN ?_|((with_reducible refine oj ?_);first|refine zix ?_|refine zow rfl rfl hx0 ?_)
   refine zS (hneq rfl tabOk ⟨_,rfl,rfl⟩ rfl rfl rfl) ?_
   repeat' first|refine zN ?_|((with_reducible refine oj ?_);first|refine zix ?_|refine zow rfl rfl hkc ?_)
   refine zS (AStep.assert1 Q3z rfl rfl) ?_
   refine zA ?_
   refine AOps.storeOwn tabOk rfl rfl rfl rfl rfl rfl rfl hqc (by simp[clC]) ?_
   obtain⟨ou4,hou4⟩:∃ou4:Outer,ou4=(St.set ⟨0,[],ou3⟩ (.o q) (.cells ((clC T l.length (l.length+1) tp).set 1 tp))).ou:=⟨_,rfl⟩
   have hσ:St.set ⟨0,[],ou3⟩ (.o q) (.cells ((clC T l.length (l.length+1) tp).set 1 tp))=⟨0,[],ou4⟩:=by rw[hou4];rfl
   have h4q:ou4 q=some (.cells [.box (cTr (T.kids.getD l.length default)),tp]):=by rw[hou4];simp[St.set,clC]
   have h4o:∀m,m≠q->ou4 m=ou3 m:=fun m hm=>by rw[hou4];simp[St.set,Q08 hm]
   have hI4:RecI T ec tp l.length (A++(k,q)::l) oB ou4:=RecI.tie (by rw[hA];exact hI3) h4q h4o hti
   have hkc4:ou4 k=some (.cells [int (T.binds.getD l.length 0),.ifc tClo false [.ptr (.o q) 0],recC ec l]):=by rw[h4o k hkq];exact hkc
   refine AOps.stEq hσ ?_
   repeat' first|refine zN ?_|((with_reducible refine oj ?_);first|refine zix ?_|refine zow rfl rfl hkc4 ?_)
   exact cInv ⟨l.length,(A++[(k,q)],l,ou4),_root_.id,by simp,⟨by simpa using hA,by rw[hA]at hI4;exact hI4,rfl⟩,LessR.of rfl zFW (by simp[Q2b hri2,Q2b hti]) zLO rfl rfl hI4.ok⟩
end
end Go.Proofs.YtkgjldchcbfpnaaGreatDoor
namespace Go.Abs
theorem CedFrN.gs{js:List Nat}{kk k j k' s:Nat}{es:List (List AC)}{fr r:Fr}(h:Fr.get k fr=some (.one (.gs s es (.l j))))(hes:idsS isO es)(hj:toOs js kk (.l j)=.o k')(hr:CedFrN (toOs js kk) fr r):CedFrN (toOs js kk) fr ((k,.one (.gs s es (.o k')))::r):=
 .cons h (by simp only[FV.sub,AC.sub];rw[hj,Qc1 (fun i hi=>by cases i with|l q=>exact hi.elim|o q=>rfl) es hes]) hr
end Go.Abs
namespace Go.Proofs.YtkgjldchcbfpnaaGreatDoor
open Go Go.Abs Go.CoreX
variable {Γ:List (Nat×List AC)}
section
variable {fu:Int}{fc:FcT}{fns:List Fun}{ou:Outer}{H:Hm}{nm:Nm2}{m:Ms}{tc ec vc kc:AC}{t:Tr}{e:En}
def PlQ (fu:Int)(fc:FcT)(H:Hm)(nm:Nm2)(m1:Ms)(v:Vl)(tc ec vc kc:AC):FV->Outer->Prop:=fun r ou'=>∃kt H1 nm1 c,r=.one c/\Mo H nm H1 nm1/\VR H1 nm1 v c/\M0 fu ⟨fc.ac,kt⟩ ou' H1 nm1 m1 tc ec vc kc
theorem WR.reTok{mc mc':List AC}{n kt kt':Nat}{es es':List (List AC)}{ou0 ou':Outer}{heap:List (List Vl)}(w:WR (ouX mc n ou0) H nm heap)(hmc:mc[4]?=some (.gs 1 es (.o kt)))(hi:idsL isO mc')(hmc':mc'[4]?=some (.gs 1 es' (.o kt')))(h0:ou' 0=some (.cells mc'))(hk0:ouX mc n ou0 kt'=none)(h1:ou' kt'=some (.tok 3 1 es'.length))(hd:ou' kt=some .dead)(ho:∀k,1<=k->k≠kt->k≠kt'->ou' k=ou0 k):WR ou' H nm heap:=by
 obtain⟨kt2,e1,e2,e3,e4,e5⟩:=w.tk mc rfl _ _ hmc
 cases e1
 have hk1:1<=kt':=by
  match kt',hk0 with
  |0,h=>cases h
  |k+1,_=>omega
 have e:∀k,1<=k->k≠kt->k≠kt'->ou' k=ouX mc n ou0 k:=fun k hk h2 h3=>by
  obtain⟨j,rfl⟩:∃j,k=j+1:=⟨k - 1,by omega⟩
  rw[ho _ hk h2 h3];rfl
 have hkH:∀k cs,H k=some cs->1<=k/\k≠kt/\k≠kt':=fun k cs hk=>by
  refine⟨?_,(by rintro rfl;rw[e4]at hk;cases hk),(by rintro rfl;rw[w.inO _ _ hk]at hk0;cases hk0)⟩
  match k with
  |0=>rw[w.sep.1]at hk;cases hk
  |k+1=>omega
 have hkA:∀(a k n:Nat),nm[a]?=some (k,n)->1<=k/\k≠kt/\k≠kt':=fun a k n h=>by
  refine⟨w.sep.2 a k n h,e5 a k n h,?_⟩
  rintro rfl
  obtain⟨cs,c1,_⟩:=w.arr a k n h
  rw[c1]at hk0;cases hk0
 refine⟨fun k cs hk=>?_,fun k o hk=>?_,w.len,fun a k n h=>?_,w.aH,w.aa,w.sep,fun cs hc es2 i hi2=>?_,fun k o hk=>?_⟩
 ·obtain⟨h2,h3,h4⟩:=hkH k cs hk
  rw[e k h2 h3 h4];exact w.inO k cs hk
 ·by_cases h2:k=0
  ·subst h2;rw[h0]at hk;cases hk;exact hi
  by_cases h3:k=kt
  ·subst h3;rw[hd]at hk;cases hk;trivial
  by_cases h4:k=kt'
  ·subst h4;rw[h1]at hk;cases hk;trivial
  rw[e k (by omega) h3 h4]at hk;exact w.ok k o hk
 ·obtain⟨h2,h3,h4⟩:=hkA a k n h
  rw[e k h2 h3 h4];exact w.arr a k n h
 ·rw[h0]at hc;cases hc
  rw[hmc']at hi2;cases hi2
  refine⟨kt',rfl,hk1,h1,?_,fun a k n h=>(hkA a k n h).2.2⟩
  cases hh:H kt' with
  |none=>rfl
  |some c=>exact absurd rfl (hkH _ _ hh).2.2
 ·by_cases h2:k=0
  ·subst h2;rw[h0]at hk;cases hk;trivial
  by_cases h3:k=kt
  ·subst h3;rw[hd]at hk;cases hk;trivial
  by_cases h4:k=kt'
  ·subst h4;rw[h1]at hk;cases hk;trivial
  rw[e k (by omega) h3 h4]at hk;exact w.pl k o hk
theorem Qdl(hΓ:∀g cs,(g,cs)∈Γ->idsL isO cs)(h0:M0 fu fc ou H nm m tc ec vc kc)(hfc:fc.ids isO)(a:Int)(hol:m.out.length<=1000)(hne:m.out.length≠1000):
  AFn Tryz.prog Γ 136 [.one (.ptr (.o 0) 0),.one (int 7),.one (.sl 1 [[iW a]])] ou (PlQ fu fc H nm { m with out:=m.out++[a] } (.obj 0 []) tc ec vc kc):=by
 have hoX:=h0.ouX
 have hids:=h0.ids
 have hw:=h0.w
 rw[hoX]at hw ⊢
 generalize hmc:ou=ou0 at hw
 clear hoX
 obtain⟨kt2,e1,e2,e3,e4,e5⟩:=hw.tk _ rfl _ _ (show (mC tc ec vc kc m.out m.steps fu fc)[4]?=_ from rfl)
 obtain⟨ac,kt⟩:=fc
 simp only[Abs.Id.o.injEq]at e1
 subst e1
 obtain⟨kj,rfl⟩:∃kj,kt=kj+1:=⟨kt - 1,by omega⟩
 refine AFn.walk 152 tabOk Tryz.func136 rfl (by kernel_rfl) rfl rfl fun hou=>?_
 refine zA ?_
 refine ACode.cond rfl (fun hb=>absurd (by simpa using hb) (show ¬((m.out.length:Int)=1000) by omega)) (fun _=>?_)
 refine zA ?_
 refine ACode.drawC2 tabOk 13 [10,11,12] [(6,.one (.box [iW a])),(8,.one (int a))] (fun vs σ=>match vs with
   |[]=>σ=⟨0,[],ouX (mC tc ec vc kc m.out m.steps fu ⟨ac,kj+1⟩) m.out.length ou0⟩
   |[v]=>v=.one (.gs 1 (m.out.map cI++[[int a]]) (.l 0))/\σ=(St.set ⟨0,[],ouX (mC tc ec vc kc m.out m.steps fu ⟨ac,kj+1⟩) m.out.length ou0⟩ (.o (kj+1)) .dead).push (.tok 3 1 (m.out.map cI++[[int a]]).length)
   |[v,w]=>v=.one (.gs 1 (m.out.map cI++[[int a]]) (.l 0))/\w=.one (.ptr (.o 0) 0)/\σ=(St.set ⟨0,[],ouX (mC tc ec vc kc m.out m.steps fu ⟨ac,kj+1⟩) m.out.length ou0⟩ (.o (kj+1)) .dead).push (.tok 3 1 (m.out.map cI++[[int a]]).length)
   |[v,w,x]=>v=.one (.gs 1 (m.out.map cI++[[int a]]) (.l 0))/\w=.one (.ptr (.o 0) 0)/\x=.one (.ptr (.o 0) 4)/\σ=(St.set ⟨0,[],ouX (mC tc ec vc kc m.out m.steps fu ⟨ac,kj+1⟩) m.out.length ou0⟩ (.o (kj+1)) .dead).push (.tok 3 1 (m.out.map cI++[[int a]]).length)
   |_=>False) follows (by kernel_rfl) rfl rfl (by decide) (by kernel_rfl) (by kernel_rfl) rfl rfl ?_ ?_ (by decide) ?_ ?_
 ·intro vs σ h
  match vs with
  |[]=>subst h;rfl
  |[_]=>obtain⟨_,rfl⟩:=h;rfl
  |[_,_]=>obtain⟨_,_,rfl⟩:=h;rfl
  |[_,_,_]=>obtain⟨_,_,_,rfl⟩:=h;rfl
  |_::_::_::_::_=>exact h.elim
 ·intro vs σ h
  have ho2:OuOk σ.ou:=by
   have hd:OuOk (St.set ⟨0,[],ouX (mC tc ec vc kc m.out m.steps fu ⟨ac,kj+1⟩) m.out.length ou0⟩ (.o (kj+1)) .dead).ou:=fun k o hk=>by
    simp only[St.set]at hk
    by_cases e:k=kj+1
    ·subst e;simp at hk;subst hk;trivial
    ·rw[Q08 e]at hk;exact hou k o hk
   match vs with
   |[]=>subst h;exact hou
   |[_]=>obtain⟨_,rfl⟩:=h;exact hd
   |[_,_]=>obtain⟨_,_,rfl⟩:=h;exact hd
   |[_,_,_]=>obtain⟨_,_,_,rfl⟩:=h;exact hd
   |_::_::_::_::_=>exact h.elim
  exact⟨⟨_,rfl,zIA rfl rfl rfl (by decide) rfl⟩,⟨_,rfl,AStep.callPure hΓ rfl rfl rfl (by simp[idsF,iW]) ho2 (Q0d a)⟩,trivial⟩
 ·intro vs σ h i o hi ho
  match vs with
  |[]=>
   subst h;cases hi;cases ho
   exact⟨rfl,.inl (.inl ⟨_,_,AStep.append tabOk rfl rfl rfl rfl rfl rfl (Base.gs' _ _ _ _ _ (show ouX (mC tc ec vc kc m.out m.steps fu ⟨ac,kj+1⟩) m.out.length ou0 (kj+1)=_ from e3) (by simp)) (.sl 1 [[int a]]) rfl (by simp;show _ * 8<=_;omega) (by simp;omega),rfl,rfl⟩)⟩
  |[_]=>obtain⟨rfl,rfl⟩:=h;cases hi;cases ho;exact⟨rfl,.inl (.inl ⟨_,_,AStep.ofOp tabOk rfl,rfl,rfl,rfl⟩)⟩
  |[_,_]=>obtain⟨rfl,rfl,rfl⟩:=h;cases hi;cases ho;exact⟨rfl,.inl (.inl ⟨_,_,AStep.ofOp tabOk rfl,rfl,rfl,rfl,rfl⟩)⟩
  |_::_::_::_=>cases hi
 ·intro vs σ hl h
  match vs with
  |[_,_,_]=>
   obtain⟨rfl,rfl,rfl,rfl⟩:=h
   have hIds:∀l:List Int,idsS isO (l.map cI):=fun l=>by simp
   have hd:OuOk (St.set ⟨0,[],ouX (mC tc ec vc kc m.out m.steps fu ⟨ac,kj+1⟩) m.out.length ou0⟩ (.o (kj+1)) .dead).ou:=fun k o hk=>by
    simp only[St.set]at hk
    by_cases e:k=kj+1
    ·subst e;simp at hk;subst hk;trivial
    ·rw[Q08 e]at hk;exact hou k o hk
   refine AOps.cedes [0] rfl (by decide) hd fun q hq=>⟨[(134,.one (.ptr (.o 0) 4)),(132,.one (.gs 1 (m.out.map cI++[[int a]]) (.o q)))],[],[.tok 3 1 (m.out.map cI++[[int a]]).length],?_,.nil,?_,?_⟩
   ·exact .cons rfl rfl (.gs rfl (by rw[show m.out.map cI++[[int a]]=(m.out++[a]).map cI by simp[cI]];exact hIds _) rfl .nil)
   ·exact .cons rfl rfl .nil
   have hq0:kj+1 < q:=by
    rcases Nat.lt_or_ge (kj+1) q with h|h
    ·exact h
    ·have:=hq (kj+1) h
     simp[St.push,St.set]at this
   generalize hA:(ouAdd (((St.set ⟨0,[],ouX (mC tc ec vc kc m.out m.steps fu ⟨ac,kj+1⟩) m.out.length ou0⟩ (.o (kj+1)) .dead).push (.tok 3 1 (m.out.map cI++[[int a]]).length)).ou) q [.tok 3 1 (m.out.map cI++[[int a]]).length])=oA
   have hA0:oA 0=some (.cells (mC tc ec vc kc m.out m.steps fu ⟨ac,kj+1⟩)):=by rw[←hA,Q24 (by omega)];rfl
   have hAq:oA q=some (.tok 3 1 (m.out.map cI++[[int a]]).length):=by rw[←hA];exact Q2q 0
   have hAd:oA (kj+1)=some .dead:=by rw[←hA,Q24 hq0];simp[St.push,St.set]
   have hAk:∀k,1<=k->k≠kj+1->k≠q->oA k=ou0 k:=fun k h2 h3 h4=>by
    obtain⟨j,rfl⟩:∃j,k=j+1:=⟨k - 1,by omega⟩
    rcases Nat.lt_or_ge (j+1) q with h|h
    ·rw[←hA,Q24 h]
     simp[St.push,St.set,Q08 h3];rfl
    ·have e5:ou0 (j+1)=none:=by
      have:=hq (j+1) h
      simp[St.push,St.set,Q08 h3]at this
      exact this
     obtain⟨p,hp⟩:∃p,j+1=q+p:=⟨j+1 - q,by omega⟩
     rw[e5,←hA,hp,Q2q]
     match p,hp with
     |0,hp=>omega
     |p+1,_=>rfl
   have hqn:ouX (mC tc ec vc kc m.out m.steps fu ⟨ac,kj+1⟩) m.out.length ou0 q=none:=by
    have:=hq q (Nat.le_refl _)
    simp[St.push,St.set,Q08 (show q≠kj+1 by omega)]at this
    exact this
   refine AOps.storeOwn tabOk rfl rfl rfl rfl rfl rfl rfl hA0 (by simp[mC]) ?_
   have hN:M0 fu ⟨ac,q⟩ (St.set ⟨1,[],oA⟩ (.o 0) (.cells ((mC tc ec vc kc m.out m.steps fu ⟨ac,kj+1⟩).set 4 (.gs 1 (m.out.map cI++[[int a]]) (.o q))))).ou H nm { m with out:=m.out++[a] } tc ec vc kc:=by
    have hmm:(mC tc ec vc kc m.out m.steps fu ⟨ac,kj+1⟩).set 4 (.gs 1 (m.out.map cI++[[int a]]) (.o q))=mC tc ec vc kc (m.out++[a]) m.steps fu ⟨ac,q⟩:=by simp[mC,cI]
    rw[hmm]
    refine⟨hids,by simp[St.set],WR.reTok hw rfl (show idsL isO (mC tc ec vc kc (m.out++[a]) m.steps fu ⟨ac,q⟩)from ⟨hids.1,hids.2.1,hids.2.2.1,hids.2.2.2,⟨trivial,hIds _⟩,trivial,trivial,hfc,trivial⟩) (show (mC tc ec vc kc (m.out++[a]) m.steps fu ⟨ac,q⟩)[4]?=some (.gs 1 ((m.out++[a]).map cI) (.o q))from rfl) (by simp[St.set]) hqn ?_ ?_ ?_⟩
    ·simp[St.set,Q08 (show q≠0 by omega),hAq]
    ·simp[St.set,Q08 (show kj+1≠0 by omega),hAd]
    ·intro k h2 h3 h4
     simp[St.set,Q08 (show k≠0 by omega)];exact hAk k h2 h3 h4
   have hNo:=hN.w.ok
   repeat ((fail_if_success ((with_reducible refine oj ?_);refine AOps.atDst 137 rfl ?_));first|refine zO ?_)
   refine AOps.freeze1 (.l 1) 136 rfl rfl ?_
   refine AOps.wk 136 rfl (y:=.one (.box [int 0,.sl 1 []])) (.one (Wk.box (.cons (.refl _) (.cons (.nilS 1) .nil)))) ?_
   refine zS (AStep.mkIfc Q3g rfl rfl) ?_
   refine zA ?_
   exact AFn.fin' rfl (WkF.ofEq rfl) (by simp[iB]) hNo ⟨q,H,nm,iB tObj [int 0,.sl 1 []],rfl,.refl _ _,.obj 0 [] [] .nil,hN⟩
  |[]|[_]|[_,_]=>cases hl
  |_::_::_::_::_=>exact h.elim
end
section
variable {fu:Int}{fc:FcT}{fns:List Fun}{ou:Outer}{H:Hm}{nm:Nm2}{m m1:Ms}{v:Vl}{tc ec vc kc:AC}{t:Tr}{e:En}{d:List Vl}{k:List Fm}{dc:List (List AC)}{tc0 ec0 vc0 kc0:AC}
theorem Qfs(hΓ:∀g cs,(g,cs)∈Γ->idsL isO cs)(h0:M0 fu fc ou H nm m tc ec vc kc)(hd:VsR H nm d dc)(h6:t.op=6):
  AFn Tryz.prog Γ 113 [.one (.ptr (.o 0) 0),.one (.box (cTr t)),.one (.sl 1 dc)] ou (PlQ fu fc H nm m (.obj t.n d) tc ec vc kc):=by
 have hdi:=hd.ids
 refine AFn.walk 85 tabOk Tryz.func113 rfl (by kernel_rfl) rfl rfl fun hou=>?_
 cases t with
 |mk to tn tb tk ta=>
 obtain rfl:to=6:=h6
 repeat ((fail_if_success ((with_reducible refine oj ?_);refine AOps.atDst 23 rfl ?_));first|refine zO ?_)
 refine AOps.freeze1 (.l 0) 22 rfl rfl ?_
 refine zS (AStep.mkIfc Q3g rfl rfl) ?_
 refine zA ?_
 exact AFn.fin' rfl (WkF.ofEq rfl) ⟨⟨trivial,hdi,trivial⟩,trivial⟩ hou ⟨fc.kt,H,nm,iB tObj [int tn,.sl 1 dc],rfl,.refl _ _,.obj tn d dc hd,h0⟩
theorem Qdm(hΓ:∀g cs,(g,cs)∈Γ->idsL isO cs)(hd:VsR H nm d dc)(h8:t.op=8)(hp:AFn Tryz.prog Γ 136 [.one (.ptr (.o 0) 0),.one (int t.n),.one (.sl 1 dc)] ou (PlQ fu fc H nm m1 v tc ec vc kc)):
  AFn Tryz.prog Γ 113 [.one (.ptr (.o 0) 0),.one (.box (cTr t)),.one (.sl 1 dc)] ou (PlQ fu fc H nm m1 v tc ec vc kc):=by
 have hdi:=hd.ids
 refine AFn.walk 85 tabOk Tryz.func113 rfl (by kernel_rfl) rfl rfl fun hou=>?_
 cases t with
 |mk to tn tb tk ta=>
 obtain rfl:to=8:=h8
 refine zA ?_
 refine AOps.call1 hΓ rfl rfl rfl rfl rfl rfl rfl ⟨trivial,trivial,hdi,trivial⟩ hou hp fun r ou' hq hids how=>?_
 obtain⟨kt,H1,nm1,c,rfl,hq⟩:=hq
 refine zA ?_
 exact AFn.fin' rfl (WkF.refl _) hids how ⟨kt,H1,nm1,c,rfl,hq⟩
theorem Q3a(h0:M0 fu fc ou H nm m tc0 ec0 vc0 kc0)(hk:KR H nm k kc)(hfc:fc.ids isO):M0 fu fc (ouX (mC tc0 ec0 vc0 kc m.out m.steps fu fc) m.out.length ou) H nm m tc0 ec0 vc0 kc:=by
 have hw:=h0.w
 rw[h0.ouX]at hw
 exact⟨⟨h0.ids.1,h0.ids.2.1,h0.ids.2.2.1,hk.ids⟩,rfl,hw.put (mc':=mC tc0 ec0 vc0 kc m.out m.steps fu fc) (by simp[mC,h0.ids.1,h0.ids.2.1,h0.ids.2.2.1,hk.ids,hfc]) rfl rfl (fun _=>rfl)⟩
theorem kid_app(hΓ:∀g cs,(g,cs)∈Γ->idsL isO cs)(h0:M0 fu fc ou H nm m tc0 ec0 vc0 kc0)(hfc:fc.ids isO)(he:ER H nm e ec){v0:Vl}{c0:AC}{ds:List (List AC)}(hv0:VR H nm v0 c0)(hd:VsR H nm d ds)(hk:KR H nm k kc)(hl:d.length+1=t.kids.length)(h3:t.op=3){x:Except Int Ms}
  (hcl:∀ou',M0 fu fc ou' H nm m tc0 ec0 vc0 kc->AFn Tryz.prog Γ 109 [.one (.ptr (.o 0) 0),.one c0,.one (.sl 1 ds)] ou' (StQ fu fc H nm x)):
  AFn Tryz.prog Γ 86 [.one (.ptr (.o 0) 0),.one (.box [.box (cTr t),ec,.sl 1 ([c0]::ds),kc])] ou (StQ fu fc H nm x):=by
 have hN:=Q3a h0 hk hfc
 have hei:=he.ids
 have hdi:=hd.ids
 have hvi:=hv0.ids
 have hki:=hk.ids
 have hdl:=hd.len
 have hop:opdN t=t.kids.length:=by unfold opdN;rw[if_neg (by rw[h3];decide)]
 have hoX:=h0.ouX
 rw[hoX]
 generalize hmc:ou=ou0 at hN
 clear hoX
 refine AFn.walk 262 tabOk Tryz.func86 rfl (by kernel_rfl) rfl rfl fun hou=>?_
 refine zA ?_
 refine ACode.drawX tabOk 10 [(9,.one (int (opdN t)))] follows (by kernel_rfl) rfl rfl rfl rfl ?_ ?_
 ·exact⟨⟨_,rfl,AStep.callPure hΓ rfl rfl rfl (by simp[idsF]) hou (Q2r t)⟩,trivial⟩
 refine zA ?_
 refine ACode.cond rfl (fun hb=>absurd hb (by simp[hdl,hop];omega)) (fun hb=>?_)
 refine zA ?_
 refine ACode.stEq (σ':=⟨0,[],ouX (mC tc0 ec0 vc0 kc m.out m.steps fu fc) m.out.length ou0⟩) (setX _ _ _ _) ?_
 refine ACode.cond rfl (fun hb=>absurd hb (by simp[h3])) (fun _=>?_)
 refine zA ?_
 refine ACode.cond rfl (fun hb=>absurd hb (by simp[h3])) (fun _=>?_)
 refine zA ?_
 refine ACode.cond rfl (fun _=>?_) (fun hb=>absurd hb (by simp[h3]))
 refine zA ?_
 refine ACode.drawX tabOk 12 [(5,.one (.box [c0])),(11,.one (.sl 1 ds))] follows (by kernel_rfl) rfl rfl rfl rfl ?_ ?_
 ·exact⟨⟨_,rfl,zIA rfl rfl rfl (by decide) rfl⟩,⟨_,rfl,AStep.sliceFrom (b:=1) (es:=[c0]::ds) tabOk rfl rfl rfl rfl rfl rfl rfl (by simp)⟩,trivial⟩
 refine zA ?_
 refine AOps.call1 hΓ rfl rfl rfl rfl rfl rfl rfl ⟨trivial,hvi,hdi,trivial⟩ hN.w.ok (hcl _ hN) fun r ou' hq _ how=>?_
 obtain⟨rfl,H',nm',m',hx,hmo,hM⟩:=hq
 refine zA ?_
 exact StQ.fin rfl hx hmo hM
theorem Qg3(hΓ:∀g cs,(g,cs)∈Γ->idsL isO cs)(h0:M0 fu fc ou H nm m tc0 ec0 vc0 kc0)(hfc:fc.ids isO)(he:ER H nm e ec)(hd:VsR H nm d dc)(hk:KR H nm k kc)(hl:d.length=opdN t)(hn:¬(t.op=4∨t.op=7∨t.op=3∨t.op=13∨t.op=12∨t.op=14∨t.op=15∨t.op=16))
  (hpl:∀ou',M0 fu fc ou' H nm m tc0 ec0 vc0 kc->AFn Tryz.prog Γ 113 [.one (.ptr (.o 0) 0),.one (.box (cTr t)),.one (.sl 1 dc)] ou' (PlQ fu fc H nm m1 v tc0 ec0 vc0 kc)):
  AFn Tryz.prog Γ 86 [.one (.ptr (.o 0) 0),.one (.box [.box (cTr t),ec,.sl 1 dc,kc])] ou (StQ fu fc H nm (.ok { m1 with c:=.rt v,k:=k })):=by
 have hN:=Q3a h0 hk hfc
 simp only[not_or]at hn
 have hei:=he.ids
 have hdi:=hd.ids
 have hki:=hk.ids
 have hdl:=hd.len
 have hoX:=h0.ouX
 rw[hoX]
 generalize hmc:ou=ou0 at hN
 clear hoX
 refine AFn.walk 262 tabOk Tryz.func86 rfl (by kernel_rfl) rfl rfl fun hou=>?_
 refine zA ?_
 refine ACode.drawX tabOk 10 [(9,.one (int (opdN t)))] follows (by kernel_rfl) rfl rfl rfl rfl ?_ ?_
 ·exact⟨⟨_,rfl,AStep.callPure hΓ rfl rfl rfl (by simp[idsF]) hou (Q2r t)⟩,trivial⟩
 refine zA ?_
 refine ACode.cond rfl (fun hb=>absurd hb (by simp[hdl,hl])) (fun hb=>?_)
 refine zA ?_
 refine ACode.stEq (σ':=⟨0,[],ouX (mC tc0 ec0 vc0 kc m.out m.steps fu fc) m.out.length ou0⟩) (setX _ _ _ _) ?_
 refine ACode.cond rfl (fun hb=>absurd hb (by simp[hn.1])) (fun _=>?_)
 refine zA ?_
 refine ACode.cond rfl (fun hb=>absurd hb (by simp[hn.2.1])) (fun _=>?_)
 refine zA ?_
 refine ACode.cond rfl (fun hb=>absurd hb (by simp[hn.2.2.1])) (fun _=>?_)
 refine zA ?_
 refine ACode.cond rfl (fun hb=>absurd hb (by simp[hn.2.2.2.1])) (fun _=>?_)
 refine zA ?_
 refine ACode.cond rfl (fun hb=>absurd hb (by simp[hn.2.2.2.2.1])) (fun _=>?_)
 refine zA ?_
 refine ACode.cond rfl (fun hb=>absurd hb (by simp[hn.2.2.2.2.2.1])) (fun _=>?_)
 refine zA ?_
 refine ACode.cond rfl (fun hb=>absurd hb (by simp[hn.2.2.2.2.2.2.1])) (fun _=>?_)
 refine zA ?_
 refine ACode.cond rfl (fun hb=>absurd hb (by simp[hn.2.2.2.2.2.2.2])) (fun _=>?_)
 refine zA ?_
 refine ACode.drawCS tabOk 15 11 12 13 14 (.one (.ptr (.o 0) 0)) (.one (.ptr (.o 0) 0)) []
  (fun r σ=>∃kt H1 nm1 c ou1,r=.one c/\σ=⟨0,[],ouX (mC tc0 ec0 vc0 kc m1.out m1.steps fu ⟨fc.ac,kt⟩) m1.out.length ou1⟩/\Mo H nm H1 nm1/\VR H1 nm1 v c/\WR (ouX (mC tc0 ec0 vc0 kc m1.out m1.steps fu ⟨fc.ac,kt⟩) m1.out.length ou1) H1 nm1 m1.heap)
  (fun r σ=>∃kt H1 nm1 c ou1,r=.one c/\σ=⟨0,[],ouX (mC nilPE ec0 vc0 kc m1.out m1.steps fu ⟨fc.ac,kt⟩) m1.out.length ou1⟩/\Mo H nm H1 nm1/\VR H1 nm1 v c/\WR (ouX (mC tc0 ec0 vc0 kc m1.out m1.steps fu ⟨fc.ac,kt⟩) m1.out.length ou1) H1 nm1 m1.heap)
  follows (by kernel_rfl) rfl rfl (by decide) (by kernel_rfl) (by kernel_rfl) rfl rfl rfl rfl rfl rfl rfl ?_ ?_ trivial (fun _ _ _=>trivial) (fun _ _ _=>trivial) ?_ ?_ ?_ ?_ ?_
 ·rintro r σ ⟨kt,H1,nm1,c,ou1,rfl,rfl,_⟩;rfl
 ·rintro r σ ⟨kt,H1,nm1,c,ou1,rfl,rfl,_⟩;rfl
 ·refine Q0u.ofR (Q0y.call hΓ rfl rfl rfl rfl ⟨trivial,by simp,hdi,trivial⟩ hN.w.ok (hpl _ hN) fun r ou' hq hr ho=>?_)
  obtain⟨kt,H1,nm1,c,rfl,h1,h2,h3⟩:=hq
  have hw:=h3.w
  have e:=h3.ouX
  rw[e]at hw
  exact⟨kt,H1,nm1,c,ou',rfl,by rw[←e],h1,h2,hw⟩
 ·rintro r σ ⟨kt,H1,nm1,c,ou1,rfl,rfl,_⟩;exact AStep.ofOp tabOk rfl
 ·rintro r σ ⟨kt,H1,nm1,c,ou1,rfl,rfl,_⟩;exact AStep.ofOp tabOk rfl
 ·rintro r σ ⟨kt,H1,nm1,c,ou1,rfl,rfl,h1⟩;exact⟨_,⟨kt,H1,nm1,c,ou1,rfl,setX _ _ _ _,h1⟩,AStep.ofStore tabOk rfl⟩
 ·rintro r σ ⟨kt,H1,nm1,c,ou1,rfl,rfl,h1,h2,h3⟩
  refine zA ?_
  have hM:MR fu ⟨fc.ac,kt⟩ (St.set ⟨0,[],ouX (mC nilPE ec0 vc0 kc m1.out m1.steps fu ⟨fc.ac,kt⟩) m1.out.length ou1⟩ (.o 0) (.cells (mC nilPE ec0 c kc m1.out m1.steps fu ⟨fc.ac,kt⟩))).ou H1 nm1 { m1 with c:=.rt v,k:=k }:=MR.ofRt h3 h2 (hk.mo h1) h0.ids.2.1 hfc rfl rfl (fun _=>rfl)
  exact StQ.fin rfl rfl h1 ⟨hM.ex⟩
end
end Go.Proofs.YtkgjldchcbfpnaaGreatDoor
