/- Match: it hands the list that it made on. -/
import Derived.Test.YtoojdmgbffnmiaaDoorB11
import Derived.Shelf.Strconv.Itoa0
import Derived.Shelf.Strconv.Itoa1
import Derived.Shelf.LaysM
import Derived.Shelf.Strconv.Itoa2
import Derived.Shelf.Strconv.Itoa3
import Derived.Test.YtoojdmgbffnmiaaDoorProg
namespace Go.Proofs.YtoojdmgbffnmiaaDoor
open Go Go.Abs
set_option maxRecDepth 10000
set_option linter.unusedVariables false
set_option linter.unusedSimpArgs false
theorem Match_new (m s : Spec) (name : Str) (hm : okSpec m) (hs : okSpec s) (hzm : SzS m) (hzs : SzS s) (hn : name.size ≤ 1048576) :
    ∀ ou, AFn Tryd.prog Γ0 13 [.agg (cSpec m), .agg (cSpec s), .one (str name)] ou (NewMaps ou (outerM name s.datas) (matchErr m s name)) := by
  intro ou
  refine AFn.walkN 75 tabOk hΓ0 Tryd.func13 rfl (by kernel_rfl) rfl rfl fun hou => ?_
  repeat first | (with_reducible refine oj ?_; refine AOps.auto tabOk rfl ?_) | (with_reducible first | refine o1 ?_ | refine o2 ?_ | refine o3 ?_ | refine o4 ?_ | refine o5 ?_ | refine o6 ?_ | refine o7 ?_ | refine o8 ?_ | refine o9 ?_ | refine oa ?_ | refine ob ?_ | refine oc ?_ | refine od ?_ | refine oe ?_ | refine og ?_ | refine oh ?_ | refine oi ?_) | (with_reducible refine cExitMiss ?_ ?_; rfl) | (with_reducible refine ok ?_; first | refine ACode.condT rfl ?_ | refine ACode.condF rfl ?_)
  refine AOps.callC hΓ0 (Check_ok cutN m hm hzm.cut) rfl rfl rfl rfl rfl rfl rfl hou (by simp) ?_
  repeat first | (with_reducible refine oj ?_; refine AOps.auto tabOk rfl ?_) | (with_reducible first | refine o1 ?_ | refine o2 ?_ | refine o3 ?_ | refine o4 ?_ | refine o5 ?_ | refine o6 ?_ | refine o7 ?_ | refine o8 ?_ | refine o9 ?_ | refine oa ?_ | refine ob ?_ | refine oc ?_ | refine od ?_ | refine oe ?_ | refine og ?_ | refine oh ?_ | refine oi ?_) | (with_reducible refine cExitMiss ?_ ?_; rfl) | (with_reducible refine ok ?_; first | refine ACode.condT rfl ?_ | refine ACode.condF rfl ?_)
  refine ACode.cond rfl (fun hb => ?_) (fun hb => ?_)
  · have hne : chkErr cutN m ≠ 0 := by simpa using hb
    have he : matchErr m s name = chkErr cutN m := by unfold matchErr; rw [if_pos hne]
    repeat first | (with_reducible refine oj ?_; refine AOps.auto tabOk rfl ?_) | (with_reducible first | refine o1 ?_ | refine o2 ?_ | refine o3 ?_ | refine o4 ?_ | refine o5 ?_ | refine o6 ?_ | refine o7 ?_ | refine o8 ?_ | refine o9 ?_ | refine oa ?_ | refine ob ?_ | refine oc ?_ | refine od ?_ | refine oe ?_ | refine og ?_ | refine oh ?_ | refine oi ?_) | (with_reducible refine cExitMiss ?_ ?_; rfl) | (with_reducible refine ok ?_; first | refine ACode.condT rfl ?_ | refine ACode.condF rfl ?_)
    refine NewMaps.err rfl (WkF.tup (.cons (.one (.nilS 5)) (.cons (.ofEq ?_) .nil))) (by rw [he]; first | assumption | decide) hou rfl
    rw [he]
  have hm0 : chkErr cutN m = 0 := by simpa using hb
  repeat first | (with_reducible refine oj ?_; refine AOps.auto tabOk rfl ?_) | (with_reducible first | refine o1 ?_ | refine o2 ?_ | refine o3 ?_ | refine o4 ?_ | refine o5 ?_ | refine o6 ?_ | refine o7 ?_ | refine o8 ?_ | refine o9 ?_ | refine oa ?_ | refine ob ?_ | refine oc ?_ | refine od ?_ | refine oe ?_ | refine og ?_ | refine oh ?_ | refine oi ?_) | (with_reducible refine cExitMiss ?_ ?_; rfl) | (with_reducible refine ok ?_; first | refine ACode.condT rfl ?_ | refine ACode.condF rfl ?_)
  refine AOps.callC hΓ0 (Check_ok cutN s hs hzs.cut) rfl rfl rfl rfl rfl rfl rfl hou (by simp) ?_
  repeat first | (with_reducible refine oj ?_; refine AOps.auto tabOk rfl ?_) | (with_reducible first | refine o1 ?_ | refine o2 ?_ | refine o3 ?_ | refine o4 ?_ | refine o5 ?_ | refine o6 ?_ | refine o7 ?_ | refine o8 ?_ | refine o9 ?_ | refine oa ?_ | refine ob ?_ | refine oc ?_ | refine od ?_ | refine oe ?_ | refine og ?_ | refine oh ?_ | refine oi ?_) | (with_reducible refine cExitMiss ?_ ?_; rfl) | (with_reducible refine ok ?_; first | refine ACode.condT rfl ?_ | refine ACode.condF rfl ?_)
  refine ACode.cond rfl (fun hb => ?_) (fun hb => ?_)
  · have hne : chkErr cutN s ≠ 0 := by simpa using hb
    have he : matchErr m s name = chkErr cutN s := by unfold matchErr; rw [if_neg (by simpa using hm0), if_pos hne]
    repeat first | (with_reducible refine oj ?_; refine AOps.auto tabOk rfl ?_) | (with_reducible first | refine o1 ?_ | refine o2 ?_ | refine o3 ?_ | refine o4 ?_ | refine o5 ?_ | refine o6 ?_ | refine o7 ?_ | refine o8 ?_ | refine o9 ?_ | refine oa ?_ | refine ob ?_ | refine oc ?_ | refine od ?_ | refine oe ?_ | refine og ?_ | refine oh ?_ | refine oi ?_) | (with_reducible refine cExitMiss ?_ ?_; rfl) | (with_reducible refine ok ?_; first | refine ACode.condT rfl ?_ | refine ACode.condF rfl ?_)
    refine NewMaps.err rfl (WkF.tup (.cons (.one (.nilS 5)) (.cons (.ofEq ?_) .nil))) (by rw [he]; first | assumption | decide) hou rfl
    rw [he]
  have hs0 : chkErr cutN s = 0 := by simpa using hb
  have hme : matchErr m s name = if cutN name = true then 3 else if firstErr (typeErr m.datas) s.datas ≠ 0 then firstErr (typeErr m.datas) s.datas else firstErr (valErr m s name) s.vals := by
    unfold matchErr; rw [if_neg (by simpa using hm0), if_neg (by simpa using hs0)]
  repeat first | (with_reducible refine oj ?_; refine AOps.auto tabOk rfl ?_) | (with_reducible first | refine o1 ?_ | refine o2 ?_ | refine o3 ?_ | refine o4 ?_ | refine o5 ?_ | refine o6 ?_ | refine o7 ?_ | refine o8 ?_ | refine o9 ?_ | refine oa ?_ | refine ob ?_ | refine oc ?_ | refine od ?_ | refine oe ?_ | refine og ?_ | refine oh ?_ | refine oi ?_) | (with_reducible refine cExitMiss ?_ ?_; rfl) | (with_reducible refine ok ?_; first | refine ACode.condT rfl ?_ | refine ACode.condF rfl ?_)
  refine AOps.callC hΓ0 (cut_ok name (by omega)) rfl rfl rfl rfl rfl rfl rfl hou (by simp) ?_
  repeat first | (with_reducible refine oj ?_; refine AOps.auto tabOk rfl ?_) | (with_reducible first | refine o1 ?_ | refine o2 ?_ | refine o3 ?_ | refine o4 ?_ | refine o5 ?_ | refine o6 ?_ | refine o7 ?_ | refine o8 ?_ | refine o9 ?_ | refine oa ?_ | refine ob ?_ | refine oc ?_ | refine od ?_ | refine oe ?_ | refine og ?_ | refine oh ?_ | refine oi ?_) | (with_reducible refine cExitMiss ?_ ?_; rfl) | (with_reducible refine ok ?_; first | refine ACode.condT rfl ?_ | refine ACode.condF rfl ?_)
  refine ACode.cond rfl (fun hb => ?_) (fun hb => ?_)
  · have he : matchErr m s name = 3 := by rw [hme, if_pos hb]
    repeat first | (with_reducible refine oj ?_; refine AOps.auto tabOk rfl ?_) | (with_reducible first | refine o1 ?_ | refine o2 ?_ | refine o3 ?_ | refine o4 ?_ | refine o5 ?_ | refine o6 ?_ | refine o7 ?_ | refine o8 ?_ | refine o9 ?_ | refine oa ?_ | refine ob ?_ | refine oc ?_ | refine od ?_ | refine oe ?_ | refine og ?_ | refine oh ?_ | refine oi ?_) | (with_reducible refine cExitMiss ?_ ?_; rfl) | (with_reducible refine ok ?_; first | refine ACode.condT rfl ?_ | refine ACode.condF rfl ?_)
    refine NewMaps.err rfl (WkF.tup (.cons (.one (.nilS 5)) (.cons (.ofEq ?_) .nil))) (by rw [he]; first | assumption | decide) hou rfl
    rw [he]
  rw [if_neg (by simp [hb])] at hme
  have km := chk_ok hm0
  have ks := chk_ok hs0
  have pM := km.par
  have pS := ks.par
  have smM := outerM_small (name := name) pM
  have smS := outerM_small (name := name) pS
  repeat first | (with_reducible refine oj ?_; refine AOps.auto tabOk rfl ?_) | (with_reducible first | refine o1 ?_ | refine o2 ?_ | refine o3 ?_ | refine o4 ?_ | refine o5 ?_ | refine o6 ?_ | refine o7 ?_ | refine o8 ?_ | refine o9 ?_ | refine oa ?_ | refine ob ?_ | refine oc ?_ | refine od ?_ | refine oe ?_ | refine og ?_ | refine oh ?_ | refine oi ?_) | (with_reducible refine cExitMiss ?_ ?_; rfl) | (with_reducible refine ok ?_; first | refine ACode.condT rfl ?_ | refine ACode.condF rfl ?_)
  refine AOps.call1 hΓ0 rfl rfl rfl rfl rfl rfl rfl (by simp) hou (types_new hΓ0 m s name hn hm.dl km.ds hm.d hs.dl hs.d pS ou) (fun r ou' hq hr ho2 => ?_)
  rcases hq with ⟨ht0, k, hk, rfl, rfl⟩ | ⟨hne, rfl, rfl⟩
  rotate_left
  · have he : matchErr m s name = firstErr (typeErr m.datas) s.datas := by rw [hme, if_pos hne]
    have hbe : (firstErr (typeErr m.datas) s.datas != 0) = true := by simpa using hne
    repeat first | (with_reducible refine oj ?_; refine AOps.auto tabOk rfl ?_) | (with_reducible first | refine o1 ?_ | refine o2 ?_ | refine o3 ?_ | refine o4 ?_ | refine o5 ?_ | refine o6 ?_ | refine o7 ?_ | refine o8 ?_ | refine o9 ?_ | refine oa ?_ | refine ob ?_ | refine oc ?_ | refine od ?_ | refine oe ?_ | refine og ?_ | refine oh ?_ | refine oi ?_) | (with_reducible refine cExitMiss ?_ ?_; rfl) | (with_reducible refine ok ?_; first | refine ACode.condT rfl ?_ | refine ACode.condF rfl ?_)
    refine ACode.cond rfl (fun hb => ?_) (fun hb => absurd (hbe.symm.trans hb) (by decide))
    repeat first | (with_reducible refine oj ?_; refine AOps.auto tabOk rfl ?_) | (with_reducible first | refine o1 ?_ | refine o2 ?_ | refine o3 ?_ | refine o4 ?_ | refine o5 ?_ | refine o6 ?_ | refine o7 ?_ | refine o8 ?_ | refine o9 ?_ | refine oa ?_ | refine ob ?_ | refine oc ?_ | refine od ?_ | refine oe ?_ | refine og ?_ | refine oh ?_ | refine oi ?_) | (with_reducible refine cExitMiss ?_ ?_; rfl) | (with_reducible refine ok ?_; first | refine ACode.condT rfl ?_ | refine ACode.condF rfl ?_)
    refine NewMaps.err rfl (WkF.tup (.cons (.one (.nilS 5)) (.cons (.ofEq ?_) .nil))) (by rw [he]; first | assumption | decide) hou rfl
    rw [he]
  rw [if_neg (by simpa using ht0)] at hme
  refine AOps.adopt hk trivial ?_
  simp only [FV.sub, subF, AC.sub, toL, beq_self, cond_true, subS_pure _ _ (ids_maps _ _)]
  repeat first | (with_reducible refine oj ?_; refine AOps.auto tabOk rfl ?_) | (with_reducible first | refine o1 ?_ | refine o2 ?_ | refine o3 ?_ | refine o4 ?_ | refine o5 ?_ | refine o6 ?_ | refine o7 ?_ | refine o8 ?_ | refine o9 ?_ | refine oa ?_ | refine ob ?_ | refine oc ?_ | refine od ?_ | refine oe ?_ | refine og ?_ | refine oh ?_ | refine oi ?_) | (with_reducible refine cExitMiss ?_ ?_; rfl) | (with_reducible refine ok ?_; first | refine ACode.condT rfl ?_ | refine ACode.condF rfl ?_)
  refine AOps.callC hΓ0 (outer_ok hΓ0 m name hn hm.dl hm.d pM) rfl rfl rfl rfl rfl rfl rfl hou (by simp) ?_
  repeat first | (with_reducible refine oj ?_; refine AOps.auto tabOk rfl ?_) | (with_reducible first | refine o1 ?_ | refine o2 ?_ | refine o3 ?_ | refine o4 ?_ | refine o5 ?_ | refine o6 ?_ | refine o7 ?_ | refine o8 ?_ | refine o9 ?_ | refine oa ?_ | refine ob ?_ | refine oc ?_ | refine od ?_ | refine oe ?_ | refine og ?_ | refine oh ?_ | refine oi ?_) | (with_reducible refine cExitMiss ?_ ?_; rfl) | (with_reducible refine ok ?_; first | refine ACode.condT rfl ?_ | refine ACode.condF rfl ?_)
  refine ACode.loopR hΓ0 (α := Nat) (fun j => [(45, .one (int j)), (44, .one (int (s.vals.map cVal).length)), (43, .one (.sl 7 (s.vals.map cVal))), (3, .one (.ptr (.l 0) 0)), (10, .one (.gs 5 ((outerM name s.datas).map cMap) (.l 1))), (12, .one (.sl 5 ((outerM name m.datas).map cMap)))])
    (fun j => ⟨2, [(1, .tok 44 5 (outerM name s.datas).length), (0, .cells (cSpec m))], ou⟩) (fun k j => j ≤ s.vals.length ∧ (∀ x ∈ s.vals.take j, valErr m s name x = 0) ∧ k = s.vals.length - j) (a0 := 0) (ρ := fun k => if k = 1 then 2 else k) ⟨by omega, by simp, rfl⟩ (LessR.of rfl (by repeat' first | exact FrSub.nil | refine FrSub.consGs rfl rfl (ids_maps _ _) ?_ | refine FrSub.cons rfl (.ofEq rfl) ?_ | refine FrSub.consP rfl (.ofEq rfl) (by simp) ?_) (by simp [FV.ids, AC.ids, inL, isO, idsL, idsF]) (by repeat' first | exact LoSub.nil | refine LoSub.cons rfl ?_ rfl (by simp) ?_ | rfl | (refine (AObj.ren_pure _ _ ?_).symm; simp; done) | (simp [AObj.ren, renL, AC.ren, cTy]; done) | (simp [AObj.ren, renL, AC.ren, cTy]; rfl)) rfl rfl hou) fun k j hj => ?_
  obtain ⟨hjl, hno, rfl⟩ := hj
  repeat first | (with_reducible refine oj ?_; refine AOps.auto tabOk rfl ?_) | (with_reducible first | refine o1 ?_ | refine o2 ?_ | refine o3 ?_ | refine o4 ?_ | refine o5 ?_ | refine o6 ?_ | refine o7 ?_ | refine o8 ?_ | refine o9 ?_ | refine oa ?_ | refine ob ?_ | refine oc ?_ | refine od ?_ | refine oe ?_ | refine og ?_ | refine oh ?_ | refine oi ?_) | (with_reducible refine cExitMiss ?_ ?_; rfl) | (with_reducible refine ok ?_; first | refine ACode.condT rfl ?_ | refine ACode.condF rfl ?_)
  refine ACode.cond rfl (fun hb2 => ?_) (fun hb2 => ?_)
  · have hlt : j < s.vals.length := by simpa using hb2
    obtain ⟨v, hv⟩ := get_of_lt hlt
    have hvm := List.mem_of_getElem? hv
    have hvl := hs.vl
    obtain ⟨i, h1, h2, h3⟩ := sorted_part (f := VSig.name) v.name km.vs
    repeat first | (with_reducible refine oj ?_; refine AOps.auto tabOk rfl ?_) | (with_reducible first | refine o1 ?_ | refine o2 ?_ | refine o3 ?_ | refine o4 ?_ | refine o5 ?_ | refine o6 ?_ | refine o7 ?_ | refine o8 ?_ | refine o9 ?_ | refine oa ?_ | refine ob ?_ | refine oc ?_ | refine od ?_ | refine oe ?_ | refine og ?_ | refine oh ?_ | refine oi ?_) | (with_reducible refine cExitMiss ?_ ?_; rfl) | (with_reducible refine ok ?_; first | refine ACode.condT rfl ?_ | refine ACode.condF rfl ?_)
    refine AOps.step1 rfl rfl rfl (AStep.indexAddr tabOk rfl rfl rfl rfl rfl rfl (.inl rfl) rfl (by omega) (map_get hv)) ?_
    repeat first | (with_reducible refine oj ?_; refine AOps.auto tabOk rfl ?_) | (with_reducible first | refine o1 ?_ | refine o2 ?_ | refine o3 ?_ | refine o4 ?_ | refine o5 ?_ | refine o6 ?_ | refine o7 ?_ | refine o8 ?_ | refine o9 ?_ | refine oa ?_ | refine ob ?_ | refine oc ?_ | refine od ?_ | refine oe ?_ | refine og ?_ | refine oh ?_ | refine oi ?_) | (with_reducible refine cExitMiss ?_ ?_; rfl) | (with_reducible refine ok ?_; first | refine ACode.condT rfl ?_ | refine ACode.condF rfl ?_)
    refine AOps.callC hΓ0 (BSF35_ok hΓ0 36 v.name (fun d => cmpStr d.name v.name) m.vals hm.vl i h1 h2 (fun a _ => matchF_ok hΓ0 a v.name)) rfl rfl rfl rfl rfl rfl rfl hou (by simp) ?_
    repeat first | (with_reducible refine oj ?_; refine AOps.auto tabOk rfl ?_) | (with_reducible first | refine o1 ?_ | refine o2 ?_ | refine o3 ?_ | refine o4 ?_ | refine o5 ?_ | refine o6 ?_ | refine o7 ?_ | refine o8 ?_ | refine o9 ?_ | refine oa ?_ | refine ob ?_ | refine oc ?_ | refine od ?_ | refine oe ?_ | refine og ?_ | refine oh ?_ | refine oi ?_) | (with_reducible refine cExitMiss ?_ ?_; rfl) | (with_reducible refine ok ?_; first | refine ACode.condT rfl ?_ | refine ACode.condF rfl ?_)
    have stop : ∀ e : Int, valErr m s name v = e → e ≠ 0 → matchErr m s name = e := fun e he hne => by
      have := firstErr_at hno hv (by rw [he]; exact hne)
      rw [hme, this, he]
    refine ACode.cond rfl (fun hb3 => ?_) (fun hb3 => ?_)
    · have hn2 : findBy VSig.name v.name m.vals = none := by
        rw [← h3]
        unfold hitAt at hb3
        cases hg : m.vals[i]? with
        | none => rfl
        | some a => rw [hg] at hb3; simp at hb3; simp [hb3]
      have he := stop 6 (by simp [valErr, hn2]) (by decide)
      repeat first | (with_reducible refine oj ?_; refine AOps.auto tabOk rfl ?_) | (with_reducible first | refine o1 ?_ | refine o2 ?_ | refine o3 ?_ | refine o4 ?_ | refine o5 ?_ | refine o6 ?_ | refine o7 ?_ | refine o8 ?_ | refine o9 ?_ | refine oa ?_ | refine ob ?_ | refine oc ?_ | refine od ?_ | refine oe ?_ | refine og ?_ | refine oh ?_ | refine oi ?_) | (with_reducible refine cExitMiss ?_ ?_; rfl) | (with_reducible refine ok ?_; first | refine ACode.condT rfl ?_ | refine ACode.condF rfl ?_)
      refine NewMaps.err rfl (WkF.tup (.cons (.one (.nilS 5)) (.cons (.ofEq ?_) .nil))) (by rw [he]; first | assumption | decide) hou rfl
      rw [he]
    have hh : hitAt (fun d => cmpStr d.name v.name) m.vals i = true := by simpa using hb3
    unfold hitAt at hh
    cases hg : m.vals[i]? with
    | none => rw [hg] at hh; cases hh
    | some x =>
    rw [hg] at hh
    have hn2 : findBy VSig.name v.name m.vals = some x := by rw [← h3, hg]; simp only [hh, if_true]
    have hxm := List.mem_of_getElem? hg
    have okx := hm.v x hxm
    have okv := hs.v v hvm
    have hil : i < m.vals.length := (List.getElem?_eq_some_iff.1 hg).1
    have hml := hm.vl
    have c1 := mapped_ok hΓ0 x.sch okx (outerM name m.datas) (by rw [outerM_len]; exact hm.dl) smM
    have c2 := mapped_ok hΓ0 v.sch okv (outerM name s.datas) (by rw [outerM_len]; exact hs.dl) smS
    have pr : ∀ (l : List SMap) (hl : ∀ m ∈ l, smallTy m.ty ∧ posTy m.ty) (c : Sch), okSch c → smallTy (mapSch l c).ty ∧ (∀ p ∈ (mapSch l c).preds, smallTy p.ty) ∧ (mapSch l c).preds.length ≤ 1048576 := fun l hl c hc => by
      refine ⟨smallTy_subst l (fun m hm => (hl m hm).1) _ hc.2.1, fun p hp => ?_, by simpa [mapSch] using hc.1⟩
      simp [mapSch, mapPrds] at hp
      obtain ⟨q, hq, rfl⟩ := hp
      exact smallTy_subst l (fun m hm => (hl m hm).1) _ (hc.2.2 q hq)
    have px := pr _ smM _ okx
    have pv := pr _ smS _ okv
    have c3 := general_ok hΓ0 hΓF0 (mapSch (outerM name m.datas) x.sch) (mapSch (outerM name s.datas) v.sch) px.1 pv.1 px.2.1 pv.2.1 px.2.2 pv.2.2
    repeat first | (with_reducible refine oj ?_; refine AOps.auto tabOk rfl ?_) | (with_reducible first | refine o1 ?_ | refine o2 ?_ | refine o3 ?_ | refine o4 ?_ | refine o5 ?_ | refine o6 ?_ | refine o7 ?_ | refine o8 ?_ | refine o9 ?_ | refine oa ?_ | refine ob ?_ | refine oc ?_ | refine od ?_ | refine oe ?_ | refine og ?_ | refine oh ?_ | refine oi ?_) | (with_reducible refine cExitMiss ?_ ?_; rfl) | (with_reducible refine ok ?_; first | refine ACode.condT rfl ?_ | refine ACode.condF rfl ?_)
    refine ACode.drawX tabOk 13 [(3, .one (.box (cVal x))), (7, .agg (cSch (mapSch (outerM name m.datas) x.sch))), (11, .agg (cSch (mapSch (outerM name s.datas) v.sch))), (12, .one (.lit (.bool (genB (mapSch (outerM name m.datas) x.sch) (mapSch (outerM name s.datas) v.sch)))))] follows (by kernel_rfl) rfl rfl rfl rfl ?_ ?_
    · refine .step rfl (HStep.plain rfl (AStep.indexAddr tabOk rfl rfl rfl rfl rfl rfl (.inl rfl) rfl (by omega) (map_get hg))) ?_
      refine .call hΓ0 c1 hou (by simp) rfl rfl rfl rfl rfl rfl ?_
      refine .callW hΓ0 c2 hou (by simp) rfl rfl rfl rfl rfl (.cons (.ofEq rfl) (.cons (.one (.gsE rfl)) .nil)) ?_
      exact .call hΓ0 c3 hou (by simp) rfl rfl rfl rfl rfl rfl .nil
    repeat first | (with_reducible refine oj ?_; refine AOps.auto tabOk rfl ?_) | (with_reducible first | refine o1 ?_ | refine o2 ?_ | refine o3 ?_ | refine o4 ?_ | refine o5 ?_ | refine o6 ?_ | refine o7 ?_ | refine o8 ?_ | refine o9 ?_ | refine oa ?_ | refine ob ?_ | refine oc ?_ | refine od ?_ | refine oe ?_ | refine og ?_ | refine oh ?_ | refine oi ?_) | (with_reducible refine cExitMiss ?_ ?_; rfl) | (with_reducible refine ok ?_; first | refine ACode.condT rfl ?_ | refine ACode.condF rfl ?_)
    refine ACode.cond rfl (fun hb4 => ?_) (fun hb4 => ?_)
    · have hgn : genB (mapSch (outerM name m.datas) x.sch) (mapSch (outerM name s.datas) v.sch) = false := by simpa using hb4
      have he := stop 10 (by simp [valErr, hn2, hgn]) (by decide)
      repeat first | (with_reducible refine oj ?_; refine AOps.auto tabOk rfl ?_) | (with_reducible first | refine o1 ?_ | refine o2 ?_ | refine o3 ?_ | refine o4 ?_ | refine o5 ?_ | refine o6 ?_ | refine o7 ?_ | refine o8 ?_ | refine o9 ?_ | refine oa ?_ | refine ob ?_ | refine oc ?_ | refine od ?_ | refine oe ?_ | refine og ?_ | refine oh ?_ | refine oi ?_) | (with_reducible refine cExitMiss ?_ ?_; rfl) | (with_reducible refine ok ?_; first | refine ACode.condT rfl ?_ | refine ACode.condF rfl ?_)
      refine NewMaps.err rfl (WkF.tup (.cons (.one (.nilS 5)) (.cons (.ofEq ?_) .nil))) (by rw [he]; first | assumption | decide) hou rfl
      rw [he]
    · have hgy : genB (mapSch (outerM name m.datas) x.sch) (mapSch (outerM name s.datas) v.sch) = true := by simpa using hb4
      have he : valErr m s name v = 0 := by simp [valErr, hn2, hgy]
      repeat first | (with_reducible refine oj ?_; refine AOps.auto tabOk rfl ?_) | (with_reducible first | refine o1 ?_ | refine o2 ?_ | refine o3 ?_ | refine o4 ?_ | refine o5 ?_ | refine o6 ?_ | refine o7 ?_ | refine o8 ?_ | refine o9 ?_ | refine oa ?_ | refine ob ?_ | refine oc ?_ | refine od ?_ | refine oe ?_ | refine og ?_ | refine oh ?_ | refine oi ?_) | (with_reducible refine cExitMiss ?_ ?_; rfl) | (with_reducible refine ok ?_; first | refine ACode.condT rfl ?_ | refine ACode.condF rfl ?_)
      refine AOps.step1 rfl rfl rfl (AStep.arith rfl rfl rfl (.inl ⟨rfl, rfl⟩) (inRange_i64 (by omega) (by omega))) ?_
      repeat first | (with_reducible refine oj ?_; refine AOps.auto tabOk rfl ?_) | (with_reducible first | refine o1 ?_ | refine o2 ?_ | refine o3 ?_ | refine o4 ?_ | refine o5 ?_ | refine o6 ?_ | refine o7 ?_ | refine o8 ?_ | refine o9 ?_ | refine oa ?_ | refine ob ?_ | refine oc ?_ | refine od ?_ | refine oe ?_ | refine og ?_ | refine oh ?_ | refine oi ?_) | (with_reducible refine cExitMiss ?_ ?_; rfl) | (with_reducible refine ok ?_; first | refine ACode.condT rfl ?_ | refine ACode.condF rfl ?_)
      exact cInv ⟨s.vals.length - (j + 1), j + 1, id, by omega, ⟨by omega, take_all hno hv he, rfl⟩, LessR.of rfl (by repeat' first | exact FrSub.nil | refine FrSub.consGs rfl rfl (ids_maps _ _) ?_ | refine FrSub.cons rfl (.ofEq rfl) ?_ | refine FrSub.consP rfl (.ofEq rfl) (by simp) ?_) (by simp) (by repeat' first | exact LoSub.nil | refine LoSub.cons rfl ?_ rfl (by simp) ?_ | rfl | (refine (AObj.ren_pure _ _ ?_).symm; simp; done) | (simp [AObj.ren, renL, AC.ren, cTy]; done) | (simp [AObj.ren, renL, AC.ren, cTy]; rfl)) rfl rfl hou⟩
  · have hlt : j = s.vals.length := by simp at hb2; omega
    subst hlt
    rw [List.take_length] at hno
    have hfe := firstErr_all hno
    repeat first | (with_reducible refine oj ?_; refine AOps.auto tabOk rfl ?_) | (with_reducible first | refine o1 ?_ | refine o2 ?_ | refine o3 ?_ | refine o4 ?_ | refine o5 ?_ | refine o6 ?_ | refine o7 ?_ | refine o8 ?_ | refine o9 ?_ | refine oa ?_ | refine ob ?_ | refine oc ?_ | refine od ?_ | refine oe ?_ | refine og ?_ | refine oh ?_ | refine oi ?_) | (with_reducible refine cExitMiss ?_ ?_; rfl) | (with_reducible refine ok ?_; first | refine ACode.condT rfl ?_ | refine ACode.condF rfl ?_)
    refine NewMaps.new 1 rfl (WkF.tup (.cons (.ofEq rfl) (.cons (.ofEq ?_) .nil))) (by rw [hme, hfe]) hou rfl rfl
    rfl
end Go.Proofs.YtoojdmgbffnmiaaDoor
/- Apply: what it computes, and its walk. -/
namespace Go.Proofs.YtoojdmgbffnmiaaDoor
open Go Go.Abs
set_option maxRecDepth 10000
set_option linter.unusedVariables false
set_option linter.unusedSimpArgs false
def lpar : Str := ⟨#[40]⟩
def rpar : Str := ⟨#[41]⟩
def hash : Str := ⟨#[35]⟩
def frontN (f : Fctr) (name it : Str) : Str := if f.fresh = true then f.name ++ hash ++ it else f.name ++ lpar ++ name ++ rpar
def appL (f : Fctr) (name it : Str) : List SMap := outerM name f.needs.datas ++ outerM (frontN f name it) f.yields.datas
def subTs (l : List SMap) (ts : List Ty) : List Ty := ts.map (substTy l)
def subC (l : List SMap) (c : CSig) : CSig := ⟨c.name, subTs l c.args⟩
def subCs (l : List SMap) (cs : List CSig) : List CSig := cs.map (subC l)
def subD (l : List SMap) (d : DSig) : DSig := ⟨d.name, d.params, subCs l d.cons⟩
def subDs (l : List SMap) (ds : List DSig) : List DSig := ds.map (subD l)
def subV (l : List SMap) (v : VSig) : VSig := ⟨v.name, mapSch l v.sch⟩
def subVs (l : List SMap) (vs : List VSig) : List VSig := vs.map (subV l)
def subSp (l : List SMap) (s : Spec) : Spec := ⟨subDs l s.datas, subVs l s.vals⟩
@[simp] theorem subTs_len (l : List SMap) (ts : List Ty) : (subTs l ts).length = ts.length := by simp [subTs]
@[simp] theorem subCs_len (l : List SMap) (ts : List CSig) : (subCs l ts).length = ts.length := by simp [subCs]
@[simp] theorem subDs_len (l : List SMap) (ts : List DSig) : (subDs l ts).length = ts.length := by simp [subDs]
@[simp] theorem subVs_len (l : List SMap) (ts : List VSig) : (subVs l ts).length = ts.length := by simp [subVs]
theorem subTs_succ {l : List SMap} {ts : List Ty} {j : Nat} {a : Ty} (h : ts[j]? = some a) : encTys (subTs l (ts.take (j + 1))) = encTys (subTs l (ts.take j)) ++ [cTy (substTy l a)] := by
  simp [subTs, encTys_eq, List.take_add_one, h]
theorem subCs_succ {l : List SMap} {ts : List CSig} {j : Nat} {a : CSig} (h : ts[j]? = some a) : (subCs l (ts.take (j + 1))).map cCon = (subCs l (ts.take j)).map cCon ++ [cCon (subC l a)] := by
  simp [subCs, List.take_add_one, h]
theorem subDs_succ {l : List SMap} {ts : List DSig} {j : Nat} {a : DSig} (h : ts[j]? = some a) : (subDs l (ts.take (j + 1))).map cData = (subDs l (ts.take j)).map cData ++ [cData (subD l a)] := by
  simp [subDs, List.take_add_one, h]
theorem subVs_succ {l : List SMap} {ts : List VSig} {j : Nat} {a : VSig} (h : ts[j]? = some a) : (subVs l (ts.take (j + 1))).map cVal = (subVs l (ts.take j)).map cVal ++ [cVal (subV l a)] := by
  simp [subVs, List.take_add_one, h]
def appErr (f : Fctr) (arg : Spec) (name : Str) (n : Int) : Int :=
  if fctErr f ≠ 0 then fctErr f else if matchErr arg f.needs name ≠ 0 then matchErr arg f.needs name else if n < 0 ∨ 1048576 < n then 4 else 0
def appR (f : Fctr) (arg : Spec) (name it : Str) (n : Int) : Spec := if appErr f arg name n = 0 then subSp (appL f name it) f.yields else ⟨[], []⟩
theorem fct_ok {f : Fctr} (h : fctErr f = 0) : cutN f.name = false ∧ chkErr cutN f.needs = 0 ∧ chkErr cutN f.yields = 0 ∧ firstErr (twice f.needs.datas) f.yields.datas = 0 ∧ firstErr (kindErr f.needs.datas) (allTys f.yields) = 0 := by
  unfold fctErr at h
  split at h
  · cases h
  · rename_i h0
    split at h
    · rename_i h1; exact absurd h h1
    · rename_i h1
      split at h
      · rename_i h2; exact absurd h h2
      · rename_i h2
        split at h
        · rename_i h3; exact absurd h h3
        · rename_i h3
          exact ⟨by simpa using h0, by simpa using h1, by simpa using h2, by simpa using h3, h⟩
theorem cutN_len {s : Str} (h : cutN s = false) : s.size ≤ 40 := by
  unfold cutN at h
  simp only [Bool.or_eq_false_iff, decide_eq_false_iff_not] at h
  omega
theorem frontN_len {f : Fctr} {name it : Str} (h : cutN f.name = false) (hn : name.size ≤ 40) (hi : it.size ≤ 40) : (frontN f name it).size ≤ 1048576 := by
  have := cutN_len h
  unfold frontN
  split <;> simp only [ByteArray.size_append]
  · show f.name.size + 1 + it.size ≤ _; omega
  · show f.name.size + 1 + name.size + 1 ≤ _; omega
theorem Apply_ok {Γ : List (Nat × List AC)} (hs0 : ∀ x ∈ Γ0, x ∈ Γ) (hΓ : ∀ g cs, (g, cs) ∈ Γ → idsL isO cs) (f : Fctr) (arg : Spec) (name it : Str) (n : Int) (hn : name.size ≤ 40) (hit : it.size ≤ 40) (hI : 0 ≤ n → n ≤ 1048576 → APure Tryd.prog Γ 51 [.one (int n)] (.one (str it)))
    (hfn : f.name.size < 4294967281) (hm : okSpec f.needs) (hs : okSpec f.yields) (hzm : SzS f.needs) (hzs : SzS f.yields) (ha : okSpec arg) (hza : SzS arg) :
    APure Tryd.prog Γ 29 [.agg (cFctr f), .agg (cSpec arg), .one (str name), .one (int n)] (.tup [.agg (cSpec (appR f arg name it n)), .one (int (appErr f arg name n))]) := by
  intro ou
  refine AFn.walk 146 tabOk Tryd.func29 rfl (by kernel_rfl) rfl rfl fun hou => ?_
  repeat first | (with_reducible refine oj ?_; refine AOps.auto tabOk rfl ?_) | (with_reducible first | refine o1 ?_ | refine o2 ?_ | refine o3 ?_ | refine o4 ?_ | refine o5 ?_ | refine o6 ?_ | refine o7 ?_ | refine o8 ?_ | refine o9 ?_ | refine oa ?_ | refine ob ?_ | refine oc ?_ | refine od ?_ | refine oe ?_ | refine og ?_ | refine oh ?_ | refine oi ?_) | (with_reducible refine cExitMiss ?_ ?_; rfl) | (with_reducible refine ok ?_; first | refine ACode.condT rfl ?_ | refine ACode.condF rfl ?_)
  refine AOps.callC hΓ ((CheckFunctor_ok f hfn hm hs hzm hzs).lift hs0 hΓ) rfl rfl rfl rfl rfl rfl rfl hou (by simp) ?_
  repeat first | (with_reducible refine oj ?_; refine AOps.auto tabOk rfl ?_) | (with_reducible first | refine o1 ?_ | refine o2 ?_ | refine o3 ?_ | refine o4 ?_ | refine o5 ?_ | refine o6 ?_ | refine o7 ?_ | refine o8 ?_ | refine o9 ?_ | refine oa ?_ | refine ob ?_ | refine oc ?_ | refine od ?_ | refine oe ?_ | refine og ?_ | refine oh ?_ | refine oi ?_) | (with_reducible refine cExitMiss ?_ ?_; rfl) | (with_reducible refine ok ?_; first | refine ACode.condT rfl ?_ | refine ACode.condF rfl ?_)
  refine ACode.cond rfl (fun hb => ?_) (fun hb => ?_)
  · have hne : fctErr f ≠ 0 := by simpa using hb
    have he : appErr f arg name n = fctErr f := by unfold appErr; rw [if_pos hne]
    repeat first | (with_reducible refine oj ?_; refine AOps.auto tabOk rfl ?_) | (with_reducible first | refine o1 ?_ | refine o2 ?_ | refine o3 ?_ | refine o4 ?_ | refine o5 ?_ | refine o6 ?_ | refine o7 ?_ | refine o8 ?_ | refine o9 ?_ | refine oa ?_ | refine ob ?_ | refine oc ?_ | refine od ?_ | refine oe ?_ | refine og ?_ | refine oh ?_ | refine oi ?_) | (with_reducible refine cExitMiss ?_ ?_; rfl) | (with_reducible refine ok ?_; first | refine ACode.condT rfl ?_ | refine ACode.condF rfl ?_)
    refine APure.fin rfl (WkF.tup (.cons (.agg' (.cons (.trans (.nilS 3) (.ofEq ?_)) (.cons (.trans (.nilS 7) (.ofEq ?_)) .nil))) (.cons (.ofEq ?_) .nil))) (by simp) hou rfl
    · unfold appR; rw [he, if_neg hne]; rfl
    · unfold appR; rw [he, if_neg hne]; rfl
    · rw [he]
  have hf0 : fctErr f = 0 := by simpa using hb
  obtain ⟨f1, f2, f3, f4, f5⟩ := fct_ok hf0
  have hcl := cutN_len f1
  repeat first | (with_reducible refine oj ?_; refine AOps.auto tabOk rfl ?_) | (with_reducible first | refine o1 ?_ | refine o2 ?_ | refine o3 ?_ | refine o4 ?_ | refine o5 ?_ | refine o6 ?_ | refine o7 ?_ | refine o8 ?_ | refine o9 ?_ | refine oa ?_ | refine ob ?_ | refine oc ?_ | refine od ?_ | refine oe ?_ | refine og ?_ | refine oh ?_ | refine oi ?_) | (with_reducible refine cExitMiss ?_ ?_; rfl) | (with_reducible refine ok ?_; first | refine ACode.condT rfl ?_ | refine ACode.condF rfl ?_)
  refine AOps.call1 hΓ rfl rfl rfl rfl rfl rfl rfl (by simp) hou ((Match_new arg f.needs name ha hm hza hzm (by omega) ou).lift hs0 hΓ) (fun r ou' hq hr ho2 => ?_)
  rcases hq with ⟨hm0, k, hk, rfl, rfl⟩ | ⟨hne, rfl, rfl⟩
  rotate_left
  · have he : appErr f arg name n = matchErr arg f.needs name := by unfold appErr; rw [if_neg (by simpa using hf0), if_pos hne]
    have hbe : (matchErr arg f.needs name != 0) = true := by simpa using hne
    repeat first | (with_reducible refine oj ?_; refine AOps.auto tabOk rfl ?_) | (with_reducible first | refine o1 ?_ | refine o2 ?_ | refine o3 ?_ | refine o4 ?_ | refine o5 ?_ | refine o6 ?_ | refine o7 ?_ | refine o8 ?_ | refine o9 ?_ | refine oa ?_ | refine ob ?_ | refine oc ?_ | refine od ?_ | refine oe ?_ | refine og ?_ | refine oh ?_ | refine oi ?_) | (with_reducible refine cExitMiss ?_ ?_; rfl) | (with_reducible refine ok ?_; first | refine ACode.condT rfl ?_ | refine ACode.condF rfl ?_)
    refine ACode.cond rfl (fun hb => ?_) (fun hb => absurd (hbe.symm.trans hb) (by decide))
    repeat first | (with_reducible refine oj ?_; refine AOps.auto tabOk rfl ?_) | (with_reducible first | refine o1 ?_ | refine o2 ?_ | refine o3 ?_ | refine o4 ?_ | refine o5 ?_ | refine o6 ?_ | refine o7 ?_ | refine o8 ?_ | refine o9 ?_ | refine oa ?_ | refine ob ?_ | refine oc ?_ | refine od ?_ | refine oe ?_ | refine og ?_ | refine oh ?_ | refine oi ?_) | (with_reducible refine cExitMiss ?_ ?_; rfl) | (with_reducible refine ok ?_; first | refine ACode.condT rfl ?_ | refine ACode.condF rfl ?_)
    refine APure.fin rfl (WkF.tup (.cons (.agg' (.cons (.trans (.nilS 3) (.ofEq ?_)) (.cons (.trans (.nilS 7) (.ofEq ?_)) .nil))) (.cons (.ofEq ?_) .nil))) (by simp) hou rfl
    · unfold appR; rw [he, if_neg hne]; rfl
    · unfold appR; rw [he, if_neg hne]; rfl
    · rw [he]
  have hme : appErr f arg name n = if n < 0 ∨ 1048576 < n then 4 else 0 := by unfold appErr; rw [if_neg (by simpa using hf0), if_neg (by simpa using hm0)]
  refine AOps.adopt hk trivial ?_
  simp only [FV.sub, subF, AC.sub, toL, beq_self, cond_true, subS_pure _ _ (ids_maps _ _)]
  repeat first | (with_reducible refine oj ?_; refine AOps.auto tabOk rfl ?_) | (with_reducible first | refine o1 ?_ | refine o2 ?_ | refine o3 ?_ | refine o4 ?_ | refine o5 ?_ | refine o6 ?_ | refine o7 ?_ | refine o8 ?_ | refine o9 ?_ | refine oa ?_ | refine ob ?_ | refine oc ?_ | refine od ?_ | refine oe ?_ | refine og ?_ | refine oh ?_ | refine oi ?_) | (with_reducible refine cExitMiss ?_ ?_; rfl) | (with_reducible refine ok ?_; first | refine ACode.condT rfl ?_ | refine ACode.condF rfl ?_)
  have bad : (n < 0 ∨ 1048576 < n) → ∀ fr' σ', aRes tab fr' σ' Tryd.f29.results.toList = some (.tup [.agg [.lit (.slice none 0 0), .lit (.slice none 0 0)], .one (int 4)]) → σ'.ou = ou → Abs.Fin ⟨Tryd.prog, tab, Γ, 146⟩ Tryd.f29 (fun r' ou' => r' = .tup [.agg (cSpec (appR f arg name it n)), .one (int (appErr f arg name n))] ∧ ou' = ou) fr' σ' := fun hb fr' σ' h1 h2 => by
    have he : appErr f arg name n = 4 := by rw [hme, if_pos hb]
    refine APure.fin h1 (WkF.tup (.cons (.agg' (.cons (.trans (.nilS 3) (.ofEq ?_)) (.cons (.trans (.nilS 7) (.ofEq ?_)) .nil))) (.cons (.ofEq ?_) .nil))) (by simp) hou h2
    · unfold appR; rw [he]; rfl
    · unfold appR; rw [he]; rfl
    · rw [he]
  refine AOps.splitG rfl rfl rfl (fun hv => ?_) (fun hv => ?_)
  · have hv' : n < 0 := by simpa using hv
    repeat first | (with_reducible refine oj ?_; refine AOps.auto tabOk rfl ?_) | (with_reducible first | refine o1 ?_ | refine o2 ?_ | refine o3 ?_ | refine o4 ?_ | refine o5 ?_ | refine o6 ?_ | refine o7 ?_ | refine o8 ?_ | refine o9 ?_ | refine oa ?_ | refine ob ?_ | refine oc ?_ | refine od ?_ | refine oe ?_ | refine og ?_ | refine oh ?_ | refine oi ?_) | (with_reducible refine cExitMiss ?_ ?_; rfl) | (with_reducible refine ok ?_; first | refine ACode.condT rfl ?_ | refine ACode.condF rfl ?_)
    exact bad (.inl hv') _ _ rfl rfl
  have hv' : ¬ n < 0 := by simpa using hv
  repeat first | (with_reducible refine oj ?_; refine AOps.auto tabOk rfl ?_) | (with_reducible first | refine o1 ?_ | refine o2 ?_ | refine o3 ?_ | refine o4 ?_ | refine o5 ?_ | refine o6 ?_ | refine o7 ?_ | refine o8 ?_ | refine o9 ?_ | refine oa ?_ | refine ob ?_ | refine oc ?_ | refine od ?_ | refine oe ?_ | refine og ?_ | refine oh ?_ | refine oi ?_) | (with_reducible refine cExitMiss ?_ ?_; rfl) | (with_reducible refine ok ?_; first | refine ACode.condT rfl ?_ | refine ACode.condF rfl ?_)
  refine ACode.cond rfl (fun hb => ?_) (fun hb => ?_)
  · have hv2 : 1048576 < n := by simpa using hb
    repeat first | (with_reducible refine oj ?_; refine AOps.auto tabOk rfl ?_) | (with_reducible first | refine o1 ?_ | refine o2 ?_ | refine o3 ?_ | refine o4 ?_ | refine o5 ?_ | refine o6 ?_ | refine o7 ?_ | refine o8 ?_ | refine o9 ?_ | refine oa ?_ | refine ob ?_ | refine oc ?_ | refine od ?_ | refine oe ?_ | refine og ?_ | refine oh ?_ | refine oi ?_) | (with_reducible refine cExitMiss ?_ ?_; rfl) | (with_reducible refine ok ?_; first | refine ACode.condT rfl ?_ | refine ACode.condF rfl ?_)
    exact bad (.inr hv2) _ _ rfl rfl
  have hv2 : ¬ 1048576 < n := by simpa using hb
  have he0 : appErr f arg name n = 0 := by rw [hme, if_neg (by omega)]
  have hR : appR f arg name it n = subSp (appL f name it) f.yields := by unfold appR; rw [if_pos he0]
  rw [he0, hR]
  clear bad hme he0 hR
  have hI' := hI (by omega) (by omega)
  repeat first | (with_reducible refine oj ?_; refine AOps.auto tabOk rfl ?_) | (with_reducible first | refine o1 ?_ | refine o2 ?_ | refine o3 ?_ | refine o4 ?_ | refine o5 ?_ | refine o6 ?_ | refine o7 ?_ | refine o8 ?_ | refine o9 ?_ | refine oa ?_ | refine ob ?_ | refine oc ?_ | refine od ?_ | refine oe ?_ | refine og ?_ | refine oh ?_ | refine oi ?_) | (with_reducible refine cExitMiss ?_ ?_; rfl) | (with_reducible refine ok ?_; first | refine ACode.condT rfl ?_ | refine ACode.condF rfl ?_)
  refine AOps.step1 rfl rfl rfl (AStep.concat rfl rfl rfl (by show f.name.size + 1 ≤ _; omega)) ?_
  repeat first | (with_reducible refine oj ?_; refine AOps.auto tabOk rfl ?_) | (with_reducible first | refine o1 ?_ | refine o2 ?_ | refine o3 ?_ | refine o4 ?_ | refine o5 ?_ | refine o6 ?_ | refine o7 ?_ | refine o8 ?_ | refine o9 ?_ | refine oa ?_ | refine ob ?_ | refine oc ?_ | refine od ?_ | refine oe ?_ | refine og ?_ | refine oh ?_ | refine oi ?_) | (with_reducible refine cExitMiss ?_ ?_; rfl) | (with_reducible refine ok ?_; first | refine ACode.condT rfl ?_ | refine ACode.condF rfl ?_)
  have hsz1 : (f.name ++ lpar).size = f.name.size + 1 := by simp [ByteArray.size_append, lpar]; rfl
  refine AOps.step1 rfl rfl rfl (AStep.concat rfl rfl rfl (by show (f.name ++ lpar).size + name.size ≤ _; omega)) ?_
  repeat first | (with_reducible refine oj ?_; refine AOps.auto tabOk rfl ?_) | (with_reducible first | refine o1 ?_ | refine o2 ?_ | refine o3 ?_ | refine o4 ?_ | refine o5 ?_ | refine o6 ?_ | refine o7 ?_ | refine o8 ?_ | refine o9 ?_ | refine oa ?_ | refine ob ?_ | refine oc ?_ | refine od ?_ | refine oe ?_ | refine og ?_ | refine oh ?_ | refine oi ?_) | (with_reducible refine cExitMiss ?_ ?_; rfl) | (with_reducible refine ok ?_; first | refine ACode.condT rfl ?_ | refine ACode.condF rfl ?_)
  have hsz2 : (f.name ++ lpar ++ name).size = f.name.size + 1 + name.size := by rw [ByteArray.size_append, hsz1]
  refine AOps.step1 rfl rfl rfl (AStep.concat rfl rfl rfl (by show (f.name ++ lpar ++ name).size + 1 ≤ _; omega)) ?_
  repeat first | (with_reducible refine oj ?_; refine AOps.auto tabOk rfl ?_) | (with_reducible first | refine o1 ?_ | refine o2 ?_ | refine o3 ?_ | refine o4 ?_ | refine o5 ?_ | refine o6 ?_ | refine o7 ?_ | refine o8 ?_ | refine o9 ?_ | refine oa ?_ | refine ob ?_ | refine oc ?_ | refine od ?_ | refine oe ?_ | refine og ?_ | refine oh ?_ | refine oi ?_) | (with_reducible refine cExitMiss ?_ ?_; rfl) | (with_reducible refine ok ?_; first | refine ACode.condT rfl ?_ | refine ACode.condF rfl ?_)
  refine ACode.cutR hΓ (α := Unit) (fun _ => [(13, .one (str (frontN f name it))), (8, .one (.ptr (.l 2) 0)), (4, .one (.ptr (.l 0) 0)), (11, .one (.gs 5 ((outerM name f.needs.datas).map cMap) (.l 1)))])
    (fun _ => ⟨3, [(2, .cells [.lit (.slice none 0 0), .lit (.slice none 0 0)]), (1, .tok 44 5 (outerM name f.needs.datas).length), (0, .cells (cFctr f))], ou⟩) (fun _ => True) ?_ fun _ _ => ?_
  · refine ACode.cond rfl (fun hb => ?_) (fun hb => ?_)
    · have hfr : frontN f name it = f.name ++ hash ++ it := by unfold frontN; rw [if_pos hb]
      have hsz3 : (f.name ++ hash).size = f.name.size + 1 := by simp [ByteArray.size_append, hash]; rfl
      refine ACode.drawX tabOk 6 [(2, .one (str (f.name ++ hash))), (4, .one (str it)), (5, .one (str (f.name ++ hash ++ it)))] follows (by kernel_rfl) rfl rfl rfl rfl ?_ ?_
      · refine .step rfl (HStep.plain rfl (AStep.concat rfl rfl rfl (by show f.name.size + 1 ≤ _; omega))) ?_
        refine .call hΓ hI' hou (by simp) rfl rfl rfl rfl rfl rfl ?_
        exact .step rfl (HStep.plain rfl (AStep.concat rfl rfl rfl (by rw [hsz3]; omega))) .nil
      repeat first | (with_reducible refine oj ?_; refine AOps.auto tabOk rfl ?_) | (with_reducible first | refine o1 ?_ | refine o2 ?_ | refine o3 ?_ | refine o4 ?_ | refine o5 ?_ | refine o6 ?_ | refine o7 ?_ | refine o8 ?_ | refine o9 ?_ | refine oa ?_ | refine ob ?_ | refine oc ?_ | refine od ?_ | refine oe ?_ | refine og ?_ | refine oh ?_ | refine oi ?_) | (with_reducible refine cExitMiss ?_ ?_; rfl) | (with_reducible refine ok ?_; first | refine ACode.condT rfl ?_ | refine ACode.condF rfl ?_)
      refine cInv ⟨(), fun k => if k = 1 then 3 else k, trivial, LessR.of rfl ?_ (by simp [FV.ids, AC.ids, inL, isO, idsL, idsF]) ?_ rfl rfl hou⟩
      · rw [hfr]; repeat' first | exact FrSub.nil | refine FrSub.consGs rfl rfl (ids_maps _ _) ?_ | refine FrSub.cons rfl (.ofEq rfl) ?_ | refine FrSub.consP rfl (.ofEq rfl) (by simp) ?_
      · repeat' first | exact LoSub.nil | refine LoSub.cons rfl ?_ rfl (by simp) ?_ | rfl | (refine (AObj.ren_pure _ _ ?_).symm; simp; done) | (simp [AObj.ren, renL, AC.ren, cTy]; done) | (simp [AObj.ren, renL, AC.ren, cTy]; rfl)
    · have hfr : frontN f name it = f.name ++ lpar ++ name ++ rpar := by unfold frontN; rw [if_neg (by simp [hb])]
      repeat first | (with_reducible refine oj ?_; refine AOps.auto tabOk rfl ?_) | (with_reducible first | refine o1 ?_ | refine o2 ?_ | refine o3 ?_ | refine o4 ?_ | refine o5 ?_ | refine o6 ?_ | refine o7 ?_ | refine o8 ?_ | refine o9 ?_ | refine oa ?_ | refine ob ?_ | refine oc ?_ | refine od ?_ | refine oe ?_ | refine og ?_ | refine oh ?_ | refine oi ?_) | (with_reducible refine cExitMiss ?_ ?_; rfl) | (with_reducible refine ok ?_; first | refine ACode.condT rfl ?_ | refine ACode.condF rfl ?_)
      refine cInv ⟨(), fun k => if k = 1 then 3 else k, trivial, LessR.of rfl ?_ (by simp [FV.ids, AC.ids, inL, isO, idsL, idsF]) ?_ rfl rfl hou⟩
      · rw [hfr]; repeat' first | exact FrSub.nil | refine FrSub.consGs rfl rfl (ids_maps _ _) ?_ | refine FrSub.cons rfl (.ofEq rfl) ?_ | refine FrSub.consP rfl (.ofEq rfl) (by simp) ?_
      · repeat' first | exact LoSub.nil | refine LoSub.cons rfl ?_ rfl (by simp) ?_ | rfl | (refine (AObj.ren_pure _ _ ?_).symm; simp; done) | (simp [AObj.ren, renL, AC.ren, cTy]; done) | (simp [AObj.ren, renL, AC.ren, cTy]; rfl)
  have km := chk_ok f2
  have ks := chk_ok f3
  have pM := km.par
  have pS := ks.par
  have hfl := frontN_len f1 hn hit
  generalize hfg : frontN f name it = front at hfl
  repeat first | (with_reducible refine oj ?_; refine AOps.auto tabOk rfl ?_) | (with_reducible first | refine o1 ?_ | refine o2 ?_ | refine o3 ?_ | refine o4 ?_ | refine o5 ?_ | refine o6 ?_ | refine o7 ?_ | refine o8 ?_ | refine o9 ?_ | refine oa ?_ | refine ob ?_ | refine oc ?_ | refine od ?_ | refine oe ?_ | refine og ?_ | refine oh ?_ | refine oi ?_) | (with_reducible refine cExitMiss ?_ ?_; rfl) | (with_reducible refine ok ?_; first | refine ACode.condT rfl ?_ | refine ACode.condF rfl ?_)
  refine AOps.callC hΓ (outer_ok hΓ f.yields front hfl hs.dl hs.d pS) rfl rfl rfl rfl rfl rfl rfl hou (by simp) ?_
  repeat first | (with_reducible refine oj ?_; refine AOps.auto tabOk rfl ?_) | (with_reducible first | refine o1 ?_ | refine o2 ?_ | refine o3 ?_ | refine o4 ?_ | refine o5 ?_ | refine o6 ?_ | refine o7 ?_ | refine o8 ?_ | refine o9 ?_ | refine oa ?_ | refine ob ?_ | refine oc ?_ | refine od ?_ | refine oe ?_ | refine og ?_ | refine oh ?_ | refine oi ?_) | (with_reducible refine cExitMiss ?_ ?_; rfl) | (with_reducible refine ok ?_; first | refine ACode.condT rfl ?_ | refine ACode.condF rfl ?_)
  have hdm := hm.dl
  have hds := hs.dl
  refine AOps.app tabOk rfl rfl rfl rfl rfl rfl rfl rfl rfl (Base.gs' _ _ _ _ _ (by rfl) (by simp)) (.sl _ _) rfl ?_ ?_ ?_
  · simp; show (f.needs.datas.length + f.yields.datas.length) * 72 ≤ _; omega
  · simp; omega
  repeat first | (with_reducible refine oj ?_; refine AOps.auto tabOk rfl ?_) | (with_reducible first | refine o1 ?_ | refine o2 ?_ | refine o3 ?_ | refine o4 ?_ | refine o5 ?_ | refine o6 ?_ | refine o7 ?_ | refine o8 ?_ | refine o9 ?_ | refine oa ?_ | refine ob ?_ | refine oc ?_ | refine od ?_ | refine oe ?_ | refine og ?_ | refine oh ?_ | refine oi ?_) | (with_reducible refine cExitMiss ?_ ?_; rfl) | (with_reducible refine ok ?_; first | refine ACode.condT rfl ?_ | refine ACode.condF rfl ?_)
  refine ACode.wk 11 rfl (y := .one (.sl 5 ((appL f name it).map cMap))) (.one (.gsE (by rw [← List.map_append, ← hfg]; rfl))) ?_
  have hlen : (appL f name it).length ≤ 1048576 := by
    have := km.dl
    have := ks.dl
    simp [appL]; omega
  have hsm : ∀ m ∈ appL f name it, smallTy m.ty ∧ posTy m.ty := fun m hm => by
    rcases List.mem_append.1 hm with hm | hm
    · exact outerM_small pM m hm
    · exact outerM_small pS m hm
  generalize appL f name it = l at hlen hsm
  clear hfg hI' hv hv' hb hv2 hfl hsz1 hsz2 hr ho2
  refine ACode.grow 4 0 40 3 rfl rfl ?_
  refine ACode.loopR hΓ (α := Nat) (fun j => [(75, .one (int j)), (74, .one (int (f.yields.datas.map cData).length)), (73, .one (.sl 3 (f.yields.datas.map cData))), (14, .one (.ptr (.l 2) 0)), (11, .one (.sl 5 (l.map cMap))), (8, .one (.ptr (.l 1) 0)), (4, .one (.ptr (.l 0) 0))])
    (fun j => ⟨4, [(3, .tok 40 3 j), (2, .cells [.gs 3 ((subDs l (f.yields.datas.take j)).map cData) (.l 3), .lit (.slice none 0 0)]), (1, .cells [.lit (.slice none 0 0), .lit (.slice none 0 0)]), (0, .cells (cFctr f))], ou⟩)
    (fun m j => j ≤ f.yields.datas.length ∧ m = f.yields.datas.length - j) (a0 := 0) (ρ := fun k => if k = 1 then 2 else if k = 2 then 4 else if k = 3 then 5 else k) ⟨by omega, rfl⟩ (LessR.of rfl (by (repeat' first | exact FrSub.nil | refine FrSub.cons rfl (.ofEq rfl) ?_ | refine FrSub.consP rfl (.ofEq rfl) (by simp) ?_)) (by simp) (by repeat' first | exact LoSub.nil | refine LoSub.cons rfl ?_ rfl (by simp) ?_ | rfl | (refine (AObj.ren_pure _ _ ?_).symm; simp; done) | (simp [AObj.ren, renL, AC.ren, cTy]; done) | (simp [AObj.ren, renL, AC.ren, cTy]; rfl)) rfl rfl hou) fun m j hj => ?_
  obtain ⟨hjl, rfl⟩ := hj
  repeat first | (with_reducible refine oj ?_; refine AOps.auto tabOk rfl ?_) | (with_reducible first | refine o1 ?_ | refine o2 ?_ | refine o3 ?_ | refine o4 ?_ | refine o5 ?_ | refine o6 ?_ | refine o7 ?_ | refine o8 ?_ | refine o9 ?_ | refine oa ?_ | refine ob ?_ | refine oc ?_ | refine od ?_ | refine oe ?_ | refine og ?_ | refine oh ?_ | refine oi ?_) | (with_reducible refine cExitMiss ?_ ?_; rfl) | (with_reducible refine ok ?_; first | refine ACode.condT rfl ?_ | refine ACode.condF rfl ?_)
  refine ACode.cond rfl (fun hb2 => ?_) (fun hb2 => ?_)
  · have hlt : j < f.yields.datas.length := by simpa using hb2
    obtain ⟨d, hd⟩ := get_of_lt hlt
    obtain ⟨d1, d2, d3⟩ := hs.d d (List.mem_of_getElem? hd)
    repeat first | (with_reducible refine oj ?_; refine AOps.auto tabOk rfl ?_) | (with_reducible first | refine o1 ?_ | refine o2 ?_ | refine o3 ?_ | refine o4 ?_ | refine o5 ?_ | refine o6 ?_ | refine o7 ?_ | refine o8 ?_ | refine o9 ?_ | refine oa ?_ | refine ob ?_ | refine oc ?_ | refine od ?_ | refine oe ?_ | refine og ?_ | refine oh ?_ | refine oi ?_) | (with_reducible refine cExitMiss ?_ ?_; rfl) | (with_reducible refine ok ?_; first | refine ACode.condT rfl ?_ | refine ACode.condF rfl ?_)
    refine AOps.step1 rfl rfl rfl (AStep.indexAddr tabOk rfl rfl rfl rfl rfl rfl (.inl rfl) rfl (by omega) (map_get hd)) ?_
    repeat first | (with_reducible refine oj ?_; refine AOps.auto tabOk rfl ?_) | (with_reducible first | refine o1 ?_ | refine o2 ?_ | refine o3 ?_ | refine o4 ?_ | refine o5 ?_ | refine o6 ?_ | refine o7 ?_ | refine o8 ?_ | refine o9 ?_ | refine oa ?_ | refine ob ?_ | refine oc ?_ | refine od ?_ | refine oe ?_ | refine og ?_ | refine oh ?_ | refine oi ?_) | (with_reducible refine cExitMiss ?_ ?_; rfl) | (with_reducible refine ok ?_; first | refine ACode.condT rfl ?_ | refine ACode.condF rfl ?_)
    refine ACode.grow 5 2 96 2 rfl rfl ?_
    refine ACode.loopR hΓ (α := Nat) (fun j2 => [(87, .one (int j2)), (86, .one (int (d.cons.map cCon).length)), (85, .one (.sl 2 (d.cons.map cCon))), (17, .one (.ptr (.l 4) 0)), (75, .one (int j)), (74, .one (int (f.yields.datas.map cData).length)), (73, .one (.sl 3 (f.yields.datas.map cData))), (14, .one (.ptr (.l 2) 0)), (11, .one (.sl 5 (l.map cMap))), (8, .one (.ptr (.l 1) 0)), (4, .one (.ptr (.l 0) 0))])
      (fun j2 => ⟨6, [(5, .tok 96 2 j2), (4, .cells [str d.name, int d.params, .gs 2 ((subCs l (d.cons.take j2)).map cCon) (.l 5)]), (3, .tok 40 3 j), (2, .cells [.gs 3 ((subDs l (f.yields.datas.take j)).map cData) (.l 3), .lit (.slice none 0 0)]), (1, .cells [.lit (.slice none 0 0), .lit (.slice none 0 0)]), (0, .cells (cFctr f))], ou⟩)
      (fun m j2 => j2 ≤ d.cons.length ∧ m = d.cons.length - j2) (a0 := 0) (ρ := fun k => if k = 4 then 5 else if k = 5 then 6 else k) ⟨by omega, rfl⟩ (LessR.of rfl (by (repeat' first | exact FrSub.nil | refine FrSub.cons rfl (.ofEq rfl) ?_ | refine FrSub.consP rfl (.ofEq rfl) (by simp) ?_)) (by simp) (by repeat' first | exact LoSub.nil | refine LoSub.cons rfl ?_ rfl (by simp) ?_ | rfl | (refine (AObj.ren_pure _ _ ?_).symm; simp; done) | (simp [AObj.ren, renL, AC.ren, cTy]; done) | (simp [AObj.ren, renL, AC.ren, cTy]; rfl)) rfl rfl hou) fun m j2 hj2 => ?_
    obtain ⟨hj2l, rfl⟩ := hj2
    repeat first | (with_reducible refine oj ?_; refine AOps.auto tabOk rfl ?_) | (with_reducible first | refine o1 ?_ | refine o2 ?_ | refine o3 ?_ | refine o4 ?_ | refine o5 ?_ | refine o6 ?_ | refine o7 ?_ | refine o8 ?_ | refine o9 ?_ | refine oa ?_ | refine ob ?_ | refine oc ?_ | refine od ?_ | refine oe ?_ | refine og ?_ | refine oh ?_ | refine oi ?_) | (with_reducible refine cExitMiss ?_ ?_; rfl) | (with_reducible refine ok ?_; first | refine ACode.condT rfl ?_ | refine ACode.condF rfl ?_)
    refine ACode.cond rfl (fun hb3 => ?_) (fun hb3 => ?_)
    · have hlt2 : j2 < d.cons.length := by simpa using hb3
      obtain ⟨c, hc⟩ := get_of_lt hlt2
      obtain ⟨c1, c2⟩ := d3 c (List.mem_of_getElem? hc)
      repeat first | (with_reducible refine oj ?_; refine AOps.auto tabOk rfl ?_) | (with_reducible first | refine o1 ?_ | refine o2 ?_ | refine o3 ?_ | refine o4 ?_ | refine o5 ?_ | refine o6 ?_ | refine o7 ?_ | refine o8 ?_ | refine o9 ?_ | refine oa ?_ | refine ob ?_ | refine oc ?_ | refine od ?_ | refine oe ?_ | refine og ?_ | refine oh ?_ | refine oi ?_) | (with_reducible refine cExitMiss ?_ ?_; rfl) | (with_reducible refine ok ?_; first | refine ACode.condT rfl ?_ | refine ACode.condF rfl ?_)
      refine AOps.step1 rfl rfl rfl (AStep.indexAddr tabOk rfl rfl rfl rfl rfl rfl (.inl rfl) rfl (by omega) (map_get hc)) ?_
      repeat first | (with_reducible refine oj ?_; refine AOps.auto tabOk rfl ?_) | (with_reducible first | refine o1 ?_ | refine o2 ?_ | refine o3 ?_ | refine o4 ?_ | refine o5 ?_ | refine o6 ?_ | refine o7 ?_ | refine o8 ?_ | refine o9 ?_ | refine oa ?_ | refine ob ?_ | refine oc ?_ | refine od ?_ | refine oe ?_ | refine og ?_ | refine oh ?_ | refine oi ?_) | (with_reducible refine cExitMiss ?_ ?_; rfl) | (with_reducible refine ok ?_; first | refine ACode.condT rfl ?_ | refine ACode.condF rfl ?_)
      refine ACode.grow 7 1 36 4 rfl rfl ?_
      refine ACode.loopR hΓ (α := Nat) (fun j3 => [(97, .one (int j3)), (96, .one (int (encTys c.args).length)), (95, .one (.sl 4 (encTys c.args))), (20, .one (.ptr (.l 6) 0)), (87, .one (int j2)), (86, .one (int (d.cons.map cCon).length)), (85, .one (.sl 2 (d.cons.map cCon))), (17, .one (.ptr (.l 4) 0)), (75, .one (int j)), (74, .one (int (f.yields.datas.map cData).length)), (73, .one (.sl 3 (f.yields.datas.map cData))), (14, .one (.ptr (.l 2) 0)), (11, .one (.sl 5 (l.map cMap))), (8, .one (.ptr (.l 1) 0)), (4, .one (.ptr (.l 0) 0))])
        (fun j3 => ⟨8, [(7, .tok 36 4 j3), (6, .cells [str c.name, .gs 4 (encTys (subTs l (c.args.take j3))) (.l 7)]), (5, .tok 96 2 j2), (4, .cells [str d.name, int d.params, .gs 2 ((subCs l (d.cons.take j2)).map cCon) (.l 5)]), (3, .tok 40 3 j), (2, .cells [.gs 3 ((subDs l (f.yields.datas.take j)).map cData) (.l 3), .lit (.slice none 0 0)]), (1, .cells [.lit (.slice none 0 0), .lit (.slice none 0 0)]), (0, .cells (cFctr f))], ou⟩)
        (fun m j3 => j3 ≤ c.args.length ∧ m = c.args.length - j3) (a0 := 0) (ρ := fun k => if k = 6 then 7 else if k = 7 then 8 else k) ⟨by omega, rfl⟩ (LessR.of rfl (by (repeat' first | exact FrSub.nil | refine FrSub.cons rfl (.ofEq rfl) ?_ | refine FrSub.consP rfl (.ofEq rfl) (by simp) ?_)) (by simp) (by repeat' first | exact LoSub.nil | refine LoSub.cons rfl ?_ rfl (by simp) ?_ | rfl | (refine (AObj.ren_pure _ _ ?_).symm; simp; done) | (simp [AObj.ren, renL, AC.ren, cTy]; done) | (simp [AObj.ren, renL, AC.ren, cTy]; rfl)) rfl rfl hou) fun m j3 hj3 => ?_
      obtain ⟨hj3l, rfl⟩ := hj3
      repeat first | (with_reducible refine oj ?_; refine AOps.auto tabOk rfl ?_) | (with_reducible first | refine o1 ?_ | refine o2 ?_ | refine o3 ?_ | refine o4 ?_ | refine o5 ?_ | refine o6 ?_ | refine o7 ?_ | refine o8 ?_ | refine o9 ?_ | refine oa ?_ | refine ob ?_ | refine oc ?_ | refine od ?_ | refine oe ?_ | refine og ?_ | refine oh ?_ | refine oi ?_) | (with_reducible refine cExitMiss ?_ ?_; rfl) | (with_reducible refine ok ?_; first | refine ACode.condT rfl ?_ | refine ACode.condF rfl ?_)
      refine ACode.cond rfl (fun hb4 => ?_) (fun hb4 => ?_)
      · have hlt3 : j3 < c.args.length := by simpa using hb4
        obtain ⟨a, ha3⟩ := get_of_lt hlt3
        have hca := Subst_ok hΓ l hlen hsm a (smallTys_iff.1 c2 a (List.mem_of_getElem? ha3))
        repeat first | (with_reducible refine oj ?_; refine AOps.auto tabOk rfl ?_) | (with_reducible first | refine o1 ?_ | refine o2 ?_ | refine o3 ?_ | refine o4 ?_ | refine o5 ?_ | refine o6 ?_ | refine o7 ?_ | refine o8 ?_ | refine o9 ?_ | refine oa ?_ | refine ob ?_ | refine oc ?_ | refine od ?_ | refine oe ?_ | refine og ?_ | refine oh ?_ | refine oi ?_) | (with_reducible refine cExitMiss ?_ ?_; rfl) | (with_reducible refine ok ?_; first | refine ACode.condT rfl ?_ | refine ACode.condF rfl ?_)
        refine AOps.step1 rfl rfl rfl (AStep.indexAddr tabOk rfl rfl rfl rfl rfl rfl (.inl rfl) rfl (by omega) (by simpa using encTys_get ha3)) ?_
        repeat first | (with_reducible refine oj ?_; refine AOps.auto tabOk rfl ?_) | (with_reducible first | refine o1 ?_ | refine o2 ?_ | refine o3 ?_ | refine o4 ?_ | refine o5 ?_ | refine o6 ?_ | refine o7 ?_ | refine o8 ?_ | refine o9 ?_ | refine oa ?_ | refine ob ?_ | refine oc ?_ | refine od ?_ | refine oe ?_ | refine og ?_ | refine oh ?_ | refine oi ?_) | (with_reducible refine cExitMiss ?_ ?_; rfl) | (with_reducible refine ok ?_; first | refine ACode.condT rfl ?_ | refine ACode.condF rfl ?_)
        refine ACode.drawX tabOk 6 [(4, .agg (cTy (substTy l a)))] follows (by kernel_rfl) rfl rfl rfl rfl (.call hΓ hca hou (by simp) rfl rfl rfl rfl rfl rfl .nil) ?_
        have hte : (encTys (subTs l (c.args.take j3))).length = j3 := by simp; omega
        repeat first | (with_reducible refine oj ?_; refine AOps.auto tabOk rfl ?_) | (with_reducible first | refine o1 ?_ | refine o2 ?_ | refine o3 ?_ | refine o4 ?_ | refine o5 ?_ | refine o6 ?_ | refine o7 ?_ | refine o8 ?_ | refine o9 ?_ | refine oa ?_ | refine ob ?_ | refine oc ?_ | refine od ?_ | refine oe ?_ | refine og ?_ | refine oh ?_ | refine oi ?_) | (with_reducible refine cExitMiss ?_ ?_; rfl) | (with_reducible refine ok ?_; first | refine ACode.condT rfl ?_ | refine ACode.condF rfl ?_)
        refine AOps.app tabOk rfl rfl rfl rfl rfl rfl rfl rfl rfl (Base.gs' _ _ _ _ _ (by rfl) hte.symm) (.sl _ _) rfl ?_ ?_ ?_
        · rw [hte]; show (j3 + 1) * 56 ≤ _; omega
        · rw [hte]; show j3 + 1 ≤ _; omega
        repeat first | (with_reducible refine oj ?_; refine AOps.auto tabOk rfl ?_) | (with_reducible first | refine o1 ?_ | refine o2 ?_ | refine o3 ?_ | refine o4 ?_ | refine o5 ?_ | refine o6 ?_ | refine o7 ?_ | refine o8 ?_ | refine o9 ?_ | refine oa ?_ | refine ob ?_ | refine oc ?_ | refine od ?_ | refine oe ?_ | refine og ?_ | refine oh ?_ | refine oi ?_) | (with_reducible refine cExitMiss ?_ ?_; rfl) | (with_reducible refine ok ?_; first | refine ACode.condT rfl ?_ | refine ACode.condF rfl ?_)
        refine AOps.step1 rfl rfl rfl (AStep.arith rfl rfl rfl (.inl ⟨rfl, rfl⟩) (inRange_i64 (by omega) (by omega))) ?_
        repeat first | (with_reducible refine oj ?_; refine AOps.auto tabOk rfl ?_) | (with_reducible first | refine o1 ?_ | refine o2 ?_ | refine o3 ?_ | refine o4 ?_ | refine o5 ?_ | refine o6 ?_ | refine o7 ?_ | refine o8 ?_ | refine o9 ?_ | refine oa ?_ | refine ob ?_ | refine oc ?_ | refine od ?_ | refine oe ?_ | refine og ?_ | refine oh ?_ | refine oi ?_) | (with_reducible refine cExitMiss ?_ ?_; rfl) | (with_reducible refine ok ?_; first | refine ACode.condT rfl ?_ | refine ACode.condF rfl ?_)
        refine cInv ⟨c.args.length - (j3 + 1), j3 + 1, fun k => if k = 7 then 9 else k, by omega, ⟨by omega, rfl⟩, LessR.of rfl (by (repeat' first | exact FrSub.nil | refine FrSub.cons rfl (.ofEq rfl) ?_ | refine FrSub.consP rfl (.ofEq rfl) (by simp) ?_)) (by simp) ?_ rfl rfl hou⟩
        repeat' first | exact LoSub.nil | refine LoSub.cons rfl ?_ rfl (by simp) ?_ | rfl | (refine (AObj.ren_pure _ _ ?_).symm; simp; done) | (simp [AObj.ren, renL, AC.ren, cTy]; done) | (simp [AObj.ren, renL, AC.ren, cTy]; rfl)
        · simp [AObj.ren, hte]; rfl
        · simp only [AObj.ren, renL, AC.ren, ren_encTys]; rw [subTs_succ ha3]; rfl
      · have hlt3 : j3 = c.args.length := by simp at hb4; omega
        subst hlt3
        iterate 9 (first | (with_reducible refine oj ?_; refine AOps.auto tabOk rfl ?_) | (with_reducible first | refine o1 ?_ | refine o2 ?_ | refine o3 ?_ | refine o4 ?_ | refine o5 ?_ | refine o6 ?_ | refine o7 ?_ | refine o8 ?_ | refine o9 ?_ | refine oa ?_ | refine ob ?_ | refine oc ?_ | refine od ?_ | refine oe ?_ | refine og ?_ | refine oh ?_ | refine oi ?_) | (with_reducible refine cExitMiss ?_ ?_; rfl) | (with_reducible refine ok ?_; first | refine ACode.condT rfl ?_ | refine ACode.condF rfl ?_))
        refine AOps.wk 112 rfl (y := .agg (cCon (subC l c))) (WkF.agg' (.cons (.refl _) (.cons (.gsE (by simp [subC])) .nil))) ?_
        repeat first | (with_reducible refine oj ?_; refine AOps.auto tabOk rfl ?_) | (with_reducible first | refine o1 ?_ | refine o2 ?_ | refine o3 ?_ | refine o4 ?_ | refine o5 ?_ | refine o6 ?_ | refine o7 ?_ | refine o8 ?_ | refine o9 ?_ | refine oa ?_ | refine ob ?_ | refine oc ?_ | refine od ?_ | refine oe ?_ | refine og ?_ | refine oh ?_ | refine oi ?_) | (with_reducible refine cExitMiss ?_ ?_; rfl) | (with_reducible refine ok ?_; first | refine ACode.condT rfl ?_ | refine ACode.condF rfl ?_)
        have hte : ((subCs l (d.cons.take j2)).map cCon).length = j2 := by simp; omega
        refine AOps.app tabOk rfl rfl rfl rfl rfl rfl rfl rfl rfl (Base.gs' _ _ _ _ _ (by rfl) hte.symm) (.sl _ _) rfl ?_ ?_ ?_
        · rw [hte]; show (j2 + 1) * 40 ≤ _; omega
        · rw [hte]; show j2 + 1 ≤ _; omega
        repeat first | (with_reducible refine oj ?_; refine AOps.auto tabOk rfl ?_) | (with_reducible first | refine o1 ?_ | refine o2 ?_ | refine o3 ?_ | refine o4 ?_ | refine o5 ?_ | refine o6 ?_ | refine o7 ?_ | refine o8 ?_ | refine o9 ?_ | refine oa ?_ | refine ob ?_ | refine oc ?_ | refine od ?_ | refine oe ?_ | refine og ?_ | refine oh ?_ | refine oi ?_) | (with_reducible refine cExitMiss ?_ ?_; rfl) | (with_reducible refine ok ?_; first | refine ACode.condT rfl ?_ | refine ACode.condF rfl ?_)
        refine AOps.step1 rfl rfl rfl (AStep.arith rfl rfl rfl (.inl ⟨rfl, rfl⟩) (inRange_i64 (by omega) (by omega))) ?_
        repeat first | (with_reducible refine oj ?_; refine AOps.auto tabOk rfl ?_) | (with_reducible first | refine o1 ?_ | refine o2 ?_ | refine o3 ?_ | refine o4 ?_ | refine o5 ?_ | refine o6 ?_ | refine o7 ?_ | refine o8 ?_ | refine o9 ?_ | refine oa ?_ | refine ob ?_ | refine oc ?_ | refine od ?_ | refine oe ?_ | refine og ?_ | refine oh ?_ | refine oi ?_) | (with_reducible refine cExitMiss ?_ ?_; rfl) | (with_reducible refine ok ?_; first | refine ACode.condT rfl ?_ | refine ACode.condF rfl ?_)
        refine cInv ⟨d.cons.length - (j2 + 1), j2 + 1, fun k => if k = 5 then 8 else k, by omega, ⟨by omega, rfl⟩, LessR.of rfl (by (repeat' first | exact FrSub.nil | refine FrSub.cons rfl (.ofEq rfl) ?_ | refine FrSub.consP rfl (.ofEq rfl) (by simp) ?_)) (by simp) ?_ rfl rfl hou⟩
        repeat' first | exact LoSub.nil | refine LoSub.cons rfl ?_ rfl (by simp) ?_ | rfl | (refine (AObj.ren_pure _ _ ?_).symm; simp; done) | (simp [AObj.ren, renL, AC.ren, cTy]; done) | (simp [AObj.ren, renL, AC.ren, cTy]; rfl)
        · simp [AObj.ren, hte]; rfl
        · simp only [AObj.ren, renL, AC.ren, ren_cons]; rw [subCs_succ hc]; rfl
    · have hlt2 : j2 = d.cons.length := by simp at hb3; omega
      subst hlt2
      iterate 9 (first | (with_reducible refine oj ?_; refine AOps.auto tabOk rfl ?_) | (with_reducible first | refine o1 ?_ | refine o2 ?_ | refine o3 ?_ | refine o4 ?_ | refine o5 ?_ | refine o6 ?_ | refine o7 ?_ | refine o8 ?_ | refine o9 ?_ | refine oa ?_ | refine ob ?_ | refine oc ?_ | refine od ?_ | refine oe ?_ | refine og ?_ | refine oh ?_ | refine oi ?_) | (with_reducible refine cExitMiss ?_ ?_; rfl) | (with_reducible refine ok ?_; first | refine ACode.condT rfl ?_ | refine ACode.condF rfl ?_))
      refine AOps.wk 119 rfl (y := .agg (cData (subD l d))) (WkF.agg' (.cons (.refl _) (.cons (.refl _) (.cons (.gsE (by simp [subD])) .nil)))) ?_
      repeat first | (with_reducible refine oj ?_; refine AOps.auto tabOk rfl ?_) | (with_reducible first | refine o1 ?_ | refine o2 ?_ | refine o3 ?_ | refine o4 ?_ | refine o5 ?_ | refine o6 ?_ | refine o7 ?_ | refine o8 ?_ | refine o9 ?_ | refine oa ?_ | refine ob ?_ | refine oc ?_ | refine od ?_ | refine oe ?_ | refine og ?_ | refine oh ?_ | refine oi ?_) | (with_reducible refine cExitMiss ?_ ?_; rfl) | (with_reducible refine ok ?_; first | refine ACode.condT rfl ?_ | refine ACode.condF rfl ?_)
      have hte : ((subDs l (f.yields.datas.take j)).map cData).length = j := by simp; omega
      refine AOps.app tabOk rfl rfl rfl rfl rfl rfl rfl rfl rfl (Base.gs' _ _ _ _ _ (by rfl) hte.symm) (.sl _ _) rfl ?_ ?_ ?_
      · rw [hte]; show (j + 1) * 48 ≤ _; omega
      · rw [hte]; show j + 1 ≤ _; omega
      repeat first | (with_reducible refine oj ?_; refine AOps.auto tabOk rfl ?_) | (with_reducible first | refine o1 ?_ | refine o2 ?_ | refine o3 ?_ | refine o4 ?_ | refine o5 ?_ | refine o6 ?_ | refine o7 ?_ | refine o8 ?_ | refine o9 ?_ | refine oa ?_ | refine ob ?_ | refine oc ?_ | refine od ?_ | refine oe ?_ | refine og ?_ | refine oh ?_ | refine oi ?_) | (with_reducible refine cExitMiss ?_ ?_; rfl) | (with_reducible refine ok ?_; first | refine ACode.condT rfl ?_ | refine ACode.condF rfl ?_)
      refine AOps.step1 rfl rfl rfl (AStep.arith rfl rfl rfl (.inl ⟨rfl, rfl⟩) (inRange_i64 (by omega) (by omega))) ?_
      repeat first | (with_reducible refine oj ?_; refine AOps.auto tabOk rfl ?_) | (with_reducible first | refine o1 ?_ | refine o2 ?_ | refine o3 ?_ | refine o4 ?_ | refine o5 ?_ | refine o6 ?_ | refine o7 ?_ | refine o8 ?_ | refine o9 ?_ | refine oa ?_ | refine ob ?_ | refine oc ?_ | refine od ?_ | refine oe ?_ | refine og ?_ | refine oh ?_ | refine oi ?_) | (with_reducible refine cExitMiss ?_ ?_; rfl) | (with_reducible refine ok ?_; first | refine ACode.condT rfl ?_ | refine ACode.condF rfl ?_)
      refine cInv ⟨f.yields.datas.length - (j + 1), j + 1, fun k => if k = 3 then 6 else k, by omega, ⟨by omega, rfl⟩, LessR.of rfl (by (repeat' first | exact FrSub.nil | refine FrSub.cons rfl (.ofEq rfl) ?_ | refine FrSub.consP rfl (.ofEq rfl) (by simp) ?_)) (by simp) ?_ rfl rfl hou⟩
      repeat' first | exact LoSub.nil | refine LoSub.cons rfl ?_ rfl (by simp) ?_ | rfl | (refine (AObj.ren_pure _ _ ?_).symm; simp; done) | (simp [AObj.ren, renL, AC.ren, cTy]; done) | (simp [AObj.ren, renL, AC.ren, cTy]; rfl)
      · simp [AObj.ren, hte]; rfl
      · simp only [AObj.ren, renL, AC.ren, ren_datas]; rw [subDs_succ hd]; rfl
  · have hlt : j = f.yields.datas.length := by simp at hb2; omega
    subst hlt
    repeat first | (with_reducible refine oj ?_; refine AOps.auto tabOk rfl ?_) | (with_reducible first | refine o1 ?_ | refine o2 ?_ | refine o3 ?_ | refine o4 ?_ | refine o5 ?_ | refine o6 ?_ | refine o7 ?_ | refine o8 ?_ | refine o9 ?_ | refine oa ?_ | refine ob ?_ | refine oc ?_ | refine od ?_ | refine oe ?_ | refine og ?_ | refine oh ?_ | refine oi ?_) | (with_reducible refine cExitMiss ?_ ?_; rfl) | (with_reducible refine ok ?_; first | refine ACode.condT rfl ?_ | refine ACode.condF rfl ?_)
    rw [List.take_length]
    refine ACode.grow 2 1 61 7 rfl rfl ?_
    refine ACode.loopR hΓ (α := Nat) (fun j => [(128, .one (int j)), (127, .one (int (f.yields.vals.map cVal).length)), (126, .one (.sl 7 (f.yields.vals.map cVal))), (14, .one (.ptr (.l 2) 0)), (11, .one (.sl 5 (l.map cMap))), (8, .one (.ptr (.l 1) 0))])
      (fun j => ⟨5, [(4, .tok 61 7 j), (3, .tok 40 3 f.yields.datas.length), (2, .cells [.gs 3 ((subDs l f.yields.datas).map cData) (.l 3), .gs 7 ((subVs l (f.yields.vals.take j)).map cVal) (.l 4)]), (1, .cells [.lit (.slice none 0 0), .lit (.slice none 0 0)])], ou⟩)
      (fun m j => j ≤ f.yields.vals.length ∧ m = f.yields.vals.length - j) (a0 := 0) (ρ := id) ⟨by omega, rfl⟩ (LessR.of rfl (by (repeat' first | exact FrSub.nil | refine FrSub.cons rfl (.ofEq rfl) ?_ | refine FrSub.consP rfl (.ofEq rfl) (by simp) ?_)) (by simp) (by (repeat' first | exact LoSub.nil | refine LoSub.cons rfl ?_ rfl (by simp) ?_ | rfl | (refine (AObj.ren_pure _ _ ?_).symm; simp; done) | (simp [AObj.ren, renL, AC.ren, cTy]; done) | (simp [AObj.ren, renL, AC.ren, cTy]; rfl)); simp only [AObj.ren, renL, AC.ren, ren_datas, ren_vals]; rfl) rfl rfl hou) fun m j hj => ?_
    obtain ⟨hjl, rfl⟩ := hj
    have hvl := hs.vl
    repeat first | (with_reducible refine oj ?_; refine AOps.auto tabOk rfl ?_) | (with_reducible first | refine o1 ?_ | refine o2 ?_ | refine o3 ?_ | refine o4 ?_ | refine o5 ?_ | refine o6 ?_ | refine o7 ?_ | refine o8 ?_ | refine o9 ?_ | refine oa ?_ | refine ob ?_ | refine oc ?_ | refine od ?_ | refine oe ?_ | refine og ?_ | refine oh ?_ | refine oi ?_) | (with_reducible refine cExitMiss ?_ ?_; rfl) | (with_reducible refine ok ?_; first | refine ACode.condT rfl ?_ | refine ACode.condF rfl ?_)
    refine ACode.cond rfl (fun hb3 => ?_) (fun hb3 => ?_)
    · have hlt : j < f.yields.vals.length := by simpa using hb3
      obtain ⟨v, hv⟩ := get_of_lt hlt
      have hcm := mapped_ok hΓ v.sch (hs.v v (List.mem_of_getElem? hv)) l hlen hsm
      repeat first | (with_reducible refine oj ?_; refine AOps.auto tabOk rfl ?_) | (with_reducible first | refine o1 ?_ | refine o2 ?_ | refine o3 ?_ | refine o4 ?_ | refine o5 ?_ | refine o6 ?_ | refine o7 ?_ | refine o8 ?_ | refine o9 ?_ | refine oa ?_ | refine ob ?_ | refine oc ?_ | refine od ?_ | refine oe ?_ | refine og ?_ | refine oh ?_ | refine oi ?_) | (with_reducible refine cExitMiss ?_ ?_; rfl) | (with_reducible refine ok ?_; first | refine ACode.condT rfl ?_ | refine ACode.condF rfl ?_)
      refine AOps.step1 rfl rfl rfl (AStep.indexAddr tabOk rfl rfl rfl rfl rfl rfl (.inl rfl) rfl (by omega) (map_get hv)) ?_
      repeat first | (with_reducible refine oj ?_; refine AOps.auto tabOk rfl ?_) | (with_reducible first | refine o1 ?_ | refine o2 ?_ | refine o3 ?_ | refine o4 ?_ | refine o5 ?_ | refine o6 ?_ | refine o7 ?_ | refine o8 ?_ | refine o9 ?_ | refine oa ?_ | refine ob ?_ | refine oc ?_ | refine od ?_ | refine oe ?_ | refine og ?_ | refine oh ?_ | refine oi ?_) | (with_reducible refine cExitMiss ?_ ?_; rfl) | (with_reducible refine ok ?_; first | refine ACode.condT rfl ?_ | refine ACode.condF rfl ?_)
      refine ACode.drawX tabOk 10 [(7, .agg (cSch (mapSch l v.sch)))] follows (by kernel_rfl) rfl rfl rfl rfl (.call hΓ hcm hou (by simp) rfl rfl rfl rfl rfl rfl .nil) ?_
      have hte : ((subVs l (f.yields.vals.take j)).map cVal).length = j := by simp; omega
      repeat first | (with_reducible refine oj ?_; refine AOps.auto tabOk rfl ?_) | (with_reducible first | refine o1 ?_ | refine o2 ?_ | refine o3 ?_ | refine o4 ?_ | refine o5 ?_ | refine o6 ?_ | refine o7 ?_ | refine o8 ?_ | refine o9 ?_ | refine oa ?_ | refine ob ?_ | refine oc ?_ | refine od ?_ | refine oe ?_ | refine og ?_ | refine oh ?_ | refine oi ?_) | (with_reducible refine cExitMiss ?_ ?_; rfl) | (with_reducible refine ok ?_; first | refine ACode.condT rfl ?_ | refine ACode.condF rfl ?_)
      refine AOps.app tabOk rfl rfl rfl rfl rfl rfl rfl rfl rfl (Base.gs' _ _ _ _ _ (by rfl) hte.symm) (.sl _ _) rfl ?_ ?_ ?_
      · rw [hte]; show (j + 1) * 104 ≤ _; omega
      · rw [hte]; show j + 1 ≤ _; omega
      repeat first | (with_reducible refine oj ?_; refine AOps.auto tabOk rfl ?_) | (with_reducible first | refine o1 ?_ | refine o2 ?_ | refine o3 ?_ | refine o4 ?_ | refine o5 ?_ | refine o6 ?_ | refine o7 ?_ | refine o8 ?_ | refine o9 ?_ | refine oa ?_ | refine ob ?_ | refine oc ?_ | refine od ?_ | refine oe ?_ | refine og ?_ | refine oh ?_ | refine oi ?_) | (with_reducible refine cExitMiss ?_ ?_; rfl) | (with_reducible refine ok ?_; first | refine ACode.condT rfl ?_ | refine ACode.condF rfl ?_)
      refine AOps.step1 rfl rfl rfl (AStep.arith rfl rfl rfl (.inl ⟨rfl, rfl⟩) (inRange_i64 (by omega) (by omega))) ?_
      repeat first | (with_reducible refine oj ?_; refine AOps.auto tabOk rfl ?_) | (with_reducible first | refine o1 ?_ | refine o2 ?_ | refine o3 ?_ | refine o4 ?_ | refine o5 ?_ | refine o6 ?_ | refine o7 ?_ | refine o8 ?_ | refine o9 ?_ | refine oa ?_ | refine ob ?_ | refine oc ?_ | refine od ?_ | refine oe ?_ | refine og ?_ | refine oh ?_ | refine oi ?_) | (with_reducible refine cExitMiss ?_ ?_; rfl) | (with_reducible refine ok ?_; first | refine ACode.condT rfl ?_ | refine ACode.condF rfl ?_)
      refine cInv ⟨f.yields.vals.length - (j + 1), j + 1, fun k => if k = 4 then 6 else k, by omega, ⟨by omega, rfl⟩, LessR.of rfl (by (repeat' first | exact FrSub.nil | refine FrSub.cons rfl (.ofEq rfl) ?_ | refine FrSub.consP rfl (.ofEq rfl) (by simp) ?_)) (by simp) ?_ rfl rfl hou⟩
      repeat' first | exact LoSub.nil | refine LoSub.cons rfl ?_ rfl (by simp) ?_ | rfl | (refine (AObj.ren_pure _ _ ?_).symm; simp; done) | (simp [AObj.ren, renL, AC.ren, cTy]; done) | (simp [AObj.ren, renL, AC.ren, cTy]; rfl)
      · simp [AObj.ren, hte]; rfl
      · simp only [AObj.ren, renL, AC.ren, ren_datas, ren_vals]; rw [subVs_succ hv]; rfl
    · have hlt : j = f.yields.vals.length := by simp at hb3; omega
      subst hlt
      repeat first | (with_reducible refine oj ?_; refine AOps.auto tabOk rfl ?_) | (with_reducible first | refine o1 ?_ | refine o2 ?_ | refine o3 ?_ | refine o4 ?_ | refine o5 ?_ | refine o6 ?_ | refine o7 ?_ | refine o8 ?_ | refine o9 ?_ | refine oa ?_ | refine ob ?_ | refine oc ?_ | refine od ?_ | refine oe ?_ | refine og ?_ | refine oh ?_ | refine oi ?_) | (with_reducible refine cExitMiss ?_ ?_; rfl) | (with_reducible refine ok ?_; first | refine ACode.condT rfl ?_ | refine ACode.condF rfl ?_)
      refine APure.fin rfl (WkF.tup (.cons (.agg' (.cons (.gsE rfl) (.cons (.gsE ?_) .nil))) (.cons (.ofEq rfl) .nil))) (by simp) hou rfl
      simp [subSp]
end Go.Proofs.YtoojdmgbffnmiaaDoor
/- The library's Itoa at this program (the kit's shelf, laid by its tools, in plain words). -/
namespace Go.Proofs
open Go.Shelf
def Tryd.lays129_ren : Go.Shelf.Ren := ⟨fun | 129 => 94 | n => n, fun | 53 => 132 | 3 => 3 | 4 => 4 | 46 => 91 | 5 => 5 | 9 => 9 | n => n, fun | n => n⟩
theorem Tryd.lays129 : Go.Proofs.Lays.n129 Tryd.prog Tryd.lays129_ren := {
  mixed := by kernel_rfl
  f129 := Tryd.func94.trans (congrArg some (by kernel_rfl))
  t3 := Tryd.underlying3
  a3 := Tryd.isAgg3
  z3 := Tryd.sizeOf3
  v3 := Tryd.zeroValue3
  t4 := Tryd.underlying4
  a4 := Tryd.isAgg4
  z4 := Tryd.sizeOf4
  v4 := Tryd.zeroValue4
  t5 := Tryd.underlying5
  a5 := Tryd.isAgg5
  z5 := Tryd.sizeOf5
  v5 := Tryd.zeroValue5
  t9 := Tryd.underlying9
  a9 := Tryd.isAgg9
  z9 := Tryd.sizeOf9
  v9 := Tryd.zeroValue9
  t46 := Tryd.underlying91
  a46 := Tryd.isAgg91
  z46 := Tryd.sizeOf91
  v46 := Tryd.zeroValue91
  t53 := Tryd.underlying132
  a53 := Tryd.isAgg132
  z53 := Tryd.sizeOf132
  v53 := Tryd.zeroValue132 }
/-- bits.Len64: "Len64 returns the minimum number of bits required to represent x; the result is 0 for x == 0.": IT RETURNS 'Lib.bitLen x'; the world is as it was. ('h0', 'h1': x is a uint64.) (LAID: no walk: one application.) -/
theorem Tryd.bits_Len64 (x : Int) (w : World) (h0 : 0 ≤ x) (h1 : x ≤ 18446744073709551615) :
    Calls Tryd.prog 94 #[.int .u64 x] w fun e w' => e = .returned (.int .i64 (Lib.bitLen x.toNat)) ∧ w' = w := Any.bits_Len64 Tryd.lays129 x w h0 h1
def Tryd.lays317_ren : Go.Shelf.Ren := ⟨fun | 317 => 93 | n => n, fun | 3 => 3 | 46 => 91 | n => n, fun | n => n⟩
theorem Tryd.lays317 : Go.Proofs.Lays.n317 Tryd.prog Tryd.lays317_ren := {
  mixed := by kernel_rfl
  f317 := Tryd.func93.trans (congrArg some (by kernel_rfl))
  t3 := Tryd.underlying3
  a3 := Tryd.isAgg3
  z3 := Tryd.sizeOf3
  v3 := Tryd.zeroValue3
  t46 := Tryd.underlying91
  a46 := Tryd.isAgg91
  z46 := Tryd.sizeOf91
  v46 := Tryd.zeroValue91 }
open Go.Lib in
/-- internal/strconv.log10Pow2: "log10Pow2(x) returns ⌊log₁₀ 2**x⌋ = ⌊x * log₁₀ 2⌋.": '(x * 78913) >> 18', at an x up to 64 (a length in bits). The world is as it was. (LAID: no walk: one application.) -/
theorem Tryd.internal_strconv_log10Pow2 (x : Nat) (h : x ≤ 64) (w : World) :
    Calls Tryd.prog 93 #[.int .i64 x] w fun e w' => e = .returned (.int .i64 (Lib.l10 x)) ∧ w' = w := Any.internal_strconv_log10Pow2 Tryd.lays317 x h w
def Tryd.lays318_ren : Go.Shelf.Ren := ⟨fun | 318 => 95 | n => n, fun | 3 => 3 | 4 => 4 | n => n, fun | n => n⟩
theorem Tryd.lays318 : Go.Proofs.Lays.n318 Tryd.prog Tryd.lays318_ren := {
  mixed := by kernel_rfl
  f318 := Tryd.func95.trans (congrArg some (by kernel_rfl))
  t3 := Tryd.underlying3
  a3 := Tryd.isAgg3
  z3 := Tryd.sizeOf3
  v3 := Tryd.zeroValue3
  t4 := Tryd.underlying4
  a4 := Tryd.isAgg4
  z4 := Tryd.sizeOf4
  v4 := Tryd.zeroValue4 }
open Go.Lib in
/-- internal/strconv.bool2: "bool2 converts b to an integer: 1 for true, 0 for false." The world is as it was. (LAID: no walk: one application.) -/
theorem Tryd.internal_strconv_bool2_int (b : Bool) (w : World) :
    Calls Tryd.prog 95 #[.bool b] w fun e w' => e = .returned (.int .i64 (if b then 1 else 0)) ∧ w' = w := Any.internal_strconv_bool2_int Tryd.lays318 b w
def Tryd.lays283_ren : Go.Shelf.Ren := ⟨fun | 283 => 85 | n => n, fun | 3 => 3 | 9 => 9 | 4 => 4 | n => n, fun | n => n⟩
theorem Tryd.lays283 : Go.Proofs.Lays.n283 Tryd.prog Tryd.lays283_ren := {
  mixed := by kernel_rfl
  f283 := Tryd.func85.trans (congrArg some (by kernel_rfl))
  t3 := Tryd.underlying3
  a3 := Tryd.isAgg3
  z3 := Tryd.sizeOf3
  v3 := Tryd.zeroValue3
  t4 := Tryd.underlying4
  a4 := Tryd.isAgg4
  z4 := Tryd.sizeOf4
  v4 := Tryd.zeroValue4
  t9 := Tryd.underlying9
  a9 := Tryd.isAgg9
  z9 := Tryd.sizeOf9
  v9 := Tryd.zeroValue9 }
open Go.Lib in
/-- internal/strconv.small: "small returns the string for an i with 0 <= i < nSmalls.": i's decimal numeral. The world is as it was. (LAID: no walk: one application.) -/
theorem Tryd.internal_strconv_small (i : Nat) (h : i < 100) (w : World) :
    Calls Tryd.prog 85 #[.int .i64 i] w fun e w' => e = .returned (.string ⟨(Lib.decDigits i).toArray⟩) ∧ w' = w := Any.internal_strconv_small Tryd.lays283 i h w
def Tryd.laysM284_ren : Go.Shelf.Ren := ⟨fun | 284 => 86 | 129 => 94 | 317 => 93 | 318 => 95 | n => n, fun | 53 => 132 | 3 => 3 | 212 => 143 | 0 => 0 | 4 => 4 | 46 => 91 | 5 => 5 | 9 => 9 | n => n, fun | 17 => 2 | n => n⟩
theorem Tryd.laysM284 : Go.Proofs.LaysM.n284 Tryd.prog Tryd.laysM284_ren := {
  mixed := by kernel_rfl
  f129 := Tryd.func94.trans (congrArg some (by kernel_rfl))
  f284 := Tryd.func86.trans (congrArg some (by kernel_rfl))
  f317 := Tryd.func93.trans (congrArg some (by kernel_rfl))
  f318 := Tryd.func95.trans (congrArg some (by kernel_rfl))
  t0 := Tryd.underlying0
  a0 := Tryd.isAgg0
  z0 := Tryd.sizeOf0
  v0 := Tryd.zeroValue0
  t3 := Tryd.underlying3
  a3 := Tryd.isAgg3
  z3 := Tryd.sizeOf3
  v3 := Tryd.zeroValue3
  t4 := Tryd.underlying4
  a4 := Tryd.isAgg4
  z4 := Tryd.sizeOf4
  v4 := Tryd.zeroValue4
  t5 := Tryd.underlying5
  a5 := Tryd.isAgg5
  z5 := Tryd.sizeOf5
  v5 := Tryd.zeroValue5
  t9 := Tryd.underlying9
  a9 := Tryd.isAgg9
  z9 := Tryd.sizeOf9
  v9 := Tryd.zeroValue9
  t46 := Tryd.underlying91
  a46 := Tryd.isAgg91
  z46 := Tryd.sizeOf91
  v46 := Tryd.zeroValue91
  t53 := Tryd.underlying132
  a53 := Tryd.isAgg132
  z53 := Tryd.sizeOf132
  v53 := Tryd.zeroValue132
  t212 := Tryd.underlying143
  a212 := Tryd.isAgg143
  z212 := Tryd.sizeOf143
  v212 := Tryd.zeroValue143
  g17 := by kernel_rfl
  i0 := by kernel_rfl
  i3 := by kernel_rfl
  i4 := by kernel_rfl
  i5 := by kernel_rfl
  i9 := by kernel_rfl
  i46 := by kernel_rfl
  i53 := by kernel_rfl
  i212 := by kernel_rfl
  m17 := by kernel_rfl }
open Go.Lib in
/-- internal/strconv.numDigits, at a d that is not 0: THE NUMBER OF d's DECIMAL DIGITS. The world is as it was. (LAID: no walk: one application.) -/
theorem Tryd.internal_strconv_numDigits (u : Nat) (h1 : 1 ≤ u) (h2 : u < 18446744073709551616) (w : World) (htab : Lib.TabIs Tryd.prog w "internal/strconv.uint64pow10" .u64 Lib.pow10Tab) :
    Calls Tryd.prog 86 #[.int .u64 u] w fun e w' => e = .returned (.int .i64 (Lib.nDigits u)) ∧ w' = w := Any.internal_strconv_numDigits Tryd.laysM284 u h1 h2 w htab
def Tryd.lays285_ren : Go.Shelf.Ren := ⟨fun | 285 => 87 | n => n, fun | 37 => 135 | 53 => 132 | 3 => 3 | 4 => 4 | 51 => 144 | 9 => 9 | 5 => 5 | 0 => 0 | n => n, fun | n => n⟩
theorem Tryd.lays285 : Go.Proofs.Lays.n285 Tryd.prog Tryd.lays285_ren := {
  mixed := by kernel_rfl
  f285 := Tryd.func87.trans (congrArg some (by kernel_rfl))
  t0 := Tryd.underlying0
  a0 := Tryd.isAgg0
  z0 := Tryd.sizeOf0
  v0 := Tryd.zeroValue0
  t3 := Tryd.underlying3
  a3 := Tryd.isAgg3
  z3 := Tryd.sizeOf3
  v3 := Tryd.zeroValue3
  t4 := Tryd.underlying4
  a4 := Tryd.isAgg4
  z4 := Tryd.sizeOf4
  v4 := Tryd.zeroValue4
  t5 := Tryd.underlying5
  a5 := Tryd.isAgg5
  z5 := Tryd.sizeOf5
  v5 := Tryd.zeroValue5
  t9 := Tryd.underlying9
  a9 := Tryd.isAgg9
  z9 := Tryd.sizeOf9
  v9 := Tryd.zeroValue9
  t37 := Tryd.underlying135
  a37 := Tryd.isAgg135
  z37 := Tryd.sizeOf135
  v37 := Tryd.zeroValue135
  t51 := Tryd.underlying144
  a51 := Tryd.isAgg144
  z51 := Tryd.sizeOf144
  v51 := Tryd.zeroValue144
  t53 := Tryd.underlying132
  a53 := Tryd.isAgg132
  z53 := Tryd.sizeOf132
  v53 := Tryd.zeroValue132 }
open Go.RowKit Go.Sort Go.Lib in
/-- internal/strconv.formatBase10: "formatBase10 formats the decimal representation of u into a. The caller is responsible for ensuring that a is big enough to hold u. If a is too big, leading zeros will be filled in as needed.": THE ROW HOLDS u's DIGITS ('FmtInv .. 0 ..': every place t holds 'dg u (len - 1 - t)'); all else is as it was but for the count of draws. (LAID: no walk: one application.) -/
theorem Tryd.internal_strconv_formatBase10 (blk off cap : Nat) (u : Nat) (d : Array UInt8) (w : World) (hH : Holds (fun (b : UInt8) => Value.int .u8 (b.toNat : Int)) w blk off d) (hu : u < 10 ^ d.size) (hu64 : u < 18446744073709551616) (hsz : d.size < 4611686018427387904) :
    Calls Tryd.prog 87 #[.slice (some ⟨blk, off, none⟩) d.size cap, .int .u64 u] w fun e w' =>
      e = .returned (.tuple #[]) ∧ ∃ (n v' : Nat) (dk : Array UInt8), w' = (putRow (fun (b : UInt8) => Value.int .u8 (b.toNat : Int)) w blk off dk).drewN n ∧ FmtInv d.size u 0 v' dk := Any.internal_strconv_formatBase10 Tryd.lays285 blk off cap u d w hH hu hu64 hsz
def Tryd.laysM246_ren : Go.Shelf.Ren := ⟨fun | 246 => 80 | 283 => 85 | 284 => 86 | 285 => 87 | 286 => 88 | 129 => 94 | 317 => 93 | 318 => 95 | 319 => 96 | 320 => 97 | 337 => 99 | 338 => 100 | n => n, fun | 2 => 2 | 3 => 3 | 9 => 9 | 4 => 4 | 171 => 131 | 0 => 0 | 53 => 132 | 37 => 135 | 5 => 5 | 173 => 136 | 212 => 143 | 51 => 144 | 20 => 20 | 213 => 145 | 46 => 91 | 232 => 148 | 233 => 149 | n => n, fun | 17 => 2 | 18 => 3 | 19 => 4 | n => n⟩
theorem Tryd.laysM246 : Go.Proofs.LaysM.n246 Tryd.prog Tryd.laysM246_ren := {
  mixed := by kernel_rfl
  f129 := Tryd.func94.trans (congrArg some (by kernel_rfl))
  f246 := Tryd.func80.trans (congrArg some (by kernel_rfl))
  f283 := Tryd.func85.trans (congrArg some (by kernel_rfl))
  f284 := Tryd.func86.trans (congrArg some (by kernel_rfl))
  f285 := Tryd.func87.trans (congrArg some (by kernel_rfl))
  f286 := Tryd.func88.trans (congrArg some (by kernel_rfl))
  f317 := Tryd.func93.trans (congrArg some (by kernel_rfl))
  f318 := Tryd.func95.trans (congrArg some (by kernel_rfl))
  f319 := Tryd.func96.trans (congrArg some (by kernel_rfl))
  f320 := Tryd.func97.trans (congrArg some (by kernel_rfl))
  f337 := Tryd.func99.trans (congrArg some (by kernel_rfl))
  f338 := Tryd.func100.trans (congrArg some (by kernel_rfl))
  t0 := Tryd.underlying0
  a0 := Tryd.isAgg0
  z0 := Tryd.sizeOf0
  v0 := Tryd.zeroValue0
  t2 := Tryd.underlying2
  a2 := Tryd.isAgg2
  z2 := Tryd.sizeOf2
  v2 := Tryd.zeroValue2
  t3 := Tryd.underlying3
  a3 := Tryd.isAgg3
  z3 := Tryd.sizeOf3
  v3 := Tryd.zeroValue3
  t4 := Tryd.underlying4
  a4 := Tryd.isAgg4
  z4 := Tryd.sizeOf4
  v4 := Tryd.zeroValue4
  t5 := Tryd.underlying5
  a5 := Tryd.isAgg5
  z5 := Tryd.sizeOf5
  v5 := Tryd.zeroValue5
  t9 := Tryd.underlying9
  a9 := Tryd.isAgg9
  z9 := Tryd.sizeOf9
  v9 := Tryd.zeroValue9
  t20 := Tryd.underlying20
  a20 := Tryd.isAgg20
  z20 := Tryd.sizeOf20
  v20 := Tryd.zeroValue20
  t37 := Tryd.underlying135
  a37 := Tryd.isAgg135
  z37 := Tryd.sizeOf135
  v37 := Tryd.zeroValue135
  t46 := Tryd.underlying91
  a46 := Tryd.isAgg91
  z46 := Tryd.sizeOf91
  v46 := Tryd.zeroValue91
  t51 := Tryd.underlying144
  a51 := Tryd.isAgg144
  z51 := Tryd.sizeOf144
  v51 := Tryd.zeroValue144
  t53 := Tryd.underlying132
  a53 := Tryd.isAgg132
  z53 := Tryd.sizeOf132
  v53 := Tryd.zeroValue132
  t171 := Tryd.underlying131
  a171 := Tryd.isAgg131
  z171 := Tryd.sizeOf131
  v171 := Tryd.zeroValue131
  t173 := Tryd.underlying136
  a173 := Tryd.isAgg136
  z173 := Tryd.sizeOf136
  v173 := Tryd.zeroValue136
  t212 := Tryd.underlying143
  a212 := Tryd.isAgg143
  z212 := Tryd.sizeOf143
  v212 := Tryd.zeroValue143
  t213 := Tryd.underlying145
  a213 := Tryd.isAgg145
  z213 := Tryd.sizeOf145
  t232 := Tryd.underlying148
  a232 := Tryd.isAgg148
  z232 := Tryd.sizeOf148
  v232 := Tryd.zeroValue148
  t233 := Tryd.underlying149
  a233 := Tryd.isAgg149
  z233 := Tryd.sizeOf149
  v233 := Tryd.zeroValue149
  g17 := by kernel_rfl
  g18 := by kernel_rfl
  g19 := by kernel_rfl
  i0 := by kernel_rfl
  i2 := by kernel_rfl
  i3 := by kernel_rfl
  i4 := by kernel_rfl
  i5 := by kernel_rfl
  i9 := by kernel_rfl
  i20 := by kernel_rfl
  i37 := by kernel_rfl
  i46 := by kernel_rfl
  i51 := by kernel_rfl
  i53 := by kernel_rfl
  i171 := by kernel_rfl
  i173 := by kernel_rfl
  i212 := by kernel_rfl
  i232 := by kernel_rfl
  i233 := by kernel_rfl
  m17 := by kernel_rfl
  m18 := by kernel_rfl
  m19 := by kernel_rfl }
open Go.RowKit Go.Sort Go.Lib in
/-- internal/strconv.FormatInt: "FormatInt returns the string representation of i in the given base": AT BASE 10: i's decimal numeral, for every int64. The world behind the call: the world before it, new blocks behind the heap, draws. (LAID: no walk: one application.) -/
theorem Tryd.internal_strconv_FormatInt_10 (n : Int) (h0 : -9223372036854775808 ≤ n) (h1 : n ≤ 9223372036854775807) (w : World) (htab : Lib.TabIs Tryd.prog w "internal/strconv.uint64pow10" .u64 Lib.pow10Tab) :
    Calls Tryd.prog 80 #[.int .i64 n, .int .i64 10] w fun e w' => e = .returned (.string ⟨(Lib.itoa n).toArray⟩) ∧ ∃ k os, w' = grow (w.drewN k) os := Any.internal_strconv_FormatInt_10 Tryd.laysM246 n h0 h1 w htab
def Tryd.lays246_ren : Go.Shelf.Ren := ⟨fun | 246 => 80 | 283 => 85 | 284 => 86 | 285 => 87 | 286 => 88 | 129 => 94 | 317 => 93 | 318 => 95 | 319 => 96 | 320 => 97 | 337 => 99 | 338 => 100 | n => n, fun | 2 => 2 | 3 => 3 | 9 => 9 | 4 => 4 | 171 => 131 | 0 => 0 | 53 => 132 | 37 => 135 | 5 => 5 | 173 => 136 | 212 => 143 | 51 => 144 | 20 => 20 | 213 => 145 | 46 => 91 | 232 => 148 | 233 => 149 | n => n, fun | 17 => 2 | 18 => 3 | 19 => 4 | n => n⟩
theorem Tryd.lays246 : Go.Proofs.Lays.n246 Tryd.prog Tryd.lays246_ren := {
  mixed := by kernel_rfl
  f129 := Tryd.func94.trans (congrArg some (by kernel_rfl))
  f246 := Tryd.func80.trans (congrArg some (by kernel_rfl))
  f283 := Tryd.func85.trans (congrArg some (by kernel_rfl))
  f284 := Tryd.func86.trans (congrArg some (by kernel_rfl))
  f285 := Tryd.func87.trans (congrArg some (by kernel_rfl))
  f286 := Tryd.func88.trans (congrArg some (by kernel_rfl))
  f317 := Tryd.func93.trans (congrArg some (by kernel_rfl))
  f318 := Tryd.func95.trans (congrArg some (by kernel_rfl))
  f319 := Tryd.func96.trans (congrArg some (by kernel_rfl))
  f320 := Tryd.func97.trans (congrArg some (by kernel_rfl))
  f337 := Tryd.func99.trans (congrArg some (by kernel_rfl))
  f338 := Tryd.func100.trans (congrArg some (by kernel_rfl))
  t0 := Tryd.underlying0
  a0 := Tryd.isAgg0
  z0 := Tryd.sizeOf0
  v0 := Tryd.zeroValue0
  t2 := Tryd.underlying2
  a2 := Tryd.isAgg2
  z2 := Tryd.sizeOf2
  v2 := Tryd.zeroValue2
  t3 := Tryd.underlying3
  a3 := Tryd.isAgg3
  z3 := Tryd.sizeOf3
  v3 := Tryd.zeroValue3
  t4 := Tryd.underlying4
  a4 := Tryd.isAgg4
  z4 := Tryd.sizeOf4
  v4 := Tryd.zeroValue4
  t5 := Tryd.underlying5
  a5 := Tryd.isAgg5
  z5 := Tryd.sizeOf5
  v5 := Tryd.zeroValue5
  t9 := Tryd.underlying9
  a9 := Tryd.isAgg9
  z9 := Tryd.sizeOf9
  v9 := Tryd.zeroValue9
  t20 := Tryd.underlying20
  a20 := Tryd.isAgg20
  z20 := Tryd.sizeOf20
  v20 := Tryd.zeroValue20
  t37 := Tryd.underlying135
  a37 := Tryd.isAgg135
  z37 := Tryd.sizeOf135
  v37 := Tryd.zeroValue135
  t46 := Tryd.underlying91
  a46 := Tryd.isAgg91
  z46 := Tryd.sizeOf91
  v46 := Tryd.zeroValue91
  t51 := Tryd.underlying144
  a51 := Tryd.isAgg144
  z51 := Tryd.sizeOf144
  v51 := Tryd.zeroValue144
  t53 := Tryd.underlying132
  a53 := Tryd.isAgg132
  z53 := Tryd.sizeOf132
  v53 := Tryd.zeroValue132
  t171 := Tryd.underlying131
  a171 := Tryd.isAgg131
  z171 := Tryd.sizeOf131
  v171 := Tryd.zeroValue131
  t173 := Tryd.underlying136
  a173 := Tryd.isAgg136
  z173 := Tryd.sizeOf136
  v173 := Tryd.zeroValue136
  t212 := Tryd.underlying143
  a212 := Tryd.isAgg143
  z212 := Tryd.sizeOf143
  v212 := Tryd.zeroValue143
  t213 := Tryd.underlying145
  a213 := Tryd.isAgg145
  z213 := Tryd.sizeOf145
  t232 := Tryd.underlying148
  a232 := Tryd.isAgg148
  z232 := Tryd.sizeOf148
  v232 := Tryd.zeroValue148
  t233 := Tryd.underlying149
  a233 := Tryd.isAgg149
  z233 := Tryd.sizeOf149
  v233 := Tryd.zeroValue149
  g17 := by kernel_rfl
  g18 := by kernel_rfl
  g19 := by kernel_rfl }
open Go.RowKit Go.Sort Go.Lib in
/-- THE ROAD WITHOUT THE TABLE: 0 <= i < 100: two constants are read, nothing is laid: no premise on the world, and the world is as it was. (LAID: no walk: one application.) -/
theorem Tryd.internal_strconv_FormatInt_10_small (i : Nat) (hi : i < 100) (w : World) :
    Calls Tryd.prog 80 #[.int .i64 i, .int .i64 10] w fun e w' => e = .returned (.string ⟨(Lib.decDigits i).toArray⟩) ∧ w' = w := Any.internal_strconv_FormatInt_10_small Tryd.lays246 i hi w
def Tryd.laysM243_ren : Go.Shelf.Ren := ⟨fun | 243 => 69 | 246 => 80 | 283 => 85 | 284 => 86 | 285 => 87 | 286 => 88 | 129 => 94 | 317 => 93 | 318 => 95 | 319 => 96 | 320 => 97 | 337 => 99 | 338 => 100 | n => n, fun | 3 => 3 | 9 => 9 | 2 => 2 | 4 => 4 | 171 => 131 | 0 => 0 | 53 => 132 | 37 => 135 | 5 => 5 | 173 => 136 | 212 => 143 | 51 => 144 | 20 => 20 | 213 => 145 | 46 => 91 | 232 => 148 | 233 => 149 | n => n, fun | 17 => 2 | 18 => 3 | 19 => 4 | n => n⟩
theorem Tryd.laysM243 : Go.Proofs.LaysM.n243 Tryd.prog Tryd.laysM243_ren := {
  mixed := by kernel_rfl
  f129 := Tryd.func94.trans (congrArg some (by kernel_rfl))
  f243 := Tryd.func69.trans (congrArg some (by kernel_rfl))
  f246 := Tryd.func80.trans (congrArg some (by kernel_rfl))
  f283 := Tryd.func85.trans (congrArg some (by kernel_rfl))
  f284 := Tryd.func86.trans (congrArg some (by kernel_rfl))
  f285 := Tryd.func87.trans (congrArg some (by kernel_rfl))
  f286 := Tryd.func88.trans (congrArg some (by kernel_rfl))
  f317 := Tryd.func93.trans (congrArg some (by kernel_rfl))
  f318 := Tryd.func95.trans (congrArg some (by kernel_rfl))
  f319 := Tryd.func96.trans (congrArg some (by kernel_rfl))
  f320 := Tryd.func97.trans (congrArg some (by kernel_rfl))
  f337 := Tryd.func99.trans (congrArg some (by kernel_rfl))
  f338 := Tryd.func100.trans (congrArg some (by kernel_rfl))
  t0 := Tryd.underlying0
  a0 := Tryd.isAgg0
  z0 := Tryd.sizeOf0
  v0 := Tryd.zeroValue0
  t2 := Tryd.underlying2
  a2 := Tryd.isAgg2
  z2 := Tryd.sizeOf2
  v2 := Tryd.zeroValue2
  t3 := Tryd.underlying3
  a3 := Tryd.isAgg3
  z3 := Tryd.sizeOf3
  v3 := Tryd.zeroValue3
  t4 := Tryd.underlying4
  a4 := Tryd.isAgg4
  z4 := Tryd.sizeOf4
  v4 := Tryd.zeroValue4
  t5 := Tryd.underlying5
  a5 := Tryd.isAgg5
  z5 := Tryd.sizeOf5
  v5 := Tryd.zeroValue5
  t9 := Tryd.underlying9
  a9 := Tryd.isAgg9
  z9 := Tryd.sizeOf9
  v9 := Tryd.zeroValue9
  t20 := Tryd.underlying20
  a20 := Tryd.isAgg20
  z20 := Tryd.sizeOf20
  v20 := Tryd.zeroValue20
  t37 := Tryd.underlying135
  a37 := Tryd.isAgg135
  z37 := Tryd.sizeOf135
  v37 := Tryd.zeroValue135
  t46 := Tryd.underlying91
  a46 := Tryd.isAgg91
  z46 := Tryd.sizeOf91
  v46 := Tryd.zeroValue91
  t51 := Tryd.underlying144
  a51 := Tryd.isAgg144
  z51 := Tryd.sizeOf144
  v51 := Tryd.zeroValue144
  t53 := Tryd.underlying132
  a53 := Tryd.isAgg132
  z53 := Tryd.sizeOf132
  v53 := Tryd.zeroValue132
  t171 := Tryd.underlying131
  a171 := Tryd.isAgg131
  z171 := Tryd.sizeOf131
  v171 := Tryd.zeroValue131
  t173 := Tryd.underlying136
  a173 := Tryd.isAgg136
  z173 := Tryd.sizeOf136
  v173 := Tryd.zeroValue136
  t212 := Tryd.underlying143
  a212 := Tryd.isAgg143
  z212 := Tryd.sizeOf143
  v212 := Tryd.zeroValue143
  t213 := Tryd.underlying145
  a213 := Tryd.isAgg145
  z213 := Tryd.sizeOf145
  t232 := Tryd.underlying148
  a232 := Tryd.isAgg148
  z232 := Tryd.sizeOf148
  v232 := Tryd.zeroValue148
  t233 := Tryd.underlying149
  a233 := Tryd.isAgg149
  z233 := Tryd.sizeOf149
  v233 := Tryd.zeroValue149
  g17 := by kernel_rfl
  g18 := by kernel_rfl
  g19 := by kernel_rfl
  i0 := by kernel_rfl
  i2 := by kernel_rfl
  i3 := by kernel_rfl
  i4 := by kernel_rfl
  i5 := by kernel_rfl
  i9 := by kernel_rfl
  i20 := by kernel_rfl
  i37 := by kernel_rfl
  i46 := by kernel_rfl
  i51 := by kernel_rfl
  i53 := by kernel_rfl
  i171 := by kernel_rfl
  i173 := by kernel_rfl
  i212 := by kernel_rfl
  i232 := by kernel_rfl
  i233 := by kernel_rfl
  m17 := by kernel_rfl
  m18 := by kernel_rfl
  m19 := by kernel_rfl }
open Go.RowKit Go.Sort Go.Lib in
/-- internal/strconv.Itoa: "Itoa is equivalent to FormatInt(int64(i), 10).": i's decimal numeral, for every int. (LAID: no walk: one application.) -/
theorem Tryd.internal_strconv_Itoa (n : Int) (h0 : -9223372036854775808 ≤ n) (h1 : n ≤ 9223372036854775807) (w : World) (htab : Lib.TabIs Tryd.prog w "internal/strconv.uint64pow10" .u64 Lib.pow10Tab) :
    Calls Tryd.prog 69 #[.int .i64 n] w fun e w' => e = .returned (.string ⟨(Lib.itoa n).toArray⟩) ∧ ∃ k os, w' = grow (w.drewN k) os := Any.internal_strconv_Itoa Tryd.laysM243 n h0 h1 w htab
def Tryd.lays243_ren : Go.Shelf.Ren := ⟨fun | 243 => 69 | 246 => 80 | 283 => 85 | 284 => 86 | 285 => 87 | 286 => 88 | 129 => 94 | 317 => 93 | 318 => 95 | 319 => 96 | 320 => 97 | 337 => 99 | 338 => 100 | n => n, fun | 3 => 3 | 9 => 9 | 2 => 2 | 4 => 4 | 171 => 131 | 0 => 0 | 53 => 132 | 37 => 135 | 5 => 5 | 173 => 136 | 212 => 143 | 51 => 144 | 20 => 20 | 213 => 145 | 46 => 91 | 232 => 148 | 233 => 149 | n => n, fun | 17 => 2 | 18 => 3 | 19 => 4 | n => n⟩
theorem Tryd.lays243 : Go.Proofs.Lays.n243 Tryd.prog Tryd.lays243_ren := {
  mixed := by kernel_rfl
  f129 := Tryd.func94.trans (congrArg some (by kernel_rfl))
  f243 := Tryd.func69.trans (congrArg some (by kernel_rfl))
  f246 := Tryd.func80.trans (congrArg some (by kernel_rfl))
  f283 := Tryd.func85.trans (congrArg some (by kernel_rfl))
  f284 := Tryd.func86.trans (congrArg some (by kernel_rfl))
  f285 := Tryd.func87.trans (congrArg some (by kernel_rfl))
  f286 := Tryd.func88.trans (congrArg some (by kernel_rfl))
  f317 := Tryd.func93.trans (congrArg some (by kernel_rfl))
  f318 := Tryd.func95.trans (congrArg some (by kernel_rfl))
  f319 := Tryd.func96.trans (congrArg some (by kernel_rfl))
  f320 := Tryd.func97.trans (congrArg some (by kernel_rfl))
  f337 := Tryd.func99.trans (congrArg some (by kernel_rfl))
  f338 := Tryd.func100.trans (congrArg some (by kernel_rfl))
  t0 := Tryd.underlying0
  a0 := Tryd.isAgg0
  z0 := Tryd.sizeOf0
  v0 := Tryd.zeroValue0
  t2 := Tryd.underlying2
  a2 := Tryd.isAgg2
  z2 := Tryd.sizeOf2
  v2 := Tryd.zeroValue2
  t3 := Tryd.underlying3
  a3 := Tryd.isAgg3
  z3 := Tryd.sizeOf3
  v3 := Tryd.zeroValue3
  t4 := Tryd.underlying4
  a4 := Tryd.isAgg4
  z4 := Tryd.sizeOf4
  v4 := Tryd.zeroValue4
  t5 := Tryd.underlying5
  a5 := Tryd.isAgg5
  z5 := Tryd.sizeOf5
  v5 := Tryd.zeroValue5
  t9 := Tryd.underlying9
  a9 := Tryd.isAgg9
  z9 := Tryd.sizeOf9
  v9 := Tryd.zeroValue9
  t20 := Tryd.underlying20
  a20 := Tryd.isAgg20
  z20 := Tryd.sizeOf20
  v20 := Tryd.zeroValue20
  t37 := Tryd.underlying135
  a37 := Tryd.isAgg135
  z37 := Tryd.sizeOf135
  v37 := Tryd.zeroValue135
  t46 := Tryd.underlying91
  a46 := Tryd.isAgg91
  z46 := Tryd.sizeOf91
  v46 := Tryd.zeroValue91
  t51 := Tryd.underlying144
  a51 := Tryd.isAgg144
  z51 := Tryd.sizeOf144
  v51 := Tryd.zeroValue144
  t53 := Tryd.underlying132
  a53 := Tryd.isAgg132
  z53 := Tryd.sizeOf132
  v53 := Tryd.zeroValue132
  t171 := Tryd.underlying131
  a171 := Tryd.isAgg131
  z171 := Tryd.sizeOf131
  v171 := Tryd.zeroValue131
  t173 := Tryd.underlying136
  a173 := Tryd.isAgg136
  z173 := Tryd.sizeOf136
  v173 := Tryd.zeroValue136
  t212 := Tryd.underlying143
  a212 := Tryd.isAgg143
  z212 := Tryd.sizeOf143
  v212 := Tryd.zeroValue143
  t213 := Tryd.underlying145
  a213 := Tryd.isAgg145
  z213 := Tryd.sizeOf145
  t232 := Tryd.underlying148
  a232 := Tryd.isAgg148
  z232 := Tryd.sizeOf148
  v232 := Tryd.zeroValue148
  t233 := Tryd.underlying149
  a233 := Tryd.isAgg149
  z233 := Tryd.sizeOf149
  v233 := Tryd.zeroValue149
  g17 := by kernel_rfl
  g18 := by kernel_rfl
  g19 := by kernel_rfl }
open Go.RowKit Go.Sort Go.Lib in
/-- THE ROAD WITHOUT THE TABLE: 0 <= i < 100. (LAID: no walk: one application.) -/
theorem Tryd.internal_strconv_Itoa_small (i : Nat) (hi : i < 100) (w : World) :
    Calls Tryd.prog 69 #[.int .i64 i] w fun e w' => e = .returned (.string ⟨(Lib.decDigits i).toArray⟩) ∧ w' = w := Any.internal_strconv_Itoa_small Tryd.lays243 i hi w
def Tryd.laysM171_ren : Go.Shelf.Ren := ⟨fun | 171 => 51 | 243 => 69 | 246 => 80 | 283 => 85 | 284 => 86 | 285 => 87 | 286 => 88 | 129 => 94 | 317 => 93 | 318 => 95 | 319 => 96 | 320 => 97 | 337 => 99 | 338 => 100 | n => n, fun | 3 => 3 | 9 => 9 | 2 => 2 | 4 => 4 | 171 => 131 | 0 => 0 | 53 => 132 | 37 => 135 | 5 => 5 | 173 => 136 | 212 => 143 | 51 => 144 | 20 => 20 | 213 => 145 | 46 => 91 | 232 => 148 | 233 => 149 | n => n, fun | 17 => 2 | 18 => 3 | 19 => 4 | n => n⟩
theorem Tryd.laysM171 : Go.Proofs.LaysM.n171 Tryd.prog Tryd.laysM171_ren := {
  mixed := by kernel_rfl
  f129 := Tryd.func94.trans (congrArg some (by kernel_rfl))
  f171 := Tryd.func51.trans (congrArg some (by kernel_rfl))
  f243 := Tryd.func69.trans (congrArg some (by kernel_rfl))
  f246 := Tryd.func80.trans (congrArg some (by kernel_rfl))
  f283 := Tryd.func85.trans (congrArg some (by kernel_rfl))
  f284 := Tryd.func86.trans (congrArg some (by kernel_rfl))
  f285 := Tryd.func87.trans (congrArg some (by kernel_rfl))
  f286 := Tryd.func88.trans (congrArg some (by kernel_rfl))
  f317 := Tryd.func93.trans (congrArg some (by kernel_rfl))
  f318 := Tryd.func95.trans (congrArg some (by kernel_rfl))
  f319 := Tryd.func96.trans (congrArg some (by kernel_rfl))
  f320 := Tryd.func97.trans (congrArg some (by kernel_rfl))
  f337 := Tryd.func99.trans (congrArg some (by kernel_rfl))
  f338 := Tryd.func100.trans (congrArg some (by kernel_rfl))
  t0 := Tryd.underlying0
  a0 := Tryd.isAgg0
  z0 := Tryd.sizeOf0
  v0 := Tryd.zeroValue0
  t2 := Tryd.underlying2
  a2 := Tryd.isAgg2
  z2 := Tryd.sizeOf2
  v2 := Tryd.zeroValue2
  t3 := Tryd.underlying3
  a3 := Tryd.isAgg3
  z3 := Tryd.sizeOf3
  v3 := Tryd.zeroValue3
  t4 := Tryd.underlying4
  a4 := Tryd.isAgg4
  z4 := Tryd.sizeOf4
  v4 := Tryd.zeroValue4
  t5 := Tryd.underlying5
  a5 := Tryd.isAgg5
  z5 := Tryd.sizeOf5
  v5 := Tryd.zeroValue5
  t9 := Tryd.underlying9
  a9 := Tryd.isAgg9
  z9 := Tryd.sizeOf9
  v9 := Tryd.zeroValue9
  t20 := Tryd.underlying20
  a20 := Tryd.isAgg20
  z20 := Tryd.sizeOf20
  v20 := Tryd.zeroValue20
  t37 := Tryd.underlying135
  a37 := Tryd.isAgg135
  z37 := Tryd.sizeOf135
  v37 := Tryd.zeroValue135
  t46 := Tryd.underlying91
  a46 := Tryd.isAgg91
  z46 := Tryd.sizeOf91
  v46 := Tryd.zeroValue91
  t51 := Tryd.underlying144
  a51 := Tryd.isAgg144
  z51 := Tryd.sizeOf144
  v51 := Tryd.zeroValue144
  t53 := Tryd.underlying132
  a53 := Tryd.isAgg132
  z53 := Tryd.sizeOf132
  v53 := Tryd.zeroValue132
  t171 := Tryd.underlying131
  a171 := Tryd.isAgg131
  z171 := Tryd.sizeOf131
  v171 := Tryd.zeroValue131
  t173 := Tryd.underlying136
  a173 := Tryd.isAgg136
  z173 := Tryd.sizeOf136
  v173 := Tryd.zeroValue136
  t212 := Tryd.underlying143
  a212 := Tryd.isAgg143
  z212 := Tryd.sizeOf143
  v212 := Tryd.zeroValue143
  t213 := Tryd.underlying145
  a213 := Tryd.isAgg145
  z213 := Tryd.sizeOf145
  t232 := Tryd.underlying148
  a232 := Tryd.isAgg148
  z232 := Tryd.sizeOf148
  v232 := Tryd.zeroValue148
  t233 := Tryd.underlying149
  a233 := Tryd.isAgg149
  z233 := Tryd.sizeOf149
  v233 := Tryd.zeroValue149
  g17 := by kernel_rfl
  g18 := by kernel_rfl
  g19 := by kernel_rfl
  i0 := by kernel_rfl
  i2 := by kernel_rfl
  i3 := by kernel_rfl
  i4 := by kernel_rfl
  i5 := by kernel_rfl
  i9 := by kernel_rfl
  i20 := by kernel_rfl
  i37 := by kernel_rfl
  i46 := by kernel_rfl
  i51 := by kernel_rfl
  i53 := by kernel_rfl
  i171 := by kernel_rfl
  i173 := by kernel_rfl
  i212 := by kernel_rfl
  i232 := by kernel_rfl
  i233 := by kernel_rfl
  m17 := by kernel_rfl
  m18 := by kernel_rfl
  m19 := by kernel_rfl }
open Go.RowKit Go.Sort Go.Lib in
/-- strconv.Itoa: "Itoa is equivalent to FormatInt(int64(i), 10).": i's DECIMAL NUMERAL ('Lib.itoa': a '-' where i is negative, then the digits), FOR EVERY int. The world behind the call: the world before it, new blocks behind the heap (the library's 'var a [24]byte'), draws. (LAID: no walk: one application.) -/
theorem Tryd.strconv_Itoa (n : Int) (h0 : -9223372036854775808 ≤ n) (h1 : n ≤ 9223372036854775807) (w : World) (htab : Lib.TabIs Tryd.prog w "internal/strconv.uint64pow10" .u64 Lib.pow10Tab) :
    Calls Tryd.prog 51 #[.int .i64 n] w fun e w' => e = .returned (.string ⟨(Lib.itoa n).toArray⟩) ∧ ∃ k os, w' = grow (w.drewN k) os := Any.strconv_Itoa Tryd.laysM171 n h0 h1 w htab
def Tryd.lays171_ren : Go.Shelf.Ren := ⟨fun | 171 => 51 | 243 => 69 | 246 => 80 | 283 => 85 | 284 => 86 | 285 => 87 | 286 => 88 | 129 => 94 | 317 => 93 | 318 => 95 | 319 => 96 | 320 => 97 | 337 => 99 | 338 => 100 | n => n, fun | 3 => 3 | 9 => 9 | 2 => 2 | 4 => 4 | 171 => 131 | 0 => 0 | 53 => 132 | 37 => 135 | 5 => 5 | 173 => 136 | 212 => 143 | 51 => 144 | 20 => 20 | 213 => 145 | 46 => 91 | 232 => 148 | 233 => 149 | n => n, fun | 17 => 2 | 18 => 3 | 19 => 4 | n => n⟩
theorem Tryd.lays171 : Go.Proofs.Lays.n171 Tryd.prog Tryd.lays171_ren := {
  mixed := by kernel_rfl
  f129 := Tryd.func94.trans (congrArg some (by kernel_rfl))
  f171 := Tryd.func51.trans (congrArg some (by kernel_rfl))
  f243 := Tryd.func69.trans (congrArg some (by kernel_rfl))
  f246 := Tryd.func80.trans (congrArg some (by kernel_rfl))
  f283 := Tryd.func85.trans (congrArg some (by kernel_rfl))
  f284 := Tryd.func86.trans (congrArg some (by kernel_rfl))
  f285 := Tryd.func87.trans (congrArg some (by kernel_rfl))
  f286 := Tryd.func88.trans (congrArg some (by kernel_rfl))
  f317 := Tryd.func93.trans (congrArg some (by kernel_rfl))
  f318 := Tryd.func95.trans (congrArg some (by kernel_rfl))
  f319 := Tryd.func96.trans (congrArg some (by kernel_rfl))
  f320 := Tryd.func97.trans (congrArg some (by kernel_rfl))
  f337 := Tryd.func99.trans (congrArg some (by kernel_rfl))
  f338 := Tryd.func100.trans (congrArg some (by kernel_rfl))
  t0 := Tryd.underlying0
  a0 := Tryd.isAgg0
  z0 := Tryd.sizeOf0
  v0 := Tryd.zeroValue0
  t2 := Tryd.underlying2
  a2 := Tryd.isAgg2
  z2 := Tryd.sizeOf2
  v2 := Tryd.zeroValue2
  t3 := Tryd.underlying3
  a3 := Tryd.isAgg3
  z3 := Tryd.sizeOf3
  v3 := Tryd.zeroValue3
  t4 := Tryd.underlying4
  a4 := Tryd.isAgg4
  z4 := Tryd.sizeOf4
  v4 := Tryd.zeroValue4
  t5 := Tryd.underlying5
  a5 := Tryd.isAgg5
  z5 := Tryd.sizeOf5
  v5 := Tryd.zeroValue5
  t9 := Tryd.underlying9
  a9 := Tryd.isAgg9
  z9 := Tryd.sizeOf9
  v9 := Tryd.zeroValue9
  t20 := Tryd.underlying20
  a20 := Tryd.isAgg20
  z20 := Tryd.sizeOf20
  v20 := Tryd.zeroValue20
  t37 := Tryd.underlying135
  a37 := Tryd.isAgg135
  z37 := Tryd.sizeOf135
  v37 := Tryd.zeroValue135
  t46 := Tryd.underlying91
  a46 := Tryd.isAgg91
  z46 := Tryd.sizeOf91
  v46 := Tryd.zeroValue91
  t51 := Tryd.underlying144
  a51 := Tryd.isAgg144
  z51 := Tryd.sizeOf144
  v51 := Tryd.zeroValue144
  t53 := Tryd.underlying132
  a53 := Tryd.isAgg132
  z53 := Tryd.sizeOf132
  v53 := Tryd.zeroValue132
  t171 := Tryd.underlying131
  a171 := Tryd.isAgg131
  z171 := Tryd.sizeOf131
  v171 := Tryd.zeroValue131
  t173 := Tryd.underlying136
  a173 := Tryd.isAgg136
  z173 := Tryd.sizeOf136
  v173 := Tryd.zeroValue136
  t212 := Tryd.underlying143
  a212 := Tryd.isAgg143
  z212 := Tryd.sizeOf143
  v212 := Tryd.zeroValue143
  t213 := Tryd.underlying145
  a213 := Tryd.isAgg145
  z213 := Tryd.sizeOf145
  t232 := Tryd.underlying148
  a232 := Tryd.isAgg148
  z232 := Tryd.sizeOf148
  v232 := Tryd.zeroValue148
  t233 := Tryd.underlying149
  a233 := Tryd.isAgg149
  z233 := Tryd.sizeOf149
  v233 := Tryd.zeroValue149
  g17 := by kernel_rfl
  g18 := by kernel_rfl
  g19 := by kernel_rfl }
open Go.RowKit Go.Sort Go.Lib in
/-- THE ROAD WITHOUT THE TABLE: 0 <= i < 100: NO PREMISE ON THE WORLD, AND THE WORLD IS AS IT WAS: a row that keeps its argument in that range need list no table ('laid = []'). (LAID: no walk: one application.) -/
theorem Tryd.strconv_Itoa_small (i : Nat) (hi : i < 100) (w : World) :
    Calls Tryd.prog 51 #[.int .i64 i] w fun e w' => e = .returned (.string ⟨(Lib.decDigits i).toArray⟩) ∧ w' = w := Any.strconv_Itoa_small Tryd.lays171 i hi w
end Go.Proofs
/- FunctorNeeds: the law, its walk, and the opening of a functor. -/
namespace Go.Proofs.YtoojdmgbffnmiaaDoor
open Go Go.Abs Go.RowKit
set_option maxRecDepth 10000
set_option linter.unusedVariables false
set_option linter.unusedSimpArgs false
def itoa (i : Nat) : Str := ⟨(Go.Lib.decDigits i).toArray⟩
theorem Itoa_small {Γ : List (Nat × List AC)} (i : Nat) (h : i < 100) : APure Tryd.prog Γ 51 [.one (int i)] (.one (str (itoa i))) :=
  APure.ofCalls (vs := [.int .i64 i]) (enters_of Tryd.func51 (by kernel_rfl) rfl) rfl fun w => Tryd.strconv_Itoa_small i h w
theorem itoa1 : (itoa 1).size ≤ 40 := by unfold itoa; rw [Go.Lib.decDigits]; decide
theorem itoa2 : (itoa 2).size ≤ 40 := by unfold itoa; rw [Go.Lib.decDigits]; decide
structure okF (f : Fctr) : Prop where
  n : f.name.size < 4294967281
  m : okSpec f.needs
  s : okSpec f.yields
  zm : SzS f.needs
  zs : SzS f.yields
theorem FunctorNeeds_ok (f : Fctr) (arg : Spec) (hf : okF f) (ha : okSpec arg) (hza : SzS arg) : APure Tryd.prog Γ0 12 [.agg (cFctr f), .agg (cSpec arg)] (.one (.lit (.bool true))) := by
  have c1 := Apply_ok (fun _ h => h) hΓ0 f arg nmM (itoa 1) 1 (by decide) itoa1 (fun _ _ => Itoa_small 1 (by omega)) hf.n hf.m hf.s hf.zm hf.zs ha hza
  have c2 := Match_ok arg f.needs nmM ha hf.m hza hf.zm (by decide)
  have c3 := CheckFunctor_ok f hf.n hf.m hf.s hf.zm hf.zs
  have k1 : fctErr f ≠ 0 → appErr f arg nmM 1 = fctErr f := fun h => by unfold appErr; rw [if_pos h]
  have k2 : fctErr f = 0 → appErr f arg nmM 1 = matchErr arg f.needs nmM := fun h => by
    unfold appErr; rw [if_neg (by simpa using h)]
    split
    · rfl
    · rename_i h2; rw [if_neg (by omega)]; exact (by simpa using h2 : matchErr arg f.needs nmM = 0).symm
  generalize appR f arg nmM (itoa 1) 1 = R at c1
  generalize appErr f arg nmM 1 = e1 at c1 k1 k2
  generalize fctErr f = e2 at c3 k1 k2
  generalize hl : (if matchErr arg f.needs nmM = 0 then (outerM nmM f.needs.datas).map cMap else []) = L at c2
  generalize matchErr arg f.needs nmM = e3 at c2 k2 hl
  have hL : idsS isO L := by rw [← hl]; split <;> simp
  intro ou
  refine AFn.walk 39 tabOk Tryd.func12 rfl (by kernel_rfl) rfl rfl fun hou => ?_
  repeat first | (with_reducible refine oj ?_; refine AOps.auto tabOk rfl ?_) | (with_reducible first | refine o1 ?_ | refine o2 ?_ | refine o3 ?_ | refine o4 ?_ | refine o5 ?_ | refine o6 ?_ | refine o7 ?_ | refine o8 ?_ | refine o9 ?_ | refine oa ?_ | refine ob ?_ | refine oc ?_ | refine od ?_ | refine oe ?_ | refine og ?_ | refine oh ?_ | refine oi ?_) | (with_reducible refine cExitMiss ?_ ?_; rfl) | (with_reducible refine ok ?_; first | refine ACode.condT rfl ?_ | refine ACode.condF rfl ?_)
  refine AOps.callC hΓ0 c1 rfl rfl rfl rfl rfl rfl rfl hou (by simp) ?_
  repeat first | (with_reducible refine oj ?_; refine AOps.auto tabOk rfl ?_) | (with_reducible first | refine o1 ?_ | refine o2 ?_ | refine o3 ?_ | refine o4 ?_ | refine o5 ?_ | refine o6 ?_ | refine o7 ?_ | refine o8 ?_ | refine o9 ?_ | refine oa ?_ | refine ob ?_ | refine oc ?_ | refine od ?_ | refine oe ?_ | refine og ?_ | refine oh ?_ | refine oi ?_) | (with_reducible refine cExitMiss ?_ ?_; rfl) | (with_reducible refine ok ?_; first | refine ACode.condT rfl ?_ | refine ACode.condF rfl ?_)
  refine AOps.callC hΓ0 c2 rfl rfl rfl rfl rfl rfl rfl hou (by simp) ?_
  repeat first | (with_reducible refine oj ?_; refine AOps.auto tabOk rfl ?_) | (with_reducible first | refine o1 ?_ | refine o2 ?_ | refine o3 ?_ | refine o4 ?_ | refine o5 ?_ | refine o6 ?_ | refine o7 ?_ | refine o8 ?_ | refine o9 ?_ | refine oa ?_ | refine ob ?_ | refine oc ?_ | refine od ?_ | refine oe ?_ | refine og ?_ | refine oh ?_ | refine oi ?_) | (with_reducible refine cExitMiss ?_ ?_; rfl) | (with_reducible refine ok ?_; first | refine ACode.condT rfl ?_ | refine ACode.condF rfl ?_)
  refine AOps.callC hΓ0 c3 rfl rfl rfl rfl rfl rfl rfl hou (by simp) ?_
  repeat first | (with_reducible refine oj ?_; refine AOps.auto tabOk rfl ?_) | (with_reducible first | refine o1 ?_ | refine o2 ?_ | refine o3 ?_ | refine o4 ?_ | refine o5 ?_ | refine o6 ?_ | refine o7 ?_ | refine o8 ?_ | refine o9 ?_ | refine oa ?_ | refine ob ?_ | refine oc ?_ | refine od ?_ | refine oe ?_ | refine og ?_ | refine oh ?_ | refine oi ?_) | (with_reducible refine cExitMiss ?_ ?_; rfl) | (with_reducible refine ok ?_; first | refine ACode.condT rfl ?_ | refine ACode.condF rfl ?_)
  refine ACode.cond rfl (fun hb => ?_) (fun hb => ?_)
  · have hne : e2 ≠ 0 := by simpa using hb
    repeat first | (with_reducible refine oj ?_; refine AOps.auto tabOk rfl ?_) | (with_reducible first | refine o1 ?_ | refine o2 ?_ | refine o3 ?_ | refine o4 ?_ | refine o5 ?_ | refine o6 ?_ | refine o7 ?_ | refine o8 ?_ | refine o9 ?_ | refine oa ?_ | refine ob ?_ | refine oc ?_ | refine od ?_ | refine oe ?_ | refine og ?_ | refine oh ?_ | refine oi ?_) | (with_reducible refine cExitMiss ?_ ?_; rfl) | (with_reducible refine ok ?_; first | refine ACode.condT rfl ?_ | refine ACode.condF rfl ?_)
    refine AOps.callC hΓ0 fact_true rfl rfl rfl rfl rfl rfl rfl hou (by simp) ?_
    repeat first | (with_reducible refine oj ?_; refine AOps.auto tabOk rfl ?_) | (with_reducible first | refine o1 ?_ | refine o2 ?_ | refine o3 ?_ | refine o4 ?_ | refine o5 ?_ | refine o6 ?_ | refine o7 ?_ | refine o8 ?_ | refine o9 ?_ | refine oa ?_ | refine ob ?_ | refine oc ?_ | refine od ?_ | refine oe ?_ | refine og ?_ | refine oh ?_ | refine oi ?_) | (with_reducible refine cExitMiss ?_ ?_; rfl) | (with_reducible refine ok ?_; first | refine ACode.condT rfl ?_ | refine ACode.condF rfl ?_)
    refine APure.fin rfl (WkF.ofEq ?_) (by simp) hou rfl
    rw [k1 hne]; simp
  · have hz : e2 = 0 := by simpa using hb
    repeat first | (with_reducible refine oj ?_; refine AOps.auto tabOk rfl ?_) | (with_reducible first | refine o1 ?_ | refine o2 ?_ | refine o3 ?_ | refine o4 ?_ | refine o5 ?_ | refine o6 ?_ | refine o7 ?_ | refine o8 ?_ | refine o9 ?_ | refine oa ?_ | refine ob ?_ | refine oc ?_ | refine od ?_ | refine oe ?_ | refine og ?_ | refine oh ?_ | refine oi ?_) | (with_reducible refine cExitMiss ?_ ?_; rfl) | (with_reducible refine ok ?_; first | refine ACode.condT rfl ?_ | refine ACode.condF rfl ?_)
    refine AOps.callC hΓ0 fact_true rfl rfl rfl rfl rfl rfl rfl hou (by simp) ?_
    repeat first | (with_reducible refine oj ?_; refine AOps.auto tabOk rfl ?_) | (with_reducible first | refine o1 ?_ | refine o2 ?_ | refine o3 ?_ | refine o4 ?_ | refine o5 ?_ | refine o6 ?_ | refine o7 ?_ | refine o8 ?_ | refine o9 ?_ | refine oa ?_ | refine ob ?_ | refine oc ?_ | refine od ?_ | refine oe ?_ | refine og ?_ | refine oh ?_ | refine oi ?_) | (with_reducible refine cExitMiss ?_ ?_; rfl) | (with_reducible refine ok ?_; first | refine ACode.condT rfl ?_ | refine ACode.condF rfl ?_)
    refine APure.fin rfl (WkF.ofEq ?_) (by simp) hou rfl
    rw [k2 hz]; simp
section
variable {H : Type} {enc : TypeId × Value → H} {w : World}
def bFct (f : Fctr) : Nat := f.name.size + bSpec f.needs + bSpec f.yields + 2
structure rngFct (f : Fctr) : Prop where
  m : rngSpec f.needs
  s : rngSpec f.yields
theorem opensFct (n : Nat) : Opens enc Tryd.prog w Rows.uptoBulk 70 n (fun f : {f : Fctr // rngFct f} => cFctr f.1) (fun f => bFct f.1) := by
  cases n with
  | zero => exact Opens.zero
  | succ n =>
    refine Opens.as (Opens.struct bulk_agg Tryd.underlying70 (.cons rfl (by kernel_rfl) (opens_str n) (fun _ => rfl) (.cons (s := 2) rfl (by kernel_rfl) (opensSpec n) (fun _ => rfl) (.cons (s := 2) rfl (by kernel_rfl) (opensSpec n) (fun _ => rfl) (.cons rfl (by kernel_rfl) (Opens.bool Tryd.underlying4) (fun _ => rfl) (.nil _))))) (fun _ => (show (6 : Nat) = _ by kernel_rfl))) ?_
    rintro ⟨c, s, t, b, _⟩
    exact ⟨⟨⟨c, s.1, t.1, b⟩, s.2, t.2⟩, by simp [cFctr, cSpec], by show c.size + bSpec s.1 + bSpec t.1 + 2 ≤ c.size + 1 + (bSpec s.1 + (bSpec t.1 + (0 + 0))) + 1; omega⟩
end
theorem okF_of {f : Fctr} (h : bFct f ≤ 1048576) : okF f := by
  simp only [bFct] at h
  have h1 := okSpec_of (s := f.needs) (by omega)
  have h2 := okSpec_of (s := f.yields) (by omega)
  exact ⟨by omega, h1.1, h2.1, h1.2, h2.2⟩
theorem laidMet_tail {P : Program} {W : World} {x : String × DataW Unit} {rest : List (String × DataW Unit)} (h : laidMet P (x :: rest) W) : laidMet P rest W := by
  obtain ⟨ps, ⟨g, t, cs, fuel, p, q, h1, h2, h3, h4, h5, rfl⟩, hn, hc⟩ := h
  exact ⟨q, h5, (List.nodup_append.1 hn).2.1, fun b off hm => hc b off (by simp [hm])⟩
theorem arity_cells4 {W : World} (h : laidMetH Tryd.prog [("math/bits.deBruijn32tab", Rows.laid_math_bits_deBruijn32tab), ("math/bits.deBruijn64tab", Rows.laid_math_bits_deBruijn64tab), ("internal/strconv.uint64pow10", Rows.laid_internal_strconv_uint64pow10), ("provenance/signature.arity", Rows.laid_provenance_signature_arity)] W) : ∀ g cs, (g, cs) ∈ Γ0 → RG W (ctx0 W) cs g := by
  have h' : laidMet Tryd.prog [("math/bits.deBruijn32tab", Rows.laid_math_bits_deBruijn32tab), ("math/bits.deBruijn64tab", Rows.laid_math_bits_deBruijn64tab), ("internal/strconv.uint64pow10", Rows.laid_internal_strconv_uint64pow10), ("provenance/signature.arity", Rows.laid_provenance_signature_arity)] W := h
  exact arity_cells (laidMet_tail (laidMet_tail (laidMet_tail h')))
end Go.Proofs.YtoojdmgbffnmiaaDoor
/- FunctorTwice: the law and its walk. -/
namespace Go.Proofs.YtoojdmgbffnmiaaDoor
open Go Go.Abs
set_option maxRecDepth 10000
set_option linter.unusedVariables false
set_option linter.unusedSimpArgs false
def nmN : Str := ⟨#[78]⟩
theorem allTys_sub (l : List SMap) (s : Spec) : allTys (subSp l s) = (allTys s).map (substTy l) := by
  have h1 : ∀ d : DSig, cTys (subD l d).cons = (cTys d.cons).map (substTy l) := fun d => by
    simp [cTys, subD, subCs, subC, subTs, List.map_flatMap, List.flatMap_map]
  have h2 : ∀ v : VSig, pTys (subV l v).sch.preds ++ [(subV l v).sch.ty] = (pTys v.sch.preds ++ [v.sch.ty]).map (substTy l) := fun v => by
    simp [pTys, subV, mapSch, mapPrds, mapPrd]
  simp only [allTys, subSp, dTys, vTys, subDs, subVs, List.flatMap_map, List.map_append, List.map_flatMap]
  congr 1
  · exact congrArg (fun g => List.flatMap g s.datas) (funext h1)
  · exact congrArg (fun g => List.flatMap g s.vals) (funext fun v => by rw [h2, List.map_append])
theorem okSpec_sub {l : List SMap} (hl : ∀ m ∈ l, smallTy m.ty) {s : Spec} (hs : okSpec s) : okSpec (subSp l s) where
  dl := by simpa [subSp] using hs.dl
  vl := by simpa [subSp] using hs.vl
  d := fun d hd => by
    obtain ⟨e, he, rfl⟩ := List.mem_map.1 (show d ∈ s.datas.map (subD l) from hd)
    obtain ⟨h1, h2, h3⟩ := hs.d e he
    refine ⟨h1, by simpa [subD] using h2, fun c hc => ?_⟩
    obtain ⟨c', hc', rfl⟩ := List.mem_map.1 (show c ∈ e.cons.map (subC l) from hc)
    obtain ⟨h4, h5⟩ := h3 c' hc'
    refine ⟨by simpa [subC] using h4, smallTys_iff.2 fun t ht => ?_⟩
    obtain ⟨t', ht', rfl⟩ := List.mem_map.1 (show t ∈ c'.args.map (substTy l) from ht)
    exact smallTy_subst l hl _ (smallTys_iff.1 h5 t' ht')
  v := fun v hv => by
    obtain ⟨e, he, rfl⟩ := List.mem_map.1 (show v ∈ s.vals.map (subV l) from hv)
    obtain ⟨h1, h2, h3⟩ := hs.v e he
    refine ⟨by simpa [subV, mapSch] using h1, smallTy_subst l hl _ h2, fun p hp => ?_⟩
    obtain ⟨p', hp', rfl⟩ := List.mem_map.1 (show p ∈ e.sch.preds.map (mapPrd l) from hp)
    exact smallTy_subst l hl _ (h3 p' hp')
  all := by rw [allTys_sub, List.length_map]; exact hs.all
  sm := fun t ht => by
    rw [allTys_sub] at ht
    obtain ⟨t', ht', rfl⟩ := List.mem_map.1 ht
    exact smallTy_subst l hl _ (hs.sm t' ht')
theorem SzS_sub {l : List SMap} {s : Spec} (hs : SzS s) : SzS (subSp l s) where
  d := fun d hd => by
    obtain ⟨e, he, rfl⟩ := List.mem_map.1 (show d ∈ s.datas.map (subD l) from hd)
    exact hs.d e he
  c := fun d hd c hc => by
    obtain ⟨e, he, rfl⟩ := List.mem_map.1 (show d ∈ s.datas.map (subD l) from hd)
    obtain ⟨c', hc', rfl⟩ := List.mem_map.1 (show c ∈ e.cons.map (subC l) from hc)
    exact hs.c e he c' hc'
  v := fun v hv => by
    obtain ⟨e, he, rfl⟩ := List.mem_map.1 (show v ∈ s.vals.map (subV l) from hv)
    exact hs.v e he
  p := fun v hv p hp => by
    obtain ⟨e, he, rfl⟩ := List.mem_map.1 (show v ∈ s.vals.map (subV l) from hv)
    obtain ⟨p', hp', rfl⟩ := List.mem_map.1 (show p ∈ e.sch.preds.map (mapPrd l) from hp)
    exact hs.p e he p' hp'
theorem appErr_zero {f : Fctr} {arg : Spec} {name : Str} {n : Int} (h : appErr f arg name n = 0) : fctErr f = 0 := by
  by_cases hf : fctErr f = 0
  · exact hf
  · unfold appErr at h; rw [if_pos hf] at h; exact absurd h hf
theorem okSpec_nil : okSpec ⟨[], []⟩ where
  dl := by simp
  vl := by simp
  d := fun d h => by cases h
  v := fun d h => by cases h
  all := by show ([] : List Ty).length ≤ _; simp
  sm := by show ∀ t ∈ ([] : List Ty), _; simp
theorem SzS_nil : SzS ⟨[], []⟩ where
  d := fun d h => by cases h
  c := fun d h => by cases h
  v := fun d h => by cases h
  p := fun d h => by cases h
theorem appR_ok {f : Fctr} {arg : Spec} {name it : Str} {n : Int} (hf : okF f) : okSpec (appR f arg name it n) ∧ SzS (appR f arg name it n) := by
  unfold appR
  split
  · rename_i h
    obtain ⟨_, f2, f3, _, _⟩ := fct_ok (appErr_zero h)
    have km := chk_ok f2
    have ks := chk_ok f3
    refine ⟨okSpec_sub (fun m hm => ?_) hf.s, SzS_sub hf.zs⟩
    rcases List.mem_append.1 hm with hm | hm
    · exact (outerM_small km.par m hm).1
    · exact (outerM_small ks.par m hm).1
  · exact ⟨okSpec_nil, SzS_nil⟩
theorem FunctorTwice_ok (f : Fctr) (arg : Spec) (hf : okF f) (ha : okSpec arg) (hza : SzS arg) : APure Tryd.prog Γ0 10 [.agg (cFctr f), .agg (cSpec arg)] (.one (.lit (.bool true))) := by
  have c1 := Apply_ok (fun _ h => h) hΓ0 f arg nmM (itoa 1) 1 (by decide) itoa1 (fun _ _ => Itoa_small 1 (by omega)) hf.n hf.m hf.s hf.zm hf.zs ha hza
  have k0 : appErr f arg nmM 1 ≠ 0 → appR f arg nmM (itoa 1) 1 = ⟨[], []⟩ := fun h => by unfold appR; rw [if_neg h]
  have kf : appErr f arg nmM 1 = 0 → fctErr f = 0 := appErr_zero
  obtain ⟨q1, q2⟩ := appR_ok (f := f) (arg := arg) (name := nmM) (it := itoa 1) (n := 1) hf
  generalize appR f arg nmM (itoa 1) 1 = R at c1 k0 q1 q2
  generalize appErr f arg nmM 1 = e1 at c1 k0 kf
  have c2 := Match_ok R f.needs nmN q1 hf.m q2 hf.zm (by decide)
  have c3 := Apply_ok (fun _ h => h) hΓ0 f R nmN (itoa 2) 2 (by decide) itoa2 (fun _ _ => Itoa_small 2 (by omega)) hf.n hf.m hf.s hf.zm hf.zs q1 q2
  have k2 : fctErr f = 0 → appErr f R nmN 2 = matchErr R f.needs nmN := fun h => by
    unfold appErr; rw [if_neg (by simpa using h)]
    split
    · rfl
    · rename_i h2; rw [if_neg (by omega)]; exact (by simpa using h2 : matchErr R f.needs nmN = 0).symm
  generalize appR f R nmN (itoa 2) 2 = R2 at c3
  generalize appErr f R nmN 2 = e2 at c3 k2
  generalize hl : (if matchErr R f.needs nmN = 0 then (outerM nmN f.needs.datas).map cMap else []) = L at c2
  generalize matchErr R f.needs nmN = e3 at c2 k2 hl
  have hL : idsS isO L := by rw [← hl]; split <;> simp
  intro ou
  refine AFn.walk 45 tabOk Tryd.func10 rfl (by kernel_rfl) rfl rfl fun hou => ?_
  repeat first | (with_reducible refine oj ?_; refine AOps.auto tabOk rfl ?_) | (with_reducible first | refine o1 ?_ | refine o2 ?_ | refine o3 ?_ | refine o4 ?_ | refine o5 ?_ | refine o6 ?_ | refine o7 ?_ | refine o8 ?_ | refine o9 ?_ | refine oa ?_ | refine ob ?_ | refine oc ?_ | refine od ?_ | refine oe ?_ | refine og ?_ | refine oh ?_ | refine oi ?_) | (with_reducible refine cExitMiss ?_ ?_; rfl) | (with_reducible refine ok ?_; first | refine ACode.condT rfl ?_ | refine ACode.condF rfl ?_)
  refine AOps.callC hΓ0 c1 rfl rfl rfl rfl rfl rfl rfl hou (by simp) ?_
  repeat first | (with_reducible refine oj ?_; refine AOps.auto tabOk rfl ?_) | (with_reducible first | refine o1 ?_ | refine o2 ?_ | refine o3 ?_ | refine o4 ?_ | refine o5 ?_ | refine o6 ?_ | refine o7 ?_ | refine o8 ?_ | refine o9 ?_ | refine oa ?_ | refine ob ?_ | refine oc ?_ | refine od ?_ | refine oe ?_ | refine og ?_ | refine oh ?_ | refine oi ?_) | (with_reducible refine cExitMiss ?_ ?_; rfl) | (with_reducible refine ok ?_; first | refine ACode.condT rfl ?_ | refine ACode.condF rfl ?_)
  refine ACode.cond rfl (fun hb => ?_) (fun hb => ?_)
  · have hne : e1 ≠ 0 := by simpa using hb
    obtain rfl := k0 hne
    repeat first | (with_reducible refine oj ?_; refine AOps.auto tabOk rfl ?_) | (with_reducible first | refine o1 ?_ | refine o2 ?_ | refine o3 ?_ | refine o4 ?_ | refine o5 ?_ | refine o6 ?_ | refine o7 ?_ | refine o8 ?_ | refine o9 ?_ | refine oa ?_ | refine ob ?_ | refine oc ?_ | refine od ?_ | refine oe ?_ | refine og ?_ | refine oh ?_ | refine oi ?_) | (with_reducible refine cExitMiss ?_ ?_; rfl) | (with_reducible refine ok ?_; first | refine ACode.condT rfl ?_ | refine ACode.condF rfl ?_)
    refine AOps.callC hΓ0 fact_true rfl rfl rfl rfl rfl rfl rfl hou (by simp) ?_
    repeat first | (with_reducible refine oj ?_; refine AOps.auto tabOk rfl ?_) | (with_reducible first | refine o1 ?_ | refine o2 ?_ | refine o3 ?_ | refine o4 ?_ | refine o5 ?_ | refine o6 ?_ | refine o7 ?_ | refine o8 ?_ | refine o9 ?_ | refine oa ?_ | refine ob ?_ | refine oc ?_ | refine od ?_ | refine oe ?_ | refine og ?_ | refine oh ?_ | refine oi ?_) | (with_reducible refine cExitMiss ?_ ?_; rfl) | (with_reducible refine ok ?_; first | refine ACode.condT rfl ?_ | refine ACode.condF rfl ?_)
    exact APure.fin rfl (WkF.ofEq (by simp)) (by simp) hou rfl
  have hz : e1 = 0 := by simpa using hb
  have hk := k2 (kf hz)
  repeat first | (with_reducible refine oj ?_; refine AOps.auto tabOk rfl ?_) | (with_reducible first | refine o1 ?_ | refine o2 ?_ | refine o3 ?_ | refine o4 ?_ | refine o5 ?_ | refine o6 ?_ | refine o7 ?_ | refine o8 ?_ | refine o9 ?_ | refine oa ?_ | refine ob ?_ | refine oc ?_ | refine od ?_ | refine oe ?_ | refine og ?_ | refine oh ?_ | refine oi ?_) | (with_reducible refine cExitMiss ?_ ?_; rfl) | (with_reducible refine ok ?_; first | refine ACode.condT rfl ?_ | refine ACode.condF rfl ?_)
  refine AOps.callC hΓ0 c2 rfl rfl rfl rfl rfl rfl rfl hou (by simp) ?_
  repeat first | (with_reducible refine oj ?_; refine AOps.auto tabOk rfl ?_) | (with_reducible first | refine o1 ?_ | refine o2 ?_ | refine o3 ?_ | refine o4 ?_ | refine o5 ?_ | refine o6 ?_ | refine o7 ?_ | refine o8 ?_ | refine o9 ?_ | refine oa ?_ | refine ob ?_ | refine oc ?_ | refine od ?_ | refine oe ?_ | refine og ?_ | refine oh ?_ | refine oi ?_) | (with_reducible refine cExitMiss ?_ ?_; rfl) | (with_reducible refine ok ?_; first | refine ACode.condT rfl ?_ | refine ACode.condF rfl ?_)
  refine AOps.callC hΓ0 c3 rfl rfl rfl rfl rfl rfl rfl hou (by simp) ?_
  repeat first | (with_reducible refine oj ?_; refine AOps.auto tabOk rfl ?_) | (with_reducible first | refine o1 ?_ | refine o2 ?_ | refine o3 ?_ | refine o4 ?_ | refine o5 ?_ | refine o6 ?_ | refine o7 ?_ | refine o8 ?_ | refine o9 ?_ | refine oa ?_ | refine ob ?_ | refine oc ?_ | refine od ?_ | refine oe ?_ | refine og ?_ | refine oh ?_ | refine oi ?_) | (with_reducible refine cExitMiss ?_ ?_; rfl) | (with_reducible refine ok ?_; first | refine ACode.condT rfl ?_ | refine ACode.condF rfl ?_)
  refine AOps.callC hΓ0 fact_true rfl rfl rfl rfl rfl rfl rfl hou (by simp) ?_
  repeat first | (with_reducible refine oj ?_; refine AOps.auto tabOk rfl ?_) | (with_reducible first | refine o1 ?_ | refine o2 ?_ | refine o3 ?_ | refine o4 ?_ | refine o5 ?_ | refine o6 ?_ | refine o7 ?_ | refine o8 ?_ | refine o9 ?_ | refine oa ?_ | refine ob ?_ | refine oc ?_ | refine od ?_ | refine oe ?_ | refine og ?_ | refine oh ?_ | refine oi ?_) | (with_reducible refine cExitMiss ?_ ?_; rfl) | (with_reducible refine ok ?_; first | refine ACode.condT rfl ?_ | refine ACode.condF rfl ?_)
  refine APure.fin rfl (WkF.ofEq ?_) (by simp) hou rfl
  rw [hk]; simp
end Go.Proofs.YtoojdmgbffnmiaaDoor
/- FunctorEqual: the plain law: when two substitutions of one type are the same. -/
namespace Go.Proofs.YtoojdmgbffnmiaaDoor
open Go Go.Abs
set_option maxRecDepth 10000
set_option linter.unusedVariables false
set_option linter.unusedSimpArgs false
mutual
/-- The names of constructors become others. -/
def renT (f : Str → Str) : Ty → Ty
  | .mk k n v us => .mk k (if k = 1 then f n else n) v (renTs f us)
def renTs (f : Str → Str) : List Ty → List Ty
  | [] => []
  | t :: ts => renT f t :: renTs f ts
end
mutual
/-- A constructor of this name occurs. -/
def occ (x : Str) : Ty → Prop
  | .mk k n v us => (k = 1 ∧ n = x) ∨ occs x us
def occs (x : Str) : List Ty → Prop
  | [] => False
  | t :: ts => occ x t ∨ occs x ts
end
mutual
theorem renT_iff (f g : Str → Str) : ∀ t : Ty, canon (renT f t) = canon (renT g t) ↔ ∀ x, occ x t → f x = g x
  | .mk k n v us => by
    rw [renT, renT, canon_mk, renTs_iff f g us]
    constructor
    · rintro ⟨_, h2, _, h4⟩ x hx
      simp only [occ] at hx
      rcases hx with ⟨hk, rfl⟩ | hx
      · have := h2 (.inl hk)
        rwa [if_pos hk, if_pos hk] at this
      · exact h4 x hx
    · intro h
      refine ⟨rfl, fun hk => ?_, fun _ => rfl, fun x hx => h x (by simp only [occ]; exact .inr hx)⟩
      by_cases h1 : k = 1
      · rw [if_pos h1, if_pos h1]
        exact h n (by simp only [occ]; exact .inl ⟨h1, trivial⟩)
      · rw [if_neg h1, if_neg h1]
theorem renTs_iff (f g : Str → Str) : ∀ l : List Ty, canons (renTs f l) = canons (renTs g l) ↔ ∀ x, occs x l → f x = g x
  | [] => by simp [renTs, occs]
  | t :: ts => by
    simp only [renTs, canons, List.cons.injEq, renT_iff f g t, renTs_iff f g ts, occs]
    constructor
    · rintro ⟨h1, h2⟩ x (hx | hx)
      · exact h1 x hx
      · exact h2 x hx
    · exact fun h => ⟨fun x hx => h x (.inl hx), fun x hx => h x (.inr hx)⟩
end
mutual
theorem ment_iff (l : List DSig) : ∀ t : Ty, ment l t = true ↔ ∃ x, occ x t ∧ ∃ d ∈ l, d.name = x
  | .mk k n v us => by
    simp only [ment, Bool.or_eq_true, Bool.and_eq_true, beq_iff_eq, List.any_eq_true, ments_iff l us, occ]
    constructor
    · rintro (⟨hk, d, hd, he⟩ | ⟨x, hx, h⟩)
      · exact ⟨n, .inl ⟨hk, rfl⟩, d, hd, str_eq.1 (by simpa using he)⟩
      · exact ⟨x, .inr hx, h⟩
    · rintro ⟨x, ⟨hk, rfl⟩ | hx, d, hd, rfl⟩
      · exact .inl ⟨hk, d, hd, rfl⟩
      · exact .inr ⟨_, hx, d, hd, rfl⟩
theorem ments_iff (l : List DSig) : ∀ ts : List Ty, ments l ts = true ↔ ∃ x, occs x ts ∧ ∃ d ∈ l, d.name = x
  | [] => by simp [ments, occs]
  | t :: ts => by
    simp only [ments, Bool.or_eq_true, ment_iff l t, ments_iff l ts, occs]
    constructor
    · rintro (⟨x, hx, h⟩ | ⟨x, hx, h⟩)
      · exact ⟨x, .inl hx, h⟩
      · exact ⟨x, .inr hx, h⟩
    · rintro ⟨x, hx | hx, h⟩
      · exact .inl ⟨x, hx, h⟩
      · exact .inr ⟨x, hx, h⟩
end
end Go.Proofs.YtoojdmgbffnmiaaDoor
/- FunctorEqual: substitution by two lists of fronts is renaming. -/
namespace Go.Proofs.YtoojdmgbffnmiaaDoor
open Go Go.Abs
set_option maxRecDepth 10000
set_option linter.unusedVariables false
set_option linter.unusedSimpArgs false
theorem pred_same (n : Str) (d : DSig) : (d.name.toList == n.toList) = (cmpStr d.name n == 0) := by
  rw [Bool.eq_iff_iff]
  rw [str_eq, beq_iff_eq, cmpStr_eq]
theorem findMap_outer (nm n : Str) (l : List DSig) : findMap (outerM nm l) n = (findBy DSig.name n l).map (front nm) := by
  unfold findMap outerM findBy
  rw [List.find?_map]
  congr 1
  exact congrArg (fun p => List.find? p l) (funext fun d => pred_same n d)
theorem findMap_append (a b : List SMap) (n : Str) : findMap (a ++ b) n = (findMap a n).or (findMap b n) := by
  simp [findMap, List.find?_append]
def nf (needs yields : List DSig) (nm fx n : Str) : Str :=
  match findBy DSig.name n needs with
  | some d => nm ++ dot ++ d.name
  | none => match findBy DSig.name n yields with
    | some d => fx ++ dot ++ d.name
    | none => n
theorem fill_vars (us : List Ty) : fillTys us (varsTo us.length) = us := by
  rw [fillTys_eq]
  refine List.ext_getElem? fun i => ?_
  by_cases hi : i < us.length
  · simp [varsTo, hi, fillTy]
  · simp [varsTo, hi]
theorem fill_front (nm : Str) (d : DSig) (us : List Ty) (h : d.params = us.length) : fillTy us (front nm d).ty = .mk 1 (nm ++ dot ++ d.name) 0 us := by
  have e : d.params.toNat = us.length := by omega
  unfold front
  simp only [e, fillTy, fill_vars]
  rfl
mutual
theorem canon_subst (needs yields : List DSig) (nm fx : Str) : ∀ t : Ty, kindErr needs t = 0 → kindErr yields t = 0 →
    canon (substTy (outerM nm needs ++ outerM fx yields) t) = canon (renT (nf needs yields nm fx) t)
  | .mk k n v us, h1, h2 => by
    have ih := canons_subst needs yields nm fx us
    simp only [kindErr] at h1 h2
    split at h1
    · cases h1
    rename_i g1
    split at h2
    · cases h2
    rename_i g2
    have ih := ih h1 h2
    have hlen : (substTys (outerM nm needs ++ outerM fx yields) us).length = us.length := by simp [substTys_eq]
    simp only [substTy, renT]
    by_cases hk : k = 1
    · rw [if_pos hk, if_pos hk, findMap_append, findMap_outer, findMap_outer]
      subst hk
      simp only [true_and] at g1 g2
      unfold nf
      cases hd : findBy DSig.name n needs with
      | some d =>
        simp only [Option.map_some, Option.some_or]
        rw [fill_front _ _ _ (by rw [hlen]; unfold kindBad at g1; rw [hd] at g1; simpa using g1)]
        exact (canon_mk ..).2 ⟨rfl, fun _ => rfl, fun h => absurd h (by decide), ih⟩
      | none =>
        simp only [Option.map_none, Option.none_or]
        cases he : findBy DSig.name n yields with
        | some d =>
          simp only [Option.map_some]
          rw [fill_front _ _ _ (by rw [hlen]; unfold kindBad at g2; rw [he] at g2; simpa using g2)]
          exact (canon_mk ..).2 ⟨rfl, fun _ => rfl, fun h => absurd h (by decide), ih⟩
        | none =>
          simp only [Option.map_none]
          exact (canon_mk ..).2 ⟨rfl, fun _ => rfl, fun h => absurd h (by decide), ih⟩
    · rw [if_neg hk, if_neg hk]
      exact (canon_mk ..).2 ⟨rfl, fun _ => rfl, fun _ => rfl, ih⟩
theorem canons_subst (needs yields : List DSig) (nm fx : Str) : ∀ l : List Ty, kindErrs needs l = 0 → kindErrs yields l = 0 →
    canons (substTys (outerM nm needs ++ outerM fx yields) l) = canons (renTs (nf needs yields nm fx) l)
  | [], _, _ => rfl
  | t :: ts, h1, h2 => by
    simp only [kindErrs] at h1 h2
    split at h1
    · rename_i h; exact absurd h1 h
    rename_i g1
    split at h2
    · rename_i h; exact absurd h2 h
    rename_i g2
    simp only [substTys, renTs, canons, canon_subst needs yields nm fx t (by simpa using g1) (by simpa using g2), canons_subst needs yields nm fx ts h1 h2]
end
end Go.Proofs.YtoojdmgbffnmiaaDoor
