/- Match: walked. -/
import Derived.Test.YtoojdmgbffnmiaaDoorSub10
import Derived.ProofKit
import Derived.OpenShut
import Derived.Deep.DeepHandedRow
import Derived.JoinedCond
import Derived.Test.YtoojdmgbffnmiaaDoorRows
import Derived.Lib.LaidTab
import Derived.Test.YtoojdmgbffnmiaaDoorCards
import Derived.Test.YtoojdmgbffnmiaaDoorTie
import Derived.WalkKit
namespace Go.Proofs.YtoojdmgbffnmiaaDoor
open Go Go.Abs
set_option maxRecDepth 10000
set_option linter.unusedVariables false
set_option linter.unusedSimpArgs false
mutual
theorem smallTy_fill (args : List Ty) (ha : args.length ≤ 1048576) (hs : smallTys args) : ∀ t : Ty, smallTy t → smallTy (fillTy args t)
  | .mk k n v us, h => by
    simp only [fillTy]
    split
    · split
      · rename_i a hget
        split
        · exact smallTys_iff.1 hs a (List.mem_of_getElem? hget)
        · exact h
      · exact h
    · exact ⟨by rw [fillTys_eq]; simpa using h.1, smallTys_fill args ha hs us h.2⟩
theorem smallTys_fill (args : List Ty) (ha : args.length ≤ 1048576) (hs : smallTys args) : ∀ l : List Ty, smallTys l → smallTys (fillTys args l)
  | [], _ => trivial
  | t :: ts, h => ⟨smallTy_fill args ha hs t h.1, smallTys_fill args ha hs ts h.2⟩
end
mutual
theorem smallTy_subst (l : List SMap) (hl : ∀ m ∈ l, smallTy m.ty) : ∀ t : Ty, smallTy t → smallTy (substTy l t)
  | .mk k n v us, h => by
    have h2 := smallTys_subst l hl us h.2
    have h1 : (substTys l us).length ≤ 1048576 := by rw [substTys_eq]; simpa using h.1
    simp only [substTy]
    split
    · split
      · rename_i m hm
        exact smallTy_fill _ h1 h2 _ (hl m (List.mem_of_find?_eq_some hm))
      · exact ⟨h1, h2⟩
    · exact ⟨h1, h2⟩
theorem smallTys_subst (l : List SMap) (hl : ∀ m ∈ l, smallTy m.ty) : ∀ ts : List Ty, smallTys ts → smallTys (substTys l ts)
  | [], _ => trivial
  | t :: ts, h => ⟨smallTy_subst l hl t h.1, smallTys_subst l hl ts h.2⟩
end
theorem varsTo_small (n : Nat) : smallTys (varsTo n) ∧ posTys (varsTo n) := by
  refine ⟨smallTys_iff.2 fun t ht => ?_, posTys_iff.2 fun t ht => ?_⟩
  · simp [varsTo] at ht
    obtain ⟨i, _, rfl⟩ := ht
    exact ⟨by simp, trivial⟩
  · simp [varsTo] at ht
    obtain ⟨i, _, rfl⟩ := ht
    exact ⟨fun _ => by omega, trivial⟩
theorem outerM_small {name : Str} {l : List DSig} (hd : ∀ d ∈ l, d.params ≤ 1048576) : ∀ m ∈ outerM name l, smallTy m.ty ∧ posTy m.ty := fun m hm => by
  simp [outerM] at hm
  obtain ⟨d, hdm, rfl⟩ := hm
  have h1 := hd d hdm
  have h2 := varsTo_small d.params.toNat
  exact ⟨⟨by simp; omega, h2.1⟩, ⟨fun h => absurd (show (1 : Int) = 0 from h) (by decide), h2.2⟩⟩
theorem firstErr_zero {α : Type} {f : α → Int} : ∀ {l : List α}, firstErr f l = 0 → ∀ x ∈ l, f x = 0
  | [], _, x, h => by cases h
  | a :: l, h, x, hx => by
    simp only [firstErr] at h
    split at h
    · rename_i h1; exact absurd h h1
    · rename_i h1
      rcases List.mem_cons.1 hx with rfl | hx
      · simpa using h1
      · exact firstErr_zero h x hx
/-- What a specification has that passes. -/
structure ChkOk (s : Spec) : Prop where
  dl : s.datas.length ≤ 40
  vl : s.vals.length ≤ 40
  ds : Sorted DSig.name s.datas
  vs : Sorted VSig.name s.vals
  d : ∀ d ∈ s.datas, datErr cutN d = 0
  v : ∀ v ∈ s.vals, cutN v.name = false ∧ schErr cutN v.sch = 0
  k : ∀ t ∈ allTys s, kindErr s.datas t = 0
theorem datErr_par {d : DSig} (h : datErr cutN d = 0) : 0 ≤ d.params ∧ d.params ≤ 8 := by
  unfold datErr at h
  split at h
  · cases h
  · split at h
    · cases h
    · omega
theorem ChkOk.par {s : Spec} (h : ChkOk s) : ∀ d ∈ s.datas, d.params ≤ 1048576 := fun d hd => by
  have := datErr_par (h.d d hd)
  omega
theorem chk_ok {s : Spec} (h : chkErr cutN s = 0) : ChkOk s := by
  unfold chkErr at h
  split at h
  · cases h
  rename_i hlen
  split at h
  · rename_i h1; exact absurd h h1
  rename_i hd
  split at h
  · rename_i h1; exact absurd h h1
  rename_i hv
  have hd := firstErr_zero (Decidable.not_not.1 hd)
  have hv := firstErr_zero (Decidable.not_not.1 hv)
  have hd2 : ∀ i d, s.datas[i]? = some d → datErr cutN d = 0 ∧ ordBad DSig.name s.datas i = false := fun i d hi => by
    have h1 := hd i (List.mem_range.2 (List.getElem?_eq_some_iff.1 hi).1)
    simp only [datAt, hi] at h1
    split at h1
    · rename_i h2; exact absurd h1 h2
    · rename_i h2
      split at h1
      · cases h1
      · rename_i h3; exact ⟨Decidable.not_not.1 h2, by simpa using h3⟩
  have hv2 : ∀ i v, s.vals[i]? = some v → (cutN v.name = false ∧ schErr cutN v.sch = 0) ∧ ordBad VSig.name s.vals i = false := fun i v hi => by
    have h1 := hv i (List.mem_range.2 (List.getElem?_eq_some_iff.1 hi).1)
    simp only [valAt, hi] at h1
    split at h1
    · cases h1
    · rename_i h0
      split at h1
      · rename_i h2; exact absurd h1 h2
      · rename_i h2
        split at h1
        · cases h1
        · rename_i h3; exact ⟨⟨by simpa using h0, Decidable.not_not.1 h2⟩, by simpa using h3⟩
  refine ⟨by omega, by omega, sorted_of fun i hi => ?_, sorted_of fun i hi => ?_, fun d hm => ?_, fun v hm => ?_, firstErr_zero h⟩
  · obtain ⟨d, hd⟩ := get_of_lt hi
    exact (hd2 i d hd).2
  · obtain ⟨v, hv⟩ := get_of_lt hi
    exact (hv2 i v hv).2
  · obtain ⟨i, hi⟩ := List.getElem?_of_mem hm
    exact (hd2 i d hi).1
  · obtain ⟨i, hi⟩ := List.getElem?_of_mem hm
    exact (hv2 i v hi).1
def valErr (m s : Spec) (name : Str) (v : VSig) : Int :=
  match findBy VSig.name v.name m.vals with
  | none => 6
  | some x => if genB (mapSch (outerM name m.datas) x.sch) (mapSch (outerM name s.datas) v.sch) = true then 0 else 10
def matchErr (m s : Spec) (name : Str) : Int :=
  if chkErr cutN m ≠ 0 then chkErr cutN m else if chkErr cutN s ≠ 0 then chkErr cutN s else if cutN name = true then 3
  else if firstErr (typeErr m.datas) s.datas ≠ 0 then firstErr (typeErr m.datas) s.datas else firstErr (valErr m s name) s.vals
/-- The names of a specification are no longer than strings are that are looked through. -/
structure SzS (s : Spec) : Prop where
  d : ∀ d ∈ s.datas, d.name.size < 4294967281
  c : ∀ d ∈ s.datas, ∀ c ∈ d.cons, c.name.size < 4294967281
  v : ∀ v ∈ s.vals, v.name.size < 4294967281
  p : ∀ v ∈ s.vals, ∀ p ∈ v.sch.preds, p.cls.size < 4294967281
theorem SzS.cut {s : Spec} (h : SzS s) : CutS cutN s :=
  ⟨fun d hd => cut_ok _ (h.d d hd), fun d hd c hc => cut_ok _ (h.c d hd c hc), fun v hv => cut_ok _ (h.v v hv), fun v hv p hp => cut_ok _ (h.p v hv p hp)⟩
theorem hΓF0 : ∀ g cs, (g, cs) ∈ Γ0 → idsL (fun _ => False) cs := by
  intro g cs h
  simp [Γ0] at h
  obtain ⟨rfl, rfl⟩ := h
  simp [arCells]
theorem Match_ok (m s : Spec) (name : Str) (hm : okSpec m) (hs : okSpec s) (hzm : SzS m) (hzs : SzS s) (hn : name.size ≤ 1048576) :
    APure Tryd.prog Γ0 13 [.agg (cSpec m), .agg (cSpec s), .one (str name)] (.tup [.one (.sl 5 (if matchErr m s name = 0 then (outerM name s.datas).map cMap else [])), .one (int (matchErr m s name))]) := by
  intro ou
  refine AFn.walk 75 tabOk Tryd.func13 rfl (by kernel_rfl) rfl rfl fun hou => ?_
  repeat first | (with_reducible refine oj ?_; refine AOps.auto tabOk rfl ?_) | (with_reducible first | refine o1 ?_ | refine o2 ?_ | refine o3 ?_ | refine o4 ?_ | refine o5 ?_ | refine o6 ?_ | refine o7 ?_ | refine o8 ?_ | refine o9 ?_ | refine oa ?_ | refine ob ?_ | refine oc ?_ | refine od ?_ | refine oe ?_ | refine og ?_ | refine oh ?_ | refine oi ?_) | (with_reducible refine cExitMiss ?_ ?_; rfl) | (with_reducible refine ok ?_; first | refine ACode.condT rfl ?_ | refine ACode.condF rfl ?_)
  refine AOps.callC hΓ0 (Check_ok cutN m hm hzm.cut) rfl rfl rfl rfl rfl rfl rfl hou (by simp) ?_
  repeat first | (with_reducible refine oj ?_; refine AOps.auto tabOk rfl ?_) | (with_reducible first | refine o1 ?_ | refine o2 ?_ | refine o3 ?_ | refine o4 ?_ | refine o5 ?_ | refine o6 ?_ | refine o7 ?_ | refine o8 ?_ | refine o9 ?_ | refine oa ?_ | refine ob ?_ | refine oc ?_ | refine od ?_ | refine oe ?_ | refine og ?_ | refine oh ?_ | refine oi ?_) | (with_reducible refine cExitMiss ?_ ?_; rfl) | (with_reducible refine ok ?_; first | refine ACode.condT rfl ?_ | refine ACode.condF rfl ?_)
  refine ACode.cond rfl (fun hb => ?_) (fun hb => ?_)
  · have hne : chkErr cutN m ≠ 0 := by simpa using hb
    have he : matchErr m s name = chkErr cutN m := by unfold matchErr; rw [if_pos hne]
    repeat first | (with_reducible refine oj ?_; refine AOps.auto tabOk rfl ?_) | (with_reducible first | refine o1 ?_ | refine o2 ?_ | refine o3 ?_ | refine o4 ?_ | refine o5 ?_ | refine o6 ?_ | refine o7 ?_ | refine o8 ?_ | refine o9 ?_ | refine oa ?_ | refine ob ?_ | refine oc ?_ | refine od ?_ | refine oe ?_ | refine og ?_ | refine oh ?_ | refine oi ?_) | (with_reducible refine cExitMiss ?_ ?_; rfl) | (with_reducible refine ok ?_; first | refine ACode.condT rfl ?_ | refine ACode.condF rfl ?_)
    refine APure.fin rfl (WkF.tup (.cons (.one (.trans (.nilS 5) (.ofEq ?_))) (.cons (.ofEq ?_) .nil))) (by simp; split <;> simp) hou rfl
    · rw [he, if_neg hne]
    · rw [he]
  have hm0 : chkErr cutN m = 0 := by simpa using hb
  repeat first | (with_reducible refine oj ?_; refine AOps.auto tabOk rfl ?_) | (with_reducible first | refine o1 ?_ | refine o2 ?_ | refine o3 ?_ | refine o4 ?_ | refine o5 ?_ | refine o6 ?_ | refine o7 ?_ | refine o8 ?_ | refine o9 ?_ | refine oa ?_ | refine ob ?_ | refine oc ?_ | refine od ?_ | refine oe ?_ | refine og ?_ | refine oh ?_ | refine oi ?_) | (with_reducible refine cExitMiss ?_ ?_; rfl) | (with_reducible refine ok ?_; first | refine ACode.condT rfl ?_ | refine ACode.condF rfl ?_)
  refine AOps.callC hΓ0 (Check_ok cutN s hs hzs.cut) rfl rfl rfl rfl rfl rfl rfl hou (by simp) ?_
  repeat first | (with_reducible refine oj ?_; refine AOps.auto tabOk rfl ?_) | (with_reducible first | refine o1 ?_ | refine o2 ?_ | refine o3 ?_ | refine o4 ?_ | refine o5 ?_ | refine o6 ?_ | refine o7 ?_ | refine o8 ?_ | refine o9 ?_ | refine oa ?_ | refine ob ?_ | refine oc ?_ | refine od ?_ | refine oe ?_ | refine og ?_ | refine oh ?_ | refine oi ?_) | (with_reducible refine cExitMiss ?_ ?_; rfl) | (with_reducible refine ok ?_; first | refine ACode.condT rfl ?_ | refine ACode.condF rfl ?_)
  refine ACode.cond rfl (fun hb => ?_) (fun hb => ?_)
  · have hne : chkErr cutN s ≠ 0 := by simpa using hb
    have he : matchErr m s name = chkErr cutN s := by unfold matchErr; rw [if_neg (by simpa using hm0), if_pos hne]
    repeat first | (with_reducible refine oj ?_; refine AOps.auto tabOk rfl ?_) | (with_reducible first | refine o1 ?_ | refine o2 ?_ | refine o3 ?_ | refine o4 ?_ | refine o5 ?_ | refine o6 ?_ | refine o7 ?_ | refine o8 ?_ | refine o9 ?_ | refine oa ?_ | refine ob ?_ | refine oc ?_ | refine od ?_ | refine oe ?_ | refine og ?_ | refine oh ?_ | refine oi ?_) | (with_reducible refine cExitMiss ?_ ?_; rfl) | (with_reducible refine ok ?_; first | refine ACode.condT rfl ?_ | refine ACode.condF rfl ?_)
    refine APure.fin rfl (WkF.tup (.cons (.one (.trans (.nilS 5) (.ofEq ?_))) (.cons (.ofEq ?_) .nil))) (by simp; split <;> simp) hou rfl
    · rw [he, if_neg hne]
    · rw [he]
  have hs0 : chkErr cutN s = 0 := by simpa using hb
  have hme : matchErr m s name = if cutN name = true then 3 else if firstErr (typeErr m.datas) s.datas ≠ 0 then firstErr (typeErr m.datas) s.datas else firstErr (valErr m s name) s.vals := by
    unfold matchErr; rw [if_neg (by simpa using hm0), if_neg (by simpa using hs0)]
  repeat first | (with_reducible refine oj ?_; refine AOps.auto tabOk rfl ?_) | (with_reducible first | refine o1 ?_ | refine o2 ?_ | refine o3 ?_ | refine o4 ?_ | refine o5 ?_ | refine o6 ?_ | refine o7 ?_ | refine o8 ?_ | refine o9 ?_ | refine oa ?_ | refine ob ?_ | refine oc ?_ | refine od ?_ | refine oe ?_ | refine og ?_ | refine oh ?_ | refine oi ?_) | (with_reducible refine cExitMiss ?_ ?_; rfl) | (with_reducible refine ok ?_; first | refine ACode.condT rfl ?_ | refine ACode.condF rfl ?_)
  refine AOps.callC hΓ0 (cut_ok name (by omega)) rfl rfl rfl rfl rfl rfl rfl hou (by simp) ?_
  repeat first | (with_reducible refine oj ?_; refine AOps.auto tabOk rfl ?_) | (with_reducible first | refine o1 ?_ | refine o2 ?_ | refine o3 ?_ | refine o4 ?_ | refine o5 ?_ | refine o6 ?_ | refine o7 ?_ | refine o8 ?_ | refine o9 ?_ | refine oa ?_ | refine ob ?_ | refine oc ?_ | refine od ?_ | refine oe ?_ | refine og ?_ | refine oh ?_ | refine oi ?_) | (with_reducible refine cExitMiss ?_ ?_; rfl) | (with_reducible refine ok ?_; first | refine ACode.condT rfl ?_ | refine ACode.condF rfl ?_)
  refine ACode.cond rfl (fun hb => ?_) (fun hb => ?_)
  · have he : matchErr m s name = 3 := by rw [hme, if_pos hb]
    repeat first | (with_reducible refine oj ?_; refine AOps.auto tabOk rfl ?_) | (with_reducible first | refine o1 ?_ | refine o2 ?_ | refine o3 ?_ | refine o4 ?_ | refine o5 ?_ | refine o6 ?_ | refine o7 ?_ | refine o8 ?_ | refine o9 ?_ | refine oa ?_ | refine ob ?_ | refine oc ?_ | refine od ?_ | refine oe ?_ | refine og ?_ | refine oh ?_ | refine oi ?_) | (with_reducible refine cExitMiss ?_ ?_; rfl) | (with_reducible refine ok ?_; first | refine ACode.condT rfl ?_ | refine ACode.condF rfl ?_)
    refine APure.fin rfl (WkF.tup (.cons (.one (.trans (.nilS 5) (.ofEq ?_))) (.cons (.ofEq ?_) .nil))) (by simp; split <;> simp) hou rfl
    · rw [he]; simp
    · rw [he]
  rw [if_neg (by simp [hb])] at hme
  have km := chk_ok hm0
  have ks := chk_ok hs0
  have pM := km.par
  have pS := ks.par
  have smM := outerM_small (name := name) pM
  have smS := outerM_small (name := name) pS
  repeat first | (with_reducible refine oj ?_; refine AOps.auto tabOk rfl ?_) | (with_reducible first | refine o1 ?_ | refine o2 ?_ | refine o3 ?_ | refine o4 ?_ | refine o5 ?_ | refine o6 ?_ | refine o7 ?_ | refine o8 ?_ | refine o9 ?_ | refine oa ?_ | refine ob ?_ | refine oc ?_ | refine od ?_ | refine oe ?_ | refine og ?_ | refine oh ?_ | refine oi ?_) | (with_reducible refine cExitMiss ?_ ?_; rfl) | (with_reducible refine ok ?_; first | refine ACode.condT rfl ?_ | refine ACode.condF rfl ?_)
  refine AOps.callC hΓ0 (types_ok hΓ0 m s name hn hm.dl km.ds hm.d hs.dl hs.d pS) rfl rfl rfl rfl rfl rfl rfl hou (by simp) ?_
  repeat first | (with_reducible refine oj ?_; refine AOps.auto tabOk rfl ?_) | (with_reducible first | refine o1 ?_ | refine o2 ?_ | refine o3 ?_ | refine o4 ?_ | refine o5 ?_ | refine o6 ?_ | refine o7 ?_ | refine o8 ?_ | refine o9 ?_ | refine oa ?_ | refine ob ?_ | refine oc ?_ | refine od ?_ | refine oe ?_ | refine og ?_ | refine oh ?_ | refine oi ?_) | (with_reducible refine cExitMiss ?_ ?_; rfl) | (with_reducible refine ok ?_; first | refine ACode.condT rfl ?_ | refine ACode.condF rfl ?_)
  refine ACode.cond rfl (fun hb => ?_) (fun hb => ?_)
  · have hne : firstErr (typeErr m.datas) s.datas ≠ 0 := by simpa using hb
    have he : matchErr m s name = firstErr (typeErr m.datas) s.datas := by rw [hme, if_pos hne]
    repeat first | (with_reducible refine oj ?_; refine AOps.auto tabOk rfl ?_) | (with_reducible first | refine o1 ?_ | refine o2 ?_ | refine o3 ?_ | refine o4 ?_ | refine o5 ?_ | refine o6 ?_ | refine o7 ?_ | refine o8 ?_ | refine o9 ?_ | refine oa ?_ | refine ob ?_ | refine oc ?_ | refine od ?_ | refine oe ?_ | refine og ?_ | refine oh ?_ | refine oi ?_) | (with_reducible refine cExitMiss ?_ ?_; rfl) | (with_reducible refine ok ?_; first | refine ACode.condT rfl ?_ | refine ACode.condF rfl ?_)
    refine APure.fin rfl (WkF.tup (.cons (.one (.trans (.nilS 5) (.ofEq ?_))) (.cons (.ofEq ?_) .nil))) (by simp; split <;> simp) hou rfl
    · rw [he, if_neg hne]
    · rw [he]
  have ht0 : firstErr (typeErr m.datas) s.datas = 0 := by simpa using hb
  rw [if_neg (by simpa using ht0)] at hme
  simp only [ht0, if_true]
  repeat first | (with_reducible refine oj ?_; refine AOps.auto tabOk rfl ?_) | (with_reducible first | refine o1 ?_ | refine o2 ?_ | refine o3 ?_ | refine o4 ?_ | refine o5 ?_ | refine o6 ?_ | refine o7 ?_ | refine o8 ?_ | refine o9 ?_ | refine oa ?_ | refine ob ?_ | refine oc ?_ | refine od ?_ | refine oe ?_ | refine og ?_ | refine oh ?_ | refine oi ?_) | (with_reducible refine cExitMiss ?_ ?_; rfl) | (with_reducible refine ok ?_; first | refine ACode.condT rfl ?_ | refine ACode.condF rfl ?_)
  refine AOps.callC hΓ0 (outer_ok hΓ0 m name hn hm.dl hm.d pM) rfl rfl rfl rfl rfl rfl rfl hou (by simp) ?_
  repeat first | (with_reducible refine oj ?_; refine AOps.auto tabOk rfl ?_) | (with_reducible first | refine o1 ?_ | refine o2 ?_ | refine o3 ?_ | refine o4 ?_ | refine o5 ?_ | refine o6 ?_ | refine o7 ?_ | refine o8 ?_ | refine o9 ?_ | refine oa ?_ | refine ob ?_ | refine oc ?_ | refine od ?_ | refine oe ?_ | refine og ?_ | refine oh ?_ | refine oi ?_) | (with_reducible refine cExitMiss ?_ ?_; rfl) | (with_reducible refine ok ?_; first | refine ACode.condT rfl ?_ | refine ACode.condF rfl ?_)
  refine ACode.loopR hΓ0 (α := Nat) (fun j => [(45, .one (int j)), (44, .one (int (s.vals.map cVal).length)), (43, .one (.sl 7 (s.vals.map cVal))), (3, .one (.ptr (.l 0) 0)), (10, .one (.sl 5 ((outerM name s.datas).map cMap))), (12, .one (.sl 5 ((outerM name m.datas).map cMap)))])
    (fun j => ⟨1, [(0, .cells (cSpec m))], ou⟩) (fun k j => j ≤ s.vals.length ∧ (∀ x ∈ s.vals.take j, valErr m s name x = 0) ∧ k = s.vals.length - j) (a0 := 0) (ρ := id) ⟨by omega, by simp, rfl⟩ (LessR.of rfl (by (repeat' first | exact FrSub.nil | refine FrSub.cons rfl (.ofEq rfl) ?_ | refine FrSub.consP rfl (.ofEq rfl) (by simp) ?_)) (by simp) (by repeat' first | exact LoSub.nil | refine LoSub.cons rfl ?_ rfl (by simp) ?_ | rfl | (refine (AObj.ren_pure _ _ ?_).symm; simp; done) | (simp [AObj.ren, renL, AC.ren, cTy]; done) | (simp [AObj.ren, renL, AC.ren, cTy]; rfl)) rfl rfl hou) fun k j hj => ?_
  obtain ⟨hjl, hno, rfl⟩ := hj
  repeat first | (with_reducible refine oj ?_; refine AOps.auto tabOk rfl ?_) | (with_reducible first | refine o1 ?_ | refine o2 ?_ | refine o3 ?_ | refine o4 ?_ | refine o5 ?_ | refine o6 ?_ | refine o7 ?_ | refine o8 ?_ | refine o9 ?_ | refine oa ?_ | refine ob ?_ | refine oc ?_ | refine od ?_ | refine oe ?_ | refine og ?_ | refine oh ?_ | refine oi ?_) | (with_reducible refine cExitMiss ?_ ?_; rfl) | (with_reducible refine ok ?_; first | refine ACode.condT rfl ?_ | refine ACode.condF rfl ?_)
  refine ACode.cond rfl (fun hb2 => ?_) (fun hb2 => ?_)
  · have hlt : j < s.vals.length := by simpa using hb2
    obtain ⟨v, hv⟩ := get_of_lt hlt
    have hvm := List.mem_of_getElem? hv
    have hvl := hs.vl
    obtain ⟨i, h1, h2, h3⟩ := sorted_part (f := VSig.name) v.name km.vs
    repeat first | (with_reducible refine oj ?_; refine AOps.auto tabOk rfl ?_) | (with_reducible first | refine o1 ?_ | refine o2 ?_ | refine o3 ?_ | refine o4 ?_ | refine o5 ?_ | refine o6 ?_ | refine o7 ?_ | refine o8 ?_ | refine o9 ?_ | refine oa ?_ | refine ob ?_ | refine oc ?_ | refine od ?_ | refine oe ?_ | refine og ?_ | refine oh ?_ | refine oi ?_) | (with_reducible refine cExitMiss ?_ ?_; rfl) | (with_reducible refine ok ?_; first | refine ACode.condT rfl ?_ | refine ACode.condF rfl ?_)
    refine AOps.step1 rfl rfl rfl (AStep.indexAddr tabOk rfl rfl rfl rfl rfl rfl (.inl rfl) rfl (by omega) (map_get hv)) ?_
    repeat first | (with_reducible refine oj ?_; refine AOps.auto tabOk rfl ?_) | (with_reducible first | refine o1 ?_ | refine o2 ?_ | refine o3 ?_ | refine o4 ?_ | refine o5 ?_ | refine o6 ?_ | refine o7 ?_ | refine o8 ?_ | refine o9 ?_ | refine oa ?_ | refine ob ?_ | refine oc ?_ | refine od ?_ | refine oe ?_ | refine og ?_ | refine oh ?_ | refine oi ?_) | (with_reducible refine cExitMiss ?_ ?_; rfl) | (with_reducible refine ok ?_; first | refine ACode.condT rfl ?_ | refine ACode.condF rfl ?_)
    refine AOps.callC hΓ0 (BSF35_ok hΓ0 36 v.name (fun d => cmpStr d.name v.name) m.vals hm.vl i h1 h2 (fun a _ => matchF_ok hΓ0 a v.name)) rfl rfl rfl rfl rfl rfl rfl hou (by simp) ?_
    repeat first | (with_reducible refine oj ?_; refine AOps.auto tabOk rfl ?_) | (with_reducible first | refine o1 ?_ | refine o2 ?_ | refine o3 ?_ | refine o4 ?_ | refine o5 ?_ | refine o6 ?_ | refine o7 ?_ | refine o8 ?_ | refine o9 ?_ | refine oa ?_ | refine ob ?_ | refine oc ?_ | refine od ?_ | refine oe ?_ | refine og ?_ | refine oh ?_ | refine oi ?_) | (with_reducible refine cExitMiss ?_ ?_; rfl) | (with_reducible refine ok ?_; first | refine ACode.condT rfl ?_ | refine ACode.condF rfl ?_)
    have stop : ∀ e : Int, valErr m s name v = e → e ≠ 0 → matchErr m s name = e := fun e he hne => by
      have := firstErr_at hno hv (by rw [he]; exact hne)
      rw [hme, this, he]
    refine ACode.cond rfl (fun hb3 => ?_) (fun hb3 => ?_)
    · have hn2 : findBy VSig.name v.name m.vals = none := by
        rw [← h3]
        unfold hitAt at hb3
        cases hg : m.vals[i]? with
        | none => rfl
        | some a => rw [hg] at hb3; simp at hb3; simp [hb3]
      have he := stop 6 (by simp [valErr, hn2]) (by decide)
      repeat first | (with_reducible refine oj ?_; refine AOps.auto tabOk rfl ?_) | (with_reducible first | refine o1 ?_ | refine o2 ?_ | refine o3 ?_ | refine o4 ?_ | refine o5 ?_ | refine o6 ?_ | refine o7 ?_ | refine o8 ?_ | refine o9 ?_ | refine oa ?_ | refine ob ?_ | refine oc ?_ | refine od ?_ | refine oe ?_ | refine og ?_ | refine oh ?_ | refine oi ?_) | (with_reducible refine cExitMiss ?_ ?_; rfl) | (with_reducible refine ok ?_; first | refine ACode.condT rfl ?_ | refine ACode.condF rfl ?_)
      refine APure.fin rfl (WkF.tup (.cons (.one (.trans (.nilS 5) (.ofEq ?_))) (.cons (.ofEq ?_) .nil))) (by simp; split <;> simp) hou rfl
      · rw [he]; simp
      · rw [he]
    have hh : hitAt (fun d => cmpStr d.name v.name) m.vals i = true := by simpa using hb3
    unfold hitAt at hh
    cases hg : m.vals[i]? with
    | none => rw [hg] at hh; cases hh
    | some x =>
    rw [hg] at hh
    have hn2 : findBy VSig.name v.name m.vals = some x := by rw [← h3, hg]; simp only [hh, if_true]
    have hxm := List.mem_of_getElem? hg
    have okx := hm.v x hxm
    have okv := hs.v v hvm
    have hil : i < m.vals.length := (List.getElem?_eq_some_iff.1 hg).1
    have hml := hm.vl
    have c1 := mapped_ok hΓ0 x.sch okx (outerM name m.datas) (by rw [outerM_len]; exact hm.dl) smM
    have c2 := mapped_ok hΓ0 v.sch okv (outerM name s.datas) (by rw [outerM_len]; exact hs.dl) smS
    have pr : ∀ (l : List SMap) (hl : ∀ m ∈ l, smallTy m.ty ∧ posTy m.ty) (c : Sch), okSch c → smallTy (mapSch l c).ty ∧ (∀ p ∈ (mapSch l c).preds, smallTy p.ty) ∧ (mapSch l c).preds.length ≤ 1048576 := fun l hl c hc => by
      refine ⟨smallTy_subst l (fun m hm => (hl m hm).1) _ hc.2.1, fun p hp => ?_, by simpa [mapSch] using hc.1⟩
      simp [mapSch, mapPrds] at hp
      obtain ⟨q, hq, rfl⟩ := hp
      exact smallTy_subst l (fun m hm => (hl m hm).1) _ (hc.2.2 q hq)
    have px := pr _ smM _ okx
    have pv := pr _ smS _ okv
    have c3 := general_ok hΓ0 hΓF0 (mapSch (outerM name m.datas) x.sch) (mapSch (outerM name s.datas) v.sch) px.1 pv.1 px.2.1 pv.2.1 px.2.2 pv.2.2
    repeat first | (with_reducible refine oj ?_; refine AOps.auto tabOk rfl ?_) | (with_reducible first | refine o1 ?_ | refine o2 ?_ | refine o3 ?_ | refine o4 ?_ | refine o5 ?_ | refine o6 ?_ | refine o7 ?_ | refine o8 ?_ | refine o9 ?_ | refine oa ?_ | refine ob ?_ | refine oc ?_ | refine od ?_ | refine oe ?_ | refine og ?_ | refine oh ?_ | refine oi ?_) | (with_reducible refine cExitMiss ?_ ?_; rfl) | (with_reducible refine ok ?_; first | refine ACode.condT rfl ?_ | refine ACode.condF rfl ?_)
    refine ACode.drawX tabOk 13 [(3, .one (.box (cVal x))), (7, .agg (cSch (mapSch (outerM name m.datas) x.sch))), (11, .agg (cSch (mapSch (outerM name s.datas) v.sch))), (12, .one (.lit (.bool (genB (mapSch (outerM name m.datas) x.sch) (mapSch (outerM name s.datas) v.sch)))))] follows (by kernel_rfl) rfl rfl rfl rfl ?_ ?_
    · refine .step rfl (HStep.plain rfl (AStep.indexAddr tabOk rfl rfl rfl rfl rfl rfl (.inl rfl) rfl (by omega) (map_get hg))) ?_
      refine .call hΓ0 c1 hou (by simp) rfl rfl rfl rfl rfl rfl ?_
      refine .call hΓ0 c2 hou (by simp) rfl rfl rfl rfl rfl rfl ?_
      exact .call hΓ0 c3 hou (by simp) rfl rfl rfl rfl rfl rfl .nil
    repeat first | (with_reducible refine oj ?_; refine AOps.auto tabOk rfl ?_) | (with_reducible first | refine o1 ?_ | refine o2 ?_ | refine o3 ?_ | refine o4 ?_ | refine o5 ?_ | refine o6 ?_ | refine o7 ?_ | refine o8 ?_ | refine o9 ?_ | refine oa ?_ | refine ob ?_ | refine oc ?_ | refine od ?_ | refine oe ?_ | refine og ?_ | refine oh ?_ | refine oi ?_) | (with_reducible refine cExitMiss ?_ ?_; rfl) | (with_reducible refine ok ?_; first | refine ACode.condT rfl ?_ | refine ACode.condF rfl ?_)
    refine ACode.cond rfl (fun hb4 => ?_) (fun hb4 => ?_)
    · have hgn : genB (mapSch (outerM name m.datas) x.sch) (mapSch (outerM name s.datas) v.sch) = false := by simpa using hb4
      have he := stop 10 (by simp [valErr, hn2, hgn]) (by decide)
      repeat first | (with_reducible refine oj ?_; refine AOps.auto tabOk rfl ?_) | (with_reducible first | refine o1 ?_ | refine o2 ?_ | refine o3 ?_ | refine o4 ?_ | refine o5 ?_ | refine o6 ?_ | refine o7 ?_ | refine o8 ?_ | refine o9 ?_ | refine oa ?_ | refine ob ?_ | refine oc ?_ | refine od ?_ | refine oe ?_ | refine og ?_ | refine oh ?_ | refine oi ?_) | (with_reducible refine cExitMiss ?_ ?_; rfl) | (with_reducible refine ok ?_; first | refine ACode.condT rfl ?_ | refine ACode.condF rfl ?_)
      refine APure.fin rfl (WkF.tup (.cons (.one (.trans (.nilS 5) (.ofEq ?_))) (.cons (.ofEq ?_) .nil))) (by simp; split <;> simp) hou rfl
      · rw [he]; simp
      · rw [he]
    · have hgy : genB (mapSch (outerM name m.datas) x.sch) (mapSch (outerM name s.datas) v.sch) = true := by simpa using hb4
      have he : valErr m s name v = 0 := by simp [valErr, hn2, hgy]
      repeat first | (with_reducible refine oj ?_; refine AOps.auto tabOk rfl ?_) | (with_reducible first | refine o1 ?_ | refine o2 ?_ | refine o3 ?_ | refine o4 ?_ | refine o5 ?_ | refine o6 ?_ | refine o7 ?_ | refine o8 ?_ | refine o9 ?_ | refine oa ?_ | refine ob ?_ | refine oc ?_ | refine od ?_ | refine oe ?_ | refine og ?_ | refine oh ?_ | refine oi ?_) | (with_reducible refine cExitMiss ?_ ?_; rfl) | (with_reducible refine ok ?_; first | refine ACode.condT rfl ?_ | refine ACode.condF rfl ?_)
      refine AOps.step1 rfl rfl rfl (AStep.arith rfl rfl rfl (.inl ⟨rfl, rfl⟩) (inRange_i64 (by omega) (by omega))) ?_
      repeat first | (with_reducible refine oj ?_; refine AOps.auto tabOk rfl ?_) | (with_reducible first | refine o1 ?_ | refine o2 ?_ | refine o3 ?_ | refine o4 ?_ | refine o5 ?_ | refine o6 ?_ | refine o7 ?_ | refine o8 ?_ | refine o9 ?_ | refine oa ?_ | refine ob ?_ | refine oc ?_ | refine od ?_ | refine oe ?_ | refine og ?_ | refine oh ?_ | refine oi ?_) | (with_reducible refine cExitMiss ?_ ?_; rfl) | (with_reducible refine ok ?_; first | refine ACode.condT rfl ?_ | refine ACode.condF rfl ?_)
      exact cInv ⟨s.vals.length - (j + 1), j + 1, id, by omega, ⟨by omega, take_all hno hv he, rfl⟩, LessR.of rfl (by (repeat' first | exact FrSub.nil | refine FrSub.cons rfl (.ofEq rfl) ?_ | refine FrSub.consP rfl (.ofEq rfl) (by simp) ?_)) (by simp) (by repeat' first | exact LoSub.nil | refine LoSub.cons rfl ?_ rfl (by simp) ?_ | rfl | (refine (AObj.ren_pure _ _ ?_).symm; simp; done) | (simp [AObj.ren, renL, AC.ren, cTy]; done) | (simp [AObj.ren, renL, AC.ren, cTy]; rfl)) rfl rfl hou⟩
  · have hlt : j = s.vals.length := by simp at hb2; omega
    subst hlt
    rw [List.take_length] at hno
    have hfe := firstErr_all hno
    repeat first | (with_reducible refine oj ?_; refine AOps.auto tabOk rfl ?_) | (with_reducible first | refine o1 ?_ | refine o2 ?_ | refine o3 ?_ | refine o4 ?_ | refine o5 ?_ | refine o6 ?_ | refine o7 ?_ | refine o8 ?_ | refine o9 ?_ | refine oa ?_ | refine ob ?_ | refine oc ?_ | refine od ?_ | refine oe ?_ | refine og ?_ | refine oh ?_ | refine oi ?_) | (with_reducible refine cExitMiss ?_ ?_; rfl) | (with_reducible refine ok ?_; first | refine ACode.condT rfl ?_ | refine ACode.condF rfl ?_)
    refine APure.fin rfl (WkF.tup (.cons (.ofEq ?_) (.cons (.ofEq ?_) .nil))) (by simp; split <;> simp) hou rfl
    · rw [hme, hfe]; simp
    · rw [hme, hfe]
end Go.Proofs.YtoojdmgbffnmiaaDoor
/- signatureFact: it is true. -/
namespace Go.Proofs.YtoojdmgbffnmiaaDoor
open Go Go.Abs
set_option maxRecDepth 10000
set_option linter.unusedVariables false
set_option linter.unusedSimpArgs false
variable {Γ : List (Nat × List AC)}
def factD : DSig := ⟨nmT, 0, []⟩
def factS : Spec := ⟨[factD], []⟩
theorem fact_chk : chkErr cutN factS = 0 := by
  have h1 : datErr cutN factD = 0 := by simp [datErr, factD, cut_t, firstErr]
  have h2 : datAt cutN factS.datas 0 = 0 := by
    show (if datErr cutN factD ≠ 0 then datErr cutN factD else if ordBad DSig.name factS.datas 0 = true then 7 else 0) = 0
    rw [h1]; rfl
  have h3 : firstErr (datAt cutN factS.datas) (List.range factS.datas.length) = 0 := by
    show firstErr _ [0] = 0
    simp only [firstErr, h2]; rfl
  unfold chkErr
  rw [if_neg (by simp [factS]), h3, if_neg (by simp)]
  rfl
theorem fact_match : matchErr factS factS nmM = 0 := by
  have h : typeErr factS.datas factD = 0 := by
    simp [typeErr, factS, factD, findBy, cmpStr_self]
  unfold matchErr
  rw [fact_chk]
  have h2 : firstErr (typeErr factS.datas) factS.datas = 0 := by
    show firstErr _ [factD] = 0
    simp only [firstErr, h]; rfl
  rw [if_neg (by simp), if_neg (by simp), cut_M, if_neg (by simp), h2, if_neg (by simp)]
  rfl
theorem fact_ok : okSpec factS where
  dl := by simp [factS]
  vl := by simp [factS]
  d := by
    intro d hd
    simp [factS] at hd; subst hd
    exact ⟨by decide, by decide, by simp [factD]⟩
  v := by simp [factS]
  all := by show ([] : List Ty).length ≤ _; simp
  sm := by show ∀ t ∈ ([] : List Ty), _; simp
theorem fact_sz : SzS factS where
  d := by
    intro d hd
    simp [factS] at hd; subst hd; decide
  c := by
    intro d hd
    simp [factS] at hd; subst hd; simp [factD]
  v := by simp [factS]
  p := by simp [factS]
theorem front_name : nmM ++ dot ++ nmT = (⟨#[77, 46, 116]⟩ : Str) := by decide
theorem fact_true : APure Tryd.prog Γ0 14 [] (.one (.lit (.bool true))) := by
  intro ou
  refine AFn.walk 35 tabOk Tryd.func14 rfl (by kernel_rfl) rfl rfl fun hou => ?_
  repeat first | (with_reducible refine oj ?_; refine AOps.auto tabOk rfl ?_) | (with_reducible first | refine o1 ?_ | refine o2 ?_ | refine o3 ?_ | refine o4 ?_ | refine o5 ?_ | refine o6 ?_ | refine o7 ?_ | refine o8 ?_ | refine o9 ?_ | refine oa ?_ | refine ob ?_ | refine oc ?_ | refine od ?_ | refine oe ?_ | refine og ?_ | refine oh ?_ | refine oi ?_) | (with_reducible refine cExitMiss ?_ ?_; rfl) | (with_reducible refine ok ?_; first | refine ACode.condT rfl ?_ | refine ACode.condF rfl ?_)
  refine AOps.wk 8 (y := .agg (cSpec factS)) rfl (WkF.agg' (.cons (.sl (.cons (.cons (.refl _) (.cons (.refl _) (.cons (.nilS _) .nil))) .nil)) (.cons (.nilS _) .nil))) ?_
  refine AOps.wk 9 (y := .agg (cSpec factS)) rfl (WkF.agg' (.cons (.sl (.cons (.cons (.refl _) (.cons (.refl _) (.cons (.nilS _) .nil))) .nil)) (.cons (.nilS _) .nil))) ?_
  have hc := Match_ok factS factS nmM fact_ok fact_ok fact_sz fact_sz (by decide)
  rw [fact_match] at hc
  refine AOps.callC hΓ0 hc rfl rfl rfl rfl rfl rfl rfl hou (by simp) ?_
  simp only [if_true]
  repeat first | (with_reducible refine oj ?_; refine AOps.auto tabOk rfl ?_) | (with_reducible first | refine o1 ?_ | refine o2 ?_ | refine o3 ?_ | refine o4 ?_ | refine o5 ?_ | refine o6 ?_ | refine o7 ?_ | refine o8 ?_ | refine o9 ?_ | refine oa ?_ | refine ob ?_ | refine oc ?_ | refine od ?_ | refine oe ?_ | refine og ?_ | refine oh ?_ | refine oi ?_) | (with_reducible refine cExitMiss ?_ ?_; rfl) | (with_reducible refine ok ?_; first | refine ACode.condT rfl ?_ | refine ACode.condF rfl ?_)
  refine AOps.unG rfl rfl rfl ?_
  refine AOps.step1 rfl rfl rfl (AStep.indexAddr tabOk rfl rfl rfl rfl rfl rfl (.inl rfl) rfl (by omega) (map_get (x := front nmM factD) rfl)) ?_
  repeat first | (with_reducible refine oj ?_; refine AOps.auto tabOk rfl ?_) | (with_reducible first | refine o1 ?_ | refine o2 ?_ | refine o3 ?_ | refine o4 ?_ | refine o5 ?_ | refine o6 ?_ | refine o7 ?_ | refine o8 ?_ | refine o9 ?_ | refine oa ?_ | refine ob ?_ | refine oc ?_ | refine od ?_ | refine oe ?_ | refine og ?_ | refine oh ?_ | refine oi ?_) | (with_reducible refine cExitMiss ?_ ?_; rfl) | (with_reducible refine ok ?_; first | refine ACode.condT rfl ?_ | refine ACode.condF rfl ?_)
  have e1 : (nmT.toList == (⟨#[116]⟩ : Str).toList) = true := str_eq.2 rfl
  have e2 : ((nmM ++ dot ++ nmT).toList == (⟨#[77, 46, 116]⟩ : Str).toList) = true := str_eq.2 front_name
  refine AOps.splitG rfl rfl rfl (fun hv => ?_) (fun hv => ?_)
  · repeat first | (with_reducible refine oj ?_; refine AOps.auto tabOk rfl ?_) | (with_reducible first | refine o1 ?_ | refine o2 ?_ | refine o3 ?_ | refine o4 ?_ | refine o5 ?_ | refine o6 ?_ | refine o7 ?_ | refine o8 ?_ | refine o9 ?_ | refine oa ?_ | refine ob ?_ | refine oc ?_ | refine od ?_ | refine oe ?_ | refine og ?_ | refine oh ?_ | refine oi ?_) | (with_reducible refine cExitMiss ?_ ?_; rfl) | (with_reducible refine ok ?_; first | refine ACode.condT rfl ?_ | refine ACode.condF rfl ?_)
    refine AOps.unG rfl rfl rfl ?_
    refine AOps.step1 rfl rfl rfl (AStep.indexAddr tabOk rfl rfl rfl rfl rfl rfl (.inl rfl) rfl (by omega) (map_get (x := front nmM factD) rfl)) ?_
    repeat first | (with_reducible refine oj ?_; refine AOps.auto tabOk rfl ?_) | (with_reducible first | refine o1 ?_ | refine o2 ?_ | refine o3 ?_ | refine o4 ?_ | refine o5 ?_ | refine o6 ?_ | refine o7 ?_ | refine o8 ?_ | refine o9 ?_ | refine oa ?_ | refine ob ?_ | refine oc ?_ | refine od ?_ | refine oe ?_ | refine og ?_ | refine oh ?_ | refine oi ?_) | (with_reducible refine cExitMiss ?_ ?_; rfl) | (with_reducible refine ok ?_; first | refine ACode.condT rfl ?_ | refine ACode.condF rfl ?_)
    exact APure.fin rfl (WkF.ofEq (by rw [← e2]; rfl)) (by simp) hou rfl
  · rw [show ((front nmM factD).name.toList == (⟨#[116]⟩ : Str).toList) = true from e1] at hv
    cases hv
end Go.Proofs.YtoojdmgbffnmiaaDoor
/- SignatureSubst: the law, and its walk. -/
namespace Go.Proofs.YtoojdmgbffnmiaaDoor
open Go Go.Abs
set_option maxRecDepth 10000
set_option linter.unusedVariables false
set_option linter.unusedSimpArgs false
def nmNone : Str := ⟨#[110, 111, 110, 101]⟩
def nmNew : Str := ⟨#[110, 101, 119, 32, 105, 110, 116]⟩
def nmInt : Str := ⟨#[105, 110, 116]⟩
def nmX : Str := ⟨#[120]⟩
def sub1 (n c : Str) : List SMap := [⟨n, .mk 1 c 0 []⟩]
theorem sub1_hit (n c : Str) (v : Int) (us : List Ty) : substTy (sub1 n c) (.mk 1 n v us) = .mk 1 c 0 [] := by
  have : (n.toList == n.toList) = true := by simp
  simp [substTy, findMap, sub1, fillTy, fillTys]
theorem sub1_miss {n c m : Str} (k v : Int) (us : List Ty) (h : ¬ (k = 1 ∧ n = m)) : substTy (sub1 n c) (.mk k m v us) = .mk k m v (substTys (sub1 n c) us) := by
  simp only [substTy]
  split
  · rename_i hk
    have hne : (n.toList == m.toList) = false := by
      cases hb : (n.toList == m.toList) with
      | false => rfl
      | true => exact absurd ⟨hk, str_eq.1 hb⟩ h
    simp [findMap, sub1, hne]
  · rfl
def twoD : List DSig := [⟨nmNone, 0, []⟩, ⟨nmNew, 0, []⟩]
theorem ment_not {k v : Int} {n : Str} {us : List Ty} (h : ment twoD (.mk k n v us) = false) : ¬ (k = 1 ∧ nmNone = n) ∧ ¬ (k = 1 ∧ nmNew = n) ∧ ments twoD us = false := by
  simp only [ment, Bool.or_eq_false_iff, Bool.and_eq_false_iff] at h
  refine ⟨fun ⟨h1, h2⟩ => ?_, fun ⟨h1, h2⟩ => ?_, h.2⟩
  · rcases h.1 with h3 | h3
    · simp [h1] at h3
    · subst h2; simp [twoD] at h3
  · rcases h.1 with h3 | h3
    · simp [h1] at h3
    · subst h2; simp [twoD] at h3
mutual
theorem subst_same (c : Str) : ∀ t : Ty, ment twoD t = false → substTy (sub1 nmNone c) t = t
  | .mk k n v us, h => by
    obtain ⟨h1, _, h3⟩ := ment_not h
    rw [sub1_miss k v us h1, substs_same c us h3]
theorem substs_same (c : Str) : ∀ ts : List Ty, ments twoD ts = false → substTys (sub1 nmNone c) ts = ts
  | [], _ => rfl
  | t :: ts, h => by
    simp only [ments, Bool.or_eq_false_iff] at h
    simp only [substTys, subst_same c t h.1, substs_same c ts h.2]
end
mutual
theorem subst_back : ∀ t : Ty, ment twoD t = false → substTy (sub1 nmNew nmInt) (substTy (sub1 nmInt nmNew) t) = substTy (sub1 nmInt nmInt) t
  | .mk k n v us, h => by
    obtain ⟨_, h2, h3⟩ := ment_not h
    by_cases hk : k = 1 ∧ nmInt = n
    · obtain ⟨rfl, rfl⟩ := hk
      rw [sub1_hit, sub1_hit, sub1_hit]
    · rw [sub1_miss k v us hk, sub1_miss k v us hk, sub1_miss k v _ h2, substs_back us h3]
theorem substs_back : ∀ ts : List Ty, ments twoD ts = false → substTys (sub1 nmNew nmInt) (substTys (sub1 nmInt nmNew) ts) = substTys (sub1 nmInt nmInt) ts
  | [], _ => rfl
  | t :: ts, h => by
    simp only [ments, Bool.or_eq_false_iff] at h
    simp only [substTys, subst_back t h.1, substs_back ts h.2]
end
mutual
theorem sub1_w (n c : Str) (hc : c.size ≤ 100) : ∀ t : Ty, wTy (substTy (sub1 n c) t) ≤ 2 * wTy t ∧ (rngTy t → rngTy (substTy (sub1 n c) t))
  | .mk k m v us => by
    have ih := subs1_w n c hc us
    by_cases hk : k = 1 ∧ n = m
    · obtain ⟨rfl, rfl⟩ := hk
      rw [sub1_hit]
      refine ⟨by simp only [wTy, wTys]; omega, fun _ => ?_⟩
      simp [rngTy, rngTys]
    · rw [sub1_miss k v us hk]
      refine ⟨by simp only [wTy]; omega, fun h => ?_⟩
      simp only [rngTy] at h ⊢
      exact ⟨h.1, h.2.1, ih.2 h.2.2⟩
theorem subs1_w (n c : Str) (hc : c.size ≤ 100) : ∀ ts : List Ty, wTys (substTys (sub1 n c) ts) ≤ 2 * wTys ts ∧ (rngTys ts → rngTys (substTys (sub1 n c) ts))
  | [] => by simp [substTys, wTys]
  | t :: ts => by
    have h1 := sub1_w n c hc t
    have h2 := subs1_w n c hc ts
    simp only [substTys, wTys, rngTys]
    exact ⟨by omega, fun h => ⟨h1.2 h.1, h2.2 h.2⟩⟩
end
theorem sub1_small (n c : Str) : ∀ m ∈ sub1 n c, smallTy m.ty ∧ posTy m.ty := by
  intro m hm
  simp [sub1] at hm; subst hm
  exact ⟨⟨by simp, trivial⟩, ⟨fun h => absurd (show (1 : Int) = 0 from h) (by decide), trivial⟩⟩
theorem Subst1_ok (n c : Str) (t : Ty) (ht : smallTy t) : APure Tryd.prog Γ0 18 [.agg (cTy t), .one (.sl 5 ((sub1 n c).map cMap))] (.agg (cTy (substTy (sub1 n c) t))) :=
  Subst_ok hΓ0 (sub1 n c) (by simp [sub1]) (sub1_small n c) t ht
theorem SignatureSubst_ok (t : Ty) (ht : smallTy t) (hr : rngTy t) (hw : wTy t ≤ 274877906944) : APure Tryd.prog Γ0 5 [.agg (cTy t)] (.one (.lit (.bool true))) := by
  intro ou
  refine AFn.walk 47 tabOk Tryd.func5 rfl (by kernel_rfl) rfl rfl fun hou => ?_
  repeat first | (with_reducible refine oj ?_; refine AOps.auto tabOk rfl ?_) | (with_reducible first | refine o1 ?_ | refine o2 ?_ | refine o3 ?_ | refine o4 ?_ | refine o5 ?_ | refine o6 ?_ | refine o7 ?_ | refine o8 ?_ | refine o9 ?_ | refine oa ?_ | refine ob ?_ | refine oc ?_ | refine od ?_ | refine oe ?_ | refine og ?_ | refine oh ?_ | refine oi ?_) | (with_reducible refine cExitMiss ?_ ?_; rfl) | (with_reducible refine ok ?_; first | refine ACode.condT rfl ?_ | refine ACode.condF rfl ?_)
  refine AOps.callC hΓ0 fact_true rfl rfl rfl rfl rfl rfl rfl hou (by simp) ?_
  repeat first | (with_reducible refine oj ?_; refine AOps.auto tabOk rfl ?_) | (with_reducible first | refine o1 ?_ | refine o2 ?_ | refine o3 ?_ | refine o4 ?_ | refine o5 ?_ | refine o6 ?_ | refine o7 ?_ | refine o8 ?_ | refine o9 ?_ | refine oa ?_ | refine ob ?_ | refine oc ?_ | refine od ?_ | refine oe ?_ | refine og ?_ | refine oh ?_ | refine oi ?_) | (with_reducible refine cExitMiss ?_ ?_; rfl) | (with_reducible refine ok ?_; first | refine ACode.condT rfl ?_ | refine ACode.condF rfl ?_)
  refine AOps.wk 13 (y := .one (.sl 3 (twoD.map cData))) rfl (.one (.sl (.cons (.cons (.refl _) (.cons (.refl _) (.cons (.nilS _) .nil))) (.cons (.cons (.refl _) (.cons (.refl _) (.cons (.nilS _) .nil))) .nil)))) ?_
  refine AOps.callC hΓ0 (mentions_ok twoD (by simp [twoD]) t ht) rfl rfl rfl rfl rfl rfl rfl hou (by simp) ?_
  repeat first | (with_reducible refine oj ?_; refine AOps.auto tabOk rfl ?_) | (with_reducible first | refine o1 ?_ | refine o2 ?_ | refine o3 ?_ | refine o4 ?_ | refine o5 ?_ | refine o6 ?_ | refine o7 ?_ | refine o8 ?_ | refine o9 ?_ | refine oa ?_ | refine ob ?_ | refine oc ?_ | refine od ?_ | refine oe ?_ | refine og ?_ | refine oh ?_ | refine oi ?_) | (with_reducible refine cExitMiss ?_ ?_; rfl) | (with_reducible refine ok ?_; first | refine ACode.condT rfl ?_ | refine ACode.condF rfl ?_)
  refine ACode.cond rfl (fun hb => ?_) (fun hb => ?_)
  · repeat first | (with_reducible refine oj ?_; refine AOps.auto tabOk rfl ?_) | (with_reducible first | refine o1 ?_ | refine o2 ?_ | refine o3 ?_ | refine o4 ?_ | refine o5 ?_ | refine o6 ?_ | refine o7 ?_ | refine o8 ?_ | refine o9 ?_ | refine oa ?_ | refine ob ?_ | refine oc ?_ | refine od ?_ | refine oe ?_ | refine og ?_ | refine oh ?_ | refine oi ?_) | (with_reducible refine cExitMiss ?_ ?_; rfl) | (with_reducible refine ok ?_; first | refine ACode.condT rfl ?_ | refine ACode.condF rfl ?_)
    exact APure.fin rfl (WkF.ofEq rfl) (by simp) hou rfl
  have hss := fun (n c : Str) => smallTy_subst (sub1 n c) (fun m hm => (sub1_small n c m hm).1) t ht
  repeat first | (with_reducible refine oj ?_; refine AOps.auto tabOk rfl ?_) | (with_reducible first | refine o1 ?_ | refine o2 ?_ | refine o3 ?_ | refine o4 ?_ | refine o5 ?_ | refine o6 ?_ | refine o7 ?_ | refine o8 ?_ | refine o9 ?_ | refine oa ?_ | refine ob ?_ | refine oc ?_ | refine od ?_ | refine oe ?_ | refine og ?_ | refine oh ?_ | refine oi ?_) | (with_reducible refine cExitMiss ?_ ?_; rfl) | (with_reducible refine ok ?_; first | refine ACode.condT rfl ?_ | refine ACode.condF rfl ?_)
  refine ACode.drawXA tabOk 7 6 [(2, .agg (cTy (.mk 1 nmX 0 []))), (5, .agg (cTy (substTy (sub1 nmNone nmX) t)))] follows (by kernel_rfl) rfl rfl rfl rfl rfl rfl rfl rfl rfl ?_ ?_ ?_
  · refine .call hΓ0 (con_ok nmX) hou (by simp) rfl rfl rfl rfl rfl rfl ?_
    exact .call hΓ0 (Subst1_ok nmNone nmX t ht) hou (by simp) rfl rfl rfl rfl rfl rfl .nil
  · refine .call hΓ0 (con_ok nmX) hou (by simp) rfl rfl rfl rfl rfl rfl ?_
    exact .call hΓ0 (Subst1_ok nmNone nmX t ht) hou (by simp) rfl rfl rfl rfl rfl rfl .nil
  repeat first | (with_reducible refine oj ?_; refine AOps.auto tabOk rfl ?_) | (with_reducible first | refine o1 ?_ | refine o2 ?_ | refine o3 ?_ | refine o4 ?_ | refine o5 ?_ | refine o6 ?_ | refine o7 ?_ | refine o8 ?_ | refine o9 ?_ | refine oa ?_ | refine ob ?_ | refine oc ?_ | refine od ?_ | refine oe ?_ | refine og ?_ | refine oh ?_ | refine oi ?_) | (with_reducible refine cExitMiss ?_ ?_; rfl) | (with_reducible refine ok ?_; first | refine ACode.condT rfl ?_ | refine ACode.condF rfl ?_)
  refine ACode.drawXA tabOk 7 6 [(2, .agg (cTy (.mk 1 nmNew 0 []))), (5, .agg (cTy (substTy (sub1 nmInt nmNew) t)))] follows (by kernel_rfl) rfl rfl rfl rfl rfl rfl rfl rfl rfl ?_ ?_ ?_
  · refine .call hΓ0 (con_ok nmNew) hou (by simp) rfl rfl rfl rfl rfl rfl ?_
    exact .call hΓ0 (Subst1_ok nmInt nmNew t ht) hou (by simp) rfl rfl rfl rfl rfl rfl .nil
  · refine .call hΓ0 (con_ok nmNew) hou (by simp) rfl rfl rfl rfl rfl rfl ?_
    exact .call hΓ0 (Subst1_ok nmInt nmNew t ht) hou (by simp) rfl rfl rfl rfl rfl rfl .nil
  repeat first | (with_reducible refine oj ?_; refine AOps.auto tabOk rfl ?_) | (with_reducible first | refine o1 ?_ | refine o2 ?_ | refine o3 ?_ | refine o4 ?_ | refine o5 ?_ | refine o6 ?_ | refine o7 ?_ | refine o8 ?_ | refine o9 ?_ | refine oa ?_ | refine ob ?_ | refine oc ?_ | refine od ?_ | refine oe ?_ | refine og ?_ | refine oh ?_ | refine oi ?_) | (with_reducible refine cExitMiss ?_ ?_; rfl) | (with_reducible refine ok ?_; first | refine ACode.condT rfl ?_ | refine ACode.condF rfl ?_)
  refine ACode.drawXA tabOk 7 6 [(2, .agg (cTy (.mk 1 nmInt 0 []))), (5, .agg (cTy (substTy (sub1 nmNew nmInt) (substTy (sub1 nmInt nmNew) t))))] follows (by kernel_rfl) rfl rfl rfl rfl rfl rfl rfl rfl rfl ?_ ?_ ?_
  · refine .call hΓ0 (con_ok nmInt) hou (by simp) rfl rfl rfl rfl rfl rfl ?_
    exact .call hΓ0 (Subst1_ok nmNew nmInt (substTy (sub1 nmInt nmNew) t) (hss nmInt nmNew)) hou (by simp) rfl rfl rfl rfl rfl rfl .nil
  · refine .call hΓ0 (con_ok nmInt) hou (by simp) rfl rfl rfl rfl rfl rfl ?_
    exact .call hΓ0 (Subst1_ok nmNew nmInt (substTy (sub1 nmInt nmNew) t) (hss nmInt nmNew)) hou (by simp) rfl rfl rfl rfl rfl rfl .nil
  repeat first | (with_reducible refine oj ?_; refine AOps.auto tabOk rfl ?_) | (with_reducible first | refine o1 ?_ | refine o2 ?_ | refine o3 ?_ | refine o4 ?_ | refine o5 ?_ | refine o6 ?_ | refine o7 ?_ | refine o8 ?_ | refine o9 ?_ | refine oa ?_ | refine ob ?_ | refine oc ?_ | refine od ?_ | refine oe ?_ | refine og ?_ | refine oh ?_ | refine oi ?_) | (with_reducible refine cExitMiss ?_ ?_; rfl) | (with_reducible refine ok ?_; first | refine ACode.condT rfl ?_ | refine ACode.condF rfl ?_)
  refine ACode.drawXA tabOk 7 6 [(2, .agg (cTy (.mk 1 nmInt 0 []))), (5, .agg (cTy (substTy (sub1 nmInt nmInt) t)))] follows (by kernel_rfl) rfl rfl rfl rfl rfl rfl rfl rfl rfl ?_ ?_ ?_
  · refine .call hΓ0 (con_ok nmInt) hou (by simp) rfl rfl rfl rfl rfl rfl ?_
    exact .call hΓ0 (Subst1_ok nmInt nmInt t ht) hou (by simp) rfl rfl rfl rfl rfl rfl .nil
  · refine .call hΓ0 (con_ok nmInt) hou (by simp) rfl rfl rfl rfl rfl rfl ?_
    exact .call hΓ0 (Subst1_ok nmInt nmInt t ht) hou (by simp) rfl rfl rfl rfl rfl rfl .nil
  repeat first | (with_reducible refine oj ?_; refine AOps.auto tabOk rfl ?_) | (with_reducible first | refine o1 ?_ | refine o2 ?_ | refine o3 ?_ | refine o4 ?_ | refine o5 ?_ | refine o6 ?_ | refine o7 ?_ | refine o8 ?_ | refine o9 ?_ | refine oa ?_ | refine ob ?_ | refine oc ?_ | refine od ?_ | refine oe ?_ | refine og ?_ | refine oh ?_ | refine oi ?_) | (with_reducible refine cExitMiss ?_ ?_; rfl) | (with_reducible refine ok ?_; first | refine ACode.condT rfl ?_ | refine ACode.condF rfl ?_)
  have e1 := subst_same nmX t hb
  have e2 := subst_back t hb
  have w1 := sub1_w nmInt nmInt (by decide) t
  have c1 := SameType_ok hΓ0 (substTy (sub1 nmNone nmX) t) t (by rw [e1]; exact ht) (by rw [e1]; exact hr) (by rw [e1]; omega) ht hr (by omega)
  have c2 := SameType_ok hΓ0 (substTy (sub1 nmNew nmInt) (substTy (sub1 nmInt nmNew) t)) (substTy (sub1 nmInt nmInt) t) (by rw [e2]; exact hss _ _) (by rw [e2]; exact w1.2 hr) (by rw [e2]; omega) (hss _ _) (w1.2 hr) (by omega)
  rw [show ((textTy (substTy (sub1 nmNone nmX) t)).toList == (textTy t).toList) = true by rw [e1]; simp] at c1
  rw [show ((textTy (substTy (sub1 nmNew nmInt) (substTy (sub1 nmInt nmNew) t))).toList == (textTy (substTy (sub1 nmInt nmInt) t)).toList) = true by rw [e2]; simp] at c2
  refine AOps.callC hΓ0 c1 rfl rfl rfl rfl rfl rfl rfl hou (by simp) ?_
  repeat first | (with_reducible refine oj ?_; refine AOps.auto tabOk rfl ?_) | (with_reducible first | refine o1 ?_ | refine o2 ?_ | refine o3 ?_ | refine o4 ?_ | refine o5 ?_ | refine o6 ?_ | refine o7 ?_ | refine o8 ?_ | refine o9 ?_ | refine oa ?_ | refine ob ?_ | refine oc ?_ | refine od ?_ | refine oe ?_ | refine og ?_ | refine oh ?_ | refine oi ?_) | (with_reducible refine cExitMiss ?_ ?_; rfl) | (with_reducible refine ok ?_; first | refine ACode.condT rfl ?_ | refine ACode.condF rfl ?_)
  refine AOps.callG hΓ0 c2 rfl rfl rfl rfl rfl rfl rfl rfl rfl hou (by simp) ?_
  repeat first | (with_reducible refine oj ?_; refine AOps.auto tabOk rfl ?_) | (with_reducible first | refine o1 ?_ | refine o2 ?_ | refine o3 ?_ | refine o4 ?_ | refine o5 ?_ | refine o6 ?_ | refine o7 ?_ | refine o8 ?_ | refine o9 ?_ | refine oa ?_ | refine ob ?_ | refine oc ?_ | refine od ?_ | refine oe ?_ | refine og ?_ | refine oh ?_ | refine oi ?_) | (with_reducible refine cExitMiss ?_ ?_; rfl) | (with_reducible refine ok ?_; first | refine ACode.condT rfl ?_ | refine ACode.condF rfl ?_)
  exact APure.fin rfl (WkF.ofEq rfl) (by simp) hou rfl
end Go.Proofs.YtoojdmgbffnmiaaDoor
/- The abstract layer, part Y: a row of a law out of a contract: it answers true, its arguments read as they did. No condition. -/
namespace Go.Abs
open Go.RowKit (Below)
open Go.ChangeShapes Go.WideShapes Go.ChangeAt Go.RowKit
set_option linter.unusedVariables false
section
variable {H : Type} {enc : TypeId × Value → H} {P : Program} {W W' : World}
theorem rf_agg {r : Reach} {t : TypeId} {fs : Array Field} {v : Value} {C : Ctx} {c : List AC} (ht : P.underlying t = some (.struct fs)) (h : Value.okWide P W r 0 t v) (hr : RV W C c v.cells.toList) : RF W C (.agg c) v := by
  obtain ⟨cs, rfl, _⟩ := okWide_struct ht h
  exact ⟨cs.toList, by simp, by simpa [Value.cells] using hr⟩
theorem rf_agg' {base : Nat} {r : Reach} {t : TypeId} {fs : Array Field} {v : Value} {C : Ctx} {c : List AC} (ht : P.underlying t = some (.struct fs)) (h : Value.okWide P W r base t v) (hr : RV W C c v.cells.toList) : RF W C (.agg c) v := by
  obtain ⟨cs, rfl, _⟩ := okWide_struct ht h
  exact ⟨cs.toList, by simp, by simpa [Value.cells] using hr⟩
theorem rf_int {base : Nat} {r : Reach} {t : TypeId} {k : IntKind} {v : Value} {C : Ctx} {c : AC} (ht : P.underlying t = some (.int k)) (h : Value.okWide P W r base t v) (hr : RV W C [c] v.cells.toList) : RF W C (.one c) v := by
  obtain ⟨n, rfl⟩ := okWide_int ht h
  obtain ⟨u, us, he, h1, h2⟩ := hr
  simp [Value.cells] at he
  obtain ⟨rfl, rfl⟩ := he
  exact h1
theorem trodAll_stays (hl : laidOutB P = true) {sp : Nat → Bool} : ∀ {ts : List TypeId} {vs : List Value} {ds : List (DataW H)} {ps : List MemPlace}, (∀ t ∈ ts, P.readableRec t = true ∧ t < P.types.size) →
    DataW.TrodAll enc P W 0 (fun _ => true) true ts vs ds ps → (∀ x ∈ ps, W.sameAt W' x) → (∀ x ∈ ps, sp x.block = true) → DataW.TrodAll enc P W' 0 sp true ts vs ds ps
  | [], [], [], ps, _, h, _, _ => h
  | t :: ts, v :: vs, d :: ds, ps, hr, h, hs, hb => by
    obtain ⟨p, q, h1, h2, rfl⟩ := h
    refine ⟨p, q, WideElems.Trod_stays hl (hr t (by simp)).1 (hr t (by simp)).2 h1 (fun x hx => hs x (List.mem_append_left _ hx)) (fun x hx => hb x (List.mem_append_left _ hx)), ?_, rfl⟩
    exact trodAll_stays hl (fun t ht => hr t (by simp [ht])) h2 (fun x hx => hs x (List.mem_append_right _ hx)) (fun x hx => hb x (List.mem_append_right _ hx))
  | [], _ :: _, _, _, _, h, _, _ => h.elim
  | [], [], _ :: _, _, _, h, _, _ => h.elim
  | _ :: _, [], _, _, _, h, _, _ => h.elim
  | _ :: _, _ :: _, [], _, _, h, _, _ => h.elim
theorem row_of_calls (hl : laidOutB P = true) {fn : Func} (hr : ∀ t ∈ fn.params.toList, P.readableRec t = true ∧ t < P.types.size) {s : ChangeSpec} (hv : s.vars = []) {tb : TypeId} (htb : P.underlying tb = some .bool) (hrt : fn.resultTypes = #[tb]) {g : Nat} {args : Array Value} {ds gs : List (DataW H)} {before : List MemPlace}
    (hW : DataW.Whole enc P fn.params.toList s.vars false W args.toList ds gs before) (hspec : s.fn H (ds ++ gs) = { results := [.lit (.bool true)], args := ds })
    (hc : Calls P g args W fun e w' => ∃ v C', e = .returned v ∧ RF w' C' (.one (.lit (.bool true))) v ∧ Below W.heap.size W w' ∧ ∀ a, w'.frozen? a = W.frozen? a) :
    Calls P g args W fun e W' => ∃ v, e = .returned v ∧ s.post enc P fn false true false false W args v W' := by
  refine hc.mono fun e W' ⟨v, C', he, hr', hb, hf⟩ => ?_
  simp only [RF, R] at hr'
  obtain rfl := hr'.1
  have hlt := hW.lt
  have hW0 := hW
  obtain ⟨p, q, hA, hV, rfl, hfz, hnd⟩ := hW0
  rw [hv] at hV
  obtain ⟨rfl, rfl⟩ := trodVars_none hV
  simp only [List.append_nil] at hW hspec hlt
  refine ⟨_, he, post_of_same (pa := p) (pv := []) (gs := []) hW ?_ ?_ ?_ (by simp) (hb.frame _) hf ?_⟩
  · intro b sp hd
    rw [List.append_nil, hspec, hrt]
    exact trodAll_cons_mk (shut_bool htb _) trodAll_mk0
  · intro sp hsp
    rw [List.append_nil, hspec]
    exact trodAll_stays hl hr hA (fun x hx => hb.same (hlt x hx)) hsp
  · intro sp hsp
    rw [List.append_nil, hspec, hv]
    rfl
  · exact ok_one hrt rfl (okWide_bool_mk htb _)
end
end Go.Abs
/- What a row's reading gives: types, schemes and specifications as plain data, and what the bound on their bulk gives. -/
namespace Go.Proofs.YtoojdmgbffnmiaaDoor
open Go Go.Abs
set_option maxRecDepth 10000
set_option linter.unusedVariables false
set_option linter.unusedSimpArgs false
theorem bulkAll_eq {H : Type} : ∀ l : List (DataW H), Rows.uptoBulkAll l = bulkAll Rows.uptoBulk l
  | [] => rfl
  | d :: l => by simp only [Rows.uptoBulkAll, bulkAll, List.map_cons, List.sum_cons] at *; rw [bulkAll_eq l]; rfl
theorem bulk_agg {H : Type} (l : List (DataW H)) : bulkAll Rows.uptoBulk l + 1 ≤ Rows.uptoBulk (.agg l) := by
  simp only [Rows.uptoBulk, bulkAll_eq]; omega
theorem bulk_slice {H : Type} (l r : List (DataW H)) : bulkAll Rows.uptoBulk l + 1 ≤ Rows.uptoBulk (.slice l r) := by
  simp only [Rows.uptoBulk, bulkAll_eq]; omega
theorem bulk_nil {H : Type} : 1 ≤ Rows.uptoBulk (DataW.nil : DataW H) := by simp [Rows.uptoBulk]
theorem bulk_str {H : Type} (l : List UInt8) : l.length + 1 ≤ Rows.uptoBulk (DataW.lit (.string l) : DataW H) := by simp [Rows.uptoBulk]
mutual
def bTy : Ty → Nat
  | .mk _ n _ us => n.size + bTys us + 3
def bTys : List Ty → Nat
  | [] => 0
  | t :: ts => bTy t + bTys ts
end
theorem bTys_eq : ∀ l : List Ty, bTys l = (l.map bTy).sum
  | [] => rfl
  | t :: ts => by simp only [bTys, List.map_cons, List.sum_cons, bTys_eq ts]
section
variable {H : Type} {enc : TypeId × Value → H} {w : World}
theorem cTy_mk (k : Int) (m : Str) (v : Int) (us : List Ty) : cTy (.mk k m v us) = [int k, str m, int v, .sl 4 (us.map cTy)] := by simp [cTy, encTys_eq]
abbrev RTy := {t : Ty // rngTy t}
theorem opens_slice {t e : TypeId} {s : Nat} (ht : Tryd.prog.underlying t = some (.slice e)) (hs : Tryd.prog.cellsOf e = s) (h0 : 0 < s) {α : Type} {c : α → List AC} {wt : α → Nat} (n : Nat) (he : ∀ m, m < n → Opens enc Tryd.prog w Rows.uptoBulk e m c wt) :
    Opens enc Tryd.prog w Rows.uptoBulk t n (fun l : List α => [.sl s (l.map c)]) (fun l => wtAll wt l + 1) := by
  cases n with
  | zero => exact Opens.zero
  | succ n => exact Opens.slice bulk_slice bulk_nil ht hs h0 (he n (by omega))
theorem opens_str (n : Nat) : Opens enc Tryd.prog w Rows.uptoBulk 9 n (fun s : Str => [str s]) (fun s => s.size + 1) := Opens.string bulk_str Tryd.underlying9
theorem opens_int (n : Nat) : Opens enc Tryd.prog w Rows.uptoBulk 3 n (fun i : {i : Int // IntKind.i64.min ≤ i ∧ i ≤ IntKind.i64.max} => [int i.1]) (fun _ => 0) := Opens.int Tryd.underlying3
theorem rngs_of (l : List RTy) : rngTys (l.map (·.1)) := rngTys_iff.2 fun t ht => by
  obtain ⟨x, _, rfl⟩ := List.mem_map.1 ht
  exact x.2
theorem i64_rng {i : Int} (h : IntKind.i64.min ≤ i ∧ i ≤ IntKind.i64.max) : -9223372036854775808 ≤ i ∧ i ≤ 9223372036854775807 := by
  simpa [IntKind.min, IntKind.max, IntKind.signed, IntKind.bits] using h
theorem opensTy : ∀ n, Opens enc Tryd.prog w Rows.uptoBulk 36 n (fun t : RTy => cTy t.1) (fun t => bTy t.1) := by
  intro n
  induction n using Nat.strongRecOn with
  | _ n ih =>
    cases n with
    | zero => exact Opens.zero
    | succ n =>
      have ha := opens_slice (enc := enc) (w := w) (t := 34) Tryd.underlying34 (s := 4) (by kernel_rfl) (by omega) n (fun m hm => ih m (by omega))
      refine Opens.as (Opens.struct bulk_agg Tryd.underlying36 (.cons rfl (by kernel_rfl) (opens_int n) (fun _ => rfl) (.cons rfl (by kernel_rfl) (opens_str n) (fun _ => rfl) (.cons rfl (by kernel_rfl) (opens_int n) (fun _ => rfl) (.cons rfl (by kernel_rfl) ha (fun _ => rfl) (.nil _))))) (fun _ => (show (4 : Nat) = _ by kernel_rfl))) ?_
      rintro ⟨k, m, v, l, _⟩
      refine ⟨⟨.mk k.1 m v.1 (l.map (·.1)), i64_rng k.2, i64_rng v.2, rngs_of l⟩, ?_, ?_⟩
      · show cTy _ = _
        rw [cTy_mk, List.map_map]
        rfl
      · show bTy _ ≤ _
        simp only [bTy, bTys_eq, wtAll, List.map_map]
        show m.size + _ + 3 ≤ 0 + (m.size + 1 + (0 + (_ + 1 + 0))) + 1
        have : (List.map (bTy ∘ fun x : RTy => x.1) l).sum = (List.map (fun t : RTy => bTy t.1) l).sum := rfl
        omega
theorem opensTys (n : Nat) : Opens enc Tryd.prog w Rows.uptoBulk 34 n (fun l : {l : List Ty // rngTys l} => [.sl 4 (encTys l.1)]) (fun l => bTys l.1 + 1) := by
  refine Opens.as (opens_slice Tryd.underlying34 (s := 4) (by kernel_rfl) (by omega) n (fun m hm => opensTy m)) fun l => ⟨⟨l.map (·.1), rngs_of l⟩, ?_, ?_⟩
  · simp only [encTys_eq, List.map_map]; rfl
  · simp only [bTys_eq, wtAll, List.map_map]; exact Nat.le_refl _
def bPrd (p : Prd) : Nat := p.cls.size + bTy p.ty + 2
def bPrds (l : List Prd) : Nat := (l.map bPrd).sum
def bSch (s : Sch) : Nat := bPrds s.preds + bTy s.ty + 2
def bVal (v : VSig) : Nat := v.name.size + bSch v.sch + 2
def bVals (l : List VSig) : Nat := (l.map bVal).sum
def bCon (c : CSig) : Nat := c.name.size + bTys c.args + 3
def bCons (l : List CSig) : Nat := (l.map bCon).sum
def bDat (d : DSig) : Nat := d.name.size + bCons d.cons + 3
def bDats (l : List DSig) : Nat := (l.map bDat).sum
def bSpec (s : Spec) : Nat := bDats s.datas + bVals s.vals + 3
def rngSch (s : Sch) : Prop := rngTy s.ty ∧ ∀ p ∈ s.preds, rngTy p.ty
structure rngSpec (s : Spec) : Prop where
  d : ∀ d ∈ s.datas, ∀ c ∈ d.cons, rngTys c.args
  v : ∀ v ∈ s.vals, rngSch v.sch
theorem opensPrd (n : Nat) : Opens enc Tryd.prog w Rows.uptoBulk 56 n (fun p : {p : Prd // rngTy p.ty} => cPrd p.1) (fun p => bPrd p.1) := by
  cases n with
  | zero => exact Opens.zero
  | succ n =>
    refine Opens.as (Opens.struct bulk_agg Tryd.underlying56 (.cons rfl (by kernel_rfl) (opens_str n) (fun _ => rfl) (.cons (s := 4) rfl (by kernel_rfl) (opensTy n) (fun _ => rfl) (.nil _))) (fun _ => (show (5 : Nat) = _ by kernel_rfl))) ?_
    rintro ⟨c, t, _⟩
    exact ⟨⟨⟨c, t.1⟩, t.2⟩, by simp [cPrd], by show c.size + bTy t.1 + 2 ≤ c.size + 1 + (bTy t.1 + 0) + 1; omega⟩
theorem opensSch (n : Nat) : Opens enc Tryd.prog w Rows.uptoBulk 49 n (fun s : {s : Sch // rngSch s} => cSch s.1) (fun s => bSch s.1) := by
  cases n with
  | zero => exact Opens.zero
  | succ n =>
    have hp := opens_slice (enc := enc) (w := w) (t := 47) Tryd.underlying47 (s := 5) (by kernel_rfl) (by omega) n (fun m _ => opensPrd m)
    refine Opens.as (Opens.struct bulk_agg Tryd.underlying49 (.cons rfl (by kernel_rfl) (opens_int n) (fun _ => rfl) (.cons rfl (by kernel_rfl) hp (fun _ => rfl) (.cons (s := 4) rfl (by kernel_rfl) (opensTy n) (fun _ => rfl) (.nil _)))) (fun _ => (show (6 : Nat) = _ by kernel_rfl))) ?_
    rintro ⟨i, l, t, _⟩
    refine ⟨⟨⟨i.1, l.map (·.1), t.1⟩, t.2, fun p hp => ?_⟩, ?_, ?_⟩
    · obtain ⟨x, _, rfl⟩ := List.mem_map.1 hp
      exact x.2
    · show cSch _ = _
      simp only [cSch, List.map_map]
      simp
    · show bSch _ ≤ _
      simp only [bSch, bPrds, wtAll, List.map_map]
      show (List.map (fun p : {p : Prd // rngTy p.ty} => bPrd p.1) l).sum + bTy t.1 + 2 ≤ 0 + ((List.map (fun p : {p : Prd // rngTy p.ty} => bPrd p.1) l).sum + 1 + (bTy t.1 + 0)) + 1
      omega
theorem opensVal (n : Nat) : Opens enc Tryd.prog w Rows.uptoBulk 61 n (fun v : {v : VSig // rngSch v.sch} => cVal v.1) (fun v => bVal v.1) := by
  cases n with
  | zero => exact Opens.zero
  | succ n =>
    refine Opens.as (Opens.struct bulk_agg Tryd.underlying61 (.cons rfl (by kernel_rfl) (opens_str n) (fun _ => rfl) (.cons (s := 6) rfl (by kernel_rfl) (opensSch n) (fun _ => rfl) (.nil _))) (fun _ => (show (7 : Nat) = _ by kernel_rfl))) ?_
    rintro ⟨c, t, _⟩
    exact ⟨⟨⟨c, t.1⟩, t.2⟩, by simp [cVal], by show c.size + bSch t.1 + 2 ≤ c.size + 1 + (bSch t.1 + 0) + 1; omega⟩
theorem opensCon (n : Nat) : Opens enc Tryd.prog w Rows.uptoBulk 96 n (fun c : {c : CSig // rngTys c.args} => cCon c.1) (fun c => bCon c.1) := by
  cases n with
  | zero => exact Opens.zero
  | succ n =>
    refine Opens.as (Opens.struct bulk_agg Tryd.underlying96 (.cons rfl (by kernel_rfl) (opens_str n) (fun _ => rfl) (.cons rfl (by kernel_rfl) (opensTys n) (fun _ => rfl) (.nil _))) (fun _ => (show (2 : Nat) = _ by kernel_rfl))) ?_
    rintro ⟨c, t, _⟩
    exact ⟨⟨⟨c, t.1⟩, t.2⟩, by simp [cCon], by show c.size + bTys t.1 + 3 ≤ c.size + 1 + (bTys t.1 + 1 + 0) + 1; omega⟩
theorem opensDat (n : Nat) : Opens enc Tryd.prog w Rows.uptoBulk 40 n (fun d : {d : DSig // ∀ c ∈ d.cons, rngTys c.args} => cData d.1) (fun d => bDat d.1) := by
  cases n with
  | zero => exact Opens.zero
  | succ n =>
    have hp := opens_slice (enc := enc) (w := w) (t := 38) Tryd.underlying38 (s := 2) (by kernel_rfl) (by omega) n (fun m _ => opensCon m)
    refine Opens.as (Opens.struct bulk_agg Tryd.underlying40 (.cons rfl (by kernel_rfl) (opens_str n) (fun _ => rfl) (.cons rfl (by kernel_rfl) (opens_int n) (fun _ => rfl) (.cons rfl (by kernel_rfl) hp (fun _ => rfl) (.nil _)))) (fun _ => (show (3 : Nat) = _ by kernel_rfl))) ?_
    rintro ⟨c, i, l, _⟩
    refine ⟨⟨⟨c, i.1, l.map (·.1)⟩, fun p hp => ?_⟩, ?_, ?_⟩
    · obtain ⟨x, _, rfl⟩ := List.mem_map.1 hp
      exact x.2
    · show cData _ = _
      simp only [cData, List.map_map]
      simp
    · show bDat _ ≤ _
      simp only [bDat, bCons, wtAll, List.map_map]
      show c.size + (List.map (fun p : {c : CSig // rngTys c.args} => bCon p.1) l).sum + 3 ≤ c.size + 1 + (0 + ((List.map (fun p : {c : CSig // rngTys c.args} => bCon p.1) l).sum + 1 + 0)) + 1
      omega
theorem opensSpec (n : Nat) : Opens enc Tryd.prog w Rows.uptoBulk 25 n (fun s : {s : Spec // rngSpec s} => cSpec s.1) (fun s => bSpec s.1) := by
  cases n with
  | zero => exact Opens.zero
  | succ n =>
    have hd := opens_slice (enc := enc) (w := w) (t := 22) Tryd.underlying22 (s := 3) (by kernel_rfl) (by omega) n (fun m _ => opensDat m)
    have hv := opens_slice (enc := enc) (w := w) (t := 23) Tryd.underlying23 (s := 7) (by kernel_rfl) (by omega) n (fun m _ => opensVal m)
    refine Opens.as (Opens.struct bulk_agg Tryd.underlying25 (.cons rfl (by kernel_rfl) hd (fun _ => rfl) (.cons rfl (by kernel_rfl) hv (fun _ => rfl) (.nil _))) (fun _ => (show (2 : Nat) = _ by kernel_rfl))) ?_
    rintro ⟨l, k, _⟩
    refine ⟨⟨⟨l.map (·.1), k.map (·.1)⟩, fun d hd => ?_, fun v hv => ?_⟩, ?_, ?_⟩
    · obtain ⟨x, _, rfl⟩ := List.mem_map.1 hd
      exact x.2
    · obtain ⟨x, _, rfl⟩ := List.mem_map.1 hv
      exact x.2
    · show cSpec _ = _
      simp only [cSpec, List.map_map]
      rfl
    · show bSpec _ ≤ _
      simp only [bSpec, bDats, bVals, wtAll, List.map_map]
      show (List.map (fun p : {d : DSig // ∀ c ∈ d.cons, rngTys c.args} => bDat p.1) l).sum + (List.map (fun p : {v : VSig // rngSch v.sch} => bVal p.1) k).sum + 3 ≤ (List.map (fun p : {d : DSig // ∀ c ∈ d.cons, rngTys c.args} => bDat p.1) l).sum + 1 + ((List.map (fun p : {v : VSig // rngSch v.sch} => bVal p.1) k).sum + 1 + 0) + 1
      omega
end
mutual
theorem wTy_bTy : ∀ t : Ty, wTy t + 1 ≤ 101 * bTy t
  | .mk k n v us => by
    have := wTys_bTys us
    simp only [wTy, bTy]; omega
theorem wTys_bTys : ∀ ts : List Ty, wTys ts ≤ 101 * bTys ts
  | [] => by simp [wTys]
  | t :: ts => by
    have h1 := wTy_bTy t
    have h2 := wTys_bTys ts
    simp only [wTys, bTys]; omega
end
theorem bTy_pos : ∀ t : Ty, 3 ≤ bTy t
  | .mk k n v us => by simp only [bTy]; omega
theorem bTys_len : ∀ ts : List Ty, ts.length ≤ bTys ts
  | [] => by simp
  | t :: ts => by
    have h1 := bTy_pos t
    have h2 := bTys_len ts
    simp only [bTys, List.length_cons]; omega
mutual
theorem small_bTy : ∀ t : Ty, bTy t ≤ 1048576 → smallTy t
  | .mk k n v us, h => by
    simp only [bTy] at h
    have := bTys_len us
    exact ⟨by omega, small_bTys us (by omega)⟩
theorem small_bTys : ∀ ts : List Ty, bTys ts ≤ 1048576 → smallTys ts
  | [], _ => trivial
  | t :: ts, h => by
    simp only [bTys] at h
    exact ⟨small_bTy t (by omega), small_bTys ts (by omega)⟩
end
theorem sum_mem {α : Type} {f : α → Nat} : ∀ {l : List α} {a : α}, a ∈ l → f a ≤ (l.map f).sum
  | b :: l, a, h => by
    simp only [List.map_cons, List.sum_cons]
    rcases List.mem_cons.1 h with rfl | h
    · omega
    · have := sum_mem (f := f) h; omega
theorem sum_len {α : Type} {f : α → Nat} (hf : ∀ a, 1 ≤ f a) : ∀ l : List α, l.length ≤ (l.map f).sum
  | [] => by simp
  | b :: l => by
    have h1 := hf b
    have h2 := sum_len hf l
    simp only [List.map_cons, List.sum_cons, List.length_cons]; omega
theorem okSch_of {s : Sch} (h : bSch s ≤ 1048576) : okSch s := by
  simp only [bSch] at h
  have h1 := sum_len (f := bPrd) (fun p => by simp only [bPrd]; omega) s.preds
  simp only [bPrds] at h
  refine ⟨by omega, small_bTy _ (by omega), fun p hp => small_bTy _ ?_⟩
  have := sum_mem (f := bPrd) hp
  simp only [bPrd] at this
  omega
theorem bTys_append : ∀ a b : List Ty, bTys (a ++ b) = bTys a + bTys b
  | [], b => by simp [bTys]
  | t :: a, b => by simp only [List.cons_append, bTys, bTys_append a b]; omega
theorem bTys_flat {α : Type} {f : α → List Ty} {g : α → Nat} (h : ∀ a, bTys (f a) ≤ g a) : ∀ l : List α, bTys (l.flatMap f) ≤ (l.map g).sum
  | [] => by simp [bTys]
  | a :: l => by
    have h1 := h a
    have h2 := bTys_flat h l
    simp only [List.flatMap_cons, bTys_append, List.map_cons, List.sum_cons]; omega
theorem bTys_prds : ∀ l : List Prd, bTys (pTys l) ≤ bPrds l
  | [] => by simp [pTys, bTys]
  | p :: l => by
    have := bTys_prds l
    simp only [pTys, bPrds, List.map_cons, List.sum_cons, bTys] at *
    simp only [bPrd]
    omega
theorem bTys_all (s : Spec) : bTys (allTys s) ≤ bSpec s := by
  have h1 : bTys (dTys s.datas) ≤ bDats s.datas := bTys_flat (fun d => by
    have : bTys (cTys d.cons) ≤ bCons d.cons := bTys_flat (fun c => by simp only [bCon]; omega) _
    simp only [bDat]; omega) _
  have h2 : bTys (vTys s.vals) ≤ bVals s.vals := bTys_flat (fun v => by
    have := bTys_prds v.sch.preds
    simp only [bTys_append, bTys, bVal, bSch]; omega) _
  simp only [allTys, bTys_append, bSpec]
  omega
theorem bTys_mem {l : List Ty} {t : Ty} (h : t ∈ l) : bTy t ≤ bTys l := by
  rw [bTys_eq]; exact sum_mem h
theorem okSpec_of {s : Spec} (h : bSpec s ≤ 1048576) : okSpec s ∧ SzS s := by
  have ha := bTys_all s
  have hl := bTys_len (allTys s)
  simp only [bSpec] at h
  have hd : ∀ d ∈ s.datas, bDat d ≤ bDats s.datas := fun d hd => sum_mem hd
  have hv : ∀ v ∈ s.vals, bVal v ≤ bVals s.vals := fun d hd => sum_mem hd
  have hdl := sum_len (f := bDat) (fun d => by simp only [bDat]; omega) s.datas
  have hvl := sum_len (f := bVal) (fun d => by simp only [bVal]; omega) s.vals
  have hc : ∀ d ∈ s.datas, ∀ c ∈ d.cons, bCon c ≤ 1048576 := fun d hdm c hcm => by
    have h1 := hd d hdm
    have h2 : bCon c ≤ bCons d.cons := sum_mem hcm
    simp only [bDat] at h1
    omega
  have hp : ∀ v ∈ s.vals, ∀ p ∈ v.sch.preds, bPrd p ≤ 1048576 := fun v hvm p hpm => by
    have h1 := hv v hvm
    have h2 : bPrd p ≤ bPrds v.sch.preds := sum_mem hpm
    simp only [bVal, bSch] at h1
    omega
  simp only [bDats] at h hd
  simp only [bVals] at h hv
  refine ⟨⟨by omega, by omega, fun d hdm => ?_, fun v hvm => okSch_of ?_, ?_, fun t ht => small_bTy t ?_⟩, ⟨fun d hdm => ?_, fun d hdm c hcm => ?_, fun v hvm => ?_, fun v hvm p hpm => ?_⟩⟩
  · have h1 := hd d hdm
    simp only [bDat] at h1
    have h2 := sum_len (f := bCon) (fun d => by simp only [bCon]; omega) d.cons
    simp only [bCons] at h1
    refine ⟨by omega, by omega, fun c hcm => ?_⟩
    have h3 := hc d hdm c hcm
    simp only [bCon] at h3
    have h4 := bTys_len c.args
    exact ⟨by omega, small_bTys _ (by omega)⟩
  · have h1 := hv v hvm
    simp only [bVal] at h1
    omega
  · simp only [bSpec, bDats, bVals] at ha
    omega
  · have := bTys_mem ht
    simp only [bSpec, bDats, bVals] at ha
    omega
  · have h1 := hd d hdm
    simp only [bDat] at h1
    omega
  · have h1 := hc d hdm c hcm
    simp only [bCon] at h1
    omega
  · have h1 := hv v hvm
    simp only [bVal] at h1
    omega
  · have h1 := hp v hvm p hpm
    simp only [bPrd] at h1
    omega
/-- The table of arities, as the row lists it. -/
theorem arity_cells {W : World} (h : laidMetH Tryd.prog [("provenance/signature.arity", Rows.laid_provenance_signature_arity)] W) : ∀ g cs, (g, cs) ∈ Γ0 → RL W (ctx0 W) cs ⟨g, 0, none⟩ := by
  have ht : Lib.TabIs Tryd.prog W "provenance/signature.arity" .i64 [0, -1, 3, 1, 0, 2] :=
    Lib.tabIs_of_head (rest := []) (g := 1) (t := 121) (n := 6) (by kernel_rfl) (by kernel_rfl) (by kernel_rfl) Tryd.underlying3 (by kernel_rfl) (by kernel_rfl) h
  have hg : Tryd.prog.globalNamed "provenance/signature.arity" = some 1 := by kernel_rfl
  intro g cs hm
  simp [Γ0] at hm
  obtain ⟨rfl, rfl⟩ := hm
  refine RL.ofCells (xs := [.int .i64 0, .int .i64 (-1), .int .i64 3, .int .i64 1, .int .i64 0, .int .i64 2]) ?_ fun j v hj => ?_
  · exact ⟨_, _, rfl, ⟨rfl, rfl⟩, _, _, rfl, ⟨rfl, rfl⟩, _, _, rfl, ⟨rfl, rfl⟩, _, _, rfl, ⟨rfl, rfl⟩, _, _, rfl, ⟨rfl, rfl⟩, _, _, rfl, ⟨rfl, rfl⟩, rfl⟩
  · match j, hj with
    | 0, hj => cases hj; exact ht.cell hg 0 (by decide)
    | 1, hj => cases hj; exact ht.cell hg 1 (by decide)
    | 2, hj => cases hj; exact ht.cell hg 2 (by decide)
    | 3, hj => cases hj; exact ht.cell hg 3 (by decide)
    | 4, hj => cases hj; exact ht.cell hg 4 (by decide)
    | 5, hj => cases hj; exact ht.cell hg 5 (by decide)
    | j + 6, hj => simp at hj
end Go.Proofs.YtoojdmgbffnmiaaDoor
/- SignatureSubst: it answers true at every input of bulk at most 1048576, its arguments read as they did; the arities are listed and tied to the program. -/
namespace Go.Proofs.YtoojdmgbffnmiaaDoor.signatureSubst
open Go Go.Abs Go.ChangeShapes Go.WideShapes Go.ChangeAt Go.RowKit
set_option linter.unusedVariables false
set_option maxRecDepth 20000
theorem own : ownKnob Tryd.prog.godebug = none := by kernel_rfl
theorem reads_ok : ∀ t ∈ Tryd.f5.params.toList, Tryd.prog.readableRec t = true ∧ t < Tryd.prog.types.size := by
  rw [Tryd.params5]
  intro t ht
  simp at ht
  subst ht <;> exact ⟨by kernel_rfl, of_decide_eq_true (by kernel_rfl)⟩
theorem contract (H : Type) (enc : TypeId × Value → H) (W : World) (base : Nat) (args : Array Value) (ds gs : List (DataW H)) (before : List MemPlace)
    (hval : ∀ (j : Nat) t v, Tryd.f5.params[j]? = some t → args[j]? = some v → Value.okWide Tryd.prog W .any base t v)
    (hW : DataW.Whole enc Tryd.prog Tryd.f5.params.toList Rows.signatureSubstSpec.vars false W args.toList ds gs before) (hk : Rows.uptoSmall H (ds ++ gs) = true) (hL : laidMetH Tryd.prog Rows.signatureSubstUptoRow.laid W) :
    Calls Tryd.prog 5 args W fun e W' => ∃ v, e = .returned v ∧ Rows.signatureSubstSpec.post enc Tryd.prog Tryd.f5 false true false false W args v W' := by
  have hW' := hW
  obtain ⟨p, q, hA0, hV, rfl, hfz, hnd⟩ := hW
  have hA : DataW.TrodAll enc Tryd.prog W 0 (fun _ => true) true Tryd.f5.params.toList args.toList ds p := hA0
  rw [Tryd.params5] at hA hval
  obtain ⟨v0, vs0, d0, ds0, p0, q0, hargs0, rfl, rfl, h0, r0⟩ := trodAll_cons hA
  obtain ⟨rfl, rfl, rfl⟩ := trodAll_nil r0
  obtain rfl : args = #[v0] := by cases args; simp_all
  have hV0 := hV
  obtain ⟨rfl, rfl⟩ := trodVars_none hV0
  obtain ⟨fu0, hf0⟩ := h0
  obtain ⟨a0, hr0, hb0⟩ := opensTy fu0 v0.cells.toList _ hf0
  have hkk : Rows.uptoBulkAll ([d0] : List (DataW H)) ≤ 1048576 := by
    unfold Rows.uptoSmall at hk
    simp only [List.append_nil, decide_eq_true_eq] at hk
    exact hk
  simp only [Rows.uptoBulkAll] at hkk
  simp only at hb0
  have hv0 : RF W (ctx0 W) (.agg (cTy a0.1)) v0 := rf_agg' Tryd.underlying36 (hval 0 36 v0 rfl rfl) hr0
  have ha : RFs W (ctx0 W) [.agg (cTy a0.1)] [v0] := ⟨v0, _, rfl, hv0, rfl⟩
  have hc := (SignatureSubst_ok a0.1 (small_bTy _ (by omega)) a0.2 (by have := wTy_bTy a0.1; omega)).calls (arity_cells hL) ha
  exact row_of_calls (by kernel_rfl) reads_ok rfl Tryd.underlying4 (by kernel_rfl) hW' rfl hc
noncomputable def laidWorld (os : Os) : World :=
  { World.holding Tryd.prog os ⟨#[], #[], []⟩ with heap := (World.holding Tryd.prog os ⟨#[], #[], []⟩).heap.modify 1 fun
      | .cells _ t frozen => .cells #[.int .i64 0, .int .i64 (-1), .int .i64 3, .int .i64 1, .int .i64 0, .int .i64 2] t frozen
      | o => o }
theorem laid_met (os : Os) : laidMet Tryd.prog Rows.signatureSubstUptoRow.laid ((laidWorld os).forCall (fun _ _ => 0) ⟨#[], #[.agg #[.int .i64 0, .string .empty, .int .i64 0, .slice none 0 0]], []⟩).memory :=
  laidMet_of_run' 8 (by kernel_rfl) (by kernel_rfl)
theorem reads (os : Os) {H : Type} (enc : TypeId × Value → H) : ∃ places, DataW.whole enc Tryd.prog ((laidWorld os).forCall (fun _ _ => 0) ⟨#[], #[.agg #[.int .i64 0, .string .empty, .int .i64 0, .slice none 0 0]], []⟩).memory Tryd.f5.params.toList Rows.signatureSubstSpec.vars false ((#[.agg #[.int .i64 0, .string .empty, .int .i64 0, .slice none 0 0]] : Array Value)).toList 8 = some ([.agg [.lit (.int .i64 0), .lit (.string []), .lit (.int .i64 0), .nil]], [], places) :=
  ⟨[], by kernel_rfl⟩
set_option maxRecDepth 100000 in
theorem liftedUpto (os : Os) (started : os.Started) (H : Type) (enc : TypeId × Value → H) (F : Stop.Interp) :
    ReturnsInHanded {} Tryd.checked os 5 .any ((Rows.OpenSpec.upto Rows.signatureSubstSpec).preRow enc Tryd.prog Tryd.f5 Rows.signatureSubstUptoRow.domain false Rows.signatureSubstUptoRow.laid) (((Rows.OpenSpec.upto Rows.signatureSubstSpec).at F).post enc Tryd.prog Tryd.f5 false true false false) := by
  obtain ⟨places, hx⟩ := reads os enc
  refine returnsInHanded_of_row (C := Tryd.checked) (s := Rows.OpenSpec.upto Rows.signatureSubstSpec) own started (by kernel_rfl) Tryd.func5
    (witness_row_at (enc := enc) (C := Tryd.checked) false (laidWorld os) #[.agg #[.int .i64 0, .string .empty, .int .i64 0, .slice none 0 0]] rfl (by kernel_rfl) (by kernel_rfl) (by kernel_rfl)
      (OpenSpec.preRow_of_cond 8 hx (by kernel_rfl) (fun k hk => by cases hk; kernel_rfl) (by kernel_rfl) (laid_met os))) ?_
  intro W base args ds gs before hval hW _ hcond _ hL _ _
  exact contract H enc W base args ds gs before hval hW (hcond _ rfl) hL
theorem saidUpto : Rows.SignatureSubstUptoSaid :=
  OpenClaim.holds_of_cond 5 Tryd.f5 rfl rfl rfl rfl rfl rfl rfl ⟨rfl, rfl, rfl, rfl, rfl⟩ rfl rfl rfl rfl rfl (by kernel_rfl) Tryd.func5 (by kernel_rfl)
    (of_decide_eq_true (by kernel_rfl)) (by unfold Func.isWrapper; first | (rw [if_pos (by decide +kernel)]; kernel_rfl) | (rw [if_neg (by decide +kernel)]; exact ⟨rfl, rfl⟩))
    (fun os started H enc _ F => by rw [OpenClaim.pre_eq_preRow]; exact liftedUpto os started H enc F)
theorem plain (f : FuncId) (fn : Func) (hf : Tryd.pinned.checked.prog.funcNamed "provenance/provenancekeep2.SignatureSubst" = some f) (hfn : Tryd.pinned.checked.prog.funcs[f]? = some fn) :
    false = Tryd.pinned.checked.prog.looks [] ∧ ∀ (j : Nat) t, fn.params[j]? = some t → Tryd.pinned.checked.prog.wantsStandIn t = false := by
  obtain rfl : f = 5 := Option.some.inj ((show Tryd.prog.funcNamed "provenance/provenancekeep2.SignatureSubst" = some 5 by kernel_rfl).symm.trans hf) |>.symm
  obtain rfl : fn = Tryd.f5 := (Option.some.inj (Tryd.func5.symm.trans hfn)).symm
  refine ⟨by kernel_rfl, fun j t ht => ?_⟩
  have hm : t ∈ Tryd.f5.params.toList := by simpa using Array.mem_of_getElem? ht
  rw [Tryd.params5] at hm
  simp at hm
  subst hm <;> first | exact (show Tryd.prog.wantsStandIn 36 = false by kernel_rfl)
theorem card_upto : Rows.SignatureSubstUptoCardSaid :=
  Claim7.holds_tied_plain_at .later [] _ _ _ _ saidUpto (fun _ h => by cases h) (by kernel_rfl) (fun _ h => by cases h) signatureSubstUpto_row_tie rfl ⟨rfl, rfl⟩ (by kernel_rfl) rfl plain (by kernel_rfl)
end Go.Proofs.YtoojdmgbffnmiaaDoor.signatureSubst
