/- SignatureSelf and SignatureThrough: the laws, and their walks. -/
import Derived.Test.YtoojdmgbffnmiaaDoorB10
namespace Go.Proofs.YtoojdmgbffnmiaaDoor
open Go Go.Abs
set_option maxRecDepth 10000
set_option linter.unusedVariables false
set_option linter.unusedSimpArgs false
theorem findBy_self {α : Type} {f : α → Str} : ∀ {l : List α} {a : α}, Sorted f l → a ∈ l → findBy f (f a) l = some a
  | x :: l, a, hs, ha => by
    obtain ⟨hx, hl⟩ := List.pairwise_cons.1 hs
    unfold findBy
    rw [List.find?_cons]
    rcases List.mem_cons.1 ha with rfl | ha
    · rw [cmpStr_self]; rfl
    · have := hx a ha
      have h0 : (cmpStr (f x) (f a) == 0) = false := by simp; omega
      rw [h0]
      exact findBy_self hl ha
theorem findBy_some {α : Type} {f : α → Str} {s : Str} {l : List α} {a : α} (h : findBy f s l = some a) : a ∈ l ∧ f a = s := by
  refine ⟨List.mem_of_find?_eq_some h, ?_⟩
  have := List.find?_some h
  exact cmpStr_eq.1 (by simpa using this)
theorem eqL_iff {α : Type} {p : α → α → Bool} : ∀ {us vs : List α}, eqL p us vs = true ↔ us.length = vs.length ∧ ∀ (i : Nat) (a b : α), us[i]? = some a → vs[i]? = some b → p a b = true
  | [], [] => by simp [eqL]
  | [], _ :: _ => by simp [eqL]
  | _ :: _, [] => by simp [eqL]
  | u :: us, v :: vs => by
    simp only [eqL, Bool.and_eq_true, eqL_iff (us := us) (vs := vs), List.length_cons, Nat.add_right_cancel_iff]
    constructor
    · rintro ⟨h1, h2, h3⟩
      refine ⟨h2, fun i a b ha hb => ?_⟩
      cases i with
      | zero => simp at ha hb; subst ha; subst hb; exact h1
      | succ i => exact h3 i a b (by simpa using ha) (by simpa using hb)
    · rintro ⟨h2, h3⟩
      exact ⟨h3 0 u v rfl rfl, h2, fun i a b ha hb => h3 (i + 1) a b (by simpa using ha) (by simpa using hb)⟩
theorem sameConB_iff {a b : CSig} : sameConB a b = true ↔ a.name = b.name ∧ canons a.args = canons b.args := by
  unfold sameConB
  rw [Bool.and_eq_true, str_eq, sameTys_iff]
theorem eqCon_refl (l : List CSig) : eqL sameConB l l = true := eqL_iff.2 ⟨rfl, fun i a b ha hb => by rw [ha] at hb; cases hb; exact sameConB_iff.2 ⟨rfl, rfl⟩⟩
theorem eqCon_trans {a b c : List CSig} (h1 : eqL sameConB a b = true) (h2 : eqL sameConB b c = true) : eqL sameConB a c = true := by
  obtain ⟨l1, p1⟩ := eqL_iff.1 h1
  obtain ⟨l2, p2⟩ := eqL_iff.1 h2
  refine eqL_iff.2 ⟨l1.trans l2, fun i x z hx hz => ?_⟩
  have hi : i < b.length := by have := (List.getElem?_eq_some_iff.1 hx).1; omega
  obtain ⟨y, hy⟩ := get_of_lt hi
  obtain ⟨e1, e2⟩ := sameConB_iff.1 (p1 i x y hx hy)
  obtain ⟨f1, f2⟩ := sameConB_iff.1 (p2 i y z hy hz)
  exact sameConB_iff.2 ⟨e1.trans f1, e2.trans f2⟩
theorem typeErr_zero {l : List DSig} {d : DSig} : typeErr l d = 0 ↔ ∃ x, findBy DSig.name d.name l = some x ∧ x.params = d.params ∧ (0 < d.cons.length → eqL sameConB x.cons d.cons = true) := by
  unfold typeErr
  cases h : findBy DSig.name d.name l with
  | none => simp
  | some x =>
    simp only [Option.some.injEq, exists_eq_left']
    constructor
    · intro h1
      split at h1
      · cases h1
      · rename_i hp
        split at h1
        · cases h1
        · rename_i hq
          refine ⟨by simpa using hp, fun hc => ?_⟩
          simp [hc] at hq
          exact hq
    · rintro ⟨h1, h2⟩
      rw [if_neg (by simpa using h1)]
      rw [if_neg]
      intro hq
      simp only [Bool.and_eq_true, decide_eq_true_eq, Bool.not_eq_true'] at hq
      rw [h2 hq.1] at hq
      cases hq.2
theorem valErr_zero {m s : Spec} {name : Str} {v : VSig} : valErr m s name v = 0 ↔ ∃ x, findBy VSig.name v.name m.vals = some x ∧ genB (mapSch (outerM name m.datas) x.sch) (mapSch (outerM name s.datas) v.sch) = true := by
  unfold valErr
  cases h : findBy VSig.name v.name m.vals with
  | none => simp
  | some x =>
    simp only [Option.some.injEq, exists_eq_left']
    split
    · rename_i h1; simp [h1]
    · rename_i h1; simp [h1]
theorem firstErr_zero_iff {α : Type} {f : α → Int} {l : List α} : firstErr f l = 0 ↔ ∀ x ∈ l, f x = 0 := ⟨firstErr_zero, firstErr_all⟩
/-- When a module satisfies a specification. -/
theorem match_zero {m s : Spec} {name : Str} : matchErr m s name = 0 ↔ chkErr cutN m = 0 ∧ chkErr cutN s = 0 ∧ cutN name = false ∧ (∀ d ∈ s.datas, typeErr m.datas d = 0) ∧ ∀ v ∈ s.vals, valErr m s name v = 0 := by
  unfold matchErr
  by_cases h1 : chkErr cutN m = 0
  · rw [if_neg (by simpa using h1)]
    by_cases h2 : chkErr cutN s = 0
    · rw [if_neg (by simpa using h2)]
      cases h3 : cutN name with
      | true => simp
      | false =>
        rw [if_neg (by simp)]
        by_cases h4 : firstErr (typeErr m.datas) s.datas = 0
        · rw [if_neg (by simpa using h4)]
          rw [firstErr_zero_iff]
          exact ⟨fun h => ⟨h1, h2, rfl, firstErr_zero_iff.1 h4, h⟩, fun h => h.2.2.2.2⟩
        · rw [if_pos h4]
          exact ⟨fun h => absurd h h4, fun h => absurd (firstErr_zero_iff.2 h.2.2.2.1) h4⟩
    · rw [if_pos h2]
      exact ⟨fun h => absurd h h2, fun h => absurd h.2.1 h2⟩
  · rw [if_pos h1]
    exact ⟨fun h => absurd h h1, fun h => absurd h.1 h1⟩
mutual
theorem wfV_fill (args : List Ty) (ha : wfVs args) : ∀ t : Ty, wfV t → wfV (fillTy args t)
  | .mk k n v us, h => by
    simp only [fillTy]
    split
    · split
      · rename_i a hget
        split
        · exact wfVs_iff.1 ha a (List.mem_of_getElem? hget)
        · exact h
      · exact h
    · rename_i hk
      exact ⟨fun h0 => absurd h0 hk, wfVs_fill args ha us h.2⟩
theorem wfVs_fill (args : List Ty) (ha : wfVs args) : ∀ l : List Ty, wfVs l → wfVs (fillTys args l)
  | [], _ => trivial
  | t :: ts, h => ⟨wfV_fill args ha t h.1, wfVs_fill args ha ts h.2⟩
end
mutual
theorem wfV_subst (l : List SMap) (hl : ∀ m ∈ l, wfV m.ty) : ∀ t : Ty, wfV t → wfV (substTy l t)
  | .mk k n v us, h => by
    have h2 := wfVs_subst l hl us h.2
    have h1 : wfV (.mk k n v (substTys l us)) := ⟨fun hk => by rw [h.1 hk]; rfl, h2⟩
    simp only [substTy]
    split
    · split
      · rename_i m hm
        exact wfV_fill _ h2 _ (hl m (List.mem_of_find?_eq_some hm))
      · exact h1
    · exact h1
theorem wfVs_subst (l : List SMap) (hl : ∀ m ∈ l, wfV m.ty) : ∀ ts : List Ty, wfVs ts → wfVs (substTys l ts)
  | [], _ => trivial
  | t :: ts, h => ⟨wfV_subst l hl t h.1, wfVs_subst l hl ts h.2⟩
end
mutual
theorem typErr_wf {vars deep : Int} : ∀ t : Ty, typErr vars deep t = 0 → wfV t
  | .mk k n v us, h => by
    unfold typErr at h
    split at h
    · cases h
    · split at h
      · cases h
      · rename_i h2
        split at h
        · cases h
        · split at h
          · cases h
          · refine ⟨fun hk => ?_, typErrs_wf us h⟩
            subst hk
            have : ¬ ((us.length : Int) ≠ arOf 0) := fun hn => h2 (.inr (.inr (.inl ⟨by decide, hn⟩)))
            have h3 : (us.length : Int) = arOf 0 := Decidable.not_not.1 this
            have h4 : arOf 0 = 0 := rfl
            rw [h4] at h3
            exact List.eq_nil_of_length_eq_zero (by omega)
theorem typErrs_wf {vars deep : Int} : ∀ ts : List Ty, typErrs vars deep ts = 0 → wfVs ts
  | [], _ => trivial
  | t :: ts, h => by
    simp only [typErrs] at h
    split at h
    · rename_i h1; exact absurd h h1
    · rename_i h1
      exact ⟨typErr_wf t (Decidable.not_not.1 h1), typErrs_wf ts h⟩
end
theorem schErr_facts {s : Sch} (h : schErr cutN s = 0) : (0 ≤ s.vars ∧ s.vars ≤ 40) ∧ (∀ p ∈ s.preds, cutN p.cls = false ∧ typErr s.vars 1 p.ty = 0) ∧ typErr s.vars 1 s.ty = 0 := by
  unfold schErr at h
  split at h
  · cases h
  · rename_i h1
    split at h
    · rename_i h2; exact absurd h h2
    · rename_i h2
      refine ⟨by omega, fun p hp => ?_, h⟩
      have := firstErr_zero (Decidable.not_not.1 h2) p hp
      unfold prdErr at this
      split at this
      · cases this
      · rename_i h3; exact ⟨by simpa using h3, this⟩
theorem schErr_wf {s : Sch} (h : schErr cutN s = 0) : wfS s := by
  obtain ⟨_, h1, h2⟩ := schErr_facts h
  exact ⟨typErr_wf _ h2, fun p hp => typErr_wf _ (h1 p hp).2⟩
theorem outerM_wf (name : Str) (l : List DSig) : ∀ m ∈ outerM name l, wfV m.ty := fun m hm => by
  simp [outerM] at hm
  obtain ⟨d, _, rfl⟩ := hm
  refine ⟨fun h => absurd (show (1 : Int) = 0 from h) (by decide), wfVs_iff.2 fun t ht => ?_⟩
  simp [varsTo] at ht
  obtain ⟨i, _, rfl⟩ := ht
  exact ⟨fun _ => rfl, trivial⟩
theorem mapSch_wf {l : List SMap} (hl : ∀ m ∈ l, wfV m.ty) {s : Sch} (h : wfS s) : wfS (mapSch l s) := by
  refine ⟨wfV_subst l hl _ h.1, fun p hp => ?_⟩
  simp [mapSch, mapPrds] at hp
  obtain ⟨q, hq, rfl⟩ := hp
  exact wfV_subst l hl _ (h.2 q hq)
/-- A MODULE SATISFIES ITS OWN SPECIFICATION. -/
theorem match_self {s : Spec} {name : Str} (h : chkErr cutN s = 0) (hn : cutN name = false) : matchErr s s name = 0 := by
  have k := chk_ok h
  refine match_zero.2 ⟨h, h, hn, fun d hd => typeErr_zero.2 ⟨d, findBy_self k.ds hd, rfl, fun _ => eqCon_refl _⟩, fun v hv => valErr_zero.2 ⟨v, findBy_self k.vs hv, ?_⟩⟩
  exact genB_refl (mapSch_wf (outerM_wf _ _) (schErr_wf (k.v v hv).2))
/-- WHAT SATISFIES WHAT SATISFIES. -/
theorem match_trans {a b c : Spec} {name : Str} (h1 : matchErr a b name = 0) (h2 : matchErr b c name = 0) : matchErr a c name = 0 := by
  obtain ⟨a1, a2, a3, a4, a5⟩ := match_zero.1 h1
  obtain ⟨b1, b2, b3, b4, b5⟩ := match_zero.1 h2
  refine match_zero.2 ⟨a1, b2, a3, fun d hd => ?_, fun v hv => ?_⟩
  · obtain ⟨y, hy, hyp, hyc⟩ := typeErr_zero.1 (b4 d hd)
    obtain ⟨hym, hyn⟩ := findBy_some hy
    obtain ⟨x, hx, hxp, hxc⟩ := typeErr_zero.1 (a4 y hym)
    refine typeErr_zero.2 ⟨x, by rw [← hyn]; exact hx, hxp.trans hyp, fun hc => ?_⟩
    have e1 := hyc hc
    have hl := (eqL_iff.1 e1).1
    exact eqCon_trans (hxc (by omega)) e1
  · obtain ⟨y, hy, hyg⟩ := valErr_zero.1 (b5 v hv)
    obtain ⟨hym, hyn⟩ := findBy_some hy
    obtain ⟨x, hx, hxg⟩ := valErr_zero.1 (a5 y hym)
    exact valErr_zero.2 ⟨x, by rw [← hyn]; exact hx, genB_trans hxg hyg⟩
theorem M_sz : nmM.size ≤ 1048576 := by decide
theorem SignatureSelf_ok (s : Spec) (hs : okSpec s) (hz : SzS s) : APure Tryd.prog Γ0 3 [.agg (cSpec s)] (.one (.lit (.bool true))) := by
  have hc := Match_ok s s nmM hs hs hz hz M_sz
  intro ou
  refine AFn.walk 29 tabOk Tryd.func3 rfl (by kernel_rfl) rfl rfl fun hou => ?_
  repeat first | (with_reducible refine oj ?_; refine AOps.auto tabOk rfl ?_) | (with_reducible first | refine o1 ?_ | refine o2 ?_ | refine o3 ?_ | refine o4 ?_ | refine o5 ?_ | refine o6 ?_ | refine o7 ?_ | refine o8 ?_ | refine o9 ?_ | refine oa ?_ | refine ob ?_ | refine oc ?_ | refine od ?_ | refine oe ?_ | refine og ?_ | refine oh ?_ | refine oi ?_) | (with_reducible refine cExitMiss ?_ ?_; rfl) | (with_reducible refine ok ?_; first | refine ACode.condT rfl ?_ | refine ACode.condF rfl ?_)
  by_cases hk : chkErr cutN s = 0
  · have hm := match_self hk cut_M
    rw [hm] at hc
    simp only [if_true] at hc
    refine AOps.callC hΓ0 hc rfl rfl rfl rfl rfl rfl rfl hou (by simp) ?_
    repeat first | (with_reducible refine oj ?_; refine AOps.auto tabOk rfl ?_) | (with_reducible first | refine o1 ?_ | refine o2 ?_ | refine o3 ?_ | refine o4 ?_ | refine o5 ?_ | refine o6 ?_ | refine o7 ?_ | refine o8 ?_ | refine o9 ?_ | refine oa ?_ | refine ob ?_ | refine oc ?_ | refine od ?_ | refine oe ?_ | refine og ?_ | refine oh ?_ | refine oi ?_) | (with_reducible refine cExitMiss ?_ ?_; rfl) | (with_reducible refine ok ?_; first | refine ACode.condT rfl ?_ | refine ACode.condF rfl ?_)
    refine AOps.callC hΓ0 fact_true rfl rfl rfl rfl rfl rfl rfl hou (by simp) ?_
    repeat first | (with_reducible refine oj ?_; refine AOps.auto tabOk rfl ?_) | (with_reducible first | refine o1 ?_ | refine o2 ?_ | refine o3 ?_ | refine o4 ?_ | refine o5 ?_ | refine o6 ?_ | refine o7 ?_ | refine o8 ?_ | refine o9 ?_ | refine oa ?_ | refine ob ?_ | refine oc ?_ | refine od ?_ | refine oe ?_ | refine og ?_ | refine oh ?_ | refine oi ?_) | (with_reducible refine cExitMiss ?_ ?_; rfl) | (with_reducible refine ok ?_; first | refine ACode.condT rfl ?_ | refine ACode.condF rfl ?_)
    exact APure.fin rfl (WkF.ofEq (by simp)) (by simp) hou rfl
  · have hm : matchErr s s nmM = chkErr cutN s := by unfold matchErr; rw [if_pos hk]
    rw [hm, if_neg hk] at hc
    refine AOps.callC hΓ0 hc rfl rfl rfl rfl rfl rfl rfl hou (by simp) ?_
    repeat first | (with_reducible refine oj ?_; refine AOps.auto tabOk rfl ?_) | (with_reducible first | refine o1 ?_ | refine o2 ?_ | refine o3 ?_ | refine o4 ?_ | refine o5 ?_ | refine o6 ?_ | refine o7 ?_ | refine o8 ?_ | refine o9 ?_ | refine oa ?_ | refine ob ?_ | refine oc ?_ | refine od ?_ | refine oe ?_ | refine og ?_ | refine oh ?_ | refine oi ?_) | (with_reducible refine cExitMiss ?_ ?_; rfl) | (with_reducible refine ok ?_; first | refine ACode.condT rfl ?_ | refine ACode.condF rfl ?_)
    refine ACode.cond rfl (fun hb => ?_) (fun hb => ?_)
    · repeat first | (with_reducible refine oj ?_; refine AOps.auto tabOk rfl ?_) | (with_reducible first | refine o1 ?_ | refine o2 ?_ | refine o3 ?_ | refine o4 ?_ | refine o5 ?_ | refine o6 ?_ | refine o7 ?_ | refine o8 ?_ | refine o9 ?_ | refine oa ?_ | refine ob ?_ | refine oc ?_ | refine od ?_ | refine oe ?_ | refine og ?_ | refine oh ?_ | refine oi ?_) | (with_reducible refine cExitMiss ?_ ?_; rfl) | (with_reducible refine ok ?_; first | refine ACode.condT rfl ?_ | refine ACode.condF rfl ?_)
      refine AOps.callC hΓ0 fact_true rfl rfl rfl rfl rfl rfl rfl hou (by simp) ?_
      repeat first | (with_reducible refine oj ?_; refine AOps.auto tabOk rfl ?_) | (with_reducible first | refine o1 ?_ | refine o2 ?_ | refine o3 ?_ | refine o4 ?_ | refine o5 ?_ | refine o6 ?_ | refine o7 ?_ | refine o8 ?_ | refine o9 ?_ | refine oa ?_ | refine ob ?_ | refine oc ?_ | refine od ?_ | refine oe ?_ | refine og ?_ | refine oh ?_ | refine oi ?_) | (with_reducible refine cExitMiss ?_ ?_; rfl) | (with_reducible refine ok ?_; first | refine ACode.condT rfl ?_ | refine ACode.condF rfl ?_)
      refine AOps.callG hΓ0 (Check_ok cutN s hs hz.cut) rfl rfl rfl rfl rfl rfl rfl rfl rfl hou (by simp) ?_
      repeat first | (with_reducible refine oj ?_; refine AOps.auto tabOk rfl ?_) | (with_reducible first | refine o1 ?_ | refine o2 ?_ | refine o3 ?_ | refine o4 ?_ | refine o5 ?_ | refine o6 ?_ | refine o7 ?_ | refine o8 ?_ | refine o9 ?_ | refine oa ?_ | refine ob ?_ | refine oc ?_ | refine od ?_ | refine oe ?_ | refine og ?_ | refine oh ?_ | refine oi ?_) | (with_reducible refine cExitMiss ?_ ?_; rfl) | (with_reducible refine ok ?_; first | refine ACode.condT rfl ?_ | refine ACode.condF rfl ?_)
      exact APure.fin rfl (WkF.ofEq (by simp)) (by simp) hou rfl
    · simp at hb
      exact absurd hb hk
theorem SignatureThrough_ok (a b c : Spec) (ha : okSpec a) (hza : SzS a) (hb : okSpec b) (hzb : SzS b) (hc : okSpec c) (hzc : SzS c) : APure Tryd.prog Γ0 4 [.agg (cSpec a), .agg (cSpec b), .agg (cSpec c)] (.one (.lit (.bool true))) := by
  have c1 := Match_ok a b nmM ha hb hza hzb M_sz
  have c2 := Match_ok b c nmM hb hc hzb hzc M_sz
  have c3 := Match_ok a c nmM ha hc hza hzc M_sz
  intro ou
  refine AFn.walk 43 tabOk Tryd.func4 rfl (by kernel_rfl) rfl rfl fun hou => ?_
  repeat first | (with_reducible refine oj ?_; refine AOps.auto tabOk rfl ?_) | (with_reducible first | refine o1 ?_ | refine o2 ?_ | refine o3 ?_ | refine o4 ?_ | refine o5 ?_ | refine o6 ?_ | refine o7 ?_ | refine o8 ?_ | refine o9 ?_ | refine oa ?_ | refine ob ?_ | refine oc ?_ | refine od ?_ | refine oe ?_ | refine og ?_ | refine oh ?_ | refine oi ?_) | (with_reducible refine cExitMiss ?_ ?_; rfl) | (with_reducible refine ok ?_; first | refine ACode.condT rfl ?_ | refine ACode.condF rfl ?_)
  refine AOps.callC hΓ0 c1 rfl rfl rfl rfl rfl rfl rfl hou (by simp) ?_
  repeat first | (with_reducible refine oj ?_; refine AOps.auto tabOk rfl ?_) | (with_reducible first | refine o1 ?_ | refine o2 ?_ | refine o3 ?_ | refine o4 ?_ | refine o5 ?_ | refine o6 ?_ | refine o7 ?_ | refine o8 ?_ | refine o9 ?_ | refine oa ?_ | refine ob ?_ | refine oc ?_ | refine od ?_ | refine oe ?_ | refine og ?_ | refine oh ?_ | refine oi ?_) | (with_reducible refine cExitMiss ?_ ?_; rfl) | (with_reducible refine ok ?_; first | refine ACode.condT rfl ?_ | refine ACode.condF rfl ?_)
  refine AOps.callC hΓ0 c2 rfl rfl rfl rfl rfl rfl rfl hou (by simp) ?_
  repeat first | (with_reducible refine oj ?_; refine AOps.auto tabOk rfl ?_) | (with_reducible first | refine o1 ?_ | refine o2 ?_ | refine o3 ?_ | refine o4 ?_ | refine o5 ?_ | refine o6 ?_ | refine o7 ?_ | refine o8 ?_ | refine o9 ?_ | refine oa ?_ | refine ob ?_ | refine oc ?_ | refine od ?_ | refine oe ?_ | refine og ?_ | refine oh ?_ | refine oi ?_) | (with_reducible refine cExitMiss ?_ ?_; rfl) | (with_reducible refine ok ?_; first | refine ACode.condT rfl ?_ | refine ACode.condF rfl ?_)
  refine AOps.splitG rfl rfl rfl (fun hv => ?_) (fun hv => ?_)
  · repeat first | (with_reducible refine oj ?_; refine AOps.auto tabOk rfl ?_) | (with_reducible first | refine o1 ?_ | refine o2 ?_ | refine o3 ?_ | refine o4 ?_ | refine o5 ?_ | refine o6 ?_ | refine o7 ?_ | refine o8 ?_ | refine o9 ?_ | refine oa ?_ | refine ob ?_ | refine oc ?_ | refine od ?_ | refine oe ?_ | refine og ?_ | refine oh ?_ | refine oi ?_) | (with_reducible refine cExitMiss ?_ ?_; rfl) | (with_reducible refine ok ?_; first | refine ACode.condT rfl ?_ | refine ACode.condF rfl ?_)
    refine AOps.callC hΓ0 fact_true rfl rfl rfl rfl rfl rfl rfl hou (by simp) ?_
    repeat first | (with_reducible refine oj ?_; refine AOps.auto tabOk rfl ?_) | (with_reducible first | refine o1 ?_ | refine o2 ?_ | refine o3 ?_ | refine o4 ?_ | refine o5 ?_ | refine o6 ?_ | refine o7 ?_ | refine o8 ?_ | refine o9 ?_ | refine oa ?_ | refine ob ?_ | refine oc ?_ | refine od ?_ | refine oe ?_ | refine og ?_ | refine oh ?_ | refine oi ?_) | (with_reducible refine cExitMiss ?_ ?_; rfl) | (with_reducible refine ok ?_; first | refine ACode.condT rfl ?_ | refine ACode.condF rfl ?_)
    exact APure.fin rfl (WkF.ofEq rfl) (by simp) hou rfl
  repeat first | (with_reducible refine oj ?_; refine AOps.auto tabOk rfl ?_) | (with_reducible first | refine o1 ?_ | refine o2 ?_ | refine o3 ?_ | refine o4 ?_ | refine o5 ?_ | refine o6 ?_ | refine o7 ?_ | refine o8 ?_ | refine o9 ?_ | refine oa ?_ | refine ob ?_ | refine oc ?_ | refine od ?_ | refine oe ?_ | refine og ?_ | refine oh ?_ | refine oi ?_) | (with_reducible refine cExitMiss ?_ ?_; rfl) | (with_reducible refine ok ?_; first | refine ACode.condT rfl ?_ | refine ACode.condF rfl ?_)
  refine ACode.cond rfl (fun hw => ?_) (fun hw => ?_)
  · repeat first | (with_reducible refine oj ?_; refine AOps.auto tabOk rfl ?_) | (with_reducible first | refine o1 ?_ | refine o2 ?_ | refine o3 ?_ | refine o4 ?_ | refine o5 ?_ | refine o6 ?_ | refine o7 ?_ | refine o8 ?_ | refine o9 ?_ | refine oa ?_ | refine ob ?_ | refine oc ?_ | refine od ?_ | refine oe ?_ | refine og ?_ | refine oh ?_ | refine oi ?_) | (with_reducible refine cExitMiss ?_ ?_; rfl) | (with_reducible refine ok ?_; first | refine ACode.condT rfl ?_ | refine ACode.condF rfl ?_)
    refine AOps.callC hΓ0 fact_true rfl rfl rfl rfl rfl rfl rfl hou (by simp) ?_
    repeat first | (with_reducible refine oj ?_; refine AOps.auto tabOk rfl ?_) | (with_reducible first | refine o1 ?_ | refine o2 ?_ | refine o3 ?_ | refine o4 ?_ | refine o5 ?_ | refine o6 ?_ | refine o7 ?_ | refine o8 ?_ | refine o9 ?_ | refine oa ?_ | refine ob ?_ | refine oc ?_ | refine od ?_ | refine oe ?_ | refine og ?_ | refine oh ?_ | refine oi ?_) | (with_reducible refine cExitMiss ?_ ?_; rfl) | (with_reducible refine ok ?_; first | refine ACode.condT rfl ?_ | refine ACode.condF rfl ?_)
    exact APure.fin rfl (WkF.ofEq rfl) (by simp) hou rfl
  have e1 : matchErr a b nmM = 0 := by simpa using hv
  have e2 : matchErr b c nmM = 0 := by simpa using hw
  rw [match_trans e1 e2] at c3
  simp only [if_true] at c3
  repeat first | (with_reducible refine oj ?_; refine AOps.auto tabOk rfl ?_) | (with_reducible first | refine o1 ?_ | refine o2 ?_ | refine o3 ?_ | refine o4 ?_ | refine o5 ?_ | refine o6 ?_ | refine o7 ?_ | refine o8 ?_ | refine o9 ?_ | refine oa ?_ | refine ob ?_ | refine oc ?_ | refine od ?_ | refine oe ?_ | refine og ?_ | refine oh ?_ | refine oi ?_) | (with_reducible refine cExitMiss ?_ ?_; rfl) | (with_reducible refine ok ?_; first | refine ACode.condT rfl ?_ | refine ACode.condF rfl ?_)
  refine AOps.callC hΓ0 c3 rfl rfl rfl rfl rfl rfl rfl hou (by simp) ?_
  repeat first | (with_reducible refine oj ?_; refine AOps.auto tabOk rfl ?_) | (with_reducible first | refine o1 ?_ | refine o2 ?_ | refine o3 ?_ | refine o4 ?_ | refine o5 ?_ | refine o6 ?_ | refine o7 ?_ | refine o8 ?_ | refine o9 ?_ | refine oa ?_ | refine ob ?_ | refine oc ?_ | refine od ?_ | refine oe ?_ | refine og ?_ | refine oh ?_ | refine oi ?_) | (with_reducible refine cExitMiss ?_ ?_; rfl) | (with_reducible refine ok ?_; first | refine ACode.condT rfl ?_ | refine ACode.condF rfl ?_)
  refine AOps.callC hΓ0 fact_true rfl rfl rfl rfl rfl rfl rfl hou (by simp) ?_
  repeat first | (with_reducible refine oj ?_; refine AOps.auto tabOk rfl ?_) | (with_reducible first | refine o1 ?_ | refine o2 ?_ | refine o3 ?_ | refine o4 ?_ | refine o5 ?_ | refine o6 ?_ | refine o7 ?_ | refine o8 ?_ | refine o9 ?_ | refine oa ?_ | refine ob ?_ | refine oc ?_ | refine od ?_ | refine oe ?_ | refine og ?_ | refine oh ?_ | refine oi ?_) | (with_reducible refine cExitMiss ?_ ?_; rfl) | (with_reducible refine ok ?_; first | refine ACode.condT rfl ?_ | refine ACode.condF rfl ?_)
  exact APure.fin rfl (WkF.ofEq rfl) (by simp) hou rfl
end Go.Proofs.YtoojdmgbffnmiaaDoor
/- SignatureTransitive: the law, and its walk. -/
namespace Go.Proofs.YtoojdmgbffnmiaaDoor
open Go Go.Abs
set_option maxRecDepth 10000
set_option linter.unusedVariables false
set_option linter.unusedSimpArgs false
/-- What General answers. -/
def genR (a b : Sch) : Bool × Int := if schErr cutN a ≠ 0 then (false, schErr cutN a) else if schErr cutN b ≠ 0 then (false, schErr cutN b) else (genB a b, 0)
def SzC (s : Sch) : Prop := ∀ p ∈ s.preds, p.cls.size < 4294967281
theorem SzC.cut {s : Sch} (h : SzC s) : ∀ p ∈ s.preds, CutAt cutN p.cls := fun p hp => cut_ok _ (h p hp)
theorem General_ok (a b : Sch) (ha : okSch a) (hza : SzC a) (hb : okSch b) (hzb : SzC b) : APure Tryd.prog Γ0 20 [.agg (cSch a), .agg (cSch b)] (.tup [.one (.lit (.bool (genR a b).1)), .one (int (genR a b).2)]) := by
  intro ou
  refine AFn.walk 21 tabOk Tryd.func20 rfl (by kernel_rfl) rfl rfl fun hou => ?_
  repeat first | (with_reducible refine oj ?_; refine AOps.auto tabOk rfl ?_) | (with_reducible first | refine o1 ?_ | refine o2 ?_ | refine o3 ?_ | refine o4 ?_ | refine o5 ?_ | refine o6 ?_ | refine o7 ?_ | refine o8 ?_ | refine o9 ?_ | refine oa ?_ | refine ob ?_ | refine oc ?_ | refine od ?_ | refine oe ?_ | refine og ?_ | refine oh ?_ | refine oi ?_) | (with_reducible refine cExitMiss ?_ ?_; rfl) | (with_reducible refine ok ?_; first | refine ACode.condT rfl ?_ | refine ACode.condF rfl ?_)
  refine AOps.callC hΓ0 (schemeError_ok cutN a ha hza.cut) rfl rfl rfl rfl rfl rfl rfl hou (by simp) ?_
  repeat first | (with_reducible refine oj ?_; refine AOps.auto tabOk rfl ?_) | (with_reducible first | refine o1 ?_ | refine o2 ?_ | refine o3 ?_ | refine o4 ?_ | refine o5 ?_ | refine o6 ?_ | refine o7 ?_ | refine o8 ?_ | refine o9 ?_ | refine oa ?_ | refine ob ?_ | refine oc ?_ | refine od ?_ | refine oe ?_ | refine og ?_ | refine oh ?_ | refine oi ?_) | (with_reducible refine cExitMiss ?_ ?_; rfl) | (with_reducible refine ok ?_; first | refine ACode.condT rfl ?_ | refine ACode.condF rfl ?_)
  refine ACode.cond rfl (fun hb1 => ?_) (fun hb1 => ?_)
  · have h1 : schErr cutN a ≠ 0 := by simpa using hb1
    repeat first | (with_reducible refine oj ?_; refine AOps.auto tabOk rfl ?_) | (with_reducible first | refine o1 ?_ | refine o2 ?_ | refine o3 ?_ | refine o4 ?_ | refine o5 ?_ | refine o6 ?_ | refine o7 ?_ | refine o8 ?_ | refine o9 ?_ | refine oa ?_ | refine ob ?_ | refine oc ?_ | refine od ?_ | refine oe ?_ | refine og ?_ | refine oh ?_ | refine oi ?_) | (with_reducible refine cExitMiss ?_ ?_; rfl) | (with_reducible refine ok ?_; first | refine ACode.condT rfl ?_ | refine ACode.condF rfl ?_)
    refine APure.fin rfl (WkF.ofEq ?_) (by simp) hou rfl
    rw [genR, if_pos h1]
  have h1 : schErr cutN a = 0 := by simpa using hb1
  repeat first | (with_reducible refine oj ?_; refine AOps.auto tabOk rfl ?_) | (with_reducible first | refine o1 ?_ | refine o2 ?_ | refine o3 ?_ | refine o4 ?_ | refine o5 ?_ | refine o6 ?_ | refine o7 ?_ | refine o8 ?_ | refine o9 ?_ | refine oa ?_ | refine ob ?_ | refine oc ?_ | refine od ?_ | refine oe ?_ | refine og ?_ | refine oh ?_ | refine oi ?_) | (with_reducible refine cExitMiss ?_ ?_; rfl) | (with_reducible refine ok ?_; first | refine ACode.condT rfl ?_ | refine ACode.condF rfl ?_)
  refine AOps.callC hΓ0 (schemeError_ok cutN b hb hzb.cut) rfl rfl rfl rfl rfl rfl rfl hou (by simp) ?_
  repeat first | (with_reducible refine oj ?_; refine AOps.auto tabOk rfl ?_) | (with_reducible first | refine o1 ?_ | refine o2 ?_ | refine o3 ?_ | refine o4 ?_ | refine o5 ?_ | refine o6 ?_ | refine o7 ?_ | refine o8 ?_ | refine o9 ?_ | refine oa ?_ | refine ob ?_ | refine oc ?_ | refine od ?_ | refine oe ?_ | refine og ?_ | refine oh ?_ | refine oi ?_) | (with_reducible refine cExitMiss ?_ ?_; rfl) | (with_reducible refine ok ?_; first | refine ACode.condT rfl ?_ | refine ACode.condF rfl ?_)
  refine ACode.cond rfl (fun hb2 => ?_) (fun hb2 => ?_)
  · have h2 : schErr cutN b ≠ 0 := by simpa using hb2
    repeat first | (with_reducible refine oj ?_; refine AOps.auto tabOk rfl ?_) | (with_reducible first | refine o1 ?_ | refine o2 ?_ | refine o3 ?_ | refine o4 ?_ | refine o5 ?_ | refine o6 ?_ | refine o7 ?_ | refine o8 ?_ | refine o9 ?_ | refine oa ?_ | refine ob ?_ | refine oc ?_ | refine od ?_ | refine oe ?_ | refine og ?_ | refine oh ?_ | refine oi ?_) | (with_reducible refine cExitMiss ?_ ?_; rfl) | (with_reducible refine ok ?_; first | refine ACode.condT rfl ?_ | refine ACode.condF rfl ?_)
    refine APure.fin rfl (WkF.ofEq ?_) (by simp) hou rfl
    rw [genR, if_neg (by simpa using h1), if_pos h2]
  have h2 : schErr cutN b = 0 := by simpa using hb2
  repeat first | (with_reducible refine oj ?_; refine AOps.auto tabOk rfl ?_) | (with_reducible first | refine o1 ?_ | refine o2 ?_ | refine o3 ?_ | refine o4 ?_ | refine o5 ?_ | refine o6 ?_ | refine o7 ?_ | refine o8 ?_ | refine o9 ?_ | refine oa ?_ | refine ob ?_ | refine oc ?_ | refine od ?_ | refine oe ?_ | refine og ?_ | refine oh ?_ | refine oi ?_) | (with_reducible refine cExitMiss ?_ ?_; rfl) | (with_reducible refine ok ?_; first | refine ACode.condT rfl ?_ | refine ACode.condF rfl ?_)
  refine AOps.callC hΓ0 (general_ok hΓ0 hΓF0 a b ha.2.1 hb.2.1 ha.2.2 hb.2.2 ha.1 hb.1) rfl rfl rfl rfl rfl rfl rfl hou (by simp) ?_
  repeat first | (with_reducible refine oj ?_; refine AOps.auto tabOk rfl ?_) | (with_reducible first | refine o1 ?_ | refine o2 ?_ | refine o3 ?_ | refine o4 ?_ | refine o5 ?_ | refine o6 ?_ | refine o7 ?_ | refine o8 ?_ | refine o9 ?_ | refine oa ?_ | refine ob ?_ | refine oc ?_ | refine od ?_ | refine oe ?_ | refine og ?_ | refine oh ?_ | refine oi ?_) | (with_reducible refine cExitMiss ?_ ?_; rfl) | (with_reducible refine ok ?_; first | refine ACode.condT rfl ?_ | refine ACode.condF rfl ?_)
  refine APure.fin rfl (WkF.ofEq ?_) (by simp) hou rfl
  rw [genR, if_neg (by simpa using h1), if_neg (by simpa using h2)]
theorem genR_err {a b : Sch} (h : (genR a b).2 ≠ 0) : (genR a b).1 = false := by
  unfold genR at h ⊢
  split
  · rfl
  · rename_i h1
    rw [if_neg h1] at h
    split
    · rfl
    · rename_i h2; rw [if_neg h2] at h; simp at h
theorem genR_ok {a b : Sch} (h : (genR a b).2 = 0) : schErr cutN a = 0 ∧ schErr cutN b = 0 ∧ (genR a b).1 = genB a b := by
  unfold genR at h ⊢
  by_cases h1 : schErr cutN a = 0
  · by_cases h2 : schErr cutN b = 0
    · rw [if_neg (by simpa using h1), if_neg (by simpa using h2)]
      exact ⟨h1, h2, rfl⟩
    · rw [if_neg (by simpa using h1), if_pos h2] at h
      exact absurd h h2
  · rw [if_pos h1] at h
    exact absurd h h1
theorem SignatureTransitive_ok (a b c : Sch) (ha : okSch a) (hza : SzC a) (hb : okSch b) (hzb : SzC b) (hc : okSch c) (hzc : SzC c) : APure Tryd.prog Γ0 6 [.agg (cSch a), .agg (cSch b), .agg (cSch c)] (.one (.lit (.bool true))) := by
  have c1 := General_ok a b ha hza hb hzb
  have c2 := General_ok b c hb hzb hc hzc
  have c3 := General_ok a c ha hza hc hzc
  have k1 := genR_err (a := a) (b := b)
  have k4 : (genR a b).2 = 0 → (genR b c).2 = 0 → (genR a c).2 = 0 → (genR a b).1 = true → (genR b c).1 = true → (genR a c).1 = true := fun h1 h2 h3 h4 h5 => by
    rw [(genR_ok h1).2.2] at h4
    rw [(genR_ok h2).2.2] at h5
    rw [(genR_ok h3).2.2]
    exact genB_trans h4 h5
  generalize genR a b = r1 at c1 k1 k4
  generalize genR b c = r2 at c2 k4
  generalize genR a c = r3 at c3 k4
  obtain ⟨i1, e1⟩ := r1
  obtain ⟨i2, e2⟩ := r2
  obtain ⟨i3, e3⟩ := r3
  simp only at c1 c2 c3 k1 k4
  intro ou
  refine AFn.walk 62 tabOk Tryd.func6 rfl (by kernel_rfl) rfl rfl fun hou => ?_
  repeat first | (with_reducible refine oj ?_; refine AOps.auto tabOk rfl ?_) | (with_reducible first | refine o1 ?_ | refine o2 ?_ | refine o3 ?_ | refine o4 ?_ | refine o5 ?_ | refine o6 ?_ | refine o7 ?_ | refine o8 ?_ | refine o9 ?_ | refine oa ?_ | refine ob ?_ | refine oc ?_ | refine od ?_ | refine oe ?_ | refine og ?_ | refine oh ?_ | refine oi ?_) | (with_reducible refine cExitMiss ?_ ?_; rfl) | (with_reducible refine ok ?_; first | refine ACode.condT rfl ?_ | refine ACode.condF rfl ?_)
  refine AOps.callC hΓ0 c1 rfl rfl rfl rfl rfl rfl rfl hou (by simp) ?_
  repeat first | (with_reducible refine oj ?_; refine AOps.auto tabOk rfl ?_) | (with_reducible first | refine o1 ?_ | refine o2 ?_ | refine o3 ?_ | refine o4 ?_ | refine o5 ?_ | refine o6 ?_ | refine o7 ?_ | refine o8 ?_ | refine o9 ?_ | refine oa ?_ | refine ob ?_ | refine oc ?_ | refine od ?_ | refine oe ?_ | refine og ?_ | refine oh ?_ | refine oi ?_) | (with_reducible refine cExitMiss ?_ ?_; rfl) | (with_reducible refine ok ?_; first | refine ACode.condT rfl ?_ | refine ACode.condF rfl ?_)
  refine AOps.callC hΓ0 c2 rfl rfl rfl rfl rfl rfl rfl hou (by simp) ?_
  repeat first | (with_reducible refine oj ?_; refine AOps.auto tabOk rfl ?_) | (with_reducible first | refine o1 ?_ | refine o2 ?_ | refine o3 ?_ | refine o4 ?_ | refine o5 ?_ | refine o6 ?_ | refine o7 ?_ | refine o8 ?_ | refine o9 ?_ | refine oa ?_ | refine ob ?_ | refine oc ?_ | refine od ?_ | refine oe ?_ | refine og ?_ | refine oh ?_ | refine oi ?_) | (with_reducible refine cExitMiss ?_ ?_; rfl) | (with_reducible refine ok ?_; first | refine ACode.condT rfl ?_ | refine ACode.condF rfl ?_)
  refine AOps.callC hΓ0 c3 rfl rfl rfl rfl rfl rfl rfl hou (by simp) ?_
  repeat' first | (with_reducible refine oj ?_; refine AOps.auto tabOk rfl ?_) | (with_reducible first | refine o1 ?_ | refine o2 ?_ | refine o3 ?_ | refine o4 ?_ | refine o5 ?_ | refine o6 ?_ | refine o7 ?_ | refine o8 ?_ | refine o9 ?_ | refine oa ?_ | refine ob ?_ | refine oc ?_ | refine od ?_ | refine oe ?_ | refine og ?_ | refine oh ?_ | refine oi ?_) | (with_reducible refine cExitMiss ?_ ?_; rfl) | (with_reducible refine ok ?_; first | refine ACode.condT rfl ?_ | refine ACode.condF rfl ?_) | (with_reducible refine oj ?_; refine AOps.splitS rfl rfl rfl rfl (fun hb => ?_) (fun hb => ?_)) | (with_reducible refine ok ?_; refine ACode.cond rfl (fun hb => ?_) (fun hb => ?_))
  all_goals refine AOps.callC hΓ0 fact_true rfl rfl rfl rfl rfl rfl rfl hou (by simp) ?_
  all_goals repeat' first | (with_reducible refine oj ?_; refine AOps.auto tabOk rfl ?_) | (with_reducible first | refine o1 ?_ | refine o2 ?_ | refine o3 ?_ | refine o4 ?_ | refine o5 ?_ | refine o6 ?_ | refine o7 ?_ | refine o8 ?_ | refine o9 ?_ | refine oa ?_ | refine ob ?_ | refine oc ?_ | refine od ?_ | refine oe ?_ | refine og ?_ | refine oh ?_ | refine oi ?_) | (with_reducible refine cExitMiss ?_ ?_; rfl) | (with_reducible refine ok ?_; first | refine ACode.condT rfl ?_ | refine ACode.condF rfl ?_) | (with_reducible refine oj ?_; refine AOps.splitS rfl rfl rfl rfl (fun hb => ?_) (fun hb => ?_)) | (with_reducible refine ok ?_; refine ACode.cond rfl (fun hb => ?_) (fun hb => ?_))
  all_goals refine APure.fin rfl (WkF.ofEq ?_) (by simp) hou rfl
  all_goals simp_all
end Go.Proofs.YtoojdmgbffnmiaaDoor
/- SignatureInstance: the law, and its walk. -/
namespace Go.Proofs.YtoojdmgbffnmiaaDoor
open Go Go.Abs
set_option maxRecDepth 10000
set_option linter.unusedVariables false
set_option linter.unusedSimpArgs false
variable {Γ : List (Nat × List AC)}
mutual
/-- All variables become one type. -/
def repl (t : Ty) : Ty → Ty
  | .mk k n v us => if k = 0 then t else .mk k n 0 (repls t us)
def repls (t : Ty) : List Ty → List Ty
  | [] => []
  | u :: us => repl t u :: repls t us
end
theorem repls_eq (t : Ty) : ∀ l : List Ty, repls t l = l.map (repl t)
  | [] => rfl
  | u :: us => by simp [repls, repls_eq t us]
mutual
theorem smallTy_repl {t : Ty} (ht : smallTy t) : ∀ a : Ty, smallTy a → smallTy (repl t a)
  | .mk k n v us, h => by
    simp only [repl]
    split
    · exact ht
    · exact ⟨by rw [repls_eq]; simpa using h.1, smallTys_repl ht us h.2⟩
theorem smallTys_repl {t : Ty} (ht : smallTy t) : ∀ l : List Ty, smallTys l → smallTys (repls t l)
  | [], _ => trivial
  | a :: l, h => ⟨smallTy_repl ht a h.1, smallTys_repl ht l h.2⟩
end
mutual
theorem app_repl (t : Ty) : ∀ a : Ty, canon (app (fun _ => some t) a) = canon (repl t a)
  | .mk k n v us => by
    by_cases hk : k = 0
    · simp only [app, repl, if_pos hk]
    · simp only [app, repl, if_neg hk]
      exact (canon_mk ..).2 ⟨rfl, fun _ => rfl, fun h => absurd h hk, apps_repl t us⟩
theorem apps_repl (t : Ty) : ∀ l : List Ty, canons (apps (fun _ => some t) l) = canons (repls t l)
  | [] => rfl
  | a :: l => by simp only [apps, repls, canons, app_repl t a, apps_repl t l]
end
theorem replaced_ok (hΓ : ∀ g cs, (g, cs) ∈ Γ → idsL isO cs) (t : Ty) (hts : smallTy t) : ∀ (a : Ty) (ha : smallTy a), APure Tryd.prog Γ 22 [.agg (cTy a), .agg (cTy t)] (.agg (cTy (repl t a)))
  | .mk k n v ts, ht => by
    have ih : ∀ a ∈ ts, APure Tryd.prog Γ 22 [.agg (cTy a), .agg (cTy t)] (.agg (cTy (repl t a))) := fun a ha => replaced_ok hΓ t hts a (smallTys_iff.1 ht.2 a ha)
    have hlen := ht.1
    intro ou
    refine AFn.walk 34 tabOk Tryd.func22 rfl (by kernel_rfl) rfl rfl fun hou => ?_
    repeat first | (with_reducible refine oj ?_; refine AOps.auto tabOk rfl ?_) | (with_reducible first | refine o1 ?_ | refine o2 ?_ | refine o3 ?_ | refine o4 ?_ | refine o5 ?_ | refine o6 ?_ | refine o7 ?_ | refine o8 ?_ | refine o9 ?_ | refine oa ?_ | refine ob ?_ | refine oc ?_ | refine od ?_ | refine oe ?_ | refine og ?_ | refine oh ?_ | refine oi ?_) | (with_reducible refine cExitMiss ?_ ?_; rfl) | (with_reducible refine ok ?_; first | refine ACode.condT rfl ?_ | refine ACode.condF rfl ?_)
    refine ACode.cond rfl (fun hb => ?_) (fun hb => ?_)
    · have hk : k = 0 := by simpa using hb
      repeat first | (with_reducible refine oj ?_; refine AOps.auto tabOk rfl ?_) | (with_reducible first | refine o1 ?_ | refine o2 ?_ | refine o3 ?_ | refine o4 ?_ | refine o5 ?_ | refine o6 ?_ | refine o7 ?_ | refine o8 ?_ | refine o9 ?_ | refine oa ?_ | refine ob ?_ | refine oc ?_ | refine od ?_ | refine oe ?_ | refine og ?_ | refine oh ?_ | refine oi ?_) | (with_reducible refine cExitMiss ?_ ?_; rfl) | (with_reducible refine ok ?_; first | refine ACode.condT rfl ?_ | refine ACode.condF rfl ?_)
      refine APure.fin rfl (WkF.ofEq ?_) (ids_cTy _ _) hou rfl
      rw [show repl t (.mk k n v ts) = t by simp [repl, hk]]; rfl
    · have hk : k ≠ 0 := by simpa using hb
      repeat first | (with_reducible refine oj ?_; refine AOps.auto tabOk rfl ?_) | (with_reducible first | refine o1 ?_ | refine o2 ?_ | refine o3 ?_ | refine o4 ?_ | refine o5 ?_ | refine o6 ?_ | refine o7 ?_ | refine o8 ?_ | refine o9 ?_ | refine oa ?_ | refine ob ?_ | refine oc ?_ | refine od ?_ | refine oe ?_ | refine og ?_ | refine oh ?_ | refine oi ?_) | (with_reducible refine cExitMiss ?_ ?_; rfl) | (with_reducible refine ok ?_; first | refine ACode.condT rfl ?_ | refine ACode.condF rfl ?_)
      refine ACode.grow 3 3 36 4 rfl rfl ?_
      refine ACode.loopR hΓ (α := Nat) (fun j => [(20, .one (int j)), (19, .one (int (encTys ts).length)), (18, .one (.sl 4 (encTys ts))), (5, .one (.ptr (.l 3) 0)), (4, .one (.ptr (.l 2) 0)), (3, .one (.ptr (.l 1) 0))])
        (fun j => ⟨5, [(4, .tok 36 4 j), (3, .cells [int k, str n, int 0, .gs 4 (encTys (repls t (ts.take j))) (.l 4)]), (2, .cells [int 0, str ⟨#[]⟩, int 0, .lit (.slice none 0 0)]), (1, .cells (cTy t))], ou⟩)
        (fun m j => j ≤ ts.length ∧ m = ts.length - j) (a0 := 0) (ρ := id) ⟨by omega, rfl⟩ (LessR.of rfl (by (repeat' first | exact FrSub.nil | refine FrSub.cons rfl (.ofEq rfl) ?_ | refine FrSub.consP rfl (.ofEq rfl) (by simp) ?_)) (by simp) (by repeat' first | exact LoSub.nil | refine LoSub.cons rfl ?_ rfl (by simp) ?_ | rfl | (refine (AObj.ren_pure _ _ ?_).symm; simp; done) | (simp [AObj.ren, renL, AC.ren, cTy]; done) | (simp [AObj.ren, renL, AC.ren, cTy]; rfl)) rfl rfl hou) fun m j hj => ?_
      obtain ⟨hjl, rfl⟩ := hj
      repeat first | (with_reducible refine oj ?_; refine AOps.auto tabOk rfl ?_) | (with_reducible first | refine o1 ?_ | refine o2 ?_ | refine o3 ?_ | refine o4 ?_ | refine o5 ?_ | refine o6 ?_ | refine o7 ?_ | refine o8 ?_ | refine o9 ?_ | refine oa ?_ | refine ob ?_ | refine oc ?_ | refine od ?_ | refine oe ?_ | refine og ?_ | refine oh ?_ | refine oi ?_) | (with_reducible refine cExitMiss ?_ ?_; rfl) | (with_reducible refine ok ?_; first | refine ACode.condT rfl ?_ | refine ACode.condF rfl ?_)
      refine ACode.cond rfl (fun hb2 => ?_) (fun hb2 => ?_)
      · have hlt : j < ts.length := by simpa using hb2
        obtain ⟨a, ha⟩ := get_of_lt hlt
        have hca := ih a (List.mem_of_getElem? ha)
        repeat first | (with_reducible refine oj ?_; refine AOps.auto tabOk rfl ?_) | (with_reducible first | refine o1 ?_ | refine o2 ?_ | refine o3 ?_ | refine o4 ?_ | refine o5 ?_ | refine o6 ?_ | refine o7 ?_ | refine o8 ?_ | refine o9 ?_ | refine oa ?_ | refine ob ?_ | refine oc ?_ | refine od ?_ | refine oe ?_ | refine og ?_ | refine oh ?_ | refine oi ?_) | (with_reducible refine cExitMiss ?_ ?_; rfl) | (with_reducible refine ok ?_; first | refine ACode.condT rfl ?_ | refine ACode.condF rfl ?_)
        refine AOps.step1 rfl rfl rfl (AStep.indexAddr tabOk rfl rfl rfl rfl rfl rfl (.inl rfl) rfl (by omega) (by simpa using encTys_get ha)) ?_
        repeat first | (with_reducible refine oj ?_; refine AOps.auto tabOk rfl ?_) | (with_reducible first | refine o1 ?_ | refine o2 ?_ | refine o3 ?_ | refine o4 ?_ | refine o5 ?_ | refine o6 ?_ | refine o7 ?_ | refine o8 ?_ | refine o9 ?_ | refine oa ?_ | refine ob ?_ | refine oc ?_ | refine od ?_ | refine oe ?_ | refine og ?_ | refine oh ?_ | refine oi ?_) | (with_reducible refine cExitMiss ?_ ?_; rfl) | (with_reducible refine ok ?_; first | refine ACode.condT rfl ?_ | refine ACode.condF rfl ?_)
        refine ACode.drawX tabOk 6 [(4, .agg (cTy (repl t a)))] follows (by kernel_rfl) rfl rfl rfl rfl (.call hΓ hca hou (by simp) rfl rfl rfl rfl rfl rfl .nil) ?_
        have hte : (encTys (repls t (ts.take j))).length = j := by simp [repls_eq]; omega
        repeat first | (with_reducible refine oj ?_; refine AOps.auto tabOk rfl ?_) | (with_reducible first | refine o1 ?_ | refine o2 ?_ | refine o3 ?_ | refine o4 ?_ | refine o5 ?_ | refine o6 ?_ | refine o7 ?_ | refine o8 ?_ | refine o9 ?_ | refine oa ?_ | refine ob ?_ | refine oc ?_ | refine od ?_ | refine oe ?_ | refine og ?_ | refine oh ?_ | refine oi ?_) | (with_reducible refine cExitMiss ?_ ?_; rfl) | (with_reducible refine ok ?_; first | refine ACode.condT rfl ?_ | refine ACode.condF rfl ?_)
        refine AOps.app tabOk rfl rfl rfl rfl rfl rfl rfl rfl rfl (Base.gs' _ _ _ _ _ (by rfl) hte.symm) (.sl _ _) rfl ?_ ?_ ?_
        · rw [hte]; show (j + 1) * 56 ≤ _; omega
        · rw [hte]; show j + 1 ≤ _; omega
        repeat first | (with_reducible refine oj ?_; refine AOps.auto tabOk rfl ?_) | (with_reducible first | refine o1 ?_ | refine o2 ?_ | refine o3 ?_ | refine o4 ?_ | refine o5 ?_ | refine o6 ?_ | refine o7 ?_ | refine o8 ?_ | refine o9 ?_ | refine oa ?_ | refine ob ?_ | refine oc ?_ | refine od ?_ | refine oe ?_ | refine og ?_ | refine oh ?_ | refine oi ?_) | (with_reducible refine cExitMiss ?_ ?_; rfl) | (with_reducible refine ok ?_; first | refine ACode.condT rfl ?_ | refine ACode.condF rfl ?_)
        refine AOps.step1 rfl rfl rfl (AStep.arith rfl rfl rfl (.inl ⟨rfl, rfl⟩) (inRange_i64 (by omega) (by omega))) ?_
        repeat first | (with_reducible refine oj ?_; refine AOps.auto tabOk rfl ?_) | (with_reducible first | refine o1 ?_ | refine o2 ?_ | refine o3 ?_ | refine o4 ?_ | refine o5 ?_ | refine o6 ?_ | refine o7 ?_ | refine o8 ?_ | refine o9 ?_ | refine oa ?_ | refine ob ?_ | refine oc ?_ | refine od ?_ | refine oe ?_ | refine og ?_ | refine oh ?_ | refine oi ?_) | (with_reducible refine cExitMiss ?_ ?_; rfl) | (with_reducible refine ok ?_; first | refine ACode.condT rfl ?_ | refine ACode.condF rfl ?_)
        refine cInv ⟨ts.length - (j + 1), j + 1, fun k => if k = 4 then 6 else k, by omega, ⟨by omega, rfl⟩, LessR.of rfl (by (repeat' first | exact FrSub.nil | refine FrSub.cons rfl (.ofEq rfl) ?_ | refine FrSub.consP rfl (.ofEq rfl) (by simp) ?_)) (by simp) ?_ rfl rfl hou⟩
        have hte2 : encTys (repls t (ts.take (j + 1))) = encTys (repls t (ts.take j)) ++ [cTy (repl t a)] := by
          simp [repls_eq, encTys_eq, List.take_add_one, ha]
        repeat' first | exact LoSub.nil | refine LoSub.cons rfl ?_ rfl (by simp) ?_ | rfl | (refine (AObj.ren_pure _ _ ?_).symm; simp; done) | (simp [AObj.ren, renL, AC.ren, cTy]; done) | (simp [AObj.ren, renL, AC.ren, cTy]; rfl)
        · simp [AObj.ren, hte]; rfl
        · simp only [AObj.ren, renL, AC.ren, ren_encTys]; rw [hte2]; rfl
      · have hlt : j = ts.length := by simp at hb2; omega
        subst hlt
        repeat first | (with_reducible refine oj ?_; refine AOps.auto tabOk rfl ?_) | (with_reducible first | refine o1 ?_ | refine o2 ?_ | refine o3 ?_ | refine o4 ?_ | refine o5 ?_ | refine o6 ?_ | refine o7 ?_ | refine o8 ?_ | refine o9 ?_ | refine oa ?_ | refine ob ?_ | refine oc ?_ | refine od ?_ | refine oe ?_ | refine og ?_ | refine oh ?_ | refine oi ?_) | (with_reducible refine cExitMiss ?_ ?_; rfl) | (with_reducible refine ok ?_; first | refine ACode.condT rfl ?_ | refine ACode.condF rfl ?_)
        refine APure.fin rfl (WkF.agg ?_) (ids_cTy _ _) hou rfl
        have hf : repl t (.mk k n v ts) = .mk k n 0 (repls t ts) := by simp [repl, hk]
        rw [hf]
        exact .cons (.refl _) <| .cons (.refl _) <| .cons (.refl _) <| .cons (.gsE (by simp)) .nil
theorem instF_ok (t : Ty) (hts : smallTy t) (a : Ty) (ha : smallTy a) : APure Tryd.prog Γ0 21 [.agg (cTy a), .one (.box (cTy t))] (.agg (cTy (repl t a))) := by
  intro ou
  refine AFn.walk 7 tabOk Tryd.func21 rfl (by kernel_rfl) rfl rfl fun hou => ?_
  repeat first | (with_reducible refine oj ?_; refine AOps.auto tabOk rfl ?_) | (with_reducible first | refine o1 ?_ | refine o2 ?_ | refine o3 ?_ | refine o4 ?_ | refine o5 ?_ | refine o6 ?_ | refine o7 ?_ | refine o8 ?_ | refine o9 ?_ | refine oa ?_ | refine ob ?_ | refine oc ?_ | refine od ?_ | refine oe ?_ | refine og ?_ | refine oh ?_ | refine oi ?_) | (with_reducible refine cExitMiss ?_ ?_; rfl) | (with_reducible refine ok ?_; first | refine ACode.condT rfl ?_ | refine ACode.condF rfl ?_)
  refine AOps.callC hΓ0 (replaced_ok hΓ0 t hts a ha) rfl rfl rfl rfl rfl rfl rfl hou (by simp) ?_
  repeat first | (with_reducible refine oj ?_; refine AOps.auto tabOk rfl ?_) | (with_reducible first | refine o1 ?_ | refine o2 ?_ | refine o3 ?_ | refine o4 ?_ | refine o5 ?_ | refine o6 ?_ | refine o7 ?_ | refine o8 ?_ | refine o9 ?_ | refine oa ?_ | refine ob ?_ | refine oc ?_ | refine od ?_ | refine oe ?_ | refine og ?_ | refine oh ?_ | refine oi ?_) | (with_reducible refine cExitMiss ?_ ?_; rfl) | (with_reducible refine ok ?_; first | refine ACode.condT rfl ?_ | refine ACode.condF rfl ?_)
  exact APure.fin rfl (WkF.ofEq rfl) (by simp) hou rfl
def rpPrd (t : Ty) (p : Prd) : Prd := ⟨p.cls, repl t p.ty⟩
def rpPrds (t : Ty) (l : List Prd) : List Prd := l.map (rpPrd t)
def rpSch (t : Ty) (s : Sch) : Sch := ⟨s.vars, rpPrds t s.preds, repl t s.ty⟩
@[simp] theorem rpPrds_len (t : Ty) (l : List Prd) : (rpPrds t l).length = l.length := by simp [rpPrds]
theorem rpPrd_succ {t : Ty} {ps : List Prd} {j : Nat} {p : Prd} (h : ps[j]? = some p) : (rpPrds t (ps.take (j + 1))).map cPrd = (rpPrds t (ps.take j)).map cPrd ++ [cPrd (rpPrd t p)] := by
  simp [rpPrds, List.take_add_one, h]
theorem genB_repl (t : Ty) (s : Sch) : genB s (rpSch t s) = true :=
  genB_of (fun _ => some t) (fun x _ => ⟨t, rfl⟩) (app_repl t s.ty) fun p hp => ⟨rpPrd t p, List.mem_map.2 ⟨p, hp, rfl⟩, rfl, fun _ => some t, fun x _ u hu => ⟨u, hu, rfl⟩, fun x _ => ⟨t, rfl⟩, app_repl t p.ty⟩
theorem SignatureInstance_ok (s : Sch) (t : Ty) (hs : okSch s) (hzs : SzC s) (ht : smallTy t) : APure Tryd.prog Γ0 7 [.agg (cSch s), .agg (cTy t)] (.one (.lit (.bool true))) := by
  have hsb : okSch (rpSch t s) := ⟨by simpa [rpSch] using hs.1, smallTy_repl ht _ hs.2.1, fun p hp => by
    obtain ⟨q, hq, rfl⟩ := List.mem_map.1 hp
    exact smallTy_repl ht _ (hs.2.2 q hq)⟩
  have hzb : SzC (rpSch t s) := fun p hp => by
    obtain ⟨q, hq, rfl⟩ := List.mem_map.1 hp
    exact hzs q hq
  have c1 := General_ok s s hs hzs hs hzs
  have c2 := General_ok s (rpSch t s) hs hzs hsb hzb
  have k1 := genR_err (a := s) (b := s)
  have k2 : (genR s s).2 = 0 → (genR s s).1 = true := fun h => by
    rw [(genR_ok h).2.2]
    exact genB_refl (schErr_wf (genR_ok h).1)
  have k3 : (genR s (rpSch t s)).2 = 0 → (genR s (rpSch t s)).1 = true := fun h => by
    rw [(genR_ok h).2.2]
    exact genB_repl t s
  generalize genR s s = r1 at c1 k1 k2
  generalize genR s (rpSch t s) = r2 at c2 k3
  obtain ⟨i1, e1⟩ := r1
  obtain ⟨i2, e2⟩ := r2
  simp only at c1 c2 k1 k2 k3
  have hpl := hs.1
  intro ou
  refine AFn.walk 69 tabOk Tryd.func7 rfl (by kernel_rfl) rfl rfl fun hou => ?_
  repeat first | (with_reducible refine oj ?_; refine AOps.auto tabOk rfl ?_) | (with_reducible first | refine o1 ?_ | refine o2 ?_ | refine o3 ?_ | refine o4 ?_ | refine o5 ?_ | refine o6 ?_ | refine o7 ?_ | refine o8 ?_ | refine o9 ?_ | refine oa ?_ | refine ob ?_ | refine oc ?_ | refine od ?_ | refine oe ?_ | refine og ?_ | refine oh ?_ | refine oi ?_) | (with_reducible refine cExitMiss ?_ ?_; rfl) | (with_reducible refine ok ?_; first | refine ACode.condT rfl ?_ | refine ACode.condF rfl ?_)
  refine AOps.freeze1 (.l 1) 3 rfl rfl ?_
  refine AOps.callC hΓ0 fact_true rfl rfl rfl rfl rfl rfl rfl hou (by simp) ?_
  repeat first | (with_reducible refine oj ?_; refine AOps.auto tabOk rfl ?_) | (with_reducible first | refine o1 ?_ | refine o2 ?_ | refine o3 ?_ | refine o4 ?_ | refine o5 ?_ | refine o6 ?_ | refine o7 ?_ | refine o8 ?_ | refine o9 ?_ | refine oa ?_ | refine ob ?_ | refine oc ?_ | refine od ?_ | refine oe ?_ | refine og ?_ | refine oh ?_ | refine oi ?_) | (with_reducible refine cExitMiss ?_ ?_; rfl) | (with_reducible refine ok ?_; first | refine ACode.condT rfl ?_ | refine ACode.condF rfl ?_)
  refine AOps.callC hΓ0 c1 rfl rfl rfl rfl rfl rfl rfl hou (by simp) ?_
  repeat first | (with_reducible refine oj ?_; refine AOps.auto tabOk rfl ?_) | (with_reducible first | refine o1 ?_ | refine o2 ?_ | refine o3 ?_ | refine o4 ?_ | refine o5 ?_ | refine o6 ?_ | refine o7 ?_ | refine o8 ?_ | refine o9 ?_ | refine oa ?_ | refine ob ?_ | refine oc ?_ | refine od ?_ | refine oe ?_ | refine og ?_ | refine oh ?_ | refine oi ?_) | (with_reducible refine cExitMiss ?_ ?_; rfl) | (with_reducible refine ok ?_; first | refine ACode.condT rfl ?_ | refine ACode.condF rfl ?_)
  refine ACode.cond rfl (fun hb => ?_) (fun hb => ?_)
  · have h1 : e1 ≠ 0 := by simpa using hb
    repeat first | (with_reducible refine oj ?_; refine AOps.auto tabOk rfl ?_) | (with_reducible first | refine o1 ?_ | refine o2 ?_ | refine o3 ?_ | refine o4 ?_ | refine o5 ?_ | refine o6 ?_ | refine o7 ?_ | refine o8 ?_ | refine o9 ?_ | refine oa ?_ | refine ob ?_ | refine oc ?_ | refine od ?_ | refine oe ?_ | refine og ?_ | refine oh ?_ | refine oi ?_) | (with_reducible refine cExitMiss ?_ ?_; rfl) | (with_reducible refine ok ?_; first | refine ACode.condT rfl ?_ | refine ACode.condF rfl ?_)
    refine APure.fin rfl (WkF.ofEq ?_) (by simp) hou rfl
    rw [k1 h1]; rfl
  have h1 : e1 = 0 := by simpa using hb
  obtain rfl := k2 h1
  repeat first | (with_reducible refine oj ?_; refine AOps.auto tabOk rfl ?_) | (with_reducible first | refine o1 ?_ | refine o2 ?_ | refine o3 ?_ | refine o4 ?_ | refine o5 ?_ | refine o6 ?_ | refine o7 ?_ | refine o8 ?_ | refine o9 ?_ | refine oa ?_ | refine ob ?_ | refine oc ?_ | refine od ?_ | refine oe ?_ | refine og ?_ | refine oh ?_ | refine oi ?_) | (with_reducible refine cExitMiss ?_ ?_; rfl) | (with_reducible refine ok ?_; first | refine ACode.condT rfl ?_ | refine ACode.condF rfl ?_)
  refine ACode.cond rfl (fun hb => ?_) (fun hb => ?_)
  · repeat first | (with_reducible refine oj ?_; refine AOps.auto tabOk rfl ?_) | (with_reducible first | refine o1 ?_ | refine o2 ?_ | refine o3 ?_ | refine o4 ?_ | refine o5 ?_ | refine o6 ?_ | refine o7 ?_ | refine o8 ?_ | refine o9 ?_ | refine oa ?_ | refine ob ?_ | refine oc ?_ | refine od ?_ | refine oe ?_ | refine og ?_ | refine oh ?_ | refine oi ?_) | (with_reducible refine cExitMiss ?_ ?_; rfl) | (with_reducible refine ok ?_; first | refine ACode.condT rfl ?_ | refine ACode.condF rfl ?_)
    exact APure.fin rfl (WkF.ofEq rfl) (by simp) hou rfl
  repeat first | (with_reducible refine oj ?_; refine AOps.auto tabOk rfl ?_) | (with_reducible first | refine o1 ?_ | refine o2 ?_ | refine o3 ?_ | refine o4 ?_ | refine o5 ?_ | refine o6 ?_ | refine o7 ?_ | refine o8 ?_ | refine o9 ?_ | refine oa ?_ | refine ob ?_ | refine oc ?_ | refine od ?_ | refine oe ?_ | refine og ?_ | refine oh ?_ | refine oi ?_) | (with_reducible refine cExitMiss ?_ ?_; rfl) | (with_reducible refine ok ?_; first | refine ACode.condT rfl ?_ | refine ACode.condF rfl ?_)
  refine ACode.drawXA tabOk 8 7 [(5, .agg (cTy (repl t s.ty)))] follows (by kernel_rfl) rfl rfl rfl rfl rfl rfl rfl rfl rfl ?_ ?_ ?_
  · exact .call hΓ0 (instF_ok t ht s.ty hs.2.1) hou (by simp) rfl rfl rfl rfl rfl rfl .nil
  · exact .call hΓ0 (instF_ok t ht s.ty hs.2.1) hou (by simp) rfl rfl rfl rfl rfl rfl .nil
  repeat first | (with_reducible refine oj ?_; refine AOps.auto tabOk rfl ?_) | (with_reducible first | refine o1 ?_ | refine o2 ?_ | refine o3 ?_ | refine o4 ?_ | refine o5 ?_ | refine o6 ?_ | refine o7 ?_ | refine o8 ?_ | refine o9 ?_ | refine oa ?_ | refine ob ?_ | refine oc ?_ | refine od ?_ | refine oe ?_ | refine og ?_ | refine oh ?_ | refine oi ?_) | (with_reducible refine cExitMiss ?_ ?_; rfl) | (with_reducible refine ok ?_; first | refine ACode.condT rfl ?_ | refine ACode.condF rfl ?_)
  refine ACode.grow 2 1 56 5 rfl rfl ?_
  refine ACode.loopR hΓ0 (α := Nat) (fun j => [(41, .one (int j)), (40, .one (int (s.preds.map cPrd).length)), (39, .one (.sl 5 (s.preds.map cPrd))), (8, .one (.ptr (.l 2) 0)), (7, .one (.fn (.func 21) [] [.box (cTy t)])), (2, .one (.ptr (.l 0) 0))])
    (fun j => ⟨4, [(3, .tok 56 5 j), (2, .cells (int s.vars :: .gs 5 ((rpPrds t (s.preds.take j)).map cPrd) (.l 3) :: cTy (repl t s.ty))), (0, .cells (cSch s))], ou⟩)
    (fun m j => j ≤ s.preds.length ∧ m = s.preds.length - j) (a0 := 0) (ρ := id) ⟨by omega, rfl⟩ (LessR.of rfl (by (repeat' first | exact FrSub.nil | refine FrSub.cons rfl (.ofEq rfl) ?_ | refine FrSub.consP rfl (.ofEq rfl) (by simp) ?_)) (by simp) ?_ rfl rfl hou) fun m j hj => ?_
  · repeat' first | exact LoSub.nil | refine LoSub.cons rfl ?_ rfl (by simp) ?_ | rfl | (refine (AObj.ren_pure _ _ ?_).symm; simp; done) | (simp [AObj.ren, renL, AC.ren, cTy]; done) | (simp [AObj.ren, renL, AC.ren, cTy]; rfl)
    simp only [AObj.ren, renL, AC.ren, ren_prds]; rw [renL_pure _ (cTy _) (by simp)]; rfl
  obtain ⟨hjl, rfl⟩ := hj
  repeat first | (with_reducible refine oj ?_; refine AOps.auto tabOk rfl ?_) | (with_reducible first | refine o1 ?_ | refine o2 ?_ | refine o3 ?_ | refine o4 ?_ | refine o5 ?_ | refine o6 ?_ | refine o7 ?_ | refine o8 ?_ | refine o9 ?_ | refine oa ?_ | refine ob ?_ | refine oc ?_ | refine od ?_ | refine oe ?_ | refine og ?_ | refine oh ?_ | refine oi ?_) | (with_reducible refine cExitMiss ?_ ?_; rfl) | (with_reducible refine ok ?_; first | refine ACode.condT rfl ?_ | refine ACode.condF rfl ?_)
  refine ACode.cond rfl (fun hb2 => ?_) (fun hb2 => ?_)
  · have hlt : j < s.preds.length := by simpa using hb2
    obtain ⟨a, ha⟩ := get_of_lt hlt
    repeat first | (with_reducible refine oj ?_; refine AOps.auto tabOk rfl ?_) | (with_reducible first | refine o1 ?_ | refine o2 ?_ | refine o3 ?_ | refine o4 ?_ | refine o5 ?_ | refine o6 ?_ | refine o7 ?_ | refine o8 ?_ | refine o9 ?_ | refine oa ?_ | refine ob ?_ | refine oc ?_ | refine od ?_ | refine oe ?_ | refine og ?_ | refine oh ?_ | refine oi ?_) | (with_reducible refine cExitMiss ?_ ?_; rfl) | (with_reducible refine ok ?_; first | refine ACode.condT rfl ?_ | refine ACode.condF rfl ?_)
    refine AOps.step1 rfl rfl rfl (AStep.indexAddr tabOk rfl rfl rfl rfl rfl rfl (.inl rfl) rfl (by omega) (map_get ha)) ?_
    repeat first | (with_reducible refine oj ?_; refine AOps.auto tabOk rfl ?_) | (with_reducible first | refine o1 ?_ | refine o2 ?_ | refine o3 ?_ | refine o4 ?_ | refine o5 ?_ | refine o6 ?_ | refine o7 ?_ | refine o8 ?_ | refine o9 ?_ | refine oa ?_ | refine ob ?_ | refine oc ?_ | refine od ?_ | refine oe ?_ | refine og ?_ | refine oh ?_ | refine oi ?_) | (with_reducible refine cExitMiss ?_ ?_; rfl) | (with_reducible refine ok ?_; first | refine ACode.condT rfl ?_ | refine ACode.condF rfl ?_)
    refine ACode.drawX tabOk 10 [(7, .agg (cTy (repl t a.ty)))] follows (by kernel_rfl) rfl rfl rfl rfl ?_ ?_
    · exact .call hΓ0 (instF_ok t ht a.ty (hs.2.2 a (List.mem_of_getElem? ha))) hou (by simp) rfl rfl rfl rfl rfl rfl .nil
    repeat first | (with_reducible refine oj ?_; refine AOps.auto tabOk rfl ?_) | (with_reducible first | refine o1 ?_ | refine o2 ?_ | refine o3 ?_ | refine o4 ?_ | refine o5 ?_ | refine o6 ?_ | refine o7 ?_ | refine o8 ?_ | refine o9 ?_ | refine oa ?_ | refine ob ?_ | refine oc ?_ | refine od ?_ | refine oe ?_ | refine og ?_ | refine oh ?_ | refine oi ?_) | (with_reducible refine cExitMiss ?_ ?_; rfl) | (with_reducible refine ok ?_; first | refine ACode.condT rfl ?_ | refine ACode.condF rfl ?_)
    refine AOps.app tabOk rfl rfl rfl rfl rfl rfl rfl rfl rfl (Base.gs' _ _ _ _ _ (by rfl) (by simp; omega)) (.sl _ _) rfl ?_ ?_ ?_
    · simp; show (min j s.preds.length + 1) * 72 ≤ _; omega
    · simp; omega
    repeat first | (with_reducible refine oj ?_; refine AOps.auto tabOk rfl ?_) | (with_reducible first | refine o1 ?_ | refine o2 ?_ | refine o3 ?_ | refine o4 ?_ | refine o5 ?_ | refine o6 ?_ | refine o7 ?_ | refine o8 ?_ | refine o9 ?_ | refine oa ?_ | refine ob ?_ | refine oc ?_ | refine od ?_ | refine oe ?_ | refine og ?_ | refine oh ?_ | refine oi ?_) | (with_reducible refine cExitMiss ?_ ?_; rfl) | (with_reducible refine ok ?_; first | refine ACode.condT rfl ?_ | refine ACode.condF rfl ?_)
    refine AOps.step1 rfl rfl rfl (AStep.arith rfl rfl rfl (.inl ⟨rfl, rfl⟩) (inRange_i64 (by omega) (by omega))) ?_
    repeat first | (with_reducible refine oj ?_; refine AOps.auto tabOk rfl ?_) | (with_reducible first | refine o1 ?_ | refine o2 ?_ | refine o3 ?_ | refine o4 ?_ | refine o5 ?_ | refine o6 ?_ | refine o7 ?_ | refine o8 ?_ | refine o9 ?_ | refine oa ?_ | refine ob ?_ | refine oc ?_ | refine od ?_ | refine oe ?_ | refine og ?_ | refine oh ?_ | refine oi ?_) | (with_reducible refine cExitMiss ?_ ?_; rfl) | (with_reducible refine ok ?_; first | refine ACode.condT rfl ?_ | refine ACode.condF rfl ?_)
    refine cInv ⟨s.preds.length - (j + 1), j + 1, fun k => if k = 3 then 5 else k, by omega, ⟨by omega, rfl⟩, LessR.of rfl (by (repeat' first | exact FrSub.nil | refine FrSub.cons rfl (.ofEq rfl) ?_ | refine FrSub.consP rfl (.ofEq rfl) (by simp) ?_)) (by simp) ?_ rfl rfl hou⟩
    have : j ≤ s.preds.length := by omega
    repeat' first | exact LoSub.nil | refine LoSub.cons rfl ?_ rfl (by simp) ?_ | rfl | (refine (AObj.ren_pure _ _ ?_).symm; simp; done) | (simp [AObj.ren, renL, AC.ren, cTy]; done) | (simp [AObj.ren, renL, AC.ren, cTy]; rfl)
    · simp [AObj.ren, Nat.min_eq_left this]; rfl
    · simp only [AObj.ren, renL, AC.ren, ren_prds]; rw [rpPrd_succ ha, renL_pure _ (cTy _) (by simp)]; rfl
  · have hlt : j = s.preds.length := by simp at hb2; omega
    subst hlt
    repeat first | (with_reducible refine oj ?_; refine AOps.auto tabOk rfl ?_) | (with_reducible first | refine o1 ?_ | refine o2 ?_ | refine o3 ?_ | refine o4 ?_ | refine o5 ?_ | refine o6 ?_ | refine o7 ?_ | refine o8 ?_ | refine o9 ?_ | refine oa ?_ | refine ob ?_ | refine oc ?_ | refine od ?_ | refine oe ?_ | refine og ?_ | refine oh ?_ | refine oi ?_) | (with_reducible refine cExitMiss ?_ ?_; rfl) | (with_reducible refine ok ?_; first | refine ACode.condT rfl ?_ | refine ACode.condF rfl ?_)
    refine AOps.wk 60 (y := .agg (cSch (rpSch t s))) rfl (WkF.agg ?_) ?_
    · exact .cons (.refl _) (.cons (.gsE (by simp [rpSch])) (.refl _))
    refine AOps.callC hΓ0 c2 rfl rfl rfl rfl rfl rfl rfl hou (by simp) ?_
    repeat' first | (with_reducible refine oj ?_; refine AOps.auto tabOk rfl ?_) | (with_reducible first | refine o1 ?_ | refine o2 ?_ | refine o3 ?_ | refine o4 ?_ | refine o5 ?_ | refine o6 ?_ | refine o7 ?_ | refine o8 ?_ | refine o9 ?_ | refine oa ?_ | refine ob ?_ | refine oc ?_ | refine od ?_ | refine oe ?_ | refine og ?_ | refine oh ?_ | refine oi ?_) | (with_reducible refine cExitMiss ?_ ?_; rfl) | (with_reducible refine ok ?_; first | refine ACode.condT rfl ?_ | refine ACode.condF rfl ?_) | (with_reducible refine oj ?_; refine AOps.splitS rfl rfl rfl rfl (fun hb => ?_) (fun hb => ?_)) | (with_reducible refine ok ?_; refine ACode.cond rfl (fun hb => ?_) (fun hb => ?_))
    all_goals refine APure.fin rfl (WkF.ofEq ?_) (by simp) hou rfl
    · simp_all
    · simp_all
theorem szC_of {s : Sch} (h : bSch s ≤ 1048576) : SzC s := fun p hp => by
  simp only [bSch, bPrds] at h
  have := sum_mem (f := bPrd) hp
  simp only [bPrd] at this
  omega
end Go.Proofs.YtoojdmgbffnmiaaDoor
/- The abstract layer, part Z: a function that hands an object of its own to its caller. No condition. -/
namespace Go.Abs
set_option linter.unusedVariables false
set_option linter.unusedSimpArgs false
/-- The outer objects with one more. -/
def updO (ou : Outer) (k : Nat) (o : AObj) : Outer := fun j => bif Nat.beq k j then some o else ou j
theorem updO_same (ou : Outer) (k : Nat) (o : AObj) : updO ou k o k = some o := by simp [updO]
theorem updO_ne (ou : Outer) {k j : Nat} (h : k ≠ j) (o : AObj) : updO ou k o j = ou j := by simp [updO, beq_no h]
def toO (j k : Nat) : Id → Id
  | .l i => bif Nat.beq i j then .o k else .l i
  | .o i => .o i
def toL (k n : Nat) : Id → Id
  | .o i => bif Nat.beq i k then .l n else .o i
  | .l i => .l i
def isOr (j : Nat) : Id → Prop
  | .l i => i = j
  | .o _ => True
theorem ObjOk.move {w : World} {C C' : Ctx} {F : Nat → Prop} {a b : Id} {o : AObj} (p : Id → Prop) (hc : Chg p w C w C') (hprot : ∀ x, C'.prot x → C.prot x) (hblk : C'.blk b = C.blk a) (htok : C'.tok b = C.tok a) (hids : o.ids p) (h : ObjOk w C F a o) : ObjOk w C' F b o := by
  cases o with
  | cells cs =>
    obtain ⟨xs, T, h1, h2, h3, h4⟩ := h
    exact ⟨xs, T, by rw [hblk]; exact h1, by rw [hblk]; exact h2, RV.chg hc cs xs hids h3, fun x ha hpa => h4 x (by rw [ha, hblk]) (hprot x hpa)⟩
  | map ck es =>
    obtain ⟨ents, h1, h2, h3⟩ := h
    exact ⟨ents, by rw [hblk]; exact h1, by rw [hblk]; exact h2, RM.chg hc es ents hids h3⟩
  | iter m since seen last =>
    obtain ⟨h1, h2, h3⟩ := h
    obtain ⟨m1, m2, _⟩ := hc.id m hids h3
    exact ⟨by rw [hblk, m2]; exact h1, by rw [hblk]; exact h2, m1⟩
  | sit s q =>
    obtain ⟨h1, h2⟩ := h
    exact ⟨by rw [hblk]; exact h1, by rw [hblk]; exact h2⟩
  | tok e s used =>
    simp only [ObjOk, htok] at *
    cases ht : C.tok a with
    | none => rw [ht] at h; exact h
    | some gc =>
      obtain ⟨g, cap⟩ := gc
      simp only [ht] at h ⊢
      obtain ⟨xs, h1, h2, h3, h4, h6, h5⟩ := h
      exact ⟨xs, h1, h2, h3, h4, h6, fun x ha hpa => h5 x ha (hprot x hpa)⟩
  | dead => trivial
theorem AObj.block_move {C C' : Ctx} {a b : Id} {o : AObj} (hblk : C'.blk b = C.blk a) (htok : C'.tok b = C.tok a) : o.block C' b = o.block C a := by
  cases o <;> simp [AObj.block, hblk, htok]
/-- An object takes another name. -/
theorem Inv.retag {Γ : List (Nat × List AC)} {F : Nat → Prop} {w : World} {C C' : Ctx} {σ σ' : St} (hi : Inv Γ F w C σ) (p : Id → Prop) (hc : Chg p w C w C') (hprot : ∀ x, C'.prot x → C.prot x) (hΓ : ∀ g cs, (g, cs) ∈ Γ → idsL p cs) (hn : C'.nl = σ'.n)
    {a b : Id} {o : AObj} (ha : σ.get a = some o) (hob : C'.ok b) (hblk : C'.blk b = C.blk a) (htok : C'.tok b = C.tok a) (hids : o.ids p) (hb : σ'.get b = some o)
    (hrest : ∀ i x, i ≠ b → σ'.get i = some x → p i ∧ x.ids p ∧ i ≠ a ∧ σ.get i = some x) : Inv Γ F w C' σ' := by
  refine ⟨hi.base, hn, fun g cs h => RG.chg hc (hΓ g cs h) (hi.glob g cs h), fun x hx => hi.prot x (hprot x hx), fun i x hx => ?_, fun i j x y g h1 h2 h3 h4 => ?_⟩
  · by_cases e : i = b
    · subst e
      rw [hb] at hx; injection hx with hx; subst hx
      exact ⟨hob, ObjOk.move p hc hprot hblk htok hids (hi.obj a _ ha).2⟩
    · obtain ⟨h1, h2, h3, h4⟩ := hrest i x e hx
      obtain ⟨g1, g2⟩ := hi.obj i x h4
      exact ⟨(hc.id i h1 g1).1, g2.ctx p h2 h1 g1 hc hprot (fun _ h => h)⟩
  · have key : ∀ i x, i ≠ b → σ'.get i = some x → x.block C' i = x.block C i := fun i x e hx => by
      obtain ⟨h1, h2, h3, h4⟩ := hrest i x e hx
      exact AObj.block_ctx p h1 (hi.obj i x h4).1 hc
    by_cases e : i = b
    · by_cases e2 : j = b
      · rw [e, e2]
      · subst e
        rw [hb] at h1; injection h1 with h1; subst h1
        rw [AObj.block_move hblk htok] at h3
        rw [key j y e2 h2] at h4
        obtain ⟨k1, k2, k3, k4⟩ := hrest j y e2 h2
        exact (k3 (hi.inj a j _ y g ha k4 h3 h4).symm).elim
    · by_cases e2 : j = b
      · subst e2
        rw [hb] at h2; injection h2 with h2; subst h2
        rw [AObj.block_move hblk htok] at h4
        rw [key i x e h1] at h3
        obtain ⟨k1, k2, k3, k4⟩ := hrest i x e h1
        exact (k3 (hi.inj i a x _ g k4 ha h3 h4)).elim
      · obtain ⟨k1, k2, k3, k4⟩ := hrest i x e h1
        obtain ⟨m1, m2, m3, m4⟩ := hrest j y e2 h2
        rw [key i x e h1] at h3
        rw [key j y e2 h2] at h4
        exact hi.inj i j x y g k4 m4 h3 h4
/-- The caller takes an outer object ws its own. -/
theorem AOps.adopt {E : Env} {ops : Array Oper} {rest : List Oper} {K : Cont} {fr : Fr} {n : Nat} {lo : List (Nat × AObj)} {ou : Outer} {d k : Nat} {r : FV} {o : AObj} (hk : ou k = none) (ho : o.ids (fun _ => False))
    (h : AOps E ops rest K ((d, r.sub (toL k n)) :: fr) ⟨n + 1, (n, o) :: lo, ou⟩) : AOps E ops rest K ((d, r) :: fr) ⟨n, lo, updO ou k o⟩ := by
  intro F w0 C0 w C tmps hg hi hf
  have hnl : C.nl = n := hi.next
  have ha : St.get ⟨n, lo, updO ou k o⟩ (.o k) = some o := updO_same ou k o
  let C' : Ctx := { C with nl := n + 1, phi := fun i => match i with | .l j => if j = n then C.phi (.o k) else C.phi (.l j) | .o j => C.phi (.o j), tk := fun i => match i with | .l j => if j = n then C.tk (.o k) else C.tk (.l j) | .o j => C.tk (.o j) }
  have hc : Ext w C w C' := ⟨fun _ _ => rfl, fun _ h => h, fun i _ hk => by
    cases i with
    | o j => exact ⟨hk, rfl, rfl⟩
    | l j =>
      have hj : j < n := by rw [← hnl]; exact hk
      refine ⟨Nat.lt_succ_of_lt hj, ?_, ?_⟩
      · show (if j = n then _ else _) = _; rw [if_neg (by omega)]; rfl
      · show (if j = n then _ else _) = _; rw [if_neg (by omega)]; rfl⟩
  have hblk : C'.blk (.l n) = C.blk (.o k) := by show (if n = n then _ else _) = _; rw [if_pos rfl]; rfl
  have htok : C'.tok (.l n) = C.tok (.o k) := by show (if n = n then _ else _) = _; rw [if_pos rfl]; rfl
  have hi' : Inv E.Γ F w C' ⟨n + 1, (n, o) :: lo, ou⟩ := by
    refine hi.retag (a := .o k) (b := .l n) (fun _ => True) hc (fun _ h => h) (fun g cs h => idsL_true cs) rfl ha (show n < n + 1 by omega) hblk htok ?_ (by simp [St.get, lookL]) fun i x e hx => ?_
    · cases o with
      | cells cs => exact idsL_true cs
      | map ck es => exact fun x hx => FV.ids_true _
      | iter m a b c => trivial
      | sit s q => trivial
      | tok e s u => trivial
      | dead => trivial
    · refine ⟨trivial, ?_, ?_⟩
      · cases x with
        | cells cs => exact idsL_true cs
        | map ck es => exact fun x hx => FV.ids_true _
        | iter m a b c => trivial
        | sit s q => trivial
        | tok e s u => trivial
        | dead => trivial
      · cases i with
        | o j =>
          have hx' : ou j = some x := hx
          have hne : j ≠ k := fun e => by rw [e, hk] at hx'; cases hx'
          exact ⟨fun e => hne (by injection e), by show updO ou k o j = _; rw [updO_ne _ (Ne.symm hne)]; exact hx'⟩
        | l j =>
          have hne : n ≠ j := fun h => e (by rw [h])
          refine ⟨(fun e => by cases e), ?_⟩
          have : St.get ⟨n + 1, (n, o) :: lo, ou⟩ (.l j) = lookL j lo := lookL_cons_ne hne o lo
          rw [this] at hx
          exact hx
  have hb : Bus (toL k n) (fun _ => True) w C' C := ⟨fun _ h => h, fun i _ hk' => by
    cases i with
    | l j => exact hc.id (.l j) trivial hk'
    | o j =>
      by_cases e : j = k
      · subst e
        simp only [toL, beq_self, cond_true]
        exact ⟨Nat.lt_succ_self n, hblk, htok⟩
      · simp only [toL, beq_no e, cond_false]
        exact hc.id (.o j) trivial hk'⟩
  refine h F w0 C0 w C' tmps (hg.trans ⟨Stp.refl _ _, hc.weaken (fun _ _ => trivial), Nat.le_refl _, NewP.refl _ _⟩) hi' ⟨hf.1, fun j x hx => ?_⟩
  by_cases e : d = j
  · subst e
    simp [Fr.get] at hx
    subst hx
    obtain ⟨u, hu, hr⟩ := hf.2 d r (by simp [Fr.get])
    exact ⟨u, hu, RF.bus hb r u (FV.ids_true r) hr⟩
  · obtain ⟨u, hu, hr⟩ := hf.2 j x (by simpa [Fr.get, beq_no e] using hx)
    exact ⟨u, hu, hr.ext hc⟩
/-- What is owed at the end of a function that may hand an object of its own on. -/
def FinN (E : Env) (fn : Func) (Q : FV → Outer → Prop) (fr : Fr) (σ : St) : Prop :=
  Fin E fn Q fr σ ∨ ∃ r r' j o, aRes E.T fr σ fn.results.toList = some r ∧ WkF r r' ∧ r'.ids (isOr j) ∧ σ.get (.l j) = some o ∧ o.ids (fun _ => False) ∧ OuOk σ.ou ∧ ∀ k, σ.ou k = none → Q (r'.sub (toO j k)) (updO σ.ou k o)
/-- A CONTRACT OUT OF A BODY that may hand an object of its own on. -/
theorem AFn.ofBodyN {P : Program} {T : Tab} {Γ : List (Nat × List AC)} {g : Nat} {fn : Func} {c : Code} {args : List FV} {ou : Outer} {Q : FV → Outer → Prop} (hT : TabOk P T) (hΓ : ∀ g cs, (g, cs) ∈ Γ → idsL isO cs) (hf : P.funcs[g]? = some fn) (hb : fn.body = some c) (hname : (fn.name == "runtime.NumGoroutine") = false)
    (hlen : args.length ≤ fn.ntmps)
    (h : OuOk ou → ACode ⟨P, T, Γ, fn.ntmps⟩ c (contOf ⟨P, T, Γ, fn.ntmps⟩ (FinN ⟨P, T, Γ, fn.ntmps⟩ fn Q) []) (argFr 0 args) ⟨0, [], ou⟩) : AFn P Γ g args ou Q := by
  refine ⟨fun ws w => ?_, fun F w C cargs h0 hi hr => ?_⟩
  · simp [callFunc, hf, hb]
    simpa using hname
  · have hcl : cargs.length = args.length := by
      have : ∀ (vs : List FV) (xs : List Value), RFs w C vs xs → xs.length = vs.length := by
        intro vs
        induction vs with
        | nil => intro xs h; simp only [RFs] at h; simp [h]
        | cons v vs ih => intro xs h; simp only [RFs] at h; obtain ⟨u, us, rfl, _, h2⟩ := h; simp [ih us h2]
      exact this _ _ hr
    refine calls_of_wp hf hb ?_
    have hfr : FrOk w C fn.ntmps (argFr 0 args) (cargs.toArray ++ Array.replicate (fn.ntmps - cargs.toArray.size) undef) := by
      refine ⟨by simp; omega, fun k x hk => ?_⟩
      obtain ⟨_, h2⟩ := argFr_get args 0 k x hk
      simp only [Nat.sub_zero] at h2
      obtain ⟨u, hu, hru⟩ := RFs.get hr h2
      refine ⟨u, ?_, hru⟩
      have hlt : k < cargs.length := (List.getElem?_eq_some_iff.1 hu).1
      rw [Array.getElem?_append_left (by simpa using hlt)]
      simpa using hu
    refine wp_mono (h (OuOk.of_inv hi h0) F w C w C _ (Goes.refl _ _ _ _) hi hfr) fun e a w' hp => ?_
    obtain ⟨hd, fr', σ', C', hgo, hi', hf', hk⟩ := hp
    have fin : FinN ⟨P, T, Γ, fn.ntmps⟩ fn Q fr' σ' → a.defers = [] ∧ ∃ v, (results fn a.tmps).run P w' = .ok v w' ∧ (∃ v' r ou' C', Ending.returned v = .returned v' ∧ Goes F isO w C w' C' ∧ C'.nl = 0 ∧ Inv Γ F w' C' ⟨0, [], ou'⟩ ∧ RF w' C' r v' ∧ Q r ou') := by
      rintro (⟨r, r', h1, h2, h3, h4, h5⟩ | ⟨r, r', j, o, h1, h2, h3, h4, h6, h7, h5⟩)
      · obtain ⟨u, hu, hru⟩ := aRes_ok (tmps := a.tmps) hT hi' hf' h1
        have hc : Chg isO w' C' w' { C' with nl := 0 } := ⟨fun _ _ => rfl, fun _ h => h, fun i hp ho => ⟨by cases i with | l k => cases hp | o k => exact ho, rfl, rfl⟩⟩
        refine ⟨hd, u, hu, u, r', σ'.ou, { C' with nl := 0 }, rfl, ⟨hgo.stp, hgo.chg.trans hc, hgo.no, hgo.newp⟩, rfl, ⟨hi'.base, rfl, fun g cs hm => RG.chg hc (hΓ g cs hm) (hi'.glob g cs hm), hi'.prot, fun i o ho => ?_, fun i j o o' g k1 k2 k3 k4 => ?_⟩, RF.chg hc r' u h3 (h2 _ _ _ hru), h5⟩
        · cases i with
          | l k => cases ho
          | o k =>
            obtain ⟨k1, k2⟩ := hi'.obj (.o k) o ho
            exact ⟨k1, k2.ctx isO (h4 k o ho) trivial k1 hc (fun _ h => h) (fun _ h => h)⟩
        · cases i with
          | l k => cases k1
          | o k => cases j with
            | l k => cases k2
            | o k' =>
              have e1 := AObj.block_ctx (o := o) isO (i := .o k) trivial (hi'.obj (.o k) o k1).1 hc
              have e2 := AObj.block_ctx (o := o') isO (i := .o k') trivial (hi'.obj (.o k') o' k2).1 hc
              exact hi'.inj (.o k) (.o k') o o' g k1 k2 (by rw [← e1]; exact k3) (by rw [← e2]; exact k4)
      · obtain ⟨u, hu, hru⟩ := aRes_ok (tmps := a.tmps) hT hi' hf' h1
        have hnone : σ'.ou C'.no = none := by
          cases hx : σ'.ou C'.no with
          | none => rfl
          | some x => exact absurd (hi'.obj (.o C'.no) x hx).1 (Nat.lt_irrefl _)
        let C2 : Ctx := { C' with nl := 0, no := C'.no + 1, phi := fun i => match i with | .o m => if m = C'.no then C'.phi (.l j) else C'.phi (.o m) | .l m => C'.phi (.l m), tk := fun i => match i with | .o m => if m = C'.no then C'.tk (.l j) else C'.tk (.o m) | .l m => C'.tk (.l m) }
        have hc : Chg isO w' C' w' C2 := ⟨fun _ _ => rfl, fun _ h => h, fun i hp ho => by
          cases i with
          | l m => cases hp
          | o m =>
            have hm : m < C'.no := ho
            refine ⟨Nat.lt_succ_of_lt hm, ?_, ?_⟩
            · show (if m = C'.no then _ else _) = _; rw [if_neg (by omega)]; rfl
            · show (if m = C'.no then _ else _) = _; rw [if_neg (by omega)]; rfl⟩
        have hblk : C2.blk (.o C'.no) = C'.blk (.l j) := by show (if C'.no = C'.no then _ else _) = _; rw [if_pos rfl]; rfl
        have htok : C2.tok (.o C'.no) = C'.tok (.l j) := by show (if C'.no = C'.no then _ else _) = _; rw [if_pos rfl]; rfl
        have hb2 : Bus (toO j C'.no) (isOr j) w' C2 C' := ⟨fun _ h => h, fun i hp hk' => by
          cases i with
          | o m => exact hc.id (.o m) trivial hk'
          | l m =>
            have e : m = j := hp
            subst e
            simp only [toO, beq_self, cond_true]
            exact ⟨Nat.lt_succ_self _, hblk, htok⟩⟩
        refine ⟨hd, u, hu, u, r'.sub (toO j C'.no), updO σ'.ou C'.no o, C2, rfl, ⟨hgo.stp, hgo.chg.trans hc, Nat.le_succ_of_le hgo.no, fun a ha => hgo.newp a ha⟩, rfl, ?_, RF.bus hb2 r' u h3 (h2 _ _ _ hru), h5 _ hnone⟩
        refine hi'.retag (a := .l j) (b := .o C'.no) isO hc (fun _ h => h) hΓ rfl h4 (show C'.no < C'.no + 1 by omega) hblk htok (AObj.ids_mono (fun _ h => h.elim) _ h6) (updO_same _ _ _) fun i x e hx => ?_
        cases i with
        | l m => cases hx
        | o m =>
          have hne : m ≠ C'.no := fun h => e (by rw [h])
          have hx' : σ'.ou m = some x := by
            have : St.get ⟨0, [], updO σ'.ou C'.no o⟩ (.o m) = updO σ'.ou C'.no o m := rfl
            rw [this, updO_ne _ (Ne.symm hne)] at hx
            exact hx
          exact ⟨trivial, h7 m x hx', (fun e => by cases e), hx'⟩
    cases e with
    | normal => exact fin hk
    | ret => exact fin hk
    | exit id => exact hk.elim
    | goto l => exact hk.elim
    | panic ch => exact hk.elim
    | outgrown => exact hk.elim
theorem AFn.walkN {P : Program} {T : Tab} {Γ : List (Nat × List AC)} {g : Nat} {fn : Func} {c : Code} {args : List FV} {ou : Outer} {Q : FV → Outer → Prop} (N : Nat) (hT : TabOk P T) (hΓ : ∀ g cs, (g, cs) ∈ Γ → idsL isO cs) (hf : P.funcs[g]? = some fn) (hb : fn.body = some c) (hname : (fn.name == "runtime.NumGoroutine") = false)
    (hN : fn.ntmps = N) (hlen : Nat.ble args.length N = true) (h : OuOk ou → ACode ⟨P, T, Γ, N⟩ c (contOf ⟨P, T, Γ, N⟩ (FinN ⟨P, T, Γ, N⟩ fn Q) []) (argFr 0 args) ⟨0, [], ou⟩) : AFn P Γ g args ou Q := by
  subst hN
  exact AFn.ofBodyN hT hΓ hf hb hname (Nat.le_of_ble_eq_true hlen) h
/-- A call of a function that only computes, the arguments told less of. -/
theorem AStep.callPW {E : Env} {o : Oper} {fr : Fr} {σ : St} {f : Operand} {args : Array Operand} {tys : Array TypeId} {g : Nat} {first caps : List AC} {vs ws : List FV} {r : FV}
    (hΓ : ∀ g cs, (g, cs) ∈ E.Γ → idsL isO cs) (ho : o.op = .call { callee := .value f, args := args, argTypes := tys })
    (hf : aEval E.Γ fr f = some (.one (.fn (.func g) first caps))) (hargs : aEvals E.Γ fr args.toList = some vs) (hw : WkFs (first.map .one ++ vs ++ caps.map .one) ws) (hids : idsF isO ws) (hou : OuOk σ.ou)
    (hc : APure E.P E.Γ g ws r) : AStep E o fr σ r σ := by
  intro F w C tmps hi hfr next Q hk
  have hcallee := aEval_ok (a := ⟨tmps, []⟩) hi hfr hf
  simp only [RF, R] at hcallee
  obtain ⟨xs, ys, hfv, hx, hy⟩ := hcallee
  have hvs := aEvals_ok (a := ⟨tmps, []⟩) hi hfr hargs
  have hall : RFs w C ws (xs ++ args.toList.map (Act.eval ⟨tmps, []⟩) ++ ys) := hw _ _ _ ((RFs.ones hx |>.append hvs).append (RFs.ones hy))
  have hrun : (execOp (Act.eval ⟨tmps, []⟩) o).run E.P w = .ok (.enter g (xs ++ args.toList.map (Act.eval ⟨tmps, []⟩) ++ ys).toArray) w := by
    unfold execOp
    simp only [ho, resolve, Sem.run_bind, hfv, Deferred.ofValue, Sem.run_pure, Result.andThen_ok, invoke, (hc σ.ou).1]
    congr 2
    apply Array.ext'
    simp
  unfold Oper.wp
  rw [hrun, Oper.upon_enter]
  have hc1 : Chg isO w C w { C with nl := 0 } := ⟨fun _ _ => rfl, fun _ h => h, fun i hp ho => ⟨by cases i with | l k => cases hp | o k => exact ho, rfl, rfl⟩⟩
  refine ((hc σ.ou).2 (calleeF w C σ.ou) w { C with nl := 0 } _ rfl (hi.forCallee hou hΓ) (RFs.chg hc1 _ _ hids hall)).mono fun e w' ⟨v, r', ou', C', he, hgo, h0, hi', hr, hQ1, hQ2⟩ => ?_
  subst he; subst hQ1; subst hQ2
  obtain ⟨hb1, hb2, hb3⟩ := hi.back hgo h0 hi'
  have hrid : r'.ids isO := FV.ids_mono (ok_isO h0) r' (RF.idsOk r' v hr)
  exact hk v w' _ hb1 hb2 (RF.chg hb3 r' v hrid hr)
theorem AOps.callCW {E : Env} {ops : Array Oper} {rest : List Oper} {o : Oper} {K : Cont} {fr : Fr} {σ : St} {d : Nat} {f : Operand} {args : Array Operand} {tys : Array TypeId} {g : Nat} {first caps : List AC} {vs ws : List FV} {r : FV}
    (hΓ : ∀ g cs, (g, cs) ∈ E.Γ → idsL isO cs) (hc : APure E.P E.Γ g ws r) (hgd : o.guard = none) (hdst : o.dst = some d) (hd : Nat.ble (d + 1) E.N = true) (ho : o.op = .call { callee := .value f, args := args, argTypes := tys })
    (hf : aEval E.Γ fr f = some (.one (.fn (.func g) first caps))) (hargs : aEvals E.Γ fr args.toList = some vs) (hw : WkFs (first.map .one ++ vs ++ caps.map .one) ws) (hou : OuOk σ.ou) (hids : idsF isO ws)
    (h : AOps E ops rest K ((d, r) :: fr) σ) : AOps E ops (o :: rest) K fr σ :=
  AOps.step1 hgd hdst hd (AStep.callPW hΓ ho hf hargs hw hids hou hc) h
theorem CallsOk.callW {E : Env} {l : List Oper} {frb : Fr} {σ : St} {vs : List FV} {k : Nat} {v : FV} {r : List (Nat × FV)} {o : Oper} {f : Operand} {args : Array Operand} {tys : Array TypeId} {g : Nat} {first caps : List AC} {us ws : List FV} (hΓ : ∀ g cs, (g, cs) ∈ E.Γ → idsL isO cs)
    (hc : APure E.P E.Γ g ws v) (hou : OuOk σ.ou) (hids : idsF isO ws) (hk : l[k]? = some o) (hgd : o.guard = none)
    (ho : o.op = .call { callee := .value f, args := args, argTypes := tys }) (hf : aEval E.Γ (depFr l vs o ++ frb) f = some (.one (.fn (.func g) first caps))) (hargs : aEvals E.Γ (depFr l vs o ++ frb) args.toList = some us) (hw : WkFs (first.map .one ++ us ++ caps.map .one) ws)
    (hr : CallsOk E l frb σ vs r) : CallsOk E l frb σ vs ((k, v) :: r) :=
  .step hk (HStep.plain hgd (AStep.callPW hΓ ho hf hargs hw hids hou hc)) hr
theorem FrSub.consGs {ρ : Nat → Nat} {fr r : Fr} {k s i j : Nat} {es : List (List AC)} (h : Fr.get k fr = some (.one (.gs s es (.l j)))) (hj : j = ρ i) (hp : idsS isO es) (hr : FrSub ρ fr r) : FrSub ρ fr ((k, .one (.gs s es (.l i))) :: r) := by
  refine FrSub.cons h (.ofEq ?_) hr
  simp only [FV.ren, AC.ren]
  rw [renS_pure ρ es hp, hj]; rfl
end Go.Abs
/- The abstract layer, part Za: a contract over more globals. No condition. -/
namespace Go.Abs
theorem AFn.lift {P : Program} {Γ Γ' : List (Nat × List AC)} {g : Nat} {args : List FV} {ou : Outer} {Q : FV → Outer → Prop} (hs : ∀ x ∈ Γ, x ∈ Γ') (hids : ∀ g cs, (g, cs) ∈ Γ' → idsL isO cs) (h : AFn P Γ g args ou Q) : AFn P Γ' g args ou Q :=
  ⟨h.1, fun F w C cargs h0 hi hr => (h.2 F w C cargs h0 ⟨hi.base, hi.next, fun g cs hm => hi.glob g cs (hs _ hm), hi.prot, hi.obj, hi.inj⟩ hr).mono fun e w' ⟨v, r, ou', C', he, hgo, h0', hi', hr', hq⟩ =>
    ⟨v, r, ou', C', he, hgo, h0', ⟨hi'.base, hi'.next, fun g cs hm => RG.chg hgo.chg (hids g cs hm) (hi.glob g cs hm), hi'.prot, hi'.obj, hi'.inj⟩, hr', hq⟩⟩
theorem APure.lift {P : Program} {Γ Γ' : List (Nat × List AC)} {g : Nat} {args : List FV} {r : FV} (hs : ∀ x ∈ Γ, x ∈ Γ') (hids : ∀ g cs, (g, cs) ∈ Γ' → idsL isO cs) (h : APure P Γ g args r) : APure P Γ' g args r := fun ou => (h ou).lift hs hids
end Go.Abs
/- CheckFunctor: what it computes, and its walk. -/
namespace Go.Proofs.YtoojdmgbffnmiaaDoor
open Go Go.Abs
set_option maxRecDepth 10000
set_option linter.unusedVariables false
set_option linter.unusedSimpArgs false
def twice (l : List DSig) (d : DSig) : Int := if (findBy DSig.name d.name l).isSome = true then 7 else 0
def fctErr (f : Fctr) : Int :=
  if cutN f.name = true then 3 else if chkErr cutN f.needs ≠ 0 then chkErr cutN f.needs else if chkErr cutN f.yields ≠ 0 then chkErr cutN f.yields
  else if firstErr (twice f.needs.datas) f.yields.datas ≠ 0 then firstErr (twice f.needs.datas) f.yields.datas else firstErr (kindErr f.needs.datas) (allTys f.yields)
theorem CheckFunctor_ok (f : Fctr) (hn : f.name.size < 4294967281) (hm : okSpec f.needs) (hs : okSpec f.yields) (hzm : SzS f.needs) (hzs : SzS f.yields) :
    APure Tryd.prog Γ0 31 [.agg (cFctr f)] (.one (int (fctErr f))) := by
  intro ou
  refine AFn.walk 49 tabOk Tryd.func31 rfl (by kernel_rfl) rfl rfl fun hou => ?_
  repeat first | (with_reducible refine oj ?_; refine AOps.auto tabOk rfl ?_) | (with_reducible first | refine o1 ?_ | refine o2 ?_ | refine o3 ?_ | refine o4 ?_ | refine o5 ?_ | refine o6 ?_ | refine o7 ?_ | refine o8 ?_ | refine o9 ?_ | refine oa ?_ | refine ob ?_ | refine oc ?_ | refine od ?_ | refine oe ?_ | refine og ?_ | refine oh ?_ | refine oi ?_) | (with_reducible refine cExitMiss ?_ ?_; rfl) | (with_reducible refine ok ?_; first | refine ACode.condT rfl ?_ | refine ACode.condF rfl ?_)
  refine AOps.callC hΓ0 (cut_ok f.name hn) rfl rfl rfl rfl rfl rfl rfl hou (by simp) ?_
  repeat first | (with_reducible refine oj ?_; refine AOps.auto tabOk rfl ?_) | (with_reducible first | refine o1 ?_ | refine o2 ?_ | refine o3 ?_ | refine o4 ?_ | refine o5 ?_ | refine o6 ?_ | refine o7 ?_ | refine o8 ?_ | refine o9 ?_ | refine oa ?_ | refine ob ?_ | refine oc ?_ | refine od ?_ | refine oe ?_ | refine og ?_ | refine oh ?_ | refine oi ?_) | (with_reducible refine cExitMiss ?_ ?_; rfl) | (with_reducible refine ok ?_; first | refine ACode.condT rfl ?_ | refine ACode.condF rfl ?_)
  refine ACode.cond rfl (fun hb => ?_) (fun hb => ?_)
  · repeat first | (with_reducible refine oj ?_; refine AOps.auto tabOk rfl ?_) | (with_reducible first | refine o1 ?_ | refine o2 ?_ | refine o3 ?_ | refine o4 ?_ | refine o5 ?_ | refine o6 ?_ | refine o7 ?_ | refine o8 ?_ | refine o9 ?_ | refine oa ?_ | refine ob ?_ | refine oc ?_ | refine od ?_ | refine oe ?_ | refine og ?_ | refine oh ?_ | refine oi ?_) | (with_reducible refine cExitMiss ?_ ?_; rfl) | (with_reducible refine ok ?_; first | refine ACode.condT rfl ?_ | refine ACode.condF rfl ?_)
    refine APure.fin rfl (WkF.ofEq ?_) (by simp) hou rfl
    unfold fctErr; rw [if_pos hb]
  have hcn : ¬ cutN f.name = true := by simpa using hb
  repeat first | (with_reducible refine oj ?_; refine AOps.auto tabOk rfl ?_) | (with_reducible first | refine o1 ?_ | refine o2 ?_ | refine o3 ?_ | refine o4 ?_ | refine o5 ?_ | refine o6 ?_ | refine o7 ?_ | refine o8 ?_ | refine o9 ?_ | refine oa ?_ | refine ob ?_ | refine oc ?_ | refine od ?_ | refine oe ?_ | refine og ?_ | refine oh ?_ | refine oi ?_) | (with_reducible refine cExitMiss ?_ ?_; rfl) | (with_reducible refine ok ?_; first | refine ACode.condT rfl ?_ | refine ACode.condF rfl ?_)
  refine AOps.callC hΓ0 (Check_ok cutN f.needs hm hzm.cut) rfl rfl rfl rfl rfl rfl rfl hou (by simp) ?_
  repeat first | (with_reducible refine oj ?_; refine AOps.auto tabOk rfl ?_) | (with_reducible first | refine o1 ?_ | refine o2 ?_ | refine o3 ?_ | refine o4 ?_ | refine o5 ?_ | refine o6 ?_ | refine o7 ?_ | refine o8 ?_ | refine o9 ?_ | refine oa ?_ | refine ob ?_ | refine oc ?_ | refine od ?_ | refine oe ?_ | refine og ?_ | refine oh ?_ | refine oi ?_) | (with_reducible refine cExitMiss ?_ ?_; rfl) | (with_reducible refine ok ?_; first | refine ACode.condT rfl ?_ | refine ACode.condF rfl ?_)
  refine ACode.cond rfl (fun hb => ?_) (fun hb => ?_)
  · have hne : chkErr cutN f.needs ≠ 0 := by simpa using hb
    repeat first | (with_reducible refine oj ?_; refine AOps.auto tabOk rfl ?_) | (with_reducible first | refine o1 ?_ | refine o2 ?_ | refine o3 ?_ | refine o4 ?_ | refine o5 ?_ | refine o6 ?_ | refine o7 ?_ | refine o8 ?_ | refine o9 ?_ | refine oa ?_ | refine ob ?_ | refine oc ?_ | refine od ?_ | refine oe ?_ | refine og ?_ | refine oh ?_ | refine oi ?_) | (with_reducible refine cExitMiss ?_ ?_; rfl) | (with_reducible refine ok ?_; first | refine ACode.condT rfl ?_ | refine ACode.condF rfl ?_)
    refine APure.fin rfl (WkF.ofEq ?_) (by simp) hou rfl
    unfold fctErr; rw [if_neg hcn, if_pos hne]
  have hm0 : chkErr cutN f.needs = 0 := by simpa using hb
  repeat first | (with_reducible refine oj ?_; refine AOps.auto tabOk rfl ?_) | (with_reducible first | refine o1 ?_ | refine o2 ?_ | refine o3 ?_ | refine o4 ?_ | refine o5 ?_ | refine o6 ?_ | refine o7 ?_ | refine o8 ?_ | refine o9 ?_ | refine oa ?_ | refine ob ?_ | refine oc ?_ | refine od ?_ | refine oe ?_ | refine og ?_ | refine oh ?_ | refine oi ?_) | (with_reducible refine cExitMiss ?_ ?_; rfl) | (with_reducible refine ok ?_; first | refine ACode.condT rfl ?_ | refine ACode.condF rfl ?_)
  refine AOps.callC hΓ0 (Check_ok cutN f.yields hs hzs.cut) rfl rfl rfl rfl rfl rfl rfl hou (by simp) ?_
  repeat first | (with_reducible refine oj ?_; refine AOps.auto tabOk rfl ?_) | (with_reducible first | refine o1 ?_ | refine o2 ?_ | refine o3 ?_ | refine o4 ?_ | refine o5 ?_ | refine o6 ?_ | refine o7 ?_ | refine o8 ?_ | refine o9 ?_ | refine oa ?_ | refine ob ?_ | refine oc ?_ | refine od ?_ | refine oe ?_ | refine og ?_ | refine oh ?_ | refine oi ?_) | (with_reducible refine cExitMiss ?_ ?_; rfl) | (with_reducible refine ok ?_; first | refine ACode.condT rfl ?_ | refine ACode.condF rfl ?_)
  refine ACode.cond rfl (fun hb => ?_) (fun hb => ?_)
  · have hne : chkErr cutN f.yields ≠ 0 := by simpa using hb
    repeat first | (with_reducible refine oj ?_; refine AOps.auto tabOk rfl ?_) | (with_reducible first | refine o1 ?_ | refine o2 ?_ | refine o3 ?_ | refine o4 ?_ | refine o5 ?_ | refine o6 ?_ | refine o7 ?_ | refine o8 ?_ | refine o9 ?_ | refine oa ?_ | refine ob ?_ | refine oc ?_ | refine od ?_ | refine oe ?_ | refine og ?_ | refine oh ?_ | refine oi ?_) | (with_reducible refine cExitMiss ?_ ?_; rfl) | (with_reducible refine ok ?_; first | refine ACode.condT rfl ?_ | refine ACode.condF rfl ?_)
    refine APure.fin rfl (WkF.ofEq ?_) (by simp) hou rfl
    unfold fctErr; rw [if_neg hcn, if_neg (by simpa using hm0), if_pos hne]
  have hs0 : chkErr cutN f.yields = 0 := by simpa using hb
  have km := chk_ok hm0
  have hme : fctErr f = if firstErr (twice f.needs.datas) f.yields.datas ≠ 0 then firstErr (twice f.needs.datas) f.yields.datas else firstErr (kindErr f.needs.datas) (allTys f.yields) := by
    unfold fctErr; rw [if_neg hcn, if_neg (by simpa using hm0), if_neg (by simpa using hs0)]
  repeat first | (with_reducible refine oj ?_; refine AOps.auto tabOk rfl ?_) | (with_reducible first | refine o1 ?_ | refine o2 ?_ | refine o3 ?_ | refine o4 ?_ | refine o5 ?_ | refine o6 ?_ | refine o7 ?_ | refine o8 ?_ | refine o9 ?_ | refine oa ?_ | refine ob ?_ | refine oc ?_ | refine od ?_ | refine oe ?_ | refine og ?_ | refine oh ?_ | refine oi ?_) | (with_reducible refine cExitMiss ?_ ?_; rfl) | (with_reducible refine ok ?_; first | refine ACode.condT rfl ?_ | refine ACode.condF rfl ?_)
  refine ACode.loopR hΓ0 (α := Nat) (fun j => [(28, .one (int j)), (27, .one (int (f.yields.datas.map cData).length)), (26, .one (.sl 3 (f.yields.datas.map cData))), (1, .one (.ptr (.l 0) 0))])
    (fun j => ⟨1, [(0, .cells (cFctr f))], ou⟩) (fun k j => j ≤ f.yields.datas.length ∧ (∀ x ∈ f.yields.datas.take j, twice f.needs.datas x = 0) ∧ k = f.yields.datas.length - j) (a0 := 0) (ρ := id) ⟨by omega, by simp, rfl⟩ (LessR.of rfl (by (repeat' first | exact FrSub.nil | refine FrSub.cons rfl (.ofEq rfl) ?_ | refine FrSub.consP rfl (.ofEq rfl) (by simp) ?_)) (by simp) (by repeat' first | exact LoSub.nil | refine LoSub.cons rfl ?_ rfl (by simp) ?_ | rfl | (refine (AObj.ren_pure _ _ ?_).symm; simp; done) | (simp [AObj.ren, renL, AC.ren, cTy]; done) | (simp [AObj.ren, renL, AC.ren, cTy]; rfl)) rfl rfl hou) fun k j hj => ?_
  obtain ⟨hjl, hno, rfl⟩ := hj
  repeat first | (with_reducible refine oj ?_; refine AOps.auto tabOk rfl ?_) | (with_reducible first | refine o1 ?_ | refine o2 ?_ | refine o3 ?_ | refine o4 ?_ | refine o5 ?_ | refine o6 ?_ | refine o7 ?_ | refine o8 ?_ | refine o9 ?_ | refine oa ?_ | refine ob ?_ | refine oc ?_ | refine od ?_ | refine oe ?_ | refine og ?_ | refine oh ?_ | refine oi ?_) | (with_reducible refine cExitMiss ?_ ?_; rfl) | (with_reducible refine ok ?_; first | refine ACode.condT rfl ?_ | refine ACode.condF rfl ?_)
  have hdl := hs.dl
  refine ACode.cond rfl (fun hb2 => ?_) (fun hb2 => ?_)
  · have hlt : j < f.yields.datas.length := by simpa using hb2
    obtain ⟨d, hd⟩ := get_of_lt hlt
    repeat first | (with_reducible refine oj ?_; refine AOps.auto tabOk rfl ?_) | (with_reducible first | refine o1 ?_ | refine o2 ?_ | refine o3 ?_ | refine o4 ?_ | refine o5 ?_ | refine o6 ?_ | refine o7 ?_ | refine o8 ?_ | refine o9 ?_ | refine oa ?_ | refine ob ?_ | refine oc ?_ | refine od ?_ | refine oe ?_ | refine og ?_ | refine oh ?_ | refine oi ?_) | (with_reducible refine cExitMiss ?_ ?_; rfl) | (with_reducible refine ok ?_; first | refine ACode.condT rfl ?_ | refine ACode.condF rfl ?_)
    refine AOps.step1 rfl rfl rfl (AStep.indexAddr tabOk rfl rfl rfl rfl rfl rfl (.inl rfl) rfl (by omega) (map_get hd)) ?_
    repeat first | (with_reducible refine oj ?_; refine AOps.auto tabOk rfl ?_) | (with_reducible first | refine o1 ?_ | refine o2 ?_ | refine o3 ?_ | refine o4 ?_ | refine o5 ?_ | refine o6 ?_ | refine o7 ?_ | refine o8 ?_ | refine o9 ?_ | refine oa ?_ | refine ob ?_ | refine oc ?_ | refine od ?_ | refine oe ?_ | refine og ?_ | refine oh ?_ | refine oi ?_) | (with_reducible refine cExitMiss ?_ ?_; rfl) | (with_reducible refine ok ?_; first | refine ACode.condT rfl ?_ | refine ACode.condF rfl ?_)
    refine AOps.callC hΓ0 (find_ok hΓ0 f.needs.datas hm.dl km.ds d.name) rfl rfl rfl rfl rfl rfl rfl hou (by simp) ?_
    repeat first | (with_reducible refine oj ?_; refine AOps.auto tabOk rfl ?_) | (with_reducible first | refine o1 ?_ | refine o2 ?_ | refine o3 ?_ | refine o4 ?_ | refine o5 ?_ | refine o6 ?_ | refine o7 ?_ | refine o8 ?_ | refine o9 ?_ | refine oa ?_ | refine ob ?_ | refine oc ?_ | refine od ?_ | refine oe ?_ | refine og ?_ | refine oh ?_ | refine oi ?_) | (with_reducible refine cExitMiss ?_ ?_; rfl) | (with_reducible refine ok ?_; first | refine ACode.condT rfl ?_ | refine ACode.condF rfl ?_)
    refine ACode.cond rfl (fun hb3 => ?_) (fun hb3 => ?_)
    · have h7 : twice f.needs.datas d = 7 := by unfold twice; rw [if_pos hb3]
      have h8 := firstErr_at hno hd (by rw [h7]; decide)
      repeat first | (with_reducible refine oj ?_; refine AOps.auto tabOk rfl ?_) | (with_reducible first | refine o1 ?_ | refine o2 ?_ | refine o3 ?_ | refine o4 ?_ | refine o5 ?_ | refine o6 ?_ | refine o7 ?_ | refine o8 ?_ | refine o9 ?_ | refine oa ?_ | refine ob ?_ | refine oc ?_ | refine od ?_ | refine oe ?_ | refine og ?_ | refine oh ?_ | refine oi ?_) | (with_reducible refine cExitMiss ?_ ?_; rfl) | (with_reducible refine ok ?_; first | refine ACode.condT rfl ?_ | refine ACode.condF rfl ?_)
      refine APure.fin rfl (WkF.ofEq ?_) (by simp) hou rfl
      rw [hme, h8, h7]; rfl
    · have h7 : twice f.needs.datas d = 0 := by unfold twice; rw [if_neg (by simp [hb3])]
      repeat first | (with_reducible refine oj ?_; refine AOps.auto tabOk rfl ?_) | (with_reducible first | refine o1 ?_ | refine o2 ?_ | refine o3 ?_ | refine o4 ?_ | refine o5 ?_ | refine o6 ?_ | refine o7 ?_ | refine o8 ?_ | refine o9 ?_ | refine oa ?_ | refine ob ?_ | refine oc ?_ | refine od ?_ | refine oe ?_ | refine og ?_ | refine oh ?_ | refine oi ?_) | (with_reducible refine cExitMiss ?_ ?_; rfl) | (with_reducible refine ok ?_; first | refine ACode.condT rfl ?_ | refine ACode.condF rfl ?_)
      refine AOps.step1 rfl rfl rfl (AStep.arith rfl rfl rfl (.inl ⟨rfl, rfl⟩) (inRange_i64 (by omega) (by omega))) ?_
      repeat first | (with_reducible refine oj ?_; refine AOps.auto tabOk rfl ?_) | (with_reducible first | refine o1 ?_ | refine o2 ?_ | refine o3 ?_ | refine o4 ?_ | refine o5 ?_ | refine o6 ?_ | refine o7 ?_ | refine o8 ?_ | refine o9 ?_ | refine oa ?_ | refine ob ?_ | refine oc ?_ | refine od ?_ | refine oe ?_ | refine og ?_ | refine oh ?_ | refine oi ?_) | (with_reducible refine cExitMiss ?_ ?_; rfl) | (with_reducible refine ok ?_; first | refine ACode.condT rfl ?_ | refine ACode.condF rfl ?_)
      exact cInv ⟨f.yields.datas.length - (j + 1), j + 1, id, by omega, ⟨by omega, take_all hno hd h7, rfl⟩, LessR.of rfl (by (repeat' first | exact FrSub.nil | refine FrSub.cons rfl (.ofEq rfl) ?_ | refine FrSub.consP rfl (.ofEq rfl) (by simp) ?_)) (by simp) (by repeat' first | exact LoSub.nil | refine LoSub.cons rfl ?_ rfl (by simp) ?_ | rfl | (refine (AObj.ren_pure _ _ ?_).symm; simp; done) | (simp [AObj.ren, renL, AC.ren, cTy]; done) | (simp [AObj.ren, renL, AC.ren, cTy]; rfl)) rfl rfl hou⟩
  · have hlt : j = f.yields.datas.length := by simp at hb2; omega
    subst hlt
    rw [List.take_length] at hno
    have hfe := firstErr_all hno
    repeat first | (with_reducible refine oj ?_; refine AOps.auto tabOk rfl ?_) | (with_reducible first | refine o1 ?_ | refine o2 ?_ | refine o3 ?_ | refine o4 ?_ | refine o5 ?_ | refine o6 ?_ | refine o7 ?_ | refine o8 ?_ | refine o9 ?_ | refine oa ?_ | refine ob ?_ | refine oc ?_ | refine od ?_ | refine oe ?_ | refine og ?_ | refine oh ?_ | refine oi ?_) | (with_reducible refine cExitMiss ?_ ?_; rfl) | (with_reducible refine ok ?_; first | refine ACode.condT rfl ?_ | refine ACode.condF rfl ?_)
    refine AOps.callC hΓ0 (kindsError_ok hΓ0 f.needs.datas hm.dl km.ds f.yields hs.all hs.sm hs.dl hs.vl (fun d hd => (hs.d d hd).2.1) (fun v hv => (hs.v v hv).1)) rfl rfl rfl rfl rfl rfl rfl hou (by simp) ?_
    repeat first | (with_reducible refine oj ?_; refine AOps.auto tabOk rfl ?_) | (with_reducible first | refine o1 ?_ | refine o2 ?_ | refine o3 ?_ | refine o4 ?_ | refine o5 ?_ | refine o6 ?_ | refine o7 ?_ | refine o8 ?_ | refine o9 ?_ | refine oa ?_ | refine ob ?_ | refine oc ?_ | refine od ?_ | refine oe ?_ | refine og ?_ | refine oh ?_ | refine oi ?_) | (with_reducible refine cExitMiss ?_ ?_; rfl) | (with_reducible refine ok ?_; first | refine ACode.condT rfl ?_ | refine ACode.condF rfl ?_)
    refine APure.fin rfl (WkF.ofEq ?_) (by simp) hou rfl
    rw [hme, hfe]; rfl
end Go.Proofs.YtoojdmgbffnmiaaDoor
/- types: it hands the list that it made on. -/
namespace Go.Proofs.YtoojdmgbffnmiaaDoor
open Go Go.Abs
set_option maxRecDepth 10000
set_option linter.unusedVariables false
set_option linter.unusedSimpArgs false
variable {Γ : List (Nat × List AC)}
/-- A list of maps that the caller may go on with, or an error. -/
def NewMaps (ou : Outer) (l : List SMap) (e : Int) : FV → Outer → Prop := fun r ou' =>
  (e = 0 ∧ ∃ k, ou k = none ∧ r = .tup [.one (.gs 5 (l.map cMap) (.o k)), .one (int 0)] ∧ ou' = updO ou k (.tok 44 5 l.length)) ∨ (e ≠ 0 ∧ r = .tup [.one (.sl 5 []), .one (int e)] ∧ ou' = ou)
theorem NewMaps.err {E : Env} {fn : Func} {fr : Fr} {σ : St} {ou : Outer} {l : List SMap} {e : Int} {r : FV} (h : aRes E.T fr σ fn.results.toList = some r) (hw : WkF r (.tup [.one (.sl 5 []), .one (int e)])) (he : e ≠ 0) (ho : OuOk ou) (hs : σ.ou = ou) : FinN E fn (NewMaps ou l e) fr σ :=
  .inl ⟨r, _, h, hw, by simp [FV.ids, idsF, AC.ids, idsS], by rw [hs]; exact ho, .inr ⟨he, rfl, hs⟩⟩
theorem NewMaps.new {E : Env} {fn : Func} {fr : Fr} {σ : St} {ou : Outer} {l : List SMap} {e : Int} {r : FV} (j : Nat) (h : aRes E.T fr σ fn.results.toList = some r) (hw : WkF r (.tup [.one (.gs 5 (l.map cMap) (.l j)), .one (int 0)])) (he : e = 0) (ho : OuOk ou) (hs : σ.ou = ou) (hj : σ.get (.l j) = some (.tok 44 5 l.length)) : FinN E fn (NewMaps ou l e) fr σ := by
  refine .inr ⟨r, _, j, _, h, hw, ?_, hj, trivial, by rw [hs]; exact ho, fun k hk => .inl ⟨he, k, by rw [← hs]; exact hk, ?_, by rw [hs]⟩⟩
  · refine ⟨⟨rfl, ids_maps _ l⟩, trivial, trivial⟩
  · simp only [FV.sub, subF, AC.sub, toO, beq_self, cond_true]
    rw [subS_pure _ _ (ids_maps _ l)]
theorem types_new (hΓ : ∀ g cs, (g, cs) ∈ Γ → idsL isO cs) (m s : Spec) (name : Str) (hn : name.size ≤ 1048576) (hml : m.datas.length ≤ 1048576) (hms : Sorted DSig.name m.datas) (hmd : ∀ d ∈ m.datas, okD d) (hl : s.datas.length ≤ 1048576) (hd : ∀ d ∈ s.datas, okD d) (hpar : ∀ d ∈ s.datas, d.params ≤ 1048576) :
    ∀ ou, AFn Tryd.prog Γ 33 [.agg (cSpec m), .agg (cSpec s), .one (str name)] ou (NewMaps ou (outerM name s.datas) (firstErr (typeErr m.datas) s.datas)) := by
  intro ou
  refine AFn.walkN 67 tabOk hΓ Tryd.func33 rfl (by kernel_rfl) rfl rfl fun hou => ?_
  repeat first | (with_reducible refine oj ?_; refine AOps.auto tabOk rfl ?_) | (with_reducible first | refine o1 ?_ | refine o2 ?_ | refine o3 ?_ | refine o4 ?_ | refine o5 ?_ | refine o6 ?_ | refine o7 ?_ | refine o8 ?_ | refine o9 ?_ | refine oa ?_ | refine ob ?_ | refine oc ?_ | refine od ?_ | refine oe ?_ | refine og ?_ | refine oh ?_ | refine oi ?_) | (with_reducible refine cExitMiss ?_ ?_; rfl) | (with_reducible refine ok ?_; first | refine ACode.condT rfl ?_ | refine ACode.condF rfl ?_)
  refine ACode.growS 8 44 5 rfl ?_
  refine ACode.loopR hΓ (α := Nat) (fun j => [(16, .one (int j)), (15, .one (int (s.datas.map cData).length)), (14, .one (.sl 3 (s.datas.map cData))), (3, .one (.ptr (.l 0) 0)), (2, .one (str name)), (8, .one (.gs 5 ((outerM name (s.datas.take j)).map cMap) (.l 1)))])
    (fun j => ⟨2, [(1, .tok 44 5 j), (0, .cells (cSpec m))], ou⟩) (fun k j => j ≤ s.datas.length ∧ (∀ x ∈ s.datas.take j, typeErr m.datas x = 0) ∧ k = s.datas.length - j) (a0 := 0) (ρ := fun k => if k = 1 then 2 else k) ⟨by omega, by simp, rfl⟩ (LessR.of rfl (by (repeat' first | exact FrSub.nil | refine FrSub.cons rfl (.ofEq rfl) ?_ | refine FrSub.consP rfl (.ofEq rfl) (by simp) ?_)) (by simp) (by repeat' first | exact LoSub.nil | refine LoSub.cons rfl ?_ rfl (by simp) ?_ | rfl | (refine (AObj.ren_pure _ _ ?_).symm; simp; done) | (simp [AObj.ren, renL, AC.ren, cTy]; done) | (simp [AObj.ren, renL, AC.ren, cTy]; rfl)) rfl rfl hou) fun k j hj => ?_
  obtain ⟨hjl, hno, rfl⟩ := hj
  repeat first | (with_reducible refine oj ?_; refine AOps.auto tabOk rfl ?_) | (with_reducible first | refine o1 ?_ | refine o2 ?_ | refine o3 ?_ | refine o4 ?_ | refine o5 ?_ | refine o6 ?_ | refine o7 ?_ | refine o8 ?_ | refine o9 ?_ | refine oa ?_ | refine ob ?_ | refine oc ?_ | refine od ?_ | refine oe ?_ | refine og ?_ | refine oh ?_ | refine oi ?_) | (with_reducible refine cExitMiss ?_ ?_; rfl) | (with_reducible refine ok ?_; first | refine ACode.condT rfl ?_ | refine ACode.condF rfl ?_)
  refine ACode.cond rfl (fun hb2 => ?_) (fun hb2 => ?_)
  · have hlt : j < s.datas.length := by simpa using hb2
    obtain ⟨d, ha⟩ := get_of_lt hlt
    obtain ⟨hns, _⟩ := hd d (List.mem_of_getElem? ha)
    have hp := hpar d (List.mem_of_getElem? ha)
    repeat first | (with_reducible refine oj ?_; refine AOps.auto tabOk rfl ?_) | (with_reducible first | refine o1 ?_ | refine o2 ?_ | refine o3 ?_ | refine o4 ?_ | refine o5 ?_ | refine o6 ?_ | refine o7 ?_ | refine o8 ?_ | refine o9 ?_ | refine oa ?_ | refine ob ?_ | refine oc ?_ | refine od ?_ | refine oe ?_ | refine og ?_ | refine oh ?_ | refine oi ?_) | (with_reducible refine cExitMiss ?_ ?_; rfl) | (with_reducible refine ok ?_; first | refine ACode.condT rfl ?_ | refine ACode.condF rfl ?_)
    refine AOps.step1 rfl rfl rfl (AStep.indexAddr tabOk rfl rfl rfl rfl rfl rfl (.inl rfl) rfl (by omega) (map_get ha)) ?_
    repeat first | (with_reducible refine oj ?_; refine AOps.auto tabOk rfl ?_) | (with_reducible first | refine o1 ?_ | refine o2 ?_ | refine o3 ?_ | refine o4 ?_ | refine o5 ?_ | refine o6 ?_ | refine o7 ?_ | refine o8 ?_ | refine o9 ?_ | refine oa ?_ | refine ob ?_ | refine oc ?_ | refine od ?_ | refine oe ?_ | refine og ?_ | refine oh ?_ | refine oi ?_) | (with_reducible refine cExitMiss ?_ ?_; rfl) | (with_reducible refine ok ?_; first | refine ACode.condT rfl ?_ | refine ACode.condF rfl ?_)
    refine AOps.callC hΓ (find_ok hΓ m.datas hml hms d.name) rfl rfl rfl rfl rfl rfl rfl hou (by simp) ?_
    cases hfd : findBy DSig.name d.name m.datas with
    | none =>
      have he : typeErr m.datas d = 6 := by simp [typeErr, hfd]
      have hfe := firstErr_at hno ha (by rw [he]; decide)
      simp only [Option.isSome_none]
      repeat first | (with_reducible refine oj ?_; refine AOps.auto tabOk rfl ?_) | (with_reducible first | refine o1 ?_ | refine o2 ?_ | refine o3 ?_ | refine o4 ?_ | refine o5 ?_ | refine o6 ?_ | refine o7 ?_ | refine o8 ?_ | refine o9 ?_ | refine oa ?_ | refine ob ?_ | refine oc ?_ | refine od ?_ | refine oe ?_ | refine og ?_ | refine oh ?_ | refine oi ?_) | (with_reducible refine cExitMiss ?_ ?_; rfl) | (with_reducible refine ok ?_; first | refine ACode.condT rfl ?_ | refine ACode.condF rfl ?_)
      refine NewMaps.err rfl (WkF.tup (.cons (.one (.nilS 5)) (.cons (.ofEq ?_) .nil))) (by rw [hfe, he]; decide) hou rfl
      rw [hfe, he]
    | some x =>
      have hx := hmd x (List.mem_of_find?_eq_some hfd)
      simp only [Option.isSome_some, Option.getD_some]
      repeat first | (with_reducible refine oj ?_; refine AOps.auto tabOk rfl ?_) | (with_reducible first | refine o1 ?_ | refine o2 ?_ | refine o3 ?_ | refine o4 ?_ | refine o5 ?_ | refine o6 ?_ | refine o7 ?_ | refine o8 ?_ | refine o9 ?_ | refine oa ?_ | refine ob ?_ | refine oc ?_ | refine od ?_ | refine oe ?_ | refine og ?_ | refine oh ?_ | refine oi ?_) | (with_reducible refine cExitMiss ?_ ?_; rfl) | (with_reducible refine ok ?_; first | refine ACode.condT rfl ?_ | refine ACode.condF rfl ?_)
      refine ACode.cond rfl (fun hb => ?_) (fun hb => ?_)
      · have he : typeErr m.datas d = 9 := by
          have : x.params ≠ d.params := by simpa using hb
          simp [typeErr, hfd, this]
        have hfe := firstErr_at hno ha (by rw [he]; decide)
        repeat first | (with_reducible refine oj ?_; refine AOps.auto tabOk rfl ?_) | (with_reducible first | refine o1 ?_ | refine o2 ?_ | refine o3 ?_ | refine o4 ?_ | refine o5 ?_ | refine o6 ?_ | refine o7 ?_ | refine o8 ?_ | refine o9 ?_ | refine oa ?_ | refine ob ?_ | refine oc ?_ | refine od ?_ | refine oe ?_ | refine og ?_ | refine oh ?_ | refine oi ?_) | (with_reducible refine cExitMiss ?_ ?_; rfl) | (with_reducible refine ok ?_; first | refine ACode.condT rfl ?_ | refine ACode.condF rfl ?_)
        refine NewMaps.err rfl (WkF.tup (.cons (.one (.nilS 5)) (.cons (.ofEq ?_) .nil))) (by rw [hfe, he]; decide) hou rfl
        rw [hfe, he]
      · have hpe : x.params = d.params := by simpa using hb
        have hce := EqualFunc54_ok (Γ := Γ) hΓ 55 sameConB x.cons d.cons hx.2.1 (fun a ha' b _ => sameCon_ok hΓ a b (hx.2.2 a ha').1 (hx.2.2 a ha').2)
        repeat first | (with_reducible refine oj ?_; refine AOps.auto tabOk rfl ?_) | (with_reducible first | refine o1 ?_ | refine o2 ?_ | refine o3 ?_ | refine o4 ?_ | refine o5 ?_ | refine o6 ?_ | refine o7 ?_ | refine o8 ?_ | refine o9 ?_ | refine oa ?_ | refine ob ?_ | refine oc ?_ | refine od ?_ | refine oe ?_ | refine og ?_ | refine oh ?_ | refine oi ?_) | (with_reducible refine cExitMiss ?_ ?_; rfl) | (with_reducible refine ok ?_; first | refine ACode.condT rfl ?_ | refine ACode.condF rfl ?_)
        refine AOps.splitG rfl rfl rfl (fun hc => ?_) (fun hc => ?_)
        · have hcl : 0 < d.cons.length := by simpa using hc
          repeat first | (with_reducible refine oj ?_; refine AOps.auto tabOk rfl ?_) | (with_reducible first | refine o1 ?_ | refine o2 ?_ | refine o3 ?_ | refine o4 ?_ | refine o5 ?_ | refine o6 ?_ | refine o7 ?_ | refine o8 ?_ | refine o9 ?_ | refine oa ?_ | refine ob ?_ | refine oc ?_ | refine od ?_ | refine oe ?_ | refine og ?_ | refine oh ?_ | refine oi ?_) | (with_reducible refine cExitMiss ?_ ?_; rfl) | (with_reducible refine ok ?_; first | refine ACode.condT rfl ?_ | refine ACode.condF rfl ?_)
          refine AOps.callG hΓ hce rfl rfl rfl rfl rfl rfl rfl rfl rfl hou (by simp) ?_
          repeat first | (with_reducible refine oj ?_; refine AOps.auto tabOk rfl ?_) | (with_reducible first | refine o1 ?_ | refine o2 ?_ | refine o3 ?_ | refine o4 ?_ | refine o5 ?_ | refine o6 ?_ | refine o7 ?_ | refine o8 ?_ | refine o9 ?_ | refine oa ?_ | refine ob ?_ | refine oc ?_ | refine od ?_ | refine oe ?_ | refine og ?_ | refine oh ?_ | refine oi ?_) | (with_reducible refine cExitMiss ?_ ?_; rfl) | (with_reducible refine ok ?_; first | refine ACode.condT rfl ?_ | refine ACode.condF rfl ?_)
          refine ACode.cond rfl (fun hq => ?_) (fun hq => ?_)
          · have he : typeErr m.datas d = 10 := by
              simp only [typeErr, hfd, hpe]
              simp at hq
              simp [hcl, hq]
            have hfe := firstErr_at hno ha (by rw [he]; decide)
            repeat first | (with_reducible refine oj ?_; refine AOps.auto tabOk rfl ?_) | (with_reducible first | refine o1 ?_ | refine o2 ?_ | refine o3 ?_ | refine o4 ?_ | refine o5 ?_ | refine o6 ?_ | refine o7 ?_ | refine o8 ?_ | refine o9 ?_ | refine oa ?_ | refine ob ?_ | refine oc ?_ | refine od ?_ | refine oe ?_ | refine og ?_ | refine oh ?_ | refine oi ?_) | (with_reducible refine cExitMiss ?_ ?_; rfl) | (with_reducible refine ok ?_; first | refine ACode.condT rfl ?_ | refine ACode.condF rfl ?_)
            refine NewMaps.err rfl (WkF.tup (.cons (.one (.nilS 5)) (.cons (.ofEq ?_) .nil))) (by rw [hfe, he]; decide) hou rfl
            rw [hfe, he]
          · have he : typeErr m.datas d = 0 := by
              simp only [typeErr, hfd, hpe]
              simp at hq
              simp [hcl, hq]
            repeat first | (with_reducible refine oj ?_; refine AOps.auto tabOk rfl ?_) | (with_reducible first | refine o1 ?_ | refine o2 ?_ | refine o3 ?_ | refine o4 ?_ | refine o5 ?_ | refine o6 ?_ | refine o7 ?_ | refine o8 ?_ | refine o9 ?_ | refine oa ?_ | refine ob ?_ | refine oc ?_ | refine od ?_ | refine oe ?_ | refine og ?_ | refine oh ?_ | refine oi ?_) | (with_reducible refine cExitMiss ?_ ?_; rfl) | (with_reducible refine ok ?_; first | refine ACode.condT rfl ?_ | refine ACode.condF rfl ?_)
            refine ACode.drawX tabOk 14 [(4, .one (str (name ++ dot))), (7, .one (str (name ++ dot ++ d.name))), (10, .one (.sl 4 (encTys (varsTo d.params.toNat))))] follows (by kernel_rfl) rfl rfl rfl rfl ?_ ?_
            · refine .step rfl (HStep.plain rfl (AStep.concat rfl rfl rfl (by show name.size + 1 ≤ _; omega))) ?_
              have hnd : (name ++ dot).size = name.size + 1 := by simp [ByteArray.size_append, dot]; rfl
              refine .step rfl (HStep.plain rfl (AStep.concat rfl rfl rfl (by rw [hnd]; omega))) ?_
              exact .call hΓ (variables_ok hΓ d.params hp) hou (by simp) rfl rfl rfl rfl rfl rfl .nil
            repeat first | (with_reducible refine oj ?_; refine AOps.auto tabOk rfl ?_) | (with_reducible first | refine o1 ?_ | refine o2 ?_ | refine o3 ?_ | refine o4 ?_ | refine o5 ?_ | refine o6 ?_ | refine o7 ?_ | refine o8 ?_ | refine o9 ?_ | refine oa ?_ | refine ob ?_ | refine oc ?_ | refine od ?_ | refine oe ?_ | refine og ?_ | refine oh ?_ | refine oi ?_) | (with_reducible refine cExitMiss ?_ ?_; rfl) | (with_reducible refine ok ?_; first | refine ACode.condT rfl ?_ | refine ACode.condF rfl ?_)
            refine AOps.app tabOk rfl rfl rfl rfl rfl rfl rfl rfl rfl (Base.gs' _ _ _ _ _ (by rfl) (by simp; omega)) (.sl _ _) rfl ?_ ?_ ?_
            · simp; show (min j s.datas.length + 1) * 72 ≤ _; omega
            · simp; omega
            repeat first | (with_reducible refine oj ?_; refine AOps.auto tabOk rfl ?_) | (with_reducible first | refine o1 ?_ | refine o2 ?_ | refine o3 ?_ | refine o4 ?_ | refine o5 ?_ | refine o6 ?_ | refine o7 ?_ | refine o8 ?_ | refine o9 ?_ | refine oa ?_ | refine ob ?_ | refine oc ?_ | refine od ?_ | refine oe ?_ | refine og ?_ | refine oh ?_ | refine oi ?_) | (with_reducible refine cExitMiss ?_ ?_; rfl) | (with_reducible refine ok ?_; first | refine ACode.condT rfl ?_ | refine ACode.condF rfl ?_)
            refine AOps.step1 rfl rfl rfl (AStep.arith rfl rfl rfl (.inl ⟨rfl, rfl⟩) (inRange_i64 (by omega) (by omega))) ?_
            repeat first | (with_reducible refine oj ?_; refine AOps.auto tabOk rfl ?_) | (with_reducible first | refine o1 ?_ | refine o2 ?_ | refine o3 ?_ | refine o4 ?_ | refine o5 ?_ | refine o6 ?_ | refine o7 ?_ | refine o8 ?_ | refine o9 ?_ | refine oa ?_ | refine ob ?_ | refine oc ?_ | refine od ?_ | refine oe ?_ | refine og ?_ | refine oh ?_ | refine oi ?_) | (with_reducible refine cExitMiss ?_ ?_; rfl) | (with_reducible refine ok ?_; first | refine ACode.condT rfl ?_ | refine ACode.condF rfl ?_)
            refine cInv ⟨s.datas.length - (j + 1), j + 1, fun k => if k = 1 then 4 else k, by omega, ⟨by omega, take_all hno ha he, rfl⟩, LessR.of rfl ?_ (by simp) ?_ rfl rfl hou⟩
            · (repeat' first | exact FrSub.nil | refine FrSub.cons rfl (.ofEq rfl) ?_ | refine FrSub.consP rfl (.ofEq rfl) (by simp) ?_)
              refine .cons rfl (.ofEq ?_) .nil
              simp only [FV.ren, AC.ren, ren_maps]
              rw [outerM_succ ha]; rfl
            · have : j ≤ s.datas.length := by omega
              repeat' first | exact LoSub.nil | refine LoSub.cons rfl ?_ rfl (by simp) ?_ | rfl | (refine (AObj.ren_pure _ _ ?_).symm; simp; done) | (simp [AObj.ren, renL, AC.ren, cTy]; done) | (simp [AObj.ren, renL, AC.ren, cTy]; rfl)
              simp [AObj.ren, Nat.min_eq_left this]; rfl
        · have he : typeErr m.datas d = 0 := by
            simp only [typeErr, hfd, hpe]
            simp at hc
            simp [hc]
          repeat first | (with_reducible refine oj ?_; refine AOps.auto tabOk rfl ?_) | (with_reducible first | refine o1 ?_ | refine o2 ?_ | refine o3 ?_ | refine o4 ?_ | refine o5 ?_ | refine o6 ?_ | refine o7 ?_ | refine o8 ?_ | refine o9 ?_ | refine oa ?_ | refine ob ?_ | refine oc ?_ | refine od ?_ | refine oe ?_ | refine og ?_ | refine oh ?_ | refine oi ?_) | (with_reducible refine cExitMiss ?_ ?_; rfl) | (with_reducible refine ok ?_; first | refine ACode.condT rfl ?_ | refine ACode.condF rfl ?_)
          refine ACode.drawX tabOk 14 [(4, .one (str (name ++ dot))), (7, .one (str (name ++ dot ++ d.name))), (10, .one (.sl 4 (encTys (varsTo d.params.toNat))))] follows (by kernel_rfl) rfl rfl rfl rfl ?_ ?_
          · refine .step rfl (HStep.plain rfl (AStep.concat rfl rfl rfl (by show name.size + 1 ≤ _; omega))) ?_
            have hnd : (name ++ dot).size = name.size + 1 := by simp [ByteArray.size_append, dot]; rfl
            refine .step rfl (HStep.plain rfl (AStep.concat rfl rfl rfl (by rw [hnd]; omega))) ?_
            exact .call hΓ (variables_ok hΓ d.params hp) hou (by simp) rfl rfl rfl rfl rfl rfl .nil
          repeat first | (with_reducible refine oj ?_; refine AOps.auto tabOk rfl ?_) | (with_reducible first | refine o1 ?_ | refine o2 ?_ | refine o3 ?_ | refine o4 ?_ | refine o5 ?_ | refine o6 ?_ | refine o7 ?_ | refine o8 ?_ | refine o9 ?_ | refine oa ?_ | refine ob ?_ | refine oc ?_ | refine od ?_ | refine oe ?_ | refine og ?_ | refine oh ?_ | refine oi ?_) | (with_reducible refine cExitMiss ?_ ?_; rfl) | (with_reducible refine ok ?_; first | refine ACode.condT rfl ?_ | refine ACode.condF rfl ?_)
          refine AOps.app tabOk rfl rfl rfl rfl rfl rfl rfl rfl rfl (Base.gs' _ _ _ _ _ (by rfl) (by simp; omega)) (.sl _ _) rfl ?_ ?_ ?_
          · simp; show (min j s.datas.length + 1) * 72 ≤ _; omega
          · simp; omega
          repeat first | (with_reducible refine oj ?_; refine AOps.auto tabOk rfl ?_) | (with_reducible first | refine o1 ?_ | refine o2 ?_ | refine o3 ?_ | refine o4 ?_ | refine o5 ?_ | refine o6 ?_ | refine o7 ?_ | refine o8 ?_ | refine o9 ?_ | refine oa ?_ | refine ob ?_ | refine oc ?_ | refine od ?_ | refine oe ?_ | refine og ?_ | refine oh ?_ | refine oi ?_) | (with_reducible refine cExitMiss ?_ ?_; rfl) | (with_reducible refine ok ?_; first | refine ACode.condT rfl ?_ | refine ACode.condF rfl ?_)
          refine AOps.step1 rfl rfl rfl (AStep.arith rfl rfl rfl (.inl ⟨rfl, rfl⟩) (inRange_i64 (by omega) (by omega))) ?_
          repeat first | (with_reducible refine oj ?_; refine AOps.auto tabOk rfl ?_) | (with_reducible first | refine o1 ?_ | refine o2 ?_ | refine o3 ?_ | refine o4 ?_ | refine o5 ?_ | refine o6 ?_ | refine o7 ?_ | refine o8 ?_ | refine o9 ?_ | refine oa ?_ | refine ob ?_ | refine oc ?_ | refine od ?_ | refine oe ?_ | refine og ?_ | refine oh ?_ | refine oi ?_) | (with_reducible refine cExitMiss ?_ ?_; rfl) | (with_reducible refine ok ?_; first | refine ACode.condT rfl ?_ | refine ACode.condF rfl ?_)
          refine cInv ⟨s.datas.length - (j + 1), j + 1, fun k => if k = 1 then 4 else k, by omega, ⟨by omega, take_all hno ha he, rfl⟩, LessR.of rfl ?_ (by simp) ?_ rfl rfl hou⟩
          · (repeat' first | exact FrSub.nil | refine FrSub.cons rfl (.ofEq rfl) ?_ | refine FrSub.consP rfl (.ofEq rfl) (by simp) ?_)
            refine .cons rfl (.ofEq ?_) .nil
            simp only [FV.ren, AC.ren, ren_maps]
            rw [outerM_succ ha]; rfl
          · have : j ≤ s.datas.length := by omega
            repeat' first | exact LoSub.nil | refine LoSub.cons rfl ?_ rfl (by simp) ?_ | rfl | (refine (AObj.ren_pure _ _ ?_).symm; simp; done) | (simp [AObj.ren, renL, AC.ren, cTy]; done) | (simp [AObj.ren, renL, AC.ren, cTy]; rfl)
            simp [AObj.ren, Nat.min_eq_left this]; rfl
  · have hlt : j = s.datas.length := by simp at hb2; omega
    subst hlt
    rw [List.take_length] at hno
    have hfe := firstErr_all hno
    repeat first | (with_reducible refine oj ?_; refine AOps.auto tabOk rfl ?_) | (with_reducible first | refine o1 ?_ | refine o2 ?_ | refine o3 ?_ | refine o4 ?_ | refine o5 ?_ | refine o6 ?_ | refine o7 ?_ | refine o8 ?_ | refine o9 ?_ | refine oa ?_ | refine ob ?_ | refine oc ?_ | refine od ?_ | refine oe ?_ | refine og ?_ | refine oh ?_ | refine oi ?_) | (with_reducible refine cExitMiss ?_ ?_; rfl) | (with_reducible refine ok ?_; first | refine ACode.condT rfl ?_ | refine ACode.condF rfl ?_)
    refine NewMaps.new 1 rfl (WkF.tup (.cons (.ofEq ?_) (.cons (.ofEq rfl) .nil))) hfe hou rfl ?_
    · simp
    · rw [outerM_len]; rfl
end Go.Proofs.YtoojdmgbffnmiaaDoor
