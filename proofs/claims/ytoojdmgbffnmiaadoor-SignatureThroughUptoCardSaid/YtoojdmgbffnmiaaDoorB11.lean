/- SignatureSelf and SignatureThrough: the laws, and their walks. -/
import Derived.Test.YtoojdmgbffnmiaaDoorB10
namespace Go.Proofs.YtoojdmgbffnmiaaDoor
open Go Go.Abs
set_option maxRecDepth 10000
set_option linter.unusedVariables false
set_option linter.unusedSimpArgs false
theorem findBy_self {α : Type} {f : α → Str} : ∀ {l : List α} {a : α}, Sorted f l → a ∈ l → findBy f (f a) l = some a
  | x :: l, a, hs, ha => by
    obtain ⟨hx, hl⟩ := List.pairwise_cons.1 hs
    unfold findBy
    rw [List.find?_cons]
    rcases List.mem_cons.1 ha with rfl | ha
    · rw [cmpStr_self]; rfl
    · have := hx a ha
      have h0 : (cmpStr (f x) (f a) == 0) = false := by simp; omega
      rw [h0]
      exact findBy_self hl ha
theorem findBy_some {α : Type} {f : α → Str} {s : Str} {l : List α} {a : α} (h : findBy f s l = some a) : a ∈ l ∧ f a = s := by
  refine ⟨List.mem_of_find?_eq_some h, ?_⟩
  have := List.find?_some h
  exact cmpStr_eq.1 (by simpa using this)
theorem eqL_iff {α : Type} {p : α → α → Bool} : ∀ {us vs : List α}, eqL p us vs = true ↔ us.length = vs.length ∧ ∀ (i : Nat) (a b : α), us[i]? = some a → vs[i]? = some b → p a b = true
  | [], [] => by simp [eqL]
  | [], _ :: _ => by simp [eqL]
  | _ :: _, [] => by simp [eqL]
  | u :: us, v :: vs => by
    simp only [eqL, Bool.and_eq_true, eqL_iff (us := us) (vs := vs), List.length_cons, Nat.add_right_cancel_iff]
    constructor
    · rintro ⟨h1, h2, h3⟩
      refine ⟨h2, fun i a b ha hb => ?_⟩
      cases i with
      | zero => simp at ha hb; subst ha; subst hb; exact h1
      | succ i => exact h3 i a b (by simpa using ha) (by simpa using hb)
    · rintro ⟨h2, h3⟩
      exact ⟨h3 0 u v rfl rfl, h2, fun i a b ha hb => h3 (i + 1) a b (by simpa using ha) (by simpa using hb)⟩
theorem sameConB_iff {a b : CSig} : sameConB a b = true ↔ a.name = b.name ∧ canons a.args = canons b.args := by
  unfold sameConB
  rw [Bool.and_eq_true, str_eq, sameTys_iff]
theorem eqCon_refl (l : List CSig) : eqL sameConB l l = true := eqL_iff.2 ⟨rfl, fun i a b ha hb => by rw [ha] at hb; cases hb; exact sameConB_iff.2 ⟨rfl, rfl⟩⟩
theorem eqCon_trans {a b c : List CSig} (h1 : eqL sameConB a b = true) (h2 : eqL sameConB b c = true) : eqL sameConB a c = true := by
  obtain ⟨l1, p1⟩ := eqL_iff.1 h1
  obtain ⟨l2, p2⟩ := eqL_iff.1 h2
  refine eqL_iff.2 ⟨l1.trans l2, fun i x z hx hz => ?_⟩
  have hi : i < b.length := by have := (List.getElem?_eq_some_iff.1 hx).1; omega
  obtain ⟨y, hy⟩ := get_of_lt hi
  obtain ⟨e1, e2⟩ := sameConB_iff.1 (p1 i x y hx hy)
  obtain ⟨f1, f2⟩ := sameConB_iff.1 (p2 i y z hy hz)
  exact sameConB_iff.2 ⟨e1.trans f1, e2.trans f2⟩
theorem typeErr_zero {l : List DSig} {d : DSig} : typeErr l d = 0 ↔ ∃ x, findBy DSig.name d.name l = some x ∧ x.params = d.params ∧ (0 < d.cons.length → eqL sameConB x.cons d.cons = true) := by
  unfold typeErr
  cases h : findBy DSig.name d.name l with
  | none => simp
  | some x =>
    simp only [Option.some.injEq, exists_eq_left']
    constructor
    · intro h1
      split at h1
      · cases h1
      · rename_i hp
        split at h1
        · cases h1
        · rename_i hq
          refine ⟨by simpa using hp, fun hc => ?_⟩
          simp [hc] at hq
          exact hq
    · rintro ⟨h1, h2⟩
      rw [if_neg (by simpa using h1)]
      rw [if_neg]
      intro hq
      simp only [Bool.and_eq_true, decide_eq_true_eq, Bool.not_eq_true'] at hq
      rw [h2 hq.1] at hq
      cases hq.2
theorem valErr_zero {m s : Spec} {name : Str} {v : VSig} : valErr m s name v = 0 ↔ ∃ x, findBy VSig.name v.name m.vals = some x ∧ genB (mapSch (outerM name m.datas) x.sch) (mapSch (outerM name s.datas) v.sch) = true := by
  unfold valErr
  cases h : findBy VSig.name v.name m.vals with
  | none => simp
  | some x =>
    simp only [Option.some.injEq, exists_eq_left']
    split
    · rename_i h1; simp [h1]
    · rename_i h1; simp [h1]
theorem firstErr_zero_iff {α : Type} {f : α → Int} {l : List α} : firstErr f l = 0 ↔ ∀ x ∈ l, f x = 0 := ⟨firstErr_zero, firstErr_all⟩
/-- When a module satisfies a specification. -/
theorem match_zero {m s : Spec} {name : Str} : matchErr m s name = 0 ↔ chkErr cutN m = 0 ∧ chkErr cutN s = 0 ∧ cutN name = false ∧ (∀ d ∈ s.datas, typeErr m.datas d = 0) ∧ ∀ v ∈ s.vals, valErr m s name v = 0 := by
  unfold matchErr
  by_cases h1 : chkErr cutN m = 0
  · rw [if_neg (by simpa using h1)]
    by_cases h2 : chkErr cutN s = 0
    · rw [if_neg (by simpa using h2)]
      cases h3 : cutN name with
      | true => simp
      | false =>
        rw [if_neg (by simp)]
        by_cases h4 : firstErr (typeErr m.datas) s.datas = 0
        · rw [if_neg (by simpa using h4)]
          rw [firstErr_zero_iff]
          exact ⟨fun h => ⟨h1, h2, rfl, firstErr_zero_iff.1 h4, h⟩, fun h => h.2.2.2.2⟩
        · rw [if_pos h4]
          exact ⟨fun h => absurd h h4, fun h => absurd (firstErr_zero_iff.2 h.2.2.2.1) h4⟩
    · rw [if_pos h2]
      exact ⟨fun h => absurd h h2, fun h => absurd h.2.1 h2⟩
  · rw [if_pos h1]
    exact ⟨fun h => absurd h h1, fun h => absurd h.1 h1⟩
mutual
theorem wfV_fill (args : List Ty) (ha : wfVs args) : ∀ t : Ty, wfV t → wfV (fillTy args t)
  | .mk k n v us, h => by
    simp only [fillTy]
    split
    · split
      · rename_i a hget
        split
        · exact wfVs_iff.1 ha a (List.mem_of_getElem? hget)
        · exact h
      · exact h
    · rename_i hk
      exact ⟨fun h0 => absurd h0 hk, wfVs_fill args ha us h.2⟩
theorem wfVs_fill (args : List Ty) (ha : wfVs args) : ∀ l : List Ty, wfVs l → wfVs (fillTys args l)
  | [], _ => trivial
  | t :: ts, h => ⟨wfV_fill args ha t h.1, wfVs_fill args ha ts h.2⟩
end
mutual
theorem wfV_subst (l : List SMap) (hl : ∀ m ∈ l, wfV m.ty) : ∀ t : Ty, wfV t → wfV (substTy l t)
  | .mk k n v us, h => by
    have h2 := wfVs_subst l hl us h.2
    have h1 : wfV (.mk k n v (substTys l us)) := ⟨fun hk => by rw [h.1 hk]; rfl, h2⟩
    simp only [substTy]
    split
    · split
      · rename_i m hm
        exact wfV_fill _ h2 _ (hl m (List.mem_of_find?_eq_some hm))
      · exact h1
    · exact h1
theorem wfVs_subst (l : List SMap) (hl : ∀ m ∈ l, wfV m.ty) : ∀ ts : List Ty, wfVs ts → wfVs (substTys l ts)
  | [], _ => trivial
  | t :: ts, h => ⟨wfV_subst l hl t h.1, wfVs_subst l hl ts h.2⟩
end
mutual
theorem typErr_wf {vars deep : Int} : ∀ t : Ty, typErr vars deep t = 0 → wfV t
  | .mk k n v us, h => by
    unfold typErr at h
    split at h
    · cases h
    · split at h
      · cases h
      · rename_i h2
        split at h
        · cases h
        · split at h
          · cases h
          · refine ⟨fun hk => ?_, typErrs_wf us h⟩
            subst hk
            have : ¬ ((us.length : Int) ≠ arOf 0) := fun hn => h2 (.inr (.inr (.inl ⟨by decide, hn⟩)))
            have h3 : (us.length : Int) = arOf 0 := Decidable.not_not.1 this
            have h4 : arOf 0 = 0 := rfl
            rw [h4] at h3
            exact List.eq_nil_of_length_eq_zero (by omega)
theorem typErrs_wf {vars deep : Int} : ∀ ts : List Ty, typErrs vars deep ts = 0 → wfVs ts
  | [], _ => trivial
  | t :: ts, h => by
    simp only [typErrs] at h
    split at h
    · rename_i h1; exact absurd h h1
    · rename_i h1
      exact ⟨typErr_wf t (Decidable.not_not.1 h1), typErrs_wf ts h⟩
end
theorem schErr_facts {s : Sch} (h : schErr cutN s = 0) : (0 ≤ s.vars ∧ s.vars ≤ 40) ∧ (∀ p ∈ s.preds, cutN p.cls = false ∧ typErr s.vars 1 p.ty = 0) ∧ typErr s.vars 1 s.ty = 0 := by
  unfold schErr at h
  split at h
  · cases h
  · rename_i h1
    split at h
    · rename_i h2; exact absurd h h2
    · rename_i h2
      refine ⟨by omega, fun p hp => ?_, h⟩
      have := firstErr_zero (Decidable.not_not.1 h2) p hp
      unfold prdErr at this
      split at this
      · cases this
      · rename_i h3; exact ⟨by simpa using h3, this⟩
theorem schErr_wf {s : Sch} (h : schErr cutN s = 0) : wfS s := by
  obtain ⟨_, h1, h2⟩ := schErr_facts h
  exact ⟨typErr_wf _ h2, fun p hp => typErr_wf _ (h1 p hp).2⟩
theorem outerM_wf (name : Str) (l : List DSig) : ∀ m ∈ outerM name l, wfV m.ty := fun m hm => by
  simp [outerM] at hm
  obtain ⟨d, _, rfl⟩ := hm
  refine ⟨fun h => absurd (show (1 : Int) = 0 from h) (by decide), wfVs_iff.2 fun t ht => ?_⟩
  simp [varsTo] at ht
  obtain ⟨i, _, rfl⟩ := ht
  exact ⟨fun _ => rfl, trivial⟩
theorem mapSch_wf {l : List SMap} (hl : ∀ m ∈ l, wfV m.ty) {s : Sch} (h : wfS s) : wfS (mapSch l s) := by
  refine ⟨wfV_subst l hl _ h.1, fun p hp => ?_⟩
  simp [mapSch, mapPrds] at hp
  obtain ⟨q, hq, rfl⟩ := hp
  exact wfV_subst l hl _ (h.2 q hq)
/-- A MODULE SATISFIES ITS OWN SPECIFICATION. -/
theorem match_self {s : Spec} {name : Str} (h : chkErr cutN s = 0) (hn : cutN name = false) : matchErr s s name = 0 := by
  have k := chk_ok h
  refine match_zero.2 ⟨h, h, hn, fun d hd => typeErr_zero.2 ⟨d, findBy_self k.ds hd, rfl, fun _ => eqCon_refl _⟩, fun v hv => valErr_zero.2 ⟨v, findBy_self k.vs hv, ?_⟩⟩
  exact genB_refl (mapSch_wf (outerM_wf _ _) (schErr_wf (k.v v hv).2))
/-- WHAT SATISFIES WHAT SATISFIES. -/
theorem match_trans {a b c : Spec} {name : Str} (h1 : matchErr a b name = 0) (h2 : matchErr b c name = 0) : matchErr a c name = 0 := by
  obtain ⟨a1, a2, a3, a4, a5⟩ := match_zero.1 h1
  obtain ⟨b1, b2, b3, b4, b5⟩ := match_zero.1 h2
  refine match_zero.2 ⟨a1, b2, a3, fun d hd => ?_, fun v hv => ?_⟩
  · obtain ⟨y, hy, hyp, hyc⟩ := typeErr_zero.1 (b4 d hd)
    obtain ⟨hym, hyn⟩ := findBy_some hy
    obtain ⟨x, hx, hxp, hxc⟩ := typeErr_zero.1 (a4 y hym)
    refine typeErr_zero.2 ⟨x, by rw [← hyn]; exact hx, hxp.trans hyp, fun hc => ?_⟩
    have e1 := hyc hc
    have hl := (eqL_iff.1 e1).1
    exact eqCon_trans (hxc (by omega)) e1
  · obtain ⟨y, hy, hyg⟩ := valErr_zero.1 (b5 v hv)
    obtain ⟨hym, hyn⟩ := findBy_some hy
    obtain ⟨x, hx, hxg⟩ := valErr_zero.1 (a5 y hym)
    exact valErr_zero.2 ⟨x, by rw [← hyn]; exact hx, genB_trans hxg hyg⟩
theorem M_sz : nmM.size ≤ 1048576 := by decide
theorem SignatureSelf_ok (s : Spec) (hs : okSpec s) (hz : SzS s) : APure Tryd.prog Γ0 3 [.agg (cSpec s)] (.one (.lit (.bool true))) := by
  have hc := Match_ok s s nmM hs hs hz hz M_sz
  intro ou
  refine AFn.walk 29 tabOk Tryd.func3 rfl (by kernel_rfl) rfl rfl fun hou => ?_
  repeat first | (with_reducible refine oj ?_; refine AOps.auto tabOk rfl ?_) | (with_reducible first | refine o1 ?_ | refine o2 ?_ | refine o3 ?_ | refine o4 ?_ | refine o5 ?_ | refine o6 ?_ | refine o7 ?_ | refine o8 ?_ | refine o9 ?_ | refine oa ?_ | refine ob ?_ | refine oc ?_ | refine od ?_ | refine oe ?_ | refine og ?_ | refine oh ?_ | refine oi ?_) | (with_reducible refine cExitMiss ?_ ?_; rfl) | (with_reducible refine ok ?_; first | refine ACode.condT rfl ?_ | refine ACode.condF rfl ?_)
  by_cases hk : chkErr cutN s = 0
  · have hm := match_self hk cut_M
    rw [hm] at hc
    simp only [if_true] at hc
    refine AOps.callC hΓ0 hc rfl rfl rfl rfl rfl rfl rfl hou (by simp) ?_
    repeat first | (with_reducible refine oj ?_; refine AOps.auto tabOk rfl ?_) | (with_reducible first | refine o1 ?_ | refine o2 ?_ | refine o3 ?_ | refine o4 ?_ | refine o5 ?_ | refine o6 ?_ | refine o7 ?_ | refine o8 ?_ | refine o9 ?_ | refine oa ?_ | refine ob ?_ | refine oc ?_ | refine od ?_ | refine oe ?_ | refine og ?_ | refine oh ?_ | refine oi ?_) | (with_reducible refine cExitMiss ?_ ?_; rfl) | (with_reducible refine ok ?_; first | refine ACode.condT rfl ?_ | refine ACode.condF rfl ?_)
    refine AOps.callC hΓ0 fact_true rfl rfl rfl rfl rfl rfl rfl hou (by simp) ?_
    repeat first | (with_reducible refine oj ?_; refine AOps.auto tabOk rfl ?_) | (with_reducible first | refine o1 ?_ | refine o2 ?_ | refine o3 ?_ | refine o4 ?_ | refine o5 ?_ | refine o6 ?_ | refine o7 ?_ | refine o8 ?_ | refine o9 ?_ | refine oa ?_ | refine ob ?_ | refine oc ?_ | refine od ?_ | refine oe ?_ | refine og ?_ | refine oh ?_ | refine oi ?_) | (with_reducible refine cExitMiss ?_ ?_; rfl) | (with_reducible refine ok ?_; first | refine ACode.condT rfl ?_ | refine ACode.condF rfl ?_)
    exact APure.fin rfl (WkF.ofEq (by simp)) (by simp) hou rfl
  · have hm : matchErr s s nmM = chkErr cutN s := by unfold matchErr; rw [if_pos hk]
    rw [hm, if_neg hk] at hc
    refine AOps.callC hΓ0 hc rfl rfl rfl rfl rfl rfl rfl hou (by simp) ?_
    repeat first | (with_reducible refine oj ?_; refine AOps.auto tabOk rfl ?_) | (with_reducible first | refine o1 ?_ | refine o2 ?_ | refine o3 ?_ | refine o4 ?_ | refine o5 ?_ | refine o6 ?_ | refine o7 ?_ | refine o8 ?_ | refine o9 ?_ | refine oa ?_ | refine ob ?_ | refine oc ?_ | refine od ?_ | refine oe ?_ | refine og ?_ | refine oh ?_ | refine oi ?_) | (with_reducible refine cExitMiss ?_ ?_; rfl) | (with_reducible refine ok ?_; first | refine ACode.condT rfl ?_ | refine ACode.condF rfl ?_)
    refine ACode.cond rfl (fun hb => ?_) (fun hb => ?_)
    · repeat first | (with_reducible refine oj ?_; refine AOps.auto tabOk rfl ?_) | (with_reducible first | refine o1 ?_ | refine o2 ?_ | refine o3 ?_ | refine o4 ?_ | refine o5 ?_ | refine o6 ?_ | refine o7 ?_ | refine o8 ?_ | refine o9 ?_ | refine oa ?_ | refine ob ?_ | refine oc ?_ | refine od ?_ | refine oe ?_ | refine og ?_ | refine oh ?_ | refine oi ?_) | (with_reducible refine cExitMiss ?_ ?_; rfl) | (with_reducible refine ok ?_; first | refine ACode.condT rfl ?_ | refine ACode.condF rfl ?_)
      refine AOps.callC hΓ0 fact_true rfl rfl rfl rfl rfl rfl rfl hou (by simp) ?_
      repeat first | (with_reducible refine oj ?_; refine AOps.auto tabOk rfl ?_) | (with_reducible first | refine o1 ?_ | refine o2 ?_ | refine o3 ?_ | refine o4 ?_ | refine o5 ?_ | refine o6 ?_ | refine o7 ?_ | refine o8 ?_ | refine o9 ?_ | refine oa ?_ | refine ob ?_ | refine oc ?_ | refine od ?_ | refine oe ?_ | refine og ?_ | refine oh ?_ | refine oi ?_) | (with_reducible refine cExitMiss ?_ ?_; rfl) | (with_reducible refine ok ?_; first | refine ACode.condT rfl ?_ | refine ACode.condF rfl ?_)
      refine AOps.callG hΓ0 (Check_ok cutN s hs hz.cut) rfl rfl rfl rfl rfl rfl rfl rfl rfl hou (by simp) ?_
      repeat first | (with_reducible refine oj ?_; refine AOps.auto tabOk rfl ?_) | (with_reducible first | refine o1 ?_ | refine o2 ?_ | refine o3 ?_ | refine o4 ?_ | refine o5 ?_ | refine o6 ?_ | refine o7 ?_ | refine o8 ?_ | refine o9 ?_ | refine oa ?_ | refine ob ?_ | refine oc ?_ | refine od ?_ | refine oe ?_ | refine og ?_ | refine oh ?_ | refine oi ?_) | (with_reducible refine cExitMiss ?_ ?_; rfl) | (with_reducible refine ok ?_; first | refine ACode.condT rfl ?_ | refine ACode.condF rfl ?_)
      exact APure.fin rfl (WkF.ofEq (by simp)) (by simp) hou rfl
    · simp at hb
      exact absurd hb hk
theorem SignatureThrough_ok (a b c : Spec) (ha : okSpec a) (hza : SzS a) (hb : okSpec b) (hzb : SzS b) (hc : okSpec c) (hzc : SzS c) : APure Tryd.prog Γ0 4 [.agg (cSpec a), .agg (cSpec b), .agg (cSpec c)] (.one (.lit (.bool true))) := by
  have c1 := Match_ok a b nmM ha hb hza hzb M_sz
  have c2 := Match_ok b c nmM hb hc hzb hzc M_sz
  have c3 := Match_ok a c nmM ha hc hza hzc M_sz
  intro ou
  refine AFn.walk 43 tabOk Tryd.func4 rfl (by kernel_rfl) rfl rfl fun hou => ?_
  repeat first | (with_reducible refine oj ?_; refine AOps.auto tabOk rfl ?_) | (with_reducible first | refine o1 ?_ | refine o2 ?_ | refine o3 ?_ | refine o4 ?_ | refine o5 ?_ | refine o6 ?_ | refine o7 ?_ | refine o8 ?_ | refine o9 ?_ | refine oa ?_ | refine ob ?_ | refine oc ?_ | refine od ?_ | refine oe ?_ | refine og ?_ | refine oh ?_ | refine oi ?_) | (with_reducible refine cExitMiss ?_ ?_; rfl) | (with_reducible refine ok ?_; first | refine ACode.condT rfl ?_ | refine ACode.condF rfl ?_)
  refine AOps.callC hΓ0 c1 rfl rfl rfl rfl rfl rfl rfl hou (by simp) ?_
  repeat first | (with_reducible refine oj ?_; refine AOps.auto tabOk rfl ?_) | (with_reducible first | refine o1 ?_ | refine o2 ?_ | refine o3 ?_ | refine o4 ?_ | refine o5 ?_ | refine o6 ?_ | refine o7 ?_ | refine o8 ?_ | refine o9 ?_ | refine oa ?_ | refine ob ?_ | refine oc ?_ | refine od ?_ | refine oe ?_ | refine og ?_ | refine oh ?_ | refine oi ?_) | (with_reducible refine cExitMiss ?_ ?_; rfl) | (with_reducible refine ok ?_; first | refine ACode.condT rfl ?_ | refine ACode.condF rfl ?_)
  refine AOps.callC hΓ0 c2 rfl rfl rfl rfl rfl rfl rfl hou (by simp) ?_
  repeat first | (with_reducible refine oj ?_; refine AOps.auto tabOk rfl ?_) | (with_reducible first | refine o1 ?_ | refine o2 ?_ | refine o3 ?_ | refine o4 ?_ | refine o5 ?_ | refine o6 ?_ | refine o7 ?_ | refine o8 ?_ | refine o9 ?_ | refine oa ?_ | refine ob ?_ | refine oc ?_ | refine od ?_ | refine oe ?_ | refine og ?_ | refine oh ?_ | refine oi ?_) | (with_reducible refine cExitMiss ?_ ?_; rfl) | (with_reducible refine ok ?_; first | refine ACode.condT rfl ?_ | refine ACode.condF rfl ?_)
  refine AOps.splitG rfl rfl rfl (fun hv => ?_) (fun hv => ?_)
  · repeat first | (with_reducible refine oj ?_; refine AOps.auto tabOk rfl ?_) | (with_reducible first | refine o1 ?_ | refine o2 ?_ | refine o3 ?_ | refine o4 ?_ | refine o5 ?_ | refine o6 ?_ | refine o7 ?_ | refine o8 ?_ | refine o9 ?_ | refine oa ?_ | refine ob ?_ | refine oc ?_ | refine od ?_ | refine oe ?_ | refine og ?_ | refine oh ?_ | refine oi ?_) | (with_reducible refine cExitMiss ?_ ?_; rfl) | (with_reducible refine ok ?_; first | refine ACode.condT rfl ?_ | refine ACode.condF rfl ?_)
    refine AOps.callC hΓ0 fact_true rfl rfl rfl rfl rfl rfl rfl hou (by simp) ?_
    repeat first | (with_reducible refine oj ?_; refine AOps.auto tabOk rfl ?_) | (with_reducible first | refine o1 ?_ | refine o2 ?_ | refine o3 ?_ | refine o4 ?_ | refine o5 ?_ | refine o6 ?_ | refine o7 ?_ | refine o8 ?_ | refine o9 ?_ | refine oa ?_ | refine ob ?_ | refine oc ?_ | refine od ?_ | refine oe ?_ | refine og ?_ | refine oh ?_ | refine oi ?_) | (with_reducible refine cExitMiss ?_ ?_; rfl) | (with_reducible refine ok ?_; first | refine ACode.condT rfl ?_ | refine ACode.condF rfl ?_)
    exact APure.fin rfl (WkF.ofEq rfl) (by simp) hou rfl
  repeat first | (with_reducible refine oj ?_; refine AOps.auto tabOk rfl ?_) | (with_reducible first | refine o1 ?_ | refine o2 ?_ | refine o3 ?_ | refine o4 ?_ | refine o5 ?_ | refine o6 ?_ | refine o7 ?_ | refine o8 ?_ | refine o9 ?_ | refine oa ?_ | refine ob ?_ | refine oc ?_ | refine od ?_ | refine oe ?_ | refine og ?_ | refine oh ?_ | refine oi ?_) | (with_reducible refine cExitMiss ?_ ?_; rfl) | (with_reducible refine ok ?_; first | refine ACode.condT rfl ?_ | refine ACode.condF rfl ?_)
  refine ACode.cond rfl (fun hw => ?_) (fun hw => ?_)
  · repeat first | (with_reducible refine oj ?_; refine AOps.auto tabOk rfl ?_) | (with_reducible first | refine o1 ?_ | refine o2 ?_ | refine o3 ?_ | refine o4 ?_ | refine o5 ?_ | refine o6 ?_ | refine o7 ?_ | refine o8 ?_ | refine o9 ?_ | refine oa ?_ | refine ob ?_ | refine oc ?_ | refine od ?_ | refine oe ?_ | refine og ?_ | refine oh ?_ | refine oi ?_) | (with_reducible refine cExitMiss ?_ ?_; rfl) | (with_reducible refine ok ?_; first | refine ACode.condT rfl ?_ | refine ACode.condF rfl ?_)
    refine AOps.callC hΓ0 fact_true rfl rfl rfl rfl rfl rfl rfl hou (by simp) ?_
    repeat first | (with_reducible refine oj ?_; refine AOps.auto tabOk rfl ?_) | (with_reducible first | refine o1 ?_ | refine o2 ?_ | refine o3 ?_ | refine o4 ?_ | refine o5 ?_ | refine o6 ?_ | refine o7 ?_ | refine o8 ?_ | refine o9 ?_ | refine oa ?_ | refine ob ?_ | refine oc ?_ | refine od ?_ | refine oe ?_ | refine og ?_ | refine oh ?_ | refine oi ?_) | (with_reducible refine cExitMiss ?_ ?_; rfl) | (with_reducible refine ok ?_; first | refine ACode.condT rfl ?_ | refine ACode.condF rfl ?_)
    exact APure.fin rfl (WkF.ofEq rfl) (by simp) hou rfl
  have e1 : matchErr a b nmM = 0 := by simpa using hv
  have e2 : matchErr b c nmM = 0 := by simpa using hw
  rw [match_trans e1 e2] at c3
  simp only [if_true] at c3
  repeat first | (with_reducible refine oj ?_; refine AOps.auto tabOk rfl ?_) | (with_reducible first | refine o1 ?_ | refine o2 ?_ | refine o3 ?_ | refine o4 ?_ | refine o5 ?_ | refine o6 ?_ | refine o7 ?_ | refine o8 ?_ | refine o9 ?_ | refine oa ?_ | refine ob ?_ | refine oc ?_ | refine od ?_ | refine oe ?_ | refine og ?_ | refine oh ?_ | refine oi ?_) | (with_reducible refine cExitMiss ?_ ?_; rfl) | (with_reducible refine ok ?_; first | refine ACode.condT rfl ?_ | refine ACode.condF rfl ?_)
  refine AOps.callC hΓ0 c3 rfl rfl rfl rfl rfl rfl rfl hou (by simp) ?_
  repeat first | (with_reducible refine oj ?_; refine AOps.auto tabOk rfl ?_) | (with_reducible first | refine o1 ?_ | refine o2 ?_ | refine o3 ?_ | refine o4 ?_ | refine o5 ?_ | refine o6 ?_ | refine o7 ?_ | refine o8 ?_ | refine o9 ?_ | refine oa ?_ | refine ob ?_ | refine oc ?_ | refine od ?_ | refine oe ?_ | refine og ?_ | refine oh ?_ | refine oi ?_) | (with_reducible refine cExitMiss ?_ ?_; rfl) | (with_reducible refine ok ?_; first | refine ACode.condT rfl ?_ | refine ACode.condF rfl ?_)
  refine AOps.callC hΓ0 fact_true rfl rfl rfl rfl rfl rfl rfl hou (by simp) ?_
  repeat first | (with_reducible refine oj ?_; refine AOps.auto tabOk rfl ?_) | (with_reducible first | refine o1 ?_ | refine o2 ?_ | refine o3 ?_ | refine o4 ?_ | refine o5 ?_ | refine o6 ?_ | refine o7 ?_ | refine o8 ?_ | refine o9 ?_ | refine oa ?_ | refine ob ?_ | refine oc ?_ | refine od ?_ | refine oe ?_ | refine og ?_ | refine oh ?_ | refine oi ?_) | (with_reducible refine cExitMiss ?_ ?_; rfl) | (with_reducible refine ok ?_; first | refine ACode.condT rfl ?_ | refine ACode.condF rfl ?_)
  exact APure.fin rfl (WkF.ofEq rfl) (by simp) hou rfl
end Go.Proofs.YtoojdmgbffnmiaaDoor
