/- A node's list, coreFact, CoreOrdered, walked. -/
import Derived.Test.YtnonkoeknpmcjaaDoorB9
namespace Go.Proofs.YtnonkoeknpmcjaaDoor
open Go Go.Abs Go.CoreX
set_option maxRecDepth 10000
set_option linter.unusedVariables false
set_option linter.unusedSimpArgs false
variable {Γ : List (Nat × List AC)}
theorem NodeList_ok (hΓ : ∀ g cs, (g, cs) ∈ Γ → idsL isO cs) (t : Tr) (ht : okT t) (hsz : (listT [] t).length ≤ 1048576) : APure Tryd.prog Γ 34 [.one (.box (cNd t))] (.one (.sl 5 ((listT [] t).map cEx))) := by
  intro ou
  refine AFn.walk 7 tabOk Tryd.func34 rfl (by kernel_rfl) rfl rfl fun hou => ?_
  iterate 11 (first | (with_reducible refine oj ?_; refine AOps.auto tabOk rfl ?_) | (with_reducible first | refine o1 ?_ | refine o2 ?_ | refine o3 ?_ | refine o4 ?_ | refine o5 ?_ | refine o6 ?_ | refine o7 ?_ | refine o8 ?_ | refine o9 ?_ | refine oa ?_ | refine ob ?_ | refine oc ?_ | refine od ?_ | refine oe ?_ | refine og ?_ | refine oh ?_ | refine oi ?_) | (with_reducible refine cExitMiss ?_ ?_; rfl) | (with_reducible refine ok ?_; first | refine ACode.condT rfl ?_ | refine ACode.condF rfl ?_))
  refine ACode.grow 0 0 35 5 rfl rfl ?_
  repeat first | (with_reducible refine oj ?_; refine AOps.auto tabOk rfl ?_) | (with_reducible first | refine o1 ?_ | refine o2 ?_ | refine o3 ?_ | refine o4 ?_ | refine o5 ?_ | refine o6 ?_ | refine o7 ?_ | refine o8 ?_ | refine o9 ?_ | refine oa ?_ | refine ob ?_ | refine oc ?_ | refine od ?_ | refine oe ?_ | refine og ?_ | refine oh ?_ | refine oi ?_) | (with_reducible refine cExitMiss ?_ ?_; rfl) | (with_reducible refine ok ?_; first | refine ACode.condT rfl ?_ | refine ACode.condF rfl ?_)
  refine AOps.cede 0 (show 0 < 2 by omega) fun ko hko => ⟨[(4, .one (.box (cNd t))), (3, .one (.ptr (.o ko) 0))],
    ⟨2, [(1, .tok 35 5 0)], updO ou ko (.cells [.gs 5 [] (.l 1)])⟩, ⟨CedFr.get ?_, rfl, fun i x hx => ?_⟩, ?_⟩
  · exact .cons rfl (FV.sub_o _ (by simp)) (.cons rfl rfl .nil)
  · have hko : ou ko = none := hko
    cases i with
    | l m =>
      by_cases e : 1 = m
      · subst e; cases hx; exact ⟨.l 1, _, rfl, rfl, rfl⟩
      · simp [St.get, lookL, beq_no e] at hx
    | o m =>
      have hx' : updO ou ko (.cells [.gs 5 [] (.l 1)]) m = some x := hx
      by_cases e : ko = m
      · subst e; rw [updO_same] at hx'; cases hx'; exact ⟨.l 0, _, rfl, rfl, rfl⟩
      · rw [updO_ne _ e] at hx'
        exact ⟨.o m, x, hx', rfl, (AObj.sub_o x (hou m x hx')).symm⟩
  have hko : ou ko = none := hko
  refine AOps.cede 1 (show 1 < 2 by omega) fun kt hkt => ⟨[(4, .one (.box (cNd t))), (3, .one (.ptr (.o ko) 0))],
    ⟨2, [], ouS ou ko kt (([] : List Ex).map cEx)⟩, ⟨CedFr.get ?_, rfl, fun i x hx => ?_⟩, ?_⟩
  · exact .cons rfl (FV.sub_o _ (by simp)) (.cons rfl rfl .nil)
  · have hkt : updO ou ko (.cells [.gs 5 [] (.l 1)]) kt = none := hkt
    have hkto : ko ≠ kt := fun e => by subst e; rw [updO_same] at hkt; cases hkt
    cases i with
    | l m => cases hx
    | o m =>
      have hx' : ouS ou ko kt (([] : List Ex).map cEx) m = some x := hx
      by_cases e : m = kt
      · subst e; rw [ouS_t] at hx'; cases hx'; exact ⟨.l 1, _, rfl, rfl, rfl⟩
      · by_cases e2 : m = ko
        · subst e2; rw [ouS_o hkto] at hx'; cases hx'
          exact ⟨.o m, .cells [.gs 5 [] (.l 1)], updO_same _ _ _, rfl, rfl⟩
        · rw [ouS_w e2 e] at hx'
          refine ⟨.o m, x, ?_, rfl, (AObj.sub_o x (hou m x hx')).symm⟩
          show updO ou ko (.cells [.gs 5 [] (.l 1)]) m = _
          rw [updO_ne _ (Ne.symm e2)]; exact hx'
  have hkt : updO ou ko (.cells [.gs 5 [] (.l 1)]) kt = none := hkt
  have hot : ko ≠ kt := fun e => by subst e; rw [updO_same] at hkt; cases hkt
  rw [updO_ne _ hot] at hkt
  have hcall := into_ok hΓ t ht ou ko kt [] hou hko hkt hot hsz
  refine AOps.call1 hΓ rfl rfl rfl rfl rfl rfl rfl (by simp) (ouS_ok hou (by simp)) hcall fun r ou' hq hids hou' => ?_
  obtain ⟨rfl, kt', h1, h2, rfl⟩ := hq
  repeat first | (with_reducible refine oj ?_; refine AOps.auto tabOk rfl ?_) | (with_reducible first | refine o1 ?_ | refine o2 ?_ | refine o3 ?_ | refine o4 ?_ | refine o5 ?_ | refine o6 ?_ | refine o7 ?_ | refine o8 ?_ | refine o9 ?_ | refine oa ?_ | refine ob ?_ | refine oc ?_ | refine od ?_ | refine oe ?_ | refine og ?_ | refine oh ?_ | refine oi ?_) | (with_reducible refine cExitMiss ?_ ?_; rfl) | (with_reducible refine ok ?_; first | refine ACode.condT rfl ?_ | refine ACode.condF rfl ?_)
  refine AOps.step1 rfl rfl rfl (AStep.loadOwn tabOk rfl rfl rfl rfl rfl (ouS_o h2 _) rfl) ?_
  refine AOps.wk 6 rfl (y := .one (.sl 5 ((listT [] t).map cEx))) (.one (.gsE rfl)) ?_
  refine AOps.lessO ⟨2, [], ou⟩ rfl (fun i o ho => ?_) ?_
  · cases i with
    | l m => cases ho
    | o m =>
      have ho' : ou m = some o := ho
      show ouS ou ko kt' _ m = some o
      have e1 : m ≠ ko := fun e => by rw [e, hko] at ho'; cases ho'
      have e3 : m ≠ kt' := fun e => by rw [← e, ho'] at h1; cases h1
      rw [ouS_w e1 e3]; exact ho'
  repeat first | (with_reducible refine oj ?_; refine AOps.auto tabOk rfl ?_) | (with_reducible first | refine o1 ?_ | refine o2 ?_ | refine o3 ?_ | refine o4 ?_ | refine o5 ?_ | refine o6 ?_ | refine o7 ?_ | refine o8 ?_ | refine o9 ?_ | refine oa ?_ | refine ob ?_ | refine oc ?_ | refine od ?_ | refine oe ?_ | refine og ?_ | refine oh ?_ | refine oi ?_) | (with_reducible refine cExitMiss ?_ ?_; rfl) | (with_reducible refine ok ?_; first | refine ACode.condT rfl ?_ | refine ACode.condF rfl ?_)
  exact APure.fin rfl (WkF.ofEq rfl) (by simp) hou rfl
def factA : Tr := .mk 2 0 [1] [.mk 0 1 [] [] []] []
def factB : Tr := .mk 2 0 [2] [.mk 0 2 [] [] []] []
theorem okT_fact (n : Int) : okT (.mk 2 0 [n] [.mk 0 n [] [] []] []) := by simp [okT, okTs]
theorem okB_fact (n : Int) : okB (listT [] (.mk 2 0 [n] [.mk 0 n [] [] []] [])) := by
  have e : listT [] (.mk 2 0 [n] [.mk 0 n [] [] []] []) = [⟨0, n, [], [], []⟩, ⟨2, 0, [n], [0], []⟩] := by simp [listT, listTs]
  rw [e]
  refine ⟨⟨by simp, fun x hx => ?_⟩, fun x hx => ?_⟩
  · simp at hx
    rcases hx with rfl | rfl <;> exact ⟨by simp, by simp, by simp, by simp⟩
  · simp at hx
    rcases hx with rfl | rfl <;> simp
theorem same_fact : same (listT [] factA) (listT [] factB) = true := by kernel_rfl
theorem coreFact_ok : APure Tryd.prog Γc 11 [] (.one (.lit (.bool true))) := by
  intro ou
  refine AFn.walk 12 tabOk Tryd.func11 rfl (by kernel_rfl) rfl rfl fun hou => ?_
  repeat first | (with_reducible refine oj ?_; refine AOps.auto tabOk rfl ?_) | (with_reducible first | refine o1 ?_ | refine o2 ?_ | refine o3 ?_ | refine o4 ?_ | refine o5 ?_ | refine o6 ?_ | refine o7 ?_ | refine o8 ?_ | refine o9 ?_ | refine oa ?_ | refine ob ?_ | refine oc ?_ | refine od ?_ | refine oe ?_ | refine og ?_ | refine oh ?_ | refine oi ?_) | (with_reducible refine cExitMiss ?_ ?_; rfl) | (with_reducible refine ok ?_; first | refine ACode.condT rfl ?_ | refine ACode.condF rfl ?_)
  refine AOps.callC hΓc (V_ok hΓc 1) rfl rfl rfl rfl rfl rfl rfl hou (by simp) ?_
  repeat first | (with_reducible refine oj ?_; refine AOps.auto tabOk rfl ?_) | (with_reducible first | refine o1 ?_ | refine o2 ?_ | refine o3 ?_ | refine o4 ?_ | refine o5 ?_ | refine o6 ?_ | refine o7 ?_ | refine o8 ?_ | refine o9 ?_ | refine oa ?_ | refine ob ?_ | refine oc ?_ | refine od ?_ | refine oe ?_ | refine og ?_ | refine oh ?_ | refine oi ?_) | (with_reducible refine cExitMiss ?_ ?_; rfl) | (with_reducible refine ok ?_; first | refine ACode.condT rfl ?_ | refine ACode.condF rfl ?_)
  refine AOps.callC hΓc (B_ok 2 [1] [.mk 0 1 [] [] []]) rfl rfl rfl rfl rfl rfl (by simp [encNds, encNd_eq]; exact ⟨⟨rfl, rfl⟩, rfl⟩) hou (by simp) ?_
  refine AOps.callC hΓc (NodeList_ok hΓc factA (okT_fact 1) (by simp [factA, listT, listTs])) rfl rfl rfl rfl rfl rfl rfl hou (by simp) ?_
  repeat first | (with_reducible refine oj ?_; refine AOps.auto tabOk rfl ?_) | (with_reducible first | refine o1 ?_ | refine o2 ?_ | refine o3 ?_ | refine o4 ?_ | refine o5 ?_ | refine o6 ?_ | refine o7 ?_ | refine o8 ?_ | refine o9 ?_ | refine oa ?_ | refine ob ?_ | refine oc ?_ | refine od ?_ | refine oe ?_ | refine og ?_ | refine oh ?_ | refine oi ?_) | (with_reducible refine cExitMiss ?_ ?_; rfl) | (with_reducible refine ok ?_; first | refine ACode.condT rfl ?_ | refine ACode.condF rfl ?_)
  refine AOps.callC hΓc (V_ok hΓc 2) rfl rfl rfl rfl rfl rfl rfl hou (by simp) ?_
  repeat first | (with_reducible refine oj ?_; refine AOps.auto tabOk rfl ?_) | (with_reducible first | refine o1 ?_ | refine o2 ?_ | refine o3 ?_ | refine o4 ?_ | refine o5 ?_ | refine o6 ?_ | refine o7 ?_ | refine o8 ?_ | refine o9 ?_ | refine oa ?_ | refine ob ?_ | refine oc ?_ | refine od ?_ | refine oe ?_ | refine og ?_ | refine oh ?_ | refine oi ?_) | (with_reducible refine cExitMiss ?_ ?_; rfl) | (with_reducible refine ok ?_; first | refine ACode.condT rfl ?_ | refine ACode.condF rfl ?_)
  refine AOps.callC hΓc (B_ok 2 [2] [.mk 0 2 [] [] []]) rfl rfl rfl rfl rfl rfl (by simp [encNds, encNd_eq]; exact ⟨⟨rfl, rfl⟩, rfl⟩) hou (by simp) ?_
  refine AOps.callC hΓc (NodeList_ok hΓc factB (okT_fact 2) (by simp [factB, listT, listTs])) rfl rfl rfl rfl rfl rfl rfl hou (by simp) ?_
  refine AOps.callC hΓc (Same_ok _ _ (okB_fact 1) (okB_fact 2) same_fact) rfl rfl rfl rfl rfl rfl rfl hou (by simp) ?_
  repeat first | (with_reducible refine oj ?_; refine AOps.auto tabOk rfl ?_) | (with_reducible first | refine o1 ?_ | refine o2 ?_ | refine o3 ?_ | refine o4 ?_ | refine o5 ?_ | refine o6 ?_ | refine o7 ?_ | refine o8 ?_ | refine o9 ?_ | refine oa ?_ | refine ob ?_ | refine oc ?_ | refine od ?_ | refine oe ?_ | refine og ?_ | refine oh ?_ | refine oi ?_) | (with_reducible refine cExitMiss ?_ ?_; rfl) | (with_reducible refine ok ?_; first | refine ACode.condT rfl ?_ | refine ACode.condF rfl ?_)
  exact APure.fin rfl (WkF.ofEq rfl) (by simp) hou rfl
theorem okB_tree {e f : List Ex} (he : IsTree e) (hf : IsTree f) (h : grow e = grow f) (hb : okB e) : okB f := by
  have hp := labs_perm he hf h
  have hl : e.length = f.length := by rw [← len_labs e, ← len_labs f]; exact hp.length_eq
  have key : ∀ y ∈ f, ∃ x ∈ e, labE e x = labE f y := fun y hy => by
    have := hp.mem_iff.2 (List.mem_map_of_mem (f := labE f) hy)
    exact List.mem_map.1 this
  have dat : ∀ y ∈ f, ∃ x ∈ e, x.binds = y.binds ∧ x.alts = y.alts ∧ x.kids.length = y.kids.length := fun y hy => by
    obtain ⟨x, hx, hxy⟩ := key y hy
    simp only [labE, Lab.mk.injEq] at hxy
    have := congrArg List.length hxy.2.2.2.1
    simp only [List.length_map] at this
    exact ⟨x, hx, hxy.2.2.1, hxy.2.2.2.2, this⟩
  refine ⟨⟨by rw [← hl]; exact hb.eo.l, fun y hy => ?_⟩, fun y hy => ?_⟩
  · obtain ⟨x, hx, h1, h2, h3⟩ := dat y hy
    have hx' := hb.eo.x x hx
    exact ⟨by rw [← h1]; exact hx'.b, by rw [← h3]; exact hx'.k, by rw [← h2]; exact hx'.a, by rw [← h2]; exact hx'.ab⟩
  · obtain ⟨x, hx, h1, h2, h3⟩ := dat y hy
    have := hb.b x hx
    rw [h1, h2] at this
    exact this
theorem CoreOrdered_ok (e : List Ex) (he : okB e) : APure Tryd.prog Γc 3 [.one (.sl 5 (e.map cEx))] (.one (.lit (.bool true))) := by
  intro ou
  refine AFn.walk 47 tabOk Tryd.func3 rfl (by kernel_rfl) rfl rfl fun hou => ?_
  have c1 := Order_ok e he
  by_cases h : check e = 0
  · have t1 := body_isTree h
    have t2 := isTree_list (grow e)
    have ho : order e = (listT [] (grow e), 0) := by unfold order; rw [if_neg (by simpa using h)]
    have ho2 : order (listT [] (grow e)) = (listT [] (grow e), 0) := by unfold order; rw [if_neg (by simpa using check_list h), grow_list]
    have hbf : okB (listT [] (grow e)) := okB_tree t1 t2 (grow_list _).symm he
    have c2 := Order_ok _ hbf
    have hlen := len_list h
    have hsm : same e (listT [] (grow e)) = true := by simp [same, h, check_list h, grow_list, sameTree_refl]
    have c3 := Same_ok e _ he hbf hsm
    rw [ho] at c1
    rw [ho2] at c2
    have c4 := SameListR_ok hΓc _ hbf.eo
    generalize listT [] (grow e) = f at c1 c2 c3 c4 hlen
    simp only at c1 c2
    repeat first | (with_reducible refine oj ?_; refine AOps.auto tabOk rfl ?_) | (with_reducible first | refine o1 ?_ | refine o2 ?_ | refine o3 ?_ | refine o4 ?_ | refine o5 ?_ | refine o6 ?_ | refine o7 ?_ | refine o8 ?_ | refine o9 ?_ | refine oa ?_ | refine ob ?_ | refine oc ?_ | refine od ?_ | refine oe ?_ | refine og ?_ | refine oh ?_ | refine oi ?_) | (with_reducible refine cExitMiss ?_ ?_; rfl) | (with_reducible refine ok ?_; first | refine ACode.condT rfl ?_ | refine ACode.condF rfl ?_)
    refine AOps.callC hΓc c1 rfl rfl rfl rfl rfl rfl rfl hou (by simp) ?_
    repeat first | (with_reducible refine oj ?_; refine AOps.auto tabOk rfl ?_) | (with_reducible first | refine o1 ?_ | refine o2 ?_ | refine o3 ?_ | refine o4 ?_ | refine o5 ?_ | refine o6 ?_ | refine o7 ?_ | refine o8 ?_ | refine o9 ?_ | refine oa ?_ | refine ob ?_ | refine oc ?_ | refine od ?_ | refine oe ?_ | refine og ?_ | refine oh ?_ | refine oi ?_) | (with_reducible refine cExitMiss ?_ ?_; rfl) | (with_reducible refine ok ?_; first | refine ACode.condT rfl ?_ | refine ACode.condF rfl ?_)
    refine AOps.callC hΓc c2 rfl rfl rfl rfl rfl rfl rfl hou (by simp) ?_
    repeat first | (with_reducible refine oj ?_; refine AOps.auto tabOk rfl ?_) | (with_reducible first | refine o1 ?_ | refine o2 ?_ | refine o3 ?_ | refine o4 ?_ | refine o5 ?_ | refine o6 ?_ | refine o7 ?_ | refine o8 ?_ | refine o9 ?_ | refine oa ?_ | refine ob ?_ | refine oc ?_ | refine od ?_ | refine oe ?_ | refine og ?_ | refine oh ?_ | refine oi ?_) | (with_reducible refine cExitMiss ?_ ?_; rfl) | (with_reducible refine ok ?_; first | refine ACode.condT rfl ?_ | refine ACode.condF rfl ?_)
    refine AOps.callC hΓc coreFact_ok rfl rfl rfl rfl rfl rfl rfl hou (by simp) ?_
    repeat' first | (with_reducible refine oj ?_; refine AOps.auto tabOk rfl ?_) | (with_reducible first | refine o1 ?_ | refine o2 ?_ | refine o3 ?_ | refine o4 ?_ | refine o5 ?_ | refine o6 ?_ | refine o7 ?_ | refine o8 ?_ | refine o9 ?_ | refine oa ?_ | refine ob ?_ | refine oc ?_ | refine od ?_ | refine oe ?_ | refine og ?_ | refine oh ?_ | refine oi ?_) | (with_reducible refine cExitMiss ?_ ?_; rfl) | (with_reducible refine ok ?_; first | refine ACode.condT rfl ?_ | refine ACode.condF rfl ?_) | (with_reducible refine oj ?_; first | refine AOps.step1 rfl rfl rfl (AStep.arith rfl rfl rfl (.inl ⟨rfl, rfl⟩) (inRange_i64 (by first | omega | (simp; omega)) (by first | omega | (simp; omega)))) ?_ | refine AOps.step1 rfl rfl rfl (AStep.arith rfl rfl rfl (.inr (.inl ⟨rfl, rfl⟩)) (inRange_i64 (by first | omega | (simp; omega)) (by first | omega | (simp; omega)))) ?_ | refine AOps.step1 rfl rfl rfl (AStep.neBool Tryd.underlying4 rfl rfl rfl) ?_ | refine AOps.step1 rfl rfl rfl (AStep.eqBool Tryd.underlying4 rfl rfl rfl) ?_ | refine AOps.step1 rfl rfl rfl (AStep.max2 (t := 3) (ty := 3) rfl rfl rfl) ?_ | refine AOps.step1 rfl rfl rfl (AStep.min2 (t := 3) (ty := 3) rfl rfl rfl) ?_ | refine AOps.unG rfl rfl rfl ?_)
    refine AOps.callC hΓc c4 rfl rfl rfl rfl rfl rfl rfl hou (by simp) ?_
    repeat' first | (with_reducible refine oj ?_; refine AOps.auto tabOk rfl ?_) | (with_reducible first | refine o1 ?_ | refine o2 ?_ | refine o3 ?_ | refine o4 ?_ | refine o5 ?_ | refine o6 ?_ | refine o7 ?_ | refine o8 ?_ | refine o9 ?_ | refine oa ?_ | refine ob ?_ | refine oc ?_ | refine od ?_ | refine oe ?_ | refine og ?_ | refine oh ?_ | refine oi ?_) | (with_reducible refine cExitMiss ?_ ?_; rfl) | (with_reducible refine ok ?_; first | refine ACode.condT rfl ?_ | refine ACode.condF rfl ?_) | (with_reducible refine oj ?_; first | refine AOps.step1 rfl rfl rfl (AStep.arith rfl rfl rfl (.inl ⟨rfl, rfl⟩) (inRange_i64 (by first | omega | (simp; omega)) (by first | omega | (simp; omega)))) ?_ | refine AOps.step1 rfl rfl rfl (AStep.arith rfl rfl rfl (.inr (.inl ⟨rfl, rfl⟩)) (inRange_i64 (by first | omega | (simp; omega)) (by first | omega | (simp; omega)))) ?_ | refine AOps.step1 rfl rfl rfl (AStep.neBool Tryd.underlying4 rfl rfl rfl) ?_ | refine AOps.step1 rfl rfl rfl (AStep.eqBool Tryd.underlying4 rfl rfl rfl) ?_ | refine AOps.step1 rfl rfl rfl (AStep.max2 (t := 3) (ty := 3) rfl rfl rfl) ?_ | refine AOps.step1 rfl rfl rfl (AStep.min2 (t := 3) (ty := 3) rfl rfl rfl) ?_ | refine AOps.unG rfl rfl rfl ?_)
    refine AOps.callC hΓc c3 rfl rfl rfl rfl rfl rfl rfl hou (by simp) ?_
    repeat' first | (with_reducible refine oj ?_; refine AOps.auto tabOk rfl ?_) | (with_reducible first | refine o1 ?_ | refine o2 ?_ | refine o3 ?_ | refine o4 ?_ | refine o5 ?_ | refine o6 ?_ | refine o7 ?_ | refine o8 ?_ | refine o9 ?_ | refine oa ?_ | refine ob ?_ | refine oc ?_ | refine od ?_ | refine oe ?_ | refine og ?_ | refine oh ?_ | refine oi ?_) | (with_reducible refine cExitMiss ?_ ?_; rfl) | (with_reducible refine ok ?_; first | refine ACode.condT rfl ?_ | refine ACode.condF rfl ?_) | (with_reducible refine oj ?_; first | refine AOps.step1 rfl rfl rfl (AStep.arith rfl rfl rfl (.inl ⟨rfl, rfl⟩) (inRange_i64 (by first | omega | (simp; omega)) (by first | omega | (simp; omega)))) ?_ | refine AOps.step1 rfl rfl rfl (AStep.arith rfl rfl rfl (.inr (.inl ⟨rfl, rfl⟩)) (inRange_i64 (by first | omega | (simp; omega)) (by first | omega | (simp; omega)))) ?_ | refine AOps.step1 rfl rfl rfl (AStep.neBool Tryd.underlying4 rfl rfl rfl) ?_ | refine AOps.step1 rfl rfl rfl (AStep.eqBool Tryd.underlying4 rfl rfl rfl) ?_ | refine AOps.step1 rfl rfl rfl (AStep.max2 (t := 3) (ty := 3) rfl rfl rfl) ?_ | refine AOps.step1 rfl rfl rfl (AStep.min2 (t := 3) (ty := 3) rfl rfl rfl) ?_ | refine AOps.unG rfl rfl rfl ?_)
    refine APure.fin rfl (WkF.ofEq ?_) (by simp) hou rfl
    simp [hlen]
  · have ho : order e = ([], check e) := by unfold order; rw [if_pos h]
    rw [ho] at c1
    simp only at c1
    repeat first | (with_reducible refine oj ?_; refine AOps.auto tabOk rfl ?_) | (with_reducible first | refine o1 ?_ | refine o2 ?_ | refine o3 ?_ | refine o4 ?_ | refine o5 ?_ | refine o6 ?_ | refine o7 ?_ | refine o8 ?_ | refine o9 ?_ | refine oa ?_ | refine ob ?_ | refine oc ?_ | refine od ?_ | refine oe ?_ | refine og ?_ | refine oh ?_ | refine oi ?_) | (with_reducible refine cExitMiss ?_ ?_; rfl) | (with_reducible refine ok ?_; first | refine ACode.condT rfl ?_ | refine ACode.condF rfl ?_)
    refine AOps.callC hΓc c1 rfl rfl rfl rfl rfl rfl rfl hou (by simp) ?_
    repeat first | (with_reducible refine oj ?_; refine AOps.auto tabOk rfl ?_) | (with_reducible first | refine o1 ?_ | refine o2 ?_ | refine o3 ?_ | refine o4 ?_ | refine o5 ?_ | refine o6 ?_ | refine o7 ?_ | refine o8 ?_ | refine o9 ?_ | refine oa ?_ | refine ob ?_ | refine oc ?_ | refine od ?_ | refine oe ?_ | refine og ?_ | refine oh ?_ | refine oi ?_) | (with_reducible refine cExitMiss ?_ ?_; rfl) | (with_reducible refine ok ?_; first | refine ACode.condT rfl ?_ | refine ACode.condF rfl ?_)
    refine ACode.cond rfl (fun hb => ?_) (fun hb => absurd (by simpa using hb) h)
    repeat first | (with_reducible refine oj ?_; refine AOps.auto tabOk rfl ?_) | (with_reducible first | refine o1 ?_ | refine o2 ?_ | refine o3 ?_ | refine o4 ?_ | refine o5 ?_ | refine o6 ?_ | refine o7 ?_ | refine o8 ?_ | refine o9 ?_ | refine oa ?_ | refine ob ?_ | refine oc ?_ | refine od ?_ | refine oe ?_ | refine og ?_ | refine oh ?_ | refine oi ?_) | (with_reducible refine cExitMiss ?_ ?_; rfl) | (with_reducible refine ok ?_; first | refine ACode.condT rfl ?_ | refine ACode.condF rfl ?_)
    refine AOps.callC hΓc coreFact_ok rfl rfl rfl rfl rfl rfl rfl hou (by simp) ?_
    repeat' first | (with_reducible refine oj ?_; refine AOps.auto tabOk rfl ?_) | (with_reducible first | refine o1 ?_ | refine o2 ?_ | refine o3 ?_ | refine o4 ?_ | refine o5 ?_ | refine o6 ?_ | refine o7 ?_ | refine o8 ?_ | refine o9 ?_ | refine oa ?_ | refine ob ?_ | refine oc ?_ | refine od ?_ | refine oe ?_ | refine og ?_ | refine oh ?_ | refine oi ?_) | (with_reducible refine cExitMiss ?_ ?_; rfl) | (with_reducible refine ok ?_; first | refine ACode.condT rfl ?_ | refine ACode.condF rfl ?_) | (with_reducible refine oj ?_; first | refine AOps.step1 rfl rfl rfl (AStep.arith rfl rfl rfl (.inl ⟨rfl, rfl⟩) (inRange_i64 (by first | omega | (simp; omega)) (by first | omega | (simp; omega)))) ?_ | refine AOps.step1 rfl rfl rfl (AStep.arith rfl rfl rfl (.inr (.inl ⟨rfl, rfl⟩)) (inRange_i64 (by first | omega | (simp; omega)) (by first | omega | (simp; omega)))) ?_ | refine AOps.step1 rfl rfl rfl (AStep.neBool Tryd.underlying4 rfl rfl rfl) ?_ | refine AOps.step1 rfl rfl rfl (AStep.eqBool Tryd.underlying4 rfl rfl rfl) ?_ | refine AOps.step1 rfl rfl rfl (AStep.max2 (t := 3) (ty := 3) rfl rfl rfl) ?_ | refine AOps.step1 rfl rfl rfl (AStep.min2 (t := 3) (ty := 3) rfl rfl rfl) ?_ | refine AOps.unG rfl rfl rfl ?_)
    exact APure.fin rfl (WkF.ofEq rfl) (by simp) hou rfl
end Go.Proofs.YtnonkoeknpmcjaaDoor
/- Core expressions as plain data: what lies below a node. No condition. -/
namespace Go.CoreX
set_option linter.unusedVariables false
/-- The tree of a node. -/
def treeAt (e : List Ex) (k : Nat) : Tr := (growL e).getD k default
theorem treeAt_node {e : List Ex} (hk : kidsIn e) {i : Nat} {x : Ex} (hx : e[i]? = some x) : treeAt e i = .mk x.op x.n x.binds (x.kids.map fun k => treeAt e k.toNat) x.alts := by
  have hi := (List.getElem?_eq_some_iff.1 hx).1
  have hs : e = e.take i ++ x :: e.drop (i + 1) := by
    obtain ⟨h2, h3⟩ := List.getElem?_eq_some_iff.1 hx
    rw [← h3, ← List.drop_eq_getElem_cons h2, List.take_append_drop]
  have hl : (e.take i).length = i := by simp; omega
  have h1 := growL_at (e.take i) (e.drop (i + 1)) x
  rw [← hs, hl] at h1
  unfold treeAt
  rw [h1]
  simp only [nodeOf, Tr.mk.injEq, true_and, and_true]
  refine List.map_congr_left fun k hkk => ?_
  have hb := hk i x hx k hkk
  have h2 := growL_get (e := e.take i) (l := x :: e.drop (i + 1)) (i := k.toNat) (by rw [hl]; omega)
  rw [← hs] at h2
  exact h2.symm
theorem cnt_pos : ∀ {e : List Ex} {k : Nat}, 0 < cnt e k → ∃ (i : Nat) (x : Ex), e[i]? = some x ∧ (k : Int) ∈ x.kids
  | [], k, h => by simp [cnt] at h
  | x :: e, k, h => by
    simp only [cnt] at h
    by_cases h1 : 0 < x.kids.count (k : Int)
    · exact ⟨0, x, rfl, List.count_pos_iff.1 h1⟩
    · obtain ⟨i, y, h2, h3⟩ := cnt_pos (e := e) (k := k) (by omega)
      exact ⟨i + 1, y, by simpa using h2, h3⟩
/-- What goes down from a node to its kids goes down from the root. -/
theorem up_ind {e : List Ex} (h : IsTree e) {P : Tr → Prop} (h0 : P (grow e)) (h1 : ∀ (t s : Tr), P t → s ∈ t.kids → P s) : ∀ k, k < e.length → P (treeAt e k) := by
  have key : ∀ d k, k < e.length → e.length - k = d → P (treeAt e k) := by
    intro d
    induction d using Nat.strongRecOn with
    | _ d ih =>
      intro k hk hd
      by_cases hl : k + 1 < e.length
      · have hc := (h.c k hk).2 hl
        obtain ⟨i, x, hx, hkx⟩ := cnt_pos (e := e) (k := k) (by omega)
        have hb := h.k i x hx _ hkx
        have hi := (List.getElem?_eq_some_iff.1 hx).1
        have hp := ih (e.length - i) (by omega) i hi rfl
        rw [treeAt_node h.k hx] at hp
        refine h1 _ _ hp ?_
        simp only [Tr.kids_mk, List.mem_map]
        exact ⟨_, hkx, by simp⟩
      · have : k = e.length - 1 := by omega
        subst this
        exact h0
  exact fun k hk => key _ k hk rfl
mutual
theorem sumT_nonneg (g : Lab → Int) (hg : ∀ l, 0 ≤ g l) : ∀ t : Tr, 0 ≤ sumT g t
  | .mk o m b k a => by
    simp only [sumT]
    have h1 := hg ⟨o, m, b, k.map Tr.op, a⟩
    have h2 := sumTs_nonneg g hg k
    omega
theorem sumTs_nonneg (g : Lab → Int) (hg : ∀ l, 0 ≤ g l) : ∀ l : List Tr, 0 ≤ sumTs g l
  | [] => by simp [sumTs]
  | t :: l => by
    simp only [sumTs]
    have h1 := sumT_nonneg g hg t
    have h2 := sumTs_nonneg g hg l
    omega
end
theorem sumT_kid (g : Lab → Int) (hg : ∀ l, 0 ≤ g l) {t s : Tr} (h : s ∈ t.kids) : sumT g s ≤ sumT g t := by
  cases t with
  | mk o m b k a =>
    simp only [Tr.kids_mk] at h
    simp only [sumT, sumTs_eq]
    have h1 := hg ⟨o, m, b, k.map Tr.op, a⟩
    have : sumT g s ≤ (k.map (sumT g)).sum := by
      clear h1
      induction k with
      | nil => cases h
      | cons r k ih =>
        simp only [List.map_cons, List.sum_cons]
        have hr := sumT_nonneg g hg r
        have hk : 0 ≤ (k.map (sumT g)).sum := by
          clear ih h
          induction k with
          | nil => simp
          | cons q k ihk =>
            simp only [List.map_cons, List.sum_cons]
            have := sumT_nonneg g hg q
            omega
        rcases List.mem_cons.1 h with rfl | h
        · omega
        · have := ih h; omega
    omega
theorem depthT_kid {t s : Tr} (h : s ∈ t.kids) : depthT s ≤ depthT t := by
  cases t with
  | mk o m b k a =>
    simp only [Tr.kids_mk] at h
    have := depth_kid (o := o) (n := m) (b := b) (a := a) h
    omega
theorem okT_kid {t s : Tr} (ht : okT t) (h : s ∈ t.kids) : okT s := by
  cases t with
  | mk o m b k a => exact okTs_iff.1 ht.2.2.2.2 s h
theorem sum_mono (g : Lab → Int) (hg : ∀ l, 0 ≤ g l) {e : List Ex} (h : IsTree e) {k : Nat} (hk : k < e.length) : ((labs (listT [] (treeAt e k))).map g).sum ≤ ((labs e).map g).sum := by
  have h1 := sum_tree g (isTree_list (treeAt e k))
  rw [grow_list] at h1
  rw [h1, sum_tree g h]
  exact up_ind h (P := fun t => sumT g t ≤ sumT g (grow e)) (Int.le_refl _) (fun t s ht hs => Int.le_trans (sumT_kid g hg hs) ht) k hk
theorem labs_sub {e : List Ex} (h : IsTree e) {k : Nat} (hk : k < e.length) (l : Lab) (hl : l ∈ labs (listT [] (treeAt e k))) : l ∈ labs e := by
  have h1 := sum_mono (fun l' => if l' = l then (1 : Int) else 0) (fun l' => by split <;> omega) h hk
  rw [sum_count, sum_count] at h1
  have h2 := List.count_pos_iff.2 hl
  exact List.count_pos_iff.1 (by omega)
theorem sum_ones : ∀ ls : List Lab, (ls.map fun _ => (1 : Int)).sum = ls.length
  | [] => rfl
  | l :: ls => by simp only [List.map_cons, List.sum_cons, sum_ones ls, List.length_cons]; omega
theorem len_sub {e : List Ex} (h : IsTree e) {k : Nat} (hk : k < e.length) : (listT [] (treeAt e k)).length ≤ e.length := by
  have h1 := sum_mono (fun _ => (1 : Int)) (fun _ => by omega) h hk
  rw [sum_ones, sum_ones, len_labs, len_labs] at h1
  omega
theorem count_flat (n : Int) (f : Lab → List Int) : ∀ ls : List Lab, (((ls.flatMap f).count n : Nat) : Int) = (ls.map fun l => (((f l).count n : Nat) : Int)).sum
  | [] => rfl
  | l :: ls => by
    simp only [List.flatMap_cons, List.count_append, List.map_cons, List.sum_cons, ← count_flat n f ls]
    omega
/-- A part of an expression that a check finds right: only what occurs freely can be amiss. -/
theorem check_at {e : List Ex} (h : check e = 0) {k : Nat} (hk : k < e.length) : check (listT [] (treeAt e k)) = if 0 < (freeOf (treeAt e k)).length then 6 else 0 := by
  have hb := h
  unfold check body at hb
  by_cases h1 : treeErr e = 0
  · rw [if_neg (by simpa using h1)] at hb
    obtain ⟨t1, t2, t3⟩ := (treeErr_iff e).1 h1
    have t2f := isTree_list (treeAt e k)
    have hl := len_sub t2 hk
    have hdp : depthT (treeAt e k) ≤ 400 := up_ind t2 (P := fun t => depthT t ≤ 400) t3 (fun t s ht hs => Int.le_trans (depthT_kid hs) ht) k hk
    by_cases h2 : firstErr (nodeErrF false e) e = 0
    · rw [if_neg (by simpa using h2)] at hb
      have h2f : firstErr (nodeErrF false (listT [] (treeAt e k))) (listT [] (treeAt e k)) = 0 := by
        rw [firstErr_zero] at h2 ⊢
        intro y hy
        have hm := labs_sub t2 hk _ (List.mem_map_of_mem (f := labE (listT [] (treeAt e k))) hy)
        obtain ⟨x, hx, hxy⟩ := List.mem_map.1 hm
        rw [← nodeErrF_lab (kids_lt t2.k hx) (kids_lt t2f.k hy) hxy]
        exact h2 x hx
      by_cases h3 : hasDup ([] ++ allBinders e) = true
      · rw [if_pos h3] at hb; exact absurd hb (by decide)
      have h3f : ¬ hasDup ([] ++ allBinders (listT [] (treeAt e k))) = true := by
        intro h4
        have h5 := (hasDup_false _).1 (by simpa using h3)
        have h6 : ([] ++ allBinders (listT [] (treeAt e k))).Nodup := by
          rw [List.nil_append]
          have h5 : (allBinders e).Nodup := h5
          rw [List.nodup_iff_count] at h5 ⊢
          intro n
          have h7 := h5 n
          rw [allBinders_labs] at h7 ⊢
          have h8 := sum_mono (fun l => (((bindersN l.op l.binds l.alts).count n : Nat) : Int)) (fun l => by omega) t2 hk
          have h9 := count_flat n (fun l => bindersN l.op l.binds l.alts) (labs e)
          have h10 := count_flat n (fun l => bindersN l.op l.binds l.alts) (labs (listT [] (treeAt e k)))
          rw [← h9, ← h10] at h8
          omega
        rw [(hasDup_false _).2 h6] at h4; cases h4
      unfold check body
      rw [if_neg (by rw [Classical.not_not]; exact (treeErr_iff _).2 ⟨by omega, t2f, by rw [grow_list]; exact hdp⟩), if_neg (by rw [h2f]; simp), if_neg h3f, grow_list]
      by_cases h4 : 0 < (freeOf (treeAt e k)).length
      · rw [if_pos h4, if_neg]
        intro h5
        obtain ⟨n, hn⟩ := List.exists_mem_of_length_pos h4
        have := List.all_eq_true.1 h5 n hn
        simp at this
      · have : freeOf (treeAt e k) = [] := List.length_eq_zero_iff.1 (by omega)
        rw [this]; rfl
    · rw [if_pos h2] at hb; exact absurd hb h2
  · rw [if_pos h1] at hb; exact absurd hb h1
/-- at, Free, Cut, Size. -/
def atErr (e : List Ex) (n : Int) : Int := if check e ≠ 0 then check e else if n < 0 ∨ (e.length : Int) ≤ n then 12 else 0
def freeAt (e : List Ex) (n : Int) : List Int × Int := if atErr e n ≠ 0 then ([], atErr e n) else (freeOf (treeAt e n.toNat), 0)
def cutAt (e : List Ex) (n : Int) : List Ex × Int := if atErr e n ≠ 0 then ([], atErr e n) else (listT [] (treeAt e n.toNat), 0)
def sizeAt (e : List Ex) (n : Int) : Int × Int := if atErr e n ≠ 0 then (0, atErr e n) else ((listT [] (treeAt e n.toNat)).length, 0)
theorem atErr_zero {e : List Ex} {n : Int} (h : atErr e n = 0) : check e = 0 ∧ 0 ≤ n ∧ n.toNat < e.length := by
  unfold atErr at h
  by_cases h1 : check e = 0
  · rw [if_neg (by simpa using h1)] at h
    by_cases h2 : n < 0 ∨ (e.length : Int) ≤ n
    · rw [if_pos h2] at h; cases h
    · exact ⟨h1, by omega, by omega⟩
  · rw [if_pos h1] at h; exact absurd h h1
end Go.CoreX
/- at, below, Free, Cut, Size, CoreCut, walked. -/
namespace Go.Proofs.YtnonkoeknpmcjaaDoor
open Go Go.Abs Go.CoreX
set_option maxRecDepth 10000
set_option linter.unusedVariables false
set_option linter.unusedSimpArgs false
variable {Γ : List (Nat × List AC)}
theorem at_ok (e : List Ex) (he : okB e) (n : Int) : APure Tryd.prog Γc 38 [.one (.sl 5 (e.map cEx)), .one (int n)] (.one (int (atErr e n))) := by
  intro ou
  refine AFn.walk 19 tabOk Tryd.func38 rfl (by kernel_rfl) rfl rfl fun hou => ?_
  repeat first | (with_reducible refine oj ?_; refine AOps.auto tabOk rfl ?_) | (with_reducible first | refine o1 ?_ | refine o2 ?_ | refine o3 ?_ | refine o4 ?_ | refine o5 ?_ | refine o6 ?_ | refine o7 ?_ | refine o8 ?_ | refine o9 ?_ | refine oa ?_ | refine ob ?_ | refine oc ?_ | refine od ?_ | refine oe ?_ | refine og ?_ | refine oh ?_ | refine oi ?_) | (with_reducible refine cExitMiss ?_ ?_; rfl) | (with_reducible refine ok ?_; first | refine ACode.condT rfl ?_ | refine ACode.condF rfl ?_)
  refine AOps.callC hΓc (Check_ok e he) rfl rfl rfl rfl rfl rfl rfl hou (by simp) ?_
  repeat first | (with_reducible refine oj ?_; refine AOps.auto tabOk rfl ?_) | (with_reducible first | refine o1 ?_ | refine o2 ?_ | refine o3 ?_ | refine o4 ?_ | refine o5 ?_ | refine o6 ?_ | refine o7 ?_ | refine o8 ?_ | refine o9 ?_ | refine oa ?_ | refine ob ?_ | refine oc ?_ | refine od ?_ | refine oe ?_ | refine og ?_ | refine oh ?_ | refine oi ?_) | (with_reducible refine cExitMiss ?_ ?_; rfl) | (with_reducible refine ok ?_; first | refine ACode.condT rfl ?_ | refine ACode.condF rfl ?_)
  refine ACode.cond rfl (fun hb => ?_) (fun hb => ?_)
  · have h : check e ≠ 0 := by simpa using hb
    repeat first | (with_reducible refine oj ?_; refine AOps.auto tabOk rfl ?_) | (with_reducible first | refine o1 ?_ | refine o2 ?_ | refine o3 ?_ | refine o4 ?_ | refine o5 ?_ | refine o6 ?_ | refine o7 ?_ | refine o8 ?_ | refine o9 ?_ | refine oa ?_ | refine ob ?_ | refine oc ?_ | refine od ?_ | refine oe ?_ | refine og ?_ | refine oh ?_ | refine oi ?_) | (with_reducible refine cExitMiss ?_ ?_; rfl) | (with_reducible refine ok ?_; first | refine ACode.condT rfl ?_ | refine ACode.condF rfl ?_)
    refine APure.fin rfl (WkF.ofEq ?_) (by simp) hou rfl
    unfold atErr; rw [if_pos h]
  have h : check e = 0 := by simpa using hb
  have hn : atErr e n = if n < 0 ∨ (e.length : Int) ≤ n then 12 else 0 := by unfold atErr; rw [if_neg (by simpa using h)]
  clear hb
  repeat' first | (with_reducible refine oj ?_; refine AOps.auto tabOk rfl ?_) | (with_reducible first | refine o1 ?_ | refine o2 ?_ | refine o3 ?_ | refine o4 ?_ | refine o5 ?_ | refine o6 ?_ | refine o7 ?_ | refine o8 ?_ | refine o9 ?_ | refine oa ?_ | refine ob ?_ | refine oc ?_ | refine od ?_ | refine oe ?_ | refine og ?_ | refine oh ?_ | refine oi ?_) | (with_reducible refine cExitMiss ?_ ?_; rfl) | (with_reducible refine ok ?_; first | refine ACode.condT rfl ?_ | refine ACode.condF rfl ?_) | (with_reducible refine oj ?_; first | refine AOps.step1 rfl rfl rfl (AStep.arith rfl rfl rfl (.inl ⟨rfl, rfl⟩) (inRange_i64 (by first | omega | (simp; omega)) (by first | omega | (simp; omega)))) ?_ | refine AOps.step1 rfl rfl rfl (AStep.arith rfl rfl rfl (.inr (.inl ⟨rfl, rfl⟩)) (inRange_i64 (by first | omega | (simp; omega)) (by first | omega | (simp; omega)))) ?_ | refine AOps.step1 rfl rfl rfl (AStep.neBool Tryd.underlying4 rfl rfl rfl) ?_ | refine AOps.step1 rfl rfl rfl (AStep.eqBool Tryd.underlying4 rfl rfl rfl) ?_ | refine AOps.step1 rfl rfl rfl (AStep.max2 (t := 3) (ty := 3) rfl rfl rfl) ?_ | refine AOps.step1 rfl rfl rfl (AStep.min2 (t := 3) (ty := 3) rfl rfl rfl) ?_ | refine AOps.unG rfl rfl rfl ?_) | (with_reducible refine oj ?_; refine AOps.splitS rfl rfl rfl rfl (fun hb => ?_) (fun hb => ?_)) | (with_reducible refine ok ?_; first | refine ACode.condS rfl (fun hb => ?_) (fun hb => ?_) | refine ACode.cond rfl (fun hb => ?_) (fun hb => ?_))
  all_goals
    refine APure.fin rfl (WkF.ofEq ?_) (by simp) hou rfl
    rw [hn]
    first
      | (rw [if_pos (by simp_all)]; done)
      | (rw [if_pos (by simp at *; omega)]; done)
      | (rw [if_neg (by simp at *; omega)]; done)
set_option maxHeartbeats 1000000 in
theorem below_ok (hΓ : ∀ g cs, (g, cs) ∈ Γ → idsL isO cs) (e : List Ex) (he : okE e) (hin : kidsIn e) (q : Nat) (hq : q < e.length) : APure Tryd.prog Γ 40 [.one (.sl 5 (e.map cEx)), .one (int (q : Nat))] (.one (.box (cTr (treeAt e q)))) := by
  have hel := he.l
  intro ou
  refine AFn.walk 64 tabOk Tryd.func40 rfl (by kernel_rfl) rfl rfl fun hou => ?_
  repeat first | (with_reducible refine oj ?_; refine AOps.auto tabOk rfl ?_) | (with_reducible first | refine o1 ?_ | refine o2 ?_ | refine o3 ?_ | refine o4 ?_ | refine o5 ?_ | refine o6 ?_ | refine o7 ?_ | refine o8 ?_ | refine o9 ?_ | refine oa ?_ | refine ob ?_ | refine oc ?_ | refine od ?_ | refine oe ?_ | refine og ?_ | refine oh ?_ | refine oi ?_) | (with_reducible refine cExitMiss ?_ ?_; rfl) | (with_reducible refine ok ?_; first | refine ACode.condT rfl ?_ | refine ACode.condF rfl ?_)
  have hb : ti56.bytes * (e.map cEx).length ≤ 281474976710656 := by simp; show 8 * _ ≤ _; omega
  have hb2 : (e.map cEx).length ≤ 281474976710656 := by simp; omega
  refine AOps.step1 rfl rfl rfl (AStep.makeArr tabOk rfl rfl rfl rfl rfl rfl rfl rfl hb hb2) ?_
  repeat' first | (with_reducible refine oj ?_; refine AOps.auto tabOk rfl ?_) | (with_reducible first | refine o1 ?_ | refine o2 ?_ | refine o3 ?_ | refine o4 ?_ | refine o5 ?_ | refine o6 ?_ | refine o7 ?_ | refine o8 ?_ | refine o9 ?_ | refine oa ?_ | refine ob ?_ | refine oc ?_ | refine od ?_ | refine oe ?_ | refine og ?_ | refine oh ?_ | refine oi ?_) | (with_reducible refine cExitMiss ?_ ?_; rfl) | (with_reducible refine ok ?_; first | refine ACode.condT rfl ?_ | refine ACode.condF rfl ?_) | (with_reducible refine oj ?_; first | refine AOps.step1 rfl rfl rfl (AStep.arith rfl rfl rfl (.inl ⟨rfl, rfl⟩) (inRange_i64 (by first | omega | (simp; omega)) (by first | omega | (simp; omega)))) ?_ | refine AOps.step1 rfl rfl rfl (AStep.arith rfl rfl rfl (.inr (.inl ⟨rfl, rfl⟩)) (inRange_i64 (by first | omega | (simp; omega)) (by first | omega | (simp; omega)))) ?_ | refine AOps.step1 rfl rfl rfl (AStep.neBool Tryd.underlying4 rfl rfl rfl) ?_ | refine AOps.step1 rfl rfl rfl (AStep.eqBool Tryd.underlying4 rfl rfl rfl) ?_ | refine AOps.step1 rfl rfl rfl (AStep.max2 (t := 3) (ty := 3) rfl rfl rfl) ?_ | refine AOps.step1 rfl rfl rfl (AStep.min2 (t := 3) (ty := 3) rfl rfl rfl) ?_ | refine AOps.unG rfl rfl rfl ?_)
  refine AOps.wk 16 rfl (y := .one (int ((q + 1 : Nat) : Int))) (.ofEq (by simp)) ?_
  refine AOps.step1 rfl rfl rfl (AStep.sliceTo tabOk rfl rfl rfl rfl rfl rfl (by simp; omega)) ?_
  obtain ⟨e', he'⟩ : ∃ e', e' = e.take (q + 1) := ⟨_, rfl⟩
  refine AOps.wk 17 rfl (y := .one (.sl 5 (e'.map cEx))) (.ofEq (by rw [he', List.map_take])) ?_
  have hl' : e'.length = q + 1 := by rw [he']; simp; omega
  have hmem : ∀ x ∈ e', x ∈ e := fun x hx => by rw [he'] at hx; exact List.mem_of_mem_take hx
  have hin' : kidsIn e' := kidsIn_pre (l := e.drop (q + 1)) (by rw [he', List.take_append_drop]; exact hin)
  have htr : treeAt e q = (growL e').getD q default := by
    have := growL_get (e := e') (l := e.drop (q + 1)) (i := q) (by omega)
    rw [he', List.take_append_drop] at this
    rw [he']; exact this
  rw [htr]
  clear he' htr
  repeat first | (with_reducible refine oj ?_; refine AOps.auto tabOk rfl ?_) | (with_reducible first | refine o1 ?_ | refine o2 ?_ | refine o3 ?_ | refine o4 ?_ | refine o5 ?_ | refine o6 ?_ | refine o7 ?_ | refine o8 ?_ | refine o9 ?_ | refine oa ?_ | refine ob ?_ | refine oc ?_ | refine od ?_ | refine oe ?_ | refine og ?_ | refine oh ?_ | refine oi ?_) | (with_reducible refine cExitMiss ?_ ?_; rfl) | (with_reducible refine ok ?_; first | refine ACode.condT rfl ?_ | refine ACode.condF rfl ?_)
  refine ACode.loopR hΓ (α := Nat) (fun j => [(19, .one (int j)), (18, .one (int (e'.map cEx).length)), (17, .one (.sl 5 (e'.map cEx))), (5, .one (.arr (.l 0) 1 0 (e.map cEx).length (e.map cEx).length)), (1, .one (int (q : Nat)))])
    (fun j => ⟨1, [(0, .cells (nodesC (growL (e'.take j)) (e.map cEx).length))], ou⟩) (fun m j => j ≤ e'.length ∧ m = e'.length - j) (a0 := 0) (ρ := id) ⟨by omega, rfl⟩
    (LessR.of rfl (by (repeat' first | exact FrSub.nil | refine FrSub.cons rfl (.ofEq rfl) ?_ | refine FrSub.consP rfl (.ofEq rfl) (by simp) ?_)) (by simp) (LoSub.cons rfl (by rw [AObj.ren_pure _ _ (by simp)]; show AObj.cells (List.replicate _ _) = AObj.cells (nodesC [] _); rw [nodesC_nil]) rfl (by simp) .nil) rfl rfl hou) fun m j hj => ?_
  obtain ⟨hjl, rfl⟩ := hj
  repeat first | (with_reducible refine oj ?_; refine AOps.auto tabOk rfl ?_) | (with_reducible first | refine o1 ?_ | refine o2 ?_ | refine o3 ?_ | refine o4 ?_ | refine o5 ?_ | refine o6 ?_ | refine o7 ?_ | refine o8 ?_ | refine o9 ?_ | refine oa ?_ | refine ob ?_ | refine oc ?_ | refine od ?_ | refine oe ?_ | refine og ?_ | refine oh ?_ | refine oi ?_) | (with_reducible refine cExitMiss ?_ ?_; rfl) | (with_reducible refine ok ?_; first | refine ACode.condT rfl ?_ | refine ACode.condF rfl ?_)
  refine ACode.cond rfl (fun hb2 => ?_) (fun hb2 => ?_)
  · have hlt : j < e'.length := by simpa using hb2
    obtain ⟨x, hx⟩ := get_of_lt hlt
    have hxo := he.x x (hmem x (List.mem_of_getElem? hx))
    have hxk := hxo.k
    have hxin := hin' j x hx
    have hgl : (growL (e'.take j)).length = j := by rw [growL_len]; simp; omega
    repeat first | (with_reducible refine oj ?_; refine AOps.auto tabOk rfl ?_) | (with_reducible first | refine o1 ?_ | refine o2 ?_ | refine o3 ?_ | refine o4 ?_ | refine o5 ?_ | refine o6 ?_ | refine o7 ?_ | refine o8 ?_ | refine o9 ?_ | refine oa ?_ | refine ob ?_ | refine oc ?_ | refine od ?_ | refine oe ?_ | refine og ?_ | refine oh ?_ | refine oi ?_) | (with_reducible refine cExitMiss ?_ ?_; rfl) | (with_reducible refine ok ?_; first | refine ACode.condT rfl ?_ | refine ACode.condF rfl ?_)
    refine AOps.step1 rfl rfl rfl (AStep.indexAddr tabOk rfl rfl rfl rfl rfl rfl (.inl rfl) rfl (by omega) (map_get hx)) ?_
    repeat first | (with_reducible refine oj ?_; refine AOps.auto tabOk rfl ?_) | (with_reducible first | refine o1 ?_ | refine o2 ?_ | refine o3 ?_ | refine o4 ?_ | refine o5 ?_ | refine o6 ?_ | refine o7 ?_ | refine o8 ?_ | refine o9 ?_ | refine oa ?_ | refine ob ?_ | refine oc ?_ | refine od ?_ | refine oe ?_ | refine og ?_ | refine oh ?_ | refine oi ?_) | (with_reducible refine cExitMiss ?_ ?_; rfl) | (with_reducible refine ok ?_; first | refine ACode.condT rfl ?_ | refine ACode.condF rfl ?_)
    refine ACode.grow 2 3 56 1 rfl rfl ?_
    refine ACode.loopR hΓ (α := Nat) (fun i => [(37, .one (int i)), (36, .one (int (x.kids.map cI).length)), (35, .one (.sl 1 (x.kids.map cI))), (8, .one (.ptr (.l 2) 0)), (7, .one (.ptr (.l 1) 0)), (6, .one (int j)), (19, .one (int j)), (18, .one (int (e'.map cEx).length)), (17, .one (.sl 5 (e'.map cEx))), (5, .one (.arr (.l 0) 1 0 (e.map cEx).length (e.map cEx).length)), (1, .one (int (q : Nat)))])
      (fun i => ⟨4, [(3, .tok 56 1 i), (2, .cells [int x.op, int x.n, .sl 1 (x.binds.map cI), .gs 1 ((kidsT (growL (e'.take j)) (x.kids.take i)).map cB) (.l 3), .sl 2 (x.alts.map cAlt)]), (1, .cells (cEx x)), (0, .cells (nodesC (growL (e'.take j)) (e.map cEx).length))], ou⟩)
      (fun m i => i ≤ x.kids.length ∧ m = x.kids.length - i) (a0 := 0) (ρ := id) ⟨by omega, rfl⟩ (LessR.of rfl (by (repeat' first | exact FrSub.nil | refine FrSub.cons rfl (.ofEq rfl) ?_ | refine FrSub.consP rfl (.ofEq rfl) (by simp) ?_)) (by simp) ?_ rfl rfl hou) fun m i hi => ?_
    · repeat' first | exact LoSub.nil | refine LoSub.cons rfl ?_ rfl (by simp) ?_ | rfl | (refine (AObj.ren_pure _ _ ?_).symm; simp; done) | (simp [AObj.ren, renL, AC.ren]; done) | (simp [AObj.ren, renL, AC.ren]; rfl)
      all_goals (simp [AObj.ren, renL, AC.ren, kidsT]; rfl)
    obtain ⟨hil, rfl⟩ := hi
    repeat first | (with_reducible refine oj ?_; refine AOps.auto tabOk rfl ?_) | (with_reducible first | refine o1 ?_ | refine o2 ?_ | refine o3 ?_ | refine o4 ?_ | refine o5 ?_ | refine o6 ?_ | refine o7 ?_ | refine o8 ?_ | refine o9 ?_ | refine oa ?_ | refine ob ?_ | refine oc ?_ | refine od ?_ | refine oe ?_ | refine og ?_ | refine oh ?_ | refine oi ?_) | (with_reducible refine cExitMiss ?_ ?_; rfl) | (with_reducible refine ok ?_; first | refine ACode.condT rfl ?_ | refine ACode.condF rfl ?_)
    refine ACode.cond rfl (fun hb3 => ?_) (fun hb3 => ?_)
    · have hlt2 : i < x.kids.length := by simpa using hb3
      obtain ⟨k, hk⟩ := get_of_lt hlt2
      have hkb := hxin k (List.mem_of_getElem? hk)
      obtain ⟨k', rfl⟩ : ∃ k' : Nat, k = k' := ⟨k.toNat, by omega⟩
      obtain ⟨tk, htk⟩ := get_of_lt (l := growL (e'.take j)) (i := k') (by omega)
      have htd : (growL (e'.take j)).getD (k' : Int).toNat default = tk := by rw [Int.toNat_natCast, List.getD_eq_getElem?_getD, htk]; rfl
      have hks := kidsT_succ (ts := growL (e'.take j)) hk
      rw [htd] at hks
      have hkl : ((kidsT (growL (e'.take j)) (x.kids.take i)).map cB).length = i := by simp [kidsT]; omega
      repeat first | (with_reducible refine oj ?_; refine AOps.auto tabOk rfl ?_) | (with_reducible first | refine o1 ?_ | refine o2 ?_ | refine o3 ?_ | refine o4 ?_ | refine o5 ?_ | refine o6 ?_ | refine o7 ?_ | refine o8 ?_ | refine o9 ?_ | refine oa ?_ | refine ob ?_ | refine oc ?_ | refine od ?_ | refine oe ?_ | refine og ?_ | refine oh ?_ | refine oi ?_) | (with_reducible refine cExitMiss ?_ ?_; rfl) | (with_reducible refine ok ?_; first | refine ACode.condT rfl ?_ | refine ACode.condF rfl ?_)
      refine AOps.step1 rfl rfl rfl (AStep.indexAddr tabOk rfl rfl rfl rfl rfl rfl (.inl rfl) rfl (by omega) (map_get hk)) ?_
      repeat first | (with_reducible refine oj ?_; refine AOps.auto tabOk rfl ?_) | (with_reducible first | refine o1 ?_ | refine o2 ?_ | refine o3 ?_ | refine o4 ?_ | refine o5 ?_ | refine o6 ?_ | refine o7 ?_ | refine o8 ?_ | refine o9 ?_ | refine oa ?_ | refine ob ?_ | refine oc ?_ | refine od ?_ | refine oe ?_ | refine og ?_ | refine oh ?_ | refine oi ?_) | (with_reducible refine cExitMiss ?_ ?_; rfl) | (with_reducible refine ok ?_; first | refine ACode.condT rfl ?_ | refine ACode.condF rfl ?_)
      refine ACode.drawXH (va := .one (.gs 1 ((kidsT (growL (e'.take j)) (x.kids.take i)).map cB ++ [cB tk]) (.l 4))) (σ1 := (St.set ⟨4, [(3, .tok 56 1 i), (2, .cells [int x.op, int x.n, .sl 1 (x.binds.map cI), .gs 1 ((kidsT (growL (e'.take j)) (x.kids.take i)).map cB) (.l 3), .sl 2 (x.alts.map cAlt)]), (1, .cells (cEx x)), (0, .cells (nodesC (growL (e'.take j)) (e.map cEx).length))], ou⟩ (.l 3) .dead).push (.tok 56 1 ((kidsT (growL (e'.take j)) (x.kids.take i)).map cB ++ [cB tk]).length))
        tabOk 11 10 [(7, .one (.ptr (.l 0) k')), (8, .one (.box (cTr tk)))] follows (by kernel_rfl) rfl rfl rfl rfl rfl rfl rfl ?_ ?_ ?_ ?_
      · refine HStep.plain rfl (AStep.append (s := 1) (es := (kidsT (growL (e'.take j)) (x.kids.take i)).map cB) (news := [cB tk]) (ti := ti74) (σ := ⟨4, [(3, .tok 56 1 i), (2, .cells [int x.op, int x.n, .sl 1 (x.binds.map cI), .gs 1 ((kidsT (growL (e'.take j)) (x.kids.take i)).map cB) (.l 3), .sl 2 (x.alts.map cAlt)]), (1, .cells (cEx x)), (0, .cells (nodesC (growL (e'.take j)) (e.map cEx).length))], ou⟩) tabOk rfl rfl rfl rfl rfl rfl (Base.gs' _ 56 1 ((kidsT (growL (e'.take j)) (x.kids.take i)).map cB) (.l 3) rfl hkl.symm) (.sl _ _) rfl ?_ ?_)
        · rw [hkl]; show (i + 1) * 8 ≤ _; omega
        · rw [hkl]; show i + 1 ≤ _; omega
      · refine .step rfl (HStep.plain rfl (idxI tabOk rfl rfl rfl rfl rfl rfl rfl (by simp; omega))) ?_
        exact .step rfl (HStep.plain rfl (AStep.loadOwn tabOk rfl rfl rfl rfl rfl rfl (nodesC_get htk))) .nil
      · refine .step rfl (HStep.plain rfl (idxI tabOk rfl rfl rfl rfl rfl rfl rfl (by simp; omega))) ?_
        exact .step rfl (HStep.plain rfl (AStep.loadOwn tabOk rfl rfl rfl rfl rfl rfl (nodesC_get htk))) .nil
      repeat' first | (with_reducible refine oj ?_; refine AOps.auto tabOk rfl ?_) | (with_reducible first | refine o1 ?_ | refine o2 ?_ | refine o3 ?_ | refine o4 ?_ | refine o5 ?_ | refine o6 ?_ | refine o7 ?_ | refine o8 ?_ | refine o9 ?_ | refine oa ?_ | refine ob ?_ | refine oc ?_ | refine od ?_ | refine oe ?_ | refine og ?_ | refine oh ?_ | refine oi ?_) | (with_reducible refine cExitMiss ?_ ?_; rfl) | (with_reducible refine ok ?_; first | refine ACode.condT rfl ?_ | refine ACode.condF rfl ?_) | (with_reducible refine oj ?_; first | refine AOps.step1 rfl rfl rfl (AStep.arith rfl rfl rfl (.inl ⟨rfl, rfl⟩) (inRange_i64 (by first | omega | (simp; omega)) (by first | omega | (simp; omega)))) ?_ | refine AOps.step1 rfl rfl rfl (AStep.arith rfl rfl rfl (.inr (.inl ⟨rfl, rfl⟩)) (inRange_i64 (by first | omega | (simp; omega)) (by first | omega | (simp; omega)))) ?_ | refine AOps.step1 rfl rfl rfl (AStep.neBool Tryd.underlying4 rfl rfl rfl) ?_ | refine AOps.step1 rfl rfl rfl (AStep.eqBool Tryd.underlying4 rfl rfl rfl) ?_ | refine AOps.step1 rfl rfl rfl (AStep.max2 (t := 3) (ty := 3) rfl rfl rfl) ?_ | refine AOps.step1 rfl rfl rfl (AStep.min2 (t := 3) (ty := 3) rfl rfl rfl) ?_ | refine AOps.unG rfl rfl rfl ?_)
      refine cInv ⟨x.kids.length - (i + 1), i + 1, fun k => if k = 3 then 4 else k, by omega, ⟨by omega, rfl⟩, LessR.of rfl (by (repeat' first | exact FrSub.nil | refine FrSub.cons rfl (.ofEq rfl) ?_ | refine FrSub.consP rfl (.ofEq rfl) (by simp) ?_)) (by simp) ?_ rfl rfl hou⟩
      repeat' first | exact LoSub.nil | refine LoSub.cons rfl ?_ rfl (by simp) ?_ | rfl | (refine (AObj.ren_pure _ _ ?_).symm; simp; done) | (simp [AObj.ren, renL, AC.ren]; done) | (simp [AObj.ren, renL, AC.ren]; rfl)
      · simp only [AObj.ren, List.length_append, hkl]; rfl
      · rw [hks]; simp only [AObj.ren, renL, AC.ren, ren_cIs, ren_cBs, ren_cAlts]; rw [List.map_append]; rfl
    have hlt2 : i = x.kids.length := by simp at hb3; omega
    subst hlt2
    rw [List.take_length]
    repeat first | (with_reducible refine oj ?_; refine AOps.auto tabOk rfl ?_) | (with_reducible first | refine o1 ?_ | refine o2 ?_ | refine o3 ?_ | refine o4 ?_ | refine o5 ?_ | refine o6 ?_ | refine o7 ?_ | refine o8 ?_ | refine o9 ?_ | refine oa ?_ | refine ob ?_ | refine oc ?_ | refine od ?_ | refine oe ?_ | refine og ?_ | refine oh ?_ | refine oi ?_) | (with_reducible refine cExitMiss ?_ ?_; rfl) | (with_reducible refine ok ?_; first | refine ACode.condT rfl ?_ | refine ACode.condF rfl ?_)
    refine AOps.step1 rfl rfl rfl (idxI tabOk rfl rfl rfl rfl rfl rfl rfl (by simp; omega)) ?_
    refine AOps.freeze1 (.l 2) 57 rfl rfl ?_
    refine AOps.wk 57 rfl (y := .one (.box (cTr (nodeOf (growL (e'.take j)) x)))) (.one (Wk.box ?_)) ?_
    · rw [nodeOf_eq]
      exact .cons (.refl _) (.cons (.refl _) (.cons (.refl _) (.cons (.gsE (encTrs_eq _).symm) (.cons (.refl _) .nil))))
    refine AOps.storeOwn tabOk rfl rfl rfl rfl rfl rfl rfl rfl (by rw [nodesC_len (by simp [hgl]; omega)]; simp; omega) ?_
    have hst := nodesC_set (ts := growL (e'.take j)) (n := (e.map cEx).length) (by simp [hgl]; omega) (nodeOf (growL (e'.take j)) x)
    rw [hgl, ← growL_snoc, ← take_get hx] at hst
    rw [hst]
    repeat' first | (with_reducible refine oj ?_; refine AOps.auto tabOk rfl ?_) | (with_reducible first | refine o1 ?_ | refine o2 ?_ | refine o3 ?_ | refine o4 ?_ | refine o5 ?_ | refine o6 ?_ | refine o7 ?_ | refine o8 ?_ | refine o9 ?_ | refine oa ?_ | refine ob ?_ | refine oc ?_ | refine od ?_ | refine oe ?_ | refine og ?_ | refine oh ?_ | refine oi ?_) | (with_reducible refine cExitMiss ?_ ?_; rfl) | (with_reducible refine ok ?_; first | refine ACode.condT rfl ?_ | refine ACode.condF rfl ?_) | (with_reducible refine oj ?_; first | refine AOps.step1 rfl rfl rfl (AStep.arith rfl rfl rfl (.inl ⟨rfl, rfl⟩) (inRange_i64 (by first | omega | (simp; omega)) (by first | omega | (simp; omega)))) ?_ | refine AOps.step1 rfl rfl rfl (AStep.arith rfl rfl rfl (.inr (.inl ⟨rfl, rfl⟩)) (inRange_i64 (by first | omega | (simp; omega)) (by first | omega | (simp; omega)))) ?_ | refine AOps.step1 rfl rfl rfl (AStep.neBool Tryd.underlying4 rfl rfl rfl) ?_ | refine AOps.step1 rfl rfl rfl (AStep.eqBool Tryd.underlying4 rfl rfl rfl) ?_ | refine AOps.step1 rfl rfl rfl (AStep.max2 (t := 3) (ty := 3) rfl rfl rfl) ?_ | refine AOps.step1 rfl rfl rfl (AStep.min2 (t := 3) (ty := 3) rfl rfl rfl) ?_ | refine AOps.unG rfl rfl rfl ?_)
    exact cInv ⟨e'.length - (j + 1), j + 1, id, by omega, ⟨by omega, rfl⟩, LessR.of rfl (by (repeat' first | exact FrSub.nil | refine FrSub.cons rfl (.ofEq rfl) ?_ | refine FrSub.consP rfl (.ofEq rfl) (by simp) ?_)) (by simp) (by repeat' first | exact LoSub.nil | refine LoSub.cons rfl ?_ rfl (by simp) ?_ | rfl | (refine (AObj.ren_pure _ _ ?_).symm; simp; done) | (simp [AObj.ren, renL, AC.ren]; done) | (simp [AObj.ren, renL, AC.ren]; rfl)) rfl rfl hou⟩
  · have hlt : j = e'.length := by simp at hb2; omega
    subst hlt
    rw [List.take_length]
    obtain ⟨t, ht⟩ := get_of_lt (l := growL e') (i := q) (by rw [growL_len]; omega)
    have hgt : (growL e').getD q default = t := by rw [List.getD_eq_getElem?_getD, ht]; rfl
    repeat' first | (with_reducible refine oj ?_; refine AOps.auto tabOk rfl ?_) | (with_reducible first | refine o1 ?_ | refine o2 ?_ | refine o3 ?_ | refine o4 ?_ | refine o5 ?_ | refine o6 ?_ | refine o7 ?_ | refine o8 ?_ | refine o9 ?_ | refine oa ?_ | refine ob ?_ | refine oc ?_ | refine od ?_ | refine oe ?_ | refine og ?_ | refine oh ?_ | refine oi ?_) | (with_reducible refine cExitMiss ?_ ?_; rfl) | (with_reducible refine ok ?_; first | refine ACode.condT rfl ?_ | refine ACode.condF rfl ?_) | (with_reducible refine oj ?_; first | refine AOps.step1 rfl rfl rfl (AStep.arith rfl rfl rfl (.inl ⟨rfl, rfl⟩) (inRange_i64 (by first | omega | (simp; omega)) (by first | omega | (simp; omega)))) ?_ | refine AOps.step1 rfl rfl rfl (AStep.arith rfl rfl rfl (.inr (.inl ⟨rfl, rfl⟩)) (inRange_i64 (by first | omega | (simp; omega)) (by first | omega | (simp; omega)))) ?_ | refine AOps.step1 rfl rfl rfl (AStep.neBool Tryd.underlying4 rfl rfl rfl) ?_ | refine AOps.step1 rfl rfl rfl (AStep.eqBool Tryd.underlying4 rfl rfl rfl) ?_ | refine AOps.step1 rfl rfl rfl (AStep.max2 (t := 3) (ty := 3) rfl rfl rfl) ?_ | refine AOps.step1 rfl rfl rfl (AStep.min2 (t := 3) (ty := 3) rfl rfl rfl) ?_ | refine AOps.unG rfl rfl rfl ?_)
    refine AOps.step1 rfl rfl rfl (idxI tabOk rfl rfl rfl rfl rfl rfl rfl (by simp; omega)) ?_
    refine AOps.step1 rfl rfl rfl (AStep.loadOwn tabOk rfl rfl rfl rfl rfl rfl (nodesC_get ht)) ?_
    repeat first | (with_reducible refine oj ?_; refine AOps.auto tabOk rfl ?_) | (with_reducible first | refine o1 ?_ | refine o2 ?_ | refine o3 ?_ | refine o4 ?_ | refine o5 ?_ | refine o6 ?_ | refine o7 ?_ | refine o8 ?_ | refine o9 ?_ | refine oa ?_ | refine ob ?_ | refine oc ?_ | refine od ?_ | refine oe ?_ | refine og ?_ | refine oh ?_ | refine oi ?_) | (with_reducible refine cExitMiss ?_ ?_; rfl) | (with_reducible refine ok ?_; first | refine ACode.condT rfl ?_ | refine ACode.condF rfl ?_)
    refine APure.fin rfl (WkF.ofEq ?_) (by simp) hou rfl
    rw [hgt]
end Go.Proofs.YtnonkoeknpmcjaaDoor
namespace Go.CoreX
mutual
def cntN : Tr → Nat
  | .mk _ _ _ k _ => cntNs k + 1
def cntNs : List Tr → Nat
  | [] => 0
  | t :: l => cntN t + cntNs l
end
mutual
theorem cntN_list : ∀ (t : Tr) (out : List Ex), (listT out t).length = out.length + cntN t
  | .mk o n b k a, out => by
    have := cntNs_list k out
    simp only [listT, cntN, List.length_append, List.length_singleton]; omega
theorem cntNs_list : ∀ (l : List Tr) (out : List Ex), (listTs out l).1.length = out.length + cntNs l
  | [], out => by simp [listTs, cntNs]
  | t :: l, out => by
    have h1 := cntN_list t out
    have h2 := cntNs_list l (listT out t)
    simp only [listTs, cntNs]; omega
end
theorem cntNs_app : ∀ (l r : List Tr), cntNs (l ++ r) = cntNs l + cntNs r
  | [], r => by simp [cntNs]
  | t :: l, r => by simp only [List.cons_append, cntNs, cntNs_app l r]; omega
end Go.CoreX
namespace Go.Proofs.YtnonkoeknpmcjaaDoor
open Go Go.Abs Go.CoreX
set_option maxRecDepth 10000
set_option linter.unusedVariables false
set_option linter.unusedSimpArgs false
variable {Γ : List (Nat × List AC)}
theorem Count_ok (hΓ : ∀ g cs, (g, cs) ∈ Γ → idsL isO cs) : ∀ t : Tr, cntN t ≤ 1048576 → APure Tryd.prog Γ 44 [.one (.box (cTr t))] (.one (int (cntN t : Nat)))
  | .mk o n b ks a, hc => by
    simp only [cntN] at hc
    have hs : ∀ x ∈ ks, cntN x ≤ cntNs ks := fun x hx => by
      obtain ⟨l, r, rfl⟩ := List.append_of_mem hx
      rw [cntNs_app]; simp only [cntNs]; omega
    have ih : ∀ x ∈ ks, APure Tryd.prog Γ 44 [.one (.box (cTr x))] (.one (int (cntN x : Nat))) := fun x hx => Count_ok hΓ x (by have := hs x hx; omega)
    intro ou
    refine AFn.walk 21 tabOk Tryd.func44 rfl (by kernel_rfl) rfl rfl fun hou => ?_
    repeat first | (with_reducible refine oj ?_; refine AOps.auto tabOk rfl ?_) | (with_reducible first | refine o1 ?_ | refine o2 ?_ | refine o3 ?_ | refine o4 ?_ | refine o5 ?_ | refine o6 ?_ | refine o7 ?_ | refine o8 ?_ | refine o9 ?_ | refine oa ?_ | refine ob ?_ | refine oc ?_ | refine od ?_ | refine oe ?_ | refine og ?_ | refine oh ?_ | refine oi ?_) | (with_reducible refine cExitMiss ?_ ?_; rfl) | (with_reducible refine ok ?_; first | refine ACode.condT rfl ?_ | refine ACode.condF rfl ?_)
    have hkl : ks.length ≤ cntNs ks := by
      clear ih hs hc
      induction ks with
      | nil => simp
      | cons x ks ih =>
        simp only [cntNs, List.length_cons]
        have : 1 ≤ cntN x := by cases x; simp [cntN]
        omega
    refine ACode.loopR hΓ (α := Nat) (fun i => [(11, .one (int i)), (10, .one (int (encTrs ks).length)), (9, .one (.sl 1 (encTrs ks))), (3, .one (int ((1 + cntNs (ks.take i) : Nat) : Int)))])
      (fun i => ⟨0, [], ou⟩) (fun m i => i ≤ ks.length ∧ m = ks.length - i) (a0 := 0) (ρ := id) ⟨by omega, rfl⟩ (LessR.of rfl (by (repeat' first | exact FrSub.nil | refine FrSub.cons rfl (.ofEq rfl) ?_ | refine FrSub.consP rfl (.ofEq rfl) (by simp) ?_)) (by simp) (by repeat' first | exact LoSub.nil | refine LoSub.cons rfl ?_ rfl (by simp) ?_ | rfl | (refine (AObj.ren_pure _ _ ?_).symm; simp; done) | (simp [AObj.ren, renL, AC.ren]; done) | (simp [AObj.ren, renL, AC.ren]; rfl)) rfl rfl hou) fun m i hi => ?_
    obtain ⟨hil, rfl⟩ := hi
    repeat first | (with_reducible refine oj ?_; refine AOps.auto tabOk rfl ?_) | (with_reducible first | refine o1 ?_ | refine o2 ?_ | refine o3 ?_ | refine o4 ?_ | refine o5 ?_ | refine o6 ?_ | refine o7 ?_ | refine o8 ?_ | refine o9 ?_ | refine oa ?_ | refine ob ?_ | refine oc ?_ | refine od ?_ | refine oe ?_ | refine og ?_ | refine oh ?_ | refine oi ?_) | (with_reducible refine cExitMiss ?_ ?_; rfl) | (with_reducible refine ok ?_; first | refine ACode.condT rfl ?_ | refine ACode.condF rfl ?_)
    refine ACode.cond rfl (fun hb => ?_) (fun hb => ?_)
    · have hlt : i < ks.length := by simpa using hb
      obtain ⟨x, hx⟩ := get_of_lt hlt
      have hx2 := ih x (List.mem_of_getElem? hx)
      have hsn : cntNs (ks.take (i + 1)) = cntNs (ks.take i) + cntN x := by rw [take_get hx, cntNs_app]; simp [cntNs]
      have hle : cntNs (ks.take (i + 1)) ≤ cntNs ks := by
        have := cntNs_app (ks.take (i + 1)) (ks.drop (i + 1))
        rw [List.take_append_drop] at this
        omega
      repeat first | (with_reducible refine oj ?_; refine AOps.auto tabOk rfl ?_) | (with_reducible first | refine o1 ?_ | refine o2 ?_ | refine o3 ?_ | refine o4 ?_ | refine o5 ?_ | refine o6 ?_ | refine o7 ?_ | refine o8 ?_ | refine o9 ?_ | refine oa ?_ | refine ob ?_ | refine oc ?_ | refine od ?_ | refine oe ?_ | refine og ?_ | refine oh ?_ | refine oi ?_) | (with_reducible refine cExitMiss ?_ ?_; rfl) | (with_reducible refine ok ?_; first | refine ACode.condT rfl ?_ | refine ACode.condF rfl ?_)
      refine AOps.step1 rfl rfl rfl (AStep.indexAddr tabOk rfl rfl rfl rfl rfl rfl (.inl rfl) rfl (by omega) (encTrs_get hx)) ?_
      repeat first | (with_reducible refine oj ?_; refine AOps.auto tabOk rfl ?_) | (with_reducible first | refine o1 ?_ | refine o2 ?_ | refine o3 ?_ | refine o4 ?_ | refine o5 ?_ | refine o6 ?_ | refine o7 ?_ | refine o8 ?_ | refine o9 ?_ | refine oa ?_ | refine ob ?_ | refine oc ?_ | refine od ?_ | refine oe ?_ | refine og ?_ | refine oh ?_ | refine oi ?_) | (with_reducible refine cExitMiss ?_ ?_; rfl) | (with_reducible refine ok ?_; first | refine ACode.condT rfl ?_ | refine ACode.condF rfl ?_)
      refine AOps.callC hΓ hx2 rfl rfl rfl rfl rfl rfl rfl hou (by simp) ?_
      repeat' first | (with_reducible refine oj ?_; refine AOps.auto tabOk rfl ?_) | (with_reducible first | refine o1 ?_ | refine o2 ?_ | refine o3 ?_ | refine o4 ?_ | refine o5 ?_ | refine o6 ?_ | refine o7 ?_ | refine o8 ?_ | refine o9 ?_ | refine oa ?_ | refine ob ?_ | refine oc ?_ | refine od ?_ | refine oe ?_ | refine og ?_ | refine oh ?_ | refine oi ?_) | (with_reducible refine cExitMiss ?_ ?_; rfl) | (with_reducible refine ok ?_; first | refine ACode.condT rfl ?_ | refine ACode.condF rfl ?_) | (with_reducible refine oj ?_; first | refine AOps.step1 rfl rfl rfl (AStep.arith rfl rfl rfl (.inl ⟨rfl, rfl⟩) (inRange_i64 (by first | omega | (simp; omega)) (by first | omega | (simp; omega)))) ?_ | refine AOps.step1 rfl rfl rfl (AStep.arith rfl rfl rfl (.inr (.inl ⟨rfl, rfl⟩)) (inRange_i64 (by first | omega | (simp; omega)) (by first | omega | (simp; omega)))) ?_ | refine AOps.step1 rfl rfl rfl (AStep.neBool Tryd.underlying4 rfl rfl rfl) ?_ | refine AOps.step1 rfl rfl rfl (AStep.eqBool Tryd.underlying4 rfl rfl rfl) ?_ | refine AOps.step1 rfl rfl rfl (AStep.max2 (t := 3) (ty := 3) rfl rfl rfl) ?_ | refine AOps.step1 rfl rfl rfl (AStep.min2 (t := 3) (ty := 3) rfl rfl rfl) ?_ | refine AOps.unG rfl rfl rfl ?_)
      refine cInv ⟨ks.length - (i + 1), i + 1, id, by omega, ⟨by omega, rfl⟩, LessR.of rfl (FrSub.cons rfl (.ofEq rfl) (FrSub.cons rfl (.ofEq rfl) (FrSub.consP rfl (.ofEq rfl) (by simp) (FrSub.cons rfl (.ofEq ?_) .nil)))) (by simp) (by repeat' first | exact LoSub.nil | refine LoSub.cons rfl ?_ rfl (by simp) ?_ | rfl | (refine (AObj.ren_pure _ _ ?_).symm; simp; done) | (simp [AObj.ren, renL, AC.ren]; done) | (simp [AObj.ren, renL, AC.ren]; rfl)) rfl rfl hou⟩
      simp only [FV.ren, AC.ren, hsn]
      congr 3
      omega
    · have hlt : i = ks.length := by simp at hb; omega
      subst hlt
      rw [List.take_length]
      repeat first | (with_reducible refine oj ?_; refine AOps.auto tabOk rfl ?_) | (with_reducible first | refine o1 ?_ | refine o2 ?_ | refine o3 ?_ | refine o4 ?_ | refine o5 ?_ | refine o6 ?_ | refine o7 ?_ | refine o8 ?_ | refine o9 ?_ | refine oa ?_ | refine ob ?_ | refine oc ?_ | refine od ?_ | refine oe ?_ | refine og ?_ | refine oh ?_ | refine oi ?_) | (with_reducible refine cExitMiss ?_ ?_; rfl) | (with_reducible refine ok ?_; first | refine ACode.condT rfl ?_ | refine ACode.condF rfl ?_)
      refine APure.fin rfl (WkF.ofEq ?_) (by simp) hou rfl
      simp only [cntN]
      congr 3
      omega
theorem treeAt_ok {e : List Ex} (he : okB e) (h : IsTree e) {k : Nat} (hk : k < e.length) : okT (treeAt e k) :=
  up_ind h (P := okT) (he.t h.k h.ne) (fun _ _ ht hs => okT_kid ht hs) k hk
theorem Free_ok (e : List Ex) (he : okB e) (n : Int) : APure Tryd.prog Γc 15 [.one (.sl 5 (e.map cEx)), .one (int n)] (.tup [.one (.sl 1 ((freeAt e n).1.map cI)), .one (int (freeAt e n).2)]) := by
  intro ou
  refine AFn.walk 17 tabOk Tryd.func15 rfl (by kernel_rfl) rfl rfl fun hou => ?_
  repeat first | (with_reducible refine oj ?_; refine AOps.auto tabOk rfl ?_) | (with_reducible first | refine o1 ?_ | refine o2 ?_ | refine o3 ?_ | refine o4 ?_ | refine o5 ?_ | refine o6 ?_ | refine o7 ?_ | refine o8 ?_ | refine o9 ?_ | refine oa ?_ | refine ob ?_ | refine oc ?_ | refine od ?_ | refine oe ?_ | refine og ?_ | refine oh ?_ | refine oi ?_) | (with_reducible refine cExitMiss ?_ ?_; rfl) | (with_reducible refine ok ?_; first | refine ACode.condT rfl ?_ | refine ACode.condF rfl ?_)
  refine AOps.callC hΓc (at_ok e he n) rfl rfl rfl rfl rfl rfl rfl hou (by simp) ?_
  repeat first | (with_reducible refine oj ?_; refine AOps.auto tabOk rfl ?_) | (with_reducible first | refine o1 ?_ | refine o2 ?_ | refine o3 ?_ | refine o4 ?_ | refine o5 ?_ | refine o6 ?_ | refine o7 ?_ | refine o8 ?_ | refine o9 ?_ | refine oa ?_ | refine ob ?_ | refine oc ?_ | refine od ?_ | refine oe ?_ | refine og ?_ | refine oh ?_ | refine oi ?_) | (with_reducible refine cExitMiss ?_ ?_; rfl) | (with_reducible refine ok ?_; first | refine ACode.condT rfl ?_ | refine ACode.condF rfl ?_)
  refine ACode.cond rfl (fun hb => ?_) (fun hb => ?_)
  · have h : atErr e n ≠ 0 := by simpa using hb
    have ho : freeAt e n = ([], atErr e n) := by unfold freeAt; rw [if_pos h]
    rw [ho]
    repeat first | (with_reducible refine oj ?_; refine AOps.auto tabOk rfl ?_) | (with_reducible first | refine o1 ?_ | refine o2 ?_ | refine o3 ?_ | refine o4 ?_ | refine o5 ?_ | refine o6 ?_ | refine o7 ?_ | refine o8 ?_ | refine o9 ?_ | refine oa ?_ | refine ob ?_ | refine oc ?_ | refine od ?_ | refine oe ?_ | refine og ?_ | refine oh ?_ | refine oi ?_) | (with_reducible refine cExitMiss ?_ ?_; rfl) | (with_reducible refine ok ?_; first | refine ACode.condT rfl ?_ | refine ACode.condF rfl ?_)
    exact APure.fin rfl (WkF.tup (.cons (.one (.nilS 1)) (.cons (.refl _) .nil))) (by simp) hou rfl
  · have h : atErr e n = 0 := by simpa using hb
    have ho : freeAt e n = (freeOf (treeAt e n.toNat), 0) := by unfold freeAt; rw [if_neg (by simpa using h)]
    obtain ⟨h1, h2, h3⟩ := atErr_zero h
    have t1 := body_isTree h1
    have hd := (treeErr_iff e).1 (by
      have := h1
      unfold check body at this
      by_cases h4 : treeErr e = 0
      · exact h4
      · rw [if_pos h4] at this; exact absurd this h4)
    have hdp : depthT (treeAt e n.toNat) ≤ 400 := up_ind t1 (P := fun t => depthT t ≤ 400) hd.2.2 (fun t s ht hs => Int.le_trans (depthT_kid hs) ht) _ h3
    have hl := len_sub t1 h3
    have hel := he.eo.l
    rw [ho]
    obtain ⟨q, rfl⟩ : ∃ q : Nat, n = q := ⟨n.toNat, by omega⟩
    rw [Int.toNat_natCast] at *
    repeat first | (with_reducible refine oj ?_; refine AOps.auto tabOk rfl ?_) | (with_reducible first | refine o1 ?_ | refine o2 ?_ | refine o3 ?_ | refine o4 ?_ | refine o5 ?_ | refine o6 ?_ | refine o7 ?_ | refine o8 ?_ | refine o9 ?_ | refine oa ?_ | refine ob ?_ | refine oc ?_ | refine od ?_ | refine oe ?_ | refine og ?_ | refine oh ?_ | refine oi ?_) | (with_reducible refine cExitMiss ?_ ?_; rfl) | (with_reducible refine ok ?_; first | refine ACode.condT rfl ?_ | refine ACode.condF rfl ?_)
    refine AOps.callC hΓc (below_ok hΓc e he.eo t1.k q h3) rfl rfl rfl rfl rfl rfl rfl hou (by simp) ?_
    refine AOps.callC hΓc (FreeOf_ok hΓc hΓcF sortOk sortNil (treeAt e q) (treeAt_ok he t1 h3) (by omega) (by omega)) rfl rfl rfl rfl rfl rfl rfl hou (by simp) ?_
    repeat first | (with_reducible refine oj ?_; refine AOps.auto tabOk rfl ?_) | (with_reducible first | refine o1 ?_ | refine o2 ?_ | refine o3 ?_ | refine o4 ?_ | refine o5 ?_ | refine o6 ?_ | refine o7 ?_ | refine o8 ?_ | refine o9 ?_ | refine oa ?_ | refine ob ?_ | refine oc ?_ | refine od ?_ | refine oe ?_ | refine og ?_ | refine oh ?_ | refine oi ?_) | (with_reducible refine cExitMiss ?_ ?_; rfl) | (with_reducible refine ok ?_; first | refine ACode.condT rfl ?_ | refine ACode.condF rfl ?_)
    exact APure.fin rfl (WkF.ofEq rfl) (by simp) hou rfl
theorem Cut_ok (e : List Ex) (he : okB e) (n : Int) : APure Tryd.prog Γc 22 [.one (.sl 5 (e.map cEx)), .one (int n)] (.tup [.one (.sl 5 ((cutAt e n).1.map cEx)), .one (int (cutAt e n).2)]) := by
  intro ou
  refine AFn.walk 17 tabOk Tryd.func22 rfl (by kernel_rfl) rfl rfl fun hou => ?_
  repeat first | (with_reducible refine oj ?_; refine AOps.auto tabOk rfl ?_) | (with_reducible first | refine o1 ?_ | refine o2 ?_ | refine o3 ?_ | refine o4 ?_ | refine o5 ?_ | refine o6 ?_ | refine o7 ?_ | refine o8 ?_ | refine o9 ?_ | refine oa ?_ | refine ob ?_ | refine oc ?_ | refine od ?_ | refine oe ?_ | refine og ?_ | refine oh ?_ | refine oi ?_) | (with_reducible refine cExitMiss ?_ ?_; rfl) | (with_reducible refine ok ?_; first | refine ACode.condT rfl ?_ | refine ACode.condF rfl ?_)
  refine AOps.callC hΓc (at_ok e he n) rfl rfl rfl rfl rfl rfl rfl hou (by simp) ?_
  repeat first | (with_reducible refine oj ?_; refine AOps.auto tabOk rfl ?_) | (with_reducible first | refine o1 ?_ | refine o2 ?_ | refine o3 ?_ | refine o4 ?_ | refine o5 ?_ | refine o6 ?_ | refine o7 ?_ | refine o8 ?_ | refine o9 ?_ | refine oa ?_ | refine ob ?_ | refine oc ?_ | refine od ?_ | refine oe ?_ | refine og ?_ | refine oh ?_ | refine oi ?_) | (with_reducible refine cExitMiss ?_ ?_; rfl) | (with_reducible refine ok ?_; first | refine ACode.condT rfl ?_ | refine ACode.condF rfl ?_)
  refine ACode.cond rfl (fun hb => ?_) (fun hb => ?_)
  · have h : atErr e n ≠ 0 := by simpa using hb
    have ho : cutAt e n = ([], atErr e n) := by unfold cutAt; rw [if_pos h]
    rw [ho]
    repeat first | (with_reducible refine oj ?_; refine AOps.auto tabOk rfl ?_) | (with_reducible first | refine o1 ?_ | refine o2 ?_ | refine o3 ?_ | refine o4 ?_ | refine o5 ?_ | refine o6 ?_ | refine o7 ?_ | refine o8 ?_ | refine o9 ?_ | refine oa ?_ | refine ob ?_ | refine oc ?_ | refine od ?_ | refine oe ?_ | refine og ?_ | refine oh ?_ | refine oi ?_) | (with_reducible refine cExitMiss ?_ ?_; rfl) | (with_reducible refine ok ?_; first | refine ACode.condT rfl ?_ | refine ACode.condF rfl ?_)
    exact APure.fin rfl (WkF.tup (.cons (.one (.nilS 5)) (.cons (.refl _) .nil))) (by simp) hou rfl
  · have h : atErr e n = 0 := by simpa using hb
    have ho : cutAt e n = (listT [] (treeAt e n.toNat), 0) := by unfold cutAt; rw [if_neg (by simpa using h)]
    obtain ⟨h1, h2, h3⟩ := atErr_zero h
    have t1 := body_isTree h1
    have hl := len_sub t1 h3
    have hel := he.eo.l
    rw [ho]
    obtain ⟨q, rfl⟩ : ∃ q : Nat, n = q := ⟨n.toNat, by omega⟩
    rw [Int.toNat_natCast] at *
    repeat first | (with_reducible refine oj ?_; refine AOps.auto tabOk rfl ?_) | (with_reducible first | refine o1 ?_ | refine o2 ?_ | refine o3 ?_ | refine o4 ?_ | refine o5 ?_ | refine o6 ?_ | refine o7 ?_ | refine o8 ?_ | refine o9 ?_ | refine oa ?_ | refine ob ?_ | refine oc ?_ | refine od ?_ | refine oe ?_ | refine og ?_ | refine oh ?_ | refine oi ?_) | (with_reducible refine cExitMiss ?_ ?_; rfl) | (with_reducible refine ok ?_; first | refine ACode.condT rfl ?_ | refine ACode.condF rfl ?_)
    refine AOps.callC hΓc (below_ok hΓc e he.eo t1.k q h3) rfl rfl rfl rfl rfl rfl rfl hou (by simp) ?_
    refine AOps.callC hΓc (List_ok hΓc (treeAt e q) (treeAt_ok he t1 h3) (by omega)) rfl rfl rfl rfl rfl rfl rfl hou (by simp) ?_
    repeat first | (with_reducible refine oj ?_; refine AOps.auto tabOk rfl ?_) | (with_reducible first | refine o1 ?_ | refine o2 ?_ | refine o3 ?_ | refine o4 ?_ | refine o5 ?_ | refine o6 ?_ | refine o7 ?_ | refine o8 ?_ | refine o9 ?_ | refine oa ?_ | refine ob ?_ | refine oc ?_ | refine od ?_ | refine oe ?_ | refine og ?_ | refine oh ?_ | refine oi ?_) | (with_reducible refine cExitMiss ?_ ?_; rfl) | (with_reducible refine ok ?_; first | refine ACode.condT rfl ?_ | refine ACode.condF rfl ?_)
    exact APure.fin rfl (WkF.ofEq rfl) (by simp) hou rfl
theorem Size_ok (e : List Ex) (he : okB e) (n : Int) : APure Tryd.prog Γc 23 [.one (.sl 5 (e.map cEx)), .one (int n)] (.tup [.one (int (sizeAt e n).1), .one (int (sizeAt e n).2)]) := by
  intro ou
  refine AFn.walk 17 tabOk Tryd.func23 rfl (by kernel_rfl) rfl rfl fun hou => ?_
  repeat first | (with_reducible refine oj ?_; refine AOps.auto tabOk rfl ?_) | (with_reducible first | refine o1 ?_ | refine o2 ?_ | refine o3 ?_ | refine o4 ?_ | refine o5 ?_ | refine o6 ?_ | refine o7 ?_ | refine o8 ?_ | refine o9 ?_ | refine oa ?_ | refine ob ?_ | refine oc ?_ | refine od ?_ | refine oe ?_ | refine og ?_ | refine oh ?_ | refine oi ?_) | (with_reducible refine cExitMiss ?_ ?_; rfl) | (with_reducible refine ok ?_; first | refine ACode.condT rfl ?_ | refine ACode.condF rfl ?_)
  refine AOps.callC hΓc (at_ok e he n) rfl rfl rfl rfl rfl rfl rfl hou (by simp) ?_
  repeat first | (with_reducible refine oj ?_; refine AOps.auto tabOk rfl ?_) | (with_reducible first | refine o1 ?_ | refine o2 ?_ | refine o3 ?_ | refine o4 ?_ | refine o5 ?_ | refine o6 ?_ | refine o7 ?_ | refine o8 ?_ | refine o9 ?_ | refine oa ?_ | refine ob ?_ | refine oc ?_ | refine od ?_ | refine oe ?_ | refine og ?_ | refine oh ?_ | refine oi ?_) | (with_reducible refine cExitMiss ?_ ?_; rfl) | (with_reducible refine ok ?_; first | refine ACode.condT rfl ?_ | refine ACode.condF rfl ?_)
  refine ACode.cond rfl (fun hb => ?_) (fun hb => ?_)
  · have h : atErr e n ≠ 0 := by simpa using hb
    have ho : sizeAt e n = (0, atErr e n) := by unfold sizeAt; rw [if_pos h]
    rw [ho]
    repeat first | (with_reducible refine oj ?_; refine AOps.auto tabOk rfl ?_) | (with_reducible first | refine o1 ?_ | refine o2 ?_ | refine o3 ?_ | refine o4 ?_ | refine o5 ?_ | refine o6 ?_ | refine o7 ?_ | refine o8 ?_ | refine o9 ?_ | refine oa ?_ | refine ob ?_ | refine oc ?_ | refine od ?_ | refine oe ?_ | refine og ?_ | refine oh ?_ | refine oi ?_) | (with_reducible refine cExitMiss ?_ ?_; rfl) | (with_reducible refine ok ?_; first | refine ACode.condT rfl ?_ | refine ACode.condF rfl ?_)
    exact APure.fin rfl (WkF.ofEq rfl) (by simp) hou rfl
  · have h : atErr e n = 0 := by simpa using hb
    have ho : sizeAt e n = (((listT [] (treeAt e n.toNat)).length : Int), 0) := by unfold sizeAt; rw [if_neg (by simpa using h)]
    obtain ⟨h1, h2, h3⟩ := atErr_zero h
    have t1 := body_isTree h1
    have hl := len_sub t1 h3
    have hel := he.eo.l
    rw [ho]
    obtain ⟨q, rfl⟩ : ∃ q : Nat, n = q := ⟨n.toNat, by omega⟩
    rw [Int.toNat_natCast] at *
    have hcl : (listT [] (treeAt e q)).length = cntN (treeAt e q) := by rw [cntN_list]; simp
    rw [hcl] at hl ⊢
    repeat first | (with_reducible refine oj ?_; refine AOps.auto tabOk rfl ?_) | (with_reducible first | refine o1 ?_ | refine o2 ?_ | refine o3 ?_ | refine o4 ?_ | refine o5 ?_ | refine o6 ?_ | refine o7 ?_ | refine o8 ?_ | refine o9 ?_ | refine oa ?_ | refine ob ?_ | refine oc ?_ | refine od ?_ | refine oe ?_ | refine og ?_ | refine oh ?_ | refine oi ?_) | (with_reducible refine cExitMiss ?_ ?_; rfl) | (with_reducible refine ok ?_; first | refine ACode.condT rfl ?_ | refine ACode.condF rfl ?_)
    refine AOps.callC hΓc (below_ok hΓc e he.eo t1.k q h3) rfl rfl rfl rfl rfl rfl rfl hou (by simp) ?_
    refine AOps.callC hΓc (Count_ok hΓc (treeAt e q) (by omega)) rfl rfl rfl rfl rfl rfl rfl hou (by simp) ?_
    repeat first | (with_reducible refine oj ?_; refine AOps.auto tabOk rfl ?_) | (with_reducible first | refine o1 ?_ | refine o2 ?_ | refine o3 ?_ | refine o4 ?_ | refine o5 ?_ | refine o6 ?_ | refine o7 ?_ | refine o8 ?_ | refine o9 ?_ | refine oa ?_ | refine ob ?_ | refine oc ?_ | refine od ?_ | refine oe ?_ | refine og ?_ | refine oh ?_ | refine oi ?_) | (with_reducible refine cExitMiss ?_ ?_; rfl) | (with_reducible refine ok ?_; first | refine ACode.condT rfl ?_ | refine ACode.condF rfl ?_)
    exact APure.fin rfl (WkF.ofEq rfl) (by simp) hou rfl
theorem CoreCut_ok (e : List Ex) (he : okB e) (n : Int) : APure Tryd.prog Γc 6 [.one (.sl 5 (e.map cEx)), .one (int n)] (.one (.lit (.bool true))) := by
  intro ou
  refine AFn.walk 68 tabOk Tryd.func6 rfl (by kernel_rfl) rfl rfl fun hou => ?_
  have c1 := Cut_ok e he n
  have c2 := Size_ok e he n
  have c3 := Free_ok e he n
  repeat first | (with_reducible refine oj ?_; refine AOps.auto tabOk rfl ?_) | (with_reducible first | refine o1 ?_ | refine o2 ?_ | refine o3 ?_ | refine o4 ?_ | refine o5 ?_ | refine o6 ?_ | refine o7 ?_ | refine o8 ?_ | refine o9 ?_ | refine oa ?_ | refine ob ?_ | refine oc ?_ | refine od ?_ | refine oe ?_ | refine og ?_ | refine oh ?_ | refine oi ?_) | (with_reducible refine cExitMiss ?_ ?_; rfl) | (with_reducible refine ok ?_; first | refine ACode.condT rfl ?_ | refine ACode.condF rfl ?_)
  refine AOps.callC hΓc coreFact_ok rfl rfl rfl rfl rfl rfl rfl hou (by simp) ?_
  repeat first | (with_reducible refine oj ?_; refine AOps.auto tabOk rfl ?_) | (with_reducible first | refine o1 ?_ | refine o2 ?_ | refine o3 ?_ | refine o4 ?_ | refine o5 ?_ | refine o6 ?_ | refine o7 ?_ | refine o8 ?_ | refine o9 ?_ | refine oa ?_ | refine ob ?_ | refine oc ?_ | refine od ?_ | refine oe ?_ | refine og ?_ | refine oh ?_ | refine oi ?_) | (with_reducible refine cExitMiss ?_ ?_; rfl) | (with_reducible refine ok ?_; first | refine ACode.condT rfl ?_ | refine ACode.condF rfl ?_)
  by_cases h : atErr e n = 0
  · obtain ⟨h1, h2, h3⟩ := atErr_zero h
    have t1 := body_isTree h1
    have hk := check_at h1 h3
    have hbf : okB (listT [] (treeAt e n.toNat)) := by
      have hdat : ∀ y ∈ listT [] (treeAt e n.toNat), ∃ x ∈ e, x.binds = y.binds ∧ x.alts = y.alts ∧ x.kids.length = y.kids.length := fun y hy => by
        obtain ⟨x, hx, hxy⟩ := List.mem_map.1 (labs_sub t1 h3 _ (List.mem_map_of_mem (f := labE (listT [] (treeAt e n.toNat))) hy))
        simp only [labE, Lab.mk.injEq] at hxy
        have := congrArg List.length hxy.2.2.2.1
        simp only [List.length_map] at this
        exact ⟨x, hx, hxy.2.2.1, hxy.2.2.2.2, this⟩
      have hl := len_sub t1 h3
      refine ⟨⟨by have := he.eo.l; omega, fun y hy => ?_⟩, fun y hy => ?_⟩
      · obtain ⟨x, hx, q1, q2, q3⟩ := hdat y hy
        have hx' := he.eo.x x hx
        exact ⟨by rw [← q1]; exact hx'.b, by rw [← q3]; exact hx'.k, by rw [← q2]; exact hx'.a, by rw [← q2]; exact hx'.ab⟩
      · obtain ⟨x, hx, q1, q2, q3⟩ := hdat y hy
        have := he.b x hx
        rw [q1, q2] at this
        exact this
    have c4 := Check_ok _ hbf
    rw [hk] at c4
    have w1 : cutAt e n = (listT [] (treeAt e n.toNat), 0) := by unfold cutAt; rw [if_neg (by simpa using h)]
    have w2 : sizeAt e n = (((listT [] (treeAt e n.toNat)).length : Int), 0) := by unfold sizeAt; rw [if_neg (by simpa using h)]
    have w3 : freeAt e n = (freeOf (treeAt e n.toNat), 0) := by unfold freeAt; rw [if_neg (by simpa using h)]
    rw [w1] at c1
    rw [w2] at c2
    rw [w3] at c3
    generalize listT [] (treeAt e n.toNat) = f at c1 c2 c4
    generalize freeOf (treeAt e n.toNat) = fs at c3 c4
    simp only at c1 c2 c3
    refine AOps.callC hΓc c1 rfl rfl rfl rfl rfl rfl rfl hou (by simp) ?_
    repeat first | (with_reducible refine oj ?_; refine AOps.auto tabOk rfl ?_) | (with_reducible first | refine o1 ?_ | refine o2 ?_ | refine o3 ?_ | refine o4 ?_ | refine o5 ?_ | refine o6 ?_ | refine o7 ?_ | refine o8 ?_ | refine o9 ?_ | refine oa ?_ | refine ob ?_ | refine oc ?_ | refine od ?_ | refine oe ?_ | refine og ?_ | refine oh ?_ | refine oi ?_) | (with_reducible refine cExitMiss ?_ ?_; rfl) | (with_reducible refine ok ?_; first | refine ACode.condT rfl ?_ | refine ACode.condF rfl ?_)
    refine AOps.callC hΓc c2 rfl rfl rfl rfl rfl rfl rfl hou (by simp) ?_
    repeat first | (with_reducible refine oj ?_; refine AOps.auto tabOk rfl ?_) | (with_reducible first | refine o1 ?_ | refine o2 ?_ | refine o3 ?_ | refine o4 ?_ | refine o5 ?_ | refine o6 ?_ | refine o7 ?_ | refine o8 ?_ | refine o9 ?_ | refine oa ?_ | refine ob ?_ | refine oc ?_ | refine od ?_ | refine oe ?_ | refine og ?_ | refine oh ?_ | refine oi ?_) | (with_reducible refine cExitMiss ?_ ?_; rfl) | (with_reducible refine ok ?_; first | refine ACode.condT rfl ?_ | refine ACode.condF rfl ?_)
    refine AOps.callC hΓc c3 rfl rfl rfl rfl rfl rfl rfl hou (by simp) ?_
    repeat first | (with_reducible refine oj ?_; refine AOps.auto tabOk rfl ?_) | (with_reducible first | refine o1 ?_ | refine o2 ?_ | refine o3 ?_ | refine o4 ?_ | refine o5 ?_ | refine o6 ?_ | refine o7 ?_ | refine o8 ?_ | refine o9 ?_ | refine oa ?_ | refine ob ?_ | refine oc ?_ | refine od ?_ | refine oe ?_ | refine og ?_ | refine oh ?_ | refine oi ?_) | (with_reducible refine cExitMiss ?_ ?_; rfl) | (with_reducible refine ok ?_; first | refine ACode.condT rfl ?_ | refine ACode.condF rfl ?_)
    refine ACode.cond rfl (fun hb => ?_) (fun hb => ?_)
    · have hfs : 0 < fs.length := by simpa using hb
      rw [if_pos hfs] at c4
      repeat' first | (with_reducible refine oj ?_; refine AOps.auto tabOk rfl ?_) | (with_reducible first | refine o1 ?_ | refine o2 ?_ | refine o3 ?_ | refine o4 ?_ | refine o5 ?_ | refine o6 ?_ | refine o7 ?_ | refine o8 ?_ | refine o9 ?_ | refine oa ?_ | refine ob ?_ | refine oc ?_ | refine od ?_ | refine oe ?_ | refine og ?_ | refine oh ?_ | refine oi ?_) | (with_reducible refine cExitMiss ?_ ?_; rfl) | (with_reducible refine ok ?_; first | refine ACode.condT rfl ?_ | refine ACode.condF rfl ?_) | (with_reducible refine oj ?_; first | refine AOps.step1 rfl rfl rfl (AStep.arith rfl rfl rfl (.inl ⟨rfl, rfl⟩) (inRange_i64 (by first | omega | (simp; omega)) (by first | omega | (simp; omega)))) ?_ | refine AOps.step1 rfl rfl rfl (AStep.arith rfl rfl rfl (.inr (.inl ⟨rfl, rfl⟩)) (inRange_i64 (by first | omega | (simp; omega)) (by first | omega | (simp; omega)))) ?_ | refine AOps.step1 rfl rfl rfl (AStep.neBool Tryd.underlying4 rfl rfl rfl) ?_ | refine AOps.step1 rfl rfl rfl (AStep.eqBool Tryd.underlying4 rfl rfl rfl) ?_ | refine AOps.step1 rfl rfl rfl (AStep.max2 (t := 3) (ty := 3) rfl rfl rfl) ?_ | refine AOps.step1 rfl rfl rfl (AStep.min2 (t := 3) (ty := 3) rfl rfl rfl) ?_ | refine AOps.unG rfl rfl rfl ?_) | (with_reducible refine oj ?_; refine AOps.splitS rfl rfl rfl rfl (fun hb => ?_) (fun hb => ?_)) | (with_reducible refine ok ?_; first | refine ACode.condS rfl (fun hb => ?_) (fun hb => ?_) | refine ACode.cond rfl (fun hb => ?_) (fun hb => ?_))
      all_goals try (refine AOps.callC hΓc c4 rfl rfl rfl rfl rfl rfl rfl hou (by simp) ?_; repeat' first | (with_reducible refine oj ?_; refine AOps.auto tabOk rfl ?_) | (with_reducible first | refine o1 ?_ | refine o2 ?_ | refine o3 ?_ | refine o4 ?_ | refine o5 ?_ | refine o6 ?_ | refine o7 ?_ | refine o8 ?_ | refine o9 ?_ | refine oa ?_ | refine ob ?_ | refine oc ?_ | refine od ?_ | refine oe ?_ | refine og ?_ | refine oh ?_ | refine oi ?_) | (with_reducible refine cExitMiss ?_ ?_; rfl) | (with_reducible refine ok ?_; first | refine ACode.condT rfl ?_ | refine ACode.condF rfl ?_) | (with_reducible refine oj ?_; first | refine AOps.step1 rfl rfl rfl (AStep.arith rfl rfl rfl (.inl ⟨rfl, rfl⟩) (inRange_i64 (by first | omega | (simp; omega)) (by first | omega | (simp; omega)))) ?_ | refine AOps.step1 rfl rfl rfl (AStep.arith rfl rfl rfl (.inr (.inl ⟨rfl, rfl⟩)) (inRange_i64 (by first | omega | (simp; omega)) (by first | omega | (simp; omega)))) ?_ | refine AOps.step1 rfl rfl rfl (AStep.neBool Tryd.underlying4 rfl rfl rfl) ?_ | refine AOps.step1 rfl rfl rfl (AStep.eqBool Tryd.underlying4 rfl rfl rfl) ?_ | refine AOps.step1 rfl rfl rfl (AStep.max2 (t := 3) (ty := 3) rfl rfl rfl) ?_ | refine AOps.step1 rfl rfl rfl (AStep.min2 (t := 3) (ty := 3) rfl rfl rfl) ?_ | refine AOps.unG rfl rfl rfl ?_) | (with_reducible refine oj ?_; refine AOps.splitS rfl rfl rfl rfl (fun hb => ?_) (fun hb => ?_)) | (with_reducible refine ok ?_; first | refine ACode.condS rfl (fun hb => ?_) (fun hb => ?_) | refine ACode.cond rfl (fun hb => ?_) (fun hb => ?_)))
      all_goals try (exfalso; simp_all; done)
      all_goals
        refine APure.fin rfl (WkF.ofEq ?_) (by simp) hou rfl
        simp_all
    · have hfs : ¬ 0 < fs.length := by simpa using hb
      rw [if_neg hfs] at c4
      repeat' first | (with_reducible refine oj ?_; refine AOps.auto tabOk rfl ?_) | (with_reducible first | refine o1 ?_ | refine o2 ?_ | refine o3 ?_ | refine o4 ?_ | refine o5 ?_ | refine o6 ?_ | refine o7 ?_ | refine o8 ?_ | refine o9 ?_ | refine oa ?_ | refine ob ?_ | refine oc ?_ | refine od ?_ | refine oe ?_ | refine og ?_ | refine oh ?_ | refine oi ?_) | (with_reducible refine cExitMiss ?_ ?_; rfl) | (with_reducible refine ok ?_; first | refine ACode.condT rfl ?_ | refine ACode.condF rfl ?_) | (with_reducible refine oj ?_; first | refine AOps.step1 rfl rfl rfl (AStep.arith rfl rfl rfl (.inl ⟨rfl, rfl⟩) (inRange_i64 (by first | omega | (simp; omega)) (by first | omega | (simp; omega)))) ?_ | refine AOps.step1 rfl rfl rfl (AStep.arith rfl rfl rfl (.inr (.inl ⟨rfl, rfl⟩)) (inRange_i64 (by first | omega | (simp; omega)) (by first | omega | (simp; omega)))) ?_ | refine AOps.step1 rfl rfl rfl (AStep.neBool Tryd.underlying4 rfl rfl rfl) ?_ | refine AOps.step1 rfl rfl rfl (AStep.eqBool Tryd.underlying4 rfl rfl rfl) ?_ | refine AOps.step1 rfl rfl rfl (AStep.max2 (t := 3) (ty := 3) rfl rfl rfl) ?_ | refine AOps.step1 rfl rfl rfl (AStep.min2 (t := 3) (ty := 3) rfl rfl rfl) ?_ | refine AOps.unG rfl rfl rfl ?_) | (with_reducible refine oj ?_; refine AOps.splitS rfl rfl rfl rfl (fun hb => ?_) (fun hb => ?_)) | (with_reducible refine ok ?_; first | refine ACode.condS rfl (fun hb => ?_) (fun hb => ?_) | refine ACode.cond rfl (fun hb => ?_) (fun hb => ?_))
      all_goals try (refine AOps.callC hΓc c4 rfl rfl rfl rfl rfl rfl rfl hou (by simp) ?_; repeat' first | (with_reducible refine oj ?_; refine AOps.auto tabOk rfl ?_) | (with_reducible first | refine o1 ?_ | refine o2 ?_ | refine o3 ?_ | refine o4 ?_ | refine o5 ?_ | refine o6 ?_ | refine o7 ?_ | refine o8 ?_ | refine o9 ?_ | refine oa ?_ | refine ob ?_ | refine oc ?_ | refine od ?_ | refine oe ?_ | refine og ?_ | refine oh ?_ | refine oi ?_) | (with_reducible refine cExitMiss ?_ ?_; rfl) | (with_reducible refine ok ?_; first | refine ACode.condT rfl ?_ | refine ACode.condF rfl ?_) | (with_reducible refine oj ?_; first | refine AOps.step1 rfl rfl rfl (AStep.arith rfl rfl rfl (.inl ⟨rfl, rfl⟩) (inRange_i64 (by first | omega | (simp; omega)) (by first | omega | (simp; omega)))) ?_ | refine AOps.step1 rfl rfl rfl (AStep.arith rfl rfl rfl (.inr (.inl ⟨rfl, rfl⟩)) (inRange_i64 (by first | omega | (simp; omega)) (by first | omega | (simp; omega)))) ?_ | refine AOps.step1 rfl rfl rfl (AStep.neBool Tryd.underlying4 rfl rfl rfl) ?_ | refine AOps.step1 rfl rfl rfl (AStep.eqBool Tryd.underlying4 rfl rfl rfl) ?_ | refine AOps.step1 rfl rfl rfl (AStep.max2 (t := 3) (ty := 3) rfl rfl rfl) ?_ | refine AOps.step1 rfl rfl rfl (AStep.min2 (t := 3) (ty := 3) rfl rfl rfl) ?_ | refine AOps.unG rfl rfl rfl ?_) | (with_reducible refine oj ?_; refine AOps.splitS rfl rfl rfl rfl (fun hb => ?_) (fun hb => ?_)) | (with_reducible refine ok ?_; first | refine ACode.condS rfl (fun hb => ?_) (fun hb => ?_) | refine ACode.cond rfl (fun hb => ?_) (fun hb => ?_)))
      all_goals try (exfalso; simp_all; done)
      all_goals
        refine APure.fin rfl (WkF.ofEq ?_) (by simp) hou rfl
        simp_all
  · have w1 : cutAt e n = ([], atErr e n) := by unfold cutAt; rw [if_pos h]
    have w2 : sizeAt e n = (0, atErr e n) := by unfold sizeAt; rw [if_pos h]
    have w3 : freeAt e n = ([], atErr e n) := by unfold freeAt; rw [if_pos h]
    rw [w1] at c1
    rw [w2] at c2
    rw [w3] at c3
    generalize atErr e n = g at c1 c2 c3 h
    simp only at c1 c2 c3
    refine AOps.callC hΓc c1 rfl rfl rfl rfl rfl rfl rfl hou (by simp) ?_
    repeat first | (with_reducible refine oj ?_; refine AOps.auto tabOk rfl ?_) | (with_reducible first | refine o1 ?_ | refine o2 ?_ | refine o3 ?_ | refine o4 ?_ | refine o5 ?_ | refine o6 ?_ | refine o7 ?_ | refine o8 ?_ | refine o9 ?_ | refine oa ?_ | refine ob ?_ | refine oc ?_ | refine od ?_ | refine oe ?_ | refine og ?_ | refine oh ?_ | refine oi ?_) | (with_reducible refine cExitMiss ?_ ?_; rfl) | (with_reducible refine ok ?_; first | refine ACode.condT rfl ?_ | refine ACode.condF rfl ?_)
    refine AOps.callC hΓc c2 rfl rfl rfl rfl rfl rfl rfl hou (by simp) ?_
    repeat first | (with_reducible refine oj ?_; refine AOps.auto tabOk rfl ?_) | (with_reducible first | refine o1 ?_ | refine o2 ?_ | refine o3 ?_ | refine o4 ?_ | refine o5 ?_ | refine o6 ?_ | refine o7 ?_ | refine o8 ?_ | refine o9 ?_ | refine oa ?_ | refine ob ?_ | refine oc ?_ | refine od ?_ | refine oe ?_ | refine og ?_ | refine oh ?_ | refine oi ?_) | (with_reducible refine cExitMiss ?_ ?_; rfl) | (with_reducible refine ok ?_; first | refine ACode.condT rfl ?_ | refine ACode.condF rfl ?_)
    refine AOps.callC hΓc c3 rfl rfl rfl rfl rfl rfl rfl hou (by simp) ?_
    repeat first | (with_reducible refine oj ?_; refine AOps.auto tabOk rfl ?_) | (with_reducible first | refine o1 ?_ | refine o2 ?_ | refine o3 ?_ | refine o4 ?_ | refine o5 ?_ | refine o6 ?_ | refine o7 ?_ | refine o8 ?_ | refine o9 ?_ | refine oa ?_ | refine ob ?_ | refine oc ?_ | refine od ?_ | refine oe ?_ | refine og ?_ | refine oh ?_ | refine oi ?_) | (with_reducible refine cExitMiss ?_ ?_; rfl) | (with_reducible refine ok ?_; first | refine ACode.condT rfl ?_ | refine ACode.condF rfl ?_)
    refine ACode.cond rfl (fun hb => ?_) (fun hb => absurd (by simpa using hb) h)
    repeat' first | (with_reducible refine oj ?_; refine AOps.auto tabOk rfl ?_) | (with_reducible first | refine o1 ?_ | refine o2 ?_ | refine o3 ?_ | refine o4 ?_ | refine o5 ?_ | refine o6 ?_ | refine o7 ?_ | refine o8 ?_ | refine o9 ?_ | refine oa ?_ | refine ob ?_ | refine oc ?_ | refine od ?_ | refine oe ?_ | refine og ?_ | refine oh ?_ | refine oi ?_) | (with_reducible refine cExitMiss ?_ ?_; rfl) | (with_reducible refine ok ?_; first | refine ACode.condT rfl ?_ | refine ACode.condF rfl ?_) | (with_reducible refine oj ?_; first | refine AOps.step1 rfl rfl rfl (AStep.arith rfl rfl rfl (.inl ⟨rfl, rfl⟩) (inRange_i64 (by first | omega | (simp; omega)) (by first | omega | (simp; omega)))) ?_ | refine AOps.step1 rfl rfl rfl (AStep.arith rfl rfl rfl (.inr (.inl ⟨rfl, rfl⟩)) (inRange_i64 (by first | omega | (simp; omega)) (by first | omega | (simp; omega)))) ?_ | refine AOps.step1 rfl rfl rfl (AStep.neBool Tryd.underlying4 rfl rfl rfl) ?_ | refine AOps.step1 rfl rfl rfl (AStep.eqBool Tryd.underlying4 rfl rfl rfl) ?_ | refine AOps.step1 rfl rfl rfl (AStep.max2 (t := 3) (ty := 3) rfl rfl rfl) ?_ | refine AOps.step1 rfl rfl rfl (AStep.min2 (t := 3) (ty := 3) rfl rfl rfl) ?_ | refine AOps.unG rfl rfl rfl ?_) | (with_reducible refine oj ?_; refine AOps.splitS rfl rfl rfl rfl (fun hb => ?_) (fun hb => ?_)) | (with_reducible refine ok ?_; first | refine ACode.condS rfl (fun hb => ?_) (fun hb => ?_) | refine ACode.cond rfl (fun hb => ?_) (fun hb => ?_))
    all_goals
      refine APure.fin rfl (WkF.ofEq ?_) (by simp) hou rfl
      simp_all
end Go.Proofs.YtnonkoeknpmcjaaDoor
/- What is free at a node, from its kids; In and Scope, walked. -/
namespace Go.CoreX
set_option linter.unusedVariables false
mutual
theorem mem_occB : ∀ (t : Tr) (β : Int → Int), (∀ k, 0 ≤ β k) → ∀ k, k ∈ occB β t ↔ β k = 0 ∧ k ∈ occB (fun _ => 0) t
  | .mk o n b ks a, β, h, k => by
    simp only [occB, List.mem_append]
    rw [mem_occBs ks β o b a 0 h k]
    constructor
    · rintro (h1 | h1)
      · split at h1
        · rename_i h2
          simp at h1
          subst h1
          exact ⟨h2.2, .inl (by simp [h2.1])⟩
        · cases h1
      · exact ⟨h1.1, .inr h1.2⟩
    · rintro ⟨h0, h1 | h1⟩
      · split at h1
        · rename_i h2
          simp at h1
          subst h1
          exact .inl (by rw [if_pos ⟨h2.1, h0⟩]; simp)
        · cases h1
      · exact .inr ⟨h0, h1⟩
theorem mem_occBs : ∀ (l : List Tr) (β : Int → Int) (o : Int) (b : List Int) (a : List Alt) (i : Nat), (∀ k, 0 ≤ β k) → ∀ k, k ∈ occBs β o b a i l ↔ β k = 0 ∧ k ∈ occBs (fun _ => 0) o b a i l
  | [], β, o, b, a, i, h, k => by simp [occBs]
  | t :: l, β, o, b, a, i, h, k => by
    simp only [occBs, List.mem_append]
    have hp : ∀ j, 0 ≤ addB β (boundN o b a i) j := fun j => by unfold addB; have := h j; omega
    have hp0 : ∀ j, 0 ≤ addB (fun _ => 0) (boundN o b a i) j := fun j => by show (0 : Int) ≤ 0 + _; omega
    rw [mem_occBs l β o b a (i + 1) h k, mem_occB t _ hp k, mem_occB t _ hp0 k]
    have h0 := h k
    have e1 : addB β (boundN o b a i) k = β k + (((boundN o b a i).count k : Nat) : Int) := rfl
    have e2 : addB (fun _ => 0) (boundN o b a i) k = 0 + (((boundN o b a i).count k : Nat) : Int) := rfl
    rw [e1, e2]
    constructor
    · rintro (h1 | h1)
      · exact ⟨by omega, .inl ⟨by omega, h1.2⟩⟩
      · exact ⟨h1.1, .inr h1.2⟩
    · rintro ⟨h1, h2 | h2⟩
      · exact .inl ⟨by omega, h2.2⟩
      · exact .inr ⟨h1, h2⟩
end
theorem mem_free (t : Tr) (k : Int) : k ∈ freeOf t ↔ k ∈ occB (fun _ => 0) t := by
  rw [freeOf_occB, sortS_mem]
theorem occBs_ex : ∀ (l : List Tr) (o : Int) (b : List Int) (a : List Alt) (i : Nat) (k : Int), k ∈ occBs (fun _ => 0) o b a i l ↔ ∃ (j : Nat) (s : Tr), l[j]? = some s ∧ k ∉ boundN o b a ((i + j : Nat) : Int) ∧ k ∈ freeOf s
  | [], o, b, a, i, k => by simp [occBs]
  | t :: l, o, b, a, i, k => by
    simp only [occBs, List.mem_append]
    rw [occBs_ex l o b a (i + 1) k, mem_occB t _ (fun j => by show (0 : Int) ≤ 0 + _; omega) k, ← mem_free]
    unfold addB
    have hc : (0 + (((boundN o b a i).count k : Nat) : Int) = 0) ↔ k ∉ boundN o b a i := by
      rw [← List.count_eq_zero]; omega
    constructor
    · rintro (⟨h1, h2⟩ | ⟨j, s, h1, h2, h3⟩)
      · exact ⟨0, t, rfl, by simpa using hc.1 h1, h2⟩
      · exact ⟨j + 1, s, by simpa using h1, by rw [show i + (j + 1) = i + 1 + j by omega]; exact h2, h3⟩
    · rintro ⟨j, s, h1, h2, h3⟩
      cases j with
      | zero => simp at h1; subst h1; exact .inl ⟨hc.2 (by simpa using h2), h3⟩
      | succ j => exact .inr ⟨j, s, by simpa using h1, by rw [show i + 1 + j = i + (j + 1) by omega]; exact h2, h3⟩
theorem free_up (o n : Int) (b : List Int) (ks : List Tr) (a : List Alt) (k : Int) : k ∈ freeOf (.mk o n b ks a) ↔ (o = 0 ∧ k = n) ∨ ∃ (j : Nat) (s : Tr), ks[j]? = some s ∧ k ∉ boundN o b a (j : Int) ∧ k ∈ freeOf s := by
  rw [mem_free]
  simp only [occB, List.mem_append]
  rw [occBs_ex]
  simp only [Nat.zero_add, and_true]
  constructor
  · rintro (h | h)
    · split at h
      · rename_i h1; simp at h; exact .inl ⟨h1, h⟩
      · cases h
    · exact .inr h
  · rintro (h | h)
    · left; rw [if_pos h.1]; simp [h.2]
    · exact .inr h
/-- Scope, as it is written; at nodes of the right shape it is what is bound. -/
def scopeE (x : Ex) (k : Int) : List Int := if x.op = 2 ∨ x.op = 5 ∨ (x.op = 4 ∧ k = 1) then x.binds else if (x.op = 7 ∨ x.op = 13) ∧ 0 < k then (x.alts.getD (k - 1).toNat ⟨0, []⟩).binds else []
theorem shape_of {e : List Ex} (h : check e = 0) : ∀ x ∈ e, shape x = true := by
  intro x hx
  unfold check body at h
  by_cases h1 : treeErr e = 0
  · rw [if_neg (by simpa using h1)] at h
    by_cases h2 : firstErr (nodeErrF false e) e = 0
    · have h3 := (firstErr_zero _ e).1 h2 x hx
      unfold nodeErrF at h3
      simp only [Bool.false_and, Bool.not_false, Bool.true_and, Bool.false_or] at h3
      by_cases h4 : flatOnly x.op = true
      · rw [if_pos h4] at h3; cases h3
      · rw [if_neg h4] at h3
        unfold nodeErr at h3
        by_cases h5 : shape x = false
        · rw [if_pos h5] at h3; cases h3
        · simpa using h5
    · rw [if_pos h2] at h; exact absurd h h2
  · rw [if_pos h1] at h; exact absurd h h1
theorem shape_alts {x : Ex} (h : shape x = true) : if x.op = 7 ∨ x.op = 13 then x.kids.length = x.alts.length + 1 else x.alts = [] := by
  unfold shape at h
  split
  · rename_i ho
    rw [if_pos ho] at h
    simp only [altsOk, Bool.and_eq_true, beq_iff_eq] at h
    omega
  · rename_i ho
    rw [if_neg ho] at h
    split at h
    · cases h
    · simp only [Bool.and_eq_true, beq_iff_eq] at h
      exact List.length_eq_zero_iff.1 h.1.2
theorem scope_bound {x : Ex} (h : shape x = true) {i : Nat} (hi : i < x.kids.length) : scopeE x i = boundN x.op x.binds x.alts i := by
  have ha := shape_alts h
  unfold scopeE boundN
  by_cases h1 : x.op = 2 ∨ x.op = 5 ∨ (x.op = 4 ∧ (i : Int) = 1)
  · rw [if_pos h1, if_pos h1]
  · rw [if_neg h1, if_neg h1]
    by_cases h2 : x.op = 7 ∨ x.op = 13
    · rw [if_pos h2] at ha
      by_cases h3 : 0 < (i : Int)
      · rw [if_pos ⟨h2, h3⟩, if_pos ⟨by omega, h3, by omega⟩]
      · rw [if_neg (fun h => h3 h.2), if_neg (fun h => h3 h.2.1)]
    · rw [if_neg h2] at ha
      rw [if_neg (fun h => h2 h.1), if_neg (by rw [ha]; simp)]
/-- What the function gathers. -/
def upStep (sc : List Int) (out : List Int) (f : Int) : List Int := if sc.contains f = false ∧ out.contains f = false then out ++ [f] else out
def upKid (sc fs out : List Int) : List Int := fs.foldl (upStep sc) out
def upTo (x : Ex) (fs : Nat → List Int) : Nat → List Int
  | 0 => if x.op = 0 then [x.n] else []
  | i + 1 => upKid (scopeE x i) (fs i) (upTo x fs i)
theorem upKid_mem (sc : List Int) : ∀ (fs out : List Int) (k : Int), k ∈ upKid sc fs out ↔ k ∈ out ∨ (k ∈ fs ∧ k ∉ sc)
  | [], out, k => by simp [upKid]
  | f :: fs, out, k => by
    have ih := upKid_mem sc fs (upStep sc out f) k
    unfold upKid at ih ⊢
    rw [List.foldl_cons, ih]
    unfold upStep
    by_cases h1 : sc.contains f = false ∧ out.contains f = false
    · rw [if_pos h1]
      have h2 : f ∉ sc := by simpa using h1.1
      rw [List.mem_append, List.mem_singleton, List.mem_cons]
      constructor
      · rintro ((h | rfl) | h)
        · exact .inl h
        · exact .inr ⟨.inl rfl, h2⟩
        · exact .inr ⟨.inr h.1, h.2⟩
      · rintro (h | ⟨rfl | h, h3⟩)
        · exact .inl (.inl h)
        · exact .inl (.inr rfl)
        · exact .inr ⟨h, h3⟩
    · rw [if_neg h1]
      simp only [List.mem_cons]
      constructor
      · rintro (h | h)
        · exact .inl h
        · exact .inr ⟨.inr h.1, h.2⟩
      · rintro (h | ⟨rfl | h, h3⟩)
        · exact .inl h
        · left
          by_cases h4 : k ∈ out
          · exact h4
          · exact absurd ⟨by simpa using h3, by simpa using h4⟩ h1
        · exact .inr ⟨h, h3⟩
theorem upKid_nodup (sc : List Int) : ∀ (fs out : List Int), out.Nodup → (upKid sc fs out).Nodup
  | [], out, h => h
  | f :: fs, out, h => by
    unfold upKid
    rw [List.foldl_cons]
    refine upKid_nodup sc fs _ ?_
    unfold upStep
    split
    · rename_i h1
      have h2 : f ∉ out := by simpa using h1.2
      rw [List.nodup_append]
      exact ⟨h, by simp, fun a ha b hb e => by simp at hb; subst hb; subst e; exact h2 ha⟩
    · exact h
theorem upTo_nodup (x : Ex) (fs : Nat → List Int) : ∀ i, (upTo x fs i).Nodup
  | 0 => by unfold upTo; split <;> simp
  | i + 1 => upKid_nodup _ _ _ (upTo_nodup x fs i)
theorem upTo_mem (x : Ex) (fs : Nat → List Int) : ∀ (i : Nat) (k : Int), k ∈ upTo x fs i ↔ (x.op = 0 ∧ k = x.n) ∨ ∃ j, j < i ∧ k ∈ fs j ∧ k ∉ scopeE x j
  | 0, k => by unfold upTo; split <;> simp_all
  | i + 1, k => by
    unfold upTo
    rw [upKid_mem, upTo_mem x fs i k]
    constructor
    · rintro ((h | ⟨j, h1, h2⟩) | h)
      · exact .inl h
      · exact .inr ⟨j, by omega, h2⟩
      · exact .inr ⟨i, by omega, h⟩
    · rintro (h | ⟨j, h1, h2⟩)
      · exact .inl (.inl h)
      · by_cases e : j = i
        · subst e; exact .inr h2
        · exact .inl (.inr ⟨j, by omega, h2⟩)
/-- The identifiers free at the kids. -/
def fsAt (e : List Ex) (x : Ex) (i : Nat) : List Int := freeOf (treeAt e (x.kids.getD i 0).toNat)
theorem up_free {e : List Ex} (h : check e = 0) {q : Nat} {x : Ex} (hx : e[q]? = some x) (k : Int) : k ∈ upTo x (fsAt e x) x.kids.length ↔ k ∈ freeOf (treeAt e q) := by
  have t1 := body_isTree h
  have hs := shape_of h x (List.mem_of_getElem? hx)
  rw [upTo_mem, treeAt_node t1.k hx, free_up]
  constructor
  · rintro (h1 | ⟨j, h1, h2, h3⟩)
    · exact .inl h1
    · refine .inr ⟨j, treeAt e (x.kids.getD j 0).toNat, ?_, ?_, h2⟩
      · rw [List.getElem?_map, List.getElem?_eq_getElem h1, List.getD_eq_getElem?_getD, List.getElem?_eq_getElem h1]; rfl
      · rw [← scope_bound hs h1]; exact h3
  · rintro (h1 | ⟨j, s, h1, h2, h3⟩)
    · exact .inl h1
    · rw [List.getElem?_map] at h1
      cases hk : x.kids[j]? with
      | none => rw [hk] at h1; cases h1
      | some kk =>
        rw [hk] at h1
        simp at h1
        have hj := (List.getElem?_eq_some_iff.1 hk).1
        refine .inr ⟨j, hj, ?_, ?_⟩
        · unfold fsAt
          rw [List.getD_eq_getElem?_getD, hk]
          simpa [h1] using h3
        · rw [scope_bound hs hj]; exact h2
end Go.CoreX
namespace Go.Proofs.YtnonkoeknpmcjaaDoor
open Go Go.Abs Go.CoreX
set_option maxRecDepth 10000
set_option linter.unusedVariables false
set_option linter.unusedSimpArgs false
variable {Γ : List (Nat × List AC)}
theorem In_ok (hΓ : ∀ g cs, (g, cs) ∈ Γ → idsL isO cs) (xs : List Int) (hx : xs.length ≤ 1048576) (n : Int) :
    APure Tryd.prog Γ 16 [.one (.sl 1 (xs.map cI)), .one (int n)] (.one (.lit (.bool (xs.contains n)))) := by
  intro ou
  refine AFn.walk 17 tabOk Tryd.func16 rfl (by kernel_rfl) rfl rfl fun hou => ?_
  repeat first | (with_reducible refine oj ?_; refine AOps.auto tabOk rfl ?_) | (with_reducible first | refine o1 ?_ | refine o2 ?_ | refine o3 ?_ | refine o4 ?_ | refine o5 ?_ | refine o6 ?_ | refine o7 ?_ | refine o8 ?_ | refine o9 ?_ | refine oa ?_ | refine ob ?_ | refine oc ?_ | refine od ?_ | refine oe ?_ | refine og ?_ | refine oh ?_ | refine oi ?_) | (with_reducible refine cExitMiss ?_ ?_; rfl) | (with_reducible refine ok ?_; first | refine ACode.condT rfl ?_ | refine ACode.condF rfl ?_)
  refine ACode.loopR hΓ (α := Nat) (fun j => [(9, .one (int j)), (8, .one (int (xs.map cI).length)), (7, .one (.sl 1 (xs.map cI))), (1, .one (int n))])
    (fun j => ⟨0, [], ou⟩) (fun m j => j ≤ xs.length ∧ n ∉ xs.take j ∧ m = xs.length - j) (a0 := 0) (ρ := id) ⟨by omega, by simp, rfl⟩ (LessR.of rfl (by (repeat' first | exact FrSub.nil | refine FrSub.cons rfl (.ofEq rfl) ?_ | refine FrSub.consP rfl (.ofEq rfl) (by simp) ?_)) (by simp) (by repeat' first | exact LoSub.nil | refine LoSub.cons rfl ?_ rfl (by simp) ?_ | rfl | (refine (AObj.ren_pure _ _ ?_).symm; simp; done) | (simp [AObj.ren, renL, AC.ren]; done) | (simp [AObj.ren, renL, AC.ren]; rfl)) rfl rfl hou) fun m j hj => ?_
  obtain ⟨hjl, hno, rfl⟩ := hj
  repeat first | (with_reducible refine oj ?_; refine AOps.auto tabOk rfl ?_) | (with_reducible first | refine o1 ?_ | refine o2 ?_ | refine o3 ?_ | refine o4 ?_ | refine o5 ?_ | refine o6 ?_ | refine o7 ?_ | refine o8 ?_ | refine o9 ?_ | refine oa ?_ | refine ob ?_ | refine oc ?_ | refine od ?_ | refine oe ?_ | refine og ?_ | refine oh ?_ | refine oi ?_) | (with_reducible refine cExitMiss ?_ ?_; rfl) | (with_reducible refine ok ?_; first | refine ACode.condT rfl ?_ | refine ACode.condF rfl ?_)
  refine ACode.cond rfl (fun hb2 => ?_) (fun hb2 => ?_)
  · have hlt : j < xs.length := by simpa using hb2
    obtain ⟨x, hx1⟩ := get_of_lt hlt
    repeat first | (with_reducible refine oj ?_; refine AOps.auto tabOk rfl ?_) | (with_reducible first | refine o1 ?_ | refine o2 ?_ | refine o3 ?_ | refine o4 ?_ | refine o5 ?_ | refine o6 ?_ | refine o7 ?_ | refine o8 ?_ | refine o9 ?_ | refine oa ?_ | refine ob ?_ | refine oc ?_ | refine od ?_ | refine oe ?_ | refine og ?_ | refine oh ?_ | refine oi ?_) | (with_reducible refine cExitMiss ?_ ?_; rfl) | (with_reducible refine ok ?_; first | refine ACode.condT rfl ?_ | refine ACode.condF rfl ?_)
    refine AOps.step1 rfl rfl rfl (AStep.indexAddr tabOk rfl rfl rfl rfl rfl rfl (.inl rfl) rfl (by omega) (map_get hx1)) ?_
    repeat first | (with_reducible refine oj ?_; refine AOps.auto tabOk rfl ?_) | (with_reducible first | refine o1 ?_ | refine o2 ?_ | refine o3 ?_ | refine o4 ?_ | refine o5 ?_ | refine o6 ?_ | refine o7 ?_ | refine o8 ?_ | refine o9 ?_ | refine oa ?_ | refine ob ?_ | refine oc ?_ | refine od ?_ | refine oe ?_ | refine og ?_ | refine oh ?_ | refine oi ?_) | (with_reducible refine cExitMiss ?_ ?_; rfl) | (with_reducible refine ok ?_; first | refine ACode.condT rfl ?_ | refine ACode.condF rfl ?_)
    refine ACode.cond rfl (fun hb3 => ?_) (fun hb3 => ?_)
    · have he : x = n := by simpa using hb3
      repeat first | (with_reducible refine oj ?_; refine AOps.auto tabOk rfl ?_) | (with_reducible first | refine o1 ?_ | refine o2 ?_ | refine o3 ?_ | refine o4 ?_ | refine o5 ?_ | refine o6 ?_ | refine o7 ?_ | refine o8 ?_ | refine o9 ?_ | refine oa ?_ | refine ob ?_ | refine oc ?_ | refine od ?_ | refine oe ?_ | refine og ?_ | refine oh ?_ | refine oi ?_) | (with_reducible refine cExitMiss ?_ ?_; rfl) | (with_reducible refine ok ?_; first | refine ACode.condT rfl ?_ | refine ACode.condF rfl ?_)
      refine APure.fin rfl (WkF.ofEq ?_) (by simp) hou rfl
      rw [List.contains_iff_mem.2 (he ▸ List.mem_of_getElem? hx1)]
    · have he : x ≠ n := by simpa using hb3
      repeat' first | (with_reducible refine oj ?_; refine AOps.auto tabOk rfl ?_) | (with_reducible first | refine o1 ?_ | refine o2 ?_ | refine o3 ?_ | refine o4 ?_ | refine o5 ?_ | refine o6 ?_ | refine o7 ?_ | refine o8 ?_ | refine o9 ?_ | refine oa ?_ | refine ob ?_ | refine oc ?_ | refine od ?_ | refine oe ?_ | refine og ?_ | refine oh ?_ | refine oi ?_) | (with_reducible refine cExitMiss ?_ ?_; rfl) | (with_reducible refine ok ?_; first | refine ACode.condT rfl ?_ | refine ACode.condF rfl ?_) | (with_reducible refine oj ?_; first | refine AOps.step1 rfl rfl rfl (AStep.arith rfl rfl rfl (.inl ⟨rfl, rfl⟩) (inRange_i64 (by first | omega | (simp; omega)) (by first | omega | (simp; omega)))) ?_ | refine AOps.step1 rfl rfl rfl (AStep.arith rfl rfl rfl (.inr (.inl ⟨rfl, rfl⟩)) (inRange_i64 (by first | omega | (simp; omega)) (by first | omega | (simp; omega)))) ?_ | refine AOps.step1 rfl rfl rfl (AStep.neBool Tryd.underlying4 rfl rfl rfl) ?_ | refine AOps.step1 rfl rfl rfl (AStep.eqBool Tryd.underlying4 rfl rfl rfl) ?_ | refine AOps.step1 rfl rfl rfl (AStep.max2 (t := 3) (ty := 3) rfl rfl rfl) ?_ | refine AOps.step1 rfl rfl rfl (AStep.min2 (t := 3) (ty := 3) rfl rfl rfl) ?_ | refine AOps.unG rfl rfl rfl ?_)
      refine cInv ⟨xs.length - (j + 1), j + 1, id, by omega, ⟨by omega, ?_, rfl⟩, LessR.of rfl (by (repeat' first | exact FrSub.nil | refine FrSub.cons rfl (.ofEq rfl) ?_ | refine FrSub.consP rfl (.ofEq rfl) (by simp) ?_)) (by simp) (by repeat' first | exact LoSub.nil | refine LoSub.cons rfl ?_ rfl (by simp) ?_ | rfl | (refine (AObj.ren_pure _ _ ?_).symm; simp; done) | (simp [AObj.ren, renL, AC.ren]; done) | (simp [AObj.ren, renL, AC.ren]; rfl)) rfl rfl hou⟩
      rw [take_get hx1]
      simp only [List.mem_append, List.mem_singleton, not_or]
      exact ⟨hno, fun h => he h.symm⟩
  · have hlt : j = xs.length := by simp at hb2; omega
    subst hlt
    rw [List.take_length] at hno
    repeat first | (with_reducible refine oj ?_; refine AOps.auto tabOk rfl ?_) | (with_reducible first | refine o1 ?_ | refine o2 ?_ | refine o3 ?_ | refine o4 ?_ | refine o5 ?_ | refine o6 ?_ | refine o7 ?_ | refine o8 ?_ | refine o9 ?_ | refine oa ?_ | refine ob ?_ | refine oc ?_ | refine od ?_ | refine oe ?_ | refine og ?_ | refine oh ?_ | refine oi ?_) | (with_reducible refine cExitMiss ?_ ?_; rfl) | (with_reducible refine ok ?_; first | refine ACode.condT rfl ?_ | refine ACode.condF rfl ?_)
    refine APure.fin rfl (WkF.ofEq ?_) (by simp) hou rfl
    rw [List.contains_eq_mem, decide_eq_false hno]
theorem Scope_ok (x : Ex) (hx : okX x) (k : Int) (hk : -1048576 ≤ k ∧ k ≤ 1048576) (ha : (x.op = 7 ∨ x.op = 13) → k ≤ x.alts.length) :
    APure Tryd.prog Γ 17 [.agg (cEx x), .one (int k)] (.one (.sl 1 ((scopeE x k).map cI))) := by
  intro ou
  refine AFn.walk 43 tabOk Tryd.func17 rfl (by kernel_rfl) rfl rfl fun hou => ?_
  repeat' first | (with_reducible refine oj ?_; refine AOps.auto tabOk rfl ?_) | (with_reducible first | refine o1 ?_ | refine o2 ?_ | refine o3 ?_ | refine o4 ?_ | refine o5 ?_ | refine o6 ?_ | refine o7 ?_ | refine o8 ?_ | refine oa ?_ | refine ob ?_ | refine oc ?_ | refine od ?_ | refine oe ?_ | refine og ?_ | refine oh ?_ | refine oi ?_) | (with_reducible refine cExitMiss ?_ ?_; rfl) | (with_reducible refine ok ?_; first | refine ACode.condT rfl ?_ | refine ACode.condF rfl ?_) | (with_reducible refine oj ?_; first | refine AOps.step1 rfl rfl rfl (AStep.arith rfl rfl rfl (.inl ⟨rfl, rfl⟩) (inRange_i64 (by first | omega | (simp; omega)) (by first | omega | (simp; omega)))) ?_ | refine AOps.step1 rfl rfl rfl (AStep.arith rfl rfl rfl (.inr (.inl ⟨rfl, rfl⟩)) (inRange_i64 (by first | omega | (simp; omega)) (by first | omega | (simp; omega)))) ?_ | refine AOps.step1 rfl rfl rfl (AStep.neBool Tryd.underlying4 rfl rfl rfl) ?_ | refine AOps.step1 rfl rfl rfl (AStep.eqBool Tryd.underlying4 rfl rfl rfl) ?_ | refine AOps.step1 rfl rfl rfl (AStep.max2 (t := 3) (ty := 3) rfl rfl rfl) ?_ | refine AOps.step1 rfl rfl rfl (AStep.min2 (t := 3) (ty := 3) rfl rfl rfl) ?_ | refine AOps.unG rfl rfl rfl ?_)
  repeat' first | (with_reducible refine oj ?_; refine AOps.auto tabOk rfl ?_) | (with_reducible first | refine o1 ?_ | refine o2 ?_ | refine o3 ?_ | refine o4 ?_ | refine o5 ?_ | refine o6 ?_ | refine o7 ?_ | refine o8 ?_ | refine o9 ?_ | refine oa ?_ | refine ob ?_ | refine oc ?_ | refine od ?_ | refine oe ?_ | refine og ?_ | refine oh ?_ | refine oi ?_) | (with_reducible refine cExitMiss ?_ ?_; rfl) | (with_reducible refine ok ?_; first | refine ACode.condT rfl ?_ | refine ACode.condF rfl ?_) | (with_reducible refine oj ?_; first | refine AOps.step1 rfl rfl rfl (AStep.arith rfl rfl rfl (.inl ⟨rfl, rfl⟩) (inRange_i64 (by first | omega | (simp; omega)) (by first | omega | (simp; omega)))) ?_ | refine AOps.step1 rfl rfl rfl (AStep.arith rfl rfl rfl (.inr (.inl ⟨rfl, rfl⟩)) (inRange_i64 (by first | omega | (simp; omega)) (by first | omega | (simp; omega)))) ?_ | refine AOps.step1 rfl rfl rfl (AStep.neBool Tryd.underlying4 rfl rfl rfl) ?_ | refine AOps.step1 rfl rfl rfl (AStep.eqBool Tryd.underlying4 rfl rfl rfl) ?_ | refine AOps.step1 rfl rfl rfl (AStep.max2 (t := 3) (ty := 3) rfl rfl rfl) ?_ | refine AOps.step1 rfl rfl rfl (AStep.min2 (t := 3) (ty := 3) rfl rfl rfl) ?_ | refine AOps.unG rfl rfl rfl ?_) | (with_reducible refine oj ?_; refine AOps.splitS rfl rfl rfl rfl (fun hb => ?_) (fun hb => ?_)) | (with_reducible refine ok ?_; first | refine ACode.condS rfl (fun hb => ?_) (fun hb => ?_) | refine ACode.cond rfl (fun hb => ?_) (fun hb => ?_))
  all_goals try
    (have h1 : 0 < k := by simp_all
     have h0 : x.op = 7 ∨ x.op = 13 := by simp_all
     have h2 : k ≤ x.alts.length := ha h0
     obtain ⟨a, ha2⟩ := get_of_lt (l := x.alts) (i := (k - 1).toNat) (by omega)
     refine AOps.step1 rfl rfl rfl (AStep.indexAddr tabOk rfl rfl rfl rfl rfl rfl (.inl rfl) rfl (by omega) (map_get ha2)) ?_
     have hb2 : scopeE x k = a.binds := by
       have e1 : x.alts.getD (k - 1).toNat ⟨0, []⟩ = a := by rw [List.getD_eq_getElem?_getD, ha2]; rfl
       unfold scopeE
       rw [if_neg (by simp_all), if_pos ⟨h0, h1⟩, e1]
     rw [hb2]
     repeat' first | (with_reducible refine oj ?_; refine AOps.auto tabOk rfl ?_) | (with_reducible first | refine o1 ?_ | refine o2 ?_ | refine o3 ?_ | refine o4 ?_ | refine o5 ?_ | refine o6 ?_ | refine o7 ?_ | refine o8 ?_ | refine o9 ?_ | refine oa ?_ | refine ob ?_ | refine oc ?_ | refine od ?_ | refine oe ?_ | refine og ?_ | refine oh ?_ | refine oi ?_) | (with_reducible refine cExitMiss ?_ ?_; rfl) | (with_reducible refine ok ?_; first | refine ACode.condT rfl ?_ | refine ACode.condF rfl ?_) | (with_reducible refine oj ?_; first | refine AOps.step1 rfl rfl rfl (AStep.arith rfl rfl rfl (.inl ⟨rfl, rfl⟩) (inRange_i64 (by first | omega | (simp; omega)) (by first | omega | (simp; omega)))) ?_ | refine AOps.step1 rfl rfl rfl (AStep.arith rfl rfl rfl (.inr (.inl ⟨rfl, rfl⟩)) (inRange_i64 (by first | omega | (simp; omega)) (by first | omega | (simp; omega)))) ?_ | refine AOps.step1 rfl rfl rfl (AStep.neBool Tryd.underlying4 rfl rfl rfl) ?_ | refine AOps.step1 rfl rfl rfl (AStep.eqBool Tryd.underlying4 rfl rfl rfl) ?_ | refine AOps.step1 rfl rfl rfl (AStep.max2 (t := 3) (ty := 3) rfl rfl rfl) ?_ | refine AOps.step1 rfl rfl rfl (AStep.min2 (t := 3) (ty := 3) rfl rfl rfl) ?_ | refine AOps.unG rfl rfl rfl ?_) | (with_reducible refine oj ?_; refine AOps.splitS rfl rfl rfl rfl (fun hb => ?_) (fun hb => ?_)) | (with_reducible refine ok ?_; first | refine ACode.condS rfl (fun hb => ?_) (fun hb => ?_) | refine ACode.cond rfl (fun hb => ?_) (fun hb => ?_))
     exact APure.fin rfl (WkF.ofEq rfl) (by simp) hou rfl)
  all_goals first
    | (refine APure.fin rfl (WkF.ofEq ?_) (by simp) hou rfl
       simp_all [scopeE]
       done)
    | (refine APure.fin rfl (.trans (.one (.nilS 1)) (.ofEq ?_)) (by simp) hou rfl
       simp_all [scopeE]
       done)
    | (refine APure.fin rfl (.trans (.one (.nilS 1)) (.ofEq ?_)) (by simp) hou rfl
       simp_all [scopeE]
       intros; omega)
end Go.Proofs.YtnonkoeknpmcjaaDoor
