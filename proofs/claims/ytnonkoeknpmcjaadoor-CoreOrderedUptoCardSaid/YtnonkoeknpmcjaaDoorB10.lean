/- A node's list, coreFact, CoreOrdered, walked. -/
import Derived.Test.YtnonkoeknpmcjaaDoorB9
import Derived.Test.YtnonkoeknpmcjaaDoorRows
import Derived.Lib.LaidTab
namespace Go.Proofs.YtnonkoeknpmcjaaDoor
open Go Go.Abs Go.CoreX
set_option maxRecDepth 10000
set_option linter.unusedVariables false
set_option linter.unusedSimpArgs false
variable {Γ : List (Nat × List AC)}
theorem NodeList_ok (hΓ : ∀ g cs, (g, cs) ∈ Γ → idsL isO cs) (t : Tr) (ht : okT t) (hsz : (listT [] t).length ≤ 1048576) : APure Tryd.prog Γ 34 [.one (.box (cNd t))] (.one (.sl 5 ((listT [] t).map cEx))) := by
  intro ou
  refine AFn.walk 7 tabOk Tryd.func34 rfl (by kernel_rfl) rfl rfl fun hou => ?_
  iterate 11 (first | (with_reducible refine oj ?_; refine AOps.auto tabOk rfl ?_) | (with_reducible first | refine o1 ?_ | refine o2 ?_ | refine o3 ?_ | refine o4 ?_ | refine o5 ?_ | refine o6 ?_ | refine o7 ?_ | refine o8 ?_ | refine o9 ?_ | refine oa ?_ | refine ob ?_ | refine oc ?_ | refine od ?_ | refine oe ?_ | refine og ?_ | refine oh ?_ | refine oi ?_) | (with_reducible refine cExitMiss ?_ ?_; rfl) | (with_reducible refine ok ?_; first | refine ACode.condT rfl ?_ | refine ACode.condF rfl ?_))
  refine ACode.grow 0 0 35 5 rfl rfl ?_
  repeat first | (with_reducible refine oj ?_; refine AOps.auto tabOk rfl ?_) | (with_reducible first | refine o1 ?_ | refine o2 ?_ | refine o3 ?_ | refine o4 ?_ | refine o5 ?_ | refine o6 ?_ | refine o7 ?_ | refine o8 ?_ | refine o9 ?_ | refine oa ?_ | refine ob ?_ | refine oc ?_ | refine od ?_ | refine oe ?_ | refine og ?_ | refine oh ?_ | refine oi ?_) | (with_reducible refine cExitMiss ?_ ?_; rfl) | (with_reducible refine ok ?_; first | refine ACode.condT rfl ?_ | refine ACode.condF rfl ?_)
  refine AOps.cede 0 (show 0 < 2 by omega) fun ko hko => ⟨[(4, .one (.box (cNd t))), (3, .one (.ptr (.o ko) 0))],
    ⟨2, [(1, .tok 35 5 0)], updO ou ko (.cells [.gs 5 [] (.l 1)])⟩, ⟨CedFr.get ?_, rfl, fun i x hx => ?_⟩, ?_⟩
  · exact .cons rfl (FV.sub_o _ (by simp)) (.cons rfl rfl .nil)
  · have hko : ou ko = none := hko
    cases i with
    | l m =>
      by_cases e : 1 = m
      · subst e; cases hx; exact ⟨.l 1, _, rfl, rfl, rfl⟩
      · simp [St.get, lookL, beq_no e] at hx
    | o m =>
      have hx' : updO ou ko (.cells [.gs 5 [] (.l 1)]) m = some x := hx
      by_cases e : ko = m
      · subst e; rw [updO_same] at hx'; cases hx'; exact ⟨.l 0, _, rfl, rfl, rfl⟩
      · rw [updO_ne _ e] at hx'
        exact ⟨.o m, x, hx', rfl, (AObj.sub_o x (hou m x hx')).symm⟩
  have hko : ou ko = none := hko
  refine AOps.cede 1 (show 1 < 2 by omega) fun kt hkt => ⟨[(4, .one (.box (cNd t))), (3, .one (.ptr (.o ko) 0))],
    ⟨2, [], ouS ou ko kt (([] : List Ex).map cEx)⟩, ⟨CedFr.get ?_, rfl, fun i x hx => ?_⟩, ?_⟩
  · exact .cons rfl (FV.sub_o _ (by simp)) (.cons rfl rfl .nil)
  · have hkt : updO ou ko (.cells [.gs 5 [] (.l 1)]) kt = none := hkt
    have hkto : ko ≠ kt := fun e => by subst e; rw [updO_same] at hkt; cases hkt
    cases i with
    | l m => cases hx
    | o m =>
      have hx' : ouS ou ko kt (([] : List Ex).map cEx) m = some x := hx
      by_cases e : m = kt
      · subst e; rw [ouS_t] at hx'; cases hx'; exact ⟨.l 1, _, rfl, rfl, rfl⟩
      · by_cases e2 : m = ko
        · subst e2; rw [ouS_o hkto] at hx'; cases hx'
          exact ⟨.o m, .cells [.gs 5 [] (.l 1)], updO_same _ _ _, rfl, rfl⟩
        · rw [ouS_w e2 e] at hx'
          refine ⟨.o m, x, ?_, rfl, (AObj.sub_o x (hou m x hx')).symm⟩
          show updO ou ko (.cells [.gs 5 [] (.l 1)]) m = _
          rw [updO_ne _ (Ne.symm e2)]; exact hx'
  have hkt : updO ou ko (.cells [.gs 5 [] (.l 1)]) kt = none := hkt
  have hot : ko ≠ kt := fun e => by subst e; rw [updO_same] at hkt; cases hkt
  rw [updO_ne _ hot] at hkt
  have hcall := into_ok hΓ t ht ou ko kt [] hou hko hkt hot hsz
  refine AOps.call1 hΓ rfl rfl rfl rfl rfl rfl rfl (by simp) (ouS_ok hou (by simp)) hcall fun r ou' hq hids hou' => ?_
  obtain ⟨rfl, kt', h1, h2, rfl⟩ := hq
  repeat first | (with_reducible refine oj ?_; refine AOps.auto tabOk rfl ?_) | (with_reducible first | refine o1 ?_ | refine o2 ?_ | refine o3 ?_ | refine o4 ?_ | refine o5 ?_ | refine o6 ?_ | refine o7 ?_ | refine o8 ?_ | refine o9 ?_ | refine oa ?_ | refine ob ?_ | refine oc ?_ | refine od ?_ | refine oe ?_ | refine og ?_ | refine oh ?_ | refine oi ?_) | (with_reducible refine cExitMiss ?_ ?_; rfl) | (with_reducible refine ok ?_; first | refine ACode.condT rfl ?_ | refine ACode.condF rfl ?_)
  refine AOps.step1 rfl rfl rfl (AStep.loadOwn tabOk rfl rfl rfl rfl rfl (ouS_o h2 _) rfl) ?_
  refine AOps.wk 6 rfl (y := .one (.sl 5 ((listT [] t).map cEx))) (.one (.gsE rfl)) ?_
  refine AOps.lessO ⟨2, [], ou⟩ rfl (fun i o ho => ?_) ?_
  · cases i with
    | l m => cases ho
    | o m =>
      have ho' : ou m = some o := ho
      show ouS ou ko kt' _ m = some o
      have e1 : m ≠ ko := fun e => by rw [e, hko] at ho'; cases ho'
      have e3 : m ≠ kt' := fun e => by rw [← e, ho'] at h1; cases h1
      rw [ouS_w e1 e3]; exact ho'
  repeat first | (with_reducible refine oj ?_; refine AOps.auto tabOk rfl ?_) | (with_reducible first | refine o1 ?_ | refine o2 ?_ | refine o3 ?_ | refine o4 ?_ | refine o5 ?_ | refine o6 ?_ | refine o7 ?_ | refine o8 ?_ | refine o9 ?_ | refine oa ?_ | refine ob ?_ | refine oc ?_ | refine od ?_ | refine oe ?_ | refine og ?_ | refine oh ?_ | refine oi ?_) | (with_reducible refine cExitMiss ?_ ?_; rfl) | (with_reducible refine ok ?_; first | refine ACode.condT rfl ?_ | refine ACode.condF rfl ?_)
  exact APure.fin rfl (WkF.ofEq rfl) (by simp) hou rfl
def factA : Tr := .mk 2 0 [1] [.mk 0 1 [] [] []] []
def factB : Tr := .mk 2 0 [2] [.mk 0 2 [] [] []] []
theorem okT_fact (n : Int) : okT (.mk 2 0 [n] [.mk 0 n [] [] []] []) := by simp [okT, okTs]
theorem okB_fact (n : Int) : okB (listT [] (.mk 2 0 [n] [.mk 0 n [] [] []] [])) := by
  have e : listT [] (.mk 2 0 [n] [.mk 0 n [] [] []] []) = [⟨0, n, [], [], []⟩, ⟨2, 0, [n], [0], []⟩] := by simp [listT, listTs]
  rw [e]
  refine ⟨⟨by simp, fun x hx => ?_⟩, fun x hx => ?_⟩
  · simp at hx
    rcases hx with rfl | rfl <;> exact ⟨by simp, by simp, by simp, by simp⟩
  · simp at hx
    rcases hx with rfl | rfl <;> simp
theorem same_fact : same (listT [] factA) (listT [] factB) = true := by kernel_rfl
theorem coreFact_ok : APure Tryd.prog Γc 11 [] (.one (.lit (.bool true))) := by
  intro ou
  refine AFn.walk 12 tabOk Tryd.func11 rfl (by kernel_rfl) rfl rfl fun hou => ?_
  repeat first | (with_reducible refine oj ?_; refine AOps.auto tabOk rfl ?_) | (with_reducible first | refine o1 ?_ | refine o2 ?_ | refine o3 ?_ | refine o4 ?_ | refine o5 ?_ | refine o6 ?_ | refine o7 ?_ | refine o8 ?_ | refine o9 ?_ | refine oa ?_ | refine ob ?_ | refine oc ?_ | refine od ?_ | refine oe ?_ | refine og ?_ | refine oh ?_ | refine oi ?_) | (with_reducible refine cExitMiss ?_ ?_; rfl) | (with_reducible refine ok ?_; first | refine ACode.condT rfl ?_ | refine ACode.condF rfl ?_)
  refine AOps.callC hΓc (V_ok hΓc 1) rfl rfl rfl rfl rfl rfl rfl hou (by simp) ?_
  repeat first | (with_reducible refine oj ?_; refine AOps.auto tabOk rfl ?_) | (with_reducible first | refine o1 ?_ | refine o2 ?_ | refine o3 ?_ | refine o4 ?_ | refine o5 ?_ | refine o6 ?_ | refine o7 ?_ | refine o8 ?_ | refine o9 ?_ | refine oa ?_ | refine ob ?_ | refine oc ?_ | refine od ?_ | refine oe ?_ | refine og ?_ | refine oh ?_ | refine oi ?_) | (with_reducible refine cExitMiss ?_ ?_; rfl) | (with_reducible refine ok ?_; first | refine ACode.condT rfl ?_ | refine ACode.condF rfl ?_)
  refine AOps.callC hΓc (B_ok 2 [1] [.mk 0 1 [] [] []]) rfl rfl rfl rfl rfl rfl (by simp [encNds, encNd_eq]; exact ⟨⟨rfl, rfl⟩, rfl⟩) hou (by simp) ?_
  refine AOps.callC hΓc (NodeList_ok hΓc factA (okT_fact 1) (by simp [factA, listT, listTs])) rfl rfl rfl rfl rfl rfl rfl hou (by simp) ?_
  repeat first | (with_reducible refine oj ?_; refine AOps.auto tabOk rfl ?_) | (with_reducible first | refine o1 ?_ | refine o2 ?_ | refine o3 ?_ | refine o4 ?_ | refine o5 ?_ | refine o6 ?_ | refine o7 ?_ | refine o8 ?_ | refine o9 ?_ | refine oa ?_ | refine ob ?_ | refine oc ?_ | refine od ?_ | refine oe ?_ | refine og ?_ | refine oh ?_ | refine oi ?_) | (with_reducible refine cExitMiss ?_ ?_; rfl) | (with_reducible refine ok ?_; first | refine ACode.condT rfl ?_ | refine ACode.condF rfl ?_)
  refine AOps.callC hΓc (V_ok hΓc 2) rfl rfl rfl rfl rfl rfl rfl hou (by simp) ?_
  repeat first | (with_reducible refine oj ?_; refine AOps.auto tabOk rfl ?_) | (with_reducible first | refine o1 ?_ | refine o2 ?_ | refine o3 ?_ | refine o4 ?_ | refine o5 ?_ | refine o6 ?_ | refine o7 ?_ | refine o8 ?_ | refine o9 ?_ | refine oa ?_ | refine ob ?_ | refine oc ?_ | refine od ?_ | refine oe ?_ | refine og ?_ | refine oh ?_ | refine oi ?_) | (with_reducible refine cExitMiss ?_ ?_; rfl) | (with_reducible refine ok ?_; first | refine ACode.condT rfl ?_ | refine ACode.condF rfl ?_)
  refine AOps.callC hΓc (B_ok 2 [2] [.mk 0 2 [] [] []]) rfl rfl rfl rfl rfl rfl (by simp [encNds, encNd_eq]; exact ⟨⟨rfl, rfl⟩, rfl⟩) hou (by simp) ?_
  refine AOps.callC hΓc (NodeList_ok hΓc factB (okT_fact 2) (by simp [factB, listT, listTs])) rfl rfl rfl rfl rfl rfl rfl hou (by simp) ?_
  refine AOps.callC hΓc (Same_ok _ _ (okB_fact 1) (okB_fact 2) same_fact) rfl rfl rfl rfl rfl rfl rfl hou (by simp) ?_
  repeat first | (with_reducible refine oj ?_; refine AOps.auto tabOk rfl ?_) | (with_reducible first | refine o1 ?_ | refine o2 ?_ | refine o3 ?_ | refine o4 ?_ | refine o5 ?_ | refine o6 ?_ | refine o7 ?_ | refine o8 ?_ | refine o9 ?_ | refine oa ?_ | refine ob ?_ | refine oc ?_ | refine od ?_ | refine oe ?_ | refine og ?_ | refine oh ?_ | refine oi ?_) | (with_reducible refine cExitMiss ?_ ?_; rfl) | (with_reducible refine ok ?_; first | refine ACode.condT rfl ?_ | refine ACode.condF rfl ?_)
  exact APure.fin rfl (WkF.ofEq rfl) (by simp) hou rfl
theorem okB_tree {e f : List Ex} (he : IsTree e) (hf : IsTree f) (h : grow e = grow f) (hb : okB e) : okB f := by
  have hp := labs_perm he hf h
  have hl : e.length = f.length := by rw [← len_labs e, ← len_labs f]; exact hp.length_eq
  have key : ∀ y ∈ f, ∃ x ∈ e, labE e x = labE f y := fun y hy => by
    have := hp.mem_iff.2 (List.mem_map_of_mem (f := labE f) hy)
    exact List.mem_map.1 this
  have dat : ∀ y ∈ f, ∃ x ∈ e, x.binds = y.binds ∧ x.alts = y.alts ∧ x.kids.length = y.kids.length := fun y hy => by
    obtain ⟨x, hx, hxy⟩ := key y hy
    simp only [labE, Lab.mk.injEq] at hxy
    have := congrArg List.length hxy.2.2.2.1
    simp only [List.length_map] at this
    exact ⟨x, hx, hxy.2.2.1, hxy.2.2.2.2, this⟩
  refine ⟨⟨by rw [← hl]; exact hb.eo.l, fun y hy => ?_⟩, fun y hy => ?_⟩
  · obtain ⟨x, hx, h1, h2, h3⟩ := dat y hy
    have hx' := hb.eo.x x hx
    exact ⟨by rw [← h1]; exact hx'.b, by rw [← h3]; exact hx'.k, by rw [← h2]; exact hx'.a, by rw [← h2]; exact hx'.ab⟩
  · obtain ⟨x, hx, h1, h2, h3⟩ := dat y hy
    have := hb.b x hx
    rw [h1, h2] at this
    exact this
theorem CoreOrdered_ok (e : List Ex) (he : okB e) : APure Tryd.prog Γc 3 [.one (.sl 5 (e.map cEx))] (.one (.lit (.bool true))) := by
  intro ou
  refine AFn.walk 47 tabOk Tryd.func3 rfl (by kernel_rfl) rfl rfl fun hou => ?_
  have c1 := Order_ok e he
  by_cases h : check e = 0
  · have t1 := body_isTree h
    have t2 := isTree_list (grow e)
    have ho : order e = (listT [] (grow e), 0) := by unfold order; rw [if_neg (by simpa using h)]
    have ho2 : order (listT [] (grow e)) = (listT [] (grow e), 0) := by unfold order; rw [if_neg (by simpa using check_list h), grow_list]
    have hbf : okB (listT [] (grow e)) := okB_tree t1 t2 (grow_list _).symm he
    have c2 := Order_ok _ hbf
    have hlen := len_list h
    have hsm : same e (listT [] (grow e)) = true := by simp [same, h, check_list h, grow_list, sameTree_refl]
    have c3 := Same_ok e _ he hbf hsm
    rw [ho] at c1
    rw [ho2] at c2
    have c4 := SameListR_ok hΓc _ hbf.eo
    generalize listT [] (grow e) = f at c1 c2 c3 c4 hlen
    simp only at c1 c2
    repeat first | (with_reducible refine oj ?_; refine AOps.auto tabOk rfl ?_) | (with_reducible first | refine o1 ?_ | refine o2 ?_ | refine o3 ?_ | refine o4 ?_ | refine o5 ?_ | refine o6 ?_ | refine o7 ?_ | refine o8 ?_ | refine o9 ?_ | refine oa ?_ | refine ob ?_ | refine oc ?_ | refine od ?_ | refine oe ?_ | refine og ?_ | refine oh ?_ | refine oi ?_) | (with_reducible refine cExitMiss ?_ ?_; rfl) | (with_reducible refine ok ?_; first | refine ACode.condT rfl ?_ | refine ACode.condF rfl ?_)
    refine AOps.callC hΓc c1 rfl rfl rfl rfl rfl rfl rfl hou (by simp) ?_
    repeat first | (with_reducible refine oj ?_; refine AOps.auto tabOk rfl ?_) | (with_reducible first | refine o1 ?_ | refine o2 ?_ | refine o3 ?_ | refine o4 ?_ | refine o5 ?_ | refine o6 ?_ | refine o7 ?_ | refine o8 ?_ | refine o9 ?_ | refine oa ?_ | refine ob ?_ | refine oc ?_ | refine od ?_ | refine oe ?_ | refine og ?_ | refine oh ?_ | refine oi ?_) | (with_reducible refine cExitMiss ?_ ?_; rfl) | (with_reducible refine ok ?_; first | refine ACode.condT rfl ?_ | refine ACode.condF rfl ?_)
    refine AOps.callC hΓc c2 rfl rfl rfl rfl rfl rfl rfl hou (by simp) ?_
    repeat first | (with_reducible refine oj ?_; refine AOps.auto tabOk rfl ?_) | (with_reducible first | refine o1 ?_ | refine o2 ?_ | refine o3 ?_ | refine o4 ?_ | refine o5 ?_ | refine o6 ?_ | refine o7 ?_ | refine o8 ?_ | refine o9 ?_ | refine oa ?_ | refine ob ?_ | refine oc ?_ | refine od ?_ | refine oe ?_ | refine og ?_ | refine oh ?_ | refine oi ?_) | (with_reducible refine cExitMiss ?_ ?_; rfl) | (with_reducible refine ok ?_; first | refine ACode.condT rfl ?_ | refine ACode.condF rfl ?_)
    refine AOps.callC hΓc coreFact_ok rfl rfl rfl rfl rfl rfl rfl hou (by simp) ?_
    repeat' first | (with_reducible refine oj ?_; refine AOps.auto tabOk rfl ?_) | (with_reducible first | refine o1 ?_ | refine o2 ?_ | refine o3 ?_ | refine o4 ?_ | refine o5 ?_ | refine o6 ?_ | refine o7 ?_ | refine o8 ?_ | refine o9 ?_ | refine oa ?_ | refine ob ?_ | refine oc ?_ | refine od ?_ | refine oe ?_ | refine og ?_ | refine oh ?_ | refine oi ?_) | (with_reducible refine cExitMiss ?_ ?_; rfl) | (with_reducible refine ok ?_; first | refine ACode.condT rfl ?_ | refine ACode.condF rfl ?_) | (with_reducible refine oj ?_; first | refine AOps.step1 rfl rfl rfl (AStep.arith rfl rfl rfl (.inl ⟨rfl, rfl⟩) (inRange_i64 (by first | omega | (simp; omega)) (by first | omega | (simp; omega)))) ?_ | refine AOps.step1 rfl rfl rfl (AStep.arith rfl rfl rfl (.inr (.inl ⟨rfl, rfl⟩)) (inRange_i64 (by first | omega | (simp; omega)) (by first | omega | (simp; omega)))) ?_ | refine AOps.step1 rfl rfl rfl (AStep.neBool Tryd.underlying4 rfl rfl rfl) ?_ | refine AOps.step1 rfl rfl rfl (AStep.eqBool Tryd.underlying4 rfl rfl rfl) ?_ | refine AOps.step1 rfl rfl rfl (AStep.max2 (t := 3) (ty := 3) rfl rfl rfl) ?_ | refine AOps.step1 rfl rfl rfl (AStep.min2 (t := 3) (ty := 3) rfl rfl rfl) ?_ | refine AOps.unG rfl rfl rfl ?_)
    refine AOps.callC hΓc c4 rfl rfl rfl rfl rfl rfl rfl hou (by simp) ?_
    repeat' first | (with_reducible refine oj ?_; refine AOps.auto tabOk rfl ?_) | (with_reducible first | refine o1 ?_ | refine o2 ?_ | refine o3 ?_ | refine o4 ?_ | refine o5 ?_ | refine o6 ?_ | refine o7 ?_ | refine o8 ?_ | refine o9 ?_ | refine oa ?_ | refine ob ?_ | refine oc ?_ | refine od ?_ | refine oe ?_ | refine og ?_ | refine oh ?_ | refine oi ?_) | (with_reducible refine cExitMiss ?_ ?_; rfl) | (with_reducible refine ok ?_; first | refine ACode.condT rfl ?_ | refine ACode.condF rfl ?_) | (with_reducible refine oj ?_; first | refine AOps.step1 rfl rfl rfl (AStep.arith rfl rfl rfl (.inl ⟨rfl, rfl⟩) (inRange_i64 (by first | omega | (simp; omega)) (by first | omega | (simp; omega)))) ?_ | refine AOps.step1 rfl rfl rfl (AStep.arith rfl rfl rfl (.inr (.inl ⟨rfl, rfl⟩)) (inRange_i64 (by first | omega | (simp; omega)) (by first | omega | (simp; omega)))) ?_ | refine AOps.step1 rfl rfl rfl (AStep.neBool Tryd.underlying4 rfl rfl rfl) ?_ | refine AOps.step1 rfl rfl rfl (AStep.eqBool Tryd.underlying4 rfl rfl rfl) ?_ | refine AOps.step1 rfl rfl rfl (AStep.max2 (t := 3) (ty := 3) rfl rfl rfl) ?_ | refine AOps.step1 rfl rfl rfl (AStep.min2 (t := 3) (ty := 3) rfl rfl rfl) ?_ | refine AOps.unG rfl rfl rfl ?_)
    refine AOps.callC hΓc c3 rfl rfl rfl rfl rfl rfl rfl hou (by simp) ?_
    repeat' first | (with_reducible refine oj ?_; refine AOps.auto tabOk rfl ?_) | (with_reducible first | refine o1 ?_ | refine o2 ?_ | refine o3 ?_ | refine o4 ?_ | refine o5 ?_ | refine o6 ?_ | refine o7 ?_ | refine o8 ?_ | refine o9 ?_ | refine oa ?_ | refine ob ?_ | refine oc ?_ | refine od ?_ | refine oe ?_ | refine og ?_ | refine oh ?_ | refine oi ?_) | (with_reducible refine cExitMiss ?_ ?_; rfl) | (with_reducible refine ok ?_; first | refine ACode.condT rfl ?_ | refine ACode.condF rfl ?_) | (with_reducible refine oj ?_; first | refine AOps.step1 rfl rfl rfl (AStep.arith rfl rfl rfl (.inl ⟨rfl, rfl⟩) (inRange_i64 (by first | omega | (simp; omega)) (by first | omega | (simp; omega)))) ?_ | refine AOps.step1 rfl rfl rfl (AStep.arith rfl rfl rfl (.inr (.inl ⟨rfl, rfl⟩)) (inRange_i64 (by first | omega | (simp; omega)) (by first | omega | (simp; omega)))) ?_ | refine AOps.step1 rfl rfl rfl (AStep.neBool Tryd.underlying4 rfl rfl rfl) ?_ | refine AOps.step1 rfl rfl rfl (AStep.eqBool Tryd.underlying4 rfl rfl rfl) ?_ | refine AOps.step1 rfl rfl rfl (AStep.max2 (t := 3) (ty := 3) rfl rfl rfl) ?_ | refine AOps.step1 rfl rfl rfl (AStep.min2 (t := 3) (ty := 3) rfl rfl rfl) ?_ | refine AOps.unG rfl rfl rfl ?_)
    refine APure.fin rfl (WkF.ofEq ?_) (by simp) hou rfl
    simp [hlen]
  · have ho : order e = ([], check e) := by unfold order; rw [if_pos h]
    rw [ho] at c1
    simp only at c1
    repeat first | (with_reducible refine oj ?_; refine AOps.auto tabOk rfl ?_) | (with_reducible first | refine o1 ?_ | refine o2 ?_ | refine o3 ?_ | refine o4 ?_ | refine o5 ?_ | refine o6 ?_ | refine o7 ?_ | refine o8 ?_ | refine o9 ?_ | refine oa ?_ | refine ob ?_ | refine oc ?_ | refine od ?_ | refine oe ?_ | refine og ?_ | refine oh ?_ | refine oi ?_) | (with_reducible refine cExitMiss ?_ ?_; rfl) | (with_reducible refine ok ?_; first | refine ACode.condT rfl ?_ | refine ACode.condF rfl ?_)
    refine AOps.callC hΓc c1 rfl rfl rfl rfl rfl rfl rfl hou (by simp) ?_
    repeat first | (with_reducible refine oj ?_; refine AOps.auto tabOk rfl ?_) | (with_reducible first | refine o1 ?_ | refine o2 ?_ | refine o3 ?_ | refine o4 ?_ | refine o5 ?_ | refine o6 ?_ | refine o7 ?_ | refine o8 ?_ | refine o9 ?_ | refine oa ?_ | refine ob ?_ | refine oc ?_ | refine od ?_ | refine oe ?_ | refine og ?_ | refine oh ?_ | refine oi ?_) | (with_reducible refine cExitMiss ?_ ?_; rfl) | (with_reducible refine ok ?_; first | refine ACode.condT rfl ?_ | refine ACode.condF rfl ?_)
    refine ACode.cond rfl (fun hb => ?_) (fun hb => absurd (by simpa using hb) h)
    repeat first | (with_reducible refine oj ?_; refine AOps.auto tabOk rfl ?_) | (with_reducible first | refine o1 ?_ | refine o2 ?_ | refine o3 ?_ | refine o4 ?_ | refine o5 ?_ | refine o6 ?_ | refine o7 ?_ | refine o8 ?_ | refine o9 ?_ | refine oa ?_ | refine ob ?_ | refine oc ?_ | refine od ?_ | refine oe ?_ | refine og ?_ | refine oh ?_ | refine oi ?_) | (with_reducible refine cExitMiss ?_ ?_; rfl) | (with_reducible refine ok ?_; first | refine ACode.condT rfl ?_ | refine ACode.condF rfl ?_)
    refine AOps.callC hΓc coreFact_ok rfl rfl rfl rfl rfl rfl rfl hou (by simp) ?_
    repeat' first | (with_reducible refine oj ?_; refine AOps.auto tabOk rfl ?_) | (with_reducible first | refine o1 ?_ | refine o2 ?_ | refine o3 ?_ | refine o4 ?_ | refine o5 ?_ | refine o6 ?_ | refine o7 ?_ | refine o8 ?_ | refine o9 ?_ | refine oa ?_ | refine ob ?_ | refine oc ?_ | refine od ?_ | refine oe ?_ | refine og ?_ | refine oh ?_ | refine oi ?_) | (with_reducible refine cExitMiss ?_ ?_; rfl) | (with_reducible refine ok ?_; first | refine ACode.condT rfl ?_ | refine ACode.condF rfl ?_) | (with_reducible refine oj ?_; first | refine AOps.step1 rfl rfl rfl (AStep.arith rfl rfl rfl (.inl ⟨rfl, rfl⟩) (inRange_i64 (by first | omega | (simp; omega)) (by first | omega | (simp; omega)))) ?_ | refine AOps.step1 rfl rfl rfl (AStep.arith rfl rfl rfl (.inr (.inl ⟨rfl, rfl⟩)) (inRange_i64 (by first | omega | (simp; omega)) (by first | omega | (simp; omega)))) ?_ | refine AOps.step1 rfl rfl rfl (AStep.neBool Tryd.underlying4 rfl rfl rfl) ?_ | refine AOps.step1 rfl rfl rfl (AStep.eqBool Tryd.underlying4 rfl rfl rfl) ?_ | refine AOps.step1 rfl rfl rfl (AStep.max2 (t := 3) (ty := 3) rfl rfl rfl) ?_ | refine AOps.step1 rfl rfl rfl (AStep.min2 (t := 3) (ty := 3) rfl rfl rfl) ?_ | refine AOps.unG rfl rfl rfl ?_)
    exact APure.fin rfl (WkF.ofEq rfl) (by simp) hou rfl
end Go.Proofs.YtnonkoeknpmcjaaDoor
/- What a row's reading gives: expressions as plain data, and what the bound on their bulk gives. -/
namespace Go.Proofs.YtnonkoeknpmcjaaDoor
open Go Go.Abs Go.CoreX
set_option maxRecDepth 10000
set_option linter.unusedVariables false
set_option linter.unusedSimpArgs false
theorem bulkAll_eq {H : Type} : ∀ l : List (DataW H), Rows.uptoBulkAll l = bulkAll Rows.uptoBulk l
  | [] => rfl
  | d :: l => by simp only [Rows.uptoBulkAll, bulkAll, List.map_cons, List.sum_cons] at *; rw [bulkAll_eq l]; rfl
theorem bulk_agg {H : Type} (l : List (DataW H)) : bulkAll Rows.uptoBulk l + 1 ≤ Rows.uptoBulk (.agg l) := by
  simp only [Rows.uptoBulk, bulkAll_eq]; omega
theorem bulk_slice {H : Type} (l r : List (DataW H)) : bulkAll Rows.uptoBulk l + 1 ≤ Rows.uptoBulk (.slice l r) := by
  simp only [Rows.uptoBulk, bulkAll_eq]; omega
theorem bulk_nil {H : Type} : 1 ≤ Rows.uptoBulk (DataW.nil : DataW H) := by simp [Rows.uptoBulk]
section
variable {H : Type} {enc : TypeId × Value → H} {w : World}
abbrev I64 := {i : Int // IntKind.i64.min ≤ i ∧ i ≤ IntKind.i64.max}
theorem opens_int (n : Nat) : Opens enc Tryd.prog w Rows.uptoBulk 3 n (fun i : I64 => [int i.1]) (fun _ => 1) := by
  intro cs x h
  obtain ⟨i, rfl, rfl, hw⟩ := DataW.trod_int Tryd.underlying3 h
  refine ⟨⟨i, ?_⟩, ⟨_, _, rfl, ⟨rfl, rfl⟩, rfl⟩, by simp [Rows.uptoBulk]⟩
  simpa [Lit.wf] using hw
theorem opens_slice {t e : TypeId} {s : Nat} (ht : Tryd.prog.underlying t = some (.slice e)) (hs : Tryd.prog.cellsOf e = s) (h0 : 0 < s) {α : Type} {c : α → List AC} {wt : α → Nat} (n : Nat) (he : ∀ m, m < n → Opens enc Tryd.prog w Rows.uptoBulk e m c wt) :
    Opens enc Tryd.prog w Rows.uptoBulk t n (fun l : List α => [.sl s (l.map c)]) (fun l => wtAll wt l + 1) := by
  cases n with
  | zero => exact Opens.zero
  | succ n => exact Opens.slice bulk_slice bulk_nil ht hs h0 (he n (by omega))
theorem wt_one {α : Type} (l : List α) : wtAll (fun _ => 1) l = l.length := by
  unfold wtAll
  induction l with
  | nil => rfl
  | cons a l ih => simp only [List.map_cons, List.sum_cons, List.length_cons, ih]; omega
/-- Lists of numbers, as they open. -/
theorem opens_ints (n : Nat) : Opens enc Tryd.prog w Rows.uptoBulk 30 n (fun l : List Int => [.sl 1 (l.map cI)]) (fun l => l.length + 1) := by
  refine Opens.as (opens_slice Tryd.underlying30 (s := 1) (by kernel_rfl) (by omega) n (fun m _ => opens_int m)) fun l => ⟨l.map (·.1), ?_, ?_⟩
  · simp only [List.map_map]; rfl
  · rw [wt_one]; simp
def bAlt (a : Alt) : Nat := a.binds.length + 3
def bAlts (l : List Alt) : Nat := (l.map bAlt).sum
def bEx (x : Ex) : Nat := x.binds.length + x.kids.length + bAlts x.alts + 6
def bExs (l : List Ex) : Nat := (l.map bEx).sum
theorem opensAlt (n : Nat) : Opens enc Tryd.prog w Rows.uptoBulk 63 n cAlt bAlt := by
  cases n with
  | zero => exact Opens.zero
  | succ n =>
    refine Opens.as (Opens.struct bulk_agg Tryd.underlying63 (.cons rfl (by kernel_rfl) (opens_int n) (fun _ => rfl) (.cons rfl (by kernel_rfl) (opens_ints n) (fun _ => rfl) (.nil _))) (fun _ => (show (2 : Nat) = _ by kernel_rfl))) ?_
    rintro ⟨i, l, _⟩
    exact ⟨⟨i.1, l⟩, rfl, by show l.length + 3 ≤ 1 + (l.length + 1 + 0) + 1; omega⟩
theorem opensEx (n : Nat) : Opens enc Tryd.prog w Rows.uptoBulk 35 n cEx bEx := by
  cases n with
  | zero => exact Opens.zero
  | succ n =>
    have ha := opens_slice (enc := enc) (w := w) (t := 33) Tryd.underlying33 (s := 2) (by kernel_rfl) (by omega) n (fun m _ => opensAlt m)
    refine Opens.as (Opens.struct bulk_agg Tryd.underlying35 (.cons rfl (by kernel_rfl) (opens_int n) (fun _ => rfl) (.cons rfl (by kernel_rfl) (opens_int n) (fun _ => rfl) (.cons rfl (by kernel_rfl) (opens_ints n) (fun _ => rfl) (.cons rfl (by kernel_rfl) (opens_ints n) (fun _ => rfl) (.cons rfl (by kernel_rfl) ha (fun _ => rfl) (.nil _)))))) (fun _ => (show (5 : Nat) = _ by kernel_rfl))) ?_
    rintro ⟨i, j, b, k, l, _⟩
    refine ⟨⟨i.1, j.1, b, k, l⟩, rfl, ?_⟩
    show b.length + k.length + bAlts l + 6 ≤ 1 + (1 + (b.length + 1 + (k.length + 1 + (wtAll bAlt l + 1 + 0)))) + 1
    have : wtAll bAlt l = bAlts l := rfl
    omega
theorem opensExs (n : Nat) : Opens enc Tryd.prog w Rows.uptoBulk 22 n (fun l : List Ex => [.sl 5 (l.map cEx)]) (fun l => bExs l + 1) :=
  opens_slice Tryd.underlying22 (s := 5) (by kernel_rfl) (by omega) n (fun m _ => opensEx m)
theorem rf_slice {t e : TypeId} {base : Nat} {r : Reach} {W : World} {v : Value} {C : Ctx} {c : AC} (ht : Tryd.prog.underlying t = some (.slice e)) (h : Value.okWide Tryd.prog W r base t v) (hr : RV W C [c] v.cells.toList) : RF W C (.one c) v := by
  obtain ⟨a, len, cap, rfl⟩ := WideShapes.okWide_slice ht h
  obtain ⟨u, us, he, h1, h2⟩ := hr
  simp [Value.cells] at he
  obtain ⟨rfl, rfl⟩ := he
  exact h1
end
theorem sum_mem {α : Type} {f : α → Nat} : ∀ {l : List α} {a : α}, a ∈ l → f a ≤ (l.map f).sum
  | b :: l, a, h => by
    simp only [List.map_cons, List.sum_cons]
    rcases List.mem_cons.1 h with rfl | h
    · omega
    · have := sum_mem (f := f) h; omega
theorem sum_len {α : Type} {f : α → Nat} (hf : ∀ a, 1 ≤ f a) : ∀ l : List α, l.length ≤ (l.map f).sum
  | [] => by simp
  | b :: l => by
    have h1 := hf b
    have h2 := sum_len hf l
    simp only [List.map_cons, List.sum_cons, List.length_cons]; omega
theorem bAlts_flat : ∀ l : List Alt, (l.flatMap (·.binds)).length ≤ bAlts l
  | [] => by simp [bAlts]
  | a :: l => by
    have := bAlts_flat l
    simp only [bAlts, bAlt, List.flatMap_cons, List.length_append, List.map_cons, List.sum_cons] at *
    omega
theorem okB_of {e : List Ex} (h : bExs e ≤ 1048576) : okB e := by
  have h1 := sum_len (f := bEx) (fun x => by simp only [bEx]; omega) e
  have hx : ∀ x ∈ e, bEx x ≤ 1048576 := fun x hx => by
    have h2 : bEx x ≤ bExs e := sum_mem hx
    omega
  have h1' : e.length ≤ bExs e := h1
  refine ⟨⟨by omega, fun x hx1 => ?_⟩, fun x hx1 => ?_⟩
  · have h2 := hx x hx1
    simp only [bEx] at h2
    have h3 := sum_len (f := bAlt) (fun a => by simp only [bAlt]; omega) x.alts
    have h3' : x.alts.length ≤ bAlts x.alts := h3
    refine ⟨by omega, by omega, by omega, fun a ha => ?_⟩
    have h4 : bAlt a ≤ bAlts x.alts := sum_mem ha
    simp only [bAlt] at h4
    omega
  · have h2 := hx x hx1
    simp only [bEx] at h2
    have h3 := bAlts_flat x.alts
    omega
theorem arity_cells {W : World} (h : laidMetH Tryd.prog [("provenance/core.arity", Rows.laid_provenance_core_arity)] W) : ∀ g cs, (g, cs) ∈ Γc → RG W (ctx0 W) cs g := by
  have ht : Lib.TabIs Tryd.prog W "provenance/core.arity" .i64 [2, 2, 2, 2, 2, 2, 2, 1, 2, 1, 2, 3] :=
    Lib.tabIs_of_head (rest := []) (g := 0) (t := 137) (n := 12) (by kernel_rfl) (by kernel_rfl) (by kernel_rfl) Tryd.underlying3 (by kernel_rfl) (by kernel_rfl) h
  have hg : Tryd.prog.globalNamed "provenance/core.arity" = some 0 := by kernel_rfl
  intro g cs hm
  simp [Γc] at hm
  obtain ⟨rfl, rfl⟩ := hm
  exact RG.ofVar hg ht rfl
end Go.Proofs.YtnonkoeknpmcjaaDoor
