/- typeError: what it computes. -/
import Derived.Test.YtoojdmgbffnmiaaDoorB6
namespace Go.Proofs.YtoojdmgbffnmiaaDoor
open Go Go.Abs
set_option maxRecDepth 10000
set_option linter.unusedVariables false
set_option linter.unusedSimpArgs false
/-- The program's table of arities, and nothing else, is known. -/
def arCells : List AC := [int 0, int (-1), int 3, int 1, int 0, int 2]
def Γ0 : List (Nat × List AC) := [(1, arCells)]
theorem hΓ0 : ∀ g cs, (g, cs) ∈ Γ0 → idsL isO cs := by
  intro g cs h
  simp [Γ0] at h
  obtain ⟨rfl, rfl⟩ := h
  simp [arCells]
def farB (s : Str) : Bool := (s.toList == (⟨#[]⟩ : Str).toList) || decide ((s.size : Int) > 200)
theorem far_ok (Γ : List (Nat × List AC)) (s : Str) : APure Tryd.prog Γ 78 [.one (str s)] (.one (.lit (.bool (farB s)))) := by
  intro ou
  refine AFn.walk 10 tabOk Tryd.func78 rfl (by kernel_rfl) rfl rfl fun hou => ?_
  repeat' first | (with_reducible refine oj ?_; refine AOps.auto tabOk rfl ?_) | (with_reducible first | refine o1 ?_ | refine o2 ?_ | refine o3 ?_ | refine o4 ?_ | refine o5 ?_ | refine o6 ?_ | refine o7 ?_ | refine o8 ?_ | refine o9 ?_ | refine oa ?_ | refine ob ?_ | refine oc ?_ | refine od ?_ | refine oe ?_ | refine og ?_ | refine oh ?_ | refine oi ?_) | (with_reducible refine cExitMiss ?_ ?_; rfl) | (with_reducible refine ok ?_; first | refine ACode.condT rfl ?_ | refine ACode.condF rfl ?_) | (with_reducible refine oj ?_; refine AOps.splitS rfl rfl rfl rfl (fun hb => ?_) (fun hb => ?_)) | (with_reducible refine ok ?_; refine ACode.cond rfl (fun hb => ?_) (fun hb => ?_))
  · exact APure.fin rfl (by rw [farB, hb]; exact WkF.refl _) trivial hou rfl
  · exact APure.fin rfl (by rw [farB, hb]; exact WkF.refl _) trivial hou rfl
def arOf (k : Int) : Int := if k = 0 then 0 else if k = 1 then -1 else if k = 2 then 3 else if k = 3 then 1 else if k = 4 then 0 else 2
mutual
def typErr (vars deep : Int) : Ty → Int
  | .mk k n v us => if 30 < deep then 2 else if k < 0 ∨ 5 < k ∨ (0 ≤ arOf k ∧ (us.length : Int) ≠ arOf k) ∨ 8 < us.length then 3
      else if k = 0 ∧ (v < 0 ∨ vars ≤ v) then 4 else if (k = 1 ∨ k = 5) ∧ farB n = true then 3 else typErrs vars (deep + 1) us
def typErrs (vars deep : Int) : List Ty → Int
  | [] => 0
  | t :: ts => if typErr vars deep t ≠ 0 then typErr vars deep t else typErrs vars deep ts
end
theorem typErrs_eq (vars deep : Int) : ∀ l : List Ty, typErrs vars deep l = firstErr (typErr vars deep) l
  | [] => rfl
  | t :: ts => by simp only [typErrs, firstErr, typErrs_eq vars deep ts]
theorem typeError_ok (vars : Int) : ∀ (t : Ty) (ht : smallTy t) (deep : Int) (hd0 : 0 ≤ deep) (hd1 : deep ≤ 100), APure Tryd.prog Γ0 63 [.agg (cTy t), .one (int vars), .one (int deep)] (.one (int (typErr vars deep t)))
  | .mk k n v ts, ht, deep, hd0, hd1 => by
    have ih : ∀ a ∈ ts, ∀ (dp : Int), 0 ≤ dp → dp ≤ 100 → APure Tryd.prog Γ0 63 [.agg (cTy a), .one (int vars), .one (int dp)] (.one (int (typErr vars dp a))) := fun a ha dp h0 h1 =>
      typeError_ok vars a (smallTys_iff.1 ht.2 a ha) dp h0 h1
    have hlen := ht.1
    intro ou
    refine AFn.walk 90 tabOk Tryd.func63 rfl (by kernel_rfl) rfl rfl fun hou => ?_
    repeat first | (with_reducible refine oj ?_; refine AOps.auto tabOk rfl ?_) | (with_reducible first | refine o1 ?_ | refine o2 ?_ | refine o3 ?_ | refine o4 ?_ | refine o5 ?_ | refine o6 ?_ | refine o7 ?_ | refine o8 ?_ | refine o9 ?_ | refine oa ?_ | refine ob ?_ | refine oc ?_ | refine od ?_ | refine oe ?_ | refine og ?_ | refine oh ?_ | refine oi ?_) | (with_reducible refine cExitMiss ?_ ?_; rfl) | (with_reducible refine ok ?_; first | refine ACode.condT rfl ?_ | refine ACode.condF rfl ?_)
    refine ACode.cond rfl (fun hb => ?_) (fun hb => ?_)
    · have hd : 30 < deep := by simpa using hb
      repeat first | (with_reducible refine oj ?_; refine AOps.auto tabOk rfl ?_) | (with_reducible first | refine o1 ?_ | refine o2 ?_ | refine o3 ?_ | refine o4 ?_ | refine o5 ?_ | refine o6 ?_ | refine o7 ?_ | refine o8 ?_ | refine o9 ?_ | refine oa ?_ | refine ob ?_ | refine oc ?_ | refine od ?_ | refine oe ?_ | refine og ?_ | refine oh ?_ | refine oi ?_) | (with_reducible refine cExitMiss ?_ ?_; rfl) | (with_reducible refine ok ?_; first | refine ACode.condT rfl ?_ | refine ACode.condF rfl ?_)
      refine APure.fin rfl (WkF.ofEq ?_) (by simp) hou rfl
      simp [typErr, hd]
    · have hd : ¬ 30 < deep := by simpa using hb
      have bad : (k < 0 ∨ 5 < k ∨ (0 ≤ arOf k ∧ (ts.length : Int) ≠ arOf k) ∨ 8 < ts.length) → typErr vars deep (.mk k n v ts) = 3 := fun h => by simp only [typErr, if_neg hd, if_pos h]
      repeat first | (with_reducible refine oj ?_; refine AOps.auto tabOk rfl ?_) | (with_reducible first | refine o1 ?_ | refine o2 ?_ | refine o3 ?_ | refine o4 ?_ | refine o5 ?_ | refine o6 ?_ | refine o7 ?_ | refine o8 ?_ | refine o9 ?_ | refine oa ?_ | refine ob ?_ | refine oc ?_ | refine od ?_ | refine oe ?_ | refine og ?_ | refine oh ?_ | refine oi ?_) | (with_reducible refine cExitMiss ?_ ?_; rfl) | (with_reducible refine ok ?_; first | refine ACode.condT rfl ?_ | refine ACode.condF rfl ?_)
      by_cases hk0 : k < 0
      · refine ACode.drawX tabOk 31 [(2, .one (.lit (.bool true)))] follows (by kernel_rfl) rfl rfl rfl rfl ?_ ?_
        · refine .step rfl (HStep.litB tabOk rfl ?_) .nil
          exact decide_eq_true hk0
        repeat first | (with_reducible refine oj ?_; refine AOps.auto tabOk rfl ?_) | (with_reducible first | refine o1 ?_ | refine o2 ?_ | refine o3 ?_ | refine o4 ?_ | refine o5 ?_ | refine o6 ?_ | refine o7 ?_ | refine o8 ?_ | refine o9 ?_ | refine oa ?_ | refine ob ?_ | refine oc ?_ | refine od ?_ | refine oe ?_ | refine og ?_ | refine oh ?_ | refine oi ?_) | (with_reducible refine cExitMiss ?_ ?_; rfl) | (with_reducible refine ok ?_; first | refine ACode.condT rfl ?_ | refine ACode.condF rfl ?_)
        refine APure.fin rfl (WkF.ofEq ?_) (by simp) hou rfl
        rw [bad (.inl hk0)]
      by_cases hk5 : 5 < k
      · refine ACode.drawX tabOk 31 [(2, .one (.lit (.bool false))), (6, .one (.lit (.bool true)))] follows (by kernel_rfl) rfl rfl rfl rfl ?_ ?_
        · refine .step rfl (HStep.litB tabOk rfl ?_) ?_
          · exact decide_eq_false hk0
          refine .step rfl (HStep.litB tabOk rfl ?_) .nil
          exact decide_eq_true hk5
        repeat first | (with_reducible refine oj ?_; refine AOps.auto tabOk rfl ?_) | (with_reducible first | refine o1 ?_ | refine o2 ?_ | refine o3 ?_ | refine o4 ?_ | refine o5 ?_ | refine o6 ?_ | refine o7 ?_ | refine o8 ?_ | refine o9 ?_ | refine oa ?_ | refine ob ?_ | refine oc ?_ | refine od ?_ | refine oe ?_ | refine og ?_ | refine oh ?_ | refine oi ?_) | (with_reducible refine cExitMiss ?_ ?_; rfl) | (with_reducible refine ok ?_; first | refine ACode.condT rfl ?_ | refine ACode.condF rfl ?_)
        refine APure.fin rfl (WkF.ofEq ?_) (by simp) hou rfl
        rw [bad (.inr (.inl hk5))]
      have hk6 : k = 0 ∨ k = 1 ∨ k = 2 ∨ k = 3 ∨ k = 4 ∨ k = 5 := by omega
      rcases hk6 with rfl | rfl | rfl | rfl | rfl | rfl
      · by_cases hn : (ts.length : Int) = 0
        · refine ACode.drawX tabOk 31 [(2, .one (.lit (.bool false))), (6, .one (.lit (.bool false))), (11, .one (.box (arCells.drop 0))), (13, .one (.lit (.bool true))), (20, .one (.box (arCells.drop 0))), (22, .one (.lit (.bool false))), (29, .one (.lit (.bool false)))] follows (by kernel_rfl) rfl rfl rfl rfl ?_ ?_
          · refine .step rfl (HStep.litB tabOk rfl ?_) ?_
            · (first | (exact decide_eq_false (by simp; omega)) | (exact decide_eq_true (by simp; omega)) | (simp; omega) | (simp; done) | (simpa using hn))
            refine .step rfl (HStep.litB tabOk rfl ?_) ?_
            · (first | (exact decide_eq_false (by simp; omega)) | (exact decide_eq_true (by simp; omega)) | (simp; omega) | (simp; done) | (simpa using hn))
            refine .step rfl (HStep.guarded rfl rfl rfl (AStep.indexArr (cs := arCells) (n := 0) (ti := ti121) (tj := ti3) tabOk rfl rfl rfl rfl rfl rfl ?_ ?_)) ?_
            · decide
            · decide
            refine .step rfl (HStep.litB tabOk rfl ?_) ?_
            · (first | (exact decide_eq_false (by simp; omega)) | (exact decide_eq_true (by simp; omega)) | (simp; omega) | (simp; done) | (simpa using hn))
            refine .step rfl (HStep.guarded rfl rfl rfl (AStep.indexArr (cs := arCells) (n := 0) (ti := ti121) (tj := ti3) tabOk rfl rfl rfl rfl rfl rfl ?_ ?_)) ?_
            · decide
            · decide
            refine .step rfl (HStep.litB tabOk rfl ?_) ?_
            · (first | (exact decide_eq_false (by simp; omega)) | (exact decide_eq_true (by simp; omega)) | (simp; omega) | (simp; done) | (simpa using hn))
            refine .step rfl (HStep.litB tabOk rfl ?_) .nil
            (first | (exact decide_eq_false (by simp; omega)) | (exact decide_eq_true (by simp; omega)) | (simp; omega) | (simp; done) | (simpa using hn))
          have hgood : ¬ (((0 : Int) < 0 ∨ (5 : Int) < 0 ∨ (0 ≤ arOf 0 ∧ (ts.length : Int) ≠ arOf 0) ∨ 8 < ts.length)) := by
            have : arOf 0 = 0 := by decide
            rw [this]; omega
          repeat first | (with_reducible refine oj ?_; refine AOps.auto tabOk rfl ?_) | (with_reducible first | refine o1 ?_ | refine o2 ?_ | refine o3 ?_ | refine o4 ?_ | refine o5 ?_ | refine o6 ?_ | refine o7 ?_ | refine o8 ?_ | refine o9 ?_ | refine oa ?_ | refine ob ?_ | refine oc ?_ | refine od ?_ | refine oe ?_ | refine og ?_ | refine oh ?_ | refine oi ?_) | (with_reducible refine cExitMiss ?_ ?_; rfl) | (with_reducible refine ok ?_; first | refine ACode.condT rfl ?_ | refine ACode.condF rfl ?_)
          refine AOps.splitG rfl rfl rfl (fun hv => ?_) (fun hv => ?_)
          · have hv' : v < 0 := of_decide_eq_true hv
            repeat first | (with_reducible refine oj ?_; refine AOps.auto tabOk rfl ?_) | (with_reducible first | refine o1 ?_ | refine o2 ?_ | refine o3 ?_ | refine o4 ?_ | refine o5 ?_ | refine o6 ?_ | refine o7 ?_ | refine o8 ?_ | refine o9 ?_ | refine oa ?_ | refine ob ?_ | refine oc ?_ | refine od ?_ | refine oe ?_ | refine og ?_ | refine oh ?_ | refine oi ?_) | (with_reducible refine cExitMiss ?_ ?_; rfl) | (with_reducible refine ok ?_; first | refine ACode.condT rfl ?_ | refine ACode.condF rfl ?_)
            refine APure.fin rfl (WkF.ofEq ?_) (by simp) hou rfl
            simp only [typErr, if_neg hd, if_neg hgood]; simp [hv']
          · have hv' : ¬ v < 0 := of_decide_eq_false hv
            repeat first | (with_reducible refine oj ?_; refine AOps.auto tabOk rfl ?_) | (with_reducible first | refine o1 ?_ | refine o2 ?_ | refine o3 ?_ | refine o4 ?_ | refine o5 ?_ | refine o6 ?_ | refine o7 ?_ | refine o8 ?_ | refine o9 ?_ | refine oa ?_ | refine ob ?_ | refine oc ?_ | refine od ?_ | refine oe ?_ | refine og ?_ | refine oh ?_ | refine oi ?_) | (with_reducible refine cExitMiss ?_ ?_; rfl) | (with_reducible refine ok ?_; first | refine ACode.condT rfl ?_ | refine ACode.condF rfl ?_)
            refine ACode.cond rfl (fun hw => ?_) (fun hw => ?_)
            · have hw' : vars ≤ v := of_decide_eq_true hw
              repeat first | (with_reducible refine oj ?_; refine AOps.auto tabOk rfl ?_) | (with_reducible first | refine o1 ?_ | refine o2 ?_ | refine o3 ?_ | refine o4 ?_ | refine o5 ?_ | refine o6 ?_ | refine o7 ?_ | refine o8 ?_ | refine o9 ?_ | refine oa ?_ | refine ob ?_ | refine oc ?_ | refine od ?_ | refine oe ?_ | refine og ?_ | refine oh ?_ | refine oi ?_) | (with_reducible refine cExitMiss ?_ ?_; rfl) | (with_reducible refine ok ?_; first | refine ACode.condT rfl ?_ | refine ACode.condF rfl ?_)
              refine APure.fin rfl (WkF.ofEq ?_) (by simp) hou rfl
              simp only [typErr, if_neg hd, if_neg hgood]; simp [hw']
            · have hw' : ¬ vars ≤ v := of_decide_eq_false hw
              have hval : typErr vars deep (.mk 0 n v ts) = firstErr (typErr vars (deep + 1)) ts := by
                simp only [typErr, if_neg hd, if_neg hgood, typErrs_eq]
                rw [if_neg (by omega), if_neg (by omega)]
              repeat first | (with_reducible refine oj ?_; refine AOps.auto tabOk rfl ?_) | (with_reducible first | refine o1 ?_ | refine o2 ?_ | refine o3 ?_ | refine o4 ?_ | refine o5 ?_ | refine o6 ?_ | refine o7 ?_ | refine o8 ?_ | refine o9 ?_ | refine oa ?_ | refine ob ?_ | refine oc ?_ | refine od ?_ | refine oe ?_ | refine og ?_ | refine oh ?_ | refine oi ?_) | (with_reducible refine cExitMiss ?_ ?_; rfl) | (with_reducible refine ok ?_; first | refine ACode.condT rfl ?_ | refine ACode.condF rfl ?_)
              refine ACode.loopR hΓ0 (α := Nat) (fun j => [(77, .one (int j)), (76, .one (int (encTys ts).length)), (75, .one (.sl 4 (encTys ts))), (2, .one (int deep)), (1, .one (int vars))])
                (fun j => ⟨0, [], ou⟩) (fun m j => j ≤ ts.length ∧ (∀ x ∈ ts.take j, typErr vars (deep + 1) x = 0) ∧ m = ts.length - j) (a0 := 0) (ρ := id) ⟨by omega, by simp, rfl⟩ (LessR.of rfl (by (repeat' first | exact FrSub.nil | refine FrSub.cons rfl (.ofEq rfl) ?_ | refine FrSub.consP rfl (.ofEq rfl) (by simp) ?_)) (by simp) (by repeat' first | exact LoSub.nil | refine LoSub.cons rfl ?_ rfl (by simp) ?_ | rfl | (refine (AObj.ren_pure _ _ ?_).symm; simp; done) | (simp [AObj.ren, renL, AC.ren, cTy]; done) | (simp [AObj.ren, renL, AC.ren, cTy]; rfl)) rfl rfl hou) fun m j hj => ?_
              obtain ⟨hjl, hno, rfl⟩ := hj
              repeat first | (with_reducible refine oj ?_; refine AOps.auto tabOk rfl ?_) | (with_reducible first | refine o1 ?_ | refine o2 ?_ | refine o3 ?_ | refine o4 ?_ | refine o5 ?_ | refine o6 ?_ | refine o7 ?_ | refine o8 ?_ | refine o9 ?_ | refine oa ?_ | refine ob ?_ | refine oc ?_ | refine od ?_ | refine oe ?_ | refine og ?_ | refine oh ?_ | refine oi ?_) | (with_reducible refine cExitMiss ?_ ?_; rfl) | (with_reducible refine ok ?_; first | refine ACode.condT rfl ?_ | refine ACode.condF rfl ?_)
              refine ACode.cond rfl (fun hb2 => ?_) (fun hb2 => ?_)
              · have hlt : j < ts.length := by simpa using hb2
                obtain ⟨a, ha⟩ := get_of_lt hlt
                have hca := ih a (List.mem_of_getElem? ha) (deep + 1) (by omega) (by omega)
                repeat first | (with_reducible refine oj ?_; refine AOps.auto tabOk rfl ?_) | (with_reducible first | refine o1 ?_ | refine o2 ?_ | refine o3 ?_ | refine o4 ?_ | refine o5 ?_ | refine o6 ?_ | refine o7 ?_ | refine o8 ?_ | refine o9 ?_ | refine oa ?_ | refine ob ?_ | refine oc ?_ | refine od ?_ | refine oe ?_ | refine og ?_ | refine oh ?_ | refine oi ?_) | (with_reducible refine cExitMiss ?_ ?_; rfl) | (with_reducible refine ok ?_; first | refine ACode.condT rfl ?_ | refine ACode.condF rfl ?_)
                refine AOps.step1 rfl rfl rfl (AStep.indexAddr tabOk rfl rfl rfl rfl rfl rfl (.inl rfl) rfl (by omega) (encTys_get ha)) ?_
                repeat first | (with_reducible refine oj ?_; refine AOps.auto tabOk rfl ?_) | (with_reducible first | refine o1 ?_ | refine o2 ?_ | refine o3 ?_ | refine o4 ?_ | refine o5 ?_ | refine o6 ?_ | refine o7 ?_ | refine o8 ?_ | refine o9 ?_ | refine oa ?_ | refine ob ?_ | refine oc ?_ | refine od ?_ | refine oe ?_ | refine og ?_ | refine oh ?_ | refine oi ?_) | (with_reducible refine cExitMiss ?_ ?_; rfl) | (with_reducible refine ok ?_; first | refine ACode.condT rfl ?_ | refine ACode.condF rfl ?_)
                refine AOps.step1 rfl rfl rfl (AStep.arith rfl rfl rfl (.inl ⟨rfl, rfl⟩) (inRange_i64 (by omega) (by omega))) ?_
                repeat first | (with_reducible refine oj ?_; refine AOps.auto tabOk rfl ?_) | (with_reducible first | refine o1 ?_ | refine o2 ?_ | refine o3 ?_ | refine o4 ?_ | refine o5 ?_ | refine o6 ?_ | refine o7 ?_ | refine o8 ?_ | refine o9 ?_ | refine oa ?_ | refine ob ?_ | refine oc ?_ | refine od ?_ | refine oe ?_ | refine og ?_ | refine oh ?_ | refine oi ?_) | (with_reducible refine cExitMiss ?_ ?_; rfl) | (with_reducible refine ok ?_; first | refine ACode.condT rfl ?_ | refine ACode.condF rfl ?_)
                refine AOps.callC hΓ0 hca rfl rfl rfl rfl rfl rfl rfl hou (by simp) ?_
                repeat first | (with_reducible refine oj ?_; refine AOps.auto tabOk rfl ?_) | (with_reducible first | refine o1 ?_ | refine o2 ?_ | refine o3 ?_ | refine o4 ?_ | refine o5 ?_ | refine o6 ?_ | refine o7 ?_ | refine o8 ?_ | refine o9 ?_ | refine oa ?_ | refine ob ?_ | refine oc ?_ | refine od ?_ | refine oe ?_ | refine og ?_ | refine oh ?_ | refine oi ?_) | (with_reducible refine cExitMiss ?_ ?_; rfl) | (with_reducible refine ok ?_; first | refine ACode.condT rfl ?_ | refine ACode.condF rfl ?_)
                refine ACode.cond rfl (fun hb3 => ?_) (fun hb3 => ?_)
                · have hne : typErr vars (deep + 1) a ≠ 0 := by simpa using hb3
                  repeat first | (with_reducible refine oj ?_; refine AOps.auto tabOk rfl ?_) | (with_reducible first | refine o1 ?_ | refine o2 ?_ | refine o3 ?_ | refine o4 ?_ | refine o5 ?_ | refine o6 ?_ | refine o7 ?_ | refine o8 ?_ | refine o9 ?_ | refine oa ?_ | refine ob ?_ | refine oc ?_ | refine od ?_ | refine oe ?_ | refine og ?_ | refine oh ?_ | refine oi ?_) | (with_reducible refine cExitMiss ?_ ?_; rfl) | (with_reducible refine ok ?_; first | refine ACode.condT rfl ?_ | refine ACode.condF rfl ?_)
                  refine APure.fin rfl (WkF.ofEq ?_) (by simp) hou rfl
                  have := firstErr_at hno ha hne
                  rw [hval, this]
                · have hz : typErr vars (deep + 1) a = 0 := by simpa using hb3
                  repeat first | (with_reducible refine oj ?_; refine AOps.auto tabOk rfl ?_) | (with_reducible first | refine o1 ?_ | refine o2 ?_ | refine o3 ?_ | refine o4 ?_ | refine o5 ?_ | refine o6 ?_ | refine o7 ?_ | refine o8 ?_ | refine o9 ?_ | refine oa ?_ | refine ob ?_ | refine oc ?_ | refine od ?_ | refine oe ?_ | refine og ?_ | refine oh ?_ | refine oi ?_) | (with_reducible refine cExitMiss ?_ ?_; rfl) | (with_reducible refine ok ?_; first | refine ACode.condT rfl ?_ | refine ACode.condF rfl ?_)
                  refine AOps.step1 rfl rfl rfl (AStep.arith rfl rfl rfl (.inl ⟨rfl, rfl⟩) (inRange_i64 (by omega) (by omega))) ?_
                  repeat first | (with_reducible refine oj ?_; refine AOps.auto tabOk rfl ?_) | (with_reducible first | refine o1 ?_ | refine o2 ?_ | refine o3 ?_ | refine o4 ?_ | refine o5 ?_ | refine o6 ?_ | refine o7 ?_ | refine o8 ?_ | refine o9 ?_ | refine oa ?_ | refine ob ?_ | refine oc ?_ | refine od ?_ | refine oe ?_ | refine og ?_ | refine oh ?_ | refine oi ?_) | (with_reducible refine cExitMiss ?_ ?_; rfl) | (with_reducible refine ok ?_; first | refine ACode.condT rfl ?_ | refine ACode.condF rfl ?_)
                  exact cInv ⟨ts.length - (j + 1), j + 1, id, by omega, ⟨by omega, take_all hno ha hz, rfl⟩, LessR.of rfl (by (repeat' first | exact FrSub.nil | refine FrSub.cons rfl (.ofEq rfl) ?_ | refine FrSub.consP rfl (.ofEq rfl) (by simp) ?_)) (by simp) (by repeat' first | exact LoSub.nil | refine LoSub.cons rfl ?_ rfl (by simp) ?_ | rfl | (refine (AObj.ren_pure _ _ ?_).symm; simp; done) | (simp [AObj.ren, renL, AC.ren, cTy]; done) | (simp [AObj.ren, renL, AC.ren, cTy]; rfl)) rfl rfl hou⟩
              · have hlt : j = ts.length := by simp at hb2; omega
                subst hlt
                rw [List.take_length] at hno
                have := firstErr_all hno
                repeat first | (with_reducible refine oj ?_; refine AOps.auto tabOk rfl ?_) | (with_reducible first | refine o1 ?_ | refine o2 ?_ | refine o3 ?_ | refine o4 ?_ | refine o5 ?_ | refine o6 ?_ | refine o7 ?_ | refine o8 ?_ | refine o9 ?_ | refine oa ?_ | refine ob ?_ | refine oc ?_ | refine od ?_ | refine oe ?_ | refine og ?_ | refine oh ?_ | refine oi ?_) | (with_reducible refine cExitMiss ?_ ?_; rfl) | (with_reducible refine ok ?_; first | refine ACode.condT rfl ?_ | refine ACode.condF rfl ?_)
                refine APure.fin rfl (WkF.ofEq ?_) (by simp) hou rfl
                rw [hval, this]
        · refine ACode.drawX tabOk 31 [(2, .one (.lit (.bool false))), (6, .one (.lit (.bool false))), (11, .one (.box (arCells.drop 0))), (13, .one (.lit (.bool true))), (20, .one (.box (arCells.drop 0))), (22, .one (.lit (.bool true)))] follows (by kernel_rfl) rfl rfl rfl rfl ?_ ?_
          · refine .step rfl (HStep.litB tabOk rfl ?_) ?_
            · (first | (exact decide_eq_false (by simp; omega)) | (exact decide_eq_true (by simp; omega)) | (simp; omega) | (simp; done) | (simpa using hn))
            refine .step rfl (HStep.litB tabOk rfl ?_) ?_
            · (first | (exact decide_eq_false (by simp; omega)) | (exact decide_eq_true (by simp; omega)) | (simp; omega) | (simp; done) | (simpa using hn))
            refine .step rfl (HStep.guarded rfl rfl rfl (AStep.indexArr (cs := arCells) (n := 0) (ti := ti121) (tj := ti3) tabOk rfl rfl rfl rfl rfl rfl ?_ ?_)) ?_
            · decide
            · decide
            refine .step rfl (HStep.litB tabOk rfl ?_) ?_
            · (first | (exact decide_eq_false (by simp; omega)) | (exact decide_eq_true (by simp; omega)) | (simp; omega) | (simp; done) | (simpa using hn))
            refine .step rfl (HStep.guarded rfl rfl rfl (AStep.indexArr (cs := arCells) (n := 0) (ti := ti121) (tj := ti3) tabOk rfl rfl rfl rfl rfl rfl ?_ ?_)) ?_
            · decide
            · decide
            refine .step rfl (HStep.litB tabOk rfl ?_) .nil
            (first | (exact decide_eq_false (by simp; omega)) | (exact decide_eq_true (by simp; omega)) | (simp; omega) | (simp; done) | (simpa using hn))
          repeat first | (with_reducible refine oj ?_; refine AOps.auto tabOk rfl ?_) | (with_reducible first | refine o1 ?_ | refine o2 ?_ | refine o3 ?_ | refine o4 ?_ | refine o5 ?_ | refine o6 ?_ | refine o7 ?_ | refine o8 ?_ | refine o9 ?_ | refine oa ?_ | refine ob ?_ | refine oc ?_ | refine od ?_ | refine oe ?_ | refine og ?_ | refine oh ?_ | refine oi ?_) | (with_reducible refine cExitMiss ?_ ?_; rfl) | (with_reducible refine ok ?_; first | refine ACode.condT rfl ?_ | refine ACode.condF rfl ?_)
          refine APure.fin rfl (WkF.ofEq ?_) (by simp) hou rfl
          rw [bad (.inr (.inr (.inl ⟨by decide, hn⟩)))]
      · by_cases hn : 8 < ts.length
        · refine ACode.drawX tabOk 31 [(2, .one (.lit (.bool false))), (6, .one (.lit (.bool false))), (11, .one (.box (arCells.drop 1))), (13, .one (.lit (.bool false))), (29, .one (.lit (.bool true)))] follows (by kernel_rfl) rfl rfl rfl rfl ?_ ?_
          · refine .step rfl (HStep.litB tabOk rfl ?_) ?_
            · (first | (exact decide_eq_false (by simp; omega)) | (exact decide_eq_true (by simp; omega)) | (simp; omega) | (simp; done) | (simpa using hn))
            refine .step rfl (HStep.litB tabOk rfl ?_) ?_
            · (first | (exact decide_eq_false (by simp; omega)) | (exact decide_eq_true (by simp; omega)) | (simp; omega) | (simp; done) | (simpa using hn))
            refine .step rfl (HStep.guarded rfl rfl rfl (AStep.indexArr (cs := arCells) (n := 1) (ti := ti121) (tj := ti3) tabOk rfl rfl rfl rfl rfl rfl ?_ ?_)) ?_
            · decide
            · decide
            refine .step rfl (HStep.litB tabOk rfl ?_) ?_
            · (first | (exact decide_eq_false (by simp; omega)) | (exact decide_eq_true (by simp; omega)) | (simp; omega) | (simp; done) | (simpa using hn))
            refine .step rfl (HStep.litB tabOk rfl ?_) .nil
            (first | (exact decide_eq_false (by simp; omega)) | (exact decide_eq_true (by simp; omega)) | (simp; omega) | (simp; done) | (simpa using hn))
          repeat first | (with_reducible refine oj ?_; refine AOps.auto tabOk rfl ?_) | (with_reducible first | refine o1 ?_ | refine o2 ?_ | refine o3 ?_ | refine o4 ?_ | refine o5 ?_ | refine o6 ?_ | refine o7 ?_ | refine o8 ?_ | refine o9 ?_ | refine oa ?_ | refine ob ?_ | refine oc ?_ | refine od ?_ | refine oe ?_ | refine og ?_ | refine oh ?_ | refine oi ?_) | (with_reducible refine cExitMiss ?_ ?_; rfl) | (with_reducible refine ok ?_; first | refine ACode.condT rfl ?_ | refine ACode.condF rfl ?_)
          refine APure.fin rfl (WkF.ofEq ?_) (by simp) hou rfl
          rw [bad (.inr (.inr (.inr hn)))]
        · refine ACode.drawX tabOk 31 [(2, .one (.lit (.bool false))), (6, .one (.lit (.bool false))), (11, .one (.box (arCells.drop 1))), (13, .one (.lit (.bool false))), (29, .one (.lit (.bool false)))] follows (by kernel_rfl) rfl rfl rfl rfl ?_ ?_
          · refine .step rfl (HStep.litB tabOk rfl ?_) ?_
            · (first | (exact decide_eq_false (by simp; omega)) | (exact decide_eq_true (by simp; omega)) | (simp; omega) | (simp; done) | (simpa using hn))
            refine .step rfl (HStep.litB tabOk rfl ?_) ?_
            · (first | (exact decide_eq_false (by simp; omega)) | (exact decide_eq_true (by simp; omega)) | (simp; omega) | (simp; done) | (simpa using hn))
            refine .step rfl (HStep.guarded rfl rfl rfl (AStep.indexArr (cs := arCells) (n := 1) (ti := ti121) (tj := ti3) tabOk rfl rfl rfl rfl rfl rfl ?_ ?_)) ?_
            · decide
            · decide
            refine .step rfl (HStep.litB tabOk rfl ?_) ?_
            · (first | (exact decide_eq_false (by simp; omega)) | (exact decide_eq_true (by simp; omega)) | (simp; omega) | (simp; done) | (simpa using hn))
            refine .step rfl (HStep.litB tabOk rfl ?_) .nil
            (first | (exact decide_eq_false (by simp; omega)) | (exact decide_eq_true (by simp; omega)) | (simp; omega) | (simp; done) | (simpa using hn))
          have hgood : ¬ (((1 : Int) < 0 ∨ (5 : Int) < 1 ∨ (0 ≤ arOf 1 ∧ (ts.length : Int) ≠ arOf 1) ∨ 8 < ts.length)) := by
            have : arOf 1 = -1 := by decide
            rw [this]; omega
          repeat first | (with_reducible refine oj ?_; refine AOps.auto tabOk rfl ?_) | (with_reducible first | refine o1 ?_ | refine o2 ?_ | refine o3 ?_ | refine o4 ?_ | refine o5 ?_ | refine o6 ?_ | refine o7 ?_ | refine o8 ?_ | refine o9 ?_ | refine oa ?_ | refine ob ?_ | refine oc ?_ | refine od ?_ | refine oe ?_ | refine og ?_ | refine oh ?_ | refine oi ?_) | (with_reducible refine cExitMiss ?_ ?_; rfl) | (with_reducible refine ok ?_; first | refine ACode.condT rfl ?_ | refine ACode.condF rfl ?_)
          refine AOps.callG hΓ0 (far_ok Γ0 n) rfl rfl rfl rfl rfl rfl rfl rfl rfl hou (by simp) ?_
          repeat first | (with_reducible refine oj ?_; refine AOps.auto tabOk rfl ?_) | (with_reducible first | refine o1 ?_ | refine o2 ?_ | refine o3 ?_ | refine o4 ?_ | refine o5 ?_ | refine o6 ?_ | refine o7 ?_ | refine o8 ?_ | refine o9 ?_ | refine oa ?_ | refine ob ?_ | refine oc ?_ | refine od ?_ | refine oe ?_ | refine og ?_ | refine oh ?_ | refine oi ?_) | (with_reducible refine cExitMiss ?_ ?_; rfl) | (with_reducible refine ok ?_; first | refine ACode.condT rfl ?_ | refine ACode.condF rfl ?_)
          refine ACode.cond rfl (fun hw => ?_) (fun hw => ?_)
          · repeat first | (with_reducible refine oj ?_; refine AOps.auto tabOk rfl ?_) | (with_reducible first | refine o1 ?_ | refine o2 ?_ | refine o3 ?_ | refine o4 ?_ | refine o5 ?_ | refine o6 ?_ | refine o7 ?_ | refine o8 ?_ | refine o9 ?_ | refine oa ?_ | refine ob ?_ | refine oc ?_ | refine od ?_ | refine oe ?_ | refine og ?_ | refine oh ?_ | refine oi ?_) | (with_reducible refine cExitMiss ?_ ?_; rfl) | (with_reducible refine ok ?_; first | refine ACode.condT rfl ?_ | refine ACode.condF rfl ?_)
            refine APure.fin rfl (WkF.ofEq ?_) (by simp) hou rfl
            simp only [typErr, if_neg hd, if_neg hgood, hw]; simp
          · have hval : typErr vars deep (.mk 1 n v ts) = firstErr (typErr vars (deep + 1)) ts := by
              simp only [typErr, if_neg hd, if_neg hgood, typErrs_eq, hw]; simp
            repeat first | (with_reducible refine oj ?_; refine AOps.auto tabOk rfl ?_) | (with_reducible first | refine o1 ?_ | refine o2 ?_ | refine o3 ?_ | refine o4 ?_ | refine o5 ?_ | refine o6 ?_ | refine o7 ?_ | refine o8 ?_ | refine o9 ?_ | refine oa ?_ | refine ob ?_ | refine oc ?_ | refine od ?_ | refine oe ?_ | refine og ?_ | refine oh ?_ | refine oi ?_) | (with_reducible refine cExitMiss ?_ ?_; rfl) | (with_reducible refine ok ?_; first | refine ACode.condT rfl ?_ | refine ACode.condF rfl ?_)
            refine ACode.loopR hΓ0 (α := Nat) (fun j => [(77, .one (int j)), (76, .one (int (encTys ts).length)), (75, .one (.sl 4 (encTys ts))), (2, .one (int deep)), (1, .one (int vars))])
              (fun j => ⟨0, [], ou⟩) (fun m j => j ≤ ts.length ∧ (∀ x ∈ ts.take j, typErr vars (deep + 1) x = 0) ∧ m = ts.length - j) (a0 := 0) (ρ := id) ⟨by omega, by simp, rfl⟩ (LessR.of rfl (by (repeat' first | exact FrSub.nil | refine FrSub.cons rfl (.ofEq rfl) ?_ | refine FrSub.consP rfl (.ofEq rfl) (by simp) ?_)) (by simp) (by repeat' first | exact LoSub.nil | refine LoSub.cons rfl ?_ rfl (by simp) ?_ | rfl | (refine (AObj.ren_pure _ _ ?_).symm; simp; done) | (simp [AObj.ren, renL, AC.ren, cTy]; done) | (simp [AObj.ren, renL, AC.ren, cTy]; rfl)) rfl rfl hou) fun m j hj => ?_
            obtain ⟨hjl, hno, rfl⟩ := hj
            repeat first | (with_reducible refine oj ?_; refine AOps.auto tabOk rfl ?_) | (with_reducible first | refine o1 ?_ | refine o2 ?_ | refine o3 ?_ | refine o4 ?_ | refine o5 ?_ | refine o6 ?_ | refine o7 ?_ | refine o8 ?_ | refine o9 ?_ | refine oa ?_ | refine ob ?_ | refine oc ?_ | refine od ?_ | refine oe ?_ | refine og ?_ | refine oh ?_ | refine oi ?_) | (with_reducible refine cExitMiss ?_ ?_; rfl) | (with_reducible refine ok ?_; first | refine ACode.condT rfl ?_ | refine ACode.condF rfl ?_)
            refine ACode.cond rfl (fun hb2 => ?_) (fun hb2 => ?_)
            · have hlt : j < ts.length := by simpa using hb2
              obtain ⟨a, ha⟩ := get_of_lt hlt
              have hca := ih a (List.mem_of_getElem? ha) (deep + 1) (by omega) (by omega)
              repeat first | (with_reducible refine oj ?_; refine AOps.auto tabOk rfl ?_) | (with_reducible first | refine o1 ?_ | refine o2 ?_ | refine o3 ?_ | refine o4 ?_ | refine o5 ?_ | refine o6 ?_ | refine o7 ?_ | refine o8 ?_ | refine o9 ?_ | refine oa ?_ | refine ob ?_ | refine oc ?_ | refine od ?_ | refine oe ?_ | refine og ?_ | refine oh ?_ | refine oi ?_) | (with_reducible refine cExitMiss ?_ ?_; rfl) | (with_reducible refine ok ?_; first | refine ACode.condT rfl ?_ | refine ACode.condF rfl ?_)
              refine AOps.step1 rfl rfl rfl (AStep.indexAddr tabOk rfl rfl rfl rfl rfl rfl (.inl rfl) rfl (by omega) (encTys_get ha)) ?_
              repeat first | (with_reducible refine oj ?_; refine AOps.auto tabOk rfl ?_) | (with_reducible first | refine o1 ?_ | refine o2 ?_ | refine o3 ?_ | refine o4 ?_ | refine o5 ?_ | refine o6 ?_ | refine o7 ?_ | refine o8 ?_ | refine o9 ?_ | refine oa ?_ | refine ob ?_ | refine oc ?_ | refine od ?_ | refine oe ?_ | refine og ?_ | refine oh ?_ | refine oi ?_) | (with_reducible refine cExitMiss ?_ ?_; rfl) | (with_reducible refine ok ?_; first | refine ACode.condT rfl ?_ | refine ACode.condF rfl ?_)
              refine AOps.step1 rfl rfl rfl (AStep.arith rfl rfl rfl (.inl ⟨rfl, rfl⟩) (inRange_i64 (by omega) (by omega))) ?_
              repeat first | (with_reducible refine oj ?_; refine AOps.auto tabOk rfl ?_) | (with_reducible first | refine o1 ?_ | refine o2 ?_ | refine o3 ?_ | refine o4 ?_ | refine o5 ?_ | refine o6 ?_ | refine o7 ?_ | refine o8 ?_ | refine o9 ?_ | refine oa ?_ | refine ob ?_ | refine oc ?_ | refine od ?_ | refine oe ?_ | refine og ?_ | refine oh ?_ | refine oi ?_) | (with_reducible refine cExitMiss ?_ ?_; rfl) | (with_reducible refine ok ?_; first | refine ACode.condT rfl ?_ | refine ACode.condF rfl ?_)
              refine AOps.callC hΓ0 hca rfl rfl rfl rfl rfl rfl rfl hou (by simp) ?_
              repeat first | (with_reducible refine oj ?_; refine AOps.auto tabOk rfl ?_) | (with_reducible first | refine o1 ?_ | refine o2 ?_ | refine o3 ?_ | refine o4 ?_ | refine o5 ?_ | refine o6 ?_ | refine o7 ?_ | refine o8 ?_ | refine o9 ?_ | refine oa ?_ | refine ob ?_ | refine oc ?_ | refine od ?_ | refine oe ?_ | refine og ?_ | refine oh ?_ | refine oi ?_) | (with_reducible refine cExitMiss ?_ ?_; rfl) | (with_reducible refine ok ?_; first | refine ACode.condT rfl ?_ | refine ACode.condF rfl ?_)
              refine ACode.cond rfl (fun hb3 => ?_) (fun hb3 => ?_)
              · have hne : typErr vars (deep + 1) a ≠ 0 := by simpa using hb3
                repeat first | (with_reducible refine oj ?_; refine AOps.auto tabOk rfl ?_) | (with_reducible first | refine o1 ?_ | refine o2 ?_ | refine o3 ?_ | refine o4 ?_ | refine o5 ?_ | refine o6 ?_ | refine o7 ?_ | refine o8 ?_ | refine o9 ?_ | refine oa ?_ | refine ob ?_ | refine oc ?_ | refine od ?_ | refine oe ?_ | refine og ?_ | refine oh ?_ | refine oi ?_) | (with_reducible refine cExitMiss ?_ ?_; rfl) | (with_reducible refine ok ?_; first | refine ACode.condT rfl ?_ | refine ACode.condF rfl ?_)
                refine APure.fin rfl (WkF.ofEq ?_) (by simp) hou rfl
                have := firstErr_at hno ha hne
                rw [hval, this]
              · have hz : typErr vars (deep + 1) a = 0 := by simpa using hb3
                repeat first | (with_reducible refine oj ?_; refine AOps.auto tabOk rfl ?_) | (with_reducible first | refine o1 ?_ | refine o2 ?_ | refine o3 ?_ | refine o4 ?_ | refine o5 ?_ | refine o6 ?_ | refine o7 ?_ | refine o8 ?_ | refine o9 ?_ | refine oa ?_ | refine ob ?_ | refine oc ?_ | refine od ?_ | refine oe ?_ | refine og ?_ | refine oh ?_ | refine oi ?_) | (with_reducible refine cExitMiss ?_ ?_; rfl) | (with_reducible refine ok ?_; first | refine ACode.condT rfl ?_ | refine ACode.condF rfl ?_)
                refine AOps.step1 rfl rfl rfl (AStep.arith rfl rfl rfl (.inl ⟨rfl, rfl⟩) (inRange_i64 (by omega) (by omega))) ?_
                repeat first | (with_reducible refine oj ?_; refine AOps.auto tabOk rfl ?_) | (with_reducible first | refine o1 ?_ | refine o2 ?_ | refine o3 ?_ | refine o4 ?_ | refine o5 ?_ | refine o6 ?_ | refine o7 ?_ | refine o8 ?_ | refine o9 ?_ | refine oa ?_ | refine ob ?_ | refine oc ?_ | refine od ?_ | refine oe ?_ | refine og ?_ | refine oh ?_ | refine oi ?_) | (with_reducible refine cExitMiss ?_ ?_; rfl) | (with_reducible refine ok ?_; first | refine ACode.condT rfl ?_ | refine ACode.condF rfl ?_)
                exact cInv ⟨ts.length - (j + 1), j + 1, id, by omega, ⟨by omega, take_all hno ha hz, rfl⟩, LessR.of rfl (by (repeat' first | exact FrSub.nil | refine FrSub.cons rfl (.ofEq rfl) ?_ | refine FrSub.consP rfl (.ofEq rfl) (by simp) ?_)) (by simp) (by repeat' first | exact LoSub.nil | refine LoSub.cons rfl ?_ rfl (by simp) ?_ | rfl | (refine (AObj.ren_pure _ _ ?_).symm; simp; done) | (simp [AObj.ren, renL, AC.ren, cTy]; done) | (simp [AObj.ren, renL, AC.ren, cTy]; rfl)) rfl rfl hou⟩
            · have hlt : j = ts.length := by simp at hb2; omega
              subst hlt
              rw [List.take_length] at hno
              have := firstErr_all hno
              repeat first | (with_reducible refine oj ?_; refine AOps.auto tabOk rfl ?_) | (with_reducible first | refine o1 ?_ | refine o2 ?_ | refine o3 ?_ | refine o4 ?_ | refine o5 ?_ | refine o6 ?_ | refine o7 ?_ | refine o8 ?_ | refine o9 ?_ | refine oa ?_ | refine ob ?_ | refine oc ?_ | refine od ?_ | refine oe ?_ | refine og ?_ | refine oh ?_ | refine oi ?_) | (with_reducible refine cExitMiss ?_ ?_; rfl) | (with_reducible refine ok ?_; first | refine ACode.condT rfl ?_ | refine ACode.condF rfl ?_)
              refine APure.fin rfl (WkF.ofEq ?_) (by simp) hou rfl
              rw [hval, this]
      · by_cases hn : (ts.length : Int) = 3
        · refine ACode.drawX tabOk 31 [(2, .one (.lit (.bool false))), (6, .one (.lit (.bool false))), (11, .one (.box (arCells.drop 2))), (13, .one (.lit (.bool true))), (20, .one (.box (arCells.drop 2))), (22, .one (.lit (.bool false))), (29, .one (.lit (.bool false)))] follows (by kernel_rfl) rfl rfl rfl rfl ?_ ?_
          · refine .step rfl (HStep.litB tabOk rfl ?_) ?_
            · (first | (exact decide_eq_false (by simp; omega)) | (exact decide_eq_true (by simp; omega)) | (simp; omega) | (simp; done) | (simpa using hn))
            refine .step rfl (HStep.litB tabOk rfl ?_) ?_
            · (first | (exact decide_eq_false (by simp; omega)) | (exact decide_eq_true (by simp; omega)) | (simp; omega) | (simp; done) | (simpa using hn))
            refine .step rfl (HStep.guarded rfl rfl rfl (AStep.indexArr (cs := arCells) (n := 2) (ti := ti121) (tj := ti3) tabOk rfl rfl rfl rfl rfl rfl ?_ ?_)) ?_
            · decide
            · decide
            refine .step rfl (HStep.litB tabOk rfl ?_) ?_
            · (first | (exact decide_eq_false (by simp; omega)) | (exact decide_eq_true (by simp; omega)) | (simp; omega) | (simp; done) | (simpa using hn))
            refine .step rfl (HStep.guarded rfl rfl rfl (AStep.indexArr (cs := arCells) (n := 2) (ti := ti121) (tj := ti3) tabOk rfl rfl rfl rfl rfl rfl ?_ ?_)) ?_
            · decide
            · decide
            refine .step rfl (HStep.litB tabOk rfl ?_) ?_
            · (first | (exact decide_eq_false (by simp; omega)) | (exact decide_eq_true (by simp; omega)) | (simp; omega) | (simp; done) | (simpa using hn))
            refine .step rfl (HStep.litB tabOk rfl ?_) .nil
            (first | (exact decide_eq_false (by simp; omega)) | (exact decide_eq_true (by simp; omega)) | (simp; omega) | (simp; done) | (simpa using hn))
          have hgood : ¬ (((2 : Int) < 0 ∨ (5 : Int) < 2 ∨ (0 ≤ arOf 2 ∧ (ts.length : Int) ≠ arOf 2) ∨ 8 < ts.length)) := by
            have : arOf 2 = 3 := by decide
            rw [this]; omega
          repeat first | (with_reducible refine oj ?_; refine AOps.auto tabOk rfl ?_) | (with_reducible first | refine o1 ?_ | refine o2 ?_ | refine o3 ?_ | refine o4 ?_ | refine o5 ?_ | refine o6 ?_ | refine o7 ?_ | refine o8 ?_ | refine o9 ?_ | refine oa ?_ | refine ob ?_ | refine oc ?_ | refine od ?_ | refine oe ?_ | refine og ?_ | refine oh ?_ | refine oi ?_) | (with_reducible refine cExitMiss ?_ ?_; rfl) | (with_reducible refine ok ?_; first | refine ACode.condT rfl ?_ | refine ACode.condF rfl ?_)
          have hval : typErr vars deep (.mk 2 n v ts) = firstErr (typErr vars (deep + 1)) ts := by
            simp only [typErr, if_neg hd, if_neg hgood, typErrs_eq]; simp
          refine ACode.loopR hΓ0 (α := Nat) (fun j => [(77, .one (int j)), (76, .one (int (encTys ts).length)), (75, .one (.sl 4 (encTys ts))), (2, .one (int deep)), (1, .one (int vars))])
            (fun j => ⟨0, [], ou⟩) (fun m j => j ≤ ts.length ∧ (∀ x ∈ ts.take j, typErr vars (deep + 1) x = 0) ∧ m = ts.length - j) (a0 := 0) (ρ := id) ⟨by omega, by simp, rfl⟩ (LessR.of rfl (by (repeat' first | exact FrSub.nil | refine FrSub.cons rfl (.ofEq rfl) ?_ | refine FrSub.consP rfl (.ofEq rfl) (by simp) ?_)) (by simp) (by repeat' first | exact LoSub.nil | refine LoSub.cons rfl ?_ rfl (by simp) ?_ | rfl | (refine (AObj.ren_pure _ _ ?_).symm; simp; done) | (simp [AObj.ren, renL, AC.ren, cTy]; done) | (simp [AObj.ren, renL, AC.ren, cTy]; rfl)) rfl rfl hou) fun m j hj => ?_
          obtain ⟨hjl, hno, rfl⟩ := hj
          repeat first | (with_reducible refine oj ?_; refine AOps.auto tabOk rfl ?_) | (with_reducible first | refine o1 ?_ | refine o2 ?_ | refine o3 ?_ | refine o4 ?_ | refine o5 ?_ | refine o6 ?_ | refine o7 ?_ | refine o8 ?_ | refine o9 ?_ | refine oa ?_ | refine ob ?_ | refine oc ?_ | refine od ?_ | refine oe ?_ | refine og ?_ | refine oh ?_ | refine oi ?_) | (with_reducible refine cExitMiss ?_ ?_; rfl) | (with_reducible refine ok ?_; first | refine ACode.condT rfl ?_ | refine ACode.condF rfl ?_)
          refine ACode.cond rfl (fun hb2 => ?_) (fun hb2 => ?_)
          · have hlt : j < ts.length := by simpa using hb2
            obtain ⟨a, ha⟩ := get_of_lt hlt
            have hca := ih a (List.mem_of_getElem? ha) (deep + 1) (by omega) (by omega)
            repeat first | (with_reducible refine oj ?_; refine AOps.auto tabOk rfl ?_) | (with_reducible first | refine o1 ?_ | refine o2 ?_ | refine o3 ?_ | refine o4 ?_ | refine o5 ?_ | refine o6 ?_ | refine o7 ?_ | refine o8 ?_ | refine o9 ?_ | refine oa ?_ | refine ob ?_ | refine oc ?_ | refine od ?_ | refine oe ?_ | refine og ?_ | refine oh ?_ | refine oi ?_) | (with_reducible refine cExitMiss ?_ ?_; rfl) | (with_reducible refine ok ?_; first | refine ACode.condT rfl ?_ | refine ACode.condF rfl ?_)
            refine AOps.step1 rfl rfl rfl (AStep.indexAddr tabOk rfl rfl rfl rfl rfl rfl (.inl rfl) rfl (by omega) (encTys_get ha)) ?_
            repeat first | (with_reducible refine oj ?_; refine AOps.auto tabOk rfl ?_) | (with_reducible first | refine o1 ?_ | refine o2 ?_ | refine o3 ?_ | refine o4 ?_ | refine o5 ?_ | refine o6 ?_ | refine o7 ?_ | refine o8 ?_ | refine o9 ?_ | refine oa ?_ | refine ob ?_ | refine oc ?_ | refine od ?_ | refine oe ?_ | refine og ?_ | refine oh ?_ | refine oi ?_) | (with_reducible refine cExitMiss ?_ ?_; rfl) | (with_reducible refine ok ?_; first | refine ACode.condT rfl ?_ | refine ACode.condF rfl ?_)
            refine AOps.step1 rfl rfl rfl (AStep.arith rfl rfl rfl (.inl ⟨rfl, rfl⟩) (inRange_i64 (by omega) (by omega))) ?_
            repeat first | (with_reducible refine oj ?_; refine AOps.auto tabOk rfl ?_) | (with_reducible first | refine o1 ?_ | refine o2 ?_ | refine o3 ?_ | refine o4 ?_ | refine o5 ?_ | refine o6 ?_ | refine o7 ?_ | refine o8 ?_ | refine o9 ?_ | refine oa ?_ | refine ob ?_ | refine oc ?_ | refine od ?_ | refine oe ?_ | refine og ?_ | refine oh ?_ | refine oi ?_) | (with_reducible refine cExitMiss ?_ ?_; rfl) | (with_reducible refine ok ?_; first | refine ACode.condT rfl ?_ | refine ACode.condF rfl ?_)
            refine AOps.callC hΓ0 hca rfl rfl rfl rfl rfl rfl rfl hou (by simp) ?_
            repeat first | (with_reducible refine oj ?_; refine AOps.auto tabOk rfl ?_) | (with_reducible first | refine o1 ?_ | refine o2 ?_ | refine o3 ?_ | refine o4 ?_ | refine o5 ?_ | refine o6 ?_ | refine o7 ?_ | refine o8 ?_ | refine o9 ?_ | refine oa ?_ | refine ob ?_ | refine oc ?_ | refine od ?_ | refine oe ?_ | refine og ?_ | refine oh ?_ | refine oi ?_) | (with_reducible refine cExitMiss ?_ ?_; rfl) | (with_reducible refine ok ?_; first | refine ACode.condT rfl ?_ | refine ACode.condF rfl ?_)
            refine ACode.cond rfl (fun hb3 => ?_) (fun hb3 => ?_)
            · have hne : typErr vars (deep + 1) a ≠ 0 := by simpa using hb3
              repeat first | (with_reducible refine oj ?_; refine AOps.auto tabOk rfl ?_) | (with_reducible first | refine o1 ?_ | refine o2 ?_ | refine o3 ?_ | refine o4 ?_ | refine o5 ?_ | refine o6 ?_ | refine o7 ?_ | refine o8 ?_ | refine o9 ?_ | refine oa ?_ | refine ob ?_ | refine oc ?_ | refine od ?_ | refine oe ?_ | refine og ?_ | refine oh ?_ | refine oi ?_) | (with_reducible refine cExitMiss ?_ ?_; rfl) | (with_reducible refine ok ?_; first | refine ACode.condT rfl ?_ | refine ACode.condF rfl ?_)
              refine APure.fin rfl (WkF.ofEq ?_) (by simp) hou rfl
              have := firstErr_at hno ha hne
              rw [hval, this]
            · have hz : typErr vars (deep + 1) a = 0 := by simpa using hb3
              repeat first | (with_reducible refine oj ?_; refine AOps.auto tabOk rfl ?_) | (with_reducible first | refine o1 ?_ | refine o2 ?_ | refine o3 ?_ | refine o4 ?_ | refine o5 ?_ | refine o6 ?_ | refine o7 ?_ | refine o8 ?_ | refine o9 ?_ | refine oa ?_ | refine ob ?_ | refine oc ?_ | refine od ?_ | refine oe ?_ | refine og ?_ | refine oh ?_ | refine oi ?_) | (with_reducible refine cExitMiss ?_ ?_; rfl) | (with_reducible refine ok ?_; first | refine ACode.condT rfl ?_ | refine ACode.condF rfl ?_)
              refine AOps.step1 rfl rfl rfl (AStep.arith rfl rfl rfl (.inl ⟨rfl, rfl⟩) (inRange_i64 (by omega) (by omega))) ?_
              repeat first | (with_reducible refine oj ?_; refine AOps.auto tabOk rfl ?_) | (with_reducible first | refine o1 ?_ | refine o2 ?_ | refine o3 ?_ | refine o4 ?_ | refine o5 ?_ | refine o6 ?_ | refine o7 ?_ | refine o8 ?_ | refine o9 ?_ | refine oa ?_ | refine ob ?_ | refine oc ?_ | refine od ?_ | refine oe ?_ | refine og ?_ | refine oh ?_ | refine oi ?_) | (with_reducible refine cExitMiss ?_ ?_; rfl) | (with_reducible refine ok ?_; first | refine ACode.condT rfl ?_ | refine ACode.condF rfl ?_)
              exact cInv ⟨ts.length - (j + 1), j + 1, id, by omega, ⟨by omega, take_all hno ha hz, rfl⟩, LessR.of rfl (by (repeat' first | exact FrSub.nil | refine FrSub.cons rfl (.ofEq rfl) ?_ | refine FrSub.consP rfl (.ofEq rfl) (by simp) ?_)) (by simp) (by repeat' first | exact LoSub.nil | refine LoSub.cons rfl ?_ rfl (by simp) ?_ | rfl | (refine (AObj.ren_pure _ _ ?_).symm; simp; done) | (simp [AObj.ren, renL, AC.ren, cTy]; done) | (simp [AObj.ren, renL, AC.ren, cTy]; rfl)) rfl rfl hou⟩
          · have hlt : j = ts.length := by simp at hb2; omega
            subst hlt
            rw [List.take_length] at hno
            have := firstErr_all hno
            repeat first | (with_reducible refine oj ?_; refine AOps.auto tabOk rfl ?_) | (with_reducible first | refine o1 ?_ | refine o2 ?_ | refine o3 ?_ | refine o4 ?_ | refine o5 ?_ | refine o6 ?_ | refine o7 ?_ | refine o8 ?_ | refine o9 ?_ | refine oa ?_ | refine ob ?_ | refine oc ?_ | refine od ?_ | refine oe ?_ | refine og ?_ | refine oh ?_ | refine oi ?_) | (with_reducible refine cExitMiss ?_ ?_; rfl) | (with_reducible refine ok ?_; first | refine ACode.condT rfl ?_ | refine ACode.condF rfl ?_)
            refine APure.fin rfl (WkF.ofEq ?_) (by simp) hou rfl
            rw [hval, this]
        · refine ACode.drawX tabOk 31 [(2, .one (.lit (.bool false))), (6, .one (.lit (.bool false))), (11, .one (.box (arCells.drop 2))), (13, .one (.lit (.bool true))), (20, .one (.box (arCells.drop 2))), (22, .one (.lit (.bool true)))] follows (by kernel_rfl) rfl rfl rfl rfl ?_ ?_
          · refine .step rfl (HStep.litB tabOk rfl ?_) ?_
            · (first | (exact decide_eq_false (by simp; omega)) | (exact decide_eq_true (by simp; omega)) | (simp; omega) | (simp; done) | (simpa using hn))
            refine .step rfl (HStep.litB tabOk rfl ?_) ?_
            · (first | (exact decide_eq_false (by simp; omega)) | (exact decide_eq_true (by simp; omega)) | (simp; omega) | (simp; done) | (simpa using hn))
            refine .step rfl (HStep.guarded rfl rfl rfl (AStep.indexArr (cs := arCells) (n := 2) (ti := ti121) (tj := ti3) tabOk rfl rfl rfl rfl rfl rfl ?_ ?_)) ?_
            · decide
            · decide
            refine .step rfl (HStep.litB tabOk rfl ?_) ?_
            · (first | (exact decide_eq_false (by simp; omega)) | (exact decide_eq_true (by simp; omega)) | (simp; omega) | (simp; done) | (simpa using hn))
            refine .step rfl (HStep.guarded rfl rfl rfl (AStep.indexArr (cs := arCells) (n := 2) (ti := ti121) (tj := ti3) tabOk rfl rfl rfl rfl rfl rfl ?_ ?_)) ?_
            · decide
            · decide
            refine .step rfl (HStep.litB tabOk rfl ?_) .nil
            (first | (exact decide_eq_false (by simp; omega)) | (exact decide_eq_true (by simp; omega)) | (simp; omega) | (simp; done) | (simpa using hn))
          repeat first | (with_reducible refine oj ?_; refine AOps.auto tabOk rfl ?_) | (with_reducible first | refine o1 ?_ | refine o2 ?_ | refine o3 ?_ | refine o4 ?_ | refine o5 ?_ | refine o6 ?_ | refine o7 ?_ | refine o8 ?_ | refine o9 ?_ | refine oa ?_ | refine ob ?_ | refine oc ?_ | refine od ?_ | refine oe ?_ | refine og ?_ | refine oh ?_ | refine oi ?_) | (with_reducible refine cExitMiss ?_ ?_; rfl) | (with_reducible refine ok ?_; first | refine ACode.condT rfl ?_ | refine ACode.condF rfl ?_)
          refine APure.fin rfl (WkF.ofEq ?_) (by simp) hou rfl
          rw [bad (.inr (.inr (.inl ⟨by decide, hn⟩)))]
      · by_cases hn : (ts.length : Int) = 1
        · refine ACode.drawX tabOk 31 [(2, .one (.lit (.bool false))), (6, .one (.lit (.bool false))), (11, .one (.box (arCells.drop 3))), (13, .one (.lit (.bool true))), (20, .one (.box (arCells.drop 3))), (22, .one (.lit (.bool false))), (29, .one (.lit (.bool false)))] follows (by kernel_rfl) rfl rfl rfl rfl ?_ ?_
          · refine .step rfl (HStep.litB tabOk rfl ?_) ?_
            · (first | (exact decide_eq_false (by simp; omega)) | (exact decide_eq_true (by simp; omega)) | (simp; omega) | (simp; done) | (simpa using hn))
            refine .step rfl (HStep.litB tabOk rfl ?_) ?_
            · (first | (exact decide_eq_false (by simp; omega)) | (exact decide_eq_true (by simp; omega)) | (simp; omega) | (simp; done) | (simpa using hn))
            refine .step rfl (HStep.guarded rfl rfl rfl (AStep.indexArr (cs := arCells) (n := 3) (ti := ti121) (tj := ti3) tabOk rfl rfl rfl rfl rfl rfl ?_ ?_)) ?_
            · decide
            · decide
            refine .step rfl (HStep.litB tabOk rfl ?_) ?_
            · (first | (exact decide_eq_false (by simp; omega)) | (exact decide_eq_true (by simp; omega)) | (simp; omega) | (simp; done) | (simpa using hn))
            refine .step rfl (HStep.guarded rfl rfl rfl (AStep.indexArr (cs := arCells) (n := 3) (ti := ti121) (tj := ti3) tabOk rfl rfl rfl rfl rfl rfl ?_ ?_)) ?_
            · decide
            · decide
            refine .step rfl (HStep.litB tabOk rfl ?_) ?_
            · (first | (exact decide_eq_false (by simp; omega)) | (exact decide_eq_true (by simp; omega)) | (simp; omega) | (simp; done) | (simpa using hn))
            refine .step rfl (HStep.litB tabOk rfl ?_) .nil
            (first | (exact decide_eq_false (by simp; omega)) | (exact decide_eq_true (by simp; omega)) | (simp; omega) | (simp; done) | (simpa using hn))
          have hgood : ¬ (((3 : Int) < 0 ∨ (5 : Int) < 3 ∨ (0 ≤ arOf 3 ∧ (ts.length : Int) ≠ arOf 3) ∨ 8 < ts.length)) := by
            have : arOf 3 = 1 := by decide
            rw [this]; omega
          repeat first | (with_reducible refine oj ?_; refine AOps.auto tabOk rfl ?_) | (with_reducible first | refine o1 ?_ | refine o2 ?_ | refine o3 ?_ | refine o4 ?_ | refine o5 ?_ | refine o6 ?_ | refine o7 ?_ | refine o8 ?_ | refine o9 ?_ | refine oa ?_ | refine ob ?_ | refine oc ?_ | refine od ?_ | refine oe ?_ | refine og ?_ | refine oh ?_ | refine oi ?_) | (with_reducible refine cExitMiss ?_ ?_; rfl) | (with_reducible refine ok ?_; first | refine ACode.condT rfl ?_ | refine ACode.condF rfl ?_)
          have hval : typErr vars deep (.mk 3 n v ts) = firstErr (typErr vars (deep + 1)) ts := by
            simp only [typErr, if_neg hd, if_neg hgood, typErrs_eq]; simp
          refine ACode.loopR hΓ0 (α := Nat) (fun j => [(77, .one (int j)), (76, .one (int (encTys ts).length)), (75, .one (.sl 4 (encTys ts))), (2, .one (int deep)), (1, .one (int vars))])
            (fun j => ⟨0, [], ou⟩) (fun m j => j ≤ ts.length ∧ (∀ x ∈ ts.take j, typErr vars (deep + 1) x = 0) ∧ m = ts.length - j) (a0 := 0) (ρ := id) ⟨by omega, by simp, rfl⟩ (LessR.of rfl (by (repeat' first | exact FrSub.nil | refine FrSub.cons rfl (.ofEq rfl) ?_ | refine FrSub.consP rfl (.ofEq rfl) (by simp) ?_)) (by simp) (by repeat' first | exact LoSub.nil | refine LoSub.cons rfl ?_ rfl (by simp) ?_ | rfl | (refine (AObj.ren_pure _ _ ?_).symm; simp; done) | (simp [AObj.ren, renL, AC.ren, cTy]; done) | (simp [AObj.ren, renL, AC.ren, cTy]; rfl)) rfl rfl hou) fun m j hj => ?_
          obtain ⟨hjl, hno, rfl⟩ := hj
          repeat first | (with_reducible refine oj ?_; refine AOps.auto tabOk rfl ?_) | (with_reducible first | refine o1 ?_ | refine o2 ?_ | refine o3 ?_ | refine o4 ?_ | refine o5 ?_ | refine o6 ?_ | refine o7 ?_ | refine o8 ?_ | refine o9 ?_ | refine oa ?_ | refine ob ?_ | refine oc ?_ | refine od ?_ | refine oe ?_ | refine og ?_ | refine oh ?_ | refine oi ?_) | (with_reducible refine cExitMiss ?_ ?_; rfl) | (with_reducible refine ok ?_; first | refine ACode.condT rfl ?_ | refine ACode.condF rfl ?_)
          refine ACode.cond rfl (fun hb2 => ?_) (fun hb2 => ?_)
          · have hlt : j < ts.length := by simpa using hb2
            obtain ⟨a, ha⟩ := get_of_lt hlt
            have hca := ih a (List.mem_of_getElem? ha) (deep + 1) (by omega) (by omega)
            repeat first | (with_reducible refine oj ?_; refine AOps.auto tabOk rfl ?_) | (with_reducible first | refine o1 ?_ | refine o2 ?_ | refine o3 ?_ | refine o4 ?_ | refine o5 ?_ | refine o6 ?_ | refine o7 ?_ | refine o8 ?_ | refine o9 ?_ | refine oa ?_ | refine ob ?_ | refine oc ?_ | refine od ?_ | refine oe ?_ | refine og ?_ | refine oh ?_ | refine oi ?_) | (with_reducible refine cExitMiss ?_ ?_; rfl) | (with_reducible refine ok ?_; first | refine ACode.condT rfl ?_ | refine ACode.condF rfl ?_)
            refine AOps.step1 rfl rfl rfl (AStep.indexAddr tabOk rfl rfl rfl rfl rfl rfl (.inl rfl) rfl (by omega) (encTys_get ha)) ?_
            repeat first | (with_reducible refine oj ?_; refine AOps.auto tabOk rfl ?_) | (with_reducible first | refine o1 ?_ | refine o2 ?_ | refine o3 ?_ | refine o4 ?_ | refine o5 ?_ | refine o6 ?_ | refine o7 ?_ | refine o8 ?_ | refine o9 ?_ | refine oa ?_ | refine ob ?_ | refine oc ?_ | refine od ?_ | refine oe ?_ | refine og ?_ | refine oh ?_ | refine oi ?_) | (with_reducible refine cExitMiss ?_ ?_; rfl) | (with_reducible refine ok ?_; first | refine ACode.condT rfl ?_ | refine ACode.condF rfl ?_)
            refine AOps.step1 rfl rfl rfl (AStep.arith rfl rfl rfl (.inl ⟨rfl, rfl⟩) (inRange_i64 (by omega) (by omega))) ?_
            repeat first | (with_reducible refine oj ?_; refine AOps.auto tabOk rfl ?_) | (with_reducible first | refine o1 ?_ | refine o2 ?_ | refine o3 ?_ | refine o4 ?_ | refine o5 ?_ | refine o6 ?_ | refine o7 ?_ | refine o8 ?_ | refine o9 ?_ | refine oa ?_ | refine ob ?_ | refine oc ?_ | refine od ?_ | refine oe ?_ | refine og ?_ | refine oh ?_ | refine oi ?_) | (with_reducible refine cExitMiss ?_ ?_; rfl) | (with_reducible refine ok ?_; first | refine ACode.condT rfl ?_ | refine ACode.condF rfl ?_)
            refine AOps.callC hΓ0 hca rfl rfl rfl rfl rfl rfl rfl hou (by simp) ?_
            repeat first | (with_reducible refine oj ?_; refine AOps.auto tabOk rfl ?_) | (with_reducible first | refine o1 ?_ | refine o2 ?_ | refine o3 ?_ | refine o4 ?_ | refine o5 ?_ | refine o6 ?_ | refine o7 ?_ | refine o8 ?_ | refine o9 ?_ | refine oa ?_ | refine ob ?_ | refine oc ?_ | refine od ?_ | refine oe ?_ | refine og ?_ | refine oh ?_ | refine oi ?_) | (with_reducible refine cExitMiss ?_ ?_; rfl) | (with_reducible refine ok ?_; first | refine ACode.condT rfl ?_ | refine ACode.condF rfl ?_)
            refine ACode.cond rfl (fun hb3 => ?_) (fun hb3 => ?_)
            · have hne : typErr vars (deep + 1) a ≠ 0 := by simpa using hb3
              repeat first | (with_reducible refine oj ?_; refine AOps.auto tabOk rfl ?_) | (with_reducible first | refine o1 ?_ | refine o2 ?_ | refine o3 ?_ | refine o4 ?_ | refine o5 ?_ | refine o6 ?_ | refine o7 ?_ | refine o8 ?_ | refine o9 ?_ | refine oa ?_ | refine ob ?_ | refine oc ?_ | refine od ?_ | refine oe ?_ | refine og ?_ | refine oh ?_ | refine oi ?_) | (with_reducible refine cExitMiss ?_ ?_; rfl) | (with_reducible refine ok ?_; first | refine ACode.condT rfl ?_ | refine ACode.condF rfl ?_)
              refine APure.fin rfl (WkF.ofEq ?_) (by simp) hou rfl
              have := firstErr_at hno ha hne
              rw [hval, this]
            · have hz : typErr vars (deep + 1) a = 0 := by simpa using hb3
              repeat first | (with_reducible refine oj ?_; refine AOps.auto tabOk rfl ?_) | (with_reducible first | refine o1 ?_ | refine o2 ?_ | refine o3 ?_ | refine o4 ?_ | refine o5 ?_ | refine o6 ?_ | refine o7 ?_ | refine o8 ?_ | refine o9 ?_ | refine oa ?_ | refine ob ?_ | refine oc ?_ | refine od ?_ | refine oe ?_ | refine og ?_ | refine oh ?_ | refine oi ?_) | (with_reducible refine cExitMiss ?_ ?_; rfl) | (with_reducible refine ok ?_; first | refine ACode.condT rfl ?_ | refine ACode.condF rfl ?_)
              refine AOps.step1 rfl rfl rfl (AStep.arith rfl rfl rfl (.inl ⟨rfl, rfl⟩) (inRange_i64 (by omega) (by omega))) ?_
              repeat first | (with_reducible refine oj ?_; refine AOps.auto tabOk rfl ?_) | (with_reducible first | refine o1 ?_ | refine o2 ?_ | refine o3 ?_ | refine o4 ?_ | refine o5 ?_ | refine o6 ?_ | refine o7 ?_ | refine o8 ?_ | refine o9 ?_ | refine oa ?_ | refine ob ?_ | refine oc ?_ | refine od ?_ | refine oe ?_ | refine og ?_ | refine oh ?_ | refine oi ?_) | (with_reducible refine cExitMiss ?_ ?_; rfl) | (with_reducible refine ok ?_; first | refine ACode.condT rfl ?_ | refine ACode.condF rfl ?_)
              exact cInv ⟨ts.length - (j + 1), j + 1, id, by omega, ⟨by omega, take_all hno ha hz, rfl⟩, LessR.of rfl (by (repeat' first | exact FrSub.nil | refine FrSub.cons rfl (.ofEq rfl) ?_ | refine FrSub.consP rfl (.ofEq rfl) (by simp) ?_)) (by simp) (by repeat' first | exact LoSub.nil | refine LoSub.cons rfl ?_ rfl (by simp) ?_ | rfl | (refine (AObj.ren_pure _ _ ?_).symm; simp; done) | (simp [AObj.ren, renL, AC.ren, cTy]; done) | (simp [AObj.ren, renL, AC.ren, cTy]; rfl)) rfl rfl hou⟩
          · have hlt : j = ts.length := by simp at hb2; omega
            subst hlt
            rw [List.take_length] at hno
            have := firstErr_all hno
            repeat first | (with_reducible refine oj ?_; refine AOps.auto tabOk rfl ?_) | (with_reducible first | refine o1 ?_ | refine o2 ?_ | refine o3 ?_ | refine o4 ?_ | refine o5 ?_ | refine o6 ?_ | refine o7 ?_ | refine o8 ?_ | refine o9 ?_ | refine oa ?_ | refine ob ?_ | refine oc ?_ | refine od ?_ | refine oe ?_ | refine og ?_ | refine oh ?_ | refine oi ?_) | (with_reducible refine cExitMiss ?_ ?_; rfl) | (with_reducible refine ok ?_; first | refine ACode.condT rfl ?_ | refine ACode.condF rfl ?_)
            refine APure.fin rfl (WkF.ofEq ?_) (by simp) hou rfl
            rw [hval, this]
        · refine ACode.drawX tabOk 31 [(2, .one (.lit (.bool false))), (6, .one (.lit (.bool false))), (11, .one (.box (arCells.drop 3))), (13, .one (.lit (.bool true))), (20, .one (.box (arCells.drop 3))), (22, .one (.lit (.bool true)))] follows (by kernel_rfl) rfl rfl rfl rfl ?_ ?_
          · refine .step rfl (HStep.litB tabOk rfl ?_) ?_
            · (first | (exact decide_eq_false (by simp; omega)) | (exact decide_eq_true (by simp; omega)) | (simp; omega) | (simp; done) | (simpa using hn))
            refine .step rfl (HStep.litB tabOk rfl ?_) ?_
            · (first | (exact decide_eq_false (by simp; omega)) | (exact decide_eq_true (by simp; omega)) | (simp; omega) | (simp; done) | (simpa using hn))
            refine .step rfl (HStep.guarded rfl rfl rfl (AStep.indexArr (cs := arCells) (n := 3) (ti := ti121) (tj := ti3) tabOk rfl rfl rfl rfl rfl rfl ?_ ?_)) ?_
            · decide
            · decide
            refine .step rfl (HStep.litB tabOk rfl ?_) ?_
            · (first | (exact decide_eq_false (by simp; omega)) | (exact decide_eq_true (by simp; omega)) | (simp; omega) | (simp; done) | (simpa using hn))
            refine .step rfl (HStep.guarded rfl rfl rfl (AStep.indexArr (cs := arCells) (n := 3) (ti := ti121) (tj := ti3) tabOk rfl rfl rfl rfl rfl rfl ?_ ?_)) ?_
            · decide
            · decide
            refine .step rfl (HStep.litB tabOk rfl ?_) .nil
            (first | (exact decide_eq_false (by simp; omega)) | (exact decide_eq_true (by simp; omega)) | (simp; omega) | (simp; done) | (simpa using hn))
          repeat first | (with_reducible refine oj ?_; refine AOps.auto tabOk rfl ?_) | (with_reducible first | refine o1 ?_ | refine o2 ?_ | refine o3 ?_ | refine o4 ?_ | refine o5 ?_ | refine o6 ?_ | refine o7 ?_ | refine o8 ?_ | refine o9 ?_ | refine oa ?_ | refine ob ?_ | refine oc ?_ | refine od ?_ | refine oe ?_ | refine og ?_ | refine oh ?_ | refine oi ?_) | (with_reducible refine cExitMiss ?_ ?_; rfl) | (with_reducible refine ok ?_; first | refine ACode.condT rfl ?_ | refine ACode.condF rfl ?_)
          refine APure.fin rfl (WkF.ofEq ?_) (by simp) hou rfl
          rw [bad (.inr (.inr (.inl ⟨by decide, hn⟩)))]
      · by_cases hn : (ts.length : Int) = 0
        · refine ACode.drawX tabOk 31 [(2, .one (.lit (.bool false))), (6, .one (.lit (.bool false))), (11, .one (.box (arCells.drop 4))), (13, .one (.lit (.bool true))), (20, .one (.box (arCells.drop 4))), (22, .one (.lit (.bool false))), (29, .one (.lit (.bool false)))] follows (by kernel_rfl) rfl rfl rfl rfl ?_ ?_
          · refine .step rfl (HStep.litB tabOk rfl ?_) ?_
            · (first | (exact decide_eq_false (by simp; omega)) | (exact decide_eq_true (by simp; omega)) | (simp; omega) | (simp; done) | (simpa using hn))
            refine .step rfl (HStep.litB tabOk rfl ?_) ?_
            · (first | (exact decide_eq_false (by simp; omega)) | (exact decide_eq_true (by simp; omega)) | (simp; omega) | (simp; done) | (simpa using hn))
            refine .step rfl (HStep.guarded rfl rfl rfl (AStep.indexArr (cs := arCells) (n := 4) (ti := ti121) (tj := ti3) tabOk rfl rfl rfl rfl rfl rfl ?_ ?_)) ?_
            · decide
            · decide
            refine .step rfl (HStep.litB tabOk rfl ?_) ?_
            · (first | (exact decide_eq_false (by simp; omega)) | (exact decide_eq_true (by simp; omega)) | (simp; omega) | (simp; done) | (simpa using hn))
            refine .step rfl (HStep.guarded rfl rfl rfl (AStep.indexArr (cs := arCells) (n := 4) (ti := ti121) (tj := ti3) tabOk rfl rfl rfl rfl rfl rfl ?_ ?_)) ?_
            · decide
            · decide
            refine .step rfl (HStep.litB tabOk rfl ?_) ?_
            · (first | (exact decide_eq_false (by simp; omega)) | (exact decide_eq_true (by simp; omega)) | (simp; omega) | (simp; done) | (simpa using hn))
            refine .step rfl (HStep.litB tabOk rfl ?_) .nil
            (first | (exact decide_eq_false (by simp; omega)) | (exact decide_eq_true (by simp; omega)) | (simp; omega) | (simp; done) | (simpa using hn))
          have hgood : ¬ (((4 : Int) < 0 ∨ (5 : Int) < 4 ∨ (0 ≤ arOf 4 ∧ (ts.length : Int) ≠ arOf 4) ∨ 8 < ts.length)) := by
            have : arOf 4 = 0 := by decide
            rw [this]; omega
          repeat first | (with_reducible refine oj ?_; refine AOps.auto tabOk rfl ?_) | (with_reducible first | refine o1 ?_ | refine o2 ?_ | refine o3 ?_ | refine o4 ?_ | refine o5 ?_ | refine o6 ?_ | refine o7 ?_ | refine o8 ?_ | refine o9 ?_ | refine oa ?_ | refine ob ?_ | refine oc ?_ | refine od ?_ | refine oe ?_ | refine og ?_ | refine oh ?_ | refine oi ?_) | (with_reducible refine cExitMiss ?_ ?_; rfl) | (with_reducible refine ok ?_; first | refine ACode.condT rfl ?_ | refine ACode.condF rfl ?_)
          have hval : typErr vars deep (.mk 4 n v ts) = firstErr (typErr vars (deep + 1)) ts := by
            simp only [typErr, if_neg hd, if_neg hgood, typErrs_eq]; simp
          refine ACode.loopR hΓ0 (α := Nat) (fun j => [(77, .one (int j)), (76, .one (int (encTys ts).length)), (75, .one (.sl 4 (encTys ts))), (2, .one (int deep)), (1, .one (int vars))])
            (fun j => ⟨0, [], ou⟩) (fun m j => j ≤ ts.length ∧ (∀ x ∈ ts.take j, typErr vars (deep + 1) x = 0) ∧ m = ts.length - j) (a0 := 0) (ρ := id) ⟨by omega, by simp, rfl⟩ (LessR.of rfl (by (repeat' first | exact FrSub.nil | refine FrSub.cons rfl (.ofEq rfl) ?_ | refine FrSub.consP rfl (.ofEq rfl) (by simp) ?_)) (by simp) (by repeat' first | exact LoSub.nil | refine LoSub.cons rfl ?_ rfl (by simp) ?_ | rfl | (refine (AObj.ren_pure _ _ ?_).symm; simp; done) | (simp [AObj.ren, renL, AC.ren, cTy]; done) | (simp [AObj.ren, renL, AC.ren, cTy]; rfl)) rfl rfl hou) fun m j hj => ?_
          obtain ⟨hjl, hno, rfl⟩ := hj
          repeat first | (with_reducible refine oj ?_; refine AOps.auto tabOk rfl ?_) | (with_reducible first | refine o1 ?_ | refine o2 ?_ | refine o3 ?_ | refine o4 ?_ | refine o5 ?_ | refine o6 ?_ | refine o7 ?_ | refine o8 ?_ | refine o9 ?_ | refine oa ?_ | refine ob ?_ | refine oc ?_ | refine od ?_ | refine oe ?_ | refine og ?_ | refine oh ?_ | refine oi ?_) | (with_reducible refine cExitMiss ?_ ?_; rfl) | (with_reducible refine ok ?_; first | refine ACode.condT rfl ?_ | refine ACode.condF rfl ?_)
          refine ACode.cond rfl (fun hb2 => ?_) (fun hb2 => ?_)
          · have hlt : j < ts.length := by simpa using hb2
            obtain ⟨a, ha⟩ := get_of_lt hlt
            have hca := ih a (List.mem_of_getElem? ha) (deep + 1) (by omega) (by omega)
            repeat first | (with_reducible refine oj ?_; refine AOps.auto tabOk rfl ?_) | (with_reducible first | refine o1 ?_ | refine o2 ?_ | refine o3 ?_ | refine o4 ?_ | refine o5 ?_ | refine o6 ?_ | refine o7 ?_ | refine o8 ?_ | refine o9 ?_ | refine oa ?_ | refine ob ?_ | refine oc ?_ | refine od ?_ | refine oe ?_ | refine og ?_ | refine oh ?_ | refine oi ?_) | (with_reducible refine cExitMiss ?_ ?_; rfl) | (with_reducible refine ok ?_; first | refine ACode.condT rfl ?_ | refine ACode.condF rfl ?_)
            refine AOps.step1 rfl rfl rfl (AStep.indexAddr tabOk rfl rfl rfl rfl rfl rfl (.inl rfl) rfl (by omega) (encTys_get ha)) ?_
            repeat first | (with_reducible refine oj ?_; refine AOps.auto tabOk rfl ?_) | (with_reducible first | refine o1 ?_ | refine o2 ?_ | refine o3 ?_ | refine o4 ?_ | refine o5 ?_ | refine o6 ?_ | refine o7 ?_ | refine o8 ?_ | refine o9 ?_ | refine oa ?_ | refine ob ?_ | refine oc ?_ | refine od ?_ | refine oe ?_ | refine og ?_ | refine oh ?_ | refine oi ?_) | (with_reducible refine cExitMiss ?_ ?_; rfl) | (with_reducible refine ok ?_; first | refine ACode.condT rfl ?_ | refine ACode.condF rfl ?_)
            refine AOps.step1 rfl rfl rfl (AStep.arith rfl rfl rfl (.inl ⟨rfl, rfl⟩) (inRange_i64 (by omega) (by omega))) ?_
            repeat first | (with_reducible refine oj ?_; refine AOps.auto tabOk rfl ?_) | (with_reducible first | refine o1 ?_ | refine o2 ?_ | refine o3 ?_ | refine o4 ?_ | refine o5 ?_ | refine o6 ?_ | refine o7 ?_ | refine o8 ?_ | refine o9 ?_ | refine oa ?_ | refine ob ?_ | refine oc ?_ | refine od ?_ | refine oe ?_ | refine og ?_ | refine oh ?_ | refine oi ?_) | (with_reducible refine cExitMiss ?_ ?_; rfl) | (with_reducible refine ok ?_; first | refine ACode.condT rfl ?_ | refine ACode.condF rfl ?_)
            refine AOps.callC hΓ0 hca rfl rfl rfl rfl rfl rfl rfl hou (by simp) ?_
            repeat first | (with_reducible refine oj ?_; refine AOps.auto tabOk rfl ?_) | (with_reducible first | refine o1 ?_ | refine o2 ?_ | refine o3 ?_ | refine o4 ?_ | refine o5 ?_ | refine o6 ?_ | refine o7 ?_ | refine o8 ?_ | refine o9 ?_ | refine oa ?_ | refine ob ?_ | refine oc ?_ | refine od ?_ | refine oe ?_ | refine og ?_ | refine oh ?_ | refine oi ?_) | (with_reducible refine cExitMiss ?_ ?_; rfl) | (with_reducible refine ok ?_; first | refine ACode.condT rfl ?_ | refine ACode.condF rfl ?_)
            refine ACode.cond rfl (fun hb3 => ?_) (fun hb3 => ?_)
            · have hne : typErr vars (deep + 1) a ≠ 0 := by simpa using hb3
              repeat first | (with_reducible refine oj ?_; refine AOps.auto tabOk rfl ?_) | (with_reducible first | refine o1 ?_ | refine o2 ?_ | refine o3 ?_ | refine o4 ?_ | refine o5 ?_ | refine o6 ?_ | refine o7 ?_ | refine o8 ?_ | refine o9 ?_ | refine oa ?_ | refine ob ?_ | refine oc ?_ | refine od ?_ | refine oe ?_ | refine og ?_ | refine oh ?_ | refine oi ?_) | (with_reducible refine cExitMiss ?_ ?_; rfl) | (with_reducible refine ok ?_; first | refine ACode.condT rfl ?_ | refine ACode.condF rfl ?_)
              refine APure.fin rfl (WkF.ofEq ?_) (by simp) hou rfl
              have := firstErr_at hno ha hne
              rw [hval, this]
            · have hz : typErr vars (deep + 1) a = 0 := by simpa using hb3
              repeat first | (with_reducible refine oj ?_; refine AOps.auto tabOk rfl ?_) | (with_reducible first | refine o1 ?_ | refine o2 ?_ | refine o3 ?_ | refine o4 ?_ | refine o5 ?_ | refine o6 ?_ | refine o7 ?_ | refine o8 ?_ | refine o9 ?_ | refine oa ?_ | refine ob ?_ | refine oc ?_ | refine od ?_ | refine oe ?_ | refine og ?_ | refine oh ?_ | refine oi ?_) | (with_reducible refine cExitMiss ?_ ?_; rfl) | (with_reducible refine ok ?_; first | refine ACode.condT rfl ?_ | refine ACode.condF rfl ?_)
              refine AOps.step1 rfl rfl rfl (AStep.arith rfl rfl rfl (.inl ⟨rfl, rfl⟩) (inRange_i64 (by omega) (by omega))) ?_
              repeat first | (with_reducible refine oj ?_; refine AOps.auto tabOk rfl ?_) | (with_reducible first | refine o1 ?_ | refine o2 ?_ | refine o3 ?_ | refine o4 ?_ | refine o5 ?_ | refine o6 ?_ | refine o7 ?_ | refine o8 ?_ | refine o9 ?_ | refine oa ?_ | refine ob ?_ | refine oc ?_ | refine od ?_ | refine oe ?_ | refine og ?_ | refine oh ?_ | refine oi ?_) | (with_reducible refine cExitMiss ?_ ?_; rfl) | (with_reducible refine ok ?_; first | refine ACode.condT rfl ?_ | refine ACode.condF rfl ?_)
              exact cInv ⟨ts.length - (j + 1), j + 1, id, by omega, ⟨by omega, take_all hno ha hz, rfl⟩, LessR.of rfl (by (repeat' first | exact FrSub.nil | refine FrSub.cons rfl (.ofEq rfl) ?_ | refine FrSub.consP rfl (.ofEq rfl) (by simp) ?_)) (by simp) (by repeat' first | exact LoSub.nil | refine LoSub.cons rfl ?_ rfl (by simp) ?_ | rfl | (refine (AObj.ren_pure _ _ ?_).symm; simp; done) | (simp [AObj.ren, renL, AC.ren, cTy]; done) | (simp [AObj.ren, renL, AC.ren, cTy]; rfl)) rfl rfl hou⟩
          · have hlt : j = ts.length := by simp at hb2; omega
            subst hlt
            rw [List.take_length] at hno
            have := firstErr_all hno
            repeat first | (with_reducible refine oj ?_; refine AOps.auto tabOk rfl ?_) | (with_reducible first | refine o1 ?_ | refine o2 ?_ | refine o3 ?_ | refine o4 ?_ | refine o5 ?_ | refine o6 ?_ | refine o7 ?_ | refine o8 ?_ | refine o9 ?_ | refine oa ?_ | refine ob ?_ | refine oc ?_ | refine od ?_ | refine oe ?_ | refine og ?_ | refine oh ?_ | refine oi ?_) | (with_reducible refine cExitMiss ?_ ?_; rfl) | (with_reducible refine ok ?_; first | refine ACode.condT rfl ?_ | refine ACode.condF rfl ?_)
            refine APure.fin rfl (WkF.ofEq ?_) (by simp) hou rfl
            rw [hval, this]
        · refine ACode.drawX tabOk 31 [(2, .one (.lit (.bool false))), (6, .one (.lit (.bool false))), (11, .one (.box (arCells.drop 4))), (13, .one (.lit (.bool true))), (20, .one (.box (arCells.drop 4))), (22, .one (.lit (.bool true)))] follows (by kernel_rfl) rfl rfl rfl rfl ?_ ?_
          · refine .step rfl (HStep.litB tabOk rfl ?_) ?_
            · (first | (exact decide_eq_false (by simp; omega)) | (exact decide_eq_true (by simp; omega)) | (simp; omega) | (simp; done) | (simpa using hn))
            refine .step rfl (HStep.litB tabOk rfl ?_) ?_
            · (first | (exact decide_eq_false (by simp; omega)) | (exact decide_eq_true (by simp; omega)) | (simp; omega) | (simp; done) | (simpa using hn))
            refine .step rfl (HStep.guarded rfl rfl rfl (AStep.indexArr (cs := arCells) (n := 4) (ti := ti121) (tj := ti3) tabOk rfl rfl rfl rfl rfl rfl ?_ ?_)) ?_
            · decide
            · decide
            refine .step rfl (HStep.litB tabOk rfl ?_) ?_
            · (first | (exact decide_eq_false (by simp; omega)) | (exact decide_eq_true (by simp; omega)) | (simp; omega) | (simp; done) | (simpa using hn))
            refine .step rfl (HStep.guarded rfl rfl rfl (AStep.indexArr (cs := arCells) (n := 4) (ti := ti121) (tj := ti3) tabOk rfl rfl rfl rfl rfl rfl ?_ ?_)) ?_
            · decide
            · decide
            refine .step rfl (HStep.litB tabOk rfl ?_) .nil
            (first | (exact decide_eq_false (by simp; omega)) | (exact decide_eq_true (by simp; omega)) | (simp; omega) | (simp; done) | (simpa using hn))
          repeat first | (with_reducible refine oj ?_; refine AOps.auto tabOk rfl ?_) | (with_reducible first | refine o1 ?_ | refine o2 ?_ | refine o3 ?_ | refine o4 ?_ | refine o5 ?_ | refine o6 ?_ | refine o7 ?_ | refine o8 ?_ | refine o9 ?_ | refine oa ?_ | refine ob ?_ | refine oc ?_ | refine od ?_ | refine oe ?_ | refine og ?_ | refine oh ?_ | refine oi ?_) | (with_reducible refine cExitMiss ?_ ?_; rfl) | (with_reducible refine ok ?_; first | refine ACode.condT rfl ?_ | refine ACode.condF rfl ?_)
          refine APure.fin rfl (WkF.ofEq ?_) (by simp) hou rfl
          rw [bad (.inr (.inr (.inl ⟨by decide, hn⟩)))]
      · by_cases hn : (ts.length : Int) = 2
        · refine ACode.drawX tabOk 31 [(2, .one (.lit (.bool false))), (6, .one (.lit (.bool false))), (11, .one (.box (arCells.drop 5))), (13, .one (.lit (.bool true))), (20, .one (.box (arCells.drop 5))), (22, .one (.lit (.bool false))), (29, .one (.lit (.bool false)))] follows (by kernel_rfl) rfl rfl rfl rfl ?_ ?_
          · refine .step rfl (HStep.litB tabOk rfl ?_) ?_
            · (first | (exact decide_eq_false (by simp; omega)) | (exact decide_eq_true (by simp; omega)) | (simp; omega) | (simp; done) | (simpa using hn))
            refine .step rfl (HStep.litB tabOk rfl ?_) ?_
            · (first | (exact decide_eq_false (by simp; omega)) | (exact decide_eq_true (by simp; omega)) | (simp; omega) | (simp; done) | (simpa using hn))
            refine .step rfl (HStep.guarded rfl rfl rfl (AStep.indexArr (cs := arCells) (n := 5) (ti := ti121) (tj := ti3) tabOk rfl rfl rfl rfl rfl rfl ?_ ?_)) ?_
            · decide
            · decide
            refine .step rfl (HStep.litB tabOk rfl ?_) ?_
            · (first | (exact decide_eq_false (by simp; omega)) | (exact decide_eq_true (by simp; omega)) | (simp; omega) | (simp; done) | (simpa using hn))
            refine .step rfl (HStep.guarded rfl rfl rfl (AStep.indexArr (cs := arCells) (n := 5) (ti := ti121) (tj := ti3) tabOk rfl rfl rfl rfl rfl rfl ?_ ?_)) ?_
            · decide
            · decide
            refine .step rfl (HStep.litB tabOk rfl ?_) ?_
            · (first | (exact decide_eq_false (by simp; omega)) | (exact decide_eq_true (by simp; omega)) | (simp; omega) | (simp; done) | (simpa using hn))
            refine .step rfl (HStep.litB tabOk rfl ?_) .nil
            (first | (exact decide_eq_false (by simp; omega)) | (exact decide_eq_true (by simp; omega)) | (simp; omega) | (simp; done) | (simpa using hn))
          have hgood : ¬ (((5 : Int) < 0 ∨ (5 : Int) < 5 ∨ (0 ≤ arOf 5 ∧ (ts.length : Int) ≠ arOf 5) ∨ 8 < ts.length)) := by
            have : arOf 5 = 2 := by decide
            rw [this]; omega
          repeat first | (with_reducible refine oj ?_; refine AOps.auto tabOk rfl ?_) | (with_reducible first | refine o1 ?_ | refine o2 ?_ | refine o3 ?_ | refine o4 ?_ | refine o5 ?_ | refine o6 ?_ | refine o7 ?_ | refine o8 ?_ | refine o9 ?_ | refine oa ?_ | refine ob ?_ | refine oc ?_ | refine od ?_ | refine oe ?_ | refine og ?_ | refine oh ?_ | refine oi ?_) | (with_reducible refine cExitMiss ?_ ?_; rfl) | (with_reducible refine ok ?_; first | refine ACode.condT rfl ?_ | refine ACode.condF rfl ?_)
          refine AOps.callG hΓ0 (far_ok Γ0 n) rfl rfl rfl rfl rfl rfl rfl rfl rfl hou (by simp) ?_
          repeat first | (with_reducible refine oj ?_; refine AOps.auto tabOk rfl ?_) | (with_reducible first | refine o1 ?_ | refine o2 ?_ | refine o3 ?_ | refine o4 ?_ | refine o5 ?_ | refine o6 ?_ | refine o7 ?_ | refine o8 ?_ | refine o9 ?_ | refine oa ?_ | refine ob ?_ | refine oc ?_ | refine od ?_ | refine oe ?_ | refine og ?_ | refine oh ?_ | refine oi ?_) | (with_reducible refine cExitMiss ?_ ?_; rfl) | (with_reducible refine ok ?_; first | refine ACode.condT rfl ?_ | refine ACode.condF rfl ?_)
          refine ACode.cond rfl (fun hw => ?_) (fun hw => ?_)
          · repeat first | (with_reducible refine oj ?_; refine AOps.auto tabOk rfl ?_) | (with_reducible first | refine o1 ?_ | refine o2 ?_ | refine o3 ?_ | refine o4 ?_ | refine o5 ?_ | refine o6 ?_ | refine o7 ?_ | refine o8 ?_ | refine o9 ?_ | refine oa ?_ | refine ob ?_ | refine oc ?_ | refine od ?_ | refine oe ?_ | refine og ?_ | refine oh ?_ | refine oi ?_) | (with_reducible refine cExitMiss ?_ ?_; rfl) | (with_reducible refine ok ?_; first | refine ACode.condT rfl ?_ | refine ACode.condF rfl ?_)
            refine APure.fin rfl (WkF.ofEq ?_) (by simp) hou rfl
            simp only [typErr, if_neg hd, if_neg hgood, hw]; simp
          · have hval : typErr vars deep (.mk 5 n v ts) = firstErr (typErr vars (deep + 1)) ts := by
              simp only [typErr, if_neg hd, if_neg hgood, typErrs_eq, hw]; simp
            repeat first | (with_reducible refine oj ?_; refine AOps.auto tabOk rfl ?_) | (with_reducible first | refine o1 ?_ | refine o2 ?_ | refine o3 ?_ | refine o4 ?_ | refine o5 ?_ | refine o6 ?_ | refine o7 ?_ | refine o8 ?_ | refine o9 ?_ | refine oa ?_ | refine ob ?_ | refine oc ?_ | refine od ?_ | refine oe ?_ | refine og ?_ | refine oh ?_ | refine oi ?_) | (with_reducible refine cExitMiss ?_ ?_; rfl) | (with_reducible refine ok ?_; first | refine ACode.condT rfl ?_ | refine ACode.condF rfl ?_)
            refine ACode.loopR hΓ0 (α := Nat) (fun j => [(77, .one (int j)), (76, .one (int (encTys ts).length)), (75, .one (.sl 4 (encTys ts))), (2, .one (int deep)), (1, .one (int vars))])
              (fun j => ⟨0, [], ou⟩) (fun m j => j ≤ ts.length ∧ (∀ x ∈ ts.take j, typErr vars (deep + 1) x = 0) ∧ m = ts.length - j) (a0 := 0) (ρ := id) ⟨by omega, by simp, rfl⟩ (LessR.of rfl (by (repeat' first | exact FrSub.nil | refine FrSub.cons rfl (.ofEq rfl) ?_ | refine FrSub.consP rfl (.ofEq rfl) (by simp) ?_)) (by simp) (by repeat' first | exact LoSub.nil | refine LoSub.cons rfl ?_ rfl (by simp) ?_ | rfl | (refine (AObj.ren_pure _ _ ?_).symm; simp; done) | (simp [AObj.ren, renL, AC.ren, cTy]; done) | (simp [AObj.ren, renL, AC.ren, cTy]; rfl)) rfl rfl hou) fun m j hj => ?_
            obtain ⟨hjl, hno, rfl⟩ := hj
            repeat first | (with_reducible refine oj ?_; refine AOps.auto tabOk rfl ?_) | (with_reducible first | refine o1 ?_ | refine o2 ?_ | refine o3 ?_ | refine o4 ?_ | refine o5 ?_ | refine o6 ?_ | refine o7 ?_ | refine o8 ?_ | refine o9 ?_ | refine oa ?_ | refine ob ?_ | refine oc ?_ | refine od ?_ | refine oe ?_ | refine og ?_ | refine oh ?_ | refine oi ?_) | (with_reducible refine cExitMiss ?_ ?_; rfl) | (with_reducible refine ok ?_; first | refine ACode.condT rfl ?_ | refine ACode.condF rfl ?_)
            refine ACode.cond rfl (fun hb2 => ?_) (fun hb2 => ?_)
            · have hlt : j < ts.length := by simpa using hb2
              obtain ⟨a, ha⟩ := get_of_lt hlt
              have hca := ih a (List.mem_of_getElem? ha) (deep + 1) (by omega) (by omega)
              repeat first | (with_reducible refine oj ?_; refine AOps.auto tabOk rfl ?_) | (with_reducible first | refine o1 ?_ | refine o2 ?_ | refine o3 ?_ | refine o4 ?_ | refine o5 ?_ | refine o6 ?_ | refine o7 ?_ | refine o8 ?_ | refine o9 ?_ | refine oa ?_ | refine ob ?_ | refine oc ?_ | refine od ?_ | refine oe ?_ | refine og ?_ | refine oh ?_ | refine oi ?_) | (with_reducible refine cExitMiss ?_ ?_; rfl) | (with_reducible refine ok ?_; first | refine ACode.condT rfl ?_ | refine ACode.condF rfl ?_)
              refine AOps.step1 rfl rfl rfl (AStep.indexAddr tabOk rfl rfl rfl rfl rfl rfl (.inl rfl) rfl (by omega) (encTys_get ha)) ?_
              repeat first | (with_reducible refine oj ?_; refine AOps.auto tabOk rfl ?_) | (with_reducible first | refine o1 ?_ | refine o2 ?_ | refine o3 ?_ | refine o4 ?_ | refine o5 ?_ | refine o6 ?_ | refine o7 ?_ | refine o8 ?_ | refine o9 ?_ | refine oa ?_ | refine ob ?_ | refine oc ?_ | refine od ?_ | refine oe ?_ | refine og ?_ | refine oh ?_ | refine oi ?_) | (with_reducible refine cExitMiss ?_ ?_; rfl) | (with_reducible refine ok ?_; first | refine ACode.condT rfl ?_ | refine ACode.condF rfl ?_)
              refine AOps.step1 rfl rfl rfl (AStep.arith rfl rfl rfl (.inl ⟨rfl, rfl⟩) (inRange_i64 (by omega) (by omega))) ?_
              repeat first | (with_reducible refine oj ?_; refine AOps.auto tabOk rfl ?_) | (with_reducible first | refine o1 ?_ | refine o2 ?_ | refine o3 ?_ | refine o4 ?_ | refine o5 ?_ | refine o6 ?_ | refine o7 ?_ | refine o8 ?_ | refine o9 ?_ | refine oa ?_ | refine ob ?_ | refine oc ?_ | refine od ?_ | refine oe ?_ | refine og ?_ | refine oh ?_ | refine oi ?_) | (with_reducible refine cExitMiss ?_ ?_; rfl) | (with_reducible refine ok ?_; first | refine ACode.condT rfl ?_ | refine ACode.condF rfl ?_)
              refine AOps.callC hΓ0 hca rfl rfl rfl rfl rfl rfl rfl hou (by simp) ?_
              repeat first | (with_reducible refine oj ?_; refine AOps.auto tabOk rfl ?_) | (with_reducible first | refine o1 ?_ | refine o2 ?_ | refine o3 ?_ | refine o4 ?_ | refine o5 ?_ | refine o6 ?_ | refine o7 ?_ | refine o8 ?_ | refine o9 ?_ | refine oa ?_ | refine ob ?_ | refine oc ?_ | refine od ?_ | refine oe ?_ | refine og ?_ | refine oh ?_ | refine oi ?_) | (with_reducible refine cExitMiss ?_ ?_; rfl) | (with_reducible refine ok ?_; first | refine ACode.condT rfl ?_ | refine ACode.condF rfl ?_)
              refine ACode.cond rfl (fun hb3 => ?_) (fun hb3 => ?_)
              · have hne : typErr vars (deep + 1) a ≠ 0 := by simpa using hb3
                repeat first | (with_reducible refine oj ?_; refine AOps.auto tabOk rfl ?_) | (with_reducible first | refine o1 ?_ | refine o2 ?_ | refine o3 ?_ | refine o4 ?_ | refine o5 ?_ | refine o6 ?_ | refine o7 ?_ | refine o8 ?_ | refine o9 ?_ | refine oa ?_ | refine ob ?_ | refine oc ?_ | refine od ?_ | refine oe ?_ | refine og ?_ | refine oh ?_ | refine oi ?_) | (with_reducible refine cExitMiss ?_ ?_; rfl) | (with_reducible refine ok ?_; first | refine ACode.condT rfl ?_ | refine ACode.condF rfl ?_)
                refine APure.fin rfl (WkF.ofEq ?_) (by simp) hou rfl
                have := firstErr_at hno ha hne
                rw [hval, this]
              · have hz : typErr vars (deep + 1) a = 0 := by simpa using hb3
                repeat first | (with_reducible refine oj ?_; refine AOps.auto tabOk rfl ?_) | (with_reducible first | refine o1 ?_ | refine o2 ?_ | refine o3 ?_ | refine o4 ?_ | refine o5 ?_ | refine o6 ?_ | refine o7 ?_ | refine o8 ?_ | refine o9 ?_ | refine oa ?_ | refine ob ?_ | refine oc ?_ | refine od ?_ | refine oe ?_ | refine og ?_ | refine oh ?_ | refine oi ?_) | (with_reducible refine cExitMiss ?_ ?_; rfl) | (with_reducible refine ok ?_; first | refine ACode.condT rfl ?_ | refine ACode.condF rfl ?_)
                refine AOps.step1 rfl rfl rfl (AStep.arith rfl rfl rfl (.inl ⟨rfl, rfl⟩) (inRange_i64 (by omega) (by omega))) ?_
                repeat first | (with_reducible refine oj ?_; refine AOps.auto tabOk rfl ?_) | (with_reducible first | refine o1 ?_ | refine o2 ?_ | refine o3 ?_ | refine o4 ?_ | refine o5 ?_ | refine o6 ?_ | refine o7 ?_ | refine o8 ?_ | refine o9 ?_ | refine oa ?_ | refine ob ?_ | refine oc ?_ | refine od ?_ | refine oe ?_ | refine og ?_ | refine oh ?_ | refine oi ?_) | (with_reducible refine cExitMiss ?_ ?_; rfl) | (with_reducible refine ok ?_; first | refine ACode.condT rfl ?_ | refine ACode.condF rfl ?_)
                exact cInv ⟨ts.length - (j + 1), j + 1, id, by omega, ⟨by omega, take_all hno ha hz, rfl⟩, LessR.of rfl (by (repeat' first | exact FrSub.nil | refine FrSub.cons rfl (.ofEq rfl) ?_ | refine FrSub.consP rfl (.ofEq rfl) (by simp) ?_)) (by simp) (by repeat' first | exact LoSub.nil | refine LoSub.cons rfl ?_ rfl (by simp) ?_ | rfl | (refine (AObj.ren_pure _ _ ?_).symm; simp; done) | (simp [AObj.ren, renL, AC.ren, cTy]; done) | (simp [AObj.ren, renL, AC.ren, cTy]; rfl)) rfl rfl hou⟩
            · have hlt : j = ts.length := by simp at hb2; omega
              subst hlt
              rw [List.take_length] at hno
              have := firstErr_all hno
              repeat first | (with_reducible refine oj ?_; refine AOps.auto tabOk rfl ?_) | (with_reducible first | refine o1 ?_ | refine o2 ?_ | refine o3 ?_ | refine o4 ?_ | refine o5 ?_ | refine o6 ?_ | refine o7 ?_ | refine o8 ?_ | refine o9 ?_ | refine oa ?_ | refine ob ?_ | refine oc ?_ | refine od ?_ | refine oe ?_ | refine og ?_ | refine oh ?_ | refine oi ?_) | (with_reducible refine cExitMiss ?_ ?_; rfl) | (with_reducible refine ok ?_; first | refine ACode.condT rfl ?_ | refine ACode.condF rfl ?_)
              refine APure.fin rfl (WkF.ofEq ?_) (by simp) hou rfl
              rw [hval, this]
        · refine ACode.drawX tabOk 31 [(2, .one (.lit (.bool false))), (6, .one (.lit (.bool false))), (11, .one (.box (arCells.drop 5))), (13, .one (.lit (.bool true))), (20, .one (.box (arCells.drop 5))), (22, .one (.lit (.bool true)))] follows (by kernel_rfl) rfl rfl rfl rfl ?_ ?_
          · refine .step rfl (HStep.litB tabOk rfl ?_) ?_
            · (first | (exact decide_eq_false (by simp; omega)) | (exact decide_eq_true (by simp; omega)) | (simp; omega) | (simp; done) | (simpa using hn))
            refine .step rfl (HStep.litB tabOk rfl ?_) ?_
            · (first | (exact decide_eq_false (by simp; omega)) | (exact decide_eq_true (by simp; omega)) | (simp; omega) | (simp; done) | (simpa using hn))
            refine .step rfl (HStep.guarded rfl rfl rfl (AStep.indexArr (cs := arCells) (n := 5) (ti := ti121) (tj := ti3) tabOk rfl rfl rfl rfl rfl rfl ?_ ?_)) ?_
            · decide
            · decide
            refine .step rfl (HStep.litB tabOk rfl ?_) ?_
            · (first | (exact decide_eq_false (by simp; omega)) | (exact decide_eq_true (by simp; omega)) | (simp; omega) | (simp; done) | (simpa using hn))
            refine .step rfl (HStep.guarded rfl rfl rfl (AStep.indexArr (cs := arCells) (n := 5) (ti := ti121) (tj := ti3) tabOk rfl rfl rfl rfl rfl rfl ?_ ?_)) ?_
            · decide
            · decide
            refine .step rfl (HStep.litB tabOk rfl ?_) .nil
            (first | (exact decide_eq_false (by simp; omega)) | (exact decide_eq_true (by simp; omega)) | (simp; omega) | (simp; done) | (simpa using hn))
          repeat first | (with_reducible refine oj ?_; refine AOps.auto tabOk rfl ?_) | (with_reducible first | refine o1 ?_ | refine o2 ?_ | refine o3 ?_ | refine o4 ?_ | refine o5 ?_ | refine o6 ?_ | refine o7 ?_ | refine o8 ?_ | refine o9 ?_ | refine oa ?_ | refine ob ?_ | refine oc ?_ | refine od ?_ | refine oe ?_ | refine og ?_ | refine oh ?_ | refine oi ?_) | (with_reducible refine cExitMiss ?_ ?_; rfl) | (with_reducible refine ok ?_; first | refine ACode.condT rfl ?_ | refine ACode.condF rfl ?_)
          refine APure.fin rfl (WkF.ofEq ?_) (by simp) hou rfl
          rw [bad (.inr (.inr (.inl ⟨by decide, hn⟩)))]
end Go.Proofs.YtoojdmgbffnmiaaDoor
/- slices.IndexFunc and slices.ContainsFunc: what they compute. -/
namespace Go.Proofs.YtoojdmgbffnmiaaDoor
open Go Go.Abs
set_option maxRecDepth 10000
set_option linter.unusedVariables false
set_option linter.unusedSimpArgs false
variable {Γ : List (Nat × List AC)}
def idxOf {α : Type} (p : α → Bool) : List α → Int
  | [] => -1
  | a :: l => if p a = true then 0 else if idxOf p l < 0 then -1 else idxOf p l + 1
theorem idxOf_ge {α : Type} {p : α → Bool} : ∀ l : List α, -1 ≤ idxOf p l
  | [] => by simp [idxOf]
  | a :: l => by
    have := idxOf_ge (p := p) l
    simp only [idxOf]; split
    · omega
    · split <;> omega
theorem idxOf_none {α : Type} {p : α → Bool} : ∀ {l : List α}, (∀ x ∈ l, p x = false) → idxOf p l = -1
  | [], _ => rfl
  | a :: l, h => by simp only [idxOf, h a (by simp), idxOf_none (l := l) (fun x hx => h x (by simp [hx]))]; simp
theorem idxOf_at {α : Type} {p : α → Bool} : ∀ {l : List α} {j : Nat} {a : α}, (∀ x ∈ l.take j, p x = false) → l[j]? = some a → p a = true → idxOf p l = j
  | [], j, a, _, h, _ => by simp at h
  | x :: l, 0, a, _, h, hp => by simp at h; subst h; simp [idxOf, hp]
  | x :: l, j + 1, a, h0, h, hp => by
    have := idxOf_at (l := l) (j := j) (fun y hy => h0 y (by simp [hy])) (by simpa using h) hp
    simp only [idxOf, h0 x (by simp), this]
    rw [if_neg (by simp), if_neg (by omega)]; simp
theorem idxOf_iff {α : Type} {p : α → Bool} : ∀ l : List α, 0 ≤ idxOf p l ↔ l.any p = true
  | [] => by simp [idxOf]
  | a :: l => by
    have ih := idxOf_iff (p := p) l
    have hge := idxOf_ge (p := p) l
    simp only [idxOf, List.any_cons, Bool.or_eq_true, ← ih]
    by_cases hp : p a = true
    · simp [hp]
    · rw [if_neg hp]
      by_cases h : idxOf p l < 0
      · rw [if_pos h]
        exact ⟨fun h2 => by omega, fun h2 => h2.elim (fun h3 => absurd h3 hp) (fun h3 => by omega)⟩
      · rw [if_neg h]
        exact ⟨fun h2 => .inr (by omega), fun h2 => by omega⟩
theorem idxOf_any {α : Type} {p : α → Bool} (l : List α) : decide (idxOf p l ≥ 0) = l.any p := by
  rw [Bool.eq_iff_iff, decide_eq_true_iff]
  exact idxOf_iff l

theorem IndexFunc77_ok (hΓ : ∀ g cs, (g, cs) ∈ Γ → idsL isO cs) (gf : Nat) (caps : List AC) (hcap : idsL isO caps) (p : CSig → Bool) (xs : List CSig) (hx : xs.length ≤ 1048576) (hf : ∀ a ∈ xs, APure Tryd.prog Γ gf (.agg (cCon a) :: caps.map .one) (.one (.lit (.bool (p a))))) :
    APure Tryd.prog Γ 77 [.one (.sl 2 (xs.map cCon)), .one (.fn (.func gf) [] caps)] (.one (int (idxOf p xs))) := by
  intro ou
  refine AFn.walk 19 tabOk Tryd.func77 rfl (by kernel_rfl) rfl rfl fun hou => ?_
  repeat first | (with_reducible refine oj ?_; refine AOps.auto tabOk rfl ?_) | (with_reducible first | refine o1 ?_ | refine o2 ?_ | refine o3 ?_ | refine o4 ?_ | refine o5 ?_ | refine o6 ?_ | refine o7 ?_ | refine o8 ?_ | refine o9 ?_ | refine oa ?_ | refine ob ?_ | refine oc ?_ | refine od ?_ | refine oe ?_ | refine og ?_ | refine oh ?_ | refine oi ?_) | (with_reducible refine cExitMiss ?_ ?_; rfl) | (with_reducible refine ok ?_; first | refine ACode.condT rfl ?_ | refine ACode.condF rfl ?_)
  refine ACode.loopR hΓ (α := Nat) (fun j => [(8, .one (int j)), (7, .one (int (xs.map cCon).length)), (1, .one (.fn (.func gf) [] caps)), (0, .one (.sl 2 (xs.map cCon)))])
    (fun j => ⟨0, [], ou⟩) (fun m j => j ≤ xs.length ∧ (∀ x ∈ xs.take j, p x = false) ∧ m = xs.length - j) (a0 := 0) (ρ := id) ⟨by omega, by simp, rfl⟩ (LessR.of rfl ?_ ?_ (by repeat' first | exact LoSub.nil | refine LoSub.cons rfl ?_ rfl (by simp) ?_ | rfl | (refine (AObj.ren_pure _ _ ?_).symm; simp; done) | (simp [AObj.ren, renL, AC.ren, cTy]; done) | (simp [AObj.ren, renL, AC.ren, cTy]; rfl)) rfl rfl hou) fun m j hj => ?_
  · refine .cons rfl (.ofEq rfl) (.cons rfl (.ofEq rfl) (.consP rfl (.ofEq rfl) (by simp [hcap]) (.consP rfl (.ofEq rfl) (by simp) .nil)))
  · simp [idsL_mono isO_inL caps hcap]
  obtain ⟨hjl, hno, rfl⟩ := hj
  repeat first | (with_reducible refine oj ?_; refine AOps.auto tabOk rfl ?_) | (with_reducible first | refine o1 ?_ | refine o2 ?_ | refine o3 ?_ | refine o4 ?_ | refine o5 ?_ | refine o6 ?_ | refine o7 ?_ | refine o8 ?_ | refine o9 ?_ | refine oa ?_ | refine ob ?_ | refine oc ?_ | refine od ?_ | refine oe ?_ | refine og ?_ | refine oh ?_ | refine oi ?_) | (with_reducible refine cExitMiss ?_ ?_; rfl) | (with_reducible refine ok ?_; first | refine ACode.condT rfl ?_ | refine ACode.condF rfl ?_)
  refine ACode.cond rfl (fun hb2 => ?_) (fun hb2 => ?_)
  · have hlt : j < xs.length := by simpa using hb2
    obtain ⟨a, ha⟩ := get_of_lt hlt
    have hca := hf a (List.mem_of_getElem? ha)
    repeat first | (with_reducible refine oj ?_; refine AOps.auto tabOk rfl ?_) | (with_reducible first | refine o1 ?_ | refine o2 ?_ | refine o3 ?_ | refine o4 ?_ | refine o5 ?_ | refine o6 ?_ | refine o7 ?_ | refine o8 ?_ | refine o9 ?_ | refine oa ?_ | refine ob ?_ | refine oc ?_ | refine od ?_ | refine oe ?_ | refine og ?_ | refine oh ?_ | refine oi ?_) | (with_reducible refine cExitMiss ?_ ?_; rfl) | (with_reducible refine ok ?_; first | refine ACode.condT rfl ?_ | refine ACode.condF rfl ?_)
    refine AOps.step1 rfl rfl rfl (AStep.indexAddr tabOk rfl rfl rfl rfl rfl rfl (.inl rfl) rfl (by omega) (by simpa using map_get ha)) ?_
    repeat first | (with_reducible refine oj ?_; refine AOps.auto tabOk rfl ?_) | (with_reducible first | refine o1 ?_ | refine o2 ?_ | refine o3 ?_ | refine o4 ?_ | refine o5 ?_ | refine o6 ?_ | refine o7 ?_ | refine o8 ?_ | refine o9 ?_ | refine oa ?_ | refine ob ?_ | refine oc ?_ | refine od ?_ | refine oe ?_ | refine og ?_ | refine oh ?_ | refine oi ?_) | (with_reducible refine cExitMiss ?_ ?_; rfl) | (with_reducible refine ok ?_; first | refine ACode.condT rfl ?_ | refine ACode.condF rfl ?_)
    refine AOps.callC hΓ hca rfl rfl rfl rfl rfl rfl rfl hou ?_ ?_
    · refine ⟨by simp, ?_⟩
      have : ∀ l : List AC, idsL isO l → idsF isO (l.map .one) := by
        intro l
        induction l with
        | nil => intro _; trivial
        | cons c l ih => intro h; exact ⟨h.1, ih h.2⟩
      exact this caps hcap
    repeat first | (with_reducible refine oj ?_; refine AOps.auto tabOk rfl ?_) | (with_reducible first | refine o1 ?_ | refine o2 ?_ | refine o3 ?_ | refine o4 ?_ | refine o5 ?_ | refine o6 ?_ | refine o7 ?_ | refine o8 ?_ | refine o9 ?_ | refine oa ?_ | refine ob ?_ | refine oc ?_ | refine od ?_ | refine oe ?_ | refine og ?_ | refine oh ?_ | refine oi ?_) | (with_reducible refine cExitMiss ?_ ?_; rfl) | (with_reducible refine ok ?_; first | refine ACode.condT rfl ?_ | refine ACode.condF rfl ?_)
    refine ACode.cond rfl (fun hb3 => ?_) (fun hb3 => ?_)
    · repeat first | (with_reducible refine oj ?_; refine AOps.auto tabOk rfl ?_) | (with_reducible first | refine o1 ?_ | refine o2 ?_ | refine o3 ?_ | refine o4 ?_ | refine o5 ?_ | refine o6 ?_ | refine o7 ?_ | refine o8 ?_ | refine o9 ?_ | refine oa ?_ | refine ob ?_ | refine oc ?_ | refine od ?_ | refine oe ?_ | refine og ?_ | refine oh ?_ | refine oi ?_) | (with_reducible refine cExitMiss ?_ ?_; rfl) | (with_reducible refine ok ?_; first | refine ACode.condT rfl ?_ | refine ACode.condF rfl ?_)
      refine APure.fin rfl (WkF.ofEq ?_) (by simp) hou rfl
      rw [idxOf_at hno ha hb3]
    · repeat first | (with_reducible refine oj ?_; refine AOps.auto tabOk rfl ?_) | (with_reducible first | refine o1 ?_ | refine o2 ?_ | refine o3 ?_ | refine o4 ?_ | refine o5 ?_ | refine o6 ?_ | refine o7 ?_ | refine o8 ?_ | refine o9 ?_ | refine oa ?_ | refine ob ?_ | refine oc ?_ | refine od ?_ | refine oe ?_ | refine og ?_ | refine oh ?_ | refine oi ?_) | (with_reducible refine cExitMiss ?_ ?_; rfl) | (with_reducible refine ok ?_; first | refine ACode.condT rfl ?_ | refine ACode.condF rfl ?_)
      refine AOps.step1 rfl rfl rfl (AStep.arith rfl rfl rfl (.inl ⟨rfl, rfl⟩) (inRange_i64 (by omega) (by omega))) ?_
      repeat first | (with_reducible refine oj ?_; refine AOps.auto tabOk rfl ?_) | (with_reducible first | refine o1 ?_ | refine o2 ?_ | refine o3 ?_ | refine o4 ?_ | refine o5 ?_ | refine o6 ?_ | refine o7 ?_ | refine o8 ?_ | refine o9 ?_ | refine oa ?_ | refine ob ?_ | refine oc ?_ | refine od ?_ | refine oe ?_ | refine og ?_ | refine oh ?_ | refine oi ?_) | (with_reducible refine cExitMiss ?_ ?_; rfl) | (with_reducible refine ok ?_; first | refine ACode.condT rfl ?_ | refine ACode.condF rfl ?_)
      refine cInv ⟨xs.length - (j + 1), j + 1, id, by omega, ⟨by omega, take_all hno ha hb3, rfl⟩, LessR.of rfl ?_ ?_ (by repeat' first | exact LoSub.nil | refine LoSub.cons rfl ?_ rfl (by simp) ?_ | rfl | (refine (AObj.ren_pure _ _ ?_).symm; simp; done) | (simp [AObj.ren, renL, AC.ren, cTy]; done) | (simp [AObj.ren, renL, AC.ren, cTy]; rfl)) rfl rfl hou⟩
      · refine .cons rfl (.ofEq rfl) (.cons rfl (.ofEq rfl) (.consP rfl (.ofEq rfl) (by simp [hcap]) (.consP rfl (.ofEq rfl) (by simp) .nil)))
      · simp [idsL_mono isO_inL caps hcap]
  · have hlt : j = xs.length := by simp at hb2; omega
    subst hlt
    rw [List.take_length] at hno
    repeat first | (with_reducible refine oj ?_; refine AOps.auto tabOk rfl ?_) | (with_reducible first | refine o1 ?_ | refine o2 ?_ | refine o3 ?_ | refine o4 ?_ | refine o5 ?_ | refine o6 ?_ | refine o7 ?_ | refine o8 ?_ | refine o9 ?_ | refine oa ?_ | refine ob ?_ | refine oc ?_ | refine od ?_ | refine oe ?_ | refine og ?_ | refine oh ?_ | refine oi ?_) | (with_reducible refine cExitMiss ?_ ?_; rfl) | (with_reducible refine ok ?_; first | refine ACode.condT rfl ?_ | refine ACode.condF rfl ?_)
    refine APure.fin rfl (WkF.ofEq ?_) (by simp) hou rfl
    rw [idxOf_none hno]
theorem ContainsFunc61_ok (hΓ : ∀ g cs, (g, cs) ∈ Γ → idsL isO cs) (gf : Nat) (caps : List AC) (hcap : idsL isO caps) (p : CSig → Bool) (xs : List CSig) (hx : xs.length ≤ 1048576) (hf : ∀ a ∈ xs, APure Tryd.prog Γ gf (.agg (cCon a) :: caps.map .one) (.one (.lit (.bool (p a))))) :
    APure Tryd.prog Γ 61 [.one (.sl 2 (xs.map cCon)), .one (.fn (.func gf) [] caps)] (.one (.lit (.bool (xs.any p)))) := by
  intro ou
  refine AFn.walk 9 tabOk Tryd.func61 rfl (by kernel_rfl) rfl rfl fun hou => ?_
  repeat first | (with_reducible refine oj ?_; refine AOps.auto tabOk rfl ?_) | (with_reducible first | refine o1 ?_ | refine o2 ?_ | refine o3 ?_ | refine o4 ?_ | refine o5 ?_ | refine o6 ?_ | refine o7 ?_ | refine o8 ?_ | refine o9 ?_ | refine oa ?_ | refine ob ?_ | refine oc ?_ | refine od ?_ | refine oe ?_ | refine og ?_ | refine oh ?_ | refine oi ?_) | (with_reducible refine cExitMiss ?_ ?_; rfl) | (with_reducible refine ok ?_; first | refine ACode.condT rfl ?_ | refine ACode.condF rfl ?_)
  refine AOps.callC hΓ (IndexFunc77_ok hΓ gf caps hcap p xs hx hf) rfl rfl rfl rfl rfl rfl rfl hou (by simp [hcap]) ?_
  repeat first | (with_reducible refine oj ?_; refine AOps.auto tabOk rfl ?_) | (with_reducible first | refine o1 ?_ | refine o2 ?_ | refine o3 ?_ | refine o4 ?_ | refine o5 ?_ | refine o6 ?_ | refine o7 ?_ | refine o8 ?_ | refine o9 ?_ | refine oa ?_ | refine ob ?_ | refine oc ?_ | refine od ?_ | refine oe ?_ | refine og ?_ | refine oh ?_ | refine oi ?_) | (with_reducible refine cExitMiss ?_ ?_; rfl) | (with_reducible refine ok ?_; first | refine ACode.condT rfl ?_ | refine ACode.condF rfl ?_)
  refine APure.fin rfl (WkF.ofEq ?_) (by simp) hou rfl
  rw [← idxOf_any]

end Go.Proofs.YtoojdmgbffnmiaaDoor
/- schemeError: what it computes, where it is known which names are refused. -/
namespace Go.Proofs.YtoojdmgbffnmiaaDoor
open Go Go.Abs
set_option maxRecDepth 10000
set_option linter.unusedVariables false
set_option linter.unusedSimpArgs false
/-- What cut answers at a name. -/
def CutAt (cutB : Str → Bool) (s : Str) : Prop := APure Tryd.prog Γ0 32 [.one (str s)] (.one (.lit (.bool (cutB s))))
def prdErr (cutB : Str → Bool) (vars : Int) (p : Prd) : Int := if cutB p.cls = true then 3 else typErr vars 1 p.ty
def schErr (cutB : Str → Bool) (s : Sch) : Int :=
  if s.vars < 0 ∨ 40 < s.vars then 4 else if firstErr (prdErr cutB s.vars) s.preds ≠ 0 then firstErr (prdErr cutB s.vars) s.preds else typErr s.vars 1 s.ty
theorem schemeError_ok (cutB : Str → Bool) (s : Sch) (hs : okSch s) (hc : ∀ p ∈ s.preds, CutAt cutB p.cls) : APure Tryd.prog Γ0 41 [.agg (cSch s)] (.one (int (schErr cutB s))) := by
  obtain ⟨h1, h2, h3⟩ := hs
  intro ou
  refine AFn.walk 38 tabOk Tryd.func41 rfl (by kernel_rfl) rfl rfl fun hou => ?_
  repeat first | (with_reducible refine oj ?_; refine AOps.auto tabOk rfl ?_) | (with_reducible first | refine o1 ?_ | refine o2 ?_ | refine o3 ?_ | refine o4 ?_ | refine o5 ?_ | refine o6 ?_ | refine o7 ?_ | refine o8 ?_ | refine o9 ?_ | refine oa ?_ | refine ob ?_ | refine oc ?_ | refine od ?_ | refine oe ?_ | refine og ?_ | refine oh ?_ | refine oi ?_) | (with_reducible refine cExitMiss ?_ ?_; rfl) | (with_reducible refine ok ?_; first | refine ACode.condT rfl ?_ | refine ACode.condF rfl ?_)
  refine AOps.splitG rfl rfl rfl (fun hv => ?_) (fun hv => ?_)
  · have hv' : s.vars < 0 := of_decide_eq_true hv
    repeat first | (with_reducible refine oj ?_; refine AOps.auto tabOk rfl ?_) | (with_reducible first | refine o1 ?_ | refine o2 ?_ | refine o3 ?_ | refine o4 ?_ | refine o5 ?_ | refine o6 ?_ | refine o7 ?_ | refine o8 ?_ | refine o9 ?_ | refine oa ?_ | refine ob ?_ | refine oc ?_ | refine od ?_ | refine oe ?_ | refine og ?_ | refine oh ?_ | refine oi ?_) | (with_reducible refine cExitMiss ?_ ?_; rfl) | (with_reducible refine ok ?_; first | refine ACode.condT rfl ?_ | refine ACode.condF rfl ?_)
    refine APure.fin rfl (WkF.ofEq ?_) (by simp) hou rfl
    simp [schErr, hv']
  have hv' : ¬ s.vars < 0 := of_decide_eq_false hv
  repeat first | (with_reducible refine oj ?_; refine AOps.auto tabOk rfl ?_) | (with_reducible first | refine o1 ?_ | refine o2 ?_ | refine o3 ?_ | refine o4 ?_ | refine o5 ?_ | refine o6 ?_ | refine o7 ?_ | refine o8 ?_ | refine o9 ?_ | refine oa ?_ | refine ob ?_ | refine oc ?_ | refine od ?_ | refine oe ?_ | refine og ?_ | refine oh ?_ | refine oi ?_) | (with_reducible refine cExitMiss ?_ ?_; rfl) | (with_reducible refine ok ?_; first | refine ACode.condT rfl ?_ | refine ACode.condF rfl ?_)
  refine ACode.cond rfl (fun hw => ?_) (fun hw => ?_)
  · have hw' : 40 < s.vars := of_decide_eq_true hw
    repeat first | (with_reducible refine oj ?_; refine AOps.auto tabOk rfl ?_) | (with_reducible first | refine o1 ?_ | refine o2 ?_ | refine o3 ?_ | refine o4 ?_ | refine o5 ?_ | refine o6 ?_ | refine o7 ?_ | refine o8 ?_ | refine o9 ?_ | refine oa ?_ | refine ob ?_ | refine oc ?_ | refine od ?_ | refine oe ?_ | refine og ?_ | refine oh ?_ | refine oi ?_) | (with_reducible refine cExitMiss ?_ ?_; rfl) | (with_reducible refine ok ?_; first | refine ACode.condT rfl ?_ | refine ACode.condF rfl ?_)
    refine APure.fin rfl (WkF.ofEq ?_) (by simp) hou rfl
    simp [schErr, hw']
  have hw' : ¬ 40 < s.vars := of_decide_eq_false hw
  have hval : schErr cutB s = if firstErr (prdErr cutB s.vars) s.preds ≠ 0 then firstErr (prdErr cutB s.vars) s.preds else typErr s.vars 1 s.ty := by
    unfold schErr
    rw [if_neg (by omega)]
  repeat first | (with_reducible refine oj ?_; refine AOps.auto tabOk rfl ?_) | (with_reducible first | refine o1 ?_ | refine o2 ?_ | refine o3 ?_ | refine o4 ?_ | refine o5 ?_ | refine o6 ?_ | refine o7 ?_ | refine o8 ?_ | refine o9 ?_ | refine oa ?_ | refine ob ?_ | refine oc ?_ | refine od ?_ | refine oe ?_ | refine og ?_ | refine oh ?_ | refine oi ?_) | (with_reducible refine cExitMiss ?_ ?_; rfl) | (with_reducible refine ok ?_; first | refine ACode.condT rfl ?_ | refine ACode.condF rfl ?_)
  refine ACode.loopR hΓ0 (α := Nat) (fun j => [(17, .one (int j)), (16, .one (int (s.preds.map cPrd).length)), (15, .one (.sl 5 (s.preds.map cPrd))), (1, .one (.ptr (.l 0) 0))])
    (fun j => ⟨1, [(0, .cells (cSch s))], ou⟩) (fun m j => j ≤ s.preds.length ∧ (∀ x ∈ s.preds.take j, prdErr cutB s.vars x = 0) ∧ m = s.preds.length - j) (a0 := 0) (ρ := id) ⟨by omega, by simp, rfl⟩ (LessR.of rfl (by (repeat' first | exact FrSub.nil | refine FrSub.cons rfl (.ofEq rfl) ?_ | refine FrSub.consP rfl (.ofEq rfl) (by simp) ?_)) (by simp) (by repeat' first | exact LoSub.nil | refine LoSub.cons rfl ?_ rfl (by simp) ?_ | rfl | (refine (AObj.ren_pure _ _ ?_).symm; simp; done) | (simp [AObj.ren, renL, AC.ren, cTy]; done) | (simp [AObj.ren, renL, AC.ren, cTy]; rfl)) rfl rfl hou) fun m j hj => ?_
  obtain ⟨hjl, hno, rfl⟩ := hj
  repeat first | (with_reducible refine oj ?_; refine AOps.auto tabOk rfl ?_) | (with_reducible first | refine o1 ?_ | refine o2 ?_ | refine o3 ?_ | refine o4 ?_ | refine o5 ?_ | refine o6 ?_ | refine o7 ?_ | refine o8 ?_ | refine o9 ?_ | refine oa ?_ | refine ob ?_ | refine oc ?_ | refine od ?_ | refine oe ?_ | refine og ?_ | refine oh ?_ | refine oi ?_) | (with_reducible refine cExitMiss ?_ ?_; rfl) | (with_reducible refine ok ?_; first | refine ACode.condT rfl ?_ | refine ACode.condF rfl ?_)
  refine ACode.cond rfl (fun hb2 => ?_) (fun hb2 => ?_)
  · have hlt : j < s.preds.length := by simpa using hb2
    obtain ⟨a, ha⟩ := get_of_lt hlt
    have hma := List.mem_of_getElem? ha
    repeat first | (with_reducible refine oj ?_; refine AOps.auto tabOk rfl ?_) | (with_reducible first | refine o1 ?_ | refine o2 ?_ | refine o3 ?_ | refine o4 ?_ | refine o5 ?_ | refine o6 ?_ | refine o7 ?_ | refine o8 ?_ | refine o9 ?_ | refine oa ?_ | refine ob ?_ | refine oc ?_ | refine od ?_ | refine oe ?_ | refine og ?_ | refine oh ?_ | refine oi ?_) | (with_reducible refine cExitMiss ?_ ?_; rfl) | (with_reducible refine ok ?_; first | refine ACode.condT rfl ?_ | refine ACode.condF rfl ?_)
    refine AOps.step1 rfl rfl rfl (AStep.indexAddr tabOk rfl rfl rfl rfl rfl rfl (.inl rfl) rfl (by omega) (map_get ha)) ?_
    repeat first | (with_reducible refine oj ?_; refine AOps.auto tabOk rfl ?_) | (with_reducible first | refine o1 ?_ | refine o2 ?_ | refine o3 ?_ | refine o4 ?_ | refine o5 ?_ | refine o6 ?_ | refine o7 ?_ | refine o8 ?_ | refine o9 ?_ | refine oa ?_ | refine ob ?_ | refine oc ?_ | refine od ?_ | refine oe ?_ | refine og ?_ | refine oh ?_ | refine oi ?_) | (with_reducible refine cExitMiss ?_ ?_; rfl) | (with_reducible refine ok ?_; first | refine ACode.condT rfl ?_ | refine ACode.condF rfl ?_)
    refine AOps.callC hΓ0 (hc a hma) rfl rfl rfl rfl rfl rfl rfl hou (by simp) ?_
    repeat first | (with_reducible refine oj ?_; refine AOps.auto tabOk rfl ?_) | (with_reducible first | refine o1 ?_ | refine o2 ?_ | refine o3 ?_ | refine o4 ?_ | refine o5 ?_ | refine o6 ?_ | refine o7 ?_ | refine o8 ?_ | refine o9 ?_ | refine oa ?_ | refine ob ?_ | refine oc ?_ | refine od ?_ | refine oe ?_ | refine og ?_ | refine oh ?_ | refine oi ?_) | (with_reducible refine cExitMiss ?_ ?_; rfl) | (with_reducible refine ok ?_; first | refine ACode.condT rfl ?_ | refine ACode.condF rfl ?_)
    refine ACode.cond rfl (fun hq => ?_) (fun hq => ?_)
    · have he : prdErr cutB s.vars a = 3 := by simp [prdErr, hq]
      have hfe := firstErr_at hno ha (by rw [he]; decide)
      repeat first | (with_reducible refine oj ?_; refine AOps.auto tabOk rfl ?_) | (with_reducible first | refine o1 ?_ | refine o2 ?_ | refine o3 ?_ | refine o4 ?_ | refine o5 ?_ | refine o6 ?_ | refine o7 ?_ | refine o8 ?_ | refine o9 ?_ | refine oa ?_ | refine ob ?_ | refine oc ?_ | refine od ?_ | refine oe ?_ | refine og ?_ | refine oh ?_ | refine oi ?_) | (with_reducible refine cExitMiss ?_ ?_; rfl) | (with_reducible refine ok ?_; first | refine ACode.condT rfl ?_ | refine ACode.condF rfl ?_)
      refine APure.fin rfl (WkF.ofEq ?_) (by simp) hou rfl
      rw [hval, hfe, he]; simp
    · have he : prdErr cutB s.vars a = typErr s.vars 1 a.ty := by simp [prdErr, hq]
      repeat first | (with_reducible refine oj ?_; refine AOps.auto tabOk rfl ?_) | (with_reducible first | refine o1 ?_ | refine o2 ?_ | refine o3 ?_ | refine o4 ?_ | refine o5 ?_ | refine o6 ?_ | refine o7 ?_ | refine o8 ?_ | refine o9 ?_ | refine oa ?_ | refine ob ?_ | refine oc ?_ | refine od ?_ | refine oe ?_ | refine og ?_ | refine oh ?_ | refine oi ?_) | (with_reducible refine cExitMiss ?_ ?_; rfl) | (with_reducible refine ok ?_; first | refine ACode.condT rfl ?_ | refine ACode.condF rfl ?_)
      refine AOps.callC hΓ0 (typeError_ok s.vars a.ty (h3 a hma) 1 (by omega) (by omega)) rfl rfl rfl rfl rfl rfl rfl hou (by simp) ?_
      repeat first | (with_reducible refine oj ?_; refine AOps.auto tabOk rfl ?_) | (with_reducible first | refine o1 ?_ | refine o2 ?_ | refine o3 ?_ | refine o4 ?_ | refine o5 ?_ | refine o6 ?_ | refine o7 ?_ | refine o8 ?_ | refine o9 ?_ | refine oa ?_ | refine ob ?_ | refine oc ?_ | refine od ?_ | refine oe ?_ | refine og ?_ | refine oh ?_ | refine oi ?_) | (with_reducible refine cExitMiss ?_ ?_; rfl) | (with_reducible refine ok ?_; first | refine ACode.condT rfl ?_ | refine ACode.condF rfl ?_)
      refine ACode.cond rfl (fun hr => ?_) (fun hr => ?_)
      · have hne : prdErr cutB s.vars a ≠ 0 := by rw [he]; simpa using hr
        have hfe := firstErr_at hno ha hne
        repeat first | (with_reducible refine oj ?_; refine AOps.auto tabOk rfl ?_) | (with_reducible first | refine o1 ?_ | refine o2 ?_ | refine o3 ?_ | refine o4 ?_ | refine o5 ?_ | refine o6 ?_ | refine o7 ?_ | refine o8 ?_ | refine o9 ?_ | refine oa ?_ | refine ob ?_ | refine oc ?_ | refine od ?_ | refine oe ?_ | refine og ?_ | refine oh ?_ | refine oi ?_) | (with_reducible refine cExitMiss ?_ ?_; rfl) | (with_reducible refine ok ?_; first | refine ACode.condT rfl ?_ | refine ACode.condF rfl ?_)
        refine APure.fin rfl (WkF.ofEq ?_) (by simp) hou rfl
        rw [hval, hfe, if_pos hne, he]
      · have hz : prdErr cutB s.vars a = 0 := by rw [he]; simpa using hr
        repeat first | (with_reducible refine oj ?_; refine AOps.auto tabOk rfl ?_) | (with_reducible first | refine o1 ?_ | refine o2 ?_ | refine o3 ?_ | refine o4 ?_ | refine o5 ?_ | refine o6 ?_ | refine o7 ?_ | refine o8 ?_ | refine o9 ?_ | refine oa ?_ | refine ob ?_ | refine oc ?_ | refine od ?_ | refine oe ?_ | refine og ?_ | refine oh ?_ | refine oi ?_) | (with_reducible refine cExitMiss ?_ ?_; rfl) | (with_reducible refine ok ?_; first | refine ACode.condT rfl ?_ | refine ACode.condF rfl ?_)
        refine AOps.step1 rfl rfl rfl (AStep.arith rfl rfl rfl (.inl ⟨rfl, rfl⟩) (inRange_i64 (by omega) (by omega))) ?_
        repeat first | (with_reducible refine oj ?_; refine AOps.auto tabOk rfl ?_) | (with_reducible first | refine o1 ?_ | refine o2 ?_ | refine o3 ?_ | refine o4 ?_ | refine o5 ?_ | refine o6 ?_ | refine o7 ?_ | refine o8 ?_ | refine o9 ?_ | refine oa ?_ | refine ob ?_ | refine oc ?_ | refine od ?_ | refine oe ?_ | refine og ?_ | refine oh ?_ | refine oi ?_) | (with_reducible refine cExitMiss ?_ ?_; rfl) | (with_reducible refine ok ?_; first | refine ACode.condT rfl ?_ | refine ACode.condF rfl ?_)
        exact cInv ⟨s.preds.length - (j + 1), j + 1, id, by omega, ⟨by omega, take_all hno ha hz, rfl⟩, LessR.of rfl (by (repeat' first | exact FrSub.nil | refine FrSub.cons rfl (.ofEq rfl) ?_ | refine FrSub.consP rfl (.ofEq rfl) (by simp) ?_)) (by simp) (by repeat' first | exact LoSub.nil | refine LoSub.cons rfl ?_ rfl (by simp) ?_ | rfl | (refine (AObj.ren_pure _ _ ?_).symm; simp; done) | (simp [AObj.ren, renL, AC.ren, cTy]; done) | (simp [AObj.ren, renL, AC.ren, cTy]; rfl)) rfl rfl hou⟩
  · have hlt : j = s.preds.length := by simp at hb2; omega
    subst hlt
    rw [List.take_length] at hno
    have hfe := firstErr_all hno
    repeat first | (with_reducible refine oj ?_; refine AOps.auto tabOk rfl ?_) | (with_reducible first | refine o1 ?_ | refine o2 ?_ | refine o3 ?_ | refine o4 ?_ | refine o5 ?_ | refine o6 ?_ | refine o7 ?_ | refine o8 ?_ | refine o9 ?_ | refine oa ?_ | refine ob ?_ | refine oc ?_ | refine od ?_ | refine oe ?_ | refine og ?_ | refine oh ?_ | refine oi ?_) | (with_reducible refine cExitMiss ?_ ?_; rfl) | (with_reducible refine ok ?_; first | refine ACode.condT rfl ?_ | refine ACode.condF rfl ?_)
    refine AOps.callC hΓ0 (typeError_ok s.vars s.ty h2 1 (by omega) (by omega)) rfl rfl rfl rfl rfl rfl rfl hou (by simp) ?_
    repeat first | (with_reducible refine oj ?_; refine AOps.auto tabOk rfl ?_) | (with_reducible first | refine o1 ?_ | refine o2 ?_ | refine o3 ?_ | refine o4 ?_ | refine o5 ?_ | refine o6 ?_ | refine o7 ?_ | refine o8 ?_ | refine o9 ?_ | refine oa ?_ | refine ob ?_ | refine oc ?_ | refine od ?_ | refine oe ?_ | refine og ?_ | refine oh ?_ | refine oi ?_) | (with_reducible refine cExitMiss ?_ ?_; rfl) | (with_reducible refine ok ?_; first | refine ACode.condT rfl ?_ | refine ACode.condF rfl ?_)
    refine APure.fin rfl (WkF.ofEq ?_) (by simp) hou rfl
    rw [hval, hfe]; simp
end Go.Proofs.YtoojdmgbffnmiaaDoor
