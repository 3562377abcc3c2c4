/- TypeText and SameType: the text of a type. -/
import Derived.Test.YtoojdmgbffnmiaaDoorB8
import Derived.Shelf.Small.Utf8
import Derived.Shelf.Small.Strs
import Derived.Shelf.Strings.Search1
import Derived.Shelf.Strings.Runes
import Derived.Shelf.Strings.IndexAny
import Derived.Shelf.Strings.AsciiSet
import Derived.Shelf.Strings.IndexAnyAll
import Derived.Test.YtoojdmgbffnmiaaDoorProg
namespace Go.Proofs.YtoojdmgbffnmiaaDoor
open Go Go.Abs
set_option maxRecDepth 10000
set_option linter.unusedVariables false
set_option linter.unusedSimpArgs false
variable {Γ : List (Nat × List AC)}
def sLt : Str := ⟨#[60]⟩
def sGt : Str := ⟨#[62]⟩
def sCol : Str := ⟨#[58]⟩
def sSem : Str := ⟨#[59]⟩
def textHead (k : Int) (n : Str) (v : Int) : Str :=
  let o1 := numS k ++ sLt
  let o2 := if k = 0 then o1 ++ numS v else o1
  if k = 1 ∨ k = 5 then o2 ++ (numS n.size ++ sCol ++ n) else o2
mutual
def textTy : Ty → Str
  | .mk k n v us => textArgs (textHead k n v) us ++ sGt
def textArgs (o : Str) : List Ty → Str
  | [] => o
  | t :: ts => textArgs (o ++ (sSem ++ textTy t)) ts
end
mutual
/-- The numbers of a type are in range. -/
def rngTy : Ty → Prop
  | .mk k _ v us => (-9223372036854775808 ≤ k ∧ k ≤ 9223372036854775807) ∧ (-9223372036854775808 ≤ v ∧ v ≤ 9223372036854775807) ∧ rngTys us
def rngTys : List Ty → Prop
  | [] => True
  | t :: ts => rngTy t ∧ rngTys ts
end
theorem rngTys_iff : ∀ {l : List Ty}, rngTys l ↔ ∀ t ∈ l, rngTy t
  | [] => by simp [rngTys]
  | t :: ts => by simp [rngTys, rngTys_iff (l := ts)]
mutual
def wTy : Ty → Nat
  | .mk _ n _ us => 100 + n.size + wTys us
def wTys : List Ty → Nat
  | [] => 0
  | t :: ts => wTy t + 1 + wTys ts
end
theorem wTys_mem : ∀ {l : List Ty} {t : Ty}, t ∈ l → wTy t ≤ wTys l
  | t :: ts, u, h => by
    rcases List.mem_cons.1 h with rfl | h
    · simp only [wTys]; omega
    · have := wTys_mem h; simp only [wTys]; omega
theorem textHead_size (k : Int) (n : Str) (v : Int) (hk : -9223372036854775808 ≤ k ∧ k ≤ 9223372036854775807) (hv : -9223372036854775808 ≤ v ∧ v ≤ 9223372036854775807) (hn : n.size ≤ 1099511627776) : (textHead k n v).size ≤ 90 + n.size := by
  have h1 := numS_size k hk.1 hk.2
  have h2 := numS_size v hv.1 hv.2
  have h3 := numS_size n.size (by omega) (by omega)
  have e1 : sLt.size = 1 := rfl
  have e2 : sCol.size = 1 := rfl
  unfold textHead
  simp only []
  split <;> split <;> simp only [ByteArray.size_append, e1, e2] <;> omega
mutual
theorem textTy_size : ∀ t : Ty, rngTy t → wTy t ≤ 1099511627776 → (textTy t).size ≤ wTy t
  | .mk k n v us, hr, hw => by
    simp only [rngTy] at hr
    simp only [wTy] at hw
    have h1 := textHead_size k n v hr.1 hr.2.1 (by omega)
    have h2 := textArgs_size (textHead k n v) us hr.2.2 (by omega)
    have e1 : sGt.size = 1 := rfl
    simp only [textTy, wTy, ByteArray.size_append, e1]
    omega
theorem textArgs_size (o : Str) : ∀ l : List Ty, rngTys l → wTys l ≤ 1099511627776 → (textArgs o l).size ≤ o.size + wTys l
  | [], _, _ => by simp [textArgs]
  | t :: ts, hr, hw => by
    simp only [rngTys] at hr
    simp only [wTys] at hw
    have h1 := textTy_size t hr.1 (by omega)
    have h2 := textArgs_size (o ++ (sSem ++ textTy t)) ts hr.2 (by omega)
    have e1 : sSem.size = 1 := rfl
    simp only [ByteArray.size_append, e1] at h2
    simp only [textArgs, wTys]
    omega
end
theorem textArgs_succ {o : Str} : ∀ {l : List Ty} {j : Nat} {a : Ty}, l[j]? = some a → textArgs o (l.take (j + 1)) = textArgs o (l.take j) ++ (sSem ++ textTy a)
  | [], j, a, h => by simp at h
  | t :: ts, 0, a, h => by simp at h; subst h; simp [textArgs]
  | t :: ts, j + 1, a, h => by simp only [List.take_succ_cons, textArgs]; exact textArgs_succ (by simpa using h)
theorem wTys_take : ∀ (l : List Ty) (j : Nat), wTys (l.take j) ≤ wTys l
  | [], j => by simp
  | t :: ts, 0 => by simp [wTys]
  | t :: ts, j + 1 => by have := wTys_take ts j; simp only [List.take_succ_cons, wTys]; omega
theorem rngTys_take {l : List Ty} (h : rngTys l) (j : Nat) : rngTys (l.take j) := rngTys_iff.2 fun t ht => rngTys_iff.1 h t (List.mem_of_mem_take ht)
theorem TypeText_ok (hΓ : ∀ g cs, (g, cs) ∈ Γ → idsL isO cs) : ∀ (t : Ty), smallTy t → rngTy t → wTy t ≤ 1099511627776 → APure Tryd.prog Γ 48 [.agg (cTy t)] (.one (str (textTy t)))
  | .mk k n v ts, ht, hr, hw => by
    have ih : ∀ a ∈ ts, APure Tryd.prog Γ 48 [.agg (cTy a)] (.one (str (textTy a))) := fun a ha =>
      TypeText_ok hΓ a (smallTys_iff.1 ht.2 a ha) (rngTys_iff.1 hr.2.2 a ha) (by have := wTys_mem ha; simp only [wTy] at hw; omega)
    have hlen := ht.1
    have hrs := hr.2.2
    have hnk := num_any hΓ k hr.1.1 hr.1.2
    have hnv := num_any hΓ v hr.2.1.1 hr.2.1.2
    simp only [wTy] at hw
    have hnn := num_any hΓ n.size (by omega) (by omega)
    have s1 := numS_size k hr.1.1 hr.1.2
    have s2 := numS_size v hr.2.1.1 hr.2.1.2
    have s3 := numS_size n.size (by omega) (by omega)
    have e1 : sLt.size = 1 := rfl
    have e2 : sCol.size = 1 := rfl
    have e3 : sGt.size = 1 := rfl
    have e4 : sSem.size = 1 := rfl
    have hh := textHead_size k n v hr.1 hr.2.1 (by omega)
    intro ou
    refine AFn.walk 51 tabOk Tryd.func48 rfl (by kernel_rfl) rfl rfl fun hou => ?_
    repeat first | (with_reducible refine oj ?_; refine AOps.auto tabOk rfl ?_) | (with_reducible first | refine o1 ?_ | refine o2 ?_ | refine o3 ?_ | refine o4 ?_ | refine o5 ?_ | refine o6 ?_ | refine o7 ?_ | refine o8 ?_ | refine o9 ?_ | refine oa ?_ | refine ob ?_ | refine oc ?_ | refine od ?_ | refine oe ?_ | refine og ?_ | refine oh ?_ | refine oi ?_) | (with_reducible refine cExitMiss ?_ ?_; rfl) | (with_reducible refine ok ?_; first | refine ACode.condT rfl ?_ | refine ACode.condF rfl ?_)
    refine AOps.callC hΓ hnk rfl rfl rfl rfl rfl rfl rfl hou (by simp) ?_
    repeat first | (with_reducible refine oj ?_; refine AOps.auto tabOk rfl ?_) | (with_reducible first | refine o1 ?_ | refine o2 ?_ | refine o3 ?_ | refine o4 ?_ | refine o5 ?_ | refine o6 ?_ | refine o7 ?_ | refine o8 ?_ | refine o9 ?_ | refine oa ?_ | refine ob ?_ | refine oc ?_ | refine od ?_ | refine oe ?_ | refine og ?_ | refine oh ?_ | refine oi ?_) | (with_reducible refine cExitMiss ?_ ?_; rfl) | (with_reducible refine ok ?_; first | refine ACode.condT rfl ?_ | refine ACode.condF rfl ?_)
    refine AOps.step1 rfl rfl rfl (AStep.concat (b := sLt) rfl rfl rfl (by rw [e1]; omega)) ?_
    repeat first | (with_reducible refine oj ?_; refine AOps.auto tabOk rfl ?_) | (with_reducible first | refine o1 ?_ | refine o2 ?_ | refine o3 ?_ | refine o4 ?_ | refine o5 ?_ | refine o6 ?_ | refine o7 ?_ | refine o8 ?_ | refine o9 ?_ | refine oa ?_ | refine ob ?_ | refine oc ?_ | refine od ?_ | refine oe ?_ | refine og ?_ | refine oh ?_ | refine oi ?_) | (with_reducible refine cExitMiss ?_ ?_; rfl) | (with_reducible refine ok ?_; first | refine ACode.condT rfl ?_ | refine ACode.condF rfl ?_)
    refine ACode.cutR hΓ (α := Str) (fun o => [(3, .one (str o)), (1, .one (.ptr (.l 0) 0))]) (fun _ => ⟨1, [(0, .cells (cTy (.mk k n v ts)))], ou⟩) (fun o => o = if k = 0 then numS k ++ sLt ++ numS v else numS k ++ sLt) ?_ fun o ho => ?_
    · refine ACode.cond rfl (fun hb => ?_) (fun hb => ?_)
      · have hk : k = 0 := by simpa using hb
        repeat first | (with_reducible refine oj ?_; refine AOps.auto tabOk rfl ?_) | (with_reducible first | refine o1 ?_ | refine o2 ?_ | refine o3 ?_ | refine o4 ?_ | refine o5 ?_ | refine o6 ?_ | refine o7 ?_ | refine o8 ?_ | refine o9 ?_ | refine oa ?_ | refine ob ?_ | refine oc ?_ | refine od ?_ | refine oe ?_ | refine og ?_ | refine oh ?_ | refine oi ?_) | (with_reducible refine cExitMiss ?_ ?_; rfl) | (with_reducible refine ok ?_; first | refine ACode.condT rfl ?_ | refine ACode.condF rfl ?_)
        refine AOps.callC hΓ hnv rfl rfl rfl rfl rfl rfl rfl hou (by simp) ?_
        repeat first | (with_reducible refine oj ?_; refine AOps.auto tabOk rfl ?_) | (with_reducible first | refine o1 ?_ | refine o2 ?_ | refine o3 ?_ | refine o4 ?_ | refine o5 ?_ | refine o6 ?_ | refine o7 ?_ | refine o8 ?_ | refine o9 ?_ | refine oa ?_ | refine ob ?_ | refine oc ?_ | refine od ?_ | refine oe ?_ | refine og ?_ | refine oh ?_ | refine oi ?_) | (with_reducible refine cExitMiss ?_ ?_; rfl) | (with_reducible refine ok ?_; first | refine ACode.condT rfl ?_ | refine ACode.condF rfl ?_)
        refine AOps.step1 rfl rfl rfl (AStep.concat rfl rfl rfl (by simp only [ByteArray.size_append, e1]; omega)) ?_
        repeat first | (with_reducible refine oj ?_; refine AOps.auto tabOk rfl ?_) | (with_reducible first | refine o1 ?_ | refine o2 ?_ | refine o3 ?_ | refine o4 ?_ | refine o5 ?_ | refine o6 ?_ | refine o7 ?_ | refine o8 ?_ | refine o9 ?_ | refine oa ?_ | refine ob ?_ | refine oc ?_ | refine od ?_ | refine oe ?_ | refine og ?_ | refine oh ?_ | refine oi ?_) | (with_reducible refine cExitMiss ?_ ?_; rfl) | (with_reducible refine ok ?_; first | refine ACode.condT rfl ?_ | refine ACode.condF rfl ?_)
        exact cInv ⟨_, id, by rw [if_pos hk], LessR.of rfl (by (repeat' first | exact FrSub.nil | refine FrSub.cons rfl (.ofEq rfl) ?_ | refine FrSub.consP rfl (.ofEq rfl) (by simp) ?_)) (by simp) (by repeat' first | exact LoSub.nil | refine LoSub.cons rfl ?_ rfl (by simp) ?_ | rfl | (refine (AObj.ren_pure _ _ ?_).symm; simp; done) | (simp [AObj.ren, renL, AC.ren, cTy]; done) | (simp [AObj.ren, renL, AC.ren, cTy]; rfl)) rfl rfl hou⟩
      · have hk : ¬ k = 0 := by simpa using hb
        repeat first | (with_reducible refine oj ?_; refine AOps.auto tabOk rfl ?_) | (with_reducible first | refine o1 ?_ | refine o2 ?_ | refine o3 ?_ | refine o4 ?_ | refine o5 ?_ | refine o6 ?_ | refine o7 ?_ | refine o8 ?_ | refine o9 ?_ | refine oa ?_ | refine ob ?_ | refine oc ?_ | refine od ?_ | refine oe ?_ | refine og ?_ | refine oh ?_ | refine oi ?_) | (with_reducible refine cExitMiss ?_ ?_; rfl) | (with_reducible refine ok ?_; first | refine ACode.condT rfl ?_ | refine ACode.condF rfl ?_)
        exact cInv ⟨_, id, by rw [if_neg hk], LessR.of rfl (by (repeat' first | exact FrSub.nil | refine FrSub.cons rfl (.ofEq rfl) ?_ | refine FrSub.consP rfl (.ofEq rfl) (by simp) ?_)) (by simp) (by repeat' first | exact LoSub.nil | refine LoSub.cons rfl ?_ rfl (by simp) ?_ | rfl | (refine (AObj.ren_pure _ _ ?_).symm; simp; done) | (simp [AObj.ren, renL, AC.ren, cTy]; done) | (simp [AObj.ren, renL, AC.ren, cTy]; rfl)) rfl rfl hou⟩
    have hos : o.size ≤ 41 := by rw [ho]; split <;> simp only [ByteArray.size_append, e1] <;> omega
    refine o2 ?_
    refine ACode.cutR hΓ (α := Str) (fun o => [(3, .one (str o)), (1, .one (.ptr (.l 0) 0))]) (fun _ => ⟨1, [(0, .cells (cTy (.mk k n v ts)))], ou⟩) (fun o => o = textHead k n v) ?_ fun o ho => ?_
    · have yes : k = 1 ∨ k = 5 → textHead k n v = o ++ (numS n.size ++ sCol ++ n) := fun h => by simp only [textHead]; rw [if_pos h, ho]
      have no : ¬ (k = 1 ∨ k = 5) → textHead k n v = o := fun h => by simp only [textHead]; rw [if_neg h, ho]
      repeat first | (with_reducible refine oj ?_; refine AOps.auto tabOk rfl ?_) | (with_reducible first | refine o1 ?_ | refine o2 ?_ | refine o3 ?_ | refine o4 ?_ | refine o5 ?_ | refine o6 ?_ | refine o7 ?_ | refine o8 ?_ | refine o9 ?_ | refine oa ?_ | refine ob ?_ | refine oc ?_ | refine od ?_ | refine oe ?_ | refine og ?_ | refine oh ?_ | refine oi ?_) | (with_reducible refine cExitMiss ?_ ?_; rfl) | (with_reducible refine ok ?_; first | refine ACode.condT rfl ?_ | refine ACode.condF rfl ?_)
      refine AOps.splitG rfl rfl rfl (fun hv => ?_) (fun hv => ?_)
      · have hk : k = 1 ∨ k = 5 := .inl (by simpa using hv)
        repeat first | (with_reducible refine oj ?_; refine AOps.auto tabOk rfl ?_) | (with_reducible first | refine o1 ?_ | refine o2 ?_ | refine o3 ?_ | refine o4 ?_ | refine o5 ?_ | refine o6 ?_ | refine o7 ?_ | refine o8 ?_ | refine o9 ?_ | refine oa ?_ | refine ob ?_ | refine oc ?_ | refine od ?_ | refine oe ?_ | refine og ?_ | refine oh ?_ | refine oi ?_) | (with_reducible refine cExitMiss ?_ ?_; rfl) | (with_reducible refine ok ?_; first | refine ACode.condT rfl ?_ | refine ACode.condF rfl ?_)
        refine ACode.drawX tabOk 10 [(4, .one (str (numS n.size))), (5, .one (str (numS n.size ++ sCol))), (8, .one (str (numS n.size ++ sCol ++ n))), (9, .one (str (o ++ (numS n.size ++ sCol ++ n))))] follows (by kernel_rfl) rfl rfl rfl rfl ?_ ?_
        · refine .call hΓ hnn hou (by simp) rfl rfl rfl rfl rfl rfl ?_
          refine .step rfl (HStep.plain rfl (AStep.concat (b := sCol) rfl rfl rfl (by rw [e2]; omega))) ?_
          refine .step rfl (HStep.plain rfl (AStep.concat rfl rfl rfl (by simp only [ByteArray.size_append, e2]; omega))) ?_
          refine .step rfl (HStep.plain rfl (AStep.concat rfl rfl rfl (by simp only [ByteArray.size_append, e2]; omega))) ?_
          exact .nil
        repeat first | (with_reducible refine oj ?_; refine AOps.auto tabOk rfl ?_) | (with_reducible first | refine o1 ?_ | refine o2 ?_ | refine o3 ?_ | refine o4 ?_ | refine o5 ?_ | refine o6 ?_ | refine o7 ?_ | refine o8 ?_ | refine o9 ?_ | refine oa ?_ | refine ob ?_ | refine oc ?_ | refine od ?_ | refine oe ?_ | refine og ?_ | refine oh ?_ | refine oi ?_) | (with_reducible refine cExitMiss ?_ ?_; rfl) | (with_reducible refine ok ?_; first | refine ACode.condT rfl ?_ | refine ACode.condF rfl ?_)
        exact cInv ⟨_, id, (yes hk).symm, LessR.of rfl (by (repeat' first | exact FrSub.nil | refine FrSub.cons rfl (.ofEq rfl) ?_ | refine FrSub.consP rfl (.ofEq rfl) (by simp) ?_)) (by simp) (by repeat' first | exact LoSub.nil | refine LoSub.cons rfl ?_ rfl (by simp) ?_ | rfl | (refine (AObj.ren_pure _ _ ?_).symm; simp; done) | (simp [AObj.ren, renL, AC.ren, cTy]; done) | (simp [AObj.ren, renL, AC.ren, cTy]; rfl)) rfl rfl hou⟩
      · repeat first | (with_reducible refine oj ?_; refine AOps.auto tabOk rfl ?_) | (with_reducible first | refine o1 ?_ | refine o2 ?_ | refine o3 ?_ | refine o4 ?_ | refine o5 ?_ | refine o6 ?_ | refine o7 ?_ | refine o8 ?_ | refine o9 ?_ | refine oa ?_ | refine ob ?_ | refine oc ?_ | refine od ?_ | refine oe ?_ | refine og ?_ | refine oh ?_ | refine oi ?_) | (with_reducible refine cExitMiss ?_ ?_; rfl) | (with_reducible refine ok ?_; first | refine ACode.condT rfl ?_ | refine ACode.condF rfl ?_)
        refine ACode.cond rfl (fun hb => ?_) (fun hb => ?_)
        · have hk : k = 1 ∨ k = 5 := .inr (by simpa using hb)
          repeat first | (with_reducible refine oj ?_; refine AOps.auto tabOk rfl ?_) | (with_reducible first | refine o1 ?_ | refine o2 ?_ | refine o3 ?_ | refine o4 ?_ | refine o5 ?_ | refine o6 ?_ | refine o7 ?_ | refine o8 ?_ | refine o9 ?_ | refine oa ?_ | refine ob ?_ | refine oc ?_ | refine od ?_ | refine oe ?_ | refine og ?_ | refine oh ?_ | refine oi ?_) | (with_reducible refine cExitMiss ?_ ?_; rfl) | (with_reducible refine ok ?_; first | refine ACode.condT rfl ?_ | refine ACode.condF rfl ?_)
          refine ACode.drawX tabOk 10 [(4, .one (str (numS n.size))), (5, .one (str (numS n.size ++ sCol))), (8, .one (str (numS n.size ++ sCol ++ n))), (9, .one (str (o ++ (numS n.size ++ sCol ++ n))))] follows (by kernel_rfl) rfl rfl rfl rfl ?_ ?_
          · refine .call hΓ hnn hou (by simp) rfl rfl rfl rfl rfl rfl ?_
            refine .step rfl (HStep.plain rfl (AStep.concat (b := sCol) rfl rfl rfl (by rw [e2]; omega))) ?_
            refine .step rfl (HStep.plain rfl (AStep.concat rfl rfl rfl (by simp only [ByteArray.size_append, e2]; omega))) ?_
            refine .step rfl (HStep.plain rfl (AStep.concat rfl rfl rfl (by simp only [ByteArray.size_append, e2]; omega))) ?_
            exact .nil
          repeat first | (with_reducible refine oj ?_; refine AOps.auto tabOk rfl ?_) | (with_reducible first | refine o1 ?_ | refine o2 ?_ | refine o3 ?_ | refine o4 ?_ | refine o5 ?_ | refine o6 ?_ | refine o7 ?_ | refine o8 ?_ | refine o9 ?_ | refine oa ?_ | refine ob ?_ | refine oc ?_ | refine od ?_ | refine oe ?_ | refine og ?_ | refine oh ?_ | refine oi ?_) | (with_reducible refine cExitMiss ?_ ?_; rfl) | (with_reducible refine ok ?_; first | refine ACode.condT rfl ?_ | refine ACode.condF rfl ?_)
          exact cInv ⟨_, id, (yes hk).symm, LessR.of rfl (by (repeat' first | exact FrSub.nil | refine FrSub.cons rfl (.ofEq rfl) ?_ | refine FrSub.consP rfl (.ofEq rfl) (by simp) ?_)) (by simp) (by repeat' first | exact LoSub.nil | refine LoSub.cons rfl ?_ rfl (by simp) ?_ | rfl | (refine (AObj.ren_pure _ _ ?_).symm; simp; done) | (simp [AObj.ren, renL, AC.ren, cTy]; done) | (simp [AObj.ren, renL, AC.ren, cTy]; rfl)) rfl rfl hou⟩
        · have hk : ¬ (k = 1 ∨ k = 5) := by simp at hv hb; simp [hv, hb]
          repeat first | (with_reducible refine oj ?_; refine AOps.auto tabOk rfl ?_) | (with_reducible first | refine o1 ?_ | refine o2 ?_ | refine o3 ?_ | refine o4 ?_ | refine o5 ?_ | refine o6 ?_ | refine o7 ?_ | refine o8 ?_ | refine o9 ?_ | refine oa ?_ | refine ob ?_ | refine oc ?_ | refine od ?_ | refine oe ?_ | refine og ?_ | refine oh ?_ | refine oi ?_) | (with_reducible refine cExitMiss ?_ ?_; rfl) | (with_reducible refine ok ?_; first | refine ACode.condT rfl ?_ | refine ACode.condF rfl ?_)
          exact cInv ⟨_, id, (no hk).symm, LessR.of rfl (by (repeat' first | exact FrSub.nil | refine FrSub.cons rfl (.ofEq rfl) ?_ | refine FrSub.consP rfl (.ofEq rfl) (by simp) ?_)) (by simp) (by repeat' first | exact LoSub.nil | refine LoSub.cons rfl ?_ rfl (by simp) ?_ | rfl | (refine (AObj.ren_pure _ _ ?_).symm; simp; done) | (simp [AObj.ren, renL, AC.ren, cTy]; done) | (simp [AObj.ren, renL, AC.ren, cTy]; rfl)) rfl rfl hou⟩
    subst ho
    repeat first | (with_reducible refine oj ?_; refine AOps.auto tabOk rfl ?_) | (with_reducible first | refine o1 ?_ | refine o2 ?_ | refine o3 ?_ | refine o4 ?_ | refine o5 ?_ | refine o6 ?_ | refine o7 ?_ | refine o8 ?_ | refine o9 ?_ | refine oa ?_ | refine ob ?_ | refine oc ?_ | refine od ?_ | refine oe ?_ | refine og ?_ | refine oh ?_ | refine oi ?_) | (with_reducible refine cExitMiss ?_ ?_; rfl) | (with_reducible refine ok ?_; first | refine ACode.condT rfl ?_ | refine ACode.condF rfl ?_)
    refine ACode.loopR hΓ (α := Nat) (fun j => [(39, .one (int j)), (38, .one (int (encTys ts).length)), (37, .one (.sl 4 (encTys ts))), (3, .one (str (textArgs (textHead k n v) (ts.take j))))])
      (fun j => ⟨0, [], ou⟩) (fun m j => j ≤ ts.length ∧ m = ts.length - j) (a0 := 0) (ρ := id) ⟨by omega, rfl⟩ (LessR.of rfl (by (repeat' first | exact FrSub.nil | refine FrSub.cons rfl (.ofEq rfl) ?_ | refine FrSub.consP rfl (.ofEq rfl) (by simp) ?_)) (by simp) (by repeat' first | exact LoSub.nil | refine LoSub.cons rfl ?_ rfl (by simp) ?_ | rfl | (refine (AObj.ren_pure _ _ ?_).symm; simp; done) | (simp [AObj.ren, renL, AC.ren, cTy]; done) | (simp [AObj.ren, renL, AC.ren, cTy]; rfl)) rfl rfl hou) fun m j hj => ?_
    obtain ⟨hjl, rfl⟩ := hj
    repeat first | (with_reducible refine oj ?_; refine AOps.auto tabOk rfl ?_) | (with_reducible first | refine o1 ?_ | refine o2 ?_ | refine o3 ?_ | refine o4 ?_ | refine o5 ?_ | refine o6 ?_ | refine o7 ?_ | refine o8 ?_ | refine o9 ?_ | refine oa ?_ | refine ob ?_ | refine oc ?_ | refine od ?_ | refine oe ?_ | refine og ?_ | refine oh ?_ | refine oi ?_) | (with_reducible refine cExitMiss ?_ ?_; rfl) | (with_reducible refine ok ?_; first | refine ACode.condT rfl ?_ | refine ACode.condF rfl ?_)
    refine ACode.cond rfl (fun hb2 => ?_) (fun hb2 => ?_)
    · have hlt : j < ts.length := by simpa using hb2
      obtain ⟨a, ha⟩ := get_of_lt hlt
      have hma := List.mem_of_getElem? ha
      have hwa := wTys_mem hma
      have hsz := textTy_size a (rngTys_iff.1 hrs a hma) (by omega)
      have hsl := textArgs_size (textHead k n v) (ts.take j) (rngTys_take hrs j) (by have := wTys_take ts j; omega)
      have hwt := wTys_take ts j
      repeat first | (with_reducible refine oj ?_; refine AOps.auto tabOk rfl ?_) | (with_reducible first | refine o1 ?_ | refine o2 ?_ | refine o3 ?_ | refine o4 ?_ | refine o5 ?_ | refine o6 ?_ | refine o7 ?_ | refine o8 ?_ | refine o9 ?_ | refine oa ?_ | refine ob ?_ | refine oc ?_ | refine od ?_ | refine oe ?_ | refine og ?_ | refine oh ?_ | refine oi ?_) | (with_reducible refine cExitMiss ?_ ?_; rfl) | (with_reducible refine ok ?_; first | refine ACode.condT rfl ?_ | refine ACode.condF rfl ?_)
      refine AOps.step1 rfl rfl rfl (AStep.indexAddr tabOk rfl rfl rfl rfl rfl rfl (.inl rfl) rfl (by omega) (by simpa using encTys_get ha)) ?_
      repeat first | (with_reducible refine oj ?_; refine AOps.auto tabOk rfl ?_) | (with_reducible first | refine o1 ?_ | refine o2 ?_ | refine o3 ?_ | refine o4 ?_ | refine o5 ?_ | refine o6 ?_ | refine o7 ?_ | refine o8 ?_ | refine o9 ?_ | refine oa ?_ | refine ob ?_ | refine oc ?_ | refine od ?_ | refine oe ?_ | refine og ?_ | refine oh ?_ | refine oi ?_) | (with_reducible refine cExitMiss ?_ ?_; rfl) | (with_reducible refine ok ?_; first | refine ACode.condT rfl ?_ | refine ACode.condF rfl ?_)
      refine AOps.callC hΓ (ih a hma) rfl rfl rfl rfl rfl rfl rfl hou (by simp) ?_
      repeat first | (with_reducible refine oj ?_; refine AOps.auto tabOk rfl ?_) | (with_reducible first | refine o1 ?_ | refine o2 ?_ | refine o3 ?_ | refine o4 ?_ | refine o5 ?_ | refine o6 ?_ | refine o7 ?_ | refine o8 ?_ | refine o9 ?_ | refine oa ?_ | refine ob ?_ | refine oc ?_ | refine od ?_ | refine oe ?_ | refine og ?_ | refine oh ?_ | refine oi ?_) | (with_reducible refine cExitMiss ?_ ?_; rfl) | (with_reducible refine ok ?_; first | refine ACode.condT rfl ?_ | refine ACode.condF rfl ?_)
      refine AOps.step1 rfl rfl rfl (AStep.concat (a := sSem) rfl rfl rfl (by rw [e4]; omega)) ?_
      repeat first | (with_reducible refine oj ?_; refine AOps.auto tabOk rfl ?_) | (with_reducible first | refine o1 ?_ | refine o2 ?_ | refine o3 ?_ | refine o4 ?_ | refine o5 ?_ | refine o6 ?_ | refine o7 ?_ | refine o8 ?_ | refine o9 ?_ | refine oa ?_ | refine ob ?_ | refine oc ?_ | refine od ?_ | refine oe ?_ | refine og ?_ | refine oh ?_ | refine oi ?_) | (with_reducible refine cExitMiss ?_ ?_; rfl) | (with_reducible refine ok ?_; first | refine ACode.condT rfl ?_ | refine ACode.condF rfl ?_)
      refine AOps.step1 rfl rfl rfl (AStep.concat rfl rfl rfl (by simp only [ByteArray.size_append, e4]; omega)) ?_
      repeat first | (with_reducible refine oj ?_; refine AOps.auto tabOk rfl ?_) | (with_reducible first | refine o1 ?_ | refine o2 ?_ | refine o3 ?_ | refine o4 ?_ | refine o5 ?_ | refine o6 ?_ | refine o7 ?_ | refine o8 ?_ | refine o9 ?_ | refine oa ?_ | refine ob ?_ | refine oc ?_ | refine od ?_ | refine oe ?_ | refine og ?_ | refine oh ?_ | refine oi ?_) | (with_reducible refine cExitMiss ?_ ?_; rfl) | (with_reducible refine ok ?_; first | refine ACode.condT rfl ?_ | refine ACode.condF rfl ?_)
      refine AOps.step1 rfl rfl rfl (AStep.arith rfl rfl rfl (.inl ⟨rfl, rfl⟩) (inRange_i64 (by omega) (by omega))) ?_
      repeat first | (with_reducible refine oj ?_; refine AOps.auto tabOk rfl ?_) | (with_reducible first | refine o1 ?_ | refine o2 ?_ | refine o3 ?_ | refine o4 ?_ | refine o5 ?_ | refine o6 ?_ | refine o7 ?_ | refine o8 ?_ | refine o9 ?_ | refine oa ?_ | refine ob ?_ | refine oc ?_ | refine od ?_ | refine oe ?_ | refine og ?_ | refine oh ?_ | refine oi ?_) | (with_reducible refine cExitMiss ?_ ?_; rfl) | (with_reducible refine ok ?_; first | refine ACode.condT rfl ?_ | refine ACode.condF rfl ?_)
      refine cInv ⟨ts.length - (j + 1), j + 1, id, by omega, ⟨by omega, rfl⟩, LessR.of rfl ?_ (by simp) (by repeat' first | exact LoSub.nil | refine LoSub.cons rfl ?_ rfl (by simp) ?_ | rfl | (refine (AObj.ren_pure _ _ ?_).symm; simp; done) | (simp [AObj.ren, renL, AC.ren, cTy]; done) | (simp [AObj.ren, renL, AC.ren, cTy]; rfl)) rfl rfl hou⟩
      (repeat' first | exact FrSub.nil | refine FrSub.cons rfl (.ofEq rfl) ?_ | refine FrSub.consP rfl (.ofEq rfl) (by simp) ?_)
      refine .cons rfl (.ofEq ?_) .nil
      rw [textArgs_succ ha]; rfl
    · have hlt : j = ts.length := by simp at hb2; omega
      subst hlt
      have hsl := textArgs_size (textHead k n v) ts hrs (by omega)
      rw [List.take_length]
      repeat first | (with_reducible refine oj ?_; refine AOps.auto tabOk rfl ?_) | (with_reducible first | refine o1 ?_ | refine o2 ?_ | refine o3 ?_ | refine o4 ?_ | refine o5 ?_ | refine o6 ?_ | refine o7 ?_ | refine o8 ?_ | refine o9 ?_ | refine oa ?_ | refine ob ?_ | refine oc ?_ | refine od ?_ | refine oe ?_ | refine og ?_ | refine oh ?_ | refine oi ?_) | (with_reducible refine cExitMiss ?_ ?_; rfl) | (with_reducible refine ok ?_; first | refine ACode.condT rfl ?_ | refine ACode.condF rfl ?_)
      refine AOps.step1 rfl rfl rfl (AStep.concat (b := sGt) rfl rfl rfl (by rw [e3]; omega)) ?_
      repeat first | (with_reducible refine oj ?_; refine AOps.auto tabOk rfl ?_) | (with_reducible first | refine o1 ?_ | refine o2 ?_ | refine o3 ?_ | refine o4 ?_ | refine o5 ?_ | refine o6 ?_ | refine o7 ?_ | refine o8 ?_ | refine o9 ?_ | refine oa ?_ | refine ob ?_ | refine oc ?_ | refine od ?_ | refine oe ?_ | refine og ?_ | refine oh ?_ | refine oi ?_) | (with_reducible refine cExitMiss ?_ ?_; rfl) | (with_reducible refine ok ?_; first | refine ACode.condT rfl ?_ | refine ACode.condF rfl ?_)
      exact APure.fin rfl (WkF.ofEq rfl) (by simp) hou rfl
theorem SameType_ok (hΓ : ∀ g cs, (g, cs) ∈ Γ → idsL isO cs) (a b : Ty) (ha : smallTy a) (hra : rngTy a) (hwa : wTy a ≤ 1099511627776) (hb : smallTy b) (hrb : rngTy b) (hwb : wTy b ≤ 1099511627776) :
    APure Tryd.prog Γ 19 [.agg (cTy a), .agg (cTy b)] (.one (.lit (.bool ((textTy a).toList == (textTy b).toList)))) := by
  intro ou
  refine AFn.walk 10 tabOk Tryd.func19 rfl (by kernel_rfl) rfl rfl fun hou => ?_
  repeat first | (with_reducible refine oj ?_; refine AOps.auto tabOk rfl ?_) | (with_reducible first | refine o1 ?_ | refine o2 ?_ | refine o3 ?_ | refine o4 ?_ | refine o5 ?_ | refine o6 ?_ | refine o7 ?_ | refine o8 ?_ | refine o9 ?_ | refine oa ?_ | refine ob ?_ | refine oc ?_ | refine od ?_ | refine oe ?_ | refine og ?_ | refine oh ?_ | refine oi ?_) | (with_reducible refine cExitMiss ?_ ?_; rfl) | (with_reducible refine ok ?_; first | refine ACode.condT rfl ?_ | refine ACode.condF rfl ?_)
  refine ACode.drawX tabOk 5 [(1, .one (str (textTy a))), (3, .one (str (textTy b)))] follows (by kernel_rfl) rfl rfl rfl rfl ?_ ?_
  · refine .call hΓ (TypeText_ok hΓ a ha hra hwa) hou (by simp) rfl rfl rfl rfl rfl rfl ?_
    exact .call hΓ (TypeText_ok hΓ b hb hrb hwb) hou (by simp) rfl rfl rfl rfl rfl rfl .nil
  repeat first | (with_reducible refine oj ?_; refine AOps.auto tabOk rfl ?_) | (with_reducible first | refine o1 ?_ | refine o2 ?_ | refine o3 ?_ | refine o4 ?_ | refine o5 ?_ | refine o6 ?_ | refine o7 ?_ | refine o8 ?_ | refine o9 ?_ | refine oa ?_ | refine ob ?_ | refine oc ?_ | refine od ?_ | refine oe ?_ | refine og ?_ | refine oh ?_ | refine oi ?_) | (with_reducible refine cExitMiss ?_ ?_; rfl) | (with_reducible refine ok ?_; first | refine ACode.condT rfl ?_ | refine ACode.condF rfl ?_)
  exact APure.fin rfl (WkF.ofEq rfl) (by simp) hou rfl
end Go.Proofs.YtoojdmgbffnmiaaDoor
/-
  DERIVED: THE SHELF's CONTRACTS AT THIS DUMP, IN PLAIN WORDS (tools/lay-plain.mjs out of 'TrydShelf.lean', which tools/lay-shelf.mjs wrote): THE SAME DECLARATIONS UNDER THE SAME NAMES: 'import', 'namespace', 'open', 'def', 'theorem' AND NOTHING ELSE: no command of the shelf's: FOR A HAND-IN. Each laying: the table of numbers ('.._ren') and one theorem, a field a fact of the dump's own or the kernel's comparison; each contract: ONE APPLICATION.
-/
namespace Go.Proofs
open Go.Shelf
def Tryd.lays119_ren : Go.Shelf.Ren := ⟨fun | 119 => 90 | n => n, fun | 21 => 21 | 4 => 4 | n => n, fun | n => n⟩
theorem Tryd.lays119 : Go.Proofs.Lays.n119 Tryd.prog Tryd.lays119_ren := {
  mixed := by kernel_rfl
  f119 := Tryd.func90.trans (congrArg some (by kernel_rfl))
  t4 := Tryd.underlying4
  a4 := Tryd.isAgg4
  z4 := Tryd.sizeOf4
  v4 := Tryd.zeroValue4
  t21 := Tryd.underlying21
  a21 := Tryd.isAgg21
  z21 := Tryd.sizeOf21
  v21 := Tryd.zeroValue21 }
/-- utf8.ValidRune: "ValidRune reports whether r can be legally encoded as UTF-8. Code points that are out of range or a surrogate half are illegal.": IT RETURNS 'Lib.validRune r'; the world is as it was. (LAID: no walk: one application.) -/
theorem Tryd.utf8_ValidRune (r : Int) (w : World) :
    Calls Tryd.prog 90 #[.int .i32 r] w fun e w' => e = .returned (.bool (Lib.validRune r)) ∧ w' = w := Any.utf8_ValidRune Tryd.lays119 r w
def Tryd.lays213_ren : Go.Shelf.Ren := ⟨fun | 213 => 57 | 265 => 75 | n => n, fun | 9 => 9 | 3 => 3 | n => n, fun | n => n⟩
theorem Tryd.lays213 : Go.Proofs.Lays.n213 Tryd.prog Tryd.lays213_ren := {
  mixed := by kernel_rfl
  f213 := Tryd.func57.trans (congrArg some (by kernel_rfl))
  f265 := Tryd.func75.trans (congrArg some (by kernel_rfl))
  t3 := Tryd.underlying3
  a3 := Tryd.isAgg3
  z3 := Tryd.sizeOf3
  v3 := Tryd.zeroValue3
  t9 := Tryd.underlying9
  a9 := Tryd.isAgg9
  z9 := Tryd.sizeOf9
  v9 := Tryd.zeroValue9 }
open Go.RowKit in
/-- internal/bytealg.CompareString (what strings.Compare calls): IT RETURNS 'Lib.compareBytes a b'; the world is as it was. (LAID: no walk: one application.) -/
theorem Tryd.bytealg_CompareString (a b : ByteArray) (w : World) :
    Calls Tryd.prog 57 #[.string a, .string b] w fun e w' => e = .returned (.int .i64 (Lib.compareBytes a.data.toList b.data.toList)) ∧ w' = w := Any.bytealg_CompareString Tryd.lays213 a b w
def Tryd.lays106_ren : Go.Shelf.Ren := ⟨fun | 106 => 37 | 213 => 57 | 265 => 75 | n => n, fun | 9 => 9 | 3 => 3 | n => n, fun | n => n⟩
theorem Tryd.lays106 : Go.Proofs.Lays.n106 Tryd.prog Tryd.lays106_ren := {
  mixed := by kernel_rfl
  f106 := Tryd.func37.trans (congrArg some (by kernel_rfl))
  f213 := Tryd.func57.trans (congrArg some (by kernel_rfl))
  f265 := Tryd.func75.trans (congrArg some (by kernel_rfl))
  t3 := Tryd.underlying3
  a3 := Tryd.isAgg3
  z3 := Tryd.sizeOf3
  v3 := Tryd.zeroValue3
  t9 := Tryd.underlying9
  a9 := Tryd.isAgg9
  z9 := Tryd.sizeOf9
  v9 := Tryd.zeroValue9 }
open Go.RowKit in
/-- strings.Compare: "Compare returns an integer comparing two strings lexicographically. The result will be 0 if a == b, -1 if a < b, and +1 if a > b.": IT RETURNS 'Lib.compareBytes a b'; the world is as it was. (LAID: no walk: one application.) -/
theorem Tryd.strings_Compare (a b : ByteArray) (w : World) :
    Calls Tryd.prog 37 #[.string a, .string b] w fun e w' => e = .returned (.int .i64 (Lib.compareBytes a.data.toList b.data.toList)) ∧ w' = w := Any.strings_Compare Tryd.lays106 a b w
def Tryd.lays137_ren : Go.Shelf.Ren := ⟨fun | 137 => 89 | 217 => 98 | 266 => 101 | n => n, fun | 9 => 9 | 5 => 5 | 3 => 3 | n => n, fun | n => n⟩
theorem Tryd.lays137 : Go.Proofs.Lays.n137 Tryd.prog Tryd.lays137_ren := {
  mixed := by kernel_rfl
  f137 := Tryd.func89.trans (congrArg some (by kernel_rfl))
  f217 := Tryd.func98.trans (congrArg some (by kernel_rfl))
  f266 := Tryd.func101.trans (congrArg some (by kernel_rfl))
  t3 := Tryd.underlying3
  a3 := Tryd.isAgg3
  z3 := Tryd.sizeOf3
  v3 := Tryd.zeroValue3
  t5 := Tryd.underlying5
  a5 := Tryd.isAgg5
  z5 := Tryd.sizeOf5
  v5 := Tryd.zeroValue5
  t9 := Tryd.underlying9
  a9 := Tryd.isAgg9
  z9 := Tryd.sizeOf9
  v9 := Tryd.zeroValue9 }
open Go.RowKit in
/-- strings.IndexByte: "IndexByte returns the index of the first instance of c in s, or -1 if c is not present in s.": IT RETURNS 'Lib.indexByte s c'; the world is as it was. (LAID: no walk: one application.) -/
theorem Tryd.strings_IndexByte (s : ByteArray) (c : Int) (w : World) :
    Calls Tryd.prog 89 #[.string s, .int .u8 c] w fun e w' => e = .returned (.int .i64 (Lib.indexByte s.data.toList c.toNat.toUInt8)) ∧ w' = w := Any.strings_IndexByte Tryd.lays137 s c w
def Tryd.lays217_ren : Go.Shelf.Ren := ⟨fun | 217 => 98 | 266 => 101 | n => n, fun | 9 => 9 | 5 => 5 | 3 => 3 | n => n, fun | n => n⟩
theorem Tryd.lays217 : Go.Proofs.Lays.n217 Tryd.prog Tryd.lays217_ren := {
  mixed := by kernel_rfl
  f217 := Tryd.func98.trans (congrArg some (by kernel_rfl))
  f266 := Tryd.func101.trans (congrArg some (by kernel_rfl))
  t3 := Tryd.underlying3
  a3 := Tryd.isAgg3
  z3 := Tryd.sizeOf3
  v3 := Tryd.zeroValue3
  t5 := Tryd.underlying5
  a5 := Tryd.isAgg5
  z5 := Tryd.sizeOf5
  v5 := Tryd.zeroValue5
  t9 := Tryd.underlying9
  a9 := Tryd.isAgg9
  z9 := Tryd.sizeOf9
  v9 := Tryd.zeroValue9 }
open Go.RowKit Go.Lib in
/-- internal/stringslite.IndexByte (what strings.IndexByte calls): IT RETURNS 'Lib.indexByte s c'; the world is as it was. (LAID: no walk: one application.) -/
theorem Tryd.stringslite_IndexByte (s : ByteArray) (c : Int) (w : World) :
    Calls Tryd.prog 98 #[.string s, .int .u8 c] w fun e w' => e = .returned (.int .i64 (Lib.indexByte s.data.toList c.toNat.toUInt8)) ∧ w' = w := Any.stringslite_IndexByte Tryd.lays217 s c w
def Tryd.lays224_ren : Go.Shelf.Ren := ⟨fun | 224 => 91 | n => n, fun | 3 => 3 | n => n, fun | n => n⟩
theorem Tryd.lays224 : Go.Proofs.Lays.n224 Tryd.prog Tryd.lays224_ren := {
  mixed := by kernel_rfl
  f224 := Tryd.func91.trans (congrArg some (by kernel_rfl))
  t3 := Tryd.underlying3
  a3 := Tryd.isAgg3
  z3 := Tryd.sizeOf3
  v3 := Tryd.zeroValue3 }
open Go.RowKit Go.Lib in
/-- internal/bytealg.Cutover: "Cutover reports the number of failures of IndexByte we should tolerate before switching over to Index. n is the number of bytes processed so far.": on amd64: (n + 16) / 8. (LAID: no walk: one application.) -/
theorem Tryd.bytealg_Cutover (n : Int) (h0 : 0 ≤ n) (h1 : n < 4611686018427387904) (w : World) :
    Calls Tryd.prog 91 #[.int .i64 n] w fun e w' => e = .returned (.int .i64 ((n + 16) / 8)) ∧ w' = w := Any.bytealg_Cutover Tryd.lays224 n h0 h1 w
def Tryd.lays152_ren : Go.Shelf.Ren := ⟨fun | 152 => 81 | 137 => 89 | 119 => 90 | 224 => 91 | 225 => 92 | 217 => 98 | 266 => 101 | n => n, fun | 9 => 9 | 21 => 21 | 3 => 3 | 4 => 4 | 5 => 5 | 0 => 0 | 46 => 91 | n => n, fun | n => n⟩
theorem Tryd.lays152 : Go.Proofs.Lays.n152 Tryd.prog Tryd.lays152_ren := {
  mixed := by kernel_rfl
  f119 := Tryd.func90.trans (congrArg some (by kernel_rfl))
  f137 := Tryd.func89.trans (congrArg some (by kernel_rfl))
  f152 := Tryd.func81.trans (congrArg some (by kernel_rfl))
  f217 := Tryd.func98.trans (congrArg some (by kernel_rfl))
  f224 := Tryd.func91.trans (congrArg some (by kernel_rfl))
  f225 := Tryd.func92.trans (congrArg some (by kernel_rfl))
  f266 := Tryd.func101.trans (congrArg some (by kernel_rfl))
  t0 := Tryd.underlying0
  a0 := Tryd.isAgg0
  z0 := Tryd.sizeOf0
  v0 := Tryd.zeroValue0
  t3 := Tryd.underlying3
  a3 := Tryd.isAgg3
  z3 := Tryd.sizeOf3
  v3 := Tryd.zeroValue3
  t4 := Tryd.underlying4
  a4 := Tryd.isAgg4
  z4 := Tryd.sizeOf4
  v4 := Tryd.zeroValue4
  t5 := Tryd.underlying5
  a5 := Tryd.isAgg5
  z5 := Tryd.sizeOf5
  v5 := Tryd.zeroValue5
  t9 := Tryd.underlying9
  a9 := Tryd.isAgg9
  z9 := Tryd.sizeOf9
  v9 := Tryd.zeroValue9
  t21 := Tryd.underlying21
  a21 := Tryd.isAgg21
  z21 := Tryd.sizeOf21
  v21 := Tryd.zeroValue21
  t46 := Tryd.underlying91
  a46 := Tryd.isAgg91
  z46 := Tryd.sizeOf91
  v46 := Tryd.zeroValue91 }
open Go.RowKit Go.Lib in
theorem Tryd.strings_IndexRune_ascii (s : ByteArray) (r : Int) (w : World) (h0 : 0 ≤ r) (h1 : r < 128) :
    Calls Tryd.prog 81 #[.string s, .int .i32 r] w fun e w' => e = .returned (.int .i64 (Lib.indexByte s.data.toList r.toNat.toUInt8)) ∧ w' = w := Any.strings_IndexRune_ascii Tryd.lays152 s r w h0 h1
def Tryd.lays226_ren : Go.Shelf.Ren := ⟨fun | 226 => 82 | n => n, fun | 3 => 3 | 4 => 4 | n => n, fun | n => n⟩
theorem Tryd.lays226 : Go.Proofs.Lays.n226 Tryd.prog Tryd.lays226_ren := {
  mixed := by kernel_rfl
  f226 := Tryd.func82.trans (congrArg some (by kernel_rfl))
  t3 := Tryd.underlying3
  a3 := Tryd.isAgg3
  z3 := Tryd.sizeOf3
  v3 := Tryd.zeroValue3
  t4 := Tryd.underlying4
  a4 := Tryd.isAgg4
  z4 := Tryd.sizeOf4
  v4 := Tryd.zeroValue4 }
open Go.RowKit Go.Lib in
theorem Tryd.strings_shouldUseASCIISet (n : Int) (w : World) :
    Calls Tryd.prog 82 #[.int .i64 n] w fun e w' => e = .returned (.bool (decide (8 < n))) ∧ w' = w := Any.strings_shouldUseASCIISet Tryd.lays226 n w
def Tryd.lays153_ren : Go.Shelf.Ren := ⟨fun | 153 => 72 | 152 => 81 | 226 => 82 | 227 => 83 | 228 => 84 | 137 => 89 | 119 => 90 | 224 => 91 | 225 => 92 | 217 => 98 | 266 => 101 | n => n, fun | 9 => 9 | 3 => 3 | 4 => 4 | 5 => 5 | 21 => 21 | 117 => 128 | 116 => 127 | 0 => 0 | 46 => 91 | 124 => 141 | n => n, fun | n => n⟩
theorem Tryd.lays153 : Go.Proofs.Lays.n153 Tryd.prog Tryd.lays153_ren := {
  mixed := by kernel_rfl
  f119 := Tryd.func90.trans (congrArg some (by kernel_rfl))
  f137 := Tryd.func89.trans (congrArg some (by kernel_rfl))
  f152 := Tryd.func81.trans (congrArg some (by kernel_rfl))
  f153 := Tryd.func72.trans (congrArg some (by kernel_rfl))
  f217 := Tryd.func98.trans (congrArg some (by kernel_rfl))
  f224 := Tryd.func91.trans (congrArg some (by kernel_rfl))
  f225 := Tryd.func92.trans (congrArg some (by kernel_rfl))
  f226 := Tryd.func82.trans (congrArg some (by kernel_rfl))
  f227 := Tryd.func83.trans (congrArg some (by kernel_rfl))
  f228 := Tryd.func84.trans (congrArg some (by kernel_rfl))
  f266 := Tryd.func101.trans (congrArg some (by kernel_rfl))
  t0 := Tryd.underlying0
  a0 := Tryd.isAgg0
  z0 := Tryd.sizeOf0
  v0 := Tryd.zeroValue0
  t3 := Tryd.underlying3
  a3 := Tryd.isAgg3
  z3 := Tryd.sizeOf3
  v3 := Tryd.zeroValue3
  t4 := Tryd.underlying4
  a4 := Tryd.isAgg4
  z4 := Tryd.sizeOf4
  v4 := Tryd.zeroValue4
  t5 := Tryd.underlying5
  a5 := Tryd.isAgg5
  z5 := Tryd.sizeOf5
  v5 := Tryd.zeroValue5
  t9 := Tryd.underlying9
  a9 := Tryd.isAgg9
  z9 := Tryd.sizeOf9
  v9 := Tryd.zeroValue9
  t21 := Tryd.underlying21
  a21 := Tryd.isAgg21
  z21 := Tryd.sizeOf21
  v21 := Tryd.zeroValue21
  t46 := Tryd.underlying91
  a46 := Tryd.isAgg91
  z46 := Tryd.sizeOf91
  v46 := Tryd.zeroValue91
  t116 := Tryd.underlying127
  a116 := Tryd.isAgg127
  z116 := Tryd.sizeOf127
  t117 := Tryd.underlying128
  a117 := Tryd.isAgg128
  z117 := Tryd.sizeOf128
  v117 := Tryd.zeroValue128
  t124 := Tryd.underlying141
  a124 := Tryd.isAgg141
  z124 := Tryd.sizeOf141
  v124 := Tryd.zeroValue141 }
open Go.RowKit Go.Lib in
/-- chars is empty. (LAID: no walk: one application.) -/
theorem Tryd.strings_IndexAny_none (s chars : ByteArray) (w : World) (h0 : chars.size = 0) :
    Calls Tryd.prog 72 #[.string s, .string chars] w fun e w' => e = .returned (.int .i64 (Lib.indexAny s.data.toList chars.data.toList)) ∧ w' = w := Any.strings_IndexAny_none Tryd.lays153 s chars w h0
open Go.RowKit Go.Lib in
/-- chars is one ASCII byte. (LAID: no walk: one application.) -/
theorem Tryd.strings_IndexAny_one (s chars : ByteArray) (w : World) (h1 : chars.size = 1) (hascii : ∀ (j : Nat) b, chars.data.toList[j]? = some b → b.toNat < 128) :
    Calls Tryd.prog 72 #[.string s, .string chars] w fun e w' => e = .returned (.int .i64 (Lib.indexAny s.data.toList chars.data.toList)) ∧ w' = w := Any.strings_IndexAny_one Tryd.lays153 s chars w h1 hascii
open Go.RowKit Go.Lib in
/-- s of at most 8 bytes; chars of two or more: 'for i, c := range s { if IndexRune(chars, c) >= 0 { return i } }'. One block more: the model's iterator over s. (LAID: no walk: one application.) -/
theorem Tryd.strings_IndexAny_short (s chars : ByteArray) (w : World) (h2 : 2 ≤ chars.size) (h8 : s.size ≤ 8) (hascii : ∀ (j : Nat) b, s.data.toList[j]? = some b → b.toNat < 128) :
    Calls Tryd.prog 72 #[.string s, .string chars] w fun e w' => e = .returned (.int .i64 (Lib.indexAny s.data.toList chars.data.toList)) ∧ ∃ pos, w' = w.iter s pos := Any.strings_IndexAny_short Tryd.lays153 s chars w h2 h8 hascii
def Tryd.lays227_ren : Go.Shelf.Ren := ⟨fun | 227 => 83 | n => n, fun | 9 => 9 | 116 => 127 | 4 => 4 | 0 => 0 | 3 => 3 | 5 => 5 | n => n, fun | n => n⟩
theorem Tryd.lays227 : Go.Proofs.Lays.n227 Tryd.prog Tryd.lays227_ren := {
  mixed := by kernel_rfl
  f227 := Tryd.func83.trans (congrArg some (by kernel_rfl))
  t0 := Tryd.underlying0
  a0 := Tryd.isAgg0
  z0 := Tryd.sizeOf0
  v0 := Tryd.zeroValue0
  t3 := Tryd.underlying3
  a3 := Tryd.isAgg3
  z3 := Tryd.sizeOf3
  v3 := Tryd.zeroValue3
  t4 := Tryd.underlying4
  a4 := Tryd.isAgg4
  z4 := Tryd.sizeOf4
  v4 := Tryd.zeroValue4
  t5 := Tryd.underlying5
  a5 := Tryd.isAgg5
  z5 := Tryd.sizeOf5
  v5 := Tryd.zeroValue5
  t9 := Tryd.underlying9
  a9 := Tryd.isAgg9
  z9 := Tryd.sizeOf9
  v9 := Tryd.zeroValue9
  t116 := Tryd.underlying127
  a116 := Tryd.isAgg127
  z116 := Tryd.sizeOf127 }
open Go.RowKit Go.Lib in
theorem Tryd.strings_makeASCIISet (hv116 : ∀ w, (zeroValue 127).run Tryd.prog w = .ok (.agg (Array.replicate 256 (.bool false))) w) (chars : ByteArray) (w : World) (hs : chars.size < 4294967281) (hascii : ∀ (j : Nat) b, chars.data.toList[j]? = some b → b.toNat < 128) :
    Calls Tryd.prog 83 #[.string chars] w fun e w' => e = .returned (.tuple #[.agg (Lib.setCells chars.data.toList), .bool true]) ∧ w' = w.alloc (.cells (Lib.setCells chars.data.toList) 127) := Any.strings_makeASCIISet Tryd.lays227 hv116 (by kernel_rfl) chars w hs hascii
def Tryd.lays228_ren : Go.Shelf.Ren := ⟨fun | 228 => 84 | n => n, fun | 124 => 141 | 5 => 5 | 4 => 4 | 0 => 0 | 116 => 127 | n => n, fun | n => n⟩
theorem Tryd.lays228 : Go.Proofs.Lays.n228 Tryd.prog Tryd.lays228_ren := {
  mixed := by kernel_rfl
  f228 := Tryd.func84.trans (congrArg some (by kernel_rfl))
  t0 := Tryd.underlying0
  a0 := Tryd.isAgg0
  z0 := Tryd.sizeOf0
  v0 := Tryd.zeroValue0
  t4 := Tryd.underlying4
  a4 := Tryd.isAgg4
  z4 := Tryd.sizeOf4
  v4 := Tryd.zeroValue4
  t5 := Tryd.underlying5
  a5 := Tryd.isAgg5
  z5 := Tryd.sizeOf5
  v5 := Tryd.zeroValue5
  t116 := Tryd.underlying127
  a116 := Tryd.isAgg127
  z116 := Tryd.sizeOf127
  t124 := Tryd.underlying141
  a124 := Tryd.isAgg141
  z124 := Tryd.sizeOf141
  v124 := Tryd.zeroValue141 }
open Go.RowKit Go.Lib in
/-- '(as *asciiSet) contains(c)': 'as[c]': the set lies at block b, whole. (LAID: no walk: one application.) -/
theorem Tryd.asciiSet_contains (b : Nat) (x : UInt8) (v : Bool) (w : World) (hc : w.cell? ⟨b, x.toNat, none⟩ = some (.bool v)) :
    Calls Tryd.prog 84 #[.pointer (some ⟨b, 0, none⟩), .int .u8 x.toNat] w fun e w' => e = .returned (.bool v) ∧ w' = w := Any.asciiSet_contains Tryd.lays228 b x v w hc
open Go.RowKit Go.Lib in
theorem Tryd.strings_IndexAny_long (hv116 : ∀ w, (zeroValue 127).run Tryd.prog w = .ok (.agg (Array.replicate 256 (.bool false))) w) (s chars : ByteArray) (w : World) (h2 : 2 ≤ chars.size) (h8 : 8 < s.size) (hs : s.size < 4294967281) (hcs : chars.size < 4294967281) (hascii : ∀ (j : Nat) b, chars.data.toList[j]? = some b → b.toNat < 128) :
    Calls Tryd.prog 72 #[.string s, .string chars] w fun e w' => e = .returned (.int .i64 (Lib.indexAny s.data.toList chars.data.toList)) ∧ w' = ((w.alloc (.cells (Lib.setCells chars.data.toList) 127)).alloc (.cells (Lib.setCells chars.data.toList) 127)) := Any.strings_IndexAny_long Tryd.lays153 hv116 (by kernel_rfl) s chars w h2 h8 hs hcs hascii
open Go.RowKit Go.Lib in
/-- strings.IndexAny ON ASCII BYTES: the four roads under one statement. (LAID: no walk: one application.) -/
theorem Tryd.strings_IndexAny (hv116 : ∀ w, (zeroValue 127).run Tryd.prog w = .ok (.agg (Array.replicate 256 (.bool false))) w) (s chars : ByteArray) (w : World) (hs : s.size < 4294967281) (hcs : chars.size < 4294967281) (has : ∀ (j : Nat) b, s.data.toList[j]? = some b → b.toNat < 128) (hac : ∀ (j : Nat) b, chars.data.toList[j]? = some b → b.toNat < 128) :
    Calls Tryd.prog 72 #[.string s, .string chars] w fun e w' => e = .returned (.int .i64 (Lib.indexAny s.data.toList chars.data.toList)) ∧ Below w.heap.size w w' := Any.strings_IndexAny Tryd.lays153 hv116 (by kernel_rfl) s chars w hs hcs has hac
def Tryd.lays150_ren : Go.Shelf.Ren := ⟨fun | 150 => 53 | 153 => 72 | 152 => 81 | 226 => 82 | 227 => 83 | 228 => 84 | 137 => 89 | 119 => 90 | 224 => 91 | 225 => 92 | 217 => 98 | 266 => 101 | n => n, fun | 9 => 9 | 4 => 4 | 3 => 3 | 5 => 5 | 21 => 21 | 117 => 128 | 116 => 127 | 0 => 0 | 46 => 91 | 124 => 141 | n => n, fun | n => n⟩
theorem Tryd.lays150 : Go.Proofs.Lays.n150 Tryd.prog Tryd.lays150_ren := {
  mixed := by kernel_rfl
  f119 := Tryd.func90.trans (congrArg some (by kernel_rfl))
  f137 := Tryd.func89.trans (congrArg some (by kernel_rfl))
  f150 := Tryd.func53.trans (congrArg some (by kernel_rfl))
  f152 := Tryd.func81.trans (congrArg some (by kernel_rfl))
  f153 := Tryd.func72.trans (congrArg some (by kernel_rfl))
  f217 := Tryd.func98.trans (congrArg some (by kernel_rfl))
  f224 := Tryd.func91.trans (congrArg some (by kernel_rfl))
  f225 := Tryd.func92.trans (congrArg some (by kernel_rfl))
  f226 := Tryd.func82.trans (congrArg some (by kernel_rfl))
  f227 := Tryd.func83.trans (congrArg some (by kernel_rfl))
  f228 := Tryd.func84.trans (congrArg some (by kernel_rfl))
  f266 := Tryd.func101.trans (congrArg some (by kernel_rfl))
  t0 := Tryd.underlying0
  a0 := Tryd.isAgg0
  z0 := Tryd.sizeOf0
  v0 := Tryd.zeroValue0
  t3 := Tryd.underlying3
  a3 := Tryd.isAgg3
  z3 := Tryd.sizeOf3
  v3 := Tryd.zeroValue3
  t4 := Tryd.underlying4
  a4 := Tryd.isAgg4
  z4 := Tryd.sizeOf4
  v4 := Tryd.zeroValue4
  t5 := Tryd.underlying5
  a5 := Tryd.isAgg5
  z5 := Tryd.sizeOf5
  v5 := Tryd.zeroValue5
  t9 := Tryd.underlying9
  a9 := Tryd.isAgg9
  z9 := Tryd.sizeOf9
  v9 := Tryd.zeroValue9
  t21 := Tryd.underlying21
  a21 := Tryd.isAgg21
  z21 := Tryd.sizeOf21
  v21 := Tryd.zeroValue21
  t46 := Tryd.underlying91
  a46 := Tryd.isAgg91
  z46 := Tryd.sizeOf91
  v46 := Tryd.zeroValue91
  t116 := Tryd.underlying127
  a116 := Tryd.isAgg127
  z116 := Tryd.sizeOf127
  t117 := Tryd.underlying128
  a117 := Tryd.isAgg128
  z117 := Tryd.sizeOf128
  v117 := Tryd.zeroValue128
  t124 := Tryd.underlying141
  a124 := Tryd.isAgg141
  z124 := Tryd.sizeOf141
  v124 := Tryd.zeroValue141 }
open Go.RowKit Go.Lib in
/-- strings.ContainsAny ON ASCII BYTES. (LAID: no walk: one application.) -/
theorem Tryd.strings_ContainsAny (hv116 : ∀ w, (zeroValue 127).run Tryd.prog w = .ok (.agg (Array.replicate 256 (.bool false))) w) (s chars : ByteArray) (w : World) (hs : s.size < 4294967281) (hcs : chars.size < 4294967281) (has : ∀ (j : Nat) b, s.data.toList[j]? = some b → b.toNat < 128) (hac : ∀ (j : Nat) b, chars.data.toList[j]? = some b → b.toNat < 128) :
    Calls Tryd.prog 53 #[.string s, .string chars] w fun e w' => e = .returned (.bool (Lib.containsAny s.data.toList chars.data.toList)) ∧ Below w.heap.size w w' := Any.strings_ContainsAny Tryd.lays150 hv116 (by kernel_rfl) s chars w hs hcs has hac
open Go.RowKit Go.Lib in
theorem Tryd.strings_IndexAny_laid (s chars : ByteArray) (w : World) (hs : s.size < 4294967281) (hcs : chars.size < 4294967281) (has : ∀ (j : Nat) b, s.data.toList[j]? = some b → b.toNat < 128) (hac : ∀ (j : Nat) b, chars.data.toList[j]? = some b → b.toNat < 128) :
    Calls Tryd.prog 72 #[.string s, .string chars] w fun e w' => e = .returned (.int .i64 (Lib.indexAny s.data.toList chars.data.toList)) ∧ Below w.heap.size w w' := Any.strings_IndexAny_laid Tryd.lays153 (by kernel_rfl) s chars w hs hcs has hac
open Go.RowKit Go.Lib in
theorem Tryd.strings_ContainsAny_laid (s chars : ByteArray) (w : World) (hs : s.size < 4294967281) (hcs : chars.size < 4294967281) (has : ∀ (j : Nat) b, s.data.toList[j]? = some b → b.toNat < 128) (hac : ∀ (j : Nat) b, chars.data.toList[j]? = some b → b.toNat < 128) :
    Calls Tryd.prog 53 #[.string s, .string chars] w fun e w' => e = .returned (.bool (Lib.containsAny s.data.toList chars.data.toList)) ∧ Below w.heap.size w w' := Any.strings_ContainsAny_laid Tryd.lays150 (by kernel_rfl) s chars w hs hcs has hac
end Go.Proofs
/- cut: which names are refused. -/
namespace Go.Proofs.YtoojdmgbffnmiaaDoor
open Go Go.Abs
set_option maxRecDepth 10000
set_option linter.unusedVariables false
set_option linter.unusedSimpArgs false
variable {Γ : List (Nat × List AC)}
def chS : Str := ⟨#[46, 40, 41, 35, 32]⟩
theorem IndexByte_ok (s : Str) (c : Int) : APure Tryd.prog Γ 89 [.one (str s), .one (.lit (.int .u8 c))] (.one (int (Lib.indexByte s.data.toList c.toNat.toUInt8))) :=
  APure.ofCalls (vs := [.string s, .int .u8 c]) (enters_of Tryd.func89 (by kernel_rfl) rfl) rfl fun w => Tryd.strings_IndexByte s c w
theorem IndexRune_ascii (s : Str) (c : Int) (h0 : 0 ≤ c) (h1 : c < 128) : APure Tryd.prog Γ 81 [.one (str s), .one (.lit (.int .i32 c))] (.one (int (Lib.indexByte s.data.toList c.toNat.toUInt8))) :=
  APure.ofCalls (vs := [.string s, .int .i32 c]) (enters_of Tryd.func81 (by kernel_rfl) rfl) rfl fun w => Tryd.strings_IndexRune_ascii s c w h0 h1
theorem ValidRune_ok (c : Int) : APure Tryd.prog Γ 90 [.one (.lit (.int .i32 c))] (.one (.lit (.bool (Lib.validRune c)))) :=
  APure.ofCalls (vs := [.int .i32 c]) (enters_of Tryd.func90 (by kernel_rfl) rfl) rfl fun w => Tryd.utf8_ValidRune c w
theorem useSet_ok (n : Int) : APure Tryd.prog Γ 82 [.one (int n)] (.one (.lit (.bool (decide (8 < n))))) :=
  APure.ofCalls (vs := [.int .i64 n]) (enters_of Tryd.func82 (by kernel_rfl) rfl) rfl fun w => Tryd.strings_shouldUseASCIISet n w
theorem hv127 : ∀ w, (zeroValue 127).run Tryd.prog w = .ok (.agg (Array.replicate 256 (.bool false))) w := fun w => zeroRun (by kernel_rfl)
theorem chS_ascii : ∀ (j : Nat) b, chS.data.toList[j]? = some b → b.toNat < 128 := by
  intro j b h
  have : b ∈ chS.data.toList := List.mem_of_getElem? h
  simp [chS] at this
  rcases this with rfl | rfl | rfl | rfl | rfl <;> decide
theorem IndexAny_long (s : Str) (h8 : 8 < s.size) (hs : s.size < 4294967281) : APure Tryd.prog Γ 72 [.one (str s), .one (str chS)] (.one (int (Lib.indexAny s.data.toList chS.data.toList))) :=
  APure.ofCallsRows (vs := [.string s, .string chS]) (enters_of Tryd.func72 (by kernel_rfl) rfl) rfl fun w => Tryd.strings_IndexAny_long hv127 s chS w (by decide) h8 hs (by decide) chS_ascii

theorem chS_decode : ∀ j, j < 5 → ∃ d, Utf8.decode chS j = (d, 1) ∧ d < 128 ∧ ∃ u : UInt8, chS[j]? = some u ∧ u.toNat = d := by
  intro j hj
  match j, hj with
  | 0, _ => exact ⟨46, by decide, by decide, 46, rfl, rfl⟩
  | 1, _ => exact ⟨40, by decide, by decide, 40, rfl, rfl⟩
  | 2, _ => exact ⟨41, by decide, by decide, 41, rfl, rfl⟩
  | 3, _ => exact ⟨35, by decide, by decide, 35, rfl, rfl⟩
  | 4, _ => exact ⟨32, by decide, by decide, 32, rfl, rfl⟩
theorem IndexRune_err (hΓ : ∀ g cs, (g, cs) ∈ Γ → idsL isO cs) : APure Tryd.prog Γ 81 [.one (str chS), .one (.lit (.int .i32 65533))] (.one (int (-1))) := by
  intro ou
  refine AFn.walk 187 tabOk Tryd.func81 rfl (by kernel_rfl) rfl rfl fun hou => ?_
  repeat first | (with_reducible refine oj ?_; refine AOps.auto tabOk rfl ?_) | (with_reducible first | refine o1 ?_ | refine o2 ?_ | refine o3 ?_ | refine o4 ?_ | refine o5 ?_ | refine o6 ?_ | refine o7 ?_ | refine o8 ?_ | refine o9 ?_ | refine oa ?_ | refine ob ?_ | refine oc ?_ | refine od ?_ | refine oe ?_ | refine og ?_ | refine oh ?_ | refine oi ?_) | (with_reducible refine cExitMiss ?_ ?_; rfl) | (with_reducible refine ok ?_; first | refine ACode.condT rfl ?_ | refine ACode.condF rfl ?_)
  refine AOps.step1 rfl rfl rfl (AStep.rangeStr rfl Tryd.underlying9 rfl) ?_
  repeat first | (with_reducible refine oj ?_; refine AOps.auto tabOk rfl ?_) | (with_reducible first | refine o1 ?_ | refine o2 ?_ | refine o3 ?_ | refine o4 ?_ | refine o5 ?_ | refine o6 ?_ | refine o7 ?_ | refine o8 ?_ | refine o9 ?_ | refine oa ?_ | refine ob ?_ | refine oc ?_ | refine od ?_ | refine oe ?_ | refine og ?_ | refine oh ?_ | refine oi ?_) | (with_reducible refine cExitMiss ?_ ?_; rfl) | (with_reducible refine ok ?_; first | refine ACode.condT rfl ?_ | refine ACode.condF rfl ?_)
  refine ACode.loopR hΓ (α := Nat) (fun j => [(175, .one (.ptr (.l 0) 0))]) (fun j => ⟨1, [(0, .sit chS j)], ou⟩) (fun m j => j ≤ 5 ∧ m = 5 - j) (a0 := 0) (ρ := id) ⟨by omega, rfl⟩ (LessR.of rfl (by (repeat' first | exact FrSub.nil | refine FrSub.cons rfl (.ofEq rfl) ?_ | refine FrSub.consP rfl (.ofEq rfl) (by simp) ?_)) (by simp) (by repeat' first | exact LoSub.nil | refine LoSub.cons rfl ?_ rfl (by simp) ?_ | rfl | (refine (AObj.ren_pure _ _ ?_).symm; simp; done) | (simp [AObj.ren, renL, AC.ren, cTy]; done) | (simp [AObj.ren, renL, AC.ren, cTy]; rfl)) rfl rfl hou) fun m j hj => ?_
  obtain ⟨hjl, rfl⟩ := hj
  repeat first | (with_reducible refine oj ?_; refine AOps.auto tabOk rfl ?_) | (with_reducible first | refine o1 ?_ | refine o2 ?_ | refine o3 ?_ | refine o4 ?_ | refine o5 ?_ | refine o6 ?_ | refine o7 ?_ | refine o8 ?_ | refine o9 ?_ | refine oa ?_ | refine ob ?_ | refine oc ?_ | refine od ?_ | refine oe ?_ | refine og ?_ | refine oh ?_ | refine oi ?_) | (with_reducible refine cExitMiss ?_ ?_; rfl) | (with_reducible refine ok ?_; first | refine ACode.condT rfl ?_ | refine ACode.condF rfl ?_)
  by_cases hlt : j < 5
  · obtain ⟨d, hd, hd2, _⟩ := chS_decode j hlt
    refine AOps.step1 rfl rfl rfl (AStep.nextStr rfl rfl rfl (by exact hlt) hd) ?_
    repeat first | (with_reducible refine oj ?_; refine AOps.auto tabOk rfl ?_) | (with_reducible first | refine o1 ?_ | refine o2 ?_ | refine o3 ?_ | refine o4 ?_ | refine o5 ?_ | refine o6 ?_ | refine o7 ?_ | refine o8 ?_ | refine o9 ?_ | refine oa ?_ | refine ob ?_ | refine oc ?_ | refine od ?_ | refine oe ?_ | refine og ?_ | refine oh ?_ | refine oi ?_) | (with_reducible refine cExitMiss ?_ ?_; rfl) | (with_reducible refine ok ?_; first | refine ACode.condT rfl ?_ | refine ACode.condF rfl ?_)
    refine ACode.cond rfl (fun hb => ?_) (fun hb => ?_)
    · simp at hb; omega
    repeat first | (with_reducible refine oj ?_; refine AOps.auto tabOk rfl ?_) | (with_reducible first | refine o1 ?_ | refine o2 ?_ | refine o3 ?_ | refine o4 ?_ | refine o5 ?_ | refine o6 ?_ | refine o7 ?_ | refine o8 ?_ | refine o9 ?_ | refine oa ?_ | refine ob ?_ | refine oc ?_ | refine od ?_ | refine oe ?_ | refine og ?_ | refine oh ?_ | refine oi ?_) | (with_reducible refine cExitMiss ?_ ?_; rfl) | (with_reducible refine ok ?_; first | refine ACode.condT rfl ?_ | refine ACode.condF rfl ?_)
    exact cInv ⟨5 - (j + 1), j + 1, id, by omega, ⟨by omega, rfl⟩, LessR.of rfl (by (repeat' first | exact FrSub.nil | refine FrSub.cons rfl (.ofEq rfl) ?_ | refine FrSub.consP rfl (.ofEq rfl) (by simp) ?_)) (by simp) (by repeat' first | exact LoSub.nil | refine LoSub.cons rfl ?_ rfl (by simp) ?_ | rfl | (refine (AObj.ren_pure _ _ ?_).symm; simp; done) | (simp [AObj.ren, renL, AC.ren, cTy]; done) | (simp [AObj.ren, renL, AC.ren, cTy]; rfl)) rfl rfl hou⟩
  · refine AOps.step1 rfl rfl rfl (AStep.nextStrEnd rfl rfl rfl (by exact hlt)) ?_
    repeat first | (with_reducible refine oj ?_; refine AOps.auto tabOk rfl ?_) | (with_reducible first | refine o1 ?_ | refine o2 ?_ | refine o3 ?_ | refine o4 ?_ | refine o5 ?_ | refine o6 ?_ | refine o7 ?_ | refine o8 ?_ | refine o9 ?_ | refine oa ?_ | refine ob ?_ | refine oc ?_ | refine od ?_ | refine oe ?_ | refine og ?_ | refine oh ?_ | refine oi ?_) | (with_reducible refine cExitMiss ?_ ?_; rfl) | (with_reducible refine ok ?_; first | refine ACode.condT rfl ?_ | refine ACode.condF rfl ?_)
    exact APure.fin rfl (WkF.ofEq rfl) (by simp) hou rfl
theorem index_no : ∀ {l : List UInt8} {c : UInt8}, c ∉ l → Lib.indexByte l c = -1
  | [], _, _ => rfl
  | b :: l, c, h => by
    have h1 : (b == c) = false := by
      simp only [List.mem_cons, not_or] at h
      exact beq_eq_false_iff_ne.2 fun e => h.1 e.symm
    have h2 := index_no (l := l) (c := c) (fun hm => h (List.mem_cons_of_mem _ hm))
    simp [Lib.indexByte, h1, h2]
theorem IndexRune_hi (hΓ : ∀ g cs, (g, cs) ∈ Γ → idsL isO cs) (x : Int) (h0 : 128 ≤ x) (hne : x ≠ 65533) (hval : Lib.validRune x = true) (n : Nat) (b : UInt8) (hn : (Utf8.encode x).size = n + 1) (hn5 : n < 5) (hb0 : (Utf8.encode x)[n]? = some b) (hb2 : 128 ≤ b.toNat) :
    APure Tryd.prog Γ 81 [.one (str chS), .one (.lit (.int .i32 x))] (.one (int (-1))) := by
  intro ou
  obtain ⟨d, hd, hd2, u, hu, hu2⟩ := chS_decode n hn5
  have hcall : APure Tryd.prog Γ 89 [.one (str (chS.extract (n + 1) chS.size)), .one (.lit (.int .u8 b.toNat))] (.one (int (-1))) := by
    have := IndexByte_ok (Γ := Γ) (chS.extract (n + 1) chS.size) b.toNat
    rwa [index_no (fun hm => ?_)] at this
    have hm2 : b ∈ chS.data.toList := by
      have : (((b.toNat : Nat) : Int).toNat.toUInt8) = b := by simp
      rw [this] at hm
      rw [ByteArray.data_extract] at hm
      simp only [Array.toList_extract, List.extract_eq_take_drop] at hm
      exact List.mem_of_mem_drop (List.mem_of_mem_take hm)
    obtain ⟨j, hj⟩ := List.getElem?_of_mem hm2
    have := chS_ascii j b hj
    omega
  refine AFn.walk 187 tabOk Tryd.func81 rfl (by kernel_rfl) rfl rfl fun hou => ?_
  repeat first | (with_reducible refine oj ?_; refine AOps.auto tabOk rfl ?_) | (with_reducible first | refine o1 ?_ | refine o2 ?_ | refine o3 ?_ | refine o4 ?_ | refine o5 ?_ | refine o6 ?_ | refine o7 ?_ | refine o8 ?_ | refine o9 ?_ | refine oa ?_ | refine ob ?_ | refine oc ?_ | refine od ?_ | refine oe ?_ | refine og ?_ | refine oh ?_ | refine oi ?_) | (with_reducible refine cExitMiss ?_ ?_; rfl) | (with_reducible refine ok ?_; first | refine ACode.condT rfl ?_ | refine ACode.condF rfl ?_)
  refine AOps.splitG rfl rfl rfl (fun hv => ?_) (fun hv => ?_)
  · repeat first | (with_reducible refine oj ?_; refine AOps.auto tabOk rfl ?_) | (with_reducible first | refine o1 ?_ | refine o2 ?_ | refine o3 ?_ | refine o4 ?_ | refine o5 ?_ | refine o6 ?_ | refine o7 ?_ | refine o8 ?_ | refine o9 ?_ | refine oa ?_ | refine ob ?_ | refine oc ?_ | refine od ?_ | refine oe ?_ | refine og ?_ | refine oh ?_ | refine oi ?_) | (with_reducible refine cExitMiss ?_ ?_; rfl) | (with_reducible refine ok ?_; first | refine ACode.condT rfl ?_ | refine ACode.condF rfl ?_)
    refine ACode.cond rfl (fun hb => ?_) (fun hb => ?_)
    · simp at hb; omega
    repeat first | (with_reducible refine oj ?_; refine AOps.auto tabOk rfl ?_) | (with_reducible first | refine o1 ?_ | refine o2 ?_ | refine o3 ?_ | refine o4 ?_ | refine o5 ?_ | refine o6 ?_ | refine o7 ?_ | refine o8 ?_ | refine o9 ?_ | refine oa ?_ | refine ob ?_ | refine oc ?_ | refine od ?_ | refine oe ?_ | refine og ?_ | refine oh ?_ | refine oi ?_) | (with_reducible refine cExitMiss ?_ ?_; rfl) | (with_reducible refine ok ?_; first | refine ACode.condT rfl ?_ | refine ACode.condF rfl ?_)
    refine ACode.cond rfl (fun hb => ?_) (fun hb => ?_)
    · simp at hb; omega
    repeat first | (with_reducible refine oj ?_; refine AOps.auto tabOk rfl ?_) | (with_reducible first | refine o1 ?_ | refine o2 ?_ | refine o3 ?_ | refine o4 ?_ | refine o5 ?_ | refine o6 ?_ | refine o7 ?_ | refine o8 ?_ | refine o9 ?_ | refine oa ?_ | refine ob ?_ | refine oc ?_ | refine od ?_ | refine oe ?_ | refine og ?_ | refine oh ?_ | refine oi ?_) | (with_reducible refine cExitMiss ?_ ?_; rfl) | (with_reducible refine ok ?_; first | refine ACode.condT rfl ?_ | refine ACode.condF rfl ?_)
    refine AOps.callC hΓ (ValidRune_ok x) rfl rfl rfl rfl rfl rfl rfl hou (by simp) ?_
    repeat first | (with_reducible refine oj ?_; refine AOps.auto tabOk rfl ?_) | (with_reducible first | refine o1 ?_ | refine o2 ?_ | refine o3 ?_ | refine o4 ?_ | refine o5 ?_ | refine o6 ?_ | refine o7 ?_ | refine o8 ?_ | refine o9 ?_ | refine oa ?_ | refine ob ?_ | refine oc ?_ | refine od ?_ | refine oe ?_ | refine og ?_ | refine oh ?_ | refine oi ?_) | (with_reducible refine cExitMiss ?_ ?_; rfl) | (with_reducible refine ok ?_; first | refine ACode.condT rfl ?_ | refine ACode.condF rfl ?_)
    refine ACode.cond rfl (fun hb => ?_) (fun hb => ?_)
    · repeat first | (with_reducible refine oj ?_; refine AOps.auto tabOk rfl ?_) | (with_reducible first | refine o1 ?_ | refine o2 ?_ | refine o3 ?_ | refine o4 ?_ | refine o5 ?_ | refine o6 ?_ | refine o7 ?_ | refine o8 ?_ | refine o9 ?_ | refine oa ?_ | refine ob ?_ | refine oc ?_ | refine od ?_ | refine oe ?_ | refine og ?_ | refine oh ?_ | refine oi ?_) | (with_reducible refine cExitMiss ?_ ?_; rfl) | (with_reducible refine ok ?_; first | refine ACode.condT rfl ?_ | refine ACode.condF rfl ?_)
      rw [hval] at hb; cases hb
    repeat first | (with_reducible refine oj ?_; refine AOps.auto tabOk rfl ?_) | (with_reducible first | refine o1 ?_ | refine o2 ?_ | refine o3 ?_ | refine o4 ?_ | refine o5 ?_ | refine o6 ?_ | refine o7 ?_ | refine o8 ?_ | refine o9 ?_ | refine oa ?_ | refine ob ?_ | refine oc ?_ | refine od ?_ | refine oe ?_ | refine og ?_ | refine oh ?_ | refine oi ?_) | (with_reducible refine cExitMiss ?_ ?_; rfl) | (with_reducible refine ok ?_; first | refine ACode.condT rfl ?_ | refine ACode.condF rfl ?_)
    refine ACode.scope ?_
    repeat first | (with_reducible refine oj ?_; refine AOps.auto tabOk rfl ?_) | (with_reducible first | refine o1 ?_ | refine o2 ?_ | refine o3 ?_ | refine o4 ?_ | refine o5 ?_ | refine o6 ?_ | refine o7 ?_ | refine o8 ?_ | refine o9 ?_ | refine oa ?_ | refine ob ?_ | refine oc ?_ | refine od ?_ | refine oe ?_ | refine og ?_ | refine oh ?_ | refine oi ?_) | (with_reducible refine cExitMiss ?_ ?_; rfl) | (with_reducible refine ok ?_; first | refine ACode.condT rfl ?_ | refine ACode.condF rfl ?_)
    refine AOps.step1 rfl rfl rfl (AStep.runeStr rfl Tryd.underlying21 Tryd.underlying9 rfl) ?_
    repeat first | (with_reducible refine oj ?_; refine AOps.auto tabOk rfl ?_) | (with_reducible first | refine o1 ?_ | refine o2 ?_ | refine o3 ?_ | refine o4 ?_ | refine o5 ?_ | refine o6 ?_ | refine o7 ?_ | refine o8 ?_ | refine o9 ?_ | refine oa ?_ | refine ob ?_ | refine oc ?_ | refine od ?_ | refine oe ?_ | refine og ?_ | refine oh ?_ | refine oi ?_) | (with_reducible refine cExitMiss ?_ ?_; rfl) | (with_reducible refine ok ?_; first | refine ACode.condT rfl ?_ | refine ACode.condF rfl ?_)
    refine AOps.step1 rfl rfl rfl (AStep.arith (r := (n : Int)) rfl rfl rfl (.inr (.inl ⟨rfl, by rw [hn]; omega⟩)) (inRange_i64 (by omega) (by omega))) ?_
    repeat first | (with_reducible refine oj ?_; refine AOps.auto tabOk rfl ?_) | (with_reducible first | refine o1 ?_ | refine o2 ?_ | refine o3 ?_ | refine o4 ?_ | refine o5 ?_ | refine o6 ?_ | refine o7 ?_ | refine o8 ?_ | refine o9 ?_ | refine oa ?_ | refine ob ?_ | refine oc ?_ | refine od ?_ | refine oe ?_ | refine og ?_ | refine oh ?_ | refine oi ?_) | (with_reducible refine cExitMiss ?_ ?_; rfl) | (with_reducible refine ok ?_; first | refine ACode.condT rfl ?_ | refine ACode.condF rfl ?_)
    refine ACode.loopR hΓ (α := Unit) (fun _ => [(0, .one (str chS)), (7, .one (str (Utf8.encode x))), (8, .one (int n)), (9, .one (int n)), (4, .one (int 0))]) (fun _ => ⟨0, [], ou⟩) (fun _ _ => True) (m := 0) (a0 := ()) (ρ := id) trivial (LessR.of rfl (by (repeat' first | exact FrSub.nil | refine FrSub.cons rfl (.ofEq rfl) ?_ | refine FrSub.consP rfl (.ofEq rfl) (by simp) ?_)) (by simp) (by repeat' first | exact LoSub.nil | refine LoSub.cons rfl ?_ rfl (by simp) ?_ | rfl | (refine (AObj.ren_pure _ _ ?_).symm; simp; done) | (simp [AObj.ren, renL, AC.ren, cTy]; done) | (simp [AObj.ren, renL, AC.ren, cTy]; rfl)) rfl rfl hou) fun _ _ _ => ?_
    repeat first | (with_reducible refine oj ?_; refine AOps.auto tabOk rfl ?_) | (with_reducible first | refine o1 ?_ | refine o2 ?_ | refine o3 ?_ | refine o4 ?_ | refine o5 ?_ | refine o6 ?_ | refine o7 ?_ | refine o8 ?_ | refine o9 ?_ | refine oa ?_ | refine ob ?_ | refine oc ?_ | refine od ?_ | refine oe ?_ | refine og ?_ | refine oh ?_ | refine oi ?_) | (with_reducible refine cExitMiss ?_ ?_; rfl) | (with_reducible refine ok ?_; first | refine ACode.condT rfl ?_ | refine ACode.condF rfl ?_)
    have hsz : chS.size = 5 := rfl
    refine ACode.cond rfl (fun hb => ?_) (fun hb => ?_)
    · repeat first | (with_reducible refine oj ?_; refine AOps.auto tabOk rfl ?_) | (with_reducible first | refine o1 ?_ | refine o2 ?_ | refine o3 ?_ | refine o4 ?_ | refine o5 ?_ | refine o6 ?_ | refine o7 ?_ | refine o8 ?_ | refine o9 ?_ | refine oa ?_ | refine ob ?_ | refine oc ?_ | refine od ?_ | refine oe ?_ | refine og ?_ | refine oh ?_ | refine oi ?_) | (with_reducible refine cExitMiss ?_ ?_; rfl) | (with_reducible refine ok ?_; first | refine ACode.condT rfl ?_ | refine ACode.condF rfl ?_)
      refine ACode.scope ?_
      repeat first | (with_reducible refine oj ?_; refine AOps.auto tabOk rfl ?_) | (with_reducible first | refine o1 ?_ | refine o2 ?_ | refine o3 ?_ | refine o4 ?_ | refine o5 ?_ | refine o6 ?_ | refine o7 ?_ | refine o8 ?_ | refine o9 ?_ | refine oa ?_ | refine ob ?_ | refine oc ?_ | refine od ?_ | refine oe ?_ | refine og ?_ | refine oh ?_ | refine oi ?_) | (with_reducible refine cExitMiss ?_ ?_; rfl) | (with_reducible refine ok ?_; first | refine ACode.condT rfl ?_ | refine ACode.condF rfl ?_)
      refine ACode.drawX tabOk 6 [(2, .one (.lit (.int .u8 u.toNat))), (5, .one (.lit (.int .u8 b.toNat)))] follows (by kernel_rfl) rfl rfl rfl rfl ?_ ?_
      · refine .step rfl (HStep.plain rfl (AStep.indexStr tabOk rfl rfl rfl rfl rfl (by omega) (by simpa using hu))) ?_
        exact .step rfl (HStep.plain rfl (AStep.indexStr tabOk rfl rfl rfl rfl rfl (by omega) (by simpa using hb0))) .nil
      repeat first | (with_reducible refine oj ?_; refine AOps.auto tabOk rfl ?_) | (with_reducible first | refine o1 ?_ | refine o2 ?_ | refine o3 ?_ | refine o4 ?_ | refine o5 ?_ | refine o6 ?_ | refine o7 ?_ | refine o8 ?_ | refine o9 ?_ | refine oa ?_ | refine ob ?_ | refine oc ?_ | refine od ?_ | refine oe ?_ | refine og ?_ | refine oh ?_ | refine oi ?_) | (with_reducible refine cExitMiss ?_ ?_; rfl) | (with_reducible refine ok ?_; first | refine ACode.condT rfl ?_ | refine ACode.condF rfl ?_)
      refine ACode.cond rfl (fun hb => ?_) (fun hb => ?_)
      · repeat first | (with_reducible refine oj ?_; refine AOps.auto tabOk rfl ?_) | (with_reducible first | refine o1 ?_ | refine o2 ?_ | refine o3 ?_ | refine o4 ?_ | refine o5 ?_ | refine o6 ?_ | refine o7 ?_ | refine o8 ?_ | refine o9 ?_ | refine oa ?_ | refine ob ?_ | refine oc ?_ | refine od ?_ | refine oe ?_ | refine og ?_ | refine oh ?_ | refine oi ?_) | (with_reducible refine cExitMiss ?_ ?_; rfl) | (with_reducible refine ok ?_; first | refine ACode.condT rfl ?_ | refine ACode.condF rfl ?_)
        refine ACode.drawX tabOk 8 [(2, .one (int ((n + 1 : Nat) : Int))), (3, .one (str (chS.extract (n + 1) chS.size))), (6, .one (.lit (.int .u8 b.toNat))), (7, .one (int (-1)))] follows (by kernel_rfl) rfl rfl rfl rfl ?_ ?_
        · refine .step rfl (HStep.plain rfl (AStep.arith (r := ((n + 1 : Nat) : Int)) rfl rfl rfl (.inl ⟨rfl, by omega⟩) (inRange_i64 (by omega) (by omega)))) ?_
          refine .step rfl (HStep.plain rfl (AStep.sliceStrFrom tabOk rfl rfl rfl rfl rfl (by rw [hsz]; omega))) ?_
          refine .step rfl (HStep.plain rfl (AStep.indexStr tabOk rfl rfl rfl rfl rfl (by omega) (by simpa using hb0))) ?_
          exact .call hΓ hcall hou (by simp) rfl rfl rfl rfl rfl rfl .nil
        repeat first | (with_reducible refine oj ?_; refine AOps.auto tabOk rfl ?_) | (with_reducible first | refine o1 ?_ | refine o2 ?_ | refine o3 ?_ | refine o4 ?_ | refine o5 ?_ | refine o6 ?_ | refine o7 ?_ | refine o8 ?_ | refine o9 ?_ | refine oa ?_ | refine ob ?_ | refine oc ?_ | refine od ?_ | refine oe ?_ | refine og ?_ | refine oh ?_ | refine oi ?_) | (with_reducible refine cExitMiss ?_ ?_; rfl) | (with_reducible refine ok ?_; first | refine ACode.condT rfl ?_ | refine ACode.condF rfl ?_)
        exact APure.fin rfl (WkF.ofEq rfl) (by simp) hou rfl
      · simp at hb
        omega
    · have : ¬ (n : Int) < 5 := by simpa [hsz] using hb
      omega
  · simp at hv; omega
def okDec (p : Nat × Nat) : Prop := 1 ≤ p.2 ∧ (p.1 < 128 ∨ p.1 = 65533 ∨ (128 ≤ p.1 ∧ Utf8.valid p.1 = true))
theorem okDec_err : okDec (Utf8.runeError, 1) := ⟨Nat.le_refl _, .inr (.inl rfl)⟩
theorem decode_spec (s : ByteArray) (i : Nat) : okDec (Utf8.decode s i) := by
  unfold Utf8.decode
  dsimp only
  split
  · rename_i h; exact ⟨Nat.le_refl _, .inl h⟩
  split
  · split
    · rename_i h
      refine ⟨by show 1 ≤ 2; omega, .inr (.inr ⟨h, ?_⟩)⟩
      simp only [Utf8.valid, Bool.or_eq_true, Bool.and_eq_true, decide_eq_true_eq]
      left; constructor <;> omega
    · exact okDec_err
  split
  · split
    · rename_i h
      simp only [Bool.and_eq_true, decide_eq_true_eq] at h
      exact ⟨by show 1 ≤ 3; omega, .inr (.inr ⟨Nat.le_trans (by omega) h.1, h.2⟩)⟩
    · exact okDec_err
  split
  · split
    · rename_i h
      simp only [Bool.and_eq_true, decide_eq_true_eq] at h
      exact ⟨by show 1 ≤ 4; omega, .inr (.inr ⟨Nat.le_trans (by omega) h.1, h.2⟩)⟩
    · exact okDec_err
  exact okDec_err
theorem encode_last (x : Int) (h0 : 128 ≤ x) (hv : Utf8.valid x = true) : ∃ (n : Nat) (b : UInt8), (Utf8.encode x).size = n + 1 ∧ n < 5 ∧ (Utf8.encode x)[n]? = some b ∧ 128 ≤ b.toNat := by
  have hb : ∀ k : Nat, 128 ≤ (UInt8.ofNat (128 + k % 64)).toNat := fun k => by
    simp only [UInt8.toNat_ofNat']
    omega
  unfold Utf8.encode
  simp only [hv, if_true]
  rw [if_neg (by omega)]
  split
  · exact ⟨1, _, rfl, by omega, rfl, hb _⟩
  · split
    · exact ⟨2, _, rfl, by omega, rfl, hb _⟩
    · exact ⟨3, _, rfl, by omega, rfl, hb _⟩
/-- Where a rune stands in the list of refused letters. -/
def runeAt (c : Nat) : Int := if c < 128 then Lib.indexByte chS.data.toList (c : Int).toNat.toUInt8 else -1
theorem runeAt_ok (c : Nat) (hc : c < 128 ∨ c = 65533 ∨ (128 ≤ c ∧ Utf8.valid c = true)) : APure Tryd.prog Γ0 81 [.one (str chS), .one (.lit (.int .i32 c))] (.one (int (runeAt c))) := by
  by_cases h1 : c = 65533
  · subst h1; exact IndexRune_err hΓ0
  unfold runeAt
  by_cases hl : c < 128
  · rw [if_pos hl]; exact IndexRune_ascii chS c (by omega) (by omega)
  rw [if_neg hl]
  rcases hc with hc | hc | ⟨hc, hv⟩
  · exact absurd hc hl
  · exact absurd hc h1
  · obtain ⟨n, b, e1, e2, e3, e4⟩ := encode_last c (by omega) hv
    refine IndexRune_hi hΓ0 c (by omega) (by omega) ?_ n b e1 e2 e3 e4
    simp only [Utf8.valid, Bool.or_eq_true, Bool.and_eq_true, decide_eq_true_eq] at hv
    simp only [Lib.validRune, decide_eq_true_eq]
    omega
/-- Whether a rune from a place on is refused, and where. -/
def anyFrom (s : Str) : Nat → Nat → Int
  | 0, _ => -1
  | f + 1, pos => if pos < s.size then (if runeAt (Utf8.decode s pos).1 ≥ 0 then pos else anyFrom s f (pos + (Utf8.decode s pos).2)) else -1
def anyIdx (s : Str) : Int := if 8 < s.size then Lib.indexAny s.data.toList chS.data.toList else anyFrom s (s.size + 1) 0
theorem IndexAny_ok (s : Str) (hs : s.size < 4294967281) : APure Tryd.prog Γ0 72 [.one (str s), .one (str chS)] (.one (int (anyIdx s))) := by
  unfold anyIdx
  by_cases h8 : 8 < s.size
  · rw [if_pos h8]; exact IndexAny_long s h8 hs
  rw [if_neg h8]
  intro ou
  refine AFn.walk 55 tabOk Tryd.func72 rfl (by kernel_rfl) rfl rfl fun hou => ?_
  repeat first | (with_reducible refine oj ?_; refine AOps.auto tabOk rfl ?_) | (with_reducible first | refine o1 ?_ | refine o2 ?_ | refine o3 ?_ | refine o4 ?_ | refine o5 ?_ | refine o6 ?_ | refine o7 ?_ | refine o8 ?_ | refine o9 ?_ | refine oa ?_ | refine ob ?_ | refine oc ?_ | refine od ?_ | refine oe ?_ | refine og ?_ | refine oh ?_ | refine oi ?_) | (with_reducible refine cExitMiss ?_ ?_; rfl) | (with_reducible refine ok ?_; first | refine ACode.condT rfl ?_ | refine ACode.condF rfl ?_)
  refine ACode.cond rfl (fun hb => ?_) (fun hb => ?_)
  · rw [str_eq] at hb; cases hb
  repeat first | (with_reducible refine oj ?_; refine AOps.auto tabOk rfl ?_) | (with_reducible first | refine o1 ?_ | refine o2 ?_ | refine o3 ?_ | refine o4 ?_ | refine o5 ?_ | refine o6 ?_ | refine o7 ?_ | refine o8 ?_ | refine o9 ?_ | refine oa ?_ | refine ob ?_ | refine oc ?_ | refine od ?_ | refine oe ?_ | refine og ?_ | refine oh ?_ | refine oi ?_) | (with_reducible refine cExitMiss ?_ ?_; rfl) | (with_reducible refine ok ?_; first | refine ACode.condT rfl ?_ | refine ACode.condF rfl ?_)
  refine AOps.callC hΓ0 (useSet_ok s.size) rfl rfl rfl rfl rfl rfl rfl hou (by simp) ?_
  repeat first | (with_reducible refine oj ?_; refine AOps.auto tabOk rfl ?_) | (with_reducible first | refine o1 ?_ | refine o2 ?_ | refine o3 ?_ | refine o4 ?_ | refine o5 ?_ | refine o6 ?_ | refine o7 ?_ | refine o8 ?_ | refine o9 ?_ | refine oa ?_ | refine ob ?_ | refine oc ?_ | refine od ?_ | refine oe ?_ | refine og ?_ | refine oh ?_ | refine oi ?_) | (with_reducible refine cExitMiss ?_ ?_; rfl) | (with_reducible refine ok ?_; first | refine ACode.condT rfl ?_ | refine ACode.condF rfl ?_)
  refine ACode.cond rfl (fun hb => ?_) (fun hb => ?_)
  · have : (8 : Int) < s.size := by simpa using hb
    omega
  repeat first | (with_reducible refine oj ?_; refine AOps.auto tabOk rfl ?_) | (with_reducible first | refine o1 ?_ | refine o2 ?_ | refine o3 ?_ | refine o4 ?_ | refine o5 ?_ | refine o6 ?_ | refine o7 ?_ | refine o8 ?_ | refine o9 ?_ | refine oa ?_ | refine ob ?_ | refine oc ?_ | refine od ?_ | refine oe ?_ | refine og ?_ | refine oh ?_ | refine oi ?_) | (with_reducible refine cExitMiss ?_ ?_; rfl) | (with_reducible refine ok ?_; first | refine ACode.condT rfl ?_ | refine ACode.condF rfl ?_)
  refine AOps.step1 rfl rfl rfl (AStep.rangeStr rfl Tryd.underlying9 rfl) ?_
  repeat first | (with_reducible refine oj ?_; refine AOps.auto tabOk rfl ?_) | (with_reducible first | refine o1 ?_ | refine o2 ?_ | refine o3 ?_ | refine o4 ?_ | refine o5 ?_ | refine o6 ?_ | refine o7 ?_ | refine o8 ?_ | refine o9 ?_ | refine oa ?_ | refine ob ?_ | refine oc ?_ | refine od ?_ | refine oe ?_ | refine og ?_ | refine oh ?_ | refine oi ?_) | (with_reducible refine cExitMiss ?_ ?_; rfl) | (with_reducible refine ok ?_; first | refine ACode.condT rfl ?_ | refine ACode.condF rfl ?_)
  refine ACode.loopR hΓ0 (α := Nat × Nat) (fun a => [(45, .one (.ptr (.l 0) 0)), (1, .one (str chS))]) (fun a => ⟨1, [(0, .sit s a.2)], ou⟩) (fun m a => a.1 = m ∧ s.size < a.1 + a.2 ∧ anyFrom s a.1 a.2 = anyFrom s (s.size + 1) 0) (a0 := (s.size + 1, 0)) (ρ := id) ⟨rfl, by show _ < _ + 1 + 0; omega, rfl⟩ (LessR.of rfl (by (repeat' first | exact FrSub.nil | refine FrSub.cons rfl (.ofEq rfl) ?_ | refine FrSub.consP rfl (.ofEq rfl) (by simp) ?_)) (by simp) (by repeat' first | exact LoSub.nil | refine LoSub.cons rfl ?_ rfl (by simp) ?_ | rfl | (refine (AObj.ren_pure _ _ ?_).symm; simp; done) | (simp [AObj.ren, renL, AC.ren, cTy]; done) | (simp [AObj.ren, renL, AC.ren, cTy]; rfl)) rfl rfl hou) fun m a hj => ?_
  obtain ⟨f, pos⟩ := a
  obtain ⟨rfl, hlt, he⟩ := hj
  simp only at hlt he ⊢
  repeat first | (with_reducible refine oj ?_; refine AOps.auto tabOk rfl ?_) | (with_reducible first | refine o1 ?_ | refine o2 ?_ | refine o3 ?_ | refine o4 ?_ | refine o5 ?_ | refine o6 ?_ | refine o7 ?_ | refine o8 ?_ | refine o9 ?_ | refine oa ?_ | refine ob ?_ | refine oc ?_ | refine od ?_ | refine oe ?_ | refine og ?_ | refine oh ?_ | refine oi ?_) | (with_reducible refine cExitMiss ?_ ?_; rfl) | (with_reducible refine ok ?_; first | refine ACode.condT rfl ?_ | refine ACode.condF rfl ?_)
  by_cases hp : pos < s.size
  · obtain ⟨hw, hc⟩ := decode_spec s pos
    cases f with
    | zero => omega
    | succ f =>
      rw [anyFrom, if_pos hp] at he
      generalize hdec : Utf8.decode s pos = dc at hw hc he
      obtain ⟨c, wd⟩ := dc
      simp only at hw hc he
      obtain ⟨x, hx⟩ : ∃ x : Int, x = c := ⟨_, rfl⟩
      have hr := runeAt_ok c hc
      rw [← hx] at hr
      refine AOps.step1 rfl rfl rfl (AStep.nextStrX hx rfl rfl rfl hp hdec) ?_
      repeat first | (with_reducible refine oj ?_; refine AOps.auto tabOk rfl ?_) | (with_reducible first | refine o1 ?_ | refine o2 ?_ | refine o3 ?_ | refine o4 ?_ | refine o5 ?_ | refine o6 ?_ | refine o7 ?_ | refine o8 ?_ | refine o9 ?_ | refine oa ?_ | refine ob ?_ | refine oc ?_ | refine od ?_ | refine oe ?_ | refine og ?_ | refine oh ?_ | refine oi ?_) | (with_reducible refine cExitMiss ?_ ?_; rfl) | (with_reducible refine ok ?_; first | refine ACode.condT rfl ?_ | refine ACode.condF rfl ?_)
      refine AOps.callC hΓ0 hr rfl rfl rfl rfl rfl rfl rfl hou (by simp) ?_
      repeat first | (with_reducible refine oj ?_; refine AOps.auto tabOk rfl ?_) | (with_reducible first | refine o1 ?_ | refine o2 ?_ | refine o3 ?_ | refine o4 ?_ | refine o5 ?_ | refine o6 ?_ | refine o7 ?_ | refine o8 ?_ | refine o9 ?_ | refine oa ?_ | refine ob ?_ | refine oc ?_ | refine od ?_ | refine oe ?_ | refine og ?_ | refine oh ?_ | refine oi ?_) | (with_reducible refine cExitMiss ?_ ?_; rfl) | (with_reducible refine ok ?_; first | refine ACode.condT rfl ?_ | refine ACode.condF rfl ?_)
      refine ACode.cond rfl (fun hb => ?_) (fun hb => ?_)
      · repeat first | (with_reducible refine oj ?_; refine AOps.auto tabOk rfl ?_) | (with_reducible first | refine o1 ?_ | refine o2 ?_ | refine o3 ?_ | refine o4 ?_ | refine o5 ?_ | refine o6 ?_ | refine o7 ?_ | refine o8 ?_ | refine o9 ?_ | refine oa ?_ | refine ob ?_ | refine oc ?_ | refine od ?_ | refine oe ?_ | refine og ?_ | refine oh ?_ | refine oi ?_) | (with_reducible refine cExitMiss ?_ ?_; rfl) | (with_reducible refine ok ?_; first | refine ACode.condT rfl ?_ | refine ACode.condF rfl ?_)
        refine APure.fin rfl (WkF.ofEq ?_) (by simp) hou rfl
        have : runeAt c ≥ 0 := by simpa using hb
        rw [← he, if_pos this]
      · have hn : ¬ runeAt c ≥ 0 := by simpa using hb
        rw [if_neg hn] at he
        repeat first | (with_reducible refine oj ?_; refine AOps.auto tabOk rfl ?_) | (with_reducible first | refine o1 ?_ | refine o2 ?_ | refine o3 ?_ | refine o4 ?_ | refine o5 ?_ | refine o6 ?_ | refine o7 ?_ | refine o8 ?_ | refine o9 ?_ | refine oa ?_ | refine ob ?_ | refine oc ?_ | refine od ?_ | refine oe ?_ | refine og ?_ | refine oh ?_ | refine oi ?_) | (with_reducible refine cExitMiss ?_ ?_; rfl) | (with_reducible refine ok ?_; first | refine ACode.condT rfl ?_ | refine ACode.condF rfl ?_)
        exact cInv ⟨f, (f, pos + wd), id, by omega, ⟨rfl, by show _ < _ + (_ + _); omega, he⟩, LessR.of rfl (by (repeat' first | exact FrSub.nil | refine FrSub.cons rfl (.ofEq rfl) ?_ | refine FrSub.consP rfl (.ofEq rfl) (by simp) ?_)) (by simp) (by repeat' first | exact LoSub.nil | refine LoSub.cons rfl ?_ rfl (by simp) ?_ | rfl | (refine (AObj.ren_pure _ _ ?_).symm; simp; done) | (simp [AObj.ren, renL, AC.ren, cTy]; done) | (simp [AObj.ren, renL, AC.ren, cTy]; rfl)) rfl rfl hou⟩
  · refine AOps.step1 rfl rfl rfl (AStep.nextStrEnd rfl rfl rfl hp) ?_
    repeat first | (with_reducible refine oj ?_; refine AOps.auto tabOk rfl ?_) | (with_reducible first | refine o1 ?_ | refine o2 ?_ | refine o3 ?_ | refine o4 ?_ | refine o5 ?_ | refine o6 ?_ | refine o7 ?_ | refine o8 ?_ | refine o9 ?_ | refine oa ?_ | refine ob ?_ | refine oc ?_ | refine od ?_ | refine oe ?_ | refine og ?_ | refine oh ?_ | refine oi ?_) | (with_reducible refine cExitMiss ?_ ?_; rfl) | (with_reducible refine ok ?_; first | refine ACode.condT rfl ?_ | refine ACode.condF rfl ?_)
    refine APure.fin rfl (WkF.ofEq ?_) (by simp) hou rfl
    cases f with
    | zero => rw [← he]; rfl
    | succ f => rw [← he, anyFrom, if_neg hp]
/-- Which names are refused. -/
def cutN (s : Str) : Bool := s.toList == (⟨#[]⟩ : Str).toList || decide (40 < s.size) || decide (anyIdx s ≥ 0)
theorem ContainsAny_ok (s : Str) (hs : s.size < 4294967281) : APure Tryd.prog Γ0 53 [.one (str s), .one (str chS)] (.one (.lit (.bool (decide (anyIdx s ≥ 0))))) := by
  intro ou
  refine AFn.walk 9 tabOk Tryd.func53 rfl (by kernel_rfl) rfl rfl fun hou => ?_
  repeat first | (with_reducible refine oj ?_; refine AOps.auto tabOk rfl ?_) | (with_reducible first | refine o1 ?_ | refine o2 ?_ | refine o3 ?_ | refine o4 ?_ | refine o5 ?_ | refine o6 ?_ | refine o7 ?_ | refine o8 ?_ | refine o9 ?_ | refine oa ?_ | refine ob ?_ | refine oc ?_ | refine od ?_ | refine oe ?_ | refine og ?_ | refine oh ?_ | refine oi ?_) | (with_reducible refine cExitMiss ?_ ?_; rfl) | (with_reducible refine ok ?_; first | refine ACode.condT rfl ?_ | refine ACode.condF rfl ?_)
  refine AOps.callC hΓ0 (IndexAny_ok s hs) rfl rfl rfl rfl rfl rfl rfl hou (by simp) ?_
  repeat first | (with_reducible refine oj ?_; refine AOps.auto tabOk rfl ?_) | (with_reducible first | refine o1 ?_ | refine o2 ?_ | refine o3 ?_ | refine o4 ?_ | refine o5 ?_ | refine o6 ?_ | refine o7 ?_ | refine o8 ?_ | refine o9 ?_ | refine oa ?_ | refine ob ?_ | refine oc ?_ | refine od ?_ | refine oe ?_ | refine og ?_ | refine oh ?_ | refine oi ?_) | (with_reducible refine cExitMiss ?_ ?_; rfl) | (with_reducible refine ok ?_; first | refine ACode.condT rfl ?_ | refine ACode.condF rfl ?_)
  exact APure.fin rfl (WkF.ofEq rfl) (by simp) hou rfl
theorem cut_ok (s : Str) (hs : s.size < 4294967281) : CutAt cutN s := by
  unfold CutAt
  intro ou
  refine AFn.walk 14 tabOk Tryd.func32 rfl (by kernel_rfl) rfl rfl fun hou => ?_
  repeat first | (with_reducible refine oj ?_; refine AOps.auto tabOk rfl ?_) | (with_reducible first | refine o1 ?_ | refine o2 ?_ | refine o3 ?_ | refine o4 ?_ | refine o5 ?_ | refine o6 ?_ | refine o7 ?_ | refine o8 ?_ | refine o9 ?_ | refine oa ?_ | refine ob ?_ | refine oc ?_ | refine od ?_ | refine oe ?_ | refine og ?_ | refine oh ?_ | refine oi ?_) | (with_reducible refine cExitMiss ?_ ?_; rfl) | (with_reducible refine ok ?_; first | refine ACode.condT rfl ?_ | refine ACode.condF rfl ?_)
  refine AOps.splitG rfl rfl rfl (fun hv => ?_) (fun hv => ?_)
  · repeat first | (with_reducible refine oj ?_; refine AOps.auto tabOk rfl ?_) | (with_reducible first | refine o1 ?_ | refine o2 ?_ | refine o3 ?_ | refine o4 ?_ | refine o5 ?_ | refine o6 ?_ | refine o7 ?_ | refine o8 ?_ | refine o9 ?_ | refine oa ?_ | refine ob ?_ | refine oc ?_ | refine od ?_ | refine oe ?_ | refine og ?_ | refine oh ?_ | refine oi ?_) | (with_reducible refine cExitMiss ?_ ?_; rfl) | (with_reducible refine ok ?_; first | refine ACode.condT rfl ?_ | refine ACode.condF rfl ?_)
    refine APure.fin rfl (WkF.ofEq ?_) (by simp) hou rfl
    unfold cutN
    rw [hv, Bool.true_or, Bool.true_or]
  · repeat first | (with_reducible refine oj ?_; refine AOps.auto tabOk rfl ?_) | (with_reducible first | refine o1 ?_ | refine o2 ?_ | refine o3 ?_ | refine o4 ?_ | refine o5 ?_ | refine o6 ?_ | refine o7 ?_ | refine o8 ?_ | refine o9 ?_ | refine oa ?_ | refine ob ?_ | refine oc ?_ | refine od ?_ | refine oe ?_ | refine og ?_ | refine oh ?_ | refine oi ?_) | (with_reducible refine cExitMiss ?_ ?_; rfl) | (with_reducible refine ok ?_; first | refine ACode.condT rfl ?_ | refine ACode.condF rfl ?_)
    refine AOps.splitG rfl rfl rfl (fun hw => ?_) (fun hw => ?_)
    · repeat first | (with_reducible refine oj ?_; refine AOps.auto tabOk rfl ?_) | (with_reducible first | refine o1 ?_ | refine o2 ?_ | refine o3 ?_ | refine o4 ?_ | refine o5 ?_ | refine o6 ?_ | refine o7 ?_ | refine o8 ?_ | refine o9 ?_ | refine oa ?_ | refine ob ?_ | refine oc ?_ | refine od ?_ | refine oe ?_ | refine og ?_ | refine oh ?_ | refine oi ?_) | (with_reducible refine cExitMiss ?_ ?_; rfl) | (with_reducible refine ok ?_; first | refine ACode.condT rfl ?_ | refine ACode.condF rfl ?_)
      refine APure.fin rfl (WkF.ofEq ?_) (by simp) hou rfl
      unfold cutN
      rw [show decide (40 < s.size) = true from decide_eq_true (by simp at hw; omega), Bool.or_true, Bool.true_or]
    · repeat first | (with_reducible refine oj ?_; refine AOps.auto tabOk rfl ?_) | (with_reducible first | refine o1 ?_ | refine o2 ?_ | refine o3 ?_ | refine o4 ?_ | refine o5 ?_ | refine o6 ?_ | refine o7 ?_ | refine o8 ?_ | refine o9 ?_ | refine oa ?_ | refine ob ?_ | refine oc ?_ | refine od ?_ | refine oe ?_ | refine og ?_ | refine oh ?_ | refine oi ?_) | (with_reducible refine cExitMiss ?_ ?_; rfl) | (with_reducible refine ok ?_; first | refine ACode.condT rfl ?_ | refine ACode.condF rfl ?_)
      refine AOps.callG hΓ0 (ContainsAny_ok s hs) rfl rfl rfl rfl rfl rfl rfl rfl rfl hou (by simp) ?_
      repeat first | (with_reducible refine oj ?_; refine AOps.auto tabOk rfl ?_) | (with_reducible first | refine o1 ?_ | refine o2 ?_ | refine o3 ?_ | refine o4 ?_ | refine o5 ?_ | refine o6 ?_ | refine o7 ?_ | refine o8 ?_ | refine o9 ?_ | refine oa ?_ | refine ob ?_ | refine oc ?_ | refine od ?_ | refine oe ?_ | refine og ?_ | refine oh ?_ | refine oi ?_) | (with_reducible refine cExitMiss ?_ ?_; rfl) | (with_reducible refine ok ?_; first | refine ACode.condT rfl ?_ | refine ACode.condF rfl ?_)
      refine APure.fin rfl (WkF.ofEq ?_) (by simp) hou rfl
      unfold cutN
      rw [show decide (40 < s.size) = false from decide_eq_false (by simp at hw; omega), hv, Bool.or_false, Bool.false_or]
def nmM : Str := ⟨#[77]⟩
def nmT : Str := ⟨#[116]⟩
theorem cut_one (u : UInt8) (hu : u.toNat < 128) (hi : Lib.indexByte chS.data.toList u < 0) : cutN ⟨#[u]⟩ = false := by
  have hd : Utf8.decode ⟨#[u]⟩ 0 = (u.toNat, 1) := by
    exact decode_ascii ⟨#[u]⟩ 0 (by show 0 < 1; omega) (by show u.toNat < 128; exact hu)
  have h1 : ((⟨#[u]⟩ : Str).toList == (⟨#[]⟩ : Str).toList) = false := by
    cases h : ((⟨#[u]⟩ : Str).toList == (⟨#[]⟩ : Str).toList) with
    | false => rfl
    | true => rw [str_eq] at h; cases h
  have h2 : anyIdx ⟨#[u]⟩ = -1 := by
    unfold anyIdx
    rw [if_neg (by show ¬ 8 < 1; omega)]
    show anyFrom ⟨#[u]⟩ (1 + 1) 0 = -1
    rw [anyFrom, if_pos (by show 0 < 1; omega), hd]
    have hr : runeAt u.toNat = Lib.indexByte chS.data.toList u := by
      unfold runeAt
      rw [if_pos hu]
      simp
    rw [if_neg (by rw [hr]; omega)]
    show anyFrom ⟨#[u]⟩ 1 1 = -1
    rw [anyFrom, if_neg (by show ¬ 1 < 1; omega)]
  unfold cutN
  rw [h1, h2]; rfl
theorem cut_M : cutN nmM = false := cut_one 77 (by decide) (by decide)
theorem cut_t : cutN nmT = false := cut_one 116 (by decide) (by decide)
end Go.Proofs.YtoojdmgbffnmiaaDoor
/- instance: it finds what variables stand for. -/
namespace Go.Proofs.YtoojdmgbffnmiaaDoor
open Go Go.Abs
set_option maxRecDepth 10000
set_option linter.unusedVariables false
set_option linter.unusedSimpArgs false
variable {Γ : List (Nat × List AC)}
abbrev Fnd := Int → Option Ty
/-- What a map of types holds. -/
structure MapIs (f : Fnd) (ck : Nat) (l : List (Nat × Int × Ty)) : Prop where
  born : ∀ x ∈ l, x.1 < ck
  nb : (l.map (·.1)).Nodup
  look : ∀ k, (l.find? (fun x => x.2.1 == k)).map (·.2.2) = f k
  nk : (l.map (·.2.1)).Nodup
def encM (l : List (Nat × Int × Ty)) : List (Nat × Value × FV) := l.map fun x => (x.1, .int .i64 x.2.1, .agg (cTy x.2.2))
theorem mFind_enc (k : Int) : ∀ l : List (Nat × Int × Ty), mFind (.int .i64 k) (encM l) = ((l.find? (fun x => x.2.1 == k)).map (·.2.2)).map (fun t => .agg (cTy t))
  | [] => rfl
  | (b, k', t) :: l => by
    have ih := mFind_enc k l
    simp only [encM, List.map_cons, mFind, keyDesc, List.find?_cons] at ih ⊢
    by_cases e : k' = k
    · subst e
      have h1 : (k' == k') = true := beq_self_eq_true k'
      simp [Instr.sameNow, h1]
    · have h1 : (k' == k) = false := beq_eq_false_iff_ne.2 e
      have h2 : (k == k') = false := beq_eq_false_iff_ne.2 (Ne.symm e)
      simp only [h1]
      have : Instr.sameNow (.int .i64) (.int .i64 k) (.int .i64 k') = some false := by simp [Instr.sameNow, h2]
      rw [this]
      exact ih
theorem mPut_enc (k : Int) (t : Ty) (ck : Nat) : ∀ l : List (Nat × Int × Ty), (l.find? (fun x => x.2.1 == k)) = none → mPut (.int .i64 k) (.agg (cTy t)) ck (encM l) = (encM (l ++ [(ck, k, t)]), ck + 1)
  | [], _ => rfl
  | (b, k', t') :: l, h => by
    simp only [List.find?_cons] at h
    cases h1 : (k' == k) with
    | true => rw [h1] at h; cases h
    | false =>
      rw [h1] at h
      have ih := mPut_enc k t ck l h
      have h2 : (k == k') = false := beq_eq_false_iff_ne.2 (Ne.symm (beq_eq_false_iff_ne.1 h1))
      have : Instr.sameNow (.int .i64) (.int .i64 k) (.int .i64 k') = some false := by simp [Instr.sameNow, h2]
      simp only [encM, List.map_cons, mPut, keyDesc, List.cons_append] at ih ⊢
      rw [this]
      simp only [ih]
def put (f : Fnd) (k : Int) (t : Ty) : Fnd := fun i => if i = k then some t else f i
theorem MapIs.put {f : Fnd} {ck : Nat} {l : List (Nat × Int × Ty)} (h : MapIs f ck l) {k : Int} {t : Ty} (hk : f k = none) : MapIs (put f k t) (ck + 1) (l ++ [(ck, k, t)]) := by
  have hno : ∀ x ∈ l, x.2.1 ≠ k := fun x hx e => by
    have h1 := h.look k
    rw [hk] at h1
    have h2 : l.find? (fun x => x.2.1 == k) = none := by simpa using h1
    have := List.find?_eq_none.1 h2 x hx
    simp [e] at this
  refine ⟨fun x hx => ?_, ?_, fun i => ?_, ?_⟩
  · rcases List.mem_append.1 hx with hx | hx
    · have := h.born x hx; omega
    · simp at hx; subst hx; exact Nat.lt_succ_self _
  · rw [List.map_append, List.nodup_append]
    refine ⟨h.nb, by simp, fun a ha b hb e => ?_⟩
    simp at hb
    obtain ⟨x, hx, rfl⟩ := List.mem_map.1 ha
    have := h.born x hx
    omega
  · rw [List.find?_append]
    unfold YtoojdmgbffnmiaaDoor.put
    by_cases e : i = k
    · subst e
      rw [if_pos rfl, List.find?_eq_none.2 (fun x hx => by simpa using hno x hx)]
      simp
    · rw [if_neg e, ← h.look i]
      have : ((k : Int) == i) = false := beq_eq_false_iff_ne.2 (Ne.symm e)
      cases hf : l.find? (fun x => x.2.1 == i) with
      | none => simp [this]
      | some x => simp
  · rw [List.map_append, List.nodup_append]
    refine ⟨h.nk, by simp, fun a ha b hb e => ?_⟩
    simp at hb
    obtain ⟨x, hx, rfl⟩ := List.mem_map.1 ha
    exact hno x hx (by omega)
/-- The heads of two types differ. -/
def instNo (k : Int) (n : Str) (b : Ty) : Bool := k != b.kind || ((k == 1 || k == 5) && !(n.toList == b.name.toList))
mutual
/-- What instance answers, and what it has found behind it. -/
def inst (f : Fnd) : Ty → Ty → Bool × Fnd
  | .mk k n v us, b => if k = 0 then (match f v with | some t => (sameTy t b, f) | none => (true, put f v b))
    else if instNo k n b = true then (false, f) else if us.length ≠ b.args.length then (false, f) else insts f us b.args
def insts (f : Fnd) : List Ty → List Ty → Bool × Fnd
  | a :: us, b :: vs => if (inst f a b).1 then insts (inst f a b).2 us vs else (false, (inst f a b).2)
  | [], _ => (true, f)
  | _ :: _, [] => (true, f)
end
def smallF (f : Fnd) : Prop := ∀ k t, f k = some t → smallTy t
theorem smallF_put {f : Fnd} (h : smallF f) {k : Int} {t : Ty} (ht : smallTy t) : smallF (put f k t) := fun i u hu => by
  unfold put at hu
  split at hu
  · injection hu with hu; subst hu; exact ht
  · exact h i u hu
mutual
theorem smallF_inst : ∀ (a : Ty) {f : Fnd} {b : Ty}, smallF f → smallTy b → smallF (inst f a b).2
  | .mk k n v us, f, b, hf, hb => by
    unfold inst
    split
    · cases h : f v with
      | none => exact smallF_put hf hb
      | some t => exact hf
    · split
      · exact hf
      · split
        · exact hf
        · exact smallF_insts us hf (by cases b; exact hb.2)
theorem smallF_insts : ∀ (us : List Ty) {f : Fnd} {vs : List Ty}, smallF f → smallTys vs → smallF (insts f us vs).2
  | [], f, vs, hf, _ => by simpa [insts] using hf
  | a :: us, f, [], hf, _ => by simpa [insts] using hf
  | a :: us, f, b :: vs, hf, hv => by
    unfold insts
    split
    · exact smallF_insts us (smallF_inst a hf hv.1) hv.2
    · exact smallF_inst a hf hv.1
end
def ouF (ck : Nat) (l : List (Nat × Int × Ty)) : Outer := ouOf [.cells [.mp (.o 1)], .map ck (encM l)]
theorem ouF_ok (ck : Nat) (l : List (Nat × Int × Ty)) : OuOk (ouF ck l) := by
  intro k o h
  match k, h with
  | 0, h => simp [ouF, ouOf] at h; subst h; simp
  | 1, h =>
    simp [ouF, ouOf] at h; subst h
    intro x hx
    simp [encM] at hx
    obtain ⟨a, b, c, _, rfl⟩ := hx
    simp
  | k + 2, h => simp [ouF, ouOf] at h
/-- What instance does to the map. -/
def InstQ (r : Bool × Fnd) (x : FV) (ou' : Outer) : Prop := x = .one (.lit (.bool r.1)) ∧ ∃ ck l, ou' = ouF ck l ∧ MapIs r.2 ck l
def InstOk (Γ : List (Nat × List AC)) (a b : Ty) : Prop := ∀ (f : Fnd) (ck : Nat) (l : List (Nat × Int × Ty)), smallF f → MapIs f ck l →
  AFn Tryd.prog Γ 58 [.one (.ptr (.o 0) 0), .agg (cTy a), .agg (cTy b)] (ouF ck l) (InstQ (inst f a b))
theorem AFn.fin {E : Env} {fn : Func} {fr : Fr} {σ : St} {Q : FV → Outer → Prop} {r r' : FV} (h : aRes E.T fr σ fn.results.toList = some r) (hw : WkF r r') (hi : r'.ids isO) (ho : OuOk σ.ou) (hq : Q r' σ.ou) : Fin E fn Q fr σ := ⟨r, r', h, hw, hi, ho, hq⟩
theorem insts_step : ∀ {us vs : List Ty} {f : Fnd} {j : Nat} {a b : Ty}, us[j]? = some a → vs[j]? = some b → (insts f (us.take j) (vs.take j)).1 = true → insts f (us.take (j + 1)) (vs.take (j + 1)) = inst (insts f (us.take j) (vs.take j)).2 a b
  | [], vs, f, j, a, b, h, _, _ => by simp at h
  | u :: us, [], f, j, a, b, _, h, _ => by simp at h
  | u :: us, v :: vs, f, 0, a, b, h, h', _ => by
    simp at h h'; subst h; subst h'
    simp only [List.take_succ_cons, List.take_zero, insts]
    split
    · rename_i h1; rw [← h1]
    · rename_i h1
      have h2 : (inst f u v).1 = false := by simpa using h1
      rw [← h2]
  | u :: us, v :: vs, f, j + 1, a, b, h, h', ht => by
    simp only [List.take_succ_cons, insts] at ht ⊢
    cases h1 : (inst f u v).1 with
    | false => rw [h1] at ht; simp at ht
    | true =>
      simp only [h1, if_true] at ht ⊢
      exact insts_step (us := us) (vs := vs) (by simpa using h) (by simpa using h') ht
theorem insts_fail : ∀ {us vs : List Ty} {f : Fnd} {j : Nat} {a b : Ty}, us[j]? = some a → vs[j]? = some b → (insts f (us.take j) (vs.take j)).1 = true → (inst (insts f (us.take j) (vs.take j)).2 a b).1 = false → insts f us vs = inst (insts f (us.take j) (vs.take j)).2 a b
  | [], vs, f, j, a, b, h, _, _, _ => by simp at h
  | u :: us, [], f, j, a, b, _, h, _, _ => by simp at h
  | u :: us, v :: vs, f, 0, a, b, h, h', _, hf => by
    simp at h h'; subst h; subst h'
    simp only [List.take_zero, insts] at hf ⊢
    rw [hf]
    simp only [Bool.false_eq_true, if_false]
    rw [← hf]
  | u :: us, v :: vs, f, j + 1, a, b, h, h', ht, hf => by
    simp only [List.take_succ_cons, insts] at ht hf ⊢
    cases h1 : (inst f u v).1 with
    | false => rw [h1] at ht; simp at ht
    | true =>
      simp only [h1, if_true] at ht hf ⊢
      exact insts_fail (us := us) (vs := vs) (by simpa using h) (by simpa using h') ht hf
theorem EqualFuncI (hΓ : ∀ g cs, (g, cs) ∈ Γ → idsL isO cs) (us vs : List Ty) (hus : us.length ≤ 1048576) (hvs : vs.length ≤ 1048576) (hsv : smallTys vs) (ih : ∀ a ∈ us, ∀ b ∈ vs, InstOk Γ a b) (f : Fnd) (ck : Nat) (l : List (Nat × Int × Ty)) (hf : smallF f) (hm : MapIs f ck l) :
    AFn Tryd.prog Γ 73 [.one (.sl 4 (encTys us)), .one (.sl 4 (encTys vs)), .one (.fn (.func 58) [.ptr (.o 0) 0] [])] (ouF ck l) (InstQ (if us.length ≠ vs.length then (false, f) else insts f us vs)) := by
  refine AFn.walk 32 tabOk Tryd.func73 rfl (by kernel_rfl) rfl rfl fun hou => ?_
  repeat first | (with_reducible refine oj ?_; refine AOps.auto tabOk rfl ?_) | (with_reducible first | refine o1 ?_ | refine o2 ?_ | refine o3 ?_ | refine o4 ?_ | refine o5 ?_ | refine o6 ?_ | refine o7 ?_ | refine o8 ?_ | refine o9 ?_ | refine oa ?_ | refine ob ?_ | refine oc ?_ | refine od ?_ | refine oe ?_ | refine og ?_ | refine oh ?_ | refine oi ?_) | (with_reducible refine cExitMiss ?_ ?_; rfl) | (with_reducible refine ok ?_; first | refine ACode.condT rfl ?_ | refine ACode.condF rfl ?_)
  refine ACode.cond rfl (fun hb => ?_) (fun hb => ?_)
  · have hne : us.length ≠ vs.length := by simp at hb; omega
    repeat first | (with_reducible refine oj ?_; refine AOps.auto tabOk rfl ?_) | (with_reducible first | refine o1 ?_ | refine o2 ?_ | refine o3 ?_ | refine o4 ?_ | refine o5 ?_ | refine o6 ?_ | refine o7 ?_ | refine o8 ?_ | refine o9 ?_ | refine oa ?_ | refine ob ?_ | refine oc ?_ | refine od ?_ | refine oe ?_ | refine og ?_ | refine oh ?_ | refine oi ?_) | (with_reducible refine cExitMiss ?_ ?_; rfl) | (with_reducible refine ok ?_; first | refine ACode.condT rfl ?_ | refine ACode.condF rfl ?_)
    refine AFn.fin rfl (WkF.refl _) (by simp) hou ?_
    rw [if_pos hne]
    exact ⟨rfl, ck, l, rfl, hm⟩
  have hle : us.length = vs.length := by simp at hb; omega
  rw [if_neg (by simpa using hle)]
  repeat first | (with_reducible refine oj ?_; refine AOps.auto tabOk rfl ?_) | (with_reducible first | refine o1 ?_ | refine o2 ?_ | refine o3 ?_ | refine o4 ?_ | refine o5 ?_ | refine o6 ?_ | refine o7 ?_ | refine o8 ?_ | refine o9 ?_ | refine oa ?_ | refine ob ?_ | refine oc ?_ | refine od ?_ | refine oe ?_ | refine og ?_ | refine oh ?_ | refine oi ?_) | (with_reducible refine cExitMiss ?_ ?_; rfl) | (with_reducible refine ok ?_; first | refine ACode.condT rfl ?_ | refine ACode.condF rfl ?_)
  refine ACode.loopR hΓ (α := Nat × Nat × List (Nat × Int × Ty)) (fun a => [(17, .one (int a.1)), (16, .one (int (encTys us).length)), (15, .one (.sl 4 (encTys us))), (2, .one (.fn (.func 58) [.ptr (.o 0) 0] [])), (1, .one (.sl 4 (encTys vs)))])
    (fun a => ⟨0, [], ouF a.2.1 a.2.2⟩) (fun m a => a.1 ≤ us.length ∧ (insts f (us.take a.1) (vs.take a.1)).1 = true ∧ MapIs (insts f (us.take a.1) (vs.take a.1)).2 a.2.1 a.2.2 ∧ m = us.length - a.1) (a0 := (0, ck, l)) (ρ := id) ⟨by simp, by simp [insts], by simpa [insts] using hm, rfl⟩ (LessR.of rfl (by (repeat' first | exact FrSub.nil | refine FrSub.cons rfl (.ofEq rfl) ?_ | refine FrSub.consP rfl (.ofEq rfl) (by simp) ?_)) (by simp) (by repeat' first | exact LoSub.nil | refine LoSub.cons rfl ?_ rfl (by simp) ?_ | rfl | (refine (AObj.ren_pure _ _ ?_).symm; simp; done) | (simp [AObj.ren, renL, AC.ren, cTy]; done) | (simp [AObj.ren, renL, AC.ren, cTy]; rfl)) rfl rfl hou) fun m a hj => ?_
  obtain ⟨j, ck', l'⟩ := a
  obtain ⟨hjl, ht, hm', rfl⟩ := hj
  simp only at hjl ht hm'
  repeat first | (with_reducible refine oj ?_; refine AOps.auto tabOk rfl ?_) | (with_reducible first | refine o1 ?_ | refine o2 ?_ | refine o3 ?_ | refine o4 ?_ | refine o5 ?_ | refine o6 ?_ | refine o7 ?_ | refine o8 ?_ | refine o9 ?_ | refine oa ?_ | refine ob ?_ | refine oc ?_ | refine od ?_ | refine oe ?_ | refine og ?_ | refine oh ?_ | refine oi ?_) | (with_reducible refine cExitMiss ?_ ?_; rfl) | (with_reducible refine ok ?_; first | refine ACode.condT rfl ?_ | refine ACode.condF rfl ?_)
  refine ACode.cond rfl (fun hb2 => ?_) (fun hb2 => ?_)
  · have hlt : j < us.length := by simpa using hb2
    obtain ⟨a, ha⟩ := get_of_lt hlt
    obtain ⟨b, hbb⟩ := get_of_lt (show j < vs.length by omega)
    have hma := List.mem_of_getElem? ha
    have hmb := List.mem_of_getElem? hbb
    have hf' : smallF (insts f (us.take j) (vs.take j)).2 := smallF_insts _ hf (smallTys_iff.2 fun t ht => smallTys_iff.1 hsv t (List.mem_of_mem_take ht))
    have hc := ih a hma b hmb _ ck' l' hf' hm'
    have hst := insts_step ha hbb ht
    have hfl := insts_fail ha hbb ht
    generalize hg : (insts f (us.take j) (vs.take j)).2 = g at hc hst hfl hm' hf'
    repeat first | (with_reducible refine oj ?_; refine AOps.auto tabOk rfl ?_) | (with_reducible first | refine o1 ?_ | refine o2 ?_ | refine o3 ?_ | refine o4 ?_ | refine o5 ?_ | refine o6 ?_ | refine o7 ?_ | refine o8 ?_ | refine o9 ?_ | refine oa ?_ | refine ob ?_ | refine oc ?_ | refine od ?_ | refine oe ?_ | refine og ?_ | refine oh ?_ | refine oi ?_) | (with_reducible refine cExitMiss ?_ ?_; rfl) | (with_reducible refine ok ?_; first | refine ACode.condT rfl ?_ | refine ACode.condF rfl ?_)
    refine AOps.step1 rfl rfl rfl (AStep.indexAddr tabOk rfl rfl rfl rfl rfl rfl (.inl rfl) rfl (by omega) (by simpa using encTys_get ha)) ?_
    repeat first | (with_reducible refine oj ?_; refine AOps.auto tabOk rfl ?_) | (with_reducible first | refine o1 ?_ | refine o2 ?_ | refine o3 ?_ | refine o4 ?_ | refine o5 ?_ | refine o6 ?_ | refine o7 ?_ | refine o8 ?_ | refine o9 ?_ | refine oa ?_ | refine ob ?_ | refine oc ?_ | refine od ?_ | refine oe ?_ | refine og ?_ | refine oh ?_ | refine oi ?_) | (with_reducible refine cExitMiss ?_ ?_; rfl) | (with_reducible refine ok ?_; first | refine ACode.condT rfl ?_ | refine ACode.condF rfl ?_)
    refine AOps.step1 rfl rfl rfl (AStep.indexAddr tabOk rfl rfl rfl rfl rfl rfl (.inl rfl) rfl (by omega) (by simpa using encTys_get hbb)) ?_
    repeat first | (with_reducible refine oj ?_; refine AOps.auto tabOk rfl ?_) | (with_reducible first | refine o1 ?_ | refine o2 ?_ | refine o3 ?_ | refine o4 ?_ | refine o5 ?_ | refine o6 ?_ | refine o7 ?_ | refine o8 ?_ | refine o9 ?_ | refine oa ?_ | refine ob ?_ | refine oc ?_ | refine od ?_ | refine oe ?_ | refine og ?_ | refine oh ?_ | refine oi ?_) | (with_reducible refine cExitMiss ?_ ?_; rfl) | (with_reducible refine ok ?_; first | refine ACode.condT rfl ?_ | refine ACode.condF rfl ?_)
    refine AOps.call1 hΓ rfl rfl rfl rfl rfl rfl rfl (by simp) (ouF_ok _ _) hc fun r ou' hq hids hou' => ?_
    obtain ⟨rfl, ck2, l2, rfl, hm2⟩ := hq
    repeat first | (with_reducible refine oj ?_; refine AOps.auto tabOk rfl ?_) | (with_reducible first | refine o1 ?_ | refine o2 ?_ | refine o3 ?_ | refine o4 ?_ | refine o5 ?_ | refine o6 ?_ | refine o7 ?_ | refine o8 ?_ | refine o9 ?_ | refine oa ?_ | refine ob ?_ | refine oc ?_ | refine od ?_ | refine oe ?_ | refine og ?_ | refine oh ?_ | refine oi ?_) | (with_reducible refine cExitMiss ?_ ?_; rfl) | (with_reducible refine ok ?_; first | refine ACode.condT rfl ?_ | refine ACode.condF rfl ?_)
    refine ACode.cond rfl (fun hb3 => ?_) (fun hb3 => ?_)
    · have hno : (inst g a b).1 = false := by simpa using hb3
      repeat first | (with_reducible refine oj ?_; refine AOps.auto tabOk rfl ?_) | (with_reducible first | refine o1 ?_ | refine o2 ?_ | refine o3 ?_ | refine o4 ?_ | refine o5 ?_ | refine o6 ?_ | refine o7 ?_ | refine o8 ?_ | refine o9 ?_ | refine oa ?_ | refine ob ?_ | refine oc ?_ | refine od ?_ | refine oe ?_ | refine og ?_ | refine oh ?_ | refine oi ?_) | (with_reducible refine cExitMiss ?_ ?_; rfl) | (with_reducible refine ok ?_; first | refine ACode.condT rfl ?_ | refine ACode.condF rfl ?_)
      refine AFn.fin rfl (WkF.refl _) (by simp) hou' ?_
      rw [hfl hno]
      exact ⟨by rw [hno], ck2, l2, rfl, hm2⟩
    · have hyes : (inst g a b).1 = true := by simpa using hb3
      repeat first | (with_reducible refine oj ?_; refine AOps.auto tabOk rfl ?_) | (with_reducible first | refine o1 ?_ | refine o2 ?_ | refine o3 ?_ | refine o4 ?_ | refine o5 ?_ | refine o6 ?_ | refine o7 ?_ | refine o8 ?_ | refine o9 ?_ | refine oa ?_ | refine ob ?_ | refine oc ?_ | refine od ?_ | refine oe ?_ | refine og ?_ | refine oh ?_ | refine oi ?_) | (with_reducible refine cExitMiss ?_ ?_; rfl) | (with_reducible refine ok ?_; first | refine ACode.condT rfl ?_ | refine ACode.condF rfl ?_)
      refine AOps.step1 rfl rfl rfl (AStep.arith rfl rfl rfl (.inl ⟨rfl, rfl⟩) (inRange_i64 (by omega) (by omega))) ?_
      repeat first | (with_reducible refine oj ?_; refine AOps.auto tabOk rfl ?_) | (with_reducible first | refine o1 ?_ | refine o2 ?_ | refine o3 ?_ | refine o4 ?_ | refine o5 ?_ | refine o6 ?_ | refine o7 ?_ | refine o8 ?_ | refine o9 ?_ | refine oa ?_ | refine ob ?_ | refine oc ?_ | refine od ?_ | refine oe ?_ | refine og ?_ | refine oh ?_ | refine oi ?_) | (with_reducible refine cExitMiss ?_ ?_; rfl) | (with_reducible refine ok ?_; first | refine ACode.condT rfl ?_ | refine ACode.condF rfl ?_)
      exact cInv ⟨us.length - (j + 1), (j + 1, ck2, l2), id, by show _ < _ - j; omega, ⟨by show j + 1 ≤ _; omega, by rw [hst]; exact hyes, by rw [hst]; exact hm2, rfl⟩, LessR.of rfl (by (repeat' first | exact FrSub.nil | refine FrSub.cons rfl (.ofEq rfl) ?_ | refine FrSub.consP rfl (.ofEq rfl) (by simp) ?_)) (by simp) (by repeat' first | exact LoSub.nil | refine LoSub.cons rfl ?_ rfl (by simp) ?_ | rfl | (refine (AObj.ren_pure _ _ ?_).symm; simp; done) | (simp [AObj.ren, renL, AC.ren, cTy]; done) | (simp [AObj.ren, renL, AC.ren, cTy]; rfl)) rfl rfl hou'⟩
  · have hlt : j = us.length := by simp at hb2; omega
    subst hlt
    rw [List.take_length, hle, List.take_length] at ht hm'
    repeat first | (with_reducible refine oj ?_; refine AOps.auto tabOk rfl ?_) | (with_reducible first | refine o1 ?_ | refine o2 ?_ | refine o3 ?_ | refine o4 ?_ | refine o5 ?_ | refine o6 ?_ | refine o7 ?_ | refine o8 ?_ | refine o9 ?_ | refine oa ?_ | refine ob ?_ | refine oc ?_ | refine od ?_ | refine oe ?_ | refine og ?_ | refine oh ?_ | refine oi ?_) | (with_reducible refine cExitMiss ?_ ?_; rfl) | (with_reducible refine ok ?_; first | refine ACode.condT rfl ?_ | refine ACode.condF rfl ?_)
    refine AFn.fin rfl (WkF.refl _) (by simp) (ouF_ok _ _) ?_
    exact ⟨by rw [ht], ck', l', rfl, hm'⟩
end Go.Proofs.YtoojdmgbffnmiaaDoor
/- instance: walked. -/
namespace Go.Proofs.YtoojdmgbffnmiaaDoor
open Go Go.Abs
set_option maxRecDepth 10000
set_option linter.unusedVariables false
set_option linter.unusedSimpArgs false
variable {Γ : List (Nat × List AC)}
theorem keysOk_enc (l : List (Nat × Int × Ty)) : KeysOk (.int .i64) (encM l) := by
  intro x hx
  simp [encM] at hx
  obtain ⟨a, b, c, _, rfl⟩ := hx
  rfl
def zTy : List AC := [int 0, str ⟨#[]⟩, int 0, .lit (.slice none 0 0)]
theorem lookT {E : Env} {o : Oper} {fr : Fr} {σ : St} {x i : Operand} {m : Abs.Id} {ck : Nat} {l : List (Nat × Int × Ty)} {v : Int} {f : Fnd} (hE : E.P = Tryd.prog) (hT : E.T = tab) (ho : o.op = .lookup 104 x i true) (hx : aEval E.Γ fr x = some (.one (.mp m))) (hg : σ.get m = some (.map ck (encM l))) (hu : aEval E.Γ fr i = some (.one (int v))) (hm : MapIs f ck l) :
    AStep E o fr σ (.tup [.agg (match f v with | some t => cTy t | none => zTy), .one (.lit (.bool (f v).isSome))]) σ := by
  have hl : mFind (.int .i64 v) (encM l) = (f v).map (fun t => .agg (cTy t)) := by rw [mFind_enc, hm.look]
  have h := AStep.lookup2 (E := E) (d := .int .i64) (tj := ti36) (z := .agg zTy) (by rw [hE, hT]; exact tabOk) ho (by rw [hE]; exact Tryd.underlying104) (by rw [hE]; exact Tryd.underlying3) (by rw [hT]; rfl) hx hg hu rfl (keysOk_enc l) (by rw [hE]; kernel_rfl) rfl rfl
  rw [hl] at h
  cases hf : f v with
  | none => rw [hf] at h; exact h
  | some t => rw [hf] at h; exact h
theorem ouF_set (ck ck' : Nat) (l l' : List (Nat × Int × Ty)) : (fun j => bif Nat.beq j 1 then some (AObj.map ck' (encM l')) else ouF ck l j) = ouF ck' l' := by
  funext j
  match j with
  | 0 => rfl
  | 1 => rfl
  | k + 2 => rfl
theorem smallTy_args : ∀ {b : Ty}, smallTy b → smallTys b.args
  | .mk _ _ _ _, h => h.2
theorem instance_ok (hΓ : ∀ g cs, (g, cs) ∈ Γ → idsL isO cs) : ∀ (a : Ty), smallTy a → ∀ b, smallTy b → InstOk Γ a b
  | .mk k n v us, ha, b, hsb => by
    have ih : ∀ x ∈ us, ∀ y ∈ b.args, InstOk Γ x y := fun x hx y hy => instance_ok hΓ x (smallTys_iff.1 ha.2 x hx) y (smallTys_iff.1 (smallTy_args hsb) y hy)
    intro f ck l hf hm
    refine AFn.walk 62 tabOk Tryd.func58 rfl (by kernel_rfl) rfl rfl fun hou => ?_
    repeat first | (with_reducible refine oj ?_; refine AOps.auto tabOk rfl ?_) | (with_reducible first | refine o1 ?_ | refine o2 ?_ | refine o3 ?_ | refine o4 ?_ | refine o5 ?_ | refine o6 ?_ | refine o7 ?_ | refine o8 ?_ | refine o9 ?_ | refine oa ?_ | refine ob ?_ | refine oc ?_ | refine od ?_ | refine oe ?_ | refine og ?_ | refine oh ?_ | refine oi ?_) | (with_reducible refine cExitMiss ?_ ?_; rfl) | (with_reducible refine ok ?_; first | refine ACode.condT rfl ?_ | refine ACode.condF rfl ?_)
    refine ACode.cond rfl (fun hk => ?_) (fun hk => ?_)
    · have hk0 : k = 0 := by simpa using hk
      repeat first | (with_reducible refine oj ?_; refine AOps.auto tabOk rfl ?_) | (with_reducible first | refine o1 ?_ | refine o2 ?_ | refine o3 ?_ | refine o4 ?_ | refine o5 ?_ | refine o6 ?_ | refine o7 ?_ | refine o8 ?_ | refine o9 ?_ | refine oa ?_ | refine ob ?_ | refine oc ?_ | refine od ?_ | refine oe ?_ | refine og ?_ | refine oh ?_ | refine oi ?_) | (with_reducible refine cExitMiss ?_ ?_; rfl) | (with_reducible refine ok ?_; first | refine ACode.condT rfl ?_ | refine ACode.condF rfl ?_)
      have hlk := fun {E : Env} {o : Oper} {fr : Fr} {σ : St} {x i : Operand} (hE : E.P = Tryd.prog) (hT : E.T = tab) (ho : o.op = .lookup 104 x i true) (hx : aEval E.Γ fr x = some (.one (.mp (.o 1)))) (hg : σ.get (.o 1) = some (.map ck (encM l))) (hu : aEval E.Γ fr i = some (.one (int v))) => lookT hE hT ho hx hg hu hm
      cases hfv : f v with
      | some t =>
        rw [hfv] at hlk
        refine ACode.drawXS tabOk 12 10 11 [(6, .tup [.agg (cTy t), .one (.lit (.bool true))])] follows (by kernel_rfl) rfl rfl rfl (by kernel_rfl) rfl rfl rfl rfl rfl rfl rfl rfl rfl rfl rfl rfl ?_ ?_ ?_ ?_
        · exact .step rfl (HStep.plain rfl (hlk rfl rfl rfl rfl rfl rfl)) .nil
        · exact .step rfl (HStep.plain rfl (hlk rfl rfl rfl rfl rfl rfl)) .nil
        · exact .step rfl (HStep.plain rfl (hlk rfl rfl rfl rfl rfl rfl)) .nil
        repeat first | (with_reducible refine oj ?_; refine AOps.auto tabOk rfl ?_) | (with_reducible first | refine o1 ?_ | refine o2 ?_ | refine o3 ?_ | refine o4 ?_ | refine o5 ?_ | refine o6 ?_ | refine o7 ?_ | refine o8 ?_ | refine o9 ?_ | refine oa ?_ | refine ob ?_ | refine oc ?_ | refine od ?_ | refine oe ?_ | refine og ?_ | refine oh ?_ | refine oi ?_) | (with_reducible refine cExitMiss ?_ ?_; rfl) | (with_reducible refine ok ?_; first | refine ACode.condT rfl ?_ | refine ACode.condF rfl ?_)
        refine AOps.callC hΓ (sameType_ok hΓ t b (hf v t hfv)) rfl rfl rfl rfl rfl rfl rfl (ouF_ok _ _) (by simp) ?_
        repeat first | (with_reducible refine oj ?_; refine AOps.auto tabOk rfl ?_) | (with_reducible first | refine o1 ?_ | refine o2 ?_ | refine o3 ?_ | refine o4 ?_ | refine o5 ?_ | refine o6 ?_ | refine o7 ?_ | refine o8 ?_ | refine o9 ?_ | refine oa ?_ | refine ob ?_ | refine oc ?_ | refine od ?_ | refine oe ?_ | refine og ?_ | refine oh ?_ | refine oi ?_) | (with_reducible refine cExitMiss ?_ ?_; rfl) | (with_reducible refine ok ?_; first | refine ACode.condT rfl ?_ | refine ACode.condF rfl ?_)
        refine AFn.fin rfl (WkF.refl _) (by simp) (ouF_ok _ _) ?_
        unfold inst
        rw [if_pos hk0, hfv]
        exact ⟨rfl, ck, l, rfl, hm⟩
      | none =>
        rw [hfv] at hlk
        refine ACode.drawXS tabOk 12 10 11 [(6, .tup [.agg zTy, .one (.lit (.bool false))])] follows (by kernel_rfl) rfl rfl rfl (by kernel_rfl) rfl rfl rfl rfl rfl rfl rfl rfl rfl rfl rfl rfl ?_ ?_ ?_ ?_
        · exact .step rfl (HStep.plain rfl (hlk rfl rfl rfl rfl rfl rfl)) .nil
        · exact .step rfl (HStep.plain rfl (hlk rfl rfl rfl rfl rfl rfl)) .nil
        · exact .step rfl (HStep.plain rfl (hlk rfl rfl rfl rfl rfl rfl)) .nil
        repeat first | (with_reducible refine oj ?_; refine AOps.auto tabOk rfl ?_) | (with_reducible first | refine o1 ?_ | refine o2 ?_ | refine o3 ?_ | refine o4 ?_ | refine o5 ?_ | refine o6 ?_ | refine o7 ?_ | refine o8 ?_ | refine o9 ?_ | refine oa ?_ | refine ob ?_ | refine oc ?_ | refine od ?_ | refine oe ?_ | refine og ?_ | refine oh ?_ | refine oi ?_) | (with_reducible refine cExitMiss ?_ ?_; rfl) | (with_reducible refine ok ?_; first | refine ACode.condT rfl ?_ | refine ACode.condF rfl ?_)
        refine ACode.drawX tabOk 7 [] follows (by kernel_rfl) rfl rfl rfl rfl .nil ?_
        repeat first | (with_reducible refine oj ?_; refine AOps.auto tabOk rfl ?_) | (with_reducible first | refine o1 ?_ | refine o2 ?_ | refine o3 ?_ | refine o4 ?_ | refine o5 ?_ | refine o6 ?_ | refine o7 ?_ | refine o8 ?_ | refine o9 ?_ | refine oa ?_ | refine ob ?_ | refine oc ?_ | refine od ?_ | refine oe ?_ | refine og ?_ | refine oh ?_ | refine oi ?_) | (with_reducible refine cExitMiss ?_ ?_; rfl) | (with_reducible refine ok ?_; first | refine ACode.condT rfl ?_ | refine ACode.condF rfl ?_)
        refine AOps.step rfl rfl (AStep.mapUpdate (u := .int .i64 v) (v := .agg (cTy b)) rfl Tryd.underlying104 Tryd.underlying3 rfl rfl rfl rfl rfl (keysOk_enc l)) ?_
        rw [mPut_enc v b ck l (by have := hm.look v; rw [hfv] at this; simpa using this)]
        repeat first | (with_reducible refine oj ?_; refine AOps.auto tabOk rfl ?_) | (with_reducible first | refine o1 ?_ | refine o2 ?_ | refine o3 ?_ | refine o4 ?_ | refine o5 ?_ | refine o6 ?_ | refine o7 ?_ | refine o8 ?_ | refine o9 ?_ | refine oa ?_ | refine ob ?_ | refine oc ?_ | refine od ?_ | refine oe ?_ | refine og ?_ | refine oh ?_ | refine oi ?_) | (with_reducible refine cExitMiss ?_ ?_; rfl) | (with_reducible refine ok ?_; first | refine ACode.condT rfl ?_ | refine ACode.condF rfl ?_)
        refine AFn.fin rfl (WkF.refl _) (by simp) ?_ ?_
        · show OuOk (fun j => bif Nat.beq j 1 then some (AObj.map (ck + 1) (encM (l ++ [(ck, v, b)]))) else ouF ck l j)
          rw [ouF_set]; exact ouF_ok _ _
        · show InstQ _ _ (fun j => bif Nat.beq j 1 then some (AObj.map (ck + 1) (encM (l ++ [(ck, v, b)]))) else ouF ck l j)
          rw [ouF_set]
          unfold inst
          rw [if_pos hk0, hfv]
          exact ⟨rfl, ck + 1, _, rfl, hm.put hfv⟩
    · have hk0 : k ≠ 0 := by simpa using hk
      have hno : instNo k n b = true → inst f (.mk k n v us) b = (false, f) := fun h => by unfold inst; rw [if_neg hk0, if_pos h]
      have hyes : instNo k n b = false → inst f (.mk k n v us) b = if us.length ≠ b.args.length then (false, f) else insts f us b.args := fun h => by unfold inst; rw [if_neg hk0, if_neg (by simp [h])]
      have hq := EqualFuncI hΓ us b.args ha.1 (by cases b; exact hsb.1) (smallTy_args hsb) ih f ck l hf hm
      repeat' first | (with_reducible refine oj ?_; refine AOps.auto tabOk rfl ?_) | (with_reducible first | refine o1 ?_ | refine o2 ?_ | refine o3 ?_ | refine o4 ?_ | refine o5 ?_ | refine o6 ?_ | refine o7 ?_ | refine o8 ?_ | refine o9 ?_ | refine oa ?_ | refine ob ?_ | refine oc ?_ | refine od ?_ | refine oe ?_ | refine og ?_ | refine oh ?_ | refine oi ?_) | (with_reducible refine cExitMiss ?_ ?_; rfl) | (with_reducible refine ok ?_; first | refine ACode.condT rfl ?_ | refine ACode.condF rfl ?_) | (with_reducible refine oj ?_; refine AOps.splitS rfl rfl rfl rfl (fun hb => ?_) (fun hb => ?_)) | (with_reducible refine ok ?_; refine ACode.cond rfl (fun hb => ?_) (fun hb => ?_))
      all_goals simp only [Ty.kind_mk, Ty.name_mk] at *
      all_goals first
        | (refine AFn.fin rfl (WkF.refl _) (by simp) (ouF_ok _ _) ?_
           rw [hno (by unfold instNo; simp [*])]
           exact ⟨rfl, ck, l, rfl, hm⟩)
        | (refine AOps.call1 hΓ rfl rfl rfl rfl rfl rfl rfl (by simp) (ouF_ok _ _) hq fun r ou' hq2 hids hou' => ?_
           rw [← hyes (by unfold instNo; simp [*])] at hq2
           repeat first | (with_reducible refine oj ?_; refine AOps.auto tabOk rfl ?_) | (with_reducible first | refine o1 ?_ | refine o2 ?_ | refine o3 ?_ | refine o4 ?_ | refine o5 ?_ | refine o6 ?_ | refine o7 ?_ | refine o8 ?_ | refine o9 ?_ | refine oa ?_ | refine ob ?_ | refine oc ?_ | refine od ?_ | refine oe ?_ | refine og ?_ | refine oh ?_ | refine oi ?_) | (with_reducible refine cExitMiss ?_ ?_; rfl) | (with_reducible refine ok ?_; first | refine ACode.condT rfl ?_ | refine ACode.condF rfl ?_)
           exact AFn.fin rfl (WkF.refl _) hids hou' hq2)
end Go.Proofs.YtoojdmgbffnmiaaDoor
