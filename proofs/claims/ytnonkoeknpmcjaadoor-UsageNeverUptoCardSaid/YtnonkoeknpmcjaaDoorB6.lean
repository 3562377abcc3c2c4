/- shape, walked. -/
import Derived.Test.YtnonkoeknpmcjaaDoorB5
namespace Go.Proofs.YtnonkoeknpmcjaaDoor
open Go Go.Abs Go.CoreX
set_option maxRecDepth 10000
set_option linter.unusedVariables false
set_option linter.unusedSimpArgs false
theorem arC_get {n : Int} (h0 : 0 ≤ n) (h1 : n ≤ 11) : (arC.drop (n.toNat * ti3.size))[0]? = some (int (arityL.getD n.toNat 0)) := by
  obtain ⟨m, rfl⟩ : ∃ m : Nat, n = m := ⟨n.toNat, by omega⟩
  have hm : m < 12 := by omega
  rw [Int.toNat_natCast, show ti3.size = 1 from rfl, Nat.mul_one]
  match m, hm with
  | 0, _ => rfl
  | 1, _ => rfl
  | 2, _ => rfl
  | 3, _ => rfl
  | 4, _ => rfl
  | 5, _ => rfl
  | 6, _ => rfl
  | 7, _ => rfl
  | 8, _ => rfl
  | 9, _ => rfl
  | 10, _ => rfl
  | 11, _ => rfl
def wk (x : Ex) : Int × Int × Bool := (wants x).getD (0, 0, false)
set_option maxHeartbeats 1000000 in
theorem shape_ok (x : Ex) (hx : okX x) : APure Tryd.prog Γc 88 [.agg (cEx x)] (.one (.lit (.bool (CoreX.shape x)))) := by
  have hxa := hx.a
  have hxb := hx.b
  have hxk := hx.k
  have hal := alts_ok hΓc x hx
  intro ou
  refine AFn.walk 113 tabOk Tryd.func88 rfl (by kernel_rfl) rfl rfl fun hou => ?_
  repeat' first | (with_reducible refine oj ?_; refine AOps.auto tabOk rfl ?_) | (with_reducible first | refine o1 ?_ | refine o2 ?_ | refine o3 ?_ | refine o4 ?_ | refine o5 ?_ | refine o6 ?_ | refine o7 ?_ | refine o8 ?_ | refine oa ?_ | refine ob ?_ | refine oc ?_ | refine od ?_ | refine oe ?_ | refine og ?_ | refine oh ?_ | refine oi ?_) | (with_reducible refine cExitMiss ?_ ?_; rfl) | (with_reducible refine ok ?_; first | refine ACode.condT rfl ?_ | refine ACode.condF rfl ?_) | (with_reducible refine oj ?_; first | refine AOps.step1 rfl rfl rfl (AStep.arith rfl rfl rfl (.inl ⟨rfl, rfl⟩) (inRange_i64 (by first | omega | (simp; omega)) (by first | omega | (simp; omega)))) ?_ | refine AOps.step1 rfl rfl rfl (AStep.arith rfl rfl rfl (.inr (.inl ⟨rfl, rfl⟩)) (inRange_i64 (by first | omega | (simp; omega)) (by first | omega | (simp; omega)))) ?_ | refine AOps.step1 rfl rfl rfl (AStep.neBool Tryd.underlying4 rfl rfl rfl) ?_ | refine AOps.step1 rfl rfl rfl (AStep.eqBool Tryd.underlying4 rfl rfl rfl) ?_ | refine AOps.step1 rfl rfl rfl (AStep.max2 (t := 3) (ty := 3) rfl rfl rfl) ?_ | refine AOps.step1 rfl rfl rfl (AStep.min2 (t := 3) (ty := 3) rfl rfl rfl) ?_ | refine AOps.unG rfl rfl rfl ?_)
  refine ACode.cutR hΓc (α := Unit) (fun _ => [(5, .one (.lit (.bool (wk x).2.2))), (4, .one (int (wk x).2.1)), (3, .one (int (wk x).1)), (1, .one (.ptr (.l 0) 0))])
    (fun _ => ⟨1, [(0, .cells (cEx x))], ou⟩) (fun _ => (wants x).isSome = true ∧ ¬ (x.op = 7 ∨ x.op = 13)) ?_ fun _ ha => ?_
  · repeat' first | (with_reducible refine oj ?_; refine AOps.auto tabOk rfl ?_) | (with_reducible first | refine o1 ?_ | refine o2 ?_ | refine o3 ?_ | refine o4 ?_ | refine o5 ?_ | refine o6 ?_ | refine o7 ?_ | refine o8 ?_ | refine o9 ?_ | refine oa ?_ | refine ob ?_ | refine oc ?_ | refine od ?_ | refine oe ?_ | refine og ?_ | refine oh ?_ | refine oi ?_) | (with_reducible refine cExitMiss ?_ ?_; rfl) | (with_reducible refine ok ?_; first | refine ACode.condT rfl ?_ | refine ACode.condF rfl ?_) | (with_reducible refine oj ?_; first | refine AOps.step1 rfl rfl rfl (AStep.arith rfl rfl rfl (.inl ⟨rfl, rfl⟩) (inRange_i64 (by first | omega | (simp; omega)) (by first | omega | (simp; omega)))) ?_ | refine AOps.step1 rfl rfl rfl (AStep.arith rfl rfl rfl (.inr (.inl ⟨rfl, rfl⟩)) (inRange_i64 (by first | omega | (simp; omega)) (by first | omega | (simp; omega)))) ?_ | refine AOps.step1 rfl rfl rfl (AStep.neBool Tryd.underlying4 rfl rfl rfl) ?_ | refine AOps.step1 rfl rfl rfl (AStep.eqBool Tryd.underlying4 rfl rfl rfl) ?_ | refine AOps.step1 rfl rfl rfl (AStep.max2 (t := 3) (ty := 3) rfl rfl rfl) ?_ | refine AOps.step1 rfl rfl rfl (AStep.min2 (t := 3) (ty := 3) rfl rfl rfl) ?_ | refine AOps.unG rfl rfl rfl ?_) | (with_reducible refine oj ?_; refine AOps.splitS rfl rfl rfl rfl (fun hb => ?_) (fun hb => ?_)) | (with_reducible refine ok ?_; first | refine ACode.condS rfl (fun hb => ?_) (fun hb => ?_) | refine ACode.cond rfl (fun hb => ?_) (fun hb => ?_))
    all_goals try (guard_hyp hb : (x.op == 2) = true; refine ACode.drawX tabOk 4 [] follows (by kernel_rfl) rfl rfl rfl rfl .nil ?_; repeat' first | (with_reducible refine oj ?_; refine AOps.auto tabOk rfl ?_) | (with_reducible first | refine o1 ?_ | refine o2 ?_ | refine o3 ?_ | refine o4 ?_ | refine o5 ?_ | refine o6 ?_ | refine o7 ?_ | refine o8 ?_ | refine o9 ?_ | refine oa ?_ | refine ob ?_ | refine oc ?_ | refine od ?_ | refine oe ?_ | refine og ?_ | refine oh ?_ | refine oi ?_) | (with_reducible refine cExitMiss ?_ ?_; rfl) | (with_reducible refine ok ?_; first | refine ACode.condT rfl ?_ | refine ACode.condF rfl ?_) | (with_reducible refine oj ?_; first | refine AOps.step1 rfl rfl rfl (AStep.arith rfl rfl rfl (.inl ⟨rfl, rfl⟩) (inRange_i64 (by first | omega | (simp; omega)) (by first | omega | (simp; omega)))) ?_ | refine AOps.step1 rfl rfl rfl (AStep.arith rfl rfl rfl (.inr (.inl ⟨rfl, rfl⟩)) (inRange_i64 (by first | omega | (simp; omega)) (by first | omega | (simp; omega)))) ?_ | refine AOps.step1 rfl rfl rfl (AStep.neBool Tryd.underlying4 rfl rfl rfl) ?_ | refine AOps.step1 rfl rfl rfl (AStep.eqBool Tryd.underlying4 rfl rfl rfl) ?_ | refine AOps.step1 rfl rfl rfl (AStep.max2 (t := 3) (ty := 3) rfl rfl rfl) ?_ | refine AOps.step1 rfl rfl rfl (AStep.min2 (t := 3) (ty := 3) rfl rfl rfl) ?_ | refine AOps.unG rfl rfl rfl ?_) | (with_reducible refine oj ?_; refine AOps.splitS rfl rfl rfl rfl (fun hb => ?_) (fun hb => ?_)) | (with_reducible refine ok ?_; first | refine ACode.condS rfl (fun hb => ?_) (fun hb => ?_) | refine ACode.cond rfl (fun hb => ?_) (fun hb => ?_)))
    all_goals try (guard_hyp hb : (x.op == 9) = true; refine ACode.drawX tabOk 7 [] follows (by kernel_rfl) rfl rfl rfl rfl .nil ?_; repeat' first | (with_reducible refine oj ?_; refine AOps.auto tabOk rfl ?_) | (with_reducible first | refine o1 ?_ | refine o2 ?_ | refine o3 ?_ | refine o4 ?_ | refine o5 ?_ | refine o6 ?_ | refine o7 ?_ | refine o8 ?_ | refine o9 ?_ | refine oa ?_ | refine ob ?_ | refine oc ?_ | refine od ?_ | refine oe ?_ | refine og ?_ | refine oh ?_ | refine oi ?_) | (with_reducible refine cExitMiss ?_ ?_; rfl) | (with_reducible refine ok ?_; first | refine ACode.condT rfl ?_ | refine ACode.condF rfl ?_) | (with_reducible refine oj ?_; first | refine AOps.step1 rfl rfl rfl (AStep.arith rfl rfl rfl (.inl ⟨rfl, rfl⟩) (inRange_i64 (by first | omega | (simp; omega)) (by first | omega | (simp; omega)))) ?_ | refine AOps.step1 rfl rfl rfl (AStep.arith rfl rfl rfl (.inr (.inl ⟨rfl, rfl⟩)) (inRange_i64 (by first | omega | (simp; omega)) (by first | omega | (simp; omega)))) ?_ | refine AOps.step1 rfl rfl rfl (AStep.neBool Tryd.underlying4 rfl rfl rfl) ?_ | refine AOps.step1 rfl rfl rfl (AStep.eqBool Tryd.underlying4 rfl rfl rfl) ?_ | refine AOps.step1 rfl rfl rfl (AStep.max2 (t := 3) (ty := 3) rfl rfl rfl) ?_ | refine AOps.step1 rfl rfl rfl (AStep.min2 (t := 3) (ty := 3) rfl rfl rfl) ?_ | refine AOps.unG rfl rfl rfl ?_) | (with_reducible refine oj ?_; refine AOps.splitS rfl rfl rfl rfl (fun hb => ?_) (fun hb => ?_)) | (with_reducible refine ok ?_; first | refine ACode.condS rfl (fun hb => ?_) (fun hb => ?_) | refine ACode.cond rfl (fun hb => ?_) (fun hb => ?_)))
    all_goals try (guard_hyp hb : (x.op == 5) = true; refine ACode.drawX tabOk 9 [(3, .one (int (((x.binds.map cI).length : Int) + 1))), (7, .one (int (if ((x.binds.map cI).length : Int) > 1 then ((x.binds.map cI).length : Int) else 1)))] follows (by kernel_rfl) rfl rfl rfl rfl (.step rfl (HStep.plain rfl (AStep.arith rfl rfl rfl (.inl ⟨rfl, rfl⟩) (inRange_i64 (by simp; omega) (by simp; omega)))) (.step rfl (HStep.plain rfl (AStep.max2 (t := 3) (ty := 3) rfl rfl rfl)) .nil)) ?_; repeat' first | (with_reducible refine oj ?_; refine AOps.auto tabOk rfl ?_) | (with_reducible first | refine o1 ?_ | refine o2 ?_ | refine o3 ?_ | refine o4 ?_ | refine o5 ?_ | refine o6 ?_ | refine o7 ?_ | refine o8 ?_ | refine o9 ?_ | refine oa ?_ | refine ob ?_ | refine oc ?_ | refine od ?_ | refine oe ?_ | refine og ?_ | refine oh ?_ | refine oi ?_) | (with_reducible refine cExitMiss ?_ ?_; rfl) | (with_reducible refine ok ?_; first | refine ACode.condT rfl ?_ | refine ACode.condF rfl ?_) | (with_reducible refine oj ?_; first | refine AOps.step1 rfl rfl rfl (AStep.arith rfl rfl rfl (.inl ⟨rfl, rfl⟩) (inRange_i64 (by first | omega | (simp; omega)) (by first | omega | (simp; omega)))) ?_ | refine AOps.step1 rfl rfl rfl (AStep.arith rfl rfl rfl (.inr (.inl ⟨rfl, rfl⟩)) (inRange_i64 (by first | omega | (simp; omega)) (by first | omega | (simp; omega)))) ?_ | refine AOps.step1 rfl rfl rfl (AStep.neBool Tryd.underlying4 rfl rfl rfl) ?_ | refine AOps.step1 rfl rfl rfl (AStep.eqBool Tryd.underlying4 rfl rfl rfl) ?_ | refine AOps.step1 rfl rfl rfl (AStep.max2 (t := 3) (ty := 3) rfl rfl rfl) ?_ | refine AOps.step1 rfl rfl rfl (AStep.min2 (t := 3) (ty := 3) rfl rfl rfl) ?_ | refine AOps.unG rfl rfl rfl ?_) | (with_reducible refine oj ?_; refine AOps.splitS rfl rfl rfl rfl (fun hb => ?_) (fun hb => ?_)) | (with_reducible refine ok ?_; first | refine ACode.condS rfl (fun hb => ?_) (fun hb => ?_) | refine ACode.cond rfl (fun hb => ?_) (fun hb => ?_)))
    all_goals try (refine AOps.callC hΓc hal rfl rfl rfl rfl rfl rfl rfl hou (by simp) ?_; repeat' first | (with_reducible refine oj ?_; refine AOps.auto tabOk rfl ?_) | (with_reducible first | refine o1 ?_ | refine o2 ?_ | refine o3 ?_ | refine o4 ?_ | refine o5 ?_ | refine o6 ?_ | refine o7 ?_ | refine o8 ?_ | refine o9 ?_ | refine oa ?_ | refine ob ?_ | refine oc ?_ | refine od ?_ | refine oe ?_ | refine og ?_ | refine oh ?_ | refine oi ?_) | (with_reducible refine cExitMiss ?_ ?_; rfl) | (with_reducible refine ok ?_; first | refine ACode.condT rfl ?_ | refine ACode.condF rfl ?_) | (with_reducible refine oj ?_; first | refine AOps.step1 rfl rfl rfl (AStep.arith rfl rfl rfl (.inl ⟨rfl, rfl⟩) (inRange_i64 (by first | omega | (simp; omega)) (by first | omega | (simp; omega)))) ?_ | refine AOps.step1 rfl rfl rfl (AStep.arith rfl rfl rfl (.inr (.inl ⟨rfl, rfl⟩)) (inRange_i64 (by first | omega | (simp; omega)) (by first | omega | (simp; omega)))) ?_ | refine AOps.step1 rfl rfl rfl (AStep.neBool Tryd.underlying4 rfl rfl rfl) ?_ | refine AOps.step1 rfl rfl rfl (AStep.eqBool Tryd.underlying4 rfl rfl rfl) ?_ | refine AOps.step1 rfl rfl rfl (AStep.max2 (t := 3) (ty := 3) rfl rfl rfl) ?_ | refine AOps.step1 rfl rfl rfl (AStep.min2 (t := 3) (ty := 3) rfl rfl rfl) ?_ | refine AOps.unG rfl rfl rfl ?_) | (with_reducible refine oj ?_; refine AOps.splitS rfl rfl rfl rfl (fun hb => ?_) (fun hb => ?_)) | (with_reducible refine ok ?_; first | refine ACode.condS rfl (fun hb => ?_) (fun hb => ?_) | refine ACode.cond rfl (fun hb => ?_) (fun hb => ?_)))
    all_goals try (refine AOps.callC hΓc (between_ok x.n 0 11) rfl rfl rfl rfl rfl rfl rfl hou (by simp) ?_; repeat' first | (with_reducible refine oj ?_; refine AOps.auto tabOk rfl ?_) | (with_reducible first | refine o1 ?_ | refine o2 ?_ | refine o3 ?_ | refine o4 ?_ | refine o5 ?_ | refine o6 ?_ | refine o7 ?_ | refine o8 ?_ | refine o9 ?_ | refine oa ?_ | refine ob ?_ | refine oc ?_ | refine od ?_ | refine oe ?_ | refine og ?_ | refine oh ?_ | refine oi ?_) | (with_reducible refine cExitMiss ?_ ?_; rfl) | (with_reducible refine ok ?_; first | refine ACode.condT rfl ?_ | refine ACode.condF rfl ?_) | (with_reducible refine oj ?_; first | refine AOps.step1 rfl rfl rfl (AStep.arith rfl rfl rfl (.inl ⟨rfl, rfl⟩) (inRange_i64 (by first | omega | (simp; omega)) (by first | omega | (simp; omega)))) ?_ | refine AOps.step1 rfl rfl rfl (AStep.arith rfl rfl rfl (.inr (.inl ⟨rfl, rfl⟩)) (inRange_i64 (by first | omega | (simp; omega)) (by first | omega | (simp; omega)))) ?_ | refine AOps.step1 rfl rfl rfl (AStep.neBool Tryd.underlying4 rfl rfl rfl) ?_ | refine AOps.step1 rfl rfl rfl (AStep.eqBool Tryd.underlying4 rfl rfl rfl) ?_ | refine AOps.step1 rfl rfl rfl (AStep.max2 (t := 3) (ty := 3) rfl rfl rfl) ?_ | refine AOps.step1 rfl rfl rfl (AStep.min2 (t := 3) (ty := 3) rfl rfl rfl) ?_ | refine AOps.unG rfl rfl rfl ?_) | (with_reducible refine oj ?_; refine AOps.splitS rfl rfl rfl rfl (fun hb => ?_) (fun hb => ?_)) | (with_reducible refine ok ?_; first | refine ACode.condS rfl (fun hb => ?_) (fun hb => ?_) | refine ACode.cond rfl (fun hb => ?_) (fun hb => ?_)))
    all_goals try (refine AOps.step1 rfl rfl rfl (AStep.indexArr tabOk rfl rfl rfl rfl rfl rfl (by simp_all [between]) (by simp_all [between]; show x.n < 12; omega)) ?_; refine AOps.step1 rfl rfl rfl (AStep.loadBox tabOk rfl rfl rfl rfl rfl (arC_get (by simp_all [between]) (by simp_all [between]))) ?_; repeat' first | (with_reducible refine oj ?_; refine AOps.auto tabOk rfl ?_) | (with_reducible first | refine o1 ?_ | refine o2 ?_ | refine o3 ?_ | refine o4 ?_ | refine o5 ?_ | refine o6 ?_ | refine o7 ?_ | refine o8 ?_ | refine o9 ?_ | refine oa ?_ | refine ob ?_ | refine oc ?_ | refine od ?_ | refine oe ?_ | refine og ?_ | refine oh ?_ | refine oi ?_) | (with_reducible refine cExitMiss ?_ ?_; rfl) | (with_reducible refine ok ?_; first | refine ACode.condT rfl ?_ | refine ACode.condF rfl ?_) | (with_reducible refine oj ?_; first | refine AOps.step1 rfl rfl rfl (AStep.arith rfl rfl rfl (.inl ⟨rfl, rfl⟩) (inRange_i64 (by first | omega | (simp; omega)) (by first | omega | (simp; omega)))) ?_ | refine AOps.step1 rfl rfl rfl (AStep.arith rfl rfl rfl (.inr (.inl ⟨rfl, rfl⟩)) (inRange_i64 (by first | omega | (simp; omega)) (by first | omega | (simp; omega)))) ?_ | refine AOps.step1 rfl rfl rfl (AStep.neBool Tryd.underlying4 rfl rfl rfl) ?_ | refine AOps.step1 rfl rfl rfl (AStep.eqBool Tryd.underlying4 rfl rfl rfl) ?_ | refine AOps.step1 rfl rfl rfl (AStep.max2 (t := 3) (ty := 3) rfl rfl rfl) ?_ | refine AOps.step1 rfl rfl rfl (AStep.min2 (t := 3) (ty := 3) rfl rfl rfl) ?_ | refine AOps.unG rfl rfl rfl ?_) | (with_reducible refine oj ?_; refine AOps.splitS rfl rfl rfl rfl (fun hb => ?_) (fun hb => ?_)) | (with_reducible refine ok ?_; first | refine ACode.condS rfl (fun hb => ?_) (fun hb => ?_) | refine ACode.cond rfl (fun hb => ?_) (fun hb => ?_)))
    all_goals first
      | (refine cInv ⟨(), id, ⟨?_, ?_⟩, LessR.of rfl (FrSub.cons rfl (.ofEq ?_) (FrSub.cons rfl (.ofEq ?_) (FrSub.cons rfl (.ofEq ?_) (FrSub.cons rfl (.ofEq rfl) .nil)))) (by simp) (by repeat' first | exact LoSub.nil | refine LoSub.cons rfl ?_ rfl (by simp) ?_ | rfl | (refine (AObj.ren_pure _ _ ?_).symm; simp; done) | (simp [AObj.ren, renL, AC.ren]; done) | (simp [AObj.ren, renL, AC.ren]; rfl)) rfl rfl hou⟩ <;> simp_all [wants, wk, FV.ren, AC.ren] <;> done)
      | (refine APure.fin rfl (WkF.ofEq ?_) (by simp) hou rfl
         simp_all [CoreX.shape, wants]
         done)
  · obtain ⟨hw0, hn⟩ := ha
    have hw : wants x = some (wk x) := by
      unfold wk
      cases h : wants x with
      | none => rw [h] at hw0; cases hw0
      | some v => rfl
    generalize wk x = kbu at hw
    obtain ⟨k, b, u⟩ := kbu
    have e : CoreX.shape x = ((x.kids.length : Int) == k && (x.binds.length : Int) == b && x.alts.length == 0 && (u || x.n == 0)) := by
      unfold CoreX.shape; rw [if_neg hn, hw]
    repeat' first | (with_reducible refine oj ?_; refine AOps.auto tabOk rfl ?_) | (with_reducible first | refine o1 ?_ | refine o2 ?_ | refine o3 ?_ | refine o4 ?_ | refine o5 ?_ | refine o6 ?_ | refine o7 ?_ | refine o8 ?_ | refine o9 ?_ | refine oa ?_ | refine ob ?_ | refine oc ?_ | refine od ?_ | refine oe ?_ | refine og ?_ | refine oh ?_ | refine oi ?_) | (with_reducible refine cExitMiss ?_ ?_; rfl) | (with_reducible refine ok ?_; first | refine ACode.condT rfl ?_ | refine ACode.condF rfl ?_) | (with_reducible refine oj ?_; first | refine AOps.step1 rfl rfl rfl (AStep.arith rfl rfl rfl (.inl ⟨rfl, rfl⟩) (inRange_i64 (by first | omega | (simp; omega)) (by first | omega | (simp; omega)))) ?_ | refine AOps.step1 rfl rfl rfl (AStep.arith rfl rfl rfl (.inr (.inl ⟨rfl, rfl⟩)) (inRange_i64 (by first | omega | (simp; omega)) (by first | omega | (simp; omega)))) ?_ | refine AOps.step1 rfl rfl rfl (AStep.neBool Tryd.underlying4 rfl rfl rfl) ?_ | refine AOps.step1 rfl rfl rfl (AStep.eqBool Tryd.underlying4 rfl rfl rfl) ?_ | refine AOps.step1 rfl rfl rfl (AStep.max2 (t := 3) (ty := 3) rfl rfl rfl) ?_ | refine AOps.step1 rfl rfl rfl (AStep.min2 (t := 3) (ty := 3) rfl rfl rfl) ?_ | refine AOps.unG rfl rfl rfl ?_) | (with_reducible refine oj ?_; refine AOps.splitS rfl rfl rfl rfl (fun hb => ?_) (fun hb => ?_)) | (with_reducible refine ok ?_; first | refine ACode.condS rfl (fun hb => ?_) (fun hb => ?_) | refine ACode.cond rfl (fun hb => ?_) (fun hb => ?_))
    all_goals
      refine APure.fin rfl (WkF.ofEq ?_) (by simp) hou rfl
      rw [e]
      simp_all
end Go.Proofs.YtnonkoeknpmcjaaDoor
/- ranges, walked. -/
namespace Go.Proofs.YtnonkoeknpmcjaaDoor
open Go Go.Abs Go.CoreX
set_option maxRecDepth 10000
set_option linter.unusedVariables false
set_option linter.unusedSimpArgs false
variable {Γ : List (Nat × List AC)}
def fieldsTo (x : Ex) (j : Nat) : Int := (x.alts.take j).foldl (fun f a => if (a.binds.length : Int) > f then a.binds.length else f) x.binds.length
theorem fieldsTo_succ {x : Ex} {j : Nat} {a : Alt} (h : x.alts[j]? = some a) : fieldsTo x (j + 1) = if (a.binds.length : Int) > fieldsTo x j then (a.binds.length : Int) else fieldsTo x j := by
  simp [fieldsTo, List.take_add_one, h, List.foldl_append]
theorem all_false {α : Type} {p : α → Bool} {l : List α} {j : Nat} {a : α} (h : l[j]? = some a) (hp : p a = false) : l.all p = false := by
  rw [List.all_eq_false]
  exact ⟨a, List.mem_of_getElem? h, by simp [hp]⟩
theorem all_take {α : Type} {p : α → Bool} {l : List α} (h : ∀ x ∈ l.take l.length, p x = true) : l.all p = true := by
  rw [List.take_length] at h
  exact List.all_eq_true.2 h
set_option maxHeartbeats 1000000 in
theorem ranges_ok (hΓ : ∀ g cs, (g, cs) ∈ Γ → idsL isO cs) (x : Ex) (hx : okX x) : APure Tryd.prog Γ 89 [.agg (cEx x)] (.one (int (ranges x))) := by
  have hxa := hx.a
  have hxb := hx.b
  have hxk := hx.k
  have hab := hx.ab
  intro ou
  refine AFn.walk 124 tabOk Tryd.func89 rfl (by kernel_rfl) rfl rfl fun hou => ?_
  repeat' first | (with_reducible refine oj ?_; refine AOps.auto tabOk rfl ?_) | (with_reducible first | refine o1 ?_ | refine o2 ?_ | refine o3 ?_ | refine o4 ?_ | refine o5 ?_ | refine o6 ?_ | refine o7 ?_ | refine o8 ?_ | refine oa ?_ | refine ob ?_ | refine oc ?_ | refine od ?_ | refine oe ?_ | refine og ?_ | refine oh ?_ | refine oi ?_) | (with_reducible refine cExitMiss ?_ ?_; rfl) | (with_reducible refine ok ?_; first | refine ACode.condT rfl ?_ | refine ACode.condF rfl ?_) | (with_reducible refine oj ?_; first | refine AOps.step1 rfl rfl rfl (AStep.arith rfl rfl rfl (.inl ⟨rfl, rfl⟩) (inRange_i64 (by first | omega | (simp; omega)) (by first | omega | (simp; omega)))) ?_ | refine AOps.step1 rfl rfl rfl (AStep.arith rfl rfl rfl (.inr (.inl ⟨rfl, rfl⟩)) (inRange_i64 (by first | omega | (simp; omega)) (by first | omega | (simp; omega)))) ?_ | refine AOps.step1 rfl rfl rfl (AStep.neBool Tryd.underlying4 rfl rfl rfl) ?_ | refine AOps.step1 rfl rfl rfl (AStep.eqBool Tryd.underlying4 rfl rfl rfl) ?_ | refine AOps.step1 rfl rfl rfl (AStep.max2 (t := 3) (ty := 3) rfl rfl rfl) ?_ | refine AOps.step1 rfl rfl rfl (AStep.min2 (t := 3) (ty := 3) rfl rfl rfl) ?_ | refine AOps.unG rfl rfl rfl ?_)
  refine ACode.cutR hΓ (α := Unit) (fun _ => [(4, .one (int (lowN x.op))), (3, .one (int (highN x.op))), (1, .one (.ptr (.l 0) 0))])
    (fun _ => ⟨1, [(0, .cells (cEx x))], ou⟩) (fun _ => True) ?_ fun _ _ => ?_
  · repeat' first | (with_reducible refine oj ?_; refine AOps.auto tabOk rfl ?_) | (with_reducible first | refine o1 ?_ | refine o2 ?_ | refine o3 ?_ | refine o4 ?_ | refine o5 ?_ | refine o6 ?_ | refine o7 ?_ | refine o8 ?_ | refine o9 ?_ | refine oa ?_ | refine ob ?_ | refine oc ?_ | refine od ?_ | refine oe ?_ | refine og ?_ | refine oh ?_ | refine oi ?_) | (with_reducible refine cExitMiss ?_ ?_; rfl) | (with_reducible refine ok ?_; first | refine ACode.condT rfl ?_ | refine ACode.condF rfl ?_) | (with_reducible refine oj ?_; first | refine AOps.step1 rfl rfl rfl (AStep.arith rfl rfl rfl (.inl ⟨rfl, rfl⟩) (inRange_i64 (by first | omega | (simp; omega)) (by first | omega | (simp; omega)))) ?_ | refine AOps.step1 rfl rfl rfl (AStep.arith rfl rfl rfl (.inr (.inl ⟨rfl, rfl⟩)) (inRange_i64 (by first | omega | (simp; omega)) (by first | omega | (simp; omega)))) ?_ | refine AOps.step1 rfl rfl rfl (AStep.neBool Tryd.underlying4 rfl rfl rfl) ?_ | refine AOps.step1 rfl rfl rfl (AStep.eqBool Tryd.underlying4 rfl rfl rfl) ?_ | refine AOps.step1 rfl rfl rfl (AStep.max2 (t := 3) (ty := 3) rfl rfl rfl) ?_ | refine AOps.step1 rfl rfl rfl (AStep.min2 (t := 3) (ty := 3) rfl rfl rfl) ?_ | refine AOps.unG rfl rfl rfl ?_) | (with_reducible refine oj ?_; refine AOps.splitS rfl rfl rfl rfl (fun hb => ?_) (fun hb => ?_)) | (with_reducible refine ok ?_; first | refine ACode.condS rfl (fun hb => ?_) (fun hb => ?_) | refine ACode.cond rfl (fun hb => ?_) (fun hb => ?_))
    all_goals
      refine cInv ⟨(), id, trivial, LessR.of rfl (FrSub.cons rfl (.ofEq ?_) (FrSub.cons rfl (.ofEq ?_) (FrSub.cons rfl (.ofEq rfl) .nil))) (by simp) (by repeat' first | exact LoSub.nil | refine LoSub.cons rfl ?_ rfl (by simp) ?_ | rfl | (refine (AObj.ren_pure _ _ ?_).symm; simp; done) | (simp [AObj.ren, renL, AC.ren]; done) | (simp [AObj.ren, renL, AC.ren]; rfl)) rfl rfl hou⟩
      all_goals simp_all [lowN, highN, FV.ren, AC.ren]
  repeat first | (with_reducible refine oj ?_; refine AOps.auto tabOk rfl ?_) | (with_reducible first | refine o1 ?_ | refine o2 ?_ | refine o3 ?_ | refine o4 ?_ | refine o5 ?_ | refine o6 ?_ | refine o7 ?_ | refine o8 ?_ | refine o9 ?_ | refine oa ?_ | refine ob ?_ | refine oc ?_ | refine od ?_ | refine oe ?_ | refine og ?_ | refine oh ?_ | refine oi ?_) | (with_reducible refine cExitMiss ?_ ?_; rfl) | (with_reducible refine ok ?_; first | refine ACode.condT rfl ?_ | refine ACode.condF rfl ?_)
  refine AOps.callC hΓ (between_ok x.n (lowN x.op) (highN x.op)) rfl rfl rfl rfl rfl rfl rfl hou (by simp) ?_
  repeat first | (with_reducible refine oj ?_; refine AOps.auto tabOk rfl ?_) | (with_reducible first | refine o1 ?_ | refine o2 ?_ | refine o3 ?_ | refine o4 ?_ | refine o5 ?_ | refine o6 ?_ | refine o7 ?_ | refine o8 ?_ | refine o9 ?_ | refine oa ?_ | refine ob ?_ | refine oc ?_ | refine od ?_ | refine oe ?_ | refine og ?_ | refine oh ?_ | refine oi ?_) | (with_reducible refine cExitMiss ?_ ?_; rfl) | (with_reducible refine ok ?_; first | refine ACode.condT rfl ?_ | refine ACode.condF rfl ?_)
  refine ACode.cond rfl (fun hb => ?_) (fun hb => ?_)
  · repeat first | (with_reducible refine oj ?_; refine AOps.auto tabOk rfl ?_) | (with_reducible first | refine o1 ?_ | refine o2 ?_ | refine o3 ?_ | refine o4 ?_ | refine o5 ?_ | refine o6 ?_ | refine o7 ?_ | refine o8 ?_ | refine o9 ?_ | refine oa ?_ | refine ob ?_ | refine oc ?_ | refine od ?_ | refine oe ?_ | refine og ?_ | refine oh ?_ | refine oi ?_) | (with_reducible refine cExitMiss ?_ ?_; rfl) | (with_reducible refine ok ?_; first | refine ACode.condT rfl ?_ | refine ACode.condF rfl ?_)
    refine APure.fin rfl (WkF.ofEq ?_) (by simp) hou rfl
    simp_all [ranges]
  have hn : ranges x = if x.binds.all identOk = false then 4 else if x.alts.all (altRange x.op) = false then 4 else if ((decide (fields x > (if x.op = 2 then 6 else 16)) || ((x.op == 6 || x.op == 15) && decide (16 < (x.kids.length : Int)))) || (x.op == 3 && decide (7 < (x.kids.length : Int)))) || (x.op == 14 && decide (6 < (x.kids.length : Int))) then 2 else 0 := by
    unfold ranges; rw [if_neg (by simp_all)]
  clear hb
  repeat first | (with_reducible refine oj ?_; refine AOps.auto tabOk rfl ?_) | (with_reducible first | refine o1 ?_ | refine o2 ?_ | refine o3 ?_ | refine o4 ?_ | refine o5 ?_ | refine o6 ?_ | refine o7 ?_ | refine o8 ?_ | refine o9 ?_ | refine oa ?_ | refine ob ?_ | refine oc ?_ | refine od ?_ | refine oe ?_ | refine og ?_ | refine oh ?_ | refine oi ?_) | (with_reducible refine cExitMiss ?_ ?_; rfl) | (with_reducible refine ok ?_; first | refine ACode.condT rfl ?_ | refine ACode.condF rfl ?_)
  refine ACode.loopR hΓ (α := Nat) (fun j => [(35, .one (int j)), (34, .one (int (x.binds.map cI).length)), (33, .one (.sl 1 (x.binds.map cI))), (5, .one (int (x.binds.map cI).length)), (1, .one (.ptr (.l 0) 0))])
    (fun j => ⟨1, [(0, .cells (cEx x))], ou⟩) (fun m j => j ≤ x.binds.length ∧ (∀ b ∈ x.binds.take j, identOk b = true) ∧ m = x.binds.length - j) (a0 := 0) (ρ := id) ⟨by omega, by simp, rfl⟩ (LessR.of rfl (by (repeat' first | exact FrSub.nil | refine FrSub.cons rfl (.ofEq rfl) ?_ | refine FrSub.consP rfl (.ofEq rfl) (by simp) ?_)) (by simp) (by repeat' first | exact LoSub.nil | refine LoSub.cons rfl ?_ rfl (by simp) ?_ | rfl | (refine (AObj.ren_pure _ _ ?_).symm; simp; done) | (simp [AObj.ren, renL, AC.ren]; done) | (simp [AObj.ren, renL, AC.ren]; rfl)) rfl rfl hou) fun m j hj => ?_
  obtain ⟨hjl, hno, rfl⟩ := hj
  repeat first | (with_reducible refine oj ?_; refine AOps.auto tabOk rfl ?_) | (with_reducible first | refine o1 ?_ | refine o2 ?_ | refine o3 ?_ | refine o4 ?_ | refine o5 ?_ | refine o6 ?_ | refine o7 ?_ | refine o8 ?_ | refine o9 ?_ | refine oa ?_ | refine ob ?_ | refine oc ?_ | refine od ?_ | refine oe ?_ | refine og ?_ | refine oh ?_ | refine oi ?_) | (with_reducible refine cExitMiss ?_ ?_; rfl) | (with_reducible refine ok ?_; first | refine ACode.condT rfl ?_ | refine ACode.condF rfl ?_)
  refine ACode.cond rfl (fun hb2 => ?_) (fun hb2 => ?_)
  · have hlt : j < x.binds.length := by simpa using hb2
    obtain ⟨b, hbj⟩ := get_of_lt hlt
    repeat first | (with_reducible refine oj ?_; refine AOps.auto tabOk rfl ?_) | (with_reducible first | refine o1 ?_ | refine o2 ?_ | refine o3 ?_ | refine o4 ?_ | refine o5 ?_ | refine o6 ?_ | refine o7 ?_ | refine o8 ?_ | refine o9 ?_ | refine oa ?_ | refine ob ?_ | refine oc ?_ | refine od ?_ | refine oe ?_ | refine og ?_ | refine oh ?_ | refine oi ?_) | (with_reducible refine cExitMiss ?_ ?_; rfl) | (with_reducible refine ok ?_; first | refine ACode.condT rfl ?_ | refine ACode.condF rfl ?_)
    refine AOps.step1 rfl rfl rfl (AStep.indexAddr tabOk rfl rfl rfl rfl rfl rfl (.inl rfl) rfl (by omega) (map_get hbj)) ?_
    repeat first | (with_reducible refine oj ?_; refine AOps.auto tabOk rfl ?_) | (with_reducible first | refine o1 ?_ | refine o2 ?_ | refine o3 ?_ | refine o4 ?_ | refine o5 ?_ | refine o6 ?_ | refine o7 ?_ | refine o8 ?_ | refine o9 ?_ | refine oa ?_ | refine ob ?_ | refine oc ?_ | refine od ?_ | refine oe ?_ | refine og ?_ | refine oh ?_ | refine oi ?_) | (with_reducible refine cExitMiss ?_ ?_; rfl) | (with_reducible refine ok ?_; first | refine ACode.condT rfl ?_ | refine ACode.condF rfl ?_)
    refine AOps.callC hΓ (between_ok b 0 1048575) rfl rfl rfl rfl rfl rfl rfl hou (by simp) ?_
    repeat first | (with_reducible refine oj ?_; refine AOps.auto tabOk rfl ?_) | (with_reducible first | refine o1 ?_ | refine o2 ?_ | refine o3 ?_ | refine o4 ?_ | refine o5 ?_ | refine o6 ?_ | refine o7 ?_ | refine o8 ?_ | refine o9 ?_ | refine oa ?_ | refine ob ?_ | refine oc ?_ | refine od ?_ | refine oe ?_ | refine og ?_ | refine oh ?_ | refine oi ?_) | (with_reducible refine cExitMiss ?_ ?_; rfl) | (with_reducible refine ok ?_; first | refine ACode.condT rfl ?_ | refine ACode.condF rfl ?_)
    refine ACode.cond rfl (fun hb => ?_) (fun hb => ?_)
    · repeat first | (with_reducible refine oj ?_; refine AOps.auto tabOk rfl ?_) | (with_reducible first | refine o1 ?_ | refine o2 ?_ | refine o3 ?_ | refine o4 ?_ | refine o5 ?_ | refine o6 ?_ | refine o7 ?_ | refine o8 ?_ | refine o9 ?_ | refine oa ?_ | refine ob ?_ | refine oc ?_ | refine od ?_ | refine oe ?_ | refine og ?_ | refine oh ?_ | refine oi ?_) | (with_reducible refine cExitMiss ?_ ?_; rfl) | (with_reducible refine ok ?_; first | refine ACode.condT rfl ?_ | refine ACode.condF rfl ?_)
      refine APure.fin rfl (WkF.ofEq ?_) (by simp) hou rfl
      rw [hn, if_pos (all_false hbj (by simpa [identOk] using hb))]
    · repeat' first | (with_reducible refine oj ?_; refine AOps.auto tabOk rfl ?_) | (with_reducible first | refine o1 ?_ | refine o2 ?_ | refine o3 ?_ | refine o4 ?_ | refine o5 ?_ | refine o6 ?_ | refine o7 ?_ | refine o8 ?_ | refine o9 ?_ | refine oa ?_ | refine ob ?_ | refine oc ?_ | refine od ?_ | refine oe ?_ | refine og ?_ | refine oh ?_ | refine oi ?_) | (with_reducible refine cExitMiss ?_ ?_; rfl) | (with_reducible refine ok ?_; first | refine ACode.condT rfl ?_ | refine ACode.condF rfl ?_) | (with_reducible refine oj ?_; first | refine AOps.step1 rfl rfl rfl (AStep.arith rfl rfl rfl (.inl ⟨rfl, rfl⟩) (inRange_i64 (by first | omega | (simp; omega)) (by first | omega | (simp; omega)))) ?_ | refine AOps.step1 rfl rfl rfl (AStep.arith rfl rfl rfl (.inr (.inl ⟨rfl, rfl⟩)) (inRange_i64 (by first | omega | (simp; omega)) (by first | omega | (simp; omega)))) ?_ | refine AOps.step1 rfl rfl rfl (AStep.neBool Tryd.underlying4 rfl rfl rfl) ?_ | refine AOps.step1 rfl rfl rfl (AStep.eqBool Tryd.underlying4 rfl rfl rfl) ?_ | refine AOps.step1 rfl rfl rfl (AStep.max2 (t := 3) (ty := 3) rfl rfl rfl) ?_ | refine AOps.step1 rfl rfl rfl (AStep.min2 (t := 3) (ty := 3) rfl rfl rfl) ?_ | refine AOps.unG rfl rfl rfl ?_)
      exact cInv ⟨x.binds.length - (j + 1), j + 1, id, by omega, ⟨by omega, take_all hno hbj (by simpa [identOk] using hb), rfl⟩, LessR.of rfl (by (repeat' first | exact FrSub.nil | refine FrSub.cons rfl (.ofEq rfl) ?_ | refine FrSub.consP rfl (.ofEq rfl) (by simp) ?_)) (by simp) (by repeat' first | exact LoSub.nil | refine LoSub.cons rfl ?_ rfl (by simp) ?_ | rfl | (refine (AObj.ren_pure _ _ ?_).symm; simp; done) | (simp [AObj.ren, renL, AC.ren]; done) | (simp [AObj.ren, renL, AC.ren]; rfl)) rfl rfl hou⟩
  have hlt : j = x.binds.length := by simp at hb2; omega
  subst hlt
  rw [if_neg (by simp [all_take hno])] at hn
  clear hno hb2 hjl
  repeat first | (with_reducible refine oj ?_; refine AOps.auto tabOk rfl ?_) | (with_reducible first | refine o1 ?_ | refine o2 ?_ | refine o3 ?_ | refine o4 ?_ | refine o5 ?_ | refine o6 ?_ | refine o7 ?_ | refine o8 ?_ | refine o9 ?_ | refine oa ?_ | refine ob ?_ | refine oc ?_ | refine od ?_ | refine oe ?_ | refine og ?_ | refine oh ?_ | refine oi ?_) | (with_reducible refine cExitMiss ?_ ?_; rfl) | (with_reducible refine ok ?_; first | refine ACode.condT rfl ?_ | refine ACode.condF rfl ?_)
  refine ACode.loopR hΓ (α := Nat) (fun j => [(46, .one (int j)), (45, .one (int (x.alts.map cAlt).length)), (44, .one (.sl 2 (x.alts.map cAlt))), (5, .one (int (fieldsTo x j))), (1, .one (.ptr (.l 0) 0))])
    (fun j => ⟨1, [(0, .cells (cEx x))], ou⟩) (fun m j => j ≤ x.alts.length ∧ (∀ b ∈ x.alts.take j, altRange x.op b = true) ∧ m = x.alts.length - j) (a0 := 0) (ρ := id) ⟨by omega, by simp, rfl⟩ (LessR.of rfl (FrSub.cons rfl (.ofEq rfl) (FrSub.cons rfl (.ofEq rfl) (FrSub.consP rfl (.ofEq rfl) (by simp) (FrSub.cons rfl (.ofEq (by simp [fieldsTo, FV.ren, AC.ren])) (FrSub.cons rfl (.ofEq rfl) .nil))))) (by simp) (by repeat' first | exact LoSub.nil | refine LoSub.cons rfl ?_ rfl (by simp) ?_ | rfl | (refine (AObj.ren_pure _ _ ?_).symm; simp; done) | (simp [AObj.ren, renL, AC.ren]; done) | (simp [AObj.ren, renL, AC.ren]; rfl)) rfl rfl hou) fun m j hj => ?_
  obtain ⟨hjl, hno, rfl⟩ := hj
  repeat first | (with_reducible refine oj ?_; refine AOps.auto tabOk rfl ?_) | (with_reducible first | refine o1 ?_ | refine o2 ?_ | refine o3 ?_ | refine o4 ?_ | refine o5 ?_ | refine o6 ?_ | refine o7 ?_ | refine o8 ?_ | refine o9 ?_ | refine oa ?_ | refine ob ?_ | refine oc ?_ | refine od ?_ | refine oe ?_ | refine og ?_ | refine oh ?_ | refine oi ?_) | (with_reducible refine cExitMiss ?_ ?_; rfl) | (with_reducible refine ok ?_; first | refine ACode.condT rfl ?_ | refine ACode.condF rfl ?_)
  refine ACode.cond rfl (fun hb2 => ?_) (fun hb2 => ?_)
  · have hlt : j < x.alts.length := by simpa using hb2
    obtain ⟨a, ha⟩ := get_of_lt hlt
    have hal := hab a (List.mem_of_getElem? ha)
    repeat first | (with_reducible refine oj ?_; refine AOps.auto tabOk rfl ?_) | (with_reducible first | refine o1 ?_ | refine o2 ?_ | refine o3 ?_ | refine o4 ?_ | refine o5 ?_ | refine o6 ?_ | refine o7 ?_ | refine o8 ?_ | refine o9 ?_ | refine oa ?_ | refine ob ?_ | refine oc ?_ | refine od ?_ | refine oe ?_ | refine og ?_ | refine oh ?_ | refine oi ?_) | (with_reducible refine cExitMiss ?_ ?_; rfl) | (with_reducible refine ok ?_; first | refine ACode.condT rfl ?_ | refine ACode.condF rfl ?_)
    refine AOps.step1 rfl rfl rfl (AStep.indexAddr tabOk rfl rfl rfl rfl rfl rfl (.inl rfl) rfl (by omega) (map_get ha)) ?_
    have bad : altRange x.op a = false → ranges x = 4 := fun h => by rw [hn, if_pos (all_false ha h)]
    repeat' first | (with_reducible refine oj ?_; refine AOps.auto tabOk rfl ?_) | (with_reducible first | refine o1 ?_ | refine o2 ?_ | refine o3 ?_ | refine o4 ?_ | refine o5 ?_ | refine o6 ?_ | refine o7 ?_ | refine o8 ?_ | refine o9 ?_ | refine oa ?_ | refine ob ?_ | refine oc ?_ | refine od ?_ | refine oe ?_ | refine og ?_ | refine oh ?_ | refine oi ?_) | (with_reducible refine cExitMiss ?_ ?_; rfl) | (with_reducible refine ok ?_; first | refine ACode.condT rfl ?_ | refine ACode.condF rfl ?_) | (with_reducible refine oj ?_; first | refine AOps.step1 rfl rfl rfl (AStep.arith rfl rfl rfl (.inl ⟨rfl, rfl⟩) (inRange_i64 (by first | omega | (simp; omega)) (by first | omega | (simp; omega)))) ?_ | refine AOps.step1 rfl rfl rfl (AStep.arith rfl rfl rfl (.inr (.inl ⟨rfl, rfl⟩)) (inRange_i64 (by first | omega | (simp; omega)) (by first | omega | (simp; omega)))) ?_ | refine AOps.step1 rfl rfl rfl (AStep.neBool Tryd.underlying4 rfl rfl rfl) ?_ | refine AOps.step1 rfl rfl rfl (AStep.eqBool Tryd.underlying4 rfl rfl rfl) ?_ | refine AOps.step1 rfl rfl rfl (AStep.max2 (t := 3) (ty := 3) rfl rfl rfl) ?_ | refine AOps.step1 rfl rfl rfl (AStep.min2 (t := 3) (ty := 3) rfl rfl rfl) ?_ | refine AOps.unG rfl rfl rfl ?_) | (with_reducible refine oj ?_; refine AOps.splitS rfl rfl rfl rfl (fun hb => ?_) (fun hb => ?_)) | (with_reducible refine ok ?_; first | refine ACode.condS rfl (fun hb => ?_) (fun hb => ?_) | refine ACode.cond rfl (fun hb => ?_) (fun hb => ?_))
    all_goals try (refine APure.fin rfl (WkF.ofEq ?_) (by simp) hou rfl; rw [bad (by simp_all [altRange])]; done)
    all_goals
      have hr : altRange x.op a = a.binds.all identOk := by
        have : ((decide (255 < a.tag) && x.op == 7) || decide (1048576 ≤ a.tag)) = false := by first | (simp_all; done) | (simp_all; intro h; omega)
        unfold altRange
        rw [this]; simp
      rw [hr] at bad
      refine ACode.loopR hΓ (α := Nat) (fun i => [(66, .one (int i)), (65, .one (int (a.binds.map cI).length)), (64, .one (.sl 1 (a.binds.map cI))), (9, .one (.ptr (.l 1) 0)), (46, .one (int j)), (45, .one (int (x.alts.map cAlt).length)), (44, .one (.sl 2 (x.alts.map cAlt))), (5, .one (int (fieldsTo x j))), (1, .one (.ptr (.l 0) 0))])
        (fun i => ⟨2, [(1, .cells (cAlt a)), (0, .cells (cEx x))], ou⟩) (fun m i => i ≤ a.binds.length ∧ (∀ b ∈ a.binds.take i, identOk b = true) ∧ m = a.binds.length - i) (a0 := 0) (ρ := id) ⟨by omega, by simp, rfl⟩ (LessR.of rfl (by (repeat' first | exact FrSub.nil | refine FrSub.cons rfl (.ofEq rfl) ?_ | refine FrSub.consP rfl (.ofEq rfl) (by simp) ?_)) (by simp) (by repeat' first | exact LoSub.nil | refine LoSub.cons rfl ?_ rfl (by simp) ?_ | rfl | (refine (AObj.ren_pure _ _ ?_).symm; simp; done) | (simp [AObj.ren, renL, AC.ren]; done) | (simp [AObj.ren, renL, AC.ren]; rfl)) rfl rfl hou) fun m i hi => ?_
      obtain ⟨hil, hno2, rfl⟩ := hi
      repeat first | (with_reducible refine oj ?_; refine AOps.auto tabOk rfl ?_) | (with_reducible first | refine o1 ?_ | refine o2 ?_ | refine o3 ?_ | refine o4 ?_ | refine o5 ?_ | refine o6 ?_ | refine o7 ?_ | refine o8 ?_ | refine o9 ?_ | refine oa ?_ | refine ob ?_ | refine oc ?_ | refine od ?_ | refine oe ?_ | refine og ?_ | refine oh ?_ | refine oi ?_) | (with_reducible refine cExitMiss ?_ ?_; rfl) | (with_reducible refine ok ?_; first | refine ACode.condT rfl ?_ | refine ACode.condF rfl ?_)
      refine ACode.cond rfl (fun hb3 => ?_) (fun hb3 => ?_)
      · have hlt2 : i < a.binds.length := by simpa using hb3
        obtain ⟨b, hbj⟩ := get_of_lt hlt2
        repeat first | (with_reducible refine oj ?_; refine AOps.auto tabOk rfl ?_) | (with_reducible first | refine o1 ?_ | refine o2 ?_ | refine o3 ?_ | refine o4 ?_ | refine o5 ?_ | refine o6 ?_ | refine o7 ?_ | refine o8 ?_ | refine o9 ?_ | refine oa ?_ | refine ob ?_ | refine oc ?_ | refine od ?_ | refine oe ?_ | refine og ?_ | refine oh ?_ | refine oi ?_) | (with_reducible refine cExitMiss ?_ ?_; rfl) | (with_reducible refine ok ?_; first | refine ACode.condT rfl ?_ | refine ACode.condF rfl ?_)
        refine AOps.step1 rfl rfl rfl (AStep.indexAddr tabOk rfl rfl rfl rfl rfl rfl (.inl rfl) rfl (by omega) (map_get hbj)) ?_
        repeat first | (with_reducible refine oj ?_; refine AOps.auto tabOk rfl ?_) | (with_reducible first | refine o1 ?_ | refine o2 ?_ | refine o3 ?_ | refine o4 ?_ | refine o5 ?_ | refine o6 ?_ | refine o7 ?_ | refine o8 ?_ | refine o9 ?_ | refine oa ?_ | refine ob ?_ | refine oc ?_ | refine od ?_ | refine oe ?_ | refine og ?_ | refine oh ?_ | refine oi ?_) | (with_reducible refine cExitMiss ?_ ?_; rfl) | (with_reducible refine ok ?_; first | refine ACode.condT rfl ?_ | refine ACode.condF rfl ?_)
        refine AOps.callC hΓ (between_ok b 0 1048575) rfl rfl rfl rfl rfl rfl rfl hou (by simp) ?_
        repeat first | (with_reducible refine oj ?_; refine AOps.auto tabOk rfl ?_) | (with_reducible first | refine o1 ?_ | refine o2 ?_ | refine o3 ?_ | refine o4 ?_ | refine o5 ?_ | refine o6 ?_ | refine o7 ?_ | refine o8 ?_ | refine o9 ?_ | refine oa ?_ | refine ob ?_ | refine oc ?_ | refine od ?_ | refine oe ?_ | refine og ?_ | refine oh ?_ | refine oi ?_) | (with_reducible refine cExitMiss ?_ ?_; rfl) | (with_reducible refine ok ?_; first | refine ACode.condT rfl ?_ | refine ACode.condF rfl ?_)
        refine ACode.cond rfl (fun hb4 => ?_) (fun hb4 => ?_)
        · repeat first | (with_reducible refine oj ?_; refine AOps.auto tabOk rfl ?_) | (with_reducible first | refine o1 ?_ | refine o2 ?_ | refine o3 ?_ | refine o4 ?_ | refine o5 ?_ | refine o6 ?_ | refine o7 ?_ | refine o8 ?_ | refine o9 ?_ | refine oa ?_ | refine ob ?_ | refine oc ?_ | refine od ?_ | refine oe ?_ | refine og ?_ | refine oh ?_ | refine oi ?_) | (with_reducible refine cExitMiss ?_ ?_; rfl) | (with_reducible refine ok ?_; first | refine ACode.condT rfl ?_ | refine ACode.condF rfl ?_)
          refine APure.fin rfl (WkF.ofEq ?_) (by simp) hou rfl
          rw [bad (all_false hbj (by simpa [identOk] using hb4))]
        · repeat' first | (with_reducible refine oj ?_; refine AOps.auto tabOk rfl ?_) | (with_reducible first | refine o1 ?_ | refine o2 ?_ | refine o3 ?_ | refine o4 ?_ | refine o5 ?_ | refine o6 ?_ | refine o7 ?_ | refine o8 ?_ | refine o9 ?_ | refine oa ?_ | refine ob ?_ | refine oc ?_ | refine od ?_ | refine oe ?_ | refine og ?_ | refine oh ?_ | refine oi ?_) | (with_reducible refine cExitMiss ?_ ?_; rfl) | (with_reducible refine ok ?_; first | refine ACode.condT rfl ?_ | refine ACode.condF rfl ?_) | (with_reducible refine oj ?_; first | refine AOps.step1 rfl rfl rfl (AStep.arith rfl rfl rfl (.inl ⟨rfl, rfl⟩) (inRange_i64 (by first | omega | (simp; omega)) (by first | omega | (simp; omega)))) ?_ | refine AOps.step1 rfl rfl rfl (AStep.arith rfl rfl rfl (.inr (.inl ⟨rfl, rfl⟩)) (inRange_i64 (by first | omega | (simp; omega)) (by first | omega | (simp; omega)))) ?_ | refine AOps.step1 rfl rfl rfl (AStep.neBool Tryd.underlying4 rfl rfl rfl) ?_ | refine AOps.step1 rfl rfl rfl (AStep.eqBool Tryd.underlying4 rfl rfl rfl) ?_ | refine AOps.step1 rfl rfl rfl (AStep.max2 (t := 3) (ty := 3) rfl rfl rfl) ?_ | refine AOps.step1 rfl rfl rfl (AStep.min2 (t := 3) (ty := 3) rfl rfl rfl) ?_ | refine AOps.unG rfl rfl rfl ?_)
          exact cInv ⟨a.binds.length - (i + 1), i + 1, id, by omega, ⟨by omega, take_all hno2 hbj (by simpa [identOk] using hb4), rfl⟩, LessR.of rfl (by (repeat' first | exact FrSub.nil | refine FrSub.cons rfl (.ofEq rfl) ?_ | refine FrSub.consP rfl (.ofEq rfl) (by simp) ?_)) (by simp) (by repeat' first | exact LoSub.nil | refine LoSub.cons rfl ?_ rfl (by simp) ?_ | rfl | (refine (AObj.ren_pure _ _ ?_).symm; simp; done) | (simp [AObj.ren, renL, AC.ren]; done) | (simp [AObj.ren, renL, AC.ren]; rfl)) rfl rfl hou⟩
      · have hlt2 : i = a.binds.length := by simp at hb3; omega
        subst hlt2
        repeat' first | (with_reducible refine oj ?_; refine AOps.auto tabOk rfl ?_) | (with_reducible first | refine o1 ?_ | refine o2 ?_ | refine o3 ?_ | refine o4 ?_ | refine o5 ?_ | refine o6 ?_ | refine o7 ?_ | refine o8 ?_ | refine o9 ?_ | refine oa ?_ | refine ob ?_ | refine oc ?_ | refine od ?_ | refine oe ?_ | refine og ?_ | refine oh ?_ | refine oi ?_) | (with_reducible refine cExitMiss ?_ ?_; rfl) | (with_reducible refine ok ?_; first | refine ACode.condT rfl ?_ | refine ACode.condF rfl ?_) | (with_reducible refine oj ?_; first | refine AOps.step1 rfl rfl rfl (AStep.arith rfl rfl rfl (.inl ⟨rfl, rfl⟩) (inRange_i64 (by first | omega | (simp; omega)) (by first | omega | (simp; omega)))) ?_ | refine AOps.step1 rfl rfl rfl (AStep.arith rfl rfl rfl (.inr (.inl ⟨rfl, rfl⟩)) (inRange_i64 (by first | omega | (simp; omega)) (by first | omega | (simp; omega)))) ?_ | refine AOps.step1 rfl rfl rfl (AStep.neBool Tryd.underlying4 rfl rfl rfl) ?_ | refine AOps.step1 rfl rfl rfl (AStep.eqBool Tryd.underlying4 rfl rfl rfl) ?_ | refine AOps.step1 rfl rfl rfl (AStep.max2 (t := 3) (ty := 3) rfl rfl rfl) ?_ | refine AOps.step1 rfl rfl rfl (AStep.min2 (t := 3) (ty := 3) rfl rfl rfl) ?_ | refine AOps.unG rfl rfl rfl ?_)
        refine cInv ⟨x.alts.length - (j + 1), j + 1, id, by omega, ⟨by omega, take_all hno ha (by rw [hr]; exact all_take hno2), rfl⟩, LessR.of rfl (FrSub.cons rfl (.ofEq rfl) (FrSub.cons rfl (.ofEq rfl) (FrSub.consP rfl (.ofEq rfl) (by simp) (FrSub.cons rfl (.ofEq ?_) (FrSub.cons rfl (.ofEq rfl) .nil))))) (by simp) (by repeat' first | exact LoSub.nil | refine LoSub.cons rfl ?_ rfl (by simp) ?_ | rfl | (refine (AObj.ren_pure _ _ ?_).symm; simp; done) | (simp [AObj.ren, renL, AC.ren]; done) | (simp [AObj.ren, renL, AC.ren]; rfl)) rfl rfl hou⟩
        rw [fieldsTo_succ ha]; simp [FV.ren, AC.ren]
  · have hlt : j = x.alts.length := by simp at hb2; omega
    subst hlt
    rw [if_neg (by simp [all_take hno])] at hn
    have hf : fieldsTo x x.alts.length = fields x := by simp [fieldsTo, fields]
    rw [hf]
    clear hno hb2 hjl hf
    generalize fields x = f at hn
    repeat' first | (with_reducible refine oj ?_; refine AOps.auto tabOk rfl ?_) | (with_reducible first | refine o1 ?_ | refine o2 ?_ | refine o3 ?_ | refine o4 ?_ | refine o5 ?_ | refine o6 ?_ | refine o7 ?_ | refine o8 ?_ | refine o9 ?_ | refine oa ?_ | refine ob ?_ | refine oc ?_ | refine od ?_ | refine oe ?_ | refine og ?_ | refine oh ?_ | refine oi ?_) | (with_reducible refine cExitMiss ?_ ?_; rfl) | (with_reducible refine ok ?_; first | refine ACode.condT rfl ?_ | refine ACode.condF rfl ?_) | (with_reducible refine oj ?_; first | refine AOps.step1 rfl rfl rfl (AStep.arith rfl rfl rfl (.inl ⟨rfl, rfl⟩) (inRange_i64 (by first | omega | (simp; omega)) (by first | omega | (simp; omega)))) ?_ | refine AOps.step1 rfl rfl rfl (AStep.arith rfl rfl rfl (.inr (.inl ⟨rfl, rfl⟩)) (inRange_i64 (by first | omega | (simp; omega)) (by first | omega | (simp; omega)))) ?_ | refine AOps.step1 rfl rfl rfl (AStep.neBool Tryd.underlying4 rfl rfl rfl) ?_ | refine AOps.step1 rfl rfl rfl (AStep.eqBool Tryd.underlying4 rfl rfl rfl) ?_ | refine AOps.step1 rfl rfl rfl (AStep.max2 (t := 3) (ty := 3) rfl rfl rfl) ?_ | refine AOps.step1 rfl rfl rfl (AStep.min2 (t := 3) (ty := 3) rfl rfl rfl) ?_ | refine AOps.unG rfl rfl rfl ?_) | (with_reducible refine oj ?_; refine AOps.splitS rfl rfl rfl rfl (fun hb => ?_) (fun hb => ?_)) | (with_reducible refine ok ?_; first | refine ACode.condS rfl (fun hb => ?_) (fun hb => ?_) | refine ACode.cond rfl (fun hb => ?_) (fun hb => ?_))
    all_goals
      refine APure.fin rfl (WkF.ofEq ?_) (by simp) hou rfl
      rw [hn]
      simp_all
end Go.Proofs.YtnonkoeknpmcjaaDoor
/- nodeError, walked. -/
namespace Go.Proofs.YtnonkoeknpmcjaaDoor
open Go Go.Abs Go.CoreX
set_option maxRecDepth 10000
set_option linter.unusedVariables false
set_option linter.unusedSimpArgs false
theorem shape_rec {x : Ex} (h : CoreX.shape x = true) (h5 : x.op = 5) : x.kids.length = x.binds.length + 1 := by
  unfold CoreX.shape wants at h
  simp [h5] at h
  omega
set_option maxHeartbeats 1000000 in
theorem nodeError_ok (e : List Ex) (x : Ex) (hx : okX x) (hk : ∀ k ∈ x.kids, 0 ≤ k ∧ k.toNat < e.length) :
    APure Tryd.prog Γc 63 [.agg (cEx x), .one (.fn (.func 64) [] [.box [.sl 5 (e.map cEx)]])] (.one (int (nodeErr e x))) := by
  have hxb := hx.b
  intro ou
  refine AFn.walk 59 tabOk Tryd.func63 rfl (by kernel_rfl) rfl rfl fun hou => ?_
  repeat first | (with_reducible refine oj ?_; refine AOps.auto tabOk rfl ?_) | (with_reducible first | refine o1 ?_ | refine o2 ?_ | refine o3 ?_ | refine o4 ?_ | refine o5 ?_ | refine o6 ?_ | refine o7 ?_ | refine o8 ?_ | refine o9 ?_ | refine oa ?_ | refine ob ?_ | refine oc ?_ | refine od ?_ | refine oe ?_ | refine og ?_ | refine oh ?_ | refine oi ?_) | (with_reducible refine cExitMiss ?_ ?_; rfl) | (with_reducible refine ok ?_; first | refine ACode.condT rfl ?_ | refine ACode.condF rfl ?_)
  refine AOps.callC hΓc (shape_ok x hx) rfl rfl rfl rfl rfl rfl rfl hou (by simp) ?_
  repeat first | (with_reducible refine oj ?_; refine AOps.auto tabOk rfl ?_) | (with_reducible first | refine o1 ?_ | refine o2 ?_ | refine o3 ?_ | refine o4 ?_ | refine o5 ?_ | refine o6 ?_ | refine o7 ?_ | refine o8 ?_ | refine o9 ?_ | refine oa ?_ | refine ob ?_ | refine oc ?_ | refine od ?_ | refine oe ?_ | refine og ?_ | refine oh ?_ | refine oi ?_) | (with_reducible refine cExitMiss ?_ ?_; rfl) | (with_reducible refine ok ?_; first | refine ACode.condT rfl ?_ | refine ACode.condF rfl ?_)
  refine ACode.cond rfl (fun hb => ?_) (fun hb => ?_)
  · repeat first | (with_reducible refine oj ?_; refine AOps.auto tabOk rfl ?_) | (with_reducible first | refine o1 ?_ | refine o2 ?_ | refine o3 ?_ | refine o4 ?_ | refine o5 ?_ | refine o6 ?_ | refine o7 ?_ | refine o8 ?_ | refine o9 ?_ | refine oa ?_ | refine ob ?_ | refine oc ?_ | refine od ?_ | refine oe ?_ | refine og ?_ | refine oh ?_ | refine oi ?_) | (with_reducible refine cExitMiss ?_ ?_; rfl) | (with_reducible refine ok ?_; first | refine ACode.condT rfl ?_ | refine ACode.condF rfl ?_)
    refine APure.fin rfl (WkF.ofEq ?_) (by simp) hou rfl
    simp_all [nodeErr]
  have hs : CoreX.shape x = true := by simpa using hb
  clear hb
  repeat first | (with_reducible refine oj ?_; refine AOps.auto tabOk rfl ?_) | (with_reducible first | refine o1 ?_ | refine o2 ?_ | refine o3 ?_ | refine o4 ?_ | refine o5 ?_ | refine o6 ?_ | refine o7 ?_ | refine o8 ?_ | refine o9 ?_ | refine oa ?_ | refine ob ?_ | refine oc ?_ | refine od ?_ | refine oe ?_ | refine og ?_ | refine oh ?_ | refine oi ?_) | (with_reducible refine cExitMiss ?_ ?_; rfl) | (with_reducible refine ok ?_; first | refine ACode.condT rfl ?_ | refine ACode.condF rfl ?_)
  refine AOps.callC hΓc (ranges_ok hΓc x hx) rfl rfl rfl rfl rfl rfl rfl hou (by simp) ?_
  repeat first | (with_reducible refine oj ?_; refine AOps.auto tabOk rfl ?_) | (with_reducible first | refine o1 ?_ | refine o2 ?_ | refine o3 ?_ | refine o4 ?_ | refine o5 ?_ | refine o6 ?_ | refine o7 ?_ | refine o8 ?_ | refine o9 ?_ | refine oa ?_ | refine ob ?_ | refine oc ?_ | refine od ?_ | refine oe ?_ | refine og ?_ | refine oh ?_ | refine oi ?_) | (with_reducible refine cExitMiss ?_ ?_; rfl) | (with_reducible refine ok ?_; first | refine ACode.condT rfl ?_ | refine ACode.condF rfl ?_)
  refine ACode.cond rfl (fun hb => ?_) (fun hb => ?_)
  · repeat first | (with_reducible refine oj ?_; refine AOps.auto tabOk rfl ?_) | (with_reducible first | refine o1 ?_ | refine o2 ?_ | refine o3 ?_ | refine o4 ?_ | refine o5 ?_ | refine o6 ?_ | refine o7 ?_ | refine o8 ?_ | refine o9 ?_ | refine oa ?_ | refine ob ?_ | refine oc ?_ | refine od ?_ | refine oe ?_ | refine og ?_ | refine oh ?_ | refine oi ?_) | (with_reducible refine cExitMiss ?_ ?_; rfl) | (with_reducible refine ok ?_; first | refine ACode.condT rfl ?_ | refine ACode.condF rfl ?_)
    refine APure.fin rfl (WkF.ofEq ?_) (by simp) hou rfl
    have : ranges x ≠ 0 := by simpa using hb
    simp [nodeErr, hs, this]
  have hr : ranges x = 0 := by simpa using hb
  clear hb
  have hn : nodeErr e x = if (List.range x.binds.length).any (bindBad e x) = true then 3 else 0 := by simp [nodeErr, hs, hr]
  repeat first | (with_reducible refine oj ?_; refine AOps.auto tabOk rfl ?_) | (with_reducible first | refine o1 ?_ | refine o2 ?_ | refine o3 ?_ | refine o4 ?_ | refine o5 ?_ | refine o6 ?_ | refine o7 ?_ | refine o8 ?_ | refine o9 ?_ | refine oa ?_ | refine ob ?_ | refine oc ?_ | refine od ?_ | refine oe ?_ | refine og ?_ | refine oh ?_ | refine oi ?_) | (with_reducible refine cExitMiss ?_ ?_; rfl) | (with_reducible refine ok ?_; first | refine ACode.condT rfl ?_ | refine ACode.condF rfl ?_)
  refine ACode.loopR hΓc (α := Nat) (fun j => [(18, .one (int j)), (17, .one (int (x.binds.map cI).length)), (2, .one (.ptr (.l 0) 0)), (1, .one (.fn (.func 64) [] [.box [.sl 5 (e.map cEx)]]))])
    (fun j => ⟨1, [(0, .cells (cEx x))], ou⟩) (fun m j => j ≤ x.binds.length ∧ (∀ i ∈ (List.range x.binds.length).take j, bindBad e x i = false) ∧ m = x.binds.length - j) (a0 := 0) (ρ := id) ⟨by omega, by simp, rfl⟩ (LessR.of rfl (by (repeat' first | exact FrSub.nil | refine FrSub.cons rfl (.ofEq rfl) ?_ | refine FrSub.consP rfl (.ofEq rfl) (by simp) ?_)) (by simp) (by repeat' first | exact LoSub.nil | refine LoSub.cons rfl ?_ rfl (by simp) ?_ | rfl | (refine (AObj.ren_pure _ _ ?_).symm; simp; done) | (simp [AObj.ren, renL, AC.ren]; done) | (simp [AObj.ren, renL, AC.ren]; rfl)) rfl rfl hou) fun m j hj => ?_
  obtain ⟨hjl, hno, rfl⟩ := hj
  repeat first | (with_reducible refine oj ?_; refine AOps.auto tabOk rfl ?_) | (with_reducible first | refine o1 ?_ | refine o2 ?_ | refine o3 ?_ | refine o4 ?_ | refine o5 ?_ | refine o6 ?_ | refine o7 ?_ | refine o8 ?_ | refine o9 ?_ | refine oa ?_ | refine ob ?_ | refine oc ?_ | refine od ?_ | refine oe ?_ | refine og ?_ | refine oh ?_ | refine oi ?_) | (with_reducible refine cExitMiss ?_ ?_; rfl) | (with_reducible refine ok ?_; first | refine ACode.condT rfl ?_ | refine ACode.condF rfl ?_)
  refine ACode.cond rfl (fun hb2 => ?_) (fun hb2 => ?_)
  · have hlt : j < x.binds.length := by simpa using hb2
    have hrj : (List.range x.binds.length)[j]? = some j := by simp [hlt]
    obtain ⟨b, hbj⟩ := get_of_lt hlt
    repeat first | (with_reducible refine oj ?_; refine AOps.auto tabOk rfl ?_) | (with_reducible first | refine o1 ?_ | refine o2 ?_ | refine o3 ?_ | refine o4 ?_ | refine o5 ?_ | refine o6 ?_ | refine o7 ?_ | refine o8 ?_ | refine o9 ?_ | refine oa ?_ | refine ob ?_ | refine oc ?_ | refine od ?_ | refine oe ?_ | refine og ?_ | refine oh ?_ | refine oi ?_) | (with_reducible refine cExitMiss ?_ ?_; rfl) | (with_reducible refine ok ?_; first | refine ACode.condT rfl ?_ | refine ACode.condF rfl ?_)
    have bad : bindBad e x j = true → nodeErr e x = 3 := fun h => by
      rw [hn, if_pos (List.any_eq_true.2 ⟨j, by simp [hlt], h⟩)]
    by_cases h5 : x.op = 5
    · have hkl : j < x.kids.length := by have := shape_rec hs h5; omega
      obtain ⟨k, hkj⟩ := get_of_lt hkl
      obtain ⟨k0, k1⟩ := hk k (List.mem_of_getElem? hkj)
      obtain ⟨y, hy⟩ := get_of_lt k1
      have hcall := bodyF_ok (Γ := Γc) e k y k0 hy
      have hbb : bindBad e x j = !(y.op == 2) := by
        have e1 : x.kids.getD j 0 = k := by simp [List.getD, hkj]
        have e2 : e.getD k.toNat ⟨0, 0, [], [], []⟩ = y := by simp [List.getD, hy]
        unfold bindBad
        rw [e1, e2]; simp [h5]
      rw [hbb] at bad
      cases hy2 : (y.op == 2) with
      | false =>
        refine ACode.drawX tabOk 36 [(2, .one (.lit (.bool true))), (8, .one (.box (cI k))), (10, .agg (cEx y)), (12, .one (.lit (.bool true)))] follows (by kernel_rfl) rfl rfl rfl rfl ?_ ?_
        · refine .step rfl (HStep.litB tabOk rfl (by simp [h5])) ?_
          refine .step rfl (HStep.guarded rfl rfl rfl (AStep.indexAddr tabOk rfl rfl rfl rfl rfl rfl (.inl rfl) rfl (by omega) (map_get hkj))) ?_
          refine .step rfl (HStep.guarded rfl rfl rfl (AStep.callP hΓc rfl rfl rfl rfl (by simp) hou hcall)) ?_
          exact .step rfl (HStep.litB tabOk rfl (by simp_all)) .nil
        repeat' first | (with_reducible refine oj ?_; refine AOps.auto tabOk rfl ?_) | (with_reducible first | refine o1 ?_ | refine o2 ?_ | refine o3 ?_ | refine o4 ?_ | refine o5 ?_ | refine o6 ?_ | refine o7 ?_ | refine o8 ?_ | refine o9 ?_ | refine oa ?_ | refine ob ?_ | refine oc ?_ | refine od ?_ | refine oe ?_ | refine og ?_ | refine oh ?_ | refine oi ?_) | (with_reducible refine cExitMiss ?_ ?_; rfl) | (with_reducible refine ok ?_; first | refine ACode.condT rfl ?_ | refine ACode.condF rfl ?_) | (with_reducible refine oj ?_; first | refine AOps.step1 rfl rfl rfl (AStep.arith rfl rfl rfl (.inl ⟨rfl, rfl⟩) (inRange_i64 (by first | omega | (simp; omega)) (by first | omega | (simp; omega)))) ?_ | refine AOps.step1 rfl rfl rfl (AStep.arith rfl rfl rfl (.inr (.inl ⟨rfl, rfl⟩)) (inRange_i64 (by first | omega | (simp; omega)) (by first | omega | (simp; omega)))) ?_ | refine AOps.step1 rfl rfl rfl (AStep.neBool Tryd.underlying4 rfl rfl rfl) ?_ | refine AOps.step1 rfl rfl rfl (AStep.eqBool Tryd.underlying4 rfl rfl rfl) ?_ | refine AOps.step1 rfl rfl rfl (AStep.max2 (t := 3) (ty := 3) rfl rfl rfl) ?_ | refine AOps.step1 rfl rfl rfl (AStep.min2 (t := 3) (ty := 3) rfl rfl rfl) ?_ | refine AOps.unG rfl rfl rfl ?_)
        refine APure.fin rfl (WkF.ofEq ?_) (by simp) hou rfl
        rw [bad (by simp [hy2])]
      | true =>
        refine ACode.drawX tabOk 36 [(2, .one (.lit (.bool true))), (8, .one (.box (cI k))), (10, .agg (cEx y)), (12, .one (.lit (.bool false))), (17, .one (.lit (.bool false)))] follows (by kernel_rfl) rfl rfl rfl rfl ?_ ?_
        · refine .step rfl (HStep.litB tabOk rfl (by simp [h5])) ?_
          refine .step rfl (HStep.guarded rfl rfl rfl (AStep.indexAddr tabOk rfl rfl rfl rfl rfl rfl (.inl rfl) rfl (by omega) (map_get hkj))) ?_
          refine .step rfl (HStep.guarded rfl rfl rfl (AStep.callP hΓc rfl rfl rfl rfl (by simp) hou hcall)) ?_
          refine .step rfl (HStep.litB tabOk rfl (by simp_all)) ?_
          exact .step rfl (HStep.litB tabOk rfl (by simp [h5])) .nil
        repeat' first | (with_reducible refine oj ?_; refine AOps.auto tabOk rfl ?_) | (with_reducible first | refine o1 ?_ | refine o2 ?_ | refine o3 ?_ | refine o4 ?_ | refine o5 ?_ | refine o6 ?_ | refine o7 ?_ | refine o8 ?_ | refine o9 ?_ | refine oa ?_ | refine ob ?_ | refine oc ?_ | refine od ?_ | refine oe ?_ | refine og ?_ | refine oh ?_ | refine oi ?_) | (with_reducible refine cExitMiss ?_ ?_; rfl) | (with_reducible refine ok ?_; first | refine ACode.condT rfl ?_ | refine ACode.condF rfl ?_) | (with_reducible refine oj ?_; first | refine AOps.step1 rfl rfl rfl (AStep.arith rfl rfl rfl (.inl ⟨rfl, rfl⟩) (inRange_i64 (by first | omega | (simp; omega)) (by first | omega | (simp; omega)))) ?_ | refine AOps.step1 rfl rfl rfl (AStep.arith rfl rfl rfl (.inr (.inl ⟨rfl, rfl⟩)) (inRange_i64 (by first | omega | (simp; omega)) (by first | omega | (simp; omega)))) ?_ | refine AOps.step1 rfl rfl rfl (AStep.neBool Tryd.underlying4 rfl rfl rfl) ?_ | refine AOps.step1 rfl rfl rfl (AStep.eqBool Tryd.underlying4 rfl rfl rfl) ?_ | refine AOps.step1 rfl rfl rfl (AStep.max2 (t := 3) (ty := 3) rfl rfl rfl) ?_ | refine AOps.step1 rfl rfl rfl (AStep.min2 (t := 3) (ty := 3) rfl rfl rfl) ?_ | refine AOps.unG rfl rfl rfl ?_)
        exact cInv ⟨x.binds.length - (j + 1), j + 1, id, by omega, ⟨by omega, take_all hno hrj (by rw [hbb, hy2]; rfl), rfl⟩, LessR.of rfl (by (repeat' first | exact FrSub.nil | refine FrSub.cons rfl (.ofEq rfl) ?_ | refine FrSub.consP rfl (.ofEq rfl) (by simp) ?_)) (by simp) (by repeat' first | exact LoSub.nil | refine LoSub.cons rfl ?_ rfl (by simp) ?_ | rfl | (refine (AObj.ren_pure _ _ ?_).symm; simp; done) | (simp [AObj.ren, renL, AC.ren]; done) | (simp [AObj.ren, renL, AC.ren]; rfl)) rfl rfl hou⟩
    · by_cases h9 : x.op = 9
      · cases j with
        | zero =>
          have hbb : bindBad e x 0 = false := by simp [bindBad, h5]
          refine ACode.drawX tabOk 36 [(2, .one (.lit (.bool false))), (17, .one (.lit (.bool true))), (20, .one (.lit (.bool false)))] follows (by kernel_rfl) rfl rfl rfl rfl ?_ ?_
          · refine .step rfl (HStep.litB tabOk rfl (by simp [h5])) ?_
            refine .step rfl (HStep.litB tabOk rfl (by simp [h9])) ?_
            exact .step rfl (HStep.litB tabOk rfl (by decide)) .nil
          repeat' first | (with_reducible refine oj ?_; refine AOps.auto tabOk rfl ?_) | (with_reducible first | refine o1 ?_ | refine o2 ?_ | refine o3 ?_ | refine o4 ?_ | refine o5 ?_ | refine o6 ?_ | refine o7 ?_ | refine o8 ?_ | refine o9 ?_ | refine oa ?_ | refine ob ?_ | refine oc ?_ | refine od ?_ | refine oe ?_ | refine og ?_ | refine oh ?_ | refine oi ?_) | (with_reducible refine cExitMiss ?_ ?_; rfl) | (with_reducible refine ok ?_; first | refine ACode.condT rfl ?_ | refine ACode.condF rfl ?_) | (with_reducible refine oj ?_; first | refine AOps.step1 rfl rfl rfl (AStep.arith rfl rfl rfl (.inl ⟨rfl, rfl⟩) (inRange_i64 (by first | omega | (simp; omega)) (by first | omega | (simp; omega)))) ?_ | refine AOps.step1 rfl rfl rfl (AStep.arith rfl rfl rfl (.inr (.inl ⟨rfl, rfl⟩)) (inRange_i64 (by first | omega | (simp; omega)) (by first | omega | (simp; omega)))) ?_ | refine AOps.step1 rfl rfl rfl (AStep.neBool Tryd.underlying4 rfl rfl rfl) ?_ | refine AOps.step1 rfl rfl rfl (AStep.eqBool Tryd.underlying4 rfl rfl rfl) ?_ | refine AOps.step1 rfl rfl rfl (AStep.max2 (t := 3) (ty := 3) rfl rfl rfl) ?_ | refine AOps.step1 rfl rfl rfl (AStep.min2 (t := 3) (ty := 3) rfl rfl rfl) ?_ | refine AOps.unG rfl rfl rfl ?_)
          exact cInv ⟨x.binds.length - 1, 1, id, by omega, ⟨by omega, take_all hno hrj hbb, rfl⟩, LessR.of rfl (by (repeat' first | exact FrSub.nil | refine FrSub.cons rfl (.ofEq rfl) ?_ | refine FrSub.consP rfl (.ofEq rfl) (by simp) ?_)) (by simp) (by repeat' first | exact LoSub.nil | refine LoSub.cons rfl ?_ rfl (by simp) ?_ | rfl | (refine (AObj.ren_pure _ _ ?_).symm; simp; done) | (simp [AObj.ren, renL, AC.ren]; done) | (simp [AObj.ren, renL, AC.ren]; rfl)) rfl rfl hou⟩
        | succ j =>
          obtain ⟨a, haj⟩ := get_of_lt (l := x.binds) (i := j) (by omega)
          have hbb : bindBad e x (j + 1) = decide (a ≥ b) := by
            have e1 : x.binds.getD j 0 = a := by simp [List.getD, haj]
            have e2 : x.binds.getD (j + 1) 0 = b := by simp [List.getD, hbj]
            unfold bindBad
            rw [show j + 1 - 1 = j from rfl, e1, e2]; simp [h5, h9]
          refine ACode.drawX tabOk 36 [(2, .one (.lit (.bool false))), (17, .one (.lit (.bool true))), (20, .one (.lit (.bool true))), (26, .one (int j)), (27, .one (.box (cI a))), (32, .one (.box (cI b)))] follows (by kernel_rfl) rfl rfl rfl rfl ?_ ?_
          · refine .step rfl (HStep.litB tabOk rfl (by simp [h5])) ?_
            refine .step rfl (HStep.litB tabOk rfl (by simp [h9])) ?_
            refine .step rfl (HStep.litB tabOk rfl (by exact decide_eq_true (by omega))) ?_
            refine .step rfl (HStep.guarded rfl rfl rfl (AStep.arith rfl rfl rfl (.inr (.inl ⟨rfl, by omega⟩)) (inRange_i64 (by omega) (by omega)))) ?_
            refine .step rfl (HStep.guarded rfl rfl rfl (AStep.indexAddr tabOk rfl rfl rfl rfl rfl rfl (.inl rfl) rfl (by omega) (map_get haj))) ?_
            exact .step rfl (HStep.guarded rfl rfl rfl (AStep.indexAddr tabOk rfl rfl rfl rfl rfl rfl (.inl rfl) rfl (by omega) (map_get hbj))) .nil
          repeat first | (with_reducible refine oj ?_; refine AOps.auto tabOk rfl ?_) | (with_reducible first | refine o1 ?_ | refine o2 ?_ | refine o3 ?_ | refine o4 ?_ | refine o5 ?_ | refine o6 ?_ | refine o7 ?_ | refine o8 ?_ | refine o9 ?_ | refine oa ?_ | refine ob ?_ | refine oc ?_ | refine od ?_ | refine oe ?_ | refine og ?_ | refine oh ?_ | refine oi ?_) | (with_reducible refine cExitMiss ?_ ?_; rfl) | (with_reducible refine ok ?_; first | refine ACode.condT rfl ?_ | refine ACode.condF rfl ?_)
          refine ACode.cond rfl (fun hb => ?_) (fun hb => ?_)
          · repeat first | (with_reducible refine oj ?_; refine AOps.auto tabOk rfl ?_) | (with_reducible first | refine o1 ?_ | refine o2 ?_ | refine o3 ?_ | refine o4 ?_ | refine o5 ?_ | refine o6 ?_ | refine o7 ?_ | refine o8 ?_ | refine o9 ?_ | refine oa ?_ | refine ob ?_ | refine oc ?_ | refine od ?_ | refine oe ?_ | refine og ?_ | refine oh ?_ | refine oi ?_) | (with_reducible refine cExitMiss ?_ ?_; rfl) | (with_reducible refine ok ?_; first | refine ACode.condT rfl ?_ | refine ACode.condF rfl ?_)
            refine APure.fin rfl (WkF.ofEq ?_) (by simp) hou rfl
            rw [bad (by rw [hbb]; exact hb)]
          · repeat' first | (with_reducible refine oj ?_; refine AOps.auto tabOk rfl ?_) | (with_reducible first | refine o1 ?_ | refine o2 ?_ | refine o3 ?_ | refine o4 ?_ | refine o5 ?_ | refine o6 ?_ | refine o7 ?_ | refine o8 ?_ | refine o9 ?_ | refine oa ?_ | refine ob ?_ | refine oc ?_ | refine od ?_ | refine oe ?_ | refine og ?_ | refine oh ?_ | refine oi ?_) | (with_reducible refine cExitMiss ?_ ?_; rfl) | (with_reducible refine ok ?_; first | refine ACode.condT rfl ?_ | refine ACode.condF rfl ?_) | (with_reducible refine oj ?_; first | refine AOps.step1 rfl rfl rfl (AStep.arith rfl rfl rfl (.inl ⟨rfl, rfl⟩) (inRange_i64 (by first | omega | (simp; omega)) (by first | omega | (simp; omega)))) ?_ | refine AOps.step1 rfl rfl rfl (AStep.arith rfl rfl rfl (.inr (.inl ⟨rfl, rfl⟩)) (inRange_i64 (by first | omega | (simp; omega)) (by first | omega | (simp; omega)))) ?_ | refine AOps.step1 rfl rfl rfl (AStep.neBool Tryd.underlying4 rfl rfl rfl) ?_ | refine AOps.step1 rfl rfl rfl (AStep.eqBool Tryd.underlying4 rfl rfl rfl) ?_ | refine AOps.step1 rfl rfl rfl (AStep.max2 (t := 3) (ty := 3) rfl rfl rfl) ?_ | refine AOps.step1 rfl rfl rfl (AStep.min2 (t := 3) (ty := 3) rfl rfl rfl) ?_ | refine AOps.unG rfl rfl rfl ?_)
            exact cInv ⟨x.binds.length - (j + 1 + 1), j + 1 + 1, id, by omega, ⟨by omega, take_all hno hrj (by rw [hbb]; exact hb), rfl⟩, LessR.of rfl (by (repeat' first | exact FrSub.nil | refine FrSub.cons rfl (.ofEq rfl) ?_ | refine FrSub.consP rfl (.ofEq rfl) (by simp) ?_)) (by simp) (by repeat' first | exact LoSub.nil | refine LoSub.cons rfl ?_ rfl (by simp) ?_ | rfl | (refine (AObj.ren_pure _ _ ?_).symm; simp; done) | (simp [AObj.ren, renL, AC.ren]; done) | (simp [AObj.ren, renL, AC.ren]; rfl)) rfl rfl hou⟩
      · have hbb : bindBad e x j = false := by simp [bindBad, h5, h9]
        refine ACode.drawX tabOk 36 [(2, .one (.lit (.bool false))), (17, .one (.lit (.bool false)))] follows (by kernel_rfl) rfl rfl rfl rfl ?_ ?_
        · refine .step rfl (HStep.litB tabOk rfl (by simp [h5])) ?_
          exact .step rfl (HStep.litB tabOk rfl (by simp [h9])) .nil
        repeat' first | (with_reducible refine oj ?_; refine AOps.auto tabOk rfl ?_) | (with_reducible first | refine o1 ?_ | refine o2 ?_ | refine o3 ?_ | refine o4 ?_ | refine o5 ?_ | refine o6 ?_ | refine o7 ?_ | refine o8 ?_ | refine o9 ?_ | refine oa ?_ | refine ob ?_ | refine oc ?_ | refine od ?_ | refine oe ?_ | refine og ?_ | refine oh ?_ | refine oi ?_) | (with_reducible refine cExitMiss ?_ ?_; rfl) | (with_reducible refine ok ?_; first | refine ACode.condT rfl ?_ | refine ACode.condF rfl ?_) | (with_reducible refine oj ?_; first | refine AOps.step1 rfl rfl rfl (AStep.arith rfl rfl rfl (.inl ⟨rfl, rfl⟩) (inRange_i64 (by first | omega | (simp; omega)) (by first | omega | (simp; omega)))) ?_ | refine AOps.step1 rfl rfl rfl (AStep.arith rfl rfl rfl (.inr (.inl ⟨rfl, rfl⟩)) (inRange_i64 (by first | omega | (simp; omega)) (by first | omega | (simp; omega)))) ?_ | refine AOps.step1 rfl rfl rfl (AStep.neBool Tryd.underlying4 rfl rfl rfl) ?_ | refine AOps.step1 rfl rfl rfl (AStep.eqBool Tryd.underlying4 rfl rfl rfl) ?_ | refine AOps.step1 rfl rfl rfl (AStep.max2 (t := 3) (ty := 3) rfl rfl rfl) ?_ | refine AOps.step1 rfl rfl rfl (AStep.min2 (t := 3) (ty := 3) rfl rfl rfl) ?_ | refine AOps.unG rfl rfl rfl ?_)
        exact cInv ⟨x.binds.length - (j + 1), j + 1, id, by omega, ⟨by omega, take_all hno hrj hbb, rfl⟩, LessR.of rfl (by (repeat' first | exact FrSub.nil | refine FrSub.cons rfl (.ofEq rfl) ?_ | refine FrSub.consP rfl (.ofEq rfl) (by simp) ?_)) (by simp) (by repeat' first | exact LoSub.nil | refine LoSub.cons rfl ?_ rfl (by simp) ?_ | rfl | (refine (AObj.ren_pure _ _ ?_).symm; simp; done) | (simp [AObj.ren, renL, AC.ren]; done) | (simp [AObj.ren, renL, AC.ren]; rfl)) rfl rfl hou⟩
  · have hlt : j = x.binds.length := by simp at hb2; omega
    subst hlt
    have : (List.range x.binds.length).any (bindBad e x) = false := by
      rw [List.any_eq_false]
      intro i hi
      simp [hno i (by rw [List.take_of_length_le (by simp)]; exact hi)]
    repeat first | (with_reducible refine oj ?_; refine AOps.auto tabOk rfl ?_) | (with_reducible first | refine o1 ?_ | refine o2 ?_ | refine o3 ?_ | refine o4 ?_ | refine o5 ?_ | refine o6 ?_ | refine o7 ?_ | refine o8 ?_ | refine o9 ?_ | refine oa ?_ | refine ob ?_ | refine oc ?_ | refine od ?_ | refine oe ?_ | refine og ?_ | refine oh ?_ | refine oi ?_) | (with_reducible refine cExitMiss ?_ ?_; rfl) | (with_reducible refine ok ?_; first | refine ACode.condT rfl ?_ | refine ACode.condF rfl ?_)
    refine APure.fin rfl (WkF.ofEq ?_) (by simp) hou rfl
    rw [hn, this]; rfl
end Go.Proofs.YtnonkoeknpmcjaaDoor
/- Bound and Binders, walked. -/
namespace Go.Proofs.YtnonkoeknpmcjaaDoor
open Go Go.Abs Go.CoreX
set_option maxRecDepth 10000
set_option linter.unusedVariables false
set_option linter.unusedSimpArgs false
variable {Γ : List (Nat × List AC)}
theorem Bound_ok (hΓ : ∀ g cs, (g, cs) ∈ Γ → idsL isO cs) (t : Tr) (k : Int) (hk : -1048576 ≤ k ∧ k ≤ 1048576) (ha : t.alts.length ≤ 1048576) :
    APure Tryd.prog Γ 85 [.one (.box (cTr t)), .one (int k)] (.one (.sl 1 ((boundN t.op t.binds t.alts k).map cI))) := by
  intro ou
  refine AFn.walk 58 tabOk Tryd.func85 rfl (by kernel_rfl) rfl rfl fun hou => ?_
  repeat' first | (with_reducible refine oj ?_; refine AOps.auto tabOk rfl ?_) | (with_reducible first | refine o1 ?_ | refine o2 ?_ | refine o3 ?_ | refine o4 ?_ | refine o5 ?_ | refine o6 ?_ | refine o7 ?_ | refine o8 ?_ | refine o9 ?_ | refine oa ?_ | refine ob ?_ | refine oc ?_ | refine od ?_ | refine oe ?_ | refine og ?_ | refine oh ?_ | refine oi ?_) | (with_reducible refine cExitMiss ?_ ?_; rfl) | (with_reducible refine ok ?_; first | refine ACode.condT rfl ?_ | refine ACode.condF rfl ?_) | (with_reducible refine oj ?_; first | refine AOps.step1 rfl rfl rfl (AStep.arith rfl rfl rfl (.inl ⟨rfl, rfl⟩) (inRange_i64 (by first | omega | (simp; omega)) (by first | omega | (simp; omega)))) ?_ | refine AOps.step1 rfl rfl rfl (AStep.arith rfl rfl rfl (.inr (.inl ⟨rfl, rfl⟩)) (inRange_i64 (by first | omega | (simp; omega)) (by first | omega | (simp; omega)))) ?_ | refine AOps.step1 rfl rfl rfl (AStep.neBool Tryd.underlying4 rfl rfl rfl) ?_ | refine AOps.step1 rfl rfl rfl (AStep.eqBool Tryd.underlying4 rfl rfl rfl) ?_ | refine AOps.step1 rfl rfl rfl (AStep.max2 (t := 3) (ty := 3) rfl rfl rfl) ?_ | refine AOps.step1 rfl rfl rfl (AStep.min2 (t := 3) (ty := 3) rfl rfl rfl) ?_ | refine AOps.unG rfl rfl rfl ?_) | (with_reducible refine oj ?_; refine AOps.splitS rfl rfl rfl rfl (fun hb => ?_) (fun hb => ?_)) | (with_reducible refine ok ?_; first | refine ACode.condS rfl (fun hb => ?_) (fun hb => ?_) | refine ACode.cond rfl (fun hb => ?_) (fun hb => ?_))
  all_goals try
    (have h1 : 0 < k := by simp_all
     have h2 : k ≤ t.alts.length := by simp_all
     obtain ⟨a, ha2⟩ := get_of_lt (l := t.alts) (i := (k - 1).toNat) (by omega)
     refine AOps.step1 rfl rfl rfl (AStep.indexAddr tabOk rfl rfl rfl rfl rfl rfl (.inl rfl) rfl (by omega) (map_get ha2)) ?_
     have hb2 : boundN t.op t.binds t.alts k = a.binds := by
       have e1 : t.alts.getD (k - 1).toNat ⟨0, []⟩ = a := by rw [List.getD_eq_getElem?_getD, ha2]; rfl
       unfold boundN
       rw [if_neg (by simp_all), if_pos (by omega), e1]
     rw [hb2]
     repeat' first | (with_reducible refine oj ?_; refine AOps.auto tabOk rfl ?_) | (with_reducible first | refine o1 ?_ | refine o2 ?_ | refine o3 ?_ | refine o4 ?_ | refine o5 ?_ | refine o6 ?_ | refine o7 ?_ | refine o8 ?_ | refine o9 ?_ | refine oa ?_ | refine ob ?_ | refine oc ?_ | refine od ?_ | refine oe ?_ | refine og ?_ | refine oh ?_ | refine oi ?_) | (with_reducible refine cExitMiss ?_ ?_; rfl) | (with_reducible refine ok ?_; first | refine ACode.condT rfl ?_ | refine ACode.condF rfl ?_) | (with_reducible refine oj ?_; first | refine AOps.step1 rfl rfl rfl (AStep.arith rfl rfl rfl (.inl ⟨rfl, rfl⟩) (inRange_i64 (by first | omega | (simp; omega)) (by first | omega | (simp; omega)))) ?_ | refine AOps.step1 rfl rfl rfl (AStep.arith rfl rfl rfl (.inr (.inl ⟨rfl, rfl⟩)) (inRange_i64 (by first | omega | (simp; omega)) (by first | omega | (simp; omega)))) ?_ | refine AOps.step1 rfl rfl rfl (AStep.neBool Tryd.underlying4 rfl rfl rfl) ?_ | refine AOps.step1 rfl rfl rfl (AStep.eqBool Tryd.underlying4 rfl rfl rfl) ?_ | refine AOps.step1 rfl rfl rfl (AStep.max2 (t := 3) (ty := 3) rfl rfl rfl) ?_ | refine AOps.step1 rfl rfl rfl (AStep.min2 (t := 3) (ty := 3) rfl rfl rfl) ?_ | refine AOps.unG rfl rfl rfl ?_) | (with_reducible refine oj ?_; refine AOps.splitS rfl rfl rfl rfl (fun hb => ?_) (fun hb => ?_)) | (with_reducible refine ok ?_; first | refine ACode.condS rfl (fun hb => ?_) (fun hb => ?_) | refine ACode.cond rfl (fun hb => ?_) (fun hb => ?_))
     exact APure.fin rfl (WkF.ofEq rfl) (by simp) hou rfl)
  all_goals first
    | (refine APure.fin rfl (WkF.ofEq ?_) (by simp) hou rfl
       simp_all [boundN]
       done)
    | (refine APure.fin rfl (.trans (.one (.nilS 1)) (.ofEq ?_)) (by simp) hou rfl
       simp_all [boundN]
       done)
    | (refine APure.fin rfl (.trans (.one (.nilS 1)) (.ofEq ?_)) (by simp) hou rfl
       simp_all [boundN]
       intros; omega)
/-- The binders of the first alternatives, behind others. -/
def bindTo (pre : List Int) (al : List Alt) (j : Nat) : List Int := pre ++ (al.take j).flatMap (·.binds)
theorem bindTo_succ {pre : List Int} {al : List Alt} {j : Nat} {a : Alt} (h : al[j]? = some a) : bindTo pre al (j + 1) = bindTo pre al j ++ a.binds := by
  simp [bindTo, List.take_add_one, h, List.flatMap_append]
def bindLen (t : Tr) : Nat := t.binds.length + (t.alts.flatMap (·.binds)).length
theorem bindTo_len {pre : List Int} {al : List Alt} (j : Nat) : (bindTo pre al j).length ≤ pre.length + (al.flatMap (·.binds)).length := by
  simp only [bindTo, List.length_append]
  have : ((al.take j).flatMap (·.binds)).length ≤ (al.flatMap (·.binds)).length := by
    conv => rhs; rw [← List.take_append_drop j al, List.flatMap_append, List.length_append]
    omega
  omega
theorem Binders_ok (hΓ : ∀ g cs, (g, cs) ∈ Γ → idsL isO cs) (t : Tr) (hl : bindLen t ≤ 4194304) (ha : t.alts.length ≤ 1048576) :
    APure Tryd.prog Γ 49 [.one (.box (cTr t))] (.one (.sl 1 ((bindersN t.op t.binds t.alts).map cI))) := by
  unfold bindLen at hl
  intro ou
  refine AFn.walk 46 tabOk Tryd.func49 rfl (by kernel_rfl) rfl rfl fun hou => ?_
  iterate 11 (first | (with_reducible refine oj ?_; refine AOps.auto tabOk rfl ?_) | (with_reducible first | refine o1 ?_ | refine o2 ?_ | refine o3 ?_ | refine o4 ?_ | refine o5 ?_ | refine o6 ?_ | refine o7 ?_ | refine o8 ?_ | refine o9 ?_ | refine oa ?_ | refine ob ?_ | refine oc ?_ | refine od ?_ | refine oe ?_ | refine og ?_ | refine oh ?_ | refine oi ?_) | (with_reducible refine cExitMiss ?_ ?_; rfl) | (with_reducible refine ok ?_; first | refine ACode.condT rfl ?_ | refine ACode.condF rfl ?_))
  refine ACode.growS 3 3 1 rfl ?_
  have he0 : bindersN t.op t.binds t.alts = bindTo (if t.op = 2 ∨ t.op = 4 ∨ t.op = 5 then t.binds else []) t.alts t.alts.length := by simp [bindersN, bindTo]
  obtain ⟨pre, hpre⟩ : ∃ pre, pre = (if t.op = 2 ∨ t.op = 4 ∨ t.op = 5 then t.binds else []) := ⟨_, rfl⟩
  rw [he0, ← hpre]
  have hpl : pre.length ≤ t.binds.length := by rw [hpre]; split <;> simp
  refine ACode.cutR hΓ (α := Unit) (fun _ => [(3, .one (.gs 1 (pre.map cI) (.l 0))), (0, .one (.box (cTr t)))])
    (fun _ => ⟨1, [(0, .tok 3 1 pre.length)], ou⟩) (fun _ => True) ?_ fun _ _ => ?_
  · repeat' first | (with_reducible refine oj ?_; refine AOps.auto tabOk rfl ?_) | (with_reducible first | refine o1 ?_ | refine o2 ?_ | refine o3 ?_ | refine o4 ?_ | refine o5 ?_ | refine o6 ?_ | refine o7 ?_ | refine o8 ?_ | refine o9 ?_ | refine oa ?_ | refine ob ?_ | refine oc ?_ | refine od ?_ | refine oe ?_ | refine og ?_ | refine oh ?_ | refine oi ?_) | (with_reducible refine cExitMiss ?_ ?_; rfl) | (with_reducible refine ok ?_; first | refine ACode.condT rfl ?_ | refine ACode.condF rfl ?_) | (with_reducible refine oj ?_; first | refine AOps.step1 rfl rfl rfl (AStep.arith rfl rfl rfl (.inl ⟨rfl, rfl⟩) (inRange_i64 (by first | omega | (simp; omega)) (by first | omega | (simp; omega)))) ?_ | refine AOps.step1 rfl rfl rfl (AStep.arith rfl rfl rfl (.inr (.inl ⟨rfl, rfl⟩)) (inRange_i64 (by first | omega | (simp; omega)) (by first | omega | (simp; omega)))) ?_ | refine AOps.step1 rfl rfl rfl (AStep.neBool Tryd.underlying4 rfl rfl rfl) ?_ | refine AOps.step1 rfl rfl rfl (AStep.eqBool Tryd.underlying4 rfl rfl rfl) ?_ | refine AOps.step1 rfl rfl rfl (AStep.max2 (t := 3) (ty := 3) rfl rfl rfl) ?_ | refine AOps.step1 rfl rfl rfl (AStep.min2 (t := 3) (ty := 3) rfl rfl rfl) ?_ | refine AOps.unG rfl rfl rfl ?_) | (with_reducible refine oj ?_; refine AOps.splitS rfl rfl rfl rfl (fun hb => ?_) (fun hb => ?_)) | (with_reducible refine ok ?_; first | refine ACode.condS rfl (fun hb => ?_) (fun hb => ?_) | refine ACode.cond rfl (fun hb => ?_) (fun hb => ?_))
    all_goals first
      | (have : pre = t.binds := by simp_all
         subst this
         refine AOps.app tabOk rfl rfl rfl rfl rfl rfl rfl rfl rfl (Base.gs' _ _ _ _ _ (by rfl) (by simp)) (.sl _ _) rfl (by simp; show _ * 8 ≤ _; omega) (by simp; omega) ?_
         repeat' first | (with_reducible refine oj ?_; refine AOps.auto tabOk rfl ?_) | (with_reducible first | refine o1 ?_ | refine o2 ?_ | refine o3 ?_ | refine o4 ?_ | refine o5 ?_ | refine o6 ?_ | refine o7 ?_ | refine o8 ?_ | refine o9 ?_ | refine oa ?_ | refine ob ?_ | refine oc ?_ | refine od ?_ | refine oe ?_ | refine og ?_ | refine oh ?_ | refine oi ?_) | (with_reducible refine cExitMiss ?_ ?_; rfl) | (with_reducible refine ok ?_; first | refine ACode.condT rfl ?_ | refine ACode.condF rfl ?_) | (with_reducible refine oj ?_; first | refine AOps.step1 rfl rfl rfl (AStep.arith rfl rfl rfl (.inl ⟨rfl, rfl⟩) (inRange_i64 (by first | omega | (simp; omega)) (by first | omega | (simp; omega)))) ?_ | refine AOps.step1 rfl rfl rfl (AStep.arith rfl rfl rfl (.inr (.inl ⟨rfl, rfl⟩)) (inRange_i64 (by first | omega | (simp; omega)) (by first | omega | (simp; omega)))) ?_ | refine AOps.step1 rfl rfl rfl (AStep.neBool Tryd.underlying4 rfl rfl rfl) ?_ | refine AOps.step1 rfl rfl rfl (AStep.eqBool Tryd.underlying4 rfl rfl rfl) ?_ | refine AOps.step1 rfl rfl rfl (AStep.max2 (t := 3) (ty := 3) rfl rfl rfl) ?_ | refine AOps.step1 rfl rfl rfl (AStep.min2 (t := 3) (ty := 3) rfl rfl rfl) ?_ | refine AOps.unG rfl rfl rfl ?_) | (with_reducible refine oj ?_; refine AOps.splitS rfl rfl rfl rfl (fun hb => ?_) (fun hb => ?_)) | (with_reducible refine ok ?_; first | refine ACode.condS rfl (fun hb => ?_) (fun hb => ?_) | refine ACode.cond rfl (fun hb => ?_) (fun hb => ?_))
         exact cInv ⟨(), fun _ => 1, trivial, LessR.of rfl (FrSub.consGs rfl rfl (by simp) (FrSub.consP rfl (.ofEq rfl) (by simp) .nil)) (by simp) (LoSub.cons rfl (by simp [AObj.ren]; rfl) rfl (by simp) .nil) rfl rfl hou⟩)
      | (have : pre = [] := by simp_all
         subst this
         exact cInv ⟨(), id, trivial, LessR.of rfl (FrSub.consGs rfl rfl (by simp) (FrSub.consP rfl (.ofEq rfl) (by simp) .nil)) (by simp) (by repeat' first | exact LoSub.nil | refine LoSub.cons rfl ?_ rfl (by simp) ?_ | rfl | (refine (AObj.ren_pure _ _ ?_).symm; simp; done) | (simp [AObj.ren, renL, AC.ren]; done) | (simp [AObj.ren, renL, AC.ren]; rfl)) rfl rfl hou⟩)
  clear hpre he0
  repeat first | (with_reducible refine oj ?_; refine AOps.auto tabOk rfl ?_) | (with_reducible first | refine o1 ?_ | refine o2 ?_ | refine o3 ?_ | refine o4 ?_ | refine o5 ?_ | refine o6 ?_ | refine o7 ?_ | refine o8 ?_ | refine o9 ?_ | refine oa ?_ | refine ob ?_ | refine oc ?_ | refine od ?_ | refine oe ?_ | refine og ?_ | refine oh ?_ | refine oi ?_) | (with_reducible refine cExitMiss ?_ ?_; rfl) | (with_reducible refine ok ?_; first | refine ACode.condT rfl ?_ | refine ACode.condF rfl ?_)
  refine ACode.loopR hΓ (α := Nat) (fun j => [(36, .one (int j)), (35, .one (int (t.alts.map cAlt).length)), (34, .one (.sl 2 (t.alts.map cAlt))), (3, .one (.gs 1 ((bindTo pre t.alts j).map cI) (.l 0))), (0, .one (.box (cTr t)))])
    (fun j => ⟨1, [(0, .tok 3 1 (bindTo pre t.alts j).length)], ou⟩) (fun m j => j ≤ t.alts.length ∧ m = t.alts.length - j) (a0 := 0) (ρ := id) ⟨by omega, rfl⟩
    (LessR.of rfl (FrSub.cons rfl (.ofEq rfl) (FrSub.cons rfl (.ofEq rfl) (FrSub.consP rfl (.ofEq rfl) (by simp) (FrSub.consGs (by simp [bindTo]; rfl) rfl (by simp) (FrSub.consP rfl (.ofEq rfl) (by simp) .nil))))) (by simp) (LoSub.cons rfl (by simp [AObj.ren, bindTo]) rfl (by simp) .nil) rfl rfl hou) fun m j hj => ?_
  obtain ⟨hjl, rfl⟩ := hj
  repeat first | (with_reducible refine oj ?_; refine AOps.auto tabOk rfl ?_) | (with_reducible first | refine o1 ?_ | refine o2 ?_ | refine o3 ?_ | refine o4 ?_ | refine o5 ?_ | refine o6 ?_ | refine o7 ?_ | refine o8 ?_ | refine o9 ?_ | refine oa ?_ | refine ob ?_ | refine oc ?_ | refine od ?_ | refine oe ?_ | refine og ?_ | refine oh ?_ | refine oi ?_) | (with_reducible refine cExitMiss ?_ ?_; rfl) | (with_reducible refine ok ?_; first | refine ACode.condT rfl ?_ | refine ACode.condF rfl ?_)
  refine ACode.cond rfl (fun hb2 => ?_) (fun hb2 => ?_)
  · have hlt : j < t.alts.length := by simpa using hb2
    obtain ⟨a, ha2⟩ := get_of_lt hlt
    have hbl := bindTo_len (pre := pre) (al := t.alts) (j + 1)
    rw [bindTo_succ ha2] at hbl
    simp only [List.length_append] at hbl
    repeat first | (with_reducible refine oj ?_; refine AOps.auto tabOk rfl ?_) | (with_reducible first | refine o1 ?_ | refine o2 ?_ | refine o3 ?_ | refine o4 ?_ | refine o5 ?_ | refine o6 ?_ | refine o7 ?_ | refine o8 ?_ | refine o9 ?_ | refine oa ?_ | refine ob ?_ | refine oc ?_ | refine od ?_ | refine oe ?_ | refine og ?_ | refine oh ?_ | refine oi ?_) | (with_reducible refine cExitMiss ?_ ?_; rfl) | (with_reducible refine ok ?_; first | refine ACode.condT rfl ?_ | refine ACode.condF rfl ?_)
    refine AOps.step1 rfl rfl rfl (AStep.indexAddr tabOk rfl rfl rfl rfl rfl rfl (.inl rfl) rfl (by omega) (map_get ha2)) ?_
    repeat first | (with_reducible refine oj ?_; refine AOps.auto tabOk rfl ?_) | (with_reducible first | refine o1 ?_ | refine o2 ?_ | refine o3 ?_ | refine o4 ?_ | refine o5 ?_ | refine o6 ?_ | refine o7 ?_ | refine o8 ?_ | refine o9 ?_ | refine oa ?_ | refine ob ?_ | refine oc ?_ | refine od ?_ | refine oe ?_ | refine og ?_ | refine oh ?_ | refine oi ?_) | (with_reducible refine cExitMiss ?_ ?_; rfl) | (with_reducible refine ok ?_; first | refine ACode.condT rfl ?_ | refine ACode.condF rfl ?_)
    refine AOps.app tabOk rfl rfl rfl rfl rfl rfl rfl rfl rfl (Base.gs' _ _ _ _ _ (by rfl) (by simp)) (.sl _ _) rfl (by simp; show _ * 8 ≤ _; omega) (by simp; omega) ?_
    repeat' first | (with_reducible refine oj ?_; refine AOps.auto tabOk rfl ?_) | (with_reducible first | refine o1 ?_ | refine o2 ?_ | refine o3 ?_ | refine o4 ?_ | refine o5 ?_ | refine o6 ?_ | refine o7 ?_ | refine o8 ?_ | refine o9 ?_ | refine oa ?_ | refine ob ?_ | refine oc ?_ | refine od ?_ | refine oe ?_ | refine og ?_ | refine oh ?_ | refine oi ?_) | (with_reducible refine cExitMiss ?_ ?_; rfl) | (with_reducible refine ok ?_; first | refine ACode.condT rfl ?_ | refine ACode.condF rfl ?_) | (with_reducible refine oj ?_; first | refine AOps.step1 rfl rfl rfl (AStep.arith rfl rfl rfl (.inl ⟨rfl, rfl⟩) (inRange_i64 (by first | omega | (simp; omega)) (by first | omega | (simp; omega)))) ?_ | refine AOps.step1 rfl rfl rfl (AStep.arith rfl rfl rfl (.inr (.inl ⟨rfl, rfl⟩)) (inRange_i64 (by first | omega | (simp; omega)) (by first | omega | (simp; omega)))) ?_ | refine AOps.step1 rfl rfl rfl (AStep.neBool Tryd.underlying4 rfl rfl rfl) ?_ | refine AOps.step1 rfl rfl rfl (AStep.eqBool Tryd.underlying4 rfl rfl rfl) ?_ | refine AOps.step1 rfl rfl rfl (AStep.max2 (t := 3) (ty := 3) rfl rfl rfl) ?_ | refine AOps.step1 rfl rfl rfl (AStep.min2 (t := 3) (ty := 3) rfl rfl rfl) ?_ | refine AOps.unG rfl rfl rfl ?_)
    exact cInv ⟨t.alts.length - (j + 1), j + 1, fun _ => 2, by omega, ⟨by omega, rfl⟩, LessR.of rfl (FrSub.cons rfl (.ofEq rfl) (FrSub.cons rfl (.ofEq rfl) (FrSub.consP rfl (.ofEq rfl) (by simp) (FrSub.consGs (by rw [bindTo_succ ha2, List.map_append]; rfl) rfl (by simp) (FrSub.consP rfl (.ofEq rfl) (by simp) .nil))))) (by simp) (LoSub.cons rfl (by simp [AObj.ren, bindTo_succ ha2]; rfl) rfl (by simp) .nil) rfl rfl hou⟩
  · have hlt : j = t.alts.length := by simp at hb2; omega
    subst hlt
    repeat first | (with_reducible refine oj ?_; refine AOps.auto tabOk rfl ?_) | (with_reducible first | refine o1 ?_ | refine o2 ?_ | refine o3 ?_ | refine o4 ?_ | refine o5 ?_ | refine o6 ?_ | refine o7 ?_ | refine o8 ?_ | refine o9 ?_ | refine oa ?_ | refine ob ?_ | refine oc ?_ | refine od ?_ | refine oe ?_ | refine og ?_ | refine oh ?_ | refine oi ?_) | (with_reducible refine cExitMiss ?_ ?_; rfl) | (with_reducible refine ok ?_; first | refine ACode.condT rfl ?_ | refine ACode.condF rfl ?_)
    exact APure.fin rfl (.one (.gsE rfl)) (by simp) hou rfl
end Go.Proofs.YtnonkoeknpmcjaaDoor
/- Clone, walked. -/
namespace Go.Abs
set_option linter.unusedVariables false
/-- An empty slice that is not nil, to be appended to. -/
theorem AStep.buildSlice0 {E : Env} {o : Oper} {fr : Fr} {σ : St} {t : TypeId} {ti tj : TI} {s : Nat} (hT : TabOk E.P E.T) (ho : o.op = .buildSlice t 0 #[]) (ht : Tab.get t E.T = some ti) (hk : Nat.beq ti.kind 2 = true) (hj : Tab.get ti.elem E.T = some tj) (hs : tj.size = s) :
    AStep E o fr σ (.one (.gs s [] (.l σ.n))) (σ.push (.tok ti.elem s 0)) := by
  intro F w C tmps hi hf next Q hk2
  have hsl := (hT t ti ht).slice (Nat.eq_of_beq_eq_true hk)
  have hsz := (hT _ _ hj).run_sizeOf w
  have hrun : (execOp (Act.eval ⟨tmps, []⟩) o).run E.P w = .ok (.value (.slice (some ⟨w.heap.size, 0, none⟩) 0 0)) (w.alloc (.cells #[] ti.elem)) := by
    unfold execOp
    simp only [ho]
    simp [Instr.buildSlice, run_underlying hsl, hsz, Instr.fill, newRow, Array.range_zero']
  have hno := Ctx.tokd_new C (some (w.heap.size, 0)) (fun _ => False) hi.next
  have he : Ext w C (w.alloc (.cells #[] ti.elem)) (C.tokd (some (w.heap.size, 0)) (fun _ => False)) := ⟨fun a ha => World.cell?_alloc_lt _ _ _ (hi.prot a ha), fun _ h => .inl h, fun i _ ho => Ctx.tokd_old C _ _ ho⟩
  have hadd : Inv E.Γ F (w.alloc (.cells #[] ti.elem)) (C.tokd (some (w.heap.size, 0)) (fun _ => False)) (σ.push (.tok ti.elem s 0)) := by
    refine hi.addObj (o := .tok ti.elem s 0) (d := .l σ.n) (σ.get_push _) he ?_ ?_ ?_ ?_ ?_ hno.1 ?_ ?_
    · simp [Ctx.tokd, Ctx.more, St.push, hi.next]
    · intro k hk; have := hi.base k hk; simp; omega
    · intro a ha
      rcases ha with ha | ha
      · have := hi.prot a ha; simp; omega
      · exact ha.elim
    · intro i p hp g x hb hx; exact heap_alloc_lt w _ hx
    · intro i p hp a hb hlt ha; exact ha.resolve_right id
    · simp only [ObjOk, hno.2]
      refine ⟨#[], heap_alloc_new w _, fun hF => by have := hi.base _ hF; omega, by simp, Nat.le_refl _, by simp [maxLen], fun a ha hp => ?_⟩
      rcases hp with hp | hp
      · have := hi.prot a hp; omega
      · exact hp.elim
    · intro i p g hp hb hb2
      simp only [AObj.block, hno.2, Option.map_some, Option.some.injEq] at hb2
      have := (AObj.block_lt (hi.obj i p hp).2 hb).2
      omega
  unfold Oper.wp
  rw [hrun, Oper.upon_value]
  refine hk2 _ _ _ ⟨Stp.alloc hi.base _ _, he, by simp [Ctx.tokd, Ctx.more], fun a ha => ha.imp id (fun h => h.elim)⟩ hadd ?_
  simp only [RF, R]
  exact ⟨hno.1, .inr ⟨_, 0, rfl, Nat.le_refl _, hno.2, by simp [RS]⟩⟩
/-- A DRAWN REGION in whose head one operation turns the store; how it does is given. -/
theorem ACode.drawXH {E : Env} {id : Nat} {l hd tl : List Oper} {K : Cont} {fr frb fr' : Fr} {σ σ1 : St} {vs : List FV} {va : FV} {oal : Oper} (hT : TabOk E.P E.T) (n al : Nat) (cs : List (Nat × FV)) (hm : E.P.follows .mixedOrders = true) (hB : drawB l n = true) (haln : Nat.ble (al + 1) n = true) (hsp : splitO n l = some (hd, tl)) (hfb : Fr.woO (dsts hd) fr = some frb)
    (hoal : l[al]? = some oal) (hrun : runHeads E l.toArray l frb σ ((al, va) :: cs) 0 hd [] = some vs) (hrun1 : runHeads E l.toArray l frb σ1 ((al, va) :: cs) 0 hd [] = some vs) (hfr : frOf hd vs frb = some fr') (hal : HStep E l.toArray oal (depFr l vs oal ++ frb) σ σ1 va) (hcs : CallsOk E l frb σ vs cs) (hcs1 : CallsOk E l frb σ1 vs cs) (htail : AOps E l.toArray tl K fr' σ1) : ACode E (.region id l.toArray true) K fr σ := by
  obtain ⟨h1, h2⟩ := splitO_eq hsp
  subst h1; subst h2
  have h3 := Fr.woO_eq hfb
  have h4 := frOf_eq hfr
  have hn : n < l.length := by
    simp only [drawB, Bool.and_eq_true, decide_eq_true_eq] at hB
    exact hB.1.1.1.1.1
  have hlast : ((l.take n).zipIdx.all fun x => x.1.after.all fun e => !Region.binds .any e || decide (e.on < x.2)) = true := by
    simp only [drawB, Bool.and_eq_true] at hB
    exact hB.2
  refine ACode.drawAF n al vs _ hm haln hB rfl frb h3 (runHeads_ok2 (n := n) (va := va) hT (fun k o hk hkn => ?_) hoal hal hcs hcs1 _ 0 [] vs rfl (fun i o hi => ?_) hrun hrun1 rfl) (by rw [h4]; exact htail)
  · have := List.all_eq_true.1 hlast (o, k) (by
      rw [List.mem_iff_getElem?]
      exact ⟨k, by rw [List.getElem?_zipIdx, List.getElem?_take_of_lt hkn, hk]; simp⟩)
    exact this
  · have hi2 : i < n := by
      have := (List.getElem?_eq_some_iff.1 hi).1
      simp at this; omega
    rw [List.getElem?_take_of_lt hi2] at hi
    exact ⟨by simpa using hi, by omega⟩
end Go.Abs
namespace Go.Proofs.YtnonkoeknpmcjaaDoor
open Go Go.Abs Go.CoreX
set_option maxRecDepth 10000
set_option linter.unusedVariables false
set_option linter.unusedSimpArgs false
variable {Γ : List (Nat × List AC)}
theorem Clone_ok (l : List Int) (hl : l.length ≤ 1048576) : APure Tryd.prog Γ 56 [.one (.sl 1 (l.map cI))] (.one (.sl 1 (l.map cI))) := by
  intro ou
  refine AFn.walk 8 tabOk Tryd.func56 rfl (by kernel_rfl) rfl rfl fun hou => ?_
  repeat first | (with_reducible refine oj ?_; refine AOps.auto tabOk rfl ?_) | (with_reducible first | refine o1 ?_ | refine o2 ?_ | refine o3 ?_ | refine o4 ?_ | refine o5 ?_ | refine o6 ?_ | refine o7 ?_ | refine o8 ?_ | refine o9 ?_ | refine oa ?_ | refine ob ?_ | refine oc ?_ | refine od ?_ | refine oe ?_ | refine og ?_ | refine oh ?_ | refine oi ?_) | (with_reducible refine cExitMiss ?_ ?_; rfl) | (with_reducible refine ok ?_; first | refine ACode.condT rfl ?_ | refine ACode.condF rfl ?_)
  refine AOps.nilTest rfl rfl rfl rfl Tryd.underlying30 rfl rfl fun b hb => ?_
  cases b with
  | true =>
    have hz : l = [] := by have := hb rfl; simpa using this
    subst hz
    repeat first | (with_reducible refine oj ?_; refine AOps.auto tabOk rfl ?_) | (with_reducible first | refine o1 ?_ | refine o2 ?_ | refine o3 ?_ | refine o4 ?_ | refine o5 ?_ | refine o6 ?_ | refine o7 ?_ | refine o8 ?_ | refine o9 ?_ | refine oa ?_ | refine ob ?_ | refine oc ?_ | refine od ?_ | refine oe ?_ | refine og ?_ | refine oh ?_ | refine oi ?_) | (with_reducible refine cExitMiss ?_ ?_; rfl) | (with_reducible refine ok ?_; first | refine ACode.condT rfl ?_ | refine ACode.condF rfl ?_)
    exact APure.fin rfl (.one (.nilS 1)) (by simp) hou rfl
  | false =>
    repeat first | (with_reducible refine oj ?_; refine AOps.auto tabOk rfl ?_) | (with_reducible first | refine o1 ?_ | refine o2 ?_ | refine o3 ?_ | refine o4 ?_ | refine o5 ?_ | refine o6 ?_ | refine o7 ?_ | refine o8 ?_ | refine o9 ?_ | refine oa ?_ | refine ob ?_ | refine oc ?_ | refine od ?_ | refine oe ?_ | refine og ?_ | refine oh ?_ | refine oi ?_) | (with_reducible refine cExitMiss ?_ ?_; rfl) | (with_reducible refine ok ?_; first | refine ACode.condT rfl ?_ | refine ACode.condF rfl ?_)
    refine AOps.step1 rfl rfl rfl (AStep.buildSlice0 tabOk rfl rfl rfl rfl rfl) ?_
    repeat first | (with_reducible refine oj ?_; refine AOps.auto tabOk rfl ?_) | (with_reducible first | refine o1 ?_ | refine o2 ?_ | refine o3 ?_ | refine o4 ?_ | refine o5 ?_ | refine o6 ?_ | refine o7 ?_ | refine o8 ?_ | refine o9 ?_ | refine oa ?_ | refine ob ?_ | refine oc ?_ | refine od ?_ | refine oe ?_ | refine og ?_ | refine oh ?_ | refine oi ?_) | (with_reducible refine cExitMiss ?_ ?_; rfl) | (with_reducible refine ok ?_; first | refine ACode.condT rfl ?_ | refine ACode.condF rfl ?_)
    refine AOps.app tabOk rfl rfl rfl rfl rfl rfl rfl rfl rfl (Base.gs' _ _ _ _ _ (by rfl) (by simp)) (.sl _ _) rfl (by simp; show _ * 8 ≤ _; omega) (by simp; omega) ?_
    repeat first | (with_reducible refine oj ?_; refine AOps.auto tabOk rfl ?_) | (with_reducible first | refine o1 ?_ | refine o2 ?_ | refine o3 ?_ | refine o4 ?_ | refine o5 ?_ | refine o6 ?_ | refine o7 ?_ | refine o8 ?_ | refine o9 ?_ | refine oa ?_ | refine ob ?_ | refine oc ?_ | refine od ?_ | refine oe ?_ | refine og ?_ | refine oh ?_ | refine oi ?_) | (with_reducible refine cExitMiss ?_ ?_; rfl) | (with_reducible refine ok ?_; first | refine ACode.condT rfl ?_ | refine ACode.condF rfl ?_)
    exact APure.fin rfl (.one (.gsE (by simp))) (by simp) hou rfl
end Go.Proofs.YtnonkoeknpmcjaaDoor
/- Maps by numbers, as plain data. No condition. -/
namespace Go.Proofs.YtnonkoeknpmcjaaDoor
open Go Go.Abs Go.CoreX
set_option linter.unusedVariables false
set_option linter.unusedSimpArgs false
section
variable {β : Type}
/-- The entries: when each was born, its key, its value. -/
def encI (enc : β → FV) (l : List (Nat × Int × β)) : List (Nat × Value × FV) := l.map fun x => (x.1, .int .i64 x.2.1, enc x.2.2)
structure IMOk (f : Int → Option β) (ck : Nat) (l : List (Nat × Int × β)) : Prop where
  born : ∀ x ∈ l, x.1 < ck
  nb : (l.map (·.1)).Nodup
  look : ∀ k, (l.find? (fun x => x.2.1 == k)).map (·.2.2) = f k
  nk : (l.map (·.2.1)).Nodup
def setF (f : Int → Option β) (k : Int) (v : β) : Int → Option β := fun j => if k = j then some v else f j
theorem IMOk.nil : IMOk (fun _ => none : Int → Option β) 0 [] := ⟨by simp, by simp, fun k => rfl, by simp⟩
variable (enc : β → FV)
theorem keysI (l : List (Nat × Int × β)) : KeysOk (.int .i64) (encI enc l) := by
  intro x hx
  simp only [encI, List.mem_map] at hx
  obtain ⟨y, _, rfl⟩ := hx
  rfl
theorem same_yes (k : Int) : Instr.sameNow (.int .i64) (.int .i64 k) (.int .i64 k) = some true := by simp [Instr.sameNow]
theorem same_no {k j : Int} (h : k ≠ j) : Instr.sameNow (.int .i64) (.int .i64 k) (.int .i64 j) = some false := by simp [Instr.sameNow, h]
theorem mFind_I (k : Int) : ∀ l : List (Nat × Int × β), mFind (.int .i64 k) (encI enc l) = ((l.find? (fun x => x.2.1 == k)).map (·.2.2)).map enc
  | [] => rfl
  | (b, j, t) :: l => by
    have ih := mFind_I k l
    simp only [encI, List.map_cons, mFind, keyDesc, List.find?_cons] at ih ⊢
    by_cases e : j = k
    · subst e
      simp [same_yes]
    · rw [same_no (Ne.symm e), beq_eq_false_iff_ne.2 e]
      exact ih
theorem mFind_ok {f : Int → Option β} {ck : Nat} {l : List (Nat × Int × β)} (h : IMOk f ck l) (k : Int) : mFind (.int .i64 k) (encI enc l) = (f k).map enc := by rw [mFind_I, h.look]
def repl (k : Int) (v : β) (l : List (Nat × Int × β)) : List (Nat × Int × β) := l.map fun x => if x.2.1 = k then (x.1, k, v) else x
theorem mPut_I (k : Int) (v : β) (ck : Nat) : ∀ l : List (Nat × Int × β), (l.map (·.2.1)).Nodup → mPut (.int .i64 k) (enc v) ck (encI enc l) = if k ∈ l.map (·.2.1) then (encI enc (repl k v l), ck) else (encI enc (l ++ [(ck, k, v)]), ck + 1)
  | [], _ => rfl
  | (b, j, t) :: l, hn => by
    simp only [List.map_cons, List.nodup_cons] at hn
    have ih := mPut_I k v ck l hn.2
    simp only [encI, List.map_cons, mPut, keyDesc, List.cons_append] at ih ⊢
    by_cases e : j = k
    · subst e
      rw [same_yes, if_pos (by simp)]
      have : repl j v l = l := by
        unfold repl
        rw [List.map_congr_left (g := id), List.map_id]
        intro x hx
        rw [if_neg]; rfl
        rintro e
        exact hn.1 (e ▸ List.mem_map_of_mem hx)
      have h2 : repl j v ((b, j, t) :: l) = (b, j, v) :: l := by
        have : repl j v ((b, j, t) :: l) = (b, j, v) :: repl j v l := by simp [repl]
        rw [this]; congr 1
      rw [h2]; rfl
    · rw [same_no (Ne.symm e)]
      simp only [ih]
      by_cases hm : k ∈ l.map (·.2.1)
      · rw [if_pos hm, if_pos (by simp [hm])]
        have h2 : repl k v ((b, j, t) :: l) = (b, j, t) :: repl k v l := by simp [repl, e]
        rw [h2]; rfl
      · rw [if_neg hm, if_neg (by simp only [List.mem_cons, not_or]; exact ⟨Ne.symm e, hm⟩)]
theorem IMOk.put {f : Int → Option β} {ck : Nat} {l : List (Nat × Int × β)} (h : IMOk f ck l) (k : Int) (v : β) : ∃ ck' l', mPut (.int .i64 k) (enc v) ck (encI enc l) = (encI enc l', ck') ∧ IMOk (setF f k v) ck' l' := by
  rw [mPut_I enc k v ck l h.nk]
  by_cases hm : k ∈ l.map (·.2.1)
  · rw [if_pos hm]
    refine ⟨_, _, rfl, ?_, ?_, fun j => ?_, ?_⟩
    · intro x hx
      obtain ⟨y, hy, rfl⟩ := List.mem_map.1 hx
      have := h.born y hy
      split <;> exact this
    · have : (repl k v l).map (·.1) = l.map (·.1) := by
        simp only [repl, List.map_map]
        refine List.map_congr_left fun x _ => ?_
        simp only [Function.comp]; split <;> rfl
      rw [this]; exact h.nb
    · have key : ∀ l : List (Nat × Int × β), k ∈ l.map (·.2.1) → ((repl k v l).find? (fun x => x.2.1 == j)).map (·.2.2) = if k = j then some v else (l.find? (fun x => x.2.1 == j)).map (·.2.2) := by
        intro l
        induction l with
        | nil => intro h; simp at h
        | cons y l ih =>
          intro hm
          obtain ⟨b, i, t⟩ := y
          by_cases e : i = k
          · subst e
            have h2 : repl i v ((b, i, t) :: l) = (b, i, v) :: repl i v l := by simp [repl]
            rw [h2, List.find?_cons, List.find?_cons]
            by_cases e2 : i = j
            · subst e2; simp
            · simp only [beq_eq_false_iff_ne.2 e2, if_neg e2]
              by_cases hm2 : i ∈ l.map (·.2.1)
              · rw [ih hm2, if_neg e2]
              · have : repl i v l = l := by
                  unfold repl
                  rw [List.map_congr_left (g := id), List.map_id]
                  intro x hx
                  rw [if_neg]; rfl
                  rintro e
                  exact hm2 (e ▸ List.mem_map_of_mem hx)
                rw [this]
          · have h2 : repl k v ((b, i, t) :: l) = (b, i, t) :: repl k v l := by simp [repl, e]
            have hm2 : k ∈ l.map (·.2.1) := by
              rcases List.mem_cons.1 hm with h3 | h3
              · exact absurd h3.symm e
              · exact h3
            rw [h2, List.find?_cons, List.find?_cons]
            by_cases e2 : i = j
            · subst e2; simp [Ne.symm e]
            · simp only [beq_eq_false_iff_ne.2 e2]
              exact ih hm2
      rw [key l hm]
      unfold setF
      rw [h.look]
    · have : (repl k v l).map (·.2.1) = l.map (·.2.1) := by
        simp only [repl, List.map_map]
        refine List.map_congr_left fun x _ => ?_
        simp only [Function.comp]
        split
        · rename_i e; exact e.symm
        · rfl
      rw [this]; exact h.nk
  · rw [if_neg hm]
    refine ⟨_, _, rfl, ?_, ?_, fun j => ?_, ?_⟩
    · intro x hx
      rcases List.mem_append.1 hx with hx | hx
      · have := h.born x hx; omega
      · simp at hx; subst hx; exact Nat.lt_succ_self _
    · rw [List.map_append, List.nodup_append]
      refine ⟨h.nb, by simp, fun a ha b hb e => ?_⟩
      simp at hb
      obtain ⟨x, hx, rfl⟩ := List.mem_map.1 ha
      have := h.born x hx
      omega
    · rw [List.find?_append]
      unfold setF
      by_cases e : k = j
      · subst e
        rw [if_pos rfl, List.find?_eq_none.2 (fun x hx => by simp; rintro e; exact hm (e ▸ List.mem_map_of_mem hx))]
        simp
      · rw [if_neg e, ← h.look j]
        have : ((k : Int) == j) = false := beq_eq_false_iff_ne.2 e
        cases hf : l.find? (fun x => x.2.1 == j) with
        | none => simp [this]
        | some x => simp
    · rw [List.map_append, List.nodup_append]
      refine ⟨h.nk, by simp, fun a ha b hb e => ?_⟩
      simp at hb
      subst hb
      exact hm (e ▸ ha)
theorem ids_encI (henc : ∀ b p, (enc b).ids p) (p : Abs.Id → Prop) (ck : Nat) (l : List (Nat × Int × β)) : AObj.ids p (.map ck (encI enc l)) := by
  intro x hx
  simp only [encI, List.mem_map] at hx
  obtain ⟨y, _, rfl⟩ := hx
  exact henc _ _
/-- An entry put into a map. -/
theorem AOps.putI {E : Env} {ops : Array Oper} {rest : List Oper} {K : Cont} {o : Oper} {fr : Fr} {σ : St} {t kt et : TypeId} {x i y : Operand} {m : Abs.Id} {ck : Nat} {l : List (Nat × Int × β)} {f : Int → Option β} {k : Int} {v : β} (hgd : o.guard = none) (hd : o.dst = none) (ho : o.op = .mapUpdate t x i y) (hm : E.P.underlying t = some (.map kt et)) (hk : E.P.underlying kt = some (.int .i64))
    (hx : aEval E.Γ fr x = some (.one (.mp m))) (hg : σ.get m = some (.map ck (encI enc l))) (hu : aEval E.Γ fr i = some (.one (int k))) (hy : aEval E.Γ fr y = some (enc v)) (hf : IMOk f ck l)
    (h : ∀ ck' l', IMOk (setF f k v) ck' l' → AOps E ops rest K fr (σ.set m (.map ck' (encI enc l')))) : AOps E ops (o :: rest) K fr σ := by
  obtain ⟨ck', l', h1, h2⟩ := hf.put enc k v
  have hs := AStep.mapUpdate (σ := σ) ho hm hk hx hg hu hy rfl (keysI enc l)
  rw [h1] at hs
  have hrest := h ck' l' h2
  exact AOps.step hgd (by rw [hd]; rfl) hs (by rw [hd]; exact hrest)
/-- A look into a map. -/
theorem AStep.lookI {E : Env} {o : Oper} {fr : Fr} {σ : St} {t kt et : TypeId} {x i : Operand} {m : Abs.Id} {ck : Nat} {l : List (Nat × Int × β)} {f : Int → Option β} {k : Int} {zv : Value} {z v : FV} {cm : Bool} (ho : o.op = .lookup t x i cm) (hm : E.P.underlying t = some (.map kt et)) (hk : E.P.underlying kt = some (.int .i64))
    (hx : aEval E.Γ fr x = some (.one (.mp m))) (hg : σ.get m = some (.map ck (encI enc l))) (hu : aEval E.Γ fr i = some (.one (int k))) (hzv : (E.P.info? et).map (·.zero) = some (some zv)) (hz : ∀ w C, RF w C z zv) (hf : IMOk f ck l) (hv : (match f k with | some b => enc b | none => z) = v) :
    AStep E o fr σ (if cm = true then .tup [v, .one (.lit (.bool (f k).isSome))] else v) σ := by
  have h := AStep.lookupZ (z := z) (v := v) ho hm hk hx hg hu rfl (keysI enc l) hzv hz (by
    rw [mFind_ok enc hf, ← hv]
    cases f k <;> rfl)
  rw [mFind_ok enc hf] at h
  have e : ((f k).map enc).isSome = (f k).isSome := by cases f k <;> rfl
  rw [e] at h
  exact h
end
def eU : Unit → FV := fun _ => .agg []
def eN : Int → FV := fun n => .one (int n)
theorem eU_ids (b : Unit) (p : Abs.Id → Prop) : (eU b).ids p := by simp [eU]
theorem eN_ids (b : Int) (p : Abs.Id → Prop) : (eN b).ids p := by simp [eN]
@[simp] theorem ids_mapU (p : Abs.Id → Prop) (ck : Nat) (l : List (Nat × Int × Unit)) : AObj.ids p (.map ck (encI eU l)) := ids_encI eU eU_ids p ck l
@[simp] theorem ids_mapN (p : Abs.Id → Prop) (ck : Nat) (l : List (Nat × Int × Int)) : AObj.ids p (.map ck (encI eN l)) := ids_encI eN eN_ids p ck l
def hasE {β : Type} (l : List (Nat × Int × β)) (a : Nat) (k : Value) (v : β) : Prop := ∃ x ∈ l, x.1 = a ∧ .int .i64 x.2.1 = k ∧ x.2.2 = v
@[simp] theorem mem_encU (a : Nat) (k : Value) (b : FV) (l : List (Nat × Int × Unit)) : (a, k, b) ∈ encI eU l ↔ b = .agg [] ∧ hasE l a k () := by
  simp only [encI, eU, List.mem_map, Prod.mk.injEq]
  exact ⟨fun ⟨x, h1, h2, h3, h4⟩ => ⟨h4.symm, ⟨x, h1, h2, h3, rfl⟩⟩, fun ⟨h4, ⟨x, h1, h2, h3, _⟩⟩ => ⟨x, h1, h2, h3, h4.symm⟩⟩
@[simp] theorem mem_encN (a : Nat) (k : Value) (b : FV) (l : List (Nat × Int × Int)) : (a, k, b) ∈ encI eN l ↔ ∃ v, hasE l a k v ∧ .one (int v) = b := by
  simp only [encI, eN, List.mem_map, Prod.mk.injEq]
  exact ⟨fun ⟨x, h1, h2, h3, h4⟩ => ⟨_, ⟨x, h1, h2, h3, rfl⟩, h4⟩, fun ⟨v, ⟨x, h1, h2, h3, h5⟩, h4⟩ => ⟨x, h1, h2, h3, by rw [h5]; exact h4⟩⟩
@[simp] theorem ren_mapU (ρ : Nat → Nat) (ck : Nat) (l : List (Nat × Int × Unit)) : AObj.ren ρ (.map ck (encI eU l)) = .map ck (encI eU l) := AObj.ren_pure _ _ (ids_mapU _ ck l)
@[simp] theorem ren_mapN (ρ : Nat → Nat) (ck : Nat) (l : List (Nat × Int × Int)) : AObj.ren ρ (.map ck (encI eN l)) = .map ck (encI eN l) := AObj.ren_pure _ _ (ids_mapN _ ck l)
theorem zeroU (w : World) (C : Ctx) : RF w C (.agg []) (.agg #[]) := ⟨[], rfl, rfl⟩
theorem zeroN (w : World) (C : Ctx) : RF w C (.one (int 0)) (.int .i64 0) := by simp [RF, R, Value.oneCell']
end Go.Proofs.YtnonkoeknpmcjaaDoor
