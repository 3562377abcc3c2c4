/- Clone told with its room, and Insert, walked. -/
import Derived.Test.YtoojdmgbffnmiaaDoorB12
namespace Go.Abs
set_option linter.unusedVariables false
/-- A part of nothing. -/
theorem AStep.sliceNil {E : Env} {o : Oper} {fr : Fr} {σ : St} {t : TypeId} {ti tj : TI} {x lo : Operand} {k : IntKind} (hT : TabOk E.P E.T) (ho : o.op = .slice t x (some lo) none none) (ht : Tab.get t E.T = some ti) (hk : Nat.beq ti.kind 2 = true) (hj : Tab.get ti.elem E.T = some tj)
    (hx : aEval E.Γ fr x = some (.one (.lit (.slice none 0 0)))) (hlo : aEval E.Γ fr lo = some (.one (.lit (.int k 0)))) : AStep E o fr σ (.one (.lit (.slice none 0 0))) σ := by
  refine AStep.quiet fun F w C tmps hin hf => ⟨.slice none 0 0, ?_, rfl, rfl⟩
  have e1 := aEval_ok (a := ⟨tmps, []⟩) hin hf hx
  have e2 := aEval_ok (a := ⟨tmps, []⟩) hin hf hlo
  simp only [RF, R] at e1 e2
  have hu := (hT t ti ht).slice (Nat.eq_of_beq_eq_true hk)
  have hsz := (hT _ _ hj).run_sizeOf (w := w)
  unfold execOp
  simp [ho, e1.1, e2.1, Instr.sliceAt, Instr.slice, run_underlying hu, hsz, Instr.sliceBounds, Instr.sliceBound, asIntOf, Result.andThen]
/-- The room of an own array. -/
theorem AStep.capArr {E : Env} {o : Oper} {fr : Fr} {σ : St} {t : TypeId} {ti : TI} {x : Operand} {i : Id} {s off m c : Nat} (hT : TabOk E.P E.T) (ho : o.op = .call { callee := .builtin .cap, args := #[x], argTypes := #[t] }) (ht : Tab.get t E.T = some ti) (hk : Nat.beq ti.kind 2 = true) (hx : aEval E.Γ fr x = some (.one (.arr i s off m c))) : AStep E o fr σ (.one (.lit (.int .i64 c))) σ := by
  refine AStep.quiet fun F w C tmps hin hf => ⟨.int .i64 c, ?_, rfl, rfl⟩
  have e1 := aEval_ok (a := ⟨tmps, []⟩) hin hf hx
  have hu := (hT t ti ht).slice (Nat.eq_of_beq_eq_true hk)
  simp only [RF, R] at e1
  unfold execOp
  simp [ho, resolve, invoke, builtin, e1.2.1, Builtin.cap_, run_underlying hu, goInt, Result.andThen]
end Go.Abs
namespace Go.Proofs.YtoojdmgbffnmiaaDoor
open Go Go.Abs
set_option maxRecDepth 10000
set_option linter.unusedVariables false
set_option linter.unusedSimpArgs false
variable {Γ : List (Nat × List AC)}
def CloneQ2 (s : Nat) (es : List (List AC)) (ou : Outer) (r : FV) (ou' : Outer) : Prop :=
  (es = [] ∧ r = .one (.lit (.slice none 0 0)) ∧ ou' = ou) ∨ ∃ k cap, ou k = none ∧ es.length ≤ cap ∧ r = .one (.arr (.o k) s 0 es.length cap) ∧ ou' = updO ou k (.cells (vec s es cap))
theorem CloneV2_ok (hΓ : ∀ g cs, (g, cs) ∈ Γ → idsL isO cs) (l : List VSig) (hl : l.length ≤ 1048576) (ou : Outer) : AFn Tryd.prog Γ 25 [.one (.sl 7 (l.map cVal))] ou (CloneQ2 7 (l.map cVal) ou) := by
  refine AFn.walk 8 tabOk Tryd.func25 rfl (by kernel_rfl) rfl rfl fun hou => ?_
  repeat first | (with_reducible refine oj ?_; refine AOps.auto tabOk rfl ?_) | (with_reducible first | refine o1 ?_ | refine o2 ?_ | refine o3 ?_ | refine o4 ?_ | refine o5 ?_ | refine o6 ?_ | refine o7 ?_ | refine o8 ?_ | refine o9 ?_ | refine oa ?_ | refine ob ?_ | refine oc ?_ | refine od ?_ | refine oe ?_ | refine og ?_ | refine oh ?_ | refine oi ?_) | (with_reducible refine cExitMiss ?_ ?_; rfl) | (with_reducible refine ok ?_; first | refine ACode.condT rfl ?_ | refine ACode.condF rfl ?_)
  refine AOps.nilTest rfl rfl rfl rfl Tryd.underlying23 rfl rfl fun b hb => ?_
  cases b with
  | true =>
    have hz : l = [] := by have := hb rfl; simpa using this
    subst hz
    repeat first | (with_reducible refine oj ?_; refine AOps.auto tabOk rfl ?_) | (with_reducible first | refine o1 ?_ | refine o2 ?_ | refine o3 ?_ | refine o4 ?_ | refine o5 ?_ | refine o6 ?_ | refine o7 ?_ | refine o8 ?_ | refine o9 ?_ | refine oa ?_ | refine ob ?_ | refine oc ?_ | refine od ?_ | refine oe ?_ | refine og ?_ | refine oh ?_ | refine oi ?_) | (with_reducible refine cExitMiss ?_ ?_; rfl) | (with_reducible refine ok ?_; first | refine ACode.condT rfl ?_ | refine ACode.condF rfl ?_)
    exact AFn.fin' rfl (.refl _) (by simp) hou (.inl ⟨rfl, rfl, rfl⟩)
  | false =>
    repeat first | (with_reducible refine oj ?_; refine AOps.auto tabOk rfl ?_) | (with_reducible first | refine o1 ?_ | refine o2 ?_ | refine o3 ?_ | refine o4 ?_ | refine o5 ?_ | refine o6 ?_ | refine o7 ?_ | refine o8 ?_ | refine o9 ?_ | refine oa ?_ | refine ob ?_ | refine oc ?_ | refine od ?_ | refine oe ?_ | refine og ?_ | refine oh ?_ | refine oi ?_) | (with_reducible refine cExitMiss ?_ ?_; rfl) | (with_reducible refine ok ?_; first | refine ACode.condT rfl ?_ | refine ACode.condF rfl ?_)
    refine AOps.step1 rfl rfl rfl (AStep.buildOwn0 tabOk rfl rfl rfl rfl rfl) ?_
    repeat first | (with_reducible refine oj ?_; refine AOps.auto tabOk rfl ?_) | (with_reducible first | refine o1 ?_ | refine o2 ?_ | refine o3 ?_ | refine o4 ?_ | refine o5 ?_ | refine o6 ?_ | refine o7 ?_ | refine o8 ?_ | refine o9 ?_ | refine oa ?_ | refine ob ?_ | refine oc ?_ | refine od ?_ | refine oe ?_ | refine og ?_ | refine oh ?_ | refine oi ?_) | (with_reducible refine cExitMiss ?_ ?_; rfl) | (with_reducible refine ok ?_; first | refine ACode.condT rfl ?_ | refine ACode.condF rfl ?_)
    by_cases hz : l = []
    · subst hz
      refine AOps.step1 rfl rfl rfl (AStep.appNone tabOk rfl rfl rfl rfl rfl rfl) ?_
      refine AOps.cede 0 (show 0 < 1 by omega) fun k hk => ⟨[(7, .one (.arr (.o k) 7 0 0 0))], ⟨1, [], updO ou k (.cells (vec 7 [] 0))⟩, ⟨CedFr.get (.cons rfl rfl .nil), rfl, fun i x hx => ?_⟩, ?_⟩
      · have hk : ou k = none := hk
        cases i with
        | l m => cases hx
        | o m =>
          have hx' : updO ou k (.cells (vec 7 [] 0)) m = some x := hx
          by_cases e : k = m
          · subst e; rw [updO_same] at hx'; cases hx'
            exact ⟨.l 0, _, rfl, rfl, (AObj.sub_o _ (vecO_ids _ (by simp))).symm⟩
          · rw [updO_ne _ e] at hx'
            exact ⟨.o m, x, hx', rfl, (AObj.sub_o x (hou m x hx')).symm⟩
      repeat first | (with_reducible refine oj ?_; refine AOps.auto tabOk rfl ?_) | (with_reducible first | refine o1 ?_ | refine o2 ?_ | refine o3 ?_ | refine o4 ?_ | refine o5 ?_ | refine o6 ?_ | refine o7 ?_ | refine o8 ?_ | refine o9 ?_ | refine oa ?_ | refine ob ?_ | refine oc ?_ | refine od ?_ | refine oe ?_ | refine og ?_ | refine oh ?_ | refine oi ?_) | (with_reducible refine cExitMiss ?_ ?_; rfl) | (with_reducible refine ok ?_; first | refine ACode.condT rfl ?_ | refine ACode.condF rfl ?_)
      exact AFn.fin' rfl (.refl _) (by simp) (updO_ok hou (vecO_ids _ (by simp))) (.inr ⟨k, 0, hk, by simp, rfl, rfl⟩)
    · refine AOps.appOwn tabOk rfl rfl rfl rfl rfl rfl rfl rfl rfl (.own 7 0 [] (.l 0) rfl (by simp) (by simp)) (.sl 7 (l.map cVal)) (by simpa using hz) rfl (by simp; show _ * 104 ≤ _; omega) (by simp; omega) fun cap hc => ?_
      refine AOps.cede 1 (show 1 < 2 by omega) fun k hk => ⟨[(7, .one (.arr (.o k) 7 0 (l.map cVal).length cap))], ⟨2, [], updO ou k (.cells (vec 7 (l.map cVal) cap))⟩, ⟨CedFr.get (.cons rfl rfl .nil), rfl, fun i x hx => ?_⟩, ?_⟩
      · have hk : ou k = none := hk
        cases i with
        | l m => cases hx
        | o m =>
          have hx' : updO ou k (.cells (vec 7 (l.map cVal) cap)) m = some x := hx
          by_cases e : k = m
          · subst e; rw [updO_same] at hx'; cases hx'
            exact ⟨.l 1, _, rfl, rfl, (AObj.sub_o _ (vecO_ids _ (by simp))).symm⟩
          · rw [updO_ne _ e] at hx'
            exact ⟨.o m, x, hx', rfl, (AObj.sub_o x (hou m x hx')).symm⟩
      repeat first | (with_reducible refine oj ?_; refine AOps.auto tabOk rfl ?_) | (with_reducible first | refine o1 ?_ | refine o2 ?_ | refine o3 ?_ | refine o4 ?_ | refine o5 ?_ | refine o6 ?_ | refine o7 ?_ | refine o8 ?_ | refine o9 ?_ | refine oa ?_ | refine ob ?_ | refine oc ?_ | refine od ?_ | refine oe ?_ | refine og ?_ | refine oh ?_ | refine oi ?_) | (with_reducible refine cExitMiss ?_ ?_; rfl) | (with_reducible refine ok ?_; first | refine ACode.condT rfl ?_ | refine ACode.condF rfl ?_)
      exact AFn.fin' rfl (.refl _) (by simp) (updO_ok hou (vecO_ids _ (by simp))) (.inr ⟨k, cap, hk, by simpa using hc, rfl, rfl⟩)
/-- An element put into a list. -/
def putAt {α : Type} (l : List α) (i : Nat) (v : α) : List α := l.take i ++ [v] ++ l.drop i
def InsQ (own : Nat → Prop) (es' : List (List AC)) (ou : Outer) (r : FV) (ou' : Outer) : Prop :=
  ∃ k' cap', es'.length ≤ cap' ∧ r = .one (.arr (.o k') 7 0 es'.length cap') ∧ ou' k' = some (.cells (vec 7 es' cap')) ∧ (own k' ∨ ou k' = none) ∧ ∀ m, ¬ own m → m ≠ k' → ou' m = ou m
theorem InsertNil_ok (hΓ : ∀ g cs, (g, cs) ∈ Γ → idsL isO cs) (v : VSig) (ou : Outer) : AFn Tryd.prog Γ 28 [.one (.lit (.slice none 0 0)), .one (int 0), .one (.sl 7 [cVal v])] ou (InsQ (fun _ => False) [cVal v] ou) := by
  refine AFn.walk 95 tabOk Tryd.func28 rfl (by kernel_rfl) rfl rfl fun hou => ?_
  repeat first | (with_reducible refine oj ?_; refine AOps.auto tabOk rfl ?_) | (with_reducible first | refine o1 ?_ | refine o2 ?_ | refine o3 ?_ | refine o4 ?_ | refine o5 ?_ | refine o6 ?_ | refine o7 ?_ | refine o8 ?_ | refine o9 ?_ | refine oa ?_ | refine ob ?_ | refine oc ?_ | refine od ?_ | refine oe ?_ | refine og ?_ | refine oh ?_ | refine oi ?_) | (with_reducible refine cExitMiss ?_ ?_; rfl) | (with_reducible refine ok ?_; first | refine ACode.condT rfl ?_ | refine ACode.condF rfl ?_)
  refine AOps.step1 rfl rfl rfl (AStep.sliceNil tabOk rfl rfl rfl rfl rfl rfl) ?_
  repeat first | (with_reducible refine oj ?_; refine AOps.auto tabOk rfl ?_) | (with_reducible first | refine o1 ?_ | refine o2 ?_ | refine o3 ?_ | refine o4 ?_ | refine o5 ?_ | refine o6 ?_ | refine o7 ?_ | refine o8 ?_ | refine o9 ?_ | refine oa ?_ | refine ob ?_ | refine oc ?_ | refine od ?_ | refine oe ?_ | refine og ?_ | refine oh ?_ | refine oi ?_) | (with_reducible refine cExitMiss ?_ ?_; rfl) | (with_reducible refine ok ?_; first | refine ACode.condT rfl ?_ | refine ACode.condF rfl ?_)
  refine AOps.appOwn (σ1 := ⟨0, [], ou⟩) tabOk rfl rfl rfl rfl rfl rfl rfl rfl rfl (.nil 7) (.sl 7 [cVal v]) (by simp) rfl (by simp; show 1 * 104 ≤ _; omega) (by simp) fun cap hc => ?_
  refine AOps.cede 0 (show 0 < 1 by omega) fun k hk => ⟨[(25, .one (.arr (.o k) 7 0 1 cap))], ⟨1, [], updO ou k (.cells (vec 7 [cVal v] cap))⟩, ⟨CedFr.get (.cons rfl rfl .nil), rfl, fun i x hx => ?_⟩, ?_⟩
  · have hk : ou k = none := hk
    cases i with
    | l m => cases hx
    | o m =>
      have hx' : updO ou k (.cells (vec 7 [cVal v] cap)) m = some x := hx
      by_cases e : k = m
      · subst e; rw [updO_same] at hx'; cases hx'
        exact ⟨.l 0, _, rfl, rfl, (AObj.sub_o _ (vecO_ids _ (by simp))).symm⟩
      · rw [updO_ne _ e] at hx'
        exact ⟨.o m, x, hx', rfl, (AObj.sub_o x (hou m x hx')).symm⟩
  repeat first | (with_reducible refine oj ?_; refine AOps.auto tabOk rfl ?_) | (with_reducible first | refine o1 ?_ | refine o2 ?_ | refine o3 ?_ | refine o4 ?_ | refine o5 ?_ | refine o6 ?_ | refine o7 ?_ | refine o8 ?_ | refine o9 ?_ | refine oa ?_ | refine ob ?_ | refine oc ?_ | refine od ?_ | refine oe ?_ | refine og ?_ | refine oh ?_ | refine oi ?_) | (with_reducible refine cExitMiss ?_ ?_; rfl) | (with_reducible refine ok ?_; first | refine ACode.condT rfl ?_ | refine ACode.condF rfl ?_)
  exact AFn.fin' rfl (.refl _) (by simp) (updO_ok hou (vecO_ids _ (by simp))) ⟨k, cap, by simpa using hc, rfl, updO_same _ _ _, .inr hk, fun m _ h => by show updO ou k _ m = ou m; exact updO_ne _ (fun e => h e.symm) _⟩
theorem run_over (us : Array Value) (v : Value) (w : World) (h : (Extern.SlicesOverlaps.overlaps #[23, 23] #[4] us).run Tryd.prog w = .ok v w) : (callFunc 49 us).run Tryd.prog w = .ok (.value v) w := by
  rw [run_callFunc_extern Tryd.func49 (by kernel_rfl) (by kernel_rfl) (by kernel_rfl) (e := Extern.SlicesOverlaps.overlaps #[23, 23] #[4]) (by kernel_rfl), h]
  rfl
theorem InsertV_ok (hΓ : ∀ g cs, (g, cs) ∈ Γ → idsL isO cs) (v : VSig) (es : List (List AC)) (hes : ∀ x ∈ es, x.length = 7) (hids : ∀ p : Abs.Id → Prop, idsS p es) (hl : es.length ≤ 1048576) (i : Nat) (hi : i ≤ es.length) (ou : Outer) (k cap : Nat) (hc : es.length ≤ cap) (hk : ou k = some (.cells (vec 7 es cap))) :
    AFn Tryd.prog Γ 28 [.one (.arr (.o k) 7 0 es.length cap), .one (int i), .one (.sl 7 [cVal v])] ou (InsQ (fun m => m = k) (putAt es i (cVal v)) ou) := by
  have hpl : (putAt es i (cVal v)).length = es.length + 1 := by unfold putAt; simp; omega
  have hpe : ∀ x ∈ putAt es i (cVal v), x.length = 7 := fun x hx => by
    unfold putAt at hx
    simp only [List.mem_append, List.mem_singleton] at hx
    rcases hx with (hx | rfl) | hx
    · exact hes x (List.mem_of_mem_take hx)
    · exact cVal_l7 v
    · exact hes x (List.mem_of_mem_drop hx)
  have hpi : ∀ p : Abs.Id → Prop, idsS p (putAt es i (cVal v)) := fun p => idsS_iff.2 fun x hx => by
    unfold putAt at hx
    simp only [List.mem_append, List.mem_singleton] at hx
    rcases hx with (hx | rfl) | hx
    · exact idsS_iff.1 (hids p) x (List.mem_of_mem_take hx)
    · simp
    · exact idsS_iff.1 (hids p) x (List.mem_of_mem_drop hx)
  refine AFn.walk 95 tabOk Tryd.func28 rfl (by kernel_rfl) rfl rfl fun hou => ?_
  repeat first | (with_reducible refine oj ?_; refine AOps.auto tabOk rfl ?_) | (with_reducible first | refine o1 ?_ | refine o2 ?_ | refine o3 ?_ | refine o4 ?_ | refine o5 ?_ | refine o6 ?_ | refine o7 ?_ | refine o8 ?_ | refine o9 ?_ | refine oa ?_ | refine ob ?_ | refine oc ?_ | refine od ?_ | refine oe ?_ | refine og ?_ | refine oh ?_ | refine oi ?_) | (with_reducible refine cExitMiss ?_ ?_; rfl) | (with_reducible refine ok ?_; first | refine ACode.condT rfl ?_ | refine ACode.condF rfl ?_)
  refine AOps.step1 rfl rfl rfl (AStep.sliceOwn (a := i) (b := es.length) (c := cap) tabOk rfl rfl rfl rfl rfl rfl ⟨_, rfl⟩ rfl rfl (fun h => h) (by omega) (by omega) (by omega)) ?_
  repeat first | (with_reducible refine oj ?_; refine AOps.auto tabOk rfl ?_) | (with_reducible first | refine o1 ?_ | refine o2 ?_ | refine o3 ?_ | refine o4 ?_ | refine o5 ?_ | refine o6 ?_ | refine o7 ?_ | refine o8 ?_ | refine o9 ?_ | refine oa ?_ | refine ob ?_ | refine oc ?_ | refine od ?_ | refine oe ?_ | refine og ?_ | refine oh ?_ | refine oi ?_) | (with_reducible refine cExitMiss ?_ ?_; rfl) | (with_reducible refine ok ?_; first | refine ACode.condT rfl ?_ | refine ACode.condF rfl ?_)
  refine ACode.wk 7 rfl (y := .one (int 1)) (.ofEq rfl) ?_
  refine ACode.cond rfl (fun hb => ?_) (fun hb => ?_)
  · have hin : i = es.length := by simp at hb; omega
    have hput : putAt es i (cVal v) = es ++ [cVal v] := by unfold putAt; rw [hin]; simp
    rw [hput] at hpl hpe hpi ⊢
    repeat first | (with_reducible refine oj ?_; refine AOps.auto tabOk rfl ?_) | (with_reducible first | refine o1 ?_ | refine o2 ?_ | refine o3 ?_ | refine o4 ?_ | refine o5 ?_ | refine o6 ?_ | refine o7 ?_ | refine o8 ?_ | refine o9 ?_ | refine oa ?_ | refine ob ?_ | refine oc ?_ | refine od ?_ | refine oe ?_ | refine og ?_ | refine oh ?_ | refine oi ?_) | (with_reducible refine cExitMiss ?_ ?_; rfl) | (with_reducible refine ok ?_; first | refine ACode.condT rfl ?_ | refine ACode.condF rfl ?_)
    refine AOps.appOwn (σ1 := St.set ⟨0, [], ou⟩ (.o k) .dead) tabOk rfl rfl rfl rfl rfl rfl rfl rfl rfl (.own 7 cap es (.o k) hk hes hc) (.sl 7 [cVal v]) (by simp) rfl (by simp; show _ * 104 ≤ _; omega) (by simp; omega) fun cap' hc' => ?_
    rw [setO_eq]
    refine AOps.cede 0 (show 0 < 1 by omega) fun k' hk' => ⟨[(25, .one (.arr (.o k') 7 0 (es ++ [cVal v]).length cap'))], ⟨1, [], updO (updO ou k .dead) k' (.cells (vec 7 (es ++ [cVal v]) cap'))⟩, ⟨CedFr.get (.cons rfl rfl .nil), rfl, fun q x hx => ?_⟩, ?_⟩
    · cases q with
      | l m => cases hx
      | o m =>
        have hx' : updO (updO ou k .dead) k' (.cells (vec 7 (es ++ [cVal v]) cap')) m = some x := hx
        by_cases e : k' = m
        · subst e; rw [updO_same] at hx'; cases hx'
          exact ⟨.l 0, _, rfl, rfl, (AObj.sub_o _ (vecO_ids _ (hpi _))).symm⟩
        · rw [updO_ne _ e] at hx'
          exact ⟨.o m, x, hx', rfl, (AObj.sub_o x (updO_ok hou (o := .dead) trivial m x hx')).symm⟩
    have hkk : k ≠ k' := fun e => by
      subst e
      have h1 : updO ou k .dead k = none := hk'
      rw [updO_same] at h1; cases h1
    have hk2 : ou k' = none := by
      have h1 : updO ou k .dead k' = none := hk'
      rwa [updO_ne _ hkk] at h1
    repeat first | (with_reducible refine oj ?_; refine AOps.auto tabOk rfl ?_) | (with_reducible first | refine o1 ?_ | refine o2 ?_ | refine o3 ?_ | refine o4 ?_ | refine o5 ?_ | refine o6 ?_ | refine o7 ?_ | refine o8 ?_ | refine o9 ?_ | refine oa ?_ | refine ob ?_ | refine oc ?_ | refine od ?_ | refine oe ?_ | refine og ?_ | refine oh ?_ | refine oi ?_) | (with_reducible refine cExitMiss ?_ ?_; rfl) | (with_reducible refine ok ?_; first | refine ACode.condT rfl ?_ | refine ACode.condF rfl ?_)
    refine AFn.fin' rfl (.refl _) (by simp) (updO_ok (updO_ok hou trivial) (vecO_ids _ (hpi _))) ⟨k', cap', by simpa using hc', rfl, updO_same _ _ _, .inr hk2, fun m h1 h => ?_⟩
    show updO (updO ou k .dead) k' _ m = ou m
    rw [updO_ne _ (fun e => h e.symm), updO_ne _ (fun e => h1 e.symm)]
  · have hin : i < es.length := by simp at hb; omega
    repeat first | (with_reducible refine oj ?_; refine AOps.auto tabOk rfl ?_) | (with_reducible first | refine o1 ?_ | refine o2 ?_ | refine o3 ?_ | refine o4 ?_ | refine o5 ?_ | refine o6 ?_ | refine o7 ?_ | refine o8 ?_ | refine o9 ?_ | refine oa ?_ | refine ob ?_ | refine oc ?_ | refine od ?_ | refine oe ?_ | refine og ?_ | refine oh ?_ | refine oi ?_) | (with_reducible refine cExitMiss ?_ ?_; rfl) | (with_reducible refine ok ?_; first | refine ACode.condT rfl ?_ | refine ACode.condF rfl ?_)
    refine AOps.step1 rfl rfl rfl (AStep.arith rfl rfl rfl (.inl ⟨rfl, rfl⟩) (inRange_i64 (by omega) (by omega))) ?_
    repeat first | (with_reducible refine oj ?_; refine AOps.auto tabOk rfl ?_) | (with_reducible first | refine o1 ?_ | refine o2 ?_ | refine o3 ?_ | refine o4 ?_ | refine o5 ?_ | refine o6 ?_ | refine o7 ?_ | refine o8 ?_ | refine o9 ?_ | refine oa ?_ | refine ob ?_ | refine oc ?_ | refine od ?_ | refine oe ?_ | refine og ?_ | refine oh ?_ | refine oi ?_) | (with_reducible refine cExitMiss ?_ ?_; rfl) | (with_reducible refine ok ?_; first | refine ACode.condT rfl ?_ | refine ACode.condF rfl ?_)
    refine AOps.step1 rfl rfl rfl (AStep.capArr tabOk rfl rfl rfl rfl) ?_
    repeat first | (with_reducible refine oj ?_; refine AOps.auto tabOk rfl ?_) | (with_reducible first | refine o1 ?_ | refine o2 ?_ | refine o3 ?_ | refine o4 ?_ | refine o5 ?_ | refine o6 ?_ | refine o7 ?_ | refine o8 ?_ | refine o9 ?_ | refine oa ?_ | refine ob ?_ | refine oc ?_ | refine od ?_ | refine oe ?_ | refine og ?_ | refine oh ?_ | refine oi ?_) | (with_reducible refine cExitMiss ?_ ?_; rfl) | (with_reducible refine ok ?_; first | refine ACode.condT rfl ?_ | refine ACode.condF rfl ?_)
    refine ACode.cond rfl (fun hb2 => ?_) (fun hb2 => ?_)
    · have hgr : cap < es.length + 1 := by simp at hb2; omega
      clear hb hb2
      repeat first | (with_reducible refine oj ?_; refine AOps.auto tabOk rfl ?_) | (with_reducible first | refine o1 ?_ | refine o2 ?_ | refine o3 ?_ | refine o4 ?_ | refine o5 ?_ | refine o6 ?_ | refine o7 ?_ | refine o8 ?_ | refine o9 ?_ | refine oa ?_ | refine ob ?_ | refine oc ?_ | refine od ?_ | refine oe ?_ | refine og ?_ | refine oh ?_ | refine oi ?_) | (with_reducible refine cExitMiss ?_ ?_; rfl) | (with_reducible refine ok ?_; first | refine ACode.condT rfl ?_ | refine ACode.condF rfl ?_)
      refine AOps.step1 rfl rfl rfl (AStep.sliceOwn' (a := 0) (b := i) (c := cap) (off' := 0) (m' := i) (c' := cap) tabOk rfl rfl rfl rfl rfl rfl rfl ⟨_, rfl⟩ rfl (fun h => by cases h) (by omega) (by omega) (by omega) (by simp) (by omega) (by omega)) ?_
      repeat first | (with_reducible refine oj ?_; refine AOps.auto tabOk rfl ?_) | (with_reducible first | refine o1 ?_ | refine o2 ?_ | refine o3 ?_ | refine o4 ?_ | refine o5 ?_ | refine o6 ?_ | refine o7 ?_ | refine o8 ?_ | refine o9 ?_ | refine oa ?_ | refine ob ?_ | refine oc ?_ | refine od ?_ | refine oe ?_ | refine og ?_ | refine oh ?_ | refine oi ?_) | (with_reducible refine cExitMiss ?_ ?_; rfl) | (with_reducible refine ok ?_; first | refine ACode.condT rfl ?_ | refine ACode.condF rfl ?_)
      refine AOps.step1 rfl rfl rfl (AStep.arith rfl rfl rfl (.inl ⟨rfl, rfl⟩) (inRange_i64 (by omega) (by omega))) ?_
      repeat first | (with_reducible refine oj ?_; refine AOps.auto tabOk rfl ?_) | (with_reducible first | refine o1 ?_ | refine o2 ?_ | refine o3 ?_ | refine o4 ?_ | refine o5 ?_ | refine o6 ?_ | refine o7 ?_ | refine o8 ?_ | refine o9 ?_ | refine oa ?_ | refine ob ?_ | refine oc ?_ | refine od ?_ | refine oe ?_ | refine og ?_ | refine oh ?_ | refine oi ?_) | (with_reducible refine cExitMiss ?_ ?_; rfl) | (with_reducible refine ok ?_; first | refine ACode.condT rfl ?_ | refine ACode.condF rfl ?_)
      refine AOps.step1 rfl rfl rfl (AStep.arith rfl rfl rfl (.inr (.inl ⟨rfl, rfl⟩)) (inRange_i64 (by omega) (by omega))) ?_
      refine AOps.wk 39 rfl (y := .one (int ((es.length + 1 - i : Nat) : Int))) (.ofEq (by rw [show ((es.length + 1 - i : Nat) : Int) = (es.length : Int) + 1 - i by omega])) ?_
      refine AOps.stepR rfl rfl rfl (AStepR.appZeros (m := es.length + 1 - i) (a := i) (es := es) tabOk rfl rfl rfl rfl rfl Tryd.underlying3 rfl rfl hk hes hc hi (by omega) (by omega) (by show _ * 104 ≤ _; omega) (by omega)) ?_
      rintro _ _ ⟨capn, hcn, rfl, rfl⟩
      have hcn' : es.length + 1 ≤ capn := by omega
      refine AOps.wk 40 rfl (y := .one (.arr (.l 0) 7 0 (es.length + 1) capn)) (.ofEq (by rw [show i + (es.length + 1 - i) = es.length + 1 by omega])) ?_
      repeat first | (with_reducible refine oj ?_; refine AOps.auto tabOk rfl ?_) | (with_reducible first | refine o1 ?_ | refine o2 ?_ | refine o3 ?_ | refine o4 ?_ | refine o5 ?_ | refine o6 ?_ | refine o7 ?_ | refine o8 ?_ | refine o9 ?_ | refine oa ?_ | refine ob ?_ | refine oc ?_ | refine od ?_ | refine oe ?_ | refine og ?_ | refine oh ?_ | refine oi ?_) | (with_reducible refine cExitMiss ?_ ?_; rfl) | (with_reducible refine ok ?_; first | refine ACode.condT rfl ?_ | refine ACode.condF rfl ?_)
      have htl : (es.take i).length = i := by simp; omega
      have hte : ∀ x ∈ es.take i, x.length = 7 := fun x hx => hes x (List.mem_of_mem_take hx)
      have h1e : ∀ x ∈ es.take i ++ [cVal v], x.length = 7 := fun x hx => by
        rcases List.mem_append.1 hx with h | h
        · exact hte x h
        · rw [List.mem_singleton.1 h]; exact cVal_l7 v
      refine AOps.step1 rfl rfl rfl (AStep.sliceOwn' (a := i) (b := es.length + 1) (c := capn) (off' := i) (m' := es.length + 1 - i) (c' := capn - i) tabOk rfl rfl rfl rfl rfl rfl ⟨_, rfl⟩ rfl rfl (fun h => by cases h) (by omega) (by omega) (by omega) (by rw [if_neg (by omega)]) rfl rfl) ?_
      repeat first | (with_reducible refine oj ?_; refine AOps.auto tabOk rfl ?_) | (with_reducible first | refine o1 ?_ | refine o2 ?_ | refine o3 ?_ | refine o4 ?_ | refine o5 ?_ | refine o6 ?_ | refine o7 ?_ | refine o8 ?_ | refine o9 ?_ | refine oa ?_ | refine ob ?_ | refine oc ?_ | refine od ?_ | refine oe ?_ | refine og ?_ | refine oh ?_ | refine oi ?_) | (with_reducible refine cExitMiss ?_ ?_; rfl) | (with_reducible refine ok ?_; first | refine ACode.condT rfl ?_ | refine ACode.condF rfl ?_)
      refine AOps.step1 rfl rfl rfl (AStep.copySl (es := es.take i) (news := [cVal v]) (es' := es.take i ++ [cVal v]) tabOk rfl rfl rfl rfl rfl rfl rfl (.sl 7 _) (by simp) rfl hte (by omega) (by omega) (by simp; omega) (by simp; omega) (by rw [List.take_of_length_le (by omega), List.drop_of_length_le (by simp; omega)]; simp)) ?_
      repeat first | (with_reducible refine oj ?_; refine AOps.auto tabOk rfl ?_) | (with_reducible first | refine o1 ?_ | refine o2 ?_ | refine o3 ?_ | refine o4 ?_ | refine o5 ?_ | refine o6 ?_ | refine o7 ?_ | refine o8 ?_ | refine o9 ?_ | refine oa ?_ | refine ob ?_ | refine oc ?_ | refine od ?_ | refine oe ?_ | refine og ?_ | refine oh ?_ | refine oi ?_) | (with_reducible refine cExitMiss ?_ ?_; rfl) | (with_reducible refine ok ?_; first | refine ACode.condT rfl ?_ | refine ACode.condF rfl ?_)
      refine ACode.drawX tabOk 8 [(3, .one (int ((i + 1 : Nat) : Int))), (4, .one (.arr (.l 0) 7 (i + 1) (es.length - i) (capn - (i + 1)))), (7, .one (.arr (.o k) 7 i (es.length - i) (cap - i)))] follows (by kernel_rfl) rfl rfl rfl rfl ?_ ?_
      · refine .step rfl (HStep.plain rfl (AStep.arith rfl rfl rfl (.inl ⟨rfl, by omega⟩) (inRange_i64 (by omega) (by omega)))) ?_
        refine .step rfl (HStep.plain rfl (AStep.sliceOwn' (a := i + 1) (b := es.length + 1) (c := capn) tabOk rfl rfl rfl rfl rfl rfl ⟨_, rfl⟩ rfl rfl (fun h => by cases h) (by omega) (by omega) (by omega) (by rw [if_neg (by omega)]) (by omega) rfl)) ?_
        exact .step rfl (HStep.plain rfl (AStep.sliceOwn' (a := i) (b := es.length) (c := cap) tabOk rfl rfl rfl rfl rfl rfl ⟨_, rfl⟩ rfl rfl (fun h => by cases h) (by omega) (by omega) (by omega) (by rw [if_neg (by omega)]) rfl rfl)) .nil
      repeat first | (with_reducible refine oj ?_; refine AOps.auto tabOk rfl ?_) | (with_reducible first | refine o1 ?_ | refine o2 ?_ | refine o3 ?_ | refine o4 ?_ | refine o5 ?_ | refine o6 ?_ | refine o7 ?_ | refine o8 ?_ | refine o9 ?_ | refine oa ?_ | refine ob ?_ | refine oc ?_ | refine od ?_ | refine oe ?_ | refine og ?_ | refine oh ?_ | refine oi ?_) | (with_reducible refine cExitMiss ?_ ?_; rfl) | (with_reducible refine ok ?_; first | refine ACode.condT rfl ?_ | refine ACode.condF rfl ?_)
      refine AOps.step1 rfl rfl rfl (AStep.copyOwn (es := es.take i ++ [cVal v]) (es2 := es) (es' := putAt es i (cVal v)) (k := es.length - i) tabOk rfl rfl rfl rfl rfl rfl rfl rfl h1e (by simp; omega) (by simp; omega) hk hes hc (by omega) (by omega) (by omega) (by rw [List.take_of_length_le (by simp; omega), List.drop_of_length_le (l := es.take i ++ [cVal v]) (by simp; omega), List.take_of_length_le (l := es.drop i) (by simp)]; simp [putAt])) ?_
      have hcp : (putAt es i (cVal v)).length ≤ capn := by omega
      refine AOps.cede 0 (show 0 < 1 by omega) fun k' hk' => ⟨[(9, .one (.arr (.o k') 7 0 (es.length + 1) capn))], ⟨1, [], updO ou k' (.cells (vec 7 (putAt es i (cVal v)) capn))⟩, ⟨CedFr.get (.cons rfl rfl .nil), rfl, fun q x hx => ?_⟩, ?_⟩
      · cases q with
        | l m => cases hx
        | o m =>
          have hx' : updO ou k' (.cells (vec 7 (putAt es i (cVal v)) capn)) m = some x := hx
          by_cases e : k' = m
          · subst e; rw [updO_same] at hx'; cases hx'
            exact ⟨.l 0, _, rfl, rfl, (AObj.sub_o _ (vecO_ids _ (hpi _))).symm⟩
          · rw [updO_ne _ e] at hx'
            exact ⟨.o m, x, hx', rfl, (AObj.sub_o x (hou m x hx')).symm⟩
      have hk2 : ou k' = none := hk'
      repeat first | (with_reducible refine oj ?_; refine AOps.auto tabOk rfl ?_) | (with_reducible first | refine o1 ?_ | refine o2 ?_ | refine o3 ?_ | refine o4 ?_ | refine o5 ?_ | refine o6 ?_ | refine o7 ?_ | refine o8 ?_ | refine o9 ?_ | refine oa ?_ | refine ob ?_ | refine oc ?_ | refine od ?_ | refine oe ?_ | refine og ?_ | refine oh ?_ | refine oi ?_) | (with_reducible refine cExitMiss ?_ ?_; rfl) | (with_reducible refine ok ?_; first | refine ACode.condT rfl ?_ | refine ACode.condF rfl ?_)
      refine AFn.fin' rfl (.refl _) (by simp) (updO_ok hou (vecO_ids _ (hpi _))) ⟨k', capn, hcp, by rw [hpl], updO_same _ _ _, .inr hk2, fun m h1 h => ?_⟩
      show updO ou k' _ m = ou m
      rw [updO_ne _ (fun e => h e.symm)]
    · have hgr : es.length + 1 ≤ cap := by simp at hb2; omega
      clear hb hb2
      repeat first | (with_reducible refine oj ?_; refine AOps.auto tabOk rfl ?_) | (with_reducible first | refine o1 ?_ | refine o2 ?_ | refine o3 ?_ | refine o4 ?_ | refine o5 ?_ | refine o6 ?_ | refine o7 ?_ | refine o8 ?_ | refine o9 ?_ | refine oa ?_ | refine ob ?_ | refine oc ?_ | refine od ?_ | refine oe ?_ | refine og ?_ | refine oh ?_ | refine oi ?_) | (with_reducible refine cExitMiss ?_ ?_; rfl) | (with_reducible refine ok ?_; first | refine ACode.condT rfl ?_ | refine ACode.condF rfl ?_)
      refine AOps.step1 rfl rfl rfl (AStep.arith rfl rfl rfl (.inl ⟨rfl, rfl⟩) (inRange_i64 (by omega) (by omega))) ?_
      repeat first | (with_reducible refine oj ?_; refine AOps.auto tabOk rfl ?_) | (with_reducible first | refine o1 ?_ | refine o2 ?_ | refine o3 ?_ | refine o4 ?_ | refine o5 ?_ | refine o6 ?_ | refine o7 ?_ | refine o8 ?_ | refine o9 ?_ | refine oa ?_ | refine ob ?_ | refine oc ?_ | refine od ?_ | refine oe ?_ | refine og ?_ | refine oh ?_ | refine oi ?_) | (with_reducible refine cExitMiss ?_ ?_; rfl) | (with_reducible refine ok ?_; first | refine ACode.condT rfl ?_ | refine ACode.condF rfl ?_)
      refine AOps.step1 rfl rfl rfl (AStep.sliceOwn' (a := 0) (b := es.length + 1) (c := cap) (off' := 0) (m' := es.length + 1) (c' := cap) tabOk rfl rfl rfl rfl rfl rfl rfl ⟨_, rfl⟩ rfl (fun h => by cases h) (by omega) (by omega) (by omega) (by simp) (by omega) (by omega)) ?_
      repeat first | (with_reducible refine oj ?_; refine AOps.auto tabOk rfl ?_) | (with_reducible first | refine o1 ?_ | refine o2 ?_ | refine o3 ?_ | refine o4 ?_ | refine o5 ?_ | refine o6 ?_ | refine o7 ?_ | refine o8 ?_ | refine o9 ?_ | refine oa ?_ | refine ob ?_ | refine oc ?_ | refine od ?_ | refine oe ?_ | refine og ?_ | refine oh ?_ | refine oi ?_) | (with_reducible refine cExitMiss ?_ ?_; rfl) | (with_reducible refine ok ?_; first | refine ACode.condT rfl ?_ | refine ACode.condF rfl ?_)
      refine AOps.step1 rfl rfl rfl (AStep.arith rfl rfl rfl (.inl ⟨rfl, rfl⟩) (inRange_i64 (by omega) (by omega))) ?_
      repeat first | (with_reducible refine oj ?_; refine AOps.auto tabOk rfl ?_) | (with_reducible first | refine o1 ?_ | refine o2 ?_ | refine o3 ?_ | refine o4 ?_ | refine o5 ?_ | refine o6 ?_ | refine o7 ?_ | refine o8 ?_ | refine o9 ?_ | refine oa ?_ | refine ob ?_ | refine oc ?_ | refine od ?_ | refine oe ?_ | refine og ?_ | refine oh ?_ | refine oi ?_) | (with_reducible refine cExitMiss ?_ ?_; rfl) | (with_reducible refine ok ?_; first | refine ACode.condT rfl ?_ | refine ACode.condF rfl ?_)
      refine AOps.step1 rfl rfl rfl (AStep.sliceOwn' (a := i + 1) (b := es.length + 1) (c := cap) (off' := i + 1) (m' := es.length - i) (c' := cap - (i + 1)) tabOk rfl rfl rfl rfl rfl rfl ⟨_, rfl⟩ rfl rfl (fun h => by cases h) (by omega) (by omega) (by omega) (by rw [if_neg (by omega)]) (by omega) (by omega)) ?_
      repeat first | (with_reducible refine oj ?_; refine AOps.auto tabOk rfl ?_) | (with_reducible first | refine o1 ?_ | refine o2 ?_ | refine o3 ?_ | refine o4 ?_ | refine o5 ?_ | refine o6 ?_ | refine o7 ?_ | refine o8 ?_ | refine o9 ?_ | refine oa ?_ | refine ob ?_ | refine oc ?_ | refine od ?_ | refine oe ?_ | refine og ?_ | refine oh ?_ | refine oi ?_) | (with_reducible refine cExitMiss ?_ ?_; rfl) | (with_reducible refine ok ?_; first | refine ACode.condT rfl ?_ | refine ACode.condF rfl ?_)
      refine AOps.step1 rfl rfl rfl (AStep.overlapsSl tabOk rfl rfl rfl rfl rfl run_over rfl rfl (by simp) (by omega) hk (by rw [vec_len hes hc]; omega)) ?_
      repeat first | (with_reducible refine oj ?_; refine AOps.auto tabOk rfl ?_) | (with_reducible first | refine o1 ?_ | refine o2 ?_ | refine o3 ?_ | refine o4 ?_ | refine o5 ?_ | refine o6 ?_ | refine o7 ?_ | refine o8 ?_ | refine o9 ?_ | refine oa ?_ | refine ob ?_ | refine oc ?_ | refine od ?_ | refine oe ?_ | refine og ?_ | refine oh ?_ | refine oi ?_) | (with_reducible refine cExitMiss ?_ ?_; rfl) | (with_reducible refine ok ?_; first | refine ACode.condT rfl ?_ | refine ACode.condF rfl ?_)
      refine ACode.drawX tabOk 8 [(3, .one (int ((i + 1 : Nat) : Int))), (4, .one (.arr (.o k) 7 (i + 1) (es.length - i) (cap - (i + 1)))), (7, .one (.arr (.o k) 7 i (es.length + 1 - i) (cap - i)))] follows (by kernel_rfl) rfl rfl rfl rfl ?_ ?_
      · refine .step rfl (HStep.plain rfl (AStep.arith rfl rfl rfl (.inl ⟨rfl, by omega⟩) (inRange_i64 (by omega) (by omega)))) ?_
        refine .step rfl (HStep.plain rfl (AStep.sliceOwn' (a := i + 1) (b := es.length + 1) (c := cap) tabOk rfl rfl rfl rfl rfl rfl ⟨_, rfl⟩ rfl rfl (fun h => by cases h) (by omega) (by omega) (by omega) (by rw [if_neg (by omega)]) (by omega) rfl)) ?_
        exact .step rfl (HStep.plain rfl (AStep.sliceOwn' (a := i) (b := es.length + 1) (c := cap) tabOk rfl rfl rfl rfl rfl rfl ⟨_, rfl⟩ rfl rfl (fun h => by cases h) (by omega) (by omega) (by omega) (by rw [if_neg (by omega)]) rfl rfl)) .nil
      repeat first | (with_reducible refine oj ?_; refine AOps.auto tabOk rfl ?_) | (with_reducible first | refine o1 ?_ | refine o2 ?_ | refine o3 ?_ | refine o4 ?_ | refine o5 ?_ | refine o6 ?_ | refine o7 ?_ | refine o8 ?_ | refine o9 ?_ | refine oa ?_ | refine ob ?_ | refine oc ?_ | refine od ?_ | refine oe ?_ | refine og ?_ | refine oh ?_ | refine oi ?_) | (with_reducible refine cExitMiss ?_ ?_; rfl) | (with_reducible refine ok ?_; first | refine ACode.condT rfl ?_ | refine ACode.condF rfl ?_)
      have h1e : ∀ x ∈ es.take (i + 1) ++ es.drop i, x.length = 7 := fun x hx => by
        rcases List.mem_append.1 hx with h | h
        · exact hes x (List.mem_of_mem_take h)
        · exact hes x (List.mem_of_mem_drop h)
      refine AOps.step1 rfl rfl rfl (AStep.copyOwn (es := es) (es2 := es) (es' := es.take (i + 1) ++ es.drop i) (k := es.length - i) tabOk rfl rfl rfl rfl rfl rfl rfl hk hes hc (by omega) hk hes hc (by omega) (by omega) (by omega) (by rw [List.drop_of_length_le (i := i + 1 + (es.length - i)) (l := es) (by omega), List.take_of_length_le (l := es.drop i) (by simp)]; simp)) ?_
      rw [setO_eq]
      repeat first | (with_reducible refine oj ?_; refine AOps.auto tabOk rfl ?_) | (with_reducible first | refine o1 ?_ | refine o2 ?_ | refine o3 ?_ | refine o4 ?_ | refine o5 ?_ | refine o6 ?_ | refine o7 ?_ | refine o8 ?_ | refine o9 ?_ | refine oa ?_ | refine ob ?_ | refine oc ?_ | refine od ?_ | refine oe ?_ | refine og ?_ | refine oh ?_ | refine oi ?_) | (with_reducible refine cExitMiss ?_ ?_; rfl) | (with_reducible refine ok ?_; first | refine ACode.condT rfl ?_ | refine ACode.condF rfl ?_)
      refine AOps.step1 rfl rfl rfl (AStep.sliceOwn' (a := i) (b := es.length + 1) (c := cap) (off' := i) (m' := es.length + 1 - i) (c' := cap - i) tabOk rfl rfl rfl rfl rfl rfl ⟨_, rfl⟩ rfl rfl (fun h => by cases h) (by omega) (by omega) (by omega) (by rw [if_neg (by omega)]) rfl rfl) ?_
      repeat first | (with_reducible refine oj ?_; refine AOps.auto tabOk rfl ?_) | (with_reducible first | refine o1 ?_ | refine o2 ?_ | refine o3 ?_ | refine o4 ?_ | refine o5 ?_ | refine o6 ?_ | refine o7 ?_ | refine o8 ?_ | refine o9 ?_ | refine oa ?_ | refine ob ?_ | refine oc ?_ | refine od ?_ | refine oe ?_ | refine og ?_ | refine oh ?_ | refine oi ?_) | (with_reducible refine cExitMiss ?_ ?_; rfl) | (with_reducible refine ok ?_; first | refine ACode.condT rfl ?_ | refine ACode.condF rfl ?_)
      have h2l : (es.take (i + 1) ++ es.drop i).length = es.length + 1 := by simp; omega
      have h3e : (es.take (i + 1) ++ es.drop i).take i ++ [cVal v] ++ (es.take (i + 1) ++ es.drop i).drop (i + 1) = putAt es i (cVal v) := by
        have e1 : (es.take (i + 1)).length = i + 1 := by simp; omega
        rw [List.take_append_of_le_length (by omega), List.take_take, List.drop_append_of_le_length (by omega), List.drop_of_length_le (l := es.take (i + 1)) (by omega)]
        simp [putAt]
      refine AOps.step1 rfl rfl rfl (AStep.copySl (es := es.take (i + 1) ++ es.drop i) (news := [cVal v]) (es' := putAt es i (cVal v)) tabOk rfl rfl rfl rfl rfl rfl rfl (.sl 7 _) (by simp) (updO_same _ _ _) h1e (by omega) (by omega) (by simp; omega) (by simp; omega) h3e) ?_
      rw [setO_eq, updO_twice]
      repeat first | (with_reducible refine oj ?_; refine AOps.auto tabOk rfl ?_) | (with_reducible first | refine o1 ?_ | refine o2 ?_ | refine o3 ?_ | refine o4 ?_ | refine o5 ?_ | refine o6 ?_ | refine o7 ?_ | refine o8 ?_ | refine o9 ?_ | refine oa ?_ | refine ob ?_ | refine oc ?_ | refine od ?_ | refine oe ?_ | refine og ?_ | refine oh ?_ | refine oi ?_) | (with_reducible refine cExitMiss ?_ ?_; rfl) | (with_reducible refine ok ?_; first | refine ACode.condT rfl ?_ | refine ACode.condF rfl ?_)
      refine AFn.fin' rfl (.refl _) (by simp) (updO_ok hou (vecO_ids _ (hpi _))) ⟨k, cap, by omega, by rw [hpl], updO_same _ _ _, .inl rfl, fun m h1 h => ?_⟩
      show updO ou k _ m = ou m
      rw [updO_ne _ (fun e => h e.symm)]
end Go.Proofs.YtoojdmgbffnmiaaDoor
/- SignatureMore, walked. -/
namespace Go.Abs
set_option linter.unusedVariables false
/-- The own array that a step leaves is written no more, and other objects are forgotten. -/
theorem AStepR.frozen {E : Env} {o : Oper} {fr : Fr} {σ : St} {P P' : FV → St → Prop} (h : AStepR E o fr σ P)
    (hP : ∀ v σ', P v σ' → ∃ i s cap es σ2, v = .one (.arr i s 0 (es : List (List AC)).length cap) ∧ σ'.get i = some (.cells (vec s es cap)) ∧ (∀ x ∈ es, x.length = s) ∧ σ2.n = σ'.n ∧ (∀ j p, σ2.get j = some p → (σ'.set i .dead).get j = some p) ∧ P' (.one (.sl s es)) σ2) : AStepR E o fr σ P' := by
  intro F w C tmps hi hf next Q hk
  refine h F w C tmps hi hf next Q fun u w' C' v σ' hp hgo hi' hr => ?_
  obtain ⟨i, s, cap, es, σ2, rfl, hg, hl, hn, hs, hp'⟩ := hP v σ' hp
  obtain ⟨h1, h2, _⟩ := hi'.freeze hg
  obtain ⟨hok, zs, T, b1, b2, b3, b4⟩ := hi'.obj i _ hg
  have hn2 : (σ'.set i .dead).n = σ'.n := St.n_set ..
  have h3 : Inv E.Γ F w' (C'.froze (C'.blk i)) σ2 := ⟨h2.base, by rw [hn, ← hn2]; exact h2.next, h2.glob, h2.prot, fun j p hj => h2.obj j p (hs j p hj), fun a b p q g h1 h3 h4 h5 => h2.inj a b p q g (hs a p h1) (hs b q h3) h4 h5⟩
  refine hk u w' _ _ σ2 hp' (hgo.trans h1) h3 ?_
  simp only [RF, R, Nat.zero_mul] at hr ⊢
  refine ⟨some ⟨C'.blk i, 0, none⟩, cap, hr.2.1, hr.2.2, .inr ⟨_, rfl, rfl, ?_⟩⟩
  have hfl := flat_len hl
  have hzl := RV.length b3
  have hv : RV w' (C'.froze (C'.blk i)) es.flatten (zs.take (es.length * s)) := by
    have := (b3.take (es.length * s)).ext h1.chg
    rwa [vec, List.take_append_of_le_length (by omega), List.take_of_length_le (by omega)] at this
  refine RS.ofVals 0 hl hv fun j v hj => ⟨?_, .inr rfl⟩
  have h2 : j < es.length * s := by have := (List.getElem?_eq_some_iff.1 hj).1; simp at this; omega
  rw [List.getElem?_take_of_lt h2] at hj
  rw [Nat.zero_add, cell_of_row _ _ _ _ _ _ b1]
  simpa using hj
end Go.Abs
namespace Go.Proofs.YtoojdmgbffnmiaaDoor
open Go Go.Abs
set_option maxRecDepth 10000
set_option linter.unusedVariables false
set_option linter.unusedSimpArgs false
theorem mem_putAt {α : Type} {l : List α} {i : Nat} {v x : α} : x ∈ putAt l i v ↔ x = v ∨ x ∈ l := by
  have h : x ∈ l ↔ x ∈ l.take i ∨ x ∈ l.drop i := by
    conv => lhs; rw [← List.take_append_drop i l]
    exact List.mem_append
  unfold putAt
  rw [h]
  simp only [List.mem_append, List.mem_singleton]
  constructor
  · rintro ((h | h) | h)
    · exact .inr (.inl h)
    · exact .inl h
    · exact .inr (.inr h)
  · rintro (h | h | h)
    · exact .inl (.inr h)
    · exact .inl (.inl h)
    · exact .inr h
theorem putAt_map {α β : Type} (f : α → β) (l : List α) (i : Nat) (v : α) : putAt (l.map f) i (f v) = (putAt l i v).map f := by unfold putAt; simp
def bigS (m : Spec) (i : Nat) (v : VSig) : Spec := ⟨m.datas, putAt m.vals i v⟩
/-- A MODULE WITH ONE VALUE MORE SATISFIES WHAT IT SATISFIED. -/
theorem match_more {m s : Spec} {name : Str} {i : Nat} {v : VSig} (h : matchErr m s name = 0) (hb : chkErr cutN (bigS m i v) = 0) : matchErr (bigS m i v) s name = 0 := by
  obtain ⟨a1, a2, a3, a4, a5⟩ := match_zero.1 h
  have k := chk_ok hb
  refine match_zero.2 ⟨hb, a2, a3, a4, fun w hw => ?_⟩
  obtain ⟨x, hx, hxg⟩ := valErr_zero.1 (a5 w hw)
  obtain ⟨h1, h2⟩ := findBy_some hx
  have h3 := findBy_self k.vs (show x ∈ (bigS m i v).vals from mem_putAt.2 (.inr h1))
  rw [h2] at h3
  exact valErr_zero.2 ⟨x, h3, hxg⟩
theorem bBig (m : Spec) (i : Nat) (v : VSig) : bSpec (bigS m i v) = bSpec m + bVal v := by
  have : bVals (putAt m.vals i v) = bVals m.vals + bVal v := by
    unfold bVals putAt
    conv => rhs; rw [← List.take_append_drop i m.vals]
    simp only [List.map_append, List.sum_append, List.map_cons, List.map_nil, List.sum_cons, List.sum_nil]
    omega
  unfold bSpec bigS
  simp only [this]
  omega
/-- How far the head of the region is that makes the greater module. -/
inductive Cm (V D B : List (List AC)) (ou : Outer) (z : List AC) : (Nat → Option FV) → St → Prop
  | s : Cm V D B ou z (fun _ => none) ⟨0, [], ou⟩
  | sx : Cm V D B ou z (updV (fun _ => none) 10 (.one (.ptr (.l 0) 0))) ⟨1, [(0, .cells z)], ou⟩
  | sa {c : AC} {ou1 : Outer} (h : CloneQ2 7 V ou (.one c) ou1) (ho : OuOk ou1) : Cm V D B ou z (updV (fun _ => none) 4 (.one c)) ⟨0, [], ou1⟩
  | sxa {c : AC} {ou1 : Outer} (h : CloneQ2 7 V ou (.one c) ou1) (ho : OuOk ou1) : Cm V D B ou z (updV (updV (fun _ => none) 10 (.one (.ptr (.l 0) 0))) 4 (.one c)) ⟨1, [(0, .cells z)], ou1⟩
  | sax {c : AC} {ou1 : Outer} (h : CloneQ2 7 V ou (.one c) ou1) (ho : OuOk ou1) : Cm V D B ou z (updV (updV (fun _ => none) 4 (.one c)) 10 (.one (.ptr (.l 0) 0))) ⟨1, [(0, .cells z)], ou1⟩
  | sab {c : AC} : Cm V D B ou z (updV (updV (fun _ => none) 4 (.one c)) 8 (.one (.sl 7 B))) ⟨0, [], ou⟩
  | sxab {c : AC} : Cm V D B ou z (updV (updV (updV (fun _ => none) 10 (.one (.ptr (.l 0) 0))) 4 (.one c)) 8 (.one (.sl 7 B))) ⟨1, [(0, .cells z)], ou⟩
  | saxb {c : AC} : Cm V D B ou z (updV (updV (updV (fun _ => none) 4 (.one c)) 10 (.one (.ptr (.l 0) 0))) 8 (.one (.sl 7 B))) ⟨1, [(0, .cells z)], ou⟩
  | sabx {c : AC} : Cm V D B ou z (updV (updV (updV (fun _ => none) 4 (.one c)) 8 (.one (.sl 7 B))) 10 (.one (.ptr (.l 0) 0))) ⟨1, [(0, .cells z)], ou⟩
  | sabc {c : AC} : Cm V D B ou z (updV (updV (updV (fun _ => none) 4 (.one c)) 8 (.one (.sl 7 B))) 9 (.agg [.sl 3 D, .sl 7 B])) ⟨0, [], ou⟩
  | sxabc {c : AC} : Cm V D B ou z (updV (updV (updV (updV (fun _ => none) 10 (.one (.ptr (.l 0) 0))) 4 (.one c)) 8 (.one (.sl 7 B))) 9 (.agg [.sl 3 D, .sl 7 B])) ⟨1, [(0, .cells z)], ou⟩
  | saxbc {c : AC} : Cm V D B ou z (updV (updV (updV (updV (fun _ => none) 4 (.one c)) 10 (.one (.ptr (.l 0) 0))) 8 (.one (.sl 7 B))) 9 (.agg [.sl 3 D, .sl 7 B])) ⟨1, [(0, .cells z)], ou⟩
  | sabxc {c : AC} : Cm V D B ou z (updV (updV (updV (updV (fun _ => none) 4 (.one c)) 8 (.one (.sl 7 B))) 10 (.one (.ptr (.l 0) 0))) 9 (.agg [.sl 3 D, .sl 7 B])) ⟨1, [(0, .cells z)], ou⟩
  | sabcx {c : AC} : Cm V D B ou z (updV (updV (updV (updV (fun _ => none) 4 (.one c)) 8 (.one (.sl 7 B))) 9 (.agg [.sl 3 D, .sl 7 B])) 10 (.one (.ptr (.l 0) 0))) ⟨1, [(0, .cells z)], ou⟩
end Go.Proofs.YtoojdmgbffnmiaaDoor
/- SignatureMore: the contract. -/
namespace Go.Proofs.YtoojdmgbffnmiaaDoor
open Go Go.Abs
set_option maxRecDepth 10000
set_option linter.unusedVariables false
set_option linter.unusedSimpArgs false
theorem ins_froz {E : Env} {o : Oper} {fr : Fr} {n : Nat} {lo : List (Nat × AObj)} {own : Nat → Prop} {ou' ou1 : Outer} {es' : List (List AC)} (hown : ∀ m, own m → ou' m = none) (heq : ∀ m p, ou' m = some p → ou1 m = some p) (hl : ∀ x ∈ es', x.length = 7)
    (h : AStepR E o fr ⟨n, lo, ou1⟩ (fun r σ' => ∃ ou2, InsQ own es' ou1 r ou2 ∧ σ' = ⟨n, lo, ou2⟩)) : AStepR E o fr ⟨n, lo, ou1⟩ (fun v σ' => v = .one (.sl 7 es') ∧ σ' = ⟨n, lo, ou'⟩) := by
  refine AStepR.frozen h ?_
  rintro v σ' ⟨ou2, ⟨k', cap', hle, rfl, hk', hok, hrest⟩, rfl⟩
  refine ⟨.o k', 7, cap', es', ⟨n, lo, ou'⟩, rfl, hk', hl, rfl, fun j p hj => ?_, rfl, rfl⟩
  cases j with
  | l m => exact hj
  | o m =>
    have hj' : ou' m = some p := hj
    have hmk : m ≠ k' := by
      rintro rfl
      rcases hok with h1 | h1
      · rw [hown _ h1] at hj'; cases hj'
      · rw [heq _ _ hj'] at h1; cases h1
    have hno : ¬ own m := fun h1 => by rw [hown _ h1] at hj'; cases hj'
    rw [setO_eq]
    show updO ou2 k' .dead m = some p
    rw [updO_ne _ (fun e => hmk e.symm), hrest m hno hmk, heq _ _ hj']
theorem AStepR.mono' {E : Env} {o : Oper} {fr : Fr} {σ : St} {P P' : FV → St → Prop} (h : AStepR E o fr σ P) (hp : ∀ v σ', P v σ' → P' v σ') : AStepR E o fr σ P' :=
  fun F w C tmps hi hf next Q hk => h F w C tmps hi hf next Q fun u w' C' v σ' hpp => hk u w' C' v σ' (hp _ _ hpp)
theorem ins_ok {o : Oper} {fr : Fr} {n : Nat} {lo : List (Nat × AObj)} {N : Nat} {ou' ou1 : Outer} (hou : OuOk ou') (vals : List VSig) (hvl : vals.length ≤ 1048576) (i : Nat) (hi : i ≤ vals.length) (v : VSig) {c : AC} (h : CloneQ2 7 (vals.map cVal) ou' (.one c) ou1) (ho1 : OuOk ou1) {f : Operand} {args : Array Operand} {tys : Array TypeId}
    (ho : o.op = .call { callee := .value f, args := args, argTypes := tys }) (hf : aEval Γ0 fr f = some (.one (.fn (.func 28) [] []))) (hargs : aEvals Γ0 fr args.toList = some [.one c, .one (int i), .one (.sl 7 [cVal v])]) :
    AStepR { P := Tryd.prog, T := tab, Γ := Γ0, N := N } o fr ⟨n, lo, ou1⟩ (fun r σ' => r = .one (.sl 7 ((putAt vals i v).map cVal)) ∧ σ' = ⟨n, lo, ou'⟩) := by
  have hpl : ∀ x ∈ (putAt vals i v).map cVal, x.length = 7 := fun x hx => by obtain ⟨y, _, rfl⟩ := List.mem_map.1 hx; exact cVal_l7 y
  rcases h with ⟨he, hc, rfl⟩ | ⟨k, cap, hk, hcap, hc, rfl⟩
  · cases hc
    have hv0 : vals = [] := List.map_eq_nil_iff.1 he
    subst hv0
    have hi0 : i = 0 := by simpa using hi
    subst hi0
    refine ins_froz (own := fun _ => False) (fun _ h => h.elim) (fun _ _ h => h) hpl ?_
    exact AStepR.call hΓ0 ho hf hargs rfl (by simp) hou (InsertNil_ok hΓ0 v ou1) fun r ou2 hq _ _ => ⟨ou2, hq, rfl⟩
  · cases hc
    have hes : ∀ x ∈ vals.map cVal, x.length = 7 := fun x hx => by obtain ⟨y, _, rfl⟩ := List.mem_map.1 hx; exact cVal_l7 y
    have hin := InsertV_ok hΓ0 v (vals.map cVal) hes (fun p => by simp) (by simpa using hvl) i (by simpa using hi) (updO ou' k (.cells (vec 7 (vals.map cVal) cap))) k cap hcap (updO_same _ _ _)
    rw [putAt_map] at hin
    refine ins_froz (own := fun m => m = k) (fun m h => by rw [h]; exact hk) (fun m p h => by rw [updO_ne _ (fun e => by subst e; rw [hk] at h; cases h)]; exact h) hpl ?_
    exact AStepR.call hΓ0 ho hf hargs rfl (by simp) ho1 hin fun r ou2 hq _ _ => ⟨ou2, hq, rfl⟩
theorem SignatureMore_ok (m s : Spec) (v : VSig) (hm : okSpec m) (hzm : SzS m) (hs : okSpec s) (hzs : SzS s) (hB : bSpec m + bVal v ≤ 1048576) : APure Tryd.prog Γ0 9 [.agg (cSpec m), .agg (cSpec s), .agg (cVal v)] (.one (.lit (.bool true))) := by
  have c1 := Match_ok m s nmM hm hs hzm hzs M_sz
  have hvl := hm.vl
  intro ou
  refine AFn.walk 66 tabOk Tryd.func9 rfl (by kernel_rfl) rfl rfl fun hou => ?_
  repeat first | (with_reducible refine oj ?_; refine AOps.auto tabOk rfl ?_) | (with_reducible first | refine o1 ?_ | refine o2 ?_ | refine o3 ?_ | refine o4 ?_ | refine o5 ?_ | refine o6 ?_ | refine o7 ?_ | refine o8 ?_ | refine o9 ?_ | refine oa ?_ | refine ob ?_ | refine oc ?_ | refine od ?_ | refine oe ?_ | refine og ?_ | refine oh ?_ | refine oi ?_) | (with_reducible refine cExitMiss ?_ ?_; rfl) | (with_reducible refine ok ?_; first | refine ACode.condT rfl ?_ | refine ACode.condF rfl ?_)
  refine AOps.callC hΓ0 c1 rfl rfl rfl rfl rfl rfl rfl hou (by simp) ?_
  refine AOps.freeze1 (.l 0) 3 rfl rfl ?_
  refine AOps.freeze1 (.l 1) 4 rfl rfl ?_
  refine AOps.freeze1 (.l 2) 5 rfl rfl ?_
  have hLi : ∀ p : Abs.Id → Prop, idsS p (if matchErr m s nmM = 0 then (outerM nmM s.datas).map cMap else []) := fun p => by split <;> simp
  generalize hL : (if matchErr m s nmM = 0 then (outerM nmM s.datas).map cMap else []) = L at hLi ⊢
  generalize hE : matchErr m s nmM = e0
  repeat first | (with_reducible refine oj ?_; refine AOps.auto tabOk rfl ?_) | (with_reducible first | refine o1 ?_ | refine o2 ?_ | refine o3 ?_ | refine o4 ?_ | refine o5 ?_ | refine o6 ?_ | refine o7 ?_ | refine o8 ?_ | refine o9 ?_ | refine oa ?_ | refine ob ?_ | refine oc ?_ | refine od ?_ | refine oe ?_ | refine og ?_ | refine oh ?_ | refine oi ?_) | (with_reducible refine cExitMiss ?_ ?_; rfl) | (with_reducible refine ok ?_; first | refine ACode.condT rfl ?_ | refine ACode.condF rfl ?_)
  refine AOps.call1 hΓ0 rfl rfl rfl rfl rfl rfl rfl (by simp) hou (BSF26_ok hΓ0 v m.vals hvl ou) fun r ou' hq hids hou' => ?_
  obtain ⟨rfl, i, b, hi, rfl⟩ := hq
  clear hids hou'
  repeat first | (with_reducible refine oj ?_; refine AOps.auto tabOk rfl ?_) | (with_reducible first | refine o1 ?_ | refine o2 ?_ | refine o3 ?_ | refine o4 ?_ | refine o5 ?_ | refine o6 ?_ | refine o7 ?_ | refine o8 ?_ | refine o9 ?_ | refine oa ?_ | refine ob ?_ | refine oc ?_ | refine od ?_ | refine oe ?_ | refine og ?_ | refine oh ?_ | refine oi ?_) | (with_reducible refine cExitMiss ?_ ?_; rfl) | (with_reducible refine ok ?_; first | refine ACode.condT rfl ?_ | refine ACode.condF rfl ?_)
  have hbv : ∀ t : Spec, t = bigS m i v → okSpec t ∧ SzS t := fun t e => by rw [e]; exact okSpec_of (by rw [bBig]; omega)
  obtain ⟨hbo, hbz⟩ := hbv _ rfl
  have hbl : (bigS m i v).vals.map cVal = putAt (m.vals.map cVal) i (cVal v) := (putAt_map cVal m.vals i v).symm
  refine ACode.lessR hΓ0 (ρ := id) (fr' := [(10, .one (.lit (.bool b))), (9, .one (int i)), (8, .one (int e0)), (7, .one (.sl 5 L)), (5, .one (.box (cVal v))), (4, .one (.box (cSpec s))), (3, .one (.box (cSpec m)))]) (σ' := ⟨0, [], ou'⟩) (LessR.of rfl (by (repeat' first | exact FrSub.nil | refine FrSub.cons rfl (.ofEq rfl) ?_ | refine FrSub.consP rfl (.ofEq rfl) (by simp [hLi]) ?_)) (by simp [hLi]) .nil rfl rfl hou) ?_
  obtain ⟨z, hz⟩ : ∃ z, z = ti25.zero.map AC.lit := ⟨_, rfl⟩
  refine ACode.cutR hΓ0 (α := Unit) (fun _ => [(11, .one (.ptr (.l 0) 0)), (10, .one (.lit (.bool b))), (8, .one (int e0)), (7, .one (.sl 5 L)), (4, .one (.box (cSpec s)))])
    (fun _ => ⟨1, [(0, .cells (cSpec (bigS m i v)))], ou'⟩) (fun _ => True) ?_ fun _ _ => ?_
  · have hcl := CloneV2_ok hΓ0 m.vals hvl ou'
    refine ACode.drawSR 11 [4, 8, 9, 10] [.one (.box (cSpec m)), .one (.sl 3 (m.datas.map cData)), .one (.box ((cSpec m).drop 1)), .one (.sl 7 (m.vals.map cVal)), .bot, .one (int i), .agg (cVal v), .one (.sl 7 [cVal v]), .bot, .bot, .bot]
      (Cm (m.vals.map cVal) (m.datas.map cData) ((bigS m i v).vals.map cVal) ou' z) follows (by kernel_rfl) rfl rfl .s ?_ ?_ ?_ ?_
    · intro f σ h q hq
      have : 4 ≠ q ∧ 8 ≠ q ∧ 9 ≠ q ∧ 10 ≠ q := ⟨(by rintro rfl; cases hq), (by rintro rfl; cases hq), (by rintro rfl; cases hq), (by rintro rfl; cases hq)⟩
      cases h <;> simp [updV, this]
    · intro q o hq hS hlo
      match q, hq with
      | 0, _ => cases hlo; exact ⟨_, rfl, rfl, rfl, by kernel_rfl, fun f σ _ => HStep.auto tabOk rfl⟩
      | 1, _ => cases hlo; exact ⟨_, rfl, rfl, rfl, by kernel_rfl, fun f σ _ => HStep.auto tabOk rfl⟩
      | 2, _ => cases hlo; exact ⟨_, rfl, rfl, rfl, by kernel_rfl, fun f σ _ => HStep.auto tabOk rfl⟩
      | 3, _ => cases hlo; exact ⟨_, rfl, rfl, rfl, by kernel_rfl, fun f σ _ => HStep.auto tabOk rfl⟩
      | 4, _ => cases hS
      | 5, _ => cases hlo; exact ⟨_, rfl, rfl, rfl, by kernel_rfl, fun f σ _ => HStep.auto tabOk rfl⟩
      | 6, _ => cases hlo; exact ⟨_, rfl, rfl, rfl, by kernel_rfl, fun f σ _ => HStep.auto tabOk rfl⟩
      | 7, _ => cases hlo; exact ⟨_, rfl, rfl, rfl, by kernel_rfl, fun f σ _ => HStep.auto tabOk rfl⟩
      | 8, _ => cases hS
      | 9, _ => cases hS
      | 10, _ => cases hS
    · intro f σ q o h hS hlo hfi hdep
      have hq : q = 4 ∨ q = 8 ∨ q = 9 ∨ q = 10 := by
        simp only [List.any_cons, List.any_nil, Bool.or_false, Bool.or_eq_true] at hS
        rcases hS with h | h | h | h <;> have := Nat.eq_of_beq_eq_true h <;> omega
      rcases hq with rfl | rfl | rfl | rfl <;> cases hlo
      · cases h with
        | s =>
          refine ⟨rfl, rfl, .inr ⟨rfl, AStepR.call hΓ0 rfl rfl rfl rfl (by simp) hou hcl fun r ou' hq _ ho => ?_⟩⟩
          obtain ⟨c, rfl⟩ : ∃ c, r = .one c := by rcases hq with ⟨_, h, _⟩ | ⟨_, _, _, _, h, _⟩ <;> exact ⟨_, h⟩
          exact .sa hq ho
        | sx =>
          refine ⟨rfl, rfl, .inr ⟨rfl, AStepR.call hΓ0 rfl rfl rfl rfl (by simp) hou hcl fun r ou' hq _ ho => ?_⟩⟩
          obtain ⟨c, rfl⟩ : ∃ c, r = .one c := by rcases hq with ⟨_, h, _⟩ | ⟨_, _, _, _, h, _⟩ <;> exact ⟨_, h⟩
          exact .sxa hq ho
        | _ => cases hfi
      · cases h with
        | sa h ho => exact ⟨rfl, rfl, .inr ⟨rfl, AStepR.mono' (ins_ok hou m.vals hvl i hi v h ho rfl rfl rfl) fun v' σ' hp => by obtain ⟨rfl, rfl⟩ := hp; exact .sab⟩⟩
        | sxa h ho => exact ⟨rfl, rfl, .inr ⟨rfl, AStepR.mono' (ins_ok hou m.vals hvl i hi v h ho rfl rfl rfl) fun v' σ' hp => by obtain ⟨rfl, rfl⟩ := hp; exact .sxab⟩⟩
        | sax h ho => exact ⟨rfl, rfl, .inr ⟨rfl, AStepR.mono' (ins_ok hou m.vals hvl i hi v h ho rfl rfl rfl) fun v' σ' hp => by obtain ⟨rfl, rfl⟩ := hp; exact .saxb⟩⟩
        | s => exact absurd (hdep ⟨4, .data⟩ (by simp) rfl rfl) (by simp [updV])
        | sx => exact absurd (hdep ⟨4, .data⟩ (by simp) rfl rfl) (by simp [updV])
        | _ => cases hfi
      · cases h with
        | sab => exact ⟨rfl, rfl, .inl ⟨_, _, HStep.auto tabOk rfl, .sabc⟩⟩
        | sxab => exact ⟨rfl, rfl, .inl ⟨_, _, HStep.auto tabOk rfl, .sxabc⟩⟩
        | saxb => exact ⟨rfl, rfl, .inl ⟨_, _, HStep.auto tabOk rfl, .saxbc⟩⟩
        | sabx => exact ⟨rfl, rfl, .inl ⟨_, _, HStep.auto tabOk rfl, .sabxc⟩⟩
        | s => exact absurd (hdep ⟨8, .data⟩ (by simp) rfl rfl) (by simp [updV])
        | sx => exact absurd (hdep ⟨8, .data⟩ (by simp) rfl rfl) (by simp [updV])
        | sa h ho => exact absurd (hdep ⟨8, .data⟩ (by simp) rfl rfl) (by simp [updV])
        | sxa h ho => exact absurd (hdep ⟨8, .data⟩ (by simp) rfl rfl) (by simp [updV])
        | sax h ho => exact absurd (hdep ⟨8, .data⟩ (by simp) rfl rfl) (by simp [updV])
        | _ => cases hfi
      · subst hz
        cases h with
        | s => exact ⟨rfl, rfl, .inl ⟨_, _, HStep.auto tabOk rfl, .sx⟩⟩
        | sa h ho => exact ⟨rfl, rfl, .inl ⟨_, _, HStep.auto tabOk rfl, .sax h ho⟩⟩
        | sab => exact ⟨rfl, rfl, .inl ⟨_, _, HStep.auto tabOk rfl, .sabx⟩⟩
        | sabc => exact ⟨rfl, rfl, .inl ⟨_, _, HStep.auto tabOk rfl, .sabcx⟩⟩
        | _ => cases hfi
    · intro f σ h hall
      have h9 := hall 9 (by simp) (by omega)
      have h10 := hall 10 (by simp) (by omega)
      subst hz
      cases h with
      | sxabc =>
        repeat first | (with_reducible refine oj ?_; refine AOps.auto tabOk rfl ?_) | (with_reducible first | refine o1 ?_ | refine o2 ?_ | refine o3 ?_ | refine o4 ?_ | refine o5 ?_ | refine o6 ?_ | refine o7 ?_ | refine o8 ?_ | refine o9 ?_ | refine oa ?_ | refine ob ?_ | refine oc ?_ | refine od ?_ | refine oe ?_ | refine og ?_ | refine oh ?_ | refine oi ?_) | (with_reducible refine cExitMiss ?_ ?_; rfl) | (with_reducible refine ok ?_; first | refine ACode.condT rfl ?_ | refine ACode.condF rfl ?_)
        exact cInv ⟨(), id, trivial, LessR.of rfl (by (repeat' first | exact FrSub.nil | refine FrSub.cons rfl (.ofEq rfl) ?_ | refine FrSub.consP rfl (.ofEq rfl) (by simp [hLi]) ?_)) (by simp [hLi]) (by repeat' first | exact LoSub.nil | refine LoSub.cons rfl ?_ rfl (by first | (simp; done) | exact ids_oaO (by simp)) ?_ | rfl | (refine (AObj.ren_pure _ _ ?_).symm; simp; done) | exact (ren_oaO _ _ _ _ fun _ => ids_vec (by simp; done)).symm | (simp [AObj.ren, renL, AC.ren, cTy]; done) | (simp [AObj.ren, renL, AC.ren, cTy]; rfl)) rfl rfl hou⟩
      | saxbc =>
        repeat first | (with_reducible refine oj ?_; refine AOps.auto tabOk rfl ?_) | (with_reducible first | refine o1 ?_ | refine o2 ?_ | refine o3 ?_ | refine o4 ?_ | refine o5 ?_ | refine o6 ?_ | refine o7 ?_ | refine o8 ?_ | refine o9 ?_ | refine oa ?_ | refine ob ?_ | refine oc ?_ | refine od ?_ | refine oe ?_ | refine og ?_ | refine oh ?_ | refine oi ?_) | (with_reducible refine cExitMiss ?_ ?_; rfl) | (with_reducible refine ok ?_; first | refine ACode.condT rfl ?_ | refine ACode.condF rfl ?_)
        exact cInv ⟨(), id, trivial, LessR.of rfl (by (repeat' first | exact FrSub.nil | refine FrSub.cons rfl (.ofEq rfl) ?_ | refine FrSub.consP rfl (.ofEq rfl) (by simp [hLi]) ?_)) (by simp [hLi]) (by repeat' first | exact LoSub.nil | refine LoSub.cons rfl ?_ rfl (by first | (simp; done) | exact ids_oaO (by simp)) ?_ | rfl | (refine (AObj.ren_pure _ _ ?_).symm; simp; done) | exact (ren_oaO _ _ _ _ fun _ => ids_vec (by simp; done)).symm | (simp [AObj.ren, renL, AC.ren, cTy]; done) | (simp [AObj.ren, renL, AC.ren, cTy]; rfl)) rfl rfl hou⟩
      | sabxc =>
        repeat first | (with_reducible refine oj ?_; refine AOps.auto tabOk rfl ?_) | (with_reducible first | refine o1 ?_ | refine o2 ?_ | refine o3 ?_ | refine o4 ?_ | refine o5 ?_ | refine o6 ?_ | refine o7 ?_ | refine o8 ?_ | refine o9 ?_ | refine oa ?_ | refine ob ?_ | refine oc ?_ | refine od ?_ | refine oe ?_ | refine og ?_ | refine oh ?_ | refine oi ?_) | (with_reducible refine cExitMiss ?_ ?_; rfl) | (with_reducible refine ok ?_; first | refine ACode.condT rfl ?_ | refine ACode.condF rfl ?_)
        exact cInv ⟨(), id, trivial, LessR.of rfl (by (repeat' first | exact FrSub.nil | refine FrSub.cons rfl (.ofEq rfl) ?_ | refine FrSub.consP rfl (.ofEq rfl) (by simp [hLi]) ?_)) (by simp [hLi]) (by repeat' first | exact LoSub.nil | refine LoSub.cons rfl ?_ rfl (by first | (simp; done) | exact ids_oaO (by simp)) ?_ | rfl | (refine (AObj.ren_pure _ _ ?_).symm; simp; done) | exact (ren_oaO _ _ _ _ fun _ => ids_vec (by simp; done)).symm | (simp [AObj.ren, renL, AC.ren, cTy]; done) | (simp [AObj.ren, renL, AC.ren, cTy]; rfl)) rfl rfl hou⟩
      | sabcx =>
        repeat first | (with_reducible refine oj ?_; refine AOps.auto tabOk rfl ?_) | (with_reducible first | refine o1 ?_ | refine o2 ?_ | refine o3 ?_ | refine o4 ?_ | refine o5 ?_ | refine o6 ?_ | refine o7 ?_ | refine o8 ?_ | refine o9 ?_ | refine oa ?_ | refine ob ?_ | refine oc ?_ | refine od ?_ | refine oe ?_ | refine og ?_ | refine oh ?_ | refine oi ?_) | (with_reducible refine cExitMiss ?_ ?_; rfl) | (with_reducible refine ok ?_; first | refine ACode.condT rfl ?_ | refine ACode.condF rfl ?_)
        exact cInv ⟨(), id, trivial, LessR.of rfl (by (repeat' first | exact FrSub.nil | refine FrSub.cons rfl (.ofEq rfl) ?_ | refine FrSub.consP rfl (.ofEq rfl) (by simp [hLi]) ?_)) (by simp [hLi]) (by repeat' first | exact LoSub.nil | refine LoSub.cons rfl ?_ rfl (by first | (simp; done) | exact ids_oaO (by simp)) ?_ | rfl | (refine (AObj.ren_pure _ _ ?_).symm; simp; done) | exact (ren_oaO _ _ _ _ fun _ => ids_vec (by simp; done)).symm | (simp [AObj.ren, renL, AC.ren, cTy]; done) | (simp [AObj.ren, renL, AC.ren, cTy]; rfl)) rfl rfl hou⟩
      | _ => first | (simp [updV] at h9; done) | (simp [updV] at h10; done)
  · refine ACode.freeze1 (.l 0) 11 rfl rfl ?_
    repeat first | (with_reducible refine oj ?_; refine AOps.auto tabOk rfl ?_) | (with_reducible first | refine o1 ?_ | refine o2 ?_ | refine o3 ?_ | refine o4 ?_ | refine o5 ?_ | refine o6 ?_ | refine o7 ?_ | refine o8 ?_ | refine o9 ?_ | refine oa ?_ | refine ob ?_ | refine oc ?_ | refine od ?_ | refine oe ?_ | refine og ?_ | refine oh ?_ | refine oi ?_) | (with_reducible refine cExitMiss ?_ ?_; rfl) | (with_reducible refine ok ?_; first | refine ACode.condT rfl ?_ | refine ACode.condF rfl ?_)
    by_cases he : e0 = 0
    · refine AOps.wk 39 rfl (y := .one (.lit (.bool false))) (.ofEq (by simp [he])) ?_
      have h0 : matchErr m s nmM = 0 := by rw [hE]; exact he
      rw [h0] at hL
      simp only [if_true] at hL
      cases b with
      | true =>
        repeat first | (with_reducible refine oj ?_; refine AOps.auto tabOk rfl ?_) | (with_reducible first | refine o1 ?_ | refine o2 ?_ | refine o3 ?_ | refine o4 ?_ | refine o5 ?_ | refine o6 ?_ | refine o7 ?_ | refine o8 ?_ | refine o9 ?_ | refine oa ?_ | refine ob ?_ | refine oc ?_ | refine od ?_ | refine oe ?_ | refine og ?_ | refine oh ?_ | refine oi ?_) | (with_reducible refine cExitMiss ?_ ?_; rfl) | (with_reducible refine ok ?_; first | refine ACode.condT rfl ?_ | refine ACode.condF rfl ?_)
        refine AOps.callC hΓ0 fact_true rfl rfl rfl rfl rfl rfl rfl hou (by simp) ?_
        repeat first | (with_reducible refine oj ?_; refine AOps.auto tabOk rfl ?_) | (with_reducible first | refine o1 ?_ | refine o2 ?_ | refine o3 ?_ | refine o4 ?_ | refine o5 ?_ | refine o6 ?_ | refine o7 ?_ | refine o8 ?_ | refine o9 ?_ | refine oa ?_ | refine ob ?_ | refine oc ?_ | refine od ?_ | refine oe ?_ | refine og ?_ | refine oh ?_ | refine oi ?_) | (with_reducible refine cExitMiss ?_ ?_; rfl) | (with_reducible refine ok ?_; first | refine ACode.condT rfl ?_ | refine ACode.condF rfl ?_)
        exact APure.fin rfl (WkF.ofEq rfl) (by simp) hou rfl
      | false =>
        repeat first | (with_reducible refine oj ?_; refine AOps.auto tabOk rfl ?_) | (with_reducible first | refine o1 ?_ | refine o2 ?_ | refine o3 ?_ | refine o4 ?_ | refine o5 ?_ | refine o6 ?_ | refine o7 ?_ | refine o8 ?_ | refine o9 ?_ | refine oa ?_ | refine ob ?_ | refine oc ?_ | refine od ?_ | refine oe ?_ | refine og ?_ | refine oh ?_ | refine oi ?_) | (with_reducible refine cExitMiss ?_ ?_; rfl) | (with_reducible refine ok ?_; first | refine ACode.condT rfl ?_ | refine ACode.condF rfl ?_)
        refine AOps.callG hΓ0 (Check_ok cutN (bigS m i v) hbo hbz.cut) rfl rfl rfl rfl rfl rfl rfl rfl rfl hou (by simp) ?_
        repeat first | (with_reducible refine oj ?_; refine AOps.auto tabOk rfl ?_) | (with_reducible first | refine o1 ?_ | refine o2 ?_ | refine o3 ?_ | refine o4 ?_ | refine o5 ?_ | refine o6 ?_ | refine o7 ?_ | refine o8 ?_ | refine o9 ?_ | refine oa ?_ | refine ob ?_ | refine oc ?_ | refine od ?_ | refine oe ?_ | refine og ?_ | refine oh ?_ | refine oi ?_) | (with_reducible refine cExitMiss ?_ ?_; rfl) | (with_reducible refine ok ?_; first | refine ACode.condT rfl ?_ | refine ACode.condF rfl ?_)
        refine ACode.cond rfl (fun hb => ?_) (fun hb => ?_)
        · repeat first | (with_reducible refine oj ?_; refine AOps.auto tabOk rfl ?_) | (with_reducible first | refine o1 ?_ | refine o2 ?_ | refine o3 ?_ | refine o4 ?_ | refine o5 ?_ | refine o6 ?_ | refine o7 ?_ | refine o8 ?_ | refine o9 ?_ | refine oa ?_ | refine ob ?_ | refine oc ?_ | refine od ?_ | refine oe ?_ | refine og ?_ | refine oh ?_ | refine oi ?_) | (with_reducible refine cExitMiss ?_ ?_; rfl) | (with_reducible refine ok ?_; first | refine ACode.condT rfl ?_ | refine ACode.condF rfl ?_)
          refine AOps.callC hΓ0 fact_true rfl rfl rfl rfl rfl rfl rfl hou (by simp) ?_
          repeat first | (with_reducible refine oj ?_; refine AOps.auto tabOk rfl ?_) | (with_reducible first | refine o1 ?_ | refine o2 ?_ | refine o3 ?_ | refine o4 ?_ | refine o5 ?_ | refine o6 ?_ | refine o7 ?_ | refine o8 ?_ | refine o9 ?_ | refine oa ?_ | refine ob ?_ | refine oc ?_ | refine od ?_ | refine oe ?_ | refine og ?_ | refine oh ?_ | refine oi ?_) | (with_reducible refine cExitMiss ?_ ?_; rfl) | (with_reducible refine ok ?_; first | refine ACode.condT rfl ?_ | refine ACode.condF rfl ?_)
          exact APure.fin rfl (WkF.ofEq rfl) (by simp) hou rfl
        · have hcb : chkErr cutN (bigS m i v) = 0 := by simpa using hb
          have c2 := Match_ok (bigS m i v) s nmM hbo hs hbz hzs M_sz
          rw [match_more h0 hcb, if_pos rfl, hL] at c2
          repeat first | (with_reducible refine oj ?_; refine AOps.auto tabOk rfl ?_) | (with_reducible first | refine o1 ?_ | refine o2 ?_ | refine o3 ?_ | refine o4 ?_ | refine o5 ?_ | refine o6 ?_ | refine o7 ?_ | refine o8 ?_ | refine o9 ?_ | refine oa ?_ | refine ob ?_ | refine oc ?_ | refine od ?_ | refine oe ?_ | refine og ?_ | refine oh ?_ | refine oi ?_) | (with_reducible refine cExitMiss ?_ ?_; rfl) | (with_reducible refine ok ?_; first | refine ACode.condT rfl ?_ | refine ACode.condF rfl ?_)
          refine AOps.callC hΓ0 c2 rfl rfl rfl rfl rfl rfl rfl hou (by simp) ?_
          repeat first | (with_reducible refine oj ?_; refine AOps.auto tabOk rfl ?_) | (with_reducible first | refine o1 ?_ | refine o2 ?_ | refine o3 ?_ | refine o4 ?_ | refine o5 ?_ | refine o6 ?_ | refine o7 ?_ | refine o8 ?_ | refine o9 ?_ | refine oa ?_ | refine ob ?_ | refine oc ?_ | refine od ?_ | refine oe ?_ | refine og ?_ | refine oh ?_ | refine oi ?_) | (with_reducible refine cExitMiss ?_ ?_; rfl) | (with_reducible refine ok ?_; first | refine ACode.condT rfl ?_ | refine ACode.condF rfl ?_)
          refine AOps.callC hΓ0 fact_true rfl rfl rfl rfl rfl rfl rfl hou (by simp) ?_
          repeat first | (with_reducible refine oj ?_; refine AOps.auto tabOk rfl ?_) | (with_reducible first | refine o1 ?_ | refine o2 ?_ | refine o3 ?_ | refine o4 ?_ | refine o5 ?_ | refine o6 ?_ | refine o7 ?_ | refine o8 ?_ | refine o9 ?_ | refine oa ?_ | refine ob ?_ | refine oc ?_ | refine od ?_ | refine oe ?_ | refine og ?_ | refine oh ?_ | refine oi ?_) | (with_reducible refine cExitMiss ?_ ?_; rfl) | (with_reducible refine ok ?_; first | refine ACode.condT rfl ?_ | refine ACode.condF rfl ?_)
          exact APure.fin rfl (WkF.ofEq (by simp)) (by simp) hou rfl
    · refine AOps.wk 39 rfl (y := .one (.lit (.bool true))) (.ofEq (by simp [he])) ?_
      repeat first | (with_reducible refine oj ?_; refine AOps.auto tabOk rfl ?_) | (with_reducible first | refine o1 ?_ | refine o2 ?_ | refine o3 ?_ | refine o4 ?_ | refine o5 ?_ | refine o6 ?_ | refine o7 ?_ | refine o8 ?_ | refine o9 ?_ | refine oa ?_ | refine ob ?_ | refine oc ?_ | refine od ?_ | refine oe ?_ | refine og ?_ | refine oh ?_ | refine oi ?_) | (with_reducible refine cExitMiss ?_ ?_; rfl) | (with_reducible refine ok ?_; first | refine ACode.condT rfl ?_ | refine ACode.condF rfl ?_)
      refine AOps.callC hΓ0 fact_true rfl rfl rfl rfl rfl rfl rfl hou (by simp) ?_
      repeat first | (with_reducible refine oj ?_; refine AOps.auto tabOk rfl ?_) | (with_reducible first | refine o1 ?_ | refine o2 ?_ | refine o3 ?_ | refine o4 ?_ | refine o5 ?_ | refine o6 ?_ | refine o7 ?_ | refine o8 ?_ | refine o9 ?_ | refine oa ?_ | refine ob ?_ | refine oc ?_ | refine od ?_ | refine oe ?_ | refine og ?_ | refine oh ?_ | refine oi ?_) | (with_reducible refine cExitMiss ?_ ?_; rfl) | (with_reducible refine ok ?_; first | refine ACode.condT rfl ?_ | refine ACode.condF rfl ?_)
      exact APure.fin rfl (WkF.ofEq rfl) (by simp) hou rfl
end Go.Proofs.YtoojdmgbffnmiaaDoor
