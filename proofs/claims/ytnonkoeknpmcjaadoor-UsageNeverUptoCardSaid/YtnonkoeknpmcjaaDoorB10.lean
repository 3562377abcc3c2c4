/- UsageNever, walked. -/
import Derived.Test.YtnonkoeknpmcjaaDoorB9
import Derived.Laws.StructEq
import Derived.Test.YtnonkoeknpmcjaaDoorRows
import Derived.Lib.LaidTab
namespace Go.CoreX
set_option linter.unusedVariables false
def isVar (n : Int) (l : Lab) : Int := if l.op = 0 ∧ l.n = n then 1 else 0
theorem isVar_nonneg (n : Int) (l : Lab) : 0 ≤ isVar n l := by unfold isVar; split <;> omega
theorem visit_u (s : CS) (n deep k : Int) : (visitU s n deep).u k = s.u k + if n = k then 1 else 0 := by
  simp only [visitU, upF]
  by_cases e : n = k
  · subst e; simp
  · simp [e]
mutual
theorem walkU_u (k : Int) : ∀ (t : Tr) (deep : Int) (s : CS), (walkU deep s t).u k = s.u k + sumT (isVar k) t
  | .mk o n b ks a, deep, s => by
    simp only [walkU, sumT, walkUs_u k ks]
    by_cases e : o = 0
    · rw [if_pos e, visit_u]; simp only [isVar, e, true_and]; omega
    · rw [if_neg e]; simp only [isVar, e, false_and, if_false]; omega
theorem walkUs_u (k : Int) : ∀ (l : List Tr) (deep o : Int) (b : List Int) (a : List Alt) (i : Nat) (s : CS), (walkUs deep o b a i s l).u k = s.u k + sumTs (isVar k) l
  | [], _, _, _, _, _, _ => by simp [walkUs, sumTs]
  | t :: l, deep, o, b, a, i, s => by
    simp only [walkUs, sumTs, walkUs_u k l, walkU_u k t]
    simp only [bindU]; omega
end
theorem sum_zero {α : Type} {f : α → Int} : ∀ {l : List α}, (∀ x ∈ l, 0 ≤ f x) → ((l.map f).sum = 0 ↔ ∀ x ∈ l, f x = 0)
  | [], _ => by simp
  | x :: l, h => by
    have h1 := h x (by simp)
    have h2 : ∀ y ∈ l, 0 ≤ f y := fun y hy => h y (by simp [hy])
    have h3 : 0 ≤ (l.map f).sum := by
      clear h h1
      induction l with
      | nil => simp
      | cons z l ih =>
        have := h2 z (by simp)
        have := ih fun y hy => h2 y (by simp [hy])
        simp only [List.map_cons, List.sum_cons]; omega
    have ih := sum_zero h2
    simp only [List.map_cons, List.sum_cons, List.mem_cons, forall_eq_or_imp]
    constructor
    · intro h4
      exact ⟨by omega, ih.1 (by omega)⟩
    · rintro ⟨h4, h5⟩
      rw [ih.2 h5]; omega
theorem ne_at {α : Type} [BEq α] [LawfulBEq α] {xs ys : List α} {j : Nat} {x y : α} (h1 : xs[j]? = some x) (h2 : ys[j]? = some y) (h : x ≠ y) : (xs == ys) = false := by
  apply beq_eq_false_iff_ne.2
  rintro rfl
  rw [h1] at h2
  exact h (by simpa using h2)
theorem eq_all {α : Type} [BEq α] [LawfulBEq α] {xs ys : List α} (hl : xs.length = ys.length) (h : ∀ (j : Nat) (x y : α), xs[j]? = some x → ys[j]? = some y → x = y) : (xs == ys) = true := by
  rw [beq_iff_eq]
  refine List.ext_getElem hl fun i h1 h2 => h i _ _ (List.getElem?_eq_getElem h1) (List.getElem?_eq_getElem h2)
def occV (n : Int) (x : Ex) : Bool := x.op == 0 && x.n == n
theorem use_never {e : List Ex} (h : IsTree e) (n : Int) : howU (useS e) n = 0 ↔ e.any (occV n) = false := by
  have h2 : howU (useS e) n = 0 ↔ (useS e).u n = 0 := by
    unfold howU
    split
    · simp [*]
    · split <;> simp [*]
  have h1 : (useS e).u n = ((labs e).map (isVar n)).sum := by
    unfold useS
    rw [walkU_u, sum_tree _ h]
    simp [CS0]
  rw [h2, h1, sum_zero (fun x _ => isVar_nonneg n x), List.any_eq_false]
  unfold labs
  simp only [List.mem_map, forall_exists_index, and_imp, forall_apply_eq_imp_iff₂]
  refine forall_congr' fun x => forall_congr' fun hx => ?_
  unfold isVar occV labE
  simp only [Bool.and_eq_true, beq_iff_eq]
  split <;> simp_all
end Go.CoreX
namespace Go.Proofs.YtnonkoeknpmcjaaDoor
open Go Go.Abs Go.CoreX
set_option maxRecDepth 10000
set_option linter.unusedVariables false
set_option linter.unusedSimpArgs false
variable {Γ : List (Nat × List AC)}
theorem ExAnyI_ok (hΓ : ∀ g cs, (g, cs) ∈ Γ → idsL isO cs) (gf : Nat) (caps : List AC) (hcap : idsL isO caps) (p : Ex → Bool) (xs : List Ex) (hx : xs.length ≤ 1048576) (hf : ∀ a ∈ xs, APure Tryd.prog Γ gf (.agg (cEx a) :: caps.map .one) (.one (.lit (.bool (p a))))) :
    APure Tryd.prog Γ 54 [.one (.sl 5 (xs.map cEx)), .one (.fn (.func gf) [] caps)] (.one (int (idxOf p xs))) := by
  intro ou
  refine AFn.walk 19 tabOk Tryd.func54 rfl (by kernel_rfl) rfl rfl fun hou => ?_
  repeat first | (with_reducible refine oj ?_; refine AOps.auto tabOk rfl ?_) | (with_reducible first | refine o1 ?_ | refine o2 ?_ | refine o3 ?_ | refine o4 ?_ | refine o5 ?_ | refine o6 ?_ | refine o7 ?_ | refine o8 ?_ | refine o9 ?_ | refine oa ?_ | refine ob ?_ | refine oc ?_ | refine od ?_ | refine oe ?_ | refine og ?_ | refine oh ?_ | refine oi ?_) | (with_reducible refine cExitMiss ?_ ?_; rfl) | (with_reducible refine ok ?_; first | refine ACode.condT rfl ?_ | refine ACode.condF rfl ?_)
  refine ACode.loopR hΓ (α := Nat) (fun j => [(8, .one (int j)), (7, .one (int (xs.map cEx).length)), (1, .one (.fn (.func gf) [] caps)), (0, .one (.sl 5 (xs.map cEx)))])
    (fun j => ⟨0, [], ou⟩) (fun m j => j ≤ xs.length ∧ (∀ x ∈ xs.take j, p x = false) ∧ m = xs.length - j) (a0 := 0) (ρ := id) ⟨by omega, by simp, rfl⟩ (LessR.of rfl ?_ ?_ (by repeat' first | exact LoSub.nil | refine LoSub.cons rfl ?_ rfl (by first | (simp; done) | exact ids_oaO (by simp)) ?_ | rfl | (refine (AObj.ren_pure _ _ ?_).symm; simp; done) | exact (ren_oaO _ _ _ _ fun _ => ids_vec (by simp; done)).symm | (simp [AObj.ren, renL, AC.ren]; done) | (simp [AObj.ren, renL, AC.ren]; rfl)) rfl rfl hou) fun m j hj => ?_
  · refine .cons rfl (.ofEq rfl) (.cons rfl (.ofEq rfl) (.consP rfl (.ofEq rfl) (by simp [hcap]) (.consP rfl (.ofEq rfl) (by simp) .nil)))
  · simp [idsL_mono isO_inL caps hcap]
  obtain ⟨hjl, hno, rfl⟩ := hj
  repeat first | (with_reducible refine oj ?_; refine AOps.auto tabOk rfl ?_) | (with_reducible first | refine o1 ?_ | refine o2 ?_ | refine o3 ?_ | refine o4 ?_ | refine o5 ?_ | refine o6 ?_ | refine o7 ?_ | refine o8 ?_ | refine o9 ?_ | refine oa ?_ | refine ob ?_ | refine oc ?_ | refine od ?_ | refine oe ?_ | refine og ?_ | refine oh ?_ | refine oi ?_) | (with_reducible refine cExitMiss ?_ ?_; rfl) | (with_reducible refine ok ?_; first | refine ACode.condT rfl ?_ | refine ACode.condF rfl ?_)
  refine ACode.cond rfl (fun hb2 => ?_) (fun hb2 => ?_)
  · have hlt : j < xs.length := by simpa using hb2
    obtain ⟨a, ha⟩ := get_of_lt hlt
    have hca := hf a (List.mem_of_getElem? ha)
    repeat first | (with_reducible refine oj ?_; refine AOps.auto tabOk rfl ?_) | (with_reducible first | refine o1 ?_ | refine o2 ?_ | refine o3 ?_ | refine o4 ?_ | refine o5 ?_ | refine o6 ?_ | refine o7 ?_ | refine o8 ?_ | refine o9 ?_ | refine oa ?_ | refine ob ?_ | refine oc ?_ | refine od ?_ | refine oe ?_ | refine og ?_ | refine oh ?_ | refine oi ?_) | (with_reducible refine cExitMiss ?_ ?_; rfl) | (with_reducible refine ok ?_; first | refine ACode.condT rfl ?_ | refine ACode.condF rfl ?_)
    refine AOps.step1 rfl rfl rfl (AStep.indexAddr tabOk rfl rfl rfl rfl rfl rfl (.inl rfl) rfl (by omega) (by simpa using map_get ha)) ?_
    repeat first | (with_reducible refine oj ?_; refine AOps.auto tabOk rfl ?_) | (with_reducible first | refine o1 ?_ | refine o2 ?_ | refine o3 ?_ | refine o4 ?_ | refine o5 ?_ | refine o6 ?_ | refine o7 ?_ | refine o8 ?_ | refine o9 ?_ | refine oa ?_ | refine ob ?_ | refine oc ?_ | refine od ?_ | refine oe ?_ | refine og ?_ | refine oh ?_ | refine oi ?_) | (with_reducible refine cExitMiss ?_ ?_; rfl) | (with_reducible refine ok ?_; first | refine ACode.condT rfl ?_ | refine ACode.condF rfl ?_)
    refine AOps.callC hΓ hca rfl rfl rfl rfl rfl rfl rfl hou (by simp [idsF_ones hcap]) ?_
    repeat first | (with_reducible refine oj ?_; refine AOps.auto tabOk rfl ?_) | (with_reducible first | refine o1 ?_ | refine o2 ?_ | refine o3 ?_ | refine o4 ?_ | refine o5 ?_ | refine o6 ?_ | refine o7 ?_ | refine o8 ?_ | refine o9 ?_ | refine oa ?_ | refine ob ?_ | refine oc ?_ | refine od ?_ | refine oe ?_ | refine og ?_ | refine oh ?_ | refine oi ?_) | (with_reducible refine cExitMiss ?_ ?_; rfl) | (with_reducible refine ok ?_; first | refine ACode.condT rfl ?_ | refine ACode.condF rfl ?_)
    refine ACode.cond rfl (fun hb3 => ?_) (fun hb3 => ?_)
    · repeat first | (with_reducible refine oj ?_; refine AOps.auto tabOk rfl ?_) | (with_reducible first | refine o1 ?_ | refine o2 ?_ | refine o3 ?_ | refine o4 ?_ | refine o5 ?_ | refine o6 ?_ | refine o7 ?_ | refine o8 ?_ | refine o9 ?_ | refine oa ?_ | refine ob ?_ | refine oc ?_ | refine od ?_ | refine oe ?_ | refine og ?_ | refine oh ?_ | refine oi ?_) | (with_reducible refine cExitMiss ?_ ?_; rfl) | (with_reducible refine ok ?_; first | refine ACode.condT rfl ?_ | refine ACode.condF rfl ?_)
      refine APure.fin rfl (WkF.ofEq ?_) (by simp) hou rfl
      rw [idxOf_at hno ha hb3]
    · repeat first | (with_reducible refine oj ?_; refine AOps.auto tabOk rfl ?_) | (with_reducible first | refine o1 ?_ | refine o2 ?_ | refine o3 ?_ | refine o4 ?_ | refine o5 ?_ | refine o6 ?_ | refine o7 ?_ | refine o8 ?_ | refine o9 ?_ | refine oa ?_ | refine ob ?_ | refine oc ?_ | refine od ?_ | refine oe ?_ | refine og ?_ | refine oh ?_ | refine oi ?_) | (with_reducible refine cExitMiss ?_ ?_; rfl) | (with_reducible refine ok ?_; first | refine ACode.condT rfl ?_ | refine ACode.condF rfl ?_)
      refine AOps.step1 rfl rfl rfl (AStep.arith rfl rfl rfl (.inl ⟨rfl, rfl⟩) (inRange_i64 (by omega) (by omega))) ?_
      repeat first | (with_reducible refine oj ?_; refine AOps.auto tabOk rfl ?_) | (with_reducible first | refine o1 ?_ | refine o2 ?_ | refine o3 ?_ | refine o4 ?_ | refine o5 ?_ | refine o6 ?_ | refine o7 ?_ | refine o8 ?_ | refine o9 ?_ | refine oa ?_ | refine ob ?_ | refine oc ?_ | refine od ?_ | refine oe ?_ | refine og ?_ | refine oh ?_ | refine oi ?_) | (with_reducible refine cExitMiss ?_ ?_; rfl) | (with_reducible refine ok ?_; first | refine ACode.condT rfl ?_ | refine ACode.condF rfl ?_)
      refine cInv ⟨xs.length - (j + 1), j + 1, id, by omega, ⟨by omega, take_all hno ha hb3, rfl⟩, LessR.of rfl ?_ ?_ (by repeat' first | exact LoSub.nil | refine LoSub.cons rfl ?_ rfl (by first | (simp; done) | exact ids_oaO (by simp)) ?_ | rfl | (refine (AObj.ren_pure _ _ ?_).symm; simp; done) | exact (ren_oaO _ _ _ _ fun _ => ids_vec (by simp; done)).symm | (simp [AObj.ren, renL, AC.ren]; done) | (simp [AObj.ren, renL, AC.ren]; rfl)) rfl rfl hou⟩
      · refine .cons rfl (.ofEq rfl) (.cons rfl (.ofEq rfl) (.consP rfl (.ofEq rfl) (by simp [hcap]) (.consP rfl (.ofEq rfl) (by simp) .nil)))
      · simp [idsL_mono isO_inL caps hcap]
  · have hlt : j = xs.length := by simp at hb2; omega
    subst hlt
    rw [List.take_length] at hno
    repeat first | (with_reducible refine oj ?_; refine AOps.auto tabOk rfl ?_) | (with_reducible first | refine o1 ?_ | refine o2 ?_ | refine o3 ?_ | refine o4 ?_ | refine o5 ?_ | refine o6 ?_ | refine o7 ?_ | refine o8 ?_ | refine o9 ?_ | refine oa ?_ | refine ob ?_ | refine oc ?_ | refine od ?_ | refine oe ?_ | refine og ?_ | refine oh ?_ | refine oi ?_) | (with_reducible refine cExitMiss ?_ ?_; rfl) | (with_reducible refine ok ?_; first | refine ACode.condT rfl ?_ | refine ACode.condF rfl ?_)
    refine APure.fin rfl (WkF.ofEq ?_) (by simp) hou rfl
    rw [idxOf_none hno]
theorem ExAny_ok (hΓ : ∀ g cs, (g, cs) ∈ Γ → idsL isO cs) (gf : Nat) (caps : List AC) (hcap : idsL isO caps) (p : Ex → Bool) (xs : List Ex) (hx : xs.length ≤ 1048576) (hf : ∀ a ∈ xs, APure Tryd.prog Γ gf (.agg (cEx a) :: caps.map .one) (.one (.lit (.bool (p a))))) :
    APure Tryd.prog Γ 28 [.one (.sl 5 (xs.map cEx)), .one (.fn (.func gf) [] caps)] (.one (.lit (.bool (xs.any p)))) := by
  intro ou
  refine AFn.walk 9 tabOk Tryd.func28 rfl (by kernel_rfl) rfl rfl fun hou => ?_
  repeat first | (with_reducible refine oj ?_; refine AOps.auto tabOk rfl ?_) | (with_reducible first | refine o1 ?_ | refine o2 ?_ | refine o3 ?_ | refine o4 ?_ | refine o5 ?_ | refine o6 ?_ | refine o7 ?_ | refine o8 ?_ | refine o9 ?_ | refine oa ?_ | refine ob ?_ | refine oc ?_ | refine od ?_ | refine oe ?_ | refine og ?_ | refine oh ?_ | refine oi ?_) | (with_reducible refine cExitMiss ?_ ?_; rfl) | (with_reducible refine ok ?_; first | refine ACode.condT rfl ?_ | refine ACode.condF rfl ?_)
  refine AOps.callC hΓ (ExAnyI_ok hΓ gf caps hcap p xs hx hf) rfl rfl rfl rfl rfl rfl rfl hou (by simp [hcap]) ?_
  repeat first | (with_reducible refine oj ?_; refine AOps.auto tabOk rfl ?_) | (with_reducible first | refine o1 ?_ | refine o2 ?_ | refine o3 ?_ | refine o4 ?_ | refine o5 ?_ | refine o6 ?_ | refine o7 ?_ | refine o8 ?_ | refine o9 ?_ | refine oa ?_ | refine ob ?_ | refine oc ?_ | refine od ?_ | refine oe ?_ | refine og ?_ | refine oh ?_ | refine oi ?_) | (with_reducible refine cExitMiss ?_ ?_; rfl) | (with_reducible refine ok ?_; first | refine ACode.condT rfl ?_ | refine ACode.condF rfl ?_)
  refine APure.fin rfl (WkF.ofEq ?_) (by simp) hou rfl
  rw [← idxOf_any]

theorem AStep.neUs {T : Tab} {N : Nat} {o : Oper} {fr : Fr} {σ : St} {x y : Operand} {p q : Int × Int} (ho : o.op = .binOp .neq 50 x y 50) (hx : aEval Γ fr x = some (.agg (cUs p))) (hy : aEval Γ fr y = some (.agg (cUs q))) : AStep { P := Tryd.prog, T := T, Γ := Γ, N := N } o fr σ (.one (.lit (.bool (!(p.1 == q.1 && p.2 == q.2))))) σ := by
  refine AStep.quiet fun F w C tmps hi hf => ⟨.bool (!(p.1 == q.1 && p.2 == q.2)), ?_, rfl, rfl⟩
  have h1 := aEval_ok (a := ⟨tmps, []⟩) hi hf hx
  have h2 := aEval_ok (a := ⟨tmps, []⟩) hi hf hy
  simp only [RF, cUs, RV, R] at h1 h2
  obtain ⟨xs, h1, u1, us1, rfl, ⟨rfl, _⟩, u2, us2, rfl, ⟨rfl, _⟩, rfl⟩ := h1
  obtain ⟨ys, h2, v1, vs1, rfl, ⟨rfl, _⟩, v2, vs2, rfl, ⟨rfl, _⟩, rfl⟩ := h2
  have hS : Tryd.prog.underlying 50 = some (.struct (Tryd.prog.fieldsOf 50)) := by kernel_rfl
  have hp : Tryd.prog.stoodInHeld 50 = false := by kernel_rfl
  have hm : Tryd.prog.eqGuardType Tryd.prog.depth 50 = false := by kernel_rfl
  have u3 := Tryd.underlying3
  have a3 := Tryd.isAgg3
  have z3 := Tryd.sizeOf3
  have hb : ∀ w, (binOp .neq 50 (.agg #[.int .i64 p.1, .int .i64 p.2]) (.agg #[.int .i64 q.1, .int .i64 q.2])).run Tryd.prog w = .ok (.bool (!(p.1 == q.1 && p.2 == q.2))) w := fun w => by
    rw [run_neq_struct, show (10000 : Nat) = 9999 + 1 from rfl, run_equalIn_agg w 9999 50 _ _ hS hp]
    simp only [Program.fieldsOf, Tryd.underlying50]
    go_simp
    by_cases h1 : p.1 = q.1 <;> by_cases h2 : p.2 = q.2 <;> simp [h1, h2]
  unfold execOp
  simp only [ho, h1, h2, Sem.run_bind, run_eqGuard_agg _ _ _ _ _ _ _ hm, Result.andThen_ok]
  rw [hb]
  simp
theorem EqualU_ok (hΓ : ∀ g cs, (g, cs) ∈ Γ → idsL isO cs) (xs ys : List (Int × Int)) (hx : xs.length ≤ 1048576) :
    APure Tryd.prog Γ 53 [.one (.sl 2 (xs.map cUs)), .one (.sl 2 (ys.map cUs))] (.one (.lit (.bool (xs == ys)))) := by
  intro ou
  refine AFn.walk 26 tabOk Tryd.func53 rfl (by kernel_rfl) rfl rfl fun hou => ?_
  repeat first | (with_reducible refine oj ?_; refine AOps.auto tabOk rfl ?_) | (with_reducible first | refine o1 ?_ | refine o2 ?_ | refine o3 ?_ | refine o4 ?_ | refine o5 ?_ | refine o6 ?_ | refine o7 ?_ | refine o8 ?_ | refine o9 ?_ | refine oa ?_ | refine ob ?_ | refine oc ?_ | refine od ?_ | refine oe ?_ | refine og ?_ | refine oh ?_ | refine oi ?_) | (with_reducible refine cExitMiss ?_ ?_; rfl) | (with_reducible refine ok ?_; first | refine ACode.condT rfl ?_ | refine ACode.condF rfl ?_)
  refine ACode.cond rfl (fun hb => ?_) (fun hb => ?_)
  · repeat first | (with_reducible refine oj ?_; refine AOps.auto tabOk rfl ?_) | (with_reducible first | refine o1 ?_ | refine o2 ?_ | refine o3 ?_ | refine o4 ?_ | refine o5 ?_ | refine o6 ?_ | refine o7 ?_ | refine o8 ?_ | refine o9 ?_ | refine oa ?_ | refine ob ?_ | refine oc ?_ | refine od ?_ | refine oe ?_ | refine og ?_ | refine oh ?_ | refine oi ?_) | (with_reducible refine cExitMiss ?_ ?_; rfl) | (with_reducible refine ok ?_; first | refine ACode.condT rfl ?_ | refine ACode.condF rfl ?_)
    refine APure.fin rfl (WkF.ofEq ?_) (by simp) hou rfl
    have : (xs == ys) = false := by
      apply beq_eq_false_iff_ne.2
      rintro rfl
      simp at hb
    rw [this]
  have hl : xs.length = ys.length := by simp at hb; omega
  clear hb
  repeat first | (with_reducible refine oj ?_; refine AOps.auto tabOk rfl ?_) | (with_reducible first | refine o1 ?_ | refine o2 ?_ | refine o3 ?_ | refine o4 ?_ | refine o5 ?_ | refine o6 ?_ | refine o7 ?_ | refine o8 ?_ | refine o9 ?_ | refine oa ?_ | refine ob ?_ | refine oc ?_ | refine od ?_ | refine oe ?_ | refine og ?_ | refine oh ?_ | refine oi ?_) | (with_reducible refine cExitMiss ?_ ?_; rfl) | (with_reducible refine ok ?_; first | refine ACode.condT rfl ?_ | refine ACode.condF rfl ?_)
  refine ACode.loopR hΓ (α := Nat) (fun j => [(13, .one (int j)), (12, .one (int (xs.map cUs).length)), (1, .one (.sl 2 (ys.map cUs))), (0, .one (.sl 2 (xs.map cUs)))])
    (fun j => ⟨0, [], ou⟩) (fun m j => j ≤ xs.length ∧ (∀ (i : Nat) (x y : Int × Int), i < j → xs[i]? = some x → ys[i]? = some y → x = y) ∧ m = xs.length - j) (a0 := 0) (ρ := id) ⟨by omega, fun i x y h => by omega, rfl⟩ (LessR.of rfl (by (repeat' first | exact FrSub.nil | refine FrSub.cons rfl (.ofEq rfl) ?_ | refine FrSub.oa rfl rfl ?_ | refine FrSub.consP rfl (.ofEq rfl) (by simp) ?_)) (by simp) (by repeat' first | exact LoSub.nil | refine LoSub.cons rfl ?_ rfl (by first | (simp; done) | exact ids_oaO (by simp)) ?_ | rfl | (refine (AObj.ren_pure _ _ ?_).symm; simp; done) | exact (ren_oaO _ _ _ _ fun _ => ids_vec (by simp; done)).symm | (simp [AObj.ren, renL, AC.ren]; done) | (simp [AObj.ren, renL, AC.ren]; rfl)) rfl rfl hou) fun m j hj => ?_
  obtain ⟨hjl, hno, rfl⟩ := hj
  repeat first | (with_reducible refine oj ?_; refine AOps.auto tabOk rfl ?_) | (with_reducible first | refine o1 ?_ | refine o2 ?_ | refine o3 ?_ | refine o4 ?_ | refine o5 ?_ | refine o6 ?_ | refine o7 ?_ | refine o8 ?_ | refine o9 ?_ | refine oa ?_ | refine ob ?_ | refine oc ?_ | refine od ?_ | refine oe ?_ | refine og ?_ | refine oh ?_ | refine oi ?_) | (with_reducible refine cExitMiss ?_ ?_; rfl) | (with_reducible refine ok ?_; first | refine ACode.condT rfl ?_ | refine ACode.condF rfl ?_)
  refine ACode.cond rfl (fun hb2 => ?_) (fun hb2 => ?_)
  · have hlt : j < xs.length := by simpa using hb2
    obtain ⟨x, hx1⟩ := get_of_lt hlt
    obtain ⟨y, hy1⟩ := get_of_lt (l := ys) (i := j) (by omega)
    repeat first | (with_reducible refine oj ?_; refine AOps.auto tabOk rfl ?_) | (with_reducible first | refine o1 ?_ | refine o2 ?_ | refine o3 ?_ | refine o4 ?_ | refine o5 ?_ | refine o6 ?_ | refine o7 ?_ | refine o8 ?_ | refine o9 ?_ | refine oa ?_ | refine ob ?_ | refine oc ?_ | refine od ?_ | refine oe ?_ | refine og ?_ | refine oh ?_ | refine oi ?_) | (with_reducible refine cExitMiss ?_ ?_; rfl) | (with_reducible refine ok ?_; first | refine ACode.condT rfl ?_ | refine ACode.condF rfl ?_)
    refine ACode.drawX tabOk 8 [(2, .one (.box (cUs x))), (6, .one (.box (cUs y)))] follows (by kernel_rfl) rfl rfl rfl rfl ?_ ?_
    · refine .step rfl (HStep.plain rfl (AStep.indexAddr tabOk rfl rfl rfl rfl rfl rfl (.inl rfl) rfl (by omega) (map_get hx1))) ?_
      exact .step rfl (HStep.plain rfl (AStep.indexAddr tabOk rfl rfl rfl rfl rfl rfl (.inl rfl) rfl (by omega) (map_get hy1))) .nil
    refine AOps.step1 rfl rfl rfl (AStep.neUs rfl rfl rfl) ?_
    repeat first | (with_reducible refine oj ?_; refine AOps.auto tabOk rfl ?_) | (with_reducible first | refine o1 ?_ | refine o2 ?_ | refine o3 ?_ | refine o4 ?_ | refine o5 ?_ | refine o6 ?_ | refine o7 ?_ | refine o8 ?_ | refine o9 ?_ | refine oa ?_ | refine ob ?_ | refine oc ?_ | refine od ?_ | refine oe ?_ | refine og ?_ | refine oh ?_ | refine oi ?_) | (with_reducible refine cExitMiss ?_ ?_; rfl) | (with_reducible refine ok ?_; first | refine ACode.condT rfl ?_ | refine ACode.condF rfl ?_)
    refine ACode.cond rfl (fun hb3 => ?_) (fun hb3 => ?_)
    · have hne : x ≠ y := by rintro rfl; simp at hb3
      repeat first | (with_reducible refine oj ?_; refine AOps.auto tabOk rfl ?_) | (with_reducible first | refine o1 ?_ | refine o2 ?_ | refine o3 ?_ | refine o4 ?_ | refine o5 ?_ | refine o6 ?_ | refine o7 ?_ | refine o8 ?_ | refine o9 ?_ | refine oa ?_ | refine ob ?_ | refine oc ?_ | refine od ?_ | refine oe ?_ | refine og ?_ | refine oh ?_ | refine oi ?_) | (with_reducible refine cExitMiss ?_ ?_; rfl) | (with_reducible refine ok ?_; first | refine ACode.condT rfl ?_ | refine ACode.condF rfl ?_)
      refine APure.fin rfl (WkF.ofEq ?_) (by simp) hou rfl
      rw [ne_at hx1 hy1 hne]
    · have he : x = y := by obtain ⟨x1, x2⟩ := x; obtain ⟨y1, y2⟩ := y; simp at hb3; exact Prod.ext hb3.1 hb3.2
      repeat' first | (with_reducible refine oj ?_; refine AOps.auto tabOk rfl ?_) | (with_reducible first | refine o1 ?_ | refine o2 ?_ | refine o3 ?_ | refine o4 ?_ | refine o5 ?_ | refine o6 ?_ | refine o7 ?_ | refine o8 ?_ | refine o9 ?_ | refine oa ?_ | refine ob ?_ | refine oc ?_ | refine od ?_ | refine oe ?_ | refine og ?_ | refine oh ?_ | refine oi ?_) | (with_reducible refine cExitMiss ?_ ?_; rfl) | (with_reducible refine ok ?_; first | refine ACode.condT rfl ?_ | refine ACode.condF rfl ?_) | (with_reducible refine oj ?_; first | refine AOps.step1 rfl rfl rfl (AStep.arith rfl rfl rfl (.inl ⟨rfl, rfl⟩) (inRange_i64 (by first | omega | (simp; omega)) (by first | omega | (simp; omega)))) ?_ | refine AOps.step1 rfl rfl rfl (AStep.arith rfl rfl rfl (.inr (.inl ⟨rfl, rfl⟩)) (inRange_i64 (by first | omega | (simp; omega)) (by first | omega | (simp; omega)))) ?_ | refine AOps.step1 rfl rfl rfl (AStep.neBool Tryd.underlying4 rfl rfl rfl) ?_ | refine AOps.step1 rfl rfl rfl (AStep.eqBool Tryd.underlying4 rfl rfl rfl) ?_ | refine AOps.step1 rfl rfl rfl (AStep.max2 (t := 3) (ty := 3) rfl rfl rfl) ?_ | refine AOps.step1 rfl rfl rfl (AStep.min2 (t := 3) (ty := 3) rfl rfl rfl) ?_ | refine AOps.unG rfl rfl rfl ?_)
      refine cInv ⟨xs.length - (j + 1), j + 1, id, by omega, ⟨by omega, fun i x' y' hi h1 h2 => ?_, rfl⟩, LessR.of rfl (by (repeat' first | exact FrSub.nil | refine FrSub.cons rfl (.ofEq rfl) ?_ | refine FrSub.oa rfl rfl ?_ | refine FrSub.consP rfl (.ofEq rfl) (by simp) ?_)) (by simp) (by repeat' first | exact LoSub.nil | refine LoSub.cons rfl ?_ rfl (by first | (simp; done) | exact ids_oaO (by simp)) ?_ | rfl | (refine (AObj.ren_pure _ _ ?_).symm; simp; done) | exact (ren_oaO _ _ _ _ fun _ => ids_vec (by simp; done)).symm | (simp [AObj.ren, renL, AC.ren]; done) | (simp [AObj.ren, renL, AC.ren]; rfl)) rfl rfl hou⟩
      by_cases e : i = j
      · subst e
        rw [hx1] at h1; rw [hy1] at h2
        cases h1; cases h2; exact he
      · exact hno i x' y' (by omega) h1 h2
  · have hlt : j = xs.length := by simp at hb2; omega
    subst hlt
    repeat first | (with_reducible refine oj ?_; refine AOps.auto tabOk rfl ?_) | (with_reducible first | refine o1 ?_ | refine o2 ?_ | refine o3 ?_ | refine o4 ?_ | refine o5 ?_ | refine o6 ?_ | refine o7 ?_ | refine o8 ?_ | refine o9 ?_ | refine oa ?_ | refine ob ?_ | refine oc ?_ | refine od ?_ | refine oe ?_ | refine og ?_ | refine oh ?_ | refine oi ?_) | (with_reducible refine cExitMiss ?_ ?_; rfl) | (with_reducible refine ok ?_; first | refine ACode.condT rfl ?_ | refine ACode.condF rfl ?_)
    refine APure.fin rfl (WkF.ofEq ?_) (by simp) hou rfl
    rw [eq_all hl fun i x y h1 h2 => hno i x y (List.getElem?_eq_some_iff.1 h1).1 h1 h2]

def factU : Tr := .mk 2 0 [1] [.mk 1 2 [] [] []] []
theorem use_fact : check (listT [] factU) = 0 ∧ useOf (listT [] factU) = [(1, 0)] := by decide +kernel
theorem usageFact_ok : APure Tryd.prog Γc 27 [] (.one (.lit (.bool true))) := by
  intro ou
  have hoT : okT factU := by simp [factU, okT, okTs]
  have hoB : okB (listT [] factU) := by
    refine ⟨⟨by simp [factU, listT, listTs], fun x hx => ?_⟩, fun x hx => ?_⟩
    all_goals
      simp [factU, listT, listTs] at hx
      rcases hx with rfl | rfl
    all_goals first
      | exact ⟨by simp, by simp, by simp, by simp⟩
      | simp
  have h1 := UseOf_ok _ hoB
  refine AFn.walk 20 tabOk Tryd.func27 rfl (by kernel_rfl) rfl rfl fun hou => ?_
  repeat first | (with_reducible refine oj ?_; refine AOps.auto tabOk rfl ?_) | (with_reducible first | refine o1 ?_ | refine o2 ?_ | refine o3 ?_ | refine o4 ?_ | refine o5 ?_ | refine o6 ?_ | refine o7 ?_ | refine o8 ?_ | refine o9 ?_ | refine oa ?_ | refine ob ?_ | refine oc ?_ | refine od ?_ | refine oe ?_ | refine og ?_ | refine oh ?_ | refine oi ?_) | (with_reducible refine cExitMiss ?_ ?_; rfl) | (with_reducible refine ok ?_; first | refine ACode.condT rfl ?_ | refine ACode.condF rfl ?_)
  refine AOps.callC hΓc (W_ok hΓc 2) rfl rfl rfl rfl rfl rfl rfl hou (by simp) ?_
  repeat first | (with_reducible refine oj ?_; refine AOps.auto tabOk rfl ?_) | (with_reducible first | refine o1 ?_ | refine o2 ?_ | refine o3 ?_ | refine o4 ?_ | refine o5 ?_ | refine o6 ?_ | refine o7 ?_ | refine o8 ?_ | refine o9 ?_ | refine oa ?_ | refine ob ?_ | refine oc ?_ | refine od ?_ | refine oe ?_ | refine og ?_ | refine oh ?_ | refine oi ?_) | (with_reducible refine cExitMiss ?_ ?_; rfl) | (with_reducible refine ok ?_; first | refine ACode.condT rfl ?_ | refine ACode.condF rfl ?_)
  refine AOps.callC hΓc (B_ok 2 [1] [.mk 1 2 [] [] []]) rfl rfl rfl rfl rfl rfl rfl hou (by simp) ?_
  refine AOps.callC hΓc (NodeList_ok hΓc factU hoT (by simp [factU, listT, listTs])) rfl rfl rfl rfl rfl rfl rfl hou (by simp) ?_
  refine AOps.call1 hΓc rfl rfl rfl rfl rfl rfl rfl (by simp) hou (h1 ou) fun r ou' hq hids hou' => ?_
  obtain ⟨rfl, hq⟩ := hq
  rcases hq with ⟨h2, _⟩ | ⟨_, l, hp, rfl⟩
  · exact absurd use_fact.1 h2
  rw [use_fact.2] at hp
  have hl : l = [(1, 0)] := List.perm_singleton.1 hp
  subst hl
  repeat first | (with_reducible refine oj ?_; refine AOps.auto tabOk rfl ?_) | (with_reducible first | refine o1 ?_ | refine o2 ?_ | refine o3 ?_ | refine o4 ?_ | refine o5 ?_ | refine o6 ?_ | refine o7 ?_ | refine o8 ?_ | refine o9 ?_ | refine oa ?_ | refine ob ?_ | refine oc ?_ | refine od ?_ | refine oe ?_ | refine og ?_ | refine oh ?_ | refine oi ?_) | (with_reducible refine cExitMiss ?_ ?_; rfl) | (with_reducible refine ok ?_; first | refine ACode.condT rfl ?_ | refine ACode.condF rfl ?_)
  refine AOps.callG hΓc (EqualU_ok hΓc [(1, 0)] [(1, 0)] (by simp)) rfl rfl rfl rfl rfl rfl rfl rfl rfl hou (by simp) ?_
  repeat first | (with_reducible refine oj ?_; refine AOps.auto tabOk rfl ?_) | (with_reducible first | refine o1 ?_ | refine o2 ?_ | refine o3 ?_ | refine o4 ?_ | refine o5 ?_ | refine o6 ?_ | refine o7 ?_ | refine o8 ?_ | refine o9 ?_ | refine oa ?_ | refine ob ?_ | refine oc ?_ | refine od ?_ | refine oe ?_ | refine og ?_ | refine oh ?_ | refine oi ?_) | (with_reducible refine cExitMiss ?_ ?_; rfl) | (with_reducible refine ok ?_; first | refine ACode.condT rfl ?_ | refine ACode.condF rfl ?_)
  exact AFn.fin' rfl (WkF.ofEq rfl) (by simp) hou ⟨rfl, rfl⟩
theorem neverF_ok (x : Ex) (u : Int × Int) : APure Tryd.prog Γ 29 [.agg (cEx x), .one (.box (cUs u))] (.one (.lit (.bool (occV u.1 x)))) := by
  intro ou
  refine AFn.walk 14 tabOk Tryd.func29 rfl (by kernel_rfl) rfl rfl fun hou => ?_
  repeat' first | (with_reducible refine oj ?_; refine AOps.auto tabOk rfl ?_) | (with_reducible first | refine o1 ?_ | refine o2 ?_ | refine o3 ?_ | refine o4 ?_ | refine o5 ?_ | refine o6 ?_ | refine o7 ?_ | refine o8 ?_ | refine o9 ?_ | refine oa ?_ | refine ob ?_ | refine oc ?_ | refine od ?_ | refine oe ?_ | refine og ?_ | refine oh ?_ | refine oi ?_) | (with_reducible refine cExitMiss ?_ ?_; rfl) | (with_reducible refine ok ?_; first | refine ACode.condT rfl ?_ | refine ACode.condF rfl ?_) | (with_reducible refine oj ?_; first | refine AOps.step1 rfl rfl rfl (AStep.arith rfl rfl rfl (.inl ⟨rfl, rfl⟩) (inRange_i64 (by first | omega | (simp; omega)) (by first | omega | (simp; omega)))) ?_ | refine AOps.step1 rfl rfl rfl (AStep.arith rfl rfl rfl (.inr (.inl ⟨rfl, rfl⟩)) (inRange_i64 (by first | omega | (simp; omega)) (by first | omega | (simp; omega)))) ?_ | refine AOps.step1 rfl rfl rfl (AStep.neBool Tryd.underlying4 rfl rfl rfl) ?_ | refine AOps.step1 rfl rfl rfl (AStep.eqBool Tryd.underlying4 rfl rfl rfl) ?_ | refine AOps.step1 rfl rfl rfl (AStep.max2 (t := 3) (ty := 3) rfl rfl rfl) ?_ | refine AOps.step1 rfl rfl rfl (AStep.min2 (t := 3) (ty := 3) rfl rfl rfl) ?_ | refine AOps.unG rfl rfl rfl ?_) | (with_reducible refine oj ?_; refine AOps.splitS rfl rfl rfl rfl (fun hb => ?_) (fun hb => ?_)) | (with_reducible refine ok ?_; first | refine ACode.condS rfl (fun hb => ?_) (fun hb => ?_) | refine ACode.cond rfl (fun hb => ?_) (fun hb => ?_))
  all_goals
    refine APure.fin rfl (WkF.ofEq ?_) (by simp) hou rfl
    first
      | (simp_all [occV]; done)
      | (simp_all [occV]; intros; omega)
theorem UsageNever_ok (e : List Ex) (he : okB e) : APure Tryd.prog Γc 8 [.one (.sl 5 (e.map cEx))] (.one (.lit (.bool true))) := by
  have hel := he.eo.l
  intro ou
  refine AFn.walk 37 tabOk Tryd.func8 rfl (by kernel_rfl) rfl rfl fun hou => ?_
  repeat first | (with_reducible refine oj ?_; refine AOps.auto tabOk rfl ?_) | (with_reducible first | refine o1 ?_ | refine o2 ?_ | refine o3 ?_ | refine o4 ?_ | refine o5 ?_ | refine o6 ?_ | refine o7 ?_ | refine o8 ?_ | refine o9 ?_ | refine oa ?_ | refine ob ?_ | refine oc ?_ | refine od ?_ | refine oe ?_ | refine og ?_ | refine oh ?_ | refine oi ?_) | (with_reducible refine cExitMiss ?_ ?_; rfl) | (with_reducible refine ok ?_; first | refine ACode.condT rfl ?_ | refine ACode.condF rfl ?_)
  refine AOps.call1 hΓc rfl rfl rfl rfl rfl rfl rfl (by simp) hou (UseOf_ok e he ou) fun r ou' hq hids hou' => ?_
  clear hids hou'
  obtain ⟨rfl, hq⟩ := hq
  rcases hq with ⟨h, rfl⟩ | ⟨h, l, hp, rfl⟩
  · have h0 : (check e != 0) = true := by simpa using h
    repeat first | (with_reducible refine oj ?_; refine AOps.auto tabOk rfl ?_) | (with_reducible first | refine o1 ?_ | refine o2 ?_ | refine o3 ?_ | refine o4 ?_ | refine o5 ?_ | refine o6 ?_ | refine o7 ?_ | refine o8 ?_ | refine o9 ?_ | refine oa ?_ | refine ob ?_ | refine oc ?_ | refine od ?_ | refine oe ?_ | refine og ?_ | refine oh ?_ | refine oi ?_) | (with_reducible refine cExitMiss ?_ ?_; rfl) | (with_reducible refine ok ?_; first | refine ACode.condT rfl ?_ | refine ACode.condF rfl ?_)
    refine ACode.cond rfl (fun hb => ?_) (fun hb => absurd h0 (by rw [hb]; simp))
    repeat first | (with_reducible refine oj ?_; refine AOps.auto tabOk rfl ?_) | (with_reducible first | refine o1 ?_ | refine o2 ?_ | refine o3 ?_ | refine o4 ?_ | refine o5 ?_ | refine o6 ?_ | refine o7 ?_ | refine o8 ?_ | refine o9 ?_ | refine oa ?_ | refine ob ?_ | refine oc ?_ | refine od ?_ | refine oe ?_ | refine og ?_ | refine oh ?_ | refine oi ?_) | (with_reducible refine cExitMiss ?_ ?_; rfl) | (with_reducible refine ok ?_; first | refine ACode.condT rfl ?_ | refine ACode.condF rfl ?_)
    refine AOps.callC hΓc usageFact_ok rfl rfl rfl rfl rfl rfl rfl hou (by simp) ?_
    repeat first | (with_reducible refine oj ?_; refine AOps.auto tabOk rfl ?_) | (with_reducible first | refine o1 ?_ | refine o2 ?_ | refine o3 ?_ | refine o4 ?_ | refine o5 ?_ | refine o6 ?_ | refine o7 ?_ | refine o8 ?_ | refine o9 ?_ | refine oa ?_ | refine ob ?_ | refine oc ?_ | refine od ?_ | refine oe ?_ | refine og ?_ | refine oh ?_ | refine oi ?_) | (with_reducible refine cExitMiss ?_ ?_; rfl) | (with_reducible refine ok ?_; first | refine ACode.condT rfl ?_ | refine ACode.condF rfl ?_)
    exact APure.fin rfl (WkF.ofEq rfl) (by simp) hou rfl
  have t1 := body_isTree h
  have hll : l.length ≤ 1048576 * 4194304 := by
    rw [hp.length_eq]
    unfold useOf useL
    rw [List.length_map]
    exact Nat.le_trans (flat_le (c := 4194304) fun x hx => (he.ex x hx).1) (Nat.mul_le_mul_right _ hel)
  have hlh : ∀ u ∈ l, (e.any (occV u.1) == (u.2 == 0)) = false := fun u hu => by
    have h1 := hp.mem_iff.1 hu
    unfold useOf useL at h1
    obtain ⟨n, _, rfl⟩ := List.mem_map.1 h1
    have h2 := use_never t1 n
    simp only
    cases h3 : e.any (occV n) with
    | false => rw [h3] at h2; simp [h2.2 rfl]
    | true =>
      rw [h3] at h2
      have : howU (useS e) n ≠ 0 := fun e => by have := h2.1 e; cases this
      simp [this]
  repeat first | (with_reducible refine oj ?_; refine AOps.auto tabOk rfl ?_) | (with_reducible first | refine o1 ?_ | refine o2 ?_ | refine o3 ?_ | refine o4 ?_ | refine o5 ?_ | refine o6 ?_ | refine o7 ?_ | refine o8 ?_ | refine o9 ?_ | refine oa ?_ | refine ob ?_ | refine oc ?_ | refine od ?_ | refine oe ?_ | refine og ?_ | refine oh ?_ | refine oi ?_) | (with_reducible refine cExitMiss ?_ ?_; rfl) | (with_reducible refine ok ?_; first | refine ACode.condT rfl ?_ | refine ACode.condF rfl ?_)
  refine ACode.loopR hΓc (α := Nat) (fun i => [(23, .one (int i)), (22, .one (int (l.map cUs).length)), (21, .one (.sl 2 (l.map cUs))), (0, .one (.sl 5 (e.map cEx)))])
    (fun i => ⟨0, [], ou'⟩) (fun m i => i ≤ l.length ∧ m = l.length - i) (a0 := 0) (ρ := id) ⟨by omega, rfl⟩ (LessR.of rfl (by (repeat' first | exact FrSub.nil | refine FrSub.cons rfl (.ofEq rfl) ?_ | refine FrSub.oa rfl rfl ?_ | refine FrSub.consP rfl (.ofEq rfl) (by simp) ?_)) (by simp) (by repeat' first | exact LoSub.nil | refine LoSub.cons rfl ?_ rfl (by first | (simp; done) | exact ids_oaO (by simp)) ?_ | rfl | (refine (AObj.ren_pure _ _ ?_).symm; simp; done) | exact (ren_oaO _ _ _ _ fun _ => ids_vec (by simp; done)).symm | (simp [AObj.ren, renL, AC.ren]; done) | (simp [AObj.ren, renL, AC.ren]; rfl)) rfl rfl hou) fun m i hi => ?_
  obtain ⟨hil, rfl⟩ := hi
  repeat first | (with_reducible refine oj ?_; refine AOps.auto tabOk rfl ?_) | (with_reducible first | refine o1 ?_ | refine o2 ?_ | refine o3 ?_ | refine o4 ?_ | refine o5 ?_ | refine o6 ?_ | refine o7 ?_ | refine o8 ?_ | refine o9 ?_ | refine oa ?_ | refine ob ?_ | refine oc ?_ | refine od ?_ | refine oe ?_ | refine og ?_ | refine oh ?_ | refine oi ?_) | (with_reducible refine cExitMiss ?_ ?_; rfl) | (with_reducible refine ok ?_; first | refine ACode.condT rfl ?_ | refine ACode.condF rfl ?_)
  refine ACode.cond rfl (fun hb => ?_) (fun hb => ?_)
  · have hlt : i < l.length := by simpa using hb
    obtain ⟨u, hu⟩ := get_of_lt hlt
    have hlu := hlh u (List.mem_of_getElem? hu)
    repeat first | (with_reducible refine oj ?_; refine AOps.auto tabOk rfl ?_) | (with_reducible first | refine o1 ?_ | refine o2 ?_ | refine o3 ?_ | refine o4 ?_ | refine o5 ?_ | refine o6 ?_ | refine o7 ?_ | refine o8 ?_ | refine o9 ?_ | refine oa ?_ | refine ob ?_ | refine oc ?_ | refine od ?_ | refine oe ?_ | refine og ?_ | refine oh ?_ | refine oi ?_) | (with_reducible refine cExitMiss ?_ ?_; rfl) | (with_reducible refine ok ?_; first | refine ACode.condT rfl ?_ | refine ACode.condF rfl ?_)
    refine AOps.step1 rfl rfl rfl (AStep.indexAddr tabOk rfl rfl rfl rfl rfl rfl (.inl rfl) rfl (by omega) (map_get hu)) ?_
    iterate 3 (first | (with_reducible refine oj ?_; refine AOps.auto tabOk rfl ?_) | (with_reducible first | refine o1 ?_ | refine o2 ?_ | refine o3 ?_ | refine o4 ?_ | refine o5 ?_ | refine o6 ?_ | refine o7 ?_ | refine o8 ?_ | refine o9 ?_ | refine oa ?_ | refine ob ?_ | refine oc ?_ | refine od ?_ | refine oe ?_ | refine og ?_ | refine oh ?_ | refine oi ?_) | (with_reducible refine cExitMiss ?_ ?_; rfl) | (with_reducible refine ok ?_; first | refine ACode.condT rfl ?_ | refine ACode.condF rfl ?_))
    refine AOps.freeze1 (.l 0) 6 rfl rfl ?_
    repeat first | (with_reducible refine oj ?_; refine AOps.auto tabOk rfl ?_) | (with_reducible first | refine o1 ?_ | refine o2 ?_ | refine o3 ?_ | refine o4 ?_ | refine o5 ?_ | refine o6 ?_ | refine o7 ?_ | refine o8 ?_ | refine o9 ?_ | refine oa ?_ | refine ob ?_ | refine oc ?_ | refine od ?_ | refine oe ?_ | refine og ?_ | refine oh ?_ | refine oi ?_) | (with_reducible refine cExitMiss ?_ ?_; rfl) | (with_reducible refine ok ?_; first | refine ACode.condT rfl ?_ | refine ACode.condF rfl ?_)
    refine AOps.callC hΓc (ExAny_ok hΓc 29 [.box (cUs u)] (by simp) (occV u.1) e hel (fun x _ => neverF_ok x u)) rfl rfl rfl rfl rfl rfl rfl hou (by simp) ?_
    repeat first | (with_reducible refine oj ?_; refine AOps.auto tabOk rfl ?_) | (with_reducible first | refine o1 ?_ | refine o2 ?_ | refine o3 ?_ | refine o4 ?_ | refine o5 ?_ | refine o6 ?_ | refine o7 ?_ | refine o8 ?_ | refine o9 ?_ | refine oa ?_ | refine ob ?_ | refine oc ?_ | refine od ?_ | refine oe ?_ | refine og ?_ | refine oh ?_ | refine oi ?_) | (with_reducible refine cExitMiss ?_ ?_; rfl) | (with_reducible refine ok ?_; first | refine ACode.condT rfl ?_ | refine ACode.condF rfl ?_)
    refine AOps.step1 rfl rfl rfl (AStep.eqBool Tryd.underlying4 rfl rfl rfl) ?_
    repeat first | (with_reducible refine oj ?_; refine AOps.auto tabOk rfl ?_) | (with_reducible first | refine o1 ?_ | refine o2 ?_ | refine o3 ?_ | refine o4 ?_ | refine o5 ?_ | refine o6 ?_ | refine o7 ?_ | refine o8 ?_ | refine o9 ?_ | refine oa ?_ | refine ob ?_ | refine oc ?_ | refine od ?_ | refine oe ?_ | refine og ?_ | refine oh ?_ | refine oi ?_) | (with_reducible refine cExitMiss ?_ ?_; rfl) | (with_reducible refine ok ?_; first | refine ACode.condT rfl ?_ | refine ACode.condF rfl ?_)
    refine ACode.cond rfl (fun hb2 => absurd hb2 (by rw [hlu]; simp)) (fun _ => ?_)
    repeat' first | (with_reducible refine oj ?_; refine AOps.auto tabOk rfl ?_) | (with_reducible first | refine o1 ?_ | refine o2 ?_ | refine o3 ?_ | refine o4 ?_ | refine o5 ?_ | refine o6 ?_ | refine o7 ?_ | refine o8 ?_ | refine o9 ?_ | refine oa ?_ | refine ob ?_ | refine oc ?_ | refine od ?_ | refine oe ?_ | refine og ?_ | refine oh ?_ | refine oi ?_) | (with_reducible refine cExitMiss ?_ ?_; rfl) | (with_reducible refine ok ?_; first | refine ACode.condT rfl ?_ | refine ACode.condF rfl ?_) | (with_reducible refine oj ?_; first | refine AOps.step1 rfl rfl rfl (AStep.arith rfl rfl rfl (.inl ⟨rfl, rfl⟩) (inRange_i64 (by first | omega | (simp; omega)) (by first | omega | (simp; omega)))) ?_ | refine AOps.step1 rfl rfl rfl (AStep.arith rfl rfl rfl (.inr (.inl ⟨rfl, rfl⟩)) (inRange_i64 (by first | omega | (simp; omega)) (by first | omega | (simp; omega)))) ?_ | refine AOps.step1 rfl rfl rfl (AStep.neBool Tryd.underlying4 rfl rfl rfl) ?_ | refine AOps.step1 rfl rfl rfl (AStep.eqBool Tryd.underlying4 rfl rfl rfl) ?_ | refine AOps.step1 rfl rfl rfl (AStep.max2 (t := 3) (ty := 3) rfl rfl rfl) ?_ | refine AOps.step1 rfl rfl rfl (AStep.min2 (t := 3) (ty := 3) rfl rfl rfl) ?_ | refine AOps.unG rfl rfl rfl ?_)
    exact cInv ⟨l.length - (i + 1), i + 1, id, by omega, ⟨by omega, rfl⟩, LessR.of rfl (by (repeat' first | exact FrSub.nil | refine FrSub.cons rfl (.ofEq rfl) ?_ | refine FrSub.oa rfl rfl ?_ | refine FrSub.consP rfl (.ofEq rfl) (by simp) ?_)) (by simp) (by repeat' first | exact LoSub.nil | refine LoSub.cons rfl ?_ rfl (by first | (simp; done) | exact ids_oaO (by simp)) ?_ | rfl | (refine (AObj.ren_pure _ _ ?_).symm; simp; done) | exact (ren_oaO _ _ _ _ fun _ => ids_vec (by simp; done)).symm | (simp [AObj.ren, renL, AC.ren]; done) | (simp [AObj.ren, renL, AC.ren]; rfl)) rfl rfl hou⟩
  · have hlt : i = l.length := by simp at hb; omega
    subst hlt
    repeat first | (with_reducible refine oj ?_; refine AOps.auto tabOk rfl ?_) | (with_reducible first | refine o1 ?_ | refine o2 ?_ | refine o3 ?_ | refine o4 ?_ | refine o5 ?_ | refine o6 ?_ | refine o7 ?_ | refine o8 ?_ | refine o9 ?_ | refine oa ?_ | refine ob ?_ | refine oc ?_ | refine od ?_ | refine oe ?_ | refine og ?_ | refine oh ?_ | refine oi ?_) | (with_reducible refine cExitMiss ?_ ?_; rfl) | (with_reducible refine ok ?_; first | refine ACode.condT rfl ?_ | refine ACode.condF rfl ?_)
    refine AOps.callC hΓc usageFact_ok rfl rfl rfl rfl rfl rfl rfl hou (by simp) ?_
    repeat first | (with_reducible refine oj ?_; refine AOps.auto tabOk rfl ?_) | (with_reducible first | refine o1 ?_ | refine o2 ?_ | refine o3 ?_ | refine o4 ?_ | refine o5 ?_ | refine o6 ?_ | refine o7 ?_ | refine o8 ?_ | refine o9 ?_ | refine oa ?_ | refine ob ?_ | refine oc ?_ | refine od ?_ | refine oe ?_ | refine og ?_ | refine oh ?_ | refine oi ?_) | (with_reducible refine cExitMiss ?_ ?_; rfl) | (with_reducible refine ok ?_; first | refine ACode.condT rfl ?_ | refine ACode.condF rfl ?_)
    exact APure.fin rfl (WkF.ofEq rfl) (by simp) hou rfl
end Go.Proofs.YtnonkoeknpmcjaaDoor
/- What a row's reading gives: expressions as plain data, and what the bound on their bulk gives. -/
namespace Go.Proofs.YtnonkoeknpmcjaaDoor
open Go Go.Abs Go.CoreX
set_option maxRecDepth 10000
set_option linter.unusedVariables false
set_option linter.unusedSimpArgs false
theorem bulkAll_eq {H : Type} : ∀ l : List (DataW H), Rows.uptoBulkAll l = bulkAll Rows.uptoBulk l
  | [] => rfl
  | d :: l => by simp only [Rows.uptoBulkAll, bulkAll, List.map_cons, List.sum_cons] at *; rw [bulkAll_eq l]; rfl
theorem bulk_agg {H : Type} (l : List (DataW H)) : bulkAll Rows.uptoBulk l + 1 ≤ Rows.uptoBulk (.agg l) := by
  simp only [Rows.uptoBulk, bulkAll_eq]; omega
theorem bulk_slice {H : Type} (l r : List (DataW H)) : bulkAll Rows.uptoBulk l + 1 ≤ Rows.uptoBulk (.slice l r) := by
  simp only [Rows.uptoBulk, bulkAll_eq]; omega
theorem bulk_nil {H : Type} : 1 ≤ Rows.uptoBulk (DataW.nil : DataW H) := by simp [Rows.uptoBulk]
section
variable {H : Type} {enc : TypeId × Value → H} {w : World}
abbrev I64 := {i : Int // IntKind.i64.min ≤ i ∧ i ≤ IntKind.i64.max}
theorem opens_int (n : Nat) : Opens enc Tryd.prog w Rows.uptoBulk 3 n (fun i : I64 => [int i.1]) (fun _ => 1) := by
  intro cs x h
  obtain ⟨i, rfl, rfl, hw⟩ := DataW.trod_int Tryd.underlying3 h
  refine ⟨⟨i, ?_⟩, ⟨_, _, rfl, ⟨rfl, rfl⟩, rfl⟩, by simp [Rows.uptoBulk]⟩
  simpa [Lit.wf] using hw
theorem opens_slice {t e : TypeId} {s : Nat} (ht : Tryd.prog.underlying t = some (.slice e)) (hs : Tryd.prog.cellsOf e = s) (h0 : 0 < s) {α : Type} {c : α → List AC} {wt : α → Nat} (n : Nat) (he : ∀ m, m < n → Opens enc Tryd.prog w Rows.uptoBulk e m c wt) :
    Opens enc Tryd.prog w Rows.uptoBulk t n (fun l : List α => [.sl s (l.map c)]) (fun l => wtAll wt l + 1) := by
  cases n with
  | zero => exact Opens.zero
  | succ n => exact Opens.slice bulk_slice bulk_nil ht hs h0 (he n (by omega))
theorem wt_one {α : Type} (l : List α) : wtAll (fun _ => 1) l = l.length := by
  unfold wtAll
  induction l with
  | nil => rfl
  | cons a l ih => simp only [List.map_cons, List.sum_cons, List.length_cons, ih]; omega
/-- Lists of numbers, as they open. -/
theorem opens_ints (n : Nat) : Opens enc Tryd.prog w Rows.uptoBulk 30 n (fun l : List Int => [.sl 1 (l.map cI)]) (fun l => l.length + 1) := by
  refine Opens.as (opens_slice Tryd.underlying30 (s := 1) (by kernel_rfl) (by omega) n (fun m _ => opens_int m)) fun l => ⟨l.map (·.1), ?_, ?_⟩
  · simp only [List.map_map]; rfl
  · rw [wt_one]; simp
def bAlt (a : Alt) : Nat := a.binds.length + 3
def bAlts (l : List Alt) : Nat := (l.map bAlt).sum
def bEx (x : Ex) : Nat := x.binds.length + x.kids.length + bAlts x.alts + 6
def bExs (l : List Ex) : Nat := (l.map bEx).sum
theorem opensAlt (n : Nat) : Opens enc Tryd.prog w Rows.uptoBulk 63 n cAlt bAlt := by
  cases n with
  | zero => exact Opens.zero
  | succ n =>
    refine Opens.as (Opens.struct bulk_agg Tryd.underlying63 (.cons rfl (by kernel_rfl) (opens_int n) (fun _ => rfl) (.cons rfl (by kernel_rfl) (opens_ints n) (fun _ => rfl) (.nil _))) (fun _ => (show (2 : Nat) = _ by kernel_rfl))) ?_
    rintro ⟨i, l, _⟩
    exact ⟨⟨i.1, l⟩, rfl, by show l.length + 3 ≤ 1 + (l.length + 1 + 0) + 1; omega⟩
theorem opensEx (n : Nat) : Opens enc Tryd.prog w Rows.uptoBulk 35 n cEx bEx := by
  cases n with
  | zero => exact Opens.zero
  | succ n =>
    have ha := opens_slice (enc := enc) (w := w) (t := 33) Tryd.underlying33 (s := 2) (by kernel_rfl) (by omega) n (fun m _ => opensAlt m)
    refine Opens.as (Opens.struct bulk_agg Tryd.underlying35 (.cons rfl (by kernel_rfl) (opens_int n) (fun _ => rfl) (.cons rfl (by kernel_rfl) (opens_int n) (fun _ => rfl) (.cons rfl (by kernel_rfl) (opens_ints n) (fun _ => rfl) (.cons rfl (by kernel_rfl) (opens_ints n) (fun _ => rfl) (.cons rfl (by kernel_rfl) ha (fun _ => rfl) (.nil _)))))) (fun _ => (show (5 : Nat) = _ by kernel_rfl))) ?_
    rintro ⟨i, j, b, k, l, _⟩
    refine ⟨⟨i.1, j.1, b, k, l⟩, rfl, ?_⟩
    show b.length + k.length + bAlts l + 6 ≤ 1 + (1 + (b.length + 1 + (k.length + 1 + (wtAll bAlt l + 1 + 0)))) + 1
    have : wtAll bAlt l = bAlts l := rfl
    omega
theorem opensExs (n : Nat) : Opens enc Tryd.prog w Rows.uptoBulk 22 n (fun l : List Ex => [.sl 5 (l.map cEx)]) (fun l => bExs l + 1) :=
  opens_slice Tryd.underlying22 (s := 5) (by kernel_rfl) (by omega) n (fun m _ => opensEx m)
theorem rf_slice {t e : TypeId} {base : Nat} {r : Reach} {W : World} {v : Value} {C : Ctx} {c : AC} (ht : Tryd.prog.underlying t = some (.slice e)) (h : Value.okWide Tryd.prog W r base t v) (hr : RV W C [c] v.cells.toList) : RF W C (.one c) v := by
  obtain ⟨a, len, cap, rfl⟩ := WideShapes.okWide_slice ht h
  obtain ⟨u, us, he, h1, h2⟩ := hr
  simp [Value.cells] at he
  obtain ⟨rfl, rfl⟩ := he
  exact h1
end
theorem sum_mem {α : Type} {f : α → Nat} : ∀ {l : List α} {a : α}, a ∈ l → f a ≤ (l.map f).sum
  | b :: l, a, h => by
    simp only [List.map_cons, List.sum_cons]
    rcases List.mem_cons.1 h with rfl | h
    · omega
    · have := sum_mem (f := f) h; omega
theorem sum_len {α : Type} {f : α → Nat} (hf : ∀ a, 1 ≤ f a) : ∀ l : List α, l.length ≤ (l.map f).sum
  | [] => by simp
  | b :: l => by
    have h1 := hf b
    have h2 := sum_len hf l
    simp only [List.map_cons, List.sum_cons, List.length_cons]; omega
theorem bAlts_flat : ∀ l : List Alt, (l.flatMap (·.binds)).length ≤ bAlts l
  | [] => by simp [bAlts]
  | a :: l => by
    have := bAlts_flat l
    simp only [bAlts, bAlt, List.flatMap_cons, List.length_append, List.map_cons, List.sum_cons] at *
    omega
theorem okB_of {e : List Ex} (h : bExs e ≤ 1048576) : okB e := by
  have h1 := sum_len (f := bEx) (fun x => by simp only [bEx]; omega) e
  have hx : ∀ x ∈ e, bEx x ≤ 1048576 := fun x hx => by
    have h2 : bEx x ≤ bExs e := sum_mem hx
    omega
  have h1' : e.length ≤ bExs e := h1
  refine ⟨⟨by omega, fun x hx1 => ?_⟩, fun x hx1 => ?_⟩
  · have h2 := hx x hx1
    simp only [bEx] at h2
    have h3 := sum_len (f := bAlt) (fun a => by simp only [bAlt]; omega) x.alts
    have h3' : x.alts.length ≤ bAlts x.alts := h3
    refine ⟨by omega, by omega, by omega, fun a ha => ?_⟩
    have h4 : bAlt a ≤ bAlts x.alts := sum_mem ha
    simp only [bAlt] at h4
    omega
  · have h2 := hx x hx1
    simp only [bEx] at h2
    have h3 := bAlts_flat x.alts
    omega
theorem arity_cells {W : World} (h : laidMetH Tryd.prog [("provenance/core.arity", Rows.laid_provenance_core_arity)] W) : ∀ g cs, (g, cs) ∈ Γc → RG W (ctx0 W) cs g := by
  have ht : Lib.TabIs Tryd.prog W "provenance/core.arity" .i64 [2, 2, 2, 2, 2, 2, 2, 1, 2, 1, 2, 3] :=
    Lib.tabIs_of_head (rest := []) (g := 0) (t := 137) (n := 12) (by kernel_rfl) (by kernel_rfl) (by kernel_rfl) Tryd.underlying3 (by kernel_rfl) (by kernel_rfl) h
  have hg : Tryd.prog.globalNamed "provenance/core.arity" = some 0 := by kernel_rfl
  intro g cs hm
  simp [Γc] at hm
  obtain ⟨rfl, rfl⟩ := hm
  exact RG.ofVar hg ht rfl
end Go.Proofs.YtnonkoeknpmcjaaDoor
