/- instance: it finds what variables stand for. -/
import Derived.Test.YtoojdmgbffnmiaaDoorSub9
namespace Go.Proofs.YtoojdmgbffnmiaaDoor
open Go Go.Abs
set_option maxRecDepth 10000
set_option linter.unusedVariables false
set_option linter.unusedSimpArgs false
variable {Γ : List (Nat × List AC)}
abbrev Fnd := Int → Option Ty
/-- What a map of types holds. -/
structure MapIs (f : Fnd) (ck : Nat) (l : List (Nat × Int × Ty)) : Prop where
  born : ∀ x ∈ l, x.1 < ck
  nb : (l.map (·.1)).Nodup
  look : ∀ k, (l.find? (fun x => x.2.1 == k)).map (·.2.2) = f k
  nk : (l.map (·.2.1)).Nodup
def encM (l : List (Nat × Int × Ty)) : List (Nat × Value × FV) := l.map fun x => (x.1, .int .i64 x.2.1, .agg (cTy x.2.2))
theorem mFind_enc (k : Int) : ∀ l : List (Nat × Int × Ty), mFind (.int .i64 k) (encM l) = ((l.find? (fun x => x.2.1 == k)).map (·.2.2)).map (fun t => .agg (cTy t))
  | [] => rfl
  | (b, k', t) :: l => by
    have ih := mFind_enc k l
    simp only [encM, List.map_cons, mFind, keyDesc, List.find?_cons] at ih ⊢
    by_cases e : k' = k
    · subst e
      have h1 : (k' == k') = true := beq_self_eq_true k'
      simp [Instr.sameNow, h1]
    · have h1 : (k' == k) = false := beq_eq_false_iff_ne.2 e
      have h2 : (k == k') = false := beq_eq_false_iff_ne.2 (Ne.symm e)
      simp only [h1]
      have : Instr.sameNow (.int .i64) (.int .i64 k) (.int .i64 k') = some false := by simp [Instr.sameNow, h2]
      rw [this]
      exact ih
theorem mPut_enc (k : Int) (t : Ty) (ck : Nat) : ∀ l : List (Nat × Int × Ty), (l.find? (fun x => x.2.1 == k)) = none → mPut (.int .i64 k) (.agg (cTy t)) ck (encM l) = (encM (l ++ [(ck, k, t)]), ck + 1)
  | [], _ => rfl
  | (b, k', t') :: l, h => by
    simp only [List.find?_cons] at h
    cases h1 : (k' == k) with
    | true => rw [h1] at h; cases h
    | false =>
      rw [h1] at h
      have ih := mPut_enc k t ck l h
      have h2 : (k == k') = false := beq_eq_false_iff_ne.2 (Ne.symm (beq_eq_false_iff_ne.1 h1))
      have : Instr.sameNow (.int .i64) (.int .i64 k) (.int .i64 k') = some false := by simp [Instr.sameNow, h2]
      simp only [encM, List.map_cons, mPut, keyDesc, List.cons_append] at ih ⊢
      rw [this]
      simp only [ih]
def put (f : Fnd) (k : Int) (t : Ty) : Fnd := fun i => if i = k then some t else f i
theorem MapIs.put {f : Fnd} {ck : Nat} {l : List (Nat × Int × Ty)} (h : MapIs f ck l) {k : Int} {t : Ty} (hk : f k = none) : MapIs (put f k t) (ck + 1) (l ++ [(ck, k, t)]) := by
  have hno : ∀ x ∈ l, x.2.1 ≠ k := fun x hx e => by
    have h1 := h.look k
    rw [hk] at h1
    have h2 : l.find? (fun x => x.2.1 == k) = none := by simpa using h1
    have := List.find?_eq_none.1 h2 x hx
    simp [e] at this
  refine ⟨fun x hx => ?_, ?_, fun i => ?_, ?_⟩
  · rcases List.mem_append.1 hx with hx | hx
    · have := h.born x hx; omega
    · simp at hx; subst hx; exact Nat.lt_succ_self _
  · rw [List.map_append, List.nodup_append]
    refine ⟨h.nb, by simp, fun a ha b hb e => ?_⟩
    simp at hb
    obtain ⟨x, hx, rfl⟩ := List.mem_map.1 ha
    have := h.born x hx
    omega
  · rw [List.find?_append]
    unfold YtoojdmgbffnmiaaDoor.put
    by_cases e : i = k
    · subst e
      rw [if_pos rfl, List.find?_eq_none.2 (fun x hx => by simpa using hno x hx)]
      simp
    · rw [if_neg e, ← h.look i]
      have : ((k : Int) == i) = false := beq_eq_false_iff_ne.2 (Ne.symm e)
      cases hf : l.find? (fun x => x.2.1 == i) with
      | none => simp [this]
      | some x => simp
  · rw [List.map_append, List.nodup_append]
    refine ⟨h.nk, by simp, fun a ha b hb e => ?_⟩
    simp at hb
    obtain ⟨x, hx, rfl⟩ := List.mem_map.1 ha
    exact hno x hx (by omega)
/-- The heads of two types differ. -/
def instNo (k : Int) (n : Str) (b : Ty) : Bool := k != b.kind || ((k == 1 || k == 5) && !(n.toList == b.name.toList))
mutual
/-- What instance answers, and what it has found behind it. -/
def inst (f : Fnd) : Ty → Ty → Bool × Fnd
  | .mk k n v us, b => if k = 0 then (match f v with | some t => (sameTy t b, f) | none => (true, put f v b))
    else if instNo k n b = true then (false, f) else if us.length ≠ b.args.length then (false, f) else insts f us b.args
def insts (f : Fnd) : List Ty → List Ty → Bool × Fnd
  | a :: us, b :: vs => if (inst f a b).1 then insts (inst f a b).2 us vs else (false, (inst f a b).2)
  | [], _ => (true, f)
  | _ :: _, [] => (true, f)
end
def smallF (f : Fnd) : Prop := ∀ k t, f k = some t → smallTy t
theorem smallF_put {f : Fnd} (h : smallF f) {k : Int} {t : Ty} (ht : smallTy t) : smallF (put f k t) := fun i u hu => by
  unfold put at hu
  split at hu
  · injection hu with hu; subst hu; exact ht
  · exact h i u hu
mutual
theorem smallF_inst : ∀ (a : Ty) {f : Fnd} {b : Ty}, smallF f → smallTy b → smallF (inst f a b).2
  | .mk k n v us, f, b, hf, hb => by
    unfold inst
    split
    · cases h : f v with
      | none => exact smallF_put hf hb
      | some t => exact hf
    · split
      · exact hf
      · split
        · exact hf
        · exact smallF_insts us hf (by cases b; exact hb.2)
theorem smallF_insts : ∀ (us : List Ty) {f : Fnd} {vs : List Ty}, smallF f → smallTys vs → smallF (insts f us vs).2
  | [], f, vs, hf, _ => by simpa [insts] using hf
  | a :: us, f, [], hf, _ => by simpa [insts] using hf
  | a :: us, f, b :: vs, hf, hv => by
    unfold insts
    split
    · exact smallF_insts us (smallF_inst a hf hv.1) hv.2
    · exact smallF_inst a hf hv.1
end
def ouF (ck : Nat) (l : List (Nat × Int × Ty)) : Outer := ouOf [.cells [.mp (.o 1)], .map ck (encM l)]
theorem ouF_ok (ck : Nat) (l : List (Nat × Int × Ty)) : OuOk (ouF ck l) := by
  intro k o h
  match k, h with
  | 0, h => simp [ouF, ouOf] at h; subst h; simp
  | 1, h =>
    simp [ouF, ouOf] at h; subst h
    intro x hx
    simp [encM] at hx
    obtain ⟨a, b, c, _, rfl⟩ := hx
    simp
  | k + 2, h => simp [ouF, ouOf] at h
/-- What instance does to the map. -/
def InstQ (r : Bool × Fnd) (x : FV) (ou' : Outer) : Prop := x = .one (.lit (.bool r.1)) ∧ ∃ ck l, ou' = ouF ck l ∧ MapIs r.2 ck l
def InstOk (Γ : List (Nat × List AC)) (a b : Ty) : Prop := ∀ (f : Fnd) (ck : Nat) (l : List (Nat × Int × Ty)), smallF f → MapIs f ck l →
  AFn Tryd.prog Γ 58 [.one (.ptr (.o 0) 0), .agg (cTy a), .agg (cTy b)] (ouF ck l) (InstQ (inst f a b))
theorem AFn.fin {E : Env} {fn : Func} {fr : Fr} {σ : St} {Q : FV → Outer → Prop} {r r' : FV} (h : aRes E.T fr σ fn.results.toList = some r) (hw : WkF r r') (hi : r'.ids isO) (ho : OuOk σ.ou) (hq : Q r' σ.ou) : Fin E fn Q fr σ := ⟨r, r', h, hw, hi, ho, hq⟩
theorem insts_step : ∀ {us vs : List Ty} {f : Fnd} {j : Nat} {a b : Ty}, us[j]? = some a → vs[j]? = some b → (insts f (us.take j) (vs.take j)).1 = true → insts f (us.take (j + 1)) (vs.take (j + 1)) = inst (insts f (us.take j) (vs.take j)).2 a b
  | [], vs, f, j, a, b, h, _, _ => by simp at h
  | u :: us, [], f, j, a, b, _, h, _ => by simp at h
  | u :: us, v :: vs, f, 0, a, b, h, h', _ => by
    simp at h h'; subst h; subst h'
    simp only [List.take_succ_cons, List.take_zero, insts]
    split
    · rename_i h1; rw [← h1]
    · rename_i h1
      have h2 : (inst f u v).1 = false := by simpa using h1
      rw [← h2]
  | u :: us, v :: vs, f, j + 1, a, b, h, h', ht => by
    simp only [List.take_succ_cons, insts] at ht ⊢
    cases h1 : (inst f u v).1 with
    | false => rw [h1] at ht; simp at ht
    | true =>
      simp only [h1, if_true] at ht ⊢
      exact insts_step (us := us) (vs := vs) (by simpa using h) (by simpa using h') ht
theorem insts_fail : ∀ {us vs : List Ty} {f : Fnd} {j : Nat} {a b : Ty}, us[j]? = some a → vs[j]? = some b → (insts f (us.take j) (vs.take j)).1 = true → (inst (insts f (us.take j) (vs.take j)).2 a b).1 = false → insts f us vs = inst (insts f (us.take j) (vs.take j)).2 a b
  | [], vs, f, j, a, b, h, _, _, _ => by simp at h
  | u :: us, [], f, j, a, b, _, h, _, _ => by simp at h
  | u :: us, v :: vs, f, 0, a, b, h, h', _, hf => by
    simp at h h'; subst h; subst h'
    simp only [List.take_zero, insts] at hf ⊢
    rw [hf]
    simp only [Bool.false_eq_true, if_false]
    rw [← hf]
  | u :: us, v :: vs, f, j + 1, a, b, h, h', ht, hf => by
    simp only [List.take_succ_cons, insts] at ht hf ⊢
    cases h1 : (inst f u v).1 with
    | false => rw [h1] at ht; simp at ht
    | true =>
      simp only [h1, if_true] at ht hf ⊢
      exact insts_fail (us := us) (vs := vs) (by simpa using h) (by simpa using h') ht hf
theorem EqualFuncI (hΓ : ∀ g cs, (g, cs) ∈ Γ → idsL isO cs) (us vs : List Ty) (hus : us.length ≤ 1048576) (hvs : vs.length ≤ 1048576) (hsv : smallTys vs) (ih : ∀ a ∈ us, ∀ b ∈ vs, InstOk Γ a b) (f : Fnd) (ck : Nat) (l : List (Nat × Int × Ty)) (hf : smallF f) (hm : MapIs f ck l) :
    AFn Tryd.prog Γ 73 [.one (.sl 4 (encTys us)), .one (.sl 4 (encTys vs)), .one (.fn (.func 58) [.ptr (.o 0) 0] [])] (ouF ck l) (InstQ (if us.length ≠ vs.length then (false, f) else insts f us vs)) := by
  refine AFn.walk 32 tabOk Tryd.func73 rfl (by kernel_rfl) rfl rfl fun hou => ?_
  repeat first | (with_reducible refine oj ?_; refine AOps.auto tabOk rfl ?_) | (with_reducible first | refine o1 ?_ | refine o2 ?_ | refine o3 ?_ | refine o4 ?_ | refine o5 ?_ | refine o6 ?_ | refine o7 ?_ | refine o8 ?_ | refine o9 ?_ | refine oa ?_ | refine ob ?_ | refine oc ?_ | refine od ?_ | refine oe ?_ | refine og ?_ | refine oh ?_ | refine oi ?_) | (with_reducible refine cExitMiss ?_ ?_; rfl) | (with_reducible refine ok ?_; first | refine ACode.condT rfl ?_ | refine ACode.condF rfl ?_)
  refine ACode.cond rfl (fun hb => ?_) (fun hb => ?_)
  · have hne : us.length ≠ vs.length := by simp at hb; omega
    repeat first | (with_reducible refine oj ?_; refine AOps.auto tabOk rfl ?_) | (with_reducible first | refine o1 ?_ | refine o2 ?_ | refine o3 ?_ | refine o4 ?_ | refine o5 ?_ | refine o6 ?_ | refine o7 ?_ | refine o8 ?_ | refine o9 ?_ | refine oa ?_ | refine ob ?_ | refine oc ?_ | refine od ?_ | refine oe ?_ | refine og ?_ | refine oh ?_ | refine oi ?_) | (with_reducible refine cExitMiss ?_ ?_; rfl) | (with_reducible refine ok ?_; first | refine ACode.condT rfl ?_ | refine ACode.condF rfl ?_)
    refine AFn.fin rfl (WkF.refl _) (by simp) hou ?_
    rw [if_pos hne]
    exact ⟨rfl, ck, l, rfl, hm⟩
  have hle : us.length = vs.length := by simp at hb; omega
  rw [if_neg (by simpa using hle)]
  repeat first | (with_reducible refine oj ?_; refine AOps.auto tabOk rfl ?_) | (with_reducible first | refine o1 ?_ | refine o2 ?_ | refine o3 ?_ | refine o4 ?_ | refine o5 ?_ | refine o6 ?_ | refine o7 ?_ | refine o8 ?_ | refine o9 ?_ | refine oa ?_ | refine ob ?_ | refine oc ?_ | refine od ?_ | refine oe ?_ | refine og ?_ | refine oh ?_ | refine oi ?_) | (with_reducible refine cExitMiss ?_ ?_; rfl) | (with_reducible refine ok ?_; first | refine ACode.condT rfl ?_ | refine ACode.condF rfl ?_)
  refine ACode.loopR hΓ (α := Nat × Nat × List (Nat × Int × Ty)) (fun a => [(17, .one (int a.1)), (16, .one (int (encTys us).length)), (15, .one (.sl 4 (encTys us))), (2, .one (.fn (.func 58) [.ptr (.o 0) 0] [])), (1, .one (.sl 4 (encTys vs)))])
    (fun a => ⟨0, [], ouF a.2.1 a.2.2⟩) (fun m a => a.1 ≤ us.length ∧ (insts f (us.take a.1) (vs.take a.1)).1 = true ∧ MapIs (insts f (us.take a.1) (vs.take a.1)).2 a.2.1 a.2.2 ∧ m = us.length - a.1) (a0 := (0, ck, l)) (ρ := id) ⟨by simp, by simp [insts], by simpa [insts] using hm, rfl⟩ (LessR.of rfl (by (repeat' first | exact FrSub.nil | refine FrSub.cons rfl (.ofEq rfl) ?_ | refine FrSub.consP rfl (.ofEq rfl) (by simp) ?_)) (by simp) (by repeat' first | exact LoSub.nil | refine LoSub.cons rfl ?_ rfl (by simp) ?_ | rfl | (refine (AObj.ren_pure _ _ ?_).symm; simp; done) | (simp [AObj.ren, renL, AC.ren, cTy]; done) | (simp [AObj.ren, renL, AC.ren, cTy]; rfl)) rfl rfl hou) fun m a hj => ?_
  obtain ⟨j, ck', l'⟩ := a
  obtain ⟨hjl, ht, hm', rfl⟩ := hj
  simp only at hjl ht hm'
  repeat first | (with_reducible refine oj ?_; refine AOps.auto tabOk rfl ?_) | (with_reducible first | refine o1 ?_ | refine o2 ?_ | refine o3 ?_ | refine o4 ?_ | refine o5 ?_ | refine o6 ?_ | refine o7 ?_ | refine o8 ?_ | refine o9 ?_ | refine oa ?_ | refine ob ?_ | refine oc ?_ | refine od ?_ | refine oe ?_ | refine og ?_ | refine oh ?_ | refine oi ?_) | (with_reducible refine cExitMiss ?_ ?_; rfl) | (with_reducible refine ok ?_; first | refine ACode.condT rfl ?_ | refine ACode.condF rfl ?_)
  refine ACode.cond rfl (fun hb2 => ?_) (fun hb2 => ?_)
  · have hlt : j < us.length := by simpa using hb2
    obtain ⟨a, ha⟩ := get_of_lt hlt
    obtain ⟨b, hbb⟩ := get_of_lt (show j < vs.length by omega)
    have hma := List.mem_of_getElem? ha
    have hmb := List.mem_of_getElem? hbb
    have hf' : smallF (insts f (us.take j) (vs.take j)).2 := smallF_insts _ hf (smallTys_iff.2 fun t ht => smallTys_iff.1 hsv t (List.mem_of_mem_take ht))
    have hc := ih a hma b hmb _ ck' l' hf' hm'
    have hst := insts_step ha hbb ht
    have hfl := insts_fail ha hbb ht
    generalize hg : (insts f (us.take j) (vs.take j)).2 = g at hc hst hfl hm' hf'
    repeat first | (with_reducible refine oj ?_; refine AOps.auto tabOk rfl ?_) | (with_reducible first | refine o1 ?_ | refine o2 ?_ | refine o3 ?_ | refine o4 ?_ | refine o5 ?_ | refine o6 ?_ | refine o7 ?_ | refine o8 ?_ | refine o9 ?_ | refine oa ?_ | refine ob ?_ | refine oc ?_ | refine od ?_ | refine oe ?_ | refine og ?_ | refine oh ?_ | refine oi ?_) | (with_reducible refine cExitMiss ?_ ?_; rfl) | (with_reducible refine ok ?_; first | refine ACode.condT rfl ?_ | refine ACode.condF rfl ?_)
    refine AOps.step1 rfl rfl rfl (AStep.indexAddr tabOk rfl rfl rfl rfl rfl rfl (.inl rfl) rfl (by omega) (by simpa using encTys_get ha)) ?_
    repeat first | (with_reducible refine oj ?_; refine AOps.auto tabOk rfl ?_) | (with_reducible first | refine o1 ?_ | refine o2 ?_ | refine o3 ?_ | refine o4 ?_ | refine o5 ?_ | refine o6 ?_ | refine o7 ?_ | refine o8 ?_ | refine o9 ?_ | refine oa ?_ | refine ob ?_ | refine oc ?_ | refine od ?_ | refine oe ?_ | refine og ?_ | refine oh ?_ | refine oi ?_) | (with_reducible refine cExitMiss ?_ ?_; rfl) | (with_reducible refine ok ?_; first | refine ACode.condT rfl ?_ | refine ACode.condF rfl ?_)
    refine AOps.step1 rfl rfl rfl (AStep.indexAddr tabOk rfl rfl rfl rfl rfl rfl (.inl rfl) rfl (by omega) (by simpa using encTys_get hbb)) ?_
    repeat first | (with_reducible refine oj ?_; refine AOps.auto tabOk rfl ?_) | (with_reducible first | refine o1 ?_ | refine o2 ?_ | refine o3 ?_ | refine o4 ?_ | refine o5 ?_ | refine o6 ?_ | refine o7 ?_ | refine o8 ?_ | refine o9 ?_ | refine oa ?_ | refine ob ?_ | refine oc ?_ | refine od ?_ | refine oe ?_ | refine og ?_ | refine oh ?_ | refine oi ?_) | (with_reducible refine cExitMiss ?_ ?_; rfl) | (with_reducible refine ok ?_; first | refine ACode.condT rfl ?_ | refine ACode.condF rfl ?_)
    refine AOps.call1 hΓ rfl rfl rfl rfl rfl rfl rfl (by simp) (ouF_ok _ _) hc fun r ou' hq hids hou' => ?_
    obtain ⟨rfl, ck2, l2, rfl, hm2⟩ := hq
    repeat first | (with_reducible refine oj ?_; refine AOps.auto tabOk rfl ?_) | (with_reducible first | refine o1 ?_ | refine o2 ?_ | refine o3 ?_ | refine o4 ?_ | refine o5 ?_ | refine o6 ?_ | refine o7 ?_ | refine o8 ?_ | refine o9 ?_ | refine oa ?_ | refine ob ?_ | refine oc ?_ | refine od ?_ | refine oe ?_ | refine og ?_ | refine oh ?_ | refine oi ?_) | (with_reducible refine cExitMiss ?_ ?_; rfl) | (with_reducible refine ok ?_; first | refine ACode.condT rfl ?_ | refine ACode.condF rfl ?_)
    refine ACode.cond rfl (fun hb3 => ?_) (fun hb3 => ?_)
    · have hno : (inst g a b).1 = false := by simpa using hb3
      repeat first | (with_reducible refine oj ?_; refine AOps.auto tabOk rfl ?_) | (with_reducible first | refine o1 ?_ | refine o2 ?_ | refine o3 ?_ | refine o4 ?_ | refine o5 ?_ | refine o6 ?_ | refine o7 ?_ | refine o8 ?_ | refine o9 ?_ | refine oa ?_ | refine ob ?_ | refine oc ?_ | refine od ?_ | refine oe ?_ | refine og ?_ | refine oh ?_ | refine oi ?_) | (with_reducible refine cExitMiss ?_ ?_; rfl) | (with_reducible refine ok ?_; first | refine ACode.condT rfl ?_ | refine ACode.condF rfl ?_)
      refine AFn.fin rfl (WkF.refl _) (by simp) hou' ?_
      rw [hfl hno]
      exact ⟨by rw [hno], ck2, l2, rfl, hm2⟩
    · have hyes : (inst g a b).1 = true := by simpa using hb3
      repeat first | (with_reducible refine oj ?_; refine AOps.auto tabOk rfl ?_) | (with_reducible first | refine o1 ?_ | refine o2 ?_ | refine o3 ?_ | refine o4 ?_ | refine o5 ?_ | refine o6 ?_ | refine o7 ?_ | refine o8 ?_ | refine o9 ?_ | refine oa ?_ | refine ob ?_ | refine oc ?_ | refine od ?_ | refine oe ?_ | refine og ?_ | refine oh ?_ | refine oi ?_) | (with_reducible refine cExitMiss ?_ ?_; rfl) | (with_reducible refine ok ?_; first | refine ACode.condT rfl ?_ | refine ACode.condF rfl ?_)
      refine AOps.step1 rfl rfl rfl (AStep.arith rfl rfl rfl (.inl ⟨rfl, rfl⟩) (inRange_i64 (by omega) (by omega))) ?_
      repeat first | (with_reducible refine oj ?_; refine AOps.auto tabOk rfl ?_) | (with_reducible first | refine o1 ?_ | refine o2 ?_ | refine o3 ?_ | refine o4 ?_ | refine o5 ?_ | refine o6 ?_ | refine o7 ?_ | refine o8 ?_ | refine o9 ?_ | refine oa ?_ | refine ob ?_ | refine oc ?_ | refine od ?_ | refine oe ?_ | refine og ?_ | refine oh ?_ | refine oi ?_) | (with_reducible refine cExitMiss ?_ ?_; rfl) | (with_reducible refine ok ?_; first | refine ACode.condT rfl ?_ | refine ACode.condF rfl ?_)
      exact cInv ⟨us.length - (j + 1), (j + 1, ck2, l2), id, by show _ < _ - j; omega, ⟨by show j + 1 ≤ _; omega, by rw [hst]; exact hyes, by rw [hst]; exact hm2, rfl⟩, LessR.of rfl (by (repeat' first | exact FrSub.nil | refine FrSub.cons rfl (.ofEq rfl) ?_ | refine FrSub.consP rfl (.ofEq rfl) (by simp) ?_)) (by simp) (by repeat' first | exact LoSub.nil | refine LoSub.cons rfl ?_ rfl (by simp) ?_ | rfl | (refine (AObj.ren_pure _ _ ?_).symm; simp; done) | (simp [AObj.ren, renL, AC.ren, cTy]; done) | (simp [AObj.ren, renL, AC.ren, cTy]; rfl)) rfl rfl hou'⟩
  · have hlt : j = us.length := by simp at hb2; omega
    subst hlt
    rw [List.take_length, hle, List.take_length] at ht hm'
    repeat first | (with_reducible refine oj ?_; refine AOps.auto tabOk rfl ?_) | (with_reducible first | refine o1 ?_ | refine o2 ?_ | refine o3 ?_ | refine o4 ?_ | refine o5 ?_ | refine o6 ?_ | refine o7 ?_ | refine o8 ?_ | refine o9 ?_ | refine oa ?_ | refine ob ?_ | refine oc ?_ | refine od ?_ | refine oe ?_ | refine og ?_ | refine oh ?_ | refine oi ?_) | (with_reducible refine cExitMiss ?_ ?_; rfl) | (with_reducible refine ok ?_; first | refine ACode.condT rfl ?_ | refine ACode.condF rfl ?_)
    refine AFn.fin rfl (WkF.refl _) (by simp) (ouF_ok _ _) ?_
    exact ⟨by rw [ht], ck', l', rfl, hm'⟩
end Go.Proofs.YtoojdmgbffnmiaaDoor
/- The abstract layer, part W: a drawn region whose head makes an object and stores into it. No condition. -/
namespace Go.Abs
set_option linter.unusedVariables false
set_option linter.unusedSimpArgs false

/-- The heads, one by one: 'al' turns σ0 into σ1, 'st' σ1 into σ2, the others leave all three as they are. -/
def Heads3 (E : Env) (ops : Array Oper) (l : List Oper) (vs : List FV) (frb : Fr) (σ0 σ1 σ2 : St) (al st : Nat) : Nat → List Oper → List FV → Prop
  | _, [], [] => True
  | k, o :: os, v :: ws => (dstOk E.N o.dst = true ∧
      (if k = al then HStep E ops o (depFr l vs o ++ frb) σ0 σ1 v else if k = st then HStep E ops o (depFr l vs o ++ frb) σ1 σ2 v else
        HStep E ops o (depFr l vs o ++ frb) σ0 σ0 v ∧ HStep E ops o (depFr l vs o ++ frb) σ1 σ1 v ∧ HStep E ops o (depFr l vs o ++ frb) σ2 σ2 v)) ∧ Heads3 E ops l vs frb σ0 σ1 σ2 al st (k + 1) os ws
  | _, _, _ => False
section
variable {E : Env} {l : List Oper} {vs : List FV} {frb : Fr} {σ0 σ1 σ2 : St} {al st n : Nat} {K : Cont}
theorem Heads3.at {ops : Array Oper} : ∀ {os : List Oper} {ws : List FV} {k : Nat}, Heads3 E ops l vs frb σ0 σ1 σ2 al st k os ws → os.length = ws.length ∧ ∀ (i : Nat) (o : Oper), os[i]? = some o → ∃ v, ws[i]? = some v ∧ dstOk E.N o.dst = true ∧
      (if k + i = al then HStep E ops o (depFr l vs o ++ frb) σ0 σ1 v else if k + i = st then HStep E ops o (depFr l vs o ++ frb) σ1 σ2 v else
        HStep E ops o (depFr l vs o ++ frb) σ0 σ0 v ∧ HStep E ops o (depFr l vs o ++ frb) σ1 σ1 v ∧ HStep E ops o (depFr l vs o ++ frb) σ2 σ2 v)
  | [], [], k, _ => ⟨rfl, fun i o h => by simp at h⟩
  | [], _ :: _, k, h => h.elim
  | _ :: _, [], k, h => h.elim
  | o :: os, v :: ws, k, h => by
    obtain ⟨⟨h2, h3⟩, h4⟩ := h
    obtain ⟨h5, h6⟩ := Heads3.at h4
    refine ⟨by simp [h5], fun i p hi => ?_⟩
    cases i with
    | zero => simp at hi; subst hi; exact ⟨v, rfl, h2, by simpa using h3⟩
    | succ i =>
      obtain ⟨v', k1, k3, k4⟩ := h6 i p (by simpa using hi)
      refine ⟨v', by simpa using k1, k3, ?_⟩
      rw [show k + (i + 1) = k + 1 + i by omega]
      exact k4
/-- The store at a time. -/
def stAt (σ0 σ1 σ2 : St) (al st : Nat) (listed : Array Bool) : St := if listed.getD st false = true then σ2 else if listed.getD al false = true then σ1 else σ0
structure Mid3 (E : Env) (l : List Oper) (vs : List FV) (n al st : Nat) (frb : Fr) (σ0 σ1 σ2 : St) (F : Nat → Prop) (w0 : World) (C0 : Ctx) (listed : Array Bool) (a : Act) (w : World) : Prop where
  defers : a.defers = []
  ex : ∃ C, Goes F isO w0 C0 w C ∧ Inv E.Γ F w C (stAt σ0 σ1 σ2 al st listed) ∧ FrOk w C E.N frb a.tmps ∧
    ∀ (i : Nat) (o : Oper) (d : Nat) (v : FV), i < n → l[i]? = some o → o.dst = some d → vs[i]? = some v → listed.getD i false = true → ∃ u, a.tmps[d]? = some u ∧ RF w C v u

theorem mid_any3 (hB : drawB l n = true) (hfb : (dsts (l.take n)).all (fun d => (Fr.get d frb).isNone) = true) (hH : Heads3 E l.toArray l vs frb σ0 σ1 σ2 al st 0 (l.take n) vs) (haln : al < n) (hstn : st < n) (hne0 : al ≠ st)
    (hdep : ∃ (o : Oper) (e : _), l[st]? = some o ∧ e ∈ o.after ∧ Region.binds .any e = true ∧ e.on = al)
    (htail : AOps E l.toArray (l.drop n) K (headFr (l.take n) vs ++ frb) σ2) {F : Nat → Prop} {w0 : World} {C0 : Ctx} :
    ∀ (c : Nat) (listed : Array Bool) (a : Act) (w : World), ((List.range n).filter fun j => !listed.getD j false).length = c → HeadInv .any l.toArray n listed → Mid3 E l vs n al st frb σ0 σ1 σ2 F w0 C0 listed a w →
      wpAny E.P .any l.toArray (Post E F w0 C0 K) (c + (l.length - n)) listed a w := by
  simp only [drawB, Bool.and_eq_true, decide_eq_true_eq] at hB
  obtain ⟨⟨⟨⟨⟨hn, hs⟩, hc⟩, hsq⟩, hdi⟩, haf⟩ := hB
  obtain ⟨hlen, hat⟩ := hH.at
  have hsz : l.toArray.size = l.length := by simp
  intro c
  induction c with
  | zero =>
    intro listed a w hcnt hinv hmid
    have hall : ∀ j, j < n → listed.getD j false = true := by
      intro j hj
      have : (List.range n).filter (fun j => !listed.getD j false) = [] := List.eq_nil_of_length_eq_zero hcnt
      have h2 := List.filter_eq_nil_iff.1 this j (List.mem_range.2 hj)
      simpa using h2
    have hl : listed = listedTo l.length n := by
      apply Array.ext
      · simp [listedTo, hinv.size]
      · intro j h1 h2
        have hj : j < l.length := by simpa [listedTo] using h2
        have h3 : listed.getD j false = listed[j] := by simp [h1]
        simp only [listedTo, Array.getElem_map, Array.getElem_range]
        by_cases hjn : j < n
        · rw [← h3, hall j hjn]; simp [hjn]
        · have := hinv.tail j (by omega) (by rw [hsz]; exact hj)
          rw [getD_tf h1] at this
          rw [← h3, this]; simp [hjn]
    have hdl : (l.drop n).length = l.length - n := by simp
    rw [Nat.zero_add, ← hdl]
    refine wpAny_of_seq (md := .any) (l.drop n) n listed a w (fun j => by simp [List.getElem?_drop]) (by rw [hl, hdl]; exact hsq) ?_
    obtain ⟨hd, C, hg, hi, hf, hv⟩ := hmid
    have ha : a = ⟨a.tmps, []⟩ := by cases a; simp_all
    rw [ha]
    have hσ : stAt σ0 σ1 σ2 al st listed = σ2 := by
      unfold stAt
      rw [hall st hstn, if_pos rfl]
    rw [hσ] at hi
    refine htail F w0 C0 w C a.tmps hg hi ⟨hf.1, fun k x hk => ?_⟩
    rcases Fr.get_append hk with hk | ⟨_, hk⟩
    · obtain ⟨i, o, h1, h2, h3⟩ := headFr_mem (Fr.get_mem hk)
      have hin : i < n := by
        have := (List.getElem?_eq_some_iff.1 h1).1
        simp at this; omega
      rw [List.getElem?_take_of_lt hin] at h1
      exact hv i o k x hin h1 h2 h3 (hall i hin)
    · exact hf.2 k x hk
  | succ c ih =>
    intro listed a w hcnt hinv hmid
    have hex : ∃ i, i < n ∧ listed.getD i false = false ∧ ∀ j, j < i → listed.getD j false = true := by
      have hne : ∃ i, i < n ∧ listed.getD i false = false := by
        cases hL : (List.range n).filter (fun j => !listed.getD j false) with
        | nil => rw [hL] at hcnt; simp at hcnt
        | cons i L =>
          have : i ∈ (List.range n).filter (fun j => !listed.getD j false) := by rw [hL]; simp
          obtain ⟨h1, h2⟩ := List.mem_filter.1 this
          exact ⟨i, List.mem_range.1 h1, by simpa using h2⟩
      obtain ⟨i, hi⟩ := hne
      induction i using Nat.strongRecOn with
      | _ i ih2 =>
        by_cases h : ∃ j, j < i ∧ listed.getD j false = false
        · obtain ⟨j, hj, hj2⟩ := h
          exact ih2 j hj ⟨by omega, hj2⟩
        · exact ⟨i, hi.1, hi.2, fun j hj => (Bool.not_eq_false _).mp (fun hb => h ⟨j, hj, hb⟩)⟩
    obtain ⟨i0, hi0n, hi0u, hi0m⟩ := hex
    have hready : i0 ∈ Region.ready .any l.toArray listed := by
      rw [mem_ready]
      have hlt : i0 < l.length := by omega
      refine ⟨by rw [getD_tf (by rw [hinv.size, hsz]; exact hlt)]; exact hi0u, l[i0], by simp [hlt], fun e he hb => ?_⟩
      have h1 := List.all_eq_true.1 haf (l[i0], i0) (by
        rw [List.mem_zipIdx_iff_getElem?]
        rw [List.getElem?_take_of_lt hi0n]
        simp [hlt])
      have h2 := Array.all_eq_true_iff_forall_mem.1 h1 e he
      simp only [hb, Bool.not_true, Bool.false_or, decide_eq_true_eq] at h2
      exact hi0m _ h2
    rw [show c + 1 + (l.length - n) = (c + (l.length - n)) + 1 by omega]
    refine ⟨fun h => absurd hready (by rw [h]; simp), fun i hi => ?_⟩
    have hi0t : listed.getD i0 true = false := (mem_ready.1 hready).1
    have hin : i < n := by
      rcases Nat.lt_or_ge i n with h | h
      · exact h
      · exact absurd hi (tail_waits hs hc (by rw [hsz]; exact hn) hinv _ i0 rfl hi0n hi0t i h)
    obtain ⟨hun, o, ho, hall⟩ := mem_ready.1 hi
    have hlo : l[i]? = some o := by simpa using ho
    obtain ⟨v, hv, hdo, hst⟩ := hat i o (by rw [List.getElem?_take_of_lt hin]; exact hlo)
    rw [Nat.zero_add] at hst
    obtain ⟨hd, C, hg, hinvw, hf, hvals⟩ := hmid
    have ha : a = ⟨a.tmps, []⟩ := by cases a; simp_all
    rw [ha]
    have hfr : FrOk w C E.N (depFr l vs o ++ frb) a.tmps := by
      refine ⟨hf.1, fun k x hk => ?_⟩
      rcases Fr.get_append hk with hk | ⟨_, hk⟩
      · have hm := Fr.get_mem hk
        obtain ⟨e, he, he2⟩ := List.mem_filterMap.1 hm
        cases hb : Region.binds .any e with
        | false => rw [hb] at he2; cases he2
        | true =>
          rw [hb] at he2; simp only [cond_true] at he2
          cases h1 : (l[e.on]?).bind (·.dst) with
          | none => rw [h1] at he2; cases he2
          | some d =>
            cases h2 : vs[e.on]? with
            | none => rw [h1, h2] at he2; cases he2
            | some v' =>
              rw [h1, h2] at he2; cases he2
              cases h3 : l[e.on]? with
              | none => rw [h3] at h1; cases h1
              | some oe =>
                rw [h3] at h1
                have hen : e.on < n := by
                  have := (List.getElem?_eq_some_iff.1 h2).1
                  rw [← hlen] at this
                  simp at this; omega
                exact hvals e.on oe k x hen h3 h1 h2 (hall e (by simpa using he) hb)
      · exact hf.2 k x hk
    have huni : listed.getD i false = false := getD_both hun
    have hil : i < listed.size := by rw [hinv.size, hsz]; omega
    have hsal : listed.getD st false = true → listed.getD al false = true := fun h => by
      obtain ⟨os, e, h1, h2, h3, h4⟩ := hdep
      rw [← h4]
      exact hinv.closed st os (by simpa using h1) h e h2 h3
    have hstep : HStep E l.toArray o (depFr l vs o ++ frb) (stAt σ0 σ1 σ2 al st listed) (stAt σ0 σ1 σ2 al st (listed.setIfInBounds i true)) v := by
      have hset : ∀ j, (listed.setIfInBounds i true).getD j false = if i = j then true else listed.getD j false := fun j => by
        by_cases e : i = j
        · subst e; simp [hil]
        · rw [getD_set_ne false e, if_neg e]
      unfold stAt
      rw [hset, hset]
      by_cases e : i = al
      · subst e
        rw [if_pos rfl] at hst
        have h2 : listed.getD st false = false := by
          cases h : listed.getD st false with
          | false => rfl
          | true => rw [hsal h] at huni; cases huni
        rw [if_neg hne0, h2, huni]
        simpa using hst
      · rw [if_neg e] at hst
        by_cases e2 : i = st
        · subst e2
          rw [if_pos rfl] at hst
          have h2 : listed.getD al false = true := by
            obtain ⟨os, e', h1, h2, h3, h4⟩ := hdep
            rw [hlo] at h1
            injection h1 with h1
            subst h1
            rw [← h4]
            exact hall e' (by simpa using h2) h3
          rw [huni, h2]
          simpa using hst
        · rw [if_neg e2] at hst
          rw [if_neg e, if_neg e2]
          split
          · exact hst.2.2
          · split
            · exact hst.2.1
            · exact hst.1
    refine hstep_run hstep hinvw hfr ho fun u w' C' hgo hi' hr => ?_
    refine ih _ _ _ ?_ (hinv.set hi hin) ⟨put_defers .., C', hg.trans hgo.toO, hi', ?_, fun j oj dj vj hj hoj hdj hvj hlj => ?_⟩
    · have h2 : ((List.range n).filter fun j => !(listed.setIfInBounds i true).getD j false).length + 1 = ((List.range n).filter fun j => !listed.getD j false).length := count_eq hin huni hil
      omega
    · cases hdd : o.dst with
      | none =>
        refine ⟨hf.1, fun k x hk => ?_⟩
        obtain ⟨u', hu', hr'⟩ := hf.2 k x hk
        exact ⟨u', hu', hr'.ext hgo.chg⟩
      | some d =>
        refine ⟨by simp [Act.put, hf.1], fun k x hk => ?_⟩
        obtain ⟨u', hu', hr'⟩ := hf.2 k x hk
        have hne : d ≠ k := by
          rintro rfl
          have h1 := List.all_eq_true.1 hfb d (List.mem_filterMap.2 ⟨o, List.mem_of_getElem? (i := i) (by rw [List.getElem?_take_of_lt hin]; exact hlo), hdd⟩)
          rw [hk] at h1; cases h1
        refine ⟨u', ?_, hr'.ext hgo.chg⟩
        simp only [Act.put]
        rw [Array.getElem?_setIfInBounds_ne hne]; exact hu'
    · by_cases e : i = j
      · subst e
        rw [hlo] at hoj; cases hoj
        rw [hv] at hvj; cases hvj
        have hdN : dj < a.tmps.size := by
          rw [hf.1]
          rw [hdj] at hdo
          exact Nat.le_of_ble_eq_true (show Nat.ble (dj + 1) E.N = true from hdo)
        exact ⟨u, by rw [hdj]; simp [Act.put, hdN], hr⟩
      · rw [getD_set_ne false e] at hlj
        obtain ⟨u', hu', hr'⟩ := hvals j oj dj vj hj hoj hdj hvj hlj
        cases hdd : o.dst with
        | none => exact ⟨u', hu', hr'.ext hgo.chg⟩
        | some d =>
          have hne : d ≠ dj := by
            rintro rfl
            exact e (distinct_dsts hdi (by rw [List.getElem?_take_of_lt hin]; exact hlo) (by rw [List.getElem?_take_of_lt hj]; exact hoj) hdd hdj)
          refine ⟨u', ?_, hr'.ext hgo.chg⟩
          simp only [Act.put]
          rw [Array.getElem?_setIfInBounds_ne hne]; exact hu'
theorem ACode.draw3 {id : Nat} {fr : Fr} (n al st : Nat) (vs : List FV) (frb : Fr) (hm : E.P.follows .mixedOrders = true) (hB : drawB l n = true) (hfb : (dsts (l.take n)).all (fun d => (Fr.get d frb).isNone) = true) (hsub : ∀ k x, Fr.get k frb = some x → Fr.get k fr = some x)
    (hH : Heads3 E l.toArray l vs frb σ0 σ1 σ2 al st 0 (l.take n) vs) (haln : al < n) (hstn : st < n) (hne0 : al ≠ st) (hdep : ∃ (o : Oper) (e : _), l[st]? = some o ∧ e ∈ o.after ∧ Region.binds .any e = true ∧ e.on = al)
    (htail : AOps E l.toArray (l.drop n) K (headFr (l.take n) vs ++ frb) σ2) : ACode E (.region id l.toArray true) K fr σ0 := by
  intro F w0 C0 w C tmps hg hi hf
  have hn : n < l.length := by
    simp only [drawB, Bool.and_eq_true, decide_eq_true_eq] at hB
    exact hB.1.1.1.1.1
  refine wp_region_any hm ?_
  have h := mid_any3 (F := F) (w0 := w0) (C0 := C0) hB hfb hH haln hstn hne0 hdep htail n (Array.replicate l.toArray.size false) ⟨tmps, []⟩ w.drew (by
      have : ∀ j, (!(Array.replicate l.toArray.size false).getD j false) = true := fun j => by rw [getD_replicate_false]; rfl
      simp only [this]; rw [List.filter_eq_self.2 (fun _ _ => rfl), List.length_range])
    ⟨by simp, fun j oj _ hl => (by rw [getD_replicate_false] at hl; cases hl), fun t _ ht => getD_in (by simpa using ht) (getD_replicate_false _ _)⟩
    ⟨rfl, C, hg.trans (Goes.drew hi).toO, by unfold stAt; rw [getD_replicate_false, getD_replicate_false, if_neg (by simp), if_neg (by simp)]; exact hi.drew.2, ⟨hf.1, fun k x hk => by
        obtain ⟨u, hu, hr⟩ := hf.2 k x (hsub k x hk)
        exact ⟨u, hu, hr.ext hi.drew.1⟩⟩, fun i o d v _ _ _ _ hl => by rw [getD_replicate_false] at hl; cases hl⟩
  rw [show n + (l.length - n) = l.toArray.size by simp; omega] at h
  exact h
end
/-- The heads run; what calls, the alloc and the store yield is given. -/
def runHd (E : Env) (ops : Array Oper) (l : List Oper) (frb : Fr) (σ : St) (cs : List (Nat × FV)) : Nat → List Oper → List FV → Option (List FV)
  | _, [], _ => some []
  | k, o :: os, acc => bif dstOk E.N o.dst then
      (match lookC k cs with
      | some v => forceK (acc ++ [v]) fun acc' => (match runHd E ops l frb σ cs (k + 1) os acc' with | some vs => some (v :: vs) | none => none)
      | none => bif pureOp o.op then forceK (depFr l acc o ++ frb) fun fr => (match aHead E ops o fr σ with
        | some (v, _) => forceK (acc ++ [v]) fun acc' => (match runHd E ops l frb σ cs (k + 1) os acc' with | some vs => some (v :: vs) | none => none)
        | none => none) else none) else none
theorem aHead_pure {E : Env} {ops : Array Oper} {o : Oper} {fr : Fr} {τ τ' : St} {v : FV} (hp : pureOp o.op = true) (ha : aHead E ops o fr τ = some (v, τ')) : τ' = τ := by
  have key : ∀ {y : FV} {τ2 : St}, (match aOp E.T E.Γ o.op fr τ with | some (some x, σ') => some (x, σ') | _ => none) = some (y, τ2) → τ2 = τ := by
    intro y τ2 h
    split at h
    · rename_i h1
      simp only [Option.some.injEq, Prod.mk.injEq] at h
      obtain ⟨rfl, rfl⟩ := h
      exact aOp_pure hp h1
    · cases h
  unfold aHead at ha
  split at ha
  · exact key ha
  · split at ha
    · split at ha
      · exact key ha
      · exact key ha
      · cases ha; rfl
      · cases ha; rfl
      · cases ha; rfl
      · cases ha
    · cases ha
theorem runHd_ok {E : Env} {l : List Oper} {frb : Fr} {σ0 σ1 σ2 : St} {cs : List (Nat × FV)} {n al st : Nat} {vs : List FV} {va : FV} {oal ost : Oper} (hT : TabOk E.P E.T) (hne0 : al ≠ st) (hall : ∀ k o, l[k]? = some o → k < n → o.after.all (fun e => !Region.binds .any e || decide (e.on < k)) = true)
    (hoal : l[al]? = some oal) (hal : HStep E l.toArray oal (depFr l vs oal ++ frb) σ0 σ1 va) (host : l[st]? = some ost) (hst : HStep E l.toArray ost (depFr l vs ost ++ frb) σ1 σ2 .bot) (hcs0 : CallsOk E l frb σ0 vs cs) (hcs1 : CallsOk E l frb σ1 vs cs) (hcs2 : CallsOk E l frb σ2 vs cs) :
    ∀ (os : List Oper) (k : Nat) (acc ws : List FV), acc.length = k → (∀ i o, os[i]? = some o → l[k + i]? = some o ∧ k + i < n) → runHd E l.toArray l frb σ0 ((al, va) :: (st, .bot) :: cs) k os acc = some ws → runHd E l.toArray l frb σ1 ((al, va) :: (st, .bot) :: cs) k os acc = some ws → runHd E l.toArray l frb σ2 ((al, va) :: (st, .bot) :: cs) k os acc = some ws → acc ++ ws = vs → Heads3 E l.toArray l vs frb σ0 σ1 σ2 al st k os ws
  | [], k, acc, ws, _, _, h, _, _, _ => by simp only [runHd, Option.some.injEq] at h; subst h; trivial
  | o :: os, k, acc, ws, hl, hos, h, h', h'', hv => by
    have ho := hos 0 o rfl
    simp only [Nat.add_zero] at ho
    simp only [runHd, forceK_eq] at h h' h''
    cases hb : dstOk E.N o.dst with
    | false => rw [hb] at h; cases h
    | true =>
      rw [hb] at h h' h''
      simp only [cond_true] at h h' h''
      have rest : ∀ {v v' v'' : FV}, (match runHd E l.toArray l frb σ0 ((al, va) :: (st, .bot) :: cs) (k + 1) os (acc ++ [v]) with | some vs => some (v :: vs) | none => none) = some ws → (match runHd E l.toArray l frb σ1 ((al, va) :: (st, .bot) :: cs) (k + 1) os (acc ++ [v']) with | some vs => some (v' :: vs) | none => none) = some ws → (match runHd E l.toArray l frb σ2 ((al, va) :: (st, .bot) :: cs) (k + 1) os (acc ++ [v'']) with | some vs => some (v'' :: vs) | none => none) = some ws → v' = v ∧ v'' = v ∧ ∃ ws', ws = v :: ws' ∧ Heads3 E l.toArray l vs frb σ0 σ1 σ2 al st (k + 1) os ws' := by
        intro v v' v'' h h' h''
        split at h
        · rename_i ws' hw
          simp only [Option.some.injEq] at h; subst h
          split at h'
          · rename_i ws2 hw2
            simp only [Option.some.injEq, List.cons.injEq] at h'
            obtain ⟨rfl, rfl⟩ := h'
            split at h''
            · rename_i ws3 hw3
              simp only [Option.some.injEq, List.cons.injEq] at h''
              obtain ⟨rfl, rfl⟩ := h''
              exact ⟨rfl, rfl, ws3, rfl, runHd_ok hT hne0 hall hoal hal host hst hcs0 hcs1 hcs2 os (k + 1) (acc ++ [v'']) ws3 (by simp [hl]) (fun i o hi => by have := hos (i + 1) o hi; rw [show k + 1 + i = k + (i + 1) by omega]; exact this) hw hw2 hw3 (by simpa using hv)⟩
            · cases h''
          · cases h'
        · cases h
      by_cases hka : al = k
      · subst hka
        have hc : lookC al ((al, va) :: (st, .bot) :: cs) = some va := by simp [lookC]
        rw [hc] at h h' h''
        obtain ⟨_, _, ws', rfl, hw⟩ := rest h h' h''
        rw [ho.1] at hoal
        cases hoal
        exact ⟨⟨hb, by rw [if_pos rfl]; exact hal⟩, hw⟩
      · by_cases hks : st = k
        · subst hks
          have hc : lookC st ((al, va) :: (st, .bot) :: cs) = some .bot := by simp only [lookC, beq_no hne0, cond_false]; simp
          rw [hc] at h h' h''
          obtain ⟨_, _, ws', rfl, hw⟩ := rest h h' h''
          rw [ho.1] at host
          cases host
          exact ⟨⟨hb, by rw [if_neg (Ne.symm hka), if_pos rfl]; exact hst⟩, hw⟩
        · have hc : lookC k ((al, va) :: (st, .bot) :: cs) = lookC k cs := by simp only [lookC, beq_no hka, beq_no hks, cond_false]
          rw [hc] at h h' h''
          cases hc2 : lookC k cs with
          | some v =>
            rw [hc2] at h h' h''
            obtain ⟨_, _, ws', rfl, hw⟩ := rest h h' h''
            obtain ⟨o', ho', hs0⟩ := hcs0.get hc2
            obtain ⟨o2, ho2, hs1⟩ := hcs1.get hc2
            obtain ⟨o3, ho3, hs2⟩ := hcs2.get hc2
            rw [ho.1] at ho' ho2 ho3
            cases ho'; cases ho2; cases ho3
            exact ⟨⟨hb, by rw [if_neg (Ne.symm hka), if_neg (Ne.symm hks)]; exact ⟨hs0, hs1, hs2⟩⟩, hw⟩
          | none =>
            rw [hc2] at h h' h''
            simp only at h h' h''
            cases hp : pureOp o.op with
            | false => rw [hp] at h; cases h
            | true =>
              rw [hp] at h h' h''
              simp only [cond_true] at h h' h''
              split at h
              · rename_i v σ' ha
                split at h'
                · rename_i v' σ3 ha'
                  split at h''
                  · rename_i v'' σ4 ha''
                    obtain ⟨rfl, rfl, ws', rfl, hw⟩ := rest h h' h''
                    have hdep : depFr l vs o = depFr l acc o := by rw [← hv]; exact depFr_prefix (by rw [hl]; exact hall k o ho.1 ho.2)
                    have e1 := aHead_pure hp ha
                    have e2 := aHead_pure hp ha'
                    have e3 := aHead_pure hp ha''
                    subst e1; subst e2; subst e3
                    have hs0 := HStep.auto (ops := l.toArray) hT ha
                    have hs1 := HStep.auto (ops := l.toArray) hT ha'
                    have hs2 := HStep.auto (ops := l.toArray) hT ha''
                    rw [← hdep] at hs0 hs1 hs2
                    exact ⟨⟨hb, by rw [if_neg (Ne.symm hka), if_neg (Ne.symm hks)]; exact ⟨hs0, hs1, hs2⟩⟩, hw⟩
                  · cases h''
                · cases h'
              · cases h
def hasDep (l : List Oper) (st al : Nat) : Bool := match l[st]? with
  | some o => o.after.any fun e => Region.binds .any e && decide (e.on = al)
  | none => false
/-- A DRAWN REGION in whose head an object is made ('al') and stored into ('st'). -/
theorem ACode.drawXS {E : Env} {id : Nat} {l hd tl : List Oper} {K : Cont} {fr frb fr' : Fr} {σ σ1 σ2 : St} {vs : List FV} {va : FV} {oal ost : Oper} (hT : TabOk E.P E.T) (n al st : Nat) (cs : List (Nat × FV)) (hm : E.P.follows .mixedOrders = true) (hB : drawB l n = true) (haln : Nat.ble (al + 1) n = true) (hstn : Nat.ble (st + 1) n = true) (hne0 : Nat.beq al st = false) (hdp : hasDep l st al = true) (hsp : splitO n l = some (hd, tl)) (hfb : Fr.woO (dsts hd) fr = some frb)
    (hoal : l[al]? = some oal) (hal : aHead E l.toArray oal (depFr l [] oal ++ frb) σ = some (va, σ1)) (hda : oal.after = #[]) (host : l[st]? = some ost) (hgs : ost.guard = none)
    (hrun : runHd E l.toArray l frb σ ((al, va) :: (st, .bot) :: cs) 0 hd [] = some vs) (hrun1 : runHd E l.toArray l frb σ1 ((al, va) :: (st, .bot) :: cs) 0 hd [] = some vs) (hst : aOp E.T E.Γ ost.op (depFr l vs ost ++ frb) σ1 = some (none, σ2)) (hrun2 : runHd E l.toArray l frb σ2 ((al, va) :: (st, .bot) :: cs) 0 hd [] = some vs) (hfr : frOf hd vs frb = some fr') (hcs : CallsOk E l frb σ vs cs) (hcs1 : CallsOk E l frb σ1 vs cs) (hcs2 : CallsOk E l frb σ2 vs cs) (htail : AOps E l.toArray tl K fr' σ2) : ACode E (.region id l.toArray true) K fr σ := by
  obtain ⟨h1, h2⟩ := splitO_eq hsp
  subst h1; subst h2
  have h3 := Fr.woO_eq hfb
  have h4 := frOf_eq hfr
  have hn : n < l.length := by
    simp only [drawB, Bool.and_eq_true, decide_eq_true_eq] at hB
    exact hB.1.1.1.1.1
  have hlast : ((l.take n).zipIdx.all fun x => x.1.after.all fun e => !Region.binds .any e || decide (e.on < x.2)) = true := by
    simp only [drawB, Bool.and_eq_true] at hB
    exact hB.2
  have hdep : ∀ ws : List FV, depFr l ws oal = [] := fun ws => by simp [depFr, hda]
  have hne : al ≠ st := fun e => by subst e; simp at hne0
  have hall : ∀ k o, l[k]? = some o → k < n → o.after.all (fun e => !Region.binds .any e || decide (e.on < k)) = true := fun k o hk hkn => by
    have := List.all_eq_true.1 hlast (o, k) (by
      rw [List.mem_iff_getElem?]
      exact ⟨k, by rw [List.getElem?_zipIdx, List.getElem?_take_of_lt hkn, hk]; simp⟩)
    exact this
  have hH := runHd_ok (n := n) (va := va) hT hne hall hoal (by rw [hdep, ← hdep []]; exact HStep.auto hT hal) host (HStep.plain hgs (AStep.ofStore hT hst)) hcs hcs1 hcs2 (l.take n) 0 [] vs rfl (fun i o hi => by
    have hi2 : i < n := by
      have := (List.getElem?_eq_some_iff.1 hi).1
      simp at this; omega
    rw [List.getElem?_take_of_lt hi2] at hi
    exact ⟨by simpa using hi, by omega⟩) hrun hrun1 hrun2 rfl
  have hdd : ∃ (o : Oper) (e : _), l[st]? = some o ∧ e ∈ o.after ∧ Region.binds .any e = true ∧ e.on = al := by
    unfold hasDep at hdp
    rw [host] at hdp
    simp only [Array.any_eq_true'] at hdp
    obtain ⟨e, he, hb⟩ := hdp
    simp only [Bool.and_eq_true, decide_eq_true_eq] at hb
    exact ⟨ost, e, host, he, hb.1, hb.2⟩
  refine ACode.draw3 n al st vs frb hm hB ?_ ?_ hH (Nat.le_of_ble_eq_true haln) (Nat.le_of_ble_eq_true hstn) hne hdd (by rw [h4]; exact htail)
  · rw [← h3]; exact Fr.wo_none _ _
  · intro k x h
    rw [← h3] at h
    exact (Fr.wo_get h).1
end Go.Abs
/- instance: walked. -/
namespace Go.Proofs.YtoojdmgbffnmiaaDoor
open Go Go.Abs
set_option maxRecDepth 10000
set_option linter.unusedVariables false
set_option linter.unusedSimpArgs false
variable {Γ : List (Nat × List AC)}
theorem keysOk_enc (l : List (Nat × Int × Ty)) : KeysOk (.int .i64) (encM l) := by
  intro x hx
  simp [encM] at hx
  obtain ⟨a, b, c, _, rfl⟩ := hx
  rfl
def zTy : List AC := [int 0, str ⟨#[]⟩, int 0, .lit (.slice none 0 0)]
theorem lookT {E : Env} {o : Oper} {fr : Fr} {σ : St} {x i : Operand} {m : Abs.Id} {ck : Nat} {l : List (Nat × Int × Ty)} {v : Int} {f : Fnd} (hE : E.P = Tryd.prog) (hT : E.T = tab) (ho : o.op = .lookup 104 x i true) (hx : aEval E.Γ fr x = some (.one (.mp m))) (hg : σ.get m = some (.map ck (encM l))) (hu : aEval E.Γ fr i = some (.one (int v))) (hm : MapIs f ck l) :
    AStep E o fr σ (.tup [.agg (match f v with | some t => cTy t | none => zTy), .one (.lit (.bool (f v).isSome))]) σ := by
  have hl : mFind (.int .i64 v) (encM l) = (f v).map (fun t => .agg (cTy t)) := by rw [mFind_enc, hm.look]
  have h := AStep.lookup2 (E := E) (d := .int .i64) (tj := ti36) (z := .agg zTy) (by rw [hE, hT]; exact tabOk) ho (by rw [hE]; exact Tryd.underlying104) (by rw [hE]; exact Tryd.underlying3) (by rw [hT]; rfl) hx hg hu rfl (keysOk_enc l) (by rw [hE]; kernel_rfl) rfl rfl
  rw [hl] at h
  cases hf : f v with
  | none => rw [hf] at h; exact h
  | some t => rw [hf] at h; exact h
theorem ouF_set (ck ck' : Nat) (l l' : List (Nat × Int × Ty)) : (fun j => bif Nat.beq j 1 then some (AObj.map ck' (encM l')) else ouF ck l j) = ouF ck' l' := by
  funext j
  match j with
  | 0 => rfl
  | 1 => rfl
  | k + 2 => rfl
theorem smallTy_args : ∀ {b : Ty}, smallTy b → smallTys b.args
  | .mk _ _ _ _, h => h.2
theorem instance_ok (hΓ : ∀ g cs, (g, cs) ∈ Γ → idsL isO cs) : ∀ (a : Ty), smallTy a → ∀ b, smallTy b → InstOk Γ a b
  | .mk k n v us, ha, b, hsb => by
    have ih : ∀ x ∈ us, ∀ y ∈ b.args, InstOk Γ x y := fun x hx y hy => instance_ok hΓ x (smallTys_iff.1 ha.2 x hx) y (smallTys_iff.1 (smallTy_args hsb) y hy)
    intro f ck l hf hm
    refine AFn.walk 62 tabOk Tryd.func58 rfl (by kernel_rfl) rfl rfl fun hou => ?_
    repeat first | (with_reducible refine oj ?_; refine AOps.auto tabOk rfl ?_) | (with_reducible first | refine o1 ?_ | refine o2 ?_ | refine o3 ?_ | refine o4 ?_ | refine o5 ?_ | refine o6 ?_ | refine o7 ?_ | refine o8 ?_ | refine o9 ?_ | refine oa ?_ | refine ob ?_ | refine oc ?_ | refine od ?_ | refine oe ?_ | refine og ?_ | refine oh ?_ | refine oi ?_) | (with_reducible refine cExitMiss ?_ ?_; rfl) | (with_reducible refine ok ?_; first | refine ACode.condT rfl ?_ | refine ACode.condF rfl ?_)
    refine ACode.cond rfl (fun hk => ?_) (fun hk => ?_)
    · have hk0 : k = 0 := by simpa using hk
      repeat first | (with_reducible refine oj ?_; refine AOps.auto tabOk rfl ?_) | (with_reducible first | refine o1 ?_ | refine o2 ?_ | refine o3 ?_ | refine o4 ?_ | refine o5 ?_ | refine o6 ?_ | refine o7 ?_ | refine o8 ?_ | refine o9 ?_ | refine oa ?_ | refine ob ?_ | refine oc ?_ | refine od ?_ | refine oe ?_ | refine og ?_ | refine oh ?_ | refine oi ?_) | (with_reducible refine cExitMiss ?_ ?_; rfl) | (with_reducible refine ok ?_; first | refine ACode.condT rfl ?_ | refine ACode.condF rfl ?_)
      have hlk := fun {E : Env} {o : Oper} {fr : Fr} {σ : St} {x i : Operand} (hE : E.P = Tryd.prog) (hT : E.T = tab) (ho : o.op = .lookup 104 x i true) (hx : aEval E.Γ fr x = some (.one (.mp (.o 1)))) (hg : σ.get (.o 1) = some (.map ck (encM l))) (hu : aEval E.Γ fr i = some (.one (int v))) => lookT hE hT ho hx hg hu hm
      cases hfv : f v with
      | some t =>
        rw [hfv] at hlk
        refine ACode.drawXS tabOk 12 10 11 [(6, .tup [.agg (cTy t), .one (.lit (.bool true))])] follows (by kernel_rfl) rfl rfl rfl (by kernel_rfl) rfl rfl rfl rfl rfl rfl rfl rfl rfl rfl rfl rfl ?_ ?_ ?_ ?_
        · exact .step rfl (HStep.plain rfl (hlk rfl rfl rfl rfl rfl rfl)) .nil
        · exact .step rfl (HStep.plain rfl (hlk rfl rfl rfl rfl rfl rfl)) .nil
        · exact .step rfl (HStep.plain rfl (hlk rfl rfl rfl rfl rfl rfl)) .nil
        repeat first | (with_reducible refine oj ?_; refine AOps.auto tabOk rfl ?_) | (with_reducible first | refine o1 ?_ | refine o2 ?_ | refine o3 ?_ | refine o4 ?_ | refine o5 ?_ | refine o6 ?_ | refine o7 ?_ | refine o8 ?_ | refine o9 ?_ | refine oa ?_ | refine ob ?_ | refine oc ?_ | refine od ?_ | refine oe ?_ | refine og ?_ | refine oh ?_ | refine oi ?_) | (with_reducible refine cExitMiss ?_ ?_; rfl) | (with_reducible refine ok ?_; first | refine ACode.condT rfl ?_ | refine ACode.condF rfl ?_)
        refine AOps.callC hΓ (sameType_ok hΓ t b (hf v t hfv)) rfl rfl rfl rfl rfl rfl rfl (ouF_ok _ _) (by simp) ?_
        repeat first | (with_reducible refine oj ?_; refine AOps.auto tabOk rfl ?_) | (with_reducible first | refine o1 ?_ | refine o2 ?_ | refine o3 ?_ | refine o4 ?_ | refine o5 ?_ | refine o6 ?_ | refine o7 ?_ | refine o8 ?_ | refine o9 ?_ | refine oa ?_ | refine ob ?_ | refine oc ?_ | refine od ?_ | refine oe ?_ | refine og ?_ | refine oh ?_ | refine oi ?_) | (with_reducible refine cExitMiss ?_ ?_; rfl) | (with_reducible refine ok ?_; first | refine ACode.condT rfl ?_ | refine ACode.condF rfl ?_)
        refine AFn.fin rfl (WkF.refl _) (by simp) (ouF_ok _ _) ?_
        unfold inst
        rw [if_pos hk0, hfv]
        exact ⟨rfl, ck, l, rfl, hm⟩
      | none =>
        rw [hfv] at hlk
        refine ACode.drawXS tabOk 12 10 11 [(6, .tup [.agg zTy, .one (.lit (.bool false))])] follows (by kernel_rfl) rfl rfl rfl (by kernel_rfl) rfl rfl rfl rfl rfl rfl rfl rfl rfl rfl rfl rfl ?_ ?_ ?_ ?_
        · exact .step rfl (HStep.plain rfl (hlk rfl rfl rfl rfl rfl rfl)) .nil
        · exact .step rfl (HStep.plain rfl (hlk rfl rfl rfl rfl rfl rfl)) .nil
        · exact .step rfl (HStep.plain rfl (hlk rfl rfl rfl rfl rfl rfl)) .nil
        repeat first | (with_reducible refine oj ?_; refine AOps.auto tabOk rfl ?_) | (with_reducible first | refine o1 ?_ | refine o2 ?_ | refine o3 ?_ | refine o4 ?_ | refine o5 ?_ | refine o6 ?_ | refine o7 ?_ | refine o8 ?_ | refine o9 ?_ | refine oa ?_ | refine ob ?_ | refine oc ?_ | refine od ?_ | refine oe ?_ | refine og ?_ | refine oh ?_ | refine oi ?_) | (with_reducible refine cExitMiss ?_ ?_; rfl) | (with_reducible refine ok ?_; first | refine ACode.condT rfl ?_ | refine ACode.condF rfl ?_)
        refine ACode.drawX tabOk 7 [] follows (by kernel_rfl) rfl rfl rfl rfl .nil ?_
        repeat first | (with_reducible refine oj ?_; refine AOps.auto tabOk rfl ?_) | (with_reducible first | refine o1 ?_ | refine o2 ?_ | refine o3 ?_ | refine o4 ?_ | refine o5 ?_ | refine o6 ?_ | refine o7 ?_ | refine o8 ?_ | refine o9 ?_ | refine oa ?_ | refine ob ?_ | refine oc ?_ | refine od ?_ | refine oe ?_ | refine og ?_ | refine oh ?_ | refine oi ?_) | (with_reducible refine cExitMiss ?_ ?_; rfl) | (with_reducible refine ok ?_; first | refine ACode.condT rfl ?_ | refine ACode.condF rfl ?_)
        refine AOps.step rfl rfl (AStep.mapUpdate (u := .int .i64 v) (v := .agg (cTy b)) rfl Tryd.underlying104 Tryd.underlying3 rfl rfl rfl rfl rfl (keysOk_enc l)) ?_
        rw [mPut_enc v b ck l (by have := hm.look v; rw [hfv] at this; simpa using this)]
        repeat first | (with_reducible refine oj ?_; refine AOps.auto tabOk rfl ?_) | (with_reducible first | refine o1 ?_ | refine o2 ?_ | refine o3 ?_ | refine o4 ?_ | refine o5 ?_ | refine o6 ?_ | refine o7 ?_ | refine o8 ?_ | refine o9 ?_ | refine oa ?_ | refine ob ?_ | refine oc ?_ | refine od ?_ | refine oe ?_ | refine og ?_ | refine oh ?_ | refine oi ?_) | (with_reducible refine cExitMiss ?_ ?_; rfl) | (with_reducible refine ok ?_; first | refine ACode.condT rfl ?_ | refine ACode.condF rfl ?_)
        refine AFn.fin rfl (WkF.refl _) (by simp) ?_ ?_
        · show OuOk (fun j => bif Nat.beq j 1 then some (AObj.map (ck + 1) (encM (l ++ [(ck, v, b)]))) else ouF ck l j)
          rw [ouF_set]; exact ouF_ok _ _
        · show InstQ _ _ (fun j => bif Nat.beq j 1 then some (AObj.map (ck + 1) (encM (l ++ [(ck, v, b)]))) else ouF ck l j)
          rw [ouF_set]
          unfold inst
          rw [if_pos hk0, hfv]
          exact ⟨rfl, ck + 1, _, rfl, hm.put hfv⟩
    · have hk0 : k ≠ 0 := by simpa using hk
      have hno : instNo k n b = true → inst f (.mk k n v us) b = (false, f) := fun h => by unfold inst; rw [if_neg hk0, if_pos h]
      have hyes : instNo k n b = false → inst f (.mk k n v us) b = if us.length ≠ b.args.length then (false, f) else insts f us b.args := fun h => by unfold inst; rw [if_neg hk0, if_neg (by simp [h])]
      have hq := EqualFuncI hΓ us b.args ha.1 (by cases b; exact hsb.1) (smallTy_args hsb) ih f ck l hf hm
      repeat' first | (with_reducible refine oj ?_; refine AOps.auto tabOk rfl ?_) | (with_reducible first | refine o1 ?_ | refine o2 ?_ | refine o3 ?_ | refine o4 ?_ | refine o5 ?_ | refine o6 ?_ | refine o7 ?_ | refine o8 ?_ | refine o9 ?_ | refine oa ?_ | refine ob ?_ | refine oc ?_ | refine od ?_ | refine oe ?_ | refine og ?_ | refine oh ?_ | refine oi ?_) | (with_reducible refine cExitMiss ?_ ?_; rfl) | (with_reducible refine ok ?_; first | refine ACode.condT rfl ?_ | refine ACode.condF rfl ?_) | (with_reducible refine oj ?_; refine AOps.splitS rfl rfl rfl rfl (fun hb => ?_) (fun hb => ?_)) | (with_reducible refine ok ?_; refine ACode.cond rfl (fun hb => ?_) (fun hb => ?_))
      all_goals simp only [Ty.kind_mk, Ty.name_mk] at *
      all_goals first
        | (refine AFn.fin rfl (WkF.refl _) (by simp) (ouF_ok _ _) ?_
           rw [hno (by unfold instNo; simp [*])]
           exact ⟨rfl, ck, l, rfl, hm⟩)
        | (refine AOps.call1 hΓ rfl rfl rfl rfl rfl rfl rfl (by simp) (ouF_ok _ _) hq fun r ou' hq2 hids hou' => ?_
           rw [← hyes (by unfold instNo; simp [*])] at hq2
           repeat first | (with_reducible refine oj ?_; refine AOps.auto tabOk rfl ?_) | (with_reducible first | refine o1 ?_ | refine o2 ?_ | refine o3 ?_ | refine o4 ?_ | refine o5 ?_ | refine o6 ?_ | refine o7 ?_ | refine o8 ?_ | refine o9 ?_ | refine oa ?_ | refine ob ?_ | refine oc ?_ | refine od ?_ | refine oe ?_ | refine og ?_ | refine oh ?_ | refine oi ?_) | (with_reducible refine cExitMiss ?_ ?_; rfl) | (with_reducible refine ok ?_; first | refine ACode.condT rfl ?_ | refine ACode.condF rfl ?_)
           exact AFn.fin rfl (WkF.refl _) hids hou' hq2)
end Go.Proofs.YtoojdmgbffnmiaaDoor
/- The abstract layer, part X: a guard that is met falls away. No condition. -/
namespace Go.Abs
set_option linter.unusedVariables false
theorem AOps.unG {E : Env} {ops : Array Oper} {rest : List Oper} {o : Oper} {K : Cont} {fr : Fr} {σ : St} {j e : Nat} {b : Bool} (hg : o.guard = some (j, b)) (hj : guardSlot ops j = some e) (hb : Fr.get e fr = some (.one (.lit (.bool b))))
    (h : AOps E ops ({ o with guard := none } :: rest) K fr σ) : AOps E ops (o :: rest) K fr σ := by
  intro F w0 C0 w C tmps hgo hi hf
  have h1 := h F w0 C0 w C tmps hgo hi hf
  have hy := yielded_of hf hj hb
  unfold wpList at h1 ⊢
  rw [if_pos (by simp [Region.wanted, hg, hy])]
  rw [if_pos (by simp [Region.wanted])] at h1
  exact h1
mutual
theorem AC.sub_pure (θ : Id → Id) : ∀ c : AC, c.ids (fun _ => False) → c.sub θ = c
  | .lit _, _ => rfl
  | .any, _ => rfl
  | .sl s es, h => by simp only [AC.ids] at h; simp only [AC.sub]; rw [subS_pure θ es h]
  | .box cs, h => by simp only [AC.ids] at h; simp only [AC.sub]; rw [subL_pure θ cs h]
  | .ptr i off, h => h.elim
  | .gs s es i, h => h.1.elim
  | .arr i s off len, h => h.elim
  | .mp i, h => h.elim
  | .fn f a b, h => by simp only [AC.ids] at h; simp only [AC.sub]; rw [subL_pure θ a h.1, subL_pure θ b h.2]
  | .ifc t ag cs, h => by simp only [AC.ids] at h; simp only [AC.sub]; rw [subL_pure θ cs h]
theorem subS_pure (θ : Id → Id) : ∀ es : List (List AC), idsS (fun _ => False) es → subS θ es = es
  | [], _ => rfl
  | e :: es, h => by simp only [idsS] at h; simp only [subS]; rw [subL_pure θ e h.1, subS_pure θ es h.2]
theorem subL_pure (θ : Id → Id) : ∀ cs : List AC, idsL (fun _ => False) cs → subL θ cs = cs
  | [], _ => rfl
  | c :: cs, h => by simp only [idsL] at h; simp only [subL]; rw [AC.sub_pure θ c h.1, subL_pure θ cs h.2]
end
mutual
theorem FV.sub_pure (θ : Id → Id) : ∀ x : FV, x.ids (fun _ => False) → x.sub θ = x
  | .bot, _ => rfl
  | .one c, h => by simp only [FV.ids] at h; simp only [FV.sub]; rw [AC.sub_pure θ c h]
  | .agg cs, h => by simp only [FV.ids] at h; simp only [FV.sub]; rw [subL_pure θ cs h]
  | .tup vs, h => by simp only [FV.ids] at h; simp only [FV.sub]; rw [subF_pure θ vs h]
theorem subF_pure (θ : Id → Id) : ∀ vs : List FV, idsF (fun _ => False) vs → subF θ vs = vs
  | [], _ => rfl
  | v :: vs, h => by simp only [idsF] at h; simp only [subF]; rw [FV.sub_pure θ v h.1, subF_pure θ vs h.2]
end
end Go.Abs
/- general$1, and the search with it: walked. -/
namespace Go.Proofs.YtoojdmgbffnmiaaDoor
open Go Go.Abs
set_option maxRecDepth 10000
set_option linter.unusedVariables false
set_option linter.unusedSimpArgs false
variable {Γ : List (Nat × List AC)}
@[simp] theorem mem_encM_ids (p : Abs.Id → Prop) (l : List (Nat × Int × Ty)) : (∀ (a : Nat) (a_1 : Value) (b : FV), (a, a_1, b) ∈ encM l → FV.ids p b) ↔ True := by
  refine ⟨fun _ => trivial, fun _ a b c h => ?_⟩
  obtain ⟨x, _, he⟩ := List.mem_map.1 h
  simp only [Prod.mk.injEq] at he
  obtain ⟨_, _, rfl⟩ := he
  simp
@[simp] theorem sub_cTy (θ : Abs.Id → Abs.Id) (t : Ty) : subL θ (cTy t) = cTy t := subL_pure θ _ (ids_cTy _ t)
@[simp] theorem sub_encM (θ : Abs.Id → Abs.Id) (l : List (Nat × Int × Ty)) : (encM l).map (fun x => (x.1, x.2.1, x.2.2.sub θ)) = encM l := by
  simp [encM, FV.sub]
@[simp] theorem sub_map (θ : Abs.Id → Abs.Id) (ck : Nat) (l : List (Nat × Int × Ty)) : AObj.sub θ (.map ck (encM l)) = .map ck (encM l) := by
  simp only [AObj.sub, sub_encM]
@[simp] theorem ren_encM (ρ : Nat → Nat) (l : List (Nat × Int × Ty)) : (encM l).map (fun x => (x.1, x.2.1, x.2.2.ren ρ)) = encM l := by
  have : ∀ t : Ty, renL ρ (cTy t) = cTy t := fun t => renL_pure ρ _ (ids_cTy _ t)
  simp [encM, FV.ren, this]
@[simp] theorem ren_map (ρ : Nat → Nat) (ck : Nat) (l : List (Nat × Int × Ty)) : AObj.ren ρ (.map ck (encM l)) = .map ck (encM l) := by
  simp only [AObj.ren, ren_encM]
def ouG (ck : Nat) (l : List (Nat × Int × Ty)) : Outer := ouOf [.cells [.ptr (.o 1) 0], .cells [.mp (.o 2)], .map ck (encM l)]
theorem ouG_ok (ck : Nat) (l : List (Nat × Int × Ty)) : OuOk (ouG ck l) := by
  intro k o h
  match k, h with
  | 0, h => simp [ouG, ouOf] at h; subst h; simp
  | 1, h => simp [ouG, ouOf] at h; subst h; simp
  | 2, h =>
    simp [ouG, ouOf] at h; subst h
    intro x hx
    simp [encM] at hx
    obtain ⟨a, b, c, _, rfl⟩ := hx
    simp
  | k + 3, h => simp [ouG, ouOf] at h
def ofL (l : List (Nat × Int × Ty)) : Fnd := fun k => (l.find? (fun x => x.2.1 == k)).map (·.2.2)
theorem MapIs.ofL {f : Fnd} {ck : Nat} {l : List (Nat × Int × Ty)} (h : MapIs f ck l) : YtoojdmgbffnmiaaDoor.ofL l = f := funext h.look
theorem find_mem {l : List (Nat × Int × Ty)} (hnk : (l.map (·.2.1)).Nodup) {x : Nat × Int × Ty} (hx : x ∈ l) : l.find? (fun y => y.2.1 == x.2.1) = some x := by
  induction l with
  | nil => cases hx
  | cons y l ih =>
    simp only [List.map_cons, List.nodup_cons] at hnk
    rcases List.mem_cons.1 hx with rfl | hx
    · simp
    · have hne : y.2.1 ≠ x.2.1 := fun e => hnk.1 (e ▸ List.mem_map.2 ⟨x, hx, rfl⟩)
      rw [List.find?_cons, beq_eq_false_iff_ne.2 hne]
      exact ih hnk.2 hx
def seenL (l : List (Nat × Int × Ty)) (seen : List Nat) : List (Nat × Int × Ty) := l.filter fun x => decide (x.1 ∈ seen)
theorem born_inj {l : List (Nat × Int × Ty)} (hnb : (l.map (·.1)).Nodup) {x y : Nat × Int × Ty} (hx : x ∈ l) (hy : y ∈ l) (e : x.1 = y.1) : x = y := by
  induction l with
  | nil => cases hx
  | cons z l ih =>
    simp only [List.map_cons, List.nodup_cons] at hnb
    rcases List.mem_cons.1 hx with h1 | h1 <;> rcases List.mem_cons.1 hy with h2 | h2
    · rw [h1, h2]
    · exact (hnb.1 (List.mem_map.2 ⟨y, h2, by rw [← e, h1]⟩)).elim
    · exact (hnb.1 (List.mem_map.2 ⟨x, h1, by rw [e, h2]⟩)).elim
    · exact ih hnb.2 h1 h2
theorem key_inj {l : List (Nat × Int × Ty)} (hnk : (l.map (·.2.1)).Nodup) {x y : Nat × Int × Ty} (hx : x ∈ l) (hy : y ∈ l) (e : x.2.1 = y.2.1) : x = y := by
  have h1 := find_mem hnk hx
  have h2 := find_mem hnk hy
  rw [e, h2] at h1
  exact (Option.some.inj h1).symm
theorem ofL_none {l : List (Nat × Int × Ty)} {k : Int} (h : ∀ x ∈ l, x.2.1 ≠ k) : ofL l k = none := by
  unfold ofL
  rw [List.find?_eq_none.2 fun x hx => by simpa using h x hx]; rfl
theorem ofL_mem {l : List (Nat × Int × Ty)} (hnk : (l.map (·.2.1)).Nodup) {x : Nat × Int × Ty} (hx : x ∈ l) : ofL l x.2.1 = some x.2.2 := by
  unfold ofL
  rw [find_mem hnk hx]; rfl
theorem nodup_sub {l : List (Nat × Int × Ty)} (hnk : (l.map (·.2.1)).Nodup) (seen : List Nat) : ((seenL l seen).map (·.2.1)).Nodup := by
  exact List.Nodup.sublist (List.Sublist.map _ List.filter_sublist) hnk
theorem seen_step {l : List (Nat × Int × Ty)} (hnb : (l.map (·.1)).Nodup) (hnk : (l.map (·.2.1)).Nodup) {seen : List Nat} {b : Nat} {k : Int} {t : Ty} (hx : (b, k, t) ∈ l) (hb : b ∉ seen) :
    ofL (seenL l seen) k = none ∧ put (ofL (seenL l seen)) k t = ofL (seenL l (seen ++ [b])) := by
  have h1 : ∀ x ∈ seenL l seen, x.2.1 ≠ k := fun x hx2 e => by
    obtain ⟨h2, h3⟩ := List.mem_filter.1 hx2
    have := key_inj hnk h2 hx e
    subst this
    exact hb (by simpa using h3)
  refine ⟨ofL_none h1, funext fun i => ?_⟩
  unfold put
  by_cases e : i = k
  · subst e
    rw [if_pos rfl]
    have hm : (b, i, t) ∈ seenL l (seen ++ [b]) := List.mem_filter.2 ⟨hx, by simp⟩
    exact (ofL_mem (nodup_sub hnk _) hm).symm
  · rw [if_neg e]
    by_cases hex : ∃ x ∈ seenL l seen, x.2.1 = i
    · obtain ⟨x, hx2, rfl⟩ := hex
      rw [ofL_mem (nodup_sub hnk _) hx2]
      have hm : x ∈ seenL l (seen ++ [b]) := by
        obtain ⟨h2, h3⟩ := List.mem_filter.1 hx2
        exact List.mem_filter.2 ⟨h2, by simp at h3 ⊢; exact .inl h3⟩
      exact (ofL_mem (nodup_sub hnk _) hm).symm
    · have h2 : ∀ x ∈ seenL l (seen ++ [b]), x.2.1 ≠ i := fun x hx2 e2 => by
        obtain ⟨h3, h4⟩ := List.mem_filter.1 hx2
        simp at h4
        rcases h4 with h4 | h4
        · exact hex ⟨x, List.mem_filter.2 ⟨h3, by simpa using h4⟩, e2⟩
        · have := born_inj hnb h3 hx h4
          subst this
          exact e e2.symm
      rw [ofL_none h2, ofL_none fun x hx2 e2 => hex ⟨x, hx2, e2⟩]
def leftN (l : List (Nat × Int × Ty)) (seen : List Nat) : Nat := (l.filter fun x => decide (x.1 ∉ seen)).length
theorem left_step {l : List (Nat × Int × Ty)} {seen : List Nat} {x : Nat × Int × Ty} (hx : x ∈ l) (hb : x.1 ∉ seen) : leftN l (seen ++ [x.1]) < leftN l seen := by
  unfold leftN
  induction l with
  | nil => cases hx
  | cons y l ih =>
    have hmono : ∀ l : List (Nat × Int × Ty), (l.filter fun z => decide (z.1 ∉ seen ++ [x.1])).length ≤ (l.filter fun z => decide (z.1 ∉ seen)).length := fun l => by
      induction l with
      | nil => simp
      | cons z l ih =>
        simp only [List.filter_cons]
        split <;> split <;> simp_all <;> omega
    simp only [List.filter_cons]
    rcases List.mem_cons.1 hx with rfl | hx
    · have := hmono l
      rw [if_neg (by simp), if_pos (by simpa using hb)]
      simp only [List.length_cons]; omega
    · have := ih hx
      split <;> split <;> simp_all <;> omega
/-- One requirement of a scheme is met by one of another. -/
def prdOk (f : Fnd) (p q : Prd) : Bool := q.cls.toList == p.cls.toList && (inst f p.ty q.ty).1
theorem gen1_ok (hΓ : ∀ g cs, (g, cs) ∈ Γ → idsL isO cs) (hΓF : ∀ g cs, (g, cs) ∈ Γ → idsL (fun _ => False) cs) (p q : Prd) (hp : smallTy p.ty) (hq : smallTy q.ty) (f : Fnd) (ck : Nat) (l : List (Nat × Int × Ty)) (hf : smallF f) (hm : MapIs f ck l) :
    AFn Tryd.prog Γ 60 [.agg (cPrd q), .one (.ptr (.o 0) 0), .one (.box (cPrd p))] (ouG ck l) (fun r ou' => r = .one (.lit (.bool (prdOk f p q))) ∧ ou' = ouG ck l) := by
  refine AFn.walk 40 tabOk Tryd.func60 rfl (by kernel_rfl) rfl rfl fun hou => ?_
  repeat first | (with_reducible refine oj ?_; refine AOps.auto tabOk rfl ?_) | (with_reducible first | refine o1 ?_ | refine o2 ?_ | refine o3 ?_ | refine o4 ?_ | refine o5 ?_ | refine o6 ?_ | refine o7 ?_ | refine o8 ?_ | refine o9 ?_ | refine oa ?_ | refine ob ?_ | refine oc ?_ | refine od ?_ | refine oe ?_ | refine og ?_ | refine oh ?_ | refine oi ?_) | (with_reducible refine cExitMiss ?_ ?_; rfl) | (with_reducible refine ok ?_; first | refine ACode.condT rfl ?_ | refine ACode.condF rfl ?_)
  refine AOps.step1 rfl rfl rfl (AStep.makeMap rfl) ?_
  repeat first | (with_reducible refine oj ?_; refine AOps.auto tabOk rfl ?_) | (with_reducible first | refine o1 ?_ | refine o2 ?_ | refine o3 ?_ | refine o4 ?_ | refine o5 ?_ | refine o6 ?_ | refine o7 ?_ | refine o8 ?_ | refine o9 ?_ | refine oa ?_ | refine ob ?_ | refine oc ?_ | refine od ?_ | refine oe ?_ | refine og ?_ | refine oh ?_ | refine oi ?_) | (with_reducible refine cExitMiss ?_ ?_; rfl) | (with_reducible refine ok ?_; first | refine ACode.condT rfl ?_ | refine ACode.condF rfl ?_)
  refine AOps.step1 rfl rfl rfl (AStep.rangeMap rfl Tryd.underlying104 rfl rfl) ?_
  repeat first | (with_reducible refine oj ?_; refine AOps.auto tabOk rfl ?_) | (with_reducible first | refine o1 ?_ | refine o2 ?_ | refine o3 ?_ | refine o4 ?_ | refine o5 ?_ | refine o6 ?_ | refine o7 ?_ | refine o8 ?_ | refine o9 ?_ | refine oa ?_ | refine ob ?_ | refine oc ?_ | refine od ?_ | refine oe ?_ | refine og ?_ | refine oh ?_ | refine oi ?_) | (with_reducible refine cExitMiss ?_ ?_; rfl) | (with_reducible refine ok ?_; first | refine ACode.condT rfl ?_ | refine ACode.condF rfl ?_)
  refine ACode.loopR hΓ (α := List Nat × Nat × List (Nat × Int × Ty)) (fun a => [(15, .one (.ptr (.l 3) 0)), (5, .one (.ptr (.l 2) 0)), (3, .one (.ptr (.l 0) 0)), (2, .one (.box (cPrd p)))])
    (fun a => ⟨4, [(3, .iter (.o 2) ck a.1 ck), (2, .cells [.mp (.l 1)]), (1, .map a.2.1 (encM a.2.2)), (0, .cells (cPrd q))], ouG ck l⟩) (fun m a => MapIs (ofL (seenL l a.1)) a.2.1 a.2.2 ∧ m = leftN l a.1) (a0 := ([], 0, [])) (ρ := id) ⟨?_, rfl⟩ (LessR.of rfl (by (repeat' first | exact FrSub.nil | refine FrSub.cons rfl (.ofEq rfl) ?_ | refine FrSub.consP rfl (.ofEq rfl) (by simp) ?_)) (by simp) (by repeat' first | exact LoSub.nil | refine LoSub.cons rfl ?_ rfl (by simp) ?_ | rfl | (refine (AObj.ren_pure _ _ ?_).symm; simp; done) | (simp [AObj.ren, renL, AC.ren, cTy]; done) | (simp [AObj.ren, renL, AC.ren, cTy]; rfl)) rfl rfl hou) fun m a hj => ?_
  · have h0 : seenL l [] = [] := by simp [seenL]
    show MapIs (ofL (seenL l [])) 0 []
    rw [h0]
    exact ⟨by simp, by simp, fun k => rfl, by simp⟩
  obtain ⟨seen, ck', l'⟩ := a
  obtain ⟨hm', rfl⟩ := hj
  simp only at hm'
  repeat first | (with_reducible refine oj ?_; refine AOps.auto tabOk rfl ?_) | (with_reducible first | refine o1 ?_ | refine o2 ?_ | refine o3 ?_ | refine o4 ?_ | refine o5 ?_ | refine o6 ?_ | refine o7 ?_ | refine o8 ?_ | refine o9 ?_ | refine oa ?_ | refine ob ?_ | refine oc ?_ | refine od ?_ | refine oe ?_ | refine og ?_ | refine oh ?_ | refine oi ?_) | (with_reducible refine cExitMiss ?_ ?_; rfl) | (with_reducible refine ok ?_; first | refine ACode.condT rfl ?_ | refine ACode.condF rfl ?_)
  refine AOps.nextMap rfl rfl rfl rfl rfl rfl rfl (fun x hx => ?_) (Nat.le_refl _) (fun x hx => ?_) (fun hend => ?_) (fun b u v hmem hnew => ?_)
  · simp [encM] at hx
    obtain ⟨b, k, t, hx, rfl⟩ := hx
    exact hm.born _ hx
  · simp [encM] at hx
    obtain ⟨b, k, t, hx, rfl⟩ := hx
    rfl
  · have hall : seenL l seen = l := List.filter_eq_self.2 fun x hx => by
      have := hend (x.1, .int .i64 x.2.1, .agg (cTy x.2.2)) (List.mem_map.2 ⟨x, hx, rfl⟩)
      simpa using this
    rw [hall, hm.ofL] at hm'
    repeat first | (with_reducible refine oj ?_; refine AOps.auto tabOk rfl ?_) | (with_reducible first | refine o1 ?_ | refine o2 ?_ | refine o3 ?_ | refine o4 ?_ | refine o5 ?_ | refine o6 ?_ | refine o7 ?_ | refine o8 ?_ | refine o9 ?_ | refine oa ?_ | refine ob ?_ | refine oc ?_ | refine od ?_ | refine oe ?_ | refine og ?_ | refine oh ?_ | refine oi ?_) | (with_reducible refine cExitMiss ?_ ?_; rfl) | (with_reducible refine ok ?_; first | refine ACode.condT rfl ?_ | refine ACode.condF rfl ?_)
    refine AOps.splitG rfl rfl rfl (fun hv => ?_) (fun hv => ?_)
    · repeat first | (with_reducible refine oj ?_; refine AOps.auto tabOk rfl ?_) | (with_reducible first | refine o1 ?_ | refine o2 ?_ | refine o3 ?_ | refine o4 ?_ | refine o5 ?_ | refine o6 ?_ | refine o7 ?_ | refine o8 ?_ | refine o9 ?_ | refine oa ?_ | refine ob ?_ | refine oc ?_ | refine od ?_ | refine oe ?_ | refine og ?_ | refine oh ?_ | refine oi ?_) | (with_reducible refine cExitMiss ?_ ?_; rfl) | (with_reducible refine ok ?_; first | refine ACode.condT rfl ?_ | refine ACode.condF rfl ?_)
      refine AOps.unG rfl rfl rfl ?_
      refine AOps.callR [.l 2, .l 1] [.one (.ptr (.o 0) 0), .agg (cTy p.ty), .agg (cTy q.ty)] [.cells [.mp (.o 1)], .map ck' (encM l')] hΓF rfl rfl rfl rfl rfl rfl ?_ ?_ ?_ ?_ ?_ (instance_ok hΓ p.ty hp q.ty hq f ck' l' hf hm') ?_
      · simp [subF, FV.sub, AC.sub, nameOf]; exact ⟨rfl, rfl⟩
      · simp [inO]
      · simp
      · exact ⟨rfl, by simp [AObj.sub]; rfl, trivial⟩
      · simp [inO]
      intro r ou' hq
      obtain ⟨rfl, ck2, l2, rfl, hm2⟩ := hq
      refine ⟨[.cells [.mp (.o 1)], .map ck2 (encM l2)], rfl, rfl, by simp [inO], by simp, ?_⟩
      rw [show FV.sub (nameOf [.l 2, .l 1]) (.one (.lit (.bool (inst f p.ty q.ty).1))) = .one (.lit (.bool (inst f p.ty q.ty).1)) from rfl]
      repeat first | (with_reducible refine oj ?_; refine AOps.auto tabOk rfl ?_) | (with_reducible first | refine o1 ?_ | refine o2 ?_ | refine o3 ?_ | refine o4 ?_ | refine o5 ?_ | refine o6 ?_ | refine o7 ?_ | refine o8 ?_ | refine o9 ?_ | refine oa ?_ | refine ob ?_ | refine oc ?_ | refine od ?_ | refine oe ?_ | refine og ?_ | refine oh ?_ | refine oi ?_) | (with_reducible refine cExitMiss ?_ ?_; rfl) | (with_reducible refine ok ?_; first | refine ACode.condT rfl ?_ | refine ACode.condF rfl ?_)
      refine AFn.fin rfl (WkF.refl _) (by simp) (ouG_ok _ _) ⟨?_, rfl⟩
      simp [prdOk, hv]
    · repeat first | (with_reducible refine oj ?_; refine AOps.auto tabOk rfl ?_) | (with_reducible first | refine o1 ?_ | refine o2 ?_ | refine o3 ?_ | refine o4 ?_ | refine o5 ?_ | refine o6 ?_ | refine o7 ?_ | refine o8 ?_ | refine o9 ?_ | refine oa ?_ | refine ob ?_ | refine oc ?_ | refine od ?_ | refine oe ?_ | refine og ?_ | refine oh ?_ | refine oi ?_) | (with_reducible refine cExitMiss ?_ ?_; rfl) | (with_reducible refine ok ?_; first | refine ACode.condT rfl ?_ | refine ACode.condF rfl ?_)
      refine AFn.fin rfl (WkF.refl _) (by simp) (ouG_ok _ _) ⟨?_, rfl⟩
      simp [prdOk, hv]
  · obtain ⟨⟨b', k, t⟩, hmem2, he⟩ := List.mem_map.1 hmem
    simp only [Prod.mk.injEq] at he
    obtain ⟨rfl, rfl, rfl⟩ := he
    obtain ⟨h1, h2⟩ := seen_step hm.nb hm.nk hmem2 hnew
    repeat first | (with_reducible refine oj ?_; refine AOps.auto tabOk rfl ?_) | (with_reducible first | refine o1 ?_ | refine o2 ?_ | refine o3 ?_ | refine o4 ?_ | refine o5 ?_ | refine o6 ?_ | refine o7 ?_ | refine o8 ?_ | refine o9 ?_ | refine oa ?_ | refine ob ?_ | refine oc ?_ | refine od ?_ | refine oe ?_ | refine og ?_ | refine oh ?_ | refine oi ?_) | (with_reducible refine cExitMiss ?_ ?_; rfl) | (with_reducible refine ok ?_; first | refine ACode.condT rfl ?_ | refine ACode.condF rfl ?_)
    refine AOps.step1 rfl rfl rfl (AStep.entry (last := 0) (u := .int .i64 k) (v := .agg (cTy t)) rfl rfl rfl rfl ?_ rfl) ?_
    · have : ∀ l : List (Nat × Int × Ty), (l.map (·.1)).Nodup → (b', k, t) ∈ l → (encM l).find? (fun x => x.1 == b') = some (b', .int .i64 k, .agg (cTy t)) := by
        intro l
        induction l with
        | nil => intro _ h; cases h
        | cons y l ih =>
          intro hnd h
          simp only [List.map_cons, List.nodup_cons] at hnd
          rcases List.mem_cons.1 h with rfl | h
          · simp [encM]
          · have hne : y.1 ≠ b' := fun e => hnd.1 (List.mem_map.2 ⟨_, h, e.symm⟩)
            have := ih hnd.2 h
            simp only [encM, List.map_cons, List.find?_cons] at this ⊢
            rw [beq_eq_false_iff_ne.2 hne]
            exact this
      exact this l hm.nb hmem2
    repeat first | (with_reducible refine oj ?_; refine AOps.auto tabOk rfl ?_) | (with_reducible first | refine o1 ?_ | refine o2 ?_ | refine o3 ?_ | refine o4 ?_ | refine o5 ?_ | refine o6 ?_ | refine o7 ?_ | refine o8 ?_ | refine o9 ?_ | refine oa ?_ | refine ob ?_ | refine oc ?_ | refine od ?_ | refine oe ?_ | refine og ?_ | refine oh ?_ | refine oi ?_) | (with_reducible refine cExitMiss ?_ ?_; rfl) | (with_reducible refine ok ?_; first | refine ACode.condT rfl ?_ | refine ACode.condF rfl ?_)
    refine ACode.drawX tabOk 6 [] follows (by kernel_rfl) rfl rfl rfl rfl .nil ?_
    repeat first | (with_reducible refine oj ?_; refine AOps.auto tabOk rfl ?_) | (with_reducible first | refine o1 ?_ | refine o2 ?_ | refine o3 ?_ | refine o4 ?_ | refine o5 ?_ | refine o6 ?_ | refine o7 ?_ | refine o8 ?_ | refine o9 ?_ | refine oa ?_ | refine ob ?_ | refine oc ?_ | refine od ?_ | refine oe ?_ | refine og ?_ | refine oh ?_ | refine oi ?_) | (with_reducible refine cExitMiss ?_ ?_; rfl) | (with_reducible refine ok ?_; first | refine ACode.condT rfl ?_ | refine ACode.condF rfl ?_)
    refine AOps.step rfl rfl (AStep.mapUpdate (u := .int .i64 k) (v := .agg (cTy t)) rfl Tryd.underlying104 Tryd.underlying3 rfl rfl rfl rfl rfl (keysOk_enc l')) ?_
    rw [mPut_enc k t ck' l' (by have := hm'.look k; rw [h1] at this; simpa using this)]
    repeat first | (with_reducible refine oj ?_; refine AOps.auto tabOk rfl ?_) | (with_reducible first | refine o1 ?_ | refine o2 ?_ | refine o3 ?_ | refine o4 ?_ | refine o5 ?_ | refine o6 ?_ | refine o7 ?_ | refine o8 ?_ | refine o9 ?_ | refine oa ?_ | refine ob ?_ | refine oc ?_ | refine od ?_ | refine oe ?_ | refine og ?_ | refine oh ?_ | refine oi ?_) | (with_reducible refine cExitMiss ?_ ?_; rfl) | (with_reducible refine ok ?_; first | refine ACode.condT rfl ?_ | refine ACode.condF rfl ?_)
    have hm2 := hm'.put (t := t) h1
    rw [h2] at hm2
    exact cInv ⟨leftN l (seen ++ [b']), (seen ++ [b'], ck' + 1, l' ++ [(ck', k, t)]), id, left_step (x := (b', k, t)) hmem2 hnew, ⟨hm2, rfl⟩, LessR.of rfl (by (repeat' first | exact FrSub.nil | refine FrSub.cons rfl (.ofEq rfl) ?_ | refine FrSub.consP rfl (.ofEq rfl) (by simp) ?_)) (by simp) (by repeat' first | exact LoSub.nil | refine LoSub.cons rfl ?_ rfl (by simp) ?_ | rfl | (refine (AObj.ren_pure _ _ ?_).symm; simp; done) | (simp [AObj.ren, renL, AC.ren, cTy]; done) | (simp [AObj.ren, renL, AC.ren, cTy]; rfl)) rfl rfl (ouG_ok _ _)⟩
end Go.Proofs.YtoojdmgbffnmiaaDoor
/- general: walked. -/
namespace Go.Proofs.YtoojdmgbffnmiaaDoor
open Go Go.Abs
set_option maxRecDepth 10000
set_option linter.unusedVariables false
set_option linter.unusedSimpArgs false
variable {Γ : List (Nat × List AC)}
theorem IndexFunc76_ok (hΓ : ∀ g cs, (g, cs) ∈ Γ → idsL isO cs) (gf : Nat) (caps : List AC) (hcap : idsL isO caps) (ou : Outer) (p : Prd → Bool) (xs : List Prd) (hx : xs.length ≤ 1048576) (hf : ∀ a ∈ xs, AFn Tryd.prog Γ gf (.agg (cPrd a) :: caps.map .one) ou (fun r ou' => r = .one (.lit (.bool (p a))) ∧ ou' = ou)) :
    AFn Tryd.prog Γ 76 [.one (.sl 5 (xs.map cPrd)), .one (.fn (.func gf) [] caps)] ou (fun r ou' => r = .one (int (idxOf p xs)) ∧ ou' = ou) := by
  have hcf : ∀ l : List AC, idsL isO l → idsF isO (l.map .one) := by
    intro l
    induction l with
    | nil => intro _; trivial
    | cons c l ih => intro h; exact ⟨h.1, ih h.2⟩
  refine AFn.walk 19 tabOk Tryd.func76 rfl (by kernel_rfl) rfl rfl fun hou => ?_
  repeat first | (with_reducible refine oj ?_; refine AOps.auto tabOk rfl ?_) | (with_reducible first | refine o1 ?_ | refine o2 ?_ | refine o3 ?_ | refine o4 ?_ | refine o5 ?_ | refine o6 ?_ | refine o7 ?_ | refine o8 ?_ | refine o9 ?_ | refine oa ?_ | refine ob ?_ | refine oc ?_ | refine od ?_ | refine oe ?_ | refine og ?_ | refine oh ?_ | refine oi ?_) | (with_reducible refine cExitMiss ?_ ?_; rfl) | (with_reducible refine ok ?_; first | refine ACode.condT rfl ?_ | refine ACode.condF rfl ?_)
  refine ACode.loopR hΓ (α := Nat) (fun j => [(8, .one (int j)), (7, .one (int (xs.map cPrd).length)), (1, .one (.fn (.func gf) [] caps)), (0, .one (.sl 5 (xs.map cPrd)))])
    (fun j => ⟨0, [], ou⟩) (fun m j => j ≤ xs.length ∧ (∀ x ∈ xs.take j, p x = false) ∧ m = xs.length - j) (a0 := 0) (ρ := id) ⟨by omega, by simp, rfl⟩ (LessR.of rfl ?_ ?_ (by repeat' first | exact LoSub.nil | refine LoSub.cons rfl ?_ rfl (by simp) ?_ | rfl | (refine (AObj.ren_pure _ _ ?_).symm; simp; done) | (simp [AObj.ren, renL, AC.ren, cTy]; done) | (simp [AObj.ren, renL, AC.ren, cTy]; rfl)) rfl rfl hou) fun m j hj => ?_
  · refine .cons rfl (.ofEq rfl) (.cons rfl (.ofEq rfl) (.consP rfl (.ofEq rfl) (by simp [hcap]) (.consP rfl (.ofEq rfl) (by simp) .nil)))
  · simp [idsL_mono isO_inL caps hcap]
  obtain ⟨hjl, hno, rfl⟩ := hj
  repeat first | (with_reducible refine oj ?_; refine AOps.auto tabOk rfl ?_) | (with_reducible first | refine o1 ?_ | refine o2 ?_ | refine o3 ?_ | refine o4 ?_ | refine o5 ?_ | refine o6 ?_ | refine o7 ?_ | refine o8 ?_ | refine o9 ?_ | refine oa ?_ | refine ob ?_ | refine oc ?_ | refine od ?_ | refine oe ?_ | refine og ?_ | refine oh ?_ | refine oi ?_) | (with_reducible refine cExitMiss ?_ ?_; rfl) | (with_reducible refine ok ?_; first | refine ACode.condT rfl ?_ | refine ACode.condF rfl ?_)
  refine ACode.cond rfl (fun hb2 => ?_) (fun hb2 => ?_)
  · have hlt : j < xs.length := by simpa using hb2
    obtain ⟨a, ha⟩ := get_of_lt hlt
    have hca := hf a (List.mem_of_getElem? ha)
    repeat first | (with_reducible refine oj ?_; refine AOps.auto tabOk rfl ?_) | (with_reducible first | refine o1 ?_ | refine o2 ?_ | refine o3 ?_ | refine o4 ?_ | refine o5 ?_ | refine o6 ?_ | refine o7 ?_ | refine o8 ?_ | refine o9 ?_ | refine oa ?_ | refine ob ?_ | refine oc ?_ | refine od ?_ | refine oe ?_ | refine og ?_ | refine oh ?_ | refine oi ?_) | (with_reducible refine cExitMiss ?_ ?_; rfl) | (with_reducible refine ok ?_; first | refine ACode.condT rfl ?_ | refine ACode.condF rfl ?_)
    refine AOps.step1 rfl rfl rfl (AStep.indexAddr tabOk rfl rfl rfl rfl rfl rfl (.inl rfl) rfl (by omega) (by simpa using map_get ha)) ?_
    repeat first | (with_reducible refine oj ?_; refine AOps.auto tabOk rfl ?_) | (with_reducible first | refine o1 ?_ | refine o2 ?_ | refine o3 ?_ | refine o4 ?_ | refine o5 ?_ | refine o6 ?_ | refine o7 ?_ | refine o8 ?_ | refine o9 ?_ | refine oa ?_ | refine ob ?_ | refine oc ?_ | refine od ?_ | refine oe ?_ | refine og ?_ | refine oh ?_ | refine oi ?_) | (with_reducible refine cExitMiss ?_ ?_; rfl) | (with_reducible refine ok ?_; first | refine ACode.condT rfl ?_ | refine ACode.condF rfl ?_)
    refine AOps.call1 hΓ rfl rfl rfl rfl rfl rfl rfl ⟨by simp, hcf caps hcap⟩ hou hca fun r ou' hq hids hou' => ?_
    obtain ⟨rfl, rfl⟩ := hq
    repeat first | (with_reducible refine oj ?_; refine AOps.auto tabOk rfl ?_) | (with_reducible first | refine o1 ?_ | refine o2 ?_ | refine o3 ?_ | refine o4 ?_ | refine o5 ?_ | refine o6 ?_ | refine o7 ?_ | refine o8 ?_ | refine o9 ?_ | refine oa ?_ | refine ob ?_ | refine oc ?_ | refine od ?_ | refine oe ?_ | refine og ?_ | refine oh ?_ | refine oi ?_) | (with_reducible refine cExitMiss ?_ ?_; rfl) | (with_reducible refine ok ?_; first | refine ACode.condT rfl ?_ | refine ACode.condF rfl ?_)
    refine ACode.cond rfl (fun hb3 => ?_) (fun hb3 => ?_)
    · repeat first | (with_reducible refine oj ?_; refine AOps.auto tabOk rfl ?_) | (with_reducible first | refine o1 ?_ | refine o2 ?_ | refine o3 ?_ | refine o4 ?_ | refine o5 ?_ | refine o6 ?_ | refine o7 ?_ | refine o8 ?_ | refine o9 ?_ | refine oa ?_ | refine ob ?_ | refine oc ?_ | refine od ?_ | refine oe ?_ | refine og ?_ | refine oh ?_ | refine oi ?_) | (with_reducible refine cExitMiss ?_ ?_; rfl) | (with_reducible refine ok ?_; first | refine ACode.condT rfl ?_ | refine ACode.condF rfl ?_)
      refine AFn.fin rfl (WkF.refl _) (by simp) hou ⟨?_, rfl⟩
      rw [idxOf_at hno ha hb3]
    · repeat first | (with_reducible refine oj ?_; refine AOps.auto tabOk rfl ?_) | (with_reducible first | refine o1 ?_ | refine o2 ?_ | refine o3 ?_ | refine o4 ?_ | refine o5 ?_ | refine o6 ?_ | refine o7 ?_ | refine o8 ?_ | refine o9 ?_ | refine oa ?_ | refine ob ?_ | refine oc ?_ | refine od ?_ | refine oe ?_ | refine og ?_ | refine oh ?_ | refine oi ?_) | (with_reducible refine cExitMiss ?_ ?_; rfl) | (with_reducible refine ok ?_; first | refine ACode.condT rfl ?_ | refine ACode.condF rfl ?_)
      refine AOps.step1 rfl rfl rfl (AStep.arith rfl rfl rfl (.inl ⟨rfl, rfl⟩) (inRange_i64 (by omega) (by omega))) ?_
      repeat first | (with_reducible refine oj ?_; refine AOps.auto tabOk rfl ?_) | (with_reducible first | refine o1 ?_ | refine o2 ?_ | refine o3 ?_ | refine o4 ?_ | refine o5 ?_ | refine o6 ?_ | refine o7 ?_ | refine o8 ?_ | refine o9 ?_ | refine oa ?_ | refine ob ?_ | refine oc ?_ | refine od ?_ | refine oe ?_ | refine og ?_ | refine oh ?_ | refine oi ?_) | (with_reducible refine cExitMiss ?_ ?_; rfl) | (with_reducible refine ok ?_; first | refine ACode.condT rfl ?_ | refine ACode.condF rfl ?_)
      refine cInv ⟨xs.length - (j + 1), j + 1, id, by omega, ⟨by omega, take_all hno ha hb3, rfl⟩, LessR.of rfl ?_ ?_ (by repeat' first | exact LoSub.nil | refine LoSub.cons rfl ?_ rfl (by simp) ?_ | rfl | (refine (AObj.ren_pure _ _ ?_).symm; simp; done) | (simp [AObj.ren, renL, AC.ren, cTy]; done) | (simp [AObj.ren, renL, AC.ren, cTy]; rfl)) rfl rfl hou⟩
      · refine .cons rfl (.ofEq rfl) (.cons rfl (.ofEq rfl) (.consP rfl (.ofEq rfl) (by simp [hcap]) (.consP rfl (.ofEq rfl) (by simp) .nil)))
      · simp [idsL_mono isO_inL caps hcap]
  · have hlt : j = xs.length := by simp at hb2; omega
    subst hlt
    rw [List.take_length] at hno
    repeat first | (with_reducible refine oj ?_; refine AOps.auto tabOk rfl ?_) | (with_reducible first | refine o1 ?_ | refine o2 ?_ | refine o3 ?_ | refine o4 ?_ | refine o5 ?_ | refine o6 ?_ | refine o7 ?_ | refine o8 ?_ | refine o9 ?_ | refine oa ?_ | refine ob ?_ | refine oc ?_ | refine od ?_ | refine oe ?_ | refine og ?_ | refine oh ?_ | refine oi ?_) | (with_reducible refine cExitMiss ?_ ?_; rfl) | (with_reducible refine ok ?_; first | refine ACode.condT rfl ?_ | refine ACode.condF rfl ?_)
    refine AFn.fin rfl (WkF.refl _) (by simp) hou ⟨?_, rfl⟩
    rw [idxOf_none hno]
theorem ContainsFunc59_ok (hΓ : ∀ g cs, (g, cs) ∈ Γ → idsL isO cs) (gf : Nat) (caps : List AC) (hcap : idsL isO caps) (ou : Outer) (p : Prd → Bool) (xs : List Prd) (hx : xs.length ≤ 1048576) (hf : ∀ a ∈ xs, AFn Tryd.prog Γ gf (.agg (cPrd a) :: caps.map .one) ou (fun r ou' => r = .one (.lit (.bool (p a))) ∧ ou' = ou)) :
    AFn Tryd.prog Γ 59 [.one (.sl 5 (xs.map cPrd)), .one (.fn (.func gf) [] caps)] ou (fun r ou' => r = .one (.lit (.bool (xs.any p))) ∧ ou' = ou) := by
  refine AFn.walk 9 tabOk Tryd.func59 rfl (by kernel_rfl) rfl rfl fun hou => ?_
  repeat first | (with_reducible refine oj ?_; refine AOps.auto tabOk rfl ?_) | (with_reducible first | refine o1 ?_ | refine o2 ?_ | refine o3 ?_ | refine o4 ?_ | refine o5 ?_ | refine o6 ?_ | refine o7 ?_ | refine o8 ?_ | refine o9 ?_ | refine oa ?_ | refine ob ?_ | refine oc ?_ | refine od ?_ | refine oe ?_ | refine og ?_ | refine oh ?_ | refine oi ?_) | (with_reducible refine cExitMiss ?_ ?_; rfl) | (with_reducible refine ok ?_; first | refine ACode.condT rfl ?_ | refine ACode.condF rfl ?_)
  refine AOps.call1 hΓ rfl rfl rfl rfl rfl rfl rfl (by simp [hcap]) hou (IndexFunc76_ok hΓ gf caps hcap ou p xs hx hf) fun r ou' hq hids hou' => ?_
  obtain ⟨rfl, rfl⟩ := hq
  repeat first | (with_reducible refine oj ?_; refine AOps.auto tabOk rfl ?_) | (with_reducible first | refine o1 ?_ | refine o2 ?_ | refine o3 ?_ | refine o4 ?_ | refine o5 ?_ | refine o6 ?_ | refine o7 ?_ | refine o8 ?_ | refine o9 ?_ | refine oa ?_ | refine ob ?_ | refine oc ?_ | refine od ?_ | refine oe ?_ | refine og ?_ | refine oh ?_ | refine oi ?_) | (with_reducible refine cExitMiss ?_ ?_; rfl) | (with_reducible refine ok ?_; first | refine ACode.condT rfl ?_ | refine ACode.condF rfl ?_)
  refine AFn.fin rfl (WkF.refl _) (by simp) hou ⟨?_, rfl⟩
  rw [← idxOf_any]
/-- What general answers. -/
def genB (a b : Sch) : Bool := (inst (fun _ => none) a.ty b.ty).1 && a.preds.all fun p => b.preds.any (prdOk (inst (fun _ => none) a.ty b.ty).2 p)
theorem general_ok (hΓ : ∀ g cs, (g, cs) ∈ Γ → idsL isO cs) (hΓF : ∀ g cs, (g, cs) ∈ Γ → idsL (fun _ => False) cs) (a b : Sch) (ha : smallTy a.ty) (hb : smallTy b.ty) (hap : ∀ p ∈ a.preds, smallTy p.ty) (hbp : ∀ p ∈ b.preds, smallTy p.ty) (hal : a.preds.length ≤ 1048576) (hbl : b.preds.length ≤ 1048576) :
    APure Tryd.prog Γ 38 [.agg (cSch a), .agg (cSch b)] (.one (.lit (.bool (genB a b)))) := by
  intro ou
  refine AFn.walk 33 tabOk Tryd.func38 rfl (by kernel_rfl) rfl rfl fun hou => ?_
  repeat first | (with_reducible refine oj ?_; refine AOps.auto tabOk rfl ?_) | (with_reducible first | refine o1 ?_ | refine o2 ?_ | refine o3 ?_ | refine o4 ?_ | refine o5 ?_ | refine o6 ?_ | refine o7 ?_ | refine o8 ?_ | refine o9 ?_ | refine oa ?_ | refine ob ?_ | refine oc ?_ | refine od ?_ | refine oe ?_ | refine og ?_ | refine oh ?_ | refine oi ?_) | (with_reducible refine cExitMiss ?_ ?_; rfl) | (with_reducible refine ok ?_; first | refine ACode.condT rfl ?_ | refine ACode.condF rfl ?_)
  refine AOps.step1 rfl rfl rfl (AStep.makeMap rfl) ?_
  repeat first | (with_reducible refine oj ?_; refine AOps.auto tabOk rfl ?_) | (with_reducible first | refine o1 ?_ | refine o2 ?_ | refine o3 ?_ | refine o4 ?_ | refine o5 ?_ | refine o6 ?_ | refine o7 ?_ | refine o8 ?_ | refine o9 ?_ | refine oa ?_ | refine ob ?_ | refine oc ?_ | refine od ?_ | refine oe ?_ | refine og ?_ | refine oh ?_ | refine oi ?_) | (with_reducible refine cExitMiss ?_ ?_; rfl) | (with_reducible refine ok ?_; first | refine ACode.condT rfl ?_ | refine ACode.condF rfl ?_)
  have hm0 : MapIs (fun _ => none) 0 [] := ⟨by simp, by simp, fun k => rfl, by simp⟩
  have hf0 : smallF (fun _ => none) := fun k t h => by cases h
  refine AOps.callR [.l 3, .l 2] [.one (.ptr (.o 0) 0), .agg (cTy a.ty), .agg (cTy b.ty)] [.cells [.mp (.o 1)], .map 0 (encM [])] hΓF rfl rfl rfl rfl rfl rfl ?_ ?_ ?_ ?_ ?_ (instance_ok hΓ a.ty ha b.ty hb _ 0 [] hf0 hm0) ?_
  · simp [subF, FV.sub, AC.sub, nameOf]; first | exact ⟨rfl, rfl⟩ | exact ⟨rfl, rfl, rfl⟩
  · simp [inO]
  · simp
  · exact ⟨rfl, by simp [AObj.sub]; rfl, trivial⟩
  · simp [inO]
  intro r ou' hq
  obtain ⟨rfl, ck, l, rfl, hm⟩ := hq
  have hfs := smallF_inst a.ty (b := b.ty) hf0 hb
  unfold genB
  generalize hI : inst (fun _ => none) a.ty b.ty = I at hm hfs
  obtain ⟨I1, I2⟩ := I
  simp only at hm hfs
  refine ⟨[.cells [.mp (.o 1)], .map ck (encM l)], rfl, rfl, by simp [inO], by simp, ?_⟩
  rw [show FV.sub (nameOf [.l 3, .l 2]) (.one (.lit (.bool (I1, I2).1))) = .one (.lit (.bool I1)) from rfl]
  repeat first | (with_reducible refine oj ?_; refine AOps.auto tabOk rfl ?_) | (with_reducible first | refine o1 ?_ | refine o2 ?_ | refine o3 ?_ | refine o4 ?_ | refine o5 ?_ | refine o6 ?_ | refine o7 ?_ | refine o8 ?_ | refine o9 ?_ | refine oa ?_ | refine ob ?_ | refine oc ?_ | refine od ?_ | refine oe ?_ | refine og ?_ | refine oh ?_ | refine oi ?_) | (with_reducible refine cExitMiss ?_ ?_; rfl) | (with_reducible refine ok ?_; first | refine ACode.condT rfl ?_ | refine ACode.condF rfl ?_)
  refine ACode.cond rfl (fun hb1 => ?_) (fun hb1 => ?_)
  · have : I1 = false := by simpa using hb1
    repeat first | (with_reducible refine oj ?_; refine AOps.auto tabOk rfl ?_) | (with_reducible first | refine o1 ?_ | refine o2 ?_ | refine o3 ?_ | refine o4 ?_ | refine o5 ?_ | refine o6 ?_ | refine o7 ?_ | refine o8 ?_ | refine o9 ?_ | refine oa ?_ | refine ob ?_ | refine oc ?_ | refine od ?_ | refine oe ?_ | refine og ?_ | refine oh ?_ | refine oi ?_) | (with_reducible refine cExitMiss ?_ ?_; rfl) | (with_reducible refine ok ?_; first | refine ACode.condT rfl ?_ | refine ACode.condF rfl ?_)
    refine APure.fin rfl (WkF.ofEq ?_) (by simp) hou rfl
    simp [this]
  have hI1 : I1 = true := by simpa using hb1
  repeat first | (with_reducible refine oj ?_; refine AOps.auto tabOk rfl ?_) | (with_reducible first | refine o1 ?_ | refine o2 ?_ | refine o3 ?_ | refine o4 ?_ | refine o5 ?_ | refine o6 ?_ | refine o7 ?_ | refine o8 ?_ | refine o9 ?_ | refine oa ?_ | refine ob ?_ | refine oc ?_ | refine od ?_ | refine oe ?_ | refine og ?_ | refine oh ?_ | refine oi ?_) | (with_reducible refine cExitMiss ?_ ?_; rfl) | (with_reducible refine ok ?_; first | refine ACode.condT rfl ?_ | refine ACode.condF rfl ?_)
  refine ACode.loopR hΓ (α := Nat) (fun j => [(22, .one (int j)), (21, .one (int (a.preds.map cPrd).length)), (20, .one (.sl 5 (a.preds.map cPrd))), (5, .one (.ptr (.l 4) 0)), (3, .one (.ptr (.l 1) 0))])
    (fun j => ⟨5, [(4, .cells [.ptr (.l 3) 0]), (3, .cells [.mp (.l 2)]), (2, .map ck (encM l)), (1, .cells (cSch b))], ou⟩) (fun m j => j ≤ a.preds.length ∧ (∀ p ∈ a.preds.take j, b.preds.any (prdOk I2 p) = true) ∧ m = a.preds.length - j) (a0 := 0) (ρ := id) ⟨by omega, by simp, rfl⟩ (LessR.of rfl (by (repeat' first | exact FrSub.nil | refine FrSub.cons rfl (.ofEq rfl) ?_ | refine FrSub.consP rfl (.ofEq rfl) (by simp) ?_)) (by simp) (by repeat' first | exact LoSub.nil | refine LoSub.cons rfl ?_ rfl (by simp) ?_ | rfl | (refine (AObj.ren_pure _ _ ?_).symm; simp; done) | (simp [AObj.ren, renL, AC.ren, cTy]; done) | (simp [AObj.ren, renL, AC.ren, cTy]; rfl)) rfl rfl hou) fun m j hj => ?_
  obtain ⟨hjl, hno, rfl⟩ := hj
  repeat first | (with_reducible refine oj ?_; refine AOps.auto tabOk rfl ?_) | (with_reducible first | refine o1 ?_ | refine o2 ?_ | refine o3 ?_ | refine o4 ?_ | refine o5 ?_ | refine o6 ?_ | refine o7 ?_ | refine o8 ?_ | refine o9 ?_ | refine oa ?_ | refine ob ?_ | refine oc ?_ | refine od ?_ | refine oe ?_ | refine og ?_ | refine oh ?_ | refine oi ?_) | (with_reducible refine cExitMiss ?_ ?_; rfl) | (with_reducible refine ok ?_; first | refine ACode.condT rfl ?_ | refine ACode.condF rfl ?_)
  refine ACode.cond rfl (fun hb2 => ?_) (fun hb2 => ?_)
  · have hlt : j < a.preds.length := by simpa using hb2
    obtain ⟨p, hp⟩ := get_of_lt hlt
    have hpm := List.mem_of_getElem? hp
    repeat first | (with_reducible refine oj ?_; refine AOps.auto tabOk rfl ?_) | (with_reducible first | refine o1 ?_ | refine o2 ?_ | refine o3 ?_ | refine o4 ?_ | refine o5 ?_ | refine o6 ?_ | refine o7 ?_ | refine o8 ?_ | refine o9 ?_ | refine oa ?_ | refine ob ?_ | refine oc ?_ | refine od ?_ | refine oe ?_ | refine og ?_ | refine oh ?_ | refine oi ?_) | (with_reducible refine cExitMiss ?_ ?_; rfl) | (with_reducible refine ok ?_; first | refine ACode.condT rfl ?_ | refine ACode.condF rfl ?_)
    refine AOps.step1 rfl rfl rfl (AStep.indexAddr tabOk rfl rfl rfl rfl rfl rfl (.inl rfl) rfl (by omega) (map_get hp)) ?_
    iterate 5 (first | (with_reducible refine oj ?_; refine AOps.auto tabOk rfl ?_) | (with_reducible first | refine o1 ?_ | refine o2 ?_ | refine o3 ?_ | refine o4 ?_ | refine o5 ?_ | refine o6 ?_ | refine o7 ?_ | refine o8 ?_ | refine o9 ?_ | refine oa ?_ | refine ob ?_ | refine oc ?_ | refine od ?_ | refine oe ?_ | refine og ?_ | refine oh ?_ | refine oi ?_) | (with_reducible refine cExitMiss ?_ ?_; rfl) | (with_reducible refine ok ?_; first | refine ACode.condT rfl ?_ | refine ACode.condF rfl ?_))
    refine ACode.freeze1 (.l 5) 7 rfl rfl ?_
    repeat first | (with_reducible refine oj ?_; refine AOps.auto tabOk rfl ?_) | (with_reducible first | refine o1 ?_ | refine o2 ?_ | refine o3 ?_ | refine o4 ?_ | refine o5 ?_ | refine o6 ?_ | refine o7 ?_ | refine o8 ?_ | refine o9 ?_ | refine oa ?_ | refine ob ?_ | refine oc ?_ | refine od ?_ | refine oe ?_ | refine og ?_ | refine oh ?_ | refine oi ?_) | (with_reducible refine cExitMiss ?_ ?_; rfl) | (with_reducible refine ok ?_; first | refine ACode.condT rfl ?_ | refine ACode.condF rfl ?_)
    have hgen : ∀ q ∈ b.preds, AFn Tryd.prog Γ 60 (.agg (cPrd q) :: [AC.ptr (.o 0) 0, .box (cPrd p)].map .one) (ouG ck l) (fun r ou' => r = .one (.lit (.bool (prdOk I2 p q))) ∧ ou' = ouG ck l) := fun q hq =>
      gen1_ok hΓ hΓF p q (hap p hpm) (hbp q hq) I2 ck l hfs hm
    refine AOps.callR [.l 4, .l 3, .l 2] [.one (.sl 5 (b.preds.map cPrd)), .one (.fn (.func 60) [] [.ptr (.o 0) 0, .box (cPrd p)])] [.cells [.ptr (.o 1) 0], .cells [.mp (.o 2)], .map ck (encM l)] hΓF rfl rfl rfl rfl rfl rfl ?_ ?_ ?_ ?_ ?_ (ContainsFunc59_ok hΓ 60 [.ptr (.o 0) 0, .box (cPrd p)] (by simp) (ouG ck l) (prdOk I2 p) b.preds hbl hgen) ?_
    · have e1 : subS (nameOf [.l 4, .l 3, .l 2]) (b.preds.map cPrd) = b.preds.map cPrd := subS_pure _ _ (ids_prds _ _)
      have e2 : subL (nameOf [.l 4, .l 3, .l 2]) (cPrd p) = cPrd p := subL_pure _ _ (ids_cPrd _ _)
      simp only [subF, FV.sub, AC.sub, subL, e1, e2]
      rfl
    · simp [inO]
    · simp
    · exact ⟨rfl, rfl, by simp; rfl, trivial⟩
    · simp [inO]
    intro r ou' hq
    obtain ⟨rfl, rfl⟩ := hq
    refine ⟨[.cells [.ptr (.o 1) 0], .cells [.mp (.o 2)], .map ck (encM l)], rfl, rfl, by simp [inO], by simp, ?_⟩
    rw [show ∀ θ, FV.sub θ (.one (.lit (.bool (b.preds.any (prdOk I2 p))))) = .one (.lit (.bool (b.preds.any (prdOk I2 p)))) from fun _ => rfl]
    repeat first | (with_reducible refine oj ?_; refine AOps.auto tabOk rfl ?_) | (with_reducible first | refine o1 ?_ | refine o2 ?_ | refine o3 ?_ | refine o4 ?_ | refine o5 ?_ | refine o6 ?_ | refine o7 ?_ | refine o8 ?_ | refine o9 ?_ | refine oa ?_ | refine ob ?_ | refine oc ?_ | refine od ?_ | refine oe ?_ | refine og ?_ | refine oh ?_ | refine oi ?_) | (with_reducible refine cExitMiss ?_ ?_; rfl) | (with_reducible refine ok ?_; first | refine ACode.condT rfl ?_ | refine ACode.condF rfl ?_)
    refine ACode.cond rfl (fun hb3 => ?_) (fun hb3 => ?_)
    · have hno2 : b.preds.any (prdOk I2 p) = false := by simpa using hb3
      repeat first | (with_reducible refine oj ?_; refine AOps.auto tabOk rfl ?_) | (with_reducible first | refine o1 ?_ | refine o2 ?_ | refine o3 ?_ | refine o4 ?_ | refine o5 ?_ | refine o6 ?_ | refine o7 ?_ | refine o8 ?_ | refine o9 ?_ | refine oa ?_ | refine ob ?_ | refine oc ?_ | refine od ?_ | refine oe ?_ | refine og ?_ | refine oh ?_ | refine oi ?_) | (with_reducible refine cExitMiss ?_ ?_; rfl) | (with_reducible refine ok ?_; first | refine ACode.condT rfl ?_ | refine ACode.condF rfl ?_)
      refine APure.fin rfl (WkF.ofEq ?_) (by simp) hou rfl
      have : (a.preds.all fun p => b.preds.any (prdOk I2 p)) = false := by
        cases h : (a.preds.all fun p => b.preds.any (prdOk I2 p)) with
        | false => rfl
        | true => rw [List.all_eq_true.1 h p hpm] at hno2; cases hno2
      simp [this]
    · have hyes : b.preds.any (prdOk I2 p) = true := by simpa using hb3
      repeat first | (with_reducible refine oj ?_; refine AOps.auto tabOk rfl ?_) | (with_reducible first | refine o1 ?_ | refine o2 ?_ | refine o3 ?_ | refine o4 ?_ | refine o5 ?_ | refine o6 ?_ | refine o7 ?_ | refine o8 ?_ | refine o9 ?_ | refine oa ?_ | refine ob ?_ | refine oc ?_ | refine od ?_ | refine oe ?_ | refine og ?_ | refine oh ?_ | refine oi ?_) | (with_reducible refine cExitMiss ?_ ?_; rfl) | (with_reducible refine ok ?_; first | refine ACode.condT rfl ?_ | refine ACode.condF rfl ?_)
      refine AOps.step1 rfl rfl rfl (AStep.arith rfl rfl rfl (.inl ⟨rfl, rfl⟩) (inRange_i64 (by omega) (by omega))) ?_
      repeat first | (with_reducible refine oj ?_; refine AOps.auto tabOk rfl ?_) | (with_reducible first | refine o1 ?_ | refine o2 ?_ | refine o3 ?_ | refine o4 ?_ | refine o5 ?_ | refine o6 ?_ | refine o7 ?_ | refine o8 ?_ | refine o9 ?_ | refine oa ?_ | refine ob ?_ | refine oc ?_ | refine od ?_ | refine oe ?_ | refine og ?_ | refine oh ?_ | refine oi ?_) | (with_reducible refine cExitMiss ?_ ?_; rfl) | (with_reducible refine ok ?_; first | refine ACode.condT rfl ?_ | refine ACode.condF rfl ?_)
      exact cInv ⟨a.preds.length - (j + 1), j + 1, id, by omega, ⟨by omega, take_all hno hp hyes, rfl⟩, LessR.of rfl (by (repeat' first | exact FrSub.nil | refine FrSub.cons rfl (.ofEq rfl) ?_ | refine FrSub.consP rfl (.ofEq rfl) (by simp) ?_)) (by simp) (by repeat' first | exact LoSub.nil | refine LoSub.cons rfl ?_ rfl (by simp) ?_ | rfl | (refine (AObj.ren_pure _ _ ?_).symm; simp; done) | (simp [AObj.ren, renL, AC.ren, cTy]; done) | (simp [AObj.ren, renL, AC.ren, cTy]; rfl)) rfl rfl hou⟩
  · have hlt : j = a.preds.length := by simp at hb2; omega
    subst hlt
    rw [List.take_length] at hno
    repeat first | (with_reducible refine oj ?_; refine AOps.auto tabOk rfl ?_) | (with_reducible first | refine o1 ?_ | refine o2 ?_ | refine o3 ?_ | refine o4 ?_ | refine o5 ?_ | refine o6 ?_ | refine o7 ?_ | refine o8 ?_ | refine o9 ?_ | refine oa ?_ | refine ob ?_ | refine oc ?_ | refine od ?_ | refine oe ?_ | refine og ?_ | refine oh ?_ | refine oi ?_) | (with_reducible refine cExitMiss ?_ ?_; rfl) | (with_reducible refine ok ?_; first | refine ACode.condT rfl ?_ | refine ACode.condF rfl ?_)
    refine APure.fin rfl (WkF.ofEq ?_) (by simp) hou rfl
    have : (a.preds.all fun p => b.preds.any (prdOk I2 p)) = true := List.all_eq_true.2 hno
    simp [hI1, this]
end Go.Proofs.YtoojdmgbffnmiaaDoor
