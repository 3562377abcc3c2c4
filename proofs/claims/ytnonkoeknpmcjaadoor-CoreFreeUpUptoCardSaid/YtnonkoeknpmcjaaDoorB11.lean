/- CoreFreeUp, walked. -/
import Derived.Test.YtnonkoeknpmcjaaDoorB10
import Derived.Test.YtnonkoeknpmcjaaDoorRows
import Derived.Lib.LaidTab
namespace Go.Proofs.YtnonkoeknpmcjaaDoor
open Go Go.Abs Go.CoreX
set_option maxRecDepth 10000
set_option linter.unusedVariables false
set_option linter.unusedSimpArgs false
variable {Γ : List (Nat × List AC)}
/-- The list gathered so far: none yet, or an own array. -/
def ow8 (l : List Int) : Option Nat → AC
  | none => .lit (.slice none 0 0)
  | some cap => .arr (.l 0) 1 0 (l.map cI).length cap
def st8 (l : List Int) (ou : Outer) : Option Nat → St
  | none => ⟨0, [], ou⟩
  | some cap => ⟨1, [(0, .cells (vec 1 (l.map cI) cap))], ou⟩
def co8 (l : List Int) : Option Nat → Prop
  | none => l = []
  | some cap => l.length ≤ cap
def p8 : Option Nat → Nat
  | none => 0
  | some cap => cap
def d8 (l : List Int) (ou : Outer) : Option Nat → St
  | none => st8 l ou none
  | some cap => (st8 l ou (some cap)).set (.l 0) .dead
theorem base8 (l : List Int) (ou : Outer) (oc : Option Nat) (h : co8 l oc) : BaseO (st8 l ou oc) (ow8 l oc) 1 (l.map cI) (p8 oc) (d8 l ou oc) := by
  cases oc with
  | none => simp only [co8] at h; subst h; exact .nil 1
  | some cap => exact .own 1 cap (l.map cI) (.l 0) rfl (by simp [cI]) (by rw [List.length_map]; exact h)
theorem lend8 (l : List Int) (ou : Outer) (oc : Option Nat) (h : co8 l oc) : LendF (st8 l ou oc) (.one (ow8 l oc)) (.one (.sl 1 (l.map cI))) := by
  cases oc with
  | none => simp only [co8] at h; subst h; exact .of (.one (.nilS 1)) (by simp)
  | some cap => exact .arr rfl rfl (by simp [cI]) (by simp)
@[simp] theorem ids_ow8 (l l' : List Int) (ou : Outer) (oc : Option Nat) : (ow8 l oc).ids (inL (st8 l' ou oc).n) := by cases oc <;> simp [ow8, st8, AC.ids, inL]
theorem less8 {ρ : Nat → Nat} {fr fr' : Fr} {σ : St} {l : List Int} {ou : Outer} {oc : Option Nat} (h1 : oc.isSome = true → ρ 0 < σ.n ∧ lookL (ρ 0) σ.lo = some (.cells (vec 1 (l.map cI) (p8 oc)))) (h2 : FrSub ρ fr fr') (h3 : Fr.ids (inL (st8 l ou oc).n) fr') (h6 : σ.ou = ou) (h7 : OuOk ou) :
    LessR ρ fr σ fr' (st8 l ou oc) := by
  subst h6
  cases oc with
  | none => exact LessR.of rfl h2 h3 .nil rfl rfl h7
  | some cap =>
    obtain ⟨h4, h5⟩ := h1 rfl
    refine LessR.of ?_ h2 h3 (LoSub.cons h5 ?_ rfl (ids_vecI _ _ _) .nil) ?_ rfl h7
    · simp [st8, Nat.blt]; exact h4
    · rw [AObj.ren_pure ρ (.cells (vec 1 (l.map cI) cap)) (show idsL isO (vec 1 (l.map cI) cap) from ids_vecI _ _ _)]; rfl
    · simp [st8, injOn]
theorem less8' {fr fr' : Fr} {l : List Int} {ou : Outer} {oc : Option Nat} (h2 : FrSub id fr fr') (h3 : Fr.ids (inL (st8 l ou oc).n) fr') (h7 : OuOk ou) : LessR id fr (st8 l ou oc) fr' (st8 l ou oc) :=
  less8 (fun h => by cases oc with | none => cases h | some cap => exact ⟨Nat.zero_lt_one, rfl⟩) h2 h3 (by cases oc <;> rfl) h7
theorem keep8 (l : List Int) (oc : Option Nat) : WkF (.one (ow8 l oc)) ((FV.one (ow8 l oc)).ren id) := by cases oc <;> exact .refl _
theorem FrSub.k8 {fr r : Fr} {k : Nat} {l : List Int} {oc : Option Nat} (h : Fr.get k fr = some (.one (ow8 l oc))) (hr : FrSub id fr r) : FrSub id fr ((k, .one (ow8 l oc)) :: r) := FrSub.cons h (keep8 l oc) hr
theorem FrSub.n8 {ρ : Nat → Nat} {fr r : Fr} {k m n cap : Nat} {l : List Int} (h : Fr.get k fr = some (.one (.arr (.l m) 1 0 n cap))) (hm : m = ρ 0) (hn : n = l.length) (hr : FrSub ρ fr r) : FrSub ρ fr ((k, .one (ow8 l (some cap))) :: r) :=
  FrSub.cons h (.ofEq (by subst hm; subst hn; simp [ow8, FV.ren, AC.ren, Abs.Id.ren])) hr
theorem app8 (l : List Int) (ou : Outer) (oc : Option Nat) (f : Int) (cap : Nat) : lookL (st8 l ou oc).n ((d8 l ou oc).push (.cells (vec 1 (l.map cI ++ [cI f]) cap))).lo = some (.cells (vec 1 ((l ++ [f]).map cI) cap)) ∧ (st8 l ou oc).n < ((d8 l ou oc).push (.cells (vec 1 (l.map cI ++ [cI f]) cap))).n ∧ ((d8 l ou oc).push (.cells (vec 1 (l.map cI ++ [cI f]) cap))).ou = ou := by
  rw [List.map_append]
  cases oc <;> exact ⟨rfl, Nat.lt_succ_self _, rfl⟩
theorem CoreFreeUp_ok (e : List Ex) (he : okB e) (n : Int) : APure Tryd.prog Γc 4 [.one (.sl 5 (e.map cEx)), .one (int n)] (.one (.lit (.bool true))) := by
  intro ou
  refine AFn.walk 92 tabOk Tryd.func4 rfl (by kernel_rfl) rfl rfl fun hou => ?_
  repeat first | (with_reducible refine oj ?_; refine AOps.auto tabOk rfl ?_) | (with_reducible first | refine o1 ?_ | refine o2 ?_ | refine o3 ?_ | refine o4 ?_ | refine o5 ?_ | refine o6 ?_ | refine o7 ?_ | refine o8 ?_ | refine o9 ?_ | refine oa ?_ | refine ob ?_ | refine oc ?_ | refine od ?_ | refine oe ?_ | refine og ?_ | refine oh ?_ | refine oi ?_) | (with_reducible refine cExitMiss ?_ ?_; rfl) | (with_reducible refine ok ?_; first | refine ACode.condT rfl ?_ | refine ACode.condF rfl ?_)
  refine AOps.callC hΓc coreFact_ok rfl rfl rfl rfl rfl rfl rfl hou (by simp) ?_
  repeat first | (with_reducible refine oj ?_; refine AOps.auto tabOk rfl ?_) | (with_reducible first | refine o1 ?_ | refine o2 ?_ | refine o3 ?_ | refine o4 ?_ | refine o5 ?_ | refine o6 ?_ | refine o7 ?_ | refine o8 ?_ | refine o9 ?_ | refine oa ?_ | refine ob ?_ | refine oc ?_ | refine od ?_ | refine oe ?_ | refine og ?_ | refine oh ?_ | refine oi ?_) | (with_reducible refine cExitMiss ?_ ?_; rfl) | (with_reducible refine ok ?_; first | refine ACode.condT rfl ?_ | refine ACode.condF rfl ?_)
  refine AOps.callC hΓc (Check_ok e he) rfl rfl rfl rfl rfl rfl rfl hou (by simp) ?_
  repeat first | (with_reducible refine oj ?_; refine AOps.auto tabOk rfl ?_) | (with_reducible first | refine o1 ?_ | refine o2 ?_ | refine o3 ?_ | refine o4 ?_ | refine o5 ?_ | refine o6 ?_ | refine o7 ?_ | refine o8 ?_ | refine o9 ?_ | refine oa ?_ | refine ob ?_ | refine oc ?_ | refine od ?_ | refine oe ?_ | refine og ?_ | refine oh ?_ | refine oi ?_) | (with_reducible refine cExitMiss ?_ ?_; rfl) | (with_reducible refine ok ?_; first | refine ACode.condT rfl ?_ | refine ACode.condF rfl ?_)
  refine ACode.cond rfl (fun hb => ?_) (fun hb => ?_)
  · repeat first | (with_reducible refine oj ?_; refine AOps.auto tabOk rfl ?_) | (with_reducible first | refine o1 ?_ | refine o2 ?_ | refine o3 ?_ | refine o4 ?_ | refine o5 ?_ | refine o6 ?_ | refine o7 ?_ | refine o8 ?_ | refine o9 ?_ | refine oa ?_ | refine ob ?_ | refine oc ?_ | refine od ?_ | refine oe ?_ | refine og ?_ | refine oh ?_ | refine oi ?_) | (with_reducible refine cExitMiss ?_ ?_; rfl) | (with_reducible refine ok ?_; first | refine ACode.condT rfl ?_ | refine ACode.condF rfl ?_)
    exact APure.fin rfl (WkF.ofEq rfl) (by simp) hou rfl
  have h : check e = 0 := by simpa using hb
  have t1 := body_isTree h
  have hne := t1.ne
  have hel := he.eo.l
  have hlp : 0 < e.length := List.length_pos_iff.2 hne
  repeat first | (with_reducible refine oj ?_; refine AOps.auto tabOk rfl ?_) | (with_reducible first | refine o1 ?_ | refine o2 ?_ | refine o3 ?_ | refine o4 ?_ | refine o5 ?_ | refine o6 ?_ | refine o7 ?_ | refine o8 ?_ | refine o9 ?_ | refine oa ?_ | refine ob ?_ | refine oc ?_ | refine od ?_ | refine oe ?_ | refine og ?_ | refine oh ?_ | refine oi ?_) | (with_reducible refine cExitMiss ?_ ?_; rfl) | (with_reducible refine ok ?_; first | refine ACode.condT rfl ?_ | refine ACode.condF rfl ?_)
  refine AOps.step1 rfl rfl rfl (AStep.max2 (t := 3) (ty := 3) rfl rfl rfl) ?_
  repeat first | (with_reducible refine oj ?_; refine AOps.auto tabOk rfl ?_) | (with_reducible first | refine o1 ?_ | refine o2 ?_ | refine o3 ?_ | refine o4 ?_ | refine o5 ?_ | refine o6 ?_ | refine o7 ?_ | refine o8 ?_ | refine o9 ?_ | refine oa ?_ | refine ob ?_ | refine oc ?_ | refine od ?_ | refine oe ?_ | refine og ?_ | refine oh ?_ | refine oi ?_) | (with_reducible refine cExitMiss ?_ ?_; rfl) | (with_reducible refine ok ?_; first | refine ACode.condT rfl ?_ | refine ACode.condF rfl ?_)
  refine AOps.step1 rfl rfl rfl (AStep.rem rfl rfl rfl (by simp; omega)) ?_
  obtain ⟨q, hq, hql⟩ : ∃ q : Nat, Int.tmod (if n > 0 then n else 0) ((e.map cEx).length : Int) = q ∧ q < e.length := by
    have h0 : (0 : Int) ≤ if n > 0 then n else 0 := by split <;> omega
    generalize (if n > 0 then n else 0) = m at h0
    rw [List.length_map, Int.tmod_eq_emod_of_nonneg h0]
    have h1 := Int.emod_nonneg m (b := (e.length : Int)) (by omega)
    have h2 := Int.emod_lt_of_pos m (b := (e.length : Int)) (by omega)
    exact ⟨(m % (e.length : Int)).toNat, by omega, by omega⟩
  rw [hq]
  obtain ⟨x, hx⟩ := get_of_lt hql
  have hat : atErr e q = 0 := by unfold atErr; rw [if_neg (by simpa using h), if_neg (by omega)]
  have ho : freeAt e q = (freeOf (treeAt e q), 0) := by unfold freeAt; rw [if_neg (by simpa using hat), Int.toNat_natCast]
  have c1 := Free_ok e he q
  rw [ho] at c1
  simp only at c1
  repeat first | (with_reducible refine oj ?_; refine AOps.auto tabOk rfl ?_) | (with_reducible first | refine o1 ?_ | refine o2 ?_ | refine o3 ?_ | refine o4 ?_ | refine o5 ?_ | refine o6 ?_ | refine o7 ?_ | refine o8 ?_ | refine o9 ?_ | refine oa ?_ | refine ob ?_ | refine oc ?_ | refine od ?_ | refine oe ?_ | refine og ?_ | refine oh ?_ | refine oi ?_) | (with_reducible refine cExitMiss ?_ ?_; rfl) | (with_reducible refine ok ?_; first | refine ACode.condT rfl ?_ | refine ACode.condF rfl ?_)
  refine AOps.callC hΓc c1 rfl rfl rfl rfl rfl rfl rfl hou (by simp) ?_
  repeat first | (with_reducible refine oj ?_; refine AOps.auto tabOk rfl ?_) | (with_reducible first | refine o1 ?_ | refine o2 ?_ | refine o3 ?_ | refine o4 ?_ | refine o5 ?_ | refine o6 ?_ | refine o7 ?_ | refine o8 ?_ | refine o9 ?_ | refine oa ?_ | refine ob ?_ | refine oc ?_ | refine od ?_ | refine oe ?_ | refine og ?_ | refine oh ?_ | refine oi ?_) | (with_reducible refine cExitMiss ?_ ?_; rfl) | (with_reducible refine ok ?_; first | refine ACode.condT rfl ?_ | refine ACode.condF rfl ?_)
  refine AOps.step1 rfl rfl rfl (AStep.indexAddr tabOk rfl rfl rfl rfl rfl rfl (.inl rfl) rfl (by omega) (map_get hx)) ?_
  repeat first | (with_reducible refine oj ?_; refine AOps.auto tabOk rfl ?_) | (with_reducible first | refine o1 ?_ | refine o2 ?_ | refine o3 ?_ | refine o4 ?_ | refine o5 ?_ | refine o6 ?_ | refine o7 ?_ | refine o8 ?_ | refine o9 ?_ | refine oa ?_ | refine ob ?_ | refine oc ?_ | refine od ?_ | refine oe ?_ | refine og ?_ | refine oh ?_ | refine oi ?_) | (with_reducible refine cExitMiss ?_ ?_; rfl) | (with_reducible refine ok ?_; first | refine ACode.condT rfl ?_ | refine ACode.condF rfl ?_)
  have hxo := he.eo.x x (List.mem_of_getElem? hx)
  have hshape := shape_of h x (List.mem_of_getElem? hx)
  have hkin : ∀ k ∈ x.kids, 0 ≤ k ∧ k.toNat < e.length := fun k hk => by have h1 := t1.k q x hx k hk; omega
  have hupl : ∀ out : List Int, out.Nodup → (∀ k ∈ out, k ∈ freeOf (treeAt e q)) → out.length ≤ 1048576 := fun out h1 h2 => by
    have h3 := nodup_le h1 h2
    have h4 := freeOf_len (treeAt e q)
    have h5 := len_sub t1 hql
    omega
  obtain ⟨fs, hfs⟩ : ∃ fs, fs = fsAt e x := ⟨_, rfl⟩
  have hfree := up_free h hx
  rw [← hfs] at hfree
  refine ACode.freeze1 (.l 0) 7 rfl rfl ?_
  refine ACode.cutR hΓc (α := Option Nat) (fun oc => [(8, .one (ow8 (upTo x fs 0) oc)), (7, .one (.box (cEx x))), (6, .one (int 0)), (5, .one (.sl 1 ((freeOf (treeAt e q)).map cI))), (0, .one (.sl 5 (e.map cEx)))])
    (fun oc => st8 (upTo x fs 0) ou oc) (fun oc => co8 (upTo x fs 0) oc) ?_ fun oc hoc => ?_
  · refine ACode.cond rfl (fun hb => ?_) (fun hb => ?_)
    · have h0 : x.op = 0 := by simpa using hb
      have e0 : upTo x fs 0 = [x.n] := by unfold upTo; rw [if_pos h0]
      rw [e0]
      repeat first | (with_reducible refine oj ?_; refine AOps.auto tabOk rfl ?_) | (with_reducible first | refine o1 ?_ | refine o2 ?_ | refine o3 ?_ | refine o4 ?_ | refine o5 ?_ | refine o6 ?_ | refine o7 ?_ | refine o8 ?_ | refine o9 ?_ | refine oa ?_ | refine ob ?_ | refine oc ?_ | refine od ?_ | refine oe ?_ | refine og ?_ | refine oh ?_ | refine oi ?_) | (with_reducible refine cExitMiss ?_ ?_; rfl) | (with_reducible refine ok ?_; first | refine ACode.condT rfl ?_ | refine ACode.condF rfl ?_)
      refine AOps.appOwn tabOk rfl rfl rfl rfl rfl rfl rfl rfl rfl (.nil 1) (.sl 1 [cI x.n]) (by simp) rfl (by simp; show 1 * 8 ≤ _; omega) (by simp) fun cap hc => ?_
      repeat' first | (with_reducible refine oj ?_; refine AOps.auto tabOk rfl ?_) | (with_reducible first | refine o1 ?_ | refine o2 ?_ | refine o3 ?_ | refine o4 ?_ | refine o5 ?_ | refine o6 ?_ | refine o7 ?_ | refine o8 ?_ | refine o9 ?_ | refine oa ?_ | refine ob ?_ | refine oc ?_ | refine od ?_ | refine oe ?_ | refine og ?_ | refine oh ?_ | refine oi ?_) | (with_reducible refine cExitMiss ?_ ?_; rfl) | (with_reducible refine ok ?_; first | refine ACode.condT rfl ?_ | refine ACode.condF rfl ?_) | (with_reducible refine oj ?_; first | refine AOps.step1 rfl rfl rfl (AStep.arith rfl rfl rfl (.inl ⟨rfl, rfl⟩) (inRange_i64 (by first | omega | (simp; omega)) (by first | omega | (simp; omega)))) ?_ | refine AOps.step1 rfl rfl rfl (AStep.arith rfl rfl rfl (.inr (.inl ⟨rfl, rfl⟩)) (inRange_i64 (by first | omega | (simp; omega)) (by first | omega | (simp; omega)))) ?_ | refine AOps.step1 rfl rfl rfl (AStep.neBool Tryd.underlying4 rfl rfl rfl) ?_ | refine AOps.step1 rfl rfl rfl (AStep.eqBool Tryd.underlying4 rfl rfl rfl) ?_ | refine AOps.step1 rfl rfl rfl (AStep.max2 (t := 3) (ty := 3) rfl rfl rfl) ?_ | refine AOps.step1 rfl rfl rfl (AStep.min2 (t := 3) (ty := 3) rfl rfl rfl) ?_ | refine AOps.unG rfl rfl rfl ?_)
      exact cInv ⟨some cap, fun _ => 1, hc, less8 (fun _ => ⟨Nat.lt_succ_self _, rfl⟩) (by (repeat' first | exact FrSub.nil | refine FrSub.cons rfl (.ofEq rfl) ?_ | refine FrSub.consP rfl (.ofEq rfl) (by simp) ?_)) (by simp) rfl hou⟩
    · have h0 : ¬ x.op = 0 := by simpa using hb
      have e0 : upTo x fs 0 = [] := by unfold upTo; rw [if_neg h0]
      rw [e0]
      repeat' first | (with_reducible refine oj ?_; refine AOps.auto tabOk rfl ?_) | (with_reducible first | refine o1 ?_ | refine o2 ?_ | refine o3 ?_ | refine o4 ?_ | refine o5 ?_ | refine o6 ?_ | refine o7 ?_ | refine o8 ?_ | refine o9 ?_ | refine oa ?_ | refine ob ?_ | refine oc ?_ | refine od ?_ | refine oe ?_ | refine og ?_ | refine oh ?_ | refine oi ?_) | (with_reducible refine cExitMiss ?_ ?_; rfl) | (with_reducible refine ok ?_; first | refine ACode.condT rfl ?_ | refine ACode.condF rfl ?_) | (with_reducible refine oj ?_; first | refine AOps.step1 rfl rfl rfl (AStep.arith rfl rfl rfl (.inl ⟨rfl, rfl⟩) (inRange_i64 (by first | omega | (simp; omega)) (by first | omega | (simp; omega)))) ?_ | refine AOps.step1 rfl rfl rfl (AStep.arith rfl rfl rfl (.inr (.inl ⟨rfl, rfl⟩)) (inRange_i64 (by first | omega | (simp; omega)) (by first | omega | (simp; omega)))) ?_ | refine AOps.step1 rfl rfl rfl (AStep.neBool Tryd.underlying4 rfl rfl rfl) ?_ | refine AOps.step1 rfl rfl rfl (AStep.eqBool Tryd.underlying4 rfl rfl rfl) ?_ | refine AOps.step1 rfl rfl rfl (AStep.max2 (t := 3) (ty := 3) rfl rfl rfl) ?_ | refine AOps.step1 rfl rfl rfl (AStep.min2 (t := 3) (ty := 3) rfl rfl rfl) ?_ | refine AOps.unG rfl rfl rfl ?_)
      exact cInv ⟨none, id, rfl, less8 (fun h => by cases h) (by (repeat' first | exact FrSub.nil | refine FrSub.cons rfl (.ofEq rfl) ?_ | refine FrSub.consP rfl (.ofEq rfl) (by simp) ?_)) (by simp) rfl hou⟩
  have houc : ∀ (l : List Int) (oc : Option Nat), OuOk (st8 l ou oc).ou := fun l oc => by cases oc <;> exact hou
  have hst : ∀ (l : List Int) (oc : Option Nat), (st8 l ou oc).ou = ou := fun l oc => by cases oc <;> rfl
  repeat first | (with_reducible refine oj ?_; refine AOps.auto tabOk rfl ?_) | (with_reducible first | refine o1 ?_ | refine o2 ?_ | refine o3 ?_ | refine o4 ?_ | refine o5 ?_ | refine o6 ?_ | refine o7 ?_ | refine o8 ?_ | refine o9 ?_ | refine oa ?_ | refine ob ?_ | refine oc ?_ | refine od ?_ | refine oe ?_ | refine og ?_ | refine oh ?_ | refine oi ?_) | (with_reducible refine cExitMiss ?_ ?_; rfl) | (with_reducible refine ok ?_; first | refine ACode.condT rfl ?_ | refine ACode.condF rfl ?_)
  refine ACode.loopR hΓc (α := Nat × Option Nat) (fun a => [(46, .one (int a.1)), (45, .one (int (x.kids.map cI).length)), (44, .one (.sl 1 (x.kids.map cI))), (8, .one (ow8 (upTo x fs a.1) a.2)), (7, .one (.box (cEx x))), (6, .one (int 0)), (5, .one (.sl 1 ((freeOf (treeAt e q)).map cI))), (0, .one (.sl 5 (e.map cEx)))])
    (fun a => st8 (upTo x fs a.1) ou a.2) (fun m a => a.1 ≤ x.kids.length ∧ co8 (upTo x fs a.1) a.2 ∧ m = x.kids.length - a.1) (a0 := (0, oc)) (ρ := id) ⟨by omega, hoc, rfl⟩ (less8' (by repeat' first | exact FrSub.nil | refine FrSub.k8 rfl ?_ | refine FrSub.cons rfl (.ofEq rfl) ?_ | refine FrSub.consP rfl (.ofEq rfl) (by simp) ?_) (by simp) hou) fun m a ha => ?_
  obtain ⟨i, oc⟩ := a
  obtain ⟨hil, hoc, rfl⟩ := ha
  simp only at hil hoc
  repeat first | (with_reducible refine oj ?_; refine AOps.auto tabOk rfl ?_) | (with_reducible first | refine o1 ?_ | refine o2 ?_ | refine o3 ?_ | refine o4 ?_ | refine o5 ?_ | refine o6 ?_ | refine o7 ?_ | refine o8 ?_ | refine o9 ?_ | refine oa ?_ | refine ob ?_ | refine oc ?_ | refine od ?_ | refine oe ?_ | refine og ?_ | refine oh ?_ | refine oi ?_) | (with_reducible refine cExitMiss ?_ ?_; rfl) | (with_reducible refine ok ?_; first | refine ACode.condT rfl ?_ | refine ACode.condF rfl ?_)
  refine ACode.cond rfl (fun hb => ?_) (fun hb => ?_)
  · have hlt : i < x.kids.length := by simpa using hb
    obtain ⟨k, hk⟩ := get_of_lt hlt
    obtain ⟨hk0, hk1⟩ := hkin k (List.mem_of_getElem? hk)
    have hfk : fs i = freeOf (treeAt e k.toNat) := by rw [hfs]; unfold fsAt; rw [List.getD_eq_getElem?_getD, hk]; rfl
    have c2 := Free_ok e he k
    have hatk : atErr e k = 0 := by unfold atErr; rw [if_neg (by simpa using h), if_neg (by omega)]
    rw [show freeAt e k = (fs i, 0) by unfold freeAt; rw [if_neg (by simpa using hatk), hfk]] at c2
    simp only at c2
    repeat first | (with_reducible refine oj ?_; refine AOps.auto tabOk rfl ?_) | (with_reducible first | refine o1 ?_ | refine o2 ?_ | refine o3 ?_ | refine o4 ?_ | refine o5 ?_ | refine o6 ?_ | refine o7 ?_ | refine o8 ?_ | refine o9 ?_ | refine oa ?_ | refine ob ?_ | refine oc ?_ | refine od ?_ | refine oe ?_ | refine og ?_ | refine oh ?_ | refine oi ?_) | (with_reducible refine cExitMiss ?_ ?_; rfl) | (with_reducible refine ok ?_; first | refine ACode.condT rfl ?_ | refine ACode.condF rfl ?_)
    refine AOps.step1 rfl rfl rfl (AStep.indexAddr tabOk rfl rfl rfl rfl rfl rfl (.inl rfl) rfl (by omega) (map_get hk)) ?_
    repeat first | (with_reducible refine oj ?_; refine AOps.auto tabOk rfl ?_) | (with_reducible first | refine o1 ?_ | refine o2 ?_ | refine o3 ?_ | refine o4 ?_ | refine o5 ?_ | refine o6 ?_ | refine o7 ?_ | refine o8 ?_ | refine o9 ?_ | refine oa ?_ | refine ob ?_ | refine oc ?_ | refine od ?_ | refine oe ?_ | refine og ?_ | refine oh ?_ | refine oi ?_) | (with_reducible refine cExitMiss ?_ ?_; rfl) | (with_reducible refine ok ?_; first | refine ACode.condT rfl ?_ | refine ACode.condF rfl ?_)
    refine AOps.callC hΓc c2 rfl rfl rfl rfl rfl rfl rfl (houc _ _) (by simp) ?_
    repeat first | (with_reducible refine oj ?_; refine AOps.auto tabOk rfl ?_) | (with_reducible first | refine o1 ?_ | refine o2 ?_ | refine o3 ?_ | refine o4 ?_ | refine o5 ?_ | refine o6 ?_ | refine o7 ?_ | refine o8 ?_ | refine o9 ?_ | refine oa ?_ | refine ob ?_ | refine oc ?_ | refine od ?_ | refine oe ?_ | refine og ?_ | refine oh ?_ | refine oi ?_) | (with_reducible refine cExitMiss ?_ ?_; rfl) | (with_reducible refine ok ?_; first | refine ACode.condT rfl ?_ | refine ACode.condF rfl ?_)
    refine ACode.loopR hΓc (α := Nat × Option Nat) (fun a => [(61, .one (int a.1)), (60, .one (int ((fs i).map cI).length)), (59, .one (.sl 1 ((fs i).map cI))), (9, .one (int i)), (8, .one (ow8 (upKid (scopeE x i) ((fs i).take a.1) (upTo x fs i)) a.2)), (7, .one (.box (cEx x))), (6, .one (int 0)), (5, .one (.sl 1 ((freeOf (treeAt e q)).map cI))), (0, .one (.sl 5 (e.map cEx))), (46, .one (int i)), (45, .one (int (x.kids.map cI).length)), (44, .one (.sl 1 (x.kids.map cI)))])
      (fun a => st8 (upKid (scopeE x i) ((fs i).take a.1) (upTo x fs i)) ou a.2) (fun m a => a.1 ≤ (fs i).length ∧ co8 (upKid (scopeE x i) ((fs i).take a.1) (upTo x fs i)) a.2 ∧ m = (fs i).length - a.1) (a0 := (0, oc)) (ρ := id) ⟨by omega, hoc, rfl⟩ (less8' (l := upTo x fs i) (by repeat' first | exact FrSub.nil | refine FrSub.k8 rfl ?_ | refine FrSub.cons rfl (.ofEq rfl) ?_ | refine FrSub.consP rfl (.ofEq rfl) (by simp) ?_) (by simp) hou) fun m a ha => ?_
    obtain ⟨j, oc⟩ := a
    obtain ⟨hjl, hoc, rfl⟩ := ha
    simp only at hjl hoc
    have hfl : (fs i).length ≤ 1048576 := by
      rw [hfk]
      have h4 := freeOf_len (treeAt e k.toNat)
      have h5 := len_sub t1 hk1
      omega
    have hkl := hxo.k
    have hki : (i : Int) ≤ 1048576 := by have := hxo.k; omega
    have hsc := Scope_ok (Γ := Γc) x hxo i ⟨by omega, hki⟩ fun h7 => by have := shape_alts hshape; rw [if_pos h7] at this; omega
    repeat first | (with_reducible refine oj ?_; refine AOps.auto tabOk rfl ?_) | (with_reducible first | refine o1 ?_ | refine o2 ?_ | refine o3 ?_ | refine o4 ?_ | refine o5 ?_ | refine o6 ?_ | refine o7 ?_ | refine o8 ?_ | refine o9 ?_ | refine oa ?_ | refine ob ?_ | refine oc ?_ | refine od ?_ | refine oe ?_ | refine og ?_ | refine oh ?_ | refine oi ?_) | (with_reducible refine cExitMiss ?_ ?_; rfl) | (with_reducible refine ok ?_; first | refine ACode.condT rfl ?_ | refine ACode.condF rfl ?_)
    refine ACode.cond rfl (fun hb => ?_) (fun hb => ?_)
    · have hjt : j < (fs i).length := by simpa using hb
      obtain ⟨f, hf⟩ := get_of_lt hjt
      repeat first | (with_reducible refine oj ?_; refine AOps.auto tabOk rfl ?_) | (with_reducible first | refine o1 ?_ | refine o2 ?_ | refine o3 ?_ | refine o4 ?_ | refine o5 ?_ | refine o6 ?_ | refine o7 ?_ | refine o8 ?_ | refine o9 ?_ | refine oa ?_ | refine ob ?_ | refine oc ?_ | refine od ?_ | refine oe ?_ | refine og ?_ | refine oh ?_ | refine oi ?_) | (with_reducible refine cExitMiss ?_ ?_; rfl) | (with_reducible refine ok ?_; first | refine ACode.condT rfl ?_ | refine ACode.condF rfl ?_)
      refine AOps.step1 rfl rfl rfl (AStep.indexAddr tabOk rfl rfl rfl rfl rfl rfl (.inl rfl) rfl (by omega) (map_get hf)) ?_
      repeat first | (with_reducible refine oj ?_; refine AOps.auto tabOk rfl ?_) | (with_reducible first | refine o1 ?_ | refine o2 ?_ | refine o3 ?_ | refine o4 ?_ | refine o5 ?_ | refine o6 ?_ | refine o7 ?_ | refine o8 ?_ | refine o9 ?_ | refine oa ?_ | refine ob ?_ | refine oc ?_ | refine od ?_ | refine oe ?_ | refine og ?_ | refine oh ?_ | refine oi ?_) | (with_reducible refine cExitMiss ?_ ?_; rfl) | (with_reducible refine ok ?_; first | refine ACode.condT rfl ?_ | refine ACode.condF rfl ?_)
      refine AOps.callC hΓc hsc rfl rfl rfl rfl rfl rfl rfl (houc _ _) (by simp) ?_
      have hscl : (scopeE x i).length ≤ 1048576 := by
        unfold scopeE
        split
        · exact hxo.b
        · split
          · rw [List.getD_eq_getElem?_getD]
            cases hal : x.alts[((i : Int) - 1).toNat]? with
            | none => simp
            | some a => exact hxo.ab a (List.mem_of_getElem? hal)
          · simp
      obtain ⟨L, hL⟩ : ∃ L, L = upKid (scopeE x i) ((fs i).take j) (upTo x fs i) := ⟨_, rfl⟩
      have hLn : upKid (scopeE x i) ((fs i).take (j + 1)) (upTo x fs i) = upStep (scopeE x i) L f := by
        rw [take_get hf, hL]; unfold upKid; rw [List.foldl_append]; rfl
      rw [← hL] at hoc ⊢
      have hLl : ∀ out : List Int, out.Nodup → (∀ k ∈ out, k ∈ upKid (scopeE x i) (fs i) (upTo x fs i)) → out.length ≤ 1048576 := fun out h1 h2 => hupl out h1 fun k hk => by
        rw [← hfree]
        have h3 : k ∈ upTo x fs (i + 1) := h2 k hk
        rw [upTo_mem] at h3 ⊢
        rcases h3 with h3 | ⟨j, h3, h4⟩
        · exact .inl h3
        · exact .inr ⟨j, by omega, h4⟩
      have hLs : ∀ k ∈ upKid (scopeE x i) ((fs i).take (j + 1)) (upTo x fs i), k ∈ upKid (scopeE x i) (fs i) (upTo x fs i) := fun k hk => by
        rw [upKid_mem] at hk ⊢
        rcases hk with hk | hk
        · exact .inl hk
        · exact .inr ⟨List.mem_of_mem_take hk.1, hk.2⟩
      have hb1 := hLl _ (upKid_nodup _ _ _ (upTo_nodup x fs i)) hLs
      rw [hLn] at hb1
      have hb0 : L.length ≤ 1048576 := by
        refine Nat.le_trans ?_ hb1
        unfold upStep; split <;> simp
      have hin1 := In_ok hΓc (scopeE x i) hscl f
      have hin2 := In_ok hΓc L hb0 f
      repeat first | (with_reducible refine oj ?_; refine AOps.auto tabOk rfl ?_) | (with_reducible first | refine o1 ?_ | refine o2 ?_ | refine o3 ?_ | refine o4 ?_ | refine o5 ?_ | refine o6 ?_ | refine o7 ?_ | refine o8 ?_ | refine o9 ?_ | refine oa ?_ | refine ob ?_ | refine oc ?_ | refine od ?_ | refine oe ?_ | refine og ?_ | refine oh ?_ | refine oi ?_) | (with_reducible refine cExitMiss ?_ ?_; rfl) | (with_reducible refine ok ?_; first | refine ACode.condT rfl ?_ | refine ACode.condF rfl ?_)
      refine AOps.callC hΓc hin1 rfl rfl rfl rfl rfl rfl rfl (houc _ _) (by simp) ?_
      cases hs1 : (scopeE x i).contains f with
      | true =>
        have hst1 : upStep (scopeE x i) L f = L := by unfold upStep; rw [hs1]; simp
        repeat' first | (with_reducible refine oj ?_; refine AOps.auto tabOk rfl ?_) | (with_reducible first | refine o1 ?_ | refine o2 ?_ | refine o3 ?_ | refine o4 ?_ | refine o5 ?_ | refine o6 ?_ | refine o7 ?_ | refine o8 ?_ | refine o9 ?_ | refine oa ?_ | refine ob ?_ | refine oc ?_ | refine od ?_ | refine oe ?_ | refine og ?_ | refine oh ?_ | refine oi ?_) | (with_reducible refine cExitMiss ?_ ?_; rfl) | (with_reducible refine ok ?_; first | refine ACode.condT rfl ?_ | refine ACode.condF rfl ?_) | (with_reducible refine oj ?_; first | refine AOps.step1 rfl rfl rfl (AStep.arith rfl rfl rfl (.inl ⟨rfl, rfl⟩) (inRange_i64 (by first | omega | (simp; omega)) (by first | omega | (simp; omega)))) ?_ | refine AOps.step1 rfl rfl rfl (AStep.arith rfl rfl rfl (.inr (.inl ⟨rfl, rfl⟩)) (inRange_i64 (by first | omega | (simp; omega)) (by first | omega | (simp; omega)))) ?_ | refine AOps.step1 rfl rfl rfl (AStep.neBool Tryd.underlying4 rfl rfl rfl) ?_ | refine AOps.step1 rfl rfl rfl (AStep.eqBool Tryd.underlying4 rfl rfl rfl) ?_ | refine AOps.step1 rfl rfl rfl (AStep.max2 (t := 3) (ty := 3) rfl rfl rfl) ?_ | refine AOps.step1 rfl rfl rfl (AStep.min2 (t := 3) (ty := 3) rfl rfl rfl) ?_ | refine AOps.unG rfl rfl rfl ?_)
        refine cInv ⟨(fs i).length - (j + 1), (j + 1, oc), id, by omega, ⟨by omega, by simp only [hLn, hst1]; exact hoc, rfl⟩, ?_⟩
        simp only [hLn, hst1]
        exact less8' (by repeat' first | exact FrSub.nil | refine FrSub.k8 rfl ?_ | refine FrSub.cons rfl (.ofEq rfl) ?_ | refine FrSub.consP rfl (.ofEq rfl) (by simp) ?_) (by simp) hou
      | false =>
        repeat' first | (with_reducible refine oj ?_; refine AOps.auto tabOk rfl ?_) | (with_reducible first | refine o1 ?_ | refine o2 ?_ | refine o3 ?_ | refine o4 ?_ | refine o5 ?_ | refine o6 ?_ | refine o7 ?_ | refine o8 ?_ | refine o9 ?_ | refine oa ?_ | refine ob ?_ | refine oc ?_ | refine od ?_ | refine oe ?_ | refine og ?_ | refine oh ?_ | refine oi ?_) | (with_reducible refine cExitMiss ?_ ?_; rfl) | (with_reducible refine ok ?_; first | refine ACode.condT rfl ?_ | refine ACode.condF rfl ?_) | (with_reducible refine oj ?_; first | refine AOps.step1 rfl rfl rfl (AStep.arith rfl rfl rfl (.inl ⟨rfl, rfl⟩) (inRange_i64 (by first | omega | (simp; omega)) (by first | omega | (simp; omega)))) ?_ | refine AOps.step1 rfl rfl rfl (AStep.arith rfl rfl rfl (.inr (.inl ⟨rfl, rfl⟩)) (inRange_i64 (by first | omega | (simp; omega)) (by first | omega | (simp; omega)))) ?_ | refine AOps.step1 rfl rfl rfl (AStep.neBool Tryd.underlying4 rfl rfl rfl) ?_ | refine AOps.step1 rfl rfl rfl (AStep.eqBool Tryd.underlying4 rfl rfl rfl) ?_ | refine AOps.step1 rfl rfl rfl (AStep.max2 (t := 3) (ty := 3) rfl rfl rfl) ?_ | refine AOps.step1 rfl rfl rfl (AStep.min2 (t := 3) (ty := 3) rfl rfl rfl) ?_ | refine AOps.unG rfl rfl rfl ?_) | (with_reducible refine oj ?_; refine AOps.splitS rfl rfl rfl rfl (fun hb => ?_) (fun hb => ?_)) | (with_reducible refine ok ?_; first | refine ACode.condS rfl (fun hb => ?_) (fun hb => ?_) | refine ACode.cond rfl (fun hb => ?_) (fun hb => ?_))
        refine AOps.callS hΓc hin2 (.lit _) rfl rfl rfl rfl rfl rfl (LendFs.cons (lend8 L ou oc hoc) (LendFs.cons (LendF.refl (by simp)) .nil)) ?_
        cases hs2 : L.contains f with
        | true =>
          have hst1 : upStep (scopeE x i) L f = L := by unfold upStep; rw [hs2]; simp
          repeat' first | (with_reducible refine oj ?_; refine AOps.auto tabOk rfl ?_) | (with_reducible first | refine o1 ?_ | refine o2 ?_ | refine o3 ?_ | refine o4 ?_ | refine o5 ?_ | refine o6 ?_ | refine o7 ?_ | refine o8 ?_ | refine o9 ?_ | refine oa ?_ | refine ob ?_ | refine oc ?_ | refine od ?_ | refine oe ?_ | refine og ?_ | refine oh ?_ | refine oi ?_) | (with_reducible refine cExitMiss ?_ ?_; rfl) | (with_reducible refine ok ?_; first | refine ACode.condT rfl ?_ | refine ACode.condF rfl ?_) | (with_reducible refine oj ?_; first | refine AOps.step1 rfl rfl rfl (AStep.arith rfl rfl rfl (.inl ⟨rfl, rfl⟩) (inRange_i64 (by first | omega | (simp; omega)) (by first | omega | (simp; omega)))) ?_ | refine AOps.step1 rfl rfl rfl (AStep.arith rfl rfl rfl (.inr (.inl ⟨rfl, rfl⟩)) (inRange_i64 (by first | omega | (simp; omega)) (by first | omega | (simp; omega)))) ?_ | refine AOps.step1 rfl rfl rfl (AStep.neBool Tryd.underlying4 rfl rfl rfl) ?_ | refine AOps.step1 rfl rfl rfl (AStep.eqBool Tryd.underlying4 rfl rfl rfl) ?_ | refine AOps.step1 rfl rfl rfl (AStep.max2 (t := 3) (ty := 3) rfl rfl rfl) ?_ | refine AOps.step1 rfl rfl rfl (AStep.min2 (t := 3) (ty := 3) rfl rfl rfl) ?_ | refine AOps.unG rfl rfl rfl ?_)
          refine cInv ⟨(fs i).length - (j + 1), (j + 1, oc), id, by omega, ⟨by omega, by simp only [hLn, hst1]; exact hoc, rfl⟩, ?_⟩
          simp only [hLn, hst1]
          exact less8' (by repeat' first | exact FrSub.nil | refine FrSub.k8 rfl ?_ | refine FrSub.cons rfl (.ofEq rfl) ?_ | refine FrSub.consP rfl (.ofEq rfl) (by simp) ?_) (by simp) hou
        | false =>
          have hst1 : upStep (scopeE x i) L f = L ++ [f] := by unfold upStep; rw [hs1, hs2]; simp
          rw [hst1] at hb1
          have hll : (L.map cI ++ [cI f]).length = (L ++ [f]).length := by simp
          repeat first | (with_reducible refine oj ?_; refine AOps.auto tabOk rfl ?_) | (with_reducible first | refine o1 ?_ | refine o2 ?_ | refine o3 ?_ | refine o4 ?_ | refine o5 ?_ | refine o6 ?_ | refine o7 ?_ | refine o8 ?_ | refine o9 ?_ | refine oa ?_ | refine ob ?_ | refine oc ?_ | refine od ?_ | refine oe ?_ | refine og ?_ | refine oh ?_ | refine oi ?_) | (with_reducible refine cExitMiss ?_ ?_; rfl) | (with_reducible refine ok ?_; first | refine ACode.condT rfl ?_ | refine ACode.condF rfl ?_)
          refine AOps.appOwn tabOk rfl rfl rfl rfl rfl rfl rfl rfl rfl (base8 L ou oc hoc) (.sl 1 [cI f]) (by simp) rfl (by rw [List.length_append] at hb1; simp at hb1 ⊢; show (_ + 1) * 8 ≤ _; omega) (by simp at hb1 ⊢; omega) fun cap hc => ?_
          obtain ⟨h1, h2, h3⟩ := app8 L ou oc f cap
          repeat' first | (with_reducible refine oj ?_; refine AOps.auto tabOk rfl ?_) | (with_reducible first | refine o1 ?_ | refine o2 ?_ | refine o3 ?_ | refine o4 ?_ | refine o5 ?_ | refine o6 ?_ | refine o7 ?_ | refine o8 ?_ | refine o9 ?_ | refine oa ?_ | refine ob ?_ | refine oc ?_ | refine od ?_ | refine oe ?_ | refine og ?_ | refine oh ?_ | refine oi ?_) | (with_reducible refine cExitMiss ?_ ?_; rfl) | (with_reducible refine ok ?_; first | refine ACode.condT rfl ?_ | refine ACode.condF rfl ?_) | (with_reducible refine oj ?_; first | refine AOps.step1 rfl rfl rfl (AStep.arith rfl rfl rfl (.inl ⟨rfl, rfl⟩) (inRange_i64 (by first | omega | (simp; omega)) (by first | omega | (simp; omega)))) ?_ | refine AOps.step1 rfl rfl rfl (AStep.arith rfl rfl rfl (.inr (.inl ⟨rfl, rfl⟩)) (inRange_i64 (by first | omega | (simp; omega)) (by first | omega | (simp; omega)))) ?_ | refine AOps.step1 rfl rfl rfl (AStep.neBool Tryd.underlying4 rfl rfl rfl) ?_ | refine AOps.step1 rfl rfl rfl (AStep.eqBool Tryd.underlying4 rfl rfl rfl) ?_ | refine AOps.step1 rfl rfl rfl (AStep.max2 (t := 3) (ty := 3) rfl rfl rfl) ?_ | refine AOps.step1 rfl rfl rfl (AStep.min2 (t := 3) (ty := 3) rfl rfl rfl) ?_ | refine AOps.unG rfl rfl rfl ?_)
          refine cInv ⟨(fs i).length - (j + 1), (j + 1, some cap), fun _ => (st8 L ou oc).n, by omega, ⟨by omega, by simp only [hLn, hst1, co8]; rw [← hll]; exact hc, rfl⟩, ?_⟩
          simp only [hLn, hst1]
          exact less8 (fun _ => ⟨h2, h1⟩) (by repeat' first | exact FrSub.nil | refine FrSub.n8 rfl rfl hll ?_ | refine FrSub.cons rfl (.ofEq rfl) ?_ | refine FrSub.consP rfl (.ofEq rfl) (by simp) ?_) (by simp) h3 hou
    · have hjt : j = (fs i).length := by simp at hb; omega
      subst hjt
      repeat' first | (with_reducible refine oj ?_; refine AOps.auto tabOk rfl ?_) | (with_reducible first | refine o1 ?_ | refine o2 ?_ | refine o3 ?_ | refine o4 ?_ | refine o5 ?_ | refine o6 ?_ | refine o7 ?_ | refine o8 ?_ | refine o9 ?_ | refine oa ?_ | refine ob ?_ | refine oc ?_ | refine od ?_ | refine oe ?_ | refine og ?_ | refine oh ?_ | refine oi ?_) | (with_reducible refine cExitMiss ?_ ?_; rfl) | (with_reducible refine ok ?_; first | refine ACode.condT rfl ?_ | refine ACode.condF rfl ?_) | (with_reducible refine oj ?_; first | refine AOps.step1 rfl rfl rfl (AStep.arith rfl rfl rfl (.inl ⟨rfl, rfl⟩) (inRange_i64 (by first | omega | (simp; omega)) (by first | omega | (simp; omega)))) ?_ | refine AOps.step1 rfl rfl rfl (AStep.arith rfl rfl rfl (.inr (.inl ⟨rfl, rfl⟩)) (inRange_i64 (by first | omega | (simp; omega)) (by first | omega | (simp; omega)))) ?_ | refine AOps.step1 rfl rfl rfl (AStep.neBool Tryd.underlying4 rfl rfl rfl) ?_ | refine AOps.step1 rfl rfl rfl (AStep.eqBool Tryd.underlying4 rfl rfl rfl) ?_ | refine AOps.step1 rfl rfl rfl (AStep.max2 (t := 3) (ty := 3) rfl rfl rfl) ?_ | refine AOps.step1 rfl rfl rfl (AStep.min2 (t := 3) (ty := 3) rfl rfl rfl) ?_ | refine AOps.unG rfl rfl rfl ?_)
      refine cInv ⟨x.kids.length - (i + 1), (i + 1, oc), id, by omega, ⟨by omega, by rw [List.take_length] at hoc; exact hoc, rfl⟩, ?_⟩
      simp only [List.take_length] at hoc ⊢
      exact less8' (l := upTo x fs (i + 1)) (by repeat' first | exact FrSub.nil | refine FrSub.k8 rfl ?_ | refine FrSub.cons rfl (.ofEq rfl) ?_ | refine FrSub.consP rfl (.ofEq rfl) (by simp) ?_) (by simp) hou
  · have hit : i = x.kids.length := by simp at hb; omega
    subst hit
    have hnd := upTo_nodup x fs x.kids.length
    have hend : (upTo x fs x.kids.length).mergeSort (fun x y => decide (x ≤ y)) = freeOf (treeAt e q) := by
      rw [freeOf_occB]
      exact sort_eq hnd fun k => by rw [hfree, mem_free]
    have hel2 := hupl _ hnd fun k hk => (hfree k).1 hk
    cases oc with
    | none =>
      simp only [co8] at hoc
      rw [hoc] at hend
      have hq2 := Equal_ok hΓc (freeOf (treeAt e q)) [] (by rw [← hend]; simp)
      rw [← hend] at hq2 ⊢
      repeat first | (with_reducible refine oj ?_; refine AOps.auto tabOk rfl ?_) | (with_reducible first | refine o1 ?_ | refine o2 ?_ | refine o3 ?_ | refine o4 ?_ | refine o5 ?_ | refine o6 ?_ | refine o7 ?_ | refine o8 ?_ | refine o9 ?_ | refine oa ?_ | refine ob ?_ | refine oc ?_ | refine od ?_ | refine oe ?_ | refine og ?_ | refine oh ?_ | refine oi ?_) | (with_reducible refine cExitMiss ?_ ?_; rfl) | (with_reducible refine ok ?_; first | refine ACode.condT rfl ?_ | refine ACode.condF rfl ?_)
      refine AOps.callNo rfl rfl rfl rfl rfl rfl sort_enter sortNil ?_
      repeat first | (with_reducible refine oj ?_; refine AOps.auto tabOk rfl ?_) | (with_reducible first | refine o1 ?_ | refine o2 ?_ | refine o3 ?_ | refine o4 ?_ | refine o5 ?_ | refine o6 ?_ | refine o7 ?_ | refine o8 ?_ | refine o9 ?_ | refine oa ?_ | refine ob ?_ | refine oc ?_ | refine od ?_ | refine oe ?_ | refine og ?_ | refine oh ?_ | refine oi ?_) | (with_reducible refine cExitMiss ?_ ?_; rfl) | (with_reducible refine ok ?_; first | refine ACode.condT rfl ?_ | refine ACode.condF rfl ?_)
      refine AOps.unG rfl rfl rfl ?_
      refine AOps.callCW (ws := [.one (.sl 1 ((([] : List Int).mergeSort fun x y => decide (x ≤ y)).map cI)), .one (.sl 1 (([] : List Int).map cI))]) hΓc hq2 rfl rfl rfl rfl rfl rfl ?_ hou (by simp) ?_
      · exact .cons (.refl _) (.cons (.one (.nilS 1)) .nil)
      repeat first | (with_reducible refine oj ?_; refine AOps.auto tabOk rfl ?_) | (with_reducible first | refine o1 ?_ | refine o2 ?_ | refine o3 ?_ | refine o4 ?_ | refine o5 ?_ | refine o6 ?_ | refine o7 ?_ | refine o8 ?_ | refine o9 ?_ | refine oa ?_ | refine ob ?_ | refine oc ?_ | refine od ?_ | refine oe ?_ | refine og ?_ | refine oh ?_ | refine oi ?_) | (with_reducible refine cExitMiss ?_ ?_; rfl) | (with_reducible refine ok ?_; first | refine ACode.condT rfl ?_ | refine ACode.condF rfl ?_)
      refine APure.fin rfl (WkF.ofEq ?_) (by simp) hou rfl
      simp
    | some cap =>
      have hq2 := Equal_ok hΓc (freeOf (treeAt e q)) (freeOf (treeAt e q)) (by rw [← hend]; simpa using hel2)
      repeat first | (with_reducible refine oj ?_; refine AOps.auto tabOk rfl ?_) | (with_reducible first | refine o1 ?_ | refine o2 ?_ | refine o3 ?_ | refine o4 ?_ | refine o5 ?_ | refine o6 ?_ | refine o7 ?_ | refine o8 ?_ | refine o9 ?_ | refine oa ?_ | refine ob ?_ | refine oc ?_ | refine od ?_ | refine oe ?_ | refine og ?_ | refine oh ?_ | refine oi ?_) | (with_reducible refine cExitMiss ?_ ?_; rfl) | (with_reducible refine ok ?_; first | refine ACode.condT rfl ?_ | refine ACode.condF rfl ?_)
      refine AOps.wk 83 rfl (y := .one (.arr (.l 0) 1 0 (upTo x fs x.kids.length).length cap)) (.ofEq (by simp [ow8])) ?_
      refine AOps.sortI (l := upTo x fs x.kids.length) rfl rfl rfl rfl rfl rfl sort_enter sortOk rfl (by omega) ?_
      rw [hend]
      refine AOps.wk 8 rfl (y := .one (.arr (.l 0) 1 0 ((freeOf (treeAt e q)).map iC).length cap)) (.ofEq (by rw [← hend]; simp [ow8])) ?_
      refine AOps.freezeArr (.l 0) 8 rfl (by simp) rfl ?_
      repeat first | (with_reducible refine oj ?_; refine AOps.auto tabOk rfl ?_) | (with_reducible first | refine o1 ?_ | refine o2 ?_ | refine o3 ?_ | refine o4 ?_ | refine o5 ?_ | refine o6 ?_ | refine o7 ?_ | refine o8 ?_ | refine o9 ?_ | refine oa ?_ | refine ob ?_ | refine oc ?_ | refine od ?_ | refine oe ?_ | refine og ?_ | refine oh ?_ | refine oi ?_) | (with_reducible refine cExitMiss ?_ ?_; rfl) | (with_reducible refine ok ?_; first | refine ACode.condT rfl ?_ | refine ACode.condF rfl ?_)
      refine AOps.callG hΓc hq2 rfl rfl rfl rfl rfl rfl rfl rfl rfl hou (by simp) ?_
      repeat first | (with_reducible refine oj ?_; refine AOps.auto tabOk rfl ?_) | (with_reducible first | refine o1 ?_ | refine o2 ?_ | refine o3 ?_ | refine o4 ?_ | refine o5 ?_ | refine o6 ?_ | refine o7 ?_ | refine o8 ?_ | refine o9 ?_ | refine oa ?_ | refine ob ?_ | refine oc ?_ | refine od ?_ | refine oe ?_ | refine og ?_ | refine oh ?_ | refine oi ?_) | (with_reducible refine cExitMiss ?_ ?_; rfl) | (with_reducible refine ok ?_; first | refine ACode.condT rfl ?_ | refine ACode.condF rfl ?_)
      refine APure.fin rfl (WkF.ofEq ?_) (by simp) hou rfl
      simp
end Go.Proofs.YtnonkoeknpmcjaaDoor
/- What a row's reading gives: expressions as plain data, and what the bound on their bulk gives. -/
namespace Go.Proofs.YtnonkoeknpmcjaaDoor
open Go Go.Abs Go.CoreX
set_option maxRecDepth 10000
set_option linter.unusedVariables false
set_option linter.unusedSimpArgs false
theorem bulkAll_eq {H : Type} : ∀ l : List (DataW H), Rows.uptoBulkAll l = bulkAll Rows.uptoBulk l
  | [] => rfl
  | d :: l => by simp only [Rows.uptoBulkAll, bulkAll, List.map_cons, List.sum_cons] at *; rw [bulkAll_eq l]; rfl
theorem bulk_agg {H : Type} (l : List (DataW H)) : bulkAll Rows.uptoBulk l + 1 ≤ Rows.uptoBulk (.agg l) := by
  simp only [Rows.uptoBulk, bulkAll_eq]; omega
theorem bulk_slice {H : Type} (l r : List (DataW H)) : bulkAll Rows.uptoBulk l + 1 ≤ Rows.uptoBulk (.slice l r) := by
  simp only [Rows.uptoBulk, bulkAll_eq]; omega
theorem bulk_nil {H : Type} : 1 ≤ Rows.uptoBulk (DataW.nil : DataW H) := by simp [Rows.uptoBulk]
section
variable {H : Type} {enc : TypeId × Value → H} {w : World}
abbrev I64 := {i : Int // IntKind.i64.min ≤ i ∧ i ≤ IntKind.i64.max}
theorem opens_int (n : Nat) : Opens enc Tryd.prog w Rows.uptoBulk 3 n (fun i : I64 => [int i.1]) (fun _ => 1) := by
  intro cs x h
  obtain ⟨i, rfl, rfl, hw⟩ := DataW.trod_int Tryd.underlying3 h
  refine ⟨⟨i, ?_⟩, ⟨_, _, rfl, ⟨rfl, rfl⟩, rfl⟩, by simp [Rows.uptoBulk]⟩
  simpa [Lit.wf] using hw
theorem opens_slice {t e : TypeId} {s : Nat} (ht : Tryd.prog.underlying t = some (.slice e)) (hs : Tryd.prog.cellsOf e = s) (h0 : 0 < s) {α : Type} {c : α → List AC} {wt : α → Nat} (n : Nat) (he : ∀ m, m < n → Opens enc Tryd.prog w Rows.uptoBulk e m c wt) :
    Opens enc Tryd.prog w Rows.uptoBulk t n (fun l : List α => [.sl s (l.map c)]) (fun l => wtAll wt l + 1) := by
  cases n with
  | zero => exact Opens.zero
  | succ n => exact Opens.slice bulk_slice bulk_nil ht hs h0 (he n (by omega))
theorem wt_one {α : Type} (l : List α) : wtAll (fun _ => 1) l = l.length := by
  unfold wtAll
  induction l with
  | nil => rfl
  | cons a l ih => simp only [List.map_cons, List.sum_cons, List.length_cons, ih]; omega
/-- Lists of numbers, as they open. -/
theorem opens_ints (n : Nat) : Opens enc Tryd.prog w Rows.uptoBulk 30 n (fun l : List Int => [.sl 1 (l.map cI)]) (fun l => l.length + 1) := by
  refine Opens.as (opens_slice Tryd.underlying30 (s := 1) (by kernel_rfl) (by omega) n (fun m _ => opens_int m)) fun l => ⟨l.map (·.1), ?_, ?_⟩
  · simp only [List.map_map]; rfl
  · rw [wt_one]; simp
def bAlt (a : Alt) : Nat := a.binds.length + 3
def bAlts (l : List Alt) : Nat := (l.map bAlt).sum
def bEx (x : Ex) : Nat := x.binds.length + x.kids.length + bAlts x.alts + 6
def bExs (l : List Ex) : Nat := (l.map bEx).sum
theorem opensAlt (n : Nat) : Opens enc Tryd.prog w Rows.uptoBulk 63 n cAlt bAlt := by
  cases n with
  | zero => exact Opens.zero
  | succ n =>
    refine Opens.as (Opens.struct bulk_agg Tryd.underlying63 (.cons rfl (by kernel_rfl) (opens_int n) (fun _ => rfl) (.cons rfl (by kernel_rfl) (opens_ints n) (fun _ => rfl) (.nil _))) (fun _ => (show (2 : Nat) = _ by kernel_rfl))) ?_
    rintro ⟨i, l, _⟩
    exact ⟨⟨i.1, l⟩, rfl, by show l.length + 3 ≤ 1 + (l.length + 1 + 0) + 1; omega⟩
theorem opensEx (n : Nat) : Opens enc Tryd.prog w Rows.uptoBulk 35 n cEx bEx := by
  cases n with
  | zero => exact Opens.zero
  | succ n =>
    have ha := opens_slice (enc := enc) (w := w) (t := 33) Tryd.underlying33 (s := 2) (by kernel_rfl) (by omega) n (fun m _ => opensAlt m)
    refine Opens.as (Opens.struct bulk_agg Tryd.underlying35 (.cons rfl (by kernel_rfl) (opens_int n) (fun _ => rfl) (.cons rfl (by kernel_rfl) (opens_int n) (fun _ => rfl) (.cons rfl (by kernel_rfl) (opens_ints n) (fun _ => rfl) (.cons rfl (by kernel_rfl) (opens_ints n) (fun _ => rfl) (.cons rfl (by kernel_rfl) ha (fun _ => rfl) (.nil _)))))) (fun _ => (show (5 : Nat) = _ by kernel_rfl))) ?_
    rintro ⟨i, j, b, k, l, _⟩
    refine ⟨⟨i.1, j.1, b, k, l⟩, rfl, ?_⟩
    show b.length + k.length + bAlts l + 6 ≤ 1 + (1 + (b.length + 1 + (k.length + 1 + (wtAll bAlt l + 1 + 0)))) + 1
    have : wtAll bAlt l = bAlts l := rfl
    omega
theorem opensExs (n : Nat) : Opens enc Tryd.prog w Rows.uptoBulk 22 n (fun l : List Ex => [.sl 5 (l.map cEx)]) (fun l => bExs l + 1) :=
  opens_slice Tryd.underlying22 (s := 5) (by kernel_rfl) (by omega) n (fun m _ => opensEx m)
theorem rf_slice {t e : TypeId} {base : Nat} {r : Reach} {W : World} {v : Value} {C : Ctx} {c : AC} (ht : Tryd.prog.underlying t = some (.slice e)) (h : Value.okWide Tryd.prog W r base t v) (hr : RV W C [c] v.cells.toList) : RF W C (.one c) v := by
  obtain ⟨a, len, cap, rfl⟩ := WideShapes.okWide_slice ht h
  obtain ⟨u, us, he, h1, h2⟩ := hr
  simp [Value.cells] at he
  obtain ⟨rfl, rfl⟩ := he
  exact h1
end
theorem sum_mem {α : Type} {f : α → Nat} : ∀ {l : List α} {a : α}, a ∈ l → f a ≤ (l.map f).sum
  | b :: l, a, h => by
    simp only [List.map_cons, List.sum_cons]
    rcases List.mem_cons.1 h with rfl | h
    · omega
    · have := sum_mem (f := f) h; omega
theorem sum_len {α : Type} {f : α → Nat} (hf : ∀ a, 1 ≤ f a) : ∀ l : List α, l.length ≤ (l.map f).sum
  | [] => by simp
  | b :: l => by
    have h1 := hf b
    have h2 := sum_len hf l
    simp only [List.map_cons, List.sum_cons, List.length_cons]; omega
theorem bAlts_flat : ∀ l : List Alt, (l.flatMap (·.binds)).length ≤ bAlts l
  | [] => by simp [bAlts]
  | a :: l => by
    have := bAlts_flat l
    simp only [bAlts, bAlt, List.flatMap_cons, List.length_append, List.map_cons, List.sum_cons] at *
    omega
theorem okB_of {e : List Ex} (h : bExs e ≤ 1048576) : okB e := by
  have h1 := sum_len (f := bEx) (fun x => by simp only [bEx]; omega) e
  have hx : ∀ x ∈ e, bEx x ≤ 1048576 := fun x hx => by
    have h2 : bEx x ≤ bExs e := sum_mem hx
    omega
  have h1' : e.length ≤ bExs e := h1
  refine ⟨⟨by omega, fun x hx1 => ?_⟩, fun x hx1 => ?_⟩
  · have h2 := hx x hx1
    simp only [bEx] at h2
    have h3 := sum_len (f := bAlt) (fun a => by simp only [bAlt]; omega) x.alts
    have h3' : x.alts.length ≤ bAlts x.alts := h3
    refine ⟨by omega, by omega, by omega, fun a ha => ?_⟩
    have h4 : bAlt a ≤ bAlts x.alts := sum_mem ha
    simp only [bAlt] at h4
    omega
  · have h2 := hx x hx1
    simp only [bEx] at h2
    have h3 := bAlts_flat x.alts
    omega
theorem arity_cells {W : World} (h : laidMetH Tryd.prog [("provenance/core.arity", Rows.laid_provenance_core_arity)] W) : ∀ g cs, (g, cs) ∈ Γc → RG W (ctx0 W) cs g := by
  have ht : Lib.TabIs Tryd.prog W "provenance/core.arity" .i64 [2, 2, 2, 2, 2, 2, 2, 1, 2, 1, 2, 3] :=
    Lib.tabIs_of_head (rest := []) (g := 0) (t := 137) (n := 12) (by kernel_rfl) (by kernel_rfl) (by kernel_rfl) Tryd.underlying3 (by kernel_rfl) (by kernel_rfl) h
  have hg : Tryd.prog.globalNamed "provenance/core.arity" = some 0 := by kernel_rfl
  intro g cs hm
  simp [Γc] at hm
  obtain ⟨rfl, rfl⟩ := hm
  exact RG.ofVar hg ht rfl
end Go.Proofs.YtnonkoeknpmcjaaDoor
