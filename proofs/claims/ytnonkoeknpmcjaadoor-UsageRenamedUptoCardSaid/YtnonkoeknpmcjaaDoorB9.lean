/- Body and Check, walked. -/
import Derived.Test.YtnonkoeknpmcjaaDoorB8
import Derived.Shelf.SlicesG.Cmp
import Derived.Shelf.SlSortCmp.NoneTotal
namespace Go.CoreX
theorem okT_grow {e : List Ex} (h : ∀ x ∈ e, x.binds.length ≤ 1048576 ∧ x.kids.length ≤ 1048576 ∧ x.alts.length ≤ 1048576 ∧ (∀ a ∈ x.alts, a.binds.length ≤ 1048576) ∧ x.binds.length + (x.alts.flatMap (·.binds)).length ≤ 4194304) (hk : kidsIn e) : ∀ t ∈ growL e, okT t := by
  revert h hk
  refine snoc_ind (P := fun e => (∀ x ∈ e, x.binds.length ≤ 1048576 ∧ x.kids.length ≤ 1048576 ∧ x.alts.length ≤ 1048576 ∧ (∀ a ∈ x.alts, a.binds.length ≤ 1048576) ∧ x.binds.length + (x.alts.flatMap (·.binds)).length ≤ 4194304) → kidsIn e → ∀ t ∈ growL e, okT t) (fun _ _ t ht => by simp [growL] at ht) (fun e x ih h hk t ht => ?_) e
  obtain ⟨h1, h2⟩ := kidsIn_snoc.1 hk
  have ih := ih (fun y hy => h y (by simp [hy])) h1
  rw [growL_snoc] at ht
  rcases List.mem_append.1 ht with ht | ht
  · exact ih t ht
  · simp at ht
    subst ht
    obtain ⟨a1, a2, a3, a4, a5⟩ := h x (by simp)
    refine ⟨a1, by simpa using a2, a3, ⟨a4, a5⟩, okTs_iff.2 fun s hs => ?_⟩
    obtain ⟨k, hk2, rfl⟩ := List.mem_map.1 hs
    have hkb := h2 k hk2
    have hl : k.toNat < (growL e).length := by rw [growL_len]; omega
    rw [List.getD_eq_getElem?_getD, List.getElem?_eq_getElem hl]
    exact ih _ (List.getElem_mem hl)
theorem grow_mem {e : List Ex} (h : e ≠ []) : grow e ∈ growL e := by
  have hl : e.length - 1 < (growL e).length := by rw [growL_len]; have := List.length_pos_iff.2 h; omega
  unfold grow
  rw [List.getD_eq_getElem?_getD, List.getElem?_eq_getElem hl]
  exact List.getElem_mem hl
theorem firstErr_at {α : Type} {f : α → Int} : ∀ {l : List α} {j : Nat} {x : α}, (∀ y ∈ l.take j, f y = 0) → l[j]? = some x → f x ≠ 0 → firstErr f l = f x
  | [], j, x, _, h, _ => by simp at h
  | a :: l, 0, x, _, h, hx => by simp at h; subst h; simp [firstErr, hx]
  | a :: l, j + 1, x, h0, h, hx => by
    have h1 := h0 a (by simp)
    simp only [firstErr, h1]
    exact firstErr_at (l := l) (j := j) (fun y hy => h0 y (by simp [hy])) (by simpa using h) hx
theorem freeOf_len (t : Tr) : (freeOf t).length ≤ (listT [] t).length := by
  have h1 : (freeOf t).Nodup := (sortS_sorted (occT [] t)).imp fun {a b} h => by omega
  have h2 := nodup_le h1 (m := occB (fun _ => 0) t) fun x hx => by rw [freeOf_occB] at hx; exact (sortS_mem x _).1 hx
  have h3 := occB_len t (fun _ => 0) []
  simp at h3
  omega
theorem len_tree {e : List Ex} (h : IsTree e) : (listT [] (grow e)).length = e.length := by
  have hp := labs_perm h (isTree_list (grow e)) (grow_list _).symm
  rw [← len_labs e, ← len_labs]; exact hp.length_eq.symm
end Go.CoreX
namespace Go.Proofs.YtnonkoeknpmcjaaDoor
open Go Go.Abs Go.CoreX
set_option maxRecDepth 10000
set_option linter.unusedVariables false
set_option linter.unusedSimpArgs false
/-- What the bound on the bulk gives. -/
structure okB (e : List Ex) : Prop where
  eo : okE e
  b : ∀ x ∈ e, x.binds.length + (x.alts.flatMap (·.binds)).length ≤ 4194304
theorem okB.ex {e : List Ex} (h : okB e) : ∀ x ∈ e, (exBinders x).length ≤ 4194304 ∧ x.binds.length + (x.alts.flatMap (·.binds)).length ≤ 4194304 := fun x hx => by
  have h1 := h.b x hx
  refine ⟨?_, h1⟩
  unfold exBinders bindersN
  rw [List.length_append]
  split
  · omega
  · simp only [List.length_nil]; omega
theorem okB.t {e : List Ex} (h : okB e) (hk : kidsIn e) (hne : e ≠ []) : okT (grow e) := okT_grow (fun x hx => ⟨(h.eo.x x hx).b, (h.eo.x x hx).k, (h.eo.x x hx).a, (h.eo.x x hx).ab, h.b x hx⟩) hk _ (grow_mem hne)
theorem hΓcF : ∀ g cs, (g, cs) ∈ Γc → idsL (fun _ => False) cs := fun g cs h => by
  simp only [Γc, List.mem_singleton, Prod.mk.injEq] at h
  obtain ⟨rfl, rfl⟩ := h
  simp [arC, arityL]
set_option maxHeartbeats 1000000 in
theorem Body_ok (e : List Ex) (he : okB e) (params : List Int) (hp : params.length ≤ 1048576) (flat : Bool) :
    APure Tryd.prog Γc 37 [.one (.sl 5 (e.map cEx)), .one (.sl 1 (params.map cI)), .one (.lit (.bool flat))] (.one (int (body e params flat))) := by
  have hel := he.eo.l
  intro ou
  refine AFn.walk 62 tabOk Tryd.func37 rfl (by kernel_rfl) rfl rfl fun hou => ?_
  repeat first | (with_reducible refine oj ?_; refine AOps.auto tabOk rfl ?_) | (with_reducible first | refine o1 ?_ | refine o2 ?_ | refine o3 ?_ | refine o4 ?_ | refine o5 ?_ | refine o6 ?_ | refine o7 ?_ | refine o8 ?_ | refine o9 ?_ | refine oa ?_ | refine ob ?_ | refine oc ?_ | refine od ?_ | refine oe ?_ | refine og ?_ | refine oh ?_ | refine oi ?_) | (with_reducible refine cExitMiss ?_ ?_; rfl) | (with_reducible refine ok ?_; first | refine ACode.condT rfl ?_ | refine ACode.condF rfl ?_)
  refine AOps.freeze1 (.l 0) 3 rfl rfl ?_
  refine AOps.callC hΓc (treeError_ok hΓc e he.eo) rfl rfl rfl rfl rfl rfl rfl hou (by simp) ?_
  repeat first | (with_reducible refine oj ?_; refine AOps.auto tabOk rfl ?_) | (with_reducible first | refine o1 ?_ | refine o2 ?_ | refine o3 ?_ | refine o4 ?_ | refine o5 ?_ | refine o6 ?_ | refine o7 ?_ | refine o8 ?_ | refine o9 ?_ | refine oa ?_ | refine ob ?_ | refine oc ?_ | refine od ?_ | refine oe ?_ | refine og ?_ | refine oh ?_ | refine oi ?_) | (with_reducible refine cExitMiss ?_ ?_; rfl) | (with_reducible refine ok ?_; first | refine ACode.condT rfl ?_ | refine ACode.condF rfl ?_)
  refine ACode.cond rfl (fun hb => ?_) (fun hb => ?_)
  · have hb' : treeErr e ≠ 0 := by simpa using hb
    repeat first | (with_reducible refine oj ?_; refine AOps.auto tabOk rfl ?_) | (with_reducible first | refine o1 ?_ | refine o2 ?_ | refine o3 ?_ | refine o4 ?_ | refine o5 ?_ | refine o6 ?_ | refine o7 ?_ | refine o8 ?_ | refine o9 ?_ | refine oa ?_ | refine ob ?_ | refine oc ?_ | refine od ?_ | refine oe ?_ | refine og ?_ | refine oh ?_ | refine oi ?_) | (with_reducible refine cExitMiss ?_ ?_; rfl) | (with_reducible refine ok ?_; first | refine ACode.condT rfl ?_ | refine ACode.condF rfl ?_)
    refine APure.fin rfl (WkF.ofEq ?_) (by simp) hou rfl
    unfold body
    rw [if_pos hb']
  have h1 : treeErr e = 0 := by simpa using hb
  clear hb
  obtain ⟨t1, t2, t3⟩ := (treeErr_iff e).1 h1
  have hn : body e params flat = if firstErr (nodeErrF flat e) e ≠ 0 then firstErr (nodeErrF flat e) e else if hasDup (params ++ allBinders e) = true then 7 else if (freeOf (grow e)).all (fun n => params.contains n) = true then 0 else 6 := by
    unfold body; rw [if_neg (by simpa using h1)]
  repeat first | (with_reducible refine oj ?_; refine AOps.auto tabOk rfl ?_) | (with_reducible first | refine o1 ?_ | refine o2 ?_ | refine o3 ?_ | refine o4 ?_ | refine o5 ?_ | refine o6 ?_ | refine o7 ?_ | refine o8 ?_ | refine o9 ?_ | refine oa ?_ | refine ob ?_ | refine oc ?_ | refine od ?_ | refine oe ?_ | refine og ?_ | refine oh ?_ | refine oi ?_) | (with_reducible refine cExitMiss ?_ ?_; rfl) | (with_reducible refine ok ?_; first | refine ACode.condT rfl ?_ | refine ACode.condF rfl ?_)
  refine ACode.loopR hΓc (α := Nat) (fun j => [(20, .one (int j)), (19, .one (int (e.map cEx).length)), (18, .one (.sl 5 (e.map cEx))), (3, .one (.box [.sl 5 (e.map cEx)])), (2, .one (.lit (.bool flat))), (1, .one (.sl 1 (params.map cI)))])
    (fun j => ⟨0, [], ou⟩) (fun m j => j ≤ e.length ∧ (∀ x ∈ e.take j, nodeErrF flat e x = 0) ∧ m = e.length - j) (a0 := 0) (ρ := id) ⟨by omega, by simp, rfl⟩ (LessR.of rfl (by (repeat' first | exact FrSub.nil | refine FrSub.cons rfl (.ofEq rfl) ?_ | refine FrSub.consP rfl (.ofEq rfl) (by simp) ?_)) (by simp) (by repeat' first | exact LoSub.nil | refine LoSub.cons rfl ?_ rfl (by simp) ?_ | rfl | (refine (AObj.ren_pure _ _ ?_).symm; simp; done) | (simp [AObj.ren, renL, AC.ren]; done) | (simp [AObj.ren, renL, AC.ren]; rfl)) rfl rfl hou) fun m j hj => ?_
  obtain ⟨hjl, hno, rfl⟩ := hj
  repeat first | (with_reducible refine oj ?_; refine AOps.auto tabOk rfl ?_) | (with_reducible first | refine o1 ?_ | refine o2 ?_ | refine o3 ?_ | refine o4 ?_ | refine o5 ?_ | refine o6 ?_ | refine o7 ?_ | refine o8 ?_ | refine o9 ?_ | refine oa ?_ | refine ob ?_ | refine oc ?_ | refine od ?_ | refine oe ?_ | refine og ?_ | refine oh ?_ | refine oi ?_) | (with_reducible refine cExitMiss ?_ ?_; rfl) | (with_reducible refine ok ?_; first | refine ACode.condT rfl ?_ | refine ACode.condF rfl ?_)
  refine ACode.cond rfl (fun hb2 => ?_) (fun hb2 => ?_)
  · have hlt : j < e.length := by simpa using hb2
    obtain ⟨x, hx⟩ := get_of_lt hlt
    have hxm := List.mem_of_getElem? hx
    have hxo := he.eo.x x hxm
    have bad : nodeErrF flat e x ≠ 0 → body e params flat = nodeErrF flat e x := fun h => by
      rw [hn, firstErr_at hno hx h, if_pos h]
    have hkk : ∀ k ∈ x.kids, 0 ≤ k ∧ k.toNat < e.length := fun k hk => by have := kids_lt t2.k hxm k hk; omega
    have hcall := nodeError_ok e x hxo hkk
    repeat first | (with_reducible refine oj ?_; refine AOps.auto tabOk rfl ?_) | (with_reducible first | refine o1 ?_ | refine o2 ?_ | refine o3 ?_ | refine o4 ?_ | refine o5 ?_ | refine o6 ?_ | refine o7 ?_ | refine o8 ?_ | refine o9 ?_ | refine oa ?_ | refine ob ?_ | refine oc ?_ | refine od ?_ | refine oe ?_ | refine og ?_ | refine oh ?_ | refine oi ?_) | (with_reducible refine cExitMiss ?_ ?_; rfl) | (with_reducible refine ok ?_; first | refine ACode.condT rfl ?_ | refine ACode.condF rfl ?_)
    refine AOps.step1 rfl rfl rfl (AStep.indexAddr tabOk rfl rfl rfl rfl rfl rfl (.inl rfl) rfl (by omega) (map_get hx)) ?_
    cases flat with
    | false =>
      have hE : nodeErrF false e x = if flatOnly x.op = true then 3 else nodeErr e x := by simp [nodeErrF]
      repeat' first | (with_reducible refine oj ?_; refine AOps.auto tabOk rfl ?_) | (with_reducible first | refine o1 ?_ | refine o2 ?_ | refine o3 ?_ | refine o4 ?_ | refine o5 ?_ | refine o6 ?_ | refine o7 ?_ | refine o8 ?_ | refine o9 ?_ | refine oa ?_ | refine ob ?_ | refine oc ?_ | refine od ?_ | refine oe ?_ | refine og ?_ | refine oh ?_ | refine oi ?_) | (with_reducible refine cExitMiss ?_ ?_; rfl) | (with_reducible refine ok ?_; first | refine ACode.condT rfl ?_ | refine ACode.condF rfl ?_) | (with_reducible refine oj ?_; first | refine AOps.step1 rfl rfl rfl (AStep.arith rfl rfl rfl (.inl ⟨rfl, rfl⟩) (inRange_i64 (by first | omega | (simp; omega)) (by first | omega | (simp; omega)))) ?_ | refine AOps.step1 rfl rfl rfl (AStep.arith rfl rfl rfl (.inr (.inl ⟨rfl, rfl⟩)) (inRange_i64 (by first | omega | (simp; omega)) (by first | omega | (simp; omega)))) ?_ | refine AOps.step1 rfl rfl rfl (AStep.neBool Tryd.underlying4 rfl rfl rfl) ?_ | refine AOps.step1 rfl rfl rfl (AStep.eqBool Tryd.underlying4 rfl rfl rfl) ?_ | refine AOps.step1 rfl rfl rfl (AStep.max2 (t := 3) (ty := 3) rfl rfl rfl) ?_ | refine AOps.step1 rfl rfl rfl (AStep.min2 (t := 3) (ty := 3) rfl rfl rfl) ?_ | refine AOps.unG rfl rfl rfl ?_) | (with_reducible refine oj ?_; refine AOps.splitS rfl rfl rfl rfl (fun hb => ?_) (fun hb => ?_)) | (with_reducible refine ok ?_; first | refine ACode.condS rfl (fun hb => ?_) (fun hb => ?_) | refine ACode.cond rfl (fun hb => ?_) (fun hb => ?_))
      refine AOps.callC hΓc (flatOnly_ok x.op) rfl rfl rfl rfl rfl rfl rfl hou (by simp) ?_
      repeat' first | (with_reducible refine oj ?_; refine AOps.auto tabOk rfl ?_) | (with_reducible first | refine o1 ?_ | refine o2 ?_ | refine o3 ?_ | refine o4 ?_ | refine o5 ?_ | refine o6 ?_ | refine o7 ?_ | refine o8 ?_ | refine o9 ?_ | refine oa ?_ | refine ob ?_ | refine oc ?_ | refine od ?_ | refine oe ?_ | refine og ?_ | refine oh ?_ | refine oi ?_) | (with_reducible refine cExitMiss ?_ ?_; rfl) | (with_reducible refine ok ?_; first | refine ACode.condT rfl ?_ | refine ACode.condF rfl ?_) | (with_reducible refine oj ?_; first | refine AOps.step1 rfl rfl rfl (AStep.arith rfl rfl rfl (.inl ⟨rfl, rfl⟩) (inRange_i64 (by first | omega | (simp; omega)) (by first | omega | (simp; omega)))) ?_ | refine AOps.step1 rfl rfl rfl (AStep.arith rfl rfl rfl (.inr (.inl ⟨rfl, rfl⟩)) (inRange_i64 (by first | omega | (simp; omega)) (by first | omega | (simp; omega)))) ?_ | refine AOps.step1 rfl rfl rfl (AStep.neBool Tryd.underlying4 rfl rfl rfl) ?_ | refine AOps.step1 rfl rfl rfl (AStep.eqBool Tryd.underlying4 rfl rfl rfl) ?_ | refine AOps.step1 rfl rfl rfl (AStep.max2 (t := 3) (ty := 3) rfl rfl rfl) ?_ | refine AOps.step1 rfl rfl rfl (AStep.min2 (t := 3) (ty := 3) rfl rfl rfl) ?_ | refine AOps.unG rfl rfl rfl ?_) | (with_reducible refine oj ?_; refine AOps.splitS rfl rfl rfl rfl (fun hb => ?_) (fun hb => ?_)) | (with_reducible refine ok ?_; first | refine ACode.condS rfl (fun hb => ?_) (fun hb => ?_) | refine ACode.cond rfl (fun hb => ?_) (fun hb => ?_))
      all_goals try
        (refine APure.fin rfl (WkF.ofEq ?_) (by simp) hou rfl
         rw [bad (by rw [hE, if_pos hb]; decide), hE, if_pos hb]
         done)
      rw [if_neg (by rw [hb]; decide)] at hE
      refine AOps.callC hΓc hcall rfl rfl rfl rfl rfl rfl rfl hou (by simp) ?_
      repeat first | (with_reducible refine oj ?_; refine AOps.auto tabOk rfl ?_) | (with_reducible first | refine o1 ?_ | refine o2 ?_ | refine o3 ?_ | refine o4 ?_ | refine o5 ?_ | refine o6 ?_ | refine o7 ?_ | refine o8 ?_ | refine o9 ?_ | refine oa ?_ | refine ob ?_ | refine oc ?_ | refine od ?_ | refine oe ?_ | refine og ?_ | refine oh ?_ | refine oi ?_) | (with_reducible refine cExitMiss ?_ ?_; rfl) | (with_reducible refine ok ?_; first | refine ACode.condT rfl ?_ | refine ACode.condF rfl ?_)
      refine ACode.cond rfl (fun hb3 => ?_) (fun hb3 => ?_)
      · have h3 : nodeErr e x ≠ 0 := by simpa using hb3
        repeat first | (with_reducible refine oj ?_; refine AOps.auto tabOk rfl ?_) | (with_reducible first | refine o1 ?_ | refine o2 ?_ | refine o3 ?_ | refine o4 ?_ | refine o5 ?_ | refine o6 ?_ | refine o7 ?_ | refine o8 ?_ | refine o9 ?_ | refine oa ?_ | refine ob ?_ | refine oc ?_ | refine od ?_ | refine oe ?_ | refine og ?_ | refine oh ?_ | refine oi ?_) | (with_reducible refine cExitMiss ?_ ?_; rfl) | (with_reducible refine ok ?_; first | refine ACode.condT rfl ?_ | refine ACode.condF rfl ?_)
        refine APure.fin rfl (WkF.ofEq ?_) (by simp) hou rfl
        rw [bad (by rw [hE]; exact h3), hE]
      · have h3 : nodeErr e x = 0 := by simpa using hb3
        repeat' first | (with_reducible refine oj ?_; refine AOps.auto tabOk rfl ?_) | (with_reducible first | refine o1 ?_ | refine o2 ?_ | refine o3 ?_ | refine o4 ?_ | refine o5 ?_ | refine o6 ?_ | refine o7 ?_ | refine o8 ?_ | refine o9 ?_ | refine oa ?_ | refine ob ?_ | refine oc ?_ | refine od ?_ | refine oe ?_ | refine og ?_ | refine oh ?_ | refine oi ?_) | (with_reducible refine cExitMiss ?_ ?_; rfl) | (with_reducible refine ok ?_; first | refine ACode.condT rfl ?_ | refine ACode.condF rfl ?_) | (with_reducible refine oj ?_; first | refine AOps.step1 rfl rfl rfl (AStep.arith rfl rfl rfl (.inl ⟨rfl, rfl⟩) (inRange_i64 (by first | omega | (simp; omega)) (by first | omega | (simp; omega)))) ?_ | refine AOps.step1 rfl rfl rfl (AStep.arith rfl rfl rfl (.inr (.inl ⟨rfl, rfl⟩)) (inRange_i64 (by first | omega | (simp; omega)) (by first | omega | (simp; omega)))) ?_ | refine AOps.step1 rfl rfl rfl (AStep.neBool Tryd.underlying4 rfl rfl rfl) ?_ | refine AOps.step1 rfl rfl rfl (AStep.eqBool Tryd.underlying4 rfl rfl rfl) ?_ | refine AOps.step1 rfl rfl rfl (AStep.max2 (t := 3) (ty := 3) rfl rfl rfl) ?_ | refine AOps.step1 rfl rfl rfl (AStep.min2 (t := 3) (ty := 3) rfl rfl rfl) ?_ | refine AOps.unG rfl rfl rfl ?_)
        exact cInv ⟨e.length - (j + 1), j + 1, id, by omega, ⟨by omega, take_all hno hx (by rw [hE]; exact h3), rfl⟩, LessR.of rfl (by (repeat' first | exact FrSub.nil | refine FrSub.cons rfl (.ofEq rfl) ?_ | refine FrSub.consP rfl (.ofEq rfl) (by simp) ?_)) (by simp) (by repeat' first | exact LoSub.nil | refine LoSub.cons rfl ?_ rfl (by simp) ?_ | rfl | (refine (AObj.ren_pure _ _ ?_).symm; simp; done) | (simp [AObj.ren, renL, AC.ren]; done) | (simp [AObj.ren, renL, AC.ren]; rfl)) rfl rfl hou⟩
    | true =>
      have hE : nodeErrF true e x = if coreOnly x.op = true then 3 else nodeErr e x := by simp [nodeErrF]
      repeat' first | (with_reducible refine oj ?_; refine AOps.auto tabOk rfl ?_) | (with_reducible first | refine o1 ?_ | refine o2 ?_ | refine o3 ?_ | refine o4 ?_ | refine o5 ?_ | refine o6 ?_ | refine o7 ?_ | refine o8 ?_ | refine o9 ?_ | refine oa ?_ | refine ob ?_ | refine oc ?_ | refine od ?_ | refine oe ?_ | refine og ?_ | refine oh ?_ | refine oi ?_) | (with_reducible refine cExitMiss ?_ ?_; rfl) | (with_reducible refine ok ?_; first | refine ACode.condT rfl ?_ | refine ACode.condF rfl ?_) | (with_reducible refine oj ?_; first | refine AOps.step1 rfl rfl rfl (AStep.arith rfl rfl rfl (.inl ⟨rfl, rfl⟩) (inRange_i64 (by first | omega | (simp; omega)) (by first | omega | (simp; omega)))) ?_ | refine AOps.step1 rfl rfl rfl (AStep.arith rfl rfl rfl (.inr (.inl ⟨rfl, rfl⟩)) (inRange_i64 (by first | omega | (simp; omega)) (by first | omega | (simp; omega)))) ?_ | refine AOps.step1 rfl rfl rfl (AStep.neBool Tryd.underlying4 rfl rfl rfl) ?_ | refine AOps.step1 rfl rfl rfl (AStep.eqBool Tryd.underlying4 rfl rfl rfl) ?_ | refine AOps.step1 rfl rfl rfl (AStep.max2 (t := 3) (ty := 3) rfl rfl rfl) ?_ | refine AOps.step1 rfl rfl rfl (AStep.min2 (t := 3) (ty := 3) rfl rfl rfl) ?_ | refine AOps.unG rfl rfl rfl ?_) | (with_reducible refine oj ?_; refine AOps.splitS rfl rfl rfl rfl (fun hb => ?_) (fun hb => ?_)) | (with_reducible refine ok ?_; first | refine ACode.condS rfl (fun hb => ?_) (fun hb => ?_) | refine ACode.cond rfl (fun hb => ?_) (fun hb => ?_))
      refine AOps.callC hΓc (coreOnly_ok x.op) rfl rfl rfl rfl rfl rfl rfl hou (by simp) ?_
      repeat' first | (with_reducible refine oj ?_; refine AOps.auto tabOk rfl ?_) | (with_reducible first | refine o1 ?_ | refine o2 ?_ | refine o3 ?_ | refine o4 ?_ | refine o5 ?_ | refine o6 ?_ | refine o7 ?_ | refine o8 ?_ | refine o9 ?_ | refine oa ?_ | refine ob ?_ | refine oc ?_ | refine od ?_ | refine oe ?_ | refine og ?_ | refine oh ?_ | refine oi ?_) | (with_reducible refine cExitMiss ?_ ?_; rfl) | (with_reducible refine ok ?_; first | refine ACode.condT rfl ?_ | refine ACode.condF rfl ?_) | (with_reducible refine oj ?_; first | refine AOps.step1 rfl rfl rfl (AStep.arith rfl rfl rfl (.inl ⟨rfl, rfl⟩) (inRange_i64 (by first | omega | (simp; omega)) (by first | omega | (simp; omega)))) ?_ | refine AOps.step1 rfl rfl rfl (AStep.arith rfl rfl rfl (.inr (.inl ⟨rfl, rfl⟩)) (inRange_i64 (by first | omega | (simp; omega)) (by first | omega | (simp; omega)))) ?_ | refine AOps.step1 rfl rfl rfl (AStep.neBool Tryd.underlying4 rfl rfl rfl) ?_ | refine AOps.step1 rfl rfl rfl (AStep.eqBool Tryd.underlying4 rfl rfl rfl) ?_ | refine AOps.step1 rfl rfl rfl (AStep.max2 (t := 3) (ty := 3) rfl rfl rfl) ?_ | refine AOps.step1 rfl rfl rfl (AStep.min2 (t := 3) (ty := 3) rfl rfl rfl) ?_ | refine AOps.unG rfl rfl rfl ?_) | (with_reducible refine oj ?_; refine AOps.splitS rfl rfl rfl rfl (fun hb => ?_) (fun hb => ?_)) | (with_reducible refine ok ?_; first | refine ACode.condS rfl (fun hb => ?_) (fun hb => ?_) | refine ACode.cond rfl (fun hb => ?_) (fun hb => ?_))
      all_goals try
        (refine APure.fin rfl (WkF.ofEq ?_) (by simp) hou rfl
         rw [bad (by rw [hE, if_pos hb]; decide), hE, if_pos hb]
         done)
      rw [if_neg (by rw [hb]; decide)] at hE
      refine AOps.callC hΓc hcall rfl rfl rfl rfl rfl rfl rfl hou (by simp) ?_
      repeat first | (with_reducible refine oj ?_; refine AOps.auto tabOk rfl ?_) | (with_reducible first | refine o1 ?_ | refine o2 ?_ | refine o3 ?_ | refine o4 ?_ | refine o5 ?_ | refine o6 ?_ | refine o7 ?_ | refine o8 ?_ | refine o9 ?_ | refine oa ?_ | refine ob ?_ | refine oc ?_ | refine od ?_ | refine oe ?_ | refine og ?_ | refine oh ?_ | refine oi ?_) | (with_reducible refine cExitMiss ?_ ?_; rfl) | (with_reducible refine ok ?_; first | refine ACode.condT rfl ?_ | refine ACode.condF rfl ?_)
      refine ACode.cond rfl (fun hb3 => ?_) (fun hb3 => ?_)
      · have h3 : nodeErr e x ≠ 0 := by simpa using hb3
        repeat first | (with_reducible refine oj ?_; refine AOps.auto tabOk rfl ?_) | (with_reducible first | refine o1 ?_ | refine o2 ?_ | refine o3 ?_ | refine o4 ?_ | refine o5 ?_ | refine o6 ?_ | refine o7 ?_ | refine o8 ?_ | refine o9 ?_ | refine oa ?_ | refine ob ?_ | refine oc ?_ | refine od ?_ | refine oe ?_ | refine og ?_ | refine oh ?_ | refine oi ?_) | (with_reducible refine cExitMiss ?_ ?_; rfl) | (with_reducible refine ok ?_; first | refine ACode.condT rfl ?_ | refine ACode.condF rfl ?_)
        refine APure.fin rfl (WkF.ofEq ?_) (by simp) hou rfl
        rw [bad (by rw [hE]; exact h3), hE]
      · have h3 : nodeErr e x = 0 := by simpa using hb3
        repeat' first | (with_reducible refine oj ?_; refine AOps.auto tabOk rfl ?_) | (with_reducible first | refine o1 ?_ | refine o2 ?_ | refine o3 ?_ | refine o4 ?_ | refine o5 ?_ | refine o6 ?_ | refine o7 ?_ | refine o8 ?_ | refine o9 ?_ | refine oa ?_ | refine ob ?_ | refine oc ?_ | refine od ?_ | refine oe ?_ | refine og ?_ | refine oh ?_ | refine oi ?_) | (with_reducible refine cExitMiss ?_ ?_; rfl) | (with_reducible refine ok ?_; first | refine ACode.condT rfl ?_ | refine ACode.condF rfl ?_) | (with_reducible refine oj ?_; first | refine AOps.step1 rfl rfl rfl (AStep.arith rfl rfl rfl (.inl ⟨rfl, rfl⟩) (inRange_i64 (by first | omega | (simp; omega)) (by first | omega | (simp; omega)))) ?_ | refine AOps.step1 rfl rfl rfl (AStep.arith rfl rfl rfl (.inr (.inl ⟨rfl, rfl⟩)) (inRange_i64 (by first | omega | (simp; omega)) (by first | omega | (simp; omega)))) ?_ | refine AOps.step1 rfl rfl rfl (AStep.neBool Tryd.underlying4 rfl rfl rfl) ?_ | refine AOps.step1 rfl rfl rfl (AStep.eqBool Tryd.underlying4 rfl rfl rfl) ?_ | refine AOps.step1 rfl rfl rfl (AStep.max2 (t := 3) (ty := 3) rfl rfl rfl) ?_ | refine AOps.step1 rfl rfl rfl (AStep.min2 (t := 3) (ty := 3) rfl rfl rfl) ?_ | refine AOps.unG rfl rfl rfl ?_)
        exact cInv ⟨e.length - (j + 1), j + 1, id, by omega, ⟨by omega, take_all hno hx (by rw [hE]; exact h3), rfl⟩, LessR.of rfl (by (repeat' first | exact FrSub.nil | refine FrSub.cons rfl (.ofEq rfl) ?_ | refine FrSub.consP rfl (.ofEq rfl) (by simp) ?_)) (by simp) (by repeat' first | exact LoSub.nil | refine LoSub.cons rfl ?_ rfl (by simp) ?_ | rfl | (refine (AObj.ren_pure _ _ ?_).symm; simp; done) | (simp [AObj.ren, renL, AC.ren]; done) | (simp [AObj.ren, renL, AC.ren]; rfl)) rfl rfl hou⟩
  have hlt : j = e.length := by simp at hb2; omega
  subst hlt
  rw [List.take_length] at hno
  rw [if_neg (by rw [Classical.not_not]; exact (firstErr_zero _ _).2 hno)] at hn
  clear hno hb2 hjl
  have hgt := he.t t2.k t2.ne
  repeat first | (with_reducible refine oj ?_; refine AOps.auto tabOk rfl ?_) | (with_reducible first | refine o1 ?_ | refine o2 ?_ | refine o3 ?_ | refine o4 ?_ | refine o5 ?_ | refine o6 ?_ | refine o7 ?_ | refine o8 ?_ | refine o9 ?_ | refine oa ?_ | refine ob ?_ | refine oc ?_ | refine od ?_ | refine oe ?_ | refine og ?_ | refine oh ?_ | refine oi ?_) | (with_reducible refine cExitMiss ?_ ?_; rfl) | (with_reducible refine ok ?_; first | refine ACode.condT rfl ?_ | refine ACode.condF rfl ?_)
  refine AOps.callC hΓc (twice_ok hΓc e he.eo params hp he.ex) rfl rfl rfl rfl rfl rfl rfl hou (by simp) ?_
  repeat first | (with_reducible refine oj ?_; refine AOps.auto tabOk rfl ?_) | (with_reducible first | refine o1 ?_ | refine o2 ?_ | refine o3 ?_ | refine o4 ?_ | refine o5 ?_ | refine o6 ?_ | refine o7 ?_ | refine o8 ?_ | refine o9 ?_ | refine oa ?_ | refine ob ?_ | refine oc ?_ | refine od ?_ | refine oe ?_ | refine og ?_ | refine oh ?_ | refine oi ?_) | (with_reducible refine cExitMiss ?_ ?_; rfl) | (with_reducible refine ok ?_; first | refine ACode.condT rfl ?_ | refine ACode.condF rfl ?_)
  refine ACode.cond rfl (fun hb => ?_) (fun hb => ?_)
  · repeat first | (with_reducible refine oj ?_; refine AOps.auto tabOk rfl ?_) | (with_reducible first | refine o1 ?_ | refine o2 ?_ | refine o3 ?_ | refine o4 ?_ | refine o5 ?_ | refine o6 ?_ | refine o7 ?_ | refine o8 ?_ | refine o9 ?_ | refine oa ?_ | refine ob ?_ | refine oc ?_ | refine od ?_ | refine oe ?_ | refine og ?_ | refine oh ?_ | refine oi ?_) | (with_reducible refine cExitMiss ?_ ?_; rfl) | (with_reducible refine ok ?_; first | refine ACode.condT rfl ?_ | refine ACode.condF rfl ?_)
    refine APure.fin rfl (WkF.ofEq ?_) (by simp) hou rfl
    rw [hn, if_pos hb]
  rw [if_neg (by rw [hb]; decide)] at hn
  repeat first | (with_reducible refine oj ?_; refine AOps.auto tabOk rfl ?_) | (with_reducible first | refine o1 ?_ | refine o2 ?_ | refine o3 ?_ | refine o4 ?_ | refine o5 ?_ | refine o6 ?_ | refine o7 ?_ | refine o8 ?_ | refine o9 ?_ | refine oa ?_ | refine ob ?_ | refine oc ?_ | refine od ?_ | refine oe ?_ | refine og ?_ | refine oh ?_ | refine oi ?_) | (with_reducible refine cExitMiss ?_ ?_; rfl) | (with_reducible refine ok ?_; first | refine ACode.condT rfl ?_ | refine ACode.condF rfl ?_)
  refine AOps.callC hΓc (Grow_ok hΓc e he.eo t2.k t2.ne) rfl rfl rfl rfl rfl rfl rfl hou (by simp) ?_
  refine AOps.callC hΓc (FreeOf_ok hΓc hΓcF sortOk sortNil (grow e) hgt (by omega) (by rw [len_tree t2]; omega)) rfl rfl rfl rfl rfl rfl rfl hou (by simp) ?_
  have hfl := freeOf_len (grow e)
  rw [len_tree t2] at hfl
  generalize freeOf (grow e) = fs at hn hfl
  repeat first | (with_reducible refine oj ?_; refine AOps.auto tabOk rfl ?_) | (with_reducible first | refine o1 ?_ | refine o2 ?_ | refine o3 ?_ | refine o4 ?_ | refine o5 ?_ | refine o6 ?_ | refine o7 ?_ | refine o8 ?_ | refine o9 ?_ | refine oa ?_ | refine ob ?_ | refine oc ?_ | refine od ?_ | refine oe ?_ | refine og ?_ | refine oh ?_ | refine oi ?_) | (with_reducible refine cExitMiss ?_ ?_; rfl) | (with_reducible refine ok ?_; first | refine ACode.condT rfl ?_ | refine ACode.condF rfl ?_)
  refine ACode.loopR hΓc (α := Nat) (fun j => [(53, .one (int j)), (52, .one (int (fs.map cI).length)), (51, .one (.sl 1 (fs.map cI))), (1, .one (.sl 1 (params.map cI)))])
    (fun j => ⟨0, [], ou⟩) (fun m j => j ≤ fs.length ∧ (∀ x ∈ fs.take j, params.contains x = true) ∧ m = fs.length - j) (a0 := 0) (ρ := id) ⟨by omega, by simp, rfl⟩ (LessR.of rfl (by (repeat' first | exact FrSub.nil | refine FrSub.cons rfl (.ofEq rfl) ?_ | refine FrSub.consP rfl (.ofEq rfl) (by simp) ?_)) (by simp) (by repeat' first | exact LoSub.nil | refine LoSub.cons rfl ?_ rfl (by simp) ?_ | rfl | (refine (AObj.ren_pure _ _ ?_).symm; simp; done) | (simp [AObj.ren, renL, AC.ren]; done) | (simp [AObj.ren, renL, AC.ren]; rfl)) rfl rfl hou) fun m j hj => ?_
  obtain ⟨hjl, hno, rfl⟩ := hj
  repeat first | (with_reducible refine oj ?_; refine AOps.auto tabOk rfl ?_) | (with_reducible first | refine o1 ?_ | refine o2 ?_ | refine o3 ?_ | refine o4 ?_ | refine o5 ?_ | refine o6 ?_ | refine o7 ?_ | refine o8 ?_ | refine o9 ?_ | refine oa ?_ | refine ob ?_ | refine oc ?_ | refine od ?_ | refine oe ?_ | refine og ?_ | refine oh ?_ | refine oi ?_) | (with_reducible refine cExitMiss ?_ ?_; rfl) | (with_reducible refine ok ?_; first | refine ACode.condT rfl ?_ | refine ACode.condF rfl ?_)
  refine ACode.cond rfl (fun hb2 => ?_) (fun hb2 => ?_)
  · have hlt : j < fs.length := by simpa using hb2
    obtain ⟨k, hk⟩ := get_of_lt hlt
    repeat first | (with_reducible refine oj ?_; refine AOps.auto tabOk rfl ?_) | (with_reducible first | refine o1 ?_ | refine o2 ?_ | refine o3 ?_ | refine o4 ?_ | refine o5 ?_ | refine o6 ?_ | refine o7 ?_ | refine o8 ?_ | refine o9 ?_ | refine oa ?_ | refine ob ?_ | refine oc ?_ | refine od ?_ | refine oe ?_ | refine og ?_ | refine oh ?_ | refine oi ?_) | (with_reducible refine cExitMiss ?_ ?_; rfl) | (with_reducible refine ok ?_; first | refine ACode.condT rfl ?_ | refine ACode.condF rfl ?_)
    refine AOps.step1 rfl rfl rfl (AStep.indexAddr tabOk rfl rfl rfl rfl rfl rfl (.inl rfl) rfl (by omega) (map_get hk)) ?_
    repeat first | (with_reducible refine oj ?_; refine AOps.auto tabOk rfl ?_) | (with_reducible first | refine o1 ?_ | refine o2 ?_ | refine o3 ?_ | refine o4 ?_ | refine o5 ?_ | refine o6 ?_ | refine o7 ?_ | refine o8 ?_ | refine o9 ?_ | refine oa ?_ | refine ob ?_ | refine oc ?_ | refine od ?_ | refine oe ?_ | refine og ?_ | refine oh ?_ | refine oi ?_) | (with_reducible refine cExitMiss ?_ ?_; rfl) | (with_reducible refine ok ?_; first | refine ACode.condT rfl ?_ | refine ACode.condF rfl ?_)
    refine AOps.callC hΓc (Contains_ok hΓc params hp k) rfl rfl rfl rfl rfl rfl rfl hou (by simp) ?_
    repeat first | (with_reducible refine oj ?_; refine AOps.auto tabOk rfl ?_) | (with_reducible first | refine o1 ?_ | refine o2 ?_ | refine o3 ?_ | refine o4 ?_ | refine o5 ?_ | refine o6 ?_ | refine o7 ?_ | refine o8 ?_ | refine o9 ?_ | refine oa ?_ | refine ob ?_ | refine oc ?_ | refine od ?_ | refine oe ?_ | refine og ?_ | refine oh ?_ | refine oi ?_) | (with_reducible refine cExitMiss ?_ ?_; rfl) | (with_reducible refine ok ?_; first | refine ACode.condT rfl ?_ | refine ACode.condF rfl ?_)
    refine ACode.cond rfl (fun hb3 => ?_) (fun hb3 => ?_)
    · repeat first | (with_reducible refine oj ?_; refine AOps.auto tabOk rfl ?_) | (with_reducible first | refine o1 ?_ | refine o2 ?_ | refine o3 ?_ | refine o4 ?_ | refine o5 ?_ | refine o6 ?_ | refine o7 ?_ | refine o8 ?_ | refine o9 ?_ | refine oa ?_ | refine ob ?_ | refine oc ?_ | refine od ?_ | refine oe ?_ | refine og ?_ | refine oh ?_ | refine oi ?_) | (with_reducible refine cExitMiss ?_ ?_; rfl) | (with_reducible refine ok ?_; first | refine ACode.condT rfl ?_ | refine ACode.condF rfl ?_)
      refine APure.fin rfl (WkF.ofEq ?_) (by simp) hou rfl
      rw [hn, if_neg]
      rw [List.all_eq_true]
      intro h
      have := h k (List.mem_of_getElem? hk)
      rw [this] at hb3; cases hb3
    · repeat' first | (with_reducible refine oj ?_; refine AOps.auto tabOk rfl ?_) | (with_reducible first | refine o1 ?_ | refine o2 ?_ | refine o3 ?_ | refine o4 ?_ | refine o5 ?_ | refine o6 ?_ | refine o7 ?_ | refine o8 ?_ | refine o9 ?_ | refine oa ?_ | refine ob ?_ | refine oc ?_ | refine od ?_ | refine oe ?_ | refine og ?_ | refine oh ?_ | refine oi ?_) | (with_reducible refine cExitMiss ?_ ?_; rfl) | (with_reducible refine ok ?_; first | refine ACode.condT rfl ?_ | refine ACode.condF rfl ?_) | (with_reducible refine oj ?_; first | refine AOps.step1 rfl rfl rfl (AStep.arith rfl rfl rfl (.inl ⟨rfl, rfl⟩) (inRange_i64 (by first | omega | (simp; omega)) (by first | omega | (simp; omega)))) ?_ | refine AOps.step1 rfl rfl rfl (AStep.arith rfl rfl rfl (.inr (.inl ⟨rfl, rfl⟩)) (inRange_i64 (by first | omega | (simp; omega)) (by first | omega | (simp; omega)))) ?_ | refine AOps.step1 rfl rfl rfl (AStep.neBool Tryd.underlying4 rfl rfl rfl) ?_ | refine AOps.step1 rfl rfl rfl (AStep.eqBool Tryd.underlying4 rfl rfl rfl) ?_ | refine AOps.step1 rfl rfl rfl (AStep.max2 (t := 3) (ty := 3) rfl rfl rfl) ?_ | refine AOps.step1 rfl rfl rfl (AStep.min2 (t := 3) (ty := 3) rfl rfl rfl) ?_ | refine AOps.unG rfl rfl rfl ?_)
      exact cInv ⟨fs.length - (j + 1), j + 1, id, by omega, ⟨by omega, take_all hno hk (by simpa using hb3), rfl⟩, LessR.of rfl (by (repeat' first | exact FrSub.nil | refine FrSub.cons rfl (.ofEq rfl) ?_ | refine FrSub.consP rfl (.ofEq rfl) (by simp) ?_)) (by simp) (by repeat' first | exact LoSub.nil | refine LoSub.cons rfl ?_ rfl (by simp) ?_ | rfl | (refine (AObj.ren_pure _ _ ?_).symm; simp; done) | (simp [AObj.ren, renL, AC.ren]; done) | (simp [AObj.ren, renL, AC.ren]; rfl)) rfl rfl hou⟩
  · have hlt : j = fs.length := by simp at hb2; omega
    subst hlt
    rw [List.take_length] at hno
    repeat first | (with_reducible refine oj ?_; refine AOps.auto tabOk rfl ?_) | (with_reducible first | refine o1 ?_ | refine o2 ?_ | refine o3 ?_ | refine o4 ?_ | refine o5 ?_ | refine o6 ?_ | refine o7 ?_ | refine o8 ?_ | refine o9 ?_ | refine oa ?_ | refine ob ?_ | refine oc ?_ | refine od ?_ | refine oe ?_ | refine og ?_ | refine oh ?_ | refine oi ?_) | (with_reducible refine cExitMiss ?_ ?_; rfl) | (with_reducible refine ok ?_; first | refine ACode.condT rfl ?_ | refine ACode.condF rfl ?_)
    refine APure.fin rfl (WkF.ofEq ?_) (by simp) hou rfl
    rw [hn, if_pos (List.all_eq_true.2 hno)]
theorem Check_ok (e : List Ex) (he : okB e) : APure Tryd.prog Γc 14 [.one (.sl 5 (e.map cEx))] (.one (int (check e))) := by
  intro ou
  refine AFn.walk 5 tabOk Tryd.func14 rfl (by kernel_rfl) rfl rfl fun hou => ?_
  repeat first | (with_reducible refine oj ?_; refine AOps.auto tabOk rfl ?_) | (with_reducible first | refine o1 ?_ | refine o2 ?_ | refine o3 ?_ | refine o4 ?_ | refine o5 ?_ | refine o6 ?_ | refine o7 ?_ | refine o8 ?_ | refine o9 ?_ | refine oa ?_ | refine ob ?_ | refine oc ?_ | refine od ?_ | refine oe ?_ | refine og ?_ | refine oh ?_ | refine oi ?_) | (with_reducible refine cExitMiss ?_ ?_; rfl) | (with_reducible refine ok ?_; first | refine ACode.condT rfl ?_ | refine ACode.condF rfl ?_)
  refine AOps.callCW (ws := [.one (.sl 5 (e.map cEx)), .one (.sl 1 (([] : List Int).map cI)), .one (.lit (.bool false))]) hΓc (Body_ok e he [] (by simp) false) rfl rfl rfl rfl rfl rfl ?_ hou (by simp) ?_
  · exact .cons (.refl _) (.cons (.one (.nilS 1)) (.cons (.refl _) .nil))
  repeat first | (with_reducible refine oj ?_; refine AOps.auto tabOk rfl ?_) | (with_reducible first | refine o1 ?_ | refine o2 ?_ | refine o3 ?_ | refine o4 ?_ | refine o5 ?_ | refine o6 ?_ | refine o7 ?_ | refine o8 ?_ | refine o9 ?_ | refine oa ?_ | refine ob ?_ | refine oc ?_ | refine od ?_ | refine oe ?_ | refine og ?_ | refine oh ?_ | refine oi ?_) | (with_reducible refine cExitMiss ?_ ?_; rfl) | (with_reducible refine ok ?_; first | refine ACode.condT rfl ?_ | refine ACode.condF rfl ?_)
  exact APure.fin rfl (WkF.ofEq rfl) (by simp) hou rfl
end Go.Proofs.YtnonkoeknpmcjaaDoor
/- SameTree, Same, Order, SameList, walked: where they say yes. -/
namespace Go.Proofs.YtnonkoeknpmcjaaDoor
open Go Go.Abs Go.CoreX
set_option maxRecDepth 10000
set_option linter.unusedVariables false
set_option linter.unusedSimpArgs false
variable {Γ : List (Nat × List AC)}
end Go.Proofs.YtnonkoeknpmcjaaDoor
/- Nodes that are built: N, B, V, walked. -/
namespace Go.Abs
theorem AStep.wk {E : Env} {o : Oper} {fr : Fr} {σ σ' : St} {x y : FV} (h : AStep E o fr σ x σ') (hw : WkF x y) : AStep E o fr σ y σ' :=
  fun F w C tmps hi hf next Q hk => h F w C tmps hi hf next Q fun u w' C' a b c => hk u w' C' a b (hw _ _ _ c)
end Go.Abs
namespace Go.Proofs.YtnonkoeknpmcjaaDoor
open Go Go.Abs Go.CoreX
set_option maxRecDepth 10000
set_option linter.unusedVariables false
set_option linter.unusedSimpArgs false
variable {Γ : List (Nat × List AC)}
mutual
def encNd : Tr → List AC
  | .mk o n b k a => [int o, int n, .sl 1 (b.map cI), .any, .sl 2 (a.map cAlt), .sl 1 (encNds k)]
def encNds : List Tr → List (List AC)
  | [] => []
  | t :: ts => [.box (encNd t)] :: encNds ts
end
def cNd (t : Tr) : List AC := [int t.op, int t.n, .sl 1 (t.binds.map cI), .any, .sl 2 (t.alts.map cAlt), .sl 1 (encNds t.kids)]
theorem encNd_eq (t : Tr) : encNd t = cNd t := by cases t; simp [encNd, cNd]
theorem encNds_eq : ∀ l : List Tr, encNds l = l.map fun t => [.box (cNd t)]
  | [] => rfl
  | t :: ts => by simp [encNds, encNds_eq ts, encNd_eq]
theorem encNds_get {l : List Tr} {i : Nat} {t : Tr} (h : l[i]? = some t) : (encNds l)[i]? = some [.box (cNd t)] := by rw [encNds_eq]; simp [h]
mutual
theorem ids_encNd (p : Abs.Id → Prop) : ∀ t : Tr, idsL p (encNd t)
  | .mk o n b k a => by simp [encNd, ids_encNds p k]
theorem ids_encNds (p : Abs.Id → Prop) : ∀ l : List Tr, idsS p (encNds l)
  | [] => by simp [encNds]
  | t :: ts => by simp [encNds, ids_encNd p t, ids_encNds p ts]
end
attribute [simp] ids_encNds
@[simp] theorem ids_cNd (p : Abs.Id → Prop) (t : Tr) : idsL p (cNd t) := by simp [cNd]
@[simp] theorem len_encNds (l : List Tr) : (encNds l).length = l.length := by rw [encNds_eq]; simp
theorem N_ok (op n : Int) (ks : List Tr) : APure Tryd.prog Γ 57 [.one (int op), .one (int n), .one (.sl 1 (encNds ks))] (.one (.box (cNd (.mk op n [] ks [])))) := by
  intro ou
  refine AFn.walk 13 tabOk Tryd.func57 rfl (by kernel_rfl) rfl rfl fun hou => ?_
  iterate 14 (first | (with_reducible refine oj ?_; refine AOps.auto tabOk rfl ?_) | (with_reducible first | refine o1 ?_ | refine o2 ?_ | refine o3 ?_ | refine o4 ?_ | refine o5 ?_ | refine o6 ?_ | refine o7 ?_ | refine o8 ?_ | refine o9 ?_ | refine oa ?_ | refine ob ?_ | refine oc ?_ | refine od ?_ | refine oe ?_ | refine og ?_ | refine oh ?_ | refine oi ?_) | (with_reducible refine cExitMiss ?_ ?_; rfl) | (with_reducible refine ok ?_; first | refine ACode.condT rfl ?_ | refine ACode.condF rfl ?_))
  refine AOps.freeze1 (.l 0) 6 rfl rfl ?_
  repeat first | (with_reducible refine oj ?_; refine AOps.auto tabOk rfl ?_) | (with_reducible first | refine o1 ?_ | refine o2 ?_ | refine o3 ?_ | refine o4 ?_ | refine o5 ?_ | refine o6 ?_ | refine o7 ?_ | refine o8 ?_ | refine o9 ?_ | refine oa ?_ | refine ob ?_ | refine oc ?_ | refine od ?_ | refine oe ?_ | refine og ?_ | refine oh ?_ | refine oi ?_) | (with_reducible refine cExitMiss ?_ ?_; rfl) | (with_reducible refine ok ?_; first | refine ACode.condT rfl ?_ | refine ACode.condF rfl ?_)
  refine APure.fin rfl (.one (Wk.box ?_)) (by simp) hou rfl
  exact .cons (.refl _) (.cons (.refl _) (.cons (.nilS 1) (.cons (.any _) (.cons (.nilS 2) (.cons (.refl _) .nil)))))
theorem B_ok (op : Int) (b : List Int) (ks : List Tr) : APure Tryd.prog Γ 32 [.one (int op), .one (.sl 1 (b.map cI)), .one (.sl 1 (encNds ks))] (.one (.box (cNd (.mk op 0 b ks [])))) := by
  intro ou
  refine AFn.walk 13 tabOk Tryd.func32 rfl (by kernel_rfl) rfl rfl fun hou => ?_
  iterate 14 (first | (with_reducible refine oj ?_; refine AOps.auto tabOk rfl ?_) | (with_reducible first | refine o1 ?_ | refine o2 ?_ | refine o3 ?_ | refine o4 ?_ | refine o5 ?_ | refine o6 ?_ | refine o7 ?_ | refine o8 ?_ | refine o9 ?_ | refine oa ?_ | refine ob ?_ | refine oc ?_ | refine od ?_ | refine oe ?_ | refine og ?_ | refine oh ?_ | refine oi ?_) | (with_reducible refine cExitMiss ?_ ?_; rfl) | (with_reducible refine ok ?_; first | refine ACode.condT rfl ?_ | refine ACode.condF rfl ?_))
  refine AOps.freeze1 (.l 0) 6 rfl rfl ?_
  repeat first | (with_reducible refine oj ?_; refine AOps.auto tabOk rfl ?_) | (with_reducible first | refine o1 ?_ | refine o2 ?_ | refine o3 ?_ | refine o4 ?_ | refine o5 ?_ | refine o6 ?_ | refine o7 ?_ | refine o8 ?_ | refine o9 ?_ | refine oa ?_ | refine ob ?_ | refine oc ?_ | refine od ?_ | refine oe ?_ | refine og ?_ | refine oh ?_ | refine oi ?_) | (with_reducible refine cExitMiss ?_ ?_; rfl) | (with_reducible refine ok ?_; first | refine ACode.condT rfl ?_ | refine ACode.condF rfl ?_)
  refine APure.fin rfl (.one (Wk.box ?_)) (by simp) hou rfl
  exact .cons (.refl _) (.cons (.refl _) (.cons (.refl _) (.cons (.any _) (.cons (.nilS 2) (.cons (.refl _) .nil)))))
/-- What the walk of a node gives. -/
def IntoOk (Γ : List (Nat × List AC)) (t : Tr) : Prop := ∀ (ou : Outer) (ko kt : Nat) (out : List Ex), OuOk ou → ou ko = none → ou kt = none → ko ≠ kt → (listT out t).length ≤ 1048576 →
  AFn Tryd.prog Γ 58 [.one (.box (cNd t)), .one (.ptr (.o ko) 0)] (ouS ou ko kt (out.map cEx)) (fun r ou' => r = .one (int (((listT out t).length : Int) - 1)) ∧ ∃ kt', ou kt' = none ∧ ko ≠ kt' ∧ ou' = ouS ou ko kt' ((listT out t).map cEx))
set_option maxHeartbeats 1000000 in
theorem into_ok (hΓ : ∀ g cs, (g, cs) ∈ Γ → idsL isO cs) : ∀ t : Tr, okT t → IntoOk Γ t
  | .mk o n b ks a, hok => by
    obtain ⟨hb, hk, ha, ⟨hab, _⟩, hks⟩ := hok
    have ih : ∀ t ∈ ks, IntoOk Γ t := fun t ht => into_ok hΓ t (okTs_iff.1 hks t ht)
    intro ou ko kt out hou0 ho ht hne hsz
    have hsz2 : (listTs out ks).1.length < 1048576 := by simp only [listT, List.length_append, List.length_singleton] at hsz; omega
    refine AFn.walk 44 tabOk Tryd.func58 rfl (by kernel_rfl) rfl rfl fun hou => ?_
    repeat first | (with_reducible refine oj ?_; refine AOps.auto tabOk rfl ?_) | (with_reducible first | refine o1 ?_ | refine o2 ?_ | refine o3 ?_ | refine o4 ?_ | refine o5 ?_ | refine o6 ?_ | refine o7 ?_ | refine o8 ?_ | refine o9 ?_ | refine oa ?_ | refine ob ?_ | refine oc ?_ | refine od ?_ | refine oe ?_ | refine og ?_ | refine oh ?_ | refine oi ?_) | (with_reducible refine cExitMiss ?_ ?_; rfl) | (with_reducible refine ok ?_; first | refine ACode.condT rfl ?_ | refine ACode.condF rfl ?_)
    refine ACode.grow 0 3 3 1 rfl rfl ?_
    refine ACode.loopR hΓ (α := Nat × Nat) (fun c => [(18, .one (int c.1)), (17, .one (int (encNds ks).length)), (16, .one (.sl 1 (encNds ks))), (5, .one (.ptr (.l 0) 0)), (1, .one (.ptr (.o ko) 0))])
      (fun c => ⟨2, [(1, .tok 3 1 c.1), (0, .cells [int o, int n, .sl 1 (b.map cI), .gs 1 ((listTs out (ks.take c.1)).2.map cI) (.l 1), .sl 2 (a.map cAlt)])], ouS ou ko c.2 ((listTs out (ks.take c.1)).1.map cEx)⟩)
      (fun m c => c.1 ≤ ks.length ∧ (ou c.2 = none ∧ ko ≠ c.2) ∧ m = ks.length - c.1) (a0 := (0, kt)) (ρ := id) ⟨by omega, ⟨ht, hne⟩, rfl⟩ (LessR.of rfl (by (repeat' first | exact FrSub.nil | refine FrSub.cons rfl (.ofEq rfl) ?_ | refine FrSub.consP rfl (.ofEq rfl) (by simp) ?_)) (by simp) ?_ rfl (by simp [listTs]; rfl) hou) fun m c hi => ?_
    · repeat' first | exact LoSub.nil | refine LoSub.cons rfl ?_ rfl (by simp) ?_ | rfl | (refine (AObj.ren_pure _ _ ?_).symm; simp; done) | (simp [AObj.ren, renL, AC.ren]; done) | (simp [AObj.ren, renL, AC.ren]; rfl)
      all_goals (simp [AObj.ren, renL, AC.ren, listTs]; rfl)
    obtain ⟨i, kt⟩ := c
    obtain ⟨hil, ⟨ht, hne⟩, rfl⟩ := hi
    simp only at hil ht hne
    have hle : (listTs out (ks.take i)).1.length ≤ (listTs out ks).1.length := by
      have := listTs_app (ks.take i) (ks.drop i) out
      rw [List.take_append_drop] at this
      rw [this]; exact listTs_le _ _
    repeat first | (with_reducible refine oj ?_; refine AOps.auto tabOk rfl ?_) | (with_reducible first | refine o1 ?_ | refine o2 ?_ | refine o3 ?_ | refine o4 ?_ | refine o5 ?_ | refine o6 ?_ | refine o7 ?_ | refine o8 ?_ | refine o9 ?_ | refine oa ?_ | refine ob ?_ | refine oc ?_ | refine od ?_ | refine oe ?_ | refine og ?_ | refine oh ?_ | refine oi ?_) | (with_reducible refine cExitMiss ?_ ?_; rfl) | (with_reducible refine ok ?_; first | refine ACode.condT rfl ?_ | refine ACode.condF rfl ?_)
    refine ACode.cond rfl (fun hb3 => ?_) (fun hb3 => ?_)
    · have hlt2 : i < ks.length := by simpa using hb3
      obtain ⟨t, ht2⟩ := get_of_lt hlt2
      have hsn := listTs_snoc t (ks.take i) out
      rw [← take_get ht2] at hsn
      have hle2 : (listT (listTs out (ks.take i)).1 t).length ≤ 1048576 := by
        have := listTs_app (ks.take (i + 1)) (ks.drop (i + 1)) out
        rw [List.take_append_drop] at this
        have h2 := listTs_le (ks.drop (i + 1)) (listTs out (ks.take (i + 1))).1
        rw [← this, hsn] at h2
        simp only at h2
        omega
      have hcall := ih t (List.mem_of_getElem? ht2) ou ko kt (listTs out (ks.take i)).1 hou0 ho ht hne hle2
      have hil2 : ((listTs out (ks.take i)).2.map cI).length = i := by rw [List.length_map, listTs_ix_len]; simp; omega
      repeat first | (with_reducible refine oj ?_; refine AOps.auto tabOk rfl ?_) | (with_reducible first | refine o1 ?_ | refine o2 ?_ | refine o3 ?_ | refine o4 ?_ | refine o5 ?_ | refine o6 ?_ | refine o7 ?_ | refine o8 ?_ | refine o9 ?_ | refine oa ?_ | refine ob ?_ | refine oc ?_ | refine od ?_ | refine oe ?_ | refine og ?_ | refine oh ?_ | refine oi ?_) | (with_reducible refine cExitMiss ?_ ?_; rfl) | (with_reducible refine ok ?_; first | refine ACode.condT rfl ?_ | refine ACode.condF rfl ?_)
      refine AOps.step1 rfl rfl rfl (AStep.indexAddr tabOk rfl rfl rfl rfl rfl rfl (.inl rfl) rfl (by omega) (encNds_get ht2)) ?_
      repeat first | (with_reducible refine oj ?_; refine AOps.auto tabOk rfl ?_) | (with_reducible first | refine o1 ?_ | refine o2 ?_ | refine o3 ?_ | refine o4 ?_ | refine o5 ?_ | refine o6 ?_ | refine o7 ?_ | refine o8 ?_ | refine o9 ?_ | refine oa ?_ | refine ob ?_ | refine oc ?_ | refine od ?_ | refine oe ?_ | refine og ?_ | refine oh ?_ | refine oi ?_) | (with_reducible refine cExitMiss ?_ ?_; rfl) | (with_reducible refine ok ?_; first | refine ACode.condT rfl ?_ | refine ACode.condF rfl ?_)
      refine ACode.drawXR (va := .one (int (((listT (listTs out (ks.take i)).1 t).length : Int) - 1))) tabOk 6 4 []
        (fun σ => ∃ kt', ou kt' = none ∧ ko ≠ kt' ∧ σ = ⟨2, [(1, .tok 3 1 i), (0, .cells [int o, int n, .sl 1 (b.map cI), .gs 1 ((listTs out (ks.take i)).2.map cI) (.l 1), .sl 2 (a.map cAlt)])], ouS ou ko kt' ((listT (listTs out (ks.take i)).1 t).map cEx)⟩)
        follows (by kernel_rfl) rfl rfl rfl rfl rfl ?_ rfl ⟨rfl, rfl⟩ rfl ?_ .nil ?_ ?_
      · rintro σ ⟨kt', h1, h2, rfl⟩; rfl
      · refine AStepR.call hΓ rfl rfl rfl rfl (by simp) (ouS_ok hou0 (by simp)) hcall fun r ou' hq _ _ => ?_
        obtain ⟨rfl, kt', h1, h2, rfl⟩ := hq
        exact ⟨rfl, kt', h1, h2, rfl⟩
      · intro σ _; exact .nil
      rintro σ ⟨kt', h1, h2, rfl⟩
      repeat first | (with_reducible refine oj ?_; refine AOps.auto tabOk rfl ?_) | (with_reducible first | refine o1 ?_ | refine o2 ?_ | refine o3 ?_ | refine o4 ?_ | refine o5 ?_ | refine o6 ?_ | refine o7 ?_ | refine o8 ?_ | refine o9 ?_ | refine oa ?_ | refine ob ?_ | refine oc ?_ | refine od ?_ | refine oe ?_ | refine og ?_ | refine oh ?_ | refine oi ?_) | (with_reducible refine cExitMiss ?_ ?_; rfl) | (with_reducible refine ok ?_; first | refine ACode.condT rfl ?_ | refine ACode.condF rfl ?_)
      refine AOps.app tabOk rfl rfl rfl rfl rfl rfl rfl rfl rfl (Base.gs' _ _ _ _ _ (by rfl) hil2.symm) (.sl _ _) rfl ?_ ?_ ?_
      · rw [hil2]; show (i + 1) * 8 ≤ _; omega
      · rw [hil2]; show i + 1 ≤ _; omega
      repeat' first | (with_reducible refine oj ?_; refine AOps.auto tabOk rfl ?_) | (with_reducible first | refine o1 ?_ | refine o2 ?_ | refine o3 ?_ | refine o4 ?_ | refine o5 ?_ | refine o6 ?_ | refine o7 ?_ | refine o8 ?_ | refine o9 ?_ | refine oa ?_ | refine ob ?_ | refine oc ?_ | refine od ?_ | refine oe ?_ | refine og ?_ | refine oh ?_ | refine oi ?_) | (with_reducible refine cExitMiss ?_ ?_; rfl) | (with_reducible refine ok ?_; first | refine ACode.condT rfl ?_ | refine ACode.condF rfl ?_) | (with_reducible refine oj ?_; first | refine AOps.step1 rfl rfl rfl (AStep.arith rfl rfl rfl (.inl ⟨rfl, rfl⟩) (inRange_i64 (by first | omega | (simp; omega)) (by first | omega | (simp; omega)))) ?_ | refine AOps.step1 rfl rfl rfl (AStep.arith rfl rfl rfl (.inr (.inl ⟨rfl, rfl⟩)) (inRange_i64 (by first | omega | (simp; omega)) (by first | omega | (simp; omega)))) ?_ | refine AOps.step1 rfl rfl rfl (AStep.neBool Tryd.underlying4 rfl rfl rfl) ?_ | refine AOps.step1 rfl rfl rfl (AStep.eqBool Tryd.underlying4 rfl rfl rfl) ?_ | refine AOps.step1 rfl rfl rfl (AStep.max2 (t := 3) (ty := 3) rfl rfl rfl) ?_ | refine AOps.step1 rfl rfl rfl (AStep.min2 (t := 3) (ty := 3) rfl rfl rfl) ?_ | refine AOps.unG rfl rfl rfl ?_)
      refine cInv ⟨ks.length - (i + 1), (i + 1, kt'), fun k => if k = 1 then 2 else k, by omega, ⟨by omega, ⟨h1, h2⟩, rfl⟩, LessR.of rfl (by (repeat' first | exact FrSub.nil | refine FrSub.cons rfl (.ofEq rfl) ?_ | refine FrSub.consP rfl (.ofEq rfl) (by simp) ?_)) (by simp) ?_ rfl (by simp only [hsn]; rfl) (ouS_ok hou0 (by simp))⟩
      repeat' first | exact LoSub.nil | refine LoSub.cons rfl ?_ rfl (by simp) ?_ | rfl | (refine (AObj.ren_pure _ _ ?_).symm; simp; done) | (simp [AObj.ren, renL, AC.ren]; done) | (simp [AObj.ren, renL, AC.ren]; rfl)
      · simp only [AObj.ren, List.length_append, hil2]; rfl
      · simp only [hsn]; simp only [AObj.ren, renL, AC.ren, ren_cIs, ren_cAlts]; rw [List.map_append]; rfl
    have hlt2 : i = ks.length := by simp at hb3; omega
    subst hlt2
    rw [List.take_length] at *
    repeat first | (with_reducible refine oj ?_; refine AOps.auto tabOk rfl ?_) | (with_reducible first | refine o1 ?_ | refine o2 ?_ | refine o3 ?_ | refine o4 ?_ | refine o5 ?_ | refine o6 ?_ | refine o7 ?_ | refine o8 ?_ | refine o9 ?_ | refine oa ?_ | refine ob ?_ | refine oc ?_ | refine od ?_ | refine oe ?_ | refine og ?_ | refine oh ?_ | refine oi ?_) | (with_reducible refine cExitMiss ?_ ?_; rfl) | (with_reducible refine ok ?_; first | refine ACode.condT rfl ?_ | refine ACode.condF rfl ?_)
    have hT : listT out (.mk o n b ks a) = (listTs out ks).1 ++ [⟨o, n, b, (listTs out ks).2, a⟩] := by simp only [listT]
    have hmap : (listTs out ks).1.map cEx ++ [cEx ⟨o, n, b, (listTs out ks).2, a⟩] = (listT out (.mk o n b ks a)).map cEx := by rw [hT, List.map_append]; rfl
    have hw : WkF (.agg [int o, int n, .sl 1 (b.map cI), .gs 1 ((listTs out ks).2.map cI) (.l 1), .sl 2 (a.map cAlt)]) (.agg (cEx ⟨o, n, b, (listTs out ks).2, a⟩)) := WkF.agg (.cons (.refl _) (.cons (.refl _) (.cons (.refl _) (.cons (.gsE rfl) (.cons (.refl _) .nil)))))
    have hko : (bif Nat.beq ko kt then some AObj.dead else ouS ou ko kt ((listTs out ks).1.map cEx) ko) = some (.cells [.gs 5 ((listTs out ks).1.map cEx) (.o kt)]) := by rw [beq_no hne]; exact ouS_o hne _
    refine ACode.drawXH (va := .one (.gs 5 ((listTs out ks).1.map cEx ++ [cEx ⟨o, n, b, (listTs out ks).2, a⟩]) (.l 2))) (σ1 := (St.set ⟨2, [(1, .tok 3 1 ks.length), (0, .cells [int o, int n, .sl 1 (b.map cI), .gs 1 ((listTs out ks).2.map cI) (.l 1), .sl 2 (a.map cAlt)])], ouS ou ko kt ((listTs out ks).1.map cEx)⟩ (.o kt) .dead).push (.tok 35 5 ((listTs out ks).1.map cEx ++ [cEx ⟨o, n, b, (listTs out ks).2, a⟩]).length))
      tabOk 7 6 [(3, .one (.gs 5 ((listTs out ks).1.map cEx) (.o kt))), (4, .agg (cEx ⟨o, n, b, (listTs out ks).2, a⟩))] follows (by kernel_rfl) rfl rfl rfl rfl rfl rfl rfl ?_ ?_ ?_ ?_
    · refine HStep.plain rfl (AStep.append (s := 5) (es := (listTs out ks).1.map cEx) (news := [cEx ⟨o, n, b, (listTs out ks).2, a⟩]) (ti := ti22) (σ := ⟨2, [(1, .tok 3 1 ks.length), (0, .cells [int o, int n, .sl 1 (b.map cI), .gs 1 ((listTs out ks).2.map cI) (.l 1), .sl 2 (a.map cAlt)])], ouS ou ko kt ((listTs out ks).1.map cEx)⟩) tabOk rfl rfl rfl rfl rfl rfl (Base.gs' _ 35 5 _ (.o kt) (ouS_t ou ko kt _) rfl) (.sl _ _) rfl ?_ ?_)
      · simp; show (_ + 1) * 88 ≤ _; omega
      · simp; omega
    · refine .step rfl (HStep.plain rfl (AStep.loadOwn tabOk rfl rfl rfl rfl rfl (ouS_o hne _) rfl)) ?_
      exact .step rfl (HStep.plain rfl (AStep.wk (AStep.ofOp tabOk rfl) hw)) .nil
    · refine .step rfl (HStep.plain rfl (AStep.loadOwn tabOk rfl rfl rfl rfl rfl hko rfl)) ?_
      exact .step rfl (HStep.plain rfl (AStep.wk (AStep.ofOp tabOk rfl) hw)) .nil
    rw [hmap]
    repeat first | (with_reducible refine oj ?_; refine AOps.auto tabOk rfl ?_) | (with_reducible first | refine o1 ?_ | refine o2 ?_ | refine o3 ?_ | refine o4 ?_ | refine o5 ?_ | refine o6 ?_ | refine o7 ?_ | refine o8 ?_ | refine o9 ?_ | refine oa ?_ | refine ob ?_ | refine oc ?_ | refine od ?_ | refine oe ?_ | refine og ?_ | refine oh ?_ | refine oi ?_) | (with_reducible refine cExitMiss ?_ ?_; rfl) | (with_reducible refine ok ?_; first | refine ACode.condT rfl ?_ | refine ACode.condF rfl ?_)
    refine AOps.storeOwn (cs := [.gs 5 ((listTs out ks).1.map cEx) (.o kt)]) tabOk rfl rfl rfl rfl rfl rfl rfl hko (by simp) ?_
    refine AOps.cede 2 (show 2 < 3 by omega) fun k hk => ⟨[(1, .one (.ptr (.o ko) 0))], ⟨3, [], ouS ou ko k ((listT out (.mk o n b ks a)).map cEx)⟩, ⟨fun d x hd => ?_, rfl, fun i x hx => ?_⟩, ?_⟩
    · by_cases e : 1 = d
      · subst e
        simp [Fr.get] at hd; subst hd
        exact ⟨_, rfl, WkF.ofEq rfl⟩
      · simp [Fr.get, beq_no e] at hd
    · have hk' : (bif Nat.beq k ko then some (AObj.cells [.gs 5 ((listT out (.mk o n b ks a)).map cEx) (.l 2)]) else bif Nat.beq k kt then some AObj.dead else ouS ou ko kt ((listTs out ks).1.map cEx) k) = none := hk
      have k1 : k ≠ ko := fun e => by subst e; simp at hk'
      rw [beq_no k1] at hk'
      have k2 : k ≠ kt := fun e => by subst e; simp at hk'
      rw [beq_no k2] at hk'
      simp only [cond_false, ouS_w k1 k2] at hk'
      cases i with
      | l m => cases hx
      | o m =>
        have hx' : ouS ou ko k ((listT out (.mk o n b ks a)).map cEx) m = some x := hx
        by_cases e : m = k
        · subst e
          rw [ouS_t] at hx'; cases hx'
          exact ⟨.l 2, _, rfl, rfl, rfl⟩
        · by_cases e2 : m = ko
          · subst e2
            rw [ouS_o e] at hx'; cases hx'
            refine ⟨.o m, .cells [.gs 5 ((listT out (.mk o n b ks a)).map cEx) (.l 2)], ?_, rfl, ?_⟩
            · show (bif Nat.beq m m then _ else _) = _; rw [beq_self]; rfl
            · simp only [AObj.sub, subL, AC.sub]; rw [subS_o _ (by simp)]; rfl
          · rw [ouS_w e2 e] at hx'
            have e3 : m ≠ kt := fun e => by rw [e, ht] at hx'; cases hx'
            refine ⟨.o m, x, ?_, rfl, (AObj.sub_o x (hou0 m x hx')).symm⟩
            show (bif Nat.beq m ko then _ else bif Nat.beq m kt then _ else ouS ou ko kt _ m) = _
            rw [beq_no e2, beq_no e3]
            exact (ouS_w e2 e3 _).trans hx'
    · have hk' : (bif Nat.beq k ko then some (AObj.cells [.gs 5 ((listT out (.mk o n b ks a)).map cEx) (.l 2)]) else bif Nat.beq k kt then some AObj.dead else ouS ou ko kt ((listTs out ks).1.map cEx) k) = none := hk
      have k1 : k ≠ ko := fun e => by subst e; simp at hk'
      rw [beq_no k1] at hk'
      have k2 : k ≠ kt := fun e => by subst e; simp at hk'
      rw [beq_no k2] at hk'
      simp only [cond_false, ouS_w k1 k2] at hk'
      repeat first | (with_reducible refine oj ?_; refine AOps.auto tabOk rfl ?_) | (with_reducible first | refine o1 ?_ | refine o2 ?_ | refine o3 ?_ | refine o4 ?_ | refine o5 ?_ | refine o6 ?_ | refine o7 ?_ | refine o8 ?_ | refine o9 ?_ | refine oa ?_ | refine ob ?_ | refine oc ?_ | refine od ?_ | refine oe ?_ | refine og ?_ | refine oh ?_ | refine oi ?_) | (with_reducible refine cExitMiss ?_ ?_; rfl) | (with_reducible refine ok ?_; first | refine ACode.condT rfl ?_ | refine ACode.condF rfl ?_)
      refine AOps.step1 rfl rfl rfl (AStep.loadOwn tabOk rfl rfl rfl rfl rfl (ouS_o (Ne.symm k1) _) rfl) ?_
      repeat' first | (with_reducible refine oj ?_; refine AOps.auto tabOk rfl ?_) | (with_reducible first | refine o1 ?_ | refine o2 ?_ | refine o3 ?_ | refine o4 ?_ | refine o5 ?_ | refine o6 ?_ | refine o7 ?_ | refine o8 ?_ | refine o9 ?_ | refine oa ?_ | refine ob ?_ | refine oc ?_ | refine od ?_ | refine oe ?_ | refine og ?_ | refine oh ?_ | refine oi ?_) | (with_reducible refine cExitMiss ?_ ?_; rfl) | (with_reducible refine ok ?_; first | refine ACode.condT rfl ?_ | refine ACode.condF rfl ?_) | (with_reducible refine oj ?_; first | refine AOps.step1 rfl rfl rfl (AStep.arith rfl rfl rfl (.inl ⟨rfl, rfl⟩) (inRange_i64 (by first | omega | (simp; omega)) (by first | omega | (simp; omega)))) ?_ | refine AOps.step1 rfl rfl rfl (AStep.arith rfl rfl rfl (.inr (.inl ⟨rfl, rfl⟩)) (inRange_i64 (by first | omega | (simp; omega)) (by first | omega | (simp; omega)))) ?_ | refine AOps.step1 rfl rfl rfl (AStep.neBool Tryd.underlying4 rfl rfl rfl) ?_ | refine AOps.step1 rfl rfl rfl (AStep.eqBool Tryd.underlying4 rfl rfl rfl) ?_ | refine AOps.step1 rfl rfl rfl (AStep.max2 (t := 3) (ty := 3) rfl rfl rfl) ?_ | refine AOps.step1 rfl rfl rfl (AStep.min2 (t := 3) (ty := 3) rfl rfl rfl) ?_ | refine AOps.unG rfl rfl rfl ?_)
      refine AFn.fin' rfl (WkF.ofEq ?_) (by simp) (ouS_ok hou0 (by simp)) ⟨rfl, k, hk', Ne.symm k1, rfl⟩
      simp
end Go.Proofs.YtnonkoeknpmcjaaDoor
/- A node's list, coreFact, CoreOrdered, walked. -/
namespace Go.Proofs.YtnonkoeknpmcjaaDoor
open Go Go.Abs Go.CoreX
set_option maxRecDepth 10000
set_option linter.unusedVariables false
set_option linter.unusedSimpArgs false
variable {Γ : List (Nat × List AC)}
theorem NodeList_ok (hΓ : ∀ g cs, (g, cs) ∈ Γ → idsL isO cs) (t : Tr) (ht : okT t) (hsz : (listT [] t).length ≤ 1048576) : APure Tryd.prog Γ 34 [.one (.box (cNd t))] (.one (.sl 5 ((listT [] t).map cEx))) := by
  intro ou
  refine AFn.walk 7 tabOk Tryd.func34 rfl (by kernel_rfl) rfl rfl fun hou => ?_
  iterate 11 (first | (with_reducible refine oj ?_; refine AOps.auto tabOk rfl ?_) | (with_reducible first | refine o1 ?_ | refine o2 ?_ | refine o3 ?_ | refine o4 ?_ | refine o5 ?_ | refine o6 ?_ | refine o7 ?_ | refine o8 ?_ | refine o9 ?_ | refine oa ?_ | refine ob ?_ | refine oc ?_ | refine od ?_ | refine oe ?_ | refine og ?_ | refine oh ?_ | refine oi ?_) | (with_reducible refine cExitMiss ?_ ?_; rfl) | (with_reducible refine ok ?_; first | refine ACode.condT rfl ?_ | refine ACode.condF rfl ?_))
  refine ACode.grow 0 0 35 5 rfl rfl ?_
  repeat first | (with_reducible refine oj ?_; refine AOps.auto tabOk rfl ?_) | (with_reducible first | refine o1 ?_ | refine o2 ?_ | refine o3 ?_ | refine o4 ?_ | refine o5 ?_ | refine o6 ?_ | refine o7 ?_ | refine o8 ?_ | refine o9 ?_ | refine oa ?_ | refine ob ?_ | refine oc ?_ | refine od ?_ | refine oe ?_ | refine og ?_ | refine oh ?_ | refine oi ?_) | (with_reducible refine cExitMiss ?_ ?_; rfl) | (with_reducible refine ok ?_; first | refine ACode.condT rfl ?_ | refine ACode.condF rfl ?_)
  refine AOps.cede 0 (show 0 < 2 by omega) fun ko hko => ⟨[(4, .one (.box (cNd t))), (3, .one (.ptr (.o ko) 0))],
    ⟨2, [(1, .tok 35 5 0)], updO ou ko (.cells [.gs 5 [] (.l 1)])⟩, ⟨CedFr.get ?_, rfl, fun i x hx => ?_⟩, ?_⟩
  · exact .cons rfl (FV.sub_o _ (by simp)) (.cons rfl rfl .nil)
  · have hko : ou ko = none := hko
    cases i with
    | l m =>
      by_cases e : 1 = m
      · subst e; cases hx; exact ⟨.l 1, _, rfl, rfl, rfl⟩
      · simp [St.get, lookL, beq_no e] at hx
    | o m =>
      have hx' : updO ou ko (.cells [.gs 5 [] (.l 1)]) m = some x := hx
      by_cases e : ko = m
      · subst e; rw [updO_same] at hx'; cases hx'; exact ⟨.l 0, _, rfl, rfl, rfl⟩
      · rw [updO_ne _ e] at hx'
        exact ⟨.o m, x, hx', rfl, (AObj.sub_o x (hou m x hx')).symm⟩
  have hko : ou ko = none := hko
  refine AOps.cede 1 (show 1 < 2 by omega) fun kt hkt => ⟨[(4, .one (.box (cNd t))), (3, .one (.ptr (.o ko) 0))],
    ⟨2, [], ouS ou ko kt (([] : List Ex).map cEx)⟩, ⟨CedFr.get ?_, rfl, fun i x hx => ?_⟩, ?_⟩
  · exact .cons rfl (FV.sub_o _ (by simp)) (.cons rfl rfl .nil)
  · have hkt : updO ou ko (.cells [.gs 5 [] (.l 1)]) kt = none := hkt
    have hkto : ko ≠ kt := fun e => by subst e; rw [updO_same] at hkt; cases hkt
    cases i with
    | l m => cases hx
    | o m =>
      have hx' : ouS ou ko kt (([] : List Ex).map cEx) m = some x := hx
      by_cases e : m = kt
      · subst e; rw [ouS_t] at hx'; cases hx'; exact ⟨.l 1, _, rfl, rfl, rfl⟩
      · by_cases e2 : m = ko
        · subst e2; rw [ouS_o hkto] at hx'; cases hx'
          exact ⟨.o m, .cells [.gs 5 [] (.l 1)], updO_same _ _ _, rfl, rfl⟩
        · rw [ouS_w e2 e] at hx'
          refine ⟨.o m, x, ?_, rfl, (AObj.sub_o x (hou m x hx')).symm⟩
          show updO ou ko (.cells [.gs 5 [] (.l 1)]) m = _
          rw [updO_ne _ (Ne.symm e2)]; exact hx'
  have hkt : updO ou ko (.cells [.gs 5 [] (.l 1)]) kt = none := hkt
  have hot : ko ≠ kt := fun e => by subst e; rw [updO_same] at hkt; cases hkt
  rw [updO_ne _ hot] at hkt
  have hcall := into_ok hΓ t ht ou ko kt [] hou hko hkt hot hsz
  refine AOps.call1 hΓ rfl rfl rfl rfl rfl rfl rfl (by simp) (ouS_ok hou (by simp)) hcall fun r ou' hq hids hou' => ?_
  obtain ⟨rfl, kt', h1, h2, rfl⟩ := hq
  repeat first | (with_reducible refine oj ?_; refine AOps.auto tabOk rfl ?_) | (with_reducible first | refine o1 ?_ | refine o2 ?_ | refine o3 ?_ | refine o4 ?_ | refine o5 ?_ | refine o6 ?_ | refine o7 ?_ | refine o8 ?_ | refine o9 ?_ | refine oa ?_ | refine ob ?_ | refine oc ?_ | refine od ?_ | refine oe ?_ | refine og ?_ | refine oh ?_ | refine oi ?_) | (with_reducible refine cExitMiss ?_ ?_; rfl) | (with_reducible refine ok ?_; first | refine ACode.condT rfl ?_ | refine ACode.condF rfl ?_)
  refine AOps.step1 rfl rfl rfl (AStep.loadOwn tabOk rfl rfl rfl rfl rfl (ouS_o h2 _) rfl) ?_
  refine AOps.wk 6 rfl (y := .one (.sl 5 ((listT [] t).map cEx))) (.one (.gsE rfl)) ?_
  refine AOps.lessO ⟨2, [], ou⟩ rfl (fun i o ho => ?_) ?_
  · cases i with
    | l m => cases ho
    | o m =>
      have ho' : ou m = some o := ho
      show ouS ou ko kt' _ m = some o
      have e1 : m ≠ ko := fun e => by rw [e, hko] at ho'; cases ho'
      have e3 : m ≠ kt' := fun e => by rw [← e, ho'] at h1; cases h1
      rw [ouS_w e1 e3]; exact ho'
  repeat first | (with_reducible refine oj ?_; refine AOps.auto tabOk rfl ?_) | (with_reducible first | refine o1 ?_ | refine o2 ?_ | refine o3 ?_ | refine o4 ?_ | refine o5 ?_ | refine o6 ?_ | refine o7 ?_ | refine o8 ?_ | refine o9 ?_ | refine oa ?_ | refine ob ?_ | refine oc ?_ | refine od ?_ | refine oe ?_ | refine og ?_ | refine oh ?_ | refine oi ?_) | (with_reducible refine cExitMiss ?_ ?_; rfl) | (with_reducible refine ok ?_; first | refine ACode.condT rfl ?_ | refine ACode.condF rfl ?_)
  exact APure.fin rfl (WkF.ofEq rfl) (by simp) hou rfl
def factA : Tr := .mk 2 0 [1] [.mk 0 1 [] [] []] []
def factB : Tr := .mk 2 0 [2] [.mk 0 2 [] [] []] []
end Go.Proofs.YtnonkoeknpmcjaaDoor
/- Core expressions as plain data: what lies below a node. No condition. -/
namespace Go.CoreX
set_option linter.unusedVariables false
/-- The tree of a node. -/
def treeAt (e : List Ex) (k : Nat) : Tr := (growL e).getD k default
theorem treeAt_node {e : List Ex} (hk : kidsIn e) {i : Nat} {x : Ex} (hx : e[i]? = some x) : treeAt e i = .mk x.op x.n x.binds (x.kids.map fun k => treeAt e k.toNat) x.alts := by
  have hi := (List.getElem?_eq_some_iff.1 hx).1
  have hs : e = e.take i ++ x :: e.drop (i + 1) := by
    obtain ⟨h2, h3⟩ := List.getElem?_eq_some_iff.1 hx
    rw [← h3, ← List.drop_eq_getElem_cons h2, List.take_append_drop]
  have hl : (e.take i).length = i := by simp; omega
  have h1 := growL_at (e.take i) (e.drop (i + 1)) x
  rw [← hs, hl] at h1
  unfold treeAt
  rw [h1]
  simp only [nodeOf, Tr.mk.injEq, true_and, and_true]
  refine List.map_congr_left fun k hkk => ?_
  have hb := hk i x hx k hkk
  have h2 := growL_get (e := e.take i) (l := x :: e.drop (i + 1)) (i := k.toNat) (by rw [hl]; omega)
  rw [← hs] at h2
  exact h2.symm
theorem count_flat (n : Int) (f : Lab → List Int) : ∀ ls : List Lab, (((ls.flatMap f).count n : Nat) : Int) = (ls.map fun l => (((f l).count n : Nat) : Int)).sum
  | [] => rfl
  | l :: ls => by
    simp only [List.flatMap_cons, List.count_append, List.map_cons, List.sum_cons, ← count_flat n f ls]
    omega
/-- at, Free, Cut, Size. -/
def atErr (e : List Ex) (n : Int) : Int := if check e ≠ 0 then check e else if n < 0 ∨ (e.length : Int) ≤ n then 12 else 0
def freeAt (e : List Ex) (n : Int) : List Int × Int := if atErr e n ≠ 0 then ([], atErr e n) else (freeOf (treeAt e n.toNat), 0)
def cutAt (e : List Ex) (n : Int) : List Ex × Int := if atErr e n ≠ 0 then ([], atErr e n) else (listT [] (treeAt e n.toNat), 0)
def sizeAt (e : List Ex) (n : Int) : Int × Int := if atErr e n ≠ 0 then (0, atErr e n) else ((listT [] (treeAt e n.toNat)).length, 0)
end Go.CoreX
/- at, below, Free, Cut, Size, CoreCut, walked. -/
namespace Go.Proofs.YtnonkoeknpmcjaaDoor
open Go Go.Abs Go.CoreX
set_option maxRecDepth 10000
set_option linter.unusedVariables false
set_option linter.unusedSimpArgs false
variable {Γ : List (Nat × List AC)}
end Go.Proofs.YtnonkoeknpmcjaaDoor
namespace Go.CoreX
mutual
def cntN : Tr → Nat
  | .mk _ _ _ k _ => cntNs k + 1
def cntNs : List Tr → Nat
  | [] => 0
  | t :: l => cntN t + cntNs l
end
mutual
theorem cntN_list : ∀ (t : Tr) (out : List Ex), (listT out t).length = out.length + cntN t
  | .mk o n b k a, out => by
    have := cntNs_list k out
    simp only [listT, cntN, List.length_append, List.length_singleton]; omega
theorem cntNs_list : ∀ (l : List Tr) (out : List Ex), (listTs out l).1.length = out.length + cntNs l
  | [], out => by simp [listTs, cntNs]
  | t :: l, out => by
    have h1 := cntN_list t out
    have h2 := cntNs_list l (listT out t)
    simp only [listTs, cntNs]; omega
end
theorem cntNs_app : ∀ (l r : List Tr), cntNs (l ++ r) = cntNs l + cntNs r
  | [], r => by simp [cntNs]
  | t :: l, r => by simp only [List.cons_append, cntNs, cntNs_app l r]; omega
end Go.CoreX
namespace Go.Proofs.YtnonkoeknpmcjaaDoor
open Go Go.Abs Go.CoreX
set_option maxRecDepth 10000
set_option linter.unusedVariables false
set_option linter.unusedSimpArgs false
variable {Γ : List (Nat × List AC)}
end Go.Proofs.YtnonkoeknpmcjaaDoor
/- What is free at a node, from its kids; In and Scope, walked. -/
namespace Go.CoreX
set_option linter.unusedVariables false
/-- Scope, as it is written; at nodes of the right shape it is what is bound. -/
def scopeE (x : Ex) (k : Int) : List Int := if x.op = 2 ∨ x.op = 5 ∨ (x.op = 4 ∧ k = 1) then x.binds else if (x.op = 7 ∨ x.op = 13) ∧ 0 < k then (x.alts.getD (k - 1).toNat ⟨0, []⟩).binds else []
theorem shape_of {e : List Ex} (h : check e = 0) : ∀ x ∈ e, shape x = true := by
  intro x hx
  unfold check body at h
  by_cases h1 : treeErr e = 0
  · rw [if_neg (by simpa using h1)] at h
    by_cases h2 : firstErr (nodeErrF false e) e = 0
    · have h3 := (firstErr_zero _ e).1 h2 x hx
      unfold nodeErrF at h3
      simp only [Bool.false_and, Bool.not_false, Bool.true_and, Bool.false_or] at h3
      by_cases h4 : flatOnly x.op = true
      · rw [if_pos h4] at h3; cases h3
      · rw [if_neg h4] at h3
        unfold nodeErr at h3
        by_cases h5 : shape x = false
        · rw [if_pos h5] at h3; cases h3
        · simpa using h5
    · rw [if_pos h2] at h; exact absurd h h2
  · rw [if_pos h1] at h; exact absurd h h1
theorem shape_alts {x : Ex} (h : shape x = true) : if x.op = 7 ∨ x.op = 13 then x.kids.length = x.alts.length + 1 else x.alts = [] := by
  unfold shape at h
  split
  · rename_i ho
    rw [if_pos ho] at h
    simp only [altsOk, Bool.and_eq_true, beq_iff_eq] at h
    omega
  · rename_i ho
    rw [if_neg ho] at h
    split at h
    · cases h
    · simp only [Bool.and_eq_true, beq_iff_eq] at h
      exact List.length_eq_zero_iff.1 h.1.2
/-- What the function gathers. -/
def upStep (sc : List Int) (out : List Int) (f : Int) : List Int := if sc.contains f = false ∧ out.contains f = false then out ++ [f] else out
def upKid (sc fs out : List Int) : List Int := fs.foldl (upStep sc) out
def upTo (x : Ex) (fs : Nat → List Int) : Nat → List Int
  | 0 => if x.op = 0 then [x.n] else []
  | i + 1 => upKid (scopeE x i) (fs i) (upTo x fs i)
/-- The identifiers free at the kids. -/
def fsAt (e : List Ex) (x : Ex) (i : Nat) : List Int := freeOf (treeAt e (x.kids.getD i 0).toNat)
end Go.CoreX
namespace Go.Proofs.YtnonkoeknpmcjaaDoor
open Go Go.Abs Go.CoreX
set_option maxRecDepth 10000
set_option linter.unusedVariables false
set_option linter.unusedSimpArgs false
variable {Γ : List (Nat × List AC)}
end Go.Proofs.YtnonkoeknpmcjaaDoor
/- CoreFreeUp, walked. -/
namespace Go.Proofs.YtnonkoeknpmcjaaDoor
open Go Go.Abs Go.CoreX
set_option maxRecDepth 10000
set_option linter.unusedVariables false
set_option linter.unusedSimpArgs false
variable {Γ : List (Nat × List AC)}
/-- The list gathered so far: none yet, or an own array. -/
def ow8 (l : List Int) : Option Nat → AC
  | none => .lit (.slice none 0 0)
  | some cap => .arr (.l 0) 1 0 (l.map cI).length cap
def st8 (l : List Int) (ou : Outer) : Option Nat → St
  | none => ⟨0, [], ou⟩
  | some cap => ⟨1, [(0, .cells (vec 1 (l.map cI) cap))], ou⟩
def co8 (l : List Int) : Option Nat → Prop
  | none => l = []
  | some cap => l.length ≤ cap
def p8 : Option Nat → Nat
  | none => 0
  | some cap => cap
def d8 (l : List Int) (ou : Outer) : Option Nat → St
  | none => st8 l ou none
  | some cap => (st8 l ou (some cap)).set (.l 0) .dead
@[simp] theorem ids_ow8 (l l' : List Int) (ou : Outer) (oc : Option Nat) : (ow8 l oc).ids (inL (st8 l' ou oc).n) := by cases oc <;> simp [ow8, st8, AC.ids, inL]
theorem keep8 (l : List Int) (oc : Option Nat) : WkF (.one (ow8 l oc)) ((FV.one (ow8 l oc)).ren id) := by cases oc <;> exact .refl _
theorem FrSub.k8 {fr r : Fr} {k : Nat} {l : List Int} {oc : Option Nat} (h : Fr.get k fr = some (.one (ow8 l oc))) (hr : FrSub id fr r) : FrSub id fr ((k, .one (ow8 l oc)) :: r) := FrSub.cons h (keep8 l oc) hr
theorem FrSub.n8 {ρ : Nat → Nat} {fr r : Fr} {k m n cap : Nat} {l : List Int} (h : Fr.get k fr = some (.one (.arr (.l m) 1 0 n cap))) (hm : m = ρ 0) (hn : n = l.length) (hr : FrSub ρ fr r) : FrSub ρ fr ((k, .one (ow8 l (some cap))) :: r) :=
  FrSub.cons h (.ofEq (by subst hm; subst hn; simp [ow8, FV.ren, AC.ren, Abs.Id.ren])) hr
end Go.Proofs.YtnonkoeknpmcjaaDoor
/- The effects of a node itself: wordly, has, conditional, primEffect, own, walked. -/
namespace Go.CoreX
set_option linter.unusedVariables false
def wordlyF (t : Tr) : Bool := t.op == 1 || (t.op == 8 && (decide (t.n ≤ 4) || t.n == 9))
def condLoop : List Alt → Int → Bool
  | [], known => known == 2
  | a :: l, known => if a.tag = -1 then true else if a.tag ≤ 1 ∧ a.binds.length = 0 then condLoop l (known + 1) else if a.tag ≤ 1 then false else condLoop l known
def condF (t : Tr) : Bool := if (t.kids.headD default).op ≠ 8 ∨ ((t.kids.headD default).n ≠ 5 ∧ (t.kids.headD default).n ≠ 6) then false else condLoop t.alts 0
def kid1 (t : Tr) : Tr := t.kids.tail.headD default
def wordsF (t : Tr) : Bool := wordlyF (t.kids.headD default) && (t.kids.length == 1 || wordlyF (kid1 t))
def primF (t : Tr) : Int :=
  if t.n = 7 then 3 else if t.n = 8 ∨ t.n = 11 then 10 else if t.n = 10 then 18 else if t.n = 9 then 2 else
  if t.n = 3 ∨ t.n = 4 then (if wordsF t = true ∧ (kid1 t).op = 1 ∧ (kid1 t).n ≠ 0 then 0 else 2) else
  if wordsF t = true then 0 else 2
def ownF (t : Tr) : Int :=
  if t.op = 17 then 2 else if t.op = 8 then primF t else
  if t.op = 3 then (if (t.kids.headD default).op ≠ 2 ∨ ((t.kids.headD default).binds.length : Int) ≠ t.kids.length - 1 then 63 else 0) else
  if t.op = 7 then (if condF t = true then 0 else 2) else
  if t.op = 10 ∨ t.op = 11 then (if (t.kids.headD default).op ≠ 9 ∨ (t.op = 10 ∧ (t.kids.headD default).binds.contains t.n = false) then 2 else 0) else
  if t.op = 12 then 6 else if t.op = 13 then 63 else 0
/-- The kids that its functions look at. -/
structure kidsOk (t : Tr) : Prop where
  p1 : t.op = 8 ∨ t.op = 3 ∨ t.op = 7 ∨ t.op = 10 ∨ t.op = 11 → 1 ≤ t.kids.length
  p2 : t.op = 8 → t.n = 3 ∨ t.n = 4 → 2 ≤ t.kids.length
end Go.CoreX
namespace Go.Proofs.YtnonkoeknpmcjaaDoor
open Go Go.Abs Go.CoreX
set_option maxRecDepth 10000
set_option linter.unusedVariables false
set_option linter.unusedSimpArgs false
variable {Γ : List (Nat × List AC)}
end Go.Proofs.YtnonkoeknpmcjaaDoor
/- own, walked. -/
namespace Go.Proofs.YtnonkoeknpmcjaaDoor
open Go Go.Abs Go.CoreX
set_option maxRecDepth 10000
set_option linter.unusedVariables false
set_option linter.unusedSimpArgs false
variable {Γ : List (Nat × List AC)}
end Go.Proofs.YtnonkoeknpmcjaaDoor
/- The effects of all nodes, as plain data, and the law. -/
namespace Go.CoreX
open Go.Abs (orI subI anI)
set_option linter.unusedVariables false
def ex0 : Ex := ⟨0, 0, [], [], []⟩
def exN (e : List Ex) (i : Nat) : Ex := e.getD i ex0
def shK (e : List Ex) (k : Int) : Tr := .mk (exN e k.toNat).op (exN e k.toNat).n (exN e k.toNat).binds [] []
def shT (e : List Ex) (x : Ex) : Tr := .mk x.op x.n x.binds (x.kids.map (shK e)) x.alts
def purStep (e : List Ex) (x : Ex) (p : List Int) (k : Nat) (kid : Int) (acc : Int) : Int :=
  if x.op = 2 ∨ (x.op = 5 ∧ k < x.binds.length) then acc
  else if x.op = 3 ∧ k = 0 ∧ (exN e kid.toNat).op = 2 then orI acc (p.getD ((exN e kid.toNat).kids.getD 0 0).toNat 0)
  else orI acc (p.getD kid.toNat 0)
def purTo (e : List Ex) (x : Ex) (p : List Int) : Nat → Int
  | 0 => ownF (shT e x)
  | j + 1 => purStep e x p j (x.kids.getD j 0) (purTo e x p j)
def purAt (e : List Ex) : Nat → List Int
  | 0 => List.replicate e.length 0
  | i + 1 => (purAt e i).set i (purTo e (exN e i) (purAt e i) (exN e i).kids.length)
def purOf (e : List Ex) : List Int × Int := if check e ≠ 0 then ([], check e) else (purAt e e.length, 0)
end Go.CoreX
/- The effects of all nodes, walked. -/
namespace Go.Proofs.YtnonkoeknpmcjaaDoor
open Go Go.Abs Go.CoreX
set_option maxRecDepth 10000
set_option linter.unusedVariables false
set_option linter.unusedSimpArgs false
variable {Γ : List (Nat × List AC)}
/-- The shallow kids, as they are appended. -/
def shD (e : List Ex) (l : List Int) : List (List AC) := l.map fun k => cB (shK e k)
@[simp] theorem ids_shD (p : Abs.Id → Prop) (e : List Ex) (l : List Int) : idsS p (shD e l) := idsS_map (fun k => by simp [cB]) l
@[simp] theorem ren_shD (ρ : Nat → Nat) (e : List Ex) (l : List Int) : renS ρ (shD e l) = shD e l := renS_pure ρ _ (by simp)
end Go.Proofs.YtnonkoeknpmcjaaDoor
/- PurityAbove, walked. -/
namespace Go.CoreX
def factP : Tr := .mk 8 7 [] [.mk 1 1 [] [] []] []
end Go.CoreX
namespace Go.Proofs.YtnonkoeknpmcjaaDoor
open Go Go.Abs Go.CoreX
set_option maxRecDepth 10000
set_option linter.unusedVariables false
set_option linter.unusedSimpArgs false
variable {Γ : List (Nat × List AC)}
theorem W_ok (hΓ : ∀ g cs, (g, cs) ∈ Γ → idsL isO cs) (n : Int) : APure Tryd.prog Γ 47 [.one (int n)] (.one (.box (cNd (.mk 1 n [] [] [])))) := by
  intro ou
  refine AFn.walk 5 tabOk Tryd.func47 rfl (by kernel_rfl) rfl rfl fun hou => ?_
  repeat first | (with_reducible refine oj ?_; refine AOps.auto tabOk rfl ?_) | (with_reducible first | refine o1 ?_ | refine o2 ?_ | refine o3 ?_ | refine o4 ?_ | refine o5 ?_ | refine o6 ?_ | refine o7 ?_ | refine o8 ?_ | refine o9 ?_ | refine oa ?_ | refine ob ?_ | refine oc ?_ | refine od ?_ | refine oe ?_ | refine og ?_ | refine oh ?_ | refine oi ?_) | (with_reducible refine cExitMiss ?_ ?_; rfl) | (with_reducible refine ok ?_; first | refine ACode.condT rfl ?_ | refine ACode.condF rfl ?_)
  refine AOps.callCW (ws := [.one (int 1), .one (int n), .one (.sl 1 (encNds []))]) hΓ (N_ok 1 n []) rfl rfl rfl rfl rfl rfl ?_ hou (by simp) ?_
  · exact .cons (.refl _) (.cons (.refl _) (.cons (.one (.nilS 1)) .nil))
  repeat first | (with_reducible refine oj ?_; refine AOps.auto tabOk rfl ?_) | (with_reducible first | refine o1 ?_ | refine o2 ?_ | refine o3 ?_ | refine o4 ?_ | refine o5 ?_ | refine o6 ?_ | refine o7 ?_ | refine o8 ?_ | refine o9 ?_ | refine oa ?_ | refine ob ?_ | refine oc ?_ | refine od ?_ | refine oe ?_ | refine og ?_ | refine oh ?_ | refine oi ?_) | (with_reducible refine cExitMiss ?_ ?_; rfl) | (with_reducible refine ok ?_; first | refine ACode.condT rfl ?_ | refine ACode.condF rfl ?_)
  exact APure.fin rfl (WkF.ofEq rfl) (by simp) hou rfl
end Go.Proofs.YtnonkoeknpmcjaaDoor
/- How often identifiers are used: the walk of a tree. -/
namespace Go.CoreX
set_option linter.unusedVariables false
structure CS where
  u : Int → Int
  d : Int → Int
  m : Int → Int
def upF (f : Int → Int) (k v : Int) : Int → Int := fun j => if k = j then v else f j
def visitU (s : CS) (n deep : Int) : CS := ⟨upF s.u n (s.u n + 1), s.d, if s.d n < deep then upF s.m n (s.m n + 1) else s.m⟩
def bindU (d : Int) (s : CS) (l : List Int) : CS := ⟨s.u, l.foldl (fun f n => upF f n d) s.d, s.m⟩
def rep (o : Int) (i : Int) : Bool := o == 2 || (o == 13 && decide (0 < i))
def deepK (o : Int) (i : Nat) (deep : Int) : Int := if rep o i = true then deep + 1 else deep
mutual
def walkU (deep : Int) (s : CS) : Tr → CS
  | .mk o n b k a => walkUs deep o b a 0 (if o = 0 then visitU s n deep else s) k
def walkUs (deep o : Int) (b : List Int) (a : List Alt) (i : Nat) (s : CS) : List Tr → CS
  | [] => s
  | t :: ts => walkUs deep o b a (i + 1) (walkU (deepK o i deep) (bindU (deepK o i deep) s (boundN o b a i)) t) ts
end
theorem walkUs_snoc (deep o : Int) (b : List Int) (a : List Alt) (t : Tr) : ∀ (l : List Tr) (i : Nat) (s : CS), walkUs deep o b a i s (l ++ [t]) = walkU (deepK o (i + l.length) deep) (bindU (deepK o (i + l.length) deep) (walkUs deep o b a i s l) (boundN o b a ((i + l.length : Nat) : Int))) t
  | [], i, s => by simp [walkUs]
  | x :: l, i, s => by
    simp only [List.cons_append, walkUs, walkUs_snoc deep o b a t l (i + 1), List.length_cons]
    rw [show i + 1 + l.length = i + (l.length + 1) by omega]
/-- Bounds. -/
def CB (M : Int) (s : CS) : Prop := ∀ k, (0 ≤ s.u k ∧ s.u k ≤ M) ∧ 0 ≤ s.m k ∧ s.m k ≤ M
theorem CB.visit {M : Int} {s : CS} (h : CB M s) (n deep : Int) : CB (M + 1) (visitU s n deep) := fun k => by
  have h1 := h k
  have h2 := h n
  refine ⟨?_, ?_⟩
  · simp only [visitU, upF]; split <;> omega
  · by_cases e : s.d n < deep
    · simp only [visitU, if_pos e, upF]; split <;> omega
    · simp only [visitU, if_neg e]; omega
theorem CB.mono {M M' : Int} {s : CS} (h : CB M s) (hm : M ≤ M') : CB M' s := fun k => by have := h k; omega
mutual
theorem CB.walk : ∀ (t : Tr) {M : Int} {s : CS} (deep : Int), CB M s → CB (M + cntN t) (walkU deep s t)
  | .mk o n b k a, M, s, deep, h => by
    have h1 : CB (M + 1) (if o = 0 then visitU s n deep else s) := by
      split
      · exact h.visit n deep
      · exact h.mono (by omega)
    have h2 := CB.walks k (M := M + 1) deep o b a 0 h1
    simp only [walkU]
    refine h2.mono ?_
    simp only [cntN]; push_cast; omega
theorem CB.walks : ∀ (l : List Tr) {M : Int} {s : CS} (deep o : Int) (b : List Int) (a : List Alt) (i : Nat), CB M s → CB (M + cntNs l) (walkUs deep o b a i s l)
  | [], M, s, deep, o, b, a, i, h => by simpa [walkUs, cntNs] using h
  | t :: l, M, s, deep, o, b, a, i, h => by
    have h1 : CB M (bindU (deepK o i deep) s (boundN o b a i)) := h
    have h2 := CB.walk t (deepK o i deep) h1
    have h3 := CB.walks l deep o b a (i + 1) h2
    simp only [walkUs]
    refine h3.mono ?_
    simp only [cntNs]; push_cast; omega
end
structure UM where
  cu : Nat
  lu : List (Nat × Int × Int)
  cd : Nat
  ld : List (Nat × Int × Int)
  cm : Nat
  lm : List (Nat × Int × Int)
end Go.CoreX
namespace Go.Proofs.YtnonkoeknpmcjaaDoor
open Go Go.Abs Go.CoreX
set_option maxRecDepth 10000
set_option linter.unusedVariables false
set_option linter.unusedSimpArgs false
variable {Γ : List (Nat × List AC)}
theorem repeats_ok (t : Tr) (i : Int) : APure Tryd.prog Γ 84 [.one (.box (cTr t)), .one (int i)] (.one (.lit (.bool (rep t.op i)))) := by
  intro ou
  refine AFn.walk 21 tabOk Tryd.func84 rfl (by kernel_rfl) rfl rfl fun hou => ?_
  repeat' first | (with_reducible refine oj ?_; refine AOps.auto tabOk rfl ?_) | (with_reducible first | refine o1 ?_ | refine o2 ?_ | refine o3 ?_ | refine o4 ?_ | refine o5 ?_ | refine o6 ?_ | refine o7 ?_ | refine o8 ?_ | refine o9 ?_ | refine oa ?_ | refine ob ?_ | refine oc ?_ | refine od ?_ | refine oe ?_ | refine og ?_ | refine oh ?_ | refine oi ?_) | (with_reducible refine cExitMiss ?_ ?_; rfl) | (with_reducible refine ok ?_; first | refine ACode.condT rfl ?_ | refine ACode.condF rfl ?_) | (with_reducible refine oj ?_; first | refine AOps.step1 rfl rfl rfl (AStep.arith rfl rfl rfl (.inl ⟨rfl, rfl⟩) (inRange_i64 (by first | omega | (simp; omega)) (by first | omega | (simp; omega)))) ?_ | refine AOps.step1 rfl rfl rfl (AStep.arith rfl rfl rfl (.inr (.inl ⟨rfl, rfl⟩)) (inRange_i64 (by first | omega | (simp; omega)) (by first | omega | (simp; omega)))) ?_ | refine AOps.step1 rfl rfl rfl (AStep.neBool Tryd.underlying4 rfl rfl rfl) ?_ | refine AOps.step1 rfl rfl rfl (AStep.eqBool Tryd.underlying4 rfl rfl rfl) ?_ | refine AOps.step1 rfl rfl rfl (AStep.max2 (t := 3) (ty := 3) rfl rfl rfl) ?_ | refine AOps.step1 rfl rfl rfl (AStep.min2 (t := 3) (ty := 3) rfl rfl rfl) ?_ | refine AOps.unG rfl rfl rfl ?_) | (with_reducible refine oj ?_; refine AOps.splitS rfl rfl rfl rfl (fun hb => ?_) (fun hb => ?_)) | (with_reducible refine ok ?_; first | refine ACode.condS rfl (fun hb => ?_) (fun hb => ?_) | refine ACode.cond rfl (fun hb => ?_) (fun hb => ?_))
  all_goals
    refine APure.fin rfl (WkF.ofEq ?_) (by simp) hou rfl
    first
      | (simp_all [rep]; done)
      | (simp_all [rep]; intros; omega)
def CIs (s : CS) (x : UM) : Prop := BIs s.u x.cu x.lu ∧ BIs s.d x.cd x.ld ∧ BIs s.m x.cm x.lm
def ouU (x : UM) : Outer := ouOf [.cells [.mp (.o 1), .mp (.o 2), .mp (.o 3)], .map x.cu (encI eN x.lu), .map x.cd (encI eN x.ld), .map x.cm (encI eN x.lm)]
theorem ouU_ok (x : UM) : OuOk (ouU x) := by
  intro k o h
  match k, h with
  | 0, h => cases h; simp
  | 1, h => cases h; exact ids_mapN _ _ _
  | 2, h => cases h; exact ids_mapN _ _ _
  | 3, h => cases h; exact ids_mapN _ _ _
  | k + 4, h => cases h
theorem ouU_set1 (x : UM) (c : Nat) (l : List (Nat × Int × Int)) : (fun j => bif Nat.beq j 1 then some (AObj.map c (encI eN l)) else ouU x j) = ouU { x with cu := c, lu := l } := by
  funext j
  match j with
  | 0 => rfl
  | 1 => rfl
  | k + 2 => rfl
theorem ouU_set2 (x : UM) (c : Nat) (l : List (Nat × Int × Int)) : (fun j => bif Nat.beq j 2 then some (AObj.map c (encI eN l)) else ouU x j) = ouU { x with cd := c, ld := l } := by
  funext j
  match j with
  | 0 => rfl
  | 1 => rfl
  | 2 => rfl
  | k + 3 => rfl
theorem ouU_set3 (x : UM) (c : Nat) (l : List (Nat × Int × Int)) : (fun j => bif Nat.beq j 3 then some (AObj.map c (encI eN l)) else ouU x j) = ouU { x with cm := c, lm := l } := by
  funext j
  match j with
  | 0 => rfl
  | 1 => rfl
  | 2 => rfl
  | 3 => rfl
  | k + 4 => rfl
theorem BIs.putF {β : Int → Int} {f : Int → Option Int} {n v : Int} {ck : Nat} {l : List (Nat × Int × Int)} (hf : ∀ k, (f k).getD 0 = β k) (h : IMOk (setF f n v) ck l) : BIs (upF β n v) ck l := ⟨_, h, fun k => by rw [BIs.put hf]; rfl⟩
def WalkUOk (Γ : List (Nat × List AC)) (t : Tr) : Prop := ∀ (s : CS) (deep M : Int) (x : UM), CB M s → 0 ≤ deep → M + cntN t ≤ 4611686018427387904 → deep + depthT t ≤ 4611686018427387904 → CIs s x →
  AFn Tryd.prog Γ 48 [.one (.ptr (.o 0) 0), .one (.box (cTr t)), .one (int deep)] (ouU x) (fun r ou' => r = .tup [] ∧ ∃ x', ou' = ouU x' ∧ CIs (walkU deep s t) x')
set_option maxHeartbeats 1000000 in
theorem walkU_ok (hΓ : ∀ g cs, (g, cs) ∈ Γ → idsL isO cs) : ∀ t : Tr, okT t → WalkUOk Γ t
  | .mk o n b ks a, hok => by
    obtain ⟨hb, hk, ha, ⟨hab, _⟩, hks⟩ := hok
    have ih : ∀ t ∈ ks, WalkUOk Γ t := fun t ht => walkU_ok hΓ t (okTs_iff.1 hks t ht)
    intro s deep M x hcb hd0 hM hdp hC
    have hcn : M + 1 + cntNs ks ≤ 4611686018427387904 := by simp only [cntN] at hM; push_cast at hM; omega
    refine AFn.walk 83 tabOk Tryd.func48 rfl (by kernel_rfl) rfl rfl fun hou => ?_
    (first | (with_reducible refine oj ?_; refine AOps.auto tabOk rfl ?_) | (with_reducible first | refine o1 ?_ | refine o2 ?_ | refine o3 ?_ | refine o4 ?_ | refine o5 ?_ | refine o6 ?_ | refine o7 ?_ | refine o8 ?_ | refine o9 ?_ | refine oa ?_ | refine ob ?_ | refine oc ?_ | refine od ?_ | refine oe ?_ | refine og ?_ | refine oh ?_ | refine oi ?_) | (with_reducible refine cExitMiss ?_ ?_; rfl) | (with_reducible refine ok ?_; first | refine ACode.condT rfl ?_ | refine ACode.condF rfl ?_))
    refine ACode.cutR hΓ (α := UM) (fun _ => [(2, .one (int deep)), (1, .one (.box (cTr (.mk o n b ks a)))), (0, .one (.ptr (.o 0) 0))])
      (fun c => ⟨0, [], ouU c⟩) (fun c => CIs (if o = 0 then visitU s n deep else s) c) ?_ fun c hc => ?_
    · by_cases ho : o = 0
      · subst ho
        rw [if_pos rfl]
        obtain ⟨⟨fu, hu, hu2⟩, ⟨fd, hd, hd2⟩, ⟨fm, hm, hm2⟩⟩ := hC
        have hcn1 := hcb n
        repeat first | (with_reducible refine oj ?_; refine AOps.auto tabOk rfl ?_) | (with_reducible first | refine o1 ?_ | refine o2 ?_ | refine o3 ?_ | refine o4 ?_ | refine o5 ?_ | refine o6 ?_ | refine o7 ?_ | refine o8 ?_ | refine o9 ?_ | refine oa ?_ | refine ob ?_ | refine oc ?_ | refine od ?_ | refine oe ?_ | refine og ?_ | refine oh ?_ | refine oi ?_) | (with_reducible refine cExitMiss ?_ ?_; rfl) | (with_reducible refine ok ?_; first | refine ACode.condT rfl ?_ | refine ACode.condF rfl ?_)
        refine ACode.drawX tabOk 10 [(8, .one (int (s.u n))), (9, .one (int (s.u n + 1)))] follows (by kernel_rfl) rfl rfl rfl rfl ?_ ?_
        · refine .step rfl (HStep.plain rfl (AStep.lookI eN (cm := false) (v := .one (int (s.u n))) rfl Tryd.underlying79 Tryd.underlying3 rfl rfl rfl (by kernel_rfl) zeroN hu ?_)) ?_
          · simp only [Tr.n_mk]; rw [← hu2 n]; cases fu n <;> rfl
          · exact .step rfl (HStep.plain rfl (AStep.arith rfl rfl rfl (.inl ⟨rfl, rfl⟩) (inRange_i64 (by omega) (by omega)))) .nil
        refine AOps.putI eN (v := s.u n + 1) rfl rfl rfl Tryd.underlying79 Tryd.underlying3 rfl rfl rfl rfl hu fun cu' lu' hu' => ?_
        repeat first | (with_reducible refine oj ?_; refine AOps.auto tabOk rfl ?_) | (with_reducible first | refine o1 ?_ | refine o2 ?_ | refine o3 ?_ | refine o4 ?_ | refine o5 ?_ | refine o6 ?_ | refine o7 ?_ | refine o8 ?_ | refine o9 ?_ | refine oa ?_ | refine ob ?_ | refine oc ?_ | refine od ?_ | refine oe ?_ | refine og ?_ | refine oh ?_ | refine oi ?_) | (with_reducible refine cExitMiss ?_ ?_; rfl) | (with_reducible refine ok ?_; first | refine ACode.condT rfl ?_ | refine ACode.condF rfl ?_)
        refine ACode.drawX tabOk 10 [(8, .one (int (s.d n)))] follows (by kernel_rfl) rfl rfl rfl rfl ?_ ?_
        · refine .step rfl (HStep.plain rfl (AStep.lookI eN (cm := false) (v := .one (int (s.d n))) rfl Tryd.underlying79 Tryd.underlying3 rfl rfl rfl (by kernel_rfl) zeroN hd ?_)) .nil
          simp only [Tr.n_mk]; rw [← hd2 n]; cases fd n <;> rfl
        repeat first | (with_reducible refine oj ?_; refine AOps.auto tabOk rfl ?_) | (with_reducible first | refine o1 ?_ | refine o2 ?_ | refine o3 ?_ | refine o4 ?_ | refine o5 ?_ | refine o6 ?_ | refine o7 ?_ | refine o8 ?_ | refine o9 ?_ | refine oa ?_ | refine ob ?_ | refine oc ?_ | refine od ?_ | refine oe ?_ | refine og ?_ | refine oh ?_ | refine oi ?_) | (with_reducible refine cExitMiss ?_ ?_; rfl) | (with_reducible refine ok ?_; first | refine ACode.condT rfl ?_ | refine ACode.condF rfl ?_)
        refine ACode.cond rfl (fun hb => ?_) (fun hb => ?_)
        · have hlt : s.d n < deep := by simpa using hb
          repeat first | (with_reducible refine oj ?_; refine AOps.auto tabOk rfl ?_) | (with_reducible first | refine o1 ?_ | refine o2 ?_ | refine o3 ?_ | refine o4 ?_ | refine o5 ?_ | refine o6 ?_ | refine o7 ?_ | refine o8 ?_ | refine o9 ?_ | refine oa ?_ | refine ob ?_ | refine oc ?_ | refine od ?_ | refine oe ?_ | refine og ?_ | refine oh ?_ | refine oi ?_) | (with_reducible refine cExitMiss ?_ ?_; rfl) | (with_reducible refine ok ?_; first | refine ACode.condT rfl ?_ | refine ACode.condF rfl ?_)
          refine ACode.drawX tabOk 10 [(8, .one (int (s.m n))), (9, .one (int (s.m n + 1)))] follows (by kernel_rfl) rfl rfl rfl rfl ?_ ?_
          · refine .step rfl (HStep.plain rfl (AStep.lookI eN (cm := false) (v := .one (int (s.m n))) rfl Tryd.underlying79 Tryd.underlying3 rfl rfl rfl (by kernel_rfl) zeroN hm ?_)) ?_
            · simp only [Tr.n_mk]; rw [← hm2 n]; cases fm n <;> rfl
            · exact .step rfl (HStep.plain rfl (AStep.arith rfl rfl rfl (.inl ⟨rfl, rfl⟩) (inRange_i64 (by omega) (by omega)))) .nil
          refine AOps.putI eN (v := s.m n + 1) rfl rfl rfl Tryd.underlying79 Tryd.underlying3 rfl rfl rfl rfl hm fun cm' lm' hm' => ?_
          repeat first | (with_reducible refine oj ?_; refine AOps.auto tabOk rfl ?_) | (with_reducible first | refine o1 ?_ | refine o2 ?_ | refine o3 ?_ | refine o4 ?_ | refine o5 ?_ | refine o6 ?_ | refine o7 ?_ | refine o8 ?_ | refine o9 ?_ | refine oa ?_ | refine ob ?_ | refine oc ?_ | refine od ?_ | refine oe ?_ | refine og ?_ | refine oh ?_ | refine oi ?_) | (with_reducible refine cExitMiss ?_ ?_; rfl) | (with_reducible refine ok ?_; first | refine ACode.condT rfl ?_ | refine ACode.condF rfl ?_)
          have hst : (St.set (St.set ⟨0, [], ouU x⟩ (.o 1) (.map cu' (encI eN lu'))) (.o 3) (.map cm' (encI eN lm'))).ou = ouU { x with cu := cu', lu := lu', cm := cm', lm := lm' } := by
            show (fun j => bif Nat.beq j 3 then _ else (fun j => bif Nat.beq j 1 then some (AObj.map cu' (encI eN lu')) else ouU x j) j) = _
            rw [ouU_set1, ouU_set3]
          exact cInv ⟨{ x with cu := cu', lu := lu', cm := cm', lm := lm' }, id, ⟨BIs.putF hu2 hu', ⟨fd, hd, hd2⟩, by simp only [visitU, if_pos hlt]; exact BIs.putF hm2 hm'⟩, LessR.of rfl (by (repeat' first | exact FrSub.nil | refine FrSub.cons rfl (.ofEq rfl) ?_ | refine FrSub.consP rfl (.ofEq rfl) (by simp) ?_)) (by simp) .nil rfl hst.symm (hst ▸ ouU_ok _)⟩
        · have hlt : ¬ s.d n < deep := by simpa using hb
          repeat first | (with_reducible refine oj ?_; refine AOps.auto tabOk rfl ?_) | (with_reducible first | refine o1 ?_ | refine o2 ?_ | refine o3 ?_ | refine o4 ?_ | refine o5 ?_ | refine o6 ?_ | refine o7 ?_ | refine o8 ?_ | refine o9 ?_ | refine oa ?_ | refine ob ?_ | refine oc ?_ | refine od ?_ | refine oe ?_ | refine og ?_ | refine oh ?_ | refine oi ?_) | (with_reducible refine cExitMiss ?_ ?_; rfl) | (with_reducible refine ok ?_; first | refine ACode.condT rfl ?_ | refine ACode.condF rfl ?_)
          have hst : (St.set ⟨0, [], ouU x⟩ (.o 1) (.map cu' (encI eN lu'))).ou = ouU { x with cu := cu', lu := lu' } := ouU_set1 x cu' lu'
          exact cInv ⟨{ x with cu := cu', lu := lu' }, id, ⟨BIs.putF hu2 hu', ⟨fd, hd, hd2⟩, by simp only [visitU, if_neg hlt]; exact ⟨fm, hm, hm2⟩⟩, LessR.of rfl (by (repeat' first | exact FrSub.nil | refine FrSub.cons rfl (.ofEq rfl) ?_ | refine FrSub.consP rfl (.ofEq rfl) (by simp) ?_)) (by simp) .nil rfl hst.symm (hst ▸ ouU_ok _)⟩
      · have hcd : ((Tr.mk o n b ks a).op == 0) = false := by simpa using ho
        rw [if_neg ho]
        repeat' first | (with_reducible refine oj ?_; refine AOps.auto tabOk rfl ?_) | (with_reducible first | refine o1 ?_ | refine o2 ?_ | refine o3 ?_ | refine o4 ?_ | refine o5 ?_ | refine o6 ?_ | refine o7 ?_ | refine o8 ?_ | refine o9 ?_ | refine oa ?_ | refine ob ?_ | refine oc ?_ | refine od ?_ | refine oe ?_ | refine og ?_ | refine oh ?_ | refine oi ?_) | (with_reducible refine cExitMiss ?_ ?_; rfl) | (with_reducible refine ok ?_; first | refine ACode.condT rfl ?_ | refine ACode.condF rfl ?_) | (with_reducible refine oj ?_; first | refine AOps.step1 rfl rfl rfl (AStep.arith rfl rfl rfl (.inl ⟨rfl, rfl⟩) (inRange_i64 (by first | omega | (simp; omega)) (by first | omega | (simp; omega)))) ?_ | refine AOps.step1 rfl rfl rfl (AStep.arith rfl rfl rfl (.inr (.inl ⟨rfl, rfl⟩)) (inRange_i64 (by first | omega | (simp; omega)) (by first | omega | (simp; omega)))) ?_ | refine AOps.step1 rfl rfl rfl (AStep.neBool Tryd.underlying4 rfl rfl rfl) ?_ | refine AOps.step1 rfl rfl rfl (AStep.eqBool Tryd.underlying4 rfl rfl rfl) ?_ | refine AOps.step1 rfl rfl rfl (AStep.max2 (t := 3) (ty := 3) rfl rfl rfl) ?_ | refine AOps.step1 rfl rfl rfl (AStep.min2 (t := 3) (ty := 3) rfl rfl rfl) ?_ | refine AOps.unG rfl rfl rfl ?_) | (with_reducible refine oj ?_; refine AOps.splitS rfl rfl rfl rfl (fun hb => ?_) (fun hb => ?_)) | (with_reducible refine ok ?_; first | refine ACode.condS rfl (fun hb => ?_) (fun hb => ?_) | refine ACode.cond rfl (fun hb => ?_) (fun hb => ?_))
        all_goals first
          | (exfalso; rw [hcd] at hb; cases hb; done)
          | exact cInv ⟨x, id, hC, LessR.of rfl (by (repeat' first | exact FrSub.nil | refine FrSub.cons rfl (.ofEq rfl) ?_ | refine FrSub.consP rfl (.ofEq rfl) (by simp) ?_)) (by simp) .nil rfl rfl hou⟩
    · have hcb0 : CB (M + 1) (if o = 0 then visitU s n deep else s) := by
        split
        · exact hcb.visit n deep
        · exact hcb.mono (by omega)
      generalize hs0 : (if o = 0 then visitU s n deep else s) = s0 at hc hcb0
      clear hC hou
      have hou : OuOk (ouU c) := ouU_ok c
      repeat first | (with_reducible refine oj ?_; refine AOps.auto tabOk rfl ?_) | (with_reducible first | refine o1 ?_ | refine o2 ?_ | refine o3 ?_ | refine o4 ?_ | refine o5 ?_ | refine o6 ?_ | refine o7 ?_ | refine o8 ?_ | refine o9 ?_ | refine oa ?_ | refine ob ?_ | refine oc ?_ | refine od ?_ | refine oe ?_ | refine og ?_ | refine oh ?_ | refine oi ?_) | (with_reducible refine cExitMiss ?_ ?_; rfl) | (with_reducible refine ok ?_; first | refine ACode.condT rfl ?_ | refine ACode.condF rfl ?_)
      refine ACode.loopR hΓ (α := Nat × UM) (fun c => [(52, .one (int c.1)), (51, .one (int (encTrs ks).length)), (50, .one (.sl 1 (encTrs ks))), (2, .one (int deep)), (1, .one (.box (cTr (.mk o n b ks a)))), (0, .one (.ptr (.o 0) 0))])
        (fun c => ⟨0, [], ouU c.2⟩) (fun m c => c.1 ≤ ks.length ∧ CIs (walkUs deep o b a 0 s0 (ks.take c.1)) c.2 ∧ m = ks.length - c.1)
        (a0 := (0, c)) (ρ := id) ⟨by omega, by simpa [walkUs] using hc, rfl⟩ (LessR.of rfl (by (repeat' first | exact FrSub.nil | refine FrSub.cons rfl (.ofEq rfl) ?_ | refine FrSub.consP rfl (.ofEq rfl) (by simp) ?_)) (by simp) .nil rfl rfl hou) fun m' c hi => ?_
      clear hc hou
      obtain ⟨i, x⟩ := c
      obtain ⟨hil, hS, rfl⟩ := hi
      simp only at hil hS
      have hou : OuOk (ouU x) := ouU_ok x
      repeat first | (with_reducible refine oj ?_; refine AOps.auto tabOk rfl ?_) | (with_reducible first | refine o1 ?_ | refine o2 ?_ | refine o3 ?_ | refine o4 ?_ | refine o5 ?_ | refine o6 ?_ | refine o7 ?_ | refine o8 ?_ | refine o9 ?_ | refine oa ?_ | refine ob ?_ | refine oc ?_ | refine od ?_ | refine oe ?_ | refine og ?_ | refine oh ?_ | refine oi ?_) | (with_reducible refine cExitMiss ?_ ?_; rfl) | (with_reducible refine ok ?_; first | refine ACode.condT rfl ?_ | refine ACode.condF rfl ?_)
      refine ACode.cond rfl (fun hb2 => ?_) (fun hb2 => ?_)
      · have hlt : i < ks.length := by simpa using hb2
        obtain ⟨t, ht⟩ := get_of_lt hlt
        have htm := List.mem_of_getElem? ht
        have hbn := Bound_ok hΓ (.mk o n b ks a) (i : Int) (by omega) ha
        have hll := boundN_len (o := o) (k := (i : Int)) hb hab
        have hsn := walkUs_snoc deep o b a t (ks.take i) 0 s0
        rw [← take_get ht] at hsn
        have hmin : (ks.take i).length = i := by simp; omega
        rw [hmin, Nat.zero_add] at hsn
        simp only [Tr.op_mk, Tr.binds_mk, Tr.alts_mk] at hbn
        generalize boundN o b a (i : Int) = l at hbn hll hsn
        have hdk := depth_kid (o := o) (n := n) (b := b) (a := a) htm
        have hdp0 := depth_pos t
        have hrp := repeats_ok (Γ := Γ) (.mk o n b ks a) (i : Int)
        simp only [Tr.op_mk] at hrp
        repeat first | (with_reducible refine oj ?_; refine AOps.auto tabOk rfl ?_) | (with_reducible first | refine o1 ?_ | refine o2 ?_ | refine o3 ?_ | refine o4 ?_ | refine o5 ?_ | refine o6 ?_ | refine o7 ?_ | refine o8 ?_ | refine o9 ?_ | refine oa ?_ | refine ob ?_ | refine oc ?_ | refine od ?_ | refine oe ?_ | refine og ?_ | refine oh ?_ | refine oi ?_) | (with_reducible refine cExitMiss ?_ ?_; rfl) | (with_reducible refine ok ?_; first | refine ACode.condT rfl ?_ | refine ACode.condF rfl ?_)
        refine AOps.step1 rfl rfl rfl (AStep.indexAddr tabOk rfl rfl rfl rfl rfl rfl (.inl rfl) rfl (by omega) (encTrs_get ht)) ?_
        repeat first | (with_reducible refine oj ?_; refine AOps.auto tabOk rfl ?_) | (with_reducible first | refine o1 ?_ | refine o2 ?_ | refine o3 ?_ | refine o4 ?_ | refine o5 ?_ | refine o6 ?_ | refine o7 ?_ | refine o8 ?_ | refine o9 ?_ | refine oa ?_ | refine ob ?_ | refine oc ?_ | refine od ?_ | refine oe ?_ | refine og ?_ | refine oh ?_ | refine oi ?_) | (with_reducible refine cExitMiss ?_ ?_; rfl) | (with_reducible refine ok ?_; first | refine ACode.condT rfl ?_ | refine ACode.condF rfl ?_)
        refine AOps.callC hΓ hrp rfl rfl rfl rfl rfl rfl rfl hou (by simp) ?_
        repeat first | (with_reducible refine oj ?_; refine AOps.auto tabOk rfl ?_) | (with_reducible first | refine o1 ?_ | refine o2 ?_ | refine o3 ?_ | refine o4 ?_ | refine o5 ?_ | refine o6 ?_ | refine o7 ?_ | refine o8 ?_ | refine o9 ?_ | refine oa ?_ | refine ob ?_ | refine oc ?_ | refine od ?_ | refine oe ?_ | refine og ?_ | refine oh ?_ | refine oi ?_) | (with_reducible refine cExitMiss ?_ ?_; rfl) | (with_reducible refine ok ?_; first | refine ACode.condT rfl ?_ | refine ACode.condF rfl ?_)
        refine ACode.cutR hΓ (α := Unit) (fun _ => [(8, .one (int (deepK o i deep))), (7, .one (.box (cTr t))), (6, .one (int i)), (52, .one (int i)), (51, .one (int (encTrs ks).length)), (50, .one (.sl 1 (encTrs ks))), (2, .one (int deep)), (1, .one (.box (cTr (.mk o n b ks a)))), (0, .one (.ptr (.o 0) 0))])
          (fun _ => ⟨0, [], ouU x⟩) (fun _ => True) ?_ fun _ _ => ?_
        · repeat first | (with_reducible refine oj ?_; refine AOps.auto tabOk rfl ?_) | (with_reducible first | refine o1 ?_ | refine o2 ?_ | refine o3 ?_ | refine o4 ?_ | refine o5 ?_ | refine o6 ?_ | refine o7 ?_ | refine o8 ?_ | refine o9 ?_ | refine oa ?_ | refine ob ?_ | refine oc ?_ | refine od ?_ | refine oe ?_ | refine og ?_ | refine oh ?_ | refine oi ?_) | (with_reducible refine cExitMiss ?_ ?_; rfl) | (with_reducible refine ok ?_; first | refine ACode.condT rfl ?_ | refine ACode.condF rfl ?_)
          refine ACode.cond rfl (fun hb3 => ?_) (fun hb3 => ?_)
          · have h3 : rep o i = true := hb3
            repeat' first | (with_reducible refine oj ?_; refine AOps.auto tabOk rfl ?_) | (with_reducible first | refine o1 ?_ | refine o2 ?_ | refine o3 ?_ | refine o4 ?_ | refine o5 ?_ | refine o6 ?_ | refine o7 ?_ | refine o8 ?_ | refine o9 ?_ | refine oa ?_ | refine ob ?_ | refine oc ?_ | refine od ?_ | refine oe ?_ | refine og ?_ | refine oh ?_ | refine oi ?_) | (with_reducible refine cExitMiss ?_ ?_; rfl) | (with_reducible refine ok ?_; first | refine ACode.condT rfl ?_ | refine ACode.condF rfl ?_) | (with_reducible refine oj ?_; first | refine AOps.step1 rfl rfl rfl (AStep.arith rfl rfl rfl (.inl ⟨rfl, rfl⟩) (inRange_i64 (by first | omega | (simp; omega)) (by first | omega | (simp; omega)))) ?_ | refine AOps.step1 rfl rfl rfl (AStep.arith rfl rfl rfl (.inr (.inl ⟨rfl, rfl⟩)) (inRange_i64 (by first | omega | (simp; omega)) (by first | omega | (simp; omega)))) ?_ | refine AOps.step1 rfl rfl rfl (AStep.neBool Tryd.underlying4 rfl rfl rfl) ?_ | refine AOps.step1 rfl rfl rfl (AStep.eqBool Tryd.underlying4 rfl rfl rfl) ?_ | refine AOps.step1 rfl rfl rfl (AStep.max2 (t := 3) (ty := 3) rfl rfl rfl) ?_ | refine AOps.step1 rfl rfl rfl (AStep.min2 (t := 3) (ty := 3) rfl rfl rfl) ?_ | refine AOps.unG rfl rfl rfl ?_)
            exact cInv ⟨(), id, trivial, LessR.of rfl (.cons rfl (.ofEq (by unfold deepK; rw [if_pos h3]; rfl)) (by (repeat' first | exact FrSub.nil | refine FrSub.cons rfl (.ofEq rfl) ?_ | refine FrSub.consP rfl (.ofEq rfl) (by simp) ?_))) (by simp) .nil rfl rfl hou⟩
          · have h3 : ¬ rep o i = true := by simpa using hb3
            repeat' first | (with_reducible refine oj ?_; refine AOps.auto tabOk rfl ?_) | (with_reducible first | refine o1 ?_ | refine o2 ?_ | refine o3 ?_ | refine o4 ?_ | refine o5 ?_ | refine o6 ?_ | refine o7 ?_ | refine o8 ?_ | refine o9 ?_ | refine oa ?_ | refine ob ?_ | refine oc ?_ | refine od ?_ | refine oe ?_ | refine og ?_ | refine oh ?_ | refine oi ?_) | (with_reducible refine cExitMiss ?_ ?_; rfl) | (with_reducible refine ok ?_; first | refine ACode.condT rfl ?_ | refine ACode.condF rfl ?_) | (with_reducible refine oj ?_; first | refine AOps.step1 rfl rfl rfl (AStep.arith rfl rfl rfl (.inl ⟨rfl, rfl⟩) (inRange_i64 (by first | omega | (simp; omega)) (by first | omega | (simp; omega)))) ?_ | refine AOps.step1 rfl rfl rfl (AStep.arith rfl rfl rfl (.inr (.inl ⟨rfl, rfl⟩)) (inRange_i64 (by first | omega | (simp; omega)) (by first | omega | (simp; omega)))) ?_ | refine AOps.step1 rfl rfl rfl (AStep.neBool Tryd.underlying4 rfl rfl rfl) ?_ | refine AOps.step1 rfl rfl rfl (AStep.eqBool Tryd.underlying4 rfl rfl rfl) ?_ | refine AOps.step1 rfl rfl rfl (AStep.max2 (t := 3) (ty := 3) rfl rfl rfl) ?_ | refine AOps.step1 rfl rfl rfl (AStep.min2 (t := 3) (ty := 3) rfl rfl rfl) ?_ | refine AOps.unG rfl rfl rfl ?_)
            exact cInv ⟨(), id, trivial, LessR.of rfl (.cons rfl (.ofEq (by unfold deepK; rw [if_neg h3]; rfl)) (by (repeat' first | exact FrSub.nil | refine FrSub.cons rfl (.ofEq rfl) ?_ | refine FrSub.consP rfl (.ofEq rfl) (by simp) ?_))) (by simp) .nil rfl rfl hou⟩
        have hdk0 : deep ≤ deepK o i deep ∧ deepK o i deep ≤ deep + 1 := by unfold deepK; split <;> omega
        generalize deepK o i deep = dk at hsn hdk0
        repeat first | (with_reducible refine oj ?_; refine AOps.auto tabOk rfl ?_) | (with_reducible first | refine o1 ?_ | refine o2 ?_ | refine o3 ?_ | refine o4 ?_ | refine o5 ?_ | refine o6 ?_ | refine o7 ?_ | refine o8 ?_ | refine o9 ?_ | refine oa ?_ | refine ob ?_ | refine oc ?_ | refine od ?_ | refine oe ?_ | refine og ?_ | refine oh ?_ | refine oi ?_) | (with_reducible refine cExitMiss ?_ ?_; rfl) | (with_reducible refine ok ?_; first | refine ACode.condT rfl ?_ | refine ACode.condF rfl ?_)
        refine AOps.callC hΓ hbn rfl rfl rfl rfl rfl rfl rfl hou (by simp) ?_
        repeat first | (with_reducible refine oj ?_; refine AOps.auto tabOk rfl ?_) | (with_reducible first | refine o1 ?_ | refine o2 ?_ | refine o3 ?_ | refine o4 ?_ | refine o5 ?_ | refine o6 ?_ | refine o7 ?_ | refine o8 ?_ | refine o9 ?_ | refine oa ?_ | refine ob ?_ | refine oc ?_ | refine od ?_ | refine oe ?_ | refine og ?_ | refine oh ?_ | refine oi ?_) | (with_reducible refine cExitMiss ?_ ?_; rfl) | (with_reducible refine ok ?_; first | refine ACode.condT rfl ?_ | refine ACode.condF rfl ?_)
        have hcbi := CB.walks (ks.take i) deep o b a 0 hcb0
        generalize hsi : walkUs deep o b a 0 s0 (ks.take i) = si at hS hsn hcbi
        have hcnt : cntNs (ks.take i) + cntN t ≤ cntNs ks := by
          have h1 := cntNs_app (ks.take (i + 1)) (ks.drop (i + 1))
          rw [List.take_append_drop, take_get ht, cntNs_app] at h1
          simp only [cntNs] at h1
          omega
        refine ACode.loopR hΓ (α := Nat × UM) (fun c => [(67, .one (int c.1)), (66, .one (int (l.map cI).length)), (65, .one (.sl 1 (l.map cI))), (8, .one (int dk)), (7, .one (.box (cTr t))), (52, .one (int i)), (51, .one (int (encTrs ks).length)), (50, .one (.sl 1 (encTrs ks))), (2, .one (int deep)), (1, .one (.box (cTr (.mk o n b ks a)))), (0, .one (.ptr (.o 0) 0))])
          (fun c => ⟨0, [], ouU c.2⟩) (fun m c => c.1 ≤ l.length ∧ CIs (bindU dk si (l.take c.1)) c.2 ∧ m = l.length - c.1) (a0 := (0, x)) (ρ := id) ⟨by omega, by simpa [bindU] using hS, rfl⟩ (LessR.of rfl (by (repeat' first | exact FrSub.nil | refine FrSub.cons rfl (.ofEq rfl) ?_ | refine FrSub.consP rfl (.ofEq rfl) (by simp) ?_)) (by simp) .nil rfl rfl hou) fun m' c hj => ?_
        clear hS hou
        obtain ⟨j, x⟩ := c
        obtain ⟨hjl, hS, rfl⟩ := hj
        simp only at hjl hS
        have hou : OuOk (ouU x) := ouU_ok x
        repeat first | (with_reducible refine oj ?_; refine AOps.auto tabOk rfl ?_) | (with_reducible first | refine o1 ?_ | refine o2 ?_ | refine o3 ?_ | refine o4 ?_ | refine o5 ?_ | refine o6 ?_ | refine o7 ?_ | refine o8 ?_ | refine o9 ?_ | refine oa ?_ | refine ob ?_ | refine oc ?_ | refine od ?_ | refine oe ?_ | refine og ?_ | refine oh ?_ | refine oi ?_) | (with_reducible refine cExitMiss ?_ ?_; rfl) | (with_reducible refine ok ?_; first | refine ACode.condT rfl ?_ | refine ACode.condF rfl ?_)
        refine ACode.cond rfl (fun hb3 => ?_) (fun hb3 => ?_)
        · have hlt2 : j < l.length := by simpa using hb3
          obtain ⟨q, hq⟩ := get_of_lt hlt2
          obtain ⟨hS1, ⟨fd, hd, hd2⟩, hS3⟩ := hS
          repeat first | (with_reducible refine oj ?_; refine AOps.auto tabOk rfl ?_) | (with_reducible first | refine o1 ?_ | refine o2 ?_ | refine o3 ?_ | refine o4 ?_ | refine o5 ?_ | refine o6 ?_ | refine o7 ?_ | refine o8 ?_ | refine o9 ?_ | refine oa ?_ | refine ob ?_ | refine oc ?_ | refine od ?_ | refine oe ?_ | refine og ?_ | refine oh ?_ | refine oi ?_) | (with_reducible refine cExitMiss ?_ ?_; rfl) | (with_reducible refine ok ?_; first | refine ACode.condT rfl ?_ | refine ACode.condF rfl ?_)
          refine AOps.step1 rfl rfl rfl (AStep.indexAddr tabOk rfl rfl rfl rfl rfl rfl (.inl rfl) rfl (by omega) (map_get hq)) ?_
          repeat first | (with_reducible refine oj ?_; refine AOps.auto tabOk rfl ?_) | (with_reducible first | refine o1 ?_ | refine o2 ?_ | refine o3 ?_ | refine o4 ?_ | refine o5 ?_ | refine o6 ?_ | refine o7 ?_ | refine o8 ?_ | refine o9 ?_ | refine oa ?_ | refine ob ?_ | refine oc ?_ | refine od ?_ | refine oe ?_ | refine og ?_ | refine oh ?_ | refine oi ?_) | (with_reducible refine cExitMiss ?_ ?_; rfl) | (with_reducible refine ok ?_; first | refine ACode.condT rfl ?_ | refine ACode.condF rfl ?_)
          refine AOps.putI eN (v := dk) rfl rfl rfl Tryd.underlying79 Tryd.underlying3 rfl rfl rfl rfl hd fun cd' ld' hd' => ?_
          repeat' first | (with_reducible refine oj ?_; refine AOps.auto tabOk rfl ?_) | (with_reducible first | refine o1 ?_ | refine o2 ?_ | refine o3 ?_ | refine o4 ?_ | refine o5 ?_ | refine o6 ?_ | refine o7 ?_ | refine o8 ?_ | refine o9 ?_ | refine oa ?_ | refine ob ?_ | refine oc ?_ | refine od ?_ | refine oe ?_ | refine og ?_ | refine oh ?_ | refine oi ?_) | (with_reducible refine cExitMiss ?_ ?_; rfl) | (with_reducible refine ok ?_; first | refine ACode.condT rfl ?_ | refine ACode.condF rfl ?_) | (with_reducible refine oj ?_; first | refine AOps.step1 rfl rfl rfl (AStep.arith rfl rfl rfl (.inl ⟨rfl, rfl⟩) (inRange_i64 (by first | omega | (simp; omega)) (by first | omega | (simp; omega)))) ?_ | refine AOps.step1 rfl rfl rfl (AStep.arith rfl rfl rfl (.inr (.inl ⟨rfl, rfl⟩)) (inRange_i64 (by first | omega | (simp; omega)) (by first | omega | (simp; omega)))) ?_ | refine AOps.step1 rfl rfl rfl (AStep.neBool Tryd.underlying4 rfl rfl rfl) ?_ | refine AOps.step1 rfl rfl rfl (AStep.eqBool Tryd.underlying4 rfl rfl rfl) ?_ | refine AOps.step1 rfl rfl rfl (AStep.max2 (t := 3) (ty := 3) rfl rfl rfl) ?_ | refine AOps.step1 rfl rfl rfl (AStep.min2 (t := 3) (ty := 3) rfl rfl rfl) ?_ | refine AOps.unG rfl rfl rfl ?_)
          have hst : (St.set ⟨0, [], ouU x⟩ (.o 2) (.map cd' (encI eN ld'))).ou = ouU { x with cd := cd', ld := ld' } := ouU_set2 x cd' ld'
          refine cInv ⟨l.length - (j + 1), (j + 1, { x with cd := cd', ld := ld' }), id, by omega, ⟨by omega, ⟨hS1, ?_, hS3⟩, rfl⟩, LessR.of rfl (by (repeat' first | exact FrSub.nil | refine FrSub.cons rfl (.ofEq rfl) ?_ | refine FrSub.consP rfl (.ofEq rfl) (by simp) ?_)) (by simp) .nil rfl hst.symm (hst ▸ ouU_ok _)⟩
          have := BIs.putF hd2 hd'
          rw [take_get hq]
          simpa [bindU, List.foldl_append] using this
        have hlt2 : j = l.length := by simp at hb3; omega
        subst hlt2
        rw [List.take_length] at hS
        have hcall := ih t htm (bindU dk si l) dk (M + 1 + cntNs (ks.take i)) x hcbi (by omega) (by push_cast; omega) (by omega) hS
        repeat first | (with_reducible refine oj ?_; refine AOps.auto tabOk rfl ?_) | (with_reducible first | refine o1 ?_ | refine o2 ?_ | refine o3 ?_ | refine o4 ?_ | refine o5 ?_ | refine o6 ?_ | refine o7 ?_ | refine o8 ?_ | refine o9 ?_ | refine oa ?_ | refine ob ?_ | refine oc ?_ | refine od ?_ | refine oe ?_ | refine og ?_ | refine oh ?_ | refine oi ?_) | (with_reducible refine cExitMiss ?_ ?_; rfl) | (with_reducible refine ok ?_; first | refine ACode.condT rfl ?_ | refine ACode.condF rfl ?_)
        refine AOps.call1 hΓ rfl rfl rfl rfl rfl rfl rfl (by simp) hou hcall fun r ou' hq hids hou' => ?_
        obtain ⟨rfl, x', rfl, hS2⟩ := hq
        rw [← hsn] at hS2
        repeat' first | (with_reducible refine oj ?_; refine AOps.auto tabOk rfl ?_) | (with_reducible first | refine o1 ?_ | refine o2 ?_ | refine o3 ?_ | refine o4 ?_ | refine o5 ?_ | refine o6 ?_ | refine o7 ?_ | refine o8 ?_ | refine o9 ?_ | refine oa ?_ | refine ob ?_ | refine oc ?_ | refine od ?_ | refine oe ?_ | refine og ?_ | refine oh ?_ | refine oi ?_) | (with_reducible refine cExitMiss ?_ ?_; rfl) | (with_reducible refine ok ?_; first | refine ACode.condT rfl ?_ | refine ACode.condF rfl ?_) | (with_reducible refine oj ?_; first | refine AOps.step1 rfl rfl rfl (AStep.arith rfl rfl rfl (.inl ⟨rfl, rfl⟩) (inRange_i64 (by first | omega | (simp; omega)) (by first | omega | (simp; omega)))) ?_ | refine AOps.step1 rfl rfl rfl (AStep.arith rfl rfl rfl (.inr (.inl ⟨rfl, rfl⟩)) (inRange_i64 (by first | omega | (simp; omega)) (by first | omega | (simp; omega)))) ?_ | refine AOps.step1 rfl rfl rfl (AStep.neBool Tryd.underlying4 rfl rfl rfl) ?_ | refine AOps.step1 rfl rfl rfl (AStep.eqBool Tryd.underlying4 rfl rfl rfl) ?_ | refine AOps.step1 rfl rfl rfl (AStep.max2 (t := 3) (ty := 3) rfl rfl rfl) ?_ | refine AOps.step1 rfl rfl rfl (AStep.min2 (t := 3) (ty := 3) rfl rfl rfl) ?_ | refine AOps.unG rfl rfl rfl ?_)
        exact cInv ⟨ks.length - (i + 1), (i + 1, x'), id, by omega, ⟨by omega, hS2, rfl⟩, LessR.of rfl (by (repeat' first | exact FrSub.nil | refine FrSub.cons rfl (.ofEq rfl) ?_ | refine FrSub.consP rfl (.ofEq rfl) (by simp) ?_)) (by simp) .nil rfl rfl hou'⟩
      · have hlt : i = ks.length := by simp at hb2; omega
        subst hlt
        rw [List.take_length] at hS
        repeat first | (with_reducible refine oj ?_; refine AOps.auto tabOk rfl ?_) | (with_reducible first | refine o1 ?_ | refine o2 ?_ | refine o3 ?_ | refine o4 ?_ | refine o5 ?_ | refine o6 ?_ | refine o7 ?_ | refine o8 ?_ | refine o9 ?_ | refine oa ?_ | refine ob ?_ | refine oc ?_ | refine od ?_ | refine oe ?_ | refine og ?_ | refine oh ?_ | refine oi ?_) | (with_reducible refine cExitMiss ?_ ?_; rfl) | (with_reducible refine ok ?_; first | refine ACode.condT rfl ?_ | refine ACode.condF rfl ?_)
        exact AFn.fin' rfl (WkF.refl _) (by simp) hou ⟨rfl, x, rfl, by simp only [walkU, hs0]; exact hS⟩
end Go.Proofs.YtnonkoeknpmcjaaDoor
/- What the library's sort by a comparison does to the usages of identifiers: the kit's contracts, laid. No condition. -/
namespace Go.Proofs
open Go.Shelf
def Tryd.laysSlC25_f52_ren : Go.Shelf.Ren := ⟨fun | 5 => 52 | 7 => 87 | n => n, fun | 22 => 3 | 3 => 3 | 4 => 4 | n => n, fun | n => n⟩
theorem Tryd.laysSlC25_f52 : Go.Proofs.SlLaysC2.n5 Tryd.prog Tryd.laysSlC25_f52_ren := {
  mixed := by kernel_rfl
  f5 := ⟨Tryd.f52.name, by decide, Tryd.func52.trans (congrArg some (by kernel_rfl))⟩
  f7 := ⟨Tryd.f87.name, by decide, Tryd.func87.trans (congrArg some (by kernel_rfl))⟩
  t3 := Tryd.underlying3
  a3 := Tryd.isAgg3
  z3 := Tryd.sizeOf3
  v3 := Tryd.zeroValue3
  t4 := Tryd.underlying4
  a4 := Tryd.isAgg4
  z4 := Tryd.sizeOf4
  v4 := Tryd.zeroValue4
  t22 := Tryd.underlying3
  a22 := Tryd.isAgg3
  z22 := Tryd.sizeOf3
  v22 := Tryd.zeroValue3 }
open Go.Lib in
theorem Tryd.cmp_Compare_int (x y : Int) (w : World) :
    Calls Tryd.prog 52 #[.int .i64 x, .int .i64 y] w fun e w' => e = .returned (.int .i64 (Lib.compareInt x y)) ∧ w' = w := AnyG.cmp_Compare_int Tryd.laysSlC25_f52 x y w
def Tryd.laysSlF06_f50_ren : Go.Shelf.Ren := ⟨fun | 6 => 50 | 15 => 42 | 14 => 86 | 28 => 77 | 29 => 78 | 20 => 97 | 21 => 98 | 22 => 99 | 23 => 100 | 24 => 101 | 25 => 102 | 26 => 103 | 27 => 104 | 46 => 108 | 47 => 92 | 48 => 93 | 49 => 109 | 50 => 110 | 57 => 113 | n => n, fun | 22 => 46 | 24 => 50 | 25 => 86 | 3 => 3 | 39 => 71 | 0 => 0 | 53 => 113 | 55 => 115 | 4 => 4 | 46 => 105 | 45 => 104 | 50 => 110 | 5 => 5 | 9 => 9 | 66 => 125 | 70 => 129 | 76 => 138 | 77 => 139 | n => n, fun | n => n⟩
theorem Tryd.laysSlF06_f50 : Go.Proofs.SlLaysF0.n6 Tryd.prog Tryd.laysSlF06_f50_ren := {
  mixed := by kernel_rfl
  f6 := ⟨Tryd.f50.name, by decide, Tryd.func50.trans (congrArg some (by kernel_rfl))⟩
  f14 := ⟨Tryd.f86.name, by decide, Tryd.func86.trans (congrArg some (by kernel_rfl))⟩
  f15 := Tryd.func42.trans (congrArg some (by kernel_rfl))
  f20 := ⟨Tryd.f97.name, by decide, Tryd.func97.trans (congrArg some (by kernel_rfl))⟩
  f21 := ⟨Tryd.f98.name, by decide, Tryd.func98.trans (congrArg some (by kernel_rfl))⟩
  f22 := ⟨Tryd.f99.name, by decide, Tryd.func99.trans (congrArg some (by kernel_rfl))⟩
  f23 := ⟨Tryd.f100.name, by decide, Tryd.func100.trans (congrArg some (by kernel_rfl))⟩
  f24 := ⟨Tryd.f101.name, by decide, Tryd.func101.trans (congrArg some (by kernel_rfl))⟩
  f25 := ⟨Tryd.f102.name, by decide, Tryd.func102.trans (congrArg some (by kernel_rfl))⟩
  f26 := ⟨Tryd.f103.name, by decide, Tryd.func103.trans (congrArg some (by kernel_rfl))⟩
  f27 := ⟨Tryd.f104.name, by decide, Tryd.func104.trans (congrArg some (by kernel_rfl))⟩
  f28 := Tryd.func77.trans (congrArg some (by kernel_rfl))
  f29 := Tryd.func78.trans (congrArg some (by kernel_rfl))
  f46 := ⟨Tryd.f108.name, by decide, Tryd.func108.trans (congrArg some (by kernel_rfl))⟩
  f47 := Tryd.func92.trans (congrArg some (by kernel_rfl))
  f48 := Tryd.func93.trans (congrArg some (by kernel_rfl))
  f49 := ⟨Tryd.f109.name, by decide, Tryd.func109.trans (congrArg some (by kernel_rfl))⟩
  f50 := ⟨Tryd.f110.name, by decide, Tryd.func110.trans (congrArg some (by kernel_rfl))⟩
  f57 := ⟨Tryd.f113.name, by decide, Tryd.func113.trans (congrArg some (by kernel_rfl))⟩
  t0 := Tryd.underlying0
  a0 := Tryd.isAgg0
  z0 := Tryd.sizeOf0
  v0 := Tryd.zeroValue0
  t3 := Tryd.underlying3
  a3 := Tryd.isAgg3
  z3 := Tryd.sizeOf3
  v3 := Tryd.zeroValue3
  t4 := Tryd.underlying4
  a4 := Tryd.isAgg4
  z4 := Tryd.sizeOf4
  v4 := Tryd.zeroValue4
  t5 := Tryd.underlying5
  a5 := Tryd.isAgg5
  z5 := Tryd.sizeOf5
  v5 := Tryd.zeroValue5
  t9 := Tryd.underlying9
  a9 := Tryd.isAgg9
  z9 := Tryd.sizeOf9
  v9 := Tryd.zeroValue9
  t22 := Tryd.underlying46
  a22 := Tryd.isAgg46
  z22 := Tryd.sizeOf46
  v22 := Tryd.zeroValue46
  t25 := Tryd.underlying86
  a25 := Tryd.isAgg86
  z25 := Tryd.sizeOf86
  v25 := Tryd.zeroValue86
  t39 := Tryd.underlying71
  a39 := Tryd.isAgg71
  z39 := Tryd.sizeOf71
  v39 := Tryd.zeroValue71
  t45 := Tryd.underlying104
  a45 := Tryd.isAgg104
  z45 := Tryd.sizeOf104
  v45 := Tryd.zeroValue104
  t46 := Tryd.underlying105
  a46 := Tryd.isAgg105
  z46 := Tryd.sizeOf105
  v46 := Tryd.zeroValue105
  t50 := Tryd.underlying110
  a50 := Tryd.isAgg110
  z50 := Tryd.sizeOf110
  v50 := Tryd.zeroValue110
  t53 := Tryd.underlying113
  a53 := Tryd.isAgg113
  z53 := Tryd.sizeOf113
  v53 := Tryd.zeroValue113
  t55 := Tryd.underlying115
  a55 := Tryd.isAgg115
  z55 := Tryd.sizeOf115
  v55 := Tryd.zeroValue115
  t66 := Tryd.underlying125
  a66 := Tryd.isAgg125
  z66 := Tryd.sizeOf125
  v66 := Tryd.zeroValue125
  t70 := Tryd.underlying129
  a70 := Tryd.isAgg129
  z70 := Tryd.sizeOf129
  v70 := Tryd.zeroValue129
  t76 := Tryd.underlying138
  a76 := Tryd.isAgg138
  z76 := Tryd.sizeOf138
  v76 := Tryd.zeroValue138
  t77 := Tryd.underlying139
  a77 := Tryd.isAgg139
  z77 := Tryd.sizeOf139
  v77 := Tryd.zeroValue139 }
open Go.Lib in
theorem Tryd.slices_SortFunc_none (p : Option Addr) (cap : Nat) (fv : Value) (w : World) :
    Calls Tryd.prog 50 #[.slice p 0 cap, fv] w fun e w' => e = .returned (.tuple #[]) ∧ w' = w := AnyF.slices_SortFunc_none Tryd.laysSlF06_f50 p cap fv w
open Go.Shelf Go.RowKit Go.Lib Go.Sort
/-- A usage's two cells. -/
def Tryd.encUs (x : Int × Int) : List Value := [.int .i64 x.1, .int .i64 x.2]
set_option maxHeartbeats 1000000 in
theorem Tryd.closure51 (x y : Int × Int) (W : World) : Calls Tryd.prog 51 #[.agg #[.int .i64 x.1, .int .i64 x.2], .agg #[.int .i64 y.1, .int .i64 y.2]] W fun e w' => e = .returned (.int .i64 (Lib.compareInt x.1 y.1)) ∧ ∃ q os', w' = grow (W.drewN q) os' := by
  have hcon := fun W' => Tryd.cmp_Compare_int x.1 y.1 W'
  generalize Lib.compareInt x.1 y.1 = r at hcon ⊢
  go_enter Tryd.func51, Tryd.ntmps51
  go_wp2_with (go_at_call 52; refine (hcon _).mono ?_; rintro e w' ⟨rfl, rfl⟩)
  go_ret
  exact ⟨rfl, 0, _, by rw [alloc_eq_grow, alloc_eq_grow, grow_grow]; rfl⟩
theorem Tryd.ltUs (x y : Int × Int) : ltOf (fun x y : Int × Int => Lib.compareInt x.1 y.1) x y = decide (x.1 < y.1) := by
  unfold ltOf Lib.compareInt
  by_cases h : x.1 < y.1
  · simp [h]
  · by_cases h2 : x.1 > y.1
    · simp [h, h2]
    · simp [h, h2]
theorem Tryd.swoUs : SWO (ltOf fun x y : Int × Int => Lib.compareInt x.1 y.1) :=
  { irrefl := fun x => by rw [Tryd.ltUs]; simp
    trans := fun x y z h1 h2 => by rw [Tryd.ltUs] at *; simp at *; omega
    ntrans := fun x y z h1 h2 => by rw [Tryd.ltUs] at *; simp at *; omega }
theorem Tryd.slices_SortFunc (blk cap : Nat) (d : Array (Int × Int)) (w : World) (hH : HoldsK Tryd.encUs 2 w blk 0 d) (hblk : blk < w.heap.size) (hsz : d.size < 4611686018427387904) :
    Calls Tryd.prog 50 #[.slice (some ⟨blk, 0, none⟩) d.size cap, .func (.func 51) #[] #[]] w fun e w' => e = .returned (.tuple #[]) ∧ ∃ (d' : Array (Int × Int)) (n : Nat) (os : Array Obj), PermIn 0 d.size d d' ∧ w' = sortWorldK Tryd.encUs 2 w blk 0 n d' os :=
  (AnyQ.slices_SortFunc Tryd.laysSlF06_f50 2 Tryd.isAgg50 Tryd.sizeOf50 Tryd.encUs (fun _ => rfl) (fun x v hv => by simp [Tryd.encUs] at hv; rcases hv with rfl | rfl <;> rfl) (fun x y => Lib.compareInt x.1 y.1) Tryd.swoUs 51 #[] blk 0 cap d w
    (enters_of Tryd.func51 (by kernel_rfl) rfl) (fun _ _ _ _ x y => Tryd.closure51 x y _) hH hblk hsz).mono fun _ _ ⟨he, d', n, os, hp, _, hw⟩ => ⟨he, d', n, os, hp, hw⟩
end Go.Proofs
