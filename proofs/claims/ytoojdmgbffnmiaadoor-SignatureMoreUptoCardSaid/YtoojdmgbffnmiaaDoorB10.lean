/- general$1, and the search with it: walked. -/
import Derived.Test.YtoojdmgbffnmiaaDoorB9
import Derived.Test.YtoojdmgbffnmiaaDoorRows
import Derived.Lib.LaidTab
namespace Go.Proofs.YtoojdmgbffnmiaaDoor
open Go Go.Abs
set_option maxRecDepth 10000
set_option linter.unusedVariables false
set_option linter.unusedSimpArgs false
variable {Γ : List (Nat × List AC)}
@[simp] theorem mem_encM_ids (p : Abs.Id → Prop) (l : List (Nat × Int × Ty)) : (∀ (a : Nat) (a_1 : Value) (b : FV), (a, a_1, b) ∈ encM l → FV.ids p b) ↔ True := by
  refine ⟨fun _ => trivial, fun _ a b c h => ?_⟩
  obtain ⟨x, _, he⟩ := List.mem_map.1 h
  simp only [Prod.mk.injEq] at he
  obtain ⟨_, _, rfl⟩ := he
  simp
@[simp] theorem sub_cTy (θ : Abs.Id → Abs.Id) (t : Ty) : subL θ (cTy t) = cTy t := subL_pure θ _ (ids_cTy _ t)
@[simp] theorem sub_encM (θ : Abs.Id → Abs.Id) (l : List (Nat × Int × Ty)) : (encM l).map (fun x => (x.1, x.2.1, x.2.2.sub θ)) = encM l := by
  simp [encM, FV.sub]
@[simp] theorem sub_map (θ : Abs.Id → Abs.Id) (ck : Nat) (l : List (Nat × Int × Ty)) : AObj.sub θ (.map ck (encM l)) = .map ck (encM l) := by
  simp only [AObj.sub, sub_encM]
@[simp] theorem ren_encM (ρ : Nat → Nat) (l : List (Nat × Int × Ty)) : (encM l).map (fun x => (x.1, x.2.1, x.2.2.ren ρ)) = encM l := by
  have : ∀ t : Ty, renL ρ (cTy t) = cTy t := fun t => renL_pure ρ _ (ids_cTy _ t)
  simp [encM, FV.ren, this]
@[simp] theorem ren_map (ρ : Nat → Nat) (ck : Nat) (l : List (Nat × Int × Ty)) : AObj.ren ρ (.map ck (encM l)) = .map ck (encM l) := by
  simp only [AObj.ren, ren_encM]
def ouG (ck : Nat) (l : List (Nat × Int × Ty)) : Outer := ouOf [.cells [.ptr (.o 1) 0], .cells [.mp (.o 2)], .map ck (encM l)]
theorem ouG_ok (ck : Nat) (l : List (Nat × Int × Ty)) : OuOk (ouG ck l) := by
  intro k o h
  match k, h with
  | 0, h => simp [ouG, ouOf] at h; subst h; simp
  | 1, h => simp [ouG, ouOf] at h; subst h; simp
  | 2, h =>
    simp [ouG, ouOf] at h; subst h
    intro x hx
    simp [encM] at hx
    obtain ⟨a, b, c, _, rfl⟩ := hx
    simp
  | k + 3, h => simp [ouG, ouOf] at h
def ofL (l : List (Nat × Int × Ty)) : Fnd := fun k => (l.find? (fun x => x.2.1 == k)).map (·.2.2)
theorem MapIs.ofL {f : Fnd} {ck : Nat} {l : List (Nat × Int × Ty)} (h : MapIs f ck l) : YtoojdmgbffnmiaaDoor.ofL l = f := funext h.look
theorem find_mem {l : List (Nat × Int × Ty)} (hnk : (l.map (·.2.1)).Nodup) {x : Nat × Int × Ty} (hx : x ∈ l) : l.find? (fun y => y.2.1 == x.2.1) = some x := by
  induction l with
  | nil => cases hx
  | cons y l ih =>
    simp only [List.map_cons, List.nodup_cons] at hnk
    rcases List.mem_cons.1 hx with rfl | hx
    · simp
    · have hne : y.2.1 ≠ x.2.1 := fun e => hnk.1 (e ▸ List.mem_map.2 ⟨x, hx, rfl⟩)
      rw [List.find?_cons, beq_eq_false_iff_ne.2 hne]
      exact ih hnk.2 hx
def seenL (l : List (Nat × Int × Ty)) (seen : List Nat) : List (Nat × Int × Ty) := l.filter fun x => decide (x.1 ∈ seen)
theorem born_inj {l : List (Nat × Int × Ty)} (hnb : (l.map (·.1)).Nodup) {x y : Nat × Int × Ty} (hx : x ∈ l) (hy : y ∈ l) (e : x.1 = y.1) : x = y := by
  induction l with
  | nil => cases hx
  | cons z l ih =>
    simp only [List.map_cons, List.nodup_cons] at hnb
    rcases List.mem_cons.1 hx with h1 | h1 <;> rcases List.mem_cons.1 hy with h2 | h2
    · rw [h1, h2]
    · exact (hnb.1 (List.mem_map.2 ⟨y, h2, by rw [← e, h1]⟩)).elim
    · exact (hnb.1 (List.mem_map.2 ⟨x, h1, by rw [e, h2]⟩)).elim
    · exact ih hnb.2 h1 h2
theorem key_inj {l : List (Nat × Int × Ty)} (hnk : (l.map (·.2.1)).Nodup) {x y : Nat × Int × Ty} (hx : x ∈ l) (hy : y ∈ l) (e : x.2.1 = y.2.1) : x = y := by
  have h1 := find_mem hnk hx
  have h2 := find_mem hnk hy
  rw [e, h2] at h1
  exact (Option.some.inj h1).symm
theorem ofL_none {l : List (Nat × Int × Ty)} {k : Int} (h : ∀ x ∈ l, x.2.1 ≠ k) : ofL l k = none := by
  unfold ofL
  rw [List.find?_eq_none.2 fun x hx => by simpa using h x hx]; rfl
theorem ofL_mem {l : List (Nat × Int × Ty)} (hnk : (l.map (·.2.1)).Nodup) {x : Nat × Int × Ty} (hx : x ∈ l) : ofL l x.2.1 = some x.2.2 := by
  unfold ofL
  rw [find_mem hnk hx]; rfl
theorem nodup_sub {l : List (Nat × Int × Ty)} (hnk : (l.map (·.2.1)).Nodup) (seen : List Nat) : ((seenL l seen).map (·.2.1)).Nodup := by
  exact List.Nodup.sublist (List.Sublist.map _ List.filter_sublist) hnk
theorem seen_step {l : List (Nat × Int × Ty)} (hnb : (l.map (·.1)).Nodup) (hnk : (l.map (·.2.1)).Nodup) {seen : List Nat} {b : Nat} {k : Int} {t : Ty} (hx : (b, k, t) ∈ l) (hb : b ∉ seen) :
    ofL (seenL l seen) k = none ∧ put (ofL (seenL l seen)) k t = ofL (seenL l (seen ++ [b])) := by
  have h1 : ∀ x ∈ seenL l seen, x.2.1 ≠ k := fun x hx2 e => by
    obtain ⟨h2, h3⟩ := List.mem_filter.1 hx2
    have := key_inj hnk h2 hx e
    subst this
    exact hb (by simpa using h3)
  refine ⟨ofL_none h1, funext fun i => ?_⟩
  unfold put
  by_cases e : i = k
  · subst e
    rw [if_pos rfl]
    have hm : (b, i, t) ∈ seenL l (seen ++ [b]) := List.mem_filter.2 ⟨hx, by simp⟩
    exact (ofL_mem (nodup_sub hnk _) hm).symm
  · rw [if_neg e]
    by_cases hex : ∃ x ∈ seenL l seen, x.2.1 = i
    · obtain ⟨x, hx2, rfl⟩ := hex
      rw [ofL_mem (nodup_sub hnk _) hx2]
      have hm : x ∈ seenL l (seen ++ [b]) := by
        obtain ⟨h2, h3⟩ := List.mem_filter.1 hx2
        exact List.mem_filter.2 ⟨h2, by simp at h3 ⊢; exact .inl h3⟩
      exact (ofL_mem (nodup_sub hnk _) hm).symm
    · have h2 : ∀ x ∈ seenL l (seen ++ [b]), x.2.1 ≠ i := fun x hx2 e2 => by
        obtain ⟨h3, h4⟩ := List.mem_filter.1 hx2
        simp at h4
        rcases h4 with h4 | h4
        · exact hex ⟨x, List.mem_filter.2 ⟨h3, by simpa using h4⟩, e2⟩
        · have := born_inj hnb h3 hx h4
          subst this
          exact e e2.symm
      rw [ofL_none h2, ofL_none fun x hx2 e2 => hex ⟨x, hx2, e2⟩]
def leftN (l : List (Nat × Int × Ty)) (seen : List Nat) : Nat := (l.filter fun x => decide (x.1 ∉ seen)).length
theorem left_step {l : List (Nat × Int × Ty)} {seen : List Nat} {x : Nat × Int × Ty} (hx : x ∈ l) (hb : x.1 ∉ seen) : leftN l (seen ++ [x.1]) < leftN l seen := by
  unfold leftN
  induction l with
  | nil => cases hx
  | cons y l ih =>
    have hmono : ∀ l : List (Nat × Int × Ty), (l.filter fun z => decide (z.1 ∉ seen ++ [x.1])).length ≤ (l.filter fun z => decide (z.1 ∉ seen)).length := fun l => by
      induction l with
      | nil => simp
      | cons z l ih =>
        simp only [List.filter_cons]
        split <;> split <;> simp_all <;> omega
    simp only [List.filter_cons]
    rcases List.mem_cons.1 hx with rfl | hx
    · have := hmono l
      rw [if_neg (by simp), if_pos (by simpa using hb)]
      simp only [List.length_cons]; omega
    · have := ih hx
      split <;> split <;> simp_all <;> omega
/-- One requirement of a scheme is met by one of another. -/
def prdOk (f : Fnd) (p q : Prd) : Bool := q.cls.toList == p.cls.toList && (inst f p.ty q.ty).1
theorem gen1_ok (hΓ : ∀ g cs, (g, cs) ∈ Γ → idsL isO cs) (hΓF : ∀ g cs, (g, cs) ∈ Γ → idsL (fun _ => False) cs) (p q : Prd) (hp : smallTy p.ty) (hq : smallTy q.ty) (f : Fnd) (ck : Nat) (l : List (Nat × Int × Ty)) (hf : smallF f) (hm : MapIs f ck l) :
    AFn Tryd.prog Γ 60 [.agg (cPrd q), .one (.ptr (.o 0) 0), .one (.box (cPrd p))] (ouG ck l) (fun r ou' => r = .one (.lit (.bool (prdOk f p q))) ∧ ou' = ouG ck l) := by
  refine AFn.walk 40 tabOk Tryd.func60 rfl (by kernel_rfl) rfl rfl fun hou => ?_
  repeat first | (with_reducible refine oj ?_; refine AOps.auto tabOk rfl ?_) | (with_reducible first | refine o1 ?_ | refine o2 ?_ | refine o3 ?_ | refine o4 ?_ | refine o5 ?_ | refine o6 ?_ | refine o7 ?_ | refine o8 ?_ | refine o9 ?_ | refine oa ?_ | refine ob ?_ | refine oc ?_ | refine od ?_ | refine oe ?_ | refine og ?_ | refine oh ?_ | refine oi ?_) | (with_reducible refine cExitMiss ?_ ?_; rfl) | (with_reducible refine ok ?_; first | refine ACode.condT rfl ?_ | refine ACode.condF rfl ?_)
  refine AOps.step1 rfl rfl rfl (AStep.makeMap rfl) ?_
  repeat first | (with_reducible refine oj ?_; refine AOps.auto tabOk rfl ?_) | (with_reducible first | refine o1 ?_ | refine o2 ?_ | refine o3 ?_ | refine o4 ?_ | refine o5 ?_ | refine o6 ?_ | refine o7 ?_ | refine o8 ?_ | refine o9 ?_ | refine oa ?_ | refine ob ?_ | refine oc ?_ | refine od ?_ | refine oe ?_ | refine og ?_ | refine oh ?_ | refine oi ?_) | (with_reducible refine cExitMiss ?_ ?_; rfl) | (with_reducible refine ok ?_; first | refine ACode.condT rfl ?_ | refine ACode.condF rfl ?_)
  refine AOps.step1 rfl rfl rfl (AStep.rangeMap rfl Tryd.underlying104 rfl rfl) ?_
  repeat first | (with_reducible refine oj ?_; refine AOps.auto tabOk rfl ?_) | (with_reducible first | refine o1 ?_ | refine o2 ?_ | refine o3 ?_ | refine o4 ?_ | refine o5 ?_ | refine o6 ?_ | refine o7 ?_ | refine o8 ?_ | refine o9 ?_ | refine oa ?_ | refine ob ?_ | refine oc ?_ | refine od ?_ | refine oe ?_ | refine og ?_ | refine oh ?_ | refine oi ?_) | (with_reducible refine cExitMiss ?_ ?_; rfl) | (with_reducible refine ok ?_; first | refine ACode.condT rfl ?_ | refine ACode.condF rfl ?_)
  refine ACode.loopR hΓ (α := List Nat × Nat × List (Nat × Int × Ty)) (fun a => [(15, .one (.ptr (.l 3) 0)), (5, .one (.ptr (.l 2) 0)), (3, .one (.ptr (.l 0) 0)), (2, .one (.box (cPrd p)))])
    (fun a => ⟨4, [(3, .iter (.o 2) ck a.1 ck), (2, .cells [.mp (.l 1)]), (1, .map a.2.1 (encM a.2.2)), (0, .cells (cPrd q))], ouG ck l⟩) (fun m a => MapIs (ofL (seenL l a.1)) a.2.1 a.2.2 ∧ m = leftN l a.1) (a0 := ([], 0, [])) (ρ := id) ⟨?_, rfl⟩ (LessR.of rfl (by (repeat' first | exact FrSub.nil | refine FrSub.cons rfl (.ofEq rfl) ?_ | refine FrSub.consP rfl (.ofEq rfl) (by simp) ?_)) (by simp) (by repeat' first | exact LoSub.nil | refine LoSub.cons rfl ?_ rfl (by simp) ?_ | rfl | (refine (AObj.ren_pure _ _ ?_).symm; simp; done) | (simp [AObj.ren, renL, AC.ren, cTy]; done) | (simp [AObj.ren, renL, AC.ren, cTy]; rfl)) rfl rfl hou) fun m a hj => ?_
  · have h0 : seenL l [] = [] := by simp [seenL]
    show MapIs (ofL (seenL l [])) 0 []
    rw [h0]
    exact ⟨by simp, by simp, fun k => rfl, by simp⟩
  obtain ⟨seen, ck', l'⟩ := a
  obtain ⟨hm', rfl⟩ := hj
  simp only at hm'
  repeat first | (with_reducible refine oj ?_; refine AOps.auto tabOk rfl ?_) | (with_reducible first | refine o1 ?_ | refine o2 ?_ | refine o3 ?_ | refine o4 ?_ | refine o5 ?_ | refine o6 ?_ | refine o7 ?_ | refine o8 ?_ | refine o9 ?_ | refine oa ?_ | refine ob ?_ | refine oc ?_ | refine od ?_ | refine oe ?_ | refine og ?_ | refine oh ?_ | refine oi ?_) | (with_reducible refine cExitMiss ?_ ?_; rfl) | (with_reducible refine ok ?_; first | refine ACode.condT rfl ?_ | refine ACode.condF rfl ?_)
  refine AOps.nextMap rfl rfl rfl rfl rfl rfl rfl (fun x hx => ?_) (Nat.le_refl _) (fun x hx => ?_) (fun hend => ?_) (fun b u v hmem hnew => ?_)
  · simp [encM] at hx
    obtain ⟨b, k, t, hx, rfl⟩ := hx
    exact hm.born _ hx
  · simp [encM] at hx
    obtain ⟨b, k, t, hx, rfl⟩ := hx
    rfl
  · have hall : seenL l seen = l := List.filter_eq_self.2 fun x hx => by
      have := hend (x.1, .int .i64 x.2.1, .agg (cTy x.2.2)) (List.mem_map.2 ⟨x, hx, rfl⟩)
      simpa using this
    rw [hall, hm.ofL] at hm'
    repeat first | (with_reducible refine oj ?_; refine AOps.auto tabOk rfl ?_) | (with_reducible first | refine o1 ?_ | refine o2 ?_ | refine o3 ?_ | refine o4 ?_ | refine o5 ?_ | refine o6 ?_ | refine o7 ?_ | refine o8 ?_ | refine o9 ?_ | refine oa ?_ | refine ob ?_ | refine oc ?_ | refine od ?_ | refine oe ?_ | refine og ?_ | refine oh ?_ | refine oi ?_) | (with_reducible refine cExitMiss ?_ ?_; rfl) | (with_reducible refine ok ?_; first | refine ACode.condT rfl ?_ | refine ACode.condF rfl ?_)
    refine AOps.splitG rfl rfl rfl (fun hv => ?_) (fun hv => ?_)
    · repeat first | (with_reducible refine oj ?_; refine AOps.auto tabOk rfl ?_) | (with_reducible first | refine o1 ?_ | refine o2 ?_ | refine o3 ?_ | refine o4 ?_ | refine o5 ?_ | refine o6 ?_ | refine o7 ?_ | refine o8 ?_ | refine o9 ?_ | refine oa ?_ | refine ob ?_ | refine oc ?_ | refine od ?_ | refine oe ?_ | refine og ?_ | refine oh ?_ | refine oi ?_) | (with_reducible refine cExitMiss ?_ ?_; rfl) | (with_reducible refine ok ?_; first | refine ACode.condT rfl ?_ | refine ACode.condF rfl ?_)
      refine AOps.unG rfl rfl rfl ?_
      refine AOps.callR [.l 2, .l 1] [.one (.ptr (.o 0) 0), .agg (cTy p.ty), .agg (cTy q.ty)] [.cells [.mp (.o 1)], .map ck' (encM l')] hΓF rfl rfl rfl rfl rfl rfl ?_ ?_ ?_ ?_ ?_ (instance_ok hΓ p.ty hp q.ty hq f ck' l' hf hm') ?_
      · simp [subF, FV.sub, AC.sub, nameOf]; exact ⟨rfl, rfl⟩
      · simp [inO]
      · simp
      · exact ⟨rfl, by simp [AObj.sub]; rfl, trivial⟩
      · simp [inO]
      intro r ou' hq
      obtain ⟨rfl, ck2, l2, rfl, hm2⟩ := hq
      refine ⟨[.cells [.mp (.o 1)], .map ck2 (encM l2)], rfl, rfl, by simp [inO], by simp, ?_⟩
      rw [show FV.sub (nameOf [.l 2, .l 1]) (.one (.lit (.bool (inst f p.ty q.ty).1))) = .one (.lit (.bool (inst f p.ty q.ty).1)) from rfl]
      repeat first | (with_reducible refine oj ?_; refine AOps.auto tabOk rfl ?_) | (with_reducible first | refine o1 ?_ | refine o2 ?_ | refine o3 ?_ | refine o4 ?_ | refine o5 ?_ | refine o6 ?_ | refine o7 ?_ | refine o8 ?_ | refine o9 ?_ | refine oa ?_ | refine ob ?_ | refine oc ?_ | refine od ?_ | refine oe ?_ | refine og ?_ | refine oh ?_ | refine oi ?_) | (with_reducible refine cExitMiss ?_ ?_; rfl) | (with_reducible refine ok ?_; first | refine ACode.condT rfl ?_ | refine ACode.condF rfl ?_)
      refine AFn.fin rfl (WkF.refl _) (by simp) (ouG_ok _ _) ⟨?_, rfl⟩
      simp [prdOk, hv]
    · repeat first | (with_reducible refine oj ?_; refine AOps.auto tabOk rfl ?_) | (with_reducible first | refine o1 ?_ | refine o2 ?_ | refine o3 ?_ | refine o4 ?_ | refine o5 ?_ | refine o6 ?_ | refine o7 ?_ | refine o8 ?_ | refine o9 ?_ | refine oa ?_ | refine ob ?_ | refine oc ?_ | refine od ?_ | refine oe ?_ | refine og ?_ | refine oh ?_ | refine oi ?_) | (with_reducible refine cExitMiss ?_ ?_; rfl) | (with_reducible refine ok ?_; first | refine ACode.condT rfl ?_ | refine ACode.condF rfl ?_)
      refine AFn.fin rfl (WkF.refl _) (by simp) (ouG_ok _ _) ⟨?_, rfl⟩
      simp [prdOk, hv]
  · obtain ⟨⟨b', k, t⟩, hmem2, he⟩ := List.mem_map.1 hmem
    simp only [Prod.mk.injEq] at he
    obtain ⟨rfl, rfl, rfl⟩ := he
    obtain ⟨h1, h2⟩ := seen_step hm.nb hm.nk hmem2 hnew
    repeat first | (with_reducible refine oj ?_; refine AOps.auto tabOk rfl ?_) | (with_reducible first | refine o1 ?_ | refine o2 ?_ | refine o3 ?_ | refine o4 ?_ | refine o5 ?_ | refine o6 ?_ | refine o7 ?_ | refine o8 ?_ | refine o9 ?_ | refine oa ?_ | refine ob ?_ | refine oc ?_ | refine od ?_ | refine oe ?_ | refine og ?_ | refine oh ?_ | refine oi ?_) | (with_reducible refine cExitMiss ?_ ?_; rfl) | (with_reducible refine ok ?_; first | refine ACode.condT rfl ?_ | refine ACode.condF rfl ?_)
    refine AOps.step1 rfl rfl rfl (AStep.entry (last := 0) (u := .int .i64 k) (v := .agg (cTy t)) rfl rfl rfl rfl ?_ rfl) ?_
    · have : ∀ l : List (Nat × Int × Ty), (l.map (·.1)).Nodup → (b', k, t) ∈ l → (encM l).find? (fun x => x.1 == b') = some (b', .int .i64 k, .agg (cTy t)) := by
        intro l
        induction l with
        | nil => intro _ h; cases h
        | cons y l ih =>
          intro hnd h
          simp only [List.map_cons, List.nodup_cons] at hnd
          rcases List.mem_cons.1 h with rfl | h
          · simp [encM]
          · have hne : y.1 ≠ b' := fun e => hnd.1 (List.mem_map.2 ⟨_, h, e.symm⟩)
            have := ih hnd.2 h
            simp only [encM, List.map_cons, List.find?_cons] at this ⊢
            rw [beq_eq_false_iff_ne.2 hne]
            exact this
      exact this l hm.nb hmem2
    repeat first | (with_reducible refine oj ?_; refine AOps.auto tabOk rfl ?_) | (with_reducible first | refine o1 ?_ | refine o2 ?_ | refine o3 ?_ | refine o4 ?_ | refine o5 ?_ | refine o6 ?_ | refine o7 ?_ | refine o8 ?_ | refine o9 ?_ | refine oa ?_ | refine ob ?_ | refine oc ?_ | refine od ?_ | refine oe ?_ | refine og ?_ | refine oh ?_ | refine oi ?_) | (with_reducible refine cExitMiss ?_ ?_; rfl) | (with_reducible refine ok ?_; first | refine ACode.condT rfl ?_ | refine ACode.condF rfl ?_)
    refine ACode.drawX tabOk 6 [] follows (by kernel_rfl) rfl rfl rfl rfl .nil ?_
    repeat first | (with_reducible refine oj ?_; refine AOps.auto tabOk rfl ?_) | (with_reducible first | refine o1 ?_ | refine o2 ?_ | refine o3 ?_ | refine o4 ?_ | refine o5 ?_ | refine o6 ?_ | refine o7 ?_ | refine o8 ?_ | refine o9 ?_ | refine oa ?_ | refine ob ?_ | refine oc ?_ | refine od ?_ | refine oe ?_ | refine og ?_ | refine oh ?_ | refine oi ?_) | (with_reducible refine cExitMiss ?_ ?_; rfl) | (with_reducible refine ok ?_; first | refine ACode.condT rfl ?_ | refine ACode.condF rfl ?_)
    refine AOps.step rfl rfl (AStep.mapUpdate (u := .int .i64 k) (v := .agg (cTy t)) rfl Tryd.underlying104 Tryd.underlying3 rfl rfl rfl rfl rfl (keysOk_enc l')) ?_
    rw [mPut_enc k t ck' l' (by have := hm'.look k; rw [h1] at this; simpa using this)]
    repeat first | (with_reducible refine oj ?_; refine AOps.auto tabOk rfl ?_) | (with_reducible first | refine o1 ?_ | refine o2 ?_ | refine o3 ?_ | refine o4 ?_ | refine o5 ?_ | refine o6 ?_ | refine o7 ?_ | refine o8 ?_ | refine o9 ?_ | refine oa ?_ | refine ob ?_ | refine oc ?_ | refine od ?_ | refine oe ?_ | refine og ?_ | refine oh ?_ | refine oi ?_) | (with_reducible refine cExitMiss ?_ ?_; rfl) | (with_reducible refine ok ?_; first | refine ACode.condT rfl ?_ | refine ACode.condF rfl ?_)
    have hm2 := hm'.put (t := t) h1
    rw [h2] at hm2
    exact cInv ⟨leftN l (seen ++ [b']), (seen ++ [b'], ck' + 1, l' ++ [(ck', k, t)]), id, left_step (x := (b', k, t)) hmem2 hnew, ⟨hm2, rfl⟩, LessR.of rfl (by (repeat' first | exact FrSub.nil | refine FrSub.cons rfl (.ofEq rfl) ?_ | refine FrSub.consP rfl (.ofEq rfl) (by simp) ?_)) (by simp) (by repeat' first | exact LoSub.nil | refine LoSub.cons rfl ?_ rfl (by simp) ?_ | rfl | (refine (AObj.ren_pure _ _ ?_).symm; simp; done) | (simp [AObj.ren, renL, AC.ren, cTy]; done) | (simp [AObj.ren, renL, AC.ren, cTy]; rfl)) rfl rfl (ouG_ok _ _)⟩
end Go.Proofs.YtoojdmgbffnmiaaDoor
/- general: walked. -/
namespace Go.Proofs.YtoojdmgbffnmiaaDoor
open Go Go.Abs
set_option maxRecDepth 10000
set_option linter.unusedVariables false
set_option linter.unusedSimpArgs false
variable {Γ : List (Nat × List AC)}
theorem IndexFunc76_ok (hΓ : ∀ g cs, (g, cs) ∈ Γ → idsL isO cs) (gf : Nat) (caps : List AC) (hcap : idsL isO caps) (ou : Outer) (p : Prd → Bool) (xs : List Prd) (hx : xs.length ≤ 1048576) (hf : ∀ a ∈ xs, AFn Tryd.prog Γ gf (.agg (cPrd a) :: caps.map .one) ou (fun r ou' => r = .one (.lit (.bool (p a))) ∧ ou' = ou)) :
    AFn Tryd.prog Γ 76 [.one (.sl 5 (xs.map cPrd)), .one (.fn (.func gf) [] caps)] ou (fun r ou' => r = .one (int (idxOf p xs)) ∧ ou' = ou) := by
  have hcf : ∀ l : List AC, idsL isO l → idsF isO (l.map .one) := by
    intro l
    induction l with
    | nil => intro _; trivial
    | cons c l ih => intro h; exact ⟨h.1, ih h.2⟩
  refine AFn.walk 19 tabOk Tryd.func76 rfl (by kernel_rfl) rfl rfl fun hou => ?_
  repeat first | (with_reducible refine oj ?_; refine AOps.auto tabOk rfl ?_) | (with_reducible first | refine o1 ?_ | refine o2 ?_ | refine o3 ?_ | refine o4 ?_ | refine o5 ?_ | refine o6 ?_ | refine o7 ?_ | refine o8 ?_ | refine o9 ?_ | refine oa ?_ | refine ob ?_ | refine oc ?_ | refine od ?_ | refine oe ?_ | refine og ?_ | refine oh ?_ | refine oi ?_) | (with_reducible refine cExitMiss ?_ ?_; rfl) | (with_reducible refine ok ?_; first | refine ACode.condT rfl ?_ | refine ACode.condF rfl ?_)
  refine ACode.loopR hΓ (α := Nat) (fun j => [(8, .one (int j)), (7, .one (int (xs.map cPrd).length)), (1, .one (.fn (.func gf) [] caps)), (0, .one (.sl 5 (xs.map cPrd)))])
    (fun j => ⟨0, [], ou⟩) (fun m j => j ≤ xs.length ∧ (∀ x ∈ xs.take j, p x = false) ∧ m = xs.length - j) (a0 := 0) (ρ := id) ⟨by omega, by simp, rfl⟩ (LessR.of rfl ?_ ?_ (by repeat' first | exact LoSub.nil | refine LoSub.cons rfl ?_ rfl (by simp) ?_ | rfl | (refine (AObj.ren_pure _ _ ?_).symm; simp; done) | (simp [AObj.ren, renL, AC.ren, cTy]; done) | (simp [AObj.ren, renL, AC.ren, cTy]; rfl)) rfl rfl hou) fun m j hj => ?_
  · refine .cons rfl (.ofEq rfl) (.cons rfl (.ofEq rfl) (.consP rfl (.ofEq rfl) (by simp [hcap]) (.consP rfl (.ofEq rfl) (by simp) .nil)))
  · simp [idsL_mono isO_inL caps hcap]
  obtain ⟨hjl, hno, rfl⟩ := hj
  repeat first | (with_reducible refine oj ?_; refine AOps.auto tabOk rfl ?_) | (with_reducible first | refine o1 ?_ | refine o2 ?_ | refine o3 ?_ | refine o4 ?_ | refine o5 ?_ | refine o6 ?_ | refine o7 ?_ | refine o8 ?_ | refine o9 ?_ | refine oa ?_ | refine ob ?_ | refine oc ?_ | refine od ?_ | refine oe ?_ | refine og ?_ | refine oh ?_ | refine oi ?_) | (with_reducible refine cExitMiss ?_ ?_; rfl) | (with_reducible refine ok ?_; first | refine ACode.condT rfl ?_ | refine ACode.condF rfl ?_)
  refine ACode.cond rfl (fun hb2 => ?_) (fun hb2 => ?_)
  · have hlt : j < xs.length := by simpa using hb2
    obtain ⟨a, ha⟩ := get_of_lt hlt
    have hca := hf a (List.mem_of_getElem? ha)
    repeat first | (with_reducible refine oj ?_; refine AOps.auto tabOk rfl ?_) | (with_reducible first | refine o1 ?_ | refine o2 ?_ | refine o3 ?_ | refine o4 ?_ | refine o5 ?_ | refine o6 ?_ | refine o7 ?_ | refine o8 ?_ | refine o9 ?_ | refine oa ?_ | refine ob ?_ | refine oc ?_ | refine od ?_ | refine oe ?_ | refine og ?_ | refine oh ?_ | refine oi ?_) | (with_reducible refine cExitMiss ?_ ?_; rfl) | (with_reducible refine ok ?_; first | refine ACode.condT rfl ?_ | refine ACode.condF rfl ?_)
    refine AOps.step1 rfl rfl rfl (AStep.indexAddr tabOk rfl rfl rfl rfl rfl rfl (.inl rfl) rfl (by omega) (by simpa using map_get ha)) ?_
    repeat first | (with_reducible refine oj ?_; refine AOps.auto tabOk rfl ?_) | (with_reducible first | refine o1 ?_ | refine o2 ?_ | refine o3 ?_ | refine o4 ?_ | refine o5 ?_ | refine o6 ?_ | refine o7 ?_ | refine o8 ?_ | refine o9 ?_ | refine oa ?_ | refine ob ?_ | refine oc ?_ | refine od ?_ | refine oe ?_ | refine og ?_ | refine oh ?_ | refine oi ?_) | (with_reducible refine cExitMiss ?_ ?_; rfl) | (with_reducible refine ok ?_; first | refine ACode.condT rfl ?_ | refine ACode.condF rfl ?_)
    refine AOps.call1 hΓ rfl rfl rfl rfl rfl rfl rfl ⟨by simp, hcf caps hcap⟩ hou hca fun r ou' hq hids hou' => ?_
    obtain ⟨rfl, rfl⟩ := hq
    repeat first | (with_reducible refine oj ?_; refine AOps.auto tabOk rfl ?_) | (with_reducible first | refine o1 ?_ | refine o2 ?_ | refine o3 ?_ | refine o4 ?_ | refine o5 ?_ | refine o6 ?_ | refine o7 ?_ | refine o8 ?_ | refine o9 ?_ | refine oa ?_ | refine ob ?_ | refine oc ?_ | refine od ?_ | refine oe ?_ | refine og ?_ | refine oh ?_ | refine oi ?_) | (with_reducible refine cExitMiss ?_ ?_; rfl) | (with_reducible refine ok ?_; first | refine ACode.condT rfl ?_ | refine ACode.condF rfl ?_)
    refine ACode.cond rfl (fun hb3 => ?_) (fun hb3 => ?_)
    · repeat first | (with_reducible refine oj ?_; refine AOps.auto tabOk rfl ?_) | (with_reducible first | refine o1 ?_ | refine o2 ?_ | refine o3 ?_ | refine o4 ?_ | refine o5 ?_ | refine o6 ?_ | refine o7 ?_ | refine o8 ?_ | refine o9 ?_ | refine oa ?_ | refine ob ?_ | refine oc ?_ | refine od ?_ | refine oe ?_ | refine og ?_ | refine oh ?_ | refine oi ?_) | (with_reducible refine cExitMiss ?_ ?_; rfl) | (with_reducible refine ok ?_; first | refine ACode.condT rfl ?_ | refine ACode.condF rfl ?_)
      refine AFn.fin rfl (WkF.refl _) (by simp) hou ⟨?_, rfl⟩
      rw [idxOf_at hno ha hb3]
    · repeat first | (with_reducible refine oj ?_; refine AOps.auto tabOk rfl ?_) | (with_reducible first | refine o1 ?_ | refine o2 ?_ | refine o3 ?_ | refine o4 ?_ | refine o5 ?_ | refine o6 ?_ | refine o7 ?_ | refine o8 ?_ | refine o9 ?_ | refine oa ?_ | refine ob ?_ | refine oc ?_ | refine od ?_ | refine oe ?_ | refine og ?_ | refine oh ?_ | refine oi ?_) | (with_reducible refine cExitMiss ?_ ?_; rfl) | (with_reducible refine ok ?_; first | refine ACode.condT rfl ?_ | refine ACode.condF rfl ?_)
      refine AOps.step1 rfl rfl rfl (AStep.arith rfl rfl rfl (.inl ⟨rfl, rfl⟩) (inRange_i64 (by omega) (by omega))) ?_
      repeat first | (with_reducible refine oj ?_; refine AOps.auto tabOk rfl ?_) | (with_reducible first | refine o1 ?_ | refine o2 ?_ | refine o3 ?_ | refine o4 ?_ | refine o5 ?_ | refine o6 ?_ | refine o7 ?_ | refine o8 ?_ | refine o9 ?_ | refine oa ?_ | refine ob ?_ | refine oc ?_ | refine od ?_ | refine oe ?_ | refine og ?_ | refine oh ?_ | refine oi ?_) | (with_reducible refine cExitMiss ?_ ?_; rfl) | (with_reducible refine ok ?_; first | refine ACode.condT rfl ?_ | refine ACode.condF rfl ?_)
      refine cInv ⟨xs.length - (j + 1), j + 1, id, by omega, ⟨by omega, take_all hno ha hb3, rfl⟩, LessR.of rfl ?_ ?_ (by repeat' first | exact LoSub.nil | refine LoSub.cons rfl ?_ rfl (by simp) ?_ | rfl | (refine (AObj.ren_pure _ _ ?_).symm; simp; done) | (simp [AObj.ren, renL, AC.ren, cTy]; done) | (simp [AObj.ren, renL, AC.ren, cTy]; rfl)) rfl rfl hou⟩
      · refine .cons rfl (.ofEq rfl) (.cons rfl (.ofEq rfl) (.consP rfl (.ofEq rfl) (by simp [hcap]) (.consP rfl (.ofEq rfl) (by simp) .nil)))
      · simp [idsL_mono isO_inL caps hcap]
  · have hlt : j = xs.length := by simp at hb2; omega
    subst hlt
    rw [List.take_length] at hno
    repeat first | (with_reducible refine oj ?_; refine AOps.auto tabOk rfl ?_) | (with_reducible first | refine o1 ?_ | refine o2 ?_ | refine o3 ?_ | refine o4 ?_ | refine o5 ?_ | refine o6 ?_ | refine o7 ?_ | refine o8 ?_ | refine o9 ?_ | refine oa ?_ | refine ob ?_ | refine oc ?_ | refine od ?_ | refine oe ?_ | refine og ?_ | refine oh ?_ | refine oi ?_) | (with_reducible refine cExitMiss ?_ ?_; rfl) | (with_reducible refine ok ?_; first | refine ACode.condT rfl ?_ | refine ACode.condF rfl ?_)
    refine AFn.fin rfl (WkF.refl _) (by simp) hou ⟨?_, rfl⟩
    rw [idxOf_none hno]
theorem ContainsFunc59_ok (hΓ : ∀ g cs, (g, cs) ∈ Γ → idsL isO cs) (gf : Nat) (caps : List AC) (hcap : idsL isO caps) (ou : Outer) (p : Prd → Bool) (xs : List Prd) (hx : xs.length ≤ 1048576) (hf : ∀ a ∈ xs, AFn Tryd.prog Γ gf (.agg (cPrd a) :: caps.map .one) ou (fun r ou' => r = .one (.lit (.bool (p a))) ∧ ou' = ou)) :
    AFn Tryd.prog Γ 59 [.one (.sl 5 (xs.map cPrd)), .one (.fn (.func gf) [] caps)] ou (fun r ou' => r = .one (.lit (.bool (xs.any p))) ∧ ou' = ou) := by
  refine AFn.walk 9 tabOk Tryd.func59 rfl (by kernel_rfl) rfl rfl fun hou => ?_
  repeat first | (with_reducible refine oj ?_; refine AOps.auto tabOk rfl ?_) | (with_reducible first | refine o1 ?_ | refine o2 ?_ | refine o3 ?_ | refine o4 ?_ | refine o5 ?_ | refine o6 ?_ | refine o7 ?_ | refine o8 ?_ | refine o9 ?_ | refine oa ?_ | refine ob ?_ | refine oc ?_ | refine od ?_ | refine oe ?_ | refine og ?_ | refine oh ?_ | refine oi ?_) | (with_reducible refine cExitMiss ?_ ?_; rfl) | (with_reducible refine ok ?_; first | refine ACode.condT rfl ?_ | refine ACode.condF rfl ?_)
  refine AOps.call1 hΓ rfl rfl rfl rfl rfl rfl rfl (by simp [hcap]) hou (IndexFunc76_ok hΓ gf caps hcap ou p xs hx hf) fun r ou' hq hids hou' => ?_
  obtain ⟨rfl, rfl⟩ := hq
  repeat first | (with_reducible refine oj ?_; refine AOps.auto tabOk rfl ?_) | (with_reducible first | refine o1 ?_ | refine o2 ?_ | refine o3 ?_ | refine o4 ?_ | refine o5 ?_ | refine o6 ?_ | refine o7 ?_ | refine o8 ?_ | refine o9 ?_ | refine oa ?_ | refine ob ?_ | refine oc ?_ | refine od ?_ | refine oe ?_ | refine og ?_ | refine oh ?_ | refine oi ?_) | (with_reducible refine cExitMiss ?_ ?_; rfl) | (with_reducible refine ok ?_; first | refine ACode.condT rfl ?_ | refine ACode.condF rfl ?_)
  refine AFn.fin rfl (WkF.refl _) (by simp) hou ⟨?_, rfl⟩
  rw [← idxOf_any]
/-- What general answers. -/
def genB (a b : Sch) : Bool := (inst (fun _ => none) a.ty b.ty).1 && a.preds.all fun p => b.preds.any (prdOk (inst (fun _ => none) a.ty b.ty).2 p)
theorem general_ok (hΓ : ∀ g cs, (g, cs) ∈ Γ → idsL isO cs) (hΓF : ∀ g cs, (g, cs) ∈ Γ → idsL (fun _ => False) cs) (a b : Sch) (ha : smallTy a.ty) (hb : smallTy b.ty) (hap : ∀ p ∈ a.preds, smallTy p.ty) (hbp : ∀ p ∈ b.preds, smallTy p.ty) (hal : a.preds.length ≤ 1048576) (hbl : b.preds.length ≤ 1048576) :
    APure Tryd.prog Γ 38 [.agg (cSch a), .agg (cSch b)] (.one (.lit (.bool (genB a b)))) := by
  intro ou
  refine AFn.walk 33 tabOk Tryd.func38 rfl (by kernel_rfl) rfl rfl fun hou => ?_
  repeat first | (with_reducible refine oj ?_; refine AOps.auto tabOk rfl ?_) | (with_reducible first | refine o1 ?_ | refine o2 ?_ | refine o3 ?_ | refine o4 ?_ | refine o5 ?_ | refine o6 ?_ | refine o7 ?_ | refine o8 ?_ | refine o9 ?_ | refine oa ?_ | refine ob ?_ | refine oc ?_ | refine od ?_ | refine oe ?_ | refine og ?_ | refine oh ?_ | refine oi ?_) | (with_reducible refine cExitMiss ?_ ?_; rfl) | (with_reducible refine ok ?_; first | refine ACode.condT rfl ?_ | refine ACode.condF rfl ?_)
  refine AOps.step1 rfl rfl rfl (AStep.makeMap rfl) ?_
  repeat first | (with_reducible refine oj ?_; refine AOps.auto tabOk rfl ?_) | (with_reducible first | refine o1 ?_ | refine o2 ?_ | refine o3 ?_ | refine o4 ?_ | refine o5 ?_ | refine o6 ?_ | refine o7 ?_ | refine o8 ?_ | refine o9 ?_ | refine oa ?_ | refine ob ?_ | refine oc ?_ | refine od ?_ | refine oe ?_ | refine og ?_ | refine oh ?_ | refine oi ?_) | (with_reducible refine cExitMiss ?_ ?_; rfl) | (with_reducible refine ok ?_; first | refine ACode.condT rfl ?_ | refine ACode.condF rfl ?_)
  have hm0 : MapIs (fun _ => none) 0 [] := ⟨by simp, by simp, fun k => rfl, by simp⟩
  have hf0 : smallF (fun _ => none) := fun k t h => by cases h
  refine AOps.callR [.l 3, .l 2] [.one (.ptr (.o 0) 0), .agg (cTy a.ty), .agg (cTy b.ty)] [.cells [.mp (.o 1)], .map 0 (encM [])] hΓF rfl rfl rfl rfl rfl rfl ?_ ?_ ?_ ?_ ?_ (instance_ok hΓ a.ty ha b.ty hb _ 0 [] hf0 hm0) ?_
  · simp [subF, FV.sub, AC.sub, nameOf]; first | exact ⟨rfl, rfl⟩ | exact ⟨rfl, rfl, rfl⟩
  · simp [inO]
  · simp
  · exact ⟨rfl, by simp [AObj.sub]; rfl, trivial⟩
  · simp [inO]
  intro r ou' hq
  obtain ⟨rfl, ck, l, rfl, hm⟩ := hq
  have hfs := smallF_inst a.ty (b := b.ty) hf0 hb
  unfold genB
  generalize hI : inst (fun _ => none) a.ty b.ty = I at hm hfs
  obtain ⟨I1, I2⟩ := I
  simp only at hm hfs
  refine ⟨[.cells [.mp (.o 1)], .map ck (encM l)], rfl, rfl, by simp [inO], by simp, ?_⟩
  rw [show FV.sub (nameOf [.l 3, .l 2]) (.one (.lit (.bool (I1, I2).1))) = .one (.lit (.bool I1)) from rfl]
  repeat first | (with_reducible refine oj ?_; refine AOps.auto tabOk rfl ?_) | (with_reducible first | refine o1 ?_ | refine o2 ?_ | refine o3 ?_ | refine o4 ?_ | refine o5 ?_ | refine o6 ?_ | refine o7 ?_ | refine o8 ?_ | refine o9 ?_ | refine oa ?_ | refine ob ?_ | refine oc ?_ | refine od ?_ | refine oe ?_ | refine og ?_ | refine oh ?_ | refine oi ?_) | (with_reducible refine cExitMiss ?_ ?_; rfl) | (with_reducible refine ok ?_; first | refine ACode.condT rfl ?_ | refine ACode.condF rfl ?_)
  refine ACode.cond rfl (fun hb1 => ?_) (fun hb1 => ?_)
  · have : I1 = false := by simpa using hb1
    repeat first | (with_reducible refine oj ?_; refine AOps.auto tabOk rfl ?_) | (with_reducible first | refine o1 ?_ | refine o2 ?_ | refine o3 ?_ | refine o4 ?_ | refine o5 ?_ | refine o6 ?_ | refine o7 ?_ | refine o8 ?_ | refine o9 ?_ | refine oa ?_ | refine ob ?_ | refine oc ?_ | refine od ?_ | refine oe ?_ | refine og ?_ | refine oh ?_ | refine oi ?_) | (with_reducible refine cExitMiss ?_ ?_; rfl) | (with_reducible refine ok ?_; first | refine ACode.condT rfl ?_ | refine ACode.condF rfl ?_)
    refine APure.fin rfl (WkF.ofEq ?_) (by simp) hou rfl
    simp [this]
  have hI1 : I1 = true := by simpa using hb1
  repeat first | (with_reducible refine oj ?_; refine AOps.auto tabOk rfl ?_) | (with_reducible first | refine o1 ?_ | refine o2 ?_ | refine o3 ?_ | refine o4 ?_ | refine o5 ?_ | refine o6 ?_ | refine o7 ?_ | refine o8 ?_ | refine o9 ?_ | refine oa ?_ | refine ob ?_ | refine oc ?_ | refine od ?_ | refine oe ?_ | refine og ?_ | refine oh ?_ | refine oi ?_) | (with_reducible refine cExitMiss ?_ ?_; rfl) | (with_reducible refine ok ?_; first | refine ACode.condT rfl ?_ | refine ACode.condF rfl ?_)
  refine ACode.loopR hΓ (α := Nat) (fun j => [(22, .one (int j)), (21, .one (int (a.preds.map cPrd).length)), (20, .one (.sl 5 (a.preds.map cPrd))), (5, .one (.ptr (.l 4) 0)), (3, .one (.ptr (.l 1) 0))])
    (fun j => ⟨5, [(4, .cells [.ptr (.l 3) 0]), (3, .cells [.mp (.l 2)]), (2, .map ck (encM l)), (1, .cells (cSch b))], ou⟩) (fun m j => j ≤ a.preds.length ∧ (∀ p ∈ a.preds.take j, b.preds.any (prdOk I2 p) = true) ∧ m = a.preds.length - j) (a0 := 0) (ρ := id) ⟨by omega, by simp, rfl⟩ (LessR.of rfl (by (repeat' first | exact FrSub.nil | refine FrSub.cons rfl (.ofEq rfl) ?_ | refine FrSub.consP rfl (.ofEq rfl) (by simp) ?_)) (by simp) (by repeat' first | exact LoSub.nil | refine LoSub.cons rfl ?_ rfl (by simp) ?_ | rfl | (refine (AObj.ren_pure _ _ ?_).symm; simp; done) | (simp [AObj.ren, renL, AC.ren, cTy]; done) | (simp [AObj.ren, renL, AC.ren, cTy]; rfl)) rfl rfl hou) fun m j hj => ?_
  obtain ⟨hjl, hno, rfl⟩ := hj
  repeat first | (with_reducible refine oj ?_; refine AOps.auto tabOk rfl ?_) | (with_reducible first | refine o1 ?_ | refine o2 ?_ | refine o3 ?_ | refine o4 ?_ | refine o5 ?_ | refine o6 ?_ | refine o7 ?_ | refine o8 ?_ | refine o9 ?_ | refine oa ?_ | refine ob ?_ | refine oc ?_ | refine od ?_ | refine oe ?_ | refine og ?_ | refine oh ?_ | refine oi ?_) | (with_reducible refine cExitMiss ?_ ?_; rfl) | (with_reducible refine ok ?_; first | refine ACode.condT rfl ?_ | refine ACode.condF rfl ?_)
  refine ACode.cond rfl (fun hb2 => ?_) (fun hb2 => ?_)
  · have hlt : j < a.preds.length := by simpa using hb2
    obtain ⟨p, hp⟩ := get_of_lt hlt
    have hpm := List.mem_of_getElem? hp
    repeat first | (with_reducible refine oj ?_; refine AOps.auto tabOk rfl ?_) | (with_reducible first | refine o1 ?_ | refine o2 ?_ | refine o3 ?_ | refine o4 ?_ | refine o5 ?_ | refine o6 ?_ | refine o7 ?_ | refine o8 ?_ | refine o9 ?_ | refine oa ?_ | refine ob ?_ | refine oc ?_ | refine od ?_ | refine oe ?_ | refine og ?_ | refine oh ?_ | refine oi ?_) | (with_reducible refine cExitMiss ?_ ?_; rfl) | (with_reducible refine ok ?_; first | refine ACode.condT rfl ?_ | refine ACode.condF rfl ?_)
    refine AOps.step1 rfl rfl rfl (AStep.indexAddr tabOk rfl rfl rfl rfl rfl rfl (.inl rfl) rfl (by omega) (map_get hp)) ?_
    iterate 5 (first | (with_reducible refine oj ?_; refine AOps.auto tabOk rfl ?_) | (with_reducible first | refine o1 ?_ | refine o2 ?_ | refine o3 ?_ | refine o4 ?_ | refine o5 ?_ | refine o6 ?_ | refine o7 ?_ | refine o8 ?_ | refine o9 ?_ | refine oa ?_ | refine ob ?_ | refine oc ?_ | refine od ?_ | refine oe ?_ | refine og ?_ | refine oh ?_ | refine oi ?_) | (with_reducible refine cExitMiss ?_ ?_; rfl) | (with_reducible refine ok ?_; first | refine ACode.condT rfl ?_ | refine ACode.condF rfl ?_))
    refine ACode.freeze1 (.l 5) 7 rfl rfl ?_
    repeat first | (with_reducible refine oj ?_; refine AOps.auto tabOk rfl ?_) | (with_reducible first | refine o1 ?_ | refine o2 ?_ | refine o3 ?_ | refine o4 ?_ | refine o5 ?_ | refine o6 ?_ | refine o7 ?_ | refine o8 ?_ | refine o9 ?_ | refine oa ?_ | refine ob ?_ | refine oc ?_ | refine od ?_ | refine oe ?_ | refine og ?_ | refine oh ?_ | refine oi ?_) | (with_reducible refine cExitMiss ?_ ?_; rfl) | (with_reducible refine ok ?_; first | refine ACode.condT rfl ?_ | refine ACode.condF rfl ?_)
    have hgen : ∀ q ∈ b.preds, AFn Tryd.prog Γ 60 (.agg (cPrd q) :: [AC.ptr (.o 0) 0, .box (cPrd p)].map .one) (ouG ck l) (fun r ou' => r = .one (.lit (.bool (prdOk I2 p q))) ∧ ou' = ouG ck l) := fun q hq =>
      gen1_ok hΓ hΓF p q (hap p hpm) (hbp q hq) I2 ck l hfs hm
    refine AOps.callR [.l 4, .l 3, .l 2] [.one (.sl 5 (b.preds.map cPrd)), .one (.fn (.func 60) [] [.ptr (.o 0) 0, .box (cPrd p)])] [.cells [.ptr (.o 1) 0], .cells [.mp (.o 2)], .map ck (encM l)] hΓF rfl rfl rfl rfl rfl rfl ?_ ?_ ?_ ?_ ?_ (ContainsFunc59_ok hΓ 60 [.ptr (.o 0) 0, .box (cPrd p)] (by simp) (ouG ck l) (prdOk I2 p) b.preds hbl hgen) ?_
    · have e1 : subS (nameOf [.l 4, .l 3, .l 2]) (b.preds.map cPrd) = b.preds.map cPrd := subS_pure _ _ (ids_prds _ _)
      have e2 : subL (nameOf [.l 4, .l 3, .l 2]) (cPrd p) = cPrd p := subL_pure _ _ (ids_cPrd _ _)
      simp only [subF, FV.sub, AC.sub, subL, e1, e2]
      rfl
    · simp [inO]
    · simp
    · exact ⟨rfl, rfl, by simp; rfl, trivial⟩
    · simp [inO]
    intro r ou' hq
    obtain ⟨rfl, rfl⟩ := hq
    refine ⟨[.cells [.ptr (.o 1) 0], .cells [.mp (.o 2)], .map ck (encM l)], rfl, rfl, by simp [inO], by simp, ?_⟩
    rw [show ∀ θ, FV.sub θ (.one (.lit (.bool (b.preds.any (prdOk I2 p))))) = .one (.lit (.bool (b.preds.any (prdOk I2 p)))) from fun _ => rfl]
    repeat first | (with_reducible refine oj ?_; refine AOps.auto tabOk rfl ?_) | (with_reducible first | refine o1 ?_ | refine o2 ?_ | refine o3 ?_ | refine o4 ?_ | refine o5 ?_ | refine o6 ?_ | refine o7 ?_ | refine o8 ?_ | refine o9 ?_ | refine oa ?_ | refine ob ?_ | refine oc ?_ | refine od ?_ | refine oe ?_ | refine og ?_ | refine oh ?_ | refine oi ?_) | (with_reducible refine cExitMiss ?_ ?_; rfl) | (with_reducible refine ok ?_; first | refine ACode.condT rfl ?_ | refine ACode.condF rfl ?_)
    refine ACode.cond rfl (fun hb3 => ?_) (fun hb3 => ?_)
    · have hno2 : b.preds.any (prdOk I2 p) = false := by simpa using hb3
      repeat first | (with_reducible refine oj ?_; refine AOps.auto tabOk rfl ?_) | (with_reducible first | refine o1 ?_ | refine o2 ?_ | refine o3 ?_ | refine o4 ?_ | refine o5 ?_ | refine o6 ?_ | refine o7 ?_ | refine o8 ?_ | refine o9 ?_ | refine oa ?_ | refine ob ?_ | refine oc ?_ | refine od ?_ | refine oe ?_ | refine og ?_ | refine oh ?_ | refine oi ?_) | (with_reducible refine cExitMiss ?_ ?_; rfl) | (with_reducible refine ok ?_; first | refine ACode.condT rfl ?_ | refine ACode.condF rfl ?_)
      refine APure.fin rfl (WkF.ofEq ?_) (by simp) hou rfl
      have : (a.preds.all fun p => b.preds.any (prdOk I2 p)) = false := by
        cases h : (a.preds.all fun p => b.preds.any (prdOk I2 p)) with
        | false => rfl
        | true => rw [List.all_eq_true.1 h p hpm] at hno2; cases hno2
      simp [this]
    · have hyes : b.preds.any (prdOk I2 p) = true := by simpa using hb3
      repeat first | (with_reducible refine oj ?_; refine AOps.auto tabOk rfl ?_) | (with_reducible first | refine o1 ?_ | refine o2 ?_ | refine o3 ?_ | refine o4 ?_ | refine o5 ?_ | refine o6 ?_ | refine o7 ?_ | refine o8 ?_ | refine o9 ?_ | refine oa ?_ | refine ob ?_ | refine oc ?_ | refine od ?_ | refine oe ?_ | refine og ?_ | refine oh ?_ | refine oi ?_) | (with_reducible refine cExitMiss ?_ ?_; rfl) | (with_reducible refine ok ?_; first | refine ACode.condT rfl ?_ | refine ACode.condF rfl ?_)
      refine AOps.step1 rfl rfl rfl (AStep.arith rfl rfl rfl (.inl ⟨rfl, rfl⟩) (inRange_i64 (by omega) (by omega))) ?_
      repeat first | (with_reducible refine oj ?_; refine AOps.auto tabOk rfl ?_) | (with_reducible first | refine o1 ?_ | refine o2 ?_ | refine o3 ?_ | refine o4 ?_ | refine o5 ?_ | refine o6 ?_ | refine o7 ?_ | refine o8 ?_ | refine o9 ?_ | refine oa ?_ | refine ob ?_ | refine oc ?_ | refine od ?_ | refine oe ?_ | refine og ?_ | refine oh ?_ | refine oi ?_) | (with_reducible refine cExitMiss ?_ ?_; rfl) | (with_reducible refine ok ?_; first | refine ACode.condT rfl ?_ | refine ACode.condF rfl ?_)
      exact cInv ⟨a.preds.length - (j + 1), j + 1, id, by omega, ⟨by omega, take_all hno hp hyes, rfl⟩, LessR.of rfl (by (repeat' first | exact FrSub.nil | refine FrSub.cons rfl (.ofEq rfl) ?_ | refine FrSub.consP rfl (.ofEq rfl) (by simp) ?_)) (by simp) (by repeat' first | exact LoSub.nil | refine LoSub.cons rfl ?_ rfl (by simp) ?_ | rfl | (refine (AObj.ren_pure _ _ ?_).symm; simp; done) | (simp [AObj.ren, renL, AC.ren, cTy]; done) | (simp [AObj.ren, renL, AC.ren, cTy]; rfl)) rfl rfl hou⟩
  · have hlt : j = a.preds.length := by simp at hb2; omega
    subst hlt
    rw [List.take_length] at hno
    repeat first | (with_reducible refine oj ?_; refine AOps.auto tabOk rfl ?_) | (with_reducible first | refine o1 ?_ | refine o2 ?_ | refine o3 ?_ | refine o4 ?_ | refine o5 ?_ | refine o6 ?_ | refine o7 ?_ | refine o8 ?_ | refine o9 ?_ | refine oa ?_ | refine ob ?_ | refine oc ?_ | refine od ?_ | refine oe ?_ | refine og ?_ | refine oh ?_ | refine oi ?_) | (with_reducible refine cExitMiss ?_ ?_; rfl) | (with_reducible refine ok ?_; first | refine ACode.condT rfl ?_ | refine ACode.condF rfl ?_)
    refine APure.fin rfl (WkF.ofEq ?_) (by simp) hou rfl
    have : (a.preds.all fun p => b.preds.any (prdOk I2 p)) = true := List.all_eq_true.2 hno
    simp [hI1, this]
end Go.Proofs.YtoojdmgbffnmiaaDoor
/- Match: walked. -/
namespace Go.Proofs.YtoojdmgbffnmiaaDoor
open Go Go.Abs
set_option maxRecDepth 10000
set_option linter.unusedVariables false
set_option linter.unusedSimpArgs false
mutual
theorem smallTy_fill (args : List Ty) (ha : args.length ≤ 1048576) (hs : smallTys args) : ∀ t : Ty, smallTy t → smallTy (fillTy args t)
  | .mk k n v us, h => by
    simp only [fillTy]
    split
    · split
      · rename_i a hget
        split
        · exact smallTys_iff.1 hs a (List.mem_of_getElem? hget)
        · exact h
      · exact h
    · exact ⟨by rw [fillTys_eq]; simpa using h.1, smallTys_fill args ha hs us h.2⟩
theorem smallTys_fill (args : List Ty) (ha : args.length ≤ 1048576) (hs : smallTys args) : ∀ l : List Ty, smallTys l → smallTys (fillTys args l)
  | [], _ => trivial
  | t :: ts, h => ⟨smallTy_fill args ha hs t h.1, smallTys_fill args ha hs ts h.2⟩
end
mutual
theorem smallTy_subst (l : List SMap) (hl : ∀ m ∈ l, smallTy m.ty) : ∀ t : Ty, smallTy t → smallTy (substTy l t)
  | .mk k n v us, h => by
    have h2 := smallTys_subst l hl us h.2
    have h1 : (substTys l us).length ≤ 1048576 := by rw [substTys_eq]; simpa using h.1
    simp only [substTy]
    split
    · split
      · rename_i m hm
        exact smallTy_fill _ h1 h2 _ (hl m (List.mem_of_find?_eq_some hm))
      · exact ⟨h1, h2⟩
    · exact ⟨h1, h2⟩
theorem smallTys_subst (l : List SMap) (hl : ∀ m ∈ l, smallTy m.ty) : ∀ ts : List Ty, smallTys ts → smallTys (substTys l ts)
  | [], _ => trivial
  | t :: ts, h => ⟨smallTy_subst l hl t h.1, smallTys_subst l hl ts h.2⟩
end
theorem varsTo_small (n : Nat) : smallTys (varsTo n) ∧ posTys (varsTo n) := by
  refine ⟨smallTys_iff.2 fun t ht => ?_, posTys_iff.2 fun t ht => ?_⟩
  · simp [varsTo] at ht
    obtain ⟨i, _, rfl⟩ := ht
    exact ⟨by simp, trivial⟩
  · simp [varsTo] at ht
    obtain ⟨i, _, rfl⟩ := ht
    exact ⟨fun _ => by omega, trivial⟩
theorem outerM_small {name : Str} {l : List DSig} (hd : ∀ d ∈ l, d.params ≤ 1048576) : ∀ m ∈ outerM name l, smallTy m.ty ∧ posTy m.ty := fun m hm => by
  simp [outerM] at hm
  obtain ⟨d, hdm, rfl⟩ := hm
  have h1 := hd d hdm
  have h2 := varsTo_small d.params.toNat
  exact ⟨⟨by simp; omega, h2.1⟩, ⟨fun h => absurd (show (1 : Int) = 0 from h) (by decide), h2.2⟩⟩
theorem firstErr_zero {α : Type} {f : α → Int} : ∀ {l : List α}, firstErr f l = 0 → ∀ x ∈ l, f x = 0
  | [], _, x, h => by cases h
  | a :: l, h, x, hx => by
    simp only [firstErr] at h
    split at h
    · rename_i h1; exact absurd h h1
    · rename_i h1
      rcases List.mem_cons.1 hx with rfl | hx
      · simpa using h1
      · exact firstErr_zero h x hx
/-- What a specification has that passes. -/
structure ChkOk (s : Spec) : Prop where
  dl : s.datas.length ≤ 40
  vl : s.vals.length ≤ 40
  ds : Sorted DSig.name s.datas
  vs : Sorted VSig.name s.vals
  d : ∀ d ∈ s.datas, datErr cutN d = 0
  v : ∀ v ∈ s.vals, cutN v.name = false ∧ schErr cutN v.sch = 0
  k : ∀ t ∈ allTys s, kindErr s.datas t = 0
theorem datErr_par {d : DSig} (h : datErr cutN d = 0) : 0 ≤ d.params ∧ d.params ≤ 8 := by
  unfold datErr at h
  split at h
  · cases h
  · split at h
    · cases h
    · omega
theorem ChkOk.par {s : Spec} (h : ChkOk s) : ∀ d ∈ s.datas, d.params ≤ 1048576 := fun d hd => by
  have := datErr_par (h.d d hd)
  omega
theorem chk_ok {s : Spec} (h : chkErr cutN s = 0) : ChkOk s := by
  unfold chkErr at h
  split at h
  · cases h
  rename_i hlen
  split at h
  · rename_i h1; exact absurd h h1
  rename_i hd
  split at h
  · rename_i h1; exact absurd h h1
  rename_i hv
  have hd := firstErr_zero (Decidable.not_not.1 hd)
  have hv := firstErr_zero (Decidable.not_not.1 hv)
  have hd2 : ∀ i d, s.datas[i]? = some d → datErr cutN d = 0 ∧ ordBad DSig.name s.datas i = false := fun i d hi => by
    have h1 := hd i (List.mem_range.2 (List.getElem?_eq_some_iff.1 hi).1)
    simp only [datAt, hi] at h1
    split at h1
    · rename_i h2; exact absurd h1 h2
    · rename_i h2
      split at h1
      · cases h1
      · rename_i h3; exact ⟨Decidable.not_not.1 h2, by simpa using h3⟩
  have hv2 : ∀ i v, s.vals[i]? = some v → (cutN v.name = false ∧ schErr cutN v.sch = 0) ∧ ordBad VSig.name s.vals i = false := fun i v hi => by
    have h1 := hv i (List.mem_range.2 (List.getElem?_eq_some_iff.1 hi).1)
    simp only [valAt, hi] at h1
    split at h1
    · cases h1
    · rename_i h0
      split at h1
      · rename_i h2; exact absurd h1 h2
      · rename_i h2
        split at h1
        · cases h1
        · rename_i h3; exact ⟨⟨by simpa using h0, Decidable.not_not.1 h2⟩, by simpa using h3⟩
  refine ⟨by omega, by omega, sorted_of fun i hi => ?_, sorted_of fun i hi => ?_, fun d hm => ?_, fun v hm => ?_, firstErr_zero h⟩
  · obtain ⟨d, hd⟩ := get_of_lt hi
    exact (hd2 i d hd).2
  · obtain ⟨v, hv⟩ := get_of_lt hi
    exact (hv2 i v hv).2
  · obtain ⟨i, hi⟩ := List.getElem?_of_mem hm
    exact (hd2 i d hi).1
  · obtain ⟨i, hi⟩ := List.getElem?_of_mem hm
    exact (hv2 i v hi).1
def valErr (m s : Spec) (name : Str) (v : VSig) : Int :=
  match findBy VSig.name v.name m.vals with
  | none => 6
  | some x => if genB (mapSch (outerM name m.datas) x.sch) (mapSch (outerM name s.datas) v.sch) = true then 0 else 10
def matchErr (m s : Spec) (name : Str) : Int :=
  if chkErr cutN m ≠ 0 then chkErr cutN m else if chkErr cutN s ≠ 0 then chkErr cutN s else if cutN name = true then 3
  else if firstErr (typeErr m.datas) s.datas ≠ 0 then firstErr (typeErr m.datas) s.datas else firstErr (valErr m s name) s.vals
/-- The names of a specification are no longer than strings are that are looked through. -/
structure SzS (s : Spec) : Prop where
  d : ∀ d ∈ s.datas, d.name.size < 4294967281
  c : ∀ d ∈ s.datas, ∀ c ∈ d.cons, c.name.size < 4294967281
  v : ∀ v ∈ s.vals, v.name.size < 4294967281
  p : ∀ v ∈ s.vals, ∀ p ∈ v.sch.preds, p.cls.size < 4294967281
theorem SzS.cut {s : Spec} (h : SzS s) : CutS cutN s :=
  ⟨fun d hd => cut_ok _ (h.d d hd), fun d hd c hc => cut_ok _ (h.c d hd c hc), fun v hv => cut_ok _ (h.v v hv), fun v hv p hp => cut_ok _ (h.p v hv p hp)⟩
theorem hΓF0 : ∀ g cs, (g, cs) ∈ Γ0 → idsL (fun _ => False) cs := by
  intro g cs h
  simp [Γ0] at h
  obtain ⟨rfl, rfl⟩ := h
  simp [arCells]
theorem Match_ok (m s : Spec) (name : Str) (hm : okSpec m) (hs : okSpec s) (hzm : SzS m) (hzs : SzS s) (hn : name.size ≤ 1048576) :
    APure Tryd.prog Γ0 13 [.agg (cSpec m), .agg (cSpec s), .one (str name)] (.tup [.one (.sl 5 (if matchErr m s name = 0 then (outerM name s.datas).map cMap else [])), .one (int (matchErr m s name))]) := by
  intro ou
  refine AFn.walk 75 tabOk Tryd.func13 rfl (by kernel_rfl) rfl rfl fun hou => ?_
  repeat first | (with_reducible refine oj ?_; refine AOps.auto tabOk rfl ?_) | (with_reducible first | refine o1 ?_ | refine o2 ?_ | refine o3 ?_ | refine o4 ?_ | refine o5 ?_ | refine o6 ?_ | refine o7 ?_ | refine o8 ?_ | refine o9 ?_ | refine oa ?_ | refine ob ?_ | refine oc ?_ | refine od ?_ | refine oe ?_ | refine og ?_ | refine oh ?_ | refine oi ?_) | (with_reducible refine cExitMiss ?_ ?_; rfl) | (with_reducible refine ok ?_; first | refine ACode.condT rfl ?_ | refine ACode.condF rfl ?_)
  refine AOps.callC hΓ0 (Check_ok cutN m hm hzm.cut) rfl rfl rfl rfl rfl rfl rfl hou (by simp) ?_
  repeat first | (with_reducible refine oj ?_; refine AOps.auto tabOk rfl ?_) | (with_reducible first | refine o1 ?_ | refine o2 ?_ | refine o3 ?_ | refine o4 ?_ | refine o5 ?_ | refine o6 ?_ | refine o7 ?_ | refine o8 ?_ | refine o9 ?_ | refine oa ?_ | refine ob ?_ | refine oc ?_ | refine od ?_ | refine oe ?_ | refine og ?_ | refine oh ?_ | refine oi ?_) | (with_reducible refine cExitMiss ?_ ?_; rfl) | (with_reducible refine ok ?_; first | refine ACode.condT rfl ?_ | refine ACode.condF rfl ?_)
  refine ACode.cond rfl (fun hb => ?_) (fun hb => ?_)
  · have hne : chkErr cutN m ≠ 0 := by simpa using hb
    have he : matchErr m s name = chkErr cutN m := by unfold matchErr; rw [if_pos hne]
    repeat first | (with_reducible refine oj ?_; refine AOps.auto tabOk rfl ?_) | (with_reducible first | refine o1 ?_ | refine o2 ?_ | refine o3 ?_ | refine o4 ?_ | refine o5 ?_ | refine o6 ?_ | refine o7 ?_ | refine o8 ?_ | refine o9 ?_ | refine oa ?_ | refine ob ?_ | refine oc ?_ | refine od ?_ | refine oe ?_ | refine og ?_ | refine oh ?_ | refine oi ?_) | (with_reducible refine cExitMiss ?_ ?_; rfl) | (with_reducible refine ok ?_; first | refine ACode.condT rfl ?_ | refine ACode.condF rfl ?_)
    refine APure.fin rfl (WkF.tup (.cons (.one (.trans (.nilS 5) (.ofEq ?_))) (.cons (.ofEq ?_) .nil))) (by simp; split <;> simp) hou rfl
    · rw [he, if_neg hne]
    · rw [he]
  have hm0 : chkErr cutN m = 0 := by simpa using hb
  repeat first | (with_reducible refine oj ?_; refine AOps.auto tabOk rfl ?_) | (with_reducible first | refine o1 ?_ | refine o2 ?_ | refine o3 ?_ | refine o4 ?_ | refine o5 ?_ | refine o6 ?_ | refine o7 ?_ | refine o8 ?_ | refine o9 ?_ | refine oa ?_ | refine ob ?_ | refine oc ?_ | refine od ?_ | refine oe ?_ | refine og ?_ | refine oh ?_ | refine oi ?_) | (with_reducible refine cExitMiss ?_ ?_; rfl) | (with_reducible refine ok ?_; first | refine ACode.condT rfl ?_ | refine ACode.condF rfl ?_)
  refine AOps.callC hΓ0 (Check_ok cutN s hs hzs.cut) rfl rfl rfl rfl rfl rfl rfl hou (by simp) ?_
  repeat first | (with_reducible refine oj ?_; refine AOps.auto tabOk rfl ?_) | (with_reducible first | refine o1 ?_ | refine o2 ?_ | refine o3 ?_ | refine o4 ?_ | refine o5 ?_ | refine o6 ?_ | refine o7 ?_ | refine o8 ?_ | refine o9 ?_ | refine oa ?_ | refine ob ?_ | refine oc ?_ | refine od ?_ | refine oe ?_ | refine og ?_ | refine oh ?_ | refine oi ?_) | (with_reducible refine cExitMiss ?_ ?_; rfl) | (with_reducible refine ok ?_; first | refine ACode.condT rfl ?_ | refine ACode.condF rfl ?_)
  refine ACode.cond rfl (fun hb => ?_) (fun hb => ?_)
  · have hne : chkErr cutN s ≠ 0 := by simpa using hb
    have he : matchErr m s name = chkErr cutN s := by unfold matchErr; rw [if_neg (by simpa using hm0), if_pos hne]
    repeat first | (with_reducible refine oj ?_; refine AOps.auto tabOk rfl ?_) | (with_reducible first | refine o1 ?_ | refine o2 ?_ | refine o3 ?_ | refine o4 ?_ | refine o5 ?_ | refine o6 ?_ | refine o7 ?_ | refine o8 ?_ | refine o9 ?_ | refine oa ?_ | refine ob ?_ | refine oc ?_ | refine od ?_ | refine oe ?_ | refine og ?_ | refine oh ?_ | refine oi ?_) | (with_reducible refine cExitMiss ?_ ?_; rfl) | (with_reducible refine ok ?_; first | refine ACode.condT rfl ?_ | refine ACode.condF rfl ?_)
    refine APure.fin rfl (WkF.tup (.cons (.one (.trans (.nilS 5) (.ofEq ?_))) (.cons (.ofEq ?_) .nil))) (by simp; split <;> simp) hou rfl
    · rw [he, if_neg hne]
    · rw [he]
  have hs0 : chkErr cutN s = 0 := by simpa using hb
  have hme : matchErr m s name = if cutN name = true then 3 else if firstErr (typeErr m.datas) s.datas ≠ 0 then firstErr (typeErr m.datas) s.datas else firstErr (valErr m s name) s.vals := by
    unfold matchErr; rw [if_neg (by simpa using hm0), if_neg (by simpa using hs0)]
  repeat first | (with_reducible refine oj ?_; refine AOps.auto tabOk rfl ?_) | (with_reducible first | refine o1 ?_ | refine o2 ?_ | refine o3 ?_ | refine o4 ?_ | refine o5 ?_ | refine o6 ?_ | refine o7 ?_ | refine o8 ?_ | refine o9 ?_ | refine oa ?_ | refine ob ?_ | refine oc ?_ | refine od ?_ | refine oe ?_ | refine og ?_ | refine oh ?_ | refine oi ?_) | (with_reducible refine cExitMiss ?_ ?_; rfl) | (with_reducible refine ok ?_; first | refine ACode.condT rfl ?_ | refine ACode.condF rfl ?_)
  refine AOps.callC hΓ0 (cut_ok name (by omega)) rfl rfl rfl rfl rfl rfl rfl hou (by simp) ?_
  repeat first | (with_reducible refine oj ?_; refine AOps.auto tabOk rfl ?_) | (with_reducible first | refine o1 ?_ | refine o2 ?_ | refine o3 ?_ | refine o4 ?_ | refine o5 ?_ | refine o6 ?_ | refine o7 ?_ | refine o8 ?_ | refine o9 ?_ | refine oa ?_ | refine ob ?_ | refine oc ?_ | refine od ?_ | refine oe ?_ | refine og ?_ | refine oh ?_ | refine oi ?_) | (with_reducible refine cExitMiss ?_ ?_; rfl) | (with_reducible refine ok ?_; first | refine ACode.condT rfl ?_ | refine ACode.condF rfl ?_)
  refine ACode.cond rfl (fun hb => ?_) (fun hb => ?_)
  · have he : matchErr m s name = 3 := by rw [hme, if_pos hb]
    repeat first | (with_reducible refine oj ?_; refine AOps.auto tabOk rfl ?_) | (with_reducible first | refine o1 ?_ | refine o2 ?_ | refine o3 ?_ | refine o4 ?_ | refine o5 ?_ | refine o6 ?_ | refine o7 ?_ | refine o8 ?_ | refine o9 ?_ | refine oa ?_ | refine ob ?_ | refine oc ?_ | refine od ?_ | refine oe ?_ | refine og ?_ | refine oh ?_ | refine oi ?_) | (with_reducible refine cExitMiss ?_ ?_; rfl) | (with_reducible refine ok ?_; first | refine ACode.condT rfl ?_ | refine ACode.condF rfl ?_)
    refine APure.fin rfl (WkF.tup (.cons (.one (.trans (.nilS 5) (.ofEq ?_))) (.cons (.ofEq ?_) .nil))) (by simp; split <;> simp) hou rfl
    · rw [he]; simp
    · rw [he]
  rw [if_neg (by simp [hb])] at hme
  have km := chk_ok hm0
  have ks := chk_ok hs0
  have pM := km.par
  have pS := ks.par
  have smM := outerM_small (name := name) pM
  have smS := outerM_small (name := name) pS
  repeat first | (with_reducible refine oj ?_; refine AOps.auto tabOk rfl ?_) | (with_reducible first | refine o1 ?_ | refine o2 ?_ | refine o3 ?_ | refine o4 ?_ | refine o5 ?_ | refine o6 ?_ | refine o7 ?_ | refine o8 ?_ | refine o9 ?_ | refine oa ?_ | refine ob ?_ | refine oc ?_ | refine od ?_ | refine oe ?_ | refine og ?_ | refine oh ?_ | refine oi ?_) | (with_reducible refine cExitMiss ?_ ?_; rfl) | (with_reducible refine ok ?_; first | refine ACode.condT rfl ?_ | refine ACode.condF rfl ?_)
  refine AOps.callC hΓ0 (types_ok hΓ0 m s name hn hm.dl km.ds hm.d hs.dl hs.d pS) rfl rfl rfl rfl rfl rfl rfl hou (by simp) ?_
  repeat first | (with_reducible refine oj ?_; refine AOps.auto tabOk rfl ?_) | (with_reducible first | refine o1 ?_ | refine o2 ?_ | refine o3 ?_ | refine o4 ?_ | refine o5 ?_ | refine o6 ?_ | refine o7 ?_ | refine o8 ?_ | refine o9 ?_ | refine oa ?_ | refine ob ?_ | refine oc ?_ | refine od ?_ | refine oe ?_ | refine og ?_ | refine oh ?_ | refine oi ?_) | (with_reducible refine cExitMiss ?_ ?_; rfl) | (with_reducible refine ok ?_; first | refine ACode.condT rfl ?_ | refine ACode.condF rfl ?_)
  refine ACode.cond rfl (fun hb => ?_) (fun hb => ?_)
  · have hne : firstErr (typeErr m.datas) s.datas ≠ 0 := by simpa using hb
    have he : matchErr m s name = firstErr (typeErr m.datas) s.datas := by rw [hme, if_pos hne]
    repeat first | (with_reducible refine oj ?_; refine AOps.auto tabOk rfl ?_) | (with_reducible first | refine o1 ?_ | refine o2 ?_ | refine o3 ?_ | refine o4 ?_ | refine o5 ?_ | refine o6 ?_ | refine o7 ?_ | refine o8 ?_ | refine o9 ?_ | refine oa ?_ | refine ob ?_ | refine oc ?_ | refine od ?_ | refine oe ?_ | refine og ?_ | refine oh ?_ | refine oi ?_) | (with_reducible refine cExitMiss ?_ ?_; rfl) | (with_reducible refine ok ?_; first | refine ACode.condT rfl ?_ | refine ACode.condF rfl ?_)
    refine APure.fin rfl (WkF.tup (.cons (.one (.trans (.nilS 5) (.ofEq ?_))) (.cons (.ofEq ?_) .nil))) (by simp; split <;> simp) hou rfl
    · rw [he, if_neg hne]
    · rw [he]
  have ht0 : firstErr (typeErr m.datas) s.datas = 0 := by simpa using hb
  rw [if_neg (by simpa using ht0)] at hme
  simp only [ht0, if_true]
  repeat first | (with_reducible refine oj ?_; refine AOps.auto tabOk rfl ?_) | (with_reducible first | refine o1 ?_ | refine o2 ?_ | refine o3 ?_ | refine o4 ?_ | refine o5 ?_ | refine o6 ?_ | refine o7 ?_ | refine o8 ?_ | refine o9 ?_ | refine oa ?_ | refine ob ?_ | refine oc ?_ | refine od ?_ | refine oe ?_ | refine og ?_ | refine oh ?_ | refine oi ?_) | (with_reducible refine cExitMiss ?_ ?_; rfl) | (with_reducible refine ok ?_; first | refine ACode.condT rfl ?_ | refine ACode.condF rfl ?_)
  refine AOps.callC hΓ0 (outer_ok hΓ0 m name hn hm.dl hm.d pM) rfl rfl rfl rfl rfl rfl rfl hou (by simp) ?_
  repeat first | (with_reducible refine oj ?_; refine AOps.auto tabOk rfl ?_) | (with_reducible first | refine o1 ?_ | refine o2 ?_ | refine o3 ?_ | refine o4 ?_ | refine o5 ?_ | refine o6 ?_ | refine o7 ?_ | refine o8 ?_ | refine o9 ?_ | refine oa ?_ | refine ob ?_ | refine oc ?_ | refine od ?_ | refine oe ?_ | refine og ?_ | refine oh ?_ | refine oi ?_) | (with_reducible refine cExitMiss ?_ ?_; rfl) | (with_reducible refine ok ?_; first | refine ACode.condT rfl ?_ | refine ACode.condF rfl ?_)
  refine ACode.loopR hΓ0 (α := Nat) (fun j => [(45, .one (int j)), (44, .one (int (s.vals.map cVal).length)), (43, .one (.sl 7 (s.vals.map cVal))), (3, .one (.ptr (.l 0) 0)), (10, .one (.sl 5 ((outerM name s.datas).map cMap))), (12, .one (.sl 5 ((outerM name m.datas).map cMap)))])
    (fun j => ⟨1, [(0, .cells (cSpec m))], ou⟩) (fun k j => j ≤ s.vals.length ∧ (∀ x ∈ s.vals.take j, valErr m s name x = 0) ∧ k = s.vals.length - j) (a0 := 0) (ρ := id) ⟨by omega, by simp, rfl⟩ (LessR.of rfl (by (repeat' first | exact FrSub.nil | refine FrSub.cons rfl (.ofEq rfl) ?_ | refine FrSub.consP rfl (.ofEq rfl) (by simp) ?_)) (by simp) (by repeat' first | exact LoSub.nil | refine LoSub.cons rfl ?_ rfl (by simp) ?_ | rfl | (refine (AObj.ren_pure _ _ ?_).symm; simp; done) | (simp [AObj.ren, renL, AC.ren, cTy]; done) | (simp [AObj.ren, renL, AC.ren, cTy]; rfl)) rfl rfl hou) fun k j hj => ?_
  obtain ⟨hjl, hno, rfl⟩ := hj
  repeat first | (with_reducible refine oj ?_; refine AOps.auto tabOk rfl ?_) | (with_reducible first | refine o1 ?_ | refine o2 ?_ | refine o3 ?_ | refine o4 ?_ | refine o5 ?_ | refine o6 ?_ | refine o7 ?_ | refine o8 ?_ | refine o9 ?_ | refine oa ?_ | refine ob ?_ | refine oc ?_ | refine od ?_ | refine oe ?_ | refine og ?_ | refine oh ?_ | refine oi ?_) | (with_reducible refine cExitMiss ?_ ?_; rfl) | (with_reducible refine ok ?_; first | refine ACode.condT rfl ?_ | refine ACode.condF rfl ?_)
  refine ACode.cond rfl (fun hb2 => ?_) (fun hb2 => ?_)
  · have hlt : j < s.vals.length := by simpa using hb2
    obtain ⟨v, hv⟩ := get_of_lt hlt
    have hvm := List.mem_of_getElem? hv
    have hvl := hs.vl
    obtain ⟨i, h1, h2, h3⟩ := sorted_part (f := VSig.name) v.name km.vs
    repeat first | (with_reducible refine oj ?_; refine AOps.auto tabOk rfl ?_) | (with_reducible first | refine o1 ?_ | refine o2 ?_ | refine o3 ?_ | refine o4 ?_ | refine o5 ?_ | refine o6 ?_ | refine o7 ?_ | refine o8 ?_ | refine o9 ?_ | refine oa ?_ | refine ob ?_ | refine oc ?_ | refine od ?_ | refine oe ?_ | refine og ?_ | refine oh ?_ | refine oi ?_) | (with_reducible refine cExitMiss ?_ ?_; rfl) | (with_reducible refine ok ?_; first | refine ACode.condT rfl ?_ | refine ACode.condF rfl ?_)
    refine AOps.step1 rfl rfl rfl (AStep.indexAddr tabOk rfl rfl rfl rfl rfl rfl (.inl rfl) rfl (by omega) (map_get hv)) ?_
    repeat first | (with_reducible refine oj ?_; refine AOps.auto tabOk rfl ?_) | (with_reducible first | refine o1 ?_ | refine o2 ?_ | refine o3 ?_ | refine o4 ?_ | refine o5 ?_ | refine o6 ?_ | refine o7 ?_ | refine o8 ?_ | refine o9 ?_ | refine oa ?_ | refine ob ?_ | refine oc ?_ | refine od ?_ | refine oe ?_ | refine og ?_ | refine oh ?_ | refine oi ?_) | (with_reducible refine cExitMiss ?_ ?_; rfl) | (with_reducible refine ok ?_; first | refine ACode.condT rfl ?_ | refine ACode.condF rfl ?_)
    refine AOps.callC hΓ0 (BSF35_ok hΓ0 36 v.name (fun d => cmpStr d.name v.name) m.vals hm.vl i h1 h2 (fun a _ => matchF_ok hΓ0 a v.name)) rfl rfl rfl rfl rfl rfl rfl hou (by simp) ?_
    repeat first | (with_reducible refine oj ?_; refine AOps.auto tabOk rfl ?_) | (with_reducible first | refine o1 ?_ | refine o2 ?_ | refine o3 ?_ | refine o4 ?_ | refine o5 ?_ | refine o6 ?_ | refine o7 ?_ | refine o8 ?_ | refine o9 ?_ | refine oa ?_ | refine ob ?_ | refine oc ?_ | refine od ?_ | refine oe ?_ | refine og ?_ | refine oh ?_ | refine oi ?_) | (with_reducible refine cExitMiss ?_ ?_; rfl) | (with_reducible refine ok ?_; first | refine ACode.condT rfl ?_ | refine ACode.condF rfl ?_)
    have stop : ∀ e : Int, valErr m s name v = e → e ≠ 0 → matchErr m s name = e := fun e he hne => by
      have := firstErr_at hno hv (by rw [he]; exact hne)
      rw [hme, this, he]
    refine ACode.cond rfl (fun hb3 => ?_) (fun hb3 => ?_)
    · have hn2 : findBy VSig.name v.name m.vals = none := by
        rw [← h3]
        unfold hitAt at hb3
        cases hg : m.vals[i]? with
        | none => rfl
        | some a => rw [hg] at hb3; simp at hb3; simp [hb3]
      have he := stop 6 (by simp [valErr, hn2]) (by decide)
      repeat first | (with_reducible refine oj ?_; refine AOps.auto tabOk rfl ?_) | (with_reducible first | refine o1 ?_ | refine o2 ?_ | refine o3 ?_ | refine o4 ?_ | refine o5 ?_ | refine o6 ?_ | refine o7 ?_ | refine o8 ?_ | refine o9 ?_ | refine oa ?_ | refine ob ?_ | refine oc ?_ | refine od ?_ | refine oe ?_ | refine og ?_ | refine oh ?_ | refine oi ?_) | (with_reducible refine cExitMiss ?_ ?_; rfl) | (with_reducible refine ok ?_; first | refine ACode.condT rfl ?_ | refine ACode.condF rfl ?_)
      refine APure.fin rfl (WkF.tup (.cons (.one (.trans (.nilS 5) (.ofEq ?_))) (.cons (.ofEq ?_) .nil))) (by simp; split <;> simp) hou rfl
      · rw [he]; simp
      · rw [he]
    have hh : hitAt (fun d => cmpStr d.name v.name) m.vals i = true := by simpa using hb3
    unfold hitAt at hh
    cases hg : m.vals[i]? with
    | none => rw [hg] at hh; cases hh
    | some x =>
    rw [hg] at hh
    have hn2 : findBy VSig.name v.name m.vals = some x := by rw [← h3, hg]; simp only [hh, if_true]
    have hxm := List.mem_of_getElem? hg
    have okx := hm.v x hxm
    have okv := hs.v v hvm
    have hil : i < m.vals.length := (List.getElem?_eq_some_iff.1 hg).1
    have hml := hm.vl
    have c1 := mapped_ok hΓ0 x.sch okx (outerM name m.datas) (by rw [outerM_len]; exact hm.dl) smM
    have c2 := mapped_ok hΓ0 v.sch okv (outerM name s.datas) (by rw [outerM_len]; exact hs.dl) smS
    have pr : ∀ (l : List SMap) (hl : ∀ m ∈ l, smallTy m.ty ∧ posTy m.ty) (c : Sch), okSch c → smallTy (mapSch l c).ty ∧ (∀ p ∈ (mapSch l c).preds, smallTy p.ty) ∧ (mapSch l c).preds.length ≤ 1048576 := fun l hl c hc => by
      refine ⟨smallTy_subst l (fun m hm => (hl m hm).1) _ hc.2.1, fun p hp => ?_, by simpa [mapSch] using hc.1⟩
      simp [mapSch, mapPrds] at hp
      obtain ⟨q, hq, rfl⟩ := hp
      exact smallTy_subst l (fun m hm => (hl m hm).1) _ (hc.2.2 q hq)
    have px := pr _ smM _ okx
    have pv := pr _ smS _ okv
    have c3 := general_ok hΓ0 hΓF0 (mapSch (outerM name m.datas) x.sch) (mapSch (outerM name s.datas) v.sch) px.1 pv.1 px.2.1 pv.2.1 px.2.2 pv.2.2
    repeat first | (with_reducible refine oj ?_; refine AOps.auto tabOk rfl ?_) | (with_reducible first | refine o1 ?_ | refine o2 ?_ | refine o3 ?_ | refine o4 ?_ | refine o5 ?_ | refine o6 ?_ | refine o7 ?_ | refine o8 ?_ | refine o9 ?_ | refine oa ?_ | refine ob ?_ | refine oc ?_ | refine od ?_ | refine oe ?_ | refine og ?_ | refine oh ?_ | refine oi ?_) | (with_reducible refine cExitMiss ?_ ?_; rfl) | (with_reducible refine ok ?_; first | refine ACode.condT rfl ?_ | refine ACode.condF rfl ?_)
    refine ACode.drawX tabOk 13 [(3, .one (.box (cVal x))), (7, .agg (cSch (mapSch (outerM name m.datas) x.sch))), (11, .agg (cSch (mapSch (outerM name s.datas) v.sch))), (12, .one (.lit (.bool (genB (mapSch (outerM name m.datas) x.sch) (mapSch (outerM name s.datas) v.sch)))))] follows (by kernel_rfl) rfl rfl rfl rfl ?_ ?_
    · refine .step rfl (HStep.plain rfl (AStep.indexAddr tabOk rfl rfl rfl rfl rfl rfl (.inl rfl) rfl (by omega) (map_get hg))) ?_
      refine .call hΓ0 c1 hou (by simp) rfl rfl rfl rfl rfl rfl ?_
      refine .call hΓ0 c2 hou (by simp) rfl rfl rfl rfl rfl rfl ?_
      exact .call hΓ0 c3 hou (by simp) rfl rfl rfl rfl rfl rfl .nil
    repeat first | (with_reducible refine oj ?_; refine AOps.auto tabOk rfl ?_) | (with_reducible first | refine o1 ?_ | refine o2 ?_ | refine o3 ?_ | refine o4 ?_ | refine o5 ?_ | refine o6 ?_ | refine o7 ?_ | refine o8 ?_ | refine o9 ?_ | refine oa ?_ | refine ob ?_ | refine oc ?_ | refine od ?_ | refine oe ?_ | refine og ?_ | refine oh ?_ | refine oi ?_) | (with_reducible refine cExitMiss ?_ ?_; rfl) | (with_reducible refine ok ?_; first | refine ACode.condT rfl ?_ | refine ACode.condF rfl ?_)
    refine ACode.cond rfl (fun hb4 => ?_) (fun hb4 => ?_)
    · have hgn : genB (mapSch (outerM name m.datas) x.sch) (mapSch (outerM name s.datas) v.sch) = false := by simpa using hb4
      have he := stop 10 (by simp [valErr, hn2, hgn]) (by decide)
      repeat first | (with_reducible refine oj ?_; refine AOps.auto tabOk rfl ?_) | (with_reducible first | refine o1 ?_ | refine o2 ?_ | refine o3 ?_ | refine o4 ?_ | refine o5 ?_ | refine o6 ?_ | refine o7 ?_ | refine o8 ?_ | refine o9 ?_ | refine oa ?_ | refine ob ?_ | refine oc ?_ | refine od ?_ | refine oe ?_ | refine og ?_ | refine oh ?_ | refine oi ?_) | (with_reducible refine cExitMiss ?_ ?_; rfl) | (with_reducible refine ok ?_; first | refine ACode.condT rfl ?_ | refine ACode.condF rfl ?_)
      refine APure.fin rfl (WkF.tup (.cons (.one (.trans (.nilS 5) (.ofEq ?_))) (.cons (.ofEq ?_) .nil))) (by simp; split <;> simp) hou rfl
      · rw [he]; simp
      · rw [he]
    · have hgy : genB (mapSch (outerM name m.datas) x.sch) (mapSch (outerM name s.datas) v.sch) = true := by simpa using hb4
      have he : valErr m s name v = 0 := by simp [valErr, hn2, hgy]
      repeat first | (with_reducible refine oj ?_; refine AOps.auto tabOk rfl ?_) | (with_reducible first | refine o1 ?_ | refine o2 ?_ | refine o3 ?_ | refine o4 ?_ | refine o5 ?_ | refine o6 ?_ | refine o7 ?_ | refine o8 ?_ | refine o9 ?_ | refine oa ?_ | refine ob ?_ | refine oc ?_ | refine od ?_ | refine oe ?_ | refine og ?_ | refine oh ?_ | refine oi ?_) | (with_reducible refine cExitMiss ?_ ?_; rfl) | (with_reducible refine ok ?_; first | refine ACode.condT rfl ?_ | refine ACode.condF rfl ?_)
      refine AOps.step1 rfl rfl rfl (AStep.arith rfl rfl rfl (.inl ⟨rfl, rfl⟩) (inRange_i64 (by omega) (by omega))) ?_
      repeat first | (with_reducible refine oj ?_; refine AOps.auto tabOk rfl ?_) | (with_reducible first | refine o1 ?_ | refine o2 ?_ | refine o3 ?_ | refine o4 ?_ | refine o5 ?_ | refine o6 ?_ | refine o7 ?_ | refine o8 ?_ | refine o9 ?_ | refine oa ?_ | refine ob ?_ | refine oc ?_ | refine od ?_ | refine oe ?_ | refine og ?_ | refine oh ?_ | refine oi ?_) | (with_reducible refine cExitMiss ?_ ?_; rfl) | (with_reducible refine ok ?_; first | refine ACode.condT rfl ?_ | refine ACode.condF rfl ?_)
      exact cInv ⟨s.vals.length - (j + 1), j + 1, id, by omega, ⟨by omega, take_all hno hv he, rfl⟩, LessR.of rfl (by (repeat' first | exact FrSub.nil | refine FrSub.cons rfl (.ofEq rfl) ?_ | refine FrSub.consP rfl (.ofEq rfl) (by simp) ?_)) (by simp) (by repeat' first | exact LoSub.nil | refine LoSub.cons rfl ?_ rfl (by simp) ?_ | rfl | (refine (AObj.ren_pure _ _ ?_).symm; simp; done) | (simp [AObj.ren, renL, AC.ren, cTy]; done) | (simp [AObj.ren, renL, AC.ren, cTy]; rfl)) rfl rfl hou⟩
  · have hlt : j = s.vals.length := by simp at hb2; omega
    subst hlt
    rw [List.take_length] at hno
    have hfe := firstErr_all hno
    repeat first | (with_reducible refine oj ?_; refine AOps.auto tabOk rfl ?_) | (with_reducible first | refine o1 ?_ | refine o2 ?_ | refine o3 ?_ | refine o4 ?_ | refine o5 ?_ | refine o6 ?_ | refine o7 ?_ | refine o8 ?_ | refine o9 ?_ | refine oa ?_ | refine ob ?_ | refine oc ?_ | refine od ?_ | refine oe ?_ | refine og ?_ | refine oh ?_ | refine oi ?_) | (with_reducible refine cExitMiss ?_ ?_; rfl) | (with_reducible refine ok ?_; first | refine ACode.condT rfl ?_ | refine ACode.condF rfl ?_)
    refine APure.fin rfl (WkF.tup (.cons (.ofEq ?_) (.cons (.ofEq ?_) .nil))) (by simp; split <;> simp) hou rfl
    · rw [hme, hfe]; simp
    · rw [hme, hfe]
end Go.Proofs.YtoojdmgbffnmiaaDoor
/- signatureFact: it is true. -/
namespace Go.Proofs.YtoojdmgbffnmiaaDoor
open Go Go.Abs
set_option maxRecDepth 10000
set_option linter.unusedVariables false
set_option linter.unusedSimpArgs false
variable {Γ : List (Nat × List AC)}
def factD : DSig := ⟨nmT, 0, []⟩
def factS : Spec := ⟨[factD], []⟩
theorem fact_chk : chkErr cutN factS = 0 := by
  have h1 : datErr cutN factD = 0 := by simp [datErr, factD, cut_t, firstErr]
  have h2 : datAt cutN factS.datas 0 = 0 := by
    show (if datErr cutN factD ≠ 0 then datErr cutN factD else if ordBad DSig.name factS.datas 0 = true then 7 else 0) = 0
    rw [h1]; rfl
  have h3 : firstErr (datAt cutN factS.datas) (List.range factS.datas.length) = 0 := by
    show firstErr _ [0] = 0
    simp only [firstErr, h2]; rfl
  unfold chkErr
  rw [if_neg (by simp [factS]), h3, if_neg (by simp)]
  rfl
theorem fact_match : matchErr factS factS nmM = 0 := by
  have h : typeErr factS.datas factD = 0 := by
    simp [typeErr, factS, factD, findBy, cmpStr_self]
  unfold matchErr
  rw [fact_chk]
  have h2 : firstErr (typeErr factS.datas) factS.datas = 0 := by
    show firstErr _ [factD] = 0
    simp only [firstErr, h]; rfl
  rw [if_neg (by simp), if_neg (by simp), cut_M, if_neg (by simp), h2, if_neg (by simp)]
  rfl
theorem fact_ok : okSpec factS where
  dl := by simp [factS]
  vl := by simp [factS]
  d := by
    intro d hd
    simp [factS] at hd; subst hd
    exact ⟨by decide, by decide, by simp [factD]⟩
  v := by simp [factS]
  all := by show ([] : List Ty).length ≤ _; simp
  sm := by show ∀ t ∈ ([] : List Ty), _; simp
theorem fact_sz : SzS factS where
  d := by
    intro d hd
    simp [factS] at hd; subst hd; decide
  c := by
    intro d hd
    simp [factS] at hd; subst hd; simp [factD]
  v := by simp [factS]
  p := by simp [factS]
theorem front_name : nmM ++ dot ++ nmT = (⟨#[77, 46, 116]⟩ : Str) := by decide
theorem fact_true : APure Tryd.prog Γ0 14 [] (.one (.lit (.bool true))) := by
  intro ou
  refine AFn.walk 35 tabOk Tryd.func14 rfl (by kernel_rfl) rfl rfl fun hou => ?_
  repeat first | (with_reducible refine oj ?_; refine AOps.auto tabOk rfl ?_) | (with_reducible first | refine o1 ?_ | refine o2 ?_ | refine o3 ?_ | refine o4 ?_ | refine o5 ?_ | refine o6 ?_ | refine o7 ?_ | refine o8 ?_ | refine o9 ?_ | refine oa ?_ | refine ob ?_ | refine oc ?_ | refine od ?_ | refine oe ?_ | refine og ?_ | refine oh ?_ | refine oi ?_) | (with_reducible refine cExitMiss ?_ ?_; rfl) | (with_reducible refine ok ?_; first | refine ACode.condT rfl ?_ | refine ACode.condF rfl ?_)
  refine AOps.wk 8 (y := .agg (cSpec factS)) rfl (WkF.agg' (.cons (.sl (.cons (.cons (.refl _) (.cons (.refl _) (.cons (.nilS _) .nil))) .nil)) (.cons (.nilS _) .nil))) ?_
  refine AOps.wk 9 (y := .agg (cSpec factS)) rfl (WkF.agg' (.cons (.sl (.cons (.cons (.refl _) (.cons (.refl _) (.cons (.nilS _) .nil))) .nil)) (.cons (.nilS _) .nil))) ?_
  have hc := Match_ok factS factS nmM fact_ok fact_ok fact_sz fact_sz (by decide)
  rw [fact_match] at hc
  refine AOps.callC hΓ0 hc rfl rfl rfl rfl rfl rfl rfl hou (by simp) ?_
  simp only [if_true]
  repeat first | (with_reducible refine oj ?_; refine AOps.auto tabOk rfl ?_) | (with_reducible first | refine o1 ?_ | refine o2 ?_ | refine o3 ?_ | refine o4 ?_ | refine o5 ?_ | refine o6 ?_ | refine o7 ?_ | refine o8 ?_ | refine o9 ?_ | refine oa ?_ | refine ob ?_ | refine oc ?_ | refine od ?_ | refine oe ?_ | refine og ?_ | refine oh ?_ | refine oi ?_) | (with_reducible refine cExitMiss ?_ ?_; rfl) | (with_reducible refine ok ?_; first | refine ACode.condT rfl ?_ | refine ACode.condF rfl ?_)
  refine AOps.unG rfl rfl rfl ?_
  refine AOps.step1 rfl rfl rfl (AStep.indexAddr tabOk rfl rfl rfl rfl rfl rfl (.inl rfl) rfl (by omega) (map_get (x := front nmM factD) rfl)) ?_
  repeat first | (with_reducible refine oj ?_; refine AOps.auto tabOk rfl ?_) | (with_reducible first | refine o1 ?_ | refine o2 ?_ | refine o3 ?_ | refine o4 ?_ | refine o5 ?_ | refine o6 ?_ | refine o7 ?_ | refine o8 ?_ | refine o9 ?_ | refine oa ?_ | refine ob ?_ | refine oc ?_ | refine od ?_ | refine oe ?_ | refine og ?_ | refine oh ?_ | refine oi ?_) | (with_reducible refine cExitMiss ?_ ?_; rfl) | (with_reducible refine ok ?_; first | refine ACode.condT rfl ?_ | refine ACode.condF rfl ?_)
  have e1 : (nmT.toList == (⟨#[116]⟩ : Str).toList) = true := str_eq.2 rfl
  have e2 : ((nmM ++ dot ++ nmT).toList == (⟨#[77, 46, 116]⟩ : Str).toList) = true := str_eq.2 front_name
  refine AOps.splitG rfl rfl rfl (fun hv => ?_) (fun hv => ?_)
  · repeat first | (with_reducible refine oj ?_; refine AOps.auto tabOk rfl ?_) | (with_reducible first | refine o1 ?_ | refine o2 ?_ | refine o3 ?_ | refine o4 ?_ | refine o5 ?_ | refine o6 ?_ | refine o7 ?_ | refine o8 ?_ | refine o9 ?_ | refine oa ?_ | refine ob ?_ | refine oc ?_ | refine od ?_ | refine oe ?_ | refine og ?_ | refine oh ?_ | refine oi ?_) | (with_reducible refine cExitMiss ?_ ?_; rfl) | (with_reducible refine ok ?_; first | refine ACode.condT rfl ?_ | refine ACode.condF rfl ?_)
    refine AOps.unG rfl rfl rfl ?_
    refine AOps.step1 rfl rfl rfl (AStep.indexAddr tabOk rfl rfl rfl rfl rfl rfl (.inl rfl) rfl (by omega) (map_get (x := front nmM factD) rfl)) ?_
    repeat first | (with_reducible refine oj ?_; refine AOps.auto tabOk rfl ?_) | (with_reducible first | refine o1 ?_ | refine o2 ?_ | refine o3 ?_ | refine o4 ?_ | refine o5 ?_ | refine o6 ?_ | refine o7 ?_ | refine o8 ?_ | refine o9 ?_ | refine oa ?_ | refine ob ?_ | refine oc ?_ | refine od ?_ | refine oe ?_ | refine og ?_ | refine oh ?_ | refine oi ?_) | (with_reducible refine cExitMiss ?_ ?_; rfl) | (with_reducible refine ok ?_; first | refine ACode.condT rfl ?_ | refine ACode.condF rfl ?_)
    exact APure.fin rfl (WkF.ofEq (by rw [← e2]; rfl)) (by simp) hou rfl
  · rw [show ((front nmM factD).name.toList == (⟨#[116]⟩ : Str).toList) = true from e1] at hv
    cases hv
end Go.Proofs.YtoojdmgbffnmiaaDoor
/- SignatureSubst: the law, and its walk. -/
namespace Go.Proofs.YtoojdmgbffnmiaaDoor
open Go Go.Abs
set_option maxRecDepth 10000
set_option linter.unusedVariables false
set_option linter.unusedSimpArgs false
def nmNone : Str := ⟨#[110, 111, 110, 101]⟩
def nmNew : Str := ⟨#[110, 101, 119, 32, 105, 110, 116]⟩
def nmInt : Str := ⟨#[105, 110, 116]⟩
def nmX : Str := ⟨#[120]⟩
def sub1 (n c : Str) : List SMap := [⟨n, .mk 1 c 0 []⟩]
theorem sub1_hit (n c : Str) (v : Int) (us : List Ty) : substTy (sub1 n c) (.mk 1 n v us) = .mk 1 c 0 [] := by
  have : (n.toList == n.toList) = true := by simp
  simp [substTy, findMap, sub1, fillTy, fillTys]
theorem sub1_miss {n c m : Str} (k v : Int) (us : List Ty) (h : ¬ (k = 1 ∧ n = m)) : substTy (sub1 n c) (.mk k m v us) = .mk k m v (substTys (sub1 n c) us) := by
  simp only [substTy]
  split
  · rename_i hk
    have hne : (n.toList == m.toList) = false := by
      cases hb : (n.toList == m.toList) with
      | false => rfl
      | true => exact absurd ⟨hk, str_eq.1 hb⟩ h
    simp [findMap, sub1, hne]
  · rfl
def twoD : List DSig := [⟨nmNone, 0, []⟩, ⟨nmNew, 0, []⟩]
theorem ment_not {k v : Int} {n : Str} {us : List Ty} (h : ment twoD (.mk k n v us) = false) : ¬ (k = 1 ∧ nmNone = n) ∧ ¬ (k = 1 ∧ nmNew = n) ∧ ments twoD us = false := by
  simp only [ment, Bool.or_eq_false_iff, Bool.and_eq_false_iff] at h
  refine ⟨fun ⟨h1, h2⟩ => ?_, fun ⟨h1, h2⟩ => ?_, h.2⟩
  · rcases h.1 with h3 | h3
    · simp [h1] at h3
    · subst h2; simp [twoD] at h3
  · rcases h.1 with h3 | h3
    · simp [h1] at h3
    · subst h2; simp [twoD] at h3
mutual
theorem subst_same (c : Str) : ∀ t : Ty, ment twoD t = false → substTy (sub1 nmNone c) t = t
  | .mk k n v us, h => by
    obtain ⟨h1, _, h3⟩ := ment_not h
    rw [sub1_miss k v us h1, substs_same c us h3]
theorem substs_same (c : Str) : ∀ ts : List Ty, ments twoD ts = false → substTys (sub1 nmNone c) ts = ts
  | [], _ => rfl
  | t :: ts, h => by
    simp only [ments, Bool.or_eq_false_iff] at h
    simp only [substTys, subst_same c t h.1, substs_same c ts h.2]
end
mutual
theorem subst_back : ∀ t : Ty, ment twoD t = false → substTy (sub1 nmNew nmInt) (substTy (sub1 nmInt nmNew) t) = substTy (sub1 nmInt nmInt) t
  | .mk k n v us, h => by
    obtain ⟨_, h2, h3⟩ := ment_not h
    by_cases hk : k = 1 ∧ nmInt = n
    · obtain ⟨rfl, rfl⟩ := hk
      rw [sub1_hit, sub1_hit, sub1_hit]
    · rw [sub1_miss k v us hk, sub1_miss k v us hk, sub1_miss k v _ h2, substs_back us h3]
theorem substs_back : ∀ ts : List Ty, ments twoD ts = false → substTys (sub1 nmNew nmInt) (substTys (sub1 nmInt nmNew) ts) = substTys (sub1 nmInt nmInt) ts
  | [], _ => rfl
  | t :: ts, h => by
    simp only [ments, Bool.or_eq_false_iff] at h
    simp only [substTys, subst_back t h.1, substs_back ts h.2]
end
mutual
theorem sub1_w (n c : Str) (hc : c.size ≤ 100) : ∀ t : Ty, wTy (substTy (sub1 n c) t) ≤ 2 * wTy t ∧ (rngTy t → rngTy (substTy (sub1 n c) t))
  | .mk k m v us => by
    have ih := subs1_w n c hc us
    by_cases hk : k = 1 ∧ n = m
    · obtain ⟨rfl, rfl⟩ := hk
      rw [sub1_hit]
      refine ⟨by simp only [wTy, wTys]; omega, fun _ => ?_⟩
      simp [rngTy, rngTys]
    · rw [sub1_miss k v us hk]
      refine ⟨by simp only [wTy]; omega, fun h => ?_⟩
      simp only [rngTy] at h ⊢
      exact ⟨h.1, h.2.1, ih.2 h.2.2⟩
theorem subs1_w (n c : Str) (hc : c.size ≤ 100) : ∀ ts : List Ty, wTys (substTys (sub1 n c) ts) ≤ 2 * wTys ts ∧ (rngTys ts → rngTys (substTys (sub1 n c) ts))
  | [] => by simp [substTys, wTys]
  | t :: ts => by
    have h1 := sub1_w n c hc t
    have h2 := subs1_w n c hc ts
    simp only [substTys, wTys, rngTys]
    exact ⟨by omega, fun h => ⟨h1.2 h.1, h2.2 h.2⟩⟩
end
theorem sub1_small (n c : Str) : ∀ m ∈ sub1 n c, smallTy m.ty ∧ posTy m.ty := by
  intro m hm
  simp [sub1] at hm; subst hm
  exact ⟨⟨by simp, trivial⟩, ⟨fun h => absurd (show (1 : Int) = 0 from h) (by decide), trivial⟩⟩
theorem Subst1_ok (n c : Str) (t : Ty) (ht : smallTy t) : APure Tryd.prog Γ0 18 [.agg (cTy t), .one (.sl 5 ((sub1 n c).map cMap))] (.agg (cTy (substTy (sub1 n c) t))) :=
  Subst_ok hΓ0 (sub1 n c) (by simp [sub1]) (sub1_small n c) t ht
theorem SignatureSubst_ok (t : Ty) (ht : smallTy t) (hr : rngTy t) (hw : wTy t ≤ 274877906944) : APure Tryd.prog Γ0 5 [.agg (cTy t)] (.one (.lit (.bool true))) := by
  intro ou
  refine AFn.walk 47 tabOk Tryd.func5 rfl (by kernel_rfl) rfl rfl fun hou => ?_
  repeat first | (with_reducible refine oj ?_; refine AOps.auto tabOk rfl ?_) | (with_reducible first | refine o1 ?_ | refine o2 ?_ | refine o3 ?_ | refine o4 ?_ | refine o5 ?_ | refine o6 ?_ | refine o7 ?_ | refine o8 ?_ | refine o9 ?_ | refine oa ?_ | refine ob ?_ | refine oc ?_ | refine od ?_ | refine oe ?_ | refine og ?_ | refine oh ?_ | refine oi ?_) | (with_reducible refine cExitMiss ?_ ?_; rfl) | (with_reducible refine ok ?_; first | refine ACode.condT rfl ?_ | refine ACode.condF rfl ?_)
  refine AOps.callC hΓ0 fact_true rfl rfl rfl rfl rfl rfl rfl hou (by simp) ?_
  repeat first | (with_reducible refine oj ?_; refine AOps.auto tabOk rfl ?_) | (with_reducible first | refine o1 ?_ | refine o2 ?_ | refine o3 ?_ | refine o4 ?_ | refine o5 ?_ | refine o6 ?_ | refine o7 ?_ | refine o8 ?_ | refine o9 ?_ | refine oa ?_ | refine ob ?_ | refine oc ?_ | refine od ?_ | refine oe ?_ | refine og ?_ | refine oh ?_ | refine oi ?_) | (with_reducible refine cExitMiss ?_ ?_; rfl) | (with_reducible refine ok ?_; first | refine ACode.condT rfl ?_ | refine ACode.condF rfl ?_)
  refine AOps.wk 13 (y := .one (.sl 3 (twoD.map cData))) rfl (.one (.sl (.cons (.cons (.refl _) (.cons (.refl _) (.cons (.nilS _) .nil))) (.cons (.cons (.refl _) (.cons (.refl _) (.cons (.nilS _) .nil))) .nil)))) ?_
  refine AOps.callC hΓ0 (mentions_ok twoD (by simp [twoD]) t ht) rfl rfl rfl rfl rfl rfl rfl hou (by simp) ?_
  repeat first | (with_reducible refine oj ?_; refine AOps.auto tabOk rfl ?_) | (with_reducible first | refine o1 ?_ | refine o2 ?_ | refine o3 ?_ | refine o4 ?_ | refine o5 ?_ | refine o6 ?_ | refine o7 ?_ | refine o8 ?_ | refine o9 ?_ | refine oa ?_ | refine ob ?_ | refine oc ?_ | refine od ?_ | refine oe ?_ | refine og ?_ | refine oh ?_ | refine oi ?_) | (with_reducible refine cExitMiss ?_ ?_; rfl) | (with_reducible refine ok ?_; first | refine ACode.condT rfl ?_ | refine ACode.condF rfl ?_)
  refine ACode.cond rfl (fun hb => ?_) (fun hb => ?_)
  · repeat first | (with_reducible refine oj ?_; refine AOps.auto tabOk rfl ?_) | (with_reducible first | refine o1 ?_ | refine o2 ?_ | refine o3 ?_ | refine o4 ?_ | refine o5 ?_ | refine o6 ?_ | refine o7 ?_ | refine o8 ?_ | refine o9 ?_ | refine oa ?_ | refine ob ?_ | refine oc ?_ | refine od ?_ | refine oe ?_ | refine og ?_ | refine oh ?_ | refine oi ?_) | (with_reducible refine cExitMiss ?_ ?_; rfl) | (with_reducible refine ok ?_; first | refine ACode.condT rfl ?_ | refine ACode.condF rfl ?_)
    exact APure.fin rfl (WkF.ofEq rfl) (by simp) hou rfl
  have hss := fun (n c : Str) => smallTy_subst (sub1 n c) (fun m hm => (sub1_small n c m hm).1) t ht
  repeat first | (with_reducible refine oj ?_; refine AOps.auto tabOk rfl ?_) | (with_reducible first | refine o1 ?_ | refine o2 ?_ | refine o3 ?_ | refine o4 ?_ | refine o5 ?_ | refine o6 ?_ | refine o7 ?_ | refine o8 ?_ | refine o9 ?_ | refine oa ?_ | refine ob ?_ | refine oc ?_ | refine od ?_ | refine oe ?_ | refine og ?_ | refine oh ?_ | refine oi ?_) | (with_reducible refine cExitMiss ?_ ?_; rfl) | (with_reducible refine ok ?_; first | refine ACode.condT rfl ?_ | refine ACode.condF rfl ?_)
  refine ACode.drawXA tabOk 7 6 [(2, .agg (cTy (.mk 1 nmX 0 []))), (5, .agg (cTy (substTy (sub1 nmNone nmX) t)))] follows (by kernel_rfl) rfl rfl rfl rfl rfl rfl rfl rfl rfl ?_ ?_ ?_
  · refine .call hΓ0 (con_ok nmX) hou (by simp) rfl rfl rfl rfl rfl rfl ?_
    exact .call hΓ0 (Subst1_ok nmNone nmX t ht) hou (by simp) rfl rfl rfl rfl rfl rfl .nil
  · refine .call hΓ0 (con_ok nmX) hou (by simp) rfl rfl rfl rfl rfl rfl ?_
    exact .call hΓ0 (Subst1_ok nmNone nmX t ht) hou (by simp) rfl rfl rfl rfl rfl rfl .nil
  repeat first | (with_reducible refine oj ?_; refine AOps.auto tabOk rfl ?_) | (with_reducible first | refine o1 ?_ | refine o2 ?_ | refine o3 ?_ | refine o4 ?_ | refine o5 ?_ | refine o6 ?_ | refine o7 ?_ | refine o8 ?_ | refine o9 ?_ | refine oa ?_ | refine ob ?_ | refine oc ?_ | refine od ?_ | refine oe ?_ | refine og ?_ | refine oh ?_ | refine oi ?_) | (with_reducible refine cExitMiss ?_ ?_; rfl) | (with_reducible refine ok ?_; first | refine ACode.condT rfl ?_ | refine ACode.condF rfl ?_)
  refine ACode.drawXA tabOk 7 6 [(2, .agg (cTy (.mk 1 nmNew 0 []))), (5, .agg (cTy (substTy (sub1 nmInt nmNew) t)))] follows (by kernel_rfl) rfl rfl rfl rfl rfl rfl rfl rfl rfl ?_ ?_ ?_
  · refine .call hΓ0 (con_ok nmNew) hou (by simp) rfl rfl rfl rfl rfl rfl ?_
    exact .call hΓ0 (Subst1_ok nmInt nmNew t ht) hou (by simp) rfl rfl rfl rfl rfl rfl .nil
  · refine .call hΓ0 (con_ok nmNew) hou (by simp) rfl rfl rfl rfl rfl rfl ?_
    exact .call hΓ0 (Subst1_ok nmInt nmNew t ht) hou (by simp) rfl rfl rfl rfl rfl rfl .nil
  repeat first | (with_reducible refine oj ?_; refine AOps.auto tabOk rfl ?_) | (with_reducible first | refine o1 ?_ | refine o2 ?_ | refine o3 ?_ | refine o4 ?_ | refine o5 ?_ | refine o6 ?_ | refine o7 ?_ | refine o8 ?_ | refine o9 ?_ | refine oa ?_ | refine ob ?_ | refine oc ?_ | refine od ?_ | refine oe ?_ | refine og ?_ | refine oh ?_ | refine oi ?_) | (with_reducible refine cExitMiss ?_ ?_; rfl) | (with_reducible refine ok ?_; first | refine ACode.condT rfl ?_ | refine ACode.condF rfl ?_)
  refine ACode.drawXA tabOk 7 6 [(2, .agg (cTy (.mk 1 nmInt 0 []))), (5, .agg (cTy (substTy (sub1 nmNew nmInt) (substTy (sub1 nmInt nmNew) t))))] follows (by kernel_rfl) rfl rfl rfl rfl rfl rfl rfl rfl rfl ?_ ?_ ?_
  · refine .call hΓ0 (con_ok nmInt) hou (by simp) rfl rfl rfl rfl rfl rfl ?_
    exact .call hΓ0 (Subst1_ok nmNew nmInt (substTy (sub1 nmInt nmNew) t) (hss nmInt nmNew)) hou (by simp) rfl rfl rfl rfl rfl rfl .nil
  · refine .call hΓ0 (con_ok nmInt) hou (by simp) rfl rfl rfl rfl rfl rfl ?_
    exact .call hΓ0 (Subst1_ok nmNew nmInt (substTy (sub1 nmInt nmNew) t) (hss nmInt nmNew)) hou (by simp) rfl rfl rfl rfl rfl rfl .nil
  repeat first | (with_reducible refine oj ?_; refine AOps.auto tabOk rfl ?_) | (with_reducible first | refine o1 ?_ | refine o2 ?_ | refine o3 ?_ | refine o4 ?_ | refine o5 ?_ | refine o6 ?_ | refine o7 ?_ | refine o8 ?_ | refine o9 ?_ | refine oa ?_ | refine ob ?_ | refine oc ?_ | refine od ?_ | refine oe ?_ | refine og ?_ | refine oh ?_ | refine oi ?_) | (with_reducible refine cExitMiss ?_ ?_; rfl) | (with_reducible refine ok ?_; first | refine ACode.condT rfl ?_ | refine ACode.condF rfl ?_)
  refine ACode.drawXA tabOk 7 6 [(2, .agg (cTy (.mk 1 nmInt 0 []))), (5, .agg (cTy (substTy (sub1 nmInt nmInt) t)))] follows (by kernel_rfl) rfl rfl rfl rfl rfl rfl rfl rfl rfl ?_ ?_ ?_
  · refine .call hΓ0 (con_ok nmInt) hou (by simp) rfl rfl rfl rfl rfl rfl ?_
    exact .call hΓ0 (Subst1_ok nmInt nmInt t ht) hou (by simp) rfl rfl rfl rfl rfl rfl .nil
  · refine .call hΓ0 (con_ok nmInt) hou (by simp) rfl rfl rfl rfl rfl rfl ?_
    exact .call hΓ0 (Subst1_ok nmInt nmInt t ht) hou (by simp) rfl rfl rfl rfl rfl rfl .nil
  repeat first | (with_reducible refine oj ?_; refine AOps.auto tabOk rfl ?_) | (with_reducible first | refine o1 ?_ | refine o2 ?_ | refine o3 ?_ | refine o4 ?_ | refine o5 ?_ | refine o6 ?_ | refine o7 ?_ | refine o8 ?_ | refine o9 ?_ | refine oa ?_ | refine ob ?_ | refine oc ?_ | refine od ?_ | refine oe ?_ | refine og ?_ | refine oh ?_ | refine oi ?_) | (with_reducible refine cExitMiss ?_ ?_; rfl) | (with_reducible refine ok ?_; first | refine ACode.condT rfl ?_ | refine ACode.condF rfl ?_)
  have e1 := subst_same nmX t hb
  have e2 := subst_back t hb
  have w1 := sub1_w nmInt nmInt (by decide) t
  have c1 := SameType_ok hΓ0 (substTy (sub1 nmNone nmX) t) t (by rw [e1]; exact ht) (by rw [e1]; exact hr) (by rw [e1]; omega) ht hr (by omega)
  have c2 := SameType_ok hΓ0 (substTy (sub1 nmNew nmInt) (substTy (sub1 nmInt nmNew) t)) (substTy (sub1 nmInt nmInt) t) (by rw [e2]; exact hss _ _) (by rw [e2]; exact w1.2 hr) (by rw [e2]; omega) (hss _ _) (w1.2 hr) (by omega)
  rw [show ((textTy (substTy (sub1 nmNone nmX) t)).toList == (textTy t).toList) = true by rw [e1]; simp] at c1
  rw [show ((textTy (substTy (sub1 nmNew nmInt) (substTy (sub1 nmInt nmNew) t))).toList == (textTy (substTy (sub1 nmInt nmInt) t)).toList) = true by rw [e2]; simp] at c2
  refine AOps.callC hΓ0 c1 rfl rfl rfl rfl rfl rfl rfl hou (by simp) ?_
  repeat first | (with_reducible refine oj ?_; refine AOps.auto tabOk rfl ?_) | (with_reducible first | refine o1 ?_ | refine o2 ?_ | refine o3 ?_ | refine o4 ?_ | refine o5 ?_ | refine o6 ?_ | refine o7 ?_ | refine o8 ?_ | refine o9 ?_ | refine oa ?_ | refine ob ?_ | refine oc ?_ | refine od ?_ | refine oe ?_ | refine og ?_ | refine oh ?_ | refine oi ?_) | (with_reducible refine cExitMiss ?_ ?_; rfl) | (with_reducible refine ok ?_; first | refine ACode.condT rfl ?_ | refine ACode.condF rfl ?_)
  refine AOps.callG hΓ0 c2 rfl rfl rfl rfl rfl rfl rfl rfl rfl hou (by simp) ?_
  repeat first | (with_reducible refine oj ?_; refine AOps.auto tabOk rfl ?_) | (with_reducible first | refine o1 ?_ | refine o2 ?_ | refine o3 ?_ | refine o4 ?_ | refine o5 ?_ | refine o6 ?_ | refine o7 ?_ | refine o8 ?_ | refine o9 ?_ | refine oa ?_ | refine ob ?_ | refine oc ?_ | refine od ?_ | refine oe ?_ | refine og ?_ | refine oh ?_ | refine oi ?_) | (with_reducible refine cExitMiss ?_ ?_; rfl) | (with_reducible refine ok ?_; first | refine ACode.condT rfl ?_ | refine ACode.condF rfl ?_)
  exact APure.fin rfl (WkF.ofEq rfl) (by simp) hou rfl
end Go.Proofs.YtoojdmgbffnmiaaDoor
/- What a row's reading gives: types, schemes and specifications as plain data, and what the bound on their bulk gives. -/
namespace Go.Proofs.YtoojdmgbffnmiaaDoor
open Go Go.Abs
set_option maxRecDepth 10000
set_option linter.unusedVariables false
set_option linter.unusedSimpArgs false
theorem bulkAll_eq {H : Type} : ∀ l : List (DataW H), Rows.uptoBulkAll l = bulkAll Rows.uptoBulk l
  | [] => rfl
  | d :: l => by simp only [Rows.uptoBulkAll, bulkAll, List.map_cons, List.sum_cons] at *; rw [bulkAll_eq l]; rfl
theorem bulk_agg {H : Type} (l : List (DataW H)) : bulkAll Rows.uptoBulk l + 1 ≤ Rows.uptoBulk (.agg l) := by
  simp only [Rows.uptoBulk, bulkAll_eq]; omega
theorem bulk_slice {H : Type} (l r : List (DataW H)) : bulkAll Rows.uptoBulk l + 1 ≤ Rows.uptoBulk (.slice l r) := by
  simp only [Rows.uptoBulk, bulkAll_eq]; omega
theorem bulk_nil {H : Type} : 1 ≤ Rows.uptoBulk (DataW.nil : DataW H) := by simp [Rows.uptoBulk]
theorem bulk_str {H : Type} (l : List UInt8) : l.length + 1 ≤ Rows.uptoBulk (DataW.lit (.string l) : DataW H) := by simp [Rows.uptoBulk]
mutual
def bTy : Ty → Nat
  | .mk _ n _ us => n.size + bTys us + 3
def bTys : List Ty → Nat
  | [] => 0
  | t :: ts => bTy t + bTys ts
end
theorem bTys_eq : ∀ l : List Ty, bTys l = (l.map bTy).sum
  | [] => rfl
  | t :: ts => by simp only [bTys, List.map_cons, List.sum_cons, bTys_eq ts]
section
variable {H : Type} {enc : TypeId × Value → H} {w : World}
theorem cTy_mk (k : Int) (m : Str) (v : Int) (us : List Ty) : cTy (.mk k m v us) = [int k, str m, int v, .sl 4 (us.map cTy)] := by simp [cTy, encTys_eq]
abbrev RTy := {t : Ty // rngTy t}
theorem opens_slice {t e : TypeId} {s : Nat} (ht : Tryd.prog.underlying t = some (.slice e)) (hs : Tryd.prog.cellsOf e = s) (h0 : 0 < s) {α : Type} {c : α → List AC} {wt : α → Nat} (n : Nat) (he : ∀ m, m < n → Opens enc Tryd.prog w Rows.uptoBulk e m c wt) :
    Opens enc Tryd.prog w Rows.uptoBulk t n (fun l : List α => [.sl s (l.map c)]) (fun l => wtAll wt l + 1) := by
  cases n with
  | zero => exact Opens.zero
  | succ n => exact Opens.slice bulk_slice bulk_nil ht hs h0 (he n (by omega))
theorem opens_str (n : Nat) : Opens enc Tryd.prog w Rows.uptoBulk 9 n (fun s : Str => [str s]) (fun s => s.size + 1) := Opens.string bulk_str Tryd.underlying9
theorem opens_int (n : Nat) : Opens enc Tryd.prog w Rows.uptoBulk 3 n (fun i : {i : Int // IntKind.i64.min ≤ i ∧ i ≤ IntKind.i64.max} => [int i.1]) (fun _ => 0) := Opens.int Tryd.underlying3
theorem rngs_of (l : List RTy) : rngTys (l.map (·.1)) := rngTys_iff.2 fun t ht => by
  obtain ⟨x, _, rfl⟩ := List.mem_map.1 ht
  exact x.2
theorem i64_rng {i : Int} (h : IntKind.i64.min ≤ i ∧ i ≤ IntKind.i64.max) : -9223372036854775808 ≤ i ∧ i ≤ 9223372036854775807 := by
  simpa [IntKind.min, IntKind.max, IntKind.signed, IntKind.bits] using h
theorem opensTy : ∀ n, Opens enc Tryd.prog w Rows.uptoBulk 36 n (fun t : RTy => cTy t.1) (fun t => bTy t.1) := by
  intro n
  induction n using Nat.strongRecOn with
  | _ n ih =>
    cases n with
    | zero => exact Opens.zero
    | succ n =>
      have ha := opens_slice (enc := enc) (w := w) (t := 34) Tryd.underlying34 (s := 4) (by kernel_rfl) (by omega) n (fun m hm => ih m (by omega))
      refine Opens.as (Opens.struct bulk_agg Tryd.underlying36 (.cons rfl (by kernel_rfl) (opens_int n) (fun _ => rfl) (.cons rfl (by kernel_rfl) (opens_str n) (fun _ => rfl) (.cons rfl (by kernel_rfl) (opens_int n) (fun _ => rfl) (.cons rfl (by kernel_rfl) ha (fun _ => rfl) (.nil _))))) (fun _ => (show (4 : Nat) = _ by kernel_rfl))) ?_
      rintro ⟨k, m, v, l, _⟩
      refine ⟨⟨.mk k.1 m v.1 (l.map (·.1)), i64_rng k.2, i64_rng v.2, rngs_of l⟩, ?_, ?_⟩
      · show cTy _ = _
        rw [cTy_mk, List.map_map]
        rfl
      · show bTy _ ≤ _
        simp only [bTy, bTys_eq, wtAll, List.map_map]
        show m.size + _ + 3 ≤ 0 + (m.size + 1 + (0 + (_ + 1 + 0))) + 1
        have : (List.map (bTy ∘ fun x : RTy => x.1) l).sum = (List.map (fun t : RTy => bTy t.1) l).sum := rfl
        omega
theorem opensTys (n : Nat) : Opens enc Tryd.prog w Rows.uptoBulk 34 n (fun l : {l : List Ty // rngTys l} => [.sl 4 (encTys l.1)]) (fun l => bTys l.1 + 1) := by
  refine Opens.as (opens_slice Tryd.underlying34 (s := 4) (by kernel_rfl) (by omega) n (fun m hm => opensTy m)) fun l => ⟨⟨l.map (·.1), rngs_of l⟩, ?_, ?_⟩
  · simp only [encTys_eq, List.map_map]; rfl
  · simp only [bTys_eq, wtAll, List.map_map]; exact Nat.le_refl _
def bPrd (p : Prd) : Nat := p.cls.size + bTy p.ty + 2
def bPrds (l : List Prd) : Nat := (l.map bPrd).sum
def bSch (s : Sch) : Nat := bPrds s.preds + bTy s.ty + 2
def bVal (v : VSig) : Nat := v.name.size + bSch v.sch + 2
def bVals (l : List VSig) : Nat := (l.map bVal).sum
def bCon (c : CSig) : Nat := c.name.size + bTys c.args + 3
def bCons (l : List CSig) : Nat := (l.map bCon).sum
def bDat (d : DSig) : Nat := d.name.size + bCons d.cons + 3
def bDats (l : List DSig) : Nat := (l.map bDat).sum
def bSpec (s : Spec) : Nat := bDats s.datas + bVals s.vals + 3
def rngSch (s : Sch) : Prop := rngTy s.ty ∧ ∀ p ∈ s.preds, rngTy p.ty
structure rngSpec (s : Spec) : Prop where
  d : ∀ d ∈ s.datas, ∀ c ∈ d.cons, rngTys c.args
  v : ∀ v ∈ s.vals, rngSch v.sch
theorem opensPrd (n : Nat) : Opens enc Tryd.prog w Rows.uptoBulk 56 n (fun p : {p : Prd // rngTy p.ty} => cPrd p.1) (fun p => bPrd p.1) := by
  cases n with
  | zero => exact Opens.zero
  | succ n =>
    refine Opens.as (Opens.struct bulk_agg Tryd.underlying56 (.cons rfl (by kernel_rfl) (opens_str n) (fun _ => rfl) (.cons (s := 4) rfl (by kernel_rfl) (opensTy n) (fun _ => rfl) (.nil _))) (fun _ => (show (5 : Nat) = _ by kernel_rfl))) ?_
    rintro ⟨c, t, _⟩
    exact ⟨⟨⟨c, t.1⟩, t.2⟩, by simp [cPrd], by show c.size + bTy t.1 + 2 ≤ c.size + 1 + (bTy t.1 + 0) + 1; omega⟩
theorem opensSch (n : Nat) : Opens enc Tryd.prog w Rows.uptoBulk 49 n (fun s : {s : Sch // rngSch s} => cSch s.1) (fun s => bSch s.1) := by
  cases n with
  | zero => exact Opens.zero
  | succ n =>
    have hp := opens_slice (enc := enc) (w := w) (t := 47) Tryd.underlying47 (s := 5) (by kernel_rfl) (by omega) n (fun m _ => opensPrd m)
    refine Opens.as (Opens.struct bulk_agg Tryd.underlying49 (.cons rfl (by kernel_rfl) (opens_int n) (fun _ => rfl) (.cons rfl (by kernel_rfl) hp (fun _ => rfl) (.cons (s := 4) rfl (by kernel_rfl) (opensTy n) (fun _ => rfl) (.nil _)))) (fun _ => (show (6 : Nat) = _ by kernel_rfl))) ?_
    rintro ⟨i, l, t, _⟩
    refine ⟨⟨⟨i.1, l.map (·.1), t.1⟩, t.2, fun p hp => ?_⟩, ?_, ?_⟩
    · obtain ⟨x, _, rfl⟩ := List.mem_map.1 hp
      exact x.2
    · show cSch _ = _
      simp only [cSch, List.map_map]
      simp
    · show bSch _ ≤ _
      simp only [bSch, bPrds, wtAll, List.map_map]
      show (List.map (fun p : {p : Prd // rngTy p.ty} => bPrd p.1) l).sum + bTy t.1 + 2 ≤ 0 + ((List.map (fun p : {p : Prd // rngTy p.ty} => bPrd p.1) l).sum + 1 + (bTy t.1 + 0)) + 1
      omega
theorem opensVal (n : Nat) : Opens enc Tryd.prog w Rows.uptoBulk 61 n (fun v : {v : VSig // rngSch v.sch} => cVal v.1) (fun v => bVal v.1) := by
  cases n with
  | zero => exact Opens.zero
  | succ n =>
    refine Opens.as (Opens.struct bulk_agg Tryd.underlying61 (.cons rfl (by kernel_rfl) (opens_str n) (fun _ => rfl) (.cons (s := 6) rfl (by kernel_rfl) (opensSch n) (fun _ => rfl) (.nil _))) (fun _ => (show (7 : Nat) = _ by kernel_rfl))) ?_
    rintro ⟨c, t, _⟩
    exact ⟨⟨⟨c, t.1⟩, t.2⟩, by simp [cVal], by show c.size + bSch t.1 + 2 ≤ c.size + 1 + (bSch t.1 + 0) + 1; omega⟩
theorem opensCon (n : Nat) : Opens enc Tryd.prog w Rows.uptoBulk 96 n (fun c : {c : CSig // rngTys c.args} => cCon c.1) (fun c => bCon c.1) := by
  cases n with
  | zero => exact Opens.zero
  | succ n =>
    refine Opens.as (Opens.struct bulk_agg Tryd.underlying96 (.cons rfl (by kernel_rfl) (opens_str n) (fun _ => rfl) (.cons rfl (by kernel_rfl) (opensTys n) (fun _ => rfl) (.nil _))) (fun _ => (show (2 : Nat) = _ by kernel_rfl))) ?_
    rintro ⟨c, t, _⟩
    exact ⟨⟨⟨c, t.1⟩, t.2⟩, by simp [cCon], by show c.size + bTys t.1 + 3 ≤ c.size + 1 + (bTys t.1 + 1 + 0) + 1; omega⟩
theorem opensDat (n : Nat) : Opens enc Tryd.prog w Rows.uptoBulk 40 n (fun d : {d : DSig // ∀ c ∈ d.cons, rngTys c.args} => cData d.1) (fun d => bDat d.1) := by
  cases n with
  | zero => exact Opens.zero
  | succ n =>
    have hp := opens_slice (enc := enc) (w := w) (t := 38) Tryd.underlying38 (s := 2) (by kernel_rfl) (by omega) n (fun m _ => opensCon m)
    refine Opens.as (Opens.struct bulk_agg Tryd.underlying40 (.cons rfl (by kernel_rfl) (opens_str n) (fun _ => rfl) (.cons rfl (by kernel_rfl) (opens_int n) (fun _ => rfl) (.cons rfl (by kernel_rfl) hp (fun _ => rfl) (.nil _)))) (fun _ => (show (3 : Nat) = _ by kernel_rfl))) ?_
    rintro ⟨c, i, l, _⟩
    refine ⟨⟨⟨c, i.1, l.map (·.1)⟩, fun p hp => ?_⟩, ?_, ?_⟩
    · obtain ⟨x, _, rfl⟩ := List.mem_map.1 hp
      exact x.2
    · show cData _ = _
      simp only [cData, List.map_map]
      simp
    · show bDat _ ≤ _
      simp only [bDat, bCons, wtAll, List.map_map]
      show c.size + (List.map (fun p : {c : CSig // rngTys c.args} => bCon p.1) l).sum + 3 ≤ c.size + 1 + (0 + ((List.map (fun p : {c : CSig // rngTys c.args} => bCon p.1) l).sum + 1 + 0)) + 1
      omega
theorem opensSpec (n : Nat) : Opens enc Tryd.prog w Rows.uptoBulk 25 n (fun s : {s : Spec // rngSpec s} => cSpec s.1) (fun s => bSpec s.1) := by
  cases n with
  | zero => exact Opens.zero
  | succ n =>
    have hd := opens_slice (enc := enc) (w := w) (t := 22) Tryd.underlying22 (s := 3) (by kernel_rfl) (by omega) n (fun m _ => opensDat m)
    have hv := opens_slice (enc := enc) (w := w) (t := 23) Tryd.underlying23 (s := 7) (by kernel_rfl) (by omega) n (fun m _ => opensVal m)
    refine Opens.as (Opens.struct bulk_agg Tryd.underlying25 (.cons rfl (by kernel_rfl) hd (fun _ => rfl) (.cons rfl (by kernel_rfl) hv (fun _ => rfl) (.nil _))) (fun _ => (show (2 : Nat) = _ by kernel_rfl))) ?_
    rintro ⟨l, k, _⟩
    refine ⟨⟨⟨l.map (·.1), k.map (·.1)⟩, fun d hd => ?_, fun v hv => ?_⟩, ?_, ?_⟩
    · obtain ⟨x, _, rfl⟩ := List.mem_map.1 hd
      exact x.2
    · obtain ⟨x, _, rfl⟩ := List.mem_map.1 hv
      exact x.2
    · show cSpec _ = _
      simp only [cSpec, List.map_map]
      rfl
    · show bSpec _ ≤ _
      simp only [bSpec, bDats, bVals, wtAll, List.map_map]
      show (List.map (fun p : {d : DSig // ∀ c ∈ d.cons, rngTys c.args} => bDat p.1) l).sum + (List.map (fun p : {v : VSig // rngSch v.sch} => bVal p.1) k).sum + 3 ≤ (List.map (fun p : {d : DSig // ∀ c ∈ d.cons, rngTys c.args} => bDat p.1) l).sum + 1 + ((List.map (fun p : {v : VSig // rngSch v.sch} => bVal p.1) k).sum + 1 + 0) + 1
      omega
end
mutual
theorem wTy_bTy : ∀ t : Ty, wTy t + 1 ≤ 101 * bTy t
  | .mk k n v us => by
    have := wTys_bTys us
    simp only [wTy, bTy]; omega
theorem wTys_bTys : ∀ ts : List Ty, wTys ts ≤ 101 * bTys ts
  | [] => by simp [wTys]
  | t :: ts => by
    have h1 := wTy_bTy t
    have h2 := wTys_bTys ts
    simp only [wTys, bTys]; omega
end
theorem bTy_pos : ∀ t : Ty, 3 ≤ bTy t
  | .mk k n v us => by simp only [bTy]; omega
theorem bTys_len : ∀ ts : List Ty, ts.length ≤ bTys ts
  | [] => by simp
  | t :: ts => by
    have h1 := bTy_pos t
    have h2 := bTys_len ts
    simp only [bTys, List.length_cons]; omega
mutual
theorem small_bTy : ∀ t : Ty, bTy t ≤ 1048576 → smallTy t
  | .mk k n v us, h => by
    simp only [bTy] at h
    have := bTys_len us
    exact ⟨by omega, small_bTys us (by omega)⟩
theorem small_bTys : ∀ ts : List Ty, bTys ts ≤ 1048576 → smallTys ts
  | [], _ => trivial
  | t :: ts, h => by
    simp only [bTys] at h
    exact ⟨small_bTy t (by omega), small_bTys ts (by omega)⟩
end
theorem sum_mem {α : Type} {f : α → Nat} : ∀ {l : List α} {a : α}, a ∈ l → f a ≤ (l.map f).sum
  | b :: l, a, h => by
    simp only [List.map_cons, List.sum_cons]
    rcases List.mem_cons.1 h with rfl | h
    · omega
    · have := sum_mem (f := f) h; omega
theorem sum_len {α : Type} {f : α → Nat} (hf : ∀ a, 1 ≤ f a) : ∀ l : List α, l.length ≤ (l.map f).sum
  | [] => by simp
  | b :: l => by
    have h1 := hf b
    have h2 := sum_len hf l
    simp only [List.map_cons, List.sum_cons, List.length_cons]; omega
theorem okSch_of {s : Sch} (h : bSch s ≤ 1048576) : okSch s := by
  simp only [bSch] at h
  have h1 := sum_len (f := bPrd) (fun p => by simp only [bPrd]; omega) s.preds
  simp only [bPrds] at h
  refine ⟨by omega, small_bTy _ (by omega), fun p hp => small_bTy _ ?_⟩
  have := sum_mem (f := bPrd) hp
  simp only [bPrd] at this
  omega
theorem bTys_append : ∀ a b : List Ty, bTys (a ++ b) = bTys a + bTys b
  | [], b => by simp [bTys]
  | t :: a, b => by simp only [List.cons_append, bTys, bTys_append a b]; omega
theorem bTys_flat {α : Type} {f : α → List Ty} {g : α → Nat} (h : ∀ a, bTys (f a) ≤ g a) : ∀ l : List α, bTys (l.flatMap f) ≤ (l.map g).sum
  | [] => by simp [bTys]
  | a :: l => by
    have h1 := h a
    have h2 := bTys_flat h l
    simp only [List.flatMap_cons, bTys_append, List.map_cons, List.sum_cons]; omega
theorem bTys_prds : ∀ l : List Prd, bTys (pTys l) ≤ bPrds l
  | [] => by simp [pTys, bTys]
  | p :: l => by
    have := bTys_prds l
    simp only [pTys, bPrds, List.map_cons, List.sum_cons, bTys] at *
    simp only [bPrd]
    omega
theorem bTys_all (s : Spec) : bTys (allTys s) ≤ bSpec s := by
  have h1 : bTys (dTys s.datas) ≤ bDats s.datas := bTys_flat (fun d => by
    have : bTys (cTys d.cons) ≤ bCons d.cons := bTys_flat (fun c => by simp only [bCon]; omega) _
    simp only [bDat]; omega) _
  have h2 : bTys (vTys s.vals) ≤ bVals s.vals := bTys_flat (fun v => by
    have := bTys_prds v.sch.preds
    simp only [bTys_append, bTys, bVal, bSch]; omega) _
  simp only [allTys, bTys_append, bSpec]
  omega
theorem bTys_mem {l : List Ty} {t : Ty} (h : t ∈ l) : bTy t ≤ bTys l := by
  rw [bTys_eq]; exact sum_mem h
theorem okSpec_of {s : Spec} (h : bSpec s ≤ 1048576) : okSpec s ∧ SzS s := by
  have ha := bTys_all s
  have hl := bTys_len (allTys s)
  simp only [bSpec] at h
  have hd : ∀ d ∈ s.datas, bDat d ≤ bDats s.datas := fun d hd => sum_mem hd
  have hv : ∀ v ∈ s.vals, bVal v ≤ bVals s.vals := fun d hd => sum_mem hd
  have hdl := sum_len (f := bDat) (fun d => by simp only [bDat]; omega) s.datas
  have hvl := sum_len (f := bVal) (fun d => by simp only [bVal]; omega) s.vals
  have hc : ∀ d ∈ s.datas, ∀ c ∈ d.cons, bCon c ≤ 1048576 := fun d hdm c hcm => by
    have h1 := hd d hdm
    have h2 : bCon c ≤ bCons d.cons := sum_mem hcm
    simp only [bDat] at h1
    omega
  have hp : ∀ v ∈ s.vals, ∀ p ∈ v.sch.preds, bPrd p ≤ 1048576 := fun v hvm p hpm => by
    have h1 := hv v hvm
    have h2 : bPrd p ≤ bPrds v.sch.preds := sum_mem hpm
    simp only [bVal, bSch] at h1
    omega
  simp only [bDats] at h hd
  simp only [bVals] at h hv
  refine ⟨⟨by omega, by omega, fun d hdm => ?_, fun v hvm => okSch_of ?_, ?_, fun t ht => small_bTy t ?_⟩, ⟨fun d hdm => ?_, fun d hdm c hcm => ?_, fun v hvm => ?_, fun v hvm p hpm => ?_⟩⟩
  · have h1 := hd d hdm
    simp only [bDat] at h1
    have h2 := sum_len (f := bCon) (fun d => by simp only [bCon]; omega) d.cons
    simp only [bCons] at h1
    refine ⟨by omega, by omega, fun c hcm => ?_⟩
    have h3 := hc d hdm c hcm
    simp only [bCon] at h3
    have h4 := bTys_len c.args
    exact ⟨by omega, small_bTys _ (by omega)⟩
  · have h1 := hv v hvm
    simp only [bVal] at h1
    omega
  · simp only [bSpec, bDats, bVals] at ha
    omega
  · have := bTys_mem ht
    simp only [bSpec, bDats, bVals] at ha
    omega
  · have h1 := hd d hdm
    simp only [bDat] at h1
    omega
  · have h1 := hc d hdm c hcm
    simp only [bCon] at h1
    omega
  · have h1 := hv v hvm
    simp only [bVal] at h1
    omega
  · have h1 := hp v hvm p hpm
    simp only [bPrd] at h1
    omega
/-- The table of arities, as the row lists it. -/
theorem arity_cells {W : World} (h : laidMetH Tryd.prog [("provenance/signature.arity", Rows.laid_provenance_signature_arity)] W) : ∀ g cs, (g, cs) ∈ Γ0 → RG W (ctx0 W) cs g := by
  have ht : Lib.TabIs Tryd.prog W "provenance/signature.arity" .i64 [0, -1, 3, 1, 0, 2] :=
    Lib.tabIs_of_head (rest := []) (g := 1) (t := 121) (n := 6) (by kernel_rfl) (by kernel_rfl) (by kernel_rfl) Tryd.underlying3 (by kernel_rfl) (by kernel_rfl) h
  have hg : Tryd.prog.globalNamed "provenance/signature.arity" = some 1 := by kernel_rfl
  intro g cs hm
  simp [Γ0] at hm
  obtain ⟨rfl, rfl⟩ := hm
  exact RG.ofVar hg ht rfl
end Go.Proofs.YtoojdmgbffnmiaaDoor
/- Schemes: what it means that one is at least as general as another; this is transitive and reflexive. -/
namespace Go.Proofs.YtoojdmgbffnmiaaDoor
open Go Go.Abs
set_option linter.unusedVariables false
set_option linter.unusedSimpArgs false
mutual
/-- A type without what sameType does not look at. -/
def canon : Ty → Ty
  | .mk k n v us => .mk k (if k = 1 ∨ k = 5 then n else ⟨#[]⟩) (if k = 0 then v else 0) (canons us)
def canons : List Ty → List Ty
  | [] => []
  | t :: ts => canon t :: canons ts
end
theorem canon_mk (k : Int) (n : Str) (v : Int) (us : List Ty) (k' : Int) (n' : Str) (v' : Int) (us' : List Ty) :
    canon (.mk k n v us) = canon (.mk k' n' v' us') ↔ k = k' ∧ (k = 1 ∨ k = 5 → n = n') ∧ (k = 0 → v = v') ∧ canons us = canons us' := by
  simp only [canon, Ty.mk.injEq]
  constructor
  · rintro ⟨rfl, h2, h3, h4⟩
    refine ⟨rfl, fun hk => ?_, fun hk => ?_, h4⟩
    · rwa [if_pos hk, if_pos hk] at h2
    · rwa [if_pos hk, if_pos hk] at h3
  · rintro ⟨rfl, h2, h3, h4⟩
    refine ⟨rfl, ?_, ?_, h4⟩
    · split
      · rename_i hk; exact h2 hk
      · rfl
    · split
      · rename_i hk; exact h3 hk
      · rfl
theorem canons_len : ∀ {us vs : List Ty}, canons us = canons vs → us.length = vs.length
  | [], [], _ => rfl
  | [], _ :: _, h => by simp [canons] at h
  | _ :: _, [], h => by simp [canons] at h
  | u :: us, v :: vs, h => by
    simp only [canons, List.cons.injEq] at h
    simp [canons_len h.2]
mutual
theorem sameTy_iff : ∀ a b : Ty, sameTy a b = true ↔ canon a = canon b
  | .mk k n v us, .mk k' n' v' us' => by
    have ih := sameTys_iff us us'
    rw [canon_mk, ← ih]
    simp only [sameTy, Ty.kind_mk, Ty.name_mk, Ty.var_mk, Ty.args_mk, Bool.and_eq_true, Bool.or_eq_true, beq_iff_eq, bne_iff_ne, ne_eq]
    constructor
    · rintro ⟨⟨⟨h1, h2⟩, h3⟩, h4⟩
      refine ⟨h1, fun hk => ?_, fun hk => ?_, h4⟩
      · rcases h3 with h3 | h3
        · exact absurd hk (by omega)
        · exact str_eq.1 (by simpa using h3)
      · rcases h2 with h2 | h2
        · exact absurd hk h2
        · exact h2
    · rintro ⟨h1, h2, h3, h4⟩
      refine ⟨⟨⟨h1, ?_⟩, ?_⟩, h4⟩
      · by_cases hk : k = 0
        · exact .inr (h3 hk)
        · exact .inl hk
      · by_cases hk : k = 1 ∨ k = 5
        · exact .inr (by rw [h2 hk])
        · exact .inl (by omega)
theorem sameTys_iff : ∀ a b : List Ty, sameTys a b = true ↔ canons a = canons b
  | [], [] => by simp [sameTys]
  | [], _ :: _ => by simp [sameTys, canons]
  | _ :: _, [] => by simp [sameTys, canons]
  | a :: us, b :: vs => by
    simp only [sameTys, canons, Bool.and_eq_true, List.cons.injEq, sameTy_iff a b, sameTys_iff us vs]
end
mutual
/-- Variables replaced by what was found for them. -/
def app (g : Fnd) : Ty → Ty
  | .mk k n v us => if k = 0 then (match g v with | some t => t | none => .mk k n v us) else .mk k n v (apps g us)
def apps (g : Fnd) : List Ty → List Ty
  | [] => []
  | t :: ts => app g t :: apps g ts
end
theorem apps_len (g : Fnd) : ∀ us : List Ty, (apps g us).length = us.length
  | [] => rfl
  | u :: us => by simp [apps, apps_len g us]
mutual
/-- A variable occurs. -/
def vin (x : Int) : Ty → Prop
  | .mk k n v us => if k = 0 then v = x else vins x us
def vins (x : Int) : List Ty → Prop
  | [] => False
  | t :: ts => vin x t ∨ vins x ts
end
mutual
theorem app_ext {g h : Fnd} : ∀ a : Ty, (∀ x, vin x a → g x = h x) → app g a = app h a
  | .mk k n v us, hx => by
    simp only [app]
    split
    · rename_i hk
      rw [hx v (by simp [vin, hk])]
    · rename_i hk
      rw [apps_ext us fun x hv => hx x (by simp only [vin, if_neg hk]; exact hv)]
theorem apps_ext {g h : Fnd} : ∀ us : List Ty, (∀ x, vins x us → g x = h x) → apps g us = apps h us
  | [], _ => rfl
  | u :: us, hx => by
    simp only [apps]
    rw [app_ext u fun x hv => hx x (.inl hv), apps_ext us fun x hv => hx x (.inr hv)]
end
mutual
theorem app_canon (g : Fnd) : ∀ a b : Ty, canon a = canon b → canon (app g a) = canon (app g b)
  | .mk k n v us, .mk k' n' v' us', h => by
    have h0 := (canon_mk ..).1 h
    obtain ⟨rfl, h2, h3, h4⟩ := h0
    simp only [app]
    by_cases hk : k = 0
    · obtain rfl := h3 hk
      rw [if_pos hk, if_pos hk]
      cases hg : g v with
      | none => exact h
      | some t => rfl
    · rw [if_neg hk, if_neg hk]
      exact (canon_mk ..).2 ⟨rfl, h2, h3, apps_canon g us us' h4⟩
theorem apps_canon (g : Fnd) : ∀ a b : List Ty, canons a = canons b → canons (apps g a) = canons (apps g b)
  | [], [], _ => rfl
  | [], _ :: _, h => by simp [canons] at h
  | _ :: _, [], h => by simp [canons] at h
  | u :: us, v :: vs, h => by
    simp only [canons, List.cons.injEq] at h
    simp only [apps, canons, app_canon g u v h.1, apps_canon g us vs h.2]
end
mutual
theorem vin_canon (x : Int) : ∀ a b : Ty, canon a = canon b → vin x a → vin x b
  | .mk k n v us, .mk k' n' v' us', h, hv => by
    obtain ⟨rfl, h2, h3, h4⟩ := (canon_mk ..).1 h
    simp only [vin] at hv ⊢
    by_cases hk : k = 0
    · rw [if_pos hk] at hv ⊢
      rw [← h3 hk]; exact hv
    · rw [if_neg hk] at hv ⊢
      exact vins_canon x us us' h4 hv
theorem vins_canon (x : Int) : ∀ a b : List Ty, canons a = canons b → vins x a → vins x b
  | [], _, _, hv => hv.elim
  | _ :: _, [], h, _ => by simp [canons] at h
  | u :: us, v :: vs, h, hv => by
    simp only [canons, List.cons.injEq] at h
    rcases hv with hv | hv
    · exact .inl (vin_canon x u v h.1 hv)
    · exact .inr (vins_canon x us vs h.2 hv)
end
mutual
theorem vin_app {g : Fnd} {x z : Int} {t : Ty} (hg : g x = some t) (hz : vin z t) : ∀ a : Ty, vin x a → vin z (app g a)
  | .mk k n v us, hv => by
    simp only [vin] at hv
    simp only [app]
    by_cases hk : k = 0
    · rw [if_pos hk] at hv ⊢
      subst hv
      rw [hg]; exact hz
    · rw [if_neg hk] at hv ⊢
      simp only [vin, if_neg hk]
      exact vins_app hg hz us hv
theorem vins_app {g : Fnd} {x z : Int} {t : Ty} (hg : g x = some t) (hz : vin z t) : ∀ us : List Ty, vins x us → vins z (apps g us)
  | [], hv => hv.elim
  | u :: us, hv => by
    rcases hv with hv | hv
    · exact .inl (vin_app hg hz u hv)
    · exact .inr (vins_app hg hz us hv)
end
mutual
theorem app_inj {g h : Fnd} : ∀ a : Ty, (∀ x, vin x a → ∃ t, g x = some t) → (∀ x, vin x a → ∃ t, h x = some t) → canon (app g a) = canon (app h a) → ∀ x t u, vin x a → g x = some t → h x = some u → canon t = canon u
  | .mk k n v us, hg, hh, he, x, t, u, hx, h1, h2 => by
    simp only [vin] at hx
    simp only [app] at he
    by_cases hk : k = 0
    · rw [if_pos hk] at hx
      subst hx
      rw [if_pos hk, if_pos hk, h1, h2] at he
      exact he
    · rw [if_neg hk] at hx
      rw [if_neg hk, if_neg hk] at he
      have he' := ((canon_mk ..).1 he).2.2.2
      exact apps_inj us (fun x hx => hg x (by simp only [vin, if_neg hk]; exact hx)) (fun x hx => hh x (by simp only [vin, if_neg hk]; exact hx)) he' x t u hx h1 h2
theorem apps_inj {g h : Fnd} : ∀ us : List Ty, (∀ x, vins x us → ∃ t, g x = some t) → (∀ x, vins x us → ∃ t, h x = some t) → canons (apps g us) = canons (apps h us) → ∀ x t u, vins x us → g x = some t → h x = some u → canon t = canon u
  | [], _, _, _, x, t, u, hx, _, _ => hx.elim
  | a :: us, hg, hh, he, x, t, u, hx, h1, h2 => by
    simp only [apps, canons, List.cons.injEq] at he
    rcases hx with hx | hx
    · exact app_inj a (fun x hx => hg x (.inl hx)) (fun x hx => hh x (.inl hx)) he.1 x t u hx h1 h2
    · exact apps_inj us (fun x hx => hg x (.inr hx)) (fun x hx => hh x (.inr hx)) he.2 x t u hx h1 h2
end
def comp (g h : Fnd) : Fnd := fun v => (g v).map (app h)
mutual
theorem app_comp {g h : Fnd} : ∀ a : Ty, (∀ x, vin x a → ∃ t, g x = some t) → app h (app g a) = app (comp g h) a
  | .mk k n v us, hc => by
    by_cases hk : k = 0
    · obtain ⟨t, ht⟩ := hc v (by simp [vin, hk])
      simp only [app, if_pos hk, ht, comp, Option.map_some]
    · simp only [app, if_neg hk]
      rw [apps_comp us fun x hx => hc x (by simp only [vin, if_neg hk]; exact hx)]
theorem apps_comp {g h : Fnd} : ∀ us : List Ty, (∀ x, vins x us → ∃ t, g x = some t) → apps h (apps g us) = apps (comp g h) us
  | [], _ => rfl
  | u :: us, hc => by
    simp only [apps]
    rw [app_comp u fun x hx => hc x (.inl hx), apps_comp us fun x hx => hc x (.inr hx)]
end
theorem instNo_false {k : Int} {n : Str} {b : Ty} : instNo k n b = false ↔ k = b.kind ∧ (k = 1 ∨ k = 5 → n = b.name) := by
  simp only [instNo, Bool.or_eq_false_iff, Bool.and_eq_false_iff, bne_eq_false_iff_eq, Bool.not_eq_false']
  constructor
  · rintro ⟨h1, h2⟩
    refine ⟨h1, fun hk => ?_⟩
    rcases h2 with h2 | h2
    · simp at h2; omega
    · exact str_eq.1 h2
  · rintro ⟨h1, h2⟩
    refine ⟨h1, ?_⟩
    by_cases hk : k = 1 ∨ k = 5
    · exact .inr (by rw [h2 hk]; simp)
    · left; simp; omega
/-- What instance has found fits. -/
structure Fits (f g : Fnd) (p : Int → Prop) : Prop where
  ext : ∀ k t, f k = some t → g k = some t
  cov : ∀ x, p x → ∃ t, g x = some t
  dom : ∀ x t, g x = some t → f x = some t ∨ p x
mutual
theorem inst_sound : ∀ (a : Ty) (f : Fnd) (b : Ty), (inst f a b).1 = true → Fits f (inst f a b).2 (fun x => vin x a) ∧ canon (app (inst f a b).2 a) = canon b
  | .mk k n v us, f, b, h => by
    unfold inst at h ⊢
    by_cases hk : k = 0
    · rw [if_pos hk] at h ⊢
      cases hf : f v with
      | some t =>
        rw [hf] at h
        refine ⟨⟨fun _ _ h => h, fun x hx => ?_, fun x t h => .inl h⟩, ?_⟩
        · simp only [vin, if_pos hk] at hx; subst hx; exact ⟨t, hf⟩
        · simp only [app, if_pos hk, hf]; exact (sameTy_iff t b).1 h
      | none =>
        refine ⟨⟨fun x t hx => ?_, fun x hx => ?_, fun x t hx => ?_⟩, ?_⟩
        · show put f v b x = some t
          unfold put
          rw [if_neg (fun e => by subst e; rw [hf] at hx; cases hx)]; exact hx
        · simp only [vin, if_pos hk] at hx; subst hx; exact ⟨b, by simp [put]⟩
        · have hx : put f v b x = some t := hx
          unfold put at hx
          split at hx
          · rename_i e; right; simp only [vin, if_pos hk]; exact e.symm
          · exact .inl hx
        · simp [app, hk, put]
    · rw [if_neg hk] at h ⊢
      by_cases hn : instNo k n b = true
      · rw [if_pos hn] at h; cases h
      · have hn' : instNo k n b = false := by simpa using hn
        rw [if_neg hn] at h ⊢
        by_cases hl : us.length ≠ b.args.length
        · rw [if_pos hl] at h; cases h
        · rw [if_neg hl] at h ⊢
          have hl' : us.length = b.args.length := by simpa using hl
          obtain ⟨h1, h2⟩ := insts_sound us f b.args hl' h
          obtain ⟨e1, e2⟩ := instNo_false.1 hn'
          refine ⟨⟨h1.ext, fun x hx => h1.cov x (by simpa only [vin, if_neg hk] using hx), fun x t hx => ?_⟩, ?_⟩
          · simp only [vin, if_neg hk]; exact h1.dom x t hx
          · simp only [app, if_neg hk]
            cases b with
            | mk k' n' v' us' => exact (canon_mk ..).2 ⟨e1, e2, fun h => absurd h hk, h2⟩
theorem insts_sound : ∀ (us : List Ty) (f : Fnd) (vs : List Ty), us.length = vs.length → (insts f us vs).1 = true → Fits f (insts f us vs).2 (fun x => vins x us) ∧ canons (apps (insts f us vs).2 us) = canons vs
  | [], f, [], _, h => ⟨⟨fun _ _ h => h, fun _ h => h.elim, fun _ _ h => .inl h⟩, rfl⟩
  | [], _, _ :: _, hl, _ => by simp at hl
  | _ :: _, _, [], hl, _ => by simp at hl
  | u :: us, f, w :: vs, hl, h => by
    unfold insts at h ⊢
    cases h1 : (inst f u w).1 with
    | false => rw [h1] at h; simp at h
    | true =>
      rw [h1] at h
      simp only [if_true] at h ⊢
      obtain ⟨a1, a2⟩ := inst_sound u f w h1
      obtain ⟨b1, b2⟩ := insts_sound us _ vs (by simpa using hl) h
      refine ⟨⟨fun k t hk => b1.ext k t (a1.ext k t hk), fun x hx => ?_, fun x t hx => ?_⟩, ?_⟩
      · rcases hx with hx | hx
        · obtain ⟨t, ht⟩ := a1.cov x hx
          exact ⟨t, b1.ext x t ht⟩
        · exact b1.cov x hx
      · rcases b1.dom x t hx with hx | hx
        · rcases a1.dom x t hx with hx | hx
          · exact .inl hx
          · exact .inr (.inl hx)
        · exact .inr (.inr hx)
      · simp only [apps, canons, List.cons.injEq]
        refine ⟨?_, b2⟩
        rw [← a2]
        congr 1
        refine (app_ext u fun x hx => ?_)
        obtain ⟨t, ht⟩ := a1.cov x hx
        rw [ht, b1.ext x t ht]
end
/-- What was found agrees with a map. -/
def Agr (f h : Fnd) : Prop := ∀ k t, f k = some t → ∃ u, h k = some u ∧ canon u = canon t
mutual
theorem inst_complete {h : Fnd} : ∀ (a : Ty) (f : Fnd) (b : Ty), Agr f h → (∀ x, vin x a → ∃ t, h x = some t) → canon (app h a) = canon b → (inst f a b).1 = true ∧ Agr (inst f a b).2 h
  | .mk k n v us, f, b, hf, hc, he => by
    unfold inst
    by_cases hk : k = 0
    · rw [if_pos hk]
      obtain ⟨u, hu⟩ := hc v (by simp [vin, hk])
      simp only [app, if_pos hk, hu] at he
      cases hfv : f v with
      | some t =>
        obtain ⟨u', hu', ht⟩ := hf v t hfv
        rw [hu] at hu'; cases hu'
        exact ⟨(sameTy_iff t b).2 (ht.symm.trans he), hf⟩
      | none =>
        refine ⟨rfl, fun x t hx => ?_⟩
        have hx : put f v b x = some t := hx
        by_cases e : x = v
        · subst e
          rw [show put f x b x = some b by simp [put]] at hx
          injection hx with hx
          subst hx
          exact ⟨u, hu, he⟩
        · rw [show put f v b x = f x by simp [put, e]] at hx
          exact hf x t hx
    · rw [if_neg hk]
      simp only [app, if_neg hk] at he
      cases b with
      | mk k' n' v' us' =>
        obtain ⟨e1, e2, e3, e4⟩ := (canon_mk ..).1 he
        have hn : instNo k n (.mk k' n' v' us') = false := instNo_false.2 ⟨e1, e2⟩
        have hl : us.length = us'.length := by have := canons_len e4; rwa [apps_len] at this
        rw [if_neg (by simp [hn]), if_neg (by simpa using hl)]
        exact insts_complete us f us' hl hf (fun x hx => hc x (by simp only [vin, if_neg hk]; exact hx)) e4
theorem insts_complete {h : Fnd} : ∀ (us : List Ty) (f : Fnd) (vs : List Ty), us.length = vs.length → Agr f h → (∀ x, vins x us → ∃ t, h x = some t) → canons (apps h us) = canons vs → (insts f us vs).1 = true ∧ Agr (insts f us vs).2 h
  | [], f, [], _, hf, _, _ => ⟨rfl, hf⟩
  | [], _, _ :: _, hl, _, _, _ => by simp at hl
  | _ :: _, _, [], hl, _, _, _ => by simp at hl
  | u :: us, f, w :: vs, hl, hf, hc, he => by
    simp only [apps, canons, List.cons.injEq] at he
    obtain ⟨a1, a2⟩ := inst_complete u f w hf (fun x hx => hc x (.inl hx)) he.1
    unfold insts
    rw [a1]
    simp only [if_true]
    exact insts_complete us _ vs (by simpa using hl) a2 (fun x hx => hc x (.inr hx)) he.2
end
theorem genB_iff {a b : Sch} : genB a b = true ↔ (inst (fun _ => none) a.ty b.ty).1 = true ∧ ∀ p ∈ a.preds, ∃ q ∈ b.preds, q.cls = p.cls ∧ (inst (inst (fun _ => none) a.ty b.ty).2 p.ty q.ty).1 = true := by
  unfold genB
  rw [Bool.and_eq_true, List.all_eq_true]
  refine and_congr Iff.rfl (forall_congr' fun p => forall_congr' fun _ => ?_)
  rw [List.any_eq_true]
  refine exists_congr fun q => and_congr Iff.rfl ?_
  unfold prdOk
  rw [Bool.and_eq_true, str_eq]
theorem Agr.none (h : Fnd) : Agr (fun _ => none) h := fun k t hk => by cases hk
/-- SOME INSTANCE FITS: then the answer is yes. -/
theorem genB_of {a b : Sch} (h : Fnd) (hc : ∀ x, vin x a.ty → ∃ t, h x = some t) (he : canon (app h a.ty) = canon b.ty)
    (hp : ∀ p ∈ a.preds, ∃ q ∈ b.preds, q.cls = p.cls ∧ ∃ h' : Fnd, (∀ x, vin x a.ty → ∀ t, h x = some t → ∃ u, h' x = some u ∧ canon u = canon t) ∧ (∀ x, vin x p.ty → ∃ t, h' x = some t) ∧ canon (app h' p.ty) = canon q.ty) : genB a b = true := by
  obtain ⟨i1, i2⟩ := inst_complete a.ty (fun _ => none) b.ty (Agr.none h) hc he
  obtain ⟨s1, s2⟩ := inst_sound a.ty (fun _ => none) b.ty i1
  refine genB_iff.2 ⟨i1, fun p hpm => ?_⟩
  obtain ⟨q, hq, hcl, h', k1, k2, k3⟩ := hp p hpm
  refine ⟨q, hq, hcl, (inst_complete p.ty _ q.ty (fun x t hx => ?_) k2 k3).1⟩
  obtain ⟨u, hu, hut⟩ := i2 x t hx
  rcases s1.dom x t hx with h1 | h1
  · cases h1
  · obtain ⟨u', hu', hut'⟩ := k1 x h1 u hu
    exact ⟨u', hu', hut'.trans hut⟩
theorem genB_trans {a b c : Sch} (h1 : genB a b = true) (h2 : genB b c = true) : genB a c = true := by
  obtain ⟨a1, a2⟩ := genB_iff.1 h1
  obtain ⟨b1, b2⟩ := genB_iff.1 h2
  obtain ⟨s1, s2⟩ := inst_sound a.ty _ b.ty a1
  obtain ⟨t1, t2⟩ := inst_sound b.ty _ c.ty b1
  generalize hG1 : (inst (fun _ => none) a.ty b.ty).2 = g1 at a2 s1 s2
  generalize hG2 : (inst (fun _ => none) b.ty c.ty).2 = g2 at b2 t1 t2
  refine genB_of (comp g1 g2) (fun x hx => ?_) ?_ fun p hp => ?_
  · obtain ⟨t, ht⟩ := s1.cov x hx
    exact ⟨app g2 t, by simp [comp, ht]⟩
  · rw [← app_comp a.ty s1.cov]
    exact (app_canon g2 _ _ s2).trans t2
  · obtain ⟨q, hq, hcl, hi⟩ := a2 p hp
    obtain ⟨r, hr, hcl2, hi2⟩ := b2 q hq
    obtain ⟨u1, u2⟩ := inst_sound p.ty g1 q.ty hi
    obtain ⟨w1, w2⟩ := inst_sound q.ty g2 r.ty hi2
    generalize (inst g1 p.ty q.ty).2 = k1 at u1 u2
    generalize (inst g2 q.ty r.ty).2 = k2 at w1 w2
    refine ⟨r, hr, hcl2.trans hcl, comp k1 k2, fun x hx t ht => ?_, fun x hx => ?_, ?_⟩
    · obtain ⟨u, hu⟩ := s1.cov x hx
      have e1 : t = app g2 u := by simp only [comp, hu, Option.map_some, Option.some.injEq] at ht; exact ht.symm
      refine ⟨app k2 u, by simp [comp, u1.ext x u hu], ?_⟩
      rw [e1, app_ext u fun z hz => ?_]
      have hzb : vin z b.ty := vin_canon z _ _ s2 (vin_app hu hz a.ty hx)
      obtain ⟨y, hy⟩ := t1.cov z hzb
      rw [hy, w1.ext z y hy]
    · obtain ⟨t, ht⟩ := u1.cov x hx
      exact ⟨app k2 t, by simp [comp, ht]⟩
    · rw [← app_comp p.ty u1.cov]
      exact (app_canon k2 _ _ u2).trans w2
mutual
/-- Variables have no arguments. -/
def wfV : Ty → Prop
  | .mk k _ _ us => (k = 0 → us = []) ∧ wfVs us
def wfVs : List Ty → Prop
  | [] => True
  | t :: ts => wfV t ∧ wfVs ts
end
theorem wfVs_iff : ∀ {l : List Ty}, wfVs l ↔ ∀ t ∈ l, wfV t
  | [] => by simp [wfVs]
  | t :: ts => by simp [wfVs, wfVs_iff (l := ts)]
def idF : Fnd := fun v => some (.mk 0 ⟨#[]⟩ v [])
mutual
theorem app_id : ∀ a : Ty, wfV a → canon (app idF a) = canon a
  | .mk k n v us, h => by
    by_cases hk : k = 0
    · obtain rfl := h.1 hk
      subst hk
      simp [app, idF, canon, canons]
    · simp only [app, if_neg hk]
      exact (canon_mk ..).2 ⟨rfl, fun _ => rfl, fun _ => rfl, apps_id us h.2⟩
theorem apps_id : ∀ us : List Ty, wfVs us → canons (apps idF us) = canons us
  | [], _ => rfl
  | u :: us, h => by simp only [apps, canons, app_id u h.1, apps_id us h.2]
end
def wfS (s : Sch) : Prop := wfV s.ty ∧ ∀ p ∈ s.preds, wfV p.ty
theorem genB_refl {a : Sch} (h : wfS a) : genB a a = true :=
  genB_of idF (fun x _ => ⟨_, rfl⟩) (app_id _ h.1) fun p hp => ⟨p, hp, rfl, idF, fun x _ t ht => ⟨t, ht, rfl⟩, fun x _ => ⟨_, rfl⟩, app_id _ (h.2 p hp)⟩
end Go.Proofs.YtoojdmgbffnmiaaDoor
