/- FunctorEqual: the two types are the same, or the functor is generative and its own type occurs. -/
import Derived.Test.YtoojdmgbffnmiaaDoorB12
import Derived.Laws.Small
namespace Go.Proofs.YtoojdmgbffnmiaaDoor
open Go Go.Abs
set_option maxRecDepth 10000
set_option linter.unusedVariables false
set_option linter.unusedSimpArgs false
theorem str_cancel {a b c : Str} (h : a ++ c = b ++ c) : a = b := by
  apply ByteArray.ext
  have h2 := congrArg (fun s : Str => s.data.toList) h
  simp only [ByteArray.data_append, Array.toList_append] at h2
  exact Array.toList_inj.1 (List.append_cancel_right h2)
theorem str_cancelL {a b c : Str} (h : c ++ a = c ++ b) : a = b := by
  apply ByteArray.ext
  have h2 := congrArg (fun s : Str => s.data.toList) h
  simp only [ByteArray.data_append, Array.toList_append] at h2
  exact Array.toList_inj.1 (List.append_cancel_left h2)
theorem findBy_none {l : List DSig} {n : Str} (h : findBy DSig.name n l = none) : ∀ d ∈ l, d.name ≠ n := fun d hd e => by
  unfold findBy at h
  have := List.find?_eq_none.1 h d hd
  rw [e, cmpStr_self] at this
  exact this rfl
theorem findBy_mem {l : List DSig} {n : Str} {d : DSig} (hd : d ∈ l) (e : d.name = n) : ∃ x, findBy DSig.name n l = some x := by
  cases h : findBy DSig.name n l with
  | some x => exact ⟨x, rfl⟩
  | none => exact absurd e (findBy_none h d hd)
theorem nf_iff {needs yields : List DSig} {nm fa fb x : Str} (ht : ∀ d ∈ yields, twice needs d = 0) (hne : fa ≠ fb) : nf needs yields nm fa x = nf needs yields nm fb x ↔ ¬ ∃ d ∈ yields, d.name = x := by
  unfold nf
  cases hd : findBy DSig.name x needs with
  | some e =>
    simp only [true_iff]
    rintro ⟨d, hdm, rfl⟩
    have := ht d hdm
    unfold twice at this
    rw [hd] at this
    cases this
  | none =>
    cases he : findBy DSig.name x yields with
    | some d =>
      obtain ⟨h1, h2⟩ := findBy_some he
      simp only
      constructor
      · intro h
        exact absurd (str_cancel (str_cancel h)) hne
      · exact fun h => absurd ⟨d, h1, h2⟩ h
    | none =>
      simp only [true_iff]
      rintro ⟨d, hdm, e⟩
      exact findBy_none he d hdm e
theorem same_law {needs yields : List DSig} {nm fa fb : Str} {t : Ty} (ht : ∀ d ∈ yields, twice needs d = 0) (h1 : kindErr needs t = 0) (h2 : kindErr yields t = 0) :
    sameTy (substTy (outerM nm needs ++ outerM fa yields) t) (substTy (outerM nm needs ++ outerM fb yields) t) = true ↔ (fa = fb ∨ ment yields t = false) := by
  rw [sameTy_iff, canon_subst needs yields nm fa t h1 h2, canon_subst needs yields nm fb t h1 h2, renT_iff]
  by_cases hf : fa = fb
  · subst hf; simp
  · have hm : ment yields t = false ↔ ¬ ∃ x, occ x t ∧ ∃ d ∈ yields, d.name = x := by rw [← ment_iff]; simp
    rw [hm]
    constructor
    · intro h
      right
      rintro ⟨x, hx, hd⟩
      exact (nf_iff ht hf).1 (h x hx) hd
    · rintro (h | h)
      · exact absurd h hf
      · exact fun x hx => (nf_iff ht hf).2 fun hd => h ⟨x, hx, hd⟩
end Go.Proofs.YtoojdmgbffnmiaaDoor
/- FunctorEqual: Itoa at every number, over a world that lists the powers of ten. -/
namespace Go.Abs
open Go.Sort (grow)
set_option linter.unusedVariables false
theorem RL.cells {w : World} {C : Ctx} : ∀ (xs : List Value) (g k : Nat), RL w C (xs.map .lit) ⟨g, k, none⟩ → ∀ j v, xs[j]? = some v → w.cell? ⟨g, k + j, none⟩ = some v
  | [], g, k, _, j, v, h => by simp at h
  | x :: xs, g, k, hr, j, v, h => by
    simp only [List.map_cons, RL] at hr
    obtain ⟨⟨u, hu, _, hx⟩, h2⟩ := hr
    simp only [R] at hx
    cases j with
    | zero => simp at h; subst h; rw [← hx.1]; exact hu
    | succ j =>
      have := RL.cells xs g (k + 1) h2 j v (by simpa using h)
      rw [← this]; congr 2; omega
/-- A global that is listed whole, under its name. -/
theorem RG.var {P : Program} {w : World} {C : Ctx} {name : String} {g : Nat} {x : Value} {xs : List Value} (hg : P.globalNamed name = some g) (h : RG w C ((x :: xs).map .lit) g) : w.var? P name = some (x :: xs).toArray := by
  have hc := RL.cells (x :: xs) g 0 h.rl
  have h0 := hc 0 x rfl
  have hf := h.fin
  simp only [World.var?, hg, Option.bind_some]
  cases ho : w.heap[g]? with
  | none => simp [World.cell?, ho] at h0
  | some o =>
    cases o with
    | cells c t fr =>
      have hcc : ∀ j, w.cell? ⟨g, j, none⟩ = c[j]? := fun j => by simp [World.cell?, ho]
      show some c = _
      congr 1
      apply Array.ext'
      refine List.ext_getElem? fun j => ?_
      simp only [List.toList_toArray, Array.getElem?_toList]
      rw [← hcc j]
      by_cases hj : j < (x :: xs).length
      · rw [List.getElem?_eq_getElem hj]
        have := hc j _ (List.getElem?_eq_getElem hj)
        rwa [Nat.zero_add] at this
      · rw [List.getElem?_eq_none (by omega)]
        rw [hcc] at hf ⊢
        rw [Array.getElem?_eq_none_iff] at hf ⊢
        simp only [List.length_map] at hf
        omega
    | _ => simp [World.cell?, ho] at h0
/-- A function over plain values whose contract asks for the globals listed and says that the world grows. -/
theorem APure.ofCallsG {P : Program} {Γ : List (Nat × List AC)} {g : Nat} {vs : List Value} {v : Value} (hent : ∀ (us1 : Array Value) (w : World), (callFunc g us1).run P w = .ok (.enter g us1) w) (hv : v.oneCell' = true)
    (h : ∀ w C, (∀ g cs, (g, cs) ∈ Γ → RG w C cs g) → Calls P g vs.toArray w fun e w' => e = .returned v ∧ ∃ k os, w' = grow (w.drewN k) os) :
    APure P Γ g (vs.map fun u => .one (.lit u)) (.one (.lit v)) := by
  intro ou
  refine ⟨hent, fun F w C cargs h0 hi hr => ?_⟩
  have hc : ∀ (vs : List Value) (cargs : List Value), RFs w C (vs.map fun u => .one (.lit u)) cargs → cargs = vs := by
    intro vs
    induction vs with
    | nil => intro cargs h; simpa [RFs] using h
    | cons u us ih =>
      intro cargs h
      simp only [List.map_cons, RFs] at h
      obtain ⟨x, xs, rfl, h1, h2⟩ := h
      rw [ih xs h2, h1.1]
  rw [hc vs cargs hr]
  refine (h w C hi.glob).mono fun e w' ⟨h1, k, os, h2⟩ => ?_
  have hsz : w.heap.size ≤ w'.heap.size := by rw [h2]; simp [grow, World.drewN]
  have hb : ∀ j, j < w.heap.size → w'.heap[j]? = w.heap[j]? := fun j hj => by
    rw [h2]
    show (w.heap ++ os)[j]? = _
    rw [Array.getElem?_append_left hj]
  obtain ⟨he, hi'⟩ := hi.grown hsz hb
  refine ⟨v, .one (.lit v), ou, C, h1, ⟨⟨by rw [h2]; rfl, by rw [h2]; rfl, by rw [h2]; rfl, hsz, fun j hj => hb j (hi.base j hj), fun a ha => ?_⟩, he.weaken fun _ _ => trivial, Nat.le_refl _, NewP.refl _ _⟩, h0, hi', ⟨rfl, hv⟩, rfl, rfl⟩
  unfold World.frozen?
  rw [hb _ ha]
end Go.Abs
namespace Go.Proofs.YtoojdmgbffnmiaaDoor
open Go Go.Abs Go.RowKit
set_option maxRecDepth 10000
set_option linter.unusedVariables false
set_option linter.unusedSimpArgs false
def pow10 : List AC := (Lib.pow10Tab.map fun z => Value.int .u64 z).map .lit
def Γ1 : List (Nat × List AC) := Γ0 ++ [(2, pow10)]
theorem hs1 : ∀ x ∈ Γ0, x ∈ Γ1 := fun x h => List.mem_append_left _ h
theorem hΓ1 : ∀ g cs, (g, cs) ∈ Γ1 → idsL isO cs := fun g cs h => by
  rcases List.mem_append.1 h with h | h
  · exact hΓ0 g cs h
  · simp only [List.mem_singleton, Prod.mk.injEq] at h
    obtain ⟨rfl, rfl⟩ := h
    rw [idsL_iff]
    intro c hc
    obtain ⟨v, _, rfl⟩ := List.mem_map.1 hc
    trivial
theorem Itoa_ok (n : Nat) (h : n ≤ 1048576) : APure Tryd.prog Γ1 51 [.one (int n)] (.one (str (itoa n))) := by
  have e : (⟨(Lib.itoa (n : Int)).toArray⟩ : Str) = itoa n := by
    unfold itoa; rw [Lib.itoa_nonneg]
  refine APure.ofCallsG (vs := [.int .i64 n]) (enters_of Tryd.func51 (by kernel_rfl) rfl) rfl fun w C hg => ?_
  have ht : Lib.TabIs Tryd.prog w "internal/strconv.uint64pow10" .u64 Lib.pow10Tab :=
    RG.var (g := 2) (by kernel_rfl) (hg 2 pow10 (List.mem_append_right _ (by simp)))
  have := Tryd.strconv_Itoa n (by omega) (by omega) w ht
  rw [e] at this
  exact this
end Go.Proofs.YtoojdmgbffnmiaaDoor
/- FunctorEqual: the law and its walk. -/
namespace Go.Proofs.YtoojdmgbffnmiaaDoor
open Go Go.Abs
set_option maxRecDepth 10000
set_option linter.unusedVariables false
set_option linter.unusedSimpArgs false
theorem own_ok (f : Fctr) (t : Ty) (hs : okSpec f.yields) (ht : smallTy t) : APure Tryd.prog Γ1 30 [.agg (cTy t), .one (.box (cFctr f))] (.one (.lit (.bool (ment f.yields.datas t)))) := by
  intro ou
  refine AFn.walk 9 tabOk Tryd.func30 rfl (by kernel_rfl) rfl rfl fun hou => ?_
  repeat first | (with_reducible refine oj ?_; refine AOps.auto tabOk rfl ?_) | (with_reducible first | refine o1 ?_ | refine o2 ?_ | refine o3 ?_ | refine o4 ?_ | refine o5 ?_ | refine o6 ?_ | refine o7 ?_ | refine o8 ?_ | refine o9 ?_ | refine oa ?_ | refine ob ?_ | refine oc ?_ | refine od ?_ | refine oe ?_ | refine og ?_ | refine oh ?_ | refine oi ?_) | (with_reducible refine cExitMiss ?_ ?_; rfl) | (with_reducible refine ok ?_; first | refine ACode.condT rfl ?_ | refine ACode.condF rfl ?_)
  refine AOps.callC hΓ1 ((mentions_ok f.yields.datas hs.dl t ht).lift hs1 hΓ1) rfl rfl rfl rfl rfl rfl rfl hou (by simp) ?_
  repeat first | (with_reducible refine oj ?_; refine AOps.auto tabOk rfl ?_) | (with_reducible first | refine o1 ?_ | refine o2 ?_ | refine o3 ?_ | refine o4 ?_ | refine o5 ?_ | refine o6 ?_ | refine o7 ?_ | refine o8 ?_ | refine o9 ?_ | refine oa ?_ | refine ob ?_ | refine oc ?_ | refine od ?_ | refine oe ?_ | refine og ?_ | refine oh ?_ | refine oi ?_) | (with_reducible refine cExitMiss ?_ ?_; rfl) | (with_reducible refine ok ?_; first | refine ACode.condT rfl ?_ | refine ACode.condF rfl ?_)
  exact APure.fin rfl (WkF.ofEq rfl) (by simp) hou rfl
def digVal (l : List UInt8) : Nat := l.foldl (fun n c => n * 10 + (c.toNat - 48)) 0
theorem dig_one {d : Nat} (h : d < 10) : (UInt8.ofNat (48 + d)).toNat - 48 = d := by
  rw [UInt8.toNat_ofNat']; omega
theorem digVal_dec (u : Nat) : digVal (Lib.decDigits u) = u := by
  induction u using Nat.strongRecOn with
  | _ u ih =>
    rw [Lib.decDigits]
    split
    · rename_i h
      simp only [digVal, List.foldl_cons, List.foldl_nil, dig_one h]; omega
    · rename_i h
      have := ih (u / 10) (by omega)
      simp only [digVal, List.foldl_append, List.foldl_cons, List.foldl_nil, dig_one (Nat.mod_lt u (by decide : 10 > 0))] at this ⊢
      rw [this]; omega
theorem itoa_inj {a b : Nat} (h : itoa a = itoa b) : a = b := by
  unfold itoa at h
  have h2 : Lib.decDigits a = Lib.decDigits b := by
    have := congrArg (fun s : Str => s.data.toList) h
    simpa using this
  rw [← digVal_dec a, ← digVal_dec b, h2]
theorem dec_len (u : Nat) : (Lib.decDigits u).length ≤ u / 100 + 2 := by
  induction u using Nat.strongRecOn with
  | _ u ih =>
    rw [Lib.decDigits]
    split
    · simp
    · rename_i h
      by_cases h2 : u < 100
      · rw [Lib.decDigits, dif_pos (by omega)]; simp
      · have := ih (u / 10) (by omega)
        simp only [List.length_append, List.length_singleton]; omega
theorem itoa_len {n : Nat} (h : n ≤ 1000) : (itoa n).size ≤ 40 := by
  have := dec_len n
  show (Lib.decDigits n).length ≤ 40
  omega
theorem appErr_n {f : Fctr} {arg : Spec} {name : Str} {n m : Int} (hn : 0 ≤ n ∧ n ≤ 1000) (hm : 0 ≤ m ∧ m ≤ 1000) : appErr f arg name n = appErr f arg name m := by
  unfold appErr
  rw [if_neg (c := n < 0 ∨ 1048576 < n) (by omega), if_neg (c := m < 0 ∨ 1048576 < m) (by omega)]
theorem front_iff {f : Fctr} {nm : Str} {n1 n2 : Nat} (hne : n1 ≠ n2) : frontN f nm (itoa n1) = frontN f nm (itoa n2) ↔ f.fresh = false := by
  unfold frontN
  cases f.fresh
  · simp
  · simp only [if_true, Bool.true_eq_false, iff_false]
    exact fun h => hne (itoa_inj (str_cancelL h))
/-- At every type of the yielded values the two results agree just where the functor is not generative, or none of its own types occurs. -/
theorem equal_at {f : Fctr} {nm : Str} {n1 n2 : Nat} (hne : n1 ≠ n2) (h : fctErr f = 0) {v : VSig} (hv : v ∈ f.yields.vals) :
    sameTy (substTy (appL f nm (itoa n1)) v.sch.ty) (substTy (appL f nm (itoa n2)) v.sch.ty) = !(f.fresh && ment f.yields.datas v.sch.ty) := by
  obtain ⟨_, f2, f3, f4, f5⟩ := fct_ok h
  have ks := chk_ok f3
  have hm : v.sch.ty ∈ allTys f.yields := by
    unfold allTys
    refine List.mem_append_right _ ?_
    exact List.mem_flatMap.2 ⟨v, hv, by simp⟩
  have k1 := same_law (nm := nm) (fa := frontN f nm (itoa n1)) (fb := frontN f nm (itoa n2)) (fun d hd => firstErr_zero f4 d hd) (firstErr_zero f5 _ hm) (ks.k _ hm)
  rw [front_iff hne] at k1
  rw [Bool.eq_iff_iff]
  refine Iff.trans k1 ?_
  cases f.fresh <;> simp
mutual
theorem sub_w {needs yields : List DSig} {nm fx : Str} (hn : ∀ d ∈ needs, (nm ++ dot ++ d.name).size ≤ 200) (hy : ∀ d ∈ yields, (fx ++ dot ++ d.name).size ≤ 200) : ∀ t : Ty, kindErr needs t = 0 → kindErr yields t = 0 →
    wTy (substTy (outerM nm needs ++ outerM fx yields) t) ≤ 3 * wTy t ∧ (rngTy t → rngTy (substTy (outerM nm needs ++ outerM fx yields) t))
  | .mk k n v us, h1, h2 => by
    have ih := subs_w hn hy us
    simp only [kindErr] at h1 h2
    split at h1
    · cases h1
    rename_i g1
    split at h2
    · cases h2
    rename_i g2
    obtain ⟨i1, i2⟩ := ih h1 h2
    have hlen : (substTys (outerM nm needs ++ outerM fx yields) us).length = us.length := by simp [substTys_eq]
    simp only [substTy]
    by_cases hk : k = 1
    · rw [if_pos hk, findMap_append, findMap_outer, findMap_outer]
      subst hk
      simp only [true_and] at g1 g2
      cases hd : findBy DSig.name n needs with
      | some d =>
        simp only [Option.map_some, Option.some_or]
        rw [fill_front _ _ _ (by rw [hlen]; unfold kindBad at g1; rw [hd] at g1; simpa using g1)]
        have := hn d (findBy_some hd).1
        exact ⟨by simp only [wTy]; omega, fun h => ⟨by omega, by omega, i2 h.2.2⟩⟩
      | none =>
        simp only [Option.map_none, Option.none_or]
        cases he : findBy DSig.name n yields with
        | some d =>
          simp only [Option.map_some]
          rw [fill_front _ _ _ (by rw [hlen]; unfold kindBad at g2; rw [he] at g2; simpa using g2)]
          have := hy d (findBy_some he).1
          exact ⟨by simp only [wTy]; omega, fun h => ⟨by omega, by omega, i2 h.2.2⟩⟩
        | none =>
          simp only [Option.map_none]
          exact ⟨by simp only [wTy]; omega, fun h => ⟨h.1, h.2.1, i2 h.2.2⟩⟩
    · rw [if_neg hk]
      exact ⟨by simp only [wTy]; omega, fun h => ⟨h.1, h.2.1, i2 h.2.2⟩⟩
theorem subs_w {needs yields : List DSig} {nm fx : Str} (hn : ∀ d ∈ needs, (nm ++ dot ++ d.name).size ≤ 200) (hy : ∀ d ∈ yields, (fx ++ dot ++ d.name).size ≤ 200) : ∀ l : List Ty, kindErrs needs l = 0 → kindErrs yields l = 0 →
    wTys (substTys (outerM nm needs ++ outerM fx yields) l) ≤ 3 * wTys l ∧ (rngTys l → rngTys (substTys (outerM nm needs ++ outerM fx yields) l))
  | [], _, _ => by simp [substTys, wTys]
  | t :: ts, h1, h2 => by
    simp only [kindErrs] at h1 h2
    split at h1
    · rename_i h; exact absurd h1 h
    rename_i g1
    split at h2
    · rename_i h; exact absurd h2 h
    rename_i g2
    obtain ⟨a1, a2⟩ := sub_w hn hy t (by simpa using g1) (by simpa using g2)
    obtain ⟨b1, b2⟩ := subs_w hn hy ts h1 h2
    simp only [substTys, wTys, rngTys]
    exact ⟨by omega, fun h => ⟨a2 h.1, b2 h.2⟩⟩
end
theorem out_len {l : List DSig} {nm : Str} (hn : nm.size ≤ 100) (h : ∀ d ∈ l, datErr cutN d = 0) : ∀ d ∈ l, (nm ++ dot ++ d.name).size ≤ 200 := fun d hd => by
  have h1 := h d hd
  have h2 : cutN d.name = false := by
    unfold datErr at h1
    split at h1
    · cases h1
    · rename_i h3; simpa using h3
  have := cutN_len h2
  simp only [ByteArray.size_append]
  show nm.size + 1 + d.name.size ≤ 200
  omega
theorem appL_ty {f : Fctr} {n : Nat} (hn : n ≤ 1000) (h : fctErr f = 0) {v : VSig} (hv : v ∈ f.yields.vals) (hs : smallTy v.sch.ty) :
    smallTy (substTy (appL f nmM (itoa n)) v.sch.ty) ∧ wTy (substTy (appL f nmM (itoa n)) v.sch.ty) ≤ 3 * wTy v.sch.ty ∧ (rngTy v.sch.ty → rngTy (substTy (appL f nmM (itoa n)) v.sch.ty)) := by
  obtain ⟨f1, f2, f3, f4, f5⟩ := fct_ok h
  have km := chk_ok f2
  have ks := chk_ok f3
  have hm : v.sch.ty ∈ allTys f.yields := List.mem_append_right _ (List.mem_flatMap.2 ⟨v, hv, by simp⟩)
  have hfl : (frontN f nmM (itoa n)).size ≤ 100 := by
    have := cutN_len f1
    have := itoa_len hn
    unfold frontN
    split <;> simp only [ByteArray.size_append]
    · show f.name.size + 1 + (itoa n).size ≤ _; omega
    · show f.name.size + 1 + 1 + 1 ≤ _; omega
  refine ⟨smallTy_subst _ (fun m hm => ?_) _ hs, sub_w (out_len (by decide) km.d) (out_len hfl ks.d) _ (firstErr_zero f5 _ hm) (ks.k _ hm)⟩
  rcases List.mem_append.1 hm with hm | hm
  · exact (outerM_small km.par m hm).1
  · exact (outerM_small ks.par m hm).1
end Go.Proofs.YtoojdmgbffnmiaaDoor
/- The text of a type tells the type: two texts are equal just where the types are. -/
namespace Go.Proofs.YtoojdmgbffnmiaaDoor
open Go Go.Abs
set_option maxRecDepth 10000
set_option linter.unusedVariables false
set_option linter.unusedSimpArgs false
def lB (s : Str) : List UInt8 := s.data.toList
theorem lB_app (a b : Str) : lB (a ++ b) = lB a ++ lB b := by simp [lB, ByteArray.data_append, Array.toList_append]
theorem lB_inj {a b : Str} (h : lB a = lB b) : a = b := ByteArray.ext (Array.toList_inj.1 h)
theorem lB_size (a : Str) : (lB a).length = a.size := rfl
theorem lB_dig (n : Nat) (h : n < 10) : lB (digS n) = [UInt8.ofNat (48 + n)] := by
  have : ∀ m : Fin 10, lB (digS m.1) = [UInt8.ofNat (48 + m.1)] := by decide +kernel
  exact this ⟨n, h⟩
theorem lB_numN (n : Nat) : lB (numN n) = Lib.decDigits n := by
  induction n using Nat.strongRecOn with
  | _ n ih =>
    rw [numN, Lib.decDigits]
    split
    · rename_i h; exact lB_dig n h
    · rw [lB_app, ih (n / 10) (by omega), lB_dig (n % 10) (by omega)]
def isD (c : UInt8) : Prop := c = 45 ∨ (48 ≤ c.toNat ∧ c.toNat ≤ 57)
theorem dec_isD (n : Nat) : ∀ c ∈ Lib.decDigits n, 48 ≤ c.toNat ∧ c.toNat ≤ 57 := by
  induction n using Nat.strongRecOn with
  | _ n ih =>
    have h1 : ∀ d, d < 10 → 48 ≤ (UInt8.ofNat (48 + d)).toNat ∧ (UInt8.ofNat (48 + d)).toNat ≤ 57 := fun d hd => by rw [UInt8.toNat_ofNat']; omega
    intro c hc
    rw [Lib.decDigits] at hc
    split at hc
    · rename_i h
      simp only [List.mem_singleton] at hc; subst hc; exact h1 n h
    · rcases List.mem_append.1 hc with hc | hc
      · exact ih (n / 10) (by omega) c hc
      · simp only [List.mem_singleton] at hc; subst hc; exact h1 _ (by omega)
theorem lB_numS (x : Int) : lB (numS x) = if x < 0 then 45 :: Lib.decDigits x.natAbs else Lib.decDigits x.natAbs := by
  unfold numS
  split
  · rw [lB_app, lB_numN]; rfl
  · rw [lB_numN]
theorem numS_isD (x : Int) : ∀ c ∈ lB (numS x), isD c := by
  rw [lB_numS]
  intro c hc
  split at hc
  · rcases List.mem_cons.1 hc with rfl | hc
    · exact .inl rfl
    · exact .inr (dec_isD _ c hc)
  · exact .inr (dec_isD _ c hc)
theorem numS_inj {x y : Int} (h : lB (numS x) = lB (numS y)) : x = y := by
  rw [lB_numS, lB_numS] at h
  have dec : ∀ {a b : Nat}, Lib.decDigits a = Lib.decDigits b → a = b := fun {a b} h => by rw [← digVal_dec a, ← digVal_dec b, h]
  have bad : ∀ (a : Nat) (l : List UInt8), 45 :: l ≠ Lib.decDigits a := fun a l h => by
    have := dec_isD a 45 (by rw [← h]; simp)
    exact absurd this.1 (by decide)
  split at h <;> split at h
  · have := dec (List.cons.inj h).2; omega
  · exact absurd h (bad _ _)
  · exact absurd h.symm (bad _ _)
  · have := dec h; omega
theorem split_at : ∀ {xs ys r s : List UInt8} {c d : UInt8}, (∀ a ∈ xs, isD a) → (∀ a ∈ ys, isD a) → ¬ isD c → ¬ isD d → xs ++ c :: r = ys ++ d :: s → xs = ys ∧ c = d ∧ r = s
  | [], [], r, s, c, d, _, _, _, _, h => by simpa using h
  | [], y :: ys, r, s, c, d, _, hy, hc, _, h => by
    simp only [List.nil_append, List.cons_append, List.cons.injEq] at h
    exact absurd (h.1 ▸ hy y (by simp)) hc
  | x :: xs, [], r, s, c, d, hx, _, _, hd, h => by
    simp only [List.nil_append, List.cons_append, List.cons.injEq] at h
    exact absurd (h.1 ▸ hx x (by simp)) hd
  | x :: xs, y :: ys, r, s, c, d, hx, hy, hc, hd, h => by
    simp only [List.cons_append, List.cons.injEq] at h
    obtain ⟨h1, h2, h3⟩ := split_at (fun a ha => hx a (by simp [ha])) (fun a ha => hy a (by simp [ha])) hc hd h.2
    exact ⟨by rw [h.1, h1], h2, h3⟩
def argsL : List Ty → List UInt8
  | [] => []
  | t :: ts => 59 :: (lB (textTy t) ++ argsL ts)
theorem lB_args : ∀ (l : List Ty) (o : Str), lB (textArgs o l) = lB o ++ argsL l
  | [], o => by simp [textArgs, argsL]
  | t :: ts, o => by
    rw [textArgs, lB_args ts]
    simp only [lB_app, argsL]
    have : lB sSem = [59] := rfl
    rw [this]; simp
def tailL (us : List Ty) (r : List UInt8) : List UInt8 := argsL us ++ 62 :: r
def midL (k : Int) (n : Str) (v : Int) : List UInt8 := if k = 0 then lB (numS v) else if k = 1 ∨ k = 5 then lB (numS n.size) ++ 58 :: lB n else []
theorem lB_text (k : Int) (n : Str) (v : Int) (us : List Ty) (r : List UInt8) : lB (textTy (.mk k n v us)) ++ r = lB (numS k) ++ 60 :: (midL k n v ++ tailL us r) := by
  have h1 : lB sLt = [60] := rfl
  have h2 : lB sGt = [62] := rfl
  have h3 : lB sCol = [58] := rfl
  simp only [textTy, lB_app, lB_args, textHead, h2, tailL, midL]
  by_cases k0 : k = 0
  · subst k0
    simp [lB_app, h1]
  · by_cases k1 : k = 1 ∨ k = 5
    · simp [k0, k1, lB_app, h1, h3]
    · simp [k0, k1, lB_app, h1]
theorem tailL_head (us : List Ty) (r : List UInt8) : ∃ c q, tailL us r = c :: q ∧ ¬ isD c := by
  cases us with
  | nil => exact ⟨62, r, rfl, by rintro (h | h); exact absurd h (by decide); exact absurd h.2 (by decide)⟩
  | cons t ts => exact ⟨59, _, rfl, by rintro (h | h); exact absurd h (by decide); exact absurd h.2 (by decide)⟩
theorem nD60 : ¬ isD 60 := by rintro (h | h); exact absurd h (by decide); exact absurd h.2 (by decide)
theorem nD58 : ¬ isD 58 := by rintro (h | h); exact absurd h (by decide); exact absurd h.2 (by decide)
theorem mid_dec {k : Int} {n n' : Str} {v v' : Int} {us us' : List Ty} {r s : List UInt8} (h : midL k n v ++ tailL us r = midL k n' v' ++ tailL us' s) : (k = 1 ∨ k = 5 → n = n') ∧ (k = 0 → v = v') ∧ tailL us r = tailL us' s := by
  unfold midL at h
  by_cases k0 : k = 0
  · rw [if_pos k0, if_pos k0] at h
    obtain ⟨c, q, e1, hc⟩ := tailL_head us r
    obtain ⟨d, q', e2, hd⟩ := tailL_head us' s
    rw [e1, e2] at h ⊢
    obtain ⟨h1, h2, h3⟩ := split_at (numS_isD v) (numS_isD v') hc hd h
    exact ⟨fun hk => by omega, fun _ => numS_inj h1, by rw [h2, h3]⟩
  · rw [if_neg k0, if_neg k0] at h
    by_cases k1 : k = 1 ∨ k = 5
    · rw [if_pos k1, if_pos k1] at h
      simp only [List.append_assoc, List.cons_append] at h
      obtain ⟨h1, _, h3⟩ := split_at (numS_isD _) (numS_isD _) nD58 nD58 h
      have hs : n.size = n'.size := by have := numS_inj h1; omega
      obtain ⟨h4, h5⟩ := List.append_inj h3 (by rw [lB_size, lB_size, hs])
      exact ⟨fun _ => lB_inj h4, fun hk => absurd hk k0, h5⟩
    · rw [if_neg k1, if_neg k1] at h
      exact ⟨fun hk => absurd hk k1, fun hk => absurd hk k0, by simpa using h⟩
mutual
theorem text_dec : ∀ (a b : Ty) (r s : List UInt8), lB (textTy a) ++ r = lB (textTy b) ++ s → canon a = canon b ∧ r = s
  | .mk k n v us, .mk k' n' v' us', r, s, h => by
    rw [lB_text, lB_text] at h
    obtain ⟨h1, _, h2⟩ := split_at (numS_isD k) (numS_isD k') nD60 nD60 h
    obtain rfl := numS_inj h1
    obtain ⟨h3, h4, h5⟩ := mid_dec h2
    obtain ⟨h6, h7⟩ := args_dec us us' r s h5
    exact ⟨(canon_mk ..).2 ⟨rfl, h3, h4, h6⟩, h7⟩
theorem args_dec : ∀ (us vs : List Ty) (r s : List UInt8), tailL us r = tailL vs s → canons us = canons vs ∧ r = s
  | [], [], r, s, h => by simp only [tailL, argsL, List.nil_append, List.cons.injEq] at h; exact ⟨rfl, h.2⟩
  | [], v :: vs, r, s, h => by simp only [tailL, argsL, List.nil_append, List.cons_append, List.cons.injEq] at h; exact absurd h.1 (by decide)
  | u :: us, [], r, s, h => by simp only [tailL, argsL, List.nil_append, List.cons_append, List.cons.injEq] at h; exact absurd h.1 (by decide)
  | u :: us, v :: vs, r, s, h => by
    simp only [tailL, argsL, List.cons_append, List.cons.injEq, true_and, List.append_assoc] at h
    obtain ⟨h1, h2⟩ := text_dec u v _ _ h
    obtain ⟨h3, h4⟩ := args_dec us vs r s h2
    exact ⟨by simp only [canons, h1, h3], h4⟩
end
mutual
theorem text_canon : ∀ a : Ty, textTy (canon a) = textTy a
  | .mk k n v us => by
    have hh : textHead k (if k = 1 ∨ k = 5 then n else ⟨#[]⟩) (if k = 0 then v else 0) = textHead k n v := by
      unfold textHead
      by_cases k0 : k = 0
      · subst k0; simp
      · by_cases k1 : k = 1 ∨ k = 5
        · simp [k0, k1]
        · simp [k0, k1]
    simp only [canon, textTy]
    rw [hh, args_canon us]
theorem args_canon : ∀ (us : List Ty) (o : Str), textArgs o (canons us) = textArgs o us
  | [], o => rfl
  | t :: ts, o => by simp only [canons, textArgs]; rw [text_canon t, args_canon ts]
end
theorem text_same (a b : Ty) : ((textTy a).toList == (textTy b).toList) = sameTy a b := by
  rw [Bool.eq_iff_iff, str_eq, sameTy_iff]
  constructor
  · intro h
    exact (text_dec a b [] [] (by rw [h])).1
  · intro h
    rw [← text_canon a, ← text_canon b, h]
end Go.Proofs.YtoojdmgbffnmiaaDoor
/- FunctorEqual: its walk. -/
namespace Go.Proofs.YtoojdmgbffnmiaaDoor
open Go Go.Abs
set_option maxRecDepth 10000
set_option linter.unusedVariables false
set_option linter.unusedSimpArgs false
theorem eqlBool {E : Env} {o : Oper} {fr : Fr} {σ : St} {t yt : TypeId} {x y : Operand} {a b : Bool} (ht : E.P.underlying t = some .bool) (ho : o.op = .binOp .eql t x y yt) (hx : aEval E.Γ fr x = some (.one (.lit (.bool a)))) (hy : aEval E.Γ fr y = some (.one (.lit (.bool b)))) : AStep E o fr σ (.one (.lit (.bool (a == b)))) σ := by
  refine AStep.quiet fun F w C tmps hi hf => ⟨.bool (a == b), ?_, rfl, rfl⟩
  have h1 := aEval_ok (a := ⟨tmps, []⟩) hi hf hx
  have h2 := aEval_ok (a := ⟨tmps, []⟩) hi hf hy
  simp only [RF, R] at h1 h2
  unfold execOp
  simp only [ho, h1.1, h2.1, eqGuard_at_bool, Sem.run_bind, Sem.run_pure, Result.andThen_ok]
  simp [binOp, run_equal_bool _ _ _ _ ht]
theorem tmod_rng (a : Int) : ∃ n : Nat, Int.tmod (if a > 0 then a else 0) 1000 = n ∧ n < 1000 := by
  obtain ⟨m, hm⟩ : ∃ m : Nat, (if a > 0 then a else 0) = m := ⟨(if a > 0 then a else 0).toNat, by split <;> omega⟩
  rw [hm]
  exact ⟨m % 1000, rfl, by omega⟩
theorem FunctorEqual_ok (f : Fctr) (arg : Spec) (a b : Int) (hf : okF f) (ha : okSpec arg) (hza : SzS arg) (hr : ∀ v ∈ f.yields.vals, rngTy v.sch.ty) (hw : ∀ v ∈ f.yields.vals, wTy v.sch.ty ≤ 274877906944) :
    APure Tryd.prog Γ1 11 [.agg (cFctr f), .agg (cSpec arg), .one (int a), .one (int b)] (.one (.lit (.bool true))) := by
  intro ou
  refine AFn.walk 124 tabOk Tryd.func11 rfl (by kernel_rfl) rfl rfl fun hou => ?_
  repeat first | (with_reducible refine oj ?_; refine AOps.auto tabOk rfl ?_) | (with_reducible first | refine o1 ?_ | refine o2 ?_ | refine o3 ?_ | refine o4 ?_ | refine o5 ?_ | refine o6 ?_ | refine o7 ?_ | refine o8 ?_ | refine o9 ?_ | refine oa ?_ | refine ob ?_ | refine oc ?_ | refine od ?_ | refine oe ?_ | refine og ?_ | refine oh ?_ | refine oi ?_) | (with_reducible refine cExitMiss ?_ ?_; rfl) | (with_reducible refine ok ?_; first | refine ACode.condT rfl ?_ | refine ACode.condF rfl ?_)
  refine AOps.step1 rfl rfl rfl (AStep.max2 (t := 3) (ty := 3) rfl rfl rfl) ?_
  repeat first | (with_reducible refine oj ?_; refine AOps.auto tabOk rfl ?_) | (with_reducible first | refine o1 ?_ | refine o2 ?_ | refine o3 ?_ | refine o4 ?_ | refine o5 ?_ | refine o6 ?_ | refine o7 ?_ | refine o8 ?_ | refine o9 ?_ | refine oa ?_ | refine ob ?_ | refine oc ?_ | refine od ?_ | refine oe ?_ | refine og ?_ | refine oh ?_ | refine oi ?_) | (with_reducible refine cExitMiss ?_ ?_; rfl) | (with_reducible refine ok ?_; first | refine ACode.condT rfl ?_ | refine ACode.condF rfl ?_)
  refine AOps.step1 rfl rfl rfl (AStep.rem rfl rfl rfl (by decide)) ?_
  repeat first | (with_reducible refine oj ?_; refine AOps.auto tabOk rfl ?_) | (with_reducible first | refine o1 ?_ | refine o2 ?_ | refine o3 ?_ | refine o4 ?_ | refine o5 ?_ | refine o6 ?_ | refine o7 ?_ | refine o8 ?_ | refine o9 ?_ | refine oa ?_ | refine ob ?_ | refine oc ?_ | refine od ?_ | refine oe ?_ | refine og ?_ | refine oh ?_ | refine oi ?_) | (with_reducible refine cExitMiss ?_ ?_; rfl) | (with_reducible refine ok ?_; first | refine ACode.condT rfl ?_ | refine ACode.condF rfl ?_)
  refine AOps.step1 rfl rfl rfl (AStep.max2 (t := 3) (ty := 3) rfl rfl rfl) ?_
  repeat first | (with_reducible refine oj ?_; refine AOps.auto tabOk rfl ?_) | (with_reducible first | refine o1 ?_ | refine o2 ?_ | refine o3 ?_ | refine o4 ?_ | refine o5 ?_ | refine o6 ?_ | refine o7 ?_ | refine o8 ?_ | refine o9 ?_ | refine oa ?_ | refine ob ?_ | refine oc ?_ | refine od ?_ | refine oe ?_ | refine og ?_ | refine oh ?_ | refine oi ?_) | (with_reducible refine cExitMiss ?_ ?_; rfl) | (with_reducible refine ok ?_; first | refine ACode.condT rfl ?_ | refine ACode.condF rfl ?_)
  refine AOps.step1 rfl rfl rfl (AStep.rem rfl rfl rfl (by decide)) ?_
  obtain ⟨n1, h1, h1'⟩ := tmod_rng a
  obtain ⟨m2, h2, h2'⟩ := tmod_rng b
  rw [h1, h2]
  repeat first | (with_reducible refine oj ?_; refine AOps.auto tabOk rfl ?_) | (with_reducible first | refine o1 ?_ | refine o2 ?_ | refine o3 ?_ | refine o4 ?_ | refine o5 ?_ | refine o6 ?_ | refine o7 ?_ | refine o8 ?_ | refine o9 ?_ | refine oa ?_ | refine ob ?_ | refine oc ?_ | refine od ?_ | refine oe ?_ | refine og ?_ | refine oh ?_ | refine oi ?_) | (with_reducible refine cExitMiss ?_ ?_; rfl) | (with_reducible refine ok ?_; first | refine ACode.condT rfl ?_ | refine ACode.condF rfl ?_)
  refine ACode.cutR hΓ1 (α := Nat) (fun n2 => [(3, .one (int n2)), (2, .one (int n1)), (5, .one (.ptr (.l 1) 0)), (4, .one (.ptr (.l 0) 0))])
    (fun _ => ⟨2, [(1, .cells (cSpec arg)), (0, .cells (cFctr f))], ou⟩) (fun n2 => n2 ≠ n1 ∧ n2 ≤ 1000) ?_ fun n2 hn2 => ?_
  · refine ACode.cond rfl (fun hb => ?_) (fun hb => ?_)
    · have hb' : n1 = m2 := by simp at hb; omega
      repeat first | (with_reducible refine oj ?_; refine AOps.auto tabOk rfl ?_) | (with_reducible first | refine o1 ?_ | refine o2 ?_ | refine o3 ?_ | refine o4 ?_ | refine o5 ?_ | refine o6 ?_ | refine o7 ?_ | refine o8 ?_ | refine o9 ?_ | refine oa ?_ | refine ob ?_ | refine oc ?_ | refine od ?_ | refine oe ?_ | refine og ?_ | refine oh ?_ | refine oi ?_) | (with_reducible refine cExitMiss ?_ ?_; rfl) | (with_reducible refine ok ?_; first | refine ACode.condT rfl ?_ | refine ACode.condF rfl ?_)
      refine AOps.step1 rfl rfl rfl (AStep.arith rfl rfl rfl (.inl ⟨rfl, rfl⟩) (inRange_i64 (by omega) (by omega))) ?_
      repeat first | (with_reducible refine oj ?_; refine AOps.auto tabOk rfl ?_) | (with_reducible first | refine o1 ?_ | refine o2 ?_ | refine o3 ?_ | refine o4 ?_ | refine o5 ?_ | refine o6 ?_ | refine o7 ?_ | refine o8 ?_ | refine o9 ?_ | refine oa ?_ | refine ob ?_ | refine oc ?_ | refine od ?_ | refine oe ?_ | refine og ?_ | refine oh ?_ | refine oi ?_) | (with_reducible refine cExitMiss ?_ ?_; rfl) | (with_reducible refine ok ?_; first | refine ACode.condT rfl ?_ | refine ACode.condF rfl ?_)
      exact cInv ⟨m2 + 1, fun k => k, ⟨by omega, by omega⟩, LessR.of rfl (by (repeat' first | exact FrSub.nil | refine FrSub.cons rfl (.ofEq rfl) ?_ | refine FrSub.consP rfl (.ofEq rfl) (by simp) ?_)) (by simp) (by repeat' first | exact LoSub.nil | refine LoSub.cons rfl ?_ rfl (by simp) ?_ | rfl | (refine (AObj.ren_pure _ _ ?_).symm; simp; done) | (simp [AObj.ren, renL, AC.ren, cTy]; done) | (simp [AObj.ren, renL, AC.ren, cTy]; rfl)) rfl rfl hou⟩
    · have hb' : ¬ n1 = m2 := by simp at hb; omega
      repeat first | (with_reducible refine oj ?_; refine AOps.auto tabOk rfl ?_) | (with_reducible first | refine o1 ?_ | refine o2 ?_ | refine o3 ?_ | refine o4 ?_ | refine o5 ?_ | refine o6 ?_ | refine o7 ?_ | refine o8 ?_ | refine o9 ?_ | refine oa ?_ | refine ob ?_ | refine oc ?_ | refine od ?_ | refine oe ?_ | refine og ?_ | refine oh ?_ | refine oi ?_) | (with_reducible refine cExitMiss ?_ ?_; rfl) | (with_reducible refine ok ?_; first | refine ACode.condT rfl ?_ | refine ACode.condF rfl ?_)
      exact cInv ⟨m2, fun k => k, ⟨fun e => hb' e.symm, by omega⟩, LessR.of rfl (by (repeat' first | exact FrSub.nil | refine FrSub.cons rfl (.ofEq rfl) ?_ | refine FrSub.consP rfl (.ofEq rfl) (by simp) ?_)) (by simp) (by repeat' first | exact LoSub.nil | refine LoSub.cons rfl ?_ rfl (by simp) ?_ | rfl | (refine (AObj.ren_pure _ _ ?_).symm; simp; done) | (simp [AObj.ren, renL, AC.ren, cTy]; done) | (simp [AObj.ren, renL, AC.ren, cTy]; rfl)) rfl rfl hou⟩
  obtain ⟨hne, hn2'⟩ := hn2
  clear h1 h2 h2' m2
  have c1 := Apply_ok hs1 hΓ1 f arg nmM (itoa n1) n1 (by decide) (itoa_len (by omega)) (fun _ _ => Itoa_ok n1 (by omega)) hf.n hf.m hf.s hf.zm hf.zs ha hza
  have c2 := Apply_ok hs1 hΓ1 f arg nmM (itoa n2) n2 (by decide) (itoa_len (by omega)) (fun _ _ => Itoa_ok n2 (by omega)) hf.n hf.m hf.s hf.zm hf.zs ha hza
  have e12 : appErr f arg nmM n2 = appErr f arg nmM n1 := appErr_n (by omega) (by omega)
  have hfc : appErr f arg nmM n1 = 0 → fctErr f = 0 := appErr_zero
  rw [e12] at c2
  have r1 : appR f arg nmM (itoa n1) n1 = if appErr f arg nmM n1 = 0 then subSp (appL f nmM (itoa n1)) f.yields else ⟨[], []⟩ := rfl
  have r2 : appR f arg nmM (itoa n2) n2 = if appErr f arg nmM n1 = 0 then subSp (appL f nmM (itoa n2)) f.yields else ⟨[], []⟩ := by rw [← e12]; rfl
  rw [r1] at c1
  rw [r2] at c2
  clear r1 r2 e12
  generalize appErr f arg nmM n1 = e at c1 c2 hfc
  by_cases he : e = 0
  rotate_left
  · rw [if_neg he] at c1 c2
    have hbe : (e != 0) = true := by simpa using he
    have hbe2 : (e == e) = true := by simp
    repeat first | (with_reducible refine oj ?_; refine AOps.auto tabOk rfl ?_) | (with_reducible first | refine o1 ?_ | refine o2 ?_ | refine o3 ?_ | refine o4 ?_ | refine o5 ?_ | refine o6 ?_ | refine o7 ?_ | refine o8 ?_ | refine o9 ?_ | refine oa ?_ | refine ob ?_ | refine oc ?_ | refine od ?_ | refine oe ?_ | refine og ?_ | refine oh ?_ | refine oi ?_) | (with_reducible refine cExitMiss ?_ ?_; rfl) | (with_reducible refine ok ?_; first | refine ACode.condT rfl ?_ | refine ACode.condF rfl ?_)
    refine AOps.callC hΓ1 c1 rfl rfl rfl rfl rfl rfl rfl hou (by simp) ?_
    repeat first | (with_reducible refine oj ?_; refine AOps.auto tabOk rfl ?_) | (with_reducible first | refine o1 ?_ | refine o2 ?_ | refine o3 ?_ | refine o4 ?_ | refine o5 ?_ | refine o6 ?_ | refine o7 ?_ | refine o8 ?_ | refine o9 ?_ | refine oa ?_ | refine ob ?_ | refine oc ?_ | refine od ?_ | refine oe ?_ | refine og ?_ | refine oh ?_ | refine oi ?_) | (with_reducible refine cExitMiss ?_ ?_; rfl) | (with_reducible refine ok ?_; first | refine ACode.condT rfl ?_ | refine ACode.condF rfl ?_)
    refine AOps.callC hΓ1 c2 rfl rfl rfl rfl rfl rfl rfl hou (by simp) ?_
    repeat first | (with_reducible refine oj ?_; refine AOps.auto tabOk rfl ?_) | (with_reducible first | refine o1 ?_ | refine o2 ?_ | refine o3 ?_ | refine o4 ?_ | refine o5 ?_ | refine o6 ?_ | refine o7 ?_ | refine o8 ?_ | refine o9 ?_ | refine oa ?_ | refine ob ?_ | refine oc ?_ | refine od ?_ | refine oe ?_ | refine og ?_ | refine oh ?_ | refine oi ?_) | (with_reducible refine cExitMiss ?_ ?_; rfl) | (with_reducible refine ok ?_; first | refine ACode.condT rfl ?_ | refine ACode.condF rfl ?_)
    refine AOps.splitG rfl rfl rfl (fun hb => ?_) (fun hb => absurd (hbe.symm.trans hb) (by decide))
    repeat first | (with_reducible refine oj ?_; refine AOps.auto tabOk rfl ?_) | (with_reducible first | refine o1 ?_ | refine o2 ?_ | refine o3 ?_ | refine o4 ?_ | refine o5 ?_ | refine o6 ?_ | refine o7 ?_ | refine o8 ?_ | refine o9 ?_ | refine oa ?_ | refine ob ?_ | refine oc ?_ | refine od ?_ | refine oe ?_ | refine og ?_ | refine oh ?_ | refine oi ?_) | (with_reducible refine cExitMiss ?_ ?_; rfl) | (with_reducible refine ok ?_; first | refine ACode.condT rfl ?_ | refine ACode.condF rfl ?_)
    refine AOps.callC hΓ1 (fact_true.lift hs1 hΓ1) rfl rfl rfl rfl rfl rfl rfl hou (by simp) ?_
    repeat first | (with_reducible refine oj ?_; refine AOps.auto tabOk rfl ?_) | (with_reducible first | refine o1 ?_ | refine o2 ?_ | refine o3 ?_ | refine o4 ?_ | refine o5 ?_ | refine o6 ?_ | refine o7 ?_ | refine o8 ?_ | refine o9 ?_ | refine oa ?_ | refine ob ?_ | refine oc ?_ | refine od ?_ | refine oe ?_ | refine og ?_ | refine oh ?_ | refine oi ?_) | (with_reducible refine cExitMiss ?_ ?_; rfl) | (with_reducible refine ok ?_; first | refine ACode.condT rfl ?_ | refine ACode.condF rfl ?_)
    refine AOps.splitG rfl rfl rfl (fun hb => ?_) (fun hb => absurd (hbe2.symm.trans hb) (by decide))
    repeat first | (with_reducible refine oj ?_; refine AOps.auto tabOk rfl ?_) | (with_reducible first | refine o1 ?_ | refine o2 ?_ | refine o3 ?_ | refine o4 ?_ | refine o5 ?_ | refine o6 ?_ | refine o7 ?_ | refine o8 ?_ | refine o9 ?_ | refine oa ?_ | refine ob ?_ | refine oc ?_ | refine od ?_ | refine oe ?_ | refine og ?_ | refine oh ?_ | refine oi ?_) | (with_reducible refine cExitMiss ?_ ?_; rfl) | (with_reducible refine ok ?_; first | refine ACode.condT rfl ?_ | refine ACode.condF rfl ?_)
    exact APure.fin rfl (WkF.ofEq (by simp)) (by simp) hou rfl
  subst he
  have hf0 := hfc rfl
  rw [if_pos rfl] at c1 c2
  clear hfc
  have hty1 : ∀ v ∈ f.yields.vals, _ := fun v hv => appL_ty (n := n1) (by omega) hf0 hv (hf.s.v v hv).2.1
  have hty2 : ∀ v ∈ f.yields.vals, _ := fun v hv => appL_ty (n := n2) (by omega) hf0 hv (hf.s.v v hv).2.1
  have heq : ∀ v ∈ f.yields.vals, _ := fun v hv => equal_at (nm := nmM) (n1 := n1) (n2 := n2) (fun h => hne h.symm) hf0 hv
  generalize appL f nmM (itoa n1) = l1 at c1 hty1 heq
  generalize appL f nmM (itoa n2) = l2 at c2 hty2 heq
  repeat first | (with_reducible refine oj ?_; refine AOps.auto tabOk rfl ?_) | (with_reducible first | refine o1 ?_ | refine o2 ?_ | refine o3 ?_ | refine o4 ?_ | refine o5 ?_ | refine o6 ?_ | refine o7 ?_ | refine o8 ?_ | refine o9 ?_ | refine oa ?_ | refine ob ?_ | refine oc ?_ | refine od ?_ | refine oe ?_ | refine og ?_ | refine oh ?_ | refine oi ?_) | (with_reducible refine cExitMiss ?_ ?_; rfl) | (with_reducible refine ok ?_; first | refine ACode.condT rfl ?_ | refine ACode.condF rfl ?_)
  refine AOps.callC hΓ1 c1 rfl rfl rfl rfl rfl rfl rfl hou (by simp) ?_
  repeat first | (with_reducible refine oj ?_; refine AOps.auto tabOk rfl ?_) | (with_reducible first | refine o1 ?_ | refine o2 ?_ | refine o3 ?_ | refine o4 ?_ | refine o5 ?_ | refine o6 ?_ | refine o7 ?_ | refine o8 ?_ | refine o9 ?_ | refine oa ?_ | refine ob ?_ | refine oc ?_ | refine od ?_ | refine oe ?_ | refine og ?_ | refine oh ?_ | refine oi ?_) | (with_reducible refine cExitMiss ?_ ?_; rfl) | (with_reducible refine ok ?_; first | refine ACode.condT rfl ?_ | refine ACode.condF rfl ?_)
  refine AOps.callC hΓ1 c2 rfl rfl rfl rfl rfl rfl rfl hou (by simp) ?_
  repeat first | (with_reducible refine oj ?_; refine AOps.auto tabOk rfl ?_) | (with_reducible first | refine o1 ?_ | refine o2 ?_ | refine o3 ?_ | refine o4 ?_ | refine o5 ?_ | refine o6 ?_ | refine o7 ?_ | refine o8 ?_ | refine o9 ?_ | refine oa ?_ | refine ob ?_ | refine oc ?_ | refine od ?_ | refine oe ?_ | refine og ?_ | refine oh ?_ | refine oi ?_) | (with_reducible refine cExitMiss ?_ ?_; rfl) | (with_reducible refine ok ?_; first | refine ACode.condT rfl ?_ | refine ACode.condF rfl ?_)
  refine AOps.splitG rfl rfl rfl (fun hb => by simp [subSp] at hb) (fun hb => ?_)
  repeat first | (with_reducible refine oj ?_; refine AOps.auto tabOk rfl ?_) | (with_reducible first | refine o1 ?_ | refine o2 ?_ | refine o3 ?_ | refine o4 ?_ | refine o5 ?_ | refine o6 ?_ | refine o7 ?_ | refine o8 ?_ | refine o9 ?_ | refine oa ?_ | refine ob ?_ | refine oc ?_ | refine od ?_ | refine oe ?_ | refine og ?_ | refine oh ?_ | refine oi ?_) | (with_reducible refine cExitMiss ?_ ?_; rfl) | (with_reducible refine ok ?_; first | refine ACode.condT rfl ?_ | refine ACode.condF rfl ?_)
  refine AOps.splitG rfl rfl rfl (fun hb => by simp [subSp] at hb) (fun hb2 => ?_)
  refine AOps.freeze1 (.l 0) 4 rfl rfl ?_
  refine AOps.callG hΓ1 (fact_true.lift hs1 hΓ1) rfl rfl rfl rfl rfl rfl rfl rfl rfl hou (by simp) ?_
  repeat first | (with_reducible refine oj ?_; refine AOps.auto tabOk rfl ?_) | (with_reducible first | refine o1 ?_ | refine o2 ?_ | refine o3 ?_ | refine o4 ?_ | refine o5 ?_ | refine o6 ?_ | refine o7 ?_ | refine o8 ?_ | refine o9 ?_ | refine oa ?_ | refine ob ?_ | refine oc ?_ | refine od ?_ | refine oe ?_ | refine og ?_ | refine oh ?_ | refine oi ?_) | (with_reducible refine cExitMiss ?_ ?_; rfl) | (with_reducible refine ok ?_; first | refine ACode.condT rfl ?_ | refine ACode.condF rfl ?_)
  refine ACode.loopR hΓ1 (α := Nat) (fun j => [(89, .one (int j)), (88, .one (int ((subVs l1 f.yields.vals).map cVal).length)), (13, .one (.fn (.func 30) [] [.box (cFctr f)])), (11, .one (.ptr (.l 3) 0)), (9, .one (.ptr (.l 2) 0)), (4, .one (.box (cFctr f)))])
    (fun j => ⟨4, [(3, .cells (cSpec (subSp l2 f.yields))), (2, .cells (cSpec (subSp l1 f.yields)))], ou⟩)
    (fun m j => j ≤ f.yields.vals.length ∧ m = f.yields.vals.length - j) (a0 := 0) (ρ := fun k => k) ⟨by omega, rfl⟩ (LessR.of rfl (by (repeat' first | exact FrSub.nil | refine FrSub.cons rfl (.ofEq rfl) ?_ | refine FrSub.consP rfl (.ofEq rfl) (by simp) ?_)) (by simp) (by repeat' first | exact LoSub.nil | refine LoSub.cons rfl ?_ rfl (by simp) ?_ | rfl | (refine (AObj.ren_pure _ _ ?_).symm; simp; done) | (simp [AObj.ren, renL, AC.ren, cTy]; done) | (simp [AObj.ren, renL, AC.ren, cTy]; rfl)) rfl rfl hou) fun m j hj => ?_
  obtain ⟨hjl, rfl⟩ := hj
  repeat first | (with_reducible refine oj ?_; refine AOps.auto tabOk rfl ?_) | (with_reducible first | refine o1 ?_ | refine o2 ?_ | refine o3 ?_ | refine o4 ?_ | refine o5 ?_ | refine o6 ?_ | refine o7 ?_ | refine o8 ?_ | refine o9 ?_ | refine oa ?_ | refine ob ?_ | refine oc ?_ | refine od ?_ | refine oe ?_ | refine og ?_ | refine oh ?_ | refine oi ?_) | (with_reducible refine cExitMiss ?_ ?_; rfl) | (with_reducible refine ok ?_; first | refine ACode.condT rfl ?_ | refine ACode.condF rfl ?_)
  refine ACode.cond rfl (fun hb2 => ?_) (fun hb2 => ?_)
  · have hlt : j < f.yields.vals.length := by simpa using hb2
    have hvl := hf.s.vl
    obtain ⟨v, hv⟩ := get_of_lt hlt
    have hvm := List.mem_of_getElem? hv
    have hv1 : (subVs l1 f.yields.vals)[j]? = some (subV l1 v) := by simp [subVs, hv]
    have hv2 : (subVs l2 f.yields.vals)[j]? = some (subV l2 v) := by simp [subVs, hv]
    obtain ⟨s1, w1, g1⟩ := hty1 v hvm
    obtain ⟨s2, w2, g2⟩ := hty2 v hvm
    have hwv := hw v hvm
    have hst := SameType_ok hΓ1 (substTy l1 v.sch.ty) (substTy l2 v.sch.ty) s1 (g1 (hr v hvm)) (by omega) s2 (g2 (hr v hvm)) (by omega)
    rw [text_same, heq v hvm] at hst
    have how := own_ok f v.sch.ty hf.s (hf.s.v v hvm).2.1
    repeat first | (with_reducible refine oj ?_; refine AOps.auto tabOk rfl ?_) | (with_reducible first | refine o1 ?_ | refine o2 ?_ | refine o3 ?_ | refine o4 ?_ | refine o5 ?_ | refine o6 ?_ | refine o7 ?_ | refine o8 ?_ | refine o9 ?_ | refine oa ?_ | refine ob ?_ | refine oc ?_ | refine od ?_ | refine oe ?_ | refine og ?_ | refine oh ?_ | refine oi ?_) | (with_reducible refine cExitMiss ?_ ?_; rfl) | (with_reducible refine ok ?_; first | refine ACode.condT rfl ?_ | refine ACode.condF rfl ?_)
    refine ACode.drawX tabOk 15 [(3, .one (.box (cVal (subV l1 v)))), (10, .one (.box (cVal (subV l2 v)))), (14, .one (.lit (.bool (!(f.fresh && ment f.yields.datas v.sch.ty)))))] follows (by kernel_rfl) rfl rfl rfl rfl ?_ ?_
    · refine .step rfl (HStep.plain rfl (AStep.indexAddr tabOk rfl rfl rfl rfl rfl rfl (.inl rfl) rfl (by omega) (map_get hv1))) ?_
      refine .step rfl (HStep.plain rfl (AStep.indexAddr tabOk rfl rfl rfl rfl rfl rfl (.inl rfl) rfl (by omega) (map_get hv2))) ?_
      exact .call hΓ1 hst hou (by simp) rfl rfl rfl rfl rfl rfl .nil
    repeat first | (with_reducible refine oj ?_; refine AOps.auto tabOk rfl ?_) | (with_reducible first | refine o1 ?_ | refine o2 ?_ | refine o3 ?_ | refine o4 ?_ | refine o5 ?_ | refine o6 ?_ | refine o7 ?_ | refine o8 ?_ | refine o9 ?_ | refine oa ?_ | refine ob ?_ | refine oc ?_ | refine od ?_ | refine oe ?_ | refine og ?_ | refine oh ?_ | refine oi ?_) | (with_reducible refine cExitMiss ?_ ?_; rfl) | (with_reducible refine ok ?_; first | refine ACode.condT rfl ?_ | refine ACode.condF rfl ?_)
    have fin : ∀ g : Bool, g = (f.fresh && ment f.yields.datas v.sch.ty) → ((!(f.fresh && ment f.yields.datas v.sch.ty)) == g) = true → False := fun g h1 h2 => by
      subst h1; revert h2; cases (f.fresh && ment f.yields.datas v.sch.ty) <;> decide
    refine AOps.splitG rfl rfl rfl (fun hg => ?_) (fun hg => ?_)
    · repeat first | (with_reducible refine oj ?_; refine AOps.auto tabOk rfl ?_) | (with_reducible first | refine o1 ?_ | refine o2 ?_ | refine o3 ?_ | refine o4 ?_ | refine o5 ?_ | refine o6 ?_ | refine o7 ?_ | refine o8 ?_ | refine o9 ?_ | refine oa ?_ | refine ob ?_ | refine oc ?_ | refine od ?_ | refine oe ?_ | refine og ?_ | refine oh ?_ | refine oi ?_) | (with_reducible refine cExitMiss ?_ ?_; rfl) | (with_reducible refine ok ?_; first | refine ACode.condT rfl ?_ | refine ACode.condF rfl ?_)
      refine AOps.stepG rfl rfl rfl rfl rfl (AStep.indexAddr tabOk rfl rfl rfl rfl rfl rfl (.inl rfl) rfl (by omega) (map_get hv)) ?_
      repeat first | (with_reducible refine oj ?_; refine AOps.auto tabOk rfl ?_) | (with_reducible first | refine o1 ?_ | refine o2 ?_ | refine o3 ?_ | refine o4 ?_ | refine o5 ?_ | refine o6 ?_ | refine o7 ?_ | refine o8 ?_ | refine o9 ?_ | refine oa ?_ | refine ob ?_ | refine oc ?_ | refine od ?_ | refine oe ?_ | refine og ?_ | refine oh ?_ | refine oi ?_) | (with_reducible refine cExitMiss ?_ ?_; rfl) | (with_reducible refine ok ?_; first | refine ACode.condT rfl ?_ | refine ACode.condF rfl ?_)
      refine AOps.callG hΓ1 how rfl rfl rfl rfl rfl rfl rfl rfl rfl hou (by simp) ?_
      repeat first | (with_reducible refine oj ?_; refine AOps.auto tabOk rfl ?_) | (with_reducible first | refine o1 ?_ | refine o2 ?_ | refine o3 ?_ | refine o4 ?_ | refine o5 ?_ | refine o6 ?_ | refine o7 ?_ | refine o8 ?_ | refine o9 ?_ | refine oa ?_ | refine ob ?_ | refine oc ?_ | refine od ?_ | refine oe ?_ | refine og ?_ | refine oh ?_ | refine oi ?_) | (with_reducible refine cExitMiss ?_ ?_; rfl) | (with_reducible refine ok ?_; first | refine ACode.condT rfl ?_ | refine ACode.condF rfl ?_)
      refine AOps.step1 rfl rfl rfl (eqlBool Tryd.underlying4 rfl rfl rfl) ?_
      repeat first | (with_reducible refine oj ?_; refine AOps.auto tabOk rfl ?_) | (with_reducible first | refine o1 ?_ | refine o2 ?_ | refine o3 ?_ | refine o4 ?_ | refine o5 ?_ | refine o6 ?_ | refine o7 ?_ | refine o8 ?_ | refine o9 ?_ | refine oa ?_ | refine ob ?_ | refine oc ?_ | refine od ?_ | refine oe ?_ | refine og ?_ | refine oh ?_ | refine oi ?_) | (with_reducible refine cExitMiss ?_ ?_; rfl) | (with_reducible refine ok ?_; first | refine ACode.condT rfl ?_ | refine ACode.condF rfl ?_)
      refine ACode.cond rfl (fun hb3 => (fin _ (by rw [hg]; rfl) hb3).elim) (fun hb3 => ?_)
      repeat first | (with_reducible refine oj ?_; refine AOps.auto tabOk rfl ?_) | (with_reducible first | refine o1 ?_ | refine o2 ?_ | refine o3 ?_ | refine o4 ?_ | refine o5 ?_ | refine o6 ?_ | refine o7 ?_ | refine o8 ?_ | refine o9 ?_ | refine oa ?_ | refine ob ?_ | refine oc ?_ | refine od ?_ | refine oe ?_ | refine og ?_ | refine oh ?_ | refine oi ?_) | (with_reducible refine cExitMiss ?_ ?_; rfl) | (with_reducible refine ok ?_; first | refine ACode.condT rfl ?_ | refine ACode.condF rfl ?_)
      refine AOps.step1 rfl rfl rfl (AStep.arith rfl rfl rfl (.inl ⟨rfl, rfl⟩) (inRange_i64 (by omega) (by omega))) ?_
      repeat first | (with_reducible refine oj ?_; refine AOps.auto tabOk rfl ?_) | (with_reducible first | refine o1 ?_ | refine o2 ?_ | refine o3 ?_ | refine o4 ?_ | refine o5 ?_ | refine o6 ?_ | refine o7 ?_ | refine o8 ?_ | refine o9 ?_ | refine oa ?_ | refine ob ?_ | refine oc ?_ | refine od ?_ | refine oe ?_ | refine og ?_ | refine oh ?_ | refine oi ?_) | (with_reducible refine cExitMiss ?_ ?_; rfl) | (with_reducible refine ok ?_; first | refine ACode.condT rfl ?_ | refine ACode.condF rfl ?_)
      exact cInv ⟨f.yields.vals.length - (j + 1), j + 1, fun k => k, by omega, ⟨by omega, rfl⟩, LessR.of rfl (by (repeat' first | exact FrSub.nil | refine FrSub.cons rfl (.ofEq rfl) ?_ | refine FrSub.consP rfl (.ofEq rfl) (by simp) ?_)) (by simp) (by repeat' first | exact LoSub.nil | refine LoSub.cons rfl ?_ rfl (by simp) ?_ | rfl | (refine (AObj.ren_pure _ _ ?_).symm; simp; done) | (simp [AObj.ren, renL, AC.ren, cTy]; done) | (simp [AObj.ren, renL, AC.ren, cTy]; rfl)) rfl rfl hou⟩
    · repeat first | (with_reducible refine oj ?_; refine AOps.auto tabOk rfl ?_) | (with_reducible first | refine o1 ?_ | refine o2 ?_ | refine o3 ?_ | refine o4 ?_ | refine o5 ?_ | refine o6 ?_ | refine o7 ?_ | refine o8 ?_ | refine o9 ?_ | refine oa ?_ | refine ob ?_ | refine oc ?_ | refine od ?_ | refine oe ?_ | refine og ?_ | refine oh ?_ | refine oi ?_) | (with_reducible refine cExitMiss ?_ ?_; rfl) | (with_reducible refine ok ?_; first | refine ACode.condT rfl ?_ | refine ACode.condF rfl ?_)
      refine AOps.step1 rfl rfl rfl (eqlBool Tryd.underlying4 rfl rfl rfl) ?_
      repeat first | (with_reducible refine oj ?_; refine AOps.auto tabOk rfl ?_) | (with_reducible first | refine o1 ?_ | refine o2 ?_ | refine o3 ?_ | refine o4 ?_ | refine o5 ?_ | refine o6 ?_ | refine o7 ?_ | refine o8 ?_ | refine o9 ?_ | refine oa ?_ | refine ob ?_ | refine oc ?_ | refine od ?_ | refine oe ?_ | refine og ?_ | refine oh ?_ | refine oi ?_) | (with_reducible refine cExitMiss ?_ ?_; rfl) | (with_reducible refine ok ?_; first | refine ACode.condT rfl ?_ | refine ACode.condF rfl ?_)
      refine ACode.cond rfl (fun hb3 => (fin _ (by rw [hg]; rfl) hb3).elim) (fun hb3 => ?_)
      repeat first | (with_reducible refine oj ?_; refine AOps.auto tabOk rfl ?_) | (with_reducible first | refine o1 ?_ | refine o2 ?_ | refine o3 ?_ | refine o4 ?_ | refine o5 ?_ | refine o6 ?_ | refine o7 ?_ | refine o8 ?_ | refine o9 ?_ | refine oa ?_ | refine ob ?_ | refine oc ?_ | refine od ?_ | refine oe ?_ | refine og ?_ | refine oh ?_ | refine oi ?_) | (with_reducible refine cExitMiss ?_ ?_; rfl) | (with_reducible refine ok ?_; first | refine ACode.condT rfl ?_ | refine ACode.condF rfl ?_)
      refine AOps.step1 rfl rfl rfl (AStep.arith rfl rfl rfl (.inl ⟨rfl, rfl⟩) (inRange_i64 (by omega) (by omega))) ?_
      repeat first | (with_reducible refine oj ?_; refine AOps.auto tabOk rfl ?_) | (with_reducible first | refine o1 ?_ | refine o2 ?_ | refine o3 ?_ | refine o4 ?_ | refine o5 ?_ | refine o6 ?_ | refine o7 ?_ | refine o8 ?_ | refine o9 ?_ | refine oa ?_ | refine ob ?_ | refine oc ?_ | refine od ?_ | refine oe ?_ | refine og ?_ | refine oh ?_ | refine oi ?_) | (with_reducible refine cExitMiss ?_ ?_; rfl) | (with_reducible refine ok ?_; first | refine ACode.condT rfl ?_ | refine ACode.condF rfl ?_)
      exact cInv ⟨f.yields.vals.length - (j + 1), j + 1, fun k => k, by omega, ⟨by omega, rfl⟩, LessR.of rfl (by (repeat' first | exact FrSub.nil | refine FrSub.cons rfl (.ofEq rfl) ?_ | refine FrSub.consP rfl (.ofEq rfl) (by simp) ?_)) (by simp) (by repeat' first | exact LoSub.nil | refine LoSub.cons rfl ?_ rfl (by simp) ?_ | rfl | (refine (AObj.ren_pure _ _ ?_).symm; simp; done) | (simp [AObj.ren, renL, AC.ren, cTy]; done) | (simp [AObj.ren, renL, AC.ren, cTy]; rfl)) rfl rfl hou⟩
  · repeat first | (with_reducible refine oj ?_; refine AOps.auto tabOk rfl ?_) | (with_reducible first | refine o1 ?_ | refine o2 ?_ | refine o3 ?_ | refine o4 ?_ | refine o5 ?_ | refine o6 ?_ | refine o7 ?_ | refine o8 ?_ | refine o9 ?_ | refine oa ?_ | refine ob ?_ | refine oc ?_ | refine od ?_ | refine oe ?_ | refine og ?_ | refine oh ?_ | refine oi ?_) | (with_reducible refine cExitMiss ?_ ?_; rfl) | (with_reducible refine ok ?_; first | refine ACode.condT rfl ?_ | refine ACode.condF rfl ?_)
    exact APure.fin rfl (WkF.ofEq rfl) (by simp) hou rfl
end Go.Proofs.YtoojdmgbffnmiaaDoor
/- FunctorEqual: what its row's reading gives. -/
namespace Go.Proofs.YtoojdmgbffnmiaaDoor
open Go Go.Abs Go.RowKit
set_option maxRecDepth 10000
set_option linter.unusedVariables false
set_option linter.unusedSimpArgs false
theorem arity_cells5 {W : World} (h : laidMetH Tryd.prog [("math/bits.deBruijn32tab", Rows.laid_math_bits_deBruijn32tab), ("math/bits.deBruijn64tab", Rows.laid_math_bits_deBruijn64tab), ("internal/strconv.uint64pow10", Rows.laid_internal_strconv_uint64pow10), ("provenance/signature.arity", Rows.laid_provenance_signature_arity)] W) : ∀ g cs, (g, cs) ∈ Γ1 → RG W (ctx0 W) cs g := by
  intro g cs hm
  rcases List.mem_append.1 hm with hm | hm
  · exact arity_cells4 h g cs hm
  · simp only [List.mem_singleton, Prod.mk.injEq] at hm
    obtain ⟨rfl, rfl⟩ := hm
    have h' : laidMet Tryd.prog [("math/bits.deBruijn32tab", Rows.laid_math_bits_deBruijn32tab), ("math/bits.deBruijn64tab", Rows.laid_math_bits_deBruijn64tab), ("internal/strconv.uint64pow10", Rows.laid_internal_strconv_uint64pow10), ("provenance/signature.arity", Rows.laid_provenance_signature_arity)] W := h
    have ht : Lib.TabIs Tryd.prog W "internal/strconv.uint64pow10" .u64 Lib.pow10Tab :=
      Lib.tabIs_of_head (rest := [("provenance/signature.arity", Rows.laid_provenance_signature_arity)]) (g := 2) (t := 143) (n := 20) (by kernel_rfl) (by kernel_rfl) (by kernel_rfl) Tryd.underlying132 (by kernel_rfl) (by kernel_rfl) (laidMet_tail (laidMet_tail h'))
    exact RG.ofVar (by kernel_rfl) ht rfl
theorem wFct {f : Fctr} (h : bFct f ≤ 1048576) : ∀ v ∈ f.yields.vals, wTy v.sch.ty ≤ 274877906944 := fun v hv => by
  have h1 := wTy_bTy v.sch.ty
  have h2 : bVal v ≤ bVals f.yields.vals := by
    exact sum_mem hv
  have h3 : bTy v.sch.ty ≤ bVal v := by simp only [bVal, bSch]; omega
  simp only [bFct, bSpec] at h
  omega
end Go.Proofs.YtoojdmgbffnmiaaDoor
