/- usage.Of, walked. -/
import Derived.Test.YtnonkoeknpmcjaaDoorB9
import Derived.Laws.StructEq
namespace Go.CoreX
set_option linter.unusedVariables false
def CS0 : CS := ⟨fun _ => 0, fun _ => 0, fun _ => 0⟩
def useS (e : List Ex) : CS := walkU 0 CS0 (grow e)
def howU (s : CS) (n : Int) : Int := if s.u n = 0 then 0 else if s.u n = 1 ∧ s.m n = 0 then 1 else 2
def useL (s : CS) (l : List Int) : List (Int × Int) := l.map fun n => (n, howU s n)
theorem flat_le {α β : Type} {f : α → List β} {c : Nat} : ∀ {l : List α}, (∀ x ∈ l, (f x).length ≤ c) → (l.flatMap f).length ≤ l.length * c
  | [], _ => by simp
  | x :: l, h => by
    have h1 := h x (by simp)
    have h2 := flat_le (f := f) (l := l) fun y hy => h y (by simp [hy])
    simp only [List.flatMap_cons, List.length_append, List.length_cons, Nat.add_mul]; omega
def useOf (e : List Ex) : List (Int × Int) := useL (useS e) (allBinders e)
end Go.CoreX
namespace Go.Proofs.YtnonkoeknpmcjaaDoor
open Go Go.Abs Go.CoreX
set_option maxRecDepth 10000
set_option linter.unusedVariables false
set_option linter.unusedSimpArgs false
variable {Γ : List (Nat × List AC)}
def cUs (x : Int × Int) : List AC := [int x.1, int x.2]
theorem cUs_lit : cUs = litC Tryd.encUs := rfl
@[simp] theorem ids_cUs (p : Abs.Id → Prop) (x : Int × Int) : idsL p (cUs x) := by simp [cUs]
@[simp] theorem ids_cUss (p : Abs.Id → Prop) (l : List (Int × Int)) : idsS p (l.map cUs) := idsS_map (ids_cUs p) l
@[simp] theorem ren_cUss (ρ : Nat → Nat) (l : List (Int × Int)) : renS ρ (l.map cUs) = l.map cUs := renS_pure ρ _ (ids_cUss _ l)
@[simp] theorem ren_oaU (ρ : Nat → Nat) (l : List (Int × Int)) (oc : Option Nat) : (oaO 2 (l.map cUs) oc).ren ρ = oaO 2 (l.map cUs) oc := ren_oaO ρ 2 _ oc fun cap => ids_vec (ids_cUss _ l)
@[simp] theorem ids_oaU (p : Abs.Id → Prop) (l : List (Int × Int)) (oc : Option Nat) : (oaO 2 (l.map cUs) oc).ids p := ids_oaO (ids_cUss _ l)
@[simp] theorem sub_mapN (θ : Abs.Id → Abs.Id) (ck : Nat) (l : List (Nat × Int × Int)) : AObj.sub θ (.map ck (encI eN l)) = .map ck (encI eN l) := by
  simp [AObj.sub, encI, eN, FV.sub, AC.sub, Function.comp_def]
theorem cb0 : CB 0 CS0 := fun k => by simp [CS0]
def UseQ (e : List Ex) (ou : Outer) (r : FV) (ou' : Outer) : Prop :=
  ou' = ou ∧ ((check e ≠ 0 ∧ r = .tup [.one (.sl 2 []), .one (int (check e))]) ∨ (check e = 0 ∧ ∃ l : List (Int × Int), l.Perm (useOf e) ∧ r = .tup [.one (.sl 2 (l.map cUs)), .one (int 0)]))
set_option maxHeartbeats 1000000 in
theorem UseOf_ok (e : List Ex) (he : okB e) (ou : Outer) : AFn Tryd.prog Γc 26 [.one (.sl 5 (e.map cEx))] ou (UseQ e ou) := by
  have c1 := Check_ok e he
  have hel := he.eo.l
  refine AFn.walk 84 tabOk Tryd.func26 rfl (by kernel_rfl) rfl rfl fun hou => ?_
  repeat first | (with_reducible refine oj ?_; refine AOps.auto tabOk rfl ?_) | (with_reducible first | refine o1 ?_ | refine o2 ?_ | refine o3 ?_ | refine o4 ?_ | refine o5 ?_ | refine o6 ?_ | refine o7 ?_ | refine o8 ?_ | refine o9 ?_ | refine oa ?_ | refine ob ?_ | refine oc ?_ | refine od ?_ | refine oe ?_ | refine og ?_ | refine oh ?_ | refine oi ?_) | (with_reducible refine cExitMiss ?_ ?_; rfl) | (with_reducible refine ok ?_; first | refine ACode.condT rfl ?_ | refine ACode.condF rfl ?_)
  refine AOps.callC hΓc c1 rfl rfl rfl rfl rfl rfl rfl hou (by simp) ?_
  repeat first | (with_reducible refine oj ?_; refine AOps.auto tabOk rfl ?_) | (with_reducible first | refine o1 ?_ | refine o2 ?_ | refine o3 ?_ | refine o4 ?_ | refine o5 ?_ | refine o6 ?_ | refine o7 ?_ | refine o8 ?_ | refine o9 ?_ | refine oa ?_ | refine ob ?_ | refine oc ?_ | refine od ?_ | refine oe ?_ | refine og ?_ | refine oh ?_ | refine oi ?_) | (with_reducible refine cExitMiss ?_ ?_; rfl) | (with_reducible refine ok ?_; first | refine ACode.condT rfl ?_ | refine ACode.condF rfl ?_)
  refine ACode.cond rfl (fun hb => ?_) (fun hb => ?_)
  · have h : check e ≠ 0 := by simpa using hb
    repeat first | (with_reducible refine oj ?_; refine AOps.auto tabOk rfl ?_) | (with_reducible first | refine o1 ?_ | refine o2 ?_ | refine o3 ?_ | refine o4 ?_ | refine o5 ?_ | refine o6 ?_ | refine o7 ?_ | refine o8 ?_ | refine o9 ?_ | refine oa ?_ | refine ob ?_ | refine oc ?_ | refine od ?_ | refine oe ?_ | refine og ?_ | refine oh ?_ | refine oi ?_) | (with_reducible refine cExitMiss ?_ ?_; rfl) | (with_reducible refine ok ?_; first | refine ACode.condT rfl ?_ | refine ACode.condF rfl ?_)
    refine AFn.fin' rfl (WkF.tup (.cons (.one (.nilS 2)) (.cons (.refl _) .nil))) (by simp) hou ⟨rfl, .inl ⟨h, rfl⟩⟩
  have h : check e = 0 := by simpa using hb
  have t1 := body_isTree h
  have hgt := he.t t1.k t1.ne
  have hcn : cntN (grow e) = e.length := by
    have h1 := cntN_list (grow e) []
    have h2 := len_list h
    simp only [List.length_nil] at h1; omega
  have hdp : depthT (grow e) ≤ 400 := ((treeErr_iff e).1 (by
    unfold check body at h
    by_cases h0 : treeErr e ≠ 0
    · rw [if_pos h0] at h; exact h
    · simpa using h0)).2.2
  repeat first | (with_reducible refine oj ?_; refine AOps.auto tabOk rfl ?_) | (with_reducible first | refine o1 ?_ | refine o2 ?_ | refine o3 ?_ | refine o4 ?_ | refine o5 ?_ | refine o6 ?_ | refine o7 ?_ | refine o8 ?_ | refine o9 ?_ | refine oa ?_ | refine ob ?_ | refine oc ?_ | refine od ?_ | refine oe ?_ | refine og ?_ | refine oh ?_ | refine oi ?_) | (with_reducible refine cExitMiss ?_ ?_; rfl) | (with_reducible refine ok ?_; first | refine ACode.condT rfl ?_ | refine ACode.condF rfl ?_)
  refine AOps.step1 rfl rfl rfl (AStep.makeMap rfl) ?_
  refine AOps.step1 rfl rfl rfl (AStep.makeMap rfl) ?_
  refine AOps.step1 rfl rfl rfl (AStep.makeMap rfl) ?_
  repeat first | (with_reducible refine oj ?_; refine AOps.auto tabOk rfl ?_) | (with_reducible first | refine o1 ?_ | refine o2 ?_ | refine o3 ?_ | refine o4 ?_ | refine o5 ?_ | refine o6 ?_ | refine o7 ?_ | refine o8 ?_ | refine o9 ?_ | refine oa ?_ | refine ob ?_ | refine oc ?_ | refine od ?_ | refine oe ?_ | refine og ?_ | refine oh ?_ | refine oi ?_) | (with_reducible refine cExitMiss ?_ ?_; rfl) | (with_reducible refine ok ?_; first | refine ACode.condT rfl ?_ | refine ACode.condF rfl ?_)
  refine AOps.callC hΓc (Grow_ok hΓc e he.eo t1.k t1.ne) rfl rfl rfl rfl rfl rfl rfl hou (by simp) ?_
  repeat first | (with_reducible refine oj ?_; refine AOps.auto tabOk rfl ?_) | (with_reducible first | refine o1 ?_ | refine o2 ?_ | refine o3 ?_ | refine o4 ?_ | refine o5 ?_ | refine o6 ?_ | refine o7 ?_ | refine o8 ?_ | refine o9 ?_ | refine oa ?_ | refine ob ?_ | refine oc ?_ | refine od ?_ | refine oe ?_ | refine og ?_ | refine oh ?_ | refine oi ?_) | (with_reducible refine cExitMiss ?_ ?_; rfl) | (with_reducible refine ok ?_; first | refine ACode.condT rfl ?_ | refine ACode.condF rfl ?_)
  refine AOps.callR [.l 3, .l 0, .l 1, .l 2] [.one (.ptr (.o 0) 0), .one (.box (cTr (grow e))), .one (int 0)] [.cells [.mp (.o 1), .mp (.o 2), .mp (.o 3)], .map 0 (encI eN []), .map 0 (encI eN []), .map 0 (encI eN [])] hΓcF rfl rfl rfl rfl rfl rfl ?_ ?_ ?_ ?_ ?_
    (walkU_ok hΓc (grow e) hgt CS0 0 0 ⟨0, [], 0, [], 0, []⟩ cb0 (by omega) (by rw [hcn]; omega) (by omega) ⟨⟨_, IMOk.nil, fun k => rfl⟩, ⟨_, IMOk.nil, fun k => rfl⟩, ⟨_, IMOk.nil, fun k => rfl⟩⟩) ?_
  · simp [subF, FV.sub, AC.sub, nameOf]
    exact ⟨rfl, (subL_pure _ _ (by simp)).symm⟩
  · simp [inO]
  · simp
  · exact ⟨rfl, rfl, rfl, rfl, trivial⟩
  · simp [inO]
  intro r ou' hq
  obtain ⟨rfl, x', rfl, hB1, hB2, hB3⟩ := hq
  refine ⟨[.cells [.mp (.o 1), .mp (.o 2), .mp (.o 3)], .map x'.cu (encI eN x'.lu), .map x'.cd (encI eN x'.ld), .map x'.cm (encI eN x'.lm)], rfl, rfl, by simp [inO], by simp, ?_⟩
  obtain ⟨s, hs⟩ : ∃ s, s = useS e := ⟨_, rfl⟩
  have hs' : walkU 0 CS0 (grow e) = s := hs.symm
  rw [hs'] at hB1 hB2 hB3
  obtain ⟨cu, lu, cd, ld, cm, lm⟩ := x'
  obtain ⟨fu, hu, hu2⟩ := hB1
  obtain ⟨fm, hm, hm2⟩ := hB3
  simp only at hu hm
  clear hB2
  repeat first | (with_reducible refine oj ?_; refine AOps.auto tabOk rfl ?_) | (with_reducible first | refine o1 ?_ | refine o2 ?_ | refine o3 ?_ | refine o4 ?_ | refine o5 ?_ | refine o6 ?_ | refine o7 ?_ | refine o8 ?_ | refine o9 ?_ | refine oa ?_ | refine ob ?_ | refine oc ?_ | refine od ?_ | refine oe ?_ | refine og ?_ | refine oh ?_ | refine oi ?_) | (with_reducible refine cExitMiss ?_ ?_; rfl) | (with_reducible refine ok ?_; first | refine ACode.condT rfl ?_ | refine ACode.condF rfl ?_)
  refine ACode.ghost ?_
  repeat first | (with_reducible refine oj ?_; refine AOps.auto tabOk rfl ?_) | (with_reducible first | refine o1 ?_ | refine o2 ?_ | refine o3 ?_ | refine o4 ?_ | refine o5 ?_ | refine o6 ?_ | refine o7 ?_ | refine o8 ?_ | refine o9 ?_ | refine oa ?_ | refine ob ?_ | refine oc ?_ | refine od ?_ | refine oe ?_ | refine og ?_ | refine oh ?_ | refine oi ?_) | (with_reducible refine cExitMiss ?_ ?_; rfl) | (with_reducible refine ok ?_; first | refine ACode.condT rfl ?_ | refine ACode.condF rfl ?_)
  refine ACode.loopR hΓc (α := Nat × Option Nat) (fun c => [(30, .one (int c.1)), (29, .one (int (e.map cEx).length)), (28, .one (.sl 5 (e.map cEx))), (7, .one (oaC 4 2 ((useL s (allBinders (e.take c.1))).map cUs) c.2)), (5, .one (.ptr (.l 3) 0))])
    (fun c => ⟨5, [(4, oaO 2 ((useL s (allBinders (e.take c.1))).map cUs) c.2), (3, .cells [.mp (.l 0), .mp (.l 1), .mp (.l 2)]), (2, .map cm (encI eN lm)), (0, .map cu (encI eN lu))], ou⟩)
    (fun m c => c.1 ≤ e.length ∧ coO ((useL s (allBinders (e.take c.1))).map cUs) c.2 ∧ m = e.length - c.1) (a0 := (0, none)) (ρ := id) ⟨by omega, rfl, rfl⟩ (LessR.of rfl ?_ ?_ ?_ rfl rfl hou) fun m c hc => ?_
  · (repeat' first | exact FrSub.nil | refine FrSub.cons rfl (.ofEq rfl) ?_ | refine FrSub.oa rfl rfl ?_ | refine FrSub.consP rfl (.ofEq rfl) (by simp) ?_)
  · simp
  · repeat' first | exact LoSub.nil | refine LoSub.cons rfl ?_ rfl (by first | (simp; done) | exact ids_oaO (by simp)) ?_ | rfl | (refine (AObj.ren_pure _ _ ?_).symm; simp; done) | exact (ren_oaO _ _ _ _ fun _ => ids_vec (by simp; done)).symm | (simp [AObj.ren, renL, AC.ren]; done) | (simp [AObj.ren, renL, AC.ren]; rfl)
    all_goals (rw [sub_mapN, ren_mapN])
  obtain ⟨i, oc⟩ := c
  obtain ⟨hil, hco, rfl⟩ := hc
  simp only at hil hco
  repeat first | (with_reducible refine oj ?_; refine AOps.auto tabOk rfl ?_) | (with_reducible first | refine o1 ?_ | refine o2 ?_ | refine o3 ?_ | refine o4 ?_ | refine o5 ?_ | refine o6 ?_ | refine o7 ?_ | refine o8 ?_ | refine o9 ?_ | refine oa ?_ | refine ob ?_ | refine oc ?_ | refine od ?_ | refine oe ?_ | refine og ?_ | refine oh ?_ | refine oi ?_) | (with_reducible refine cExitMiss ?_ ?_; rfl) | (with_reducible refine ok ?_; first | refine ACode.condT rfl ?_ | refine ACode.condF rfl ?_)
  refine ACode.cond rfl (fun hb2 => ?_) (fun hb2 => ?_)
  · have hlt : i < e.length := by simpa using hb2
    obtain ⟨x, hx⟩ := get_of_lt hlt
    have hxm := List.mem_of_getElem? hx
    have hxo := he.eo.x x hxm
    have hxl := he.ex x hxm
    have hab : allBinders (e.take (i + 1)) = allBinders (e.take i) ++ exBinders x := by rw [take_succ_of hx]; simp [allBinders]
    have hal : (allBinders e).length ≤ 1048576 * 4194304 := Nat.le_trans (flat_le (c := 4194304) fun x hx => (he.ex x hx).1) (Nat.mul_le_mul_right _ hel)
    obtain ⟨L, hL⟩ : ∃ L : Nat → List Int, L = fun j => allBinders (e.take i) ++ (exBinders x).take j := ⟨_, rfl⟩
    have hL0 : L 0 = allBinders (e.take i) := by rw [hL]; simp
    have hL1 : L (exBinders x).length = allBinders (e.take (i + 1)) := by rw [hL, hab]; simp
    have hLs : ∀ {j : Nat} {n : Int}, (exBinders x)[j]? = some n → L (j + 1) = L j ++ [n] := fun {j n} hn => by rw [hL]; simp [take_succ_of hn]
    have hLl : ∀ j, j < (exBinders x).length → (L j).length + 1 ≤ 4398046511104 := fun j hj => by
      have h1 : (L (exBinders x).length).length ≤ (allBinders e).length := by
        rw [hL1]
        have : allBinders e = allBinders (e.take (i + 1)) ++ allBinders (e.drop (i + 1)) := by
          unfold allBinders
          rw [← List.flatMap_append, List.take_append_drop]
        rw [this, List.length_append]; omega
      have h2 : (L j).length + 1 ≤ (L (exBinders x).length).length := by
        rw [hL]; simp only [List.length_append, List.length_take]; omega
      omega
    clear hL
    rw [← hL0] at hco ⊢
    repeat first | (with_reducible refine oj ?_; refine AOps.auto tabOk rfl ?_) | (with_reducible first | refine o1 ?_ | refine o2 ?_ | refine o3 ?_ | refine o4 ?_ | refine o5 ?_ | refine o6 ?_ | refine o7 ?_ | refine o8 ?_ | refine o9 ?_ | refine oa ?_ | refine ob ?_ | refine oc ?_ | refine od ?_ | refine oe ?_ | refine og ?_ | refine oh ?_ | refine oi ?_) | (with_reducible refine cExitMiss ?_ ?_; rfl) | (with_reducible refine ok ?_; first | refine ACode.condT rfl ?_ | refine ACode.condF rfl ?_)
    refine AOps.step1 rfl rfl rfl (AStep.indexAddr tabOk rfl rfl rfl rfl rfl rfl (.inl rfl) rfl (by omega) (map_get hx)) ?_
    repeat first | (with_reducible refine oj ?_; refine AOps.auto tabOk rfl ?_) | (with_reducible first | refine o1 ?_ | refine o2 ?_ | refine o3 ?_ | refine o4 ?_ | refine o5 ?_ | refine o6 ?_ | refine o7 ?_ | refine o8 ?_ | refine o9 ?_ | refine oa ?_ | refine ob ?_ | refine oc ?_ | refine od ?_ | refine oe ?_ | refine og ?_ | refine oh ?_ | refine oi ?_) | (with_reducible refine cExitMiss ?_ ?_; rfl) | (with_reducible refine ok ?_; first | refine ACode.condT rfl ?_ | refine ACode.condF rfl ?_)
    refine AOps.freeze1 (.l 6) 41 rfl rfl ?_
    refine AOps.wk 41 rfl (y := .one (.box (cTr (.mk x.op 0 x.binds [] x.alts)))) (.one (Wk.box ?_)) ?_
    · exact .cons (.refl _) (.cons (.refl _) (.cons (.refl _) (.cons (.nilS 1) (.cons (.refl _) .nil))))
    have hcall := Binders_ok hΓc (.mk x.op 0 x.binds [] x.alts) (by simpa [bindLen] using hxl.2) hxo.a
    refine AOps.callC hΓc hcall rfl rfl rfl rfl rfl rfl rfl hou (by simp) ?_
    have heb : bindersN x.op x.binds x.alts = exBinders x := rfl
    simp only [Tr.op_mk, Tr.binds_mk, Tr.alts_mk, heb]
    repeat first | (with_reducible refine oj ?_; refine AOps.auto tabOk rfl ?_) | (with_reducible first | refine o1 ?_ | refine o2 ?_ | refine o3 ?_ | refine o4 ?_ | refine o5 ?_ | refine o6 ?_ | refine o7 ?_ | refine o8 ?_ | refine o9 ?_ | refine oa ?_ | refine ob ?_ | refine oc ?_ | refine od ?_ | refine oe ?_ | refine og ?_ | refine oh ?_ | refine oi ?_) | (with_reducible refine cExitMiss ?_ ?_; rfl) | (with_reducible refine ok ?_; first | refine ACode.condT rfl ?_ | refine ACode.condF rfl ?_)
    refine ACode.loopR hΓc (α := Nat × Option Nat) (fun c => [(44, .one (int c.1)), (43, .one (int ((exBinders x).map cI).length)), (42, .one (.sl 1 ((exBinders x).map cI))), (30, .one (int i)), (29, .one (int (e.map cEx).length)), (28, .one (.sl 5 (e.map cEx))), (7, .one (oaC 4 2 ((useL s (L c.1)).map cUs) c.2)), (5, .one (.ptr (.l 3) 0))])
      (fun c => ⟨5, [(4, oaO 2 ((useL s (L c.1)).map cUs) c.2), (3, .cells [.mp (.l 0), .mp (.l 1), .mp (.l 2)]), (2, .map cm (encI eN lm)), (0, .map cu (encI eN lu))], ou⟩)
      (fun m c => c.1 ≤ (exBinders x).length ∧ coO ((useL s (L c.1)).map cUs) c.2 ∧ m = (exBinders x).length - c.1) (a0 := (0, oc)) (ρ := id) ⟨by omega, hco, rfl⟩ (LessR.of rfl ?_ ?_ ?_ rfl rfl hou) fun m c hc => ?_
    · (repeat' first | exact FrSub.nil | refine FrSub.cons rfl (.ofEq rfl) ?_ | refine FrSub.oa rfl rfl ?_ | refine FrSub.consP rfl (.ofEq rfl) (by simp) ?_)
    · simp
    · repeat' first | exact LoSub.nil | refine LoSub.cons rfl ?_ rfl (by first | (simp; done) | exact ids_oaO (by simp)) ?_ | rfl | (refine (AObj.ren_pure _ _ ?_).symm; simp; done) | exact (ren_oaO _ _ _ _ fun _ => ids_vec (by simp; done)).symm | (simp [AObj.ren, renL, AC.ren]; done) | (simp [AObj.ren, renL, AC.ren]; rfl)
    obtain ⟨j, oc⟩ := c
    obtain ⟨hjl, hco, rfl⟩ := hc
    simp only at hjl hco
    repeat first | (with_reducible refine oj ?_; refine AOps.auto tabOk rfl ?_) | (with_reducible first | refine o1 ?_ | refine o2 ?_ | refine o3 ?_ | refine o4 ?_ | refine o5 ?_ | refine o6 ?_ | refine o7 ?_ | refine o8 ?_ | refine o9 ?_ | refine oa ?_ | refine ob ?_ | refine oc ?_ | refine od ?_ | refine oe ?_ | refine og ?_ | refine oh ?_ | refine oi ?_) | (with_reducible refine cExitMiss ?_ ?_; rfl) | (with_reducible refine ok ?_; first | refine ACode.condT rfl ?_ | refine ACode.condF rfl ?_)
    refine ACode.cond rfl (fun hb3 => ?_) (fun hb3 => ?_)
    · have hlt2 : j < (exBinders x).length := by simpa using hb3
      obtain ⟨n, hn⟩ := get_of_lt hlt2
      repeat first | (with_reducible refine oj ?_; refine AOps.auto tabOk rfl ?_) | (with_reducible first | refine o1 ?_ | refine o2 ?_ | refine o3 ?_ | refine o4 ?_ | refine o5 ?_ | refine o6 ?_ | refine o7 ?_ | refine o8 ?_ | refine o9 ?_ | refine oa ?_ | refine ob ?_ | refine oc ?_ | refine od ?_ | refine oe ?_ | refine og ?_ | refine oh ?_ | refine oi ?_) | (with_reducible refine cExitMiss ?_ ?_; rfl) | (with_reducible refine ok ?_; first | refine ACode.condT rfl ?_ | refine ACode.condF rfl ?_)
      refine AOps.step1 rfl rfl rfl (AStep.indexAddr tabOk rfl rfl rfl rfl rfl rfl (.inl rfl) rfl (by omega) (map_get hn)) ?_
      repeat first | (with_reducible refine oj ?_; refine AOps.auto tabOk rfl ?_) | (with_reducible first | refine o1 ?_ | refine o2 ?_ | refine o3 ?_ | refine o4 ?_ | refine o5 ?_ | refine o6 ?_ | refine o7 ?_ | refine o8 ?_ | refine o9 ?_ | refine oa ?_ | refine ob ?_ | refine oc ?_ | refine od ?_ | refine oe ?_ | refine og ?_ | refine oh ?_ | refine oi ?_) | (with_reducible refine cExitMiss ?_ ?_; rfl) | (with_reducible refine ok ?_; first | refine ACode.condT rfl ?_ | refine ACode.condF rfl ?_)
      refine AOps.cutN 2 rfl hΓc (α := Unit) (fun _ => [(12, .one (int (howU s n))), (11, .one (int n)), (44, .one (int j)), (43, .one (int ((exBinders x).map cI).length)), (42, .one (.sl 1 ((exBinders x).map cI))), (30, .one (int i)), (29, .one (int (e.map cEx).length)), (28, .one (.sl 5 (e.map cEx))), (7, .one (oaC 4 2 ((useL s (L j)).map cUs) oc)), (5, .one (.ptr (.l 3) 0))])
        (fun _ => ⟨5, [(4, oaO 2 ((useL s (L j)).map cUs) oc), (3, .cells [.mp (.l 0), .mp (.l 1), .mp (.l 2)]), (2, .map cm (encI eN lm)), (0, .map cu (encI eN lu))], ou⟩) (fun _ => True) ?_ fun _ _ => ?_
      · dsimp only [List.take_succ_cons, List.take_zero, List.cons_append, List.nil_append]
        refine AOps.step1 rfl rfl rfl (AStep.lookI eN (cm := false) (v := .one (int (s.u n))) rfl Tryd.underlying79 Tryd.underlying3 rfl rfl rfl (by kernel_rfl) zeroN hu (by rw [← hu2 n]; cases fu n <;> rfl)) ?_
        repeat first | (with_reducible refine oj ?_; refine AOps.auto tabOk rfl ?_) | (with_reducible first | refine o1 ?_ | refine o2 ?_ | refine o3 ?_ | refine o4 ?_ | refine o5 ?_ | refine o6 ?_ | refine o7 ?_ | refine o8 ?_ | refine o9 ?_ | refine oa ?_ | refine ob ?_ | refine oc ?_ | refine od ?_ | refine oe ?_ | refine og ?_ | refine oh ?_ | refine oi ?_) | (with_reducible refine cExitMiss ?_ ?_; rfl) | (with_reducible refine ok ?_; first | refine ACode.condT rfl ?_ | refine ACode.condF rfl ?_)
        refine ACode.cond rfl (fun hb4 => ?_) (fun hb4 => ?_)
        · have h0 : s.u n = 0 := by simpa using hb4
          have hh : howU s n = 0 := by unfold howU; rw [if_pos h0]
          repeat first | (with_reducible refine oj ?_; refine AOps.auto tabOk rfl ?_) | (with_reducible first | refine o1 ?_ | refine o2 ?_ | refine o3 ?_ | refine o4 ?_ | refine o5 ?_ | refine o6 ?_ | refine o7 ?_ | refine o8 ?_ | refine o9 ?_ | refine oa ?_ | refine ob ?_ | refine oc ?_ | refine od ?_ | refine oe ?_ | refine og ?_ | refine oh ?_ | refine oi ?_) | (with_reducible refine cExitMiss ?_ ?_; rfl) | (with_reducible refine ok ?_; first | refine ACode.condT rfl ?_ | refine ACode.condF rfl ?_)
          exact cInv ⟨(), id, trivial, LessR.of rfl (by rw [hh]; (repeat' first | exact FrSub.nil | refine FrSub.cons rfl (.ofEq rfl) ?_ | refine FrSub.oa rfl rfl ?_ | refine FrSub.consP rfl (.ofEq rfl) (by simp) ?_)) (by simp) (by repeat' first | exact LoSub.nil | refine LoSub.cons rfl ?_ rfl (by first | (simp; done) | exact ids_oaO (by simp)) ?_ | rfl | (refine (AObj.ren_pure _ _ ?_).symm; simp; done) | exact (ren_oaO _ _ _ _ fun _ => ids_vec (by simp; done)).symm | (simp [AObj.ren, renL, AC.ren]; done) | (simp [AObj.ren, renL, AC.ren]; rfl)) rfl rfl hou⟩
        · have h0 : ¬ s.u n = 0 := by simpa using hb4
          repeat first | (with_reducible refine oj ?_; refine AOps.auto tabOk rfl ?_) | (with_reducible first | refine o1 ?_ | refine o2 ?_ | refine o3 ?_ | refine o4 ?_ | refine o5 ?_ | refine o6 ?_ | refine o7 ?_ | refine o8 ?_ | refine o9 ?_ | refine oa ?_ | refine ob ?_ | refine oc ?_ | refine od ?_ | refine oe ?_ | refine og ?_ | refine oh ?_ | refine oi ?_) | (with_reducible refine cExitMiss ?_ ?_; rfl) | (with_reducible refine ok ?_; first | refine ACode.condT rfl ?_ | refine ACode.condF rfl ?_)
          refine AOps.step1 rfl rfl rfl (AStep.lookI eN (cm := false) (v := .one (int (s.u n))) rfl Tryd.underlying79 Tryd.underlying3 rfl rfl rfl (by kernel_rfl) zeroN hu (by rw [← hu2 n]; cases fu n <;> rfl)) ?_
          repeat first | (with_reducible refine oj ?_; refine AOps.auto tabOk rfl ?_) | (with_reducible first | refine o1 ?_ | refine o2 ?_ | refine o3 ?_ | refine o4 ?_ | refine o5 ?_ | refine o6 ?_ | refine o7 ?_ | refine o8 ?_ | refine o9 ?_ | refine oa ?_ | refine ob ?_ | refine oc ?_ | refine od ?_ | refine oe ?_ | refine og ?_ | refine oh ?_ | refine oi ?_) | (with_reducible refine cExitMiss ?_ ?_; rfl) | (with_reducible refine ok ?_; first | refine ACode.condT rfl ?_ | refine ACode.condF rfl ?_)
          refine AOps.splitG rfl rfl rfl (fun hb5 => ?_) (fun hb5 => ?_)
          · have h1 : s.u n = 1 := by simpa using hb5
            repeat' first | (with_reducible refine oj ?_; refine AOps.auto tabOk rfl ?_) | (with_reducible first | refine o1 ?_ | refine o2 ?_ | refine o3 ?_ | refine o4 ?_ | refine o5 ?_ | refine o6 ?_ | refine o7 ?_ | refine o8 ?_ | refine o9 ?_ | refine oa ?_ | refine ob ?_ | refine oc ?_ | refine od ?_ | refine oe ?_ | refine og ?_ | refine oh ?_ | refine oi ?_) | (with_reducible refine cExitMiss ?_ ?_; rfl) | (with_reducible refine ok ?_; first | refine ACode.condT rfl ?_ | refine ACode.condF rfl ?_) | (with_reducible refine oj ?_; first | refine AOps.step1 rfl rfl rfl (AStep.arith rfl rfl rfl (.inl ⟨rfl, rfl⟩) (inRange_i64 (by first | omega | (simp; omega)) (by first | omega | (simp; omega)))) ?_ | refine AOps.step1 rfl rfl rfl (AStep.arith rfl rfl rfl (.inr (.inl ⟨rfl, rfl⟩)) (inRange_i64 (by first | omega | (simp; omega)) (by first | omega | (simp; omega)))) ?_ | refine AOps.step1 rfl rfl rfl (AStep.neBool Tryd.underlying4 rfl rfl rfl) ?_ | refine AOps.step1 rfl rfl rfl (AStep.eqBool Tryd.underlying4 rfl rfl rfl) ?_ | refine AOps.step1 rfl rfl rfl (AStep.max2 (t := 3) (ty := 3) rfl rfl rfl) ?_ | refine AOps.step1 rfl rfl rfl (AStep.min2 (t := 3) (ty := 3) rfl rfl rfl) ?_ | refine AOps.unG rfl rfl rfl ?_)
            refine AOps.step1 rfl rfl rfl (AStep.lookI eN (cm := false) (v := .one (int (s.m n))) rfl Tryd.underlying79 Tryd.underlying3 rfl rfl rfl (by kernel_rfl) zeroN hm (by rw [← hm2 n]; cases fm n <;> rfl)) ?_
            repeat' first | (with_reducible refine oj ?_; refine AOps.auto tabOk rfl ?_) | (with_reducible first | refine o1 ?_ | refine o2 ?_ | refine o3 ?_ | refine o4 ?_ | refine o5 ?_ | refine o6 ?_ | refine o7 ?_ | refine o8 ?_ | refine o9 ?_ | refine oa ?_ | refine ob ?_ | refine oc ?_ | refine od ?_ | refine oe ?_ | refine og ?_ | refine oh ?_ | refine oi ?_) | (with_reducible refine cExitMiss ?_ ?_; rfl) | (with_reducible refine ok ?_; first | refine ACode.condT rfl ?_ | refine ACode.condF rfl ?_) | (with_reducible refine oj ?_; first | refine AOps.step1 rfl rfl rfl (AStep.arith rfl rfl rfl (.inl ⟨rfl, rfl⟩) (inRange_i64 (by first | omega | (simp; omega)) (by first | omega | (simp; omega)))) ?_ | refine AOps.step1 rfl rfl rfl (AStep.arith rfl rfl rfl (.inr (.inl ⟨rfl, rfl⟩)) (inRange_i64 (by first | omega | (simp; omega)) (by first | omega | (simp; omega)))) ?_ | refine AOps.step1 rfl rfl rfl (AStep.neBool Tryd.underlying4 rfl rfl rfl) ?_ | refine AOps.step1 rfl rfl rfl (AStep.eqBool Tryd.underlying4 rfl rfl rfl) ?_ | refine AOps.step1 rfl rfl rfl (AStep.max2 (t := 3) (ty := 3) rfl rfl rfl) ?_ | refine AOps.step1 rfl rfl rfl (AStep.min2 (t := 3) (ty := 3) rfl rfl rfl) ?_ | refine AOps.unG rfl rfl rfl ?_)
            refine ACode.cond rfl (fun hb6 => ?_) (fun hb6 => ?_)
            · have h2 : s.m n = 0 := by simpa using hb6
              have hh : howU s n = 1 := by unfold howU; rw [if_neg h0, if_pos ⟨h1, h2⟩]
              repeat' first | (with_reducible refine oj ?_; refine AOps.auto tabOk rfl ?_) | (with_reducible first | refine o1 ?_ | refine o2 ?_ | refine o3 ?_ | refine o4 ?_ | refine o5 ?_ | refine o6 ?_ | refine o7 ?_ | refine o8 ?_ | refine o9 ?_ | refine oa ?_ | refine ob ?_ | refine oc ?_ | refine od ?_ | refine oe ?_ | refine og ?_ | refine oh ?_ | refine oi ?_) | (with_reducible refine cExitMiss ?_ ?_; rfl) | (with_reducible refine ok ?_; first | refine ACode.condT rfl ?_ | refine ACode.condF rfl ?_) | (with_reducible refine oj ?_; first | refine AOps.step1 rfl rfl rfl (AStep.arith rfl rfl rfl (.inl ⟨rfl, rfl⟩) (inRange_i64 (by first | omega | (simp; omega)) (by first | omega | (simp; omega)))) ?_ | refine AOps.step1 rfl rfl rfl (AStep.arith rfl rfl rfl (.inr (.inl ⟨rfl, rfl⟩)) (inRange_i64 (by first | omega | (simp; omega)) (by first | omega | (simp; omega)))) ?_ | refine AOps.step1 rfl rfl rfl (AStep.neBool Tryd.underlying4 rfl rfl rfl) ?_ | refine AOps.step1 rfl rfl rfl (AStep.eqBool Tryd.underlying4 rfl rfl rfl) ?_ | refine AOps.step1 rfl rfl rfl (AStep.max2 (t := 3) (ty := 3) rfl rfl rfl) ?_ | refine AOps.step1 rfl rfl rfl (AStep.min2 (t := 3) (ty := 3) rfl rfl rfl) ?_ | refine AOps.unG rfl rfl rfl ?_)
              exact cInv ⟨(), id, trivial, LessR.of rfl (by rw [hh]; (repeat' first | exact FrSub.nil | refine FrSub.cons rfl (.ofEq rfl) ?_ | refine FrSub.oa rfl rfl ?_ | refine FrSub.consP rfl (.ofEq rfl) (by simp) ?_)) (by simp) (by repeat' first | exact LoSub.nil | refine LoSub.cons rfl ?_ rfl (by first | (simp; done) | exact ids_oaO (by simp)) ?_ | rfl | (refine (AObj.ren_pure _ _ ?_).symm; simp; done) | exact (ren_oaO _ _ _ _ fun _ => ids_vec (by simp; done)).symm | (simp [AObj.ren, renL, AC.ren]; done) | (simp [AObj.ren, renL, AC.ren]; rfl)) rfl rfl hou⟩
            · have h2 : ¬ s.m n = 0 := by simpa using hb6
              have hh : howU s n = 2 := by unfold howU; rw [if_neg h0, if_neg (fun h => h2 h.2)]
              repeat' first | (with_reducible refine oj ?_; refine AOps.auto tabOk rfl ?_) | (with_reducible first | refine o1 ?_ | refine o2 ?_ | refine o3 ?_ | refine o4 ?_ | refine o5 ?_ | refine o6 ?_ | refine o7 ?_ | refine o8 ?_ | refine o9 ?_ | refine oa ?_ | refine ob ?_ | refine oc ?_ | refine od ?_ | refine oe ?_ | refine og ?_ | refine oh ?_ | refine oi ?_) | (with_reducible refine cExitMiss ?_ ?_; rfl) | (with_reducible refine ok ?_; first | refine ACode.condT rfl ?_ | refine ACode.condF rfl ?_) | (with_reducible refine oj ?_; first | refine AOps.step1 rfl rfl rfl (AStep.arith rfl rfl rfl (.inl ⟨rfl, rfl⟩) (inRange_i64 (by first | omega | (simp; omega)) (by first | omega | (simp; omega)))) ?_ | refine AOps.step1 rfl rfl rfl (AStep.arith rfl rfl rfl (.inr (.inl ⟨rfl, rfl⟩)) (inRange_i64 (by first | omega | (simp; omega)) (by first | omega | (simp; omega)))) ?_ | refine AOps.step1 rfl rfl rfl (AStep.neBool Tryd.underlying4 rfl rfl rfl) ?_ | refine AOps.step1 rfl rfl rfl (AStep.eqBool Tryd.underlying4 rfl rfl rfl) ?_ | refine AOps.step1 rfl rfl rfl (AStep.max2 (t := 3) (ty := 3) rfl rfl rfl) ?_ | refine AOps.step1 rfl rfl rfl (AStep.min2 (t := 3) (ty := 3) rfl rfl rfl) ?_ | refine AOps.unG rfl rfl rfl ?_)
              exact cInv ⟨(), id, trivial, LessR.of rfl (by rw [hh]; (repeat' first | exact FrSub.nil | refine FrSub.cons rfl (.ofEq rfl) ?_ | refine FrSub.oa rfl rfl ?_ | refine FrSub.consP rfl (.ofEq rfl) (by simp) ?_)) (by simp) (by repeat' first | exact LoSub.nil | refine LoSub.cons rfl ?_ rfl (by first | (simp; done) | exact ids_oaO (by simp)) ?_ | rfl | (refine (AObj.ren_pure _ _ ?_).symm; simp; done) | exact (ren_oaO _ _ _ _ fun _ => ids_vec (by simp; done)).symm | (simp [AObj.ren, renL, AC.ren]; done) | (simp [AObj.ren, renL, AC.ren]; rfl)) rfl rfl hou⟩
          · have h1 : ¬ s.u n = 1 := by simpa using hb5
            have hh : howU s n = 2 := by unfold howU; rw [if_neg h0, if_neg (fun h => h1 h.1)]
            repeat' first | (with_reducible refine oj ?_; refine AOps.auto tabOk rfl ?_) | (with_reducible first | refine o1 ?_ | refine o2 ?_ | refine o3 ?_ | refine o4 ?_ | refine o5 ?_ | refine o6 ?_ | refine o7 ?_ | refine o8 ?_ | refine o9 ?_ | refine oa ?_ | refine ob ?_ | refine oc ?_ | refine od ?_ | refine oe ?_ | refine og ?_ | refine oh ?_ | refine oi ?_) | (with_reducible refine cExitMiss ?_ ?_; rfl) | (with_reducible refine ok ?_; first | refine ACode.condT rfl ?_ | refine ACode.condF rfl ?_) | (with_reducible refine oj ?_; first | refine AOps.step1 rfl rfl rfl (AStep.arith rfl rfl rfl (.inl ⟨rfl, rfl⟩) (inRange_i64 (by first | omega | (simp; omega)) (by first | omega | (simp; omega)))) ?_ | refine AOps.step1 rfl rfl rfl (AStep.arith rfl rfl rfl (.inr (.inl ⟨rfl, rfl⟩)) (inRange_i64 (by first | omega | (simp; omega)) (by first | omega | (simp; omega)))) ?_ | refine AOps.step1 rfl rfl rfl (AStep.neBool Tryd.underlying4 rfl rfl rfl) ?_ | refine AOps.step1 rfl rfl rfl (AStep.eqBool Tryd.underlying4 rfl rfl rfl) ?_ | refine AOps.step1 rfl rfl rfl (AStep.max2 (t := 3) (ty := 3) rfl rfl rfl) ?_ | refine AOps.step1 rfl rfl rfl (AStep.min2 (t := 3) (ty := 3) rfl rfl rfl) ?_ | refine AOps.unG rfl rfl rfl ?_)
            exact cInv ⟨(), id, trivial, LessR.of rfl (by rw [hh]; (repeat' first | exact FrSub.nil | refine FrSub.cons rfl (.ofEq rfl) ?_ | refine FrSub.oa rfl rfl ?_ | refine FrSub.consP rfl (.ofEq rfl) (by simp) ?_)) (by simp) (by repeat' first | exact LoSub.nil | refine LoSub.cons rfl ?_ rfl (by first | (simp; done) | exact ids_oaO (by simp)) ?_ | rfl | (refine (AObj.ren_pure _ _ ?_).symm; simp; done) | exact (ren_oaO _ _ _ _ fun _ => ids_vec (by simp; done)).symm | (simp [AObj.ren, renL, AC.ren]; done) | (simp [AObj.ren, renL, AC.ren]; rfl)) rfl rfl hou⟩
      · have hlb := hLl j hlt2
        have hul : ((useL s (L j)).map cUs).length = (L j).length := by simp [useL]
        have hap : (useL s (L j)).map cUs ++ [cUs (n, howU s n)] = (useL s (L (j + 1))).map cUs := by rw [hLs hn]; simp [useL]
        repeat first | (with_reducible refine oj ?_; refine AOps.auto tabOk rfl ?_) | (with_reducible first | refine o1 ?_ | refine o2 ?_ | refine o3 ?_ | refine o4 ?_ | refine o5 ?_ | refine o6 ?_ | refine o7 ?_ | refine o8 ?_ | refine o9 ?_ | refine oa ?_ | refine ob ?_ | refine oc ?_ | refine od ?_ | refine oe ?_ | refine og ?_ | refine oh ?_ | refine oi ?_) | (with_reducible refine cExitMiss ?_ ?_; rfl) | (with_reducible refine ok ?_; first | refine ACode.condT rfl ?_ | refine ACode.condF rfl ?_)
        refine AOps.appG (k := 4) (s := 2) (es := (useL s (L j)).map cUs) (oc := oc) (news := [cUs (n, howU s n)]) tabOk rfl rfl rfl rfl rfl rfl rfl rfl rfl rfl hco (fun y hy => by obtain ⟨z, _, rfl⟩ := List.mem_map.1 hy; rfl) (.sl 2 [cUs (n, howU s n)]) (by simp) rfl (by rw [hul]; show (_ + 1) * 16 ≤ _; omega) (by rw [hul]; show _ + 1 ≤ _; omega) fun cap hc => ?_
        rw [hap] at hc ⊢
        repeat' first | (with_reducible refine oj ?_; refine AOps.auto tabOk rfl ?_) | (with_reducible first | refine o1 ?_ | refine o2 ?_ | refine o3 ?_ | refine o4 ?_ | refine o5 ?_ | refine o6 ?_ | refine o7 ?_ | refine o8 ?_ | refine o9 ?_ | refine oa ?_ | refine ob ?_ | refine oc ?_ | refine od ?_ | refine oe ?_ | refine og ?_ | refine oh ?_ | refine oi ?_) | (with_reducible refine cExitMiss ?_ ?_; rfl) | (with_reducible refine ok ?_; first | refine ACode.condT rfl ?_ | refine ACode.condF rfl ?_) | (with_reducible refine oj ?_; first | refine AOps.step1 rfl rfl rfl (AStep.arith rfl rfl rfl (.inl ⟨rfl, rfl⟩) (inRange_i64 (by first | omega | (simp; omega)) (by first | omega | (simp; omega)))) ?_ | refine AOps.step1 rfl rfl rfl (AStep.arith rfl rfl rfl (.inr (.inl ⟨rfl, rfl⟩)) (inRange_i64 (by first | omega | (simp; omega)) (by first | omega | (simp; omega)))) ?_ | refine AOps.step1 rfl rfl rfl (AStep.neBool Tryd.underlying4 rfl rfl rfl) ?_ | refine AOps.step1 rfl rfl rfl (AStep.eqBool Tryd.underlying4 rfl rfl rfl) ?_ | refine AOps.step1 rfl rfl rfl (AStep.max2 (t := 3) (ty := 3) rfl rfl rfl) ?_ | refine AOps.step1 rfl rfl rfl (AStep.min2 (t := 3) (ty := 3) rfl rfl rfl) ?_ | refine AOps.unG rfl rfl rfl ?_)
        exact cInv ⟨(exBinders x).length - (j + 1), (j + 1, some cap), fun k => if k = 4 then 5 else k, by omega, ⟨by omega, hc, rfl⟩, LessR.of rfl (by (repeat' first | exact FrSub.nil | refine FrSub.cons rfl (.ofEq rfl) ?_ | refine FrSub.oa rfl rfl ?_ | refine FrSub.consP rfl (.ofEq rfl) (by simp) ?_)) (by simp) (by repeat' first | exact LoSub.nil | refine LoSub.cons rfl ?_ rfl (by first | (simp; done) | exact ids_oaO (by simp)) ?_ | rfl | (refine (AObj.ren_pure _ _ ?_).symm; simp; done) | exact (ren_oaO _ _ _ _ fun _ => ids_vec (by simp; done)).symm | (simp [AObj.ren, renL, AC.ren]; done) | (simp [AObj.ren, renL, AC.ren]; rfl)) rfl rfl hou⟩
    · have hlt2 : j = (exBinders x).length := by simp at hb3; omega
      subst hlt2
      rw [hL1] at hco ⊢
      repeat' first | (with_reducible refine oj ?_; refine AOps.auto tabOk rfl ?_) | (with_reducible first | refine o1 ?_ | refine o2 ?_ | refine o3 ?_ | refine o4 ?_ | refine o5 ?_ | refine o6 ?_ | refine o7 ?_ | refine o8 ?_ | refine o9 ?_ | refine oa ?_ | refine ob ?_ | refine oc ?_ | refine od ?_ | refine oe ?_ | refine og ?_ | refine oh ?_ | refine oi ?_) | (with_reducible refine cExitMiss ?_ ?_; rfl) | (with_reducible refine ok ?_; first | refine ACode.condT rfl ?_ | refine ACode.condF rfl ?_) | (with_reducible refine oj ?_; first | refine AOps.step1 rfl rfl rfl (AStep.arith rfl rfl rfl (.inl ⟨rfl, rfl⟩) (inRange_i64 (by first | omega | (simp; omega)) (by first | omega | (simp; omega)))) ?_ | refine AOps.step1 rfl rfl rfl (AStep.arith rfl rfl rfl (.inr (.inl ⟨rfl, rfl⟩)) (inRange_i64 (by first | omega | (simp; omega)) (by first | omega | (simp; omega)))) ?_ | refine AOps.step1 rfl rfl rfl (AStep.neBool Tryd.underlying4 rfl rfl rfl) ?_ | refine AOps.step1 rfl rfl rfl (AStep.eqBool Tryd.underlying4 rfl rfl rfl) ?_ | refine AOps.step1 rfl rfl rfl (AStep.max2 (t := 3) (ty := 3) rfl rfl rfl) ?_ | refine AOps.step1 rfl rfl rfl (AStep.min2 (t := 3) (ty := 3) rfl rfl rfl) ?_ | refine AOps.unG rfl rfl rfl ?_)
      exact cInv ⟨e.length - (i + 1), (i + 1, oc), id, by omega, ⟨by omega, hco, rfl⟩, LessR.of rfl (by (repeat' first | exact FrSub.nil | refine FrSub.cons rfl (.ofEq rfl) ?_ | refine FrSub.oa rfl rfl ?_ | refine FrSub.consP rfl (.ofEq rfl) (by simp) ?_)) (by simp) (by repeat' first | exact LoSub.nil | refine LoSub.cons rfl ?_ rfl (by first | (simp; done) | exact ids_oaO (by simp)) ?_ | rfl | (refine (AObj.ren_pure _ _ ?_).symm; simp; done) | exact (ren_oaO _ _ _ _ fun _ => ids_vec (by simp; done)).symm | (simp [AObj.ren, renL, AC.ren]; done) | (simp [AObj.ren, renL, AC.ren]; rfl)) rfl rfl hou⟩
  · have hlt2 : i = e.length := by simp at hb2; omega
    subst hlt2
    rw [List.take_length] at hco ⊢
    have hus : useL s (allBinders e) = useOf e := by unfold useOf; rw [hs]
    rw [hus] at hco ⊢
    repeat first | (with_reducible refine oj ?_; refine AOps.auto tabOk rfl ?_) | (with_reducible first | refine o1 ?_ | refine o2 ?_ | refine o3 ?_ | refine o4 ?_ | refine o5 ?_ | refine o6 ?_ | refine o7 ?_ | refine o8 ?_ | refine o9 ?_ | refine oa ?_ | refine ob ?_ | refine oc ?_ | refine od ?_ | refine oe ?_ | refine og ?_ | refine oh ?_ | refine oi ?_) | (with_reducible refine cExitMiss ?_ ?_; rfl) | (with_reducible refine ok ?_; first | refine ACode.condT rfl ?_ | refine ACode.condF rfl ?_)
    have hlb : (useOf e).length = (allBinders e).length := by unfold useOf useL; simp
    have hal : (allBinders e).length ≤ 1048576 * 4194304 := Nat.le_trans (flat_le (c := 4194304) fun x hx => (he.ex x hx).1) (Nat.mul_le_mul_right _ hel)
    cases oc with
    | none =>
      have h0 : useOf e = [] := by simpa [coO] using hco
      rw [h0]
      refine AOps.callNo2 rfl rfl rfl rfl rfl rfl (enters_of Tryd.func50 (by kernel_rfl) rfl) (fun w => Tryd.slices_SortFunc_none none 0 _ w) ?_
      repeat first | (with_reducible refine oj ?_; refine AOps.auto tabOk rfl ?_) | (with_reducible first | refine o1 ?_ | refine o2 ?_ | refine o3 ?_ | refine o4 ?_ | refine o5 ?_ | refine o6 ?_ | refine o7 ?_ | refine o8 ?_ | refine o9 ?_ | refine oa ?_ | refine ob ?_ | refine oc ?_ | refine od ?_ | refine oe ?_ | refine og ?_ | refine oh ?_ | refine oi ?_) | (with_reducible refine cExitMiss ?_ ?_; rfl) | (with_reducible refine ok ?_; first | refine ACode.condT rfl ?_ | refine ACode.condF rfl ?_)
      exact AFn.fin' rfl (WkF.tup (.cons (.one (.nilS 2)) (.cons (.refl _) .nil))) (by simp) hou ⟨rfl, .inr ⟨h, [], by rw [h0], rfl⟩⟩
    | some cap =>
      refine AOps.wk 81 rfl (y := .one (.arr (.l 4) 2 0 (useOf e).length cap)) (.ofEq (by simp [oaC])) ?_
      refine AOps.sortK (α := Int × Int) (enc := Tryd.encUs) (k := 2) (l := useOf e) (i := .l 4) (cap := cap) (fun _ => rfl) (fun x v hv => by simp [Tryd.encUs] at hv; rcases hv with rfl | rfl <;> rfl) rfl rfl rfl rfl rfl rfl (enters_of Tryd.func50 (by kernel_rfl) rfl)
        Tryd.slices_SortFunc rfl (by rw [hlb]; omega) fun l' hp => ?_
      rw [← cUs_lit] at *
      have hll : ((useOf e).map cUs).length = (l'.map cUs).length := by simp [hp.length_eq]
      refine AOps.wk 7 rfl (y := .one (.arr (.l 4) 2 0 (l'.map cUs).length cap)) (.ofEq (by rw [← hll]; rfl)) ?_
      refine AOps.freezeArr (.l 4) 7 rfl (fun y hy => by obtain ⟨z, _, rfl⟩ := List.mem_map.1 hy; rfl) rfl ?_
      repeat first | (with_reducible refine oj ?_; refine AOps.auto tabOk rfl ?_) | (with_reducible first | refine o1 ?_ | refine o2 ?_ | refine o3 ?_ | refine o4 ?_ | refine o5 ?_ | refine o6 ?_ | refine o7 ?_ | refine o8 ?_ | refine o9 ?_ | refine oa ?_ | refine ob ?_ | refine oc ?_ | refine od ?_ | refine oe ?_ | refine og ?_ | refine oh ?_ | refine oi ?_) | (with_reducible refine cExitMiss ?_ ?_; rfl) | (with_reducible refine ok ?_; first | refine ACode.condT rfl ?_ | refine ACode.condF rfl ?_)
      exact AFn.fin' rfl (WkF.ofEq rfl) (by simp) hou ⟨rfl, .inr ⟨h, l', hp, rfl⟩⟩
end Go.Proofs.YtnonkoeknpmcjaaDoor
/- UsageNever, walked. -/
namespace Go.CoreX
set_option linter.unusedVariables false
def isVar (n : Int) (l : Lab) : Int := if l.op = 0 ∧ l.n = n then 1 else 0
theorem ne_at {α : Type} [BEq α] [LawfulBEq α] {xs ys : List α} {j : Nat} {x y : α} (h1 : xs[j]? = some x) (h2 : ys[j]? = some y) (h : x ≠ y) : (xs == ys) = false := by
  apply beq_eq_false_iff_ne.2
  rintro rfl
  rw [h1] at h2
  exact h (by simpa using h2)
theorem eq_all {α : Type} [BEq α] [LawfulBEq α] {xs ys : List α} (hl : xs.length = ys.length) (h : ∀ (j : Nat) (x y : α), xs[j]? = some x → ys[j]? = some y → x = y) : (xs == ys) = true := by
  rw [beq_iff_eq]
  refine List.ext_getElem hl fun i h1 h2 => h i _ _ (List.getElem?_eq_getElem h1) (List.getElem?_eq_getElem h2)
def occV (n : Int) (x : Ex) : Bool := x.op == 0 && x.n == n
end Go.CoreX
namespace Go.Proofs.YtnonkoeknpmcjaaDoor
open Go Go.Abs Go.CoreX
set_option maxRecDepth 10000
set_option linter.unusedVariables false
set_option linter.unusedSimpArgs false
variable {Γ : List (Nat × List AC)}
theorem AStep.neUs {T : Tab} {N : Nat} {o : Oper} {fr : Fr} {σ : St} {x y : Operand} {p q : Int × Int} (ho : o.op = .binOp .neq 50 x y 50) (hx : aEval Γ fr x = some (.agg (cUs p))) (hy : aEval Γ fr y = some (.agg (cUs q))) : AStep { P := Tryd.prog, T := T, Γ := Γ, N := N } o fr σ (.one (.lit (.bool (!(p.1 == q.1 && p.2 == q.2))))) σ := by
  refine AStep.quiet fun F w C tmps hi hf => ⟨.bool (!(p.1 == q.1 && p.2 == q.2)), ?_, rfl, rfl⟩
  have h1 := aEval_ok (a := ⟨tmps, []⟩) hi hf hx
  have h2 := aEval_ok (a := ⟨tmps, []⟩) hi hf hy
  simp only [RF, cUs, RV, R] at h1 h2
  obtain ⟨xs, h1, u1, us1, rfl, ⟨rfl, _⟩, u2, us2, rfl, ⟨rfl, _⟩, rfl⟩ := h1
  obtain ⟨ys, h2, v1, vs1, rfl, ⟨rfl, _⟩, v2, vs2, rfl, ⟨rfl, _⟩, rfl⟩ := h2
  have hS : Tryd.prog.underlying 50 = some (.struct (Tryd.prog.fieldsOf 50)) := by kernel_rfl
  have hp : Tryd.prog.stoodInHeld 50 = false := by kernel_rfl
  have hm : Tryd.prog.eqGuardType Tryd.prog.depth 50 = false := by kernel_rfl
  have u3 := Tryd.underlying3
  have a3 := Tryd.isAgg3
  have z3 := Tryd.sizeOf3
  have hb : ∀ w, (binOp .neq 50 (.agg #[.int .i64 p.1, .int .i64 p.2]) (.agg #[.int .i64 q.1, .int .i64 q.2])).run Tryd.prog w = .ok (.bool (!(p.1 == q.1 && p.2 == q.2))) w := fun w => by
    rw [run_neq_struct, show (10000 : Nat) = 9999 + 1 from rfl, run_equalIn_agg w 9999 50 _ _ hS hp]
    simp only [Program.fieldsOf, Tryd.underlying50]
    go_simp
    by_cases h1 : p.1 = q.1 <;> by_cases h2 : p.2 = q.2 <;> simp [h1, h2]
  unfold execOp
  simp only [ho, h1, h2, Sem.run_bind, run_eqGuard_agg _ _ _ _ _ _ _ hm, Result.andThen_ok]
  rw [hb]
  simp
theorem EqualU_ok (hΓ : ∀ g cs, (g, cs) ∈ Γ → idsL isO cs) (xs ys : List (Int × Int)) (hx : xs.length ≤ 1048576) :
    APure Tryd.prog Γ 53 [.one (.sl 2 (xs.map cUs)), .one (.sl 2 (ys.map cUs))] (.one (.lit (.bool (xs == ys)))) := by
  intro ou
  refine AFn.walk 26 tabOk Tryd.func53 rfl (by kernel_rfl) rfl rfl fun hou => ?_
  repeat first | (with_reducible refine oj ?_; refine AOps.auto tabOk rfl ?_) | (with_reducible first | refine o1 ?_ | refine o2 ?_ | refine o3 ?_ | refine o4 ?_ | refine o5 ?_ | refine o6 ?_ | refine o7 ?_ | refine o8 ?_ | refine o9 ?_ | refine oa ?_ | refine ob ?_ | refine oc ?_ | refine od ?_ | refine oe ?_ | refine og ?_ | refine oh ?_ | refine oi ?_) | (with_reducible refine cExitMiss ?_ ?_; rfl) | (with_reducible refine ok ?_; first | refine ACode.condT rfl ?_ | refine ACode.condF rfl ?_)
  refine ACode.cond rfl (fun hb => ?_) (fun hb => ?_)
  · repeat first | (with_reducible refine oj ?_; refine AOps.auto tabOk rfl ?_) | (with_reducible first | refine o1 ?_ | refine o2 ?_ | refine o3 ?_ | refine o4 ?_ | refine o5 ?_ | refine o6 ?_ | refine o7 ?_ | refine o8 ?_ | refine o9 ?_ | refine oa ?_ | refine ob ?_ | refine oc ?_ | refine od ?_ | refine oe ?_ | refine og ?_ | refine oh ?_ | refine oi ?_) | (with_reducible refine cExitMiss ?_ ?_; rfl) | (with_reducible refine ok ?_; first | refine ACode.condT rfl ?_ | refine ACode.condF rfl ?_)
    refine APure.fin rfl (WkF.ofEq ?_) (by simp) hou rfl
    have : (xs == ys) = false := by
      apply beq_eq_false_iff_ne.2
      rintro rfl
      simp at hb
    rw [this]
  have hl : xs.length = ys.length := by simp at hb; omega
  clear hb
  repeat first | (with_reducible refine oj ?_; refine AOps.auto tabOk rfl ?_) | (with_reducible first | refine o1 ?_ | refine o2 ?_ | refine o3 ?_ | refine o4 ?_ | refine o5 ?_ | refine o6 ?_ | refine o7 ?_ | refine o8 ?_ | refine o9 ?_ | refine oa ?_ | refine ob ?_ | refine oc ?_ | refine od ?_ | refine oe ?_ | refine og ?_ | refine oh ?_ | refine oi ?_) | (with_reducible refine cExitMiss ?_ ?_; rfl) | (with_reducible refine ok ?_; first | refine ACode.condT rfl ?_ | refine ACode.condF rfl ?_)
  refine ACode.loopR hΓ (α := Nat) (fun j => [(13, .one (int j)), (12, .one (int (xs.map cUs).length)), (1, .one (.sl 2 (ys.map cUs))), (0, .one (.sl 2 (xs.map cUs)))])
    (fun j => ⟨0, [], ou⟩) (fun m j => j ≤ xs.length ∧ (∀ (i : Nat) (x y : Int × Int), i < j → xs[i]? = some x → ys[i]? = some y → x = y) ∧ m = xs.length - j) (a0 := 0) (ρ := id) ⟨by omega, fun i x y h => by omega, rfl⟩ (LessR.of rfl (by (repeat' first | exact FrSub.nil | refine FrSub.cons rfl (.ofEq rfl) ?_ | refine FrSub.oa rfl rfl ?_ | refine FrSub.consP rfl (.ofEq rfl) (by simp) ?_)) (by simp) (by repeat' first | exact LoSub.nil | refine LoSub.cons rfl ?_ rfl (by first | (simp; done) | exact ids_oaO (by simp)) ?_ | rfl | (refine (AObj.ren_pure _ _ ?_).symm; simp; done) | exact (ren_oaO _ _ _ _ fun _ => ids_vec (by simp; done)).symm | (simp [AObj.ren, renL, AC.ren]; done) | (simp [AObj.ren, renL, AC.ren]; rfl)) rfl rfl hou) fun m j hj => ?_
  obtain ⟨hjl, hno, rfl⟩ := hj
  repeat first | (with_reducible refine oj ?_; refine AOps.auto tabOk rfl ?_) | (with_reducible first | refine o1 ?_ | refine o2 ?_ | refine o3 ?_ | refine o4 ?_ | refine o5 ?_ | refine o6 ?_ | refine o7 ?_ | refine o8 ?_ | refine o9 ?_ | refine oa ?_ | refine ob ?_ | refine oc ?_ | refine od ?_ | refine oe ?_ | refine og ?_ | refine oh ?_ | refine oi ?_) | (with_reducible refine cExitMiss ?_ ?_; rfl) | (with_reducible refine ok ?_; first | refine ACode.condT rfl ?_ | refine ACode.condF rfl ?_)
  refine ACode.cond rfl (fun hb2 => ?_) (fun hb2 => ?_)
  · have hlt : j < xs.length := by simpa using hb2
    obtain ⟨x, hx1⟩ := get_of_lt hlt
    obtain ⟨y, hy1⟩ := get_of_lt (l := ys) (i := j) (by omega)
    repeat first | (with_reducible refine oj ?_; refine AOps.auto tabOk rfl ?_) | (with_reducible first | refine o1 ?_ | refine o2 ?_ | refine o3 ?_ | refine o4 ?_ | refine o5 ?_ | refine o6 ?_ | refine o7 ?_ | refine o8 ?_ | refine o9 ?_ | refine oa ?_ | refine ob ?_ | refine oc ?_ | refine od ?_ | refine oe ?_ | refine og ?_ | refine oh ?_ | refine oi ?_) | (with_reducible refine cExitMiss ?_ ?_; rfl) | (with_reducible refine ok ?_; first | refine ACode.condT rfl ?_ | refine ACode.condF rfl ?_)
    refine ACode.drawX tabOk 8 [(2, .one (.box (cUs x))), (6, .one (.box (cUs y)))] follows (by kernel_rfl) rfl rfl rfl rfl ?_ ?_
    · refine .step rfl (HStep.plain rfl (AStep.indexAddr tabOk rfl rfl rfl rfl rfl rfl (.inl rfl) rfl (by omega) (map_get hx1))) ?_
      exact .step rfl (HStep.plain rfl (AStep.indexAddr tabOk rfl rfl rfl rfl rfl rfl (.inl rfl) rfl (by omega) (map_get hy1))) .nil
    refine AOps.step1 rfl rfl rfl (AStep.neUs rfl rfl rfl) ?_
    repeat first | (with_reducible refine oj ?_; refine AOps.auto tabOk rfl ?_) | (with_reducible first | refine o1 ?_ | refine o2 ?_ | refine o3 ?_ | refine o4 ?_ | refine o5 ?_ | refine o6 ?_ | refine o7 ?_ | refine o8 ?_ | refine o9 ?_ | refine oa ?_ | refine ob ?_ | refine oc ?_ | refine od ?_ | refine oe ?_ | refine og ?_ | refine oh ?_ | refine oi ?_) | (with_reducible refine cExitMiss ?_ ?_; rfl) | (with_reducible refine ok ?_; first | refine ACode.condT rfl ?_ | refine ACode.condF rfl ?_)
    refine ACode.cond rfl (fun hb3 => ?_) (fun hb3 => ?_)
    · have hne : x ≠ y := by rintro rfl; simp at hb3
      repeat first | (with_reducible refine oj ?_; refine AOps.auto tabOk rfl ?_) | (with_reducible first | refine o1 ?_ | refine o2 ?_ | refine o3 ?_ | refine o4 ?_ | refine o5 ?_ | refine o6 ?_ | refine o7 ?_ | refine o8 ?_ | refine o9 ?_ | refine oa ?_ | refine ob ?_ | refine oc ?_ | refine od ?_ | refine oe ?_ | refine og ?_ | refine oh ?_ | refine oi ?_) | (with_reducible refine cExitMiss ?_ ?_; rfl) | (with_reducible refine ok ?_; first | refine ACode.condT rfl ?_ | refine ACode.condF rfl ?_)
      refine APure.fin rfl (WkF.ofEq ?_) (by simp) hou rfl
      rw [ne_at hx1 hy1 hne]
    · have he : x = y := by obtain ⟨x1, x2⟩ := x; obtain ⟨y1, y2⟩ := y; simp at hb3; exact Prod.ext hb3.1 hb3.2
      repeat' first | (with_reducible refine oj ?_; refine AOps.auto tabOk rfl ?_) | (with_reducible first | refine o1 ?_ | refine o2 ?_ | refine o3 ?_ | refine o4 ?_ | refine o5 ?_ | refine o6 ?_ | refine o7 ?_ | refine o8 ?_ | refine o9 ?_ | refine oa ?_ | refine ob ?_ | refine oc ?_ | refine od ?_ | refine oe ?_ | refine og ?_ | refine oh ?_ | refine oi ?_) | (with_reducible refine cExitMiss ?_ ?_; rfl) | (with_reducible refine ok ?_; first | refine ACode.condT rfl ?_ | refine ACode.condF rfl ?_) | (with_reducible refine oj ?_; first | refine AOps.step1 rfl rfl rfl (AStep.arith rfl rfl rfl (.inl ⟨rfl, rfl⟩) (inRange_i64 (by first | omega | (simp; omega)) (by first | omega | (simp; omega)))) ?_ | refine AOps.step1 rfl rfl rfl (AStep.arith rfl rfl rfl (.inr (.inl ⟨rfl, rfl⟩)) (inRange_i64 (by first | omega | (simp; omega)) (by first | omega | (simp; omega)))) ?_ | refine AOps.step1 rfl rfl rfl (AStep.neBool Tryd.underlying4 rfl rfl rfl) ?_ | refine AOps.step1 rfl rfl rfl (AStep.eqBool Tryd.underlying4 rfl rfl rfl) ?_ | refine AOps.step1 rfl rfl rfl (AStep.max2 (t := 3) (ty := 3) rfl rfl rfl) ?_ | refine AOps.step1 rfl rfl rfl (AStep.min2 (t := 3) (ty := 3) rfl rfl rfl) ?_ | refine AOps.unG rfl rfl rfl ?_)
      refine cInv ⟨xs.length - (j + 1), j + 1, id, by omega, ⟨by omega, fun i x' y' hi h1 h2 => ?_, rfl⟩, LessR.of rfl (by (repeat' first | exact FrSub.nil | refine FrSub.cons rfl (.ofEq rfl) ?_ | refine FrSub.oa rfl rfl ?_ | refine FrSub.consP rfl (.ofEq rfl) (by simp) ?_)) (by simp) (by repeat' first | exact LoSub.nil | refine LoSub.cons rfl ?_ rfl (by first | (simp; done) | exact ids_oaO (by simp)) ?_ | rfl | (refine (AObj.ren_pure _ _ ?_).symm; simp; done) | exact (ren_oaO _ _ _ _ fun _ => ids_vec (by simp; done)).symm | (simp [AObj.ren, renL, AC.ren]; done) | (simp [AObj.ren, renL, AC.ren]; rfl)) rfl rfl hou⟩
      by_cases e : i = j
      · subst e
        rw [hx1] at h1; rw [hy1] at h2
        cases h1; cases h2; exact he
      · exact hno i x' y' (by omega) h1 h2
  · have hlt : j = xs.length := by simp at hb2; omega
    subst hlt
    repeat first | (with_reducible refine oj ?_; refine AOps.auto tabOk rfl ?_) | (with_reducible first | refine o1 ?_ | refine o2 ?_ | refine o3 ?_ | refine o4 ?_ | refine o5 ?_ | refine o6 ?_ | refine o7 ?_ | refine o8 ?_ | refine o9 ?_ | refine oa ?_ | refine ob ?_ | refine oc ?_ | refine od ?_ | refine oe ?_ | refine og ?_ | refine oh ?_ | refine oi ?_) | (with_reducible refine cExitMiss ?_ ?_; rfl) | (with_reducible refine ok ?_; first | refine ACode.condT rfl ?_ | refine ACode.condF rfl ?_)
    refine APure.fin rfl (WkF.ofEq ?_) (by simp) hou rfl
    rw [eq_all hl fun i x y h1 h2 => hno i x y (List.getElem?_eq_some_iff.1 h1).1 h1 h2]

def factU : Tr := .mk 2 0 [1] [.mk 1 2 [] [] []] []
theorem use_fact : check (listT [] factU) = 0 ∧ useOf (listT [] factU) = [(1, 0)] := by decide +kernel
theorem usageFact_ok : APure Tryd.prog Γc 27 [] (.one (.lit (.bool true))) := by
  intro ou
  have hoT : okT factU := by simp [factU, okT, okTs]
  have hoB : okB (listT [] factU) := by
    refine ⟨⟨by simp [factU, listT, listTs], fun x hx => ?_⟩, fun x hx => ?_⟩
    all_goals
      simp [factU, listT, listTs] at hx
      rcases hx with rfl | rfl
    all_goals first
      | exact ⟨by simp, by simp, by simp, by simp⟩
      | simp
  have h1 := UseOf_ok _ hoB
  refine AFn.walk 20 tabOk Tryd.func27 rfl (by kernel_rfl) rfl rfl fun hou => ?_
  repeat first | (with_reducible refine oj ?_; refine AOps.auto tabOk rfl ?_) | (with_reducible first | refine o1 ?_ | refine o2 ?_ | refine o3 ?_ | refine o4 ?_ | refine o5 ?_ | refine o6 ?_ | refine o7 ?_ | refine o8 ?_ | refine o9 ?_ | refine oa ?_ | refine ob ?_ | refine oc ?_ | refine od ?_ | refine oe ?_ | refine og ?_ | refine oh ?_ | refine oi ?_) | (with_reducible refine cExitMiss ?_ ?_; rfl) | (with_reducible refine ok ?_; first | refine ACode.condT rfl ?_ | refine ACode.condF rfl ?_)
  refine AOps.callC hΓc (W_ok hΓc 2) rfl rfl rfl rfl rfl rfl rfl hou (by simp) ?_
  repeat first | (with_reducible refine oj ?_; refine AOps.auto tabOk rfl ?_) | (with_reducible first | refine o1 ?_ | refine o2 ?_ | refine o3 ?_ | refine o4 ?_ | refine o5 ?_ | refine o6 ?_ | refine o7 ?_ | refine o8 ?_ | refine o9 ?_ | refine oa ?_ | refine ob ?_ | refine oc ?_ | refine od ?_ | refine oe ?_ | refine og ?_ | refine oh ?_ | refine oi ?_) | (with_reducible refine cExitMiss ?_ ?_; rfl) | (with_reducible refine ok ?_; first | refine ACode.condT rfl ?_ | refine ACode.condF rfl ?_)
  refine AOps.callC hΓc (B_ok 2 [1] [.mk 1 2 [] [] []]) rfl rfl rfl rfl rfl rfl rfl hou (by simp) ?_
  refine AOps.callC hΓc (NodeList_ok hΓc factU hoT (by simp [factU, listT, listTs])) rfl rfl rfl rfl rfl rfl rfl hou (by simp) ?_
  refine AOps.call1 hΓc rfl rfl rfl rfl rfl rfl rfl (by simp) hou (h1 ou) fun r ou' hq hids hou' => ?_
  obtain ⟨rfl, hq⟩ := hq
  rcases hq with ⟨h2, _⟩ | ⟨_, l, hp, rfl⟩
  · exact absurd use_fact.1 h2
  rw [use_fact.2] at hp
  have hl : l = [(1, 0)] := List.perm_singleton.1 hp
  subst hl
  repeat first | (with_reducible refine oj ?_; refine AOps.auto tabOk rfl ?_) | (with_reducible first | refine o1 ?_ | refine o2 ?_ | refine o3 ?_ | refine o4 ?_ | refine o5 ?_ | refine o6 ?_ | refine o7 ?_ | refine o8 ?_ | refine o9 ?_ | refine oa ?_ | refine ob ?_ | refine oc ?_ | refine od ?_ | refine oe ?_ | refine og ?_ | refine oh ?_ | refine oi ?_) | (with_reducible refine cExitMiss ?_ ?_; rfl) | (with_reducible refine ok ?_; first | refine ACode.condT rfl ?_ | refine ACode.condF rfl ?_)
  refine AOps.callG hΓc (EqualU_ok hΓc [(1, 0)] [(1, 0)] (by simp)) rfl rfl rfl rfl rfl rfl rfl rfl rfl hou (by simp) ?_
  repeat first | (with_reducible refine oj ?_; refine AOps.auto tabOk rfl ?_) | (with_reducible first | refine o1 ?_ | refine o2 ?_ | refine o3 ?_ | refine o4 ?_ | refine o5 ?_ | refine o6 ?_ | refine o7 ?_ | refine o8 ?_ | refine o9 ?_ | refine oa ?_ | refine ob ?_ | refine oc ?_ | refine od ?_ | refine oe ?_ | refine og ?_ | refine oh ?_ | refine oi ?_) | (with_reducible refine cExitMiss ?_ ?_; rfl) | (with_reducible refine ok ?_; first | refine ACode.condT rfl ?_ | refine ACode.condF rfl ?_)
  exact AFn.fin' rfl (WkF.ofEq rfl) (by simp) hou ⟨rfl, rfl⟩
end Go.Proofs.YtnonkoeknpmcjaaDoor
/- Trees of nodes that the running functions own: each node and each list of identifiers has a name. -/
namespace Go.CoreX
set_option linter.unusedVariables false
set_option linter.unusedSimpArgs false
/-- An own list of identifiers: its name and its room; none: it is never written. -/
abbrev Nb := Option (Nat × Nat)
structure LAlt where
  tag : Int
  nb : Nb
  binds : List Int
def LAlt.er (a : LAlt) : Alt := ⟨a.tag, a.binds⟩
inductive LTr where
  | mk (id : Nat) (op n : Int) (nb : Nb) (binds : List Int) (kids : List LTr) (alts : List LAlt)
instance : Inhabited LTr := ⟨.mk 0 0 0 none [] [] []⟩
def LTr.id : LTr → Nat | .mk i _ _ _ _ _ _ => i
def LTr.kids : LTr → List LTr | .mk _ _ _ _ _ k _ => k
mutual
def erT : LTr → Tr
  | .mk _ o n _ b k a => .mk o n b (erTs k) (a.map LAlt.er)
def erTs : List LTr → List Tr
  | [] => []
  | t :: ts => erT t :: erTs ts
end
theorem erTs_eq : ∀ l : List LTr, erTs l = l.map erT
  | [] => rfl
  | t :: l => by simp [erTs, erTs_eq l]
end Go.CoreX
namespace Go.Proofs.YtnonkoeknpmcjaaDoor
open Go Go.Abs Go.CoreX
set_option maxRecDepth 10000
set_option linter.unusedVariables false
set_option linter.unusedSimpArgs false
variable {Γ : List (Nat × List AC)}
def bC : Nb → List Int → AC
  | none, l => .sl 1 (l.map cI)
  | some (a, cap), l => .arr (.o a) 1 0 (l.map cI).length cap
def bO : Nb → List Int → List (Nat × AObj)
  | none, _ => []
  | some (a, cap), l => [(a, .cells (vec 1 (l.map cI) cap))]
def lAlt (x : LAlt) : List AC := [int x.tag, bC x.nb x.binds]
def aO (l : List LAlt) : List (Nat × AObj) := l.flatMap fun x => bO x.nb x.binds
def kC (l : List LTr) : List (List AC) := l.map fun t => [.ptr (.o t.id) 0]
def lC : LTr → List AC
  | .mk _ o n nb b k a => [int o, int n, bC nb b, .sl 1 (kC k), .sl 2 (a.map lAlt)]
mutual
def objs : LTr → List (Nat × AObj)
  | .mk i o n nb b k a => (i, .cells [int o, int n, bC nb b, .sl 1 (kC k), .sl 2 (a.map lAlt)]) :: (bO nb b ++ aO a) ++ objss k
def objss : List LTr → List (Nat × AObj)
  | [] => []
  | t :: ts => objs t ++ objss ts
end
abbrev keys (l : List (Nat × AObj)) : List Nat := l.map (·.1)
def Owns (ou : Outer) (l : List (Nat × AObj)) : Prop := ∀ p ∈ l, ou p.1 = some p.2
theorem Owns.app {ou : Outer} {l r : List (Nat × AObj)} : Owns ou (l ++ r) ↔ Owns ou l ∧ Owns ou r := by
  unfold Owns
  constructor
  · exact fun h => ⟨fun p hp => h p (by simp [hp]), fun p hp => h p (by simp [hp])⟩
  · rintro ⟨h1, h2⟩ p hp
    rcases List.mem_append.1 hp with hp | hp
    · exact h1 p hp
    · exact h2 p hp
theorem Owns.frame {ou ou' : Outer} {l : List (Nat × AObj)} (h : Owns ou l) (hf : ∀ j ∈ keys l, ou' j = ou j) : Owns ou' l := fun p hp => (hf p.1 (List.mem_map_of_mem hp)).trans (h p hp)
theorem objss_eq : ∀ l : List LTr, objss l = l.flatMap objs
  | [] => rfl
  | t :: l => by simp [objss, objss_eq l]
theorem objss_app (l r : List LTr) : objss (l ++ r) = objss l ++ objss r := by simp [objss_eq]
theorem owns_node {ou : Outer} : ∀ {t : LTr}, Owns ou (objs t) → ou t.id = some (.cells (lC t))
  | .mk i o n nb b k a, h => h (i, .cells [int o, int n, bC nb b, .sl 1 (kC k), .sl 2 (a.map lAlt)]) (by simp [objs])
/-- What a tree of own nodes reads as, once its nodes are never written again. -/
theorem ids_bC (p : Abs.Id → Prop) (hp : ∀ k, p (.o k)) (nb : Nb) (l : List Int) : (bC nb l).ids p := by
  cases nb with
  | none => simp [bC, AC.ids]
  | some x => exact hp _
theorem ids_kC (p : Abs.Id → Prop) (hp : ∀ k, p (.o k)) (l : List LTr) : idsS p (kC l) := idsS_map (f := fun t : LTr => [.ptr (.o t.id) 0]) (fun t => by simp only [idsL, AC.ids, and_true]; exact hp _) l
theorem ids_lAlts (p : Abs.Id → Prop) (hp : ∀ k, p (.o k)) (l : List LAlt) : idsS p (l.map lAlt) := idsS_map (f := lAlt) (fun t => by simp only [lAlt, idsL, AC.ids, and_true, true_and]; exact ids_bC p hp _ _) l
theorem bC_read {Γ : List (Nat × List AC)} {F : Nat → Prop} {w : World} {C C' : Ctx} {σ : St} (hi : Inv Γ F w C σ) (hc : Chg isO w C w C') {nb : Nb} {l : List Int} (ho : Owns σ.ou (bO nb l)) (hp : ∀ k ∈ keys (bO nb l), ∀ a : Addr, a.block = C.blk (.o k) → C'.prot a) {v : Value}
    (hr : R w C (bC nb l) v) : R w C' (.sl 1 (l.map cI)) v := by
  cases nb with
  | none => exact R.chg hc (.sl 1 (l.map cI)) v (ids_cIs _ _) hr
  | some x =>
    obtain ⟨a, cap⟩ := x
    have hg : σ.get (.o a) = some (.cells (vec 1 (l.map cI) cap)) := ho (a, .cells (vec 1 (l.map cI) cap)) (by simp [bO])
    obtain ⟨hok, zs, T, b1, b2, b3, b4⟩ := hi.obj _ _ hg
    simp only [bC, R, Nat.zero_mul] at hr
    refine ⟨some ⟨C.blk (.o a), 0, none⟩, cap, hr.2.1, hr.2.2, .inr ⟨_, rfl, rfl, ?_⟩⟩
    have hl : ∀ x ∈ l.map cI, x.length = 1 := fun x hx => by obtain ⟨n, _, rfl⟩ := List.mem_map.1 hx; rfl
    have hfl := flat_len hl
    have hzl := RV.length b3
    have hfi : idsL isO (l.map cI).flatten := by
      refine idsL_iff.2 fun c hc => ?_
      obtain ⟨e, he, hce⟩ := List.mem_flatten.1 hc
      obtain ⟨n, _, rfl⟩ := List.mem_map.1 he
      simp [cI] at hce; subst hce; trivial
    have hv : RV w C' (l.map cI).flatten (zs.take ((l.map cI).length * 1)) := by
      refine RV.chg hc _ _ hfi ?_
      have := b3.take ((l.map cI).length * 1)
      rwa [vec, List.take_append_of_le_length (by omega), List.take_of_length_le (by omega)] at this
    refine RS.ofVals 0 hl hv fun j v hj => ⟨?_, hp a (by simp [bO]) _ rfl⟩
    have h2 : j < (l.map cI).length * 1 := by have := (List.getElem?_eq_some_iff.1 hj).1; simp at this ⊢; omega
    rw [List.getElem?_take_of_lt h2] at hj
    rw [Nat.zero_add, cell_of_row _ _ _ _ _ _ b1]
    simpa using hj
theorem aC_read {Γ : List (Nat × List AC)} {F : Nat → Prop} {w : World} {C C' : Ctx} {σ : St} (hi : Inv Γ F w C σ) (hc : Chg isO w C w C') : ∀ {l : List LAlt}, Owns σ.ou (aO l) → (∀ k ∈ keys (aO l), ∀ a : Addr, a.block = C.blk (.o k) → C'.prot a) → ∀ ad : Addr,
    RS w C 2 (l.map lAlt) ad → RS w C' 2 ((l.map LAlt.er).map cAlt) ad
  | [], _, _, ad, _ => by simp [RS]
  | x :: l, ho, hp, ad, hr => by
    have e : aO (x :: l) = bO x.nb x.binds ++ aO l := rfl
    rw [e] at ho hp
    obtain ⟨ho1, ho2⟩ := Owns.app.1 ho
    simp only [List.map_cons, RS, lAlt, RL] at hr
    obtain ⟨_, ⟨⟨u, hu, hup, hur⟩, ⟨v, hv, hvp, hvr⟩, _⟩, hrest⟩ := hr
    refine ⟨rfl, ⟨⟨u, hu, hc.prot _ hup, R.chg hc _ u trivial hur⟩, ⟨v, hv, hc.prot _ hvp, ?_⟩, trivial⟩, aC_read hi hc ho2 (fun k hk => hp k (by simp [keys] at hk ⊢; exact .inr hk)) _ hrest⟩
    exact bC_read hi hc ho1 (fun k hk => hp k (by simp [keys] at hk ⊢; exact .inl hk)) hvr
mutual
theorem own_read {Γ : List (Nat × List AC)} {F : Nat → Prop} {w : World} {C C' : Ctx} {σ : St} (hi : Inv Γ F w C σ) (hc : Chg isO w C w C') : ∀ t : LTr, Owns σ.ou (objs t) → (∀ k ∈ keys (objs t), ∀ a : Addr, a.block = C.blk (.o k) → C'.prot a) → RL w C' (cTr (erT t)) ⟨C.blk (.o t.id), 0, none⟩
  | .mk i o n nb b k a, ho, hp => by
    have hg : σ.get (.o i) = some (.cells (lC (.mk i o n nb b k a))) := owns_node (t := .mk i o n nb b k a) ho
    obtain ⟨hok, zs, T, b1, b2, b3, b4⟩ := hi.obj _ _ hg
    have e : objs (.mk i o n nb b k a) = [(i, .cells [int o, int n, bC nb b, .sl 1 (kC k), .sl 2 (a.map lAlt)])] ++ ((bO nb b ++ aO a) ++ objss k) := by simp [objs]
    rw [e] at ho hp
    obtain ⟨_, ho2⟩ := Owns.app.1 ho
    obtain ⟨ho3, hok2⟩ := Owns.app.1 ho2
    obtain ⟨hob, hoa⟩ := Owns.app.1 ho3
    have hpb : ∀ k' ∈ keys (bO nb b), ∀ a : Addr, a.block = C.blk (.o k') → C'.prot a := fun k' hk => hp k' (by simp [keys] at hk ⊢; exact .inr (.inl hk))
    have hpa : ∀ k' ∈ keys (aO a), ∀ a : Addr, a.block = C.blk (.o k') → C'.prot a := fun k' hk => hp k' (by simp [keys] at hk ⊢; exact .inr (.inr (.inl hk)))
    have hpk : ∀ k' ∈ keys (objss k), ∀ a : Addr, a.block = C.blk (.o k') → C'.prot a := fun k' hk => hp k' (by simp [keys] at hk ⊢; exact .inr (.inr (.inr hk)))
    simp only [lC, RV, R] at b3
    obtain ⟨v1, _, rfl, ⟨rfl, _⟩, v2, _, rfl, ⟨rfl, _⟩, v3, _, rfl, h3, v4, _, rfl, ⟨a4, c4, rfl, l4, h4⟩, v5, _, rfl, ⟨a5, c5, rfl, l5, h5⟩, rfl⟩ := b3
    have hrv : RV w C' (cTr (erT (.mk i o n nb b k a))) [.int .i64 o, .int .i64 n, v3, .slice a4 (kC k).length c4, .slice a5 (a.map lAlt).length c5] := by
      simp only [cTr, erT, Tr.op_mk, Tr.n_mk, Tr.binds_mk, Tr.kids_mk, Tr.alts_mk, RV]
      refine ⟨_, _, rfl, by simp [R, Value.oneCell'], _, _, rfl, by simp [R, Value.oneCell'], _, _, rfl, bC_read hi hc hob hpb h3, _, _, rfl, ?_, _, _, rfl, ?_, rfl⟩
      · refine ⟨a4, c4, by simp [kC, erTs_eq], by simpa [kC, erTs_eq] using l4, ?_⟩
        rcases h4 with h4 | ⟨ad, rfl, hs, h4⟩
        · left
          simp only [kC, List.map_eq_nil_iff] at h4
          subst h4; rfl
        · exact .inr ⟨ad, rfl, hs, own_reads hi hc k hok2 hpk ad h4⟩
      · refine ⟨a5, c5, by simp, by simpa using l5, ?_⟩
        rcases h5 with h5 | ⟨ad, rfl, hs, h5⟩
        · left
          simp only [List.map_eq_nil_iff] at h5
          subst h5; rfl
        · exact .inr ⟨ad, rfl, hs, aC_read hi hc hoa hpa ad h5⟩
    refine RL.of_new 0 hrv (fun j v hj => ?_) (fun ad ha => ?_)
    · rw [Nat.zero_add]
      show w.cell? ⟨C.blk (.o i), j, none⟩ = some v
      rw [cell_of_row _ _ _ _ _ _ b1]
      simpa using hj
    · exact hp i (by simp [keys]) _ ha
theorem own_reads {Γ : List (Nat × List AC)} {F : Nat → Prop} {w : World} {C C' : Ctx} {σ : St} (hi : Inv Γ F w C σ) (hc : Chg isO w C w C') : ∀ l : List LTr, Owns σ.ou (objss l) → (∀ k ∈ keys (objss l), ∀ a : Addr, a.block = C.blk (.o k) → C'.prot a) → ∀ ad : Addr, RS w C 1 (kC l) ad → RS w C' 1 (encTrs (erTs l)) ad
  | [], _, _, ad, _ => by simp [erTs, encTrs, RS]
  | t :: l, ho, hp, ad, hr => by
    have e : objss (t :: l) = objs t ++ objss l := rfl
    rw [e] at ho hp
    obtain ⟨ho1, ho2⟩ := Owns.app.1 ho
    simp only [kC, List.map_cons, RS, RL, R] at hr
    obtain ⟨_, ⟨⟨u, hu, hup, _, hur⟩, _⟩, hrest⟩ := hr
    simp only [erTs, encTrs, RS]
    refine ⟨rfl, ⟨⟨u, hu, hc.prot _ hup, ⟨_, hur, rfl, ?_⟩⟩, trivial⟩, own_reads hi hc l ho2 (fun k hk => hp k (by simp [keys] at hk ⊢; exact .inr hk)) _ hrest⟩
    rw [encTr_eq]
    exact own_read hi hc t ho1 fun k hk => hp k (by simp [keys] at hk ⊢; exact .inl hk)
end
mutual
theorem objs_cells : ∀ t : LTr, ∀ p ∈ objs t, ∃ cs, p.2 = .cells cs
  | .mk i o n nb b k a, p, hp => by
    simp only [objs, List.cons_append, List.mem_cons, List.mem_append] at hp
    have hb : ∀ (nb : Nb) (l : List Int), ∀ p ∈ bO nb l, ∃ cs, p.2 = .cells cs := fun nb l p hp => by
      cases nb with
      | none => simp [bO] at hp
      | some x => simp [bO] at hp; subst hp; exact ⟨_, rfl⟩
    rcases hp with rfl | (hp | hp) | hp
    · exact ⟨_, rfl⟩
    · exact hb _ _ p hp
    · unfold aO at hp
      obtain ⟨x, _, hx⟩ := List.mem_flatMap.1 hp
      exact hb _ _ p hx
    · exact objss_cells k p hp
theorem objss_cells : ∀ l : List LTr, ∀ p ∈ objss l, ∃ cs, p.2 = .cells cs
  | [], p, hp => by simp [objss] at hp
  | t :: l, p, hp => by
    simp only [objss, List.mem_append] at hp
    rcases hp with hp | hp
    · exact objs_cells t p hp
    · exact objss_cells l p hp
end
/-- A tree of own nodes is lent, to be read. -/
theorem LendF.tree {σ : St} {t : LTr} (h : Owns σ.ou (objs t)) : LendF σ (.one (.ptr (.o t.id) 0)) (.one (.box (cTr (erT t)))) := by
  intro Γ F w C v hi hr
  simp only [RF, R] at hr
  refine ⟨_, hr.2, rfl, own_read hi hi.stillChg t h fun k hk a ha => ?_⟩
  obtain ⟨p, hp, rfl⟩ := List.mem_map.1 hk
  obtain ⟨cs, hcs⟩ := objs_cells t p hp
  show a.block < w.heap.size
  rw [ha]
  exact (AObj.block_lt (hi.obj (.o p.1) p.2 (h p hp)).2 (by rw [hcs]; rfl)).2
def deadL (ou : Outer) (l : List Nat) : Outer := fun j => if j ∈ l then some .dead else ou j
theorem inv_freezeL {Γ : List (Nat × List AC)} {F : Nat → Prop} {w : World} : ∀ (l : List (Nat × AObj)) {C : Ctx} {σ : St}, Inv Γ F w C σ → Owns σ.ou l → (keys l).Nodup → (∀ p ∈ l, ∃ cs, p.2 = .cells cs) →
    ∃ C', Goes F (fun _ => True) w C w C' ∧ Inv Γ F w C' { σ with ou := deadL σ.ou (keys l) } ∧ (∀ i, C'.blk i = C.blk i) ∧ ∀ k ∈ keys l, ∀ a : Addr, a.block = C.blk (.o k) → C'.prot a
  | [], C, σ, hi, _, _, _ => ⟨C, Goes.refl _ _ _ _, by rw [show deadL σ.ou (keys []) = σ.ou from funext fun j => by simp [deadL]]; exact hi, fun _ => rfl, fun k hk => by simp at hk⟩
  | (k, o) :: l, C, σ, hi, ho, hn, hc => by
    obtain ⟨cs, rfl⟩ : ∃ cs, o = .cells cs := hc (k, o) (by simp)
    simp only [keys, List.map_cons, List.nodup_cons] at hn
    have hg : σ.get (.o k) = some (.cells cs) := ho (k, .cells cs) (by simp)
    obtain ⟨h1, h2, h3⟩ := hi.freeze hg
    have ho2 : Owns (σ.set (.o k) .dead).ou l := fun p hp => by
      have hne : p.1 ≠ k := fun e => hn.1 (e ▸ List.mem_map_of_mem hp)
      show (bif Nat.beq p.1 k then some AObj.dead else σ.ou p.1) = some p.2
      rw [beq_no hne]
      exact ho p (by simp [hp])
    obtain ⟨C', g1, g2, g3, g4⟩ := inv_freezeL l h2 ho2 hn.2 fun p hp => hc p (by simp [hp])
    refine ⟨C', h1.trans g1, ?_, fun i => g3 i, fun j hj a ha => ?_⟩
    · have e : ({ σ.set (.o k) .dead with ou := deadL (σ.set (.o k) .dead).ou (keys l) } : St) = { σ with ou := deadL σ.ou (keys ((k, .cells cs) :: l)) } := by
        show St.mk σ.n σ.lo _ = St.mk σ.n σ.lo _
        congr 1
        funext j
        show deadL (fun j => bif Nat.beq j k then some AObj.dead else σ.ou j) (keys l) j = _
        unfold deadL
        by_cases e : j = k
        · subst e; simp
        · simp only [beq_no e, cond_false, keys, List.map_cons, List.mem_cons, e, false_or]
      rw [← e]; exact g2
    · simp only [keys, List.map_cons, List.mem_cons] at hj
      rcases hj with rfl | hj
      · exact g1.chg.prot a (.inr ha)
      · exact g4 j hj a ha
theorem AOps.freezeT {E : Env} {ops : Array Oper} {l : List Oper} {K : Cont} {fr : Fr} {σ : St} {t : LTr} (d : Nat) (ho : Owns σ.ou (objs t)) (hn : (keys (objs t)).Nodup) (hd : Fr.get d fr = some (.one (.ptr (.o t.id) 0)))
    (h : AOps E ops l K ((d, .one (.box (cTr (erT t)))) :: fr) { σ with ou := deadL σ.ou (keys (objs t)) }) : AOps E ops l K fr σ := by
  intro F w0 C0 w C tmps hgo hi hf
  obtain ⟨C', g1, g2, g3, g4⟩ := inv_freezeL (objs t) hi ho hn (objs_cells t)
  refine h F w0 C0 w C' tmps (hgo.trans g1.toO) g2 ⟨hf.1, fun k x hk => ?_⟩
  simp only [Fr.get] at hk
  by_cases e : d = k
  · subst e
    simp at hk
    subst hk
    obtain ⟨u, hu, hr⟩ := hf.2 d _ hd
    simp only [RF, R] at hr
    exact ⟨u, hu, _, hr.2, rfl, own_read hi (g1.chg.weaken fun _ _ => trivial) t ho g4⟩
  · rw [beq_no e] at hk
    obtain ⟨u, hu, hr⟩ := hf.2 k x hk
    exact ⟨u, hu, hr.ext g1.chg⟩
end Go.Proofs.YtnonkoeknpmcjaaDoor
/- Rename, walked: the renaming of one list of identifiers. -/
namespace Go.CoreX
set_option linter.unusedVariables false
set_option linter.unusedSimpArgs false
/-- New identifiers from f on. -/
def frB (f : Int) (l : List Int) : List Int := (List.range l.length).map fun i : Nat => f + i
def frN (m : Nm) (f : Int) (l : List Int) : Nm := putsN m l (frB f l)
def frTo (f : Int) (l : List Int) (j : Nat) : List Int := ((List.range j).map fun i : Nat => f + i) ++ l.drop j
theorem frTo_zero (f : Int) (l : List Int) : frTo f l 0 = l := by simp [frTo]
theorem frTo_all (f : Int) (l : List Int) : frTo f l l.length = frB f l := by simp [frTo, frB]
theorem frTo_len (f : Int) (l : List Int) {j : Nat} (h : j ≤ l.length) : (frTo f l j).length = l.length := by simp [frTo]; omega
theorem frTo_get (f : Int) {l : List Int} {j : Nat} {n : Int} (h : l[j]? = some n) : (frTo f l j)[j]? = some n := by
  unfold frTo
  rw [List.getElem?_append_right (by simp)]
  simp [h]
theorem frTo_set (f : Int) {l : List Int} {j : Nat} (h : j < l.length) : (frTo f l j).set j (f + j) = frTo f l (j + 1) := by
  unfold frTo
  rw [List.set_append_right _ _ (by simp)]
  simp only [List.length_map, List.length_range, Nat.sub_self]
  rw [List.drop_eq_getElem_cons h, List.set_cons_zero, List.range_succ, List.map_append, List.append_assoc]
  rfl
theorem frB_len (f : Int) (l : List Int) : (frB f l).length = l.length := by simp [frB]
theorem frB_get {f : Int} {l : List Int} {j : Nat} (h : j < l.length) : (frB f l)[j]? = some (f + j) := by simp [frB, h]
end Go.CoreX
namespace Go.Proofs.YtnonkoeknpmcjaaDoor
open Go Go.Abs Go.CoreX
set_option maxRecDepth 10000
set_option linter.unusedVariables false
set_option linter.unusedSimpArgs false
variable {Γ : List (Nat × List AC)}
theorem vecI_eq (l : List Int) (cap : Nat) : vec 1 (l.map cI) cap = l.map int ++ List.replicate (cap - l.length) .any := by
  unfold vec
  have e : (l.map cI).flatten = l.map int := by
    induction l with
    | nil => rfl
    | cons n l ih => simp only [List.map_cons, List.flatten_cons, ih]; rfl
  rw [e]; simp
theorem vecI_get {l : List Int} {cap i : Nat} {v : Int} (h : l[i]? = some v) : (vec 1 (l.map cI) cap)[i]? = some (int v) := by
  rw [vecI_eq, List.getElem?_append_left (by simpa using (List.getElem?_eq_some_iff.1 h).1)]
  simp [h]
theorem vecI_set {l : List Int} {cap i : Nat} (v : Int) (h : i < l.length) : (vec 1 (l.map cI) cap).set i (int v) = vec 1 ((l.set i v).map cI) cap := by
  rw [vecI_eq, vecI_eq, List.set_append_left _ _ (by simpa using h), List.length_set, List.map_set]
theorem vecI_lt {l : List Int} {cap i : Nat} (h : i < l.length) : i < (vec 1 (l.map cI) cap).length := by
  rw [vecI_eq]; simp; omega
theorem OuOk.set {σ : St} {k : Nat} {o : AObj} (h : OuOk σ.ou) (ho : o.ids isO) : OuOk (σ.set (.o k) o).ou := by
  intro j p hj
  have hj' : (bif Nat.beq j k then some o else σ.ou j) = some p := hj
  by_cases e : j = k
  · subst e; simp at hj'; subst hj'; exact ho
  · rw [beq_no e] at hj'; exact h j p hj'
theorem set_ou_same {σ : St} {k : Nat} {o : AObj} : (σ.set (.o k) o).ou k = some o := by show (bif Nat.beq k k then _ else _) = _; simp
theorem set_ou_ne {σ : St} {j k : Nat} {o : AObj} (h : j ≠ k) : (σ.set (.o k) o).ou j = σ.ou j := by show (bif Nat.beq j k then _ else _) = _; rw [beq_no h]; rfl
/-- The names so far and the next number. -/
structure RnS (ou : Outer) (kn km kf : Nat) (nm : Nm) (ck : Nat) (l : List (Nat × Int × Int)) (f : Int) : Prop where
  n : ou kn = some (.cells [.mp (.o km)])
  m : ou km = some (.map ck (encI eN l))
  k : IMOk nm ck l
  f : ou kf = some (.cells [int f])
theorem RnS.ne {ou : Outer} {kn km kf : Nat} {nm : Nm} {ck : Nat} {l : List (Nat × Int × Int)} {f : Int} (h : RnS ou kn km kf nm ck l f) : kn ≠ km ∧ kn ≠ kf ∧ km ≠ kf := by
  refine ⟨fun e => ?_, fun e => ?_, fun e => ?_⟩
  · have := h.n; rw [e, h.m] at this; cases this
  · have := h.n; rw [e, h.f] at this; cases this
  · have := h.m; rw [e, h.f] at this; cases this
def FreshQ (ou : Outer) (kn km kf : Nat) (nm : Nm) (f : Int) (nb : Nb) (b : List Int) (r : FV) (ou' : Outer) : Prop :=
  r = .tup [] ∧ ∃ ck' l', RnS ou' kn km kf (frN nm f b) ck' l' (f + b.length) ∧ Owns ou' (bO nb (frB f b)) ∧ OuOk ou' ∧ ∀ j, j ≠ km → j ≠ kf → j ∉ keys (bO nb b) → ou' j = ou j
theorem fresh_ok (hΓ : ∀ g cs, (g, cs) ∈ Γ → idsL isO cs) (nb : Nb) (b : List Int) (hb : nb = none → b = []) (hl : b.length ≤ 1048576) (ou : Outer) (kn km kf : Nat) (nm : Nm) (ck : Nat) (l : List (Nat × Int × Int)) (f : Int) (h : RnS ou kn km kf nm ck l f)
    (ho : Owns ou (bO nb b)) (hd : ∀ k ∈ keys (bO nb b), k ≠ kn ∧ k ≠ km ∧ k ≠ kf) (hf0 : 0 ≤ f) (hf1 : f + b.length ≤ 4611686018427387904) (hou0 : OuOk ou) :
    AFn Tryd.prog Γ 80 [.one (bC nb b), .one (.ptr (.o kf) 0), .one (.ptr (.o kn) 0)] ou (FreshQ ou kn km kf nm f nb b) := by
  cases nb with
  | none =>
    obtain rfl := hb rfl
    refine AFn.walk 23 tabOk Tryd.func80 rfl (by kernel_rfl) rfl rfl fun hou => ?_
    repeat first | (with_reducible refine oj ?_; refine AOps.auto tabOk rfl ?_) | (with_reducible first | refine o1 ?_ | refine o2 ?_ | refine o3 ?_ | refine o4 ?_ | refine o5 ?_ | refine o6 ?_ | refine o7 ?_ | refine o8 ?_ | refine o9 ?_ | refine oa ?_ | refine ob ?_ | refine oc ?_ | refine od ?_ | refine oe ?_ | refine og ?_ | refine oh ?_ | refine oi ?_) | (with_reducible refine cExitMiss ?_ ?_; rfl) | (with_reducible refine ok ?_; first | refine ACode.condT rfl ?_ | refine ACode.condF rfl ?_)
    refine ACode.loopR hΓ (α := Unit) (fun _ => [(7, .one (int 0)), (6, .one (int 0))]) (fun _ => ⟨0, [], ou⟩) (fun m _ => m = 0) (a0 := ()) (ρ := id) rfl (LessR.of rfl (by (repeat' first | exact FrSub.nil | refine FrSub.cons rfl (.ofEq rfl) ?_ | refine FrSub.oa rfl rfl ?_ | refine FrSub.consP rfl (.ofEq rfl) (by simp) ?_)) (by simp) .nil rfl rfl hou) fun m a hm => ?_
    repeat first | (with_reducible refine oj ?_; refine AOps.auto tabOk rfl ?_) | (with_reducible first | refine o1 ?_ | refine o2 ?_ | refine o3 ?_ | refine o4 ?_ | refine o5 ?_ | refine o6 ?_ | refine o7 ?_ | refine o8 ?_ | refine o9 ?_ | refine oa ?_ | refine ob ?_ | refine oc ?_ | refine od ?_ | refine oe ?_ | refine og ?_ | refine oh ?_ | refine oi ?_) | (with_reducible refine cExitMiss ?_ ?_; rfl) | (with_reducible refine ok ?_; first | refine ACode.condT rfl ?_ | refine ACode.condF rfl ?_)
    refine AFn.fin' rfl (WkF.refl _) (by simp) hou ⟨rfl, ck, l, ?_, by simpa [frB, bO] using ho, hou0, fun _ _ _ _ => rfl⟩
    simpa [frN, putsN] using h
  | some x =>
    obtain ⟨a, cap⟩ := x
    obtain ⟨da1, da2, da3⟩ := hd a (by simp [bO])
    have hoa : ou a = some (.cells (vec 1 (b.map cI) cap)) := ho (a, .cells (vec 1 (b.map cI) cap)) (by simp [bO])
    obtain ⟨dn1, dn2, dn3⟩ := h.ne
    refine AFn.walk 23 tabOk Tryd.func80 rfl (by kernel_rfl) rfl rfl fun hou => ?_
    repeat first | (with_reducible refine oj ?_; refine AOps.auto tabOk rfl ?_) | (with_reducible first | refine o1 ?_ | refine o2 ?_ | refine o3 ?_ | refine o4 ?_ | refine o5 ?_ | refine o6 ?_ | refine o7 ?_ | refine o8 ?_ | refine o9 ?_ | refine oa ?_ | refine ob ?_ | refine oc ?_ | refine od ?_ | refine oe ?_ | refine og ?_ | refine oh ?_ | refine oi ?_) | (with_reducible refine cExitMiss ?_ ?_; rfl) | (with_reducible refine ok ?_; first | refine ACode.condT rfl ?_ | refine ACode.condF rfl ?_)
    refine ACode.loopR hΓ (α := Nat × Outer × Nat × List (Nat × Int × Int)) (fun c => [(7, .one (int c.1)), (6, .one (int (b.map cI).length)), (2, .one (.ptr (.o kn) 0)), (1, .one (.ptr (.o kf) 0)), (0, .one (.arr (.o a) 1 0 (b.map cI).length cap))])
      (fun c => ⟨0, [], c.2.1⟩) (fun m c => c.1 ≤ b.length ∧ (RnS c.2.1 kn km kf (putsN nm (b.take c.1) ((frB f b).take c.1)) c.2.2.1 c.2.2.2 (f + c.1) ∧ c.2.1 a = some (.cells (vec 1 ((frTo f b c.1).map cI) cap)) ∧ OuOk c.2.1 ∧ ∀ j, j ≠ km → j ≠ kf → j ≠ a → c.2.1 j = ou j) ∧ m = b.length - c.1)
      (a0 := (0, ou, ck, l)) (ρ := id) ⟨by omega, ⟨by simpa [putsN] using h, by rw [frTo_zero]; exact hoa, hou0, fun _ _ _ _ => rfl⟩, rfl⟩ (LessR.of rfl (by (repeat' first | exact FrSub.nil | refine FrSub.cons rfl (.ofEq rfl) ?_ | refine FrSub.oa rfl rfl ?_ | refine FrSub.consP rfl (.ofEq rfl) (by simp) ?_)) (by simp) .nil rfl rfl hou) fun m c hc => ?_
    clear hoa h ho
    obtain ⟨j, ov, ck, l⟩ := c
    obtain ⟨hjl, ⟨hR, ha, hok, hfr⟩, rfl⟩ := hc
    simp only at hjl hR ha hok hfr
    repeat first | (with_reducible refine oj ?_; refine AOps.auto tabOk rfl ?_) | (with_reducible first | refine o1 ?_ | refine o2 ?_ | refine o3 ?_ | refine o4 ?_ | refine o5 ?_ | refine o6 ?_ | refine o7 ?_ | refine o8 ?_ | refine o9 ?_ | refine oa ?_ | refine ob ?_ | refine oc ?_ | refine od ?_ | refine oe ?_ | refine og ?_ | refine oh ?_ | refine oi ?_) | (with_reducible refine cExitMiss ?_ ?_; rfl) | (with_reducible refine ok ?_; first | refine ACode.condT rfl ?_ | refine ACode.condF rfl ?_)
    refine ACode.cond rfl (fun hb2 => ?_) (fun hb2 => ?_)
    · have hlt : j < b.length := by simpa using hb2
      obtain ⟨n, hn⟩ := get_of_lt hlt
      have hgn := frTo_get f hn
      repeat first | (with_reducible refine oj ?_; refine AOps.auto tabOk rfl ?_) | (with_reducible first | refine o1 ?_ | refine o2 ?_ | refine o3 ?_ | refine o4 ?_ | refine o5 ?_ | refine o6 ?_ | refine o7 ?_ | refine o8 ?_ | refine o9 ?_ | refine oa ?_ | refine ob ?_ | refine oc ?_ | refine od ?_ | refine oe ?_ | refine og ?_ | refine oh ?_ | refine oi ?_) | (with_reducible refine cExitMiss ?_ ?_; rfl) | (with_reducible refine ok ?_; first | refine ACode.condT rfl ?_ | refine ACode.condF rfl ?_)
      refine ACode.drawX tabOk 6 [(0, .one (.mp (.o km))), (3, .one (.ptr (.o a) j)), (4, .one (int n)), (5, .one (int (f + j)))] follows (by kernel_rfl) rfl rfl rfl rfl ?_ ?_
      · refine .step rfl (HStep.plain rfl (AStep.loadOwn tabOk rfl rfl rfl rfl rfl hR.n rfl)) (.step rfl (HStep.plain rfl (idxI tabOk rfl rfl rfl rfl rfl rfl rfl (by simpa using hlt))) ?_)
        refine .step rfl (HStep.plain rfl (AStep.loadOwn tabOk rfl rfl rfl rfl rfl ha (vecI_get hgn))) ?_
        exact .step rfl (HStep.plain rfl (AStep.loadOwn tabOk rfl rfl rfl rfl rfl hR.f rfl)) .nil
      refine AOps.putI eN (v := f + j) rfl rfl rfl Tryd.underlying79 Tryd.underlying3 rfl hR.m rfl rfl hR.k fun ck' l' hm' => ?_
      have e1 := (set_ou_ne (σ := ⟨0, [], ov⟩) (o := .map ck' (encI eN l')) (Ne.symm dn3)).trans hR.f
      have e2 := (set_ou_ne (σ := ⟨0, [], ov⟩) (o := .map ck' (encI eN l')) da2).trans ha
      repeat first | (with_reducible refine oj ?_; refine AOps.auto tabOk rfl ?_) | (with_reducible first | refine o1 ?_ | refine o2 ?_ | refine o3 ?_ | refine o4 ?_ | refine o5 ?_ | refine o6 ?_ | refine o7 ?_ | refine o8 ?_ | refine o9 ?_ | refine oa ?_ | refine ob ?_ | refine oc ?_ | refine od ?_ | refine oe ?_ | refine og ?_ | refine oh ?_ | refine oi ?_) | (with_reducible refine cExitMiss ?_ ?_; rfl) | (with_reducible refine ok ?_; first | refine ACode.condT rfl ?_ | refine ACode.condF rfl ?_)
      refine AOps.step1 rfl rfl rfl (AStep.loadOwn tabOk rfl rfl rfl rfl rfl e1 rfl) ?_
      refine AOps.step1 rfl rfl rfl (idxI tabOk rfl rfl rfl rfl rfl rfl rfl (by simpa using hlt)) ?_
      refine AOps.storeOwn tabOk rfl rfl rfl rfl rfl rfl rfl e2 (vecI_lt (by rw [frTo_len f b hjl]; exact hlt)) ?_
      rw [vecI_set _ (by rw [frTo_len f b hjl]; exact hlt), frTo_set f hlt]
      repeat first | (with_reducible refine oj ?_; refine AOps.auto tabOk rfl ?_) | (with_reducible first | refine o1 ?_ | refine o2 ?_ | refine o3 ?_ | refine o4 ?_ | refine o5 ?_ | refine o6 ?_ | refine o7 ?_ | refine o8 ?_ | refine o9 ?_ | refine oa ?_ | refine ob ?_ | refine oc ?_ | refine od ?_ | refine oe ?_ | refine og ?_ | refine oh ?_ | refine oi ?_) | (with_reducible refine cExitMiss ?_ ?_; rfl) | (with_reducible refine ok ?_; first | refine ACode.condT rfl ?_ | refine ACode.condF rfl ?_)
      have e3 := (set_ou_ne (σ := St.set ⟨0, [], ov⟩ (.o km) (.map ck' (encI eN l'))) (o := .cells (vec 1 ((frTo f b (j + 1)).map cI) cap)) (Ne.symm da3)).trans e1
      refine AOps.step1 rfl rfl rfl (AStep.loadOwn tabOk rfl rfl rfl rfl rfl e3 rfl) ?_
      refine AOps.step1 rfl rfl rfl (AStep.arith rfl rfl rfl (.inl ⟨rfl, rfl⟩) (inRange_i64 (by omega) (by omega))) ?_
      refine AOps.storeOwn tabOk rfl rfl rfl rfl rfl rfl rfl e3 (by simp) ?_
      repeat' first | (with_reducible refine oj ?_; refine AOps.auto tabOk rfl ?_) | (with_reducible first | refine o1 ?_ | refine o2 ?_ | refine o3 ?_ | refine o4 ?_ | refine o5 ?_ | refine o6 ?_ | refine o7 ?_ | refine o8 ?_ | refine o9 ?_ | refine oa ?_ | refine ob ?_ | refine oc ?_ | refine od ?_ | refine oe ?_ | refine og ?_ | refine oh ?_ | refine oi ?_) | (with_reducible refine cExitMiss ?_ ?_; rfl) | (with_reducible refine ok ?_; first | refine ACode.condT rfl ?_ | refine ACode.condF rfl ?_) | (with_reducible refine oj ?_; first | refine AOps.step1 rfl rfl rfl (AStep.arith rfl rfl rfl (.inl ⟨rfl, rfl⟩) (inRange_i64 (by first | omega | (simp; omega)) (by first | omega | (simp; omega)))) ?_ | refine AOps.step1 rfl rfl rfl (AStep.arith rfl rfl rfl (.inr (.inl ⟨rfl, rfl⟩)) (inRange_i64 (by first | omega | (simp; omega)) (by first | omega | (simp; omega)))) ?_ | refine AOps.step1 rfl rfl rfl (AStep.neBool Tryd.underlying4 rfl rfl rfl) ?_ | refine AOps.step1 rfl rfl rfl (AStep.eqBool Tryd.underlying4 rfl rfl rfl) ?_ | refine AOps.step1 rfl rfl rfl (AStep.max2 (t := 3) (ty := 3) rfl rfl rfl) ?_ | refine AOps.step1 rfl rfl rfl (AStep.min2 (t := 3) (ty := 3) rfl rfl rfl) ?_ | refine AOps.unG rfl rfl rfl ?_)
      refine cInv ⟨b.length - (j + 1), (j + 1, (St.set (St.set (St.set ⟨0, [], ov⟩ (.o km) (.map ck' (encI eN l'))) (.o a) (.cells (vec 1 ((frTo f b (j + 1)).map cI) cap))) (.o kf) (.cells [int (f + j + 1)])).ou, ck', l'), id, by omega, ⟨by omega, ⟨⟨?_, ?_, ?_, ?_⟩, ?_, ?_, fun i h1 h2 h3 => ?_⟩, rfl⟩, LessR.of rfl (by (repeat' first | exact FrSub.nil | refine FrSub.cons rfl (.ofEq rfl) ?_ | refine FrSub.oa rfl rfl ?_ | refine FrSub.consP rfl (.ofEq rfl) (by simp) ?_)) (by simp) .nil rfl rfl ?_⟩
      all_goals try dsimp only
      · rw [set_ou_ne dn2, set_ou_ne (Ne.symm da1), set_ou_ne dn1]; exact hR.n
      · rw [set_ou_ne dn3, set_ou_ne (Ne.symm da2), set_ou_same]
      · rw [putsN_succ hn (frB_get hlt)]; exact hm'
      · rw [set_ou_same, show f + ((j + 1 : Nat) : Int) = f + j + 1 by omega]
      · rw [set_ou_ne da3, set_ou_same]
      · exact OuOk.set (OuOk.set (OuOk.set (σ := ⟨0, [], ov⟩) hok (ids_mapN _ _ _)) (ids_vecI _ _ _)) (by simp)
      · rw [set_ou_ne h2, set_ou_ne h3, set_ou_ne h1]; exact hfr i h1 h2 h3
      · exact OuOk.set (OuOk.set (OuOk.set (σ := ⟨0, [], ov⟩) hok (ids_mapN _ _ _)) (ids_vecI _ _ _)) (by simp)
    · have hlt : j = b.length := by simp at hb2; omega
      subst hlt
      repeat first | (with_reducible refine oj ?_; refine AOps.auto tabOk rfl ?_) | (with_reducible first | refine o1 ?_ | refine o2 ?_ | refine o3 ?_ | refine o4 ?_ | refine o5 ?_ | refine o6 ?_ | refine o7 ?_ | refine o8 ?_ | refine o9 ?_ | refine oa ?_ | refine ob ?_ | refine oc ?_ | refine od ?_ | refine oe ?_ | refine og ?_ | refine oh ?_ | refine oi ?_) | (with_reducible refine cExitMiss ?_ ?_; rfl) | (with_reducible refine ok ?_; first | refine ACode.condT rfl ?_ | refine ACode.condF rfl ?_)
      refine AFn.fin' rfl (WkF.refl _) (by simp) hok ⟨rfl, ck, l, ?_, ?_, hok, fun i h1 h2 h3 => hfr i h1 h2 (by simpa [bO] using h3)⟩
      · have := hR
        rw [List.take_length, List.take_of_length_le (by rw [frB_len]; omega)] at this
        exact this
      · intro p hp
        simp [bO] at hp
        subst hp
        show ov a = _
        rw [ha, frTo_all]
end Go.Proofs.YtnonkoeknpmcjaaDoor
