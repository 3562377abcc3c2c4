/- Renew, walked. -/
import Derived.Test.YtnonkoeknpmcjaaDoorB11
import Derived.Laws.StructEq
import Derived.Test.YtnonkoeknpmcjaaDoorRows
import Derived.Lib.LaidTab
namespace Go.CoreX
set_option linter.unusedVariables false
set_option linter.unusedSimpArgs false
def rnTA (nm : Nm) (f : Int) : List Alt → List Alt × Nm × Int
  | [] => ([], nm, f)
  | x :: l => (⟨x.tag, frB f x.binds⟩ :: (rnTA (frN nm f x.binds) (f + x.binds.length) l).1, (rnTA (frN nm f x.binds) (f + x.binds.length) l).2)
mutual
def rnT (nm : Nm) (f : Int) : Tr → Tr × Nm × Int
  | .mk o n b k a =>
    let s1 := ren1 o nm f b
    let s2 := rnTA s1.2.1 s1.2.2 a
    let s3 := rnTs s2.2.1 s2.2.2 k
    (.mk o (if o = 0 then (nm n).getD n else n) s1.1 s3.1 s2.1, s3.2)
def rnTs (nm : Nm) (f : Int) : List Tr → List Tr × Nm × Int
  | [] => ([], nm, f)
  | t :: l => ((rnT nm f t).1 :: (rnTs (rnT nm f t).2.1 (rnT nm f t).2.2 l).1, (rnTs (rnT nm f t).2.1 (rnT nm f t).2.2 l).2)
end
theorem rnAs_er : ∀ (l : List LAlt) (nm : Nm) (f : Int), (rnAs nm f l).1.map LAlt.er = (rnTA nm f (l.map LAlt.er)).1 ∧ (rnAs nm f l).2 = (rnTA nm f (l.map LAlt.er)).2
  | [], _, _ => ⟨rfl, rfl⟩
  | x :: l, nm, f => by
    have ih := rnAs_er l (frN nm f x.binds) (f + x.binds.length)
    simp only [rnAs, List.map_cons, rnTA, ih.1]
    exact ⟨rfl, ih.2⟩
mutual
theorem rnL_er : ∀ (t : LTr) (nm : Nm) (f : Int), erT (rnL nm f t).1 = (rnT nm f (erT t)).1 ∧ (rnL nm f t).2 = (rnT nm f (erT t)).2
  | .mk i o n nb b k a, nm, f => by
    have h2 := rnAs_er a (ren1 o nm f b).2.1 (ren1 o nm f b).2.2
    have h3 := rnLs_er k (rnAs (ren1 o nm f b).2.1 (ren1 o nm f b).2.2 a).2.1 (rnAs (ren1 o nm f b).2.1 (ren1 o nm f b).2.2 a).2.2
    rw [h2.2] at h3
    simp only [rnL, erT, rnT, h2.1, h2.2, h3.1, h3.2]
    exact ⟨trivial, trivial⟩
theorem rnLs_er : ∀ (l : List LTr) (nm : Nm) (f : Int), erTs (rnLs nm f l).1 = (rnTs nm f (erTs l)).1 ∧ (rnLs nm f l).2 = (rnTs nm f (erTs l)).2
  | [], _, _ => ⟨rfl, rfl⟩
  | t :: l, nm, f => by
    have h1 := rnL_er t nm f
    have h2 := rnLs_er l (rnL nm f t).2.1 (rnL nm f t).2.2
    rw [h1.2] at h2
    simp only [rnLs, erTs, rnTs, h1.1, h1.2, h2.1, h2.2]
    exact ⟨trivial, trivial⟩
end
/-- How many identifiers a node binds that are renamed. -/
def nbLab (l : Lab) : Int := (if l.op = 9 then 0 else l.binds.length : Nat) + ((l.alts.map fun x => x.binds.length).sum : Nat)
theorem nbA_er (l : List LAlt) : nbA l = ((l.map LAlt.er).map fun x => x.binds.length).sum := by simp [nbA, Function.comp_def, LAlt.er]
mutual
theorem nbL_er : ∀ t : LTr, ((nbL t : Nat) : Int) = sumT nbLab (erT t)
  | .mk i o n nb b k a => by
    have := nbLs_er k
    simp only [nbL, erT, sumT, nbLab, nbA_er, ← this]; push_cast; omega
theorem nbLs_er : ∀ l : List LTr, ((nbLs l : Nat) : Int) = sumTs nbLab (erTs l)
  | [] => by simp [nbLs, erTs, sumTs]
  | t :: l => by
    have h1 := nbL_er t
    have h2 := nbLs_er l
    simp only [nbLs, erTs, sumTs, ← h1, ← h2]; push_cast; rfl
end
def nbE (e : List Ex) : Int := sumT nbLab (grow e)
def renewE (e : List Ex) (f : Int) : List Ex × Int :=
  if check e ≠ 0 then ([], check e) else if f < 0 ∨ 1048576 < f then ([], 4) else if 1048576 < (rnT (fun _ => none) f (grow e)).2.2 then ([], 4) else (listT [] (rnT (fun _ => none) f (grow e)).1, 0)
-- The shape stays.
theorem ren1_len (o : Int) (nm : Nm) (f : Int) (b : List Int) : (ren1 o nm f b).1.length = b.length := by
  unfold ren1; split
  · rfl
  · exact frB_len f b
theorem rnTA_len : ∀ (l : List Alt) (nm : Nm) (f : Int), (rnTA nm f l).1.map (fun x => x.binds.length) = l.map fun x => x.binds.length
  | [], _, _ => rfl
  | x :: l, nm, f => by simp only [rnTA, List.map_cons, frB_len, rnTA_len l]
theorem flat_len_eq {l r : List Alt} (h : l.map (fun x => x.binds.length) = r.map fun x => x.binds.length) : (l.flatMap (·.binds)).length = (r.flatMap (·.binds)).length := by
  simp only [List.length_flatMap]; exact congrArg List.sum h
theorem mem_len {l r : List Alt} (h : l.map (fun x => x.binds.length) = r.map fun x => x.binds.length) {c : Nat} (hr : ∀ x ∈ r, x.binds.length ≤ c) : ∀ x ∈ l, x.binds.length ≤ c := fun x hx => by
  have : x.binds.length ∈ r.map fun x => x.binds.length := by rw [← h]; exact List.mem_map_of_mem (f := fun x : Alt => x.binds.length) hx
  obtain ⟨y, hy, e⟩ := List.mem_map.1 this
  rw [← e]; exact hr y hy
mutual
theorem rnT_ok : ∀ (t : Tr) (nm : Nm) (f : Int), okT t → okT (rnT nm f t).1
  | .mk o n b k a, nm, f, h => by
    obtain ⟨h1, h2, h3, ⟨h4, h5⟩, h6⟩ := h
    have e1 := rnTA_len a (ren1 o nm f b).2.1 (ren1 o nm f b).2.2
    have e2 := congrArg List.length e1
    simp only [List.length_map] at e2
    obtain ⟨h7, h8⟩ := rnTs_ok k (rnTA (ren1 o nm f b).2.1 (ren1 o nm f b).2.2 a).2.1 (rnTA (ren1 o nm f b).2.1 (ren1 o nm f b).2.2 a).2.2 h6
    simp only [rnT, okT, ren1_len]
    exact ⟨h1, by omega, by omega, ⟨mem_len e1 h4, by rw [flat_len_eq e1]; exact h5⟩, h7⟩
theorem rnTs_ok : ∀ (l : List Tr) (nm : Nm) (f : Int), okTs l → okTs (rnTs nm f l).1 ∧ (rnTs nm f l).1.length = l.length
  | [], _, _, _ => ⟨trivial, rfl⟩
  | t :: l, nm, f, h => by
    obtain ⟨h1, h2⟩ := rnTs_ok l (rnT nm f t).2.1 (rnT nm f t).2.2 h.2
    exact ⟨⟨rnT_ok t nm f h.1, h1⟩, by simp only [rnTs, List.length_cons, h2]⟩
end
mutual
theorem rnT_cnt : ∀ (t : Tr) (nm : Nm) (f : Int), cntN (rnT nm f t).1 = cntN t
  | .mk o n b k a, nm, f => by simp only [rnT, cntN, rnTs_cnt k]
theorem rnTs_cnt : ∀ (l : List Tr) (nm : Nm) (f : Int), cntNs (rnTs nm f l).1 = cntNs l
  | [], _, _ => rfl
  | t :: l, nm, f => by simp only [rnTs, cntNs, rnT_cnt t, rnTs_cnt l]
end
end Go.CoreX
namespace Go.Proofs.YtnonkoeknpmcjaaDoor
open Go Go.Abs Go.CoreX
set_option maxRecDepth 10000
set_option linter.unusedVariables false
set_option linter.unusedSimpArgs false
variable {Γ : List (Nat × List AC)}
theorem nb_le {e : List Ex} (he : okB e) (h : IsTree e) : nbE e ≤ 4398046511104 := by
  have hel := he.eo.l
  unfold nbE
  rw [← sum_tree _ h]
  unfold labs
  rw [List.map_map, show (nbLab ∘ labE e) = fun x => nbLab (labE e x) from rfl]
  have key : ∀ l : List Ex, (∀ x ∈ l, x ∈ e) → (l.map fun x => nbLab (labE e x)).sum ≤ l.length * 4194304 := by
    intro l
    induction l with
    | nil => simp
    | cons x l ih =>
      intro hl
      have h1 := he.b x (hl x (by simp))
      have h2 := ih fun y hy => hl y (by simp [hy])
      have h3 : nbLab (labE e x) ≤ 4194304 := by
        have h4 : (x.alts.flatMap (·.binds)).length = (x.alts.map fun y => y.binds.length).sum := by simp [List.length_flatMap]
        simp only [nbLab, labE]
        rw [← h4]
        have h5 : (if (labE e x).op = 9 then 0 else x.binds.length) ≤ x.binds.length := by split <;> omega
        have h6 : (if (labE e x).op = 9 then 0 else x.binds.length) + (x.alts.flatMap (·.binds)).length ≤ 4194304 := by omega
        clear h5 h4 ih h2
        simp only [labE] at h6 ⊢
        generalize (if x.op = 9 then 0 else x.binds.length) = q at h6 ⊢
        omega
      simp only [List.map_cons, List.sum_cons, List.length_cons]
      push_cast
      omega
  have := key e fun _ h => h
  have h2 : (e.length : Int) * 4194304 ≤ 1048576 * 4194304 := Int.mul_le_mul_of_nonneg_right (by omega) (by omega)
  omega
theorem Renew_ok (e : List Ex) (he : okB e) (f : Int) : APure Tryd.prog Γc 20 [.one (.sl 5 (e.map cEx)), .one (int f)] (.tup [.one (.sl 5 ((renewE e f).1.map cEx)), .one (int (renewE e f).2)]) := by
  have c1 := Check_ok e he
  have hel := he.eo.l
  intro ou
  refine AFn.forget ?_
  refine AFn.walk 27 tabOk Tryd.func20 rfl (by kernel_rfl) rfl rfl fun hou => ?_
  repeat first | (with_reducible refine oj ?_; refine AOps.auto tabOk rfl ?_) | (with_reducible first | refine o1 ?_ | refine o2 ?_ | refine o3 ?_ | refine o4 ?_ | refine o5 ?_ | refine o6 ?_ | refine o7 ?_ | refine o8 ?_ | refine o9 ?_ | refine oa ?_ | refine ob ?_ | refine oc ?_ | refine od ?_ | refine oe ?_ | refine og ?_ | refine oh ?_ | refine oi ?_) | (with_reducible refine cExitMiss ?_ ?_; rfl) | (with_reducible refine ok ?_; first | refine ACode.condT rfl ?_ | refine ACode.condF rfl ?_)
  refine AOps.callC hΓc c1 rfl rfl rfl rfl rfl rfl rfl hou (by simp) ?_
  repeat first | (with_reducible refine oj ?_; refine AOps.auto tabOk rfl ?_) | (with_reducible first | refine o1 ?_ | refine o2 ?_ | refine o3 ?_ | refine o4 ?_ | refine o5 ?_ | refine o6 ?_ | refine o7 ?_ | refine o8 ?_ | refine o9 ?_ | refine oa ?_ | refine ob ?_ | refine oc ?_ | refine od ?_ | refine oe ?_ | refine og ?_ | refine oh ?_ | refine oi ?_) | (with_reducible refine cExitMiss ?_ ?_; rfl) | (with_reducible refine ok ?_; first | refine ACode.condT rfl ?_ | refine ACode.condF rfl ?_)
  refine ACode.cond rfl (fun hb => ?_) (fun hb => ?_)
  · have h : check e ≠ 0 := by simpa using hb
    repeat first | (with_reducible refine oj ?_; refine AOps.auto tabOk rfl ?_) | (with_reducible first | refine o1 ?_ | refine o2 ?_ | refine o3 ?_ | refine o4 ?_ | refine o5 ?_ | refine o6 ?_ | refine o7 ?_ | refine o8 ?_ | refine o9 ?_ | refine oa ?_ | refine ob ?_ | refine oc ?_ | refine od ?_ | refine oe ?_ | refine og ?_ | refine oh ?_ | refine oi ?_) | (with_reducible refine cExitMiss ?_ ?_; rfl) | (with_reducible refine ok ?_; first | refine ACode.condT rfl ?_ | refine ACode.condF rfl ?_)
    refine AFn.fin' rfl (.trans (WkF.tup (.cons (.one (.nilS 5)) (.cons (.refl _) .nil))) (.ofEq ?_)) (by simp) hou ⟨ou, fun _ _ h => h, rfl, rfl⟩
    unfold renewE
    rw [if_pos h]; rfl
  have h : check e = 0 := by simpa using hb
  have t1 := body_isTree h
  have hgt := he.t t1.k t1.ne
  have hre : renewE e f = if f < 0 ∨ 1048576 < f then ([], 4) else if 1048576 < (rnT (fun _ => none) f (grow e)).2.2 then ([], 4) else (listT [] (rnT (fun _ => none) f (grow e)).1, 0) := by
    unfold renewE
    rw [if_neg (by simpa using h)]
  rw [hre]
  clear hre
  repeat first | (with_reducible refine oj ?_; refine AOps.auto tabOk rfl ?_) | (with_reducible first | refine o1 ?_ | refine o2 ?_ | refine o3 ?_ | refine o4 ?_ | refine o5 ?_ | refine o6 ?_ | refine o7 ?_ | refine o8 ?_ | refine o9 ?_ | refine oa ?_ | refine ob ?_ | refine oc ?_ | refine od ?_ | refine oe ?_ | refine og ?_ | refine oh ?_ | refine oi ?_) | (with_reducible refine cExitMiss ?_ ?_; rfl) | (with_reducible refine ok ?_; first | refine ACode.condT rfl ?_ | refine ACode.condF rfl ?_)
  refine AOps.call1 hΓc rfl rfl rfl rfl rfl rfl rfl (by simp) hou (GrowN_ok hΓc e he.eo t1.k t1 ou) fun r ov hq hids hov => ?_
  obtain ⟨t, rfl, her, hok, hown, hnd, hnew, _, hold⟩ := hq
  have hfin : ∀ {ou' : Outer}, (∀ j, j ∉ keys (objs t) → ou' j = ov j) → ∀ m o, ou m = some o → ou' m = some o := fun {ou'} hu m o hm => by
    rw [hu m fun hk => by rw [hnew m hk] at hm; cases hm]
    exact hold m o hm
  have hnb : (nbL t : Int) = nbE e := by rw [nbL_er, her]; rfl
  have hnl := nb_le he t1
  repeat first | (with_reducible refine oj ?_; refine AOps.auto tabOk rfl ?_) | (with_reducible first | refine o1 ?_ | refine o2 ?_ | refine o3 ?_ | refine o4 ?_ | refine o5 ?_ | refine o6 ?_ | refine o7 ?_ | refine o8 ?_ | refine o9 ?_ | refine oa ?_ | refine ob ?_ | refine oc ?_ | refine od ?_ | refine oe ?_ | refine og ?_ | refine oh ?_ | refine oi ?_) | (with_reducible refine cExitMiss ?_ ?_; rfl) | (with_reducible refine ok ?_; first | refine ACode.condT rfl ?_ | refine ACode.condF rfl ?_)
  refine AOps.splitS rfl rfl rfl rfl (fun hb2 => ?_) (fun hb2 => ?_)
  · have h2 : f < 0 := by simpa using hb2
    rw [if_pos (.inl h2)]
    repeat' first | (with_reducible refine oj ?_; refine AOps.auto tabOk rfl ?_) | (with_reducible first | refine o1 ?_ | refine o2 ?_ | refine o3 ?_ | refine o4 ?_ | refine o5 ?_ | refine o6 ?_ | refine o7 ?_ | refine o8 ?_ | refine o9 ?_ | refine oa ?_ | refine ob ?_ | refine oc ?_ | refine od ?_ | refine oe ?_ | refine og ?_ | refine oh ?_ | refine oi ?_) | (with_reducible refine cExitMiss ?_ ?_; rfl) | (with_reducible refine ok ?_; first | refine ACode.condT rfl ?_ | refine ACode.condF rfl ?_) | (with_reducible refine oj ?_; first | refine AOps.step1 rfl rfl rfl (AStep.arith rfl rfl rfl (.inl ⟨rfl, rfl⟩) (inRange_i64 (by first | omega | (simp; omega)) (by first | omega | (simp; omega)))) ?_ | refine AOps.step1 rfl rfl rfl (AStep.arith rfl rfl rfl (.inr (.inl ⟨rfl, rfl⟩)) (inRange_i64 (by first | omega | (simp; omega)) (by first | omega | (simp; omega)))) ?_ | refine AOps.step1 rfl rfl rfl (AStep.neBool Tryd.underlying4 rfl rfl rfl) ?_ | refine AOps.step1 rfl rfl rfl (AStep.eqBool Tryd.underlying4 rfl rfl rfl) ?_ | refine AOps.step1 rfl rfl rfl (AStep.max2 (t := 3) (ty := 3) rfl rfl rfl) ?_ | refine AOps.step1 rfl rfl rfl (AStep.min2 (t := 3) (ty := 3) rfl rfl rfl) ?_ | refine AOps.unG rfl rfl rfl ?_)
    exact AFn.fin' rfl (WkF.tup (.cons (.one (.nilS 5)) (.cons (.refl _) .nil))) (by simp) hov ⟨ou, hfin fun _ _ => rfl, rfl, rfl⟩
  have h2 : ¬ f < 0 := by simpa using hb2
  repeat' first | (with_reducible refine oj ?_; refine AOps.auto tabOk rfl ?_) | (with_reducible first | refine o1 ?_ | refine o2 ?_ | refine o3 ?_ | refine o4 ?_ | refine o5 ?_ | refine o6 ?_ | refine o7 ?_ | refine o8 ?_ | refine o9 ?_ | refine oa ?_ | refine ob ?_ | refine oc ?_ | refine od ?_ | refine oe ?_ | refine og ?_ | refine oh ?_ | refine oi ?_) | (with_reducible refine cExitMiss ?_ ?_; rfl) | (with_reducible refine ok ?_; first | refine ACode.condT rfl ?_ | refine ACode.condF rfl ?_) | (with_reducible refine oj ?_; first | refine AOps.step1 rfl rfl rfl (AStep.arith rfl rfl rfl (.inl ⟨rfl, rfl⟩) (inRange_i64 (by first | omega | (simp; omega)) (by first | omega | (simp; omega)))) ?_ | refine AOps.step1 rfl rfl rfl (AStep.arith rfl rfl rfl (.inr (.inl ⟨rfl, rfl⟩)) (inRange_i64 (by first | omega | (simp; omega)) (by first | omega | (simp; omega)))) ?_ | refine AOps.step1 rfl rfl rfl (AStep.neBool Tryd.underlying4 rfl rfl rfl) ?_ | refine AOps.step1 rfl rfl rfl (AStep.eqBool Tryd.underlying4 rfl rfl rfl) ?_ | refine AOps.step1 rfl rfl rfl (AStep.max2 (t := 3) (ty := 3) rfl rfl rfl) ?_ | refine AOps.step1 rfl rfl rfl (AStep.min2 (t := 3) (ty := 3) rfl rfl rfl) ?_ | refine AOps.unG rfl rfl rfl ?_)
  refine ACode.cond rfl (fun hb3 => ?_) (fun hb3 => ?_)
  · have h3 : 1048576 < f := by simpa using hb3
    rw [if_pos (.inr h3)]
    repeat' first | (with_reducible refine oj ?_; refine AOps.auto tabOk rfl ?_) | (with_reducible first | refine o1 ?_ | refine o2 ?_ | refine o3 ?_ | refine o4 ?_ | refine o5 ?_ | refine o6 ?_ | refine o7 ?_ | refine o8 ?_ | refine o9 ?_ | refine oa ?_ | refine ob ?_ | refine oc ?_ | refine od ?_ | refine oe ?_ | refine og ?_ | refine oh ?_ | refine oi ?_) | (with_reducible refine cExitMiss ?_ ?_; rfl) | (with_reducible refine ok ?_; first | refine ACode.condT rfl ?_ | refine ACode.condF rfl ?_) | (with_reducible refine oj ?_; first | refine AOps.step1 rfl rfl rfl (AStep.arith rfl rfl rfl (.inl ⟨rfl, rfl⟩) (inRange_i64 (by first | omega | (simp; omega)) (by first | omega | (simp; omega)))) ?_ | refine AOps.step1 rfl rfl rfl (AStep.arith rfl rfl rfl (.inr (.inl ⟨rfl, rfl⟩)) (inRange_i64 (by first | omega | (simp; omega)) (by first | omega | (simp; omega)))) ?_ | refine AOps.step1 rfl rfl rfl (AStep.neBool Tryd.underlying4 rfl rfl rfl) ?_ | refine AOps.step1 rfl rfl rfl (AStep.eqBool Tryd.underlying4 rfl rfl rfl) ?_ | refine AOps.step1 rfl rfl rfl (AStep.max2 (t := 3) (ty := 3) rfl rfl rfl) ?_ | refine AOps.step1 rfl rfl rfl (AStep.min2 (t := 3) (ty := 3) rfl rfl rfl) ?_ | refine AOps.unG rfl rfl rfl ?_)
    exact AFn.fin' rfl (WkF.tup (.cons (.one (.nilS 5)) (.cons (.refl _) .nil))) (by simp) hov ⟨ou, hfin fun _ _ => rfl, rfl, rfl⟩
  have h3 : ¬ 1048576 < f := by simpa using hb3
  rw [if_neg (by omega)]
  have hrf := rnL_er t nm0 f
  rw [her] at hrf
  repeat' first | (with_reducible refine oj ?_; refine AOps.auto tabOk rfl ?_) | (with_reducible first | refine o1 ?_ | refine o2 ?_ | refine o3 ?_ | refine o4 ?_ | refine o5 ?_ | refine o6 ?_ | refine o7 ?_ | refine o8 ?_ | refine o9 ?_ | refine oa ?_ | refine ob ?_ | refine oc ?_ | refine od ?_ | refine oe ?_ | refine og ?_ | refine oh ?_ | refine oi ?_) | (with_reducible refine cExitMiss ?_ ?_; rfl) | (with_reducible refine ok ?_; first | refine ACode.condT rfl ?_ | refine ACode.condF rfl ?_) | (with_reducible refine oj ?_; first | refine AOps.step1 rfl rfl rfl (AStep.arith rfl rfl rfl (.inl ⟨rfl, rfl⟩) (inRange_i64 (by first | omega | (simp; omega)) (by first | omega | (simp; omega)))) ?_ | refine AOps.step1 rfl rfl rfl (AStep.arith rfl rfl rfl (.inr (.inl ⟨rfl, rfl⟩)) (inRange_i64 (by first | omega | (simp; omega)) (by first | omega | (simp; omega)))) ?_ | refine AOps.step1 rfl rfl rfl (AStep.neBool Tryd.underlying4 rfl rfl rfl) ?_ | refine AOps.step1 rfl rfl rfl (AStep.eqBool Tryd.underlying4 rfl rfl rfl) ?_ | refine AOps.step1 rfl rfl rfl (AStep.max2 (t := 3) (ty := 3) rfl rfl rfl) ?_ | refine AOps.step1 rfl rfl rfl (AStep.min2 (t := 3) (ty := 3) rfl rfl rfl) ?_ | refine AOps.unG rfl rfl rfl ?_)
  refine AOps.call1 hΓc rfl rfl rfl rfl rfl rfl rfl (by exact ⟨trivial, trivial, trivial⟩) hov (Rename_ok hΓc t hok ov hown hnd f (by omega) (by omega) hov) fun r ow hq hids how => ?_
  obtain ⟨rfl, hO, hok2, hfr⟩ := hq
  rw [hrf.2]
  obtain ⟨T, hTe⟩ : ∃ T, T = rnT nm0 f (grow e) := ⟨_, rfl⟩
  rw [← hTe] at hrf ⊢
  repeat' first | (with_reducible refine oj ?_; refine AOps.auto tabOk rfl ?_) | (with_reducible first | refine o1 ?_ | refine o2 ?_ | refine o3 ?_ | refine o4 ?_ | refine o5 ?_ | refine o6 ?_ | refine o7 ?_ | refine o8 ?_ | refine o9 ?_ | refine oa ?_ | refine ob ?_ | refine oc ?_ | refine od ?_ | refine oe ?_ | refine og ?_ | refine oh ?_ | refine oi ?_) | (with_reducible refine cExitMiss ?_ ?_; rfl) | (with_reducible refine ok ?_; first | refine ACode.condT rfl ?_ | refine ACode.condF rfl ?_) | (with_reducible refine oj ?_; first | refine AOps.step1 rfl rfl rfl (AStep.arith rfl rfl rfl (.inl ⟨rfl, rfl⟩) (inRange_i64 (by first | omega | (simp; omega)) (by first | omega | (simp; omega)))) ?_ | refine AOps.step1 rfl rfl rfl (AStep.arith rfl rfl rfl (.inr (.inl ⟨rfl, rfl⟩)) (inRange_i64 (by first | omega | (simp; omega)) (by first | omega | (simp; omega)))) ?_ | refine AOps.step1 rfl rfl rfl (AStep.neBool Tryd.underlying4 rfl rfl rfl) ?_ | refine AOps.step1 rfl rfl rfl (AStep.eqBool Tryd.underlying4 rfl rfl rfl) ?_ | refine AOps.step1 rfl rfl rfl (AStep.max2 (t := 3) (ty := 3) rfl rfl rfl) ?_ | refine AOps.step1 rfl rfl rfl (AStep.min2 (t := 3) (ty := 3) rfl rfl rfl) ?_ | refine AOps.unG rfl rfl rfl ?_)
  refine ACode.cond rfl (fun hb4 => ?_) (fun hb4 => ?_)
  · have h4 : 1048576 < T.2.2 := by simpa using hb4
    rw [if_pos h4]
    repeat' first | (with_reducible refine oj ?_; refine AOps.auto tabOk rfl ?_) | (with_reducible first | refine o1 ?_ | refine o2 ?_ | refine o3 ?_ | refine o4 ?_ | refine o5 ?_ | refine o6 ?_ | refine o7 ?_ | refine o8 ?_ | refine o9 ?_ | refine oa ?_ | refine ob ?_ | refine oc ?_ | refine od ?_ | refine oe ?_ | refine og ?_ | refine oh ?_ | refine oi ?_) | (with_reducible refine cExitMiss ?_ ?_; rfl) | (with_reducible refine ok ?_; first | refine ACode.condT rfl ?_ | refine ACode.condF rfl ?_) | (with_reducible refine oj ?_; first | refine AOps.step1 rfl rfl rfl (AStep.arith rfl rfl rfl (.inl ⟨rfl, rfl⟩) (inRange_i64 (by first | omega | (simp; omega)) (by first | omega | (simp; omega)))) ?_ | refine AOps.step1 rfl rfl rfl (AStep.arith rfl rfl rfl (.inr (.inl ⟨rfl, rfl⟩)) (inRange_i64 (by first | omega | (simp; omega)) (by first | omega | (simp; omega)))) ?_ | refine AOps.step1 rfl rfl rfl (AStep.neBool Tryd.underlying4 rfl rfl rfl) ?_ | refine AOps.step1 rfl rfl rfl (AStep.eqBool Tryd.underlying4 rfl rfl rfl) ?_ | refine AOps.step1 rfl rfl rfl (AStep.max2 (t := 3) (ty := 3) rfl rfl rfl) ?_ | refine AOps.step1 rfl rfl rfl (AStep.min2 (t := 3) (ty := 3) rfl rfl rfl) ?_ | refine AOps.unG rfl rfl rfl ?_)
    exact AFn.fin' rfl (WkF.tup (.cons (.one (.nilS 5)) (.cons (.refl _) .nil))) (by simp) hok2 ⟨ou, hfin hfr, rfl, rfl⟩
  have h4 : ¬ 1048576 < T.2.2 := by simpa using hb4
  rw [if_neg h4]
  have hcl : (listT [] T.1).length ≤ 1048576 := by
    have h5 := cntN_list T.1 []
    have h6 := cntN_list (grow e) []
    have h7 := len_list h
    rw [hTe, rnT_cnt] at h5
    simp only [List.length_nil] at h5 h6
    rw [hTe]; omega
  repeat' first | (with_reducible refine oj ?_; refine AOps.auto tabOk rfl ?_) | (with_reducible first | refine o1 ?_ | refine o2 ?_ | refine o3 ?_ | refine o4 ?_ | refine o5 ?_ | refine o6 ?_ | refine o7 ?_ | refine o8 ?_ | refine o9 ?_ | refine oa ?_ | refine ob ?_ | refine oc ?_ | refine od ?_ | refine oe ?_ | refine og ?_ | refine oh ?_ | refine oi ?_) | (with_reducible refine cExitMiss ?_ ?_; rfl) | (with_reducible refine ok ?_; first | refine ACode.condT rfl ?_ | refine ACode.condF rfl ?_) | (with_reducible refine oj ?_; first | refine AOps.step1 rfl rfl rfl (AStep.arith rfl rfl rfl (.inl ⟨rfl, rfl⟩) (inRange_i64 (by first | omega | (simp; omega)) (by first | omega | (simp; omega)))) ?_ | refine AOps.step1 rfl rfl rfl (AStep.arith rfl rfl rfl (.inr (.inl ⟨rfl, rfl⟩)) (inRange_i64 (by first | omega | (simp; omega)) (by first | omega | (simp; omega)))) ?_ | refine AOps.step1 rfl rfl rfl (AStep.neBool Tryd.underlying4 rfl rfl rfl) ?_ | refine AOps.step1 rfl rfl rfl (AStep.eqBool Tryd.underlying4 rfl rfl rfl) ?_ | refine AOps.step1 rfl rfl rfl (AStep.max2 (t := 3) (ty := 3) rfl rfl rfl) ?_ | refine AOps.step1 rfl rfl rfl (AStep.min2 (t := 3) (ty := 3) rfl rfl rfl) ?_ | refine AOps.unG rfl rfl rfl ?_)
  refine AOps.freezeT (t := (rnL nm0 f t).1) 25 hO (by rw [rnL_k]; exact hnd) (by rw [rnL_id]; rfl) ?_
  rw [hrf.1, rnL_k]
  have hokd : OuOk (deadL ow (keys (objs t))) := fun m o hm => by
    unfold deadL at hm
    split at hm
    · cases hm; trivial
    · exact hok2 m o hm
  refine AOps.callC hΓc (List_ok hΓc T.1 (by rw [hTe]; exact rnT_ok _ _ _ hgt) hcl) rfl rfl rfl rfl rfl rfl rfl hokd (by simp) ?_
  repeat first | (with_reducible refine oj ?_; refine AOps.auto tabOk rfl ?_) | (with_reducible first | refine o1 ?_ | refine o2 ?_ | refine o3 ?_ | refine o4 ?_ | refine o5 ?_ | refine o6 ?_ | refine o7 ?_ | refine o8 ?_ | refine o9 ?_ | refine oa ?_ | refine ob ?_ | refine oc ?_ | refine od ?_ | refine oe ?_ | refine og ?_ | refine oh ?_ | refine oi ?_) | (with_reducible refine cExitMiss ?_ ?_; rfl) | (with_reducible refine ok ?_; first | refine ACode.condT rfl ?_ | refine ACode.condF rfl ?_)
  refine AFn.fin' rfl (WkF.ofEq rfl) (by simp) hokd ⟨ou, fun m o hm => ?_, rfl, rfl⟩
  show deadL ow (keys (objs t)) m = some o
  unfold deadL
  rw [if_neg fun hk => by rw [hnew m hk] at hm; cases hm]
  exact hfin hfr m o hm
end Go.Proofs.YtnonkoeknpmcjaaDoor
/- Renaming gives the same expression, and a valid one. No condition. -/
namespace Go.CoreX
set_option linter.unusedVariables false
set_option linter.unusedSimpArgs false
-- What holds of all nodes.
mutual
def allT (p : Lab → Prop) : Tr → Prop
  | .mk o n b k a => p ⟨o, n, b, k.map Tr.op, a⟩ ∧ allTs p k
def allTs (p : Lab → Prop) : List Tr → Prop
  | [] => True
  | t :: l => allT p t ∧ allTs p l
end
theorem allTs_iff {p : Lab → Prop} : ∀ {l : List Tr}, allTs p l ↔ ∀ t ∈ l, allT p t
  | [] => by simp [allTs]
  | t :: l => by simp [allTs, allTs_iff (l := l)]
theorem allT_at {e : List Ex} (hk : kidsIn e) {p : Lab → Prop} (h : ∀ x ∈ e, p (labE e x)) : ∀ (n i : Nat), i < n → i < e.length → allT p (treeAt e i)
  | 0, i, hi, _ => by omega
  | n + 1, i, hi, hl => by
    obtain ⟨x, hx⟩ : ∃ x, e[i]? = some x := ⟨e[i], List.getElem?_eq_getElem hl⟩
    rw [treeAt_node hk hx]
    refine ⟨?_, allTs_iff.2 fun t ht => ?_⟩
    · have := h x (List.mem_of_getElem? hx)
      simp only [labE] at this
      simp only [List.map_map]
      exact this
    · obtain ⟨q, hq, rfl⟩ := List.mem_map.1 ht
      have := hk i x hx q hq
      exact allT_at hk h n q.toNat (by omega) (by omega)
theorem allT_grow {e : List Ex} (h : IsTree e) {p : Lab → Prop} (hp : ∀ x ∈ e, p (labE e x)) : allT p (grow e) := by
  have := List.length_pos_iff.2 h.ne
  exact allT_at h.k hp _ (e.length - 1) (Nat.lt_succ_self _) (by omega)
/-- The shape of a node as far as renaming looks at it. -/
structure shLab (l : Lab) : Prop where
  b : l.op = 2 ∨ l.op = 4 ∨ l.op = 5 ∨ l.op = 9 ∨ l.binds = []
  v : l.op = 0 → l.alts = [] ∧ l.ops = []
theorem shLab_of {x : Ex} (h : shape x = true) (e : List Ex) : shLab (labE e x) := by
  unfold shape at h
  split at h
  · rename_i h7
    simp only [Bool.and_eq_true, beq_iff_eq] at h
    refine ⟨by simp only [labE]; exact .inr (.inr (.inr (.inr (List.length_eq_zero_iff.1 h.1.2)))), fun h0 => ?_⟩
    simp only [labE] at h0
    omega
  · rename_i h7
    cases hw : wants x with
    | none => rw [hw] at h; simp at h
    | some w =>
      obtain ⟨k, b, u⟩ := w
      rw [hw] at h
      simp only [Bool.and_eq_true, beq_iff_eq] at h
      obtain ⟨⟨⟨h1, h2⟩, h3⟩, _⟩ := h
      have ha : x.alts = [] := List.length_eq_zero_iff.1 h3
      refine ⟨?_, fun h0 => ?_⟩
      · simp only [labE]
        by_cases e2 : x.op = 2; · exact .inl e2
        by_cases e4 : x.op = 4; · exact .inr (.inl e4)
        by_cases e5 : x.op = 5; · exact .inr (.inr (.inl e5))
        by_cases e9 : x.op = 9; · exact .inr (.inr (.inr (.inl e9)))
        right; right; right; right
        have hb : b = 0 := by
          unfold wants at hw
          simp only [e2, e4, e5, e9, if_false] at hw
          repeat' split at hw
          all_goals first
            | (cases hw; rfl)
            | (cases hw; done)
        exact List.length_eq_zero_iff.1 (by omega)
      · simp only [labE] at h0 ⊢
        refine ⟨ha, ?_⟩
        unfold wants at hw
        rw [if_pos (.inl h0)] at hw
        cases hw
        have : x.kids = [] := List.length_eq_zero_iff.1 (by omega)
        rw [this]; rfl
theorem check_shape {e : List Ex} (h : check e = 0) : allT shLab (grow e) := allT_grow (body_isTree h) fun x hx => shLab_of (shape_of h x hx) e
-- The same up to renaming.
theorem rnTA_l : ∀ (a : List Alt) (nm : Nm) (f : Int), (rnTA nm f a).1.length = a.length
  | [], _, _ => rfl
  | x :: l, nm, f => by simp [rnTA, rnTA_l l]
theorem putsN_app : ∀ (l l' r r' : List Int) (m : Nm), l.length = l'.length → putsN m (l ++ r) (l' ++ r') = putsN (putsN m l l') r r'
  | [], [], r, r', m, _ => rfl
  | [], _ :: _, _, _, _, h => by simp at h
  | _ :: _, [], _, _, _, h => by simp at h
  | x :: l, y :: l', r, r', m, h => by
    simp only [List.cons_append, putsN]
    exact putsN_app l l' r r' _ (by simpa using h)
theorem rnTA_puts : ∀ (a : List Alt) (nm : Nm) (f : Int), (rnTA nm f a).2.1 = putsN nm (a.flatMap (·.binds)) ((rnTA nm f a).1.flatMap (·.binds))
  | [], _, _ => rfl
  | x :: l, nm, f => by
    simp only [rnTA, List.flatMap_cons]
    rw [putsN_app _ _ _ _ _ (frB_len f x.binds).symm, rnTA_puts l]
    rfl
theorem ren1_puts {o : Int} {b : List Int} (h : o = 2 ∨ o = 4 ∨ o = 5 ∨ o = 9 ∨ b = []) (nm : Nm) (f : Int) : (ren1 o nm f b).2.1 = putsN nm (if o = 2 ∨ o = 4 ∨ o = 5 then b else []) (if o = 2 ∨ o = 4 ∨ o = 5 then (ren1 o nm f b).1 else []) := by
  unfold ren1
  by_cases e9 : o = 9
  · subst e9
    simp [putsN]
  · rw [if_neg e9]
    by_cases e : o = 2 ∨ o = 4 ∨ o = 5
    · rw [if_pos e, if_pos e]; rfl
    · rw [if_neg e, if_neg e]
      have : b = [] := by
        rcases h with h | h | h | h | h
        · exact absurd (.inl h) e
        · exact absurd (.inr (.inl h)) e
        · exact absurd (.inr (.inr h)) e
        · exact absurd h e9
        · exact h
      subst this; rfl
/-- The map behind a node's own binders. -/
def nmAt (o : Int) (nm : Nm) (f : Int) (b : List Int) (a : List Alt) : Nm × Int := (rnTA (ren1 o nm f b).2.1 (ren1 o nm f b).2.2 a).2
theorem nmAt_puts {o n : Int} {b : List Int} {a : List Alt} {ops : List Int} (h : shLab ⟨o, n, b, ops, a⟩) (nm : Nm) (f : Int) :
    (nmAt o nm f b a).1 = putsN nm (bindersN o b a) (bindersN o (ren1 o nm f b).1 (rnTA (ren1 o nm f b).2.1 (ren1 o nm f b).2.2 a).1) := by
  have h1 := ren1_puts (o := o) (b := b) (by have := h.b; simpa using this) nm f
  unfold nmAt bindersN
  rw [putsN_app _ _ _ _ _ (by split <;> simp [ren1_len]), ← h1, rnTA_puts]
theorem rnT_op (t : Tr) (nm : Nm) (f : Int) : (rnT nm f t).1.op = t.op := by cases t; rfl
theorem rnTs_ops : ∀ (l : List Tr) (nm : Nm) (f : Int), (rnTs nm f l).1.map Tr.op = l.map Tr.op
  | [], _, _ => rfl
  | t :: l, nm, f => by simp only [rnTs, List.map_cons, rnT_op, rnTs_ops l]
end Go.CoreX
/- The identifiers of a renamed expression; it is closed. No condition. -/
namespace Go.CoreX
set_option linter.unusedVariables false
set_option linter.unusedSimpArgs false
def ind (a b k : Int) : Int := if a ≤ k ∧ k < b then 1 else 0
theorem ind_add {a b c : Int} (k : Int) (h1 : a ≤ b) (h2 : b ≤ c) : ind a b k + ind b c k = ind a c k := by
  unfold ind
  split <;> split <;> split <;> omega
theorem ind_nil (a k : Int) : ind a a k = 0 := by unfold ind; rw [if_neg (by omega)]
def cntB (k : Int) (l : Lab) : Int := ((bindersN l.op l.binds l.alts).count k : Nat)
theorem frB_count (f k : Int) (l : List Int) : (((frB f l).count k : Nat) : Int) = ind f (f + l.length) k := by
  unfold frB
  generalize l.length = n
  induction n with
  | zero => simp [ind_nil]
  | succ n ih =>
    rw [List.range_succ, List.map_append, List.count_append]
    push_cast
    rw [ih]
    simp only [List.map_cons, List.map_nil, List.count_singleton]
    unfold ind
    by_cases h : f + (n : Int) = k
    · subst h
      simp
      omega
    · have h2 : (f + (n : Int) == k) = false := by simpa using h
      rw [h2]
      simp only [Bool.false_eq_true, if_false]
      split <;> split <;> omega
theorem rnTA_f : ∀ (a : List Alt) (nm : Nm) (f : Int), (rnTA nm f a).2.2 = f + ((a.map fun x => x.binds.length).sum : Nat)
  | [], _, _ => by simp [rnTA]
  | x :: l, nm, f => by simp only [rnTA, rnTA_f l, List.map_cons, List.sum_cons]; push_cast; omega
theorem rnTA_count (k : Int) : ∀ (a : List Alt) (nm : Nm) (f : Int), ((((rnTA nm f a).1.flatMap (·.binds)).count k : Nat) : Int) = ind f (rnTA nm f a).2.2 k
  | [], nm, f => by simp [rnTA, ind_nil]
  | x :: l, nm, f => by
    have ih := rnTA_count k l (frN nm f x.binds) (f + x.binds.length)
    simp only [rnTA, List.flatMap_cons, List.count_append]
    push_cast
    rw [ih, frB_count, ind_add k (by omega) (by rw [rnTA_f]; omega)]
theorem ren1_f' (o : Int) (nm : Nm) (f : Int) (b : List Int) : f ≤ (ren1 o nm f b).2.2 := by rw [ren1_f]; omega
mutual
theorem rnT_f : ∀ (t : Tr) (nm : Nm) (f : Int), f ≤ (rnT nm f t).2.2
  | .mk o n b k a, nm, f => by
    have h1 := ren1_f' o nm f b
    have h2 := rnTA_f a (ren1 o nm f b).2.1 (ren1 o nm f b).2.2
    have h3 := rnTs_f k (rnTA (ren1 o nm f b).2.1 (ren1 o nm f b).2.2 a).2.1 (rnTA (ren1 o nm f b).2.1 (ren1 o nm f b).2.2 a).2.2
    simp only [rnT]; omega
theorem rnTs_f : ∀ (l : List Tr) (nm : Nm) (f : Int), f ≤ (rnTs nm f l).2.2
  | [], _, f => by simp [rnTs]
  | t :: l, nm, f => by
    have h1 := rnT_f t nm f
    have h2 := rnTs_f l (rnT nm f t).2.1 (rnT nm f t).2.2
    simp only [rnTs]; omega
end
mutual
theorem rnT_count (k : Int) : ∀ (t : Tr) (nm : Nm) (f : Int), allT shLab t → sumT (cntB k) (rnT nm f t).1 = ind f (rnT nm f t).2.2 k
  | .mk o n b ks a, nm, f, h => by
    obtain ⟨h1, h2⟩ := h
    have hk := rnTs_count k ks (rnTA (ren1 o nm f b).2.1 (ren1 o nm f b).2.2 a).2.1 (rnTA (ren1 o nm f b).2.1 (ren1 o nm f b).2.2 a).2.2 h2
    have ha := rnTA_count k a (ren1 o nm f b).2.1 (ren1 o nm f b).2.2
    have hf1 := ren1_f' o nm f b
    have hf2 := rnTA_f a (ren1 o nm f b).2.1 (ren1 o nm f b).2.2
    have hf3 := rnTs_f ks (rnTA (ren1 o nm f b).2.1 (ren1 o nm f b).2.2 a).2.1 (rnTA (ren1 o nm f b).2.1 (ren1 o nm f b).2.2 a).2.2
    simp only [rnT, sumT, cntB, bindersN, List.count_append]
    push_cast
    rw [hk, ha]
    have hb : (((if o = 2 ∨ o = 4 ∨ o = 5 then (ren1 o nm f b).1 else []).count k : Nat) : Int) = ind f (ren1 o nm f b).2.2 k := by
      have hs := h1.b
      simp only at hs
      by_cases e : o = 2 ∨ o = 4 ∨ o = 5
      · rw [if_pos e]
        have e9 : o ≠ 9 := by omega
        unfold ren1
        rw [if_neg e9]
        exact frB_count f k b
      · rw [if_neg e]
        unfold ren1
        by_cases e9 : o = 9
        · rw [if_pos e9]; simp [ind_nil]
        · rw [if_neg e9]
          have : b = [] := by
            rcases hs with h | h | h | h | h
            · exact absurd (.inl h) e
            · exact absurd (.inr (.inl h)) e
            · exact absurd (.inr (.inr h)) e
            · exact absurd h e9
            · exact h
          subst this
          simp [ind_nil]
    rw [hb, ind_add k hf1 (by omega), ind_add k (by omega) hf3]
theorem rnTs_count (k : Int) : ∀ (l : List Tr) (nm : Nm) (f : Int), allTs shLab l → sumTs (cntB k) (rnTs nm f l).1 = ind f (rnTs nm f l).2.2 k
  | [], nm, f, _ => by simp [rnTs, sumTs, ind_nil]
  | t :: l, nm, f, h => by
    have h1 := rnT_count k t nm f h.1
    have h2 := rnTs_count k l (rnT nm f t).2.1 (rnT nm f t).2.2 h.2
    simp only [rnTs, sumTs, h1, h2]
    exact ind_add k (rnT_f t nm f) (rnTs_f l _ _)
end
theorem binders_count (k : Int) (T : Tr) : (((allBinders (listT [] T)).count k : Nat) : Int) = sumT (cntB k) T := by
  rw [allBinders_labs, count_flat]
  have := sum_tree (cntB k) (isTree_list T)
  rw [grow_list] at this
  rw [← this]; rfl
theorem rn_binders {T : Tr} (h : allT shLab T) (nm : Nm) (f k : Int) : (((allBinders (listT [] (rnT nm f T).1)).count k : Nat) : Int) = ind f (rnT nm f T).2.2 k := by
  rw [binders_count, rnT_count k T nm f h]
theorem rn_nodup {T : Tr} (h : allT shLab T) (nm : Nm) (f : Int) : (allBinders (listT [] (rnT nm f T).1)).Nodup := by
  rw [List.nodup_iff_count]
  intro k
  have := rn_binders h nm f k
  unfold ind at this
  split at this <;> omega
-- Depth.
mutual
theorem rnT_depth : ∀ (t : Tr) (nm : Nm) (f : Int), depthT (rnT nm f t).1 = depthT t
  | .mk o n b k a, nm, f => by simp only [rnT, depthT, rnTs_depth k]
theorem rnTs_depth : ∀ (l : List Tr) (nm : Nm) (f : Int), depthTs (rnTs nm f l).1 = depthTs l
  | [], _, _ => rfl
  | t :: l, nm, f => by simp only [rnTs, depthTs, rnT_depth t, rnTs_depth l]
end
-- Names that a tree does not bind keep their new names.
mutual
def bndT : Tr → List Int
  | .mk o _ b k a => bindersN o b a ++ bndTs k
def bndTs : List Tr → List Int
  | [] => []
  | t :: l => bndT t ++ bndTs l
end
theorem putsN_other : ∀ (l r : List Int) (m : Nm) (k : Int), k ∉ l → putsN m l r k = m k
  | [], _, _, _, _ => rfl
  | _ :: _, [], _, _, _ => rfl
  | x :: l, y :: r, m, k, h => by
    simp only [List.mem_cons, not_or] at h
    simp only [putsN]
    rw [putsN_other l r _ k h.2]
    unfold setN
    rw [if_neg (Ne.symm h.1)]
mutual
theorem rnT_keep (k : Int) : ∀ (t : Tr) (nm : Nm) (f : Int), allT shLab t → k ∉ bndT t → (rnT nm f t).2.1 k = nm k
  | .mk o n b ks a, nm, f, h, hk => by
    simp only [bndT, List.mem_append, not_or] at hk
    have h1 := rnTs_keep k ks (nmAt o nm f b a).1 (nmAt o nm f b a).2 h.2 hk.2
    have h2 := nmAt_puts h.1 nm f
    show (rnTs (nmAt o nm f b a).1 (nmAt o nm f b a).2 ks).2.1 k = _
    rw [h1, h2, putsN_other _ _ _ _ hk.1]
theorem rnTs_keep (k : Int) : ∀ (l : List Tr) (nm : Nm) (f : Int), allTs shLab l → k ∉ bndTs l → (rnTs nm f l).2.1 k = nm k
  | [], _, _, _, _ => rfl
  | t :: l, nm, f, h, hk => by
    simp only [bndTs, List.mem_append, not_or] at hk
    simp only [rnTs]
    rw [rnTs_keep k l _ _ h.2 hk.2, rnT_keep k t nm f h.1 hk.1]
end
theorem putsN_at : ∀ {l r : List Int} {m : Nm} {j : Nat} {k : Int}, l.Nodup → l.length = r.length → l[j]? = some k → putsN m l r k = r[j]?
  | [], _, _, _, _, _, _, h => by simp at h
  | _ :: _, [], _, _, _, _, h, _ => by simp at h
  | x :: l, y :: r, m, j, k, hn, hl, h => by
    simp only [List.nodup_cons] at hn
    simp only [putsN]
    cases j with
    | zero =>
      simp at h; subst h
      rw [putsN_other _ _ _ _ hn.1]
      simp [setN]
    | succ j => simpa using putsN_at (m := setN m x y) hn.2 (by simpa using hl) (by simpa using h)
theorem bound_sub {o : Int} {b : List Int} {a : List Alt} {j k : Int} (h : k ∈ boundN o b a j) : k ∈ bindersN o b a := by
  unfold boundN at h
  unfold bindersN
  split at h
  · rename_i e
    rw [if_pos (by omega)]
    exact List.mem_append.2 (.inl h)
  · split at h
    · rename_i e1 e2
      refine List.mem_append.2 (.inr (List.mem_flatMap.2 ⟨_, ?_, h⟩))
      have hl : (j - 1).toNat < a.length := by omega
      rw [List.getD_eq_getElem?_getD, List.getElem?_eq_getElem hl]
      exact List.getElem_mem hl
    · simp at h
theorem frN_at {nm : Nm} {f k : Int} {b : List Int} (hn : b.Nodup) (h : k ∈ b) : ∃ v, frN nm f b k = some v ∧ v ∈ frB f b := by
  obtain ⟨j, hj⟩ := List.mem_iff_getElem?.1 h
  have hlt := (List.getElem?_eq_some_iff.1 hj).1
  have := putsN_at (m := nm) (r := frB f b) hn (frB_len f b).symm hj
  rw [frB_get hlt] at this
  exact ⟨_, this, List.mem_of_getElem? (frB_get hlt)⟩
theorem rnTA_at : ∀ {a : List Alt} {nm : Nm} {f k : Int} {q : Nat} {x : Alt}, (a.flatMap (·.binds)).Nodup → a[q]? = some x → k ∈ x.binds → ∃ v y, (rnTA nm f a).2.1 k = some v ∧ (rnTA nm f a).1[q]? = some y ∧ v ∈ y.binds
  | [], _, _, _, _, _, _, h, _ => by simp at h
  | z :: l, nm, f, k, q, x, hn, hx, hk => by
    simp only [List.flatMap_cons, List.nodup_append] at hn
    cases q with
    | zero =>
      simp at hx; subst hx
      obtain ⟨v, h1, h2⟩ := frN_at (nm := nm) (f := f) hn.1 hk
      refine ⟨v, ⟨z.tag, frB f z.binds⟩, ?_, rfl, h2⟩
      simp only [rnTA]
      rw [rnTA_puts, putsN_other _ _ _ _ (fun hm => hn.2.2 k hk k hm rfl)]
      exact h1
    | succ q =>
      obtain ⟨v, y, h1, h2, h3⟩ := rnTA_at (nm := frN nm f z.binds) (f := f + z.binds.length) hn.2.1 (by simpa using hx) hk
      exact ⟨v, y, h1, by simpa [rnTA] using h2, h3⟩
/-- What a node binds in a kid goes to what the renamed node binds there. -/
theorem nm_bound {o n : Int} {b : List Int} {a : List Alt} {ops : List Int} (hs : shLab ⟨o, n, b, ops, a⟩) (hn : (bindersN o b a).Nodup) (nm : Nm) (f j k : Int) (h : k ∈ boundN o b a j) :
    ∃ v, (nmAt o nm f b a).1 k = some v ∧ v ∈ boundN o (ren1 o nm f b).1 (rnTA (ren1 o nm f b).2.1 (ren1 o nm f b).2.2 a).1 j := by
  unfold bindersN at hn
  rw [List.nodup_append] at hn
  unfold boundN at h ⊢
  by_cases e : o = 2 ∨ o = 5 ∨ (o = 4 ∧ j = 1)
  · rw [if_pos e] at h ⊢
    rw [if_pos (by omega)] at hn
    have e9 : o ≠ 9 := by omega
    unfold nmAt ren1
    rw [if_neg e9]
    obtain ⟨v, h1, h2⟩ := frN_at (nm := nm) (f := f) hn.1 h
    refine ⟨v, ?_, h2⟩
    simp only
    rw [rnTA_puts, putsN_other _ _ _ _ (fun hm => hn.2.2 k h k hm rfl)]
    exact h1
  · rw [if_neg e] at h ⊢
    rw [rnTA_l]
    split at h
    · rename_i e2
      rw [if_pos e2]
      have hl : (j - 1).toNat < a.length := by omega
      rw [List.getD_eq_getElem?_getD, List.getElem?_eq_getElem hl] at h
      obtain ⟨v, y, h1, h2, h3⟩ := rnTA_at (nm := (ren1 o nm f b).2.1) (f := (ren1 o nm f b).2.2) hn.2.1 (List.getElem?_eq_getElem hl) h
      refine ⟨v, h1, ?_⟩
      rw [List.getD_eq_getElem?_getD, h2]
      exact h3
    · simp at h
mutual
theorem rnT_closed : ∀ (t : Tr) (nm : Nm) (f : Int) (sc sc' : List Int), allT shLab t → (bndT t).Nodup → (∀ k ∈ bndT t, k ∉ sc) → (∀ k ∈ sc, ∃ v, nm k = some v ∧ v ∈ sc') → occT sc t = [] → occT sc' (rnT nm f t).1 = []
  | .mk o n b ks a, nm, f, sc, sc', hs, hn, hd, hm, ho => by
    simp only [bndT, List.nodup_append] at hn
    simp only [occT, List.append_eq_nil_iff] at ho
    have hks := rnTs_closed ks (nmAt o nm f b a).1 (nmAt o nm f b a).2 0 o b a (ren1 o nm f b).1 (rnTA (ren1 o nm f b).2.1 (ren1 o nm f b).2.2 a).1 sc sc' hs.2 hn.2.1
      (fun k hk => ⟨hd k (by simp only [bndT, List.mem_append]; exact .inr hk), fun h => hn.2.2 k h k hk rfl⟩)
      (fun k hk => by
        rw [nmAt_puts hs.1, putsN_other _ _ _ _ (fun h => hd k (by simp only [bndT, List.mem_append]; exact .inl h) hk)]
        exact hm k hk) (fun j k hk => nm_bound hs.1 hn.1 nm f j k hk) ho.2
    have hR : (rnT nm f (.mk o n b ks a)).1 = .mk o (if o = 0 then (nm n).getD n else n) (ren1 o nm f b).1 (rnTs (nmAt o nm f b a).1 (nmAt o nm f b a).2 ks).1 (rnTA (ren1 o nm f b).2.1 (ren1 o nm f b).2.2 a).1 := rfl
    rw [hR]
    simp only [occT, hks, List.append_nil]
    by_cases e0 : o = 0
    · subst e0
      have h1 : sc.contains n = true := by
        cases hc : sc.contains n with
        | true => rfl
        | false => have := ho.1; rw [if_pos ⟨rfl, hc⟩] at this; cases this
      obtain ⟨v, h2, h3⟩ := hm n (by simpa using h1)
      rw [if_neg]
      rintro ⟨_, h4⟩
      rw [if_pos rfl, h2] at h4
      simp only [Option.getD_some] at h4
      have : sc'.contains v = true := by simpa using h3
      rw [this] at h4; cases h4
    · rw [if_neg (fun h => e0 h.1)]
theorem rnTs_closed : ∀ (l : List Tr) (nm : Nm) (f : Int) (i : Nat) (o : Int) (b : List Int) (a : List Alt) (b' : List Int) (a' : List Alt) (sc sc' : List Int), allTs shLab l → (bndTs l).Nodup → (∀ k ∈ bndTs l, k ∉ sc ∧ k ∉ bindersN o b a) → (∀ k ∈ sc, ∃ v, nm k = some v ∧ v ∈ sc') →
    (∀ j k, k ∈ boundN o b a j → ∃ v, nm k = some v ∧ v ∈ boundN o b' a' j) → occTs sc o b a i l = [] → occTs sc' o b' a' i (rnTs nm f l).1 = []
  | [], _, _, _, _, _, _, _, _, _, _, _, _, _, _, _, _ => rfl
  | t :: l, nm, f, i, o, b, a, b', a', sc, sc', hs, hn, hd, hm, hb, ho => by
    simp only [bndTs, List.nodup_append] at hn
    simp only [occTs, List.append_eq_nil_iff] at ho
    have ht := rnT_closed t nm f (boundN o b a i ++ sc) (boundN o b' a' i ++ sc') hs.1 hn.1
      (fun k hk h => by
        have := hd k (by simp only [bndTs, List.mem_append]; exact .inl hk)
        rcases List.mem_append.1 h with h | h
        · exact this.2 (bound_sub h)
        · exact this.1 h)
      (fun k hk => by
        rcases List.mem_append.1 hk with h | h
        · obtain ⟨v, h1, h2⟩ := hb i k h
          exact ⟨v, h1, List.mem_append.2 (.inl h2)⟩
        · obtain ⟨v, h1, h2⟩ := hm k h
          exact ⟨v, h1, List.mem_append.2 (.inr h2)⟩) ho.1
    have hkeep : ∀ k, k ∈ sc ∨ k ∈ bindersN o b a → (rnT nm f t).2.1 k = nm k := fun k hk => rnT_keep k t nm f hs.1 fun h => by
      have := hd k (by simp only [bndTs, List.mem_append]; exact .inl h)
      rcases hk with hk | hk
      · exact this.1 hk
      · exact this.2 hk
    have hl := rnTs_closed l (rnT nm f t).2.1 (rnT nm f t).2.2 (i + 1) o b a b' a' sc sc' hs.2 hn.2.1 (fun k hk => hd k (by simp only [bndTs, List.mem_append]; exact .inr hk))
      (fun k hk => by rw [hkeep k (.inl hk)]; exact hm k hk) (fun j k hk => by rw [hkeep k (.inr (bound_sub hk))]; exact hb j k hk) ho.2
    simp only [rnTs, occTs, ht, hl]; rfl
end
end Go.CoreX
/- A renamed expression is valid, and the same. No condition. -/
namespace Go.CoreX
set_option linter.unusedVariables false
set_option linter.unusedSimpArgs false
def tl (a : Alt) : Int × Nat := (a.tag, a.binds.length)
theorem zip_any {α β : Type} (g : α → β) (f : β × Nat → Bool) : ∀ (l : List α) (i : Nat), (l.zipIdx i).any (fun x => f (g x.1, x.2)) = ((l.map g).zipIdx i).any f
  | [], i => rfl
  | x :: l, i => by simp only [List.zipIdx_cons, List.any_cons, List.map_cons, zip_any g f l (i + 1)]
def altBadP (op : Int) (L : List (Int × Nat)) (p : (Int × Nat) × Nat) : Bool :=
  ((L.take p.2).any (fun b => b.1 == p.1.1) || decide (p.1.1 < -1)) ||
  (op == 7 && p.1.1 == -1 && (decide ((p.2 : Int) < L.length - 1) || decide (0 < p.1.2))) ||
  ((op == 13 && !(((p.2 : Int) == 0) == (p.1.1 == -1))) || (op == 13 && !((p.1.2 : Int) == (if 2 < (p.2 : Int) + 1 then 2 else (p.2 : Int) + 1))))
theorem altBad_P (x : Ex) (i : Nat) (a : Alt) : altBad x i a = altBadP x.op (x.alts.map tl) (tl a, i) := by
  simp only [altBad, altBadP, tl, List.length_map, ← List.map_take, List.any_map, Function.comp_def]
  rfl
theorem altsOk_eq {x y : Ex} (ho : x.op = y.op) (hk : x.kids.length = y.kids.length) (ha : x.alts.map tl = y.alts.map tl) : altsOk x = altsOk y := by
  have hl : x.alts.length = y.alts.length := by simpa using congrArg List.length ha
  unfold altsOk
  have e : ∀ z : Ex, (z.alts.zipIdx.any fun ai => altBad z ai.2 ai.1) = (z.alts.map tl).zipIdx.any (altBadP z.op (z.alts.map tl)) := fun z => by
    rw [← zip_any tl]
    congr 1
    funext ai
    exact altBad_P z ai.2 ai.1
  rw [e x, e y, ha, ho, hk, hl]
theorem wants_eq {x y : Ex} (ho : x.op = y.op) (hk : x.kids.length = y.kids.length) (hb : x.binds.length = y.binds.length) (hn : x.op ≠ 0 → x.n = y.n) : wants x = wants y := by
  unfold wants
  rw [ho, hk, hb]
  by_cases e : y.op = 0
  · rw [if_pos (.inl e), if_pos (.inl e)]
  · rw [hn (by rw [ho]; exact e)]
theorem shape_eq {x y : Ex} (ho : x.op = y.op) (hk : x.kids.length = y.kids.length) (hb : x.binds.length = y.binds.length) (hn : x.op ≠ 0 → x.n = y.n) (ha : x.alts.map tl = y.alts.map tl) : shape x = shape y := by
  have hl : x.alts.length = y.alts.length := by simpa using congrArg List.length ha
  unfold shape
  rw [altsOk_eq ho hk ha, wants_eq ho hk hb hn, hb, hk, hl]
  by_cases e : y.op = 0
  · have e2 : x.op = 0 := by rw [ho]; exact e
    rw [if_neg (by omega), if_neg (by omega)]
    unfold wants
    rw [if_pos (.inl e)]
    simp
  · rw [ho, hn (by rw [ho]; exact e)]
theorem fields_eq {x y : Ex} (hb : x.binds.length = y.binds.length) (ha : x.alts.map tl = y.alts.map tl) : fields x = fields y := by
  have e : ∀ (l : List Alt) (c : Int), l.foldl (fun f a => if (a.binds.length : Int) > f then (a.binds.length : Int) else f) c = (l.map tl).foldl (fun f p => if (p.2 : Int) > f then (p.2 : Int) else f) c := fun l => by
    induction l with
    | nil => intro c; rfl
    | cons a l ih => intro c; simp only [List.foldl_cons, List.map_cons, ih, tl]
  unfold fields
  rw [e, e, ha, hb]
theorem altRange_of {op : Int} : ∀ {l r : List Alt}, l.map tl = r.map tl → l.all (altRange op) = true → (∀ a ∈ r, a.binds.all identOk = true) → r.all (altRange op) = true
  | [], [], _, _, _ => rfl
  | [], _ :: _, h, _, _ => by simp at h
  | _ :: _, [], h, _, _ => by simp at h
  | a :: l, b :: r, h, hl, hr => by
    simp only [List.map_cons, List.cons.injEq, tl, Prod.mk.injEq] at h
    simp only [List.all_cons, Bool.and_eq_true] at hl ⊢
    refine ⟨?_, altRange_of h.2 hl.2 fun c hc => hr c (by simp [hc])⟩
    have h1 := hl.1
    have h2 := hr b (by simp)
    unfold altRange at h1 ⊢
    simp only [Bool.and_eq_true] at h1 ⊢
    rw [← h.1.1]
    exact ⟨h1.1, h2⟩
/-- A node that is renamed has no error. -/
theorem node_ren {e f : List Ex} {x y : Ex} (ho : x.op = y.op) (hk : x.kids.length = y.kids.length) (hb : x.binds.length = y.binds.length) (hn : x.op ≠ 0 → x.n = y.n) (hn0 : y.op = 0 → between y.n 0 1048575 = true) (ha : x.alts.map tl = y.alts.map tl)
    (hib : y.binds.all identOk = true) (hia : ∀ a ∈ y.alts, a.binds.all identOk = true) (h9 : x.op = 9 → y.binds = x.binds) (hko : ∀ i, i < x.kids.length → (e.getD (x.kids.getD i 0).toNat ⟨0, 0, [], [], []⟩).op = (f.getD (y.kids.getD i 0).toNat ⟨0, 0, [], [], []⟩).op)
    (h : nodeErrF false e x = 0) : nodeErrF false f y = 0 := by
  unfold nodeErrF at h ⊢
  rw [← ho]
  split at h
  · cases h
  · rename_i hfl
    rw [if_neg hfl]
    unfold nodeErr at h ⊢
    rw [← shape_eq ho hk hb hn ha]
    split at h
    · cases h
    · rename_i hsh
      rw [if_neg hsh]
      have hsh' : shape x = true := by simpa using hsh
      split at h
      · rename_i hr; exact absurd h hr
      · rename_i hr
        have hr' : ranges x = 0 := by simpa using hr
        have hry : ranges y = 0 := by
          unfold ranges at hr' ⊢
          split at hr'
          · cases hr'
          · rename_i r1
            split at hr'
            · cases hr'
            · split at hr'
              · cases hr'
              · rename_i r3
                have r1' : between y.n (lowN y.op) (highN y.op) = true := by
                  by_cases e0 : y.op = 0
                  · have := hn0 e0
                    rw [e0]; simpa [lowN, highN] using this
                  · rw [← ho, ← hn (by rw [ho]; exact e0)]
                    simpa using r1
                have r3' : y.alts.all (altRange y.op) = true := altRange_of ha (by rw [← ho]; simpa using r3) hia
                rw [if_neg (by simp [r1']), if_neg (by simp [hib]), if_neg (by simp [r3']), ← ho, ← fields_eq hb ha, ← hk]
                exact hr'
        rw [if_neg (by simp [hry])]
        split at h
        · cases h
        · rename_i hbb
          rw [if_neg]
          intro hbad
          obtain ⟨i, hi, hbi⟩ := List.any_eq_true.1 hbad
          refine hbb (List.any_eq_true.2 ⟨i, ?_, ?_⟩)
          · rw [hb]; exact hi
          · have hil : i < y.binds.length := by simpa using hi
            unfold bindBad at hbi ⊢
            rw [← ho] at hbi
            by_cases e5 : x.op = 5
            · have h5 := shape_rec' hsh' e5
              rw [hko i (by omega)]
              have e9 : ¬ x.op = 9 := by omega
              simp only [e5] at hbi ⊢
              simpa using hbi
            · by_cases e9 : x.op = 9
              · have hbx := h9 e9
                rw [hbx] at hbi
                simp only [e9] at hbi ⊢
                simpa using hbi
              · simp [e5, e9] at hbi
end Go.CoreX
/- A renamed expression is valid and the same. No condition. -/
namespace Go.CoreX
set_option linter.unusedVariables false
set_option linter.unusedSimpArgs false
def pLab (l : Lab) : Prop := ∀ (e : List Ex) (x : Ex), (∀ k ∈ x.kids, 0 ≤ k ∧ k < (e.length : Int)) → labE e x = l → nodeErrF false e x = 0
def nmR (nm : Nm) : Prop := ∀ k v, nm k = some v → 0 ≤ v ∧ v ≤ 1048575
theorem nmR_set {nm : Nm} (h : nmR nm) (k : Int) {v : Int} (hv : 0 ≤ v ∧ v ≤ 1048575) : nmR (setN nm k v) := fun j u hu => by
  unfold setN at hu
  split at hu
  · cases hu; exact hv
  · exact h j u hu
theorem nmR_puts : ∀ (l r : List Int) {nm : Nm}, nmR nm → (∀ v ∈ r, 0 ≤ v ∧ v ≤ 1048575) → nmR (putsN nm l r)
  | [], _, _, h, _ => h
  | _ :: _, [], _, h, _ => h
  | x :: l, y :: r, nm, h, hr => nmR_puts l r (nmR_set h x (hr y (by simp))) fun v hv => hr v (by simp [hv])
theorem frB_mem {f v : Int} {l : List Int} (h : v ∈ frB f l) : f ≤ v ∧ v < f + l.length := by
  unfold frB at h
  obtain ⟨i, hi, rfl⟩ := List.mem_map.1 h
  have := List.mem_range.1 hi
  omega
theorem frB_rng {f : Int} {l : List Int} (h0 : 0 ≤ f) (h1 : f + l.length ≤ 1048576) : ∀ v ∈ frB f l, 0 ≤ v ∧ v ≤ 1048575 := fun v hv => by have := frB_mem hv; omega
theorem identOk_of {v : Int} (h : 0 ≤ v ∧ v ≤ 1048575) : identOk v = true := by simp [identOk, between]; omega
theorem rnTA_rng : ∀ (a : List Alt) (nm : Nm) (f : Int), 0 ≤ f → (rnTA nm f a).2.2 ≤ 1048576 → ∀ x ∈ (rnTA nm f a).1, ∀ v ∈ x.binds, 0 ≤ v ∧ v ≤ 1048575
  | [], _, _, _, _, x, hx => by simp [rnTA] at hx
  | y :: l, nm, f, h0, h1, x, hx => by
    have h2 := rnTA_f l (frN nm f y.binds) (f + y.binds.length)
    simp only [rnTA] at h1 hx
    rcases List.mem_cons.1 hx with rfl | hx
    · exact frB_rng h0 (by omega)
    · exact rnTA_rng l _ _ (by omega) h1 x hx
theorem rnTA_tl : ∀ (a : List Alt) (nm : Nm) (f : Int), (rnTA nm f a).1.map tl = a.map tl
  | [], _, _ => rfl
  | x :: l, nm, f => by simp only [rnTA, List.map_cons, rnTA_tl l, tl, frB_len]
theorem node_rng {e : List Ex} {x : Ex} (h : nodeErrF false e x = 0) : between x.n (lowN x.op) (highN x.op) = true ∧ x.binds.all identOk = true ∧ x.alts.all (altRange x.op) = true := by
  unfold nodeErrF at h
  split at h
  · cases h
  · unfold nodeErr at h
    split at h
    · cases h
    · split at h
      · rename_i hr; exact absurd h hr
      · rename_i hr
        have hr' : ranges x = 0 := by simpa using hr
        unfold ranges at hr'
        split at hr'
        · cases hr'
        · rename_i r1
          split at hr'
          · cases hr'
          · rename_i r2
            split at hr'
            · cases hr'
            · rename_i r3
              exact ⟨by simpa using r1, by simpa using r2, by simpa using r3⟩
mutual
theorem rnT_good : ∀ (t : Tr) (nm : Nm) (f : Int), allT pLab t → allT shLab t → nmR nm → 0 ≤ f → (rnT nm f t).2.2 ≤ 1048576 → allT pLab (rnT nm f t).1 ∧ nmR (rnT nm f t).2.1
  | .mk o n b ks a, nm, f, hp, hs, hm, h0, h1 => by
    have hf1 := ren1_f' o nm f b
    have hf1e := ren1_f o nm f b
    have hf2 := rnTA_f a (ren1 o nm f b).2.1 (ren1 o nm f b).2.2
    have hf3 := rnTs_f ks (nmAt o nm f b a).1 (nmAt o nm f b a).2
    have h1' : (rnTs (nmAt o nm f b a).1 (nmAt o nm f b a).2 ks).2.2 ≤ 1048576 := h1
    have hn2 : (nmAt o nm f b a).2 = (rnTA (ren1 o nm f b).2.1 (ren1 o nm f b).2.2 a).2.2 := rfl
    have hb' : ∀ v ∈ (if o = 2 ∨ o = 4 ∨ o = 5 then (ren1 o nm f b).1 else []), 0 ≤ v ∧ v ≤ 1048575 := fun v hv => by
      split at hv
      · rename_i e
        have e9 : o ≠ 9 := by omega
        unfold ren1 at hv
        rw [if_neg e9] at hv
        rw [if_neg e9] at hf1e
        exact frB_rng h0 (by omega) v hv
      · simp at hv
    have ha' := rnTA_rng a (ren1 o nm f b).2.1 (ren1 o nm f b).2.2 (by omega) (by omega)
    have hm1 : nmR (nmAt o nm f b a).1 := by
      rw [nmAt_puts hs.1]
      refine nmR_puts _ _ hm fun v hv => ?_
      unfold bindersN at hv
      rcases List.mem_append.1 hv with hv | hv
      · exact hb' v hv
      · obtain ⟨x, hx, hvx⟩ := List.mem_flatMap.1 hv
        exact ha' x hx v hvx
    obtain ⟨hk1, hk2⟩ := rnTs_good ks (nmAt o nm f b a).1 (nmAt o nm f b a).2 hp.2 hs.2 hm1 (by omega) h1'
    refine ⟨⟨?_, hk1⟩, hk2⟩
    intro g y hyk hyl
    have hyl' : labE g y = ⟨o, if o = 0 then (nm n).getD n else n, (ren1 o nm f b).1, (rnTs (nmAt o nm f b a).1 (nmAt o nm f b a).2 ks).1.map Tr.op, (rnTA (ren1 o nm f b).2.1 (ren1 o nm f b).2.2 a).1⟩ := hyl
    rw [rnTs_ops] at hyl'
    simp only [labE, Lab.mk.injEq] at hyl'
    obtain ⟨yo, yn, yb, yk, ya⟩ := hyl'
    have hx : nodeErrF false g ⟨y.op, n, b, y.kids, a⟩ = 0 := by
      refine hp.1 g _ hyk ?_
      simp only [labE, yo, yk]
    obtain ⟨x1, x2, x3⟩ := node_rng hx
    refine node_ren (e := g) (x := ⟨y.op, n, b, y.kids, a⟩) rfl rfl (by rw [yb, ren1_len]) (fun h => ?_) (fun h => ?_) (by rw [ya, rnTA_tl]) ?_ (fun z hz => ?_) (fun h => ?_) (fun i hi => rfl) hx
    · simp only at h ⊢
      rw [yn, if_neg (by rw [← yo]; exact h)]
    · have e0 : o = 0 := by rw [← yo]; exact h
      rw [yn, if_pos e0]
      cases hnm : nm n with
      | none =>
        simp only [yo, e0, lowN, highN] at x1
        simpa using x1
      | some v =>
        have := hm n v hnm
        simp [between]; omega
    · rw [yb, List.all_eq_true]
      intro v hv
      by_cases e9 : o = 9
      · unfold ren1 at hv
        rw [if_pos e9] at hv
        exact List.all_eq_true.1 x2 v hv
      · unfold ren1 at hv
        rw [if_neg e9] at hv
        rw [if_neg e9] at hf1e
        exact identOk_of (frB_rng h0 (by omega) v hv)
    · rw [ya] at hz
      rw [List.all_eq_true]
      exact fun v hv => identOk_of (ha' z hz v hv)
    · have e9 : o = 9 := by rw [← yo]; exact h
      rw [yb]
      unfold ren1
      rw [if_pos e9]
theorem rnTs_good : ∀ (l : List Tr) (nm : Nm) (f : Int), allTs pLab l → allTs shLab l → nmR nm → 0 ≤ f → (rnTs nm f l).2.2 ≤ 1048576 → allTs pLab (rnTs nm f l).1 ∧ nmR (rnTs nm f l).2.1
  | [], nm, f, _, _, hm, _, _ => ⟨trivial, hm⟩
  | t :: l, nm, f, hp, hs, hm, h0, h1 => by
    have hf := rnT_f t nm f
    have hf2 := rnTs_f l (rnT nm f t).2.1 (rnT nm f t).2.2
    simp only [rnTs] at h1 ⊢
    obtain ⟨a1, a2⟩ := rnT_good t nm f hp.1 hs.1 hm h0 (by omega)
    obtain ⟨b1, b2⟩ := rnTs_good l _ _ hp.2 hs.2 a2 (by omega) h1
    exact ⟨⟨a1, b1⟩, b2⟩
end
theorem sum0 {α : Type} {f : α → Int} : ∀ {l : List α}, (∀ x ∈ l, 0 ≤ f x) → (l.map f).sum = 0 → ∀ x ∈ l, f x = 0
  | [], _, _, x, hx => by simp at hx
  | y :: l, h, hs, x, hx => by
    have h1 := h y (by simp)
    have h2 : ∀ z ∈ l, 0 ≤ f z := fun z hz => h z (by simp [hz])
    have h3 : 0 ≤ (l.map f).sum := by
      clear h h1 hs hx
      induction l with
      | nil => simp
      | cons z l ih =>
        have := h2 z (by simp)
        have := ih fun y hy => h2 y (by simp [hy])
        simp only [List.map_cons, List.sum_cons]; omega
    simp only [List.map_cons, List.sum_cons] at hs
    rcases List.mem_cons.1 hx with rfl | hx
    · omega
    · exact sum0 h2 (by omega) x hx
open Classical in
mutual
theorem sum_all {p : Lab → Prop} : ∀ t : Tr, allT p t → sumT (fun l => if p l then 0 else 1) t = 0
  | .mk o n b k a, h => by
    simp only [sumT, sum_alls k h.2]
    rw [if_pos h.1]; rfl
theorem sum_alls {p : Lab → Prop} : ∀ l : List Tr, allTs p l → sumTs (fun l => if p l then 0 else 1) l = 0
  | [], _ => rfl
  | t :: l, h => by simp only [sumTs, sum_all t h.1, sum_alls l h.2]; rfl
end
open Classical in
theorem allT_labs {p : Lab → Prop} {g : List Ex} (h : IsTree g) (ha : allT p (grow g)) : ∀ l ∈ labs g, p l := by
  have h1 := sum_tree (fun l => if p l then (0 : Int) else 1) h
  rw [sum_all _ ha] at h1
  intro l hl
  have := sum0 (fun x _ => by split <;> omega) h1 l hl
  split at this
  · assumption
  · cases this
theorem check_parts {e : List Ex} (h : check e = 0) : treeErr e = 0 ∧ (∀ x ∈ e, nodeErrF false e x = 0) ∧ (allBinders e).Nodup ∧ occT [] (grow e) = [] := by
  unfold check body at h
  by_cases h1 : treeErr e = 0
  · rw [if_neg (by simpa using h1)] at h
    by_cases h2 : firstErr (nodeErrF false e) e = 0
    · rw [if_neg (by simpa using h2)] at h
      by_cases h3 : hasDup ([] ++ allBinders e) = true
      · rw [if_pos h3] at h; cases h
      · rw [if_neg h3] at h
        have h3' := (hasDup_false _).1 (by simpa using h3)
        refine ⟨h1, (firstErr_zero _ _).1 h2, by simpa using h3', ?_⟩
        by_cases h4 : (freeOf (grow e)).all (fun n => ([] : List Int).contains n) = true
        · have h5 : freeOf (grow e) = [] := by
            cases hf : freeOf (grow e) with
            | nil => rfl
            | cons n l => rw [hf] at h4; simp at h4
          unfold freeOf at h5
          cases ho : occT [] (grow e) with
          | nil => rfl
          | cons n l =>
            have := (sortS_mem n (n :: l)).2 (by simp)
            rw [← ho, h5] at this
            simp at this
        · rw [if_neg h4] at h; cases h
    · rw [if_pos (by simpa using h2)] at h; exact absurd h h2
  · rw [if_pos h1] at h; exact absurd h h1
theorem check_of {e : List Ex} (h1 : treeErr e = 0) (h2 : ∀ x ∈ e, nodeErrF false e x = 0) (h3 : (allBinders e).Nodup) (h4 : occT [] (grow e) = []) : check e = 0 := by
  unfold check body
  rw [if_neg (by simpa using h1), if_neg (by simpa using (firstErr_zero _ _).2 h2), if_neg (by rw [(hasDup_false _).2 (by simpa using h3)]; simp), if_pos]
  unfold freeOf
  rw [h4]; rfl
mutual
theorem bnd_count (k : Int) : ∀ t : Tr, (((bndT t).count k : Nat) : Int) = sumT (cntB k) t
  | .mk o n b ks a => by
    simp only [bndT, sumT, cntB, List.count_append, ← bnds_count k ks]; push_cast; rfl
theorem bnds_count (k : Int) : ∀ l : List Tr, (((bndTs l).count k : Nat) : Int) = sumTs (cntB k) l
  | [] => rfl
  | t :: l => by simp only [bndTs, sumTs, List.count_append, ← bnd_count k t, ← bnds_count k l]; push_cast; rfl
end
theorem bnd_nodup {e : List Ex} (h : check e = 0) : (bndT (grow e)).Nodup := by
  obtain ⟨_, _, h3, _⟩ := check_parts h
  have t1 := body_isTree h
  rw [List.nodup_iff_count] at h3 ⊢
  intro k
  have h4 := h3 k
  have h5 := bnd_count k (grow e)
  rw [← sum_tree _ t1] at h5
  have h6 : (((allBinders e).count k : Nat) : Int) = ((labs e).map (cntB k)).sum := by rw [allBinders_labs, count_flat]; rfl
  omega
theorem check_pLab {e : List Ex} (h : check e = 0) : allT pLab (grow e) := by
  obtain ⟨_, h2, _, _⟩ := check_parts h
  have t1 := body_isTree h
  refine allT_grow t1 fun x hx g y hy hl => ?_
  rw [nodeErrF_lab hy (kids_lt t1.k hx) hl]
  exact h2 x hx
abbrev nmN : Nm := fun _ => none
/-- RENEWED: valid, and the same. -/
theorem check_rn {e : List Ex} (h : check e = 0) {f : Int} (h0 : 0 ≤ f) (h1 : (rnT nmN f (grow e)).2.2 ≤ 1048576) : check (listT [] (rnT nmN f (grow e)).1) = 0 := by
  have hsh := check_shape h
  obtain ⟨p1, _, _, p4⟩ := check_parts h
  obtain ⟨q1, q2, q3⟩ := (treeErr_iff e).1 p1
  have t2 := isTree_list (rnT nmN f (grow e)).1
  have hg : ∀ T : Tr, grow (listT [] T) = T := grow_list
  refine check_of ?_ ?_ ?_ ?_
  · refine (treeErr_iff _).2 ⟨?_, t2, ?_⟩
    · have h5 := cntN_list (rnT nmN f (grow e)).1 []
      have h6 := cntN_list (grow e) []
      have h7 := len_list h
      rw [rnT_cnt] at h5
      simp only [List.length_nil] at h5 h6
      omega
    · rw [hg, rnT_depth]; exact q3
  · intro y hy
    have hp := (rnT_good (grow e) nmN f (check_pLab h) hsh (fun k v hv => by cases hv) h0 h1).1
    have := allT_labs t2 (by rw [hg]; exact hp) _ (List.mem_map_of_mem (f := labE (listT [] (rnT nmN f (grow e)).1)) hy)
    exact this _ y (kids_lt t2.k hy) rfl
  · exact rn_nodup hsh nmN f
  · rw [hg]
    exact rnT_closed (grow e) nmN f [] [] hsh (bnd_nodup h) (fun k hk h => by simp at h) (fun k hk => by simp at hk) p4
end Go.CoreX
/- CoreRenewed, walked. -/
namespace Go.Proofs.YtnonkoeknpmcjaaDoor
open Go Go.Abs Go.CoreX
set_option maxRecDepth 10000
set_option linter.unusedVariables false
set_option linter.unusedSimpArgs false
variable {Γ : List (Nat × List AC)}
end Go.Proofs.YtnonkoeknpmcjaaDoor
/- Renamed expressions: sizes, and the identifiers in order. No condition. -/
namespace Go.CoreX
set_option linter.unusedVariables false
set_option linter.unusedSimpArgs false
mutual
theorem rnT_end : ∀ (t : Tr) (nm : Nm) (f : Int), (rnT nm f t).2.2 = f + sumT nbLab t
  | .mk o n b k a, nm, f => by
    simp only [rnT, rnTs_end k, rnTA_f, ren1_f, sumT, nbLab]; push_cast; omega
theorem rnTs_end : ∀ (l : List Tr) (nm : Nm) (f : Int), (rnTs nm f l).2.2 = f + sumTs nbLab l
  | [], _, _ => by simp [rnTs, sumTs]
  | t :: l, nm, f => by simp only [rnTs, rnTs_end l, rnT_end t, sumTs]; omega
end
mutual
theorem sum_ops : ∀ t : Tr, sumT (fun l => (l.ops.length : Int)) t + 1 = cntN t
  | .mk o n b k a => by
    have := sum_opss k
    simp only [sumT, cntN, List.length_map]; push_cast; omega
theorem sum_opss : ∀ l : List Tr, sumTs (fun l => (l.ops.length : Int)) l + l.length = cntNs l
  | [] => by simp [sumTs, cntNs]
  | t :: l => by
    have h1 := sum_ops t
    have h2 := sum_opss l
    simp only [sumTs, cntNs, List.length_cons]; push_cast; omega
end
mutual
theorem sum_le {p : Lab → Prop} {g h : Lab → Int} (hp : ∀ l, p l → g l ≤ h l) : ∀ t : Tr, allT p t → sumT g t ≤ sumT h t
  | .mk o n b k a, ht => by
    have h1 := hp _ ht.1
    have h2 := sums_le hp k ht.2
    simp only [sumT]; omega
theorem sums_le {p : Lab → Prop} {g h : Lab → Int} (hp : ∀ l, p l → g l ≤ h l) : ∀ l : List Tr, allTs p l → sumTs g l ≤ sumTs h l
  | [], _ => by simp [sumTs]
  | t :: l, ht => by
    have h1 := sum_le hp t ht.1
    have h2 := sums_le hp l ht.2
    simp only [sumTs]; omega
end
mutual
theorem sum_lin (a b : Int) (g : Lab → Int) : ∀ t : Tr, sumT (fun l => a + b * g l) t = a * cntN t + b * sumT g t
  | .mk o n bb k al => by
    simp only [sumT, cntN, sums_lin a b g k]
    push_cast
    rw [Int.mul_add, Int.mul_add, Int.mul_one]; omega
theorem sums_lin (a b : Int) (g : Lab → Int) : ∀ l : List Tr, sumTs (fun l => a + b * g l) l = a * cntNs l + b * sumTs g l
  | [] => by simp [sumTs, cntNs]
  | t :: l => by
    simp only [sumTs, cntNs, sum_lin a b g t, sums_lin a b g l]
    push_cast
    rw [Int.mul_add, Int.mul_add]; omega
end
theorem fold_max : ∀ (l : List Alt) (c : Int), c ≤ l.foldl (fun f a => if (a.binds.length : Int) > f then (a.binds.length : Int) else f) c ∧ ∀ a ∈ l, (a.binds.length : Int) ≤ l.foldl (fun f a => if (a.binds.length : Int) > f then (a.binds.length : Int) else f) c
  | [], c => ⟨by simp, by simp⟩
  | x :: l, c => by
    obtain ⟨h1, h2⟩ := fold_max l (if (x.binds.length : Int) > c then (x.binds.length : Int) else c)
    simp only [List.foldl_cons]
    refine ⟨?_, fun a ha => ?_⟩
    · split at h1 <;> split <;> omega
    · rcases List.mem_cons.1 ha with rfl | ha
      · split at h1 <;> split <;> omega
      · exact h2 a ha
theorem node_small {e : List Ex} {x : Ex} (h : nodeErrF false e x = 0) : x.binds.length ≤ 16 ∧ ∀ a ∈ x.alts, a.binds.length ≤ 16 := by
  unfold nodeErrF at h
  split at h
  · cases h
  · unfold nodeErr at h
    split at h
    · cases h
    · split at h
      · rename_i hr; exact absurd h hr
      · rename_i hr
        have hr' : ranges x = 0 := by simpa using hr
        unfold ranges at hr'
        repeat' split at hr'
        all_goals first
          | (cases hr'; done)
          | skip
        all_goals
          rename_i hf _
          have hf16 : fields x ≤ 16 := by
            simp only [Bool.or_eq_true, not_or, decide_eq_true_eq] at *
            omega
          unfold fields at hf16
          obtain ⟨k1, k2⟩ := fold_max x.alts x.binds.length
          exact ⟨by omega, fun a ha => by have := k2 a ha; omega⟩
theorem sum_alts16 : ∀ {l : List Alt}, (∀ a ∈ l, a.binds.length ≤ 16) → (l.map fun x => x.binds.length).sum ≤ 16 * l.length
  | [], _ => by simp
  | x :: l, h => by
    have h1 := h x (by simp)
    have h2 := sum_alts16 (l := l) fun a ha => h a (by simp [ha])
    simp only [List.map_cons, List.sum_cons, List.length_cons]; omega
theorem nb_small {e : List Ex} (h : check e = 0) : sumT nbLab (grow e) ≤ 131072 := by
  have t1 := body_isTree h
  obtain ⟨p1, p2, _, _⟩ := check_parts h
  obtain ⟨q1, _, _⟩ := (treeErr_iff e).1 p1
  have hp : allT (fun l => nbLab l ≤ 16 + 16 * (l.ops.length : Int)) (grow e) := allT_grow t1 fun x hx => by
    obtain ⟨s1, s2⟩ := node_small (p2 x hx)
    have s3 := shape_alts (shape_of h x hx)
    have s4 : x.alts.length ≤ x.kids.length := by
      split at s3
      · omega
      · rw [s3]; simp
    have s5 := sum_alts16 s2
    have s6 : (if (labE e x).op = 9 then 0 else (labE e x).binds.length) ≤ 16 := by
      split
      · omega
      · exact s1
    simp only [nbLab]
    have s7 : (labE e x).ops.length = x.kids.length := by simp [labE]
    have s8 : (labE e x).alts = x.alts := rfl
    rw [s7, s8]
    omega
  have h1 := sum_le (g := nbLab) (h := fun l => 16 + 16 * (l.ops.length : Int)) (fun l hl => hl) (grow e) hp
  rw [sum_lin] at h1
  have h2 := sum_ops (grow e)
  have h3 := cntN_list (grow e) []
  have h4 := len_list h
  simp only [List.length_nil] at h3
  omega
/-- A node's lists are not too long. -/
structure pOk (l : Lab) : Prop where
  b : l.binds.length ≤ 1048576
  k : l.ops.length ≤ 1048576
  a : l.alts.length ≤ 1048576
  ab : ∀ x ∈ l.alts, x.binds.length ≤ 1048576
  s : l.binds.length + (l.alts.flatMap (·.binds)).length ≤ 4194304
mutual
theorem rnT_pOk : ∀ (t : Tr) (nm : Nm) (f : Int), allT pOk t → allT pOk (rnT nm f t).1
  | .mk o n b k a, nm, f, h => by
    obtain ⟨h1, h2⟩ := h
    have e1 := rnTA_len a (ren1 o nm f b).2.1 (ren1 o nm f b).2.2
    refine ⟨⟨?_, ?_, ?_, ?_, ?_⟩, rnTs_pOk k _ _ h2⟩
    · simp only [ren1_len]; exact h1.b
    · simp only [rnTs_ops]; exact h1.k
    · simp only [rnTA_l]; exact h1.a
    · exact mem_len e1 h1.ab
    · simp only [ren1_len, flat_len_eq e1]; exact h1.s
theorem rnTs_pOk : ∀ (l : List Tr) (nm : Nm) (f : Int), allTs pOk l → allTs pOk (rnTs nm f l).1
  | [], _, _, _ => trivial
  | t :: l, nm, f, h => ⟨rnT_pOk t nm f h.1, rnTs_pOk l _ _ h.2⟩
end
-- Two lists in order, with the same members, are one list.
end Go.CoreX
namespace Go.Proofs.YtnonkoeknpmcjaaDoor
open Go Go.Abs Go.CoreX
theorem okB_labs {e : List Ex} (he : okB e) : ∀ l ∈ labs e, pOk l := fun l hl => by
  obtain ⟨x, hx, rfl⟩ := List.mem_map.1 hl
  have h := he.eo.x x hx
  exact ⟨h.b, by simpa [labE] using h.k, h.a, h.ab, he.b x hx⟩
theorem okB_ofLabs {g : List Ex} (hl : g.length ≤ 1048576) (h : ∀ l ∈ labs g, pOk l) : okB g := by
  refine ⟨⟨hl, fun x hx => ?_⟩, fun x hx => ?_⟩
  · have := h _ (List.mem_map_of_mem (f := labE g) hx)
    exact ⟨this.b, by simpa [labE] using this.k, this.a, this.ab⟩
  · exact (h _ (List.mem_map_of_mem (f := labE g) hx)).s
theorem okB_rn {e : List Ex} (he : okB e) (h : check e = 0) (nm : Nm) (f : Int) : okB (listT [] (rnT nm f (grow e)).1) := by
  have t1 := body_isTree h
  refine okB_ofLabs ?_ (allT_labs (isTree_list _) ?_)
  · have h5 := cntN_list (rnT nm f (grow e)).1 []
    have h6 := cntN_list (grow e) []
    have h7 := len_list h
    have h8 := he.eo.l
    rw [rnT_cnt] at h5
    simp only [List.length_nil] at h5 h6
    omega
  · rw [grow_list]
    exact rnT_pOk _ nm f (allT_grow t1 fun x hx => okB_labs he _ (List.mem_map_of_mem (f := labE e) hx))
end Go.Proofs.YtnonkoeknpmcjaaDoor
/- CoreRenewed, walked. -/
namespace Go.Proofs.YtnonkoeknpmcjaaDoor
open Go Go.Abs Go.CoreX
set_option maxRecDepth 10000
set_option linter.unusedVariables false
set_option linter.unusedSimpArgs false
@[simp] theorem ren_oaI (ρ : Nat → Nat) (l : List Int) (oc : Option Nat) : (oaO 1 (l.map cI) oc).ren ρ = oaO 1 (l.map cI) oc := ren_oaO ρ 1 _ oc fun cap => ids_vec (ids_cIs _ l)
end Go.Proofs.YtnonkoeknpmcjaaDoor
/- A renamed tree is the tree with its identifiers mapped. How often they are used does not change. No condition. -/
namespace Go.CoreX
set_option linter.unusedVariables false
set_option linter.unusedSimpArgs false
def mapA (ν : Int → Int) (x : Alt) : Alt := ⟨x.tag, x.binds.map ν⟩
mutual
def mapT (ν : Int → Int) : Tr → Tr
  | .mk o n b k a => .mk o (if o = 0 then ν n else n) (if o = 9 then b else b.map ν) (mapTs ν k) (a.map (mapA ν))
def mapTs (ν : Int → Int) : List Tr → List Tr
  | [] => []
  | t :: l => mapT ν t :: mapTs ν l
end
theorem frB_map {nm : Nm} {f : Int} {b : List Int} {ν : Int → Int} (hn : b.Nodup) (h : ∀ k ∈ b, frN nm f b k = some (ν k)) : frB f b = b.map ν := by
  apply List.ext_getElem?
  intro j
  by_cases hj : j < b.length
  · have hb : b[j]? = some b[j] := List.getElem?_eq_getElem hj
    have h1 := putsN_at (m := nm) (r := frB f b) hn (frB_len f b).symm hb
    rw [← h1]
    have h2 := h b[j] (List.getElem_mem hj)
    unfold frN at h2
    rw [h2]
    simp [hj]
  · rw [List.getElem?_eq_none (by rw [frB_len]; omega), List.getElem?_eq_none (by simp; omega)]
theorem rnTA_map : ∀ {a : List Alt} {nm : Nm} {f : Int} {ν : Int → Int}, (a.flatMap (·.binds)).Nodup → (∀ k ∈ a.flatMap (·.binds), (rnTA nm f a).2.1 k = some (ν k)) → (rnTA nm f a).1 = a.map (mapA ν)
  | [], _, _, _, _, _ => rfl
  | x :: l, nm, f, ν, hn, h => by
    simp only [List.flatMap_cons, List.nodup_append] at hn
    have h1 : frB f x.binds = x.binds.map ν := frB_map (nm := nm) hn.1 fun k hk => by
      have := h k (by simp only [List.flatMap_cons, List.mem_append]; exact .inl hk)
      simp only [rnTA] at this
      rw [rnTA_puts, putsN_other _ _ _ _ (fun hm => hn.2.2 k hk k hm rfl)] at this
      exact this
    have h2 := rnTA_map (a := l) (nm := frN nm f x.binds) (f := f + x.binds.length) (ν := ν) hn.2.1 fun k hk => by
      have := h k (by simp only [List.flatMap_cons, List.mem_append]; exact .inr hk)
      simpa only [rnTA] using this
    simp only [rnTA, List.map_cons, h1, h2, mapA]
mutual
theorem rnT_map : ∀ (t : Tr) (nm : Nm) (f : Int) (sc : List Int) (ν : Int → Int), allT shLab t → (bndT t).Nodup → (∀ k ∈ bndT t, k ∉ sc) → occT sc t = [] → (∀ k ∈ sc, nm k = some (ν k)) → (∀ k ∈ bndT t, (rnT nm f t).2.1 k = some (ν k)) → (rnT nm f t).1 = mapT ν t
  | .mk o n b ks a, nm, f, sc, ν, hs, hn, hd, ho, hm, hf => by
    simp only [bndT, List.nodup_append] at hn
    simp only [occT, List.append_eq_nil_iff] at ho
    have hR : rnT nm f (.mk o n b ks a) = (.mk o (if o = 0 then (nm n).getD n else n) (ren1 o nm f b).1 (rnTs (nmAt o nm f b a).1 (nmAt o nm f b a).2 ks).1 (rnTA (ren1 o nm f b).2.1 (ren1 o nm f b).2.2 a).1, (rnTs (nmAt o nm f b a).1 (nmAt o nm f b a).2 ks).2) := rfl
    rw [hR] at hf ⊢
    have hown : ∀ k ∈ bindersN o b a, (nmAt o nm f b a).1 k = some (ν k) := fun k hk => by
      have h1 := hf k (by simp only [bndT, List.mem_append]; exact .inl hk)
      simp only at h1
      rw [rnTs_keep k ks _ _ hs.2 (fun h => hn.2.2 k hk k h rfl)] at h1
      exact h1
    have hnd := hn.1
    unfold bindersN at hnd
    rw [List.nodup_append] at hnd
    have hks := rnTs_map ks (nmAt o nm f b a).1 (nmAt o nm f b a).2 0 o b a sc ν hs.2 hn.2.1
      (fun k hk => ⟨hd k (by simp only [bndT, List.mem_append]; exact .inr hk), fun h => hn.2.2 k h k hk rfl⟩) ho.2
      (fun k hk => by
        rw [nmAt_puts hs.1, putsN_other _ _ _ _ (fun h => hd k (by simp only [bndT, List.mem_append]; exact .inl h) hk)]
        exact hm k hk) hown (fun k hk => hf k (by simp only [bndT, List.mem_append]; exact .inr hk))
    have hal : (rnTA (ren1 o nm f b).2.1 (ren1 o nm f b).2.2 a).1 = a.map (mapA ν) := rnTA_map hnd.2.1 fun k hk => hown k (by unfold bindersN; exact List.mem_append.2 (.inr hk))
    have hb : (ren1 o nm f b).1 = if o = 9 then b else b.map ν := by
      unfold ren1
      by_cases e9 : o = 9
      · rw [if_pos e9, if_pos e9]
      · rw [if_neg e9, if_neg e9]
        simp only
        by_cases e : o = 2 ∨ o = 4 ∨ o = 5
        · rw [if_pos e] at hnd
          refine frB_map (nm := nm) hnd.1 fun k hk => ?_
          have h1 := hown k (by unfold bindersN; rw [if_pos e]; exact List.mem_append.2 (.inl hk))
          unfold nmAt ren1 at h1
          rw [if_neg e9] at h1
          simp only at h1
          rw [rnTA_puts, putsN_other _ _ _ _ (fun h => hnd.2.2 k hk k h rfl)] at h1
          exact h1
        · have : b = [] := by
            have h1 := hs.1.b
            simp only at h1
            rcases h1 with h | h | h | h | h
            · exact absurd (.inl h) e
            · exact absurd (.inr (.inl h)) e
            · exact absurd (.inr (.inr h)) e
            · exact absurd h e9
            · exact h
          subst this; rfl
    simp only [mapT, hks, hal, hb]
    congr 1
    by_cases e0 : o = 0
    · rw [if_pos e0, if_pos e0]
      have h1 : sc.contains n = true := by
        cases hc : sc.contains n with
        | true => rfl
        | false => have := ho.1; rw [if_pos ⟨e0, hc⟩] at this; cases this
      rw [hm n (by simpa using h1)]; rfl
    · rw [if_neg e0, if_neg e0]
theorem rnTs_map : ∀ (l : List Tr) (nm : Nm) (f : Int) (i : Nat) (o : Int) (b : List Int) (a : List Alt) (sc : List Int) (ν : Int → Int), allTs shLab l → (bndTs l).Nodup → (∀ k ∈ bndTs l, k ∉ sc ∧ k ∉ bindersN o b a) → occTs sc o b a i l = [] → (∀ k ∈ sc, nm k = some (ν k)) →
    (∀ k ∈ bindersN o b a, nm k = some (ν k)) → (∀ k ∈ bndTs l, (rnTs nm f l).2.1 k = some (ν k)) → (rnTs nm f l).1 = mapTs ν l
  | [], _, _, _, _, _, _, _, _, _, _, _, _, _, _, _ => rfl
  | t :: l, nm, f, i, o, b, a, sc, ν, hs, hn, hd, ho, hm, hb, hf => by
    simp only [bndTs, List.nodup_append] at hn
    simp only [occTs, List.append_eq_nil_iff] at ho
    have ht := rnT_map t nm f (boundN o b a i ++ sc) ν hs.1 hn.1
      (fun k hk h => by
        have := hd k (by simp only [bndTs, List.mem_append]; exact .inl hk)
        rcases List.mem_append.1 h with h | h
        · exact this.2 (bound_sub h)
        · exact this.1 h) ho.1
      (fun k hk => by
        rcases List.mem_append.1 hk with h | h
        · exact hb k (bound_sub h)
        · exact hm k h)
      (fun k hk => by
        have h1 := hf k (by simp only [bndTs, List.mem_append]; exact .inl hk)
        simp only [rnTs] at h1
        rw [rnTs_keep k l _ _ hs.2 (fun h => hn.2.2 k hk k h rfl)] at h1
        exact h1)
    have hkeep : ∀ k, k ∈ sc ∨ k ∈ bindersN o b a → (rnT nm f t).2.1 k = nm k := fun k hk => rnT_keep k t nm f hs.1 fun h => by
      have := hd k (by simp only [bndTs, List.mem_append]; exact .inl h)
      rcases hk with hk | hk
      · exact this.1 hk
      · exact this.2 hk
    have hl := rnTs_map l (rnT nm f t).2.1 (rnT nm f t).2.2 (i + 1) o b a sc ν hs.2 hn.2.1 (fun k hk => hd k (by simp only [bndTs, List.mem_append]; exact .inr hk)) ho.2
      (fun k hk => by rw [hkeep k (.inl hk)]; exact hm k hk) (fun k hk => by rw [hkeep k (.inr hk)]; exact hb k hk)
      (fun k hk => hf k (by simp only [bndTs, List.mem_append]; exact .inr hk))
    simp only [rnTs, mapTs, ht, hl]
end
mutual
theorem rnT_dom (k : Int) : ∀ (t : Tr) (nm : Nm) (f : Int), allT shLab t → k ∈ bndT t → ∃ v, (rnT nm f t).2.1 k = some v
  | .mk o n b ks a, nm, f, hs, hk => by
    simp only [bndT, List.mem_append] at hk
    show ∃ v, (rnTs (nmAt o nm f b a).1 (nmAt o nm f b a).2 ks).2.1 k = some v
    by_cases h2 : k ∈ bndTs ks
    · exact rnTs_dom k ks _ _ hs.2 h2
    · rw [rnTs_keep k ks _ _ hs.2 h2, nmAt_puts hs.1]
      have h1 := hk.resolve_right h2
      have key : ∀ (l r : List Int) (m : Nm), l.length = r.length → k ∈ l → ∃ v, putsN m l r k = some v := by
        intro l
        induction l with
        | nil => intro r m _ h; simp at h
        | cons x l ih =>
          intro r m hl h
          cases r with
          | nil => simp at hl
          | cons y r =>
            simp only [putsN]
            by_cases h3 : k ∈ l
            · exact ih r _ (by simpa using hl) h3
            · rw [putsN_other _ _ _ _ h3]
              have : k = x := by simpa [h3] using h
              exact ⟨y, by simp [setN, this]⟩
      refine key _ _ _ ?_ h1
      have e1 := rnTA_len a (ren1 o nm f b).2.1 (ren1 o nm f b).2.2
      unfold bindersN
      rw [List.length_append, List.length_append, flat_len_eq e1]
      congr 1
      split
      · exact (ren1_len _ _ _ _).symm
      · rfl
theorem rnTs_dom (k : Int) : ∀ (l : List Tr) (nm : Nm) (f : Int), allTs shLab l → k ∈ bndTs l → ∃ v, (rnTs nm f l).2.1 k = some v
  | [], _, _, _, hk => by simp [bndTs] at hk
  | t :: l, nm, f, hs, hk => by
    simp only [bndTs, List.mem_append] at hk
    simp only [rnTs]
    by_cases h2 : k ∈ bndTs l
    · exact rnTs_dom k l _ _ hs.2 h2
    · rw [rnTs_keep k l _ _ hs.2 h2]
      exact rnT_dom k t nm f hs.1 (hk.resolve_right h2)
end
theorem binders_map (ν : Int → Int) (o : Int) (b : List Int) (a : List Alt) : bindersN o (if o = 9 then b else b.map ν) (a.map (mapA ν)) = (bindersN o b a).map ν := by
  unfold bindersN
  rw [List.map_append]
  congr 1
  · by_cases e : o = 2 ∨ o = 4 ∨ o = 5
    · rw [if_pos e, if_pos e, if_neg (by omega)]
    · rw [if_neg e, if_neg e]; rfl
  · rw [List.flatMap_map, List.map_flatMap]; rfl
mutual
theorem bnd_map (ν : Int → Int) : ∀ t : Tr, bndT (mapT ν t) = (bndT t).map ν
  | .mk o n b k a => by simp only [mapT, bndT, binders_map, bnds_map ν k, List.map_append]
theorem bnds_map (ν : Int → Int) : ∀ l : List Tr, bndTs (mapTs ν l) = (bndTs l).map ν
  | [] => rfl
  | t :: l => by simp only [mapTs, bndTs, bnd_map ν t, bnds_map ν l, List.map_append]
end
theorem bound_map (ν : Int → Int) (o : Int) (b : List Int) (a : List Alt) (k : Int) : boundN o (if o = 9 then b else b.map ν) (a.map (mapA ν)) k = (boundN o b a k).map ν := by
  unfold boundN
  by_cases e : o = 2 ∨ o = 5 ∨ (o = 4 ∧ k = 1)
  · rw [if_pos e, if_pos e, if_neg (by omega)]
  · rw [if_neg e, if_neg e, List.length_map]
    by_cases e2 : 0 < (a.length : Int) ∧ 0 < k ∧ k ≤ a.length
    · rw [if_pos e2, if_pos e2]
      have hl : (k - 1).toNat < a.length := by omega
      rw [List.getD_eq_getElem?_getD, List.getD_eq_getElem?_getD, List.getElem?_map, List.getElem?_eq_getElem hl]
      rfl
    · rw [if_neg e2, if_neg e2]; rfl
/-- A RENEWED EXPRESSION: its identifiers mapped, each to another one. -/
theorem rn_mapT {e : List Ex} (h : check e = 0) (f : Int) : ∃ ν : Int → Int, (rnT nmN f (grow e)).1 = mapT ν (grow e) ∧ ((bndT (grow e)).map ν).Nodup := by
  have hsh := check_shape h
  obtain ⟨_, _, _, p4⟩ := check_parts h
  have hm := rnT_map (grow e) nmN f [] (fun k => ((rnT nmN f (grow e)).2.1 k).getD 0) hsh (bnd_nodup h) (fun k _ hk => by simp at hk) p4 (fun k hk => by simp at hk) (fun k hk => by
    obtain ⟨v, hv⟩ := rnT_dom k (grow e) nmN f hsh hk
    rw [hv]; rfl)
  refine ⟨_, hm, ?_⟩
  rw [← bnd_map, ← hm, List.nodup_iff_count]
  intro k
  have h1 := bnd_count k (rnT nmN f (grow e)).1
  rw [rnT_count k _ _ _ hsh] at h1
  unfold ind at h1
  split at h1 <;> omega
end Go.CoreX
/- How often identifiers are used does not change when they are renamed. No condition. -/
namespace Go.CoreX
set_option linter.unusedVariables false
set_option linter.unusedSimpArgs false
def InjOn (ν : Int → Int) (B : List Int) : Prop := ∀ x ∈ B, ∀ y ∈ B, ν x = ν y → x = y
theorem injOn_of : ∀ {B : List Int} {ν : Int → Int}, (B.map ν).Nodup → InjOn ν B
  | [], _, _ => fun x hx => by simp at hx
  | b :: B, ν, h => fun x hx y hy e => by
    simp only [List.map_cons, List.nodup_cons] at h
    rcases List.mem_cons.1 hx with h1 | h1
    · rcases List.mem_cons.1 hy with h2 | h2
      · rw [h1, h2]
      · exact absurd (by rw [← h1, e]; exact List.mem_map_of_mem h2) h.1
    · rcases List.mem_cons.1 hy with h2 | h2
      · exact absurd (by rw [← h2, ← e]; exact List.mem_map_of_mem h1) h.1
      · exact injOn_of h.2 x h1 y h2 e
mutual
theorem vars_in (B : List Int) : ∀ (t : Tr) (sc : List Int), occT sc t = [] → (∀ k ∈ sc, k ∈ B) → (∀ k ∈ bndT t, k ∈ B) → allT (fun l => l.op = 0 → l.n ∈ B) t
  | .mk o n b ks a, sc, h, hs, hb => by
    simp only [occT, List.append_eq_nil_iff] at h
    refine ⟨fun e0 => ?_, varss_in B ks sc o b a 0 h.2 hs (fun k hk => hb k (by simp only [bndT, List.mem_append]; exact .inl hk)) fun k hk => hb k (by simp only [bndT, List.mem_append]; exact .inr hk)⟩
    simp only at e0 ⊢
    cases hc : sc.contains n with
    | true => exact hs n (by simpa using hc)
    | false => have := h.1; rw [if_pos ⟨e0, hc⟩] at this; cases this
theorem varss_in (B : List Int) : ∀ (l : List Tr) (sc : List Int) (o : Int) (b : List Int) (a : List Alt) (i : Nat), occTs sc o b a i l = [] → (∀ k ∈ sc, k ∈ B) → (∀ k ∈ bindersN o b a, k ∈ B) → (∀ k ∈ bndTs l, k ∈ B) → allTs (fun l => l.op = 0 → l.n ∈ B) l
  | [], _, _, _, _, _, _, _, _, _ => trivial
  | t :: l, sc, o, b, a, i, h, hs, ho, hb => by
    simp only [occTs, List.append_eq_nil_iff] at h
    exact ⟨vars_in B t _ h.1 (fun k hk => (List.mem_append.1 hk).elim (fun h => ho k (bound_sub h)) (hs k)) fun k hk => hb k (by simp only [bndTs, List.mem_append]; exact .inl hk),
      varss_in B l sc o b a (i + 1) h.2 hs ho fun k hk => hb k (by simp only [bndTs, List.mem_append]; exact .inr hk)⟩
end
def RelU (B : List Int) (ν : Int → Int) (s s' : CS) : Prop := ∀ k ∈ B, s'.u (ν k) = s.u k ∧ s'.d (ν k) = s.d k ∧ s'.m (ν k) = s.m k
theorem RelU.visit {B : List Int} {ν : Int → Int} (hi : InjOn ν B) {s s' : CS} (h : RelU B ν s s') {n : Int} (hn : n ∈ B) (deep : Int) : RelU B ν (visitU s n deep) (visitU s' (ν n) deep) := fun k hk => by
  obtain ⟨h1, h2, h3⟩ := h k hk
  obtain ⟨g1, g2, g3⟩ := h n hn
  have hup : ∀ (p p' : Int → Int) (v v' : Int), p' (ν k) = p k → v' = v → upF p' (ν n) v' (ν k) = upF p n v k := fun p p' v v' e1 e2 => by
    unfold upF
    by_cases e : n = k
    · subst e; rw [if_pos rfl, if_pos rfl, e2]
    · rw [if_neg e, if_neg (fun e3 => e (hi n hn k hk e3)), e1]
  refine ⟨hup _ _ _ _ h1 (by rw [g1]), h2, ?_⟩
  simp only [visitU]
  rw [g2]
  split
  · exact hup _ _ _ _ h3 (by rw [g3])
  · exact h3
theorem RelU.bind {B : List Int} {ν : Int → Int} (hi : InjOn ν B) (d : Int) : ∀ (l : List Int) {s s' : CS}, (∀ k ∈ l, k ∈ B) → RelU B ν s s' → RelU B ν (bindU d s l) (bindU d s' (l.map ν))
  | [], s, s', _, h => h
  | n :: l, s, s', hl, h => by
    have hn := hl n (by simp)
    have h1 : RelU B ν ⟨s.u, upF s.d n d, s.m⟩ ⟨s'.u, upF s'.d (ν n) d, s'.m⟩ := fun k hk => by
      obtain ⟨h1, h2, h3⟩ := h k hk
      refine ⟨h1, ?_, h3⟩
      simp only [upF]
      by_cases e : n = k
      · subst e; rw [if_pos rfl, if_pos rfl]
      · rw [if_neg e, if_neg (fun e3 => e (hi n hn k hk e3)), h2]
    exact RelU.bind hi d l (fun k hk => hl k (by simp [hk])) h1
mutual
theorem walkU_map {B : List Int} {ν : Int → Int} (hi : InjOn ν B) : ∀ (t : Tr) (deep : Int) (s s' : CS), allT (fun l => l.op = 0 → l.n ∈ B) t → (∀ k ∈ bndT t, k ∈ B) → RelU B ν s s' → RelU B ν (walkU deep s t) (walkU deep s' (mapT ν t))
  | .mk o n b ks a, deep, s, s', hv, hb, h => by
    have h1 : RelU B ν (if o = 0 then visitU s n deep else s) (if o = 0 then visitU s' (if o = 0 then ν n else n) deep else s') := by
      by_cases e : o = 0
      · rw [if_pos e, if_pos e, if_pos e]; exact h.visit hi (hv.1 e) deep
      · rw [if_neg e, if_neg e]; exact h
    have h2 := walkUs_map hi ks deep o b a 0 _ _ hv.2 (fun k hk => hb k (by simp only [bndT, List.mem_append]; exact .inl hk)) (fun k hk => hb k (by simp only [bndT, List.mem_append]; exact .inr hk)) h1
    simpa only [walkU, mapT] using h2
theorem walkUs_map {B : List Int} {ν : Int → Int} (hi : InjOn ν B) : ∀ (l : List Tr) (deep o : Int) (b : List Int) (a : List Alt) (i : Nat) (s s' : CS), allTs (fun l => l.op = 0 → l.n ∈ B) l → (∀ k ∈ bindersN o b a, k ∈ B) → (∀ k ∈ bndTs l, k ∈ B) → RelU B ν s s' →
    RelU B ν (walkUs deep o b a i s l) (walkUs deep o (if o = 9 then b else b.map ν) (a.map (mapA ν)) i s' (mapTs ν l))
  | [], _, _, _, _, _, _, _, _, _, _, h => h
  | t :: l, deep, o, b, a, i, s, s', hv, ho, hb, h => by
    simp only [walkUs, mapTs, bound_map]
    refine walkUs_map hi l deep o b a (i + 1) _ _ hv.2 ho (fun k hk => hb k (by simp only [bndTs, List.mem_append]; exact .inr hk)) ?_
    exact walkU_map hi t _ _ _ hv.1 (fun k hk => hb k (by simp only [bndTs, List.mem_append]; exact .inl hk)) (RelU.bind hi _ _ (fun k hk => ho k (bound_sub hk)) h)
end
theorem bnd_perm {e : List Ex} (h : IsTree e) : (allBinders e).Perm (bndT (grow e)) := by
  rw [List.perm_iff_count]
  intro k
  have h5 := bnd_count k (grow e)
  rw [← sum_tree _ h] at h5
  have h6 : (((allBinders e).count k : Nat) : Int) = ((labs e).map (cntB k)).sum := by rw [allBinders_labs, count_flat]; rfl
  omega
theorem use_renamed {e : List Ex} (h : check e = 0) (f : Int) : ((useOf (listT [] (rnT nmN f (grow e)).1)).map (·.2)).Perm ((useOf e).map (·.2)) := by
  obtain ⟨ν, h1, h2⟩ := rn_mapT h f
  have t1 := body_isTree h
  obtain ⟨_, _, _, p4⟩ := check_parts h
  have hi := injOn_of h2
  have hrel := walkU_map hi (grow e) 0 CS0 CS0 (vars_in (bndT (grow e)) (grow e) [] p4 (fun k hk => by simp at hk) fun _ hk => hk) (fun _ hk => hk) (fun k _ => ⟨rfl, rfl, rfl⟩)
  have hs : ∀ k ∈ bndT (grow e), howU (useS (listT [] (rnT nmN f (grow e)).1)) (ν k) = howU (useS e) k := fun k hk => by
    obtain ⟨q1, _, q3⟩ := hrel k hk
    unfold howU useS
    rw [grow_list, h1, q1, q3]
  have e1 : ∀ g : List Ex, (useOf g).map (·.2) = (allBinders g).map (howU (useS g)) := fun g => by unfold useOf useL; rw [List.map_map]; rfl
  rw [e1, e1]
  have p1 := bnd_perm (isTree_list (rnT nmN f (grow e)).1)
  rw [grow_list] at p1
  have p2 := (p1.map (howU (useS (listT [] (rnT nmN f (grow e)).1))))
  refine p2.trans ?_
  rw [h1, bnd_map, List.map_map]
  rw [← h1]
  refine List.Perm.trans (List.Perm.of_eq (List.map_congr_left fun k hk => hs k hk)) ?_
  exact ((bnd_perm t1).map _).symm
end Go.CoreX
/- UsageRenamed, walked. -/
namespace Go.Abs
set_option linter.unusedVariables false
variable {E : Env} {o : Oper} {fr : Fr} {σ : St}
/-- The place of an element of an array object that is written in place. -/
theorem AStep.idxArrOwn {t : TypeId} {ti tj : TI} {x i : Operand} {k : IntKind} {j : Id} {off n : Nat} (hT : TabOk E.P E.T) (ho : o.op = .indexAddr t x i) (ht : Tab.get t E.T = some ti) (hk : Nat.beq ti.kind 3 = true) (hj : Tab.get ti.elem E.T = some tj)
    (hx : aEval E.Γ fr x = some (.one (.ptr j off))) (hi' : aEval E.Γ fr i = some (.one (.lit (.int k n)))) (hn : n < ti.len) : AStep E o fr σ (.one (.ptr j (off + n * tj.size))) σ := by
  refine AStep.quiet fun F w C tmps hi hf => ?_
  have h1 := aEval_ok (a := ⟨tmps, []⟩) hi hf hx
  have h2 := aEval_ok (a := ⟨tmps, []⟩) hi hf hi'
  simp only [RF, R] at h1 h2
  obtain ⟨hok, hv⟩ := h1
  obtain ⟨inf, d, z, _, hu, _, _, _, _, _, hkd⟩ := (hT t ti ht).ex
  have hkd' : d = .array ti.len ti.elem := by simpa [kindOf, Nat.eq_of_beq_eq_true hk] using hkd
  subst hkd'
  have hsz := (hT _ _ hj).run_sizeOf (w := w)
  have hlt' : (n : Int) < ti.len := by omega
  refine ⟨.pointer (some ((⟨C.blk j, off, none⟩ : Addr).add (n * tj.size))), ?_, hok, ?_⟩
  · unfold execOp
    simp only [ho]
    simp [Instr.indexAt, hv, h2.1, asIntOf, run_underlying hu, Instr.sureAddr, hn, hsz, Result.andThen]
  · rw [Addr.add_none rfl]
end Go.Abs
namespace Go
theorem part_at {P : Program} {e : TypeId} {xs : Array Value} {n : Nat} {v : Value} (w : World) (ha : ∀ w, (isAgg e).run P w = .ok false w) (hv : xs[n]? = some v) : (part e xs n).run P w = .ok v w := by
  unfold part
  simp [Sem.run_bind, ha, hv]
theorem run_equalIn_arr3 {P : Program} (w : World) (d : Nat) {t e : TypeId} {k : IntKind} (a b c : Int) (ht : P.underlying t = some (.array 3 e)) (he : P.underlying e = some (.int k)) (ha : ∀ w, (isAgg e).run P w = .ok false w) (hz : ∀ w, (sizeOf e).run P w = .ok 1 w) :
    (Op.equalIn (d + 1 + 1) t (.agg #[.int k a, .int k b, .int k c]) (.agg #[.int k a, .int k b, .int k c])).run P w = .ok true w := by
  have h0 := part_at (P := P) (e := e) (xs := #[.int k a, .int k b, .int k c]) (n := 0) w ha rfl
  have h1 := part_at (P := P) (e := e) (xs := #[.int k a, .int k b, .int k c]) (n := 1) w ha rfl
  have h2 := part_at (P := P) (e := e) (xs := #[.int k a, .int k b, .int k c]) (n := 2) w ha rfl
  rw [Op.equalIn.eq_2]
  simp only [Sem.run_bind, run_underlying ht, Result.andThen_ok, hz]
  simp [Std.Legacy.Range.forIn_eq_forIn_range', Std.Legacy.Range.size, List.range'_succ, Sem.run_bind, h0, h1, h2, run_equalIn_int w d e k k _ _ he]
end Go
namespace Go.Proofs.YtnonkoeknpmcjaaDoor
open Go Go.Abs Go.CoreX
set_option maxRecDepth 10000
set_option linter.unusedVariables false
set_option linter.unusedSimpArgs false
variable {Γ : List (Nat × List AC)}
theorem how_range (s : CS) (n : Int) : ∃ k : Nat, howU s n = k ∧ k < 3 := by
  unfold howU
  split
  · exact ⟨0, rfl, by omega⟩
  · split
    · exact ⟨1, rfl, by omega⟩
    · exact ⟨2, rfl, by omega⟩
def cnU (l : List (Int × Int)) (i : Nat) (k : Int) : Int := (((l.take i).map (·.2)).count k : Nat)
def cuU (l m : List (Int × Int)) (i j : Nat) : List AC := [int (cnU l i 0), int (cnU l i 1), int (cnU l i 2), int (cnU m j 0), int (cnU m j 1), int (cnU m j 2)]
theorem cnU_succ {l : List (Int × Int)} {i : Nat} {u : Int × Int} (h : l[i]? = some u) (k : Int) : cnU l (i + 1) k = cnU l i k + if u.2 = k then 1 else 0 := by
  unfold cnU
  rw [take_succ_of h, List.map_append, List.count_append]
  simp only [List.map_cons, List.map_nil, List.count_cons, List.count_nil, beq_iff_eq]
  split <;> simp
theorem cnU_le (l : List (Int × Int)) (i : Nat) (k : Int) : 0 ≤ cnU l i k ∧ cnU l i k ≤ l.length := by
  unfold cnU
  have h := List.count_le_length (a := k) (l := (l.take i).map (·.2))
  simp only [List.length_map, List.length_take] at h
  omega
theorem cuU_l {l m : List (Int × Int)} {i j k : Nat} {u : Int × Int} (h : l[i]? = some u) (hk : u.2 = k) (h3 : k < 3) : (cuU l m i j)[k]? = some (int (cnU l i k)) ∧ (cuU l m i j).set k (int (cnU l i k + 1)) = cuU l m (i + 1) j := by
  unfold cuU
  simp only [cnU_succ h, hk]
  match k, h3 with
  | 0, _ => simp
  | 1, _ => simp
  | 2, _ => simp
theorem cuU_m {l m : List (Int × Int)} {i j k : Nat} {u : Int × Int} (h : m[j]? = some u) (hk : u.2 = k) (h3 : k < 3) : (cuU l m i j)[3 + k]? = some (int (cnU m j k)) ∧ (cuU l m i j).set (3 + k) (int (cnU m j k + 1)) = cuU l m i (j + 1) := by
  unfold cuU
  simp only [cnU_succ h, hk]
  match k, h3 with
  | 0, _ => simp
  | 1, _ => simp
  | 2, _ => simp
theorem AStep.eqC3 {T : Tab} {N : Nat} {o : Oper} {fr : Fr} {σ : St} {x y : Operand} {a b c : Int} (ho : o.op = .binOp .eql 53 x y 53) (hx : aEval Γ fr x = some (.agg [int a, int b, int c])) (hy : aEval Γ fr y = some (.agg [int a, int b, int c])) : AStep { P := Tryd.prog, T := T, Γ := Γ, N := N } o fr σ (.one (.lit (.bool true))) σ := by
  refine AStep.quiet fun F w C tmps hi hf => ⟨.bool true, ?_, rfl, rfl⟩
  have h1 := aEval_ok (a := ⟨tmps, []⟩) hi hf hx
  have h2 := aEval_ok (a := ⟨tmps, []⟩) hi hf hy
  simp only [RF, RV, R] at h1 h2
  obtain ⟨xs, h1, u1, us1, rfl, ⟨rfl, _⟩, u2, us2, rfl, ⟨rfl, _⟩, u3, us3, rfl, ⟨rfl, _⟩, rfl⟩ := h1
  obtain ⟨ys, h2, v1, vs1, rfl, ⟨rfl, _⟩, v2, vs2, rfl, ⟨rfl, _⟩, v3, vs3, rfl, ⟨rfl, _⟩, rfl⟩ := h2
  have hm : Tryd.prog.eqGuardType Tryd.prog.depth 53 = false := by kernel_rfl
  have u3 := Tryd.underlying3
  have a3 := Tryd.isAgg3
  have z3 := Tryd.sizeOf3
  have hb : ∀ w, (binOp .eql 53 (.agg #[.int .i64 a, .int .i64 b, .int .i64 c]) (.agg #[.int .i64 a, .int .i64 b, .int .i64 c])).run Tryd.prog w = .ok (.bool true) w := fun w => by
    rw [run_eql_struct, show (10000 : Nat) = 9998 + 1 + 1 from rfl]
    rw [run_equalIn_arr3 w 9998 a b c Tryd.underlying53 u3 a3 z3]
    rfl
  unfold execOp
  simp only [ho, h1, h2, Sem.run_bind, run_eqGuard_agg _ _ _ _ _ _ _ hm, Result.andThen_ok]
  rw [hb]
  simp
@[simp] theorem ren_cuU (ρ : Nat → Nat) (l m : List (Int × Int)) (i j : Nat) : AObj.ren ρ (.cells (cuU l m i j)) = .cells (cuU l m i j) := rfl
@[simp] theorem ids_cuU (p : Abs.Id → Prop) (l m : List (Int × Int)) (i j : Nat) : idsL p (cuU l m i j) := by simp [cuU]
theorem UsageRenamed_ok (e : List Ex) (he : okB e) : APure Tryd.prog Γc 9 [.one (.sl 5 (e.map cEx))] (.one (.lit (.bool true))) := by
  have c1 := Renew_ok e he 7
  have cU := UseOf_ok e he
  intro ou
  refine AFn.walk 110 tabOk Tryd.func9 rfl (by kernel_rfl) rfl rfl fun hou => ?_
  repeat first | (with_reducible refine oj ?_; refine AOps.auto tabOk rfl ?_) | (with_reducible first | refine o1 ?_ | refine o2 ?_ | refine o3 ?_ | refine o4 ?_ | refine o5 ?_ | refine o6 ?_ | refine o7 ?_ | refine o8 ?_ | refine o9 ?_ | refine oa ?_ | refine ob ?_ | refine oc ?_ | refine od ?_ | refine oe ?_ | refine og ?_ | refine oh ?_ | refine oi ?_) | (with_reducible refine cExitMiss ?_ ?_; rfl) | (with_reducible refine ok ?_; first | refine ACode.condT rfl ?_ | refine ACode.condF rfl ?_)
  refine AOps.callC hΓc usageFact_ok rfl rfl rfl rfl rfl rfl rfl hou (by simp) ?_
  repeat first | (with_reducible refine oj ?_; refine AOps.auto tabOk rfl ?_) | (with_reducible first | refine o1 ?_ | refine o2 ?_ | refine o3 ?_ | refine o4 ?_ | refine o5 ?_ | refine o6 ?_ | refine o7 ?_ | refine o8 ?_ | refine o9 ?_ | refine oa ?_ | refine ob ?_ | refine oc ?_ | refine od ?_ | refine oe ?_ | refine og ?_ | refine oh ?_ | refine oi ?_) | (with_reducible refine cExitMiss ?_ ?_; rfl) | (with_reducible refine ok ?_; first | refine ACode.condT rfl ?_ | refine ACode.condF rfl ?_)
  by_cases h : check e = 0
  · have hns := nb_small h
    have hend := rnT_end (grow e) nmN 7
    have hT1 : (rnT nmN 7 (grow e)).2.2 ≤ 1048576 := by omega
    have hre : renewE e 7 = (listT [] (rnT nmN 7 (grow e)).1, 0) := by
      unfold renewE
      have hT2 : (rnT (fun _ => none) 7 (grow e)).2.2 ≤ 1048576 := hT1
      rw [if_neg (by simpa using h), if_neg (by omega), if_neg (by omega)]
    rw [hre] at c1
    simp only at c1
    have hcg := check_rn h (by decide) hT1
    have hog := okB_rn he h nmN 7
    have hpm := use_renamed h 7
    have cV := UseOf_ok _ hog
    generalize listT [] (rnT nmN 7 (grow e)).1 = g at c1 hcg hog hpm cV
    refine AOps.callC hΓc c1 rfl rfl rfl rfl rfl rfl rfl hou (by simp) ?_
    repeat first | (with_reducible refine oj ?_; refine AOps.auto tabOk rfl ?_) | (with_reducible first | refine o1 ?_ | refine o2 ?_ | refine o3 ?_ | refine o4 ?_ | refine o5 ?_ | refine o6 ?_ | refine o7 ?_ | refine o8 ?_ | refine o9 ?_ | refine oa ?_ | refine ob ?_ | refine oc ?_ | refine od ?_ | refine oe ?_ | refine og ?_ | refine oh ?_ | refine oi ?_) | (with_reducible refine cExitMiss ?_ ?_; rfl) | (with_reducible refine ok ?_; first | refine ACode.condT rfl ?_ | refine ACode.condF rfl ?_)
    refine AOps.call1 hΓc rfl rfl rfl rfl rfl rfl rfl (by simp) hou (cU ou) fun r ou1 hq hids hou' => ?_
    obtain ⟨rfl, hq⟩ := hq
    rcases hq with ⟨h2, _⟩ | ⟨_, l, hp, rfl⟩
    · exact absurd h h2
    clear hids
    repeat first | (with_reducible refine oj ?_; refine AOps.auto tabOk rfl ?_) | (with_reducible first | refine o1 ?_ | refine o2 ?_ | refine o3 ?_ | refine o4 ?_ | refine o5 ?_ | refine o6 ?_ | refine o7 ?_ | refine o8 ?_ | refine o9 ?_ | refine oa ?_ | refine ob ?_ | refine oc ?_ | refine od ?_ | refine oe ?_ | refine og ?_ | refine oh ?_ | refine oi ?_) | (with_reducible refine cExitMiss ?_ ?_; rfl) | (with_reducible refine ok ?_; first | refine ACode.condT rfl ?_ | refine ACode.condF rfl ?_)
    refine AOps.call1 hΓc rfl rfl rfl rfl rfl rfl rfl (by simp) hou (cV _) fun r ou2 hq hids hou2 => ?_
    obtain ⟨rfl, hq⟩ := hq
    rcases hq with ⟨h2, _⟩ | ⟨_, m, hp2, rfl⟩
    · exact absurd hcg h2
    clear hids
    have hpp : (m.map (·.2)).Perm (l.map (·.2)) := (hp2.map _).trans (hpm.trans (hp.map _).symm)
    have hlen : m.length = l.length := by simpa using hpp.length_eq
    have hrl : ∀ u ∈ l, ∃ k : Nat, u.2 = k ∧ k < 3 := fun u hu => by
      have h1 := hp.mem_iff.1 hu
      unfold useOf useL at h1
      obtain ⟨n, _, rfl⟩ := List.mem_map.1 h1
      exact how_range _ n
    have hrm : ∀ u ∈ m, ∃ k : Nat, u.2 = k ∧ k < 3 := fun u hu => by
      have h1 := hp2.mem_iff.1 hu
      unfold useOf useL at h1
      obtain ⟨n, _, rfl⟩ := List.mem_map.1 h1
      exact how_range _ n
    have hll : l.length ≤ 1048576 * 4194304 := by
      rw [hp.length_eq]
      unfold useOf useL
      rw [List.length_map]
      exact Nat.le_trans (flat_le (c := 4194304) fun x hx => (he.ex x hx).1) (Nat.mul_le_mul_right _ he.eo.l)
    clear hp hp2 hpm cU cV c1 hog hcg hT1 hend hns hre
    repeat first | (with_reducible refine oj ?_; refine AOps.auto tabOk rfl ?_) | (with_reducible first | refine o1 ?_ | refine o2 ?_ | refine o3 ?_ | refine o4 ?_ | refine o5 ?_ | refine o6 ?_ | refine o7 ?_ | refine o8 ?_ | refine o9 ?_ | refine oa ?_ | refine ob ?_ | refine oc ?_ | refine od ?_ | refine oe ?_ | refine og ?_ | refine oh ?_ | refine oi ?_) | (with_reducible refine cExitMiss ?_ ?_; rfl) | (with_reducible refine ok ?_; first | refine ACode.condT rfl ?_ | refine ACode.condF rfl ?_)
    refine ACode.cond rfl (fun hb => absurd hb (by simp [hlen])) (fun _ => ?_)
    repeat first | (with_reducible refine oj ?_; refine AOps.auto tabOk rfl ?_) | (with_reducible first | refine o1 ?_ | refine o2 ?_ | refine o3 ?_ | refine o4 ?_ | refine o5 ?_ | refine o6 ?_ | refine o7 ?_ | refine o8 ?_ | refine o9 ?_ | refine oa ?_ | refine ob ?_ | refine oc ?_ | refine od ?_ | refine oe ?_ | refine og ?_ | refine oh ?_ | refine oi ?_) | (with_reducible refine cExitMiss ?_ ?_; rfl) | (with_reducible refine ok ?_; first | refine ACode.condT rfl ?_ | refine ACode.condF rfl ?_)
    refine ACode.loopR hΓc (α := Nat) (fun i => [(49, .one (int i)), (48, .one (int (l.map cUs).length)), (9, .one (.ptr (.l 0) 0)), (7, .one (.sl 2 (m.map cUs))), (5, .one (.sl 2 (l.map cUs)))])
      (fun i => ⟨1, [(0, .cells (cuU l m i i))], ou2⟩) (fun n i => i ≤ l.length ∧ n = l.length - i) (a0 := 0) (ρ := id) ⟨by omega, rfl⟩ (LessR.of rfl (by (repeat' first | exact FrSub.nil | refine FrSub.cons rfl (.ofEq rfl) ?_ | refine FrSub.oa rfl rfl ?_ | refine FrSub.consP rfl (.ofEq rfl) (by simp) ?_)) (by simp) (by dsimp only; rw [show cuU l m 0 0 = [int 0, int 0, int 0, int 0, int 0, int 0] from rfl]; repeat' first | exact LoSub.nil | refine LoSub.cons rfl ?_ rfl (by first | (simp; done) | exact ids_oaO (by simp)) ?_ | rfl | (refine (AObj.ren_pure _ _ ?_).symm; simp; done) | exact (ren_oaO _ _ _ _ fun _ => ids_vec (by simp; done)).symm | (simp [AObj.ren, renL, AC.ren]; done) | (simp [AObj.ren, renL, AC.ren]; rfl)) rfl rfl hou2) fun n i hi => ?_
    obtain ⟨hil, rfl⟩ := hi
    repeat first | (with_reducible refine oj ?_; refine AOps.auto tabOk rfl ?_) | (with_reducible first | refine o1 ?_ | refine o2 ?_ | refine o3 ?_ | refine o4 ?_ | refine o5 ?_ | refine o6 ?_ | refine o7 ?_ | refine o8 ?_ | refine o9 ?_ | refine oa ?_ | refine ob ?_ | refine oc ?_ | refine od ?_ | refine oe ?_ | refine og ?_ | refine oh ?_ | refine oi ?_) | (with_reducible refine cExitMiss ?_ ?_; rfl) | (with_reducible refine ok ?_; first | refine ACode.condT rfl ?_ | refine ACode.condF rfl ?_)
    refine ACode.cond rfl (fun hb => ?_) (fun hb => ?_)
    · have hlt : i < l.length := by simpa using hb
      obtain ⟨u, hu⟩ := get_of_lt hlt
      obtain ⟨v, hv⟩ := get_of_lt (l := m) (i := i) (by omega)
      obtain ⟨k, hk, hk3⟩ := hrl u (List.mem_of_getElem? hu)
      obtain ⟨q, hq, hq3⟩ := hrm v (List.mem_of_getElem? hv)
      repeat first | (with_reducible refine oj ?_; refine AOps.auto tabOk rfl ?_) | (with_reducible first | refine o1 ?_ | refine o2 ?_ | refine o3 ?_ | refine o4 ?_ | refine o5 ?_ | refine o6 ?_ | refine o7 ?_ | refine o8 ?_ | refine o9 ?_ | refine oa ?_ | refine ob ?_ | refine oc ?_ | refine od ?_ | refine oe ?_ | refine og ?_ | refine oh ?_ | refine oi ?_) | (with_reducible refine cExitMiss ?_ ?_; rfl) | (with_reducible refine ok ?_; first | refine ACode.condT rfl ?_ | refine ACode.condF rfl ?_)
      refine AOps.step1 rfl rfl rfl (AStep.indexAddr tabOk rfl rfl rfl rfl rfl rfl (.inl rfl) rfl (by omega) (map_get hu)) ?_
      repeat first | (with_reducible refine oj ?_; refine AOps.auto tabOk rfl ?_) | (with_reducible first | refine o1 ?_ | refine o2 ?_ | refine o3 ?_ | refine o4 ?_ | refine o5 ?_ | refine o6 ?_ | refine o7 ?_ | refine o8 ?_ | refine o9 ?_ | refine oa ?_ | refine ob ?_ | refine oc ?_ | refine od ?_ | refine oe ?_ | refine og ?_ | refine oh ?_ | refine oi ?_) | (with_reducible refine cExitMiss ?_ ?_; rfl) | (with_reducible refine ok ?_; first | refine ACode.condT rfl ?_ | refine ACode.condF rfl ?_)
      refine AOps.wk 58 rfl (y := .one (.lit (.bool false))) (.ofEq (by simp [hk])) ?_
      repeat first | (with_reducible refine oj ?_; refine AOps.auto tabOk rfl ?_) | (with_reducible first | refine o1 ?_ | refine o2 ?_ | refine o3 ?_ | refine o4 ?_ | refine o5 ?_ | refine o6 ?_ | refine o7 ?_ | refine o8 ?_ | refine o9 ?_ | refine oa ?_ | refine ob ?_ | refine oc ?_ | refine od ?_ | refine oe ?_ | refine og ?_ | refine oh ?_ | refine oi ?_) | (with_reducible refine cExitMiss ?_ ?_; rfl) | (with_reducible refine ok ?_; first | refine ACode.condT rfl ?_ | refine ACode.condF rfl ?_)
      refine AOps.stepG rfl rfl rfl rfl rfl (AStep.indexAddr tabOk rfl rfl rfl rfl rfl rfl (.inl rfl) rfl (by omega) (map_get hu)) ?_
      repeat first | (with_reducible refine oj ?_; refine AOps.auto tabOk rfl ?_) | (with_reducible first | refine o1 ?_ | refine o2 ?_ | refine o3 ?_ | refine o4 ?_ | refine o5 ?_ | refine o6 ?_ | refine o7 ?_ | refine o8 ?_ | refine o9 ?_ | refine oa ?_ | refine ob ?_ | refine oc ?_ | refine od ?_ | refine oe ?_ | refine og ?_ | refine oh ?_ | refine oi ?_) | (with_reducible refine cExitMiss ?_ ?_; rfl) | (with_reducible refine ok ?_; first | refine ACode.condT rfl ?_ | refine ACode.condF rfl ?_)
      refine AOps.wk 66 rfl (y := .one (.lit (.bool false))) (.ofEq (by simp [hk]; omega)) ?_
      repeat first | (with_reducible refine oj ?_; refine AOps.auto tabOk rfl ?_) | (with_reducible first | refine o1 ?_ | refine o2 ?_ | refine o3 ?_ | refine o4 ?_ | refine o5 ?_ | refine o6 ?_ | refine o7 ?_ | refine o8 ?_ | refine o9 ?_ | refine oa ?_ | refine ob ?_ | refine oc ?_ | refine od ?_ | refine oe ?_ | refine og ?_ | refine oh ?_ | refine oi ?_) | (with_reducible refine cExitMiss ?_ ?_; rfl) | (with_reducible refine ok ?_; first | refine ACode.condT rfl ?_ | refine ACode.condF rfl ?_)
      refine AOps.stepG rfl rfl rfl rfl rfl (AStep.indexAddr tabOk rfl rfl rfl rfl rfl rfl (.inl rfl) rfl (by omega) (map_get hv)) ?_
      repeat first | (with_reducible refine oj ?_; refine AOps.auto tabOk rfl ?_) | (with_reducible first | refine o1 ?_ | refine o2 ?_ | refine o3 ?_ | refine o4 ?_ | refine o5 ?_ | refine o6 ?_ | refine o7 ?_ | refine o8 ?_ | refine o9 ?_ | refine oa ?_ | refine ob ?_ | refine oc ?_ | refine od ?_ | refine oe ?_ | refine og ?_ | refine oh ?_ | refine oi ?_) | (with_reducible refine cExitMiss ?_ ?_; rfl) | (with_reducible refine ok ?_; first | refine ACode.condT rfl ?_ | refine ACode.condF rfl ?_)
      refine AOps.wk 74 rfl (y := .one (.lit (.bool false))) (.ofEq (by simp [hq])) ?_
      repeat first | (with_reducible refine oj ?_; refine AOps.auto tabOk rfl ?_) | (with_reducible first | refine o1 ?_ | refine o2 ?_ | refine o3 ?_ | refine o4 ?_ | refine o5 ?_ | refine o6 ?_ | refine o7 ?_ | refine o8 ?_ | refine o9 ?_ | refine oa ?_ | refine ob ?_ | refine oc ?_ | refine od ?_ | refine oe ?_ | refine og ?_ | refine oh ?_ | refine oi ?_) | (with_reducible refine cExitMiss ?_ ?_; rfl) | (with_reducible refine ok ?_; first | refine ACode.condT rfl ?_ | refine ACode.condF rfl ?_)
      refine AOps.stepG rfl rfl rfl rfl rfl (AStep.indexAddr tabOk rfl rfl rfl rfl rfl rfl (.inl rfl) rfl (by omega) (map_get hv)) ?_
      repeat first | (with_reducible refine oj ?_; refine AOps.auto tabOk rfl ?_) | (with_reducible first | refine o1 ?_ | refine o2 ?_ | refine o3 ?_ | refine o4 ?_ | refine o5 ?_ | refine o6 ?_ | refine o7 ?_ | refine o8 ?_ | refine o9 ?_ | refine oa ?_ | refine ob ?_ | refine oc ?_ | refine od ?_ | refine oe ?_ | refine og ?_ | refine oh ?_ | refine oi ?_) | (with_reducible refine cExitMiss ?_ ?_; rfl) | (with_reducible refine ok ?_; first | refine ACode.condT rfl ?_ | refine ACode.condF rfl ?_)
      refine ACode.cond rfl (fun hb => absurd hb (by simp [hq]; omega)) (fun _ => ?_)
      repeat first | (with_reducible refine oj ?_; refine AOps.auto tabOk rfl ?_) | (with_reducible first | refine o1 ?_ | refine o2 ?_ | refine o3 ?_ | refine o4 ?_ | refine o5 ?_ | refine o6 ?_ | refine o7 ?_ | refine o8 ?_ | refine o9 ?_ | refine oa ?_ | refine ob ?_ | refine oc ?_ | refine od ?_ | refine oe ?_ | refine og ?_ | refine oh ?_ | refine oi ?_) | (with_reducible refine cExitMiss ?_ ?_; rfl) | (with_reducible refine ok ?_; first | refine ACode.condT rfl ?_ | refine ACode.condF rfl ?_)
      refine AOps.step1 rfl rfl rfl (AStep.indexAddr tabOk rfl rfl rfl rfl rfl rfl (.inl rfl) rfl (by omega) (map_get hu)) ?_
      repeat first | (with_reducible refine oj ?_; refine AOps.auto tabOk rfl ?_) | (with_reducible first | refine o1 ?_ | refine o2 ?_ | refine o3 ?_ | refine o4 ?_ | refine o5 ?_ | refine o6 ?_ | refine o7 ?_ | refine o8 ?_ | refine o9 ?_ | refine oa ?_ | refine ob ?_ | refine oc ?_ | refine od ?_ | refine oe ?_ | refine og ?_ | refine oh ?_ | refine oi ?_) | (with_reducible refine cExitMiss ?_ ?_; rfl) | (with_reducible refine ok ?_; first | refine ACode.condT rfl ?_ | refine ACode.condF rfl ?_)
      refine AOps.wk 86 rfl (y := .one (int k)) (.ofEq (by simp [hk])) ?_
      obtain ⟨w1, w2⟩ := cuU_l (m := m) (j := i) hu hk hk3
      obtain ⟨w3, w4⟩ := cuU_m (l := l) (i := i + 1) hv hq hq3
      have w5 := cnU_le l i k
      have w6 := cnU_le m i q
      refine AOps.step1 rfl rfl rfl (AStep.idxArrOwn (n := 0) tabOk rfl rfl rfl rfl rfl rfl (by decide)) ?_
      refine AOps.step1 rfl rfl rfl (AStep.idxArrOwn (n := k) tabOk rfl rfl rfl rfl rfl rfl hk3) ?_
      refine AOps.wk 88 rfl (y := .one (.ptr (.l 0) k)) (.ofEq (by show FV.one (.ptr (.l 0) (0 + 0 * 3 + k * 1)) = _; rw [show 0 + 0 * 3 + k * 1 = k by omega])) ?_
      refine AOps.step1 rfl rfl rfl (AStep.loadOwn tabOk rfl rfl rfl rfl rfl rfl w1) ?_
      repeat' first | (with_reducible refine oj ?_; refine AOps.auto tabOk rfl ?_) | (with_reducible first | refine o1 ?_ | refine o2 ?_ | refine o3 ?_ | refine o4 ?_ | refine o5 ?_ | refine o6 ?_ | refine o7 ?_ | refine o8 ?_ | refine o9 ?_ | refine oa ?_ | refine ob ?_ | refine oc ?_ | refine od ?_ | refine oe ?_ | refine og ?_ | refine oh ?_ | refine oi ?_) | (with_reducible refine cExitMiss ?_ ?_; rfl) | (with_reducible refine ok ?_; first | refine ACode.condT rfl ?_ | refine ACode.condF rfl ?_) | (with_reducible refine oj ?_; first | refine AOps.step1 rfl rfl rfl (AStep.arith rfl rfl rfl (.inl ⟨rfl, rfl⟩) (inRange_i64 (by first | omega | (simp; omega)) (by first | omega | (simp; omega)))) ?_ | refine AOps.step1 rfl rfl rfl (AStep.arith rfl rfl rfl (.inr (.inl ⟨rfl, rfl⟩)) (inRange_i64 (by first | omega | (simp; omega)) (by first | omega | (simp; omega)))) ?_ | refine AOps.step1 rfl rfl rfl (AStep.neBool Tryd.underlying4 rfl rfl rfl) ?_ | refine AOps.step1 rfl rfl rfl (AStep.eqBool Tryd.underlying4 rfl rfl rfl) ?_ | refine AOps.step1 rfl rfl rfl (AStep.max2 (t := 3) (ty := 3) rfl rfl rfl) ?_ | refine AOps.step1 rfl rfl rfl (AStep.min2 (t := 3) (ty := 3) rfl rfl rfl) ?_ | refine AOps.unG rfl rfl rfl ?_)
      refine AOps.step1 rfl rfl rfl (AStep.idxArrOwn (n := 0) tabOk rfl rfl rfl rfl rfl rfl (by decide)) ?_
      refine AOps.step1 rfl rfl rfl (AStep.idxArrOwn (n := k) tabOk rfl rfl rfl rfl rfl rfl hk3) ?_
      refine AOps.wk 92 rfl (y := .one (.ptr (.l 0) k)) (.ofEq (by show FV.one (.ptr (.l 0) (0 + 0 * 3 + k * 1)) = _; rw [show 0 + 0 * 3 + k * 1 = k by omega])) ?_
      refine AOps.storeOwn tabOk rfl rfl rfl rfl rfl rfl rfl rfl (List.getElem?_eq_some_iff.1 w1).1 ?_
      rw [show (cuU l m i i).set k (AC.lit (Value.int IntKind.i64 (cnU l i k + 1))) = cuU l m (i + 1) i from w2]
      repeat first | (with_reducible refine oj ?_; refine AOps.auto tabOk rfl ?_) | (with_reducible first | refine o1 ?_ | refine o2 ?_ | refine o3 ?_ | refine o4 ?_ | refine o5 ?_ | refine o6 ?_ | refine o7 ?_ | refine o8 ?_ | refine o9 ?_ | refine oa ?_ | refine ob ?_ | refine oc ?_ | refine od ?_ | refine oe ?_ | refine og ?_ | refine oh ?_ | refine oi ?_) | (with_reducible refine cExitMiss ?_ ?_; rfl) | (with_reducible refine ok ?_; first | refine ACode.condT rfl ?_ | refine ACode.condF rfl ?_)
      refine AOps.step1 rfl rfl rfl (AStep.indexAddr tabOk rfl rfl rfl rfl rfl rfl (.inl rfl) rfl (by omega) (map_get hv)) ?_
      repeat first | (with_reducible refine oj ?_; refine AOps.auto tabOk rfl ?_) | (with_reducible first | refine o1 ?_ | refine o2 ?_ | refine o3 ?_ | refine o4 ?_ | refine o5 ?_ | refine o6 ?_ | refine o7 ?_ | refine o8 ?_ | refine o9 ?_ | refine oa ?_ | refine ob ?_ | refine oc ?_ | refine od ?_ | refine oe ?_ | refine og ?_ | refine oh ?_ | refine oi ?_) | (with_reducible refine cExitMiss ?_ ?_; rfl) | (with_reducible refine ok ?_; first | refine ACode.condT rfl ?_ | refine ACode.condF rfl ?_)
      refine AOps.wk 97 rfl (y := .one (int q)) (.ofEq (by simp [hq])) ?_
      refine AOps.step1 rfl rfl rfl (AStep.idxArrOwn (n := 1) tabOk rfl rfl rfl rfl rfl rfl (by decide)) ?_
      refine AOps.step1 rfl rfl rfl (AStep.idxArrOwn (n := q) tabOk rfl rfl rfl rfl rfl rfl hq3) ?_
      refine AOps.wk 99 rfl (y := .one (.ptr (.l 0) (3 + q))) (.ofEq (by show FV.one (.ptr (.l 0) (0 + 1 * 3 + q * 1)) = _; rw [show 0 + 1 * 3 + q * 1 = 3 + q by omega])) ?_
      refine AOps.step1 rfl rfl rfl (AStep.loadOwn tabOk rfl rfl rfl rfl rfl rfl w3) ?_
      repeat' first | (with_reducible refine oj ?_; refine AOps.auto tabOk rfl ?_) | (with_reducible first | refine o1 ?_ | refine o2 ?_ | refine o3 ?_ | refine o4 ?_ | refine o5 ?_ | refine o6 ?_ | refine o7 ?_ | refine o8 ?_ | refine o9 ?_ | refine oa ?_ | refine ob ?_ | refine oc ?_ | refine od ?_ | refine oe ?_ | refine og ?_ | refine oh ?_ | refine oi ?_) | (with_reducible refine cExitMiss ?_ ?_; rfl) | (with_reducible refine ok ?_; first | refine ACode.condT rfl ?_ | refine ACode.condF rfl ?_) | (with_reducible refine oj ?_; first | refine AOps.step1 rfl rfl rfl (AStep.arith rfl rfl rfl (.inl ⟨rfl, rfl⟩) (inRange_i64 (by first | omega | (simp; omega)) (by first | omega | (simp; omega)))) ?_ | refine AOps.step1 rfl rfl rfl (AStep.arith rfl rfl rfl (.inr (.inl ⟨rfl, rfl⟩)) (inRange_i64 (by first | omega | (simp; omega)) (by first | omega | (simp; omega)))) ?_ | refine AOps.step1 rfl rfl rfl (AStep.neBool Tryd.underlying4 rfl rfl rfl) ?_ | refine AOps.step1 rfl rfl rfl (AStep.eqBool Tryd.underlying4 rfl rfl rfl) ?_ | refine AOps.step1 rfl rfl rfl (AStep.max2 (t := 3) (ty := 3) rfl rfl rfl) ?_ | refine AOps.step1 rfl rfl rfl (AStep.min2 (t := 3) (ty := 3) rfl rfl rfl) ?_ | refine AOps.unG rfl rfl rfl ?_)
      refine AOps.step1 rfl rfl rfl (AStep.idxArrOwn (n := 1) tabOk rfl rfl rfl rfl rfl rfl (by decide)) ?_
      refine AOps.step1 rfl rfl rfl (AStep.idxArrOwn (n := q) tabOk rfl rfl rfl rfl rfl rfl hq3) ?_
      refine AOps.wk 103 rfl (y := .one (.ptr (.l 0) (3 + q))) (.ofEq (by show FV.one (.ptr (.l 0) (0 + 1 * 3 + q * 1)) = _; rw [show 0 + 1 * 3 + q * 1 = 3 + q by omega])) ?_
      refine AOps.storeOwn tabOk rfl rfl rfl rfl rfl rfl rfl rfl (List.getElem?_eq_some_iff.1 w3).1 ?_
      rw [show (cuU l m (i + 1) i).set (3 + q) (AC.lit (Value.int IntKind.i64 (cnU m i q + 1))) = cuU l m (i + 1) (i + 1) from w4]
      repeat' first | (with_reducible refine oj ?_; refine AOps.auto tabOk rfl ?_) | (with_reducible first | refine o1 ?_ | refine o2 ?_ | refine o3 ?_ | refine o4 ?_ | refine o5 ?_ | refine o6 ?_ | refine o7 ?_ | refine o8 ?_ | refine o9 ?_ | refine oa ?_ | refine ob ?_ | refine oc ?_ | refine od ?_ | refine oe ?_ | refine og ?_ | refine oh ?_ | refine oi ?_) | (with_reducible refine cExitMiss ?_ ?_; rfl) | (with_reducible refine ok ?_; first | refine ACode.condT rfl ?_ | refine ACode.condF rfl ?_) | (with_reducible refine oj ?_; first | refine AOps.step1 rfl rfl rfl (AStep.arith rfl rfl rfl (.inl ⟨rfl, rfl⟩) (inRange_i64 (by first | omega | (simp; omega)) (by first | omega | (simp; omega)))) ?_ | refine AOps.step1 rfl rfl rfl (AStep.arith rfl rfl rfl (.inr (.inl ⟨rfl, rfl⟩)) (inRange_i64 (by first | omega | (simp; omega)) (by first | omega | (simp; omega)))) ?_ | refine AOps.step1 rfl rfl rfl (AStep.neBool Tryd.underlying4 rfl rfl rfl) ?_ | refine AOps.step1 rfl rfl rfl (AStep.eqBool Tryd.underlying4 rfl rfl rfl) ?_ | refine AOps.step1 rfl rfl rfl (AStep.max2 (t := 3) (ty := 3) rfl rfl rfl) ?_ | refine AOps.step1 rfl rfl rfl (AStep.min2 (t := 3) (ty := 3) rfl rfl rfl) ?_ | refine AOps.unG rfl rfl rfl ?_)
      exact cInv ⟨l.length - (i + 1), i + 1, id, by omega, ⟨by omega, rfl⟩, LessR.of rfl (by (repeat' first | exact FrSub.nil | refine FrSub.cons rfl (.ofEq rfl) ?_ | refine FrSub.oa rfl rfl ?_ | refine FrSub.consP rfl (.ofEq rfl) (by simp) ?_)) (by simp [cuU]) (by repeat' first | exact LoSub.nil | refine LoSub.cons rfl ?_ rfl (by first | (simp; done) | exact ids_oaO (by simp)) ?_ | rfl | (refine (AObj.ren_pure _ _ ?_).symm; simp; done) | exact (ren_oaO _ _ _ _ fun _ => ids_vec (by simp; done)).symm | (simp [AObj.ren, renL, AC.ren]; done) | (simp [AObj.ren, renL, AC.ren]; rfl)) rfl rfl hou2⟩
    · have hlt : i = l.length := by simp at hb; omega
      subst hlt
      have he3 : ∀ k : Int, cnU m l.length k = cnU l l.length k := fun k => by
        unfold cnU
        rw [List.take_length, ← hlen, List.take_length, hpp.count_eq]
      have hcu : cuU l m l.length l.length = [int (cnU l l.length 0), int (cnU l l.length 1), int (cnU l l.length 2), int (cnU l l.length 0), int (cnU l l.length 1), int (cnU l l.length 2)] := by
        unfold cuU; rw [he3, he3, he3]
      rw [hcu]
      repeat first | (with_reducible refine oj ?_; refine AOps.auto tabOk rfl ?_) | (with_reducible first | refine o1 ?_ | refine o2 ?_ | refine o3 ?_ | refine o4 ?_ | refine o5 ?_ | refine o6 ?_ | refine o7 ?_ | refine o8 ?_ | refine o9 ?_ | refine oa ?_ | refine ob ?_ | refine oc ?_ | refine od ?_ | refine oe ?_ | refine og ?_ | refine oh ?_ | refine oi ?_) | (with_reducible refine cExitMiss ?_ ?_; rfl) | (with_reducible refine ok ?_; first | refine ACode.condT rfl ?_ | refine ACode.condF rfl ?_)
      refine AOps.step1 rfl rfl rfl (AStep.idxArrOwn (n := 0) tabOk rfl rfl rfl rfl rfl rfl (by decide)) ?_
      repeat first | (with_reducible refine oj ?_; refine AOps.auto tabOk rfl ?_) | (with_reducible first | refine o1 ?_ | refine o2 ?_ | refine o3 ?_ | refine o4 ?_ | refine o5 ?_ | refine o6 ?_ | refine o7 ?_ | refine o8 ?_ | refine o9 ?_ | refine oa ?_ | refine ob ?_ | refine oc ?_ | refine od ?_ | refine oe ?_ | refine og ?_ | refine oh ?_ | refine oi ?_) | (with_reducible refine cExitMiss ?_ ?_; rfl) | (with_reducible refine ok ?_; first | refine ACode.condT rfl ?_ | refine ACode.condF rfl ?_)
      refine AOps.step1 rfl rfl rfl (AStep.idxArrOwn (n := 1) tabOk rfl rfl rfl rfl rfl rfl (by decide)) ?_
      repeat first | (with_reducible refine oj ?_; refine AOps.auto tabOk rfl ?_) | (with_reducible first | refine o1 ?_ | refine o2 ?_ | refine o3 ?_ | refine o4 ?_ | refine o5 ?_ | refine o6 ?_ | refine o7 ?_ | refine o8 ?_ | refine o9 ?_ | refine oa ?_ | refine ob ?_ | refine oc ?_ | refine od ?_ | refine oe ?_ | refine og ?_ | refine oh ?_ | refine oi ?_) | (with_reducible refine cExitMiss ?_ ?_; rfl) | (with_reducible refine ok ?_; first | refine ACode.condT rfl ?_ | refine ACode.condF rfl ?_)
      refine AOps.step1 rfl rfl rfl (AStep.eqC3 rfl rfl rfl) ?_
      repeat first | (with_reducible refine oj ?_; refine AOps.auto tabOk rfl ?_) | (with_reducible first | refine o1 ?_ | refine o2 ?_ | refine o3 ?_ | refine o4 ?_ | refine o5 ?_ | refine o6 ?_ | refine o7 ?_ | refine o8 ?_ | refine o9 ?_ | refine oa ?_ | refine ob ?_ | refine oc ?_ | refine od ?_ | refine oe ?_ | refine og ?_ | refine oh ?_ | refine oi ?_) | (with_reducible refine cExitMiss ?_ ?_; rfl) | (with_reducible refine ok ?_; first | refine ACode.condT rfl ?_ | refine ACode.condF rfl ?_)
      exact APure.fin rfl (WkF.ofEq rfl) (by simp) hou rfl
  · have hre : renewE e 7 = ([], check e) := by
      unfold renewE
      rw [if_pos (by simpa using h)]
    rw [hre] at c1
    simp only at c1
    have hn0 : (check e != 0) = true := by simpa using h
    refine AOps.callC hΓc c1 rfl rfl rfl rfl rfl rfl rfl hou (by simp) ?_
    repeat first | (with_reducible refine oj ?_; refine AOps.auto tabOk rfl ?_) | (with_reducible first | refine o1 ?_ | refine o2 ?_ | refine o3 ?_ | refine o4 ?_ | refine o5 ?_ | refine o6 ?_ | refine o7 ?_ | refine o8 ?_ | refine o9 ?_ | refine oa ?_ | refine ob ?_ | refine oc ?_ | refine od ?_ | refine oe ?_ | refine og ?_ | refine oh ?_ | refine oi ?_) | (with_reducible refine cExitMiss ?_ ?_; rfl) | (with_reducible refine ok ?_; first | refine ACode.condT rfl ?_ | refine ACode.condF rfl ?_)
    refine ACode.cond rfl (fun hb => ?_) (fun hb => absurd hn0 (by rw [hb]; simp))
    repeat first | (with_reducible refine oj ?_; refine AOps.auto tabOk rfl ?_) | (with_reducible first | refine o1 ?_ | refine o2 ?_ | refine o3 ?_ | refine o4 ?_ | refine o5 ?_ | refine o6 ?_ | refine o7 ?_ | refine o8 ?_ | refine o9 ?_ | refine oa ?_ | refine ob ?_ | refine oc ?_ | refine od ?_ | refine oe ?_ | refine og ?_ | refine oh ?_ | refine oi ?_) | (with_reducible refine cExitMiss ?_ ?_; rfl) | (with_reducible refine ok ?_; first | refine ACode.condT rfl ?_ | refine ACode.condF rfl ?_)
    refine AOps.callC hΓc (Check_ok e he) rfl rfl rfl rfl rfl rfl rfl hou (by simp) ?_
    repeat first | (with_reducible refine oj ?_; refine AOps.auto tabOk rfl ?_) | (with_reducible first | refine o1 ?_ | refine o2 ?_ | refine o3 ?_ | refine o4 ?_ | refine o5 ?_ | refine o6 ?_ | refine o7 ?_ | refine o8 ?_ | refine o9 ?_ | refine oa ?_ | refine ob ?_ | refine oc ?_ | refine od ?_ | refine oe ?_ | refine og ?_ | refine oh ?_ | refine oi ?_) | (with_reducible refine cExitMiss ?_ ?_; rfl) | (with_reducible refine ok ?_; first | refine ACode.condT rfl ?_ | refine ACode.condF rfl ?_)
    refine APure.fin rfl (WkF.ofEq ?_) (by simp) hou rfl
    simp
end Go.Proofs.YtnonkoeknpmcjaaDoor
/- What a row's reading gives: expressions as plain data, and what the bound on their bulk gives. -/
namespace Go.Proofs.YtnonkoeknpmcjaaDoor
open Go Go.Abs Go.CoreX
set_option maxRecDepth 10000
set_option linter.unusedVariables false
set_option linter.unusedSimpArgs false
theorem bulkAll_eq {H : Type} : ∀ l : List (DataW H), Rows.uptoBulkAll l = bulkAll Rows.uptoBulk l
  | [] => rfl
  | d :: l => by simp only [Rows.uptoBulkAll, bulkAll, List.map_cons, List.sum_cons] at *; rw [bulkAll_eq l]; rfl
theorem bulk_agg {H : Type} (l : List (DataW H)) : bulkAll Rows.uptoBulk l + 1 ≤ Rows.uptoBulk (.agg l) := by
  simp only [Rows.uptoBulk, bulkAll_eq]; omega
theorem bulk_slice {H : Type} (l r : List (DataW H)) : bulkAll Rows.uptoBulk l + 1 ≤ Rows.uptoBulk (.slice l r) := by
  simp only [Rows.uptoBulk, bulkAll_eq]; omega
theorem bulk_nil {H : Type} : 1 ≤ Rows.uptoBulk (DataW.nil : DataW H) := by simp [Rows.uptoBulk]
section
variable {H : Type} {enc : TypeId × Value → H} {w : World}
abbrev I64 := {i : Int // IntKind.i64.min ≤ i ∧ i ≤ IntKind.i64.max}
theorem opens_int (n : Nat) : Opens enc Tryd.prog w Rows.uptoBulk 3 n (fun i : I64 => [int i.1]) (fun _ => 1) := by
  intro cs x h
  obtain ⟨i, rfl, rfl, hw⟩ := DataW.trod_int Tryd.underlying3 h
  refine ⟨⟨i, ?_⟩, ⟨_, _, rfl, ⟨rfl, rfl⟩, rfl⟩, by simp [Rows.uptoBulk]⟩
  simpa [Lit.wf] using hw
theorem opens_slice {t e : TypeId} {s : Nat} (ht : Tryd.prog.underlying t = some (.slice e)) (hs : Tryd.prog.cellsOf e = s) (h0 : 0 < s) {α : Type} {c : α → List AC} {wt : α → Nat} (n : Nat) (he : ∀ m, m < n → Opens enc Tryd.prog w Rows.uptoBulk e m c wt) :
    Opens enc Tryd.prog w Rows.uptoBulk t n (fun l : List α => [.sl s (l.map c)]) (fun l => wtAll wt l + 1) := by
  cases n with
  | zero => exact Opens.zero
  | succ n => exact Opens.slice bulk_slice bulk_nil ht hs h0 (he n (by omega))
theorem wt_one {α : Type} (l : List α) : wtAll (fun _ => 1) l = l.length := by
  unfold wtAll
  induction l with
  | nil => rfl
  | cons a l ih => simp only [List.map_cons, List.sum_cons, List.length_cons, ih]; omega
/-- Lists of numbers, as they open. -/
theorem opens_ints (n : Nat) : Opens enc Tryd.prog w Rows.uptoBulk 30 n (fun l : List Int => [.sl 1 (l.map cI)]) (fun l => l.length + 1) := by
  refine Opens.as (opens_slice Tryd.underlying30 (s := 1) (by kernel_rfl) (by omega) n (fun m _ => opens_int m)) fun l => ⟨l.map (·.1), ?_, ?_⟩
  · simp only [List.map_map]; rfl
  · rw [wt_one]; simp
def bAlt (a : Alt) : Nat := a.binds.length + 3
def bAlts (l : List Alt) : Nat := (l.map bAlt).sum
def bEx (x : Ex) : Nat := x.binds.length + x.kids.length + bAlts x.alts + 6
def bExs (l : List Ex) : Nat := (l.map bEx).sum
theorem opensAlt (n : Nat) : Opens enc Tryd.prog w Rows.uptoBulk 63 n cAlt bAlt := by
  cases n with
  | zero => exact Opens.zero
  | succ n =>
    refine Opens.as (Opens.struct bulk_agg Tryd.underlying63 (.cons rfl (by kernel_rfl) (opens_int n) (fun _ => rfl) (.cons rfl (by kernel_rfl) (opens_ints n) (fun _ => rfl) (.nil _))) (fun _ => (show (2 : Nat) = _ by kernel_rfl))) ?_
    rintro ⟨i, l, _⟩
    exact ⟨⟨i.1, l⟩, rfl, by show l.length + 3 ≤ 1 + (l.length + 1 + 0) + 1; omega⟩
theorem opensEx (n : Nat) : Opens enc Tryd.prog w Rows.uptoBulk 35 n cEx bEx := by
  cases n with
  | zero => exact Opens.zero
  | succ n =>
    have ha := opens_slice (enc := enc) (w := w) (t := 33) Tryd.underlying33 (s := 2) (by kernel_rfl) (by omega) n (fun m _ => opensAlt m)
    refine Opens.as (Opens.struct bulk_agg Tryd.underlying35 (.cons rfl (by kernel_rfl) (opens_int n) (fun _ => rfl) (.cons rfl (by kernel_rfl) (opens_int n) (fun _ => rfl) (.cons rfl (by kernel_rfl) (opens_ints n) (fun _ => rfl) (.cons rfl (by kernel_rfl) (opens_ints n) (fun _ => rfl) (.cons rfl (by kernel_rfl) ha (fun _ => rfl) (.nil _)))))) (fun _ => (show (5 : Nat) = _ by kernel_rfl))) ?_
    rintro ⟨i, j, b, k, l, _⟩
    refine ⟨⟨i.1, j.1, b, k, l⟩, rfl, ?_⟩
    show b.length + k.length + bAlts l + 6 ≤ 1 + (1 + (b.length + 1 + (k.length + 1 + (wtAll bAlt l + 1 + 0)))) + 1
    have : wtAll bAlt l = bAlts l := rfl
    omega
theorem opensExs (n : Nat) : Opens enc Tryd.prog w Rows.uptoBulk 22 n (fun l : List Ex => [.sl 5 (l.map cEx)]) (fun l => bExs l + 1) :=
  opens_slice Tryd.underlying22 (s := 5) (by kernel_rfl) (by omega) n (fun m _ => opensEx m)
theorem rf_slice {t e : TypeId} {base : Nat} {r : Reach} {W : World} {v : Value} {C : Ctx} {c : AC} (ht : Tryd.prog.underlying t = some (.slice e)) (h : Value.okWide Tryd.prog W r base t v) (hr : RV W C [c] v.cells.toList) : RF W C (.one c) v := by
  obtain ⟨a, len, cap, rfl⟩ := WideShapes.okWide_slice ht h
  obtain ⟨u, us, he, h1, h2⟩ := hr
  simp [Value.cells] at he
  obtain ⟨rfl, rfl⟩ := he
  exact h1
end
theorem sum_mem {α : Type} {f : α → Nat} : ∀ {l : List α} {a : α}, a ∈ l → f a ≤ (l.map f).sum
  | b :: l, a, h => by
    simp only [List.map_cons, List.sum_cons]
    rcases List.mem_cons.1 h with rfl | h
    · omega
    · have := sum_mem (f := f) h; omega
theorem sum_len {α : Type} {f : α → Nat} (hf : ∀ a, 1 ≤ f a) : ∀ l : List α, l.length ≤ (l.map f).sum
  | [] => by simp
  | b :: l => by
    have h1 := hf b
    have h2 := sum_len hf l
    simp only [List.map_cons, List.sum_cons, List.length_cons]; omega
theorem bAlts_flat : ∀ l : List Alt, (l.flatMap (·.binds)).length ≤ bAlts l
  | [] => by simp [bAlts]
  | a :: l => by
    have := bAlts_flat l
    simp only [bAlts, bAlt, List.flatMap_cons, List.length_append, List.map_cons, List.sum_cons] at *
    omega
theorem okB_of {e : List Ex} (h : bExs e ≤ 1048576) : okB e := by
  have h1 := sum_len (f := bEx) (fun x => by simp only [bEx]; omega) e
  have hx : ∀ x ∈ e, bEx x ≤ 1048576 := fun x hx => by
    have h2 : bEx x ≤ bExs e := sum_mem hx
    omega
  have h1' : e.length ≤ bExs e := h1
  refine ⟨⟨by omega, fun x hx1 => ?_⟩, fun x hx1 => ?_⟩
  · have h2 := hx x hx1
    simp only [bEx] at h2
    have h3 := sum_len (f := bAlt) (fun a => by simp only [bAlt]; omega) x.alts
    have h3' : x.alts.length ≤ bAlts x.alts := h3
    refine ⟨by omega, by omega, by omega, fun a ha => ?_⟩
    have h4 : bAlt a ≤ bAlts x.alts := sum_mem ha
    simp only [bAlt] at h4
    omega
  · have h2 := hx x hx1
    simp only [bEx] at h2
    have h3 := bAlts_flat x.alts
    omega
theorem arity_cells {W : World} (h : laidMetH Tryd.prog [("provenance/core.arity", Rows.laid_provenance_core_arity)] W) : ∀ g cs, (g, cs) ∈ Γc → RG W (ctx0 W) cs g := by
  have ht : Lib.TabIs Tryd.prog W "provenance/core.arity" .i64 [2, 2, 2, 2, 2, 2, 2, 1, 2, 1, 2, 3] :=
    Lib.tabIs_of_head (rest := []) (g := 0) (t := 137) (n := 12) (by kernel_rfl) (by kernel_rfl) (by kernel_rfl) Tryd.underlying3 (by kernel_rfl) (by kernel_rfl) h
  have hg : Tryd.prog.globalNamed "provenance/core.arity" = some 0 := by kernel_rfl
  intro g cs hm
  simp [Γc] at hm
  obtain ⟨rfl, rfl⟩ := hm
  exact RG.ofVar hg ht rfl
end Go.Proofs.YtnonkoeknpmcjaaDoor
