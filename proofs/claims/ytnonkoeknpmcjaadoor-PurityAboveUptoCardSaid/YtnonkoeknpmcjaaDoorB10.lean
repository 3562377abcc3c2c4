/- Nodes that are built: N, B, V, walked. -/
import Derived.Test.YtnonkoeknpmcjaaDoorB9
namespace Go.Abs
theorem AStep.wk {E : Env} {o : Oper} {fr : Fr} {σ σ' : St} {x y : FV} (h : AStep E o fr σ x σ') (hw : WkF x y) : AStep E o fr σ y σ' :=
  fun F w C tmps hi hf next Q hk => h F w C tmps hi hf next Q fun u w' C' a b c => hk u w' C' a b (hw _ _ _ c)
end Go.Abs
namespace Go.Proofs.YtnonkoeknpmcjaaDoor
open Go Go.Abs Go.CoreX
set_option maxRecDepth 10000
set_option linter.unusedVariables false
set_option linter.unusedSimpArgs false
variable {Γ : List (Nat × List AC)}
mutual
def encNd : Tr → List AC
  | .mk o n b k a => [int o, int n, .sl 1 (b.map cI), .any, .sl 2 (a.map cAlt), .sl 1 (encNds k)]
def encNds : List Tr → List (List AC)
  | [] => []
  | t :: ts => [.box (encNd t)] :: encNds ts
end
def cNd (t : Tr) : List AC := [int t.op, int t.n, .sl 1 (t.binds.map cI), .any, .sl 2 (t.alts.map cAlt), .sl 1 (encNds t.kids)]
theorem encNd_eq (t : Tr) : encNd t = cNd t := by cases t; simp [encNd, cNd]
theorem encNds_eq : ∀ l : List Tr, encNds l = l.map fun t => [.box (cNd t)]
  | [] => rfl
  | t :: ts => by simp [encNds, encNds_eq ts, encNd_eq]
theorem encNds_get {l : List Tr} {i : Nat} {t : Tr} (h : l[i]? = some t) : (encNds l)[i]? = some [.box (cNd t)] := by rw [encNds_eq]; simp [h]
mutual
theorem ids_encNd (p : Abs.Id → Prop) : ∀ t : Tr, idsL p (encNd t)
  | .mk o n b k a => by simp [encNd, ids_encNds p k]
theorem ids_encNds (p : Abs.Id → Prop) : ∀ l : List Tr, idsS p (encNds l)
  | [] => by simp [encNds]
  | t :: ts => by simp [encNds, ids_encNd p t, ids_encNds p ts]
end
attribute [simp] ids_encNds
@[simp] theorem ids_cNd (p : Abs.Id → Prop) (t : Tr) : idsL p (cNd t) := by simp [cNd]
@[simp] theorem len_encNds (l : List Tr) : (encNds l).length = l.length := by rw [encNds_eq]; simp
theorem N_ok (op n : Int) (ks : List Tr) : APure Tryd.prog Γ 57 [.one (int op), .one (int n), .one (.sl 1 (encNds ks))] (.one (.box (cNd (.mk op n [] ks [])))) := by
  intro ou
  refine AFn.walk 13 tabOk Tryd.func57 rfl (by kernel_rfl) rfl rfl fun hou => ?_
  iterate 14 (first | (with_reducible refine oj ?_; refine AOps.auto tabOk rfl ?_) | (with_reducible first | refine o1 ?_ | refine o2 ?_ | refine o3 ?_ | refine o4 ?_ | refine o5 ?_ | refine o6 ?_ | refine o7 ?_ | refine o8 ?_ | refine o9 ?_ | refine oa ?_ | refine ob ?_ | refine oc ?_ | refine od ?_ | refine oe ?_ | refine og ?_ | refine oh ?_ | refine oi ?_) | (with_reducible refine cExitMiss ?_ ?_; rfl) | (with_reducible refine ok ?_; first | refine ACode.condT rfl ?_ | refine ACode.condF rfl ?_))
  refine AOps.freeze1 (.l 0) 6 rfl rfl ?_
  repeat first | (with_reducible refine oj ?_; refine AOps.auto tabOk rfl ?_) | (with_reducible first | refine o1 ?_ | refine o2 ?_ | refine o3 ?_ | refine o4 ?_ | refine o5 ?_ | refine o6 ?_ | refine o7 ?_ | refine o8 ?_ | refine o9 ?_ | refine oa ?_ | refine ob ?_ | refine oc ?_ | refine od ?_ | refine oe ?_ | refine og ?_ | refine oh ?_ | refine oi ?_) | (with_reducible refine cExitMiss ?_ ?_; rfl) | (with_reducible refine ok ?_; first | refine ACode.condT rfl ?_ | refine ACode.condF rfl ?_)
  refine APure.fin rfl (.one (Wk.box ?_)) (by simp) hou rfl
  exact .cons (.refl _) (.cons (.refl _) (.cons (.nilS 1) (.cons (.any _) (.cons (.nilS 2) (.cons (.refl _) .nil)))))
theorem B_ok (op : Int) (b : List Int) (ks : List Tr) : APure Tryd.prog Γ 32 [.one (int op), .one (.sl 1 (b.map cI)), .one (.sl 1 (encNds ks))] (.one (.box (cNd (.mk op 0 b ks [])))) := by
  intro ou
  refine AFn.walk 13 tabOk Tryd.func32 rfl (by kernel_rfl) rfl rfl fun hou => ?_
  iterate 14 (first | (with_reducible refine oj ?_; refine AOps.auto tabOk rfl ?_) | (with_reducible first | refine o1 ?_ | refine o2 ?_ | refine o3 ?_ | refine o4 ?_ | refine o5 ?_ | refine o6 ?_ | refine o7 ?_ | refine o8 ?_ | refine o9 ?_ | refine oa ?_ | refine ob ?_ | refine oc ?_ | refine od ?_ | refine oe ?_ | refine og ?_ | refine oh ?_ | refine oi ?_) | (with_reducible refine cExitMiss ?_ ?_; rfl) | (with_reducible refine ok ?_; first | refine ACode.condT rfl ?_ | refine ACode.condF rfl ?_))
  refine AOps.freeze1 (.l 0) 6 rfl rfl ?_
  repeat first | (with_reducible refine oj ?_; refine AOps.auto tabOk rfl ?_) | (with_reducible first | refine o1 ?_ | refine o2 ?_ | refine o3 ?_ | refine o4 ?_ | refine o5 ?_ | refine o6 ?_ | refine o7 ?_ | refine o8 ?_ | refine o9 ?_ | refine oa ?_ | refine ob ?_ | refine oc ?_ | refine od ?_ | refine oe ?_ | refine og ?_ | refine oh ?_ | refine oi ?_) | (with_reducible refine cExitMiss ?_ ?_; rfl) | (with_reducible refine ok ?_; first | refine ACode.condT rfl ?_ | refine ACode.condF rfl ?_)
  refine APure.fin rfl (.one (Wk.box ?_)) (by simp) hou rfl
  exact .cons (.refl _) (.cons (.refl _) (.cons (.refl _) (.cons (.any _) (.cons (.nilS 2) (.cons (.refl _) .nil)))))
theorem V_ok (hΓ : ∀ g cs, (g, cs) ∈ Γ → idsL isO cs) (n : Int) : APure Tryd.prog Γ 33 [.one (int n)] (.one (.box (cNd (.mk 0 n [] [] [])))) := by
  intro ou
  refine AFn.walk 5 tabOk Tryd.func33 rfl (by kernel_rfl) rfl rfl fun hou => ?_
  repeat first | (with_reducible refine oj ?_; refine AOps.auto tabOk rfl ?_) | (with_reducible first | refine o1 ?_ | refine o2 ?_ | refine o3 ?_ | refine o4 ?_ | refine o5 ?_ | refine o6 ?_ | refine o7 ?_ | refine o8 ?_ | refine o9 ?_ | refine oa ?_ | refine ob ?_ | refine oc ?_ | refine od ?_ | refine oe ?_ | refine og ?_ | refine oh ?_ | refine oi ?_) | (with_reducible refine cExitMiss ?_ ?_; rfl) | (with_reducible refine ok ?_; first | refine ACode.condT rfl ?_ | refine ACode.condF rfl ?_)
  refine AOps.callCW (ws := [.one (int 0), .one (int n), .one (.sl 1 (encNds []))]) hΓ (N_ok 0 n []) rfl rfl rfl rfl rfl rfl ?_ hou (by simp) ?_
  · exact .cons (.refl _) (.cons (.refl _) (.cons (.one (.nilS 1)) .nil))
  repeat first | (with_reducible refine oj ?_; refine AOps.auto tabOk rfl ?_) | (with_reducible first | refine o1 ?_ | refine o2 ?_ | refine o3 ?_ | refine o4 ?_ | refine o5 ?_ | refine o6 ?_ | refine o7 ?_ | refine o8 ?_ | refine o9 ?_ | refine oa ?_ | refine ob ?_ | refine oc ?_ | refine od ?_ | refine oe ?_ | refine og ?_ | refine oh ?_ | refine oi ?_) | (with_reducible refine cExitMiss ?_ ?_; rfl) | (with_reducible refine ok ?_; first | refine ACode.condT rfl ?_ | refine ACode.condF rfl ?_)
  exact APure.fin rfl (WkF.ofEq rfl) (by simp) hou rfl
/-- What the walk of a node gives. -/
def IntoOk (Γ : List (Nat × List AC)) (t : Tr) : Prop := ∀ (ou : Outer) (ko kt : Nat) (out : List Ex), OuOk ou → ou ko = none → ou kt = none → ko ≠ kt → (listT out t).length ≤ 1048576 →
  AFn Tryd.prog Γ 58 [.one (.box (cNd t)), .one (.ptr (.o ko) 0)] (ouS ou ko kt (out.map cEx)) (fun r ou' => r = .one (int (((listT out t).length : Int) - 1)) ∧ ∃ kt', ou kt' = none ∧ ko ≠ kt' ∧ ou' = ouS ou ko kt' ((listT out t).map cEx))
set_option maxHeartbeats 1000000 in
theorem into_ok (hΓ : ∀ g cs, (g, cs) ∈ Γ → idsL isO cs) : ∀ t : Tr, okT t → IntoOk Γ t
  | .mk o n b ks a, hok => by
    obtain ⟨hb, hk, ha, ⟨hab, _⟩, hks⟩ := hok
    have ih : ∀ t ∈ ks, IntoOk Γ t := fun t ht => into_ok hΓ t (okTs_iff.1 hks t ht)
    intro ou ko kt out hou0 ho ht hne hsz
    have hsz2 : (listTs out ks).1.length < 1048576 := by simp only [listT, List.length_append, List.length_singleton] at hsz; omega
    refine AFn.walk 44 tabOk Tryd.func58 rfl (by kernel_rfl) rfl rfl fun hou => ?_
    repeat first | (with_reducible refine oj ?_; refine AOps.auto tabOk rfl ?_) | (with_reducible first | refine o1 ?_ | refine o2 ?_ | refine o3 ?_ | refine o4 ?_ | refine o5 ?_ | refine o6 ?_ | refine o7 ?_ | refine o8 ?_ | refine o9 ?_ | refine oa ?_ | refine ob ?_ | refine oc ?_ | refine od ?_ | refine oe ?_ | refine og ?_ | refine oh ?_ | refine oi ?_) | (with_reducible refine cExitMiss ?_ ?_; rfl) | (with_reducible refine ok ?_; first | refine ACode.condT rfl ?_ | refine ACode.condF rfl ?_)
    refine ACode.grow 0 3 3 1 rfl rfl ?_
    refine ACode.loopR hΓ (α := Nat × Nat) (fun c => [(18, .one (int c.1)), (17, .one (int (encNds ks).length)), (16, .one (.sl 1 (encNds ks))), (5, .one (.ptr (.l 0) 0)), (1, .one (.ptr (.o ko) 0))])
      (fun c => ⟨2, [(1, .tok 3 1 c.1), (0, .cells [int o, int n, .sl 1 (b.map cI), .gs 1 ((listTs out (ks.take c.1)).2.map cI) (.l 1), .sl 2 (a.map cAlt)])], ouS ou ko c.2 ((listTs out (ks.take c.1)).1.map cEx)⟩)
      (fun m c => c.1 ≤ ks.length ∧ (ou c.2 = none ∧ ko ≠ c.2) ∧ m = ks.length - c.1) (a0 := (0, kt)) (ρ := id) ⟨by omega, ⟨ht, hne⟩, rfl⟩ (LessR.of rfl (by (repeat' first | exact FrSub.nil | refine FrSub.cons rfl (.ofEq rfl) ?_ | refine FrSub.consP rfl (.ofEq rfl) (by simp) ?_)) (by simp) ?_ rfl (by simp [listTs]; rfl) hou) fun m c hi => ?_
    · repeat' first | exact LoSub.nil | refine LoSub.cons rfl ?_ rfl (by simp) ?_ | rfl | (refine (AObj.ren_pure _ _ ?_).symm; simp; done) | (simp [AObj.ren, renL, AC.ren]; done) | (simp [AObj.ren, renL, AC.ren]; rfl)
      all_goals (simp [AObj.ren, renL, AC.ren, listTs]; rfl)
    obtain ⟨i, kt⟩ := c
    obtain ⟨hil, ⟨ht, hne⟩, rfl⟩ := hi
    simp only at hil ht hne
    have hle : (listTs out (ks.take i)).1.length ≤ (listTs out ks).1.length := by
      have := listTs_app (ks.take i) (ks.drop i) out
      rw [List.take_append_drop] at this
      rw [this]; exact listTs_le _ _
    repeat first | (with_reducible refine oj ?_; refine AOps.auto tabOk rfl ?_) | (with_reducible first | refine o1 ?_ | refine o2 ?_ | refine o3 ?_ | refine o4 ?_ | refine o5 ?_ | refine o6 ?_ | refine o7 ?_ | refine o8 ?_ | refine o9 ?_ | refine oa ?_ | refine ob ?_ | refine oc ?_ | refine od ?_ | refine oe ?_ | refine og ?_ | refine oh ?_ | refine oi ?_) | (with_reducible refine cExitMiss ?_ ?_; rfl) | (with_reducible refine ok ?_; first | refine ACode.condT rfl ?_ | refine ACode.condF rfl ?_)
    refine ACode.cond rfl (fun hb3 => ?_) (fun hb3 => ?_)
    · have hlt2 : i < ks.length := by simpa using hb3
      obtain ⟨t, ht2⟩ := get_of_lt hlt2
      have hsn := listTs_snoc t (ks.take i) out
      rw [← take_get ht2] at hsn
      have hle2 : (listT (listTs out (ks.take i)).1 t).length ≤ 1048576 := by
        have := listTs_app (ks.take (i + 1)) (ks.drop (i + 1)) out
        rw [List.take_append_drop] at this
        have h2 := listTs_le (ks.drop (i + 1)) (listTs out (ks.take (i + 1))).1
        rw [← this, hsn] at h2
        simp only at h2
        omega
      have hcall := ih t (List.mem_of_getElem? ht2) ou ko kt (listTs out (ks.take i)).1 hou0 ho ht hne hle2
      have hil2 : ((listTs out (ks.take i)).2.map cI).length = i := by rw [List.length_map, listTs_ix_len]; simp; omega
      repeat first | (with_reducible refine oj ?_; refine AOps.auto tabOk rfl ?_) | (with_reducible first | refine o1 ?_ | refine o2 ?_ | refine o3 ?_ | refine o4 ?_ | refine o5 ?_ | refine o6 ?_ | refine o7 ?_ | refine o8 ?_ | refine o9 ?_ | refine oa ?_ | refine ob ?_ | refine oc ?_ | refine od ?_ | refine oe ?_ | refine og ?_ | refine oh ?_ | refine oi ?_) | (with_reducible refine cExitMiss ?_ ?_; rfl) | (with_reducible refine ok ?_; first | refine ACode.condT rfl ?_ | refine ACode.condF rfl ?_)
      refine AOps.step1 rfl rfl rfl (AStep.indexAddr tabOk rfl rfl rfl rfl rfl rfl (.inl rfl) rfl (by omega) (encNds_get ht2)) ?_
      repeat first | (with_reducible refine oj ?_; refine AOps.auto tabOk rfl ?_) | (with_reducible first | refine o1 ?_ | refine o2 ?_ | refine o3 ?_ | refine o4 ?_ | refine o5 ?_ | refine o6 ?_ | refine o7 ?_ | refine o8 ?_ | refine o9 ?_ | refine oa ?_ | refine ob ?_ | refine oc ?_ | refine od ?_ | refine oe ?_ | refine og ?_ | refine oh ?_ | refine oi ?_) | (with_reducible refine cExitMiss ?_ ?_; rfl) | (with_reducible refine ok ?_; first | refine ACode.condT rfl ?_ | refine ACode.condF rfl ?_)
      refine ACode.drawXR (va := .one (int (((listT (listTs out (ks.take i)).1 t).length : Int) - 1))) tabOk 6 4 []
        (fun σ => ∃ kt', ou kt' = none ∧ ko ≠ kt' ∧ σ = ⟨2, [(1, .tok 3 1 i), (0, .cells [int o, int n, .sl 1 (b.map cI), .gs 1 ((listTs out (ks.take i)).2.map cI) (.l 1), .sl 2 (a.map cAlt)])], ouS ou ko kt' ((listT (listTs out (ks.take i)).1 t).map cEx)⟩)
        follows (by kernel_rfl) rfl rfl rfl rfl rfl ?_ rfl ⟨rfl, rfl⟩ rfl ?_ .nil ?_ ?_
      · rintro σ ⟨kt', h1, h2, rfl⟩; rfl
      · refine AStepR.call hΓ rfl rfl rfl rfl (by simp) (ouS_ok hou0 (by simp)) hcall fun r ou' hq _ _ => ?_
        obtain ⟨rfl, kt', h1, h2, rfl⟩ := hq
        exact ⟨rfl, kt', h1, h2, rfl⟩
      · intro σ _; exact .nil
      rintro σ ⟨kt', h1, h2, rfl⟩
      repeat first | (with_reducible refine oj ?_; refine AOps.auto tabOk rfl ?_) | (with_reducible first | refine o1 ?_ | refine o2 ?_ | refine o3 ?_ | refine o4 ?_ | refine o5 ?_ | refine o6 ?_ | refine o7 ?_ | refine o8 ?_ | refine o9 ?_ | refine oa ?_ | refine ob ?_ | refine oc ?_ | refine od ?_ | refine oe ?_ | refine og ?_ | refine oh ?_ | refine oi ?_) | (with_reducible refine cExitMiss ?_ ?_; rfl) | (with_reducible refine ok ?_; first | refine ACode.condT rfl ?_ | refine ACode.condF rfl ?_)
      refine AOps.app tabOk rfl rfl rfl rfl rfl rfl rfl rfl rfl (Base.gs' _ _ _ _ _ (by rfl) hil2.symm) (.sl _ _) rfl ?_ ?_ ?_
      · rw [hil2]; show (i + 1) * 8 ≤ _; omega
      · rw [hil2]; show i + 1 ≤ _; omega
      repeat' first | (with_reducible refine oj ?_; refine AOps.auto tabOk rfl ?_) | (with_reducible first | refine o1 ?_ | refine o2 ?_ | refine o3 ?_ | refine o4 ?_ | refine o5 ?_ | refine o6 ?_ | refine o7 ?_ | refine o8 ?_ | refine o9 ?_ | refine oa ?_ | refine ob ?_ | refine oc ?_ | refine od ?_ | refine oe ?_ | refine og ?_ | refine oh ?_ | refine oi ?_) | (with_reducible refine cExitMiss ?_ ?_; rfl) | (with_reducible refine ok ?_; first | refine ACode.condT rfl ?_ | refine ACode.condF rfl ?_) | (with_reducible refine oj ?_; first | refine AOps.step1 rfl rfl rfl (AStep.arith rfl rfl rfl (.inl ⟨rfl, rfl⟩) (inRange_i64 (by first | omega | (simp; omega)) (by first | omega | (simp; omega)))) ?_ | refine AOps.step1 rfl rfl rfl (AStep.arith rfl rfl rfl (.inr (.inl ⟨rfl, rfl⟩)) (inRange_i64 (by first | omega | (simp; omega)) (by first | omega | (simp; omega)))) ?_ | refine AOps.step1 rfl rfl rfl (AStep.neBool Tryd.underlying4 rfl rfl rfl) ?_ | refine AOps.step1 rfl rfl rfl (AStep.eqBool Tryd.underlying4 rfl rfl rfl) ?_ | refine AOps.step1 rfl rfl rfl (AStep.max2 (t := 3) (ty := 3) rfl rfl rfl) ?_ | refine AOps.step1 rfl rfl rfl (AStep.min2 (t := 3) (ty := 3) rfl rfl rfl) ?_ | refine AOps.unG rfl rfl rfl ?_)
      refine cInv ⟨ks.length - (i + 1), (i + 1, kt'), fun k => if k = 1 then 2 else k, by omega, ⟨by omega, ⟨h1, h2⟩, rfl⟩, LessR.of rfl (by (repeat' first | exact FrSub.nil | refine FrSub.cons rfl (.ofEq rfl) ?_ | refine FrSub.consP rfl (.ofEq rfl) (by simp) ?_)) (by simp) ?_ rfl (by simp only [hsn]; rfl) (ouS_ok hou0 (by simp))⟩
      repeat' first | exact LoSub.nil | refine LoSub.cons rfl ?_ rfl (by simp) ?_ | rfl | (refine (AObj.ren_pure _ _ ?_).symm; simp; done) | (simp [AObj.ren, renL, AC.ren]; done) | (simp [AObj.ren, renL, AC.ren]; rfl)
      · simp only [AObj.ren, List.length_append, hil2]; rfl
      · simp only [hsn]; simp only [AObj.ren, renL, AC.ren, ren_cIs, ren_cAlts]; rw [List.map_append]; rfl
    have hlt2 : i = ks.length := by simp at hb3; omega
    subst hlt2
    rw [List.take_length] at *
    repeat first | (with_reducible refine oj ?_; refine AOps.auto tabOk rfl ?_) | (with_reducible first | refine o1 ?_ | refine o2 ?_ | refine o3 ?_ | refine o4 ?_ | refine o5 ?_ | refine o6 ?_ | refine o7 ?_ | refine o8 ?_ | refine o9 ?_ | refine oa ?_ | refine ob ?_ | refine oc ?_ | refine od ?_ | refine oe ?_ | refine og ?_ | refine oh ?_ | refine oi ?_) | (with_reducible refine cExitMiss ?_ ?_; rfl) | (with_reducible refine ok ?_; first | refine ACode.condT rfl ?_ | refine ACode.condF rfl ?_)
    have hT : listT out (.mk o n b ks a) = (listTs out ks).1 ++ [⟨o, n, b, (listTs out ks).2, a⟩] := by simp only [listT]
    have hmap : (listTs out ks).1.map cEx ++ [cEx ⟨o, n, b, (listTs out ks).2, a⟩] = (listT out (.mk o n b ks a)).map cEx := by rw [hT, List.map_append]; rfl
    have hw : WkF (.agg [int o, int n, .sl 1 (b.map cI), .gs 1 ((listTs out ks).2.map cI) (.l 1), .sl 2 (a.map cAlt)]) (.agg (cEx ⟨o, n, b, (listTs out ks).2, a⟩)) := WkF.agg (.cons (.refl _) (.cons (.refl _) (.cons (.refl _) (.cons (.gsE rfl) (.cons (.refl _) .nil)))))
    have hko : (bif Nat.beq ko kt then some AObj.dead else ouS ou ko kt ((listTs out ks).1.map cEx) ko) = some (.cells [.gs 5 ((listTs out ks).1.map cEx) (.o kt)]) := by rw [beq_no hne]; exact ouS_o hne _
    refine ACode.drawXH (va := .one (.gs 5 ((listTs out ks).1.map cEx ++ [cEx ⟨o, n, b, (listTs out ks).2, a⟩]) (.l 2))) (σ1 := (St.set ⟨2, [(1, .tok 3 1 ks.length), (0, .cells [int o, int n, .sl 1 (b.map cI), .gs 1 ((listTs out ks).2.map cI) (.l 1), .sl 2 (a.map cAlt)])], ouS ou ko kt ((listTs out ks).1.map cEx)⟩ (.o kt) .dead).push (.tok 35 5 ((listTs out ks).1.map cEx ++ [cEx ⟨o, n, b, (listTs out ks).2, a⟩]).length))
      tabOk 7 6 [(3, .one (.gs 5 ((listTs out ks).1.map cEx) (.o kt))), (4, .agg (cEx ⟨o, n, b, (listTs out ks).2, a⟩))] follows (by kernel_rfl) rfl rfl rfl rfl rfl rfl rfl ?_ ?_ ?_ ?_
    · refine HStep.plain rfl (AStep.append (s := 5) (es := (listTs out ks).1.map cEx) (news := [cEx ⟨o, n, b, (listTs out ks).2, a⟩]) (ti := ti22) (σ := ⟨2, [(1, .tok 3 1 ks.length), (0, .cells [int o, int n, .sl 1 (b.map cI), .gs 1 ((listTs out ks).2.map cI) (.l 1), .sl 2 (a.map cAlt)])], ouS ou ko kt ((listTs out ks).1.map cEx)⟩) tabOk rfl rfl rfl rfl rfl rfl (Base.gs' _ 35 5 _ (.o kt) (ouS_t ou ko kt _) rfl) (.sl _ _) rfl ?_ ?_)
      · simp; show (_ + 1) * 88 ≤ _; omega
      · simp; omega
    · refine .step rfl (HStep.plain rfl (AStep.loadOwn tabOk rfl rfl rfl rfl rfl (ouS_o hne _) rfl)) ?_
      exact .step rfl (HStep.plain rfl (AStep.wk (AStep.ofOp tabOk rfl) hw)) .nil
    · refine .step rfl (HStep.plain rfl (AStep.loadOwn tabOk rfl rfl rfl rfl rfl hko rfl)) ?_
      exact .step rfl (HStep.plain rfl (AStep.wk (AStep.ofOp tabOk rfl) hw)) .nil
    rw [hmap]
    repeat first | (with_reducible refine oj ?_; refine AOps.auto tabOk rfl ?_) | (with_reducible first | refine o1 ?_ | refine o2 ?_ | refine o3 ?_ | refine o4 ?_ | refine o5 ?_ | refine o6 ?_ | refine o7 ?_ | refine o8 ?_ | refine o9 ?_ | refine oa ?_ | refine ob ?_ | refine oc ?_ | refine od ?_ | refine oe ?_ | refine og ?_ | refine oh ?_ | refine oi ?_) | (with_reducible refine cExitMiss ?_ ?_; rfl) | (with_reducible refine ok ?_; first | refine ACode.condT rfl ?_ | refine ACode.condF rfl ?_)
    refine AOps.storeOwn (cs := [.gs 5 ((listTs out ks).1.map cEx) (.o kt)]) tabOk rfl rfl rfl rfl rfl rfl rfl hko (by simp) ?_
    refine AOps.cede 2 (show 2 < 3 by omega) fun k hk => ⟨[(1, .one (.ptr (.o ko) 0))], ⟨3, [], ouS ou ko k ((listT out (.mk o n b ks a)).map cEx)⟩, ⟨fun d x hd => ?_, rfl, fun i x hx => ?_⟩, ?_⟩
    · by_cases e : 1 = d
      · subst e
        simp [Fr.get] at hd; subst hd
        exact ⟨_, rfl, WkF.ofEq rfl⟩
      · simp [Fr.get, beq_no e] at hd
    · have hk' : (bif Nat.beq k ko then some (AObj.cells [.gs 5 ((listT out (.mk o n b ks a)).map cEx) (.l 2)]) else bif Nat.beq k kt then some AObj.dead else ouS ou ko kt ((listTs out ks).1.map cEx) k) = none := hk
      have k1 : k ≠ ko := fun e => by subst e; simp at hk'
      rw [beq_no k1] at hk'
      have k2 : k ≠ kt := fun e => by subst e; simp at hk'
      rw [beq_no k2] at hk'
      simp only [cond_false, ouS_w k1 k2] at hk'
      cases i with
      | l m => cases hx
      | o m =>
        have hx' : ouS ou ko k ((listT out (.mk o n b ks a)).map cEx) m = some x := hx
        by_cases e : m = k
        · subst e
          rw [ouS_t] at hx'; cases hx'
          exact ⟨.l 2, _, rfl, rfl, rfl⟩
        · by_cases e2 : m = ko
          · subst e2
            rw [ouS_o e] at hx'; cases hx'
            refine ⟨.o m, .cells [.gs 5 ((listT out (.mk o n b ks a)).map cEx) (.l 2)], ?_, rfl, ?_⟩
            · show (bif Nat.beq m m then _ else _) = _; rw [beq_self]; rfl
            · simp only [AObj.sub, subL, AC.sub]; rw [subS_o _ (by simp)]; rfl
          · rw [ouS_w e2 e] at hx'
            have e3 : m ≠ kt := fun e => by rw [e, ht] at hx'; cases hx'
            refine ⟨.o m, x, ?_, rfl, (AObj.sub_o x (hou0 m x hx')).symm⟩
            show (bif Nat.beq m ko then _ else bif Nat.beq m kt then _ else ouS ou ko kt _ m) = _
            rw [beq_no e2, beq_no e3]
            exact (ouS_w e2 e3 _).trans hx'
    · have hk' : (bif Nat.beq k ko then some (AObj.cells [.gs 5 ((listT out (.mk o n b ks a)).map cEx) (.l 2)]) else bif Nat.beq k kt then some AObj.dead else ouS ou ko kt ((listTs out ks).1.map cEx) k) = none := hk
      have k1 : k ≠ ko := fun e => by subst e; simp at hk'
      rw [beq_no k1] at hk'
      have k2 : k ≠ kt := fun e => by subst e; simp at hk'
      rw [beq_no k2] at hk'
      simp only [cond_false, ouS_w k1 k2] at hk'
      repeat first | (with_reducible refine oj ?_; refine AOps.auto tabOk rfl ?_) | (with_reducible first | refine o1 ?_ | refine o2 ?_ | refine o3 ?_ | refine o4 ?_ | refine o5 ?_ | refine o6 ?_ | refine o7 ?_ | refine o8 ?_ | refine o9 ?_ | refine oa ?_ | refine ob ?_ | refine oc ?_ | refine od ?_ | refine oe ?_ | refine og ?_ | refine oh ?_ | refine oi ?_) | (with_reducible refine cExitMiss ?_ ?_; rfl) | (with_reducible refine ok ?_; first | refine ACode.condT rfl ?_ | refine ACode.condF rfl ?_)
      refine AOps.step1 rfl rfl rfl (AStep.loadOwn tabOk rfl rfl rfl rfl rfl (ouS_o (Ne.symm k1) _) rfl) ?_
      repeat' first | (with_reducible refine oj ?_; refine AOps.auto tabOk rfl ?_) | (with_reducible first | refine o1 ?_ | refine o2 ?_ | refine o3 ?_ | refine o4 ?_ | refine o5 ?_ | refine o6 ?_ | refine o7 ?_ | refine o8 ?_ | refine o9 ?_ | refine oa ?_ | refine ob ?_ | refine oc ?_ | refine od ?_ | refine oe ?_ | refine og ?_ | refine oh ?_ | refine oi ?_) | (with_reducible refine cExitMiss ?_ ?_; rfl) | (with_reducible refine ok ?_; first | refine ACode.condT rfl ?_ | refine ACode.condF rfl ?_) | (with_reducible refine oj ?_; first | refine AOps.step1 rfl rfl rfl (AStep.arith rfl rfl rfl (.inl ⟨rfl, rfl⟩) (inRange_i64 (by first | omega | (simp; omega)) (by first | omega | (simp; omega)))) ?_ | refine AOps.step1 rfl rfl rfl (AStep.arith rfl rfl rfl (.inr (.inl ⟨rfl, rfl⟩)) (inRange_i64 (by first | omega | (simp; omega)) (by first | omega | (simp; omega)))) ?_ | refine AOps.step1 rfl rfl rfl (AStep.neBool Tryd.underlying4 rfl rfl rfl) ?_ | refine AOps.step1 rfl rfl rfl (AStep.eqBool Tryd.underlying4 rfl rfl rfl) ?_ | refine AOps.step1 rfl rfl rfl (AStep.max2 (t := 3) (ty := 3) rfl rfl rfl) ?_ | refine AOps.step1 rfl rfl rfl (AStep.min2 (t := 3) (ty := 3) rfl rfl rfl) ?_ | refine AOps.unG rfl rfl rfl ?_)
      refine AFn.fin' rfl (WkF.ofEq ?_) (by simp) (ouS_ok hou0 (by simp)) ⟨rfl, k, hk', Ne.symm k1, rfl⟩
      simp
end Go.Proofs.YtnonkoeknpmcjaaDoor
/- A node's list, coreFact, CoreOrdered, walked. -/
namespace Go.Proofs.YtnonkoeknpmcjaaDoor
open Go Go.Abs Go.CoreX
set_option maxRecDepth 10000
set_option linter.unusedVariables false
set_option linter.unusedSimpArgs false
variable {Γ : List (Nat × List AC)}
theorem NodeList_ok (hΓ : ∀ g cs, (g, cs) ∈ Γ → idsL isO cs) (t : Tr) (ht : okT t) (hsz : (listT [] t).length ≤ 1048576) : APure Tryd.prog Γ 34 [.one (.box (cNd t))] (.one (.sl 5 ((listT [] t).map cEx))) := by
  intro ou
  refine AFn.walk 7 tabOk Tryd.func34 rfl (by kernel_rfl) rfl rfl fun hou => ?_
  iterate 11 (first | (with_reducible refine oj ?_; refine AOps.auto tabOk rfl ?_) | (with_reducible first | refine o1 ?_ | refine o2 ?_ | refine o3 ?_ | refine o4 ?_ | refine o5 ?_ | refine o6 ?_ | refine o7 ?_ | refine o8 ?_ | refine o9 ?_ | refine oa ?_ | refine ob ?_ | refine oc ?_ | refine od ?_ | refine oe ?_ | refine og ?_ | refine oh ?_ | refine oi ?_) | (with_reducible refine cExitMiss ?_ ?_; rfl) | (with_reducible refine ok ?_; first | refine ACode.condT rfl ?_ | refine ACode.condF rfl ?_))
  refine ACode.grow 0 0 35 5 rfl rfl ?_
  repeat first | (with_reducible refine oj ?_; refine AOps.auto tabOk rfl ?_) | (with_reducible first | refine o1 ?_ | refine o2 ?_ | refine o3 ?_ | refine o4 ?_ | refine o5 ?_ | refine o6 ?_ | refine o7 ?_ | refine o8 ?_ | refine o9 ?_ | refine oa ?_ | refine ob ?_ | refine oc ?_ | refine od ?_ | refine oe ?_ | refine og ?_ | refine oh ?_ | refine oi ?_) | (with_reducible refine cExitMiss ?_ ?_; rfl) | (with_reducible refine ok ?_; first | refine ACode.condT rfl ?_ | refine ACode.condF rfl ?_)
  refine AOps.cede 0 (show 0 < 2 by omega) fun ko hko => ⟨[(4, .one (.box (cNd t))), (3, .one (.ptr (.o ko) 0))],
    ⟨2, [(1, .tok 35 5 0)], updO ou ko (.cells [.gs 5 [] (.l 1)])⟩, ⟨CedFr.get ?_, rfl, fun i x hx => ?_⟩, ?_⟩
  · exact .cons rfl (FV.sub_o _ (by simp)) (.cons rfl rfl .nil)
  · have hko : ou ko = none := hko
    cases i with
    | l m =>
      by_cases e : 1 = m
      · subst e; cases hx; exact ⟨.l 1, _, rfl, rfl, rfl⟩
      · simp [St.get, lookL, beq_no e] at hx
    | o m =>
      have hx' : updO ou ko (.cells [.gs 5 [] (.l 1)]) m = some x := hx
      by_cases e : ko = m
      · subst e; rw [updO_same] at hx'; cases hx'; exact ⟨.l 0, _, rfl, rfl, rfl⟩
      · rw [updO_ne _ e] at hx'
        exact ⟨.o m, x, hx', rfl, (AObj.sub_o x (hou m x hx')).symm⟩
  have hko : ou ko = none := hko
  refine AOps.cede 1 (show 1 < 2 by omega) fun kt hkt => ⟨[(4, .one (.box (cNd t))), (3, .one (.ptr (.o ko) 0))],
    ⟨2, [], ouS ou ko kt (([] : List Ex).map cEx)⟩, ⟨CedFr.get ?_, rfl, fun i x hx => ?_⟩, ?_⟩
  · exact .cons rfl (FV.sub_o _ (by simp)) (.cons rfl rfl .nil)
  · have hkt : updO ou ko (.cells [.gs 5 [] (.l 1)]) kt = none := hkt
    have hkto : ko ≠ kt := fun e => by subst e; rw [updO_same] at hkt; cases hkt
    cases i with
    | l m => cases hx
    | o m =>
      have hx' : ouS ou ko kt (([] : List Ex).map cEx) m = some x := hx
      by_cases e : m = kt
      · subst e; rw [ouS_t] at hx'; cases hx'; exact ⟨.l 1, _, rfl, rfl, rfl⟩
      · by_cases e2 : m = ko
        · subst e2; rw [ouS_o hkto] at hx'; cases hx'
          exact ⟨.o m, .cells [.gs 5 [] (.l 1)], updO_same _ _ _, rfl, rfl⟩
        · rw [ouS_w e2 e] at hx'
          refine ⟨.o m, x, ?_, rfl, (AObj.sub_o x (hou m x hx')).symm⟩
          show updO ou ko (.cells [.gs 5 [] (.l 1)]) m = _
          rw [updO_ne _ (Ne.symm e2)]; exact hx'
  have hkt : updO ou ko (.cells [.gs 5 [] (.l 1)]) kt = none := hkt
  have hot : ko ≠ kt := fun e => by subst e; rw [updO_same] at hkt; cases hkt
  rw [updO_ne _ hot] at hkt
  have hcall := into_ok hΓ t ht ou ko kt [] hou hko hkt hot hsz
  refine AOps.call1 hΓ rfl rfl rfl rfl rfl rfl rfl (by simp) (ouS_ok hou (by simp)) hcall fun r ou' hq hids hou' => ?_
  obtain ⟨rfl, kt', h1, h2, rfl⟩ := hq
  repeat first | (with_reducible refine oj ?_; refine AOps.auto tabOk rfl ?_) | (with_reducible first | refine o1 ?_ | refine o2 ?_ | refine o3 ?_ | refine o4 ?_ | refine o5 ?_ | refine o6 ?_ | refine o7 ?_ | refine o8 ?_ | refine o9 ?_ | refine oa ?_ | refine ob ?_ | refine oc ?_ | refine od ?_ | refine oe ?_ | refine og ?_ | refine oh ?_ | refine oi ?_) | (with_reducible refine cExitMiss ?_ ?_; rfl) | (with_reducible refine ok ?_; first | refine ACode.condT rfl ?_ | refine ACode.condF rfl ?_)
  refine AOps.step1 rfl rfl rfl (AStep.loadOwn tabOk rfl rfl rfl rfl rfl (ouS_o h2 _) rfl) ?_
  refine AOps.wk 6 rfl (y := .one (.sl 5 ((listT [] t).map cEx))) (.one (.gsE rfl)) ?_
  refine AOps.lessO ⟨2, [], ou⟩ rfl (fun i o ho => ?_) ?_
  · cases i with
    | l m => cases ho
    | o m =>
      have ho' : ou m = some o := ho
      show ouS ou ko kt' _ m = some o
      have e1 : m ≠ ko := fun e => by rw [e, hko] at ho'; cases ho'
      have e3 : m ≠ kt' := fun e => by rw [← e, ho'] at h1; cases h1
      rw [ouS_w e1 e3]; exact ho'
  repeat first | (with_reducible refine oj ?_; refine AOps.auto tabOk rfl ?_) | (with_reducible first | refine o1 ?_ | refine o2 ?_ | refine o3 ?_ | refine o4 ?_ | refine o5 ?_ | refine o6 ?_ | refine o7 ?_ | refine o8 ?_ | refine o9 ?_ | refine oa ?_ | refine ob ?_ | refine oc ?_ | refine od ?_ | refine oe ?_ | refine og ?_ | refine oh ?_ | refine oi ?_) | (with_reducible refine cExitMiss ?_ ?_; rfl) | (with_reducible refine ok ?_; first | refine ACode.condT rfl ?_ | refine ACode.condF rfl ?_)
  exact APure.fin rfl (WkF.ofEq rfl) (by simp) hou rfl
def factA : Tr := .mk 2 0 [1] [.mk 0 1 [] [] []] []
def factB : Tr := .mk 2 0 [2] [.mk 0 2 [] [] []] []
theorem okT_fact (n : Int) : okT (.mk 2 0 [n] [.mk 0 n [] [] []] []) := by simp [okT, okTs]
theorem okB_fact (n : Int) : okB (listT [] (.mk 2 0 [n] [.mk 0 n [] [] []] [])) := by
  have e : listT [] (.mk 2 0 [n] [.mk 0 n [] [] []] []) = [⟨0, n, [], [], []⟩, ⟨2, 0, [n], [0], []⟩] := by simp [listT, listTs]
  rw [e]
  refine ⟨⟨by simp, fun x hx => ?_⟩, fun x hx => ?_⟩
  · simp at hx
    rcases hx with rfl | rfl <;> exact ⟨by simp, by simp, by simp, by simp⟩
  · simp at hx
    rcases hx with rfl | rfl <;> simp
theorem same_fact : same (listT [] factA) (listT [] factB) = true := by kernel_rfl
theorem coreFact_ok : APure Tryd.prog Γc 11 [] (.one (.lit (.bool true))) := by
  intro ou
  refine AFn.walk 12 tabOk Tryd.func11 rfl (by kernel_rfl) rfl rfl fun hou => ?_
  repeat first | (with_reducible refine oj ?_; refine AOps.auto tabOk rfl ?_) | (with_reducible first | refine o1 ?_ | refine o2 ?_ | refine o3 ?_ | refine o4 ?_ | refine o5 ?_ | refine o6 ?_ | refine o7 ?_ | refine o8 ?_ | refine o9 ?_ | refine oa ?_ | refine ob ?_ | refine oc ?_ | refine od ?_ | refine oe ?_ | refine og ?_ | refine oh ?_ | refine oi ?_) | (with_reducible refine cExitMiss ?_ ?_; rfl) | (with_reducible refine ok ?_; first | refine ACode.condT rfl ?_ | refine ACode.condF rfl ?_)
  refine AOps.callC hΓc (V_ok hΓc 1) rfl rfl rfl rfl rfl rfl rfl hou (by simp) ?_
  repeat first | (with_reducible refine oj ?_; refine AOps.auto tabOk rfl ?_) | (with_reducible first | refine o1 ?_ | refine o2 ?_ | refine o3 ?_ | refine o4 ?_ | refine o5 ?_ | refine o6 ?_ | refine o7 ?_ | refine o8 ?_ | refine o9 ?_ | refine oa ?_ | refine ob ?_ | refine oc ?_ | refine od ?_ | refine oe ?_ | refine og ?_ | refine oh ?_ | refine oi ?_) | (with_reducible refine cExitMiss ?_ ?_; rfl) | (with_reducible refine ok ?_; first | refine ACode.condT rfl ?_ | refine ACode.condF rfl ?_)
  refine AOps.callC hΓc (B_ok 2 [1] [.mk 0 1 [] [] []]) rfl rfl rfl rfl rfl rfl (by simp [encNds, encNd_eq]; exact ⟨⟨rfl, rfl⟩, rfl⟩) hou (by simp) ?_
  refine AOps.callC hΓc (NodeList_ok hΓc factA (okT_fact 1) (by simp [factA, listT, listTs])) rfl rfl rfl rfl rfl rfl rfl hou (by simp) ?_
  repeat first | (with_reducible refine oj ?_; refine AOps.auto tabOk rfl ?_) | (with_reducible first | refine o1 ?_ | refine o2 ?_ | refine o3 ?_ | refine o4 ?_ | refine o5 ?_ | refine o6 ?_ | refine o7 ?_ | refine o8 ?_ | refine o9 ?_ | refine oa ?_ | refine ob ?_ | refine oc ?_ | refine od ?_ | refine oe ?_ | refine og ?_ | refine oh ?_ | refine oi ?_) | (with_reducible refine cExitMiss ?_ ?_; rfl) | (with_reducible refine ok ?_; first | refine ACode.condT rfl ?_ | refine ACode.condF rfl ?_)
  refine AOps.callC hΓc (V_ok hΓc 2) rfl rfl rfl rfl rfl rfl rfl hou (by simp) ?_
  repeat first | (with_reducible refine oj ?_; refine AOps.auto tabOk rfl ?_) | (with_reducible first | refine o1 ?_ | refine o2 ?_ | refine o3 ?_ | refine o4 ?_ | refine o5 ?_ | refine o6 ?_ | refine o7 ?_ | refine o8 ?_ | refine o9 ?_ | refine oa ?_ | refine ob ?_ | refine oc ?_ | refine od ?_ | refine oe ?_ | refine og ?_ | refine oh ?_ | refine oi ?_) | (with_reducible refine cExitMiss ?_ ?_; rfl) | (with_reducible refine ok ?_; first | refine ACode.condT rfl ?_ | refine ACode.condF rfl ?_)
  refine AOps.callC hΓc (B_ok 2 [2] [.mk 0 2 [] [] []]) rfl rfl rfl rfl rfl rfl (by simp [encNds, encNd_eq]; exact ⟨⟨rfl, rfl⟩, rfl⟩) hou (by simp) ?_
  refine AOps.callC hΓc (NodeList_ok hΓc factB (okT_fact 2) (by simp [factB, listT, listTs])) rfl rfl rfl rfl rfl rfl rfl hou (by simp) ?_
  refine AOps.callC hΓc (Same_ok _ _ (okB_fact 1) (okB_fact 2) same_fact) rfl rfl rfl rfl rfl rfl rfl hou (by simp) ?_
  repeat first | (with_reducible refine oj ?_; refine AOps.auto tabOk rfl ?_) | (with_reducible first | refine o1 ?_ | refine o2 ?_ | refine o3 ?_ | refine o4 ?_ | refine o5 ?_ | refine o6 ?_ | refine o7 ?_ | refine o8 ?_ | refine o9 ?_ | refine oa ?_ | refine ob ?_ | refine oc ?_ | refine od ?_ | refine oe ?_ | refine og ?_ | refine oh ?_ | refine oi ?_) | (with_reducible refine cExitMiss ?_ ?_; rfl) | (with_reducible refine ok ?_; first | refine ACode.condT rfl ?_ | refine ACode.condF rfl ?_)
  exact APure.fin rfl (WkF.ofEq rfl) (by simp) hou rfl
theorem okB_tree {e f : List Ex} (he : IsTree e) (hf : IsTree f) (h : grow e = grow f) (hb : okB e) : okB f := by
  have hp := labs_perm he hf h
  have hl : e.length = f.length := by rw [← len_labs e, ← len_labs f]; exact hp.length_eq
  have key : ∀ y ∈ f, ∃ x ∈ e, labE e x = labE f y := fun y hy => by
    have := hp.mem_iff.2 (List.mem_map_of_mem (f := labE f) hy)
    exact List.mem_map.1 this
  have dat : ∀ y ∈ f, ∃ x ∈ e, x.binds = y.binds ∧ x.alts = y.alts ∧ x.kids.length = y.kids.length := fun y hy => by
    obtain ⟨x, hx, hxy⟩ := key y hy
    simp only [labE, Lab.mk.injEq] at hxy
    have := congrArg List.length hxy.2.2.2.1
    simp only [List.length_map] at this
    exact ⟨x, hx, hxy.2.2.1, hxy.2.2.2.2, this⟩
  refine ⟨⟨by rw [← hl]; exact hb.eo.l, fun y hy => ?_⟩, fun y hy => ?_⟩
  · obtain ⟨x, hx, h1, h2, h3⟩ := dat y hy
    have hx' := hb.eo.x x hx
    exact ⟨by rw [← h1]; exact hx'.b, by rw [← h3]; exact hx'.k, by rw [← h2]; exact hx'.a, by rw [← h2]; exact hx'.ab⟩
  · obtain ⟨x, hx, h1, h2, h3⟩ := dat y hy
    have := hb.b x hx
    rw [h1, h2] at this
    exact this
theorem CoreOrdered_ok (e : List Ex) (he : okB e) : APure Tryd.prog Γc 3 [.one (.sl 5 (e.map cEx))] (.one (.lit (.bool true))) := by
  intro ou
  refine AFn.walk 47 tabOk Tryd.func3 rfl (by kernel_rfl) rfl rfl fun hou => ?_
  have c1 := Order_ok e he
  by_cases h : check e = 0
  · have t1 := body_isTree h
    have t2 := isTree_list (grow e)
    have ho : order e = (listT [] (grow e), 0) := by unfold order; rw [if_neg (by simpa using h)]
    have ho2 : order (listT [] (grow e)) = (listT [] (grow e), 0) := by unfold order; rw [if_neg (by simpa using check_list h), grow_list]
    have hbf : okB (listT [] (grow e)) := okB_tree t1 t2 (grow_list _).symm he
    have c2 := Order_ok _ hbf
    have hlen := len_list h
    have hsm : same e (listT [] (grow e)) = true := by simp [same, h, check_list h, grow_list, sameTree_refl]
    have c3 := Same_ok e _ he hbf hsm
    rw [ho] at c1
    rw [ho2] at c2
    have c4 := SameListR_ok hΓc _ hbf.eo
    generalize listT [] (grow e) = f at c1 c2 c3 c4 hlen
    simp only at c1 c2
    repeat first | (with_reducible refine oj ?_; refine AOps.auto tabOk rfl ?_) | (with_reducible first | refine o1 ?_ | refine o2 ?_ | refine o3 ?_ | refine o4 ?_ | refine o5 ?_ | refine o6 ?_ | refine o7 ?_ | refine o8 ?_ | refine o9 ?_ | refine oa ?_ | refine ob ?_ | refine oc ?_ | refine od ?_ | refine oe ?_ | refine og ?_ | refine oh ?_ | refine oi ?_) | (with_reducible refine cExitMiss ?_ ?_; rfl) | (with_reducible refine ok ?_; first | refine ACode.condT rfl ?_ | refine ACode.condF rfl ?_)
    refine AOps.callC hΓc c1 rfl rfl rfl rfl rfl rfl rfl hou (by simp) ?_
    repeat first | (with_reducible refine oj ?_; refine AOps.auto tabOk rfl ?_) | (with_reducible first | refine o1 ?_ | refine o2 ?_ | refine o3 ?_ | refine o4 ?_ | refine o5 ?_ | refine o6 ?_ | refine o7 ?_ | refine o8 ?_ | refine o9 ?_ | refine oa ?_ | refine ob ?_ | refine oc ?_ | refine od ?_ | refine oe ?_ | refine og ?_ | refine oh ?_ | refine oi ?_) | (with_reducible refine cExitMiss ?_ ?_; rfl) | (with_reducible refine ok ?_; first | refine ACode.condT rfl ?_ | refine ACode.condF rfl ?_)
    refine AOps.callC hΓc c2 rfl rfl rfl rfl rfl rfl rfl hou (by simp) ?_
    repeat first | (with_reducible refine oj ?_; refine AOps.auto tabOk rfl ?_) | (with_reducible first | refine o1 ?_ | refine o2 ?_ | refine o3 ?_ | refine o4 ?_ | refine o5 ?_ | refine o6 ?_ | refine o7 ?_ | refine o8 ?_ | refine o9 ?_ | refine oa ?_ | refine ob ?_ | refine oc ?_ | refine od ?_ | refine oe ?_ | refine og ?_ | refine oh ?_ | refine oi ?_) | (with_reducible refine cExitMiss ?_ ?_; rfl) | (with_reducible refine ok ?_; first | refine ACode.condT rfl ?_ | refine ACode.condF rfl ?_)
    refine AOps.callC hΓc coreFact_ok rfl rfl rfl rfl rfl rfl rfl hou (by simp) ?_
    repeat' first | (with_reducible refine oj ?_; refine AOps.auto tabOk rfl ?_) | (with_reducible first | refine o1 ?_ | refine o2 ?_ | refine o3 ?_ | refine o4 ?_ | refine o5 ?_ | refine o6 ?_ | refine o7 ?_ | refine o8 ?_ | refine o9 ?_ | refine oa ?_ | refine ob ?_ | refine oc ?_ | refine od ?_ | refine oe ?_ | refine og ?_ | refine oh ?_ | refine oi ?_) | (with_reducible refine cExitMiss ?_ ?_; rfl) | (with_reducible refine ok ?_; first | refine ACode.condT rfl ?_ | refine ACode.condF rfl ?_) | (with_reducible refine oj ?_; first | refine AOps.step1 rfl rfl rfl (AStep.arith rfl rfl rfl (.inl ⟨rfl, rfl⟩) (inRange_i64 (by first | omega | (simp; omega)) (by first | omega | (simp; omega)))) ?_ | refine AOps.step1 rfl rfl rfl (AStep.arith rfl rfl rfl (.inr (.inl ⟨rfl, rfl⟩)) (inRange_i64 (by first | omega | (simp; omega)) (by first | omega | (simp; omega)))) ?_ | refine AOps.step1 rfl rfl rfl (AStep.neBool Tryd.underlying4 rfl rfl rfl) ?_ | refine AOps.step1 rfl rfl rfl (AStep.eqBool Tryd.underlying4 rfl rfl rfl) ?_ | refine AOps.step1 rfl rfl rfl (AStep.max2 (t := 3) (ty := 3) rfl rfl rfl) ?_ | refine AOps.step1 rfl rfl rfl (AStep.min2 (t := 3) (ty := 3) rfl rfl rfl) ?_ | refine AOps.unG rfl rfl rfl ?_)
    refine AOps.callC hΓc c4 rfl rfl rfl rfl rfl rfl rfl hou (by simp) ?_
    repeat' first | (with_reducible refine oj ?_; refine AOps.auto tabOk rfl ?_) | (with_reducible first | refine o1 ?_ | refine o2 ?_ | refine o3 ?_ | refine o4 ?_ | refine o5 ?_ | refine o6 ?_ | refine o7 ?_ | refine o8 ?_ | refine o9 ?_ | refine oa ?_ | refine ob ?_ | refine oc ?_ | refine od ?_ | refine oe ?_ | refine og ?_ | refine oh ?_ | refine oi ?_) | (with_reducible refine cExitMiss ?_ ?_; rfl) | (with_reducible refine ok ?_; first | refine ACode.condT rfl ?_ | refine ACode.condF rfl ?_) | (with_reducible refine oj ?_; first | refine AOps.step1 rfl rfl rfl (AStep.arith rfl rfl rfl (.inl ⟨rfl, rfl⟩) (inRange_i64 (by first | omega | (simp; omega)) (by first | omega | (simp; omega)))) ?_ | refine AOps.step1 rfl rfl rfl (AStep.arith rfl rfl rfl (.inr (.inl ⟨rfl, rfl⟩)) (inRange_i64 (by first | omega | (simp; omega)) (by first | omega | (simp; omega)))) ?_ | refine AOps.step1 rfl rfl rfl (AStep.neBool Tryd.underlying4 rfl rfl rfl) ?_ | refine AOps.step1 rfl rfl rfl (AStep.eqBool Tryd.underlying4 rfl rfl rfl) ?_ | refine AOps.step1 rfl rfl rfl (AStep.max2 (t := 3) (ty := 3) rfl rfl rfl) ?_ | refine AOps.step1 rfl rfl rfl (AStep.min2 (t := 3) (ty := 3) rfl rfl rfl) ?_ | refine AOps.unG rfl rfl rfl ?_)
    refine AOps.callC hΓc c3 rfl rfl rfl rfl rfl rfl rfl hou (by simp) ?_
    repeat' first | (with_reducible refine oj ?_; refine AOps.auto tabOk rfl ?_) | (with_reducible first | refine o1 ?_ | refine o2 ?_ | refine o3 ?_ | refine o4 ?_ | refine o5 ?_ | refine o6 ?_ | refine o7 ?_ | refine o8 ?_ | refine o9 ?_ | refine oa ?_ | refine ob ?_ | refine oc ?_ | refine od ?_ | refine oe ?_ | refine og ?_ | refine oh ?_ | refine oi ?_) | (with_reducible refine cExitMiss ?_ ?_; rfl) | (with_reducible refine ok ?_; first | refine ACode.condT rfl ?_ | refine ACode.condF rfl ?_) | (with_reducible refine oj ?_; first | refine AOps.step1 rfl rfl rfl (AStep.arith rfl rfl rfl (.inl ⟨rfl, rfl⟩) (inRange_i64 (by first | omega | (simp; omega)) (by first | omega | (simp; omega)))) ?_ | refine AOps.step1 rfl rfl rfl (AStep.arith rfl rfl rfl (.inr (.inl ⟨rfl, rfl⟩)) (inRange_i64 (by first | omega | (simp; omega)) (by first | omega | (simp; omega)))) ?_ | refine AOps.step1 rfl rfl rfl (AStep.neBool Tryd.underlying4 rfl rfl rfl) ?_ | refine AOps.step1 rfl rfl rfl (AStep.eqBool Tryd.underlying4 rfl rfl rfl) ?_ | refine AOps.step1 rfl rfl rfl (AStep.max2 (t := 3) (ty := 3) rfl rfl rfl) ?_ | refine AOps.step1 rfl rfl rfl (AStep.min2 (t := 3) (ty := 3) rfl rfl rfl) ?_ | refine AOps.unG rfl rfl rfl ?_)
    refine APure.fin rfl (WkF.ofEq ?_) (by simp) hou rfl
    simp [hlen]
  · have ho : order e = ([], check e) := by unfold order; rw [if_pos h]
    rw [ho] at c1
    simp only at c1
    repeat first | (with_reducible refine oj ?_; refine AOps.auto tabOk rfl ?_) | (with_reducible first | refine o1 ?_ | refine o2 ?_ | refine o3 ?_ | refine o4 ?_ | refine o5 ?_ | refine o6 ?_ | refine o7 ?_ | refine o8 ?_ | refine o9 ?_ | refine oa ?_ | refine ob ?_ | refine oc ?_ | refine od ?_ | refine oe ?_ | refine og ?_ | refine oh ?_ | refine oi ?_) | (with_reducible refine cExitMiss ?_ ?_; rfl) | (with_reducible refine ok ?_; first | refine ACode.condT rfl ?_ | refine ACode.condF rfl ?_)
    refine AOps.callC hΓc c1 rfl rfl rfl rfl rfl rfl rfl hou (by simp) ?_
    repeat first | (with_reducible refine oj ?_; refine AOps.auto tabOk rfl ?_) | (with_reducible first | refine o1 ?_ | refine o2 ?_ | refine o3 ?_ | refine o4 ?_ | refine o5 ?_ | refine o6 ?_ | refine o7 ?_ | refine o8 ?_ | refine o9 ?_ | refine oa ?_ | refine ob ?_ | refine oc ?_ | refine od ?_ | refine oe ?_ | refine og ?_ | refine oh ?_ | refine oi ?_) | (with_reducible refine cExitMiss ?_ ?_; rfl) | (with_reducible refine ok ?_; first | refine ACode.condT rfl ?_ | refine ACode.condF rfl ?_)
    refine ACode.cond rfl (fun hb => ?_) (fun hb => absurd (by simpa using hb) h)
    repeat first | (with_reducible refine oj ?_; refine AOps.auto tabOk rfl ?_) | (with_reducible first | refine o1 ?_ | refine o2 ?_ | refine o3 ?_ | refine o4 ?_ | refine o5 ?_ | refine o6 ?_ | refine o7 ?_ | refine o8 ?_ | refine o9 ?_ | refine oa ?_ | refine ob ?_ | refine oc ?_ | refine od ?_ | refine oe ?_ | refine og ?_ | refine oh ?_ | refine oi ?_) | (with_reducible refine cExitMiss ?_ ?_; rfl) | (with_reducible refine ok ?_; first | refine ACode.condT rfl ?_ | refine ACode.condF rfl ?_)
    refine AOps.callC hΓc coreFact_ok rfl rfl rfl rfl rfl rfl rfl hou (by simp) ?_
    repeat' first | (with_reducible refine oj ?_; refine AOps.auto tabOk rfl ?_) | (with_reducible first | refine o1 ?_ | refine o2 ?_ | refine o3 ?_ | refine o4 ?_ | refine o5 ?_ | refine o6 ?_ | refine o7 ?_ | refine o8 ?_ | refine o9 ?_ | refine oa ?_ | refine ob ?_ | refine oc ?_ | refine od ?_ | refine oe ?_ | refine og ?_ | refine oh ?_ | refine oi ?_) | (with_reducible refine cExitMiss ?_ ?_; rfl) | (with_reducible refine ok ?_; first | refine ACode.condT rfl ?_ | refine ACode.condF rfl ?_) | (with_reducible refine oj ?_; first | refine AOps.step1 rfl rfl rfl (AStep.arith rfl rfl rfl (.inl ⟨rfl, rfl⟩) (inRange_i64 (by first | omega | (simp; omega)) (by first | omega | (simp; omega)))) ?_ | refine AOps.step1 rfl rfl rfl (AStep.arith rfl rfl rfl (.inr (.inl ⟨rfl, rfl⟩)) (inRange_i64 (by first | omega | (simp; omega)) (by first | omega | (simp; omega)))) ?_ | refine AOps.step1 rfl rfl rfl (AStep.neBool Tryd.underlying4 rfl rfl rfl) ?_ | refine AOps.step1 rfl rfl rfl (AStep.eqBool Tryd.underlying4 rfl rfl rfl) ?_ | refine AOps.step1 rfl rfl rfl (AStep.max2 (t := 3) (ty := 3) rfl rfl rfl) ?_ | refine AOps.step1 rfl rfl rfl (AStep.min2 (t := 3) (ty := 3) rfl rfl rfl) ?_ | refine AOps.unG rfl rfl rfl ?_)
    exact APure.fin rfl (WkF.ofEq rfl) (by simp) hou rfl
end Go.Proofs.YtnonkoeknpmcjaaDoor
/- Core expressions as plain data: what lies below a node. No condition. -/
namespace Go.CoreX
set_option linter.unusedVariables false
/-- The tree of a node. -/
def treeAt (e : List Ex) (k : Nat) : Tr := (growL e).getD k default
theorem treeAt_node {e : List Ex} (hk : kidsIn e) {i : Nat} {x : Ex} (hx : e[i]? = some x) : treeAt e i = .mk x.op x.n x.binds (x.kids.map fun k => treeAt e k.toNat) x.alts := by
  have hi := (List.getElem?_eq_some_iff.1 hx).1
  have hs : e = e.take i ++ x :: e.drop (i + 1) := by
    obtain ⟨h2, h3⟩ := List.getElem?_eq_some_iff.1 hx
    rw [← h3, ← List.drop_eq_getElem_cons h2, List.take_append_drop]
  have hl : (e.take i).length = i := by simp; omega
  have h1 := growL_at (e.take i) (e.drop (i + 1)) x
  rw [← hs, hl] at h1
  unfold treeAt
  rw [h1]
  simp only [nodeOf, Tr.mk.injEq, true_and, and_true]
  refine List.map_congr_left fun k hkk => ?_
  have hb := hk i x hx k hkk
  have h2 := growL_get (e := e.take i) (l := x :: e.drop (i + 1)) (i := k.toNat) (by rw [hl]; omega)
  rw [← hs] at h2
  exact h2.symm
theorem cnt_pos : ∀ {e : List Ex} {k : Nat}, 0 < cnt e k → ∃ (i : Nat) (x : Ex), e[i]? = some x ∧ (k : Int) ∈ x.kids
  | [], k, h => by simp [cnt] at h
  | x :: e, k, h => by
    simp only [cnt] at h
    by_cases h1 : 0 < x.kids.count (k : Int)
    · exact ⟨0, x, rfl, List.count_pos_iff.1 h1⟩
    · obtain ⟨i, y, h2, h3⟩ := cnt_pos (e := e) (k := k) (by omega)
      exact ⟨i + 1, y, by simpa using h2, h3⟩
/-- What goes down from a node to its kids goes down from the root. -/
theorem up_ind {e : List Ex} (h : IsTree e) {P : Tr → Prop} (h0 : P (grow e)) (h1 : ∀ (t s : Tr), P t → s ∈ t.kids → P s) : ∀ k, k < e.length → P (treeAt e k) := by
  have key : ∀ d k, k < e.length → e.length - k = d → P (treeAt e k) := by
    intro d
    induction d using Nat.strongRecOn with
    | _ d ih =>
      intro k hk hd
      by_cases hl : k + 1 < e.length
      · have hc := (h.c k hk).2 hl
        obtain ⟨i, x, hx, hkx⟩ := cnt_pos (e := e) (k := k) (by omega)
        have hb := h.k i x hx _ hkx
        have hi := (List.getElem?_eq_some_iff.1 hx).1
        have hp := ih (e.length - i) (by omega) i hi rfl
        rw [treeAt_node h.k hx] at hp
        refine h1 _ _ hp ?_
        simp only [Tr.kids_mk, List.mem_map]
        exact ⟨_, hkx, by simp⟩
      · have : k = e.length - 1 := by omega
        subst this
        exact h0
  exact fun k hk => key _ k hk rfl
mutual
theorem sumT_nonneg (g : Lab → Int) (hg : ∀ l, 0 ≤ g l) : ∀ t : Tr, 0 ≤ sumT g t
  | .mk o m b k a => by
    simp only [sumT]
    have h1 := hg ⟨o, m, b, k.map Tr.op, a⟩
    have h2 := sumTs_nonneg g hg k
    omega
theorem sumTs_nonneg (g : Lab → Int) (hg : ∀ l, 0 ≤ g l) : ∀ l : List Tr, 0 ≤ sumTs g l
  | [] => by simp [sumTs]
  | t :: l => by
    simp only [sumTs]
    have h1 := sumT_nonneg g hg t
    have h2 := sumTs_nonneg g hg l
    omega
end
theorem sumT_kid (g : Lab → Int) (hg : ∀ l, 0 ≤ g l) {t s : Tr} (h : s ∈ t.kids) : sumT g s ≤ sumT g t := by
  cases t with
  | mk o m b k a =>
    simp only [Tr.kids_mk] at h
    simp only [sumT, sumTs_eq]
    have h1 := hg ⟨o, m, b, k.map Tr.op, a⟩
    have : sumT g s ≤ (k.map (sumT g)).sum := by
      clear h1
      induction k with
      | nil => cases h
      | cons r k ih =>
        simp only [List.map_cons, List.sum_cons]
        have hr := sumT_nonneg g hg r
        have hk : 0 ≤ (k.map (sumT g)).sum := by
          clear ih h
          induction k with
          | nil => simp
          | cons q k ihk =>
            simp only [List.map_cons, List.sum_cons]
            have := sumT_nonneg g hg q
            omega
        rcases List.mem_cons.1 h with rfl | h
        · omega
        · have := ih h; omega
    omega
theorem depthT_kid {t s : Tr} (h : s ∈ t.kids) : depthT s ≤ depthT t := by
  cases t with
  | mk o m b k a =>
    simp only [Tr.kids_mk] at h
    have := depth_kid (o := o) (n := m) (b := b) (a := a) h
    omega
theorem okT_kid {t s : Tr} (ht : okT t) (h : s ∈ t.kids) : okT s := by
  cases t with
  | mk o m b k a => exact okTs_iff.1 ht.2.2.2.2 s h
theorem sum_mono (g : Lab → Int) (hg : ∀ l, 0 ≤ g l) {e : List Ex} (h : IsTree e) {k : Nat} (hk : k < e.length) : ((labs (listT [] (treeAt e k))).map g).sum ≤ ((labs e).map g).sum := by
  have h1 := sum_tree g (isTree_list (treeAt e k))
  rw [grow_list] at h1
  rw [h1, sum_tree g h]
  exact up_ind h (P := fun t => sumT g t ≤ sumT g (grow e)) (Int.le_refl _) (fun t s ht hs => Int.le_trans (sumT_kid g hg hs) ht) k hk
theorem labs_sub {e : List Ex} (h : IsTree e) {k : Nat} (hk : k < e.length) (l : Lab) (hl : l ∈ labs (listT [] (treeAt e k))) : l ∈ labs e := by
  have h1 := sum_mono (fun l' => if l' = l then (1 : Int) else 0) (fun l' => by split <;> omega) h hk
  rw [sum_count, sum_count] at h1
  have h2 := List.count_pos_iff.2 hl
  exact List.count_pos_iff.1 (by omega)
theorem sum_ones : ∀ ls : List Lab, (ls.map fun _ => (1 : Int)).sum = ls.length
  | [] => rfl
  | l :: ls => by simp only [List.map_cons, List.sum_cons, sum_ones ls, List.length_cons]; omega
theorem len_sub {e : List Ex} (h : IsTree e) {k : Nat} (hk : k < e.length) : (listT [] (treeAt e k)).length ≤ e.length := by
  have h1 := sum_mono (fun _ => (1 : Int)) (fun _ => by omega) h hk
  rw [sum_ones, sum_ones, len_labs, len_labs] at h1
  omega
theorem count_flat (n : Int) (f : Lab → List Int) : ∀ ls : List Lab, (((ls.flatMap f).count n : Nat) : Int) = (ls.map fun l => (((f l).count n : Nat) : Int)).sum
  | [] => rfl
  | l :: ls => by
    simp only [List.flatMap_cons, List.count_append, List.map_cons, List.sum_cons, ← count_flat n f ls]
    omega
/-- A part of an expression that a check finds right: only what occurs freely can be amiss. -/
theorem check_at {e : List Ex} (h : check e = 0) {k : Nat} (hk : k < e.length) : check (listT [] (treeAt e k)) = if 0 < (freeOf (treeAt e k)).length then 6 else 0 := by
  have hb := h
  unfold check body at hb
  by_cases h1 : treeErr e = 0
  · rw [if_neg (by simpa using h1)] at hb
    obtain ⟨t1, t2, t3⟩ := (treeErr_iff e).1 h1
    have t2f := isTree_list (treeAt e k)
    have hl := len_sub t2 hk
    have hdp : depthT (treeAt e k) ≤ 400 := up_ind t2 (P := fun t => depthT t ≤ 400) t3 (fun t s ht hs => Int.le_trans (depthT_kid hs) ht) k hk
    by_cases h2 : firstErr (nodeErrF false e) e = 0
    · rw [if_neg (by simpa using h2)] at hb
      have h2f : firstErr (nodeErrF false (listT [] (treeAt e k))) (listT [] (treeAt e k)) = 0 := by
        rw [firstErr_zero] at h2 ⊢
        intro y hy
        have hm := labs_sub t2 hk _ (List.mem_map_of_mem (f := labE (listT [] (treeAt e k))) hy)
        obtain ⟨x, hx, hxy⟩ := List.mem_map.1 hm
        rw [← nodeErrF_lab (kids_lt t2.k hx) (kids_lt t2f.k hy) hxy]
        exact h2 x hx
      by_cases h3 : hasDup ([] ++ allBinders e) = true
      · rw [if_pos h3] at hb; exact absurd hb (by decide)
      have h3f : ¬ hasDup ([] ++ allBinders (listT [] (treeAt e k))) = true := by
        intro h4
        have h5 := (hasDup_false _).1 (by simpa using h3)
        have h6 : ([] ++ allBinders (listT [] (treeAt e k))).Nodup := by
          rw [List.nil_append]
          have h5 : (allBinders e).Nodup := h5
          rw [List.nodup_iff_count] at h5 ⊢
          intro n
          have h7 := h5 n
          rw [allBinders_labs] at h7 ⊢
          have h8 := sum_mono (fun l => (((bindersN l.op l.binds l.alts).count n : Nat) : Int)) (fun l => by omega) t2 hk
          have h9 := count_flat n (fun l => bindersN l.op l.binds l.alts) (labs e)
          have h10 := count_flat n (fun l => bindersN l.op l.binds l.alts) (labs (listT [] (treeAt e k)))
          rw [← h9, ← h10] at h8
          omega
        rw [(hasDup_false _).2 h6] at h4; cases h4
      unfold check body
      rw [if_neg (by rw [Classical.not_not]; exact (treeErr_iff _).2 ⟨by omega, t2f, by rw [grow_list]; exact hdp⟩), if_neg (by rw [h2f]; simp), if_neg h3f, grow_list]
      by_cases h4 : 0 < (freeOf (treeAt e k)).length
      · rw [if_pos h4, if_neg]
        intro h5
        obtain ⟨n, hn⟩ := List.exists_mem_of_length_pos h4
        have := List.all_eq_true.1 h5 n hn
        simp at this
      · have : freeOf (treeAt e k) = [] := List.length_eq_zero_iff.1 (by omega)
        rw [this]; rfl
    · rw [if_pos h2] at hb; exact absurd hb h2
  · rw [if_pos h1] at hb; exact absurd hb h1
/-- at, Free, Cut, Size. -/
def atErr (e : List Ex) (n : Int) : Int := if check e ≠ 0 then check e else if n < 0 ∨ (e.length : Int) ≤ n then 12 else 0
def freeAt (e : List Ex) (n : Int) : List Int × Int := if atErr e n ≠ 0 then ([], atErr e n) else (freeOf (treeAt e n.toNat), 0)
def cutAt (e : List Ex) (n : Int) : List Ex × Int := if atErr e n ≠ 0 then ([], atErr e n) else (listT [] (treeAt e n.toNat), 0)
def sizeAt (e : List Ex) (n : Int) : Int × Int := if atErr e n ≠ 0 then (0, atErr e n) else ((listT [] (treeAt e n.toNat)).length, 0)
theorem atErr_zero {e : List Ex} {n : Int} (h : atErr e n = 0) : check e = 0 ∧ 0 ≤ n ∧ n.toNat < e.length := by
  unfold atErr at h
  by_cases h1 : check e = 0
  · rw [if_neg (by simpa using h1)] at h
    by_cases h2 : n < 0 ∨ (e.length : Int) ≤ n
    · rw [if_pos h2] at h; cases h
    · exact ⟨h1, by omega, by omega⟩
  · rw [if_pos h1] at h; exact absurd h h1
end Go.CoreX
/- at, below, Free, Cut, Size, CoreCut, walked. -/
namespace Go.Proofs.YtnonkoeknpmcjaaDoor
open Go Go.Abs Go.CoreX
set_option maxRecDepth 10000
set_option linter.unusedVariables false
set_option linter.unusedSimpArgs false
variable {Γ : List (Nat × List AC)}
theorem at_ok (e : List Ex) (he : okB e) (n : Int) : APure Tryd.prog Γc 38 [.one (.sl 5 (e.map cEx)), .one (int n)] (.one (int (atErr e n))) := by
  intro ou
  refine AFn.walk 19 tabOk Tryd.func38 rfl (by kernel_rfl) rfl rfl fun hou => ?_
  repeat first | (with_reducible refine oj ?_; refine AOps.auto tabOk rfl ?_) | (with_reducible first | refine o1 ?_ | refine o2 ?_ | refine o3 ?_ | refine o4 ?_ | refine o5 ?_ | refine o6 ?_ | refine o7 ?_ | refine o8 ?_ | refine o9 ?_ | refine oa ?_ | refine ob ?_ | refine oc ?_ | refine od ?_ | refine oe ?_ | refine og ?_ | refine oh ?_ | refine oi ?_) | (with_reducible refine cExitMiss ?_ ?_; rfl) | (with_reducible refine ok ?_; first | refine ACode.condT rfl ?_ | refine ACode.condF rfl ?_)
  refine AOps.callC hΓc (Check_ok e he) rfl rfl rfl rfl rfl rfl rfl hou (by simp) ?_
  repeat first | (with_reducible refine oj ?_; refine AOps.auto tabOk rfl ?_) | (with_reducible first | refine o1 ?_ | refine o2 ?_ | refine o3 ?_ | refine o4 ?_ | refine o5 ?_ | refine o6 ?_ | refine o7 ?_ | refine o8 ?_ | refine o9 ?_ | refine oa ?_ | refine ob ?_ | refine oc ?_ | refine od ?_ | refine oe ?_ | refine og ?_ | refine oh ?_ | refine oi ?_) | (with_reducible refine cExitMiss ?_ ?_; rfl) | (with_reducible refine ok ?_; first | refine ACode.condT rfl ?_ | refine ACode.condF rfl ?_)
  refine ACode.cond rfl (fun hb => ?_) (fun hb => ?_)
  · have h : check e ≠ 0 := by simpa using hb
    repeat first | (with_reducible refine oj ?_; refine AOps.auto tabOk rfl ?_) | (with_reducible first | refine o1 ?_ | refine o2 ?_ | refine o3 ?_ | refine o4 ?_ | refine o5 ?_ | refine o6 ?_ | refine o7 ?_ | refine o8 ?_ | refine o9 ?_ | refine oa ?_ | refine ob ?_ | refine oc ?_ | refine od ?_ | refine oe ?_ | refine og ?_ | refine oh ?_ | refine oi ?_) | (with_reducible refine cExitMiss ?_ ?_; rfl) | (with_reducible refine ok ?_; first | refine ACode.condT rfl ?_ | refine ACode.condF rfl ?_)
    refine APure.fin rfl (WkF.ofEq ?_) (by simp) hou rfl
    unfold atErr; rw [if_pos h]
  have h : check e = 0 := by simpa using hb
  have hn : atErr e n = if n < 0 ∨ (e.length : Int) ≤ n then 12 else 0 := by unfold atErr; rw [if_neg (by simpa using h)]
  clear hb
  repeat' first | (with_reducible refine oj ?_; refine AOps.auto tabOk rfl ?_) | (with_reducible first | refine o1 ?_ | refine o2 ?_ | refine o3 ?_ | refine o4 ?_ | refine o5 ?_ | refine o6 ?_ | refine o7 ?_ | refine o8 ?_ | refine o9 ?_ | refine oa ?_ | refine ob ?_ | refine oc ?_ | refine od ?_ | refine oe ?_ | refine og ?_ | refine oh ?_ | refine oi ?_) | (with_reducible refine cExitMiss ?_ ?_; rfl) | (with_reducible refine ok ?_; first | refine ACode.condT rfl ?_ | refine ACode.condF rfl ?_) | (with_reducible refine oj ?_; first | refine AOps.step1 rfl rfl rfl (AStep.arith rfl rfl rfl (.inl ⟨rfl, rfl⟩) (inRange_i64 (by first | omega | (simp; omega)) (by first | omega | (simp; omega)))) ?_ | refine AOps.step1 rfl rfl rfl (AStep.arith rfl rfl rfl (.inr (.inl ⟨rfl, rfl⟩)) (inRange_i64 (by first | omega | (simp; omega)) (by first | omega | (simp; omega)))) ?_ | refine AOps.step1 rfl rfl rfl (AStep.neBool Tryd.underlying4 rfl rfl rfl) ?_ | refine AOps.step1 rfl rfl rfl (AStep.eqBool Tryd.underlying4 rfl rfl rfl) ?_ | refine AOps.step1 rfl rfl rfl (AStep.max2 (t := 3) (ty := 3) rfl rfl rfl) ?_ | refine AOps.step1 rfl rfl rfl (AStep.min2 (t := 3) (ty := 3) rfl rfl rfl) ?_ | refine AOps.unG rfl rfl rfl ?_) | (with_reducible refine oj ?_; refine AOps.splitS rfl rfl rfl rfl (fun hb => ?_) (fun hb => ?_)) | (with_reducible refine ok ?_; first | refine ACode.condS rfl (fun hb => ?_) (fun hb => ?_) | refine ACode.cond rfl (fun hb => ?_) (fun hb => ?_))
  all_goals
    refine APure.fin rfl (WkF.ofEq ?_) (by simp) hou rfl
    rw [hn]
    first
      | (rw [if_pos (by simp_all)]; done)
      | (rw [if_pos (by simp at *; omega)]; done)
      | (rw [if_neg (by simp at *; omega)]; done)
set_option maxHeartbeats 1000000 in
theorem below_ok (hΓ : ∀ g cs, (g, cs) ∈ Γ → idsL isO cs) (e : List Ex) (he : okE e) (hin : kidsIn e) (q : Nat) (hq : q < e.length) : APure Tryd.prog Γ 40 [.one (.sl 5 (e.map cEx)), .one (int (q : Nat))] (.one (.box (cTr (treeAt e q)))) := by
  have hel := he.l
  intro ou
  refine AFn.walk 64 tabOk Tryd.func40 rfl (by kernel_rfl) rfl rfl fun hou => ?_
  repeat first | (with_reducible refine oj ?_; refine AOps.auto tabOk rfl ?_) | (with_reducible first | refine o1 ?_ | refine o2 ?_ | refine o3 ?_ | refine o4 ?_ | refine o5 ?_ | refine o6 ?_ | refine o7 ?_ | refine o8 ?_ | refine o9 ?_ | refine oa ?_ | refine ob ?_ | refine oc ?_ | refine od ?_ | refine oe ?_ | refine og ?_ | refine oh ?_ | refine oi ?_) | (with_reducible refine cExitMiss ?_ ?_; rfl) | (with_reducible refine ok ?_; first | refine ACode.condT rfl ?_ | refine ACode.condF rfl ?_)
  have hb : ti56.bytes * (e.map cEx).length ≤ 281474976710656 := by simp; show 8 * _ ≤ _; omega
  have hb2 : (e.map cEx).length ≤ 281474976710656 := by simp; omega
  refine AOps.step1 rfl rfl rfl (AStep.makeArr tabOk rfl rfl rfl rfl rfl rfl rfl rfl hb hb2) ?_
  repeat' first | (with_reducible refine oj ?_; refine AOps.auto tabOk rfl ?_) | (with_reducible first | refine o1 ?_ | refine o2 ?_ | refine o3 ?_ | refine o4 ?_ | refine o5 ?_ | refine o6 ?_ | refine o7 ?_ | refine o8 ?_ | refine o9 ?_ | refine oa ?_ | refine ob ?_ | refine oc ?_ | refine od ?_ | refine oe ?_ | refine og ?_ | refine oh ?_ | refine oi ?_) | (with_reducible refine cExitMiss ?_ ?_; rfl) | (with_reducible refine ok ?_; first | refine ACode.condT rfl ?_ | refine ACode.condF rfl ?_) | (with_reducible refine oj ?_; first | refine AOps.step1 rfl rfl rfl (AStep.arith rfl rfl rfl (.inl ⟨rfl, rfl⟩) (inRange_i64 (by first | omega | (simp; omega)) (by first | omega | (simp; omega)))) ?_ | refine AOps.step1 rfl rfl rfl (AStep.arith rfl rfl rfl (.inr (.inl ⟨rfl, rfl⟩)) (inRange_i64 (by first | omega | (simp; omega)) (by first | omega | (simp; omega)))) ?_ | refine AOps.step1 rfl rfl rfl (AStep.neBool Tryd.underlying4 rfl rfl rfl) ?_ | refine AOps.step1 rfl rfl rfl (AStep.eqBool Tryd.underlying4 rfl rfl rfl) ?_ | refine AOps.step1 rfl rfl rfl (AStep.max2 (t := 3) (ty := 3) rfl rfl rfl) ?_ | refine AOps.step1 rfl rfl rfl (AStep.min2 (t := 3) (ty := 3) rfl rfl rfl) ?_ | refine AOps.unG rfl rfl rfl ?_)
  refine AOps.wk 16 rfl (y := .one (int ((q + 1 : Nat) : Int))) (.ofEq (by simp)) ?_
  refine AOps.step1 rfl rfl rfl (AStep.sliceTo tabOk rfl rfl rfl rfl rfl rfl (by simp; omega)) ?_
  obtain ⟨e', he'⟩ : ∃ e', e' = e.take (q + 1) := ⟨_, rfl⟩
  refine AOps.wk 17 rfl (y := .one (.sl 5 (e'.map cEx))) (.ofEq (by rw [he', List.map_take])) ?_
  have hl' : e'.length = q + 1 := by rw [he']; simp; omega
  have hmem : ∀ x ∈ e', x ∈ e := fun x hx => by rw [he'] at hx; exact List.mem_of_mem_take hx
  have hin' : kidsIn e' := kidsIn_pre (l := e.drop (q + 1)) (by rw [he', List.take_append_drop]; exact hin)
  have htr : treeAt e q = (growL e').getD q default := by
    have := growL_get (e := e') (l := e.drop (q + 1)) (i := q) (by omega)
    rw [he', List.take_append_drop] at this
    rw [he']; exact this
  rw [htr]
  clear he' htr
  repeat first | (with_reducible refine oj ?_; refine AOps.auto tabOk rfl ?_) | (with_reducible first | refine o1 ?_ | refine o2 ?_ | refine o3 ?_ | refine o4 ?_ | refine o5 ?_ | refine o6 ?_ | refine o7 ?_ | refine o8 ?_ | refine o9 ?_ | refine oa ?_ | refine ob ?_ | refine oc ?_ | refine od ?_ | refine oe ?_ | refine og ?_ | refine oh ?_ | refine oi ?_) | (with_reducible refine cExitMiss ?_ ?_; rfl) | (with_reducible refine ok ?_; first | refine ACode.condT rfl ?_ | refine ACode.condF rfl ?_)
  refine ACode.loopR hΓ (α := Nat) (fun j => [(19, .one (int j)), (18, .one (int (e'.map cEx).length)), (17, .one (.sl 5 (e'.map cEx))), (5, .one (.arr (.l 0) 1 0 (e.map cEx).length (e.map cEx).length)), (1, .one (int (q : Nat)))])
    (fun j => ⟨1, [(0, .cells (nodesC (growL (e'.take j)) (e.map cEx).length))], ou⟩) (fun m j => j ≤ e'.length ∧ m = e'.length - j) (a0 := 0) (ρ := id) ⟨by omega, rfl⟩
    (LessR.of rfl (by (repeat' first | exact FrSub.nil | refine FrSub.cons rfl (.ofEq rfl) ?_ | refine FrSub.consP rfl (.ofEq rfl) (by simp) ?_)) (by simp) (LoSub.cons rfl (by rw [AObj.ren_pure _ _ (by simp)]; show AObj.cells (List.replicate _ _) = AObj.cells (nodesC [] _); rw [nodesC_nil]) rfl (by simp) .nil) rfl rfl hou) fun m j hj => ?_
  obtain ⟨hjl, rfl⟩ := hj
  repeat first | (with_reducible refine oj ?_; refine AOps.auto tabOk rfl ?_) | (with_reducible first | refine o1 ?_ | refine o2 ?_ | refine o3 ?_ | refine o4 ?_ | refine o5 ?_ | refine o6 ?_ | refine o7 ?_ | refine o8 ?_ | refine o9 ?_ | refine oa ?_ | refine ob ?_ | refine oc ?_ | refine od ?_ | refine oe ?_ | refine og ?_ | refine oh ?_ | refine oi ?_) | (with_reducible refine cExitMiss ?_ ?_; rfl) | (with_reducible refine ok ?_; first | refine ACode.condT rfl ?_ | refine ACode.condF rfl ?_)
  refine ACode.cond rfl (fun hb2 => ?_) (fun hb2 => ?_)
  · have hlt : j < e'.length := by simpa using hb2
    obtain ⟨x, hx⟩ := get_of_lt hlt
    have hxo := he.x x (hmem x (List.mem_of_getElem? hx))
    have hxk := hxo.k
    have hxin := hin' j x hx
    have hgl : (growL (e'.take j)).length = j := by rw [growL_len]; simp; omega
    repeat first | (with_reducible refine oj ?_; refine AOps.auto tabOk rfl ?_) | (with_reducible first | refine o1 ?_ | refine o2 ?_ | refine o3 ?_ | refine o4 ?_ | refine o5 ?_ | refine o6 ?_ | refine o7 ?_ | refine o8 ?_ | refine o9 ?_ | refine oa ?_ | refine ob ?_ | refine oc ?_ | refine od ?_ | refine oe ?_ | refine og ?_ | refine oh ?_ | refine oi ?_) | (with_reducible refine cExitMiss ?_ ?_; rfl) | (with_reducible refine ok ?_; first | refine ACode.condT rfl ?_ | refine ACode.condF rfl ?_)
    refine AOps.step1 rfl rfl rfl (AStep.indexAddr tabOk rfl rfl rfl rfl rfl rfl (.inl rfl) rfl (by omega) (map_get hx)) ?_
    repeat first | (with_reducible refine oj ?_; refine AOps.auto tabOk rfl ?_) | (with_reducible first | refine o1 ?_ | refine o2 ?_ | refine o3 ?_ | refine o4 ?_ | refine o5 ?_ | refine o6 ?_ | refine o7 ?_ | refine o8 ?_ | refine o9 ?_ | refine oa ?_ | refine ob ?_ | refine oc ?_ | refine od ?_ | refine oe ?_ | refine og ?_ | refine oh ?_ | refine oi ?_) | (with_reducible refine cExitMiss ?_ ?_; rfl) | (with_reducible refine ok ?_; first | refine ACode.condT rfl ?_ | refine ACode.condF rfl ?_)
    refine ACode.grow 2 3 56 1 rfl rfl ?_
    refine ACode.loopR hΓ (α := Nat) (fun i => [(37, .one (int i)), (36, .one (int (x.kids.map cI).length)), (35, .one (.sl 1 (x.kids.map cI))), (8, .one (.ptr (.l 2) 0)), (7, .one (.ptr (.l 1) 0)), (6, .one (int j)), (19, .one (int j)), (18, .one (int (e'.map cEx).length)), (17, .one (.sl 5 (e'.map cEx))), (5, .one (.arr (.l 0) 1 0 (e.map cEx).length (e.map cEx).length)), (1, .one (int (q : Nat)))])
      (fun i => ⟨4, [(3, .tok 56 1 i), (2, .cells [int x.op, int x.n, .sl 1 (x.binds.map cI), .gs 1 ((kidsT (growL (e'.take j)) (x.kids.take i)).map cB) (.l 3), .sl 2 (x.alts.map cAlt)]), (1, .cells (cEx x)), (0, .cells (nodesC (growL (e'.take j)) (e.map cEx).length))], ou⟩)
      (fun m i => i ≤ x.kids.length ∧ m = x.kids.length - i) (a0 := 0) (ρ := id) ⟨by omega, rfl⟩ (LessR.of rfl (by (repeat' first | exact FrSub.nil | refine FrSub.cons rfl (.ofEq rfl) ?_ | refine FrSub.consP rfl (.ofEq rfl) (by simp) ?_)) (by simp) ?_ rfl rfl hou) fun m i hi => ?_
    · repeat' first | exact LoSub.nil | refine LoSub.cons rfl ?_ rfl (by simp) ?_ | rfl | (refine (AObj.ren_pure _ _ ?_).symm; simp; done) | (simp [AObj.ren, renL, AC.ren]; done) | (simp [AObj.ren, renL, AC.ren]; rfl)
      all_goals (simp [AObj.ren, renL, AC.ren, kidsT]; rfl)
    obtain ⟨hil, rfl⟩ := hi
    repeat first | (with_reducible refine oj ?_; refine AOps.auto tabOk rfl ?_) | (with_reducible first | refine o1 ?_ | refine o2 ?_ | refine o3 ?_ | refine o4 ?_ | refine o5 ?_ | refine o6 ?_ | refine o7 ?_ | refine o8 ?_ | refine o9 ?_ | refine oa ?_ | refine ob ?_ | refine oc ?_ | refine od ?_ | refine oe ?_ | refine og ?_ | refine oh ?_ | refine oi ?_) | (with_reducible refine cExitMiss ?_ ?_; rfl) | (with_reducible refine ok ?_; first | refine ACode.condT rfl ?_ | refine ACode.condF rfl ?_)
    refine ACode.cond rfl (fun hb3 => ?_) (fun hb3 => ?_)
    · have hlt2 : i < x.kids.length := by simpa using hb3
      obtain ⟨k, hk⟩ := get_of_lt hlt2
      have hkb := hxin k (List.mem_of_getElem? hk)
      obtain ⟨k', rfl⟩ : ∃ k' : Nat, k = k' := ⟨k.toNat, by omega⟩
      obtain ⟨tk, htk⟩ := get_of_lt (l := growL (e'.take j)) (i := k') (by omega)
      have htd : (growL (e'.take j)).getD (k' : Int).toNat default = tk := by rw [Int.toNat_natCast, List.getD_eq_getElem?_getD, htk]; rfl
      have hks := kidsT_succ (ts := growL (e'.take j)) hk
      rw [htd] at hks
      have hkl : ((kidsT (growL (e'.take j)) (x.kids.take i)).map cB).length = i := by simp [kidsT]; omega
      repeat first | (with_reducible refine oj ?_; refine AOps.auto tabOk rfl ?_) | (with_reducible first | refine o1 ?_ | refine o2 ?_ | refine o3 ?_ | refine o4 ?_ | refine o5 ?_ | refine o6 ?_ | refine o7 ?_ | refine o8 ?_ | refine o9 ?_ | refine oa ?_ | refine ob ?_ | refine oc ?_ | refine od ?_ | refine oe ?_ | refine og ?_ | refine oh ?_ | refine oi ?_) | (with_reducible refine cExitMiss ?_ ?_; rfl) | (with_reducible refine ok ?_; first | refine ACode.condT rfl ?_ | refine ACode.condF rfl ?_)
      refine AOps.step1 rfl rfl rfl (AStep.indexAddr tabOk rfl rfl rfl rfl rfl rfl (.inl rfl) rfl (by omega) (map_get hk)) ?_
      repeat first | (with_reducible refine oj ?_; refine AOps.auto tabOk rfl ?_) | (with_reducible first | refine o1 ?_ | refine o2 ?_ | refine o3 ?_ | refine o4 ?_ | refine o5 ?_ | refine o6 ?_ | refine o7 ?_ | refine o8 ?_ | refine o9 ?_ | refine oa ?_ | refine ob ?_ | refine oc ?_ | refine od ?_ | refine oe ?_ | refine og ?_ | refine oh ?_ | refine oi ?_) | (with_reducible refine cExitMiss ?_ ?_; rfl) | (with_reducible refine ok ?_; first | refine ACode.condT rfl ?_ | refine ACode.condF rfl ?_)
      refine ACode.drawXH (va := .one (.gs 1 ((kidsT (growL (e'.take j)) (x.kids.take i)).map cB ++ [cB tk]) (.l 4))) (σ1 := (St.set ⟨4, [(3, .tok 56 1 i), (2, .cells [int x.op, int x.n, .sl 1 (x.binds.map cI), .gs 1 ((kidsT (growL (e'.take j)) (x.kids.take i)).map cB) (.l 3), .sl 2 (x.alts.map cAlt)]), (1, .cells (cEx x)), (0, .cells (nodesC (growL (e'.take j)) (e.map cEx).length))], ou⟩ (.l 3) .dead).push (.tok 56 1 ((kidsT (growL (e'.take j)) (x.kids.take i)).map cB ++ [cB tk]).length))
        tabOk 11 10 [(7, .one (.ptr (.l 0) k')), (8, .one (.box (cTr tk)))] follows (by kernel_rfl) rfl rfl rfl rfl rfl rfl rfl ?_ ?_ ?_ ?_
      · refine HStep.plain rfl (AStep.append (s := 1) (es := (kidsT (growL (e'.take j)) (x.kids.take i)).map cB) (news := [cB tk]) (ti := ti74) (σ := ⟨4, [(3, .tok 56 1 i), (2, .cells [int x.op, int x.n, .sl 1 (x.binds.map cI), .gs 1 ((kidsT (growL (e'.take j)) (x.kids.take i)).map cB) (.l 3), .sl 2 (x.alts.map cAlt)]), (1, .cells (cEx x)), (0, .cells (nodesC (growL (e'.take j)) (e.map cEx).length))], ou⟩) tabOk rfl rfl rfl rfl rfl rfl (Base.gs' _ 56 1 ((kidsT (growL (e'.take j)) (x.kids.take i)).map cB) (.l 3) rfl hkl.symm) (.sl _ _) rfl ?_ ?_)
        · rw [hkl]; show (i + 1) * 8 ≤ _; omega
        · rw [hkl]; show i + 1 ≤ _; omega
      · refine .step rfl (HStep.plain rfl (idxI tabOk rfl rfl rfl rfl rfl rfl rfl (by simp; omega))) ?_
        exact .step rfl (HStep.plain rfl (AStep.loadOwn tabOk rfl rfl rfl rfl rfl rfl (nodesC_get htk))) .nil
      · refine .step rfl (HStep.plain rfl (idxI tabOk rfl rfl rfl rfl rfl rfl rfl (by simp; omega))) ?_
        exact .step rfl (HStep.plain rfl (AStep.loadOwn tabOk rfl rfl rfl rfl rfl rfl (nodesC_get htk))) .nil
      repeat' first | (with_reducible refine oj ?_; refine AOps.auto tabOk rfl ?_) | (with_reducible first | refine o1 ?_ | refine o2 ?_ | refine o3 ?_ | refine o4 ?_ | refine o5 ?_ | refine o6 ?_ | refine o7 ?_ | refine o8 ?_ | refine o9 ?_ | refine oa ?_ | refine ob ?_ | refine oc ?_ | refine od ?_ | refine oe ?_ | refine og ?_ | refine oh ?_ | refine oi ?_) | (with_reducible refine cExitMiss ?_ ?_; rfl) | (with_reducible refine ok ?_; first | refine ACode.condT rfl ?_ | refine ACode.condF rfl ?_) | (with_reducible refine oj ?_; first | refine AOps.step1 rfl rfl rfl (AStep.arith rfl rfl rfl (.inl ⟨rfl, rfl⟩) (inRange_i64 (by first | omega | (simp; omega)) (by first | omega | (simp; omega)))) ?_ | refine AOps.step1 rfl rfl rfl (AStep.arith rfl rfl rfl (.inr (.inl ⟨rfl, rfl⟩)) (inRange_i64 (by first | omega | (simp; omega)) (by first | omega | (simp; omega)))) ?_ | refine AOps.step1 rfl rfl rfl (AStep.neBool Tryd.underlying4 rfl rfl rfl) ?_ | refine AOps.step1 rfl rfl rfl (AStep.eqBool Tryd.underlying4 rfl rfl rfl) ?_ | refine AOps.step1 rfl rfl rfl (AStep.max2 (t := 3) (ty := 3) rfl rfl rfl) ?_ | refine AOps.step1 rfl rfl rfl (AStep.min2 (t := 3) (ty := 3) rfl rfl rfl) ?_ | refine AOps.unG rfl rfl rfl ?_)
      refine cInv ⟨x.kids.length - (i + 1), i + 1, fun k => if k = 3 then 4 else k, by omega, ⟨by omega, rfl⟩, LessR.of rfl (by (repeat' first | exact FrSub.nil | refine FrSub.cons rfl (.ofEq rfl) ?_ | refine FrSub.consP rfl (.ofEq rfl) (by simp) ?_)) (by simp) ?_ rfl rfl hou⟩
      repeat' first | exact LoSub.nil | refine LoSub.cons rfl ?_ rfl (by simp) ?_ | rfl | (refine (AObj.ren_pure _ _ ?_).symm; simp; done) | (simp [AObj.ren, renL, AC.ren]; done) | (simp [AObj.ren, renL, AC.ren]; rfl)
      · simp only [AObj.ren, List.length_append, hkl]; rfl
      · rw [hks]; simp only [AObj.ren, renL, AC.ren, ren_cIs, ren_cBs, ren_cAlts]; rw [List.map_append]; rfl
    have hlt2 : i = x.kids.length := by simp at hb3; omega
    subst hlt2
    rw [List.take_length]
    repeat first | (with_reducible refine oj ?_; refine AOps.auto tabOk rfl ?_) | (with_reducible first | refine o1 ?_ | refine o2 ?_ | refine o3 ?_ | refine o4 ?_ | refine o5 ?_ | refine o6 ?_ | refine o7 ?_ | refine o8 ?_ | refine o9 ?_ | refine oa ?_ | refine ob ?_ | refine oc ?_ | refine od ?_ | refine oe ?_ | refine og ?_ | refine oh ?_ | refine oi ?_) | (with_reducible refine cExitMiss ?_ ?_; rfl) | (with_reducible refine ok ?_; first | refine ACode.condT rfl ?_ | refine ACode.condF rfl ?_)
    refine AOps.step1 rfl rfl rfl (idxI tabOk rfl rfl rfl rfl rfl rfl rfl (by simp; omega)) ?_
    refine AOps.freeze1 (.l 2) 57 rfl rfl ?_
    refine AOps.wk 57 rfl (y := .one (.box (cTr (nodeOf (growL (e'.take j)) x)))) (.one (Wk.box ?_)) ?_
    · rw [nodeOf_eq]
      exact .cons (.refl _) (.cons (.refl _) (.cons (.refl _) (.cons (.gsE (encTrs_eq _).symm) (.cons (.refl _) .nil))))
    refine AOps.storeOwn tabOk rfl rfl rfl rfl rfl rfl rfl rfl (by rw [nodesC_len (by simp [hgl]; omega)]; simp; omega) ?_
    have hst := nodesC_set (ts := growL (e'.take j)) (n := (e.map cEx).length) (by simp [hgl]; omega) (nodeOf (growL (e'.take j)) x)
    rw [hgl, ← growL_snoc, ← take_get hx] at hst
    rw [hst]
    repeat' first | (with_reducible refine oj ?_; refine AOps.auto tabOk rfl ?_) | (with_reducible first | refine o1 ?_ | refine o2 ?_ | refine o3 ?_ | refine o4 ?_ | refine o5 ?_ | refine o6 ?_ | refine o7 ?_ | refine o8 ?_ | refine o9 ?_ | refine oa ?_ | refine ob ?_ | refine oc ?_ | refine od ?_ | refine oe ?_ | refine og ?_ | refine oh ?_ | refine oi ?_) | (with_reducible refine cExitMiss ?_ ?_; rfl) | (with_reducible refine ok ?_; first | refine ACode.condT rfl ?_ | refine ACode.condF rfl ?_) | (with_reducible refine oj ?_; first | refine AOps.step1 rfl rfl rfl (AStep.arith rfl rfl rfl (.inl ⟨rfl, rfl⟩) (inRange_i64 (by first | omega | (simp; omega)) (by first | omega | (simp; omega)))) ?_ | refine AOps.step1 rfl rfl rfl (AStep.arith rfl rfl rfl (.inr (.inl ⟨rfl, rfl⟩)) (inRange_i64 (by first | omega | (simp; omega)) (by first | omega | (simp; omega)))) ?_ | refine AOps.step1 rfl rfl rfl (AStep.neBool Tryd.underlying4 rfl rfl rfl) ?_ | refine AOps.step1 rfl rfl rfl (AStep.eqBool Tryd.underlying4 rfl rfl rfl) ?_ | refine AOps.step1 rfl rfl rfl (AStep.max2 (t := 3) (ty := 3) rfl rfl rfl) ?_ | refine AOps.step1 rfl rfl rfl (AStep.min2 (t := 3) (ty := 3) rfl rfl rfl) ?_ | refine AOps.unG rfl rfl rfl ?_)
    exact cInv ⟨e'.length - (j + 1), j + 1, id, by omega, ⟨by omega, rfl⟩, LessR.of rfl (by (repeat' first | exact FrSub.nil | refine FrSub.cons rfl (.ofEq rfl) ?_ | refine FrSub.consP rfl (.ofEq rfl) (by simp) ?_)) (by simp) (by repeat' first | exact LoSub.nil | refine LoSub.cons rfl ?_ rfl (by simp) ?_ | rfl | (refine (AObj.ren_pure _ _ ?_).symm; simp; done) | (simp [AObj.ren, renL, AC.ren]; done) | (simp [AObj.ren, renL, AC.ren]; rfl)) rfl rfl hou⟩
  · have hlt : j = e'.length := by simp at hb2; omega
    subst hlt
    rw [List.take_length]
    obtain ⟨t, ht⟩ := get_of_lt (l := growL e') (i := q) (by rw [growL_len]; omega)
    have hgt : (growL e').getD q default = t := by rw [List.getD_eq_getElem?_getD, ht]; rfl
    repeat' first | (with_reducible refine oj ?_; refine AOps.auto tabOk rfl ?_) | (with_reducible first | refine o1 ?_ | refine o2 ?_ | refine o3 ?_ | refine o4 ?_ | refine o5 ?_ | refine o6 ?_ | refine o7 ?_ | refine o8 ?_ | refine o9 ?_ | refine oa ?_ | refine ob ?_ | refine oc ?_ | refine od ?_ | refine oe ?_ | refine og ?_ | refine oh ?_ | refine oi ?_) | (with_reducible refine cExitMiss ?_ ?_; rfl) | (with_reducible refine ok ?_; first | refine ACode.condT rfl ?_ | refine ACode.condF rfl ?_) | (with_reducible refine oj ?_; first | refine AOps.step1 rfl rfl rfl (AStep.arith rfl rfl rfl (.inl ⟨rfl, rfl⟩) (inRange_i64 (by first | omega | (simp; omega)) (by first | omega | (simp; omega)))) ?_ | refine AOps.step1 rfl rfl rfl (AStep.arith rfl rfl rfl (.inr (.inl ⟨rfl, rfl⟩)) (inRange_i64 (by first | omega | (simp; omega)) (by first | omega | (simp; omega)))) ?_ | refine AOps.step1 rfl rfl rfl (AStep.neBool Tryd.underlying4 rfl rfl rfl) ?_ | refine AOps.step1 rfl rfl rfl (AStep.eqBool Tryd.underlying4 rfl rfl rfl) ?_ | refine AOps.step1 rfl rfl rfl (AStep.max2 (t := 3) (ty := 3) rfl rfl rfl) ?_ | refine AOps.step1 rfl rfl rfl (AStep.min2 (t := 3) (ty := 3) rfl rfl rfl) ?_ | refine AOps.unG rfl rfl rfl ?_)
    refine AOps.step1 rfl rfl rfl (idxI tabOk rfl rfl rfl rfl rfl rfl rfl (by simp; omega)) ?_
    refine AOps.step1 rfl rfl rfl (AStep.loadOwn tabOk rfl rfl rfl rfl rfl rfl (nodesC_get ht)) ?_
    repeat first | (with_reducible refine oj ?_; refine AOps.auto tabOk rfl ?_) | (with_reducible first | refine o1 ?_ | refine o2 ?_ | refine o3 ?_ | refine o4 ?_ | refine o5 ?_ | refine o6 ?_ | refine o7 ?_ | refine o8 ?_ | refine o9 ?_ | refine oa ?_ | refine ob ?_ | refine oc ?_ | refine od ?_ | refine oe ?_ | refine og ?_ | refine oh ?_ | refine oi ?_) | (with_reducible refine cExitMiss ?_ ?_; rfl) | (with_reducible refine ok ?_; first | refine ACode.condT rfl ?_ | refine ACode.condF rfl ?_)
    refine APure.fin rfl (WkF.ofEq ?_) (by simp) hou rfl
    rw [hgt]
end Go.Proofs.YtnonkoeknpmcjaaDoor
namespace Go.CoreX
mutual
def cntN : Tr → Nat
  | .mk _ _ _ k _ => cntNs k + 1
def cntNs : List Tr → Nat
  | [] => 0
  | t :: l => cntN t + cntNs l
end
mutual
theorem cntN_list : ∀ (t : Tr) (out : List Ex), (listT out t).length = out.length + cntN t
  | .mk o n b k a, out => by
    have := cntNs_list k out
    simp only [listT, cntN, List.length_append, List.length_singleton]; omega
theorem cntNs_list : ∀ (l : List Tr) (out : List Ex), (listTs out l).1.length = out.length + cntNs l
  | [], out => by simp [listTs, cntNs]
  | t :: l, out => by
    have h1 := cntN_list t out
    have h2 := cntNs_list l (listT out t)
    simp only [listTs, cntNs]; omega
end
theorem cntNs_app : ∀ (l r : List Tr), cntNs (l ++ r) = cntNs l + cntNs r
  | [], r => by simp [cntNs]
  | t :: l, r => by simp only [List.cons_append, cntNs, cntNs_app l r]; omega
end Go.CoreX
namespace Go.Proofs.YtnonkoeknpmcjaaDoor
open Go Go.Abs Go.CoreX
set_option maxRecDepth 10000
set_option linter.unusedVariables false
set_option linter.unusedSimpArgs false
variable {Γ : List (Nat × List AC)}
theorem Count_ok (hΓ : ∀ g cs, (g, cs) ∈ Γ → idsL isO cs) : ∀ t : Tr, cntN t ≤ 1048576 → APure Tryd.prog Γ 44 [.one (.box (cTr t))] (.one (int (cntN t : Nat)))
  | .mk o n b ks a, hc => by
    simp only [cntN] at hc
    have hs : ∀ x ∈ ks, cntN x ≤ cntNs ks := fun x hx => by
      obtain ⟨l, r, rfl⟩ := List.append_of_mem hx
      rw [cntNs_app]; simp only [cntNs]; omega
    have ih : ∀ x ∈ ks, APure Tryd.prog Γ 44 [.one (.box (cTr x))] (.one (int (cntN x : Nat))) := fun x hx => Count_ok hΓ x (by have := hs x hx; omega)
    intro ou
    refine AFn.walk 21 tabOk Tryd.func44 rfl (by kernel_rfl) rfl rfl fun hou => ?_
    repeat first | (with_reducible refine oj ?_; refine AOps.auto tabOk rfl ?_) | (with_reducible first | refine o1 ?_ | refine o2 ?_ | refine o3 ?_ | refine o4 ?_ | refine o5 ?_ | refine o6 ?_ | refine o7 ?_ | refine o8 ?_ | refine o9 ?_ | refine oa ?_ | refine ob ?_ | refine oc ?_ | refine od ?_ | refine oe ?_ | refine og ?_ | refine oh ?_ | refine oi ?_) | (with_reducible refine cExitMiss ?_ ?_; rfl) | (with_reducible refine ok ?_; first | refine ACode.condT rfl ?_ | refine ACode.condF rfl ?_)
    have hkl : ks.length ≤ cntNs ks := by
      clear ih hs hc
      induction ks with
      | nil => simp
      | cons x ks ih =>
        simp only [cntNs, List.length_cons]
        have : 1 ≤ cntN x := by cases x; simp [cntN]
        omega
    refine ACode.loopR hΓ (α := Nat) (fun i => [(11, .one (int i)), (10, .one (int (encTrs ks).length)), (9, .one (.sl 1 (encTrs ks))), (3, .one (int ((1 + cntNs (ks.take i) : Nat) : Int)))])
      (fun i => ⟨0, [], ou⟩) (fun m i => i ≤ ks.length ∧ m = ks.length - i) (a0 := 0) (ρ := id) ⟨by omega, rfl⟩ (LessR.of rfl (by (repeat' first | exact FrSub.nil | refine FrSub.cons rfl (.ofEq rfl) ?_ | refine FrSub.consP rfl (.ofEq rfl) (by simp) ?_)) (by simp) (by repeat' first | exact LoSub.nil | refine LoSub.cons rfl ?_ rfl (by simp) ?_ | rfl | (refine (AObj.ren_pure _ _ ?_).symm; simp; done) | (simp [AObj.ren, renL, AC.ren]; done) | (simp [AObj.ren, renL, AC.ren]; rfl)) rfl rfl hou) fun m i hi => ?_
    obtain ⟨hil, rfl⟩ := hi
    repeat first | (with_reducible refine oj ?_; refine AOps.auto tabOk rfl ?_) | (with_reducible first | refine o1 ?_ | refine o2 ?_ | refine o3 ?_ | refine o4 ?_ | refine o5 ?_ | refine o6 ?_ | refine o7 ?_ | refine o8 ?_ | refine o9 ?_ | refine oa ?_ | refine ob ?_ | refine oc ?_ | refine od ?_ | refine oe ?_ | refine og ?_ | refine oh ?_ | refine oi ?_) | (with_reducible refine cExitMiss ?_ ?_; rfl) | (with_reducible refine ok ?_; first | refine ACode.condT rfl ?_ | refine ACode.condF rfl ?_)
    refine ACode.cond rfl (fun hb => ?_) (fun hb => ?_)
    · have hlt : i < ks.length := by simpa using hb
      obtain ⟨x, hx⟩ := get_of_lt hlt
      have hx2 := ih x (List.mem_of_getElem? hx)
      have hsn : cntNs (ks.take (i + 1)) = cntNs (ks.take i) + cntN x := by rw [take_get hx, cntNs_app]; simp [cntNs]
      have hle : cntNs (ks.take (i + 1)) ≤ cntNs ks := by
        have := cntNs_app (ks.take (i + 1)) (ks.drop (i + 1))
        rw [List.take_append_drop] at this
        omega
      repeat first | (with_reducible refine oj ?_; refine AOps.auto tabOk rfl ?_) | (with_reducible first | refine o1 ?_ | refine o2 ?_ | refine o3 ?_ | refine o4 ?_ | refine o5 ?_ | refine o6 ?_ | refine o7 ?_ | refine o8 ?_ | refine o9 ?_ | refine oa ?_ | refine ob ?_ | refine oc ?_ | refine od ?_ | refine oe ?_ | refine og ?_ | refine oh ?_ | refine oi ?_) | (with_reducible refine cExitMiss ?_ ?_; rfl) | (with_reducible refine ok ?_; first | refine ACode.condT rfl ?_ | refine ACode.condF rfl ?_)
      refine AOps.step1 rfl rfl rfl (AStep.indexAddr tabOk rfl rfl rfl rfl rfl rfl (.inl rfl) rfl (by omega) (encTrs_get hx)) ?_
      repeat first | (with_reducible refine oj ?_; refine AOps.auto tabOk rfl ?_) | (with_reducible first | refine o1 ?_ | refine o2 ?_ | refine o3 ?_ | refine o4 ?_ | refine o5 ?_ | refine o6 ?_ | refine o7 ?_ | refine o8 ?_ | refine o9 ?_ | refine oa ?_ | refine ob ?_ | refine oc ?_ | refine od ?_ | refine oe ?_ | refine og ?_ | refine oh ?_ | refine oi ?_) | (with_reducible refine cExitMiss ?_ ?_; rfl) | (with_reducible refine ok ?_; first | refine ACode.condT rfl ?_ | refine ACode.condF rfl ?_)
      refine AOps.callC hΓ hx2 rfl rfl rfl rfl rfl rfl rfl hou (by simp) ?_
      repeat' first | (with_reducible refine oj ?_; refine AOps.auto tabOk rfl ?_) | (with_reducible first | refine o1 ?_ | refine o2 ?_ | refine o3 ?_ | refine o4 ?_ | refine o5 ?_ | refine o6 ?_ | refine o7 ?_ | refine o8 ?_ | refine o9 ?_ | refine oa ?_ | refine ob ?_ | refine oc ?_ | refine od ?_ | refine oe ?_ | refine og ?_ | refine oh ?_ | refine oi ?_) | (with_reducible refine cExitMiss ?_ ?_; rfl) | (with_reducible refine ok ?_; first | refine ACode.condT rfl ?_ | refine ACode.condF rfl ?_) | (with_reducible refine oj ?_; first | refine AOps.step1 rfl rfl rfl (AStep.arith rfl rfl rfl (.inl ⟨rfl, rfl⟩) (inRange_i64 (by first | omega | (simp; omega)) (by first | omega | (simp; omega)))) ?_ | refine AOps.step1 rfl rfl rfl (AStep.arith rfl rfl rfl (.inr (.inl ⟨rfl, rfl⟩)) (inRange_i64 (by first | omega | (simp; omega)) (by first | omega | (simp; omega)))) ?_ | refine AOps.step1 rfl rfl rfl (AStep.neBool Tryd.underlying4 rfl rfl rfl) ?_ | refine AOps.step1 rfl rfl rfl (AStep.eqBool Tryd.underlying4 rfl rfl rfl) ?_ | refine AOps.step1 rfl rfl rfl (AStep.max2 (t := 3) (ty := 3) rfl rfl rfl) ?_ | refine AOps.step1 rfl rfl rfl (AStep.min2 (t := 3) (ty := 3) rfl rfl rfl) ?_ | refine AOps.unG rfl rfl rfl ?_)
      refine cInv ⟨ks.length - (i + 1), i + 1, id, by omega, ⟨by omega, rfl⟩, LessR.of rfl (FrSub.cons rfl (.ofEq rfl) (FrSub.cons rfl (.ofEq rfl) (FrSub.consP rfl (.ofEq rfl) (by simp) (FrSub.cons rfl (.ofEq ?_) .nil)))) (by simp) (by repeat' first | exact LoSub.nil | refine LoSub.cons rfl ?_ rfl (by simp) ?_ | rfl | (refine (AObj.ren_pure _ _ ?_).symm; simp; done) | (simp [AObj.ren, renL, AC.ren]; done) | (simp [AObj.ren, renL, AC.ren]; rfl)) rfl rfl hou⟩
      simp only [FV.ren, AC.ren, hsn]
      congr 3
      omega
    · have hlt : i = ks.length := by simp at hb; omega
      subst hlt
      rw [List.take_length]
      repeat first | (with_reducible refine oj ?_; refine AOps.auto tabOk rfl ?_) | (with_reducible first | refine o1 ?_ | refine o2 ?_ | refine o3 ?_ | refine o4 ?_ | refine o5 ?_ | refine o6 ?_ | refine o7 ?_ | refine o8 ?_ | refine o9 ?_ | refine oa ?_ | refine ob ?_ | refine oc ?_ | refine od ?_ | refine oe ?_ | refine og ?_ | refine oh ?_ | refine oi ?_) | (with_reducible refine cExitMiss ?_ ?_; rfl) | (with_reducible refine ok ?_; first | refine ACode.condT rfl ?_ | refine ACode.condF rfl ?_)
      refine APure.fin rfl (WkF.ofEq ?_) (by simp) hou rfl
      simp only [cntN]
      congr 3
      omega
theorem treeAt_ok {e : List Ex} (he : okB e) (h : IsTree e) {k : Nat} (hk : k < e.length) : okT (treeAt e k) :=
  up_ind h (P := okT) (he.t h.k h.ne) (fun _ _ ht hs => okT_kid ht hs) k hk
theorem Free_ok (e : List Ex) (he : okB e) (n : Int) : APure Tryd.prog Γc 15 [.one (.sl 5 (e.map cEx)), .one (int n)] (.tup [.one (.sl 1 ((freeAt e n).1.map cI)), .one (int (freeAt e n).2)]) := by
  intro ou
  refine AFn.walk 17 tabOk Tryd.func15 rfl (by kernel_rfl) rfl rfl fun hou => ?_
  repeat first | (with_reducible refine oj ?_; refine AOps.auto tabOk rfl ?_) | (with_reducible first | refine o1 ?_ | refine o2 ?_ | refine o3 ?_ | refine o4 ?_ | refine o5 ?_ | refine o6 ?_ | refine o7 ?_ | refine o8 ?_ | refine o9 ?_ | refine oa ?_ | refine ob ?_ | refine oc ?_ | refine od ?_ | refine oe ?_ | refine og ?_ | refine oh ?_ | refine oi ?_) | (with_reducible refine cExitMiss ?_ ?_; rfl) | (with_reducible refine ok ?_; first | refine ACode.condT rfl ?_ | refine ACode.condF rfl ?_)
  refine AOps.callC hΓc (at_ok e he n) rfl rfl rfl rfl rfl rfl rfl hou (by simp) ?_
  repeat first | (with_reducible refine oj ?_; refine AOps.auto tabOk rfl ?_) | (with_reducible first | refine o1 ?_ | refine o2 ?_ | refine o3 ?_ | refine o4 ?_ | refine o5 ?_ | refine o6 ?_ | refine o7 ?_ | refine o8 ?_ | refine o9 ?_ | refine oa ?_ | refine ob ?_ | refine oc ?_ | refine od ?_ | refine oe ?_ | refine og ?_ | refine oh ?_ | refine oi ?_) | (with_reducible refine cExitMiss ?_ ?_; rfl) | (with_reducible refine ok ?_; first | refine ACode.condT rfl ?_ | refine ACode.condF rfl ?_)
  refine ACode.cond rfl (fun hb => ?_) (fun hb => ?_)
  · have h : atErr e n ≠ 0 := by simpa using hb
    have ho : freeAt e n = ([], atErr e n) := by unfold freeAt; rw [if_pos h]
    rw [ho]
    repeat first | (with_reducible refine oj ?_; refine AOps.auto tabOk rfl ?_) | (with_reducible first | refine o1 ?_ | refine o2 ?_ | refine o3 ?_ | refine o4 ?_ | refine o5 ?_ | refine o6 ?_ | refine o7 ?_ | refine o8 ?_ | refine o9 ?_ | refine oa ?_ | refine ob ?_ | refine oc ?_ | refine od ?_ | refine oe ?_ | refine og ?_ | refine oh ?_ | refine oi ?_) | (with_reducible refine cExitMiss ?_ ?_; rfl) | (with_reducible refine ok ?_; first | refine ACode.condT rfl ?_ | refine ACode.condF rfl ?_)
    exact APure.fin rfl (WkF.tup (.cons (.one (.nilS 1)) (.cons (.refl _) .nil))) (by simp) hou rfl
  · have h : atErr e n = 0 := by simpa using hb
    have ho : freeAt e n = (freeOf (treeAt e n.toNat), 0) := by unfold freeAt; rw [if_neg (by simpa using h)]
    obtain ⟨h1, h2, h3⟩ := atErr_zero h
    have t1 := body_isTree h1
    have hd := (treeErr_iff e).1 (by
      have := h1
      unfold check body at this
      by_cases h4 : treeErr e = 0
      · exact h4
      · rw [if_pos h4] at this; exact absurd this h4)
    have hdp : depthT (treeAt e n.toNat) ≤ 400 := up_ind t1 (P := fun t => depthT t ≤ 400) hd.2.2 (fun t s ht hs => Int.le_trans (depthT_kid hs) ht) _ h3
    have hl := len_sub t1 h3
    have hel := he.eo.l
    rw [ho]
    obtain ⟨q, rfl⟩ : ∃ q : Nat, n = q := ⟨n.toNat, by omega⟩
    rw [Int.toNat_natCast] at *
    repeat first | (with_reducible refine oj ?_; refine AOps.auto tabOk rfl ?_) | (with_reducible first | refine o1 ?_ | refine o2 ?_ | refine o3 ?_ | refine o4 ?_ | refine o5 ?_ | refine o6 ?_ | refine o7 ?_ | refine o8 ?_ | refine o9 ?_ | refine oa ?_ | refine ob ?_ | refine oc ?_ | refine od ?_ | refine oe ?_ | refine og ?_ | refine oh ?_ | refine oi ?_) | (with_reducible refine cExitMiss ?_ ?_; rfl) | (with_reducible refine ok ?_; first | refine ACode.condT rfl ?_ | refine ACode.condF rfl ?_)
    refine AOps.callC hΓc (below_ok hΓc e he.eo t1.k q h3) rfl rfl rfl rfl rfl rfl rfl hou (by simp) ?_
    refine AOps.callC hΓc (FreeOf_ok hΓc hΓcF sortOk sortNil (treeAt e q) (treeAt_ok he t1 h3) (by omega) (by omega)) rfl rfl rfl rfl rfl rfl rfl hou (by simp) ?_
    repeat first | (with_reducible refine oj ?_; refine AOps.auto tabOk rfl ?_) | (with_reducible first | refine o1 ?_ | refine o2 ?_ | refine o3 ?_ | refine o4 ?_ | refine o5 ?_ | refine o6 ?_ | refine o7 ?_ | refine o8 ?_ | refine o9 ?_ | refine oa ?_ | refine ob ?_ | refine oc ?_ | refine od ?_ | refine oe ?_ | refine og ?_ | refine oh ?_ | refine oi ?_) | (with_reducible refine cExitMiss ?_ ?_; rfl) | (with_reducible refine ok ?_; first | refine ACode.condT rfl ?_ | refine ACode.condF rfl ?_)
    exact APure.fin rfl (WkF.ofEq rfl) (by simp) hou rfl
theorem Cut_ok (e : List Ex) (he : okB e) (n : Int) : APure Tryd.prog Γc 22 [.one (.sl 5 (e.map cEx)), .one (int n)] (.tup [.one (.sl 5 ((cutAt e n).1.map cEx)), .one (int (cutAt e n).2)]) := by
  intro ou
  refine AFn.walk 17 tabOk Tryd.func22 rfl (by kernel_rfl) rfl rfl fun hou => ?_
  repeat first | (with_reducible refine oj ?_; refine AOps.auto tabOk rfl ?_) | (with_reducible first | refine o1 ?_ | refine o2 ?_ | refine o3 ?_ | refine o4 ?_ | refine o5 ?_ | refine o6 ?_ | refine o7 ?_ | refine o8 ?_ | refine o9 ?_ | refine oa ?_ | refine ob ?_ | refine oc ?_ | refine od ?_ | refine oe ?_ | refine og ?_ | refine oh ?_ | refine oi ?_) | (with_reducible refine cExitMiss ?_ ?_; rfl) | (with_reducible refine ok ?_; first | refine ACode.condT rfl ?_ | refine ACode.condF rfl ?_)
  refine AOps.callC hΓc (at_ok e he n) rfl rfl rfl rfl rfl rfl rfl hou (by simp) ?_
  repeat first | (with_reducible refine oj ?_; refine AOps.auto tabOk rfl ?_) | (with_reducible first | refine o1 ?_ | refine o2 ?_ | refine o3 ?_ | refine o4 ?_ | refine o5 ?_ | refine o6 ?_ | refine o7 ?_ | refine o8 ?_ | refine o9 ?_ | refine oa ?_ | refine ob ?_ | refine oc ?_ | refine od ?_ | refine oe ?_ | refine og ?_ | refine oh ?_ | refine oi ?_) | (with_reducible refine cExitMiss ?_ ?_; rfl) | (with_reducible refine ok ?_; first | refine ACode.condT rfl ?_ | refine ACode.condF rfl ?_)
  refine ACode.cond rfl (fun hb => ?_) (fun hb => ?_)
  · have h : atErr e n ≠ 0 := by simpa using hb
    have ho : cutAt e n = ([], atErr e n) := by unfold cutAt; rw [if_pos h]
    rw [ho]
    repeat first | (with_reducible refine oj ?_; refine AOps.auto tabOk rfl ?_) | (with_reducible first | refine o1 ?_ | refine o2 ?_ | refine o3 ?_ | refine o4 ?_ | refine o5 ?_ | refine o6 ?_ | refine o7 ?_ | refine o8 ?_ | refine o9 ?_ | refine oa ?_ | refine ob ?_ | refine oc ?_ | refine od ?_ | refine oe ?_ | refine og ?_ | refine oh ?_ | refine oi ?_) | (with_reducible refine cExitMiss ?_ ?_; rfl) | (with_reducible refine ok ?_; first | refine ACode.condT rfl ?_ | refine ACode.condF rfl ?_)
    exact APure.fin rfl (WkF.tup (.cons (.one (.nilS 5)) (.cons (.refl _) .nil))) (by simp) hou rfl
  · have h : atErr e n = 0 := by simpa using hb
    have ho : cutAt e n = (listT [] (treeAt e n.toNat), 0) := by unfold cutAt; rw [if_neg (by simpa using h)]
    obtain ⟨h1, h2, h3⟩ := atErr_zero h
    have t1 := body_isTree h1
    have hl := len_sub t1 h3
    have hel := he.eo.l
    rw [ho]
    obtain ⟨q, rfl⟩ : ∃ q : Nat, n = q := ⟨n.toNat, by omega⟩
    rw [Int.toNat_natCast] at *
    repeat first | (with_reducible refine oj ?_; refine AOps.auto tabOk rfl ?_) | (with_reducible first | refine o1 ?_ | refine o2 ?_ | refine o3 ?_ | refine o4 ?_ | refine o5 ?_ | refine o6 ?_ | refine o7 ?_ | refine o8 ?_ | refine o9 ?_ | refine oa ?_ | refine ob ?_ | refine oc ?_ | refine od ?_ | refine oe ?_ | refine og ?_ | refine oh ?_ | refine oi ?_) | (with_reducible refine cExitMiss ?_ ?_; rfl) | (with_reducible refine ok ?_; first | refine ACode.condT rfl ?_ | refine ACode.condF rfl ?_)
    refine AOps.callC hΓc (below_ok hΓc e he.eo t1.k q h3) rfl rfl rfl rfl rfl rfl rfl hou (by simp) ?_
    refine AOps.callC hΓc (List_ok hΓc (treeAt e q) (treeAt_ok he t1 h3) (by omega)) rfl rfl rfl rfl rfl rfl rfl hou (by simp) ?_
    repeat first | (with_reducible refine oj ?_; refine AOps.auto tabOk rfl ?_) | (with_reducible first | refine o1 ?_ | refine o2 ?_ | refine o3 ?_ | refine o4 ?_ | refine o5 ?_ | refine o6 ?_ | refine o7 ?_ | refine o8 ?_ | refine o9 ?_ | refine oa ?_ | refine ob ?_ | refine oc ?_ | refine od ?_ | refine oe ?_ | refine og ?_ | refine oh ?_ | refine oi ?_) | (with_reducible refine cExitMiss ?_ ?_; rfl) | (with_reducible refine ok ?_; first | refine ACode.condT rfl ?_ | refine ACode.condF rfl ?_)
    exact APure.fin rfl (WkF.ofEq rfl) (by simp) hou rfl
theorem Size_ok (e : List Ex) (he : okB e) (n : Int) : APure Tryd.prog Γc 23 [.one (.sl 5 (e.map cEx)), .one (int n)] (.tup [.one (int (sizeAt e n).1), .one (int (sizeAt e n).2)]) := by
  intro ou
  refine AFn.walk 17 tabOk Tryd.func23 rfl (by kernel_rfl) rfl rfl fun hou => ?_
  repeat first | (with_reducible refine oj ?_; refine AOps.auto tabOk rfl ?_) | (with_reducible first | refine o1 ?_ | refine o2 ?_ | refine o3 ?_ | refine o4 ?_ | refine o5 ?_ | refine o6 ?_ | refine o7 ?_ | refine o8 ?_ | refine o9 ?_ | refine oa ?_ | refine ob ?_ | refine oc ?_ | refine od ?_ | refine oe ?_ | refine og ?_ | refine oh ?_ | refine oi ?_) | (with_reducible refine cExitMiss ?_ ?_; rfl) | (with_reducible refine ok ?_; first | refine ACode.condT rfl ?_ | refine ACode.condF rfl ?_)
  refine AOps.callC hΓc (at_ok e he n) rfl rfl rfl rfl rfl rfl rfl hou (by simp) ?_
  repeat first | (with_reducible refine oj ?_; refine AOps.auto tabOk rfl ?_) | (with_reducible first | refine o1 ?_ | refine o2 ?_ | refine o3 ?_ | refine o4 ?_ | refine o5 ?_ | refine o6 ?_ | refine o7 ?_ | refine o8 ?_ | refine o9 ?_ | refine oa ?_ | refine ob ?_ | refine oc ?_ | refine od ?_ | refine oe ?_ | refine og ?_ | refine oh ?_ | refine oi ?_) | (with_reducible refine cExitMiss ?_ ?_; rfl) | (with_reducible refine ok ?_; first | refine ACode.condT rfl ?_ | refine ACode.condF rfl ?_)
  refine ACode.cond rfl (fun hb => ?_) (fun hb => ?_)
  · have h : atErr e n ≠ 0 := by simpa using hb
    have ho : sizeAt e n = (0, atErr e n) := by unfold sizeAt; rw [if_pos h]
    rw [ho]
    repeat first | (with_reducible refine oj ?_; refine AOps.auto tabOk rfl ?_) | (with_reducible first | refine o1 ?_ | refine o2 ?_ | refine o3 ?_ | refine o4 ?_ | refine o5 ?_ | refine o6 ?_ | refine o7 ?_ | refine o8 ?_ | refine o9 ?_ | refine oa ?_ | refine ob ?_ | refine oc ?_ | refine od ?_ | refine oe ?_ | refine og ?_ | refine oh ?_ | refine oi ?_) | (with_reducible refine cExitMiss ?_ ?_; rfl) | (with_reducible refine ok ?_; first | refine ACode.condT rfl ?_ | refine ACode.condF rfl ?_)
    exact APure.fin rfl (WkF.ofEq rfl) (by simp) hou rfl
  · have h : atErr e n = 0 := by simpa using hb
    have ho : sizeAt e n = (((listT [] (treeAt e n.toNat)).length : Int), 0) := by unfold sizeAt; rw [if_neg (by simpa using h)]
    obtain ⟨h1, h2, h3⟩ := atErr_zero h
    have t1 := body_isTree h1
    have hl := len_sub t1 h3
    have hel := he.eo.l
    rw [ho]
    obtain ⟨q, rfl⟩ : ∃ q : Nat, n = q := ⟨n.toNat, by omega⟩
    rw [Int.toNat_natCast] at *
    have hcl : (listT [] (treeAt e q)).length = cntN (treeAt e q) := by rw [cntN_list]; simp
    rw [hcl] at hl ⊢
    repeat first | (with_reducible refine oj ?_; refine AOps.auto tabOk rfl ?_) | (with_reducible first | refine o1 ?_ | refine o2 ?_ | refine o3 ?_ | refine o4 ?_ | refine o5 ?_ | refine o6 ?_ | refine o7 ?_ | refine o8 ?_ | refine o9 ?_ | refine oa ?_ | refine ob ?_ | refine oc ?_ | refine od ?_ | refine oe ?_ | refine og ?_ | refine oh ?_ | refine oi ?_) | (with_reducible refine cExitMiss ?_ ?_; rfl) | (with_reducible refine ok ?_; first | refine ACode.condT rfl ?_ | refine ACode.condF rfl ?_)
    refine AOps.callC hΓc (below_ok hΓc e he.eo t1.k q h3) rfl rfl rfl rfl rfl rfl rfl hou (by simp) ?_
    refine AOps.callC hΓc (Count_ok hΓc (treeAt e q) (by omega)) rfl rfl rfl rfl rfl rfl rfl hou (by simp) ?_
    repeat first | (with_reducible refine oj ?_; refine AOps.auto tabOk rfl ?_) | (with_reducible first | refine o1 ?_ | refine o2 ?_ | refine o3 ?_ | refine o4 ?_ | refine o5 ?_ | refine o6 ?_ | refine o7 ?_ | refine o8 ?_ | refine o9 ?_ | refine oa ?_ | refine ob ?_ | refine oc ?_ | refine od ?_ | refine oe ?_ | refine og ?_ | refine oh ?_ | refine oi ?_) | (with_reducible refine cExitMiss ?_ ?_; rfl) | (with_reducible refine ok ?_; first | refine ACode.condT rfl ?_ | refine ACode.condF rfl ?_)
    exact APure.fin rfl (WkF.ofEq rfl) (by simp) hou rfl
theorem CoreCut_ok (e : List Ex) (he : okB e) (n : Int) : APure Tryd.prog Γc 6 [.one (.sl 5 (e.map cEx)), .one (int n)] (.one (.lit (.bool true))) := by
  intro ou
  refine AFn.walk 68 tabOk Tryd.func6 rfl (by kernel_rfl) rfl rfl fun hou => ?_
  have c1 := Cut_ok e he n
  have c2 := Size_ok e he n
  have c3 := Free_ok e he n
  repeat first | (with_reducible refine oj ?_; refine AOps.auto tabOk rfl ?_) | (with_reducible first | refine o1 ?_ | refine o2 ?_ | refine o3 ?_ | refine o4 ?_ | refine o5 ?_ | refine o6 ?_ | refine o7 ?_ | refine o8 ?_ | refine o9 ?_ | refine oa ?_ | refine ob ?_ | refine oc ?_ | refine od ?_ | refine oe ?_ | refine og ?_ | refine oh ?_ | refine oi ?_) | (with_reducible refine cExitMiss ?_ ?_; rfl) | (with_reducible refine ok ?_; first | refine ACode.condT rfl ?_ | refine ACode.condF rfl ?_)
  refine AOps.callC hΓc coreFact_ok rfl rfl rfl rfl rfl rfl rfl hou (by simp) ?_
  repeat first | (with_reducible refine oj ?_; refine AOps.auto tabOk rfl ?_) | (with_reducible first | refine o1 ?_ | refine o2 ?_ | refine o3 ?_ | refine o4 ?_ | refine o5 ?_ | refine o6 ?_ | refine o7 ?_ | refine o8 ?_ | refine o9 ?_ | refine oa ?_ | refine ob ?_ | refine oc ?_ | refine od ?_ | refine oe ?_ | refine og ?_ | refine oh ?_ | refine oi ?_) | (with_reducible refine cExitMiss ?_ ?_; rfl) | (with_reducible refine ok ?_; first | refine ACode.condT rfl ?_ | refine ACode.condF rfl ?_)
  by_cases h : atErr e n = 0
  · obtain ⟨h1, h2, h3⟩ := atErr_zero h
    have t1 := body_isTree h1
    have hk := check_at h1 h3
    have hbf : okB (listT [] (treeAt e n.toNat)) := by
      have hdat : ∀ y ∈ listT [] (treeAt e n.toNat), ∃ x ∈ e, x.binds = y.binds ∧ x.alts = y.alts ∧ x.kids.length = y.kids.length := fun y hy => by
        obtain ⟨x, hx, hxy⟩ := List.mem_map.1 (labs_sub t1 h3 _ (List.mem_map_of_mem (f := labE (listT [] (treeAt e n.toNat))) hy))
        simp only [labE, Lab.mk.injEq] at hxy
        have := congrArg List.length hxy.2.2.2.1
        simp only [List.length_map] at this
        exact ⟨x, hx, hxy.2.2.1, hxy.2.2.2.2, this⟩
      have hl := len_sub t1 h3
      refine ⟨⟨by have := he.eo.l; omega, fun y hy => ?_⟩, fun y hy => ?_⟩
      · obtain ⟨x, hx, q1, q2, q3⟩ := hdat y hy
        have hx' := he.eo.x x hx
        exact ⟨by rw [← q1]; exact hx'.b, by rw [← q3]; exact hx'.k, by rw [← q2]; exact hx'.a, by rw [← q2]; exact hx'.ab⟩
      · obtain ⟨x, hx, q1, q2, q3⟩ := hdat y hy
        have := he.b x hx
        rw [q1, q2] at this
        exact this
    have c4 := Check_ok _ hbf
    rw [hk] at c4
    have w1 : cutAt e n = (listT [] (treeAt e n.toNat), 0) := by unfold cutAt; rw [if_neg (by simpa using h)]
    have w2 : sizeAt e n = (((listT [] (treeAt e n.toNat)).length : Int), 0) := by unfold sizeAt; rw [if_neg (by simpa using h)]
    have w3 : freeAt e n = (freeOf (treeAt e n.toNat), 0) := by unfold freeAt; rw [if_neg (by simpa using h)]
    rw [w1] at c1
    rw [w2] at c2
    rw [w3] at c3
    generalize listT [] (treeAt e n.toNat) = f at c1 c2 c4
    generalize freeOf (treeAt e n.toNat) = fs at c3 c4
    simp only at c1 c2 c3
    refine AOps.callC hΓc c1 rfl rfl rfl rfl rfl rfl rfl hou (by simp) ?_
    repeat first | (with_reducible refine oj ?_; refine AOps.auto tabOk rfl ?_) | (with_reducible first | refine o1 ?_ | refine o2 ?_ | refine o3 ?_ | refine o4 ?_ | refine o5 ?_ | refine o6 ?_ | refine o7 ?_ | refine o8 ?_ | refine o9 ?_ | refine oa ?_ | refine ob ?_ | refine oc ?_ | refine od ?_ | refine oe ?_ | refine og ?_ | refine oh ?_ | refine oi ?_) | (with_reducible refine cExitMiss ?_ ?_; rfl) | (with_reducible refine ok ?_; first | refine ACode.condT rfl ?_ | refine ACode.condF rfl ?_)
    refine AOps.callC hΓc c2 rfl rfl rfl rfl rfl rfl rfl hou (by simp) ?_
    repeat first | (with_reducible refine oj ?_; refine AOps.auto tabOk rfl ?_) | (with_reducible first | refine o1 ?_ | refine o2 ?_ | refine o3 ?_ | refine o4 ?_ | refine o5 ?_ | refine o6 ?_ | refine o7 ?_ | refine o8 ?_ | refine o9 ?_ | refine oa ?_ | refine ob ?_ | refine oc ?_ | refine od ?_ | refine oe ?_ | refine og ?_ | refine oh ?_ | refine oi ?_) | (with_reducible refine cExitMiss ?_ ?_; rfl) | (with_reducible refine ok ?_; first | refine ACode.condT rfl ?_ | refine ACode.condF rfl ?_)
    refine AOps.callC hΓc c3 rfl rfl rfl rfl rfl rfl rfl hou (by simp) ?_
    repeat first | (with_reducible refine oj ?_; refine AOps.auto tabOk rfl ?_) | (with_reducible first | refine o1 ?_ | refine o2 ?_ | refine o3 ?_ | refine o4 ?_ | refine o5 ?_ | refine o6 ?_ | refine o7 ?_ | refine o8 ?_ | refine o9 ?_ | refine oa ?_ | refine ob ?_ | refine oc ?_ | refine od ?_ | refine oe ?_ | refine og ?_ | refine oh ?_ | refine oi ?_) | (with_reducible refine cExitMiss ?_ ?_; rfl) | (with_reducible refine ok ?_; first | refine ACode.condT rfl ?_ | refine ACode.condF rfl ?_)
    refine ACode.cond rfl (fun hb => ?_) (fun hb => ?_)
    · have hfs : 0 < fs.length := by simpa using hb
      rw [if_pos hfs] at c4
      repeat' first | (with_reducible refine oj ?_; refine AOps.auto tabOk rfl ?_) | (with_reducible first | refine o1 ?_ | refine o2 ?_ | refine o3 ?_ | refine o4 ?_ | refine o5 ?_ | refine o6 ?_ | refine o7 ?_ | refine o8 ?_ | refine o9 ?_ | refine oa ?_ | refine ob ?_ | refine oc ?_ | refine od ?_ | refine oe ?_ | refine og ?_ | refine oh ?_ | refine oi ?_) | (with_reducible refine cExitMiss ?_ ?_; rfl) | (with_reducible refine ok ?_; first | refine ACode.condT rfl ?_ | refine ACode.condF rfl ?_) | (with_reducible refine oj ?_; first | refine AOps.step1 rfl rfl rfl (AStep.arith rfl rfl rfl (.inl ⟨rfl, rfl⟩) (inRange_i64 (by first | omega | (simp; omega)) (by first | omega | (simp; omega)))) ?_ | refine AOps.step1 rfl rfl rfl (AStep.arith rfl rfl rfl (.inr (.inl ⟨rfl, rfl⟩)) (inRange_i64 (by first | omega | (simp; omega)) (by first | omega | (simp; omega)))) ?_ | refine AOps.step1 rfl rfl rfl (AStep.neBool Tryd.underlying4 rfl rfl rfl) ?_ | refine AOps.step1 rfl rfl rfl (AStep.eqBool Tryd.underlying4 rfl rfl rfl) ?_ | refine AOps.step1 rfl rfl rfl (AStep.max2 (t := 3) (ty := 3) rfl rfl rfl) ?_ | refine AOps.step1 rfl rfl rfl (AStep.min2 (t := 3) (ty := 3) rfl rfl rfl) ?_ | refine AOps.unG rfl rfl rfl ?_) | (with_reducible refine oj ?_; refine AOps.splitS rfl rfl rfl rfl (fun hb => ?_) (fun hb => ?_)) | (with_reducible refine ok ?_; first | refine ACode.condS rfl (fun hb => ?_) (fun hb => ?_) | refine ACode.cond rfl (fun hb => ?_) (fun hb => ?_))
      all_goals try (refine AOps.callC hΓc c4 rfl rfl rfl rfl rfl rfl rfl hou (by simp) ?_; repeat' first | (with_reducible refine oj ?_; refine AOps.auto tabOk rfl ?_) | (with_reducible first | refine o1 ?_ | refine o2 ?_ | refine o3 ?_ | refine o4 ?_ | refine o5 ?_ | refine o6 ?_ | refine o7 ?_ | refine o8 ?_ | refine o9 ?_ | refine oa ?_ | refine ob ?_ | refine oc ?_ | refine od ?_ | refine oe ?_ | refine og ?_ | refine oh ?_ | refine oi ?_) | (with_reducible refine cExitMiss ?_ ?_; rfl) | (with_reducible refine ok ?_; first | refine ACode.condT rfl ?_ | refine ACode.condF rfl ?_) | (with_reducible refine oj ?_; first | refine AOps.step1 rfl rfl rfl (AStep.arith rfl rfl rfl (.inl ⟨rfl, rfl⟩) (inRange_i64 (by first | omega | (simp; omega)) (by first | omega | (simp; omega)))) ?_ | refine AOps.step1 rfl rfl rfl (AStep.arith rfl rfl rfl (.inr (.inl ⟨rfl, rfl⟩)) (inRange_i64 (by first | omega | (simp; omega)) (by first | omega | (simp; omega)))) ?_ | refine AOps.step1 rfl rfl rfl (AStep.neBool Tryd.underlying4 rfl rfl rfl) ?_ | refine AOps.step1 rfl rfl rfl (AStep.eqBool Tryd.underlying4 rfl rfl rfl) ?_ | refine AOps.step1 rfl rfl rfl (AStep.max2 (t := 3) (ty := 3) rfl rfl rfl) ?_ | refine AOps.step1 rfl rfl rfl (AStep.min2 (t := 3) (ty := 3) rfl rfl rfl) ?_ | refine AOps.unG rfl rfl rfl ?_) | (with_reducible refine oj ?_; refine AOps.splitS rfl rfl rfl rfl (fun hb => ?_) (fun hb => ?_)) | (with_reducible refine ok ?_; first | refine ACode.condS rfl (fun hb => ?_) (fun hb => ?_) | refine ACode.cond rfl (fun hb => ?_) (fun hb => ?_)))
      all_goals try (exfalso; simp_all; done)
      all_goals
        refine APure.fin rfl (WkF.ofEq ?_) (by simp) hou rfl
        simp_all
    · have hfs : ¬ 0 < fs.length := by simpa using hb
      rw [if_neg hfs] at c4
      repeat' first | (with_reducible refine oj ?_; refine AOps.auto tabOk rfl ?_) | (with_reducible first | refine o1 ?_ | refine o2 ?_ | refine o3 ?_ | refine o4 ?_ | refine o5 ?_ | refine o6 ?_ | refine o7 ?_ | refine o8 ?_ | refine o9 ?_ | refine oa ?_ | refine ob ?_ | refine oc ?_ | refine od ?_ | refine oe ?_ | refine og ?_ | refine oh ?_ | refine oi ?_) | (with_reducible refine cExitMiss ?_ ?_; rfl) | (with_reducible refine ok ?_; first | refine ACode.condT rfl ?_ | refine ACode.condF rfl ?_) | (with_reducible refine oj ?_; first | refine AOps.step1 rfl rfl rfl (AStep.arith rfl rfl rfl (.inl ⟨rfl, rfl⟩) (inRange_i64 (by first | omega | (simp; omega)) (by first | omega | (simp; omega)))) ?_ | refine AOps.step1 rfl rfl rfl (AStep.arith rfl rfl rfl (.inr (.inl ⟨rfl, rfl⟩)) (inRange_i64 (by first | omega | (simp; omega)) (by first | omega | (simp; omega)))) ?_ | refine AOps.step1 rfl rfl rfl (AStep.neBool Tryd.underlying4 rfl rfl rfl) ?_ | refine AOps.step1 rfl rfl rfl (AStep.eqBool Tryd.underlying4 rfl rfl rfl) ?_ | refine AOps.step1 rfl rfl rfl (AStep.max2 (t := 3) (ty := 3) rfl rfl rfl) ?_ | refine AOps.step1 rfl rfl rfl (AStep.min2 (t := 3) (ty := 3) rfl rfl rfl) ?_ | refine AOps.unG rfl rfl rfl ?_) | (with_reducible refine oj ?_; refine AOps.splitS rfl rfl rfl rfl (fun hb => ?_) (fun hb => ?_)) | (with_reducible refine ok ?_; first | refine ACode.condS rfl (fun hb => ?_) (fun hb => ?_) | refine ACode.cond rfl (fun hb => ?_) (fun hb => ?_))
      all_goals try (refine AOps.callC hΓc c4 rfl rfl rfl rfl rfl rfl rfl hou (by simp) ?_; repeat' first | (with_reducible refine oj ?_; refine AOps.auto tabOk rfl ?_) | (with_reducible first | refine o1 ?_ | refine o2 ?_ | refine o3 ?_ | refine o4 ?_ | refine o5 ?_ | refine o6 ?_ | refine o7 ?_ | refine o8 ?_ | refine o9 ?_ | refine oa ?_ | refine ob ?_ | refine oc ?_ | refine od ?_ | refine oe ?_ | refine og ?_ | refine oh ?_ | refine oi ?_) | (with_reducible refine cExitMiss ?_ ?_; rfl) | (with_reducible refine ok ?_; first | refine ACode.condT rfl ?_ | refine ACode.condF rfl ?_) | (with_reducible refine oj ?_; first | refine AOps.step1 rfl rfl rfl (AStep.arith rfl rfl rfl (.inl ⟨rfl, rfl⟩) (inRange_i64 (by first | omega | (simp; omega)) (by first | omega | (simp; omega)))) ?_ | refine AOps.step1 rfl rfl rfl (AStep.arith rfl rfl rfl (.inr (.inl ⟨rfl, rfl⟩)) (inRange_i64 (by first | omega | (simp; omega)) (by first | omega | (simp; omega)))) ?_ | refine AOps.step1 rfl rfl rfl (AStep.neBool Tryd.underlying4 rfl rfl rfl) ?_ | refine AOps.step1 rfl rfl rfl (AStep.eqBool Tryd.underlying4 rfl rfl rfl) ?_ | refine AOps.step1 rfl rfl rfl (AStep.max2 (t := 3) (ty := 3) rfl rfl rfl) ?_ | refine AOps.step1 rfl rfl rfl (AStep.min2 (t := 3) (ty := 3) rfl rfl rfl) ?_ | refine AOps.unG rfl rfl rfl ?_) | (with_reducible refine oj ?_; refine AOps.splitS rfl rfl rfl rfl (fun hb => ?_) (fun hb => ?_)) | (with_reducible refine ok ?_; first | refine ACode.condS rfl (fun hb => ?_) (fun hb => ?_) | refine ACode.cond rfl (fun hb => ?_) (fun hb => ?_)))
      all_goals try (exfalso; simp_all; done)
      all_goals
        refine APure.fin rfl (WkF.ofEq ?_) (by simp) hou rfl
        simp_all
  · have w1 : cutAt e n = ([], atErr e n) := by unfold cutAt; rw [if_pos h]
    have w2 : sizeAt e n = (0, atErr e n) := by unfold sizeAt; rw [if_pos h]
    have w3 : freeAt e n = ([], atErr e n) := by unfold freeAt; rw [if_pos h]
    rw [w1] at c1
    rw [w2] at c2
    rw [w3] at c3
    generalize atErr e n = g at c1 c2 c3 h
    simp only at c1 c2 c3
    refine AOps.callC hΓc c1 rfl rfl rfl rfl rfl rfl rfl hou (by simp) ?_
    repeat first | (with_reducible refine oj ?_; refine AOps.auto tabOk rfl ?_) | (with_reducible first | refine o1 ?_ | refine o2 ?_ | refine o3 ?_ | refine o4 ?_ | refine o5 ?_ | refine o6 ?_ | refine o7 ?_ | refine o8 ?_ | refine o9 ?_ | refine oa ?_ | refine ob ?_ | refine oc ?_ | refine od ?_ | refine oe ?_ | refine og ?_ | refine oh ?_ | refine oi ?_) | (with_reducible refine cExitMiss ?_ ?_; rfl) | (with_reducible refine ok ?_; first | refine ACode.condT rfl ?_ | refine ACode.condF rfl ?_)
    refine AOps.callC hΓc c2 rfl rfl rfl rfl rfl rfl rfl hou (by simp) ?_
    repeat first | (with_reducible refine oj ?_; refine AOps.auto tabOk rfl ?_) | (with_reducible first | refine o1 ?_ | refine o2 ?_ | refine o3 ?_ | refine o4 ?_ | refine o5 ?_ | refine o6 ?_ | refine o7 ?_ | refine o8 ?_ | refine o9 ?_ | refine oa ?_ | refine ob ?_ | refine oc ?_ | refine od ?_ | refine oe ?_ | refine og ?_ | refine oh ?_ | refine oi ?_) | (with_reducible refine cExitMiss ?_ ?_; rfl) | (with_reducible refine ok ?_; first | refine ACode.condT rfl ?_ | refine ACode.condF rfl ?_)
    refine AOps.callC hΓc c3 rfl rfl rfl rfl rfl rfl rfl hou (by simp) ?_
    repeat first | (with_reducible refine oj ?_; refine AOps.auto tabOk rfl ?_) | (with_reducible first | refine o1 ?_ | refine o2 ?_ | refine o3 ?_ | refine o4 ?_ | refine o5 ?_ | refine o6 ?_ | refine o7 ?_ | refine o8 ?_ | refine o9 ?_ | refine oa ?_ | refine ob ?_ | refine oc ?_ | refine od ?_ | refine oe ?_ | refine og ?_ | refine oh ?_ | refine oi ?_) | (with_reducible refine cExitMiss ?_ ?_; rfl) | (with_reducible refine ok ?_; first | refine ACode.condT rfl ?_ | refine ACode.condF rfl ?_)
    refine ACode.cond rfl (fun hb => ?_) (fun hb => absurd (by simpa using hb) h)
    repeat' first | (with_reducible refine oj ?_; refine AOps.auto tabOk rfl ?_) | (with_reducible first | refine o1 ?_ | refine o2 ?_ | refine o3 ?_ | refine o4 ?_ | refine o5 ?_ | refine o6 ?_ | refine o7 ?_ | refine o8 ?_ | refine o9 ?_ | refine oa ?_ | refine ob ?_ | refine oc ?_ | refine od ?_ | refine oe ?_ | refine og ?_ | refine oh ?_ | refine oi ?_) | (with_reducible refine cExitMiss ?_ ?_; rfl) | (with_reducible refine ok ?_; first | refine ACode.condT rfl ?_ | refine ACode.condF rfl ?_) | (with_reducible refine oj ?_; first | refine AOps.step1 rfl rfl rfl (AStep.arith rfl rfl rfl (.inl ⟨rfl, rfl⟩) (inRange_i64 (by first | omega | (simp; omega)) (by first | omega | (simp; omega)))) ?_ | refine AOps.step1 rfl rfl rfl (AStep.arith rfl rfl rfl (.inr (.inl ⟨rfl, rfl⟩)) (inRange_i64 (by first | omega | (simp; omega)) (by first | omega | (simp; omega)))) ?_ | refine AOps.step1 rfl rfl rfl (AStep.neBool Tryd.underlying4 rfl rfl rfl) ?_ | refine AOps.step1 rfl rfl rfl (AStep.eqBool Tryd.underlying4 rfl rfl rfl) ?_ | refine AOps.step1 rfl rfl rfl (AStep.max2 (t := 3) (ty := 3) rfl rfl rfl) ?_ | refine AOps.step1 rfl rfl rfl (AStep.min2 (t := 3) (ty := 3) rfl rfl rfl) ?_ | refine AOps.unG rfl rfl rfl ?_) | (with_reducible refine oj ?_; refine AOps.splitS rfl rfl rfl rfl (fun hb => ?_) (fun hb => ?_)) | (with_reducible refine ok ?_; first | refine ACode.condS rfl (fun hb => ?_) (fun hb => ?_) | refine ACode.cond rfl (fun hb => ?_) (fun hb => ?_))
    all_goals
      refine APure.fin rfl (WkF.ofEq ?_) (by simp) hou rfl
      simp_all
end Go.Proofs.YtnonkoeknpmcjaaDoor
