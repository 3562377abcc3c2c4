/- List, walked: the call. -/
import Derived.Test.YtgdionbeeodaaaaDoorB7
import Derived.Shelf.Sort.Plain
import Derived.Shelf.Slices.In.SortNone
namespace Go.Abs
inductive CedFr (θ : Id → Id) (fr : Fr) : Fr → Prop
  | nil : CedFr θ fr []
  | cons {k : Nat} {x y : FV} {r : Fr} (h : Fr.get k fr = some y) (hw : y.sub θ = x) (hr : CedFr θ fr r) : CedFr θ fr ((k, x) :: r)
theorem CedFr.get {θ : Id → Id} {fr fr' : Fr} (h : CedFr θ fr fr') : ∀ d x, Fr.get d fr' = some x → ∃ y, Fr.get d fr = some y ∧ WkF (y.sub θ) x := by
  induction h with
  | nil => intro d x h; cases h
  | @cons k x y r h hw hr ih =>
    intro d z hz
    simp only [Fr.get] at hz
    by_cases e : k = d
    · subst e; simp at hz; subst hz; exact ⟨y, h, WkF.ofEq hw⟩
    · rw [beq_no e] at hz; exact ih d z hz
end Go.Abs
namespace Go.Proofs.YtgdionbeeodaaaaDoor
open Go Go.Abs Go.CoreX
set_option maxRecDepth 10000
set_option linter.unusedVariables false
set_option linter.unusedSimpArgs false
variable {Γ : List (Nat × List AC)}
theorem List_ok (hΓ : ∀ g cs, (g, cs) ∈ Γ → idsL isO cs) (t : Tr) (ht : okT t) (hsz : (listT [] t).length ≤ 1048576) : APure Tryd.prog Γ 48 [.one (.box (cTr t))] (.one (.sl 5 ((listT [] t).map cEx))) := by
  intro ou
  refine AFn.walk 10 tabOk Tryd.func48 rfl (by kernel_rfl) rfl rfl fun hou => ?_
  iterate 22 (first | ((with_reducible refine oj ?_); refine zau ?_) | (with_reducible refine zst ?_) | (with_reducible refine cExitMiss ?_ ?_; rfl) | (with_reducible refine ok ?_; first | refine ACode.condT rfl ?_ | refine ACode.condF rfl ?_))
  refine ACode.grow 0 0 53 5 rfl rfl ?_
  repeat first | ((with_reducible refine oj ?_); refine zau ?_) | (with_reducible refine zst ?_) | (with_reducible refine cExitMiss ?_ ?_; rfl) | (with_reducible refine ok ?_; first | refine ACode.condT rfl ?_ | refine ACode.condF rfl ?_)
  refine AOps.cede 0 (show 0 < 3 by omega) fun ko hko => ⟨[(7, .one (.box (cTr t))), (6, .one (.fn (.func 87) [] [.ptr (.l 1) 0, .ptr (.o ko) 0])), (3, .one (.ptr (.o ko) 0))],
    ⟨3, [(2, .tok 53 5 0), (1, .cells [.fn (.func 87) [] [.ptr (.l 1) 0, .ptr (.o ko) 0]])], updO ou ko (.cells [.gs 5 [] (.l 2)])⟩, ⟨CedFr.get ?_, rfl, fun i x hx => ?_⟩, ?_⟩
  · exact .cons rfl (FV.sub_o _ (by simp)) (.cons rfl rfl (.cons rfl rfl .nil))
  · have hko : ou ko = none := hko
    cases i with
    | l m =>
      by_cases e : 2 = m
      · subst e; cases hx; exact ⟨.l 2, _, rfl, rfl, rfl⟩
      · have hx' : lookL m [(1, AObj.cells [.fn (.func 87) [] [.ptr (.l 1) 0, .ptr (.o ko) 0]])] = some x := by simpa [St.get, lookL, beq_no e] using hx
        by_cases e1 : 1 = m
        · subst e1; cases hx'; exact ⟨.l 1, _, rfl, rfl, rfl⟩
        · simp [lookL, beq_no e1] at hx'
    | o m =>
      have hx' : updO ou ko (.cells [.gs 5 [] (.l 2)]) m = some x := hx
      by_cases e : ko = m
      · subst e; rw [updO_same] at hx'; cases hx'; exact ⟨.l 0, _, rfl, rfl, rfl⟩
      · rw [updO_ne _ e] at hx'
        exact ⟨.o m, x, hx', rfl, (AObj.sub_o x (hou m x hx')).symm⟩
  have hko : ou ko = none := hko
  refine AOps.cede 1 (show 1 < 3 by omega) fun kw hkw => ⟨[(7, .one (.box (cTr t))), (6, .one (fnW kw ko)), (3, .one (.ptr (.o ko) 0))],
    ⟨3, [(2, .tok 53 5 0)], updO (updO ou ko (.cells [.gs 5 [] (.l 2)])) kw (.cells [fnW kw ko])⟩, ⟨CedFr.get ?_, rfl, fun i x hx => ?_⟩, ?_⟩
  · exact .cons rfl (FV.sub_o _ (by simp)) (.cons rfl rfl (.cons rfl rfl .nil))
  · have hkw : updO ou ko (.cells [.gs 5 [] (.l 2)]) kw = none := hkw
    cases i with
    | l m =>
      by_cases e : 2 = m
      · subst e; cases hx; exact ⟨.l 2, _, rfl, rfl, rfl⟩
      · simp [St.get, lookL, beq_no e] at hx
    | o m =>
      have hx' : updO (updO ou ko (.cells [.gs 5 [] (.l 2)])) kw (.cells [fnW kw ko]) m = some x := hx
      by_cases e : kw = m
      · subst e; rw [updO_same] at hx'; cases hx'; exact ⟨.l 1, _, rfl, rfl, rfl⟩
      · rw [updO_ne _ e] at hx'
        by_cases e2 : ko = m
        · subst e2; rw [updO_same] at hx'; cases hx'
          exact ⟨.o ko, _, updO_same _ _ _, rfl, rfl⟩
        · have hx2 := hx'
          rw [updO_ne _ e2] at hx2
          exact ⟨.o m, x, hx', rfl, (AObj.sub_o x (hou m x hx2)).symm⟩
  have hkw : updO ou ko (.cells [.gs 5 [] (.l 2)]) kw = none := hkw
  have hwo : ko ≠ kw := fun e => by subst e; rw [updO_same] at hkw; cases hkw
  rw [updO_ne _ hwo] at hkw
  refine AOps.cede 2 (show 2 < 3 by omega) fun kt hkt => ⟨[(7, .one (.box (cTr t))), (6, .one (fnW kw ko)), (3, .one (.ptr (.o ko) 0))],
    ⟨3, [], ouS (updO ou kw (.cells [fnW kw ko])) ko kt (([] : List Ex).map cEx)⟩, ⟨CedFr.get ?_, rfl, fun i x hx => ?_⟩, ?_⟩
  · exact .cons rfl (FV.sub_o _ (by simp)) (.cons rfl rfl (.cons rfl rfl .nil))
  · have hkt : updO (updO ou ko (.cells [.gs 5 [] (.l 2)])) kw (.cells [fnW kw ko]) kt = none := hkt
    have hkto : ko ≠ kt := fun e => by subst e; rw [updO_ne _ (Ne.symm hwo), updO_same] at hkt; cases hkt
    cases i with
    | l m => cases hx
    | o m =>
      have hx' : ouS (updO ou kw (.cells [fnW kw ko])) ko kt (([] : List Ex).map cEx) m = some x := hx
      by_cases e : m = kt
      · subst e; rw [ouS_t] at hx'; cases hx'; exact ⟨.l 2, _, rfl, rfl, rfl⟩
      · by_cases e2 : m = ko
        · subst e2; rw [ouS_o hkto] at hx'; cases hx'
          refine ⟨.o m, .cells [.gs 5 [] (.l 2)], ?_, rfl, rfl⟩
          show updO (updO ou m (.cells [.gs 5 [] (.l 2)])) kw (.cells [fnW kw m]) m = _
          rw [updO_ne _ (Ne.symm hwo), updO_same]
        · rw [ouS_w e2 e] at hx'
          by_cases e3 : kw = m
          · subst e3; rw [updO_same] at hx'; cases hx'
            exact ⟨.o kw, _, updO_same _ _ _, rfl, rfl⟩
          · rw [updO_ne _ e3] at hx'
            refine ⟨.o m, x, ?_, rfl, (AObj.sub_o x (hou m x hx')).symm⟩
            show updO (updO ou ko (.cells [.gs 5 [] (.l 2)])) kw (.cells [fnW kw ko]) m = _
            rw [updO_ne _ e3, updO_ne _ (Ne.symm e2)]; exact hx'
  have hkt : updO (updO ou ko (.cells [.gs 5 [] (.l 2)])) kw (.cells [fnW kw ko]) kt = none := hkt
  have hwt : kw ≠ kt := fun e => by subst e; rw [updO_same] at hkt; cases hkt
  rw [updO_ne _ hwt] at hkt
  have hot : ko ≠ kt := fun e => by subst e; rw [updO_same] at hkt; cases hkt
  rw [updO_ne _ hot] at hkt
  have hob : OuOk (updO ou kw (.cells [fnW kw ko])) := fun k o hk => by
    by_cases e : kw = k
    · subst e; rw [updO_same] at hk; cases hk; simp
    · rw [updO_ne _ e] at hk; exact hou k o hk
  have hcall := list1_ok hΓ t ht (updO ou kw (.cells [fnW kw ko])) kw ko kt [] hob (updO_same _ _ _) (by rw [updO_ne _ (Ne.symm hwo)]; exact hko) (by rw [updO_ne _ hwt]; exact hkt) hot hsz
  refine AOps.call1 hΓ rfl rfl rfl rfl rfl rfl rfl (by simp) (ouS_ok hob (by simp)) hcall fun r ou' hq hids hou' => ?_
  obtain ⟨rfl, kt', h1, h2, rfl⟩ := hq
  repeat first | ((with_reducible refine oj ?_); refine zau ?_) | (with_reducible refine zst ?_) | (with_reducible refine cExitMiss ?_ ?_; rfl) | (with_reducible refine ok ?_; first | refine ACode.condT rfl ?_ | refine ACode.condF rfl ?_)
  refine AOps.step1 rfl rfl rfl (AStep.loadOwn tabOk rfl rfl rfl rfl rfl (ouS_o h2 _) rfl) ?_
  refine AOps.wk 9 rfl (y := .one (.sl 5 ((listT [] t).map cEx))) (.one (.gsE rfl)) ?_
  refine AOps.lessO ⟨3, [], ou⟩ rfl (fun i o ho => ?_) ?_
  · cases i with
    | l m => cases ho
    | o m =>
      have ho' : ou m = some o := ho
      show ouS (updO ou kw (.cells [fnW kw ko])) ko kt' _ m = some o
      have e1 : m ≠ ko := fun e => by rw [e, hko] at ho'; cases ho'
      have e2 : kw ≠ m := fun e => by rw [← e, hkw] at ho'; cases ho'
      have e3 : m ≠ kt' := fun e => by
        rw [← e, updO_ne _ e2] at h1
        rw [h1] at ho'; cases ho'
      rw [ouS_w e1 e3, updO_ne _ e2]; exact ho'
  repeat first | ((with_reducible refine oj ?_); refine zau ?_) | (with_reducible refine zst ?_) | (with_reducible refine cExitMiss ?_ ?_; rfl) | (with_reducible refine ok ?_; first | refine ACode.condT rfl ?_ | refine ACode.condF rfl ?_)
  exact APure.fin rfl (WkF.ofEq rfl) (by simp) hou rfl
end Go.Proofs.YtgdionbeeodaaaaDoor
/- free, walked. -/
namespace Go.CoreX
def addB (β : Int → Int) (l : List Int) : Int → Int := fun k => β k + l.count k
-- What occurs freely, by how often each is bound around.
mutual
def occB (β : Int → Int) : Tr → List Int
  | .mk o n b k a => (if o = 0 ∧ β n = 0 then [n] else []) ++ occBs β o b a 0 k
def occBs (β : Int → Int) (o : Int) (b : List Int) (a : List Alt) : Nat → List Tr → List Int
  | _, [] => []
  | i, t :: ts => occB (addB β (boundN o b a i)) t ++ occBs β o b a (i + 1) ts
end
theorem occBs_snoc (β : Int → Int) (o : Int) (b : List Int) (a : List Alt) (t : Tr) : ∀ (l : List Tr) (i : Nat), occBs β o b a i (l ++ [t]) = occBs β o b a i l ++ occB (addB β (boundN o b a (i + l.length : Nat))) t
  | [], i => by simp [occBs]
  | x :: l, i => by
    simp only [List.cons_append, occBs, occBs_snoc β o b a t l (i + 1), List.append_assoc, List.length_cons]
    rw [show i + 1 + l.length = i + (l.length + 1) by omega]
theorem mx_le (m : Int) : ∀ l : List Int, m ≤ l.foldl mx m
  | [] => by simp
  | d :: l => by
    have := mx_le (mx m d) l
    have : m ≤ mx m d := by unfold mx; split <;> omega
    simp only [List.foldl_cons]; omega
theorem mx_mem : ∀ (l : List Int) (m d : Int), d ∈ l → d ≤ l.foldl mx m
  | x :: l, m, d, h => by
    simp only [List.foldl_cons]
    rcases List.mem_cons.1 h with rfl | h
    · have h1 := mx_le (mx m d) l
      have : d ≤ mx m d := by unfold mx; split <;> omega
      omega
    · exact mx_mem l _ d h
theorem depth_kid {o n : Int} {b : List Int} {ks : List Tr} {a : List Alt} {t : Tr} (h : t ∈ ks) : depthT t + 1 ≤ depthT (.mk o n b ks a) := by
  simp only [depthT, depthTs_eq]
  have := mx_mem (ks.map depthT) 0 (depthT t) (List.mem_map_of_mem h)
  omega
theorem depth_pos : ∀ t : Tr, 1 ≤ depthT t
  | .mk o n b ks a => by
    simp only [depthT]
    have := mx_le 0 (depthTs ks)
    omega
end Go.CoreX
namespace Go.Proofs.YtgdionbeeodaaaaDoor
open Go Go.Abs Go.CoreX
set_option maxRecDepth 10000
set_option linter.unusedVariables false
set_option linter.unusedSimpArgs false
variable {Γ : List (Nat × List AC)}
/-- How often each number is bound; which numbers are in a set. -/
def BIs (β : Int → Int) (ck : Nat) (l : List (Nat × Int × Int)) : Prop := ∃ f, IMOk f ck l ∧ ∀ k, (f k).getD 0 = β k
theorem BIs.put {β : Int → Int} {f : Int → Option Int} (hf : ∀ k, (f k).getD 0 = β k) (n v : Int) : ∀ k, (setF f n v k).getD 0 = if n = k then v else β k := fun k => by
  unfold setF
  by_cases e : n = k
  · rw [if_pos e, if_pos e]; rfl
  · rw [if_neg e, if_neg e]; exact hf k
def ouB (cb : Nat) (lb : List (Nat × Int × Int)) (co : Nat) (lo : List (Nat × Int × Unit)) : Outer := ouOf [.map cb (encI eN lb), .map co (encI eU lo)]
theorem ouB_ok (cb : Nat) (lb : List (Nat × Int × Int)) (co : Nat) (lo : List (Nat × Int × Unit)) : OuOk (ouB cb lb co lo) := by
  intro k o h
  match k, h with
  | 0, h => cases h; exact ids_mapN _ _ _
  | 1, h => cases h; exact ids_mapU _ _ _
  | k + 2, h => cases h
theorem ouB_set0 (cb cb' : Nat) (lb lb' : List (Nat × Int × Int)) (co : Nat) (lo : List (Nat × Int × Unit)) : (fun j => bif Nat.beq j 0 then some (AObj.map cb' (encI eN lb')) else ouB cb lb co lo j) = ouB cb' lb' co lo := by
  funext j
  match j with
  | 0 => rfl
  | 1 => rfl
  | k + 2 => rfl
theorem ouB_set1 (cb : Nat) (lb : List (Nat × Int × Int)) (co co' : Nat) (lo lo' : List (Nat × Int × Unit)) : (fun j => bif Nat.beq j 1 then some (AObj.map co' (encI eU lo')) else ouB cb lb co lo j) = ouB cb lb co' lo' := by
  funext j
  match j with
  | 0 => rfl
  | 1 => rfl
  | k + 2 => rfl
def FreeOk (Γ : List (Nat × List AC)) (t : Tr) : Prop := ∀ (β : Int → Int) (m : Int) (cb : Nat) (lb : List (Nat × Int × Int)) (co : Nat) (lo : List (Nat × Int × Unit)) (S : List Int), (∀ k, 0 ≤ β k ∧ β k ≤ m) → m + depthT t * 1048576 ≤ 4611686018427387904 → BIs β cb lb → SetIs S co lo →
  AFn Tryd.prog Γ 105 [.one (.box (cTr t)), .one (.mp (.o 0)), .one (.mp (.o 1))] (ouB cb lb co lo) (fun r ou' => r = .tup [] ∧ ∃ cb' lb' co' lo', ou' = ouB cb' lb' co' lo' ∧ BIs β cb' lb' ∧ SetIs (S ++ occB β t) co' lo')
theorem boundN_len {o : Int} {b : List Int} {a : List Alt} {k : Int} (hb : b.length ≤ 1048576) (ha : ∀ x ∈ a, x.binds.length ≤ 1048576) : (boundN o b a k).length ≤ 1048576 := by
  unfold boundN
  split
  · exact hb
  · split
    · rename_i h1 h2
      obtain ⟨x, hx⟩ := get_of_lt (l := a) (i := (k - 1).toNat) (by omega)
      rw [List.getD_eq_getElem?_getD, hx]
      exact ha x (List.mem_of_getElem? hx)
    · simp
theorem addB_succ {β : Int → Int} {l : List Int} {j : Nat} {n : Int} (h : l[j]? = some n) (k : Int) : addB β (l.take (j + 1)) k = if n = k then addB β (l.take j) n + 1 else addB β (l.take j) k := by
  unfold addB
  rw [take_get h, List.count_append]
  by_cases e : n = k
  · subst e; simp; omega
  · rw [if_neg e]
    have : [n].count k = 0 := by simp [List.count_cons, e]
    omega
theorem addB_drop {β : Int → Int} {l : List Int} {j : Nat} {n : Int} (h : l[j]? = some n) (k : Int) : addB β (l.drop (j + 1)) k = if n = k then addB β (l.drop j) n - 1 else addB β (l.drop j) k := by
  have hd : l.drop j = n :: l.drop (j + 1) := by
    obtain ⟨h1, h2⟩ := List.getElem?_eq_some_iff.1 h
    rw [List.drop_eq_getElem_cons h1, h2]
  unfold addB
  rw [hd, List.count_cons, List.count_cons]
  by_cases e : n = k
  · subst e; simp; omega
  · rw [if_neg e]
    have : (n == k) = false := by simpa using e
    rw [this]; simp
theorem addB_bd {β : Int → Int} {l : List Int} {m : Int} (h : ∀ k, 0 ≤ β k ∧ β k ≤ m) (hl : l.length ≤ 1048576) (k : Int) : 0 ≤ addB β l k ∧ addB β l k ≤ m + 1048576 := by
  have h1 := h k
  have h2 := List.count_le_length (a := k) (l := l)
  unfold addB; omega
set_option maxHeartbeats 1000000 in
theorem free_ok (hΓ : ∀ g cs, (g, cs) ∈ Γ → idsL isO cs) : ∀ t : Tr, okT t → FreeOk Γ t
  | .mk o n b ks a, hok => by
    obtain ⟨hb, hk, ha, ⟨hab, _⟩, hks⟩ := hok
    have ih : ∀ t ∈ ks, FreeOk Γ t := fun t ht => free_ok hΓ t (okTs_iff.1 hks t ht)
    intro β m cb lb co lo S hβ hd ⟨f, hf, hfb⟩ ⟨g, hg, hgs⟩
    refine AFn.walk 73 tabOk Tryd.func105 rfl (by kernel_rfl) rfl rfl fun hou => ?_
    iterate 1 (first | ((with_reducible refine oj ?_); refine zau ?_) | (with_reducible refine zst ?_) | (with_reducible refine cExitMiss ?_ ?_; rfl) | (with_reducible refine ok ?_; first | refine ACode.condT rfl ?_ | refine ACode.condF rfl ?_))
    refine ACode.cutR hΓ (α := Nat × List (Nat × Int × Unit)) (fun _ => [(2, .one (.mp (.o 1))), (1, .one (.mp (.o 0))), (0, .one (.box (cTr (.mk o n b ks a))))])
      (fun c => ⟨0, [], ouB cb lb c.1 c.2⟩) (fun c => SetIs (S ++ if o = 0 ∧ β n = 0 then [n] else []) c.1 c.2) ?_ fun c hc => ?_
    · by_cases ho : o = 0
      · subst ho
        repeat' first | ((with_reducible refine oj ?_); refine zau ?_) | (with_reducible refine zst ?_) | (with_reducible refine cExitMiss ?_ ?_; rfl) | (with_reducible refine ok ?_; first | refine ACode.condT rfl ?_ | refine ACode.condF rfl ?_) | ((with_reducible refine oj ?_); first | refine zad ?_ | refine zsu ?_ | refine zne ?_ | refine zeq ?_ | refine zmx ?_ | refine zmn ?_ | refine AOps.unG rfl rfl rfl ?_) | (with_reducible refine oj ?_; refine AOps.splitS rfl rfl rfl rfl (fun hb => ?_) (fun hb => ?_)) | (with_reducible refine ok ?_; first | refine ACode.condS rfl (fun hb => ?_) (fun hb => ?_) | refine ACode.cond rfl (fun hb => ?_) (fun hb => ?_))
        all_goals first
          | (exfalso; simp at hb; done)
          | skip
        refine AOps.step1 rfl rfl rfl (AStep.lookI eN (cm := false) (v := .one (int (β n))) rfl Tryd.underlying90 Tryd.underlying3 rfl rfl rfl (by kernel_rfl) zeroN hf (by simp only [Tr.n_mk]; rw [← hfb n]; cases f n <;> rfl)) ?_
        repeat first | ((with_reducible refine oj ?_); refine zau ?_) | (with_reducible refine zst ?_) | (with_reducible refine cExitMiss ?_ ?_; rfl) | (with_reducible refine ok ?_; first | refine ACode.condT rfl ?_ | refine ACode.condF rfl ?_)
        refine ACode.cond rfl (fun hb => ?_) (fun hb => ?_)
        · have h0 : β n = 0 := by simpa using hb
          repeat first | ((with_reducible refine oj ?_); refine zau ?_) | (with_reducible refine zst ?_) | (with_reducible refine cExitMiss ?_ ?_; rfl) | (with_reducible refine ok ?_; first | refine ACode.condT rfl ?_ | refine ACode.condF rfl ?_)
          refine AOps.step1 rfl rfl rfl (AStep.buildU rfl Tryd.underlying138 (by kernel_rfl)) ?_
          refine AOps.putI eU (v := ()) rfl rfl rfl Tryd.underlying137 Tryd.underlying3 rfl rfl rfl rfl hg fun ck' l' hf' => ?_
          repeat first | ((with_reducible refine oj ?_); refine zau ?_) | (with_reducible refine zst ?_) | (with_reducible refine cExitMiss ?_ ?_; rfl) | (with_reducible refine ok ?_; first | refine ACode.condT rfl ?_ | refine ACode.condF rfl ?_)
          exact cInv ⟨(ck', l'), id, ⟨_, hf', by rw [if_pos ⟨rfl, h0⟩]; exact set_put hgs n⟩, LessR.of rfl (by (repeat' first | exact FrSub.nil | refine FrSub.cons rfl (.ofEq rfl) ?_ | refine FrSub.oa rfl rfl ?_ | refine FrSub.consP rfl (.ofEq rfl) (by simp) ?_)) (by simp) .nil rfl (ouB_set1 cb lb co ck' lo l').symm (by rw [show (St.set ⟨0, [], ouB cb lb co lo⟩ (.o 1) (.map ck' (encI eU l'))).ou = ouB cb lb ck' l' from ouB_set1 cb lb co ck' lo l']; exact ouB_ok _ _ _ _)⟩
        · have h0 : ¬ β n = 0 := by simpa using hb
          repeat first | ((with_reducible refine oj ?_); refine zau ?_) | (with_reducible refine zst ?_) | (with_reducible refine cExitMiss ?_ ?_; rfl) | (with_reducible refine ok ?_; first | refine ACode.condT rfl ?_ | refine ACode.condF rfl ?_)
          exact cInv ⟨(co, lo), id, ⟨g, hg, by rw [if_neg (fun h => h0 h.2)]; simpa using hgs⟩, LessR.of rfl (by (repeat' first | exact FrSub.nil | refine FrSub.cons rfl (.ofEq rfl) ?_ | refine FrSub.oa rfl rfl ?_ | refine FrSub.consP rfl (.ofEq rfl) (by simp) ?_)) (by simp) .nil rfl rfl hou⟩
      · have hcd : ((Tr.mk o n b ks a).op == 0) = false := by simpa using ho
        repeat' first | ((with_reducible refine oj ?_); refine zau ?_) | (with_reducible refine zst ?_) | (with_reducible refine cExitMiss ?_ ?_; rfl) | (with_reducible refine ok ?_; first | refine ACode.condT rfl ?_ | refine ACode.condF rfl ?_) | ((with_reducible refine oj ?_); first | refine zad ?_ | refine zsu ?_ | refine zne ?_ | refine zeq ?_ | refine zmx ?_ | refine zmn ?_ | refine AOps.unG rfl rfl rfl ?_) | (with_reducible refine oj ?_; refine AOps.splitS rfl rfl rfl rfl (fun hb => ?_) (fun hb => ?_)) | (with_reducible refine ok ?_; first | refine ACode.condS rfl (fun hb => ?_) (fun hb => ?_) | refine ACode.cond rfl (fun hb => ?_) (fun hb => ?_))
        all_goals first
          | (exfalso; rw [hcd] at hb; cases hb; done)
          | exact cInv ⟨(co, lo), id, ⟨g, hg, by rw [if_neg (fun h => ho h.1)]; simpa using hgs⟩, LessR.of rfl (by (repeat' first | exact FrSub.nil | refine FrSub.cons rfl (.ofEq rfl) ?_ | refine FrSub.oa rfl rfl ?_ | refine FrSub.consP rfl (.ofEq rfl) (by simp) ?_)) (by simp) .nil rfl rfl hou⟩
    · obtain ⟨co, lo⟩ := c
      simp only at hc
      clear hgs hg g hou
      have hou : OuOk (ouB cb lb co lo) := ouB_ok _ _ _ _
      repeat first | ((with_reducible refine oj ?_); refine zau ?_) | (with_reducible refine zst ?_) | (with_reducible refine cExitMiss ?_ ?_; rfl) | (with_reducible refine ok ?_; first | refine ACode.condT rfl ?_ | refine ACode.condF rfl ?_)
      refine ACode.loopR hΓ (α := Nat × (Nat × List (Nat × Int × Int)) × (Nat × List (Nat × Int × Unit))) (fun c => [(38, .one (int c.1)), (37, .one (int (encTrs ks).length)), (36, .one (.sl 1 (encTrs ks))), (2, .one (.mp (.o 1))), (1, .one (.mp (.o 0))), (0, .one (.box (cTr (.mk o n b ks a))))])
        (fun c => ⟨0, [], ouB c.2.1.1 c.2.1.2 c.2.2.1 c.2.2.2⟩) (fun m c => c.1 ≤ ks.length ∧ BIs β c.2.1.1 c.2.1.2 ∧ SetIs (S ++ (if o = 0 ∧ β n = 0 then [n] else []) ++ occBs β o b a 0 (ks.take c.1)) c.2.2.1 c.2.2.2 ∧ m = ks.length - c.1)
        (a0 := (0, (cb, lb), (co, lo))) (ρ := id) ⟨by omega, ⟨f, hf, hfb⟩, by simpa [occBs] using hc, rfl⟩ (LessR.of rfl (by (repeat' first | exact FrSub.nil | refine FrSub.cons rfl (.ofEq rfl) ?_ | refine FrSub.oa rfl rfl ?_ | refine FrSub.consP rfl (.ofEq rfl) (by simp) ?_)) (by simp) .nil rfl rfl hou) fun m' c hi => ?_
      clear hc hf hfb f hou
      obtain ⟨i, ⟨cb, lb⟩, co, lo⟩ := c
      obtain ⟨hil, hB, hS, rfl⟩ := hi
      simp only at hil hB hS
      have hou : OuOk (ouB cb lb co lo) := ouB_ok _ _ _ _
      repeat first | ((with_reducible refine oj ?_); refine zau ?_) | (with_reducible refine zst ?_) | (with_reducible refine cExitMiss ?_ ?_; rfl) | (with_reducible refine ok ?_; first | refine ACode.condT rfl ?_ | refine ACode.condF rfl ?_)
      refine ACode.cond rfl (fun hb2 => ?_) (fun hb2 => ?_)
      · have hlt : i < ks.length := by simpa using hb2
        obtain ⟨t, ht⟩ := get_of_lt hlt
        have htm := List.mem_of_getElem? ht
        have hbn := Bound_ok hΓ (.mk o n b ks a) (i : Int) (by omega) ha
        have hll := boundN_len (o := o) (k := (i : Int)) hb hab
        have hsn := occBs_snoc β o b a t (ks.take i) 0
        rw [← take_get ht] at hsn
        have hmin : (ks.take i).length = i := by simp; omega
        rw [hmin, Nat.zero_add] at hsn
        simp only [Tr.op_mk, Tr.binds_mk, Tr.alts_mk] at hbn
        generalize boundN o b a (i : Int) = l at hbn hll hsn
        have hdk := depth_kid (o := o) (n := n) (b := b) (a := a) htm
        repeat first | ((with_reducible refine oj ?_); refine zau ?_) | (with_reducible refine zst ?_) | (with_reducible refine cExitMiss ?_ ?_; rfl) | (with_reducible refine ok ?_; first | refine ACode.condT rfl ?_ | refine ACode.condF rfl ?_)
        refine AOps.step1 rfl rfl rfl (AStep.indexAddr tabOk rfl rfl rfl rfl rfl rfl (.inl rfl) rfl (by omega) (encTrs_get ht)) ?_
        repeat first | ((with_reducible refine oj ?_); refine zau ?_) | (with_reducible refine zst ?_) | (with_reducible refine cExitMiss ?_ ?_; rfl) | (with_reducible refine ok ?_; first | refine ACode.condT rfl ?_ | refine ACode.condF rfl ?_)
        refine AOps.callC hΓ hbn rfl rfl rfl rfl rfl rfl rfl hou (by simp) ?_
        repeat first | ((with_reducible refine oj ?_); refine zau ?_) | (with_reducible refine zst ?_) | (with_reducible refine cExitMiss ?_ ?_; rfl) | (with_reducible refine ok ?_; first | refine ACode.condT rfl ?_ | refine ACode.condF rfl ?_)
        refine ACode.loopR hΓ (α := Nat × Nat × List (Nat × Int × Int)) (fun c => [(48, .one (int c.1)), (47, .one (int (l.map cI).length)), (46, .one (.sl 1 (l.map cI))), (8, .one (.sl 1 (l.map cI))), (7, .one (.box (cTr t))), (38, .one (int i)), (37, .one (int (encTrs ks).length)), (36, .one (.sl 1 (encTrs ks))), (2, .one (.mp (.o 1))), (1, .one (.mp (.o 0))), (0, .one (.box (cTr (.mk o n b ks a))))])
          (fun c => ⟨0, [], ouB c.2.1 c.2.2 co lo⟩) (fun m c => c.1 ≤ l.length ∧ BIs (addB β (l.take c.1)) c.2.1 c.2.2 ∧ m = l.length - c.1) (a0 := (0, cb, lb)) (ρ := id) ⟨by omega, by simpa [BIs, addB] using hB, rfl⟩ (LessR.of rfl (by (repeat' first | exact FrSub.nil | refine FrSub.cons rfl (.ofEq rfl) ?_ | refine FrSub.oa rfl rfl ?_ | refine FrSub.consP rfl (.ofEq rfl) (by simp) ?_)) (by simp) .nil rfl rfl hou) fun m' c hj => ?_
        clear hB hou
        obtain ⟨j, cb, lb⟩ := c
        obtain ⟨hjl, ⟨f, hf, hfb⟩, rfl⟩ := hj
        simp only at hjl hf hfb
        have hou : OuOk (ouB cb lb co lo) := ouB_ok _ _ _ _
        repeat first | ((with_reducible refine oj ?_); refine zau ?_) | (with_reducible refine zst ?_) | (with_reducible refine cExitMiss ?_ ?_; rfl) | (with_reducible refine ok ?_; first | refine ACode.condT rfl ?_ | refine ACode.condF rfl ?_)
        refine ACode.cond rfl (fun hb3 => ?_) (fun hb3 => ?_)
        · have hlt2 : j < l.length := by simpa using hb3
          obtain ⟨q, hq⟩ := get_of_lt hlt2
          have hv := addB_bd (l := l.take j) hβ (by simp; omega) q
          have hdp := depth_pos t
          repeat first | ((with_reducible refine oj ?_); refine zau ?_) | (with_reducible refine zst ?_) | (with_reducible refine cExitMiss ?_ ?_; rfl) | (with_reducible refine ok ?_; first | refine ACode.condT rfl ?_ | refine ACode.condF rfl ?_)
          refine AOps.step1 rfl rfl rfl (AStep.indexAddr tabOk rfl rfl rfl rfl rfl rfl (.inl rfl) rfl (by omega) (map_get hq)) ?_
          repeat first | ((with_reducible refine oj ?_); refine zau ?_) | (with_reducible refine zst ?_) | (with_reducible refine cExitMiss ?_ ?_; rfl) | (with_reducible refine ok ?_; first | refine ACode.condT rfl ?_ | refine ACode.condF rfl ?_)
          refine AOps.step1 rfl rfl rfl (AStep.lookI eN (cm := false) (v := .one (int (addB β (l.take j) q))) rfl Tryd.underlying90 Tryd.underlying3 rfl rfl rfl (by kernel_rfl) zeroN hf (by rw [← hfb q]; cases f q <;> rfl)) ?_
          refine AOps.step1 rfl rfl rfl (AStep.arith rfl rfl rfl (.inl ⟨rfl, rfl⟩) (inRange_i64 (by omega) (by omega))) ?_
          refine AOps.putI eN (v := addB β (l.take j) q + 1) rfl rfl rfl Tryd.underlying90 Tryd.underlying3 rfl rfl rfl rfl hf fun ck' l' hf' => ?_
          repeat' first | ((with_reducible refine oj ?_); refine zau ?_) | (with_reducible refine zst ?_) | (with_reducible refine cExitMiss ?_ ?_; rfl) | (with_reducible refine ok ?_; first | refine ACode.condT rfl ?_ | refine ACode.condF rfl ?_) | ((with_reducible refine oj ?_); first | refine zad ?_ | refine zsu ?_ | refine zne ?_ | refine zeq ?_ | refine zmx ?_ | refine zmn ?_ | refine AOps.unG rfl rfl rfl ?_)
          refine cInv ⟨l.length - (j + 1), (j + 1, ck', l'), id, by omega, ⟨by omega, ⟨_, hf', fun k => ?_⟩, rfl⟩, LessR.of rfl (by (repeat' first | exact FrSub.nil | refine FrSub.cons rfl (.ofEq rfl) ?_ | refine FrSub.oa rfl rfl ?_ | refine FrSub.consP rfl (.ofEq rfl) (by simp) ?_)) (by simp) .nil rfl (ouB_set0 cb ck' lb l' co lo).symm (by rw [show (St.set ⟨0, [], ouB cb lb co lo⟩ (.o 0) (.map ck' (encI eN l'))).ou = ouB ck' l' co lo from ouB_set0 cb ck' lb l' co lo]; exact ouB_ok _ _ _ _)⟩
          rw [BIs.put hfb, addB_succ hq]
        have hlt2 : j = l.length := by simp at hb3; omega
        subst hlt2
        rw [List.take_length] at hfb
        have hcall := ih t htm (addB β l) (m + 1048576) cb lb co lo (S ++ (if o = 0 ∧ β n = 0 then [n] else []) ++ occBs β o b a 0 (ks.take i)) (addB_bd hβ hll) (by omega) ⟨f, hf, hfb⟩ hS
        clear hf hfb f
        repeat first | ((with_reducible refine oj ?_); refine zau ?_) | (with_reducible refine zst ?_) | (with_reducible refine cExitMiss ?_ ?_; rfl) | (with_reducible refine ok ?_; first | refine ACode.condT rfl ?_ | refine ACode.condF rfl ?_)
        refine AOps.call1 hΓ rfl rfl rfl rfl rfl rfl rfl (by simp) hou hcall fun r ou' hq hids hou' => ?_
        obtain ⟨rfl, cb, lb, co, lo, rfl, hB, hS2⟩ := hq
        rw [List.append_assoc, ← hsn] at hS2
        repeat first | ((with_reducible refine oj ?_); refine zau ?_) | (with_reducible refine zst ?_) | (with_reducible refine cExitMiss ?_ ?_; rfl) | (with_reducible refine ok ?_; first | refine ACode.condT rfl ?_ | refine ACode.condF rfl ?_)
        refine ACode.loopR hΓ (α := Nat × Nat × List (Nat × Int × Int)) (fun c => [(63, .one (int c.1)), (62, .one (int (l.map cI).length)), (61, .one (.sl 1 (l.map cI))), (38, .one (int i)), (37, .one (int (encTrs ks).length)), (36, .one (.sl 1 (encTrs ks))), (2, .one (.mp (.o 1))), (1, .one (.mp (.o 0))), (0, .one (.box (cTr (.mk o n b ks a))))])
          (fun c => ⟨0, [], ouB c.2.1 c.2.2 co lo⟩) (fun m c => c.1 ≤ l.length ∧ BIs (addB β (l.drop c.1)) c.2.1 c.2.2 ∧ m = l.length - c.1) (a0 := (0, cb, lb)) (ρ := id) ⟨by omega, by simpa using hB, rfl⟩ (LessR.of rfl (by (repeat' first | exact FrSub.nil | refine FrSub.cons rfl (.ofEq rfl) ?_ | refine FrSub.oa rfl rfl ?_ | refine FrSub.consP rfl (.ofEq rfl) (by simp) ?_)) (by simp) .nil rfl rfl hou') fun m' c hj => ?_
        clear hB hou hou'
        obtain ⟨j, cb, lb⟩ := c
        obtain ⟨hjl, ⟨f, hf, hfb⟩, rfl⟩ := hj
        simp only at hjl hf hfb
        have hou : OuOk (ouB cb lb co lo) := ouB_ok _ _ _ _
        repeat first | ((with_reducible refine oj ?_); refine zau ?_) | (with_reducible refine zst ?_) | (with_reducible refine cExitMiss ?_ ?_; rfl) | (with_reducible refine ok ?_; first | refine ACode.condT rfl ?_ | refine ACode.condF rfl ?_)
        refine ACode.cond rfl (fun hb4 => ?_) (fun hb4 => ?_)
        · have hlt2 : j < l.length := by simpa using hb4
          obtain ⟨q, hq⟩ := get_of_lt hlt2
          have hv := addB_bd (l := l.drop j) hβ (by simp; omega) q
          have hdp := depth_pos t
          repeat first | ((with_reducible refine oj ?_); refine zau ?_) | (with_reducible refine zst ?_) | (with_reducible refine cExitMiss ?_ ?_; rfl) | (with_reducible refine ok ?_; first | refine ACode.condT rfl ?_ | refine ACode.condF rfl ?_)
          refine AOps.step1 rfl rfl rfl (AStep.indexAddr tabOk rfl rfl rfl rfl rfl rfl (.inl rfl) rfl (by omega) (map_get hq)) ?_
          repeat first | ((with_reducible refine oj ?_); refine zau ?_) | (with_reducible refine zst ?_) | (with_reducible refine cExitMiss ?_ ?_; rfl) | (with_reducible refine ok ?_; first | refine ACode.condT rfl ?_ | refine ACode.condF rfl ?_)
          refine AOps.step1 rfl rfl rfl (AStep.lookI eN (cm := false) (v := .one (int (addB β (l.drop j) q))) rfl Tryd.underlying90 Tryd.underlying3 rfl rfl rfl (by kernel_rfl) zeroN hf (by rw [← hfb q]; cases f q <;> rfl)) ?_
          refine AOps.step1 rfl rfl rfl (AStep.arith rfl rfl rfl (.inr (.inl ⟨rfl, rfl⟩)) (inRange_i64 (by omega) (by omega))) ?_
          refine AOps.putI eN (v := addB β (l.drop j) q - 1) rfl rfl rfl Tryd.underlying90 Tryd.underlying3 rfl rfl rfl rfl hf fun ck' l' hf' => ?_
          repeat' first | ((with_reducible refine oj ?_); refine zau ?_) | (with_reducible refine zst ?_) | (with_reducible refine cExitMiss ?_ ?_; rfl) | (with_reducible refine ok ?_; first | refine ACode.condT rfl ?_ | refine ACode.condF rfl ?_) | ((with_reducible refine oj ?_); first | refine zad ?_ | refine zsu ?_ | refine zne ?_ | refine zeq ?_ | refine zmx ?_ | refine zmn ?_ | refine AOps.unG rfl rfl rfl ?_)
          refine cInv ⟨l.length - (j + 1), (j + 1, ck', l'), id, by omega, ⟨by omega, ⟨_, hf', fun k => ?_⟩, rfl⟩, LessR.of rfl (by (repeat' first | exact FrSub.nil | refine FrSub.cons rfl (.ofEq rfl) ?_ | refine FrSub.oa rfl rfl ?_ | refine FrSub.consP rfl (.ofEq rfl) (by simp) ?_)) (by simp) .nil rfl (ouB_set0 cb ck' lb l' co lo).symm (by rw [show (St.set ⟨0, [], ouB cb lb co lo⟩ (.o 0) (.map ck' (encI eN l'))).ou = ouB ck' l' co lo from ouB_set0 cb ck' lb l' co lo]; exact ouB_ok _ _ _ _)⟩
          rw [BIs.put hfb, addB_drop hq]
        · have hlt2 : j = l.length := by simp at hb4; omega
          subst hlt2
          rw [List.drop_length] at hfb
          repeat' first | ((with_reducible refine oj ?_); refine zau ?_) | (with_reducible refine zst ?_) | (with_reducible refine cExitMiss ?_ ?_; rfl) | (with_reducible refine ok ?_; first | refine ACode.condT rfl ?_ | refine ACode.condF rfl ?_) | ((with_reducible refine oj ?_); first | refine zad ?_ | refine zsu ?_ | refine zne ?_ | refine zeq ?_ | refine zmx ?_ | refine zmn ?_ | refine AOps.unG rfl rfl rfl ?_)
          exact cInv ⟨ks.length - (i + 1), (i + 1, (cb, lb), (co, lo)), id, by omega, ⟨by omega, ⟨f, hf, fun k => by rw [hfb k]; simp [addB]⟩, hS2, rfl⟩, LessR.of rfl (by (repeat' first | exact FrSub.nil | refine FrSub.cons rfl (.ofEq rfl) ?_ | refine FrSub.oa rfl rfl ?_ | refine FrSub.consP rfl (.ofEq rfl) (by simp) ?_)) (by simp) .nil rfl rfl hou⟩
      · have hlt : i = ks.length := by simp at hb2; omega
        subst hlt
        rw [List.take_length, List.append_assoc] at hS
        repeat first | ((with_reducible refine oj ?_); refine zau ?_) | (with_reducible refine zst ?_) | (with_reducible refine cExitMiss ?_ ?_; rfl) | (with_reducible refine ok ?_; first | refine ACode.condT rfl ?_ | refine ACode.condF rfl ?_)
        exact AFn.fin' rfl (WkF.refl _) (by simp) hou ⟨rfl, cb, lb, co, lo, rfl, hB, by simpa only [occB] using hS⟩
end Go.Proofs.YtgdionbeeodaaaaDoor
/- Sorted lists without doubles; what occurs freely, in two ways. No condition. -/
namespace Go.CoreX
theorem insertS_mem (n k : Int) : ∀ l : List Int, k ∈ insertS n l ↔ k = n ∨ k ∈ l
  | [] => by simp [insertS]
  | m :: l => by
    simp only [insertS]
    split
    · simp
    · split
      · rename_i h1 h2
        subst h2
        simp
      · simp only [List.mem_cons, insertS_mem n k l]
        constructor
        · rintro (h | h | h) <;> simp [h]
        · rintro (h | h | h) <;> simp [h]
theorem insertS_sorted (n : Int) : ∀ l : List Int, l.Pairwise (· < ·) → (insertS n l).Pairwise (· < ·)
  | [], _ => by simp [insertS]
  | m :: l, h => by
    simp only [List.pairwise_cons] at h
    simp only [insertS]
    split
    · rename_i h1
      simp only [List.pairwise_cons, List.mem_cons, forall_eq_or_imp]
      exact ⟨⟨h1, fun a ha => by have := h.1 a ha; omega⟩, h.1, h.2⟩
    · split
      · simp only [List.pairwise_cons]; exact h
      · rename_i h1 h2
        simp only [List.pairwise_cons]
        refine ⟨fun a ha => ?_, insertS_sorted n l h.2⟩
        rcases (insertS_mem n a l).1 ha with rfl | ha
        · omega
        · exact h.1 a ha
theorem sortS_mem (k : Int) : ∀ l : List Int, k ∈ sortS l ↔ k ∈ l
  | [] => by simp [sortS]
  | n :: l => by
    have ih := sortS_mem k l
    unfold sortS at ih ⊢
    rw [List.foldr_cons, insertS_mem, ih, List.mem_cons]
theorem sortS_sorted : ∀ l : List Int, (sortS l).Pairwise (· < ·)
  | [] => by simp [sortS]
  | n :: l => by
    have ih := sortS_sorted l
    unfold sortS at ih ⊢
    rw [List.foldr_cons]
    exact insertS_sorted n _ ih
theorem strict_unique : ∀ {l r : List Int}, l.Pairwise (· < ·) → r.Pairwise (· < ·) → (∀ k, k ∈ l ↔ k ∈ r) → l = r
  | [], [], _, _, _ => rfl
  | [], b :: r, _, _, h => by have := (h b).2 (by simp); simp at this
  | a :: l, [], _, _, h => by have := (h a).1 (by simp); simp at this
  | a :: l, b :: r, hl, hr, h => by
    simp only [List.pairwise_cons] at hl hr
    have hab : a = b := by
      have h1 := (h a).1 (by simp)
      have h2 := (h b).2 (by simp)
      rcases List.mem_cons.1 h1 with h1 | h1
      · exact h1
      · rcases List.mem_cons.1 h2 with h2 | h2
        · exact h2.symm
        · have := hr.1 a h1
          have := hl.1 b h2
          omega
    subst hab
    congr 1
    refine strict_unique hl.2 hr.2 fun k => ⟨fun hk => ?_, fun hk => ?_⟩
    · rcases List.mem_cons.1 ((h k).1 (List.mem_cons_of_mem _ hk)) with e | e
      · have := hl.1 k hk; omega
      · exact e
    · rcases List.mem_cons.1 ((h k).2 (List.mem_cons_of_mem _ hk)) with e | e
      · have := hr.1 k hk; omega
      · exact e
theorem sort_eq {keys m : List Int} (hn : keys.Nodup) (h : ∀ k, k ∈ keys ↔ k ∈ m) : (keys.mergeSort fun x y => decide (x ≤ y)) = sortS m := by
  have hp := List.mergeSort_perm keys (fun x y : Int => decide (x ≤ y))
  have hs : (keys.mergeSort fun x y => decide (x ≤ y)).Pairwise (fun x y => decide (x ≤ y) = true) := List.pairwise_mergeSort (fun a b c h1 h2 => by simp only [decide_eq_true_eq] at *; omega) (fun a b => by simp only [Bool.or_eq_true, decide_eq_true_eq]; omega) keys
  have hd : (keys.mergeSort fun x y => decide (x ≤ y)).Nodup := hp.nodup_iff.2 hn
  refine strict_unique ?_ (sortS_sorted m) fun k => ?_
  · have := hs.and hd
    refine this.imp fun {a b} hab => ?_
    have h1 := of_decide_eq_true hab.1
    have h2 := hab.2
    omega
  · rw [sortS_mem, ← h k]; exact hp.mem_iff
mutual
theorem occ_eq : ∀ (t : Tr) (sc : List Int) (β : Int → Int), (∀ k, β k = 0 ↔ sc.contains k = false) → (∀ k, 0 ≤ β k) → occT sc t = occB β t
  | .mk o n b k a, sc, β, h, h0 => by
    simp only [occT, occB]
    rw [occs_eq k sc β o b a 0 h h0]
    congr 1
    by_cases e : o = 0 ∧ β n = 0
    · rw [if_pos e, if_pos ⟨e.1, (h n).1 e.2⟩]
    · rw [if_neg e, if_neg (fun h2 => e ⟨h2.1, (h n).2 h2.2⟩)]
theorem occs_eq : ∀ (l : List Tr) (sc : List Int) (β : Int → Int) (o : Int) (b : List Int) (a : List Alt) (i : Nat), (∀ k, β k = 0 ↔ sc.contains k = false) → (∀ k, 0 ≤ β k) → occTs sc o b a i l = occBs β o b a i l
  | [], _, _, _, _, _, _, _, _ => by simp [occTs, occBs]
  | t :: l, sc, β, o, b, a, i, h, h0 => by
    simp only [occTs, occBs]
    rw [occs_eq l sc β o b a (i + 1) h h0, occ_eq t (boundN o b a i ++ sc) (addB β (boundN o b a i)) (fun k => ?_) (fun k => ?_)]
    · unfold addB
      have h1 := h k
      have h2 := h0 k
      have h3 : (boundN o b a i).count k = 0 ↔ (boundN o b a i).contains k = false := by
        rw [List.count_eq_zero]; simp
      simp only [List.contains_eq_mem, List.mem_append, decide_eq_false_iff_not, not_or] at *
      constructor
      · intro h4
        exact ⟨h3.1 (by omega), h1.1 (by omega)⟩
      · rintro ⟨h4, h5⟩
        have := h3.2 h4
        have := h1.2 h5
        omega
    · unfold addB
      have := h0 k
      omega
end
theorem freeOf_occB (t : Tr) : freeOf t = sortS (occB (fun _ => 0) t) := by
  unfold freeOf
  rw [occ_eq t [] (fun _ => 0) (fun k => by simp) (fun k => by simp)]
end Go.CoreX
/- FreeOf, walked; what the sort does is given. -/
namespace Go.CoreX
theorem nodup_le {α : Type} [DecidableEq α] : ∀ {l m : List α}, l.Nodup → (∀ x ∈ l, x ∈ m) → l.length ≤ m.length
  | [], m, _, _ => by simp
  | a :: l, m, hn, h => by
    simp only [List.nodup_cons] at hn
    have ha := h a (by simp)
    have := nodup_le (l := l) (m := m.erase a) hn.2 fun x hx => by
      have hne : x ≠ a := fun e => hn.1 (e ▸ hx)
      exact (List.mem_erase_of_ne hne).2 (h x (by simp [hx]))
    rw [List.length_erase_of_mem ha] at this
    have := List.length_pos_of_mem ha
    simp only [List.length_cons]; omega
mutual
theorem occB_len : ∀ (t : Tr) (β : Int → Int) (out : List Ex), (occB β t).length + out.length ≤ (listT out t).length
  | .mk o n b k a, β, out => by
    have := occBs_len k β o b a 0 out
    simp only [occB, listT, List.length_append, List.length_singleton]
    split <;> simp <;> omega
theorem occBs_len : ∀ (l : List Tr) (β : Int → Int) (o : Int) (b : List Int) (a : List Alt) (i : Nat) (out : List Ex), (occBs β o b a i l).length + out.length ≤ (listTs out l).1.length
  | [], _, _, _, _, _, out => by simp [occBs, listTs]
  | t :: l, β, o, b, a, i, out => by
    have h1 := occB_len t (addB β (boundN o b a i)) out
    have h2 := occBs_len l β o b a (i + 1) (listT out t)
    simp only [occBs, listTs, List.length_append]; omega
end
end Go.CoreX
namespace Go.Proofs.YtgdionbeeodaaaaDoor
open Go Go.Abs Go.CoreX Go.Sort
set_option maxRecDepth 10000
set_option linter.unusedVariables false
set_option linter.unusedSimpArgs false
variable {Γ : List (Nat × List AC)}
def SortOk : Prop := ∀ (blk off cap : Nat) (zs : List Int) (w : World), Holds (Value.int .i64) w blk off zs.toArray → blk < w.heap.size → zs.length < 4611686018427387904 → Calls Tryd.prog 106 #[.slice (some ⟨blk, off, none⟩) zs.length cap] w fun e w' =>
  e = .returned (.tuple #[]) ∧ ∃ n os, w' = grow (putRow (Value.int .i64) (Sort.ahead w n) blk off (zs.mergeSort fun x y => decide (x ≤ y)).toArray) os
def SortNil : Prop := ∀ w : World, Calls Tryd.prog 106 #[.slice none 0 0] w fun e w' => e = .returned (.tuple #[]) ∧ w' = w
theorem sort_enter (us : Array Value) (w : World) : (callFunc 106 us).run Tryd.prog w = .ok (.enter 106 us) w := by
  have h1 : Tryd.prog.funcs[106]? = some Tryd.f106 := Tryd.func106
  simp [callFunc, h1]
  rfl
/-- How many entries are not seen. -/
def leftM (l : List (Nat × Int × Unit)) (seen : List Nat) : Nat := (l.filter fun x => decide (x.1 ∉ seen)).length
theorem leftM_step {l : List (Nat × Int × Unit)} {seen : List Nat} {x : Nat × Int × Unit} (hx : x ∈ l) (hb : x.1 ∉ seen) : leftM l (seen ++ [x.1]) < leftM l seen := by
  unfold leftM
  induction l with
  | nil => cases hx
  | cons y l ih =>
    have hmono : ∀ l : List (Nat × Int × Unit), (l.filter fun z => decide (z.1 ∉ seen ++ [x.1])).length ≤ (l.filter fun z => decide (z.1 ∉ seen)).length := fun l => by
      induction l with
      | nil => simp
      | cons z l ih =>
        simp only [List.filter_cons]
        split <;> split <;> simp_all <;> omega
    simp only [List.filter_cons]
    rcases List.mem_cons.1 hx with rfl | hx
    · have := hmono l
      rw [if_neg (by simp), if_pos (by simpa using hb)]
      simp only [List.length_cons]; omega
    · have := ih hx
      split <;> split <;> simp_all <;> omega
theorem pair_of {l : List (Nat × Int × Unit)} (hk : (l.map (·.2.1)).Nodup) {x y : Nat × Int × Unit} (hx : x ∈ l) (hy : y ∈ l) (h : x.2.1 = y.2.1) : x = y := by
  induction l with
  | nil => cases hx
  | cons z l ih =>
    simp only [List.map_cons, List.nodup_cons] at hk
    rcases List.mem_cons.1 hx with e1 | h1
    · rcases List.mem_cons.1 hy with e2 | h2
      · rw [e1, e2]
      · exact absurd (List.mem_map.2 ⟨y, h2, by rw [← h, e1]⟩ : z.2.1 ∈ l.map (·.2.1)) hk.1
    · rcases List.mem_cons.1 hy with e2 | h2
      · exact absurd (List.mem_map.2 ⟨x, h1, by rw [h, e2]⟩ : z.2.1 ∈ l.map (·.2.1)) hk.1
      · exact ih hk.2 h1 h2
theorem keys_nodup {l zs : List (Nat × Int × Unit)} (hk : (l.map (·.2.1)).Nodup) : ∀ {zs : List (Nat × Int × Unit)}, (∀ x ∈ zs, x ∈ l) → (zs.map (·.1)).Nodup → (zs.map (·.2.1)).Nodup
  | [], _, _ => by simp
  | x :: zs, h, hn => by
    simp only [List.map_cons, List.nodup_cons] at hn ⊢
    refine ⟨fun hm => ?_, keys_nodup (zs := zs) hk (fun y hy => h y (by simp [hy])) hn.2⟩
    obtain ⟨y, hy, e⟩ := List.mem_map.1 hm
    have := pair_of hk (h x (by simp)) (h y (by simp [hy])) e.symm
    exact hn.1 (List.mem_map.2 ⟨y, hy, by rw [this]⟩)
@[simp] theorem ids_vecI (p : Abs.Id → Prop) (l : List Int) (cap : Nat) : idsL p (vec 1 (l.map cI) cap) := by
  unfold vec
  have e : (l.map cI).flatten = l.map int := by
    induction l with
    | nil => rfl
    | cons n l ih => simp only [List.map_cons, List.flatten_cons, ih]; rfl
  rw [e]
  refine idsL_app (ids_ints p l) ?_
  generalize (cap - (l.map cI).length) * 1 = q
  induction q with
  | zero => simp
  | succ q ih => rw [List.replicate_succ]; exact ⟨trivial, ih⟩
@[simp] theorem sub_mapU (θ : Abs.Id → Abs.Id) (ck : Nat) (l : List (Nat × Int × Unit)) : AObj.sub θ (.map ck (encI eU l)) = .map ck (encI eU l) := by
  simp [AObj.sub, encI, eU, FV.sub, subL, Function.comp_def]
theorem encI_born {β : Type} {enc : β → FV} {f : Int → Option β} {ck : Nat} {l : List (Nat × Int × β)} (h : IMOk f ck l) : ∀ x ∈ encI enc l, x.1 < ck := fun x hx => by
  simp only [encI, List.mem_map] at hx
  obtain ⟨y, hy, rfl⟩ := hx
  exact h.born y hy
theorem encI_key {β : Type} {enc : β → FV} {l : List (Nat × Int × β)} : ∀ x ∈ encI enc l, x.2.1.oneCell' = true := fun x hx => by
  simp only [encI, List.mem_map] at hx
  obtain ⟨y, hy, rfl⟩ := hx
  rfl
theorem encI_find {β : Type} {enc : β → FV} : ∀ {l : List (Nat × Int × β)} {x : Nat × Int × β}, (l.map (·.1)).Nodup → x ∈ l → (encI enc l).find? (fun y => y.1 == x.1) = some (x.1, .int .i64 x.2.1, enc x.2.2)
  | y :: l, x, hn, hx => by
    simp only [List.map_cons, List.nodup_cons] at hn
    rcases List.mem_cons.1 hx with rfl | h
    · simp [encI]
    · have hne : y.1 ≠ x.1 := fun e => hn.1 (List.mem_map.2 ⟨_, h, e.symm⟩)
      have := encI_find (enc := enc) hn.2 h
      simp only [encI, List.map_cons, List.find?_cons] at this ⊢
      rw [beq_eq_false_iff_ne.2 hne]
      exact this
theorem born_inj' {l : List (Nat × Int × Unit)} (hk : (l.map (·.1)).Nodup) {x y : Nat × Int × Unit} (hx : x ∈ l) (hy : y ∈ l) (h : x.1 = y.1) : x = y := by
  induction l with
  | nil => cases hx
  | cons z l ih =>
    simp only [List.map_cons, List.nodup_cons] at hk
    rcases List.mem_cons.1 hx with e1 | h1
    · rcases List.mem_cons.1 hy with e2 | h2
      · rw [e1, e2]
      · exact absurd (List.mem_map.2 ⟨y, h2, by rw [← h, e1]⟩ : z.1 ∈ l.map (·.1)) hk.1
    · rcases List.mem_cons.1 hy with e2 | h2
      · exact absurd (List.mem_map.2 ⟨x, h1, by rw [h, e2]⟩ : z.1 ∈ l.map (·.1)) hk.1
      · exact ih hk.2 h1 h2
theorem key_some {f : Int → Option Unit} {ck : Nat} {l : List (Nat × Int × Unit)} (h : IMOk f ck l) (k : Int) : (f k).isSome = true ↔ ∃ x ∈ l, x.2.1 = k := by
  rw [← h.look k]
  cases hf : l.find? (fun x => x.2.1 == k) with
  | none =>
    simp only [Option.map_none, Option.isSome_none, Bool.false_eq_true, false_iff]
    rintro ⟨x, hx, e⟩
    have := List.find?_eq_none.1 hf x hx
    simp [e] at this
  | some x =>
    simp only [Option.map_some, Option.isSome_some, true_iff]
    have h1 := List.find?_some hf
    exact ⟨x, List.mem_of_find?_eq_some hf, by simpa using h1⟩
def keyL (zs : List (Nat × Int × Unit)) : List Int := zs.map (·.2.1)
def bornL (zs : List (Nat × Int × Unit)) : List Nat := zs.map (·.1)
set_option maxHeartbeats 1000000 in
theorem FreeOf_ok (hΓ : ∀ g cs, (g, cs) ∈ Γ → idsL isO cs) (hΓF : ∀ g cs, (g, cs) ∈ Γ → idsL (fun _ => False) cs) (hs : SortOk) (hn : SortNil) (t : Tr) (ht : okT t) (hd : depthT t ≤ 1048576) (hsz : (listT [] t).length ≤ 1048576) :
    APure Tryd.prog Γ 77 [.one (.box (cTr t))] (.one (.sl 1 ((freeOf t).map cI))) := by
  intro ou
  refine AFn.walk 24 tabOk Tryd.func77 rfl (by kernel_rfl) rfl rfl fun hou => ?_
  repeat first | ((with_reducible refine oj ?_); refine zau ?_) | (with_reducible refine zst ?_) | (with_reducible refine cExitMiss ?_ ?_; rfl) | (with_reducible refine ok ?_; first | refine ACode.condT rfl ?_ | refine ACode.condF rfl ?_)
  refine AOps.step1 rfl rfl rfl (AStep.makeMap rfl) ?_
  repeat first | ((with_reducible refine oj ?_); refine zau ?_) | (with_reducible refine zst ?_) | (with_reducible refine cExitMiss ?_ ?_; rfl) | (with_reducible refine ok ?_; first | refine ACode.condT rfl ?_ | refine ACode.condF rfl ?_)
  refine AOps.step1 rfl rfl rfl (AStep.makeMap rfl) ?_
  repeat first | ((with_reducible refine oj ?_); refine zau ?_) | (with_reducible refine zst ?_) | (with_reducible refine cExitMiss ?_ ?_; rfl) | (with_reducible refine ok ?_; first | refine ACode.condT rfl ?_ | refine ACode.condF rfl ?_)
  refine AOps.callR [.l 1, .l 0] [.one (.box (cTr t)), .one (.mp (.o 0)), .one (.mp (.o 1))] [.map 0 (encI eN []), .map 0 (encI eU [])] hΓF rfl rfl rfl rfl rfl rfl ?_ ?_ ?_ ?_ ?_ (free_ok hΓ t ht (fun _ => 0) 0 0 [] 0 [] [] (fun k => by simp) (by omega) ⟨_, IMOk.nil, fun k => rfl⟩ SetIs.nil) ?_
  · simp [subF, FV.sub, AC.sub, nameOf]
    exact ⟨(subL_pure _ _ (by simp)).symm, rfl⟩
  · simp [inO]
  · simp
  · exact ⟨rfl, rfl, trivial⟩
  · simp [inO]
  intro r ou' hq
  obtain ⟨rfl, cb, lb, co, lo, rfl, hB, g, hg, hgs⟩ := hq
  rw [List.nil_append] at hgs
  refine ⟨[.map cb (encI eN lb), .map co (encI eU lo)], rfl, rfl, by simp [inO], by simp, ?_⟩
  repeat first | ((with_reducible refine oj ?_); refine zau ?_) | (with_reducible refine zst ?_) | (with_reducible refine cExitMiss ?_ ?_; rfl) | (with_reducible refine ok ?_; first | refine ACode.condT rfl ?_ | refine ACode.condF rfl ?_)
  refine AOps.step1 rfl rfl rfl (AStep.rangeMap rfl Tryd.underlying137 rfl rfl) ?_
  repeat first | ((with_reducible refine oj ?_); refine zau ?_) | (with_reducible refine zst ?_) | (with_reducible refine cExitMiss ?_ ?_; rfl) | (with_reducible refine ok ?_; first | refine ACode.condT rfl ?_ | refine ACode.condF rfl ?_)
  refine ACode.loopR hΓ (α := List (Nat × Int × Unit) × Option Nat) (fun a => [(12, .one (.ptr (.l 2) 0)), (4, match a.2 with | none => .one (.lit (.slice none 0 0)) | some cap => .one (.arr (.l 3) 1 0 ((keyL a.1).map cI).length cap))])
    (fun a => match a.2 with | none => ⟨3, [(2, .iter (.l 0) co (bornL a.1) co), (0, .map co (encI eU lo))], ou⟩ | some cap => ⟨4, [(3, .cells (vec 1 ((keyL a.1).map cI) cap)), (2, .iter (.l 0) co (bornL a.1) co), (0, .map co (encI eU lo))], ou⟩)
    (fun m a => (∀ x ∈ a.1, x ∈ lo) ∧ (bornL a.1).Nodup ∧ (match a.2 with | none => a.1 = [] | some cap => a.1.length ≤ cap) ∧ m = leftM lo (bornL a.1)) (a0 := ([], none)) (ρ := id) ⟨by simp, by simp [bornL], rfl, rfl⟩ (LessR.of rfl ?_ ?_ ?_ rfl rfl hou) fun m a hj => ?_
  · (repeat' first | exact FrSub.nil | refine FrSub.cons rfl (.ofEq rfl) ?_ | refine FrSub.oa rfl rfl ?_ | refine FrSub.consP rfl (.ofEq rfl) (by simp) ?_)
  · simp
  · repeat' first | exact LoSub.nil | refine LoSub.cons rfl ?_ rfl (by first | (simp; done) | exact ids_oaO (by simp)) ?_ | rfl | (refine (AObj.ren_pure _ _ ?_).symm; simp; done) | exact (ren_oaO _ _ _ _ fun _ => ids_vec (by simp; done)).symm | (simp [AObj.ren, renL, AC.ren]; done) | (simp [AObj.ren, renL, AC.ren]; rfl)
    all_goals (rw [sub_mapU, ren_mapU])
  obtain ⟨zs, oc⟩ := a
  obtain ⟨hzs, hnd, hcap, rfl⟩ := hj
  simp only at hzs hnd hcap
  have hin : ∀ k, k ∈ keyL zs → k ∈ occB (fun _ => 0) t := fun k hk => by
    obtain ⟨x, hx, rfl⟩ := List.mem_map.1 hk
    have h1 := (key_some hg x.2.1).2 ⟨x, hzs x hx, rfl⟩
    rw [hgs] at h1
    simpa using h1
  have hkn : (keyL zs).Nodup := keys_nodup (zs := zs) hg.nk hzs hnd
  have hkl : (keyL zs).length ≤ 1048576 := by
    have h1 := nodup_le hkn hin
    have h2 := occB_len t (fun _ => 0) []
    simp at h2
    omega
  have hend' : (∀ x ∈ encI eU lo, x.1 ∈ bornL zs) → (keyL zs).mergeSort (fun x y => decide (x ≤ y)) = freeOf t := fun hend => by
    rw [freeOf_occB]
    refine sort_eq hkn fun k => ⟨hin k, fun hk => ?_⟩
    have h1 : (g k).isSome = true := by rw [hgs]; simpa using hk
    obtain ⟨x, hx, rfl⟩ := (key_some hg k).1 h1
    have h2 := hend (x.1, .int .i64 x.2.1, eU x.2.2) (List.mem_map.2 ⟨x, hx, rfl⟩)
    obtain ⟨y, hy, e⟩ := List.mem_map.1 h2
    have := born_inj' hg.nb (hzs y hy) hx e
    subst this
    exact List.mem_map.2 ⟨y, hy, rfl⟩
  cases oc with
  | none =>
    subst hcap
    repeat first | ((with_reducible refine oj ?_); refine zau ?_) | (with_reducible refine zst ?_) | (with_reducible refine cExitMiss ?_ ?_; rfl) | (with_reducible refine ok ?_; first | refine ACode.condT rfl ?_ | refine ACode.condF rfl ?_)
    refine AOps.nextMap rfl rfl rfl rfl rfl rfl rfl (encI_born hg) (Nat.le_refl _) encI_key (fun hend => ?_) (fun b u v hmem hnew => ?_)
    · repeat first | ((with_reducible refine oj ?_); refine zau ?_) | (with_reducible refine zst ?_) | (with_reducible refine cExitMiss ?_ ?_; rfl) | (with_reducible refine ok ?_; first | refine ACode.condT rfl ?_ | refine ACode.condF rfl ?_)
      refine AOps.callNo rfl rfl rfl rfl rfl rfl sort_enter hn ?_
      repeat first | ((with_reducible refine oj ?_); refine zau ?_) | (with_reducible refine zst ?_) | (with_reducible refine cExitMiss ?_ ?_; rfl) | (with_reducible refine ok ?_; first | refine ACode.condT rfl ?_ | refine ACode.condF rfl ?_)
      have h1 := hend' hend
      refine APure.fin rfl (.trans (.one (.nilS 1)) (.ofEq ?_)) (by simp) hou rfl
      rw [← h1]; simp [keyL]
    · obtain ⟨rfl, x, hx, rfl, rfl, _⟩ := (mem_encU _ _ _ _).1 hmem
      obtain ⟨bx, k, ⟨⟩⟩ := x
      repeat first | ((with_reducible refine oj ?_); refine zau ?_) | (with_reducible refine zst ?_) | (with_reducible refine cExitMiss ?_ ?_; rfl) | (with_reducible refine ok ?_; first | refine ACode.condT rfl ?_ | refine ACode.condF rfl ?_)
      refine AOps.step1 rfl rfl rfl (AStep.entry (last := 0) (u := .int .i64 k) (v := .agg []) rfl rfl rfl rfl (encI_find hg.nb hx) rfl) ?_
      repeat first | ((with_reducible refine oj ?_); refine zau ?_) | (with_reducible refine zst ?_) | (with_reducible refine cExitMiss ?_ ?_; rfl) | (with_reducible refine ok ?_; first | refine ACode.condT rfl ?_ | refine ACode.condF rfl ?_)
      refine AOps.appOwn tabOk rfl rfl rfl rfl rfl rfl rfl rfl rfl (.nil 1) (.sl 1 [cI k]) (by simp) rfl (by simp; show 1 * 8 ≤ _; omega) (by simp) fun cap hc => ?_
      repeat' first | ((with_reducible refine oj ?_); refine zau ?_) | (with_reducible refine zst ?_) | (with_reducible refine cExitMiss ?_ ?_; rfl) | (with_reducible refine ok ?_; first | refine ACode.condT rfl ?_ | refine ACode.condF rfl ?_) | ((with_reducible refine oj ?_); first | refine zad ?_ | refine zsu ?_ | refine zne ?_ | refine zeq ?_ | refine zmx ?_ | refine zmn ?_ | refine AOps.unG rfl rfl rfl ?_)
      refine cInv ⟨leftM lo (bornL [(bx, k, ())]), ([(bx, k, ())], some cap), id, leftM_step (x := (bx, k, ())) hx hnew, ⟨by simpa using hx, by simp [bornL], by simpa using hc, rfl⟩, LessR.of rfl ?_ (by simp) ?_ rfl rfl hou⟩
      · exact FrSub.cons rfl (.ofEq rfl) (FrSub.cons rfl (.ofEq rfl) .nil)
      · refine LoSub.cons rfl ?_ rfl (by simp) (LoSub.cons rfl ?_ rfl (by simp) (LoSub.cons rfl (ren_mapU _ _ _).symm rfl (by simp) .nil))
        · rw [AObj.ren_pure _ _ (by simp)]; simp [keyL]
        · simp [AObj.ren, bornL]; rfl
  | some cap =>
    repeat first | ((with_reducible refine oj ?_); refine zau ?_) | (with_reducible refine zst ?_) | (with_reducible refine cExitMiss ?_ ?_; rfl) | (with_reducible refine ok ?_; first | refine ACode.condT rfl ?_ | refine ACode.condF rfl ?_)
    refine AOps.nextMap rfl rfl rfl rfl rfl rfl rfl (encI_born hg) (Nat.le_refl _) encI_key (fun hend => ?_) (fun b u v hmem hnew => ?_)
    · have h1 := hend' hend
      repeat first | ((with_reducible refine oj ?_); refine zau ?_) | (with_reducible refine zst ?_) | (with_reducible refine cExitMiss ?_ ?_; rfl) | (with_reducible refine ok ?_; first | refine ACode.condT rfl ?_ | refine ACode.condF rfl ?_)
      refine AOps.wk 21 rfl (y := .one (.arr (.l 3) 1 0 (keyL zs).length cap)) (.ofEq (by simp)) ?_
      refine AOps.sortI (l := keyL zs) rfl rfl rfl rfl rfl rfl sort_enter hs rfl (by omega) ?_
      rw [h1]
      refine AOps.wk 4 rfl (y := .one (.arr (.l 3) 1 0 ((freeOf t).map iC).length cap)) (.ofEq (by rw [← h1]; simp)) ?_
      refine AOps.freezeArr (.l 3) 4 rfl (by simp) rfl ?_
      repeat first | ((with_reducible refine oj ?_); refine zau ?_) | (with_reducible refine zst ?_) | (with_reducible refine cExitMiss ?_ ?_; rfl) | (with_reducible refine ok ?_; first | refine ACode.condT rfl ?_ | refine ACode.condF rfl ?_)
      exact APure.fin rfl (WkF.ofEq rfl) (by simp) hou rfl
    · obtain ⟨rfl, x, hx, rfl, rfl, _⟩ := (mem_encU _ _ _ _).1 hmem
      obtain ⟨bx, k, ⟨⟩⟩ := x
      repeat first | ((with_reducible refine oj ?_); refine zau ?_) | (with_reducible refine zst ?_) | (with_reducible refine cExitMiss ?_ ?_; rfl) | (with_reducible refine ok ?_; first | refine ACode.condT rfl ?_ | refine ACode.condF rfl ?_)
      refine AOps.step1 rfl rfl rfl (AStep.entry (last := 0) (u := .int .i64 k) (v := .agg []) rfl rfl rfl rfl (encI_find hg.nb hx) rfl) ?_
      repeat first | ((with_reducible refine oj ?_); refine zau ?_) | (with_reducible refine zst ?_) | (with_reducible refine cExitMiss ?_ ?_; rfl) | (with_reducible refine ok ?_; first | refine ACode.condT rfl ?_ | refine ACode.condF rfl ?_)
      have hzl : ((keyL zs).map cI).length = zs.length := by simp [keyL]
      refine AOps.appOwn tabOk rfl rfl rfl rfl rfl rfl rfl rfl rfl (.own 1 cap ((keyL zs).map cI) (.l 3) rfl (by simp [cI]) (by rw [hzl]; exact hcap)) (.sl 1 [cI k]) (by simp) rfl (by simp; show (_ + 1) * 8 ≤ _; omega) (by simp; omega) fun cap' hc => ?_
      repeat' first | ((with_reducible refine oj ?_); refine zau ?_) | (with_reducible refine zst ?_) | (with_reducible refine cExitMiss ?_ ?_; rfl) | (with_reducible refine ok ?_; first | refine ACode.condT rfl ?_ | refine ACode.condF rfl ?_) | ((with_reducible refine oj ?_); first | refine zad ?_ | refine zsu ?_ | refine zne ?_ | refine zeq ?_ | refine zmx ?_ | refine zmn ?_ | refine AOps.unG rfl rfl rfl ?_)
      refine cInv ⟨leftM lo (bornL (zs ++ [(bx, k, ())])), (zs ++ [(bx, k, ())], some cap'), fun k => if k = 3 then 4 else k, by have := leftM_step (x := (bx, k, ())) hx hnew; simpa [bornL] using this, ⟨?_, ?_, by simpa [keyL] using hc, rfl⟩, LessR.of rfl ?_ (by simp) ?_ rfl rfl hou⟩
      · intro y hy
        rcases List.mem_append.1 hy with hy | hy
        · exact hzs y hy
        · simp at hy; subst hy; exact hx
      · simp only [bornL, List.map_append, List.map_cons, List.map_nil]
        rw [List.nodup_append]
        refine ⟨hnd, by simp, fun a ha b hb e => ?_⟩
        simp at hb
        subst hb; subst e
        exact hnew ha
      · exact FrSub.cons rfl (.ofEq rfl) (FrSub.cons rfl (.ofEq (by simp [keyL, FV.ren, AC.ren]; rfl)) .nil)
      · refine LoSub.cons rfl ?_ rfl (by simp) (LoSub.cons rfl ?_ rfl (by simp) (LoSub.cons rfl (ren_mapU _ _ _).symm rfl (by simp) .nil))
        · rw [AObj.ren_pure _ _ (by simp)]; simp [keyL]
        · simp [AObj.ren, bornL]; rfl
end Go.Proofs.YtgdionbeeodaaaaDoor
/- Lists of numbers held against each other, walked; what a tree equal to another one gives. -/
namespace Go.CoreX
end Go.CoreX
namespace Go.Proofs.YtgdionbeeodaaaaDoor
open Go Go.Abs Go.CoreX
set_option maxRecDepth 10000
set_option linter.unusedVariables false
set_option linter.unusedSimpArgs false
variable {Γ : List (Nat × List AC)}
theorem ints_ne {xs ys : List Int} {j : Nat} {x y : Int} (h1 : xs[j]? = some x) (h2 : ys[j]? = some y) (h : x ≠ y) : (xs == ys) = false := by
  apply beq_eq_false_iff_ne.2
  rintro rfl
  rw [h1] at h2
  exact h (by simpa using h2)
theorem ints_eq {xs ys : List Int} (hl : xs.length = ys.length) (h : ∀ (j : Nat) (x y : Int), xs[j]? = some x → ys[j]? = some y → x = y) : (xs == ys) = true := by
  rw [beq_iff_eq]
  refine List.ext_getElem hl fun i h1 h2 => h i _ _ (List.getElem?_eq_getElem h1) (List.getElem?_eq_getElem h2)
theorem SameInts_ok (hΓ : ∀ g cs, (g, cs) ∈ Γ → idsL isO cs) (xs ys : List Int) (hx : xs.length ≤ 1048576) :
    APure Tryd.prog Γ 55 [.one (.sl 1 (xs.map cI)), .one (.sl 1 (ys.map cI))] (.one (.lit (.bool (xs == ys)))) := by
  intro ou
  refine AFn.walk 26 tabOk Tryd.func55 rfl (by kernel_rfl) rfl rfl fun hou => ?_
  repeat first | ((with_reducible refine oj ?_); refine zau ?_) | (with_reducible refine zst ?_) | (with_reducible refine cExitMiss ?_ ?_; rfl) | (with_reducible refine ok ?_; first | refine ACode.condT rfl ?_ | refine ACode.condF rfl ?_)
  refine ACode.cond rfl (fun hb => ?_) (fun hb => ?_)
  · repeat first | ((with_reducible refine oj ?_); refine zau ?_) | (with_reducible refine zst ?_) | (with_reducible refine cExitMiss ?_ ?_; rfl) | (with_reducible refine ok ?_; first | refine ACode.condT rfl ?_ | refine ACode.condF rfl ?_)
    refine APure.fin rfl (WkF.ofEq ?_) (by simp) hou rfl
    have : (xs == ys) = false := by
      apply beq_eq_false_iff_ne.2
      rintro rfl
      simp at hb
    rw [this]
  have hl : xs.length = ys.length := by simp at hb; omega
  clear hb
  repeat first | ((with_reducible refine oj ?_); refine zau ?_) | (with_reducible refine zst ?_) | (with_reducible refine cExitMiss ?_ ?_; rfl) | (with_reducible refine ok ?_; first | refine ACode.condT rfl ?_ | refine ACode.condF rfl ?_)
  refine ACode.loopR hΓ (α := Nat) (fun j => [(13, .one (int j)), (12, .one (int (xs.map cI).length)), (1, .one (.sl 1 (ys.map cI))), (0, .one (.sl 1 (xs.map cI)))])
    (fun j => ⟨0, [], ou⟩) (fun m j => j ≤ xs.length ∧ (∀ (i : Nat) (x y : Int), i < j → xs[i]? = some x → ys[i]? = some y → x = y) ∧ m = xs.length - j) (a0 := 0) (ρ := id) ⟨by omega, fun i x y h => by omega, rfl⟩ (LessR.of rfl (by (repeat' first | exact FrSub.nil | refine FrSub.cons rfl (.ofEq rfl) ?_ | refine FrSub.oa rfl rfl ?_ | refine FrSub.consP rfl (.ofEq rfl) (by simp) ?_)) (by simp) (by repeat' first | exact LoSub.nil | refine LoSub.cons rfl ?_ rfl (by first | (simp; done) | exact ids_oaO (by simp)) ?_ | rfl | (refine (AObj.ren_pure _ _ ?_).symm; simp; done) | exact (ren_oaO _ _ _ _ fun _ => ids_vec (by simp; done)).symm | (simp [AObj.ren, renL, AC.ren]; done) | (simp [AObj.ren, renL, AC.ren]; rfl)) rfl rfl hou) fun m j hj => ?_
  obtain ⟨hjl, hno, rfl⟩ := hj
  repeat first | ((with_reducible refine oj ?_); refine zau ?_) | (with_reducible refine zst ?_) | (with_reducible refine cExitMiss ?_ ?_; rfl) | (with_reducible refine ok ?_; first | refine ACode.condT rfl ?_ | refine ACode.condF rfl ?_)
  refine ACode.cond rfl (fun hb2 => ?_) (fun hb2 => ?_)
  · have hlt : j < xs.length := by simpa using hb2
    obtain ⟨x, hx1⟩ := get_of_lt hlt
    obtain ⟨y, hy1⟩ := get_of_lt (l := ys) (i := j) (by omega)
    repeat first | ((with_reducible refine oj ?_); refine zau ?_) | (with_reducible refine zst ?_) | (with_reducible refine cExitMiss ?_ ?_; rfl) | (with_reducible refine ok ?_; first | refine ACode.condT rfl ?_ | refine ACode.condF rfl ?_)
    refine ACode.drawX tabOk 8 [(2, .one (.box (cI x))), (6, .one (.box (cI y)))] follows (by kernel_rfl) rfl rfl rfl rfl ?_ ?_
    · refine .step rfl (HStep.plain rfl (AStep.indexAddr tabOk rfl rfl rfl rfl rfl rfl (.inl rfl) rfl (by omega) (map_get hx1))) ?_
      exact .step rfl (HStep.plain rfl (AStep.indexAddr tabOk rfl rfl rfl rfl rfl rfl (.inl rfl) rfl (by omega) (map_get hy1))) .nil
    repeat first | ((with_reducible refine oj ?_); refine zau ?_) | (with_reducible refine zst ?_) | (with_reducible refine cExitMiss ?_ ?_; rfl) | (with_reducible refine ok ?_; first | refine ACode.condT rfl ?_ | refine ACode.condF rfl ?_)
    refine ACode.cond rfl (fun hb3 => ?_) (fun hb3 => ?_)
    · have hne : x ≠ y := by simpa using hb3
      repeat first | ((with_reducible refine oj ?_); refine zau ?_) | (with_reducible refine zst ?_) | (with_reducible refine cExitMiss ?_ ?_; rfl) | (with_reducible refine ok ?_; first | refine ACode.condT rfl ?_ | refine ACode.condF rfl ?_)
      refine APure.fin rfl (WkF.ofEq ?_) (by simp) hou rfl
      rw [ints_ne hx1 hy1 hne]
    · have he : x = y := by simpa using hb3
      repeat' first | ((with_reducible refine oj ?_); refine zau ?_) | (with_reducible refine zst ?_) | (with_reducible refine cExitMiss ?_ ?_; rfl) | (with_reducible refine ok ?_; first | refine ACode.condT rfl ?_ | refine ACode.condF rfl ?_) | ((with_reducible refine oj ?_); first | refine zad ?_ | refine zsu ?_ | refine zne ?_ | refine zeq ?_ | refine zmx ?_ | refine zmn ?_ | refine AOps.unG rfl rfl rfl ?_)
      refine cInv ⟨xs.length - (j + 1), j + 1, id, by omega, ⟨by omega, fun i x' y' hi h1 h2 => ?_, rfl⟩, LessR.of rfl (by (repeat' first | exact FrSub.nil | refine FrSub.cons rfl (.ofEq rfl) ?_ | refine FrSub.oa rfl rfl ?_ | refine FrSub.consP rfl (.ofEq rfl) (by simp) ?_)) (by simp) (by repeat' first | exact LoSub.nil | refine LoSub.cons rfl ?_ rfl (by first | (simp; done) | exact ids_oaO (by simp)) ?_ | rfl | (refine (AObj.ren_pure _ _ ?_).symm; simp; done) | exact (ren_oaO _ _ _ _ fun _ => ids_vec (by simp; done)).symm | (simp [AObj.ren, renL, AC.ren]; done) | (simp [AObj.ren, renL, AC.ren]; rfl)) rfl rfl hou⟩
      by_cases e : i = j
      · subst e
        rw [hx1] at h1; rw [hy1] at h2
        cases h1; cases h2; exact he
      · exact hno i x' y' (by omega) h1 h2
  · have hlt : j = xs.length := by simp at hb2; omega
    subst hlt
    repeat first | ((with_reducible refine oj ?_); refine zau ?_) | (with_reducible refine zst ?_) | (with_reducible refine cExitMiss ?_ ?_; rfl) | (with_reducible refine ok ?_; first | refine ACode.condT rfl ?_ | refine ACode.condF rfl ?_)
    refine APure.fin rfl (WkF.ofEq ?_) (by simp) hou rfl
    rw [ints_eq hl fun i x y h1 h2 => hno i x y (List.getElem?_eq_some_iff.1 h1).1 h1 h2]
end Go.Proofs.YtgdionbeeodaaaaDoor
/- same, walked: where it says that two trees are equal. -/
namespace Go.Proofs.YtgdionbeeodaaaaDoor
open Go Go.Abs Go.CoreX
set_option maxRecDepth 10000
set_option linter.unusedVariables false
set_option linter.unusedSimpArgs false
variable {Γ : List (Nat × List AC)}
def ouN (ck : Nat) (l : List (Nat × Int × Int)) : Outer := ouOf [.map ck (encI eN l)]
def SameOk (Γ : List (Nat × List AC)) (a b : Tr) : Prop := ∀ (m : Nm) (ck : Nat) (l : List (Nat × Int × Int)), IMOk m ck l → (sameT a b m).1 = true →
  AFn Tryd.prog Γ 90 [.one (.box (cTr a)), .one (.box (cTr b)), .one (.mp (.o 0))] (ouN ck l) (fun r ou' => r = .one (.lit (.bool true)) ∧ ∃ ck' l', ou' = ouN ck' l' ∧ IMOk (sameT a b m).2 ck' l')
end Go.Proofs.YtgdionbeeodaaaaDoor
/- What the library's sort of numbers does at this program: the kit's contracts, laid. No condition. -/
namespace Go.Proofs
open Go.Shelf
def Tryd.lays189_ren : Go.Shelf.Ren := ⟨fun | 189 => 106 | 125 => 101 | 257 => 130 | 128 => 126 | 129 => 127 | 294 => 138 | 295 => 139 | 296 => 140 | 297 => 141 | 298 => 142 | 299 => 143 | 216 => 144 | 300 => 145 | 301 => 146 | 328 => 149 | 329 => 132 | 330 => 133 | 331 => 150 | 332 => 151 | 215 => 102 | 343 => 152 | n => n, fun | 28 => 35 | 3 => 3 | 46 => 135 | 0 => 0 | 51 => 154 | 53 => 156 | 4 => 4 | 183 => 148 | 182 => 147 | 131 => 127 | 5 => 5 | 9 => 9 | 218 => 160 | 222 => 164 | 228 => 174 | 229 => 175 | n => n, fun | n => n⟩
theorem Tryd.lays189 : Go.Proofs.Lays.n189 Tryd.prog Tryd.lays189_ren := {
  mixed := by kernel_rfl
  f125 := Tryd.func101.trans (congrArg some (by kernel_rfl))
  f128 := Tryd.func126.trans (congrArg some (by kernel_rfl))
  f129 := Tryd.func127.trans (congrArg some (by kernel_rfl))
  f189 := Tryd.func106.trans (congrArg some (by kernel_rfl))
  f215 := Tryd.func102.trans (congrArg some (by kernel_rfl))
  f216 := Tryd.func144.trans (congrArg some (by kernel_rfl))
  f257 := Tryd.func130.trans (congrArg some (by kernel_rfl))
  f294 := Tryd.func138.trans (congrArg some (by kernel_rfl))
  f295 := Tryd.func139.trans (congrArg some (by kernel_rfl))
  f296 := Tryd.func140.trans (congrArg some (by kernel_rfl))
  f297 := Tryd.func141.trans (congrArg some (by kernel_rfl))
  f298 := Tryd.func142.trans (congrArg some (by kernel_rfl))
  f299 := Tryd.func143.trans (congrArg some (by kernel_rfl))
  f300 := Tryd.func145.trans (congrArg some (by kernel_rfl))
  f301 := Tryd.func146.trans (congrArg some (by kernel_rfl))
  f328 := Tryd.func149.trans (congrArg some (by kernel_rfl))
  f329 := Tryd.func132.trans (congrArg some (by kernel_rfl))
  f330 := Tryd.func133.trans (congrArg some (by kernel_rfl))
  f331 := Tryd.func150.trans (congrArg some (by kernel_rfl))
  f332 := Tryd.func151.trans (congrArg some (by kernel_rfl))
  f343 := Tryd.func152.trans (congrArg some (by kernel_rfl))
  t0 := Tryd.underlying0
  a0 := Tryd.isAgg0
  z0 := Tryd.sizeOf0
  v0 := Tryd.zeroValue0
  t3 := Tryd.underlying3
  a3 := Tryd.isAgg3
  z3 := Tryd.sizeOf3
  v3 := Tryd.zeroValue3
  t4 := Tryd.underlying4
  a4 := Tryd.isAgg4
  z4 := Tryd.sizeOf4
  v4 := Tryd.zeroValue4
  t5 := Tryd.underlying5
  a5 := Tryd.isAgg5
  z5 := Tryd.sizeOf5
  v5 := Tryd.zeroValue5
  t9 := Tryd.underlying9
  a9 := Tryd.isAgg9
  z9 := Tryd.sizeOf9
  v9 := Tryd.zeroValue9
  t28 := Tryd.underlying35
  a28 := Tryd.isAgg35
  z28 := Tryd.sizeOf35
  v28 := Tryd.zeroValue35
  t46 := Tryd.underlying135
  a46 := Tryd.isAgg135
  z46 := Tryd.sizeOf135
  v46 := Tryd.zeroValue135
  t51 := Tryd.underlying154
  a51 := Tryd.isAgg154
  z51 := Tryd.sizeOf154
  v51 := Tryd.zeroValue154
  t53 := Tryd.underlying156
  a53 := Tryd.isAgg156
  z53 := Tryd.sizeOf156
  v53 := Tryd.zeroValue156
  t131 := Tryd.underlying127
  a131 := Tryd.isAgg127
  z131 := Tryd.sizeOf127
  v131 := Tryd.zeroValue127
  t182 := Tryd.underlying147
  a182 := Tryd.isAgg147
  z182 := Tryd.sizeOf147
  v182 := Tryd.zeroValue147
  t183 := Tryd.underlying148
  a183 := Tryd.isAgg148
  z183 := Tryd.sizeOf148
  v183 := Tryd.zeroValue148
  t218 := Tryd.underlying160
  a218 := Tryd.isAgg160
  z218 := Tryd.sizeOf160
  v218 := Tryd.zeroValue160
  t222 := Tryd.underlying164
  a222 := Tryd.isAgg164
  z222 := Tryd.sizeOf164
  v222 := Tryd.zeroValue164
  t228 := Tryd.underlying174
  a228 := Tryd.isAgg174
  z228 := Tryd.sizeOf174
  v228 := Tryd.zeroValue174
  t229 := Tryd.underlying175
  a229 := Tryd.isAgg175
  z229 := Tryd.sizeOf175
  v229 := Tryd.zeroValue175 }
open Go.Sort Go.RowKit in
theorem Tryd.slices_Sort_int (blk off cap : Nat) (zs : List Int) (w : World) (hH : Holds (Value.int .i64) w blk off zs.toArray) (hblk : blk < w.heap.size) (hsz : zs.length < 4611686018427387904) :
    Calls Tryd.prog 106 #[.slice (some ⟨blk, off, none⟩) zs.length cap] w fun e w' =>
      e = .returned (.tuple #[]) ∧ ∃ n os, w' = grow (putRow (Value.int .i64) (Sort.ahead w n) blk off (zs.mergeSort fun x y => decide (x ≤ y)).toArray) os := Any.slices_Sort_int Tryd.lays189 blk off cap zs w hH hblk hsz
theorem Tryd.slices_Sort_int_none (p : Option Addr) (cap : Nat) (w : World) :
    Calls Tryd.prog 106 #[.slice p 0 cap] w fun e w' => e = .returned (.tuple #[]) ∧ w' = w := Any.slices_Sort_int_none Tryd.lays189 p cap w
end Go.Proofs
namespace Go.Proofs.YtgdionbeeodaaaaDoor
open Go Go.Sort
theorem sortOk : SortOk := fun blk off cap zs w hH hblk hsz => Tryd.slices_Sort_int blk off cap zs w hH hblk hsz
theorem sortNil : SortNil := fun w => Tryd.slices_Sort_int_none none 0 w
end Go.Proofs.YtgdionbeeodaaaaDoor
/- Body and Check, walked. -/
namespace Go.CoreX
theorem okT_grow {e : List Ex} (h : ∀ x ∈ e, x.binds.length ≤ 1048576 ∧ x.kids.length ≤ 1048576 ∧ x.alts.length ≤ 1048576 ∧ (∀ a ∈ x.alts, a.binds.length ≤ 1048576) ∧ x.binds.length + (x.alts.flatMap (·.binds)).length ≤ 4194304) (hk : kidsIn e) : ∀ t ∈ growL e, okT t := by
  revert h hk
  refine snoc_ind (P := fun e => (∀ x ∈ e, x.binds.length ≤ 1048576 ∧ x.kids.length ≤ 1048576 ∧ x.alts.length ≤ 1048576 ∧ (∀ a ∈ x.alts, a.binds.length ≤ 1048576) ∧ x.binds.length + (x.alts.flatMap (·.binds)).length ≤ 4194304) → kidsIn e → ∀ t ∈ growL e, okT t) (fun _ _ t ht => by simp [growL] at ht) (fun e x ih h hk t ht => ?_) e
  obtain ⟨h1, h2⟩ := kidsIn_snoc.1 hk
  have ih := ih (fun y hy => h y (by simp [hy])) h1
  rw [growL_snoc] at ht
  rcases List.mem_append.1 ht with ht | ht
  · exact ih t ht
  · simp at ht
    subst ht
    obtain ⟨a1, a2, a3, a4, a5⟩ := h x (by simp)
    refine ⟨a1, by simpa using a2, a3, ⟨a4, a5⟩, okTs_iff.2 fun s hs => ?_⟩
    obtain ⟨k, hk2, rfl⟩ := List.mem_map.1 hs
    have hkb := h2 k hk2
    have hl : k.toNat < (growL e).length := by rw [growL_len]; omega
    rw [List.getD_eq_getElem?_getD, List.getElem?_eq_getElem hl]
    exact ih _ (List.getElem_mem hl)
theorem grow_mem {e : List Ex} (h : e ≠ []) : grow e ∈ growL e := by
  have hl : e.length - 1 < (growL e).length := by rw [growL_len]; have := List.length_pos_iff.2 h; omega
  unfold grow
  rw [List.getD_eq_getElem?_getD, List.getElem?_eq_getElem hl]
  exact List.getElem_mem hl
theorem firstErr_at {α : Type} {f : α → Int} : ∀ {l : List α} {j : Nat} {x : α}, (∀ y ∈ l.take j, f y = 0) → l[j]? = some x → f x ≠ 0 → firstErr f l = f x
  | [], j, x, _, h, _ => by simp at h
  | a :: l, 0, x, _, h, hx => by simp at h; subst h; simp [firstErr, hx]
  | a :: l, j + 1, x, h0, h, hx => by
    have h1 := h0 a (by simp)
    simp only [firstErr, h1]
    exact firstErr_at (l := l) (j := j) (fun y hy => h0 y (by simp [hy])) (by simpa using h) hx
theorem freeOf_len (t : Tr) : (freeOf t).length ≤ (listT [] t).length := by
  have h1 : (freeOf t).Nodup := (sortS_sorted (occT [] t)).imp fun {a b} h => by omega
  have h2 := nodup_le h1 (m := occB (fun _ => 0) t) fun x hx => by rw [freeOf_occB] at hx; exact (sortS_mem x _).1 hx
  have h3 := occB_len t (fun _ => 0) []
  simp at h3
  omega
theorem len_tree {e : List Ex} (h : IsTree e) : (listT [] (grow e)).length = e.length := by
  have hp := labs_perm h (isTree_list (grow e)) (grow_list _).symm
  rw [← len_labs e, ← len_labs]; exact hp.length_eq.symm
end Go.CoreX
namespace Go.Proofs.YtgdionbeeodaaaaDoor
open Go Go.Abs Go.CoreX
set_option maxRecDepth 10000
set_option linter.unusedVariables false
set_option linter.unusedSimpArgs false
/-- What the bound on the bulk gives. -/
structure okB (e : List Ex) : Prop where
  eo : okE e
  b : ∀ x ∈ e, x.binds.length + (x.alts.flatMap (·.binds)).length ≤ 4194304
theorem okB.ex {e : List Ex} (h : okB e) : ∀ x ∈ e, (exBinders x).length ≤ 4194304 ∧ x.binds.length + (x.alts.flatMap (·.binds)).length ≤ 4194304 := fun x hx => by
  have h1 := h.b x hx
  refine ⟨?_, h1⟩
  unfold exBinders bindersN
  rw [List.length_append]
  split
  · omega
  · simp only [List.length_nil]; omega
theorem okB.t {e : List Ex} (h : okB e) (hk : kidsIn e) (hne : e ≠ []) : okT (grow e) := okT_grow (fun x hx => ⟨(h.eo.x x hx).b, (h.eo.x x hx).k, (h.eo.x x hx).a, (h.eo.x x hx).ab, h.b x hx⟩) hk _ (grow_mem hne)
theorem hΓcF : ∀ g cs, (g, cs) ∈ Γc → idsL (fun _ => False) cs := fun g cs h => by
  simp [Γc] at h
  first
    | (obtain ⟨rfl, rfl⟩ := h; simp [arC, arityL]; done)
    | (rcases h with ⟨rfl, rfl⟩ | ⟨rfl, rfl⟩ <;> simp [arC, orC, arityL])
set_option maxHeartbeats 1000000 in
theorem Body_ok (e : List Ex) (he : okB e) (params : List Int) (hp : params.length ≤ 1048576) (flat : Bool) :
    APure Tryd.prog Γc 45 [.one (.sl 5 (e.map cEx)), .one (.sl 1 (params.map cI)), .one (.lit (.bool flat))] (.one (int (body e params flat))) := by
  have hel := he.eo.l
  intro ou
  refine AFn.walk 62 tabOk Tryd.func45 rfl (by kernel_rfl) rfl rfl fun hou => ?_
  repeat first | ((with_reducible refine oj ?_); refine zau ?_) | (with_reducible refine zst ?_) | (with_reducible refine cExitMiss ?_ ?_; rfl) | (with_reducible refine ok ?_; first | refine ACode.condT rfl ?_ | refine ACode.condF rfl ?_)
  refine AOps.freeze1 (.l 0) 3 rfl rfl ?_
  refine AOps.callC hΓc (treeError_ok hΓc e he.eo) rfl rfl rfl rfl rfl rfl rfl hou (by simp) ?_
  repeat first | ((with_reducible refine oj ?_); refine zau ?_) | (with_reducible refine zst ?_) | (with_reducible refine cExitMiss ?_ ?_; rfl) | (with_reducible refine ok ?_; first | refine ACode.condT rfl ?_ | refine ACode.condF rfl ?_)
  refine ACode.cond rfl (fun hb => ?_) (fun hb => ?_)
  · have hb' : treeErr e ≠ 0 := by simpa using hb
    repeat first | ((with_reducible refine oj ?_); refine zau ?_) | (with_reducible refine zst ?_) | (with_reducible refine cExitMiss ?_ ?_; rfl) | (with_reducible refine ok ?_; first | refine ACode.condT rfl ?_ | refine ACode.condF rfl ?_)
    refine APure.fin rfl (WkF.ofEq ?_) (by simp) hou rfl
    unfold body
    rw [if_pos hb']
  have h1 : treeErr e = 0 := by simpa using hb
  clear hb
  obtain ⟨t1, t2, t3⟩ := (treeErr_iff e).1 h1
  have hn : body e params flat = if firstErr (nodeErrF flat e) e ≠ 0 then firstErr (nodeErrF flat e) e else if hasDup (params ++ allBinders e) = true then 7 else if (freeOf (grow e)).all (fun n => params.contains n) = true then 0 else 6 := by
    unfold body; rw [if_neg (by simpa using h1)]
  repeat first | ((with_reducible refine oj ?_); refine zau ?_) | (with_reducible refine zst ?_) | (with_reducible refine cExitMiss ?_ ?_; rfl) | (with_reducible refine ok ?_; first | refine ACode.condT rfl ?_ | refine ACode.condF rfl ?_)
  refine ACode.loopR hΓc (α := Nat) (fun j => [(20, .one (int j)), (19, .one (int (e.map cEx).length)), (18, .one (.sl 5 (e.map cEx))), (3, .one (.box [.sl 5 (e.map cEx)])), (2, .one (.lit (.bool flat))), (1, .one (.sl 1 (params.map cI)))])
    (fun j => ⟨0, [], ou⟩) (fun m j => j ≤ e.length ∧ (∀ x ∈ e.take j, nodeErrF flat e x = 0) ∧ m = e.length - j) (a0 := 0) (ρ := id) ⟨by omega, by simp, rfl⟩ (LessR.of rfl (by (repeat' first | exact FrSub.nil | refine FrSub.cons rfl (.ofEq rfl) ?_ | refine FrSub.oa rfl rfl ?_ | refine FrSub.consP rfl (.ofEq rfl) (by simp) ?_)) (by simp) (by repeat' first | exact LoSub.nil | refine LoSub.cons rfl ?_ rfl (by first | (simp; done) | exact ids_oaO (by simp)) ?_ | rfl | (refine (AObj.ren_pure _ _ ?_).symm; simp; done) | exact (ren_oaO _ _ _ _ fun _ => ids_vec (by simp; done)).symm | (simp [AObj.ren, renL, AC.ren]; done) | (simp [AObj.ren, renL, AC.ren]; rfl)) rfl rfl hou) fun m j hj => ?_
  obtain ⟨hjl, hno, rfl⟩ := hj
  repeat first | ((with_reducible refine oj ?_); refine zau ?_) | (with_reducible refine zst ?_) | (with_reducible refine cExitMiss ?_ ?_; rfl) | (with_reducible refine ok ?_; first | refine ACode.condT rfl ?_ | refine ACode.condF rfl ?_)
  refine ACode.cond rfl (fun hb2 => ?_) (fun hb2 => ?_)
  · have hlt : j < e.length := by simpa using hb2
    obtain ⟨x, hx⟩ := get_of_lt hlt
    have hxm := List.mem_of_getElem? hx
    have hxo := he.eo.x x hxm
    have bad : nodeErrF flat e x ≠ 0 → body e params flat = nodeErrF flat e x := fun h => by
      rw [hn, firstErr_at hno hx h, if_pos h]
    have hkk : ∀ k ∈ x.kids, 0 ≤ k ∧ k.toNat < e.length := fun k hk => by have := kids_lt t2.k hxm k hk; omega
    have hcall := nodeError_ok e x hxo hkk
    repeat first | ((with_reducible refine oj ?_); refine zau ?_) | (with_reducible refine zst ?_) | (with_reducible refine cExitMiss ?_ ?_; rfl) | (with_reducible refine ok ?_; first | refine ACode.condT rfl ?_ | refine ACode.condF rfl ?_)
    refine AOps.step1 rfl rfl rfl (AStep.indexAddr tabOk rfl rfl rfl rfl rfl rfl (.inl rfl) rfl (by omega) (map_get hx)) ?_
    cases flat with
    | false =>
      have hE : nodeErrF false e x = if flatOnly x.op = true then 3 else nodeErr e x := by simp [nodeErrF]
      repeat' first | ((with_reducible refine oj ?_); refine zau ?_) | (with_reducible refine zst ?_) | (with_reducible refine cExitMiss ?_ ?_; rfl) | (with_reducible refine ok ?_; first | refine ACode.condT rfl ?_ | refine ACode.condF rfl ?_) | ((with_reducible refine oj ?_); first | refine zad ?_ | refine zsu ?_ | refine zne ?_ | refine zeq ?_ | refine zmx ?_ | refine zmn ?_ | refine AOps.unG rfl rfl rfl ?_) | (with_reducible refine oj ?_; refine AOps.splitS rfl rfl rfl rfl (fun hb => ?_) (fun hb => ?_)) | (with_reducible refine ok ?_; first | refine ACode.condS rfl (fun hb => ?_) (fun hb => ?_) | refine ACode.cond rfl (fun hb => ?_) (fun hb => ?_))
      refine AOps.callC hΓc (flatOnly_ok x.op) rfl rfl rfl rfl rfl rfl rfl hou (by simp) ?_
      repeat' first | ((with_reducible refine oj ?_); refine zau ?_) | (with_reducible refine zst ?_) | (with_reducible refine cExitMiss ?_ ?_; rfl) | (with_reducible refine ok ?_; first | refine ACode.condT rfl ?_ | refine ACode.condF rfl ?_) | ((with_reducible refine oj ?_); first | refine zad ?_ | refine zsu ?_ | refine zne ?_ | refine zeq ?_ | refine zmx ?_ | refine zmn ?_ | refine AOps.unG rfl rfl rfl ?_) | (with_reducible refine oj ?_; refine AOps.splitS rfl rfl rfl rfl (fun hb => ?_) (fun hb => ?_)) | (with_reducible refine ok ?_; first | refine ACode.condS rfl (fun hb => ?_) (fun hb => ?_) | refine ACode.cond rfl (fun hb => ?_) (fun hb => ?_))
      all_goals try
        (refine APure.fin rfl (WkF.ofEq ?_) (by simp) hou rfl
         rw [bad (by rw [hE, if_pos hb]; decide), hE, if_pos hb]
         done)
      rw [if_neg (by rw [hb]; decide)] at hE
      refine AOps.callC hΓc hcall rfl rfl rfl rfl rfl rfl rfl hou (by simp) ?_
      repeat first | ((with_reducible refine oj ?_); refine zau ?_) | (with_reducible refine zst ?_) | (with_reducible refine cExitMiss ?_ ?_; rfl) | (with_reducible refine ok ?_; first | refine ACode.condT rfl ?_ | refine ACode.condF rfl ?_)
      refine ACode.cond rfl (fun hb3 => ?_) (fun hb3 => ?_)
      · have h3 : nodeErr e x ≠ 0 := by simpa using hb3
        repeat first | ((with_reducible refine oj ?_); refine zau ?_) | (with_reducible refine zst ?_) | (with_reducible refine cExitMiss ?_ ?_; rfl) | (with_reducible refine ok ?_; first | refine ACode.condT rfl ?_ | refine ACode.condF rfl ?_)
        refine APure.fin rfl (WkF.ofEq ?_) (by simp) hou rfl
        rw [bad (by rw [hE]; exact h3), hE]
      · have h3 : nodeErr e x = 0 := by simpa using hb3
        repeat' first | ((with_reducible refine oj ?_); refine zau ?_) | (with_reducible refine zst ?_) | (with_reducible refine cExitMiss ?_ ?_; rfl) | (with_reducible refine ok ?_; first | refine ACode.condT rfl ?_ | refine ACode.condF rfl ?_) | ((with_reducible refine oj ?_); first | refine zad ?_ | refine zsu ?_ | refine zne ?_ | refine zeq ?_ | refine zmx ?_ | refine zmn ?_ | refine AOps.unG rfl rfl rfl ?_)
        exact cInv ⟨e.length - (j + 1), j + 1, id, by omega, ⟨by omega, take_all hno hx (by rw [hE]; exact h3), rfl⟩, LessR.of rfl (by (repeat' first | exact FrSub.nil | refine FrSub.cons rfl (.ofEq rfl) ?_ | refine FrSub.oa rfl rfl ?_ | refine FrSub.consP rfl (.ofEq rfl) (by simp) ?_)) (by simp) (by repeat' first | exact LoSub.nil | refine LoSub.cons rfl ?_ rfl (by first | (simp; done) | exact ids_oaO (by simp)) ?_ | rfl | (refine (AObj.ren_pure _ _ ?_).symm; simp; done) | exact (ren_oaO _ _ _ _ fun _ => ids_vec (by simp; done)).symm | (simp [AObj.ren, renL, AC.ren]; done) | (simp [AObj.ren, renL, AC.ren]; rfl)) rfl rfl hou⟩
    | true =>
      have hE : nodeErrF true e x = if coreOnly x.op = true then 3 else nodeErr e x := by simp [nodeErrF]
      repeat' first | ((with_reducible refine oj ?_); refine zau ?_) | (with_reducible refine zst ?_) | (with_reducible refine cExitMiss ?_ ?_; rfl) | (with_reducible refine ok ?_; first | refine ACode.condT rfl ?_ | refine ACode.condF rfl ?_) | ((with_reducible refine oj ?_); first | refine zad ?_ | refine zsu ?_ | refine zne ?_ | refine zeq ?_ | refine zmx ?_ | refine zmn ?_ | refine AOps.unG rfl rfl rfl ?_) | (with_reducible refine oj ?_; refine AOps.splitS rfl rfl rfl rfl (fun hb => ?_) (fun hb => ?_)) | (with_reducible refine ok ?_; first | refine ACode.condS rfl (fun hb => ?_) (fun hb => ?_) | refine ACode.cond rfl (fun hb => ?_) (fun hb => ?_))
      refine AOps.callC hΓc (coreOnly_ok x.op) rfl rfl rfl rfl rfl rfl rfl hou (by simp) ?_
      repeat' first | ((with_reducible refine oj ?_); refine zau ?_) | (with_reducible refine zst ?_) | (with_reducible refine cExitMiss ?_ ?_; rfl) | (with_reducible refine ok ?_; first | refine ACode.condT rfl ?_ | refine ACode.condF rfl ?_) | ((with_reducible refine oj ?_); first | refine zad ?_ | refine zsu ?_ | refine zne ?_ | refine zeq ?_ | refine zmx ?_ | refine zmn ?_ | refine AOps.unG rfl rfl rfl ?_) | (with_reducible refine oj ?_; refine AOps.splitS rfl rfl rfl rfl (fun hb => ?_) (fun hb => ?_)) | (with_reducible refine ok ?_; first | refine ACode.condS rfl (fun hb => ?_) (fun hb => ?_) | refine ACode.cond rfl (fun hb => ?_) (fun hb => ?_))
      all_goals try
        (refine APure.fin rfl (WkF.ofEq ?_) (by simp) hou rfl
         rw [bad (by rw [hE, if_pos hb]; decide), hE, if_pos hb]
         done)
      rw [if_neg (by rw [hb]; decide)] at hE
      refine AOps.callC hΓc hcall rfl rfl rfl rfl rfl rfl rfl hou (by simp) ?_
      repeat first | ((with_reducible refine oj ?_); refine zau ?_) | (with_reducible refine zst ?_) | (with_reducible refine cExitMiss ?_ ?_; rfl) | (with_reducible refine ok ?_; first | refine ACode.condT rfl ?_ | refine ACode.condF rfl ?_)
      refine ACode.cond rfl (fun hb3 => ?_) (fun hb3 => ?_)
      · have h3 : nodeErr e x ≠ 0 := by simpa using hb3
        repeat first | ((with_reducible refine oj ?_); refine zau ?_) | (with_reducible refine zst ?_) | (with_reducible refine cExitMiss ?_ ?_; rfl) | (with_reducible refine ok ?_; first | refine ACode.condT rfl ?_ | refine ACode.condF rfl ?_)
        refine APure.fin rfl (WkF.ofEq ?_) (by simp) hou rfl
        rw [bad (by rw [hE]; exact h3), hE]
      · have h3 : nodeErr e x = 0 := by simpa using hb3
        repeat' first | ((with_reducible refine oj ?_); refine zau ?_) | (with_reducible refine zst ?_) | (with_reducible refine cExitMiss ?_ ?_; rfl) | (with_reducible refine ok ?_; first | refine ACode.condT rfl ?_ | refine ACode.condF rfl ?_) | ((with_reducible refine oj ?_); first | refine zad ?_ | refine zsu ?_ | refine zne ?_ | refine zeq ?_ | refine zmx ?_ | refine zmn ?_ | refine AOps.unG rfl rfl rfl ?_)
        exact cInv ⟨e.length - (j + 1), j + 1, id, by omega, ⟨by omega, take_all hno hx (by rw [hE]; exact h3), rfl⟩, LessR.of rfl (by (repeat' first | exact FrSub.nil | refine FrSub.cons rfl (.ofEq rfl) ?_ | refine FrSub.oa rfl rfl ?_ | refine FrSub.consP rfl (.ofEq rfl) (by simp) ?_)) (by simp) (by repeat' first | exact LoSub.nil | refine LoSub.cons rfl ?_ rfl (by first | (simp; done) | exact ids_oaO (by simp)) ?_ | rfl | (refine (AObj.ren_pure _ _ ?_).symm; simp; done) | exact (ren_oaO _ _ _ _ fun _ => ids_vec (by simp; done)).symm | (simp [AObj.ren, renL, AC.ren]; done) | (simp [AObj.ren, renL, AC.ren]; rfl)) rfl rfl hou⟩
  have hlt : j = e.length := by simp at hb2; omega
  subst hlt
  rw [List.take_length] at hno
  rw [if_neg (by rw [Classical.not_not]; exact (firstErr_zero _ _).2 hno)] at hn
  clear hno hb2 hjl
  have hgt := he.t t2.k t2.ne
  repeat first | ((with_reducible refine oj ?_); refine zau ?_) | (with_reducible refine zst ?_) | (with_reducible refine cExitMiss ?_ ?_; rfl) | (with_reducible refine ok ?_; first | refine ACode.condT rfl ?_ | refine ACode.condF rfl ?_)
  refine AOps.callC hΓc (twice_ok hΓc e he.eo params hp he.ex) rfl rfl rfl rfl rfl rfl rfl hou (by simp) ?_
  repeat first | ((with_reducible refine oj ?_); refine zau ?_) | (with_reducible refine zst ?_) | (with_reducible refine cExitMiss ?_ ?_; rfl) | (with_reducible refine ok ?_; first | refine ACode.condT rfl ?_ | refine ACode.condF rfl ?_)
  refine ACode.cond rfl (fun hb => ?_) (fun hb => ?_)
  · repeat first | ((with_reducible refine oj ?_); refine zau ?_) | (with_reducible refine zst ?_) | (with_reducible refine cExitMiss ?_ ?_; rfl) | (with_reducible refine ok ?_; first | refine ACode.condT rfl ?_ | refine ACode.condF rfl ?_)
    refine APure.fin rfl (WkF.ofEq ?_) (by simp) hou rfl
    rw [hn, if_pos hb]
  rw [if_neg (by rw [hb]; decide)] at hn
  repeat first | ((with_reducible refine oj ?_); refine zau ?_) | (with_reducible refine zst ?_) | (with_reducible refine cExitMiss ?_ ?_; rfl) | (with_reducible refine ok ?_; first | refine ACode.condT rfl ?_ | refine ACode.condF rfl ?_)
  refine AOps.callC hΓc (Grow_ok hΓc e he.eo t2.k t2.ne) rfl rfl rfl rfl rfl rfl rfl hou (by simp) ?_
  refine AOps.callC hΓc (FreeOf_ok hΓc hΓcF sortOk sortNil (grow e) hgt (by omega) (by rw [len_tree t2]; omega)) rfl rfl rfl rfl rfl rfl rfl hou (by simp) ?_
  have hfl := freeOf_len (grow e)
  rw [len_tree t2] at hfl
  generalize freeOf (grow e) = fs at hn hfl
  repeat first | ((with_reducible refine oj ?_); refine zau ?_) | (with_reducible refine zst ?_) | (with_reducible refine cExitMiss ?_ ?_; rfl) | (with_reducible refine ok ?_; first | refine ACode.condT rfl ?_ | refine ACode.condF rfl ?_)
  refine ACode.loopR hΓc (α := Nat) (fun j => [(53, .one (int j)), (52, .one (int (fs.map cI).length)), (51, .one (.sl 1 (fs.map cI))), (1, .one (.sl 1 (params.map cI)))])
    (fun j => ⟨0, [], ou⟩) (fun m j => j ≤ fs.length ∧ (∀ x ∈ fs.take j, params.contains x = true) ∧ m = fs.length - j) (a0 := 0) (ρ := id) ⟨by omega, by simp, rfl⟩ (LessR.of rfl (by (repeat' first | exact FrSub.nil | refine FrSub.cons rfl (.ofEq rfl) ?_ | refine FrSub.oa rfl rfl ?_ | refine FrSub.consP rfl (.ofEq rfl) (by simp) ?_)) (by simp) (by repeat' first | exact LoSub.nil | refine LoSub.cons rfl ?_ rfl (by first | (simp; done) | exact ids_oaO (by simp)) ?_ | rfl | (refine (AObj.ren_pure _ _ ?_).symm; simp; done) | exact (ren_oaO _ _ _ _ fun _ => ids_vec (by simp; done)).symm | (simp [AObj.ren, renL, AC.ren]; done) | (simp [AObj.ren, renL, AC.ren]; rfl)) rfl rfl hou) fun m j hj => ?_
  obtain ⟨hjl, hno, rfl⟩ := hj
  repeat first | ((with_reducible refine oj ?_); refine zau ?_) | (with_reducible refine zst ?_) | (with_reducible refine cExitMiss ?_ ?_; rfl) | (with_reducible refine ok ?_; first | refine ACode.condT rfl ?_ | refine ACode.condF rfl ?_)
  refine ACode.cond rfl (fun hb2 => ?_) (fun hb2 => ?_)
  · have hlt : j < fs.length := by simpa using hb2
    obtain ⟨k, hk⟩ := get_of_lt hlt
    repeat first | ((with_reducible refine oj ?_); refine zau ?_) | (with_reducible refine zst ?_) | (with_reducible refine cExitMiss ?_ ?_; rfl) | (with_reducible refine ok ?_; first | refine ACode.condT rfl ?_ | refine ACode.condF rfl ?_)
    refine AOps.step1 rfl rfl rfl (AStep.indexAddr tabOk rfl rfl rfl rfl rfl rfl (.inl rfl) rfl (by omega) (map_get hk)) ?_
    repeat first | ((with_reducible refine oj ?_); refine zau ?_) | (with_reducible refine zst ?_) | (with_reducible refine cExitMiss ?_ ?_; rfl) | (with_reducible refine ok ?_; first | refine ACode.condT rfl ?_ | refine ACode.condF rfl ?_)
    refine AOps.callC hΓc (Contains_ok hΓc params hp k) rfl rfl rfl rfl rfl rfl rfl hou (by simp) ?_
    repeat first | ((with_reducible refine oj ?_); refine zau ?_) | (with_reducible refine zst ?_) | (with_reducible refine cExitMiss ?_ ?_; rfl) | (with_reducible refine ok ?_; first | refine ACode.condT rfl ?_ | refine ACode.condF rfl ?_)
    refine ACode.cond rfl (fun hb3 => ?_) (fun hb3 => ?_)
    · repeat first | ((with_reducible refine oj ?_); refine zau ?_) | (with_reducible refine zst ?_) | (with_reducible refine cExitMiss ?_ ?_; rfl) | (with_reducible refine ok ?_; first | refine ACode.condT rfl ?_ | refine ACode.condF rfl ?_)
      refine APure.fin rfl (WkF.ofEq ?_) (by simp) hou rfl
      rw [hn, if_neg]
      rw [List.all_eq_true]
      intro h
      have := h k (List.mem_of_getElem? hk)
      rw [this] at hb3; cases hb3
    · repeat' first | ((with_reducible refine oj ?_); refine zau ?_) | (with_reducible refine zst ?_) | (with_reducible refine cExitMiss ?_ ?_; rfl) | (with_reducible refine ok ?_; first | refine ACode.condT rfl ?_ | refine ACode.condF rfl ?_) | ((with_reducible refine oj ?_); first | refine zad ?_ | refine zsu ?_ | refine zne ?_ | refine zeq ?_ | refine zmx ?_ | refine zmn ?_ | refine AOps.unG rfl rfl rfl ?_)
      exact cInv ⟨fs.length - (j + 1), j + 1, id, by omega, ⟨by omega, take_all hno hk (by simpa using hb3), rfl⟩, LessR.of rfl (by (repeat' first | exact FrSub.nil | refine FrSub.cons rfl (.ofEq rfl) ?_ | refine FrSub.oa rfl rfl ?_ | refine FrSub.consP rfl (.ofEq rfl) (by simp) ?_)) (by simp) (by repeat' first | exact LoSub.nil | refine LoSub.cons rfl ?_ rfl (by first | (simp; done) | exact ids_oaO (by simp)) ?_ | rfl | (refine (AObj.ren_pure _ _ ?_).symm; simp; done) | exact (ren_oaO _ _ _ _ fun _ => ids_vec (by simp; done)).symm | (simp [AObj.ren, renL, AC.ren]; done) | (simp [AObj.ren, renL, AC.ren]; rfl)) rfl rfl hou⟩
  · have hlt : j = fs.length := by simp at hb2; omega
    subst hlt
    rw [List.take_length] at hno
    repeat first | ((with_reducible refine oj ?_); refine zau ?_) | (with_reducible refine zst ?_) | (with_reducible refine cExitMiss ?_ ?_; rfl) | (with_reducible refine ok ?_; first | refine ACode.condT rfl ?_ | refine ACode.condF rfl ?_)
    refine APure.fin rfl (WkF.ofEq ?_) (by simp) hou rfl
    rw [hn, if_pos (List.all_eq_true.2 hno)]
theorem Check_ok (e : List Ex) (he : okB e) : APure Tryd.prog Γc 15 [.one (.sl 5 (e.map cEx))] (.one (int (check e))) := by
  intro ou
  refine AFn.walk 5 tabOk Tryd.func15 rfl (by kernel_rfl) rfl rfl fun hou => ?_
  repeat first | ((with_reducible refine oj ?_); refine zau ?_) | (with_reducible refine zst ?_) | (with_reducible refine cExitMiss ?_ ?_; rfl) | (with_reducible refine ok ?_; first | refine ACode.condT rfl ?_ | refine ACode.condF rfl ?_)
  refine AOps.callCW (ws := [.one (.sl 5 (e.map cEx)), .one (.sl 1 (([] : List Int).map cI)), .one (.lit (.bool false))]) hΓc (Body_ok e he [] (by simp) false) rfl rfl rfl rfl rfl rfl ?_ hou (by simp) ?_
  · exact .cons (.refl _) (.cons (.one (.nilS 1)) (.cons (.refl _) .nil))
  repeat first | ((with_reducible refine oj ?_); refine zau ?_) | (with_reducible refine zst ?_) | (with_reducible refine cExitMiss ?_ ?_; rfl) | (with_reducible refine ok ?_; first | refine ACode.condT rfl ?_ | refine ACode.condF rfl ?_)
  exact APure.fin rfl (WkF.ofEq rfl) (by simp) hou rfl
end Go.Proofs.YtgdionbeeodaaaaDoor
/- SameTree, Same, Order, SameList, walked: where they say yes. -/
namespace Go.Proofs.YtgdionbeeodaaaaDoor
open Go Go.Abs Go.CoreX
set_option maxRecDepth 10000
set_option linter.unusedVariables false
set_option linter.unusedSimpArgs false
variable {Γ : List (Nat × List AC)}
theorem SameListR_ok (hΓ : ∀ g cs, (g, cs) ∈ Γ → idsL isO cs) (e : List Ex) (he : okE e) : APure Tryd.prog Γ 24 [.one (.sl 5 (e.map cEx)), .one (.sl 5 (e.map cEx))] (.one (.lit (.bool true))) := by
  have hel := he.l
  intro ou
  refine AFn.walk 136 tabOk Tryd.func24 rfl (by kernel_rfl) rfl rfl fun hou => ?_
  repeat first | ((with_reducible refine oj ?_); refine zau ?_) | (with_reducible refine zst ?_) | (with_reducible refine cExitMiss ?_ ?_; rfl) | (with_reducible refine ok ?_; first | refine ACode.condT rfl ?_ | refine ACode.condF rfl ?_)
  refine ACode.cond rfl (fun hb => absurd hb (by simp)) (fun hb => ?_)
  clear hb
  repeat first | ((with_reducible refine oj ?_); refine zau ?_) | (with_reducible refine zst ?_) | (with_reducible refine cExitMiss ?_ ?_; rfl) | (with_reducible refine ok ?_; first | refine ACode.condT rfl ?_ | refine ACode.condF rfl ?_)
  refine ACode.loopR hΓ (α := Nat) (fun j => [(14, .one (int j)), (13, .one (int (e.map cEx).length)), (1, .one (.sl 5 (e.map cEx))), (0, .one (.sl 5 (e.map cEx)))])
    (fun j => ⟨0, [], ou⟩) (fun m j => j ≤ e.length ∧ m = e.length - j) (a0 := 0) (ρ := id) ⟨by omega, rfl⟩ (LessR.of rfl (by (repeat' first | exact FrSub.nil | refine FrSub.cons rfl (.ofEq rfl) ?_ | refine FrSub.oa rfl rfl ?_ | refine FrSub.consP rfl (.ofEq rfl) (by simp) ?_)) (by simp) (by repeat' first | exact LoSub.nil | refine LoSub.cons rfl ?_ rfl (by first | (simp; done) | exact ids_oaO (by simp)) ?_ | rfl | (refine (AObj.ren_pure _ _ ?_).symm; simp; done) | exact (ren_oaO _ _ _ _ fun _ => ids_vec (by simp; done)).symm | (simp [AObj.ren, renL, AC.ren]; done) | (simp [AObj.ren, renL, AC.ren]; rfl)) rfl rfl hou) fun m j hj => ?_
  obtain ⟨hjl, rfl⟩ := hj
  repeat first | ((with_reducible refine oj ?_); refine zau ?_) | (with_reducible refine zst ?_) | (with_reducible refine cExitMiss ?_ ?_; rfl) | (with_reducible refine ok ?_; first | refine ACode.condT rfl ?_ | refine ACode.condF rfl ?_)
  refine ACode.cond rfl (fun hb2 => ?_) (fun hb2 => ?_)
  · have hlt : j < e.length := by simpa using hb2
    obtain ⟨x, hx⟩ := get_of_lt hlt
    have hxo := he.x x (List.mem_of_getElem? hx)
    have hxa := hxo.a
    have s1 := SameInts_ok hΓ x.binds x.binds hxo.b
    have s2 := SameInts_ok hΓ x.kids x.kids hxo.k
    rw [show (x.binds == x.binds) = true by simp] at s1
    rw [show (x.kids == x.kids) = true by simp] at s2
    repeat first | ((with_reducible refine oj ?_); refine zau ?_) | (with_reducible refine zst ?_) | (with_reducible refine cExitMiss ?_ ?_; rfl) | (with_reducible refine ok ?_; first | refine ACode.condT rfl ?_ | refine ACode.condF rfl ?_)
    refine ACode.drawX tabOk 66 [(2, .one (.box (cEx x))), (7, .one (.box (cEx x))), (10, .one (.lit (.bool false))), (14, .one (.box (cEx x))), (19, .one (.box (cEx x))), (22, .one (.lit (.bool false))), (27, .one (.box (cEx x))), (32, .one (.box (cEx x))), (35, .one (.lit (.bool true))), (41, .one (.box (cEx x))), (46, .one (.box (cEx x))), (49, .one (.lit (.bool true))), (55, .one (.box (cEx x))), (61, .one (.box (cEx x))), (65, .one (.lit (.bool false)))] follows (by kernel_rfl) rfl rfl rfl rfl ?_ ?_
    · have ix := map_get (f := cEx) hx
      refine .step rfl (HStep.plain rfl (AStep.indexAddr tabOk rfl rfl rfl rfl rfl rfl (.inl rfl) rfl (by omega) ix)) ?_
      refine .step rfl (HStep.plain rfl (AStep.indexAddr tabOk rfl rfl rfl rfl rfl rfl (.inl rfl) rfl (by omega) ix)) ?_
      refine .step rfl (HStep.litB tabOk rfl (by simp)) ?_
      refine .step rfl (HStep.guarded rfl rfl rfl (AStep.indexAddr tabOk rfl rfl rfl rfl rfl rfl (.inl rfl) rfl (by omega) ix)) ?_
      refine .step rfl (HStep.guarded rfl rfl rfl (AStep.indexAddr tabOk rfl rfl rfl rfl rfl rfl (.inl rfl) rfl (by omega) ix)) ?_
      refine .step rfl (HStep.litB tabOk rfl (by simp)) ?_
      refine .step rfl (HStep.guarded rfl rfl rfl (AStep.indexAddr tabOk rfl rfl rfl rfl rfl rfl (.inl rfl) rfl (by omega) ix)) ?_
      refine .step rfl (HStep.guarded rfl rfl rfl (AStep.indexAddr tabOk rfl rfl rfl rfl rfl rfl (.inl rfl) rfl (by omega) ix)) ?_
      refine .step rfl (HStep.guarded rfl rfl rfl (AStep.callP hΓ rfl rfl rfl rfl (by simp) hou s1)) ?_
      refine .step rfl (HStep.guarded rfl rfl rfl (AStep.indexAddr tabOk rfl rfl rfl rfl rfl rfl (.inl rfl) rfl (by omega) ix)) ?_
      refine .step rfl (HStep.guarded rfl rfl rfl (AStep.indexAddr tabOk rfl rfl rfl rfl rfl rfl (.inl rfl) rfl (by omega) ix)) ?_
      refine .step rfl (HStep.guarded rfl rfl rfl (AStep.callP hΓ rfl rfl rfl rfl (by simp) hou s2)) ?_
      refine .step rfl (HStep.guarded rfl rfl rfl (AStep.indexAddr tabOk rfl rfl rfl rfl rfl rfl (.inl rfl) rfl (by omega) ix)) ?_
      refine .step rfl (HStep.guarded rfl rfl rfl (AStep.indexAddr tabOk rfl rfl rfl rfl rfl rfl (.inl rfl) rfl (by omega) ix)) ?_
      exact .step rfl (HStep.litB tabOk rfl (by simp)) .nil
    repeat first | ((with_reducible refine oj ?_); refine zau ?_) | (with_reducible refine zst ?_) | (with_reducible refine cExitMiss ?_ ?_; rfl) | (with_reducible refine ok ?_; first | refine ACode.condT rfl ?_ | refine ACode.condF rfl ?_)
    refine AOps.step1 rfl rfl rfl (AStep.indexAddr tabOk rfl rfl rfl rfl rfl rfl (.inl rfl) rfl (by omega) (map_get hx)) ?_
    repeat first | ((with_reducible refine oj ?_); refine zau ?_) | (with_reducible refine zst ?_) | (with_reducible refine cExitMiss ?_ ?_; rfl) | (with_reducible refine ok ?_; first | refine ACode.condT rfl ?_ | refine ACode.condF rfl ?_)
    refine ACode.loopR hΓ (α := Nat) (fun i => [(90, .one (int i)), (89, .one (int (x.alts.map cAlt).length)), (5, .one (int j)), (14, .one (int j)), (13, .one (int (e.map cEx).length)), (1, .one (.sl 5 (e.map cEx))), (0, .one (.sl 5 (e.map cEx)))])
      (fun i => ⟨0, [], ou⟩) (fun m i => i ≤ x.alts.length ∧ m = x.alts.length - i) (a0 := 0) (ρ := id) ⟨by omega, rfl⟩ (LessR.of rfl (by (repeat' first | exact FrSub.nil | refine FrSub.cons rfl (.ofEq rfl) ?_ | refine FrSub.oa rfl rfl ?_ | refine FrSub.consP rfl (.ofEq rfl) (by simp) ?_)) (by simp) (by repeat' first | exact LoSub.nil | refine LoSub.cons rfl ?_ rfl (by first | (simp; done) | exact ids_oaO (by simp)) ?_ | rfl | (refine (AObj.ren_pure _ _ ?_).symm; simp; done) | exact (ren_oaO _ _ _ _ fun _ => ids_vec (by simp; done)).symm | (simp [AObj.ren, renL, AC.ren]; done) | (simp [AObj.ren, renL, AC.ren]; rfl)) rfl rfl hou) fun m i hi => ?_
    obtain ⟨hil, rfl⟩ := hi
    repeat first | ((with_reducible refine oj ?_); refine zau ?_) | (with_reducible refine zst ?_) | (with_reducible refine cExitMiss ?_ ?_; rfl) | (with_reducible refine ok ?_; first | refine ACode.condT rfl ?_ | refine ACode.condF rfl ?_)
    refine ACode.cond rfl (fun hb3 => ?_) (fun hb3 => ?_)
    · have hlt2 : i < x.alts.length := by simpa using hb3
      obtain ⟨a, ha⟩ := get_of_lt hlt2
      have s3 := SameInts_ok hΓ a.binds a.binds (hxo.ab a (List.mem_of_getElem? ha))
      rw [show (a.binds == a.binds) = true by simp] at s3
      repeat first | ((with_reducible refine oj ?_); refine zau ?_) | (with_reducible refine zst ?_) | (with_reducible refine cExitMiss ?_ ?_; rfl) | (with_reducible refine ok ?_; first | refine ACode.condT rfl ?_ | refine ACode.condF rfl ?_)
      refine ACode.drawX tabOk 40 [(2, .one (.box (cEx x))), (6, .one (.box (cAlt a))), (11, .one (.box (cEx x))), (15, .one (.box (cAlt a))), (18, .one (.lit (.bool false))), (22, .one (.box (cEx x))), (26, .one (.box (cAlt a))), (31, .one (.box (cEx x))), (35, .one (.box (cAlt a))), (38, .one (.lit (.bool true)))] follows (by kernel_rfl) rfl rfl rfl rfl ?_ ?_
      · have ix := map_get (f := cEx) hx
        have ia := map_get (f := cAlt) ha
        refine .step rfl (HStep.plain rfl (AStep.indexAddr tabOk rfl rfl rfl rfl rfl rfl (.inl rfl) rfl (by omega) ix)) ?_
        refine .step rfl (HStep.plain rfl (AStep.indexAddr tabOk rfl rfl rfl rfl rfl rfl (.inl rfl) rfl (by omega) ia)) ?_
        refine .step rfl (HStep.plain rfl (AStep.indexAddr tabOk rfl rfl rfl rfl rfl rfl (.inl rfl) rfl (by omega) ix)) ?_
        refine .step rfl (HStep.plain rfl (AStep.indexAddr tabOk rfl rfl rfl rfl rfl rfl (.inl rfl) rfl (by omega) ia)) ?_
        refine .step rfl (HStep.litB tabOk rfl (by simp)) ?_
        refine .step rfl (HStep.guarded rfl rfl rfl (AStep.indexAddr tabOk rfl rfl rfl rfl rfl rfl (.inl rfl) rfl (by omega) ix)) ?_
        refine .step rfl (HStep.guarded rfl rfl rfl (AStep.indexAddr tabOk rfl rfl rfl rfl rfl rfl (.inl rfl) rfl (by omega) ia)) ?_
        refine .step rfl (HStep.guarded rfl rfl rfl (AStep.indexAddr tabOk rfl rfl rfl rfl rfl rfl (.inl rfl) rfl (by omega) ix)) ?_
        refine .step rfl (HStep.guarded rfl rfl rfl (AStep.indexAddr tabOk rfl rfl rfl rfl rfl rfl (.inl rfl) rfl (by omega) ia)) ?_
        exact .step rfl (HStep.guarded rfl rfl rfl (AStep.callP hΓ rfl rfl rfl rfl (by simp) hou s3)) .nil
      repeat' first | ((with_reducible refine oj ?_); refine zau ?_) | (with_reducible refine zst ?_) | (with_reducible refine cExitMiss ?_ ?_; rfl) | (with_reducible refine ok ?_; first | refine ACode.condT rfl ?_ | refine ACode.condF rfl ?_) | ((with_reducible refine oj ?_); first | refine zad ?_ | refine zsu ?_ | refine zne ?_ | refine zeq ?_ | refine zmx ?_ | refine zmn ?_ | refine AOps.unG rfl rfl rfl ?_)
      exact cInv ⟨x.alts.length - (i + 1), i + 1, id, by omega, ⟨by omega, rfl⟩, LessR.of rfl (by (repeat' first | exact FrSub.nil | refine FrSub.cons rfl (.ofEq rfl) ?_ | refine FrSub.oa rfl rfl ?_ | refine FrSub.consP rfl (.ofEq rfl) (by simp) ?_)) (by simp) (by repeat' first | exact LoSub.nil | refine LoSub.cons rfl ?_ rfl (by first | (simp; done) | exact ids_oaO (by simp)) ?_ | rfl | (refine (AObj.ren_pure _ _ ?_).symm; simp; done) | exact (ren_oaO _ _ _ _ fun _ => ids_vec (by simp; done)).symm | (simp [AObj.ren, renL, AC.ren]; done) | (simp [AObj.ren, renL, AC.ren]; rfl)) rfl rfl hou⟩
    · have hlt2 : i = x.alts.length := by simp at hb3; omega
      subst hlt2
      repeat' first | ((with_reducible refine oj ?_); refine zau ?_) | (with_reducible refine zst ?_) | (with_reducible refine cExitMiss ?_ ?_; rfl) | (with_reducible refine ok ?_; first | refine ACode.condT rfl ?_ | refine ACode.condF rfl ?_) | ((with_reducible refine oj ?_); first | refine zad ?_ | refine zsu ?_ | refine zne ?_ | refine zeq ?_ | refine zmx ?_ | refine zmn ?_ | refine AOps.unG rfl rfl rfl ?_)
      exact cInv ⟨e.length - (j + 1), j + 1, id, by omega, ⟨by omega, rfl⟩, LessR.of rfl (by (repeat' first | exact FrSub.nil | refine FrSub.cons rfl (.ofEq rfl) ?_ | refine FrSub.oa rfl rfl ?_ | refine FrSub.consP rfl (.ofEq rfl) (by simp) ?_)) (by simp) (by repeat' first | exact LoSub.nil | refine LoSub.cons rfl ?_ rfl (by first | (simp; done) | exact ids_oaO (by simp)) ?_ | rfl | (refine (AObj.ren_pure _ _ ?_).symm; simp; done) | exact (ren_oaO _ _ _ _ fun _ => ids_vec (by simp; done)).symm | (simp [AObj.ren, renL, AC.ren]; done) | (simp [AObj.ren, renL, AC.ren]; rfl)) rfl rfl hou⟩
  · have hlt : j = e.length := by simp at hb2; omega
    subst hlt
    repeat first | ((with_reducible refine oj ?_); refine zau ?_) | (with_reducible refine zst ?_) | (with_reducible refine cExitMiss ?_ ?_; rfl) | (with_reducible refine ok ?_; first | refine ACode.condT rfl ?_ | refine ACode.condF rfl ?_)
    exact APure.fin rfl (WkF.ofEq rfl) (by simp) hou rfl
end Go.Proofs.YtgdionbeeodaaaaDoor
/- Nodes that are built: N, B, V, walked. -/
namespace Go.Abs
theorem AStep.wk {E : Env} {o : Oper} {fr : Fr} {σ σ' : St} {x y : FV} (h : AStep E o fr σ x σ') (hw : WkF x y) : AStep E o fr σ y σ' :=
  fun F w C tmps hi hf next Q hk => h F w C tmps hi hf next Q fun u w' C' a b c => hk u w' C' a b (hw _ _ _ c)
end Go.Abs
namespace Go.Proofs.YtgdionbeeodaaaaDoor
open Go Go.Abs Go.CoreX
set_option maxRecDepth 10000
set_option linter.unusedVariables false
set_option linter.unusedSimpArgs false
variable {Γ : List (Nat × List AC)}
mutual
def encNd : Tr → List AC
  | .mk o n b k a => [int o, int n, .sl 1 (b.map cI), .any, .sl 2 (a.map cAlt), .sl 1 (encNds k)]
def encNds : List Tr → List (List AC)
  | [] => []
  | t :: ts => [.box (encNd t)] :: encNds ts
end
def cNd (t : Tr) : List AC := [int t.op, int t.n, .sl 1 (t.binds.map cI), .any, .sl 2 (t.alts.map cAlt), .sl 1 (encNds t.kids)]
theorem encNd_eq (t : Tr) : encNd t = cNd t := by cases t; simp [encNd, cNd]
theorem encNds_eq : ∀ l : List Tr, encNds l = l.map fun t => [.box (cNd t)]
  | [] => rfl
  | t :: ts => by simp [encNds, encNds_eq ts, encNd_eq]
theorem encNds_get {l : List Tr} {i : Nat} {t : Tr} (h : l[i]? = some t) : (encNds l)[i]? = some [.box (cNd t)] := by rw [encNds_eq]; simp [h]
mutual
theorem ids_encNd (p : Abs.Id → Prop) : ∀ t : Tr, idsL p (encNd t)
  | .mk o n b k a => by simp [encNd, ids_encNds p k]
theorem ids_encNds (p : Abs.Id → Prop) : ∀ l : List Tr, idsS p (encNds l)
  | [] => by simp [encNds]
  | t :: ts => by simp [encNds, ids_encNd p t, ids_encNds p ts]
end
attribute [simp] ids_encNds
@[simp] theorem ids_cNd (p : Abs.Id → Prop) (t : Tr) : idsL p (cNd t) := by simp [cNd]
@[simp] theorem len_encNds (l : List Tr) : (encNds l).length = l.length := by rw [encNds_eq]; simp
theorem N_ok (op n : Int) (ks : List Tr) : APure Tryd.prog Γ 51 [.one (int op), .one (int n), .one (.sl 1 (encNds ks))] (.one (.box (cNd (.mk op n [] ks [])))) := by
  intro ou
  refine AFn.walk 13 tabOk Tryd.func51 rfl (by kernel_rfl) rfl rfl fun hou => ?_
  iterate 14 (first | ((with_reducible refine oj ?_); refine zau ?_) | (with_reducible refine zst ?_) | (with_reducible refine cExitMiss ?_ ?_; rfl) | (with_reducible refine ok ?_; first | refine ACode.condT rfl ?_ | refine ACode.condF rfl ?_))
  refine AOps.freeze1 (.l 0) 6 rfl rfl ?_
  repeat first | ((with_reducible refine oj ?_); refine zau ?_) | (with_reducible refine zst ?_) | (with_reducible refine cExitMiss ?_ ?_; rfl) | (with_reducible refine ok ?_; first | refine ACode.condT rfl ?_ | refine ACode.condF rfl ?_)
  refine APure.fin rfl (.one (Wk.box ?_)) (by simp) hou rfl
  exact .cons (.refl _) (.cons (.refl _) (.cons (.nilS 1) (.cons (.any _) (.cons (.nilS 2) (.cons (.refl _) .nil)))))
theorem B_ok (op : Int) (b : List Int) (ks : List Tr) : APure Tryd.prog Γ 19 [.one (int op), .one (.sl 1 (b.map cI)), .one (.sl 1 (encNds ks))] (.one (.box (cNd (.mk op 0 b ks [])))) := by
  intro ou
  refine AFn.walk 13 tabOk Tryd.func19 rfl (by kernel_rfl) rfl rfl fun hou => ?_
  iterate 14 (first | ((with_reducible refine oj ?_); refine zau ?_) | (with_reducible refine zst ?_) | (with_reducible refine cExitMiss ?_ ?_; rfl) | (with_reducible refine ok ?_; first | refine ACode.condT rfl ?_ | refine ACode.condF rfl ?_))
  refine AOps.freeze1 (.l 0) 6 rfl rfl ?_
  repeat first | ((with_reducible refine oj ?_); refine zau ?_) | (with_reducible refine zst ?_) | (with_reducible refine cExitMiss ?_ ?_; rfl) | (with_reducible refine ok ?_; first | refine ACode.condT rfl ?_ | refine ACode.condF rfl ?_)
  refine APure.fin rfl (.one (Wk.box ?_)) (by simp) hou rfl
  exact .cons (.refl _) (.cons (.refl _) (.cons (.refl _) (.cons (.any _) (.cons (.nilS 2) (.cons (.refl _) .nil)))))
theorem V_ok (hΓ : ∀ g cs, (g, cs) ∈ Γ → idsL isO cs) (n : Int) : APure Tryd.prog Γ 44 [.one (int n)] (.one (.box (cNd (.mk 0 n [] [] [])))) := by
  intro ou
  refine AFn.walk 5 tabOk Tryd.func44 rfl (by kernel_rfl) rfl rfl fun hou => ?_
  repeat first | ((with_reducible refine oj ?_); refine zau ?_) | (with_reducible refine zst ?_) | (with_reducible refine cExitMiss ?_ ?_; rfl) | (with_reducible refine ok ?_; first | refine ACode.condT rfl ?_ | refine ACode.condF rfl ?_)
  refine AOps.callCW (ws := [.one (int 0), .one (int n), .one (.sl 1 (encNds []))]) hΓ (N_ok 0 n []) rfl rfl rfl rfl rfl rfl ?_ hou (by simp) ?_
  · exact .cons (.refl _) (.cons (.refl _) (.cons (.one (.nilS 1)) .nil))
  repeat first | ((with_reducible refine oj ?_); refine zau ?_) | (with_reducible refine zst ?_) | (with_reducible refine cExitMiss ?_ ?_; rfl) | (with_reducible refine ok ?_; first | refine ACode.condT rfl ?_ | refine ACode.condF rfl ?_)
  exact APure.fin rfl (WkF.ofEq rfl) (by simp) hou rfl
/-- What the walk of a node gives. -/
def IntoOk (Γ : List (Nat × List AC)) (t : Tr) : Prop := ∀ (ou : Outer) (ko kt : Nat) (out : List Ex), OuOk ou → ou ko = none → ou kt = none → ko ≠ kt → (listT out t).length ≤ 1048576 →
  AFn Tryd.prog Γ 64 [.one (.box (cNd t)), .one (.ptr (.o ko) 0)] (ouS ou ko kt (out.map cEx)) (fun r ou' => r = .one (int (((listT out t).length : Int) - 1)) ∧ ∃ kt', ou kt' = none ∧ ko ≠ kt' ∧ ou' = ouS ou ko kt' ((listT out t).map cEx))
set_option maxHeartbeats 1000000 in
theorem into_ok (hΓ : ∀ g cs, (g, cs) ∈ Γ → idsL isO cs) : ∀ t : Tr, okT t → IntoOk Γ t
  | .mk o n b ks a, hok => by
    obtain ⟨hb, hk, ha, ⟨hab, _⟩, hks⟩ := hok
    have ih : ∀ t ∈ ks, IntoOk Γ t := fun t ht => into_ok hΓ t (okTs_iff.1 hks t ht)
    intro ou ko kt out hou0 ho ht hne hsz
    have hsz2 : (listTs out ks).1.length < 1048576 := by simp only [listT, List.length_append, List.length_singleton] at hsz; omega
    refine AFn.walk 44 tabOk Tryd.func64 rfl (by kernel_rfl) rfl rfl fun hou => ?_
    repeat first | ((with_reducible refine oj ?_); refine zau ?_) | (with_reducible refine zst ?_) | (with_reducible refine cExitMiss ?_ ?_; rfl) | (with_reducible refine ok ?_; first | refine ACode.condT rfl ?_ | refine ACode.condF rfl ?_)
    refine ACode.grow 0 3 3 1 rfl rfl ?_
    refine ACode.loopR hΓ (α := Nat × Nat) (fun c => [(18, .one (int c.1)), (17, .one (int (encNds ks).length)), (16, .one (.sl 1 (encNds ks))), (5, .one (.ptr (.l 0) 0)), (1, .one (.ptr (.o ko) 0))])
      (fun c => ⟨2, [(1, .tok 3 1 c.1), (0, .cells [int o, int n, .sl 1 (b.map cI), .gs 1 ((listTs out (ks.take c.1)).2.map cI) (.l 1), .sl 2 (a.map cAlt)])], ouS ou ko c.2 ((listTs out (ks.take c.1)).1.map cEx)⟩)
      (fun m c => c.1 ≤ ks.length ∧ (ou c.2 = none ∧ ko ≠ c.2) ∧ m = ks.length - c.1) (a0 := (0, kt)) (ρ := id) ⟨by omega, ⟨ht, hne⟩, rfl⟩ (LessR.of rfl (by (repeat' first | exact FrSub.nil | refine FrSub.cons rfl (.ofEq rfl) ?_ | refine FrSub.oa rfl rfl ?_ | refine FrSub.consP rfl (.ofEq rfl) (by simp) ?_)) (by simp) ?_ rfl (by simp [listTs]; rfl) hou) fun m c hi => ?_
    · repeat' first | exact LoSub.nil | refine LoSub.cons rfl ?_ rfl (by first | (simp; done) | exact ids_oaO (by simp)) ?_ | rfl | (refine (AObj.ren_pure _ _ ?_).symm; simp; done) | exact (ren_oaO _ _ _ _ fun _ => ids_vec (by simp; done)).symm | (simp [AObj.ren, renL, AC.ren]; done) | (simp [AObj.ren, renL, AC.ren]; rfl)
      all_goals (simp [AObj.ren, renL, AC.ren, listTs]; rfl)
    obtain ⟨i, kt⟩ := c
    obtain ⟨hil, ⟨ht, hne⟩, rfl⟩ := hi
    simp only at hil ht hne
    have hle : (listTs out (ks.take i)).1.length ≤ (listTs out ks).1.length := by
      have := listTs_app (ks.take i) (ks.drop i) out
      rw [List.take_append_drop] at this
      rw [this]; exact listTs_le _ _
    repeat first | ((with_reducible refine oj ?_); refine zau ?_) | (with_reducible refine zst ?_) | (with_reducible refine cExitMiss ?_ ?_; rfl) | (with_reducible refine ok ?_; first | refine ACode.condT rfl ?_ | refine ACode.condF rfl ?_)
    refine ACode.cond rfl (fun hb3 => ?_) (fun hb3 => ?_)
    · have hlt2 : i < ks.length := by simpa using hb3
      obtain ⟨t, ht2⟩ := get_of_lt hlt2
      have hsn := listTs_snoc t (ks.take i) out
      rw [← take_get ht2] at hsn
      have hle2 : (listT (listTs out (ks.take i)).1 t).length ≤ 1048576 := by
        have := listTs_app (ks.take (i + 1)) (ks.drop (i + 1)) out
        rw [List.take_append_drop] at this
        have h2 := listTs_le (ks.drop (i + 1)) (listTs out (ks.take (i + 1))).1
        rw [← this, hsn] at h2
        simp only at h2
        omega
      have hcall := ih t (List.mem_of_getElem? ht2) ou ko kt (listTs out (ks.take i)).1 hou0 ho ht hne hle2
      have hil2 : ((listTs out (ks.take i)).2.map cI).length = i := by rw [List.length_map, listTs_ix_len]; simp; omega
      repeat first | ((with_reducible refine oj ?_); refine zau ?_) | (with_reducible refine zst ?_) | (with_reducible refine cExitMiss ?_ ?_; rfl) | (with_reducible refine ok ?_; first | refine ACode.condT rfl ?_ | refine ACode.condF rfl ?_)
      refine AOps.step1 rfl rfl rfl (AStep.indexAddr tabOk rfl rfl rfl rfl rfl rfl (.inl rfl) rfl (by omega) (encNds_get ht2)) ?_
      repeat first | ((with_reducible refine oj ?_); refine zau ?_) | (with_reducible refine zst ?_) | (with_reducible refine cExitMiss ?_ ?_; rfl) | (with_reducible refine ok ?_; first | refine ACode.condT rfl ?_ | refine ACode.condF rfl ?_)
      refine ACode.drawXR (va := .one (int (((listT (listTs out (ks.take i)).1 t).length : Int) - 1))) tabOk 6 4 []
        (fun σ => ∃ kt', ou kt' = none ∧ ko ≠ kt' ∧ σ = ⟨2, [(1, .tok 3 1 i), (0, .cells [int o, int n, .sl 1 (b.map cI), .gs 1 ((listTs out (ks.take i)).2.map cI) (.l 1), .sl 2 (a.map cAlt)])], ouS ou ko kt' ((listT (listTs out (ks.take i)).1 t).map cEx)⟩)
        follows (by kernel_rfl) rfl rfl rfl rfl rfl ?_ rfl ⟨rfl, rfl⟩ rfl ?_ .nil ?_ ?_
      · rintro σ ⟨kt', h1, h2, rfl⟩; rfl
      · refine AStepR.call hΓ rfl rfl rfl rfl (by simp) (ouS_ok hou0 (by simp)) hcall fun r ou' hq _ _ => ?_
        obtain ⟨rfl, kt', h1, h2, rfl⟩ := hq
        exact ⟨rfl, kt', h1, h2, rfl⟩
      · intro σ _; exact .nil
      rintro σ ⟨kt', h1, h2, rfl⟩
      repeat first | ((with_reducible refine oj ?_); refine zau ?_) | (with_reducible refine zst ?_) | (with_reducible refine cExitMiss ?_ ?_; rfl) | (with_reducible refine ok ?_; first | refine ACode.condT rfl ?_ | refine ACode.condF rfl ?_)
      refine AOps.app tabOk rfl rfl rfl rfl rfl rfl rfl rfl rfl (Base.gs' _ _ _ _ _ (by rfl) hil2.symm) (.sl _ _) rfl ?_ ?_ ?_
      · rw [hil2]; show (i + 1) * 8 ≤ _; omega
      · rw [hil2]; show i + 1 ≤ _; omega
      repeat' first | ((with_reducible refine oj ?_); refine zau ?_) | (with_reducible refine zst ?_) | (with_reducible refine cExitMiss ?_ ?_; rfl) | (with_reducible refine ok ?_; first | refine ACode.condT rfl ?_ | refine ACode.condF rfl ?_) | ((with_reducible refine oj ?_); first | refine zad ?_ | refine zsu ?_ | refine zne ?_ | refine zeq ?_ | refine zmx ?_ | refine zmn ?_ | refine AOps.unG rfl rfl rfl ?_)
      refine cInv ⟨ks.length - (i + 1), (i + 1, kt'), fun k => if k = 1 then 2 else k, by omega, ⟨by omega, ⟨h1, h2⟩, rfl⟩, LessR.of rfl (by (repeat' first | exact FrSub.nil | refine FrSub.cons rfl (.ofEq rfl) ?_ | refine FrSub.oa rfl rfl ?_ | refine FrSub.consP rfl (.ofEq rfl) (by simp) ?_)) (by simp) ?_ rfl (by simp only [hsn]; rfl) (ouS_ok hou0 (by simp))⟩
      repeat' first | exact LoSub.nil | refine LoSub.cons rfl ?_ rfl (by first | (simp; done) | exact ids_oaO (by simp)) ?_ | rfl | (refine (AObj.ren_pure _ _ ?_).symm; simp; done) | exact (ren_oaO _ _ _ _ fun _ => ids_vec (by simp; done)).symm | (simp [AObj.ren, renL, AC.ren]; done) | (simp [AObj.ren, renL, AC.ren]; rfl)
      · simp only [AObj.ren, List.length_append, hil2]; rfl
      · simp only [hsn]; simp only [AObj.ren, renL, AC.ren, ren_cIs, ren_cAlts]; rw [List.map_append]; rfl
    have hlt2 : i = ks.length := by simp at hb3; omega
    subst hlt2
    rw [List.take_length] at *
    repeat first | ((with_reducible refine oj ?_); refine zau ?_) | (with_reducible refine zst ?_) | (with_reducible refine cExitMiss ?_ ?_; rfl) | (with_reducible refine ok ?_; first | refine ACode.condT rfl ?_ | refine ACode.condF rfl ?_)
    have hT : listT out (.mk o n b ks a) = (listTs out ks).1 ++ [⟨o, n, b, (listTs out ks).2, a⟩] := by simp only [listT]
    have hmap : (listTs out ks).1.map cEx ++ [cEx ⟨o, n, b, (listTs out ks).2, a⟩] = (listT out (.mk o n b ks a)).map cEx := by rw [hT, List.map_append]; rfl
    have hw : WkF (.agg [int o, int n, .sl 1 (b.map cI), .gs 1 ((listTs out ks).2.map cI) (.l 1), .sl 2 (a.map cAlt)]) (.agg (cEx ⟨o, n, b, (listTs out ks).2, a⟩)) := WkF.agg (.cons (.refl _) (.cons (.refl _) (.cons (.refl _) (.cons (.gsE rfl) (.cons (.refl _) .nil)))))
    have hko : (bif Nat.beq ko kt then some AObj.dead else ouS ou ko kt ((listTs out ks).1.map cEx) ko) = some (.cells [.gs 5 ((listTs out ks).1.map cEx) (.o kt)]) := by rw [beq_no hne]; exact ouS_o hne _
    refine ACode.drawXH (va := .one (.gs 5 ((listTs out ks).1.map cEx ++ [cEx ⟨o, n, b, (listTs out ks).2, a⟩]) (.l 2))) (σ1 := (St.set ⟨2, [(1, .tok 3 1 ks.length), (0, .cells [int o, int n, .sl 1 (b.map cI), .gs 1 ((listTs out ks).2.map cI) (.l 1), .sl 2 (a.map cAlt)])], ouS ou ko kt ((listTs out ks).1.map cEx)⟩ (.o kt) .dead).push (.tok 53 5 ((listTs out ks).1.map cEx ++ [cEx ⟨o, n, b, (listTs out ks).2, a⟩]).length))
      tabOk 7 6 [(3, .one (.gs 5 ((listTs out ks).1.map cEx) (.o kt))), (4, .agg (cEx ⟨o, n, b, (listTs out ks).2, a⟩))] follows (by kernel_rfl) rfl rfl rfl rfl rfl rfl rfl ?_ ?_ ?_ ?_
    · refine HStep.plain rfl (AStep.append (s := 5) (es := (listTs out ks).1.map cEx) (news := [cEx ⟨o, n, b, (listTs out ks).2, a⟩]) (ti := ti22) (σ := ⟨2, [(1, .tok 3 1 ks.length), (0, .cells [int o, int n, .sl 1 (b.map cI), .gs 1 ((listTs out ks).2.map cI) (.l 1), .sl 2 (a.map cAlt)])], ouS ou ko kt ((listTs out ks).1.map cEx)⟩) tabOk rfl rfl rfl rfl rfl rfl (Base.gs' _ 53 5 _ (.o kt) (ouS_t ou ko kt _) rfl) (.sl _ _) rfl ?_ ?_)
      · simp; show (_ + 1) * 88 ≤ _; omega
      · simp; omega
    · refine .step rfl (HStep.plain rfl (AStep.loadOwn tabOk rfl rfl rfl rfl rfl (ouS_o hne _) rfl)) ?_
      exact .step rfl (HStep.plain rfl (AStep.wk (AStep.ofOp tabOk rfl) hw)) .nil
    · refine .step rfl (HStep.plain rfl (AStep.loadOwn tabOk rfl rfl rfl rfl rfl hko rfl)) ?_
      exact .step rfl (HStep.plain rfl (AStep.wk (AStep.ofOp tabOk rfl) hw)) .nil
    rw [hmap]
    repeat first | ((with_reducible refine oj ?_); refine zau ?_) | (with_reducible refine zst ?_) | (with_reducible refine cExitMiss ?_ ?_; rfl) | (with_reducible refine ok ?_; first | refine ACode.condT rfl ?_ | refine ACode.condF rfl ?_)
    refine AOps.storeOwn (cs := [.gs 5 ((listTs out ks).1.map cEx) (.o kt)]) tabOk rfl rfl rfl rfl rfl rfl rfl hko (by simp) ?_
    refine AOps.cede 2 (show 2 < 3 by omega) fun k hk => ⟨[(1, .one (.ptr (.o ko) 0))], ⟨3, [], ouS ou ko k ((listT out (.mk o n b ks a)).map cEx)⟩, ⟨fun d x hd => ?_, rfl, fun i x hx => ?_⟩, ?_⟩
    · by_cases e : 1 = d
      · subst e
        simp [Fr.get] at hd; subst hd
        exact ⟨_, rfl, WkF.ofEq rfl⟩
      · simp [Fr.get, beq_no e] at hd
    · have hk' : (bif Nat.beq k ko then some (AObj.cells [.gs 5 ((listT out (.mk o n b ks a)).map cEx) (.l 2)]) else bif Nat.beq k kt then some AObj.dead else ouS ou ko kt ((listTs out ks).1.map cEx) k) = none := hk
      have k1 : k ≠ ko := fun e => by subst e; simp at hk'
      rw [beq_no k1] at hk'
      have k2 : k ≠ kt := fun e => by subst e; simp at hk'
      rw [beq_no k2] at hk'
      simp only [cond_false, ouS_w k1 k2] at hk'
      cases i with
      | l m => cases hx
      | o m =>
        have hx' : ouS ou ko k ((listT out (.mk o n b ks a)).map cEx) m = some x := hx
        by_cases e : m = k
        · subst e
          rw [ouS_t] at hx'; cases hx'
          exact ⟨.l 2, _, rfl, rfl, rfl⟩
        · by_cases e2 : m = ko
          · subst e2
            rw [ouS_o e] at hx'; cases hx'
            refine ⟨.o m, .cells [.gs 5 ((listT out (.mk o n b ks a)).map cEx) (.l 2)], ?_, rfl, ?_⟩
            · show (bif Nat.beq m m then _ else _) = _; rw [beq_self]; rfl
            · simp only [AObj.sub, subL, AC.sub]; rw [subS_o _ (by simp)]; rfl
          · rw [ouS_w e2 e] at hx'
            have e3 : m ≠ kt := fun e => by rw [e, ht] at hx'; cases hx'
            refine ⟨.o m, x, ?_, rfl, (AObj.sub_o x (hou0 m x hx')).symm⟩
            show (bif Nat.beq m ko then _ else bif Nat.beq m kt then _ else ouS ou ko kt _ m) = _
            rw [beq_no e2, beq_no e3]
            exact (ouS_w e2 e3 _).trans hx'
    · have hk' : (bif Nat.beq k ko then some (AObj.cells [.gs 5 ((listT out (.mk o n b ks a)).map cEx) (.l 2)]) else bif Nat.beq k kt then some AObj.dead else ouS ou ko kt ((listTs out ks).1.map cEx) k) = none := hk
      have k1 : k ≠ ko := fun e => by subst e; simp at hk'
      rw [beq_no k1] at hk'
      have k2 : k ≠ kt := fun e => by subst e; simp at hk'
      rw [beq_no k2] at hk'
      simp only [cond_false, ouS_w k1 k2] at hk'
      repeat first | ((with_reducible refine oj ?_); refine zau ?_) | (with_reducible refine zst ?_) | (with_reducible refine cExitMiss ?_ ?_; rfl) | (with_reducible refine ok ?_; first | refine ACode.condT rfl ?_ | refine ACode.condF rfl ?_)
      refine AOps.step1 rfl rfl rfl (AStep.loadOwn tabOk rfl rfl rfl rfl rfl (ouS_o (Ne.symm k1) _) rfl) ?_
      repeat' first | ((with_reducible refine oj ?_); refine zau ?_) | (with_reducible refine zst ?_) | (with_reducible refine cExitMiss ?_ ?_; rfl) | (with_reducible refine ok ?_; first | refine ACode.condT rfl ?_ | refine ACode.condF rfl ?_) | ((with_reducible refine oj ?_); first | refine zad ?_ | refine zsu ?_ | refine zne ?_ | refine zeq ?_ | refine zmx ?_ | refine zmn ?_ | refine AOps.unG rfl rfl rfl ?_)
      refine AFn.fin' rfl (WkF.ofEq ?_) (by simp) (ouS_ok hou0 (by simp)) ⟨rfl, k, hk', Ne.symm k1, rfl⟩
      simp
end Go.Proofs.YtgdionbeeodaaaaDoor
/- A node's list, coreFact, CoreOrdered, walked. -/
namespace Go.Proofs.YtgdionbeeodaaaaDoor
open Go Go.Abs Go.CoreX
set_option maxRecDepth 10000
set_option linter.unusedVariables false
set_option linter.unusedSimpArgs false
variable {Γ : List (Nat × List AC)}
theorem NodeList_ok (hΓ : ∀ g cs, (g, cs) ∈ Γ → idsL isO cs) (t : Tr) (ht : okT t) (hsz : (listT [] t).length ≤ 1048576) : APure Tryd.prog Γ 39 [.one (.box (cNd t))] (.one (.sl 5 ((listT [] t).map cEx))) := by
  intro ou
  refine AFn.walk 7 tabOk Tryd.func39 rfl (by kernel_rfl) rfl rfl fun hou => ?_
  iterate 11 (first | ((with_reducible refine oj ?_); refine zau ?_) | (with_reducible refine zst ?_) | (with_reducible refine cExitMiss ?_ ?_; rfl) | (with_reducible refine ok ?_; first | refine ACode.condT rfl ?_ | refine ACode.condF rfl ?_))
  refine ACode.grow 0 0 53 5 rfl rfl ?_
  repeat first | ((with_reducible refine oj ?_); refine zau ?_) | (with_reducible refine zst ?_) | (with_reducible refine cExitMiss ?_ ?_; rfl) | (with_reducible refine ok ?_; first | refine ACode.condT rfl ?_ | refine ACode.condF rfl ?_)
  refine AOps.cede 0 (show 0 < 2 by omega) fun ko hko => ⟨[(4, .one (.box (cNd t))), (3, .one (.ptr (.o ko) 0))],
    ⟨2, [(1, .tok 53 5 0)], updO ou ko (.cells [.gs 5 [] (.l 1)])⟩, ⟨CedFr.get ?_, rfl, fun i x hx => ?_⟩, ?_⟩
  · exact .cons rfl (FV.sub_o _ (by simp)) (.cons rfl rfl .nil)
  · have hko : ou ko = none := hko
    cases i with
    | l m =>
      by_cases e : 1 = m
      · subst e; cases hx; exact ⟨.l 1, _, rfl, rfl, rfl⟩
      · simp [St.get, lookL, beq_no e] at hx
    | o m =>
      have hx' : updO ou ko (.cells [.gs 5 [] (.l 1)]) m = some x := hx
      by_cases e : ko = m
      · subst e; rw [updO_same] at hx'; cases hx'; exact ⟨.l 0, _, rfl, rfl, rfl⟩
      · rw [updO_ne _ e] at hx'
        exact ⟨.o m, x, hx', rfl, (AObj.sub_o x (hou m x hx')).symm⟩
  have hko : ou ko = none := hko
  refine AOps.cede 1 (show 1 < 2 by omega) fun kt hkt => ⟨[(4, .one (.box (cNd t))), (3, .one (.ptr (.o ko) 0))],
    ⟨2, [], ouS ou ko kt (([] : List Ex).map cEx)⟩, ⟨CedFr.get ?_, rfl, fun i x hx => ?_⟩, ?_⟩
  · exact .cons rfl (FV.sub_o _ (by simp)) (.cons rfl rfl .nil)
  · have hkt : updO ou ko (.cells [.gs 5 [] (.l 1)]) kt = none := hkt
    have hkto : ko ≠ kt := fun e => by subst e; rw [updO_same] at hkt; cases hkt
    cases i with
    | l m => cases hx
    | o m =>
      have hx' : ouS ou ko kt (([] : List Ex).map cEx) m = some x := hx
      by_cases e : m = kt
      · subst e; rw [ouS_t] at hx'; cases hx'; exact ⟨.l 1, _, rfl, rfl, rfl⟩
      · by_cases e2 : m = ko
        · subst e2; rw [ouS_o hkto] at hx'; cases hx'
          exact ⟨.o m, .cells [.gs 5 [] (.l 1)], updO_same _ _ _, rfl, rfl⟩
        · rw [ouS_w e2 e] at hx'
          refine ⟨.o m, x, ?_, rfl, (AObj.sub_o x (hou m x hx')).symm⟩
          show updO ou ko (.cells [.gs 5 [] (.l 1)]) m = _
          rw [updO_ne _ (Ne.symm e2)]; exact hx'
  have hkt : updO ou ko (.cells [.gs 5 [] (.l 1)]) kt = none := hkt
  have hot : ko ≠ kt := fun e => by subst e; rw [updO_same] at hkt; cases hkt
  rw [updO_ne _ hot] at hkt
  have hcall := into_ok hΓ t ht ou ko kt [] hou hko hkt hot hsz
  refine AOps.call1 hΓ rfl rfl rfl rfl rfl rfl rfl (by simp) (ouS_ok hou (by simp)) hcall fun r ou' hq hids hou' => ?_
  obtain ⟨rfl, kt', h1, h2, rfl⟩ := hq
  repeat first | ((with_reducible refine oj ?_); refine zau ?_) | (with_reducible refine zst ?_) | (with_reducible refine cExitMiss ?_ ?_; rfl) | (with_reducible refine ok ?_; first | refine ACode.condT rfl ?_ | refine ACode.condF rfl ?_)
  refine AOps.step1 rfl rfl rfl (AStep.loadOwn tabOk rfl rfl rfl rfl rfl (ouS_o h2 _) rfl) ?_
  refine AOps.wk 6 rfl (y := .one (.sl 5 ((listT [] t).map cEx))) (.one (.gsE rfl)) ?_
  refine AOps.lessO ⟨2, [], ou⟩ rfl (fun i o ho => ?_) ?_
  · cases i with
    | l m => cases ho
    | o m =>
      have ho' : ou m = some o := ho
      show ouS ou ko kt' _ m = some o
      have e1 : m ≠ ko := fun e => by rw [e, hko] at ho'; cases ho'
      have e3 : m ≠ kt' := fun e => by rw [← e, ho'] at h1; cases h1
      rw [ouS_w e1 e3]; exact ho'
  repeat first | ((with_reducible refine oj ?_); refine zau ?_) | (with_reducible refine zst ?_) | (with_reducible refine cExitMiss ?_ ?_; rfl) | (with_reducible refine ok ?_; first | refine ACode.condT rfl ?_ | refine ACode.condF rfl ?_)
  exact APure.fin rfl (WkF.ofEq rfl) (by simp) hou rfl
def factA : Tr := .mk 2 0 [1] [.mk 0 1 [] [] []] []
def factB : Tr := .mk 2 0 [2] [.mk 0 2 [] [] []] []
end Go.Proofs.YtgdionbeeodaaaaDoor
