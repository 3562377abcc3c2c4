/- Body and Check, walked. -/
import Derived.Test.YtgdionbeeodaaaaDoorB7
set_option linter.unusedVariables false
set_option linter.unusedSimpArgs false
namespace Go.CoreX
theorem okT_grow {e : List Ex} (h : ∀ x ∈ e, x.binds.length ≤ 1048576 ∧ x.kids.length ≤ 1048576 ∧ x.alts.length ≤ 1048576 ∧ (∀ a ∈ x.alts, a.binds.length ≤ 1048576) ∧ x.binds.length + (x.alts.flatMap (·.binds)).length ≤ 4194304) (hk : kidsIn e) : ∀ t ∈ growL e, okT t := by
  revert h hk
  refine snoc_ind (P := fun e => (∀ x ∈ e, x.binds.length ≤ 1048576 ∧ x.kids.length ≤ 1048576 ∧ x.alts.length ≤ 1048576 ∧ (∀ a ∈ x.alts, a.binds.length ≤ 1048576) ∧ x.binds.length + (x.alts.flatMap (·.binds)).length ≤ 4194304) → kidsIn e → ∀ t ∈ growL e, okT t) (fun _ _ t ht => by simp [growL] at ht) (fun e x ih h hk t ht => ?_) e
  obtain ⟨h1, h2⟩ := kidsIn_snoc.1 hk
  have ih := ih (fun y hy => h y (by simp [hy])) h1
  rw [growL_snoc] at ht
  rcases List.mem_append.1 ht with ht | ht
  · exact ih t ht
  · simp at ht
    subst ht
    obtain ⟨a1, a2, a3, a4, a5⟩ := h x (by simp)
    refine ⟨a1, by simpa using a2, a3, ⟨a4, a5⟩, okTs_iff.2 fun s hs => ?_⟩
    obtain ⟨k, hk2, rfl⟩ := List.mem_map.1 hs
    have hkb := h2 k hk2
    have hl : k.toNat < (growL e).length := by rw [growL_len]; omega
    rw [List.getD_eq_getElem?_getD, List.getElem?_eq_getElem hl]
    exact ih _ (List.getElem_mem hl)
theorem grow_mem {e : List Ex} (h : e ≠ []) : grow e ∈ growL e := by
  have hl : e.length - 1 < (growL e).length := by rw [growL_len]; have := List.length_pos_iff.2 h; omega
  unfold grow
  rw [List.getD_eq_getElem?_getD, List.getElem?_eq_getElem hl]
  exact List.getElem_mem hl
theorem firstErr_at {α : Type} {f : α → Int} : ∀ {l : List α} {j : Nat} {x : α}, (∀ y ∈ l.take j, f y = 0) → l[j]? = some x → f x ≠ 0 → firstErr f l = f x
  | [], j, x, _, h, _ => by simp at h
  | a :: l, 0, x, _, h, hx => by simp at h; subst h; simp [firstErr, hx]
  | a :: l, j + 1, x, h0, h, hx => by
    have h1 := h0 a (by simp)
    simp only [firstErr, h1]
    exact firstErr_at (l := l) (j := j) (fun y hy => h0 y (by simp [hy])) (by simpa using h) hx
theorem freeOf_len (t : Tr) : (freeOf t).length ≤ (listT [] t).length := by
  have h1 : (freeOf t).Nodup := (sortS_sorted (occT [] t)).imp fun {a b} h => by omega
  have h2 := nodup_le h1 (m := occB (fun _ => 0) t) fun x hx => by rw [freeOf_occB] at hx; exact (sortS_mem x _).1 hx
  have h3 := occB_len t (fun _ => 0) []
  simp at h3
  omega
theorem len_tree {e : List Ex} (h : IsTree e) : (listT [] (grow e)).length = e.length := by
  have hp := labs_perm h (isTree_list (grow e)) (grow_list _).symm
  rw [← len_labs e, ← len_labs]; exact hp.length_eq.symm
end Go.CoreX
namespace Go.Proofs.YtgdionbeeodaaaaDoor
open Go Go.Abs Go.CoreX
set_option maxRecDepth 10000
structure okB (e : List Ex) : Prop where
  eo : okE e
  b : ∀ x ∈ e, x.binds.length + (x.alts.flatMap (·.binds)).length ≤ 4194304
theorem okB.ex {e : List Ex} (h : okB e) : ∀ x ∈ e, (exBinders x).length ≤ 4194304 ∧ x.binds.length + (x.alts.flatMap (·.binds)).length ≤ 4194304 := fun x hx => by
  have h1 := h.b x hx
  refine ⟨?_, h1⟩
  unfold exBinders bindersN
  rw [List.length_append]
  split
  · omega
  · simp only [List.length_nil]; omega
theorem okB.t {e : List Ex} (h : okB e) (hk : kidsIn e) (hne : e ≠ []) : okT (grow e) := okT_grow (fun x hx => ⟨(h.eo.x x hx).b, (h.eo.x x hx).k, (h.eo.x x hx).a, (h.eo.x x hx).ab, h.b x hx⟩) hk _ (grow_mem hne)
theorem hΓcF : ∀ g cs, (g, cs) ∈ Γc → idsL (fun _ => False) cs := fun g cs h => by
  simp [Γc] at h
  first
    | (obtain ⟨rfl, rfl⟩ := h; simp [arC, arityL]; done)
    | (rcases h with ⟨rfl, rfl⟩ | ⟨rfl, rfl⟩ <;> simp [arC, orC, arityL])
set_option maxHeartbeats 1000000 in
theorem Body_ok (e : List Ex) (he : okB e) (params : List Int) (hp : params.length ≤ 1048576) (flat : Bool) :
    APure Tryd.prog Γc 45 [.one (.sl 5 (e.map cEx)), .one (.sl 1 (params.map cI)), .one (.lit (.bool flat))] (.one (int (body e params flat))) := by
  have hel := he.eo.l
  intro ou
  refine AFn.walk 62 tabOk Tryd.func45 rfl (by kernel_rfl) rfl rfl fun hou => ?_
  refine zA ?_
  refine AOps.freeze1 (.l 0) 3 rfl rfl ?_
  refine zca hΓc (treeError_ok hΓc e he.eo) hou ?_
  refine zA ?_
  refine ACode.cond rfl (fun hb => ?_) (fun hb => ?_)
  · have hb' : treeErr e ≠ 0 := by simpa using hb
    refine zA ?_
    refine APure.fin rfl (WkF.ofEq ?_) (by simp) hou rfl
    unfold body
    rw [if_pos hb']
  have h1 : treeErr e = 0 := by simpa using hb
  clear hb
  obtain ⟨t1, t2, t3⟩ := (treeErr_iff e).1 h1
  have hn : body e params flat = if firstErr (nodeErrF flat e) e ≠ 0 then firstErr (nodeErrF flat e) e else if hasDup (params ++ allBinders e) = true then 7 else if (freeOf (grow e)).all (fun n => params.contains n) = true then 0 else 6 := by
    unfold body; rw [if_neg (by simpa using h1)]
  refine zA ?_
  refine ACode.loopR hΓc (α := Nat) (fun j => [(20, .one (int j)), (19, .one (int (e.map cEx).length)), (18, .one (.sl 5 (e.map cEx))), (3, .one (.box [.sl 5 (e.map cEx)])), (2, .one (.lit (.bool flat))), (1, .one (.sl 1 (params.map cI)))])
    (fun j => ⟨0, [], ou⟩) (fun m j => j ≤ e.length ∧ (∀ x ∈ e.take j, nodeErrF flat e x = 0) ∧ m = e.length - j) (a0 := 0) (ρ := id) ⟨by omega, by simp, rfl⟩ (LessR.of rfl (by (repeat' first | exact FrSub.nil | refine zfc ?_ | refine zfo ?_ | refine zfp ?_)) (by simp) (by repeat' first | exact LoSub.nil | refine zlc ?_ | refine zld ?_ ?_ | rfl) rfl rfl hou) fun m j hj => ?_
  obtain ⟨hjl, hno, rfl⟩ := hj
  refine zA ?_
  refine ACode.cond rfl (fun hb2 => ?_) (fun hb2 => ?_)
  · have hlt : j < e.length := by simpa using hb2
    obtain ⟨x, hx⟩ := get_of_lt hlt
    have hxm := List.mem_of_getElem? hx
    have hxo := he.eo.x x hxm
    have bad : nodeErrF flat e x ≠ 0 → body e params flat = nodeErrF flat e x := fun h => by
      rw [hn, firstErr_at hno hx h, if_pos h]
    have hkk : ∀ k ∈ x.kids, 0 ≤ k ∧ k.toNat < e.length := fun k hk => by have := kids_lt t2.k hxm k hk; omega
    have hcall := nodeError_ok e x hxo hkk
    refine zA ?_
    refine AOps.step1 rfl rfl rfl (AStep.indexAddr tabOk rfl rfl rfl rfl rfl rfl (.inl rfl) rfl (by omega) (map_get hx)) ?_
    cases flat with
    | false =>
      have hE : nodeErrF false e x = if flatOnly x.op = true then 3 else nodeErr e x := by simp [nodeErrF]
      repeat' first | refine zN ?_ | (with_reducible refine oj ?_; refine AOps.splitS rfl rfl rfl rfl (fun hb => ?_) (fun hb => ?_)) | (with_reducible refine ok ?_; first | refine ACode.condS rfl (fun hb => ?_) (fun hb => ?_) | refine ACode.cond rfl (fun hb => ?_) (fun hb => ?_))
      refine zca hΓc (flatOnly_ok x.op) hou ?_
      repeat' first | refine zN ?_ | (with_reducible refine oj ?_; refine AOps.splitS rfl rfl rfl rfl (fun hb => ?_) (fun hb => ?_)) | (with_reducible refine ok ?_; first | refine ACode.condS rfl (fun hb => ?_) (fun hb => ?_) | refine ACode.cond rfl (fun hb => ?_) (fun hb => ?_))
      all_goals try
        (refine APure.fin rfl (WkF.ofEq ?_) (by simp) hou rfl
         rw [bad (by rw [hE, if_pos hb]; decide), hE, if_pos hb]
         done)
      rw [if_neg (by rw [hb]; decide)] at hE
      refine zca hΓc hcall hou ?_
      refine zA ?_
      refine ACode.cond rfl (fun hb3 => ?_) (fun hb3 => ?_)
      · have h3 : nodeErr e x ≠ 0 := by simpa using hb3
        refine zA ?_
        refine APure.fin rfl (WkF.ofEq ?_) (by simp) hou rfl
        rw [bad (by rw [hE]; exact h3), hE]
      · have h3 : nodeErr e x = 0 := by simpa using hb3
        refine zM ?_
        exact cInv ⟨e.length - (j + 1), j + 1, id, by omega, ⟨by omega, take_all hno hx (by rw [hE]; exact h3), rfl⟩, LessR.of rfl (by (repeat' first | exact FrSub.nil | refine zfc ?_ | refine zfo ?_ | refine zfp ?_)) (by simp) (by repeat' first | exact LoSub.nil | refine zlc ?_ | refine zld ?_ ?_ | rfl) rfl rfl hou⟩
    | true =>
      have hE : nodeErrF true e x = if coreOnly x.op = true then 3 else nodeErr e x := by simp [nodeErrF]
      repeat' first | refine zN ?_ | (with_reducible refine oj ?_; refine AOps.splitS rfl rfl rfl rfl (fun hb => ?_) (fun hb => ?_)) | (with_reducible refine ok ?_; first | refine ACode.condS rfl (fun hb => ?_) (fun hb => ?_) | refine ACode.cond rfl (fun hb => ?_) (fun hb => ?_))
      refine zca hΓc (coreOnly_ok x.op) hou ?_
      repeat' first | refine zN ?_ | (with_reducible refine oj ?_; refine AOps.splitS rfl rfl rfl rfl (fun hb => ?_) (fun hb => ?_)) | (with_reducible refine ok ?_; first | refine ACode.condS rfl (fun hb => ?_) (fun hb => ?_) | refine ACode.cond rfl (fun hb => ?_) (fun hb => ?_))
      all_goals try
        (refine APure.fin rfl (WkF.ofEq ?_) (by simp) hou rfl
         rw [bad (by rw [hE, if_pos hb]; decide), hE, if_pos hb]
         done)
      rw [if_neg (by rw [hb]; decide)] at hE
      refine zca hΓc hcall hou ?_
      refine zA ?_
      refine ACode.cond rfl (fun hb3 => ?_) (fun hb3 => ?_)
      · have h3 : nodeErr e x ≠ 0 := by simpa using hb3
        refine zA ?_
        refine APure.fin rfl (WkF.ofEq ?_) (by simp) hou rfl
        rw [bad (by rw [hE]; exact h3), hE]
      · have h3 : nodeErr e x = 0 := by simpa using hb3
        refine zM ?_
        exact cInv ⟨e.length - (j + 1), j + 1, id, by omega, ⟨by omega, take_all hno hx (by rw [hE]; exact h3), rfl⟩, LessR.of rfl (by (repeat' first | exact FrSub.nil | refine zfc ?_ | refine zfo ?_ | refine zfp ?_)) (by simp) (by repeat' first | exact LoSub.nil | refine zlc ?_ | refine zld ?_ ?_ | rfl) rfl rfl hou⟩
  have hlt : j = e.length := by simp at hb2; omega
  subst hlt
  rw [List.take_length] at hno
  rw [if_neg (by rw [Classical.not_not]; exact (firstErr_zero _ _).2 hno)] at hn
  clear hno hb2 hjl
  have hgt := he.t t2.k t2.ne
  refine zA ?_
  refine zca hΓc (twice_ok hΓc e he.eo params hp he.ex) hou ?_
  refine zA ?_
  refine ACode.cond rfl (fun hb => ?_) (fun hb => ?_)
  · refine zA ?_
    refine APure.fin rfl (WkF.ofEq ?_) (by simp) hou rfl
    rw [hn, if_pos hb]
  rw [if_neg (by rw [hb]; decide)] at hn
  refine zA ?_
  refine zca hΓc (Grow_ok hΓc e he.eo t2.k t2.ne) hou ?_
  refine zca hΓc (FreeOf_ok hΓc hΓcF sortOk sortNil (grow e) hgt (by omega) (by rw [len_tree t2]; omega)) hou ?_
  have hfl := freeOf_len (grow e)
  rw [len_tree t2] at hfl
  generalize freeOf (grow e) = fs at hn hfl
  refine zA ?_
  refine ACode.loopR hΓc (α := Nat) (fun j => [(53, .one (int j)), (52, .one (int (fs.map cI).length)), (51, .one (.sl 1 (fs.map cI))), (1, .one (.sl 1 (params.map cI)))])
    (fun j => ⟨0, [], ou⟩) (fun m j => j ≤ fs.length ∧ (∀ x ∈ fs.take j, params.contains x = true) ∧ m = fs.length - j) (a0 := 0) (ρ := id) ⟨by omega, by simp, rfl⟩ (LessR.of rfl (by (repeat' first | exact FrSub.nil | refine zfc ?_ | refine zfo ?_ | refine zfp ?_)) (by simp) (by repeat' first | exact LoSub.nil | refine zlc ?_ | refine zld ?_ ?_ | rfl) rfl rfl hou) fun m j hj => ?_
  obtain ⟨hjl, hno, rfl⟩ := hj
  refine zA ?_
  refine ACode.cond rfl (fun hb2 => ?_) (fun hb2 => ?_)
  · have hlt : j < fs.length := by simpa using hb2
    obtain ⟨k, hk⟩ := get_of_lt hlt
    refine zA ?_
    refine AOps.step1 rfl rfl rfl (AStep.indexAddr tabOk rfl rfl rfl rfl rfl rfl (.inl rfl) rfl (by omega) (map_get hk)) ?_
    refine zA ?_
    refine zca hΓc (Contains_ok hΓc params hp k) hou ?_
    refine zA ?_
    refine ACode.cond rfl (fun hb3 => ?_) (fun hb3 => ?_)
    · refine zA ?_
      refine APure.fin rfl (WkF.ofEq ?_) (by simp) hou rfl
      rw [hn, if_neg]
      rw [List.all_eq_true]
      intro h
      have := h k (List.mem_of_getElem? hk)
      rw [this] at hb3; cases hb3
    · refine zM ?_
      exact cInv ⟨fs.length - (j + 1), j + 1, id, by omega, ⟨by omega, take_all hno hk (by simpa using hb3), rfl⟩, LessR.of rfl (by (repeat' first | exact FrSub.nil | refine zfc ?_ | refine zfo ?_ | refine zfp ?_)) (by simp) (by repeat' first | exact LoSub.nil | refine zlc ?_ | refine zld ?_ ?_ | rfl) rfl rfl hou⟩
  · have hlt : j = fs.length := by simp at hb2; omega
    subst hlt
    rw [List.take_length] at hno
    refine zA ?_
    refine APure.fin rfl (WkF.ofEq ?_) (by simp) hou rfl
    rw [hn, if_pos (List.all_eq_true.2 hno)]
theorem Check_ok (e : List Ex) (he : okB e) : APure Tryd.prog Γc 15 [.one (.sl 5 (e.map cEx))] (.one (int (check e))) := by
  intro ou
  refine AFn.walk 5 tabOk Tryd.func15 rfl (by kernel_rfl) rfl rfl fun hou => ?_
  refine zA ?_
  refine AOps.callCW (ws := [.one (.sl 5 (e.map cEx)), .one (.sl 1 (([] : List Int).map cI)), .one (.lit (.bool false))]) hΓc (Body_ok e he [] (by simp) false) rfl rfl rfl rfl rfl rfl ?_ hou (by simp) ?_
  · exact .cons (.refl _) (.cons (.one (.nilS 1)) (.cons (.refl _) .nil))
  refine zA ?_
  exact APure.fin rfl (WkF.ofEq rfl) (by simp) hou rfl
end Go.Proofs.YtgdionbeeodaaaaDoor
namespace Go.Proofs.YtgdionbeeodaaaaDoor
open Go Go.Abs Go.CoreX
set_option maxRecDepth 10000
variable {Γ : List (Nat × List AC)}
end Go.Proofs.YtgdionbeeodaaaaDoor
namespace Go.Abs
theorem AStep.wk {E : Env} {o : Oper} {fr : Fr} {σ σ' : St} {x y : FV} (h : AStep E o fr σ x σ') (hw : WkF x y) : AStep E o fr σ y σ' :=
  fun F w C tmps hi hf next Q hk => h F w C tmps hi hf next Q fun u w' C' a b c => hk u w' C' a b (hw _ _ _ c)
end Go.Abs
namespace Go.Proofs.YtgdionbeeodaaaaDoor
open Go Go.Abs Go.CoreX
set_option maxRecDepth 10000
variable {Γ : List (Nat × List AC)}
mutual
def encNd : Tr → List AC
  | .mk o n b k a => [int o, int n, .sl 1 (b.map cI), .any, .sl 2 (a.map cAlt), .sl 1 (encNds k)]
def encNds : List Tr → List (List AC)
  | [] => []
  | t :: ts => [.box (encNd t)] :: encNds ts
end
def cNd (t : Tr) : List AC := [int t.op, int t.n, .sl 1 (t.binds.map cI), .any, .sl 2 (t.alts.map cAlt), .sl 1 (encNds t.kids)]
theorem encNd_eq (t : Tr) : encNd t = cNd t := by cases t; simp [encNd, cNd]
theorem encNds_eq : ∀ l : List Tr, encNds l = l.map fun t => [.box (cNd t)]
  | [] => rfl
  | t :: ts => by simp [encNds, encNds_eq ts, encNd_eq]
theorem encNds_get {l : List Tr} {i : Nat} {t : Tr} (h : l[i]? = some t) : (encNds l)[i]? = some [.box (cNd t)] := by rw [encNds_eq]; simp [h]
mutual
theorem ids_encNd (p : Abs.Id → Prop) : ∀ t : Tr, idsL p (encNd t)
  | .mk o n b k a => by simp [encNd, ids_encNds p k]
theorem ids_encNds (p : Abs.Id → Prop) : ∀ l : List Tr, idsS p (encNds l)
  | [] => by simp [encNds]
  | t :: ts => by simp [encNds, ids_encNd p t, ids_encNds p ts]
end
attribute [simp] ids_encNds
@[simp] theorem ids_cNd (p : Abs.Id → Prop) (t : Tr) : idsL p (cNd t) := by simp [cNd]
@[simp] theorem len_encNds (l : List Tr) : (encNds l).length = l.length := by rw [encNds_eq]; simp
theorem N_ok (op n : Int) (ks : List Tr) : APure Tryd.prog Γ 51 [.one (int op), .one (int n), .one (.sl 1 (encNds ks))] (.one (.box (cNd (.mk op n [] ks [])))) := by
  intro ou
  refine AFn.walk 13 tabOk Tryd.func51 rfl (by kernel_rfl) rfl rfl fun hou => ?_
  iterate 14 (first | ((with_reducible refine oj ?_); refine zau ?_) | (with_reducible refine zst ?_) | ((with_reducible refine cExitMiss ?_ ?_); rfl) | (with_reducible refine ok ?_; first | refine ACode.condT rfl ?_ | refine ACode.condF rfl ?_))
  refine AOps.freeze1 (.l 0) 6 rfl rfl ?_
  refine zA ?_
  refine APure.fin rfl (.one (Wk.box ?_)) (by simp) hou rfl
  exact .cons (.refl _) (.cons (.refl _) (.cons (.nilS 1) (.cons (.any _) (.cons (.nilS 2) (.cons (.refl _) .nil)))))
theorem B_ok (op : Int) (b : List Int) (ks : List Tr) : APure Tryd.prog Γ 19 [.one (int op), .one (.sl 1 (b.map cI)), .one (.sl 1 (encNds ks))] (.one (.box (cNd (.mk op 0 b ks [])))) := by
  intro ou
  refine AFn.walk 13 tabOk Tryd.func19 rfl (by kernel_rfl) rfl rfl fun hou => ?_
  iterate 14 (first | ((with_reducible refine oj ?_); refine zau ?_) | (with_reducible refine zst ?_) | ((with_reducible refine cExitMiss ?_ ?_); rfl) | (with_reducible refine ok ?_; first | refine ACode.condT rfl ?_ | refine ACode.condF rfl ?_))
  refine AOps.freeze1 (.l 0) 6 rfl rfl ?_
  refine zA ?_
  refine APure.fin rfl (.one (Wk.box ?_)) (by simp) hou rfl
  exact .cons (.refl _) (.cons (.refl _) (.cons (.refl _) (.cons (.any _) (.cons (.nilS 2) (.cons (.refl _) .nil)))))
def IntoOk (Γ : List (Nat × List AC)) (t : Tr) : Prop := ∀ (ou : Outer) (ko kt : Nat) (out : List Ex), OuOk ou → ou ko = none → ou kt = none → ko ≠ kt → (listT out t).length ≤ 1048576 →
  AFn Tryd.prog Γ 64 [.one (.box (cNd t)), .one (.ptr (.o ko) 0)] (ouS ou ko kt (out.map cEx)) (fun r ou' => r = .one (int (((listT out t).length : Int) - 1)) ∧ ∃ kt', ou kt' = none ∧ ko ≠ kt' ∧ ou' = ouS ou ko kt' ((listT out t).map cEx))
set_option maxHeartbeats 1000000 in
theorem into_ok (hΓ : ∀ g cs, (g, cs) ∈ Γ → idsL isO cs) : ∀ t : Tr, okT t → IntoOk Γ t
  | .mk o n b ks a, hok => by
    obtain ⟨hb, hk, ha, ⟨hab, _⟩, hks⟩ := hok
    have ih : ∀ t ∈ ks, IntoOk Γ t := fun t ht => into_ok hΓ t (okTs_iff.1 hks t ht)
    intro ou ko kt out hou0 ho ht hne hsz
    have hsz2 : (listTs out ks).1.length < 1048576 := by simp only [listT, List.length_append, List.length_singleton] at hsz; omega
    refine AFn.walk 44 tabOk Tryd.func64 rfl (by kernel_rfl) rfl rfl fun hou => ?_
    refine zA ?_
    refine ACode.grow 0 3 3 1 rfl rfl ?_
    refine ACode.loopR hΓ (α := Nat × Nat) (fun c => [(18, .one (int c.1)), (17, .one (int (encNds ks).length)), (16, .one (.sl 1 (encNds ks))), (5, .one (.ptr (.l 0) 0)), (1, .one (.ptr (.o ko) 0))])
      (fun c => ⟨2, [(1, .tok 3 1 c.1), (0, .cells [int o, int n, .sl 1 (b.map cI), .gs 1 ((listTs out (ks.take c.1)).2.map cI) (.l 1), .sl 2 (a.map cAlt)])], ouS ou ko c.2 ((listTs out (ks.take c.1)).1.map cEx)⟩)
      (fun m c => c.1 ≤ ks.length ∧ (ou c.2 = none ∧ ko ≠ c.2) ∧ m = ks.length - c.1) (a0 := (0, kt)) (ρ := id) ⟨by omega, ⟨ht, hne⟩, rfl⟩ (LessR.of rfl (by (repeat' first | exact FrSub.nil | refine zfc ?_ | refine zfo ?_ | refine zfp ?_)) (by simp) ?_ rfl (by simp [listTs]; rfl) hou) fun m c hi => ?_
    · repeat' first | exact LoSub.nil | refine zlc ?_ | refine zld ?_ ?_ | rfl
      all_goals (simp [AObj.ren, renL, AC.ren, listTs]; rfl)
    obtain ⟨i, kt⟩ := c
    obtain ⟨hil, ⟨ht, hne⟩, rfl⟩ := hi
    simp only at hil ht hne
    have hle : (listTs out (ks.take i)).1.length ≤ (listTs out ks).1.length := by
      have := listTs_app (ks.take i) (ks.drop i) out
      rw [List.take_append_drop] at this
      rw [this]; exact listTs_le _ _
    refine zA ?_
    refine ACode.cond rfl (fun hb3 => ?_) (fun hb3 => ?_)
    · have hlt2 : i < ks.length := by simpa using hb3
      obtain ⟨t, ht2⟩ := get_of_lt hlt2
      have hsn := listTs_snoc t (ks.take i) out
      rw [← take_get ht2] at hsn
      have hle2 : (listT (listTs out (ks.take i)).1 t).length ≤ 1048576 := by
        have := listTs_app (ks.take (i + 1)) (ks.drop (i + 1)) out
        rw [List.take_append_drop] at this
        have h2 := listTs_le (ks.drop (i + 1)) (listTs out (ks.take (i + 1))).1
        rw [← this, hsn] at h2
        simp only at h2
        omega
      have hcall := ih t (List.mem_of_getElem? ht2) ou ko kt (listTs out (ks.take i)).1 hou0 ho ht hne hle2
      have hil2 : ((listTs out (ks.take i)).2.map cI).length = i := by rw [List.length_map, listTs_ix_len]; simp; omega
      refine zA ?_
      refine AOps.step1 rfl rfl rfl (AStep.indexAddr tabOk rfl rfl rfl rfl rfl rfl (.inl rfl) rfl (by omega) (encNds_get ht2)) ?_
      refine zA ?_
      refine ACode.drawXR (va := .one (int (((listT (listTs out (ks.take i)).1 t).length : Int) - 1))) tabOk 6 4 []
        (fun σ => ∃ kt', ou kt' = none ∧ ko ≠ kt' ∧ σ = ⟨2, [(1, .tok 3 1 i), (0, .cells [int o, int n, .sl 1 (b.map cI), .gs 1 ((listTs out (ks.take i)).2.map cI) (.l 1), .sl 2 (a.map cAlt)])], ouS ou ko kt' ((listT (listTs out (ks.take i)).1 t).map cEx)⟩)
        follows (by kernel_rfl) rfl rfl rfl rfl rfl ?_ rfl ⟨rfl, rfl⟩ rfl ?_ .nil ?_ ?_
      · rintro σ ⟨kt', h1, h2, rfl⟩; rfl
      · refine AStepR.call hΓ rfl rfl rfl rfl (by simp) (ouS_ok hou0 (by simp)) hcall fun r ou' hq _ _ => ?_
        obtain ⟨rfl, kt', h1, h2, rfl⟩ := hq
        exact ⟨rfl, kt', h1, h2, rfl⟩
      · intro σ _; exact .nil
      rintro σ ⟨kt', h1, h2, rfl⟩
      refine zA ?_
      refine AOps.app tabOk rfl rfl rfl rfl rfl rfl rfl rfl rfl (Base.gs' _ _ _ _ _ (by rfl) hil2.symm) (.sl _ _) rfl ?_ ?_ ?_
      · rw [hil2]; show (i + 1) * 8 ≤ _; omega
      · rw [hil2]; show i + 1 ≤ _; omega
      refine zM ?_
      refine cInv ⟨ks.length - (i + 1), (i + 1, kt'), fun k => if k = 1 then 2 else k, by omega, ⟨by omega, ⟨h1, h2⟩, rfl⟩, LessR.of rfl (by (repeat' first | exact FrSub.nil | refine zfc ?_ | refine zfo ?_ | refine zfp ?_)) (by simp) ?_ rfl (by simp only [hsn]; rfl) (ouS_ok hou0 (by simp))⟩
      repeat' first | exact LoSub.nil | refine zlc ?_ | refine zld ?_ ?_ | rfl
      · simp only [AObj.ren, List.length_append, hil2]; rfl
      · simp only [hsn]; simp only [AObj.ren, renL, AC.ren, ren_cIs, ren_cAlts]; rw [List.map_append]; rfl
    have hlt2 : i = ks.length := by simp at hb3; omega
    subst hlt2
    rw [List.take_length] at *
    refine zA ?_
    have hT : listT out (.mk o n b ks a) = (listTs out ks).1 ++ [⟨o, n, b, (listTs out ks).2, a⟩] := by simp only [listT]
    have hmap : (listTs out ks).1.map cEx ++ [cEx ⟨o, n, b, (listTs out ks).2, a⟩] = (listT out (.mk o n b ks a)).map cEx := by rw [hT, List.map_append]; rfl
    have hw : WkF (.agg [int o, int n, .sl 1 (b.map cI), .gs 1 ((listTs out ks).2.map cI) (.l 1), .sl 2 (a.map cAlt)]) (.agg (cEx ⟨o, n, b, (listTs out ks).2, a⟩)) := WkF.agg (.cons (.refl _) (.cons (.refl _) (.cons (.refl _) (.cons (.gsE rfl) (.cons (.refl _) .nil)))))
    have hko : (bif Nat.beq ko kt then some AObj.dead else ouS ou ko kt ((listTs out ks).1.map cEx) ko) = some (.cells [.gs 5 ((listTs out ks).1.map cEx) (.o kt)]) := by rw [beq_no hne]; exact ouS_o hne _
    refine ACode.drawXH (va := .one (.gs 5 ((listTs out ks).1.map cEx ++ [cEx ⟨o, n, b, (listTs out ks).2, a⟩]) (.l 2))) (σ1 := (St.set ⟨2, [(1, .tok 3 1 ks.length), (0, .cells [int o, int n, .sl 1 (b.map cI), .gs 1 ((listTs out ks).2.map cI) (.l 1), .sl 2 (a.map cAlt)])], ouS ou ko kt ((listTs out ks).1.map cEx)⟩ (.o kt) .dead).push (.tok 53 5 ((listTs out ks).1.map cEx ++ [cEx ⟨o, n, b, (listTs out ks).2, a⟩]).length))
      tabOk 7 6 [(3, .one (.gs 5 ((listTs out ks).1.map cEx) (.o kt))), (4, .agg (cEx ⟨o, n, b, (listTs out ks).2, a⟩))] follows (by kernel_rfl) rfl rfl rfl rfl rfl rfl rfl ?_ ?_ ?_ ?_
    · refine HStep.plain rfl (AStep.append (s := 5) (es := (listTs out ks).1.map cEx) (news := [cEx ⟨o, n, b, (listTs out ks).2, a⟩]) (ti := ti22) (σ := ⟨2, [(1, .tok 3 1 ks.length), (0, .cells [int o, int n, .sl 1 (b.map cI), .gs 1 ((listTs out ks).2.map cI) (.l 1), .sl 2 (a.map cAlt)])], ouS ou ko kt ((listTs out ks).1.map cEx)⟩) tabOk rfl rfl rfl rfl rfl rfl (Base.gs' _ 53 5 _ (.o kt) (ouS_t ou ko kt _) rfl) (.sl _ _) rfl ?_ ?_)
      · simp; show (_ + 1) * 88 ≤ _; omega
      · simp; omega
    · refine .step rfl (HStep.plain rfl (AStep.loadOwn tabOk rfl rfl rfl rfl rfl (ouS_o hne _) rfl)) ?_
      exact .step rfl (HStep.plain rfl (AStep.wk (AStep.ofOp tabOk rfl) hw)) .nil
    · refine .step rfl (HStep.plain rfl (AStep.loadOwn tabOk rfl rfl rfl rfl rfl hko rfl)) ?_
      exact .step rfl (HStep.plain rfl (AStep.wk (AStep.ofOp tabOk rfl) hw)) .nil
    rw [hmap]
    refine zA ?_
    refine AOps.storeOwn (cs := [.gs 5 ((listTs out ks).1.map cEx) (.o kt)]) tabOk rfl rfl rfl rfl rfl rfl rfl hko (by simp) ?_
    refine AOps.cede 2 (show 2 < 3 by omega) fun k hk => ⟨[(1, .one (.ptr (.o ko) 0))], ⟨3, [], ouS ou ko k ((listT out (.mk o n b ks a)).map cEx)⟩, ⟨fun d x hd => ?_, rfl, fun i x hx => ?_⟩, ?_⟩
    · by_cases e : 1 = d
      · subst e
        simp [Fr.get] at hd; subst hd
        exact ⟨_, rfl, WkF.ofEq rfl⟩
      · simp [Fr.get, beq_no e] at hd
    · have hk' : (bif Nat.beq k ko then some (AObj.cells [.gs 5 ((listT out (.mk o n b ks a)).map cEx) (.l 2)]) else bif Nat.beq k kt then some AObj.dead else ouS ou ko kt ((listTs out ks).1.map cEx) k) = none := hk
      have k1 : k ≠ ko := fun e => by subst e; simp at hk'
      rw [beq_no k1] at hk'
      have k2 : k ≠ kt := fun e => by subst e; simp at hk'
      rw [beq_no k2] at hk'
      simp only [cond_false, ouS_w k1 k2] at hk'
      cases i with
      | l m => cases hx
      | o m =>
        have hx' : ouS ou ko k ((listT out (.mk o n b ks a)).map cEx) m = some x := hx
        by_cases e : m = k
        · subst e
          rw [ouS_t] at hx'; cases hx'
          exact ⟨.l 2, _, rfl, rfl, rfl⟩
        · by_cases e2 : m = ko
          · subst e2
            rw [ouS_o e] at hx'; cases hx'
            refine ⟨.o m, .cells [.gs 5 ((listT out (.mk o n b ks a)).map cEx) (.l 2)], ?_, rfl, ?_⟩
            · show (bif Nat.beq m m then _ else _) = _; rw [beq_self]; rfl
            · simp only [AObj.sub, subL, AC.sub]; rw [subS_o _ (by simp)]; rfl
          · rw [ouS_w e2 e] at hx'
            have e3 : m ≠ kt := fun e => by rw [e, ht] at hx'; cases hx'
            refine ⟨.o m, x, ?_, rfl, (AObj.sub_o x (hou0 m x hx')).symm⟩
            show (bif Nat.beq m ko then _ else bif Nat.beq m kt then _ else ouS ou ko kt _ m) = _
            rw [beq_no e2, beq_no e3]
            exact (ouS_w e2 e3 _).trans hx'
    · have hk' : (bif Nat.beq k ko then some (AObj.cells [.gs 5 ((listT out (.mk o n b ks a)).map cEx) (.l 2)]) else bif Nat.beq k kt then some AObj.dead else ouS ou ko kt ((listTs out ks).1.map cEx) k) = none := hk
      have k1 : k ≠ ko := fun e => by subst e; simp at hk'
      rw [beq_no k1] at hk'
      have k2 : k ≠ kt := fun e => by subst e; simp at hk'
      rw [beq_no k2] at hk'
      simp only [cond_false, ouS_w k1 k2] at hk'
      refine zA ?_
      refine AOps.step1 rfl rfl rfl (AStep.loadOwn tabOk rfl rfl rfl rfl rfl (ouS_o (Ne.symm k1) _) rfl) ?_
      refine zM ?_
      refine AFn.fin' rfl (WkF.ofEq ?_) (by simp) (ouS_ok hou0 (by simp)) ⟨rfl, k, hk', Ne.symm k1, rfl⟩
      simp
end Go.Proofs.YtgdionbeeodaaaaDoor
namespace Go.Proofs.YtgdionbeeodaaaaDoor
open Go Go.Abs Go.CoreX
set_option maxRecDepth 10000
variable {Γ : List (Nat × List AC)}
theorem NodeList_ok (hΓ : ∀ g cs, (g, cs) ∈ Γ → idsL isO cs) (t : Tr) (ht : okT t) (hsz : (listT [] t).length ≤ 1048576) : APure Tryd.prog Γ 39 [.one (.box (cNd t))] (.one (.sl 5 ((listT [] t).map cEx))) := by
  intro ou
  refine AFn.walk 7 tabOk Tryd.func39 rfl (by kernel_rfl) rfl rfl fun hou => ?_
  iterate 11 (first | ((with_reducible refine oj ?_); refine zau ?_) | (with_reducible refine zst ?_) | ((with_reducible refine cExitMiss ?_ ?_); rfl) | (with_reducible refine ok ?_; first | refine ACode.condT rfl ?_ | refine ACode.condF rfl ?_))
  refine ACode.grow 0 0 53 5 rfl rfl ?_
  refine zA ?_
  refine AOps.cede 0 (show 0 < 2 by omega) fun ko hko => ⟨[(4, .one (.box (cNd t))), (3, .one (.ptr (.o ko) 0))],
    ⟨2, [(1, .tok 53 5 0)], updO ou ko (.cells [.gs 5 [] (.l 1)])⟩, ⟨CedFr.get ?_, rfl, fun i x hx => ?_⟩, ?_⟩
  · exact .cons rfl (FV.sub_o _ (by simp)) (.cons rfl rfl .nil)
  · have hko : ou ko = none := hko
    cases i with
    | l m =>
      by_cases e : 1 = m
      · subst e; cases hx; exact ⟨.l 1, _, rfl, rfl, rfl⟩
      · simp [St.get, lookL, beq_no e] at hx
    | o m =>
      have hx' : updO ou ko (.cells [.gs 5 [] (.l 1)]) m = some x := hx
      by_cases e : ko = m
      · subst e; rw [updO_same] at hx'; cases hx'; exact ⟨.l 0, _, rfl, rfl, rfl⟩
      · rw [updO_ne _ e] at hx'
        exact ⟨.o m, x, hx', rfl, (AObj.sub_o x (hou m x hx')).symm⟩
  have hko : ou ko = none := hko
  refine AOps.cede 1 (show 1 < 2 by omega) fun kt hkt => ⟨[(4, .one (.box (cNd t))), (3, .one (.ptr (.o ko) 0))],
    ⟨2, [], ouS ou ko kt (([] : List Ex).map cEx)⟩, ⟨CedFr.get ?_, rfl, fun i x hx => ?_⟩, ?_⟩
  · exact .cons rfl (FV.sub_o _ (by simp)) (.cons rfl rfl .nil)
  · have hkt : updO ou ko (.cells [.gs 5 [] (.l 1)]) kt = none := hkt
    have hkto : ko ≠ kt := fun e => by subst e; rw [updO_same] at hkt; cases hkt
    cases i with
    | l m => cases hx
    | o m =>
      have hx' : ouS ou ko kt (([] : List Ex).map cEx) m = some x := hx
      by_cases e : m = kt
      · subst e; rw [ouS_t] at hx'; cases hx'; exact ⟨.l 1, _, rfl, rfl, rfl⟩
      · by_cases e2 : m = ko
        · subst e2; rw [ouS_o hkto] at hx'; cases hx'
          exact ⟨.o m, .cells [.gs 5 [] (.l 1)], updO_same _ _ _, rfl, rfl⟩
        · rw [ouS_w e2 e] at hx'
          refine ⟨.o m, x, ?_, rfl, (AObj.sub_o x (hou m x hx')).symm⟩
          show updO ou ko (.cells [.gs 5 [] (.l 1)]) m = _
          rw [updO_ne _ (Ne.symm e2)]; exact hx'
  have hkt : updO ou ko (.cells [.gs 5 [] (.l 1)]) kt = none := hkt
  have hot : ko ≠ kt := fun e => by subst e; rw [updO_same] at hkt; cases hkt
  rw [updO_ne _ hot] at hkt
  have hcall := into_ok hΓ t ht ou ko kt [] hou hko hkt hot hsz
  refine AOps.call1 hΓ rfl rfl rfl rfl rfl rfl rfl (by simp) (ouS_ok hou (by simp)) hcall fun r ou' hq hids hou' => ?_
  obtain ⟨rfl, kt', h1, h2, rfl⟩ := hq
  refine zA ?_
  refine AOps.step1 rfl rfl rfl (AStep.loadOwn tabOk rfl rfl rfl rfl rfl (ouS_o h2 _) rfl) ?_
  refine AOps.wk 6 rfl (y := .one (.sl 5 ((listT [] t).map cEx))) (.one (.gsE rfl)) ?_
  refine AOps.lessO ⟨2, [], ou⟩ rfl (fun i o ho => ?_) ?_
  · cases i with
    | l m => cases ho
    | o m =>
      have ho' : ou m = some o := ho
      show ouS ou ko kt' _ m = some o
      have e1 : m ≠ ko := fun e => by rw [e, hko] at ho'; cases ho'
      have e3 : m ≠ kt' := fun e => by rw [← e, ho'] at h1; cases h1
      rw [ouS_w e1 e3]; exact ho'
  refine zA ?_
  exact APure.fin rfl (WkF.ofEq rfl) (by simp) hou rfl
def factA : Tr := .mk 2 0 [1] [.mk 0 1 [] [] []] []
def factB : Tr := .mk 2 0 [2] [.mk 0 2 [] [] []] []
end Go.Proofs.YtgdionbeeodaaaaDoor
namespace Go.CoreX
def treeAt (e : List Ex) (k : Nat) : Tr := (growL e).getD k default
theorem treeAt_node {e : List Ex} (hk : kidsIn e) {i : Nat} {x : Ex} (hx : e[i]? = some x) : treeAt e i = .mk x.op x.n x.binds (x.kids.map fun k => treeAt e k.toNat) x.alts := by
  have hi := (List.getElem?_eq_some_iff.1 hx).1
  have hs : e = e.take i ++ x :: e.drop (i + 1) := by
    obtain ⟨h2, h3⟩ := List.getElem?_eq_some_iff.1 hx
    rw [← h3, ← List.drop_eq_getElem_cons h2, List.take_append_drop]
  have hl : (e.take i).length = i := by simp; omega
  have h1 := growL_at (e.take i) (e.drop (i + 1)) x
  rw [← hs, hl] at h1
  unfold treeAt
  rw [h1]
  simp only [nodeOf, Tr.mk.injEq, true_and, and_true]
  refine List.map_congr_left fun k hkk => ?_
  have hb := hk i x hx k hkk
  have h2 := growL_get (e := e.take i) (l := x :: e.drop (i + 1)) (i := k.toNat) (by rw [hl]; omega)
  rw [← hs] at h2
  exact h2.symm
theorem cnt_pos : ∀ {e : List Ex} {k : Nat}, 0 < cnt e k → ∃ (i : Nat) (x : Ex), e[i]? = some x ∧ (k : Int) ∈ x.kids
  | [], k, h => by simp [cnt] at h
  | x :: e, k, h => by
    simp only [cnt] at h
    by_cases h1 : 0 < x.kids.count (k : Int)
    · exact ⟨0, x, rfl, List.count_pos_iff.1 h1⟩
    · obtain ⟨i, y, h2, h3⟩ := cnt_pos (e := e) (k := k) (by omega)
      exact ⟨i + 1, y, by simpa using h2, h3⟩
theorem up_ind {e : List Ex} (h : IsTree e) {P : Tr → Prop} (h0 : P (grow e)) (h1 : ∀ (t s : Tr), P t → s ∈ t.kids → P s) : ∀ k, k < e.length → P (treeAt e k) := by
  have key : ∀ d k, k < e.length → e.length - k = d → P (treeAt e k) := by
    intro d
    induction d using Nat.strongRecOn with
    | _ d ih =>
      intro k hk hd
      by_cases hl : k + 1 < e.length
      · have hc := (h.c k hk).2 hl
        obtain ⟨i, x, hx, hkx⟩ := cnt_pos (e := e) (k := k) (by omega)
        have hb := h.k i x hx _ hkx
        have hi := (List.getElem?_eq_some_iff.1 hx).1
        have hp := ih (e.length - i) (by omega) i hi rfl
        rw [treeAt_node h.k hx] at hp
        refine h1 _ _ hp ?_
        simp only [Tr.kids_mk, List.mem_map]
        exact ⟨_, hkx, by simp⟩
      · have : k = e.length - 1 := by omega
        subst this
        exact h0
  exact fun k hk => key _ k hk rfl
mutual
theorem sumT_nonneg (g : Lab → Int) (hg : ∀ l, 0 ≤ g l) : ∀ t : Tr, 0 ≤ sumT g t
  | .mk o m b k a => by
    simp only [sumT]
    have h1 := hg ⟨o, m, b, k.map Tr.op, a⟩
    have h2 := sumTs_nonneg g hg k
    omega
theorem sumTs_nonneg (g : Lab → Int) (hg : ∀ l, 0 ≤ g l) : ∀ l : List Tr, 0 ≤ sumTs g l
  | [] => by simp [sumTs]
  | t :: l => by
    simp only [sumTs]
    have h1 := sumT_nonneg g hg t
    have h2 := sumTs_nonneg g hg l
    omega
end
theorem sumT_kid (g : Lab → Int) (hg : ∀ l, 0 ≤ g l) {t s : Tr} (h : s ∈ t.kids) : sumT g s ≤ sumT g t := by
  cases t with
  | mk o m b k a =>
    simp only [Tr.kids_mk] at h
    simp only [sumT, sumTs_eq]
    have h1 := hg ⟨o, m, b, k.map Tr.op, a⟩
    have : sumT g s ≤ (k.map (sumT g)).sum := by
      clear h1
      induction k with
      | nil => cases h
      | cons r k ih =>
        simp only [List.map_cons, List.sum_cons]
        have hr := sumT_nonneg g hg r
        have hk : 0 ≤ (k.map (sumT g)).sum := by
          clear ih h
          induction k with
          | nil => simp
          | cons q k ihk =>
            simp only [List.map_cons, List.sum_cons]
            have := sumT_nonneg g hg q
            omega
        rcases List.mem_cons.1 h with rfl | h
        · omega
        · have := ih h; omega
    omega
theorem okT_kid {t s : Tr} (ht : okT t) (h : s ∈ t.kids) : okT s := by
  cases t with
  | mk o m b k a => exact okTs_iff.1 ht.2.2.2.2 s h
theorem sum_mono (g : Lab → Int) (hg : ∀ l, 0 ≤ g l) {e : List Ex} (h : IsTree e) {k : Nat} (hk : k < e.length) : ((labs (listT [] (treeAt e k))).map g).sum ≤ ((labs e).map g).sum := by
  have h1 := sum_tree g (isTree_list (treeAt e k))
  rw [grow_list] at h1
  rw [h1, sum_tree g h]
  exact up_ind h (P := fun t => sumT g t ≤ sumT g (grow e)) (Int.le_refl _) (fun t s ht hs => Int.le_trans (sumT_kid g hg hs) ht) k hk
theorem sum_ones : ∀ ls : List Lab, (ls.map fun _ => (1 : Int)).sum = ls.length
  | [] => rfl
  | l :: ls => by simp only [List.map_cons, List.sum_cons, sum_ones ls, List.length_cons]; omega
theorem len_sub {e : List Ex} (h : IsTree e) {k : Nat} (hk : k < e.length) : (listT [] (treeAt e k)).length ≤ e.length := by
  have h1 := sum_mono (fun _ => (1 : Int)) (fun _ => by omega) h hk
  rw [sum_ones, sum_ones, len_labs, len_labs] at h1
  omega
theorem count_flat (n : Int) (f : Lab → List Int) : ∀ ls : List Lab, (((ls.flatMap f).count n : Nat) : Int) = (ls.map fun l => (((f l).count n : Nat) : Int)).sum
  | [] => rfl
  | l :: ls => by
    simp only [List.flatMap_cons, List.count_append, List.map_cons, List.sum_cons, ← count_flat n f ls]
    omega
def atErr (e : List Ex) (n : Int) : Int := if check e ≠ 0 then check e else if n < 0 ∨ (e.length : Int) ≤ n then 12 else 0
def freeAt (e : List Ex) (n : Int) : List Int × Int := if atErr e n ≠ 0 then ([], atErr e n) else (freeOf (treeAt e n.toNat), 0)
def cutAt (e : List Ex) (n : Int) : List Ex × Int := if atErr e n ≠ 0 then ([], atErr e n) else (listT [] (treeAt e n.toNat), 0)
def sizeAt (e : List Ex) (n : Int) : Int × Int := if atErr e n ≠ 0 then (0, atErr e n) else ((listT [] (treeAt e n.toNat)).length, 0)
end Go.CoreX
namespace Go.Proofs.YtgdionbeeodaaaaDoor
open Go Go.Abs Go.CoreX
set_option maxRecDepth 10000
variable {Γ : List (Nat × List AC)}
end Go.Proofs.YtgdionbeeodaaaaDoor
namespace Go.CoreX
mutual
def cntN : Tr → Nat
  | .mk _ _ _ k _ => cntNs k + 1
def cntNs : List Tr → Nat
  | [] => 0
  | t :: l => cntN t + cntNs l
end
mutual
theorem cntN_list : ∀ (t : Tr) (out : List Ex), (listT out t).length = out.length + cntN t
  | .mk o n b k a, out => by
    have := cntNs_list k out
    simp only [listT, cntN, List.length_append, List.length_singleton]; omega
theorem cntNs_list : ∀ (l : List Tr) (out : List Ex), (listTs out l).1.length = out.length + cntNs l
  | [], out => by simp [listTs, cntNs]
  | t :: l, out => by
    have h1 := cntN_list t out
    have h2 := cntNs_list l (listT out t)
    simp only [listTs, cntNs]; omega
end
theorem cntNs_app : ∀ (l r : List Tr), cntNs (l ++ r) = cntNs l + cntNs r
  | [], r => by simp [cntNs]
  | t :: l, r => by simp only [List.cons_append, cntNs, cntNs_app l r]; omega
end Go.CoreX
namespace Go.Proofs.YtgdionbeeodaaaaDoor
open Go Go.Abs Go.CoreX
set_option maxRecDepth 10000
variable {Γ : List (Nat × List AC)}
theorem treeAt_ok {e : List Ex} (he : okB e) (h : IsTree e) {k : Nat} (hk : k < e.length) : okT (treeAt e k) :=
  up_ind h (P := okT) (he.t h.k h.ne) (fun _ _ ht hs => okT_kid ht hs) k hk
end Go.Proofs.YtgdionbeeodaaaaDoor
namespace Go.CoreX
def scopeE (x : Ex) (k : Int) : List Int := if x.op = 2 ∨ x.op = 5 ∨ (x.op = 4 ∧ k = 1) then x.binds else if (x.op = 7 ∨ x.op = 13) ∧ 0 < k then (x.alts.getD (k - 1).toNat ⟨0, []⟩).binds else []
theorem shape_of {e : List Ex} (h : check e = 0) : ∀ x ∈ e, shape x = true := by
  intro x hx
  unfold check body at h
  by_cases h1 : treeErr e = 0
  · rw [if_neg (by simpa using h1)] at h
    by_cases h2 : firstErr (nodeErrF false e) e = 0
    · have h3 := (firstErr_zero _ e).1 h2 x hx
      unfold nodeErrF at h3
      simp only [Bool.false_and, Bool.not_false, Bool.true_and, Bool.false_or] at h3
      by_cases h4 : flatOnly x.op = true
      · rw [if_pos h4] at h3; cases h3
      · rw [if_neg h4] at h3
        unfold nodeErr at h3
        by_cases h5 : shape x = false
        · rw [if_pos h5] at h3; cases h3
        · simpa using h5
    · rw [if_pos h2] at h; exact absurd h h2
  · rw [if_pos h1] at h; exact absurd h h1
theorem shape_alts {x : Ex} (h : shape x = true) : if x.op = 7 ∨ x.op = 13 then x.kids.length = x.alts.length + 1 else x.alts = [] := by
  unfold shape at h
  split
  · rename_i ho
    rw [if_pos ho] at h
    simp only [altsOk, Bool.and_eq_true, beq_iff_eq] at h
    omega
  · rename_i ho
    rw [if_neg ho] at h
    split at h
    · cases h
    · simp only [Bool.and_eq_true, beq_iff_eq] at h
      exact List.length_eq_zero_iff.1 h.1.2
def upStep (sc : List Int) (out : List Int) (f : Int) : List Int := if sc.contains f = false ∧ out.contains f = false then out ++ [f] else out
def upKid (sc fs out : List Int) : List Int := fs.foldl (upStep sc) out
def upTo (x : Ex) (fs : Nat → List Int) : Nat → List Int
  | 0 => if x.op = 0 then [x.n] else []
  | i + 1 => upKid (scopeE x i) (fs i) (upTo x fs i)
def fsAt (e : List Ex) (x : Ex) (i : Nat) : List Int := freeOf (treeAt e (x.kids.getD i 0).toNat)
end Go.CoreX
namespace Go.Proofs.YtgdionbeeodaaaaDoor
open Go Go.Abs Go.CoreX
set_option maxRecDepth 10000
variable {Γ : List (Nat × List AC)}
end Go.Proofs.YtgdionbeeodaaaaDoor
namespace Go.Proofs.YtgdionbeeodaaaaDoor
open Go Go.Abs Go.CoreX
set_option maxRecDepth 10000
variable {Γ : List (Nat × List AC)}
def ow8 (l : List Int) : Option Nat → AC
  | none => .lit (.slice none 0 0)
  | some cap => .arr (.l 0) 1 0 (l.map cI).length cap
def st8 (l : List Int) (ou : Outer) : Option Nat → St
  | none => ⟨0, [], ou⟩
  | some cap => ⟨1, [(0, .cells (vec 1 (l.map cI) cap))], ou⟩
def co8 (l : List Int) : Option Nat → Prop
  | none => l = []
  | some cap => l.length ≤ cap
def p8 : Option Nat → Nat
  | none => 0
  | some cap => cap
def d8 (l : List Int) (ou : Outer) : Option Nat → St
  | none => st8 l ou none
  | some cap => (st8 l ou (some cap)).set (.l 0) .dead
@[simp] theorem ids_ow8 (l l' : List Int) (ou : Outer) (oc : Option Nat) : (ow8 l oc).ids (inL (st8 l' ou oc).n) := by cases oc <;> simp [ow8, st8, AC.ids, inL]
theorem keep8 (l : List Int) (oc : Option Nat) : WkF (.one (ow8 l oc)) ((FV.one (ow8 l oc)).ren id) := by cases oc <;> exact .refl _
theorem FrSub.k8 {fr r : Fr} {k : Nat} {l : List Int} {oc : Option Nat} (h : Fr.get k fr = some (.one (ow8 l oc))) (hr : FrSub id fr r) : FrSub id fr ((k, .one (ow8 l oc)) :: r) := FrSub.cons h (keep8 l oc) hr
end Go.Proofs.YtgdionbeeodaaaaDoor
namespace Go.CoreX
def wordlyF (t : Tr) : Bool := t.op == 1 || (t.op == 8 && (decide (t.n ≤ 4) || t.n == 9))
def condLoop : List Alt → Int → Bool
  | [], known => known == 2
  | a :: l, known => if a.tag = -1 then true else if a.tag ≤ 1 ∧ a.binds.length = 0 then condLoop l (known + 1) else if a.tag ≤ 1 then false else condLoop l known
def condF (t : Tr) : Bool := if (t.kids.headD default).op ≠ 8 ∨ ((t.kids.headD default).n ≠ 5 ∧ (t.kids.headD default).n ≠ 6) then false else condLoop t.alts 0
def kid1 (t : Tr) : Tr := t.kids.tail.headD default
def wordsF (t : Tr) : Bool := wordlyF (t.kids.headD default) && (t.kids.length == 1 || wordlyF (kid1 t))
def primF (t : Tr) : Int :=
  if t.n = 7 then 3 else if t.n = 8 ∨ t.n = 11 then 10 else if t.n = 10 then 18 else if t.n = 9 then 2 else
  if t.n = 3 ∨ t.n = 4 then (if wordsF t = true ∧ (kid1 t).op = 1 ∧ (kid1 t).n ≠ 0 then 0 else 2) else
  if wordsF t = true then 0 else 2
def ownF (t : Tr) : Int :=
  if t.op = 17 then 2 else if t.op = 8 then primF t else
  if t.op = 3 then (if (t.kids.headD default).op ≠ 2 ∨ ((t.kids.headD default).binds.length : Int) ≠ t.kids.length - 1 then 63 else 0) else
  if t.op = 7 then (if condF t = true then 0 else 2) else
  if t.op = 10 ∨ t.op = 11 then (if (t.kids.headD default).op ≠ 9 ∨ (t.op = 10 ∧ (t.kids.headD default).binds.contains t.n = false) then 2 else 0) else
  if t.op = 12 then 6 else if t.op = 13 then 63 else 0
structure kidsOk (t : Tr) : Prop where
  p1 : t.op = 8 ∨ t.op = 3 ∨ t.op = 7 ∨ t.op = 10 ∨ t.op = 11 → 1 ≤ t.kids.length
  p2 : t.op = 8 → t.n = 3 ∨ t.n = 4 → 2 ≤ t.kids.length
end Go.CoreX
namespace Go.Proofs.YtgdionbeeodaaaaDoor
open Go Go.Abs Go.CoreX
set_option maxRecDepth 10000
variable {Γ : List (Nat × List AC)}
end Go.Proofs.YtgdionbeeodaaaaDoor
namespace Go.Proofs.YtgdionbeeodaaaaDoor
open Go Go.Abs Go.CoreX
set_option maxRecDepth 10000
variable {Γ : List (Nat × List AC)}
end Go.Proofs.YtgdionbeeodaaaaDoor
namespace Go.CoreX
open Go.Abs (orI subI anI)
def ex0 : Ex := ⟨0, 0, [], [], []⟩
def exN (e : List Ex) (i : Nat) : Ex := e.getD i ex0
def shK (e : List Ex) (k : Int) : Tr := .mk (exN e k.toNat).op (exN e k.toNat).n (exN e k.toNat).binds [] []
def shT (e : List Ex) (x : Ex) : Tr := .mk x.op x.n x.binds (x.kids.map (shK e)) x.alts
def purStep (e : List Ex) (x : Ex) (p : List Int) (k : Nat) (kid : Int) (acc : Int) : Int :=
  if x.op = 2 ∨ (x.op = 5 ∧ k < x.binds.length) then acc
  else if x.op = 3 ∧ k = 0 ∧ (exN e kid.toNat).op = 2 then orI acc (p.getD ((exN e kid.toNat).kids.getD 0 0).toNat 0)
  else orI acc (p.getD kid.toNat 0)
def purTo (e : List Ex) (x : Ex) (p : List Int) : Nat → Int
  | 0 => ownF (shT e x)
  | j + 1 => purStep e x p j (x.kids.getD j 0) (purTo e x p j)
def purAt (e : List Ex) : Nat → List Int
  | 0 => List.replicate e.length 0
  | i + 1 => (purAt e i).set i (purTo e (exN e i) (purAt e i) (exN e i).kids.length)
def purOf (e : List Ex) : List Int × Int := if check e ≠ 0 then ([], check e) else (purAt e e.length, 0)
end Go.CoreX
namespace Go.Proofs.YtgdionbeeodaaaaDoor
open Go Go.Abs Go.CoreX
set_option maxRecDepth 10000
variable {Γ : List (Nat × List AC)}
def shD (e : List Ex) (l : List Int) : List (List AC) := l.map fun k => cB (shK e k)
@[simp] theorem ids_shD (p : Abs.Id → Prop) (e : List Ex) (l : List Int) : idsS p (shD e l) := idsS_map (fun k => by simp [cB]) l
@[simp] theorem ren_shD (ρ : Nat → Nat) (e : List Ex) (l : List Int) : renS ρ (shD e l) = shD e l := renS_pure ρ _ (by simp)
end Go.Proofs.YtgdionbeeodaaaaDoor
namespace Go.CoreX
def factP : Tr := .mk 8 7 [] [.mk 1 1 [] [] []] []
end Go.CoreX
namespace Go.Proofs.YtgdionbeeodaaaaDoor
open Go Go.Abs Go.CoreX
set_option maxRecDepth 10000
variable {Γ : List (Nat × List AC)}
theorem W_ok (hΓ : ∀ g cs, (g, cs) ∈ Γ → idsL isO cs) (n : Int) : APure Tryd.prog Γ 20 [.one (int n)] (.one (.box (cNd (.mk 1 n [] [] [])))) := by
  intro ou
  refine AFn.walk 5 tabOk Tryd.func20 rfl (by kernel_rfl) rfl rfl fun hou => ?_
  refine zA ?_
  refine AOps.callCW (ws := [.one (int 1), .one (int n), .one (.sl 1 (encNds []))]) hΓ (N_ok 1 n []) rfl rfl rfl rfl rfl rfl ?_ hou (by simp) ?_
  · exact .cons (.refl _) (.cons (.refl _) (.cons (.one (.nilS 1)) .nil))
  refine zA ?_
  exact APure.fin rfl (WkF.ofEq rfl) (by simp) hou rfl
end Go.Proofs.YtgdionbeeodaaaaDoor
namespace Go.CoreX
structure CS where
  u : Int → Int
  d : Int → Int
  m : Int → Int
def upF (f : Int → Int) (k v : Int) : Int → Int := fun j => if k = j then v else f j
def visitU (s : CS) (n deep : Int) : CS := ⟨upF s.u n (s.u n + 1), s.d, if s.d n < deep then upF s.m n (s.m n + 1) else s.m⟩
def bindU (d : Int) (s : CS) (l : List Int) : CS := ⟨s.u, l.foldl (fun f n => upF f n d) s.d, s.m⟩
def rep (o : Int) (i : Int) : Bool := o == 2 || (o == 13 && decide (0 < i))
def deepK (o : Int) (i : Nat) (deep : Int) : Int := if rep o i = true then deep + 1 else deep
mutual
def walkU (deep : Int) (s : CS) : Tr → CS
  | .mk o n b k a => walkUs deep o b a 0 (if o = 0 then visitU s n deep else s) k
def walkUs (deep o : Int) (b : List Int) (a : List Alt) (i : Nat) (s : CS) : List Tr → CS
  | [] => s
  | t :: ts => walkUs deep o b a (i + 1) (walkU (deepK o i deep) (bindU (deepK o i deep) s (boundN o b a i)) t) ts
end
theorem walkUs_snoc (deep o : Int) (b : List Int) (a : List Alt) (t : Tr) : ∀ (l : List Tr) (i : Nat) (s : CS), walkUs deep o b a i s (l ++ [t]) = walkU (deepK o (i + l.length) deep) (bindU (deepK o (i + l.length) deep) (walkUs deep o b a i s l) (boundN o b a ((i + l.length : Nat) : Int))) t
  | [], i, s => by simp [walkUs]
  | x :: l, i, s => by
    simp only [List.cons_append, walkUs, walkUs_snoc deep o b a t l (i + 1), List.length_cons]
    rw [show i + 1 + l.length = i + (l.length + 1) by omega]
def CB (M : Int) (s : CS) : Prop := ∀ k, (0 ≤ s.u k ∧ s.u k ≤ M) ∧ 0 ≤ s.m k ∧ s.m k ≤ M
theorem CB.visit {M : Int} {s : CS} (h : CB M s) (n deep : Int) : CB (M + 1) (visitU s n deep) := fun k => by
  have h1 := h k
  have h2 := h n
  refine ⟨?_, ?_⟩
  · simp only [visitU, upF]; split <;> omega
  · by_cases e : s.d n < deep
    · simp only [visitU, if_pos e, upF]; split <;> omega
    · simp only [visitU, if_neg e]; omega
theorem CB.mono {M M' : Int} {s : CS} (h : CB M s) (hm : M ≤ M') : CB M' s := fun k => by have := h k; omega
mutual
theorem CB.walk : ∀ (t : Tr) {M : Int} {s : CS} (deep : Int), CB M s → CB (M + cntN t) (walkU deep s t)
  | .mk o n b k a, M, s, deep, h => by
    have h1 : CB (M + 1) (if o = 0 then visitU s n deep else s) := by
      split
      · exact h.visit n deep
      · exact h.mono (by omega)
    have h2 := CB.walks k (M := M + 1) deep o b a 0 h1
    simp only [walkU]
    refine h2.mono ?_
    simp only [cntN]; push_cast; omega
theorem CB.walks : ∀ (l : List Tr) {M : Int} {s : CS} (deep o : Int) (b : List Int) (a : List Alt) (i : Nat), CB M s → CB (M + cntNs l) (walkUs deep o b a i s l)
  | [], M, s, deep, o, b, a, i, h => by simpa [walkUs, cntNs] using h
  | t :: l, M, s, deep, o, b, a, i, h => by
    have h1 : CB M (bindU (deepK o i deep) s (boundN o b a i)) := h
    have h2 := CB.walk t (deepK o i deep) h1
    have h3 := CB.walks l deep o b a (i + 1) h2
    simp only [walkUs]
    refine h3.mono ?_
    simp only [cntNs]; push_cast; omega
end
structure UM where
  cu : Nat
  lu : List (Nat × Int × Int)
  cd : Nat
  ld : List (Nat × Int × Int)
  cm : Nat
  lm : List (Nat × Int × Int)
def isVar (n : Int) (l : Lab) : Int := if l.op = 0 ∧ l.n = n then 1 else 0
theorem isVar_nonneg (n : Int) (l : Lab) : 0 ≤ isVar n l := by unfold isVar; split <;> omega
end Go.CoreX
namespace Go.Proofs.YtgdionbeeodaaaaDoor
open Go Go.Abs Go.CoreX
set_option maxRecDepth 10000
variable {Γ : List (Nat × List AC)}
theorem repeats_ok (t : Tr) (i : Int) : APure Tryd.prog Γ 98 [.one (.box (cTr t)), .one (int i)] (.one (.lit (.bool (rep t.op i)))) := by
  intro ou
  refine AFn.walk 21 tabOk Tryd.func98 rfl (by kernel_rfl) rfl rfl fun hou => ?_
  repeat' first | refine zN ?_ | (with_reducible refine oj ?_; refine AOps.splitS rfl rfl rfl rfl (fun hb => ?_) (fun hb => ?_)) | (with_reducible refine ok ?_; first | refine ACode.condS rfl (fun hb => ?_) (fun hb => ?_) | refine ACode.cond rfl (fun hb => ?_) (fun hb => ?_))
  all_goals
    refine APure.fin rfl (WkF.ofEq ?_) (by simp) hou rfl
    first
      | (simp_all [rep]; done)
      | (simp_all [rep]; intros; omega)
def CIs (s : CS) (x : UM) : Prop := BIs s.u x.cu x.lu ∧ BIs s.d x.cd x.ld ∧ BIs s.m x.cm x.lm
def ouU (x : UM) : Outer := ouOf [.cells [.mp (.o 1), .mp (.o 2), .mp (.o 3)], .map x.cu (encI eN x.lu), .map x.cd (encI eN x.ld), .map x.cm (encI eN x.lm)]
theorem ouU_ok (x : UM) : OuOk (ouU x) := by
  intro k o h
  match k, h with
  | 0, h => cases h; simp
  | 1, h => cases h; exact ids_mapN _ _ _
  | 2, h => cases h; exact ids_mapN _ _ _
  | 3, h => cases h; exact ids_mapN _ _ _
  | k + 4, h => cases h
theorem ouU_set1 (x : UM) (c : Nat) (l : List (Nat × Int × Int)) : (fun j => bif Nat.beq j 1 then some (AObj.map c (encI eN l)) else ouU x j) = ouU { x with cu := c, lu := l } := by
  funext j
  match j with
  | 0 => rfl
  | 1 => rfl
  | k + 2 => rfl
theorem ouU_set2 (x : UM) (c : Nat) (l : List (Nat × Int × Int)) : (fun j => bif Nat.beq j 2 then some (AObj.map c (encI eN l)) else ouU x j) = ouU { x with cd := c, ld := l } := by
  funext j
  match j with
  | 0 => rfl
  | 1 => rfl
  | 2 => rfl
  | k + 3 => rfl
theorem ouU_set3 (x : UM) (c : Nat) (l : List (Nat × Int × Int)) : (fun j => bif Nat.beq j 3 then some (AObj.map c (encI eN l)) else ouU x j) = ouU { x with cm := c, lm := l } := by
  funext j
  match j with
  | 0 => rfl
  | 1 => rfl
  | 2 => rfl
  | 3 => rfl
  | k + 4 => rfl
theorem BIs.putF {β : Int → Int} {f : Int → Option Int} {n v : Int} {ck : Nat} {l : List (Nat × Int × Int)} (hf : ∀ k, (f k).getD 0 = β k) (h : IMOk (setF f n v) ck l) : BIs (upF β n v) ck l := ⟨_, h, fun k => by rw [BIs.put hf]; rfl⟩
def WalkUOk (Γ : List (Nat × List AC)) (t : Tr) : Prop := ∀ (s : CS) (deep M : Int) (x : UM), CB M s → 0 ≤ deep → M + cntN t ≤ 4611686018427387904 → deep + depthT t ≤ 4611686018427387904 → CIs s x →
  AFn Tryd.prog Γ 65 [.one (.ptr (.o 0) 0), .one (.box (cTr t)), .one (int deep)] (ouU x) (fun r ou' => r = .tup [] ∧ ∃ x', ou' = ouU x' ∧ CIs (walkU deep s t) x')
set_option maxHeartbeats 1000000 in
theorem walkU_ok (hΓ : ∀ g cs, (g, cs) ∈ Γ → idsL isO cs) : ∀ t : Tr, okT t → WalkUOk Γ t
  | .mk o n b ks a, hok => by
    obtain ⟨hb, hk, ha, ⟨hab, _⟩, hks⟩ := hok
    have ih : ∀ t ∈ ks, WalkUOk Γ t := fun t ht => walkU_ok hΓ t (okTs_iff.1 hks t ht)
    intro s deep M x hcb hd0 hM hdp hC
    have hcn : M + 1 + cntNs ks ≤ 4611686018427387904 := by simp only [cntN] at hM; push_cast at hM; omega
    refine AFn.walk 83 tabOk Tryd.func65 rfl (by kernel_rfl) rfl rfl fun hou => ?_
    (first | ((with_reducible refine oj ?_); refine zau ?_) | (with_reducible refine zst ?_) | ((with_reducible refine cExitMiss ?_ ?_); rfl) | (with_reducible refine ok ?_; first | refine ACode.condT rfl ?_ | refine ACode.condF rfl ?_))
    refine ACode.cutR hΓ (α := UM) (fun _ => [(2, .one (int deep)), (1, .one (.box (cTr (.mk o n b ks a)))), (0, .one (.ptr (.o 0) 0))])
      (fun c => ⟨0, [], ouU c⟩) (fun c => CIs (if o = 0 then visitU s n deep else s) c) ?_ fun c hc => ?_
    · by_cases ho : o = 0
      · subst ho
        rw [if_pos rfl]
        obtain ⟨⟨fu, hu, hu2⟩, ⟨fd, hd, hd2⟩, ⟨fm, hm, hm2⟩⟩ := hC
        have hcn1 := hcb n
        refine zA ?_
        refine ACode.drawX tabOk 10 [(8, .one (int (s.u n))), (9, .one (int (s.u n + 1)))] follows (by kernel_rfl) rfl rfl rfl rfl ?_ ?_
        · refine .step rfl (HStep.plain rfl (AStep.lookI eN (cm := false) (v := .one (int (s.u n))) rfl Tryd.underlying90 Tryd.underlying3 rfl rfl rfl (by kernel_rfl) zeroN hu ?_)) ?_
          · simp only [Tr.n_mk]; rw [← hu2 n]; cases fu n <;> rfl
          · exact .step rfl (HStep.plain rfl (AStep.arith rfl rfl rfl (.inl ⟨rfl, rfl⟩) (inRange_i64 (by omega) (by omega)))) .nil
        refine AOps.putI eN (v := s.u n + 1) rfl rfl rfl Tryd.underlying90 Tryd.underlying3 rfl rfl rfl rfl hu fun cu' lu' hu' => ?_
        refine zA ?_
        refine ACode.drawX tabOk 10 [(8, .one (int (s.d n)))] follows (by kernel_rfl) rfl rfl rfl rfl ?_ ?_
        · refine .step rfl (HStep.plain rfl (AStep.lookI eN (cm := false) (v := .one (int (s.d n))) rfl Tryd.underlying90 Tryd.underlying3 rfl rfl rfl (by kernel_rfl) zeroN hd ?_)) .nil
          simp only [Tr.n_mk]; rw [← hd2 n]; cases fd n <;> rfl
        refine zA ?_
        refine ACode.cond rfl (fun hb => ?_) (fun hb => ?_)
        · have hlt : s.d n < deep := by simpa using hb
          refine zA ?_
          refine ACode.drawX tabOk 10 [(8, .one (int (s.m n))), (9, .one (int (s.m n + 1)))] follows (by kernel_rfl) rfl rfl rfl rfl ?_ ?_
          · refine .step rfl (HStep.plain rfl (AStep.lookI eN (cm := false) (v := .one (int (s.m n))) rfl Tryd.underlying90 Tryd.underlying3 rfl rfl rfl (by kernel_rfl) zeroN hm ?_)) ?_
            · simp only [Tr.n_mk]; rw [← hm2 n]; cases fm n <;> rfl
            · exact .step rfl (HStep.plain rfl (AStep.arith rfl rfl rfl (.inl ⟨rfl, rfl⟩) (inRange_i64 (by omega) (by omega)))) .nil
          refine AOps.putI eN (v := s.m n + 1) rfl rfl rfl Tryd.underlying90 Tryd.underlying3 rfl rfl rfl rfl hm fun cm' lm' hm' => ?_
          refine zA ?_
          have hst : (St.set (St.set ⟨0, [], ouU x⟩ (.o 1) (.map cu' (encI eN lu'))) (.o 3) (.map cm' (encI eN lm'))).ou = ouU { x with cu := cu', lu := lu', cm := cm', lm := lm' } := by
            show (fun j => bif Nat.beq j 3 then _ else (fun j => bif Nat.beq j 1 then some (AObj.map cu' (encI eN lu')) else ouU x j) j) = _
            rw [ouU_set1, ouU_set3]
          exact cInv ⟨{ x with cu := cu', lu := lu', cm := cm', lm := lm' }, id, ⟨BIs.putF hu2 hu', ⟨fd, hd, hd2⟩, by simp only [visitU, if_pos hlt]; exact BIs.putF hm2 hm'⟩, LessR.of rfl (by (repeat' first | exact FrSub.nil | refine zfc ?_ | refine zfo ?_ | refine zfp ?_)) (by simp) .nil rfl hst.symm (hst ▸ ouU_ok _)⟩
        · have hlt : ¬ s.d n < deep := by simpa using hb
          refine zA ?_
          have hst : (St.set ⟨0, [], ouU x⟩ (.o 1) (.map cu' (encI eN lu'))).ou = ouU { x with cu := cu', lu := lu' } := ouU_set1 x cu' lu'
          exact cInv ⟨{ x with cu := cu', lu := lu' }, id, ⟨BIs.putF hu2 hu', ⟨fd, hd, hd2⟩, by simp only [visitU, if_neg hlt]; exact ⟨fm, hm, hm2⟩⟩, LessR.of rfl (by (repeat' first | exact FrSub.nil | refine zfc ?_ | refine zfo ?_ | refine zfp ?_)) (by simp) .nil rfl hst.symm (hst ▸ ouU_ok _)⟩
      · have hcd : ((Tr.mk o n b ks a).op == 0) = false := by simpa using ho
        rw [if_neg ho]
        repeat' first | refine zN ?_ | (with_reducible refine oj ?_; refine AOps.splitS rfl rfl rfl rfl (fun hb => ?_) (fun hb => ?_)) | (with_reducible refine ok ?_; first | refine ACode.condS rfl (fun hb => ?_) (fun hb => ?_) | refine ACode.cond rfl (fun hb => ?_) (fun hb => ?_))
        all_goals first
          | (exfalso; rw [hcd] at hb; cases hb; done)
          | exact cInv ⟨x, id, hC, LessR.of rfl (by (repeat' first | exact FrSub.nil | refine zfc ?_ | refine zfo ?_ | refine zfp ?_)) (by simp) .nil rfl rfl hou⟩
    · have hcb0 : CB (M + 1) (if o = 0 then visitU s n deep else s) := by
        split
        · exact hcb.visit n deep
        · exact hcb.mono (by omega)
      generalize hs0 : (if o = 0 then visitU s n deep else s) = s0 at hc hcb0
      clear hC hou
      have hou : OuOk (ouU c) := ouU_ok c
      refine zA ?_
      refine ACode.loopR hΓ (α := Nat × UM) (fun c => [(52, .one (int c.1)), (51, .one (int (encTrs ks).length)), (50, .one (.sl 1 (encTrs ks))), (2, .one (int deep)), (1, .one (.box (cTr (.mk o n b ks a)))), (0, .one (.ptr (.o 0) 0))])
        (fun c => ⟨0, [], ouU c.2⟩) (fun m c => c.1 ≤ ks.length ∧ CIs (walkUs deep o b a 0 s0 (ks.take c.1)) c.2 ∧ m = ks.length - c.1)
        (a0 := (0, c)) (ρ := id) ⟨by omega, by simpa [walkUs] using hc, rfl⟩ (LessR.of rfl (by (repeat' first | exact FrSub.nil | refine zfc ?_ | refine zfo ?_ | refine zfp ?_)) (by simp) .nil rfl rfl hou) fun m' c hi => ?_
      clear hc hou
      obtain ⟨i, x⟩ := c
      obtain ⟨hil, hS, rfl⟩ := hi
      simp only at hil hS
      have hou : OuOk (ouU x) := ouU_ok x
      refine zA ?_
      refine ACode.cond rfl (fun hb2 => ?_) (fun hb2 => ?_)
      · have hlt : i < ks.length := by simpa using hb2
        obtain ⟨t, ht⟩ := get_of_lt hlt
        have htm := List.mem_of_getElem? ht
        have hbn := Bound_ok hΓ (.mk o n b ks a) (i : Int) (by omega) ha
        have hll := boundN_len (o := o) (k := (i : Int)) hb hab
        have hsn := walkUs_snoc deep o b a t (ks.take i) 0 s0
        rw [← take_get ht] at hsn
        have hmin : (ks.take i).length = i := by simp; omega
        rw [hmin, Nat.zero_add] at hsn
        simp only [Tr.op_mk, Tr.binds_mk, Tr.alts_mk] at hbn
        generalize boundN o b a (i : Int) = l at hbn hll hsn
        have hdk := depth_kid (o := o) (n := n) (b := b) (a := a) htm
        have hdp0 := depth_pos t
        have hrp := repeats_ok (Γ := Γ) (.mk o n b ks a) (i : Int)
        simp only [Tr.op_mk] at hrp
        refine zA ?_
        refine AOps.step1 rfl rfl rfl (AStep.indexAddr tabOk rfl rfl rfl rfl rfl rfl (.inl rfl) rfl (by omega) (encTrs_get ht)) ?_
        refine zA ?_
        refine zca hΓ hrp hou ?_
        refine zA ?_
        refine ACode.cutR hΓ (α := Unit) (fun _ => [(8, .one (int (deepK o i deep))), (7, .one (.box (cTr t))), (6, .one (int i)), (52, .one (int i)), (51, .one (int (encTrs ks).length)), (50, .one (.sl 1 (encTrs ks))), (2, .one (int deep)), (1, .one (.box (cTr (.mk o n b ks a)))), (0, .one (.ptr (.o 0) 0))])
          (fun _ => ⟨0, [], ouU x⟩) (fun _ => True) ?_ fun _ _ => ?_
        · refine zA ?_
          refine ACode.cond rfl (fun hb3 => ?_) (fun hb3 => ?_)
          · have h3 : rep o i = true := hb3
            refine zM ?_
            exact cInv ⟨(), id, trivial, LessR.of rfl (.cons rfl (.ofEq (by unfold deepK; rw [if_pos h3]; rfl)) (by (repeat' first | exact FrSub.nil | refine zfc ?_ | refine zfo ?_ | refine zfp ?_))) (by simp) .nil rfl rfl hou⟩
          · have h3 : ¬ rep o i = true := by simpa using hb3
            refine zM ?_
            exact cInv ⟨(), id, trivial, LessR.of rfl (.cons rfl (.ofEq (by unfold deepK; rw [if_neg h3]; rfl)) (by (repeat' first | exact FrSub.nil | refine zfc ?_ | refine zfo ?_ | refine zfp ?_))) (by simp) .nil rfl rfl hou⟩
        have hdk0 : deep ≤ deepK o i deep ∧ deepK o i deep ≤ deep + 1 := by unfold deepK; split <;> omega
        generalize deepK o i deep = dk at hsn hdk0
        refine zA ?_
        refine zca hΓ hbn hou ?_
        refine zA ?_
        have hcbi := CB.walks (ks.take i) deep o b a 0 hcb0
        generalize hsi : walkUs deep o b a 0 s0 (ks.take i) = si at hS hsn hcbi
        have hcnt : cntNs (ks.take i) + cntN t ≤ cntNs ks := by
          have h1 := cntNs_app (ks.take (i + 1)) (ks.drop (i + 1))
          rw [List.take_append_drop, take_get ht, cntNs_app] at h1
          simp only [cntNs] at h1
          omega
        refine ACode.loopR hΓ (α := Nat × UM) (fun c => [(67, .one (int c.1)), (66, .one (int (l.map cI).length)), (65, .one (.sl 1 (l.map cI))), (8, .one (int dk)), (7, .one (.box (cTr t))), (52, .one (int i)), (51, .one (int (encTrs ks).length)), (50, .one (.sl 1 (encTrs ks))), (2, .one (int deep)), (1, .one (.box (cTr (.mk o n b ks a)))), (0, .one (.ptr (.o 0) 0))])
          (fun c => ⟨0, [], ouU c.2⟩) (fun m c => c.1 ≤ l.length ∧ CIs (bindU dk si (l.take c.1)) c.2 ∧ m = l.length - c.1) (a0 := (0, x)) (ρ := id) ⟨by omega, by simpa [bindU] using hS, rfl⟩ (LessR.of rfl (by (repeat' first | exact FrSub.nil | refine zfc ?_ | refine zfo ?_ | refine zfp ?_)) (by simp) .nil rfl rfl hou) fun m' c hj => ?_
        clear hS hou
        obtain ⟨j, x⟩ := c
        obtain ⟨hjl, hS, rfl⟩ := hj
        simp only at hjl hS
        have hou : OuOk (ouU x) := ouU_ok x
        refine zA ?_
        refine ACode.cond rfl (fun hb3 => ?_) (fun hb3 => ?_)
        · have hlt2 : j < l.length := by simpa using hb3
          obtain ⟨q, hq⟩ := get_of_lt hlt2
          obtain ⟨hS1, ⟨fd, hd, hd2⟩, hS3⟩ := hS
          refine zA ?_
          refine AOps.step1 rfl rfl rfl (AStep.indexAddr tabOk rfl rfl rfl rfl rfl rfl (.inl rfl) rfl (by omega) (map_get hq)) ?_
          refine zA ?_
          refine AOps.putI eN (v := dk) rfl rfl rfl Tryd.underlying90 Tryd.underlying3 rfl rfl rfl rfl hd fun cd' ld' hd' => ?_
          refine zM ?_
          have hst : (St.set ⟨0, [], ouU x⟩ (.o 2) (.map cd' (encI eN ld'))).ou = ouU { x with cd := cd', ld := ld' } := ouU_set2 x cd' ld'
          refine cInv ⟨l.length - (j + 1), (j + 1, { x with cd := cd', ld := ld' }), id, by omega, ⟨by omega, ⟨hS1, ?_, hS3⟩, rfl⟩, LessR.of rfl (by (repeat' first | exact FrSub.nil | refine zfc ?_ | refine zfo ?_ | refine zfp ?_)) (by simp) .nil rfl hst.symm (hst ▸ ouU_ok _)⟩
          have := BIs.putF hd2 hd'
          rw [take_get hq]
          simpa [bindU, List.foldl_append] using this
        have hlt2 : j = l.length := by simp at hb3; omega
        subst hlt2
        rw [List.take_length] at hS
        have hcall := ih t htm (bindU dk si l) dk (M + 1 + cntNs (ks.take i)) x hcbi (by omega) (by push_cast; omega) (by omega) hS
        refine zA ?_
        refine AOps.call1 hΓ rfl rfl rfl rfl rfl rfl rfl (by simp) hou hcall fun r ou' hq hids hou' => ?_
        obtain ⟨rfl, x', rfl, hS2⟩ := hq
        rw [← hsn] at hS2
        refine zM ?_
        exact cInv ⟨ks.length - (i + 1), (i + 1, x'), id, by omega, ⟨by omega, hS2, rfl⟩, LessR.of rfl (by (repeat' first | exact FrSub.nil | refine zfc ?_ | refine zfo ?_ | refine zfp ?_)) (by simp) .nil rfl rfl hou'⟩
      · have hlt : i = ks.length := by simp at hb2; omega
        subst hlt
        rw [List.take_length] at hS
        refine zA ?_
        exact AFn.fin' rfl (WkF.refl _) (by simp) hou ⟨rfl, x, rfl, by simp only [walkU, hs0]; exact hS⟩
end Go.Proofs.YtgdionbeeodaaaaDoor
namespace Go.CoreX
abbrev Nb := Option (Nat × Nat)
structure LAlt where
  tag : Int
  nb : Nb
  binds : List Int
def LAlt.er (a : LAlt) : Alt := ⟨a.tag, a.binds⟩
inductive LTr where
  | mk (id : Nat) (op n : Int) (nb : Nb) (binds : List Int) (kids : List LTr) (alts : List LAlt)
instance : Inhabited LTr := ⟨.mk 0 0 0 none [] [] []⟩
def LTr.id : LTr → Nat | .mk i _ _ _ _ _ _ => i
def LTr.kids : LTr → List LTr | .mk _ _ _ _ _ k _ => k
mutual
def erT : LTr → Tr
  | .mk _ o n _ b k a => .mk o n b (erTs k) (a.map LAlt.er)
def erTs : List LTr → List Tr
  | [] => []
  | t :: ts => erT t :: erTs ts
end
theorem erTs_eq : ∀ l : List LTr, erTs l = l.map erT
  | [] => rfl
  | t :: l => by simp [erTs, erTs_eq l]
end Go.CoreX
namespace Go.Proofs.YtgdionbeeodaaaaDoor
open Go Go.Abs Go.CoreX
set_option maxRecDepth 10000
variable {Γ : List (Nat × List AC)}
def bC : Nb → List Int → AC
  | none, l => .sl 1 (l.map cI)
  | some (a, cap), l => .arr (.o a) 1 0 (l.map cI).length cap
def bO : Nb → List Int → List (Nat × AObj)
  | none, _ => []
  | some (a, cap), l => [(a, .cells (vec 1 (l.map cI) cap))]
def lAlt (x : LAlt) : List AC := [int x.tag, bC x.nb x.binds]
def aO (l : List LAlt) : List (Nat × AObj) := l.flatMap fun x => bO x.nb x.binds
def kC (l : List LTr) : List (List AC) := l.map fun t => [.ptr (.o t.id) 0]
def lC : LTr → List AC
  | .mk _ o n nb b k a => [int o, int n, bC nb b, .sl 1 (kC k), .sl 2 (a.map lAlt)]
mutual
def objs : LTr → List (Nat × AObj)
  | .mk i o n nb b k a => (i, .cells [int o, int n, bC nb b, .sl 1 (kC k), .sl 2 (a.map lAlt)]) :: (bO nb b ++ aO a) ++ objss k
def objss : List LTr → List (Nat × AObj)
  | [] => []
  | t :: ts => objs t ++ objss ts
end
abbrev keys (l : List (Nat × AObj)) : List Nat := l.map (·.1)
def Owns (ou : Outer) (l : List (Nat × AObj)) : Prop := ∀ p ∈ l, ou p.1 = some p.2
theorem Owns.app {ou : Outer} {l r : List (Nat × AObj)} : Owns ou (l ++ r) ↔ Owns ou l ∧ Owns ou r := by
  unfold Owns
  constructor
  · exact fun h => ⟨fun p hp => h p (by simp [hp]), fun p hp => h p (by simp [hp])⟩
  · rintro ⟨h1, h2⟩ p hp
    rcases List.mem_append.1 hp with hp | hp
    · exact h1 p hp
    · exact h2 p hp
theorem Owns.frame {ou ou' : Outer} {l : List (Nat × AObj)} (h : Owns ou l) (hf : ∀ j ∈ keys l, ou' j = ou j) : Owns ou' l := fun p hp => (hf p.1 (List.mem_map_of_mem hp)).trans (h p hp)
theorem objss_eq : ∀ l : List LTr, objss l = l.flatMap objs
  | [] => rfl
  | t :: l => by simp [objss, objss_eq l]
theorem objss_app (l r : List LTr) : objss (l ++ r) = objss l ++ objss r := by simp [objss_eq]
theorem id_mem : ∀ t : LTr, t.id ∈ keys (objs t)
  | .mk i o n nb b k a => by simp [objs, LTr.id]
theorem owns_node {ou : Outer} : ∀ {t : LTr}, Owns ou (objs t) → ou t.id = some (.cells (lC t))
  | .mk i o n nb b k a, h => h (i, .cells [int o, int n, bC nb b, .sl 1 (kC k), .sl 2 (a.map lAlt)]) (by simp [objs])
theorem ids_bC (p : Abs.Id → Prop) (hp : ∀ k, p (.o k)) (nb : Nb) (l : List Int) : (bC nb l).ids p := by
  cases nb with
  | none => simp [bC, AC.ids]
  | some x => exact hp _
theorem ids_kC (p : Abs.Id → Prop) (hp : ∀ k, p (.o k)) (l : List LTr) : idsS p (kC l) := idsS_map (f := fun t : LTr => [.ptr (.o t.id) 0]) (fun t => by simp only [idsL, AC.ids, and_true]; exact hp _) l
theorem ids_lAlts (p : Abs.Id → Prop) (hp : ∀ k, p (.o k)) (l : List LAlt) : idsS p (l.map lAlt) := idsS_map (f := lAlt) (fun t => by simp only [lAlt, idsL, AC.ids, and_true, true_and]; exact ids_bC p hp _ _) l
theorem bC_read {Γ : List (Nat × List AC)} {F : Nat → Prop} {w : World} {C C' : Ctx} {σ : St} (hi : Inv Γ F w C σ) (hc : Chg isO w C w C') {nb : Nb} {l : List Int} (ho : Owns σ.ou (bO nb l)) (hp : ∀ k ∈ keys (bO nb l), ∀ a : Addr, a.block = C.blk (.o k) → C'.prot a) {v : Value}
    (hr : R w C (bC nb l) v) : R w C' (.sl 1 (l.map cI)) v := by
  cases nb with
  | none => exact R.chg hc (.sl 1 (l.map cI)) v (ids_cIs _ _) hr
  | some x =>
    obtain ⟨a, cap⟩ := x
    have hg : σ.get (.o a) = some (.cells (vec 1 (l.map cI) cap)) := ho (a, .cells (vec 1 (l.map cI) cap)) (by simp [bO])
    obtain ⟨hok, zs, T, b1, b2, b3, b4⟩ := hi.obj _ _ hg
    simp only [bC, R, Nat.zero_mul] at hr
    refine ⟨some ⟨C.blk (.o a), 0, none⟩, cap, hr.2.1, hr.2.2, .inr ⟨_, rfl, rfl, ?_⟩⟩
    have hl : ∀ x ∈ l.map cI, x.length = 1 := fun x hx => by obtain ⟨n, _, rfl⟩ := List.mem_map.1 hx; rfl
    have hfl := flat_len hl
    have hzl := RV.length b3
    have hfi : idsL isO (l.map cI).flatten := by
      refine idsL_iff.2 fun c hc => ?_
      obtain ⟨e, he, hce⟩ := List.mem_flatten.1 hc
      obtain ⟨n, _, rfl⟩ := List.mem_map.1 he
      simp [cI] at hce; subst hce; trivial
    have hv : RV w C' (l.map cI).flatten (zs.take ((l.map cI).length * 1)) := by
      refine RV.chg hc _ _ hfi ?_
      have := b3.take ((l.map cI).length * 1)
      rwa [vec, List.take_append_of_le_length (by omega), List.take_of_length_le (by omega)] at this
    refine RS.ofVals 0 hl hv fun j v hj => ⟨?_, hp a (by simp [bO]) _ rfl⟩
    have h2 : j < (l.map cI).length * 1 := by have := (List.getElem?_eq_some_iff.1 hj).1; simp at this ⊢; omega
    rw [List.getElem?_take_of_lt h2] at hj
    rw [Nat.zero_add, cell_of_row _ _ _ _ _ _ b1]
    simpa using hj
theorem aC_read {Γ : List (Nat × List AC)} {F : Nat → Prop} {w : World} {C C' : Ctx} {σ : St} (hi : Inv Γ F w C σ) (hc : Chg isO w C w C') : ∀ {l : List LAlt}, Owns σ.ou (aO l) → (∀ k ∈ keys (aO l), ∀ a : Addr, a.block = C.blk (.o k) → C'.prot a) → ∀ ad : Addr,
    RS w C 2 (l.map lAlt) ad → RS w C' 2 ((l.map LAlt.er).map cAlt) ad
  | [], _, _, ad, _ => by simp [RS]
  | x :: l, ho, hp, ad, hr => by
    have e : aO (x :: l) = bO x.nb x.binds ++ aO l := rfl
    rw [e] at ho hp
    obtain ⟨ho1, ho2⟩ := Owns.app.1 ho
    simp only [List.map_cons, RS, lAlt, RL] at hr
    obtain ⟨_, ⟨⟨u, hu, hup, hur⟩, ⟨v, hv, hvp, hvr⟩, _⟩, hrest⟩ := hr
    refine ⟨rfl, ⟨⟨u, hu, hc.prot _ hup, R.chg hc _ u trivial hur⟩, ⟨v, hv, hc.prot _ hvp, ?_⟩, trivial⟩, aC_read hi hc ho2 (fun k hk => hp k (by simp [keys] at hk ⊢; exact .inr hk)) _ hrest⟩
    exact bC_read hi hc ho1 (fun k hk => hp k (by simp [keys] at hk ⊢; exact .inl hk)) hvr
mutual
theorem own_read {Γ : List (Nat × List AC)} {F : Nat → Prop} {w : World} {C C' : Ctx} {σ : St} (hi : Inv Γ F w C σ) (hc : Chg isO w C w C') : ∀ t : LTr, Owns σ.ou (objs t) → (∀ k ∈ keys (objs t), ∀ a : Addr, a.block = C.blk (.o k) → C'.prot a) → RL w C' (cTr (erT t)) ⟨C.blk (.o t.id), 0, none⟩
  | .mk i o n nb b k a, ho, hp => by
    have hg : σ.get (.o i) = some (.cells (lC (.mk i o n nb b k a))) := owns_node (t := .mk i o n nb b k a) ho
    obtain ⟨hok, zs, T, b1, b2, b3, b4⟩ := hi.obj _ _ hg
    have e : objs (.mk i o n nb b k a) = [(i, .cells [int o, int n, bC nb b, .sl 1 (kC k), .sl 2 (a.map lAlt)])] ++ ((bO nb b ++ aO a) ++ objss k) := by simp [objs]
    rw [e] at ho hp
    obtain ⟨_, ho2⟩ := Owns.app.1 ho
    obtain ⟨ho3, hok2⟩ := Owns.app.1 ho2
    obtain ⟨hob, hoa⟩ := Owns.app.1 ho3
    have hpb : ∀ k' ∈ keys (bO nb b), ∀ a : Addr, a.block = C.blk (.o k') → C'.prot a := fun k' hk => hp k' (by simp [keys] at hk ⊢; exact .inr (.inl hk))
    have hpa : ∀ k' ∈ keys (aO a), ∀ a : Addr, a.block = C.blk (.o k') → C'.prot a := fun k' hk => hp k' (by simp [keys] at hk ⊢; exact .inr (.inr (.inl hk)))
    have hpk : ∀ k' ∈ keys (objss k), ∀ a : Addr, a.block = C.blk (.o k') → C'.prot a := fun k' hk => hp k' (by simp [keys] at hk ⊢; exact .inr (.inr (.inr hk)))
    simp only [lC, RV, R] at b3
    obtain ⟨v1, _, rfl, ⟨rfl, _⟩, v2, _, rfl, ⟨rfl, _⟩, v3, _, rfl, h3, v4, _, rfl, ⟨a4, c4, rfl, l4, h4⟩, v5, _, rfl, ⟨a5, c5, rfl, l5, h5⟩, rfl⟩ := b3
    have hrv : RV w C' (cTr (erT (.mk i o n nb b k a))) [.int .i64 o, .int .i64 n, v3, .slice a4 (kC k).length c4, .slice a5 (a.map lAlt).length c5] := by
      simp only [cTr, erT, Tr.op_mk, Tr.n_mk, Tr.binds_mk, Tr.kids_mk, Tr.alts_mk, RV]
      refine ⟨_, _, rfl, by simp [R, Value.oneCell'], _, _, rfl, by simp [R, Value.oneCell'], _, _, rfl, bC_read hi hc hob hpb h3, _, _, rfl, ?_, _, _, rfl, ?_, rfl⟩
      · refine ⟨a4, c4, by simp [kC, erTs_eq], by simpa [kC, erTs_eq] using l4, ?_⟩
        rcases h4 with h4 | ⟨ad, rfl, hs, h4⟩
        · left
          simp only [kC, List.map_eq_nil_iff] at h4
          subst h4; rfl
        · exact .inr ⟨ad, rfl, hs, own_reads hi hc k hok2 hpk ad h4⟩
      · refine ⟨a5, c5, by simp, by simpa using l5, ?_⟩
        rcases h5 with h5 | ⟨ad, rfl, hs, h5⟩
        · left
          simp only [List.map_eq_nil_iff] at h5
          subst h5; rfl
        · exact .inr ⟨ad, rfl, hs, aC_read hi hc hoa hpa ad h5⟩
    refine RL.of_new 0 hrv (fun j v hj => ?_) (fun ad ha => ?_)
    · rw [Nat.zero_add]
      show w.cell? ⟨C.blk (.o i), j, none⟩ = some v
      rw [cell_of_row _ _ _ _ _ _ b1]
      simpa using hj
    · exact hp i (by simp [keys]) _ ha
theorem own_reads {Γ : List (Nat × List AC)} {F : Nat → Prop} {w : World} {C C' : Ctx} {σ : St} (hi : Inv Γ F w C σ) (hc : Chg isO w C w C') : ∀ l : List LTr, Owns σ.ou (objss l) → (∀ k ∈ keys (objss l), ∀ a : Addr, a.block = C.blk (.o k) → C'.prot a) → ∀ ad : Addr, RS w C 1 (kC l) ad → RS w C' 1 (encTrs (erTs l)) ad
  | [], _, _, ad, _ => by simp [erTs, encTrs, RS]
  | t :: l, ho, hp, ad, hr => by
    have e : objss (t :: l) = objs t ++ objss l := rfl
    rw [e] at ho hp
    obtain ⟨ho1, ho2⟩ := Owns.app.1 ho
    simp only [kC, List.map_cons, RS, RL, R] at hr
    obtain ⟨_, ⟨⟨u, hu, hup, _, hur⟩, _⟩, hrest⟩ := hr
    simp only [erTs, encTrs, RS]
    refine ⟨rfl, ⟨⟨u, hu, hc.prot _ hup, ⟨_, hur, rfl, ?_⟩⟩, trivial⟩, own_reads hi hc l ho2 (fun k hk => hp k (by simp [keys] at hk ⊢; exact .inr hk)) _ hrest⟩
    rw [encTr_eq]
    exact own_read hi hc t ho1 fun k hk => hp k (by simp [keys] at hk ⊢; exact .inl hk)
end
mutual
theorem objs_cells : ∀ t : LTr, ∀ p ∈ objs t, ∃ cs, p.2 = .cells cs
  | .mk i o n nb b k a, p, hp => by
    simp only [objs, List.cons_append, List.mem_cons, List.mem_append] at hp
    have hb : ∀ (nb : Nb) (l : List Int), ∀ p ∈ bO nb l, ∃ cs, p.2 = .cells cs := fun nb l p hp => by
      cases nb with
      | none => simp [bO] at hp
      | some x => simp [bO] at hp; subst hp; exact ⟨_, rfl⟩
    rcases hp with rfl | (hp | hp) | hp
    · exact ⟨_, rfl⟩
    · exact hb _ _ p hp
    · unfold aO at hp
      obtain ⟨x, _, hx⟩ := List.mem_flatMap.1 hp
      exact hb _ _ p hx
    · exact objss_cells k p hp
theorem objss_cells : ∀ l : List LTr, ∀ p ∈ objss l, ∃ cs, p.2 = .cells cs
  | [], p, hp => by simp [objss] at hp
  | t :: l, p, hp => by
    simp only [objss, List.mem_append] at hp
    rcases hp with hp | hp
    · exact objs_cells t p hp
    · exact objss_cells l p hp
end
theorem LendF.tree {σ : St} {t : LTr} (h : Owns σ.ou (objs t)) : LendF σ (.one (.ptr (.o t.id) 0)) (.one (.box (cTr (erT t)))) := by
  intro Γ F w C v hi hr
  simp only [RF, R] at hr
  refine ⟨_, hr.2, rfl, own_read hi hi.stillChg t h fun k hk a ha => ?_⟩
  obtain ⟨p, hp, rfl⟩ := List.mem_map.1 hk
  obtain ⟨cs, hcs⟩ := objs_cells t p hp
  show a.block < w.heap.size
  rw [ha]
  exact (AObj.block_lt (hi.obj (.o p.1) p.2 (h p hp)).2 (by rw [hcs]; rfl)).2
def deadL (ou : Outer) (l : List Nat) : Outer := fun j => if j ∈ l then some .dead else ou j
theorem inv_freezeL {Γ : List (Nat × List AC)} {F : Nat → Prop} {w : World} : ∀ (l : List (Nat × AObj)) {C : Ctx} {σ : St}, Inv Γ F w C σ → Owns σ.ou l → (keys l).Nodup → (∀ p ∈ l, ∃ cs, p.2 = .cells cs) →
    ∃ C', Goes F (fun _ => True) w C w C' ∧ Inv Γ F w C' { σ with ou := deadL σ.ou (keys l) } ∧ (∀ i, C'.blk i = C.blk i) ∧ ∀ k ∈ keys l, ∀ a : Addr, a.block = C.blk (.o k) → C'.prot a
  | [], C, σ, hi, _, _, _ => ⟨C, Goes.refl _ _ _ _, by rw [show deadL σ.ou (keys []) = σ.ou from funext fun j => by simp [deadL]]; exact hi, fun _ => rfl, fun k hk => by simp at hk⟩
  | (k, o) :: l, C, σ, hi, ho, hn, hc => by
    obtain ⟨cs, rfl⟩ : ∃ cs, o = .cells cs := hc (k, o) (by simp)
    simp only [keys, List.map_cons, List.nodup_cons] at hn
    have hg : σ.get (.o k) = some (.cells cs) := ho (k, .cells cs) (by simp)
    obtain ⟨h1, h2, h3⟩ := hi.freeze hg
    have ho2 : Owns (σ.set (.o k) .dead).ou l := fun p hp => by
      have hne : p.1 ≠ k := fun e => hn.1 (e ▸ List.mem_map_of_mem hp)
      show (bif Nat.beq p.1 k then some AObj.dead else σ.ou p.1) = some p.2
      rw [beq_no hne]
      exact ho p (by simp [hp])
    obtain ⟨C', g1, g2, g3, g4⟩ := inv_freezeL l h2 ho2 hn.2 fun p hp => hc p (by simp [hp])
    refine ⟨C', h1.trans g1, ?_, fun i => g3 i, fun j hj a ha => ?_⟩
    · have e : ({ σ.set (.o k) .dead with ou := deadL (σ.set (.o k) .dead).ou (keys l) } : St) = { σ with ou := deadL σ.ou (keys ((k, .cells cs) :: l)) } := by
        show St.mk σ.n σ.lo _ = St.mk σ.n σ.lo _
        congr 1
        funext j
        show deadL (fun j => bif Nat.beq j k then some AObj.dead else σ.ou j) (keys l) j = _
        unfold deadL
        by_cases e : j = k
        · subst e; simp
        · simp only [beq_no e, cond_false, keys, List.map_cons, List.mem_cons, e, false_or]
      rw [← e]; exact g2
    · simp only [keys, List.map_cons, List.mem_cons] at hj
      rcases hj with rfl | hj
      · exact g1.chg.prot a (.inr ha)
      · exact g4 j hj a ha
end Go.Proofs.YtgdionbeeodaaaaDoor
namespace Go.CoreX
def frB (f : Int) (l : List Int) : List Int := (List.range l.length).map fun i : Nat => f + i
def frN (m : Nm) (f : Int) (l : List Int) : Nm := putsN m l (frB f l)
def frTo (f : Int) (l : List Int) (j : Nat) : List Int := ((List.range j).map fun i : Nat => f + i) ++ l.drop j
theorem frB_len (f : Int) (l : List Int) : (frB f l).length = l.length := by simp [frB]
end Go.CoreX
namespace Go.Proofs.YtgdionbeeodaaaaDoor
open Go Go.Abs Go.CoreX
set_option maxRecDepth 10000
variable {Γ : List (Nat × List AC)}
theorem OuOk.set {σ : St} {k : Nat} {o : AObj} (h : OuOk σ.ou) (ho : o.ids isO) : OuOk (σ.set (.o k) o).ou := by
  intro j p hj
  have hj' : (bif Nat.beq j k then some o else σ.ou j) = some p := hj
  by_cases e : j = k
  · subst e; simp at hj'; subst hj'; exact ho
  · rw [beq_no e] at hj'; exact h j p hj'
structure RnS (ou : Outer) (kn km kf : Nat) (nm : Nm) (ck : Nat) (l : List (Nat × Int × Int)) (f : Int) : Prop where
  n : ou kn = some (.cells [.mp (.o km)])
  m : ou km = some (.map ck (encI eN l))
  k : IMOk nm ck l
  f : ou kf = some (.cells [int f])
theorem RnS.ne {ou : Outer} {kn km kf : Nat} {nm : Nm} {ck : Nat} {l : List (Nat × Int × Int)} {f : Int} (h : RnS ou kn km kf nm ck l f) : kn ≠ km ∧ kn ≠ kf ∧ km ≠ kf := by
  refine ⟨fun e => ?_, fun e => ?_, fun e => ?_⟩
  · have := h.n; rw [e, h.m] at this; cases this
  · have := h.n; rw [e, h.f] at this; cases this
  · have := h.m; rw [e, h.f] at this; cases this
def FreshQ (ou : Outer) (kn km kf : Nat) (nm : Nm) (f : Int) (nb : Nb) (b : List Int) (r : FV) (ou' : Outer) : Prop :=
  r = .tup [] ∧ ∃ ck' l', RnS ou' kn km kf (frN nm f b) ck' l' (f + b.length) ∧ Owns ou' (bO nb (frB f b)) ∧ OuOk ou' ∧ ∀ j, j ≠ km → j ≠ kf → j ∉ keys (bO nb b) → ou' j = ou j
end Go.Proofs.YtgdionbeeodaaaaDoor
namespace Go.CoreX
def rnAs (nm : Nm) (f : Int) : List LAlt → List LAlt × Nm × Int
  | [] => ([], nm, f)
  | x :: l => (⟨x.tag, x.nb, frB f x.binds⟩ :: (rnAs (frN nm f x.binds) (f + x.binds.length) l).1, (rnAs (frN nm f x.binds) (f + x.binds.length) l).2)
def ren1 (o : Int) (nm : Nm) (f : Int) (b : List Int) : List Int × Nm × Int := if o = 9 then (b, nm, f) else (frB f b, frN nm f b, f + b.length)
mutual
def rnL (nm : Nm) (f : Int) : LTr → LTr × Nm × Int
  | .mk i o n nb b k a =>
    let s1 := ren1 o nm f b
    let s2 := rnAs s1.2.1 s1.2.2 a
    let s3 := rnLs s2.2.1 s2.2.2 k
    (.mk i o (if o = 0 then (nm n).getD n else n) nb s1.1 s3.1 s2.1, s3.2)
def rnLs (nm : Nm) (f : Int) : List LTr → List LTr × Nm × Int
  | [] => ([], nm, f)
  | t :: l => ((rnL nm f t).1 :: (rnLs (rnL nm f t).2.1 (rnL nm f t).2.2 l).1, (rnLs (rnL nm f t).2.1 (rnL nm f t).2.2 l).2)
end
def nbA (l : List LAlt) : Nat := (l.map fun x => x.binds.length).sum
mutual
def nbL : LTr → Nat
  | .mk _ o _ _ b k a => (if o = 9 then 0 else b.length) + nbA a + nbLs k
def nbLs : List LTr → Nat
  | [] => 0
  | t :: l => nbL t + nbLs l
end
def ownB (nb : Nb) (b : List Int) : Prop := nb = none → b = []
mutual
def okL : LTr → Prop
  | .mk _ o _ nb b k a => (o ≠ 9 → ownB nb b) ∧ b.length ≤ 1048576 ∧ k.length ≤ 1048576 ∧ a.length ≤ 1048576 ∧ (∀ x ∈ a, ownB x.nb x.binds ∧ x.binds.length ≤ 1048576) ∧ okLs k
def okLs : List LTr → Prop
  | [] => True
  | t :: l => okL t ∧ okLs l
end
theorem okLs_iff : ∀ {l : List LTr}, okLs l ↔ ∀ t ∈ l, okL t
  | [] => by simp [okLs]
  | t :: l => by simp [okLs, okLs_iff (l := l)]
end Go.CoreX
namespace Go.Proofs.YtgdionbeeodaaaaDoor
open Go Go.Abs Go.CoreX
set_option maxRecDepth 10000
variable {Γ : List (Nat × List AC)}
theorem keys_app (l r : List (Nat × AObj)) : keys (l ++ r) = keys l ++ keys r := by simp [keys]
theorem aO_app (l r : List LAlt) : aO (l ++ r) = aO l ++ aO r := by simp [aO]
def fnR (kn kf kw : Nat) : AC := .fn (.func 91) [] [.ptr (.o kn) 0, .ptr (.o kf) 0, .ptr (.o kw) 0]
def RenQ (ou : Outer) (kn km kf : Nat) (nm : Nm) (f : Int) (t : LTr) (r : FV) (ou' : Outer) : Prop :=
  r = .tup [] ∧ ∃ ck' l', RnS ou' kn km kf (rnL nm f t).2.1 ck' l' (rnL nm f t).2.2 ∧ Owns ou' (objs (rnL nm f t).1) ∧ OuOk ou' ∧ ∀ j, j ≠ km → j ≠ kf → j ∉ keys (objs t) → ou' j = ou j
def RenOk (Γ : List (Nat × List AC)) (t : LTr) : Prop := ∀ (ou : Outer) (kn km kf kw : Nat) (nm : Nm) (ck : Nat) (l : List (Nat × Int × Int)) (f : Int), RnS ou kn km kf nm ck l f → ou kw = some (.cells [fnR kn kf kw]) → Owns ou (objs t) → (keys (objs t)).Nodup →
  (∀ k ∈ keys (objs t), k ≠ kn ∧ k ≠ km ∧ k ≠ kf ∧ k ≠ kw) → 0 ≤ f → f + nbL t ≤ 4611686018427387904 → OuOk ou →
  AFn Tryd.prog Γ 91 [.one (.ptr (.o t.id) 0), .one (.ptr (.o kn) 0), .one (.ptr (.o kf) 0), .one (.ptr (.o kw) 0)] ou (RenQ ou kn km kf nm f t)
theorem ids_node (o n : Int) (nb : Nb) (b : List Int) (ks : List LTr) (a : List LAlt) : (AObj.cells [int o, int n, bC nb b, .sl 1 (kC ks), .sl 2 (a.map lAlt)]).ids isO :=
  ⟨trivial, trivial, ids_bC _ (fun _ => trivial) _ _, ids_kC _ (fun _ => trivial) _, ids_lAlts _ (fun _ => trivial) _, trivial⟩
structure NdS (ou ov : Outer) (kn km kf kw i : Nat) (cs : List AC) (K : List Nat) (nm : Nm) (ck : Nat) (l : List (Nat × Int × Int)) (f : Int) (Lb La Lk : List (Nat × AObj)) : Prop where
  R : RnS ov kn km kf nm ck l f
  w : ov kw = some (.cells [fnR kn kf kw])
  i : ov i = some (.cells cs)
  b : Owns ov Lb
  a : Owns ov La
  k : Owns ov Lk
  ok : OuOk ov
  fr : ∀ j, j ≠ km → j ≠ kf → j ∉ K → ov j = ou j
theorem NdS.frame {ou ov ow : Outer} {kn km kf kw i : Nat} {cs : List AC} {K S : List Nat} {nm nm' : Nm} {ck ck' : Nat} {l l' : List (Nat × Int × Int)} {f f' : Int} {Lb La Lk Lb' La' Lk' : List (Nat × AObj)} (h : NdS ou ov kn km kf kw i cs K nm ck l f Lb La Lk)
    (hR : RnS ow kn km kf nm' ck' l' f') (hok : OuOk ow) (hfr : ∀ j, j ≠ km → j ≠ kf → j ∉ S → ow j = ov j) (hS : ∀ j ∈ S, j ∈ K ∧ j ≠ i) (hK : ∀ k ∈ K, k ≠ kn ∧ k ≠ km ∧ k ≠ kf ∧ k ≠ kw) (hi : i ∈ K) (hw : kw ≠ km ∧ kw ≠ kf)
    (hb : Owns ow Lb') (ha : Owns ow La') (hk : Owns ow Lk') : NdS ou ow kn km kf kw i cs K nm' ck' l' f' Lb' La' Lk' where
  R := hR
  w := (hfr kw hw.1 hw.2 fun hj => (hK kw (hS kw hj).1).2.2.2 rfl).trans h.w
  i := (hfr i (hK i hi).2.1 (hK i hi).2.2.1 fun hj => (hS i hj).2 rfl).trans h.i
  b := hb
  a := ha
  k := hk
  ok := hok
  fr := fun j h1 h2 h3 => (hfr j h1 h2 fun hj => h3 (hS j hj).1).trans (h.fr j h1 h2 h3)
end Go.Proofs.YtgdionbeeodaaaaDoor
namespace Go.Proofs.YtgdionbeeodaaaaDoor
open Go Go.Abs Go.CoreX
set_option maxRecDepth 10000
variable {Γ : List (Nat × List AC)}
abbrev nm0 : Nm := fun _ => none
theorem ouAdd_ok {ou : Outer} {k : Nat} {os : List AObj} (h : OuOk ou) (ho : ∀ o ∈ os, o.ids isO) : OuOk (ouAdd ou k os) := by
  intro m o hm
  rcases Nat.lt_or_ge m k with h1 | h1
  · rw [ouAdd_old h1] at hm; exact h m o hm
  · obtain ⟨p, rfl⟩ : ∃ p, m = k + p := ⟨m - k, by omega⟩
    rw [ouAdd_new] at hm
    exact ho o (List.mem_of_getElem? hm)
def ouCut (ou : Outer) (k : Nat) : Outer := fun m => if m < k then ou m else none
def RenameQ (ou : Outer) (t : LTr) (f : Int) (r : FV) (ou' : Outer) : Prop :=
  r = .one (int (rnL nm0 f t).2.2) ∧ Owns ou' (objs (rnL nm0 f t).1) ∧ OuOk ou' ∧ ∀ j, j ∉ keys (objs t) → ou' j = ou j
end Go.Proofs.YtgdionbeeodaaaaDoor
namespace Go.Proofs.YtgdionbeeodaaaaDoor
open Go Go.Abs Go.CoreX
set_option maxRecDepth 10000
variable {Γ : List (Nat × List AC)}
theorem Wk.arr0 (i : Abs.Id) (s cap : Nat) : Wk (.arr i s 0 0 cap) (.sl s []) := by
  intro w C v h
  simp only [R] at h ⊢
  obtain ⟨_, rfl, hc⟩ := h
  exact ⟨_, cap, rfl, by simp, .inl trivial⟩
structure NewO (ou ou' : Outer) (L : List (Nat × AObj)) : Prop where
  own : Owns ou' L
  new : ∀ k ∈ keys L, ou k = none
  old : ∀ m, m ∉ keys L → ou' m = ou m
  ok : OuOk ou'
  nd : (keys L).Nodup
theorem NewO.nil {ou : Outer} (h : OuOk ou) : NewO ou ou [] := ⟨fun p hp => by simp at hp, fun k hk => by simp [keys] at hk, fun _ _ => rfl, h, by simp [keys]⟩
theorem NewO.trans {ou ou1 ou2 : Outer} {L M : List (Nat × AObj)} (h : NewO ou ou1 L) (k : NewO ou1 ou2 M) : NewO ou ou2 (L ++ M) := by
  have hLM : ∀ j ∈ keys L, j ∉ keys M := fun j hj hm => by
    have h1 := k.new j hm
    obtain ⟨p, hp, rfl⟩ := List.mem_map.1 hj
    rw [h.own p hp] at h1
    cases h1
  refine ⟨Owns.app.2 ⟨h.own.frame fun j hj => k.old j (hLM j hj), k.own⟩, fun j hj => ?_, fun m hm => ?_, k.ok, ?_⟩
  · rw [keys_app, List.mem_append] at hj
    by_cases e : j ∈ keys L
    · exact h.new j e
    · rw [← h.old j e]
      exact k.new j (hj.resolve_left e)
  · rw [keys_app, List.mem_append, not_or] at hm
    rw [k.old m hm.2, h.old m hm.1]
  · rw [keys_app, List.nodup_append]
    exact ⟨h.nd, k.nd, fun a ha b hb e => hLM a ha (e ▸ hb)⟩
theorem NewO.frame {ou ou' : Outer} {L M : List (Nat × AObj)} (h : NewO ou ou' L) (ho : Owns ou M) : Owns ou' M := ho.frame fun j hj => h.old j fun hm => by
  obtain ⟨p, hp, rfl⟩ := List.mem_map.1 hj
  have := h.new _ hm
  rw [ho p hp] at this
  cases this
def CloneQ (ou : Outer) (l : List Int) (r : FV) (ou' : Outer) : Prop := ∃ nb, ownB nb l ∧ r = .one (bC nb l) ∧ NewO ou ou' (bO nb l)
theorem CloneN_ok (l : List Int) (hl : l.length ≤ 1048576) (ou : Outer) : AFn Tryd.prog Γ 88 [.one (.sl 1 (l.map cI))] ou (CloneQ ou l) := by
  refine AFn.walk 8 tabOk Tryd.func88 rfl (by kernel_rfl) rfl rfl fun hou => ?_
  refine zA ?_
  refine AOps.nilTest rfl rfl rfl rfl Tryd.underlying35 rfl rfl fun b hb => ?_
  refine zA ?_
  refine ACode.cond rfl (fun hb2 => ?_) (fun hb2 => ?_)
  · have h0 : l = [] := by simpa using hb hb2
    subst h0
    refine zA ?_
    exact AFn.fin' rfl (.one (.nilS 1)) (by simp) hou ⟨none, fun _ => rfl, rfl, .nil hou⟩
  · clear hb
    refine zA ?_
    refine AOps.step1 rfl rfl rfl (AStep.buildOwn0 (s := 1) tabOk rfl rfl rfl rfl rfl) ?_
    refine zA ?_
    by_cases h0 : l = []
    · subst h0
      refine AOps.step1 rfl rfl rfl (AStep.appNone tabOk rfl rfl rfl rfl rfl rfl) ?_
      refine zA ?_
      exact AFn.fin' rfl (.one (Wk.arr0 _ _ _)) (by simp) hou ⟨none, fun _ => rfl, rfl, .nil hou⟩
    · refine AOps.appOwn tabOk rfl rfl rfl rfl rfl rfl rfl rfl rfl (.own 1 0 [] (.l 0) rfl (by simp) (by simp)) (.sl 1 (l.map cI)) (by simpa using h0) rfl (by simp; show _ * 8 ≤ _; omega) (by simp; omega) fun cap hc => ?_
      simp only [List.nil_append] at hc ⊢
      refine AOps.cedes [1] rfl (by decide) hou fun k hk => ⟨[(7, .one (.arr (.o k) 1 0 (l.map cI).length cap))], [], [.cells (vec 1 (l.map cI) cap)], .cons rfl rfl .nil, .nil, .cons rfl ?_ .nil, ?_⟩
      · exact AObj.sub_f (fun i hi => by cases i with | l q => exact hi.elim | o q => rfl) _ (show idsL isO (vec 1 (l.map cI) cap) from ids_vecI _ _ _)
      have hk' : ∀ m, k ≤ m → ou m = none := hk
      have hok : OuOk (ouAdd ou k [.cells (vec 1 (l.map cI) cap)]) := ouAdd_ok hou fun o ho => by simp at ho; subst ho; exact ids_vecI _ _ _
      refine zA ?_
      refine AFn.fin' rfl (WkF.ofEq rfl) (by simp) hok ⟨some (k, cap), (fun h => by cases h), rfl, fun p hp => ?_, fun j hj => ?_, fun m hm => ?_, hok, by simp [bO, keys]⟩
      · simp [bO] at hp; subst hp
        exact ouAdd_new 0
      · simp [bO, keys] at hj; subst hj; exact hk' _ (Nat.le_refl _)
      · simp [bO, keys] at hm
        show ouAdd ou k [.cells (vec 1 (l.map cI) cap)] m = ou m
        rcases Nat.lt_or_ge m k with h1 | h1
        · exact ouAdd_old h1
        · obtain ⟨p, rfl⟩ : ∃ p, m = k + p := ⟨m - k, by omega⟩
          rw [ouAdd_new, hk' _ h1]
          cases p with
          | zero => simp at hm
          | succ p => simp
end Go.Proofs.YtgdionbeeodaaaaDoor
namespace Go.CoreX
theorem cnt_kids : ∀ {e f : List Ex}, e.map (·.kids) = f.map (·.kids) → ∀ i, cnt e i = cnt f i
  | [], [], _, _ => rfl
  | [], _ :: _, h, _ => by simp at h
  | _ :: _, [], h, _ => by simp at h
  | x :: e, y :: f, h, i => by
    simp only [List.map_cons, List.cons.injEq] at h
    simp only [cnt, h.1, cnt_kids h.2 i]
def ixE (e : List Ex) : List Ex := e.mapIdx fun i x => { x with n := (i : Nat) }
theorem ixE_get {e : List Ex} {i : Nat} : (ixE e)[i]? = (e[i]?).map fun x => { x with n := (i : Nat) } := by simp [ixE]
theorem ixE_kids (e : List Ex) : (ixE e).map (·.kids) = e.map (·.kids) := by
  apply List.ext_getElem?
  intro i
  simp only [List.getElem?_map, ixE_get]
  cases e[i]? <;> rfl
theorem ixE_len (e : List Ex) : (ixE e).length = e.length := by simp [ixE]
theorem ixE_tree {e : List Ex} (h : IsTree e) : IsTree (ixE e) := by
  refine ⟨fun e0 => h.ne (by have := ixE_len e; rw [e0] at this; exact List.length_eq_zero_iff.1 (by simpa using this.symm)), fun j x hx => ?_, fun i hi => ?_⟩
  · rw [ixE_get] at hx
    cases he : e[j]? with
    | none => rw [he] at hx; cases hx
    | some y =>
      rw [he] at hx
      simp at hx; subst hx
      exact h.k j y he
  · rw [cnt_kids (ixE_kids e), ixE_len]
    exact h.c i (by rw [ixE_len] at hi; exact hi)
theorem labs_n (e : List Ex) : (labs e).map (·.n) = e.map (·.n) := by simp [labs, labE]
theorem ixE_n (e : List Ex) : (ixE e).map (·.n) = (List.range e.length).map fun i : Nat => (i : Int) := by
  apply List.ext_getElem?
  intro i
  simp only [List.getElem?_map, ixE_get]
  by_cases h : i < e.length
  · simp [h]
  · simp [h]
end Go.CoreX
namespace Go.Proofs.YtgdionbeeodaaaaDoor
open Go Go.Abs Go.CoreX
set_option maxRecDepth 10000
def ownO : LTr → List (Nat × AObj)
  | .mk i o n nb b k a => (bO nb b ++ aO a) ++ [(i, .cells [int o, int n, bC nb b, .sl 1 (kC k), .sl 2 (a.map lAlt)])]
theorem objs_mem : ∀ (t : LTr) (p : Nat × AObj), p ∈ objs t ↔ p ∈ ownO t ∨ p ∈ objss t.kids
  | .mk i o n nb b k a, p => by
    simp only [objs, ownO, LTr.kids, List.cons_append, List.mem_cons, List.mem_append, List.not_mem_nil, or_false]
    constructor
    · rintro (h | (h | h) | h) <;> simp [h]
    · rintro (((h | h) | h) | h) <;> simp [h]
theorem objs_count (k : Nat) : ∀ t : LTr, (keys (objs t)).count k = (keys (ownO t)).count k + (keys (objss t.kids)).count k
  | .mk i o n nb b ks a => by
    simp only [objs, ownO, LTr.kids, keys, List.map_cons, List.map_append, List.cons_append, List.count_cons, List.count_append, List.map_nil, List.count_nil]
    omega
structure LinkL (e : List Ex) (lts : List LTr) (B : Nb → List Int → Prop := ownB) : Prop where
  len : lts.length = e.length
  at_ : ∀ (i : Nat) (x : Ex), e[i]? = some x → ∃ id nb a, lts[i]? = some (.mk id x.op x.n nb x.binds (x.kids.map fun q => lts.getD q.toNat default) a) ∧ a.map LAlt.er = x.alts ∧ B nb x.binds ∧ ∀ y ∈ a, B y.nb y.binds
theorem LinkL.nil {B : Nb → List Int → Prop} : LinkL [] [] B := ⟨rfl, fun i x h => by simp at h⟩
theorem LinkL.snoc {B : Nb → List Int → Prop} {e : List Ex} {lts : List LTr} (h : LinkL e lts B) (hk : kidsIn e) {x : Ex} (hx : ∀ q ∈ x.kids, 0 ≤ q ∧ q < (e.length : Int)) {id : Nat} {nb : Nb} {a : List LAlt} (ha : a.map LAlt.er = x.alts) (hb : B nb x.binds) (hab : ∀ y ∈ a, B y.nb y.binds) :
    LinkL (e ++ [x]) (lts ++ [.mk id x.op x.n nb x.binds (x.kids.map fun q => lts.getD q.toNat default) a]) B := by
  have hgd : ∀ (q : Int), 0 ≤ q → q < (e.length : Int) → ∀ t, (lts ++ [t]).getD q.toNat default = lts.getD q.toNat default := fun q h0 h1 t => getD_app (by rw [h.len]; omega)
  refine ⟨by simp [h.len], fun i y hy => ?_⟩
  by_cases hi : i < e.length
  · rw [List.getElem?_append_left hi] at hy
    obtain ⟨id', nb', a', h1, h2, h3, h4⟩ := h.at_ i y hy
    refine ⟨id', nb', a', ?_, h2, h3, h4⟩
    rw [List.getElem?_append_left (by rw [h.len]; exact hi), h1]
    congr 2
    refine List.map_congr_left fun q hq => ?_
    have := hk i y hy q hq
    exact (hgd q this.1 (by omega) _).symm
  · have hie : i = e.length := by
      have := (List.getElem?_eq_some_iff.1 hy).1
      simp at this; omega
    subst hie
    simp at hy
    subst hy
    refine ⟨id, nb, a, ?_, ha, hb, hab⟩
    rw [← h.len, List.getElem?_append_right (by simp)]
    simp only [Nat.sub_self, List.getElem?_cons_zero]
    congr 2
    exact List.map_congr_left fun q hq => (hgd q (hx q hq).1 (hx q hq).2 _).symm
section
variable {e : List Ex} {lts : List LTr} {B : Nb → List Int → Prop}
theorem LinkL.getD (h : LinkL e lts B) {i : Nat} {t : LTr} (ht : lts[i]? = some t) : lts.getD i default = t := by rw [List.getD_eq_getElem?_getD, ht]; rfl
theorem LinkL.er (h : LinkL e lts B) (hk : kidsIn e) : ∀ (n i : Nat) (t : LTr), i < n → lts[i]? = some t → erT t = treeAt e i
  | 0, i, t, hi, _ => by omega
  | n + 1, i, t, hi, ht => by
    have hil : i < e.length := by rw [← h.len]; exact (List.getElem?_eq_some_iff.1 ht).1
    obtain ⟨x, hx⟩ := get_of_lt hil
    obtain ⟨id, nb, a, h1, h2, _⟩ := h.at_ i x hx
    rw [ht] at h1
    cases h1
    rw [treeAt_node hk hx]
    simp only [erT, h2, erTs_eq, List.map_map]
    congr 1
    refine List.map_congr_left fun q hq => ?_
    have hq' := hk i x hx q hq
    obtain ⟨t', ht'⟩ := get_of_lt (l := lts) (i := q.toNat) (by rw [h.len]; omega)
    simp only [Function.comp, h.getD ht']
    exact h.er hk n q.toNat t' (by omega) ht'
theorem LinkL.own (h : LinkL e lts B) (hk : kidsIn e) : ∀ (n i : Nat) (t : LTr), i < n → lts[i]? = some t → ∀ p ∈ objs t, p ∈ lts.flatMap ownO
  | 0, i, t, hi, _ => by omega
  | n + 1, i, t, hi, ht => fun p hp => by
    have hil : i < e.length := by rw [← h.len]; exact (List.getElem?_eq_some_iff.1 ht).1
    obtain ⟨x, hx⟩ := get_of_lt hil
    obtain ⟨id, nb, a, h1, _⟩ := h.at_ i x hx
    rw [ht] at h1
    rcases (objs_mem t p).1 hp with hp | hp
    · exact List.mem_flatMap.2 ⟨t, List.mem_of_getElem? ht, hp⟩
    · cases h1
      simp only [LTr.kids, objss_eq] at hp
      obtain ⟨u, hu, hpu⟩ := List.mem_flatMap.1 hp
      obtain ⟨q, hq, rfl⟩ := List.mem_map.1 hu
      have hq' := hk i x hx q hq
      obtain ⟨t', ht'⟩ := get_of_lt (l := lts) (i := q.toNat) (by rw [h.len]; omega)
      rw [h.getD ht'] at hpu
      exact h.own hk n q.toNat t' (by omega) ht' p hpu
def ownC (lts : List LTr) (k : Nat) (l : Lab) : Int := ((keys (ownO (lts.getD l.n.toNat default))).count k : Nat)
theorem objss_count (k : Nat) : ∀ l : List LTr, (((keys (objss l)).count k : Nat) : Int) = (l.map fun t => (((keys (objs t)).count k : Nat) : Int)).sum
  | [] => by simp [objss, keys]
  | t :: l => by
    have := objss_count k l
    simp only [keys] at this
    simp only [objss, keys, List.map_append, List.count_append, List.map_cons, List.sum_cons, ← this]
    push_cast; rfl
theorem LinkL.count (h : LinkL e lts B) (hk : kidsIn e) (k : Nat) : ∀ (n i : Nat) (t : LTr), i < n → lts[i]? = some t → sumT (ownC lts k) (treeAt (ixE e) i) = ((keys (objs t)).count k : Nat)
  | 0, i, t, hi, _ => by omega
  | n + 1, i, t, hi, ht => by
    have hil : i < e.length := by rw [← h.len]; exact (List.getElem?_eq_some_iff.1 ht).1
    obtain ⟨x, hx⟩ := get_of_lt hil
    obtain ⟨id, nb, a, h1, _⟩ := h.at_ i x hx
    rw [ht] at h1
    have hki : kidsIn (ixE e) := fun j y hy => by
      rw [ixE_get] at hy
      cases he : e[j]? with
      | none => rw [he] at hy; cases hy
      | some z =>
        rw [he] at hy
        simp at hy; subst hy
        exact hk j z he
    have hxi : (ixE e)[i]? = some { x with n := (i : Nat) } := by rw [ixE_get, hx]; rfl
    rw [treeAt_node hki hxi]
    simp only [sumT, sumTs_eq, List.map_map]
    rw [objs_count]
    have e1 : ownC lts k ⟨x.op, (i : Nat), x.binds, x.kids.map (Tr.op ∘ fun k => treeAt (ixE e) k.toNat), x.alts⟩ = ((keys (ownO t)).count k : Nat) := by
      unfold ownC
      simp only [Int.toNat_natCast, h.getD ht]
    have e2 : (x.kids.map (sumT (ownC lts k) ∘ fun k => treeAt (ixE e) k.toNat)).sum = ((keys (objss t.kids)).count k : Nat) := by
      rw [objss_count]
      cases h1
      simp only [LTr.kids, List.map_map]
      congr 1
      refine List.map_congr_left fun q hq => ?_
      have hq' := hk i x hx q hq
      obtain ⟨t', ht'⟩ := get_of_lt (l := lts) (i := q.toNat) (by rw [h.len]; omega)
      simp only [Function.comp, h.getD ht']
      exact h.count hk k n q.toNat t' (by omega) ht'
    rw [e1, e2]
    push_cast; rfl
theorem flat_count (k : Nat) : ∀ lts : List LTr, (((keys (lts.flatMap ownO)).count k : Nat) : Int) = (lts.map fun t => (((keys (ownO t)).count k : Nat) : Int)).sum
  | [] => by simp [keys]
  | t :: l => by
    have := flat_count k l
    simp only [keys] at this
    simp only [List.flatMap_cons, keys, List.map_append, List.count_append, List.map_cons, List.sum_cons, ← this]
    push_cast; rfl
theorem LinkL.nodup (h : LinkL e lts B) (ht : IsTree e) (hn : (keys (lts.flatMap ownO)).Nodup) {t : LTr} (hr : lts[e.length - 1]? = some t) : (keys (objs t)).Nodup := by
  rw [List.nodup_iff_count]
  intro k
  have h1 := h.count ht.k k _ _ t (Nat.lt_succ_self _) hr
  have h2 := sum_tree (ownC lts k) (ixE_tree ht)
  have h3 : grow (ixE e) = treeAt (ixE e) (e.length - 1) := by unfold grow treeAt; rw [ixE_len]
  rw [h3, h1] at h2
  have h4 : ((labs (ixE e)).map (ownC lts k)) = lts.map fun t => (((keys (ownO t)).count k : Nat) : Int) := by
    have e1 : (labs (ixE e)).map (ownC lts k) = ((labs (ixE e)).map (·.n)).map fun n : Int => (((keys (ownO (lts.getD n.toNat default))).count k : Nat) : Int) := by
      rw [List.map_map]; rfl
    rw [e1, labs_n, ixE_n, List.map_map]
    apply List.ext_getElem?
    intro i
    by_cases hi : i < e.length
    · obtain ⟨t', ht'⟩ := get_of_lt (l := lts) (i := i) (by rw [h.len]; exact hi)
      simp only [List.getElem?_map, List.getElem?_range hi, Option.map_some, Function.comp, Int.toNat_natCast, h.getD ht', ht']
    · rw [List.getElem?_eq_none (by simp; omega), List.getElem?_eq_none (by simp [h.len]; omega)]
  rw [h4, ← flat_count] at h2
  have h5 := List.nodup_iff_count.1 hn k
  omega
theorem LinkL.ok (h : LinkL e lts) (hk : kidsIn e) (hs : ∀ x ∈ e, x.binds.length ≤ 1048576 ∧ x.kids.length ≤ 1048576 ∧ x.alts.length ≤ 1048576 ∧ ∀ a ∈ x.alts, a.binds.length ≤ 1048576) : ∀ (n i : Nat) (t : LTr), i < n → lts[i]? = some t → okL t
  | 0, i, t, hi, _ => by omega
  | n + 1, i, t, hi, ht => by
    have hil : i < e.length := by rw [← h.len]; exact (List.getElem?_eq_some_iff.1 ht).1
    obtain ⟨x, hx⟩ := get_of_lt hil
    obtain ⟨id, nb, a, h1, h2, h3, h4⟩ := h.at_ i x hx
    obtain ⟨s1, s2, s3, s4⟩ := hs x (List.mem_of_getElem? hx)
    rw [ht] at h1
    cases h1
    refine ⟨fun _ => h3, s1, by simpa using s2, by have := congrArg List.length h2; simp at this; omega, fun y hy => ⟨h4 y hy, ?_⟩, okLs_iff.2 fun u hu => ?_⟩
    · exact s4 y.er (by rw [← h2]; exact List.mem_map_of_mem hy)
    · obtain ⟨q, hq, rfl⟩ := List.mem_map.1 hu
      have hq' := hk i x hx q hq
      obtain ⟨t', ht'⟩ := get_of_lt (l := lts) (i := q.toNat) (by rw [h.len]; omega)
      rw [h.getD ht']
      exact h.ok hk hs n q.toNat t' (by omega) ht'
end
end Go.Proofs.YtgdionbeeodaaaaDoor
namespace Go.Proofs.YtgdionbeeodaaaaDoor
open Go Go.Abs Go.CoreX
set_option maxRecDepth 10000
variable {Γ : List (Nat × List AC)}
def nodesL (ts : List LTr) (n : Nat) : List AC := ts.map (fun t => .ptr (.o t.id) 0) ++ List.replicate (n - ts.length) (.lit (.pointer none))
theorem nodesL_nil (n : Nat) : nodesL [] n = List.replicate n (.lit (.pointer none)) := by simp [nodesL]
theorem nodesL_len {ts : List LTr} {n : Nat} (h : ts.length ≤ n) : (nodesL ts n).length = n := by simp [nodesL]; omega
theorem nodesL_get {ts : List LTr} {n k : Nat} {t : LTr} (h : ts[k]? = some t) : (nodesL ts n)[k]? = some (.ptr (.o t.id) 0) := by
  have hk := (List.getElem?_eq_some_iff.1 h).1
  unfold nodesL
  rw [List.getElem?_append_left (by simpa using hk)]
  simp [h]
theorem nodesL_set {ts : List LTr} {n : Nat} (h : ts.length < n) (t : LTr) : (nodesL ts n).set ts.length (.ptr (.o t.id) 0) = nodesL (ts ++ [t]) n := by
  unfold nodesL
  rw [List.set_append_right _ _ (by simp)]
  simp only [List.length_map, Nat.sub_self, List.map_append, List.map_cons, List.map_nil, List.append_assoc, List.length_append, List.length_singleton]
  congr 1
  rw [show n - ts.length = (n - (ts.length + 1)) + 1 by omega, List.replicate_succ]
  rfl
theorem ids_nodesL (p : Abs.Id → Prop) (hp : ∀ k, p (.o k)) (ts : List LTr) (n : Nat) : idsL p (nodesL ts n) := by
  refine idsL_app ?_ (ids_zs p _ _)
  induction ts with
  | nil => trivial
  | cons t ts ih => exact ⟨hp _, ih⟩
@[simp] theorem ids_nodesL_l (k : Nat) (ts : List LTr) (n : Nat) : idsL (inL k) (nodesL ts n) := ids_nodesL _ (fun _ => trivial) ts n
@[simp] theorem ids_nodesL_o (ts : List LTr) (n : Nat) : idsL isO (nodesL ts n) := ids_nodesL _ (fun _ => trivial) ts n
theorem kC_snoc (l : List LTr) (t : LTr) : kC (l ++ [t]) = kC l ++ [[.ptr (.o t.id) 0]] := by simp [kC]
def kidsL (ts : List LTr) (ks : List Int) : List LTr := ks.map fun k => ts.getD k.toNat default
theorem kidsL_succ {ts : List LTr} {ks : List Int} {i : Nat} {k : Int} (h : ks[i]? = some k) : kidsL ts (ks.take (i + 1)) = kidsL ts (ks.take i) ++ [ts.getD k.toNat default] := by
  simp [kidsL, List.take_add_one, h]
@[simp] theorem ids_kC_l (k : Nat) (ts : List LTr) : idsS (inL k) (kC ts) := ids_kC _ (fun _ => trivial) ts
@[simp] theorem ids_kC_o (ts : List LTr) : idsS isO (kC ts) := ids_kC _ (fun _ => trivial) ts
@[simp] theorem ids_lAlts_l (k : Nat) (l : List LAlt) : idsS (inL k) (l.map lAlt) := ids_lAlts _ (fun _ => trivial) l
@[simp] theorem ids_lAlts_o (l : List LAlt) : idsS isO (l.map lAlt) := ids_lAlts _ (fun _ => trivial) l
@[simp] theorem ids_bC_l (k : Nat) (nb : Nb) (l : List Int) : (bC nb l).ids (inL k) := ids_bC _ (fun _ => trivial) nb l
@[simp] theorem ids_bC_o (nb : Nb) (l : List Int) : (bC nb l).ids isO := ids_bC _ (fun _ => trivial) nb l
@[simp] theorem ren_kC (ρ : Nat → Nat) (l : List LTr) : renS ρ (kC l) = kC l := renS_pure ρ _ (ids_kC_o l)
@[simp] theorem ren_lAlts (ρ : Nat → Nat) (l : List LAlt) : renS ρ (l.map lAlt) = l.map lAlt := renS_pure ρ _ (ids_lAlts_o l)
@[simp] theorem ren_bC (ρ : Nat → Nat) (nb : Nb) (l : List Int) : (bC nb l).ren ρ = bC nb l := by cases nb <;> simp [bC, AC.ren, Abs.Id.ren]
theorem NewO.add {ou : Outer} {k : Nat} {o : AObj} (hk : ∀ m, k ≤ m → ou m = none) (hou : OuOk ou) (ho : o.ids isO) : NewO ou (ouAdd ou k [o]) [(k, o)] := by
  refine ⟨fun p hp => ?_, fun j hj => ?_, fun m hm => ?_, ouAdd_ok hou fun q hq => by simp at hq; subst hq; exact ho, by simp [keys]⟩
  · simp at hp; subst hp
    exact ouAdd_new 0
  · simp [keys] at hj; subst hj; exact hk _ (Nat.le_refl _)
  · simp [keys] at hm
    rcases Nat.lt_or_ge m k with h1 | h1
    · exact ouAdd_old h1
    · obtain ⟨p, rfl⟩ : ∃ p, m = k + p := ⟨m - k, by omega⟩
      rw [ouAdd_new, hk _ h1]
      cases p with
      | zero => simp at hm
      | succ p => simp
def GrowQ (e : List Ex) (ou : Outer) (r : FV) (ou' : Outer) : Prop := ∃ t : LTr, r = .one (.ptr (.o t.id) 0) ∧ erT t = grow e ∧ okL t ∧ Owns ou' (objs t) ∧ (keys (objs t)).Nodup ∧ (∀ k ∈ keys (objs t), ou k = none) ∧ OuOk ou' ∧ ∀ j o, ou j = some o → ou' j = some o
set_option maxHeartbeats 1000000 in
theorem GrowN_ok (hΓ : ∀ g cs, (g, cs) ∈ Γ → idsL isO cs) (e : List Ex) (he : okE e) (hin : kidsIn e) (hT : IsTree e) (ou : Outer) : AFn Tryd.prog Γ 53 [.one (.sl 5 (e.map cEx))] ou (GrowQ e ou) := by
  have hel := he.l
  refine AFn.walk 85 tabOk Tryd.func53 rfl (by kernel_rfl) rfl rfl fun hou => ?_
  refine zA ?_
  have hb : ti70.bytes * (e.map cEx).length ≤ 281474976710656 := by simp; show 8 * _ ≤ _; omega
  have hb2 : (e.map cEx).length ≤ 281474976710656 := by simp; omega
  refine AOps.step1 rfl rfl rfl (AStep.makeArr tabOk rfl rfl rfl rfl rfl rfl rfl rfl hb hb2) ?_
  refine zA ?_
  refine ACode.loopR hΓ (α := Nat × List LTr × Outer) (fun c => [(16, .one (int c.1)), (15, .one (int (e.map cEx).length)), (14, .one (.sl 5 (e.map cEx))), (3, .one (.arr (.l 0) 1 0 (e.map cEx).length (e.map cEx).length)), (0, .one (.sl 5 (e.map cEx)))])
    (fun c => ⟨1, [(0, .cells (nodesL c.2.1 (e.map cEx).length))], c.2.2⟩) (fun m c => c.1 ≤ e.length ∧ (LinkL (e.take c.1) c.2.1 ∧ NewO ou c.2.2 (c.2.1.flatMap ownO)) ∧ m = e.length - c.1) (a0 := (0, [], ou)) (ρ := id) ⟨by omega, ⟨LinkL.nil, .nil hou⟩, rfl⟩
    (LessR.of rfl (by (repeat' first | exact FrSub.nil | refine zfc ?_ | refine zfo ?_ | refine zfp ?_)) (by simp) (LoSub.cons rfl (by rw [AObj.ren_pure _ _ (by simp)]; show AObj.cells (List.replicate _ _) = AObj.cells (nodesL [] _); rw [nodesL_nil]) rfl (by simp) .nil) rfl rfl hou) fun m c hc => ?_
  obtain ⟨j, lts, ov⟩ := c
  obtain ⟨hjl, ⟨hL, hN⟩, rfl⟩ := hc
  dsimp only at hjl hL hN
  have hov := hN.ok
  refine zA ?_
  refine ACode.cond rfl (fun hb2 => ?_) (fun hb2 => ?_)
  · have hlt : j < e.length := by simpa using hb2
    obtain ⟨x, hx⟩ := get_of_lt hlt
    have hxo := he.x x (List.mem_of_getElem? hx)
    have hxk := hxo.k
    have hxa := hxo.a
    have hxin := hin j x hx
    have hgl : lts.length = j := by rw [hL.len]; simp; omega
    refine zA ?_
    refine AOps.step1 rfl rfl rfl (AStep.indexAddr tabOk rfl rfl rfl rfl rfl rfl (.inl rfl) rfl (by omega) (map_get hx)) ?_
    refine zA ?_
    refine ACode.drawC tabOk 9 [6, 7, 8] [] (fun vs σ => match vs with
        | [] => σ = ⟨2, [(1, .cells (cEx x)), (1, .cells (ti53.zero.map .lit)), (0, .cells (nodesL lts (e.map cEx).length))], ov⟩
        | [a] => ∃ nb ow, ownB nb x.binds ∧ NewO ov ow (bO nb x.binds) ∧ a = .one (bC nb x.binds) ∧ σ = ⟨2, [(1, .cells (cEx x)), (1, .cells (ti53.zero.map .lit)), (0, .cells (nodesL lts (e.map cEx).length))], ow⟩
        | [a, b] => ∃ nb ow, ownB nb x.binds ∧ NewO ov ow (bO nb x.binds) ∧ a = .one (bC nb x.binds) ∧ b = .agg [int x.op, int x.n, bC nb x.binds, .lit (.slice none 0 0), .lit (.slice none 0 0)] ∧ σ = ⟨2, [(1, .cells (cEx x)), (1, .cells (ti53.zero.map .lit)), (0, .cells (nodesL lts (e.map cEx).length))], ow⟩
        | [a, b, c] => ∃ nb ow, ownB nb x.binds ∧ NewO ov ow (bO nb x.binds) ∧ a = .one (bC nb x.binds) ∧ b = .agg [int x.op, int x.n, bC nb x.binds, .lit (.slice none 0 0), .lit (.slice none 0 0)] ∧ c = .one (.ptr (.l 2) 0) ∧ σ = ⟨3, [(2, .cells [int x.op, int x.n, bC nb x.binds, .lit (.slice none 0 0), .lit (.slice none 0 0)]), (1, .cells (cEx x)), (1, .cells (ti53.zero.map .lit)), (0, .cells (nodesL lts (e.map cEx).length))], ow⟩
        | _ => False) follows (by kernel_rfl) rfl rfl (by decide) (by kernel_rfl) (by kernel_rfl) rfl rfl ?_ (fun _ _ _ => .nil) (by decide) ?_ ?_
    · rintro vs σ hG
      match vs, hG with
      | [], hG => subst hG; rfl
      | [a], hG => obtain ⟨nb, ow, _, _, _, rfl⟩ := hG; rfl
      | [a, b], hG => obtain ⟨nb, ow, _, _, _, _, rfl⟩ := hG; rfl
      | [a, b, c], hG => obtain ⟨nb, ow, _, _, _, _, _, rfl⟩ := hG; rfl
    · rintro vs σ hG i o hi ho
      match vs, hG with
      | [], hG =>
        subst hG
        cases hi
        cases ho
        refine ⟨rfl, rfl, .inr ⟨rfl, AStepR.call hΓ rfl rfl rfl rfl (by simp) hov (CloneN_ok x.binds hxo.b ov) fun r ow hq _ _ => ?_⟩⟩
        obtain ⟨nb, h1, rfl, h2⟩ := hq
        exact ⟨nb, ow, h1, h2, rfl, rfl⟩
      | [a], hG =>
        obtain ⟨nb, ow, h1, h2, rfl, rfl⟩ := hG
        cases hi
        cases ho
        exact ⟨rfl, rfl, .inl ⟨_, _, HStep.auto tabOk rfl, nb, ow, h1, h2, rfl, rfl, rfl⟩⟩
      | [a, b], hG =>
        obtain ⟨nb, ow, h1, h2, rfl, rfl, rfl⟩ := hG
        cases hi
        cases ho
        exact ⟨rfl, rfl, .inl ⟨_, _, HStep.auto tabOk rfl, nb, ow, h1, h2, rfl, rfl, rfl, rfl⟩⟩
      | [a, b, c], hG => cases hi
    rintro vs σ hlen hG
    match vs, hlen, hG with
    | [a, b, c], _, hG =>
    obtain ⟨nb, ow, hnb, hNb, rfl, rfl, rfl, rfl⟩ := hG
    have how := hNb.ok
    refine zA ?_
    refine ACode.grow 2 3 70 1 rfl rfl ?_
    refine ACode.loopR hΓ (α := Nat) (fun i => [(33, .one (int i)), (32, .one (int (x.kids.map cI).length)), (31, .one (.sl 1 (x.kids.map cI))), (6, .one (.ptr (.l 2) 0)), (5, .one (.ptr (.l 1) 0)), (4, .one (int j)), (16, .one (int j)), (15, .one (int (e.map cEx).length)), (14, .one (.sl 5 (e.map cEx))), (3, .one (.arr (.l 0) 1 0 (e.map cEx).length (e.map cEx).length)), (0, .one (.sl 5 (e.map cEx)))])
      (fun i => ⟨4, [(3, .tok 70 1 i), (2, .cells [int x.op, int x.n, bC nb x.binds, .gs 1 (kC (kidsL lts (x.kids.take i))) (.l 3), .lit (.slice none 0 0)]), (1, .cells (cEx x)), (0, .cells (nodesL lts (e.map cEx).length))], ow⟩)
      (fun m i => i ≤ x.kids.length ∧ m = x.kids.length - i) (a0 := 0) (ρ := id) ⟨by omega, rfl⟩ (LessR.of rfl (by (repeat' first | exact FrSub.nil | refine zfc ?_ | refine zfo ?_ | refine zfp ?_)) (by simp) ?_ rfl rfl how) fun m i hi => ?_
    · repeat' first | exact LoSub.nil | refine zlc ?_ | refine zld ?_ ?_ | rfl
      all_goals (simp [AObj.ren, renL, AC.ren, kidsL]; exact ⟨rfl, rfl⟩)
    obtain ⟨hil, rfl⟩ := hi
    refine zA ?_
    refine ACode.cond rfl (fun hb3 => ?_) (fun hb3 => ?_)
    · have hlt2 : i < x.kids.length := by simpa using hb3
      obtain ⟨k, hk⟩ := get_of_lt hlt2
      have hkb := hxin k (List.mem_of_getElem? hk)
      obtain ⟨k', rfl⟩ : ∃ k' : Nat, k = k' := ⟨k.toNat, by omega⟩
      obtain ⟨tk, htk⟩ := get_of_lt (l := lts) (i := k') (by omega)
      have htd : (lts).getD (k' : Int).toNat default = tk := by rw [Int.toNat_natCast, List.getD_eq_getElem?_getD, htk]; rfl
      have hks := kidsL_succ (ts := lts) hk
      rw [htd] at hks
      have hkl : (kC (kidsL lts (x.kids.take i))).length = i := by simp [kC, kidsL]; omega
      refine zA ?_
      refine AOps.step1 rfl rfl rfl (AStep.indexAddr tabOk rfl rfl rfl rfl rfl rfl (.inl rfl) rfl (by omega) (map_get hk)) ?_
      refine zA ?_
      refine ACode.drawXH (va := .one (.gs 1 (kC (kidsL lts (x.kids.take i)) ++ [[AC.ptr (.o tk.id) 0]]) (.l 4))) (σ1 := ((St.mk 4 [(3, .tok 70 1 i), (2, .cells [int x.op, int x.n, bC nb x.binds, .gs 1 (kC (kidsL lts (x.kids.take i))) (.l 3), .lit (.slice none 0 0)]), (1, .cells (cEx x)), (0, .cells (nodesL lts (e.map cEx).length))] ow).set (.l 3) .dead).push (.tok 70 1 (kC (kidsL lts (x.kids.take i)) ++ [[AC.ptr (.o tk.id) 0]]).length))
        tabOk 11 10 [(7, .one (.ptr (.l 0) k')), (8, .one (.ptr (.o tk.id) 0))] follows (by kernel_rfl) rfl rfl rfl rfl rfl rfl rfl ?_ ?_ ?_ ?_
      · refine HStep.plain rfl (AStep.append (s := 1) (es := kC (kidsL lts (x.kids.take i))) (news := [[AC.ptr (.o tk.id) 0]]) (ti := ti71) (σ := ⟨4, [(3, .tok 70 1 i), (2, .cells [int x.op, int x.n, bC nb x.binds, .gs 1 (kC (kidsL lts (x.kids.take i))) (.l 3), .lit (.slice none 0 0)]), (1, .cells (cEx x)), (0, .cells (nodesL lts (e.map cEx).length))], ow⟩) tabOk rfl rfl rfl rfl rfl rfl (Base.gs' _ 70 1 (kC (kidsL lts (x.kids.take i))) (.l 3) rfl hkl.symm) (.sl _ _) rfl ?_ ?_)
        · rw [hkl]; show (i + 1) * 8 ≤ _; omega
        · rw [hkl]; show i + 1 ≤ _; omega
      · refine .step rfl (HStep.plain rfl (idxI tabOk rfl rfl rfl rfl rfl rfl rfl (by simp; omega))) ?_
        exact .step rfl (HStep.plain rfl (AStep.loadOwn tabOk rfl rfl rfl rfl rfl rfl (nodesL_get htk))) .nil
      · refine .step rfl (HStep.plain rfl (idxI tabOk rfl rfl rfl rfl rfl rfl rfl (by simp; omega))) ?_
        exact .step rfl (HStep.plain rfl (AStep.loadOwn tabOk rfl rfl rfl rfl rfl rfl (nodesL_get htk))) .nil
      refine zM ?_
      refine cInv ⟨x.kids.length - (i + 1), i + 1, fun k => if k = 3 then 4 else k, by omega, ⟨by omega, rfl⟩, LessR.of rfl (by (repeat' first | exact FrSub.nil | refine zfc ?_ | refine zfo ?_ | refine zfp ?_)) (by simp) ?_ rfl rfl how⟩
      repeat' first | exact LoSub.nil | refine zlc ?_ | refine zld ?_ ?_ | rfl
      · simp only [AObj.ren, List.length_append, hkl]; rfl
      · rw [hks, kC_snoc]; simp only [AObj.ren, renL, AC.ren, ren_bC]; rw [← kC_snoc, ren_kC]; rfl
    have hlt2 : i = x.kids.length := by simp at hb3; omega
    subst hlt2
    rw [List.take_length]
    refine zA ?_
    refine ACode.grow 2 4 89 2 rfl rfl ?_
    refine ACode.loopR hΓ (α := Nat × Outer × List LAlt) (fun c => [(54, .one (int c.1)), (53, .one (int (x.alts.map cAlt).length)), (52, .one (.sl 2 (x.alts.map cAlt))), (6, .one (.ptr (.l 2) 0)), (4, .one (int j)), (16, .one (int j)), (15, .one (int (e.map cEx).length)), (14, .one (.sl 5 (e.map cEx))), (3, .one (.arr (.l 0) 1 0 (e.map cEx).length (e.map cEx).length)), (0, .one (.sl 5 (e.map cEx)))])
      (fun c => ⟨5, [(4, .tok 89 2 c.1), (2, .cells [int x.op, int x.n, bC nb x.binds, .gs 1 (kC (kidsL lts x.kids)) (.l 3), .gs 2 (c.2.2.map lAlt) (.l 4)]), (0, .cells (nodesL lts (e.map cEx).length))], c.2.1⟩)
      (fun m c => c.1 ≤ x.alts.length ∧ (c.2.2.map LAlt.er = x.alts.take c.1 ∧ (∀ y ∈ c.2.2, ownB y.nb y.binds) ∧ NewO ow c.2.1 (aO c.2.2)) ∧ m = x.alts.length - c.1) (a0 := (0, ow, [])) (ρ := id) ⟨by omega, ⟨rfl, by simp, .nil how⟩, rfl⟩ (LessR.of rfl (by (repeat' first | exact FrSub.nil | refine zfc ?_ | refine zfo ?_ | refine zfp ?_)) (by simp) ?_ rfl rfl how) fun m c hc => ?_
    · repeat' first | exact LoSub.nil | refine zlc ?_ | refine zld ?_ ?_ | rfl
      all_goals (simp [AObj.ren, renL, AC.ren]; exact ⟨rfl, rfl⟩)
    obtain ⟨i, oy, la⟩ := c
    obtain ⟨hil, ⟨hla, hlo, hNa⟩, rfl⟩ := hc
    dsimp only at hil hla hlo hNa
    have hoy := hNa.ok
    have hll : la.length = i := by have := congrArg List.length hla; simp at this; omega
    have hal : (la.map lAlt).length = i := by simp [hll]
    refine zA ?_
    refine ACode.cond rfl (fun hb3 => ?_) (fun hb3 => ?_)
    · have hlt2 : i < x.alts.length := by simpa using hb3
      obtain ⟨a, ha⟩ := get_of_lt hlt2
      refine zA ?_
      refine AOps.step1 rfl rfl rfl (AStep.indexAddr tabOk rfl rfl rfl rfl rfl rfl (.inl rfl) rfl (by omega) (map_get ha)) ?_
      refine zA ?_
      refine ACode.drawC tabOk 13 [9, 10, 11, 12] [] (fun vs σ => match vs with
          | [] => σ = ⟨6, [(5, .cells (cAlt a)), (5, .cells (ti89.zero.map .lit)), (4, .tok 89 2 i), (2, .cells [int x.op, int x.n, bC nb x.binds, .gs 1 (kC (kidsL lts x.kids)) (.l 3), .gs 2 (la.map lAlt) (.l 4)]), (0, .cells (nodesL lts (e.map cEx).length))], oy⟩
          | [q1] => ∃ nc oz, ownB nc a.binds ∧ NewO oy oz (bO nc a.binds) ∧ q1 = .one (bC nc a.binds) ∧ σ = ⟨6, [(5, .cells (cAlt a)), (5, .cells (ti89.zero.map .lit)), (4, .tok 89 2 i), (2, .cells [int x.op, int x.n, bC nb x.binds, .gs 1 (kC (kidsL lts x.kids)) (.l 3), .gs 2 (la.map lAlt) (.l 4)]), (0, .cells (nodesL lts (e.map cEx).length))], oz⟩
          | [q1, q2] => ∃ nc oz, ownB nc a.binds ∧ NewO oy oz (bO nc a.binds) ∧ q1 = .one (bC nc a.binds) ∧ q2 = .agg [int a.tag, bC nc a.binds] ∧ σ = ⟨6, [(5, .cells (cAlt a)), (5, .cells (ti89.zero.map .lit)), (4, .tok 89 2 i), (2, .cells [int x.op, int x.n, bC nb x.binds, .gs 1 (kC (kidsL lts x.kids)) (.l 3), .gs 2 (la.map lAlt) (.l 4)]), (0, .cells (nodesL lts (e.map cEx).length))], oz⟩
          | [q1, q2, q3] => ∃ nc oz, ownB nc a.binds ∧ NewO oy oz (bO nc a.binds) ∧ q1 = .one (bC nc a.binds) ∧ q2 = .agg [int a.tag, bC nc a.binds] ∧ q3 = .one (.sl 2 [[int a.tag, bC nc a.binds]]) ∧ σ = ⟨6, [(5, .cells (cAlt a)), (5, .cells (ti89.zero.map .lit)), (4, .tok 89 2 i), (2, .cells [int x.op, int x.n, bC nb x.binds, .gs 1 (kC (kidsL lts x.kids)) (.l 3), .gs 2 (la.map lAlt) (.l 4)]), (0, .cells (nodesL lts (e.map cEx).length))], oz⟩
          | [q1, q2, q3, q4] => ∃ nc oz, ownB nc a.binds ∧ NewO oy oz (bO nc a.binds) ∧ q1 = .one (bC nc a.binds) ∧ q2 = .agg [int a.tag, bC nc a.binds] ∧ q3 = .one (.sl 2 [[int a.tag, bC nc a.binds]]) ∧ q4 = .one (.gs 2 (la.map lAlt ++ [[int a.tag, bC nc a.binds]]) (.l 6)) ∧ σ = ⟨7, [(6, .tok 89 2 (la.map lAlt ++ [[int a.tag, bC nc a.binds]]).length), (4, .dead), (5, .cells (cAlt a)), (5, .cells (ti89.zero.map .lit)), (4, .tok 89 2 i), (2, .cells [int x.op, int x.n, bC nb x.binds, .gs 1 (kC (kidsL lts x.kids)) (.l 3), .gs 2 (la.map lAlt) (.l 4)]), (0, .cells (nodesL lts (e.map cEx).length))], oz⟩
          | _ => False) follows (by kernel_rfl) rfl rfl (by decide) (by kernel_rfl) (by kernel_rfl) rfl rfl ?_ (fun _ _ _ => .nil) (by decide) ?_ ?_
      · rintro vs σ hG
        match vs, hG with
        | [], hG => subst hG; rfl
        | [_], hG => obtain ⟨nc, oz, _, _, _, rfl⟩ := hG; rfl
        | [_, _], hG => obtain ⟨nc, oz, _, _, _, _, rfl⟩ := hG; rfl
        | [_, _, _], hG => obtain ⟨nc, oz, _, _, _, _, _, rfl⟩ := hG; rfl
        | [_, _, _, _], hG => obtain ⟨nc, oz, _, _, _, _, _, _, rfl⟩ := hG; rfl
      · rintro vs σ hG q o hi ho
        match vs, hG with
        | [], hG =>
          subst hG
          cases hi
          cases ho
          refine ⟨rfl, rfl, .inr ⟨rfl, AStepR.call hΓ rfl rfl rfl rfl (by simp) hoy (CloneN_ok a.binds (hxo.ab a (List.mem_of_getElem? ha)) oy) fun r oz hq _ _ => ?_⟩⟩
          obtain ⟨nc, h1, rfl, h2⟩ := hq
          exact ⟨nc, oz, h1, h2, rfl, rfl⟩
        | [_], hG =>
          obtain ⟨nc, oz, h1, h2, rfl, rfl⟩ := hG
          cases hi
          cases ho
          exact ⟨rfl, rfl, .inl ⟨_, _, HStep.auto tabOk rfl, nc, oz, h1, h2, rfl, rfl, rfl⟩⟩
        | [_, _], hG =>
          obtain ⟨nc, oz, h1, h2, rfl, rfl, rfl⟩ := hG
          cases hi
          cases ho
          exact ⟨rfl, rfl, .inl ⟨_, _, HStep.auto tabOk rfl, nc, oz, h1, h2, rfl, rfl, rfl, rfl⟩⟩
        | [_, _, _], hG =>
          obtain ⟨nc, oz, h1, h2, rfl, rfl, rfl, rfl⟩ := hG
          cases hi
          cases ho
          refine ⟨rfl, rfl, .inl ⟨_, _, HStep.plain rfl (AStep.append (s := 2) (es := la.map lAlt) (news := [[int a.tag, bC nc a.binds]]) (ti := ti51) tabOk rfl rfl rfl rfl rfl rfl (Base.gs' _ 89 2 (la.map lAlt) (.l 4) rfl hal.symm) (.sl _ _) rfl ?_ ?_), nc, oz, h1, h2, rfl, rfl, rfl, rfl, rfl⟩⟩
          · rw [hal]; show (i + 1) * 32 ≤ _; omega
          · rw [hal]; show i + 1 ≤ _; omega
        | [_, _, _, _], hG => cases hi
      rintro vs σ hlen hG
      match vs, hlen, hG with
      | [_, _, _, _], _, hG =>
      obtain ⟨nc, oz, hnc, hNc, rfl, rfl, rfl, rfl, rfl⟩ := hG
      refine zM ?_
      obtain ⟨la', hla'⟩ : ∃ la', la' = la ++ [⟨a.tag, nc, a.binds⟩] := ⟨_, rfl⟩
      have hlm : la.map lAlt ++ [[int a.tag, bC nc a.binds]] = la'.map lAlt := by rw [hla', List.map_append]; rfl
      refine cInv ⟨x.alts.length - (i + 1), (i + 1, oz, la'), fun k => if k = 4 then 6 else k, by omega, ⟨by omega, ⟨by rw [hla', List.map_append, hla, take_get ha]; rfl, ?_, ?_⟩, rfl⟩, LessR.of rfl (by (repeat' first | exact FrSub.nil | refine zfc ?_ | refine zfo ?_ | refine zfp ?_)) (by simp) ?_ rfl rfl hNc.ok⟩
      · intro y hy
        rw [hla'] at hy
        rcases List.mem_append.1 hy with hy | hy
        · exact hlo y hy
        · simp at hy; subst hy; exact hnc
      · dsimp only
        rw [hla', aO_app, show aO [⟨a.tag, nc, a.binds⟩] = bO nc a.binds by simp [aO]]
        exact hNa.trans hNc
      · repeat' first | exact LoSub.nil | refine zlc ?_ | refine zld ?_ ?_ | rfl
        · simp only [AObj.ren, List.length_append, hal]; rfl
        · simp only [hlm, AObj.ren, renL, AC.ren, ren_bC, ren_kC, ren_lAlts]; rfl
    have hlt2 : i = x.alts.length := by simp at hb3; omega
    subst hlt2
    rw [List.take_length] at hla
    refine zA ?_
    refine AOps.step1 rfl rfl rfl (idxI tabOk rfl rfl rfl rfl rfl rfl rfl (by simp; omega)) ?_
    refine AOps.wkObj (.l 2) rfl (cs' := [int x.op, int x.n, bC nb x.binds, .sl 1 (kC (kidsL lts x.kids)), .sl 2 (la.map lAlt)]) (fun w C xs h => ?_) ?_
    · exact (show WkL _ _ from .cons (.refl _) (.cons (.refl _) (.cons (.refl _) (.cons (.gsE rfl) (.cons (.gsE rfl) .nil))))) w C xs h
    have hθ : ∀ (k : Nat) (i : Abs.Id), isO i → toOs [2] k i = i := fun k i hi => by cases i with | l q => exact hi.elim | o q => rfl
    refine AOps.cedes [2] rfl (by decide) hoy fun k hk => ⟨[(77, .one (.ptr (.l 0) j)), (76, .one (.ptr (.o k) 0)), (16, .one (int j)), (15, .one (int (e.map cEx).length)), (14, .one (.sl 5 (e.map cEx))), (3, .one (.arr (.l 0) 1 0 (e.map cEx).length (e.map cEx).length)), (0, .one (.sl 5 (e.map cEx)))],
      [(0, .cells (nodesL lts (e.map cEx).length))], [.cells [int x.op, int x.n, bC nb x.binds, .sl 1 (kC (kidsL lts x.kids)), .sl 2 (la.map lAlt)]], ?_, ?_, ?_, ?_⟩
    · exact .cons rfl rfl (.cons rfl rfl (.cons rfl rfl (.cons rfl rfl (.cons rfl (FV.sub_f (hθ k) _ (by simp)) (.cons rfl rfl (.cons rfl (FV.sub_f (hθ k) _ (by simp)) .nil))))))
    · exact .cons rfl rfl (AObj.sub_f (hθ k) _ (ids_nodesL_o _ _)) .nil
    · exact .cons rfl (AObj.sub_f (hθ k) _ (ids_node _ _ _ _ _ _)) .nil
    have hN1 := NewO.add hk hoy (ids_node x.op x.n nb x.binds (kidsL lts x.kids) la)
    have hN2 := ((hN.trans hNb).trans hNa).trans hN1
    obtain ⟨t, ht⟩ : ∃ t : LTr, t = .mk k x.op x.n nb x.binds (kidsL lts x.kids) la := ⟨_, rfl⟩
    have hto : lts.flatMap ownO ++ bO nb x.binds ++ aO la ++ [(k, .cells [int x.op, int x.n, bC nb x.binds, .sl 1 (kC (kidsL lts x.kids)), .sl 2 (la.map lAlt)])] = (lts ++ [t]).flatMap ownO := by
      rw [List.flatMap_append, ht]
      simp [ownO, List.append_assoc]
    rw [hto] at hN2
    have hL2 := hL.snoc (kidsIn_pre (by rw [List.take_append_drop]; exact hin)) (x := x) (fun q hq => by have := hxin q hq; simp; omega) (id := k) hla hnb hlo
    rw [← take_get hx, show LTr.mk k x.op x.n nb x.binds (x.kids.map fun q => lts.getD q.toNat default) la = t by rw [ht]; rfl] at hL2
    refine AOps.storeOwn tabOk rfl rfl rfl rfl rfl rfl rfl rfl (by rw [nodesL_len (by simp [hgl]; omega)]; simp; omega) ?_
    have hst := nodesL_set (ts := lts) (n := (e.map cEx).length) (by simp [hgl]; omega) t
    rw [hgl, show t.id = k by rw [ht]; rfl] at hst
    rw [hst]
    refine zM ?_
    exact cInv ⟨e.length - (j + 1), (j + 1, lts ++ [t], _), id, by omega, ⟨by omega, ⟨hL2, hN2⟩, rfl⟩, LessR.of rfl (by (repeat' first | exact FrSub.nil | refine zfc ?_ | refine zfo ?_ | refine zfp ?_)) (by simp) (by repeat' first | exact LoSub.nil | refine zlc ?_ | refine zld ?_ ?_ | rfl) rfl rfl hN2.ok⟩
  · have hlt : j = e.length := by simp at hb2; omega
    subst hlt
    rw [List.take_length] at hL
    obtain ⟨N, hNe⟩ : ∃ N, e.length = N + 1 := ⟨e.length - 1, by have := List.length_pos_iff.2 hT.ne; omega⟩
    obtain ⟨t, ht⟩ := get_of_lt (l := lts) (i := N) (by rw [hL.len]; omega)
    have hnt : e.length - 1 = N := by omega
    refine zM ?_
    refine AOps.wk 82 rfl (y := .one (int (N : Nat))) (.ofEq (by congr 3; simp; omega)) ?_
    refine AOps.step1 rfl rfl rfl (idxI tabOk rfl rfl rfl rfl rfl rfl rfl (by simp; omega)) ?_
    refine AOps.step1 rfl rfl rfl (AStep.loadOwn tabOk rfl rfl rfl rfl rfl rfl (nodesL_get ht)) ?_
    refine zA ?_
    have hown := hL.own hin _ N t (Nat.lt_succ_self _) ht
    refine AFn.fin' rfl (WkF.ofEq rfl) (by simp [AC.ids]) hov ⟨t, rfl, ?_, ?_, ?_, ?_, ?_, hov, ?_⟩
    · rw [hL.er hin _ N t (Nat.lt_succ_self _) ht]
      unfold grow treeAt; rw [hnt]
    · exact hL.ok hin (fun x hx => ⟨(he.x x hx).b, (he.x x hx).k, (he.x x hx).a, (he.x x hx).ab⟩) _ N t (Nat.lt_succ_self _) ht
    · exact fun p hp => hN.own p (hown p hp)
    · exact hL.nodup hT hN.nd (by rw [hnt]; exact ht)
    · intro k hk
      obtain ⟨p, hp, rfl⟩ := List.mem_map.1 hk
      exact hN.new p.1 (List.mem_map_of_mem (hown p hp))
    · intro m o hm
      show ov m = some o
      rw [hN.old m fun hmk => by have := hN.new m hmk; rw [hm] at this; cases this]
      exact hm
end Go.Proofs.YtgdionbeeodaaaaDoor
