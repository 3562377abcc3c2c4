/- The form of the nodes of a valid expression; what a rule makes of a node is not too large. No condition. -/
import Derived.Test.YtgdionbeeodaaaaDoorB9
set_option linter.unusedVariables false
set_option linter.unusedSimpArgs false
namespace Go.CoreX
def shpL (l : Lab) : Prop := shape ⟨l.op, l.n, l.binds, l.ops, l.alts⟩ = true
theorem check_shp {e : List Ex} (h : check e = 0) : allT shpL (grow e) := allT_grow (body_isTree h) fun x hx => by
  have := shape_of h x hx
  unfold shpL labE
  rw [shape_len (ky := x.kids) (by simp)]
  exact this
theorem allT_treeAt {e : List Ex} (h : IsTree e) {p : Lab → Prop} (ht : allT p (grow e)) {k : Nat} (hk : k < e.length) : allT p (treeAt e k) :=
  up_ind h (P := allT p) ht (fun t s h1 h2 => allT_kid h1 h2) k hk
theorem shp_node {t : Tr} (h : allT shpL t) : shape ⟨t.op, t.n, t.binds, t.kids.map Tr.op, t.alts⟩ = true := by
  cases t with
  | mk o n b k a => exact h.1
section
variable {o n : Int} {b : List Int} {k : List Tr} {a : List Alt} (h : allT shpL (.mk o n b k a))
include h
theorem shp_wants {w : Int × Int × Bool} (h7 : ¬ (o = 7 ∨ o = 13)) (hw : wants ⟨o, n, b, k.map Tr.op, a⟩ = some w) : (k.length : Int) = w.1 ∧ (b.length : Int) = w.2.1 ∧ a = [] := by
  have := shp_node h
  simp only [Tr.op_mk, Tr.n_mk, Tr.binds_mk, Tr.kids_mk, Tr.alts_mk] at this
  unfold shape at this
  rw [if_neg h7, hw] at this
  simp only [Bool.and_eq_true, beq_iff_eq, List.length_map, List.length_eq_zero_iff] at this
  exact ⟨this.1.1.1, this.1.1.2, this.1.2⟩
theorem shp_leaf (h0 : o = 0 ∨ o = 1) : k = [] ∧ b = [] ∧ a = [] := by
  obtain ⟨h1, h2, h3⟩ := shp_wants h (w := (0, 0, true)) (by omega) (by unfold wants; rw [if_pos (by simp only; omega)])
  refine ⟨List.length_eq_zero_iff.1 ?_, List.length_eq_zero_iff.1 ?_, h3⟩ <;> simp at h1 h2 <;> simp [h1, h2]
theorem shp_lam (h0 : o = 2) : k.length = 1 ∧ a = [] := by
  subst h0
  obtain ⟨h1, h2, h3⟩ := shp_wants h (w := (1, b.length, false)) (by omega) rfl
  exact ⟨by simp at h1; omega, h3⟩
theorem shp_app (h0 : o = 3) : k ≠ [] ∧ b = [] ∧ a = [] := by
  subst h0
  obtain ⟨h1, h2, h3⟩ := shp_wants h (by omega) rfl
  simp only [List.length_map] at h1 h2
  refine ⟨fun e => ?_, List.length_eq_zero_iff.1 (by omega), h3⟩
  subst e
  simp at h1
theorem shp_let (h0 : o = 4) : ∃ id v d, b = [id] ∧ k = [v, d] ∧ a = [] := by
  subst h0
  obtain ⟨h1, h2, h3⟩ := shp_wants h (w := (2, 1, false)) (by omega) rfl
  obtain ⟨id, hid⟩ := List.length_eq_one_iff.1 (show b.length = 1 by simp at h2; omega)
  have h2 : k.length = 2 := by simp at h1; omega
  match k, h2 with
  | [v, d], _ => exact ⟨id, v, d, hid, rfl, h3⟩
theorem shp_rec (h0 : o = 5) : k.length = b.length + 1 ∧ a = [] := by
  subst h0
  obtain ⟨h1, h2, h3⟩ := shp_wants h (w := (b.length + 1, if (b.length : Int) > 1 then b.length else 1, false)) (by omega) rfl
  exact ⟨by simp at h1; omega, h3⟩
theorem shp_case (h0 : o = 7) : k.length = a.length + 1 ∧ b = [] := by
  subst h0
  have := shp_node h
  simp only [Tr.op_mk, Tr.n_mk, Tr.binds_mk, Tr.kids_mk, Tr.alts_mk] at this
  have h1 := shape_alts this
  rw [if_pos (by simp)] at h1
  unfold shape at this
  rw [if_pos (by simp)] at this
  simp only [Bool.and_eq_true, beq_iff_eq, List.length_eq_zero_iff] at this
  exact ⟨by simpa using h1, this.1.2⟩
theorem shp_row (h0 : o = 9) : k.length = b.length := by
  subst h0
  obtain ⟨h1, h2, h3⟩ := shp_wants h (w := (b.length, b.length, false)) (by omega) rfl
  simp at h1; omega
theorem shp_get (h0 : o = 10) : k.length = 1 := by
  subst h0
  obtain ⟨h1, h2, h3⟩ := shp_wants h (w := (1, 0, true)) (by omega) rfl
  simp at h1; omega
end
theorem cnt_kid {t s : Tr} (h : s ∈ t.kids) : cntN s + 1 ≤ cntN t := by
  cases t with
  | mk o n b k a =>
    simp only [Tr.kids_mk] at h
    simp only [cntN]
    induction k with
    | nil => cases h
    | cons x l ih =>
      simp only [cntNs]
      rcases List.mem_cons.1 h with rfl | h
      · omega
      · have := ih h; omega
theorem cnt_pos1 (t : Tr) : 1 ≤ cntN t := by cases t; simp [cntN]
theorem cnt_kidT (t : Tr) (i : Nat) : cntN (kidT t i) ≤ cntN t := by
  unfold kidT
  by_cases h : i < t.kids.length
  · rw [List.getD_eq_getElem?_getD, List.getElem?_eq_getElem h]
    have := cnt_kid (List.getElem_mem h)
    simp only [Option.getD_some]; omega
  · rw [List.getD_eq_getElem?_getD, List.getElem?_eq_none (by omega)]
    exact cnt_pos1 t
theorem allT_def {p : Lab → Prop} (hp : p ⟨0, 0, [], [], []⟩) : allT p default := ⟨hp, trivial⟩
theorem allT_kidT {p : Lab → Prop} (hp : p ⟨0, 0, [], [], []⟩) {t : Tr} (h : allT p t) (i : Nat) : allT p (kidT t i) := by
  unfold kidT
  by_cases hi : i < t.kids.length
  · rw [List.getD_eq_getElem?_getD, List.getElem?_eq_getElem hi]
    exact allT_kid h (List.getElem_mem hi)
  · rw [List.getD_eq_getElem?_getD, List.getElem?_eq_none (by omega)]
    exact allT_def hp
theorem pOk_def : pOk ⟨0, 0, [], [], []⟩ := ⟨by simp, by simp, by simp, by simp, by simp⟩
theorem pOk_let (id : Int) {v d : Tr} (hv : allT pOk v) (hd : allT pOk d) : allT pOk (letT id v d) := ⟨⟨by simp, by simp, by simp, by simp, by simp⟩, hv, hd, trivial⟩
theorem pOk_lets {d : Tr} (hd : allT pOk d) : ∀ (ids : List Int) (l : List Tr), (∀ t ∈ l, allT pOk t) → allT pOk (letsT ids l d)
  | [], _, _ => by simpa [letsT] using hd
  | _ :: _, [], _ => by simpa [letsT] using hd
  | i :: is, t :: l, h => pOk_let i (h t (by simp)) (pOk_lets hd is l fun s hs => h s (by simp [hs]))
theorem cnt_let (id : Int) (v d : Tr) : cntN (letT id v d) = cntN v + cntN d + 1 := by simp [letT, cntN, cntNs]
theorem cnt_lets (d : Tr) : ∀ (ids : List Int) (l : List Tr), cntN (letsT ids l d) ≤ cntN d + 2 * cntNs l
  | [], l => by simp [letsT]
  | _ :: _, [] => by simp [letsT]
  | i :: is, t :: l => by
    have h1 := cnt_lets d is l
    have h2 := cnt_pos1 t
    simp only [letsT, cnt_let, cntNs]; omega
theorem subTs_len (id : Int) (v : Tr) : ∀ l : List Tr, (subTs id v l).length = l.length
  | [] => rfl
  | t :: l => by simp [subTs, subTs_len id v l]
mutual
theorem pOk_sub {id : Int} {v : Tr} (hv : allT pOk v) : ∀ t : Tr, allT pOk t → allT pOk (subT id v t)
  | .mk o n b k a, h => by
    simp only [subT]
    split
    · split
      · exact hv
      · exact h
    · obtain ⟨h1, h2⟩ := h
      refine ⟨⟨h1.b, ?_, h1.a, h1.ab, h1.s⟩, pOk_subs hv k h2⟩
      have := h1.k
      simp only [List.length_map] at this ⊢
      rw [subTs_len]; exact this
theorem pOk_subs {id : Int} {v : Tr} (hv : allT pOk v) : ∀ l : List Tr, allTs pOk l → allTs pOk (subTs id v l)
  | [], _ => trivial
  | t :: l, h => ⟨pOk_sub hv t h.1, pOk_subs hv l h.2⟩
end
mutual
theorem cnt_sub (id : Int) (v : Tr) : ∀ t : Tr, cntN (subT id v t) ≤ cntN t + usesN id t * (cntN v - 1)
  | .mk o n b k a => by
    simp only [subT, usesN]
    split
    · split
      · simp only [cntN]; have := cnt_pos1 v; omega
      · simp
    · have := cnt_subs id v k
      simp only [cntN]; omega
theorem cnt_subs (id : Int) (v : Tr) : ∀ l : List Tr, cntNs (subTs id v l) ≤ cntNs l + usesNs id l * (cntN v - 1)
  | [] => by simp [subTs, cntNs]
  | t :: l => by
    have h1 := cnt_sub id v t
    have h2 := cnt_subs id v l
    simp only [subTs, cntNs, usesNs, Nat.add_mul]; omega
end
theorem cntNs_kids (t : Tr) : cntNs t.kids + 1 = cntN t := by cases t; simp [cntN]
theorem cntNs_tail (l : List Tr) : cntNs l.tail ≤ cntNs l := by cases l <;> simp [cntNs]
theorem atom_cnt {v : Tr} (hv : allT shpL v) (h : atomT v = true) : cntN v = 1 := by
  cases v with
  | mk o n b k a =>
    have hk : k = [] := by
      simp only [atomT, Tr.op_mk, Tr.kids_mk, Bool.or_eq_true, beq_iff_eq, Bool.and_eq_true, List.length_eq_zero_iff] at h
      rcases h with (h | h) | ⟨_, h⟩
      · exact (shp_leaf hv (.inl h)).1
      · exact (shp_leaf hv (.inr h)).1
      · exact h
    subst hk
    simp [cntN, cntNs]
theorem chosen_in {P Q : Tr → Prop} {con X : Tr} (hpq : ∀ d, P d → Q d) (hlet : ∀ ids, ∀ d, P d → Q (letsT ids con.kids d)) : ∀ (as' : List Alt) (ks : List Tr), (∀ k ∈ ks, P k) → chosenL con as' ks = some X → Q X
  | [], _, _, h => by simp [chosenL] at h
  | _ :: _, [], _, h => by simp [chosenL] at h
  | a :: as', k :: ks, hk, h => by
    simp only [chosenL] at h
    split at h
    · split at h
      · cases h
      · cases h
        exact hlet _ _ (hk k (by simp))
    · split at h
      · cases h
        exact hpq _ (hk _ (by simp))
      · exact chosen_in hpq hlet as' ks (fun s hs => hk s (by simp [hs])) h
theorem field_in {n : Int} {X : Tr} : ∀ (bs : List Int) (ks : List Tr), fieldL n bs ks = some X → X ∈ ks
  | [], _, h => by simp [fieldL] at h
  | _ :: _, [], h => by simp [fieldL] at h
  | b :: bs, k :: ks, h => by
    simp only [fieldL] at h
    split at h
    · cases h; simp
    · exact List.mem_cons_of_mem _ (field_in bs ks h)
theorem arith_in {P : Tr → Prop} {t X : Tr} (hw : ∀ n, P (wordT n)) (hf : ∀ b, P (flagT b)) (h : arithT t = some X) : P X := by
  unfold arithT at h
  dsimp only at h
  repeat' split at h
  all_goals first
    | (cases h; done)
    | (cases h; exact hw _)
    | (cases h; exact hf _)
theorem defN_in {id : Int} {t X : Tr} : ∀ (bs : List Int) (i : Nat), defN id t bs i = some X → X.op = 2 ∧ ∃ j, X = kidT t j
  | [], _, h => by simp [defN] at h
  | b :: bs, i, h => by
    simp only [defN] at h
    split at h
    · rename_i hc
      cases h
      exact ⟨hc.2.2, _, rfl⟩
    · exact defN_in bs (i + 1) h
theorem defT_in {id : Int} {X : Tr} : ∀ (l : List Tr), defT id l = some X → X.op = 2 ∧ ∃ t ∈ l, ∃ j, X = kidT t j
  | [], h => by simp [defT] at h
  | t :: l, h => by
    simp only [defT] at h
    split at h
    · rename_i hf
      cases h
      obtain ⟨h1, h2⟩ := defN_in _ _ hf
      exact ⟨h1, t, by simp, h2⟩
    · obtain ⟨h1, s, h2, h3⟩ := defT_in l h
      exact ⟨h1, s, by simp [h2], h3⟩
theorem mem_set {l : List Tr} {i : Nat} {v s : Tr} (h : s ∈ l.set i v) : s ∈ l ∨ s = v := List.mem_or_eq_of_mem_set h
theorem cntNs_set : ∀ (l : List Tr) (i : Nat) (v : Tr), cntNs (l.set i v) ≤ cntNs l + cntN v
  | [], _, _ => by simp [cntNs]
  | t :: l, 0, v => by simp only [List.set_cons_zero, cntNs]; omega
  | t :: l, i + 1, v => by have := cntNs_set l i v; simp only [List.set_cons_succ, cntNs]; omega
theorem res_pOk {nodes : List Tr} {root t X : Tr} {rule n : Int} (ht : allT pOk t) (hN : ∀ s ∈ nodes, allT pOk s) (h : resT nodes root rule n t = some X) : allT pOk X := by
  have hk : ∀ i, allT pOk (kidT t i) := allT_kidT pOk_def ht
  have hkk : ∀ i j, allT pOk (kidT (kidT t i) j) := fun i => allT_kidT pOk_def (hk i)
  have hkm : ∀ s ∈ t.kids, allT pOk s := fun s hs => allT_kid ht hs
  have hkkm : ∀ i, ∀ s ∈ (kidT t i).kids, allT pOk s := fun i s hs => allT_kid (hk i) hs
  unfold resT at h
  split at h
  · cases h
  split at h
  · cases h
    exact pOk_lets (hkk 0 0) _ _ fun s hs => hkm s (List.mem_of_mem_tail hs)
  split at h
  · unfold letRuleT at h
    dsimp only at h
    split at h
    · cases h; exact pOk_sub (hk 0) _ (hk 1)
    split at h
    · cases h; exact hk 1
    split at h
    · cases h; exact pOk_let _ (hkk 0 0) (pOk_let _ (hkk 0 1) (hk 1))
    split at h
    · cases h
      have hv := hk 0
      cases hv0 : kidT t 0 with
      | mk o' n' b' k' a' =>
        rw [hv0] at hv
        obtain ⟨hl, _⟩ := hv
        refine ⟨⟨by simp, by simp, hl.a, hl.ab, ?_⟩, ?_, ?_, trivial⟩
        · have := hl.s
          simp only [Tr.alts_mk, List.length_nil] at this ⊢; omega
        · rw [← hv0]; exact hkk 0 0
        · rw [← hv0]; exact pOk_let _ (hkk 0 1) (hk 1)
    split at h
    · cases h; exact pOk_sub (hk 0) _ (hk 1)
    · cases h
  split at h
  · cases h; exact hk _
  split at h
  · exact chosen_in (P := allT pOk) (Q := allT pOk) (fun _ h => h) (fun ids d hd => pOk_lets hd _ _ (hkkm 0)) _ _ (fun s hs => hkm s (List.mem_of_mem_tail hs)) h
  split at h
  · exact arith_in (P := allT pOk) (fun n => ⟨⟨by simp, by simp, by simp, by simp, by simp⟩, trivial⟩) (fun b => ⟨⟨by simp, by simp, by simp, by simp, by simp⟩, trivial⟩) h
  split at h
  · unfold fieldT at h
    dsimp only at h
    split at h
    · cases h
    · exact hkkm 0 _ (field_in _ _ h)
  split at h
  · unfold namedT at h
    split at h
    · cases h
    split at h
    · cases h
    · cases h
      refine pOk_let _ (hk _) ?_
      cases t with
      | mk o' n' b' k' a' =>
        obtain ⟨hl, hl2⟩ := ht
        refine ⟨⟨hl.b, ?_, hl.a, hl.ab, hl.s⟩, allTs_iff.2 fun s hs => ?_⟩
        · have := hl.k
          simpa using this
        · rcases mem_set hs with h1 | rfl
          · exact allTs_iff.1 hl2 s h1
          · exact ⟨⟨by simp, by simp, by simp, by simp, by simp⟩, trivial⟩
  split at h
  · unfold unfoldT at h
    rw [Option.map_eq_some_iff] at h
    obtain ⟨f, hf, rfl⟩ := h
    obtain ⟨_, s, hs, j, rfl⟩ := defT_in _ hf
    exact rnT_pOk _ _ _ (allT_kidT pOk_def (hN s hs) j)
  · cases h
theorem res_cnt {nodes : List Tr} {root t X : Tr} {rule n : Int} {m : Nat} (hs : allT shpL t) (ht : cntN t ≤ m) (hN : ∀ s ∈ nodes, cntN s ≤ m) (h : resT nodes root rule n t = some X) : cntN X ≤ 4 * m + 4 := by
  have hk : ∀ i, cntN (kidT t i) ≤ m := fun i => Nat.le_trans (cnt_kidT t i) ht
  have hkk : ∀ i j, cntN (kidT (kidT t i) j) ≤ m := fun i j => Nat.le_trans (cnt_kidT _ j) (hk i)
  have hkm : ∀ s ∈ t.kids, cntN s ≤ m := fun s hs => by have := cnt_kid hs; omega
  have hks := cntNs_kids t
  have hkt := cntNs_tail t.kids
  have hkks : ∀ i, cntNs (kidT t i).kids ≤ m := fun i => by have := cntNs_kids (kidT t i); have := hk i; omega
  unfold resT at h
  split at h
  · cases h
  split at h
  · cases h
    have h1 := cnt_lets (kidT (kidT t 0) 0) (kidT t 0).binds t.kids.tail
    have := hkk 0 0
    omega
  split at h
  · unfold letRuleT at h
    dsimp only at h
    split at h
    · cases h
      rename_i hc
      have h1 := cnt_sub (t.binds.getD 0 0) (kidT t 0) (kidT t 1)
      have hd : shpL ⟨0, 0, [], [], []⟩ := by unfold shpL; decide
      rw [atom_cnt (allT_kidT hd hs 0) hc.2] at h1
      have := hk 1
      omega
    split at h
    · cases h; have := hk 1; omega
    split at h
    · cases h
      rw [cnt_let, cnt_let]
      have := hk 1; have := hkk 0 0; have := hkk 0 1
      omega
    split at h
    · cases h
      simp only [cntN, cntNs, cnt_let]
      have := hk 1; have := hkk 0 0; have := hkk 0 1
      omega
    split at h
    · cases h
      rename_i hc
      have h1 := cnt_sub (t.binds.getD 0 0) (kidT t 0) (kidT t 1)
      rw [hc.2.2, Nat.one_mul] at h1
      have := hk 1; have := hk 0
      omega
    · cases h
  split at h
  · cases h; have := hk t.binds.length; omega
  split at h
  · refine chosen_in (P := fun s => cntN s ≤ m) (Q := fun s => cntN s ≤ 4 * m + 4) (con := kidT t 0) (fun d hd => by omega) ?_ t.alts t.kids.tail (fun s hs => hkm s (List.mem_of_mem_tail hs)) h
    intro ids d hd
    have h1 := cnt_lets d ids (kidT t 0).kids
    have := hkks 0
    omega
  split at h
  · refine arith_in (P := fun s => cntN s ≤ 4 * m + 4) (fun n => ?_) (fun b => ?_) h
    · simp [wordT, cntN, cntNs]
    · simp [flagT, cntN, cntNs]
  split at h
  · unfold fieldT at h
    dsimp only at h
    split at h
    · cases h
    · have := cnt_kid (field_in _ _ h)
      have := hk 0
      omega
  split at h
  · unfold namedT at h
    split at h
    · cases h
    split at h
    · cases h
    · cases h
      rw [cnt_let]
      have h1 := cntNs_set t.kids n.toNat (.mk 0 (mostT root + 1) [] [] [])
      have h2 : cntN (.mk 0 (mostT root + 1) [] [] []) = 1 := by simp [cntN, cntNs]
      have := hk n.toNat
      simp only [cntN] at h1 h2 ⊢
      omega
  split at h
  · unfold unfoldT at h
    rw [Option.map_eq_some_iff] at h
    obtain ⟨f, hf, rfl⟩ := h
    obtain ⟨_, s, hs, j, rfl⟩ := defT_in _ hf
    rw [rnT_cnt]
    have := cnt_kidT s j
    have := hN s hs
    omega
  · cases h
end Go.CoreX
namespace Go.CoreX
open Go.Abs (orI)
theorem valTs_iff : ∀ {l : List Tr}, valTs l = true ↔ ∀ t ∈ l, valT t = true
  | [] => by simp [valTs]
  | t :: l => by simp [valTs, valTs_iff (l := l)]
theorem applyE_res {e : List Ex} {r at' n : Int} (ha : (applyE e r at' n).2 = 0) : check e = 0 ∧ (1 ≤ r ∧ r ≤ 12) ∧ (0 ≤ at' ∧ at' < (e.length : Int)) ∧ ∃ X, resT (growL e) (grow e) r n (treeAt e at'.toNat) = some X ∧ check (listT [] (growR e at'.toNat X)) = 0 ∧ applyE e r at' n = (listT [] (growR e at'.toNat X), 0) := by
  unfold applyE at ha ⊢
  split at ha
  · rename_i h1; exact absurd ha h1
  rename_i h1
  split at ha
  · cases ha
  rename_i h2
  split at ha
  · cases ha
  rename_i h3
  split at ha
  · cases ha
  rename_i X hX
  split at ha
  · cases ha
  rename_i h4
  refine ⟨by simpa using h1, by omega, by omega, X, hX, by simpa using h4, ?_⟩
  rw [if_neg h4, if_neg h1, if_neg h2, if_neg h3]
end Go.CoreX
namespace Go.CoreX
def replayS : List Ex → List Step3 → Option (List Ex)
  | e, [] => some e
  | e, (r, i, n) :: l => if (applyE e r i n).2 = 0 then replayS (applyE e r i n).1 l else none
end Go.CoreX
namespace Go.Proofs.YtgdionbeeodaaaaDoor
open Go Go.Abs Go.CoreX
set_option maxRecDepth 10000
variable {Γ : List (Nat × List AC)}
theorem encTrs_len (l : List Tr) : (encTrs l).length = l.length := by simp [encTrs]
theorem encTrs_drop : ∀ (m : Nat) (l : List Tr), encTrs (l.drop m) = (encTrs l).drop m
  | 0, l => rfl
  | m + 1, [] => rfl
  | m + 1, t :: l => by simpa [encTrs] using encTrs_drop m l
theorem atom_ok (t : Tr) : APure Tryd.prog Γ 110 [.one (.box (cTr t))] (.one (.lit (.bool (atomT t)))) := by
  intro ou
  refine AFn.walk 30 tabOk Tryd.func110 rfl (by kernel_rfl) rfl rfl fun hou => ?_
  repeat' first | refine zN ?_ | (with_reducible refine oj ?_; refine AOps.splitS rfl rfl rfl rfl (fun hb => ?_) (fun hb => ?_)) | (with_reducible refine ok ?_; first | refine ACode.condS rfl (fun hb => ?_) (fun hb => ?_) | refine ACode.cond rfl (fun hb => ?_) (fun hb => ?_))
  all_goals
    refine APure.fin rfl (WkF.ofEq ?_) (by simp) hou rfl
    try simp only [encTrs_len] at *
    have e : ((t.kids.length : Int) == 0) = (t.kids.length == 0) := by rw [Bool.eq_iff_iff]; simp
    unfold atomT
    simp_all
theorem valTs_take_succ {l : List Tr} {i : Nat} {t : Tr} (h : l[i]? = some t) : valTs (l.take (i + 1)) = (valTs (l.take i) && valT t) := by
  rw [Bool.eq_iff_iff, Bool.and_eq_true, valTs_iff, valTs_iff, take_get h]
  constructor
  · exact fun hh => ⟨fun t ht => hh t (by simp [ht]), hh t (by simp)⟩
  · rintro ⟨h1, h2⟩ s hs
    rcases List.mem_append.1 hs with hs | hs
    · exact h1 s hs
    · simp at hs; subst hs; exact h2
theorem valLast_eq : ∀ {l : List Tr} {m : Nat}, l.length = m + 1 → valLast l = valTs (l.drop m)
  | [], m, h => by simp at h
  | x :: l, 0, h => by
    have : l = [] := List.length_eq_zero_iff.1 (by simpa using h)
    subst this
    simp [valLast, valTs]
  | x :: l, m + 1, h => by
    cases l with
    | nil => simp at h
    | cons y l =>
      have := valLast_eq (l := y :: l) (m := m) (by simpa using h)
      simpa only [valLast, List.drop_succ_cons] using this
def valK (o : Int) (ks : List Tr) : List Tr := if o = 5 then ks.drop (ks.length - 1) else ks
theorem valT_eq {o n : Int} {b : List Int} {ks : List Tr} {a : List Alt} (h : o = 5 → ks ≠ []) : valT (.mk o n b ks a) = (atomT (.mk o n b ks a) || o == 2 || ((o == 5 || o == 6 || o == 9 || o == 4) && valTs (valK o ks))) := by
  simp only [valT]
  congr 1
  unfold valK
  by_cases h5 : o = 5
  · rw [if_pos h5, if_pos h5]
    have hl := List.length_pos_iff.2 (h h5)
    rw [valLast_eq (m := ks.length - 1) (by omega)]
    simp [h5]
  · rw [if_neg h5, if_neg h5]
    split
    · rename_i h6
      have : (o == 5 || o == 6 || o == 9 || o == 4) = true := by simp only [Bool.or_eq_true, beq_iff_eq]; omega
      rw [this]; simp
    · rename_i h6
      have : (o == 5 || o == 6 || o == 9 || o == 4) = false := by
        simp only [Bool.or_eq_false_iff, beq_eq_false_iff_ne]; omega
      rw [this]; simp
def ValOk (Γ : List (Nat × List AC)) (t : Tr) : Prop := APure Tryd.prog Γ 112 [.one (.box (cTr t))] (.one (.lit (.bool (valT t))))
theorem valued_ok (hΓ : ∀ g cs, (g, cs) ∈ Γ → idsL isO cs) : ∀ t : Tr, okT t → allT shpL t → ValOk Γ t
  | .mk o n b ks a, hok, hsh => by
    have ih : ∀ t ∈ ks, ValOk Γ t := fun t ht => valued_ok hΓ t (okT_kid hok (by simpa using ht)) (allT_kid hsh (by simpa using ht))
    have hk : ks.length ≤ 1048576 := hok.2.1
    have h5 : o = 5 → ks ≠ [] := fun e e2 => by have := (shp_rec hsh e).1; subst e2; simp at this
    intro ou
    rw [valT_eq h5]
    refine AFn.walk 44 tabOk Tryd.func112 rfl (by kernel_rfl) rfl rfl fun hou => ?_
    refine zA ?_
    refine zca hΓ (atom_ok (.mk o n b ks a)) hou ?_
    refine zA ?_
    generalize atomT (.mk o n b ks a) = A
    refine AOps.splitS rfl rfl rfl rfl (fun hA => ?_) (fun hA => ?_)
    · subst hA
      refine zA ?_
      exact APure.fin rfl (WkF.ofEq (by simp)) (by simp) hou rfl
    subst hA
    refine zA ?_
    refine ACode.cond rfl (fun hb => ?_) (fun hb => ?_)
    · have h2 : (o == 2) = true := hb
      refine zA ?_
      exact APure.fin rfl (WkF.ofEq (by simp [h2])) (by simp) hou rfl
    have h2 : (o == 2) = false := hb
    refine zA ?_
    refine ACode.cutN 1 rfl hΓ (α := Unit) (fun _ => [(3, .one (.sl 1 (encTrs (valK o ks))))]) (fun _ => ⟨0, [], ou⟩) (fun _ => (o == 5 || o == 6 || o == 9 || o == 4) = true) ?_ fun _ hg => ?_
    · dsimp only [List.take_succ_cons, List.take_zero, List.cons_append, List.nil_append]
      repeat' first | refine zN ?_ | (with_reducible refine oj ?_; refine AOps.splitS rfl rfl rfl rfl (fun hb => ?_) (fun hb => ?_)) | (with_reducible refine ok ?_; first | refine ACode.condS rfl (fun hb => ?_) (fun hb => ?_) | refine ACode.cond rfl (fun hb => ?_) (fun hb => ?_))
      · have h5' : o = 5 := by simpa using hb
        have hl := List.length_pos_iff.2 (h5 h5')
        refine AOps.wk 28 rfl (y := .one (int ((ks.length - 1 : Nat) : Int))) (.ofEq (by simp [encTrs_len]; omega)) ?_
        refine AOps.step1 rfl rfl rfl (AStep.sliceFrom (sz := 1) tabOk rfl rfl rfl rfl rfl rfl rfl (by simp [encTrs_len])) ?_
        refine zA ?_
        exact cInv ⟨(), id, by simp [h5'], LessR.of rfl (FrSub.consP rfl (.ofEq (by unfold valK; rw [if_pos h5', encTrs_drop]; rfl)) (by simp) .nil) (by simp) .nil rfl rfl hou⟩
      iterate 3
        · have h5' : o ≠ 5 := by simp_all
          exact cInv ⟨(), id, by simp_all, LessR.of rfl (FrSub.consP rfl (.ofEq (by unfold valK; rw [if_neg h5']; rfl)) (by simp) .nil) (by simp) .nil rfl rfl hou⟩
      · refine APure.fin rfl (WkF.ofEq ?_) (by simp) hou rfl
        simp_all
    rw [hg]
    obtain ⟨L, hL⟩ : ∃ L, L = valK o ks := ⟨_, rfl⟩
    rw [← hL]
    have hLm : ∀ t ∈ L, ValOk Γ t := by
      intro t ht
      rw [hL] at ht
      unfold valK at ht
      split at ht
      · exact ih t (List.mem_of_mem_drop ht)
      · exact ih t ht
    have hLl : L.length ≤ 1048576 := by
      rw [hL]; unfold valK
      split
      · simp; omega
      · exact hk
    clear hL
    refine zA ?_
    refine ACode.loopR hΓ (α := Nat) (fun j => [(36, .one (int j)), (35, .one (int (encTrs L).length)), (34, .one (.sl 1 (encTrs L)))])
      (fun j => ⟨0, [], ou⟩) (fun m j => j ≤ L.length ∧ valTs (L.take j) = true ∧ m = L.length - j) (a0 := 0) (ρ := id) ⟨by omega, by simp [valTs], rfl⟩ (LessR.of rfl (by (repeat' first | exact FrSub.nil | refine zfc ?_ | refine zfo ?_ | refine zfp ?_)) (by simp) (by repeat' first | exact LoSub.nil | refine zlc ?_ | refine zld ?_ ?_ | rfl) rfl rfl hou) fun m j hj => ?_
    obtain ⟨hjl, hno, rfl⟩ := hj
    refine zA ?_
    refine ACode.cond rfl (fun hb2 => ?_) (fun hb2 => ?_)
    · have hlt : j < L.length := by simpa using hb2
      obtain ⟨t, ht⟩ := get_of_lt hlt
      have hvs := valTs_take_succ ht
      rw [hno, Bool.true_and] at hvs
      refine zA ?_
      refine AOps.step1 rfl rfl rfl (AStep.indexAddr tabOk rfl rfl rfl rfl rfl rfl (.inl rfl) rfl (by omega) (encTrs_get ht)) ?_
      refine zA ?_
      refine zca hΓ (hLm t (List.mem_of_getElem? ht)) hou ?_
      refine zA ?_
      refine ACode.condS rfl (fun hb3 => ?_) (fun hb3 => ?_)
      · have hv : valT t = false := by simpa using hb3
        refine zA ?_
        refine APure.fin rfl (WkF.ofEq ?_) (by simp) hou rfl
        have : valTs L = false := by
          rw [← Bool.not_eq_true, valTs_iff]
          intro h
          rw [h t (List.mem_of_getElem? ht)] at hv
          cases hv
        rw [this, h2]; rfl
      · have hv : valT t = true := by simpa using hb3
        refine zM ?_
        exact cInv ⟨L.length - (j + 1), j + 1, id, by omega, ⟨by omega, by rw [hvs, hv], rfl⟩, LessR.of rfl (by (repeat' first | exact FrSub.nil | refine zfc ?_ | refine zfo ?_ | refine zfp ?_)) (by simp) (by repeat' first | exact LoSub.nil | refine zlc ?_ | refine zld ?_ ?_ | rfl) rfl rfl hou⟩
    · have hlt : j = L.length := by simp at hb2; omega
      subst hlt
      rw [List.take_length] at hno
      refine zA ?_
      refine APure.fin rfl (WkF.ofEq ?_) (by simp) hou rfl
      rw [hno, h2]; rfl
end Go.Proofs.YtgdionbeeodaaaaDoor
namespace Go.CoreX
mutual
def usesL (id : Int) : LTr → List LTr
  | .mk i o n nb b ks a => if o = 0 then (if n = id then [.mk i o n nb b ks a] else []) else usesLs id ks
def usesLs (id : Int) : List LTr → List LTr
  | [] => []
  | t :: l => usesL id t ++ usesLs id l
end
mutual
theorem usesL_len (id : Int) : ∀ t : LTr, (usesL id t).length = usesN id (erT t)
  | .mk i o n nb b ks a => by
    simp only [usesL, erT, usesN]
    split
    · split <;> rfl
    · exact usesLs_len id ks
theorem usesLs_len (id : Int) : ∀ l : List LTr, (usesLs id l).length = usesNs id (erTs l)
  | [] => rfl
  | t :: l => by simp only [usesLs, erTs, usesNs, List.length_append, usesL_len id t, usesLs_len id l]
end
theorem usesLs_app (id : Int) : ∀ (l r : List LTr), usesLs id (l ++ r) = usesLs id l ++ usesLs id r
  | [], r => rfl
  | t :: l, r => by simp only [List.cons_append, usesLs, usesLs_app id l r, List.append_assoc]
mutual
theorem usesN_le (id : Int) : ∀ t : Tr, usesN id t ≤ cntN t
  | .mk o n b ks a => by
    have := usesNs_le id ks
    simp only [usesN, cntN]
    split
    · split <;> omega
    · omega
theorem usesNs_le (id : Int) : ∀ l : List Tr, usesNs id l ≤ cntNs l
  | [] => by simp [usesNs, cntNs]
  | t :: l => by
    have h1 := usesN_le id t
    have h2 := usesNs_le id l
    simp only [usesNs, cntNs]; omega
end
end Go.CoreX
namespace Go.Proofs.YtgdionbeeodaaaaDoor
open Go Go.Abs Go.CoreX
set_option maxRecDepth 10000
variable {Γ : List (Nat × List AC)}
theorem er_kids (t : LTr) : (erT t).kids = t.kids.map erT := by cases t; simp [erT, LTr.kids, erTs_eq]
theorem er_kid {t s : LTr} (h : s ∈ t.kids) : erT s ∈ (erT t).kids := by rw [er_kids]; exact List.mem_map_of_mem h
theorem owns_kid {ou : Outer} {t s : LTr} (h : Owns ou (objs t)) (hs : s ∈ t.kids) : Owns ou (objs s) := fun p hp => h p ((objs_mem t p).2 (.inr (objs_kid hs hp)))
theorem kC_get {l : List LTr} {i : Nat} {t : LTr} (h : l[i]? = some t) : (kC l)[i]? = some [.ptr (.o t.id) 0] := by simp [kC, h]
theorem kC_app (l r : List LTr) : kC (l ++ r) = kC l ++ kC r := by simp [kC]
theorem kC_len (l : List LTr) : (kC l).length = l.length := by simp [kC]
def UsesOk (Γ : List (Nat × List AC)) (t : LTr) : Prop := ∀ (id : Int) (ou : Outer), Owns ou (objs t) → AFn Tryd.prog Γ 109 [.one (.ptr (.o t.id) 0), .one (int id)] ou (fun r ou' => r = .one (.sl 1 (kC (usesL id t))) ∧ ou' = ou)
theorem uses_ok (hΓ : ∀ g cs, (g, cs) ∈ Γ → idsL isO cs) : ∀ t : LTr, okT (erT t) → cntN (erT t) ≤ 1048576 → UsesOk Γ t
  | .mk i o n nb b ks a, hok, hc => by
    intro q ou ho
    have hkl : ks.length ≤ 1048576 := by have := hok.2.1; simpa [erTs_eq] using this
    have ih : ∀ t ∈ ks, UsesOk Γ t := fun t ht => uses_ok hΓ t (okT_kid hok (er_kid (t := .mk i o n nb b ks a) ht)) (by
      have := cnt_list_le ht
      simp only [erT, cntN] at hc; omega)
    have hi : ou i = some (.cells (lC (.mk i o n nb b ks a))) := owns_node ho
    simp only [lC] at hi
    refine AFn.walk 37 tabOk Tryd.func109 rfl (by kernel_rfl) rfl rfl fun hou => ?_
    refine zA ?_
    refine AOps.step1 rfl rfl rfl (AStep.loadOwn tabOk rfl rfl rfl rfl rfl hi rfl) ?_
    refine zA ?_
    refine ACode.cond rfl (fun hb1 => ?_) (fun hb1 => ?_)
    · have h0 : o = 0 := by simpa using hb1
      refine zA ?_
      refine AOps.step1 rfl rfl rfl (AStep.loadOwn tabOk rfl rfl rfl rfl rfl hi rfl) ?_
      refine zA ?_
      refine ACode.cond rfl (fun hb2 => ?_) (fun hb2 => ?_)
      · have h2 : n = q := by simpa using hb2
        refine zA ?_
        refine AFn.fin' rfl (WkF.ofEq ?_) (by simp) hou ⟨rfl, rfl⟩
        simp only [usesL, if_pos h0, if_pos h2]; rfl
      · have h2 : ¬ n = q := by simpa using hb2
        refine zA ?_
        refine AFn.fin' rfl (WkF.one (.nilS 1)) (by simp) hou ⟨?_, rfl⟩
        simp only [usesL, if_pos h0, if_neg h2]; rfl
    have h0 : ¬ o = 0 := by simpa using hb1
    refine zA ?_
    refine AOps.step1 rfl rfl rfl (AStep.loadOwn tabOk rfl rfl rfl rfl rfl hi rfl) ?_
    refine zA ?_
    refine ACode.growS 5 70 1 rfl ?_
    refine ACode.loopR hΓ (α := Nat) (fun j => [(26, .one (int j)), (25, .one (int (kC ks).length)), (24, .one (.sl 1 (kC ks))), (5, .one (.gs 1 (kC (usesLs q (ks.take j))) (.l 0))), (1, .one (int q))])
      (fun j => ⟨1, [(0, .tok 70 1 (kC (usesLs q (ks.take j))).length)], ou⟩) (fun m j => j ≤ ks.length ∧ m = ks.length - j) (a0 := 0) (ρ := id) ⟨by omega, rfl⟩ (LessR.of rfl (by (repeat' first | exact FrSub.nil | refine zfc ?_ | refine zfo ?_ | refine zfp ?_)) (by simp) (by repeat' first | exact LoSub.nil | refine zlc ?_ | refine zld ?_ ?_ | rfl) rfl rfl hou) fun m j hj => ?_
    obtain ⟨hjl, rfl⟩ := hj
    refine zA ?_
    refine ACode.cond rfl (fun hb2 => ?_) (fun hb2 => ?_)
    · have hlt : j < ks.length := by simpa [kC_len] using hb2
      obtain ⟨t, ht⟩ := get_of_lt hlt
      have htm := List.mem_of_getElem? ht
      have hsn : usesLs q (ks.take (j + 1)) = usesLs q (ks.take j) ++ usesL q t := by rw [take_get ht, usesLs_app]; simp [usesLs]
      have hle : (kC (usesLs q (ks.take j))).length + (kC (usesL q t)).length ≤ 1048576 := by
        have h1 := usesLs_len q (ks.take (j + 1))
        have h2 := usesNs_le q (erTs (ks.take (j + 1)))
        have h3 : cntNs (erTs (ks.take (j + 1))) ≤ cntNs (erTs ks) := by
          have : erTs ks = erTs (ks.take (j + 1)) ++ erTs (ks.drop (j + 1)) := by rw [erTs_eq, erTs_eq, erTs_eq, ← List.map_append, List.take_append_drop]
          rw [this, cntNs_app]; omega
        simp only [erT, cntN] at hc
        rw [hsn, List.length_append] at h1
        rw [kC_len, kC_len]; omega
      refine zA ?_
      refine AOps.step1 rfl rfl rfl (AStep.indexAddr tabOk rfl rfl rfl rfl rfl rfl (.inl rfl) rfl (by omega) (kC_get ht)) ?_
      refine zA ?_
      refine AOps.call1 hΓ rfl rfl rfl rfl rfl rfl rfl (by exact ⟨trivial, trivial, trivial⟩) hou (ih t htm q ou (owns_kid ho htm)) fun r ou' hq _ _ => ?_
      obtain ⟨rfl, rfl⟩ := hq
      refine zA ?_
      refine AOps.app tabOk rfl rfl rfl rfl rfl rfl rfl rfl rfl (Base.gs' _ 70 1 _ _ rfl rfl) (.sl _ _) rfl ?_ ?_ ?_
      · show _ * 8 ≤ _; omega
      · omega
      refine zM ?_
      have hsk : kC (usesLs q (ks.take (j + 1))) = kC (usesLs q (ks.take j)) ++ kC (usesL q t) := by rw [hsn, kC_app]
      refine cInv ⟨ks.length - (j + 1), j + 1, fun k => if k = 0 then 1 else k, by omega, ⟨by omega, rfl⟩, ?_⟩
      simp only [hsk]
      refine LessR.of rfl (FrSub.cons rfl (.ofEq rfl) (FrSub.cons rfl (.ofEq rfl) (FrSub.consP rfl (.ofEq rfl) (by simp) (FrSub.consGs rfl rfl (by rw [← kC_app]; simp) (FrSub.cons rfl (.ofEq rfl) .nil))))) (by rw [← kC_app]; simp) (by repeat' first | exact LoSub.nil | refine zlc ?_ | refine zld ?_ ?_ | rfl) rfl rfl hou
    · have hlt : j = ks.length := by simp [kC_len] at hb2; omega
      subst hlt
      refine zA ?_
      refine AFn.fin' rfl (WkF.one (.gsE rfl)) (by simp) hou ⟨?_, rfl⟩
      simp only [usesL, if_neg h0, List.take_length]
end Go.Proofs.YtgdionbeeodaaaaDoor
namespace Go.Proofs.YtgdionbeeodaaaaDoor
open Go Go.Abs Go.CoreX
set_option maxRecDepth 10000
variable {Γ : List (Nat × List AC)}
def letN (k : Nat) (q : Int) (v d : LTr) : LTr := .mk k 4 0 none [q] [v, d] []
theorem letN_er (k : Nat) (q : Int) (v d : LTr) : erT (letN k q v d) = letT q (erT v) (erT d) := by simp [letN, letT, erT, erTs]
theorem letN_ids (k : Nat) (q : Int) (v d : LTr) : (AObj.cells (lC (letN k q v d))).ids isO := by
  simp only [letN, lC, AObj.ids, idsL, AC.ids, true_and, and_true]
  exact ⟨ids_bC _ (fun _ => trivial) _ _, ids_kC _ (fun _ => trivial) _, ids_lAlts _ (fun _ => trivial) _⟩
theorem let_ok (hΓ : ∀ g cs, (g, cs) ∈ Γ → idsL isO cs) (q : Int) (v d : LTr) (ou : Outer) : AFn Tryd.prog Γ 108 [.one (int q), .one (.ptr (.o v.id) 0), .one (.ptr (.o d.id) 0)] ou
    (fun r ou' => ∃ k, r = .one (.ptr (.o k) 0) ∧ NewO ou ou' [(k, .cells (lC (letN k q v d)))]) := by
  refine AFn.walk 14 tabOk Tryd.func108 rfl (by kernel_rfl) rfl rfl fun hou => ?_
  iterate 14 (first | ((with_reducible refine oj ?_); refine zau ?_) | (with_reducible refine zst ?_) | ((with_reducible refine cExitMiss ?_ ?_); rfl) | (with_reducible refine ok ?_; first | refine ACode.condT rfl ?_ | refine ACode.condF rfl ?_))
  refine AOps.wkObj (.l 0) rfl (cs' := lC (letN 0 q v d)) (fun w C xs h => ?_) ?_
  · exact (show WkL _ _ from .cons (.refl _) (.cons (.refl _) (.cons (.refl _) (.cons (.refl _) (.cons (.nilS 2) .nil))))) w C xs h
  refine AOps.cedes [0] rfl (by decide) hou fun k hk => ⟨[(13, .one (.ptr (.o k) 0))], [], [.cells (lC (letN k q v d))], .cons rfl rfl .nil, .nil, ?_, ?_⟩
  · exact .cons rfl (AObj.sub_f (fun i hi => by cases i with | l q => exact hi.elim | o q => rfl) _ (letN_ids 0 q v d)) .nil
  have hN := NewO.add hk hou (letN_ids k q v d)
  refine zA ?_
  exact AFn.fin' rfl (WkF.ofEq rfl) (by simp) hN.ok ⟨k, rfl, hN⟩
end Go.Proofs.YtgdionbeeodaaaaDoor
namespace Go.Proofs.YtgdionbeeodaaaaDoor
open Go Go.Abs Go.CoreX
set_option maxRecDepth 10000
variable {Γ : List (Nat × List AC)}
def PartO (ou ou1 : Outer) (S l : List (Nat × AObj)) : Prop := ∀ p ∈ l, p ∈ S ∨ (ou p.1 = none ∧ ou1 p.1 = some p.2)
theorem NewO.oldS {ou ou' : Outer} {L : List (Nat × AObj)} (h : NewO ou ou' L) {j : Nat} {o : AObj} (hj : ou j = some o) : ou' j = some o := by
  rw [h.old j fun hm => by have := h.new j hm; rw [hj] at this; cases this]; exact hj
theorem Der.node {ou ou1 ou2 : Outer} {S : List (Nat × AObj)} {u : LTr} (h : ∀ j o, ou j = some o → ou1 j = some o) (hN : NewO ou1 ou2 [(u.id, .cells (lC u))]) (ht : PartO ou ou1 S (tailO u)) : Der ou ou2 S u := by
  refine ⟨fun j o hj => hN.oldS (h j o hj), fun p hp => ?_, hN.ok⟩
  rw [objs_tail] at hp
  rcases List.mem_cons.1 hp with rfl | hp
  · refine .inr ⟨?_, hN.own _ (by simp)⟩
    have h1 := hN.new u.id (by simp [keys])
    cases ho : ou u.id with
    | none => rfl
    | some o => rw [h _ _ ho] at h1; cases h1
  · rcases ht p hp with h1 | ⟨h1, h2⟩
    · exact .inl h1
    · exact .inr ⟨h1, hN.oldS h2⟩
theorem PartO.app {ou ou1 : Outer} {S l r : List (Nat × AObj)} (hl : PartO ou ou1 S l) (hr : PartO ou ou1 S r) : PartO ou ou1 S (l ++ r) := fun p hp => (List.mem_append.1 hp).elim (hl p) (hr p)
theorem PartO.of {ou ou1 : Outer} {S l : List (Nat × AObj)} (h : ∀ p ∈ l, p ∈ S) : PartO ou ou1 S l := fun p hp => .inl (h p hp)
theorem Der.let {ou ou1 ou2 : Outer} {S : List (Nat × AObj)} {u v : LTr} {k : Nat} {q : Int} (h : Der ou ou1 S u) (hN : NewO ou1 ou2 [(k, .cells (lC (letN k q v u)))]) (hv : PartO ou ou1 S (objs v)) : Der ou ou2 S (letN k q v u) := by
  refine Der.node (u := letN k q v u) h.old hN ?_
  simp only [letN, tailO, bO, aO, List.flatMap_nil, List.append_nil, List.nil_append, objss]
  exact hv.app h.part
theorem lets_ok (hΓ : ∀ g cs, (g, cs) ∈ Γ → idsL isO cs) (ids : List Int) (l : List LTr) (d : LTr) (hl : ids.length = l.length) (hb : l.length ≤ 1048576) (ou : Outer) : AFn Tryd.prog Γ 79 [.one (.sl 1 (ids.map cI)), .one (.sl 1 (kC l)), .one (.ptr (.o d.id) 0)] ou
    (fun r ou' => ∃ u, r = .one (.ptr (.o u.id) 0) ∧ erT u = letsT ids (l.map erT) (erT d) ∧ Der ou ou' (objss l ++ objs d) u) := by
  refine AFn.walk 26 tabOk Tryd.func79 rfl (by kernel_rfl) rfl rfl fun hou => ?_
  refine zM ?_
  refine ACode.loopR hΓ (α := Nat × Outer × LTr) (fun c => [(7, .one (int ((c.1 : Int) - 1))), (2, .one (.ptr (.o c.2.2.id) 0)), (1, .one (.sl 1 (kC l))), (0, .one (.sl 1 (ids.map cI)))])
    (fun c => ⟨0, [], c.2.1⟩) (fun m c => c.1 ≤ ids.length ∧ (erT c.2.2 = letsT (ids.drop c.1) ((l.drop c.1).map erT) (erT d) ∧ Der ou c.2.1 (objss l ++ objs d) c.2.2) ∧ m = c.1) (a0 := (ids.length, ou, d)) (ρ := id) ⟨by omega, ⟨?_, ?_⟩, rfl⟩ (LessR.of rfl (FrSub.cons rfl (.ofEq (by simp; rfl)) (by (repeat' first | exact FrSub.nil | refine zfc ?_ | refine zfo ?_ | refine zfp ?_))) (by simp) (by repeat' first | exact LoSub.nil | refine zlc ?_ | refine zld ?_ ?_ | rfl) rfl rfl hou) fun m c hc => ?_
  · simp [letsT]
  · exact Der.refl (fun p hp => List.mem_append.2 (.inr hp)) hou
  obtain ⟨j, ov, u⟩ := c
  obtain ⟨hjl, ⟨her, hD⟩, hmj⟩ := hc
  dsimp only at hjl her hD hmj
  have hov := hD.ok
  refine zA ?_
  refine ACode.cond rfl (fun hb2 => ?_) (fun hb2 => ?_)
  · have hlt : 0 < j := by simp at hb2; omega
    obtain ⟨i, rfl⟩ : ∃ i, j = i + 1 := ⟨j - 1, by omega⟩
    obtain ⟨q, hq⟩ := get_of_lt (l := ids) (i := i) (by omega)
    obtain ⟨v, hv⟩ := get_of_lt (l := l) (i := i) (by omega)
    refine zA ?_
    refine ACode.wk 7 rfl (y := .one (int ((i : Nat) : Int))) (.ofEq (by congr 3; push_cast; omega)) ?_
    refine ACode.drawC tabOk 10 [9] [(2, .one (.box [int q])), (6, .one (.box [.ptr (.o v.id) 0]))] (fun vs σ => match vs with
        | [] => σ = ⟨0, [], ov⟩
        | [a] => ∃ k ow, a = .one (.ptr (.o k) 0) ∧ NewO ov ow [(k, .cells (lC (letN k q v u)))] ∧ σ = ⟨0, [], ow⟩
        | _ => False) follows (by kernel_rfl) rfl rfl (by decide) (by kernel_rfl) (by kernel_rfl) rfl rfl ?_ ?_ (by decide) ?_ ?_
    · rintro vs σ hG
      match vs, hG with
      | [], hG => subst hG; rfl
      | [a], hG => obtain ⟨k, ow, _, _, rfl⟩ := hG; rfl
    · rintro vs σ hG
      refine .step rfl (HStep.plain rfl (AStep.indexAddr tabOk rfl rfl rfl rfl rfl rfl (.inl rfl) rfl (by omega) (map_get hq))) ?_
      exact .step rfl (HStep.plain rfl (AStep.indexAddr tabOk rfl rfl rfl rfl rfl rfl (.inl rfl) rfl (by omega) (kC_get hv))) .nil
    · rintro vs σ hG p o hi ho
      match vs, hG with
      | [], hG =>
        subst hG
        cases hi
        cases ho
        refine ⟨rfl, rfl, .inr ⟨rfl, AStepR.call hΓ rfl rfl rfl rfl (by exact ⟨trivial, trivial, trivial, trivial⟩) hov (let_ok hΓ q v u ov) fun r ow hq _ _ => ?_⟩⟩
        obtain ⟨k, rfl, hN⟩ := hq
        exact ⟨k, ow, rfl, hN, rfl⟩
      | [a], hG => cases hi
    rintro vs σ hlen hG
    match vs, hlen, hG with
    | [a], _, hG =>
    obtain ⟨k, ow, rfl, hN, rfl⟩ := hG
    have hD2 := hD.let hN (PartO.of fun p hp => List.mem_append.2 (.inl (by rw [objss_eq]; exact List.mem_flatMap.2 ⟨v, List.mem_of_getElem? hv, hp⟩)))
    refine zM ?_
    refine cInv ⟨i, (i, ow, letN k q v u), id, by omega, ⟨by omega, ⟨?_, hD2⟩, rfl⟩, LessR.of rfl (by (repeat' first | exact FrSub.nil | refine zfc ?_ | refine zfo ?_ | refine zfp ?_)) (by simp) .nil rfl rfl hN.ok⟩
    obtain ⟨h1, h2⟩ := List.getElem?_eq_some_iff.1 hq
    obtain ⟨h3, h4⟩ := List.getElem?_eq_some_iff.1 hv
    rw [letN_er, her, List.drop_eq_getElem_cons h1, List.drop_eq_getElem_cons h3, h2, h4]
    rfl
  · have hlt : j = 0 := by simp at hb2; omega
    subst hlt
    refine zA ?_
    refine AFn.fin' rfl (WkF.ofEq rfl) (by simp) hov ⟨u, rfl, ?_, hD⟩
    rw [her]; simp
end Go.Proofs.YtgdionbeeodaaaaDoor
namespace Go.Proofs.YtgdionbeeodaaaaDoor
open Go Go.Abs Go.CoreX
set_option maxRecDepth 10000
variable {Γ : List (Nat × List AC)}
def plainB (nb : Nb) (l : List Int) : Prop := nb = none
mutual
def plainL : LTr → Prop
  | .mk i o n nb b ks a => nb = none ∧ (∀ x ∈ a, x.nb = none) ∧ plainLs ks
def plainLs : List LTr → Prop
  | [] => True
  | t :: l => plainL t ∧ plainLs l
end
theorem plainLs_iff : ∀ {l : List LTr}, plainLs l ↔ ∀ t ∈ l, plainL t
  | [] => by simp [plainLs]
  | t :: l => by simp [plainLs, plainLs_iff (l := l)]
theorem plain_kid {t s : LTr} (h : plainL t) (hs : s ∈ t.kids) : plainL s := by
  cases t with
  | mk i o n nb b ks a => exact plainLs_iff.1 h.2.2 s hs
theorem unused_ok (hΓ : ∀ g cs, (g, cs) ∈ Γ → idsL isO cs) (i : Nat) (o n : Int) (b : List Int) (ks : List LTr) (a : List LAlt) (hok : okT (erT (.mk i o n none b ks a))) (hc : cntN (erT (.mk i o n none b ks a)) ≤ 1048576) (hlen : b.length < ks.length) (ou : Outer) (ho : Owns ou (objs (.mk i o n none b ks a))) :
    AFn Tryd.prog Γ 81 [.one (.ptr (.o i) 0)] ou (fun r ou' => r = .one (.lit (.bool (unusedT (erT (.mk i o n none b ks a))))) ∧ ou' = ou) := by
  have hi : ou i = some (.cells (lC (.mk i o n none b ks a))) := owns_node ho
  simp only [lC, bC] at hi
  have hbl : b.length ≤ 1048576 := hok.1
  have hkl : ks.length ≤ 1048576 := by have := hok.2.1; simpa [erTs_eq] using this
  obtain ⟨t, ht⟩ := get_of_lt hlen
  have htm := List.mem_of_getElem? ht
  have hkt : kidT (erT (.mk i o n none b ks a)) b.length = erT t := by
    unfold kidT
    simp only [erT, Tr.kids_mk, erTs_eq]
    rw [List.getD_eq_getElem?_getD, List.getElem?_map, ht]; rfl
  have hut := uses_ok hΓ t (okT_kid hok (er_kid (t := .mk i o n none b ks a) htm)) (by
    have := cnt_list_le htm
    simp only [erT, cntN] at hc; omega)
  have hun : unusedT (erT (.mk i o n none b ks a)) = b.all fun q => usesN q (erT t) == 0 := by
    unfold unusedT
    rw [show (erT (.mk i o n none b ks a)).binds = b from rfl, hkt]
  have hlim : ∀ q, usesN q (erT t) ≤ 1048576 := fun q => by
    have h1 := usesN_le q (erT t)
    have h2 := cnt_list_le htm
    simp only [erT, cntN] at hc; omega
  rw [hun]
  refine AFn.walk 30 tabOk Tryd.func81 rfl (by kernel_rfl) rfl rfl fun hou => ?_
  repeat' first | refine zN ?_ | ((with_reducible refine oj ?_); first | refine zix ?_ | refine zow rfl rfl hi ?_)
  refine ACode.loopR hΓ (α := Nat) (fun j => [(10, .one (int j)), (9, .one (int (b.map cI).length)), (8, .one (.sl 1 (b.map cI))), (0, .one (.ptr (.o i) 0))])
    (fun j => ⟨0, [], ou⟩) (fun m j => j ≤ b.length ∧ ((b.take j).all fun q => usesN q (erT t) == 0) = true ∧ m = b.length - j) (a0 := 0) (ρ := id) ⟨by omega, rfl, rfl⟩ (LessR.of rfl (by (repeat' first | exact FrSub.nil | refine zfc ?_ | refine zfo ?_ | refine zfp ?_)) (by simp) (by repeat' first | exact LoSub.nil | refine zlc ?_ | refine zld ?_ ?_ | rfl) rfl rfl hou) fun m j hj => ?_
  obtain ⟨hjl, hno, rfl⟩ := hj
  refine zA ?_
  refine ACode.cond rfl (fun hb2 => ?_) (fun hb2 => ?_)
  · have hlt : j < b.length := by simpa using hb2
    obtain ⟨q, hq⟩ := get_of_lt hlt
    refine zA ?_
    refine AOps.step1 rfl rfl rfl (AStep.indexAddr tabOk rfl rfl rfl rfl rfl rfl (.inl rfl) rfl (by omega) (map_get hq)) ?_
    refine zA ?_
    have hcall := hut q ou (owns_kid ho htm)
    refine ACode.drawX tabOk 14 [(3, .one (.sl 1 (kC ks))), (7, .one (.sl 1 (b.map cI))), (9, .one (.box [.ptr (.o t.id) 0])), (12, .one (.sl 1 (kC (usesL q t))))] follows (by kernel_rfl) rfl rfl rfl rfl ?_ ?_
    · refine .step rfl (HStep.plain rfl (AStep.loadOwn tabOk rfl rfl rfl rfl rfl hi rfl)) ?_
      refine .step rfl (HStep.plain rfl (AStep.loadOwn tabOk rfl rfl rfl rfl rfl hi rfl)) ?_
      refine .step rfl (HStep.plain rfl (AStep.indexAddr tabOk rfl rfl rfl rfl rfl rfl (.inl rfl) rfl (by simp) (by simpa using kC_get ht))) ?_
      exact .step rfl (HStep.plain rfl (AStep.callE hΓ rfl rfl rfl rfl (by exact ⟨trivial, trivial, trivial⟩) hou hcall)) .nil
    refine zA ?_
    have hlen2 : (kC (usesL q t)).length = usesN q (erT t) := by rw [kC_len, usesL_len]
    rw [hlen2]
    refine ACode.condS rfl (fun hb3 => ?_) (fun hb3 => ?_)
    · have h3 : usesN q (erT t) ≠ 0 := by simp at hb3; omega
      refine zA ?_
      refine AFn.fin' rfl (WkF.ofEq ?_) (by simp) hou ⟨rfl, rfl⟩
      congr 3
      symm
      rw [List.all_eq_false]
      exact ⟨q, List.mem_of_getElem? hq, by simpa using h3⟩
    · have h3 : usesN q (erT t) = 0 := by simp at hb3; omega
      refine zM ?_
      refine cInv ⟨b.length - (j + 1), j + 1, id, by omega, ⟨by omega, ?_, rfl⟩, LessR.of rfl (by (repeat' first | exact FrSub.nil | refine zfc ?_ | refine zfo ?_ | refine zfp ?_)) (by simp) (by repeat' first | exact LoSub.nil | refine zlc ?_ | refine zld ?_ ?_ | rfl) rfl rfl hou⟩
      rw [take_get hq, List.all_append, hno]
      simp [h3]
  · have hlt : j = b.length := by simp at hb2; omega
    subst hlt
    rw [List.take_length] at hno
    refine zA ?_
    exact AFn.fin' rfl (WkF.ofEq (by rw [hno])) (by simp) hou ⟨rfl, rfl⟩
end Go.Proofs.YtgdionbeeodaaaaDoor
namespace Go.Proofs.YtgdionbeeodaaaaDoor
open Go Go.Abs Go.CoreX
set_option maxRecDepth 10000
variable {Γ : List (Nat × List AC)}
abbrev nilP : FV := .one (.lit (.pointer none))
def ResD (ou : Outer) (t : LTr) (x : Option Tr) (r : FV) (ou' : Outer) : Prop := match x with
  | none => r = nilP ∧ OuOk ou' ∧ ∀ j o, ou j = some o → ou' j = some o
  | some X => ∃ u : LTr, r = .one (.ptr (.o u.id) 0) ∧ erT u = X ∧ Der ou ou' (tailO t) u
theorem ResD.no {ou : Outer} {t : LTr} {r : FV} (hr : r = nilP) (hou : OuOk ou) : ResD ou t none r ou := ⟨hr, hou, fun _ _ h => h⟩
theorem tail_kid2 {t s q : LTr} (h : s ∈ t.kids) (hq : q ∈ s.kids) {p : Nat × AObj} (hp : p ∈ objs q) : p ∈ tailO t := tail_kid h ((objs_mem s p).2 (.inr (objs_kid hq hp)))
theorem LendFs.t1 {σ : St} {t : LTr} (h : Owns σ.ou (objs t)) : LendFs σ [.one (.ptr (.o t.id) 0)] [.one (.box (cTr (erT t)))] := .cons (LendF.tree h) .nil
theorem field_ok (hΓ : ∀ g cs, (g, cs) ∈ Γ → idsL isO cs) (i : Nat) (o n : Int) (b : List Int) (row : LTr) (rs : List LTr) (a : List LAlt) (hpl : plainL row) (hok : okT (erT (.mk i o n none b (row :: rs) a))) (hsh : allT shpL (erT (.mk i o n none b (row :: rs) a))) (ou : Outer) (ho : Owns ou (objs (.mk i o n none b (row :: rs) a))) :
    AFn Tryd.prog Γ 84 [.one (.ptr (.o i) 0)] ou (ResD ou (.mk i o n none b (row :: rs) a) (fieldT (erT (.mk i o n none b (row :: rs) a)))) := by
  have hi : ou i = some (.cells (lC (.mk i o n none b (row :: rs) a))) := owns_node ho
  simp only [lC, bC] at hi
  have hrm : row ∈ (LTr.mk i o n none b (row :: rs) a).kids := by simp [LTr.kids]
  have hro := owns_kid ho hrm
  have hrk := okT_kid hok (er_kid hrm)
  have hrs := allT_kid hsh (er_kid hrm)
  have hval := valued_ok hΓ (erT row) hrk hrs
  have hf : fieldT (erT (.mk i o n none b (row :: rs) a)) = if (erT row).op ≠ 9 ∨ valT (erT row) = false then none else fieldL n (erT row).binds (erT row).kids := rfl
  rw [hf]
  cases row with
  | mk j op2 n2 nb2 b2 ks2 a2 =>
  obtain rfl : nb2 = none := hpl.1
  have hj : ou j = some (.cells (lC (.mk j op2 n2 none b2 ks2 a2))) := owns_node hro
  simp only [lC, bC] at hj
  refine AFn.walk 46 tabOk Tryd.func84 rfl (by kernel_rfl) rfl rfl fun hou => ?_
  repeat' first | refine zN ?_ | ((with_reducible refine oj ?_); first | refine zix ?_ | refine zow rfl rfl hi ?_ | refine zow rfl rfl hj ?_)
  have hsl := fun h9 => shp_row (o := op2) (n := n2) (b := b2) (k := erTs ks2) (a := a2.map LAlt.er) hrs h9
  have hb2l : b2.length ≤ 1048576 := hrk.1
  obtain ⟨X, hX⟩ : ∃ X, X = fieldL n (erT (.mk j op2 n2 none b2 ks2 a2)).binds (erT (.mk j op2 n2 none b2 ks2 a2)).kids := ⟨_, rfl⟩
  rw [← hX]
  have hX' : X = fieldL n b2 (erTs ks2) := hX
  have hop : (erT (.mk j op2 n2 none b2 ks2 a2)).op = op2 := rfl
  rw [hop]
  refine AOps.splitS rfl rfl rfl rfl (fun hb1 => ?_) (fun hb1 => ?_)
  · have h9 : op2 ≠ 9 := by simpa using hb1
    repeat' first | refine zN ?_ | ((with_reducible refine oj ?_); first | refine zix ?_ | refine zow rfl rfl hi ?_ | refine zow rfl rfl hj ?_)
    exact AFn.fin' rfl (WkF.refl _) (by simp) hou (by rw [if_pos (.inl h9)]; exact ResD.no rfl hou)
  have h9 : op2 = 9 := by simpa using hb1
  have hsl := hsl h9
  rw [erTs_eq, List.length_map] at hsl
  repeat' first | refine zN ?_ | ((with_reducible refine oj ?_); first | refine zix ?_ | refine zow rfl rfl hi ?_ | refine zow rfl rfl hj ?_)
  refine AOps.callS hΓ hval (Plain.lit _) rfl rfl rfl rfl rfl rfl (LendFs.t1 hro) ?_
  repeat' first | refine zN ?_ | ((with_reducible refine oj ?_); first | refine zix ?_ | refine zow rfl rfl hi ?_ | refine zow rfl rfl hj ?_)
  refine ACode.condS rfl (fun hv => ?_) (fun hv => ?_)
  · have hv' : valT (erT (.mk j op2 n2 none b2 ks2 a2)) = false := by simpa using hv
    refine zA ?_
    exact AFn.fin' rfl (WkF.refl _) (by simp) hou (by rw [if_pos (.inr hv')]; exact ResD.no rfl hou)
  have hv' : valT (erT (.mk j op2 n2 none b2 ks2 a2)) = true := by simpa using hv
  rw [if_neg (by rw [hv']; simp [h9])]
  repeat' first | refine zN ?_ | ((with_reducible refine oj ?_); first | refine zix ?_ | refine zow rfl rfl hi ?_ | refine zow rfl rfl hj ?_)
  refine ACode.loopR hΓ (α := Nat) (fun q => [(27, .one (int q)), (26, .one (int (b2.map cI).length)), (25, .one (.sl 1 (b2.map cI))), (3, .one (.ptr (.o j) 0)), (0, .one (.ptr (.o i) 0))])
    (fun q => ⟨0, [], ou⟩) (fun m q => q ≤ b2.length ∧ X = fieldL n (b2.drop q) ((erTs ks2).drop q) ∧ m = b2.length - q) (a0 := 0) (ρ := id) ⟨by omega, hX', rfl⟩ (LessR.of rfl (by (repeat' first | exact FrSub.nil | refine zfc ?_ | refine zfo ?_ | refine zfp ?_)) (by simp) (by repeat' first | exact LoSub.nil | refine zlc ?_ | refine zld ?_ ?_ | rfl) rfl rfl hou) fun m q hq => ?_
  obtain ⟨hql, hXq, rfl⟩ := hq
  refine zA ?_
  refine ACode.cond rfl (fun hb2 => ?_) (fun hb2 => ?_)
  · have hlt : q < b2.length := by simpa using hb2
    obtain ⟨v, hv3⟩ := get_of_lt hlt
    obtain ⟨s, hs⟩ := get_of_lt (l := ks2) (i := q) (by omega)
    obtain ⟨h1, h2⟩ := List.getElem?_eq_some_iff.1 hv3
    have hs2 : (erTs ks2)[q]? = some (erT s) := by rw [erTs_eq]; simp [hs]
    obtain ⟨h3, h4⟩ := List.getElem?_eq_some_iff.1 hs2
    rw [List.drop_eq_getElem_cons h1, List.drop_eq_getElem_cons h3, h2, h4] at hXq
    simp only [fieldL] at hXq
    refine zA ?_
    refine AOps.step1 rfl rfl rfl (AStep.indexAddr tabOk rfl rfl rfl rfl rfl rfl (.inl rfl) rfl (by omega) (map_get hv3)) ?_
    repeat' first | refine zN ?_ | ((with_reducible refine oj ?_); first | refine zix ?_ | refine zow rfl rfl hi ?_ | refine zow rfl rfl hj ?_)
    refine ACode.cond rfl (fun hb3 => ?_) (fun hb3 => ?_)
    · have he : v = n := by simpa using hb3
      rw [if_pos he] at hXq
      repeat' first | refine zN ?_ | ((with_reducible refine oj ?_); first | refine zix ?_ | refine zow rfl rfl hi ?_ | refine zow rfl rfl hj ?_)
      refine AOps.step1 rfl rfl rfl (AStep.indexAddr tabOk rfl rfl rfl rfl rfl rfl (.inl rfl) rfl (by omega) (by simpa using kC_get hs)) ?_
      refine zA ?_
      refine AFn.fin' rfl (WkF.refl _) (by simp) hou ?_
      rw [hXq]
      exact ⟨s, rfl, rfl, Der.refl (fun p hp => tail_kid2 hrm (by simpa [LTr.kids] using List.mem_of_getElem? hs) hp) hou⟩
    · have he : ¬ v = n := by simpa using hb3
      rw [if_neg he] at hXq
      refine zM ?_
      exact cInv ⟨b2.length - (q + 1), q + 1, id, by omega, ⟨by omega, hXq, rfl⟩, LessR.of rfl (by (repeat' first | exact FrSub.nil | refine zfc ?_ | refine zfo ?_ | refine zfp ?_)) (by simp) (by repeat' first | exact LoSub.nil | refine zlc ?_ | refine zld ?_ ?_ | rfl) rfl rfl hou⟩
  · have hlt : q = b2.length := by simp at hb2; omega
    subst hlt
    refine zA ?_
    refine AFn.fin' rfl (WkF.refl _) (by simp) hou ?_
    rw [hXq, List.drop_length]
    exact ResD.no rfl hou
end Go.Proofs.YtgdionbeeodaaaaDoor
namespace Go.Proofs.YtgdionbeeodaaaaDoor
open Go Go.Abs Go.CoreX
set_option maxRecDepth 10000
variable {Γ : List (Nat × List AC)}
theorem chosenL_cons {con : Tr} {n2 : Int} {K : List Tr} (h1 : con.n = n2) (h2 : con.kids = K) (tag : Int) (xb : List Int) (l : List Alt) (k : Tr) (ks : List Tr) :
    chosenL con (⟨tag, xb⟩ :: l) (k :: ks) = if tag = n2 then (if xb.length ≠ K.length then none else some (letsT xb K k)) else if tag = -1 ∧ valT con = true then some k else chosenL con l ks := by
  subst h1; subst h2; rfl
set_option maxHeartbeats 1000000 in
theorem chosen_ok (hΓ : ∀ g cs, (g, cs) ∈ Γ → idsL isO cs) (i : Nat) (o n : Int) (b : List Int) (con : LTr) (rs : List LTr) (a : List LAlt) (hpl : plainL con) (hpa : ∀ x ∈ a, x.nb = none) (hlen : rs.length = a.length) (hok : okT (erT (.mk i o n none b (con :: rs) a))) (hsh : allT shpL (erT (.mk i o n none b (con :: rs) a))) (ou : Outer) (ho : Owns ou (objs (.mk i o n none b (con :: rs) a))) :
    AFn Tryd.prog Γ 82 [.one (.ptr (.o i) 0)] ou (ResD ou (.mk i o n none b (con :: rs) a) (chosenT (erT (.mk i o n none b (con :: rs) a)))) := by
  have hi : ou i = some (.cells (lC (.mk i o n none b (con :: rs) a))) := owns_node ho
  simp only [lC, bC] at hi
  have hrm : con ∈ (LTr.mk i o n none b (con :: rs) a).kids := by simp [LTr.kids]
  have hro := owns_kid ho hrm
  have hrk := okT_kid hok (er_kid hrm)
  have hval := valued_ok hΓ (erT con) hrk (allT_kid hsh (er_kid hrm))
  have hal : a.length ≤ 1048576 := by have := hok.2.2.1; simpa using this
  have hf : chosenT (erT (.mk i o n none b (con :: rs) a)) = chosenL (erT con) (a.map LAlt.er) (erTs rs) := rfl
  obtain ⟨X, hX⟩ : ∃ X, X = chosenT (erT (.mk i o n none b (con :: rs) a)) := ⟨_, rfl⟩
  rw [← hX]
  rw [hf] at hX
  obtain ⟨t, hte⟩ : ∃ t, t = LTr.mk i o n none b (con :: rs) a := ⟨_, rfl⟩
  rw [← hte] at hrm ⊢
  have htail : ∀ (s : LTr), s ∈ con :: rs → ∀ p ∈ objs s, p ∈ tailO t := fun s hs p hp => tail_kid (by rw [hte]; exact hs) hp
  cases con with
  | mk j oo2 n2 nb2 b2 ks2 a2 =>
  obtain rfl : nb2 = none := hpl.1
  have hj : ou j = some (.cells (lC (.mk j oo2 n2 none b2 ks2 a2))) := owns_node hro
  simp only [lC, bC] at hj
  have hkl2 : ks2.length ≤ 1048576 := by have := hrk.2.1; simpa [erTs_eq] using this
  refine AFn.walk 81 tabOk Tryd.func82 rfl (by kernel_rfl) rfl rfl fun hou => ?_
  repeat' first | refine zN ?_ | ((with_reducible refine oj ?_); first | refine zix ?_ | refine zow rfl rfl hi ?_ | refine zow rfl rfl hj ?_)
  refine ACode.loopR hΓ (α := Nat) (fun q => [(17, .one (int q)), (16, .one (int (a.map lAlt).length)), (15, .one (.sl 2 (a.map lAlt))), (3, .one (.ptr (.o j) 0)), (0, .one (.ptr (.o i) 0))])
    (fun q => ⟨0, [], ou⟩) (fun m q => q ≤ a.length ∧ X = chosenL (erT (.mk j oo2 n2 none b2 ks2 a2)) ((a.drop q).map LAlt.er) (erTs (rs.drop q)) ∧ m = a.length - q) (a0 := 0) (ρ := id) ⟨by omega, hX, rfl⟩ (LessR.of rfl ?_ (by simp) (by repeat' first | exact LoSub.nil | refine zlc ?_ | refine zld ?_ ?_ | rfl) rfl rfl hou) fun m q hq => ?_
  · refine FrSub.cons rfl (.ofEq rfl) (FrSub.cons rfl (.ofEq rfl) (FrSub.consP rfl (.ofEq rfl) (by simp) (FrSub.cons rfl (.ofEq rfl) (FrSub.cons rfl (.ofEq rfl) .nil))))
  obtain ⟨hql, hXq, rfl⟩ := hq
  clear hX
  refine zA ?_
  refine ACode.cond rfl (fun hb2 => ?_) (fun hb2 => ?_)
  · have hlt : q < a.length := by simpa using hb2
    obtain ⟨x, hx⟩ := get_of_lt hlt
    obtain ⟨s, hs⟩ := get_of_lt (l := rs) (i := q) (by omega)
    obtain ⟨h1, h2⟩ := List.getElem?_eq_some_iff.1 hx
    obtain ⟨h3, h4⟩ := List.getElem?_eq_some_iff.1 hs
    have hxn := hpa x (List.mem_of_getElem? hx)
    have hxb : x.binds.length ≤ 1048576 := hok.2.2.2.1.1 x.er (List.mem_map_of_mem (List.mem_of_getElem? hx))
    rw [List.drop_eq_getElem_cons h1, List.drop_eq_getElem_cons h3, h2, h4] at hXq
    rw [List.map_cons, erTs] at hXq
    have hsx : (con_rs : List LTr) → con_rs = .mk j oo2 n2 none b2 ks2 a2 :: rs → (kC con_rs)[((1 : Int) + (q : Int)).toNat]? = some [.ptr (.o s.id) 0] := fun l hl => by
      subst hl
      rw [show ((1 : Int) + (q : Int)).toNat = q + 1 by omega]
      exact kC_get (by simpa using hs)
    obtain ⟨tag, nbx, xb⟩ := x
    obtain rfl : nbx = none := hxn
    rw [show LAlt.er ⟨tag, none, xb⟩ = ⟨tag, xb⟩ from rfl, chosenL_cons (con := erT (.mk j oo2 n2 none b2 ks2 a2)) (n2 := n2) (K := ks2.map erT) rfl (by rw [er_kids]; rfl)] at hXq
    refine zA ?_
    refine AOps.step1 rfl rfl rfl (AStep.indexAddr tabOk rfl rfl rfl rfl rfl rfl (.inl rfl) rfl (by omega) (map_get hx)) ?_
    refine zA ?_
    by_cases ht : tag = n2
    · refine ACode.drawX tabOk 18 [(5, .one (int n2)), (6, .one (.lit (.bool true))), (14, .one (.sl 1 (kC ks2)))] follows (by kernel_rfl) rfl rfl rfl rfl ?_ ?_
      · refine .step rfl (HStep.plain rfl (AStep.loadOwn tabOk rfl rfl rfl rfl rfl hj rfl)) ?_
        refine .step rfl (HStep.litB tabOk rfl (by simp [ht])) ?_
        exact .step rfl (HStep.guarded rfl rfl rfl (AStep.loadOwn tabOk rfl rfl rfl rfl rfl hj rfl)) .nil
      refine zA ?_
      rw [if_pos ht] at hXq
      have hne : ((xb.map cI).length : Int) = (xb.length : Int) := by simp
      have hne2 : ((kC ks2).length : Int) = (ks2.length : Int) := by simp [kC_len]
      rw [List.length_map] at hXq
      refine ACode.condS rfl (fun hb3 => ?_) (fun hb3 => ?_)
      · have hl : xb.length ≠ ks2.length := by simp [kC_len] at hb3; omega
        rw [if_pos hl] at hXq
        refine zA ?_
        exact AFn.fin' rfl (WkF.refl _) (by simp) hou (by rw [hXq]; exact ResD.no rfl hou)
      have hl : xb.length = ks2.length := by simp [kC_len] at hb3; omega
      rw [if_neg (by omega)] at hXq
      refine zA ?_
      refine ACode.drawX tabOk 7 [(5, .one (int n2)), (6, .one (.lit (.bool true)))] follows (by kernel_rfl) rfl rfl rfl rfl ?_ ?_
      · refine .step rfl (HStep.plain rfl (AStep.loadOwn tabOk rfl rfl rfl rfl rfl hj rfl)) ?_
        exact .step rfl (HStep.litB tabOk rfl (by simp [ht])) .nil
      refine zA ?_
      refine ACode.drawC tabOk 15 [14] [(5, .one (.sl 1 (kC ks2))), (9, .one (.sl 1 (kC (.mk j oo2 n2 none b2 ks2 a2 :: rs)))), (11, .one (int ((1 : Int) + (q : Int)))), (12, .one (.box [.ptr (.o s.id) 0]))] (fun vs σ => match vs with
          | [] => σ = ⟨1, [(0, .cells [int tag, bC none xb]), (0, .cells (ti89.zero.map .lit))], ou⟩
          | [r] => ∃ (u : LTr) (ow : Outer), r = .one (.ptr (.o u.id) 0) ∧ erT u = letsT xb (ks2.map erT) (erT s) ∧ Der ou ow (objss ks2 ++ objs s) u ∧ σ = ⟨1, [(0, .cells [int tag, bC none xb]), (0, .cells (ti89.zero.map .lit))], ow⟩
          | _ => False) follows (by kernel_rfl) rfl rfl (by decide) (by kernel_rfl) (by kernel_rfl) rfl rfl ?_ ?_ (by decide) ?_ ?_
      · rintro vs σ hG
        match vs, hG with
        | [], hG => subst hG; rfl
        | [r], hG => obtain ⟨u, ow, _, _, _, rfl⟩ := hG; rfl
      · rintro vs σ hG
        have hj' : σ.ou j = some (.cells [int oo2, int n2, .sl 1 (b2.map cI), .sl 1 (kC ks2), .sl 2 (a2.map lAlt)]) ∧ σ.ou i = some (.cells [int o, int n, .sl 1 (b.map cI), .sl 1 (kC (.mk j oo2 n2 none b2 ks2 a2 :: rs)), .sl 2 (a.map lAlt)]) := by
          match vs, hG with
          | [], hG => subst hG; exact ⟨hj, hi⟩
          | [r], hG => obtain ⟨u, ow, _, _, hD, rfl⟩ := hG; exact ⟨hD.old _ _ hj, hD.old _ _ hi⟩
        refine .step rfl (HStep.plain rfl (AStep.loadOwn tabOk rfl rfl rfl rfl rfl hj'.1 rfl)) ?_
        refine .step rfl (HStep.plain rfl (AStep.loadOwn tabOk rfl rfl rfl rfl rfl hj'.2 rfl)) ?_
        refine .step rfl (HStep.plain rfl (AStep.arith rfl rfl rfl (.inl ⟨rfl, rfl⟩) (inRange_i64 (by omega) (by omega)))) ?_
        exact .step rfl (HStep.plain rfl (AStep.indexAddr tabOk rfl rfl rfl rfl rfl rfl (.inl rfl) rfl (by omega) (hsx _ rfl))) .nil
      · rintro vs σ hG p oo hp1 hp2
        match vs, hG with
        | [], hG =>
          subst hG
          cases hp1
          cases hp2
          refine ⟨rfl, rfl, .inr ⟨rfl, AStepR.call hΓ rfl rfl rfl rfl (by exact ⟨by simp, by simp, trivial, trivial⟩) hou (lets_ok hΓ xb ks2 s hl hkl2 ou) fun r ow hq _ _ => ?_⟩⟩
          obtain ⟨u, rfl, he, hD⟩ := hq
          exact ⟨u, ow, rfl, he, hD, rfl⟩
        | [r], hG => cases hp1
      rintro vs σ hlen2 hG
      match vs, hlen2, hG with
      | [r], _, hG =>
      obtain ⟨u, ow, rfl, he, hD, rfl⟩ := hG
      refine zM ?_
      refine AFn.fin' rfl (WkF.refl _) (by simp) hD.ok ?_
      rw [hXq]
      refine ⟨u, rfl, ?_, hD.mono fun p hp => ?_⟩
      · exact he
      · rcases List.mem_append.1 hp with hp | hp
        · rw [objss_eq] at hp
          obtain ⟨s2, hs2, hp2⟩ := List.mem_flatMap.1 hp
          exact tail_kid2 hrm hs2 hp2
        · exact htail s (by simp [List.mem_of_getElem? hs]) p hp
    · refine ACode.drawX tabOk 18 [(5, .one (int n2)), (6, .one (.lit (.bool false)))] follows (by kernel_rfl) rfl rfl rfl rfl ?_ ?_
      · refine .step rfl (HStep.plain rfl (AStep.loadOwn tabOk rfl rfl rfl rfl rfl hj rfl)) ?_
        exact .step rfl (HStep.litB tabOk rfl (by simp [ht])) .nil
      rw [if_neg ht] at hXq
      refine zA ?_
      refine ACode.drawX tabOk 7 [(5, .one (int n2)), (6, .one (.lit (.bool false)))] follows (by kernel_rfl) rfl rfl rfl rfl ?_ ?_
      · refine .step rfl (HStep.plain rfl (AStep.loadOwn tabOk rfl rfl rfl rfl rfl hj rfl)) ?_
        exact .step rfl (HStep.litB tabOk rfl (by simp [ht])) .nil
      refine zA ?_
      refine AOps.splitS rfl rfl rfl rfl (fun hb3 => ?_) (fun hb3 => ?_)
      · have ht1 : tag = -1 := by simpa using hb3
        refine zM ?_
        refine AOps.callS hΓ hval (Plain.lit _) rfl rfl rfl rfl rfl rfl (LendFs.t1 (t := .mk j oo2 n2 none b2 ks2 a2) hro) ?_
        refine zA ?_
        refine ACode.condS rfl (fun hv => ?_) (fun hv => ?_)
        · have hv' : valT (erT (.mk j oo2 n2 none b2 ks2 a2)) = true := hv
          rw [if_pos ⟨ht1, hv'⟩] at hXq
          repeat' first | refine zN ?_ | ((with_reducible refine oj ?_); first | refine zix ?_ | refine zow rfl rfl hi ?_)
          refine AOps.step1 rfl rfl rfl (AStep.indexAddr tabOk rfl rfl rfl rfl rfl rfl (.inl rfl) rfl (by omega) (hsx _ rfl)) ?_
          refine zA ?_
          refine AFn.fin' rfl (WkF.refl _) (by simp) hou ?_
          rw [hXq]
          exact ⟨s, rfl, rfl, Der.refl (htail s (by simp [List.mem_of_getElem? hs])) hou⟩
        · have hv' : valT (erT (.mk j oo2 n2 none b2 ks2 a2)) = false := hv
          rw [if_neg (by rw [hv']; simp)] at hXq
          refine zM ?_
          exact cInv ⟨a.length - (q + 1), q + 1, id, by omega, ⟨by omega, hXq, rfl⟩, LessR.of rfl (by (repeat' first | exact FrSub.nil | refine zfc ?_ | refine zfo ?_ | refine zfp ?_)) (by simp) .nil rfl rfl hou⟩
      · have ht1 : tag ≠ -1 := by simpa using hb3
        rw [if_neg (fun h => ht1 h.1)] at hXq
        refine zM ?_
        exact cInv ⟨a.length - (q + 1), q + 1, id, by omega, ⟨by omega, hXq, rfl⟩, LessR.of rfl (by (repeat' first | exact FrSub.nil | refine zfc ?_ | refine zfo ?_ | refine zfp ?_)) (by simp) .nil rfl rfl hou⟩
  · have hlt : q = a.length := by simp at hb2; omega
    subst hlt
    refine zA ?_
    refine AFn.fin' rfl (WkF.refl _) (by simp) hou ?_
    rw [hXq, List.drop_length]
    exact ResD.no rfl hou
end Go.Proofs.YtgdionbeeodaaaaDoor
namespace Go.Abs
def adI (a b : Int) : Int := bI (BitVec.ofInt 64 a &&& BitVec.ofInt 64 b)
theorem AStep.and {E : Env} {o : Oper} {fr : Fr} {σ : St} {t yt : TypeId} {x y : Operand} {a b : Int} (ho : o.op = .binOp .and t x y yt) (hx : aEval E.Γ fr x = some (.one (.lit (.int .i64 a)))) (hy : aEval E.Γ fr y = some (.one (.lit (.int .i64 b)))) : AStep E o fr σ (.one (.lit (.int .i64 (adI a b)))) σ := by
  refine AStep.quiet fun F w C tmps hi hf => ⟨.int .i64 (adI a b), ?_, rfl, rfl⟩
  have h1 := aEval_ok (a := ⟨tmps, []⟩) hi hf hx
  have h2 := aEval_ok (a := ⟨tmps, []⟩) hi hf hy
  simp only [RF, R] at h1 h2
  unfold execOp
  simp only [ho, h1.1, h2.1, eqGuard_at_int, Sem.run_bind, Sem.run_pure, Result.andThen_ok]
  rfl
theorem adI_mask (a : Int) : adI a 2147483647 = a % 2147483648 := by
  have h1 : (BitVec.ofInt 64 a &&& BitVec.ofInt 64 2147483647).toNat = (a % 2147483648).toNat := by
    rw [BitVec.toNat_and, show (BitVec.ofInt 64 2147483647).toNat = 2 ^ 31 - 1 by decide, Nat.and_two_pow_sub_one_eq_mod]
    rw [BitVec.toNat_ofInt]
    have h2 : a % 2147483648 = a % 18446744073709551616 % 2147483648 := (Int.emod_emod_of_dvd a (by decide)).symm
    rw [h2]
    have h3 : 0 ≤ a % 18446744073709551616 := Int.emod_nonneg _ (by decide)
    rw [show ((2 ^ 64 : Nat) : Int) = 18446744073709551616 by decide]
    omega
  unfold adI bI
  rw [h1]
  have h4 : 0 ≤ a % 2147483648 := Int.emod_nonneg _ (by decide)
  have h5 : a % 2147483648 < 2147483648 := Int.emod_lt_of_pos _ (by decide)
  simp [IntKind.wrap, IntKind.signed, IntKind.bits, Int.bmod]
  omega
theorem AOps.atDst {E : Env} {ops : Array Oper} {l : List Oper} {o : Oper} {K : Cont} {fr : Fr} {σ : St} (d : Nat) (h : o.dst = some d) (k : AOps E ops (o :: l) K fr σ) : AOps E ops (o :: l) K fr σ := k
end Go.Abs
namespace Go.Proofs.YtgdionbeeodaaaaDoor
open Go Go.Abs Go.CoreX
set_option maxRecDepth 10000
variable {Γ : List (Nat × List AC)}
theorem wrap_ok (n : Int) (h0 : -4611686018427387904 ≤ n) (h1 : n ≤ 4611686018427387904) : APure Tryd.prog Γ 113 [.one (int n)] (.one (int (wrapI n))) := by
  intro ou
  refine AFn.walk 7 tabOk Tryd.func113 rfl (by kernel_rfl) rfl rfl fun hou => ?_
  refine zM ?_
  refine AOps.step1 rfl rfl rfl (AStep.and rfl rfl rfl) ?_
  rw [adI_mask]
  have h4 : 0 ≤ (n - (-1073741824)) % 2147483648 := Int.emod_nonneg _ (by decide)
  have h5 : (n - (-1073741824)) % 2147483648 < 2147483648 := Int.emod_lt_of_pos _ (by decide)
  refine zM ?_
  refine APure.fin rfl (WkF.ofEq ?_) (by simp) hou rfl
  unfold wrapI
  congr 3
theorem mul_bound {a b : Int} (ha : -1073741824 ≤ a ∧ a ≤ 1073741823) (hb : -1073741824 ≤ b ∧ b ≤ 1073741823) : -1152921504606846976 ≤ a * b ∧ a * b ≤ 1152921504606846976 := by
  have h1 : (a * b).natAbs ≤ 1073741824 * 1073741824 := by
    rw [Int.natAbs_mul]
    exact Nat.mul_le_mul (by omega) (by omega)
  omega
theorem tdiv_bound {a : Int} (b : Int) (ha : -1073741824 ≤ a ∧ a ≤ 1073741823) : -1073741824 ≤ a.tdiv b ∧ a.tdiv b ≤ 1073741824 := by
  have h1 : (a.tdiv b).natAbs ≤ a.natAbs := by
    rw [Int.natAbs_tdiv]; exact Nat.div_le_self _ _
  omega
theorem tmod_bound {a : Int} (b : Int) (ha : -1073741824 ≤ a ∧ a ≤ 1073741823) : -1073741824 ≤ a.tmod b ∧ a.tmod b ≤ 1073741824 := by
  have h1 : (a.tmod b).natAbs ≤ a.natAbs := by
    rw [Int.natAbs_tmod]; exact Nat.mod_le _ _
  omega
set_option maxHeartbeats 2000000 in
theorem arith_ok (hΓ : ∀ g cs, (g, cs) ∈ Γ → idsL isO cs) (i : Nat) (o n : Int) (b : List Int) (x y : LTr) (a : List LAlt) (hrx : (erT x).op = 1 → -1073741824 ≤ (erT x).n ∧ (erT x).n ≤ 1073741823) (hry : (erT y).op = 1 → -1073741824 ≤ (erT y).n ∧ (erT y).n ≤ 1073741823) (ou : Outer) (ho : Owns ou (objs (.mk i o n none b [x, y] a))) :
    AFn Tryd.prog Γ 83 [.one (.ptr (.o i) 0)] ou (ResD ou (.mk i o n none b [x, y] a) (arithT (erT (.mk i o n none b [x, y] a)))) := by
  have hi : ou i = some (.cells (lC (.mk i o n none b [x, y] a))) := owns_node ho
  simp only [lC, bC] at hi
  have hxo := owns_kid ho (s := x) (by simp [LTr.kids])
  have hyo := owns_kid ho (s := y) (by simp [LTr.kids])
  cases x with
  | mk jx ox nx nbx bx kx ax =>
  cases y with
  | mk jy oy ny nby by' ky ay =>
  have hx : ou jx = some (.cells (lC (.mk jx ox nx nbx bx kx ax))) := owns_node hxo
  have hy : ou jy = some (.cells (lC (.mk jy oy ny nby by' ky ay))) := owns_node hyo
  simp only [lC] at hx hy
  obtain ⟨X, hX⟩ : ∃ X, X = arithT (erT (.mk i o n none b [.mk jx ox nx nbx bx kx ax, .mk jy oy ny nby by' ky ay] a)) := ⟨_, rfl⟩
  rw [← hX]
  have hA : X = if n > 6 ∨ ox ≠ 1 ∨ oy ≠ 1 then none
    else if n = 0 then some (wordT (wrapI (nx + ny)))
    else if n = 1 then some (wordT (wrapI (nx - ny)))
    else if n = 2 then some (wordT (wrapI (nx * ny)))
    else if n = 3 then (if ny = 0 then none else some (wordT (wrapI (nx.tdiv ny))))
    else if n = 4 then (if ny = 0 then none else some (wordT (wrapI (nx.tmod ny))))
    else if n = 6 then some (flagT (nx == ny))
    else if n = 5 then some (flagT (decide (nx < ny)))
    else some (wordT (wrapI 0)) := hX
  clear hX
  generalize hT : LTr.mk i o n none b [.mk jx ox nx nbx bx kx ax, .mk jy oy ny nby by' ky ay] a = t
  refine AFn.walk 114 tabOk Tryd.func83 rfl (by kernel_rfl) rfl rfl fun hou => ?_
  by_cases hbad : n > 6 ∨ ox ≠ 1 ∨ oy ≠ 1
  · rw [if_pos hbad] at hA
    repeat' first | refine zN ?_ | ((with_reducible refine oj ?_); first | refine zix ?_ | refine zow rfl rfl hi ?_ | refine zow rfl rfl hx ?_ | refine zow rfl rfl hy ?_) | (with_reducible refine oj ?_; refine AOps.splitS rfl rfl rfl rfl (fun hb => ?_) (fun hb => ?_)) | (with_reducible refine ok ?_; first | refine ACode.condS rfl (fun hb => ?_) (fun hb => ?_) | refine ACode.cond rfl (fun hb => ?_) (fun hb => ?_))
    all_goals first
      | (exfalso; simp at *; omega)
      | skip
    all_goals exact AFn.fin' rfl (WkF.refl _) (by simp) hou (by rw [hA]; exact ResD.no rfl hou)
  rw [if_neg hbad] at hA
  obtain ⟨hn6, rfl, rfl⟩ : n ≤ 6 ∧ ox = 1 ∧ oy = 1 := by omega
  have hrx := hrx rfl
  have hry := hry rfl
  simp only [erT, Tr.n_mk] at hrx hry
  rcases (by omega : n = 0 ∨ n = 1 ∨ n = 2 ∨ n = 3 ∨ n = 4 ∨ n = 5 ∨ n = 6 ∨ n < 0) with rfl | rfl | rfl | rfl | rfl | rfl | rfl | hneg
  · repeat' first | refine zN ?_ | ((with_reducible refine oj ?_); first | refine zix ?_ | refine zow rfl rfl hi ?_ | refine zow rfl rfl hx ?_ | refine zow rfl rfl hy ?_)
    refine ACode.drawX tabOk 19 [(3, .one (.sl 1 (kC [.mk jx 1 nx nbx bx kx ax, .mk jy 1 ny nby by' ky ay]))), (4, .one (.box [.ptr (.o jx) 0])), (8, .one (int nx)), (12, .one (.sl 1 (kC [.mk jx 1 nx nbx bx kx ax, .mk jy 1 ny nby by' ky ay]))), (13, .one (.box [.ptr (.o jy) 0])), (17, .one (int ny))] follows (by kernel_rfl) rfl rfl rfl rfl ?_ ?_
    · refine .step rfl (HStep.plain rfl (AStep.loadOwn tabOk rfl rfl rfl rfl rfl hi rfl)) ?_
      refine .step rfl (HStep.plain rfl (AStep.indexAddr tabOk rfl rfl rfl rfl rfl rfl (.inl rfl) rfl (by decide) rfl)) ?_
      refine .step rfl (HStep.plain rfl (AStep.loadOwn tabOk rfl rfl rfl rfl rfl hx rfl)) ?_
      refine .step rfl (HStep.plain rfl (AStep.loadOwn tabOk rfl rfl rfl rfl rfl hi rfl)) ?_
      refine .step rfl (HStep.plain rfl (AStep.indexAddr tabOk rfl rfl rfl rfl rfl rfl (.inl rfl) rfl (by decide) rfl)) ?_
      exact .step rfl (HStep.plain rfl (AStep.loadOwn tabOk rfl rfl rfl rfl rfl hy rfl)) .nil
    repeat ((fail_if_success ((with_reducible refine oj ?_); refine AOps.atDst 104 rfl ?_)); first | refine zO ?_ | ((with_reducible refine oj ?_); first | refine zix ?_ | refine zow rfl rfl hi ?_ | refine zow rfl rfl hx ?_ | refine zow rfl rfl hy ?_))
    refine zca hΓ (wrap_ok (nx + ny) (by omega) (by omega)) hou ?_
    repeat ((fail_if_success ((with_reducible refine oj ?_); refine AOps.atDst 2 rfl ?_)); first | refine zO ?_)
    refine AOps.wkObj (.l 0) rfl (cs' := lC (.mk 0 1 (wrapI (nx + ny)) none [] [] [])) (fun w C xs h => ?_) ?_
    · exact (show WkL _ _ from .cons (.refl _) (.cons (.refl _) (.cons (.nilS 1) (.cons (.nilS 1) (.cons (.nilS 2) .nil))))) w C xs h
    refine AOps.cedes [0] rfl (by decide) hou fun k hk => ⟨[(106, .one (.ptr (.o k) 0))], [], [.cells (lC (.mk k 1 (wrapI (nx + ny)) none [] [] []))], .cons rfl rfl .nil, .nil, ?_, ?_⟩
    · exact .cons rfl rfl .nil
    have hN := NewO.add hk hou (show (AObj.cells (lC (.mk k 1 (wrapI (nx + ny)) none [] [] []))).ids isO by simp [lC, bC, kC])
    refine zA ?_
    refine AFn.fin' rfl (WkF.refl _) (by simp) hN.ok ?_
    rw [hA]
    exact ⟨.mk k 1 (wrapI (nx + ny)) none [] [] [], rfl, rfl, Der.node (u := .mk k 1 (wrapI (nx + ny)) none [] [] []) (fun _ _ h => h) hN (fun p hp => by simp [tailO, bO, aO, objss] at hp)⟩
  · repeat' first | refine zN ?_ | ((with_reducible refine oj ?_); first | refine zix ?_ | refine zow rfl rfl hi ?_ | refine zow rfl rfl hx ?_ | refine zow rfl rfl hy ?_)
    refine ACode.drawX tabOk 19 [(3, .one (.sl 1 (kC [.mk jx 1 nx nbx bx kx ax, .mk jy 1 ny nby by' ky ay]))), (4, .one (.box [.ptr (.o jx) 0])), (8, .one (int nx)), (12, .one (.sl 1 (kC [.mk jx 1 nx nbx bx kx ax, .mk jy 1 ny nby by' ky ay]))), (13, .one (.box [.ptr (.o jy) 0])), (17, .one (int ny))] follows (by kernel_rfl) rfl rfl rfl rfl ?_ ?_
    · refine .step rfl (HStep.plain rfl (AStep.loadOwn tabOk rfl rfl rfl rfl rfl hi rfl)) ?_
      refine .step rfl (HStep.plain rfl (AStep.indexAddr tabOk rfl rfl rfl rfl rfl rfl (.inl rfl) rfl (by decide) rfl)) ?_
      refine .step rfl (HStep.plain rfl (AStep.loadOwn tabOk rfl rfl rfl rfl rfl hx rfl)) ?_
      refine .step rfl (HStep.plain rfl (AStep.loadOwn tabOk rfl rfl rfl rfl rfl hi rfl)) ?_
      refine .step rfl (HStep.plain rfl (AStep.indexAddr tabOk rfl rfl rfl rfl rfl rfl (.inl rfl) rfl (by decide) rfl)) ?_
      exact .step rfl (HStep.plain rfl (AStep.loadOwn tabOk rfl rfl rfl rfl rfl hy rfl)) .nil
    repeat ((fail_if_success ((with_reducible refine oj ?_); refine AOps.atDst 104 rfl ?_)); first | refine zO ?_ | ((with_reducible refine oj ?_); first | refine zix ?_ | refine zow rfl rfl hi ?_ | refine zow rfl rfl hx ?_ | refine zow rfl rfl hy ?_))
    refine zca hΓ (wrap_ok (nx - ny) (by omega) (by omega)) hou ?_
    repeat ((fail_if_success ((with_reducible refine oj ?_); refine AOps.atDst 2 rfl ?_)); first | refine zO ?_)
    refine AOps.wkObj (.l 0) rfl (cs' := lC (.mk 0 1 (wrapI (nx - ny)) none [] [] [])) (fun w C xs h => ?_) ?_
    · exact (show WkL _ _ from .cons (.refl _) (.cons (.refl _) (.cons (.nilS 1) (.cons (.nilS 1) (.cons (.nilS 2) .nil))))) w C xs h
    refine AOps.cedes [0] rfl (by decide) hou fun k hk => ⟨[(106, .one (.ptr (.o k) 0))], [], [.cells (lC (.mk k 1 (wrapI (nx - ny)) none [] [] []))], .cons rfl rfl .nil, .nil, ?_, ?_⟩
    · exact .cons rfl rfl .nil
    have hN := NewO.add hk hou (show (AObj.cells (lC (.mk k 1 (wrapI (nx - ny)) none [] [] []))).ids isO by simp [lC, bC, kC])
    refine zA ?_
    refine AFn.fin' rfl (WkF.refl _) (by simp) hN.ok ?_
    rw [hA]
    exact ⟨.mk k 1 (wrapI (nx - ny)) none [] [] [], rfl, rfl, Der.node (u := .mk k 1 (wrapI (nx - ny)) none [] [] []) (fun _ _ h => h) hN (fun p hp => by simp [tailO, bO, aO, objss] at hp)⟩
  · repeat' first | refine zN ?_ | ((with_reducible refine oj ?_); first | refine zix ?_ | refine zow rfl rfl hi ?_ | refine zow rfl rfl hx ?_ | refine zow rfl rfl hy ?_)
    refine ACode.drawX tabOk 19 [(3, .one (.sl 1 (kC [.mk jx 1 nx nbx bx kx ax, .mk jy 1 ny nby by' ky ay]))), (4, .one (.box [.ptr (.o jx) 0])), (8, .one (int nx)), (12, .one (.sl 1 (kC [.mk jx 1 nx nbx bx kx ax, .mk jy 1 ny nby by' ky ay]))), (13, .one (.box [.ptr (.o jy) 0])), (17, .one (int ny))] follows (by kernel_rfl) rfl rfl rfl rfl ?_ ?_
    · refine .step rfl (HStep.plain rfl (AStep.loadOwn tabOk rfl rfl rfl rfl rfl hi rfl)) ?_
      refine .step rfl (HStep.plain rfl (AStep.indexAddr tabOk rfl rfl rfl rfl rfl rfl (.inl rfl) rfl (by decide) rfl)) ?_
      refine .step rfl (HStep.plain rfl (AStep.loadOwn tabOk rfl rfl rfl rfl rfl hx rfl)) ?_
      refine .step rfl (HStep.plain rfl (AStep.loadOwn tabOk rfl rfl rfl rfl rfl hi rfl)) ?_
      refine .step rfl (HStep.plain rfl (AStep.indexAddr tabOk rfl rfl rfl rfl rfl rfl (.inl rfl) rfl (by decide) rfl)) ?_
      exact .step rfl (HStep.plain rfl (AStep.loadOwn tabOk rfl rfl rfl rfl rfl hy rfl)) .nil
    have hm := mul_bound hrx hry
    repeat' first | refine zN ?_ | ((with_reducible refine oj ?_); first | refine zix ?_ | refine zow rfl rfl hi ?_ | refine zow rfl rfl hx ?_ | refine zow rfl rfl hy ?_)
    refine AOps.step1 rfl rfl rfl (AStep.arith (r := nx * ny) rfl rfl rfl (.inr (.inr ⟨rfl, rfl⟩)) (inRange_i64 (by omega) (by omega))) ?_
    repeat ((fail_if_success ((with_reducible refine oj ?_); refine AOps.atDst 104 rfl ?_)); first | refine zO ?_ | ((with_reducible refine oj ?_); first | refine zix ?_ | refine zow rfl rfl hi ?_ | refine zow rfl rfl hx ?_ | refine zow rfl rfl hy ?_))
    refine zca hΓ (wrap_ok (nx * ny) (by omega) (by omega)) hou ?_
    repeat ((fail_if_success ((with_reducible refine oj ?_); refine AOps.atDst 2 rfl ?_)); first | refine zO ?_)
    refine AOps.wkObj (.l 0) rfl (cs' := lC (.mk 0 1 (wrapI (nx * ny)) none [] [] [])) (fun w C xs h => ?_) ?_
    · exact (show WkL _ _ from .cons (.refl _) (.cons (.refl _) (.cons (.nilS 1) (.cons (.nilS 1) (.cons (.nilS 2) .nil))))) w C xs h
    refine AOps.cedes [0] rfl (by decide) hou fun k hk => ⟨[(106, .one (.ptr (.o k) 0))], [], [.cells (lC (.mk k 1 (wrapI (nx * ny)) none [] [] []))], .cons rfl rfl .nil, .nil, ?_, ?_⟩
    · exact .cons rfl rfl .nil
    have hN := NewO.add hk hou (show (AObj.cells (lC (.mk k 1 (wrapI (nx * ny)) none [] [] []))).ids isO by simp [lC, bC, kC])
    refine zA ?_
    refine AFn.fin' rfl (WkF.refl _) (by simp) hN.ok ?_
    rw [hA]
    exact ⟨.mk k 1 (wrapI (nx * ny)) none [] [] [], rfl, rfl, Der.node (u := .mk k 1 (wrapI (nx * ny)) none [] [] []) (fun _ _ h => h) hN (fun p hp => by simp [tailO, bO, aO, objss] at hp)⟩
  · repeat' first | refine zN ?_ | ((with_reducible refine oj ?_); first | refine zix ?_ | refine zow rfl rfl hi ?_ | refine zow rfl rfl hx ?_ | refine zow rfl rfl hy ?_)
    refine ACode.drawX tabOk 19 [(3, .one (.sl 1 (kC [.mk jx 1 nx nbx bx kx ax, .mk jy 1 ny nby by' ky ay]))), (4, .one (.box [.ptr (.o jx) 0])), (8, .one (int nx)), (12, .one (.sl 1 (kC [.mk jx 1 nx nbx bx kx ax, .mk jy 1 ny nby by' ky ay]))), (13, .one (.box [.ptr (.o jy) 0])), (17, .one (int ny))] follows (by kernel_rfl) rfl rfl rfl rfl ?_ ?_
    · refine .step rfl (HStep.plain rfl (AStep.loadOwn tabOk rfl rfl rfl rfl rfl hi rfl)) ?_
      refine .step rfl (HStep.plain rfl (AStep.indexAddr tabOk rfl rfl rfl rfl rfl rfl (.inl rfl) rfl (by decide) rfl)) ?_
      refine .step rfl (HStep.plain rfl (AStep.loadOwn tabOk rfl rfl rfl rfl rfl hx rfl)) ?_
      refine .step rfl (HStep.plain rfl (AStep.loadOwn tabOk rfl rfl rfl rfl rfl hi rfl)) ?_
      refine .step rfl (HStep.plain rfl (AStep.indexAddr tabOk rfl rfl rfl rfl rfl rfl (.inl rfl) rfl (by decide) rfl)) ?_
      exact .step rfl (HStep.plain rfl (AStep.loadOwn tabOk rfl rfl rfl rfl rfl hy rfl)) .nil
    repeat' first | refine zN ?_ | ((with_reducible refine oj ?_); first | refine zix ?_ | refine zow rfl rfl hi ?_ | refine zow rfl rfl hx ?_ | refine zow rfl rfl hy ?_)
    have hd := tdiv_bound ny hrx
    have hmo := tmod_bound ny hrx
    refine ACode.condS rfl (fun h0 => ?_) (fun h0 => ?_)
    · have h0' : ny = 0 := by simpa using h0
      refine zA ?_
      rw [if_neg (by decide), if_neg (by decide), if_neg (by decide), if_pos rfl, if_pos h0'] at hA
      exact AFn.fin' rfl (WkF.refl _) (by simp) hou (by rw [hA]; exact ResD.no rfl hou)
    have h0' : ny ≠ 0 := by simpa using h0
    rw [if_neg (by decide), if_neg (by decide), if_neg (by decide), if_pos rfl, if_neg h0'] at hA
    repeat' first | refine zN ?_ | ((with_reducible refine oj ?_); first | refine zix ?_ | refine zow rfl rfl hi ?_ | refine zow rfl rfl hx ?_ | refine zow rfl rfl hy ?_)
    refine AOps.step1 rfl rfl rfl (AStep.quo rfl rfl rfl h0' (inRange_i64 (by omega) (by omega))) ?_
    repeat ((fail_if_success ((with_reducible refine oj ?_); refine AOps.atDst 104 rfl ?_)); first | refine zO ?_ | ((with_reducible refine oj ?_); first | refine zix ?_ | refine zow rfl rfl hi ?_ | refine zow rfl rfl hx ?_ | refine zow rfl rfl hy ?_))
    refine zca hΓ (wrap_ok (nx.tdiv ny) (by omega) (by omega)) hou ?_
    repeat ((fail_if_success ((with_reducible refine oj ?_); refine AOps.atDst 2 rfl ?_)); first | refine zO ?_)
    refine AOps.wkObj (.l 0) rfl (cs' := lC (.mk 0 1 (wrapI (nx.tdiv ny)) none [] [] [])) (fun w C xs h => ?_) ?_
    · exact (show WkL _ _ from .cons (.refl _) (.cons (.refl _) (.cons (.nilS 1) (.cons (.nilS 1) (.cons (.nilS 2) .nil))))) w C xs h
    refine AOps.cedes [0] rfl (by decide) hou fun k hk => ⟨[(106, .one (.ptr (.o k) 0))], [], [.cells (lC (.mk k 1 (wrapI (nx.tdiv ny)) none [] [] []))], .cons rfl rfl .nil, .nil, ?_, ?_⟩
    · exact .cons rfl rfl .nil
    have hN := NewO.add hk hou (show (AObj.cells (lC (.mk k 1 (wrapI (nx.tdiv ny)) none [] [] []))).ids isO by simp [lC, bC, kC])
    refine zA ?_
    refine AFn.fin' rfl (WkF.refl _) (by simp) hN.ok ?_
    rw [hA]
    exact ⟨.mk k 1 (wrapI (nx.tdiv ny)) none [] [] [], rfl, rfl, Der.node (u := .mk k 1 (wrapI (nx.tdiv ny)) none [] [] []) (fun _ _ h => h) hN (fun p hp => by simp [tailO, bO, aO, objss] at hp)⟩
  · repeat' first | refine zN ?_ | ((with_reducible refine oj ?_); first | refine zix ?_ | refine zow rfl rfl hi ?_ | refine zow rfl rfl hx ?_ | refine zow rfl rfl hy ?_)
    refine ACode.drawX tabOk 19 [(3, .one (.sl 1 (kC [.mk jx 1 nx nbx bx kx ax, .mk jy 1 ny nby by' ky ay]))), (4, .one (.box [.ptr (.o jx) 0])), (8, .one (int nx)), (12, .one (.sl 1 (kC [.mk jx 1 nx nbx bx kx ax, .mk jy 1 ny nby by' ky ay]))), (13, .one (.box [.ptr (.o jy) 0])), (17, .one (int ny))] follows (by kernel_rfl) rfl rfl rfl rfl ?_ ?_
    · refine .step rfl (HStep.plain rfl (AStep.loadOwn tabOk rfl rfl rfl rfl rfl hi rfl)) ?_
      refine .step rfl (HStep.plain rfl (AStep.indexAddr tabOk rfl rfl rfl rfl rfl rfl (.inl rfl) rfl (by decide) rfl)) ?_
      refine .step rfl (HStep.plain rfl (AStep.loadOwn tabOk rfl rfl rfl rfl rfl hx rfl)) ?_
      refine .step rfl (HStep.plain rfl (AStep.loadOwn tabOk rfl rfl rfl rfl rfl hi rfl)) ?_
      refine .step rfl (HStep.plain rfl (AStep.indexAddr tabOk rfl rfl rfl rfl rfl rfl (.inl rfl) rfl (by decide) rfl)) ?_
      exact .step rfl (HStep.plain rfl (AStep.loadOwn tabOk rfl rfl rfl rfl rfl hy rfl)) .nil
    repeat' first | refine zN ?_ | ((with_reducible refine oj ?_); first | refine zix ?_ | refine zow rfl rfl hi ?_ | refine zow rfl rfl hx ?_ | refine zow rfl rfl hy ?_)
    have hd := tdiv_bound ny hrx
    have hmo := tmod_bound ny hrx
    refine ACode.condS rfl (fun h0 => ?_) (fun h0 => ?_)
    · have h0' : ny = 0 := by simpa using h0
      refine zA ?_
      rw [if_neg (by decide), if_neg (by decide), if_neg (by decide), if_neg (by decide), if_pos rfl, if_pos h0'] at hA
      exact AFn.fin' rfl (WkF.refl _) (by simp) hou (by rw [hA]; exact ResD.no rfl hou)
    have h0' : ny ≠ 0 := by simpa using h0
    rw [if_neg (by decide), if_neg (by decide), if_neg (by decide), if_neg (by decide), if_pos rfl, if_neg h0'] at hA
    repeat' first | refine zN ?_ | ((with_reducible refine oj ?_); first | refine zix ?_ | refine zow rfl rfl hi ?_ | refine zow rfl rfl hx ?_ | refine zow rfl rfl hy ?_)
    refine AOps.step1 rfl rfl rfl (AStep.quo rfl rfl rfl h0' (inRange_i64 (by omega) (by omega))) ?_
    repeat' first | refine zN ?_ | ((with_reducible refine oj ?_); first | refine zix ?_ | refine zow rfl rfl hi ?_ | refine zow rfl rfl hx ?_ | refine zow rfl rfl hy ?_)
    refine AOps.step1 rfl rfl rfl (AStep.rem rfl rfl rfl h0') ?_
    repeat ((fail_if_success ((with_reducible refine oj ?_); refine AOps.atDst 104 rfl ?_)); first | refine zO ?_ | ((with_reducible refine oj ?_); first | refine zix ?_ | refine zow rfl rfl hi ?_ | refine zow rfl rfl hx ?_ | refine zow rfl rfl hy ?_))
    refine zca hΓ (wrap_ok (nx.tmod ny) (by omega) (by omega)) hou ?_
    repeat ((fail_if_success ((with_reducible refine oj ?_); refine AOps.atDst 2 rfl ?_)); first | refine zO ?_)
    refine AOps.wkObj (.l 0) rfl (cs' := lC (.mk 0 1 (wrapI (nx.tmod ny)) none [] [] [])) (fun w C xs h => ?_) ?_
    · exact (show WkL _ _ from .cons (.refl _) (.cons (.refl _) (.cons (.nilS 1) (.cons (.nilS 1) (.cons (.nilS 2) .nil))))) w C xs h
    refine AOps.cedes [0] rfl (by decide) hou fun k hk => ⟨[(106, .one (.ptr (.o k) 0))], [], [.cells (lC (.mk k 1 (wrapI (nx.tmod ny)) none [] [] []))], .cons rfl rfl .nil, .nil, ?_, ?_⟩
    · exact .cons rfl rfl .nil
    have hN := NewO.add hk hou (show (AObj.cells (lC (.mk k 1 (wrapI (nx.tmod ny)) none [] [] []))).ids isO by simp [lC, bC, kC])
    refine zA ?_
    refine AFn.fin' rfl (WkF.refl _) (by simp) hN.ok ?_
    rw [hA]
    exact ⟨.mk k 1 (wrapI (nx.tmod ny)) none [] [] [], rfl, rfl, Der.node (u := .mk k 1 (wrapI (nx.tmod ny)) none [] [] []) (fun _ _ h => h) hN (fun p hp => by simp [tailO, bO, aO, objss] at hp)⟩
  · repeat' first | refine zN ?_ | ((with_reducible refine oj ?_); first | refine zix ?_ | refine zow rfl rfl hi ?_ | refine zow rfl rfl hx ?_ | refine zow rfl rfl hy ?_)
    refine ACode.drawX tabOk 19 [(3, .one (.sl 1 (kC [.mk jx 1 nx nbx bx kx ax, .mk jy 1 ny nby by' ky ay]))), (4, .one (.box [.ptr (.o jx) 0])), (8, .one (int nx)), (12, .one (.sl 1 (kC [.mk jx 1 nx nbx bx kx ax, .mk jy 1 ny nby by' ky ay]))), (13, .one (.box [.ptr (.o jy) 0])), (17, .one (int ny))] follows (by kernel_rfl) rfl rfl rfl rfl ?_ ?_
    · refine .step rfl (HStep.plain rfl (AStep.loadOwn tabOk rfl rfl rfl rfl rfl hi rfl)) ?_
      refine .step rfl (HStep.plain rfl (AStep.indexAddr tabOk rfl rfl rfl rfl rfl rfl (.inl rfl) rfl (by decide) rfl)) ?_
      refine .step rfl (HStep.plain rfl (AStep.loadOwn tabOk rfl rfl rfl rfl rfl hx rfl)) ?_
      refine .step rfl (HStep.plain rfl (AStep.loadOwn tabOk rfl rfl rfl rfl rfl hi rfl)) ?_
      refine .step rfl (HStep.plain rfl (AStep.indexAddr tabOk rfl rfl rfl rfl rfl rfl (.inl rfl) rfl (by decide) rfl)) ?_
      exact .step rfl (HStep.plain rfl (AStep.loadOwn tabOk rfl rfl rfl rfl rfl hy rfl)) .nil
    repeat' first | refine zN ?_ | ((with_reducible refine oj ?_); first | refine zix ?_ | refine zow rfl rfl hi ?_ | refine zow rfl rfl hx ?_ | refine zow rfl rfl hy ?_)
    refine ACode.condS rfl (fun hB => ?_) (fun hB => ?_)
    · have hB' : nx < ny := by simpa using hB
      have hA : X = some (flagT true) := by rw [hA]; simp [hB']
      repeat ((fail_if_success ((with_reducible refine oj ?_); refine AOps.atDst 2 rfl ?_)); first | refine zO ?_)
      refine AOps.wkObj (.l 0) rfl (cs' := lC (.mk 0 6 (1) none [] [] [])) (fun w C xs h => ?_) ?_
      · exact (show WkL _ _ from .cons (.refl _) (.cons (.refl _) (.cons (.nilS 1) (.cons (.nilS 1) (.cons (.nilS 2) .nil))))) w C xs h
      refine AOps.cedes [0] rfl (by decide) hou fun k hk => ⟨[(113, .one (.ptr (.o k) 0))], [], [.cells (lC (.mk k 6 (1) none [] [] []))], .cons rfl rfl .nil, .nil, ?_, ?_⟩
      · exact .cons rfl rfl .nil
      have hN := NewO.add hk hou (show (AObj.cells (lC (.mk k 6 (1) none [] [] []))).ids isO by simp [lC, bC, kC])
      refine zA ?_
      refine AFn.fin' rfl (WkF.refl _) (by simp) hN.ok ?_
      rw [hA]
      exact ⟨.mk k 6 (1) none [] [] [], rfl, rfl, Der.node (u := .mk k 6 (1) none [] [] []) (fun _ _ h => h) hN (fun p hp => by simp [tailO, bO, aO, objss] at hp)⟩
    · have hB' : ¬ nx < ny := by simpa using hB
      have hA : X = some (flagT false) := by rw [hA]; simp [hB']
      repeat ((fail_if_success ((with_reducible refine oj ?_); refine AOps.atDst 2 rfl ?_)); first | refine zO ?_)
      refine AOps.wkObj (.l 0) rfl (cs' := lC (.mk 0 6 (0) none [] [] [])) (fun w C xs h => ?_) ?_
      · exact (show WkL _ _ from .cons (.refl _) (.cons (.refl _) (.cons (.nilS 1) (.cons (.nilS 1) (.cons (.nilS 2) .nil))))) w C xs h
      refine AOps.cedes [0] rfl (by decide) hou fun k hk => ⟨[(113, .one (.ptr (.o k) 0))], [], [.cells (lC (.mk k 6 (0) none [] [] []))], .cons rfl rfl .nil, .nil, ?_, ?_⟩
      · exact .cons rfl rfl .nil
      have hN := NewO.add hk hou (show (AObj.cells (lC (.mk k 6 (0) none [] [] []))).ids isO by simp [lC, bC, kC])
      refine zA ?_
      refine AFn.fin' rfl (WkF.refl _) (by simp) hN.ok ?_
      rw [hA]
      exact ⟨.mk k 6 (0) none [] [] [], rfl, rfl, Der.node (u := .mk k 6 (0) none [] [] []) (fun _ _ h => h) hN (fun p hp => by simp [tailO, bO, aO, objss] at hp)⟩
  · repeat' first | refine zN ?_ | ((with_reducible refine oj ?_); first | refine zix ?_ | refine zow rfl rfl hi ?_ | refine zow rfl rfl hx ?_ | refine zow rfl rfl hy ?_)
    refine ACode.drawX tabOk 19 [(3, .one (.sl 1 (kC [.mk jx 1 nx nbx bx kx ax, .mk jy 1 ny nby by' ky ay]))), (4, .one (.box [.ptr (.o jx) 0])), (8, .one (int nx)), (12, .one (.sl 1 (kC [.mk jx 1 nx nbx bx kx ax, .mk jy 1 ny nby by' ky ay]))), (13, .one (.box [.ptr (.o jy) 0])), (17, .one (int ny))] follows (by kernel_rfl) rfl rfl rfl rfl ?_ ?_
    · refine .step rfl (HStep.plain rfl (AStep.loadOwn tabOk rfl rfl rfl rfl rfl hi rfl)) ?_
      refine .step rfl (HStep.plain rfl (AStep.indexAddr tabOk rfl rfl rfl rfl rfl rfl (.inl rfl) rfl (by decide) rfl)) ?_
      refine .step rfl (HStep.plain rfl (AStep.loadOwn tabOk rfl rfl rfl rfl rfl hx rfl)) ?_
      refine .step rfl (HStep.plain rfl (AStep.loadOwn tabOk rfl rfl rfl rfl rfl hi rfl)) ?_
      refine .step rfl (HStep.plain rfl (AStep.indexAddr tabOk rfl rfl rfl rfl rfl rfl (.inl rfl) rfl (by decide) rfl)) ?_
      exact .step rfl (HStep.plain rfl (AStep.loadOwn tabOk rfl rfl rfl rfl rfl hy rfl)) .nil
    repeat' first | refine zN ?_ | ((with_reducible refine oj ?_); first | refine zix ?_ | refine zow rfl rfl hi ?_ | refine zow rfl rfl hx ?_ | refine zow rfl rfl hy ?_)
    refine ACode.condS rfl (fun hB => ?_) (fun hB => ?_)
    · have hB' : nx = ny := by simpa using hB
      have hA : X = some (flagT true) := by rw [hA]; simp [hB']
      repeat ((fail_if_success ((with_reducible refine oj ?_); refine AOps.atDst 2 rfl ?_)); first | refine zO ?_)
      refine AOps.wkObj (.l 0) rfl (cs' := lC (.mk 0 6 (1) none [] [] [])) (fun w C xs h => ?_) ?_
      · exact (show WkL _ _ from .cons (.refl _) (.cons (.refl _) (.cons (.nilS 1) (.cons (.nilS 1) (.cons (.nilS 2) .nil))))) w C xs h
      refine AOps.cedes [0] rfl (by decide) hou fun k hk => ⟨[(113, .one (.ptr (.o k) 0))], [], [.cells (lC (.mk k 6 (1) none [] [] []))], .cons rfl rfl .nil, .nil, ?_, ?_⟩
      · exact .cons rfl rfl .nil
      have hN := NewO.add hk hou (show (AObj.cells (lC (.mk k 6 (1) none [] [] []))).ids isO by simp [lC, bC, kC])
      refine zA ?_
      refine AFn.fin' rfl (WkF.refl _) (by simp) hN.ok ?_
      rw [hA]
      exact ⟨.mk k 6 (1) none [] [] [], rfl, rfl, Der.node (u := .mk k 6 (1) none [] [] []) (fun _ _ h => h) hN (fun p hp => by simp [tailO, bO, aO, objss] at hp)⟩
    · have hB' : ¬ nx = ny := by simpa using hB
      have hA : X = some (flagT false) := by rw [hA]; simp [hB', beq_eq_false_iff_ne.2 hB']
      repeat ((fail_if_success ((with_reducible refine oj ?_); refine AOps.atDst 2 rfl ?_)); first | refine zO ?_)
      refine AOps.wkObj (.l 0) rfl (cs' := lC (.mk 0 6 (0) none [] [] [])) (fun w C xs h => ?_) ?_
      · exact (show WkL _ _ from .cons (.refl _) (.cons (.refl _) (.cons (.nilS 1) (.cons (.nilS 1) (.cons (.nilS 2) .nil))))) w C xs h
      refine AOps.cedes [0] rfl (by decide) hou fun k hk => ⟨[(113, .one (.ptr (.o k) 0))], [], [.cells (lC (.mk k 6 (0) none [] [] []))], .cons rfl rfl .nil, .nil, ?_, ?_⟩
      · exact .cons rfl rfl .nil
      have hN := NewO.add hk hou (show (AObj.cells (lC (.mk k 6 (0) none [] [] []))).ids isO by simp [lC, bC, kC])
      refine zA ?_
      refine AFn.fin' rfl (WkF.refl _) (by simp) hN.ok ?_
      rw [hA]
      exact ⟨.mk k 6 (0) none [] [] [], rfl, rfl, Der.node (u := .mk k 6 (0) none [] [] []) (fun _ _ h => h) hN (fun p hp => by simp [tailO, bO, aO, objss] at hp)⟩
  · repeat' first | refine zN ?_ | ((with_reducible refine oj ?_); first | refine zix ?_ | refine zow rfl rfl hi ?_ | refine zow rfl rfl hx ?_ | refine zow rfl rfl hy ?_) | (with_reducible refine oj ?_; refine AOps.splitS rfl rfl rfl rfl (fun hb => ?_) (fun hb => ?_)) | (with_reducible refine ok ?_; first | refine ACode.condS rfl (fun hb => ?_) (fun hb => ?_) | refine ACode.cond rfl (fun hb => ?_) (fun hb => ?_))
    all_goals first
      | (exfalso; simp at *; omega)
      | skip
    refine ACode.drawX tabOk 19 [(3, .one (.sl 1 (kC [.mk jx 1 nx nbx bx kx ax, .mk jy 1 ny nby by' ky ay]))), (4, .one (.box [.ptr (.o jx) 0])), (8, .one (int nx)), (12, .one (.sl 1 (kC [.mk jx 1 nx nbx bx kx ax, .mk jy 1 ny nby by' ky ay]))), (13, .one (.box [.ptr (.o jy) 0])), (17, .one (int ny))] follows (by kernel_rfl) rfl rfl rfl rfl ?_ ?_
    · refine .step rfl (HStep.plain rfl (AStep.loadOwn tabOk rfl rfl rfl rfl rfl hi rfl)) ?_
      refine .step rfl (HStep.plain rfl (AStep.indexAddr tabOk rfl rfl rfl rfl rfl rfl (.inl rfl) rfl (by decide) rfl)) ?_
      refine .step rfl (HStep.plain rfl (AStep.loadOwn tabOk rfl rfl rfl rfl rfl hx rfl)) ?_
      refine .step rfl (HStep.plain rfl (AStep.loadOwn tabOk rfl rfl rfl rfl rfl hi rfl)) ?_
      refine .step rfl (HStep.plain rfl (AStep.indexAddr tabOk rfl rfl rfl rfl rfl rfl (.inl rfl) rfl (by decide) rfl)) ?_
      exact .step rfl (HStep.plain rfl (AStep.loadOwn tabOk rfl rfl rfl rfl rfl hy rfl)) .nil
    repeat' ((fail_if_success ((with_reducible refine oj ?_); refine AOps.atDst 104 rfl ?_)); first | refine zO ?_ | ((with_reducible refine oj ?_); first | refine zix ?_ | refine zow rfl rfl hi ?_ | refine zow rfl rfl hx ?_ | refine zow rfl rfl hy ?_) | (with_reducible refine oj ?_; refine AOps.splitS rfl rfl rfl rfl (fun hb => ?_) (fun hb => ?_)) | (with_reducible refine ok ?_; first | refine ACode.condS rfl (fun hb => ?_) (fun hb => ?_) | refine ACode.cond rfl (fun hb => ?_) (fun hb => ?_)))
    all_goals first
      | (exfalso; simp at *; omega)
      | skip
    have hA : X = some (wordT (wrapI 0)) := by rw [hA, if_neg (by omega), if_neg (by omega), if_neg (by omega), if_neg (by omega), if_neg (by omega), if_neg (by omega), if_neg (by omega)]
    repeat ((fail_if_success ((with_reducible refine oj ?_); refine AOps.atDst 104 rfl ?_)); first | refine zO ?_ | ((with_reducible refine oj ?_); first | refine zix ?_ | refine zow rfl rfl hi ?_ | refine zow rfl rfl hx ?_ | refine zow rfl rfl hy ?_))
    refine zca hΓ (wrap_ok (0) (by omega) (by omega)) hou ?_
    repeat ((fail_if_success ((with_reducible refine oj ?_); refine AOps.atDst 2 rfl ?_)); first | refine zO ?_)
    refine AOps.wkObj (.l 0) rfl (cs' := lC (.mk 0 1 (wrapI (0)) none [] [] [])) (fun w C xs h => ?_) ?_
    · exact (show WkL _ _ from .cons (.refl _) (.cons (.refl _) (.cons (.nilS 1) (.cons (.nilS 1) (.cons (.nilS 2) .nil))))) w C xs h
    refine AOps.cedes [0] rfl (by decide) hou fun k hk => ⟨[(106, .one (.ptr (.o k) 0))], [], [.cells (lC (.mk k 1 (wrapI (0)) none [] [] []))], .cons rfl rfl .nil, .nil, ?_, ?_⟩
    · exact .cons rfl rfl .nil
    have hN := NewO.add hk hou (show (AObj.cells (lC (.mk k 1 (wrapI (0)) none [] [] []))).ids isO by simp [lC, bC, kC])
    refine zA ?_
    refine AFn.fin' rfl (WkF.refl _) (by simp) hN.ok ?_
    rw [hA]
    exact ⟨.mk k 1 (wrapI (0)) none [] [] [], rfl, rfl, Der.node (u := .mk k 1 (wrapI (0)) none [] [] []) (fun _ _ h => h) hN (fun p hp => by simp [tailO, bO, aO, objss] at hp)⟩
end Go.Proofs.YtgdionbeeodaaaaDoor
namespace Go.CoreX
mutual
theorem okT_pOk : ∀ t : Tr, okT t → allT pOk t
  | .mk o n b k a, h => ⟨⟨h.1, by simpa using h.2.1, h.2.2.1, h.2.2.2.1.1, h.2.2.2.1.2⟩, okTs_pOk k h.2.2.2.2⟩
theorem okTs_pOk : ∀ l : List Tr, okTs l → allTs pOk l
  | [], _ => trivial
  | t :: l, h => ⟨okT_pOk t h.1, okTs_pOk l h.2⟩
end
mutual
theorem pOk_okT : ∀ t : Tr, allT pOk t → okT t
  | .mk o n b k a, h => ⟨h.1.b, by simpa using h.1.k, h.1.a, ⟨h.1.ab, h.1.s⟩, pOk_okTs k h.2⟩
theorem pOk_okTs : ∀ l : List Tr, allTs pOk l → okTs l
  | [], _ => trivial
  | t :: l, h => ⟨pOk_okT t h.1, pOk_okTs l h.2⟩
end
mutual
def putsL (f : Nat → Option LTr) : LTr → LTr
  | .mk i o n nb b ks a => match f i with
    | some u => u
    | none => .mk i o n nb b (putsLs f ks) a
def putsLs (f : Nat → Option LTr) : List LTr → List LTr
  | [] => []
  | t :: l => putsL f t :: putsLs f l
end
theorem putsL_id {f : Nat → Option LTr} (hf : ∀ k u, f k = some u → u.id = k) : ∀ t : LTr, (putsL f t).id = t.id
  | .mk i o n nb b ks a => by
    simp only [putsL]
    split
    · rename_i u hu; exact hf i u hu
    · rfl
end Go.CoreX
namespace Go.Proofs.YtgdionbeeodaaaaDoor
open Go Go.Abs Go.CoreX
set_option maxRecDepth 10000
variable {Γ : List (Nat × List AC)}
theorem okB_list {T : Tr} (h : allT pOk T) (hl : cntN T ≤ 1048576) : okB (listT [] T) := okB_ofLabs (by have := cntN_list T []; simp at this; omega) (allT_labs (isTree_list _) (by rw [grow_list]; exact h))
theorem copied_ok (hΓ : ∀ g cs, (g, cs) ∈ Γ → idsL isO cs) (T : Tr) (hT : okT T) (hl : cntN T ≤ 1048576) (ou : Outer) : AFn Tryd.prog Γ 111 [.one (.box (cTr T))] ou (GrowQ (listT [] T) ou) := by
  have hll : (listT [] T).length ≤ 1048576 := by have := cntN_list T []; simp at this; omega
  have hli := List_ok hΓ T hT hll
  refine AFn.walk 6 tabOk Tryd.func111 rfl (by kernel_rfl) rfl rfl fun hou => ?_
  refine zA ?_
  refine zca hΓ hli hou ?_
  refine AOps.call1 hΓ rfl rfl rfl rfl rfl rfl rfl (by simp) hou (GrowN_ok hΓ _ (okB_list (okT_pOk T hT) hl).eo (isTree_list T).k (isTree_list T) ou) fun r ou' hq hids hou' => ?_
  obtain ⟨t, rfl, h⟩ := hq
  refine zA ?_
  exact AFn.fin' rfl (WkF.refl _) (by simp) hou' ⟨t, rfl, h⟩
theorem putsL_kC {f : Nat → Option LTr} (hf : ∀ k u, f k = some u → u.id = k) : ∀ l : List LTr, kC (putsLs f l) = kC l
  | [] => rfl
  | t :: l => by
    have := putsL_kC hf l
    simp only [kC, putsLs, List.map_cons, putsL_id hf] at this ⊢
    rw [this]
mutual
theorem putsL_none {f : Nat → Option LTr} : ∀ t : LTr, (∀ k ∈ keys (objs t), f k = none) → putsL f t = t
  | .mk i o n nb b ks a, h => by
    simp only [objs, keys, List.cons_append, List.map_cons, List.map_append, List.mem_cons, List.mem_append] at h
    simp only [putsL, h i (.inl rfl)]
    rw [putsLs_none ks fun k hk => h k (.inr (.inr hk))]
theorem putsLs_none {f : Nat → Option LTr} : ∀ l : List LTr, (∀ k ∈ keys (objss l), f k = none) → putsLs f l = l
  | [], _ => rfl
  | t :: l, h => by
    simp only [objss, keys, List.map_append, List.mem_append] at h
    simp only [putsLs]
    rw [putsL_none t fun k hk => h k (.inl hk), putsLs_none l fun k hk => h k (.inr hk)]
end
theorem plain_bO {nb : Nb} {b : List Int} (h : nb = none) : bO nb b = [] := by subst h; rfl
theorem plain_aO : ∀ {a : List LAlt}, (∀ x ∈ a, x.nb = none) → aO a = []
  | [], _ => rfl
  | x :: a, h => by
    rw [show aO (x :: a) = bO x.nb x.binds ++ aO a from rfl, plain_bO (h x (by simp)), plain_aO fun y hy => h y (by simp [hy])]; rfl
mutual
theorem puts_own {f : Nat → Option LTr} (hf : ∀ k u, f k = some u → u.id = k) : ∀ t : LTr, plainL t → ∀ p ∈ objs (putsL f t), (∃ k u, k ∈ keys (objs t) ∧ f k = some u ∧ p ∈ objs u) ∨ (p ∈ objs t ∧ f p.1 = none)
  | .mk i o n nb b ks a, hpl, p, hp => by
    simp only [putsL] at hp
    cases hfi : f i with
    | some u =>
      rw [hfi] at hp
      exact .inl ⟨i, u, by simp [objs, keys], hfi, hp⟩
    | none =>
      rw [hfi] at hp
      simp only [objs, putsL_kC hf, plain_bO hpl.1, plain_aO hpl.2.1, List.append_nil, List.cons_append, List.nil_append, List.mem_cons] at hp ⊢
      rcases hp with rfl | hp
      · exact .inr ⟨.inl rfl, hfi⟩
      · rcases putss_own hf ks hpl.2.2 p hp with ⟨k, u, h1, h2, h3⟩ | ⟨h1, h2⟩
        · exact .inl ⟨k, u, by simp [keys] at h1 ⊢; exact .inr h1, h2, h3⟩
        · exact .inr ⟨.inr h1, h2⟩
theorem putss_own {f : Nat → Option LTr} (hf : ∀ k u, f k = some u → u.id = k) : ∀ l : List LTr, plainLs l → ∀ p ∈ objss (putsLs f l), (∃ k u, k ∈ keys (objss l) ∧ f k = some u ∧ p ∈ objs u) ∨ (p ∈ objss l ∧ f p.1 = none)
  | [], _, p, hp => by simp [putsLs, objss] at hp
  | t :: l, hpl, p, hp => by
    simp only [putsLs, objss, List.mem_append] at hp ⊢
    rcases hp with hp | hp
    · rcases puts_own hf t hpl.1 p hp with ⟨k, u, h1, h2, h3⟩ | ⟨h1, h2⟩
      · exact .inl ⟨k, u, by rw [keys_app]; exact List.mem_append.2 (.inl h1), h2, h3⟩
      · exact .inr ⟨.inl h1, h2⟩
    · rcases putss_own hf l hpl.2 p hp with ⟨k, u, h1, h2, h3⟩ | ⟨h1, h2⟩
      · exact .inl ⟨k, u, by rw [keys_app]; exact List.mem_append.2 (.inr h1), h2, h3⟩
      · exact .inr ⟨.inr h1, h2⟩
end
mutual
theorem uses_keys (q : Int) : ∀ t : LTr, ∀ s ∈ usesL q t, s.id ∈ keys (objs t)
  | .mk i o n nb b ks a, s, hs => by
    simp only [usesL] at hs
    split at hs
    · split at hs
      · simp at hs; subst hs; exact id_mem _
      · simp at hs
    · have := usess_keys q ks s hs
      rw [objs_tail, tailO]
      simp only [keys, List.map_cons, List.map_append] at this ⊢
      simp [this]
theorem usess_keys (q : Int) : ∀ l : List LTr, ∀ s ∈ usesLs q l, s.id ∈ keys (objss l)
  | [], s, hs => by simp [usesLs] at hs
  | t :: l, s, hs => by
    simp only [usesLs, List.mem_append] at hs
    simp only [objss, keys_app, List.mem_append]
    rcases hs with hs | hs
    · exact .inl (uses_keys q t s hs)
    · exact .inr (usess_keys q l s hs)
end
mutual
theorem puts_er {f : Nat → Option LTr} {q : Int} {V : Tr} (hV : ∀ k u, f k = some u → erT u = V) : ∀ t : LTr, (keys (objs t)).Nodup → (∀ k ∈ keys (objs t), f k ≠ none ↔ k ∈ (usesL q t).map LTr.id) → erT (putsL f t) = subT q V (erT t)
  | .mk i o n nb b ks a, hn, hf => by
    have hii : i ∈ keys (objs (.mk i o n nb b ks a)) := id_mem (.mk i o n nb b ks a)
    have hfi := hf i hii
    have hself : i ∉ keys (objss ks) := fun h => by
      have := self_tail hn
      refine this ?_
      simp only [tailO, keys, List.map_append, List.mem_append]
      exact .inr h
    have hkk : ∀ k ∈ keys (objss ks), k ∈ keys (objs (.mk i o n nb b ks a)) := fun k hk => by
      rw [objs_tail, tailO]
      simp only [keys, List.map_cons, List.map_append] at hk ⊢
      simp [hk]
    have hnk : (keys (objss ks)).Nodup := by
      rw [objs_tail] at hn
      simp only [tailO, keys, List.map_cons, List.map_append] at hn
      exact (List.nodup_append.1 (List.nodup_cons.1 hn).2).2.1
    simp only [usesL] at hfi hf
    by_cases h0 : o = 0
    · rw [if_pos h0] at hfi
      by_cases h1 : n = q
      · rw [if_pos h1] at hfi
        have : f i ≠ none := hfi.2 (by simp [LTr.id])
        cases hu : f i with
        | none => exact absurd hu this
        | some u =>
          simp only [putsL, hu, erT, subT, if_pos h0, if_pos h1]
          exact hV i u hu
      · rw [if_neg h1] at hfi
        have hno : f i = none := by
          cases hu : f i with
          | none => rfl
          | some u => have := hfi.1 (by rw [hu]; simp); simp at this
        have hks : putsLs f ks = ks := putsLs_none ks fun k hk => by
          have := hf k (hkk k hk)
          rw [if_pos h0, if_neg h1] at this
          cases hu : f k with
          | none => rfl
          | some u => have := this.1 (by rw [hu]; simp); simp at this
        simp only [putsL, hno, hks, erT, subT, if_pos h0, if_neg h1]
    · rw [if_neg h0] at hfi
      have hno : f i = none := by
        cases hu : f i with
        | none => rfl
        | some u =>
          have := hfi.1 (by rw [hu]; simp)
          obtain ⟨s, hs, he⟩ := List.mem_map.1 this
          exact absurd (he ▸ usess_keys q ks s hs) hself
      simp only [putsL, hno, erT, subT, if_neg h0]
      congr 1
      refine putss_er hV ks hnk fun k hk => ?_
      have := hf k (hkk k hk)
      rwa [if_neg h0] at this
theorem putss_er {f : Nat → Option LTr} {q : Int} {V : Tr} (hV : ∀ k u, f k = some u → erT u = V) : ∀ l : List LTr, (keys (objss l)).Nodup → (∀ k ∈ keys (objss l), f k ≠ none ↔ k ∈ (usesLs q l).map LTr.id) → erTs (putsLs f l) = subTs q V (erTs l)
  | [], _, _ => rfl
  | t :: l, hn, hf => by
    simp only [objss, keys_app, List.nodup_append] at hn
    simp only [objss, keys_app, List.mem_append, usesLs, List.map_append] at hf
    simp only [putsLs, erTs, subTs]
    have h1 := puts_er hV t hn.1 fun k hk => by
      rw [hf k (.inl hk)]
      constructor
      · rintro (h | h)
        · exact h
        · obtain ⟨s, hs, rfl⟩ := List.mem_map.1 h
          exact absurd rfl (hn.2.2 _ hk _ (usess_keys q l s hs))
      · exact .inl
    have h2 := putss_er hV l hn.2.1 fun k hk => by
      rw [hf k (.inr hk)]
      constructor
      · rintro (h | h)
        · obtain ⟨s, hs, rfl⟩ := List.mem_map.1 h
          exact absurd rfl (hn.2.2 _ (uses_keys q t s hs) _ hk)
        · exact h
      · exact .inr
    rw [h1, h2]
end
mutual
theorem uses_nodup (q : Int) : ∀ t : LTr, (keys (objs t)).Nodup → ((usesL q t).map LTr.id).Nodup
  | .mk i o n nb b ks a, hn => by
    simp only [usesL]
    split
    · split <;> simp
    · refine usess_nodup q ks ?_
      rw [objs_tail] at hn
      simp only [tailO, keys, List.map_cons, List.map_append] at hn
      exact (List.nodup_append.1 (List.nodup_cons.1 hn).2).2.1
theorem usess_nodup (q : Int) : ∀ l : List LTr, (keys (objss l)).Nodup → ((usesLs q l).map LTr.id).Nodup
  | [], _ => by simp [usesLs]
  | t :: l, hn => by
    simp only [objss, keys_app, List.nodup_append] at hn
    simp only [usesLs, List.map_append, List.nodup_append]
    refine ⟨uses_nodup q t hn.1, usess_nodup q l hn.2.1, fun x hx y hy => ?_⟩
    obtain ⟨s, hs, rfl⟩ := List.mem_map.1 hx
    obtain ⟨s', hs', rfl⟩ := List.mem_map.1 hy
    exact hn.2.2 _ (uses_keys q t s hs) _ (usess_keys q l s' hs')
end
end Go.Proofs.YtgdionbeeodaaaaDoor
namespace Go.Proofs.YtgdionbeeodaaaaDoor
open Go Go.Abs Go.CoreX
set_option maxRecDepth 10000
variable {Γ : List (Nat × List AC)}
def setO (ou : Outer) (k : Nat) (o : AObj) : Outer := fun j => bif Nat.beq j k then some o else ou j
theorem setO_same (ou : Outer) (k : Nat) (o : AObj) : setO ou k o k = some o := by unfold setO; simp
theorem setO_ne {ou : Outer} {j k : Nat} {o : AObj} (h : j ≠ k) : setO ou k o j = ou j := by unfold setO; rw [beq_no h]; rfl
theorem setO_ok {ou : Outer} {k : Nat} {o : AObj} (h : OuOk ou) (ho : o.ids isO) : OuOk (setO ou k o) := fun j p hj => by
  by_cases e : j = k
  · subst e; rw [setO_same] at hj; cases hj; exact ho
  · rw [setO_ne e] at hj; exact h j p hj
def withId (k : Nat) : LTr → LTr
  | .mk _ o n nb b ks a => .mk k o n nb b ks a
theorem withId_id (k : Nat) (t : LTr) : (withId k t).id = k := by cases t; rfl
theorem withId_er (k : Nat) (t : LTr) : erT (withId k t) = erT t := by cases t; rfl
theorem withId_lC (k : Nat) (t : LTr) : lC (withId k t) = lC t := by cases t; rfl
theorem withId_tail (k : Nat) (t : LTr) : tailO (withId k t) = tailO t := by cases t; rfl
theorem lC_len (t : LTr) : (lC t).length = 5 := by cases t; rfl
theorem lC_ids (t : LTr) : (AObj.cells (lC t)).ids isO := by
  cases t with
  | mk i o n nb b ks a => exact ids_node o n nb b ks a
theorem withId_own {ou : Outer} {k : Nat} {t : LTr} (h : Owns ou (tailO t)) (hk : k ∉ keys (tailO t)) : Owns (setO ou k (.cells (lC t))) (objs (withId k t)) := fun p hp => by
  rw [objs_tail, withId_id, withId_lC, withId_tail] at hp
  rcases List.mem_cons.1 hp with rfl | hp
  · exact setO_same _ _ _
  · rw [setO_ne (show p.1 ≠ k from fun e => hk (e ▸ mem_keys hp))]; exact h p hp
theorem own_tail {ou : Outer} {t : LTr} (h : Owns ou (objs t)) : Owns ou (tailO t) := fun p hp => h p (by rw [objs_tail]; exact List.mem_cons_of_mem _ hp)
def updF (f : Nat → Option LTr) (k : Nat) (u : LTr) : Nat → Option LTr := fun j => if j = k then some u else f j
structure CopyI (ou1 ov : Outer) (L : List LTr) (V : Tr) (f : Nat → Option LTr) : Prop where
  dom : ∀ k, f k ≠ none ↔ k ∈ L.map LTr.id
  u : ∀ k u, f k = some u → u.id = k ∧ erT u = V ∧ Owns ov (objs u) ∧ ∀ p ∈ tailO u, ou1 p.1 = none
  old : ∀ k o, ou1 k = some o → f k = none → ov k = some o
  ok : OuOk ov
theorem CopyI.nil {ou1 : Outer} {V : Tr} (h : OuOk ou1) : CopyI ou1 ou1 [] V (fun _ => none) := ⟨by simp, by simp, fun k o hk _ => hk, h⟩
theorem CopyI.step {ou1 ov ow : Outer} {L : List LTr} {V : Tr} {f : Nat → Option LTr} (h : CopyI ou1 ov L V f) {x c : LTr} {o : AObj} (hx : ou1 x.id = some o) (hxL : x.id ∉ L.map LTr.id) (hV : erT c = V) (hc : Owns ow (objs c)) (hnew : ∀ k ∈ keys (objs c), ov k = none) (hold : ∀ k o, ov k = some o → ow k = some o) (hok : OuOk ow) :
    CopyI ou1 (setO ow x.id (.cells (lC c))) (L ++ [x]) V (updF f x.id (withId x.id c)) := by
  have hfx : f x.id = none := by
    cases hu : f x.id with
    | none => rfl
    | some u => exact absurd ((h.dom x.id).1 (by rw [hu]; simp)) hxL
  have hvx := h.old _ _ hx hfx
  have hck : ∀ p ∈ objs c, ou1 p.1 = none := fun p hp => by
    have h1 := hnew p.1 (mem_keys hp)
    cases ho : ou1 p.1 with
    | none => rfl
    | some o' =>
      by_cases hf : f p.1 = none
      · rw [h.old _ _ ho hf] at h1; cases h1
      · obtain ⟨u, hu⟩ := Option.ne_none_iff_exists'.1 hf
        obtain ⟨e1, _, e3, _⟩ := h.u _ _ hu
        have := e3 (u.id, .cells (lC u)) (by rw [objs_tail]; simp)
        rw [e1, h1] at this; cases this
  refine ⟨fun k => ?_, fun k u hu => ?_, fun k o' hk hf => ?_, setO_ok hok (lC_ids c)⟩
  · unfold updF
    by_cases e : k = x.id
    · subst e; simp
    · rw [if_neg e, h.dom k]; simp [e]
  · unfold updF at hu
    by_cases e : k = x.id
    · rw [if_pos e] at hu
      cases hu
      refine ⟨by rw [withId_id, e], by rw [withId_er, hV], withId_own (own_tail hc) fun hm => ?_, fun p hp => ?_⟩
      · obtain ⟨o'', hq⟩ := of_keys hm
        have := hck (x.id, o'') (by rw [objs_tail]; exact List.mem_cons_of_mem _ hq)
        rw [hx] at this; cases this
      · rw [withId_tail] at hp
        exact hck p (by rw [objs_tail]; exact List.mem_cons_of_mem _ hp)
    · rw [if_neg e] at hu
      obtain ⟨e1, e2, e3, e4⟩ := h.u k u hu
      refine ⟨e1, e2, fun p hp => ?_, e4⟩
      have hpx : p.1 ≠ x.id := by
        rw [objs_tail] at hp
        rcases List.mem_cons.1 hp with rfl | hp
        · simp only; rw [e1]; exact e
        · intro e5
          have := e4 p hp
          rw [e5, hx] at this; cases this
      rw [setO_ne hpx]
      exact hold _ _ (e3 p hp)
  · unfold updF at hf
    by_cases e : k = x.id
    · rw [if_pos e] at hf; cases hf
    · rw [if_neg e] at hf
      rw [setO_ne e]
      exact hold _ _ (h.old k o' hk hf)
theorem puts_fin {f : Nat → Option LTr} {q : Int} {d : LTr} {V : Tr} {ov : Outer} {i : Nat} (hn : (keys (objs d)).Nodup) (hp : plainL d) (hi : i ∉ keys (objs d)) (hdom : ∀ k, f k ≠ none ↔ k ∈ (usesL q d).map LTr.id)
    (hu : ∀ k u, f k = some u → u.id = k ∧ erT u = V ∧ Owns ov (objs u) ∧ i ∉ keys (tailO u)) (hold : ∀ p ∈ objs d, f p.1 = none → ov p.1 = some p.2) :
    erT (putsL f d) = subT q V (erT d) ∧ Owns ov (objs (putsL f d)) ∧ i ∉ keys (objs (putsL f d)) := by
  have hf : ∀ k u, f k = some u → u.id = k := fun k u h => (hu k u h).1
  refine ⟨puts_er (fun k u h => (hu k u h).2.1) d hn fun k _ => hdom k, fun p hp' => ?_, fun hm => ?_⟩
  · rcases puts_own hf d hp p hp' with ⟨k, u, _, h2, h3⟩ | ⟨h1, h2⟩
    · exact (hu k u h2).2.2.1 p h3
    · exact hold p h1 h2
  · obtain ⟨o, ho⟩ := of_keys hm
    rcases puts_own hf d hp _ ho with ⟨k, u, h1, h2, h3⟩ | ⟨h1, h2⟩
    · rw [objs_tail] at h3
      rcases List.mem_cons.1 h3 with h3 | h3
      · have : i = u.id := by injection h3
        rw [this, (hu k u h2).1] at hi
        exact hi h1
      · exact (hu k u h2).2.2.2 (mem_keys h3)
    · exact hi (mem_keys h1)
theorem puts_keys {f : Nat → Option LTr} {d : LTr} (hp : plainL d) (hf : ∀ k u, f k = some u → u.id = k) : ∀ k ∈ keys (objs (putsL f d)), k ∈ keys (objs d) ∨ ∃ k' u, f k' = some u ∧ k ∈ keys (tailO u) := fun k hk => by
  obtain ⟨o, ho⟩ := of_keys hk
  rcases puts_own hf d hp _ ho with ⟨k', u, h1, h2, h3⟩ | ⟨h1, h2⟩
  · rw [objs_tail] at h3
    rcases List.mem_cons.1 h3 with h3 | h3
    · have : k = u.id := by injection h3
      rw [this, hf k' u h2]; exact .inl h1
    · exact .inr ⟨k', u, h2, mem_keys h3⟩
  · exact .inl (mem_keys h1)
def ResW (ou : Outer) (t : LTr) (x : Option Tr) (r : FV) (ou' : Outer) : Prop := match x with
  | none => r = nilP ∧ OuOk ou' ∧ ∀ j o, ou j = some o → ou' j = some o
  | some X => ∃ u : LTr, r = .one (.ptr (.o u.id) 0) ∧ erT u = X ∧ Owns ou' (objs u) ∧ t.id ∉ keys (objs u) ∧ OuOk ou' ∧ (∀ j o, ou j = some o → j ∉ keys (tailO t) → ou' j = some o) ∧ ∀ k ∈ keys (objs u), k ∈ keys (tailO t) ∨ ou k = none
theorem ResD.w {ou ou' : Outer} {t : LTr} {x : Option Tr} {r : FV} (ho : Owns ou (objs t)) (hn : (keys (objs t)).Nodup) (h : ResD ou t x r ou') : ResW ou t x r ou' := by
  cases x with
  | none => exact h
  | some X =>
    obtain ⟨u, h1, h2, h3⟩ := h
    refine ⟨u, h1, h2, h3.own (own_tail ho), h3.not (owns_node ho) (self_tail hn), h3.ok, fun j o hj _ => h3.old j o hj, fun k hk => ?_⟩
    obtain ⟨o, hp⟩ := of_keys hk
    exact (h3.part _ hp).imp (fun h => mem_keys h) (fun h => h.1)
end Go.Proofs.YtgdionbeeodaaaaDoor
