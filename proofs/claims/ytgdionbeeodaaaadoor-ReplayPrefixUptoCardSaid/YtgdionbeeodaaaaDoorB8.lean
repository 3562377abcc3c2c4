/- Lists of numbers held against each other, walked; what a tree equal to another one gives. -/
import Derived.Test.YtgdionbeeodaaaaDoorB7
import Derived.Shelf.Sort.Plain
import Derived.Shelf.Slices.In.SortNone
set_option linter.unusedVariables false
set_option linter.unusedSimpArgs false
namespace Go.CoreX
theorem putsN_succ : ∀ {l r : List Int} {i : Nat} {x y : Int} {m : Nm}, l[i]? = some x → r[i]? = some y → putsN m (l.take (i + 1)) (r.take (i + 1)) = setN (putsN m (l.take i) (r.take i)) x y
  | [], _, i, x, y, m, h, _ => by simp at h
  | a :: l, [], i, x, y, m, _, h => by simp at h
  | a :: l, b :: r, 0, x, y, m, h, h' => by simp at h h'; subst h; subst h'; simp [putsN]
  | a :: l, b :: r, i + 1, x, y, m, h, h' => by
    simp only [List.take_succ_cons, putsN]
    exact putsN_succ (l := l) (r := r) (by simpa using h) (by simpa using h')
theorem sameTs_step : ∀ {l r : List Tr} {i : Nat} {a b : Tr} {m : Nm}, (sameTs l r m).1 = true → l[i]? = some a → r[i]? = some b →
    (sameT a b (sameTs (l.take i) (r.take i) m).2).1 = true ∧ (sameTs (l.take (i + 1)) (r.take (i + 1)) m).2 = (sameT a b (sameTs (l.take i) (r.take i) m).2).2
  | [], _, i, a, b, m, _, h, _ => by simp at h
  | x :: l, [], i, a, b, m, _, _, h => by simp at h
  | x :: l, y :: r, 0, a, b, m, hs, h, h' => by
    simp at h h'
    subst h; subst h'
    unfold sameTs at hs
    by_cases e : (sameT x y m).1 = true
    · simp [sameTs, e]
    · simp [e] at hs
  | x :: l, y :: r, i + 1, a, b, m, hs, h, h' => by
    unfold sameTs at hs
    by_cases e : (sameT x y m).1 = true
    · simp only [e, if_true] at hs
      have := sameTs_step (l := l) (r := r) hs (by simpa using h) (by simpa using h')
      simp only [List.take_succ_cons, sameTs, e, if_true]
      exact this
    · simp [e] at hs
theorem altsLike_at : ∀ {l r : List Alt} {i : Nat} {a b : Alt}, altsLike l r = true → l[i]? = some a → r[i]? = some b → a.tag = b.tag ∧ a.binds.length = b.binds.length
  | [], _, i, a, b, _, h, _ => by simp at h
  | x :: l, [], i, a, b, _, _, h => by simp at h
  | x :: l, y :: r, 0, a, b, hs, h, h' => by
    simp at h h'
    subst h; subst h'
    simp only [altsLike, Bool.and_eq_true, beq_iff_eq] at hs
    exact hs.1
  | x :: l, y :: r, i + 1, a, b, hs, h, h' => by
    simp only [altsLike, Bool.and_eq_true] at hs
    exact altsLike_at hs.2 (by simpa using h) (by simpa using h')
theorem altsLike_len : ∀ {l r : List Alt}, altsLike l r = true → l.length = r.length → (l.flatMap (·.binds)).length = (r.flatMap (·.binds)).length
  | [], [], _, _ => rfl
  | [], y :: r, _, h => by simp at h
  | x :: l, [], _, h => by simp at h
  | x :: l, y :: r, hs, h => by
    simp only [altsLike, Bool.and_eq_true, beq_iff_eq] at hs
    have := altsLike_len hs.2 (by simpa using h)
    simp only [List.flatMap_cons, List.length_append, this, hs.1.2]
theorem bindersN_len {o : Int} {b b' : List Int} {a a' : List Alt} (hb : b.length = b'.length) (ha : a.length = a'.length) (hl : altsLike a a' = true) : (bindersN o b a).length = (bindersN o b' a').length := by
  unfold bindersN
  rw [List.length_append, List.length_append, altsLike_len hl ha]
  split <;> simp [hb]
theorem sameT_true {o n : Int} {b : List Int} {ks : List Tr} {a : List Alt} {t : Tr} {m : Nm} (h : (sameT (.mk o n b ks a) t m).1 = true) :
    (o = t.op ∧ ks.length = t.kids.length ∧ b.length = t.binds.length ∧ a.length = t.alts.length) ∧
    ((o = 0 ∧ sameVar m n t.n = true ∧ (sameT (.mk o n b ks a) t m).2 = m) ∨
     (o ≠ 0 ∧ n = t.n ∧ (o = 9 → b = t.binds) ∧ altsLike a t.alts = true ∧ (sameTs ks t.kids (putsN m (bindersN o b a) (bindersN t.op t.binds t.alts))).1 = true ∧
      (sameT (.mk o n b ks a) t m).2 = (sameTs ks t.kids (putsN m (bindersN o b a) (bindersN t.op t.binds t.alts))).2)) := by
  unfold sameT at h ⊢
  by_cases h1 : unlike o ks.length b.length a.length t = true
  · rw [if_pos h1] at h; cases h
  rw [if_neg h1] at h ⊢
  have h1' : o = t.op ∧ ks.length = t.kids.length ∧ b.length = t.binds.length ∧ a.length = t.alts.length := by
    simpa [unlike, and_assoc] using h1
  refine ⟨h1', ?_⟩
  by_cases h2 : o = 0
  · rw [if_pos h2] at h ⊢
    exact .inl ⟨h2, h, rfl⟩
  rw [if_neg h2] at h ⊢
  by_cases h3 : ((!(n == t.n)) || (o == 9 && !(b == t.binds))) = true
  · rw [if_pos h3] at h; cases h
  rw [if_neg h3] at h ⊢
  have h3' : n = t.n ∧ (o = 9 → b = t.binds) := by simpa using h3
  by_cases h4 : altsLike a t.alts = false
  · rw [if_pos h4] at h; cases h
  rw [if_neg h4] at h ⊢
  exact .inr ⟨h2, h3'.1, h3'.2, by simpa using h4, h, rfl⟩
end Go.CoreX
namespace Go.Proofs.YtgdionbeeodaaaaDoor
open Go Go.Abs Go.CoreX
set_option maxRecDepth 10000
variable {Γ : List (Nat × List AC)}
theorem ints_ne {xs ys : List Int} {j : Nat} {x y : Int} (h1 : xs[j]? = some x) (h2 : ys[j]? = some y) (h : x ≠ y) : (xs == ys) = false := by
  apply beq_eq_false_iff_ne.2
  rintro rfl
  rw [h1] at h2
  exact h (by simpa using h2)
theorem ints_eq {xs ys : List Int} (hl : xs.length = ys.length) (h : ∀ (j : Nat) (x y : Int), xs[j]? = some x → ys[j]? = some y → x = y) : (xs == ys) = true := by
  rw [beq_iff_eq]
  refine List.ext_getElem hl fun i h1 h2 => h i _ _ (List.getElem?_eq_getElem h1) (List.getElem?_eq_getElem h2)
theorem SameInts_ok (hΓ : ∀ g cs, (g, cs) ∈ Γ → idsL isO cs) (xs ys : List Int) (hx : xs.length ≤ 1048576) :
    APure Tryd.prog Γ 55 [.one (.sl 1 (xs.map cI)), .one (.sl 1 (ys.map cI))] (.one (.lit (.bool (xs == ys)))) := by
  intro ou
  refine AFn.walk 26 tabOk Tryd.func55 rfl (by kernel_rfl) rfl rfl fun hou => ?_
  refine zA ?_
  refine ACode.cond rfl (fun hb => ?_) (fun hb => ?_)
  · refine zA ?_
    refine APure.fin rfl (WkF.ofEq ?_) (by simp) hou rfl
    have : (xs == ys) = false := by
      apply beq_eq_false_iff_ne.2
      rintro rfl
      simp at hb
    rw [this]
  have hl : xs.length = ys.length := by simp at hb; omega
  clear hb
  refine zA ?_
  refine ACode.loopR hΓ (α := Nat) (fun j => [(13, .one (int j)), (12, .one (int (xs.map cI).length)), (1, .one (.sl 1 (ys.map cI))), (0, .one (.sl 1 (xs.map cI)))])
    (fun j => ⟨0, [], ou⟩) (fun m j => j ≤ xs.length ∧ (∀ (i : Nat) (x y : Int), i < j → xs[i]? = some x → ys[i]? = some y → x = y) ∧ m = xs.length - j) (a0 := 0) (ρ := id) ⟨by omega, fun i x y h => by omega, rfl⟩ (LessR.of rfl (by (repeat' first | exact FrSub.nil | refine zfc ?_ | refine zfo ?_ | refine zfp ?_)) (by simp) (by repeat' first | exact LoSub.nil | refine zlc ?_ | refine zld ?_ ?_ | rfl) rfl rfl hou) fun m j hj => ?_
  obtain ⟨hjl, hno, rfl⟩ := hj
  refine zA ?_
  refine ACode.cond rfl (fun hb2 => ?_) (fun hb2 => ?_)
  · have hlt : j < xs.length := by simpa using hb2
    obtain ⟨x, hx1⟩ := get_of_lt hlt
    obtain ⟨y, hy1⟩ := get_of_lt (l := ys) (i := j) (by omega)
    refine zA ?_
    refine ACode.drawX tabOk 8 [(2, .one (.box (cI x))), (6, .one (.box (cI y)))] follows (by kernel_rfl) rfl rfl rfl rfl ?_ ?_
    · refine .step rfl (HStep.plain rfl (AStep.indexAddr tabOk rfl rfl rfl rfl rfl rfl (.inl rfl) rfl (by omega) (map_get hx1))) ?_
      exact .step rfl (HStep.plain rfl (AStep.indexAddr tabOk rfl rfl rfl rfl rfl rfl (.inl rfl) rfl (by omega) (map_get hy1))) .nil
    refine zA ?_
    refine ACode.cond rfl (fun hb3 => ?_) (fun hb3 => ?_)
    · have hne : x ≠ y := by simpa using hb3
      refine zA ?_
      refine APure.fin rfl (WkF.ofEq ?_) (by simp) hou rfl
      rw [ints_ne hx1 hy1 hne]
    · have he : x = y := by simpa using hb3
      refine zM ?_
      refine cInv ⟨xs.length - (j + 1), j + 1, id, by omega, ⟨by omega, fun i x' y' hi h1 h2 => ?_, rfl⟩, LessR.of rfl (by (repeat' first | exact FrSub.nil | refine zfc ?_ | refine zfo ?_ | refine zfp ?_)) (by simp) (by repeat' first | exact LoSub.nil | refine zlc ?_ | refine zld ?_ ?_ | rfl) rfl rfl hou⟩
      by_cases e : i = j
      · subst e
        rw [hx1] at h1; rw [hy1] at h2
        cases h1; cases h2; exact he
      · exact hno i x' y' (by omega) h1 h2
  · have hlt : j = xs.length := by simp at hb2; omega
    subst hlt
    refine zA ?_
    refine APure.fin rfl (WkF.ofEq ?_) (by simp) hou rfl
    rw [ints_eq hl fun i x y h1 h2 => hno i x y (List.getElem?_eq_some_iff.1 h1).1 h1 h2]
theorem Equal_ok (hΓ : ∀ g cs, (g, cs) ∈ Γ → idsL isO cs) (xs ys : List Int) (hx : xs.length ≤ 1048576) :
    APure Tryd.prog Γ 62 [.one (.sl 1 (xs.map cI)), .one (.sl 1 (ys.map cI))] (.one (.lit (.bool (xs == ys)))) := by
  intro ou
  refine AFn.walk 26 tabOk Tryd.func62 rfl (by kernel_rfl) rfl rfl fun hou => ?_
  refine zA ?_
  refine ACode.cond rfl (fun hb => ?_) (fun hb => ?_)
  · refine zA ?_
    refine APure.fin rfl (WkF.ofEq ?_) (by simp) hou rfl
    have : (xs == ys) = false := by
      apply beq_eq_false_iff_ne.2
      rintro rfl
      simp at hb
    rw [this]
  have hl : xs.length = ys.length := by simp at hb; omega
  clear hb
  refine zA ?_
  refine ACode.loopR hΓ (α := Nat) (fun j => [(13, .one (int j)), (12, .one (int (xs.map cI).length)), (1, .one (.sl 1 (ys.map cI))), (0, .one (.sl 1 (xs.map cI)))])
    (fun j => ⟨0, [], ou⟩) (fun m j => j ≤ xs.length ∧ (∀ (i : Nat) (x y : Int), i < j → xs[i]? = some x → ys[i]? = some y → x = y) ∧ m = xs.length - j) (a0 := 0) (ρ := id) ⟨by omega, fun i x y h => by omega, rfl⟩ (LessR.of rfl (by (repeat' first | exact FrSub.nil | refine zfc ?_ | refine zfo ?_ | refine zfp ?_)) (by simp) (by repeat' first | exact LoSub.nil | refine zlc ?_ | refine zld ?_ ?_ | rfl) rfl rfl hou) fun m j hj => ?_
  obtain ⟨hjl, hno, rfl⟩ := hj
  refine zA ?_
  refine ACode.cond rfl (fun hb2 => ?_) (fun hb2 => ?_)
  · have hlt : j < xs.length := by simpa using hb2
    obtain ⟨x, hx1⟩ := get_of_lt hlt
    obtain ⟨y, hy1⟩ := get_of_lt (l := ys) (i := j) (by omega)
    refine zA ?_
    refine ACode.drawX tabOk 8 [(2, .one (.box (cI x))), (6, .one (.box (cI y)))] follows (by kernel_rfl) rfl rfl rfl rfl ?_ ?_
    · refine .step rfl (HStep.plain rfl (AStep.indexAddr tabOk rfl rfl rfl rfl rfl rfl (.inl rfl) rfl (by omega) (map_get hx1))) ?_
      exact .step rfl (HStep.plain rfl (AStep.indexAddr tabOk rfl rfl rfl rfl rfl rfl (.inl rfl) rfl (by omega) (map_get hy1))) .nil
    refine zA ?_
    refine ACode.cond rfl (fun hb3 => ?_) (fun hb3 => ?_)
    · have hne : x ≠ y := by simpa using hb3
      refine zA ?_
      refine APure.fin rfl (WkF.ofEq ?_) (by simp) hou rfl
      rw [ints_ne hx1 hy1 hne]
    · have he : x = y := by simpa using hb3
      refine zM ?_
      refine cInv ⟨xs.length - (j + 1), j + 1, id, by omega, ⟨by omega, fun i x' y' hi h1 h2 => ?_, rfl⟩, LessR.of rfl (by (repeat' first | exact FrSub.nil | refine zfc ?_ | refine zfo ?_ | refine zfp ?_)) (by simp) (by repeat' first | exact LoSub.nil | refine zlc ?_ | refine zld ?_ ?_ | rfl) rfl rfl hou⟩
      by_cases e : i = j
      · subst e
        rw [hx1] at h1; rw [hy1] at h2
        cases h1; cases h2; exact he
      · exact hno i x' y' (by omega) h1 h2
  · have hlt : j = xs.length := by simp at hb2; omega
    subst hlt
    refine zA ?_
    refine APure.fin rfl (WkF.ofEq ?_) (by simp) hou rfl
    rw [ints_eq hl fun i x y h1 h2 => hno i x y (List.getElem?_eq_some_iff.1 h1).1 h1 h2]
end Go.Proofs.YtgdionbeeodaaaaDoor
namespace Go.Proofs.YtgdionbeeodaaaaDoor
open Go Go.Abs Go.CoreX
set_option maxRecDepth 10000
variable {Γ : List (Nat × List AC)}
def ouN (ck : Nat) (l : List (Nat × Int × Int)) : Outer := ouOf [.map ck (encI eN l)]
theorem ouN_ok (ck : Nat) (l : List (Nat × Int × Int)) : OuOk (ouN ck l) := by
  intro k o h
  match k, h with
  | 0, h => cases h; exact ids_mapN _ _ _
  | k + 1, h => cases h
theorem ouN_set (ck ck' : Nat) (l l' : List (Nat × Int × Int)) : (fun j => bif Nat.beq j 0 then some (AObj.map ck' (encI eN l')) else ouN ck l j) = ouN ck' l' := by
  funext j
  match j with
  | 0 => rfl
  | k + 1 => rfl
theorem okT_tr {t : Tr} (h : okT t) : t.binds.length ≤ 1048576 ∧ t.kids.length ≤ 1048576 ∧ t.alts.length ≤ 1048576 ∧ (∀ x ∈ t.alts, x.binds.length ≤ 1048576) ∧ bindLen t ≤ 4194304 ∧ ∀ k ∈ t.kids, okT k := by
  cases t with
  | mk o n b k a =>
    obtain ⟨h1, h2, h3, h4, h5⟩ := h
    exact ⟨h1, h2, h3, h4.1, h4.2, okTs_iff.1 h5⟩
def SameOk (Γ : List (Nat × List AC)) (a b : Tr) : Prop := ∀ (m : Nm) (ck : Nat) (l : List (Nat × Int × Int)), IMOk m ck l → (sameT a b m).1 = true →
  AFn Tryd.prog Γ 90 [.one (.box (cTr a)), .one (.box (cTr b)), .one (.mp (.o 0))] (ouN ck l) (fun r ou' => r = .one (.lit (.bool true)) ∧ ∃ ck' l', ou' = ouN ck' l' ∧ IMOk (sameT a b m).2 ck' l')
set_option maxHeartbeats 2000000 in
theorem same_ok (hΓ : ∀ g cs, (g, cs) ∈ Γ → idsL isO cs) : ∀ a : Tr, okT a → ∀ b, okT b → SameOk Γ a b
  | .mk o n bs ks al, ha, t, ht => by
    have ha' := okT_tr ha
    obtain ⟨hbs, hks, hal, hab, hbl, hkk⟩ := ha'
    simp only [Tr.binds_mk, Tr.kids_mk, Tr.alts_mk] at hbs hks hal hab hkk
    have ih : ∀ x ∈ ks, ∀ y, okT y → SameOk Γ x y := fun x hx y hy => same_ok hΓ x (hkk x hx) y hy
    obtain ⟨htb, htk, hta, htab, htl, htkk⟩ := okT_tr ht
    intro m ck l hm hs
    obtain ⟨⟨e1, e2, e3, e4⟩, hcase⟩ := sameT_true hs
    refine AFn.walk 222 tabOk Tryd.func90 rfl (by kernel_rfl) rfl rfl fun hou => ?_
    refine zA ?_
    refine ACode.drawX tabOk 47 [(8, .one (.lit (.bool false))), (20, .one (.lit (.bool false))), (33, .one (.lit (.bool false))), (46, .one (.lit (.bool false)))] follows (by kernel_rfl) rfl rfl rfl rfl ?_ ?_
    · refine .step rfl (HStep.litB tabOk rfl (by simp [e1])) ?_
      refine .step rfl (HStep.litB tabOk rfl (by simp [e2])) ?_
      refine .step rfl (HStep.litB tabOk rfl (by simp [e3])) ?_
      exact .step rfl (HStep.litB tabOk rfl (by simp [e4])) .nil
    iterate 7 (first | ((with_reducible refine oj ?_); refine zau ?_) | (with_reducible refine zst ?_) | ((with_reducible refine cExitMiss ?_ ?_); rfl) | (with_reducible refine ok ?_; first | refine ACode.condT rfl ?_ | refine ACode.condF rfl ?_))
    refine ACode.cutR hΓ (α := Unit) (fun _ => [(2, .one (.mp (.o 0))), (1, .one (.box (cTr t))), (0, .one (.box (cTr (.mk o n bs ks al))))])
      (fun _ => ⟨0, [], ouN ck l⟩) (fun _ => o ≠ 0 ∧ altsLike al t.alts = true ∧ (sameTs ks t.kids (putsN m (bindersN o bs al) (bindersN t.op t.binds t.alts))).1 = true ∧ (sameT (.mk o n bs ks al) t m).2 = (sameTs ks t.kids (putsN m (bindersN o bs al) (bindersN t.op t.binds t.alts))).2) ?_ fun _ hc => ?_
    · refine zA ?_
      rcases hcase with ⟨h0, hv, hm2⟩ | ⟨h0, hn, h9, hal2, hts, hm2⟩
      · refine ACode.cond rfl (fun hb => ?_) (fun hb => absurd h0 (by simpa using hb))
        have hz := zeroN
        refine zA ?_
        refine AOps.step1 rfl rfl rfl (AStep.lookI eN (cm := true) (v := .one (int ((m n).getD 0))) rfl Tryd.underlying90 Tryd.underlying3 rfl rfl rfl (by kernel_rfl) zeroN hm (by simp only [Tr.n_mk]; cases m n <;> rfl)) ?_
        refine zA ?_
        cases hmn : m n with
        | some v =>
          have hvt : v = t.n := by simpa [sameVar, hmn] using hv
          refine ACode.wk 8 rfl (y := .one (.lit (.bool true))) (.ofEq (by simp [hmn])) ?_
          refine ACode.wk 7 rfl (y := .one (int v)) (.ofEq (by simp [hmn])) ?_
          refine ACode.drawX tabOk 24 [(7, .one (.lit (.bool true)))] follows (by kernel_rfl) rfl rfl rfl rfl ?_ ?_
          · exact .step rfl (HStep.litB tabOk rfl (by simp [hvt])) .nil
          refine zA ?_
          exact AFn.fin' rfl (WkF.refl _) (by simp) hou ⟨rfl, ck, l, rfl, by rw [hm2]; exact hm⟩
        | none =>
          have hvt : n = t.n := by simpa [sameVar, hmn] using hv
          refine ACode.wk 8 rfl (y := .one (.lit (.bool false))) (.ofEq (by simp [hmn])) ?_
          refine ACode.drawX tabOk 24 [(21, .one (.lit (.bool true)))] follows (by kernel_rfl) rfl rfl rfl rfl ?_ ?_
          · exact .step rfl (HStep.litB tabOk rfl (by simp [hvt])) .nil
          refine zA ?_
          exact AFn.fin' rfl (WkF.refl _) (by simp) hou ⟨rfl, ck, l, rfl, by rw [hm2]; exact hm⟩
      · refine ACode.cond rfl (fun hb => absurd (by simpa using hb) h0) (fun hb => ?_)
        refine zA ?_
        by_cases h9' : o = 9
        · have heq := Equal_ok hΓ bs t.binds hbs
          rw [h9 h9'] at heq
          have e9 : (t.binds == t.binds) = true := by simp
          rw [e9] at heq
          refine ACode.drawX tabOk 28 [(8, .one (.lit (.bool false))), (14, .one (.lit (.bool true))), (24, .one (.lit (.bool true)))] follows (by kernel_rfl) rfl rfl rfl rfl ?_ ?_
          · refine .step rfl (HStep.litB tabOk rfl (by simp [hn])) ?_
            refine .step rfl (HStep.litB tabOk rfl (by simp [h9'])) ?_
            exact .step rfl (HStep.guarded rfl rfl rfl (AStep.callP hΓ rfl rfl rfl (by rw [h9 h9']; rfl) (by simp) hou heq)) .nil
          refine zA ?_
          exact cInv ⟨(), id, ⟨h0, hal2, hts, hm2⟩, LessR.of rfl (by (repeat' first | exact FrSub.nil | refine zfc ?_ | refine zfo ?_ | refine zfp ?_)) (by simp) .nil rfl rfl hou⟩
        · refine ACode.drawX tabOk 28 [(8, .one (.lit (.bool false))), (14, .one (.lit (.bool false)))] follows (by kernel_rfl) rfl rfl rfl rfl ?_ ?_
          · refine .step rfl (HStep.litB tabOk rfl (by simp [hn])) ?_
            exact .step rfl (HStep.litB tabOk rfl (by simp [h9'])) .nil
          refine zA ?_
          exact cInv ⟨(), id, ⟨h0, hal2, hts, hm2⟩, LessR.of rfl (by (repeat' first | exact FrSub.nil | refine zfc ?_ | refine zfo ?_ | refine zfp ?_)) (by simp) .nil rfl rfl hou⟩
    obtain ⟨h0, hal2, hts, hm2⟩ := hc
    clear hcase hs
    refine zA ?_
    refine ACode.loopR hΓ (α := Nat) (fun i => [(135, .one (int i)), (134, .one (int (al.map cAlt).length)), (2, .one (.mp (.o 0))), (1, .one (.box (cTr t))), (0, .one (.box (cTr (.mk o n bs ks al))))])
      (fun i => ⟨0, [], ouN ck l⟩) (fun m i => i ≤ al.length ∧ m = al.length - i) (a0 := 0) (ρ := id) ⟨by omega, rfl⟩ (LessR.of rfl (by (repeat' first | exact FrSub.nil | refine zfc ?_ | refine zfo ?_ | refine zfp ?_)) (by simp) .nil rfl rfl hou) fun m' i hi => ?_
    obtain ⟨hil, rfl⟩ := hi
    refine zA ?_
    refine ACode.cond rfl (fun hb3 => ?_) (fun hb3 => ?_)
    · have hlt : i < al.length := by simpa using hb3
      obtain ⟨x, hx⟩ := get_of_lt hlt
      obtain ⟨y, hy⟩ := get_of_lt (l := t.alts) (i := i) (by omega)
      obtain ⟨q1, q2⟩ := altsLike_at hal2 hx hy
      refine zA ?_
      refine ACode.drawX tabOk 37 [(5, .one (.box (cAlt x))), (13, .one (.box (cAlt y))), (16, .one (.lit (.bool false))), (23, .one (.box (cAlt x))), (32, .one (.box (cAlt y))), (36, .one (.lit (.bool false)))] follows (by kernel_rfl) rfl rfl rfl rfl ?_ ?_
      · refine .step rfl (HStep.plain rfl (AStep.indexAddr tabOk rfl rfl rfl rfl rfl rfl (.inl rfl) rfl (by omega) (map_get hx))) ?_
        refine .step rfl (HStep.plain rfl (AStep.indexAddr tabOk rfl rfl rfl rfl rfl rfl (.inl rfl) rfl (by omega) (map_get hy))) ?_
        refine .step rfl (HStep.litB tabOk rfl (by simp [q1])) ?_
        refine .step rfl (HStep.guarded rfl rfl rfl (AStep.indexAddr tabOk rfl rfl rfl rfl rfl rfl (.inl rfl) rfl (by omega) (map_get hx))) ?_
        refine .step rfl (HStep.guarded rfl rfl rfl (AStep.indexAddr tabOk rfl rfl rfl rfl rfl rfl (.inl rfl) rfl (by omega) (map_get hy))) ?_
        exact .step rfl (HStep.litB tabOk rfl (by simp [q2])) .nil
      refine zM ?_
      exact cInv ⟨al.length - (i + 1), i + 1, id, by omega, ⟨by omega, rfl⟩, LessR.of rfl (by (repeat' first | exact FrSub.nil | refine zfc ?_ | refine zfo ?_ | refine zfp ?_)) (by simp) .nil rfl rfl hou⟩
    clear hb3
    have hlen := bindersN_len (o := o) e3 e4 hal2
    have hB1 := Binders_ok hΓ (.mk o n bs ks al) hbl hal
    have hB2 := Binders_ok hΓ t htl hta
    have hbn : (bindersN o bs al).length ≤ 4194304 := by
      unfold bindLen at hbl
      simp only [Tr.binds_mk, Tr.alts_mk] at hbl
      unfold bindersN
      rw [List.length_append]
      split
      · omega
      · simp only [List.length_nil]; omega
    simp only [Tr.op_mk, Tr.binds_mk, Tr.alts_mk] at hB1
    rw [← e1] at hB2 hts hm2
    generalize bindersN o bs al = L1 at hlen hB1 hts hm2 hbn
    generalize bindersN o t.binds t.alts = L2 at hlen hB2 hts hm2
    refine zA ?_
    refine zca hΓ hB1 hou ?_
    refine zA ?_
    refine zca hΓ hB2 hou ?_
    refine zA ?_
    refine ACode.loopR hΓ (α := Nat × Nat × List (Nat × Int × Int)) (fun c => [(183, .one (int c.1)), (182, .one (int (L1.map cI).length)), (11, .one (.sl 1 (L2.map cI))), (10, .one (.sl 1 (L1.map cI))), (2, .one (.mp (.o 0))), (1, .one (.box (cTr t))), (0, .one (.box (cTr (.mk o n bs ks al))))])
      (fun c => ⟨0, [], ouN c.2.1 c.2.2⟩) (fun m' c => c.1 ≤ L1.length ∧ IMOk (putsN m (L1.take c.1) (L2.take c.1)) c.2.1 c.2.2 ∧ m' = L1.length - c.1) (a0 := (0, ck, l)) (ρ := id) ⟨by omega, by simpa [putsN] using hm, rfl⟩ (LessR.of rfl (by (repeat' first | exact FrSub.nil | refine zfc ?_ | refine zfo ?_ | refine zfp ?_)) (by simp) .nil rfl rfl hou) fun m' c hi => ?_
    clear hm hou
    obtain ⟨i, ck, l⟩ := c
    obtain ⟨hil, hm, rfl⟩ := hi
    simp only at hil hm
    have hou : OuOk (ouN ck l) := ouN_ok _ _
    refine zA ?_
    refine ACode.cond rfl (fun hb3 => ?_) (fun hb3 => ?_)
    · have hlt : i < L1.length := by simpa using hb3
      obtain ⟨x, hx⟩ := get_of_lt hlt
      obtain ⟨y, hy⟩ := get_of_lt (l := L2) (i := i) (by omega)
      refine zA ?_
      refine ACode.drawX tabOk 9 [(3, .one (.box (cI x))), (7, .one (.box (cI y)))] follows (by kernel_rfl) rfl rfl rfl rfl ?_ ?_
      · refine .step rfl (HStep.plain rfl (AStep.indexAddr tabOk rfl rfl rfl rfl rfl rfl (.inl rfl) rfl (by omega) (map_get hx))) ?_
        exact .step rfl (HStep.plain rfl (AStep.indexAddr tabOk rfl rfl rfl rfl rfl rfl (.inl rfl) rfl (by omega) (map_get hy))) .nil
      refine AOps.putI eN (v := y) rfl rfl rfl Tryd.underlying90 Tryd.underlying3 rfl rfl rfl rfl hm fun ck' l' hm' => ?_
      refine zM ?_
      refine cInv ⟨L1.length - (i + 1), (i + 1, ck', l'), id, by omega, ⟨by omega, ?_, rfl⟩, LessR.of rfl (by (repeat' first | exact FrSub.nil | refine zfc ?_ | refine zfo ?_ | refine zfp ?_)) (by simp) .nil rfl (ouN_set ck ck' l l').symm (by rw [show (St.set ⟨0, [], ouN ck l⟩ (.o 0) (.map ck' (encI eN l'))).ou = ouN ck' l' from ouN_set ck ck' l l']; exact ouN_ok _ _)⟩
      rw [putsN_succ hx hy]; exact hm'
    have hlt : i = L1.length := by simp at hb3; omega
    subst hlt
    rw [List.take_length, hlen, List.take_length] at hm
    generalize putsN m L1 L2 = m1 at hm hts hm2
    clear hb3
    refine zA ?_
    refine ACode.loopR hΓ (α := Nat × Nat × List (Nat × Int × Int)) (fun c => [(201, .one (int c.1)), (200, .one (int (encTrs ks).length)), (2, .one (.mp (.o 0))), (1, .one (.box (cTr t))), (0, .one (.box (cTr (.mk o n bs ks al))))])
      (fun c => ⟨0, [], ouN c.2.1 c.2.2⟩) (fun m' c => c.1 ≤ ks.length ∧ IMOk (sameTs (ks.take c.1) (t.kids.take c.1) m1).2 c.2.1 c.2.2 ∧ m' = ks.length - c.1) (a0 := (0, ck, l)) (ρ := id) ⟨by omega, by simpa [sameTs] using hm, rfl⟩ (LessR.of rfl (by (repeat' first | exact FrSub.nil | refine zfc ?_ | refine zfo ?_ | refine zfp ?_)) (by simp) .nil rfl rfl hou) fun m' c hi => ?_
    clear hm hou
    obtain ⟨i, ck, l⟩ := c
    obtain ⟨hil, hm, rfl⟩ := hi
    simp only at hil hm
    have hou : OuOk (ouN ck l) := ouN_ok _ _
    refine zA ?_
    refine ACode.cond rfl (fun hb3 => ?_) (fun hb3 => ?_)
    · have hlt : i < ks.length := by simpa using hb3
      obtain ⟨x, hx⟩ := get_of_lt hlt
      obtain ⟨y, hy⟩ := get_of_lt (l := t.kids) (i := i) (by omega)
      obtain ⟨q1, q2⟩ := sameTs_step hts hx hy
      have hcall := ih x (List.mem_of_getElem? hx) y (htkk y (List.mem_of_getElem? hy)) _ ck l hm q1
      refine zA ?_
      refine ACode.drawX tabOk 15 [(5, .one (.box (cB x))), (12, .one (.box (cB y)))] follows (by kernel_rfl) rfl rfl rfl rfl ?_ ?_
      · refine .step rfl (HStep.plain rfl (AStep.indexAddr tabOk rfl rfl rfl rfl rfl rfl (.inl rfl) rfl (by omega) (encTrs_get hx))) ?_
        exact .step rfl (HStep.plain rfl (AStep.indexAddr tabOk rfl rfl rfl rfl rfl rfl (.inl rfl) rfl (by omega) (encTrs_get hy))) .nil
      refine AOps.call1 hΓ rfl rfl rfl rfl rfl rfl rfl (by simp) hou hcall fun r ou' hq hids hou' => ?_
      obtain ⟨rfl, ck', l', rfl, hm'⟩ := hq
      refine zM ?_
      refine cInv ⟨ks.length - (i + 1), (i + 1, ck', l'), id, by omega, ⟨by omega, ?_, rfl⟩, LessR.of rfl (by (repeat' first | exact FrSub.nil | refine zfc ?_ | refine zfo ?_ | refine zfp ?_)) (by simp) .nil rfl rfl hou'⟩
      rw [q2]; exact hm'
    · have hlt : i = ks.length := by simp at hb3; omega
      subst hlt
      rw [List.take_length, e2, List.take_length] at hm
      refine zA ?_
      exact AFn.fin' rfl (WkF.refl _) (by simp) hou ⟨rfl, ck, l, rfl, by rw [hm2]; exact hm⟩
end Go.Proofs.YtgdionbeeodaaaaDoor
namespace Go.Proofs
open Go.Shelf
def Tryd.lays189_ren : Go.Shelf.Ren := ⟨fun | 189 => 106 | 125 => 101 | 257 => 130 | 128 => 126 | 129 => 127 | 294 => 138 | 295 => 139 | 296 => 140 | 297 => 141 | 298 => 142 | 299 => 143 | 216 => 144 | 300 => 145 | 301 => 146 | 328 => 149 | 329 => 132 | 330 => 133 | 331 => 150 | 332 => 151 | 215 => 102 | 343 => 152 | n => n, fun | 28 => 35 | 3 => 3 | 46 => 135 | 0 => 0 | 51 => 154 | 53 => 156 | 4 => 4 | 183 => 148 | 182 => 147 | 131 => 127 | 5 => 5 | 9 => 9 | 218 => 160 | 222 => 164 | 228 => 174 | 229 => 175 | n => n, fun | n => n⟩
theorem Tryd.lays189 : Go.Proofs.Lays.n189 Tryd.prog Tryd.lays189_ren := {
  mixed := by kernel_rfl
  f125 := Tryd.func101.trans (congrArg some (by kernel_rfl))
  f128 := Tryd.func126.trans (congrArg some (by kernel_rfl))
  f129 := Tryd.func127.trans (congrArg some (by kernel_rfl))
  f189 := Tryd.func106.trans (congrArg some (by kernel_rfl))
  f215 := Tryd.func102.trans (congrArg some (by kernel_rfl))
  f216 := Tryd.func144.trans (congrArg some (by kernel_rfl))
  f257 := Tryd.func130.trans (congrArg some (by kernel_rfl))
  f294 := Tryd.func138.trans (congrArg some (by kernel_rfl))
  f295 := Tryd.func139.trans (congrArg some (by kernel_rfl))
  f296 := Tryd.func140.trans (congrArg some (by kernel_rfl))
  f297 := Tryd.func141.trans (congrArg some (by kernel_rfl))
  f298 := Tryd.func142.trans (congrArg some (by kernel_rfl))
  f299 := Tryd.func143.trans (congrArg some (by kernel_rfl))
  f300 := Tryd.func145.trans (congrArg some (by kernel_rfl))
  f301 := Tryd.func146.trans (congrArg some (by kernel_rfl))
  f328 := Tryd.func149.trans (congrArg some (by kernel_rfl))
  f329 := Tryd.func132.trans (congrArg some (by kernel_rfl))
  f330 := Tryd.func133.trans (congrArg some (by kernel_rfl))
  f331 := Tryd.func150.trans (congrArg some (by kernel_rfl))
  f332 := Tryd.func151.trans (congrArg some (by kernel_rfl))
  f343 := Tryd.func152.trans (congrArg some (by kernel_rfl))
  t0 := Tryd.underlying0
  a0 := Tryd.isAgg0
  z0 := Tryd.sizeOf0
  v0 := Tryd.zeroValue0
  t3 := Tryd.underlying3
  a3 := Tryd.isAgg3
  z3 := Tryd.sizeOf3
  v3 := Tryd.zeroValue3
  t4 := Tryd.underlying4
  a4 := Tryd.isAgg4
  z4 := Tryd.sizeOf4
  v4 := Tryd.zeroValue4
  t5 := Tryd.underlying5
  a5 := Tryd.isAgg5
  z5 := Tryd.sizeOf5
  v5 := Tryd.zeroValue5
  t9 := Tryd.underlying9
  a9 := Tryd.isAgg9
  z9 := Tryd.sizeOf9
  v9 := Tryd.zeroValue9
  t28 := Tryd.underlying35
  a28 := Tryd.isAgg35
  z28 := Tryd.sizeOf35
  v28 := Tryd.zeroValue35
  t46 := Tryd.underlying135
  a46 := Tryd.isAgg135
  z46 := Tryd.sizeOf135
  v46 := Tryd.zeroValue135
  t51 := Tryd.underlying154
  a51 := Tryd.isAgg154
  z51 := Tryd.sizeOf154
  v51 := Tryd.zeroValue154
  t53 := Tryd.underlying156
  a53 := Tryd.isAgg156
  z53 := Tryd.sizeOf156
  v53 := Tryd.zeroValue156
  t131 := Tryd.underlying127
  a131 := Tryd.isAgg127
  z131 := Tryd.sizeOf127
  v131 := Tryd.zeroValue127
  t182 := Tryd.underlying147
  a182 := Tryd.isAgg147
  z182 := Tryd.sizeOf147
  v182 := Tryd.zeroValue147
  t183 := Tryd.underlying148
  a183 := Tryd.isAgg148
  z183 := Tryd.sizeOf148
  v183 := Tryd.zeroValue148
  t218 := Tryd.underlying160
  a218 := Tryd.isAgg160
  z218 := Tryd.sizeOf160
  v218 := Tryd.zeroValue160
  t222 := Tryd.underlying164
  a222 := Tryd.isAgg164
  z222 := Tryd.sizeOf164
  v222 := Tryd.zeroValue164
  t228 := Tryd.underlying174
  a228 := Tryd.isAgg174
  z228 := Tryd.sizeOf174
  v228 := Tryd.zeroValue174
  t229 := Tryd.underlying175
  a229 := Tryd.isAgg175
  z229 := Tryd.sizeOf175
  v229 := Tryd.zeroValue175 }
open Go.Sort Go.RowKit in
theorem Tryd.slices_Sort_int (blk off cap : Nat) (zs : List Int) (w : World) (hH : Holds (Value.int .i64) w blk off zs.toArray) (hblk : blk < w.heap.size) (hsz : zs.length < 4611686018427387904) :
    Calls Tryd.prog 106 #[.slice (some ⟨blk, off, none⟩) zs.length cap] w fun e w' =>
      e = .returned (.tuple #[]) ∧ ∃ n os, w' = grow (putRow (Value.int .i64) (Sort.ahead w n) blk off (zs.mergeSort fun x y => decide (x ≤ y)).toArray) os := Any.slices_Sort_int Tryd.lays189 blk off cap zs w hH hblk hsz
theorem Tryd.slices_Sort_int_none (p : Option Addr) (cap : Nat) (w : World) :
    Calls Tryd.prog 106 #[.slice p 0 cap] w fun e w' => e = .returned (.tuple #[]) ∧ w' = w := Any.slices_Sort_int_none Tryd.lays189 p cap w
end Go.Proofs
namespace Go.Proofs.YtgdionbeeodaaaaDoor
open Go Go.Sort
theorem sortOk : SortOk := fun blk off cap zs w hH hblk hsz => Tryd.slices_Sort_int blk off cap zs w hH hblk hsz
theorem sortNil : SortNil := fun w => Tryd.slices_Sort_int_none none 0 w
end Go.Proofs.YtgdionbeeodaaaaDoor
namespace Go.CoreX
theorem okT_grow {e : List Ex} (h : ∀ x ∈ e, x.binds.length ≤ 1048576 ∧ x.kids.length ≤ 1048576 ∧ x.alts.length ≤ 1048576 ∧ (∀ a ∈ x.alts, a.binds.length ≤ 1048576) ∧ x.binds.length + (x.alts.flatMap (·.binds)).length ≤ 4194304) (hk : kidsIn e) : ∀ t ∈ growL e, okT t := by
  revert h hk
  refine snoc_ind (P := fun e => (∀ x ∈ e, x.binds.length ≤ 1048576 ∧ x.kids.length ≤ 1048576 ∧ x.alts.length ≤ 1048576 ∧ (∀ a ∈ x.alts, a.binds.length ≤ 1048576) ∧ x.binds.length + (x.alts.flatMap (·.binds)).length ≤ 4194304) → kidsIn e → ∀ t ∈ growL e, okT t) (fun _ _ t ht => by simp [growL] at ht) (fun e x ih h hk t ht => ?_) e
  obtain ⟨h1, h2⟩ := kidsIn_snoc.1 hk
  have ih := ih (fun y hy => h y (by simp [hy])) h1
  rw [growL_snoc] at ht
  rcases List.mem_append.1 ht with ht | ht
  · exact ih t ht
  · simp at ht
    subst ht
    obtain ⟨a1, a2, a3, a4, a5⟩ := h x (by simp)
    refine ⟨a1, by simpa using a2, a3, ⟨a4, a5⟩, okTs_iff.2 fun s hs => ?_⟩
    obtain ⟨k, hk2, rfl⟩ := List.mem_map.1 hs
    have hkb := h2 k hk2
    have hl : k.toNat < (growL e).length := by rw [growL_len]; omega
    rw [List.getD_eq_getElem?_getD, List.getElem?_eq_getElem hl]
    exact ih _ (List.getElem_mem hl)
theorem grow_mem {e : List Ex} (h : e ≠ []) : grow e ∈ growL e := by
  have hl : e.length - 1 < (growL e).length := by rw [growL_len]; have := List.length_pos_iff.2 h; omega
  unfold grow
  rw [List.getD_eq_getElem?_getD, List.getElem?_eq_getElem hl]
  exact List.getElem_mem hl
theorem firstErr_at {α : Type} {f : α → Int} : ∀ {l : List α} {j : Nat} {x : α}, (∀ y ∈ l.take j, f y = 0) → l[j]? = some x → f x ≠ 0 → firstErr f l = f x
  | [], j, x, _, h, _ => by simp at h
  | a :: l, 0, x, _, h, hx => by simp at h; subst h; simp [firstErr, hx]
  | a :: l, j + 1, x, h0, h, hx => by
    have h1 := h0 a (by simp)
    simp only [firstErr, h1]
    exact firstErr_at (l := l) (j := j) (fun y hy => h0 y (by simp [hy])) (by simpa using h) hx
theorem freeOf_len (t : Tr) : (freeOf t).length ≤ (listT [] t).length := by
  have h1 : (freeOf t).Nodup := (sortS_sorted (occT [] t)).imp fun {a b} h => by omega
  have h2 := nodup_le h1 (m := occB (fun _ => 0) t) fun x hx => by rw [freeOf_occB] at hx; exact (sortS_mem x _).1 hx
  have h3 := occB_len t (fun _ => 0) []
  simp at h3
  omega
theorem len_tree {e : List Ex} (h : IsTree e) : (listT [] (grow e)).length = e.length := by
  have hp := labs_perm h (isTree_list (grow e)) (grow_list _).symm
  rw [← len_labs e, ← len_labs]; exact hp.length_eq.symm
end Go.CoreX
namespace Go.Proofs.YtgdionbeeodaaaaDoor
open Go Go.Abs Go.CoreX
set_option maxRecDepth 10000
structure okB (e : List Ex) : Prop where
  eo : okE e
  b : ∀ x ∈ e, x.binds.length + (x.alts.flatMap (·.binds)).length ≤ 4194304
theorem okB.ex {e : List Ex} (h : okB e) : ∀ x ∈ e, (exBinders x).length ≤ 4194304 ∧ x.binds.length + (x.alts.flatMap (·.binds)).length ≤ 4194304 := fun x hx => by
  have h1 := h.b x hx
  refine ⟨?_, h1⟩
  unfold exBinders bindersN
  rw [List.length_append]
  split
  · omega
  · simp only [List.length_nil]; omega
theorem okB.t {e : List Ex} (h : okB e) (hk : kidsIn e) (hne : e ≠ []) : okT (grow e) := okT_grow (fun x hx => ⟨(h.eo.x x hx).b, (h.eo.x x hx).k, (h.eo.x x hx).a, (h.eo.x x hx).ab, h.b x hx⟩) hk _ (grow_mem hne)
theorem hΓcF : ∀ g cs, (g, cs) ∈ Γc → idsL (fun _ => False) cs := fun g cs h => by
  simp [Γc] at h
  first
    | (obtain ⟨rfl, rfl⟩ := h; simp [arC, arityL]; done)
    | (rcases h with ⟨rfl, rfl⟩ | ⟨rfl, rfl⟩ <;> simp [arC, orC, arityL])
set_option maxHeartbeats 1000000 in
theorem Body_ok (e : List Ex) (he : okB e) (params : List Int) (hp : params.length ≤ 1048576) (flat : Bool) :
    APure Tryd.prog Γc 45 [.one (.sl 5 (e.map cEx)), .one (.sl 1 (params.map cI)), .one (.lit (.bool flat))] (.one (int (body e params flat))) := by
  have hel := he.eo.l
  intro ou
  refine AFn.walk 62 tabOk Tryd.func45 rfl (by kernel_rfl) rfl rfl fun hou => ?_
  refine zA ?_
  refine AOps.freeze1 (.l 0) 3 rfl rfl ?_
  refine zca hΓc (treeError_ok hΓc e he.eo) hou ?_
  refine zA ?_
  refine ACode.cond rfl (fun hb => ?_) (fun hb => ?_)
  · have hb' : treeErr e ≠ 0 := by simpa using hb
    refine zA ?_
    refine APure.fin rfl (WkF.ofEq ?_) (by simp) hou rfl
    unfold body
    rw [if_pos hb']
  have h1 : treeErr e = 0 := by simpa using hb
  clear hb
  obtain ⟨t1, t2, t3⟩ := (treeErr_iff e).1 h1
  have hn : body e params flat = if firstErr (nodeErrF flat e) e ≠ 0 then firstErr (nodeErrF flat e) e else if hasDup (params ++ allBinders e) = true then 7 else if (freeOf (grow e)).all (fun n => params.contains n) = true then 0 else 6 := by
    unfold body; rw [if_neg (by simpa using h1)]
  refine zA ?_
  refine ACode.loopR hΓc (α := Nat) (fun j => [(20, .one (int j)), (19, .one (int (e.map cEx).length)), (18, .one (.sl 5 (e.map cEx))), (3, .one (.box [.sl 5 (e.map cEx)])), (2, .one (.lit (.bool flat))), (1, .one (.sl 1 (params.map cI)))])
    (fun j => ⟨0, [], ou⟩) (fun m j => j ≤ e.length ∧ (∀ x ∈ e.take j, nodeErrF flat e x = 0) ∧ m = e.length - j) (a0 := 0) (ρ := id) ⟨by omega, by simp, rfl⟩ (LessR.of rfl (by (repeat' first | exact FrSub.nil | refine zfc ?_ | refine zfo ?_ | refine zfp ?_)) (by simp) (by repeat' first | exact LoSub.nil | refine zlc ?_ | refine zld ?_ ?_ | rfl) rfl rfl hou) fun m j hj => ?_
  obtain ⟨hjl, hno, rfl⟩ := hj
  refine zA ?_
  refine ACode.cond rfl (fun hb2 => ?_) (fun hb2 => ?_)
  · have hlt : j < e.length := by simpa using hb2
    obtain ⟨x, hx⟩ := get_of_lt hlt
    have hxm := List.mem_of_getElem? hx
    have hxo := he.eo.x x hxm
    have bad : nodeErrF flat e x ≠ 0 → body e params flat = nodeErrF flat e x := fun h => by
      rw [hn, firstErr_at hno hx h, if_pos h]
    have hkk : ∀ k ∈ x.kids, 0 ≤ k ∧ k.toNat < e.length := fun k hk => by have := kids_lt t2.k hxm k hk; omega
    have hcall := nodeError_ok e x hxo hkk
    refine zA ?_
    refine AOps.step1 rfl rfl rfl (AStep.indexAddr tabOk rfl rfl rfl rfl rfl rfl (.inl rfl) rfl (by omega) (map_get hx)) ?_
    cases flat with
    | false =>
      have hE : nodeErrF false e x = if flatOnly x.op = true then 3 else nodeErr e x := by simp [nodeErrF]
      repeat' first | refine zN ?_ | (with_reducible refine oj ?_; refine AOps.splitS rfl rfl rfl rfl (fun hb => ?_) (fun hb => ?_)) | (with_reducible refine ok ?_; first | refine ACode.condS rfl (fun hb => ?_) (fun hb => ?_) | refine ACode.cond rfl (fun hb => ?_) (fun hb => ?_))
      refine zca hΓc (flatOnly_ok x.op) hou ?_
      repeat' first | refine zN ?_ | (with_reducible refine oj ?_; refine AOps.splitS rfl rfl rfl rfl (fun hb => ?_) (fun hb => ?_)) | (with_reducible refine ok ?_; first | refine ACode.condS rfl (fun hb => ?_) (fun hb => ?_) | refine ACode.cond rfl (fun hb => ?_) (fun hb => ?_))
      all_goals try
        (refine APure.fin rfl (WkF.ofEq ?_) (by simp) hou rfl
         rw [bad (by rw [hE, if_pos hb]; decide), hE, if_pos hb]
         done)
      rw [if_neg (by rw [hb]; decide)] at hE
      refine zca hΓc hcall hou ?_
      refine zA ?_
      refine ACode.cond rfl (fun hb3 => ?_) (fun hb3 => ?_)
      · have h3 : nodeErr e x ≠ 0 := by simpa using hb3
        refine zA ?_
        refine APure.fin rfl (WkF.ofEq ?_) (by simp) hou rfl
        rw [bad (by rw [hE]; exact h3), hE]
      · have h3 : nodeErr e x = 0 := by simpa using hb3
        refine zM ?_
        exact cInv ⟨e.length - (j + 1), j + 1, id, by omega, ⟨by omega, take_all hno hx (by rw [hE]; exact h3), rfl⟩, LessR.of rfl (by (repeat' first | exact FrSub.nil | refine zfc ?_ | refine zfo ?_ | refine zfp ?_)) (by simp) (by repeat' first | exact LoSub.nil | refine zlc ?_ | refine zld ?_ ?_ | rfl) rfl rfl hou⟩
    | true =>
      have hE : nodeErrF true e x = if coreOnly x.op = true then 3 else nodeErr e x := by simp [nodeErrF]
      repeat' first | refine zN ?_ | (with_reducible refine oj ?_; refine AOps.splitS rfl rfl rfl rfl (fun hb => ?_) (fun hb => ?_)) | (with_reducible refine ok ?_; first | refine ACode.condS rfl (fun hb => ?_) (fun hb => ?_) | refine ACode.cond rfl (fun hb => ?_) (fun hb => ?_))
      refine zca hΓc (coreOnly_ok x.op) hou ?_
      repeat' first | refine zN ?_ | (with_reducible refine oj ?_; refine AOps.splitS rfl rfl rfl rfl (fun hb => ?_) (fun hb => ?_)) | (with_reducible refine ok ?_; first | refine ACode.condS rfl (fun hb => ?_) (fun hb => ?_) | refine ACode.cond rfl (fun hb => ?_) (fun hb => ?_))
      all_goals try
        (refine APure.fin rfl (WkF.ofEq ?_) (by simp) hou rfl
         rw [bad (by rw [hE, if_pos hb]; decide), hE, if_pos hb]
         done)
      rw [if_neg (by rw [hb]; decide)] at hE
      refine zca hΓc hcall hou ?_
      refine zA ?_
      refine ACode.cond rfl (fun hb3 => ?_) (fun hb3 => ?_)
      · have h3 : nodeErr e x ≠ 0 := by simpa using hb3
        refine zA ?_
        refine APure.fin rfl (WkF.ofEq ?_) (by simp) hou rfl
        rw [bad (by rw [hE]; exact h3), hE]
      · have h3 : nodeErr e x = 0 := by simpa using hb3
        refine zM ?_
        exact cInv ⟨e.length - (j + 1), j + 1, id, by omega, ⟨by omega, take_all hno hx (by rw [hE]; exact h3), rfl⟩, LessR.of rfl (by (repeat' first | exact FrSub.nil | refine zfc ?_ | refine zfo ?_ | refine zfp ?_)) (by simp) (by repeat' first | exact LoSub.nil | refine zlc ?_ | refine zld ?_ ?_ | rfl) rfl rfl hou⟩
  have hlt : j = e.length := by simp at hb2; omega
  subst hlt
  rw [List.take_length] at hno
  rw [if_neg (by rw [Classical.not_not]; exact (firstErr_zero _ _).2 hno)] at hn
  clear hno hb2 hjl
  have hgt := he.t t2.k t2.ne
  refine zA ?_
  refine zca hΓc (twice_ok hΓc e he.eo params hp he.ex) hou ?_
  refine zA ?_
  refine ACode.cond rfl (fun hb => ?_) (fun hb => ?_)
  · refine zA ?_
    refine APure.fin rfl (WkF.ofEq ?_) (by simp) hou rfl
    rw [hn, if_pos hb]
  rw [if_neg (by rw [hb]; decide)] at hn
  refine zA ?_
  refine zca hΓc (Grow_ok hΓc e he.eo t2.k t2.ne) hou ?_
  refine zca hΓc (FreeOf_ok hΓc hΓcF sortOk sortNil (grow e) hgt (by omega) (by rw [len_tree t2]; omega)) hou ?_
  have hfl := freeOf_len (grow e)
  rw [len_tree t2] at hfl
  generalize freeOf (grow e) = fs at hn hfl
  refine zA ?_
  refine ACode.loopR hΓc (α := Nat) (fun j => [(53, .one (int j)), (52, .one (int (fs.map cI).length)), (51, .one (.sl 1 (fs.map cI))), (1, .one (.sl 1 (params.map cI)))])
    (fun j => ⟨0, [], ou⟩) (fun m j => j ≤ fs.length ∧ (∀ x ∈ fs.take j, params.contains x = true) ∧ m = fs.length - j) (a0 := 0) (ρ := id) ⟨by omega, by simp, rfl⟩ (LessR.of rfl (by (repeat' first | exact FrSub.nil | refine zfc ?_ | refine zfo ?_ | refine zfp ?_)) (by simp) (by repeat' first | exact LoSub.nil | refine zlc ?_ | refine zld ?_ ?_ | rfl) rfl rfl hou) fun m j hj => ?_
  obtain ⟨hjl, hno, rfl⟩ := hj
  refine zA ?_
  refine ACode.cond rfl (fun hb2 => ?_) (fun hb2 => ?_)
  · have hlt : j < fs.length := by simpa using hb2
    obtain ⟨k, hk⟩ := get_of_lt hlt
    refine zA ?_
    refine AOps.step1 rfl rfl rfl (AStep.indexAddr tabOk rfl rfl rfl rfl rfl rfl (.inl rfl) rfl (by omega) (map_get hk)) ?_
    refine zA ?_
    refine zca hΓc (Contains_ok hΓc params hp k) hou ?_
    refine zA ?_
    refine ACode.cond rfl (fun hb3 => ?_) (fun hb3 => ?_)
    · refine zA ?_
      refine APure.fin rfl (WkF.ofEq ?_) (by simp) hou rfl
      rw [hn, if_neg]
      rw [List.all_eq_true]
      intro h
      have := h k (List.mem_of_getElem? hk)
      rw [this] at hb3; cases hb3
    · refine zM ?_
      exact cInv ⟨fs.length - (j + 1), j + 1, id, by omega, ⟨by omega, take_all hno hk (by simpa using hb3), rfl⟩, LessR.of rfl (by (repeat' first | exact FrSub.nil | refine zfc ?_ | refine zfo ?_ | refine zfp ?_)) (by simp) (by repeat' first | exact LoSub.nil | refine zlc ?_ | refine zld ?_ ?_ | rfl) rfl rfl hou⟩
  · have hlt : j = fs.length := by simp at hb2; omega
    subst hlt
    rw [List.take_length] at hno
    refine zA ?_
    refine APure.fin rfl (WkF.ofEq ?_) (by simp) hou rfl
    rw [hn, if_pos (List.all_eq_true.2 hno)]
theorem Check_ok (e : List Ex) (he : okB e) : APure Tryd.prog Γc 15 [.one (.sl 5 (e.map cEx))] (.one (int (check e))) := by
  intro ou
  refine AFn.walk 5 tabOk Tryd.func15 rfl (by kernel_rfl) rfl rfl fun hou => ?_
  refine zA ?_
  refine AOps.callCW (ws := [.one (.sl 5 (e.map cEx)), .one (.sl 1 (([] : List Int).map cI)), .one (.lit (.bool false))]) hΓc (Body_ok e he [] (by simp) false) rfl rfl rfl rfl rfl rfl ?_ hou (by simp) ?_
  · exact .cons (.refl _) (.cons (.one (.nilS 1)) (.cons (.refl _) .nil))
  refine zA ?_
  exact APure.fin rfl (WkF.ofEq rfl) (by simp) hou rfl
end Go.Proofs.YtgdionbeeodaaaaDoor
namespace Go.Proofs.YtgdionbeeodaaaaDoor
open Go Go.Abs Go.CoreX
set_option maxRecDepth 10000
variable {Γ : List (Nat × List AC)}
theorem SameTree_ok (hΓ : ∀ g cs, (g, cs) ∈ Γ → idsL isO cs) (hΓF : ∀ g cs, (g, cs) ∈ Γ → idsL (fun _ => False) cs) (a b : Tr) (ha : okT a) (hb : okT b) (hs : sameTree a b = true) :
    APure Tryd.prog Γ 52 [.one (.box (cTr a)), .one (.box (cTr b))] (.one (.lit (.bool true))) := by
  intro ou
  refine AFn.walk 9 tabOk Tryd.func52 rfl (by kernel_rfl) rfl rfl fun hou => ?_
  refine zA ?_
  refine AOps.step1 rfl rfl rfl (AStep.makeMap rfl) ?_
  refine AOps.callR [.l 0] [.one (.box (cTr a)), .one (.box (cTr b)), .one (.mp (.o 0))] [.map 0 (encI eN [])] hΓF rfl rfl rfl rfl rfl rfl ?_ ?_ ?_ ?_ ?_ (same_ok hΓ a ha b hb (fun _ => none) 0 [] IMOk.nil hs) ?_
  · simp [subF, FV.sub, AC.sub, nameOf]
    exact ⟨(subL_pure _ _ (by simp)).symm, (subL_pure _ _ (by simp)).symm⟩
  · simp [inO]
  · simp
  · exact ⟨rfl, trivial⟩
  · simp [inO]
  intro r ou' hq
  obtain ⟨rfl, ck', l', rfl, hm⟩ := hq
  refine ⟨[.map ck' (encI eN l')], rfl, rfl, by simp [inO], by simp, ?_⟩
  rw [show FV.sub (nameOf [.l 0]) (.one (.lit (.bool true))) = .one (.lit (.bool true)) from rfl]
  refine zA ?_
  exact APure.fin rfl (WkF.ofEq rfl) (by simp) hou rfl
theorem Same_ok (e f : List Ex) (he : okB e) (hf : okB f) (hs : same e f = true) : APure Tryd.prog Γc 21 [.one (.sl 5 (e.map cEx)), .one (.sl 5 (f.map cEx))] (.one (.lit (.bool true))) := by
  have hs' : (check e = 0 ∧ check f = 0) ∧ sameTree (grow e) (grow f) = true := by simpa [same] using hs
  obtain ⟨⟨h1, h2⟩, h3⟩ := hs'
  have t1 := body_isTree h1
  have t2 := body_isTree h2
  have c1 := Check_ok e he
  have c2 := Check_ok f hf
  rw [h1] at c1
  rw [h2] at c2
  intro ou
  refine AFn.walk 20 tabOk Tryd.func21 rfl (by kernel_rfl) rfl rfl fun hou => ?_
  refine zA ?_
  refine zca hΓc c1 hou ?_
  refine zM ?_
  refine zca hΓc c2 hou ?_
  refine zM ?_
  refine zca hΓc (Grow_ok hΓc e he.eo t1.k t1.ne) hou ?_
  refine zM ?_
  refine zca hΓc (Grow_ok hΓc f hf.eo t2.k t2.ne) hou ?_
  refine zM ?_
  refine zca hΓc (SameTree_ok hΓc hΓcF (grow e) (grow f) (he.t t1.k t1.ne) (hf.t t2.k t2.ne) h3) hou ?_
  refine zM ?_
  exact APure.fin rfl (WkF.ofEq rfl) (by simp) hou rfl
theorem SameListR_ok (hΓ : ∀ g cs, (g, cs) ∈ Γ → idsL isO cs) (e : List Ex) (he : okE e) : APure Tryd.prog Γ 24 [.one (.sl 5 (e.map cEx)), .one (.sl 5 (e.map cEx))] (.one (.lit (.bool true))) := by
  have hel := he.l
  intro ou
  refine AFn.walk 136 tabOk Tryd.func24 rfl (by kernel_rfl) rfl rfl fun hou => ?_
  refine zA ?_
  refine ACode.cond rfl (fun hb => absurd hb (by simp)) (fun hb => ?_)
  clear hb
  refine zA ?_
  refine ACode.loopR hΓ (α := Nat) (fun j => [(14, .one (int j)), (13, .one (int (e.map cEx).length)), (1, .one (.sl 5 (e.map cEx))), (0, .one (.sl 5 (e.map cEx)))])
    (fun j => ⟨0, [], ou⟩) (fun m j => j ≤ e.length ∧ m = e.length - j) (a0 := 0) (ρ := id) ⟨by omega, rfl⟩ (LessR.of rfl (by (repeat' first | exact FrSub.nil | refine zfc ?_ | refine zfo ?_ | refine zfp ?_)) (by simp) (by repeat' first | exact LoSub.nil | refine zlc ?_ | refine zld ?_ ?_ | rfl) rfl rfl hou) fun m j hj => ?_
  obtain ⟨hjl, rfl⟩ := hj
  refine zA ?_
  refine ACode.cond rfl (fun hb2 => ?_) (fun hb2 => ?_)
  · have hlt : j < e.length := by simpa using hb2
    obtain ⟨x, hx⟩ := get_of_lt hlt
    have hxo := he.x x (List.mem_of_getElem? hx)
    have hxa := hxo.a
    have s1 := SameInts_ok hΓ x.binds x.binds hxo.b
    have s2 := SameInts_ok hΓ x.kids x.kids hxo.k
    rw [show (x.binds == x.binds) = true by simp] at s1
    rw [show (x.kids == x.kids) = true by simp] at s2
    refine zA ?_
    refine ACode.drawX tabOk 66 [(2, .one (.box (cEx x))), (7, .one (.box (cEx x))), (10, .one (.lit (.bool false))), (14, .one (.box (cEx x))), (19, .one (.box (cEx x))), (22, .one (.lit (.bool false))), (27, .one (.box (cEx x))), (32, .one (.box (cEx x))), (35, .one (.lit (.bool true))), (41, .one (.box (cEx x))), (46, .one (.box (cEx x))), (49, .one (.lit (.bool true))), (55, .one (.box (cEx x))), (61, .one (.box (cEx x))), (65, .one (.lit (.bool false)))] follows (by kernel_rfl) rfl rfl rfl rfl ?_ ?_
    · have ix := map_get (f := cEx) hx
      refine .step rfl (HStep.plain rfl (AStep.indexAddr tabOk rfl rfl rfl rfl rfl rfl (.inl rfl) rfl (by omega) ix)) ?_
      refine .step rfl (HStep.plain rfl (AStep.indexAddr tabOk rfl rfl rfl rfl rfl rfl (.inl rfl) rfl (by omega) ix)) ?_
      refine .step rfl (HStep.litB tabOk rfl (by simp)) ?_
      refine .step rfl (HStep.guarded rfl rfl rfl (AStep.indexAddr tabOk rfl rfl rfl rfl rfl rfl (.inl rfl) rfl (by omega) ix)) ?_
      refine .step rfl (HStep.guarded rfl rfl rfl (AStep.indexAddr tabOk rfl rfl rfl rfl rfl rfl (.inl rfl) rfl (by omega) ix)) ?_
      refine .step rfl (HStep.litB tabOk rfl (by simp)) ?_
      refine .step rfl (HStep.guarded rfl rfl rfl (AStep.indexAddr tabOk rfl rfl rfl rfl rfl rfl (.inl rfl) rfl (by omega) ix)) ?_
      refine .step rfl (HStep.guarded rfl rfl rfl (AStep.indexAddr tabOk rfl rfl rfl rfl rfl rfl (.inl rfl) rfl (by omega) ix)) ?_
      refine .step rfl (HStep.guarded rfl rfl rfl (AStep.callP hΓ rfl rfl rfl rfl (by simp) hou s1)) ?_
      refine .step rfl (HStep.guarded rfl rfl rfl (AStep.indexAddr tabOk rfl rfl rfl rfl rfl rfl (.inl rfl) rfl (by omega) ix)) ?_
      refine .step rfl (HStep.guarded rfl rfl rfl (AStep.indexAddr tabOk rfl rfl rfl rfl rfl rfl (.inl rfl) rfl (by omega) ix)) ?_
      refine .step rfl (HStep.guarded rfl rfl rfl (AStep.callP hΓ rfl rfl rfl rfl (by simp) hou s2)) ?_
      refine .step rfl (HStep.guarded rfl rfl rfl (AStep.indexAddr tabOk rfl rfl rfl rfl rfl rfl (.inl rfl) rfl (by omega) ix)) ?_
      refine .step rfl (HStep.guarded rfl rfl rfl (AStep.indexAddr tabOk rfl rfl rfl rfl rfl rfl (.inl rfl) rfl (by omega) ix)) ?_
      exact .step rfl (HStep.litB tabOk rfl (by simp)) .nil
    refine zA ?_
    refine AOps.step1 rfl rfl rfl (AStep.indexAddr tabOk rfl rfl rfl rfl rfl rfl (.inl rfl) rfl (by omega) (map_get hx)) ?_
    refine zA ?_
    refine ACode.loopR hΓ (α := Nat) (fun i => [(90, .one (int i)), (89, .one (int (x.alts.map cAlt).length)), (5, .one (int j)), (14, .one (int j)), (13, .one (int (e.map cEx).length)), (1, .one (.sl 5 (e.map cEx))), (0, .one (.sl 5 (e.map cEx)))])
      (fun i => ⟨0, [], ou⟩) (fun m i => i ≤ x.alts.length ∧ m = x.alts.length - i) (a0 := 0) (ρ := id) ⟨by omega, rfl⟩ (LessR.of rfl (by (repeat' first | exact FrSub.nil | refine zfc ?_ | refine zfo ?_ | refine zfp ?_)) (by simp) (by repeat' first | exact LoSub.nil | refine zlc ?_ | refine zld ?_ ?_ | rfl) rfl rfl hou) fun m i hi => ?_
    obtain ⟨hil, rfl⟩ := hi
    refine zA ?_
    refine ACode.cond rfl (fun hb3 => ?_) (fun hb3 => ?_)
    · have hlt2 : i < x.alts.length := by simpa using hb3
      obtain ⟨a, ha⟩ := get_of_lt hlt2
      have s3 := SameInts_ok hΓ a.binds a.binds (hxo.ab a (List.mem_of_getElem? ha))
      rw [show (a.binds == a.binds) = true by simp] at s3
      refine zA ?_
      refine ACode.drawX tabOk 40 [(2, .one (.box (cEx x))), (6, .one (.box (cAlt a))), (11, .one (.box (cEx x))), (15, .one (.box (cAlt a))), (18, .one (.lit (.bool false))), (22, .one (.box (cEx x))), (26, .one (.box (cAlt a))), (31, .one (.box (cEx x))), (35, .one (.box (cAlt a))), (38, .one (.lit (.bool true)))] follows (by kernel_rfl) rfl rfl rfl rfl ?_ ?_
      · have ix := map_get (f := cEx) hx
        have ia := map_get (f := cAlt) ha
        refine .step rfl (HStep.plain rfl (AStep.indexAddr tabOk rfl rfl rfl rfl rfl rfl (.inl rfl) rfl (by omega) ix)) ?_
        refine .step rfl (HStep.plain rfl (AStep.indexAddr tabOk rfl rfl rfl rfl rfl rfl (.inl rfl) rfl (by omega) ia)) ?_
        refine .step rfl (HStep.plain rfl (AStep.indexAddr tabOk rfl rfl rfl rfl rfl rfl (.inl rfl) rfl (by omega) ix)) ?_
        refine .step rfl (HStep.plain rfl (AStep.indexAddr tabOk rfl rfl rfl rfl rfl rfl (.inl rfl) rfl (by omega) ia)) ?_
        refine .step rfl (HStep.litB tabOk rfl (by simp)) ?_
        refine .step rfl (HStep.guarded rfl rfl rfl (AStep.indexAddr tabOk rfl rfl rfl rfl rfl rfl (.inl rfl) rfl (by omega) ix)) ?_
        refine .step rfl (HStep.guarded rfl rfl rfl (AStep.indexAddr tabOk rfl rfl rfl rfl rfl rfl (.inl rfl) rfl (by omega) ia)) ?_
        refine .step rfl (HStep.guarded rfl rfl rfl (AStep.indexAddr tabOk rfl rfl rfl rfl rfl rfl (.inl rfl) rfl (by omega) ix)) ?_
        refine .step rfl (HStep.guarded rfl rfl rfl (AStep.indexAddr tabOk rfl rfl rfl rfl rfl rfl (.inl rfl) rfl (by omega) ia)) ?_
        exact .step rfl (HStep.guarded rfl rfl rfl (AStep.callP hΓ rfl rfl rfl rfl (by simp) hou s3)) .nil
      refine zM ?_
      exact cInv ⟨x.alts.length - (i + 1), i + 1, id, by omega, ⟨by omega, rfl⟩, LessR.of rfl (by (repeat' first | exact FrSub.nil | refine zfc ?_ | refine zfo ?_ | refine zfp ?_)) (by simp) (by repeat' first | exact LoSub.nil | refine zlc ?_ | refine zld ?_ ?_ | rfl) rfl rfl hou⟩
    · have hlt2 : i = x.alts.length := by simp at hb3; omega
      subst hlt2
      refine zM ?_
      exact cInv ⟨e.length - (j + 1), j + 1, id, by omega, ⟨by omega, rfl⟩, LessR.of rfl (by (repeat' first | exact FrSub.nil | refine zfc ?_ | refine zfo ?_ | refine zfp ?_)) (by simp) (by repeat' first | exact LoSub.nil | refine zlc ?_ | refine zld ?_ ?_ | rfl) rfl rfl hou⟩
  · have hlt : j = e.length := by simp at hb2; omega
    subst hlt
    refine zA ?_
    exact APure.fin rfl (WkF.ofEq rfl) (by simp) hou rfl
end Go.Proofs.YtgdionbeeodaaaaDoor
namespace Go.Abs
theorem AStep.wk {E : Env} {o : Oper} {fr : Fr} {σ σ' : St} {x y : FV} (h : AStep E o fr σ x σ') (hw : WkF x y) : AStep E o fr σ y σ' :=
  fun F w C tmps hi hf next Q hk => h F w C tmps hi hf next Q fun u w' C' a b c => hk u w' C' a b (hw _ _ _ c)
end Go.Abs
namespace Go.Proofs.YtgdionbeeodaaaaDoor
open Go Go.Abs Go.CoreX
set_option maxRecDepth 10000
variable {Γ : List (Nat × List AC)}
mutual
def encNd : Tr → List AC
  | .mk o n b k a => [int o, int n, .sl 1 (b.map cI), .any, .sl 2 (a.map cAlt), .sl 1 (encNds k)]
def encNds : List Tr → List (List AC)
  | [] => []
  | t :: ts => [.box (encNd t)] :: encNds ts
end
def cNd (t : Tr) : List AC := [int t.op, int t.n, .sl 1 (t.binds.map cI), .any, .sl 2 (t.alts.map cAlt), .sl 1 (encNds t.kids)]
theorem encNd_eq (t : Tr) : encNd t = cNd t := by cases t; simp [encNd, cNd]
theorem encNds_eq : ∀ l : List Tr, encNds l = l.map fun t => [.box (cNd t)]
  | [] => rfl
  | t :: ts => by simp [encNds, encNds_eq ts, encNd_eq]
theorem encNds_get {l : List Tr} {i : Nat} {t : Tr} (h : l[i]? = some t) : (encNds l)[i]? = some [.box (cNd t)] := by rw [encNds_eq]; simp [h]
mutual
theorem ids_encNd (p : Abs.Id → Prop) : ∀ t : Tr, idsL p (encNd t)
  | .mk o n b k a => by simp [encNd, ids_encNds p k]
theorem ids_encNds (p : Abs.Id → Prop) : ∀ l : List Tr, idsS p (encNds l)
  | [] => by simp [encNds]
  | t :: ts => by simp [encNds, ids_encNd p t, ids_encNds p ts]
end
attribute [simp] ids_encNds
@[simp] theorem ids_cNd (p : Abs.Id → Prop) (t : Tr) : idsL p (cNd t) := by simp [cNd]
@[simp] theorem len_encNds (l : List Tr) : (encNds l).length = l.length := by rw [encNds_eq]; simp
theorem N_ok (op n : Int) (ks : List Tr) : APure Tryd.prog Γ 51 [.one (int op), .one (int n), .one (.sl 1 (encNds ks))] (.one (.box (cNd (.mk op n [] ks [])))) := by
  intro ou
  refine AFn.walk 13 tabOk Tryd.func51 rfl (by kernel_rfl) rfl rfl fun hou => ?_
  iterate 14 (first | ((with_reducible refine oj ?_); refine zau ?_) | (with_reducible refine zst ?_) | ((with_reducible refine cExitMiss ?_ ?_); rfl) | (with_reducible refine ok ?_; first | refine ACode.condT rfl ?_ | refine ACode.condF rfl ?_))
  refine AOps.freeze1 (.l 0) 6 rfl rfl ?_
  refine zA ?_
  refine APure.fin rfl (.one (Wk.box ?_)) (by simp) hou rfl
  exact .cons (.refl _) (.cons (.refl _) (.cons (.nilS 1) (.cons (.any _) (.cons (.nilS 2) (.cons (.refl _) .nil)))))
theorem B_ok (op : Int) (b : List Int) (ks : List Tr) : APure Tryd.prog Γ 19 [.one (int op), .one (.sl 1 (b.map cI)), .one (.sl 1 (encNds ks))] (.one (.box (cNd (.mk op 0 b ks [])))) := by
  intro ou
  refine AFn.walk 13 tabOk Tryd.func19 rfl (by kernel_rfl) rfl rfl fun hou => ?_
  iterate 14 (first | ((with_reducible refine oj ?_); refine zau ?_) | (with_reducible refine zst ?_) | ((with_reducible refine cExitMiss ?_ ?_); rfl) | (with_reducible refine ok ?_; first | refine ACode.condT rfl ?_ | refine ACode.condF rfl ?_))
  refine AOps.freeze1 (.l 0) 6 rfl rfl ?_
  refine zA ?_
  refine APure.fin rfl (.one (Wk.box ?_)) (by simp) hou rfl
  exact .cons (.refl _) (.cons (.refl _) (.cons (.refl _) (.cons (.any _) (.cons (.nilS 2) (.cons (.refl _) .nil)))))
theorem V_ok (hΓ : ∀ g cs, (g, cs) ∈ Γ → idsL isO cs) (n : Int) : APure Tryd.prog Γ 44 [.one (int n)] (.one (.box (cNd (.mk 0 n [] [] [])))) := by
  intro ou
  refine AFn.walk 5 tabOk Tryd.func44 rfl (by kernel_rfl) rfl rfl fun hou => ?_
  refine zA ?_
  refine AOps.callCW (ws := [.one (int 0), .one (int n), .one (.sl 1 (encNds []))]) hΓ (N_ok 0 n []) rfl rfl rfl rfl rfl rfl ?_ hou (by simp) ?_
  · exact .cons (.refl _) (.cons (.refl _) (.cons (.one (.nilS 1)) .nil))
  refine zA ?_
  exact APure.fin rfl (WkF.ofEq rfl) (by simp) hou rfl
def IntoOk (Γ : List (Nat × List AC)) (t : Tr) : Prop := ∀ (ou : Outer) (ko kt : Nat) (out : List Ex), OuOk ou → ou ko = none → ou kt = none → ko ≠ kt → (listT out t).length ≤ 1048576 →
  AFn Tryd.prog Γ 64 [.one (.box (cNd t)), .one (.ptr (.o ko) 0)] (ouS ou ko kt (out.map cEx)) (fun r ou' => r = .one (int (((listT out t).length : Int) - 1)) ∧ ∃ kt', ou kt' = none ∧ ko ≠ kt' ∧ ou' = ouS ou ko kt' ((listT out t).map cEx))
set_option maxHeartbeats 1000000 in
theorem into_ok (hΓ : ∀ g cs, (g, cs) ∈ Γ → idsL isO cs) : ∀ t : Tr, okT t → IntoOk Γ t
  | .mk o n b ks a, hok => by
    obtain ⟨hb, hk, ha, ⟨hab, _⟩, hks⟩ := hok
    have ih : ∀ t ∈ ks, IntoOk Γ t := fun t ht => into_ok hΓ t (okTs_iff.1 hks t ht)
    intro ou ko kt out hou0 ho ht hne hsz
    have hsz2 : (listTs out ks).1.length < 1048576 := by simp only [listT, List.length_append, List.length_singleton] at hsz; omega
    refine AFn.walk 44 tabOk Tryd.func64 rfl (by kernel_rfl) rfl rfl fun hou => ?_
    refine zA ?_
    refine ACode.grow 0 3 3 1 rfl rfl ?_
    refine ACode.loopR hΓ (α := Nat × Nat) (fun c => [(18, .one (int c.1)), (17, .one (int (encNds ks).length)), (16, .one (.sl 1 (encNds ks))), (5, .one (.ptr (.l 0) 0)), (1, .one (.ptr (.o ko) 0))])
      (fun c => ⟨2, [(1, .tok 3 1 c.1), (0, .cells [int o, int n, .sl 1 (b.map cI), .gs 1 ((listTs out (ks.take c.1)).2.map cI) (.l 1), .sl 2 (a.map cAlt)])], ouS ou ko c.2 ((listTs out (ks.take c.1)).1.map cEx)⟩)
      (fun m c => c.1 ≤ ks.length ∧ (ou c.2 = none ∧ ko ≠ c.2) ∧ m = ks.length - c.1) (a0 := (0, kt)) (ρ := id) ⟨by omega, ⟨ht, hne⟩, rfl⟩ (LessR.of rfl (by (repeat' first | exact FrSub.nil | refine zfc ?_ | refine zfo ?_ | refine zfp ?_)) (by simp) ?_ rfl (by simp [listTs]; rfl) hou) fun m c hi => ?_
    · repeat' first | exact LoSub.nil | refine zlc ?_ | refine zld ?_ ?_ | rfl
      all_goals (simp [AObj.ren, renL, AC.ren, listTs]; rfl)
    obtain ⟨i, kt⟩ := c
    obtain ⟨hil, ⟨ht, hne⟩, rfl⟩ := hi
    simp only at hil ht hne
    have hle : (listTs out (ks.take i)).1.length ≤ (listTs out ks).1.length := by
      have := listTs_app (ks.take i) (ks.drop i) out
      rw [List.take_append_drop] at this
      rw [this]; exact listTs_le _ _
    refine zA ?_
    refine ACode.cond rfl (fun hb3 => ?_) (fun hb3 => ?_)
    · have hlt2 : i < ks.length := by simpa using hb3
      obtain ⟨t, ht2⟩ := get_of_lt hlt2
      have hsn := listTs_snoc t (ks.take i) out
      rw [← take_get ht2] at hsn
      have hle2 : (listT (listTs out (ks.take i)).1 t).length ≤ 1048576 := by
        have := listTs_app (ks.take (i + 1)) (ks.drop (i + 1)) out
        rw [List.take_append_drop] at this
        have h2 := listTs_le (ks.drop (i + 1)) (listTs out (ks.take (i + 1))).1
        rw [← this, hsn] at h2
        simp only at h2
        omega
      have hcall := ih t (List.mem_of_getElem? ht2) ou ko kt (listTs out (ks.take i)).1 hou0 ho ht hne hle2
      have hil2 : ((listTs out (ks.take i)).2.map cI).length = i := by rw [List.length_map, listTs_ix_len]; simp; omega
      refine zA ?_
      refine AOps.step1 rfl rfl rfl (AStep.indexAddr tabOk rfl rfl rfl rfl rfl rfl (.inl rfl) rfl (by omega) (encNds_get ht2)) ?_
      refine zA ?_
      refine ACode.drawXR (va := .one (int (((listT (listTs out (ks.take i)).1 t).length : Int) - 1))) tabOk 6 4 []
        (fun σ => ∃ kt', ou kt' = none ∧ ko ≠ kt' ∧ σ = ⟨2, [(1, .tok 3 1 i), (0, .cells [int o, int n, .sl 1 (b.map cI), .gs 1 ((listTs out (ks.take i)).2.map cI) (.l 1), .sl 2 (a.map cAlt)])], ouS ou ko kt' ((listT (listTs out (ks.take i)).1 t).map cEx)⟩)
        follows (by kernel_rfl) rfl rfl rfl rfl rfl ?_ rfl ⟨rfl, rfl⟩ rfl ?_ .nil ?_ ?_
      · rintro σ ⟨kt', h1, h2, rfl⟩; rfl
      · refine AStepR.call hΓ rfl rfl rfl rfl (by simp) (ouS_ok hou0 (by simp)) hcall fun r ou' hq _ _ => ?_
        obtain ⟨rfl, kt', h1, h2, rfl⟩ := hq
        exact ⟨rfl, kt', h1, h2, rfl⟩
      · intro σ _; exact .nil
      rintro σ ⟨kt', h1, h2, rfl⟩
      refine zA ?_
      refine AOps.app tabOk rfl rfl rfl rfl rfl rfl rfl rfl rfl (Base.gs' _ _ _ _ _ (by rfl) hil2.symm) (.sl _ _) rfl ?_ ?_ ?_
      · rw [hil2]; show (i + 1) * 8 ≤ _; omega
      · rw [hil2]; show i + 1 ≤ _; omega
      refine zM ?_
      refine cInv ⟨ks.length - (i + 1), (i + 1, kt'), fun k => if k = 1 then 2 else k, by omega, ⟨by omega, ⟨h1, h2⟩, rfl⟩, LessR.of rfl (by (repeat' first | exact FrSub.nil | refine zfc ?_ | refine zfo ?_ | refine zfp ?_)) (by simp) ?_ rfl (by simp only [hsn]; rfl) (ouS_ok hou0 (by simp))⟩
      repeat' first | exact LoSub.nil | refine zlc ?_ | refine zld ?_ ?_ | rfl
      · simp only [AObj.ren, List.length_append, hil2]; rfl
      · simp only [hsn]; simp only [AObj.ren, renL, AC.ren, ren_cIs, ren_cAlts]; rw [List.map_append]; rfl
    have hlt2 : i = ks.length := by simp at hb3; omega
    subst hlt2
    rw [List.take_length] at *
    refine zA ?_
    have hT : listT out (.mk o n b ks a) = (listTs out ks).1 ++ [⟨o, n, b, (listTs out ks).2, a⟩] := by simp only [listT]
    have hmap : (listTs out ks).1.map cEx ++ [cEx ⟨o, n, b, (listTs out ks).2, a⟩] = (listT out (.mk o n b ks a)).map cEx := by rw [hT, List.map_append]; rfl
    have hw : WkF (.agg [int o, int n, .sl 1 (b.map cI), .gs 1 ((listTs out ks).2.map cI) (.l 1), .sl 2 (a.map cAlt)]) (.agg (cEx ⟨o, n, b, (listTs out ks).2, a⟩)) := WkF.agg (.cons (.refl _) (.cons (.refl _) (.cons (.refl _) (.cons (.gsE rfl) (.cons (.refl _) .nil)))))
    have hko : (bif Nat.beq ko kt then some AObj.dead else ouS ou ko kt ((listTs out ks).1.map cEx) ko) = some (.cells [.gs 5 ((listTs out ks).1.map cEx) (.o kt)]) := by rw [beq_no hne]; exact ouS_o hne _
    refine ACode.drawXH (va := .one (.gs 5 ((listTs out ks).1.map cEx ++ [cEx ⟨o, n, b, (listTs out ks).2, a⟩]) (.l 2))) (σ1 := (St.set ⟨2, [(1, .tok 3 1 ks.length), (0, .cells [int o, int n, .sl 1 (b.map cI), .gs 1 ((listTs out ks).2.map cI) (.l 1), .sl 2 (a.map cAlt)])], ouS ou ko kt ((listTs out ks).1.map cEx)⟩ (.o kt) .dead).push (.tok 53 5 ((listTs out ks).1.map cEx ++ [cEx ⟨o, n, b, (listTs out ks).2, a⟩]).length))
      tabOk 7 6 [(3, .one (.gs 5 ((listTs out ks).1.map cEx) (.o kt))), (4, .agg (cEx ⟨o, n, b, (listTs out ks).2, a⟩))] follows (by kernel_rfl) rfl rfl rfl rfl rfl rfl rfl ?_ ?_ ?_ ?_
    · refine HStep.plain rfl (AStep.append (s := 5) (es := (listTs out ks).1.map cEx) (news := [cEx ⟨o, n, b, (listTs out ks).2, a⟩]) (ti := ti22) (σ := ⟨2, [(1, .tok 3 1 ks.length), (0, .cells [int o, int n, .sl 1 (b.map cI), .gs 1 ((listTs out ks).2.map cI) (.l 1), .sl 2 (a.map cAlt)])], ouS ou ko kt ((listTs out ks).1.map cEx)⟩) tabOk rfl rfl rfl rfl rfl rfl (Base.gs' _ 53 5 _ (.o kt) (ouS_t ou ko kt _) rfl) (.sl _ _) rfl ?_ ?_)
      · simp; show (_ + 1) * 88 ≤ _; omega
      · simp; omega
    · refine .step rfl (HStep.plain rfl (AStep.loadOwn tabOk rfl rfl rfl rfl rfl (ouS_o hne _) rfl)) ?_
      exact .step rfl (HStep.plain rfl (AStep.wk (AStep.ofOp tabOk rfl) hw)) .nil
    · refine .step rfl (HStep.plain rfl (AStep.loadOwn tabOk rfl rfl rfl rfl rfl hko rfl)) ?_
      exact .step rfl (HStep.plain rfl (AStep.wk (AStep.ofOp tabOk rfl) hw)) .nil
    rw [hmap]
    refine zA ?_
    refine AOps.storeOwn (cs := [.gs 5 ((listTs out ks).1.map cEx) (.o kt)]) tabOk rfl rfl rfl rfl rfl rfl rfl hko (by simp) ?_
    refine AOps.cede 2 (show 2 < 3 by omega) fun k hk => ⟨[(1, .one (.ptr (.o ko) 0))], ⟨3, [], ouS ou ko k ((listT out (.mk o n b ks a)).map cEx)⟩, ⟨fun d x hd => ?_, rfl, fun i x hx => ?_⟩, ?_⟩
    · by_cases e : 1 = d
      · subst e
        simp [Fr.get] at hd; subst hd
        exact ⟨_, rfl, WkF.ofEq rfl⟩
      · simp [Fr.get, beq_no e] at hd
    · have hk' : (bif Nat.beq k ko then some (AObj.cells [.gs 5 ((listT out (.mk o n b ks a)).map cEx) (.l 2)]) else bif Nat.beq k kt then some AObj.dead else ouS ou ko kt ((listTs out ks).1.map cEx) k) = none := hk
      have k1 : k ≠ ko := fun e => by subst e; simp at hk'
      rw [beq_no k1] at hk'
      have k2 : k ≠ kt := fun e => by subst e; simp at hk'
      rw [beq_no k2] at hk'
      simp only [cond_false, ouS_w k1 k2] at hk'
      cases i with
      | l m => cases hx
      | o m =>
        have hx' : ouS ou ko k ((listT out (.mk o n b ks a)).map cEx) m = some x := hx
        by_cases e : m = k
        · subst e
          rw [ouS_t] at hx'; cases hx'
          exact ⟨.l 2, _, rfl, rfl, rfl⟩
        · by_cases e2 : m = ko
          · subst e2
            rw [ouS_o e] at hx'; cases hx'
            refine ⟨.o m, .cells [.gs 5 ((listT out (.mk o n b ks a)).map cEx) (.l 2)], ?_, rfl, ?_⟩
            · show (bif Nat.beq m m then _ else _) = _; rw [beq_self]; rfl
            · simp only [AObj.sub, subL, AC.sub]; rw [subS_o _ (by simp)]; rfl
          · rw [ouS_w e2 e] at hx'
            have e3 : m ≠ kt := fun e => by rw [e, ht] at hx'; cases hx'
            refine ⟨.o m, x, ?_, rfl, (AObj.sub_o x (hou0 m x hx')).symm⟩
            show (bif Nat.beq m ko then _ else bif Nat.beq m kt then _ else ouS ou ko kt _ m) = _
            rw [beq_no e2, beq_no e3]
            exact (ouS_w e2 e3 _).trans hx'
    · have hk' : (bif Nat.beq k ko then some (AObj.cells [.gs 5 ((listT out (.mk o n b ks a)).map cEx) (.l 2)]) else bif Nat.beq k kt then some AObj.dead else ouS ou ko kt ((listTs out ks).1.map cEx) k) = none := hk
      have k1 : k ≠ ko := fun e => by subst e; simp at hk'
      rw [beq_no k1] at hk'
      have k2 : k ≠ kt := fun e => by subst e; simp at hk'
      rw [beq_no k2] at hk'
      simp only [cond_false, ouS_w k1 k2] at hk'
      refine zA ?_
      refine AOps.step1 rfl rfl rfl (AStep.loadOwn tabOk rfl rfl rfl rfl rfl (ouS_o (Ne.symm k1) _) rfl) ?_
      refine zM ?_
      refine AFn.fin' rfl (WkF.ofEq ?_) (by simp) (ouS_ok hou0 (by simp)) ⟨rfl, k, hk', Ne.symm k1, rfl⟩
      simp
end Go.Proofs.YtgdionbeeodaaaaDoor
namespace Go.Proofs.YtgdionbeeodaaaaDoor
open Go Go.Abs Go.CoreX
set_option maxRecDepth 10000
variable {Γ : List (Nat × List AC)}
theorem NodeList_ok (hΓ : ∀ g cs, (g, cs) ∈ Γ → idsL isO cs) (t : Tr) (ht : okT t) (hsz : (listT [] t).length ≤ 1048576) : APure Tryd.prog Γ 39 [.one (.box (cNd t))] (.one (.sl 5 ((listT [] t).map cEx))) := by
  intro ou
  refine AFn.walk 7 tabOk Tryd.func39 rfl (by kernel_rfl) rfl rfl fun hou => ?_
  iterate 11 (first | ((with_reducible refine oj ?_); refine zau ?_) | (with_reducible refine zst ?_) | ((with_reducible refine cExitMiss ?_ ?_); rfl) | (with_reducible refine ok ?_; first | refine ACode.condT rfl ?_ | refine ACode.condF rfl ?_))
  refine ACode.grow 0 0 53 5 rfl rfl ?_
  refine zA ?_
  refine AOps.cede 0 (show 0 < 2 by omega) fun ko hko => ⟨[(4, .one (.box (cNd t))), (3, .one (.ptr (.o ko) 0))],
    ⟨2, [(1, .tok 53 5 0)], updO ou ko (.cells [.gs 5 [] (.l 1)])⟩, ⟨CedFr.get ?_, rfl, fun i x hx => ?_⟩, ?_⟩
  · exact .cons rfl (FV.sub_o _ (by simp)) (.cons rfl rfl .nil)
  · have hko : ou ko = none := hko
    cases i with
    | l m =>
      by_cases e : 1 = m
      · subst e; cases hx; exact ⟨.l 1, _, rfl, rfl, rfl⟩
      · simp [St.get, lookL, beq_no e] at hx
    | o m =>
      have hx' : updO ou ko (.cells [.gs 5 [] (.l 1)]) m = some x := hx
      by_cases e : ko = m
      · subst e; rw [updO_same] at hx'; cases hx'; exact ⟨.l 0, _, rfl, rfl, rfl⟩
      · rw [updO_ne _ e] at hx'
        exact ⟨.o m, x, hx', rfl, (AObj.sub_o x (hou m x hx')).symm⟩
  have hko : ou ko = none := hko
  refine AOps.cede 1 (show 1 < 2 by omega) fun kt hkt => ⟨[(4, .one (.box (cNd t))), (3, .one (.ptr (.o ko) 0))],
    ⟨2, [], ouS ou ko kt (([] : List Ex).map cEx)⟩, ⟨CedFr.get ?_, rfl, fun i x hx => ?_⟩, ?_⟩
  · exact .cons rfl (FV.sub_o _ (by simp)) (.cons rfl rfl .nil)
  · have hkt : updO ou ko (.cells [.gs 5 [] (.l 1)]) kt = none := hkt
    have hkto : ko ≠ kt := fun e => by subst e; rw [updO_same] at hkt; cases hkt
    cases i with
    | l m => cases hx
    | o m =>
      have hx' : ouS ou ko kt (([] : List Ex).map cEx) m = some x := hx
      by_cases e : m = kt
      · subst e; rw [ouS_t] at hx'; cases hx'; exact ⟨.l 1, _, rfl, rfl, rfl⟩
      · by_cases e2 : m = ko
        · subst e2; rw [ouS_o hkto] at hx'; cases hx'
          exact ⟨.o m, .cells [.gs 5 [] (.l 1)], updO_same _ _ _, rfl, rfl⟩
        · rw [ouS_w e2 e] at hx'
          refine ⟨.o m, x, ?_, rfl, (AObj.sub_o x (hou m x hx')).symm⟩
          show updO ou ko (.cells [.gs 5 [] (.l 1)]) m = _
          rw [updO_ne _ (Ne.symm e2)]; exact hx'
  have hkt : updO ou ko (.cells [.gs 5 [] (.l 1)]) kt = none := hkt
  have hot : ko ≠ kt := fun e => by subst e; rw [updO_same] at hkt; cases hkt
  rw [updO_ne _ hot] at hkt
  have hcall := into_ok hΓ t ht ou ko kt [] hou hko hkt hot hsz
  refine AOps.call1 hΓ rfl rfl rfl rfl rfl rfl rfl (by simp) (ouS_ok hou (by simp)) hcall fun r ou' hq hids hou' => ?_
  obtain ⟨rfl, kt', h1, h2, rfl⟩ := hq
  refine zA ?_
  refine AOps.step1 rfl rfl rfl (AStep.loadOwn tabOk rfl rfl rfl rfl rfl (ouS_o h2 _) rfl) ?_
  refine AOps.wk 6 rfl (y := .one (.sl 5 ((listT [] t).map cEx))) (.one (.gsE rfl)) ?_
  refine AOps.lessO ⟨2, [], ou⟩ rfl (fun i o ho => ?_) ?_
  · cases i with
    | l m => cases ho
    | o m =>
      have ho' : ou m = some o := ho
      show ouS ou ko kt' _ m = some o
      have e1 : m ≠ ko := fun e => by rw [e, hko] at ho'; cases ho'
      have e3 : m ≠ kt' := fun e => by rw [← e, ho'] at h1; cases h1
      rw [ouS_w e1 e3]; exact ho'
  refine zA ?_
  exact APure.fin rfl (WkF.ofEq rfl) (by simp) hou rfl
def factA : Tr := .mk 2 0 [1] [.mk 0 1 [] [] []] []
def factB : Tr := .mk 2 0 [2] [.mk 0 2 [] [] []] []
end Go.Proofs.YtgdionbeeodaaaaDoor
namespace Go.CoreX
def treeAt (e : List Ex) (k : Nat) : Tr := (growL e).getD k default
theorem treeAt_node {e : List Ex} (hk : kidsIn e) {i : Nat} {x : Ex} (hx : e[i]? = some x) : treeAt e i = .mk x.op x.n x.binds (x.kids.map fun k => treeAt e k.toNat) x.alts := by
  have hi := (List.getElem?_eq_some_iff.1 hx).1
  have hs : e = e.take i ++ x :: e.drop (i + 1) := by
    obtain ⟨h2, h3⟩ := List.getElem?_eq_some_iff.1 hx
    rw [← h3, ← List.drop_eq_getElem_cons h2, List.take_append_drop]
  have hl : (e.take i).length = i := by simp; omega
  have h1 := growL_at (e.take i) (e.drop (i + 1)) x
  rw [← hs, hl] at h1
  unfold treeAt
  rw [h1]
  simp only [nodeOf, Tr.mk.injEq, true_and, and_true]
  refine List.map_congr_left fun k hkk => ?_
  have hb := hk i x hx k hkk
  have h2 := growL_get (e := e.take i) (l := x :: e.drop (i + 1)) (i := k.toNat) (by rw [hl]; omega)
  rw [← hs] at h2
  exact h2.symm
theorem cnt_pos : ∀ {e : List Ex} {k : Nat}, 0 < cnt e k → ∃ (i : Nat) (x : Ex), e[i]? = some x ∧ (k : Int) ∈ x.kids
  | [], k, h => by simp [cnt] at h
  | x :: e, k, h => by
    simp only [cnt] at h
    by_cases h1 : 0 < x.kids.count (k : Int)
    · exact ⟨0, x, rfl, List.count_pos_iff.1 h1⟩
    · obtain ⟨i, y, h2, h3⟩ := cnt_pos (e := e) (k := k) (by omega)
      exact ⟨i + 1, y, by simpa using h2, h3⟩
theorem up_ind {e : List Ex} (h : IsTree e) {P : Tr → Prop} (h0 : P (grow e)) (h1 : ∀ (t s : Tr), P t → s ∈ t.kids → P s) : ∀ k, k < e.length → P (treeAt e k) := by
  have key : ∀ d k, k < e.length → e.length - k = d → P (treeAt e k) := by
    intro d
    induction d using Nat.strongRecOn with
    | _ d ih =>
      intro k hk hd
      by_cases hl : k + 1 < e.length
      · have hc := (h.c k hk).2 hl
        obtain ⟨i, x, hx, hkx⟩ := cnt_pos (e := e) (k := k) (by omega)
        have hb := h.k i x hx _ hkx
        have hi := (List.getElem?_eq_some_iff.1 hx).1
        have hp := ih (e.length - i) (by omega) i hi rfl
        rw [treeAt_node h.k hx] at hp
        refine h1 _ _ hp ?_
        simp only [Tr.kids_mk, List.mem_map]
        exact ⟨_, hkx, by simp⟩
      · have : k = e.length - 1 := by omega
        subst this
        exact h0
  exact fun k hk => key _ k hk rfl
mutual
theorem sumT_nonneg (g : Lab → Int) (hg : ∀ l, 0 ≤ g l) : ∀ t : Tr, 0 ≤ sumT g t
  | .mk o m b k a => by
    simp only [sumT]
    have h1 := hg ⟨o, m, b, k.map Tr.op, a⟩
    have h2 := sumTs_nonneg g hg k
    omega
theorem sumTs_nonneg (g : Lab → Int) (hg : ∀ l, 0 ≤ g l) : ∀ l : List Tr, 0 ≤ sumTs g l
  | [] => by simp [sumTs]
  | t :: l => by
    simp only [sumTs]
    have h1 := sumT_nonneg g hg t
    have h2 := sumTs_nonneg g hg l
    omega
end
theorem sumT_kid (g : Lab → Int) (hg : ∀ l, 0 ≤ g l) {t s : Tr} (h : s ∈ t.kids) : sumT g s ≤ sumT g t := by
  cases t with
  | mk o m b k a =>
    simp only [Tr.kids_mk] at h
    simp only [sumT, sumTs_eq]
    have h1 := hg ⟨o, m, b, k.map Tr.op, a⟩
    have : sumT g s ≤ (k.map (sumT g)).sum := by
      clear h1
      induction k with
      | nil => cases h
      | cons r k ih =>
        simp only [List.map_cons, List.sum_cons]
        have hr := sumT_nonneg g hg r
        have hk : 0 ≤ (k.map (sumT g)).sum := by
          clear ih h
          induction k with
          | nil => simp
          | cons q k ihk =>
            simp only [List.map_cons, List.sum_cons]
            have := sumT_nonneg g hg q
            omega
        rcases List.mem_cons.1 h with rfl | h
        · omega
        · have := ih h; omega
    omega
theorem okT_kid {t s : Tr} (ht : okT t) (h : s ∈ t.kids) : okT s := by
  cases t with
  | mk o m b k a => exact okTs_iff.1 ht.2.2.2.2 s h
theorem sum_mono (g : Lab → Int) (hg : ∀ l, 0 ≤ g l) {e : List Ex} (h : IsTree e) {k : Nat} (hk : k < e.length) : ((labs (listT [] (treeAt e k))).map g).sum ≤ ((labs e).map g).sum := by
  have h1 := sum_tree g (isTree_list (treeAt e k))
  rw [grow_list] at h1
  rw [h1, sum_tree g h]
  exact up_ind h (P := fun t => sumT g t ≤ sumT g (grow e)) (Int.le_refl _) (fun t s ht hs => Int.le_trans (sumT_kid g hg hs) ht) k hk
theorem sum_ones : ∀ ls : List Lab, (ls.map fun _ => (1 : Int)).sum = ls.length
  | [] => rfl
  | l :: ls => by simp only [List.map_cons, List.sum_cons, sum_ones ls, List.length_cons]; omega
theorem len_sub {e : List Ex} (h : IsTree e) {k : Nat} (hk : k < e.length) : (listT [] (treeAt e k)).length ≤ e.length := by
  have h1 := sum_mono (fun _ => (1 : Int)) (fun _ => by omega) h hk
  rw [sum_ones, sum_ones, len_labs, len_labs] at h1
  omega
theorem count_flat (n : Int) (f : Lab → List Int) : ∀ ls : List Lab, (((ls.flatMap f).count n : Nat) : Int) = (ls.map fun l => (((f l).count n : Nat) : Int)).sum
  | [] => rfl
  | l :: ls => by
    simp only [List.flatMap_cons, List.count_append, List.map_cons, List.sum_cons, ← count_flat n f ls]
    omega
def atErr (e : List Ex) (n : Int) : Int := if check e ≠ 0 then check e else if n < 0 ∨ (e.length : Int) ≤ n then 12 else 0
def freeAt (e : List Ex) (n : Int) : List Int × Int := if atErr e n ≠ 0 then ([], atErr e n) else (freeOf (treeAt e n.toNat), 0)
def cutAt (e : List Ex) (n : Int) : List Ex × Int := if atErr e n ≠ 0 then ([], atErr e n) else (listT [] (treeAt e n.toNat), 0)
def sizeAt (e : List Ex) (n : Int) : Int × Int := if atErr e n ≠ 0 then (0, atErr e n) else ((listT [] (treeAt e n.toNat)).length, 0)
end Go.CoreX
namespace Go.Proofs.YtgdionbeeodaaaaDoor
open Go Go.Abs Go.CoreX
set_option maxRecDepth 10000
variable {Γ : List (Nat × List AC)}
end Go.Proofs.YtgdionbeeodaaaaDoor
namespace Go.CoreX
mutual
def cntN : Tr → Nat
  | .mk _ _ _ k _ => cntNs k + 1
def cntNs : List Tr → Nat
  | [] => 0
  | t :: l => cntN t + cntNs l
end
mutual
theorem cntN_list : ∀ (t : Tr) (out : List Ex), (listT out t).length = out.length + cntN t
  | .mk o n b k a, out => by
    have := cntNs_list k out
    simp only [listT, cntN, List.length_append, List.length_singleton]; omega
theorem cntNs_list : ∀ (l : List Tr) (out : List Ex), (listTs out l).1.length = out.length + cntNs l
  | [], out => by simp [listTs, cntNs]
  | t :: l, out => by
    have h1 := cntN_list t out
    have h2 := cntNs_list l (listT out t)
    simp only [listTs, cntNs]; omega
end
theorem cntNs_app : ∀ (l r : List Tr), cntNs (l ++ r) = cntNs l + cntNs r
  | [], r => by simp [cntNs]
  | t :: l, r => by simp only [List.cons_append, cntNs, cntNs_app l r]; omega
end Go.CoreX
namespace Go.Proofs.YtgdionbeeodaaaaDoor
open Go Go.Abs Go.CoreX
set_option maxRecDepth 10000
variable {Γ : List (Nat × List AC)}
theorem treeAt_ok {e : List Ex} (he : okB e) (h : IsTree e) {k : Nat} (hk : k < e.length) : okT (treeAt e k) :=
  up_ind h (P := okT) (he.t h.k h.ne) (fun _ _ ht hs => okT_kid ht hs) k hk
end Go.Proofs.YtgdionbeeodaaaaDoor
namespace Go.CoreX
def scopeE (x : Ex) (k : Int) : List Int := if x.op = 2 ∨ x.op = 5 ∨ (x.op = 4 ∧ k = 1) then x.binds else if (x.op = 7 ∨ x.op = 13) ∧ 0 < k then (x.alts.getD (k - 1).toNat ⟨0, []⟩).binds else []
theorem shape_of {e : List Ex} (h : check e = 0) : ∀ x ∈ e, shape x = true := by
  intro x hx
  unfold check body at h
  by_cases h1 : treeErr e = 0
  · rw [if_neg (by simpa using h1)] at h
    by_cases h2 : firstErr (nodeErrF false e) e = 0
    · have h3 := (firstErr_zero _ e).1 h2 x hx
      unfold nodeErrF at h3
      simp only [Bool.false_and, Bool.not_false, Bool.true_and, Bool.false_or] at h3
      by_cases h4 : flatOnly x.op = true
      · rw [if_pos h4] at h3; cases h3
      · rw [if_neg h4] at h3
        unfold nodeErr at h3
        by_cases h5 : shape x = false
        · rw [if_pos h5] at h3; cases h3
        · simpa using h5
    · rw [if_pos h2] at h; exact absurd h h2
  · rw [if_pos h1] at h; exact absurd h h1
theorem shape_alts {x : Ex} (h : shape x = true) : if x.op = 7 ∨ x.op = 13 then x.kids.length = x.alts.length + 1 else x.alts = [] := by
  unfold shape at h
  split
  · rename_i ho
    rw [if_pos ho] at h
    simp only [altsOk, Bool.and_eq_true, beq_iff_eq] at h
    omega
  · rename_i ho
    rw [if_neg ho] at h
    split at h
    · cases h
    · simp only [Bool.and_eq_true, beq_iff_eq] at h
      exact List.length_eq_zero_iff.1 h.1.2
def upStep (sc : List Int) (out : List Int) (f : Int) : List Int := if sc.contains f = false ∧ out.contains f = false then out ++ [f] else out
def upKid (sc fs out : List Int) : List Int := fs.foldl (upStep sc) out
def upTo (x : Ex) (fs : Nat → List Int) : Nat → List Int
  | 0 => if x.op = 0 then [x.n] else []
  | i + 1 => upKid (scopeE x i) (fs i) (upTo x fs i)
def fsAt (e : List Ex) (x : Ex) (i : Nat) : List Int := freeOf (treeAt e (x.kids.getD i 0).toNat)
end Go.CoreX
namespace Go.Proofs.YtgdionbeeodaaaaDoor
open Go Go.Abs Go.CoreX
set_option maxRecDepth 10000
variable {Γ : List (Nat × List AC)}
end Go.Proofs.YtgdionbeeodaaaaDoor
namespace Go.Proofs.YtgdionbeeodaaaaDoor
open Go Go.Abs Go.CoreX
set_option maxRecDepth 10000
variable {Γ : List (Nat × List AC)}
def ow8 (l : List Int) : Option Nat → AC
  | none => .lit (.slice none 0 0)
  | some cap => .arr (.l 0) 1 0 (l.map cI).length cap
def st8 (l : List Int) (ou : Outer) : Option Nat → St
  | none => ⟨0, [], ou⟩
  | some cap => ⟨1, [(0, .cells (vec 1 (l.map cI) cap))], ou⟩
def co8 (l : List Int) : Option Nat → Prop
  | none => l = []
  | some cap => l.length ≤ cap
def p8 : Option Nat → Nat
  | none => 0
  | some cap => cap
def d8 (l : List Int) (ou : Outer) : Option Nat → St
  | none => st8 l ou none
  | some cap => (st8 l ou (some cap)).set (.l 0) .dead
@[simp] theorem ids_ow8 (l l' : List Int) (ou : Outer) (oc : Option Nat) : (ow8 l oc).ids (inL (st8 l' ou oc).n) := by cases oc <;> simp [ow8, st8, AC.ids, inL]
theorem keep8 (l : List Int) (oc : Option Nat) : WkF (.one (ow8 l oc)) ((FV.one (ow8 l oc)).ren id) := by cases oc <;> exact .refl _
theorem FrSub.k8 {fr r : Fr} {k : Nat} {l : List Int} {oc : Option Nat} (h : Fr.get k fr = some (.one (ow8 l oc))) (hr : FrSub id fr r) : FrSub id fr ((k, .one (ow8 l oc)) :: r) := FrSub.cons h (keep8 l oc) hr
end Go.Proofs.YtgdionbeeodaaaaDoor
namespace Go.CoreX
def wordlyF (t : Tr) : Bool := t.op == 1 || (t.op == 8 && (decide (t.n ≤ 4) || t.n == 9))
def condLoop : List Alt → Int → Bool
  | [], known => known == 2
  | a :: l, known => if a.tag = -1 then true else if a.tag ≤ 1 ∧ a.binds.length = 0 then condLoop l (known + 1) else if a.tag ≤ 1 then false else condLoop l known
theorem condLoop_cons (a : Alt) (l : List Alt) (known : Int) : condLoop (a :: l) known = if a.tag = -1 then true else if a.tag ≤ 1 ∧ a.binds.length = 0 then condLoop l (known + 1) else if a.tag ≤ 1 then false else condLoop l known := rfl
def condF (t : Tr) : Bool := if (t.kids.headD default).op ≠ 8 ∨ ((t.kids.headD default).n ≠ 5 ∧ (t.kids.headD default).n ≠ 6) then false else condLoop t.alts 0
def kid1 (t : Tr) : Tr := t.kids.tail.headD default
def wordsF (t : Tr) : Bool := wordlyF (t.kids.headD default) && (t.kids.length == 1 || wordlyF (kid1 t))
def primF (t : Tr) : Int :=
  if t.n = 7 then 3 else if t.n = 8 ∨ t.n = 11 then 10 else if t.n = 10 then 18 else if t.n = 9 then 2 else
  if t.n = 3 ∨ t.n = 4 then (if wordsF t = true ∧ (kid1 t).op = 1 ∧ (kid1 t).n ≠ 0 then 0 else 2) else
  if wordsF t = true then 0 else 2
def ownF (t : Tr) : Int :=
  if t.op = 17 then 2 else if t.op = 8 then primF t else
  if t.op = 3 then (if (t.kids.headD default).op ≠ 2 ∨ ((t.kids.headD default).binds.length : Int) ≠ t.kids.length - 1 then 63 else 0) else
  if t.op = 7 then (if condF t = true then 0 else 2) else
  if t.op = 10 ∨ t.op = 11 then (if (t.kids.headD default).op ≠ 9 ∨ (t.op = 10 ∧ (t.kids.headD default).binds.contains t.n = false) then 2 else 0) else
  if t.op = 12 then 6 else if t.op = 13 then 63 else 0
structure kidsOk (t : Tr) : Prop where
  p1 : t.op = 8 ∨ t.op = 3 ∨ t.op = 7 ∨ t.op = 10 ∨ t.op = 11 → 1 ≤ t.kids.length
  p2 : t.op = 8 → t.n = 3 ∨ t.n = 4 → 2 ≤ t.kids.length
end Go.CoreX
namespace Go.Proofs.YtgdionbeeodaaaaDoor
open Go Go.Abs Go.CoreX
set_option maxRecDepth 10000
variable {Γ : List (Nat × List AC)}
theorem wordly_ok (t : Tr) : APure Tryd.prog Γ 117 [.one (.box (cTr t))] (.one (.lit (.bool (wordlyF t)))) := by
  intro ou
  refine AFn.walk 29 tabOk Tryd.func117 rfl (by kernel_rfl) rfl rfl fun hou => ?_
  repeat' first | refine zN ?_ | (with_reducible refine oj ?_; refine AOps.splitS rfl rfl rfl rfl (fun hb => ?_) (fun hb => ?_)) | (with_reducible refine ok ?_; first | refine ACode.condS rfl (fun hb => ?_) (fun hb => ?_) | refine ACode.cond rfl (fun hb => ?_) (fun hb => ?_))
  all_goals
    refine APure.fin rfl (WkF.ofEq ?_) (by simp) hou rfl
    first
      | (simp_all [wordlyF]; done)
      | (simp_all [wordlyF]; intros; omega)
theorem has_ok (hΓ : ∀ g cs, (g, cs) ∈ Γ → idsL isO cs) (xs : List Int) (hx : xs.length ≤ 1048576) (n : Int) :
    APure Tryd.prog Γ 97 [.one (.sl 1 (xs.map cI)), .one (int n)] (.one (.lit (.bool (xs.contains n)))) := by
  intro ou
  refine AFn.walk 17 tabOk Tryd.func97 rfl (by kernel_rfl) rfl rfl fun hou => ?_
  refine zA ?_
  refine ACode.loopR hΓ (α := Nat) (fun j => [(9, .one (int j)), (8, .one (int (xs.map cI).length)), (7, .one (.sl 1 (xs.map cI))), (1, .one (int n))])
    (fun j => ⟨0, [], ou⟩) (fun m j => j ≤ xs.length ∧ n ∉ xs.take j ∧ m = xs.length - j) (a0 := 0) (ρ := id) ⟨by omega, by simp, rfl⟩ (LessR.of rfl (by (repeat' first | exact FrSub.nil | refine zfc ?_ | refine zfo ?_ | refine zfp ?_)) (by simp) (by repeat' first | exact LoSub.nil | refine zlc ?_ | refine zld ?_ ?_ | rfl) rfl rfl hou) fun m j hj => ?_
  obtain ⟨hjl, hno, rfl⟩ := hj
  refine zA ?_
  refine ACode.cond rfl (fun hb2 => ?_) (fun hb2 => ?_)
  · have hlt : j < xs.length := by simpa using hb2
    obtain ⟨x, hx1⟩ := get_of_lt hlt
    refine zA ?_
    refine AOps.step1 rfl rfl rfl (AStep.indexAddr tabOk rfl rfl rfl rfl rfl rfl (.inl rfl) rfl (by omega) (map_get hx1)) ?_
    refine zA ?_
    refine ACode.cond rfl (fun hb3 => ?_) (fun hb3 => ?_)
    · have he : x = n := by simpa using hb3
      refine zA ?_
      refine APure.fin rfl (WkF.ofEq ?_) (by simp) hou rfl
      rw [List.contains_iff_mem.2 (he ▸ List.mem_of_getElem? hx1)]
    · have he : x ≠ n := by simpa using hb3
      refine zM ?_
      refine cInv ⟨xs.length - (j + 1), j + 1, id, by omega, ⟨by omega, ?_, rfl⟩, LessR.of rfl (by (repeat' first | exact FrSub.nil | refine zfc ?_ | refine zfo ?_ | refine zfp ?_)) (by simp) (by repeat' first | exact LoSub.nil | refine zlc ?_ | refine zld ?_ ?_ | rfl) rfl rfl hou⟩
      rw [take_get hx1]
      simp only [List.mem_append, List.mem_singleton, not_or]
      exact ⟨hno, fun h => he h.symm⟩
  · have hlt : j = xs.length := by simp at hb2; omega
    subst hlt
    rw [List.take_length] at hno
    refine zA ?_
    refine APure.fin rfl (WkF.ofEq ?_) (by simp) hou rfl
    rw [List.contains_eq_mem, decide_eq_false hno]
theorem encTrs_get0 (k0 : Tr) (ks : List Tr) : (encTrs (k0 :: ks))[0]? = some [.box (cTr k0)] := by simp [encTrs, encTr_eq]
theorem conditional_ok (hΓ : ∀ g cs, (g, cs) ∈ Γ → idsL isO cs) (o n : Int) (b : List Int) (k0 : Tr) (ks : List Tr) (a : List Alt) (ha : a.length ≤ 1048576) :
    APure Tryd.prog Γ 96 [.one (.box (cTr (.mk o n b (k0 :: ks) a)))] (.one (.lit (.bool (condF (.mk o n b (k0 :: ks) a))))) := by
  intro ou
  refine AFn.walk 64 tabOk Tryd.func96 rfl (by kernel_rfl) rfl rfl fun hou => ?_
  refine zA ?_
  refine AOps.step1 rfl rfl rfl (AStep.indexAddr tabOk rfl rfl rfl rfl rfl rfl (.inl rfl) rfl (by omega) (encTrs_get0 k0 ks)) ?_
  repeat' first | refine zN ?_ | (with_reducible refine oj ?_; refine AOps.splitS rfl rfl rfl rfl (fun hb => ?_) (fun hb => ?_)) | (with_reducible refine ok ?_; first | refine ACode.condS rfl (fun hb => ?_) (fun hb => ?_) | refine ACode.cond rfl (fun hb => ?_) (fun hb => ?_))
  all_goals try
    (refine APure.fin rfl (WkF.ofEq ?_) (by simp) hou rfl
     simp_all [condF]
     done)
  all_goals
    have hcf : condF (.mk o n b (k0 :: ks) a) = condLoop a 0 := by
      unfold condF
      rw [if_neg]
      · rfl
      · simp only [Tr.kids_mk, List.headD_cons]
        rintro (h | ⟨h1, h2⟩) <;> simp_all
    rw [hcf]
    refine ACode.loopR hΓ (α := Nat × Int) (fun c => [(37, .one (int c.1)), (36, .one (int (a.map cAlt).length)), (35, .one (.sl 2 (a.map cAlt))), (4, .one (int c.2))])
      (fun c => ⟨0, [], ou⟩) (fun m c => c.1 ≤ a.length ∧ 0 ≤ c.2 ∧ c.2 ≤ c.1 ∧ condLoop a 0 = condLoop (a.drop c.1) c.2 ∧ m = a.length - c.1) (a0 := (0, 0)) (ρ := id) ⟨by omega, by omega, by simp, by simp, rfl⟩ (LessR.of rfl (by (repeat' first | exact FrSub.nil | refine zfc ?_ | refine zfo ?_ | refine zfp ?_)) (by simp) (by repeat' first | exact LoSub.nil | refine zlc ?_ | refine zld ?_ ?_ | rfl) rfl rfl hou) fun m c hc => ?_
    obtain ⟨j, kn⟩ := c
    obtain ⟨hjl, h0, h1, h2, rfl⟩ := hc
    simp only at hjl h0 h1 h2
    refine zA ?_
    refine ACode.cond rfl (fun hb2 => ?_) (fun hb2 => ?_)
    · have hlt : j < a.length := by simpa using hb2
      obtain ⟨x, hx1⟩ := get_of_lt hlt
      have hdr : a.drop j = x :: a.drop (j + 1) := by
        obtain ⟨q1, q2⟩ := List.getElem?_eq_some_iff.1 hx1
        rw [List.drop_eq_getElem_cons q1, q2]
      rw [hdr, condLoop_cons] at h2
      refine zA ?_
      refine AOps.step1 rfl rfl rfl (AStep.indexAddr tabOk rfl rfl rfl rfl rfl rfl (.inl rfl) rfl (by omega) (map_get hx1)) ?_
      refine zA ?_
      refine ACode.cond rfl (fun hb3 => ?_) (fun hb3 => ?_)
      · have he : x.tag = -1 := by simpa using hb3
        refine zA ?_
        refine APure.fin rfl (WkF.ofEq ?_) (by simp) hou rfl
        rw [h2, if_pos he]
      · have he : x.tag ≠ -1 := by simpa using hb3
        rw [if_neg he] at h2
        by_cases h4 : x.tag ≤ 1 ∧ x.binds.length = 0
        · rw [if_pos h4] at h2
          refine zA ?_
          refine AOps.splitG rfl rfl rfl (fun hv => ?_) (fun hv => absurd h4.1 (by simpa using hv))
          refine zA ?_
          refine ACode.cond rfl (fun hw => ?_) (fun hw => absurd h4.2 (by simpa using hw))
          refine zM ?_
          exact cInv ⟨a.length - (j + 1), (j + 1, kn + 1), id, by omega, ⟨by omega, by omega, by simp; omega, h2, rfl⟩, LessR.of rfl (by (repeat' first | exact FrSub.nil | refine zfc ?_ | refine zfo ?_ | refine zfp ?_)) (by simp) (by repeat' first | exact LoSub.nil | refine zlc ?_ | refine zld ?_ ?_ | rfl) rfl rfl hou⟩
        · rw [if_neg h4] at h2
          by_cases h5 : x.tag ≤ 1
          · rw [if_pos h5] at h2
            have h6 : ¬ x.binds.length = 0 := fun h => h4 ⟨h5, h⟩
            refine zA ?_
            refine AOps.splitG rfl rfl rfl (fun hv => ?_) (fun hv => absurd h5 (by simpa using hv))
            refine zA ?_
            refine ACode.cond rfl (fun hw => absurd (by simpa using hw) h6) (fun hw => ?_)
            refine zA ?_
            refine ACode.cond rfl (fun hw => ?_) (fun hw => absurd h5 (by simpa using hw))
            refine zA ?_
            refine APure.fin rfl (WkF.ofEq ?_) (by simp) hou rfl
            rw [h2]
          · rw [if_neg h5] at h2
            refine zA ?_
            refine AOps.splitG rfl rfl rfl (fun hv => absurd (by simpa using hv) h5) (fun hv => ?_)
            refine zA ?_
            refine ACode.cond rfl (fun hw => absurd (by simpa using hw) h5) (fun hw => ?_)
            refine zM ?_
            exact cInv ⟨a.length - (j + 1), (j + 1, kn), id, by omega, ⟨by omega, by omega, by simp; omega, h2, rfl⟩, LessR.of rfl (by (repeat' first | exact FrSub.nil | refine zfc ?_ | refine zfo ?_ | refine zfp ?_)) (by simp) (by repeat' first | exact LoSub.nil | refine zlc ?_ | refine zld ?_ ?_ | rfl) rfl rfl hou⟩
    · have hlt : j = a.length := by simp at hb2; omega
      subst hlt
      refine zA ?_
      refine APure.fin rfl (WkF.ofEq ?_) (by simp) hou rfl
      rw [h2, List.drop_length]; rfl
theorem encTrs_get1 (k0 k1 : Tr) (ks : List Tr) : (encTrs (k0 :: k1 :: ks))[1]? = some [.box (cTr k1)] := by simp [encTrs, encTr_eq]
theorem encTrs_len2 (k0 k1 : Tr) (ks : List Tr) : ((encTrs (k0 :: k1 :: ks)).length : Int) ≠ 1 := by simp [encTrs]; omega
theorem prim1_ok (hΓ : ∀ g cs, (g, cs) ∈ Γ → idsL isO cs) (o n : Int) (b : List Int) (k0 : Tr) (a : List Alt) (hn : ¬ (n = 3 ∨ n = 4)) :
    APure Tryd.prog Γ 95 [.one (.box (cTr (.mk o n b [k0] a)))] (.one (int (primF (.mk o n b [k0] a)))) := by
  have hw := wordly_ok (Γ := Γ) k0
  have hws : wordsF (.mk o n b [k0] a) = wordlyF k0 := by simp [wordsF]
  intro ou
  refine AFn.walk 70 tabOk Tryd.func95 rfl (by kernel_rfl) rfl rfl fun hou => ?_
  refine zA ?_
  refine AOps.step1 rfl rfl rfl (AStep.indexAddr tabOk rfl rfl rfl rfl rfl rfl (.inl rfl) rfl (by omega) (encTrs_get0 k0 [])) ?_
  refine zA ?_
  refine zca hΓ hw hou ?_
  repeat' first | refine zN ?_ | (with_reducible refine oj ?_; refine AOps.splitS rfl rfl rfl rfl (fun hb => ?_) (fun hb => ?_)) | (with_reducible refine ok ?_; first | refine ACode.condS rfl (fun hb => ?_) (fun hb => ?_) | refine ACode.cond rfl (fun hb => ?_) (fun hb => ?_))
  all_goals first
    | (refine absurd ?_ hn; simp_all; done)
    | (refine APure.fin rfl (WkF.ofEq ?_) (by simp) hou rfl
       simp_all [primF]
       done)
theorem prim2_ok (hΓ : ∀ g cs, (g, cs) ∈ Γ → idsL isO cs) (o n : Int) (b : List Int) (k0 k1 : Tr) (ks : List Tr) (a : List Alt) :
    APure Tryd.prog Γ 95 [.one (.box (cTr (.mk o n b (k0 :: k1 :: ks) a)))] (.one (int (primF (.mk o n b (k0 :: k1 :: ks) a)))) := by
  have hw := wordly_ok (Γ := Γ) k0
  have hw1 := wordly_ok (Γ := Γ) k1
  have hws : wordsF (.mk o n b (k0 :: k1 :: ks) a) = (wordlyF k0 && wordlyF k1) := by simp [wordsF, kid1]
  have hk1 : kid1 (.mk o n b (k0 :: k1 :: ks) a) = k1 := rfl
  have hl2 := encTrs_len2 k0 k1 ks
  intro ou
  refine AFn.walk 70 tabOk Tryd.func95 rfl (by kernel_rfl) rfl rfl fun hou => ?_
  refine zA ?_
  refine AOps.step1 rfl rfl rfl (AStep.indexAddr tabOk rfl rfl rfl rfl rfl rfl (.inl rfl) rfl (by omega) (encTrs_get0 k0 (k1 :: ks))) ?_
  refine zA ?_
  refine zca hΓ hw hou ?_
  repeat' first | refine zN ?_ | (with_reducible refine oj ?_; refine AOps.splitS rfl rfl rfl rfl (fun hb => ?_) (fun hb => ?_)) | (with_reducible refine ok ?_; first | refine ACode.condS rfl (fun hb => ?_) (fun hb => ?_) | refine ACode.cond rfl (fun hb => ?_) (fun hb => ?_))
  all_goals try (refine absurd ?_ hl2; simp_all; done)
  all_goals try (refine AOps.step1 rfl rfl rfl (AStep.indexAddr tabOk rfl rfl rfl rfl rfl rfl (.inl rfl) rfl (by omega) (encTrs_get1 k0 k1 ks)) ?_; repeat' first | refine zN ?_ | (with_reducible refine oj ?_; refine AOps.splitS rfl rfl rfl rfl (fun hb => ?_) (fun hb => ?_)) | (with_reducible refine ok ?_; first | refine ACode.condS rfl (fun hb => ?_) (fun hb => ?_) | refine ACode.cond rfl (fun hb => ?_) (fun hb => ?_)))
  all_goals try (refine zca hΓ hw1 hou ?_; repeat' first | refine zN ?_ | (with_reducible refine oj ?_; refine AOps.splitS rfl rfl rfl rfl (fun hb => ?_) (fun hb => ?_)) | (with_reducible refine ok ?_; first | refine ACode.condS rfl (fun hb => ?_) (fun hb => ?_) | refine ACode.cond rfl (fun hb => ?_) (fun hb => ?_)))
  all_goals try (refine AOps.step1 rfl rfl rfl (AStep.indexAddr tabOk rfl rfl rfl rfl rfl rfl (.inl rfl) rfl (by omega) (encTrs_get1 k0 k1 ks)) ?_; repeat' first | refine zN ?_ | (with_reducible refine oj ?_; refine AOps.splitS rfl rfl rfl rfl (fun hb => ?_) (fun hb => ?_)) | (with_reducible refine ok ?_; first | refine ACode.condS rfl (fun hb => ?_) (fun hb => ?_) | refine ACode.cond rfl (fun hb => ?_) (fun hb => ?_)))
  all_goals try (refine AOps.step1 rfl rfl rfl (AStep.indexAddr tabOk rfl rfl rfl rfl rfl rfl (.inl rfl) rfl (by omega) (encTrs_get1 k0 k1 ks)) ?_; repeat' first | refine zN ?_ | (with_reducible refine oj ?_; refine AOps.splitS rfl rfl rfl rfl (fun hb => ?_) (fun hb => ?_)) | (with_reducible refine ok ?_; first | refine ACode.condS rfl (fun hb => ?_) (fun hb => ?_) | refine ACode.cond rfl (fun hb => ?_) (fun hb => ?_)))
  all_goals first
    | (refine APure.fin rfl (WkF.ofEq ?_) (by simp) hou rfl
       simp_all [primF]
       done)
    | trace_state
end Go.Proofs.YtgdionbeeodaaaaDoor
namespace Go.Proofs.YtgdionbeeodaaaaDoor
open Go Go.Abs Go.CoreX
set_option maxRecDepth 10000
variable {Γ : List (Nat × List AC)}
theorem own0_ok (hΓ : ∀ g cs, (g, cs) ∈ Γ → idsL isO cs) (o n : Int) (b : List Int) (ks : List Tr) (a : List Alt) (h0 : ¬ (o = 8 ∨ o = 3 ∨ o = 7 ∨ o = 10 ∨ o = 11)) :
    APure Tryd.prog Γ 60 [.one (.box (cTr (.mk o n b ks a)))] (.one (int (ownF (.mk o n b ks a)))) := by
  intro ou
  refine AFn.walk 90 tabOk Tryd.func60 rfl (by kernel_rfl) rfl rfl fun hou => ?_
  repeat' first | refine zN ?_ | (with_reducible refine oj ?_; refine AOps.splitS rfl rfl rfl rfl (fun hb => ?_) (fun hb => ?_)) | (with_reducible refine ok ?_; first | refine ACode.condS rfl (fun hb => ?_) (fun hb => ?_) | refine ACode.cond rfl (fun hb => ?_) (fun hb => ?_))
  all_goals first
    | (refine absurd ?_ h0; simp_all; done)
    | (refine APure.fin rfl (WkF.ofEq ?_) (by simp) hou rfl
       simp_all [ownF]
       done)
theorem own1_ok (hΓ : ∀ g cs, (g, cs) ∈ Γ → idsL isO cs) (o n : Int) (b : List Int) (k0 : Tr) (ks : List Tr) (a : List Alt) (h0 : o = 8 ∨ o = 3 ∨ o = 7 ∨ o = 10 ∨ o = 11) (h1 : o = 8 → n = 3 ∨ n = 4 → ks ≠ []) (ha : a.length ≤ 1048576) (hkl : ks.length ≤ 1048576) (hb0 : k0.binds.length ≤ 1048576) :
    APure Tryd.prog Γ 60 [.one (.box (cTr (.mk o n b (k0 :: ks) a)))] (.one (int (ownF (.mk o n b (k0 :: ks) a)))) := by
  have hp : o = 8 → APure Tryd.prog Γ 95 [.one (.box (cTr (.mk o n b (k0 :: ks) a)))] (.one (int (primF (.mk o n b (k0 :: ks) a)))) := fun h8 => by
    cases ks with
    | nil => exact prim1_ok hΓ o n b k0 a fun h => h1 h8 h rfl
    | cons k1 ks => exact prim2_ok hΓ o n b k0 k1 ks a
  have hc := conditional_ok hΓ o n b k0 ks a ha
  have hh := has_ok hΓ k0.binds hb0 n
  intro ou
  refine AFn.walk 90 tabOk Tryd.func60 rfl (by kernel_rfl) rfl rfl fun hou => ?_
  repeat' first | refine zN ?_ | (with_reducible refine oj ?_; refine AOps.splitS rfl rfl rfl rfl (fun hb => ?_) (fun hb => ?_)) | (with_reducible refine ok ?_; first | refine ACode.condS rfl (fun hb => ?_) (fun hb => ?_) | refine ACode.cond rfl (fun hb => ?_) (fun hb => ?_))
  all_goals try (refine absurd h0 ?_; simp_all; done)
  · have h8 : o = 8 := by simp_all
    refine zca hΓ (hp h8) hou ?_
    refine zA ?_
    refine APure.fin rfl (WkF.ofEq ?_) (by simp) hou rfl
    simp_all [ownF]
  · have h3 : o = 3 := by simp_all
    by_cases h2 : k0.op = 2
    · refine ACode.drawX tabOk 28 [(4, .one (.box (cB k0))), (9, .one (.lit (.bool false))), (15, .one (.box (cB k0))), (26, .one (int (((encTrs (k0 :: ks)).length : Int) - 1)))] follows (by kernel_rfl) rfl rfl rfl rfl ?_ ?_
      · refine .step rfl (HStep.plain rfl (AStep.indexAddr tabOk rfl rfl rfl rfl rfl rfl (.inl rfl) rfl (by omega) (encTrs_get0 k0 ks))) ?_
        refine .step rfl (HStep.litB tabOk rfl (by simp [h2])) ?_
        refine .step rfl (HStep.guarded rfl rfl rfl (AStep.indexAddr tabOk rfl rfl rfl rfl rfl rfl (.inl rfl) rfl (by omega) (encTrs_get0 k0 ks))) ?_
        exact .step rfl (HStep.guarded rfl rfl rfl (AStep.arith rfl rfl rfl (.inr (.inl ⟨rfl, rfl⟩)) (inRange_i64 (by rw [encTrs_eq]; simp; try omega) (by rw [encTrs_eq]; simp; try omega)))) .nil
      repeat' first | refine zN ?_ | (with_reducible refine oj ?_; refine AOps.splitS rfl rfl rfl rfl (fun hb => ?_) (fun hb => ?_)) | (with_reducible refine ok ?_; first | refine ACode.condS rfl (fun hb => ?_) (fun hb => ?_) | refine ACode.cond rfl (fun hb => ?_) (fun hb => ?_))
      all_goals
        refine APure.fin rfl (WkF.ofEq ?_) (by simp) hou rfl
        simp_all [ownF, encTrs_eq]
    · refine ACode.drawX tabOk 28 [(4, .one (.box (cB k0))), (9, .one (.lit (.bool true)))] follows (by kernel_rfl) rfl rfl rfl rfl ?_ ?_
      · refine .step rfl (HStep.plain rfl (AStep.indexAddr tabOk rfl rfl rfl rfl rfl rfl (.inl rfl) rfl (by omega) (encTrs_get0 k0 ks))) ?_
        exact .step rfl (HStep.litB tabOk rfl (by simp [h2])) .nil
      repeat' first | refine zN ?_ | (with_reducible refine oj ?_; refine AOps.splitS rfl rfl rfl rfl (fun hb => ?_) (fun hb => ?_)) | (with_reducible refine ok ?_; first | refine ACode.condS rfl (fun hb => ?_) (fun hb => ?_) | refine ACode.cond rfl (fun hb => ?_) (fun hb => ?_))
      all_goals
        refine APure.fin rfl (WkF.ofEq ?_) (by simp) hou rfl
        simp_all [ownF]
  · have h7 : o = 7 := by simp_all
    refine zca hΓ hc hou ?_
    repeat' first | refine zN ?_ | (with_reducible refine oj ?_; refine AOps.splitS rfl rfl rfl rfl (fun hb => ?_) (fun hb => ?_)) | (with_reducible refine ok ?_; first | refine ACode.condS rfl (fun hb => ?_) (fun hb => ?_) | refine ACode.cond rfl (fun hb => ?_) (fun hb => ?_))
    all_goals
      refine APure.fin rfl (WkF.ofEq ?_) (by simp) hou rfl
      simp_all [ownF]
  · have h10 : o = 10 := by simp_all
    by_cases h9 : k0.op = 9
    · refine ACode.drawX tabOk 33 [(4, .one (.box (cB k0))), (9, .one (.lit (.bool false))), (15, .one (.lit (.bool true))), (21, .one (.box (cB k0))), (30, .one (.lit (.bool (k0.binds.contains n))))] follows (by kernel_rfl) rfl rfl rfl rfl ?_ ?_
      · refine .step rfl (HStep.plain rfl (AStep.indexAddr tabOk rfl rfl rfl rfl rfl rfl (.inl rfl) rfl (by omega) (encTrs_get0 k0 ks))) ?_
        refine .step rfl (HStep.litB tabOk rfl (by simp [h9])) ?_
        refine .step rfl (HStep.litB tabOk rfl (by simp [h10])) ?_
        refine .step rfl (HStep.guarded rfl rfl rfl (AStep.indexAddr tabOk rfl rfl rfl rfl rfl rfl (.inl rfl) rfl (by omega) (encTrs_get0 k0 ks))) ?_
        exact .step rfl (HStep.guarded rfl rfl rfl (AStep.callP hΓ rfl rfl rfl rfl (by simp) hou hh)) .nil
      repeat' first | refine zN ?_ | (with_reducible refine oj ?_; refine AOps.splitS rfl rfl rfl rfl (fun hb => ?_) (fun hb => ?_)) | (with_reducible refine ok ?_; first | refine ACode.condS rfl (fun hb => ?_) (fun hb => ?_) | refine ACode.cond rfl (fun hb => ?_) (fun hb => ?_))
      all_goals
        refine APure.fin rfl (WkF.ofEq ?_) (by simp) hou rfl
        simp_all [ownF]
    · refine ACode.drawX tabOk 33 [(4, .one (.box (cB k0))), (9, .one (.lit (.bool true)))] follows (by kernel_rfl) rfl rfl rfl rfl ?_ ?_
      · refine .step rfl (HStep.plain rfl (AStep.indexAddr tabOk rfl rfl rfl rfl rfl rfl (.inl rfl) rfl (by omega) (encTrs_get0 k0 ks))) ?_
        exact .step rfl (HStep.litB tabOk rfl (by simp [h9])) .nil
      repeat' first | refine zN ?_ | (with_reducible refine oj ?_; refine AOps.splitS rfl rfl rfl rfl (fun hb => ?_) (fun hb => ?_)) | (with_reducible refine ok ?_; first | refine ACode.condS rfl (fun hb => ?_) (fun hb => ?_) | refine ACode.cond rfl (fun hb => ?_) (fun hb => ?_))
      all_goals
        refine APure.fin rfl (WkF.ofEq ?_) (by simp) hou rfl
        simp_all [ownF]
  · have h11 : o = 11 := by simp_all
    by_cases h9 : k0.op = 9
    · refine ACode.drawX tabOk 33 [(4, .one (.box (cB k0))), (9, .one (.lit (.bool false))), (15, .one (.lit (.bool false)))] follows (by kernel_rfl) rfl rfl rfl rfl ?_ ?_
      · refine .step rfl (HStep.plain rfl (AStep.indexAddr tabOk rfl rfl rfl rfl rfl rfl (.inl rfl) rfl (by omega) (encTrs_get0 k0 ks))) ?_
        refine .step rfl (HStep.litB tabOk rfl (by simp [h9])) ?_
        exact .step rfl (HStep.litB tabOk rfl (by simp [h11])) .nil
      repeat' first | refine zN ?_ | (with_reducible refine oj ?_; refine AOps.splitS rfl rfl rfl rfl (fun hb => ?_) (fun hb => ?_)) | (with_reducible refine ok ?_; first | refine ACode.condS rfl (fun hb => ?_) (fun hb => ?_) | refine ACode.cond rfl (fun hb => ?_) (fun hb => ?_))
      all_goals
        refine APure.fin rfl (WkF.ofEq ?_) (by simp) hou rfl
        simp_all [ownF]
    · refine ACode.drawX tabOk 33 [(4, .one (.box (cB k0))), (9, .one (.lit (.bool true)))] follows (by kernel_rfl) rfl rfl rfl rfl ?_ ?_
      · refine .step rfl (HStep.plain rfl (AStep.indexAddr tabOk rfl rfl rfl rfl rfl rfl (.inl rfl) rfl (by omega) (encTrs_get0 k0 ks))) ?_
        exact .step rfl (HStep.litB tabOk rfl (by simp [h9])) .nil
      repeat' first | refine zN ?_ | (with_reducible refine oj ?_; refine AOps.splitS rfl rfl rfl rfl (fun hb => ?_) (fun hb => ?_)) | (with_reducible refine ok ?_; first | refine ACode.condS rfl (fun hb => ?_) (fun hb => ?_) | refine ACode.cond rfl (fun hb => ?_) (fun hb => ?_))
      all_goals
        refine APure.fin rfl (WkF.ofEq ?_) (by simp) hou rfl
        simp_all [ownF]
end Go.Proofs.YtgdionbeeodaaaaDoor
namespace Go.CoreX
open Go.Abs (orI subI anI)
def ex0 : Ex := ⟨0, 0, [], [], []⟩
def exN (e : List Ex) (i : Nat) : Ex := e.getD i ex0
def shK (e : List Ex) (k : Int) : Tr := .mk (exN e k.toNat).op (exN e k.toNat).n (exN e k.toNat).binds [] []
def shT (e : List Ex) (x : Ex) : Tr := .mk x.op x.n x.binds (x.kids.map (shK e)) x.alts
def purStep (e : List Ex) (x : Ex) (p : List Int) (k : Nat) (kid : Int) (acc : Int) : Int :=
  if x.op = 2 ∨ (x.op = 5 ∧ k < x.binds.length) then acc
  else if x.op = 3 ∧ k = 0 ∧ (exN e kid.toNat).op = 2 then orI acc (p.getD ((exN e kid.toNat).kids.getD 0 0).toNat 0)
  else orI acc (p.getD kid.toNat 0)
def purTo (e : List Ex) (x : Ex) (p : List Int) : Nat → Int
  | 0 => ownF (shT e x)
  | j + 1 => purStep e x p j (x.kids.getD j 0) (purTo e x p j)
def purAt (e : List Ex) : Nat → List Int
  | 0 => List.replicate e.length 0
  | i + 1 => (purAt e i).set i (purTo e (exN e i) (purAt e i) (exN e i).kids.length)
def purOf (e : List Ex) : List Int × Int := if check e ≠ 0 then ([], check e) else (purAt e e.length, 0)
theorem purAt_succ (e : List Ex) (i : Nat) : purAt e (i + 1) = (purAt e i).set i (purTo e (exN e i) (purAt e i) (exN e i).kids.length) := rfl
theorem purAt_len (e : List Ex) : ∀ i, (purAt e i).length = e.length
  | 0 => by simp [purAt]
  | i + 1 => by simp [purAt, purAt_len e i]
theorem purAt_stable (e : List Ex) {i k : Nat} (hk : k < i) : ∀ m, i ≤ m → (purAt e m).getD k 0 = (purAt e i).getD k 0
  | 0, h => by omega
  | m + 1, h => by
    by_cases e1 : i = m + 1
    · rw [e1]
    · rw [← purAt_stable e hk m (by omega)]
      rw [purAt_succ, List.getD_eq_getElem?_getD, List.getD_eq_getElem?_getD, List.getElem?_set_ne (by omega)]
theorem purAt_val (e : List Ex) {i : Nat} (hi : i < e.length) : (purAt e (i + 1)).getD i 0 = purTo e (exN e i) (purAt e i) (exN e i).kids.length := by
  rw [purAt_succ, List.getD_eq_getElem?_getD, List.getElem?_set_self (by rw [purAt_len]; exact hi)]; rfl
theorem pur_final (e : List Ex) {i : Nat} (hi : i < e.length) : (purAt e e.length).getD i 0 = purTo e (exN e i) (purAt e i) (exN e i).kids.length := by
  rw [purAt_stable e (i := i + 1) (by omega) e.length (by omega), purAt_val e hi]
theorem purTo_fun (e : List Ex) (x : Ex) (p : List Int) (h : x.op = 2) : ∀ j, purTo e x p j = 0
  | 0 => by
    unfold purTo ownF
    simp [shT, h]
  | j + 1 => by
    unfold purTo purStep
    rw [if_pos (.inl h), purTo_fun e x p h j]
theorem pur_fun {e : List Ex} {i : Nat} {x : Ex} (hx : e[i]? = some x) (h2 : x.op = 2) : (purAt e e.length).getD i 0 = 0 := by
  have hi := (List.getElem?_eq_some_iff.1 hx).1
  have hxn : exN e i = x := by unfold exN; rw [List.getD_eq_getElem?_getD, hx]; rfl
  rw [pur_final e hi, hxn, purTo_fun _ _ _ h2]
theorem shape_kids {x : Ex} (h : shape x = true) : (x.op = 8 ∨ x.op = 3 ∨ x.op = 7 ∨ x.op = 10 ∨ x.op = 11 ∨ x.op = 2 → x.kids ≠ []) ∧ (x.op = 8 → x.n = 3 ∨ x.n = 4 → 2 ≤ x.kids.length) := by
  unfold shape at h
  split at h
  · rename_i ho
    simp only [altsOk, Bool.and_eq_true, beq_iff_eq] at h
    refine ⟨fun _ hn => ?_, fun h8 => by omega⟩
    rw [hn] at h
    simp at h
    omega
  · rename_i ho
    split at h
    · cases h
    · rename_i k b u hw
      simp only [Bool.and_eq_true, beq_iff_eq] at h
      have hkl := h.1.1.1
      have ha : ∀ m, m < 12 → 1 ≤ arityL.getD m 0 := by decide
      have h8 : x.op = 8 → (0 ≤ x.n ∧ x.n ≤ 11) ∧ k = arityL.getD x.n.toNat 0 := fun h8 => by
        unfold wants at hw
        simp [h8] at hw
        obtain ⟨h1, h2, _⟩ := hw
        simp [between] at h1
        exact ⟨h1, h2.symm⟩
      refine ⟨fun ho2 hn => ?_, fun h9 h34 => ?_⟩
      · rw [hn] at hkl
        simp only [List.length_nil] at hkl
        rcases ho2 with h1 | h1 | h1 | h1 | h1 | h1
        · obtain ⟨h2, h3⟩ := h8 h1
          have := ha x.n.toNat (by omega)
          omega
        · unfold wants at hw
          simp [h1] at hw
          have := hw.1
          rw [hn] at this
          simp at this
          omega
        · exact ho (.inl h1)
        · unfold wants at hw
          simp [h1] at hw
          omega
        · unfold wants at hw
          simp [h1] at hw
          omega
        · unfold wants at hw
          simp [h1] at hw
          omega
      · obtain ⟨h2, h3⟩ := h8 h9
        rcases h34 with h4 | h4
        · rw [h4] at h3
          have : arityL.getD (3 : Int).toNat 0 = 2 := by decide
          omega
        · rw [h4] at h3
          have : arityL.getD (4 : Int).toNat 0 = 2 := by decide
          omega
end Go.CoreX
