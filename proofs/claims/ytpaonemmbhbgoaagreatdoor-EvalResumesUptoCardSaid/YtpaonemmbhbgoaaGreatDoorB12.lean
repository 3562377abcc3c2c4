/- Sums, differences and products of words: what they are worth, and that they simplify to it. No condition. -/
import Derived.Test.YtpaonemmbhbgoaaGreatDoorB11
import Derived.Test.YtpaonemmbhbgoaaGreatDoorRows
import Derived.Lib.LaidTab
set_option maxRecDepth 10000
set_option linter.unusedVariables false
set_option linter.unusedSimpArgs false
namespace Go.CoreX
def opI (n x y : Int) : Int := if n = 0 then x + y else if n = 1 then x - y else x * y
inductive Wd : Tr → Int → Nat → Prop
 | w (n : Int) (h : -1073741824 ≤ n ∧ n ≤ 1073741823) : Wd (wordT n) n 0
 | p (n : Int) (a b : Tr) (x y : Int) (c d : Nat) (h : 0 ≤ n ∧ n ≤ 2) (ha : Wd a x c) (hb : Wd b y d) : Wd (.mk 8 n [] [a, b] []) (wrapI (opI n x y)) (c + d + 1)
theorem wrapI_rng (n : Int) : -1073741824 ≤ wrapI n ∧ wrapI n ≤ 1073741823 := by unfold wrapI; omega
theorem Wd.rng {t : Tr} {v : Int} {k : Nat} (h : Wd t v k) : -1073741824 ≤ v ∧ v ≤ 1073741823 := by
 cases h with
 | w n h => exact h
 | p n a b x y c d h ha hb => exact wrapI_rng _
theorem Wd.inv {t : Tr} {v : Int} {k : Nat} (h : Wd t v k) : (t = wordT v ∧ k = 0) ∨ ∃ n a b x y c d, t = .mk 8 n [] [a, b] [] ∧ v = wrapI (opI n x y) ∧ k = c + d + 1 ∧ (0 ≤ n ∧ n ≤ 2) ∧ Wd a x c ∧ Wd b y d := by
 cases h with
 | w n h => exact .inl ⟨rfl, rfl⟩
 | p n a b x y c d h ha hb => exact .inr ⟨n, a, b, x, y, c, d, rfl, rfl, rfl, h, ha, hb⟩
theorem Wd.ev {fu : Int} {fns : List Fun} {t : Tr} {v : Int} {k : Nat} (h : Wd t v k) (e : En) : Ev fu fns t e (.word v) (2 * k + 1) := by
 induction h with
 | w n h => exact ev_int n e
 | p n a b x y c d h ha hb iha ihb =>
   have := ev_prim (n := n) (v := .word (wrapI (opI n x y))) iha ihb (fun m => by
     have h3 : n = 0 ∨ n = 1 ∨ n = 2 := by omega
     rcases h3 with rfl | rfl | rfl <;> simp [primM, wordV, opI, bind, Except.bind, pure, Except.pure] <;> rfl)
   rw [show 1 + (2 * c + 1) + (2 * d + 1) = 2 * (c + d + 1) + 1 by omega] at this
   exact this
theorem Wd.cnt {t : Tr} {v : Int} {k : Nat} (h : Wd t v k) : cntN t = 2 * k + 1 := by
 induction h with
 | w n h => rfl
 | p n a b x y c d h ha hb iha ihb => simp only [cntN, cntNs, iha, ihb]; omega
theorem Wd.dep {t : Tr} {v : Int} {k : Nat} (h : Wd t v k) : 0 ≤ depthT t ∧ depthT t ≤ k + 1 := by
 induction h with
 | w n h => simp [wordT, depthT, depthTs]
 | p n a b x y c d h ha hb iha ihb =>
   simp only [depthT, depthTs, List.foldl_cons, List.foldl_nil, mx]
   push_cast
   split <;> split <;> omega
def noB (l : Lab) : Prop := bindersN l.op l.binds l.alts = []
theorem pLab_word {n : Int} (h : -1073741824 ≤ n ∧ n ≤ 1073741823) : pLab ⟨1, n, [], [], []⟩ := fun e x hk hl => by
 obtain ⟨o, m, b, ks, a⟩ := x
 simp only [labE, Lab.mk.injEq, List.map_eq_nil_iff] at hl
 obtain ⟨rfl, rfl, rfl, rfl, rfl⟩ := hl
 have hb : between m (-1073741824) 1073741823 = true := by simp [between]; omega
 simp [nodeErrF, nodeErr, shape, wants, ranges, lowN, highN, hb, fields, flatOnly, coreOnly]
theorem pLab_prim {n oa ob : Int} (h : 0 ≤ n ∧ n ≤ 2) : pLab ⟨8, n, [], [oa, ob], []⟩ := fun e x hk hl => by
 obtain ⟨o, m, b, ks, a⟩ := x
 simp only [labE, Lab.mk.injEq] at hl
 obtain ⟨rfl, rfl, rfl, hks, rfl⟩ := hl
 have hlen : ks.length = 2 := by simpa using congrArg List.length hks
 have hb : between m 0 11 = true := by simp [between]; omega
 have hb2 : between m 0 1048575 = true := by simp [between]; omega
 have h3 : m = 0 ∨ m = 1 ∨ m = 2 := by omega
 have ha : arityL[m.toNat]?.getD 0 = 2 := by rcases h3 with rfl | rfl | rfl <;> rfl
 simp [nodeErrF, nodeErr, shape, wants, ranges, lowN, highN, hb, hb2, ha, hlen, fields, flatOnly, coreOnly]
theorem Wd.pLab {t : Tr} {v : Int} {k : Nat} (h : Wd t v k) : allT pLab t ∧ allT noB t ∧ ∀ sc, occT sc t = [] := by
 induction h with
 | w n h => exact ⟨⟨pLab_word h, trivial⟩, ⟨rfl, trivial⟩, fun sc => rfl⟩
 | p n a b x y c d h ha hb iha ihb =>
   refine ⟨⟨pLab_prim h, iha.1, ihb.1, trivial⟩, ⟨rfl, iha.2.1, ihb.2.1, trivial⟩, fun sc => ?_⟩
   simp [occT, occTs, iha.2.2, ihb.2.2]
theorem Wd.check {t : Tr} {v : Int} {k : Nat} (h : Wd t v k) (hk : k ≤ 40) : check (listT [] t) = 0 := by
 have t2 := isTree_list t
 refine check_of ((treeErr_iff _).2 ⟨?_, t2, ?_⟩) (fun y hy => ?_) ?_ ?_
 · have := cntN_list t []
   rw [h.cnt] at this
   simp only [List.length_nil] at this
   omega
 · rw [grow_list]
   have := h.dep
   omega
 · have := allT_labs t2 (by rw [grow_list]; exact h.pLab.1) _ (List.mem_map_of_mem (f := labE (listT [] t)) hy)
   exact this _ y (kids_lt t2.k hy) rfl
 · rw [allBinders_labs]
   have h2 := allT_labs t2 (by rw [grow_list]; exact h.pLab.2.1)
   rw [List.flatMap_eq_nil_iff.2 h2]
   exact List.nodup_nil
 · rw [grow_list]; exact h.pLab.2.2 []
theorem ixInd {e : List Ex} (h : IsTree e) {P : Nat → Prop} (h0 : P (e.length - 1)) (h1 : ∀ (i : Nat) (x : Ex) (k : Nat), e[i]? = some x → (k : Int) ∈ x.kids → P i → P k) : ∀ k, k < e.length → P k := by
 have key : ∀ d k, k < e.length → e.length - k = d → P k := by
   intro d
   induction d using Nat.strongRecOn with
   | _ d ih =>
     intro k hk hd
     by_cases hl : k + 1 < e.length
     · have hc := (h.c k hk).2 hl
       obtain ⟨i, x, hx, hkx⟩ := cnt_pos (e := e) (k := k) (by omega)
       have hb := h.k i x hx _ hkx
       have hi := (List.getElem?_eq_some_iff.1 hx).1
       exact h1 i x k hx hkx (ih (e.length - i) (by omega) i hi rfl)
     · have : k = e.length - 1 := by omega
       subst this
       exact h0
 exact fun k hk => key _ k hk rfl
theorem growRNe {e : List Ex} (h : IsTree e) {p : Nat} (hp : p < e.length) {D : Tr} (hD : D ≠ treeAt e p) : growR e p D ≠ grow e := by
 intro he
 have hP := ixInd h (P := fun j => (growLR e p D).getD j default = treeAt e j) he (fun i x k hx hk hi => by
   rw [growLR_node h.k p D hx] at hi
   by_cases hip : i = p
   · rw [if_pos hip] at hi
     subst hip
     exact absurd hi hD
   · rw [if_neg hip, treeAt_node h.k hx] at hi
     injection hi with _ _ _ hks _
     have := List.map_inj_left.1 hks (k : Int) hk
     simpa using this) p hp
 obtain ⟨x, hx⟩ : ∃ x, e[p]? = some x := ⟨e[p], List.getElem?_eq_getElem hp⟩
 rw [growLR_node h.k p D hx, if_pos rfl] at hP
 exact hD hP
theorem Wd.node {t : Tr} {v : Int} {k : Nat} (h : Wd t v k) {o n : Int} {b : List Int} {ks : List Tr} {a : List Alt} (he : t = .mk o n b ks a) : (o = 1 ∧ ks = []) ∨ ∃ t1 t2 x y c d, o = 8 ∧ b = [] ∧ a = [] ∧ ks = [t1, t2] ∧ (0 ≤ n ∧ n ≤ 2) ∧ v = wrapI (opI n x y) ∧ k = c + d + 1 ∧ Wd t1 x c ∧ Wd t2 y d := by
 rcases h.inv with ⟨h1, _⟩ | ⟨n', t1, t2, x, y, c, d, h1, h2, h3, h4, h5, h6⟩
 · rw [he] at h1
   unfold wordT at h1
   injection h1 with h1 _ _ h2 _
   exact .inl ⟨h1, h2⟩
 · rw [he] at h1
   injection h1 with e1 e2 e3 e4 e5
   subst e2
   exact .inr ⟨t1, t2, x, y, c, d, e1, e3, e5, e4, h4, h2, h3, h5, h6⟩
theorem Wd.all {e : List Ex} (h : IsTree e) {v : Int} {k : Nat} (hw : Wd (grow e) v k) : ∀ j, j < e.length → ∃ v' k', Wd (treeAt e j) v' k' := by
 refine ixInd h ⟨v, k, hw⟩ fun i x q hx hq hi => ?_
 obtain ⟨v', k', hi⟩ := hi
 rcases hi.node (treeAt_node h.k hx) with ⟨_, h2⟩ | ⟨t1, t2, x1, y1, c, d, _, _, _, h2, _, _, _, h5, h6⟩
 · rw [List.map_eq_nil_iff] at h2
   rw [h2] at hq; cases hq
 · have hm : treeAt e q ∈ x.kids.map fun k => treeAt e k.toNat := List.mem_map.2 ⟨_, hq, by simp⟩
   rw [h2] at hm
   rcases List.mem_cons.1 hm with h7 | hm
   · exact ⟨_, _, h7 ▸ h5⟩
   · rcases List.mem_cons.1 hm with h7 | hm
     · exact ⟨_, _, h7 ▸ h6⟩
     · cases hm
theorem Wd.op1 {t : Tr} {v : Int} {k : Nat} (h : Wd t v k) (ho : t.op = 1) : t = wordT v ∧ k = 0 := by
 rcases h.inv with h1 | ⟨n', t1, t2, x, y, c, d, h1, _⟩
 · exact h1
 · rw [h1] at ho; simp [Tr.op] at ho
theorem Wd.word {n v : Int} {k : Nat} (h : Wd (wordT n) v k) : n = v ∧ k = 0 := by
 obtain ⟨h1, h2⟩ := h.op1 rfl
 unfold wordT at h1
 injection h1 with _ h1
 exact ⟨h1, h2⟩
theorem Wd.can {t : Tr} {v : Int} {k : Nat} (h : Wd t v k) {r : Int} {m : Int → Nat} (hc : canT r t m = true) : r = 6 ∧ k = 1 ∧ t.op = 8 ∧ t.kids.length = 2 ∧ arithT t = some (wordT v) := by
 rcases h.inv with ⟨h1, h2⟩ | ⟨n, t1, t2, x, y, c, d, rfl, rfl, rfl, hn, h5, h6⟩
 · rw [h1] at hc
   simp [canT, wordT, Tr.op] at hc
 · unfold canT at hc
   simp only [Tr.op, Tr.kids] at hc
   rw [if_neg (by decide), if_neg (by omega)] at hc
   by_cases hr : r = 6
   · subst hr
     rw [if_pos (by decide)] at hc
     have h7 : t1.op = 1 ∧ t2.op = 1 := by
       simp [arithT, kidT, Tr.kids, Tr.n] at hc
       by_cases h8 : t1.op = 1 <;> by_cases h9 : t2.op = 1 <;> simp [h8, h9] at hc ⊢
     obtain ⟨e1, rfl⟩ := h5.op1 h7.1
     obtain ⟨e2, rfl⟩ := h6.op1 h7.2
     subst e1; subst e2
     refine ⟨rfl, rfl, rfl, rfl, ?_⟩
     have h3 : n = 0 ∨ n = 1 ∨ n = 2 := by omega
     rcases h3 with rfl | rfl | rfl <;> simp [arithT, kidT, Tr.kids, Tr.n, wordT, Tr.op, opI]
   · simp [hr] at hc
theorem next_none {e : List Ex} (h : nextE e = none) {r : Int} (hr : r ∈ orderR) {i : Nat} (hi : i < e.length) : canT r (treeAt e i) (manyE e) = false := by
 unfold nextE at h
 rw [List.findSome?_eq_none_iff] at h
 have h1 := h r hr
 rw [Option.map_eq_none_iff, List.find?_eq_none] at h1
 have h2 := h1 (treeAt e i, i) (by
   rw [List.mem_zipIdx_iff_getElem?]
   show (growL e)[i]? = some (treeAt e i)
   unfold treeAt
   rw [List.getD_eq_getElem?_getD, List.getElem?_eq_getElem (by rw [growL_len]; exact hi)]
   rfl)
 simpa using h2
theorem Wd.done {e : List Ex} (h : IsTree e) {v : Int} {k : Nat} (hw : Wd (grow e) v k) (hn : nextE e = none) : k = 0 := by
 have hall := hw.all h
 have key : ∀ n j, j < n → j < e.length → ∃ m, treeAt e j = wordT m := by
   intro n
   induction n with
   | zero => intro j hj; omega
   | succ n ih =>
     intro j hj hl
     obtain ⟨x, hx⟩ : ∃ x, e[j]? = some x := ⟨e[j], List.getElem?_eq_getElem hl⟩
     obtain ⟨v', k', hv⟩ := hall j hl
     have hc := next_none hn (r := 6) (by simp [orderR]) hl
     have ht := treeAt_node h.k hx
     rcases hv.inv with ⟨h1, _⟩ | ⟨n0, t1, t2, x1, y1, c, d, h1, _, _, hn0, h5, h6⟩
     · exact ⟨_, h1⟩
     · rw [ht] at h1
       injection h1 with e1 e2 e3 e4 e5
       have hkid : ∀ t ∈ [t1, t2], ∃ m, t = wordT m := fun t hm => by
         rw [← e4] at hm
         obtain ⟨q, hq, rfl⟩ := List.mem_map.1 hm
         have := h.k j x hx q hq
         exact ih q.toNat (by omega) (by omega)
       obtain ⟨m1, rfl⟩ := hkid t1 (by simp)
       obtain ⟨m2, rfl⟩ := hkid t2 (by simp)
       rw [ht, e1, e2, e3, e4, e5] at hc
       have h3 : n0 = 0 ∨ n0 = 1 ∨ n0 = 2 := by omega
       rcases h3 with rfl | rfl | rfl <;> simp [canT, arithT, kidT, Tr.kids, Tr.n, wordT, Tr.op] at hc
 obtain ⟨m, hm⟩ := key e.length (e.length - 1) (by have := List.length_pos_iff.2 h.ne; omega) (by have := List.length_pos_iff.2 h.ne; omega)
 have : grow e = wordT m := hm
 rw [this] at hw
 exact hw.word.2
theorem Wd.redu {e : List Ex} (hk : kidsIn e) {p : Nat} {U : Tr} (hU : ∀ v k, Wd (treeAt e p) v k → ∃ k', Wd U v k' ∧ k' < k) : ∀ n j, j < n → j < e.length → ∀ v k, Wd (treeAt e j) v k → ∃ k', Wd ((growLR e p U).getD j default) v k' ∧ ((growLR e p U).getD j default = treeAt e j ∨ k' < k) ∧ k' ≤ k := by
 intro n
 induction n with
 | zero => intro j hj; omega
 | succ n ih =>
   intro j hj hl v k hw
   obtain ⟨x, hx⟩ : ∃ x, e[j]? = some x := ⟨e[j], List.getElem?_eq_getElem hl⟩
   rw [growLR_node hk p U hx]
   by_cases hp : j = p
   · rw [if_pos hp]
     subst hp
     obtain ⟨k', h1, h2⟩ := hU v k hw
     exact ⟨k', h1, .inr h2, by omega⟩
   rw [if_neg hp]
   have ht := treeAt_node hk hx
   rcases hw.inv with ⟨h1, h2⟩ | ⟨n0, t1, t2, x1, y1, c, d, h1, rfl, rfl, hn0, h5, h6⟩
   · have h3 := h1
     rw [ht] at h3
     unfold wordT at h3
     injection h3 with e1 e2 e3 e4 e5
     rw [List.map_eq_nil_iff] at e4
     rw [e1, e2, e3, e5, e4]
     exact ⟨0, by rw [h1] at hw; obtain ⟨-, rfl⟩ := hw.word; exact hw, .inl h1.symm, by omega⟩
   · have h3 := h1
     rw [ht] at h3
     injection h3 with e1 e2 e3 e4 e5
     obtain ⟨q1, q2, hq⟩ : ∃ q1 q2, x.kids = [q1, q2] := by
       have : x.kids.length = 2 := by simpa using congrArg List.length e4
       match x.kids, this with
       | [a, b], _ => exact ⟨a, b, rfl⟩
     rw [hq] at e4
     simp only [List.map_cons, List.map_nil] at e4
     injection e4 with f1 f2
     injection f2 with f2 _
     have b1 := hk j x hx q1 (by rw [hq]; simp)
     have b2 := hk j x hx q2 (by rw [hq]; simp)
     obtain ⟨c', g1, g2, g3⟩ := ih q1.toNat (by omega) (by omega) x1 c (f1 ▸ h5)
     obtain ⟨d', i1, i2, i3⟩ := ih q2.toNat (by omega) (by omega) y1 d (f2 ▸ h6)
     refine ⟨c' + d' + 1, ?_, ?_, by omega⟩
     · rw [e1, e2, e3, e5, hq]
       exact .p _ _ _ _ _ _ _ hn0 g1 i1
     · rcases g2 with g2 | g2
       · rcases i2 with i2 | i2
         · left
           rw [hq]
           simp only [List.map_cons, List.map_nil]
           rw [g2, i2, f1, f2, e1, e2, e3, e5, h1]
         · right; omega
       · right; omega
theorem Wd.step {e : List Ex} (h : CoreX.check e = 0) {v : Int} {k : Nat} (hw : Wd (grow e) v k) (hk : k ≤ 40) {r : Int} {i : Nat} (hn : nextE e = some (r, i)) : ∃ t' k', applyE e r i 0 = (listT [] t', 0) ∧ Wd t' v k' ∧ k' < k := by
 have hT := body_isTree h
 obtain ⟨h1, h2, h3⟩ := next_sound hn
 obtain ⟨v1, k1, hv⟩ := hw.all hT i h2
 obtain ⟨rfl, rfl, h4, h5, h6⟩ := hv.can h3
 have hv1 := hv.rng
 have hU : ∀ v k, Wd (treeAt e i) v k → ∃ k', Wd (wordT v1) v k' ∧ k' < k := fun v2 k2 hw2 => by
   obtain ⟨_, rfl, _, _, h7⟩ := hw2.can h3
   rw [h6] at h7
   injection h7 with h7
   unfold wordT at h7
   injection h7 with _ h7
   subst h7
   exact ⟨0, .w _ hv1, by omega⟩
 have hlen := List.length_pos_iff.2 hT.ne
 obtain ⟨k', g1, g2, g3⟩ := Wd.redu hT.k hU e.length (e.length - 1) (by omega) (by omega) v k hw
 have hne : wordT v1 ≠ treeAt e i := fun h8 => by rw [← h8] at h4; simp [wordT, Tr.op] at h4
 have hlt : k' < k := g2.resolve_left (growRNe hT h2 hne)
 have hR : resT (growL e) (grow e) 6 0 (treeAt e i) = some (wordT v1) := by
   unfold resT
   rw [if_neg (by simp), if_neg (by simp), if_neg (by simp [h4]), if_neg (by simp), if_neg (by simp), if_pos ⟨rfl, h4, h5⟩]
   exact h6
 have g1' : Wd (growR e i (wordT v1)) v k' := g1
 have hck := g1'.check (by omega)
 refine ⟨growR e i (wordT v1), k', ?_, g1', hlt⟩
 unfold applyE
 rw [if_neg (by simpa using h), if_neg (by decide), if_neg (by omega), show ((i : Int)).toNat = i by simp, hR]
 dsimp only
 rw [if_neg (by simpa using hck)]
theorem Wd.steps : ∀ (N : Nat) {t : Tr} {v : Int} {k : Nat}, Wd t v k → k ≤ 40 → k ≤ N → (stepsE N (listT [] t)).1 = listT [] (wordT v)
 | 0, t, v, k, h, _, hN => by
   obtain rfl : k = 0 := by omega
   rcases h.inv with ⟨rfl, _⟩ | ⟨n, t1, t2, x, y, c, d, _, _, h3, _⟩
   · rfl
   · omega
 | N + 1, t, v, k, h, hk, hN => by
   have hT := isTree_list t
   have hg : Wd (grow (listT [] t)) v k := by rw [grow_list]; exact h
   cases hn : nextE (listT [] t) with
   | none =>
     obtain rfl := hg.done hT hn
     simp only [stepsE, hn]
     rcases h.inv with ⟨rfl, _⟩ | ⟨n, t1, t2, x, y, c, d, _, _, h3, _⟩
     · rfl
     · omega
   | some p =>
     obtain ⟨r, i⟩ := p
     obtain ⟨t', k', h1, h2, h3⟩ := hg.step (h.check hk) hk hn
     simp only [stepsE, hn, h1, if_true]
     exact Wd.steps N h2 (by omega) (by omega)
theorem Wd.simp {t : Tr} {v : Int} {k : Nat} (h : Wd t v k) (hk : k ≤ 40) : simpE (listT [] t) 100 = (listT [] (wordT v), (stepsE 100 (listT [] t)).2, 0) := by
 unfold simpE
 rw [if_neg (by simpa using h.check hk), if_neg (by decide), grow_list, show (100 : Int).toNat = 100 by decide, h.steps 100 hk (by omega)]
end Go.CoreX
namespace Go.Proofs.YtpaonemmbhbgoaaGreatDoor
open Go Go.Abs Go.CoreX
set_option maxRecDepth 100000
theorem check_sym {t : Tr} (h1 : treeErr (listT [] t) = 0) (hw : allT (fun l => l.op = 1 → l.binds = [] ∧ l.ops = [] ∧ l.alts = [] ∧ inW l.n) t) (h2 : ((listT [] t).all fun x => x.op == 1 || nodeErrF false (listT [] t) x == 0) = true)
   (h3 : hasDup (allBinders (listT [] t)) = false) (h4 : occT [] t = []) : check (listT [] t) = 0 := by
 have t2 := isTree_list t
 refine check_of h1 (fun y hy => ?_) ((hasDup_false _).1 h3) (by rw [grow_list]; exact h4)
 have h := List.all_eq_true.1 h2 y hy
 rw [Bool.or_eq_true] at h
 rcases h with h | h
 · have ho : y.op = 1 := by simpa using h
   have h5 := allT_labs t2 (by rw [grow_list]; exact hw) _ (List.mem_map_of_mem (f := labE (listT [] t)) hy)
   obtain ⟨e1, e2, e3, e4⟩ := h5 ho
   refine pLab_word (n := y.n) e4 _ y (kids_lt t2.k hy) ?_
   have e2' : y.kids.map (fun k => ((growL (listT [] t)).getD k.toNat default).op) = [] := e2
   show Lab.mk _ _ _ _ _ = _
   rw [ho, show y.binds = [] from e1, e2', show y.alts = [] from e3]
 · simpa using h
theorem frag_words {hi : Bool} {t : Tr} (h : allT (FragL hi) t) (hs : ∀ l : Lab, FragL hi l → l.op = 1 → l.binds = [] ∧ l.ops = [] ∧ l.alts = []) : allT (fun l => l.op = 1 → l.binds = [] ∧ l.ops = [] ∧ l.alts = [] ∧ inW l.n) t :=
 allT_imp (fun l hl h1 => ⟨(hs l hl h1).1, (hs l hl h1).2.1, (hs l hl h1).2.2, hl.wd h1⟩) t h
theorem runsTo_of {hi : Bool} {fu : Int} {t : Tr} (g : Nat) {m : Ms} {v : Vl} (hc : check (listT [] t) = 0) (hf : allT (FragL hi) t) (hfu : 1 ≤ fu ∧ fu ≤ 1000000) (hg : goX fu [] g ⟨.ev t .nil, [], [], 0, []⟩ = some (.done m v)) (hb : bndX fu [] g ⟨.ev t .nil, [], [], 0, []⟩ = true)
   (ho : m.out.length ≤ 1000) (hs : m.steps ≤ fu) : RunsTo hi fu (listT [] t) m v :=
 ⟨hc, by rw [grow_list]; exact hf, hfu, by rw [grow_list]; exact ⟨g, hg, fun _ => hb⟩, ho, hs⟩
-- R.Twice
def clauseT : Tr := .mk 8 0 [] [.mk 3 0 [] [tV 3, tV 2] [], .mk 3 0 [] [tV 3, .mk 8 0 [] [tV 2, tV 2] []] []] []
def twiceT : Tr := .mk 13 0 [] [.mk 8 0 [] [tW 1, .mk 12 5 [] [tW 3] []] [], tV 1, clauseT] [⟨-1, [1]⟩, ⟨5, [2, 3]⟩]
theorem frag_twice : allT (FragL true) twiceT :=
 ⟨fragB_ok rfl, ⟨fragB_ok rfl, ⟨fragB_ok rfl, trivial⟩, ⟨fragB_ok rfl, ⟨fragB_ok rfl, trivial⟩, trivial⟩, trivial⟩, ⟨fragB_ok rfl, trivial⟩,
   ⟨fragB_ok rfl, ⟨fragB_ok rfl, ⟨fragB_ok rfl, trivial⟩, ⟨fragB_ok rfl, trivial⟩, trivial⟩, ⟨fragB_ok rfl, ⟨fragB_ok rfl, trivial⟩, ⟨fragB_ok rfl, ⟨fragB_ok rfl, trivial⟩, ⟨fragB_ok rfl, trivial⟩, trivial⟩, trivial⟩, trivial⟩, trivial⟩
theorem check_twice : check (listT [] twiceT) = 0 := by decide +kernel
def endOf : Option Rd → Option (Ms × Vl)
 | some (.done m v) => some (m, v)
 | _ => none
theorem runs_twice {fu : Int} (h : fu = 999 ∨ fu = 2000 ∨ fu = 1000000) : ∃ m, RunsTo true fu (listT [] twiceT) m (.word 11) := by
 refine ⟨⟨.rt (.word 11), [], [], 16, []⟩, runsTo_of 100 check_twice frag_twice (by omega) ?_ ?_ (by simp) (by show (16 : Int) ≤ fu; omega)⟩
 · rcases h with rfl | rfl | rfl <;> kernel_rfl
 · rcases h with rfl | rfl | rfl <;> kernel_rfl
set_option maxRecDepth 100000
theorem frag_leaf {l : Lab} (h : FragL true l) (h1 : l.op = 1) : l.binds = [] ∧ l.ops = [] ∧ l.alts = [] := by
 obtain ⟨ks, hk, hs⟩ := h.sh.sh
 rw [h1] at hs
 simp [Go.CoreX.shape, wants] at hs
 obtain ⟨⟨h2, h3⟩, h4⟩ := hs
 subst h2
 exact ⟨h3, List.eq_nil_of_length_eq_zero hk.symm, h4⟩
def addT' (s : Tr) (n : Int) : Tr := .mk 8 0 [] [s, .mk 3 0 [] [tV 3, tW n] []] []
def sumR (ws : List Int) : Tr := ws.foldl addT' (tW 0)
def resT (b : Int) (ws : List Int) : Tr := .mk 13 0 [] [.mk 8 0 [] [tW b, .mk 12 7 [] [tW 1] []] [], tV 1, sumR ws] [⟨-1, [1]⟩, ⟨7, [2, 3]⟩]
def valR (b : Int) (ws : List Int) : Int := ws.foldl (fun s n => wrapW (s + wrapW (b + n))) 0
theorem frag_sum {s : Tr} (hs : allT (FragL true) s) (ho : s.op = 1 ∨ s.op = 8) {n : Int} (hn : inW n) : allT (FragL true) (addT' s n) := by
 refine ⟨?_, hs, ⟨fragB_ok rfl, ⟨fragB_ok rfl, trivial⟩, frag_word hn, trivial⟩, trivial⟩
 show FragL true ⟨8, 0, [], [s.op, 3], []⟩
 rcases ho with h | h <;> rw [h] <;> exact fragB_ok rfl
theorem frag_sums : ∀ (ws : List Int) (s : Tr), allT (FragL true) s → (s.op = 1 ∨ s.op = 8) → (∀ n ∈ ws, inW n) → allT (FragL true) (ws.foldl addT' s) ∧ ((ws.foldl addT' s).op = 1 ∨ (ws.foldl addT' s).op = 8)
 | [], s, h, ho, _ => ⟨h, ho⟩
 | n :: ws, s, h, ho, hw => frag_sums ws (addT' s n) (frag_sum h ho (hw n (by simp))) (.inr rfl) fun m hm => hw m (by simp [hm])
theorem frag_res {b : Int} {ws : List Int} (hb : inW b) (hw : ∀ n ∈ ws, inW n) : allT (FragL true) (resT b ws) := by
 obtain ⟨h1, h2⟩ := frag_sums ws (tW 0) (frag_word (by unfold inW; omega)) (.inl rfl) hw
 refine ⟨?_, ⟨fragB_ok rfl, frag_word hb, ⟨fragB_ok rfl, ⟨fragB_ok rfl, trivial⟩, trivial⟩, trivial⟩, ⟨fragB_ok rfl, trivial⟩, h1, trivial⟩
 show FragL true ⟨13, 0, [], [8, 0, (ws.foldl addT' (tW 0)).op], [⟨-1, [1]⟩, ⟨7, [2, 3]⟩]⟩
 rcases h2 with h | h <;> rw [h] <;> exact fragB_ok rfl
theorem res_check {b : Int} {ws : List Int} (hb : inW b) (hw : ∀ n ∈ ws, inW n) (hl : ws.length ≤ 6) : check (listT [] (resT b ws)) = 0 := by
 have hs := frag_words (frag_res hb hw) fun l => frag_leaf
 match ws, hl with
 | [], _ => exact check_sym (by kernel_rfl) hs (by kernel_rfl) (by kernel_rfl) (by kernel_rfl)
 | [_], _ => exact check_sym (by kernel_rfl) hs (by kernel_rfl) (by kernel_rfl) (by kernel_rfl)
 | [_, _], _ => exact check_sym (by kernel_rfl) hs (by kernel_rfl) (by kernel_rfl) (by kernel_rfl)
 | [_, _, _], _ => exact check_sym (by kernel_rfl) hs (by kernel_rfl) (by kernel_rfl) (by kernel_rfl)
 | [_, _, _, _], _ => exact check_sym (by kernel_rfl) hs (by kernel_rfl) (by kernel_rfl) (by kernel_rfl)
 | [_, _, _, _, _], _ => exact check_sym (by kernel_rfl) hs (by kernel_rfl) (by kernel_rfl) (by kernel_rfl)
 | [_, _, _, _, _, _], _ => exact check_sym (by kernel_rfl) hs (by kernel_rfl) (by kernel_rfl) (by kernel_rfl)
theorem res_go (b : Int) (ws : List Int) (hl : ws.length ≤ 6) : ∃ st : Int, st ≤ 9999 ∧ goX 9999 [] 300 ⟨.ev (resT b ws) .nil, [], [], 0, []⟩ = some (.done ⟨.rt (.word (valR b ws)), [], [], st, []⟩ (.word (valR b ws))) ∧ bndX 9999 [] 300 ⟨.ev (resT b ws) .nil, [], [], 0, []⟩ = true := by
 match ws, hl with
 | [], _ => exact ⟨6, by decide, by kernel_rfl, by kernel_rfl⟩
 | [_], _ => exact ⟨11, by decide, by kernel_rfl, by kernel_rfl⟩
 | [_, _], _ => exact ⟨16, by decide, by kernel_rfl, by kernel_rfl⟩
 | [_, _, _], _ => exact ⟨21, by decide, by kernel_rfl, by kernel_rfl⟩
 | [_, _, _, _], _ => exact ⟨26, by decide, by kernel_rfl, by kernel_rfl⟩
 | [_, _, _, _, _], _ => exact ⟨31, by decide, by kernel_rfl, by kernel_rfl⟩
 | [_, _, _, _, _, _], _ => exact ⟨36, by decide, by kernel_rfl, by kernel_rfl⟩
-- EvalNested
def innT (a b : Int) : Tr := .mk 13 0 [] [.mk 12 4 [] [tW a] [], tV 1, .mk 12 4 [] [.mk 8 0 [] [tV 2, tW b] []] []] [⟨-1, [1]⟩, ⟨4, [2, 3]⟩]
def nesT (a b : Int) : Tr := .mk 13 0 [] [innT a b, tW 0, .mk 8 1 [] [tV 5, tW 1] []] [⟨-1, [4]⟩, ⟨4, [5, 6]⟩]
variable {Γ : List (Nat × List AC)}
theorem N2 (o n : Int) (a b : Tr) : APure Tryz.prog Γ 26 [.one (int o), .one (int n), .one (.sl 1 [[.box (cNd a)], [.box (cNd b)]])] (.one (.box (cNd (.mk o n [] [a, b] [])))) := by
 have := N_ok (Γ := Γ) o n [a, b]
 rwa [encNds_eq] at this
theorem N1 (o n : Int) (a : Tr) : APure Tryz.prog Γ 26 [.one (int o), .one (int n), .one (.sl 1 [[.box (cNd a)]])] (.one (.box (cNd (.mk o n [] [a] [])))) := by
 have := N_ok (Γ := Γ) o n [a]
 rwa [encNds_eq] at this
theorem A3 (o : Int) (al : List Alt) (a b c : Tr) : APure Tryz.prog Γ 27 [.one (int o), .one (.sl 2 (al.map cAlt)), .one (.sl 1 [[.box (cNd a)], [.box (cNd b)], [.box (cNd c)]])] (.one (.box (cNd (.mk o 0 [] [a, b, c] al)))) := by
 have := A_ok (Γ := Γ) o al [a, b, c]
 rwa [encNds_eq] at this
theorem sum_ok (hΓ : ∀ g cs, (g, cs) ∈ Γ → idsL isO cs) (a b : Tr) : APure Tryz.prog Γ 80 [.one (.box (cNd a)), .one (.box (cNd b))] (.one (.box (cNd (.mk 8 0 [] [a, b] [])))) := by
 have hN := N2 (Γ := Γ) 8 0 a b
 intro ou
 refine AFn.walk 9 tabOk Tryz.func80 rfl (by kernel_rfl) rfl rfl fun hou => ?_
 refine zA ?_
 refine zca hΓ hN hou ?_
 refine zA ?_
 exact APure.fin rfl (WkF.ofEq rfl) (by simp) hou rfl
theorem again_ok (hΓ : ∀ g cs, (g, cs) ∈ Γ → idsL isO cs) (a : Tr) : APure Tryz.prog Γ 81 [.one (.box (cNd a))] (.one (.box (cNd (.mk 3 0 [] [tV 3, a] [])))) := by
 have hN := N2 (Γ := Γ) 3 0 (tV 3) a
 intro ou
 refine AFn.walk 7 tabOk Tryz.func81 rfl (by kernel_rfl) rfl rfl fun hou => ?_
 refine zA ?_
 refine zca hΓ (V_ok hΓ 3) hou ?_
 refine zA ?_
 refine zca hΓ hN hou ?_
 refine zA ?_
 exact APure.fin rfl (WkF.ofEq rfl) (by simp) hou rfl
theorem okT_twice : okT twiceT := by
 simp only [twiceT, clauseT, tV, tW, okT, okTs]
 simp
theorem cnt_twice : cntN twiceT = 15 := by simp [twiceT, clauseT, tV, tW, cntN, cntNs]
theorem TwiceR_ok (hΓ : ∀ g cs, (g, cs) ∈ Γ → idsL isO cs) : APure Tryz.prog Γ 51 [] (.one (.sl 5 ((listT [] twiceT).map cEx))) := by
 have hL := NodeList_ok hΓ twiceT okT_twice (by have := cntN_list twiceT []; rw [cnt_twice] at this; simp at this; omega)
 intro ou
 refine AFn.walk 31 tabOk Tryz.func51 rfl (by kernel_rfl) rfl rfl fun hou => ?_
 refine zA ?_
 refine zca hΓ (V_ok hΓ 2) hou ?_
 refine zca hΓ (again_ok hΓ (tV 2)) hou ?_
 refine zA ?_
 refine zca hΓ (V_ok hΓ 2) hou ?_
 refine zca hΓ (V_ok hΓ 2) hou ?_
 refine zca hΓ (sum_ok hΓ (tV 2) (tV 2)) hou ?_
 refine zca hΓ (again_ok hΓ (.mk 8 0 [] [tV 2, tV 2] [])) hou ?_
 refine zca hΓ (sum_ok hΓ (.mk 3 0 [] [tV 3, tV 2] []) (.mk 3 0 [] [tV 3, .mk 8 0 [] [tV 2, tV 2] []] [])) hou ?_
 refine zA ?_
 refine zca hΓ (W_ok hΓ 1) hou ?_
 refine zca hΓ (W_ok hΓ 3) hou ?_
 refine zA ?_
 refine zca hΓ (N_ok (Γ := Γ) 12 5 [tW 3]) hou ?_
 refine zca hΓ (sum_ok hΓ (tW 1) (.mk 12 5 [] [tW 3] [])) hou ?_
 refine zca hΓ (V_ok hΓ 1) hou ?_
 refine zA ?_
 refine zca hΓ (A_ok (Γ := Γ) 13 [⟨-1, [1]⟩, ⟨5, [2, 3]⟩] [.mk 8 0 [] [tW 1, .mk 12 5 [] [tW 3] []] [], tV 1, clauseT]) hou ?_
 refine zca hΓ hL hou ?_
 refine zA ?_
 exact APure.fin rfl (WkF.ofEq rfl) (by simp) hou rfl
theorem okB_twice : okB (listT [] twiceT) := okB_list (okT_pOk _ okT_twice) (by rw [cnt_twice]; omega)
theorem evalFact_ok : APure Tryz.prog Γc 29 [] (.one (.lit (.bool true))) := by
 obtain ⟨m, hm⟩ := runs_twice (fu := 999) (.inl rfl)
 have hR := Run_ok (MoreC.yes hΓc trivial) okB_twice hm
 intro ou
 refine AFn.walk 22 tabOk Tryz.func29 rfl (by kernel_rfl) rfl rfl fun hou => ?_
 refine zA ?_
 refine zca hΓc (TwiceR_ok hΓc) hou ?_
 refine zca hΓc hR hou ?_
 refine zM ?_
 exact APure.fin rfl (WkF.ofEq rfl) (by simp) hou rfl
def inK (n : Int) : Prop := -10000 < n ∧ n < 10000
theorem tmod_inK (n : Int) : inK (n.tmod 10000) := ⟨Int.lt_tmod_of_pos n (by decide), Int.tmod_lt_of_pos n (by decide)⟩
theorem inK.w {n : Int} (h : inK n) : inW n := by unfold inK at h; unfold inW; omega
def wantR (b : Int) (ws : List Int) : Int := ws.foldl (fun s n => s + (b + n)) 0
theorem wrap_small {n : Int} (h : -1000000 ≤ n ∧ n ≤ 1000000) : wrapW n = n := by unfold wrapW; omega
theorem wantR_go {b : Int} (hb : inK b) : ∀ (ws : List Int) (s c : Int), (∀ n ∈ ws, inK n) → -c ≤ s → s ≤ c → -(c + 20000 * ws.length) ≤ ws.foldl (fun s n => s + (b + n)) s ∧ ws.foldl (fun s n => s + (b + n)) s ≤ c + 20000 * ws.length
 | [], s, c, _, h1, h2 => by simp; omega
 | n :: ws, s, c, h, h1, h2 => by
   have hn := h n (by simp)
   unfold inK at hb hn
   have := wantR_go (b := b) (by unfold inK; exact hb) ws (s + (b + n)) (c + 20000) (fun m hm => h m (by simp [hm])) (by omega) (by omega)
   simp only [List.foldl_cons, List.length_cons]
   push_cast at *
   omega
theorem valR_go {b : Int} (hb : inK b) : ∀ (ws : List Int) (s c : Int), (∀ n ∈ ws, inK n) → c + 20000 * ws.length ≤ 1000000 → -c ≤ s → s ≤ c → ws.foldl (fun s n => wrapW (s + wrapW (b + n))) s = ws.foldl (fun s n => s + (b + n)) s
 | [], s, c, _, _, h1, h2 => rfl
 | n :: ws, s, c, h, hc, h1, h2 => by
   have hn := h n (by simp)
   unfold inK at hb hn
   simp only [List.length_cons] at hc
   push_cast at hc
   have hw : wrapW (s + wrapW (b + n)) = s + (b + n) := by rw [wrap_small (n := b + n) (by omega), wrap_small (by omega)]
   simp only [List.foldl_cons, hw]
   exact valR_go (b := b) (by unfold inK; exact hb) ws (s + (b + n)) (c + 20000) (fun m hm => h m (by simp [hm])) (by omega) (by omega) (by omega)
theorem okT_add {s : Tr} {n : Int} (h : okT s) : okT (addT' s n) := by
 simp only [addT', tV, tW, okT, okTs]
 simp [h]
theorem okT_sums : ∀ (ws : List Int) (s : Tr), okT s → okT (ws.foldl addT' s)
 | [], _, h => h
 | n :: ws, s, h => okT_sums ws _ (okT_add h)
theorem cnt_sums : ∀ (ws : List Int) (s : Tr), cntN (ws.foldl addT' s) = cntN s + 4 * ws.length
 | [], _ => by simp
 | n :: ws, s => by
   rw [List.foldl_cons, cnt_sums ws, List.length_cons]
   simp only [addT', tV, tW, cntN, cntNs]
   omega
theorem okT_res (b : Int) (ws : List Int) : okT (resT b ws) := by
 have := okT_sums ws (tW 0) (by simp [tW, okT, okTs])
 simp only [resT, sumR, tV, tW, okT, okTs] at *
 simp [this]
theorem cnt_res (b : Int) (ws : List Int) : cntN (resT b ws) = 7 + 4 * ws.length := by
 have := cnt_sums ws (tW 0)
 simp only [resT, sumR, tV, tW, cntN, cntNs] at *
 omega
theorem EvalResumes_ok (base : Int) (l : List Int) : APure Tryz.prog Γc 5 [.one (int base), .one (.sl 1 (l.map cI))] (.one (.lit (.bool true))) := by
 obtain ⟨L, hL⟩ : ∃ L, L = min l.length 6 := ⟨_, rfl⟩
 obtain ⟨b, hbd⟩ : ∃ b, b = base.tmod 10000 := ⟨_, rfl⟩
 have hb : inK b := by rw [hbd]; exact tmod_inK base
 obtain ⟨ws, hws⟩ : ∃ ws, ws = (l.take L).map (fun x => x.tmod 10000) := ⟨_, rfl⟩
 have hwl : ws.length = L := by rw [hws, List.length_map, List.length_take]; omega
 have hwk : ∀ n ∈ ws, inK n := by
   intro n hn
   rw [hws] at hn
   obtain ⟨x, _, rfl⟩ := List.mem_map.1 hn
   exact tmod_inK x
 have hw6 : ws.length ≤ 6 := by omega
 obtain ⟨st, hst, hgo, hbn⟩ := res_go b ws hw6
 have hval : valR b ws = wantR b ws := valR_go hb ws 0 0 hwk (by omega) (by omega) (by omega)
 have hrun : RunsTo true 9999 (listT [] (resT b ws)) _ _ := runsTo_of 300 (res_check hb.w (fun n hn => (hwk n hn).w) hw6) (frag_res hb.w fun n hn => (hwk n hn).w) (by omega) hgo hbn (by simp) hst
 have hR := Run_ok (MoreC.yes hΓc trivial) (okB_list (okT_pOk _ (okT_res b ws)) (by rw [cnt_res]; omega)) hrun
 have hL2 := NodeList_ok hΓc (resT b ws) (okT_res b ws) (by have := cntN_list (resT b ws) []; rw [cnt_res] at this; simp at this; omega)
 have hE := evalFact_ok
 intro ou
 refine AFn.walk 78 tabOk Tryz.func5 rfl (by kernel_rfl) rfl rfl fun hou => ?_
 refine zA ?_
 refine AOps.step1 rfl rfl rfl (AStep.rem rfl rfl rfl (by decide)) ?_
 refine AOps.wk 15 rfl (y := .one (int b)) (.ofEq (by rw [hbd])) ?_
 refine zA ?_
 refine zca hΓc (W_ok hΓc 0) hou ?_
 refine zM ?_
 have hml : ((if (6 : Int) < ((l.map cI).length : Int) then (6 : Int) else ((l.map cI).length : Int))) = (L : Int) := by
   rw [hL, List.length_map]
   split <;> omega
 refine AOps.wk 20 rfl (y := .one (int (L : Int))) (.ofEq (by rw [hml])) ?_
 refine AOps.step1 rfl rfl rfl (AStep.sliceTo (b := L) tabOk rfl rfl rfl rfl rfl rfl (by rw [List.length_map]; omega)) ?_
 refine zM ?_
 have hln : (((l.map cI).take L).length : Int) = (L : Int) := by rw [List.length_take, List.length_map]; omega
 have hln' : FV.one (int (((l.map cI).take L).length : Int)) = .one (int (L : Int)) := by rw [hln]
 refine ACode.loopR hΓc (α := Nat) (fun i => [(23, .one (int i)), (22, .one (int (L : Int))), (21, .one (.sl 1 ((l.map cI).take L))), (6, .one (int (wantR b (ws.take i)))), (5, .one (.box (cNd (sumR (ws.take i))))), (0, .one (int b))]) (fun i => ⟨0, [], ou⟩) (fun m i => i ≤ L ∧ m = L - i) (a0 := 0) (ρ := _root_.id) ⟨by omega, rfl⟩ (LessR.of rfl (FrSub.cons rfl (.ofEq rfl) (FrSub.cons rfl (.ofEq hln') (by (repeat' first | exact FrSub.nil | refine zfc ?_ | refine zfo ?_ | refine zfp ?_ (hp := by first | assumption | (simp; done)))))) (by simp) (by repeat' first | exact LoSub.nil | refine zlc ?_ | refine zld ?_ ?_ | rfl) rfl rfl hou) fun m i hi => ?_
 obtain ⟨hiL, rfl⟩ := hi
 refine zA ?_
 refine ACode.cond rfl (fun hb' => ?_) (fun hb' => ?_)
 · have hlt : i < L := by simpa using hb'
   clear hb'
   obtain ⟨x, hx⟩ := get_of_lt (show i < l.length by omega)
   have hgx : ((l.map cI).take L)[i]? = some (cI x) := by rw [List.getElem?_take_of_lt hlt]; exact map_get hx
   obtain ⟨w, hwd⟩ : ∃ w, w = x.tmod 10000 := ⟨_, rfl⟩
   have hwi : ws[i]? = some w := by rw [hws, List.getElem?_map, List.getElem?_take_of_lt hlt, hx, hwd]; rfl
   have hwK : inK w := by rw [hwd]; exact tmod_inK x
   have ht : ws.take (i + 1) = ws.take i ++ [w] := by rw [List.take_add_one, hwi]; rfl
   have hsum : sumR (ws.take (i + 1)) = addT' (sumR (ws.take i)) w := by rw [ht]; simp [sumR]
   have hwant : wantR b (ws.take (i + 1)) = wantR b (ws.take i) + (b + w) := by rw [ht]; simp [wantR]
   have hbn2 := wantR_go hb (ws.take i) 0 0 (fun n hn => hwk n (List.mem_of_mem_take hn)) (by omega) (by omega)
   have hlt2 : ((ws.take i).length : Int) ≤ 6 := by rw [List.length_take]; omega
   have hbn3 : -120000 ≤ wantR b (ws.take i) ∧ wantR b (ws.take i) ≤ 120000 := by
     have e : wantR b (ws.take i) = (ws.take i).foldl (fun s n => s + (b + n)) 0 := rfl
     rw [← e] at hbn2
     omega
   have hbK := hb
   unfold inK at hbK hwK
   have hN := N2 (Γ := Γc) 8 0 (sumR (ws.take i)) (.mk 3 0 [] [tV 3, tW w] [])
   refine zA ?_
   refine AOps.step1 rfl rfl rfl (AStep.indexAddr tabOk rfl rfl rfl rfl rfl rfl (.inl rfl) rfl (by omega) hgx) ?_
   refine zA ?_
   refine zca hΓc (V_ok hΓc 3) hou ?_
   refine zA ?_
   refine AOps.step1 rfl rfl rfl (AStep.rem rfl rfl rfl (by decide)) ?_
   refine AOps.wk 30 rfl (y := .one (int w)) (.ofEq (by rw [hwd])) ?_
   refine zca hΓc (W_ok hΓc w) hou ?_
   refine zA ?_
   refine zca hΓc (N2 (Γ := Γc) 3 0 (tV 3) (tW w)) hou ?_
   refine zA ?_
   refine zca hΓc hN hou ?_
   refine zA ?_
   refine AOps.step1 rfl rfl rfl (AStep.rem rfl rfl rfl (by decide)) ?_
   refine AOps.wk 39 rfl (y := .one (int w)) (.ofEq (by rw [hwd])) ?_
   refine AOps.step1 rfl rfl rfl (AStep.arith rfl rfl rfl (.inl ⟨rfl, rfl⟩) (inRange_i64 (by omega) (by omega))) ?_
   refine AOps.step1 rfl rfl rfl (AStep.arith rfl rfl rfl (.inl ⟨rfl, rfl⟩) (inRange_i64 (by omega) (by omega))) ?_
   refine AOps.wk 41 rfl (y := .one (int (wantR b (ws.take (i + 1))))) (.ofEq (by rw [hwant])) ?_
   refine AOps.wk 5 rfl (y := .one (.box (cNd (sumR (ws.take (i + 1)))))) (.ofEq (by rw [hsum]; rfl)) ?_
   refine zM ?_
   exact cInv ⟨L - (i + 1), i + 1, _root_.id, by omega, ⟨by omega, rfl⟩, LessR.of rfl (by (repeat' first | exact FrSub.nil | refine zfc ?_ | refine zfo ?_ | refine zfp ?_ (hp := by first | assumption | (simp; done)))) (by simp) (by repeat' first | exact LoSub.nil | refine zlc ?_ | refine zld ?_ ?_ | rfl) rfl rfl hou⟩
 · have hiE : i = L := by have : ¬ i < L := by simpa using hb'
                          omega
   subst hiE
   have htk : ws.take i = ws := List.take_of_length_le (by omega)
   rw [htk]
   refine zA ?_
   refine zca hΓc (W_ok hΓc b) hou ?_
   refine zca hΓc (W_ok hΓc 1) hou ?_
   refine zA ?_
   refine zca hΓc (N1 (Γ := Γc) 12 7 (tW 1)) hou ?_
   refine zA ?_
   refine zca hΓc (N2 (Γ := Γc) 8 0 (tW b) (.mk 12 7 [] [tW 1] [])) hou ?_
   refine zA ?_
   refine zca hΓc (V_ok hΓc 1) hou ?_
   refine zA ?_
   refine zca hΓc (A3 (Γ := Γc) 13 [⟨-1, [1]⟩, ⟨7, [2, 3]⟩] (.mk 8 0 [] [tW b, .mk 12 7 [] [tW 1] []] []) (tV 1) (sumR ws)) hou ?_
   refine zca hΓc hL2 hou ?_
   refine zA ?_
   refine zca hΓc hR hou ?_
   refine zM ?_
   refine zca hΓc hE hou ?_
   refine zM ?_
   exact APure.fin rfl (WkF.ofEq (by simp [hval, lastV])) (by simp) hou rfl
theorem bulkAll_eq {H : Type} : ∀ l : List (DataW H), Rows.uptoBulkAll l = bulkAll Rows.uptoBulk l
 | [] => rfl
 | d :: l => by simp only [Rows.uptoBulkAll, bulkAll, List.map_cons, List.sum_cons] at *; rw [bulkAll_eq l]; rfl
theorem bulk_slice {H : Type} (l r : List (DataW H)) : bulkAll Rows.uptoBulk l + 1 ≤ Rows.uptoBulk (.slice l r) := by
 simp only [Rows.uptoBulk, bulkAll_eq]; omega
theorem bulk_nil {H : Type} : 1 ≤ Rows.uptoBulk (DataW.nil : DataW H) := by simp [Rows.uptoBulk]
section
variable {H : Type} {enc : TypeId × Value → H} {w : World}
abbrev I64 := {i : Int // IntKind.i64.min ≤ i ∧ i ≤ IntKind.i64.max}
theorem opens_int (n : Nat) : Opens enc Tryz.prog w Rows.uptoBulk 3 n (fun i : I64 => [int i.1]) (fun _ => 1) := by
 intro cs x h
 obtain ⟨i, rfl, rfl, hw⟩ := DataW.trod_int Tryz.underlying3 h
 refine ⟨⟨i, ?_⟩, ⟨_, _, rfl, ⟨rfl, rfl⟩, rfl⟩, by simp [Rows.uptoBulk]⟩
 simpa [Lit.wf] using hw
theorem opens_slice {t e : TypeId} {s : Nat} (ht : Tryz.prog.underlying t = some (.slice e)) (hs : Tryz.prog.cellsOf e = s) (h0 : 0 < s) {α : Type} {c : α → List AC} {wt : α → Nat} (n : Nat) (he : ∀ m, m < n → Opens enc Tryz.prog w Rows.uptoBulk e m c wt) :
   Opens enc Tryz.prog w Rows.uptoBulk t n (fun l : List α => [.sl s (l.map c)]) (fun l => wtAll wt l + 1) := by
 cases n with
 | zero => exact Opens.zero
 | succ n => exact Opens.slice bulk_slice bulk_nil ht hs h0 (he n (by omega))
def bAlt (a : Alt) : Nat := a.binds.length + 3
def bAlts (l : List Alt) : Nat := (l.map bAlt).sum
def bEx (x : Ex) : Nat := x.binds.length + x.kids.length + bAlts x.alts + 6
def bExs (l : List Ex) : Nat := (l.map bEx).sum
theorem rf_slice {t e : TypeId} {base : Nat} {r : Reach} {W : World} {v : Value} {C : Ctx} {c : AC} (ht : Tryz.prog.underlying t = some (.slice e)) (h : Value.okWide Tryz.prog W r base t v) (hr : RV W C [c] v.cells.toList) : RF W C (.one c) v := by
 obtain ⟨a, len, cap, rfl⟩ := WideShapes.okWide_slice ht h
 obtain ⟨u, us, he, h1, h2⟩ := hr
 simp [Value.cells] at he
 obtain ⟨rfl, rfl⟩ := he
 exact h1
end
theorem arity_cells {W : World} (h : laidMetH Tryz.prog [("provenance/core.arity", Rows.laid_provenance_core_arity)] W) : ∀ g cs, (g, cs) ∈ Γc → RG W (ctx0 W) cs g := by
 have ht : Lib.TabIs Tryz.prog W "provenance/core.arity" .i64 [2, 2, 2, 2, 2, 2, 2, 1, 2, 1, 2, 3] :=
   Lib.tabIs_of_head (rest := []) (g := 1) (t := 168) (n := 12) (by kernel_rfl) (by kernel_rfl) (by kernel_rfl) Tryz.underlying3 (by kernel_rfl) (by kernel_rfl) h
 have hg : Tryz.prog.globalNamed "provenance/core.arity" = some 1 := by kernel_rfl
 intro g cs hm
 simp [Γc] at hm
 obtain ⟨rfl, rfl⟩ := hm
 exact RG.ofVar hg ht rfl
end Go.Proofs.YtpaonemmbhbgoaaGreatDoor
