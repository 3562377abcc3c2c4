/- Sums, differences and products of words: what they are worth, and that they simplify to it. No condition. -/
import Derived.Test.YtpaonemmbhbgoaaGreatDoorQ13
import Derived.Test.YtpaonemmbhbgoaaGreatDoorRows
import Derived.Lib.LaidTab
set_option maxRecDepth 10000
set_option linter.unusedVariables false
set_option linter.unusedSimpArgs false
namespace Go.CoreX
def opI (n x y : Int) : Int := if n = 0 then x + y else if n = 1 then x - y else x * y
inductive Wd : Tr -> Int -> Nat -> Prop
 | w (n : Int) (h : -1073741824 <= n /\ n <= 1073741823) : Wd (wordT n) n 0
 | p (n : Int) (a b : Tr) (x y : Int) (c d : Nat) (h : 0 <= n /\ n <= 2) (ha : Wd a x c) (hb : Wd b y d) : Wd (.mk 8 n [] [a, b] []) (wrapI (opI n x y)) (c + d + 1)
theorem Qht (n : Int) : -1073741824 <= wrapI n /\ wrapI n <= 1073741823 := by unfold wrapI; omega
theorem Wd.rng {t : Tr} {v : Int} {k : Nat} (h : Wd t v k) : -1073741824 <= v /\ v <= 1073741823 := by
 cases h with
 | w n h => exact h
 | p n a b x y c d h ha hb => exact Qht _
theorem Wd.inv {t : Tr} {v : Int} {k : Nat} (h : Wd t v k) : (t = wordT v /\ k = 0) ∨ ∃ n a b x y c d, t = .mk 8 n [] [a, b] [] /\ v = wrapI (opI n x y) /\ k = c + d + 1 /\ (0 <= n /\ n <= 2) /\ Wd a x c /\ Wd b y d := by
 cases h with
 | w n h => exact .inl ⟨rfl, rfl⟩
 | p n a b x y c d h ha hb => exact .inr ⟨n, a, b, x, y, c, d, rfl, rfl, rfl, h, ha, hb⟩
theorem Wd.ev {fu : Int} {fns : List Fun} {t : Tr} {v : Int} {k : Nat} (h : Wd t v k) (e : En) : Ev fu fns t e (.word v) (2 * k + 1) := by
 induction h with
 | w n h => exact ev_int n e
 | p n a b x y c d h ha hb iha ihb =>
  have := ev_prim (n := n) (v := .word (wrapI (opI n x y))) iha ihb (fun m => by
   have h3 : n = 0 ∨ n = 1 ∨ n = 2 := by omega
   rcases h3 with rfl | rfl | rfl <;> simp [primM, wordV, opI, bind, Except.bind, pure, Except.pure] <;> rfl)
  rw [show 1 + (2 * c + 1) + (2 * d + 1) = 2 * (c + d + 1) + 1 by omega] at this
  exact this
theorem Wd.cnt {t : Tr} {v : Int} {k : Nat} (h : Wd t v k) : cntN t = 2 * k + 1 := by
 induction h with
 | w n h => rfl
 | p n a b x y c d h ha hb iha ihb => simp only [cntN, cntNs, iha, ihb]; omega
theorem Wd.dep {t : Tr} {v : Int} {k : Nat} (h : Wd t v k) : 0 <= Q1x t /\ Q1x t <= k + 1 := by
 induction h with
 | w n h => simp [wordT, Q1x, Q5r]
 | p n a b x y c d h ha hb iha ihb =>
  simp only [Q1x, Q5r, List.foldl_cons, List.foldl_nil, mx]
  push_cast
  split <;> split <;> omega
def noB (l : Lab) : Prop := Q0z l.op l.binds l.alts = []
theorem Qiv {n : Int} (h : -1073741824 <= n /\ n <= 1073741823) : pLab ⟨1, n, [], [], []⟩ := fun e x hk hl => by
 obtain ⟨o, m, b, ks, a⟩ := x
 simp only [labE, Lab.mk.injEq, List.map_eq_nil_iff] at hl
 obtain ⟨rfl, rfl, rfl, rfl, rfl⟩ := hl
 have hb : between m (-1073741824) 1073741823 = true := by simp [between]; omega
 simp [Q0f, Q1h, shape, wants, ranges, lowN, highN, hb, fields, Q45, Q59]
theorem Qiw {n oa ob : Int} (h : 0 <= n /\ n <= 2) : pLab ⟨8, n, [], [oa, ob], []⟩ := fun e x hk hl => by
 obtain ⟨o, m, b, ks, a⟩ := x
 simp only [labE, Lab.mk.injEq] at hl
 obtain ⟨rfl, rfl, rfl, hks, rfl⟩ := hl
 have hlen : ks.length = 2 := by simpa using congrArg List.length hks
 have hb : between m 0 11 = true := by simp [between]; omega
 have hb2 : between m 0 1048575 = true := by simp [between]; omega
 have h3 : m = 0 ∨ m = 1 ∨ m = 2 := by omega
 have ha : Q4c[m.toNat]?.getD 0 = 2 := by rcases h3 with rfl | rfl | rfl <;> rfl
 simp [Q0f, Q1h, shape, wants, ranges, lowN, highN, hb, hb2, ha, hlen, fields, Q45, Q59]
theorem Wd.pLab {t : Tr} {v : Int} {k : Nat} (h : Wd t v k) : allT pLab t /\ allT noB t /\ ∀ sc, occT sc t = [] := by
 induction h with
 | w n h => exact ⟨⟨Qiv h, trivial⟩, ⟨rfl, trivial⟩, fun sc => rfl⟩
 | p n a b x y c d h ha hb iha ihb =>
  refine ⟨⟨Qiw h, iha.1, ihb.1, trivial⟩, ⟨rfl, iha.2.1, ihb.2.1, trivial⟩, fun sc => ?_⟩
  simp [occT, occTs, iha.2.2, ihb.2.2]
theorem Wd.check {t : Tr} {v : Int} {k : Nat} (h : Wd t v k) (hk : k <= 40) : check (listT [] t) = 0 := by
 have t2 := Q17 t
 refine Qlw ((Q23 _).2 ⟨?_, t2, ?_⟩) (fun y hy => ?_) ?_ ?_
 ·have := Q1r t []
  rw [h.cnt] at this
  simp only [List.length_nil] at this
  omega
 ·rw [Q0w]
  have := h.dep
  omega
 ·have := Q9e t2 (by rw [Q0w]; exact h.pLab.1) _ (List.mem_map_of_mem (f := labE (listT [] t)) hy)
  exact this _ y (Qb8 t2.k hy) rfl
 ·rw [Q3c]
  have h2 := Q9e t2 (by rw [Q0w]; exact h.pLab.2.1)
  rw [List.flatMap_eq_nil_iff.2 h2]
  exact List.nodup_nil
 ·rw [Q0w]; exact h.pLab.2.2 []
theorem ixInd {e : List Ex} (h : IsTree e) {P : Nat -> Prop} (h0 : P (e.length - 1)) (h1 : ∀ (i : Nat) (x : Ex) (k : Nat), e[i]? = some x -> (k : Int) ∈ x.kids -> P i -> P k) : ∀ k, k < e.length -> P k := by
 have key : ∀ d k, k < e.length -> e.length - k = d -> P k := by
  intro d
  induction d using Nat.strongRecOn with
  | _ d ih =>
   intro k hk hd
   by_cases hl : k + 1 < e.length
   ·have hc := (h.c k hk).2 hl
    obtain ⟨i, x, hx, hkx⟩ := Qbm (e := e) (k := k) (by omega)
    have hb := h.k i x hx _ hkx
    have hi := (List.getElem?_eq_some_iff.1 hx).1
    exact h1 i x k hx hkx (ih (e.length - i) (by omega) i hi rfl)
   ·have : k = e.length - 1 := by omega
    subst this
    exact h0
 exact fun k hk => key _ k hk rfl
theorem growRNe {e : List Ex} (h : IsTree e) {p : Nat} (hp : p < e.length) {D : Tr} (hD : D ≠ Q08 e p) : growR e p D ≠ grow e := by
 intro he
 have hP := ixInd h (P := fun j => (Q26 e p D).getD j default = Q08 e j) he (fun i x k hx hk hi => by
  rw [Q3a h.k p D hx] at hi
  by_cases hip : i = p
  ·rw [if_pos hip] at hi
   subst hip
   exact absurd hi hD
  ·rw [if_neg hip, Q1n h.k hx] at hi
   injection hi with _ _ _ hks _
   have := List.map_inj_left.1 hks (k : Int) hk
   simpa using this) p hp
 obtain ⟨x, hx⟩ : ∃ x, e[p]? = some x := ⟨e[p], List.getElem?_eq_getElem hp⟩
 rw [Q3a h.k p D hx, if_pos rfl] at hP
 exact hD hP
theorem Wd.node {t : Tr} {v : Int} {k : Nat} (h : Wd t v k) {o n : Int} {b : List Int} {ks : List Tr} {a : List Alt} (he : t = .mk o n b ks a) : (o = 1 /\ ks = []) ∨ ∃ t1 t2 x y c d, o = 8 /\ b = [] /\ a = [] /\ ks = [t1, t2] /\ (0 <= n /\ n <= 2) /\ v = wrapI (opI n x y) /\ k = c + d + 1 /\ Wd t1 x c /\ Wd t2 y d := by
 rcases h.inv with ⟨h1, _⟩ | ⟨n', t1, t2, x, y, c, d, h1, h2, h3, h4, h5, h6⟩
 ·rw [he] at h1
  unfold wordT at h1
  injection h1 with h1 _ _ h2 _
  exact .inl ⟨h1, h2⟩
 ·rw [he] at h1
  injection h1 with e1 e2 e3 e4 e5
  subst e2
  exact .inr ⟨t1, t2, x, y, c, d, e1, e3, e5, e4, h4, h2, h3, h5, h6⟩
theorem Wd.all {e : List Ex} (h : IsTree e) {v : Int} {k : Nat} (hw : Wd (grow e) v k) : ∀ j, j < e.length -> ∃ v' k', Wd (Q08 e j) v' k' := by
 refine ixInd h ⟨v, k, hw⟩ fun i x q hx hq hi => ?_
 obtain ⟨v', k', hi⟩ := hi
 rcases hi.node (Q1n h.k hx) with ⟨_, h2⟩ | ⟨t1, t2, x1, y1, c, d, _, _, _, h2, _, _, _, h5, h6⟩
 ·rw [List.map_eq_nil_iff] at h2
  rw [h2] at hq; cases hq
 ·have hm : Q08 e q ∈ x.kids.map fun k => Q08 e k.toNat := List.mem_map.2 ⟨_, hq, by simp⟩
  rw [h2] at hm
  rcases List.mem_cons.1 hm with h7 | hm
  ·exact ⟨_, _, h7 ▸ h5⟩
  ·rcases List.mem_cons.1 hm with h7 | hm
   ·exact ⟨_, _, h7 ▸ h6⟩
   ·cases hm
theorem Wd.op1 {t : Tr} {v : Int} {k : Nat} (h : Wd t v k) (ho : t.op = 1) : t = wordT v /\ k = 0 := by
 rcases h.inv with h1 | ⟨n', t1, t2, x, y, c, d, h1, _⟩
 ·exact h1
 ·rw [h1] at ho; simp [Tr.op] at ho
theorem Wd.word {n v : Int} {k : Nat} (h : Wd (wordT n) v k) : n = v /\ k = 0 := by
 obtain ⟨h1, h2⟩ := h.op1 rfl
 unfold wordT at h1
 injection h1 with _ h1
 exact ⟨h1, h2⟩
theorem Wd.can {t : Tr} {v : Int} {k : Nat} (h : Wd t v k) {r : Int} {m : Int -> Nat} (hc : canT r t m = true) : r = 6 /\ k = 1 /\ t.op = 8 /\ t.kids.length = 2 /\ Q4d t = some (wordT v) := by
 rcases h.inv with ⟨h1, h2⟩ | ⟨n, t1, t2, x, y, c, d, rfl, rfl, rfl, hn, h5, h6⟩
 ·rw [h1] at hc
  simp [canT, wordT, Tr.op] at hc
 ·unfold canT at hc
  simp only [Tr.op, Tr.kids] at hc
  rw [if_neg (by decide), if_neg (by omega)] at hc
  by_cases hr : r = 6
  ·subst hr
   rw [if_pos (by decide)] at hc
   have h7 : t1.op = 1 /\ t2.op = 1 := by
    simp [Q4d, kidT, Tr.kids, Tr.n] at hc
    by_cases h8 : t1.op = 1 <;> by_cases h9 : t2.op = 1 <;> simp [h8, h9] at hc ⊢
   obtain ⟨e1, rfl⟩ := h5.op1 h7.1
   obtain ⟨e2, rfl⟩ := h6.op1 h7.2
   subst e1; subst e2
   refine ⟨rfl, rfl, rfl, rfl, ?_⟩
   have h3 : n = 0 ∨ n = 1 ∨ n = 2 := by omega
   rcases h3 with rfl | rfl | rfl <;> simp [Q4d, kidT, Tr.kids, Tr.n, wordT, Tr.op, opI]
  ·simp [hr] at hc
theorem Qj6 {e : List Ex} (h : nextE e = none) {r : Int} (hr : r ∈ Q5e) {i : Nat} (hi : i < e.length) : canT r (Q08 e i) (manyE e) = false := by
 unfold nextE at h
 rw [List.findSome?_eq_none_iff] at h
 have h1 := h r hr
 rw [Option.map_eq_none_iff, List.find?_eq_none] at h1
 have h2 := h1 (Q08 e i, i) (by
  rw [List.mem_zipIdx_iff_getElem?]
  show (growL e)[i]? = some (Q08 e i)
  unfold Q08
  rw [List.getD_eq_getElem?_getD, List.getElem?_eq_getElem (by rw [Q0e]; exact hi)]
  rfl)
 simpa using h2
theorem Wd.done {e : List Ex} (h : IsTree e) {v : Int} {k : Nat} (hw : Wd (grow e) v k) (hn : nextE e = none) : k = 0 := by
 have hall := hw.all h
 have key : ∀ n j, j < n -> j < e.length -> ∃ m, Q08 e j = wordT m := by
  intro n
  induction n with
  | zero => intro j hj; omega
  | succ n ih =>
   intro j hj hl
   obtain ⟨x, hx⟩ : ∃ x, e[j]? = some x := ⟨e[j], List.getElem?_eq_getElem hl⟩
   obtain ⟨v', k', hv⟩ := hall j hl
   have hc := Qj6 hn (r := 6) (by simp [Q5e]) hl
   have ht := Q1n h.k hx
   rcases hv.inv with ⟨h1, _⟩ | ⟨n0, t1, t2, x1, y1, c, d, h1, _, _, hn0, h5, h6⟩
   ·exact ⟨_, h1⟩
   ·rw [ht] at h1
    injection h1 with e1 e2 e3 e4 e5
    have hkid : ∀ t ∈ [t1, t2], ∃ m, t = wordT m := fun t hm => by
     rw [← e4] at hm
     obtain ⟨q, hq, rfl⟩ := List.mem_map.1 hm
     have := h.k j x hx q hq
     exact ih q.toNat (by omega) (by omega)
    obtain ⟨m1, rfl⟩ := hkid t1 (by simp)
    obtain ⟨m2, rfl⟩ := hkid t2 (by simp)
    rw [ht, e1, e2, e3, e4, e5] at hc
    have h3 : n0 = 0 ∨ n0 = 1 ∨ n0 = 2 := by omega
    rcases h3 with rfl | rfl | rfl <;> simp [canT, Q4d, kidT, Tr.kids, Tr.n, wordT, Tr.op] at hc
 obtain ⟨m, hm⟩ := key e.length (e.length - 1) (by have := List.length_pos_iff.2 h.ne; omega) (by have := List.length_pos_iff.2 h.ne; omega)
 have : grow e = wordT m := hm
 rw [this] at hw
 exact hw.word.2
theorem Wd.redu {e : List Ex} (hk : Q0k e) {p : Nat} {U : Tr} (hU : ∀ v k, Wd (Q08 e p) v k -> ∃ k', Wd U v k' /\ k' < k) : ∀ n j, j < n -> j < e.length -> ∀ v k, Wd (Q08 e j) v k -> ∃ k', Wd ((Q26 e p U).getD j default) v k' /\ ((Q26 e p U).getD j default = Q08 e j ∨ k' < k) /\ k' <= k := by
 intro n
 induction n with
 | zero => intro j hj; omega
 | succ n ih =>
  intro j hj hl v k hw
  obtain ⟨x, hx⟩ : ∃ x, e[j]? = some x := ⟨e[j], List.getElem?_eq_getElem hl⟩
  rw [Q3a hk p U hx]
  by_cases hp : j = p
  ·rw [if_pos hp]
   subst hp
   obtain ⟨k', h1, h2⟩ := hU v k hw
   exact ⟨k', h1, .inr h2, by omega⟩
  rw [if_neg hp]
  have ht := Q1n hk hx
  rcases hw.inv with ⟨h1, h2⟩ | ⟨n0, t1, t2, x1, y1, c, d, h1, rfl, rfl, hn0, h5, h6⟩
  ·have h3 := h1
   rw [ht] at h3
   unfold wordT at h3
   injection h3 with e1 e2 e3 e4 e5
   rw [List.map_eq_nil_iff] at e4
   rw [e1, e2, e3, e5, e4]
   exact ⟨0, by rw [h1] at hw; obtain ⟨-, rfl⟩ := hw.word; exact hw, .inl h1.symm, by omega⟩
  ·have h3 := h1
   rw [ht] at h3
   injection h3 with e1 e2 e3 e4 e5
   obtain ⟨q1, q2, hq⟩ : ∃ q1 q2, x.kids = [q1, q2] := by
    have : x.kids.length = 2 := by simpa using congrArg List.length e4
    match x.kids, this with
    | [a, b], _ => exact ⟨a, b, rfl⟩
   rw [hq] at e4
   simp only [List.map_cons, List.map_nil] at e4
   injection e4 with f1 f2
   injection f2 with f2 _
   have b1 := hk j x hx q1 (by rw [hq]; simp)
   have b2 := hk j x hx q2 (by rw [hq]; simp)
   obtain ⟨c', g1, g2, g3⟩ := ih q1.toNat (by omega) (by omega) x1 c (f1 ▸ h5)
   obtain ⟨d', i1, i2, i3⟩ := ih q2.toNat (by omega) (by omega) y1 d (f2 ▸ h6)
   refine ⟨c' + d' + 1, ?_, ?_, by omega⟩
   ·rw [e1, e2, e3, e5, hq]
    exact .p _ _ _ _ _ _ _ hn0 g1 i1
   ·rcases g2 with g2 | g2
    ·rcases i2 with i2 | i2
     ·left
      rw [hq]
      simp only [List.map_cons, List.map_nil]
      rw [g2, i2, f1, f2, e1, e2, e3, e5, h1]
     ·right; omega
    ·right; omega
theorem Wd.step {e : List Ex} (h : CoreX.check e = 0) {v : Int} {k : Nat} (hw : Wd (grow e) v k) (hk : k <= 40) {r : Int} {i : Nat} (hn : nextE e = some (r, i)) : ∃ t' k', Q10 e r i 0 = (listT [] t', 0) /\ Wd t' v k' /\ k' < k := by
 have hT := Q0x h
 obtain ⟨h1, h2, h3⟩ := Qa0 hn
 obtain ⟨v1, k1, hv⟩ := hw.all hT i h2
 obtain ⟨rfl, rfl, h4, h5, h6⟩ := hv.can h3
 have hv1 := hv.rng
 have hU : ∀ v k, Wd (Q08 e i) v k -> ∃ k', Wd (wordT v1) v k' /\ k' < k := fun v2 k2 hw2 => by
  obtain ⟨_, rfl, _, _, h7⟩ := hw2.can h3
  rw [h6] at h7
  injection h7 with h7
  unfold wordT at h7
  injection h7 with _ h7
  subst h7
  exact ⟨0, .w _ hv1, by omega⟩
 have hlen := List.length_pos_iff.2 hT.ne
 obtain ⟨k', g1, g2, g3⟩ := Wd.redu hT.k hU e.length (e.length - 1) (by omega) (by omega) v k hw
 have hne : wordT v1 ≠ Q08 e i := fun h8 => by rw [← h8] at h4; simp [wordT, Tr.op] at h4
 have hlt : k' < k := g2.resolve_left (growRNe hT h2 hne)
 have hR : resT (growL e) (grow e) 6 0 (Q08 e i) = some (wordT v1) := by
  unfold resT
  rw [if_neg (by simp), if_neg (by simp), if_neg (by simp [h4]), if_neg (by simp), if_neg (by simp), if_pos ⟨rfl, h4, h5⟩]
  exact h6
 have g1' : Wd (growR e i (wordT v1)) v k' := g1
 have hck := g1'.check (by omega)
 refine ⟨growR e i (wordT v1), k', ?_, g1', hlt⟩
 unfold Q10
 rw [if_neg (by simpa using h), if_neg (by decide), if_neg (by omega), show ((i : Int)).toNat = i by simp, hR]
 dsimp only
 rw [if_neg (by simpa using hck)]
theorem Wd.steps : ∀ (N : Nat) {t : Tr} {v : Int} {k : Nat}, Wd t v k -> k <= 40 -> k <= N -> (Q2a N (listT [] t)).1 = listT [] (wordT v)
 | 0, t, v, k, h, _, hN => by
  obtain rfl : k = 0 := by omega
  rcases h.inv with ⟨rfl, _⟩ | ⟨n, t1, t2, x, y, c, d, _, _, h3, _⟩
  ·rfl
  ·omega
 | N + 1, t, v, k, h, hk, hN => by
  have hT := Q17 t
  have hg : Wd (grow (listT [] t)) v k := by rw [Q0w]; exact h
  cases hn : nextE (listT [] t) with
  | none =>
   obtain rfl := hg.done hT hn
   simp only [Q2a, hn]
   rcases h.inv with ⟨rfl, _⟩ | ⟨n, t1, t2, x, y, c, d, _, _, h3, _⟩
   ·rfl
   ·omega
  | some p =>
   obtain ⟨r, i⟩ := p
   obtain ⟨t', k', h1, h2, h3⟩ := hg.step (h.check hk) hk hn
   simp only [Q2a, hn, h1, if_true]
   exact Wd.steps N h2 (by omega) (by omega)
theorem Wd.simp {t : Tr} {v : Int} {k : Nat} (h : Wd t v k) (hk : k <= 40) : simpE (listT [] t) 100 = (listT [] (wordT v), (Q2a 100 (listT [] t)).2, 0) := by
 unfold simpE
 rw [if_neg (by simpa using h.check hk), if_neg (by decide), Q0w, show (100 : Int).toNat = 100 by decide, h.steps 100 hk (by omega)]
end Go.CoreX
namespace Go.Proofs.YtpaonemmbhbgoaaGreatDoor
open Go Go.Abs Go.CoreX
theorem adI_3 (a : Int) : 0 <= adI a 3 /\ adI a 3 < 4 := by
 have h1 : (BitVec.ofInt 64 a &&& BitVec.ofInt 64 3).toNat < 4 := by
  rw [BitVec.toNat_and]
  have : (BitVec.ofInt 64 3).toNat = 3 := by decide
  rw [this]
  have := Nat.and_le_right (n := (BitVec.ofInt 64 a).toNat) (m := 3)
  omega
 unfold adI bI
 generalize (BitVec.ofInt 64 a &&& BitVec.ofInt 64 3).toNat = k at h1
 simp [IntKind.wrap, IntKind.signed, IntKind.bits, Int.bmod]
 omega
theorem frag_Wd {t : Tr} {v : Int} {k : Nat} (h : Wd t v k) : allT (FragL false) t := by
 induction h with
 | w n h => exact Qjz h
 | p n a b x y c d h ha hb iha ihb =>
  refine ⟨Qg9 ?_, iha, ihb, trivial⟩
  have h3 : n = 0 ∨ n = 1 ∨ n = 2 := by omega
  rcases h3 with rfl | rfl | rfl <;> rfl
theorem okT_Wd {t : Tr} {v : Int} {k : Nat} (h : Wd t v k) : okT t := by
 induction h with
 | w n h => simp [wordT, okT, okTs]
 | p n a b x y c d h ha hb iha ihb => simp [okT, okTs, iha, ihb]
theorem okB_Wd {t : Tr} {v : Int} {k : Nat} (h : Wd t v k) (hk : k <= 40) : okB (listT [] t) := Q3z (Q3l _ (okT_Wd h)) (by rw [h.cnt]; omega)
theorem run_Wd {t : Tr} {v : Int} {k : Nat} (h : Wd t v k) (hk : k <= 40) : RunsTo false 3000 (listT [] t) ⟨.rt (.word v), [], [], ((2 * k + 1 : Nat) : Int), []⟩ (.word v) := by
 refine ⟨h.check hk, by rw [Q0w]; exact frag_Wd h, by omega, ?_, by simp, by show ((2 * k + 1 : Nat) : Int) <= 3000; omega⟩
 rw [Q0w]
 have := h.ev (fu := 3000) (fns := []) .nil [] [] 0 [] (by omega)
 rw [Int.zero_add] at this
 exact goX_of this rfl rfl
theorem tdiv8 {n : Int} (h : Q4q .i64 n) : -9223372036854775808 <= n.tdiv 8 /\ n.tdiv 8 <= 9223372036854775807 := by
 obtain ⟨h1, h2⟩ := h
 simp [IntKind.min, IntKind.max, IntKind.signed, IntKind.bits] at h1 h2
 rcases Int.le_total 0 n with h3 | h3
 ·rw [Int.tdiv_eq_ediv_of_nonneg h3]; omega
 ·have h4 : n.tdiv 8 = -((-n).tdiv 8) := by rw [Int.neg_tdiv]; omega
  rw [h4, Int.tdiv_eq_ediv_of_nonneg (by omega)]; omega
theorem Qks (n : Int) : -1000 < n.tmod 1000 /\ n.tmod 1000 < 1000 := ⟨Int.lt_tmod_of_pos n (by decide), Int.tmod_lt_of_pos n (by decide)⟩
theorem runF_ok {e : List Ex} {mf : Ms} {vf : Vl} (he : okB e) (h : RunsTo false 3000 e mf vf) : APure Tryz.prog Γc 46 [.one (.sl 5 (e.map cEx))] (.tup [.agg [.sl 1 (mf.out.map cI), int 0, int (lastV vf)], .one (.lit (.bool true))]) := by
 have hR := Run_ok MoreC.no he h
 intro ou
 refine AFn.walk 16 tabOk Tryz.func46 rfl (by kernel_rfl) rfl rfl fun hou => ?_
 refine zA ?_
 refine zca hΓc hR hou ?_
 refine zM ?_
 exact APure.fin rfl (WkF.ofEq rfl) (by simp) hou rfl
theorem Q7m (l : List Int) (hl : ∀ x ∈ l, Q4q .i64 x) : APure Tryz.prog Γo 12 [.one (.sl 1 (l.map cI))] (.one (.lit (.bool true))) := by
 obtain ⟨L, hL⟩ : ∃ L, L = min l.length 40 := ⟨_, rfl⟩
 intro ou
 refine AFn.walk 90 tabOk Tryz.func12 rfl (by kernel_rfl) rfl rfl fun hou => ?_
 refine zA ?_
 refine zca hΓo (W_ok hΓo 7) hou ?_
 refine zM ?_
 have hml : ((if (40 : Int) < ((l.map cI).length : Int) then (40 : Int) else ((l.map cI).length : Int))) = (L : Int) := by
  rw [hL, List.length_map]
  split <;> omega
 refine AOps.wk 17 rfl (y := .one (int (L : Int))) (.ofEq (by rw [hml])) ?_
 refine zS (AStep.sliceTo (b := L) tabOk rfl rfl rfl rfl rfl rfl (by rw [List.length_map]; omega)) ?_
 refine zM ?_
 have hln : (((l.map cI).take L).length : Int) = (L : Int) := by rw [List.length_take, List.length_map]; omega
 have hln' : FV.one (int (((l.map cI).take L).length : Int)) = .one (int (L : Int)) := by rw [hln]
 refine ACode.loopR hΓo (α := Nat × Tr) (fun c => [(20, .one (int c.1)), (19, .one (int (L : Int))), (18, .one (.sl 1 ((l.map cI).take L))), (3, .one (.box (cNd c.2)))]) (fun c => ⟨0, [], ou⟩) (fun m c => (c.1 <= L /\ ∃ v, Wd c.2 v c.1) /\ m = L - c.1) (a0 := (0, wordT 7)) (ρ := _root_.id) ⟨⟨by omega, 7, .w 7 (by omega)⟩, rfl⟩ (LessR.of rfl (FrSub.cons rfl (.ofEq rfl) (FrSub.cons rfl (.ofEq hln') zFW)) (by simp) zLO rfl rfl hou) fun m c hc => ?_
 obtain ⟨i, T⟩ := c
 obtain ⟨⟨hiL, v, hw⟩, rfl⟩ := hc
 dsimp only at hiL hw
 refine zA ?_
 refine ACode.cond rfl (fun hb => ?_) (fun hb => ?_)
 ·have hlt : i < L := by simpa using hb
  clear hb
  obtain ⟨x, hx⟩ := Q01 (show i < l.length by omega)
  have hgx : ((l.map cI).take L)[i]? = some (cI x) := by rw [List.getElem?_take_of_lt hlt]; exact Q06 hx
  have hxr := tdiv8 (hl x (List.mem_of_getElem? hx))
  have hmr := Qks (x.tdiv 8)
  have hxw : -1073741824 <= (x.tdiv 8).tmod 1000 - 500 /\ (x.tdiv 8).tmod 1000 - 500 <= 1073741823 := by omega
  obtain ⟨w, hwd⟩ : ∃ w, w = (x.tdiv 8).tmod 1000 - 500 := ⟨_, rfl⟩
  have hww : Wd (wordT w) w 0 := .w w (by omega)
  refine zA ?_
  refine zS (zIA rfl rfl rfl (by omega) hgx) ?_
  refine zA ?_
  refine zS (AStep.quo rfl rfl rfl (by decide) (Q1o hxr.1 hxr.2)) ?_
  refine zS (AStep.rem rfl rfl rfl (by decide)) ?_
  refine zS (AStep.arith rfl rfl rfl (.inr (.inl ⟨rfl, hwd⟩)) zI) ?_
  refine zca hΓo (W_ok hΓo w) hou ?_
  refine zA ?_
  refine zS (AStep.and rfl rfl rfl) ?_
  refine zM ?_
  have hk4 := adI_3 x
  obtain ⟨k, hkd⟩ : ∃ k, k = (adI x 3).tmod 3 := ⟨_, rfl⟩
  have hk3 : 0 <= k /\ k <= 2 := by
   have h1 := Int.tmod_nonneg 3 hk4.1
   have h2 := Int.tmod_lt_of_pos (adI x 3) (b := 3) (by decide)
   omega
  refine AOps.splitS rfl rfl rfl rfl (fun hb1 => ?_) (fun hb1 => ?_)
  ·refine zM ?_
   refine zS (AStep.rem rfl rfl rfl (by decide)) ?_
   refine zM ?_
   refine ACode.cond rfl (fun hb2 => ?_) (fun hb2 => ?_)
   ·refine zA ?_
    refine zS (AStep.and rfl rfl rfl) ?_
    refine zS (AStep.rem rfl rfl rfl (by decide)) ?_
    refine AOps.wk 42 rfl (y := .one (int k)) (.ofEq (by rw [← hkd])) ?_
    refine zA ?_
    refine AOps.wk 45 rfl (y := .one (.sl 1 (Q2q [wordT w, T]))) (.ofEq (by rw [Q3w]; rfl)) ?_
    refine zca hΓo (N_ok (Γ := Γo) 8 k [wordT w, T]) hou ?_
    refine zM ?_
    refine cInv ⟨L - (i + 1), (i + 1, .mk 8 k [] [wordT w, T] []), _root_.id, by omega, ⟨⟨by show i + 1 <= L; omega, ?_⟩, rfl⟩, LessR.of rfl zFW (by simp) zLO rfl rfl hou⟩
    exact ⟨_, by have := Wd.p k _ _ _ _ _ _ hk3 hww hw; simpa using this⟩
   ·refine zA ?_
    refine zS (AStep.and rfl rfl rfl) ?_
    refine zS (AStep.rem rfl rfl rfl (by decide)) ?_
    refine AOps.wk 42 rfl (y := .one (int k)) (.ofEq (by rw [← hkd])) ?_
    refine zA ?_
    refine AOps.wk 45 rfl (y := .one (.sl 1 (Q2q [T, wordT w]))) (.ofEq (by rw [Q3w]; rfl)) ?_
    refine zca hΓo (N_ok (Γ := Γo) 8 k [T, wordT w]) hou ?_
    refine zM ?_
    refine cInv ⟨L - (i + 1), (i + 1, .mk 8 k [] [T, wordT w] []), _root_.id, by omega, ⟨⟨by show i + 1 <= L; omega, ?_⟩, rfl⟩, LessR.of rfl zFW (by simp) zLO rfl rfl hou⟩
    exact ⟨_, by have := Wd.p k _ _ _ _ _ _ hk3 hw hww; simpa using this⟩
  ·refine zM ?_
   refine zA ?_
   refine zS (AStep.and rfl rfl rfl) ?_
   refine zS (AStep.rem rfl rfl rfl (by decide)) ?_
   refine AOps.wk 42 rfl (y := .one (int k)) (.ofEq (by rw [← hkd])) ?_
   refine zA ?_
   refine AOps.wk 45 rfl (y := .one (.sl 1 (Q2q [T, wordT w]))) (.ofEq (by rw [Q3w]; rfl)) ?_
   refine zca hΓo (N_ok (Γ := Γo) 8 k [T, wordT w]) hou ?_
   refine zM ?_
   refine cInv ⟨L - (i + 1), (i + 1, .mk 8 k [] [T, wordT w] []), _root_.id, by omega, ⟨⟨by show i + 1 <= L; omega, ?_⟩, rfl⟩, LessR.of rfl zFW (by simp) zLO rfl rfl hou⟩
   exact ⟨_, by have := Wd.p k _ _ _ _ _ _ hk3 hw hww; simpa using this⟩
 ·have hlt : i = L := by
   have : ¬ i < L := by simpa using hb
   omega
  subst hlt
  have hL40 : i <= 40 := by omega
  have hNL := Q5x hΓo T (okT_Wd hw) (by have := Q1r T []; rw [hw.cnt] at this; simp at this; omega)
  have hrun := APure.o (runF_ok (okB_Wd hw hL40) (run_Wd hw hL40))
  have hsim := Qkm (listT [] T) (okB_Wd hw hL40) 100
  rw [hw.simp hL40] at hsim
  refine zA ?_
  refine zca hΓo hNL hou ?_
  refine zA ?_
  refine zca hΓo hrun hou ?_
  refine zA ?_
  refine AOps.callC hΓo hsim rfl rfl rfl rfl rfl rfl rfl hou (by simp [Qlm]) ?_
  refine zA ?_
  refine ACode.drawX tabOk 29 [(0, .one (.lit (.bool true))), (15, .one (.box (cEx ⟨1, v, [], [], []⟩))), (22, .one (.box (cEx ⟨1, v, [], [], []⟩)))] follows (by kernel_rfl) rfl rfl rfl rfl ?_ ?_
  ·refine .step rfl (zHP (AStep.callPure hΓo rfl rfl rfl (by simp) hou Q87)) ?_
   refine .step rfl (HStep.guarded rfl rfl rfl (AStep.indexAddr (n := 0) tabOk rfl rfl rfl rfl rfl rfl (.inl rfl) rfl (by decide) rfl)) ?_
   exact .step rfl (HStep.guarded rfl rfl rfl (AStep.indexAddr (n := 0) tabOk rfl rfl rfl rfl rfl rfl (.inl rfl) rfl (by decide) rfl)) .nil
  refine zA ?_
  exact APure.fin rfl (WkF.ofEq (by simp [lastV])) (by simp) hou rfl
theorem Qag {H : Type} : ∀ l : List (DataW H), Rows.uptoBulkAll l = Q3p Rows.uptoBulk l
 | [] => rfl
 | d :: l => by simp only [Rows.uptoBulkAll, Q3p, List.map_cons, List.sum_cons] at *; rw [Qag l]; rfl
theorem Qhj {H : Type} (l r : List (DataW H)) : Q3p Rows.uptoBulk l + 1 <= Rows.uptoBulk (.slice l r) := by
 simp only [Rows.uptoBulk, Qag]; omega
theorem Qlz {H : Type} : 1 <= Rows.uptoBulk (DataW.nil : DataW H) := by simp [Rows.uptoBulk]
section
variable {H : Type} {enc : TypeId × Value -> H} {w : World}
abbrev I64 := {i : Int // IntKind.i64.min <= i /\ i <= IntKind.i64.max}
theorem Qj1 (n : Nat) : Opens enc Tryz.prog w Rows.uptoBulk 3 n (fun i : I64 => [int i.1]) (fun _ => 1) := by
 intro cs x h
 obtain ⟨i, rfl, rfl, hw⟩ := DataW.trod_int Tryz.underlying3 h
 refine ⟨⟨i, ?_⟩, ⟨_, _, rfl, ⟨rfl, rfl⟩, rfl⟩, by simp [Rows.uptoBulk]⟩
 simpa [Lit.wf] using hw
theorem Qe1 {t e : TypeId} {s : Nat} (ht : Tryz.prog.underlying t = some (.slice e)) (hs : Tryz.prog.cellsOf e = s) (h0 : 0 < s) {α : Type} {c : α -> List AC} {wt : α -> Nat} (n : Nat) (he : ∀ m, m < n -> Opens enc Tryz.prog w Rows.uptoBulk e m c wt) :
  Opens enc Tryz.prog w Rows.uptoBulk t n (fun l : List α => [.sl s (l.map c)]) (fun l => wtAll wt l + 1) := by
 cases n with
 | zero => exact Opens.zero
 | succ n => exact Opens.slice Qhj Qlz ht hs h0 (he n (by omega))
def bAlt (a : Alt) : Nat := a.binds.length + 3
def bAlts (l : List Alt) : Nat := (l.map bAlt).sum
def bEx (x : Ex) : Nat := x.binds.length + x.kids.length + bAlts x.alts + 6
def bExs (l : List Ex) : Nat := (l.map bEx).sum
theorem Ql4 {t e : TypeId} {base : Nat} {r : Reach} {W : World} {v : Value} {C : Ctx} {c : AC} (ht : Tryz.prog.underlying t = some (.slice e)) (h : Value.okWide Tryz.prog W r base t v) (hr : RV W C [c] v.cells.toList) : RF W C (.one c) v := by
 obtain ⟨a, len, cap, rfl⟩ := WideShapes.okWide_slice ht h
 obtain ⟨u, us, he, h1, h2⟩ := hr
 simp [Value.cells] at he
 obtain ⟨rfl, rfl⟩ := he
 exact h1
end
theorem Qcp {P : Program} {W : World} {x : String × DataW Unit} {rest : List (String × DataW Unit)} (h : laidMet P (x :: rest) W) : laidMet P rest W := by
 obtain ⟨ps, ⟨g, t, cs, fuel, p, q, h1, h2, h3, h4, h5, rfl⟩, hn, hc⟩ := h
 exact ⟨q, h5, (List.nodup_append.1 hn).2.1, fun b off hm => hc b off (by simp [hm])⟩
theorem Qe0 {W : World} (h : laidMetH Tryz.prog [("provenance/core.arity", Rows.laid_provenance_core_arity), ("provenance/rewrite.order", Rows.laid_provenance_rewrite_order)] W) : ∀ g cs, (g, cs) ∈ Γo -> RG W (ctx0 W) cs g := by
 have h' : laidMet Tryz.prog [("provenance/core.arity", Rows.laid_provenance_core_arity), ("provenance/rewrite.order", Rows.laid_provenance_rewrite_order)] W := h
 have ht : Lib.TabIs Tryz.prog W "provenance/core.arity" .i64 [2, 2, 2, 2, 2, 2, 2, 1, 2, 1, 2, 3] :=
  Lib.tabIs_of_head (rest := [("provenance/rewrite.order", Rows.laid_provenance_rewrite_order)]) (g := 1) (t := 168) (n := 12) (by kernel_rfl) (by kernel_rfl) (by kernel_rfl) Tryz.underlying3 (by kernel_rfl) (by kernel_rfl) h
 have hu : Lib.TabIs Tryz.prog W "provenance/rewrite.order" .i64 [3, 4, 6, 7, 5, 1, 2, 11, 8, 9] :=
  Lib.tabIs_of_head (rest := []) (g := 0) (t := 124) (n := 10) (by kernel_rfl) (by kernel_rfl) (by kernel_rfl) Tryz.underlying3 (by kernel_rfl) (by kernel_rfl) (Qcp h')
 have hg : Tryz.prog.globalNamed "provenance/core.arity" = some 1 := by kernel_rfl
 have hh : Tryz.prog.globalNamed "provenance/rewrite.order" = some 0 := by kernel_rfl
 intro g cs hm
 simp [Γo] at hm
 rcases hm with ⟨rfl, rfl⟩ | ⟨rfl, rfl⟩
 ·exact RG.ofVar hh hu rfl
 ·exact RG.ofVar hg ht rfl
end Go.Proofs.YtpaonemmbhbgoaaGreatDoor
