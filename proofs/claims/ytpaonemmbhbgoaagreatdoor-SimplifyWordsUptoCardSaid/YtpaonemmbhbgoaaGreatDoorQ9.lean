/- Clone, walked: the copy is handed on as an own array. -/
import Derived.Test.YtpaonemmbhbgoaaGreatDoorQ8
set_option maxRecDepth 10000
set_option linter.unusedVariables false
set_option linter.unusedSimpArgs false
namespace Go.Proofs.YtpaonemmbhbgoaaGreatDoor
open Go Go.Abs Go.CoreX
variable {Γ : List (Nat × List AC)}
theorem Wk.arr0 (i : Abs.Id) (s cap : Nat) : Wk (.arr i s 0 0 cap) (.sl s []) := by
 intro w C v h
 simp only [R] at h ⊢
 obtain ⟨_, rfl, hc⟩ := h
 exact ⟨_, cap, rfl, by simp, .inl trivial⟩
structure NewO (ou ou' : Outer) (L : List (Nat × AObj)) : Prop where
 own : Owns ou' L
 new : ∀ k ∈ keys L, ou k = none
 old : ∀ m, m ∉ keys L -> ou' m = ou m
 ok : OuOk ou'
 nd : (keys L).Nodup
theorem NewO.nil {ou : Outer} (h : OuOk ou) : NewO ou ou [] := ⟨fun p hp => by simp at hp, fun k hk => by simp [keys] at hk, fun _ _ => rfl, h, by simp [keys]⟩
theorem NewO.trans {ou ou1 ou2 : Outer} {L M : List (Nat × AObj)} (h : NewO ou ou1 L) (k : NewO ou1 ou2 M) : NewO ou ou2 (L ++ M) := by
 have hLM : ∀ j ∈ keys L, j ∉ keys M := fun j hj hm => by
  have h1 := k.new j hm
  obtain ⟨p, hp, rfl⟩ := List.mem_map.1 hj
  rw [h.own p hp] at h1
  cases h1
 refine ⟨Owns.app.2 ⟨h.own.frame fun j hj => k.old j (hLM j hj), k.own⟩, fun j hj => ?_, fun m hm => ?_, k.ok, ?_⟩
 ·rw [Q1u, List.mem_append] at hj
  by_cases e : j ∈ keys L
  ·exact h.new j e
  ·rw [← h.old j e]
   exact k.new j (hj.resolve_left e)
 ·rw [Q1u, List.mem_append, not_or] at hm
  rw [k.old m hm.2, h.old m hm.1]
 ·rw [Q1u, List.nodup_append]
  exact ⟨h.nd, k.nd, fun a ha b hb e => hLM a ha (e ▸ hb)⟩
theorem NewO.frame {ou ou' : Outer} {L M : List (Nat × AObj)} (h : NewO ou ou' L) (ho : Owns ou M) : Owns ou' M := ho.frame fun j hj => h.old j fun hm => by
 obtain ⟨p, hp, rfl⟩ := List.mem_map.1 hj
 have := h.new _ hm
 rw [ho p hp] at this
 cases this
def CloneQ (ou : Outer) (l : List Int) (r : FV) (ou' : Outer) : Prop := ∃ nb, ownB nb l /\ r = .one (bC nb l) /\ NewO ou ou' (bO nb l)
theorem Qdj (l : List Int) (hl : l.length <= 1048576) (ou : Outer) : AFn Tryz.prog Γ 83 [.one (.sl 1 (l.map cI))] ou (CloneQ ou l) := by
 refine AFn.walk 8 tabOk Tryz.func83 rfl (by kernel_rfl) rfl rfl fun hou => ?_
 refine zA ?_
 refine AOps.nilTest rfl rfl rfl rfl Tryz.underlying29 rfl rfl fun b hb => ?_
 refine zA ?_
 refine ACode.cond rfl (fun hb2 => ?_) (fun hb2 => ?_)
 ·have h0 : l = [] := by simpa using hb hb2
  subst h0
  refine zA ?_
  exact AFn.fin' rfl (.one (.nilS 1)) (by simp) hou ⟨none, fun _ => rfl, rfl, .nil hou⟩
 ·clear hb
  refine zA ?_
  refine zS (AStep.buildOwn0 (s := 1) tabOk rfl rfl rfl rfl rfl) ?_
  refine zA ?_
  by_cases h0 : l = []
  ·subst h0
   refine zS (AStep.appNone tabOk rfl rfl rfl rfl rfl rfl) ?_
   refine zA ?_
   exact AFn.fin' rfl (.one (Wk.arr0 _ _ _)) (by simp) hou ⟨none, fun _ => rfl, rfl, .nil hou⟩
  ·refine AOps.appOwn tabOk rfl rfl rfl rfl rfl rfl rfl rfl rfl (.own 1 0 [] (.l 0) rfl (by simp) (by simp)) (.sl 1 (l.map cI)) (by simpa using h0) rfl (by simp; show _ * 8 <= _; omega) (by simp; omega) fun cap hc => ?_
   simp only [List.nil_append] at hc ⊢
   refine AOps.cedes [1] rfl (by decide) hou fun k hk => ⟨[(7, .one (.arr (.o k) 1 0 (l.map cI).length cap))], [], [.cells (vec 1 (l.map cI) cap)], .cons rfl rfl .nil, .nil, .cons rfl ?_ .nil, ?_⟩
   ·exact AObj.sub_f (fun i hi => by cases i with | l q => exact hi.elim | o q => rfl) _ (show idsL isO (vec 1 (l.map cI) cap) from Qg1 _ _ _)
   have hk' : ∀ m, k <= m -> ou m = none := hk
   have hok : OuOk (ouAdd ou k [.cells (vec 1 (l.map cI) cap)]) := Qfk hou fun o ho => by simp at ho; subst ho; exact Qg1 _ _ _
   refine zA ?_
   refine AFn.fin' rfl (WkF.ofEq rfl) (by simp) hok ⟨some (k, cap), (fun h => by cases h), rfl, fun p hp => ?_, fun j hj => ?_, fun m hm => ?_, hok, by simp [bO, keys]⟩
   ·simp [bO] at hp; subst hp
    exact Q2m 0
   ·simp [bO, keys] at hj; subst hj; exact hk' _ (Nat.le_refl _)
   ·simp [bO, keys] at hm
    show ouAdd ou k [.cells (vec 1 (l.map cI) cap)] m = ou m
    rcases Nat.lt_or_ge m k with h1 | h1
    ·exact Q38 h1
    ·obtain ⟨p, rfl⟩ : ∃ p, m = k + p := ⟨m - k, by omega⟩
     rw [Q2m, hk' _ h1]
     cases p with
     | zero => simp at hm
     | succ p => simp
end Go.Proofs.YtpaonemmbhbgoaaGreatDoor
namespace Go.CoreX
theorem Qgf : ∀ {e f : List Ex}, e.map (·.kids) = f.map (·.kids) -> ∀ i, cnt e i = cnt f i
 | [], [], _, _ => rfl
 | [], _ :: _, h, _ => by simp at h
 | _ :: _, [], h, _ => by simp at h
 | x :: e, y :: f, h, i => by
  simp only [List.map_cons, List.cons.injEq] at h
  simp only [cnt, h.1, Qgf h.2 i]
def ixE (e : List Ex) : List Ex := e.mapIdx fun i x => { x with n := (i : Nat) }
theorem Q8s {e : List Ex} {i : Nat} : (ixE e)[i]? = (e[i]?).map fun x => { x with n := (i : Nat) } := by simp [ixE]
theorem Qll (e : List Ex) : (ixE e).map (·.kids) = e.map (·.kids) := by
 apply List.ext_getElem?
 intro i
 simp only [List.getElem?_map, Q8s]
 cases e[i]? <;> rfl
theorem Qba (e : List Ex) : (ixE e).length = e.length := by simp [ixE]
theorem Qlk {e : List Ex} (h : IsTree e) : IsTree (ixE e) := by
 refine ⟨fun e0 => h.ne (by have := Qba e; rw [e0] at this; exact List.length_eq_zero_iff.1 (by simpa using this.symm)), fun j x hx => ?_, fun i hi => ?_⟩
 ·rw [Q8s] at hx
  cases he : e[j]? with
  | none => rw [he] at hx; cases hx
  | some y =>
   rw [he] at hx
   simp at hx; subst hx
   exact h.k j y he
 ·rw [Qgf (Qll e), Qba]
  exact h.c i (by rw [Qba] at hi; exact hi)
theorem labs_n (e : List Ex) : (labs e).map (·.n) = e.map (·.n) := by simp [labs, labE]
theorem ixE_n (e : List Ex) : (ixE e).map (·.n) = (List.range e.length).map fun i : Nat => (i : Int) := by
 apply List.ext_getElem?
 intro i
 simp only [List.getElem?_map, Q8s]
 by_cases h : i < e.length
 ·simp [h]
 ·simp [h]
end Go.CoreX
namespace Go.Proofs.YtpaonemmbhbgoaaGreatDoor
open Go Go.Abs Go.CoreX
def ownO : LTr -> List (Nat × AObj)
 | .mk i o n nb b k a => (bO nb b ++ aO a) ++ [(i, .cells [int o, int n, bC nb b, .sl 1 (kC k), .sl 2 (a.map lAlt)])]
theorem Q7t : ∀ (t : LTr) (p : Nat × AObj), p ∈ objs t ↔ p ∈ ownO t ∨ p ∈ objss t.kids
 | .mk i o n nb b k a, p => by
  simp only [objs, ownO, LTr.kids, List.cons_append, List.mem_cons, List.mem_append, List.not_mem_nil, or_false]
  constructor
  ·rintro (h | (h | h) | h) <;> simp [h]
  ·rintro (((h | h) | h) | h) <;> simp [h]
theorem Q9x (k : Nat) : ∀ t : LTr, (keys (objs t)).count k = (keys (ownO t)).count k + (keys (objss t.kids)).count k
 | .mk i o n nb b ks a => by
  simp only [objs, ownO, LTr.kids, keys, List.map_cons, List.map_append, List.cons_append, List.count_cons, List.count_append, List.map_nil, List.count_nil]
  omega
structure LinkL (e : List Ex) (lts : List LTr) (B : Nb -> List Int -> Prop := ownB) : Prop where
 len : lts.length = e.length
 at_ : ∀ (i : Nat) (x : Ex), e[i]? = some x -> ∃ id nb a, lts[i]? = some (.mk id x.op x.n nb x.binds (x.kids.map fun q => lts.getD q.toNat default) a) /\ a.map LAlt.er = x.alts /\ B nb x.binds /\ ∀ y ∈ a, B y.nb y.binds
theorem LinkL.nil {B : Nb -> List Int -> Prop} : LinkL [] [] B := ⟨rfl, fun i x h => by simp at h⟩
theorem LinkL.snoc {B : Nb -> List Int -> Prop} {e : List Ex} {lts : List LTr} (h : LinkL e lts B) (hk : Q0k e) {x : Ex} (hx : ∀ q ∈ x.kids, 0 <= q /\ q < (e.length : Int)) {id : Nat} {nb : Nb} {a : List LAlt} (ha : a.map LAlt.er = x.alts) (hb : B nb x.binds) (hab : ∀ y ∈ a, B y.nb y.binds) :
  LinkL (e ++ [x]) (lts ++ [.mk id x.op x.n nb x.binds (x.kids.map fun q => lts.getD q.toNat default) a]) B := by
 have hgd : ∀ (q : Int), 0 <= q -> q < (e.length : Int) -> ∀ t, (lts ++ [t]).getD q.toNat default = lts.getD q.toNat default := fun q h0 h1 t => Q6h (by rw [h.len]; omega)
 refine ⟨by simp [h.len], fun i y hy => ?_⟩
 by_cases hi : i < e.length
 ·rw [List.getElem?_append_left hi] at hy
  obtain ⟨id', nb', a', h1, h2, h3, h4⟩ := h.at_ i y hy
  refine ⟨id', nb', a', ?_, h2, h3, h4⟩
  rw [List.getElem?_append_left (by rw [h.len]; exact hi), h1]
  congr 2
  refine List.map_congr_left fun q hq => ?_
  have := hk i y hy q hq
  exact (hgd q this.1 (by omega) _).symm
 ·have hie : i = e.length := by
   have := (List.getElem?_eq_some_iff.1 hy).1
   simp at this; omega
  subst hie
  simp at hy
  subst hy
  refine ⟨id, nb, a, ?_, ha, hb, hab⟩
  rw [← h.len, List.getElem?_append_right (by simp)]
  simp only [Nat.sub_self, List.getElem?_cons_zero]
  congr 2
  exact List.map_congr_left fun q hq => (hgd q (hx q hq).1 (hx q hq).2 _).symm
section
variable {e : List Ex} {lts : List LTr} {B : Nb -> List Int -> Prop}
theorem LinkL.getD (h : LinkL e lts B) {i : Nat} {t : LTr} (ht : lts[i]? = some t) : lts.getD i default = t := by rw [List.getD_eq_getElem?_getD, ht]; rfl
theorem LinkL.er (h : LinkL e lts B) (hk : Q0k e) : ∀ (n i : Nat) (t : LTr), i < n -> lts[i]? = some t -> erT t = Q08 e i
 | 0, i, t, hi, _ => by omega
 | n + 1, i, t, hi, ht => by
  have hil : i < e.length := by rw [← h.len]; exact (List.getElem?_eq_some_iff.1 ht).1
  obtain ⟨x, hx⟩ := Q01 hil
  obtain ⟨id, nb, a, h1, h2, _⟩ := h.at_ i x hx
  rw [ht] at h1
  cases h1
  rw [Q1n hk hx]
  simp only [erT, h2, Q0l, List.map_map]
  congr 1
  refine List.map_congr_left fun q hq => ?_
  have hq' := hk i x hx q hq
  obtain ⟨t', ht'⟩ := Q01 (l := lts) (i := q.toNat) (by rw [h.len]; omega)
  simp only [Function.comp, h.getD ht']
  exact h.er hk n q.toNat t' (by omega) ht'
theorem LinkL.own (h : LinkL e lts B) (hk : Q0k e) : ∀ (n i : Nat) (t : LTr), i < n -> lts[i]? = some t -> ∀ p ∈ objs t, p ∈ lts.flatMap ownO
 | 0, i, t, hi, _ => by omega
 | n + 1, i, t, hi, ht => fun p hp => by
  have hil : i < e.length := by rw [← h.len]; exact (List.getElem?_eq_some_iff.1 ht).1
  obtain ⟨x, hx⟩ := Q01 hil
  obtain ⟨id, nb, a, h1, _⟩ := h.at_ i x hx
  rw [ht] at h1
  rcases (Q7t t p).1 hp with hp | hp
  ·exact List.mem_flatMap.2 ⟨t, List.mem_of_getElem? ht, hp⟩
  ·cases h1
   simp only [LTr.kids, Q40] at hp
   obtain ⟨u, hu, hpu⟩ := List.mem_flatMap.1 hp
   obtain ⟨q, hq, rfl⟩ := List.mem_map.1 hu
   have hq' := hk i x hx q hq
   obtain ⟨t', ht'⟩ := Q01 (l := lts) (i := q.toNat) (by rw [h.len]; omega)
   rw [h.getD ht'] at hpu
   exact h.own hk n q.toNat t' (by omega) ht' p hpu
def ownC (lts : List LTr) (k : Nat) (l : Lab) : Int := ((keys (ownO (lts.getD l.n.toNat default))).count k : Nat)
theorem Q8k (k : Nat) : ∀ l : List LTr, (((keys (objss l)).count k : Nat) : Int) = (l.map fun t => (((keys (objs t)).count k : Nat) : Int)).sum
 | [] => by simp [objss, keys]
 | t :: l => by
  have := Q8k k l
  simp only [keys] at this
  simp only [objss, keys, List.map_append, List.count_append, List.map_cons, List.sum_cons, ← this]
  push_cast; rfl
theorem LinkL.count (h : LinkL e lts B) (hk : Q0k e) (k : Nat) : ∀ (n i : Nat) (t : LTr), i < n -> lts[i]? = some t -> sumT (ownC lts k) (Q08 (ixE e) i) = ((keys (objs t)).count k : Nat)
 | 0, i, t, hi, _ => by omega
 | n + 1, i, t, hi, ht => by
  have hil : i < e.length := by rw [← h.len]; exact (List.getElem?_eq_some_iff.1 ht).1
  obtain ⟨x, hx⟩ := Q01 hil
  obtain ⟨id, nb, a, h1, _⟩ := h.at_ i x hx
  rw [ht] at h1
  have hki : Q0k (ixE e) := fun j y hy => by
   rw [Q8s] at hy
   cases he : e[j]? with
   | none => rw [he] at hy; cases hy
   | some z =>
    rw [he] at hy
    simp at hy; subst hy
    exact hk j z he
  have hxi : (ixE e)[i]? = some { x with n := (i : Nat) } := by rw [Q8s, hx]; rfl
  rw [Q1n hki hxi]
  simp only [sumT, Q7n, List.map_map]
  rw [Q9x]
  have e1 : ownC lts k ⟨x.op, (i : Nat), x.binds, x.kids.map (Tr.op ∘ fun k => Q08 (ixE e) k.toNat), x.alts⟩ = ((keys (ownO t)).count k : Nat) := by
   unfold ownC
   simp only [Int.toNat_natCast, h.getD ht]
  have e2 : (x.kids.map (sumT (ownC lts k) ∘ fun k => Q08 (ixE e) k.toNat)).sum = ((keys (objss t.kids)).count k : Nat) := by
   rw [Q8k]
   cases h1
   simp only [LTr.kids, List.map_map]
   congr 1
   refine List.map_congr_left fun q hq => ?_
   have hq' := hk i x hx q hq
   obtain ⟨t', ht'⟩ := Q01 (l := lts) (i := q.toNat) (by rw [h.len]; omega)
   simp only [Function.comp, h.getD ht']
   exact h.count hk k n q.toNat t' (by omega) ht'
  rw [e1, e2]
  push_cast; rfl
theorem Qab (k : Nat) : ∀ lts : List LTr, (((keys (lts.flatMap ownO)).count k : Nat) : Int) = (lts.map fun t => (((keys (ownO t)).count k : Nat) : Int)).sum
 | [] => by simp [keys]
 | t :: l => by
  have := Qab k l
  simp only [keys] at this
  simp only [List.flatMap_cons, keys, List.map_append, List.count_append, List.map_cons, List.sum_cons, ← this]
  push_cast; rfl
theorem LinkL.nodup (h : LinkL e lts B) (ht : IsTree e) (hn : (keys (lts.flatMap ownO)).Nodup) {t : LTr} (hr : lts[e.length - 1]? = some t) : (keys (objs t)).Nodup := by
 rw [List.nodup_iff_count]
 intro k
 have h1 := h.count ht.k k _ _ t (Nat.lt_succ_self _) hr
 have h2 := Q52 (ownC lts k) (Qlk ht)
 have h3 : grow (ixE e) = Q08 (ixE e) (e.length - 1) := by unfold grow Q08; rw [Qba]
 rw [h3, h1] at h2
 have h4 : ((labs (ixE e)).map (ownC lts k)) = lts.map fun t => (((keys (ownO t)).count k : Nat) : Int) := by
  have e1 : (labs (ixE e)).map (ownC lts k) = ((labs (ixE e)).map (·.n)).map fun n : Int => (((keys (ownO (lts.getD n.toNat default))).count k : Nat) : Int) := by
   rw [List.map_map]; rfl
  rw [e1, labs_n, ixE_n, List.map_map]
  apply List.ext_getElem?
  intro i
  by_cases hi : i < e.length
  ·obtain ⟨t', ht'⟩ := Q01 (l := lts) (i := i) (by rw [h.len]; exact hi)
   simp only [List.getElem?_map, List.getElem?_range hi, Option.map_some, Function.comp, Int.toNat_natCast, h.getD ht', ht']
  ·rw [List.getElem?_eq_none (by simp; omega), List.getElem?_eq_none (by simp [h.len]; omega)]
 rw [h4, ← Qab] at h2
 have h5 := List.nodup_iff_count.1 hn k
 omega
theorem LinkL.ok (h : LinkL e lts) (hk : Q0k e) (hs : ∀ x ∈ e, x.binds.length <= 1048576 /\ x.kids.length <= 1048576 /\ x.alts.length <= 1048576 /\ ∀ a ∈ x.alts, a.binds.length <= 1048576) : ∀ (n i : Nat) (t : LTr), i < n -> lts[i]? = some t -> okL t
 | 0, i, t, hi, _ => by omega
 | n + 1, i, t, hi, ht => by
  have hil : i < e.length := by rw [← h.len]; exact (List.getElem?_eq_some_iff.1 ht).1
  obtain ⟨x, hx⟩ := Q01 hil
  obtain ⟨id, nb, a, h1, h2, h3, h4⟩ := h.at_ i x hx
  obtain ⟨s1, s2, s3, s4⟩ := hs x (List.mem_of_getElem? hx)
  rw [ht] at h1
  cases h1
  refine ⟨fun _ => h3, s1, by simpa using s2, by have := congrArg List.length h2; simp at this; omega, fun y hy => ⟨h4 y hy, ?_⟩, Qfn.2 fun u hu => ?_⟩
  ·exact s4 y.er (by rw [← h2]; exact List.mem_map_of_mem hy)
  ·obtain ⟨q, hq, rfl⟩ := List.mem_map.1 hu
   have hq' := hk i x hx q hq
   obtain ⟨t', ht'⟩ := Q01 (l := lts) (i := q.toNat) (by rw [h.len]; omega)
   rw [h.getD ht']
   exact h.ok hk hs n q.toNat t' (by omega) ht'
end
variable {Γ : List (Nat × List AC)}
def Q14 (ts : List LTr) (n : Nat) : List AC := ts.map (fun t => .ptr (.o t.id) 0) ++ List.replicate (n - ts.length) (.lit (.pointer none))
theorem Qh2 (n : Nat) : Q14 [] n = List.replicate n (.lit (.pointer none)) := by simp [Q14]
theorem Qh3 {ts : List LTr} {n : Nat} (h : ts.length <= n) : (Q14 ts n).length = n := by simp [Q14]; omega
theorem Q71 {ts : List LTr} {n k : Nat} {t : LTr} (h : ts[k]? = some t) : (Q14 ts n)[k]? = some (.ptr (.o t.id) 0) := by
 have hk := (List.getElem?_eq_some_iff.1 h).1
 unfold Q14
 rw [List.getElem?_append_left (by simpa using hk)]
 simp [h]
theorem Qh1 {ts : List LTr} {n : Nat} (h : ts.length < n) (t : LTr) : (Q14 ts n).set ts.length (.ptr (.o t.id) 0) = Q14 (ts ++ [t]) n := by
 unfold Q14
 rw [List.set_append_right _ _ (by simp)]
 simp only [List.length_map, Nat.sub_self, List.map_append, List.map_cons, List.map_nil, List.append_assoc, List.length_append, List.length_singleton]
 congr 1
 rw [show n - ts.length = (n - (ts.length + 1)) + 1 by omega, List.replicate_succ]
 rfl
theorem Qa6 (p : Abs.Id -> Prop) (hp : ∀ k, p (.o k)) (ts : List LTr) (n : Nat) : idsL p (Q14 ts n) := by
 refine Q7w ?_ (Qjl p _ _)
 induction ts with
 | nil => trivial
 | cons t ts ih => exact ⟨hp _, ih⟩
@[simp] theorem ids_nodesL_l (k : Nat) (ts : List LTr) (n : Nat) : idsL (inL k) (Q14 ts n) := Qa6 _ (fun _ => trivial) ts n
@[simp] theorem Qcu (ts : List LTr) (n : Nat) : idsL isO (Q14 ts n) := Qa6 _ (fun _ => trivial) ts n
theorem Qb9 (l : List LTr) (t : LTr) : kC (l ++ [t]) = kC l ++ [[.ptr (.o t.id) 0]] := by simp [kC]
def kidsL (ts : List LTr) (ks : List Int) : List LTr := ks.map fun k => ts.getD k.toNat default
theorem Qa2 {ts : List LTr} {ks : List Int} {i : Nat} {k : Int} (h : ks[i]? = some k) : kidsL ts (ks.take (i + 1)) = kidsL ts (ks.take i) ++ [ts.getD k.toNat default] := by
 simp [kidsL, List.take_add_one, h]
@[simp] theorem ids_kC_l (k : Nat) (ts : List LTr) : idsS (inL k) (kC ts) := Qg4 _ (fun _ => trivial) ts
@[simp] theorem Qg3 (ts : List LTr) : idsS isO (kC ts) := Qg4 _ (fun _ => trivial) ts
@[simp] theorem ids_lAlts_l (k : Nat) (l : List LAlt) : idsS (inL k) (l.map lAlt) := Q6d _ (fun _ => trivial) l
@[simp] theorem Qe4 (l : List LAlt) : idsS isO (l.map lAlt) := Q6d _ (fun _ => trivial) l
@[simp] theorem ids_bC_l (k : Nat) (nb : Nb) (l : List Int) : (bC nb l).ids (inL k) := Qcx _ (fun _ => trivial) nb l
@[simp] theorem ids_bC_o (nb : Nb) (l : List Int) : (bC nb l).ids isO := Qcx _ (fun _ => trivial) nb l
@[simp] theorem Qcc (ρ : Nat -> Nat) (l : List LTr) : renS ρ (kC l) = kC l := Q20 ρ _ (Qg3 l)
@[simp] theorem Qcb (ρ : Nat -> Nat) (l : List LAlt) : renS ρ (l.map lAlt) = l.map lAlt := Q20 ρ _ (Qe4 l)
@[simp] theorem ren_bC (ρ : Nat -> Nat) (nb : Nb) (l : List Int) : (bC nb l).ren ρ = bC nb l := by cases nb <;> simp [bC, AC.ren, Abs.Id.ren]
theorem NewO.add {ou : Outer} {k : Nat} {o : AObj} (hk : ∀ m, k <= m -> ou m = none) (hou : OuOk ou) (ho : o.ids isO) : NewO ou (ouAdd ou k [o]) [(k, o)] := by
 refine ⟨fun p hp => ?_, fun j hj => ?_, fun m hm => ?_, Qfk hou fun q hq => by simp at hq; subst hq; exact ho, by simp [keys]⟩
 ·simp at hp; subst hp
  exact Q2m 0
 ·simp [keys] at hj; subst hj; exact hk _ (Nat.le_refl _)
 ·simp [keys] at hm
  rcases Nat.lt_or_ge m k with h1 | h1
  ·exact Q38 h1
  ·obtain ⟨p, rfl⟩ : ∃ p, m = k + p := ⟨m - k, by omega⟩
   rw [Q2m, hk _ h1]
   cases p with
   | zero => simp at hm
   | succ p => simp
def GrowQ (e : List Ex) (ou : Outer) (r : FV) (ou' : Outer) : Prop := ∃ t : LTr, r = .one (.ptr (.o t.id) 0) /\ erT t = grow e /\ okL t /\ Owns ou' (objs t) /\ (keys (objs t)).Nodup /\ (∀ k ∈ keys (objs t), ou k = none) /\ OuOk ou' /\ ∀ j o, ou j = some o -> ou' j = some o
set_option maxHeartbeats 1000000 in
theorem Qm8 (hΓ : ∀ g cs, (g, cs) ∈ Γ -> idsL isO cs) (e : List Ex) (he : okE e) (hin : Q0k e) (hT : IsTree e) (ou : Outer) : AFn Tryz.prog Γ 54 [.one (.sl 5 (e.map cEx))] ou (GrowQ e ou) := by
 have hel := he.l
 refine AFn.walk 85 tabOk Tryz.func54 rfl (by kernel_rfl) rfl rfl fun hou => ?_
 refine zA ?_
 have hb : ti81.bytes * (e.map cEx).length <= 281474976710656 := by simp; show 8 * _ <= _; omega
 have hb2 : (e.map cEx).length <= 281474976710656 := by simp; omega
 refine zS (AStep.makeArr tabOk rfl rfl rfl rfl rfl rfl rfl rfl hb hb2) ?_
 refine zA ?_
 refine ACode.loopR hΓ (α := Nat × List LTr × Outer) (fun c => [(16, .one (int c.1)), (15, .one (int (e.map cEx).length)), (14, .one (.sl 5 (e.map cEx))), (3, .one (.arr (.l 0) 1 0 (e.map cEx).length (e.map cEx).length)), (0, .one (.sl 5 (e.map cEx)))])
  (fun c => ⟨1, [(0, .cells (Q14 c.2.1 (e.map cEx).length))], c.2.2⟩) (fun m c => c.1 <= e.length /\ (LinkL (e.take c.1) c.2.1 /\ NewO ou c.2.2 (c.2.1.flatMap ownO)) /\ m = e.length - c.1) (a0 := (0, [], ou)) (ρ := id) ⟨by omega, ⟨LinkL.nil, .nil hou⟩, rfl⟩
  (LessR.of rfl zFS (by simp) (LoSub.cons rfl (by rw [AObj.ren_pure _ _ (by simp)]; show AObj.cells (List.replicate _ _) = AObj.cells (Q14 [] _); rw [Qh2]) rfl (by simp) .nil) rfl rfl hou) fun m c hc => ?_
 obtain ⟨j, lts, ov⟩ := c
 obtain ⟨hjl, ⟨hL, hN⟩, rfl⟩ := hc
 dsimp only at hjl hL hN
 have hov := hN.ok
 refine zA ?_
 refine ACode.cond rfl (fun hb2 => ?_) (fun hb2 => ?_)
 ·have hlt : j < e.length := by simpa using hb2
  obtain ⟨x, hx⟩ := Q01 hlt
  have hxo := he.x x (List.mem_of_getElem? hx)
  have hxk := hxo.k
  have hxa := hxo.a
  have hxin := hin j x hx
  have hgl : lts.length = j := by rw [hL.len]; simp; omega
  refine zA ?_
  refine zS (zIA rfl rfl rfl (by omega) (Q06 hx)) ?_
  refine zA ?_
  refine ACode.drawC tabOk 9 [6, 7, 8] [] (fun vs σ => match vs with
    | [] => σ = ⟨2, [(1, .cells (cEx x)), (1, .cells (ti57.zero.map .lit)), (0, .cells (Q14 lts (e.map cEx).length))], ov⟩
    | [a] => ∃ nb ow, ownB nb x.binds /\ NewO ov ow (bO nb x.binds) /\ a = .one (bC nb x.binds) /\ σ = ⟨2, [(1, .cells (cEx x)), (1, .cells (ti57.zero.map .lit)), (0, .cells (Q14 lts (e.map cEx).length))], ow⟩
    | [a, b] => ∃ nb ow, ownB nb x.binds /\ NewO ov ow (bO nb x.binds) /\ a = .one (bC nb x.binds) /\ b = .agg [int x.op, int x.n, bC nb x.binds, .lit (.slice none 0 0), .lit (.slice none 0 0)] /\ σ = ⟨2, [(1, .cells (cEx x)), (1, .cells (ti57.zero.map .lit)), (0, .cells (Q14 lts (e.map cEx).length))], ow⟩
    | [a, b, c] => ∃ nb ow, ownB nb x.binds /\ NewO ov ow (bO nb x.binds) /\ a = .one (bC nb x.binds) /\ b = .agg [int x.op, int x.n, bC nb x.binds, .lit (.slice none 0 0), .lit (.slice none 0 0)] /\ c = .one (.ptr (.l 2) 0) /\ σ = ⟨3, [(2, .cells [int x.op, int x.n, bC nb x.binds, .lit (.slice none 0 0), .lit (.slice none 0 0)]), (1, .cells (cEx x)), (1, .cells (ti57.zero.map .lit)), (0, .cells (Q14 lts (e.map cEx).length))], ow⟩
    | _ => False) follows (by kernel_rfl) rfl rfl (by decide) (by kernel_rfl) (by kernel_rfl) rfl rfl ?_ (fun _ _ _ => .nil) (by decide) ?_ ?_
  ·rintro vs σ hG
   match vs, hG with
   | [], hG => subst hG; rfl
   | [a], hG => obtain ⟨nb, ow, _, _, _, rfl⟩ := hG; rfl
   | [a, b], hG => obtain ⟨nb, ow, _, _, _, _, rfl⟩ := hG; rfl
   | [a, b, c], hG => obtain ⟨nb, ow, _, _, _, _, _, rfl⟩ := hG; rfl
  ·rintro vs σ hG i o hi ho
   match vs, hG with
   | [], hG =>
    subst hG
    cases hi
    cases ho
    refine ⟨rfl, rfl, .inr ⟨rfl, Q0u.call hΓ rfl rfl rfl rfl (by simp) hov (Qdj x.binds hxo.b ov) fun r ow hq _ _ => ?_⟩⟩
    obtain ⟨nb, h1, rfl, h2⟩ := hq
    exact ⟨nb, ow, h1, h2, rfl, rfl⟩
   | [a], hG =>
    obtain ⟨nb, ow, h1, h2, rfl, rfl⟩ := hG
    cases hi
    cases ho
    exact ⟨rfl, rfl, .inl ⟨_, _, HStep.auto tabOk rfl, nb, ow, h1, h2, rfl, rfl, rfl⟩⟩
   | [a, b], hG =>
    obtain ⟨nb, ow, h1, h2, rfl, rfl, rfl⟩ := hG
    cases hi
    cases ho
    exact ⟨rfl, rfl, .inl ⟨_, _, HStep.auto tabOk rfl, nb, ow, h1, h2, rfl, rfl, rfl, rfl⟩⟩
   | [a, b, c], hG => cases hi
  rintro vs σ hlen hG
  match vs, hlen, hG with
  | [a, b, c], _, hG =>
  obtain ⟨nb, ow, hnb, hNb, rfl, rfl, rfl, rfl⟩ := hG
  have how := hNb.ok
  refine zA ?_
  refine ACode.grow 2 3 81 1 rfl rfl ?_
  refine ACode.loopR hΓ (α := Nat) (fun i => [(33, .one (int i)), (32, .one (int (x.kids.map cI).length)), (31, .one (.sl 1 (x.kids.map cI))), (6, .one (.ptr (.l 2) 0)), (5, .one (.ptr (.l 1) 0)), (4, .one (int j)), (16, .one (int j)), (15, .one (int (e.map cEx).length)), (14, .one (.sl 5 (e.map cEx))), (3, .one (.arr (.l 0) 1 0 (e.map cEx).length (e.map cEx).length)), (0, .one (.sl 5 (e.map cEx)))])
   (fun i => ⟨4, [(3, .tok 81 1 i), (2, .cells [int x.op, int x.n, bC nb x.binds, .gs 1 (kC (kidsL lts (x.kids.take i))) (.l 3), .lit (.slice none 0 0)]), (1, .cells (cEx x)), (0, .cells (Q14 lts (e.map cEx).length))], ow⟩)
   (fun m i => i <= x.kids.length /\ m = x.kids.length - i) (a0 := 0) (ρ := id) ⟨by omega, rfl⟩ (LessR.of rfl zFS (by simp) ?_ rfl rfl how) fun m i hi => ?_
  ·repeat' first | exact LoSub.nil | refine zlc ?_ | refine zld ?_ ?_ | rfl
   all_goals (simp [AObj.ren, renL, AC.ren, kidsL]; exact ⟨rfl, rfl⟩)
  obtain ⟨hil, rfl⟩ := hi
  refine zA ?_
  refine ACode.cond rfl (fun hb3 => ?_) (fun hb3 => ?_)
  ·have hlt2 : i < x.kids.length := by simpa using hb3
   obtain ⟨k, hk⟩ := Q01 hlt2
   have hkb := hxin k (List.mem_of_getElem? hk)
   obtain ⟨k', rfl⟩ : ∃ k' : Nat, k = k' := ⟨k.toNat, by omega⟩
   obtain ⟨tk, htk⟩ := Q01 (l := lts) (i := k') (by omega)
   have htd : (lts).getD (k' : Int).toNat default = tk := by rw [Int.toNat_natCast, List.getD_eq_getElem?_getD, htk]; rfl
   have hks := Qa2 (ts := lts) hk
   rw [htd] at hks
   have hkl : (kC (kidsL lts (x.kids.take i))).length = i := by simp [kC, kidsL]; omega
   refine zA ?_
   refine zS (zIA rfl rfl rfl (by omega) (Q06 hk)) ?_
   refine zA ?_
   refine ACode.drawXH (va := .one (.gs 1 (kC (kidsL lts (x.kids.take i)) ++ [[AC.ptr (.o tk.id) 0]]) (.l 4))) (σ1 := ((St.mk 4 [(3, .tok 81 1 i), (2, .cells [int x.op, int x.n, bC nb x.binds, .gs 1 (kC (kidsL lts (x.kids.take i))) (.l 3), .lit (.slice none 0 0)]), (1, .cells (cEx x)), (0, .cells (Q14 lts (e.map cEx).length))] ow).set (.l 3) .dead).push (.tok 81 1 (kC (kidsL lts (x.kids.take i)) ++ [[AC.ptr (.o tk.id) 0]]).length))
    tabOk 11 10 [(7, .one (.ptr (.l 0) k')), (8, .one (.ptr (.o tk.id) 0))] follows (by kernel_rfl) rfl rfl rfl rfl rfl rfl rfl ?_ ?_ ?_ ?_
   ·refine HStep.plain rfl (AStep.append (s := 1) (es := kC (kidsL lts (x.kids.take i))) (news := [[AC.ptr (.o tk.id) 0]]) (ti := ti103) (σ := ⟨4, [(3, .tok 81 1 i), (2, .cells [int x.op, int x.n, bC nb x.binds, .gs 1 (kC (kidsL lts (x.kids.take i))) (.l 3), .lit (.slice none 0 0)]), (1, .cells (cEx x)), (0, .cells (Q14 lts (e.map cEx).length))], ow⟩) tabOk rfl rfl rfl rfl rfl rfl (Base.gs' _ 81 1 (kC (kidsL lts (x.kids.take i))) (.l 3) rfl hkl.symm) (.sl _ _) rfl ?_ ?_)
    ·rw [hkl]; show (i + 1) * 8 <= _; omega
    ·rw [hkl]; show i + 1 <= _; omega
   ·refine .step rfl (zHP (idxI tabOk rfl rfl rfl rfl rfl rfl rfl (by simp; omega))) ?_
    exact .step rfl (zHP (zLD rfl rfl rfl (Q71 htk))) .nil
   ·refine .step rfl (zHP (idxI tabOk rfl rfl rfl rfl rfl rfl rfl (by simp; omega))) ?_
    exact .step rfl (zHP (zLD rfl rfl rfl (Q71 htk))) .nil
   refine zM ?_
   refine cInv ⟨x.kids.length - (i + 1), i + 1, fun k => if k = 3 then 4 else k, by omega, ⟨by omega, rfl⟩, LessR.of rfl zFS (by simp) ?_ rfl rfl how⟩
   repeat' first | exact LoSub.nil | refine zlc ?_ | refine zld ?_ ?_ | rfl
   ·simp only [AObj.ren, List.length_append, hkl]; rfl
   ·rw [hks, Qb9]; simp only [AObj.ren, renL, AC.ren, ren_bC]; rw [← Qb9, Qcc]; rfl
  have hlt2 : i = x.kids.length := by simp at hb3; omega
  subst hlt2
  rw [List.take_length]
  refine zA ?_
  refine ACode.grow 2 4 46 2 rfl rfl ?_
  refine ACode.loopR hΓ (α := Nat × Outer × List LAlt) (fun c => [(54, .one (int c.1)), (53, .one (int (x.alts.map cAlt).length)), (52, .one (.sl 2 (x.alts.map cAlt))), (6, .one (.ptr (.l 2) 0)), (4, .one (int j)), (16, .one (int j)), (15, .one (int (e.map cEx).length)), (14, .one (.sl 5 (e.map cEx))), (3, .one (.arr (.l 0) 1 0 (e.map cEx).length (e.map cEx).length)), (0, .one (.sl 5 (e.map cEx)))])
   (fun c => ⟨5, [(4, .tok 46 2 c.1), (2, .cells [int x.op, int x.n, bC nb x.binds, .gs 1 (kC (kidsL lts x.kids)) (.l 3), .gs 2 (c.2.2.map lAlt) (.l 4)]), (0, .cells (Q14 lts (e.map cEx).length))], c.2.1⟩)
   (fun m c => c.1 <= x.alts.length /\ (c.2.2.map LAlt.er = x.alts.take c.1 /\ (∀ y ∈ c.2.2, ownB y.nb y.binds) /\ NewO ow c.2.1 (aO c.2.2)) /\ m = x.alts.length - c.1) (a0 := (0, ow, [])) (ρ := id) ⟨by omega, ⟨rfl, by simp, .nil how⟩, rfl⟩ (LessR.of rfl zFS (by simp) ?_ rfl rfl how) fun m c hc => ?_
  ·repeat' first | exact LoSub.nil | refine zlc ?_ | refine zld ?_ ?_ | rfl
   all_goals (simp [AObj.ren, renL, AC.ren]; exact ⟨rfl, rfl⟩)
  obtain ⟨i, oy, la⟩ := c
  obtain ⟨hil, ⟨hla, hlo, hNa⟩, rfl⟩ := hc
  dsimp only at hil hla hlo hNa
  have hoy := hNa.ok
  have hll : la.length = i := by have := congrArg List.length hla; simp at this; omega
  have hal : (la.map lAlt).length = i := by simp [hll]
  refine zA ?_
  refine ACode.cond rfl (fun hb3 => ?_) (fun hb3 => ?_)
  ·have hlt2 : i < x.alts.length := by simpa using hb3
   obtain ⟨a, ha⟩ := Q01 hlt2
   refine zA ?_
   refine zS (zIA rfl rfl rfl (by omega) (Q06 ha)) ?_
   refine zA ?_
   refine ACode.drawC tabOk 13 [9, 10, 11, 12] [] (fun vs σ => match vs with
     | [] => σ = ⟨6, [(5, .cells (cAlt a)), (5, .cells (ti46.zero.map .lit)), (4, .tok 46 2 i), (2, .cells [int x.op, int x.n, bC nb x.binds, .gs 1 (kC (kidsL lts x.kids)) (.l 3), .gs 2 (la.map lAlt) (.l 4)]), (0, .cells (Q14 lts (e.map cEx).length))], oy⟩
     | [q1] => ∃ nc oz, ownB nc a.binds /\ NewO oy oz (bO nc a.binds) /\ q1 = .one (bC nc a.binds) /\ σ = ⟨6, [(5, .cells (cAlt a)), (5, .cells (ti46.zero.map .lit)), (4, .tok 46 2 i), (2, .cells [int x.op, int x.n, bC nb x.binds, .gs 1 (kC (kidsL lts x.kids)) (.l 3), .gs 2 (la.map lAlt) (.l 4)]), (0, .cells (Q14 lts (e.map cEx).length))], oz⟩
     | [q1, q2] => ∃ nc oz, ownB nc a.binds /\ NewO oy oz (bO nc a.binds) /\ q1 = .one (bC nc a.binds) /\ q2 = .agg [int a.tag, bC nc a.binds] /\ σ = ⟨6, [(5, .cells (cAlt a)), (5, .cells (ti46.zero.map .lit)), (4, .tok 46 2 i), (2, .cells [int x.op, int x.n, bC nb x.binds, .gs 1 (kC (kidsL lts x.kids)) (.l 3), .gs 2 (la.map lAlt) (.l 4)]), (0, .cells (Q14 lts (e.map cEx).length))], oz⟩
     | [q1, q2, q3] => ∃ nc oz, ownB nc a.binds /\ NewO oy oz (bO nc a.binds) /\ q1 = .one (bC nc a.binds) /\ q2 = .agg [int a.tag, bC nc a.binds] /\ q3 = .one (.sl 2 [[int a.tag, bC nc a.binds]]) /\ σ = ⟨6, [(5, .cells (cAlt a)), (5, .cells (ti46.zero.map .lit)), (4, .tok 46 2 i), (2, .cells [int x.op, int x.n, bC nb x.binds, .gs 1 (kC (kidsL lts x.kids)) (.l 3), .gs 2 (la.map lAlt) (.l 4)]), (0, .cells (Q14 lts (e.map cEx).length))], oz⟩
     | [q1, q2, q3, q4] => ∃ nc oz, ownB nc a.binds /\ NewO oy oz (bO nc a.binds) /\ q1 = .one (bC nc a.binds) /\ q2 = .agg [int a.tag, bC nc a.binds] /\ q3 = .one (.sl 2 [[int a.tag, bC nc a.binds]]) /\ q4 = .one (.gs 2 (la.map lAlt ++ [[int a.tag, bC nc a.binds]]) (.l 6)) /\ σ = ⟨7, [(6, .tok 46 2 (la.map lAlt ++ [[int a.tag, bC nc a.binds]]).length), (4, .dead), (5, .cells (cAlt a)), (5, .cells (ti46.zero.map .lit)), (4, .tok 46 2 i), (2, .cells [int x.op, int x.n, bC nb x.binds, .gs 1 (kC (kidsL lts x.kids)) (.l 3), .gs 2 (la.map lAlt) (.l 4)]), (0, .cells (Q14 lts (e.map cEx).length))], oz⟩
     | _ => False) follows (by kernel_rfl) rfl rfl (by decide) (by kernel_rfl) (by kernel_rfl) rfl rfl ?_ (fun _ _ _ => .nil) (by decide) ?_ ?_
   ·rintro vs σ hG
    match vs, hG with
    | [], hG => subst hG; rfl
    | [_], hG => obtain ⟨nc, oz, _, _, _, rfl⟩ := hG; rfl
    | [_, _], hG => obtain ⟨nc, oz, _, _, _, _, rfl⟩ := hG; rfl
    | [_, _, _], hG => obtain ⟨nc, oz, _, _, _, _, _, rfl⟩ := hG; rfl
    | [_, _, _, _], hG => obtain ⟨nc, oz, _, _, _, _, _, _, rfl⟩ := hG; rfl
   ·rintro vs σ hG q o hi ho
    match vs, hG with
    | [], hG =>
     subst hG
     cases hi
     cases ho
     refine ⟨rfl, rfl, .inr ⟨rfl, Q0u.call hΓ rfl rfl rfl rfl (by simp) hoy (Qdj a.binds (hxo.ab a (List.mem_of_getElem? ha)) oy) fun r oz hq _ _ => ?_⟩⟩
     obtain ⟨nc, h1, rfl, h2⟩ := hq
     exact ⟨nc, oz, h1, h2, rfl, rfl⟩
    | [_], hG =>
     obtain ⟨nc, oz, h1, h2, rfl, rfl⟩ := hG
     cases hi
     cases ho
     exact ⟨rfl, rfl, .inl ⟨_, _, HStep.auto tabOk rfl, nc, oz, h1, h2, rfl, rfl, rfl⟩⟩
    | [_, _], hG =>
     obtain ⟨nc, oz, h1, h2, rfl, rfl, rfl⟩ := hG
     cases hi
     cases ho
     exact ⟨rfl, rfl, .inl ⟨_, _, HStep.auto tabOk rfl, nc, oz, h1, h2, rfl, rfl, rfl, rfl⟩⟩
    | [_, _, _], hG =>
     obtain ⟨nc, oz, h1, h2, rfl, rfl, rfl, rfl⟩ := hG
     cases hi
     cases ho
     refine ⟨rfl, rfl, .inl ⟨_, _, HStep.plain rfl (AStep.append (s := 2) (es := la.map lAlt) (news := [[int a.tag, bC nc a.binds]]) (ti := ti47) tabOk rfl rfl rfl rfl rfl rfl (Base.gs' _ 46 2 (la.map lAlt) (.l 4) rfl hal.symm) (.sl _ _) rfl ?_ ?_), nc, oz, h1, h2, rfl, rfl, rfl, rfl, rfl⟩⟩
     ·rw [hal]; show (i + 1) * 32 <= _; omega
     ·rw [hal]; show i + 1 <= _; omega
    | [_, _, _, _], hG => cases hi
   rintro vs σ hlen hG
   match vs, hlen, hG with
   | [_, _, _, _], _, hG =>
   obtain ⟨nc, oz, hnc, hNc, rfl, rfl, rfl, rfl, rfl⟩ := hG
   refine zM ?_
   obtain ⟨la', hla'⟩ : ∃ la', la' = la ++ [⟨a.tag, nc, a.binds⟩] := ⟨_, rfl⟩
   have hlm : la.map lAlt ++ [[int a.tag, bC nc a.binds]] = la'.map lAlt := by rw [hla', List.map_append]; rfl
   refine cInv ⟨x.alts.length - (i + 1), (i + 1, oz, la'), fun k => if k = 4 then 6 else k, by omega, ⟨by omega, ⟨by rw [hla', List.map_append, hla, Q0y ha]; rfl, ?_, ?_⟩, rfl⟩, LessR.of rfl zFS (by simp) ?_ rfl rfl hNc.ok⟩
   ·intro y hy
    rw [hla'] at hy
    rcases List.mem_append.1 hy with hy | hy
    ·exact hlo y hy
    ·simp at hy; subst hy; exact hnc
   ·dsimp only
    rw [hla', aO_app, show aO [⟨a.tag, nc, a.binds⟩] = bO nc a.binds by simp [aO]]
    exact hNa.trans hNc
   ·repeat' first | exact LoSub.nil | refine zlc ?_ | refine zld ?_ ?_ | rfl
    ·simp only [AObj.ren, List.length_append, hal]; rfl
    ·simp only [hlm, AObj.ren, renL, AC.ren, ren_bC, Qcc, Qcb]; rfl
  have hlt2 : i = x.alts.length := by simp at hb3; omega
  subst hlt2
  rw [List.take_length] at hla
  refine zA ?_
  refine zS (idxI tabOk rfl rfl rfl rfl rfl rfl rfl (by simp; omega)) ?_
  refine AOps.wkObj (.l 2) rfl (cs' := [int x.op, int x.n, bC nb x.binds, .sl 1 (kC (kidsL lts x.kids)), .sl 2 (la.map lAlt)]) (fun w C xs h => ?_) ?_
  ·exact (show WkL _ _ from .cons (.refl _) (.cons (.refl _) (.cons (.refl _) (.cons (.gsE rfl) (.cons (.gsE rfl) .nil))))) w C xs h
  have hθ : ∀ (k : Nat) (i : Abs.Id), isO i -> toOs [2] k i = i := fun k i hi => by cases i with | l q => exact hi.elim | o q => rfl
  refine AOps.cedes [2] rfl (by decide) hoy fun k hk => ⟨[(77, .one (.ptr (.l 0) j)), (76, .one (.ptr (.o k) 0)), (16, .one (int j)), (15, .one (int (e.map cEx).length)), (14, .one (.sl 5 (e.map cEx))), (3, .one (.arr (.l 0) 1 0 (e.map cEx).length (e.map cEx).length)), (0, .one (.sl 5 (e.map cEx)))],
   [(0, .cells (Q14 lts (e.map cEx).length))], [.cells [int x.op, int x.n, bC nb x.binds, .sl 1 (kC (kidsL lts x.kids)), .sl 2 (la.map lAlt)]], ?_, ?_, ?_, ?_⟩
  ·exact .cons rfl rfl (.cons rfl rfl (.cons rfl rfl (.cons rfl rfl (.cons rfl (FV.sub_f (hθ k) _ (by simp)) (.cons rfl rfl (.cons rfl (FV.sub_f (hθ k) _ (by simp)) .nil))))))
  ·exact .cons rfl rfl (AObj.sub_f (hθ k) _ (Qcu _ _)) .nil
  ·exact .cons rfl (AObj.sub_f (hθ k) _ (Q7v _ _ _ _ _ _)) .nil
  have hN1 := NewO.add hk hoy (Q7v x.op x.n nb x.binds (kidsL lts x.kids) la)
  have hN2 := ((hN.trans hNb).trans hNa).trans hN1
  obtain ⟨t, ht⟩ : ∃ t : LTr, t = .mk k x.op x.n nb x.binds (kidsL lts x.kids) la := ⟨_, rfl⟩
  have hto : lts.flatMap ownO ++ bO nb x.binds ++ aO la ++ [(k, .cells [int x.op, int x.n, bC nb x.binds, .sl 1 (kC (kidsL lts x.kids)), .sl 2 (la.map lAlt)])] = (lts ++ [t]).flatMap ownO := by
   rw [List.flatMap_append, ht]
   simp [ownO, List.append_assoc]
  rw [hto] at hN2
  have hL2 := hL.snoc (Qa3 (by rw [List.take_append_drop]; exact hin)) (x := x) (fun q hq => by have := hxin q hq; simp; omega) (id := k) hla hnb hlo
  rw [← Q0y hx, show LTr.mk k x.op x.n nb x.binds (x.kids.map fun q => lts.getD q.toNat default) la = t by rw [ht]; rfl] at hL2
  refine AOps.storeOwn tabOk rfl rfl rfl rfl rfl rfl rfl rfl (by rw [Qh3 (by simp [hgl]; omega)]; simp; omega) ?_
  have hst := Qh1 (ts := lts) (n := (e.map cEx).length) (by simp [hgl]; omega) t
  rw [hgl, show t.id = k by rw [ht]; rfl] at hst
  rw [hst]
  refine zM ?_
  exact cInv ⟨e.length - (j + 1), (j + 1, lts ++ [t], _), id, by omega, ⟨by omega, ⟨hL2, hN2⟩, rfl⟩, LessR.of rfl zFS (by simp) zLO rfl rfl hN2.ok⟩
 ·have hlt : j = e.length := by simp at hb2; omega
  subst hlt
  rw [List.take_length] at hL
  obtain ⟨N, hNe⟩ : ∃ N, e.length = N + 1 := ⟨e.length - 1, by have := List.length_pos_iff.2 hT.ne; omega⟩
  obtain ⟨t, ht⟩ := Q01 (l := lts) (i := N) (by rw [hL.len]; omega)
  have hnt : e.length - 1 = N := by omega
  refine zM ?_
  refine AOps.wk 82 rfl (y := .one (int (N : Nat))) (.ofEq (by congr 3; simp; omega)) ?_
  refine zS (idxI tabOk rfl rfl rfl rfl rfl rfl rfl (by simp; omega)) ?_
  refine zS (zLD rfl rfl rfl (Q71 ht)) ?_
  refine zA ?_
  have hown := hL.own hin _ N t (Nat.lt_succ_self _) ht
  refine AFn.fin' rfl (WkF.ofEq rfl) (by simp [AC.ids]) hov ⟨t, rfl, ?_, ?_, ?_, ?_, ?_, hov, ?_⟩
  ·rw [hL.er hin _ N t (Nat.lt_succ_self _) ht]
   unfold grow Q08; rw [hnt]
  ·exact hL.ok hin (fun x hx => ⟨(he.x x hx).b, (he.x x hx).k, (he.x x hx).a, (he.x x hx).ab⟩) _ N t (Nat.lt_succ_self _) ht
  ·exact fun p hp => hN.own p (hown p hp)
  ·exact hL.nodup hT hN.nd (by rw [hnt]; exact ht)
  ·intro k hk
   obtain ⟨p, hp, rfl⟩ := List.mem_map.1 hk
   exact hN.new p.1 (List.mem_map_of_mem (hown p hp))
  ·intro m o hm
   show ov m = some o
   rw [hN.old m fun hmk => by have := hN.new m hmk; rw [hm] at this; cases this]
   exact hm
end Go.Proofs.YtpaonemmbhbgoaaGreatDoor
namespace Go.CoreX
def rnTA (nm : Nm) (f : Int) : List Alt -> List Alt × Nm × Int
 | [] => ([], nm, f)
 | x :: l => (⟨x.tag, frB f x.binds⟩ :: (rnTA (frN nm f x.binds) (f + x.binds.length) l).1, (rnTA (frN nm f x.binds) (f + x.binds.length) l).2)
mutual
def rnT (nm : Nm) (f : Int) : Tr -> Tr × Nm × Int
 | .mk o n b k a =>
  let s1 := ren1 o nm f b
  let s2 := rnTA s1.2.1 s1.2.2 a
  let s3 := rnTs s2.2.1 s2.2.2 k
  (.mk o (if o = 0 then (nm n).getD n else n) s1.1 s3.1 s2.1, s3.2)
def rnTs (nm : Nm) (f : Int) : List Tr -> List Tr × Nm × Int
 | [] => ([], nm, f)
 | t :: l => ((rnT nm f t).1 :: (rnTs (rnT nm f t).2.1 (rnT nm f t).2.2 l).1, (rnTs (rnT nm f t).2.1 (rnT nm f t).2.2 l).2)
end
def nbLab (l : Lab) : Int := (if l.op = 9 then 0 else l.binds.length : Nat) + ((l.alts.map fun x => x.binds.length).sum : Nat)
def nbE (e : List Ex) : Int := sumT nbLab (grow e)
def renewE (e : List Ex) (f : Int) : List Ex × Int :=
 if check e ≠ 0 then ([], check e) else if f < 0 ∨ 1048576 < f then ([], 4) else if 1048576 < (rnT (fun _ => none) f (grow e)).2.2 then ([], 4) else (listT [] (rnT (fun _ => none) f (grow e)).1, 0)
-- The shape stays.
theorem Qfa (o : Int) (nm : Nm) (f : Int) (b : List Int) : (ren1 o nm f b).1.length = b.length := by
 unfold ren1; split
 ·rfl
 ·exact Qk0 f b
theorem Qf8 : ∀ (l : List Alt) (nm : Nm) (f : Int), (rnTA nm f l).1.map (fun x => x.binds.length) = l.map fun x => x.binds.length
 | [], _, _ => rfl
 | x :: l, nm, f => by simp only [rnTA, List.map_cons, Qk0, Qf8 l]
theorem Qeb {l r : List Alt} (h : l.map (fun x => x.binds.length) = r.map fun x => x.binds.length) : (l.flatMap (·.binds)).length = (r.flatMap (·.binds)).length := by
 simp only [List.length_flatMap]; exact congrArg List.sum h
theorem mem_len {l r : List Alt} (h : l.map (fun x => x.binds.length) = r.map fun x => x.binds.length) {c : Nat} (hr : ∀ x ∈ r, x.binds.length <= c) : ∀ x ∈ l, x.binds.length <= c := fun x hx => by
 have : x.binds.length ∈ r.map fun x => x.binds.length := by rw [← h]; exact List.mem_map_of_mem (f := fun x : Alt => x.binds.length) hx
 obtain ⟨y, hy, e⟩ := List.mem_map.1 this
 rw [← e]; exact hr y hy
mutual
theorem Qig : ∀ (t : Tr) (nm : Nm) (f : Int), cntN (rnT nm f t).1 = cntN t
 | .mk o n b k a, nm, f => by simp only [rnT, cntN, Qf7 k]
theorem Qf7 : ∀ (l : List Tr) (nm : Nm) (f : Int), cntNs (rnTs nm f l).1 = cntNs l
 | [], _, _ => rfl
 | t :: l, nm, f => by simp only [rnTs, cntNs, Qig t, Qf7 l]
end
end Go.CoreX
namespace Go.Proofs.YtpaonemmbhbgoaaGreatDoor
open Go Go.Abs Go.CoreX
variable {Γ : List (Nat × List AC)}
end Go.Proofs.YtpaonemmbhbgoaaGreatDoor
namespace Go.CoreX
-- What holds of all nodes.
mutual
def allT (p : Lab -> Prop) : Tr -> Prop
 | .mk o n b k a => p ⟨o, n, b, k.map Tr.op, a⟩ /\ allTs p k
def allTs (p : Lab -> Prop) : List Tr -> Prop
 | [] => True
 | t :: l => allT p t /\ allTs p l
end
theorem Q3x {p : Lab -> Prop} : ∀ {l : List Tr}, allTs p l ↔ ∀ t ∈ l, allT p t
 | [] => by simp [allTs]
 | t :: l => by simp [allTs, Q3x (l := l)]
theorem Qkg {e : List Ex} (hk : Q0k e) {p : Lab -> Prop} (h : ∀ x ∈ e, p (labE e x)) : ∀ (n i : Nat), i < n -> i < e.length -> allT p (Q08 e i)
 | 0, i, hi, _ => by omega
 | n + 1, i, hi, hl => by
  obtain ⟨x, hx⟩ : ∃ x, e[i]? = some x := ⟨e[i], List.getElem?_eq_getElem hl⟩
  rw [Q1n hk hx]
  refine ⟨?_, Q3x.2 fun t ht => ?_⟩
  ·have := h x (List.mem_of_getElem? hx)
   simp only [labE] at this
   simp only [List.map_map]
   exact this
  ·obtain ⟨q, hq, rfl⟩ := List.mem_map.1 ht
   have := hk i x hx q hq
   exact Qkg hk h n q.toNat (by omega) (by omega)
theorem Qdf {e : List Ex} (h : IsTree e) {p : Lab -> Prop} (hp : ∀ x ∈ e, p (labE e x)) : allT p (grow e) := by
 have := List.length_pos_iff.2 h.ne
 exact Qkg h.k hp _ (e.length - 1) (Nat.lt_succ_self _) (by omega)
structure shLab (l : Lab) : Prop where
 b : l.op = 2 ∨ l.op = 4 ∨ l.op = 5 ∨ l.op = 9 ∨ l.binds = []
 v : l.op = 0 -> l.alts = [] /\ l.ops = []
theorem rnTA_l : ∀ (a : List Alt) (nm : Nm) (f : Int), (rnTA nm f a).1.length = a.length
 | [], _, _ => rfl
 | x :: l, nm, f => by simp [rnTA, rnTA_l l]
def nmAt (o : Int) (nm : Nm) (f : Int) (b : List Int) (a : List Alt) : Nm × Int := (rnTA (ren1 o nm f b).2.1 (ren1 o nm f b).2.2 a).2
theorem rnT_op (t : Tr) (nm : Nm) (f : Int) : (rnT nm f t).1.op = t.op := by cases t; rfl
theorem Qf6 : ∀ (l : List Tr) (nm : Nm) (f : Int), (rnTs nm f l).1.map Tr.op = l.map Tr.op
 | [], _, _ => rfl
 | t :: l, nm, f => by simp only [rnTs, List.map_cons, rnT_op, Qf6 l]
end Go.CoreX
namespace Go.CoreX
structure ShN (o n : Int) (b : List Int) (k : Nat) (a : List Alt) : Prop where
 sh : ∃ ops : List Int, ops.length = k /\ shape ⟨o, n, b, ops, a⟩ = true
section
variable {o n : Int} {b : List Int} {k : Nat} {a : List Alt}
theorem ShN.want (h : ShN o n b k a) (h7 : ¬ (o = 7 ∨ o = 13)) : ∃ w : Int × Int × Bool, (∃ ops : List Int, ops.length = k /\ wants ⟨o, n, b, ops, a⟩ = some w) /\ (k : Int) = w.1 /\ (b.length : Int) = w.2.1 /\ a = [] := by
 obtain ⟨ops, hl, h⟩ := h.sh
 unfold shape at h
 rw [if_neg h7] at h
 split at h
 ·cases h
 ·rename_i kk bb u hw
  simp only [Bool.and_eq_true, beq_iff_eq, List.length_eq_zero_iff] at h
  exact ⟨_, ⟨ops, hl, hw⟩, by rw [← hl]; exact h.1.1.1, h.1.1.2, h.1.2⟩
theorem ShN.lam (h : ShN 2 n b k a) : k = 1 /\ a = [] := by
 obtain ⟨w, ⟨ops, hl, hw⟩, h1, h2, h3⟩ := h.want (by omega)
 cases hw; exact ⟨by simp at h1; omega, h3⟩
theorem ShN.app (h : ShN 3 n b k a) : 1 <= k /\ b = [] /\ a = [] := by
 obtain ⟨w, ⟨ops, hl, hw⟩, h1, h2, h3⟩ := h.want (by omega)
 cases hw
 refine ⟨?_, List.length_eq_zero_iff.1 (by simp at h2; simp [h2]), h3⟩
 simp only at h1; split at h1 <;> omega
theorem ShN.lett (h : ShN 4 n b k a) : k = 2 /\ b.length = 1 /\ a = [] := by
 obtain ⟨w, ⟨ops, hl, hw⟩, h1, h2, h3⟩ := h.want (by omega)
 cases hw; exact ⟨by simp at h1; omega, by simp at h2; omega, h3⟩
theorem ShN.recs (h : ShN 5 n b k a) : k = b.length + 1 /\ 1 <= b.length /\ a = [] := by
 obtain ⟨w, ⟨ops, hl, hw⟩, h1, h2, h3⟩ := h.want (by omega)
 cases hw
 refine ⟨by simp at h1; omega, ?_, h3⟩
 simp only at h2; split at h2 <;> omega
theorem ShN.prim (h : ShN 8 n b k a) : 0 <= n /\ n <= 11 /\ (k : Int) = Q4c.getD n.toNat 0 /\ b = [] /\ a = [] := by
 obtain ⟨w, ⟨ops, hl, hw⟩, h1, h2, h3⟩ := h.want (by omega)
 have hw : (if between n 0 11 = true then some (Q4c.getD n.toNat 0, (0 : Int), true) else none) = some w := hw
 split at hw
 ·rename_i hb
  cases hw
  simp [between] at hb
  exact ⟨hb.1, hb.2, h1, List.length_eq_zero_iff.1 (by simp at h2; simp [h2]), h3⟩
 ·cases hw
theorem ShN.row (h : ShN 9 n b k a) : k = b.length /\ a = [] := by
 obtain ⟨w, ⟨ops, hl, hw⟩, h1, h2, h3⟩ := h.want (by omega)
 cases hw; exact ⟨by simp at h1; omega, h3⟩
theorem ShN.one (h : ShN o n b k a) (ho : o = 10 ∨ o = 12 ∨ o = 16) : k = 1 /\ b = [] /\ a = [] := by
 obtain ⟨w, ⟨ops, hl, hw⟩, h1, h2, h3⟩ := h.want (by omega)
 rcases ho with rfl | rfl | rfl <;> (cases hw; exact ⟨by simp at h1; omega, List.length_eq_zero_iff.1 (by simp at h2; simp [h2]), h3⟩)
theorem ShN.two (h : ShN 11 n b k a) : k = 2 /\ b = [] /\ a = [] := by
 obtain ⟨w, ⟨ops, hl, hw⟩, h1, h2, h3⟩ := h.want (by omega)
 cases hw; exact ⟨by simp at h1; omega, List.length_eq_zero_iff.1 (by simp at h2; simp [h2]), h3⟩
theorem ShN.alts7 (h : ShN o n b k a) (ho : o = 7 ∨ o = 13) : k = 1 + a.length /\ b = [] /\ (o = 13 -> 1 <= a.length) /\ ∀ i x, a[i]? = some x -> Q4e ⟨o, n, b, [], a⟩ i x = false := by
 obtain ⟨ops, hl, h⟩ := h.sh
 unfold shape at h
 rw [if_pos ho] at h
 simp only [Bool.and_eq_true, beq_iff_eq, List.length_eq_zero_iff] at h
 obtain ⟨⟨h1, h2⟩, h3⟩ := h
 unfold Q5h at h1
 simp only [Bool.and_eq_true, Bool.not_eq_true', beq_iff_eq, Bool.or_eq_true, decide_eq_true_eq] at h1
 obtain ⟨h4, h5, h6⟩ := h1
 refine ⟨by omega, h2, fun h13 => ?_, fun i x hx => ?_⟩
 ·rcases h6 with h6 | h6
  ·subst h13; cases h6
  ·omega
 ·rw [List.any_eq_false] at h4
  have := h4 (x, i) (by rw [List.mk_mem_zipIdx_iff_getElem?]; exact hx)
  simpa [Q4e] using this
theorem ShN.case (h : ShN 7 n b k a) : k = 1 + a.length /\ b = [] := ⟨(h.alts7 (.inl rfl)).1, (h.alts7 (.inl rfl)).2.1⟩
theorem ShN.handle (h : ShN 13 n b k a) : k = 1 + a.length /\ b = [] /\ 1 <= a.length /\ ∀ i x, a[i]? = some x -> (i = 0 ↔ x.tag = -1) /\ x.binds.length = if i = 0 then 1 else 2 := by
 obtain ⟨h1, h2, h3, h4⟩ := h.alts7 (.inr rfl)
 refine ⟨h1, h2, h3 rfl, fun i x hx => ?_⟩
 have := h4 i x hx
 simp only [Q4e, Bool.or_eq_false_iff, Bool.and_eq_false_iff, Bool.not_eq_false', beq_iff_eq, beq_eq_false_iff_ne] at this
 obtain ⟨_, h5, h6⟩ := this
 refine ⟨?_, ?_⟩
 ·rcases h5 with h5 | h5
  ·exact absurd rfl h5
  ·by_cases hi : i = 0
   ·subst hi; simpa using h5
   ·have : ((i : Int) == 0) = false := by simp [hi]
    rw [this] at h5
    simp [hi] at h5 ⊢; exact h5
 ·rcases h6 with h6 | h6
  ·exact absurd rfl h6
  ·split at h6
   ·rw [if_neg (by omega)]; omega
   ·rename_i hh
    have : i = 0 ∨ i = 1 := by omega
    rcases this with rfl | rfl <;> simp <;> omega
theorem ShN.leaf (h : ShN o n b k a) (ho : o = 0 ∨ o = 1 ∨ o = 17) : k = 0 /\ b = [] /\ a = [] := by
 obtain ⟨w, ⟨ops, hl, hw⟩, h1, h2, h3⟩ := h.want (by omega)
 rcases ho with rfl | rfl | rfl <;> (cases hw; exact ⟨by simp at h1; omega, List.length_eq_zero_iff.1 (by simp at h2; simp [h2]), h3⟩)
end
def shpQ (l : Lab) : Prop := ShN l.op l.n l.binds l.ops.length l.alts
theorem Qia {t : Tr} (h : allT shpQ t) : ShN t.op t.n t.binds t.kids.length t.alts := by
 cases t with
 | mk o n b k a => simpa [shpQ] using h.1
theorem Qm3 {p : Lab -> Prop} {t s : Tr} (h : allT p t) (hs : s ∈ t.kids) : allT p s := by
 cases t with
 | mk o n b k a => exact Q3x.1 h.2 s hs
theorem Q31 {p : Lab -> Prop} {t : Tr} (h : allT p t) {i : Nat} (hi : i < t.kids.length) : allT p (t.kids.getD i default) := by
 rw [List.getD_eq_getElem?_getD, List.getElem?_eq_getElem hi]
 exact Qm3 h (List.getElem_mem hi)
theorem Q2j {p : Lab -> Prop} {t : Tr} (h : allT p t) : p ⟨t.op, t.n, t.binds, t.kids.map Tr.op, t.alts⟩ := by
 cases t with
 | mk o n b k a => exact h.1
mutual
theorem Qgj {p q : Lab -> Prop} (h : ∀ l, p l -> q l) : ∀ t : Tr, allT p t -> allT q t
 | .mk o n b k a, ht => ⟨h _ ht.1, Qde h k ht.2⟩
theorem Qde {p q : Lab -> Prop} (h : ∀ l, p l -> q l) : ∀ l : List Tr, allTs p l -> allTs q l
 | [], _ => trivial
 | t :: l, ht => ⟨Qgj h t ht.1, Qde h l ht.2⟩
end
theorem shpQ_of {l : Lab} (h : shape ⟨l.op, l.n, l.binds, l.ops, l.alts⟩ = true) : shpQ l := ⟨⟨l.ops, rfl, h⟩⟩
end Go.CoreX
namespace Go.CoreX
def ind (a b k : Int) : Int := if a <= k /\ k < b then 1 else 0
def cntB (k : Int) (l : Lab) : Int := ((Q0z l.op l.binds l.alts).count k : Nat)
-- Names that a tree does not bind keep their new names.
mutual
def bndT : Tr -> List Int
 | .mk o _ b k a => Q0z o b a ++ bndTs k
def bndTs : List Tr -> List Int
 | [] => []
 | t :: l => bndT t ++ bndTs l
end
end Go.CoreX
namespace Go.CoreX
def tl (a : Alt) : Int × Nat := (a.tag, a.binds.length)
def altBadP (op : Int) (L : List (Int × Nat)) (p : (Int × Nat) × Nat) : Bool :=
 ((L.take p.2).any (fun b => b.1 == p.1.1) || decide (p.1.1 < -1)) ||
 (op == 7 && p.1.1 == -1 && (decide ((p.2 : Int) < L.length - 1) || decide (0 < p.1.2))) ||
 ((op == 13 && !(((p.2 : Int) == 0) == (p.1.1 == -1))) || (op == 13 && !((p.1.2 : Int) == (if 2 < (p.2 : Int) + 1 then 2 else (p.2 : Int) + 1))))
end Go.CoreX
namespace Go.CoreX
def pLab (l : Lab) : Prop := ∀ (e : List Ex) (x : Ex), (∀ k ∈ x.kids, 0 <= k /\ k < (e.length : Int)) -> labE e x = l -> Q0f false e x = 0
def nmR (nm : Nm) : Prop := ∀ k v, nm k = some v -> 0 <= v /\ v <= 1048575
theorem sum0 {α : Type} {f : α -> Int} : ∀ {l : List α}, (∀ x ∈ l, 0 <= f x) -> (l.map f).sum = 0 -> ∀ x ∈ l, f x = 0
 | [], _, _, x, hx => by simp at hx
 | y :: l, h, hs, x, hx => by
  have h1 := h y (by simp)
  have h2 : ∀ z ∈ l, 0 <= f z := fun z hz => h z (by simp [hz])
  have h3 : 0 <= (l.map f).sum := by
   clear h h1 hs hx
   induction l with
   | nil => simp
   | cons z l ih =>
    have := h2 z (by simp)
    have := ih fun y hy => h2 y (by simp [hy])
    simp only [List.map_cons, List.sum_cons]; omega
  simp only [List.map_cons, List.sum_cons] at hs
  rcases List.mem_cons.1 hx with rfl | hx
  ·omega
  ·exact sum0 h2 (by omega) x hx
open Classical in
mutual
theorem Qhy {p : Lab -> Prop} : ∀ t : Tr, allT p t -> sumT (fun l => if p l then 0 else 1) t = 0
 | .mk o n b k a, h => by
  simp only [sumT, Qev k h.2]
  rw [if_pos h.1]; rfl
theorem Qev {p : Lab -> Prop} : ∀ l : List Tr, allTs p l -> sumTs (fun l => if p l then 0 else 1) l = 0
 | [], _ => rfl
 | t :: l, h => by simp only [sumTs, Qhy t h.1, Qev l h.2]; rfl
end
open Classical in
theorem Q9e {p : Lab -> Prop} {g : List Ex} (h : IsTree g) (ha : allT p (grow g)) : ∀ l ∈ labs g, p l := by
 have h1 := Q52 (fun l => if p l then (0 : Int) else 1) h
 rw [Qhy _ ha] at h1
 intro l hl
 have := sum0 (fun x _ => by split <;> omega) h1 l hl
 split at this
 ·assumption
 ·cases this
theorem Q5u {e : List Ex} (h : check e = 0) : Q1f e = 0 /\ (∀ x ∈ e, Q0f false e x = 0) /\ (Q07 e).Nodup /\ occT [] (grow e) = [] := by
 unfold check body at h
 by_cases h1 : Q1f e = 0
 ·rw [if_neg (by simpa using h1)] at h
  by_cases h2 : Q18 (Q0f false e) e = 0
  ·rw [if_neg (by simpa using h2)] at h
   by_cases h3 : Q4r ([] ++ Q07 e) = true
   ·rw [if_pos h3] at h; cases h
   ·rw [if_neg h3] at h
    have h3' := (Q1q _).1 (by simpa using h3)
    refine ⟨h1, (Q1v _ _).1 h2, by simpa using h3', ?_⟩
    by_cases h4 : (Q2n (grow e)).all (fun n => ([] : List Int).contains n) = true
    ·have h5 : Q2n (grow e) = [] := by
      cases hf : Q2n (grow e) with
      | nil => rfl
      | cons n l => rw [hf] at h4; simp at h4
     unfold Q2n at h5
     cases ho : occT [] (grow e) with
     | nil => rfl
     | cons n l =>
      have := (Q67 n (n :: l)).2 (by simp)
      rw [← ho, h5] at this
      simp at this
    ·rw [if_neg h4] at h; cases h
  ·rw [if_pos (by simpa using h2)] at h; exact absurd h h2
 ·rw [if_pos h1] at h; exact absurd h h1
theorem Qlw {e : List Ex} (h1 : Q1f e = 0) (h2 : ∀ x ∈ e, Q0f false e x = 0) (h3 : (Q07 e).Nodup) (h4 : occT [] (grow e) = []) : check e = 0 := by
 unfold check body
 rw [if_neg (by simpa using h1), if_neg (by simpa using (Q1v _ _).2 h2), if_neg (by rw [(Q1q _).2 (by simpa using h3)]; simp), if_pos]
 unfold Q2n
 rw [h4]; rfl
abbrev nmN : Nm := fun _ => none
end Go.CoreX
namespace Go.Proofs.YtpaonemmbhbgoaaGreatDoor
open Go Go.Abs Go.CoreX
variable {Γ : List (Nat × List AC)}
end Go.Proofs.YtpaonemmbhbgoaaGreatDoor
namespace Go.CoreX
structure pOk (l : Lab) : Prop where
 b : l.binds.length <= 1048576
 k : l.ops.length <= 1048576
 a : l.alts.length <= 1048576
 ab : ∀ x ∈ l.alts, x.binds.length <= 1048576
 s : l.binds.length + (l.alts.flatMap (·.binds)).length <= 4194304
mutual
theorem Qif : ∀ (t : Tr) (nm : Nm) (f : Int), allT pOk t -> allT pOk (rnT nm f t).1
 | .mk o n b k a, nm, f, h => by
  obtain ⟨h1, h2⟩ := h
  have e1 := Qf8 a (ren1 o nm f b).2.1 (ren1 o nm f b).2.2
  refine ⟨⟨?_, ?_, ?_, ?_, ?_⟩, Qf5 k _ _ h2⟩
  ·simp only [Qfa]; exact h1.b
  ·simp only [Qf6]; exact h1.k
  ·simp only [rnTA_l]; exact h1.a
  ·exact mem_len e1 h1.ab
  ·simp only [Qfa, Qeb e1]; exact h1.s
theorem Qf5 : ∀ (l : List Tr) (nm : Nm) (f : Int), allTs pOk l -> allTs pOk (rnTs nm f l).1
 | [], _, _, _ => trivial
 | t :: l, nm, f, h => ⟨Qif t nm f h.1, Qf5 l _ _ h.2⟩
end
-- Two lists in order, with the same members, are one list.
end Go.CoreX
namespace Go.Proofs.YtpaonemmbhbgoaaGreatDoor
open Go Go.Abs Go.CoreX
theorem Qfo {e : List Ex} (he : okB e) : ∀ l ∈ labs e, pOk l := fun l hl => by
 obtain ⟨x, hx, rfl⟩ := List.mem_map.1 hl
 have h := he.eo.x x hx
 exact ⟨h.b, by simpa [labE] using h.k, h.a, h.ab, he.b x hx⟩
theorem Qh0 {g : List Ex} (hl : g.length <= 1048576) (h : ∀ l ∈ labs g, pOk l) : okB g := by
 refine ⟨⟨hl, fun x hx => ?_⟩, fun x hx => ?_⟩
 ·have := h _ (List.mem_map_of_mem (f := labE g) hx)
  exact ⟨this.b, by simpa [labE] using this.k, this.a, this.ab⟩
 ·exact (h _ (List.mem_map_of_mem (f := labE g) hx)).s
end Go.Proofs.YtpaonemmbhbgoaaGreatDoor
namespace Go.CoreX
def mapA (ν : Int -> Int) (x : Alt) : Alt := ⟨x.tag, x.binds.map ν⟩
mutual
def mapT (ν : Int -> Int) : Tr -> Tr
 | .mk o n b k a => .mk o (if o = 0 then ν n else n) (if o = 9 then b else b.map ν) (mapTs ν k) (a.map (mapA ν))
def mapTs (ν : Int -> Int) : List Tr -> List Tr
 | [] => []
 | t :: l => mapT ν t :: mapTs ν l
end
end Go.CoreX
namespace Go.CoreX
def InjOn (ν : Int -> Int) (B : List Int) : Prop := ∀ x ∈ B, ∀ y ∈ B, ν x = ν y -> x = y
def RelU (B : List Int) (ν : Int -> Int) (s s' : CS) : Prop := ∀ k ∈ B, s'.u (ν k) = s.u k /\ s'.d (ν k) = s.d k /\ s'.m (ν k) = s.m k
theorem RelU.visit {B : List Int} {ν : Int -> Int} (hi : InjOn ν B) {s s' : CS} (h : RelU B ν s s') {n : Int} (hn : n ∈ B) (deep : Int) : RelU B ν (Q60 s n deep) (Q60 s' (ν n) deep) := fun k hk => by
 obtain ⟨h1, h2, h3⟩ := h k hk
 obtain ⟨g1, g2, g3⟩ := h n hn
 have hup : ∀ (p p' : Int -> Int) (v v' : Int), p' (ν k) = p k -> v' = v -> upF p' (ν n) v' (ν k) = upF p n v k := fun p p' v v' e1 e2 => by
  unfold upF
  by_cases e : n = k
  ·subst e; rw [if_pos rfl, if_pos rfl, e2]
  ·rw [if_neg e, if_neg (fun e3 => e (hi n hn k hk e3)), e1]
 refine ⟨hup _ _ _ _ h1 (by rw [g1]), h2, ?_⟩
 simp only [Q60]
 rw [g2]
 split
 ·exact hup _ _ _ _ h3 (by rw [g3])
 ·exact h3
theorem RelU.bind {B : List Int} {ν : Int -> Int} (hi : InjOn ν B) (d : Int) : ∀ (l : List Int) {s s' : CS}, (∀ k ∈ l, k ∈ B) -> RelU B ν s s' -> RelU B ν (bindU d s l) (bindU d s' (l.map ν))
 | [], s, s', _, h => h
 | n :: l, s, s', hl, h => by
  have hn := hl n (by simp)
  have h1 : RelU B ν ⟨s.u, upF s.d n d, s.m⟩ ⟨s'.u, upF s'.d (ν n) d, s'.m⟩ := fun k hk => by
   obtain ⟨h1, h2, h3⟩ := h k hk
   refine ⟨h1, ?_, h3⟩
   simp only [upF]
   by_cases e : n = k
   ·subst e; rw [if_pos rfl, if_pos rfl]
   ·rw [if_neg e, if_neg (fun e3 => e (hi n hn k hk e3)), h2]
  exact RelU.bind hi d l (fun k hk => hl k (by simp [hk])) h1
end Go.CoreX
namespace Go.CoreX
def atomT (t : Tr) : Bool := t.op == 0 || t.op == 1 || (t.op == 6 && t.kids.length == 0)
mutual
def valT : Tr -> Bool
 | .mk o n b k a => atomT (.mk o n b k a) || o == 2 || (if o = 5 then Q81 k else if o = 6 ∨ o = 9 ∨ o = 4 then valTs k else false)
def valTs : List Tr -> Bool
 | [] => true
 | t :: l => valT t && valTs l
def Q81 : List Tr -> Bool
 | [] => true
 | t :: l => match l with
  | [] => valT t
  | _ :: _ => Q81 l
end
mutual
def usesN (id : Int) : Tr -> Nat
 | .mk o n b k a => if o = 0 then (if n = id then 1 else 0) else Q62 id k
def Q62 (id : Int) : List Tr -> Nat
 | [] => 0
 | t :: l => usesN id t + Q62 id l
end
mutual
def subT (id : Int) (v : Tr) : Tr -> Tr
 | .mk o n b k a => if o = 0 then (if n = id then v else .mk o n b k a) else .mk o n b (subTs id v k) a
def subTs (id : Int) (v : Tr) : List Tr -> List Tr
 | [] => []
 | t :: l => subT id v t :: subTs id v l
end
def letT (id : Int) (v body : Tr) : Tr := .mk 4 0 [id] [v, body] []
def letsT : List Int -> List Tr -> Tr -> Tr
 | i :: is, t :: ts, b => letT i t (letsT is ts b)
 | _, _, b => b
def wrapI (n : Int) : Int := (n + 1073741824) % 2147483648 - 1073741824
def wordT (n : Int) : Tr := .mk 1 n [] [] []
def flagT (b : Bool) : Tr := .mk 6 (if b then 1 else 0) [] [] []
def kidT (t : Tr) (i : Nat) : Tr := t.kids.getD i default
def Q4d (t : Tr) : Option Tr :=
 let x := kidT t 0; let y := kidT t 1
 if t.n > 6 ∨ x.op ≠ 1 ∨ y.op ≠ 1 then none
 else if t.n = 0 then some (wordT (wrapI (x.n + y.n)))
 else if t.n = 1 then some (wordT (wrapI (x.n - y.n)))
 else if t.n = 2 then some (wordT (wrapI (x.n * y.n)))
 else if t.n = 3 then (if y.n = 0 then none else some (wordT (wrapI (x.n.tdiv y.n))))
 else if t.n = 4 then (if y.n = 0 then none else some (wordT (wrapI (x.n.tmod y.n))))
 else if t.n = 6 then some (flagT (x.n == y.n))
 else if t.n = 5 then some (flagT (decide (x.n < y.n)))
 else some (wordT (wrapI 0))
def Q3o (con : Tr) : List Alt -> List Tr -> Option Tr
 | a :: as', k :: ks => if a.tag = con.n then (if a.binds.length ≠ con.kids.length then none else some (letsT a.binds con.kids k)) else if a.tag = -1 /\ valT con = true then some k else Q3o con as' ks
 | _, _ => none
def Q5t (t : Tr) : Option Tr := Q3o (kidT t 0) t.alts t.kids.tail
def Q4t (n : Int) : List Int -> List Tr -> Option Tr
 | b :: bs, k :: ks => if b = n then some k else Q4t n bs ks
 | _, _ => none
def Q91 (t : Tr) : Option Tr :=
 let row := kidT t 0
 if row.op ≠ 9 ∨ valT row = false then none else Q4t t.n row.binds row.kids
def Qiz (t : Tr) : Nat :=
 if t.op = 3 ∨ t.op = 6 ∨ t.op = 8 ∨ t.op = 9 ∨ t.op = 10 ∨ t.op = 11 then t.kids.length else if t.op = 7 ∨ t.op = 12 then 1 else 0
mutual
def mostT : Tr -> Int
 | .mk o n b k a => mostTs ((Q0z o b a).foldl max (-1)) k
def mostTs (m : Int) : List Tr -> Int
 | [] => m
 | t :: l => mostTs (max m (mostT t)) l
end
def Qcm (root t : Tr) (n : Int) : Option Tr :=
 if n < 0 ∨ (Qiz t : Int) <= n ∨ atomT (kidT t n.toNat) = true then none
 else if (t.kids.take n.toNat).all valT = false then none
 else some (letT (mostT root + 1) (kidT t n.toNat) (.mk t.op t.n t.binds (t.kids.set n.toNat (.mk 0 (mostT root + 1) [] [] [])) t.alts))
def defN (id : Int) (t : Tr) : List Int -> Nat -> Option Tr
 | [], _ => none
 | b :: bs, i => if b = id /\ (t.op = 4 ∨ t.op = 5) /\ (kidT t i).op = 2 then some (kidT t i) else defN id t bs (i + 1)
def defT (id : Int) : List Tr -> Option Tr
 | [] => none
 | t :: l => match defN id t t.binds 0 with
  | some f => some f
  | none => defT id l
def Q84 (nodes : List Tr) (root t : Tr) : Option Tr := (defT t.n nodes).map fun f => (rnT nmN (mostT root + 1) f).1
def Q6c (rule : Int) (t : Tr) : Option Tr :=
 let v := kidT t 0; let body := kidT t 1; let id := t.binds.getD 0 0
 if rule = 2 /\ atomT v = true then some (subT id v body)
 else if rule = 3 /\ usesN id body = 0 /\ valT v = true then some body
 else if rule = 8 /\ v.op = 4 then some (letT (v.binds.getD 0 0) (kidT v 0) (letT id (kidT v 1) body))
 else if rule = 9 /\ v.op = 7 /\ v.alts.length = 1 then some (.mk 7 0 [] [kidT v 0, letT id (kidT v 1) body] v.alts)
 else if rule = 11 /\ v.op = 2 /\ usesN id body = 1 then some (subT id v body)
 else none
def Q5k (t : Tr) : Bool := t.binds.all fun id => usesN id (kidT t t.binds.length) == 0
def resT (nodes : List Tr) (root : Tr) (rule n : Int) (t : Tr) : Option Tr :=
 if n ≠ 0 /\ rule ≠ 10 then none
 else if rule = 1 /\ t.op = 3 /\ (kidT t 0).op = 2 /\ ((kidT t 0).binds.length : Int) = t.kids.length - 1 then some (letsT (kidT t 0).binds t.kids.tail (kidT (kidT t 0) 0))
 else if t.op = 4 /\ rule ≠ 10 then Q6c rule t
 else if rule = 4 /\ t.op = 5 /\ Q5k t = true then some (kidT t t.binds.length)
 else if rule = 5 /\ t.op = 7 /\ (kidT t 0).op = 6 then Q5t t
 else if rule = 6 /\ t.op = 8 /\ t.kids.length = 2 then Q4d t
 else if rule = 7 /\ t.op = 10 then Q91 t
 else if rule = 10 then Qcm root t n
 else if rule = 12 /\ t.op = 0 then Q84 nodes root t
 else none
def Q6g (p : Nat) (u : Tr) (ts : List Tr) (x : Ex) : List Tr := ts ++ [if ts.length = p then u else Q2d ts x]
def Q26 (e : List Ex) (p : Nat) (u : Tr) : List Tr := e.foldl (Q6g p u) []
def growR (e : List Ex) (p : Nat) (u : Tr) : Tr := (Q26 e p u).getD (e.length - 1) default
def Q10 (e : List Ex) (rule at' n : Int) : List Ex × Int :=
 if check e ≠ 0 then ([], check e)
 else if rule < 1 ∨ 12 < rule then ([], 4)
 else if at' < 0 ∨ (e.length : Int) <= at' then ([], 12)
 else match resT (growL e) (grow e) rule n (Q08 e at'.toNat) with
  | none => ([], 12)
  | some x => if check (listT [] (growR e at'.toNat x)) ≠ 0 then ([], 2) else (listT [] (growR e at'.toNat x), 0)
def manyE (e : List Ex) (id : Int) : Nat := e.countP fun x => x.op == 0 && x.n == id
def Qbp (rule : Int) (t : Tr) (many : Nat) : Bool :=
 let v := kidT t 0
 if rule = 2 then atomT v
 else if rule = 3 then many == 0 && valT v
 else if rule = 8 then v.op == 4
 else if rule = 9 then v.op == 7 && v.alts.length == 1
 else if rule = 11 then v.op == 2 && many == 1
 else false
def restT (t : Tr) (many : Int -> Nat) : Bool := !(t.binds.any fun id => decide (0 < many id)) || Q5k t
def canT (rule : Int) (t : Tr) (many : Int -> Nat) : Bool :=
 if t.op = 4 then Qbp rule t (many (t.binds.getD 0 0))
 else if rule = 4 /\ t.op = 5 then restT t many
 else if rule = 6 /\ t.op = 8 then t.kids.length == 2 && (Q4d t).isSome
 else if rule = 7 /\ t.op = 10 then (Q91 t).isSome
 else if rule = 5 /\ t.op = 7 then (kidT t 0).op == 6 && (Q5t t).isSome
 else if rule = 1 /\ t.op = 3 then (kidT t 0).op == 2 && ((kidT t 0).binds.length : Int) == t.kids.length - 1
 else false
def Q5e : List Int := [3, 4, 6, 7, 5, 1, 2, 11, 8, 9]
def nextE (e : List Ex) : Option (Int × Nat) := Q5e.findSome? fun r => ((growL e).zipIdx.find? fun p => canT r p.1 (manyE e)).map fun p => (r, p.2)
theorem Q58 (e : List Ex) (p : Nat) (u : Tr) : (Q26 e p u).length = e.length := by
 have : ∀ (l : List Ex) (ts : List Tr), (l.foldl (Q6g p u) ts).length = ts.length + l.length := by
  intro l
  induction l with
  | nil => intro ts; simp
  | cons x l ih => intro ts; rw [List.foldl_cons, ih]; simp [Q6g]; omega
 unfold Q26
 rw [this]; simp
def factR : List Ex := listT [] (.mk 4 0 [1] [.mk 1 2 [] [] [], .mk 0 1 [] [] []] [])
end Go.CoreX
namespace Go.CoreX
mutual
def putL (k : Nat) (u : LTr) : LTr -> LTr
 | .mk i o n nb b ks a => if i = k then u else .mk i o n nb b (putLs k u ks) a
def putLs (k : Nat) (u : LTr) : List LTr -> List LTr
 | [] => []
 | t :: l => putL k u t :: putLs k u l
end
theorem Q2w (k : Nat) (u : LTr) : ∀ l : List LTr, putLs k u l = l.map (putL k u)
 | [] => rfl
 | t :: l => by simp [putLs, Q2w k u l]
theorem Qiq {k : Nat} {u : LTr} (hu : u.id = k) : ∀ t : LTr, (putL k u t).id = t.id
 | .mk i o n nb b ks a => by
  simp only [putL]
  split
  ·rename_i h; rw [hu]; exact h.symm
  ·rfl
inductive SubL (t0 : LTr) : LTr -> Prop
 | here : SubL t0 t0
 | kid {t s : LTr} : s ∈ t.kids -> SubL t0 s -> SubL t0 t
theorem SubL.trans {a b c : LTr} (h : SubL a b) (k : SubL b c) : SubL a c := by
 induction k with
 | here => exact h
 | kid hs _ ih => exact .kid hs ih
theorem Q8w (e : List Ex) (x : Ex) (p : Nat) (U : Tr) : Q26 (e ++ [x]) p U = Q26 e p U ++ [if e.length = p then U else Q2d (Q26 e p U) x] := by
 have := Q58 e p U
 unfold Q26 at this ⊢
 rw [List.foldl_append, List.foldl_cons, List.foldl_nil, Q6g, this]
theorem Qhb (p : Nat) (U : Tr) (l : List Ex) : ∀ e : List Ex, ∃ r, Q26 (e ++ l) p U = Q26 e p U ++ r := by
 induction l with
 | nil => intro e; exact ⟨[], by simp⟩
 | cons x l ih =>
  intro e
  obtain ⟨r, hr⟩ := ih (e ++ [x])
  rw [List.append_assoc] at hr
  exact ⟨_, by rw [show e ++ x :: l = e ++ ([x] ++ l) by simp, hr, Q8w, List.append_assoc]⟩
theorem Qa9 {p : Nat} {U : Tr} {e l : List Ex} {i : Nat} (h : i < e.length) : (Q26 (e ++ l) p U).getD i default = (Q26 e p U).getD i default := by
 obtain ⟨r, hr⟩ := Qhb p U l e
 rw [hr, Q6h (by rw [Q58]; exact h)]
theorem Q3a {e : List Ex} (hk : Q0k e) (p : Nat) (U : Tr) {j : Nat} {x : Ex} (hx : e[j]? = some x) : (Q26 e p U).getD j default = if j = p then U else .mk x.op x.n x.binds (x.kids.map fun q => (Q26 e p U).getD q.toNat default) x.alts := by
 obtain ⟨h1, h2⟩ := List.getElem?_eq_some_iff.1 hx
 have he : e = e.take j ++ x :: e.drop (j + 1) := by rw [← h2, ← List.drop_eq_getElem_cons h1, List.take_append_drop]
 have hl : (e.take j).length = j := by simp; omega
 have hkj := hk j x hx
 have h3 : (Q26 e p U).getD j default = (Q26 (e.take j ++ [x]) p U).getD j default := by
  conv => lhs; rw [he, show e.take j ++ x :: e.drop (j + 1) = (e.take j ++ [x]) ++ e.drop (j + 1) by simp]
  exact Qa9 (by simp; omega)
 rw [h3, Q8w, hl, List.getD_eq_getElem?_getD, List.getElem?_append_right (by rw [Q58, hl]; exact Nat.le_refl _), Q58, hl]
 simp only [Nat.sub_self, List.getElem?_cons_zero, Option.getD_some]
 split
 ·rfl
 ·simp only [Q2d]
  congr 1
  refine List.map_congr_left fun q hq => ?_
  have := hkj q hq
  conv => rhs; rw [he]
  exact (Qa9 (by rw [hl]; omega)).symm
mutual
def cntL : LTr -> Nat
 | .mk i o n nb b ks a => 1 + cntLs ks
def cntLs : List LTr -> Nat
 | [] => 0
 | t :: l => cntL t + cntLs l
end
end Go.CoreX
namespace Go.Proofs.YtpaonemmbhbgoaaGreatDoor
open Go Go.Abs Go.CoreX
theorem putL_kC {k : Nat} {u : LTr} (hu : u.id = k) (l : List LTr) : kC (putLs k u l) = kC l := by
 rw [Q2w]
 simp only [kC, List.map_map]
 exact List.map_congr_left fun t _ => by simp only [Function.comp, Qiq hu]
mutual
theorem Qip {k : Nat} {u : LTr} : ∀ t : LTr, k ∉ keys (objs t) -> putL k u t = t
 | .mk i o n nb b ks a, h => by
  simp only [objs, keys, List.cons_append, List.map_cons, List.map_append, List.mem_cons, List.mem_append, not_or] at h
  simp only [putL]
  rw [if_neg (fun e => h.1 e.symm), Q32 ks h.2.2]
theorem Q32 {k : Nat} {u : LTr} : ∀ l : List LTr, k ∉ keys (objss l) -> putLs k u l = l
 | [], _ => rfl
 | t :: l, h => by
  simp only [objss, keys, List.map_append, List.mem_append, not_or] at h
  simp only [putLs]
  rw [Qip t h.1, Q32 l h.2]
end
theorem Q7u {t s : LTr} (h : s ∈ t.kids) {p : Nat × AObj} (hp : p ∈ objs s) : p ∈ objss t.kids := by
 rw [Q40]; exact List.mem_flatMap.2 ⟨s, h, hp⟩
theorem Qew {t0 t : LTr} (h : SubL t0 t) : ∀ p ∈ objs t0, p ∈ objs t := by
 induction h with
 | here => exact fun p hp => hp
 | kid hs _ ih => exact fun p hp => (Q7t _ p).2 (.inr (Q7u hs (ih p hp)))
theorem Q0j {l : List (Nat × AObj)} {p : Nat × AObj} (h : p ∈ l) : p.1 ∈ keys l := List.mem_map_of_mem h
theorem Q1g {l : List (Nat × AObj)} {k : Nat} (h : k ∈ keys l) : ∃ o, (k, o) ∈ l := by
 obtain ⟨⟨j, o⟩, h1, h2⟩ := List.mem_map.1 h
 simp at h2; subst h2
 exact ⟨o, h1⟩
def tailO : LTr -> List (Nat × AObj)
 | .mk i o n nb b k a => (bO nb b ++ aO a) ++ objss k
theorem Q09 : ∀ t : LTr, objs t = (t.id, .cells (lC t)) :: tailO t
 | .mk i o n nb b k a => rfl
theorem Q1s {t s : LTr} (h : s ∈ t.kids) {p : Nat × AObj} (hp : p ∈ objs s) : p ∈ tailO t := by
 cases t with
 | mk i o n nb b k a => exact List.mem_append.2 (.inr (Q7u h hp))
theorem Q88 {t : LTr} (h : (keys (objs t)).Nodup) : t.id ∉ keys (tailO t) := by
 rw [Q09, show keys ((t.id, AObj.cells (lC t)) :: tailO t) = t.id :: keys (tailO t) from rfl] at h
 exact (List.nodup_cons.1 h).1
theorem Qio {u t0 t : LTr} (h : SubL t0 t) (hn : (keys (objs t)).Nodup) (hu : u.id = t0.id) : ∀ p ∈ objs (putL t0.id u t), p ∈ objs u ∨ (p ∈ objs t /\ p.1 ∉ keys (objs t0)) := by
 induction h with
 | here =>
  intro p hp
  cases t0 with
  | mk i o n nb b k a =>
   simp only [putL, LTr.id, if_true] at hp
   exact .inl hp
 | @kid t s hs hsub ih =>
  have h0 : ∀ k ∈ keys (objs t0), k ∈ keys (objs s) := fun k hk => by
   obtain ⟨o, ho⟩ := Q1g hk
   exact Q0j (Qew hsub _ ho)
  cases t with
  | mk i o n nb b ks a =>
   simp only [LTr.kids] at hs
   obtain ⟨l1, l2, rfl⟩ := List.append_of_mem hs
   have hn2 := hn
   simp only [objs, Q6a, keys, List.cons_append, List.map_cons, List.map_append, show objss (s :: l2) = objs s ++ objss l2 from rfl, List.nodup_cons, List.nodup_append, List.mem_append, not_or] at hn2
   obtain ⟨⟨n1, n2, n3, n4⟩, ⟨m1, m2⟩, m3⟩ : (i ∉ keys (bO nb b ++ aO a) /\ i ∉ keys (objss l1) /\ i ∉ keys (objs s) /\ i ∉ keys (objss l2)) /\ ((∀ k ∈ keys (bO nb b ++ aO a), k ∉ keys (objs s)) /\ True) /\ (keys (objs s)).Nodup /\ (∀ k ∈ keys (objss l1), k ∉ keys (objs s)) /\ ∀ k ∈ keys (objss l2), k ∉ keys (objs s) := by
    obtain ⟨⟨a1, a2⟩, a3⟩ := hn2
    simp only [keys, List.map_append, List.mem_append, not_or]
    refine ⟨⟨⟨a1.1, a1.2⟩, a2.1, a2.2.1, a2.2.2⟩, ⟨?_, trivial⟩, ?_, ?_, ?_⟩
    ·intro k hk hk2
     exact a3.2.2 k (by simpa using hk) k (.inr (.inl hk2)) rfl
    ·exact a3.2.1.2.1.1
    ·intro k hk hk2
     exact a3.2.1.2.2 k hk k (.inl hk2) rfl
    ·intro k hk hk2
     exact a3.2.1.2.1.2.2 k hk2 k hk rfl
   have hid : t0.id ∈ keys (objs s) := h0 _ (Qa7 t0)
   have e1 : putLs t0.id u (l1 ++ s :: l2) = l1 ++ putL t0.id u s :: l2 := by
    rw [Q2w, List.map_append, List.map_cons, ← Q2w, ← Q2w]
    rw [Q32 l1 fun hk => m3.2.1 _ hk hid, Q32 l2 fun hk => m3.2.2 _ hk hid]
   have e2 : i ≠ t0.id := fun e => n3 (e ▸ hid)
   intro p hp
   simp only [putL, if_neg e2, objs, putL_kC hu, List.cons_append, List.mem_cons, List.mem_append] at hp
   rw [e1, Q6a, show objss (putL t0.id u s :: l2) = objs (putL t0.id u s) ++ objss l2 from rfl] at hp
   simp only [List.mem_append] at hp
   simp only [objs, Q6a, List.cons_append, List.mem_cons, List.mem_append, show objss (s :: l2) = objs s ++ objss l2 from rfl]
   rcases hp with rfl | hp | hp | hp | hp
   ·exact .inr ⟨.inl rfl, fun hk => n3 (h0 _ hk)⟩
   ·exact .inr ⟨.inr (.inl hp), fun hk => m1 _ (Q0j (List.mem_append.2 hp)) (h0 _ hk)⟩
   ·exact .inr ⟨.inr (.inr (.inl hp)), fun hk => m3.2.1 _ (Q0j hp) (h0 _ hk)⟩
   ·rcases ih m3.1 p hp with h1 | ⟨h1, h2⟩
    ·exact .inl h1
    ·exact .inr ⟨.inr (.inr (.inr (.inl h1))), h2⟩
   ·exact .inr ⟨.inr (.inr (.inr (.inr hp))), fun hk => m3.2.2 _ (Q0j hp) (h0 _ hk)⟩
end Go.Proofs.YtpaonemmbhbgoaaGreatDoor
namespace Go.CoreX
theorem Qlt (k : Nat) (u : LTr) (l : List LTr) : erTs (putLs k u l) = l.map fun t => erT (putL k u t) := by rw [Q0l, Q2w, List.map_map]; rfl
end Go.CoreX
namespace Go.Proofs.YtpaonemmbhbgoaaGreatDoor
open Go Go.Abs Go.CoreX
section
variable {e : List Ex} {lts : List LTr} {B : Nb -> List Int -> Prop}
theorem LinkL.put_er (h : LinkL e lts B) (hk : Q0k e) (hid : ∀ (i j : Nat) (ti tj : LTr), lts[i]? = some ti -> lts[j]? = some tj -> ti.id = tj.id -> i = j) {p : Nat} {t0 : LTr} (hp : lts[p]? = some t0) (u : LTr) : ∀ (n j : Nat) (t : LTr), j < n -> lts[j]? = some t -> erT (putL t0.id u t) = (Q26 e p (erT u)).getD j default
 | 0, j, t, hj, _ => by omega
 | n + 1, j, t, hj, ht => by
  have hjl : j < e.length := by rw [← h.len]; exact (List.getElem?_eq_some_iff.1 ht).1
  obtain ⟨x, hx⟩ := Q01 hjl
  obtain ⟨id, nb, a, h1, h2, _⟩ := h.at_ j x hx
  rw [Q3a hk p (erT u) hx]
  by_cases hjp : j = p
  ·subst hjp
   rw [hp] at ht
   cases ht
   rw [if_pos rfl]
   cases t0 with
   | mk i o n nb b ks a => simp only [putL, LTr.id, if_true]
  ·rw [if_neg hjp]
   have hne : t.id ≠ t0.id := fun e1 => hjp (hid j p t t0 ht hp e1)
   rw [ht] at h1
   cases h1
   have hne2 : ¬ id = t0.id := hne
   simp only [putL]
   rw [if_neg hne2]
   simp only [erT, h2, Qlt, List.map_map]
   congr 1
   refine List.map_congr_left fun q hq => ?_
   have hq' := hk j x hx q hq
   obtain ⟨t', ht'⟩ := Q01 (l := lts) (i := q.toNat) (by rw [h.len]; omega)
   simp only [Function.comp, h.getD ht']
   exact h.put_er hk hid hp u n q.toNat t' (by omega) ht'
theorem LinkL.sub (h : LinkL e lts B) (hT : IsTree e) {root : LTr} (hr : lts[e.length - 1]? = some root) : ∀ (k : Nat) (t : LTr), lts[k]? = some t -> SubL t root := by
 have key : ∀ (d k : Nat) (t : LTr), lts[k]? = some t -> e.length - k = d -> SubL t root := by
  intro d
  induction d using Nat.strongRecOn with
  | _ d ih =>
   intro k t ht hd
   have hk : k < e.length := by rw [← h.len]; exact (List.getElem?_eq_some_iff.1 ht).1
   by_cases hl : k + 1 < e.length
   ·have hc := (hT.c k hk).2 hl
    obtain ⟨i, x, hx, hkx⟩ := Qbm (e := e) (k := k) (by omega)
    have hb := hT.k i x hx _ hkx
    have hi := (List.getElem?_eq_some_iff.1 hx).1
    obtain ⟨id, nb, a, h1, _⟩ := h.at_ i x hx
    have hp := ih (e.length - i) (by omega) i _ h1 rfl
    refine SubL.trans (.kid ?_ .here) hp
    simp only [LTr.kids]
    exact List.mem_map.2 ⟨_, hkx, by rw [Int.toNat_natCast, h.getD ht]⟩
   ·have : k = e.length - 1 := by omega
    subst this
    rw [hr] at ht; cases ht
    exact .here
 exact fun k t ht => key _ k t ht rfl
end
theorem Q5s {t : LTr} {l : List LTr} (h : t ∈ l) : cntN (erT t) <= cntNs (erTs l) := by
 induction l with
 | nil => cases h
 | cons x l ih =>
  simp only [erTs, cntNs]
  rcases List.mem_cons.1 h with rfl | h
  ·omega
  ·have := ih h; omega
theorem Q4x : ∀ (l r : List Tr), cntNs (l ++ r) = cntNs l + cntNs r
 | [], r => by simp [cntNs]
 | t :: l, r => by simp only [List.cons_append, cntNs, Q4x l r]; omega
theorem put_cnt {u t0 t : LTr} (h : SubL t0 t) (hn : (keys (objs t)).Nodup) : cntN (erT (putL t0.id u t)) <= cntN (erT t) + cntN (erT u) := by
 induction h with
 | here =>
  cases t0 with
  | mk i o n nb b k a => simp only [putL, LTr.id, if_true]; omega
 | @kid t s hs hsub ih =>
  have h0 : ∀ k ∈ keys (objs t0), k ∈ keys (objs s) := fun k hk => by
   obtain ⟨o, ho⟩ := Q1g hk
   exact Q0j (Qew hsub _ ho)
  cases t with
  | mk i o n nb b ks a =>
   simp only [LTr.kids] at hs
   obtain ⟨l1, l2, rfl⟩ := List.append_of_mem hs
   have hnk : (keys (objss (l1 ++ s :: l2))).Nodup := by
    rw [Q09] at hn
    simp only [tailO, keys, List.map_cons, List.map_append] at hn
    exact (List.nodup_append.1 (List.nodup_cons.1 hn).2).2.1
   rw [Q6a, show objss (s :: l2) = objs s ++ objss l2 from rfl, Q1u, Q1u, List.nodup_append, List.nodup_append] at hnk
   have hid : t0.id ∈ keys (objs s) := h0 _ (Qa7 t0)
   have e1 : putLs t0.id u (l1 ++ s :: l2) = l1 ++ putL t0.id u s :: l2 := by
    rw [Q2w, List.map_append, List.map_cons, ← Q2w, ← Q2w]
    rw [Q32 l1 fun hk => hnk.2.2 _ hk _ (List.mem_append.2 (.inl hid)) rfl, Q32 l2 fun hk => hnk.2.1.2.2 _ hid _ hk rfl]
   have ih' := ih hnk.2.1.1
   simp only [putL]
   split
   ·simp only [erT, cntN]; omega
   ·simp only [erT, cntN, e1, Q0l, List.map_append, List.map_cons, Q4x, cntNs]
    omega
theorem Qby : ∀ l : List (Nat × AObj), ∃ l' : List (Nat × AObj), (∀ p ∈ l', p ∈ l) /\ (keys l').Nodup /\ ∀ k, k ∈ keys l ↔ k ∈ keys l'
 | [] => ⟨[], fun _ h => h, by simp [keys], fun _ => Iff.rfl⟩
 | p :: l => by
  obtain ⟨l', h1, h2, h3⟩ := Qby l
  by_cases hp : p.1 ∈ keys l'
  ·refine ⟨l', fun q hq => List.mem_cons_of_mem _ (h1 q hq), h2, fun k => ?_⟩
   rw [show keys (p :: l) = p.1 :: keys l from rfl, List.mem_cons, h3]
   constructor
   ·rintro (rfl | h)
    ·exact hp
    ·exact h
   ·exact .inr
  ·refine ⟨p :: l', fun q hq => ?_, ?_, fun k => ?_⟩
   ·rcases List.mem_cons.1 hq with rfl | hq
    ·simp
    ·exact List.mem_cons_of_mem _ (h1 q hq)
   ·rw [show keys (p :: l') = p.1 :: keys l' from rfl]; exact List.nodup_cons.2 ⟨hp, h2⟩
   ·rw [show keys (p :: l) = p.1 :: keys l from rfl, show keys (p :: l') = p.1 :: keys l' from rfl, List.mem_cons, List.mem_cons, h3]
theorem AOps.freezeU {E : Env} {ops : Array Oper} {l : List Oper} {K : Cont} {fr : Fr} {σ : St} {t : LTr} (d : Nat) (ho : Owns σ.ou (objs t)) (hd : Fr.get d fr = some (.one (.ptr (.o t.id) 0)))
  (h : AOps E ops l K ((d, .one (.box (cTr (erT t)))) :: fr) { σ with ou := deadL σ.ou (keys (objs t)) }) : AOps E ops l K fr σ := by
 intro F w0 C0 w C tmps hgo hi hf
 obtain ⟨l', q1, q2, q3⟩ := Qby (objs t)
 obtain ⟨C', g1, g2, g3, g4⟩ := Q8u l' hi (fun p hp => ho p (q1 p hp)) q2 fun p hp => Q70 t p (q1 p hp)
 rw [show deadL σ.ou (keys l') = deadL σ.ou (keys (objs t)) from funext fun j => by unfold deadL; simp only [q3 j]] at g2
 refine h F w0 C0 w C' tmps (hgo.trans g1.toO) g2 ⟨hf.1, fun k x hk => ?_⟩
 simp only [Fr.get] at hk
 by_cases e : d = k
 ·subst e
  simp at hk
  subst hk
  obtain ⟨u, hu, hr⟩ := hf.2 d _ hd
  simp only [RF, R] at hr
  exact ⟨u, hu, _, hr.2, rfl, Qb0 hi (g1.chg.weaken fun _ _ => trivial) t ho fun k hk => g4 k ((q3 k).1 hk)⟩
 ·rw [Q04 e] at hk
  obtain ⟨u, hu, hr⟩ := hf.2 k x hk
  exact ⟨u, hu, hr.ext g1.chg⟩
structure Der (ou ou' : Outer) (S : List (Nat × AObj)) (u : LTr) : Prop where
 old : ∀ j o, ou j = some o -> ou' j = some o
 part : ∀ p ∈ objs u, p ∈ S ∨ (ou p.1 = none /\ ou' p.1 = some p.2)
 ok : OuOk ou'
theorem Der.own {ou ou' : Outer} {S : List (Nat × AObj)} {u : LTr} (h : Der ou ou' S u) (hS : Owns ou S) : Owns ou' (objs u) := fun p hp => by
 rcases h.part p hp with h1 | ⟨_, h1⟩
 ·exact h.old _ _ (hS p h1)
 ·exact h1
theorem Der.mono {ou ou' : Outer} {S S' : List (Nat × AObj)} {u : LTr} (h : Der ou ou' S u) (hS : ∀ p ∈ S, p ∈ S') : Der ou ou' S' u :=
 ⟨h.old, fun p hp => (h.part p hp).imp (hS p) id, h.ok⟩
theorem Der.refl {ou : Outer} {S : List (Nat × AObj)} {u : LTr} (h : ∀ p ∈ objs u, p ∈ S) (hou : OuOk ou) : Der ou ou S u := ⟨fun _ _ h => h, fun p hp => .inl (h p hp), hou⟩
theorem Der.pre {ou ou1 ou' : Outer} {S : List (Nat × AObj)} {u : LTr} (h : Der ou1 ou' S u) (h0 : ∀ j o, ou j = some o -> ou1 j = some o) : Der ou ou' S u := by
 refine ⟨fun j o hj => h.old j o (h0 j o hj), fun p hp => ?_, h.ok⟩
 rcases h.part p hp with h1 | ⟨a, b⟩
 ·exact .inl h1
 ·refine .inr ⟨?_, b⟩
  cases ho : ou p.1 with
  | none => rfl
  | some o => rw [h0 _ _ ho] at a; cases a
theorem Der.not {ou ou' : Outer} {S : List (Nat × AObj)} {u : LTr} (h : Der ou ou' S u) {k : Nat} {o : AObj} (hk : ou k = some o) (hS : k ∉ keys S) : k ∉ keys (objs u) := fun hm => by
 obtain ⟨q, hq⟩ := Q1g hm
 rcases h.part _ hq with h1 | ⟨h1, _⟩
 ·exact hS (Q0j h1)
 ·rw [hk] at h1; cases h1
end Go.Proofs.YtpaonemmbhbgoaaGreatDoor
namespace Go.CoreX
abbrev Step3 := Int × Int × Int
def Q2a : Nat -> List Ex -> List Ex × List Step3
 | 0, out => (out, [])
 | k + 1, out => match nextE out with
  | none => (out, [])
  | some (r, i) => if (Q10 out r i 0).2 = 0 then ((Q2a k (Q10 out r i 0).1).1, (r, (i : Int), 0) :: (Q2a k (Q10 out r i 0).1).2) else (out, [])
def simpE (e : List Ex) (b : Int) : List Ex × List Step3 × Int :=
 if check e ≠ 0 then ([], [], check e) else if b < 0 ∨ 500 < b then ([], [], 4)
 else ((Q2a b.toNat (listT [] (grow e))).1, (Q2a b.toNat (listT [] (grow e))).2, 0)
def Ordd (e : List Ex) : Prop := check e = 0 /\ listT [] (grow e) = e
theorem Qkd {e : List Ex} {r p n : Int} (h : (Q10 e r p n).2 = 0) : Ordd (Q10 e r p n).1 := by
 unfold Q10 at h ⊢
 split at h
 ·rename_i h1; exact absurd h h1
 rename_i h1
 rw [if_neg h1]
 split at h
 ·cases h
 rename_i h2
 rw [if_neg h2]
 split at h
 ·cases h
 rename_i h3
 rw [if_neg h3]
 split at h
 ·cases h
 rename_i x hx
 split at h
 ·cases h
 rename_i h4
 rw [if_neg h4]
 exact ⟨by simpa using h4, by rw [Q0w]⟩
theorem Qat : simpE (listT [] (.mk 8 0 [] [.mk 1 2 [] [] [], .mk 8 2 [] [.mk 1 3 [] [] [], .mk 1 4 [] [] []] []] [])) 9 = (listT [] (.mk 1 14 [] [] []), [(6, 3, 0), (6, 2, 0)], 0) := by decide +kernel
end Go.CoreX
namespace Go.CoreX
end Go.CoreX
namespace Go.CoreX
theorem Q22 {p : Lab -> Prop} {t s : Tr} (ht : allT p t) (h : s ∈ t.kids) : allT p s := by
 cases t with
 | mk o n b k a =>
  have : ∀ l : List Tr, allTs p l -> s ∈ l -> allT p s := by
   intro l
   induction l with
   | nil => intro _ h; cases h
   | cons x l ih =>
    intro h1 h2
    rcases List.mem_cons.1 h2 with rfl | h2
    ·exact h1.1
    ·exact ih h1.2 h2
  exact this k ht.2 h
end Go.CoreX
namespace Go.CoreX
def shpL (l : Lab) : Prop := shape ⟨l.op, l.n, l.binds, l.ops, l.alts⟩ = true
theorem Qdd {e : List Ex} (h : check e = 0) : allT shpL (grow e) := Qdf (Q0x h) fun x hx => by
 have := Ql0 h x hx
 unfold shpL labE
 rw [Qc6 (ky := x.kids) (by simp)]
 exact this
theorem Q48 {e : List Ex} (h : IsTree e) {p : Lab -> Prop} (ht : allT p (grow e)) {k : Nat} (hk : k < e.length) : allT p (Q08 e k) :=
 Qhw h (P := allT p) ht (fun t s h1 h2 => Q22 h1 h2) k hk
theorem Qex {t : Tr} (h : allT shpL t) : shape ⟨t.op, t.n, t.binds, t.kids.map Tr.op, t.alts⟩ = true := by
 cases t with
 | mk o n b k a => exact h.1
section
variable {o n : Int} {b : List Int} {k : List Tr} {a : List Alt} (h : allT shpL (.mk o n b k a))
include h
theorem Q36 {w : Int × Int × Bool} (h7 : ¬ (o = 7 ∨ o = 13)) (hw : wants ⟨o, n, b, k.map Tr.op, a⟩ = some w) : (k.length : Int) = w.1 /\ (b.length : Int) = w.2.1 /\ a = [] := by
 have := Qex h
 simp only [Tr.op_mk, Tr.n_mk, Tr.binds_mk, Tr.kids_mk, Tr.alts_mk] at this
 unfold shape at this
 rw [if_neg h7, hw] at this
 simp only [Bool.and_eq_true, beq_iff_eq, List.length_map, List.length_eq_zero_iff] at this
 exact ⟨this.1.1.1, this.1.1.2, this.1.2⟩
theorem Qey (h0 : o = 0 ∨ o = 1) : k = [] /\ b = [] /\ a = [] := by
 obtain ⟨h1, h2, h3⟩ := Q36 h (w := (0, 0, true)) (by omega) (by unfold wants; rw [if_pos (by simp only; omega)])
 refine ⟨List.length_eq_zero_iff.1 ?_, List.length_eq_zero_iff.1 ?_, h3⟩ <;> simp at h1 h2 <;> simp [h1, h2]
theorem shp_lam (h0 : o = 2) : k.length = 1 /\ a = [] := by
 subst h0
 obtain ⟨h1, h2, h3⟩ := Q36 h (w := (1, b.length, false)) (by omega) rfl
 exact ⟨by simp at h1; omega, h3⟩
theorem Qds (h0 : o = 3) : k ≠ [] /\ b = [] /\ a = [] := by
 subst h0
 obtain ⟨h1, h2, h3⟩ := Q36 h (by omega) rfl
 simp only [List.length_map] at h1 h2
 refine ⟨fun e => ?_, List.length_eq_zero_iff.1 (by omega), h3⟩
 subst e
 simp at h1
theorem Qdr (h0 : o = 4) : ∃ id v d, b = [id] /\ k = [v, d] /\ a = [] := by
 subst h0
 obtain ⟨h1, h2, h3⟩ := Q36 h (w := (2, 1, false)) (by omega) rfl
 obtain ⟨id, hid⟩ := List.length_eq_one_iff.1 (show b.length = 1 by simp at h2; omega)
 have h2 : k.length = 2 := by simp at h1; omega
 match k, h2 with
 | [v, d], _ => exact ⟨id, v, d, hid, rfl, h3⟩
theorem Qdq (h0 : o = 5) : k.length = b.length + 1 /\ a = [] := by
 subst h0
 obtain ⟨h1, h2, h3⟩ := Q36 h (w := (b.length + 1, if (b.length : Int) > 1 then b.length else 1, false)) (by omega) rfl
 exact ⟨by simp at h1; omega, h3⟩
theorem Qau (h0 : o = 7) : k.length = a.length + 1 /\ b = [] := by
 subst h0
 have := Qex h
 simp only [Tr.op_mk, Tr.n_mk, Tr.binds_mk, Tr.kids_mk, Tr.alts_mk] at this
 have h1 := Qgs this
 rw [if_pos (by simp)] at h1
 unfold shape at this
 rw [if_pos (by simp)] at this
 simp only [Bool.and_eq_true, beq_iff_eq, List.length_eq_zero_iff] at this
 exact ⟨by simpa using h1, this.1.2⟩
theorem shp_row (h0 : o = 9) : k.length = b.length := by
 subst h0
 obtain ⟨h1, h2, h3⟩ := Q36 h (w := (b.length, b.length, false)) (by omega) rfl
 simp at h1; omega
theorem Qi9 (h0 : o = 10) : k.length = 1 := by
 subst h0
 obtain ⟨h1, h2, h3⟩ := Q36 h (w := (1, 0, true)) (by omega) rfl
 simp at h1; omega
end
theorem Q99 {t s : Tr} (h : s ∈ t.kids) : cntN s + 1 <= cntN t := by
 cases t with
 | mk o n b k a =>
  simp only [Tr.kids_mk] at h
  simp only [cntN]
  induction k with
  | nil => cases h
  | cons x l ih =>
   simp only [cntNs]
   rcases List.mem_cons.1 h with rfl | h
   ·omega
   ·have := ih h; omega
theorem Qbl (t : Tr) : 1 <= cntN t := by cases t; simp [cntN]
theorem Qbo (t : Tr) (i : Nat) : cntN (kidT t i) <= cntN t := by
 unfold kidT
 by_cases h : i < t.kids.length
 ·rw [List.getD_eq_getElem?_getD, List.getElem?_eq_getElem h]
  have := Q99 (List.getElem_mem h)
  simp only [Option.getD_some]; omega
 ·rw [List.getD_eq_getElem?_getD, List.getElem?_eq_none (by omega)]
  exact Qbl t
theorem Qm4 {p : Lab -> Prop} (hp : p ⟨0, 0, [], [], []⟩) : allT p default := ⟨hp, trivial⟩
theorem Q6o {p : Lab -> Prop} (hp : p ⟨0, 0, [], [], []⟩) {t : Tr} (h : allT p t) (i : Nat) : allT p (kidT t i) := by
 unfold kidT
 by_cases hi : i < t.kids.length
 ·rw [List.getD_eq_getElem?_getD, List.getElem?_eq_getElem hi]
  exact Q22 h (List.getElem_mem hi)
 ·rw [List.getD_eq_getElem?_getD, List.getElem?_eq_none (by omega)]
  exact Qm4 hp
theorem Qdz : pOk ⟨0, 0, [], [], []⟩ := ⟨by simp, by simp, by simp, by simp, by simp⟩
theorem Q8h (id : Int) {v d : Tr} (hv : allT pOk v) (hd : allT pOk d) : allT pOk (letT id v d) := ⟨⟨by simp, by simp, by simp, by simp, by simp⟩, hv, hd, trivial⟩
theorem Qaz {d : Tr} (hd : allT pOk d) : ∀ (ids : List Int) (l : List Tr), (∀ t ∈ l, allT pOk t) -> allT pOk (letsT ids l d)
 | [], _, _ => by simpa [letsT] using hd
 | _ :: _, [], _ => by simpa [letsT] using hd
 | i :: is, t :: l, h => Q8h i (h t (by simp)) (Qaz hd is l fun s hs => h s (by simp [hs]))
theorem Q98 (id : Int) (v d : Tr) : cntN (letT id v d) = cntN v + cntN d + 1 := by simp [letT, cntN, cntNs]
theorem Qbn (d : Tr) : ∀ (ids : List Int) (l : List Tr), cntN (letsT ids l d) <= cntN d + 2 * cntNs l
 | [], l => by simp [letsT]
 | _ :: _, [] => by simp [letsT]
 | i :: is, t :: l => by
  have h1 := Qbn d is l
  have h2 := Qbl t
  simp only [letsT, Q98, cntNs]; omega
theorem Qc1 (id : Int) (v : Tr) : ∀ l : List Tr, (subTs id v l).length = l.length
 | [] => rfl
 | t :: l => by simp [subTs, Qc1 id v l]
mutual
theorem Qdy {id : Int} {v : Tr} (hv : allT pOk v) : ∀ t : Tr, allT pOk t -> allT pOk (subT id v t)
 | .mk o n b k a, h => by
  simp only [subT]
  split
  ·split
   ·exact hv
   ·exact h
  ·obtain ⟨h1, h2⟩ := h
   refine ⟨⟨h1.b, ?_, h1.a, h1.ab, h1.s⟩, Qfh hv k h2⟩
   have := h1.k
   simp only [List.length_map] at this ⊢
   rw [Qc1]; exact this
theorem Qfh {id : Int} {v : Tr} (hv : allT pOk v) : ∀ l : List Tr, allTs pOk l -> allTs pOk (subTs id v l)
 | [], _ => trivial
 | t :: l, h => ⟨Qdy hv t h.1, Qfh hv l h.2⟩
end
mutual
theorem Qeg (id : Int) (v : Tr) : ∀ t : Tr, cntN (subT id v t) <= cntN t + usesN id t * (cntN v - 1)
 | .mk o n b k a => by
  simp only [subT, usesN]
  split
  ·split
   ·simp only [cntN]; have := Qbl v; omega
   ·simp
  ·have := Qge id v k
   simp only [cntN]; omega
theorem Qge (id : Int) (v : Tr) : ∀ l : List Tr, cntNs (subTs id v l) <= cntNs l + Q62 id l * (cntN v - 1)
 | [] => by simp [subTs, cntNs]
 | t :: l => by
  have h1 := Qeg id v t
  have h2 := Qge id v l
  simp only [subTs, cntNs, Q62, Nat.add_mul]; omega
end
theorem Qae (t : Tr) : cntNs t.kids + 1 = cntN t := by cases t; simp [cntN]
theorem Qhf (l : List Tr) : cntNs l.tail <= cntNs l := by cases l <;> simp [cntNs]
theorem Qm1 {v : Tr} (hv : allT shpL v) (h : atomT v = true) : cntN v = 1 := by
 cases v with
 | mk o n b k a =>
  have hk : k = [] := by
   simp only [atomT, Tr.op_mk, Tr.kids_mk, Bool.or_eq_true, beq_iff_eq, Bool.and_eq_true, List.length_eq_zero_iff] at h
   rcases h with (h | h) | ⟨_, h⟩
   ·exact (Qey hv (.inl h)).1
   ·exact (Qey hv (.inr h)).1
   ·exact h
  subst hk
  simp [cntN, cntNs]
theorem Q9a {P Q : Tr -> Prop} {con X : Tr} (hpq : ∀ d, P d -> Q d) (hlet : ∀ ids, ∀ d, P d -> Q (letsT ids con.kids d)) : ∀ (as' : List Alt) (ks : List Tr), (∀ k ∈ ks, P k) -> Q3o con as' ks = some X -> Q X
 | [], _, _, h => by simp [Q3o] at h
 | _ :: _, [], _, h => by simp [Q3o] at h
 | a :: as', k :: ks, hk, h => by
  simp only [Q3o] at h
  split at h
  ·split at h
   ·cases h
   ·cases h
    exact hlet _ _ (hk k (by simp))
  ·split at h
   ·cases h
    exact hpq _ (hk _ (by simp))
   ·exact Q9a hpq hlet as' ks (fun s hs => hk s (by simp [hs])) h
theorem Qbh {n : Int} {X : Tr} : ∀ (bs : List Int) (ks : List Tr), Q4t n bs ks = some X -> X ∈ ks
 | [], _, h => by simp [Q4t] at h
 | _ :: _, [], h => by simp [Q4t] at h
 | b :: bs, k :: ks, h => by
  simp only [Q4t] at h
  split at h
  ·cases h; simp
  ·exact List.mem_cons_of_mem _ (Qbh bs ks h)
theorem Qgh {P : Tr -> Prop} {t X : Tr} (hw : ∀ n, P (wordT n)) (hf : ∀ b, P (flagT b)) (h : Q4d t = some X) : P X := by
 unfold Q4d at h
 dsimp only at h
 repeat' split at h
 all_goals first
  | (cases h; done)
  | (cases h; exact hw _)
  | (cases h; exact hf _)
theorem Qk4 {id : Int} {t X : Tr} : ∀ (bs : List Int) (i : Nat), defN id t bs i = some X -> X.op = 2 /\ ∃ j, X = kidT t j
 | [], _, h => by simp [defN] at h
 | b :: bs, i, h => by
  simp only [defN] at h
  split at h
  ·rename_i hc
   cases h
   exact ⟨hc.2.2, _, rfl⟩
  ·exact Qk4 bs (i + 1) h
theorem Qee {id : Int} {X : Tr} : ∀ (l : List Tr), defT id l = some X -> X.op = 2 /\ ∃ t ∈ l, ∃ j, X = kidT t j
 | [], h => by simp [defT] at h
 | t :: l, h => by
  simp only [defT] at h
  split at h
  ·rename_i hf
   cases h
   obtain ⟨h1, h2⟩ := Qk4 _ _ hf
   exact ⟨h1, t, by simp, h2⟩
  ·obtain ⟨h1, s, h2, h3⟩ := Qee l h
   exact ⟨h1, s, by simp [h2], h3⟩
theorem mem_set {l : List Tr} {i : Nat} {v s : Tr} (h : s ∈ l.set i v) : s ∈ l ∨ s = v := List.mem_or_eq_of_mem_set h
theorem Qd8 : ∀ (l : List Tr) (i : Nat) (v : Tr), cntNs (l.set i v) <= cntNs l + cntN v
 | [], _, _ => by simp [cntNs]
 | t :: l, 0, v => by simp only [List.set_cons_zero, cntNs]; omega
 | t :: l, i + 1, v => by have := Qd8 l i v; simp only [List.set_cons_succ, cntNs]; omega
theorem Qii {nodes : List Tr} {root t X : Tr} {rule n : Int} (ht : allT pOk t) (hN : ∀ s ∈ nodes, allT pOk s) (h : resT nodes root rule n t = some X) : allT pOk X := by
 have hk : ∀ i, allT pOk (kidT t i) := Q6o Qdz ht
 have hkk : ∀ i j, allT pOk (kidT (kidT t i) j) := fun i => Q6o Qdz (hk i)
 have hkm : ∀ s ∈ t.kids, allT pOk s := fun s hs => Q22 ht hs
 have hkkm : ∀ i, ∀ s ∈ (kidT t i).kids, allT pOk s := fun i s hs => Q22 (hk i) hs
 unfold resT at h
 split at h
 ·cases h
 split at h
 ·cases h
  exact Qaz (hkk 0 0) _ _ fun s hs => hkm s (List.mem_of_mem_tail hs)
 split at h
 ·unfold Q6c at h
  dsimp only at h
  split at h
  ·cases h; exact Qdy (hk 0) _ (hk 1)
  split at h
  ·cases h; exact hk 1
  split at h
  ·cases h; exact Q8h _ (hkk 0 0) (Q8h _ (hkk 0 1) (hk 1))
  split at h
  ·cases h
   have hv := hk 0
   cases hv0 : kidT t 0 with
   | mk o' n' b' k' a' =>
    rw [hv0] at hv
    obtain ⟨hl, _⟩ := hv
    refine ⟨⟨by simp, by simp, hl.a, hl.ab, ?_⟩, ?_, ?_, trivial⟩
    ·have := hl.s
     simp only [Tr.alts_mk, List.length_nil] at this ⊢; omega
    ·rw [← hv0]; exact hkk 0 0
    ·rw [← hv0]; exact Q8h _ (hkk 0 1) (hk 1)
  split at h
  ·cases h; exact Qdy (hk 0) _ (hk 1)
  ·cases h
 split at h
 ·cases h; exact hk _
 split at h
 ·exact Q9a (P := allT pOk) (Q := allT pOk) (fun _ h => h) (fun ids d hd => Qaz hd _ _ (hkkm 0)) _ _ (fun s hs => hkm s (List.mem_of_mem_tail hs)) h
 split at h
 ·exact Qgh (P := allT pOk) (fun n => ⟨⟨by simp, by simp, by simp, by simp, by simp⟩, trivial⟩) (fun b => ⟨⟨by simp, by simp, by simp, by simp, by simp⟩, trivial⟩) h
 split at h
 ·unfold Q91 at h
  dsimp only at h
  split at h
  ·cases h
  ·exact hkkm 0 _ (Qbh _ _ h)
 split at h
 ·unfold Qcm at h
  split at h
  ·cases h
  split at h
  ·cases h
  ·cases h
   refine Q8h _ (hk _) ?_
   cases t with
   | mk o' n' b' k' a' =>
    obtain ⟨hl, hl2⟩ := ht
    refine ⟨⟨hl.b, ?_, hl.a, hl.ab, hl.s⟩, Q3x.2 fun s hs => ?_⟩
    ·have := hl.k
     simpa using this
    ·rcases mem_set hs with h1 | rfl
     ·exact Q3x.1 hl2 s h1
     ·exact ⟨⟨by simp, by simp, by simp, by simp, by simp⟩, trivial⟩
 split at h
 ·unfold Q84 at h
  rw [Option.map_eq_some_iff] at h
  obtain ⟨f, hf, rfl⟩ := h
  obtain ⟨_, s, hs, j, rfl⟩ := Qee _ hf
  exact Qif _ _ _ (Q6o Qdz (hN s hs) j)
 ·cases h
theorem res_cnt {nodes : List Tr} {root t X : Tr} {rule n : Int} {m : Nat} (hs : allT shpL t) (ht : cntN t <= m) (hN : ∀ s ∈ nodes, cntN s <= m) (h : resT nodes root rule n t = some X) : cntN X <= 4 * m + 4 := by
 have hk : ∀ i, cntN (kidT t i) <= m := fun i => Nat.le_trans (Qbo t i) ht
 have hkk : ∀ i j, cntN (kidT (kidT t i) j) <= m := fun i j => Nat.le_trans (Qbo _ j) (hk i)
 have hkm : ∀ s ∈ t.kids, cntN s <= m := fun s hs => by have := Q99 hs; omega
 have hks := Qae t
 have hkt := Qhf t.kids
 have hkks : ∀ i, cntNs (kidT t i).kids <= m := fun i => by have := Qae (kidT t i); have := hk i; omega
 unfold resT at h
 split at h
 ·cases h
 split at h
 ·cases h
  have h1 := Qbn (kidT (kidT t 0) 0) (kidT t 0).binds t.kids.tail
  have := hkk 0 0
  omega
 split at h
 ·unfold Q6c at h
  dsimp only at h
  split at h
  ·cases h
   rename_i hc
   have h1 := Qeg (t.binds.getD 0 0) (kidT t 0) (kidT t 1)
   have hd : shpL ⟨0, 0, [], [], []⟩ := by unfold shpL; decide
   rw [Qm1 (Q6o hd hs 0) hc.2] at h1
   have := hk 1
   omega
  split at h
  ·cases h; have := hk 1; omega
  split at h
  ·cases h
   rw [Q98, Q98]
   have := hk 1; have := hkk 0 0; have := hkk 0 1
   omega
  split at h
  ·cases h
   simp only [cntN, cntNs, Q98]
   have := hk 1; have := hkk 0 0; have := hkk 0 1
   omega
  split at h
  ·cases h
   rename_i hc
   have h1 := Qeg (t.binds.getD 0 0) (kidT t 0) (kidT t 1)
   rw [hc.2.2, Nat.one_mul] at h1
   have := hk 1; have := hk 0
   omega
  ·cases h
 split at h
 ·cases h; have := hk t.binds.length; omega
 split at h
 ·refine Q9a (P := fun s => cntN s <= m) (Q := fun s => cntN s <= 4 * m + 4) (con := kidT t 0) (fun d hd => by omega) ?_ t.alts t.kids.tail (fun s hs => hkm s (List.mem_of_mem_tail hs)) h
  intro ids d hd
  have h1 := Qbn d ids (kidT t 0).kids
  have := hkks 0
  omega
 split at h
 ·refine Qgh (P := fun s => cntN s <= 4 * m + 4) (fun n => ?_) (fun b => ?_) h
  ·simp [wordT, cntN, cntNs]
  ·simp [flagT, cntN, cntNs]
 split at h
 ·unfold Q91 at h
  dsimp only at h
  split at h
  ·cases h
  ·have := Q99 (Qbh _ _ h)
   have := hk 0
   omega
 split at h
 ·unfold Qcm at h
  split at h
  ·cases h
  split at h
  ·cases h
  ·cases h
   rw [Q98]
   have h1 := Qd8 t.kids n.toNat (.mk 0 (mostT root + 1) [] [] [])
   have h2 : cntN (.mk 0 (mostT root + 1) [] [] []) = 1 := by simp [cntN, cntNs]
   have := hk n.toNat
   simp only [cntN] at h1 h2 ⊢
   omega
 split at h
 ·unfold Q84 at h
  rw [Option.map_eq_some_iff] at h
  obtain ⟨f, hf, rfl⟩ := h
  obtain ⟨_, s, hs, j, rfl⟩ := Qee _ hf
  rw [Qig]
  have := Qbo s j
  have := hN s hs
  omega
 ·cases h
end Go.CoreX
namespace Go.CoreX
open Go.Abs (orI)
theorem Q61 : ∀ {l : List Tr}, valTs l = true ↔ ∀ t ∈ l, valT t = true
 | [] => by simp [valTs]
 | t :: l => by simp [valTs, Q61 (l := l)]
theorem Qhm {e : List Ex} {r at' n : Int} (ha : (Q10 e r at' n).2 = 0) : check e = 0 /\ (1 <= r /\ r <= 12) /\ (0 <= at' /\ at' < (e.length : Int)) /\ ∃ X, resT (growL e) (grow e) r n (Q08 e at'.toNat) = some X /\ check (listT [] (growR e at'.toNat X)) = 0 /\ Q10 e r at' n = (listT [] (growR e at'.toNat X), 0) := by
 unfold Q10 at ha ⊢
 split at ha
 ·rename_i h1; exact absurd ha h1
 rename_i h1
 split at ha
 ·cases ha
 rename_i h2
 split at ha
 ·cases ha
 rename_i h3
 split at ha
 ·cases ha
 rename_i X hX
 split at ha
 ·cases ha
 rename_i h4
 refine ⟨by simpa using h1, by omega, by omega, X, hX, by simpa using h4, ?_⟩
 rw [if_neg h4, if_neg h1, if_neg h2, if_neg h3]
end Go.CoreX
namespace Go.CoreX
theorem Qa0 {e : List Ex} {r : Int} {i : Nat} (h : nextE e = some (r, i)) : r ∈ Q5e /\ i < e.length /\ canT r (Q08 e i) (manyE e) = true := by
 unfold nextE at h
 obtain ⟨r', hr', h1⟩ := List.exists_of_findSome?_eq_some h
 rw [Option.map_eq_some_iff] at h1
 obtain ⟨⟨t, j⟩, h2, h3⟩ := h1
 cases h3
 have h4 := List.find?_some h2
 have h5 := List.mem_of_find?_eq_some h2
 rw [List.mem_zipIdx_iff_getElem?] at h5
 simp only at h4 h5
 have h6 := (List.getElem?_eq_some_iff.1 h5).1
 rw [Q0e] at h6
 refine ⟨hr', h6, ?_⟩
 have : Q08 e j = t := by unfold Q08; rw [List.getD_eq_getElem?_getD, h5]; rfl
 rw [this]
 exact h4
def Qij : List Ex -> List Step3 -> Option (List Ex)
 | e, [] => some e
 | e, (r, i, n) :: l => if (Q10 e r i n).2 = 0 then Qij (Q10 e r i n).1 l else none
end Go.CoreX
namespace Go.CoreX
def Qik (e f : List Ex) (l : List Step3) : Int :=
 if check e ≠ 0 then check e else if check f ≠ 0 then check f else if 2000 < l.length then 2 else
 match Qij (listT [] (grow e)) l with
 | none => 14
 | some g => if same g f = true then 0 else 14
def replaySteps (e : List Ex) (budget : Int) : Bool :=
 let r := simpE e budget
 if r.2.2 ≠ 0 then check e == r.2.2 else
 let other := listT [] (wordT 5)
 let one := check e == 0 && r.1.length == 1 && (r.1.getD 0 ⟨0, 0, [], [], []⟩).op == 1 && (r.1.getD 0 ⟨0, 0, [], [], []⟩).n == 5
 Qik e r.1 r.2.1 == 0 && (one || Qik e other r.2.1 == 14)
end Go.CoreX
namespace Go.Proofs.YtpaonemmbhbgoaaGreatDoor
open Go Go.Abs Go.CoreX
variable {Γ : List (Nat × List AC)}
theorem Q7c (l : List Tr) : (Q0p l).length = l.length := by simp [Q0p]
theorem Q94 : ∀ (m : Nat) (l : List Tr), Q0p (l.drop m) = (Q0p l).drop m
 | 0, l => rfl
 | m + 1, [] => rfl
 | m + 1, t :: l => by simpa [Q0p] using Q94 m l
theorem Qek (t : Tr) : APure Tryz.prog Γ 126 [.one (.box (cTr t))] (.one (.lit (.bool (atomT t)))) := by
 intro ou
 refine AFn.walk 30 tabOk Tryz.func126 rfl (by kernel_rfl) rfl rfl fun hou => ?_
 repeat' first | refine zN ?_ | (with_reducible refine oj ?_; refine AOps.splitS rfl rfl rfl rfl (fun hb => ?_) (fun hb => ?_)) | (with_reducible refine ok ?_; first | refine ACode.condS rfl (fun hb => ?_) (fun hb => ?_) | refine ACode.cond rfl (fun hb => ?_) (fun hb => ?_))
 all_goals
  refine APure.fin rfl (WkF.ofEq ?_) (by simp) hou rfl
  try simp only [Q7c] at *
  have e : ((t.kids.length : Int) == 0) = (t.kids.length == 0) := by rw [Bool.eq_iff_iff]; simp
  unfold atomT
  simp_all
theorem Q80 {l : List Tr} {i : Nat} {t : Tr} (h : l[i]? = some t) : valTs (l.take (i + 1)) = (valTs (l.take i) && valT t) := by
 rw [Bool.eq_iff_iff, Bool.and_eq_true, Q61, Q61, Q0y h]
 constructor
 ·exact fun hh => ⟨fun t ht => hh t (by simp [ht]), hh t (by simp)⟩
 ·rintro ⟨h1, h2⟩ s hs
  rcases List.mem_append.1 hs with hs | hs
  ·exact h1 s hs
  ·simp at hs; subst hs; exact h2
theorem Q9n : ∀ {l : List Tr} {m : Nat}, l.length = m + 1 -> Q81 l = valTs (l.drop m)
 | [], m, h => by simp at h
 | x :: l, 0, h => by
  have : l = [] := List.length_eq_zero_iff.1 (by simpa using h)
  subst this
  simp [Q81, valTs]
 | x :: l, m + 1, h => by
  cases l with
  | nil => simp at h
  | cons y l =>
   have := Q9n (l := y :: l) (m := m) (by simpa using h)
   simpa only [Q81, List.drop_succ_cons] using this
def valK (o : Int) (ks : List Tr) : List Tr := if o = 5 then ks.drop (ks.length - 1) else ks
theorem valT_eq {o n : Int} {b : List Int} {ks : List Tr} {a : List Alt} (h : o = 5 -> ks ≠ []) : valT (.mk o n b ks a) = (atomT (.mk o n b ks a) || o == 2 || ((o == 5 || o == 6 || o == 9 || o == 4) && valTs (valK o ks))) := by
 simp only [valT]
 congr 1
 unfold valK
 by_cases h5 : o = 5
 ·rw [if_pos h5, if_pos h5]
  have hl := List.length_pos_iff.2 (h h5)
  rw [Q9n (m := ks.length - 1) (by omega)]
  simp [h5]
 ·rw [if_neg h5, if_neg h5]
  split
  ·rename_i h6
   have : (o == 5 || o == 6 || o == 9 || o == 4) = true := by simp only [Bool.or_eq_true, beq_iff_eq]; omega
   rw [this]; simp
  ·rename_i h6
   have : (o == 5 || o == 6 || o == 9 || o == 4) = false := by
    simp only [Bool.or_eq_false_iff, beq_eq_false_iff_ne]; omega
   rw [this]; simp
def ValOk (Γ : List (Nat × List AC)) (t : Tr) : Prop := APure Tryz.prog Γ 127 [.one (.box (cTr t))] (.one (.lit (.bool (valT t))))
theorem Q4f (hΓ : ∀ g cs, (g, cs) ∈ Γ -> idsL isO cs) : ∀ t : Tr, okT t -> allT shpL t -> ValOk Γ t
 | .mk o n b ks a, hok, hsh => by
  have ih : ∀ t ∈ ks, ValOk Γ t := fun t ht => Q4f hΓ t (Q3m hok (by simpa using ht)) (Q22 hsh (by simpa using ht))
  have hk : ks.length <= 1048576 := hok.2.1
  have h5 : o = 5 -> ks ≠ [] := fun e e2 => by have := (Qdq hsh e).1; subst e2; simp at this
  intro ou
  rw [valT_eq h5]
  refine AFn.walk 44 tabOk Tryz.func127 rfl (by kernel_rfl) rfl rfl fun hou => ?_
  refine zA ?_
  refine zca hΓ (Qek (.mk o n b ks a)) hou ?_
  refine zA ?_
  generalize atomT (.mk o n b ks a) = A
  refine AOps.splitS rfl rfl rfl rfl (fun hA => ?_) (fun hA => ?_)
  ·subst hA
   refine zA ?_
   exact APure.fin rfl (WkF.ofEq (by simp)) (by simp) hou rfl
  subst hA
  refine zA ?_
  refine ACode.cond rfl (fun hb => ?_) (fun hb => ?_)
  ·have h2 : (o == 2) = true := hb
   refine zA ?_
   exact APure.fin rfl (WkF.ofEq (by simp [h2])) (by simp) hou rfl
  have h2 : (o == 2) = false := hb
  refine zA ?_
  refine ACode.cutN 1 rfl hΓ (α := Unit) (fun _ => [(3, .one (.sl 1 (Q0p (valK o ks))))]) (fun _ => ⟨0, [], ou⟩) (fun _ => (o == 5 || o == 6 || o == 9 || o == 4) = true) ?_ fun _ hg => ?_
  ·dsimp only [List.take_succ_cons, List.take_zero, List.cons_append, List.nil_append]
   repeat' first | refine zN ?_ | (with_reducible refine oj ?_; refine AOps.splitS rfl rfl rfl rfl (fun hb => ?_) (fun hb => ?_)) | (with_reducible refine ok ?_; first | refine ACode.condS rfl (fun hb => ?_) (fun hb => ?_) | refine ACode.cond rfl (fun hb => ?_) (fun hb => ?_))
   ·have h5' : o = 5 := by simpa using hb
    have hl := List.length_pos_iff.2 (h5 h5')
    refine AOps.wk 28 rfl (y := .one (int ((ks.length - 1 : Nat) : Int))) (.ofEq (by simp [Q7c]; omega)) ?_
    refine zS (AStep.sliceFrom (sz := 1) tabOk rfl rfl rfl rfl rfl rfl rfl (by simp [Q7c])) ?_
    refine zA ?_
    exact cInv ⟨(), id, by simp [h5'], LessR.of rfl (FrSub.consP rfl (.ofEq (by unfold valK; rw [if_pos h5', Q94]; rfl)) (by simp) .nil) (by simp) .nil rfl rfl hou⟩
   iterate 3
    ·have h5' : o ≠ 5 := by simp_all
     exact cInv ⟨(), id, by simp_all, LessR.of rfl (FrSub.consP rfl (.ofEq (by unfold valK; rw [if_neg h5']; rfl)) (by simp) .nil) (by simp) .nil rfl rfl hou⟩
   ·refine APure.fin rfl (WkF.ofEq ?_) (by simp) hou rfl
    simp_all
  rw [hg]
  obtain ⟨L, hL⟩ : ∃ L, L = valK o ks := ⟨_, rfl⟩
  rw [← hL]
  have hLm : ∀ t ∈ L, ValOk Γ t := by
   intro t ht
   rw [hL] at ht
   unfold valK at ht
   split at ht
   ·exact ih t (List.mem_of_mem_drop ht)
   ·exact ih t ht
  have hLl : L.length <= 1048576 := by
   rw [hL]; unfold valK
   split
   ·simp; omega
   ·exact hk
  clear hL
  refine zA ?_
  refine ACode.loopR hΓ (α := Nat) (fun j => [(36, .one (int j)), (35, .one (int (Q0p L).length)), (34, .one (.sl 1 (Q0p L)))])
   (fun j => ⟨0, [], ou⟩) (fun m j => j <= L.length /\ valTs (L.take j) = true /\ m = L.length - j) (a0 := 0) (ρ := id) ⟨by omega, by simp [valTs], rfl⟩ (LessR.of rfl zFS (by simp) zLO rfl rfl hou) fun m j hj => ?_
  obtain ⟨hjl, hno, rfl⟩ := hj
  refine zA ?_
  refine ACode.cond rfl (fun hb2 => ?_) (fun hb2 => ?_)
  ·have hlt : j < L.length := by simpa using hb2
   obtain ⟨t, ht⟩ := Q01 hlt
   have hvs := Q80 ht
   rw [hno, Bool.true_and] at hvs
   refine zA ?_
   refine zS (zIA rfl rfl rfl (by omega) (Q1e ht)) ?_
   refine zA ?_
   refine zca hΓ (hLm t (List.mem_of_getElem? ht)) hou ?_
   refine zA ?_
   refine ACode.condS rfl (fun hb3 => ?_) (fun hb3 => ?_)
   ·have hv : valT t = false := by simpa using hb3
    refine zA ?_
    refine APure.fin rfl (WkF.ofEq ?_) (by simp) hou rfl
    have : valTs L = false := by
     rw [← Bool.not_eq_true, Q61]
     intro h
     rw [h t (List.mem_of_getElem? ht)] at hv
     cases hv
    rw [this, h2]; rfl
   ·have hv : valT t = true := by simpa using hb3
    refine zM ?_
    exact cInv ⟨L.length - (j + 1), j + 1, id, by omega, ⟨by omega, by rw [hvs, hv], rfl⟩, LessR.of rfl zFS (by simp) zLO rfl rfl hou⟩
  ·have hlt : j = L.length := by simp at hb2; omega
   subst hlt
   rw [List.take_length] at hno
   refine zA ?_
   refine APure.fin rfl (WkF.ofEq ?_) (by simp) hou rfl
   rw [hno, h2]; rfl
end Go.Proofs.YtpaonemmbhbgoaaGreatDoor
namespace Go.CoreX
mutual
def usesL (id : Int) : LTr -> List LTr
 | .mk i o n nb b ks a => if o = 0 then (if n = id then [.mk i o n nb b ks a] else []) else Q15 id ks
def Q15 (id : Int) : List LTr -> List LTr
 | [] => []
 | t :: l => usesL id t ++ Q15 id l
end
mutual
theorem Q4g (id : Int) : ∀ t : LTr, (usesL id t).length = usesN id (erT t)
 | .mk i o n nb b ks a => by
  simp only [usesL, erT, usesN]
  split
  ·split <;> rfl
  ·exact Q6v id ks
theorem Q6v (id : Int) : ∀ l : List LTr, (Q15 id l).length = Q62 id (erTs l)
 | [] => rfl
 | t :: l => by simp only [Q15, erTs, Q62, List.length_append, Q4g id t, Q6v id l]
end
theorem Q9p (id : Int) : ∀ (l r : List LTr), Q15 id (l ++ r) = Q15 id l ++ Q15 id r
 | [], r => rfl
 | t :: l, r => by simp only [List.cons_append, Q15, Q9p id l r, List.append_assoc]
mutual
theorem Qan (id : Int) : ∀ t : Tr, usesN id t <= cntN t
 | .mk o n b ks a => by
  have := Q83 id ks
  simp only [usesN, cntN]
  split
  ·split <;> omega
  ·omega
theorem Q83 (id : Int) : ∀ l : List Tr, Q62 id l <= cntNs l
 | [] => by simp [Q62, cntNs]
 | t :: l => by
  have h1 := Qan id t
  have h2 := Q83 id l
  simp only [Q62, cntNs]; omega
end
end Go.CoreX
namespace Go.Proofs.YtpaonemmbhbgoaaGreatDoor
open Go Go.Abs Go.CoreX
variable {Γ : List (Nat × List AC)}
theorem Q4u (t : LTr) : (erT t).kids = t.kids.map erT := by cases t; simp [erT, LTr.kids, Q0l]
theorem Q2p {t s : LTr} (h : s ∈ t.kids) : erT s ∈ (erT t).kids := by rw [Q4u]; exact List.mem_map_of_mem h
theorem Q1l {ou : Outer} {t s : LTr} (h : Owns ou (objs t)) (hs : s ∈ t.kids) : Owns ou (objs s) := fun p hp => h p ((Q7t t p).2 (.inr (Q7u hs hp)))
theorem Q4b {l : List LTr} {i : Nat} {t : LTr} (h : l[i]? = some t) : (kC l)[i]? = some [.ptr (.o t.id) 0] := by simp [kC, h]
theorem Qfz (l r : List LTr) : kC (l ++ r) = kC l ++ kC r := by simp [kC]
theorem Q1b (l : List LTr) : (kC l).length = l.length := by simp [kC]
def UsesOk (Γ : List (Nat × List AC)) (t : LTr) : Prop := ∀ (id : Int) (ou : Outer), Owns ou (objs t) -> AFn Tryz.prog Γ 130 [.one (.ptr (.o t.id) 0), .one (int id)] ou (fun r ou' => r = .one (.sl 1 (kC (usesL id t))) /\ ou' = ou)
theorem Qdo (hΓ : ∀ g cs, (g, cs) ∈ Γ -> idsL isO cs) : ∀ t : LTr, okT (erT t) -> cntN (erT t) <= 1048576 -> UsesOk Γ t
 | .mk i o n nb b ks a, hok, hc => by
  intro q ou ho
  have hkl : ks.length <= 1048576 := by have := hok.2.1; simpa [Q0l] using this
  have ih : ∀ t ∈ ks, UsesOk Γ t := fun t ht => Qdo hΓ t (Q3m hok (Q2p (t := .mk i o n nb b ks a) ht)) (by
   have := Q5s ht
   simp only [erT, cntN] at hc; omega)
  have hi : ou i = some (.cells (lC (.mk i o n nb b ks a))) := Q0a ho
  simp only [lC] at hi
  refine AFn.walk 37 tabOk Tryz.func130 rfl (by kernel_rfl) rfl rfl fun hou => ?_
  refine zA ?_
  refine zS (zLD rfl rfl hi rfl) ?_
  refine zA ?_
  refine ACode.cond rfl (fun hb1 => ?_) (fun hb1 => ?_)
  ·have h0 : o = 0 := by simpa using hb1
   refine zA ?_
   refine zS (zLD rfl rfl hi rfl) ?_
   refine zA ?_
   refine ACode.cond rfl (fun hb2 => ?_) (fun hb2 => ?_)
   ·have h2 : n = q := by simpa using hb2
    refine zA ?_
    refine AFn.fin' rfl (WkF.ofEq ?_) (by simp) hou ⟨rfl, rfl⟩
    simp only [usesL, if_pos h0, if_pos h2]; rfl
   ·have h2 : ¬ n = q := by simpa using hb2
    refine zA ?_
    refine AFn.fin' rfl (WkF.one (.nilS 1)) (by simp) hou ⟨?_, rfl⟩
    simp only [usesL, if_pos h0, if_neg h2]; rfl
  have h0 : ¬ o = 0 := by simpa using hb1
  refine zA ?_
  refine zS (zLD rfl rfl hi rfl) ?_
  refine zA ?_
  refine ACode.growS 5 81 1 rfl ?_
  refine ACode.loopR hΓ (α := Nat) (fun j => [(26, .one (int j)), (25, .one (int (kC ks).length)), (24, .one (.sl 1 (kC ks))), (5, .one (.gs 1 (kC (Q15 q (ks.take j))) (.l 0))), (1, .one (int q))])
   (fun j => ⟨1, [(0, .tok 81 1 (kC (Q15 q (ks.take j))).length)], ou⟩) (fun m j => j <= ks.length /\ m = ks.length - j) (a0 := 0) (ρ := id) ⟨by omega, rfl⟩ (LessR.of rfl zFS (by simp) zLO rfl rfl hou) fun m j hj => ?_
  obtain ⟨hjl, rfl⟩ := hj
  refine zA ?_
  refine ACode.cond rfl (fun hb2 => ?_) (fun hb2 => ?_)
  ·have hlt : j < ks.length := by simpa [Q1b] using hb2
   obtain ⟨t, ht⟩ := Q01 hlt
   have htm := List.mem_of_getElem? ht
   have hsn : Q15 q (ks.take (j + 1)) = Q15 q (ks.take j) ++ usesL q t := by rw [Q0y ht, Q9p]; simp [Q15]
   have hle : (kC (Q15 q (ks.take j))).length + (kC (usesL q t)).length <= 1048576 := by
    have h1 := Q6v q (ks.take (j + 1))
    have h2 := Q83 q (erTs (ks.take (j + 1)))
    have h3 : cntNs (erTs (ks.take (j + 1))) <= cntNs (erTs ks) := by
     have : erTs ks = erTs (ks.take (j + 1)) ++ erTs (ks.drop (j + 1)) := by rw [Q0l, Q0l, Q0l, ← List.map_append, List.take_append_drop]
     rw [this, Q4x]; omega
    simp only [erT, cntN] at hc
    rw [hsn, List.length_append] at h1
    rw [Q1b, Q1b]; omega
   refine zA ?_
   refine zS (zIA rfl rfl rfl (by omega) (Q4b ht)) ?_
   refine zA ?_
   refine AOps.call1 hΓ rfl rfl rfl rfl rfl rfl rfl (by exact ⟨trivial, trivial, trivial⟩) hou (ih t htm q ou (Q1l ho htm)) fun r ou' hq _ _ => ?_
   obtain ⟨rfl, rfl⟩ := hq
   refine zA ?_
   refine AOps.app tabOk rfl rfl rfl rfl rfl rfl rfl rfl rfl (Base.gs' _ 81 1 _ _ rfl rfl) (.sl _ _) rfl ?_ ?_ ?_
   ·show _ * 8 <= _; omega
   ·omega
   refine zM ?_
   have hsk : kC (Q15 q (ks.take (j + 1))) = kC (Q15 q (ks.take j)) ++ kC (usesL q t) := by rw [hsn, Qfz]
   refine cInv ⟨ks.length - (j + 1), j + 1, fun k => if k = 0 then 1 else k, by omega, ⟨by omega, rfl⟩, ?_⟩
   simp only [hsk]
   refine LessR.of rfl (FrSub.cons rfl (.ofEq rfl) (FrSub.cons rfl (.ofEq rfl) (FrSub.consP rfl (.ofEq rfl) (by simp) (FrSub.consGs rfl rfl (by rw [← Qfz]; simp) (FrSub.cons rfl (.ofEq rfl) .nil))))) (by rw [← Qfz]; simp) zLO rfl rfl hou
  ·have hlt : j = ks.length := by simp [Q1b] at hb2; omega
   subst hlt
   refine zA ?_
   refine AFn.fin' rfl (WkF.one (.gsE rfl)) (by simp) hou ⟨?_, rfl⟩
   simp only [usesL, if_neg h0, List.take_length]
def letN (k : Nat) (q : Int) (v d : LTr) : LTr := .mk k 4 0 none [q] [v, d] []
theorem Qb6 (k : Nat) (q : Int) (v d : LTr) : erT (letN k q v d) = letT q (erT v) (erT d) := by simp [letN, letT, erT, erTs]
theorem Qfu (k : Nat) (q : Int) (v d : LTr) : (AObj.cells (lC (letN k q v d))).ids isO := by
 simp only [letN, lC, AObj.ids, idsL, AC.ids, true_and, and_true]
 exact ⟨Qcx _ (fun _ => trivial) _ _, Qg4 _ (fun _ => trivial) _, Q6d _ (fun _ => trivial) _⟩
theorem Qft (hΓ : ∀ g cs, (g, cs) ∈ Γ -> idsL isO cs) (q : Int) (v d : LTr) (ou : Outer) : AFn Tryz.prog Γ 129 [.one (int q), .one (.ptr (.o v.id) 0), .one (.ptr (.o d.id) 0)] ou
  (fun r ou' => ∃ k, r = .one (.ptr (.o k) 0) /\ NewO ou ou' [(k, .cells (lC (letN k q v d)))]) := by
 refine AFn.walk 14 tabOk Tryz.func129 rfl (by kernel_rfl) rfl rfl fun hou => ?_
 iterate 14 (first | ((with_reducible refine oj ?_); refine zau ?_) | (with_reducible refine zst ?_) | ((with_reducible refine Q0o ?_ ?_); rfl) | (with_reducible refine ok ?_; first | refine ACode.condT rfl ?_ | refine ACode.condF rfl ?_))
 refine AOps.wkObj (.l 0) rfl (cs' := lC (letN 0 q v d)) (fun w C xs h => ?_) ?_
 ·exact (show WkL _ _ from .cons (.refl _) (.cons (.refl _) (.cons (.refl _) (.cons (.refl _) (.cons (.nilS 2) .nil))))) w C xs h
 refine AOps.cedes [0] rfl (by decide) hou fun k hk => ⟨[(13, .one (.ptr (.o k) 0))], [], [.cells (lC (letN k q v d))], .cons rfl rfl .nil, .nil, ?_, ?_⟩
 ·exact .cons rfl (AObj.sub_f (fun i hi => by cases i with | l q => exact hi.elim | o q => rfl) _ (Qfu 0 q v d)) .nil
 have hN := NewO.add hk hou (Qfu k q v d)
 refine zA ?_
 exact AFn.fin' rfl (WkF.ofEq rfl) (by simp) hN.ok ⟨k, rfl, hN⟩
end Go.Proofs.YtpaonemmbhbgoaaGreatDoor
