/- Rename, walked: the renaming of a tree of own nodes. -/
import Derived.Test.YtpaonemmbhbgoaaGreatDoorB8
set_option maxRecDepth 10000
set_option linter.unusedVariables false
set_option linter.unusedSimpArgs false
namespace Go.CoreX
def rnAs (nm : Nm) (f : Int) : List LAlt → List LAlt × Nm × Int
 | [] => ([], nm, f)
 | x :: l => (⟨x.tag, x.nb, frB f x.binds⟩ :: (rnAs (frN nm f x.binds) (f + x.binds.length) l).1, (rnAs (frN nm f x.binds) (f + x.binds.length) l).2)
def ren1 (o : Int) (nm : Nm) (f : Int) (b : List Int) : List Int × Nm × Int := if o = 9 then (b, nm, f) else (frB f b, frN nm f b, f + b.length)
mutual
def rnL (nm : Nm) (f : Int) : LTr → LTr × Nm × Int
 | .mk i o n nb b k a =>
   let s1 := ren1 o nm f b
   let s2 := rnAs s1.2.1 s1.2.2 a
   let s3 := rnLs s2.2.1 s2.2.2 k
   (.mk i o (if o = 0 then (nm n).getD n else n) nb s1.1 s3.1 s2.1, s3.2)
def rnLs (nm : Nm) (f : Int) : List LTr → List LTr × Nm × Int
 | [] => ([], nm, f)
 | t :: l => ((rnL nm f t).1 :: (rnLs (rnL nm f t).2.1 (rnL nm f t).2.2 l).1, (rnLs (rnL nm f t).2.1 (rnL nm f t).2.2 l).2)
end
def nbA (l : List LAlt) : Nat := (l.map fun x => x.binds.length).sum
mutual
def nbL : LTr → Nat
 | .mk _ o _ _ b k a => (if o = 9 then 0 else b.length) + nbA a + nbLs k
def nbLs : List LTr → Nat
 | [] => 0
 | t :: l => nbL t + nbLs l
end
def ownB (nb : Nb) (b : List Int) : Prop := nb = none → b = []
mutual
def okL : LTr → Prop
 | .mk _ o _ nb b k a => (o ≠ 9 → ownB nb b) ∧ b.length ≤ 1048576 ∧ k.length ≤ 1048576 ∧ a.length ≤ 1048576 ∧ (∀ x ∈ a, ownB x.nb x.binds ∧ x.binds.length ≤ 1048576) ∧ okLs k
def okLs : List LTr → Prop
 | [] => True
 | t :: l => okL t ∧ okLs l
end
theorem okLs_iff : ∀ {l : List LTr}, okLs l ↔ ∀ t ∈ l, okL t
 | [] => by simp [okLs]
 | t :: l => by simp [okLs, okLs_iff (l := l)]
end Go.CoreX
namespace Go.Proofs.YtpaonemmbhbgoaaGreatDoor
open Go Go.Abs Go.CoreX
variable {Γ : List (Nat × List AC)}
theorem keys_app (l r : List (Nat × AObj)) : keys (l ++ r) = keys l ++ keys r := by simp [keys]
def fnR (kn kf kw : Nat) : AC := .fn (.func 166) [] [.ptr (.o kn) 0, .ptr (.o kf) 0, .ptr (.o kw) 0]
def RenQ (ou : Outer) (kn km kf : Nat) (nm : Nm) (f : Int) (t : LTr) (r : FV) (ou' : Outer) : Prop :=
 r = .tup [] ∧ ∃ ck' l', RnS ou' kn km kf (rnL nm f t).2.1 ck' l' (rnL nm f t).2.2 ∧ Owns ou' (objs (rnL nm f t).1) ∧ OuOk ou' ∧ ∀ j, j ≠ km → j ≠ kf → j ∉ keys (objs t) → ou' j = ou j
def RenOk (Γ : List (Nat × List AC)) (t : LTr) : Prop := ∀ (ou : Outer) (kn km kf kw : Nat) (nm : Nm) (ck : Nat) (l : List (Nat × Int × Int)) (f : Int), RnS ou kn km kf nm ck l f → ou kw = some (.cells [fnR kn kf kw]) → Owns ou (objs t) → (keys (objs t)).Nodup →
 (∀ k ∈ keys (objs t), k ≠ kn ∧ k ≠ km ∧ k ≠ kf ∧ k ≠ kw) → 0 ≤ f → f + nbL t ≤ 4611686018427387904 → OuOk ou →
 AFn Tryz.prog Γ 166 [.one (.ptr (.o t.id) 0), .one (.ptr (.o kn) 0), .one (.ptr (.o kf) 0), .one (.ptr (.o kw) 0)] ou (RenQ ou kn km kf nm f t)
theorem ids_node (o n : Int) (nb : Nb) (b : List Int) (ks : List LTr) (a : List LAlt) : (AObj.cells [int o, int n, bC nb b, .sl 1 (kC ks), .sl 2 (a.map lAlt)]).ids isO :=
 ⟨trivial, trivial, ids_bC _ (fun _ => trivial) _ _, ids_kC _ (fun _ => trivial) _, ids_lAlts _ (fun _ => trivial) _, trivial⟩
structure NdS (ou ov : Outer) (kn km kf kw i : Nat) (cs : List AC) (K : List Nat) (nm : Nm) (ck : Nat) (l : List (Nat × Int × Int)) (f : Int) (Lb La Lk : List (Nat × AObj)) : Prop where
 R : RnS ov kn km kf nm ck l f
 w : ov kw = some (.cells [fnR kn kf kw])
 i : ov i = some (.cells cs)
 b : Owns ov Lb
 a : Owns ov La
 k : Owns ov Lk
 ok : OuOk ov
 fr : ∀ j, j ≠ km → j ≠ kf → j ∉ K → ov j = ou j
theorem NdS.frame {ou ov ow : Outer} {kn km kf kw i : Nat} {cs : List AC} {K S : List Nat} {nm nm' : Nm} {ck ck' : Nat} {l l' : List (Nat × Int × Int)} {f f' : Int} {Lb La Lk Lb' La' Lk' : List (Nat × AObj)} (h : NdS ou ov kn km kf kw i cs K nm ck l f Lb La Lk)
   (hR : RnS ow kn km kf nm' ck' l' f') (hok : OuOk ow) (hfr : ∀ j, j ≠ km → j ≠ kf → j ∉ S → ow j = ov j) (hS : ∀ j ∈ S, j ∈ K ∧ j ≠ i) (hK : ∀ k ∈ K, k ≠ kn ∧ k ≠ km ∧ k ≠ kf ∧ k ≠ kw) (hi : i ∈ K) (hw : kw ≠ km ∧ kw ≠ kf)
   (hb : Owns ow Lb') (ha : Owns ow La') (hk : Owns ow Lk') : NdS ou ow kn km kf kw i cs K nm' ck' l' f' Lb' La' Lk' where
 R := hR
 w := (hfr kw hw.1 hw.2 fun hj => (hK kw (hS kw hj).1).2.2.2 rfl).trans h.w
 i := (hfr i (hK i hi).2.1 (hK i hi).2.2.1 fun hj => (hS i hj).2 rfl).trans h.i
 b := hb
 a := ha
 k := hk
 ok := hok
 fr := fun j h1 h2 h3 => (hfr j h1 h2 fun hj => h3 (hS j hj).1).trans (h.fr j h1 h2 h3)
abbrev nm0 : Nm := fun _ => none
theorem ouAdd_ok {ou : Outer} {k : Nat} {os : List AObj} (h : OuOk ou) (ho : ∀ o ∈ os, o.ids isO) : OuOk (ouAdd ou k os) := by
 intro m o hm
 rcases Nat.lt_or_ge m k with h1 | h1
 · rw [ouAdd_old h1] at hm; exact h m o hm
 · obtain ⟨p, rfl⟩ : ∃ p, m = k + p := ⟨m - k, by omega⟩
   rw [ouAdd_new] at hm
   exact ho o (List.mem_of_getElem? hm)
def ouCut (ou : Outer) (k : Nat) : Outer := fun m => if m < k then ou m else none
def RenameQ (ou : Outer) (t : LTr) (f : Int) (r : FV) (ou' : Outer) : Prop :=
 r = .one (int (rnL nm0 f t).2.2) ∧ Owns ou' (objs (rnL nm0 f t).1) ∧ OuOk ou' ∧ ∀ j, j ∉ keys (objs t) → ou' j = ou j
structure NewO (ou ou' : Outer) (L : List (Nat × AObj)) : Prop where
 own : Owns ou' L
 new : ∀ k ∈ keys L, ou k = none
 old : ∀ m, m ∉ keys L → ou' m = ou m
 ok : OuOk ou'
 nd : (keys L).Nodup
theorem NewO.nil {ou : Outer} (h : OuOk ou) : NewO ou ou [] := ⟨fun p hp => by simp at hp, fun k hk => by simp [keys] at hk, fun _ _ => rfl, h, by simp [keys]⟩
theorem NewO.trans {ou ou1 ou2 : Outer} {L M : List (Nat × AObj)} (h : NewO ou ou1 L) (k : NewO ou1 ou2 M) : NewO ou ou2 (L ++ M) := by
 have hLM : ∀ j ∈ keys L, j ∉ keys M := fun j hj hm => by
   have h1 := k.new j hm
   obtain ⟨p, hp, rfl⟩ := List.mem_map.1 hj
   rw [h.own p hp] at h1
   cases h1
 refine ⟨Owns.app.2 ⟨h.own.frame fun j hj => k.old j (hLM j hj), k.own⟩, fun j hj => ?_, fun m hm => ?_, k.ok, ?_⟩
 · rw [keys_app, List.mem_append] at hj
   by_cases e : j ∈ keys L
   · exact h.new j e
   · rw [← h.old j e]
     exact k.new j (hj.resolve_left e)
 · rw [keys_app, List.mem_append, not_or] at hm
   rw [k.old m hm.2, h.old m hm.1]
 · rw [keys_app, List.nodup_append]
   exact ⟨h.nd, k.nd, fun a ha b hb e => hLM a ha (e ▸ hb)⟩
theorem NewO.frame {ou ou' : Outer} {L M : List (Nat × AObj)} (h : NewO ou ou' L) (ho : Owns ou M) : Owns ou' M := ho.frame fun j hj => h.old j fun hm => by
 obtain ⟨p, hp, rfl⟩ := List.mem_map.1 hj
 have := h.new _ hm
 rw [ho p hp] at this
 cases this
def CloneQ (ou : Outer) (l : List Int) (r : FV) (ou' : Outer) : Prop := ∃ nb, ownB nb l ∧ r = .one (bC nb l) ∧ NewO ou ou' (bO nb l)
end Go.Proofs.YtpaonemmbhbgoaaGreatDoor
namespace Go.CoreX
def ixE (e : List Ex) : List Ex := e.mapIdx fun i x => { x with n := (i : Nat) }
theorem ixE_get {e : List Ex} {i : Nat} : (ixE e)[i]? = (e[i]?).map fun x => { x with n := (i : Nat) } := by simp [ixE]
end Go.CoreX
namespace Go.Proofs.YtpaonemmbhbgoaaGreatDoor
open Go Go.Abs Go.CoreX
def ownO : LTr → List (Nat × AObj)
 | .mk i o n nb b k a => (bO nb b ++ aO a) ++ [(i, .cells [int o, int n, bC nb b, .sl 1 (kC k), .sl 2 (a.map lAlt)])]
theorem objs_mem : ∀ (t : LTr) (p : Nat × AObj), p ∈ objs t ↔ p ∈ ownO t ∨ p ∈ objss t.kids
 | .mk i o n nb b k a, p => by
   simp only [objs, ownO, LTr.kids, List.cons_append, List.mem_cons, List.mem_append, List.not_mem_nil, or_false]
   constructor
   · rintro (h | (h | h) | h) <;> simp [h]
   · rintro (((h | h) | h) | h) <;> simp [h]
theorem objs_count (k : Nat) : ∀ t : LTr, (keys (objs t)).count k = (keys (ownO t)).count k + (keys (objss t.kids)).count k
 | .mk i o n nb b ks a => by
   simp only [objs, ownO, LTr.kids, keys, List.map_cons, List.map_append, List.cons_append, List.count_cons, List.count_append, List.map_nil, List.count_nil]
   omega
structure LinkL (e : List Ex) (lts : List LTr) (B : Nb → List Int → Prop := ownB) : Prop where
 len : lts.length = e.length
 at_ : ∀ (i : Nat) (x : Ex), e[i]? = some x → ∃ id nb a, lts[i]? = some (.mk id x.op x.n nb x.binds (x.kids.map fun q => lts.getD q.toNat default) a) ∧ a.map LAlt.er = x.alts ∧ B nb x.binds ∧ ∀ y ∈ a, B y.nb y.binds
theorem LinkL.nil {B : Nb → List Int → Prop} : LinkL [] [] B := ⟨rfl, fun i x h => by simp at h⟩
theorem LinkL.snoc {B : Nb → List Int → Prop} {e : List Ex} {lts : List LTr} (h : LinkL e lts B) (hk : kidsIn e) {x : Ex} (hx : ∀ q ∈ x.kids, 0 ≤ q ∧ q < (e.length : Int)) {id : Nat} {nb : Nb} {a : List LAlt} (ha : a.map LAlt.er = x.alts) (hb : B nb x.binds) (hab : ∀ y ∈ a, B y.nb y.binds) :
   LinkL (e ++ [x]) (lts ++ [.mk id x.op x.n nb x.binds (x.kids.map fun q => lts.getD q.toNat default) a]) B := by
 have hgd : ∀ (q : Int), 0 ≤ q → q < (e.length : Int) → ∀ t, (lts ++ [t]).getD q.toNat default = lts.getD q.toNat default := fun q h0 h1 t => getD_app (by rw [h.len]; omega)
 refine ⟨by simp [h.len], fun i y hy => ?_⟩
 by_cases hi : i < e.length
 · rw [List.getElem?_append_left hi] at hy
   obtain ⟨id', nb', a', h1, h2, h3, h4⟩ := h.at_ i y hy
   refine ⟨id', nb', a', ?_, h2, h3, h4⟩
   rw [List.getElem?_append_left (by rw [h.len]; exact hi), h1]
   congr 2
   refine List.map_congr_left fun q hq => ?_
   have := hk i y hy q hq
   exact (hgd q this.1 (by omega) _).symm
 · have hie : i = e.length := by
     have := (List.getElem?_eq_some_iff.1 hy).1
     simp at this; omega
   subst hie
   simp at hy
   subst hy
   refine ⟨id, nb, a, ?_, ha, hb, hab⟩
   rw [← h.len, List.getElem?_append_right (by simp)]
   simp only [Nat.sub_self, List.getElem?_cons_zero]
   congr 2
   exact List.map_congr_left fun q hq => (hgd q (hx q hq).1 (hx q hq).2 _).symm
section
variable {e : List Ex} {lts : List LTr} {B : Nb → List Int → Prop}
theorem LinkL.getD (h : LinkL e lts B) {i : Nat} {t : LTr} (ht : lts[i]? = some t) : lts.getD i default = t := by rw [List.getD_eq_getElem?_getD, ht]; rfl
theorem LinkL.er (h : LinkL e lts B) (hk : kidsIn e) : ∀ (n i : Nat) (t : LTr), i < n → lts[i]? = some t → erT t = treeAt e i
 | 0, i, t, hi, _ => by omega
 | n + 1, i, t, hi, ht => by
   have hil : i < e.length := by rw [← h.len]; exact (List.getElem?_eq_some_iff.1 ht).1
   obtain ⟨x, hx⟩ := get_of_lt hil
   obtain ⟨id, nb, a, h1, h2, _⟩ := h.at_ i x hx
   rw [ht] at h1
   cases h1
   rw [treeAt_node hk hx]
   simp only [erT, h2, erTs_eq, List.map_map]
   congr 1
   refine List.map_congr_left fun q hq => ?_
   have hq' := hk i x hx q hq
   obtain ⟨t', ht'⟩ := get_of_lt (l := lts) (i := q.toNat) (by rw [h.len]; omega)
   simp only [Function.comp, h.getD ht']
   exact h.er hk n q.toNat t' (by omega) ht'
theorem LinkL.own (h : LinkL e lts B) (hk : kidsIn e) : ∀ (n i : Nat) (t : LTr), i < n → lts[i]? = some t → ∀ p ∈ objs t, p ∈ lts.flatMap ownO
 | 0, i, t, hi, _ => by omega
 | n + 1, i, t, hi, ht => fun p hp => by
   have hil : i < e.length := by rw [← h.len]; exact (List.getElem?_eq_some_iff.1 ht).1
   obtain ⟨x, hx⟩ := get_of_lt hil
   obtain ⟨id, nb, a, h1, _⟩ := h.at_ i x hx
   rw [ht] at h1
   rcases (objs_mem t p).1 hp with hp | hp
   · exact List.mem_flatMap.2 ⟨t, List.mem_of_getElem? ht, hp⟩
   · cases h1
     simp only [LTr.kids, objss_eq] at hp
     obtain ⟨u, hu, hpu⟩ := List.mem_flatMap.1 hp
     obtain ⟨q, hq, rfl⟩ := List.mem_map.1 hu
     have hq' := hk i x hx q hq
     obtain ⟨t', ht'⟩ := get_of_lt (l := lts) (i := q.toNat) (by rw [h.len]; omega)
     rw [h.getD ht'] at hpu
     exact h.own hk n q.toNat t' (by omega) ht' p hpu
def ownC (lts : List LTr) (k : Nat) (l : Lab) : Int := ((keys (ownO (lts.getD l.n.toNat default))).count k : Nat)
theorem objss_count (k : Nat) : ∀ l : List LTr, (((keys (objss l)).count k : Nat) : Int) = (l.map fun t => (((keys (objs t)).count k : Nat) : Int)).sum
 | [] => by simp [objss, keys]
 | t :: l => by
   have := objss_count k l
   simp only [keys] at this
   simp only [objss, keys, List.map_append, List.count_append, List.map_cons, List.sum_cons, ← this]
   push_cast; rfl
theorem LinkL.count (h : LinkL e lts B) (hk : kidsIn e) (k : Nat) : ∀ (n i : Nat) (t : LTr), i < n → lts[i]? = some t → sumT (ownC lts k) (treeAt (ixE e) i) = ((keys (objs t)).count k : Nat)
 | 0, i, t, hi, _ => by omega
 | n + 1, i, t, hi, ht => by
   have hil : i < e.length := by rw [← h.len]; exact (List.getElem?_eq_some_iff.1 ht).1
   obtain ⟨x, hx⟩ := get_of_lt hil
   obtain ⟨id, nb, a, h1, _⟩ := h.at_ i x hx
   rw [ht] at h1
   have hki : kidsIn (ixE e) := fun j y hy => by
     rw [ixE_get] at hy
     cases he : e[j]? with
     | none => rw [he] at hy; cases hy
     | some z =>
       rw [he] at hy
       simp at hy; subst hy
       exact hk j z he
   have hxi : (ixE e)[i]? = some { x with n := (i : Nat) } := by rw [ixE_get, hx]; rfl
   rw [treeAt_node hki hxi]
   simp only [sumT, sumTs_eq, List.map_map]
   rw [objs_count]
   have e1 : ownC lts k ⟨x.op, (i : Nat), x.binds, x.kids.map (Tr.op ∘ fun k => treeAt (ixE e) k.toNat), x.alts⟩ = ((keys (ownO t)).count k : Nat) := by
     unfold ownC
     simp only [Int.toNat_natCast, h.getD ht]
   have e2 : (x.kids.map (sumT (ownC lts k) ∘ fun k => treeAt (ixE e) k.toNat)).sum = ((keys (objss t.kids)).count k : Nat) := by
     rw [objss_count]
     cases h1
     simp only [LTr.kids, List.map_map]
     congr 1
     refine List.map_congr_left fun q hq => ?_
     have hq' := hk i x hx q hq
     obtain ⟨t', ht'⟩ := get_of_lt (l := lts) (i := q.toNat) (by rw [h.len]; omega)
     simp only [Function.comp, h.getD ht']
     exact h.count hk k n q.toNat t' (by omega) ht'
   rw [e1, e2]
   push_cast; rfl
theorem LinkL.ok (h : LinkL e lts) (hk : kidsIn e) (hs : ∀ x ∈ e, x.binds.length ≤ 1048576 ∧ x.kids.length ≤ 1048576 ∧ x.alts.length ≤ 1048576 ∧ ∀ a ∈ x.alts, a.binds.length ≤ 1048576) : ∀ (n i : Nat) (t : LTr), i < n → lts[i]? = some t → okL t
 | 0, i, t, hi, _ => by omega
 | n + 1, i, t, hi, ht => by
   have hil : i < e.length := by rw [← h.len]; exact (List.getElem?_eq_some_iff.1 ht).1
   obtain ⟨x, hx⟩ := get_of_lt hil
   obtain ⟨id, nb, a, h1, h2, h3, h4⟩ := h.at_ i x hx
   obtain ⟨s1, s2, s3, s4⟩ := hs x (List.mem_of_getElem? hx)
   rw [ht] at h1
   cases h1
   refine ⟨fun _ => h3, s1, by simpa using s2, by have := congrArg List.length h2; simp at this; omega, fun y hy => ⟨h4 y hy, ?_⟩, okLs_iff.2 fun u hu => ?_⟩
   · exact s4 y.er (by rw [← h2]; exact List.mem_map_of_mem hy)
   · obtain ⟨q, hq, rfl⟩ := List.mem_map.1 hu
     have hq' := hk i x hx q hq
     obtain ⟨t', ht'⟩ := get_of_lt (l := lts) (i := q.toNat) (by rw [h.len]; omega)
     rw [h.getD ht']
     exact h.ok hk hs n q.toNat t' (by omega) ht'
end
variable {Γ : List (Nat × List AC)}
def nodesL (ts : List LTr) (n : Nat) : List AC := ts.map (fun t => .ptr (.o t.id) 0) ++ List.replicate (n - ts.length) (.lit (.pointer none))
theorem ids_nodesL (p : Abs.Id → Prop) (hp : ∀ k, p (.o k)) (ts : List LTr) (n : Nat) : idsL p (nodesL ts n) := by
 refine idsL_app ?_ (ids_zs p _ _)
 induction ts with
 | nil => trivial
 | cons t ts ih => exact ⟨hp _, ih⟩
@[simp] theorem ids_nodesL_l (k : Nat) (ts : List LTr) (n : Nat) : idsL (inL k) (nodesL ts n) := ids_nodesL _ (fun _ => trivial) ts n
@[simp] theorem ids_nodesL_o (ts : List LTr) (n : Nat) : idsL isO (nodesL ts n) := ids_nodesL _ (fun _ => trivial) ts n
def kidsL (ts : List LTr) (ks : List Int) : List LTr := ks.map fun k => ts.getD k.toNat default
@[simp] theorem ids_kC_l (k : Nat) (ts : List LTr) : idsS (inL k) (kC ts) := ids_kC _ (fun _ => trivial) ts
@[simp] theorem ids_kC_o (ts : List LTr) : idsS isO (kC ts) := ids_kC _ (fun _ => trivial) ts
@[simp] theorem ids_lAlts_l (k : Nat) (l : List LAlt) : idsS (inL k) (l.map lAlt) := ids_lAlts _ (fun _ => trivial) l
@[simp] theorem ids_lAlts_o (l : List LAlt) : idsS isO (l.map lAlt) := ids_lAlts _ (fun _ => trivial) l
@[simp] theorem ids_bC_l (k : Nat) (nb : Nb) (l : List Int) : (bC nb l).ids (inL k) := ids_bC _ (fun _ => trivial) nb l
@[simp] theorem ids_bC_o (nb : Nb) (l : List Int) : (bC nb l).ids isO := ids_bC _ (fun _ => trivial) nb l
@[simp] theorem ren_kC (ρ : Nat → Nat) (l : List LTr) : renS ρ (kC l) = kC l := renS_pure ρ _ (ids_kC_o l)
@[simp] theorem ren_lAlts (ρ : Nat → Nat) (l : List LAlt) : renS ρ (l.map lAlt) = l.map lAlt := renS_pure ρ _ (ids_lAlts_o l)
@[simp] theorem ren_bC (ρ : Nat → Nat) (nb : Nb) (l : List Int) : (bC nb l).ren ρ = bC nb l := by cases nb <;> simp [bC, AC.ren, Abs.Id.ren]
theorem NewO.add {ou : Outer} {k : Nat} {o : AObj} (hk : ∀ m, k ≤ m → ou m = none) (hou : OuOk ou) (ho : o.ids isO) : NewO ou (ouAdd ou k [o]) [(k, o)] := by
 refine ⟨fun p hp => ?_, fun j hj => ?_, fun m hm => ?_, ouAdd_ok hou fun q hq => by simp at hq; subst hq; exact ho, by simp [keys]⟩
 · simp at hp; subst hp
   exact ouAdd_new 0
 · simp [keys] at hj; subst hj; exact hk _ (Nat.le_refl _)
 · simp [keys] at hm
   rcases Nat.lt_or_ge m k with h1 | h1
   · exact ouAdd_old h1
   · obtain ⟨p, rfl⟩ : ∃ p, m = k + p := ⟨m - k, by omega⟩
     rw [ouAdd_new, hk _ h1]
     cases p with
     | zero => simp at hm
     | succ p => simp
def GrowQ (e : List Ex) (ou : Outer) (r : FV) (ou' : Outer) : Prop := ∃ t : LTr, r = .one (.ptr (.o t.id) 0) ∧ erT t = grow e ∧ okL t ∧ Owns ou' (objs t) ∧ (keys (objs t)).Nodup ∧ (∀ k ∈ keys (objs t), ou k = none) ∧ OuOk ou' ∧ ∀ j o, ou j = some o → ou' j = some o
end Go.Proofs.YtpaonemmbhbgoaaGreatDoor
namespace Go.CoreX
def rnTA (nm : Nm) (f : Int) : List Alt → List Alt × Nm × Int
 | [] => ([], nm, f)
 | x :: l => (⟨x.tag, frB f x.binds⟩ :: (rnTA (frN nm f x.binds) (f + x.binds.length) l).1, (rnTA (frN nm f x.binds) (f + x.binds.length) l).2)
mutual
def rnT (nm : Nm) (f : Int) : Tr → Tr × Nm × Int
 | .mk o n b k a =>
   let s1 := ren1 o nm f b
   let s2 := rnTA s1.2.1 s1.2.2 a
   let s3 := rnTs s2.2.1 s2.2.2 k
   (.mk o (if o = 0 then (nm n).getD n else n) s1.1 s3.1 s2.1, s3.2)
def rnTs (nm : Nm) (f : Int) : List Tr → List Tr × Nm × Int
 | [] => ([], nm, f)
 | t :: l => ((rnT nm f t).1 :: (rnTs (rnT nm f t).2.1 (rnT nm f t).2.2 l).1, (rnTs (rnT nm f t).2.1 (rnT nm f t).2.2 l).2)
end
def nbLab (l : Lab) : Int := (if l.op = 9 then 0 else l.binds.length : Nat) + ((l.alts.map fun x => x.binds.length).sum : Nat)
def nbE (e : List Ex) : Int := sumT nbLab (grow e)
def renewE (e : List Ex) (f : Int) : List Ex × Int :=
 if check e ≠ 0 then ([], check e) else if f < 0 ∨ 1048576 < f then ([], 4) else if 1048576 < (rnT (fun _ => none) f (grow e)).2.2 then ([], 4) else (listT [] (rnT (fun _ => none) f (grow e)).1, 0)
-- The shape stays.
end Go.CoreX
namespace Go.Proofs.YtpaonemmbhbgoaaGreatDoor
open Go Go.Abs Go.CoreX
variable {Γ : List (Nat × List AC)}
end Go.Proofs.YtpaonemmbhbgoaaGreatDoor
namespace Go.CoreX
-- What holds of all nodes.
mutual
def allT (p : Lab → Prop) : Tr → Prop
 | .mk o n b k a => p ⟨o, n, b, k.map Tr.op, a⟩ ∧ allTs p k
def allTs (p : Lab → Prop) : List Tr → Prop
 | [] => True
 | t :: l => allT p t ∧ allTs p l
end
theorem allTs_iff {p : Lab → Prop} : ∀ {l : List Tr}, allTs p l ↔ ∀ t ∈ l, allT p t
 | [] => by simp [allTs]
 | t :: l => by simp [allTs, allTs_iff (l := l)]
structure shLab (l : Lab) : Prop where
 b : l.op = 2 ∨ l.op = 4 ∨ l.op = 5 ∨ l.op = 9 ∨ l.binds = []
 v : l.op = 0 → l.alts = [] ∧ l.ops = []
def nmAt (o : Int) (nm : Nm) (f : Int) (b : List Int) (a : List Alt) : Nm × Int := (rnTA (ren1 o nm f b).2.1 (ren1 o nm f b).2.2 a).2
end Go.CoreX
namespace Go.CoreX
structure ShN (o n : Int) (b : List Int) (k : Nat) (a : List Alt) : Prop where
 sh : ∃ ops : List Int, ops.length = k ∧ shape ⟨o, n, b, ops, a⟩ = true
section
variable {o n : Int} {b : List Int} {k : Nat} {a : List Alt}
theorem ShN.want (h : ShN o n b k a) (h7 : ¬ (o = 7 ∨ o = 13)) : ∃ w : Int × Int × Bool, (∃ ops : List Int, ops.length = k ∧ wants ⟨o, n, b, ops, a⟩ = some w) ∧ (k : Int) = w.1 ∧ (b.length : Int) = w.2.1 ∧ a = [] := by
 obtain ⟨ops, hl, h⟩ := h.sh
 unfold shape at h
 rw [if_neg h7] at h
 split at h
 · cases h
 · rename_i kk bb u hw
   simp only [Bool.and_eq_true, beq_iff_eq, List.length_eq_zero_iff] at h
   exact ⟨_, ⟨ops, hl, hw⟩, by rw [← hl]; exact h.1.1.1, h.1.1.2, h.1.2⟩
theorem ShN.lam (h : ShN 2 n b k a) : k = 1 ∧ a = [] := by
 obtain ⟨w, ⟨ops, hl, hw⟩, h1, h2, h3⟩ := h.want (by omega)
 cases hw; exact ⟨by simp at h1; omega, h3⟩
theorem ShN.app (h : ShN 3 n b k a) : 1 ≤ k ∧ b = [] ∧ a = [] := by
 obtain ⟨w, ⟨ops, hl, hw⟩, h1, h2, h3⟩ := h.want (by omega)
 cases hw
 refine ⟨?_, List.length_eq_zero_iff.1 (by simp at h2; simp [h2]), h3⟩
 simp only at h1; split at h1 <;> omega
theorem ShN.lett (h : ShN 4 n b k a) : k = 2 ∧ b.length = 1 ∧ a = [] := by
 obtain ⟨w, ⟨ops, hl, hw⟩, h1, h2, h3⟩ := h.want (by omega)
 cases hw; exact ⟨by simp at h1; omega, by simp at h2; omega, h3⟩
theorem ShN.recs (h : ShN 5 n b k a) : k = b.length + 1 ∧ 1 ≤ b.length ∧ a = [] := by
 obtain ⟨w, ⟨ops, hl, hw⟩, h1, h2, h3⟩ := h.want (by omega)
 cases hw
 refine ⟨by simp at h1; omega, ?_, h3⟩
 simp only at h2; split at h2 <;> omega
theorem ShN.prim (h : ShN 8 n b k a) : 0 ≤ n ∧ n ≤ 11 ∧ (k : Int) = arityL.getD n.toNat 0 ∧ b = [] ∧ a = [] := by
 obtain ⟨w, ⟨ops, hl, hw⟩, h1, h2, h3⟩ := h.want (by omega)
 have hw : (if between n 0 11 = true then some (arityL.getD n.toNat 0, (0 : Int), true) else none) = some w := hw
 split at hw
 · rename_i hb
   cases hw
   simp [between] at hb
   exact ⟨hb.1, hb.2, h1, List.length_eq_zero_iff.1 (by simp at h2; simp [h2]), h3⟩
 · cases hw
theorem ShN.row (h : ShN 9 n b k a) : k = b.length ∧ a = [] := by
 obtain ⟨w, ⟨ops, hl, hw⟩, h1, h2, h3⟩ := h.want (by omega)
 cases hw; exact ⟨by simp at h1; omega, h3⟩
theorem ShN.one (h : ShN o n b k a) (ho : o = 10 ∨ o = 12 ∨ o = 16) : k = 1 ∧ b = [] ∧ a = [] := by
 obtain ⟨w, ⟨ops, hl, hw⟩, h1, h2, h3⟩ := h.want (by omega)
 rcases ho with rfl | rfl | rfl <;> (cases hw; exact ⟨by simp at h1; omega, List.length_eq_zero_iff.1 (by simp at h2; simp [h2]), h3⟩)
theorem ShN.two (h : ShN 11 n b k a) : k = 2 ∧ b = [] ∧ a = [] := by
 obtain ⟨w, ⟨ops, hl, hw⟩, h1, h2, h3⟩ := h.want (by omega)
 cases hw; exact ⟨by simp at h1; omega, List.length_eq_zero_iff.1 (by simp at h2; simp [h2]), h3⟩
theorem ShN.alts7 (h : ShN o n b k a) (ho : o = 7 ∨ o = 13) : k = 1 + a.length ∧ b = [] ∧ (o = 13 → 1 ≤ a.length) ∧ ∀ i x, a[i]? = some x → altBad ⟨o, n, b, [], a⟩ i x = false := by
 obtain ⟨ops, hl, h⟩ := h.sh
 unfold shape at h
 rw [if_pos ho] at h
 simp only [Bool.and_eq_true, beq_iff_eq, List.length_eq_zero_iff] at h
 obtain ⟨⟨h1, h2⟩, h3⟩ := h
 unfold altsOk at h1
 simp only [Bool.and_eq_true, Bool.not_eq_true', beq_iff_eq, Bool.or_eq_true, decide_eq_true_eq] at h1
 obtain ⟨h4, h5, h6⟩ := h1
 refine ⟨by omega, h2, fun h13 => ?_, fun i x hx => ?_⟩
 · rcases h6 with h6 | h6
   · subst h13; cases h6
   · omega
 · rw [List.any_eq_false] at h4
   have := h4 (x, i) (by rw [List.mk_mem_zipIdx_iff_getElem?]; exact hx)
   simpa [altBad] using this
theorem ShN.case (h : ShN 7 n b k a) : k = 1 + a.length ∧ b = [] := ⟨(h.alts7 (.inl rfl)).1, (h.alts7 (.inl rfl)).2.1⟩
theorem ShN.handle (h : ShN 13 n b k a) : k = 1 + a.length ∧ b = [] ∧ 1 ≤ a.length ∧ ∀ i x, a[i]? = some x → (i = 0 ↔ x.tag = -1) ∧ x.binds.length = if i = 0 then 1 else 2 := by
 obtain ⟨h1, h2, h3, h4⟩ := h.alts7 (.inr rfl)
 refine ⟨h1, h2, h3 rfl, fun i x hx => ?_⟩
 have := h4 i x hx
 simp only [altBad, Bool.or_eq_false_iff, Bool.and_eq_false_iff, Bool.not_eq_false', beq_iff_eq, beq_eq_false_iff_ne] at this
 obtain ⟨_, h5, h6⟩ := this
 refine ⟨?_, ?_⟩
 · rcases h5 with h5 | h5
   · exact absurd rfl h5
   · by_cases hi : i = 0
     · subst hi; simpa using h5
     · have : ((i : Int) == 0) = false := by simp [hi]
       rw [this] at h5
       simp [hi] at h5 ⊢; exact h5
 · rcases h6 with h6 | h6
   · exact absurd rfl h6
   · split at h6
     · rw [if_neg (by omega)]; omega
     · rename_i hh
       have : i = 0 ∨ i = 1 := by omega
       rcases this with rfl | rfl <;> simp <;> omega
theorem ShN.leaf (h : ShN o n b k a) (ho : o = 0 ∨ o = 1 ∨ o = 17) : k = 0 ∧ b = [] ∧ a = [] := by
 obtain ⟨w, ⟨ops, hl, hw⟩, h1, h2, h3⟩ := h.want (by omega)
 rcases ho with rfl | rfl | rfl <;> (cases hw; exact ⟨by simp at h1; omega, List.length_eq_zero_iff.1 (by simp at h2; simp [h2]), h3⟩)
end
def shpQ (l : Lab) : Prop := ShN l.op l.n l.binds l.ops.length l.alts
theorem shpQ_node {t : Tr} (h : allT shpQ t) : ShN t.op t.n t.binds t.kids.length t.alts := by
 cases t with
 | mk o n b k a => simpa [shpQ] using h.1
theorem allT_mem {p : Lab → Prop} {t s : Tr} (h : allT p t) (hs : s ∈ t.kids) : allT p s := by
 cases t with
 | mk o n b k a => exact allTs_iff.1 h.2 s hs
theorem allT_get {p : Lab → Prop} {t : Tr} (h : allT p t) {i : Nat} (hi : i < t.kids.length) : allT p (t.kids.getD i default) := by
 rw [List.getD_eq_getElem?_getD, List.getElem?_eq_getElem hi]
 exact allT_mem h (List.getElem_mem hi)
theorem allT_lab {p : Lab → Prop} {t : Tr} (h : allT p t) : p ⟨t.op, t.n, t.binds, t.kids.map Tr.op, t.alts⟩ := by
 cases t with
 | mk o n b k a => exact h.1
mutual
theorem allT_imp {p q : Lab → Prop} (h : ∀ l, p l → q l) : ∀ t : Tr, allT p t → allT q t
 | .mk o n b k a, ht => ⟨h _ ht.1, allTs_imp h k ht.2⟩
theorem allTs_imp {p q : Lab → Prop} (h : ∀ l, p l → q l) : ∀ l : List Tr, allTs p l → allTs q l
 | [], _ => trivial
 | t :: l, ht => ⟨allT_imp h t ht.1, allTs_imp h l ht.2⟩
end
theorem shpQ_of {l : Lab} (h : shape ⟨l.op, l.n, l.binds, l.ops, l.alts⟩ = true) : shpQ l := ⟨⟨l.ops, rfl, h⟩⟩
end Go.CoreX
namespace Go.CoreX
def ind (a b k : Int) : Int := if a ≤ k ∧ k < b then 1 else 0
def cntB (k : Int) (l : Lab) : Int := ((bindersN l.op l.binds l.alts).count k : Nat)
-- Names that a tree does not bind keep their new names.
mutual
def bndT : Tr → List Int
 | .mk o _ b k a => bindersN o b a ++ bndTs k
def bndTs : List Tr → List Int
 | [] => []
 | t :: l => bndT t ++ bndTs l
end
end Go.CoreX
namespace Go.CoreX
def tl (a : Alt) : Int × Nat := (a.tag, a.binds.length)
def altBadP (op : Int) (L : List (Int × Nat)) (p : (Int × Nat) × Nat) : Bool :=
 ((L.take p.2).any (fun b => b.1 == p.1.1) || decide (p.1.1 < -1)) ||
 (op == 7 && p.1.1 == -1 && (decide ((p.2 : Int) < L.length - 1) || decide (0 < p.1.2))) ||
 ((op == 13 && !(((p.2 : Int) == 0) == (p.1.1 == -1))) || (op == 13 && !((p.1.2 : Int) == (if 2 < (p.2 : Int) + 1 then 2 else (p.2 : Int) + 1))))
end Go.CoreX
namespace Go.CoreX
def pLab (l : Lab) : Prop := ∀ (e : List Ex) (x : Ex), (∀ k ∈ x.kids, 0 ≤ k ∧ k < (e.length : Int)) → labE e x = l → nodeErrF false e x = 0
def nmR (nm : Nm) : Prop := ∀ k v, nm k = some v → 0 ≤ v ∧ v ≤ 1048575
theorem sum0 {α : Type} {f : α → Int} : ∀ {l : List α}, (∀ x ∈ l, 0 ≤ f x) → (l.map f).sum = 0 → ∀ x ∈ l, f x = 0
 | [], _, _, x, hx => by simp at hx
 | y :: l, h, hs, x, hx => by
   have h1 := h y (by simp)
   have h2 : ∀ z ∈ l, 0 ≤ f z := fun z hz => h z (by simp [hz])
   have h3 : 0 ≤ (l.map f).sum := by
     clear h h1 hs hx
     induction l with
     | nil => simp
     | cons z l ih =>
       have := h2 z (by simp)
       have := ih fun y hy => h2 y (by simp [hy])
       simp only [List.map_cons, List.sum_cons]; omega
   simp only [List.map_cons, List.sum_cons] at hs
   rcases List.mem_cons.1 hx with rfl | hx
   · omega
   · exact sum0 h2 (by omega) x hx
open Classical in
mutual
theorem sum_all {p : Lab → Prop} : ∀ t : Tr, allT p t → sumT (fun l => if p l then 0 else 1) t = 0
 | .mk o n b k a, h => by
   simp only [sumT, sum_alls k h.2]
   rw [if_pos h.1]; rfl
theorem sum_alls {p : Lab → Prop} : ∀ l : List Tr, allTs p l → sumTs (fun l => if p l then 0 else 1) l = 0
 | [], _ => rfl
 | t :: l, h => by simp only [sumTs, sum_all t h.1, sum_alls l h.2]; rfl
end
open Classical in
theorem allT_labs {p : Lab → Prop} {g : List Ex} (h : IsTree g) (ha : allT p (grow g)) : ∀ l ∈ labs g, p l := by
 have h1 := sum_tree (fun l => if p l then (0 : Int) else 1) h
 rw [sum_all _ ha] at h1
 intro l hl
 have := sum0 (fun x _ => by split <;> omega) h1 l hl
 split at this
 · assumption
 · cases this
theorem check_of {e : List Ex} (h1 : treeErr e = 0) (h2 : ∀ x ∈ e, nodeErrF false e x = 0) (h3 : (allBinders e).Nodup) (h4 : occT [] (grow e) = []) : check e = 0 := by
 unfold check body
 rw [if_neg (by simpa using h1), if_neg (by simpa using (firstErr_zero _ _).2 h2), if_neg (by rw [(hasDup_false _).2 (by simpa using h3)]; simp), if_pos]
 unfold freeOf
 rw [h4]; rfl
abbrev nmN : Nm := fun _ => none
end Go.CoreX
namespace Go.Proofs.YtpaonemmbhbgoaaGreatDoor
open Go Go.Abs Go.CoreX
variable {Γ : List (Nat × List AC)}
end Go.Proofs.YtpaonemmbhbgoaaGreatDoor
namespace Go.CoreX
structure pOk (l : Lab) : Prop where
 b : l.binds.length ≤ 1048576
 k : l.ops.length ≤ 1048576
 a : l.alts.length ≤ 1048576
 ab : ∀ x ∈ l.alts, x.binds.length ≤ 1048576
 s : l.binds.length + (l.alts.flatMap (·.binds)).length ≤ 4194304
-- Two lists in order, with the same members, are one list.
end Go.CoreX
namespace Go.Proofs.YtpaonemmbhbgoaaGreatDoor
open Go Go.Abs Go.CoreX
theorem okB_ofLabs {g : List Ex} (hl : g.length ≤ 1048576) (h : ∀ l ∈ labs g, pOk l) : okB g := by
 refine ⟨⟨hl, fun x hx => ?_⟩, fun x hx => ?_⟩
 · have := h _ (List.mem_map_of_mem (f := labE g) hx)
   exact ⟨this.b, by simpa [labE] using this.k, this.a, this.ab⟩
 · exact (h _ (List.mem_map_of_mem (f := labE g) hx)).s
end Go.Proofs.YtpaonemmbhbgoaaGreatDoor
namespace Go.CoreX
def mapA (ν : Int → Int) (x : Alt) : Alt := ⟨x.tag, x.binds.map ν⟩
mutual
def mapT (ν : Int → Int) : Tr → Tr
 | .mk o n b k a => .mk o (if o = 0 then ν n else n) (if o = 9 then b else b.map ν) (mapTs ν k) (a.map (mapA ν))
def mapTs (ν : Int → Int) : List Tr → List Tr
 | [] => []
 | t :: l => mapT ν t :: mapTs ν l
end
end Go.CoreX
namespace Go.CoreX
def InjOn (ν : Int → Int) (B : List Int) : Prop := ∀ x ∈ B, ∀ y ∈ B, ν x = ν y → x = y
def RelU (B : List Int) (ν : Int → Int) (s s' : CS) : Prop := ∀ k ∈ B, s'.u (ν k) = s.u k ∧ s'.d (ν k) = s.d k ∧ s'.m (ν k) = s.m k
theorem RelU.visit {B : List Int} {ν : Int → Int} (hi : InjOn ν B) {s s' : CS} (h : RelU B ν s s') {n : Int} (hn : n ∈ B) (deep : Int) : RelU B ν (visitU s n deep) (visitU s' (ν n) deep) := fun k hk => by
 obtain ⟨h1, h2, h3⟩ := h k hk
 obtain ⟨g1, g2, g3⟩ := h n hn
 have hup : ∀ (p p' : Int → Int) (v v' : Int), p' (ν k) = p k → v' = v → upF p' (ν n) v' (ν k) = upF p n v k := fun p p' v v' e1 e2 => by
   unfold upF
   by_cases e : n = k
   · subst e; rw [if_pos rfl, if_pos rfl, e2]
   · rw [if_neg e, if_neg (fun e3 => e (hi n hn k hk e3)), e1]
 refine ⟨hup _ _ _ _ h1 (by rw [g1]), h2, ?_⟩
 simp only [visitU]
 rw [g2]
 split
 · exact hup _ _ _ _ h3 (by rw [g3])
 · exact h3
theorem RelU.bind {B : List Int} {ν : Int → Int} (hi : InjOn ν B) (d : Int) : ∀ (l : List Int) {s s' : CS}, (∀ k ∈ l, k ∈ B) → RelU B ν s s' → RelU B ν (bindU d s l) (bindU d s' (l.map ν))
 | [], s, s', _, h => h
 | n :: l, s, s', hl, h => by
   have hn := hl n (by simp)
   have h1 : RelU B ν ⟨s.u, upF s.d n d, s.m⟩ ⟨s'.u, upF s'.d (ν n) d, s'.m⟩ := fun k hk => by
     obtain ⟨h1, h2, h3⟩ := h k hk
     refine ⟨h1, ?_, h3⟩
     simp only [upF]
     by_cases e : n = k
     · subst e; rw [if_pos rfl, if_pos rfl]
     · rw [if_neg e, if_neg (fun e3 => e (hi n hn k hk e3)), h2]
   exact RelU.bind hi d l (fun k hk => hl k (by simp [hk])) h1
end Go.CoreX
namespace Go.CoreX
def atomT (t : Tr) : Bool := t.op == 0 || t.op == 1 || (t.op == 6 && t.kids.length == 0)
mutual
def valT : Tr → Bool
 | .mk o n b k a => atomT (.mk o n b k a) || o == 2 || (if o = 5 then valLast k else if o = 6 ∨ o = 9 ∨ o = 4 then valTs k else false)
def valTs : List Tr → Bool
 | [] => true
 | t :: l => valT t && valTs l
def valLast : List Tr → Bool
 | [] => true
 | t :: l => match l with
   | [] => valT t
   | _ :: _ => valLast l
end
mutual
def usesN (id : Int) : Tr → Nat
 | .mk o n b k a => if o = 0 then (if n = id then 1 else 0) else usesNs id k
def usesNs (id : Int) : List Tr → Nat
 | [] => 0
 | t :: l => usesN id t + usesNs id l
end
mutual
def subT (id : Int) (v : Tr) : Tr → Tr
 | .mk o n b k a => if o = 0 then (if n = id then v else .mk o n b k a) else .mk o n b (subTs id v k) a
def subTs (id : Int) (v : Tr) : List Tr → List Tr
 | [] => []
 | t :: l => subT id v t :: subTs id v l
end
def letT (id : Int) (v body : Tr) : Tr := .mk 4 0 [id] [v, body] []
def letsT : List Int → List Tr → Tr → Tr
 | i :: is, t :: ts, b => letT i t (letsT is ts b)
 | _, _, b => b
def wrapI (n : Int) : Int := (n + 1073741824) % 2147483648 - 1073741824
def wordT (n : Int) : Tr := .mk 1 n [] [] []
def flagT (b : Bool) : Tr := .mk 6 (if b then 1 else 0) [] [] []
def kidT (t : Tr) (i : Nat) : Tr := t.kids.getD i default
def arithT (t : Tr) : Option Tr :=
 let x := kidT t 0; let y := kidT t 1
 if t.n > 6 ∨ x.op ≠ 1 ∨ y.op ≠ 1 then none
 else if t.n = 0 then some (wordT (wrapI (x.n + y.n)))
 else if t.n = 1 then some (wordT (wrapI (x.n - y.n)))
 else if t.n = 2 then some (wordT (wrapI (x.n * y.n)))
 else if t.n = 3 then (if y.n = 0 then none else some (wordT (wrapI (x.n.tdiv y.n))))
 else if t.n = 4 then (if y.n = 0 then none else some (wordT (wrapI (x.n.tmod y.n))))
 else if t.n = 6 then some (flagT (x.n == y.n))
 else if t.n = 5 then some (flagT (decide (x.n < y.n)))
 else some (wordT (wrapI 0))
def chosenL (con : Tr) : List Alt → List Tr → Option Tr
 | a :: as', k :: ks => if a.tag = con.n then (if a.binds.length ≠ con.kids.length then none else some (letsT a.binds con.kids k)) else if a.tag = -1 ∧ valT con = true then some k else chosenL con as' ks
 | _, _ => none
def chosenT (t : Tr) : Option Tr := chosenL (kidT t 0) t.alts t.kids.tail
def fieldL (n : Int) : List Int → List Tr → Option Tr
 | b :: bs, k :: ks => if b = n then some k else fieldL n bs ks
 | _, _ => none
def fieldT (t : Tr) : Option Tr :=
 let row := kidT t 0
 if row.op ≠ 9 ∨ valT row = false then none else fieldL t.n row.binds row.kids
def operandsN (t : Tr) : Nat :=
 if t.op = 3 ∨ t.op = 6 ∨ t.op = 8 ∨ t.op = 9 ∨ t.op = 10 ∨ t.op = 11 then t.kids.length else if t.op = 7 ∨ t.op = 12 then 1 else 0
mutual
def mostT : Tr → Int
 | .mk o n b k a => mostTs ((bindersN o b a).foldl max (-1)) k
def mostTs (m : Int) : List Tr → Int
 | [] => m
 | t :: l => mostTs (max m (mostT t)) l
end
def namedT (root t : Tr) (n : Int) : Option Tr :=
 if n < 0 ∨ (operandsN t : Int) ≤ n ∨ atomT (kidT t n.toNat) = true then none
 else if (t.kids.take n.toNat).all valT = false then none
 else some (letT (mostT root + 1) (kidT t n.toNat) (.mk t.op t.n t.binds (t.kids.set n.toNat (.mk 0 (mostT root + 1) [] [] [])) t.alts))
def defN (id : Int) (t : Tr) : List Int → Nat → Option Tr
 | [], _ => none
 | b :: bs, i => if b = id ∧ (t.op = 4 ∨ t.op = 5) ∧ (kidT t i).op = 2 then some (kidT t i) else defN id t bs (i + 1)
def defT (id : Int) : List Tr → Option Tr
 | [] => none
 | t :: l => match defN id t t.binds 0 with
   | some f => some f
   | none => defT id l
def unfoldT (nodes : List Tr) (root t : Tr) : Option Tr := (defT t.n nodes).map fun f => (rnT nmN (mostT root + 1) f).1
def letRuleT (rule : Int) (t : Tr) : Option Tr :=
 let v := kidT t 0; let body := kidT t 1; let id := t.binds.getD 0 0
 if rule = 2 ∧ atomT v = true then some (subT id v body)
 else if rule = 3 ∧ usesN id body = 0 ∧ valT v = true then some body
 else if rule = 8 ∧ v.op = 4 then some (letT (v.binds.getD 0 0) (kidT v 0) (letT id (kidT v 1) body))
 else if rule = 9 ∧ v.op = 7 ∧ v.alts.length = 1 then some (.mk 7 0 [] [kidT v 0, letT id (kidT v 1) body] v.alts)
 else if rule = 11 ∧ v.op = 2 ∧ usesN id body = 1 then some (subT id v body)
 else none
def unusedT (t : Tr) : Bool := t.binds.all fun id => usesN id (kidT t t.binds.length) == 0
def resT (nodes : List Tr) (root : Tr) (rule n : Int) (t : Tr) : Option Tr :=
 if n ≠ 0 ∧ rule ≠ 10 then none
 else if rule = 1 ∧ t.op = 3 ∧ (kidT t 0).op = 2 ∧ ((kidT t 0).binds.length : Int) = t.kids.length - 1 then some (letsT (kidT t 0).binds t.kids.tail (kidT (kidT t 0) 0))
 else if t.op = 4 ∧ rule ≠ 10 then letRuleT rule t
 else if rule = 4 ∧ t.op = 5 ∧ unusedT t = true then some (kidT t t.binds.length)
 else if rule = 5 ∧ t.op = 7 ∧ (kidT t 0).op = 6 then chosenT t
 else if rule = 6 ∧ t.op = 8 ∧ t.kids.length = 2 then arithT t
 else if rule = 7 ∧ t.op = 10 then fieldT t
 else if rule = 10 then namedT root t n
 else if rule = 12 ∧ t.op = 0 then unfoldT nodes root t
 else none
def growStepR (p : Nat) (u : Tr) (ts : List Tr) (x : Ex) : List Tr := ts ++ [if ts.length = p then u else nodeOf ts x]
def growLR (e : List Ex) (p : Nat) (u : Tr) : List Tr := e.foldl (growStepR p u) []
def growR (e : List Ex) (p : Nat) (u : Tr) : Tr := (growLR e p u).getD (e.length - 1) default
def applyE (e : List Ex) (rule at' n : Int) : List Ex × Int :=
 if check e ≠ 0 then ([], check e)
 else if rule < 1 ∨ 12 < rule then ([], 4)
 else if at' < 0 ∨ (e.length : Int) ≤ at' then ([], 12)
 else match resT (growL e) (grow e) rule n (treeAt e at'.toNat) with
   | none => ([], 12)
   | some x => if check (listT [] (growR e at'.toNat x)) ≠ 0 then ([], 2) else (listT [] (growR e at'.toNat x), 0)
def manyE (e : List Ex) (id : Int) : Nat := e.countP fun x => x.op == 0 && x.n == id
def canLetT (rule : Int) (t : Tr) (many : Nat) : Bool :=
 let v := kidT t 0
 if rule = 2 then atomT v
 else if rule = 3 then many == 0 && valT v
 else if rule = 8 then v.op == 4
 else if rule = 9 then v.op == 7 && v.alts.length == 1
 else if rule = 11 then v.op == 2 && many == 1
 else false
def restT (t : Tr) (many : Int → Nat) : Bool := !(t.binds.any fun id => decide (0 < many id)) || unusedT t
def canT (rule : Int) (t : Tr) (many : Int → Nat) : Bool :=
 if t.op = 4 then canLetT rule t (many (t.binds.getD 0 0))
 else if rule = 4 ∧ t.op = 5 then restT t many
 else if rule = 6 ∧ t.op = 8 then t.kids.length == 2 && (arithT t).isSome
 else if rule = 7 ∧ t.op = 10 then (fieldT t).isSome
 else if rule = 5 ∧ t.op = 7 then (kidT t 0).op == 6 && (chosenT t).isSome
 else if rule = 1 ∧ t.op = 3 then (kidT t 0).op == 2 && ((kidT t 0).binds.length : Int) == t.kids.length - 1
 else false
def orderR : List Int := [3, 4, 6, 7, 5, 1, 2, 11, 8, 9]
def nextE (e : List Ex) : Option (Int × Nat) := orderR.findSome? fun r => ((growL e).zipIdx.find? fun p => canT r p.1 (manyE e)).map fun p => (r, p.2)
theorem growLR_len (e : List Ex) (p : Nat) (u : Tr) : (growLR e p u).length = e.length := by
 have : ∀ (l : List Ex) (ts : List Tr), (l.foldl (growStepR p u) ts).length = ts.length + l.length := by
   intro l
   induction l with
   | nil => intro ts; simp
   | cons x l ih => intro ts; rw [List.foldl_cons, ih]; simp [growStepR]; omega
 unfold growLR
 rw [this]; simp
def factR : List Ex := listT [] (.mk 4 0 [1] [.mk 1 2 [] [] [], .mk 0 1 [] [] []] [])
end Go.CoreX
namespace Go.CoreX
mutual
def putL (k : Nat) (u : LTr) : LTr → LTr
 | .mk i o n nb b ks a => if i = k then u else .mk i o n nb b (putLs k u ks) a
def putLs (k : Nat) (u : LTr) : List LTr → List LTr
 | [] => []
 | t :: l => putL k u t :: putLs k u l
end
inductive SubL (t0 : LTr) : LTr → Prop
 | here : SubL t0 t0
 | kid {t s : LTr} : s ∈ t.kids → SubL t0 s → SubL t0 t
theorem SubL.trans {a b c : LTr} (h : SubL a b) (k : SubL b c) : SubL a c := by
 induction k with
 | here => exact h
 | kid hs _ ih => exact .kid hs ih
theorem growLR_snoc (e : List Ex) (x : Ex) (p : Nat) (U : Tr) : growLR (e ++ [x]) p U = growLR e p U ++ [if e.length = p then U else nodeOf (growLR e p U) x] := by
 have := growLR_len e p U
 unfold growLR at this ⊢
 rw [List.foldl_append, List.foldl_cons, List.foldl_nil, growStepR, this]
theorem growLR_app (p : Nat) (U : Tr) (l : List Ex) : ∀ e : List Ex, ∃ r, growLR (e ++ l) p U = growLR e p U ++ r := by
 induction l with
 | nil => intro e; exact ⟨[], by simp⟩
 | cons x l ih =>
   intro e
   obtain ⟨r, hr⟩ := ih (e ++ [x])
   rw [List.append_assoc] at hr
   exact ⟨_, by rw [show e ++ x :: l = e ++ ([x] ++ l) by simp, hr, growLR_snoc, List.append_assoc]⟩
theorem growLR_get {p : Nat} {U : Tr} {e l : List Ex} {i : Nat} (h : i < e.length) : (growLR (e ++ l) p U).getD i default = (growLR e p U).getD i default := by
 obtain ⟨r, hr⟩ := growLR_app p U l e
 rw [hr, getD_app (by rw [growLR_len]; exact h)]
theorem growLR_node {e : List Ex} (hk : kidsIn e) (p : Nat) (U : Tr) {j : Nat} {x : Ex} (hx : e[j]? = some x) : (growLR e p U).getD j default = if j = p then U else .mk x.op x.n x.binds (x.kids.map fun q => (growLR e p U).getD q.toNat default) x.alts := by
 obtain ⟨h1, h2⟩ := List.getElem?_eq_some_iff.1 hx
 have he : e = e.take j ++ x :: e.drop (j + 1) := by rw [← h2, ← List.drop_eq_getElem_cons h1, List.take_append_drop]
 have hl : (e.take j).length = j := by simp; omega
 have hkj := hk j x hx
 have h3 : (growLR e p U).getD j default = (growLR (e.take j ++ [x]) p U).getD j default := by
   conv => lhs; rw [he, show e.take j ++ x :: e.drop (j + 1) = (e.take j ++ [x]) ++ e.drop (j + 1) by simp]
   exact growLR_get (by simp; omega)
 rw [h3, growLR_snoc, hl, List.getD_eq_getElem?_getD, List.getElem?_append_right (by rw [growLR_len, hl]; exact Nat.le_refl _), growLR_len, hl]
 simp only [Nat.sub_self, List.getElem?_cons_zero, Option.getD_some]
 split
 · rfl
 · simp only [nodeOf]
   congr 1
   refine List.map_congr_left fun q hq => ?_
   have := hkj q hq
   conv => rhs; rw [he]
   exact (growLR_get (by rw [hl]; omega)).symm
mutual
def cntL : LTr → Nat
 | .mk i o n nb b ks a => 1 + cntLs ks
def cntLs : List LTr → Nat
 | [] => 0
 | t :: l => cntL t + cntLs l
end
end Go.CoreX
namespace Go.Proofs.YtpaonemmbhbgoaaGreatDoor
open Go Go.Abs Go.CoreX
theorem mem_keys {l : List (Nat × AObj)} {p : Nat × AObj} (h : p ∈ l) : p.1 ∈ keys l := List.mem_map_of_mem h
theorem of_keys {l : List (Nat × AObj)} {k : Nat} (h : k ∈ keys l) : ∃ o, (k, o) ∈ l := by
 obtain ⟨⟨j, o⟩, h1, h2⟩ := List.mem_map.1 h
 simp at h2; subst h2
 exact ⟨o, h1⟩
def tailO : LTr → List (Nat × AObj)
 | .mk i o n nb b k a => (bO nb b ++ aO a) ++ objss k
theorem objs_tail : ∀ t : LTr, objs t = (t.id, .cells (lC t)) :: tailO t
 | .mk i o n nb b k a => rfl
theorem self_tail {t : LTr} (h : (keys (objs t)).Nodup) : t.id ∉ keys (tailO t) := by
 rw [objs_tail, show keys ((t.id, AObj.cells (lC t)) :: tailO t) = t.id :: keys (tailO t) from rfl] at h
 exact (List.nodup_cons.1 h).1
end Go.Proofs.YtpaonemmbhbgoaaGreatDoor
namespace Go.CoreX
end Go.CoreX
namespace Go.Proofs.YtpaonemmbhbgoaaGreatDoor
open Go Go.Abs Go.CoreX
section
variable {e : List Ex} {lts : List LTr} {B : Nb → List Int → Prop}
theorem LinkL.sub (h : LinkL e lts B) (hT : IsTree e) {root : LTr} (hr : lts[e.length - 1]? = some root) : ∀ (k : Nat) (t : LTr), lts[k]? = some t → SubL t root := by
 have key : ∀ (d k : Nat) (t : LTr), lts[k]? = some t → e.length - k = d → SubL t root := by
   intro d
   induction d using Nat.strongRecOn with
   | _ d ih =>
     intro k t ht hd
     have hk : k < e.length := by rw [← h.len]; exact (List.getElem?_eq_some_iff.1 ht).1
     by_cases hl : k + 1 < e.length
     · have hc := (hT.c k hk).2 hl
       obtain ⟨i, x, hx, hkx⟩ := cnt_pos (e := e) (k := k) (by omega)
       have hb := hT.k i x hx _ hkx
       have hi := (List.getElem?_eq_some_iff.1 hx).1
       obtain ⟨id, nb, a, h1, _⟩ := h.at_ i x hx
       have hp := ih (e.length - i) (by omega) i _ h1 rfl
       refine SubL.trans (.kid ?_ .here) hp
       simp only [LTr.kids]
       exact List.mem_map.2 ⟨_, hkx, by rw [Int.toNat_natCast, h.getD ht]⟩
     · have : k = e.length - 1 := by omega
       subst this
       rw [hr] at ht; cases ht
       exact .here
 exact fun k t ht => key _ k t ht rfl
end
structure Der (ou ou' : Outer) (S : List (Nat × AObj)) (u : LTr) : Prop where
 old : ∀ j o, ou j = some o → ou' j = some o
 part : ∀ p ∈ objs u, p ∈ S ∨ (ou p.1 = none ∧ ou' p.1 = some p.2)
 ok : OuOk ou'
theorem Der.own {ou ou' : Outer} {S : List (Nat × AObj)} {u : LTr} (h : Der ou ou' S u) (hS : Owns ou S) : Owns ou' (objs u) := fun p hp => by
 rcases h.part p hp with h1 | ⟨_, h1⟩
 · exact h.old _ _ (hS p h1)
 · exact h1
theorem Der.mono {ou ou' : Outer} {S S' : List (Nat × AObj)} {u : LTr} (h : Der ou ou' S u) (hS : ∀ p ∈ S, p ∈ S') : Der ou ou' S' u :=
 ⟨h.old, fun p hp => (h.part p hp).imp (hS p) id, h.ok⟩
theorem Der.refl {ou : Outer} {S : List (Nat × AObj)} {u : LTr} (h : ∀ p ∈ objs u, p ∈ S) (hou : OuOk ou) : Der ou ou S u := ⟨fun _ _ h => h, fun p hp => .inl (h p hp), hou⟩
theorem Der.pre {ou ou1 ou' : Outer} {S : List (Nat × AObj)} {u : LTr} (h : Der ou1 ou' S u) (h0 : ∀ j o, ou j = some o → ou1 j = some o) : Der ou ou' S u := by
 refine ⟨fun j o hj => h.old j o (h0 j o hj), fun p hp => ?_, h.ok⟩
 rcases h.part p hp with h1 | ⟨a, b⟩
 · exact .inl h1
 · refine .inr ⟨?_, b⟩
   cases ho : ou p.1 with
   | none => rfl
   | some o => rw [h0 _ _ ho] at a; cases a
theorem Der.not {ou ou' : Outer} {S : List (Nat × AObj)} {u : LTr} (h : Der ou ou' S u) {k : Nat} {o : AObj} (hk : ou k = some o) (hS : k ∉ keys S) : k ∉ keys (objs u) := fun hm => by
 obtain ⟨q, hq⟩ := of_keys hm
 rcases h.part _ hq with h1 | ⟨h1, _⟩
 · exact hS (mem_keys h1)
 · rw [hk] at h1; cases h1
end Go.Proofs.YtpaonemmbhbgoaaGreatDoor
namespace Go.CoreX
abbrev Step3 := Int × Int × Int
def stepsE : Nat → List Ex → List Ex × List Step3
 | 0, out => (out, [])
 | k + 1, out => match nextE out with
   | none => (out, [])
   | some (r, i) => if (applyE out r i 0).2 = 0 then ((stepsE k (applyE out r i 0).1).1, (r, (i : Int), 0) :: (stepsE k (applyE out r i 0).1).2) else (out, [])
def simpE (e : List Ex) (b : Int) : List Ex × List Step3 × Int :=
 if check e ≠ 0 then ([], [], check e) else if b < 0 ∨ 500 < b then ([], [], 4)
 else ((stepsE b.toNat (listT [] (grow e))).1, (stepsE b.toNat (listT [] (grow e))).2, 0)
def Ordd (e : List Ex) : Prop := check e = 0 ∧ listT [] (grow e) = e
end Go.CoreX
namespace Go.CoreX
end Go.CoreX
namespace Go.CoreX
end Go.CoreX
namespace Go.CoreX
def shpL (l : Lab) : Prop := shape ⟨l.op, l.n, l.binds, l.ops, l.alts⟩ = true
section
variable {o n : Int} {b : List Int} {k : List Tr} {a : List Alt} (h : allT shpL (.mk o n b k a))
include h
end
end Go.CoreX
namespace Go.CoreX
open Go.Abs (orI)
end Go.CoreX
namespace Go.CoreX
theorem next_sound {e : List Ex} {r : Int} {i : Nat} (h : nextE e = some (r, i)) : r ∈ orderR ∧ i < e.length ∧ canT r (treeAt e i) (manyE e) = true := by
 unfold nextE at h
 obtain ⟨r', hr', h1⟩ := List.exists_of_findSome?_eq_some h
 rw [Option.map_eq_some_iff] at h1
 obtain ⟨⟨t, j⟩, h2, h3⟩ := h1
 cases h3
 have h4 := List.find?_some h2
 have h5 := List.mem_of_find?_eq_some h2
 rw [List.mem_zipIdx_iff_getElem?] at h5
 simp only at h4 h5
 have h6 := (List.getElem?_eq_some_iff.1 h5).1
 rw [growL_len] at h6
 refine ⟨hr', h6, ?_⟩
 have : treeAt e j = t := by unfold treeAt; rw [List.getD_eq_getElem?_getD, h5]; rfl
 rw [this]
 exact h4
def replayS : List Ex → List Step3 → Option (List Ex)
 | e, [] => some e
 | e, (r, i, n) :: l => if (applyE e r i n).2 = 0 then replayS (applyE e r i n).1 l else none
end Go.CoreX
namespace Go.CoreX
def replayE (e f : List Ex) (l : List Step3) : Int :=
 if check e ≠ 0 then check e else if check f ≠ 0 then check f else if 2000 < l.length then 2 else
 match replayS (listT [] (grow e)) l with
 | none => 14
 | some g => if same g f = true then 0 else 14
def replaySteps (e : List Ex) (budget : Int) : Bool :=
 let r := simpE e budget
 if r.2.2 ≠ 0 then check e == r.2.2 else
 let other := listT [] (wordT 5)
 let one := check e == 0 && r.1.length == 1 && (r.1.getD 0 ⟨0, 0, [], [], []⟩).op == 1 && (r.1.getD 0 ⟨0, 0, [], [], []⟩).n == 5
 replayE e r.1 r.2.1 == 0 && (one || replayE e other r.2.1 == 14)
end Go.CoreX
namespace Go.Proofs.YtpaonemmbhbgoaaGreatDoor
open Go Go.Abs Go.CoreX
variable {Γ : List (Nat × List AC)}
def valK (o : Int) (ks : List Tr) : List Tr := if o = 5 then ks.drop (ks.length - 1) else ks
def ValOk (Γ : List (Nat × List AC)) (t : Tr) : Prop := APure Tryz.prog Γ 127 [.one (.box (cTr t))] (.one (.lit (.bool (valT t))))
end Go.Proofs.YtpaonemmbhbgoaaGreatDoor
namespace Go.CoreX
mutual
def usesL (id : Int) : LTr → List LTr
 | .mk i o n nb b ks a => if o = 0 then (if n = id then [.mk i o n nb b ks a] else []) else usesLs id ks
def usesLs (id : Int) : List LTr → List LTr
 | [] => []
 | t :: l => usesL id t ++ usesLs id l
end
end Go.CoreX
namespace Go.Proofs.YtpaonemmbhbgoaaGreatDoor
open Go Go.Abs Go.CoreX
variable {Γ : List (Nat × List AC)}
def UsesOk (Γ : List (Nat × List AC)) (t : LTr) : Prop := ∀ (id : Int) (ou : Outer), Owns ou (objs t) → AFn Tryz.prog Γ 130 [.one (.ptr (.o t.id) 0), .one (int id)] ou (fun r ou' => r = .one (.sl 1 (kC (usesL id t))) ∧ ou' = ou)
def letN (k : Nat) (q : Int) (v d : LTr) : LTr := .mk k 4 0 none [q] [v, d] []
def PartO (ou ou1 : Outer) (S l : List (Nat × AObj)) : Prop := ∀ p ∈ l, p ∈ S ∨ (ou p.1 = none ∧ ou1 p.1 = some p.2)
theorem NewO.oldS {ou ou' : Outer} {L : List (Nat × AObj)} (h : NewO ou ou' L) {j : Nat} {o : AObj} (hj : ou j = some o) : ou' j = some o := by
 rw [h.old j fun hm => by have := h.new j hm; rw [hj] at this; cases this]; exact hj
theorem Der.node {ou ou1 ou2 : Outer} {S : List (Nat × AObj)} {u : LTr} (h : ∀ j o, ou j = some o → ou1 j = some o) (hN : NewO ou1 ou2 [(u.id, .cells (lC u))]) (ht : PartO ou ou1 S (tailO u)) : Der ou ou2 S u := by
 refine ⟨fun j o hj => hN.oldS (h j o hj), fun p hp => ?_, hN.ok⟩
 rw [objs_tail] at hp
 rcases List.mem_cons.1 hp with rfl | hp
 · refine .inr ⟨?_, hN.own _ (by simp)⟩
   have h1 := hN.new u.id (by simp [keys])
   cases ho : ou u.id with
   | none => rfl
   | some o => rw [h _ _ ho] at h1; cases h1
 · rcases ht p hp with h1 | ⟨h1, h2⟩
   · exact .inl h1
   · exact .inr ⟨h1, hN.oldS h2⟩
theorem PartO.app {ou ou1 : Outer} {S l r : List (Nat × AObj)} (hl : PartO ou ou1 S l) (hr : PartO ou ou1 S r) : PartO ou ou1 S (l ++ r) := fun p hp => (List.mem_append.1 hp).elim (hl p) (hr p)
theorem PartO.of {ou ou1 : Outer} {S l : List (Nat × AObj)} (h : ∀ p ∈ l, p ∈ S) : PartO ou ou1 S l := fun p hp => .inl (h p hp)
theorem Der.let {ou ou1 ou2 : Outer} {S : List (Nat × AObj)} {u v : LTr} {k : Nat} {q : Int} (h : Der ou ou1 S u) (hN : NewO ou1 ou2 [(k, .cells (lC (letN k q v u)))]) (hv : PartO ou ou1 S (objs v)) : Der ou ou2 S (letN k q v u) := by
 refine Der.node (u := letN k q v u) h.old hN ?_
 simp only [letN, tailO, bO, aO, List.flatMap_nil, List.append_nil, List.nil_append, objss]
 exact hv.app h.part
def plainB (nb : Nb) (l : List Int) : Prop := nb = none
mutual
def plainL : LTr → Prop
 | .mk i o n nb b ks a => nb = none ∧ (∀ x ∈ a, x.nb = none) ∧ plainLs ks
def plainLs : List LTr → Prop
 | [] => True
 | t :: l => plainL t ∧ plainLs l
end
theorem plainLs_iff : ∀ {l : List LTr}, plainLs l ↔ ∀ t ∈ l, plainL t
 | [] => by simp [plainLs]
 | t :: l => by simp [plainLs, plainLs_iff (l := l)]
abbrev nilP : FV := .one (.lit (.pointer none))
def ResD (ou : Outer) (t : LTr) (x : Option Tr) (r : FV) (ou' : Outer) : Prop := match x with
 | none => r = nilP ∧ OuOk ou' ∧ ∀ j o, ou j = some o → ou' j = some o
 | some X => ∃ u : LTr, r = .one (.ptr (.o u.id) 0) ∧ erT u = X ∧ Der ou ou' (tailO t) u
theorem ResD.no {ou : Outer} {t : LTr} {r : FV} (hr : r = nilP) (hou : OuOk ou) : ResD ou t none r ou := ⟨hr, hou, fun _ _ h => h⟩
theorem LendFs.t1 {σ : St} {t : LTr} (h : Owns σ.ou (objs t)) : LendFs σ [.one (.ptr (.o t.id) 0)] [.one (.box (cTr (erT t)))] := .cons (LendF.tree h) .nil
end Go.Proofs.YtpaonemmbhbgoaaGreatDoor
namespace Go.CoreX
mutual
theorem okT_pOk : ∀ t : Tr, okT t → allT pOk t
 | .mk o n b k a, h => ⟨⟨h.1, by simpa using h.2.1, h.2.2.1, h.2.2.2.1.1, h.2.2.2.1.2⟩, okTs_pOk k h.2.2.2.2⟩
theorem okTs_pOk : ∀ l : List Tr, okTs l → allTs pOk l
 | [], _ => trivial
 | t :: l, h => ⟨okT_pOk t h.1, okTs_pOk l h.2⟩
end
end Go.CoreX
namespace Go.Proofs.YtpaonemmbhbgoaaGreatDoor
open Go Go.Abs Go.CoreX
theorem okB_list {T : Tr} (h : allT pOk T) (hl : cntN T ≤ 1048576) : okB (listT [] T) := okB_ofLabs (by have := cntN_list T []; simp at this; omega) (allT_labs (isTree_list _) (by rw [grow_list]; exact h))
end Go.Proofs.YtpaonemmbhbgoaaGreatDoor
namespace Go.CoreX
mutual
def putsL (f : Nat → Option LTr) : LTr → LTr
 | .mk i o n nb b ks a => match f i with
   | some u => u
   | none => .mk i o n nb b (putsLs f ks) a
def putsLs (f : Nat → Option LTr) : List LTr → List LTr
 | [] => []
 | t :: l => putsL f t :: putsLs f l
end
end Go.CoreX
namespace Go.Proofs.YtpaonemmbhbgoaaGreatDoor
open Go Go.Abs Go.CoreX
variable {Γ : List (Nat × List AC)}
def setO (ou : Outer) (k : Nat) (o : AObj) : Outer := fun j => bif Nat.beq j k then some o else ou j
theorem setO_same (ou : Outer) (k : Nat) (o : AObj) : setO ou k o k = some o := by unfold setO; simp
theorem setO_ne {ou : Outer} {j k : Nat} {o : AObj} (h : j ≠ k) : setO ou k o j = ou j := by unfold setO; rw [beq_no h]; rfl
theorem setO_ok {ou : Outer} {k : Nat} {o : AObj} (h : OuOk ou) (ho : o.ids isO) : OuOk (setO ou k o) := fun j p hj => by
 by_cases e : j = k
 · subst e; rw [setO_same] at hj; cases hj; exact ho
 · rw [setO_ne e] at hj; exact h j p hj
def withId (k : Nat) : LTr → LTr
 | .mk _ o n nb b ks a => .mk k o n nb b ks a
theorem withId_id (k : Nat) (t : LTr) : (withId k t).id = k := by cases t; rfl
theorem withId_er (k : Nat) (t : LTr) : erT (withId k t) = erT t := by cases t; rfl
theorem withId_lC (k : Nat) (t : LTr) : lC (withId k t) = lC t := by cases t; rfl
theorem withId_tail (k : Nat) (t : LTr) : tailO (withId k t) = tailO t := by cases t; rfl
theorem lC_ids (t : LTr) : (AObj.cells (lC t)).ids isO := by
 cases t with
 | mk i o n nb b ks a => exact ids_node o n nb b ks a
theorem withId_own {ou : Outer} {k : Nat} {t : LTr} (h : Owns ou (tailO t)) (hk : k ∉ keys (tailO t)) : Owns (setO ou k (.cells (lC t))) (objs (withId k t)) := fun p hp => by
 rw [objs_tail, withId_id, withId_lC, withId_tail] at hp
 rcases List.mem_cons.1 hp with rfl | hp
 · exact setO_same _ _ _
 · rw [setO_ne (show p.1 ≠ k from fun e => hk (e ▸ mem_keys hp))]; exact h p hp
theorem own_tail {ou : Outer} {t : LTr} (h : Owns ou (objs t)) : Owns ou (tailO t) := fun p hp => h p (by rw [objs_tail]; exact List.mem_cons_of_mem _ hp)
def updF (f : Nat → Option LTr) (k : Nat) (u : LTr) : Nat → Option LTr := fun j => if j = k then some u else f j
structure CopyI (ou1 ov : Outer) (L : List LTr) (V : Tr) (f : Nat → Option LTr) : Prop where
 dom : ∀ k, f k ≠ none ↔ k ∈ L.map LTr.id
 u : ∀ k u, f k = some u → u.id = k ∧ erT u = V ∧ Owns ov (objs u) ∧ ∀ p ∈ tailO u, ou1 p.1 = none
 old : ∀ k o, ou1 k = some o → f k = none → ov k = some o
 ok : OuOk ov
theorem CopyI.nil {ou1 : Outer} {V : Tr} (h : OuOk ou1) : CopyI ou1 ou1 [] V (fun _ => none) := ⟨by simp, by simp, fun k o hk _ => hk, h⟩
theorem CopyI.step {ou1 ov ow : Outer} {L : List LTr} {V : Tr} {f : Nat → Option LTr} (h : CopyI ou1 ov L V f) {x c : LTr} {o : AObj} (hx : ou1 x.id = some o) (hxL : x.id ∉ L.map LTr.id) (hV : erT c = V) (hc : Owns ow (objs c)) (hnew : ∀ k ∈ keys (objs c), ov k = none) (hold : ∀ k o, ov k = some o → ow k = some o) (hok : OuOk ow) :
   CopyI ou1 (setO ow x.id (.cells (lC c))) (L ++ [x]) V (updF f x.id (withId x.id c)) := by
 have hfx : f x.id = none := by
   cases hu : f x.id with
   | none => rfl
   | some u => exact absurd ((h.dom x.id).1 (by rw [hu]; simp)) hxL
 have hvx := h.old _ _ hx hfx
 have hck : ∀ p ∈ objs c, ou1 p.1 = none := fun p hp => by
   have h1 := hnew p.1 (mem_keys hp)
   cases ho : ou1 p.1 with
   | none => rfl
   | some o' =>
     by_cases hf : f p.1 = none
     · rw [h.old _ _ ho hf] at h1; cases h1
     · obtain ⟨u, hu⟩ := Option.ne_none_iff_exists'.1 hf
       obtain ⟨e1, _, e3, _⟩ := h.u _ _ hu
       have := e3 (u.id, .cells (lC u)) (by rw [objs_tail]; simp)
       rw [e1, h1] at this; cases this
 refine ⟨fun k => ?_, fun k u hu => ?_, fun k o' hk hf => ?_, setO_ok hok (lC_ids c)⟩
 · unfold updF
   by_cases e : k = x.id
   · subst e; simp
   · rw [if_neg e, h.dom k]; simp [e]
 · unfold updF at hu
   by_cases e : k = x.id
   · rw [if_pos e] at hu
     cases hu
     refine ⟨by rw [withId_id, e], by rw [withId_er, hV], withId_own (own_tail hc) fun hm => ?_, fun p hp => ?_⟩
     · obtain ⟨o'', hq⟩ := of_keys hm
       have := hck (x.id, o'') (by rw [objs_tail]; exact List.mem_cons_of_mem _ hq)
       rw [hx] at this; cases this
     · rw [withId_tail] at hp
       exact hck p (by rw [objs_tail]; exact List.mem_cons_of_mem _ hp)
   · rw [if_neg e] at hu
     obtain ⟨e1, e2, e3, e4⟩ := h.u k u hu
     refine ⟨e1, e2, fun p hp => ?_, e4⟩
     have hpx : p.1 ≠ x.id := by
       rw [objs_tail] at hp
       rcases List.mem_cons.1 hp with rfl | hp
       · simp only; rw [e1]; exact e
       · intro e5
         have := e4 p hp
         rw [e5, hx] at this; cases this
     rw [setO_ne hpx]
     exact hold _ _ (e3 p hp)
 · unfold updF at hf
   by_cases e : k = x.id
   · rw [if_pos e] at hf; cases hf
   · rw [if_neg e] at hf
     rw [setO_ne e]
     exact hold _ _ (h.old k o' hk hf)
def ResW (ou : Outer) (t : LTr) (x : Option Tr) (r : FV) (ou' : Outer) : Prop := match x with
 | none => r = nilP ∧ OuOk ou' ∧ ∀ j o, ou j = some o → ou' j = some o
 | some X => ∃ u : LTr, r = .one (.ptr (.o u.id) 0) ∧ erT u = X ∧ Owns ou' (objs u) ∧ t.id ∉ keys (objs u) ∧ OuOk ou' ∧ (∀ j o, ou j = some o → j ∉ keys (tailO t) → ou' j = some o) ∧ ∀ k ∈ keys (objs u), k ∈ keys (tailO t) ∨ ou k = none
theorem ResD.w {ou ou' : Outer} {t : LTr} {x : Option Tr} {r : FV} (ho : Owns ou (objs t)) (hn : (keys (objs t)).Nodup) (h : ResD ou t x r ou') : ResW ou t x r ou' := by
 cases x with
 | none => exact h
 | some X =>
   obtain ⟨u, h1, h2, h3⟩ := h
   refine ⟨u, h1, h2, h3.own (own_tail ho), h3.not (owns_node ho) (self_tail hn), h3.ok, fun j o hj _ => h3.old j o hj, fun k hk => ?_⟩
   obtain ⟨o, hp⟩ := of_keys hk
   exact (h3.part _ hp).imp (fun h => mem_keys h) (fun h => h.1)
theorem ResW.dead {ou ou' : Outer} {t : LTr} {x : Option Tr} {r : FV} (h : ResW ou t x r ou') : OuOk ou' := by
 cases x with
 | none => exact h.2.1
 | some X => obtain ⟨u, _, _, _, _, h, _⟩ := h; exact h
theorem ResW.ids {ou ou' : Outer} {t : LTr} {x : Option Tr} {r : FV} (h : ResW ou t x r ou') : r.ids isO := by
 cases x with
 | none => rw [h.1]; trivial
 | some X => obtain ⟨u, rfl, _⟩ := h; trivial
theorem ResD.ids {ou ou' : Outer} {t : LTr} {x : Option Tr} {r : FV} (h : ResD ou t x r ou') : r.ids isO ∧ OuOk ou' := by
 cases x with
 | none => exact ⟨by rw [h.1]; trivial, h.2.1⟩
 | some X => obtain ⟨u, rfl, _, hD⟩ := h; exact ⟨trivial, hD.ok⟩
def OpenQ (e : List Ex) (ou : Outer) (r : FV) (ou' : Outer) : Prop := ∃ (lts : List LTr) (root : LTr), r = .one (.box [.sl 1 (kC lts), .ptr (.o root.id) 0]) ∧ LinkL e lts plainB ∧ lts[e.length - 1]? = some root ∧ NewO ou ou' (lts.flatMap ownO)
abbrev wO (lts : List LTr) : AObj := .cells [.gs 1 (kC lts) (.l 1), .lit (.pointer none)]
end Go.Proofs.YtpaonemmbhbgoaaGreatDoor
namespace Go.CoreX
end Go.CoreX
namespace Go.Proofs.YtpaonemmbhbgoaaGreatDoor
open Go Go.Abs Go.CoreX
theorem LinkL.plain {e : List Ex} {lts : List LTr} (h : LinkL e lts plainB) (hk : kidsIn e) : ∀ (n i : Nat) (t : LTr), i < n → lts[i]? = some t → plainL t
 | 0, i, t, hi, _ => by omega
 | n + 1, i, t, hi, ht => by
   have hil : i < e.length := by rw [← h.len]; exact (List.getElem?_eq_some_iff.1 ht).1
   obtain ⟨x, hx⟩ := get_of_lt hil
   obtain ⟨id, nb, a, h1, h2, h3, h4⟩ := h.at_ i x hx
   rw [ht] at h1
   cases h1
   refine ⟨h3, h4, plainLs_iff.2 fun s hs => ?_⟩
   obtain ⟨q, hq, rfl⟩ := List.mem_map.1 hs
   have hq' := hk i x hx q hq
   obtain ⟨t', ht'⟩ := get_of_lt (l := lts) (i := q.toNat) (by rw [h.len]; omega)
   rw [h.getD ht']
   exact h.plain hk n q.toNat t' (by omega) ht'
variable {Γ : List (Nat × List AC)}
structure NameOk (e : List Ex) (rule n : Int) (at' : Nat) : Prop where
 n : rule = 10 → ∀ (ou : Outer) (lts : List LTr) (root t : LTr), LinkL e lts plainB → lts[e.length - 1]? = some root → lts[at']? = some t → Owns ou (lts.flatMap ownO) → (keys (objs t)).Nodup → AFn Tryz.prog Γc 109 [.one (.box [.sl 1 (kC lts), .ptr (.o root.id) 0]), .one (.ptr (.o t.id) 0), .one (int n)] ou (ResW ou t (namedT (grow e) (erT t) n))
 u : rule = 12 → ∀ (ou : Outer) (lts : List LTr) (root t : LTr), LinkL e lts plainB → lts[e.length - 1]? = some root → lts[at']? = some t → Owns ou (lts.flatMap ownO) → (erT t).op = 0 → AFn Tryz.prog Γc 110 [.one (.box [.sl 1 (kC lts), .ptr (.o root.id) 0]), .one (.ptr (.o t.id) 0)] ou (ResW ou t (unfoldT (growL e) (grow e) (erT t)))
theorem NameOk.no {e : List Ex} {rule n : Int} {at' : Nat} (h1 : rule ≠ 10) (h2 : rule ≠ 12) : NameOk e rule n at' := ⟨fun h => absurd h h1, fun h => absurd h h2⟩
def factRT : Tr := .mk 4 0 [1] [.mk 1 2 [] [] [], .mk 0 1 [] [] []] []
def ManyQ (e : List Ex) (ou : Outer) (r : FV) (ou' : Outer) : Prop := ∃ (k ck : Nat) (l : List (Nat × Int × Int)) (f : Nm), r = .one (.mp (.o k)) ∧ ou' k = some (.map ck (encI eN l)) ∧ IMOk f ck l ∧ (∀ q, (f q).getD 0 = (manyE e q : Nat)) ∧ OuOk ou' ∧ ∀ j o, ou j = some o → ou' j = some o
def CanQ (x : Bool) (ou : Outer) (r : FV) (ou' : Outer) : Prop := r = .one (.lit (.bool x)) ∧ OuOk ou' ∧ ∀ j o, ou j = some o → ou' j = some o
end Go.Proofs.YtpaonemmbhbgoaaGreatDoor
namespace Go.CoreX
def nextF (e : List Ex) (r : Int) : Option (Int × Nat) := ((growL e).zipIdx.find? fun p => canT r p.1 (manyE e)).map fun p => (r, p.2)
def nextR (e : List Ex) : Int × Int × Bool × Int := if check e ≠ 0 then (0, 0, false, check e) else match nextE e with
 | none => (0, 0, false, 0)
 | some (r, i) => (r, i, true, 0)
end Go.CoreX
namespace Go.Proofs.YtpaonemmbhbgoaaGreatDoor
open Go Go.Abs Go.CoreX
def Γo : List (Nat × List AC) := [(0, orC), (1, arC)]
theorem hΓo : ∀ g cs, (g, cs) ∈ Γo → idsL isO cs := by
 intro g cs h
 simp only [Γo, List.mem_cons, List.not_mem_nil, or_false, Prod.mk.injEq] at h
 rcases h with ⟨_, rfl⟩ | ⟨_, rfl⟩
 · simp [orC]
 · exact hΓc 1 arC (by simp [Γc])
theorem hco : ∀ g cs, (g, cs) ∈ Γc → (g, cs) ∈ Γo := by
 intro g cs h
 simp only [Γc, List.mem_cons, List.not_mem_nil, or_false, Prod.mk.injEq] at h
 obtain ⟨rfl, rfl⟩ := h
 simp [Γo]
theorem APure.o {g : Nat} {args : List FV} {r : FV} (h : APure Tryz.prog Γc g args r) : APure Tryz.prog Γo g args r := h.moreG hco hΓo
def cS (s : Step3) : List AC := [int s.1, int s.2.1, int s.2.2]
theorem ids_cS (p : Abs.Id → Prop) (l : List Step3) : idsS p (l.map cS) := idsS_map (f := cS) (fun s => by simp [cS]) l
@[simp] theorem ids_cS_l (k : Nat) (l : List Step3) : idsS (inL k) (l.map cS) := ids_cS _ l
@[simp] theorem ids_cS_o (l : List Step3) : idsS isO (l.map cS) := ids_cS _ l
def mulT : Tr := .mk 8 2 [] [wordT 3, wordT 4] []
def sumT0 : Tr := .mk 8 0 [] [wordT 2, mulT] []
end Go.Proofs.YtpaonemmbhbgoaaGreatDoor
namespace Go.CoreX
mutual
inductive Vl where
 | nil
 | word (n : Int)
 | clo (t : Tr) (e : En)
 | obj (tag : Int) (fs : List Vl)
 | row (ls : List Int) (fs : List Vl)
 | arr (a : Nat)
 | res (fs : List Fm)
 | cap (fn : Int) (slots : List Vl)
inductive En where
 | nil
 | bind (id : Int) (v : Vl) (next : En)
 | recs (t : Tr) (next : En)
inductive Fm where
 | mk (t : Tr) (e : En) (done : List Vl)
end
instance : Inhabited Vl := ⟨.nil⟩
instance : Inhabited Fm := ⟨.mk default .nil []⟩
def Fm.t : Fm → Tr | .mk t _ _ => t
def Fm.e : Fm → En | .mk _ e _ => e
def Fm.done : Fm → List Vl | .mk _ _ d => d
@[simp] theorem Fm.t_mk (t e d) : (Fm.mk t e d).t = t := rfl
@[simp] theorem Fm.e_mk (t e d) : (Fm.mk t e d).e = e := rfl
@[simp] theorem Fm.done_mk (t e d) : (Fm.mk t e d).done = d := rfl

def lastIx (l : List Int) (id : Int) : Nat → Option Nat
 | 0 => none
 | i + 1 => if l.getD i 0 = id then some i else lastIx l id i
def findE (id : Int) : En → Vl
 | .nil => .nil
 | .bind i v n => if i = id then v else findE id n
 | .recs t n => match lastIx t.binds id t.binds.length with
   | some i => .clo (t.kids.getD i default) (.recs t n)
   | none => findE id n
def allE (e : En) : List Int → List Vl → En
 | id :: ids, l => allE (.bind id (l.headD .nil) e) ids l.tail
 | [], _ => e

inductive Ctl where
 | ev (t : Tr) (e : En)
 | rt (v : Vl)
structure Ms where
 c : Ctl
 k : List Fm
 out : List Int
 steps : Int
 heap : List (List Vl)
structure Fun where
 params : List Int
 body : Tr

def condV (b : Bool) : Vl := .obj (if b then 1 else 0) []
def wrapW (n : Int) : Int := (n + 1073741824) % 2147483648 - 1073741824
def wordV : Vl → Except Int Int
 | .word n => .ok n
 | _ => .error 5
def itemsV (h : List (List Vl)) : Vl → Except Int (Nat × List Vl)
 | .arr a => .ok (a, h.getD a [])
 | _ => .error 5
def rowsV : Vl → Except Int (List Int × List Vl)
 | .row ls fs => .ok (ls, fs)
 | _ => .error 5

def bsGo (l : List Int) (x : Int) : Nat → Nat → Nat → Nat
 | 0, i, _ => i
 | g + 1, i, j => if i < j then (if l.getD ((i + j) / 2) 0 < x then bsGo l x g ((i + j) / 2 + 1) j else bsGo l x g i ((i + j) / 2)) else i
def bsAt (l : List Int) (x : Int) : Nat := bsGo l x l.length 0 l.length
def bsIs (l : List Int) (x : Int) : Bool := decide (bsAt l x < l.length) && l.getD (bsAt l x) 0 == x

def freshM (fu : Int) (m : Ms) (many : Int) (v : Vl) : Except Int (Ms × Vl) :=
 if many < 0 ∨ 1024 < many then .error 6 else if fu - m.steps < many then .error (-1) else
 .ok ({ m with steps := m.steps + many, heap := m.heap ++ [List.replicate many.toNat v] }, .arr m.heap.length)
def arraysM (m : Ms) (n : Int) (l : List Vl) : Except Int (Ms × Vl) := do
 let (a, its) ← itemsV m.heap (l.getD 0 .nil)
 if n = 9 then return (m, .word its.length)
 let i ← wordV (l.getD 1 .nil)
 if i < 0 ∨ (its.length : Int) ≤ i then .error 2
 else if n = 10 then return (m, its.getD i.toNat .nil)
 else return ({ m with heap := m.heap.set a (its.set i.toNat (l.getD 2 .nil)) }, .obj 0 [])
def primM (fu : Int) (m : Ms) (n : Int) (l : List Vl) : Except Int (Ms × Vl) :=
 if n = 0 then do return (m, .word (wrapW ((← wordV (l.getD 0 .nil)) + (← wordV (l.getD 1 .nil))))) else
 if n = 1 then do return (m, .word (wrapW ((← wordV (l.getD 0 .nil)) - (← wordV (l.getD 1 .nil))))) else
 if n = 2 then do return (m, .word (wrapW ((← wordV (l.getD 0 .nil)) * (← wordV (l.getD 1 .nil))))) else
 if n = 3 then do
   let a ← wordV (l.getD 0 .nil)
   let b ← wordV (l.getD 1 .nil)
   if b = 0 then .error 1 else return (m, .word (wrapW (a.tdiv b))) else
 if n = 4 then do
   let a ← wordV (l.getD 0 .nil)
   let b ← wordV (l.getD 1 .nil)
   if b = 0 then .error 1 else return (m, .word (a.tmod b)) else
 if n = 5 then do return (m, condV (decide ((← wordV (l.getD 0 .nil)) < (← wordV (l.getD 1 .nil))))) else
 if n = 6 then do return (m, condV (decide ((← wordV (l.getD 0 .nil)) = (← wordV (l.getD 1 .nil))))) else
 if n = 7 then do
   let a ← wordV (l.getD 0 .nil)
   if m.out.length = 1000 then .error 6 else return ({ m with out := m.out ++ [a] }, .obj 0 []) else
 if n = 8 then do
   let a ← wordV (l.getD 0 .nil)
   freshM fu m a (l.getD 1 .nil) else
 arraysM m n l
def withR (ls : List Int) (fs : List Vl) (n : Int) (v : Vl) : Vl :=
 if bsIs ls n then .row ls (fs.set (bsAt ls n) v)
 else .row (ls.take (bsAt ls n) ++ n :: ls.drop (bsAt ls n)) (fs.take (bsAt ls n) ++ v :: fs.drop (bsAt ls n))
def plainM (fu : Int) (m : Ms) (t : Tr) (l : List Vl) : Except Int (Ms × Vl) :=
 if t.op = 6 then .ok (m, .obj t.n l) else
 if t.op = 8 then primM fu m t.n l else
 if t.op = 9 then .ok (m, .row t.binds l) else
 if t.op = 10 then do
   let (ls, fs) ← rowsV (l.getD 0 .nil)
   if bsIs ls t.n then return (m, fs.getD (bsAt ls t.n) .nil) else .error 3
 else do
   let (ls, fs) ← rowsV (l.getD 0 .nil)
   return (m, withR ls fs t.n (l.getD 1 .nil))
def opdN (t : Tr) : Nat := if t.op = 4 ∨ t.op = 7 ∨ t.op = 13 ∨ t.op = 12 then 1 else t.kids.length
def chooseA (tag : Int) (fs : List Vl) (e : En) (kids : List Tr) : Nat → List Alt → Except Int Ctl
 | _, [] => .error 3
 | i, a :: al => if a.tag = tag then (if a.binds.length = fs.length then .ok (.ev (kids.getD (1 + i) default) (allE e a.binds fs)) else .error 5)
   else if a.tag = -1 then .ok (.ev (kids.getD (1 + i) default) e) else chooseA tag fs e kids (i + 1) al
def chooseM (m : Ms) (t : Tr) (e : En) (v : Vl) : Except Int Ms :=
 match v with
 | .obj tag fs => (chooseA tag fs e t.kids 0 t.alts).map fun c => { m with c := c }
 | _ => .error 5
def callM (fns : List Fun) (m : Ms) (f : Vl) (args : List Vl) : Except Int Ms :=
 match f with
 | .clo t e => if t.binds.length = args.length then .ok { m with c := .ev (t.kids.getD 0 default) (allE e t.binds args) } else .error 5
 | .cap n slots => if (fns.getD n.toNat ⟨[], default⟩).params.length = args.length + 1 then .ok { m with c := .ev (fns.getD n.toNat ⟨[], default⟩).body (allE .nil (fns.getD n.toNat ⟨[], default⟩).params (.cap n slots :: args)) } else .error 5
 | .res fs => match args with
   | [a] => .ok { m with c := .rt a, k := fs ++ m.k }
   | _ => .error 5
 | _ => .error 5
def clauseIx (op : Int) : Nat → List Alt → Option Nat
 | _, [] => none
 | i, a :: al => if a.tag = op ∧ 0 < i then some i else clauseIx op (i + 1) al
def performM (m : Ms) (op : Int) (v : Vl) : List Fm → List Fm → Except Int Ms
 | _, [] => .error 4
 | l, f :: k => match (if f.t.op = 13 then clauseIx op 0 f.t.alts else none) with
   | some i => .ok { m with c := .ev (f.t.kids.getD (1 + i) default) (.bind ((f.t.alts.getD i ⟨0, []⟩).binds.getD 1 0) (.res (l ++ [f])) (.bind ((f.t.alts.getD i ⟨0, []⟩).binds.getD 0 0) v f.e)), k := k }
   | none => performM m op v (l ++ [f]) k
def kidM (fu : Int) (fns : List Fun) (m : Ms) (f : Fm) (k : List Fm) : Except Int Ms :=
 if f.done.length < opdN f.t then .ok { m with c := .ev (f.t.kids.getD f.done.length default) f.e, k := f :: k } else
 if f.t.op = 4 then .ok { m with c := .ev (f.t.kids.getD 1 default) (.bind (f.t.binds.getD 0 0) (f.done.getD 0 .nil) f.e), k := k } else
 if f.t.op = 7 then chooseM { m with k := k } f.t f.e (f.done.getD 0 .nil) else
 if f.t.op = 3 then callM fns { m with k := k } (f.done.getD 0 .nil) (f.done.drop 1) else
 if f.t.op = 13 then .ok { m with c := .ev (f.t.kids.getD 1 default) (.bind ((f.t.alts.getD 0 ⟨0, []⟩).binds.getD 0 0) (f.done.getD 0 .nil) f.e), k := k } else
 if f.t.op = 12 then performM m f.t.n (f.done.getD 0 .nil) [] k else
 if f.t.op = 14 then .ok { m with c := .ev (fns.getD f.t.n.toNat ⟨[], default⟩).body (allE .nil (fns.getD f.t.n.toNat ⟨[], default⟩).params f.done), k := k } else
 if f.t.op = 15 then .ok { m with c := .rt (.cap f.t.n f.done), k := k } else
 if f.t.op = 16 then (match f.done.getD 0 .nil with
   | .cap _ slots => if f.t.n < slots.length then .ok { m with c := .rt (slots.getD f.t.n.toNat .nil), k := k } else .error 5
   | _ => .error 5) else
 (plainM fu { m with k := k } f.t f.done).map fun (m', v) => { m' with c := .rt v }
def startM (fu : Int) (fns : List Fun) (m : Ms) (t : Tr) (e : En) : Except Int Ms :=
 if t.op = 0 then .ok { m with c := .rt (findE t.n e) } else
 if t.op = 1 then .ok { m with c := .rt (.word t.n) } else
 if t.op = 2 then .ok { m with c := .rt (.clo t e) } else
 if t.op = 17 then .error t.n else
 if t.op = 5 then .ok { m with c := .ev (t.kids.getD t.binds.length default) (.recs t e) } else
 kidM fu fns m (.mk t e []) m.k
inductive Rd where
 | next (m : Ms)
 | done (m : Ms) (v : Vl)
 | fuel
 | trap (code : Int) (m : Ms)
def roundM (fu : Int) (fns : List Fun) (m : Ms) : Rd :=
 match m.c with
 | .rt v => match m.k with
   | [] => .done m v
   | f :: k => match kidM fu fns m (.mk f.t f.e (f.done ++ [v])) k with
     | .ok m' => .next m'
     | .error c => .trap c m
 | .ev t e => if m.steps = fu then .fuel else
   match startM fu fns { m with steps := m.steps + 1 } t e with
   | .ok m' => .next m'
   | .error c => .trap c { m with steps := m.steps + 1 }
structure Rs where
 out : List Int
 fin : Int
 val : Int
 steps : Int
 err : Int
 deriving DecidableEq
def lastV : Vl → Int
 | .word n => n
 | .obj t _ => t
 | _ => 0
def noFuel : Rs := ⟨[], 0, 0, 0, 13⟩
def goM (fu : Int) (fns : List Fun) : Nat → Ms → Option Rs
 | 0, _ => none
 | g + 1, m => match roundM fu fns m with
   | .next m' => goM fu fns g m'
   | .done m v => some ⟨m.out, 0, lastV v, m.steps, 0⟩
   | .fuel => some noFuel
   | .trap c m => some (if c < 0 then noFuel else ⟨m.out, c, 0, m.steps, 0⟩)
end Go.CoreX
namespace Go.CoreX
inductive Rn (fu : Int) (fns : List Fun) : Nat → Ms → Ms → Prop
 | zero (m : Ms) : Rn fu fns 0 m m
 | succ {n : Nat} {m m1 m' : Ms} (h : roundM fu fns m = .next m1) (k : Rn fu fns n m1 m') : Rn fu fns (n + 1) m m'
section
variable {fu : Int} {fns : List Fun}
theorem Rn.trans {n n' : Nat} {m m1 m2 : Ms} (a : Rn fu fns n m m1) (b : Rn fu fns n' m1 m2) : Rn fu fns (n' + n) m m2 := by
 induction a with
 | zero m => exact b
 | succ h k ih => exact .succ h (ih b)
theorem Rn.go {n : Nat} {m m' : Ms} (a : Rn fu fns n m m') (g : Nat) : goM fu fns (g + n) m = goM fu fns g m' := by
 induction a with
 | zero m => rfl
 | succ h k ih =>
   rw [← Nat.add_assoc, goM, h]
   exact ih
def Rs' (fu : Int) (fns : List Fun) (m m' : Ms) : Prop := ∃ n, Rn fu fns n m m'
theorem Rs'.refl (m : Ms) : Rs' fu fns m m := ⟨0, .zero m⟩
theorem Rs'.trans {m m1 m2 : Ms} (a : Rs' fu fns m m1) (b : Rs' fu fns m1 m2) : Rs' fu fns m m2 := by
 obtain ⟨n, a⟩ := a; obtain ⟨k, b⟩ := b; exact ⟨_, a.trans b⟩
theorem Rs'.one {m m1 m2 : Ms} (h : roundM fu fns m = .next m1) (b : Rs' fu fns m1 m2) : Rs' fu fns m m2 := by
 obtain ⟨k, b⟩ := b; exact ⟨_, .succ h b⟩
theorem rnd_ev {t : Tr} {e : En} {k : List Fm} {out : List Int} {s : Int} {h : List (List Vl)} {m' : Ms} (hs : s ≠ fu) (hx : startM fu fns ⟨.ev t e, k, out, s + 1, h⟩ t e = .ok m') : roundM fu fns ⟨.ev t e, k, out, s, h⟩ = .next m' := by
 simp [roundM, hs, hx]
theorem rnd_rt {v : Vl} {t : Tr} {e : En} {d : List Vl} {k : List Fm} {out : List Int} {s : Int} {h : List (List Vl)} {m' : Ms} (hx : kidM fu fns ⟨.rt v, .mk t e d :: k, out, s, h⟩ (.mk t e (d ++ [v])) k = .ok m') : roundM fu fns ⟨.rt v, .mk t e d :: k, out, s, h⟩ = .next m' := by
 simp [roundM, hx]
def Ev (fu : Int) (fns : List Fun) (t : Tr) (e : En) (v : Vl) (c : Nat) : Prop :=
 ∀ (K : List Fm) (out : List Int) (s : Int) (h : List (List Vl)), s + c ≤ fu → Rs' fu fns ⟨.ev t e, K, out, s, h⟩ ⟨.rt v, K, out, s + c, h⟩
theorem ev_int (n : Int) (e : En) : Ev fu fns (.mk 1 n [] [] []) e (.word n) 1 := fun K out s h hs =>
 .one (rnd_ev (by first | omega | (dsimp only; omega)) (by rfl)) (.refl _)
theorem ev_prim {n : Int} {a b : Tr} {e : En} {x y v : Vl} {ca cb : Nat} (ha : Ev fu fns a e x ca) (hb : Ev fu fns b e y cb) (hp : ∀ m : Ms, primM fu m n [x, y] = .ok (m, v)) : Ev fu fns (.mk 8 n [] [a, b] []) e v (1 + ca + cb) := fun K out s h hs => by
 have hs' : s + 1 + (ca : Int) + cb ≤ fu := by push_cast at hs; omega
 refine .one (rnd_ev (by first | omega | (dsimp only; omega)) (by rfl)) ?_
 refine (ha _ _ _ _ (by first | omega | (dsimp only; omega))).trans (.one (rnd_rt (by rfl)) ?_)
 refine (hb _ _ _ _ (by first | omega | (dsimp only; omega))).trans (.one (m1 := ⟨.rt v, K, out, s + 1 + ca + cb, h⟩) (rnd_rt ?_) ?_)
 · simp [kidM, opdN, Fm.t, Fm.done, Fm.e, plainM, hp]; rfl
 · rw [show s + ((1 + ca + cb : Nat) : Int) = s + 1 + ca + cb by push_cast; omega]; exact .refl _
end
end Go.CoreX
namespace Go.CoreX
section
variable {fu : Int} {fns : List Fun}
def tV (n : Int) : Tr := .mk 0 n [] [] []
def tW (n : Int) : Tr := .mk 1 n [] [] []
def loopB : Tr := .mk 7 0 [] [.mk 8 5 [] [tV 2, tW 1] [], tW 0, .mk 8 0 [] [tV 2, .mk 3 0 [] [tV 1, .mk 8 1 [] [tV 2, tW 1] []] []] []] [⟨1, []⟩, ⟨-1, []⟩]
def loopF : Tr := .mk 2 0 [2] [loopB] []
def loopT (n : Int) : Tr := .mk 5 0 [1] [loopF, .mk 8 7 [] [.mk 3 0 [] [tV 1, tW n] []] []] []
def triS : Nat → Nat
 | 0 => 0
 | k + 1 => (k + 1) + triS k
end
end Go.CoreX
namespace Go.CoreX
mutual
def szV : Vl → Nat
 | .res fs => szFs fs
 | _ => 0
def szVs : List Vl → Nat
 | [] => 0
 | v :: vs => szV v + szVs vs
def szF : Fm → Nat
 | .mk _ _ d => 1 + szVs d
def szFs : List Fm → Nat
 | [] => 0
 | f :: fs => szF f + szFs fs
end
theorem szFs_app (a b : List Fm) : szFs (a ++ b) = szFs a + szFs b := by
 induction a with
 | nil => simp [szFs]
 | cons x a ih => simp [szFs, ih]; omega
def phase (m : Ms) : Nat := match m.c with
 | .ev _ _ => 0
 | .rt _ => 1 + szFs m.k
structure After (fu : Int) (m m' : Ms) (b : Nat) : Prop where
 ge : m.steps ≤ m'.steps
 le : m.steps ≤ fu → m'.steps ≤ fu
 ph : phase m' < 1 + b
theorem chooseA_ev {tag : Int} {fs : List Vl} {e : En} {kids : List Tr} {c : Ctl} : ∀ (i : Nat) (l : List Alt), chooseA tag fs e kids i l = .ok c → ∃ t e', c = .ev t e'
 | _, [], h => by cases h
 | i, a :: al, h => by
   unfold chooseA at h
   split at h
   · split at h
     · cases h; exact ⟨_, _, rfl⟩
     · cases h
   · split at h
     · cases h; exact ⟨_, _, rfl⟩
     · exact chooseA_ev _ al h
theorem performM_ev {m m' : Ms} {op : Int} {v : Vl} : ∀ (l k : List Fm), performM m op v l k = .ok m' → (∃ t e', m'.c = .ev t e') ∧ m'.steps = m.steps
 | _, [], h => by cases h
 | l, f :: k, h => by
   unfold performM at h
   split at h
   · cases h; exact ⟨⟨_, _, rfl⟩, rfl⟩
   · exact performM_ev _ k h
theorem primM_after {fu : Int} {m m' : Ms} {n : Int} {l : List Vl} {v : Vl} (h : primM fu m n l = .ok (m', v)) : m.steps ≤ m'.steps ∧ (m.steps ≤ fu → m'.steps ≤ fu) ∧ m'.k = m.k := by
 have bd : ∀ {α β : Type} {x : Except Int α} {f : α → Except Int β} {r : β}, x.bind f = .ok r → ∃ a, x = .ok a ∧ f a = .ok r := by
   intro α β x f r hh
   cases x with
   | error c => cases hh
   | ok a => exact ⟨a, rfl, hh⟩
 unfold primM at h
 repeat' split at h
 all_goals try (simp only [bind, Except.bind, pure, Except.pure] at h; repeat' split at h)
 all_goals try (cases h; done)
 all_goals try (cases h; exact ⟨Int.le_refl _, id, rfl⟩)
 · unfold freshM at h
   repeat' split at h
   all_goals try (cases h; done)
   cases h
   refine ⟨?_, ?_, rfl⟩ <;> simp <;> omega
 · unfold arraysM at h
   simp only [bind, Except.bind, pure, Except.pure] at h
   repeat' split at h
   all_goals try (cases h; done)
   all_goals (cases h; exact ⟨Int.le_refl _, id, rfl⟩)
theorem plainM_after {fu : Int} {m m' : Ms} {t : Tr} {l : List Vl} {v : Vl} (h : plainM fu m t l = .ok (m', v)) : m.steps ≤ m'.steps ∧ (m.steps ≤ fu → m'.steps ≤ fu) ∧ m'.k = m.k := by
 unfold plainM at h
 repeat' split at h
 · cases h; exact ⟨Int.le_refl _, id, rfl⟩
 · exact primM_after h
 · cases h; exact ⟨Int.le_refl _, id, rfl⟩
 · simp only [bind, Except.bind, pure, Except.pure] at h
   repeat' split at h
   all_goals try (cases h; done)
   all_goals (cases h; exact ⟨Int.le_refl _, id, rfl⟩)
 · simp only [bind, Except.bind, pure, Except.pure] at h
   repeat' split at h
   all_goals try (cases h; done)
   all_goals (cases h; exact ⟨Int.le_refl _, id, rfl⟩)
theorem kidM_after {fu : Int} {fns : List Fun} {m m' : Ms} {f : Fm} {k : List Fm} (h : kidM fu fns m f k = .ok m') (d0 : List Vl) (v : Vl) (hd : f.done = d0 ++ [v] ∨ (f.done = [] ∧ d0 = [])) : After fu m m' (1 + szVs d0 + szFs k) := by
 unfold kidM at h
 split at h
 · cases h; exact ⟨Int.le_refl _, id, by simp [phase]; omega⟩
 split at h
 · cases h; exact ⟨Int.le_refl _, id, by simp [phase]; omega⟩
 split at h
 · unfold chooseM at h
   split at h
   · cases hc : chooseA _ _ f.e f.t.kids 0 f.t.alts with
     | error c => rw [hc] at h; cases h
     | ok c =>
       rw [hc] at h
       obtain ⟨t, e', rfl⟩ := chooseA_ev _ _ hc
       cases h
       exact ⟨Int.le_refl _, id, by simp [phase]; omega⟩
   · cases h
 split at h
 · unfold callM at h
   split at h
   · split at h
     · cases h; exact ⟨Int.le_refl _, id, by simp [phase]; omega⟩
     · cases h
   · split at h
     · cases h; exact ⟨Int.le_refl _, id, by simp [phase]; omega⟩
     · cases h
   · rename_i fs hf
     split at h
     · rename_i a ha
       cases h
       refine ⟨Int.le_refl _, id, ?_⟩
       simp only [phase, szFs_app]
       rcases hd with hd | ⟨hd, _⟩
       · rw [hd] at hf ha
         have : d0 = [.res fs] := by
           have hl := congrArg List.length ha
           simp at hl
           match d0, hl with
           | [x], _ => simp at hf; rw [hf]
         subst this
         simp [szVs, szV]
       · rw [hd] at ha; cases ha
     · cases h
   · cases h
 split at h
 · cases h; exact ⟨Int.le_refl _, id, by simp [phase]; omega⟩
 split at h
 · obtain ⟨⟨t, e', hc⟩, hs⟩ := performM_ev _ _ h
   refine ⟨by rw [hs]; exact Int.le_refl _, fun hh => by rw [hs]; exact hh, ?_⟩
   simp [phase, hc]; omega
 split at h
 · cases h; exact ⟨Int.le_refl _, id, by simp [phase]; omega⟩
 split at h
 · cases h; exact ⟨Int.le_refl _, id, by simp [phase]; omega⟩
 split at h
 · split at h
   · split at h
     · cases h; exact ⟨Int.le_refl _, id, by simp [phase]; omega⟩
     · cases h
   · cases h
 · cases hp : plainM fu { m with k := k } f.t f.done with
   | error c => rw [hp] at h; cases h
   | ok mv =>
     obtain ⟨m2, v2⟩ := mv
     rw [hp] at h
     cases h
     obtain ⟨h1, h2, h3⟩ := plainM_after hp
     refine ⟨h1, h2, ?_⟩
     simp only [phase, h3]; omega
theorem roundM_next {fu : Int} {fns : List Fun} {m m' : Ms} (h : roundM fu fns m = .next m') (hs : m.steps ≤ fu) : m'.steps ≤ fu ∧ (m.steps < m'.steps ∨ (m.steps = m'.steps ∧ phase m' < phase m) ∨ (m.steps ≤ m'.steps ∧ phase m' < phase m)) := by
 unfold roundM at h
 split at h
 · rename_i v hc
   split at h
   · cases h
   · rename_i f k hk
     split at h
     · rename_i m2 hkid
       cases h
       obtain ⟨h1, h2, h3⟩ := kidM_after hkid f.done v (.inl rfl)
       refine ⟨h2 hs, .inr (.inr ⟨h1, ?_⟩)⟩
       have : phase m = 1 + szFs m.k := by simp [phase, hc]
       rw [this, hk, szFs]
       cases f with
       | mk t e d => simp only [szF] at *; simp at h3; omega
     · cases h
 · rename_i t e hc
   split at h
   · cases h
   · rename_i hne
     split at h
     · rename_i m2 hst
       cases h
       have hlt : m.steps + 1 ≤ fu := by omega
       have key : ∀ m3 : Ms, m3.steps = m.steps + 1 → m3.steps ≤ fu ∧ (m.steps < m3.steps ∨ (m.steps = m3.steps ∧ phase m3 < phase m) ∨ (m.steps ≤ m3.steps ∧ phase m3 < phase m)) := fun m3 h3 => ⟨by omega, .inl (by omega)⟩
       unfold startM at hst
       repeat' split at hst
       all_goals try (cases hst; done)
       all_goals try (cases hst; exact key _ rfl)
       obtain ⟨h1, h2, h3⟩ := kidM_after hst [] .nil (.inr ⟨rfl, rfl⟩)
       refine ⟨h2 hlt, .inl ?_⟩
       have : m.steps + 1 ≤ m'.steps := h1
       omega
     · cases h
theorem goM_total (fu : Int) (fns : List Fun) : ∀ (N P : Nat) (m : Ms), m.steps ≤ fu → (fu - m.steps).toNat = N → phase m = P → ∃ g R, goM fu fns g m = some R := by
 intro N
 induction N using Nat.strongRecOn with
 | _ N ihN =>
   intro P
   induction P using Nat.strongRecOn with
   | _ P ihP =>
     intro m hs hN hP
     cases hr : roundM fu fns m with
     | done m2 v => exact ⟨1, _, by simp only [goM, hr]; rfl⟩
     | fuel => exact ⟨1, _, by simp only [goM, hr]; rfl⟩
     | trap c m2 => exact ⟨1, _, by simp only [goM, hr]; rfl⟩
     | next m2 =>
       obtain ⟨h1, h2⟩ := roundM_next hr hs
       have : ∃ g R, goM fu fns g m2 = some R := by
         by_cases hlt : m.steps < m2.steps
         · exact ihN _ (by omega) (phase m2) m2 h1 rfl rfl
         · have : phase m2 < phase m := by omega
           exact ihP _ (by omega) m2 h1 (by omega) rfl
       obtain ⟨g, R, hg⟩ := this
       exact ⟨g + 1, R, by simp [goM, hr, hg]⟩
theorem goM_mono {fu : Int} {fns : List Fun} : ∀ {g g' : Nat} {m : Ms} {R : Rs}, g ≤ g' → goM fu fns g m = some R → goM fu fns g' m = some R
 | 0, _, _, _, _, h => by cases h
 | g + 1, 0, _, _, hl, _ => by omega
 | g + 1, g' + 1, m, R, hl, h => by
   cases hr : roundM fu fns m with
   | next m2 => simp only [goM, hr] at h ⊢; exact goM_mono (by omega) h
   | done m2 v => simp only [goM, hr] at h ⊢; exact h
   | fuel => simp only [goM, hr] at h ⊢; exact h
   | trap c m2 => simp only [goM, hr] at h ⊢; exact h
def EndsM (fu : Int) (fns : List Fun) (m : Ms) (R : Rs) : Prop := ∃ g, goM fu fns g m = some R
theorem EndsM.det {fu : Int} {fns : List Fun} {m : Ms} {R R' : Rs} (h : EndsM fu fns m R) (h' : EndsM fu fns m R') : R = R' := by
 obtain ⟨g, h⟩ := h
 obtain ⟨g', h'⟩ := h'
 have a := goM_mono (Nat.le_max_left g g') h
 have b := goM_mono (Nat.le_max_right g g') h'
 rw [a] at b; exact Option.some.inj b
theorem EndsM.step {fu : Int} {fns : List Fun} {m m' : Ms} {R : Rs} (h : roundM fu fns m = .next m') (he : EndsM fu fns m' R) : EndsM fu fns m R := by
 obtain ⟨g, he⟩ := he
 exact ⟨g + 1, by simp [goM, h, he]⟩
theorem EndsM.total {fu : Int} {fns : List Fun} {m : Ms} (h : m.steps ≤ fu) : ∃ R, EndsM fu fns m R := by
 obtain ⟨g, R, hg⟩ := goM_total fu fns _ _ m h rfl rfl
 exact ⟨R, g, hg⟩
def initM (t : Tr) : Ms := ⟨.ev t .nil, [], [], 0, []⟩
open Classical in
noncomputable def evalT (t : Tr) (fu : Int) : Rs := if h : ∃ R, EndsM fu [] (initM t) R then h.choose else noFuel
noncomputable def evalE (e : List Ex) (fu : Int) : Rs :=
 if check e ≠ 0 then { noFuel with err := check e } else if fu < 1 ∨ 1000000 < fu then { noFuel with err := 4 } else evalT (grow e) fu
end Go.CoreX
namespace Go.CoreX
structure GP where
 p : Lab → Prop
 S : Int → Prop
 W : Int → Prop
 fns : List Fun
 R : Prop := True
structure GPok (G : GP) : Prop where
 sh : ∀ l, G.p l → shpQ l
 bnd : ∀ l, G.p l → ∀ i ∈ bindersN l.op l.binds l.alts, G.S i
 wd : ∀ l, G.p l → l.op = 1 → G.W l.n
 rc : ∀ l, G.p l → l.op = 5 → ∀ i, i < l.binds.length → l.ops[i]? = some 2
 wr : ∀ n, G.W (wrapW n)
 wl : ∀ n : Int, 0 ≤ n → n ≤ 1024 → G.W n
 wm : ∀ a b : Int, G.W a → G.W b → G.W (a.tmod b)
 fn : ∀ f ∈ G.fns, allT G.p f.body ∧ ∀ i ∈ f.params, G.S i
 cl : ∀ l, G.p l → l.op = 14 ∨ l.op = 15 → 0 ≤ l.n ∧ l.n < G.fns.length
 rs : ∀ l, G.p l → l.op = 12 → G.R
def nLf (o : Int) : Prop := ¬ (o = 0 ∨ o = 1 ∨ o = 2 ∨ o = 17 ∨ o = 5)
mutual
def gV (G : GP) : Vl → Prop
 | .nil => True
 | .word n => G.W n
 | .clo t e => t.op = 2 ∧ allT G.p t ∧ gE G e
 | .obj _ fs => gVs G fs
 | .row ls fs => ls.length = fs.length ∧ gVs G fs
 | .arr _ => True
 | .res fs => G.R ∧ gFs G fs
 | .cap n sl => (0 ≤ n ∧ n < G.fns.length) ∧ gVs G sl
def gVs (G : GP) : List Vl → Prop
 | [] => True
 | v :: l => gV G v ∧ gVs G l
def gE (G : GP) : En → Prop
 | .nil => True
 | .bind i v n => G.S i ∧ gV G v ∧ gE G n
 | .recs t n => t.op = 5 ∧ allT G.p t ∧ gE G n
def gF (G : GP) : Fm → Prop
 | .mk t e d => allT G.p t ∧ gE G e ∧ gVs G d ∧ d.length < opdN t ∧ nLf t.op
def gFs (G : GP) : List Fm → Prop
 | [] => True
 | f :: l => gF G f ∧ gFs G l
end
def gC (G : GP) : Ctl → Prop
 | .ev t e => allT G.p t ∧ gE G e
 | .rt v => gV G v
structure gM (G : GP) (m : Ms) : Prop where
 c : gC G m.c
 k : gFs G m.k
 h : ∀ r ∈ m.heap, r.length ≤ 1024 ∧ gVs G r
section
variable {G : GP} (hG : GPok G)
theorem gVs_iff : ∀ {l : List Vl}, gVs G l ↔ ∀ v ∈ l, gV G v
 | [] => by simp [gVs]
 | v :: l => by simp [gVs, gVs_iff (l := l)]
theorem gFs_iff : ∀ {l : List Fm}, gFs G l ↔ ∀ v ∈ l, gF G v
 | [] => by simp [gFs]
 | v :: l => by simp [gFs, gFs_iff (l := l)]
theorem gF_iff {f : Fm} : gF G f ↔ allT G.p f.t ∧ gE G f.e ∧ gVs G f.done ∧ f.done.length < opdN f.t ∧ nLf f.t.op := by cases f; exact Iff.rfl
theorem gVs_getD {l : List Vl} (h : gVs G l) (i : Nat) : gV G (l.getD i .nil) := by
 rw [List.getD_eq_getElem?_getD]
 cases hi : l[i]? with
 | none => simp [gV]
 | some v => exact gVs_iff.1 h v (List.mem_of_getElem? hi)
theorem gVs_app {a b : List Vl} (ha : gVs G a) (hb : gVs G b) : gVs G (a ++ b) := gVs_iff.2 fun v hv => (List.mem_append.1 hv).elim (gVs_iff.1 ha v) (gVs_iff.1 hb v)
theorem gFs_app {a b : List Fm} (ha : gFs G a) (hb : gFs G b) : gFs G (a ++ b) := gFs_iff.2 fun v hv => (List.mem_append.1 hv).elim (gFs_iff.1 ha v) (gFs_iff.1 hb v)
theorem gE_allE : ∀ {ids : List Int} {l : List Vl} {e : En}, gE G e → gVs G l → (∀ i ∈ ids, G.S i) → gE G (allE e ids l)
 | [], _, _, he, _, _ => he
 | i :: ids, l, e, he, hl, hs => by
   refine gE_allE (ids := ids) ⟨hs i (by simp), ?_, he⟩ ?_ fun j hj => hs j (by simp [hj])
   · cases l with
     | nil => simp [gV]
     | cons v l => exact hl.1
   · cases l with
     | nil => simp [gVs]
     | cons v l => exact hl.2
include hG
theorem g_sh {t : Tr} (h : allT G.p t) : ShN t.op t.n t.binds t.kids.length t.alts := shpQ_node (allT_imp hG.sh t h)
theorem g_bnd {t : Tr} (h : allT G.p t) : ∀ i ∈ bindersN t.op t.binds t.alts, G.S i := hG.bnd _ (allT_lab h)
theorem g_altS {t : Tr} (h : allT G.p t) {i : Nat} {a : Alt} (ha : t.alts[i]? = some a) : ∀ j ∈ a.binds, G.S j := fun j hj => g_bnd hG h j (by
 unfold bindersN
 exact List.mem_append.2 (.inr (List.mem_flatMap.2 ⟨a, List.mem_of_getElem? ha, hj⟩)))
omit hG in
theorem lastIx_lt {l : List Int} {id : Int} : ∀ {n i : Nat}, lastIx l id n = some i → i < n ∧ l.getD i 0 = id
 | 0, _, h => by cases h
 | n + 1, i, h => by
   unfold lastIx at h
   split at h
   · rename_i he; cases h; exact ⟨by omega, he⟩
   · have := lastIx_lt h; exact ⟨by omega, this.2⟩
theorem g_recLam {t : Tr} (h : allT G.p t) (h5 : t.op = 5) {i : Nat} (hi : i < t.binds.length) : (t.kids.getD i default).op = 2 ∧ allT G.p (t.kids.getD i default) ∧ i < t.kids.length := by
 have h1 := hG.rc _ (allT_lab h) h5 i hi
 simp only at h1
 rw [List.getElem?_map] at h1
 cases hk : t.kids[i]? with
 | none => rw [hk] at h1; cases h1
 | some s =>
   rw [hk] at h1
   have hl := (List.getElem?_eq_some_iff.1 hk).1
   refine ⟨?_, allT_get h hl, hl⟩
   rw [List.getD_eq_getElem?_getD, hk]
   simpa using h1
theorem gE_find {id : Int} : ∀ {e : En}, gE G e → gV G (findE id e)
 | .nil, _ => by simp [findE, gV]
 | .bind i v n, h => by
   unfold findE
   split
   · exact h.2.1
   · exact gE_find h.2.2
 | .recs t n, h => by
   unfold findE
   split
   · rename_i i hi
     have h1 := (lastIx_lt hi).1
     have h2 := g_recLam hG h.2.1 h.1 h1
     exact ⟨h2.1, h2.2.1, h.1, h.2.1, h.2.2⟩
   · exact gE_find h.2.2
theorem chooseA_g {t : Tr} {e : En} {tag : Int} {fs : List Vl} {c : Ctl} (ht : allT G.p t) (h7 : t.op = 7) (he : gE G e) (hf : gVs G fs) : ∀ (l : List Alt) (i : Nat), t.alts.drop i = l → chooseA tag fs e t.kids i l = .ok c → gC G c
 | [], _, _, h => by cases h
 | a :: al, i, hd, h => by
   have ha : t.alts[i]? = some a := by
     have := congrArg (·[0]?) hd
     simpa using this
   have hl := (List.getElem?_eq_some_iff.1 ha).1
   have hsh := g_sh hG ht
   rw [h7] at hsh
   have hk : 1 + i < t.kids.length := by rw [hsh.case.1]; omega
   unfold chooseA at h
   split at h
   · split at h
     · cases h; exact ⟨allT_get ht hk, gE_allE he hf (g_altS hG ht ha)⟩
     · cases h
   · split at h
     · cases h; exact ⟨allT_get ht hk, he⟩
     · exact chooseA_g ht h7 he hf al (i + 1) (by rw [← List.drop_drop, hd]; rfl) h
omit hG in
theorem clauseIx_some {op : Int} : ∀ {l : List Alt} {i j : Nat}, clauseIx op i l = some j → 0 < j ∧ i ≤ j ∧ ∃ a, l[j - i]? = some a ∧ a.tag = op
 | [], _, _, h => by cases h
 | a :: al, i, j, h => by
   unfold clauseIx at h
   split at h
   · rename_i hc; cases h; exact ⟨hc.2, by omega, a, by simp, hc.1⟩
   · obtain ⟨h1, h2, b, h3, h4⟩ := clauseIx_some h
     refine ⟨h1, by omega, b, ?_, h4⟩
     rw [show j - i = (j - (i + 1)) + 1 by omega]; simpa using h3
theorem performM_g {op : Int} {v : Vl} {m m' : Ms} (hR : G.R) (hv : gV G v) (hh : ∀ r ∈ m.heap, r.length ≤ 1024 ∧ gVs G r) : ∀ {k l : List Fm}, gFs G l → gFs G k → performM m op v l k = .ok m' → gM G m'
 | [], _, _, _, h => by cases h
 | f :: k, l, hl, hk, h => by
   unfold performM at h
   split at h
   · rename_i i hi
     split at hi
     · rename_i h13
       obtain ⟨h1, h2, a, h3, h4⟩ := clauseIx_some hi
       cases h
       cases f with
       | mk t e d =>
         obtain ⟨g1, g2, g3, g4⟩ := hk.1
         simp only [Fm.t_mk, Fm.e_mk] at *
         have hsh := g_sh hG g1
         rw [h13] at hsh
         have h3 : t.alts[i]? = some a := by simpa using h3
         have hil := (List.getElem?_eq_some_iff.1 h3).1
         have hb := (hsh.handle.2.2.2 i a h3).2
         rw [if_neg (by omega)] at hb
         have hS := g_altS hG g1 h3
         have hga : t.alts.getD i ⟨0, []⟩ = a := by rw [List.getD_eq_getElem?_getD, h3]; rfl
         match hab : a.binds, hb with
         | [x, y], _ =>
           refine ⟨⟨allT_get g1 (by rw [hsh.handle.1]; omega), ?_, ?_, ?_, hv, g2⟩, hk.2, hh⟩
           · rw [hga, hab]; exact hS _ (by rw [hab]; simp)
           · exact ⟨hR, gFs_app (b := [_]) hl ⟨⟨g1, g2, g3, g4⟩, trivial⟩⟩
           · rw [hga, hab]; exact hS _ (by rw [hab]; simp)
     · cases hi
   · exact performM_g hR hv hh (gFs_app (b := [f]) hl ⟨hk.1, trivial⟩) hk.2 h
theorem primM_g {fu : Int} {m m' : Ms} {n : Int} {l : List Vl} {v : Vl} (hl : gVs G l) (hh : ∀ r ∈ m.heap, r.length ≤ 1024 ∧ gVs G r) (h : primM fu m n l = .ok (m', v)) : gV G v ∧ ∀ r ∈ m'.heap, r.length ≤ 1024 ∧ gVs G r := by
 have hw : ∀ {i : Nat} {a : Int}, wordV (l.getD i .nil) = .ok a → G.W a := by
   intro i a ha
   have := gVs_getD hl i
   cases hv : l.getD i Vl.nil <;> rw [hv] at ha this <;> first | (cases ha; done) | (cases ha; exact this)
 unfold primM at h
 repeat' split at h
 all_goals try (simp only [bind, Except.bind, pure, Except.pure] at h; repeat' split at h)
 all_goals try (cases h; done)
 all_goals try (cases h; refine ⟨?_, hh⟩; first | exact hG.wr _ | (simp only [condV, gV, gVs]; done))
 · rename_i a ha _ b hb _
   cases h; exact ⟨hG.wm _ _ (hw ha) (hw hb), hh⟩
 · unfold freshM at h
   repeat' split at h
   all_goals try (cases h; done)
   cases h
   refine ⟨trivial, fun r hr => ?_⟩
   rcases List.mem_append.1 hr with hr | hr
   · exact hh r hr
   · simp at hr
     subst hr
     refine ⟨by simp; omega, gVs_iff.2 fun v hv => ?_⟩
     rw [(List.mem_replicate.1 hv).2]
     exact gVs_getD hl 1
 · unfold arraysM at h
   simp only [bind, Except.bind, pure, Except.pure] at h
   have hit : ∀ {a : Nat} {its : List Vl}, itemsV m.heap (l.getD 0 .nil) = .ok (a, its) → its.length ≤ 1024 ∧ gVs G its := by
     intro a its ha
     cases hv : l.getD 0 Vl.nil <;> rw [hv] at ha <;> try (cases ha; done)
     cases ha
     rw [List.getD_eq_getElem?_getD]
     cases hr : m.heap[a]? with
     | none => simp [gVs]
     | some r => exact hh r (List.mem_of_getElem? hr)
   cases hp : itemsV m.heap (l.getD 0 .nil) with
   | error c => rw [hp] at h; cases h
   | ok p =>
     obtain ⟨a, its⟩ := p
     rw [hp] at h
     simp only at h
     by_cases h9 : n = 9
     · rw [if_pos h9] at h
       cases h
       exact ⟨hG.wl _ (by omega) (by have := (hit hp).1; omega), hh⟩
     rw [if_neg h9] at h
     cases hw1 : wordV (l.getD 1 .nil) with
     | error c => rw [hw1] at h; cases h
     | ok i =>
       rw [hw1] at h
       simp only at h
       split at h
       · cases h
       split at h
       · cases h
         exact ⟨gVs_getD (hit hp).2 _, hh⟩
       · cases h
         refine ⟨by simp only [gV, gVs], fun r hr => ?_⟩
         rcases List.mem_or_eq_of_mem_set hr with hr | hr
         · exact hh r hr
         · subst hr
           refine ⟨by simpa using (hit hp).1, gVs_iff.2 fun v hv => ?_⟩
           rcases List.mem_or_eq_of_mem_set hv with hv | hv
           · exact gVs_iff.1 (hit hp).2 v hv
           · rw [hv]; exact gVs_getD hl 2
theorem plainM_g {fu : Int} {m m' : Ms} {t : Tr} {l : List Vl} {v : Vl} (ht : allT G.p t) (hlen : l.length = t.kids.length) (hl : gVs G l) (hh : ∀ r ∈ m.heap, r.length ≤ 1024 ∧ gVs G r) (h : plainM fu m t l = .ok (m', v)) : gV G v ∧ ∀ r ∈ m'.heap, r.length ≤ 1024 ∧ gVs G r := by
 have hr : ∀ {ls : List Int} {fs : List Vl}, rowsV (l.getD 0 .nil) = .ok (ls, fs) → ls.length = fs.length ∧ gVs G fs := by
   intro ls fs ha
   have := gVs_getD hl 0
   cases hv : l.getD 0 Vl.nil <;> rw [hv] at ha this <;> first | (cases ha; done) | (cases ha; exact this)
 unfold plainM at h
 split at h
 · cases h; exact ⟨hl, hh⟩
 split at h
 · exact primM_g hG hl hh h
 split at h
 · rename_i h9
   cases h
   have := g_sh hG ht
   rw [h9] at this
   exact ⟨⟨by rw [hlen]; exact this.row.1.symm, hl⟩, hh⟩
 split at h
 · simp only [bind, Except.bind, pure, Except.pure] at h
   repeat' split at h
   all_goals try (cases h; done)
   rename_i _ p hp _
   obtain ⟨ls, fs⟩ := p
   cases h
   exact ⟨gVs_getD (hr hp).2 _, hh⟩
 · simp only [bind, Except.bind, pure, Except.pure] at h
   repeat' split at h
   all_goals try (cases h; done)
   rename_i _ p hp
   obtain ⟨ls, fs⟩ := p
   cases h
   refine ⟨?_, hh⟩
   have hv := gVs_getD hl 1
   obtain ⟨h1, h2⟩ := hr hp
   unfold withR
   split
   · refine ⟨by simpa using h1, gVs_iff.2 fun v hv' => ?_⟩
     rcases List.mem_or_eq_of_mem_set hv' with h3 | h3
     · exact gVs_iff.1 h2 v h3
     · rw [h3]; exact hv
   · refine ⟨by simp [h1], gVs_app (gVs_iff.2 fun v hv' => gVs_iff.1 h2 v (List.mem_of_mem_take hv')) ⟨hv, gVs_iff.2 fun v hv' => gVs_iff.1 h2 v (List.mem_of_mem_drop hv')⟩⟩
theorem g_fn (n : Int) (h : 0 ≤ n ∧ n < G.fns.length) : allT G.p (G.fns.getD n.toNat ⟨[], default⟩).body ∧ ∀ i ∈ (G.fns.getD n.toNat ⟨[], default⟩).params, G.S i := by
 have hl : n.toNat < G.fns.length := by omega
 rw [List.getD_eq_getElem?_getD, List.getElem?_eq_getElem hl]
 exact hG.fn _ (List.getElem_mem hl)
theorem g_opN {t : Tr} (ht : allT G.p t) : opdN t ≤ t.kids.length := by
 have hsh := g_sh hG ht
 unfold opdN
 split
 · rename_i h
   rcases h with h | h | h | h <;> rw [h] at hsh
   · rw [hsh.lett.1]; omega
   · rw [hsh.case.1]; omega
   · rw [hsh.handle.1]; omega
   · rw [(hsh.one (.inr (.inl rfl))).1]; omega
 · omega
theorem kidM_g {fu : Int} {m m' : Ms} {f : Fm} {k : List Fm} (ht : allT G.p f.t) (he : gE G f.e) (hd : gVs G f.done) (hl : f.done.length ≤ opdN f.t) (hn : nLf f.t.op) (hk : gFs G k) (hh : ∀ r ∈ m.heap, r.length ≤ 1024 ∧ gVs G r) (h : kidM fu G.fns m f k = .ok m') : gM G m' := by
 have hsh := g_sh hG ht
 have hop := g_opN hG ht
 have hv := gVs_getD hd 0
 unfold kidM at h
 split at h
 · rename_i hlt
   cases h
   refine ⟨⟨allT_get ht (by omega), he⟩, ⟨?_, hk⟩, hh⟩
   cases f; exact ⟨ht, he, hd, hlt, hn⟩
 rename_i hge
 split at h
 · rename_i h4
   cases h
   rw [h4] at hsh
   obtain ⟨h1, h2, h3⟩ := hsh.lett
   refine ⟨⟨allT_get ht (by omega), ?_, hv, he⟩, hk, hh⟩
   have := g_bnd hG ht
   unfold bindersN at this
   rw [if_pos (by omega)] at this
   match hb : f.t.binds, h2 with
   | [x], _ => rw [hb] at this; exact this x (by simp)
 split at h
 · rename_i h7
   unfold chooseM at h
   split at h
   · rename_i tag fs hobj
     cases hc : chooseA tag fs f.e f.t.kids 0 f.t.alts with
     | error c => rw [hc] at h; cases h
     | ok c =>
       rw [hc] at h
       cases h
       rw [hobj] at hv
       exact ⟨chooseA_g hG ht h7 he hv _ 0 rfl hc, hk, hh⟩
   · cases h
 split at h
 · rename_i h3
   have hd1 : gVs G (f.done.drop 1) := gVs_iff.2 fun v hv' => gVs_iff.1 hd v (List.mem_of_mem_drop hv')
   unfold callM at h
   split at h
   · rename_i t e hclo
     rw [hclo] at hv
     split at h
     · cases h
       have h1 := g_sh hG hv.2.1
       have h2 := g_bnd hG hv.2.1
       rw [hv.1] at h1
       unfold bindersN at h2
       rw [hv.1, if_pos (by simp)] at h2
       refine ⟨⟨allT_get hv.2.1 (by have := h1.lam.1; omega), gE_allE hv.2.2 hd1 fun i hi => h2 i (List.mem_append.2 (.inl hi))⟩, hk, hh⟩
     · cases h
   · rename_i n slots hcap
     rw [hcap] at hv
     split at h
     · cases h
       have := g_fn hG n hv.1
       exact ⟨⟨this.1, gE_allE trivial ⟨hv, hd1⟩ this.2⟩, hk, hh⟩
     · cases h
   · rename_i fs hres
     rw [hres] at hv
     split at h
     · rename_i a ha
       cases h
       rw [ha] at hd1
       exact ⟨hd1.1, gFs_app hv.2 hk, hh⟩
     · cases h
   · cases h
 split at h
 · rename_i h13
   cases h
   rw [h13] at hsh
   obtain ⟨h1, h2, h3, h4⟩ := hsh.handle
   refine ⟨⟨allT_get ht (by omega), ?_, hv, he⟩, hk, hh⟩
   obtain ⟨a, ha⟩ : ∃ a, f.t.alts[0]? = some a := ⟨_, List.getElem?_eq_getElem (by omega)⟩
   have hb := (h4 0 a ha).2
   rw [if_pos rfl] at hb
   have hS := g_altS hG ht ha
   have hga : f.t.alts.getD 0 ⟨0, []⟩ = a := by rw [List.getD_eq_getElem?_getD, ha]; rfl
   rw [hga]
   match hab : a.binds, hb with
   | [x], _ => rw [hab] at hS; exact hS x (by simp)
 split at h
 · rename_i h12
   exact performM_g hG (hG.rs _ (allT_lab ht) h12) (l := []) hv hh trivial hk h
 split at h
 · rename_i h14
   cases h
   have := g_fn hG f.t.n (hG.cl _ (allT_lab ht) (.inl h14))
   exact ⟨⟨this.1, gE_allE trivial hd this.2⟩, hk, hh⟩
 split at h
 · rename_i h15
   cases h
   exact ⟨⟨hG.cl _ (allT_lab ht) (.inr h15), hd⟩, hk, hh⟩
 split at h
 · split at h
   · rename_i n slots hcap
     rw [hcap] at hv
     split at h
     · cases h; exact ⟨gVs_getD hv.2 _, hk, hh⟩
     · cases h
   · cases h
 · rename_i h4 h7 h3 h13 h12 h14 h15 h16
   cases hp : plainM fu { m with k := k } f.t f.done with
   | error c => rw [hp] at h; cases h
   | ok mv =>
     obtain ⟨m2, v2⟩ := mv
     rw [hp] at h
     cases h
     have hlen : f.done.length = f.t.kids.length := by
       unfold opdN at hge hl
       rw [if_neg (by omega)] at hge hl
       omega
     obtain ⟨g1, g2⟩ := plainM_g hG (m := { m with k := k }) ht hlen hd hh hp
     refine ⟨g1, ?_, g2⟩
     rw [(plainM_after hp).2.2]; exact hk
theorem startM_g {fu : Int} {m m' : Ms} {t : Tr} {e : En} (ht : allT G.p t) (he : gE G e) (hk : gFs G m.k) (hh : ∀ r ∈ m.heap, r.length ≤ 1024 ∧ gVs G r) (h : startM fu G.fns m t e = .ok m') : gM G m' := by
 unfold startM at h
 split at h
 · cases h; exact ⟨gE_find hG he, hk, hh⟩
 split at h
 · rename_i h1
   cases h; exact ⟨hG.wd _ (allT_lab ht) h1, hk, hh⟩
 split at h
 · rename_i h2
   cases h; exact ⟨⟨h2, ht, he⟩, hk, hh⟩
 split at h
 · cases h
 split at h
 · rename_i h5
   cases h
   have hsh := g_sh hG ht
   rw [h5] at hsh
   exact ⟨⟨allT_get ht (by have := hsh.recs.1; omega), h5, ht, he⟩, hk, hh⟩
 · rename_i h0 h1 h2 h17 h5
   exact kidM_g hG (f := .mk t e []) ht he trivial (Nat.zero_le _) (fun hh => hh.elim h0 fun hh => hh.elim h1 fun hh => hh.elim h2 fun hh => hh.elim h17 h5) hk hh h
theorem roundM_g {fu : Int} {m m' : Ms} (hm : gM G m) (h : roundM fu G.fns m = .next m') : gM G m' := by
 unfold roundM at h
 split at h
 · rename_i v hc
   have hv : gV G v := by have := hm.c; rw [hc] at this; exact this
   split at h
   · cases h
   · rename_i f k hk
     have hf := hm.k
     rw [hk] at hf
     split at h
     · rename_i m2 hkid
       cases h
       obtain ⟨g1, g2, g3, g4, g5⟩ := gF_iff.1 hf.1
       exact kidM_g hG (f := .mk f.t f.e (f.done ++ [v])) g1 g2 (gVs_app (b := [v]) g3 ⟨hv, trivial⟩) (by simp only [Fm.done_mk, Fm.t_mk, List.length_append, List.length_singleton]; omega) g5 hf.2 hm.h hkid
     · cases h
 · rename_i t e hc
   have ht : allT G.p t ∧ gE G e := by have := hm.c; rw [hc] at this; exact this
   split at h
   · cases h
   · split at h
     · rename_i m2 hst
       cases h
       exact startM_g hG (m := { m with steps := m.steps + 1 }) ht.1 ht.2 hm.k hm.h hst
     · cases h
end
end Go.CoreX
namespace Go.CoreX
structure Sim where
 ν : Int → Int
 eb : En
 kb : List Fm
 ob : List Int
 hb : List (List Vl)
 st : Int
mutual
def mapV (s : Sim) : Vl → Vl
 | .nil => .nil
 | .word n => .word n
 | .clo t e => .clo (mapT s.ν t) (mapE s e)
 | .obj g fs => .obj g (mapVs s fs)
 | .row ls fs => .row ls (mapVs s fs)
 | .arr a => .arr (s.hb.length + a)
 | .res fs => .res (mapFs s fs)
 | .cap n sl => .cap n (mapVs s sl)
def mapVs (s : Sim) : List Vl → List Vl
 | [] => []
 | v :: l => mapV s v :: mapVs s l
def mapE (s : Sim) : En → En
 | .nil => s.eb
 | .bind i v n => .bind (s.ν i) (mapV s v) (mapE s n)
 | .recs t n => .recs (mapT s.ν t) (mapE s n)
def mapF (s : Sim) : Fm → Fm
 | .mk t e d => .mk (mapT s.ν t) (mapE s e) (mapVs s d)
def mapFs (s : Sim) : List Fm → List Fm
 | [] => []
 | f :: l => mapF s f :: mapFs s l
end
def mapC (s : Sim) : Ctl → Ctl
 | .ev t e => .ev (mapT s.ν t) (mapE s e)
 | .rt v => .rt (mapV s v)
def mapM (s : Sim) (m : Ms) : Ms := ⟨mapC s m.c, mapFs s m.k ++ s.kb, s.ob ++ m.out, s.st + m.steps, s.hb ++ m.heap.map (mapVs s)⟩
structure SimOk (s : Sim) (G : GP) : Prop where
 inj : ∀ a b, G.S a → G.S b → s.ν a = s.ν b → a = b
 eb : ∀ a, G.S a → findE (s.ν a) s.eb = .nil
 var : ∀ l, G.p l → l.op = 0 → G.S l.n
 kb : ∀ l, G.p l → l.op = 12 → ∀ f ∈ s.kb, f.t.op = 13 → clauseIx l.n 0 f.t.alts = none
 fns : G.fns = []
section
variable {s : Sim} {G : GP}
section
variable (ν : Int → Int) (t : Tr)
end
theorem all_map : ∀ (ids : List Int) (l : List Vl) (e : En), allE (mapE s e) (ids.map s.ν) (mapVs s l) = mapE s (allE e ids l)
 | [], _, _ => by simp [allE]
 | i :: ids, l, e => by
   have h1 : (mapVs s l).headD .nil = mapV s (l.headD .nil) := by cases l <;> simp [mapVs, mapV]
   have h2 : (mapVs s l).tail = mapVs s l.tail := by cases l <;> simp [mapVs]
   simp only [List.map_cons, allE, h1, h2]
   exact all_map ids l.tail (.bind i (l.headD .nil) e)
structure FuOk (s : Sim) (fu fu2 : Int) : Prop where
 ge : s.st + fu ≤ fu2
end
end Go.CoreX
