/- Rename, walked: the renaming of a tree of own nodes. -/
import Derived.Test.YtnonkoeknpmcjaaDoorB10
namespace Go.CoreX
set_option linter.unusedVariables false
set_option linter.unusedSimpArgs false
def rnAs (nm : Nm) (f : Int) : List LAlt → List LAlt × Nm × Int
  | [] => ([], nm, f)
  | x :: l => (⟨x.tag, x.nb, frB f x.binds⟩ :: (rnAs (frN nm f x.binds) (f + x.binds.length) l).1, (rnAs (frN nm f x.binds) (f + x.binds.length) l).2)
def ren1 (o : Int) (nm : Nm) (f : Int) (b : List Int) : List Int × Nm × Int := if o = 9 then (b, nm, f) else (frB f b, frN nm f b, f + b.length)
mutual
def rnL (nm : Nm) (f : Int) : LTr → LTr × Nm × Int
  | .mk i o n nb b k a =>
    let s1 := ren1 o nm f b
    let s2 := rnAs s1.2.1 s1.2.2 a
    let s3 := rnLs s2.2.1 s2.2.2 k
    (.mk i o (if o = 0 then (nm n).getD n else n) nb s1.1 s3.1 s2.1, s3.2)
def rnLs (nm : Nm) (f : Int) : List LTr → List LTr × Nm × Int
  | [] => ([], nm, f)
  | t :: l => ((rnL nm f t).1 :: (rnLs (rnL nm f t).2.1 (rnL nm f t).2.2 l).1, (rnLs (rnL nm f t).2.1 (rnL nm f t).2.2 l).2)
end
theorem rnAs_snoc (x : LAlt) : ∀ (l : List LAlt) (nm : Nm) (f : Int), rnAs nm f (l ++ [x]) = ((rnAs nm f l).1 ++ [⟨x.tag, x.nb, frB (rnAs nm f l).2.2 x.binds⟩], frN (rnAs nm f l).2.1 (rnAs nm f l).2.2 x.binds, (rnAs nm f l).2.2 + x.binds.length)
  | [], nm, f => rfl
  | y :: l, nm, f => by simp only [List.cons_append, rnAs, rnAs_snoc x l]
theorem rnLs_snoc (t : LTr) : ∀ (l : List LTr) (nm : Nm) (f : Int), rnLs nm f (l ++ [t]) = ((rnLs nm f l).1 ++ [(rnL (rnLs nm f l).2.1 (rnLs nm f l).2.2 t).1], (rnL (rnLs nm f l).2.1 (rnLs nm f l).2.2 t).2)
  | [], nm, f => by simp [rnLs]
  | y :: l, nm, f => by simp only [List.cons_append, rnLs, rnLs_snoc t l]
-- How many identifiers are bound (and renamed).
def nbA (l : List LAlt) : Nat := (l.map fun x => x.binds.length).sum
mutual
def nbL : LTr → Nat
  | .mk _ o _ _ b k a => (if o = 9 then 0 else b.length) + nbA a + nbLs k
def nbLs : List LTr → Nat
  | [] => 0
  | t :: l => nbL t + nbLs l
end
theorem ren1_f (o : Int) (nm : Nm) (f : Int) (b : List Int) : (ren1 o nm f b).2.2 = f + (if o = 9 then 0 else b.length : Nat) := by
  unfold ren1; split <;> simp
theorem rnAs_f : ∀ (l : List LAlt) (nm : Nm) (f : Int), (rnAs nm f l).2.2 = f + nbA l
  | [], _, _ => by simp [rnAs, nbA]
  | x :: l, nm, f => by simp only [rnAs, rnAs_f l, nbA, List.map_cons, List.sum_cons]; push_cast; omega
mutual
theorem rnL_f : ∀ (t : LTr) (nm : Nm) (f : Int), (rnL nm f t).2.2 = f + nbL t
  | .mk i o n nb b k a, nm, f => by
    simp only [rnL, rnLs_f k, rnAs_f, ren1_f, nbL]; push_cast; omega
theorem rnLs_f : ∀ (l : List LTr) (nm : Nm) (f : Int), (rnLs nm f l).2.2 = f + nbLs l
  | [], _, _ => by simp [rnLs, nbLs]
  | t :: l, nm, f => by simp only [rnLs, rnLs_f l, rnL_f t, nbLs]; push_cast; omega
end
theorem nbA_app (l r : List LAlt) : nbA (l ++ r) = nbA l + nbA r := by simp [nbA]
theorem nbLs_app : ∀ l r : List LTr, nbLs (l ++ r) = nbLs l + nbLs r
  | [], r => by simp [nbLs]
  | t :: l, r => by simp only [List.cons_append, nbLs, nbLs_app l r]; omega
-- A list that is renamed is own, unless it is empty.
def ownB (nb : Nb) (b : List Int) : Prop := nb = none → b = []
mutual
def okL : LTr → Prop
  | .mk _ o _ nb b k a => (o ≠ 9 → ownB nb b) ∧ b.length ≤ 1048576 ∧ k.length ≤ 1048576 ∧ a.length ≤ 1048576 ∧ (∀ x ∈ a, ownB x.nb x.binds ∧ x.binds.length ≤ 1048576) ∧ okLs k
def okLs : List LTr → Prop
  | [] => True
  | t :: l => okL t ∧ okLs l
end
theorem okLs_iff : ∀ {l : List LTr}, okLs l ↔ ∀ t ∈ l, okL t
  | [] => by simp [okLs]
  | t :: l => by simp [okLs, okLs_iff (l := l)]
theorem frB_nil (f : Int) : frB f [] = [] := rfl
end Go.CoreX
namespace Go.Proofs.YtnonkoeknpmcjaaDoor
open Go Go.Abs Go.CoreX
set_option maxRecDepth 10000
set_option linter.unusedVariables false
set_option linter.unusedSimpArgs false
variable {Γ : List (Nat × List AC)}
theorem bC_fr {nb : Nb} {b : List Int} (h : ownB nb b) (f : Int) : bC nb (frB f b) = bC nb b := by
  cases nb with
  | none => rw [h rfl, frB_nil]
  | some x => obtain ⟨a, cap⟩ := x; simp [bC, frB_len]
theorem keys_bO (nb : Nb) (b b' : List Int) : keys (bO nb b) = keys (bO nb b') := by cases nb <;> rfl
theorem lAlt_fr {x : LAlt} (h : ownB x.nb x.binds) (f : Int) : lAlt ⟨x.tag, x.nb, frB f x.binds⟩ = lAlt x := by simp only [lAlt, bC_fr h]
theorem rnAs_c : ∀ {l : List LAlt} {nm : Nm} {f : Int}, (∀ x ∈ l, ownB x.nb x.binds) → (rnAs nm f l).1.map lAlt = l.map lAlt
  | [], _, _, _ => rfl
  | x :: l, nm, f, h => by
    have ih := rnAs_c (l := l) (nm := frN nm f x.binds) (f := f + x.binds.length) fun y hy => h y (by simp [hy])
    simp only [rnAs, List.map_cons, lAlt_fr (h x (by simp)), ih]
theorem keys_app (l r : List (Nat × AObj)) : keys (l ++ r) = keys l ++ keys r := by simp [keys]
theorem aO_cons (x : LAlt) (l : List LAlt) : aO (x :: l) = bO x.nb x.binds ++ aO l := rfl
theorem aO_app (l r : List LAlt) : aO (l ++ r) = aO l ++ aO r := by simp [aO]
theorem rnAs_k : ∀ (l : List LAlt) (nm : Nm) (f : Int), keys (aO (rnAs nm f l).1) = keys (aO l)
  | [], _, _ => rfl
  | x :: l, nm, f => by simp only [rnAs, aO_cons, keys_app, rnAs_k l]; rw [keys_bO x.nb _ x.binds]
theorem ren1_c {o : Int} {nb : Nb} {b : List Int} (h : o ≠ 9 → ownB nb b) (nm : Nm) (f : Int) : bC nb (ren1 o nm f b).1 = bC nb b := by
  unfold ren1
  split
  · rfl
  · exact bC_fr (h (by assumption)) f
mutual
theorem rnL_id : ∀ (t : LTr) (nm : Nm) (f : Int), (rnL nm f t).1.id = t.id
  | .mk i o n nb b k a, nm, f => rfl
theorem rnLs_c : ∀ (l : List LTr) (nm : Nm) (f : Int), kC (rnLs nm f l).1 = kC l
  | [], _, _ => rfl
  | t :: l, nm, f => by
    have h1 := rnL_id t nm f
    have h2 := rnLs_c l (rnL nm f t).2.1 (rnL nm f t).2.2
    unfold kC at h2 ⊢
    simp only [rnLs, List.map_cons, h1, h2]
end
mutual
theorem rnL_k : ∀ (t : LTr) (nm : Nm) (f : Int), keys (objs (rnL nm f t).1) = keys (objs t)
  | .mk i o n nb b k a, nm, f => by
    have h1 := rnLs_k k (rnAs (ren1 o nm f b).2.1 (ren1 o nm f b).2.2 a).2.1 (rnAs (ren1 o nm f b).2.1 (ren1 o nm f b).2.2 a).2.2
    have h2 := rnAs_k a (ren1 o nm f b).2.1 (ren1 o nm f b).2.2
    have h3 := keys_bO nb (ren1 o nm f b).1 b
    simp only [keys] at h1 h2 h3
    simp only [rnL, objs, keys, List.map_cons, List.map_append, h1, h2, h3]
theorem rnLs_k : ∀ (l : List LTr) (nm : Nm) (f : Int), keys (objss (rnLs nm f l).1) = keys (objss l)
  | [], _, _ => rfl
  | t :: l, nm, f => by
    have h1 := rnL_k t nm f
    have h2 := rnLs_k l (rnL nm f t).2.1 (rnL nm f t).2.2
    simp only [keys] at h1 h2
    simp only [rnLs, objss, keys, List.map_append, h1, h2]
end
def fnR (kn kf kw : Nat) : AC := .fn (.func 79) [] [.ptr (.o kn) 0, .ptr (.o kf) 0, .ptr (.o kw) 0]
def RenQ (ou : Outer) (kn km kf : Nat) (nm : Nm) (f : Int) (t : LTr) (r : FV) (ou' : Outer) : Prop :=
  r = .tup [] ∧ ∃ ck' l', RnS ou' kn km kf (rnL nm f t).2.1 ck' l' (rnL nm f t).2.2 ∧ Owns ou' (objs (rnL nm f t).1) ∧ OuOk ou' ∧ ∀ j, j ≠ km → j ≠ kf → j ∉ keys (objs t) → ou' j = ou j
def RenOk (Γ : List (Nat × List AC)) (t : LTr) : Prop := ∀ (ou : Outer) (kn km kf kw : Nat) (nm : Nm) (ck : Nat) (l : List (Nat × Int × Int)) (f : Int), RnS ou kn km kf nm ck l f → ou kw = some (.cells [fnR kn kf kw]) → Owns ou (objs t) → (keys (objs t)).Nodup →
  (∀ k ∈ keys (objs t), k ≠ kn ∧ k ≠ km ∧ k ≠ kf ∧ k ≠ kw) → 0 ≤ f → f + nbL t ≤ 4611686018427387904 → OuOk ou →
  AFn Tryd.prog Γ 79 [.one (.ptr (.o t.id) 0), .one (.ptr (.o kn) 0), .one (.ptr (.o kf) 0), .one (.ptr (.o kw) 0)] ou (RenQ ou kn km kf nm f t)
theorem ids_node (o n : Int) (nb : Nb) (b : List Int) (ks : List LTr) (a : List LAlt) : (AObj.cells [int o, int n, bC nb b, .sl 1 (kC ks), .sl 2 (a.map lAlt)]).ids isO :=
  ⟨trivial, trivial, ids_bC _ (fun _ => trivial) _ _, ids_kC _ (fun _ => trivial) _, ids_lAlts _ (fun _ => trivial) _, trivial⟩
/-- Where the renaming of a node stands: its own cells, its identifiers, its alternatives, its kids. -/
structure NdS (ou ov : Outer) (kn km kf kw i : Nat) (cs : List AC) (K : List Nat) (nm : Nm) (ck : Nat) (l : List (Nat × Int × Int)) (f : Int) (Lb La Lk : List (Nat × AObj)) : Prop where
  R : RnS ov kn km kf nm ck l f
  w : ov kw = some (.cells [fnR kn kf kw])
  i : ov i = some (.cells cs)
  b : Owns ov Lb
  a : Owns ov La
  k : Owns ov Lk
  ok : OuOk ov
  fr : ∀ j, j ≠ km → j ≠ kf → j ∉ K → ov j = ou j
/-- A part is renamed: all else stays. -/
theorem NdS.frame {ou ov ow : Outer} {kn km kf kw i : Nat} {cs : List AC} {K S : List Nat} {nm nm' : Nm} {ck ck' : Nat} {l l' : List (Nat × Int × Int)} {f f' : Int} {Lb La Lk Lb' La' Lk' : List (Nat × AObj)} (h : NdS ou ov kn km kf kw i cs K nm ck l f Lb La Lk)
    (hR : RnS ow kn km kf nm' ck' l' f') (hok : OuOk ow) (hfr : ∀ j, j ≠ km → j ≠ kf → j ∉ S → ow j = ov j) (hS : ∀ j ∈ S, j ∈ K ∧ j ≠ i) (hK : ∀ k ∈ K, k ≠ kn ∧ k ≠ km ∧ k ≠ kf ∧ k ≠ kw) (hi : i ∈ K) (hw : kw ≠ km ∧ kw ≠ kf)
    (hb : Owns ow Lb') (ha : Owns ow La') (hk : Owns ow Lk') : NdS ou ow kn km kf kw i cs K nm' ck' l' f' Lb' La' Lk' where
  R := hR
  w := (hfr kw hw.1 hw.2 fun hj => (hK kw (hS kw hj).1).2.2.2 rfl).trans h.w
  i := (hfr i (hK i hi).2.1 (hK i hi).2.2.1 fun hj => (hS i hj).2 rfl).trans h.i
  b := hb
  a := ha
  k := hk
  ok := hok
  fr := fun j h1 h2 h3 => (hfr j h1 h2 fun hj => h3 (hS j hj).1).trans (h.fr j h1 h2 h3)
theorem rename1_ok (hΓ : ∀ g cs, (g, cs) ∈ Γ → idsL isO cs) : ∀ t : LTr, okL t → RenOk Γ t
  | .mk i o n nb b ks a, hok => by
    obtain ⟨hnb, hbl, hkl, hal, hax, hks⟩ := hok
    have ih : ∀ t ∈ ks, RenOk Γ t := fun t ht => rename1_ok hΓ t (okLs_iff.1 hks t ht)
    intro ou kn km kf kw nm ck l f hR hw ho hnd hdis hf0 hf1 hou0
    have hni := owns_node ho
    have e0 : objs (.mk i o n nb b ks a) = (i, .cells [int o, int n, bC nb b, .sl 1 (kC ks), .sl 2 (a.map lAlt)]) :: ((bO nb b ++ aO a) ++ objss ks) := rfl
    obtain ⟨K, hKe⟩ : ∃ K, K = keys (objs (.mk i o n nb b ks a)) := ⟨_, rfl⟩
    have hKm : ∀ j, j ∈ K ↔ j = i ∨ j ∈ keys (bO nb b) ∨ j ∈ keys (aO a) ∨ j ∈ keys (objss ks) := fun j => by rw [hKe, e0]; simp [keys]
    have hKi : i ∈ K := (hKm i).2 (.inl rfl)
    rw [← hKe] at hnd hdis
    have hnd2 : i ∉ keys (bO nb b) ∧ i ∉ keys (aO a) ∧ i ∉ keys (objss ks) ∧ (keys (bO nb b)).Nodup ∧ (keys (aO a)).Nodup ∧ (keys (objss ks)).Nodup ∧ (∀ x ∈ keys (bO nb b), x ∉ keys (aO a) ∧ x ∉ keys (objss ks)) ∧ ∀ x ∈ keys (aO a), x ∉ keys (objss ks) := by
      rw [hKe, e0] at hnd
      simp only [keys, List.map_cons, List.map_append, List.nodup_cons, List.nodup_append, List.mem_append, not_or] at hnd
      obtain ⟨⟨⟨n1, n2⟩, n3⟩, ⟨n4, n5, n6⟩, n7, n8⟩ := hnd
      exact ⟨n1, n2, n3, n4, n5, n7, fun x hx => ⟨fun h => n6 x hx x h rfl, fun h => n8 x (.inl hx) x h rfl⟩, fun x hx h => n8 x (.inr hx) x h rfl⟩
    obtain ⟨nib, nia, nik, _, nda, ndk, nbx, nax⟩ := hnd2
    rw [e0] at ho
    have ho1 : Owns ou ((bO nb b ++ aO a) ++ objss ks) := fun p hp => ho p (by simp only [List.mem_cons]; exact .inr hp)
    obtain ⟨hob, hoa⟩ := Owns.app.1 (Owns.app.1 ho1).1
    have hokk := (Owns.app.1 ho1).2
    simp only [LTr.id, lC] at hni ⊢
    obtain ⟨d1, d2, d3⟩ := hR.ne
    have hik := hdis i hKi
    have hww : kw ≠ km ∧ kw ≠ kf := ⟨fun e => (by have := hR.m; rw [← e, hw] at this; cases this), fun e => (by have := hR.f; rw [← e, hw] at this; cases this)⟩
    have h0 : NdS ou ou kn km kf kw i [int o, int n, bC nb b, .sl 1 (kC ks), .sl 2 (a.map lAlt)] K nm ck l f (bO nb b) (aO a) (objss ks) := ⟨hR, hw, hni, hob, hoa, hokk, hou0, fun _ _ _ _ => rfl⟩
    have hnbf : (if o = 9 then 0 else b.length) + nbA a + nbLs ks = nbL (.mk i o n nb b ks a) := rfl
    obtain ⟨n', hn'⟩ : ∃ n' : Int, n' = if o = 0 then (nm n).getD n else n := ⟨_, rfl⟩
    refine AFn.walk 76 tabOk Tryd.func79 rfl (by kernel_rfl) rfl rfl fun hou => ?_
    repeat first | (with_reducible refine oj ?_; refine AOps.auto tabOk rfl ?_) | (with_reducible first | refine o1 ?_ | refine o2 ?_ | refine o3 ?_ | refine o4 ?_ | refine o5 ?_ | refine o6 ?_ | refine o7 ?_ | refine o8 ?_ | refine o9 ?_ | refine oa ?_ | refine ob ?_ | refine oc ?_ | refine od ?_ | refine oe ?_ | refine og ?_ | refine oh ?_ | refine oi ?_) | (with_reducible refine cExitMiss ?_ ?_; rfl) | (with_reducible refine ok ?_; first | refine ACode.condT rfl ?_ | refine ACode.condF rfl ?_)
    refine ACode.drawX tabOk 10 [(0, .one (.mp (.o km))), (4, .one (int n)), (5, .tup [.one (int ((nm n).getD 0)), .one (.lit (.bool (nm n).isSome))])] follows (by kernel_rfl) rfl rfl rfl rfl ?_ ?_
    · refine .step rfl (HStep.plain rfl (AStep.loadOwn tabOk rfl rfl rfl rfl rfl hR.n rfl)) (.step rfl (HStep.plain rfl (AStep.loadOwn tabOk rfl rfl rfl rfl rfl hni rfl)) ?_)
      exact .step rfl (HStep.plain rfl (AStep.lookI eN (cm := true) (v := .one (int ((nm n).getD 0))) rfl Tryd.underlying79 Tryd.underlying3 rfl hR.m rfl (by kernel_rfl) zeroN hR.k (by cases nm n <;> rfl))) .nil
    repeat first | (with_reducible refine oj ?_; refine AOps.auto tabOk rfl ?_) | (with_reducible first | refine o1 ?_ | refine o2 ?_ | refine o3 ?_ | refine o4 ?_ | refine o5 ?_ | refine o6 ?_ | refine o7 ?_ | refine o8 ?_ | refine o9 ?_ | refine oa ?_ | refine ob ?_ | refine oc ?_ | refine od ?_ | refine oe ?_ | refine og ?_ | refine oh ?_ | refine oi ?_) | (with_reducible refine cExitMiss ?_ ?_; rfl) | (with_reducible refine ok ?_; first | refine ACode.condT rfl ?_ | refine ACode.condF rfl ?_)
    refine AOps.cutN 1 rfl hΓ (α := Outer) (fun _ => [(0, .one (.ptr (.o i) 0)), (1, .one (.ptr (.o kn) 0)), (2, .one (.ptr (.o kf) 0)), (3, .one (.ptr (.o kw) 0))]) (fun ov => ⟨0, [], ov⟩)
      (fun ov => NdS ou ov kn km kf kw i [int o, int n', bC nb b, .sl 1 (kC ks), .sl 2 (a.map lAlt)] K nm ck l f (bO nb b) (aO a) (objss ks)) ?_ fun ov hov => ?_
    · dsimp only [List.take_succ_cons, List.take_zero, List.cons_append, List.nil_append]
      refine AOps.splitG rfl rfl rfl (fun hb5 => ?_) (fun hb5 => ?_)
      · obtain ⟨v, hv⟩ := Option.isSome_iff_exists.1 hb5
        repeat' first | (with_reducible refine oj ?_; refine AOps.auto tabOk rfl ?_) | (with_reducible first | refine o1 ?_ | refine o2 ?_ | refine o3 ?_ | refine o4 ?_ | refine o5 ?_ | refine o6 ?_ | refine o7 ?_ | refine o8 ?_ | refine o9 ?_ | refine oa ?_ | refine ob ?_ | refine oc ?_ | refine od ?_ | refine oe ?_ | refine og ?_ | refine oh ?_ | refine oi ?_) | (with_reducible refine cExitMiss ?_ ?_; rfl) | (with_reducible refine ok ?_; first | refine ACode.condT rfl ?_ | refine ACode.condF rfl ?_) | (with_reducible refine oj ?_; first | refine AOps.step1 rfl rfl rfl (AStep.arith rfl rfl rfl (.inl ⟨rfl, rfl⟩) (inRange_i64 (by first | omega | (simp; omega)) (by first | omega | (simp; omega)))) ?_ | refine AOps.step1 rfl rfl rfl (AStep.arith rfl rfl rfl (.inr (.inl ⟨rfl, rfl⟩)) (inRange_i64 (by first | omega | (simp; omega)) (by first | omega | (simp; omega)))) ?_ | refine AOps.step1 rfl rfl rfl (AStep.neBool Tryd.underlying4 rfl rfl rfl) ?_ | refine AOps.step1 rfl rfl rfl (AStep.eqBool Tryd.underlying4 rfl rfl rfl) ?_ | refine AOps.step1 rfl rfl rfl (AStep.max2 (t := 3) (ty := 3) rfl rfl rfl) ?_ | refine AOps.step1 rfl rfl rfl (AStep.min2 (t := 3) (ty := 3) rfl rfl rfl) ?_ | refine AOps.unG rfl rfl rfl ?_)
        refine AOps.step1 rfl rfl rfl (AStep.loadOwn tabOk rfl rfl rfl rfl rfl hni rfl) ?_
        repeat' first | (with_reducible refine oj ?_; refine AOps.auto tabOk rfl ?_) | (with_reducible first | refine o1 ?_ | refine o2 ?_ | refine o3 ?_ | refine o4 ?_ | refine o5 ?_ | refine o6 ?_ | refine o7 ?_ | refine o8 ?_ | refine o9 ?_ | refine oa ?_ | refine ob ?_ | refine oc ?_ | refine od ?_ | refine oe ?_ | refine og ?_ | refine oh ?_ | refine oi ?_) | (with_reducible refine cExitMiss ?_ ?_; rfl) | (with_reducible refine ok ?_; first | refine ACode.condT rfl ?_ | refine ACode.condF rfl ?_) | (with_reducible refine oj ?_; first | refine AOps.step1 rfl rfl rfl (AStep.arith rfl rfl rfl (.inl ⟨rfl, rfl⟩) (inRange_i64 (by first | omega | (simp; omega)) (by first | omega | (simp; omega)))) ?_ | refine AOps.step1 rfl rfl rfl (AStep.arith rfl rfl rfl (.inr (.inl ⟨rfl, rfl⟩)) (inRange_i64 (by first | omega | (simp; omega)) (by first | omega | (simp; omega)))) ?_ | refine AOps.step1 rfl rfl rfl (AStep.neBool Tryd.underlying4 rfl rfl rfl) ?_ | refine AOps.step1 rfl rfl rfl (AStep.eqBool Tryd.underlying4 rfl rfl rfl) ?_ | refine AOps.step1 rfl rfl rfl (AStep.max2 (t := 3) (ty := 3) rfl rfl rfl) ?_ | refine AOps.step1 rfl rfl rfl (AStep.min2 (t := 3) (ty := 3) rfl rfl rfl) ?_ | refine AOps.unG rfl rfl rfl ?_)
        refine ACode.cond rfl (fun hb6 => ?_) (fun hb6 => ?_)
        · have h00 : o = 0 := by simpa using hb6
          have hnv : n' = v := by rw [hn', if_pos h00, hv]; rfl
          subst hnv
          rw [hv]
          repeat' first | (with_reducible refine oj ?_; refine AOps.auto tabOk rfl ?_) | (with_reducible first | refine o1 ?_ | refine o2 ?_ | refine o3 ?_ | refine o4 ?_ | refine o5 ?_ | refine o6 ?_ | refine o7 ?_ | refine o8 ?_ | refine o9 ?_ | refine oa ?_ | refine ob ?_ | refine oc ?_ | refine od ?_ | refine oe ?_ | refine og ?_ | refine oh ?_ | refine oi ?_) | (with_reducible refine cExitMiss ?_ ?_; rfl) | (with_reducible refine ok ?_; first | refine ACode.condT rfl ?_ | refine ACode.condF rfl ?_) | (with_reducible refine oj ?_; first | refine AOps.step1 rfl rfl rfl (AStep.arith rfl rfl rfl (.inl ⟨rfl, rfl⟩) (inRange_i64 (by first | omega | (simp; omega)) (by first | omega | (simp; omega)))) ?_ | refine AOps.step1 rfl rfl rfl (AStep.arith rfl rfl rfl (.inr (.inl ⟨rfl, rfl⟩)) (inRange_i64 (by first | omega | (simp; omega)) (by first | omega | (simp; omega)))) ?_ | refine AOps.step1 rfl rfl rfl (AStep.neBool Tryd.underlying4 rfl rfl rfl) ?_ | refine AOps.step1 rfl rfl rfl (AStep.eqBool Tryd.underlying4 rfl rfl rfl) ?_ | refine AOps.step1 rfl rfl rfl (AStep.max2 (t := 3) (ty := 3) rfl rfl rfl) ?_ | refine AOps.step1 rfl rfl rfl (AStep.min2 (t := 3) (ty := 3) rfl rfl rfl) ?_ | refine AOps.unG rfl rfl rfl ?_)
          refine AOps.storeOwn tabOk rfl rfl rfl rfl rfl rfl rfl hni (by simp) ?_
          repeat' first | (with_reducible refine oj ?_; refine AOps.auto tabOk rfl ?_) | (with_reducible first | refine o1 ?_ | refine o2 ?_ | refine o3 ?_ | refine o4 ?_ | refine o5 ?_ | refine o6 ?_ | refine o7 ?_ | refine o8 ?_ | refine o9 ?_ | refine oa ?_ | refine ob ?_ | refine oc ?_ | refine od ?_ | refine oe ?_ | refine og ?_ | refine oh ?_ | refine oi ?_) | (with_reducible refine cExitMiss ?_ ?_; rfl) | (with_reducible refine ok ?_; first | refine ACode.condT rfl ?_ | refine ACode.condF rfl ?_) | (with_reducible refine oj ?_; first | refine AOps.step1 rfl rfl rfl (AStep.arith rfl rfl rfl (.inl ⟨rfl, rfl⟩) (inRange_i64 (by first | omega | (simp; omega)) (by first | omega | (simp; omega)))) ?_ | refine AOps.step1 rfl rfl rfl (AStep.arith rfl rfl rfl (.inr (.inl ⟨rfl, rfl⟩)) (inRange_i64 (by first | omega | (simp; omega)) (by first | omega | (simp; omega)))) ?_ | refine AOps.step1 rfl rfl rfl (AStep.neBool Tryd.underlying4 rfl rfl rfl) ?_ | refine AOps.step1 rfl rfl rfl (AStep.eqBool Tryd.underlying4 rfl rfl rfl) ?_ | refine AOps.step1 rfl rfl rfl (AStep.max2 (t := 3) (ty := 3) rfl rfl rfl) ?_ | refine AOps.step1 rfl rfl rfl (AStep.min2 (t := 3) (ty := 3) rfl rfl rfl) ?_ | refine AOps.unG rfl rfl rfl ?_)
          refine cInv ⟨(St.set ⟨0, [], ou⟩ (.o i) (.cells [int o, int n', bC nb b, .sl 1 (kC ks), .sl 2 (a.map lAlt)])).ou, id, ?_, LessR.of rfl (by (repeat' first | exact FrSub.nil | refine FrSub.cons rfl (.ofEq rfl) ?_ | refine FrSub.oa rfl rfl ?_ | refine FrSub.consP rfl (.ofEq rfl) (by simp) ?_)) (by simp) .nil rfl rfl ?_⟩
          · have hne : ∀ {j : Nat}, j ≠ i → (St.set ⟨0, [], ou⟩ (.o i) (.cells [int o, int n', bC nb b, .sl 1 (kC ks), .sl 2 (a.map lAlt)])).ou j = ou j := fun {j} hj => set_ou_ne hj
            refine ⟨⟨(hne (Ne.symm hik.1)).trans hR.n, (hne (Ne.symm hik.2.1)).trans hR.m, hR.k, (hne (Ne.symm hik.2.2.1)).trans hR.f⟩, (hne (Ne.symm hik.2.2.2)).trans hw, set_ou_same, hob.frame fun j hj => hne fun e => nib (e ▸ hj), hoa.frame fun j hj => hne fun e => nia (e ▸ hj), hokk.frame fun j hj => hne fun e => nik (e ▸ hj), OuOk.set (σ := ⟨0, [], ou⟩) hou0 (ids_node _ _ _ _ _ _), fun j h1 h2 h3 => hne fun e => h3 (e ▸ hKi)⟩
          · exact OuOk.set (σ := ⟨0, [], ou⟩) hou0 (ids_node _ _ _ _ _ _)
        · have h00 : ¬ o = 0 := by simpa using hb6
          have hnv : n' = n := by rw [hn', if_neg h00]
          subst hnv
          repeat' first | (with_reducible refine oj ?_; refine AOps.auto tabOk rfl ?_) | (with_reducible first | refine o1 ?_ | refine o2 ?_ | refine o3 ?_ | refine o4 ?_ | refine o5 ?_ | refine o6 ?_ | refine o7 ?_ | refine o8 ?_ | refine o9 ?_ | refine oa ?_ | refine ob ?_ | refine oc ?_ | refine od ?_ | refine oe ?_ | refine og ?_ | refine oh ?_ | refine oi ?_) | (with_reducible refine cExitMiss ?_ ?_; rfl) | (with_reducible refine ok ?_; first | refine ACode.condT rfl ?_ | refine ACode.condF rfl ?_) | (with_reducible refine oj ?_; first | refine AOps.step1 rfl rfl rfl (AStep.arith rfl rfl rfl (.inl ⟨rfl, rfl⟩) (inRange_i64 (by first | omega | (simp; omega)) (by first | omega | (simp; omega)))) ?_ | refine AOps.step1 rfl rfl rfl (AStep.arith rfl rfl rfl (.inr (.inl ⟨rfl, rfl⟩)) (inRange_i64 (by first | omega | (simp; omega)) (by first | omega | (simp; omega)))) ?_ | refine AOps.step1 rfl rfl rfl (AStep.neBool Tryd.underlying4 rfl rfl rfl) ?_ | refine AOps.step1 rfl rfl rfl (AStep.eqBool Tryd.underlying4 rfl rfl rfl) ?_ | refine AOps.step1 rfl rfl rfl (AStep.max2 (t := 3) (ty := 3) rfl rfl rfl) ?_ | refine AOps.step1 rfl rfl rfl (AStep.min2 (t := 3) (ty := 3) rfl rfl rfl) ?_ | refine AOps.unG rfl rfl rfl ?_)
          exact cInv ⟨ou, id, h0, LessR.of rfl (by (repeat' first | exact FrSub.nil | refine FrSub.cons rfl (.ofEq rfl) ?_ | refine FrSub.oa rfl rfl ?_ | refine FrSub.consP rfl (.ofEq rfl) (by simp) ?_)) (by simp) .nil rfl rfl hou⟩
      · have hv : nm n = none := by simpa using hb5
        have hnv : n' = n := by rw [hn', hv]; simp
        subst hnv
        repeat' first | (with_reducible refine oj ?_; refine AOps.auto tabOk rfl ?_) | (with_reducible first | refine o1 ?_ | refine o2 ?_ | refine o3 ?_ | refine o4 ?_ | refine o5 ?_ | refine o6 ?_ | refine o7 ?_ | refine o8 ?_ | refine o9 ?_ | refine oa ?_ | refine ob ?_ | refine oc ?_ | refine od ?_ | refine oe ?_ | refine og ?_ | refine oh ?_ | refine oi ?_) | (with_reducible refine cExitMiss ?_ ?_; rfl) | (with_reducible refine ok ?_; first | refine ACode.condT rfl ?_ | refine ACode.condF rfl ?_) | (with_reducible refine oj ?_; first | refine AOps.step1 rfl rfl rfl (AStep.arith rfl rfl rfl (.inl ⟨rfl, rfl⟩) (inRange_i64 (by first | omega | (simp; omega)) (by first | omega | (simp; omega)))) ?_ | refine AOps.step1 rfl rfl rfl (AStep.arith rfl rfl rfl (.inr (.inl ⟨rfl, rfl⟩)) (inRange_i64 (by first | omega | (simp; omega)) (by first | omega | (simp; omega)))) ?_ | refine AOps.step1 rfl rfl rfl (AStep.neBool Tryd.underlying4 rfl rfl rfl) ?_ | refine AOps.step1 rfl rfl rfl (AStep.eqBool Tryd.underlying4 rfl rfl rfl) ?_ | refine AOps.step1 rfl rfl rfl (AStep.max2 (t := 3) (ty := 3) rfl rfl rfl) ?_ | refine AOps.step1 rfl rfl rfl (AStep.min2 (t := 3) (ty := 3) rfl rfl rfl) ?_ | refine AOps.unG rfl rfl rfl ?_)
        exact cInv ⟨ou, id, h0, LessR.of rfl (by (repeat' first | exact FrSub.nil | refine FrSub.cons rfl (.ofEq rfl) ?_ | refine FrSub.oa rfl rfl ?_ | refine FrSub.consP rfl (.ofEq rfl) (by simp) ?_)) (by simp) .nil rfl rfl hou⟩
    clear h0 hR hw hni hob hoa hokk
    have hok0 := hov.ok
    repeat first | (with_reducible refine oj ?_; refine AOps.auto tabOk rfl ?_) | (with_reducible first | refine o1 ?_ | refine o2 ?_ | refine o3 ?_ | refine o4 ?_ | refine o5 ?_ | refine o6 ?_ | refine o7 ?_ | refine o8 ?_ | refine o9 ?_ | refine oa ?_ | refine ob ?_ | refine oc ?_ | refine od ?_ | refine oe ?_ | refine og ?_ | refine oh ?_ | refine oi ?_) | (with_reducible refine cExitMiss ?_ ?_; rfl) | (with_reducible refine ok ?_; first | refine ACode.condT rfl ?_ | refine ACode.condF rfl ?_)
    refine AOps.step1 rfl rfl rfl (AStep.loadOwn tabOk rfl rfl rfl rfl rfl hov.i rfl) ?_
    refine AOps.cutN 1 rfl hΓ (α := Outer × Nat × List (Nat × Int × Int)) (fun _ => [(7, .one (.fn (.func 80) [] [.ptr (.o kf) 0, .ptr (.o kn) 0])), (0, .one (.ptr (.o i) 0)), (1, .one (.ptr (.o kn) 0)), (2, .one (.ptr (.o kf) 0)), (3, .one (.ptr (.o kw) 0))]) (fun c => ⟨0, [], c.1⟩)
      (fun c => NdS ou c.1 kn km kf kw i [int o, int n', bC nb b, .sl 1 (kC ks), .sl 2 (a.map lAlt)] K (ren1 o nm f b).2.1 c.2.1 c.2.2 (ren1 o nm f b).2.2 (bO nb (ren1 o nm f b).1) (aO a) (objss ks)) ?_ fun c hov2 => ?_
    · dsimp only [List.take_succ_cons, List.take_zero, List.cons_append, List.nil_append]
      repeat' first | (with_reducible refine oj ?_; refine AOps.auto tabOk rfl ?_) | (with_reducible first | refine o1 ?_ | refine o2 ?_ | refine o3 ?_ | refine o4 ?_ | refine o5 ?_ | refine o6 ?_ | refine o7 ?_ | refine o8 ?_ | refine o9 ?_ | refine oa ?_ | refine ob ?_ | refine oc ?_ | refine od ?_ | refine oe ?_ | refine og ?_ | refine oh ?_ | refine oi ?_) | (with_reducible refine cExitMiss ?_ ?_; rfl) | (with_reducible refine ok ?_; first | refine ACode.condT rfl ?_ | refine ACode.condF rfl ?_) | (with_reducible refine oj ?_; first | refine AOps.step1 rfl rfl rfl (AStep.arith rfl rfl rfl (.inl ⟨rfl, rfl⟩) (inRange_i64 (by first | omega | (simp; omega)) (by first | omega | (simp; omega)))) ?_ | refine AOps.step1 rfl rfl rfl (AStep.arith rfl rfl rfl (.inr (.inl ⟨rfl, rfl⟩)) (inRange_i64 (by first | omega | (simp; omega)) (by first | omega | (simp; omega)))) ?_ | refine AOps.step1 rfl rfl rfl (AStep.neBool Tryd.underlying4 rfl rfl rfl) ?_ | refine AOps.step1 rfl rfl rfl (AStep.eqBool Tryd.underlying4 rfl rfl rfl) ?_ | refine AOps.step1 rfl rfl rfl (AStep.max2 (t := 3) (ty := 3) rfl rfl rfl) ?_ | refine AOps.step1 rfl rfl rfl (AStep.min2 (t := 3) (ty := 3) rfl rfl rfl) ?_ | refine AOps.unG rfl rfl rfl ?_)
      refine ACode.cond rfl (fun hb6 => ?_) (fun hb6 => ?_)
      · have h9 : o ≠ 9 := by simpa using hb6
        have hr1 : ren1 o nm f b = (frB f b, frN nm f b, f + b.length) := by unfold ren1; rw [if_neg h9]
        rw [hr1]
        rw [if_neg h9] at hnbf
        repeat' first | (with_reducible refine oj ?_; refine AOps.auto tabOk rfl ?_) | (with_reducible first | refine o1 ?_ | refine o2 ?_ | refine o3 ?_ | refine o4 ?_ | refine o5 ?_ | refine o6 ?_ | refine o7 ?_ | refine o8 ?_ | refine o9 ?_ | refine oa ?_ | refine ob ?_ | refine oc ?_ | refine od ?_ | refine oe ?_ | refine og ?_ | refine oh ?_ | refine oi ?_) | (with_reducible refine cExitMiss ?_ ?_; rfl) | (with_reducible refine ok ?_; first | refine ACode.condT rfl ?_ | refine ACode.condF rfl ?_) | (with_reducible refine oj ?_; first | refine AOps.step1 rfl rfl rfl (AStep.arith rfl rfl rfl (.inl ⟨rfl, rfl⟩) (inRange_i64 (by first | omega | (simp; omega)) (by first | omega | (simp; omega)))) ?_ | refine AOps.step1 rfl rfl rfl (AStep.arith rfl rfl rfl (.inr (.inl ⟨rfl, rfl⟩)) (inRange_i64 (by first | omega | (simp; omega)) (by first | omega | (simp; omega)))) ?_ | refine AOps.step1 rfl rfl rfl (AStep.neBool Tryd.underlying4 rfl rfl rfl) ?_ | refine AOps.step1 rfl rfl rfl (AStep.eqBool Tryd.underlying4 rfl rfl rfl) ?_ | refine AOps.step1 rfl rfl rfl (AStep.max2 (t := 3) (ty := 3) rfl rfl rfl) ?_ | refine AOps.step1 rfl rfl rfl (AStep.min2 (t := 3) (ty := 3) rfl rfl rfl) ?_ | refine AOps.unG rfl rfl rfl ?_)
        refine AOps.step1 rfl rfl rfl (AStep.loadOwn tabOk rfl rfl rfl rfl rfl hov.i rfl) ?_
        refine AOps.call1 hΓ rfl rfl rfl rfl rfl rfl rfl (by exact ⟨ids_bC _ (fun _ => trivial) _ _, trivial, trivial, trivial⟩) hok0
          (fresh_ok hΓ nb b (hnb h9) hbl ov kn km kf nm _ _ f hov.R hov.b (fun k hk => ⟨(hdis k ((hKm k).2 (.inr (.inl hk)))).1, (hdis k ((hKm k).2 (.inr (.inl hk)))).2.1, (hdis k ((hKm k).2 (.inr (.inl hk)))).2.2.1⟩) hf0 (by omega) hok0) fun r ow hq hids how => ?_
        obtain ⟨rfl, ck', l', hR', hO', hok', hfr'⟩ := hq
        repeat' first | (with_reducible refine oj ?_; refine AOps.auto tabOk rfl ?_) | (with_reducible first | refine o1 ?_ | refine o2 ?_ | refine o3 ?_ | refine o4 ?_ | refine o5 ?_ | refine o6 ?_ | refine o7 ?_ | refine o8 ?_ | refine o9 ?_ | refine oa ?_ | refine ob ?_ | refine oc ?_ | refine od ?_ | refine oe ?_ | refine og ?_ | refine oh ?_ | refine oi ?_) | (with_reducible refine cExitMiss ?_ ?_; rfl) | (with_reducible refine ok ?_; first | refine ACode.condT rfl ?_ | refine ACode.condF rfl ?_) | (with_reducible refine oj ?_; first | refine AOps.step1 rfl rfl rfl (AStep.arith rfl rfl rfl (.inl ⟨rfl, rfl⟩) (inRange_i64 (by first | omega | (simp; omega)) (by first | omega | (simp; omega)))) ?_ | refine AOps.step1 rfl rfl rfl (AStep.arith rfl rfl rfl (.inr (.inl ⟨rfl, rfl⟩)) (inRange_i64 (by first | omega | (simp; omega)) (by first | omega | (simp; omega)))) ?_ | refine AOps.step1 rfl rfl rfl (AStep.neBool Tryd.underlying4 rfl rfl rfl) ?_ | refine AOps.step1 rfl rfl rfl (AStep.eqBool Tryd.underlying4 rfl rfl rfl) ?_ | refine AOps.step1 rfl rfl rfl (AStep.max2 (t := 3) (ty := 3) rfl rfl rfl) ?_ | refine AOps.step1 rfl rfl rfl (AStep.min2 (t := 3) (ty := 3) rfl rfl rfl) ?_ | refine AOps.unG rfl rfl rfl ?_)
        refine cInv ⟨(ow, ck', l'), id, ?_, LessR.of rfl (by (repeat' first | exact FrSub.nil | refine FrSub.cons rfl (.ofEq rfl) ?_ | refine FrSub.oa rfl rfl ?_ | refine FrSub.consP rfl (.ofEq rfl) (by simp) ?_)) (by simp) .nil rfl rfl hok'⟩
        refine hov.frame (S := keys (bO nb b)) hR' hok' hfr' (fun j hj => ⟨(hKm j).2 (.inr (.inl hj)), fun e => nib (e ▸ hj)⟩) hdis hKi hww hO' (hov.a.frame fun j hj => ?_) (hov.k.frame fun j hj => ?_)
        · have hj' := hdis j ((hKm j).2 (.inr (.inr (.inl hj))))
          exact hfr' j hj'.2.1 hj'.2.2.1 fun h => (nbx j h).1 hj
        · have hj' := hdis j ((hKm j).2 (.inr (.inr (.inr hj))))
          exact hfr' j hj'.2.1 hj'.2.2.1 fun h => (nbx j h).2 hj
      · have h9 : o = 9 := by simpa using hb6
        have hr1 : ren1 o nm f b = (b, nm, f) := by unfold ren1; rw [if_pos h9]
        rw [hr1]
        repeat' first | (with_reducible refine oj ?_; refine AOps.auto tabOk rfl ?_) | (with_reducible first | refine o1 ?_ | refine o2 ?_ | refine o3 ?_ | refine o4 ?_ | refine o5 ?_ | refine o6 ?_ | refine o7 ?_ | refine o8 ?_ | refine o9 ?_ | refine oa ?_ | refine ob ?_ | refine oc ?_ | refine od ?_ | refine oe ?_ | refine og ?_ | refine oh ?_ | refine oi ?_) | (with_reducible refine cExitMiss ?_ ?_; rfl) | (with_reducible refine ok ?_; first | refine ACode.condT rfl ?_ | refine ACode.condF rfl ?_) | (with_reducible refine oj ?_; first | refine AOps.step1 rfl rfl rfl (AStep.arith rfl rfl rfl (.inl ⟨rfl, rfl⟩) (inRange_i64 (by first | omega | (simp; omega)) (by first | omega | (simp; omega)))) ?_ | refine AOps.step1 rfl rfl rfl (AStep.arith rfl rfl rfl (.inr (.inl ⟨rfl, rfl⟩)) (inRange_i64 (by first | omega | (simp; omega)) (by first | omega | (simp; omega)))) ?_ | refine AOps.step1 rfl rfl rfl (AStep.neBool Tryd.underlying4 rfl rfl rfl) ?_ | refine AOps.step1 rfl rfl rfl (AStep.eqBool Tryd.underlying4 rfl rfl rfl) ?_ | refine AOps.step1 rfl rfl rfl (AStep.max2 (t := 3) (ty := 3) rfl rfl rfl) ?_ | refine AOps.step1 rfl rfl rfl (AStep.min2 (t := 3) (ty := 3) rfl rfl rfl) ?_ | refine AOps.unG rfl rfl rfl ?_)
        exact cInv ⟨(ov, ck, l), id, hov, LessR.of rfl (by (repeat' first | exact FrSub.nil | refine FrSub.cons rfl (.ofEq rfl) ?_ | refine FrSub.oa rfl rfl ?_ | refine FrSub.consP rfl (.ofEq rfl) (by simp) ?_)) (by simp) .nil rfl rfl hok0⟩
    clear hov hok0
    obtain ⟨ov, ck, l⟩ := c
    have hov := hov2
    clear hov2
    dsimp only at hov
    have hok0 := hov.ok
    have hf1' := ren1_f o nm f b
    have hkb : keys (bO nb (ren1 o nm f b).1) = keys (bO nb b) := keys_bO nb _ _
    generalize hs1 : ren1 o nm f b = s1 at hov hf1' hkb
    obtain ⟨b1, nm1, f1⟩ := s1
    dsimp only at hov hf1' hkb
    repeat first | (with_reducible refine oj ?_; refine AOps.auto tabOk rfl ?_) | (with_reducible first | refine o1 ?_ | refine o2 ?_ | refine o3 ?_ | refine o4 ?_ | refine o5 ?_ | refine o6 ?_ | refine o7 ?_ | refine o8 ?_ | refine o9 ?_ | refine oa ?_ | refine ob ?_ | refine oc ?_ | refine od ?_ | refine oe ?_ | refine og ?_ | refine oh ?_ | refine oi ?_) | (with_reducible refine cExitMiss ?_ ?_; rfl) | (with_reducible refine ok ?_; first | refine ACode.condT rfl ?_ | refine ACode.condF rfl ?_)
    refine AOps.step1 rfl rfl rfl (AStep.loadOwn tabOk rfl rfl rfl rfl rfl hov.i rfl) ?_
    repeat first | (with_reducible refine oj ?_; refine AOps.auto tabOk rfl ?_) | (with_reducible first | refine o1 ?_ | refine o2 ?_ | refine o3 ?_ | refine o4 ?_ | refine o5 ?_ | refine o6 ?_ | refine o7 ?_ | refine o8 ?_ | refine o9 ?_ | refine oa ?_ | refine ob ?_ | refine oc ?_ | refine od ?_ | refine oe ?_ | refine og ?_ | refine oh ?_ | refine oi ?_) | (with_reducible refine cExitMiss ?_ ?_; rfl) | (with_reducible refine ok ?_; first | refine ACode.condT rfl ?_ | refine ACode.condF rfl ?_)
    refine ACode.loopR hΓ (α := Nat × Outer × Nat × List (Nat × Int × Int)) (fun c => [(49, .one (int c.1)), (48, .one (int (a.map lAlt).length)), (7, .one (.fn (.func 80) [] [.ptr (.o kf) 0, .ptr (.o kn) 0])), (0, .one (.ptr (.o i) 0)), (1, .one (.ptr (.o kn) 0)), (2, .one (.ptr (.o kf) 0)), (3, .one (.ptr (.o kw) 0))])
      (fun c => ⟨0, [], c.2.1⟩) (fun m c => c.1 ≤ a.length ∧ NdS ou c.2.1 kn km kf kw i [int o, int n', bC nb b, .sl 1 (kC ks), .sl 2 (a.map lAlt)] K (rnAs nm1 f1 (a.take c.1)).2.1 c.2.2.1 c.2.2.2 (rnAs nm1 f1 (a.take c.1)).2.2 (bO nb b1) (aO ((rnAs nm1 f1 (a.take c.1)).1 ++ a.drop c.1)) (objss ks) ∧ m = a.length - c.1)
      (a0 := (0, ov, ck, l)) (ρ := id) ⟨by omega, by simpa [rnAs] using hov, rfl⟩ (LessR.of rfl (by (repeat' first | exact FrSub.nil | refine FrSub.cons rfl (.ofEq rfl) ?_ | refine FrSub.oa rfl rfl ?_ | refine FrSub.consP rfl (.ofEq rfl) (by simp) ?_)) (by simp) .nil rfl rfl hok0) fun m c hc => ?_
    clear hov hok0
    obtain ⟨j, ov, ck, l⟩ := c
    obtain ⟨hjl, hov, rfl⟩ := hc
    dsimp only at hjl hov
    have hok0 := hov.ok
    repeat first | (with_reducible refine oj ?_; refine AOps.auto tabOk rfl ?_) | (with_reducible first | refine o1 ?_ | refine o2 ?_ | refine o3 ?_ | refine o4 ?_ | refine o5 ?_ | refine o6 ?_ | refine o7 ?_ | refine o8 ?_ | refine o9 ?_ | refine oa ?_ | refine ob ?_ | refine oc ?_ | refine od ?_ | refine oe ?_ | refine og ?_ | refine oh ?_ | refine oi ?_) | (with_reducible refine cExitMiss ?_ ?_; rfl) | (with_reducible refine ok ?_; first | refine ACode.condT rfl ?_ | refine ACode.condF rfl ?_)
    refine ACode.cond rfl (fun hb2 => ?_) (fun hb2 => ?_)
    · have hlt : j < a.length := by simpa using hb2
      obtain ⟨x, hx⟩ := get_of_lt hlt
      have hxm := List.mem_of_getElem? hx
      obtain ⟨hxo, hxl⟩ := hax x hxm
      have hsn := rnAs_snoc x (a.take j) nm1 f1
      rw [← take_get hx] at hsn
      have hfa := rnAs_f (a.take j) nm1 f1
      have hdr : a.drop j = x :: a.drop (j + 1) := by
        obtain ⟨q1, q2⟩ := List.getElem?_eq_some_iff.1 hx
        rw [List.drop_eq_getElem_cons q1, q2]
      have hcnt : nbA (a.take j) + x.binds.length ≤ nbA a := by
        have h1 := nbA_app (a.take (j + 1)) (a.drop (j + 1))
        rw [List.take_append_drop, take_get hx, nbA_app] at h1
        simp [nbA] at h1 ⊢; omega
      have hka := rnAs_k (a.take j) nm1 f1
      have hxk : ∀ k ∈ keys (bO x.nb x.binds), k ∈ keys (aO a) := fun k hk => by
        rw [← List.take_append_drop j a, hdr, aO_app, keys_app, aO_cons, keys_app]
        simp [hk]
      have hxd : ∀ k ∈ keys (bO x.nb x.binds), k ∉ keys (aO (a.take j)) ∧ k ∉ keys (aO (a.drop (j + 1))) := fun k hk => by
        have h1 := nda
        rw [← List.take_append_drop j a, hdr, aO_app, keys_app, aO_cons, keys_app, List.nodup_append, List.nodup_append] at h1
        exact ⟨fun h => h1.2.2 k h k (List.mem_append.2 (.inl hk)) rfl, fun h => h1.2.1.2.2 k hk k h rfl⟩
      rw [hdr] at hov
      generalize rnAs nm1 f1 (a.take j) = sj at hov hsn hfa hka
      obtain ⟨aj, nmj, fj⟩ := sj
      dsimp only at hov hsn hfa hka
      rw [aO_app, aO_cons] at hov
      obtain ⟨hoa1, hoa2⟩ := Owns.app.1 hov.a
      obtain ⟨hoa3, hoa4⟩ := Owns.app.1 hoa2
      have hxK : ∀ k ∈ keys (bO x.nb x.binds), k ∈ K := fun k hk => (hKm k).2 (.inr (.inr (.inl (hxk k hk))))
      repeat first | (with_reducible refine oj ?_; refine AOps.auto tabOk rfl ?_) | (with_reducible first | refine o1 ?_ | refine o2 ?_ | refine o3 ?_ | refine o4 ?_ | refine o5 ?_ | refine o6 ?_ | refine o7 ?_ | refine o8 ?_ | refine o9 ?_ | refine oa ?_ | refine ob ?_ | refine oc ?_ | refine od ?_ | refine oe ?_ | refine og ?_ | refine oh ?_ | refine oi ?_) | (with_reducible refine cExitMiss ?_ ?_; rfl) | (with_reducible refine ok ?_; first | refine ACode.condT rfl ?_ | refine ACode.condF rfl ?_)
      refine AOps.step1 rfl rfl rfl (AStep.loadOwn tabOk rfl rfl rfl rfl rfl hov.i rfl) ?_
      repeat first | (with_reducible refine oj ?_; refine AOps.auto tabOk rfl ?_) | (with_reducible first | refine o1 ?_ | refine o2 ?_ | refine o3 ?_ | refine o4 ?_ | refine o5 ?_ | refine o6 ?_ | refine o7 ?_ | refine o8 ?_ | refine o9 ?_ | refine oa ?_ | refine ob ?_ | refine oc ?_ | refine od ?_ | refine oe ?_ | refine og ?_ | refine oh ?_ | refine oi ?_) | (with_reducible refine cExitMiss ?_ ?_; rfl) | (with_reducible refine ok ?_; first | refine ACode.condT rfl ?_ | refine ACode.condF rfl ?_)
      refine AOps.step1 rfl rfl rfl (AStep.indexAddr tabOk rfl rfl rfl rfl rfl rfl (.inl rfl) rfl (by omega) (map_get (f := lAlt) hx)) ?_
      repeat first | (with_reducible refine oj ?_; refine AOps.auto tabOk rfl ?_) | (with_reducible first | refine o1 ?_ | refine o2 ?_ | refine o3 ?_ | refine o4 ?_ | refine o5 ?_ | refine o6 ?_ | refine o7 ?_ | refine o8 ?_ | refine o9 ?_ | refine oa ?_ | refine ob ?_ | refine oc ?_ | refine od ?_ | refine oe ?_ | refine og ?_ | refine oh ?_ | refine oi ?_) | (with_reducible refine cExitMiss ?_ ?_; rfl) | (with_reducible refine ok ?_; first | refine ACode.condT rfl ?_ | refine ACode.condF rfl ?_)
      refine AOps.call1 hΓ rfl rfl rfl rfl rfl rfl rfl (by exact ⟨ids_bC _ (fun _ => trivial) _ _, trivial, trivial, trivial⟩) hok0
        (fresh_ok hΓ x.nb x.binds hxo hxl ov kn km kf nmj _ _ fj hov.R hoa3 (fun k hk => ⟨(hdis k (hxK k hk)).1, (hdis k (hxK k hk)).2.1, (hdis k (hxK k hk)).2.2.1⟩) (by omega) (by omega) hok0) fun r ow hq hids how => ?_
      obtain ⟨rfl, ck', l', hR', hO', hok', hfr'⟩ := hq
      repeat' first | (with_reducible refine oj ?_; refine AOps.auto tabOk rfl ?_) | (with_reducible first | refine o1 ?_ | refine o2 ?_ | refine o3 ?_ | refine o4 ?_ | refine o5 ?_ | refine o6 ?_ | refine o7 ?_ | refine o8 ?_ | refine o9 ?_ | refine oa ?_ | refine ob ?_ | refine oc ?_ | refine od ?_ | refine oe ?_ | refine og ?_ | refine oh ?_ | refine oi ?_) | (with_reducible refine cExitMiss ?_ ?_; rfl) | (with_reducible refine ok ?_; first | refine ACode.condT rfl ?_ | refine ACode.condF rfl ?_) | (with_reducible refine oj ?_; first | refine AOps.step1 rfl rfl rfl (AStep.arith rfl rfl rfl (.inl ⟨rfl, rfl⟩) (inRange_i64 (by first | omega | (simp; omega)) (by first | omega | (simp; omega)))) ?_ | refine AOps.step1 rfl rfl rfl (AStep.arith rfl rfl rfl (.inr (.inl ⟨rfl, rfl⟩)) (inRange_i64 (by first | omega | (simp; omega)) (by first | omega | (simp; omega)))) ?_ | refine AOps.step1 rfl rfl rfl (AStep.neBool Tryd.underlying4 rfl rfl rfl) ?_ | refine AOps.step1 rfl rfl rfl (AStep.eqBool Tryd.underlying4 rfl rfl rfl) ?_ | refine AOps.step1 rfl rfl rfl (AStep.max2 (t := 3) (ty := 3) rfl rfl rfl) ?_ | refine AOps.step1 rfl rfl rfl (AStep.min2 (t := 3) (ty := 3) rfl rfl rfl) ?_ | refine AOps.unG rfl rfl rfl ?_)
      refine cInv ⟨a.length - (j + 1), (j + 1, ow, ck', l'), id, by omega, ⟨by omega, ?_, rfl⟩, LessR.of rfl (by (repeat' first | exact FrSub.nil | refine FrSub.cons rfl (.ofEq rfl) ?_ | refine FrSub.oa rfl rfl ?_ | refine FrSub.consP rfl (.ofEq rfl) (by simp) ?_)) (by simp) .nil rfl rfl hok'⟩
      dsimp only
      rw [hsn]
      dsimp only
      have hkq : ∀ q ∈ keys (aO a), q ∉ keys (bO x.nb x.binds) → ow q = ov q := fun q hq hn => by
        have hq' := hdis q ((hKm q).2 (.inr (.inr (.inl hq))))
        exact hfr' q hq'.2.1 hq'.2.2.1 hn
      refine hov.frame (S := keys (bO x.nb x.binds)) hR' hok' hfr' (fun q hq => ⟨hxK q hq, fun e => nia (e ▸ hxk q hq)⟩) hdis hKi hww (hov.b.frame fun q hq => ?_) ?_ (hov.k.frame fun q hq => ?_)
      · rw [hkb] at hq
        have hq' := hdis q ((hKm q).2 (.inr (.inl hq)))
        exact hfr' q hq'.2.1 hq'.2.2.1 fun h => (nbx q hq).1 (hxk q h)
      · rw [List.append_assoc, aO_app]
        refine Owns.app.2 ⟨hoa1.frame fun q hq => ?_, ?_⟩
        · rw [hka] at hq
          refine hkq q ?_ fun h => (hxd q h).1 hq
          rw [← List.take_append_drop j a, aO_app, keys_app]
          exact List.mem_append.2 (.inl hq)
        · rw [List.cons_append, List.nil_append, aO_cons]
          refine Owns.app.2 ⟨hO', hoa4.frame fun q hq => ?_⟩
          refine hkq q ?_ fun h => (hxd q h).2 hq
          rw [← List.take_append_drop (j + 1) a, aO_app, keys_app]
          exact List.mem_append.2 (.inr hq)
      · have hq' := hdis q ((hKm q).2 (.inr (.inr (.inr hq))))
        exact hfr' q hq'.2.1 hq'.2.2.1 fun h => nax q (hxk q h) hq
    have hlt : j = a.length := by simp at hb2; omega
    subst hlt
    rw [List.take_length, List.drop_length, List.append_nil] at hov
    have hfa := rnAs_f a nm1 f1
    have hka := rnAs_k a nm1 f1
    generalize hs2 : rnAs nm1 f1 a = s2 at hov hfa hka
    obtain ⟨a2, nm2, f2⟩ := s2
    dsimp only at hov hfa hka
    repeat first | (with_reducible refine oj ?_; refine AOps.auto tabOk rfl ?_) | (with_reducible first | refine o1 ?_ | refine o2 ?_ | refine o3 ?_ | refine o4 ?_ | refine o5 ?_ | refine o6 ?_ | refine o7 ?_ | refine o8 ?_ | refine o9 ?_ | refine oa ?_ | refine ob ?_ | refine oc ?_ | refine od ?_ | refine oe ?_ | refine og ?_ | refine oh ?_ | refine oi ?_) | (with_reducible refine cExitMiss ?_ ?_; rfl) | (with_reducible refine ok ?_; first | refine ACode.condT rfl ?_ | refine ACode.condF rfl ?_)
    refine AOps.step1 rfl rfl rfl (AStep.loadOwn tabOk rfl rfl rfl rfl rfl hov.i rfl) ?_
    repeat first | (with_reducible refine oj ?_; refine AOps.auto tabOk rfl ?_) | (with_reducible first | refine o1 ?_ | refine o2 ?_ | refine o3 ?_ | refine o4 ?_ | refine o5 ?_ | refine o6 ?_ | refine o7 ?_ | refine o8 ?_ | refine o9 ?_ | refine oa ?_ | refine ob ?_ | refine oc ?_ | refine od ?_ | refine oe ?_ | refine og ?_ | refine oh ?_ | refine oi ?_) | (with_reducible refine cExitMiss ?_ ?_; rfl) | (with_reducible refine ok ?_; first | refine ACode.condT rfl ?_ | refine ACode.condF rfl ?_)
    refine ACode.loopR hΓ (α := Nat × Outer × Nat × List (Nat × Int × Int)) (fun c => [(68, .one (int c.1)), (67, .one (int (kC ks).length)), (66, .one (.sl 1 (kC ks))), (3, .one (.ptr (.o kw) 0))])
      (fun c => ⟨0, [], c.2.1⟩) (fun m c => c.1 ≤ ks.length ∧ NdS ou c.2.1 kn km kf kw i [int o, int n', bC nb b, .sl 1 (kC ks), .sl 2 (a.map lAlt)] K (rnLs nm2 f2 (ks.take c.1)).2.1 c.2.2.1 c.2.2.2 (rnLs nm2 f2 (ks.take c.1)).2.2 (bO nb b1) (aO a2) (objss ((rnLs nm2 f2 (ks.take c.1)).1 ++ ks.drop c.1)) ∧ m = ks.length - c.1)
      (a0 := (0, ov, ck, l)) (ρ := id) ⟨by omega, by simpa [rnLs] using hov, rfl⟩ (LessR.of rfl ?_ ?_ .nil rfl rfl hok0) fun m c hc => ?_
    · refine FrSub.cons rfl (.ofEq rfl) (FrSub.cons rfl (.ofEq rfl) (FrSub.consP rfl (.ofEq rfl) (ids_kC _ (fun _ => trivial) _) (FrSub.cons rfl (.ofEq rfl) .nil)))
    · simp; exact ids_kC (inL 0) (fun _ => trivial) _
    clear hov hok0
    obtain ⟨j, ov, ck, l⟩ := c
    obtain ⟨hjl, hov, rfl⟩ := hc
    dsimp only at hjl hov
    have hok0 := hov.ok
    repeat first | (with_reducible refine oj ?_; refine AOps.auto tabOk rfl ?_) | (with_reducible first | refine o1 ?_ | refine o2 ?_ | refine o3 ?_ | refine o4 ?_ | refine o5 ?_ | refine o6 ?_ | refine o7 ?_ | refine o8 ?_ | refine o9 ?_ | refine oa ?_ | refine ob ?_ | refine oc ?_ | refine od ?_ | refine oe ?_ | refine og ?_ | refine oh ?_ | refine oi ?_) | (with_reducible refine cExitMiss ?_ ?_; rfl) | (with_reducible refine ok ?_; first | refine ACode.condT rfl ?_ | refine ACode.condF rfl ?_)
    refine ACode.cond rfl (fun hb2 => ?_) (fun hb2 => ?_)
    · have hlt : j < ks.length := by simpa [kC] using hb2
      obtain ⟨t, ht⟩ := get_of_lt hlt
      have htm := List.mem_of_getElem? ht
      have hsn := rnLs_snoc t (ks.take j) nm2 f2
      rw [← take_get ht] at hsn
      have hfk := rnLs_f (ks.take j) nm2 f2
      have hdr : ks.drop j = t :: ks.drop (j + 1) := by
        obtain ⟨q1, q2⟩ := List.getElem?_eq_some_iff.1 ht
        rw [List.drop_eq_getElem_cons q1, q2]
      have hcnt : nbLs (ks.take j) + nbL t ≤ nbLs ks := by
        have h1 := nbLs_app (ks.take (j + 1)) (ks.drop (j + 1))
        rw [List.take_append_drop, take_get ht, nbLs_app] at h1
        simp [nbLs] at h1 ⊢; omega
      have hkk := rnLs_k (ks.take j) nm2 f2
      have hspl : keys (objss ks) = keys (objss (ks.take j)) ++ (keys (objs t) ++ keys (objss (ks.drop (j + 1)))) := by
        conv => lhs; rw [← List.take_append_drop j ks, hdr, objss_app, keys_app, show objss (t :: ks.drop (j + 1)) = objs t ++ objss (ks.drop (j + 1)) from rfl, keys_app]
      have htk : ∀ k ∈ keys (objs t), k ∈ keys (objss ks) := fun k hk => by rw [hspl]; simp [hk]
      have htd : (keys (objs t)).Nodup ∧ ∀ k ∈ keys (objs t), k ∉ keys (objss (ks.take j)) ∧ k ∉ keys (objss (ks.drop (j + 1))) := by
        have h1 := ndk
        rw [hspl, List.nodup_append, List.nodup_append] at h1
        exact ⟨h1.2.1.1, fun k hk => ⟨fun h => h1.2.2 k h k (List.mem_append.2 (.inl hk)) rfl, fun h => h1.2.1.2.2 k hk k h rfl⟩⟩
      rw [hdr] at hov
      generalize rnLs nm2 f2 (ks.take j) = sj at hov hsn hfk hkk
      obtain ⟨kj, nmj, fj⟩ := sj
      dsimp only at hov hsn hfk hkk
      rw [objss_app, show objss (t :: ks.drop (j + 1)) = objs t ++ objss (ks.drop (j + 1)) from rfl] at hov
      obtain ⟨hoa1, hoa2⟩ := Owns.app.1 hov.k
      obtain ⟨hoa3, hoa4⟩ := Owns.app.1 hoa2
      have htK : ∀ k ∈ keys (objs t), k ∈ K := fun k hk => (hKm k).2 (.inr (.inr (.inr (htk k hk))))
      repeat first | (with_reducible refine oj ?_; refine AOps.auto tabOk rfl ?_) | (with_reducible first | refine o1 ?_ | refine o2 ?_ | refine o3 ?_ | refine o4 ?_ | refine o5 ?_ | refine o6 ?_ | refine o7 ?_ | refine o8 ?_ | refine o9 ?_ | refine oa ?_ | refine ob ?_ | refine oc ?_ | refine od ?_ | refine oe ?_ | refine og ?_ | refine oh ?_ | refine oi ?_) | (with_reducible refine cExitMiss ?_ ?_; rfl) | (with_reducible refine ok ?_; first | refine ACode.condT rfl ?_ | refine ACode.condF rfl ?_)
      refine AOps.step1 rfl rfl rfl (AStep.indexAddr tabOk rfl rfl rfl rfl rfl rfl (.inl rfl) rfl (by omega) (map_get (f := fun t : LTr => [AC.ptr (.o t.id) 0]) ht)) ?_
      repeat first | (with_reducible refine oj ?_; refine AOps.auto tabOk rfl ?_) | (with_reducible first | refine o1 ?_ | refine o2 ?_ | refine o3 ?_ | refine o4 ?_ | refine o5 ?_ | refine o6 ?_ | refine o7 ?_ | refine o8 ?_ | refine o9 ?_ | refine oa ?_ | refine ob ?_ | refine oc ?_ | refine od ?_ | refine oe ?_ | refine og ?_ | refine oh ?_ | refine oi ?_) | (with_reducible refine cExitMiss ?_ ?_; rfl) | (with_reducible refine ok ?_; first | refine ACode.condT rfl ?_ | refine ACode.condF rfl ?_)
      refine AOps.step1 rfl rfl rfl (AStep.loadOwn tabOk rfl rfl rfl rfl rfl hov.w rfl) ?_
      repeat first | (with_reducible refine oj ?_; refine AOps.auto tabOk rfl ?_) | (with_reducible first | refine o1 ?_ | refine o2 ?_ | refine o3 ?_ | refine o4 ?_ | refine o5 ?_ | refine o6 ?_ | refine o7 ?_ | refine o8 ?_ | refine o9 ?_ | refine oa ?_ | refine ob ?_ | refine oc ?_ | refine od ?_ | refine oe ?_ | refine og ?_ | refine oh ?_ | refine oi ?_) | (with_reducible refine cExitMiss ?_ ?_; rfl) | (with_reducible refine ok ?_; first | refine ACode.condT rfl ?_ | refine ACode.condF rfl ?_)
      refine AOps.call1 hΓ rfl rfl rfl rfl rfl rfl rfl (by exact ⟨trivial, trivial, trivial, trivial, trivial⟩) hok0
        (ih t htm ov kn km kf kw nmj _ _ fj hov.R hov.w hoa3 htd.1 (fun k hk => hdis k (htK k hk)) (by omega) (by omega) hok0) fun r ow hq hids how => ?_
      obtain ⟨rfl, ck', l', hR', hO', hok', hfr'⟩ := hq
      repeat' first | (with_reducible refine oj ?_; refine AOps.auto tabOk rfl ?_) | (with_reducible first | refine o1 ?_ | refine o2 ?_ | refine o3 ?_ | refine o4 ?_ | refine o5 ?_ | refine o6 ?_ | refine o7 ?_ | refine o8 ?_ | refine o9 ?_ | refine oa ?_ | refine ob ?_ | refine oc ?_ | refine od ?_ | refine oe ?_ | refine og ?_ | refine oh ?_ | refine oi ?_) | (with_reducible refine cExitMiss ?_ ?_; rfl) | (with_reducible refine ok ?_; first | refine ACode.condT rfl ?_ | refine ACode.condF rfl ?_) | (with_reducible refine oj ?_; first | refine AOps.step1 rfl rfl rfl (AStep.arith rfl rfl rfl (.inl ⟨rfl, rfl⟩) (inRange_i64 (by first | omega | (simp; omega)) (by first | omega | (simp; omega)))) ?_ | refine AOps.step1 rfl rfl rfl (AStep.arith rfl rfl rfl (.inr (.inl ⟨rfl, rfl⟩)) (inRange_i64 (by first | omega | (simp; omega)) (by first | omega | (simp; omega)))) ?_ | refine AOps.step1 rfl rfl rfl (AStep.neBool Tryd.underlying4 rfl rfl rfl) ?_ | refine AOps.step1 rfl rfl rfl (AStep.eqBool Tryd.underlying4 rfl rfl rfl) ?_ | refine AOps.step1 rfl rfl rfl (AStep.max2 (t := 3) (ty := 3) rfl rfl rfl) ?_ | refine AOps.step1 rfl rfl rfl (AStep.min2 (t := 3) (ty := 3) rfl rfl rfl) ?_ | refine AOps.unG rfl rfl rfl ?_)
      refine cInv ⟨ks.length - (j + 1), (j + 1, ow, ck', l'), id, by omega, ⟨by omega, ?_, rfl⟩, LessR.of rfl ?_ ?_ .nil rfl rfl hok'⟩
      · dsimp only
        rw [hsn]
        dsimp only
        have hkq : ∀ q ∈ keys (objss ks), q ∉ keys (objs t) → ow q = ov q := fun q hq hn => by
          have hq' := hdis q ((hKm q).2 (.inr (.inr (.inr hq))))
          exact hfr' q hq'.2.1 hq'.2.2.1 hn
        refine hov.frame (S := keys (objs t)) hR' hok' hfr' (fun q hq => ⟨htK q hq, fun e => nik (e ▸ htk q hq)⟩) hdis hKi hww (hov.b.frame fun q hq => ?_) (hov.a.frame fun q hq => ?_) ?_
        · rw [hkb] at hq
          have hq' := hdis q ((hKm q).2 (.inr (.inl hq)))
          exact hfr' q hq'.2.1 hq'.2.2.1 fun h => (nbx q hq).2 (htk q h)
        · rw [hka] at hq
          have hq' := hdis q ((hKm q).2 (.inr (.inr (.inl hq))))
          exact hfr' q hq'.2.1 hq'.2.2.1 fun h => nax q hq (htk q h)
        · rw [List.append_assoc, objss_app]
          refine Owns.app.2 ⟨hoa1.frame fun q hq => ?_, ?_⟩
          · rw [hkk] at hq
            exact hkq q (by rw [hspl]; exact List.mem_append.2 (.inl hq)) fun h => (htd.2 q h).1 hq
          · rw [List.cons_append, List.nil_append, show objss ((rnL nmj fj t).1 :: ks.drop (j + 1)) = objs (rnL nmj fj t).1 ++ objss (ks.drop (j + 1)) from rfl]
            refine Owns.app.2 ⟨hO', hoa4.frame fun q hq => ?_⟩
            exact hkq q (by rw [hspl]; exact List.mem_append.2 (.inr (List.mem_append.2 (.inr hq)))) fun h => (htd.2 q h).2 hq
      · refine FrSub.cons rfl (.ofEq rfl) (FrSub.cons rfl (.ofEq rfl) (FrSub.consP rfl (.ofEq rfl) (ids_kC _ (fun _ => trivial) _) (FrSub.cons rfl (.ofEq rfl) .nil)))
      · simp; exact ids_kC (inL 0) (fun _ => trivial) _
    have hlt : j = ks.length := by simp [kC] at hb2; omega
    subst hlt
    rw [List.take_length, List.drop_length, List.append_nil] at hov
    repeat first | (with_reducible refine oj ?_; refine AOps.auto tabOk rfl ?_) | (with_reducible first | refine o1 ?_ | refine o2 ?_ | refine o3 ?_ | refine o4 ?_ | refine o5 ?_ | refine o6 ?_ | refine o7 ?_ | refine o8 ?_ | refine o9 ?_ | refine oa ?_ | refine ob ?_ | refine oc ?_ | refine od ?_ | refine oe ?_ | refine og ?_ | refine oh ?_ | refine oi ?_) | (with_reducible refine cExitMiss ?_ ?_; rfl) | (with_reducible refine ok ?_; first | refine ACode.condT rfl ?_ | refine ACode.condF rfl ?_)
    refine AFn.fin' rfl (WkF.refl _) (by simp) hok0 ⟨rfl, ck, l, ?_, ?_, hok0, fun q h1 h2 h3 => hov.fr q h1 h2 (by rw [hKe]; exact h3)⟩
    · have := hov.R
      simp only [rnL, hs1, hs2]
      exact this
    · have e1 : (rnL nm f (.mk i o n nb b ks a)).1 = .mk i o n' nb b1 (rnLs nm2 f2 ks).1 a2 := by simp only [rnL, hs1, hs2, hn']
      rw [e1]
      have hc1 : bC nb b1 = bC nb b := by have := ren1_c hnb nm f; rw [hs1] at this; exact this
      have hc2 : a2.map lAlt = a.map lAlt := by have := rnAs_c (l := a) (nm := nm1) (f := f1) fun x hx => (hax x hx).1; rw [hs2] at this; exact this
      intro p hp
      simp only [objs, hc1, hc2, rnLs_c, List.cons_append, List.mem_cons] at hp
      rcases hp with rfl | hp
      · exact hov.i
      · exact Owns.app.2 ⟨Owns.app.2 ⟨hov.b, hov.a⟩, hov.k⟩ p hp
end Go.Proofs.YtnonkoeknpmcjaaDoor
/- Rename, walked. -/
namespace Go.Proofs.YtnonkoeknpmcjaaDoor
open Go Go.Abs Go.CoreX
set_option maxRecDepth 10000
set_option linter.unusedVariables false
set_option linter.unusedSimpArgs false
variable {Γ : List (Nat × List AC)}
abbrev nm0 : Nm := fun _ => none
theorem ouAdd_ok {ou : Outer} {k : Nat} {os : List AObj} (h : OuOk ou) (ho : ∀ o ∈ os, o.ids isO) : OuOk (ouAdd ou k os) := by
  intro m o hm
  rcases Nat.lt_or_ge m k with h1 | h1
  · rw [ouAdd_old h1] at hm; exact h m o hm
  · obtain ⟨p, rfl⟩ : ∃ p, m = k + p := ⟨m - k, by omega⟩
    rw [ouAdd_new] at hm
    exact ho o (List.mem_of_getElem? hm)
/-- The outer names below k alone. -/
def ouCut (ou : Outer) (k : Nat) : Outer := fun m => if m < k then ou m else none
theorem ouCut_some {ou : Outer} {k m : Nat} {o : AObj} (h : ouCut ou k m = some o) : ou m = some o := by
  unfold ouCut at h
  split at h
  · exact h
  · cases h
def RenameQ (ou : Outer) (t : LTr) (f : Int) (r : FV) (ou' : Outer) : Prop :=
  r = .one (int (rnL nm0 f t).2.2) ∧ Owns ou' (objs (rnL nm0 f t).1) ∧ OuOk ou' ∧ ∀ j, j ∉ keys (objs t) → ou' j = ou j
theorem Rename_ok (hΓ : ∀ g cs, (g, cs) ∈ Γ → idsL isO cs) (t : LTr) (hok : okL t) (ou : Outer) (ho : Owns ou (objs t)) (hnd : (keys (objs t)).Nodup) (f : Int) (hf0 : 0 ≤ f) (hf1 : f + nbL t ≤ 4611686018427387904) (hou0 : OuOk ou) :
    AFn Tryd.prog Γ 43 [.one (.ptr (.o t.id) 0), .one (int f)] ou (RenameQ ou t f) := by
  refine AFn.walk 13 tabOk Tryd.func43 rfl (by kernel_rfl) rfl rfl fun hou => ?_
  repeat first | (with_reducible refine oj ?_; refine AOps.auto tabOk rfl ?_) | (with_reducible first | refine o1 ?_ | refine o2 ?_ | refine o3 ?_ | refine o4 ?_ | refine o5 ?_ | refine o6 ?_ | refine o7 ?_ | refine o8 ?_ | refine o9 ?_ | refine oa ?_ | refine ob ?_ | refine oc ?_ | refine od ?_ | refine oe ?_ | refine og ?_ | refine oh ?_ | refine oi ?_) | (with_reducible refine cExitMiss ?_ ?_; rfl) | (with_reducible refine ok ?_; first | refine ACode.condT rfl ?_ | refine ACode.condF rfl ?_)
  refine AOps.step1 rfl rfl rfl (AStep.makeMap rfl) ?_
  repeat first | (with_reducible refine oj ?_; refine AOps.auto tabOk rfl ?_) | (with_reducible first | refine o1 ?_ | refine o2 ?_ | refine o3 ?_ | refine o4 ?_ | refine o5 ?_ | refine o6 ?_ | refine o7 ?_ | refine o8 ?_ | refine o9 ?_ | refine oa ?_ | refine ob ?_ | refine oc ?_ | refine od ?_ | refine oe ?_ | refine og ?_ | refine oh ?_ | refine oi ?_) | (with_reducible refine cExitMiss ?_ ?_; rfl) | (with_reducible refine ok ?_; first | refine ACode.condT rfl ?_ | refine ACode.condF rfl ?_)
  refine AOps.cedes [2, 1, 0, 3] rfl (by decide) hou fun k hk => ⟨[(9, .one (fnR k (k + 2) (k + 3))), (10, .one (.ptr (.o t.id) 0)), (3, .one (.ptr (.o (k + 2)) 0))], [], [.cells [.mp (.o (k + 1))], .map 0 (encI eN []), .cells [int f], .cells [fnR k (k + 2) (k + 3)]], ?_, .nil, ?_, ?_⟩
  · exact .cons rfl rfl (.cons rfl rfl (.cons rfl rfl .nil))
  · exact .cons rfl rfl (.cons rfl rfl (.cons rfl rfl (.cons rfl rfl .nil)))
  have hk' : ∀ m, k ≤ m → ou m = none := hk
  have hkl : ∀ j ∈ keys (objs t), j < k := fun j hj => by
    obtain ⟨p, hp, rfl⟩ := List.mem_map.1 hj
    exact ouAdd_lt hk' (ho p hp)
  obtain ⟨o1', ho1'⟩ : ∃ o1' : Outer, o1' = ouAdd ou k [.cells [.mp (.o (k + 1))], .map 0 (encI eN []), .cells [int f], .cells [fnR k (k + 2) (k + 3)]] := ⟨_, rfl⟩
  have g0 : o1' k = some (.cells [.mp (.o (k + 1))]) := by rw [ho1']; exact ouAdd_new 0
  have g1 : o1' (k + 1) = some (.map 0 (encI eN [])) := by rw [ho1']; exact ouAdd_new 1
  have g2 : o1' (k + 2) = some (.cells [int f]) := by rw [ho1']; exact ouAdd_new 2
  have g3 : o1' (k + 3) = some (.cells [fnR k (k + 2) (k + 3)]) := by rw [ho1']; exact ouAdd_new 3
  have g4 : ∀ j, j < k → o1' j = ou j := fun j hj => by rw [ho1']; exact ouAdd_old hj
  have g5 : OuOk o1' := by
    rw [ho1']
    refine ouAdd_ok hou0 fun o ho => ?_
    simp only [List.mem_cons, List.not_mem_nil, or_false] at ho
    rcases ho with rfl | rfl | rfl | rfl
    · simp
    · exact ids_mapN _ _ _
    · simp
    · simp [fnR]
  have hcall := rename1_ok hΓ t hok o1' k (k + 1) (k + 2) (k + 3) nm0 0 [] f ⟨g0, g1, IMOk.nil, g2⟩ g3 (ho.frame fun j hj => g4 j (hkl j hj)) hnd (fun j hj => by have := hkl j hj; omega) hf0 hf1 g5
  show AOps _ _ _ _ _ ⟨4, [], ouAdd ou k [.cells [.mp (.o (k + 1))], .map 0 (encI eN []), .cells [int f], .cells [fnR k (k + 2) (k + 3)]]⟩
  rw [← ho1']
  refine AOps.call1 hΓ rfl rfl rfl rfl rfl rfl rfl (by exact ⟨trivial, trivial, trivial, trivial, trivial⟩) g5 hcall fun r ow hq hids how => ?_
  obtain ⟨rfl, ck', l', hR', hO', hok', hfr'⟩ := hq
  repeat first | (with_reducible refine oj ?_; refine AOps.auto tabOk rfl ?_) | (with_reducible first | refine o1 ?_ | refine o2 ?_ | refine o3 ?_ | refine o4 ?_ | refine o5 ?_ | refine o6 ?_ | refine o7 ?_ | refine o8 ?_ | refine o9 ?_ | refine oa ?_ | refine ob ?_ | refine oc ?_ | refine od ?_ | refine oe ?_ | refine og ?_ | refine oh ?_ | refine oi ?_) | (with_reducible refine cExitMiss ?_ ?_; rfl) | (with_reducible refine ok ?_; first | refine ACode.condT rfl ?_ | refine ACode.condF rfl ?_)
  refine AOps.step1 rfl rfl rfl (AStep.loadOwn tabOk rfl rfl rfl rfl rfl hR'.f rfl) ?_
  refine AOps.lessO ⟨4, [], ouCut ow k⟩ rfl (fun i o hi => ?_) ?_
  · cases i with
    | l m => cases hi
    | o m => exact ouCut_some hi
  repeat first | (with_reducible refine oj ?_; refine AOps.auto tabOk rfl ?_) | (with_reducible first | refine o1 ?_ | refine o2 ?_ | refine o3 ?_ | refine o4 ?_ | refine o5 ?_ | refine o6 ?_ | refine o7 ?_ | refine o8 ?_ | refine o9 ?_ | refine oa ?_ | refine ob ?_ | refine oc ?_ | refine od ?_ | refine oe ?_ | refine og ?_ | refine oh ?_ | refine oi ?_) | (with_reducible refine cExitMiss ?_ ?_; rfl) | (with_reducible refine ok ?_; first | refine ACode.condT rfl ?_ | refine ACode.condF rfl ?_)
  refine AFn.fin' rfl (WkF.ofEq rfl) (by simp) (fun j o h => hok' j o (ouCut_some h)) ⟨rfl, fun p hp => ?_, fun j o h => hok' j o (ouCut_some h), fun j hj => ?_⟩
  · have hpk : p.1 ∈ keys (objs t) := by rw [← rnL_k t nm0 f]; exact List.mem_map_of_mem hp
    show ouCut ow k p.1 = some p.2
    unfold ouCut
    rw [if_pos (hkl _ hpk)]
    exact hO' p hp
  · show ouCut ow k j = ou j
    unfold ouCut
    by_cases e : j < k
    · rw [if_pos e, hfr' j (by omega) (by omega) hj, g4 j e]
    · rw [if_neg e, hk' j (by omega)]
end Go.Proofs.YtnonkoeknpmcjaaDoor
/- Clone, walked: the copy is handed on as an own array. -/
namespace Go.Proofs.YtnonkoeknpmcjaaDoor
open Go Go.Abs Go.CoreX
set_option maxRecDepth 10000
set_option linter.unusedVariables false
set_option linter.unusedSimpArgs false
variable {Γ : List (Nat × List AC)}
theorem Wk.arr0 (i : Abs.Id) (s cap : Nat) : Wk (.arr i s 0 0 cap) (.sl s []) := by
  intro w C v h
  simp only [R] at h ⊢
  obtain ⟨_, rfl, hc⟩ := h
  exact ⟨_, cap, rfl, by simp, .inl trivial⟩
/-- New outer objects, all else as it was. -/
structure NewO (ou ou' : Outer) (L : List (Nat × AObj)) : Prop where
  own : Owns ou' L
  new : ∀ k ∈ keys L, ou k = none
  old : ∀ m, m ∉ keys L → ou' m = ou m
  ok : OuOk ou'
  nd : (keys L).Nodup
theorem NewO.nil {ou : Outer} (h : OuOk ou) : NewO ou ou [] := ⟨fun p hp => by simp at hp, fun k hk => by simp [keys] at hk, fun _ _ => rfl, h, by simp [keys]⟩
theorem NewO.trans {ou ou1 ou2 : Outer} {L M : List (Nat × AObj)} (h : NewO ou ou1 L) (k : NewO ou1 ou2 M) : NewO ou ou2 (L ++ M) := by
  have hLM : ∀ j ∈ keys L, j ∉ keys M := fun j hj hm => by
    have h1 := k.new j hm
    obtain ⟨p, hp, rfl⟩ := List.mem_map.1 hj
    rw [h.own p hp] at h1
    cases h1
  refine ⟨Owns.app.2 ⟨h.own.frame fun j hj => k.old j (hLM j hj), k.own⟩, fun j hj => ?_, fun m hm => ?_, k.ok, ?_⟩
  · rw [keys_app, List.mem_append] at hj
    by_cases e : j ∈ keys L
    · exact h.new j e
    · rw [← h.old j e]
      exact k.new j (hj.resolve_left e)
  · rw [keys_app, List.mem_append, not_or] at hm
    rw [k.old m hm.2, h.old m hm.1]
  · rw [keys_app, List.nodup_append]
    exact ⟨h.nd, k.nd, fun a ha b hb e => hLM a ha (e ▸ hb)⟩
theorem NewO.frame {ou ou' : Outer} {L M : List (Nat × AObj)} (h : NewO ou ou' L) (ho : Owns ou M) : Owns ou' M := ho.frame fun j hj => h.old j fun hm => by
  obtain ⟨p, hp, rfl⟩ := List.mem_map.1 hj
  have := h.new _ hm
  rw [ho p hp] at this
  cases this
def CloneQ (ou : Outer) (l : List Int) (r : FV) (ou' : Outer) : Prop := ∃ nb, ownB nb l ∧ r = .one (bC nb l) ∧ NewO ou ou' (bO nb l)
theorem CloneN_ok (l : List Int) (hl : l.length ≤ 1048576) (ou : Outer) : AFn Tryd.prog Γ 56 [.one (.sl 1 (l.map cI))] ou (CloneQ ou l) := by
  refine AFn.walk 8 tabOk Tryd.func56 rfl (by kernel_rfl) rfl rfl fun hou => ?_
  repeat first | (with_reducible refine oj ?_; refine AOps.auto tabOk rfl ?_) | (with_reducible first | refine o1 ?_ | refine o2 ?_ | refine o3 ?_ | refine o4 ?_ | refine o5 ?_ | refine o6 ?_ | refine o7 ?_ | refine o8 ?_ | refine o9 ?_ | refine oa ?_ | refine ob ?_ | refine oc ?_ | refine od ?_ | refine oe ?_ | refine og ?_ | refine oh ?_ | refine oi ?_) | (with_reducible refine cExitMiss ?_ ?_; rfl) | (with_reducible refine ok ?_; first | refine ACode.condT rfl ?_ | refine ACode.condF rfl ?_)
  refine AOps.nilTest rfl rfl rfl rfl Tryd.underlying30 rfl rfl fun b hb => ?_
  repeat first | (with_reducible refine oj ?_; refine AOps.auto tabOk rfl ?_) | (with_reducible first | refine o1 ?_ | refine o2 ?_ | refine o3 ?_ | refine o4 ?_ | refine o5 ?_ | refine o6 ?_ | refine o7 ?_ | refine o8 ?_ | refine o9 ?_ | refine oa ?_ | refine ob ?_ | refine oc ?_ | refine od ?_ | refine oe ?_ | refine og ?_ | refine oh ?_ | refine oi ?_) | (with_reducible refine cExitMiss ?_ ?_; rfl) | (with_reducible refine ok ?_; first | refine ACode.condT rfl ?_ | refine ACode.condF rfl ?_)
  refine ACode.cond rfl (fun hb2 => ?_) (fun hb2 => ?_)
  · have h0 : l = [] := by simpa using hb hb2
    subst h0
    repeat first | (with_reducible refine oj ?_; refine AOps.auto tabOk rfl ?_) | (with_reducible first | refine o1 ?_ | refine o2 ?_ | refine o3 ?_ | refine o4 ?_ | refine o5 ?_ | refine o6 ?_ | refine o7 ?_ | refine o8 ?_ | refine o9 ?_ | refine oa ?_ | refine ob ?_ | refine oc ?_ | refine od ?_ | refine oe ?_ | refine og ?_ | refine oh ?_ | refine oi ?_) | (with_reducible refine cExitMiss ?_ ?_; rfl) | (with_reducible refine ok ?_; first | refine ACode.condT rfl ?_ | refine ACode.condF rfl ?_)
    exact AFn.fin' rfl (.one (.nilS 1)) (by simp) hou ⟨none, fun _ => rfl, rfl, .nil hou⟩
  · clear hb
    repeat first | (with_reducible refine oj ?_; refine AOps.auto tabOk rfl ?_) | (with_reducible first | refine o1 ?_ | refine o2 ?_ | refine o3 ?_ | refine o4 ?_ | refine o5 ?_ | refine o6 ?_ | refine o7 ?_ | refine o8 ?_ | refine o9 ?_ | refine oa ?_ | refine ob ?_ | refine oc ?_ | refine od ?_ | refine oe ?_ | refine og ?_ | refine oh ?_ | refine oi ?_) | (with_reducible refine cExitMiss ?_ ?_; rfl) | (with_reducible refine ok ?_; first | refine ACode.condT rfl ?_ | refine ACode.condF rfl ?_)
    refine AOps.step1 rfl rfl rfl (AStep.buildOwn0 (s := 1) tabOk rfl rfl rfl rfl rfl) ?_
    repeat first | (with_reducible refine oj ?_; refine AOps.auto tabOk rfl ?_) | (with_reducible first | refine o1 ?_ | refine o2 ?_ | refine o3 ?_ | refine o4 ?_ | refine o5 ?_ | refine o6 ?_ | refine o7 ?_ | refine o8 ?_ | refine o9 ?_ | refine oa ?_ | refine ob ?_ | refine oc ?_ | refine od ?_ | refine oe ?_ | refine og ?_ | refine oh ?_ | refine oi ?_) | (with_reducible refine cExitMiss ?_ ?_; rfl) | (with_reducible refine ok ?_; first | refine ACode.condT rfl ?_ | refine ACode.condF rfl ?_)
    by_cases h0 : l = []
    · subst h0
      refine AOps.step1 rfl rfl rfl (AStep.appNone tabOk rfl rfl rfl rfl rfl rfl) ?_
      repeat first | (with_reducible refine oj ?_; refine AOps.auto tabOk rfl ?_) | (with_reducible first | refine o1 ?_ | refine o2 ?_ | refine o3 ?_ | refine o4 ?_ | refine o5 ?_ | refine o6 ?_ | refine o7 ?_ | refine o8 ?_ | refine o9 ?_ | refine oa ?_ | refine ob ?_ | refine oc ?_ | refine od ?_ | refine oe ?_ | refine og ?_ | refine oh ?_ | refine oi ?_) | (with_reducible refine cExitMiss ?_ ?_; rfl) | (with_reducible refine ok ?_; first | refine ACode.condT rfl ?_ | refine ACode.condF rfl ?_)
      exact AFn.fin' rfl (.one (Wk.arr0 _ _ _)) (by simp) hou ⟨none, fun _ => rfl, rfl, .nil hou⟩
    · refine AOps.appOwn tabOk rfl rfl rfl rfl rfl rfl rfl rfl rfl (.own 1 0 [] (.l 0) rfl (by simp) (by simp)) (.sl 1 (l.map cI)) (by simpa using h0) rfl (by simp; show _ * 8 ≤ _; omega) (by simp; omega) fun cap hc => ?_
      simp only [List.nil_append] at hc ⊢
      refine AOps.cedes [1] rfl (by decide) hou fun k hk => ⟨[(7, .one (.arr (.o k) 1 0 (l.map cI).length cap))], [], [.cells (vec 1 (l.map cI) cap)], .cons rfl rfl .nil, .nil, .cons rfl ?_ .nil, ?_⟩
      · exact AObj.sub_f (fun i hi => by cases i with | l q => exact hi.elim | o q => rfl) _ (show idsL isO (vec 1 (l.map cI) cap) from ids_vecI _ _ _)
      have hk' : ∀ m, k ≤ m → ou m = none := hk
      have hok : OuOk (ouAdd ou k [.cells (vec 1 (l.map cI) cap)]) := ouAdd_ok hou fun o ho => by simp at ho; subst ho; exact ids_vecI _ _ _
      repeat first | (with_reducible refine oj ?_; refine AOps.auto tabOk rfl ?_) | (with_reducible first | refine o1 ?_ | refine o2 ?_ | refine o3 ?_ | refine o4 ?_ | refine o5 ?_ | refine o6 ?_ | refine o7 ?_ | refine o8 ?_ | refine o9 ?_ | refine oa ?_ | refine ob ?_ | refine oc ?_ | refine od ?_ | refine oe ?_ | refine og ?_ | refine oh ?_ | refine oi ?_) | (with_reducible refine cExitMiss ?_ ?_; rfl) | (with_reducible refine ok ?_; first | refine ACode.condT rfl ?_ | refine ACode.condF rfl ?_)
      refine AFn.fin' rfl (WkF.ofEq rfl) (by simp) hok ⟨some (k, cap), (fun h => by cases h), rfl, fun p hp => ?_, fun j hj => ?_, fun m hm => ?_, hok, by simp [bO, keys]⟩
      · simp [bO] at hp; subst hp
        exact ouAdd_new 0
      · simp [bO, keys] at hj; subst hj; exact hk' _ (Nat.le_refl _)
      · simp [bO, keys] at hm
        show ouAdd ou k [.cells (vec 1 (l.map cI) cap)] m = ou m
        rcases Nat.lt_or_ge m k with h1 | h1
        · exact ouAdd_old h1
        · obtain ⟨p, rfl⟩ : ∃ p, m = k + p := ⟨m - k, by omega⟩
          rw [ouAdd_new, hk' _ h1]
          cases p with
          | zero => simp at hm
          | succ p => simp
end Go.Proofs.YtnonkoeknpmcjaaDoor
/- Trees of own nodes out of a list: what is owned, and that nothing is owned twice. -/
namespace Go.CoreX
set_option linter.unusedVariables false
set_option linter.unusedSimpArgs false
theorem cnt_kids : ∀ {e f : List Ex}, e.map (·.kids) = f.map (·.kids) → ∀ i, cnt e i = cnt f i
  | [], [], _, _ => rfl
  | [], _ :: _, h, _ => by simp at h
  | _ :: _, [], h, _ => by simp at h
  | x :: e, y :: f, h, i => by
    simp only [List.map_cons, List.cons.injEq] at h
    simp only [cnt, h.1, cnt_kids h.2 i]
/-- The list with each node's own index as its number. -/
def ixE (e : List Ex) : List Ex := e.mapIdx fun i x => { x with n := (i : Nat) }
theorem ixE_get {e : List Ex} {i : Nat} : (ixE e)[i]? = (e[i]?).map fun x => { x with n := (i : Nat) } := by simp [ixE]
theorem ixE_kids (e : List Ex) : (ixE e).map (·.kids) = e.map (·.kids) := by
  apply List.ext_getElem?
  intro i
  simp only [List.getElem?_map, ixE_get]
  cases e[i]? <;> rfl
theorem ixE_len (e : List Ex) : (ixE e).length = e.length := by simp [ixE]
theorem ixE_tree {e : List Ex} (h : IsTree e) : IsTree (ixE e) := by
  refine ⟨fun e0 => h.ne (by have := ixE_len e; rw [e0] at this; exact List.length_eq_zero_iff.1 (by simpa using this.symm)), fun j x hx => ?_, fun i hi => ?_⟩
  · rw [ixE_get] at hx
    cases he : e[j]? with
    | none => rw [he] at hx; cases hx
    | some y =>
      rw [he] at hx
      simp at hx; subst hx
      exact h.k j y he
  · rw [cnt_kids (ixE_kids e), ixE_len]
    exact h.c i (by rw [ixE_len] at hi; exact hi)
theorem labs_n (e : List Ex) : (labs e).map (·.n) = e.map (·.n) := by simp [labs, labE]
theorem ixE_n (e : List Ex) : (ixE e).map (·.n) = (List.range e.length).map fun i : Nat => (i : Int) := by
  apply List.ext_getElem?
  intro i
  simp only [List.getElem?_map, ixE_get]
  by_cases h : i < e.length
  · simp [h]
  · simp [h]
end Go.CoreX
namespace Go.Proofs.YtnonkoeknpmcjaaDoor
open Go Go.Abs Go.CoreX
set_option maxRecDepth 10000
set_option linter.unusedVariables false
set_option linter.unusedSimpArgs false
/-- A node's own part. -/
def ownO : LTr → List (Nat × AObj)
  | .mk i o n nb b k a => (bO nb b ++ aO a) ++ [(i, .cells [int o, int n, bC nb b, .sl 1 (kC k), .sl 2 (a.map lAlt)])]
theorem objs_mem : ∀ (t : LTr) (p : Nat × AObj), p ∈ objs t ↔ p ∈ ownO t ∨ p ∈ objss t.kids
  | .mk i o n nb b k a, p => by
    simp only [objs, ownO, LTr.kids, List.cons_append, List.mem_cons, List.mem_append, List.not_mem_nil, or_false]
    constructor
    · rintro (h | (h | h) | h) <;> simp [h]
    · rintro (((h | h) | h) | h) <;> simp [h]
theorem objs_count (k : Nat) : ∀ t : LTr, (keys (objs t)).count k = (keys (ownO t)).count k + (keys (objss t.kids)).count k
  | .mk i o n nb b ks a => by
    simp only [objs, ownO, LTr.kids, keys, List.map_cons, List.map_append, List.cons_append, List.count_cons, List.count_append, List.map_nil, List.count_nil]
    omega
/-- The trees of the nodes, each of those of its kids. -/
structure LinkL (e : List Ex) (lts : List LTr) : Prop where
  len : lts.length = e.length
  at_ : ∀ (i : Nat) (x : Ex), e[i]? = some x → ∃ id nb a, lts[i]? = some (.mk id x.op x.n nb x.binds (x.kids.map fun q => lts.getD q.toNat default) a) ∧ a.map LAlt.er = x.alts ∧ ownB nb x.binds ∧ ∀ y ∈ a, ownB y.nb y.binds
theorem LinkL.nil : LinkL [] [] := ⟨rfl, fun i x h => by simp at h⟩
theorem LinkL.snoc {e : List Ex} {lts : List LTr} (h : LinkL e lts) (hk : kidsIn e) {x : Ex} (hx : ∀ q ∈ x.kids, 0 ≤ q ∧ q < (e.length : Int)) {id : Nat} {nb : Nb} {a : List LAlt} (ha : a.map LAlt.er = x.alts) (hb : ownB nb x.binds) (hab : ∀ y ∈ a, ownB y.nb y.binds) :
    LinkL (e ++ [x]) (lts ++ [.mk id x.op x.n nb x.binds (x.kids.map fun q => lts.getD q.toNat default) a]) := by
  have hgd : ∀ (q : Int), 0 ≤ q → q < (e.length : Int) → ∀ t, (lts ++ [t]).getD q.toNat default = lts.getD q.toNat default := fun q h0 h1 t => getD_app (by rw [h.len]; omega)
  refine ⟨by simp [h.len], fun i y hy => ?_⟩
  by_cases hi : i < e.length
  · rw [List.getElem?_append_left hi] at hy
    obtain ⟨id', nb', a', h1, h2, h3, h4⟩ := h.at_ i y hy
    refine ⟨id', nb', a', ?_, h2, h3, h4⟩
    rw [List.getElem?_append_left (by rw [h.len]; exact hi), h1]
    congr 2
    refine List.map_congr_left fun q hq => ?_
    have := hk i y hy q hq
    exact (hgd q this.1 (by omega) _).symm
  · have hie : i = e.length := by
      have := (List.getElem?_eq_some_iff.1 hy).1
      simp at this; omega
    subst hie
    simp at hy
    subst hy
    refine ⟨id, nb, a, ?_, ha, hb, hab⟩
    rw [← h.len, List.getElem?_append_right (by simp)]
    simp only [Nat.sub_self, List.getElem?_cons_zero]
    congr 2
    exact List.map_congr_left fun q hq => (hgd q (hx q hq).1 (hx q hq).2 _).symm
section
variable {e : List Ex} {lts : List LTr}
theorem LinkL.getD (h : LinkL e lts) {i : Nat} {t : LTr} (ht : lts[i]? = some t) : lts.getD i default = t := by rw [List.getD_eq_getElem?_getD, ht]; rfl
theorem LinkL.er (h : LinkL e lts) (hk : kidsIn e) : ∀ (n i : Nat) (t : LTr), i < n → lts[i]? = some t → erT t = treeAt e i
  | 0, i, t, hi, _ => by omega
  | n + 1, i, t, hi, ht => by
    have hil : i < e.length := by rw [← h.len]; exact (List.getElem?_eq_some_iff.1 ht).1
    obtain ⟨x, hx⟩ := get_of_lt hil
    obtain ⟨id, nb, a, h1, h2, _⟩ := h.at_ i x hx
    rw [ht] at h1
    cases h1
    rw [treeAt_node hk hx]
    simp only [erT, h2, erTs_eq, List.map_map]
    congr 1
    refine List.map_congr_left fun q hq => ?_
    have hq' := hk i x hx q hq
    obtain ⟨t', ht'⟩ := get_of_lt (l := lts) (i := q.toNat) (by rw [h.len]; omega)
    simp only [Function.comp, h.getD ht']
    exact h.er hk n q.toNat t' (by omega) ht'
theorem LinkL.own (h : LinkL e lts) (hk : kidsIn e) : ∀ (n i : Nat) (t : LTr), i < n → lts[i]? = some t → ∀ p ∈ objs t, p ∈ lts.flatMap ownO
  | 0, i, t, hi, _ => by omega
  | n + 1, i, t, hi, ht => fun p hp => by
    have hil : i < e.length := by rw [← h.len]; exact (List.getElem?_eq_some_iff.1 ht).1
    obtain ⟨x, hx⟩ := get_of_lt hil
    obtain ⟨id, nb, a, h1, _⟩ := h.at_ i x hx
    rw [ht] at h1
    rcases (objs_mem t p).1 hp with hp | hp
    · exact List.mem_flatMap.2 ⟨t, List.mem_of_getElem? ht, hp⟩
    · cases h1
      simp only [LTr.kids, objss_eq] at hp
      obtain ⟨u, hu, hpu⟩ := List.mem_flatMap.1 hp
      obtain ⟨q, hq, rfl⟩ := List.mem_map.1 hu
      have hq' := hk i x hx q hq
      obtain ⟨t', ht'⟩ := get_of_lt (l := lts) (i := q.toNat) (by rw [h.len]; omega)
      rw [h.getD ht'] at hpu
      exact h.own hk n q.toNat t' (by omega) ht' p hpu
def ownC (lts : List LTr) (k : Nat) (l : Lab) : Int := ((keys (ownO (lts.getD l.n.toNat default))).count k : Nat)
theorem objss_count (k : Nat) : ∀ l : List LTr, (((keys (objss l)).count k : Nat) : Int) = (l.map fun t => (((keys (objs t)).count k : Nat) : Int)).sum
  | [] => by simp [objss, keys]
  | t :: l => by
    have := objss_count k l
    simp only [keys] at this
    simp only [objss, keys, List.map_append, List.count_append, List.map_cons, List.sum_cons, ← this]
    push_cast; rfl
theorem LinkL.count (h : LinkL e lts) (hk : kidsIn e) (k : Nat) : ∀ (n i : Nat) (t : LTr), i < n → lts[i]? = some t → sumT (ownC lts k) (treeAt (ixE e) i) = ((keys (objs t)).count k : Nat)
  | 0, i, t, hi, _ => by omega
  | n + 1, i, t, hi, ht => by
    have hil : i < e.length := by rw [← h.len]; exact (List.getElem?_eq_some_iff.1 ht).1
    obtain ⟨x, hx⟩ := get_of_lt hil
    obtain ⟨id, nb, a, h1, _⟩ := h.at_ i x hx
    rw [ht] at h1
    have hki : kidsIn (ixE e) := fun j y hy => by
      rw [ixE_get] at hy
      cases he : e[j]? with
      | none => rw [he] at hy; cases hy
      | some z =>
        rw [he] at hy
        simp at hy; subst hy
        exact hk j z he
    have hxi : (ixE e)[i]? = some { x with n := (i : Nat) } := by rw [ixE_get, hx]; rfl
    rw [treeAt_node hki hxi]
    simp only [sumT, sumTs_eq, List.map_map]
    rw [objs_count]
    have e1 : ownC lts k ⟨x.op, (i : Nat), x.binds, x.kids.map (Tr.op ∘ fun k => treeAt (ixE e) k.toNat), x.alts⟩ = ((keys (ownO t)).count k : Nat) := by
      unfold ownC
      simp only [Int.toNat_natCast, h.getD ht]
    have e2 : (x.kids.map (sumT (ownC lts k) ∘ fun k => treeAt (ixE e) k.toNat)).sum = ((keys (objss t.kids)).count k : Nat) := by
      rw [objss_count]
      cases h1
      simp only [LTr.kids, List.map_map]
      congr 1
      refine List.map_congr_left fun q hq => ?_
      have hq' := hk i x hx q hq
      obtain ⟨t', ht'⟩ := get_of_lt (l := lts) (i := q.toNat) (by rw [h.len]; omega)
      simp only [Function.comp, h.getD ht']
      exact h.count hk k n q.toNat t' (by omega) ht'
    rw [e1, e2]
    push_cast; rfl
theorem flat_count (k : Nat) : ∀ lts : List LTr, (((keys (lts.flatMap ownO)).count k : Nat) : Int) = (lts.map fun t => (((keys (ownO t)).count k : Nat) : Int)).sum
  | [] => by simp [keys]
  | t :: l => by
    have := flat_count k l
    simp only [keys] at this
    simp only [List.flatMap_cons, keys, List.map_append, List.count_append, List.map_cons, List.sum_cons, ← this]
    push_cast; rfl
theorem LinkL.nodup (h : LinkL e lts) (ht : IsTree e) (hn : (keys (lts.flatMap ownO)).Nodup) {t : LTr} (hr : lts[e.length - 1]? = some t) : (keys (objs t)).Nodup := by
  rw [List.nodup_iff_count]
  intro k
  have h1 := h.count ht.k k _ _ t (Nat.lt_succ_self _) hr
  have h2 := sum_tree (ownC lts k) (ixE_tree ht)
  have h3 : grow (ixE e) = treeAt (ixE e) (e.length - 1) := by unfold grow treeAt; rw [ixE_len]
  rw [h3, h1] at h2
  have h4 : ((labs (ixE e)).map (ownC lts k)) = lts.map fun t => (((keys (ownO t)).count k : Nat) : Int) := by
    have e1 : (labs (ixE e)).map (ownC lts k) = ((labs (ixE e)).map (·.n)).map fun n : Int => (((keys (ownO (lts.getD n.toNat default))).count k : Nat) : Int) := by
      rw [List.map_map]; rfl
    rw [e1, labs_n, ixE_n, List.map_map]
    apply List.ext_getElem?
    intro i
    by_cases hi : i < e.length
    · obtain ⟨t', ht'⟩ := get_of_lt (l := lts) (i := i) (by rw [h.len]; exact hi)
      simp only [List.getElem?_map, List.getElem?_range hi, Option.map_some, Function.comp, Int.toNat_natCast, h.getD ht', ht']
    · rw [List.getElem?_eq_none (by simp; omega), List.getElem?_eq_none (by simp [h.len]; omega)]
  rw [h4, ← flat_count] at h2
  have h5 := List.nodup_iff_count.1 hn k
  omega
theorem LinkL.ok (h : LinkL e lts) (hk : kidsIn e) (hs : ∀ x ∈ e, x.binds.length ≤ 1048576 ∧ x.kids.length ≤ 1048576 ∧ x.alts.length ≤ 1048576 ∧ ∀ a ∈ x.alts, a.binds.length ≤ 1048576) : ∀ (n i : Nat) (t : LTr), i < n → lts[i]? = some t → okL t
  | 0, i, t, hi, _ => by omega
  | n + 1, i, t, hi, ht => by
    have hil : i < e.length := by rw [← h.len]; exact (List.getElem?_eq_some_iff.1 ht).1
    obtain ⟨x, hx⟩ := get_of_lt hil
    obtain ⟨id, nb, a, h1, h2, h3, h4⟩ := h.at_ i x hx
    obtain ⟨s1, s2, s3, s4⟩ := hs x (List.mem_of_getElem? hx)
    rw [ht] at h1
    cases h1
    refine ⟨fun _ => h3, s1, by simpa using s2, by have := congrArg List.length h2; simp at this; omega, fun y hy => ⟨h4 y hy, ?_⟩, okLs_iff.2 fun u hu => ?_⟩
    · exact s4 y.er (by rw [← h2]; exact List.mem_map_of_mem hy)
    · obtain ⟨q, hq, rfl⟩ := List.mem_map.1 hu
      have hq' := hk i x hx q hq
      obtain ⟨t', ht'⟩ := get_of_lt (l := lts) (i := q.toNat) (by rw [h.len]; omega)
      rw [h.getD ht']
      exact h.ok hk hs n q.toNat t' (by omega) ht'
end
end Go.Proofs.YtnonkoeknpmcjaaDoor
/- Grow, walked: the tree is handed on, each node owned. -/
namespace Go.Proofs.YtnonkoeknpmcjaaDoor
open Go Go.Abs Go.CoreX
set_option maxRecDepth 10000
set_option linter.unusedVariables false
set_option linter.unusedSimpArgs false
variable {Γ : List (Nat × List AC)}
/-- Pointers to own nodes, the first ones laid. -/
def nodesL (ts : List LTr) (n : Nat) : List AC := ts.map (fun t => .ptr (.o t.id) 0) ++ List.replicate (n - ts.length) (.lit (.pointer none))
theorem nodesL_nil (n : Nat) : nodesL [] n = List.replicate n (.lit (.pointer none)) := by simp [nodesL]
theorem nodesL_len {ts : List LTr} {n : Nat} (h : ts.length ≤ n) : (nodesL ts n).length = n := by simp [nodesL]; omega
theorem nodesL_get {ts : List LTr} {n k : Nat} {t : LTr} (h : ts[k]? = some t) : (nodesL ts n)[k]? = some (.ptr (.o t.id) 0) := by
  have hk := (List.getElem?_eq_some_iff.1 h).1
  unfold nodesL
  rw [List.getElem?_append_left (by simpa using hk)]
  simp [h]
theorem nodesL_set {ts : List LTr} {n : Nat} (h : ts.length < n) (t : LTr) : (nodesL ts n).set ts.length (.ptr (.o t.id) 0) = nodesL (ts ++ [t]) n := by
  unfold nodesL
  rw [List.set_append_right _ _ (by simp)]
  simp only [List.length_map, Nat.sub_self, List.map_append, List.map_cons, List.map_nil, List.append_assoc, List.length_append, List.length_singleton]
  congr 1
  rw [show n - ts.length = (n - (ts.length + 1)) + 1 by omega, List.replicate_succ]
  rfl
theorem ids_nodesL (p : Abs.Id → Prop) (hp : ∀ k, p (.o k)) (ts : List LTr) (n : Nat) : idsL p (nodesL ts n) := by
  refine idsL_app ?_ (ids_zs p _ _)
  induction ts with
  | nil => trivial
  | cons t ts ih => exact ⟨hp _, ih⟩
@[simp] theorem ids_nodesL_l (k : Nat) (ts : List LTr) (n : Nat) : idsL (inL k) (nodesL ts n) := ids_nodesL _ (fun _ => trivial) ts n
@[simp] theorem ids_nodesL_o (ts : List LTr) (n : Nat) : idsL isO (nodesL ts n) := ids_nodesL _ (fun _ => trivial) ts n
theorem kC_snoc (l : List LTr) (t : LTr) : kC (l ++ [t]) = kC l ++ [[.ptr (.o t.id) 0]] := by simp [kC]
def kidsL (ts : List LTr) (ks : List Int) : List LTr := ks.map fun k => ts.getD k.toNat default
theorem kidsL_succ {ts : List LTr} {ks : List Int} {i : Nat} {k : Int} (h : ks[i]? = some k) : kidsL ts (ks.take (i + 1)) = kidsL ts (ks.take i) ++ [ts.getD k.toNat default] := by
  simp [kidsL, List.take_add_one, h]
@[simp] theorem ids_kC_l (k : Nat) (ts : List LTr) : idsS (inL k) (kC ts) := ids_kC _ (fun _ => trivial) ts
@[simp] theorem ids_kC_o (ts : List LTr) : idsS isO (kC ts) := ids_kC _ (fun _ => trivial) ts
@[simp] theorem ids_lAlts_l (k : Nat) (l : List LAlt) : idsS (inL k) (l.map lAlt) := ids_lAlts _ (fun _ => trivial) l
@[simp] theorem ids_lAlts_o (l : List LAlt) : idsS isO (l.map lAlt) := ids_lAlts _ (fun _ => trivial) l
@[simp] theorem ids_bC_l (k : Nat) (nb : Nb) (l : List Int) : (bC nb l).ids (inL k) := ids_bC _ (fun _ => trivial) nb l
@[simp] theorem ids_bC_o (nb : Nb) (l : List Int) : (bC nb l).ids isO := ids_bC _ (fun _ => trivial) nb l
@[simp] theorem ren_kC (ρ : Nat → Nat) (l : List LTr) : renS ρ (kC l) = kC l := renS_pure ρ _ (ids_kC_o l)
@[simp] theorem ren_lAlts (ρ : Nat → Nat) (l : List LAlt) : renS ρ (l.map lAlt) = l.map lAlt := renS_pure ρ _ (ids_lAlts_o l)
@[simp] theorem ren_bC (ρ : Nat → Nat) (nb : Nb) (l : List Int) : (bC nb l).ren ρ = bC nb l := by cases nb <;> simp [bC, AC.ren, Abs.Id.ren]
theorem NewO.add {ou : Outer} {k : Nat} {o : AObj} (hk : ∀ m, k ≤ m → ou m = none) (hou : OuOk ou) (ho : o.ids isO) : NewO ou (ouAdd ou k [o]) [(k, o)] := by
  refine ⟨fun p hp => ?_, fun j hj => ?_, fun m hm => ?_, ouAdd_ok hou fun q hq => by simp at hq; subst hq; exact ho, by simp [keys]⟩
  · simp at hp; subst hp
    exact ouAdd_new 0
  · simp [keys] at hj; subst hj; exact hk _ (Nat.le_refl _)
  · simp [keys] at hm
    rcases Nat.lt_or_ge m k with h1 | h1
    · exact ouAdd_old h1
    · obtain ⟨p, rfl⟩ : ∃ p, m = k + p := ⟨m - k, by omega⟩
      rw [ouAdd_new, hk _ h1]
      cases p with
      | zero => simp at hm
      | succ p => simp
def GrowQ (e : List Ex) (ou : Outer) (r : FV) (ou' : Outer) : Prop := ∃ t : LTr, r = .one (.ptr (.o t.id) 0) ∧ erT t = grow e ∧ okL t ∧ Owns ou' (objs t) ∧ (keys (objs t)).Nodup ∧ (∀ k ∈ keys (objs t), ou k = none) ∧ OuOk ou' ∧ ∀ j o, ou j = some o → ou' j = some o
set_option maxHeartbeats 1000000 in
theorem GrowN_ok (hΓ : ∀ g cs, (g, cs) ∈ Γ → idsL isO cs) (e : List Ex) (he : okE e) (hin : kidsIn e) (hT : IsTree e) (ou : Outer) : AFn Tryd.prog Γ 31 [.one (.sl 5 (e.map cEx))] ou (GrowQ e ou) := by
  have hel := he.l
  refine AFn.walk 85 tabOk Tryd.func31 rfl (by kernel_rfl) rfl rfl fun hou => ?_
  repeat first | (with_reducible refine oj ?_; refine AOps.auto tabOk rfl ?_) | (with_reducible first | refine o1 ?_ | refine o2 ?_ | refine o3 ?_ | refine o4 ?_ | refine o5 ?_ | refine o6 ?_ | refine o7 ?_ | refine o8 ?_ | refine o9 ?_ | refine oa ?_ | refine ob ?_ | refine oc ?_ | refine od ?_ | refine oe ?_ | refine og ?_ | refine oh ?_ | refine oi ?_) | (with_reducible refine cExitMiss ?_ ?_; rfl) | (with_reducible refine ok ?_; first | refine ACode.condT rfl ?_ | refine ACode.condF rfl ?_)
  have hb : ti56.bytes * (e.map cEx).length ≤ 281474976710656 := by simp; show 8 * _ ≤ _; omega
  have hb2 : (e.map cEx).length ≤ 281474976710656 := by simp; omega
  refine AOps.step1 rfl rfl rfl (AStep.makeArr tabOk rfl rfl rfl rfl rfl rfl rfl rfl hb hb2) ?_
  repeat first | (with_reducible refine oj ?_; refine AOps.auto tabOk rfl ?_) | (with_reducible first | refine o1 ?_ | refine o2 ?_ | refine o3 ?_ | refine o4 ?_ | refine o5 ?_ | refine o6 ?_ | refine o7 ?_ | refine o8 ?_ | refine o9 ?_ | refine oa ?_ | refine ob ?_ | refine oc ?_ | refine od ?_ | refine oe ?_ | refine og ?_ | refine oh ?_ | refine oi ?_) | (with_reducible refine cExitMiss ?_ ?_; rfl) | (with_reducible refine ok ?_; first | refine ACode.condT rfl ?_ | refine ACode.condF rfl ?_)
  refine ACode.loopR hΓ (α := Nat × List LTr × Outer) (fun c => [(16, .one (int c.1)), (15, .one (int (e.map cEx).length)), (14, .one (.sl 5 (e.map cEx))), (3, .one (.arr (.l 0) 1 0 (e.map cEx).length (e.map cEx).length)), (0, .one (.sl 5 (e.map cEx)))])
    (fun c => ⟨1, [(0, .cells (nodesL c.2.1 (e.map cEx).length))], c.2.2⟩) (fun m c => c.1 ≤ e.length ∧ (LinkL (e.take c.1) c.2.1 ∧ NewO ou c.2.2 (c.2.1.flatMap ownO)) ∧ m = e.length - c.1) (a0 := (0, [], ou)) (ρ := id) ⟨by omega, ⟨LinkL.nil, .nil hou⟩, rfl⟩
    (LessR.of rfl (by (repeat' first | exact FrSub.nil | refine FrSub.cons rfl (.ofEq rfl) ?_ | refine FrSub.oa rfl rfl ?_ | refine FrSub.consP rfl (.ofEq rfl) (by simp) ?_)) (by simp) (LoSub.cons rfl (by rw [AObj.ren_pure _ _ (by simp)]; show AObj.cells (List.replicate _ _) = AObj.cells (nodesL [] _); rw [nodesL_nil]) rfl (by simp) .nil) rfl rfl hou) fun m c hc => ?_
  obtain ⟨j, lts, ov⟩ := c
  obtain ⟨hjl, ⟨hL, hN⟩, rfl⟩ := hc
  dsimp only at hjl hL hN
  have hov := hN.ok
  repeat first | (with_reducible refine oj ?_; refine AOps.auto tabOk rfl ?_) | (with_reducible first | refine o1 ?_ | refine o2 ?_ | refine o3 ?_ | refine o4 ?_ | refine o5 ?_ | refine o6 ?_ | refine o7 ?_ | refine o8 ?_ | refine o9 ?_ | refine oa ?_ | refine ob ?_ | refine oc ?_ | refine od ?_ | refine oe ?_ | refine og ?_ | refine oh ?_ | refine oi ?_) | (with_reducible refine cExitMiss ?_ ?_; rfl) | (with_reducible refine ok ?_; first | refine ACode.condT rfl ?_ | refine ACode.condF rfl ?_)
  refine ACode.cond rfl (fun hb2 => ?_) (fun hb2 => ?_)
  · have hlt : j < e.length := by simpa using hb2
    obtain ⟨x, hx⟩ := get_of_lt hlt
    have hxo := he.x x (List.mem_of_getElem? hx)
    have hxk := hxo.k
    have hxa := hxo.a
    have hxin := hin j x hx
    have hgl : lts.length = j := by rw [hL.len]; simp; omega
    repeat first | (with_reducible refine oj ?_; refine AOps.auto tabOk rfl ?_) | (with_reducible first | refine o1 ?_ | refine o2 ?_ | refine o3 ?_ | refine o4 ?_ | refine o5 ?_ | refine o6 ?_ | refine o7 ?_ | refine o8 ?_ | refine o9 ?_ | refine oa ?_ | refine ob ?_ | refine oc ?_ | refine od ?_ | refine oe ?_ | refine og ?_ | refine oh ?_ | refine oi ?_) | (with_reducible refine cExitMiss ?_ ?_; rfl) | (with_reducible refine ok ?_; first | refine ACode.condT rfl ?_ | refine ACode.condF rfl ?_)
    refine AOps.step1 rfl rfl rfl (AStep.indexAddr tabOk rfl rfl rfl rfl rfl rfl (.inl rfl) rfl (by omega) (map_get hx)) ?_
    repeat first | (with_reducible refine oj ?_; refine AOps.auto tabOk rfl ?_) | (with_reducible first | refine o1 ?_ | refine o2 ?_ | refine o3 ?_ | refine o4 ?_ | refine o5 ?_ | refine o6 ?_ | refine o7 ?_ | refine o8 ?_ | refine o9 ?_ | refine oa ?_ | refine ob ?_ | refine oc ?_ | refine od ?_ | refine oe ?_ | refine og ?_ | refine oh ?_ | refine oi ?_) | (with_reducible refine cExitMiss ?_ ?_; rfl) | (with_reducible refine ok ?_; first | refine ACode.condT rfl ?_ | refine ACode.condF rfl ?_)
    refine ACode.drawC tabOk 9 [6, 7, 8] [] (fun vs σ => match vs with
        | [] => σ = ⟨2, [(1, .cells (cEx x)), (1, .cells (ti35.zero.map .lit)), (0, .cells (nodesL lts (e.map cEx).length))], ov⟩
        | [a] => ∃ nb ow, ownB nb x.binds ∧ NewO ov ow (bO nb x.binds) ∧ a = .one (bC nb x.binds) ∧ σ = ⟨2, [(1, .cells (cEx x)), (1, .cells (ti35.zero.map .lit)), (0, .cells (nodesL lts (e.map cEx).length))], ow⟩
        | [a, b] => ∃ nb ow, ownB nb x.binds ∧ NewO ov ow (bO nb x.binds) ∧ a = .one (bC nb x.binds) ∧ b = .agg [int x.op, int x.n, bC nb x.binds, .lit (.slice none 0 0), .lit (.slice none 0 0)] ∧ σ = ⟨2, [(1, .cells (cEx x)), (1, .cells (ti35.zero.map .lit)), (0, .cells (nodesL lts (e.map cEx).length))], ow⟩
        | [a, b, c] => ∃ nb ow, ownB nb x.binds ∧ NewO ov ow (bO nb x.binds) ∧ a = .one (bC nb x.binds) ∧ b = .agg [int x.op, int x.n, bC nb x.binds, .lit (.slice none 0 0), .lit (.slice none 0 0)] ∧ c = .one (.ptr (.l 2) 0) ∧ σ = ⟨3, [(2, .cells [int x.op, int x.n, bC nb x.binds, .lit (.slice none 0 0), .lit (.slice none 0 0)]), (1, .cells (cEx x)), (1, .cells (ti35.zero.map .lit)), (0, .cells (nodesL lts (e.map cEx).length))], ow⟩
        | _ => False) follows (by kernel_rfl) rfl rfl (by decide) (by kernel_rfl) (by kernel_rfl) rfl rfl ?_ (fun _ _ _ => .nil) (by decide) ?_ ?_
    · rintro vs σ hG
      match vs, hG with
      | [], hG => subst hG; rfl
      | [a], hG => obtain ⟨nb, ow, _, _, _, rfl⟩ := hG; rfl
      | [a, b], hG => obtain ⟨nb, ow, _, _, _, _, rfl⟩ := hG; rfl
      | [a, b, c], hG => obtain ⟨nb, ow, _, _, _, _, _, rfl⟩ := hG; rfl
    · rintro vs σ hG i o hi ho
      match vs, hG with
      | [], hG =>
        subst hG
        cases hi
        cases ho
        refine ⟨rfl, rfl, .inr ⟨rfl, AStepR.call hΓ rfl rfl rfl rfl (by simp) hov (CloneN_ok x.binds hxo.b ov) fun r ow hq _ _ => ?_⟩⟩
        obtain ⟨nb, h1, rfl, h2⟩ := hq
        exact ⟨nb, ow, h1, h2, rfl, rfl⟩
      | [a], hG =>
        obtain ⟨nb, ow, h1, h2, rfl, rfl⟩ := hG
        cases hi
        cases ho
        exact ⟨rfl, rfl, .inl ⟨_, _, HStep.auto tabOk rfl, nb, ow, h1, h2, rfl, rfl, rfl⟩⟩
      | [a, b], hG =>
        obtain ⟨nb, ow, h1, h2, rfl, rfl, rfl⟩ := hG
        cases hi
        cases ho
        exact ⟨rfl, rfl, .inl ⟨_, _, HStep.auto tabOk rfl, nb, ow, h1, h2, rfl, rfl, rfl, rfl⟩⟩
      | [a, b, c], hG => cases hi
    rintro vs σ hlen hG
    match vs, hlen, hG with
    | [a, b, c], _, hG =>
    obtain ⟨nb, ow, hnb, hNb, rfl, rfl, rfl, rfl⟩ := hG
    have how := hNb.ok
    repeat first | (with_reducible refine oj ?_; refine AOps.auto tabOk rfl ?_) | (with_reducible first | refine o1 ?_ | refine o2 ?_ | refine o3 ?_ | refine o4 ?_ | refine o5 ?_ | refine o6 ?_ | refine o7 ?_ | refine o8 ?_ | refine o9 ?_ | refine oa ?_ | refine ob ?_ | refine oc ?_ | refine od ?_ | refine oe ?_ | refine og ?_ | refine oh ?_ | refine oi ?_) | (with_reducible refine cExitMiss ?_ ?_; rfl) | (with_reducible refine ok ?_; first | refine ACode.condT rfl ?_ | refine ACode.condF rfl ?_)
    refine ACode.grow 2 3 56 1 rfl rfl ?_
    refine ACode.loopR hΓ (α := Nat) (fun i => [(33, .one (int i)), (32, .one (int (x.kids.map cI).length)), (31, .one (.sl 1 (x.kids.map cI))), (6, .one (.ptr (.l 2) 0)), (5, .one (.ptr (.l 1) 0)), (4, .one (int j)), (16, .one (int j)), (15, .one (int (e.map cEx).length)), (14, .one (.sl 5 (e.map cEx))), (3, .one (.arr (.l 0) 1 0 (e.map cEx).length (e.map cEx).length)), (0, .one (.sl 5 (e.map cEx)))])
      (fun i => ⟨4, [(3, .tok 56 1 i), (2, .cells [int x.op, int x.n, bC nb x.binds, .gs 1 (kC (kidsL lts (x.kids.take i))) (.l 3), .lit (.slice none 0 0)]), (1, .cells (cEx x)), (0, .cells (nodesL lts (e.map cEx).length))], ow⟩)
      (fun m i => i ≤ x.kids.length ∧ m = x.kids.length - i) (a0 := 0) (ρ := id) ⟨by omega, rfl⟩ (LessR.of rfl (by (repeat' first | exact FrSub.nil | refine FrSub.cons rfl (.ofEq rfl) ?_ | refine FrSub.oa rfl rfl ?_ | refine FrSub.consP rfl (.ofEq rfl) (by simp) ?_)) (by simp) ?_ rfl rfl how) fun m i hi => ?_
    · repeat' first | exact LoSub.nil | refine LoSub.cons rfl ?_ rfl (by first | (simp; done) | exact ids_oaO (by simp)) ?_ | rfl | (refine (AObj.ren_pure _ _ ?_).symm; simp; done) | exact (ren_oaO _ _ _ _ fun _ => ids_vec (by simp; done)).symm | (simp [AObj.ren, renL, AC.ren]; done) | (simp [AObj.ren, renL, AC.ren]; rfl)
      all_goals (simp [AObj.ren, renL, AC.ren, kidsL]; exact ⟨rfl, rfl⟩)
    obtain ⟨hil, rfl⟩ := hi
    repeat first | (with_reducible refine oj ?_; refine AOps.auto tabOk rfl ?_) | (with_reducible first | refine o1 ?_ | refine o2 ?_ | refine o3 ?_ | refine o4 ?_ | refine o5 ?_ | refine o6 ?_ | refine o7 ?_ | refine o8 ?_ | refine o9 ?_ | refine oa ?_ | refine ob ?_ | refine oc ?_ | refine od ?_ | refine oe ?_ | refine og ?_ | refine oh ?_ | refine oi ?_) | (with_reducible refine cExitMiss ?_ ?_; rfl) | (with_reducible refine ok ?_; first | refine ACode.condT rfl ?_ | refine ACode.condF rfl ?_)
    refine ACode.cond rfl (fun hb3 => ?_) (fun hb3 => ?_)
    · have hlt2 : i < x.kids.length := by simpa using hb3
      obtain ⟨k, hk⟩ := get_of_lt hlt2
      have hkb := hxin k (List.mem_of_getElem? hk)
      obtain ⟨k', rfl⟩ : ∃ k' : Nat, k = k' := ⟨k.toNat, by omega⟩
      obtain ⟨tk, htk⟩ := get_of_lt (l := lts) (i := k') (by omega)
      have htd : (lts).getD (k' : Int).toNat default = tk := by rw [Int.toNat_natCast, List.getD_eq_getElem?_getD, htk]; rfl
      have hks := kidsL_succ (ts := lts) hk
      rw [htd] at hks
      have hkl : (kC (kidsL lts (x.kids.take i))).length = i := by simp [kC, kidsL]; omega
      repeat first | (with_reducible refine oj ?_; refine AOps.auto tabOk rfl ?_) | (with_reducible first | refine o1 ?_ | refine o2 ?_ | refine o3 ?_ | refine o4 ?_ | refine o5 ?_ | refine o6 ?_ | refine o7 ?_ | refine o8 ?_ | refine o9 ?_ | refine oa ?_ | refine ob ?_ | refine oc ?_ | refine od ?_ | refine oe ?_ | refine og ?_ | refine oh ?_ | refine oi ?_) | (with_reducible refine cExitMiss ?_ ?_; rfl) | (with_reducible refine ok ?_; first | refine ACode.condT rfl ?_ | refine ACode.condF rfl ?_)
      refine AOps.step1 rfl rfl rfl (AStep.indexAddr tabOk rfl rfl rfl rfl rfl rfl (.inl rfl) rfl (by omega) (map_get hk)) ?_
      repeat first | (with_reducible refine oj ?_; refine AOps.auto tabOk rfl ?_) | (with_reducible first | refine o1 ?_ | refine o2 ?_ | refine o3 ?_ | refine o4 ?_ | refine o5 ?_ | refine o6 ?_ | refine o7 ?_ | refine o8 ?_ | refine o9 ?_ | refine oa ?_ | refine ob ?_ | refine oc ?_ | refine od ?_ | refine oe ?_ | refine og ?_ | refine oh ?_ | refine oi ?_) | (with_reducible refine cExitMiss ?_ ?_; rfl) | (with_reducible refine ok ?_; first | refine ACode.condT rfl ?_ | refine ACode.condF rfl ?_)
      refine ACode.drawXH (va := .one (.gs 1 (kC (kidsL lts (x.kids.take i)) ++ [[AC.ptr (.o tk.id) 0]]) (.l 4))) (σ1 := ((St.mk 4 [(3, .tok 56 1 i), (2, .cells [int x.op, int x.n, bC nb x.binds, .gs 1 (kC (kidsL lts (x.kids.take i))) (.l 3), .lit (.slice none 0 0)]), (1, .cells (cEx x)), (0, .cells (nodesL lts (e.map cEx).length))] ow).set (.l 3) .dead).push (.tok 56 1 (kC (kidsL lts (x.kids.take i)) ++ [[AC.ptr (.o tk.id) 0]]).length))
        tabOk 11 10 [(7, .one (.ptr (.l 0) k')), (8, .one (.ptr (.o tk.id) 0))] follows (by kernel_rfl) rfl rfl rfl rfl rfl rfl rfl ?_ ?_ ?_ ?_
      · refine HStep.plain rfl (AStep.append (s := 1) (es := kC (kidsL lts (x.kids.take i))) (news := [[AC.ptr (.o tk.id) 0]]) (ti := ti74) (σ := ⟨4, [(3, .tok 56 1 i), (2, .cells [int x.op, int x.n, bC nb x.binds, .gs 1 (kC (kidsL lts (x.kids.take i))) (.l 3), .lit (.slice none 0 0)]), (1, .cells (cEx x)), (0, .cells (nodesL lts (e.map cEx).length))], ow⟩) tabOk rfl rfl rfl rfl rfl rfl (Base.gs' _ 56 1 (kC (kidsL lts (x.kids.take i))) (.l 3) rfl hkl.symm) (.sl _ _) rfl ?_ ?_)
        · rw [hkl]; show (i + 1) * 8 ≤ _; omega
        · rw [hkl]; show i + 1 ≤ _; omega
      · refine .step rfl (HStep.plain rfl (idxI tabOk rfl rfl rfl rfl rfl rfl rfl (by simp; omega))) ?_
        exact .step rfl (HStep.plain rfl (AStep.loadOwn tabOk rfl rfl rfl rfl rfl rfl (nodesL_get htk))) .nil
      · refine .step rfl (HStep.plain rfl (idxI tabOk rfl rfl rfl rfl rfl rfl rfl (by simp; omega))) ?_
        exact .step rfl (HStep.plain rfl (AStep.loadOwn tabOk rfl rfl rfl rfl rfl rfl (nodesL_get htk))) .nil
      repeat' first | (with_reducible refine oj ?_; refine AOps.auto tabOk rfl ?_) | (with_reducible first | refine o1 ?_ | refine o2 ?_ | refine o3 ?_ | refine o4 ?_ | refine o5 ?_ | refine o6 ?_ | refine o7 ?_ | refine o8 ?_ | refine o9 ?_ | refine oa ?_ | refine ob ?_ | refine oc ?_ | refine od ?_ | refine oe ?_ | refine og ?_ | refine oh ?_ | refine oi ?_) | (with_reducible refine cExitMiss ?_ ?_; rfl) | (with_reducible refine ok ?_; first | refine ACode.condT rfl ?_ | refine ACode.condF rfl ?_) | (with_reducible refine oj ?_; first | refine AOps.step1 rfl rfl rfl (AStep.arith rfl rfl rfl (.inl ⟨rfl, rfl⟩) (inRange_i64 (by first | omega | (simp; omega)) (by first | omega | (simp; omega)))) ?_ | refine AOps.step1 rfl rfl rfl (AStep.arith rfl rfl rfl (.inr (.inl ⟨rfl, rfl⟩)) (inRange_i64 (by first | omega | (simp; omega)) (by first | omega | (simp; omega)))) ?_ | refine AOps.step1 rfl rfl rfl (AStep.neBool Tryd.underlying4 rfl rfl rfl) ?_ | refine AOps.step1 rfl rfl rfl (AStep.eqBool Tryd.underlying4 rfl rfl rfl) ?_ | refine AOps.step1 rfl rfl rfl (AStep.max2 (t := 3) (ty := 3) rfl rfl rfl) ?_ | refine AOps.step1 rfl rfl rfl (AStep.min2 (t := 3) (ty := 3) rfl rfl rfl) ?_ | refine AOps.unG rfl rfl rfl ?_)
      refine cInv ⟨x.kids.length - (i + 1), i + 1, fun k => if k = 3 then 4 else k, by omega, ⟨by omega, rfl⟩, LessR.of rfl (by (repeat' first | exact FrSub.nil | refine FrSub.cons rfl (.ofEq rfl) ?_ | refine FrSub.oa rfl rfl ?_ | refine FrSub.consP rfl (.ofEq rfl) (by simp) ?_)) (by simp) ?_ rfl rfl how⟩
      repeat' first | exact LoSub.nil | refine LoSub.cons rfl ?_ rfl (by first | (simp; done) | exact ids_oaO (by simp)) ?_ | rfl | (refine (AObj.ren_pure _ _ ?_).symm; simp; done) | exact (ren_oaO _ _ _ _ fun _ => ids_vec (by simp; done)).symm | (simp [AObj.ren, renL, AC.ren]; done) | (simp [AObj.ren, renL, AC.ren]; rfl)
      · simp only [AObj.ren, List.length_append, hkl]; rfl
      · rw [hks, kC_snoc]; simp only [AObj.ren, renL, AC.ren, ren_bC]; rw [← kC_snoc, ren_kC]; rfl
    have hlt2 : i = x.kids.length := by simp at hb3; omega
    subst hlt2
    rw [List.take_length]
    repeat first | (with_reducible refine oj ?_; refine AOps.auto tabOk rfl ?_) | (with_reducible first | refine o1 ?_ | refine o2 ?_ | refine o3 ?_ | refine o4 ?_ | refine o5 ?_ | refine o6 ?_ | refine o7 ?_ | refine o8 ?_ | refine o9 ?_ | refine oa ?_ | refine ob ?_ | refine oc ?_ | refine od ?_ | refine oe ?_ | refine og ?_ | refine oh ?_ | refine oi ?_) | (with_reducible refine cExitMiss ?_ ?_; rfl) | (with_reducible refine ok ?_; first | refine ACode.condT rfl ?_ | refine ACode.condF rfl ?_)
    refine ACode.grow 2 4 63 2 rfl rfl ?_
    refine ACode.loopR hΓ (α := Nat × Outer × List LAlt) (fun c => [(54, .one (int c.1)), (53, .one (int (x.alts.map cAlt).length)), (52, .one (.sl 2 (x.alts.map cAlt))), (6, .one (.ptr (.l 2) 0)), (4, .one (int j)), (16, .one (int j)), (15, .one (int (e.map cEx).length)), (14, .one (.sl 5 (e.map cEx))), (3, .one (.arr (.l 0) 1 0 (e.map cEx).length (e.map cEx).length)), (0, .one (.sl 5 (e.map cEx)))])
      (fun c => ⟨5, [(4, .tok 63 2 c.1), (2, .cells [int x.op, int x.n, bC nb x.binds, .gs 1 (kC (kidsL lts x.kids)) (.l 3), .gs 2 (c.2.2.map lAlt) (.l 4)]), (0, .cells (nodesL lts (e.map cEx).length))], c.2.1⟩)
      (fun m c => c.1 ≤ x.alts.length ∧ (c.2.2.map LAlt.er = x.alts.take c.1 ∧ (∀ y ∈ c.2.2, ownB y.nb y.binds) ∧ NewO ow c.2.1 (aO c.2.2)) ∧ m = x.alts.length - c.1) (a0 := (0, ow, [])) (ρ := id) ⟨by omega, ⟨rfl, by simp, .nil how⟩, rfl⟩ (LessR.of rfl (by (repeat' first | exact FrSub.nil | refine FrSub.cons rfl (.ofEq rfl) ?_ | refine FrSub.oa rfl rfl ?_ | refine FrSub.consP rfl (.ofEq rfl) (by simp) ?_)) (by simp) ?_ rfl rfl how) fun m c hc => ?_
    · repeat' first | exact LoSub.nil | refine LoSub.cons rfl ?_ rfl (by first | (simp; done) | exact ids_oaO (by simp)) ?_ | rfl | (refine (AObj.ren_pure _ _ ?_).symm; simp; done) | exact (ren_oaO _ _ _ _ fun _ => ids_vec (by simp; done)).symm | (simp [AObj.ren, renL, AC.ren]; done) | (simp [AObj.ren, renL, AC.ren]; rfl)
      all_goals (simp [AObj.ren, renL, AC.ren]; exact ⟨rfl, rfl⟩)
    obtain ⟨i, oy, la⟩ := c
    obtain ⟨hil, ⟨hla, hlo, hNa⟩, rfl⟩ := hc
    dsimp only at hil hla hlo hNa
    have hoy := hNa.ok
    have hll : la.length = i := by have := congrArg List.length hla; simp at this; omega
    have hal : (la.map lAlt).length = i := by simp [hll]
    repeat first | (with_reducible refine oj ?_; refine AOps.auto tabOk rfl ?_) | (with_reducible first | refine o1 ?_ | refine o2 ?_ | refine o3 ?_ | refine o4 ?_ | refine o5 ?_ | refine o6 ?_ | refine o7 ?_ | refine o8 ?_ | refine o9 ?_ | refine oa ?_ | refine ob ?_ | refine oc ?_ | refine od ?_ | refine oe ?_ | refine og ?_ | refine oh ?_ | refine oi ?_) | (with_reducible refine cExitMiss ?_ ?_; rfl) | (with_reducible refine ok ?_; first | refine ACode.condT rfl ?_ | refine ACode.condF rfl ?_)
    refine ACode.cond rfl (fun hb3 => ?_) (fun hb3 => ?_)
    · have hlt2 : i < x.alts.length := by simpa using hb3
      obtain ⟨a, ha⟩ := get_of_lt hlt2
      repeat first | (with_reducible refine oj ?_; refine AOps.auto tabOk rfl ?_) | (with_reducible first | refine o1 ?_ | refine o2 ?_ | refine o3 ?_ | refine o4 ?_ | refine o5 ?_ | refine o6 ?_ | refine o7 ?_ | refine o8 ?_ | refine o9 ?_ | refine oa ?_ | refine ob ?_ | refine oc ?_ | refine od ?_ | refine oe ?_ | refine og ?_ | refine oh ?_ | refine oi ?_) | (with_reducible refine cExitMiss ?_ ?_; rfl) | (with_reducible refine ok ?_; first | refine ACode.condT rfl ?_ | refine ACode.condF rfl ?_)
      refine AOps.step1 rfl rfl rfl (AStep.indexAddr tabOk rfl rfl rfl rfl rfl rfl (.inl rfl) rfl (by omega) (map_get ha)) ?_
      repeat first | (with_reducible refine oj ?_; refine AOps.auto tabOk rfl ?_) | (with_reducible first | refine o1 ?_ | refine o2 ?_ | refine o3 ?_ | refine o4 ?_ | refine o5 ?_ | refine o6 ?_ | refine o7 ?_ | refine o8 ?_ | refine o9 ?_ | refine oa ?_ | refine ob ?_ | refine oc ?_ | refine od ?_ | refine oe ?_ | refine og ?_ | refine oh ?_ | refine oi ?_) | (with_reducible refine cExitMiss ?_ ?_; rfl) | (with_reducible refine ok ?_; first | refine ACode.condT rfl ?_ | refine ACode.condF rfl ?_)
      refine ACode.drawC tabOk 13 [9, 10, 11, 12] [] (fun vs σ => match vs with
          | [] => σ = ⟨6, [(5, .cells (cAlt a)), (5, .cells (ti63.zero.map .lit)), (4, .tok 63 2 i), (2, .cells [int x.op, int x.n, bC nb x.binds, .gs 1 (kC (kidsL lts x.kids)) (.l 3), .gs 2 (la.map lAlt) (.l 4)]), (0, .cells (nodesL lts (e.map cEx).length))], oy⟩
          | [q1] => ∃ nc oz, ownB nc a.binds ∧ NewO oy oz (bO nc a.binds) ∧ q1 = .one (bC nc a.binds) ∧ σ = ⟨6, [(5, .cells (cAlt a)), (5, .cells (ti63.zero.map .lit)), (4, .tok 63 2 i), (2, .cells [int x.op, int x.n, bC nb x.binds, .gs 1 (kC (kidsL lts x.kids)) (.l 3), .gs 2 (la.map lAlt) (.l 4)]), (0, .cells (nodesL lts (e.map cEx).length))], oz⟩
          | [q1, q2] => ∃ nc oz, ownB nc a.binds ∧ NewO oy oz (bO nc a.binds) ∧ q1 = .one (bC nc a.binds) ∧ q2 = .agg [int a.tag, bC nc a.binds] ∧ σ = ⟨6, [(5, .cells (cAlt a)), (5, .cells (ti63.zero.map .lit)), (4, .tok 63 2 i), (2, .cells [int x.op, int x.n, bC nb x.binds, .gs 1 (kC (kidsL lts x.kids)) (.l 3), .gs 2 (la.map lAlt) (.l 4)]), (0, .cells (nodesL lts (e.map cEx).length))], oz⟩
          | [q1, q2, q3] => ∃ nc oz, ownB nc a.binds ∧ NewO oy oz (bO nc a.binds) ∧ q1 = .one (bC nc a.binds) ∧ q2 = .agg [int a.tag, bC nc a.binds] ∧ q3 = .one (.sl 2 [[int a.tag, bC nc a.binds]]) ∧ σ = ⟨6, [(5, .cells (cAlt a)), (5, .cells (ti63.zero.map .lit)), (4, .tok 63 2 i), (2, .cells [int x.op, int x.n, bC nb x.binds, .gs 1 (kC (kidsL lts x.kids)) (.l 3), .gs 2 (la.map lAlt) (.l 4)]), (0, .cells (nodesL lts (e.map cEx).length))], oz⟩
          | [q1, q2, q3, q4] => ∃ nc oz, ownB nc a.binds ∧ NewO oy oz (bO nc a.binds) ∧ q1 = .one (bC nc a.binds) ∧ q2 = .agg [int a.tag, bC nc a.binds] ∧ q3 = .one (.sl 2 [[int a.tag, bC nc a.binds]]) ∧ q4 = .one (.gs 2 (la.map lAlt ++ [[int a.tag, bC nc a.binds]]) (.l 6)) ∧ σ = ⟨7, [(6, .tok 63 2 (la.map lAlt ++ [[int a.tag, bC nc a.binds]]).length), (4, .dead), (5, .cells (cAlt a)), (5, .cells (ti63.zero.map .lit)), (4, .tok 63 2 i), (2, .cells [int x.op, int x.n, bC nb x.binds, .gs 1 (kC (kidsL lts x.kids)) (.l 3), .gs 2 (la.map lAlt) (.l 4)]), (0, .cells (nodesL lts (e.map cEx).length))], oz⟩
          | _ => False) follows (by kernel_rfl) rfl rfl (by decide) (by kernel_rfl) (by kernel_rfl) rfl rfl ?_ (fun _ _ _ => .nil) (by decide) ?_ ?_
      · rintro vs σ hG
        match vs, hG with
        | [], hG => subst hG; rfl
        | [_], hG => obtain ⟨nc, oz, _, _, _, rfl⟩ := hG; rfl
        | [_, _], hG => obtain ⟨nc, oz, _, _, _, _, rfl⟩ := hG; rfl
        | [_, _, _], hG => obtain ⟨nc, oz, _, _, _, _, _, rfl⟩ := hG; rfl
        | [_, _, _, _], hG => obtain ⟨nc, oz, _, _, _, _, _, _, rfl⟩ := hG; rfl
      · rintro vs σ hG q o hi ho
        match vs, hG with
        | [], hG =>
          subst hG
          cases hi
          cases ho
          refine ⟨rfl, rfl, .inr ⟨rfl, AStepR.call hΓ rfl rfl rfl rfl (by simp) hoy (CloneN_ok a.binds (hxo.ab a (List.mem_of_getElem? ha)) oy) fun r oz hq _ _ => ?_⟩⟩
          obtain ⟨nc, h1, rfl, h2⟩ := hq
          exact ⟨nc, oz, h1, h2, rfl, rfl⟩
        | [_], hG =>
          obtain ⟨nc, oz, h1, h2, rfl, rfl⟩ := hG
          cases hi
          cases ho
          exact ⟨rfl, rfl, .inl ⟨_, _, HStep.auto tabOk rfl, nc, oz, h1, h2, rfl, rfl, rfl⟩⟩
        | [_, _], hG =>
          obtain ⟨nc, oz, h1, h2, rfl, rfl, rfl⟩ := hG
          cases hi
          cases ho
          exact ⟨rfl, rfl, .inl ⟨_, _, HStep.auto tabOk rfl, nc, oz, h1, h2, rfl, rfl, rfl, rfl⟩⟩
        | [_, _, _], hG =>
          obtain ⟨nc, oz, h1, h2, rfl, rfl, rfl, rfl⟩ := hG
          cases hi
          cases ho
          refine ⟨rfl, rfl, .inl ⟨_, _, HStep.plain rfl (AStep.append (s := 2) (es := la.map lAlt) (news := [[int a.tag, bC nc a.binds]]) (ti := ti33) tabOk rfl rfl rfl rfl rfl rfl (Base.gs' _ 63 2 (la.map lAlt) (.l 4) rfl hal.symm) (.sl _ _) rfl ?_ ?_), nc, oz, h1, h2, rfl, rfl, rfl, rfl, rfl⟩⟩
          · rw [hal]; show (i + 1) * 32 ≤ _; omega
          · rw [hal]; show i + 1 ≤ _; omega
        | [_, _, _, _], hG => cases hi
      rintro vs σ hlen hG
      match vs, hlen, hG with
      | [_, _, _, _], _, hG =>
      obtain ⟨nc, oz, hnc, hNc, rfl, rfl, rfl, rfl, rfl⟩ := hG
      repeat' first | (with_reducible refine oj ?_; refine AOps.auto tabOk rfl ?_) | (with_reducible first | refine o1 ?_ | refine o2 ?_ | refine o3 ?_ | refine o4 ?_ | refine o5 ?_ | refine o6 ?_ | refine o7 ?_ | refine o8 ?_ | refine o9 ?_ | refine oa ?_ | refine ob ?_ | refine oc ?_ | refine od ?_ | refine oe ?_ | refine og ?_ | refine oh ?_ | refine oi ?_) | (with_reducible refine cExitMiss ?_ ?_; rfl) | (with_reducible refine ok ?_; first | refine ACode.condT rfl ?_ | refine ACode.condF rfl ?_) | (with_reducible refine oj ?_; first | refine AOps.step1 rfl rfl rfl (AStep.arith rfl rfl rfl (.inl ⟨rfl, rfl⟩) (inRange_i64 (by first | omega | (simp; omega)) (by first | omega | (simp; omega)))) ?_ | refine AOps.step1 rfl rfl rfl (AStep.arith rfl rfl rfl (.inr (.inl ⟨rfl, rfl⟩)) (inRange_i64 (by first | omega | (simp; omega)) (by first | omega | (simp; omega)))) ?_ | refine AOps.step1 rfl rfl rfl (AStep.neBool Tryd.underlying4 rfl rfl rfl) ?_ | refine AOps.step1 rfl rfl rfl (AStep.eqBool Tryd.underlying4 rfl rfl rfl) ?_ | refine AOps.step1 rfl rfl rfl (AStep.max2 (t := 3) (ty := 3) rfl rfl rfl) ?_ | refine AOps.step1 rfl rfl rfl (AStep.min2 (t := 3) (ty := 3) rfl rfl rfl) ?_ | refine AOps.unG rfl rfl rfl ?_)
      obtain ⟨la', hla'⟩ : ∃ la', la' = la ++ [⟨a.tag, nc, a.binds⟩] := ⟨_, rfl⟩
      have hlm : la.map lAlt ++ [[int a.tag, bC nc a.binds]] = la'.map lAlt := by rw [hla', List.map_append]; rfl
      refine cInv ⟨x.alts.length - (i + 1), (i + 1, oz, la'), fun k => if k = 4 then 6 else k, by omega, ⟨by omega, ⟨by rw [hla', List.map_append, hla, take_get ha]; rfl, ?_, ?_⟩, rfl⟩, LessR.of rfl (by (repeat' first | exact FrSub.nil | refine FrSub.cons rfl (.ofEq rfl) ?_ | refine FrSub.oa rfl rfl ?_ | refine FrSub.consP rfl (.ofEq rfl) (by simp) ?_)) (by simp) ?_ rfl rfl hNc.ok⟩
      · intro y hy
        rw [hla'] at hy
        rcases List.mem_append.1 hy with hy | hy
        · exact hlo y hy
        · simp at hy; subst hy; exact hnc
      · dsimp only
        rw [hla', aO_app, show aO [⟨a.tag, nc, a.binds⟩] = bO nc a.binds by simp [aO]]
        exact hNa.trans hNc
      · repeat' first | exact LoSub.nil | refine LoSub.cons rfl ?_ rfl (by first | (simp; done) | exact ids_oaO (by simp)) ?_ | rfl | (refine (AObj.ren_pure _ _ ?_).symm; simp; done) | exact (ren_oaO _ _ _ _ fun _ => ids_vec (by simp; done)).symm | (simp [AObj.ren, renL, AC.ren]; done) | (simp [AObj.ren, renL, AC.ren]; rfl)
        · simp only [AObj.ren, List.length_append, hal]; rfl
        · simp only [hlm, AObj.ren, renL, AC.ren, ren_bC, ren_kC, ren_lAlts]; rfl
    have hlt2 : i = x.alts.length := by simp at hb3; omega
    subst hlt2
    rw [List.take_length] at hla
    repeat first | (with_reducible refine oj ?_; refine AOps.auto tabOk rfl ?_) | (with_reducible first | refine o1 ?_ | refine o2 ?_ | refine o3 ?_ | refine o4 ?_ | refine o5 ?_ | refine o6 ?_ | refine o7 ?_ | refine o8 ?_ | refine o9 ?_ | refine oa ?_ | refine ob ?_ | refine oc ?_ | refine od ?_ | refine oe ?_ | refine og ?_ | refine oh ?_ | refine oi ?_) | (with_reducible refine cExitMiss ?_ ?_; rfl) | (with_reducible refine ok ?_; first | refine ACode.condT rfl ?_ | refine ACode.condF rfl ?_)
    refine AOps.step1 rfl rfl rfl (idxI tabOk rfl rfl rfl rfl rfl rfl rfl (by simp; omega)) ?_
    refine AOps.wkObj (.l 2) rfl (cs' := [int x.op, int x.n, bC nb x.binds, .sl 1 (kC (kidsL lts x.kids)), .sl 2 (la.map lAlt)]) (fun w C xs h => ?_) ?_
    · exact (show WkL _ _ from .cons (.refl _) (.cons (.refl _) (.cons (.refl _) (.cons (.gsE rfl) (.cons (.gsE rfl) .nil))))) w C xs h
    have hθ : ∀ (k : Nat) (i : Abs.Id), isO i → toOs [2] k i = i := fun k i hi => by cases i with | l q => exact hi.elim | o q => rfl
    refine AOps.cedes [2] rfl (by decide) hoy fun k hk => ⟨[(77, .one (.ptr (.l 0) j)), (76, .one (.ptr (.o k) 0)), (16, .one (int j)), (15, .one (int (e.map cEx).length)), (14, .one (.sl 5 (e.map cEx))), (3, .one (.arr (.l 0) 1 0 (e.map cEx).length (e.map cEx).length)), (0, .one (.sl 5 (e.map cEx)))],
      [(0, .cells (nodesL lts (e.map cEx).length))], [.cells [int x.op, int x.n, bC nb x.binds, .sl 1 (kC (kidsL lts x.kids)), .sl 2 (la.map lAlt)]], ?_, ?_, ?_, ?_⟩
    · exact .cons rfl rfl (.cons rfl rfl (.cons rfl rfl (.cons rfl rfl (.cons rfl (FV.sub_f (hθ k) _ (by simp)) (.cons rfl rfl (.cons rfl (FV.sub_f (hθ k) _ (by simp)) .nil))))))
    · exact .cons rfl rfl (AObj.sub_f (hθ k) _ (ids_nodesL_o _ _)) .nil
    · exact .cons rfl (AObj.sub_f (hθ k) _ (ids_node _ _ _ _ _ _)) .nil
    have hN1 := NewO.add hk hoy (ids_node x.op x.n nb x.binds (kidsL lts x.kids) la)
    have hN2 := ((hN.trans hNb).trans hNa).trans hN1
    obtain ⟨t, ht⟩ : ∃ t : LTr, t = .mk k x.op x.n nb x.binds (kidsL lts x.kids) la := ⟨_, rfl⟩
    have hto : lts.flatMap ownO ++ bO nb x.binds ++ aO la ++ [(k, .cells [int x.op, int x.n, bC nb x.binds, .sl 1 (kC (kidsL lts x.kids)), .sl 2 (la.map lAlt)])] = (lts ++ [t]).flatMap ownO := by
      rw [List.flatMap_append, ht]
      simp [ownO, List.append_assoc]
    rw [hto] at hN2
    have hL2 := hL.snoc (kidsIn_pre (by rw [List.take_append_drop]; exact hin)) (x := x) (fun q hq => by have := hxin q hq; simp; omega) (id := k) hla hnb hlo
    rw [← take_get hx, show LTr.mk k x.op x.n nb x.binds (x.kids.map fun q => lts.getD q.toNat default) la = t by rw [ht]; rfl] at hL2
    refine AOps.storeOwn tabOk rfl rfl rfl rfl rfl rfl rfl rfl (by rw [nodesL_len (by simp [hgl]; omega)]; simp; omega) ?_
    have hst := nodesL_set (ts := lts) (n := (e.map cEx).length) (by simp [hgl]; omega) t
    rw [hgl, show t.id = k by rw [ht]; rfl] at hst
    rw [hst]
    repeat' first | (with_reducible refine oj ?_; refine AOps.auto tabOk rfl ?_) | (with_reducible first | refine o1 ?_ | refine o2 ?_ | refine o3 ?_ | refine o4 ?_ | refine o5 ?_ | refine o6 ?_ | refine o7 ?_ | refine o8 ?_ | refine o9 ?_ | refine oa ?_ | refine ob ?_ | refine oc ?_ | refine od ?_ | refine oe ?_ | refine og ?_ | refine oh ?_ | refine oi ?_) | (with_reducible refine cExitMiss ?_ ?_; rfl) | (with_reducible refine ok ?_; first | refine ACode.condT rfl ?_ | refine ACode.condF rfl ?_) | (with_reducible refine oj ?_; first | refine AOps.step1 rfl rfl rfl (AStep.arith rfl rfl rfl (.inl ⟨rfl, rfl⟩) (inRange_i64 (by first | omega | (simp; omega)) (by first | omega | (simp; omega)))) ?_ | refine AOps.step1 rfl rfl rfl (AStep.arith rfl rfl rfl (.inr (.inl ⟨rfl, rfl⟩)) (inRange_i64 (by first | omega | (simp; omega)) (by first | omega | (simp; omega)))) ?_ | refine AOps.step1 rfl rfl rfl (AStep.neBool Tryd.underlying4 rfl rfl rfl) ?_ | refine AOps.step1 rfl rfl rfl (AStep.eqBool Tryd.underlying4 rfl rfl rfl) ?_ | refine AOps.step1 rfl rfl rfl (AStep.max2 (t := 3) (ty := 3) rfl rfl rfl) ?_ | refine AOps.step1 rfl rfl rfl (AStep.min2 (t := 3) (ty := 3) rfl rfl rfl) ?_ | refine AOps.unG rfl rfl rfl ?_)
    exact cInv ⟨e.length - (j + 1), (j + 1, lts ++ [t], _), id, by omega, ⟨by omega, ⟨hL2, hN2⟩, rfl⟩, LessR.of rfl (by (repeat' first | exact FrSub.nil | refine FrSub.cons rfl (.ofEq rfl) ?_ | refine FrSub.oa rfl rfl ?_ | refine FrSub.consP rfl (.ofEq rfl) (by simp) ?_)) (by simp) (by repeat' first | exact LoSub.nil | refine LoSub.cons rfl ?_ rfl (by first | (simp; done) | exact ids_oaO (by simp)) ?_ | rfl | (refine (AObj.ren_pure _ _ ?_).symm; simp; done) | exact (ren_oaO _ _ _ _ fun _ => ids_vec (by simp; done)).symm | (simp [AObj.ren, renL, AC.ren]; done) | (simp [AObj.ren, renL, AC.ren]; rfl)) rfl rfl hN2.ok⟩
  · have hlt : j = e.length := by simp at hb2; omega
    subst hlt
    rw [List.take_length] at hL
    obtain ⟨N, hNe⟩ : ∃ N, e.length = N + 1 := ⟨e.length - 1, by have := List.length_pos_iff.2 hT.ne; omega⟩
    obtain ⟨t, ht⟩ := get_of_lt (l := lts) (i := N) (by rw [hL.len]; omega)
    have hnt : e.length - 1 = N := by omega
    repeat' first | (with_reducible refine oj ?_; refine AOps.auto tabOk rfl ?_) | (with_reducible first | refine o1 ?_ | refine o2 ?_ | refine o3 ?_ | refine o4 ?_ | refine o5 ?_ | refine o6 ?_ | refine o7 ?_ | refine o8 ?_ | refine o9 ?_ | refine oa ?_ | refine ob ?_ | refine oc ?_ | refine od ?_ | refine oe ?_ | refine og ?_ | refine oh ?_ | refine oi ?_) | (with_reducible refine cExitMiss ?_ ?_; rfl) | (with_reducible refine ok ?_; first | refine ACode.condT rfl ?_ | refine ACode.condF rfl ?_) | (with_reducible refine oj ?_; first | refine AOps.step1 rfl rfl rfl (AStep.arith rfl rfl rfl (.inl ⟨rfl, rfl⟩) (inRange_i64 (by first | omega | (simp; omega)) (by first | omega | (simp; omega)))) ?_ | refine AOps.step1 rfl rfl rfl (AStep.arith rfl rfl rfl (.inr (.inl ⟨rfl, rfl⟩)) (inRange_i64 (by first | omega | (simp; omega)) (by first | omega | (simp; omega)))) ?_ | refine AOps.step1 rfl rfl rfl (AStep.neBool Tryd.underlying4 rfl rfl rfl) ?_ | refine AOps.step1 rfl rfl rfl (AStep.eqBool Tryd.underlying4 rfl rfl rfl) ?_ | refine AOps.step1 rfl rfl rfl (AStep.max2 (t := 3) (ty := 3) rfl rfl rfl) ?_ | refine AOps.step1 rfl rfl rfl (AStep.min2 (t := 3) (ty := 3) rfl rfl rfl) ?_ | refine AOps.unG rfl rfl rfl ?_)
    refine AOps.wk 82 rfl (y := .one (int (N : Nat))) (.ofEq (by congr 3; simp; omega)) ?_
    refine AOps.step1 rfl rfl rfl (idxI tabOk rfl rfl rfl rfl rfl rfl rfl (by simp; omega)) ?_
    refine AOps.step1 rfl rfl rfl (AStep.loadOwn tabOk rfl rfl rfl rfl rfl rfl (nodesL_get ht)) ?_
    repeat first | (with_reducible refine oj ?_; refine AOps.auto tabOk rfl ?_) | (with_reducible first | refine o1 ?_ | refine o2 ?_ | refine o3 ?_ | refine o4 ?_ | refine o5 ?_ | refine o6 ?_ | refine o7 ?_ | refine o8 ?_ | refine o9 ?_ | refine oa ?_ | refine ob ?_ | refine oc ?_ | refine od ?_ | refine oe ?_ | refine og ?_ | refine oh ?_ | refine oi ?_) | (with_reducible refine cExitMiss ?_ ?_; rfl) | (with_reducible refine ok ?_; first | refine ACode.condT rfl ?_ | refine ACode.condF rfl ?_)
    have hown := hL.own hin _ N t (Nat.lt_succ_self _) ht
    refine AFn.fin' rfl (WkF.ofEq rfl) (by simp [AC.ids]) hov ⟨t, rfl, ?_, ?_, ?_, ?_, ?_, hov, ?_⟩
    · rw [hL.er hin _ N t (Nat.lt_succ_self _) ht]
      unfold grow treeAt; rw [hnt]
    · exact hL.ok hin (fun x hx => ⟨(he.x x hx).b, (he.x x hx).k, (he.x x hx).a, (he.x x hx).ab⟩) _ N t (Nat.lt_succ_self _) ht
    · exact fun p hp => hN.own p (hown p hp)
    · exact hL.nodup hT hN.nd (by rw [hnt]; exact ht)
    · intro k hk
      obtain ⟨p, hp, rfl⟩ := List.mem_map.1 hk
      exact hN.new p.1 (List.mem_map_of_mem (hown p hp))
    · intro m o hm
      show ov m = some o
      rw [hN.old m fun hmk => by have := hN.new m hmk; rw [hm] at this; cases this]
      exact hm
end Go.Proofs.YtnonkoeknpmcjaaDoor
