/- Rename, walked: the renaming of a tree of own nodes. -/
import Derived.Test.YtgdionbeeodaaaaDoorB8
set_option linter.unusedVariables false
set_option linter.unusedSimpArgs false
namespace Go.CoreX
def rnAs (nm : Nm) (f : Int) : List LAlt → List LAlt × Nm × Int
  | [] => ([], nm, f)
  | x :: l => (⟨x.tag, x.nb, frB f x.binds⟩ :: (rnAs (frN nm f x.binds) (f + x.binds.length) l).1, (rnAs (frN nm f x.binds) (f + x.binds.length) l).2)
def ren1 (o : Int) (nm : Nm) (f : Int) (b : List Int) : List Int × Nm × Int := if o = 9 then (b, nm, f) else (frB f b, frN nm f b, f + b.length)
mutual
def rnL (nm : Nm) (f : Int) : LTr → LTr × Nm × Int
  | .mk i o n nb b k a =>
    let s1 := ren1 o nm f b
    let s2 := rnAs s1.2.1 s1.2.2 a
    let s3 := rnLs s2.2.1 s2.2.2 k
    (.mk i o (if o = 0 then (nm n).getD n else n) nb s1.1 s3.1 s2.1, s3.2)
def rnLs (nm : Nm) (f : Int) : List LTr → List LTr × Nm × Int
  | [] => ([], nm, f)
  | t :: l => ((rnL nm f t).1 :: (rnLs (rnL nm f t).2.1 (rnL nm f t).2.2 l).1, (rnLs (rnL nm f t).2.1 (rnL nm f t).2.2 l).2)
end
theorem rnAs_snoc (x : LAlt) : ∀ (l : List LAlt) (nm : Nm) (f : Int), rnAs nm f (l ++ [x]) = ((rnAs nm f l).1 ++ [⟨x.tag, x.nb, frB (rnAs nm f l).2.2 x.binds⟩], frN (rnAs nm f l).2.1 (rnAs nm f l).2.2 x.binds, (rnAs nm f l).2.2 + x.binds.length)
  | [], nm, f => rfl
  | y :: l, nm, f => by simp only [List.cons_append, rnAs, rnAs_snoc x l]
theorem rnLs_snoc (t : LTr) : ∀ (l : List LTr) (nm : Nm) (f : Int), rnLs nm f (l ++ [t]) = ((rnLs nm f l).1 ++ [(rnL (rnLs nm f l).2.1 (rnLs nm f l).2.2 t).1], (rnL (rnLs nm f l).2.1 (rnLs nm f l).2.2 t).2)
  | [], nm, f => by simp [rnLs]
  | y :: l, nm, f => by simp only [List.cons_append, rnLs, rnLs_snoc t l]
-- How many identifiers are bound (and renamed).
def nbA (l : List LAlt) : Nat := (l.map fun x => x.binds.length).sum
mutual
def nbL : LTr → Nat
  | .mk _ o _ _ b k a => (if o = 9 then 0 else b.length) + nbA a + nbLs k
def nbLs : List LTr → Nat
  | [] => 0
  | t :: l => nbL t + nbLs l
end
theorem ren1_f (o : Int) (nm : Nm) (f : Int) (b : List Int) : (ren1 o nm f b).2.2 = f + (if o = 9 then 0 else b.length : Nat) := by
  unfold ren1; split <;> simp
theorem rnAs_f : ∀ (l : List LAlt) (nm : Nm) (f : Int), (rnAs nm f l).2.2 = f + nbA l
  | [], _, _ => by simp [rnAs, nbA]
  | x :: l, nm, f => by simp only [rnAs, rnAs_f l, nbA, List.map_cons, List.sum_cons]; push_cast; omega
mutual
theorem rnL_f : ∀ (t : LTr) (nm : Nm) (f : Int), (rnL nm f t).2.2 = f + nbL t
  | .mk i o n nb b k a, nm, f => by
    simp only [rnL, rnLs_f k, rnAs_f, ren1_f, nbL]; push_cast; omega
theorem rnLs_f : ∀ (l : List LTr) (nm : Nm) (f : Int), (rnLs nm f l).2.2 = f + nbLs l
  | [], _, _ => by simp [rnLs, nbLs]
  | t :: l, nm, f => by simp only [rnLs, rnLs_f l, rnL_f t, nbLs]; push_cast; omega
end
theorem nbA_app (l r : List LAlt) : nbA (l ++ r) = nbA l + nbA r := by simp [nbA]
theorem nbLs_app : ∀ l r : List LTr, nbLs (l ++ r) = nbLs l + nbLs r
  | [], r => by simp [nbLs]
  | t :: l, r => by simp only [List.cons_append, nbLs, nbLs_app l r]; omega
-- A list that is renamed is own, unless it is empty.
def ownB (nb : Nb) (b : List Int) : Prop := nb = none → b = []
mutual
def okL : LTr → Prop
  | .mk _ o _ nb b k a => (o ≠ 9 → ownB nb b) ∧ b.length ≤ 1048576 ∧ k.length ≤ 1048576 ∧ a.length ≤ 1048576 ∧ (∀ x ∈ a, ownB x.nb x.binds ∧ x.binds.length ≤ 1048576) ∧ okLs k
def okLs : List LTr → Prop
  | [] => True
  | t :: l => okL t ∧ okLs l
end
theorem okLs_iff : ∀ {l : List LTr}, okLs l ↔ ∀ t ∈ l, okL t
  | [] => by simp [okLs]
  | t :: l => by simp [okLs, okLs_iff (l := l)]
theorem frB_nil (f : Int) : frB f [] = [] := rfl
end Go.CoreX
namespace Go.Proofs.YtgdionbeeodaaaaDoor
open Go Go.Abs Go.CoreX
set_option maxRecDepth 10000
variable {Γ : List (Nat × List AC)}
theorem bC_fr {nb : Nb} {b : List Int} (h : ownB nb b) (f : Int) : bC nb (frB f b) = bC nb b := by
  cases nb with
  | none => rw [h rfl, frB_nil]
  | some x => obtain ⟨a, cap⟩ := x; simp [bC, frB_len]
theorem keys_bO (nb : Nb) (b b' : List Int) : keys (bO nb b) = keys (bO nb b') := by cases nb <;> rfl
theorem lAlt_fr {x : LAlt} (h : ownB x.nb x.binds) (f : Int) : lAlt ⟨x.tag, x.nb, frB f x.binds⟩ = lAlt x := by simp only [lAlt, bC_fr h]
theorem rnAs_c : ∀ {l : List LAlt} {nm : Nm} {f : Int}, (∀ x ∈ l, ownB x.nb x.binds) → (rnAs nm f l).1.map lAlt = l.map lAlt
  | [], _, _, _ => rfl
  | x :: l, nm, f, h => by
    have ih := rnAs_c (l := l) (nm := frN nm f x.binds) (f := f + x.binds.length) fun y hy => h y (by simp [hy])
    simp only [rnAs, List.map_cons, lAlt_fr (h x (by simp)), ih]
theorem keys_app (l r : List (Nat × AObj)) : keys (l ++ r) = keys l ++ keys r := by simp [keys]
theorem aO_cons (x : LAlt) (l : List LAlt) : aO (x :: l) = bO x.nb x.binds ++ aO l := rfl
theorem aO_app (l r : List LAlt) : aO (l ++ r) = aO l ++ aO r := by simp [aO]
theorem rnAs_k : ∀ (l : List LAlt) (nm : Nm) (f : Int), keys (aO (rnAs nm f l).1) = keys (aO l)
  | [], _, _ => rfl
  | x :: l, nm, f => by simp only [rnAs, aO_cons, keys_app, rnAs_k l]; rw [keys_bO x.nb _ x.binds]
theorem ren1_c {o : Int} {nb : Nb} {b : List Int} (h : o ≠ 9 → ownB nb b) (nm : Nm) (f : Int) : bC nb (ren1 o nm f b).1 = bC nb b := by
  unfold ren1
  split
  · rfl
  · exact bC_fr (h (by assumption)) f
mutual
theorem rnL_id : ∀ (t : LTr) (nm : Nm) (f : Int), (rnL nm f t).1.id = t.id
  | .mk i o n nb b k a, nm, f => rfl
theorem rnLs_c : ∀ (l : List LTr) (nm : Nm) (f : Int), kC (rnLs nm f l).1 = kC l
  | [], _, _ => rfl
  | t :: l, nm, f => by
    have h1 := rnL_id t nm f
    have h2 := rnLs_c l (rnL nm f t).2.1 (rnL nm f t).2.2
    unfold kC at h2 ⊢
    simp only [rnLs, List.map_cons, h1, h2]
end
mutual
theorem rnL_k : ∀ (t : LTr) (nm : Nm) (f : Int), keys (objs (rnL nm f t).1) = keys (objs t)
  | .mk i o n nb b k a, nm, f => by
    have h1 := rnLs_k k (rnAs (ren1 o nm f b).2.1 (ren1 o nm f b).2.2 a).2.1 (rnAs (ren1 o nm f b).2.1 (ren1 o nm f b).2.2 a).2.2
    have h2 := rnAs_k a (ren1 o nm f b).2.1 (ren1 o nm f b).2.2
    have h3 := keys_bO nb (ren1 o nm f b).1 b
    simp only [keys] at h1 h2 h3
    simp only [rnL, objs, keys, List.map_cons, List.map_append, h1, h2, h3]
theorem rnLs_k : ∀ (l : List LTr) (nm : Nm) (f : Int), keys (objss (rnLs nm f l).1) = keys (objss l)
  | [], _, _ => rfl
  | t :: l, nm, f => by
    have h1 := rnL_k t nm f
    have h2 := rnLs_k l (rnL nm f t).2.1 (rnL nm f t).2.2
    simp only [keys] at h1 h2
    simp only [rnLs, objss, keys, List.map_append, h1, h2]
end
def fnR (kn kf kw : Nat) : AC := .fn (.func 91) [] [.ptr (.o kn) 0, .ptr (.o kf) 0, .ptr (.o kw) 0]
def RenQ (ou : Outer) (kn km kf : Nat) (nm : Nm) (f : Int) (t : LTr) (r : FV) (ou' : Outer) : Prop :=
  r = .tup [] ∧ ∃ ck' l', RnS ou' kn km kf (rnL nm f t).2.1 ck' l' (rnL nm f t).2.2 ∧ Owns ou' (objs (rnL nm f t).1) ∧ OuOk ou' ∧ ∀ j, j ≠ km → j ≠ kf → j ∉ keys (objs t) → ou' j = ou j
def RenOk (Γ : List (Nat × List AC)) (t : LTr) : Prop := ∀ (ou : Outer) (kn km kf kw : Nat) (nm : Nm) (ck : Nat) (l : List (Nat × Int × Int)) (f : Int), RnS ou kn km kf nm ck l f → ou kw = some (.cells [fnR kn kf kw]) → Owns ou (objs t) → (keys (objs t)).Nodup →
  (∀ k ∈ keys (objs t), k ≠ kn ∧ k ≠ km ∧ k ≠ kf ∧ k ≠ kw) → 0 ≤ f → f + nbL t ≤ 4611686018427387904 → OuOk ou →
  AFn Tryd.prog Γ 91 [.one (.ptr (.o t.id) 0), .one (.ptr (.o kn) 0), .one (.ptr (.o kf) 0), .one (.ptr (.o kw) 0)] ou (RenQ ou kn km kf nm f t)
theorem ids_node (o n : Int) (nb : Nb) (b : List Int) (ks : List LTr) (a : List LAlt) : (AObj.cells [int o, int n, bC nb b, .sl 1 (kC ks), .sl 2 (a.map lAlt)]).ids isO :=
  ⟨trivial, trivial, ids_bC _ (fun _ => trivial) _ _, ids_kC _ (fun _ => trivial) _, ids_lAlts _ (fun _ => trivial) _, trivial⟩
structure NdS (ou ov : Outer) (kn km kf kw i : Nat) (cs : List AC) (K : List Nat) (nm : Nm) (ck : Nat) (l : List (Nat × Int × Int)) (f : Int) (Lb La Lk : List (Nat × AObj)) : Prop where
  R : RnS ov kn km kf nm ck l f
  w : ov kw = some (.cells [fnR kn kf kw])
  i : ov i = some (.cells cs)
  b : Owns ov Lb
  a : Owns ov La
  k : Owns ov Lk
  ok : OuOk ov
  fr : ∀ j, j ≠ km → j ≠ kf → j ∉ K → ov j = ou j
theorem NdS.frame {ou ov ow : Outer} {kn km kf kw i : Nat} {cs : List AC} {K S : List Nat} {nm nm' : Nm} {ck ck' : Nat} {l l' : List (Nat × Int × Int)} {f f' : Int} {Lb La Lk Lb' La' Lk' : List (Nat × AObj)} (h : NdS ou ov kn km kf kw i cs K nm ck l f Lb La Lk)
    (hR : RnS ow kn km kf nm' ck' l' f') (hok : OuOk ow) (hfr : ∀ j, j ≠ km → j ≠ kf → j ∉ S → ow j = ov j) (hS : ∀ j ∈ S, j ∈ K ∧ j ≠ i) (hK : ∀ k ∈ K, k ≠ kn ∧ k ≠ km ∧ k ≠ kf ∧ k ≠ kw) (hi : i ∈ K) (hw : kw ≠ km ∧ kw ≠ kf)
    (hb : Owns ow Lb') (ha : Owns ow La') (hk : Owns ow Lk') : NdS ou ow kn km kf kw i cs K nm' ck' l' f' Lb' La' Lk' where
  R := hR
  w := (hfr kw hw.1 hw.2 fun hj => (hK kw (hS kw hj).1).2.2.2 rfl).trans h.w
  i := (hfr i (hK i hi).2.1 (hK i hi).2.2.1 fun hj => (hS i hj).2 rfl).trans h.i
  b := hb
  a := ha
  k := hk
  ok := hok
  fr := fun j h1 h2 h3 => (hfr j h1 h2 fun hj => h3 (hS j hj).1).trans (h.fr j h1 h2 h3)
theorem rename1_ok (hΓ : ∀ g cs, (g, cs) ∈ Γ → idsL isO cs) : ∀ t : LTr, okL t → RenOk Γ t
  | .mk i o n nb b ks a, hok => by
    obtain ⟨hnb, hbl, hkl, hal, hax, hks⟩ := hok
    have ih : ∀ t ∈ ks, RenOk Γ t := fun t ht => rename1_ok hΓ t (okLs_iff.1 hks t ht)
    intro ou kn km kf kw nm ck l f hR hw ho hnd hdis hf0 hf1 hou0
    have hni := owns_node ho
    have e0 : objs (.mk i o n nb b ks a) = (i, .cells [int o, int n, bC nb b, .sl 1 (kC ks), .sl 2 (a.map lAlt)]) :: ((bO nb b ++ aO a) ++ objss ks) := rfl
    obtain ⟨K, hKe⟩ : ∃ K, K = keys (objs (.mk i o n nb b ks a)) := ⟨_, rfl⟩
    have hKm : ∀ j, j ∈ K ↔ j = i ∨ j ∈ keys (bO nb b) ∨ j ∈ keys (aO a) ∨ j ∈ keys (objss ks) := fun j => by rw [hKe, e0]; simp [keys]
    have hKi : i ∈ K := (hKm i).2 (.inl rfl)
    rw [← hKe] at hnd hdis
    have hnd2 : i ∉ keys (bO nb b) ∧ i ∉ keys (aO a) ∧ i ∉ keys (objss ks) ∧ (keys (bO nb b)).Nodup ∧ (keys (aO a)).Nodup ∧ (keys (objss ks)).Nodup ∧ (∀ x ∈ keys (bO nb b), x ∉ keys (aO a) ∧ x ∉ keys (objss ks)) ∧ ∀ x ∈ keys (aO a), x ∉ keys (objss ks) := by
      rw [hKe, e0] at hnd
      simp only [keys, List.map_cons, List.map_append, List.nodup_cons, List.nodup_append, List.mem_append, not_or] at hnd
      obtain ⟨⟨⟨n1, n2⟩, n3⟩, ⟨n4, n5, n6⟩, n7, n8⟩ := hnd
      exact ⟨n1, n2, n3, n4, n5, n7, fun x hx => ⟨fun h => n6 x hx x h rfl, fun h => n8 x (.inl hx) x h rfl⟩, fun x hx h => n8 x (.inr hx) x h rfl⟩
    obtain ⟨nib, nia, nik, _, nda, ndk, nbx, nax⟩ := hnd2
    rw [e0] at ho
    have ho1 : Owns ou ((bO nb b ++ aO a) ++ objss ks) := fun p hp => ho p (by simp only [List.mem_cons]; exact .inr hp)
    obtain ⟨hob, hoa⟩ := Owns.app.1 (Owns.app.1 ho1).1
    have hokk := (Owns.app.1 ho1).2
    simp only [LTr.id, lC] at hni ⊢
    obtain ⟨d1, d2, d3⟩ := hR.ne
    have hik := hdis i hKi
    have hww : kw ≠ km ∧ kw ≠ kf := ⟨fun e => (by have := hR.m; rw [← e, hw] at this; cases this), fun e => (by have := hR.f; rw [← e, hw] at this; cases this)⟩
    have h0 : NdS ou ou kn km kf kw i [int o, int n, bC nb b, .sl 1 (kC ks), .sl 2 (a.map lAlt)] K nm ck l f (bO nb b) (aO a) (objss ks) := ⟨hR, hw, hni, hob, hoa, hokk, hou0, fun _ _ _ _ => rfl⟩
    have hnbf : (if o = 9 then 0 else b.length) + nbA a + nbLs ks = nbL (.mk i o n nb b ks a) := rfl
    obtain ⟨n', hn'⟩ : ∃ n' : Int, n' = if o = 0 then (nm n).getD n else n := ⟨_, rfl⟩
    refine AFn.walk 76 tabOk Tryd.func91 rfl (by kernel_rfl) rfl rfl fun hou => ?_
    refine zA ?_
    refine ACode.drawX tabOk 10 [(0, .one (.mp (.o km))), (4, .one (int n)), (5, .tup [.one (int ((nm n).getD 0)), .one (.lit (.bool (nm n).isSome))])] follows (by kernel_rfl) rfl rfl rfl rfl ?_ ?_
    · refine .step rfl (HStep.plain rfl (AStep.loadOwn tabOk rfl rfl rfl rfl rfl hR.n rfl)) (.step rfl (HStep.plain rfl (AStep.loadOwn tabOk rfl rfl rfl rfl rfl hni rfl)) ?_)
      exact .step rfl (HStep.plain rfl (AStep.lookI eN (cm := true) (v := .one (int ((nm n).getD 0))) rfl Tryd.underlying90 Tryd.underlying3 rfl hR.m rfl (by kernel_rfl) zeroN hR.k (by cases nm n <;> rfl))) .nil
    refine zA ?_
    refine AOps.cutN 1 rfl hΓ (α := Outer) (fun _ => [(0, .one (.ptr (.o i) 0)), (1, .one (.ptr (.o kn) 0)), (2, .one (.ptr (.o kf) 0)), (3, .one (.ptr (.o kw) 0))]) (fun ov => ⟨0, [], ov⟩)
      (fun ov => NdS ou ov kn km kf kw i [int o, int n', bC nb b, .sl 1 (kC ks), .sl 2 (a.map lAlt)] K nm ck l f (bO nb b) (aO a) (objss ks)) ?_ fun ov hov => ?_
    · dsimp only [List.take_succ_cons, List.take_zero, List.cons_append, List.nil_append]
      refine AOps.splitG rfl rfl rfl (fun hb5 => ?_) (fun hb5 => ?_)
      · obtain ⟨v, hv⟩ := Option.isSome_iff_exists.1 hb5
        refine zM ?_
        refine AOps.step1 rfl rfl rfl (AStep.loadOwn tabOk rfl rfl rfl rfl rfl hni rfl) ?_
        refine zM ?_
        refine ACode.cond rfl (fun hb6 => ?_) (fun hb6 => ?_)
        · have h00 : o = 0 := by simpa using hb6
          have hnv : n' = v := by rw [hn', if_pos h00, hv]; rfl
          subst hnv
          rw [hv]
          refine zM ?_
          refine AOps.storeOwn tabOk rfl rfl rfl rfl rfl rfl rfl hni (by simp) ?_
          refine zM ?_
          refine cInv ⟨(St.set ⟨0, [], ou⟩ (.o i) (.cells [int o, int n', bC nb b, .sl 1 (kC ks), .sl 2 (a.map lAlt)])).ou, id, ?_, LessR.of rfl (by (repeat' first | exact FrSub.nil | refine zfc ?_ | refine zfo ?_ | refine zfp ?_)) (by simp) .nil rfl rfl ?_⟩
          · have hne : ∀ {j : Nat}, j ≠ i → (St.set ⟨0, [], ou⟩ (.o i) (.cells [int o, int n', bC nb b, .sl 1 (kC ks), .sl 2 (a.map lAlt)])).ou j = ou j := fun {j} hj => set_ou_ne hj
            refine ⟨⟨(hne (Ne.symm hik.1)).trans hR.n, (hne (Ne.symm hik.2.1)).trans hR.m, hR.k, (hne (Ne.symm hik.2.2.1)).trans hR.f⟩, (hne (Ne.symm hik.2.2.2)).trans hw, set_ou_same, hob.frame fun j hj => hne fun e => nib (e ▸ hj), hoa.frame fun j hj => hne fun e => nia (e ▸ hj), hokk.frame fun j hj => hne fun e => nik (e ▸ hj), OuOk.set (σ := ⟨0, [], ou⟩) hou0 (ids_node _ _ _ _ _ _), fun j h1 h2 h3 => hne fun e => h3 (e ▸ hKi)⟩
          · exact OuOk.set (σ := ⟨0, [], ou⟩) hou0 (ids_node _ _ _ _ _ _)
        · have h00 : ¬ o = 0 := by simpa using hb6
          have hnv : n' = n := by rw [hn', if_neg h00]
          subst hnv
          refine zM ?_
          exact cInv ⟨ou, id, h0, LessR.of rfl (by (repeat' first | exact FrSub.nil | refine zfc ?_ | refine zfo ?_ | refine zfp ?_)) (by simp) .nil rfl rfl hou⟩
      · have hv : nm n = none := by simpa using hb5
        have hnv : n' = n := by rw [hn', hv]; simp
        subst hnv
        refine zM ?_
        exact cInv ⟨ou, id, h0, LessR.of rfl (by (repeat' first | exact FrSub.nil | refine zfc ?_ | refine zfo ?_ | refine zfp ?_)) (by simp) .nil rfl rfl hou⟩
    clear h0 hR hw hni hob hoa hokk
    have hok0 := hov.ok
    refine zA ?_
    refine AOps.step1 rfl rfl rfl (AStep.loadOwn tabOk rfl rfl rfl rfl rfl hov.i rfl) ?_
    refine AOps.cutN 1 rfl hΓ (α := Outer × Nat × List (Nat × Int × Int)) (fun _ => [(7, .one (.fn (.func 92) [] [.ptr (.o kf) 0, .ptr (.o kn) 0])), (0, .one (.ptr (.o i) 0)), (1, .one (.ptr (.o kn) 0)), (2, .one (.ptr (.o kf) 0)), (3, .one (.ptr (.o kw) 0))]) (fun c => ⟨0, [], c.1⟩)
      (fun c => NdS ou c.1 kn km kf kw i [int o, int n', bC nb b, .sl 1 (kC ks), .sl 2 (a.map lAlt)] K (ren1 o nm f b).2.1 c.2.1 c.2.2 (ren1 o nm f b).2.2 (bO nb (ren1 o nm f b).1) (aO a) (objss ks)) ?_ fun c hov2 => ?_
    · dsimp only [List.take_succ_cons, List.take_zero, List.cons_append, List.nil_append]
      refine zM ?_
      refine ACode.cond rfl (fun hb6 => ?_) (fun hb6 => ?_)
      · have h9 : o ≠ 9 := by simpa using hb6
        have hr1 : ren1 o nm f b = (frB f b, frN nm f b, f + b.length) := by unfold ren1; rw [if_neg h9]
        rw [hr1]
        rw [if_neg h9] at hnbf
        refine zM ?_
        refine AOps.step1 rfl rfl rfl (AStep.loadOwn tabOk rfl rfl rfl rfl rfl hov.i rfl) ?_
        refine AOps.call1 hΓ rfl rfl rfl rfl rfl rfl rfl (by exact ⟨ids_bC _ (fun _ => trivial) _ _, trivial, trivial, trivial⟩) hok0
          (fresh_ok hΓ nb b (hnb h9) hbl ov kn km kf nm _ _ f hov.R hov.b (fun k hk => ⟨(hdis k ((hKm k).2 (.inr (.inl hk)))).1, (hdis k ((hKm k).2 (.inr (.inl hk)))).2.1, (hdis k ((hKm k).2 (.inr (.inl hk)))).2.2.1⟩) hf0 (by omega) hok0) fun r ow hq hids how => ?_
        obtain ⟨rfl, ck', l', hR', hO', hok', hfr'⟩ := hq
        refine zM ?_
        refine cInv ⟨(ow, ck', l'), id, ?_, LessR.of rfl (by (repeat' first | exact FrSub.nil | refine zfc ?_ | refine zfo ?_ | refine zfp ?_)) (by simp) .nil rfl rfl hok'⟩
        refine hov.frame (S := keys (bO nb b)) hR' hok' hfr' (fun j hj => ⟨(hKm j).2 (.inr (.inl hj)), fun e => nib (e ▸ hj)⟩) hdis hKi hww hO' (hov.a.frame fun j hj => ?_) (hov.k.frame fun j hj => ?_)
        · have hj' := hdis j ((hKm j).2 (.inr (.inr (.inl hj))))
          exact hfr' j hj'.2.1 hj'.2.2.1 fun h => (nbx j h).1 hj
        · have hj' := hdis j ((hKm j).2 (.inr (.inr (.inr hj))))
          exact hfr' j hj'.2.1 hj'.2.2.1 fun h => (nbx j h).2 hj
      · have h9 : o = 9 := by simpa using hb6
        have hr1 : ren1 o nm f b = (b, nm, f) := by unfold ren1; rw [if_pos h9]
        rw [hr1]
        refine zM ?_
        exact cInv ⟨(ov, ck, l), id, hov, LessR.of rfl (by (repeat' first | exact FrSub.nil | refine zfc ?_ | refine zfo ?_ | refine zfp ?_)) (by simp) .nil rfl rfl hok0⟩
    clear hov hok0
    obtain ⟨ov, ck, l⟩ := c
    have hov := hov2
    clear hov2
    dsimp only at hov
    have hok0 := hov.ok
    have hf1' := ren1_f o nm f b
    have hkb : keys (bO nb (ren1 o nm f b).1) = keys (bO nb b) := keys_bO nb _ _
    generalize hs1 : ren1 o nm f b = s1 at hov hf1' hkb
    obtain ⟨b1, nm1, f1⟩ := s1
    dsimp only at hov hf1' hkb
    refine zA ?_
    refine AOps.step1 rfl rfl rfl (AStep.loadOwn tabOk rfl rfl rfl rfl rfl hov.i rfl) ?_
    refine zA ?_
    refine ACode.loopR hΓ (α := Nat × Outer × Nat × List (Nat × Int × Int)) (fun c => [(49, .one (int c.1)), (48, .one (int (a.map lAlt).length)), (7, .one (.fn (.func 92) [] [.ptr (.o kf) 0, .ptr (.o kn) 0])), (0, .one (.ptr (.o i) 0)), (1, .one (.ptr (.o kn) 0)), (2, .one (.ptr (.o kf) 0)), (3, .one (.ptr (.o kw) 0))])
      (fun c => ⟨0, [], c.2.1⟩) (fun m c => c.1 ≤ a.length ∧ NdS ou c.2.1 kn km kf kw i [int o, int n', bC nb b, .sl 1 (kC ks), .sl 2 (a.map lAlt)] K (rnAs nm1 f1 (a.take c.1)).2.1 c.2.2.1 c.2.2.2 (rnAs nm1 f1 (a.take c.1)).2.2 (bO nb b1) (aO ((rnAs nm1 f1 (a.take c.1)).1 ++ a.drop c.1)) (objss ks) ∧ m = a.length - c.1)
      (a0 := (0, ov, ck, l)) (ρ := id) ⟨by omega, by simpa [rnAs] using hov, rfl⟩ (LessR.of rfl (by (repeat' first | exact FrSub.nil | refine zfc ?_ | refine zfo ?_ | refine zfp ?_)) (by simp) .nil rfl rfl hok0) fun m c hc => ?_
    clear hov hok0
    obtain ⟨j, ov, ck, l⟩ := c
    obtain ⟨hjl, hov, rfl⟩ := hc
    dsimp only at hjl hov
    have hok0 := hov.ok
    refine zA ?_
    refine ACode.cond rfl (fun hb2 => ?_) (fun hb2 => ?_)
    · have hlt : j < a.length := by simpa using hb2
      obtain ⟨x, hx⟩ := get_of_lt hlt
      have hxm := List.mem_of_getElem? hx
      obtain ⟨hxo, hxl⟩ := hax x hxm
      have hsn := rnAs_snoc x (a.take j) nm1 f1
      rw [← take_get hx] at hsn
      have hfa := rnAs_f (a.take j) nm1 f1
      have hdr : a.drop j = x :: a.drop (j + 1) := by
        obtain ⟨q1, q2⟩ := List.getElem?_eq_some_iff.1 hx
        rw [List.drop_eq_getElem_cons q1, q2]
      have hcnt : nbA (a.take j) + x.binds.length ≤ nbA a := by
        have h1 := nbA_app (a.take (j + 1)) (a.drop (j + 1))
        rw [List.take_append_drop, take_get hx, nbA_app] at h1
        simp [nbA] at h1 ⊢; omega
      have hka := rnAs_k (a.take j) nm1 f1
      have hxk : ∀ k ∈ keys (bO x.nb x.binds), k ∈ keys (aO a) := fun k hk => by
        rw [← List.take_append_drop j a, hdr, aO_app, keys_app, aO_cons, keys_app]
        simp [hk]
      have hxd : ∀ k ∈ keys (bO x.nb x.binds), k ∉ keys (aO (a.take j)) ∧ k ∉ keys (aO (a.drop (j + 1))) := fun k hk => by
        have h1 := nda
        rw [← List.take_append_drop j a, hdr, aO_app, keys_app, aO_cons, keys_app, List.nodup_append, List.nodup_append] at h1
        exact ⟨fun h => h1.2.2 k h k (List.mem_append.2 (.inl hk)) rfl, fun h => h1.2.1.2.2 k hk k h rfl⟩
      rw [hdr] at hov
      generalize rnAs nm1 f1 (a.take j) = sj at hov hsn hfa hka
      obtain ⟨aj, nmj, fj⟩ := sj
      dsimp only at hov hsn hfa hka
      rw [aO_app, aO_cons] at hov
      obtain ⟨hoa1, hoa2⟩ := Owns.app.1 hov.a
      obtain ⟨hoa3, hoa4⟩ := Owns.app.1 hoa2
      have hxK : ∀ k ∈ keys (bO x.nb x.binds), k ∈ K := fun k hk => (hKm k).2 (.inr (.inr (.inl (hxk k hk))))
      refine zA ?_
      refine AOps.step1 rfl rfl rfl (AStep.loadOwn tabOk rfl rfl rfl rfl rfl hov.i rfl) ?_
      refine zA ?_
      refine AOps.step1 rfl rfl rfl (AStep.indexAddr tabOk rfl rfl rfl rfl rfl rfl (.inl rfl) rfl (by omega) (map_get (f := lAlt) hx)) ?_
      refine zA ?_
      refine AOps.call1 hΓ rfl rfl rfl rfl rfl rfl rfl (by exact ⟨ids_bC _ (fun _ => trivial) _ _, trivial, trivial, trivial⟩) hok0
        (fresh_ok hΓ x.nb x.binds hxo hxl ov kn km kf nmj _ _ fj hov.R hoa3 (fun k hk => ⟨(hdis k (hxK k hk)).1, (hdis k (hxK k hk)).2.1, (hdis k (hxK k hk)).2.2.1⟩) (by omega) (by omega) hok0) fun r ow hq hids how => ?_
      obtain ⟨rfl, ck', l', hR', hO', hok', hfr'⟩ := hq
      refine zM ?_
      refine cInv ⟨a.length - (j + 1), (j + 1, ow, ck', l'), id, by omega, ⟨by omega, ?_, rfl⟩, LessR.of rfl (by (repeat' first | exact FrSub.nil | refine zfc ?_ | refine zfo ?_ | refine zfp ?_)) (by simp) .nil rfl rfl hok'⟩
      dsimp only
      rw [hsn]
      dsimp only
      have hkq : ∀ q ∈ keys (aO a), q ∉ keys (bO x.nb x.binds) → ow q = ov q := fun q hq hn => by
        have hq' := hdis q ((hKm q).2 (.inr (.inr (.inl hq))))
        exact hfr' q hq'.2.1 hq'.2.2.1 hn
      refine hov.frame (S := keys (bO x.nb x.binds)) hR' hok' hfr' (fun q hq => ⟨hxK q hq, fun e => nia (e ▸ hxk q hq)⟩) hdis hKi hww (hov.b.frame fun q hq => ?_) ?_ (hov.k.frame fun q hq => ?_)
      · rw [hkb] at hq
        have hq' := hdis q ((hKm q).2 (.inr (.inl hq)))
        exact hfr' q hq'.2.1 hq'.2.2.1 fun h => (nbx q hq).1 (hxk q h)
      · rw [List.append_assoc, aO_app]
        refine Owns.app.2 ⟨hoa1.frame fun q hq => ?_, ?_⟩
        · rw [hka] at hq
          refine hkq q ?_ fun h => (hxd q h).1 hq
          rw [← List.take_append_drop j a, aO_app, keys_app]
          exact List.mem_append.2 (.inl hq)
        · rw [List.cons_append, List.nil_append, aO_cons]
          refine Owns.app.2 ⟨hO', hoa4.frame fun q hq => ?_⟩
          refine hkq q ?_ fun h => (hxd q h).2 hq
          rw [← List.take_append_drop (j + 1) a, aO_app, keys_app]
          exact List.mem_append.2 (.inr hq)
      · have hq' := hdis q ((hKm q).2 (.inr (.inr (.inr hq))))
        exact hfr' q hq'.2.1 hq'.2.2.1 fun h => nax q (hxk q h) hq
    have hlt : j = a.length := by simp at hb2; omega
    subst hlt
    rw [List.take_length, List.drop_length, List.append_nil] at hov
    have hfa := rnAs_f a nm1 f1
    have hka := rnAs_k a nm1 f1
    generalize hs2 : rnAs nm1 f1 a = s2 at hov hfa hka
    obtain ⟨a2, nm2, f2⟩ := s2
    dsimp only at hov hfa hka
    refine zA ?_
    refine AOps.step1 rfl rfl rfl (AStep.loadOwn tabOk rfl rfl rfl rfl rfl hov.i rfl) ?_
    refine zA ?_
    refine ACode.loopR hΓ (α := Nat × Outer × Nat × List (Nat × Int × Int)) (fun c => [(68, .one (int c.1)), (67, .one (int (kC ks).length)), (66, .one (.sl 1 (kC ks))), (3, .one (.ptr (.o kw) 0))])
      (fun c => ⟨0, [], c.2.1⟩) (fun m c => c.1 ≤ ks.length ∧ NdS ou c.2.1 kn km kf kw i [int o, int n', bC nb b, .sl 1 (kC ks), .sl 2 (a.map lAlt)] K (rnLs nm2 f2 (ks.take c.1)).2.1 c.2.2.1 c.2.2.2 (rnLs nm2 f2 (ks.take c.1)).2.2 (bO nb b1) (aO a2) (objss ((rnLs nm2 f2 (ks.take c.1)).1 ++ ks.drop c.1)) ∧ m = ks.length - c.1)
      (a0 := (0, ov, ck, l)) (ρ := id) ⟨by omega, by simpa [rnLs] using hov, rfl⟩ (LessR.of rfl ?_ ?_ .nil rfl rfl hok0) fun m c hc => ?_
    · refine FrSub.cons rfl (.ofEq rfl) (FrSub.cons rfl (.ofEq rfl) (FrSub.consP rfl (.ofEq rfl) (ids_kC _ (fun _ => trivial) _) (FrSub.cons rfl (.ofEq rfl) .nil)))
    · simp; exact ids_kC (inL 0) (fun _ => trivial) _
    clear hov hok0
    obtain ⟨j, ov, ck, l⟩ := c
    obtain ⟨hjl, hov, rfl⟩ := hc
    dsimp only at hjl hov
    have hok0 := hov.ok
    refine zA ?_
    refine ACode.cond rfl (fun hb2 => ?_) (fun hb2 => ?_)
    · have hlt : j < ks.length := by simpa [kC] using hb2
      obtain ⟨t, ht⟩ := get_of_lt hlt
      have htm := List.mem_of_getElem? ht
      have hsn := rnLs_snoc t (ks.take j) nm2 f2
      rw [← take_get ht] at hsn
      have hfk := rnLs_f (ks.take j) nm2 f2
      have hdr : ks.drop j = t :: ks.drop (j + 1) := by
        obtain ⟨q1, q2⟩ := List.getElem?_eq_some_iff.1 ht
        rw [List.drop_eq_getElem_cons q1, q2]
      have hcnt : nbLs (ks.take j) + nbL t ≤ nbLs ks := by
        have h1 := nbLs_app (ks.take (j + 1)) (ks.drop (j + 1))
        rw [List.take_append_drop, take_get ht, nbLs_app] at h1
        simp [nbLs] at h1 ⊢; omega
      have hkk := rnLs_k (ks.take j) nm2 f2
      have hspl : keys (objss ks) = keys (objss (ks.take j)) ++ (keys (objs t) ++ keys (objss (ks.drop (j + 1)))) := by
        conv => lhs; rw [← List.take_append_drop j ks, hdr, objss_app, keys_app, show objss (t :: ks.drop (j + 1)) = objs t ++ objss (ks.drop (j + 1)) from rfl, keys_app]
      have htk : ∀ k ∈ keys (objs t), k ∈ keys (objss ks) := fun k hk => by rw [hspl]; simp [hk]
      have htd : (keys (objs t)).Nodup ∧ ∀ k ∈ keys (objs t), k ∉ keys (objss (ks.take j)) ∧ k ∉ keys (objss (ks.drop (j + 1))) := by
        have h1 := ndk
        rw [hspl, List.nodup_append, List.nodup_append] at h1
        exact ⟨h1.2.1.1, fun k hk => ⟨fun h => h1.2.2 k h k (List.mem_append.2 (.inl hk)) rfl, fun h => h1.2.1.2.2 k hk k h rfl⟩⟩
      rw [hdr] at hov
      generalize rnLs nm2 f2 (ks.take j) = sj at hov hsn hfk hkk
      obtain ⟨kj, nmj, fj⟩ := sj
      dsimp only at hov hsn hfk hkk
      rw [objss_app, show objss (t :: ks.drop (j + 1)) = objs t ++ objss (ks.drop (j + 1)) from rfl] at hov
      obtain ⟨hoa1, hoa2⟩ := Owns.app.1 hov.k
      obtain ⟨hoa3, hoa4⟩ := Owns.app.1 hoa2
      have htK : ∀ k ∈ keys (objs t), k ∈ K := fun k hk => (hKm k).2 (.inr (.inr (.inr (htk k hk))))
      refine zA ?_
      refine AOps.step1 rfl rfl rfl (AStep.indexAddr tabOk rfl rfl rfl rfl rfl rfl (.inl rfl) rfl (by omega) (map_get (f := fun t : LTr => [AC.ptr (.o t.id) 0]) ht)) ?_
      refine zA ?_
      refine AOps.step1 rfl rfl rfl (AStep.loadOwn tabOk rfl rfl rfl rfl rfl hov.w rfl) ?_
      refine zA ?_
      refine AOps.call1 hΓ rfl rfl rfl rfl rfl rfl rfl (by exact ⟨trivial, trivial, trivial, trivial, trivial⟩) hok0
        (ih t htm ov kn km kf kw nmj _ _ fj hov.R hov.w hoa3 htd.1 (fun k hk => hdis k (htK k hk)) (by omega) (by omega) hok0) fun r ow hq hids how => ?_
      obtain ⟨rfl, ck', l', hR', hO', hok', hfr'⟩ := hq
      refine zM ?_
      refine cInv ⟨ks.length - (j + 1), (j + 1, ow, ck', l'), id, by omega, ⟨by omega, ?_, rfl⟩, LessR.of rfl ?_ ?_ .nil rfl rfl hok'⟩
      · dsimp only
        rw [hsn]
        dsimp only
        have hkq : ∀ q ∈ keys (objss ks), q ∉ keys (objs t) → ow q = ov q := fun q hq hn => by
          have hq' := hdis q ((hKm q).2 (.inr (.inr (.inr hq))))
          exact hfr' q hq'.2.1 hq'.2.2.1 hn
        refine hov.frame (S := keys (objs t)) hR' hok' hfr' (fun q hq => ⟨htK q hq, fun e => nik (e ▸ htk q hq)⟩) hdis hKi hww (hov.b.frame fun q hq => ?_) (hov.a.frame fun q hq => ?_) ?_
        · rw [hkb] at hq
          have hq' := hdis q ((hKm q).2 (.inr (.inl hq)))
          exact hfr' q hq'.2.1 hq'.2.2.1 fun h => (nbx q hq).2 (htk q h)
        · rw [hka] at hq
          have hq' := hdis q ((hKm q).2 (.inr (.inr (.inl hq))))
          exact hfr' q hq'.2.1 hq'.2.2.1 fun h => nax q hq (htk q h)
        · rw [List.append_assoc, objss_app]
          refine Owns.app.2 ⟨hoa1.frame fun q hq => ?_, ?_⟩
          · rw [hkk] at hq
            exact hkq q (by rw [hspl]; exact List.mem_append.2 (.inl hq)) fun h => (htd.2 q h).1 hq
          · rw [List.cons_append, List.nil_append, show objss ((rnL nmj fj t).1 :: ks.drop (j + 1)) = objs (rnL nmj fj t).1 ++ objss (ks.drop (j + 1)) from rfl]
            refine Owns.app.2 ⟨hO', hoa4.frame fun q hq => ?_⟩
            exact hkq q (by rw [hspl]; exact List.mem_append.2 (.inr (List.mem_append.2 (.inr hq)))) fun h => (htd.2 q h).2 hq
      · refine FrSub.cons rfl (.ofEq rfl) (FrSub.cons rfl (.ofEq rfl) (FrSub.consP rfl (.ofEq rfl) (ids_kC _ (fun _ => trivial) _) (FrSub.cons rfl (.ofEq rfl) .nil)))
      · simp; exact ids_kC (inL 0) (fun _ => trivial) _
    have hlt : j = ks.length := by simp [kC] at hb2; omega
    subst hlt
    rw [List.take_length, List.drop_length, List.append_nil] at hov
    refine zA ?_
    refine AFn.fin' rfl (WkF.refl _) (by simp) hok0 ⟨rfl, ck, l, ?_, ?_, hok0, fun q h1 h2 h3 => hov.fr q h1 h2 (by rw [hKe]; exact h3)⟩
    · have := hov.R
      simp only [rnL, hs1, hs2]
      exact this
    · have e1 : (rnL nm f (.mk i o n nb b ks a)).1 = .mk i o n' nb b1 (rnLs nm2 f2 ks).1 a2 := by simp only [rnL, hs1, hs2, hn']
      rw [e1]
      have hc1 : bC nb b1 = bC nb b := by have := ren1_c hnb nm f; rw [hs1] at this; exact this
      have hc2 : a2.map lAlt = a.map lAlt := by have := rnAs_c (l := a) (nm := nm1) (f := f1) fun x hx => (hax x hx).1; rw [hs2] at this; exact this
      intro p hp
      simp only [objs, hc1, hc2, rnLs_c, List.cons_append, List.mem_cons] at hp
      rcases hp with rfl | hp
      · exact hov.i
      · exact Owns.app.2 ⟨Owns.app.2 ⟨hov.b, hov.a⟩, hov.k⟩ p hp
end Go.Proofs.YtgdionbeeodaaaaDoor
namespace Go.Proofs.YtgdionbeeodaaaaDoor
open Go Go.Abs Go.CoreX
set_option maxRecDepth 10000
variable {Γ : List (Nat × List AC)}
abbrev nm0 : Nm := fun _ => none
theorem ouAdd_ok {ou : Outer} {k : Nat} {os : List AObj} (h : OuOk ou) (ho : ∀ o ∈ os, o.ids isO) : OuOk (ouAdd ou k os) := by
  intro m o hm
  rcases Nat.lt_or_ge m k with h1 | h1
  · rw [ouAdd_old h1] at hm; exact h m o hm
  · obtain ⟨p, rfl⟩ : ∃ p, m = k + p := ⟨m - k, by omega⟩
    rw [ouAdd_new] at hm
    exact ho o (List.mem_of_getElem? hm)
def ouCut (ou : Outer) (k : Nat) : Outer := fun m => if m < k then ou m else none
theorem ouCut_some {ou : Outer} {k m : Nat} {o : AObj} (h : ouCut ou k m = some o) : ou m = some o := by
  unfold ouCut at h
  split at h
  · exact h
  · cases h
def RenameQ (ou : Outer) (t : LTr) (f : Int) (r : FV) (ou' : Outer) : Prop :=
  r = .one (int (rnL nm0 f t).2.2) ∧ Owns ou' (objs (rnL nm0 f t).1) ∧ OuOk ou' ∧ ∀ j, j ∉ keys (objs t) → ou' j = ou j
theorem Rename_ok (hΓ : ∀ g cs, (g, cs) ∈ Γ → idsL isO cs) (t : LTr) (hok : okL t) (ou : Outer) (ho : Owns ou (objs t)) (hnd : (keys (objs t)).Nodup) (f : Int) (hf0 : 0 ≤ f) (hf1 : f + nbL t ≤ 4611686018427387904) (hou0 : OuOk ou) :
    AFn Tryd.prog Γ 54 [.one (.ptr (.o t.id) 0), .one (int f)] ou (RenameQ ou t f) := by
  refine AFn.walk 13 tabOk Tryd.func54 rfl (by kernel_rfl) rfl rfl fun hou => ?_
  refine zA ?_
  refine AOps.step1 rfl rfl rfl (AStep.makeMap rfl) ?_
  refine zA ?_
  refine AOps.cedes [2, 1, 0, 3] rfl (by decide) hou fun k hk => ⟨[(9, .one (fnR k (k + 2) (k + 3))), (10, .one (.ptr (.o t.id) 0)), (3, .one (.ptr (.o (k + 2)) 0))], [], [.cells [.mp (.o (k + 1))], .map 0 (encI eN []), .cells [int f], .cells [fnR k (k + 2) (k + 3)]], ?_, .nil, ?_, ?_⟩
  · exact .cons rfl rfl (.cons rfl rfl (.cons rfl rfl .nil))
  · exact .cons rfl rfl (.cons rfl rfl (.cons rfl rfl (.cons rfl rfl .nil)))
  have hk' : ∀ m, k ≤ m → ou m = none := hk
  have hkl : ∀ j ∈ keys (objs t), j < k := fun j hj => by
    obtain ⟨p, hp, rfl⟩ := List.mem_map.1 hj
    exact ouAdd_lt hk' (ho p hp)
  obtain ⟨o1', ho1'⟩ : ∃ o1' : Outer, o1' = ouAdd ou k [.cells [.mp (.o (k + 1))], .map 0 (encI eN []), .cells [int f], .cells [fnR k (k + 2) (k + 3)]] := ⟨_, rfl⟩
  have g0 : o1' k = some (.cells [.mp (.o (k + 1))]) := by rw [ho1']; exact ouAdd_new 0
  have g1 : o1' (k + 1) = some (.map 0 (encI eN [])) := by rw [ho1']; exact ouAdd_new 1
  have g2 : o1' (k + 2) = some (.cells [int f]) := by rw [ho1']; exact ouAdd_new 2
  have g3 : o1' (k + 3) = some (.cells [fnR k (k + 2) (k + 3)]) := by rw [ho1']; exact ouAdd_new 3
  have g4 : ∀ j, j < k → o1' j = ou j := fun j hj => by rw [ho1']; exact ouAdd_old hj
  have g5 : OuOk o1' := by
    rw [ho1']
    refine ouAdd_ok hou0 fun o ho => ?_
    simp only [List.mem_cons, List.not_mem_nil, or_false] at ho
    rcases ho with rfl | rfl | rfl | rfl
    · simp
    · exact ids_mapN _ _ _
    · simp
    · simp [fnR]
  have hcall := rename1_ok hΓ t hok o1' k (k + 1) (k + 2) (k + 3) nm0 0 [] f ⟨g0, g1, IMOk.nil, g2⟩ g3 (ho.frame fun j hj => g4 j (hkl j hj)) hnd (fun j hj => by have := hkl j hj; omega) hf0 hf1 g5
  show AOps _ _ _ _ _ ⟨4, [], ouAdd ou k [.cells [.mp (.o (k + 1))], .map 0 (encI eN []), .cells [int f], .cells [fnR k (k + 2) (k + 3)]]⟩
  rw [← ho1']
  refine AOps.call1 hΓ rfl rfl rfl rfl rfl rfl rfl (by exact ⟨trivial, trivial, trivial, trivial, trivial⟩) g5 hcall fun r ow hq hids how => ?_
  obtain ⟨rfl, ck', l', hR', hO', hok', hfr'⟩ := hq
  refine zA ?_
  refine AOps.step1 rfl rfl rfl (AStep.loadOwn tabOk rfl rfl rfl rfl rfl hR'.f rfl) ?_
  refine AOps.lessO ⟨4, [], ouCut ow k⟩ rfl (fun i o hi => ?_) ?_
  · cases i with
    | l m => cases hi
    | o m => exact ouCut_some hi
  refine zA ?_
  refine AFn.fin' rfl (WkF.ofEq rfl) (by simp) (fun j o h => hok' j o (ouCut_some h)) ⟨rfl, fun p hp => ?_, fun j o h => hok' j o (ouCut_some h), fun j hj => ?_⟩
  · have hpk : p.1 ∈ keys (objs t) := by rw [← rnL_k t nm0 f]; exact List.mem_map_of_mem hp
    show ouCut ow k p.1 = some p.2
    unfold ouCut
    rw [if_pos (hkl _ hpk)]
    exact hO' p hp
  · show ouCut ow k j = ou j
    unfold ouCut
    by_cases e : j < k
    · rw [if_pos e, hfr' j (by omega) (by omega) hj, g4 j e]
    · rw [if_neg e, hk' j (by omega)]
end Go.Proofs.YtgdionbeeodaaaaDoor
namespace Go.Proofs.YtgdionbeeodaaaaDoor
open Go Go.Abs Go.CoreX
set_option maxRecDepth 10000
variable {Γ : List (Nat × List AC)}
theorem Wk.arr0 (i : Abs.Id) (s cap : Nat) : Wk (.arr i s 0 0 cap) (.sl s []) := by
  intro w C v h
  simp only [R] at h ⊢
  obtain ⟨_, rfl, hc⟩ := h
  exact ⟨_, cap, rfl, by simp, .inl trivial⟩
structure NewO (ou ou' : Outer) (L : List (Nat × AObj)) : Prop where
  own : Owns ou' L
  new : ∀ k ∈ keys L, ou k = none
  old : ∀ m, m ∉ keys L → ou' m = ou m
  ok : OuOk ou'
  nd : (keys L).Nodup
theorem NewO.nil {ou : Outer} (h : OuOk ou) : NewO ou ou [] := ⟨fun p hp => by simp at hp, fun k hk => by simp [keys] at hk, fun _ _ => rfl, h, by simp [keys]⟩
theorem NewO.trans {ou ou1 ou2 : Outer} {L M : List (Nat × AObj)} (h : NewO ou ou1 L) (k : NewO ou1 ou2 M) : NewO ou ou2 (L ++ M) := by
  have hLM : ∀ j ∈ keys L, j ∉ keys M := fun j hj hm => by
    have h1 := k.new j hm
    obtain ⟨p, hp, rfl⟩ := List.mem_map.1 hj
    rw [h.own p hp] at h1
    cases h1
  refine ⟨Owns.app.2 ⟨h.own.frame fun j hj => k.old j (hLM j hj), k.own⟩, fun j hj => ?_, fun m hm => ?_, k.ok, ?_⟩
  · rw [keys_app, List.mem_append] at hj
    by_cases e : j ∈ keys L
    · exact h.new j e
    · rw [← h.old j e]
      exact k.new j (hj.resolve_left e)
  · rw [keys_app, List.mem_append, not_or] at hm
    rw [k.old m hm.2, h.old m hm.1]
  · rw [keys_app, List.nodup_append]
    exact ⟨h.nd, k.nd, fun a ha b hb e => hLM a ha (e ▸ hb)⟩
theorem NewO.frame {ou ou' : Outer} {L M : List (Nat × AObj)} (h : NewO ou ou' L) (ho : Owns ou M) : Owns ou' M := ho.frame fun j hj => h.old j fun hm => by
  obtain ⟨p, hp, rfl⟩ := List.mem_map.1 hj
  have := h.new _ hm
  rw [ho p hp] at this
  cases this
def CloneQ (ou : Outer) (l : List Int) (r : FV) (ou' : Outer) : Prop := ∃ nb, ownB nb l ∧ r = .one (bC nb l) ∧ NewO ou ou' (bO nb l)
theorem CloneN_ok (l : List Int) (hl : l.length ≤ 1048576) (ou : Outer) : AFn Tryd.prog Γ 88 [.one (.sl 1 (l.map cI))] ou (CloneQ ou l) := by
  refine AFn.walk 8 tabOk Tryd.func88 rfl (by kernel_rfl) rfl rfl fun hou => ?_
  refine zA ?_
  refine AOps.nilTest rfl rfl rfl rfl Tryd.underlying35 rfl rfl fun b hb => ?_
  refine zA ?_
  refine ACode.cond rfl (fun hb2 => ?_) (fun hb2 => ?_)
  · have h0 : l = [] := by simpa using hb hb2
    subst h0
    refine zA ?_
    exact AFn.fin' rfl (.one (.nilS 1)) (by simp) hou ⟨none, fun _ => rfl, rfl, .nil hou⟩
  · clear hb
    refine zA ?_
    refine AOps.step1 rfl rfl rfl (AStep.buildOwn0 (s := 1) tabOk rfl rfl rfl rfl rfl) ?_
    refine zA ?_
    by_cases h0 : l = []
    · subst h0
      refine AOps.step1 rfl rfl rfl (AStep.appNone tabOk rfl rfl rfl rfl rfl rfl) ?_
      refine zA ?_
      exact AFn.fin' rfl (.one (Wk.arr0 _ _ _)) (by simp) hou ⟨none, fun _ => rfl, rfl, .nil hou⟩
    · refine AOps.appOwn tabOk rfl rfl rfl rfl rfl rfl rfl rfl rfl (.own 1 0 [] (.l 0) rfl (by simp) (by simp)) (.sl 1 (l.map cI)) (by simpa using h0) rfl (by simp; show _ * 8 ≤ _; omega) (by simp; omega) fun cap hc => ?_
      simp only [List.nil_append] at hc ⊢
      refine AOps.cedes [1] rfl (by decide) hou fun k hk => ⟨[(7, .one (.arr (.o k) 1 0 (l.map cI).length cap))], [], [.cells (vec 1 (l.map cI) cap)], .cons rfl rfl .nil, .nil, .cons rfl ?_ .nil, ?_⟩
      · exact AObj.sub_f (fun i hi => by cases i with | l q => exact hi.elim | o q => rfl) _ (show idsL isO (vec 1 (l.map cI) cap) from ids_vecI _ _ _)
      have hk' : ∀ m, k ≤ m → ou m = none := hk
      have hok : OuOk (ouAdd ou k [.cells (vec 1 (l.map cI) cap)]) := ouAdd_ok hou fun o ho => by simp at ho; subst ho; exact ids_vecI _ _ _
      refine zA ?_
      refine AFn.fin' rfl (WkF.ofEq rfl) (by simp) hok ⟨some (k, cap), (fun h => by cases h), rfl, fun p hp => ?_, fun j hj => ?_, fun m hm => ?_, hok, by simp [bO, keys]⟩
      · simp [bO] at hp; subst hp
        exact ouAdd_new 0
      · simp [bO, keys] at hj; subst hj; exact hk' _ (Nat.le_refl _)
      · simp [bO, keys] at hm
        show ouAdd ou k [.cells (vec 1 (l.map cI) cap)] m = ou m
        rcases Nat.lt_or_ge m k with h1 | h1
        · exact ouAdd_old h1
        · obtain ⟨p, rfl⟩ : ∃ p, m = k + p := ⟨m - k, by omega⟩
          rw [ouAdd_new, hk' _ h1]
          cases p with
          | zero => simp at hm
          | succ p => simp
end Go.Proofs.YtgdionbeeodaaaaDoor
namespace Go.CoreX
theorem cnt_kids : ∀ {e f : List Ex}, e.map (·.kids) = f.map (·.kids) → ∀ i, cnt e i = cnt f i
  | [], [], _, _ => rfl
  | [], _ :: _, h, _ => by simp at h
  | _ :: _, [], h, _ => by simp at h
  | x :: e, y :: f, h, i => by
    simp only [List.map_cons, List.cons.injEq] at h
    simp only [cnt, h.1, cnt_kids h.2 i]
def ixE (e : List Ex) : List Ex := e.mapIdx fun i x => { x with n := (i : Nat) }
theorem ixE_get {e : List Ex} {i : Nat} : (ixE e)[i]? = (e[i]?).map fun x => { x with n := (i : Nat) } := by simp [ixE]
theorem ixE_kids (e : List Ex) : (ixE e).map (·.kids) = e.map (·.kids) := by
  apply List.ext_getElem?
  intro i
  simp only [List.getElem?_map, ixE_get]
  cases e[i]? <;> rfl
theorem ixE_len (e : List Ex) : (ixE e).length = e.length := by simp [ixE]
theorem ixE_tree {e : List Ex} (h : IsTree e) : IsTree (ixE e) := by
  refine ⟨fun e0 => h.ne (by have := ixE_len e; rw [e0] at this; exact List.length_eq_zero_iff.1 (by simpa using this.symm)), fun j x hx => ?_, fun i hi => ?_⟩
  · rw [ixE_get] at hx
    cases he : e[j]? with
    | none => rw [he] at hx; cases hx
    | some y =>
      rw [he] at hx
      simp at hx; subst hx
      exact h.k j y he
  · rw [cnt_kids (ixE_kids e), ixE_len]
    exact h.c i (by rw [ixE_len] at hi; exact hi)
theorem labs_n (e : List Ex) : (labs e).map (·.n) = e.map (·.n) := by simp [labs, labE]
theorem ixE_n (e : List Ex) : (ixE e).map (·.n) = (List.range e.length).map fun i : Nat => (i : Int) := by
  apply List.ext_getElem?
  intro i
  simp only [List.getElem?_map, ixE_get]
  by_cases h : i < e.length
  · simp [h]
  · simp [h]
end Go.CoreX
namespace Go.Proofs.YtgdionbeeodaaaaDoor
open Go Go.Abs Go.CoreX
set_option maxRecDepth 10000
def ownO : LTr → List (Nat × AObj)
  | .mk i o n nb b k a => (bO nb b ++ aO a) ++ [(i, .cells [int o, int n, bC nb b, .sl 1 (kC k), .sl 2 (a.map lAlt)])]
theorem objs_mem : ∀ (t : LTr) (p : Nat × AObj), p ∈ objs t ↔ p ∈ ownO t ∨ p ∈ objss t.kids
  | .mk i o n nb b k a, p => by
    simp only [objs, ownO, LTr.kids, List.cons_append, List.mem_cons, List.mem_append, List.not_mem_nil, or_false]
    constructor
    · rintro (h | (h | h) | h) <;> simp [h]
    · rintro (((h | h) | h) | h) <;> simp [h]
theorem objs_count (k : Nat) : ∀ t : LTr, (keys (objs t)).count k = (keys (ownO t)).count k + (keys (objss t.kids)).count k
  | .mk i o n nb b ks a => by
    simp only [objs, ownO, LTr.kids, keys, List.map_cons, List.map_append, List.cons_append, List.count_cons, List.count_append, List.map_nil, List.count_nil]
    omega
structure LinkL (e : List Ex) (lts : List LTr) (B : Nb → List Int → Prop := ownB) : Prop where
  len : lts.length = e.length
  at_ : ∀ (i : Nat) (x : Ex), e[i]? = some x → ∃ id nb a, lts[i]? = some (.mk id x.op x.n nb x.binds (x.kids.map fun q => lts.getD q.toNat default) a) ∧ a.map LAlt.er = x.alts ∧ B nb x.binds ∧ ∀ y ∈ a, B y.nb y.binds
theorem LinkL.nil {B : Nb → List Int → Prop} : LinkL [] [] B := ⟨rfl, fun i x h => by simp at h⟩
theorem LinkL.snoc {B : Nb → List Int → Prop} {e : List Ex} {lts : List LTr} (h : LinkL e lts B) (hk : kidsIn e) {x : Ex} (hx : ∀ q ∈ x.kids, 0 ≤ q ∧ q < (e.length : Int)) {id : Nat} {nb : Nb} {a : List LAlt} (ha : a.map LAlt.er = x.alts) (hb : B nb x.binds) (hab : ∀ y ∈ a, B y.nb y.binds) :
    LinkL (e ++ [x]) (lts ++ [.mk id x.op x.n nb x.binds (x.kids.map fun q => lts.getD q.toNat default) a]) B := by
  have hgd : ∀ (q : Int), 0 ≤ q → q < (e.length : Int) → ∀ t, (lts ++ [t]).getD q.toNat default = lts.getD q.toNat default := fun q h0 h1 t => getD_app (by rw [h.len]; omega)
  refine ⟨by simp [h.len], fun i y hy => ?_⟩
  by_cases hi : i < e.length
  · rw [List.getElem?_append_left hi] at hy
    obtain ⟨id', nb', a', h1, h2, h3, h4⟩ := h.at_ i y hy
    refine ⟨id', nb', a', ?_, h2, h3, h4⟩
    rw [List.getElem?_append_left (by rw [h.len]; exact hi), h1]
    congr 2
    refine List.map_congr_left fun q hq => ?_
    have := hk i y hy q hq
    exact (hgd q this.1 (by omega) _).symm
  · have hie : i = e.length := by
      have := (List.getElem?_eq_some_iff.1 hy).1
      simp at this; omega
    subst hie
    simp at hy
    subst hy
    refine ⟨id, nb, a, ?_, ha, hb, hab⟩
    rw [← h.len, List.getElem?_append_right (by simp)]
    simp only [Nat.sub_self, List.getElem?_cons_zero]
    congr 2
    exact List.map_congr_left fun q hq => (hgd q (hx q hq).1 (hx q hq).2 _).symm
section
variable {e : List Ex} {lts : List LTr} {B : Nb → List Int → Prop}
theorem LinkL.getD (h : LinkL e lts B) {i : Nat} {t : LTr} (ht : lts[i]? = some t) : lts.getD i default = t := by rw [List.getD_eq_getElem?_getD, ht]; rfl
theorem LinkL.er (h : LinkL e lts B) (hk : kidsIn e) : ∀ (n i : Nat) (t : LTr), i < n → lts[i]? = some t → erT t = treeAt e i
  | 0, i, t, hi, _ => by omega
  | n + 1, i, t, hi, ht => by
    have hil : i < e.length := by rw [← h.len]; exact (List.getElem?_eq_some_iff.1 ht).1
    obtain ⟨x, hx⟩ := get_of_lt hil
    obtain ⟨id, nb, a, h1, h2, _⟩ := h.at_ i x hx
    rw [ht] at h1
    cases h1
    rw [treeAt_node hk hx]
    simp only [erT, h2, erTs_eq, List.map_map]
    congr 1
    refine List.map_congr_left fun q hq => ?_
    have hq' := hk i x hx q hq
    obtain ⟨t', ht'⟩ := get_of_lt (l := lts) (i := q.toNat) (by rw [h.len]; omega)
    simp only [Function.comp, h.getD ht']
    exact h.er hk n q.toNat t' (by omega) ht'
theorem LinkL.own (h : LinkL e lts B) (hk : kidsIn e) : ∀ (n i : Nat) (t : LTr), i < n → lts[i]? = some t → ∀ p ∈ objs t, p ∈ lts.flatMap ownO
  | 0, i, t, hi, _ => by omega
  | n + 1, i, t, hi, ht => fun p hp => by
    have hil : i < e.length := by rw [← h.len]; exact (List.getElem?_eq_some_iff.1 ht).1
    obtain ⟨x, hx⟩ := get_of_lt hil
    obtain ⟨id, nb, a, h1, _⟩ := h.at_ i x hx
    rw [ht] at h1
    rcases (objs_mem t p).1 hp with hp | hp
    · exact List.mem_flatMap.2 ⟨t, List.mem_of_getElem? ht, hp⟩
    · cases h1
      simp only [LTr.kids, objss_eq] at hp
      obtain ⟨u, hu, hpu⟩ := List.mem_flatMap.1 hp
      obtain ⟨q, hq, rfl⟩ := List.mem_map.1 hu
      have hq' := hk i x hx q hq
      obtain ⟨t', ht'⟩ := get_of_lt (l := lts) (i := q.toNat) (by rw [h.len]; omega)
      rw [h.getD ht'] at hpu
      exact h.own hk n q.toNat t' (by omega) ht' p hpu
def ownC (lts : List LTr) (k : Nat) (l : Lab) : Int := ((keys (ownO (lts.getD l.n.toNat default))).count k : Nat)
theorem objss_count (k : Nat) : ∀ l : List LTr, (((keys (objss l)).count k : Nat) : Int) = (l.map fun t => (((keys (objs t)).count k : Nat) : Int)).sum
  | [] => by simp [objss, keys]
  | t :: l => by
    have := objss_count k l
    simp only [keys] at this
    simp only [objss, keys, List.map_append, List.count_append, List.map_cons, List.sum_cons, ← this]
    push_cast; rfl
theorem LinkL.count (h : LinkL e lts B) (hk : kidsIn e) (k : Nat) : ∀ (n i : Nat) (t : LTr), i < n → lts[i]? = some t → sumT (ownC lts k) (treeAt (ixE e) i) = ((keys (objs t)).count k : Nat)
  | 0, i, t, hi, _ => by omega
  | n + 1, i, t, hi, ht => by
    have hil : i < e.length := by rw [← h.len]; exact (List.getElem?_eq_some_iff.1 ht).1
    obtain ⟨x, hx⟩ := get_of_lt hil
    obtain ⟨id, nb, a, h1, _⟩ := h.at_ i x hx
    rw [ht] at h1
    have hki : kidsIn (ixE e) := fun j y hy => by
      rw [ixE_get] at hy
      cases he : e[j]? with
      | none => rw [he] at hy; cases hy
      | some z =>
        rw [he] at hy
        simp at hy; subst hy
        exact hk j z he
    have hxi : (ixE e)[i]? = some { x with n := (i : Nat) } := by rw [ixE_get, hx]; rfl
    rw [treeAt_node hki hxi]
    simp only [sumT, sumTs_eq, List.map_map]
    rw [objs_count]
    have e1 : ownC lts k ⟨x.op, (i : Nat), x.binds, x.kids.map (Tr.op ∘ fun k => treeAt (ixE e) k.toNat), x.alts⟩ = ((keys (ownO t)).count k : Nat) := by
      unfold ownC
      simp only [Int.toNat_natCast, h.getD ht]
    have e2 : (x.kids.map (sumT (ownC lts k) ∘ fun k => treeAt (ixE e) k.toNat)).sum = ((keys (objss t.kids)).count k : Nat) := by
      rw [objss_count]
      cases h1
      simp only [LTr.kids, List.map_map]
      congr 1
      refine List.map_congr_left fun q hq => ?_
      have hq' := hk i x hx q hq
      obtain ⟨t', ht'⟩ := get_of_lt (l := lts) (i := q.toNat) (by rw [h.len]; omega)
      simp only [Function.comp, h.getD ht']
      exact h.count hk k n q.toNat t' (by omega) ht'
    rw [e1, e2]
    push_cast; rfl
theorem flat_count (k : Nat) : ∀ lts : List LTr, (((keys (lts.flatMap ownO)).count k : Nat) : Int) = (lts.map fun t => (((keys (ownO t)).count k : Nat) : Int)).sum
  | [] => by simp [keys]
  | t :: l => by
    have := flat_count k l
    simp only [keys] at this
    simp only [List.flatMap_cons, keys, List.map_append, List.count_append, List.map_cons, List.sum_cons, ← this]
    push_cast; rfl
theorem LinkL.nodup (h : LinkL e lts B) (ht : IsTree e) (hn : (keys (lts.flatMap ownO)).Nodup) {t : LTr} (hr : lts[e.length - 1]? = some t) : (keys (objs t)).Nodup := by
  rw [List.nodup_iff_count]
  intro k
  have h1 := h.count ht.k k _ _ t (Nat.lt_succ_self _) hr
  have h2 := sum_tree (ownC lts k) (ixE_tree ht)
  have h3 : grow (ixE e) = treeAt (ixE e) (e.length - 1) := by unfold grow treeAt; rw [ixE_len]
  rw [h3, h1] at h2
  have h4 : ((labs (ixE e)).map (ownC lts k)) = lts.map fun t => (((keys (ownO t)).count k : Nat) : Int) := by
    have e1 : (labs (ixE e)).map (ownC lts k) = ((labs (ixE e)).map (·.n)).map fun n : Int => (((keys (ownO (lts.getD n.toNat default))).count k : Nat) : Int) := by
      rw [List.map_map]; rfl
    rw [e1, labs_n, ixE_n, List.map_map]
    apply List.ext_getElem?
    intro i
    by_cases hi : i < e.length
    · obtain ⟨t', ht'⟩ := get_of_lt (l := lts) (i := i) (by rw [h.len]; exact hi)
      simp only [List.getElem?_map, List.getElem?_range hi, Option.map_some, Function.comp, Int.toNat_natCast, h.getD ht', ht']
    · rw [List.getElem?_eq_none (by simp; omega), List.getElem?_eq_none (by simp [h.len]; omega)]
  rw [h4, ← flat_count] at h2
  have h5 := List.nodup_iff_count.1 hn k
  omega
theorem LinkL.ok (h : LinkL e lts) (hk : kidsIn e) (hs : ∀ x ∈ e, x.binds.length ≤ 1048576 ∧ x.kids.length ≤ 1048576 ∧ x.alts.length ≤ 1048576 ∧ ∀ a ∈ x.alts, a.binds.length ≤ 1048576) : ∀ (n i : Nat) (t : LTr), i < n → lts[i]? = some t → okL t
  | 0, i, t, hi, _ => by omega
  | n + 1, i, t, hi, ht => by
    have hil : i < e.length := by rw [← h.len]; exact (List.getElem?_eq_some_iff.1 ht).1
    obtain ⟨x, hx⟩ := get_of_lt hil
    obtain ⟨id, nb, a, h1, h2, h3, h4⟩ := h.at_ i x hx
    obtain ⟨s1, s2, s3, s4⟩ := hs x (List.mem_of_getElem? hx)
    rw [ht] at h1
    cases h1
    refine ⟨fun _ => h3, s1, by simpa using s2, by have := congrArg List.length h2; simp at this; omega, fun y hy => ⟨h4 y hy, ?_⟩, okLs_iff.2 fun u hu => ?_⟩
    · exact s4 y.er (by rw [← h2]; exact List.mem_map_of_mem hy)
    · obtain ⟨q, hq, rfl⟩ := List.mem_map.1 hu
      have hq' := hk i x hx q hq
      obtain ⟨t', ht'⟩ := get_of_lt (l := lts) (i := q.toNat) (by rw [h.len]; omega)
      rw [h.getD ht']
      exact h.ok hk hs n q.toNat t' (by omega) ht'
end
end Go.Proofs.YtgdionbeeodaaaaDoor
namespace Go.Proofs.YtgdionbeeodaaaaDoor
open Go Go.Abs Go.CoreX
set_option maxRecDepth 10000
variable {Γ : List (Nat × List AC)}
def nodesL (ts : List LTr) (n : Nat) : List AC := ts.map (fun t => .ptr (.o t.id) 0) ++ List.replicate (n - ts.length) (.lit (.pointer none))
theorem nodesL_nil (n : Nat) : nodesL [] n = List.replicate n (.lit (.pointer none)) := by simp [nodesL]
theorem nodesL_len {ts : List LTr} {n : Nat} (h : ts.length ≤ n) : (nodesL ts n).length = n := by simp [nodesL]; omega
theorem nodesL_get {ts : List LTr} {n k : Nat} {t : LTr} (h : ts[k]? = some t) : (nodesL ts n)[k]? = some (.ptr (.o t.id) 0) := by
  have hk := (List.getElem?_eq_some_iff.1 h).1
  unfold nodesL
  rw [List.getElem?_append_left (by simpa using hk)]
  simp [h]
theorem nodesL_set {ts : List LTr} {n : Nat} (h : ts.length < n) (t : LTr) : (nodesL ts n).set ts.length (.ptr (.o t.id) 0) = nodesL (ts ++ [t]) n := by
  unfold nodesL
  rw [List.set_append_right _ _ (by simp)]
  simp only [List.length_map, Nat.sub_self, List.map_append, List.map_cons, List.map_nil, List.append_assoc, List.length_append, List.length_singleton]
  congr 1
  rw [show n - ts.length = (n - (ts.length + 1)) + 1 by omega, List.replicate_succ]
  rfl
theorem ids_nodesL (p : Abs.Id → Prop) (hp : ∀ k, p (.o k)) (ts : List LTr) (n : Nat) : idsL p (nodesL ts n) := by
  refine idsL_app ?_ (ids_zs p _ _)
  induction ts with
  | nil => trivial
  | cons t ts ih => exact ⟨hp _, ih⟩
@[simp] theorem ids_nodesL_l (k : Nat) (ts : List LTr) (n : Nat) : idsL (inL k) (nodesL ts n) := ids_nodesL _ (fun _ => trivial) ts n
@[simp] theorem ids_nodesL_o (ts : List LTr) (n : Nat) : idsL isO (nodesL ts n) := ids_nodesL _ (fun _ => trivial) ts n
theorem kC_snoc (l : List LTr) (t : LTr) : kC (l ++ [t]) = kC l ++ [[.ptr (.o t.id) 0]] := by simp [kC]
def kidsL (ts : List LTr) (ks : List Int) : List LTr := ks.map fun k => ts.getD k.toNat default
theorem kidsL_succ {ts : List LTr} {ks : List Int} {i : Nat} {k : Int} (h : ks[i]? = some k) : kidsL ts (ks.take (i + 1)) = kidsL ts (ks.take i) ++ [ts.getD k.toNat default] := by
  simp [kidsL, List.take_add_one, h]
@[simp] theorem ids_kC_l (k : Nat) (ts : List LTr) : idsS (inL k) (kC ts) := ids_kC _ (fun _ => trivial) ts
@[simp] theorem ids_kC_o (ts : List LTr) : idsS isO (kC ts) := ids_kC _ (fun _ => trivial) ts
@[simp] theorem ids_lAlts_l (k : Nat) (l : List LAlt) : idsS (inL k) (l.map lAlt) := ids_lAlts _ (fun _ => trivial) l
@[simp] theorem ids_lAlts_o (l : List LAlt) : idsS isO (l.map lAlt) := ids_lAlts _ (fun _ => trivial) l
@[simp] theorem ids_bC_l (k : Nat) (nb : Nb) (l : List Int) : (bC nb l).ids (inL k) := ids_bC _ (fun _ => trivial) nb l
@[simp] theorem ids_bC_o (nb : Nb) (l : List Int) : (bC nb l).ids isO := ids_bC _ (fun _ => trivial) nb l
@[simp] theorem ren_kC (ρ : Nat → Nat) (l : List LTr) : renS ρ (kC l) = kC l := renS_pure ρ _ (ids_kC_o l)
@[simp] theorem ren_lAlts (ρ : Nat → Nat) (l : List LAlt) : renS ρ (l.map lAlt) = l.map lAlt := renS_pure ρ _ (ids_lAlts_o l)
@[simp] theorem ren_bC (ρ : Nat → Nat) (nb : Nb) (l : List Int) : (bC nb l).ren ρ = bC nb l := by cases nb <;> simp [bC, AC.ren, Abs.Id.ren]
theorem NewO.add {ou : Outer} {k : Nat} {o : AObj} (hk : ∀ m, k ≤ m → ou m = none) (hou : OuOk ou) (ho : o.ids isO) : NewO ou (ouAdd ou k [o]) [(k, o)] := by
  refine ⟨fun p hp => ?_, fun j hj => ?_, fun m hm => ?_, ouAdd_ok hou fun q hq => by simp at hq; subst hq; exact ho, by simp [keys]⟩
  · simp at hp; subst hp
    exact ouAdd_new 0
  · simp [keys] at hj; subst hj; exact hk _ (Nat.le_refl _)
  · simp [keys] at hm
    rcases Nat.lt_or_ge m k with h1 | h1
    · exact ouAdd_old h1
    · obtain ⟨p, rfl⟩ : ∃ p, m = k + p := ⟨m - k, by omega⟩
      rw [ouAdd_new, hk _ h1]
      cases p with
      | zero => simp at hm
      | succ p => simp
def GrowQ (e : List Ex) (ou : Outer) (r : FV) (ou' : Outer) : Prop := ∃ t : LTr, r = .one (.ptr (.o t.id) 0) ∧ erT t = grow e ∧ okL t ∧ Owns ou' (objs t) ∧ (keys (objs t)).Nodup ∧ (∀ k ∈ keys (objs t), ou k = none) ∧ OuOk ou' ∧ ∀ j o, ou j = some o → ou' j = some o
set_option maxHeartbeats 1000000 in
theorem GrowN_ok (hΓ : ∀ g cs, (g, cs) ∈ Γ → idsL isO cs) (e : List Ex) (he : okE e) (hin : kidsIn e) (hT : IsTree e) (ou : Outer) : AFn Tryd.prog Γ 53 [.one (.sl 5 (e.map cEx))] ou (GrowQ e ou) := by
  have hel := he.l
  refine AFn.walk 85 tabOk Tryd.func53 rfl (by kernel_rfl) rfl rfl fun hou => ?_
  refine zA ?_
  have hb : ti70.bytes * (e.map cEx).length ≤ 281474976710656 := by simp; show 8 * _ ≤ _; omega
  have hb2 : (e.map cEx).length ≤ 281474976710656 := by simp; omega
  refine AOps.step1 rfl rfl rfl (AStep.makeArr tabOk rfl rfl rfl rfl rfl rfl rfl rfl hb hb2) ?_
  refine zA ?_
  refine ACode.loopR hΓ (α := Nat × List LTr × Outer) (fun c => [(16, .one (int c.1)), (15, .one (int (e.map cEx).length)), (14, .one (.sl 5 (e.map cEx))), (3, .one (.arr (.l 0) 1 0 (e.map cEx).length (e.map cEx).length)), (0, .one (.sl 5 (e.map cEx)))])
    (fun c => ⟨1, [(0, .cells (nodesL c.2.1 (e.map cEx).length))], c.2.2⟩) (fun m c => c.1 ≤ e.length ∧ (LinkL (e.take c.1) c.2.1 ∧ NewO ou c.2.2 (c.2.1.flatMap ownO)) ∧ m = e.length - c.1) (a0 := (0, [], ou)) (ρ := id) ⟨by omega, ⟨LinkL.nil, .nil hou⟩, rfl⟩
    (LessR.of rfl (by (repeat' first | exact FrSub.nil | refine zfc ?_ | refine zfo ?_ | refine zfp ?_)) (by simp) (LoSub.cons rfl (by rw [AObj.ren_pure _ _ (by simp)]; show AObj.cells (List.replicate _ _) = AObj.cells (nodesL [] _); rw [nodesL_nil]) rfl (by simp) .nil) rfl rfl hou) fun m c hc => ?_
  obtain ⟨j, lts, ov⟩ := c
  obtain ⟨hjl, ⟨hL, hN⟩, rfl⟩ := hc
  dsimp only at hjl hL hN
  have hov := hN.ok
  refine zA ?_
  refine ACode.cond rfl (fun hb2 => ?_) (fun hb2 => ?_)
  · have hlt : j < e.length := by simpa using hb2
    obtain ⟨x, hx⟩ := get_of_lt hlt
    have hxo := he.x x (List.mem_of_getElem? hx)
    have hxk := hxo.k
    have hxa := hxo.a
    have hxin := hin j x hx
    have hgl : lts.length = j := by rw [hL.len]; simp; omega
    refine zA ?_
    refine AOps.step1 rfl rfl rfl (AStep.indexAddr tabOk rfl rfl rfl rfl rfl rfl (.inl rfl) rfl (by omega) (map_get hx)) ?_
    refine zA ?_
    refine ACode.drawC tabOk 9 [6, 7, 8] [] (fun vs σ => match vs with
        | [] => σ = ⟨2, [(1, .cells (cEx x)), (1, .cells (ti53.zero.map .lit)), (0, .cells (nodesL lts (e.map cEx).length))], ov⟩
        | [a] => ∃ nb ow, ownB nb x.binds ∧ NewO ov ow (bO nb x.binds) ∧ a = .one (bC nb x.binds) ∧ σ = ⟨2, [(1, .cells (cEx x)), (1, .cells (ti53.zero.map .lit)), (0, .cells (nodesL lts (e.map cEx).length))], ow⟩
        | [a, b] => ∃ nb ow, ownB nb x.binds ∧ NewO ov ow (bO nb x.binds) ∧ a = .one (bC nb x.binds) ∧ b = .agg [int x.op, int x.n, bC nb x.binds, .lit (.slice none 0 0), .lit (.slice none 0 0)] ∧ σ = ⟨2, [(1, .cells (cEx x)), (1, .cells (ti53.zero.map .lit)), (0, .cells (nodesL lts (e.map cEx).length))], ow⟩
        | [a, b, c] => ∃ nb ow, ownB nb x.binds ∧ NewO ov ow (bO nb x.binds) ∧ a = .one (bC nb x.binds) ∧ b = .agg [int x.op, int x.n, bC nb x.binds, .lit (.slice none 0 0), .lit (.slice none 0 0)] ∧ c = .one (.ptr (.l 2) 0) ∧ σ = ⟨3, [(2, .cells [int x.op, int x.n, bC nb x.binds, .lit (.slice none 0 0), .lit (.slice none 0 0)]), (1, .cells (cEx x)), (1, .cells (ti53.zero.map .lit)), (0, .cells (nodesL lts (e.map cEx).length))], ow⟩
        | _ => False) follows (by kernel_rfl) rfl rfl (by decide) (by kernel_rfl) (by kernel_rfl) rfl rfl ?_ (fun _ _ _ => .nil) (by decide) ?_ ?_
    · rintro vs σ hG
      match vs, hG with
      | [], hG => subst hG; rfl
      | [a], hG => obtain ⟨nb, ow, _, _, _, rfl⟩ := hG; rfl
      | [a, b], hG => obtain ⟨nb, ow, _, _, _, _, rfl⟩ := hG; rfl
      | [a, b, c], hG => obtain ⟨nb, ow, _, _, _, _, _, rfl⟩ := hG; rfl
    · rintro vs σ hG i o hi ho
      match vs, hG with
      | [], hG =>
        subst hG
        cases hi
        cases ho
        refine ⟨rfl, rfl, .inr ⟨rfl, AStepR.call hΓ rfl rfl rfl rfl (by simp) hov (CloneN_ok x.binds hxo.b ov) fun r ow hq _ _ => ?_⟩⟩
        obtain ⟨nb, h1, rfl, h2⟩ := hq
        exact ⟨nb, ow, h1, h2, rfl, rfl⟩
      | [a], hG =>
        obtain ⟨nb, ow, h1, h2, rfl, rfl⟩ := hG
        cases hi
        cases ho
        exact ⟨rfl, rfl, .inl ⟨_, _, HStep.auto tabOk rfl, nb, ow, h1, h2, rfl, rfl, rfl⟩⟩
      | [a, b], hG =>
        obtain ⟨nb, ow, h1, h2, rfl, rfl, rfl⟩ := hG
        cases hi
        cases ho
        exact ⟨rfl, rfl, .inl ⟨_, _, HStep.auto tabOk rfl, nb, ow, h1, h2, rfl, rfl, rfl, rfl⟩⟩
      | [a, b, c], hG => cases hi
    rintro vs σ hlen hG
    match vs, hlen, hG with
    | [a, b, c], _, hG =>
    obtain ⟨nb, ow, hnb, hNb, rfl, rfl, rfl, rfl⟩ := hG
    have how := hNb.ok
    refine zA ?_
    refine ACode.grow 2 3 70 1 rfl rfl ?_
    refine ACode.loopR hΓ (α := Nat) (fun i => [(33, .one (int i)), (32, .one (int (x.kids.map cI).length)), (31, .one (.sl 1 (x.kids.map cI))), (6, .one (.ptr (.l 2) 0)), (5, .one (.ptr (.l 1) 0)), (4, .one (int j)), (16, .one (int j)), (15, .one (int (e.map cEx).length)), (14, .one (.sl 5 (e.map cEx))), (3, .one (.arr (.l 0) 1 0 (e.map cEx).length (e.map cEx).length)), (0, .one (.sl 5 (e.map cEx)))])
      (fun i => ⟨4, [(3, .tok 70 1 i), (2, .cells [int x.op, int x.n, bC nb x.binds, .gs 1 (kC (kidsL lts (x.kids.take i))) (.l 3), .lit (.slice none 0 0)]), (1, .cells (cEx x)), (0, .cells (nodesL lts (e.map cEx).length))], ow⟩)
      (fun m i => i ≤ x.kids.length ∧ m = x.kids.length - i) (a0 := 0) (ρ := id) ⟨by omega, rfl⟩ (LessR.of rfl (by (repeat' first | exact FrSub.nil | refine zfc ?_ | refine zfo ?_ | refine zfp ?_)) (by simp) ?_ rfl rfl how) fun m i hi => ?_
    · repeat' first | exact LoSub.nil | refine zlc ?_ | refine zld ?_ ?_ | rfl
      all_goals (simp [AObj.ren, renL, AC.ren, kidsL]; exact ⟨rfl, rfl⟩)
    obtain ⟨hil, rfl⟩ := hi
    refine zA ?_
    refine ACode.cond rfl (fun hb3 => ?_) (fun hb3 => ?_)
    · have hlt2 : i < x.kids.length := by simpa using hb3
      obtain ⟨k, hk⟩ := get_of_lt hlt2
      have hkb := hxin k (List.mem_of_getElem? hk)
      obtain ⟨k', rfl⟩ : ∃ k' : Nat, k = k' := ⟨k.toNat, by omega⟩
      obtain ⟨tk, htk⟩ := get_of_lt (l := lts) (i := k') (by omega)
      have htd : (lts).getD (k' : Int).toNat default = tk := by rw [Int.toNat_natCast, List.getD_eq_getElem?_getD, htk]; rfl
      have hks := kidsL_succ (ts := lts) hk
      rw [htd] at hks
      have hkl : (kC (kidsL lts (x.kids.take i))).length = i := by simp [kC, kidsL]; omega
      refine zA ?_
      refine AOps.step1 rfl rfl rfl (AStep.indexAddr tabOk rfl rfl rfl rfl rfl rfl (.inl rfl) rfl (by omega) (map_get hk)) ?_
      refine zA ?_
      refine ACode.drawXH (va := .one (.gs 1 (kC (kidsL lts (x.kids.take i)) ++ [[AC.ptr (.o tk.id) 0]]) (.l 4))) (σ1 := ((St.mk 4 [(3, .tok 70 1 i), (2, .cells [int x.op, int x.n, bC nb x.binds, .gs 1 (kC (kidsL lts (x.kids.take i))) (.l 3), .lit (.slice none 0 0)]), (1, .cells (cEx x)), (0, .cells (nodesL lts (e.map cEx).length))] ow).set (.l 3) .dead).push (.tok 70 1 (kC (kidsL lts (x.kids.take i)) ++ [[AC.ptr (.o tk.id) 0]]).length))
        tabOk 11 10 [(7, .one (.ptr (.l 0) k')), (8, .one (.ptr (.o tk.id) 0))] follows (by kernel_rfl) rfl rfl rfl rfl rfl rfl rfl ?_ ?_ ?_ ?_
      · refine HStep.plain rfl (AStep.append (s := 1) (es := kC (kidsL lts (x.kids.take i))) (news := [[AC.ptr (.o tk.id) 0]]) (ti := ti71) (σ := ⟨4, [(3, .tok 70 1 i), (2, .cells [int x.op, int x.n, bC nb x.binds, .gs 1 (kC (kidsL lts (x.kids.take i))) (.l 3), .lit (.slice none 0 0)]), (1, .cells (cEx x)), (0, .cells (nodesL lts (e.map cEx).length))], ow⟩) tabOk rfl rfl rfl rfl rfl rfl (Base.gs' _ 70 1 (kC (kidsL lts (x.kids.take i))) (.l 3) rfl hkl.symm) (.sl _ _) rfl ?_ ?_)
        · rw [hkl]; show (i + 1) * 8 ≤ _; omega
        · rw [hkl]; show i + 1 ≤ _; omega
      · refine .step rfl (HStep.plain rfl (idxI tabOk rfl rfl rfl rfl rfl rfl rfl (by simp; omega))) ?_
        exact .step rfl (HStep.plain rfl (AStep.loadOwn tabOk rfl rfl rfl rfl rfl rfl (nodesL_get htk))) .nil
      · refine .step rfl (HStep.plain rfl (idxI tabOk rfl rfl rfl rfl rfl rfl rfl (by simp; omega))) ?_
        exact .step rfl (HStep.plain rfl (AStep.loadOwn tabOk rfl rfl rfl rfl rfl rfl (nodesL_get htk))) .nil
      refine zM ?_
      refine cInv ⟨x.kids.length - (i + 1), i + 1, fun k => if k = 3 then 4 else k, by omega, ⟨by omega, rfl⟩, LessR.of rfl (by (repeat' first | exact FrSub.nil | refine zfc ?_ | refine zfo ?_ | refine zfp ?_)) (by simp) ?_ rfl rfl how⟩
      repeat' first | exact LoSub.nil | refine zlc ?_ | refine zld ?_ ?_ | rfl
      · simp only [AObj.ren, List.length_append, hkl]; rfl
      · rw [hks, kC_snoc]; simp only [AObj.ren, renL, AC.ren, ren_bC]; rw [← kC_snoc, ren_kC]; rfl
    have hlt2 : i = x.kids.length := by simp at hb3; omega
    subst hlt2
    rw [List.take_length]
    refine zA ?_
    refine ACode.grow 2 4 89 2 rfl rfl ?_
    refine ACode.loopR hΓ (α := Nat × Outer × List LAlt) (fun c => [(54, .one (int c.1)), (53, .one (int (x.alts.map cAlt).length)), (52, .one (.sl 2 (x.alts.map cAlt))), (6, .one (.ptr (.l 2) 0)), (4, .one (int j)), (16, .one (int j)), (15, .one (int (e.map cEx).length)), (14, .one (.sl 5 (e.map cEx))), (3, .one (.arr (.l 0) 1 0 (e.map cEx).length (e.map cEx).length)), (0, .one (.sl 5 (e.map cEx)))])
      (fun c => ⟨5, [(4, .tok 89 2 c.1), (2, .cells [int x.op, int x.n, bC nb x.binds, .gs 1 (kC (kidsL lts x.kids)) (.l 3), .gs 2 (c.2.2.map lAlt) (.l 4)]), (0, .cells (nodesL lts (e.map cEx).length))], c.2.1⟩)
      (fun m c => c.1 ≤ x.alts.length ∧ (c.2.2.map LAlt.er = x.alts.take c.1 ∧ (∀ y ∈ c.2.2, ownB y.nb y.binds) ∧ NewO ow c.2.1 (aO c.2.2)) ∧ m = x.alts.length - c.1) (a0 := (0, ow, [])) (ρ := id) ⟨by omega, ⟨rfl, by simp, .nil how⟩, rfl⟩ (LessR.of rfl (by (repeat' first | exact FrSub.nil | refine zfc ?_ | refine zfo ?_ | refine zfp ?_)) (by simp) ?_ rfl rfl how) fun m c hc => ?_
    · repeat' first | exact LoSub.nil | refine zlc ?_ | refine zld ?_ ?_ | rfl
      all_goals (simp [AObj.ren, renL, AC.ren]; exact ⟨rfl, rfl⟩)
    obtain ⟨i, oy, la⟩ := c
    obtain ⟨hil, ⟨hla, hlo, hNa⟩, rfl⟩ := hc
    dsimp only at hil hla hlo hNa
    have hoy := hNa.ok
    have hll : la.length = i := by have := congrArg List.length hla; simp at this; omega
    have hal : (la.map lAlt).length = i := by simp [hll]
    refine zA ?_
    refine ACode.cond rfl (fun hb3 => ?_) (fun hb3 => ?_)
    · have hlt2 : i < x.alts.length := by simpa using hb3
      obtain ⟨a, ha⟩ := get_of_lt hlt2
      refine zA ?_
      refine AOps.step1 rfl rfl rfl (AStep.indexAddr tabOk rfl rfl rfl rfl rfl rfl (.inl rfl) rfl (by omega) (map_get ha)) ?_
      refine zA ?_
      refine ACode.drawC tabOk 13 [9, 10, 11, 12] [] (fun vs σ => match vs with
          | [] => σ = ⟨6, [(5, .cells (cAlt a)), (5, .cells (ti89.zero.map .lit)), (4, .tok 89 2 i), (2, .cells [int x.op, int x.n, bC nb x.binds, .gs 1 (kC (kidsL lts x.kids)) (.l 3), .gs 2 (la.map lAlt) (.l 4)]), (0, .cells (nodesL lts (e.map cEx).length))], oy⟩
          | [q1] => ∃ nc oz, ownB nc a.binds ∧ NewO oy oz (bO nc a.binds) ∧ q1 = .one (bC nc a.binds) ∧ σ = ⟨6, [(5, .cells (cAlt a)), (5, .cells (ti89.zero.map .lit)), (4, .tok 89 2 i), (2, .cells [int x.op, int x.n, bC nb x.binds, .gs 1 (kC (kidsL lts x.kids)) (.l 3), .gs 2 (la.map lAlt) (.l 4)]), (0, .cells (nodesL lts (e.map cEx).length))], oz⟩
          | [q1, q2] => ∃ nc oz, ownB nc a.binds ∧ NewO oy oz (bO nc a.binds) ∧ q1 = .one (bC nc a.binds) ∧ q2 = .agg [int a.tag, bC nc a.binds] ∧ σ = ⟨6, [(5, .cells (cAlt a)), (5, .cells (ti89.zero.map .lit)), (4, .tok 89 2 i), (2, .cells [int x.op, int x.n, bC nb x.binds, .gs 1 (kC (kidsL lts x.kids)) (.l 3), .gs 2 (la.map lAlt) (.l 4)]), (0, .cells (nodesL lts (e.map cEx).length))], oz⟩
          | [q1, q2, q3] => ∃ nc oz, ownB nc a.binds ∧ NewO oy oz (bO nc a.binds) ∧ q1 = .one (bC nc a.binds) ∧ q2 = .agg [int a.tag, bC nc a.binds] ∧ q3 = .one (.sl 2 [[int a.tag, bC nc a.binds]]) ∧ σ = ⟨6, [(5, .cells (cAlt a)), (5, .cells (ti89.zero.map .lit)), (4, .tok 89 2 i), (2, .cells [int x.op, int x.n, bC nb x.binds, .gs 1 (kC (kidsL lts x.kids)) (.l 3), .gs 2 (la.map lAlt) (.l 4)]), (0, .cells (nodesL lts (e.map cEx).length))], oz⟩
          | [q1, q2, q3, q4] => ∃ nc oz, ownB nc a.binds ∧ NewO oy oz (bO nc a.binds) ∧ q1 = .one (bC nc a.binds) ∧ q2 = .agg [int a.tag, bC nc a.binds] ∧ q3 = .one (.sl 2 [[int a.tag, bC nc a.binds]]) ∧ q4 = .one (.gs 2 (la.map lAlt ++ [[int a.tag, bC nc a.binds]]) (.l 6)) ∧ σ = ⟨7, [(6, .tok 89 2 (la.map lAlt ++ [[int a.tag, bC nc a.binds]]).length), (4, .dead), (5, .cells (cAlt a)), (5, .cells (ti89.zero.map .lit)), (4, .tok 89 2 i), (2, .cells [int x.op, int x.n, bC nb x.binds, .gs 1 (kC (kidsL lts x.kids)) (.l 3), .gs 2 (la.map lAlt) (.l 4)]), (0, .cells (nodesL lts (e.map cEx).length))], oz⟩
          | _ => False) follows (by kernel_rfl) rfl rfl (by decide) (by kernel_rfl) (by kernel_rfl) rfl rfl ?_ (fun _ _ _ => .nil) (by decide) ?_ ?_
      · rintro vs σ hG
        match vs, hG with
        | [], hG => subst hG; rfl
        | [_], hG => obtain ⟨nc, oz, _, _, _, rfl⟩ := hG; rfl
        | [_, _], hG => obtain ⟨nc, oz, _, _, _, _, rfl⟩ := hG; rfl
        | [_, _, _], hG => obtain ⟨nc, oz, _, _, _, _, _, rfl⟩ := hG; rfl
        | [_, _, _, _], hG => obtain ⟨nc, oz, _, _, _, _, _, _, rfl⟩ := hG; rfl
      · rintro vs σ hG q o hi ho
        match vs, hG with
        | [], hG =>
          subst hG
          cases hi
          cases ho
          refine ⟨rfl, rfl, .inr ⟨rfl, AStepR.call hΓ rfl rfl rfl rfl (by simp) hoy (CloneN_ok a.binds (hxo.ab a (List.mem_of_getElem? ha)) oy) fun r oz hq _ _ => ?_⟩⟩
          obtain ⟨nc, h1, rfl, h2⟩ := hq
          exact ⟨nc, oz, h1, h2, rfl, rfl⟩
        | [_], hG =>
          obtain ⟨nc, oz, h1, h2, rfl, rfl⟩ := hG
          cases hi
          cases ho
          exact ⟨rfl, rfl, .inl ⟨_, _, HStep.auto tabOk rfl, nc, oz, h1, h2, rfl, rfl, rfl⟩⟩
        | [_, _], hG =>
          obtain ⟨nc, oz, h1, h2, rfl, rfl, rfl⟩ := hG
          cases hi
          cases ho
          exact ⟨rfl, rfl, .inl ⟨_, _, HStep.auto tabOk rfl, nc, oz, h1, h2, rfl, rfl, rfl, rfl⟩⟩
        | [_, _, _], hG =>
          obtain ⟨nc, oz, h1, h2, rfl, rfl, rfl, rfl⟩ := hG
          cases hi
          cases ho
          refine ⟨rfl, rfl, .inl ⟨_, _, HStep.plain rfl (AStep.append (s := 2) (es := la.map lAlt) (news := [[int a.tag, bC nc a.binds]]) (ti := ti51) tabOk rfl rfl rfl rfl rfl rfl (Base.gs' _ 89 2 (la.map lAlt) (.l 4) rfl hal.symm) (.sl _ _) rfl ?_ ?_), nc, oz, h1, h2, rfl, rfl, rfl, rfl, rfl⟩⟩
          · rw [hal]; show (i + 1) * 32 ≤ _; omega
          · rw [hal]; show i + 1 ≤ _; omega
        | [_, _, _, _], hG => cases hi
      rintro vs σ hlen hG
      match vs, hlen, hG with
      | [_, _, _, _], _, hG =>
      obtain ⟨nc, oz, hnc, hNc, rfl, rfl, rfl, rfl, rfl⟩ := hG
      refine zM ?_
      obtain ⟨la', hla'⟩ : ∃ la', la' = la ++ [⟨a.tag, nc, a.binds⟩] := ⟨_, rfl⟩
      have hlm : la.map lAlt ++ [[int a.tag, bC nc a.binds]] = la'.map lAlt := by rw [hla', List.map_append]; rfl
      refine cInv ⟨x.alts.length - (i + 1), (i + 1, oz, la'), fun k => if k = 4 then 6 else k, by omega, ⟨by omega, ⟨by rw [hla', List.map_append, hla, take_get ha]; rfl, ?_, ?_⟩, rfl⟩, LessR.of rfl (by (repeat' first | exact FrSub.nil | refine zfc ?_ | refine zfo ?_ | refine zfp ?_)) (by simp) ?_ rfl rfl hNc.ok⟩
      · intro y hy
        rw [hla'] at hy
        rcases List.mem_append.1 hy with hy | hy
        · exact hlo y hy
        · simp at hy; subst hy; exact hnc
      · dsimp only
        rw [hla', aO_app, show aO [⟨a.tag, nc, a.binds⟩] = bO nc a.binds by simp [aO]]
        exact hNa.trans hNc
      · repeat' first | exact LoSub.nil | refine zlc ?_ | refine zld ?_ ?_ | rfl
        · simp only [AObj.ren, List.length_append, hal]; rfl
        · simp only [hlm, AObj.ren, renL, AC.ren, ren_bC, ren_kC, ren_lAlts]; rfl
    have hlt2 : i = x.alts.length := by simp at hb3; omega
    subst hlt2
    rw [List.take_length] at hla
    refine zA ?_
    refine AOps.step1 rfl rfl rfl (idxI tabOk rfl rfl rfl rfl rfl rfl rfl (by simp; omega)) ?_
    refine AOps.wkObj (.l 2) rfl (cs' := [int x.op, int x.n, bC nb x.binds, .sl 1 (kC (kidsL lts x.kids)), .sl 2 (la.map lAlt)]) (fun w C xs h => ?_) ?_
    · exact (show WkL _ _ from .cons (.refl _) (.cons (.refl _) (.cons (.refl _) (.cons (.gsE rfl) (.cons (.gsE rfl) .nil))))) w C xs h
    have hθ : ∀ (k : Nat) (i : Abs.Id), isO i → toOs [2] k i = i := fun k i hi => by cases i with | l q => exact hi.elim | o q => rfl
    refine AOps.cedes [2] rfl (by decide) hoy fun k hk => ⟨[(77, .one (.ptr (.l 0) j)), (76, .one (.ptr (.o k) 0)), (16, .one (int j)), (15, .one (int (e.map cEx).length)), (14, .one (.sl 5 (e.map cEx))), (3, .one (.arr (.l 0) 1 0 (e.map cEx).length (e.map cEx).length)), (0, .one (.sl 5 (e.map cEx)))],
      [(0, .cells (nodesL lts (e.map cEx).length))], [.cells [int x.op, int x.n, bC nb x.binds, .sl 1 (kC (kidsL lts x.kids)), .sl 2 (la.map lAlt)]], ?_, ?_, ?_, ?_⟩
    · exact .cons rfl rfl (.cons rfl rfl (.cons rfl rfl (.cons rfl rfl (.cons rfl (FV.sub_f (hθ k) _ (by simp)) (.cons rfl rfl (.cons rfl (FV.sub_f (hθ k) _ (by simp)) .nil))))))
    · exact .cons rfl rfl (AObj.sub_f (hθ k) _ (ids_nodesL_o _ _)) .nil
    · exact .cons rfl (AObj.sub_f (hθ k) _ (ids_node _ _ _ _ _ _)) .nil
    have hN1 := NewO.add hk hoy (ids_node x.op x.n nb x.binds (kidsL lts x.kids) la)
    have hN2 := ((hN.trans hNb).trans hNa).trans hN1
    obtain ⟨t, ht⟩ : ∃ t : LTr, t = .mk k x.op x.n nb x.binds (kidsL lts x.kids) la := ⟨_, rfl⟩
    have hto : lts.flatMap ownO ++ bO nb x.binds ++ aO la ++ [(k, .cells [int x.op, int x.n, bC nb x.binds, .sl 1 (kC (kidsL lts x.kids)), .sl 2 (la.map lAlt)])] = (lts ++ [t]).flatMap ownO := by
      rw [List.flatMap_append, ht]
      simp [ownO, List.append_assoc]
    rw [hto] at hN2
    have hL2 := hL.snoc (kidsIn_pre (by rw [List.take_append_drop]; exact hin)) (x := x) (fun q hq => by have := hxin q hq; simp; omega) (id := k) hla hnb hlo
    rw [← take_get hx, show LTr.mk k x.op x.n nb x.binds (x.kids.map fun q => lts.getD q.toNat default) la = t by rw [ht]; rfl] at hL2
    refine AOps.storeOwn tabOk rfl rfl rfl rfl rfl rfl rfl rfl (by rw [nodesL_len (by simp [hgl]; omega)]; simp; omega) ?_
    have hst := nodesL_set (ts := lts) (n := (e.map cEx).length) (by simp [hgl]; omega) t
    rw [hgl, show t.id = k by rw [ht]; rfl] at hst
    rw [hst]
    refine zM ?_
    exact cInv ⟨e.length - (j + 1), (j + 1, lts ++ [t], _), id, by omega, ⟨by omega, ⟨hL2, hN2⟩, rfl⟩, LessR.of rfl (by (repeat' first | exact FrSub.nil | refine zfc ?_ | refine zfo ?_ | refine zfp ?_)) (by simp) (by repeat' first | exact LoSub.nil | refine zlc ?_ | refine zld ?_ ?_ | rfl) rfl rfl hN2.ok⟩
  · have hlt : j = e.length := by simp at hb2; omega
    subst hlt
    rw [List.take_length] at hL
    obtain ⟨N, hNe⟩ : ∃ N, e.length = N + 1 := ⟨e.length - 1, by have := List.length_pos_iff.2 hT.ne; omega⟩
    obtain ⟨t, ht⟩ := get_of_lt (l := lts) (i := N) (by rw [hL.len]; omega)
    have hnt : e.length - 1 = N := by omega
    refine zM ?_
    refine AOps.wk 82 rfl (y := .one (int (N : Nat))) (.ofEq (by congr 3; simp; omega)) ?_
    refine AOps.step1 rfl rfl rfl (idxI tabOk rfl rfl rfl rfl rfl rfl rfl (by simp; omega)) ?_
    refine AOps.step1 rfl rfl rfl (AStep.loadOwn tabOk rfl rfl rfl rfl rfl rfl (nodesL_get ht)) ?_
    refine zA ?_
    have hown := hL.own hin _ N t (Nat.lt_succ_self _) ht
    refine AFn.fin' rfl (WkF.ofEq rfl) (by simp [AC.ids]) hov ⟨t, rfl, ?_, ?_, ?_, ?_, ?_, hov, ?_⟩
    · rw [hL.er hin _ N t (Nat.lt_succ_self _) ht]
      unfold grow treeAt; rw [hnt]
    · exact hL.ok hin (fun x hx => ⟨(he.x x hx).b, (he.x x hx).k, (he.x x hx).a, (he.x x hx).ab⟩) _ N t (Nat.lt_succ_self _) ht
    · exact fun p hp => hN.own p (hown p hp)
    · exact hL.nodup hT hN.nd (by rw [hnt]; exact ht)
    · intro k hk
      obtain ⟨p, hp, rfl⟩ := List.mem_map.1 hk
      exact hN.new p.1 (List.mem_map_of_mem (hown p hp))
    · intro m o hm
      show ov m = some o
      rw [hN.old m fun hmk => by have := hN.new m hmk; rw [hm] at this; cases this]
      exact hm
end Go.Proofs.YtgdionbeeodaaaaDoor
namespace Go.CoreX
def rnTA (nm : Nm) (f : Int) : List Alt → List Alt × Nm × Int
  | [] => ([], nm, f)
  | x :: l => (⟨x.tag, frB f x.binds⟩ :: (rnTA (frN nm f x.binds) (f + x.binds.length) l).1, (rnTA (frN nm f x.binds) (f + x.binds.length) l).2)
mutual
def rnT (nm : Nm) (f : Int) : Tr → Tr × Nm × Int
  | .mk o n b k a =>
    let s1 := ren1 o nm f b
    let s2 := rnTA s1.2.1 s1.2.2 a
    let s3 := rnTs s2.2.1 s2.2.2 k
    (.mk o (if o = 0 then (nm n).getD n else n) s1.1 s3.1 s2.1, s3.2)
def rnTs (nm : Nm) (f : Int) : List Tr → List Tr × Nm × Int
  | [] => ([], nm, f)
  | t :: l => ((rnT nm f t).1 :: (rnTs (rnT nm f t).2.1 (rnT nm f t).2.2 l).1, (rnTs (rnT nm f t).2.1 (rnT nm f t).2.2 l).2)
end
theorem rnAs_er : ∀ (l : List LAlt) (nm : Nm) (f : Int), (rnAs nm f l).1.map LAlt.er = (rnTA nm f (l.map LAlt.er)).1 ∧ (rnAs nm f l).2 = (rnTA nm f (l.map LAlt.er)).2
  | [], _, _ => ⟨rfl, rfl⟩
  | x :: l, nm, f => by
    have ih := rnAs_er l (frN nm f x.binds) (f + x.binds.length)
    simp only [rnAs, List.map_cons, rnTA, ih.1]
    exact ⟨rfl, ih.2⟩
mutual
theorem rnL_er : ∀ (t : LTr) (nm : Nm) (f : Int), erT (rnL nm f t).1 = (rnT nm f (erT t)).1 ∧ (rnL nm f t).2 = (rnT nm f (erT t)).2
  | .mk i o n nb b k a, nm, f => by
    have h2 := rnAs_er a (ren1 o nm f b).2.1 (ren1 o nm f b).2.2
    have h3 := rnLs_er k (rnAs (ren1 o nm f b).2.1 (ren1 o nm f b).2.2 a).2.1 (rnAs (ren1 o nm f b).2.1 (ren1 o nm f b).2.2 a).2.2
    rw [h2.2] at h3
    simp only [rnL, erT, rnT, h2.1, h2.2, h3.1, h3.2]
    exact ⟨trivial, trivial⟩
theorem rnLs_er : ∀ (l : List LTr) (nm : Nm) (f : Int), erTs (rnLs nm f l).1 = (rnTs nm f (erTs l)).1 ∧ (rnLs nm f l).2 = (rnTs nm f (erTs l)).2
  | [], _, _ => ⟨rfl, rfl⟩
  | t :: l, nm, f => by
    have h1 := rnL_er t nm f
    have h2 := rnLs_er l (rnL nm f t).2.1 (rnL nm f t).2.2
    rw [h1.2] at h2
    simp only [rnLs, erTs, rnTs, h1.1, h1.2, h2.1, h2.2]
    exact ⟨trivial, trivial⟩
end
def nbLab (l : Lab) : Int := (if l.op = 9 then 0 else l.binds.length : Nat) + ((l.alts.map fun x => x.binds.length).sum : Nat)
theorem nbA_er (l : List LAlt) : nbA l = ((l.map LAlt.er).map fun x => x.binds.length).sum := by simp [nbA, Function.comp_def, LAlt.er]
mutual
theorem nbL_er : ∀ t : LTr, ((nbL t : Nat) : Int) = sumT nbLab (erT t)
  | .mk i o n nb b k a => by
    have := nbLs_er k
    simp only [nbL, erT, sumT, nbLab, nbA_er, ← this]; push_cast; omega
theorem nbLs_er : ∀ l : List LTr, ((nbLs l : Nat) : Int) = sumTs nbLab (erTs l)
  | [] => by simp [nbLs, erTs, sumTs]
  | t :: l => by
    have h1 := nbL_er t
    have h2 := nbLs_er l
    simp only [nbLs, erTs, sumTs, ← h1, ← h2]; push_cast; rfl
end
def nbE (e : List Ex) : Int := sumT nbLab (grow e)
def renewE (e : List Ex) (f : Int) : List Ex × Int :=
  if check e ≠ 0 then ([], check e) else if f < 0 ∨ 1048576 < f then ([], 4) else if 1048576 < (rnT (fun _ => none) f (grow e)).2.2 then ([], 4) else (listT [] (rnT (fun _ => none) f (grow e)).1, 0)
-- The shape stays.
theorem ren1_len (o : Int) (nm : Nm) (f : Int) (b : List Int) : (ren1 o nm f b).1.length = b.length := by
  unfold ren1; split
  · rfl
  · exact frB_len f b
theorem rnTA_len : ∀ (l : List Alt) (nm : Nm) (f : Int), (rnTA nm f l).1.map (fun x => x.binds.length) = l.map fun x => x.binds.length
  | [], _, _ => rfl
  | x :: l, nm, f => by simp only [rnTA, List.map_cons, frB_len, rnTA_len l]
theorem flat_len_eq {l r : List Alt} (h : l.map (fun x => x.binds.length) = r.map fun x => x.binds.length) : (l.flatMap (·.binds)).length = (r.flatMap (·.binds)).length := by
  simp only [List.length_flatMap]; exact congrArg List.sum h
theorem mem_len {l r : List Alt} (h : l.map (fun x => x.binds.length) = r.map fun x => x.binds.length) {c : Nat} (hr : ∀ x ∈ r, x.binds.length ≤ c) : ∀ x ∈ l, x.binds.length ≤ c := fun x hx => by
  have : x.binds.length ∈ r.map fun x => x.binds.length := by rw [← h]; exact List.mem_map_of_mem (f := fun x : Alt => x.binds.length) hx
  obtain ⟨y, hy, e⟩ := List.mem_map.1 this
  rw [← e]; exact hr y hy
mutual
theorem rnT_cnt : ∀ (t : Tr) (nm : Nm) (f : Int), cntN (rnT nm f t).1 = cntN t
  | .mk o n b k a, nm, f => by simp only [rnT, cntN, rnTs_cnt k]
theorem rnTs_cnt : ∀ (l : List Tr) (nm : Nm) (f : Int), cntNs (rnTs nm f l).1 = cntNs l
  | [], _, _ => rfl
  | t :: l, nm, f => by simp only [rnTs, cntNs, rnT_cnt t, rnTs_cnt l]
end
end Go.CoreX
namespace Go.Proofs.YtgdionbeeodaaaaDoor
open Go Go.Abs Go.CoreX
set_option maxRecDepth 10000
variable {Γ : List (Nat × List AC)}
theorem nb_le {e : List Ex} (he : okB e) (h : IsTree e) : nbE e ≤ 4398046511104 := by
  have hel := he.eo.l
  unfold nbE
  rw [← sum_tree _ h]
  unfold labs
  rw [List.map_map, show (nbLab ∘ labE e) = fun x => nbLab (labE e x) from rfl]
  have key : ∀ l : List Ex, (∀ x ∈ l, x ∈ e) → (l.map fun x => nbLab (labE e x)).sum ≤ l.length * 4194304 := by
    intro l
    induction l with
    | nil => simp
    | cons x l ih =>
      intro hl
      have h1 := he.b x (hl x (by simp))
      have h2 := ih fun y hy => hl y (by simp [hy])
      have h3 : nbLab (labE e x) ≤ 4194304 := by
        have h4 : (x.alts.flatMap (·.binds)).length = (x.alts.map fun y => y.binds.length).sum := by simp [List.length_flatMap]
        simp only [nbLab, labE]
        rw [← h4]
        have h5 : (if (labE e x).op = 9 then 0 else x.binds.length) ≤ x.binds.length := by split <;> omega
        have h6 : (if (labE e x).op = 9 then 0 else x.binds.length) + (x.alts.flatMap (·.binds)).length ≤ 4194304 := by omega
        clear h5 h4 ih h2
        simp only [labE] at h6 ⊢
        generalize (if x.op = 9 then 0 else x.binds.length) = q at h6 ⊢
        omega
      simp only [List.map_cons, List.sum_cons, List.length_cons]
      push_cast
      omega
  have := key e fun _ h => h
  have h2 : (e.length : Int) * 4194304 ≤ 1048576 * 4194304 := Int.mul_le_mul_of_nonneg_right (by omega) (by omega)
  omega
end Go.Proofs.YtgdionbeeodaaaaDoor
namespace Go.CoreX
-- What holds of all nodes.
mutual
def allT (p : Lab → Prop) : Tr → Prop
  | .mk o n b k a => p ⟨o, n, b, k.map Tr.op, a⟩ ∧ allTs p k
def allTs (p : Lab → Prop) : List Tr → Prop
  | [] => True
  | t :: l => allT p t ∧ allTs p l
end
theorem allTs_iff {p : Lab → Prop} : ∀ {l : List Tr}, allTs p l ↔ ∀ t ∈ l, allT p t
  | [] => by simp [allTs]
  | t :: l => by simp [allTs, allTs_iff (l := l)]
theorem allT_at {e : List Ex} (hk : kidsIn e) {p : Lab → Prop} (h : ∀ x ∈ e, p (labE e x)) : ∀ (n i : Nat), i < n → i < e.length → allT p (treeAt e i)
  | 0, i, hi, _ => by omega
  | n + 1, i, hi, hl => by
    obtain ⟨x, hx⟩ : ∃ x, e[i]? = some x := ⟨e[i], List.getElem?_eq_getElem hl⟩
    rw [treeAt_node hk hx]
    refine ⟨?_, allTs_iff.2 fun t ht => ?_⟩
    · have := h x (List.mem_of_getElem? hx)
      simp only [labE] at this
      simp only [List.map_map]
      exact this
    · obtain ⟨q, hq, rfl⟩ := List.mem_map.1 ht
      have := hk i x hx q hq
      exact allT_at hk h n q.toNat (by omega) (by omega)
theorem allT_grow {e : List Ex} (h : IsTree e) {p : Lab → Prop} (hp : ∀ x ∈ e, p (labE e x)) : allT p (grow e) := by
  have := List.length_pos_iff.2 h.ne
  exact allT_at h.k hp _ (e.length - 1) (Nat.lt_succ_self _) (by omega)
structure shLab (l : Lab) : Prop where
  b : l.op = 2 ∨ l.op = 4 ∨ l.op = 5 ∨ l.op = 9 ∨ l.binds = []
  v : l.op = 0 → l.alts = [] ∧ l.ops = []
theorem rnTA_l : ∀ (a : List Alt) (nm : Nm) (f : Int), (rnTA nm f a).1.length = a.length
  | [], _, _ => rfl
  | x :: l, nm, f => by simp [rnTA, rnTA_l l]
def nmAt (o : Int) (nm : Nm) (f : Int) (b : List Int) (a : List Alt) : Nm × Int := (rnTA (ren1 o nm f b).2.1 (ren1 o nm f b).2.2 a).2
theorem rnT_op (t : Tr) (nm : Nm) (f : Int) : (rnT nm f t).1.op = t.op := by cases t; rfl
theorem rnTs_ops : ∀ (l : List Tr) (nm : Nm) (f : Int), (rnTs nm f l).1.map Tr.op = l.map Tr.op
  | [], _, _ => rfl
  | t :: l, nm, f => by simp only [rnTs, List.map_cons, rnT_op, rnTs_ops l]
end Go.CoreX
namespace Go.CoreX
def ind (a b k : Int) : Int := if a ≤ k ∧ k < b then 1 else 0
def cntB (k : Int) (l : Lab) : Int := ((bindersN l.op l.binds l.alts).count k : Nat)
-- Names that a tree does not bind keep their new names.
mutual
def bndT : Tr → List Int
  | .mk o _ b k a => bindersN o b a ++ bndTs k
def bndTs : List Tr → List Int
  | [] => []
  | t :: l => bndT t ++ bndTs l
end
end Go.CoreX
namespace Go.CoreX
def tl (a : Alt) : Int × Nat := (a.tag, a.binds.length)
def altBadP (op : Int) (L : List (Int × Nat)) (p : (Int × Nat) × Nat) : Bool :=
  ((L.take p.2).any (fun b => b.1 == p.1.1) || decide (p.1.1 < -1)) ||
  (op == 7 && p.1.1 == -1 && (decide ((p.2 : Int) < L.length - 1) || decide (0 < p.1.2))) ||
  ((op == 13 && !(((p.2 : Int) == 0) == (p.1.1 == -1))) || (op == 13 && !((p.1.2 : Int) == (if 2 < (p.2 : Int) + 1 then 2 else (p.2 : Int) + 1))))
end Go.CoreX
namespace Go.CoreX
def pLab (l : Lab) : Prop := ∀ (e : List Ex) (x : Ex), (∀ k ∈ x.kids, 0 ≤ k ∧ k < (e.length : Int)) → labE e x = l → nodeErrF false e x = 0
def nmR (nm : Nm) : Prop := ∀ k v, nm k = some v → 0 ≤ v ∧ v ≤ 1048575
theorem sum0 {α : Type} {f : α → Int} : ∀ {l : List α}, (∀ x ∈ l, 0 ≤ f x) → (l.map f).sum = 0 → ∀ x ∈ l, f x = 0
  | [], _, _, x, hx => by simp at hx
  | y :: l, h, hs, x, hx => by
    have h1 := h y (by simp)
    have h2 : ∀ z ∈ l, 0 ≤ f z := fun z hz => h z (by simp [hz])
    have h3 : 0 ≤ (l.map f).sum := by
      clear h h1 hs hx
      induction l with
      | nil => simp
      | cons z l ih =>
        have := h2 z (by simp)
        have := ih fun y hy => h2 y (by simp [hy])
        simp only [List.map_cons, List.sum_cons]; omega
    simp only [List.map_cons, List.sum_cons] at hs
    rcases List.mem_cons.1 hx with rfl | hx
    · omega
    · exact sum0 h2 (by omega) x hx
open Classical in
mutual
theorem sum_all {p : Lab → Prop} : ∀ t : Tr, allT p t → sumT (fun l => if p l then 0 else 1) t = 0
  | .mk o n b k a, h => by
    simp only [sumT, sum_alls k h.2]
    rw [if_pos h.1]; rfl
theorem sum_alls {p : Lab → Prop} : ∀ l : List Tr, allTs p l → sumTs (fun l => if p l then 0 else 1) l = 0
  | [], _ => rfl
  | t :: l, h => by simp only [sumTs, sum_all t h.1, sum_alls l h.2]; rfl
end
open Classical in
theorem allT_labs {p : Lab → Prop} {g : List Ex} (h : IsTree g) (ha : allT p (grow g)) : ∀ l ∈ labs g, p l := by
  have h1 := sum_tree (fun l => if p l then (0 : Int) else 1) h
  rw [sum_all _ ha] at h1
  intro l hl
  have := sum0 (fun x _ => by split <;> omega) h1 l hl
  split at this
  · assumption
  · cases this
theorem check_parts {e : List Ex} (h : check e = 0) : treeErr e = 0 ∧ (∀ x ∈ e, nodeErrF false e x = 0) ∧ (allBinders e).Nodup ∧ occT [] (grow e) = [] := by
  unfold check body at h
  by_cases h1 : treeErr e = 0
  · rw [if_neg (by simpa using h1)] at h
    by_cases h2 : firstErr (nodeErrF false e) e = 0
    · rw [if_neg (by simpa using h2)] at h
      by_cases h3 : hasDup ([] ++ allBinders e) = true
      · rw [if_pos h3] at h; cases h
      · rw [if_neg h3] at h
        have h3' := (hasDup_false _).1 (by simpa using h3)
        refine ⟨h1, (firstErr_zero _ _).1 h2, by simpa using h3', ?_⟩
        by_cases h4 : (freeOf (grow e)).all (fun n => ([] : List Int).contains n) = true
        · have h5 : freeOf (grow e) = [] := by
            cases hf : freeOf (grow e) with
            | nil => rfl
            | cons n l => rw [hf] at h4; simp at h4
          unfold freeOf at h5
          cases ho : occT [] (grow e) with
          | nil => rfl
          | cons n l =>
            have := (sortS_mem n (n :: l)).2 (by simp)
            rw [← ho, h5] at this
            simp at this
        · rw [if_neg h4] at h; cases h
    · rw [if_pos (by simpa using h2)] at h; exact absurd h h2
  · rw [if_pos h1] at h; exact absurd h h1
abbrev nmN : Nm := fun _ => none
end Go.CoreX
namespace Go.Proofs.YtgdionbeeodaaaaDoor
open Go Go.Abs Go.CoreX
set_option maxRecDepth 10000
variable {Γ : List (Nat × List AC)}
end Go.Proofs.YtgdionbeeodaaaaDoor
namespace Go.CoreX
structure pOk (l : Lab) : Prop where
  b : l.binds.length ≤ 1048576
  k : l.ops.length ≤ 1048576
  a : l.alts.length ≤ 1048576
  ab : ∀ x ∈ l.alts, x.binds.length ≤ 1048576
  s : l.binds.length + (l.alts.flatMap (·.binds)).length ≤ 4194304
mutual
theorem rnT_pOk : ∀ (t : Tr) (nm : Nm) (f : Int), allT pOk t → allT pOk (rnT nm f t).1
  | .mk o n b k a, nm, f, h => by
    obtain ⟨h1, h2⟩ := h
    have e1 := rnTA_len a (ren1 o nm f b).2.1 (ren1 o nm f b).2.2
    refine ⟨⟨?_, ?_, ?_, ?_, ?_⟩, rnTs_pOk k _ _ h2⟩
    · simp only [ren1_len]; exact h1.b
    · simp only [rnTs_ops]; exact h1.k
    · simp only [rnTA_l]; exact h1.a
    · exact mem_len e1 h1.ab
    · simp only [ren1_len, flat_len_eq e1]; exact h1.s
theorem rnTs_pOk : ∀ (l : List Tr) (nm : Nm) (f : Int), allTs pOk l → allTs pOk (rnTs nm f l).1
  | [], _, _, _ => trivial
  | t :: l, nm, f, h => ⟨rnT_pOk t nm f h.1, rnTs_pOk l _ _ h.2⟩
end
-- Two lists in order, with the same members, are one list.
end Go.CoreX
namespace Go.Proofs.YtgdionbeeodaaaaDoor
open Go Go.Abs Go.CoreX
theorem okB_labs {e : List Ex} (he : okB e) : ∀ l ∈ labs e, pOk l := fun l hl => by
  obtain ⟨x, hx, rfl⟩ := List.mem_map.1 hl
  have h := he.eo.x x hx
  exact ⟨h.b, by simpa [labE] using h.k, h.a, h.ab, he.b x hx⟩
theorem okB_ofLabs {g : List Ex} (hl : g.length ≤ 1048576) (h : ∀ l ∈ labs g, pOk l) : okB g := by
  refine ⟨⟨hl, fun x hx => ?_⟩, fun x hx => ?_⟩
  · have := h _ (List.mem_map_of_mem (f := labE g) hx)
    exact ⟨this.b, by simpa [labE] using this.k, this.a, this.ab⟩
  · exact (h _ (List.mem_map_of_mem (f := labE g) hx)).s
end Go.Proofs.YtgdionbeeodaaaaDoor
namespace Go.CoreX
def mapA (ν : Int → Int) (x : Alt) : Alt := ⟨x.tag, x.binds.map ν⟩
mutual
def mapT (ν : Int → Int) : Tr → Tr
  | .mk o n b k a => .mk o (if o = 0 then ν n else n) (if o = 9 then b else b.map ν) (mapTs ν k) (a.map (mapA ν))
def mapTs (ν : Int → Int) : List Tr → List Tr
  | [] => []
  | t :: l => mapT ν t :: mapTs ν l
end
end Go.CoreX
namespace Go.CoreX
def InjOn (ν : Int → Int) (B : List Int) : Prop := ∀ x ∈ B, ∀ y ∈ B, ν x = ν y → x = y
def RelU (B : List Int) (ν : Int → Int) (s s' : CS) : Prop := ∀ k ∈ B, s'.u (ν k) = s.u k ∧ s'.d (ν k) = s.d k ∧ s'.m (ν k) = s.m k
theorem RelU.visit {B : List Int} {ν : Int → Int} (hi : InjOn ν B) {s s' : CS} (h : RelU B ν s s') {n : Int} (hn : n ∈ B) (deep : Int) : RelU B ν (visitU s n deep) (visitU s' (ν n) deep) := fun k hk => by
  obtain ⟨h1, h2, h3⟩ := h k hk
  obtain ⟨g1, g2, g3⟩ := h n hn
  have hup : ∀ (p p' : Int → Int) (v v' : Int), p' (ν k) = p k → v' = v → upF p' (ν n) v' (ν k) = upF p n v k := fun p p' v v' e1 e2 => by
    unfold upF
    by_cases e : n = k
    · subst e; rw [if_pos rfl, if_pos rfl, e2]
    · rw [if_neg e, if_neg (fun e3 => e (hi n hn k hk e3)), e1]
  refine ⟨hup _ _ _ _ h1 (by rw [g1]), h2, ?_⟩
  simp only [visitU]
  rw [g2]
  split
  · exact hup _ _ _ _ h3 (by rw [g3])
  · exact h3
theorem RelU.bind {B : List Int} {ν : Int → Int} (hi : InjOn ν B) (d : Int) : ∀ (l : List Int) {s s' : CS}, (∀ k ∈ l, k ∈ B) → RelU B ν s s' → RelU B ν (bindU d s l) (bindU d s' (l.map ν))
  | [], s, s', _, h => h
  | n :: l, s, s', hl, h => by
    have hn := hl n (by simp)
    have h1 : RelU B ν ⟨s.u, upF s.d n d, s.m⟩ ⟨s'.u, upF s'.d (ν n) d, s'.m⟩ := fun k hk => by
      obtain ⟨h1, h2, h3⟩ := h k hk
      refine ⟨h1, ?_, h3⟩
      simp only [upF]
      by_cases e : n = k
      · subst e; rw [if_pos rfl, if_pos rfl]
      · rw [if_neg e, if_neg (fun e3 => e (hi n hn k hk e3)), h2]
    exact RelU.bind hi d l (fun k hk => hl k (by simp [hk])) h1
end Go.CoreX
namespace Go.CoreX
def atomT (t : Tr) : Bool := t.op == 0 || t.op == 1 || (t.op == 6 && t.kids.length == 0)
mutual
def valT : Tr → Bool
  | .mk o n b k a => atomT (.mk o n b k a) || o == 2 || (if o = 5 then valLast k else if o = 6 ∨ o = 9 ∨ o = 4 then valTs k else false)
def valTs : List Tr → Bool
  | [] => true
  | t :: l => valT t && valTs l
def valLast : List Tr → Bool
  | [] => true
  | t :: l => match l with
    | [] => valT t
    | _ :: _ => valLast l
end
mutual
def usesN (id : Int) : Tr → Nat
  | .mk o n b k a => if o = 0 then (if n = id then 1 else 0) else usesNs id k
def usesNs (id : Int) : List Tr → Nat
  | [] => 0
  | t :: l => usesN id t + usesNs id l
end
mutual
def subT (id : Int) (v : Tr) : Tr → Tr
  | .mk o n b k a => if o = 0 then (if n = id then v else .mk o n b k a) else .mk o n b (subTs id v k) a
def subTs (id : Int) (v : Tr) : List Tr → List Tr
  | [] => []
  | t :: l => subT id v t :: subTs id v l
end
def letT (id : Int) (v body : Tr) : Tr := .mk 4 0 [id] [v, body] []
def letsT : List Int → List Tr → Tr → Tr
  | i :: is, t :: ts, b => letT i t (letsT is ts b)
  | _, _, b => b
def wrapI (n : Int) : Int := (n + 1073741824) % 2147483648 - 1073741824
def wordT (n : Int) : Tr := .mk 1 n [] [] []
def flagT (b : Bool) : Tr := .mk 6 (if b then 1 else 0) [] [] []
def kidT (t : Tr) (i : Nat) : Tr := t.kids.getD i default
def arithT (t : Tr) : Option Tr :=
  let x := kidT t 0; let y := kidT t 1
  if t.n > 6 ∨ x.op ≠ 1 ∨ y.op ≠ 1 then none
  else if t.n = 0 then some (wordT (wrapI (x.n + y.n)))
  else if t.n = 1 then some (wordT (wrapI (x.n - y.n)))
  else if t.n = 2 then some (wordT (wrapI (x.n * y.n)))
  else if t.n = 3 then (if y.n = 0 then none else some (wordT (wrapI (x.n.tdiv y.n))))
  else if t.n = 4 then (if y.n = 0 then none else some (wordT (wrapI (x.n.tmod y.n))))
  else if t.n = 6 then some (flagT (x.n == y.n))
  else if t.n = 5 then some (flagT (decide (x.n < y.n)))
  else some (wordT (wrapI 0))
def chosenL (con : Tr) : List Alt → List Tr → Option Tr
  | a :: as', k :: ks => if a.tag = con.n then (if a.binds.length ≠ con.kids.length then none else some (letsT a.binds con.kids k)) else if a.tag = -1 ∧ valT con = true then some k else chosenL con as' ks
  | _, _ => none
def chosenT (t : Tr) : Option Tr := chosenL (kidT t 0) t.alts t.kids.tail
def fieldL (n : Int) : List Int → List Tr → Option Tr
  | b :: bs, k :: ks => if b = n then some k else fieldL n bs ks
  | _, _ => none
def fieldT (t : Tr) : Option Tr :=
  let row := kidT t 0
  if row.op ≠ 9 ∨ valT row = false then none else fieldL t.n row.binds row.kids
def operandsN (t : Tr) : Nat :=
  if t.op = 3 ∨ t.op = 6 ∨ t.op = 8 ∨ t.op = 9 ∨ t.op = 10 ∨ t.op = 11 then t.kids.length else if t.op = 7 ∨ t.op = 12 then 1 else 0
mutual
def mostT : Tr → Int
  | .mk o n b k a => mostTs ((bindersN o b a).foldl max (-1)) k
def mostTs (m : Int) : List Tr → Int
  | [] => m
  | t :: l => mostTs (max m (mostT t)) l
end
def namedT (root t : Tr) (n : Int) : Option Tr :=
  if n < 0 ∨ (operandsN t : Int) ≤ n ∨ atomT (kidT t n.toNat) = true then none
  else if (t.kids.take n.toNat).all valT = false then none
  else some (letT (mostT root + 1) (kidT t n.toNat) (.mk t.op t.n t.binds (t.kids.set n.toNat (.mk 0 (mostT root + 1) [] [] [])) t.alts))
def defN (id : Int) (t : Tr) : List Int → Nat → Option Tr
  | [], _ => none
  | b :: bs, i => if b = id ∧ (t.op = 4 ∨ t.op = 5) ∧ (kidT t i).op = 2 then some (kidT t i) else defN id t bs (i + 1)
def defT (id : Int) : List Tr → Option Tr
  | [] => none
  | t :: l => match defN id t t.binds 0 with
    | some f => some f
    | none => defT id l
def unfoldT (nodes : List Tr) (root t : Tr) : Option Tr := (defT t.n nodes).map fun f => (rnT nmN (mostT root + 1) f).1
def letRuleT (rule : Int) (t : Tr) : Option Tr :=
  let v := kidT t 0; let body := kidT t 1; let id := t.binds.getD 0 0
  if rule = 2 ∧ atomT v = true then some (subT id v body)
  else if rule = 3 ∧ usesN id body = 0 ∧ valT v = true then some body
  else if rule = 8 ∧ v.op = 4 then some (letT (v.binds.getD 0 0) (kidT v 0) (letT id (kidT v 1) body))
  else if rule = 9 ∧ v.op = 7 ∧ v.alts.length = 1 then some (.mk 7 0 [] [kidT v 0, letT id (kidT v 1) body] v.alts)
  else if rule = 11 ∧ v.op = 2 ∧ usesN id body = 1 then some (subT id v body)
  else none
def unusedT (t : Tr) : Bool := t.binds.all fun id => usesN id (kidT t t.binds.length) == 0
def resT (nodes : List Tr) (root : Tr) (rule n : Int) (t : Tr) : Option Tr :=
  if n ≠ 0 ∧ rule ≠ 10 then none
  else if rule = 1 ∧ t.op = 3 ∧ (kidT t 0).op = 2 ∧ ((kidT t 0).binds.length : Int) = t.kids.length - 1 then some (letsT (kidT t 0).binds t.kids.tail (kidT (kidT t 0) 0))
  else if t.op = 4 ∧ rule ≠ 10 then letRuleT rule t
  else if rule = 4 ∧ t.op = 5 ∧ unusedT t = true then some (kidT t t.binds.length)
  else if rule = 5 ∧ t.op = 7 ∧ (kidT t 0).op = 6 then chosenT t
  else if rule = 6 ∧ t.op = 8 ∧ t.kids.length = 2 then arithT t
  else if rule = 7 ∧ t.op = 10 then fieldT t
  else if rule = 10 then namedT root t n
  else if rule = 12 ∧ t.op = 0 then unfoldT nodes root t
  else none
def growStepR (p : Nat) (u : Tr) (ts : List Tr) (x : Ex) : List Tr := ts ++ [if ts.length = p then u else nodeOf ts x]
def growLR (e : List Ex) (p : Nat) (u : Tr) : List Tr := e.foldl (growStepR p u) []
def growR (e : List Ex) (p : Nat) (u : Tr) : Tr := (growLR e p u).getD (e.length - 1) default
def applyE (e : List Ex) (rule at' n : Int) : List Ex × Int :=
  if check e ≠ 0 then ([], check e)
  else if rule < 1 ∨ 12 < rule then ([], 4)
  else if at' < 0 ∨ (e.length : Int) ≤ at' then ([], 12)
  else match resT (growL e) (grow e) rule n (treeAt e at'.toNat) with
    | none => ([], 12)
    | some x => if check (listT [] (growR e at'.toNat x)) ≠ 0 then ([], 2) else (listT [] (growR e at'.toNat x), 0)
def manyE (e : List Ex) (id : Int) : Nat := e.countP fun x => x.op == 0 && x.n == id
def canLetT (rule : Int) (t : Tr) (many : Nat) : Bool :=
  let v := kidT t 0
  if rule = 2 then atomT v
  else if rule = 3 then many == 0 && valT v
  else if rule = 8 then v.op == 4
  else if rule = 9 then v.op == 7 && v.alts.length == 1
  else if rule = 11 then v.op == 2 && many == 1
  else false
def restT (t : Tr) (many : Int → Nat) : Bool := !(t.binds.any fun id => decide (0 < many id)) || unusedT t
def canT (rule : Int) (t : Tr) (many : Int → Nat) : Bool :=
  if t.op = 4 then canLetT rule t (many (t.binds.getD 0 0))
  else if rule = 4 ∧ t.op = 5 then restT t many
  else if rule = 6 ∧ t.op = 8 then t.kids.length == 2 && (arithT t).isSome
  else if rule = 7 ∧ t.op = 10 then (fieldT t).isSome
  else if rule = 5 ∧ t.op = 7 then (kidT t 0).op == 6 && (chosenT t).isSome
  else if rule = 1 ∧ t.op = 3 then (kidT t 0).op == 2 && ((kidT t 0).binds.length : Int) == t.kids.length - 1
  else false
def orderR : List Int := [3, 4, 6, 7, 5, 1, 2, 11, 8, 9]
def nextE (e : List Ex) : Option (Int × Nat) := orderR.findSome? fun r => ((growL e).zipIdx.find? fun p => canT r p.1 (manyE e)).map fun p => (r, p.2)
theorem growLR_len (e : List Ex) (p : Nat) (u : Tr) : (growLR e p u).length = e.length := by
  have : ∀ (l : List Ex) (ts : List Tr), (l.foldl (growStepR p u) ts).length = ts.length + l.length := by
    intro l
    induction l with
    | nil => intro ts; simp
    | cons x l ih => intro ts; rw [List.foldl_cons, ih]; simp [growStepR]; omega
  unfold growLR
  rw [this]; simp
def factR : List Ex := listT [] (.mk 4 0 [1] [.mk 1 2 [] [] [], .mk 0 1 [] [] []] [])
end Go.CoreX
namespace Go.CoreX
mutual
def putL (k : Nat) (u : LTr) : LTr → LTr
  | .mk i o n nb b ks a => if i = k then u else .mk i o n nb b (putLs k u ks) a
def putLs (k : Nat) (u : LTr) : List LTr → List LTr
  | [] => []
  | t :: l => putL k u t :: putLs k u l
end
theorem putLs_eq (k : Nat) (u : LTr) : ∀ l : List LTr, putLs k u l = l.map (putL k u)
  | [] => rfl
  | t :: l => by simp [putLs, putLs_eq k u l]
theorem putL_id {k : Nat} {u : LTr} (hu : u.id = k) : ∀ t : LTr, (putL k u t).id = t.id
  | .mk i o n nb b ks a => by
    simp only [putL]
    split
    · rename_i h; rw [hu]; exact h.symm
    · rfl
inductive SubL (t0 : LTr) : LTr → Prop
  | here : SubL t0 t0
  | kid {t s : LTr} : s ∈ t.kids → SubL t0 s → SubL t0 t
theorem SubL.trans {a b c : LTr} (h : SubL a b) (k : SubL b c) : SubL a c := by
  induction k with
  | here => exact h
  | kid hs _ ih => exact .kid hs ih
theorem growLR_snoc (e : List Ex) (x : Ex) (p : Nat) (U : Tr) : growLR (e ++ [x]) p U = growLR e p U ++ [if e.length = p then U else nodeOf (growLR e p U) x] := by
  have := growLR_len e p U
  unfold growLR at this ⊢
  rw [List.foldl_append, List.foldl_cons, List.foldl_nil, growStepR, this]
theorem growLR_app (p : Nat) (U : Tr) (l : List Ex) : ∀ e : List Ex, ∃ r, growLR (e ++ l) p U = growLR e p U ++ r := by
  induction l with
  | nil => intro e; exact ⟨[], by simp⟩
  | cons x l ih =>
    intro e
    obtain ⟨r, hr⟩ := ih (e ++ [x])
    rw [List.append_assoc] at hr
    exact ⟨_, by rw [show e ++ x :: l = e ++ ([x] ++ l) by simp, hr, growLR_snoc, List.append_assoc]⟩
theorem growLR_get {p : Nat} {U : Tr} {e l : List Ex} {i : Nat} (h : i < e.length) : (growLR (e ++ l) p U).getD i default = (growLR e p U).getD i default := by
  obtain ⟨r, hr⟩ := growLR_app p U l e
  rw [hr, getD_app (by rw [growLR_len]; exact h)]
theorem growLR_node {e : List Ex} (hk : kidsIn e) (p : Nat) (U : Tr) {j : Nat} {x : Ex} (hx : e[j]? = some x) : (growLR e p U).getD j default = if j = p then U else .mk x.op x.n x.binds (x.kids.map fun q => (growLR e p U).getD q.toNat default) x.alts := by
  obtain ⟨h1, h2⟩ := List.getElem?_eq_some_iff.1 hx
  have he : e = e.take j ++ x :: e.drop (j + 1) := by rw [← h2, ← List.drop_eq_getElem_cons h1, List.take_append_drop]
  have hl : (e.take j).length = j := by simp; omega
  have hkj := hk j x hx
  have h3 : (growLR e p U).getD j default = (growLR (e.take j ++ [x]) p U).getD j default := by
    conv => lhs; rw [he, show e.take j ++ x :: e.drop (j + 1) = (e.take j ++ [x]) ++ e.drop (j + 1) by simp]
    exact growLR_get (by simp; omega)
  rw [h3, growLR_snoc, hl, List.getD_eq_getElem?_getD, List.getElem?_append_right (by rw [growLR_len, hl]; exact Nat.le_refl _), growLR_len, hl]
  simp only [Nat.sub_self, List.getElem?_cons_zero, Option.getD_some]
  split
  · rfl
  · simp only [nodeOf]
    congr 1
    refine List.map_congr_left fun q hq => ?_
    have := hkj q hq
    conv => rhs; rw [he]
    exact (growLR_get (by rw [hl]; omega)).symm
mutual
def cntL : LTr → Nat
  | .mk i o n nb b ks a => 1 + cntLs ks
def cntLs : List LTr → Nat
  | [] => 0
  | t :: l => cntL t + cntLs l
end
end Go.CoreX
namespace Go.Proofs.YtgdionbeeodaaaaDoor
open Go Go.Abs Go.CoreX
set_option maxRecDepth 10000
theorem putL_kC {k : Nat} {u : LTr} (hu : u.id = k) (l : List LTr) : kC (putLs k u l) = kC l := by
  rw [putLs_eq]
  simp only [kC, List.map_map]
  exact List.map_congr_left fun t _ => by simp only [Function.comp, putL_id hu]
mutual
theorem putL_none {k : Nat} {u : LTr} : ∀ t : LTr, k ∉ keys (objs t) → putL k u t = t
  | .mk i o n nb b ks a, h => by
    simp only [objs, keys, List.cons_append, List.map_cons, List.map_append, List.mem_cons, List.mem_append, not_or] at h
    simp only [putL]
    rw [if_neg (fun e => h.1 e.symm), putLs_none ks h.2.2]
theorem putLs_none {k : Nat} {u : LTr} : ∀ l : List LTr, k ∉ keys (objss l) → putLs k u l = l
  | [], _ => rfl
  | t :: l, h => by
    simp only [objss, keys, List.map_append, List.mem_append, not_or] at h
    simp only [putLs]
    rw [putL_none t h.1, putLs_none l h.2]
end
theorem objs_kid {t s : LTr} (h : s ∈ t.kids) {p : Nat × AObj} (hp : p ∈ objs s) : p ∈ objss t.kids := by
  rw [objss_eq]; exact List.mem_flatMap.2 ⟨s, h, hp⟩
theorem sub_objs {t0 t : LTr} (h : SubL t0 t) : ∀ p ∈ objs t0, p ∈ objs t := by
  induction h with
  | here => exact fun p hp => hp
  | kid hs _ ih => exact fun p hp => (objs_mem _ p).2 (.inr (objs_kid hs (ih p hp)))
theorem mem_keys {l : List (Nat × AObj)} {p : Nat × AObj} (h : p ∈ l) : p.1 ∈ keys l := List.mem_map_of_mem h
theorem of_keys {l : List (Nat × AObj)} {k : Nat} (h : k ∈ keys l) : ∃ o, (k, o) ∈ l := by
  obtain ⟨⟨j, o⟩, h1, h2⟩ := List.mem_map.1 h
  simp at h2; subst h2
  exact ⟨o, h1⟩
def tailO : LTr → List (Nat × AObj)
  | .mk i o n nb b k a => (bO nb b ++ aO a) ++ objss k
theorem objs_tail : ∀ t : LTr, objs t = (t.id, .cells (lC t)) :: tailO t
  | .mk i o n nb b k a => rfl
theorem tail_kid {t s : LTr} (h : s ∈ t.kids) {p : Nat × AObj} (hp : p ∈ objs s) : p ∈ tailO t := by
  cases t with
  | mk i o n nb b k a => exact List.mem_append.2 (.inr (objs_kid h hp))
theorem self_tail {t : LTr} (h : (keys (objs t)).Nodup) : t.id ∉ keys (tailO t) := by
  rw [objs_tail, show keys ((t.id, AObj.cells (lC t)) :: tailO t) = t.id :: keys (tailO t) from rfl] at h
  exact (List.nodup_cons.1 h).1
theorem put_own {u t0 t : LTr} (h : SubL t0 t) (hn : (keys (objs t)).Nodup) (hu : u.id = t0.id) : ∀ p ∈ objs (putL t0.id u t), p ∈ objs u ∨ (p ∈ objs t ∧ p.1 ∉ keys (objs t0)) := by
  induction h with
  | here =>
    intro p hp
    cases t0 with
    | mk i o n nb b k a =>
      simp only [putL, LTr.id, if_true] at hp
      exact .inl hp
  | @kid t s hs hsub ih =>
    have h0 : ∀ k ∈ keys (objs t0), k ∈ keys (objs s) := fun k hk => by
      obtain ⟨o, ho⟩ := of_keys hk
      exact mem_keys (sub_objs hsub _ ho)
    cases t with
    | mk i o n nb b ks a =>
      simp only [LTr.kids] at hs
      obtain ⟨l1, l2, rfl⟩ := List.append_of_mem hs
      have hn2 := hn
      simp only [objs, objss_app, keys, List.cons_append, List.map_cons, List.map_append, show objss (s :: l2) = objs s ++ objss l2 from rfl, List.nodup_cons, List.nodup_append, List.mem_append, not_or] at hn2
      obtain ⟨⟨n1, n2, n3, n4⟩, ⟨m1, m2⟩, m3⟩ : (i ∉ keys (bO nb b ++ aO a) ∧ i ∉ keys (objss l1) ∧ i ∉ keys (objs s) ∧ i ∉ keys (objss l2)) ∧ ((∀ k ∈ keys (bO nb b ++ aO a), k ∉ keys (objs s)) ∧ True) ∧ (keys (objs s)).Nodup ∧ (∀ k ∈ keys (objss l1), k ∉ keys (objs s)) ∧ ∀ k ∈ keys (objss l2), k ∉ keys (objs s) := by
        obtain ⟨⟨a1, a2⟩, a3⟩ := hn2
        simp only [keys, List.map_append, List.mem_append, not_or]
        refine ⟨⟨⟨a1.1, a1.2⟩, a2.1, a2.2.1, a2.2.2⟩, ⟨?_, trivial⟩, ?_, ?_, ?_⟩
        · intro k hk hk2
          exact a3.2.2 k (by simpa using hk) k (.inr (.inl hk2)) rfl
        · exact a3.2.1.2.1.1
        · intro k hk hk2
          exact a3.2.1.2.2 k hk k (.inl hk2) rfl
        · intro k hk hk2
          exact a3.2.1.2.1.2.2 k hk2 k hk rfl
      have hid : t0.id ∈ keys (objs s) := h0 _ (id_mem t0)
      have e1 : putLs t0.id u (l1 ++ s :: l2) = l1 ++ putL t0.id u s :: l2 := by
        rw [putLs_eq, List.map_append, List.map_cons, ← putLs_eq, ← putLs_eq]
        rw [putLs_none l1 fun hk => m3.2.1 _ hk hid, putLs_none l2 fun hk => m3.2.2 _ hk hid]
      have e2 : i ≠ t0.id := fun e => n3 (e ▸ hid)
      intro p hp
      simp only [putL, if_neg e2, objs, putL_kC hu, List.cons_append, List.mem_cons, List.mem_append] at hp
      rw [e1, objss_app, show objss (putL t0.id u s :: l2) = objs (putL t0.id u s) ++ objss l2 from rfl] at hp
      simp only [List.mem_append] at hp
      simp only [objs, objss_app, List.cons_append, List.mem_cons, List.mem_append, show objss (s :: l2) = objs s ++ objss l2 from rfl]
      rcases hp with rfl | hp | hp | hp | hp
      · exact .inr ⟨.inl rfl, fun hk => n3 (h0 _ hk)⟩
      · exact .inr ⟨.inr (.inl hp), fun hk => m1 _ (mem_keys (List.mem_append.2 hp)) (h0 _ hk)⟩
      · exact .inr ⟨.inr (.inr (.inl hp)), fun hk => m3.2.1 _ (mem_keys hp) (h0 _ hk)⟩
      · rcases ih m3.1 p hp with h1 | ⟨h1, h2⟩
        · exact .inl h1
        · exact .inr ⟨.inr (.inr (.inr (.inl h1))), h2⟩
      · exact .inr ⟨.inr (.inr (.inr (.inr hp))), fun hk => m3.2.2 _ (mem_keys hp) (h0 _ hk)⟩
end Go.Proofs.YtgdionbeeodaaaaDoor
namespace Go.CoreX
theorem erTs_put (k : Nat) (u : LTr) (l : List LTr) : erTs (putLs k u l) = l.map fun t => erT (putL k u t) := by rw [erTs_eq, putLs_eq, List.map_map]; rfl
end Go.CoreX
namespace Go.Proofs.YtgdionbeeodaaaaDoor
open Go Go.Abs Go.CoreX
set_option maxRecDepth 10000
section
variable {e : List Ex} {lts : List LTr} {B : Nb → List Int → Prop}
theorem LinkL.put_er (h : LinkL e lts B) (hk : kidsIn e) (hid : ∀ (i j : Nat) (ti tj : LTr), lts[i]? = some ti → lts[j]? = some tj → ti.id = tj.id → i = j) {p : Nat} {t0 : LTr} (hp : lts[p]? = some t0) (u : LTr) : ∀ (n j : Nat) (t : LTr), j < n → lts[j]? = some t → erT (putL t0.id u t) = (growLR e p (erT u)).getD j default
  | 0, j, t, hj, _ => by omega
  | n + 1, j, t, hj, ht => by
    have hjl : j < e.length := by rw [← h.len]; exact (List.getElem?_eq_some_iff.1 ht).1
    obtain ⟨x, hx⟩ := get_of_lt hjl
    obtain ⟨id, nb, a, h1, h2, _⟩ := h.at_ j x hx
    rw [growLR_node hk p (erT u) hx]
    by_cases hjp : j = p
    · subst hjp
      rw [hp] at ht
      cases ht
      rw [if_pos rfl]
      cases t0 with
      | mk i o n nb b ks a => simp only [putL, LTr.id, if_true]
    · rw [if_neg hjp]
      have hne : t.id ≠ t0.id := fun e1 => hjp (hid j p t t0 ht hp e1)
      rw [ht] at h1
      cases h1
      have hne2 : ¬ id = t0.id := hne
      simp only [putL]
      rw [if_neg hne2]
      simp only [erT, h2, erTs_put, List.map_map]
      congr 1
      refine List.map_congr_left fun q hq => ?_
      have hq' := hk j x hx q hq
      obtain ⟨t', ht'⟩ := get_of_lt (l := lts) (i := q.toNat) (by rw [h.len]; omega)
      simp only [Function.comp, h.getD ht']
      exact h.put_er hk hid hp u n q.toNat t' (by omega) ht'
theorem LinkL.sub (h : LinkL e lts B) (hT : IsTree e) {root : LTr} (hr : lts[e.length - 1]? = some root) : ∀ (k : Nat) (t : LTr), lts[k]? = some t → SubL t root := by
  have key : ∀ (d k : Nat) (t : LTr), lts[k]? = some t → e.length - k = d → SubL t root := by
    intro d
    induction d using Nat.strongRecOn with
    | _ d ih =>
      intro k t ht hd
      have hk : k < e.length := by rw [← h.len]; exact (List.getElem?_eq_some_iff.1 ht).1
      by_cases hl : k + 1 < e.length
      · have hc := (hT.c k hk).2 hl
        obtain ⟨i, x, hx, hkx⟩ := cnt_pos (e := e) (k := k) (by omega)
        have hb := hT.k i x hx _ hkx
        have hi := (List.getElem?_eq_some_iff.1 hx).1
        obtain ⟨id, nb, a, h1, _⟩ := h.at_ i x hx
        have hp := ih (e.length - i) (by omega) i _ h1 rfl
        refine SubL.trans (.kid ?_ .here) hp
        simp only [LTr.kids]
        exact List.mem_map.2 ⟨_, hkx, by rw [Int.toNat_natCast, h.getD ht]⟩
      · have : k = e.length - 1 := by omega
        subst this
        rw [hr] at ht; cases ht
        exact .here
  exact fun k t ht => key _ k t ht rfl
end
theorem cnt_list_le {t : LTr} {l : List LTr} (h : t ∈ l) : cntN (erT t) ≤ cntNs (erTs l) := by
  induction l with
  | nil => cases h
  | cons x l ih =>
    simp only [erTs, cntNs]
    rcases List.mem_cons.1 h with rfl | h
    · omega
    · have := ih h; omega
theorem cntNs_app : ∀ (l r : List Tr), cntNs (l ++ r) = cntNs l + cntNs r
  | [], r => by simp [cntNs]
  | t :: l, r => by simp only [List.cons_append, cntNs, cntNs_app l r]; omega
theorem put_cnt {u t0 t : LTr} (h : SubL t0 t) (hn : (keys (objs t)).Nodup) : cntN (erT (putL t0.id u t)) ≤ cntN (erT t) + cntN (erT u) := by
  induction h with
  | here =>
    cases t0 with
    | mk i o n nb b k a => simp only [putL, LTr.id, if_true]; omega
  | @kid t s hs hsub ih =>
    have h0 : ∀ k ∈ keys (objs t0), k ∈ keys (objs s) := fun k hk => by
      obtain ⟨o, ho⟩ := of_keys hk
      exact mem_keys (sub_objs hsub _ ho)
    cases t with
    | mk i o n nb b ks a =>
      simp only [LTr.kids] at hs
      obtain ⟨l1, l2, rfl⟩ := List.append_of_mem hs
      have hnk : (keys (objss (l1 ++ s :: l2))).Nodup := by
        rw [objs_tail] at hn
        simp only [tailO, keys, List.map_cons, List.map_append] at hn
        exact (List.nodup_append.1 (List.nodup_cons.1 hn).2).2.1
      rw [objss_app, show objss (s :: l2) = objs s ++ objss l2 from rfl, keys_app, keys_app, List.nodup_append, List.nodup_append] at hnk
      have hid : t0.id ∈ keys (objs s) := h0 _ (id_mem t0)
      have e1 : putLs t0.id u (l1 ++ s :: l2) = l1 ++ putL t0.id u s :: l2 := by
        rw [putLs_eq, List.map_append, List.map_cons, ← putLs_eq, ← putLs_eq]
        rw [putLs_none l1 fun hk => hnk.2.2 _ hk _ (List.mem_append.2 (.inl hid)) rfl, putLs_none l2 fun hk => hnk.2.1.2.2 _ hid _ hk rfl]
      have ih' := ih hnk.2.1.1
      simp only [putL]
      split
      · simp only [erT, cntN]; omega
      · simp only [erT, cntN, e1, erTs_eq, List.map_append, List.map_cons, cntNs_app, cntNs]
        omega
theorem uniq_list : ∀ l : List (Nat × AObj), ∃ l' : List (Nat × AObj), (∀ p ∈ l', p ∈ l) ∧ (keys l').Nodup ∧ ∀ k, k ∈ keys l ↔ k ∈ keys l'
  | [] => ⟨[], fun _ h => h, by simp [keys], fun _ => Iff.rfl⟩
  | p :: l => by
    obtain ⟨l', h1, h2, h3⟩ := uniq_list l
    by_cases hp : p.1 ∈ keys l'
    · refine ⟨l', fun q hq => List.mem_cons_of_mem _ (h1 q hq), h2, fun k => ?_⟩
      rw [show keys (p :: l) = p.1 :: keys l from rfl, List.mem_cons, h3]
      constructor
      · rintro (rfl | h)
        · exact hp
        · exact h
      · exact .inr
    · refine ⟨p :: l', fun q hq => ?_, ?_, fun k => ?_⟩
      · rcases List.mem_cons.1 hq with rfl | hq
        · simp
        · exact List.mem_cons_of_mem _ (h1 q hq)
      · rw [show keys (p :: l') = p.1 :: keys l' from rfl]; exact List.nodup_cons.2 ⟨hp, h2⟩
      · rw [show keys (p :: l) = p.1 :: keys l from rfl, show keys (p :: l') = p.1 :: keys l' from rfl, List.mem_cons, List.mem_cons, h3]
theorem AOps.freezeU {E : Env} {ops : Array Oper} {l : List Oper} {K : Cont} {fr : Fr} {σ : St} {t : LTr} (d : Nat) (ho : Owns σ.ou (objs t)) (hd : Fr.get d fr = some (.one (.ptr (.o t.id) 0)))
    (h : AOps E ops l K ((d, .one (.box (cTr (erT t)))) :: fr) { σ with ou := deadL σ.ou (keys (objs t)) }) : AOps E ops l K fr σ := by
  intro F w0 C0 w C tmps hgo hi hf
  obtain ⟨l', q1, q2, q3⟩ := uniq_list (objs t)
  obtain ⟨C', g1, g2, g3, g4⟩ := inv_freezeL l' hi (fun p hp => ho p (q1 p hp)) q2 fun p hp => objs_cells t p (q1 p hp)
  rw [show deadL σ.ou (keys l') = deadL σ.ou (keys (objs t)) from funext fun j => by unfold deadL; simp only [q3 j]] at g2
  refine h F w0 C0 w C' tmps (hgo.trans g1.toO) g2 ⟨hf.1, fun k x hk => ?_⟩
  simp only [Fr.get] at hk
  by_cases e : d = k
  · subst e
    simp at hk
    subst hk
    obtain ⟨u, hu, hr⟩ := hf.2 d _ hd
    simp only [RF, R] at hr
    exact ⟨u, hu, _, hr.2, rfl, own_read hi (g1.chg.weaken fun _ _ => trivial) t ho fun k hk => g4 k ((q3 k).1 hk)⟩
  · rw [beq_no e] at hk
    obtain ⟨u, hu, hr⟩ := hf.2 k x hk
    exact ⟨u, hu, hr.ext g1.chg⟩
structure Der (ou ou' : Outer) (S : List (Nat × AObj)) (u : LTr) : Prop where
  old : ∀ j o, ou j = some o → ou' j = some o
  part : ∀ p ∈ objs u, p ∈ S ∨ (ou p.1 = none ∧ ou' p.1 = some p.2)
  ok : OuOk ou'
theorem Der.own {ou ou' : Outer} {S : List (Nat × AObj)} {u : LTr} (h : Der ou ou' S u) (hS : Owns ou S) : Owns ou' (objs u) := fun p hp => by
  rcases h.part p hp with h1 | ⟨_, h1⟩
  · exact h.old _ _ (hS p h1)
  · exact h1
theorem Der.mono {ou ou' : Outer} {S S' : List (Nat × AObj)} {u : LTr} (h : Der ou ou' S u) (hS : ∀ p ∈ S, p ∈ S') : Der ou ou' S' u :=
  ⟨h.old, fun p hp => (h.part p hp).imp (hS p) id, h.ok⟩
theorem Der.refl {ou : Outer} {S : List (Nat × AObj)} {u : LTr} (h : ∀ p ∈ objs u, p ∈ S) (hou : OuOk ou) : Der ou ou S u := ⟨fun _ _ h => h, fun p hp => .inl (h p hp), hou⟩
theorem Der.pre {ou ou1 ou' : Outer} {S : List (Nat × AObj)} {u : LTr} (h : Der ou1 ou' S u) (h0 : ∀ j o, ou j = some o → ou1 j = some o) : Der ou ou' S u := by
  refine ⟨fun j o hj => h.old j o (h0 j o hj), fun p hp => ?_, h.ok⟩
  rcases h.part p hp with h1 | ⟨a, b⟩
  · exact .inl h1
  · refine .inr ⟨?_, b⟩
    cases ho : ou p.1 with
    | none => rfl
    | some o => rw [h0 _ _ ho] at a; cases a
theorem Der.not {ou ou' : Outer} {S : List (Nat × AObj)} {u : LTr} (h : Der ou ou' S u) {k : Nat} {o : AObj} (hk : ou k = some o) (hS : k ∉ keys S) : k ∉ keys (objs u) := fun hm => by
  obtain ⟨q, hq⟩ := of_keys hm
  rcases h.part _ hq with h1 | ⟨h1, _⟩
  · exact hS (mem_keys h1)
  · rw [hk] at h1; cases h1
end Go.Proofs.YtgdionbeeodaaaaDoor
namespace Go.CoreX
abbrev Step3 := Int × Int × Int
def stepsE : Nat → List Ex → List Ex × List Step3
  | 0, out => (out, [])
  | k + 1, out => match nextE out with
    | none => (out, [])
    | some (r, i) => if (applyE out r i 0).2 = 0 then ((stepsE k (applyE out r i 0).1).1, (r, (i : Int), 0) :: (stepsE k (applyE out r i 0).1).2) else (out, [])
def simpE (e : List Ex) (b : Int) : List Ex × List Step3 × Int :=
  if check e ≠ 0 then ([], [], check e) else if b < 0 ∨ 500 < b then ([], [], 4)
  else ((stepsE b.toNat (listT [] (grow e))).1, (stepsE b.toNat (listT [] (grow e))).2, 0)
def Ordd (e : List Ex) : Prop := check e = 0 ∧ listT [] (grow e) = e
theorem apply_ord {e : List Ex} {r p n : Int} (h : (applyE e r p n).2 = 0) : Ordd (applyE e r p n).1 := by
  unfold applyE at h ⊢
  split at h
  · rename_i h1; exact absurd h h1
  rename_i h1
  rw [if_neg h1]
  split at h
  · cases h
  rename_i h2
  rw [if_neg h2]
  split at h
  · cases h
  rename_i h3
  rw [if_neg h3]
  split at h
  · cases h
  rename_i x hx
  split at h
  · cases h
  rename_i h4
  rw [if_neg h4]
  exact ⟨by simpa using h4, by rw [grow_list]⟩
end Go.CoreX
namespace Go.CoreX
end Go.CoreX
namespace Go.CoreX
theorem allT_kid {p : Lab → Prop} {t s : Tr} (ht : allT p t) (h : s ∈ t.kids) : allT p s := by
  cases t with
  | mk o n b k a =>
    have : ∀ l : List Tr, allTs p l → s ∈ l → allT p s := by
      intro l
      induction l with
      | nil => intro _ h; cases h
      | cons x l ih =>
        intro h1 h2
        rcases List.mem_cons.1 h2 with rfl | h2
        · exact h1.1
        · exact ih h1.2 h2
    exact this k ht.2 h
end Go.CoreX
