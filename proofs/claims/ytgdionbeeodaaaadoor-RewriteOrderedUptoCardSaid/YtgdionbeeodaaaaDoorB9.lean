/- Rename, walked: the renaming of a tree of own nodes. -/
import Derived.Test.YtgdionbeeodaaaaDoorB8
set_option maxRecDepth 10000
set_option linter.unusedVariables false
set_option linter.unusedSimpArgs false
namespace Go.CoreX
def rnAs (nm : Nm) (f : Int) : List LAlt → List LAlt × Nm × Int
 | [] => ([], nm, f)
 | x :: l => (⟨x.tag, x.nb, frB f x.binds⟩ :: (rnAs (frN nm f x.binds) (f + x.binds.length) l).1, (rnAs (frN nm f x.binds) (f + x.binds.length) l).2)
def ren1 (o : Int) (nm : Nm) (f : Int) (b : List Int) : List Int × Nm × Int := if o = 9 then (b, nm, f) else (frB f b, frN nm f b, f + b.length)
mutual
def rnL (nm : Nm) (f : Int) : LTr → LTr × Nm × Int
 | .mk i o n nb b k a =>
   let s1 := ren1 o nm f b
   let s2 := rnAs s1.2.1 s1.2.2 a
   let s3 := rnLs s2.2.1 s2.2.2 k
   (.mk i o (if o = 0 then (nm n).getD n else n) nb s1.1 s3.1 s2.1, s3.2)
def rnLs (nm : Nm) (f : Int) : List LTr → List LTr × Nm × Int
 | [] => ([], nm, f)
 | t :: l => ((rnL nm f t).1 :: (rnLs (rnL nm f t).2.1 (rnL nm f t).2.2 l).1, (rnLs (rnL nm f t).2.1 (rnL nm f t).2.2 l).2)
end
theorem rnAs_snoc (x : LAlt) : ∀ (l : List LAlt) (nm : Nm) (f : Int), rnAs nm f (l ++ [x]) = ((rnAs nm f l).1 ++ [⟨x.tag, x.nb, frB (rnAs nm f l).2.2 x.binds⟩], frN (rnAs nm f l).2.1 (rnAs nm f l).2.2 x.binds, (rnAs nm f l).2.2 + x.binds.length)
 | [], nm, f => rfl
 | y :: l, nm, f => by simp only [List.cons_append, rnAs, rnAs_snoc x l]
theorem rnLs_snoc (t : LTr) : ∀ (l : List LTr) (nm : Nm) (f : Int), rnLs nm f (l ++ [t]) = ((rnLs nm f l).1 ++ [(rnL (rnLs nm f l).2.1 (rnLs nm f l).2.2 t).1], (rnL (rnLs nm f l).2.1 (rnLs nm f l).2.2 t).2)
 | [], nm, f => by simp [rnLs]
 | y :: l, nm, f => by simp only [List.cons_append, rnLs, rnLs_snoc t l]
-- How many identifiers are bound (and renamed).
def nbA (l : List LAlt) : Nat := (l.map fun x => x.binds.length).sum
mutual
def nbL : LTr → Nat
 | .mk _ o _ _ b k a => (if o = 9 then 0 else b.length) + nbA a + nbLs k
def nbLs : List LTr → Nat
 | [] => 0
 | t :: l => nbL t + nbLs l
end
theorem ren1_f (o : Int) (nm : Nm) (f : Int) (b : List Int) : (ren1 o nm f b).2.2 = f + (if o = 9 then 0 else b.length : Nat) := by
 unfold ren1; split <;> simp
theorem rnAs_f : ∀ (l : List LAlt) (nm : Nm) (f : Int), (rnAs nm f l).2.2 = f + nbA l
 | [], _, _ => by simp [rnAs, nbA]
 | x :: l, nm, f => by simp only [rnAs, rnAs_f l, nbA, List.map_cons, List.sum_cons]; push_cast; omega
mutual
theorem rnL_f : ∀ (t : LTr) (nm : Nm) (f : Int), (rnL nm f t).2.2 = f + nbL t
 | .mk i o n nb b k a, nm, f => by
   simp only [rnL, rnLs_f k, rnAs_f, ren1_f, nbL]; push_cast; omega
theorem rnLs_f : ∀ (l : List LTr) (nm : Nm) (f : Int), (rnLs nm f l).2.2 = f + nbLs l
 | [], _, _ => by simp [rnLs, nbLs]
 | t :: l, nm, f => by simp only [rnLs, rnLs_f l, rnL_f t, nbLs]; push_cast; omega
end
theorem nbA_app (l r : List LAlt) : nbA (l ++ r) = nbA l + nbA r := by simp [nbA]
theorem nbLs_app : ∀ l r : List LTr, nbLs (l ++ r) = nbLs l + nbLs r
 | [], r => by simp [nbLs]
 | t :: l, r => by simp only [List.cons_append, nbLs, nbLs_app l r]; omega
-- A list that is renamed is own, unless it is empty.
def ownB (nb : Nb) (b : List Int) : Prop := nb = none → b = []
mutual
def okL : LTr → Prop
 | .mk _ o _ nb b k a => (o ≠ 9 → ownB nb b) ∧ b.length ≤ 1048576 ∧ k.length ≤ 1048576 ∧ a.length ≤ 1048576 ∧ (∀ x ∈ a, ownB x.nb x.binds ∧ x.binds.length ≤ 1048576) ∧ okLs k
def okLs : List LTr → Prop
 | [] => True
 | t :: l => okL t ∧ okLs l
end
theorem okLs_iff : ∀ {l : List LTr}, okLs l ↔ ∀ t ∈ l, okL t
 | [] => by simp [okLs]
 | t :: l => by simp [okLs, okLs_iff (l := l)]
theorem frB_nil (f : Int) : frB f [] = [] := rfl
end Go.CoreX
namespace Go.Proofs.YtgdionbeeodaaaaDoor
open Go Go.Abs Go.CoreX
variable {Γ : List (Nat × List AC)}
theorem bC_fr {nb : Nb} {b : List Int} (h : ownB nb b) (f : Int) : bC nb (frB f b) = bC nb b := by
 cases nb with
 | none => rw [h rfl, frB_nil]
 | some x => obtain ⟨a, cap⟩ := x; simp [bC, frB_len]
theorem keys_bO (nb : Nb) (b b' : List Int) : keys (bO nb b) = keys (bO nb b') := by cases nb <;> rfl
theorem lAlt_fr {x : LAlt} (h : ownB x.nb x.binds) (f : Int) : lAlt ⟨x.tag, x.nb, frB f x.binds⟩ = lAlt x := by simp only [lAlt, bC_fr h]
theorem rnAs_c : ∀ {l : List LAlt} {nm : Nm} {f : Int}, (∀ x ∈ l, ownB x.nb x.binds) → (rnAs nm f l).1.map lAlt = l.map lAlt
 | [], _, _, _ => rfl
 | x :: l, nm, f, h => by
   have ih := rnAs_c (l := l) (nm := frN nm f x.binds) (f := f + x.binds.length) fun y hy => h y (by simp [hy])
   simp only [rnAs, List.map_cons, lAlt_fr (h x (by simp)), ih]
theorem keys_app (l r : List (Nat × AObj)) : keys (l ++ r) = keys l ++ keys r := by simp [keys]
theorem aO_cons (x : LAlt) (l : List LAlt) : aO (x :: l) = bO x.nb x.binds ++ aO l := rfl
theorem aO_app (l r : List LAlt) : aO (l ++ r) = aO l ++ aO r := by simp [aO]
theorem rnAs_k : ∀ (l : List LAlt) (nm : Nm) (f : Int), keys (aO (rnAs nm f l).1) = keys (aO l)
 | [], _, _ => rfl
 | x :: l, nm, f => by simp only [rnAs, aO_cons, keys_app, rnAs_k l]; rw [keys_bO x.nb _ x.binds]
theorem ren1_c {o : Int} {nb : Nb} {b : List Int} (h : o ≠ 9 → ownB nb b) (nm : Nm) (f : Int) : bC nb (ren1 o nm f b).1 = bC nb b := by
 unfold ren1
 split
 · rfl
 · exact bC_fr (h (by assumption)) f
mutual
theorem rnL_id : ∀ (t : LTr) (nm : Nm) (f : Int), (rnL nm f t).1.id = t.id
 | .mk i o n nb b k a, nm, f => rfl
theorem rnLs_c : ∀ (l : List LTr) (nm : Nm) (f : Int), kC (rnLs nm f l).1 = kC l
 | [], _, _ => rfl
 | t :: l, nm, f => by
   have h1 := rnL_id t nm f
   have h2 := rnLs_c l (rnL nm f t).2.1 (rnL nm f t).2.2
   unfold kC at h2 ⊢
   simp only [rnLs, List.map_cons, h1, h2]
end
mutual
theorem rnL_k : ∀ (t : LTr) (nm : Nm) (f : Int), keys (objs (rnL nm f t).1) = keys (objs t)
 | .mk i o n nb b k a, nm, f => by
   have h1 := rnLs_k k (rnAs (ren1 o nm f b).2.1 (ren1 o nm f b).2.2 a).2.1 (rnAs (ren1 o nm f b).2.1 (ren1 o nm f b).2.2 a).2.2
   have h2 := rnAs_k a (ren1 o nm f b).2.1 (ren1 o nm f b).2.2
   have h3 := keys_bO nb (ren1 o nm f b).1 b
   simp only [keys] at h1 h2 h3
   simp only [rnL, objs, keys, List.map_cons, List.map_append, h1, h2, h3]
theorem rnLs_k : ∀ (l : List LTr) (nm : Nm) (f : Int), keys (objss (rnLs nm f l).1) = keys (objss l)
 | [], _, _ => rfl
 | t :: l, nm, f => by
   have h1 := rnL_k t nm f
   have h2 := rnLs_k l (rnL nm f t).2.1 (rnL nm f t).2.2
   simp only [keys] at h1 h2
   simp only [rnLs, objss, keys, List.map_append, h1, h2]
end
def fnR (kn kf kw : Nat) : AC := .fn (.func 91) [] [.ptr (.o kn) 0, .ptr (.o kf) 0, .ptr (.o kw) 0]
def RenQ (ou : Outer) (kn km kf : Nat) (nm : Nm) (f : Int) (t : LTr) (r : FV) (ou' : Outer) : Prop :=
 r = .tup [] ∧ ∃ ck' l', RnS ou' kn km kf (rnL nm f t).2.1 ck' l' (rnL nm f t).2.2 ∧ Owns ou' (objs (rnL nm f t).1) ∧ OuOk ou' ∧ ∀ j, j ≠ km → j ≠ kf → j ∉ keys (objs t) → ou' j = ou j
def RenOk (Γ : List (Nat × List AC)) (t : LTr) : Prop := ∀ (ou : Outer) (kn km kf kw : Nat) (nm : Nm) (ck : Nat) (l : List (Nat × Int × Int)) (f : Int), RnS ou kn km kf nm ck l f → ou kw = some (.cells [fnR kn kf kw]) → Owns ou (objs t) → (keys (objs t)).Nodup →
 (∀ k ∈ keys (objs t), k ≠ kn ∧ k ≠ km ∧ k ≠ kf ∧ k ≠ kw) → 0 ≤ f → f + nbL t ≤ 4611686018427387904 → OuOk ou →
 AFn Tryd.prog Γ 91 [.one (.ptr (.o t.id) 0), .one (.ptr (.o kn) 0), .one (.ptr (.o kf) 0), .one (.ptr (.o kw) 0)] ou (RenQ ou kn km kf nm f t)
theorem ids_node (o n : Int) (nb : Nb) (b : List Int) (ks : List LTr) (a : List LAlt) : (AObj.cells [int o, int n, bC nb b, .sl 1 (kC ks), .sl 2 (a.map lAlt)]).ids isO :=
 ⟨trivial, trivial, ids_bC _ (fun _ => trivial) _ _, ids_kC _ (fun _ => trivial) _, ids_lAlts _ (fun _ => trivial) _, trivial⟩
structure NdS (ou ov : Outer) (kn km kf kw i : Nat) (cs : List AC) (K : List Nat) (nm : Nm) (ck : Nat) (l : List (Nat × Int × Int)) (f : Int) (Lb La Lk : List (Nat × AObj)) : Prop where
 R : RnS ov kn km kf nm ck l f
 w : ov kw = some (.cells [fnR kn kf kw])
 i : ov i = some (.cells cs)
 b : Owns ov Lb
 a : Owns ov La
 k : Owns ov Lk
 ok : OuOk ov
 fr : ∀ j, j ≠ km → j ≠ kf → j ∉ K → ov j = ou j
theorem NdS.frame {ou ov ow : Outer} {kn km kf kw i : Nat} {cs : List AC} {K S : List Nat} {nm nm' : Nm} {ck ck' : Nat} {l l' : List (Nat × Int × Int)} {f f' : Int} {Lb La Lk Lb' La' Lk' : List (Nat × AObj)} (h : NdS ou ov kn km kf kw i cs K nm ck l f Lb La Lk)
   (hR : RnS ow kn km kf nm' ck' l' f') (hok : OuOk ow) (hfr : ∀ j, j ≠ km → j ≠ kf → j ∉ S → ow j = ov j) (hS : ∀ j ∈ S, j ∈ K ∧ j ≠ i) (hK : ∀ k ∈ K, k ≠ kn ∧ k ≠ km ∧ k ≠ kf ∧ k ≠ kw) (hi : i ∈ K) (hw : kw ≠ km ∧ kw ≠ kf)
   (hb : Owns ow Lb') (ha : Owns ow La') (hk : Owns ow Lk') : NdS ou ow kn km kf kw i cs K nm' ck' l' f' Lb' La' Lk' where
 R := hR
 w := (hfr kw hw.1 hw.2 fun hj => (hK kw (hS kw hj).1).2.2.2 rfl).trans h.w
 i := (hfr i (hK i hi).2.1 (hK i hi).2.2.1 fun hj => (hS i hj).2 rfl).trans h.i
 b := hb
 a := ha
 k := hk
 ok := hok
 fr := fun j h1 h2 h3 => (hfr j h1 h2 fun hj => h3 (hS j hj).1).trans (h.fr j h1 h2 h3)
theorem rename1_ok (hΓ : ∀ g cs, (g, cs) ∈ Γ → idsL isO cs) : ∀ t : LTr, okL t → RenOk Γ t
 | .mk i o n nb b ks a, hok => by
   obtain ⟨hnb, hbl, hkl, hal, hax, hks⟩ := hok
   have ih : ∀ t ∈ ks, RenOk Γ t := fun t ht => rename1_ok hΓ t (okLs_iff.1 hks t ht)
   intro ou kn km kf kw nm ck l f hR hw ho hnd hdis hf0 hf1 hou0
   have hni := owns_node ho
   have e0 : objs (.mk i o n nb b ks a) = (i, .cells [int o, int n, bC nb b, .sl 1 (kC ks), .sl 2 (a.map lAlt)]) :: ((bO nb b ++ aO a) ++ objss ks) := rfl
   obtain ⟨K, hKe⟩ : ∃ K, K = keys (objs (.mk i o n nb b ks a)) := ⟨_, rfl⟩
   have hKm : ∀ j, j ∈ K ↔ j = i ∨ j ∈ keys (bO nb b) ∨ j ∈ keys (aO a) ∨ j ∈ keys (objss ks) := fun j => by rw [hKe, e0]; simp [keys]
   have hKi : i ∈ K := (hKm i).2 (.inl rfl)
   rw [← hKe] at hnd hdis
   have hnd2 : i ∉ keys (bO nb b) ∧ i ∉ keys (aO a) ∧ i ∉ keys (objss ks) ∧ (keys (bO nb b)).Nodup ∧ (keys (aO a)).Nodup ∧ (keys (objss ks)).Nodup ∧ (∀ x ∈ keys (bO nb b), x ∉ keys (aO a) ∧ x ∉ keys (objss ks)) ∧ ∀ x ∈ keys (aO a), x ∉ keys (objss ks) := by
     rw [hKe, e0] at hnd
     simp only [keys, List.map_cons, List.map_append, List.nodup_cons, List.nodup_append, List.mem_append, not_or] at hnd
     obtain ⟨⟨⟨n1, n2⟩, n3⟩, ⟨n4, n5, n6⟩, n7, n8⟩ := hnd
     exact ⟨n1, n2, n3, n4, n5, n7, fun x hx => ⟨fun h => n6 x hx x h rfl, fun h => n8 x (.inl hx) x h rfl⟩, fun x hx h => n8 x (.inr hx) x h rfl⟩
   obtain ⟨nib, nia, nik, _, nda, ndk, nbx, nax⟩ := hnd2
   rw [e0] at ho
   have ho1 : Owns ou ((bO nb b ++ aO a) ++ objss ks) := fun p hp => ho p (by simp only [List.mem_cons]; exact .inr hp)
   obtain ⟨hob, hoa⟩ := Owns.app.1 (Owns.app.1 ho1).1
   have hokk := (Owns.app.1 ho1).2
   simp only [LTr.id, lC] at hni ⊢
   obtain ⟨d1, d2, d3⟩ := hR.ne
   have hik := hdis i hKi
   have hww : kw ≠ km ∧ kw ≠ kf := ⟨fun e => (by have := hR.m; rw [← e, hw] at this; cases this), fun e => (by have := hR.f; rw [← e, hw] at this; cases this)⟩
   have h0 : NdS ou ou kn km kf kw i [int o, int n, bC nb b, .sl 1 (kC ks), .sl 2 (a.map lAlt)] K nm ck l f (bO nb b) (aO a) (objss ks) := ⟨hR, hw, hni, hob, hoa, hokk, hou0, fun _ _ _ _ => rfl⟩
   have hnbf : (if o = 9 then 0 else b.length) + nbA a + nbLs ks = nbL (.mk i o n nb b ks a) := rfl
   obtain ⟨n', hn'⟩ : ∃ n' : Int, n' = if o = 0 then (nm n).getD n else n := ⟨_, rfl⟩
   refine AFn.walk 76 tabOk Tryd.func91 rfl (by kernel_rfl) rfl rfl fun hou => ?_
   refine zA ?_
   refine ACode.drawX tabOk 10 [(0, .one (.mp (.o km))), (4, .one (int n)), (5, .tup [.one (int ((nm n).getD 0)), .one (.lit (.bool (nm n).isSome))])] follows (by kernel_rfl) rfl rfl rfl rfl ?_ ?_
   · refine .step rfl (HStep.plain rfl (AStep.loadOwn tabOk rfl rfl rfl rfl rfl hR.n rfl)) (.step rfl (HStep.plain rfl (AStep.loadOwn tabOk rfl rfl rfl rfl rfl hni rfl)) ?_)
     exact .step rfl (HStep.plain rfl (AStep.lookI eN (cm := true) (v := .one (int ((nm n).getD 0))) rfl Tryd.underlying90 Tryd.underlying3 rfl hR.m rfl (by kernel_rfl) zeroN hR.k (by cases nm n <;> rfl))) .nil
   refine zA ?_
   refine AOps.cutN 1 rfl hΓ (α := Outer) (fun _ => [(0, .one (.ptr (.o i) 0)), (1, .one (.ptr (.o kn) 0)), (2, .one (.ptr (.o kf) 0)), (3, .one (.ptr (.o kw) 0))]) (fun ov => ⟨0, [], ov⟩)
     (fun ov => NdS ou ov kn km kf kw i [int o, int n', bC nb b, .sl 1 (kC ks), .sl 2 (a.map lAlt)] K nm ck l f (bO nb b) (aO a) (objss ks)) ?_ fun ov hov => ?_
   · dsimp only [List.take_succ_cons, List.take_zero, List.cons_append, List.nil_append]
     refine AOps.splitG rfl rfl rfl (fun hb5 => ?_) (fun hb5 => ?_)
     · obtain ⟨v, hv⟩ := Option.isSome_iff_exists.1 hb5
       refine zM ?_
       refine AOps.step1 rfl rfl rfl (AStep.loadOwn tabOk rfl rfl rfl rfl rfl hni rfl) ?_
       refine zM ?_
       refine ACode.cond rfl (fun hb6 => ?_) (fun hb6 => ?_)
       · have h00 : o = 0 := by simpa using hb6
         have hnv : n' = v := by rw [hn', if_pos h00, hv]; rfl
         subst hnv
         rw [hv]
         refine zM ?_
         refine AOps.storeOwn tabOk rfl rfl rfl rfl rfl rfl rfl hni (by simp) ?_
         refine zM ?_
         refine cInv ⟨(St.set ⟨0, [], ou⟩ (.o i) (.cells [int o, int n', bC nb b, .sl 1 (kC ks), .sl 2 (a.map lAlt)])).ou, id, ?_, LessR.of rfl (by (repeat' first | exact FrSub.nil | refine zfc ?_ | refine zfo ?_ | refine zfp ?_)) (by simp) .nil rfl rfl ?_⟩
         · have hne : ∀ {j : Nat}, j ≠ i → (St.set ⟨0, [], ou⟩ (.o i) (.cells [int o, int n', bC nb b, .sl 1 (kC ks), .sl 2 (a.map lAlt)])).ou j = ou j := fun {j} hj => set_ou_ne hj
           refine ⟨⟨(hne (Ne.symm hik.1)).trans hR.n, (hne (Ne.symm hik.2.1)).trans hR.m, hR.k, (hne (Ne.symm hik.2.2.1)).trans hR.f⟩, (hne (Ne.symm hik.2.2.2)).trans hw, set_ou_same, hob.frame fun j hj => hne fun e => nib (e ▸ hj), hoa.frame fun j hj => hne fun e => nia (e ▸ hj), hokk.frame fun j hj => hne fun e => nik (e ▸ hj), OuOk.set (σ := ⟨0, [], ou⟩) hou0 (ids_node _ _ _ _ _ _), fun j h1 h2 h3 => hne fun e => h3 (e ▸ hKi)⟩
         · exact OuOk.set (σ := ⟨0, [], ou⟩) hou0 (ids_node _ _ _ _ _ _)
       · have h00 : ¬ o = 0 := by simpa using hb6
         have hnv : n' = n := by rw [hn', if_neg h00]
         subst hnv
         refine zM ?_
         exact cInv ⟨ou, id, h0, LessR.of rfl (by (repeat' first | exact FrSub.nil | refine zfc ?_ | refine zfo ?_ | refine zfp ?_)) (by simp) .nil rfl rfl hou⟩
     · have hv : nm n = none := by simpa using hb5
       have hnv : n' = n := by rw [hn', hv]; simp
       subst hnv
       refine zM ?_
       exact cInv ⟨ou, id, h0, LessR.of rfl (by (repeat' first | exact FrSub.nil | refine zfc ?_ | refine zfo ?_ | refine zfp ?_)) (by simp) .nil rfl rfl hou⟩
   clear h0 hR hw hni hob hoa hokk
   have hok0 := hov.ok
   refine zA ?_
   refine AOps.step1 rfl rfl rfl (AStep.loadOwn tabOk rfl rfl rfl rfl rfl hov.i rfl) ?_
   refine AOps.cutN 1 rfl hΓ (α := Outer × Nat × List (Nat × Int × Int)) (fun _ => [(7, .one (.fn (.func 92) [] [.ptr (.o kf) 0, .ptr (.o kn) 0])), (0, .one (.ptr (.o i) 0)), (1, .one (.ptr (.o kn) 0)), (2, .one (.ptr (.o kf) 0)), (3, .one (.ptr (.o kw) 0))]) (fun c => ⟨0, [], c.1⟩)
     (fun c => NdS ou c.1 kn km kf kw i [int o, int n', bC nb b, .sl 1 (kC ks), .sl 2 (a.map lAlt)] K (ren1 o nm f b).2.1 c.2.1 c.2.2 (ren1 o nm f b).2.2 (bO nb (ren1 o nm f b).1) (aO a) (objss ks)) ?_ fun c hov2 => ?_
   · dsimp only [List.take_succ_cons, List.take_zero, List.cons_append, List.nil_append]
     refine zM ?_
     refine ACode.cond rfl (fun hb6 => ?_) (fun hb6 => ?_)
     · have h9 : o ≠ 9 := by simpa using hb6
       have hr1 : ren1 o nm f b = (frB f b, frN nm f b, f + b.length) := by unfold ren1; rw [if_neg h9]
       rw [hr1]
       rw [if_neg h9] at hnbf
       refine zM ?_
       refine AOps.step1 rfl rfl rfl (AStep.loadOwn tabOk rfl rfl rfl rfl rfl hov.i rfl) ?_
       refine AOps.call1 hΓ rfl rfl rfl rfl rfl rfl rfl (by exact ⟨ids_bC _ (fun _ => trivial) _ _, trivial, trivial, trivial⟩) hok0
         (fresh_ok hΓ nb b (hnb h9) hbl ov kn km kf nm _ _ f hov.R hov.b (fun k hk => ⟨(hdis k ((hKm k).2 (.inr (.inl hk)))).1, (hdis k ((hKm k).2 (.inr (.inl hk)))).2.1, (hdis k ((hKm k).2 (.inr (.inl hk)))).2.2.1⟩) hf0 (by omega) hok0) fun r ow hq hids how => ?_
       obtain ⟨rfl, ck', l', hR', hO', hok', hfr'⟩ := hq
       refine zM ?_
       refine cInv ⟨(ow, ck', l'), id, ?_, LessR.of rfl (by (repeat' first | exact FrSub.nil | refine zfc ?_ | refine zfo ?_ | refine zfp ?_)) (by simp) .nil rfl rfl hok'⟩
       refine hov.frame (S := keys (bO nb b)) hR' hok' hfr' (fun j hj => ⟨(hKm j).2 (.inr (.inl hj)), fun e => nib (e ▸ hj)⟩) hdis hKi hww hO' (hov.a.frame fun j hj => ?_) (hov.k.frame fun j hj => ?_)
       · have hj' := hdis j ((hKm j).2 (.inr (.inr (.inl hj))))
         exact hfr' j hj'.2.1 hj'.2.2.1 fun h => (nbx j h).1 hj
       · have hj' := hdis j ((hKm j).2 (.inr (.inr (.inr hj))))
         exact hfr' j hj'.2.1 hj'.2.2.1 fun h => (nbx j h).2 hj
     · have h9 : o = 9 := by simpa using hb6
       have hr1 : ren1 o nm f b = (b, nm, f) := by unfold ren1; rw [if_pos h9]
       rw [hr1]
       refine zM ?_
       exact cInv ⟨(ov, ck, l), id, hov, LessR.of rfl (by (repeat' first | exact FrSub.nil | refine zfc ?_ | refine zfo ?_ | refine zfp ?_)) (by simp) .nil rfl rfl hok0⟩
   clear hov hok0
   obtain ⟨ov, ck, l⟩ := c
   have hov := hov2
   clear hov2
   dsimp only at hov
   have hok0 := hov.ok
   have hf1' := ren1_f o nm f b
   have hkb : keys (bO nb (ren1 o nm f b).1) = keys (bO nb b) := keys_bO nb _ _
   generalize hs1 : ren1 o nm f b = s1 at hov hf1' hkb
   obtain ⟨b1, nm1, f1⟩ := s1
   dsimp only at hov hf1' hkb
   refine zA ?_
   refine AOps.step1 rfl rfl rfl (AStep.loadOwn tabOk rfl rfl rfl rfl rfl hov.i rfl) ?_
   refine zA ?_
   refine ACode.loopR hΓ (α := Nat × Outer × Nat × List (Nat × Int × Int)) (fun c => [(49, .one (int c.1)), (48, .one (int (a.map lAlt).length)), (7, .one (.fn (.func 92) [] [.ptr (.o kf) 0, .ptr (.o kn) 0])), (0, .one (.ptr (.o i) 0)), (1, .one (.ptr (.o kn) 0)), (2, .one (.ptr (.o kf) 0)), (3, .one (.ptr (.o kw) 0))])
     (fun c => ⟨0, [], c.2.1⟩) (fun m c => c.1 ≤ a.length ∧ NdS ou c.2.1 kn km kf kw i [int o, int n', bC nb b, .sl 1 (kC ks), .sl 2 (a.map lAlt)] K (rnAs nm1 f1 (a.take c.1)).2.1 c.2.2.1 c.2.2.2 (rnAs nm1 f1 (a.take c.1)).2.2 (bO nb b1) (aO ((rnAs nm1 f1 (a.take c.1)).1 ++ a.drop c.1)) (objss ks) ∧ m = a.length - c.1)
     (a0 := (0, ov, ck, l)) (ρ := id) ⟨by omega, by simpa [rnAs] using hov, rfl⟩ (LessR.of rfl (by (repeat' first | exact FrSub.nil | refine zfc ?_ | refine zfo ?_ | refine zfp ?_)) (by simp) .nil rfl rfl hok0) fun m c hc => ?_
   clear hov hok0
   obtain ⟨j, ov, ck, l⟩ := c
   obtain ⟨hjl, hov, rfl⟩ := hc
   dsimp only at hjl hov
   have hok0 := hov.ok
   refine zA ?_
   refine ACode.cond rfl (fun hb2 => ?_) (fun hb2 => ?_)
   · have hlt : j < a.length := by simpa using hb2
     obtain ⟨x, hx⟩ := get_of_lt hlt
     have hxm := List.mem_of_getElem? hx
     obtain ⟨hxo, hxl⟩ := hax x hxm
     have hsn := rnAs_snoc x (a.take j) nm1 f1
     rw [← take_get hx] at hsn
     have hfa := rnAs_f (a.take j) nm1 f1
     have hdr : a.drop j = x :: a.drop (j + 1) := by
       obtain ⟨q1, q2⟩ := List.getElem?_eq_some_iff.1 hx
       rw [List.drop_eq_getElem_cons q1, q2]
     have hcnt : nbA (a.take j) + x.binds.length ≤ nbA a := by
       have h1 := nbA_app (a.take (j + 1)) (a.drop (j + 1))
       rw [List.take_append_drop, take_get hx, nbA_app] at h1
       simp [nbA] at h1 ⊢; omega
     have hka := rnAs_k (a.take j) nm1 f1
     have hxk : ∀ k ∈ keys (bO x.nb x.binds), k ∈ keys (aO a) := fun k hk => by
       rw [← List.take_append_drop j a, hdr, aO_app, keys_app, aO_cons, keys_app]
       simp [hk]
     have hxd : ∀ k ∈ keys (bO x.nb x.binds), k ∉ keys (aO (a.take j)) ∧ k ∉ keys (aO (a.drop (j + 1))) := fun k hk => by
       have h1 := nda
       rw [← List.take_append_drop j a, hdr, aO_app, keys_app, aO_cons, keys_app, List.nodup_append, List.nodup_append] at h1
       exact ⟨fun h => h1.2.2 k h k (List.mem_append.2 (.inl hk)) rfl, fun h => h1.2.1.2.2 k hk k h rfl⟩
     rw [hdr] at hov
     generalize rnAs nm1 f1 (a.take j) = sj at hov hsn hfa hka
     obtain ⟨aj, nmj, fj⟩ := sj
     dsimp only at hov hsn hfa hka
     rw [aO_app, aO_cons] at hov
     obtain ⟨hoa1, hoa2⟩ := Owns.app.1 hov.a
     obtain ⟨hoa3, hoa4⟩ := Owns.app.1 hoa2
     have hxK : ∀ k ∈ keys (bO x.nb x.binds), k ∈ K := fun k hk => (hKm k).2 (.inr (.inr (.inl (hxk k hk))))
     refine zA ?_
     refine AOps.step1 rfl rfl rfl (AStep.loadOwn tabOk rfl rfl rfl rfl rfl hov.i rfl) ?_
     refine zA ?_
     refine AOps.step1 rfl rfl rfl (AStep.indexAddr tabOk rfl rfl rfl rfl rfl rfl (.inl rfl) rfl (by omega) (map_get (f := lAlt) hx)) ?_
     refine zA ?_
     refine AOps.call1 hΓ rfl rfl rfl rfl rfl rfl rfl (by exact ⟨ids_bC _ (fun _ => trivial) _ _, trivial, trivial, trivial⟩) hok0
       (fresh_ok hΓ x.nb x.binds hxo hxl ov kn km kf nmj _ _ fj hov.R hoa3 (fun k hk => ⟨(hdis k (hxK k hk)).1, (hdis k (hxK k hk)).2.1, (hdis k (hxK k hk)).2.2.1⟩) (by omega) (by omega) hok0) fun r ow hq hids how => ?_
     obtain ⟨rfl, ck', l', hR', hO', hok', hfr'⟩ := hq
     refine zM ?_
     refine cInv ⟨a.length - (j + 1), (j + 1, ow, ck', l'), id, by omega, ⟨by omega, ?_, rfl⟩, LessR.of rfl (by (repeat' first | exact FrSub.nil | refine zfc ?_ | refine zfo ?_ | refine zfp ?_)) (by simp) .nil rfl rfl hok'⟩
     dsimp only
     rw [hsn]
     dsimp only
     have hkq : ∀ q ∈ keys (aO a), q ∉ keys (bO x.nb x.binds) → ow q = ov q := fun q hq hn => by
       have hq' := hdis q ((hKm q).2 (.inr (.inr (.inl hq))))
       exact hfr' q hq'.2.1 hq'.2.2.1 hn
     refine hov.frame (S := keys (bO x.nb x.binds)) hR' hok' hfr' (fun q hq => ⟨hxK q hq, fun e => nia (e ▸ hxk q hq)⟩) hdis hKi hww (hov.b.frame fun q hq => ?_) ?_ (hov.k.frame fun q hq => ?_)
     · rw [hkb] at hq
       have hq' := hdis q ((hKm q).2 (.inr (.inl hq)))
       exact hfr' q hq'.2.1 hq'.2.2.1 fun h => (nbx q hq).1 (hxk q h)
     · rw [List.append_assoc, aO_app]
       refine Owns.app.2 ⟨hoa1.frame fun q hq => ?_, ?_⟩
       · rw [hka] at hq
         refine hkq q ?_ fun h => (hxd q h).1 hq
         rw [← List.take_append_drop j a, aO_app, keys_app]
         exact List.mem_append.2 (.inl hq)
       · rw [List.cons_append, List.nil_append, aO_cons]
         refine Owns.app.2 ⟨hO', hoa4.frame fun q hq => ?_⟩
         refine hkq q ?_ fun h => (hxd q h).2 hq
         rw [← List.take_append_drop (j + 1) a, aO_app, keys_app]
         exact List.mem_append.2 (.inr hq)
     · have hq' := hdis q ((hKm q).2 (.inr (.inr (.inr hq))))
       exact hfr' q hq'.2.1 hq'.2.2.1 fun h => nax q (hxk q h) hq
   have hlt : j = a.length := by simp at hb2; omega
   subst hlt
   rw [List.take_length, List.drop_length, List.append_nil] at hov
   have hfa := rnAs_f a nm1 f1
   have hka := rnAs_k a nm1 f1
   generalize hs2 : rnAs nm1 f1 a = s2 at hov hfa hka
   obtain ⟨a2, nm2, f2⟩ := s2
   dsimp only at hov hfa hka
   refine zA ?_
   refine AOps.step1 rfl rfl rfl (AStep.loadOwn tabOk rfl rfl rfl rfl rfl hov.i rfl) ?_
   refine zA ?_
   refine ACode.loopR hΓ (α := Nat × Outer × Nat × List (Nat × Int × Int)) (fun c => [(68, .one (int c.1)), (67, .one (int (kC ks).length)), (66, .one (.sl 1 (kC ks))), (3, .one (.ptr (.o kw) 0))])
     (fun c => ⟨0, [], c.2.1⟩) (fun m c => c.1 ≤ ks.length ∧ NdS ou c.2.1 kn km kf kw i [int o, int n', bC nb b, .sl 1 (kC ks), .sl 2 (a.map lAlt)] K (rnLs nm2 f2 (ks.take c.1)).2.1 c.2.2.1 c.2.2.2 (rnLs nm2 f2 (ks.take c.1)).2.2 (bO nb b1) (aO a2) (objss ((rnLs nm2 f2 (ks.take c.1)).1 ++ ks.drop c.1)) ∧ m = ks.length - c.1)
     (a0 := (0, ov, ck, l)) (ρ := id) ⟨by omega, by simpa [rnLs] using hov, rfl⟩ (LessR.of rfl ?_ ?_ .nil rfl rfl hok0) fun m c hc => ?_
   · refine FrSub.cons rfl (.ofEq rfl) (FrSub.cons rfl (.ofEq rfl) (FrSub.consP rfl (.ofEq rfl) (ids_kC _ (fun _ => trivial) _) (FrSub.cons rfl (.ofEq rfl) .nil)))
   · simp; exact ids_kC (inL 0) (fun _ => trivial) _
   clear hov hok0
   obtain ⟨j, ov, ck, l⟩ := c
   obtain ⟨hjl, hov, rfl⟩ := hc
   dsimp only at hjl hov
   have hok0 := hov.ok
   refine zA ?_
   refine ACode.cond rfl (fun hb2 => ?_) (fun hb2 => ?_)
   · have hlt : j < ks.length := by simpa [kC] using hb2
     obtain ⟨t, ht⟩ := get_of_lt hlt
     have htm := List.mem_of_getElem? ht
     have hsn := rnLs_snoc t (ks.take j) nm2 f2
     rw [← take_get ht] at hsn
     have hfk := rnLs_f (ks.take j) nm2 f2
     have hdr : ks.drop j = t :: ks.drop (j + 1) := by
       obtain ⟨q1, q2⟩ := List.getElem?_eq_some_iff.1 ht
       rw [List.drop_eq_getElem_cons q1, q2]
     have hcnt : nbLs (ks.take j) + nbL t ≤ nbLs ks := by
       have h1 := nbLs_app (ks.take (j + 1)) (ks.drop (j + 1))
       rw [List.take_append_drop, take_get ht, nbLs_app] at h1
       simp [nbLs] at h1 ⊢; omega
     have hkk := rnLs_k (ks.take j) nm2 f2
     have hspl : keys (objss ks) = keys (objss (ks.take j)) ++ (keys (objs t) ++ keys (objss (ks.drop (j + 1)))) := by
       conv => lhs; rw [← List.take_append_drop j ks, hdr, objss_app, keys_app, show objss (t :: ks.drop (j + 1)) = objs t ++ objss (ks.drop (j + 1)) from rfl, keys_app]
     have htk : ∀ k ∈ keys (objs t), k ∈ keys (objss ks) := fun k hk => by rw [hspl]; simp [hk]
     have htd : (keys (objs t)).Nodup ∧ ∀ k ∈ keys (objs t), k ∉ keys (objss (ks.take j)) ∧ k ∉ keys (objss (ks.drop (j + 1))) := by
       have h1 := ndk
       rw [hspl, List.nodup_append, List.nodup_append] at h1
       exact ⟨h1.2.1.1, fun k hk => ⟨fun h => h1.2.2 k h k (List.mem_append.2 (.inl hk)) rfl, fun h => h1.2.1.2.2 k hk k h rfl⟩⟩
     rw [hdr] at hov
     generalize rnLs nm2 f2 (ks.take j) = sj at hov hsn hfk hkk
     obtain ⟨kj, nmj, fj⟩ := sj
     dsimp only at hov hsn hfk hkk
     rw [objss_app, show objss (t :: ks.drop (j + 1)) = objs t ++ objss (ks.drop (j + 1)) from rfl] at hov
     obtain ⟨hoa1, hoa2⟩ := Owns.app.1 hov.k
     obtain ⟨hoa3, hoa4⟩ := Owns.app.1 hoa2
     have htK : ∀ k ∈ keys (objs t), k ∈ K := fun k hk => (hKm k).2 (.inr (.inr (.inr (htk k hk))))
     refine zA ?_
     refine AOps.step1 rfl rfl rfl (AStep.indexAddr tabOk rfl rfl rfl rfl rfl rfl (.inl rfl) rfl (by omega) (map_get (f := fun t : LTr => [AC.ptr (.o t.id) 0]) ht)) ?_
     refine zA ?_
     refine AOps.step1 rfl rfl rfl (AStep.loadOwn tabOk rfl rfl rfl rfl rfl hov.w rfl) ?_
     refine zA ?_
     refine AOps.call1 hΓ rfl rfl rfl rfl rfl rfl rfl (by exact ⟨trivial, trivial, trivial, trivial, trivial⟩) hok0
       (ih t htm ov kn km kf kw nmj _ _ fj hov.R hov.w hoa3 htd.1 (fun k hk => hdis k (htK k hk)) (by omega) (by omega) hok0) fun r ow hq hids how => ?_
     obtain ⟨rfl, ck', l', hR', hO', hok', hfr'⟩ := hq
     refine zM ?_
     refine cInv ⟨ks.length - (j + 1), (j + 1, ow, ck', l'), id, by omega, ⟨by omega, ?_, rfl⟩, LessR.of rfl ?_ ?_ .nil rfl rfl hok'⟩
     · dsimp only
       rw [hsn]
       dsimp only
       have hkq : ∀ q ∈ keys (objss ks), q ∉ keys (objs t) → ow q = ov q := fun q hq hn => by
         have hq' := hdis q ((hKm q).2 (.inr (.inr (.inr hq))))
         exact hfr' q hq'.2.1 hq'.2.2.1 hn
       refine hov.frame (S := keys (objs t)) hR' hok' hfr' (fun q hq => ⟨htK q hq, fun e => nik (e ▸ htk q hq)⟩) hdis hKi hww (hov.b.frame fun q hq => ?_) (hov.a.frame fun q hq => ?_) ?_
       · rw [hkb] at hq
         have hq' := hdis q ((hKm q).2 (.inr (.inl hq)))
         exact hfr' q hq'.2.1 hq'.2.2.1 fun h => (nbx q hq).2 (htk q h)
       · rw [hka] at hq
         have hq' := hdis q ((hKm q).2 (.inr (.inr (.inl hq))))
         exact hfr' q hq'.2.1 hq'.2.2.1 fun h => nax q hq (htk q h)
       · rw [List.append_assoc, objss_app]
         refine Owns.app.2 ⟨hoa1.frame fun q hq => ?_, ?_⟩
         · rw [hkk] at hq
           exact hkq q (by rw [hspl]; exact List.mem_append.2 (.inl hq)) fun h => (htd.2 q h).1 hq
         · rw [List.cons_append, List.nil_append, show objss ((rnL nmj fj t).1 :: ks.drop (j + 1)) = objs (rnL nmj fj t).1 ++ objss (ks.drop (j + 1)) from rfl]
           refine Owns.app.2 ⟨hO', hoa4.frame fun q hq => ?_⟩
           exact hkq q (by rw [hspl]; exact List.mem_append.2 (.inr (List.mem_append.2 (.inr hq)))) fun h => (htd.2 q h).2 hq
     · refine FrSub.cons rfl (.ofEq rfl) (FrSub.cons rfl (.ofEq rfl) (FrSub.consP rfl (.ofEq rfl) (ids_kC _ (fun _ => trivial) _) (FrSub.cons rfl (.ofEq rfl) .nil)))
     · simp; exact ids_kC (inL 0) (fun _ => trivial) _
   have hlt : j = ks.length := by simp [kC] at hb2; omega
   subst hlt
   rw [List.take_length, List.drop_length, List.append_nil] at hov
   refine zA ?_
   refine AFn.fin' rfl (WkF.refl _) (by simp) hok0 ⟨rfl, ck, l, ?_, ?_, hok0, fun q h1 h2 h3 => hov.fr q h1 h2 (by rw [hKe]; exact h3)⟩
   · have := hov.R
     simp only [rnL, hs1, hs2]
     exact this
   · have e1 : (rnL nm f (.mk i o n nb b ks a)).1 = .mk i o n' nb b1 (rnLs nm2 f2 ks).1 a2 := by simp only [rnL, hs1, hs2, hn']
     rw [e1]
     have hc1 : bC nb b1 = bC nb b := by have := ren1_c hnb nm f; rw [hs1] at this; exact this
     have hc2 : a2.map lAlt = a.map lAlt := by have := rnAs_c (l := a) (nm := nm1) (f := f1) fun x hx => (hax x hx).1; rw [hs2] at this; exact this
     intro p hp
     simp only [objs, hc1, hc2, rnLs_c, List.cons_append, List.mem_cons] at hp
     rcases hp with rfl | hp
     · exact hov.i
     · exact Owns.app.2 ⟨Owns.app.2 ⟨hov.b, hov.a⟩, hov.k⟩ p hp
abbrev nm0 : Nm := fun _ => none
theorem ouAdd_ok {ou : Outer} {k : Nat} {os : List AObj} (h : OuOk ou) (ho : ∀ o ∈ os, o.ids isO) : OuOk (ouAdd ou k os) := by
 intro m o hm
 rcases Nat.lt_or_ge m k with h1 | h1
 · rw [ouAdd_old h1] at hm; exact h m o hm
 · obtain ⟨p, rfl⟩ : ∃ p, m = k + p := ⟨m - k, by omega⟩
   rw [ouAdd_new] at hm
   exact ho o (List.mem_of_getElem? hm)
def ouCut (ou : Outer) (k : Nat) : Outer := fun m => if m < k then ou m else none
theorem ouCut_some {ou : Outer} {k m : Nat} {o : AObj} (h : ouCut ou k m = some o) : ou m = some o := by
 unfold ouCut at h
 split at h
 · exact h
 · cases h
def RenameQ (ou : Outer) (t : LTr) (f : Int) (r : FV) (ou' : Outer) : Prop :=
 r = .one (int (rnL nm0 f t).2.2) ∧ Owns ou' (objs (rnL nm0 f t).1) ∧ OuOk ou' ∧ ∀ j, j ∉ keys (objs t) → ou' j = ou j
theorem Rename_ok (hΓ : ∀ g cs, (g, cs) ∈ Γ → idsL isO cs) (t : LTr) (hok : okL t) (ou : Outer) (ho : Owns ou (objs t)) (hnd : (keys (objs t)).Nodup) (f : Int) (hf0 : 0 ≤ f) (hf1 : f + nbL t ≤ 4611686018427387904) (hou0 : OuOk ou) :
   AFn Tryd.prog Γ 54 [.one (.ptr (.o t.id) 0), .one (int f)] ou (RenameQ ou t f) := by
 refine AFn.walk 13 tabOk Tryd.func54 rfl (by kernel_rfl) rfl rfl fun hou => ?_
 refine zA ?_
 refine AOps.step1 rfl rfl rfl (AStep.makeMap rfl) ?_
 refine zA ?_
 refine AOps.cedes [2, 1, 0, 3] rfl (by decide) hou fun k hk => ⟨[(9, .one (fnR k (k + 2) (k + 3))), (10, .one (.ptr (.o t.id) 0)), (3, .one (.ptr (.o (k + 2)) 0))], [], [.cells [.mp (.o (k + 1))], .map 0 (encI eN []), .cells [int f], .cells [fnR k (k + 2) (k + 3)]], ?_, .nil, ?_, ?_⟩
 · exact .cons rfl rfl (.cons rfl rfl (.cons rfl rfl .nil))
 · exact .cons rfl rfl (.cons rfl rfl (.cons rfl rfl (.cons rfl rfl .nil)))
 have hk' : ∀ m, k ≤ m → ou m = none := hk
 have hkl : ∀ j ∈ keys (objs t), j < k := fun j hj => by
   obtain ⟨p, hp, rfl⟩ := List.mem_map.1 hj
   exact ouAdd_lt hk' (ho p hp)
 obtain ⟨o1', ho1'⟩ : ∃ o1' : Outer, o1' = ouAdd ou k [.cells [.mp (.o (k + 1))], .map 0 (encI eN []), .cells [int f], .cells [fnR k (k + 2) (k + 3)]] := ⟨_, rfl⟩
 have g0 : o1' k = some (.cells [.mp (.o (k + 1))]) := by rw [ho1']; exact ouAdd_new 0
 have g1 : o1' (k + 1) = some (.map 0 (encI eN [])) := by rw [ho1']; exact ouAdd_new 1
 have g2 : o1' (k + 2) = some (.cells [int f]) := by rw [ho1']; exact ouAdd_new 2
 have g3 : o1' (k + 3) = some (.cells [fnR k (k + 2) (k + 3)]) := by rw [ho1']; exact ouAdd_new 3
 have g4 : ∀ j, j < k → o1' j = ou j := fun j hj => by rw [ho1']; exact ouAdd_old hj
 have g5 : OuOk o1' := by
   rw [ho1']
   refine ouAdd_ok hou0 fun o ho => ?_
   simp only [List.mem_cons, List.not_mem_nil, or_false] at ho
   rcases ho with rfl | rfl | rfl | rfl
   · simp
   · exact ids_mapN _ _ _
   · simp
   · simp [fnR]
 have hcall := rename1_ok hΓ t hok o1' k (k + 1) (k + 2) (k + 3) nm0 0 [] f ⟨g0, g1, IMOk.nil, g2⟩ g3 (ho.frame fun j hj => g4 j (hkl j hj)) hnd (fun j hj => by have := hkl j hj; omega) hf0 hf1 g5
 show AOps _ _ _ _ _ ⟨4, [], ouAdd ou k [.cells [.mp (.o (k + 1))], .map 0 (encI eN []), .cells [int f], .cells [fnR k (k + 2) (k + 3)]]⟩
 rw [← ho1']
 refine AOps.call1 hΓ rfl rfl rfl rfl rfl rfl rfl (by exact ⟨trivial, trivial, trivial, trivial, trivial⟩) g5 hcall fun r ow hq hids how => ?_
 obtain ⟨rfl, ck', l', hR', hO', hok', hfr'⟩ := hq
 refine zA ?_
 refine AOps.step1 rfl rfl rfl (AStep.loadOwn tabOk rfl rfl rfl rfl rfl hR'.f rfl) ?_
 refine AOps.lessO ⟨4, [], ouCut ow k⟩ rfl (fun i o hi => ?_) ?_
 · cases i with
   | l m => cases hi
   | o m => exact ouCut_some hi
 refine zA ?_
 refine AFn.fin' rfl (WkF.ofEq rfl) (by simp) (fun j o h => hok' j o (ouCut_some h)) ⟨rfl, fun p hp => ?_, fun j o h => hok' j o (ouCut_some h), fun j hj => ?_⟩
 · have hpk : p.1 ∈ keys (objs t) := by rw [← rnL_k t nm0 f]; exact List.mem_map_of_mem hp
   show ouCut ow k p.1 = some p.2
   unfold ouCut
   rw [if_pos (hkl _ hpk)]
   exact hO' p hp
 · show ouCut ow k j = ou j
   unfold ouCut
   by_cases e : j < k
   · rw [if_pos e, hfr' j (by omega) (by omega) hj, g4 j e]
   · rw [if_neg e, hk' j (by omega)]
theorem Wk.arr0 (i : Abs.Id) (s cap : Nat) : Wk (.arr i s 0 0 cap) (.sl s []) := by
 intro w C v h
 simp only [R] at h ⊢
 obtain ⟨_, rfl, hc⟩ := h
 exact ⟨_, cap, rfl, by simp, .inl trivial⟩
structure NewO (ou ou' : Outer) (L : List (Nat × AObj)) : Prop where
 own : Owns ou' L
 new : ∀ k ∈ keys L, ou k = none
 old : ∀ m, m ∉ keys L → ou' m = ou m
 ok : OuOk ou'
 nd : (keys L).Nodup
theorem NewO.nil {ou : Outer} (h : OuOk ou) : NewO ou ou [] := ⟨fun p hp => by simp at hp, fun k hk => by simp [keys] at hk, fun _ _ => rfl, h, by simp [keys]⟩
theorem NewO.trans {ou ou1 ou2 : Outer} {L M : List (Nat × AObj)} (h : NewO ou ou1 L) (k : NewO ou1 ou2 M) : NewO ou ou2 (L ++ M) := by
 have hLM : ∀ j ∈ keys L, j ∉ keys M := fun j hj hm => by
   have h1 := k.new j hm
   obtain ⟨p, hp, rfl⟩ := List.mem_map.1 hj
   rw [h.own p hp] at h1
   cases h1
 refine ⟨Owns.app.2 ⟨h.own.frame fun j hj => k.old j (hLM j hj), k.own⟩, fun j hj => ?_, fun m hm => ?_, k.ok, ?_⟩
 · rw [keys_app, List.mem_append] at hj
   by_cases e : j ∈ keys L
   · exact h.new j e
   · rw [← h.old j e]
     exact k.new j (hj.resolve_left e)
 · rw [keys_app, List.mem_append, not_or] at hm
   rw [k.old m hm.2, h.old m hm.1]
 · rw [keys_app, List.nodup_append]
   exact ⟨h.nd, k.nd, fun a ha b hb e => hLM a ha (e ▸ hb)⟩
theorem NewO.frame {ou ou' : Outer} {L M : List (Nat × AObj)} (h : NewO ou ou' L) (ho : Owns ou M) : Owns ou' M := ho.frame fun j hj => h.old j fun hm => by
 obtain ⟨p, hp, rfl⟩ := List.mem_map.1 hj
 have := h.new _ hm
 rw [ho p hp] at this
 cases this
def CloneQ (ou : Outer) (l : List Int) (r : FV) (ou' : Outer) : Prop := ∃ nb, ownB nb l ∧ r = .one (bC nb l) ∧ NewO ou ou' (bO nb l)
theorem CloneN_ok (l : List Int) (hl : l.length ≤ 1048576) (ou : Outer) : AFn Tryd.prog Γ 88 [.one (.sl 1 (l.map cI))] ou (CloneQ ou l) := by
 refine AFn.walk 8 tabOk Tryd.func88 rfl (by kernel_rfl) rfl rfl fun hou => ?_
 refine zA ?_
 refine AOps.nilTest rfl rfl rfl rfl Tryd.underlying35 rfl rfl fun b hb => ?_
 refine zA ?_
 refine ACode.cond rfl (fun hb2 => ?_) (fun hb2 => ?_)
 · have h0 : l = [] := by simpa using hb hb2
   subst h0
   refine zA ?_
   exact AFn.fin' rfl (.one (.nilS 1)) (by simp) hou ⟨none, fun _ => rfl, rfl, .nil hou⟩
 · clear hb
   refine zA ?_
   refine AOps.step1 rfl rfl rfl (AStep.buildOwn0 (s := 1) tabOk rfl rfl rfl rfl rfl) ?_
   refine zA ?_
   by_cases h0 : l = []
   · subst h0
     refine AOps.step1 rfl rfl rfl (AStep.appNone tabOk rfl rfl rfl rfl rfl rfl) ?_
     refine zA ?_
     exact AFn.fin' rfl (.one (Wk.arr0 _ _ _)) (by simp) hou ⟨none, fun _ => rfl, rfl, .nil hou⟩
   · refine AOps.appOwn tabOk rfl rfl rfl rfl rfl rfl rfl rfl rfl (.own 1 0 [] (.l 0) rfl (by simp) (by simp)) (.sl 1 (l.map cI)) (by simpa using h0) rfl (by simp; show _ * 8 ≤ _; omega) (by simp; omega) fun cap hc => ?_
     simp only [List.nil_append] at hc ⊢
     refine AOps.cedes [1] rfl (by decide) hou fun k hk => ⟨[(7, .one (.arr (.o k) 1 0 (l.map cI).length cap))], [], [.cells (vec 1 (l.map cI) cap)], .cons rfl rfl .nil, .nil, .cons rfl ?_ .nil, ?_⟩
     · exact AObj.sub_f (fun i hi => by cases i with | l q => exact hi.elim | o q => rfl) _ (show idsL isO (vec 1 (l.map cI) cap) from ids_vecI _ _ _)
     have hk' : ∀ m, k ≤ m → ou m = none := hk
     have hok : OuOk (ouAdd ou k [.cells (vec 1 (l.map cI) cap)]) := ouAdd_ok hou fun o ho => by simp at ho; subst ho; exact ids_vecI _ _ _
     refine zA ?_
     refine AFn.fin' rfl (WkF.ofEq rfl) (by simp) hok ⟨some (k, cap), (fun h => by cases h), rfl, fun p hp => ?_, fun j hj => ?_, fun m hm => ?_, hok, by simp [bO, keys]⟩
     · simp [bO] at hp; subst hp
       exact ouAdd_new 0
     · simp [bO, keys] at hj; subst hj; exact hk' _ (Nat.le_refl _)
     · simp [bO, keys] at hm
       show ouAdd ou k [.cells (vec 1 (l.map cI) cap)] m = ou m
       rcases Nat.lt_or_ge m k with h1 | h1
       · exact ouAdd_old h1
       · obtain ⟨p, rfl⟩ : ∃ p, m = k + p := ⟨m - k, by omega⟩
         rw [ouAdd_new, hk' _ h1]
         cases p with
         | zero => simp at hm
         | succ p => simp
end Go.Proofs.YtgdionbeeodaaaaDoor
namespace Go.CoreX
theorem cnt_kids : ∀ {e f : List Ex}, e.map (·.kids) = f.map (·.kids) → ∀ i, cnt e i = cnt f i
 | [], [], _, _ => rfl
 | [], _ :: _, h, _ => by simp at h
 | _ :: _, [], h, _ => by simp at h
 | x :: e, y :: f, h, i => by
   simp only [List.map_cons, List.cons.injEq] at h
   simp only [cnt, h.1, cnt_kids h.2 i]
def ixE (e : List Ex) : List Ex := e.mapIdx fun i x => { x with n := (i : Nat) }
theorem ixE_get {e : List Ex} {i : Nat} : (ixE e)[i]? = (e[i]?).map fun x => { x with n := (i : Nat) } := by simp [ixE]
theorem ixE_kids (e : List Ex) : (ixE e).map (·.kids) = e.map (·.kids) := by
 apply List.ext_getElem?
 intro i
 simp only [List.getElem?_map, ixE_get]
 cases e[i]? <;> rfl
theorem ixE_len (e : List Ex) : (ixE e).length = e.length := by simp [ixE]
theorem ixE_tree {e : List Ex} (h : IsTree e) : IsTree (ixE e) := by
 refine ⟨fun e0 => h.ne (by have := ixE_len e; rw [e0] at this; exact List.length_eq_zero_iff.1 (by simpa using this.symm)), fun j x hx => ?_, fun i hi => ?_⟩
 · rw [ixE_get] at hx
   cases he : e[j]? with
   | none => rw [he] at hx; cases hx
   | some y =>
     rw [he] at hx
     simp at hx; subst hx
     exact h.k j y he
 · rw [cnt_kids (ixE_kids e), ixE_len]
   exact h.c i (by rw [ixE_len] at hi; exact hi)
theorem labs_n (e : List Ex) : (labs e).map (·.n) = e.map (·.n) := by simp [labs, labE]
theorem ixE_n (e : List Ex) : (ixE e).map (·.n) = (List.range e.length).map fun i : Nat => (i : Int) := by
 apply List.ext_getElem?
 intro i
 simp only [List.getElem?_map, ixE_get]
 by_cases h : i < e.length
 · simp [h]
 · simp [h]
end Go.CoreX
namespace Go.Proofs.YtgdionbeeodaaaaDoor
open Go Go.Abs Go.CoreX
def ownO : LTr → List (Nat × AObj)
 | .mk i o n nb b k a => (bO nb b ++ aO a) ++ [(i, .cells [int o, int n, bC nb b, .sl 1 (kC k), .sl 2 (a.map lAlt)])]
theorem objs_mem : ∀ (t : LTr) (p : Nat × AObj), p ∈ objs t ↔ p ∈ ownO t ∨ p ∈ objss t.kids
 | .mk i o n nb b k a, p => by
   simp only [objs, ownO, LTr.kids, List.cons_append, List.mem_cons, List.mem_append, List.not_mem_nil, or_false]
   constructor
   · rintro (h | (h | h) | h) <;> simp [h]
   · rintro (((h | h) | h) | h) <;> simp [h]
theorem objs_count (k : Nat) : ∀ t : LTr, (keys (objs t)).count k = (keys (ownO t)).count k + (keys (objss t.kids)).count k
 | .mk i o n nb b ks a => by
   simp only [objs, ownO, LTr.kids, keys, List.map_cons, List.map_append, List.cons_append, List.count_cons, List.count_append, List.map_nil, List.count_nil]
   omega
structure LinkL (e : List Ex) (lts : List LTr) (B : Nb → List Int → Prop := ownB) : Prop where
 len : lts.length = e.length
 at_ : ∀ (i : Nat) (x : Ex), e[i]? = some x → ∃ id nb a, lts[i]? = some (.mk id x.op x.n nb x.binds (x.kids.map fun q => lts.getD q.toNat default) a) ∧ a.map LAlt.er = x.alts ∧ B nb x.binds ∧ ∀ y ∈ a, B y.nb y.binds
theorem LinkL.nil {B : Nb → List Int → Prop} : LinkL [] [] B := ⟨rfl, fun i x h => by simp at h⟩
theorem LinkL.snoc {B : Nb → List Int → Prop} {e : List Ex} {lts : List LTr} (h : LinkL e lts B) (hk : kidsIn e) {x : Ex} (hx : ∀ q ∈ x.kids, 0 ≤ q ∧ q < (e.length : Int)) {id : Nat} {nb : Nb} {a : List LAlt} (ha : a.map LAlt.er = x.alts) (hb : B nb x.binds) (hab : ∀ y ∈ a, B y.nb y.binds) :
   LinkL (e ++ [x]) (lts ++ [.mk id x.op x.n nb x.binds (x.kids.map fun q => lts.getD q.toNat default) a]) B := by
 have hgd : ∀ (q : Int), 0 ≤ q → q < (e.length : Int) → ∀ t, (lts ++ [t]).getD q.toNat default = lts.getD q.toNat default := fun q h0 h1 t => getD_app (by rw [h.len]; omega)
 refine ⟨by simp [h.len], fun i y hy => ?_⟩
 by_cases hi : i < e.length
 · rw [List.getElem?_append_left hi] at hy
   obtain ⟨id', nb', a', h1, h2, h3, h4⟩ := h.at_ i y hy
   refine ⟨id', nb', a', ?_, h2, h3, h4⟩
   rw [List.getElem?_append_left (by rw [h.len]; exact hi), h1]
   congr 2
   refine List.map_congr_left fun q hq => ?_
   have := hk i y hy q hq
   exact (hgd q this.1 (by omega) _).symm
 · have hie : i = e.length := by
     have := (List.getElem?_eq_some_iff.1 hy).1
     simp at this; omega
   subst hie
   simp at hy
   subst hy
   refine ⟨id, nb, a, ?_, ha, hb, hab⟩
   rw [← h.len, List.getElem?_append_right (by simp)]
   simp only [Nat.sub_self, List.getElem?_cons_zero]
   congr 2
   exact List.map_congr_left fun q hq => (hgd q (hx q hq).1 (hx q hq).2 _).symm
section
variable {e : List Ex} {lts : List LTr} {B : Nb → List Int → Prop}
theorem LinkL.getD (h : LinkL e lts B) {i : Nat} {t : LTr} (ht : lts[i]? = some t) : lts.getD i default = t := by rw [List.getD_eq_getElem?_getD, ht]; rfl
theorem LinkL.er (h : LinkL e lts B) (hk : kidsIn e) : ∀ (n i : Nat) (t : LTr), i < n → lts[i]? = some t → erT t = treeAt e i
 | 0, i, t, hi, _ => by omega
 | n + 1, i, t, hi, ht => by
   have hil : i < e.length := by rw [← h.len]; exact (List.getElem?_eq_some_iff.1 ht).1
   obtain ⟨x, hx⟩ := get_of_lt hil
   obtain ⟨id, nb, a, h1, h2, _⟩ := h.at_ i x hx
   rw [ht] at h1
   cases h1
   rw [treeAt_node hk hx]
   simp only [erT, h2, erTs_eq, List.map_map]
   congr 1
   refine List.map_congr_left fun q hq => ?_
   have hq' := hk i x hx q hq
   obtain ⟨t', ht'⟩ := get_of_lt (l := lts) (i := q.toNat) (by rw [h.len]; omega)
   simp only [Function.comp, h.getD ht']
   exact h.er hk n q.toNat t' (by omega) ht'
theorem LinkL.own (h : LinkL e lts B) (hk : kidsIn e) : ∀ (n i : Nat) (t : LTr), i < n → lts[i]? = some t → ∀ p ∈ objs t, p ∈ lts.flatMap ownO
 | 0, i, t, hi, _ => by omega
 | n + 1, i, t, hi, ht => fun p hp => by
   have hil : i < e.length := by rw [← h.len]; exact (List.getElem?_eq_some_iff.1 ht).1
   obtain ⟨x, hx⟩ := get_of_lt hil
   obtain ⟨id, nb, a, h1, _⟩ := h.at_ i x hx
   rw [ht] at h1
   rcases (objs_mem t p).1 hp with hp | hp
   · exact List.mem_flatMap.2 ⟨t, List.mem_of_getElem? ht, hp⟩
   · cases h1
     simp only [LTr.kids, objss_eq] at hp
     obtain ⟨u, hu, hpu⟩ := List.mem_flatMap.1 hp
     obtain ⟨q, hq, rfl⟩ := List.mem_map.1 hu
     have hq' := hk i x hx q hq
     obtain ⟨t', ht'⟩ := get_of_lt (l := lts) (i := q.toNat) (by rw [h.len]; omega)
     rw [h.getD ht'] at hpu
     exact h.own hk n q.toNat t' (by omega) ht' p hpu
def ownC (lts : List LTr) (k : Nat) (l : Lab) : Int := ((keys (ownO (lts.getD l.n.toNat default))).count k : Nat)
theorem objss_count (k : Nat) : ∀ l : List LTr, (((keys (objss l)).count k : Nat) : Int) = (l.map fun t => (((keys (objs t)).count k : Nat) : Int)).sum
 | [] => by simp [objss, keys]
 | t :: l => by
   have := objss_count k l
   simp only [keys] at this
   simp only [objss, keys, List.map_append, List.count_append, List.map_cons, List.sum_cons, ← this]
   push_cast; rfl
theorem LinkL.count (h : LinkL e lts B) (hk : kidsIn e) (k : Nat) : ∀ (n i : Nat) (t : LTr), i < n → lts[i]? = some t → sumT (ownC lts k) (treeAt (ixE e) i) = ((keys (objs t)).count k : Nat)
 | 0, i, t, hi, _ => by omega
 | n + 1, i, t, hi, ht => by
   have hil : i < e.length := by rw [← h.len]; exact (List.getElem?_eq_some_iff.1 ht).1
   obtain ⟨x, hx⟩ := get_of_lt hil
   obtain ⟨id, nb, a, h1, _⟩ := h.at_ i x hx
   rw [ht] at h1
   have hki : kidsIn (ixE e) := fun j y hy => by
     rw [ixE_get] at hy
     cases he : e[j]? with
     | none => rw [he] at hy; cases hy
     | some z =>
       rw [he] at hy
       simp at hy; subst hy
       exact hk j z he
   have hxi : (ixE e)[i]? = some { x with n := (i : Nat) } := by rw [ixE_get, hx]; rfl
   rw [treeAt_node hki hxi]
   simp only [sumT, sumTs_eq, List.map_map]
   rw [objs_count]
   have e1 : ownC lts k ⟨x.op, (i : Nat), x.binds, x.kids.map (Tr.op ∘ fun k => treeAt (ixE e) k.toNat), x.alts⟩ = ((keys (ownO t)).count k : Nat) := by
     unfold ownC
     simp only [Int.toNat_natCast, h.getD ht]
   have e2 : (x.kids.map (sumT (ownC lts k) ∘ fun k => treeAt (ixE e) k.toNat)).sum = ((keys (objss t.kids)).count k : Nat) := by
     rw [objss_count]
     cases h1
     simp only [LTr.kids, List.map_map]
     congr 1
     refine List.map_congr_left fun q hq => ?_
     have hq' := hk i x hx q hq
     obtain ⟨t', ht'⟩ := get_of_lt (l := lts) (i := q.toNat) (by rw [h.len]; omega)
     simp only [Function.comp, h.getD ht']
     exact h.count hk k n q.toNat t' (by omega) ht'
   rw [e1, e2]
   push_cast; rfl
theorem flat_count (k : Nat) : ∀ lts : List LTr, (((keys (lts.flatMap ownO)).count k : Nat) : Int) = (lts.map fun t => (((keys (ownO t)).count k : Nat) : Int)).sum
 | [] => by simp [keys]
 | t :: l => by
   have := flat_count k l
   simp only [keys] at this
   simp only [List.flatMap_cons, keys, List.map_append, List.count_append, List.map_cons, List.sum_cons, ← this]
   push_cast; rfl
theorem LinkL.nodup (h : LinkL e lts B) (ht : IsTree e) (hn : (keys (lts.flatMap ownO)).Nodup) {t : LTr} (hr : lts[e.length - 1]? = some t) : (keys (objs t)).Nodup := by
 rw [List.nodup_iff_count]
 intro k
 have h1 := h.count ht.k k _ _ t (Nat.lt_succ_self _) hr
 have h2 := sum_tree (ownC lts k) (ixE_tree ht)
 have h3 : grow (ixE e) = treeAt (ixE e) (e.length - 1) := by unfold grow treeAt; rw [ixE_len]
 rw [h3, h1] at h2
 have h4 : ((labs (ixE e)).map (ownC lts k)) = lts.map fun t => (((keys (ownO t)).count k : Nat) : Int) := by
   have e1 : (labs (ixE e)).map (ownC lts k) = ((labs (ixE e)).map (·.n)).map fun n : Int => (((keys (ownO (lts.getD n.toNat default))).count k : Nat) : Int) := by
     rw [List.map_map]; rfl
   rw [e1, labs_n, ixE_n, List.map_map]
   apply List.ext_getElem?
   intro i
   by_cases hi : i < e.length
   · obtain ⟨t', ht'⟩ := get_of_lt (l := lts) (i := i) (by rw [h.len]; exact hi)
     simp only [List.getElem?_map, List.getElem?_range hi, Option.map_some, Function.comp, Int.toNat_natCast, h.getD ht', ht']
   · rw [List.getElem?_eq_none (by simp; omega), List.getElem?_eq_none (by simp [h.len]; omega)]
 rw [h4, ← flat_count] at h2
 have h5 := List.nodup_iff_count.1 hn k
 omega
theorem LinkL.ok (h : LinkL e lts) (hk : kidsIn e) (hs : ∀ x ∈ e, x.binds.length ≤ 1048576 ∧ x.kids.length ≤ 1048576 ∧ x.alts.length ≤ 1048576 ∧ ∀ a ∈ x.alts, a.binds.length ≤ 1048576) : ∀ (n i : Nat) (t : LTr), i < n → lts[i]? = some t → okL t
 | 0, i, t, hi, _ => by omega
 | n + 1, i, t, hi, ht => by
   have hil : i < e.length := by rw [← h.len]; exact (List.getElem?_eq_some_iff.1 ht).1
   obtain ⟨x, hx⟩ := get_of_lt hil
   obtain ⟨id, nb, a, h1, h2, h3, h4⟩ := h.at_ i x hx
   obtain ⟨s1, s2, s3, s4⟩ := hs x (List.mem_of_getElem? hx)
   rw [ht] at h1
   cases h1
   refine ⟨fun _ => h3, s1, by simpa using s2, by have := congrArg List.length h2; simp at this; omega, fun y hy => ⟨h4 y hy, ?_⟩, okLs_iff.2 fun u hu => ?_⟩
   · exact s4 y.er (by rw [← h2]; exact List.mem_map_of_mem hy)
   · obtain ⟨q, hq, rfl⟩ := List.mem_map.1 hu
     have hq' := hk i x hx q hq
     obtain ⟨t', ht'⟩ := get_of_lt (l := lts) (i := q.toNat) (by rw [h.len]; omega)
     rw [h.getD ht']
     exact h.ok hk hs n q.toNat t' (by omega) ht'
end
variable {Γ : List (Nat × List AC)}
def nodesL (ts : List LTr) (n : Nat) : List AC := ts.map (fun t => .ptr (.o t.id) 0) ++ List.replicate (n - ts.length) (.lit (.pointer none))
theorem nodesL_nil (n : Nat) : nodesL [] n = List.replicate n (.lit (.pointer none)) := by simp [nodesL]
theorem nodesL_len {ts : List LTr} {n : Nat} (h : ts.length ≤ n) : (nodesL ts n).length = n := by simp [nodesL]; omega
theorem nodesL_get {ts : List LTr} {n k : Nat} {t : LTr} (h : ts[k]? = some t) : (nodesL ts n)[k]? = some (.ptr (.o t.id) 0) := by
 have hk := (List.getElem?_eq_some_iff.1 h).1
 unfold nodesL
 rw [List.getElem?_append_left (by simpa using hk)]
 simp [h]
theorem nodesL_set {ts : List LTr} {n : Nat} (h : ts.length < n) (t : LTr) : (nodesL ts n).set ts.length (.ptr (.o t.id) 0) = nodesL (ts ++ [t]) n := by
 unfold nodesL
 rw [List.set_append_right _ _ (by simp)]
 simp only [List.length_map, Nat.sub_self, List.map_append, List.map_cons, List.map_nil, List.append_assoc, List.length_append, List.length_singleton]
 congr 1
 rw [show n - ts.length = (n - (ts.length + 1)) + 1 by omega, List.replicate_succ]
 rfl
theorem ids_nodesL (p : Abs.Id → Prop) (hp : ∀ k, p (.o k)) (ts : List LTr) (n : Nat) : idsL p (nodesL ts n) := by
 refine idsL_app ?_ (ids_zs p _ _)
 induction ts with
 | nil => trivial
 | cons t ts ih => exact ⟨hp _, ih⟩
@[simp] theorem ids_nodesL_l (k : Nat) (ts : List LTr) (n : Nat) : idsL (inL k) (nodesL ts n) := ids_nodesL _ (fun _ => trivial) ts n
@[simp] theorem ids_nodesL_o (ts : List LTr) (n : Nat) : idsL isO (nodesL ts n) := ids_nodesL _ (fun _ => trivial) ts n
theorem kC_snoc (l : List LTr) (t : LTr) : kC (l ++ [t]) = kC l ++ [[.ptr (.o t.id) 0]] := by simp [kC]
def kidsL (ts : List LTr) (ks : List Int) : List LTr := ks.map fun k => ts.getD k.toNat default
theorem kidsL_succ {ts : List LTr} {ks : List Int} {i : Nat} {k : Int} (h : ks[i]? = some k) : kidsL ts (ks.take (i + 1)) = kidsL ts (ks.take i) ++ [ts.getD k.toNat default] := by
 simp [kidsL, List.take_add_one, h]
@[simp] theorem ids_kC_l (k : Nat) (ts : List LTr) : idsS (inL k) (kC ts) := ids_kC _ (fun _ => trivial) ts
@[simp] theorem ids_kC_o (ts : List LTr) : idsS isO (kC ts) := ids_kC _ (fun _ => trivial) ts
@[simp] theorem ids_lAlts_l (k : Nat) (l : List LAlt) : idsS (inL k) (l.map lAlt) := ids_lAlts _ (fun _ => trivial) l
@[simp] theorem ids_lAlts_o (l : List LAlt) : idsS isO (l.map lAlt) := ids_lAlts _ (fun _ => trivial) l
@[simp] theorem ids_bC_l (k : Nat) (nb : Nb) (l : List Int) : (bC nb l).ids (inL k) := ids_bC _ (fun _ => trivial) nb l
@[simp] theorem ids_bC_o (nb : Nb) (l : List Int) : (bC nb l).ids isO := ids_bC _ (fun _ => trivial) nb l
@[simp] theorem ren_kC (ρ : Nat → Nat) (l : List LTr) : renS ρ (kC l) = kC l := renS_pure ρ _ (ids_kC_o l)
@[simp] theorem ren_lAlts (ρ : Nat → Nat) (l : List LAlt) : renS ρ (l.map lAlt) = l.map lAlt := renS_pure ρ _ (ids_lAlts_o l)
@[simp] theorem ren_bC (ρ : Nat → Nat) (nb : Nb) (l : List Int) : (bC nb l).ren ρ = bC nb l := by cases nb <;> simp [bC, AC.ren, Abs.Id.ren]
theorem NewO.add {ou : Outer} {k : Nat} {o : AObj} (hk : ∀ m, k ≤ m → ou m = none) (hou : OuOk ou) (ho : o.ids isO) : NewO ou (ouAdd ou k [o]) [(k, o)] := by
 refine ⟨fun p hp => ?_, fun j hj => ?_, fun m hm => ?_, ouAdd_ok hou fun q hq => by simp at hq; subst hq; exact ho, by simp [keys]⟩
 · simp at hp; subst hp
   exact ouAdd_new 0
 · simp [keys] at hj; subst hj; exact hk _ (Nat.le_refl _)
 · simp [keys] at hm
   rcases Nat.lt_or_ge m k with h1 | h1
   · exact ouAdd_old h1
   · obtain ⟨p, rfl⟩ : ∃ p, m = k + p := ⟨m - k, by omega⟩
     rw [ouAdd_new, hk _ h1]
     cases p with
     | zero => simp at hm
     | succ p => simp
def GrowQ (e : List Ex) (ou : Outer) (r : FV) (ou' : Outer) : Prop := ∃ t : LTr, r = .one (.ptr (.o t.id) 0) ∧ erT t = grow e ∧ okL t ∧ Owns ou' (objs t) ∧ (keys (objs t)).Nodup ∧ (∀ k ∈ keys (objs t), ou k = none) ∧ OuOk ou' ∧ ∀ j o, ou j = some o → ou' j = some o
set_option maxHeartbeats 1000000 in
theorem GrowN_ok (hΓ : ∀ g cs, (g, cs) ∈ Γ → idsL isO cs) (e : List Ex) (he : okE e) (hin : kidsIn e) (hT : IsTree e) (ou : Outer) : AFn Tryd.prog Γ 53 [.one (.sl 5 (e.map cEx))] ou (GrowQ e ou) := by
 have hel := he.l
 refine AFn.walk 85 tabOk Tryd.func53 rfl (by kernel_rfl) rfl rfl fun hou => ?_
 refine zA ?_
 have hb : ti70.bytes * (e.map cEx).length ≤ 281474976710656 := by simp; show 8 * _ ≤ _; omega
 have hb2 : (e.map cEx).length ≤ 281474976710656 := by simp; omega
 refine AOps.step1 rfl rfl rfl (AStep.makeArr tabOk rfl rfl rfl rfl rfl rfl rfl rfl hb hb2) ?_
 refine zA ?_
 refine ACode.loopR hΓ (α := Nat × List LTr × Outer) (fun c => [(16, .one (int c.1)), (15, .one (int (e.map cEx).length)), (14, .one (.sl 5 (e.map cEx))), (3, .one (.arr (.l 0) 1 0 (e.map cEx).length (e.map cEx).length)), (0, .one (.sl 5 (e.map cEx)))])
   (fun c => ⟨1, [(0, .cells (nodesL c.2.1 (e.map cEx).length))], c.2.2⟩) (fun m c => c.1 ≤ e.length ∧ (LinkL (e.take c.1) c.2.1 ∧ NewO ou c.2.2 (c.2.1.flatMap ownO)) ∧ m = e.length - c.1) (a0 := (0, [], ou)) (ρ := id) ⟨by omega, ⟨LinkL.nil, .nil hou⟩, rfl⟩
   (LessR.of rfl (by (repeat' first | exact FrSub.nil | refine zfc ?_ | refine zfo ?_ | refine zfp ?_)) (by simp) (LoSub.cons rfl (by rw [AObj.ren_pure _ _ (by simp)]; show AObj.cells (List.replicate _ _) = AObj.cells (nodesL [] _); rw [nodesL_nil]) rfl (by simp) .nil) rfl rfl hou) fun m c hc => ?_
 obtain ⟨j, lts, ov⟩ := c
 obtain ⟨hjl, ⟨hL, hN⟩, rfl⟩ := hc
 dsimp only at hjl hL hN
 have hov := hN.ok
 refine zA ?_
 refine ACode.cond rfl (fun hb2 => ?_) (fun hb2 => ?_)
 · have hlt : j < e.length := by simpa using hb2
   obtain ⟨x, hx⟩ := get_of_lt hlt
   have hxo := he.x x (List.mem_of_getElem? hx)
   have hxk := hxo.k
   have hxa := hxo.a
   have hxin := hin j x hx
   have hgl : lts.length = j := by rw [hL.len]; simp; omega
   refine zA ?_
   refine AOps.step1 rfl rfl rfl (AStep.indexAddr tabOk rfl rfl rfl rfl rfl rfl (.inl rfl) rfl (by omega) (map_get hx)) ?_
   refine zA ?_
   refine ACode.drawC tabOk 9 [6, 7, 8] [] (fun vs σ => match vs with
       | [] => σ = ⟨2, [(1, .cells (cEx x)), (1, .cells (ti53.zero.map .lit)), (0, .cells (nodesL lts (e.map cEx).length))], ov⟩
       | [a] => ∃ nb ow, ownB nb x.binds ∧ NewO ov ow (bO nb x.binds) ∧ a = .one (bC nb x.binds) ∧ σ = ⟨2, [(1, .cells (cEx x)), (1, .cells (ti53.zero.map .lit)), (0, .cells (nodesL lts (e.map cEx).length))], ow⟩
       | [a, b] => ∃ nb ow, ownB nb x.binds ∧ NewO ov ow (bO nb x.binds) ∧ a = .one (bC nb x.binds) ∧ b = .agg [int x.op, int x.n, bC nb x.binds, .lit (.slice none 0 0), .lit (.slice none 0 0)] ∧ σ = ⟨2, [(1, .cells (cEx x)), (1, .cells (ti53.zero.map .lit)), (0, .cells (nodesL lts (e.map cEx).length))], ow⟩
       | [a, b, c] => ∃ nb ow, ownB nb x.binds ∧ NewO ov ow (bO nb x.binds) ∧ a = .one (bC nb x.binds) ∧ b = .agg [int x.op, int x.n, bC nb x.binds, .lit (.slice none 0 0), .lit (.slice none 0 0)] ∧ c = .one (.ptr (.l 2) 0) ∧ σ = ⟨3, [(2, .cells [int x.op, int x.n, bC nb x.binds, .lit (.slice none 0 0), .lit (.slice none 0 0)]), (1, .cells (cEx x)), (1, .cells (ti53.zero.map .lit)), (0, .cells (nodesL lts (e.map cEx).length))], ow⟩
       | _ => False) follows (by kernel_rfl) rfl rfl (by decide) (by kernel_rfl) (by kernel_rfl) rfl rfl ?_ (fun _ _ _ => .nil) (by decide) ?_ ?_
   · rintro vs σ hG
     match vs, hG with
     | [], hG => subst hG; rfl
     | [a], hG => obtain ⟨nb, ow, _, _, _, rfl⟩ := hG; rfl
     | [a, b], hG => obtain ⟨nb, ow, _, _, _, _, rfl⟩ := hG; rfl
     | [a, b, c], hG => obtain ⟨nb, ow, _, _, _, _, _, rfl⟩ := hG; rfl
   · rintro vs σ hG i o hi ho
     match vs, hG with
     | [], hG =>
       subst hG
       cases hi
       cases ho
       refine ⟨rfl, rfl, .inr ⟨rfl, AStepR.call hΓ rfl rfl rfl rfl (by simp) hov (CloneN_ok x.binds hxo.b ov) fun r ow hq _ _ => ?_⟩⟩
       obtain ⟨nb, h1, rfl, h2⟩ := hq
       exact ⟨nb, ow, h1, h2, rfl, rfl⟩
     | [a], hG =>
       obtain ⟨nb, ow, h1, h2, rfl, rfl⟩ := hG
       cases hi
       cases ho
       exact ⟨rfl, rfl, .inl ⟨_, _, HStep.auto tabOk rfl, nb, ow, h1, h2, rfl, rfl, rfl⟩⟩
     | [a, b], hG =>
       obtain ⟨nb, ow, h1, h2, rfl, rfl, rfl⟩ := hG
       cases hi
       cases ho
       exact ⟨rfl, rfl, .inl ⟨_, _, HStep.auto tabOk rfl, nb, ow, h1, h2, rfl, rfl, rfl, rfl⟩⟩
     | [a, b, c], hG => cases hi
   rintro vs σ hlen hG
   match vs, hlen, hG with
   | [a, b, c], _, hG =>
   obtain ⟨nb, ow, hnb, hNb, rfl, rfl, rfl, rfl⟩ := hG
   have how := hNb.ok
   refine zA ?_
   refine ACode.grow 2 3 70 1 rfl rfl ?_
   refine ACode.loopR hΓ (α := Nat) (fun i => [(33, .one (int i)), (32, .one (int (x.kids.map cI).length)), (31, .one (.sl 1 (x.kids.map cI))), (6, .one (.ptr (.l 2) 0)), (5, .one (.ptr (.l 1) 0)), (4, .one (int j)), (16, .one (int j)), (15, .one (int (e.map cEx).length)), (14, .one (.sl 5 (e.map cEx))), (3, .one (.arr (.l 0) 1 0 (e.map cEx).length (e.map cEx).length)), (0, .one (.sl 5 (e.map cEx)))])
     (fun i => ⟨4, [(3, .tok 70 1 i), (2, .cells [int x.op, int x.n, bC nb x.binds, .gs 1 (kC (kidsL lts (x.kids.take i))) (.l 3), .lit (.slice none 0 0)]), (1, .cells (cEx x)), (0, .cells (nodesL lts (e.map cEx).length))], ow⟩)
     (fun m i => i ≤ x.kids.length ∧ m = x.kids.length - i) (a0 := 0) (ρ := id) ⟨by omega, rfl⟩ (LessR.of rfl (by (repeat' first | exact FrSub.nil | refine zfc ?_ | refine zfo ?_ | refine zfp ?_)) (by simp) ?_ rfl rfl how) fun m i hi => ?_
   · repeat' first | exact LoSub.nil | refine zlc ?_ | refine zld ?_ ?_ | rfl
     all_goals (simp [AObj.ren, renL, AC.ren, kidsL]; exact ⟨rfl, rfl⟩)
   obtain ⟨hil, rfl⟩ := hi
   refine zA ?_
   refine ACode.cond rfl (fun hb3 => ?_) (fun hb3 => ?_)
   · have hlt2 : i < x.kids.length := by simpa using hb3
     obtain ⟨k, hk⟩ := get_of_lt hlt2
     have hkb := hxin k (List.mem_of_getElem? hk)
     obtain ⟨k', rfl⟩ : ∃ k' : Nat, k = k' := ⟨k.toNat, by omega⟩
     obtain ⟨tk, htk⟩ := get_of_lt (l := lts) (i := k') (by omega)
     have htd : (lts).getD (k' : Int).toNat default = tk := by rw [Int.toNat_natCast, List.getD_eq_getElem?_getD, htk]; rfl
     have hks := kidsL_succ (ts := lts) hk
     rw [htd] at hks
     have hkl : (kC (kidsL lts (x.kids.take i))).length = i := by simp [kC, kidsL]; omega
     refine zA ?_
     refine AOps.step1 rfl rfl rfl (AStep.indexAddr tabOk rfl rfl rfl rfl rfl rfl (.inl rfl) rfl (by omega) (map_get hk)) ?_
     refine zA ?_
     refine ACode.drawXH (va := .one (.gs 1 (kC (kidsL lts (x.kids.take i)) ++ [[AC.ptr (.o tk.id) 0]]) (.l 4))) (σ1 := ((St.mk 4 [(3, .tok 70 1 i), (2, .cells [int x.op, int x.n, bC nb x.binds, .gs 1 (kC (kidsL lts (x.kids.take i))) (.l 3), .lit (.slice none 0 0)]), (1, .cells (cEx x)), (0, .cells (nodesL lts (e.map cEx).length))] ow).set (.l 3) .dead).push (.tok 70 1 (kC (kidsL lts (x.kids.take i)) ++ [[AC.ptr (.o tk.id) 0]]).length))
       tabOk 11 10 [(7, .one (.ptr (.l 0) k')), (8, .one (.ptr (.o tk.id) 0))] follows (by kernel_rfl) rfl rfl rfl rfl rfl rfl rfl ?_ ?_ ?_ ?_
     · refine HStep.plain rfl (AStep.append (s := 1) (es := kC (kidsL lts (x.kids.take i))) (news := [[AC.ptr (.o tk.id) 0]]) (ti := ti71) (σ := ⟨4, [(3, .tok 70 1 i), (2, .cells [int x.op, int x.n, bC nb x.binds, .gs 1 (kC (kidsL lts (x.kids.take i))) (.l 3), .lit (.slice none 0 0)]), (1, .cells (cEx x)), (0, .cells (nodesL lts (e.map cEx).length))], ow⟩) tabOk rfl rfl rfl rfl rfl rfl (Base.gs' _ 70 1 (kC (kidsL lts (x.kids.take i))) (.l 3) rfl hkl.symm) (.sl _ _) rfl ?_ ?_)
       · rw [hkl]; show (i + 1) * 8 ≤ _; omega
       · rw [hkl]; show i + 1 ≤ _; omega
     · refine .step rfl (HStep.plain rfl (idxI tabOk rfl rfl rfl rfl rfl rfl rfl (by simp; omega))) ?_
       exact .step rfl (HStep.plain rfl (AStep.loadOwn tabOk rfl rfl rfl rfl rfl rfl (nodesL_get htk))) .nil
     · refine .step rfl (HStep.plain rfl (idxI tabOk rfl rfl rfl rfl rfl rfl rfl (by simp; omega))) ?_
       exact .step rfl (HStep.plain rfl (AStep.loadOwn tabOk rfl rfl rfl rfl rfl rfl (nodesL_get htk))) .nil
     refine zM ?_
     refine cInv ⟨x.kids.length - (i + 1), i + 1, fun k => if k = 3 then 4 else k, by omega, ⟨by omega, rfl⟩, LessR.of rfl (by (repeat' first | exact FrSub.nil | refine zfc ?_ | refine zfo ?_ | refine zfp ?_)) (by simp) ?_ rfl rfl how⟩
     repeat' first | exact LoSub.nil | refine zlc ?_ | refine zld ?_ ?_ | rfl
     · simp only [AObj.ren, List.length_append, hkl]; rfl
     · rw [hks, kC_snoc]; simp only [AObj.ren, renL, AC.ren, ren_bC]; rw [← kC_snoc, ren_kC]; rfl
   have hlt2 : i = x.kids.length := by simp at hb3; omega
   subst hlt2
   rw [List.take_length]
   refine zA ?_
   refine ACode.grow 2 4 89 2 rfl rfl ?_
   refine ACode.loopR hΓ (α := Nat × Outer × List LAlt) (fun c => [(54, .one (int c.1)), (53, .one (int (x.alts.map cAlt).length)), (52, .one (.sl 2 (x.alts.map cAlt))), (6, .one (.ptr (.l 2) 0)), (4, .one (int j)), (16, .one (int j)), (15, .one (int (e.map cEx).length)), (14, .one (.sl 5 (e.map cEx))), (3, .one (.arr (.l 0) 1 0 (e.map cEx).length (e.map cEx).length)), (0, .one (.sl 5 (e.map cEx)))])
     (fun c => ⟨5, [(4, .tok 89 2 c.1), (2, .cells [int x.op, int x.n, bC nb x.binds, .gs 1 (kC (kidsL lts x.kids)) (.l 3), .gs 2 (c.2.2.map lAlt) (.l 4)]), (0, .cells (nodesL lts (e.map cEx).length))], c.2.1⟩)
     (fun m c => c.1 ≤ x.alts.length ∧ (c.2.2.map LAlt.er = x.alts.take c.1 ∧ (∀ y ∈ c.2.2, ownB y.nb y.binds) ∧ NewO ow c.2.1 (aO c.2.2)) ∧ m = x.alts.length - c.1) (a0 := (0, ow, [])) (ρ := id) ⟨by omega, ⟨rfl, by simp, .nil how⟩, rfl⟩ (LessR.of rfl (by (repeat' first | exact FrSub.nil | refine zfc ?_ | refine zfo ?_ | refine zfp ?_)) (by simp) ?_ rfl rfl how) fun m c hc => ?_
   · repeat' first | exact LoSub.nil | refine zlc ?_ | refine zld ?_ ?_ | rfl
     all_goals (simp [AObj.ren, renL, AC.ren]; exact ⟨rfl, rfl⟩)
   obtain ⟨i, oy, la⟩ := c
   obtain ⟨hil, ⟨hla, hlo, hNa⟩, rfl⟩ := hc
   dsimp only at hil hla hlo hNa
   have hoy := hNa.ok
   have hll : la.length = i := by have := congrArg List.length hla; simp at this; omega
   have hal : (la.map lAlt).length = i := by simp [hll]
   refine zA ?_
   refine ACode.cond rfl (fun hb3 => ?_) (fun hb3 => ?_)
   · have hlt2 : i < x.alts.length := by simpa using hb3
     obtain ⟨a, ha⟩ := get_of_lt hlt2
     refine zA ?_
     refine AOps.step1 rfl rfl rfl (AStep.indexAddr tabOk rfl rfl rfl rfl rfl rfl (.inl rfl) rfl (by omega) (map_get ha)) ?_
     refine zA ?_
     refine ACode.drawC tabOk 13 [9, 10, 11, 12] [] (fun vs σ => match vs with
         | [] => σ = ⟨6, [(5, .cells (cAlt a)), (5, .cells (ti89.zero.map .lit)), (4, .tok 89 2 i), (2, .cells [int x.op, int x.n, bC nb x.binds, .gs 1 (kC (kidsL lts x.kids)) (.l 3), .gs 2 (la.map lAlt) (.l 4)]), (0, .cells (nodesL lts (e.map cEx).length))], oy⟩
         | [q1] => ∃ nc oz, ownB nc a.binds ∧ NewO oy oz (bO nc a.binds) ∧ q1 = .one (bC nc a.binds) ∧ σ = ⟨6, [(5, .cells (cAlt a)), (5, .cells (ti89.zero.map .lit)), (4, .tok 89 2 i), (2, .cells [int x.op, int x.n, bC nb x.binds, .gs 1 (kC (kidsL lts x.kids)) (.l 3), .gs 2 (la.map lAlt) (.l 4)]), (0, .cells (nodesL lts (e.map cEx).length))], oz⟩
         | [q1, q2] => ∃ nc oz, ownB nc a.binds ∧ NewO oy oz (bO nc a.binds) ∧ q1 = .one (bC nc a.binds) ∧ q2 = .agg [int a.tag, bC nc a.binds] ∧ σ = ⟨6, [(5, .cells (cAlt a)), (5, .cells (ti89.zero.map .lit)), (4, .tok 89 2 i), (2, .cells [int x.op, int x.n, bC nb x.binds, .gs 1 (kC (kidsL lts x.kids)) (.l 3), .gs 2 (la.map lAlt) (.l 4)]), (0, .cells (nodesL lts (e.map cEx).length))], oz⟩
         | [q1, q2, q3] => ∃ nc oz, ownB nc a.binds ∧ NewO oy oz (bO nc a.binds) ∧ q1 = .one (bC nc a.binds) ∧ q2 = .agg [int a.tag, bC nc a.binds] ∧ q3 = .one (.sl 2 [[int a.tag, bC nc a.binds]]) ∧ σ = ⟨6, [(5, .cells (cAlt a)), (5, .cells (ti89.zero.map .lit)), (4, .tok 89 2 i), (2, .cells [int x.op, int x.n, bC nb x.binds, .gs 1 (kC (kidsL lts x.kids)) (.l 3), .gs 2 (la.map lAlt) (.l 4)]), (0, .cells (nodesL lts (e.map cEx).length))], oz⟩
         | [q1, q2, q3, q4] => ∃ nc oz, ownB nc a.binds ∧ NewO oy oz (bO nc a.binds) ∧ q1 = .one (bC nc a.binds) ∧ q2 = .agg [int a.tag, bC nc a.binds] ∧ q3 = .one (.sl 2 [[int a.tag, bC nc a.binds]]) ∧ q4 = .one (.gs 2 (la.map lAlt ++ [[int a.tag, bC nc a.binds]]) (.l 6)) ∧ σ = ⟨7, [(6, .tok 89 2 (la.map lAlt ++ [[int a.tag, bC nc a.binds]]).length), (4, .dead), (5, .cells (cAlt a)), (5, .cells (ti89.zero.map .lit)), (4, .tok 89 2 i), (2, .cells [int x.op, int x.n, bC nb x.binds, .gs 1 (kC (kidsL lts x.kids)) (.l 3), .gs 2 (la.map lAlt) (.l 4)]), (0, .cells (nodesL lts (e.map cEx).length))], oz⟩
         | _ => False) follows (by kernel_rfl) rfl rfl (by decide) (by kernel_rfl) (by kernel_rfl) rfl rfl ?_ (fun _ _ _ => .nil) (by decide) ?_ ?_
     · rintro vs σ hG
       match vs, hG with
       | [], hG => subst hG; rfl
       | [_], hG => obtain ⟨nc, oz, _, _, _, rfl⟩ := hG; rfl
       | [_, _], hG => obtain ⟨nc, oz, _, _, _, _, rfl⟩ := hG; rfl
       | [_, _, _], hG => obtain ⟨nc, oz, _, _, _, _, _, rfl⟩ := hG; rfl
       | [_, _, _, _], hG => obtain ⟨nc, oz, _, _, _, _, _, _, rfl⟩ := hG; rfl
     · rintro vs σ hG q o hi ho
       match vs, hG with
       | [], hG =>
         subst hG
         cases hi
         cases ho
         refine ⟨rfl, rfl, .inr ⟨rfl, AStepR.call hΓ rfl rfl rfl rfl (by simp) hoy (CloneN_ok a.binds (hxo.ab a (List.mem_of_getElem? ha)) oy) fun r oz hq _ _ => ?_⟩⟩
         obtain ⟨nc, h1, rfl, h2⟩ := hq
         exact ⟨nc, oz, h1, h2, rfl, rfl⟩
       | [_], hG =>
         obtain ⟨nc, oz, h1, h2, rfl, rfl⟩ := hG
         cases hi
         cases ho
         exact ⟨rfl, rfl, .inl ⟨_, _, HStep.auto tabOk rfl, nc, oz, h1, h2, rfl, rfl, rfl⟩⟩
       | [_, _], hG =>
         obtain ⟨nc, oz, h1, h2, rfl, rfl, rfl⟩ := hG
         cases hi
         cases ho
         exact ⟨rfl, rfl, .inl ⟨_, _, HStep.auto tabOk rfl, nc, oz, h1, h2, rfl, rfl, rfl, rfl⟩⟩
       | [_, _, _], hG =>
         obtain ⟨nc, oz, h1, h2, rfl, rfl, rfl, rfl⟩ := hG
         cases hi
         cases ho
         refine ⟨rfl, rfl, .inl ⟨_, _, HStep.plain rfl (AStep.append (s := 2) (es := la.map lAlt) (news := [[int a.tag, bC nc a.binds]]) (ti := ti51) tabOk rfl rfl rfl rfl rfl rfl (Base.gs' _ 89 2 (la.map lAlt) (.l 4) rfl hal.symm) (.sl _ _) rfl ?_ ?_), nc, oz, h1, h2, rfl, rfl, rfl, rfl, rfl⟩⟩
         · rw [hal]; show (i + 1) * 32 ≤ _; omega
         · rw [hal]; show i + 1 ≤ _; omega
       | [_, _, _, _], hG => cases hi
     rintro vs σ hlen hG
     match vs, hlen, hG with
     | [_, _, _, _], _, hG =>
     obtain ⟨nc, oz, hnc, hNc, rfl, rfl, rfl, rfl, rfl⟩ := hG
     refine zM ?_
     obtain ⟨la', hla'⟩ : ∃ la', la' = la ++ [⟨a.tag, nc, a.binds⟩] := ⟨_, rfl⟩
     have hlm : la.map lAlt ++ [[int a.tag, bC nc a.binds]] = la'.map lAlt := by rw [hla', List.map_append]; rfl
     refine cInv ⟨x.alts.length - (i + 1), (i + 1, oz, la'), fun k => if k = 4 then 6 else k, by omega, ⟨by omega, ⟨by rw [hla', List.map_append, hla, take_get ha]; rfl, ?_, ?_⟩, rfl⟩, LessR.of rfl (by (repeat' first | exact FrSub.nil | refine zfc ?_ | refine zfo ?_ | refine zfp ?_)) (by simp) ?_ rfl rfl hNc.ok⟩
     · intro y hy
       rw [hla'] at hy
       rcases List.mem_append.1 hy with hy | hy
       · exact hlo y hy
       · simp at hy; subst hy; exact hnc
     · dsimp only
       rw [hla', aO_app, show aO [⟨a.tag, nc, a.binds⟩] = bO nc a.binds by simp [aO]]
       exact hNa.trans hNc
     · repeat' first | exact LoSub.nil | refine zlc ?_ | refine zld ?_ ?_ | rfl
       · simp only [AObj.ren, List.length_append, hal]; rfl
       · simp only [hlm, AObj.ren, renL, AC.ren, ren_bC, ren_kC, ren_lAlts]; rfl
   have hlt2 : i = x.alts.length := by simp at hb3; omega
   subst hlt2
   rw [List.take_length] at hla
   refine zA ?_
   refine AOps.step1 rfl rfl rfl (idxI tabOk rfl rfl rfl rfl rfl rfl rfl (by simp; omega)) ?_
   refine AOps.wkObj (.l 2) rfl (cs' := [int x.op, int x.n, bC nb x.binds, .sl 1 (kC (kidsL lts x.kids)), .sl 2 (la.map lAlt)]) (fun w C xs h => ?_) ?_
   · exact (show WkL _ _ from .cons (.refl _) (.cons (.refl _) (.cons (.refl _) (.cons (.gsE rfl) (.cons (.gsE rfl) .nil))))) w C xs h
   have hθ : ∀ (k : Nat) (i : Abs.Id), isO i → toOs [2] k i = i := fun k i hi => by cases i with | l q => exact hi.elim | o q => rfl
   refine AOps.cedes [2] rfl (by decide) hoy fun k hk => ⟨[(77, .one (.ptr (.l 0) j)), (76, .one (.ptr (.o k) 0)), (16, .one (int j)), (15, .one (int (e.map cEx).length)), (14, .one (.sl 5 (e.map cEx))), (3, .one (.arr (.l 0) 1 0 (e.map cEx).length (e.map cEx).length)), (0, .one (.sl 5 (e.map cEx)))],
     [(0, .cells (nodesL lts (e.map cEx).length))], [.cells [int x.op, int x.n, bC nb x.binds, .sl 1 (kC (kidsL lts x.kids)), .sl 2 (la.map lAlt)]], ?_, ?_, ?_, ?_⟩
   · exact .cons rfl rfl (.cons rfl rfl (.cons rfl rfl (.cons rfl rfl (.cons rfl (FV.sub_f (hθ k) _ (by simp)) (.cons rfl rfl (.cons rfl (FV.sub_f (hθ k) _ (by simp)) .nil))))))
   · exact .cons rfl rfl (AObj.sub_f (hθ k) _ (ids_nodesL_o _ _)) .nil
   · exact .cons rfl (AObj.sub_f (hθ k) _ (ids_node _ _ _ _ _ _)) .nil
   have hN1 := NewO.add hk hoy (ids_node x.op x.n nb x.binds (kidsL lts x.kids) la)
   have hN2 := ((hN.trans hNb).trans hNa).trans hN1
   obtain ⟨t, ht⟩ : ∃ t : LTr, t = .mk k x.op x.n nb x.binds (kidsL lts x.kids) la := ⟨_, rfl⟩
   have hto : lts.flatMap ownO ++ bO nb x.binds ++ aO la ++ [(k, .cells [int x.op, int x.n, bC nb x.binds, .sl 1 (kC (kidsL lts x.kids)), .sl 2 (la.map lAlt)])] = (lts ++ [t]).flatMap ownO := by
     rw [List.flatMap_append, ht]
     simp [ownO, List.append_assoc]
   rw [hto] at hN2
   have hL2 := hL.snoc (kidsIn_pre (by rw [List.take_append_drop]; exact hin)) (x := x) (fun q hq => by have := hxin q hq; simp; omega) (id := k) hla hnb hlo
   rw [← take_get hx, show LTr.mk k x.op x.n nb x.binds (x.kids.map fun q => lts.getD q.toNat default) la = t by rw [ht]; rfl] at hL2
   refine AOps.storeOwn tabOk rfl rfl rfl rfl rfl rfl rfl rfl (by rw [nodesL_len (by simp [hgl]; omega)]; simp; omega) ?_
   have hst := nodesL_set (ts := lts) (n := (e.map cEx).length) (by simp [hgl]; omega) t
   rw [hgl, show t.id = k by rw [ht]; rfl] at hst
   rw [hst]
   refine zM ?_
   exact cInv ⟨e.length - (j + 1), (j + 1, lts ++ [t], _), id, by omega, ⟨by omega, ⟨hL2, hN2⟩, rfl⟩, LessR.of rfl (by (repeat' first | exact FrSub.nil | refine zfc ?_ | refine zfo ?_ | refine zfp ?_)) (by simp) (by repeat' first | exact LoSub.nil | refine zlc ?_ | refine zld ?_ ?_ | rfl) rfl rfl hN2.ok⟩
 · have hlt : j = e.length := by simp at hb2; omega
   subst hlt
   rw [List.take_length] at hL
   obtain ⟨N, hNe⟩ : ∃ N, e.length = N + 1 := ⟨e.length - 1, by have := List.length_pos_iff.2 hT.ne; omega⟩
   obtain ⟨t, ht⟩ := get_of_lt (l := lts) (i := N) (by rw [hL.len]; omega)
   have hnt : e.length - 1 = N := by omega
   refine zM ?_
   refine AOps.wk 82 rfl (y := .one (int (N : Nat))) (.ofEq (by congr 3; simp; omega)) ?_
   refine AOps.step1 rfl rfl rfl (idxI tabOk rfl rfl rfl rfl rfl rfl rfl (by simp; omega)) ?_
   refine AOps.step1 rfl rfl rfl (AStep.loadOwn tabOk rfl rfl rfl rfl rfl rfl (nodesL_get ht)) ?_
   refine zA ?_
   have hown := hL.own hin _ N t (Nat.lt_succ_self _) ht
   refine AFn.fin' rfl (WkF.ofEq rfl) (by simp [AC.ids]) hov ⟨t, rfl, ?_, ?_, ?_, ?_, ?_, hov, ?_⟩
   · rw [hL.er hin _ N t (Nat.lt_succ_self _) ht]
     unfold grow treeAt; rw [hnt]
   · exact hL.ok hin (fun x hx => ⟨(he.x x hx).b, (he.x x hx).k, (he.x x hx).a, (he.x x hx).ab⟩) _ N t (Nat.lt_succ_self _) ht
   · exact fun p hp => hN.own p (hown p hp)
   · exact hL.nodup hT hN.nd (by rw [hnt]; exact ht)
   · intro k hk
     obtain ⟨p, hp, rfl⟩ := List.mem_map.1 hk
     exact hN.new p.1 (List.mem_map_of_mem (hown p hp))
   · intro m o hm
     show ov m = some o
     rw [hN.old m fun hmk => by have := hN.new m hmk; rw [hm] at this; cases this]
     exact hm
end Go.Proofs.YtgdionbeeodaaaaDoor
namespace Go.CoreX
def rnTA (nm : Nm) (f : Int) : List Alt → List Alt × Nm × Int
 | [] => ([], nm, f)
 | x :: l => (⟨x.tag, frB f x.binds⟩ :: (rnTA (frN nm f x.binds) (f + x.binds.length) l).1, (rnTA (frN nm f x.binds) (f + x.binds.length) l).2)
mutual
def rnT (nm : Nm) (f : Int) : Tr → Tr × Nm × Int
 | .mk o n b k a =>
   let s1 := ren1 o nm f b
   let s2 := rnTA s1.2.1 s1.2.2 a
   let s3 := rnTs s2.2.1 s2.2.2 k
   (.mk o (if o = 0 then (nm n).getD n else n) s1.1 s3.1 s2.1, s3.2)
def rnTs (nm : Nm) (f : Int) : List Tr → List Tr × Nm × Int
 | [] => ([], nm, f)
 | t :: l => ((rnT nm f t).1 :: (rnTs (rnT nm f t).2.1 (rnT nm f t).2.2 l).1, (rnTs (rnT nm f t).2.1 (rnT nm f t).2.2 l).2)
end
theorem rnAs_er : ∀ (l : List LAlt) (nm : Nm) (f : Int), (rnAs nm f l).1.map LAlt.er = (rnTA nm f (l.map LAlt.er)).1 ∧ (rnAs nm f l).2 = (rnTA nm f (l.map LAlt.er)).2
 | [], _, _ => ⟨rfl, rfl⟩
 | x :: l, nm, f => by
   have ih := rnAs_er l (frN nm f x.binds) (f + x.binds.length)
   simp only [rnAs, List.map_cons, rnTA, ih.1]
   exact ⟨rfl, ih.2⟩
mutual
theorem rnL_er : ∀ (t : LTr) (nm : Nm) (f : Int), erT (rnL nm f t).1 = (rnT nm f (erT t)).1 ∧ (rnL nm f t).2 = (rnT nm f (erT t)).2
 | .mk i o n nb b k a, nm, f => by
   have h2 := rnAs_er a (ren1 o nm f b).2.1 (ren1 o nm f b).2.2
   have h3 := rnLs_er k (rnAs (ren1 o nm f b).2.1 (ren1 o nm f b).2.2 a).2.1 (rnAs (ren1 o nm f b).2.1 (ren1 o nm f b).2.2 a).2.2
   rw [h2.2] at h3
   simp only [rnL, erT, rnT, h2.1, h2.2, h3.1, h3.2]
   exact ⟨trivial, trivial⟩
theorem rnLs_er : ∀ (l : List LTr) (nm : Nm) (f : Int), erTs (rnLs nm f l).1 = (rnTs nm f (erTs l)).1 ∧ (rnLs nm f l).2 = (rnTs nm f (erTs l)).2
 | [], _, _ => ⟨rfl, rfl⟩
 | t :: l, nm, f => by
   have h1 := rnL_er t nm f
   have h2 := rnLs_er l (rnL nm f t).2.1 (rnL nm f t).2.2
   rw [h1.2] at h2
   simp only [rnLs, erTs, rnTs, h1.1, h1.2, h2.1, h2.2]
   exact ⟨trivial, trivial⟩
end
def nbLab (l : Lab) : Int := (if l.op = 9 then 0 else l.binds.length : Nat) + ((l.alts.map fun x => x.binds.length).sum : Nat)
theorem nbA_er (l : List LAlt) : nbA l = ((l.map LAlt.er).map fun x => x.binds.length).sum := by simp [nbA, Function.comp_def, LAlt.er]
mutual
theorem nbL_er : ∀ t : LTr, ((nbL t : Nat) : Int) = sumT nbLab (erT t)
 | .mk i o n nb b k a => by
   have := nbLs_er k
   simp only [nbL, erT, sumT, nbLab, nbA_er, ← this]; push_cast; omega
theorem nbLs_er : ∀ l : List LTr, ((nbLs l : Nat) : Int) = sumTs nbLab (erTs l)
 | [] => by simp [nbLs, erTs, sumTs]
 | t :: l => by
   have h1 := nbL_er t
   have h2 := nbLs_er l
   simp only [nbLs, erTs, sumTs, ← h1, ← h2]; push_cast; rfl
end
def nbE (e : List Ex) : Int := sumT nbLab (grow e)
def renewE (e : List Ex) (f : Int) : List Ex × Int :=
 if check e ≠ 0 then ([], check e) else if f < 0 ∨ 1048576 < f then ([], 4) else if 1048576 < (rnT (fun _ => none) f (grow e)).2.2 then ([], 4) else (listT [] (rnT (fun _ => none) f (grow e)).1, 0)
-- The shape stays.
theorem ren1_len (o : Int) (nm : Nm) (f : Int) (b : List Int) : (ren1 o nm f b).1.length = b.length := by
 unfold ren1; split
 · rfl
 · exact frB_len f b
theorem rnTA_len : ∀ (l : List Alt) (nm : Nm) (f : Int), (rnTA nm f l).1.map (fun x => x.binds.length) = l.map fun x => x.binds.length
 | [], _, _ => rfl
 | x :: l, nm, f => by simp only [rnTA, List.map_cons, frB_len, rnTA_len l]
theorem flat_len_eq {l r : List Alt} (h : l.map (fun x => x.binds.length) = r.map fun x => x.binds.length) : (l.flatMap (·.binds)).length = (r.flatMap (·.binds)).length := by
 simp only [List.length_flatMap]; exact congrArg List.sum h
theorem mem_len {l r : List Alt} (h : l.map (fun x => x.binds.length) = r.map fun x => x.binds.length) {c : Nat} (hr : ∀ x ∈ r, x.binds.length ≤ c) : ∀ x ∈ l, x.binds.length ≤ c := fun x hx => by
 have : x.binds.length ∈ r.map fun x => x.binds.length := by rw [← h]; exact List.mem_map_of_mem (f := fun x : Alt => x.binds.length) hx
 obtain ⟨y, hy, e⟩ := List.mem_map.1 this
 rw [← e]; exact hr y hy
mutual
theorem rnT_ok : ∀ (t : Tr) (nm : Nm) (f : Int), okT t → okT (rnT nm f t).1
 | .mk o n b k a, nm, f, h => by
   obtain ⟨h1, h2, h3, ⟨h4, h5⟩, h6⟩ := h
   have e1 := rnTA_len a (ren1 o nm f b).2.1 (ren1 o nm f b).2.2
   have e2 := congrArg List.length e1
   simp only [List.length_map] at e2
   obtain ⟨h7, h8⟩ := rnTs_ok k (rnTA (ren1 o nm f b).2.1 (ren1 o nm f b).2.2 a).2.1 (rnTA (ren1 o nm f b).2.1 (ren1 o nm f b).2.2 a).2.2 h6
   simp only [rnT, okT, ren1_len]
   exact ⟨h1, by omega, by omega, ⟨mem_len e1 h4, by rw [flat_len_eq e1]; exact h5⟩, h7⟩
theorem rnTs_ok : ∀ (l : List Tr) (nm : Nm) (f : Int), okTs l → okTs (rnTs nm f l).1 ∧ (rnTs nm f l).1.length = l.length
 | [], _, _, _ => ⟨trivial, rfl⟩
 | t :: l, nm, f, h => by
   obtain ⟨h1, h2⟩ := rnTs_ok l (rnT nm f t).2.1 (rnT nm f t).2.2 h.2
   exact ⟨⟨rnT_ok t nm f h.1, h1⟩, by simp only [rnTs, List.length_cons, h2]⟩
end
mutual
theorem rnT_cnt : ∀ (t : Tr) (nm : Nm) (f : Int), cntN (rnT nm f t).1 = cntN t
 | .mk o n b k a, nm, f => by simp only [rnT, cntN, rnTs_cnt k]
theorem rnTs_cnt : ∀ (l : List Tr) (nm : Nm) (f : Int), cntNs (rnTs nm f l).1 = cntNs l
 | [], _, _ => rfl
 | t :: l, nm, f => by simp only [rnTs, cntNs, rnT_cnt t, rnTs_cnt l]
end
end Go.CoreX
namespace Go.Proofs.YtgdionbeeodaaaaDoor
open Go Go.Abs Go.CoreX
variable {Γ : List (Nat × List AC)}
theorem nb_le {e : List Ex} (he : okB e) (h : IsTree e) : nbE e ≤ 4398046511104 := by
 have hel := he.eo.l
 unfold nbE
 rw [← sum_tree _ h]
 unfold labs
 rw [List.map_map, show (nbLab ∘ labE e) = fun x => nbLab (labE e x) from rfl]
 have key : ∀ l : List Ex, (∀ x ∈ l, x ∈ e) → (l.map fun x => nbLab (labE e x)).sum ≤ l.length * 4194304 := by
   intro l
   induction l with
   | nil => simp
   | cons x l ih =>
     intro hl
     have h1 := he.b x (hl x (by simp))
     have h2 := ih fun y hy => hl y (by simp [hy])
     have h3 : nbLab (labE e x) ≤ 4194304 := by
       have h4 : (x.alts.flatMap (·.binds)).length = (x.alts.map fun y => y.binds.length).sum := by simp [List.length_flatMap]
       simp only [nbLab, labE]
       rw [← h4]
       have h5 : (if (labE e x).op = 9 then 0 else x.binds.length) ≤ x.binds.length := by split <;> omega
       have h6 : (if (labE e x).op = 9 then 0 else x.binds.length) + (x.alts.flatMap (·.binds)).length ≤ 4194304 := by omega
       clear h5 h4 ih h2
       simp only [labE] at h6 ⊢
       generalize (if x.op = 9 then 0 else x.binds.length) = q at h6 ⊢
       omega
     simp only [List.map_cons, List.sum_cons, List.length_cons]
     push_cast
     omega
 have := key e fun _ h => h
 have h2 : (e.length : Int) * 4194304 ≤ 1048576 * 4194304 := Int.mul_le_mul_of_nonneg_right (by omega) (by omega)
 omega
theorem Renew_ok (e : List Ex) (he : okB e) (f : Int) : APure Tryd.prog Γc 23 [.one (.sl 5 (e.map cEx)), .one (int f)] (.tup [.one (.sl 5 ((renewE e f).1.map cEx)), .one (int (renewE e f).2)]) := by
 have c1 := Check_ok e he
 have hel := he.eo.l
 intro ou
 refine AFn.forget ?_
 refine AFn.walk 27 tabOk Tryd.func23 rfl (by kernel_rfl) rfl rfl fun hou => ?_
 refine zA ?_
 refine zca hΓc c1 hou ?_
 refine zA ?_
 refine ACode.cond rfl (fun hb => ?_) (fun hb => ?_)
 · have h : check e ≠ 0 := by simpa using hb
   refine zA ?_
   refine AFn.fin' rfl (.trans (WkF.tup (.cons (.one (.nilS 5)) (.cons (.refl _) .nil))) (.ofEq ?_)) (by simp) hou ⟨ou, fun _ _ h => h, rfl, rfl⟩
   unfold renewE
   rw [if_pos h]; rfl
 have h : check e = 0 := by simpa using hb
 have t1 := body_isTree h
 have hgt := he.t t1.k t1.ne
 have hre : renewE e f = if f < 0 ∨ 1048576 < f then ([], 4) else if 1048576 < (rnT (fun _ => none) f (grow e)).2.2 then ([], 4) else (listT [] (rnT (fun _ => none) f (grow e)).1, 0) := by
   unfold renewE
   rw [if_neg (by simpa using h)]
 rw [hre]
 clear hre
 refine zA ?_
 refine AOps.call1 hΓc rfl rfl rfl rfl rfl rfl rfl (by simp) hou (GrowN_ok hΓc e he.eo t1.k t1 ou) fun r ov hq hids hov => ?_
 obtain ⟨t, rfl, her, hok, hown, hnd, hnew, _, hold⟩ := hq
 have hfin : ∀ {ou' : Outer}, (∀ j, j ∉ keys (objs t) → ou' j = ov j) → ∀ m o, ou m = some o → ou' m = some o := fun {ou'} hu m o hm => by
   rw [hu m fun hk => by rw [hnew m hk] at hm; cases hm]
   exact hold m o hm
 have hnb : (nbL t : Int) = nbE e := by rw [nbL_er, her]; rfl
 have hnl := nb_le he t1
 refine zA ?_
 refine AOps.splitS rfl rfl rfl rfl (fun hb2 => ?_) (fun hb2 => ?_)
 · have h2 : f < 0 := by simpa using hb2
   rw [if_pos (.inl h2)]
   refine zM ?_
   exact AFn.fin' rfl (WkF.tup (.cons (.one (.nilS 5)) (.cons (.refl _) .nil))) (by simp) hov ⟨ou, hfin fun _ _ => rfl, rfl, rfl⟩
 have h2 : ¬ f < 0 := by simpa using hb2
 refine zM ?_
 refine ACode.cond rfl (fun hb3 => ?_) (fun hb3 => ?_)
 · have h3 : 1048576 < f := by simpa using hb3
   rw [if_pos (.inr h3)]
   refine zM ?_
   exact AFn.fin' rfl (WkF.tup (.cons (.one (.nilS 5)) (.cons (.refl _) .nil))) (by simp) hov ⟨ou, hfin fun _ _ => rfl, rfl, rfl⟩
 have h3 : ¬ 1048576 < f := by simpa using hb3
 rw [if_neg (by omega)]
 have hrf := rnL_er t nm0 f
 rw [her] at hrf
 refine zM ?_
 refine AOps.call1 hΓc rfl rfl rfl rfl rfl rfl rfl (by exact ⟨trivial, trivial, trivial⟩) hov (Rename_ok hΓc t hok ov hown hnd f (by omega) (by omega) hov) fun r ow hq hids how => ?_
 obtain ⟨rfl, hO, hok2, hfr⟩ := hq
 rw [hrf.2]
 obtain ⟨T, hTe⟩ : ∃ T, T = rnT nm0 f (grow e) := ⟨_, rfl⟩
 rw [← hTe] at hrf ⊢
 refine zM ?_
 refine ACode.cond rfl (fun hb4 => ?_) (fun hb4 => ?_)
 · have h4 : 1048576 < T.2.2 := by simpa using hb4
   rw [if_pos h4]
   refine zM ?_
   exact AFn.fin' rfl (WkF.tup (.cons (.one (.nilS 5)) (.cons (.refl _) .nil))) (by simp) hok2 ⟨ou, hfin hfr, rfl, rfl⟩
 have h4 : ¬ 1048576 < T.2.2 := by simpa using hb4
 rw [if_neg h4]
 have hcl : (listT [] T.1).length ≤ 1048576 := by
   have h5 := cntN_list T.1 []
   have h6 := cntN_list (grow e) []
   have h7 := len_list h
   rw [hTe, rnT_cnt] at h5
   simp only [List.length_nil] at h5 h6
   rw [hTe]; omega
 refine zM ?_
 refine AOps.freezeT (t := (rnL nm0 f t).1) 25 hO (by rw [rnL_k]; exact hnd) (by rw [rnL_id]; rfl) ?_
 rw [hrf.1, rnL_k]
 have hokd : OuOk (deadL ow (keys (objs t))) := fun m o hm => by
   unfold deadL at hm
   split at hm
   · cases hm; trivial
   · exact hok2 m o hm
 refine zca hΓc (List_ok hΓc T.1 (by rw [hTe]; exact rnT_ok _ _ _ hgt) hcl) hokd ?_
 refine zA ?_
 refine AFn.fin' rfl (WkF.ofEq rfl) (by simp) hokd ⟨ou, fun m o hm => ?_, rfl, rfl⟩
 show deadL ow (keys (objs t)) m = some o
 unfold deadL
 rw [if_neg fun hk => by rw [hnew m hk] at hm; cases hm]
 exact hfin hfr m o hm
end Go.Proofs.YtgdionbeeodaaaaDoor
namespace Go.CoreX
-- What holds of all nodes.
mutual
def allT (p : Lab → Prop) : Tr → Prop
 | .mk o n b k a => p ⟨o, n, b, k.map Tr.op, a⟩ ∧ allTs p k
def allTs (p : Lab → Prop) : List Tr → Prop
 | [] => True
 | t :: l => allT p t ∧ allTs p l
end
theorem allTs_iff {p : Lab → Prop} : ∀ {l : List Tr}, allTs p l ↔ ∀ t ∈ l, allT p t
 | [] => by simp [allTs]
 | t :: l => by simp [allTs, allTs_iff (l := l)]
theorem allT_at {e : List Ex} (hk : kidsIn e) {p : Lab → Prop} (h : ∀ x ∈ e, p (labE e x)) : ∀ (n i : Nat), i < n → i < e.length → allT p (treeAt e i)
 | 0, i, hi, _ => by omega
 | n + 1, i, hi, hl => by
   obtain ⟨x, hx⟩ : ∃ x, e[i]? = some x := ⟨e[i], List.getElem?_eq_getElem hl⟩
   rw [treeAt_node hk hx]
   refine ⟨?_, allTs_iff.2 fun t ht => ?_⟩
   · have := h x (List.mem_of_getElem? hx)
     simp only [labE] at this
     simp only [List.map_map]
     exact this
   · obtain ⟨q, hq, rfl⟩ := List.mem_map.1 ht
     have := hk i x hx q hq
     exact allT_at hk h n q.toNat (by omega) (by omega)
theorem allT_grow {e : List Ex} (h : IsTree e) {p : Lab → Prop} (hp : ∀ x ∈ e, p (labE e x)) : allT p (grow e) := by
 have := List.length_pos_iff.2 h.ne
 exact allT_at h.k hp _ (e.length - 1) (Nat.lt_succ_self _) (by omega)
structure shLab (l : Lab) : Prop where
 b : l.op = 2 ∨ l.op = 4 ∨ l.op = 5 ∨ l.op = 9 ∨ l.binds = []
 v : l.op = 0 → l.alts = [] ∧ l.ops = []
theorem shLab_of {x : Ex} (h : shape x = true) (e : List Ex) : shLab (labE e x) := by
 unfold shape at h
 split at h
 · rename_i h7
   simp only [Bool.and_eq_true, beq_iff_eq] at h
   refine ⟨by simp only [labE]; exact .inr (.inr (.inr (.inr (List.length_eq_zero_iff.1 h.1.2)))), fun h0 => ?_⟩
   simp only [labE] at h0
   omega
 · rename_i h7
   cases hw : wants x with
   | none => rw [hw] at h; simp at h
   | some w =>
     obtain ⟨k, b, u⟩ := w
     rw [hw] at h
     simp only [Bool.and_eq_true, beq_iff_eq] at h
     obtain ⟨⟨⟨h1, h2⟩, h3⟩, _⟩ := h
     have ha : x.alts = [] := List.length_eq_zero_iff.1 h3
     refine ⟨?_, fun h0 => ?_⟩
     · simp only [labE]
       by_cases e2 : x.op = 2; · exact .inl e2
       by_cases e4 : x.op = 4; · exact .inr (.inl e4)
       by_cases e5 : x.op = 5; · exact .inr (.inr (.inl e5))
       by_cases e9 : x.op = 9; · exact .inr (.inr (.inr (.inl e9)))
       right; right; right; right
       have hb : b = 0 := by
         unfold wants at hw
         simp only [e2, e4, e5, e9, if_false] at hw
         repeat' split at hw
         all_goals first
           | (cases hw; rfl)
           | (cases hw; done)
       exact List.length_eq_zero_iff.1 (by omega)
     · simp only [labE] at h0 ⊢
       refine ⟨ha, ?_⟩
       unfold wants at hw
       rw [if_pos (.inl h0)] at hw
       cases hw
       have : x.kids = [] := List.length_eq_zero_iff.1 (by omega)
       rw [this]; rfl
theorem check_shape {e : List Ex} (h : check e = 0) : allT shLab (grow e) := allT_grow (body_isTree h) fun x hx => shLab_of (shape_of h x hx) e
-- The same up to renaming.
theorem rnTA_l : ∀ (a : List Alt) (nm : Nm) (f : Int), (rnTA nm f a).1.length = a.length
 | [], _, _ => rfl
 | x :: l, nm, f => by simp [rnTA, rnTA_l l]
theorem putsN_app : ∀ (l l' r r' : List Int) (m : Nm), l.length = l'.length → putsN m (l ++ r) (l' ++ r') = putsN (putsN m l l') r r'
 | [], [], r, r', m, _ => rfl
 | [], _ :: _, _, _, _, h => by simp at h
 | _ :: _, [], _, _, _, h => by simp at h
 | x :: l, y :: l', r, r', m, h => by
   simp only [List.cons_append, putsN]
   exact putsN_app l l' r r' _ (by simpa using h)
theorem rnTA_puts : ∀ (a : List Alt) (nm : Nm) (f : Int), (rnTA nm f a).2.1 = putsN nm (a.flatMap (·.binds)) ((rnTA nm f a).1.flatMap (·.binds))
 | [], _, _ => rfl
 | x :: l, nm, f => by
   simp only [rnTA, List.flatMap_cons]
   rw [putsN_app _ _ _ _ _ (frB_len f x.binds).symm, rnTA_puts l]
   rfl
theorem ren1_puts {o : Int} {b : List Int} (h : o = 2 ∨ o = 4 ∨ o = 5 ∨ o = 9 ∨ b = []) (nm : Nm) (f : Int) : (ren1 o nm f b).2.1 = putsN nm (if o = 2 ∨ o = 4 ∨ o = 5 then b else []) (if o = 2 ∨ o = 4 ∨ o = 5 then (ren1 o nm f b).1 else []) := by
 unfold ren1
 by_cases e9 : o = 9
 · subst e9
   simp [putsN]
 · rw [if_neg e9]
   by_cases e : o = 2 ∨ o = 4 ∨ o = 5
   · rw [if_pos e, if_pos e]; rfl
   · rw [if_neg e, if_neg e]
     have : b = [] := by
       rcases h with h | h | h | h | h
       · exact absurd (.inl h) e
       · exact absurd (.inr (.inl h)) e
       · exact absurd (.inr (.inr h)) e
       · exact absurd h e9
       · exact h
     subst this; rfl
def nmAt (o : Int) (nm : Nm) (f : Int) (b : List Int) (a : List Alt) : Nm × Int := (rnTA (ren1 o nm f b).2.1 (ren1 o nm f b).2.2 a).2
theorem nmAt_puts {o n : Int} {b : List Int} {a : List Alt} {ops : List Int} (h : shLab ⟨o, n, b, ops, a⟩) (nm : Nm) (f : Int) :
   (nmAt o nm f b a).1 = putsN nm (bindersN o b a) (bindersN o (ren1 o nm f b).1 (rnTA (ren1 o nm f b).2.1 (ren1 o nm f b).2.2 a).1) := by
 have h1 := ren1_puts (o := o) (b := b) (by have := h.b; simpa using this) nm f
 unfold nmAt bindersN
 rw [putsN_app _ _ _ _ _ (by split <;> simp [ren1_len]), ← h1, rnTA_puts]
theorem rnT_op (t : Tr) (nm : Nm) (f : Int) : (rnT nm f t).1.op = t.op := by cases t; rfl
theorem rnTs_ops : ∀ (l : List Tr) (nm : Nm) (f : Int), (rnTs nm f l).1.map Tr.op = l.map Tr.op
 | [], _, _ => rfl
 | t :: l, nm, f => by simp only [rnTs, List.map_cons, rnT_op, rnTs_ops l]
end Go.CoreX
namespace Go.CoreX
def ind (a b k : Int) : Int := if a ≤ k ∧ k < b then 1 else 0
theorem ind_add {a b c : Int} (k : Int) (h1 : a ≤ b) (h2 : b ≤ c) : ind a b k + ind b c k = ind a c k := by
 unfold ind
 split <;> split <;> split <;> omega
theorem ind_nil (a k : Int) : ind a a k = 0 := by unfold ind; rw [if_neg (by omega)]
def cntB (k : Int) (l : Lab) : Int := ((bindersN l.op l.binds l.alts).count k : Nat)
theorem frB_count (f k : Int) (l : List Int) : (((frB f l).count k : Nat) : Int) = ind f (f + l.length) k := by
 unfold frB
 generalize l.length = n
 induction n with
 | zero => simp [ind_nil]
 | succ n ih =>
   rw [List.range_succ, List.map_append, List.count_append]
   push_cast
   rw [ih]
   simp only [List.map_cons, List.map_nil, List.count_singleton]
   unfold ind
   by_cases h : f + (n : Int) = k
   · subst h
     simp
     omega
   · have h2 : (f + (n : Int) == k) = false := by simpa using h
     rw [h2]
     simp only [Bool.false_eq_true, if_false]
     split <;> split <;> omega
theorem rnTA_f : ∀ (a : List Alt) (nm : Nm) (f : Int), (rnTA nm f a).2.2 = f + ((a.map fun x => x.binds.length).sum : Nat)
 | [], _, _ => by simp [rnTA]
 | x :: l, nm, f => by simp only [rnTA, rnTA_f l, List.map_cons, List.sum_cons]; push_cast; omega
theorem rnTA_count (k : Int) : ∀ (a : List Alt) (nm : Nm) (f : Int), ((((rnTA nm f a).1.flatMap (·.binds)).count k : Nat) : Int) = ind f (rnTA nm f a).2.2 k
 | [], nm, f => by simp [rnTA, ind_nil]
 | x :: l, nm, f => by
   have ih := rnTA_count k l (frN nm f x.binds) (f + x.binds.length)
   simp only [rnTA, List.flatMap_cons, List.count_append]
   push_cast
   rw [ih, frB_count, ind_add k (by omega) (by rw [rnTA_f]; omega)]
theorem ren1_f' (o : Int) (nm : Nm) (f : Int) (b : List Int) : f ≤ (ren1 o nm f b).2.2 := by rw [ren1_f]; omega
mutual
theorem rnT_f : ∀ (t : Tr) (nm : Nm) (f : Int), f ≤ (rnT nm f t).2.2
 | .mk o n b k a, nm, f => by
   have h1 := ren1_f' o nm f b
   have h2 := rnTA_f a (ren1 o nm f b).2.1 (ren1 o nm f b).2.2
   have h3 := rnTs_f k (rnTA (ren1 o nm f b).2.1 (ren1 o nm f b).2.2 a).2.1 (rnTA (ren1 o nm f b).2.1 (ren1 o nm f b).2.2 a).2.2
   simp only [rnT]; omega
theorem rnTs_f : ∀ (l : List Tr) (nm : Nm) (f : Int), f ≤ (rnTs nm f l).2.2
 | [], _, f => by simp [rnTs]
 | t :: l, nm, f => by
   have h1 := rnT_f t nm f
   have h2 := rnTs_f l (rnT nm f t).2.1 (rnT nm f t).2.2
   simp only [rnTs]; omega
end
mutual
theorem rnT_count (k : Int) : ∀ (t : Tr) (nm : Nm) (f : Int), allT shLab t → sumT (cntB k) (rnT nm f t).1 = ind f (rnT nm f t).2.2 k
 | .mk o n b ks a, nm, f, h => by
   obtain ⟨h1, h2⟩ := h
   have hk := rnTs_count k ks (rnTA (ren1 o nm f b).2.1 (ren1 o nm f b).2.2 a).2.1 (rnTA (ren1 o nm f b).2.1 (ren1 o nm f b).2.2 a).2.2 h2
   have ha := rnTA_count k a (ren1 o nm f b).2.1 (ren1 o nm f b).2.2
   have hf1 := ren1_f' o nm f b
   have hf2 := rnTA_f a (ren1 o nm f b).2.1 (ren1 o nm f b).2.2
   have hf3 := rnTs_f ks (rnTA (ren1 o nm f b).2.1 (ren1 o nm f b).2.2 a).2.1 (rnTA (ren1 o nm f b).2.1 (ren1 o nm f b).2.2 a).2.2
   simp only [rnT, sumT, cntB, bindersN, List.count_append]
   push_cast
   rw [hk, ha]
   have hb : (((if o = 2 ∨ o = 4 ∨ o = 5 then (ren1 o nm f b).1 else []).count k : Nat) : Int) = ind f (ren1 o nm f b).2.2 k := by
     have hs := h1.b
     simp only at hs
     by_cases e : o = 2 ∨ o = 4 ∨ o = 5
     · rw [if_pos e]
       have e9 : o ≠ 9 := by omega
       unfold ren1
       rw [if_neg e9]
       exact frB_count f k b
     · rw [if_neg e]
       unfold ren1
       by_cases e9 : o = 9
       · rw [if_pos e9]; simp [ind_nil]
       · rw [if_neg e9]
         have : b = [] := by
           rcases hs with h | h | h | h | h
           · exact absurd (.inl h) e
           · exact absurd (.inr (.inl h)) e
           · exact absurd (.inr (.inr h)) e
           · exact absurd h e9
           · exact h
         subst this
         simp [ind_nil]
   rw [hb, ind_add k hf1 (by omega), ind_add k (by omega) hf3]
theorem rnTs_count (k : Int) : ∀ (l : List Tr) (nm : Nm) (f : Int), allTs shLab l → sumTs (cntB k) (rnTs nm f l).1 = ind f (rnTs nm f l).2.2 k
 | [], nm, f, _ => by simp [rnTs, sumTs, ind_nil]
 | t :: l, nm, f, h => by
   have h1 := rnT_count k t nm f h.1
   have h2 := rnTs_count k l (rnT nm f t).2.1 (rnT nm f t).2.2 h.2
   simp only [rnTs, sumTs, h1, h2]
   exact ind_add k (rnT_f t nm f) (rnTs_f l _ _)
end
theorem binders_count (k : Int) (T : Tr) : (((allBinders (listT [] T)).count k : Nat) : Int) = sumT (cntB k) T := by
 rw [allBinders_labs, count_flat]
 have := sum_tree (cntB k) (isTree_list T)
 rw [grow_list] at this
 rw [← this]; rfl
theorem rn_binders {T : Tr} (h : allT shLab T) (nm : Nm) (f k : Int) : (((allBinders (listT [] (rnT nm f T).1)).count k : Nat) : Int) = ind f (rnT nm f T).2.2 k := by
 rw [binders_count, rnT_count k T nm f h]
theorem rn_nodup {T : Tr} (h : allT shLab T) (nm : Nm) (f : Int) : (allBinders (listT [] (rnT nm f T).1)).Nodup := by
 rw [List.nodup_iff_count]
 intro k
 have := rn_binders h nm f k
 unfold ind at this
 split at this <;> omega
-- Depth.
mutual
theorem rnT_depth : ∀ (t : Tr) (nm : Nm) (f : Int), depthT (rnT nm f t).1 = depthT t
 | .mk o n b k a, nm, f => by simp only [rnT, depthT, rnTs_depth k]
theorem rnTs_depth : ∀ (l : List Tr) (nm : Nm) (f : Int), depthTs (rnTs nm f l).1 = depthTs l
 | [], _, _ => rfl
 | t :: l, nm, f => by simp only [rnTs, depthTs, rnT_depth t, rnTs_depth l]
end
-- Names that a tree does not bind keep their new names.
mutual
def bndT : Tr → List Int
 | .mk o _ b k a => bindersN o b a ++ bndTs k
def bndTs : List Tr → List Int
 | [] => []
 | t :: l => bndT t ++ bndTs l
end
theorem putsN_other : ∀ (l r : List Int) (m : Nm) (k : Int), k ∉ l → putsN m l r k = m k
 | [], _, _, _, _ => rfl
 | _ :: _, [], _, _, _ => rfl
 | x :: l, y :: r, m, k, h => by
   simp only [List.mem_cons, not_or] at h
   simp only [putsN]
   rw [putsN_other l r _ k h.2]
   unfold setN
   rw [if_neg (Ne.symm h.1)]
mutual
theorem rnT_keep (k : Int) : ∀ (t : Tr) (nm : Nm) (f : Int), allT shLab t → k ∉ bndT t → (rnT nm f t).2.1 k = nm k
 | .mk o n b ks a, nm, f, h, hk => by
   simp only [bndT, List.mem_append, not_or] at hk
   have h1 := rnTs_keep k ks (nmAt o nm f b a).1 (nmAt o nm f b a).2 h.2 hk.2
   have h2 := nmAt_puts h.1 nm f
   show (rnTs (nmAt o nm f b a).1 (nmAt o nm f b a).2 ks).2.1 k = _
   rw [h1, h2, putsN_other _ _ _ _ hk.1]
theorem rnTs_keep (k : Int) : ∀ (l : List Tr) (nm : Nm) (f : Int), allTs shLab l → k ∉ bndTs l → (rnTs nm f l).2.1 k = nm k
 | [], _, _, _, _ => rfl
 | t :: l, nm, f, h, hk => by
   simp only [bndTs, List.mem_append, not_or] at hk
   simp only [rnTs]
   rw [rnTs_keep k l _ _ h.2 hk.2, rnT_keep k t nm f h.1 hk.1]
end
theorem putsN_at : ∀ {l r : List Int} {m : Nm} {j : Nat} {k : Int}, l.Nodup → l.length = r.length → l[j]? = some k → putsN m l r k = r[j]?
 | [], _, _, _, _, _, _, h => by simp at h
 | _ :: _, [], _, _, _, _, h, _ => by simp at h
 | x :: l, y :: r, m, j, k, hn, hl, h => by
   simp only [List.nodup_cons] at hn
   simp only [putsN]
   cases j with
   | zero =>
     simp at h; subst h
     rw [putsN_other _ _ _ _ hn.1]
     simp [setN]
   | succ j => simpa using putsN_at (m := setN m x y) hn.2 (by simpa using hl) (by simpa using h)
theorem bound_sub {o : Int} {b : List Int} {a : List Alt} {j k : Int} (h : k ∈ boundN o b a j) : k ∈ bindersN o b a := by
 unfold boundN at h
 unfold bindersN
 split at h
 · rename_i e
   rw [if_pos (by omega)]
   exact List.mem_append.2 (.inl h)
 · split at h
   · rename_i e1 e2
     refine List.mem_append.2 (.inr (List.mem_flatMap.2 ⟨_, ?_, h⟩))
     have hl : (j - 1).toNat < a.length := by omega
     rw [List.getD_eq_getElem?_getD, List.getElem?_eq_getElem hl]
     exact List.getElem_mem hl
   · simp at h
theorem frN_at {nm : Nm} {f k : Int} {b : List Int} (hn : b.Nodup) (h : k ∈ b) : ∃ v, frN nm f b k = some v ∧ v ∈ frB f b := by
 obtain ⟨j, hj⟩ := List.mem_iff_getElem?.1 h
 have hlt := (List.getElem?_eq_some_iff.1 hj).1
 have := putsN_at (m := nm) (r := frB f b) hn (frB_len f b).symm hj
 rw [frB_get hlt] at this
 exact ⟨_, this, List.mem_of_getElem? (frB_get hlt)⟩
theorem rnTA_at : ∀ {a : List Alt} {nm : Nm} {f k : Int} {q : Nat} {x : Alt}, (a.flatMap (·.binds)).Nodup → a[q]? = some x → k ∈ x.binds → ∃ v y, (rnTA nm f a).2.1 k = some v ∧ (rnTA nm f a).1[q]? = some y ∧ v ∈ y.binds
 | [], _, _, _, _, _, _, h, _ => by simp at h
 | z :: l, nm, f, k, q, x, hn, hx, hk => by
   simp only [List.flatMap_cons, List.nodup_append] at hn
   cases q with
   | zero =>
     simp at hx; subst hx
     obtain ⟨v, h1, h2⟩ := frN_at (nm := nm) (f := f) hn.1 hk
     refine ⟨v, ⟨z.tag, frB f z.binds⟩, ?_, rfl, h2⟩
     simp only [rnTA]
     rw [rnTA_puts, putsN_other _ _ _ _ (fun hm => hn.2.2 k hk k hm rfl)]
     exact h1
   | succ q =>
     obtain ⟨v, y, h1, h2, h3⟩ := rnTA_at (nm := frN nm f z.binds) (f := f + z.binds.length) hn.2.1 (by simpa using hx) hk
     exact ⟨v, y, h1, by simpa [rnTA] using h2, h3⟩
theorem nm_bound {o n : Int} {b : List Int} {a : List Alt} {ops : List Int} (hs : shLab ⟨o, n, b, ops, a⟩) (hn : (bindersN o b a).Nodup) (nm : Nm) (f j k : Int) (h : k ∈ boundN o b a j) :
   ∃ v, (nmAt o nm f b a).1 k = some v ∧ v ∈ boundN o (ren1 o nm f b).1 (rnTA (ren1 o nm f b).2.1 (ren1 o nm f b).2.2 a).1 j := by
 unfold bindersN at hn
 rw [List.nodup_append] at hn
 unfold boundN at h ⊢
 by_cases e : o = 2 ∨ o = 5 ∨ (o = 4 ∧ j = 1)
 · rw [if_pos e] at h ⊢
   rw [if_pos (by omega)] at hn
   have e9 : o ≠ 9 := by omega
   unfold nmAt ren1
   rw [if_neg e9]
   obtain ⟨v, h1, h2⟩ := frN_at (nm := nm) (f := f) hn.1 h
   refine ⟨v, ?_, h2⟩
   simp only
   rw [rnTA_puts, putsN_other _ _ _ _ (fun hm => hn.2.2 k h k hm rfl)]
   exact h1
 · rw [if_neg e] at h ⊢
   rw [rnTA_l]
   split at h
   · rename_i e2
     rw [if_pos e2]
     have hl : (j - 1).toNat < a.length := by omega
     rw [List.getD_eq_getElem?_getD, List.getElem?_eq_getElem hl] at h
     obtain ⟨v, y, h1, h2, h3⟩ := rnTA_at (nm := (ren1 o nm f b).2.1) (f := (ren1 o nm f b).2.2) hn.2.1 (List.getElem?_eq_getElem hl) h
     refine ⟨v, h1, ?_⟩
     rw [List.getD_eq_getElem?_getD, h2]
     exact h3
   · simp at h
mutual
theorem rnT_closed : ∀ (t : Tr) (nm : Nm) (f : Int) (sc sc' : List Int), allT shLab t → (bndT t).Nodup → (∀ k ∈ bndT t, k ∉ sc) → (∀ k ∈ sc, ∃ v, nm k = some v ∧ v ∈ sc') → occT sc t = [] → occT sc' (rnT nm f t).1 = []
 | .mk o n b ks a, nm, f, sc, sc', hs, hn, hd, hm, ho => by
   simp only [bndT, List.nodup_append] at hn
   simp only [occT, List.append_eq_nil_iff] at ho
   have hks := rnTs_closed ks (nmAt o nm f b a).1 (nmAt o nm f b a).2 0 o b a (ren1 o nm f b).1 (rnTA (ren1 o nm f b).2.1 (ren1 o nm f b).2.2 a).1 sc sc' hs.2 hn.2.1
     (fun k hk => ⟨hd k (by simp only [bndT, List.mem_append]; exact .inr hk), fun h => hn.2.2 k h k hk rfl⟩)
     (fun k hk => by
       rw [nmAt_puts hs.1, putsN_other _ _ _ _ (fun h => hd k (by simp only [bndT, List.mem_append]; exact .inl h) hk)]
       exact hm k hk) (fun j k hk => nm_bound hs.1 hn.1 nm f j k hk) ho.2
   have hR : (rnT nm f (.mk o n b ks a)).1 = .mk o (if o = 0 then (nm n).getD n else n) (ren1 o nm f b).1 (rnTs (nmAt o nm f b a).1 (nmAt o nm f b a).2 ks).1 (rnTA (ren1 o nm f b).2.1 (ren1 o nm f b).2.2 a).1 := rfl
   rw [hR]
   simp only [occT, hks, List.append_nil]
   by_cases e0 : o = 0
   · subst e0
     have h1 : sc.contains n = true := by
       cases hc : sc.contains n with
       | true => rfl
       | false => have := ho.1; rw [if_pos ⟨rfl, hc⟩] at this; cases this
     obtain ⟨v, h2, h3⟩ := hm n (by simpa using h1)
     rw [if_neg]
     rintro ⟨_, h4⟩
     rw [if_pos rfl, h2] at h4
     simp only [Option.getD_some] at h4
     have : sc'.contains v = true := by simpa using h3
     rw [this] at h4; cases h4
   · rw [if_neg (fun h => e0 h.1)]
theorem rnTs_closed : ∀ (l : List Tr) (nm : Nm) (f : Int) (i : Nat) (o : Int) (b : List Int) (a : List Alt) (b' : List Int) (a' : List Alt) (sc sc' : List Int), allTs shLab l → (bndTs l).Nodup → (∀ k ∈ bndTs l, k ∉ sc ∧ k ∉ bindersN o b a) → (∀ k ∈ sc, ∃ v, nm k = some v ∧ v ∈ sc') →
   (∀ j k, k ∈ boundN o b a j → ∃ v, nm k = some v ∧ v ∈ boundN o b' a' j) → occTs sc o b a i l = [] → occTs sc' o b' a' i (rnTs nm f l).1 = []
 | [], _, _, _, _, _, _, _, _, _, _, _, _, _, _, _, _ => rfl
 | t :: l, nm, f, i, o, b, a, b', a', sc, sc', hs, hn, hd, hm, hb, ho => by
   simp only [bndTs, List.nodup_append] at hn
   simp only [occTs, List.append_eq_nil_iff] at ho
   have ht := rnT_closed t nm f (boundN o b a i ++ sc) (boundN o b' a' i ++ sc') hs.1 hn.1
     (fun k hk h => by
       have := hd k (by simp only [bndTs, List.mem_append]; exact .inl hk)
       rcases List.mem_append.1 h with h | h
       · exact this.2 (bound_sub h)
       · exact this.1 h)
     (fun k hk => by
       rcases List.mem_append.1 hk with h | h
       · obtain ⟨v, h1, h2⟩ := hb i k h
         exact ⟨v, h1, List.mem_append.2 (.inl h2)⟩
       · obtain ⟨v, h1, h2⟩ := hm k h
         exact ⟨v, h1, List.mem_append.2 (.inr h2)⟩) ho.1
   have hkeep : ∀ k, k ∈ sc ∨ k ∈ bindersN o b a → (rnT nm f t).2.1 k = nm k := fun k hk => rnT_keep k t nm f hs.1 fun h => by
     have := hd k (by simp only [bndTs, List.mem_append]; exact .inl h)
     rcases hk with hk | hk
     · exact this.1 hk
     · exact this.2 hk
   have hl := rnTs_closed l (rnT nm f t).2.1 (rnT nm f t).2.2 (i + 1) o b a b' a' sc sc' hs.2 hn.2.1 (fun k hk => hd k (by simp only [bndTs, List.mem_append]; exact .inr hk))
     (fun k hk => by rw [hkeep k (.inl hk)]; exact hm k hk) (fun j k hk => by rw [hkeep k (.inr (bound_sub hk))]; exact hb j k hk) ho.2
   simp only [rnTs, occTs, ht, hl]; rfl
end
end Go.CoreX
namespace Go.CoreX
def tl (a : Alt) : Int × Nat := (a.tag, a.binds.length)
theorem zip_any {α β : Type} (g : α → β) (f : β × Nat → Bool) : ∀ (l : List α) (i : Nat), (l.zipIdx i).any (fun x => f (g x.1, x.2)) = ((l.map g).zipIdx i).any f
 | [], i => rfl
 | x :: l, i => by simp only [List.zipIdx_cons, List.any_cons, List.map_cons, zip_any g f l (i + 1)]
def altBadP (op : Int) (L : List (Int × Nat)) (p : (Int × Nat) × Nat) : Bool :=
 ((L.take p.2).any (fun b => b.1 == p.1.1) || decide (p.1.1 < -1)) ||
 (op == 7 && p.1.1 == -1 && (decide ((p.2 : Int) < L.length - 1) || decide (0 < p.1.2))) ||
 ((op == 13 && !(((p.2 : Int) == 0) == (p.1.1 == -1))) || (op == 13 && !((p.1.2 : Int) == (if 2 < (p.2 : Int) + 1 then 2 else (p.2 : Int) + 1))))
theorem altBad_P (x : Ex) (i : Nat) (a : Alt) : altBad x i a = altBadP x.op (x.alts.map tl) (tl a, i) := by
 simp only [altBad, altBadP, tl, List.length_map, ← List.map_take, List.any_map, Function.comp_def]
 rfl
theorem altsOk_eq {x y : Ex} (ho : x.op = y.op) (hk : x.kids.length = y.kids.length) (ha : x.alts.map tl = y.alts.map tl) : altsOk x = altsOk y := by
 have hl : x.alts.length = y.alts.length := by simpa using congrArg List.length ha
 unfold altsOk
 have e : ∀ z : Ex, (z.alts.zipIdx.any fun ai => altBad z ai.2 ai.1) = (z.alts.map tl).zipIdx.any (altBadP z.op (z.alts.map tl)) := fun z => by
   rw [← zip_any tl]
   congr 1
   funext ai
   exact altBad_P z ai.2 ai.1
 rw [e x, e y, ha, ho, hk, hl]
theorem wants_eq {x y : Ex} (ho : x.op = y.op) (hk : x.kids.length = y.kids.length) (hb : x.binds.length = y.binds.length) (hn : x.op ≠ 0 → x.n = y.n) : wants x = wants y := by
 unfold wants
 rw [ho, hk, hb]
 by_cases e : y.op = 0
 · rw [if_pos (.inl e), if_pos (.inl e)]
 · rw [hn (by rw [ho]; exact e)]
theorem shape_eq {x y : Ex} (ho : x.op = y.op) (hk : x.kids.length = y.kids.length) (hb : x.binds.length = y.binds.length) (hn : x.op ≠ 0 → x.n = y.n) (ha : x.alts.map tl = y.alts.map tl) : shape x = shape y := by
 have hl : x.alts.length = y.alts.length := by simpa using congrArg List.length ha
 unfold shape
 rw [altsOk_eq ho hk ha, wants_eq ho hk hb hn, hb, hk, hl]
 by_cases e : y.op = 0
 · have e2 : x.op = 0 := by rw [ho]; exact e
   rw [if_neg (by omega), if_neg (by omega)]
   unfold wants
   rw [if_pos (.inl e)]
   simp
 · rw [ho, hn (by rw [ho]; exact e)]
theorem fields_eq {x y : Ex} (hb : x.binds.length = y.binds.length) (ha : x.alts.map tl = y.alts.map tl) : fields x = fields y := by
 have e : ∀ (l : List Alt) (c : Int), l.foldl (fun f a => if (a.binds.length : Int) > f then (a.binds.length : Int) else f) c = (l.map tl).foldl (fun f p => if (p.2 : Int) > f then (p.2 : Int) else f) c := fun l => by
   induction l with
   | nil => intro c; rfl
   | cons a l ih => intro c; simp only [List.foldl_cons, List.map_cons, ih, tl]
 unfold fields
 rw [e, e, ha, hb]
theorem altRange_of {op : Int} : ∀ {l r : List Alt}, l.map tl = r.map tl → l.all (altRange op) = true → (∀ a ∈ r, a.binds.all identOk = true) → r.all (altRange op) = true
 | [], [], _, _, _ => rfl
 | [], _ :: _, h, _, _ => by simp at h
 | _ :: _, [], h, _, _ => by simp at h
 | a :: l, b :: r, h, hl, hr => by
   simp only [List.map_cons, List.cons.injEq, tl, Prod.mk.injEq] at h
   simp only [List.all_cons, Bool.and_eq_true] at hl ⊢
   refine ⟨?_, altRange_of h.2 hl.2 fun c hc => hr c (by simp [hc])⟩
   have h1 := hl.1
   have h2 := hr b (by simp)
   unfold altRange at h1 ⊢
   simp only [Bool.and_eq_true] at h1 ⊢
   rw [← h.1.1]
   exact ⟨h1.1, h2⟩
theorem node_ren {e f : List Ex} {x y : Ex} (ho : x.op = y.op) (hk : x.kids.length = y.kids.length) (hb : x.binds.length = y.binds.length) (hn : x.op ≠ 0 → x.n = y.n) (hn0 : y.op = 0 → between y.n 0 1048575 = true) (ha : x.alts.map tl = y.alts.map tl)
   (hib : y.binds.all identOk = true) (hia : ∀ a ∈ y.alts, a.binds.all identOk = true) (h9 : x.op = 9 → y.binds = x.binds) (hko : ∀ i, i < x.kids.length → (e.getD (x.kids.getD i 0).toNat ⟨0, 0, [], [], []⟩).op = (f.getD (y.kids.getD i 0).toNat ⟨0, 0, [], [], []⟩).op)
   (h : nodeErrF false e x = 0) : nodeErrF false f y = 0 := by
 unfold nodeErrF at h ⊢
 rw [← ho]
 split at h
 · cases h
 · rename_i hfl
   rw [if_neg hfl]
   unfold nodeErr at h ⊢
   rw [← shape_eq ho hk hb hn ha]
   split at h
   · cases h
   · rename_i hsh
     rw [if_neg hsh]
     have hsh' : shape x = true := by simpa using hsh
     split at h
     · rename_i hr; exact absurd h hr
     · rename_i hr
       have hr' : ranges x = 0 := by simpa using hr
       have hry : ranges y = 0 := by
         unfold ranges at hr' ⊢
         split at hr'
         · cases hr'
         · rename_i r1
           split at hr'
           · cases hr'
           · split at hr'
             · cases hr'
             · rename_i r3
               have r1' : between y.n (lowN y.op) (highN y.op) = true := by
                 by_cases e0 : y.op = 0
                 · have := hn0 e0
                   rw [e0]; simpa [lowN, highN] using this
                 · rw [← ho, ← hn (by rw [ho]; exact e0)]
                   simpa using r1
               have r3' : y.alts.all (altRange y.op) = true := altRange_of ha (by rw [← ho]; simpa using r3) hia
               rw [if_neg (by simp [r1']), if_neg (by simp [hib]), if_neg (by simp [r3']), ← ho, ← fields_eq hb ha, ← hk]
               exact hr'
       rw [if_neg (by simp [hry])]
       split at h
       · cases h
       · rename_i hbb
         rw [if_neg]
         intro hbad
         obtain ⟨i, hi, hbi⟩ := List.any_eq_true.1 hbad
         refine hbb (List.any_eq_true.2 ⟨i, ?_, ?_⟩)
         · rw [hb]; exact hi
         · have hil : i < y.binds.length := by simpa using hi
           unfold bindBad at hbi ⊢
           rw [← ho] at hbi
           by_cases e5 : x.op = 5
           · have h5 := shape_rec' hsh' e5
             rw [hko i (by omega)]
             have e9 : ¬ x.op = 9 := by omega
             simp only [e5] at hbi ⊢
             simpa using hbi
           · by_cases e9 : x.op = 9
             · have hbx := h9 e9
               rw [hbx] at hbi
               simp only [e9] at hbi ⊢
               simpa using hbi
             · simp [e5, e9] at hbi
end Go.CoreX
namespace Go.CoreX
def pLab (l : Lab) : Prop := ∀ (e : List Ex) (x : Ex), (∀ k ∈ x.kids, 0 ≤ k ∧ k < (e.length : Int)) → labE e x = l → nodeErrF false e x = 0
def nmR (nm : Nm) : Prop := ∀ k v, nm k = some v → 0 ≤ v ∧ v ≤ 1048575
theorem nmR_set {nm : Nm} (h : nmR nm) (k : Int) {v : Int} (hv : 0 ≤ v ∧ v ≤ 1048575) : nmR (setN nm k v) := fun j u hu => by
 unfold setN at hu
 split at hu
 · cases hu; exact hv
 · exact h j u hu
theorem nmR_puts : ∀ (l r : List Int) {nm : Nm}, nmR nm → (∀ v ∈ r, 0 ≤ v ∧ v ≤ 1048575) → nmR (putsN nm l r)
 | [], _, _, h, _ => h
 | _ :: _, [], _, h, _ => h
 | x :: l, y :: r, nm, h, hr => nmR_puts l r (nmR_set h x (hr y (by simp))) fun v hv => hr v (by simp [hv])
theorem frB_mem {f v : Int} {l : List Int} (h : v ∈ frB f l) : f ≤ v ∧ v < f + l.length := by
 unfold frB at h
 obtain ⟨i, hi, rfl⟩ := List.mem_map.1 h
 have := List.mem_range.1 hi
 omega
theorem frB_rng {f : Int} {l : List Int} (h0 : 0 ≤ f) (h1 : f + l.length ≤ 1048576) : ∀ v ∈ frB f l, 0 ≤ v ∧ v ≤ 1048575 := fun v hv => by have := frB_mem hv; omega
theorem identOk_of {v : Int} (h : 0 ≤ v ∧ v ≤ 1048575) : identOk v = true := by simp [identOk, between]; omega
theorem rnTA_rng : ∀ (a : List Alt) (nm : Nm) (f : Int), 0 ≤ f → (rnTA nm f a).2.2 ≤ 1048576 → ∀ x ∈ (rnTA nm f a).1, ∀ v ∈ x.binds, 0 ≤ v ∧ v ≤ 1048575
 | [], _, _, _, _, x, hx => by simp [rnTA] at hx
 | y :: l, nm, f, h0, h1, x, hx => by
   have h2 := rnTA_f l (frN nm f y.binds) (f + y.binds.length)
   simp only [rnTA] at h1 hx
   rcases List.mem_cons.1 hx with rfl | hx
   · exact frB_rng h0 (by omega)
   · exact rnTA_rng l _ _ (by omega) h1 x hx
theorem rnTA_tl : ∀ (a : List Alt) (nm : Nm) (f : Int), (rnTA nm f a).1.map tl = a.map tl
 | [], _, _ => rfl
 | x :: l, nm, f => by simp only [rnTA, List.map_cons, rnTA_tl l, tl, frB_len]
theorem node_rng {e : List Ex} {x : Ex} (h : nodeErrF false e x = 0) : between x.n (lowN x.op) (highN x.op) = true ∧ x.binds.all identOk = true ∧ x.alts.all (altRange x.op) = true := by
 unfold nodeErrF at h
 split at h
 · cases h
 · unfold nodeErr at h
   split at h
   · cases h
   · split at h
     · rename_i hr; exact absurd h hr
     · rename_i hr
       have hr' : ranges x = 0 := by simpa using hr
       unfold ranges at hr'
       split at hr'
       · cases hr'
       · rename_i r1
         split at hr'
         · cases hr'
         · rename_i r2
           split at hr'
           · cases hr'
           · rename_i r3
             exact ⟨by simpa using r1, by simpa using r2, by simpa using r3⟩
mutual
theorem rnT_good : ∀ (t : Tr) (nm : Nm) (f : Int), allT pLab t → allT shLab t → nmR nm → 0 ≤ f → (rnT nm f t).2.2 ≤ 1048576 → allT pLab (rnT nm f t).1 ∧ nmR (rnT nm f t).2.1
 | .mk o n b ks a, nm, f, hp, hs, hm, h0, h1 => by
   have hf1 := ren1_f' o nm f b
   have hf1e := ren1_f o nm f b
   have hf2 := rnTA_f a (ren1 o nm f b).2.1 (ren1 o nm f b).2.2
   have hf3 := rnTs_f ks (nmAt o nm f b a).1 (nmAt o nm f b a).2
   have h1' : (rnTs (nmAt o nm f b a).1 (nmAt o nm f b a).2 ks).2.2 ≤ 1048576 := h1
   have hn2 : (nmAt o nm f b a).2 = (rnTA (ren1 o nm f b).2.1 (ren1 o nm f b).2.2 a).2.2 := rfl
   have hb' : ∀ v ∈ (if o = 2 ∨ o = 4 ∨ o = 5 then (ren1 o nm f b).1 else []), 0 ≤ v ∧ v ≤ 1048575 := fun v hv => by
     split at hv
     · rename_i e
       have e9 : o ≠ 9 := by omega
       unfold ren1 at hv
       rw [if_neg e9] at hv
       rw [if_neg e9] at hf1e
       exact frB_rng h0 (by omega) v hv
     · simp at hv
   have ha' := rnTA_rng a (ren1 o nm f b).2.1 (ren1 o nm f b).2.2 (by omega) (by omega)
   have hm1 : nmR (nmAt o nm f b a).1 := by
     rw [nmAt_puts hs.1]
     refine nmR_puts _ _ hm fun v hv => ?_
     unfold bindersN at hv
     rcases List.mem_append.1 hv with hv | hv
     · exact hb' v hv
     · obtain ⟨x, hx, hvx⟩ := List.mem_flatMap.1 hv
       exact ha' x hx v hvx
   obtain ⟨hk1, hk2⟩ := rnTs_good ks (nmAt o nm f b a).1 (nmAt o nm f b a).2 hp.2 hs.2 hm1 (by omega) h1'
   refine ⟨⟨?_, hk1⟩, hk2⟩
   intro g y hyk hyl
   have hyl' : labE g y = ⟨o, if o = 0 then (nm n).getD n else n, (ren1 o nm f b).1, (rnTs (nmAt o nm f b a).1 (nmAt o nm f b a).2 ks).1.map Tr.op, (rnTA (ren1 o nm f b).2.1 (ren1 o nm f b).2.2 a).1⟩ := hyl
   rw [rnTs_ops] at hyl'
   simp only [labE, Lab.mk.injEq] at hyl'
   obtain ⟨yo, yn, yb, yk, ya⟩ := hyl'
   have hx : nodeErrF false g ⟨y.op, n, b, y.kids, a⟩ = 0 := by
     refine hp.1 g _ hyk ?_
     simp only [labE, yo, yk]
   obtain ⟨x1, x2, x3⟩ := node_rng hx
   refine node_ren (e := g) (x := ⟨y.op, n, b, y.kids, a⟩) rfl rfl (by rw [yb, ren1_len]) (fun h => ?_) (fun h => ?_) (by rw [ya, rnTA_tl]) ?_ (fun z hz => ?_) (fun h => ?_) (fun i hi => rfl) hx
   · simp only at h ⊢
     rw [yn, if_neg (by rw [← yo]; exact h)]
   · have e0 : o = 0 := by rw [← yo]; exact h
     rw [yn, if_pos e0]
     cases hnm : nm n with
     | none =>
       simp only [yo, e0, lowN, highN] at x1
       simpa using x1
     | some v =>
       have := hm n v hnm
       simp [between]; omega
   · rw [yb, List.all_eq_true]
     intro v hv
     by_cases e9 : o = 9
     · unfold ren1 at hv
       rw [if_pos e9] at hv
       exact List.all_eq_true.1 x2 v hv
     · unfold ren1 at hv
       rw [if_neg e9] at hv
       rw [if_neg e9] at hf1e
       exact identOk_of (frB_rng h0 (by omega) v hv)
   · rw [ya] at hz
     rw [List.all_eq_true]
     exact fun v hv => identOk_of (ha' z hz v hv)
   · have e9 : o = 9 := by rw [← yo]; exact h
     rw [yb]
     unfold ren1
     rw [if_pos e9]
theorem rnTs_good : ∀ (l : List Tr) (nm : Nm) (f : Int), allTs pLab l → allTs shLab l → nmR nm → 0 ≤ f → (rnTs nm f l).2.2 ≤ 1048576 → allTs pLab (rnTs nm f l).1 ∧ nmR (rnTs nm f l).2.1
 | [], nm, f, _, _, hm, _, _ => ⟨trivial, hm⟩
 | t :: l, nm, f, hp, hs, hm, h0, h1 => by
   have hf := rnT_f t nm f
   have hf2 := rnTs_f l (rnT nm f t).2.1 (rnT nm f t).2.2
   simp only [rnTs] at h1 ⊢
   obtain ⟨a1, a2⟩ := rnT_good t nm f hp.1 hs.1 hm h0 (by omega)
   obtain ⟨b1, b2⟩ := rnTs_good l _ _ hp.2 hs.2 a2 (by omega) h1
   exact ⟨⟨a1, b1⟩, b2⟩
end
theorem sum0 {α : Type} {f : α → Int} : ∀ {l : List α}, (∀ x ∈ l, 0 ≤ f x) → (l.map f).sum = 0 → ∀ x ∈ l, f x = 0
 | [], _, _, x, hx => by simp at hx
 | y :: l, h, hs, x, hx => by
   have h1 := h y (by simp)
   have h2 : ∀ z ∈ l, 0 ≤ f z := fun z hz => h z (by simp [hz])
   have h3 : 0 ≤ (l.map f).sum := by
     clear h h1 hs hx
     induction l with
     | nil => simp
     | cons z l ih =>
       have := h2 z (by simp)
       have := ih fun y hy => h2 y (by simp [hy])
       simp only [List.map_cons, List.sum_cons]; omega
   simp only [List.map_cons, List.sum_cons] at hs
   rcases List.mem_cons.1 hx with rfl | hx
   · omega
   · exact sum0 h2 (by omega) x hx
open Classical in
mutual
theorem sum_all {p : Lab → Prop} : ∀ t : Tr, allT p t → sumT (fun l => if p l then 0 else 1) t = 0
 | .mk o n b k a, h => by
   simp only [sumT, sum_alls k h.2]
   rw [if_pos h.1]; rfl
theorem sum_alls {p : Lab → Prop} : ∀ l : List Tr, allTs p l → sumTs (fun l => if p l then 0 else 1) l = 0
 | [], _ => rfl
 | t :: l, h => by simp only [sumTs, sum_all t h.1, sum_alls l h.2]; rfl
end
open Classical in
theorem allT_labs {p : Lab → Prop} {g : List Ex} (h : IsTree g) (ha : allT p (grow g)) : ∀ l ∈ labs g, p l := by
 have h1 := sum_tree (fun l => if p l then (0 : Int) else 1) h
 rw [sum_all _ ha] at h1
 intro l hl
 have := sum0 (fun x _ => by split <;> omega) h1 l hl
 split at this
 · assumption
 · cases this
theorem check_parts {e : List Ex} (h : check e = 0) : treeErr e = 0 ∧ (∀ x ∈ e, nodeErrF false e x = 0) ∧ (allBinders e).Nodup ∧ occT [] (grow e) = [] := by
 unfold check body at h
 by_cases h1 : treeErr e = 0
 · rw [if_neg (by simpa using h1)] at h
   by_cases h2 : firstErr (nodeErrF false e) e = 0
   · rw [if_neg (by simpa using h2)] at h
     by_cases h3 : hasDup ([] ++ allBinders e) = true
     · rw [if_pos h3] at h; cases h
     · rw [if_neg h3] at h
       have h3' := (hasDup_false _).1 (by simpa using h3)
       refine ⟨h1, (firstErr_zero _ _).1 h2, by simpa using h3', ?_⟩
       by_cases h4 : (freeOf (grow e)).all (fun n => ([] : List Int).contains n) = true
       · have h5 : freeOf (grow e) = [] := by
           cases hf : freeOf (grow e) with
           | nil => rfl
           | cons n l => rw [hf] at h4; simp at h4
         unfold freeOf at h5
         cases ho : occT [] (grow e) with
         | nil => rfl
         | cons n l =>
           have := (sortS_mem n (n :: l)).2 (by simp)
           rw [← ho, h5] at this
           simp at this
       · rw [if_neg h4] at h; cases h
   · rw [if_pos (by simpa using h2)] at h; exact absurd h h2
 · rw [if_pos h1] at h; exact absurd h h1
theorem check_of {e : List Ex} (h1 : treeErr e = 0) (h2 : ∀ x ∈ e, nodeErrF false e x = 0) (h3 : (allBinders e).Nodup) (h4 : occT [] (grow e) = []) : check e = 0 := by
 unfold check body
 rw [if_neg (by simpa using h1), if_neg (by simpa using (firstErr_zero _ _).2 h2), if_neg (by rw [(hasDup_false _).2 (by simpa using h3)]; simp), if_pos]
 unfold freeOf
 rw [h4]; rfl
mutual
theorem bnd_count (k : Int) : ∀ t : Tr, (((bndT t).count k : Nat) : Int) = sumT (cntB k) t
 | .mk o n b ks a => by
   simp only [bndT, sumT, cntB, List.count_append, ← bnds_count k ks]; push_cast; rfl
theorem bnds_count (k : Int) : ∀ l : List Tr, (((bndTs l).count k : Nat) : Int) = sumTs (cntB k) l
 | [] => rfl
 | t :: l => by simp only [bndTs, sumTs, List.count_append, ← bnd_count k t, ← bnds_count k l]; push_cast; rfl
end
theorem bnd_nodup {e : List Ex} (h : check e = 0) : (bndT (grow e)).Nodup := by
 obtain ⟨_, _, h3, _⟩ := check_parts h
 have t1 := body_isTree h
 rw [List.nodup_iff_count] at h3 ⊢
 intro k
 have h4 := h3 k
 have h5 := bnd_count k (grow e)
 rw [← sum_tree _ t1] at h5
 have h6 : (((allBinders e).count k : Nat) : Int) = ((labs e).map (cntB k)).sum := by rw [allBinders_labs, count_flat]; rfl
 omega
theorem check_pLab {e : List Ex} (h : check e = 0) : allT pLab (grow e) := by
 obtain ⟨_, h2, _, _⟩ := check_parts h
 have t1 := body_isTree h
 refine allT_grow t1 fun x hx g y hy hl => ?_
 rw [nodeErrF_lab hy (kids_lt t1.k hx) hl]
 exact h2 x hx
abbrev nmN : Nm := fun _ => none
theorem check_rn {e : List Ex} (h : check e = 0) {f : Int} (h0 : 0 ≤ f) (h1 : (rnT nmN f (grow e)).2.2 ≤ 1048576) : check (listT [] (rnT nmN f (grow e)).1) = 0 := by
 have hsh := check_shape h
 obtain ⟨p1, _, _, p4⟩ := check_parts h
 obtain ⟨q1, q2, q3⟩ := (treeErr_iff e).1 p1
 have t2 := isTree_list (rnT nmN f (grow e)).1
 have hg : ∀ T : Tr, grow (listT [] T) = T := grow_list
 refine check_of ?_ ?_ ?_ ?_
 · refine (treeErr_iff _).2 ⟨?_, t2, ?_⟩
   · have h5 := cntN_list (rnT nmN f (grow e)).1 []
     have h6 := cntN_list (grow e) []
     have h7 := len_list h
     rw [rnT_cnt] at h5
     simp only [List.length_nil] at h5 h6
     omega
   · rw [hg, rnT_depth]; exact q3
 · intro y hy
   have hp := (rnT_good (grow e) nmN f (check_pLab h) hsh (fun k v hv => by cases hv) h0 h1).1
   have := allT_labs t2 (by rw [hg]; exact hp) _ (List.mem_map_of_mem (f := labE (listT [] (rnT nmN f (grow e)).1)) hy)
   exact this _ y (kids_lt t2.k hy) rfl
 · exact rn_nodup hsh nmN f
 · rw [hg]
   exact rnT_closed (grow e) nmN f [] [] hsh (bnd_nodup h) (fun k hk h => by simp at h) (fun k hk => by simp at hk) p4
end Go.CoreX
namespace Go.Proofs.YtgdionbeeodaaaaDoor
open Go Go.Abs Go.CoreX
variable {Γ : List (Nat × List AC)}
end Go.Proofs.YtgdionbeeodaaaaDoor
