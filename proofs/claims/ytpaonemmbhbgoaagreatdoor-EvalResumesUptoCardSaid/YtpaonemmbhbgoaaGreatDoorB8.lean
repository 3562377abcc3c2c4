/- Grow, walked. -/
import Derived.Test.YtpaonemmbhbgoaaGreatDoorB7
import Derived.Shelf.Sort.Plain
import Derived.Shelf.Slices.In.SortNone
set_option maxRecDepth 10000
set_option linter.unusedVariables false
set_option linter.unusedSimpArgs false
namespace Go.Proofs.YtpaonemmbhbgoaaGreatDoor
open Go Go.Abs Go.CoreX
variable {Γ : List (Nat × List AC)}
@[simp] theorem ids_takeA (p : Abs.Id → Prop) (n : Nat) (l : List Alt) : idsS p (List.take n (l.map cAlt)) := by rw [← List.map_take]; exact ids_cAlts p _
@[simp] theorem ids_takeI (p : Abs.Id → Prop) (n : Nat) (l : List Int) : idsS p (List.take n (l.map cI)) := by rw [← List.map_take]; exact ids_cIs p _
@[simp] theorem renS_nil (ρ : Nat → Nat) : renS ρ [] = [] := rfl
def nodesC (ts : List Tr) (n : Nat) : List AC := ts.map (fun t => .box (cTr t)) ++ List.replicate (n - ts.length) (.lit (.pointer none))
theorem nodesC_nil (n : Nat) : nodesC [] n = List.replicate n (.lit (.pointer none)) := by simp [nodesC]
theorem nodesC_len {ts : List Tr} {n : Nat} (h : ts.length ≤ n) : (nodesC ts n).length = n := by simp [nodesC]; omega
theorem nodesC_get {ts : List Tr} {n k : Nat} {t : Tr} (h : ts[k]? = some t) : (nodesC ts n)[k]? = some (.box (cTr t)) := by
 have hk := (List.getElem?_eq_some_iff.1 h).1
 unfold nodesC
 rw [List.getElem?_append_left (by simpa using hk)]
 simp [h]
theorem nodesC_set {ts : List Tr} {n : Nat} (h : ts.length < n) (t : Tr) : (nodesC ts n).set ts.length (.box (cTr t)) = nodesC (ts ++ [t]) n := by
 unfold nodesC
 rw [List.set_append_right _ _ (by simp)]
 simp only [List.length_map, Nat.sub_self, List.map_append, List.map_cons, List.map_nil, List.append_assoc, List.length_append, List.length_singleton]
 congr 1
 rw [show n - ts.length = (n - (ts.length + 1)) + 1 by omega, List.replicate_succ]
 rfl
theorem ids_boxes (p : Abs.Id → Prop) : ∀ ts : List Tr, idsL p (ts.map fun t => AC.box (cTr t))
 | [] => by simp
 | t :: ts => by simp [ids_boxes p ts]
theorem idsL_app {p : Abs.Id → Prop} : ∀ {a b : List AC}, idsL p a → idsL p b → idsL p (a ++ b)
 | [], _, _, h => h
 | _ :: _, _, h, k => ⟨h.1, idsL_app h.2 k⟩
@[simp] theorem ids_nodesC (p : Abs.Id → Prop) (ts : List Tr) (n : Nat) : idsL p (nodesC ts n) := idsL_app (ids_boxes p ts) (ids_zs p _ _)
def kidsT (ts : List Tr) (ks : List Int) : List Tr := ks.map fun k => ts.getD k.toNat default
theorem kidsT_succ {ts : List Tr} {ks : List Int} {i : Nat} {k : Int} (h : ks[i]? = some k) : kidsT ts (ks.take (i + 1)) = kidsT ts (ks.take i) ++ [ts.getD k.toNat default] := by
 simp [kidsT, List.take_add_one, h]
theorem nodeOf_eq (ts : List Tr) (x : Ex) : nodeOf ts x = .mk x.op x.n x.binds (kidsT ts x.kids) x.alts := rfl
theorem take_get {α : Type} {l : List α} {j : Nat} {a : α} (h : l[j]? = some a) : l.take (j + 1) = l.take j ++ [a] := by rw [List.take_add_one, h]; rfl
set_option maxHeartbeats 1000000 in
theorem Grow_ok (hΓ : ∀ g cs, (g, cs) ∈ Γ → idsL isO cs) (e : List Ex) (he : okE e) (hin : kidsIn e) (hne : e ≠ []) : APure Tryz.prog Γ 54 [.one (.sl 5 (e.map cEx))] (.one (.box (cTr (grow e)))) := by
 have hel := he.l
 intro ou
 refine AFn.walk 85 tabOk Tryz.func54 rfl (by kernel_rfl) rfl rfl fun hou => ?_
 refine zA ?_
 have hb : ti81.bytes * (e.map cEx).length ≤ 281474976710656 := by simp; show 8 * _ ≤ _; omega
 have hb2 : (e.map cEx).length ≤ 281474976710656 := by simp; omega
 refine AOps.step1 rfl rfl rfl (AStep.makeArr tabOk rfl rfl rfl rfl rfl rfl rfl rfl hb hb2) ?_
 refine zA ?_
 refine ACode.loopR hΓ (α := Nat) (fun j => [(16, .one (int j)), (15, .one (int (e.map cEx).length)), (14, .one (.sl 5 (e.map cEx))), (3, .one (.arr (.l 0) 1 0 (e.map cEx).length (e.map cEx).length)), (0, .one (.sl 5 (e.map cEx)))])
   (fun j => ⟨1, [(0, .cells (nodesC (growL (e.take j)) (e.map cEx).length))], ou⟩) (fun m j => j ≤ e.length ∧ m = e.length - j) (a0 := 0) (ρ := id) ⟨by omega, rfl⟩
   (LessR.of rfl (by (repeat' first | exact FrSub.nil | refine zfc ?_ | refine zfo ?_ | refine zfp ?_)) (by simp) (LoSub.cons rfl (by rw [AObj.ren_pure _ _ (by simp)]; show AObj.cells (List.replicate _ _) = AObj.cells (nodesC [] _); rw [nodesC_nil]) rfl (by simp) .nil) rfl rfl hou) fun m j hj => ?_
 obtain ⟨hjl, rfl⟩ := hj
 refine zA ?_
 refine ACode.cond rfl (fun hb2 => ?_) (fun hb2 => ?_)
 · have hlt : j < e.length := by simpa using hb2
   obtain ⟨x, hx⟩ := get_of_lt hlt
   have hxo := he.x x (List.mem_of_getElem? hx)
   have hxk := hxo.k
   have hxa := hxo.a
   have hxin := hin j x hx
   have hgl : (growL (e.take j)).length = j := by rw [growL_len]; simp; omega
   refine zA ?_
   refine AOps.step1 rfl rfl rfl (AStep.indexAddr tabOk rfl rfl rfl rfl rfl rfl (.inl rfl) rfl (by omega) (map_get hx)) ?_
   refine zA ?_
   have hcl := Clone_ok (Γ := Γ) x.binds hxo.b
   refine ACode.drawXH (va := .one (.ptr (.l 2) 0)) (σ1 := (((St.mk 1 [(0, .cells (nodesC (growL (e.take j)) (e.map cEx).length))] ou).push (.cells (ti57.zero.map .lit))).set (.l 1) (.cells (cEx x))).push (.cells [int x.op, int x.n, .sl 1 (x.binds.map cI), .lit (.slice none 0 0), .lit (.slice none 0 0)]))
     tabOk 9 8 [(6, .one (.sl 1 (x.binds.map cI)))] follows (by kernel_rfl) rfl rfl rfl rfl rfl rfl rfl (HStep.auto tabOk rfl) ?_ ?_ ?_
   · exact .call hΓ hcl hou (by simp) rfl rfl rfl rfl rfl rfl .nil
   · exact .call hΓ hcl hou (by simp) rfl rfl rfl rfl rfl rfl .nil
   refine zA ?_
   refine ACode.grow 2 3 81 1 rfl rfl ?_
   refine ACode.loopR hΓ (α := Nat) (fun i => [(33, .one (int i)), (32, .one (int (x.kids.map cI).length)), (31, .one (.sl 1 (x.kids.map cI))), (6, .one (.ptr (.l 2) 0)), (5, .one (.ptr (.l 1) 0)), (4, .one (int j)), (16, .one (int j)), (15, .one (int (e.map cEx).length)), (14, .one (.sl 5 (e.map cEx))), (3, .one (.arr (.l 0) 1 0 (e.map cEx).length (e.map cEx).length)), (0, .one (.sl 5 (e.map cEx)))])
     (fun i => ⟨4, [(3, .tok 81 1 i), (2, .cells [int x.op, int x.n, .sl 1 (x.binds.map cI), .gs 1 ((kidsT (growL (e.take j)) (x.kids.take i)).map cB) (.l 3), .lit (.slice none 0 0)]), (1, .cells (cEx x)), (0, .cells (nodesC (growL (e.take j)) (e.map cEx).length))], ou⟩)
     (fun m i => i ≤ x.kids.length ∧ m = x.kids.length - i) (a0 := 0) (ρ := id) ⟨by omega, rfl⟩ (LessR.of rfl (by (repeat' first | exact FrSub.nil | refine zfc ?_ | refine zfo ?_ | refine zfp ?_)) (by simp) ?_ rfl rfl hou) fun m i hi => ?_
   · repeat' first | exact LoSub.nil | refine zlc ?_ | refine zld ?_ ?_ | rfl
     all_goals (simp [AObj.ren, renL, AC.ren, kidsT]; rfl)
   obtain ⟨hil, rfl⟩ := hi
   refine zA ?_
   refine ACode.cond rfl (fun hb3 => ?_) (fun hb3 => ?_)
   · have hlt2 : i < x.kids.length := by simpa using hb3
     obtain ⟨k, hk⟩ := get_of_lt hlt2
     have hkb := hxin k (List.mem_of_getElem? hk)
     obtain ⟨k', rfl⟩ : ∃ k' : Nat, k = k' := ⟨k.toNat, by omega⟩
     obtain ⟨tk, htk⟩ := get_of_lt (l := growL (e.take j)) (i := k') (by omega)
     have htd : (growL (e.take j)).getD (k' : Int).toNat default = tk := by rw [Int.toNat_natCast, List.getD_eq_getElem?_getD, htk]; rfl
     have hks := kidsT_succ (ts := growL (e.take j)) hk
     rw [htd] at hks
     have hkl : ((kidsT (growL (e.take j)) (x.kids.take i)).map cB).length = i := by simp [kidsT]; omega
     refine zA ?_
     refine AOps.step1 rfl rfl rfl (AStep.indexAddr tabOk rfl rfl rfl rfl rfl rfl (.inl rfl) rfl (by omega) (map_get hk)) ?_
     refine zA ?_
     refine ACode.drawXH (va := .one (.gs 1 ((kidsT (growL (e.take j)) (x.kids.take i)).map cB ++ [cB tk]) (.l 4))) (σ1 := ((St.mk 4 [(3, .tok 81 1 i), (2, .cells [int x.op, int x.n, .sl 1 (x.binds.map cI), .gs 1 ((kidsT (growL (e.take j)) (x.kids.take i)).map cB) (.l 3), .lit (.slice none 0 0)]), (1, .cells (cEx x)), (0, .cells (nodesC (growL (e.take j)) (e.map cEx).length))] ou).set (.l 3) .dead).push (.tok 81 1 ((kidsT (growL (e.take j)) (x.kids.take i)).map cB ++ [cB tk]).length))
       tabOk 11 10 [(7, .one (.ptr (.l 0) k')), (8, .one (.box (cTr tk)))] follows (by kernel_rfl) rfl rfl rfl rfl rfl rfl rfl ?_ ?_ ?_ ?_
     · refine HStep.plain rfl (AStep.append (s := 1) (es := (kidsT (growL (e.take j)) (x.kids.take i)).map cB) (news := [cB tk]) (ti := ti103) (σ := ⟨4, [(3, .tok 81 1 i), (2, .cells [int x.op, int x.n, .sl 1 (x.binds.map cI), .gs 1 ((kidsT (growL (e.take j)) (x.kids.take i)).map cB) (.l 3), .lit (.slice none 0 0)]), (1, .cells (cEx x)), (0, .cells (nodesC (growL (e.take j)) (e.map cEx).length))], ou⟩) tabOk rfl rfl rfl rfl rfl rfl (Base.gs' _ 81 1 ((kidsT (growL (e.take j)) (x.kids.take i)).map cB) (.l 3) rfl hkl.symm) (.sl _ _) rfl ?_ ?_)
       · rw [hkl]; show (i + 1) * 8 ≤ _; omega
       · rw [hkl]; show i + 1 ≤ _; omega
     · refine .step rfl (HStep.plain rfl (idxI tabOk rfl rfl rfl rfl rfl rfl rfl (by simp; omega))) ?_
       exact .step rfl (HStep.plain rfl (AStep.loadOwn tabOk rfl rfl rfl rfl rfl rfl (nodesC_get htk))) .nil
     · refine .step rfl (HStep.plain rfl (idxI tabOk rfl rfl rfl rfl rfl rfl rfl (by simp; omega))) ?_
       exact .step rfl (HStep.plain rfl (AStep.loadOwn tabOk rfl rfl rfl rfl rfl rfl (nodesC_get htk))) .nil
     refine zM ?_
     refine cInv ⟨x.kids.length - (i + 1), i + 1, fun k => if k = 3 then 4 else k, by omega, ⟨by omega, rfl⟩, LessR.of rfl (by (repeat' first | exact FrSub.nil | refine zfc ?_ | refine zfo ?_ | refine zfp ?_)) (by simp) ?_ rfl rfl hou⟩
     repeat' first | exact LoSub.nil | refine zlc ?_ | refine zld ?_ ?_ | rfl
     · simp only [AObj.ren, List.length_append, hkl]; rfl
     · rw [hks]; simp only [AObj.ren, renL, AC.ren, ren_cIs, ren_cBs]; rw [List.map_append]; rfl
   have hlt2 : i = x.kids.length := by simp at hb3; omega
   subst hlt2
   rw [List.take_length]
   refine zA ?_
   refine ACode.grow 2 4 46 2 rfl rfl ?_
   refine ACode.loopR hΓ (α := Nat) (fun i => [(54, .one (int i)), (53, .one (int (x.alts.map cAlt).length)), (52, .one (.sl 2 (x.alts.map cAlt))), (6, .one (.ptr (.l 2) 0)), (4, .one (int j)), (16, .one (int j)), (15, .one (int (e.map cEx).length)), (14, .one (.sl 5 (e.map cEx))), (3, .one (.arr (.l 0) 1 0 (e.map cEx).length (e.map cEx).length)), (0, .one (.sl 5 (e.map cEx)))])
     (fun i => ⟨5, [(4, .tok 46 2 i), (2, .cells [int x.op, int x.n, .sl 1 (x.binds.map cI), .gs 1 ((kidsT (growL (e.take j)) x.kids).map cB) (.l 3), .gs 2 ((x.alts.take i).map cAlt) (.l 4)]), (0, .cells (nodesC (growL (e.take j)) (e.map cEx).length))], ou⟩)
     (fun m i => i ≤ x.alts.length ∧ m = x.alts.length - i) (a0 := 0) (ρ := id) ⟨by omega, rfl⟩ (LessR.of rfl (by (repeat' first | exact FrSub.nil | refine zfc ?_ | refine zfo ?_ | refine zfp ?_)) (by simp) ?_ rfl rfl hou) fun m i hi => ?_
   · repeat' first | exact LoSub.nil | refine zlc ?_ | refine zld ?_ ?_ | rfl
     all_goals (simp [AObj.ren, renL, AC.ren]; exact ⟨rfl, rfl⟩)
   obtain ⟨hil, rfl⟩ := hi
   refine zA ?_
   refine ACode.cond rfl (fun hb3 => ?_) (fun hb3 => ?_)
   · have hlt2 : i < x.alts.length := by simpa using hb3
     obtain ⟨a, ha⟩ := get_of_lt hlt2
     have hal : ((x.alts.take i).map cAlt).length = i := by simp; omega
     have hca := Clone_ok (Γ := Γ) a.binds (hxo.ab a (List.mem_of_getElem? ha))
     refine zA ?_
     refine AOps.step1 rfl rfl rfl (AStep.indexAddr tabOk rfl rfl rfl rfl rfl rfl (.inl rfl) rfl (by omega) (map_get ha)) ?_
     refine zA ?_
     refine ACode.drawXH (va := .one (.gs 2 ((x.alts.take i).map cAlt ++ [cAlt a]) (.l 6))) (σ1 := ((((St.mk 5 [(4, .tok 46 2 i), (2, .cells [int x.op, int x.n, .sl 1 (x.binds.map cI), .gs 1 ((kidsT (growL (e.take j)) x.kids).map cB) (.l 3), .gs 2 ((x.alts.take i).map cAlt) (.l 4)]), (0, .cells (nodesC (growL (e.take j)) (e.map cEx).length))] ou).push (.cells (ti46.zero.map .lit))).set (.l 5) (.cells (cAlt a))).set (.l 4) .dead).push (.tok 46 2 ((x.alts.take i).map cAlt ++ [cAlt a]).length))
       tabOk 13 12 [(9, .one (.sl 1 (a.binds.map cI)))] follows (by kernel_rfl) rfl rfl rfl rfl rfl rfl rfl ?_ ?_ ?_ ?_
     · refine HStep.plain rfl (AStep.append (s := 2) (es := (x.alts.take i).map cAlt) (news := [cAlt a]) (ti := ti47) (σ := (((St.mk 5 [(4, .tok 46 2 i), (2, .cells [int x.op, int x.n, .sl 1 (x.binds.map cI), .gs 1 ((kidsT (growL (e.take j)) x.kids).map cB) (.l 3), .gs 2 ((x.alts.take i).map cAlt) (.l 4)]), (0, .cells (nodesC (growL (e.take j)) (e.map cEx).length))] ou).push (.cells (ti46.zero.map .lit))).set (.l 5) (.cells (cAlt a)))) tabOk rfl rfl rfl rfl rfl rfl (Base.gs' _ 46 2 ((x.alts.take i).map cAlt) (.l 4) rfl hal.symm) (.sl _ _) rfl ?_ ?_)
       · rw [hal]; show (i + 1) * 32 ≤ _; omega
       · rw [hal]; show i + 1 ≤ _; omega
     · exact .call hΓ hca hou (by simp) rfl rfl rfl rfl rfl rfl .nil
     · exact .call hΓ hca hou (by simp) rfl rfl rfl rfl rfl rfl .nil
     refine zM ?_
     refine cInv ⟨x.alts.length - (i + 1), i + 1, fun k => if k = 4 then 6 else k, by omega, ⟨by omega, rfl⟩, LessR.of rfl (by (repeat' first | exact FrSub.nil | refine zfc ?_ | refine zfo ?_ | refine zfp ?_)) (by simp) ?_ rfl rfl hou⟩
     repeat' first | exact LoSub.nil | refine zlc ?_ | refine zld ?_ ?_ | rfl
     · simp only [AObj.ren, List.length_append, hal]; rfl
     · rw [take_get ha]; simp only [AObj.ren, renL, AC.ren, ren_cIs, ren_cBs, ren_cAlts]; rw [List.map_append]; rfl
   have hlt2 : i = x.alts.length := by simp at hb3; omega
   subst hlt2
   rw [List.take_length]
   refine zA ?_
   refine AOps.step1 rfl rfl rfl (idxI tabOk rfl rfl rfl rfl rfl rfl rfl (by simp; omega)) ?_
   refine AOps.freeze1 (.l 2) 76 rfl rfl ?_
   refine AOps.wk 76 rfl (y := .one (.box (cTr (nodeOf (growL (e.take j)) x)))) (.one (Wk.box ?_)) ?_
   · rw [nodeOf_eq]
     exact .cons (.refl _) (.cons (.refl _) (.cons (.refl _) (.cons (.gsE (encTrs_eq _).symm) (.cons (.gsE rfl) .nil))))
   refine AOps.storeOwn tabOk rfl rfl rfl rfl rfl rfl rfl rfl (by rw [nodesC_len (by simp [hgl]; omega)]; simp; omega) ?_
   have hst := nodesC_set (ts := growL (e.take j)) (n := (e.map cEx).length) (by simp [hgl]; omega) (nodeOf (growL (e.take j)) x)
   rw [hgl, ← growL_snoc, ← take_get hx] at hst
   rw [hst]
   refine zM ?_
   exact cInv ⟨e.length - (j + 1), j + 1, id, by omega, ⟨by omega, rfl⟩, LessR.of rfl (by (repeat' first | exact FrSub.nil | refine zfc ?_ | refine zfo ?_ | refine zfp ?_)) (by simp) (by repeat' first | exact LoSub.nil | refine zlc ?_ | refine zld ?_ ?_ | rfl) rfl rfl hou⟩
 · have hlt : j = e.length := by simp at hb2; omega
   subst hlt
   rw [List.take_length]
   obtain ⟨N, hN⟩ : ∃ N, e.length = N + 1 := ⟨e.length - 1, by have := List.length_pos_iff.2 hne; omega⟩
   obtain ⟨t, ht⟩ := get_of_lt (l := growL e) (i := N) (by rw [growL_len]; omega)
   have hgt : grow e = t := by unfold grow; rw [hN, Nat.add_sub_cancel, List.getD_eq_getElem?_getD, ht]; rfl
   refine zM ?_
   refine AOps.wk 82 rfl (y := .one (int (N : Nat))) (.ofEq (by congr 3; simp; omega)) ?_
   refine AOps.step1 rfl rfl rfl (idxI tabOk rfl rfl rfl rfl rfl rfl rfl (by simp; omega)) ?_
   refine AOps.step1 rfl rfl rfl (AStep.loadOwn tabOk rfl rfl rfl rfl rfl rfl (nodesC_get ht)) ?_
   refine zA ?_
   refine APure.fin rfl (WkF.ofEq ?_) (by simp) hou rfl
   rw [hgt]
end Go.Proofs.YtpaonemmbhbgoaaGreatDoor
namespace Go.CoreX
theorem listTs_snoc (t : Tr) : ∀ (l : List Tr) (out : List Ex), listTs out (l ++ [t]) = (listT (listTs out l).1 t, (listTs out l).2 ++ [((listT (listTs out l).1 t).length : Int) - 1])
 | [], out => by simp [listTs]
 | a :: l, out => by
   have := listTs_snoc t l (listT out a)
   simp only [List.cons_append, listTs, this]
mutual
theorem listT_lt : ∀ (t : Tr) (out : List Ex), out.length < (listT out t).length
 | .mk o n b k a, out => by
   have := listTs_le k out
   simp only [listT, List.length_append, List.length_singleton]; omega
theorem listTs_le : ∀ (l : List Tr) (out : List Ex), out.length ≤ (listTs out l).1.length
 | [], out => by simp [listTs]
 | t :: l, out => by
   have h1 := listT_lt t out
   have h2 := listTs_le l (listT out t)
   simp only [listTs]; omega
end
theorem listTs_app : ∀ (l r : List Tr) (out : List Ex), (listTs out (l ++ r)).1 = (listTs (listTs out l).1 r).1
 | [], r, out => by simp [listTs]
 | a :: l, r, out => by simp only [List.cons_append, listTs, listTs_app l r]
theorem listTs_ix_len : ∀ (l : List Tr) (out : List Ex), (listTs out l).2.length = l.length
 | [], out => by simp [listTs]
 | a :: l, out => by simp [listTs, listTs_ix_len l]
-- The lists of a tree are not too long.
mutual
def okT : Tr → Prop
 | .mk _ _ b k a => b.length ≤ 1048576 ∧ k.length ≤ 1048576 ∧ a.length ≤ 1048576 ∧ ((∀ x ∈ a, x.binds.length ≤ 1048576) ∧ b.length + (a.flatMap (·.binds)).length ≤ 4194304) ∧ okTs k
def okTs : List Tr → Prop
 | [] => True
 | t :: l => okT t ∧ okTs l
end
theorem okTs_iff : ∀ {l : List Tr}, okTs l ↔ ∀ t ∈ l, okT t
 | [] => by simp [okTs]
 | t :: l => by simp [okTs, okTs_iff (l := l)]
end Go.CoreX
namespace Go.Proofs.YtpaonemmbhbgoaaGreatDoor
open Go Go.Abs Go.CoreX
variable {Γ : List (Nat × List AC)}
abbrev fnW (kw ko : Nat) : AC := .fn (.func 82) [] [.ptr (.o kw) 0, .ptr (.o ko) 0]
def ouS (ou : Outer) (ko kt : Nat) (es : List (List AC)) : Outer := updO (updO ou ko (.cells [.gs 5 es (.o kt)])) kt (.tok 57 5 es.length)
theorem ouS_o {ou : Outer} {ko kt : Nat} (h : ko ≠ kt) (es : List (List AC)) : ouS ou ko kt es ko = some (.cells [.gs 5 es (.o kt)]) := by
 unfold ouS; rw [updO_ne _ (Ne.symm h), updO_same]
theorem ouS_t (ou : Outer) (ko kt : Nat) (es : List (List AC)) : ouS ou ko kt es kt = some (.tok 57 5 es.length) := by unfold ouS; rw [updO_same]
theorem ouS_w {ou : Outer} {ko kt k : Nat} (h : k ≠ ko) (h2 : k ≠ kt) (es : List (List AC)) : ouS ou ko kt es k = ou k := by
 unfold ouS; rw [updO_ne _ (Ne.symm h2), updO_ne _ (Ne.symm h)]
theorem ouS_ok {ou : Outer} {ko kt : Nat} {es : List (List AC)} (h : OuOk ou) (he : idsS isO es) : OuOk (ouS ou ko kt es) := by
 intro k o hk
 unfold ouS at hk
 by_cases e : kt = k
 · subst e; rw [updO_same] at hk; cases hk; trivial
 · rw [updO_ne _ e] at hk
   by_cases e2 : ko = k
   · subst e2; rw [updO_same] at hk; cases hk; exact ⟨⟨trivial, he⟩, trivial⟩
   · rw [updO_ne _ e2] at hk; exact h k o hk
def ListOk (Γ : List (Nat × List AC)) (t : Tr) : Prop := ∀ (ou : Outer) (kw ko kt : Nat) (out : List Ex), OuOk ou → ou kw = some (.cells [fnW kw ko]) → ou ko = none → ou kt = none → ko ≠ kt → (listT out t).length ≤ 1048576 →
 AFn Tryz.prog Γ 82 [.one (.box (cTr t)), .one (.ptr (.o kw) 0), .one (.ptr (.o ko) 0)] (ouS ou ko kt (out.map cEx)) (fun r ou' => r = .one (int (((listT out t).length : Int) - 1)) ∧ ∃ kt', ou kt' = none ∧ ko ≠ kt' ∧ ou' = ouS ou ko kt' ((listT out t).map cEx))
end Go.Proofs.YtpaonemmbhbgoaaGreatDoor
namespace Go.Abs
inductive CedFr (θ : Id → Id) (fr : Fr) : Fr → Prop
 | nil : CedFr θ fr []
 | cons {k : Nat} {x y : FV} {r : Fr} (h : Fr.get k fr = some y) (hw : y.sub θ = x) (hr : CedFr θ fr r) : CedFr θ fr ((k, x) :: r)
theorem CedFr.get {θ : Id → Id} {fr fr' : Fr} (h : CedFr θ fr fr') : ∀ d x, Fr.get d fr' = some x → ∃ y, Fr.get d fr = some y ∧ WkF (y.sub θ) x := by
 induction h with
 | nil => intro d x h; cases h
 | @cons k x y r h hw hr ih =>
   intro d z hz
   simp only [Fr.get] at hz
   by_cases e : k = d
   · subst e; simp at hz; subst hz; exact ⟨y, h, WkF.ofEq hw⟩
   · rw [beq_no e] at hz; exact ih d z hz
end Go.Abs
namespace Go.Proofs.YtpaonemmbhbgoaaGreatDoor
open Go Go.Abs Go.CoreX
variable {Γ : List (Nat × List AC)}
end Go.Proofs.YtpaonemmbhbgoaaGreatDoor
namespace Go.CoreX
def addB (β : Int → Int) (l : List Int) : Int → Int := fun k => β k + l.count k
-- What occurs freely, by how often each is bound around.
mutual
def occB (β : Int → Int) : Tr → List Int
 | .mk o n b k a => (if o = 0 ∧ β n = 0 then [n] else []) ++ occBs β o b a 0 k
def occBs (β : Int → Int) (o : Int) (b : List Int) (a : List Alt) : Nat → List Tr → List Int
 | _, [] => []
 | i, t :: ts => occB (addB β (boundN o b a i)) t ++ occBs β o b a (i + 1) ts
end
theorem occBs_snoc (β : Int → Int) (o : Int) (b : List Int) (a : List Alt) (t : Tr) : ∀ (l : List Tr) (i : Nat), occBs β o b a i (l ++ [t]) = occBs β o b a i l ++ occB (addB β (boundN o b a (i + l.length : Nat))) t
 | [], i => by simp [occBs]
 | x :: l, i => by
   simp only [List.cons_append, occBs, occBs_snoc β o b a t l (i + 1), List.append_assoc, List.length_cons]
   rw [show i + 1 + l.length = i + (l.length + 1) by omega]
theorem mx_le (m : Int) : ∀ l : List Int, m ≤ l.foldl mx m
 | [] => by simp
 | d :: l => by
   have := mx_le (mx m d) l
   have : m ≤ mx m d := by unfold mx; split <;> omega
   simp only [List.foldl_cons]; omega
theorem mx_mem : ∀ (l : List Int) (m d : Int), d ∈ l → d ≤ l.foldl mx m
 | x :: l, m, d, h => by
   simp only [List.foldl_cons]
   rcases List.mem_cons.1 h with rfl | h
   · have h1 := mx_le (mx m d) l
     have : d ≤ mx m d := by unfold mx; split <;> omega
     omega
   · exact mx_mem l _ d h
theorem depth_kid {o n : Int} {b : List Int} {ks : List Tr} {a : List Alt} {t : Tr} (h : t ∈ ks) : depthT t + 1 ≤ depthT (.mk o n b ks a) := by
 simp only [depthT, depthTs_eq]
 have := mx_mem (ks.map depthT) 0 (depthT t) (List.mem_map_of_mem h)
 omega
theorem depth_pos : ∀ t : Tr, 1 ≤ depthT t
 | .mk o n b ks a => by
   simp only [depthT]
   have := mx_le 0 (depthTs ks)
   omega
end Go.CoreX
namespace Go.Proofs.YtpaonemmbhbgoaaGreatDoor
open Go Go.Abs Go.CoreX
variable {Γ : List (Nat × List AC)}
def BIs (β : Int → Int) (ck : Nat) (l : List (Nat × Int × Int)) : Prop := ∃ f, IMOk f ck l ∧ ∀ k, (f k).getD 0 = β k
theorem BIs.put {β : Int → Int} {f : Int → Option Int} (hf : ∀ k, (f k).getD 0 = β k) (n v : Int) : ∀ k, (setF f n v k).getD 0 = if n = k then v else β k := fun k => by
 unfold setF
 by_cases e : n = k
 · rw [if_pos e, if_pos e]; rfl
 · rw [if_neg e, if_neg e]; exact hf k
def ouB (cb : Nat) (lb : List (Nat × Int × Int)) (co : Nat) (lo : List (Nat × Int × Unit)) : Outer := ouOf [.map cb (encI eN lb), .map co (encI eU lo)]
theorem ouB_ok (cb : Nat) (lb : List (Nat × Int × Int)) (co : Nat) (lo : List (Nat × Int × Unit)) : OuOk (ouB cb lb co lo) := by
 intro k o h
 match k, h with
 | 0, h => cases h; exact ids_mapN _ _ _
 | 1, h => cases h; exact ids_mapU _ _ _
 | k + 2, h => cases h
theorem ouB_set0 (cb cb' : Nat) (lb lb' : List (Nat × Int × Int)) (co : Nat) (lo : List (Nat × Int × Unit)) : (fun j => bif Nat.beq j 0 then some (AObj.map cb' (encI eN lb')) else ouB cb lb co lo j) = ouB cb' lb' co lo := by
 funext j
 match j with
 | 0 => rfl
 | 1 => rfl
 | k + 2 => rfl
theorem ouB_set1 (cb : Nat) (lb : List (Nat × Int × Int)) (co co' : Nat) (lo lo' : List (Nat × Int × Unit)) : (fun j => bif Nat.beq j 1 then some (AObj.map co' (encI eU lo')) else ouB cb lb co lo j) = ouB cb lb co' lo' := by
 funext j
 match j with
 | 0 => rfl
 | 1 => rfl
 | k + 2 => rfl
def FreeOk (Γ : List (Nat × List AC)) (t : Tr) : Prop := ∀ (β : Int → Int) (m : Int) (cb : Nat) (lb : List (Nat × Int × Int)) (co : Nat) (lo : List (Nat × Int × Unit)) (S : List Int), (∀ k, 0 ≤ β k ∧ β k ≤ m) → m + depthT t * 1048576 ≤ 4611686018427387904 → BIs β cb lb → SetIs S co lo →
 AFn Tryz.prog Γ 95 [.one (.box (cTr t)), .one (.mp (.o 0)), .one (.mp (.o 1))] (ouB cb lb co lo) (fun r ou' => r = .tup [] ∧ ∃ cb' lb' co' lo', ou' = ouB cb' lb' co' lo' ∧ BIs β cb' lb' ∧ SetIs (S ++ occB β t) co' lo')
theorem boundN_len {o : Int} {b : List Int} {a : List Alt} {k : Int} (hb : b.length ≤ 1048576) (ha : ∀ x ∈ a, x.binds.length ≤ 1048576) : (boundN o b a k).length ≤ 1048576 := by
 unfold boundN
 split
 · exact hb
 · split
   · rename_i h1 h2
     obtain ⟨x, hx⟩ := get_of_lt (l := a) (i := (k - 1).toNat) (by omega)
     rw [List.getD_eq_getElem?_getD, hx]
     exact ha x (List.mem_of_getElem? hx)
   · simp
theorem addB_succ {β : Int → Int} {l : List Int} {j : Nat} {n : Int} (h : l[j]? = some n) (k : Int) : addB β (l.take (j + 1)) k = if n = k then addB β (l.take j) n + 1 else addB β (l.take j) k := by
 unfold addB
 rw [take_get h, List.count_append]
 by_cases e : n = k
 · subst e; simp; omega
 · rw [if_neg e]
   have : [n].count k = 0 := by simp [List.count_cons, e]
   omega
theorem addB_drop {β : Int → Int} {l : List Int} {j : Nat} {n : Int} (h : l[j]? = some n) (k : Int) : addB β (l.drop (j + 1)) k = if n = k then addB β (l.drop j) n - 1 else addB β (l.drop j) k := by
 have hd : l.drop j = n :: l.drop (j + 1) := by
   obtain ⟨h1, h2⟩ := List.getElem?_eq_some_iff.1 h
   rw [List.drop_eq_getElem_cons h1, h2]
 unfold addB
 rw [hd, List.count_cons, List.count_cons]
 by_cases e : n = k
 · subst e; simp; omega
 · rw [if_neg e]
   have : (n == k) = false := by simpa using e
   rw [this]; simp
theorem addB_bd {β : Int → Int} {l : List Int} {m : Int} (h : ∀ k, 0 ≤ β k ∧ β k ≤ m) (hl : l.length ≤ 1048576) (k : Int) : 0 ≤ addB β l k ∧ addB β l k ≤ m + 1048576 := by
 have h1 := h k
 have h2 := List.count_le_length (a := k) (l := l)
 unfold addB; omega
set_option maxHeartbeats 1000000 in
theorem free_ok (hΓ : ∀ g cs, (g, cs) ∈ Γ → idsL isO cs) : ∀ t : Tr, okT t → FreeOk Γ t
 | .mk o n b ks a, hok => by
   obtain ⟨hb, hk, ha, ⟨hab, _⟩, hks⟩ := hok
   have ih : ∀ t ∈ ks, FreeOk Γ t := fun t ht => free_ok hΓ t (okTs_iff.1 hks t ht)
   intro β m cb lb co lo S hβ hd ⟨f, hf, hfb⟩ ⟨g, hg, hgs⟩
   refine AFn.walk 73 tabOk Tryz.func95 rfl (by kernel_rfl) rfl rfl fun hou => ?_
   iterate 1 (first | ((with_reducible refine oj ?_); refine zau ?_) | (with_reducible refine zst ?_) | ((with_reducible refine cExitMiss ?_ ?_); rfl) | (with_reducible refine ok ?_; first | refine ACode.condT rfl ?_ | refine ACode.condF rfl ?_))
   refine ACode.cutR hΓ (α := Nat × List (Nat × Int × Unit)) (fun _ => [(2, .one (.mp (.o 1))), (1, .one (.mp (.o 0))), (0, .one (.box (cTr (.mk o n b ks a))))])
     (fun c => ⟨0, [], ouB cb lb c.1 c.2⟩) (fun c => SetIs (S ++ if o = 0 ∧ β n = 0 then [n] else []) c.1 c.2) ?_ fun c hc => ?_
   · by_cases ho : o = 0
     · subst ho
       repeat' first | refine zN ?_ | (with_reducible refine oj ?_; refine AOps.splitS rfl rfl rfl rfl (fun hb => ?_) (fun hb => ?_)) | (with_reducible refine ok ?_; first | refine ACode.condS rfl (fun hb => ?_) (fun hb => ?_) | refine ACode.cond rfl (fun hb => ?_) (fun hb => ?_))
       all_goals first
         | (exfalso; simp at hb; done)
         | skip
       refine AOps.step1 rfl rfl rfl (AStep.lookI eN (cm := false) (v := .one (int (β n))) rfl Tryz.underlying122 Tryz.underlying3 rfl rfl rfl (by kernel_rfl) zeroN hf (by simp only [Tr.n_mk]; rw [← hfb n]; cases f n <;> rfl)) ?_
       refine zA ?_
       refine ACode.cond rfl (fun hb => ?_) (fun hb => ?_)
       · have h0 : β n = 0 := by simpa using hb
         refine zA ?_
         refine AOps.step1 rfl rfl rfl (AStep.buildU rfl Tryz.underlying141 (by kernel_rfl)) ?_
         refine AOps.putI eU (v := ()) rfl rfl rfl Tryz.underlying137 Tryz.underlying3 rfl rfl rfl rfl hg fun ck' l' hf' => ?_
         refine zA ?_
         exact cInv ⟨(ck', l'), id, ⟨_, hf', by rw [if_pos ⟨rfl, h0⟩]; exact set_put hgs n⟩, LessR.of rfl (by (repeat' first | exact FrSub.nil | refine zfc ?_ | refine zfo ?_ | refine zfp ?_)) (by simp) .nil rfl (ouB_set1 cb lb co ck' lo l').symm (by rw [show (St.set ⟨0, [], ouB cb lb co lo⟩ (.o 1) (.map ck' (encI eU l'))).ou = ouB cb lb ck' l' from ouB_set1 cb lb co ck' lo l']; exact ouB_ok _ _ _ _)⟩
       · have h0 : ¬ β n = 0 := by simpa using hb
         refine zA ?_
         exact cInv ⟨(co, lo), id, ⟨g, hg, by rw [if_neg (fun h => h0 h.2)]; simpa using hgs⟩, LessR.of rfl (by (repeat' first | exact FrSub.nil | refine zfc ?_ | refine zfo ?_ | refine zfp ?_)) (by simp) .nil rfl rfl hou⟩
     · have hcd : ((Tr.mk o n b ks a).op == 0) = false := by simpa using ho
       repeat' first | refine zN ?_ | (with_reducible refine oj ?_; refine AOps.splitS rfl rfl rfl rfl (fun hb => ?_) (fun hb => ?_)) | (with_reducible refine ok ?_; first | refine ACode.condS rfl (fun hb => ?_) (fun hb => ?_) | refine ACode.cond rfl (fun hb => ?_) (fun hb => ?_))
       all_goals first
         | (exfalso; rw [hcd] at hb; cases hb; done)
         | exact cInv ⟨(co, lo), id, ⟨g, hg, by rw [if_neg (fun h => ho h.1)]; simpa using hgs⟩, LessR.of rfl (by (repeat' first | exact FrSub.nil | refine zfc ?_ | refine zfo ?_ | refine zfp ?_)) (by simp) .nil rfl rfl hou⟩
   · obtain ⟨co, lo⟩ := c
     simp only at hc
     clear hgs hg g hou
     have hou : OuOk (ouB cb lb co lo) := ouB_ok _ _ _ _
     refine zA ?_
     refine ACode.loopR hΓ (α := Nat × (Nat × List (Nat × Int × Int)) × (Nat × List (Nat × Int × Unit))) (fun c => [(38, .one (int c.1)), (37, .one (int (encTrs ks).length)), (36, .one (.sl 1 (encTrs ks))), (2, .one (.mp (.o 1))), (1, .one (.mp (.o 0))), (0, .one (.box (cTr (.mk o n b ks a))))])
       (fun c => ⟨0, [], ouB c.2.1.1 c.2.1.2 c.2.2.1 c.2.2.2⟩) (fun m c => c.1 ≤ ks.length ∧ BIs β c.2.1.1 c.2.1.2 ∧ SetIs (S ++ (if o = 0 ∧ β n = 0 then [n] else []) ++ occBs β o b a 0 (ks.take c.1)) c.2.2.1 c.2.2.2 ∧ m = ks.length - c.1)
       (a0 := (0, (cb, lb), (co, lo))) (ρ := id) ⟨by omega, ⟨f, hf, hfb⟩, by simpa [occBs] using hc, rfl⟩ (LessR.of rfl (by (repeat' first | exact FrSub.nil | refine zfc ?_ | refine zfo ?_ | refine zfp ?_)) (by simp) .nil rfl rfl hou) fun m' c hi => ?_
     clear hc hf hfb f hou
     obtain ⟨i, ⟨cb, lb⟩, co, lo⟩ := c
     obtain ⟨hil, hB, hS, rfl⟩ := hi
     simp only at hil hB hS
     have hou : OuOk (ouB cb lb co lo) := ouB_ok _ _ _ _
     refine zA ?_
     refine ACode.cond rfl (fun hb2 => ?_) (fun hb2 => ?_)
     · have hlt : i < ks.length := by simpa using hb2
       obtain ⟨t, ht⟩ := get_of_lt hlt
       have htm := List.mem_of_getElem? ht
       have hbn := Bound_ok hΓ (.mk o n b ks a) (i : Int) (by omega) ha
       have hll := boundN_len (o := o) (k := (i : Int)) hb hab
       have hsn := occBs_snoc β o b a t (ks.take i) 0
       rw [← take_get ht] at hsn
       have hmin : (ks.take i).length = i := by simp; omega
       rw [hmin, Nat.zero_add] at hsn
       simp only [Tr.op_mk, Tr.binds_mk, Tr.alts_mk] at hbn
       generalize boundN o b a (i : Int) = l at hbn hll hsn
       have hdk := depth_kid (o := o) (n := n) (b := b) (a := a) htm
       refine zA ?_
       refine AOps.step1 rfl rfl rfl (AStep.indexAddr tabOk rfl rfl rfl rfl rfl rfl (.inl rfl) rfl (by omega) (encTrs_get ht)) ?_
       refine zA ?_
       refine zca hΓ hbn hou ?_
       refine zA ?_
       refine ACode.loopR hΓ (α := Nat × Nat × List (Nat × Int × Int)) (fun c => [(48, .one (int c.1)), (47, .one (int (l.map cI).length)), (46, .one (.sl 1 (l.map cI))), (8, .one (.sl 1 (l.map cI))), (7, .one (.box (cTr t))), (38, .one (int i)), (37, .one (int (encTrs ks).length)), (36, .one (.sl 1 (encTrs ks))), (2, .one (.mp (.o 1))), (1, .one (.mp (.o 0))), (0, .one (.box (cTr (.mk o n b ks a))))])
         (fun c => ⟨0, [], ouB c.2.1 c.2.2 co lo⟩) (fun m c => c.1 ≤ l.length ∧ BIs (addB β (l.take c.1)) c.2.1 c.2.2 ∧ m = l.length - c.1) (a0 := (0, cb, lb)) (ρ := id) ⟨by omega, by simpa [BIs, addB] using hB, rfl⟩ (LessR.of rfl (by (repeat' first | exact FrSub.nil | refine zfc ?_ | refine zfo ?_ | refine zfp ?_)) (by simp) .nil rfl rfl hou) fun m' c hj => ?_
       clear hB hou
       obtain ⟨j, cb, lb⟩ := c
       obtain ⟨hjl, ⟨f, hf, hfb⟩, rfl⟩ := hj
       simp only at hjl hf hfb
       have hou : OuOk (ouB cb lb co lo) := ouB_ok _ _ _ _
       refine zA ?_
       refine ACode.cond rfl (fun hb3 => ?_) (fun hb3 => ?_)
       · have hlt2 : j < l.length := by simpa using hb3
         obtain ⟨q, hq⟩ := get_of_lt hlt2
         have hv := addB_bd (l := l.take j) hβ (by simp; omega) q
         have hdp := depth_pos t
         refine zA ?_
         refine AOps.step1 rfl rfl rfl (AStep.indexAddr tabOk rfl rfl rfl rfl rfl rfl (.inl rfl) rfl (by omega) (map_get hq)) ?_
         refine zA ?_
         refine AOps.step1 rfl rfl rfl (AStep.lookI eN (cm := false) (v := .one (int (addB β (l.take j) q))) rfl Tryz.underlying122 Tryz.underlying3 rfl rfl rfl (by kernel_rfl) zeroN hf (by rw [← hfb q]; cases f q <;> rfl)) ?_
         refine AOps.step1 rfl rfl rfl (AStep.arith rfl rfl rfl (.inl ⟨rfl, rfl⟩) (inRange_i64 (by omega) (by omega))) ?_
         refine AOps.putI eN (v := addB β (l.take j) q + 1) rfl rfl rfl Tryz.underlying122 Tryz.underlying3 rfl rfl rfl rfl hf fun ck' l' hf' => ?_
         refine zM ?_
         refine cInv ⟨l.length - (j + 1), (j + 1, ck', l'), id, by omega, ⟨by omega, ⟨_, hf', fun k => ?_⟩, rfl⟩, LessR.of rfl (by (repeat' first | exact FrSub.nil | refine zfc ?_ | refine zfo ?_ | refine zfp ?_)) (by simp) .nil rfl (ouB_set0 cb ck' lb l' co lo).symm (by rw [show (St.set ⟨0, [], ouB cb lb co lo⟩ (.o 0) (.map ck' (encI eN l'))).ou = ouB ck' l' co lo from ouB_set0 cb ck' lb l' co lo]; exact ouB_ok _ _ _ _)⟩
         rw [BIs.put hfb, addB_succ hq]
       have hlt2 : j = l.length := by simp at hb3; omega
       subst hlt2
       rw [List.take_length] at hfb
       have hcall := ih t htm (addB β l) (m + 1048576) cb lb co lo (S ++ (if o = 0 ∧ β n = 0 then [n] else []) ++ occBs β o b a 0 (ks.take i)) (addB_bd hβ hll) (by omega) ⟨f, hf, hfb⟩ hS
       clear hf hfb f
       refine zA ?_
       refine AOps.call1 hΓ rfl rfl rfl rfl rfl rfl rfl (by simp) hou hcall fun r ou' hq hids hou' => ?_
       obtain ⟨rfl, cb, lb, co, lo, rfl, hB, hS2⟩ := hq
       rw [List.append_assoc, ← hsn] at hS2
       refine zA ?_
       refine ACode.loopR hΓ (α := Nat × Nat × List (Nat × Int × Int)) (fun c => [(63, .one (int c.1)), (62, .one (int (l.map cI).length)), (61, .one (.sl 1 (l.map cI))), (38, .one (int i)), (37, .one (int (encTrs ks).length)), (36, .one (.sl 1 (encTrs ks))), (2, .one (.mp (.o 1))), (1, .one (.mp (.o 0))), (0, .one (.box (cTr (.mk o n b ks a))))])
         (fun c => ⟨0, [], ouB c.2.1 c.2.2 co lo⟩) (fun m c => c.1 ≤ l.length ∧ BIs (addB β (l.drop c.1)) c.2.1 c.2.2 ∧ m = l.length - c.1) (a0 := (0, cb, lb)) (ρ := id) ⟨by omega, by simpa using hB, rfl⟩ (LessR.of rfl (by (repeat' first | exact FrSub.nil | refine zfc ?_ | refine zfo ?_ | refine zfp ?_)) (by simp) .nil rfl rfl hou') fun m' c hj => ?_
       clear hB hou hou'
       obtain ⟨j, cb, lb⟩ := c
       obtain ⟨hjl, ⟨f, hf, hfb⟩, rfl⟩ := hj
       simp only at hjl hf hfb
       have hou : OuOk (ouB cb lb co lo) := ouB_ok _ _ _ _
       refine zA ?_
       refine ACode.cond rfl (fun hb4 => ?_) (fun hb4 => ?_)
       · have hlt2 : j < l.length := by simpa using hb4
         obtain ⟨q, hq⟩ := get_of_lt hlt2
         have hv := addB_bd (l := l.drop j) hβ (by simp; omega) q
         have hdp := depth_pos t
         refine zA ?_
         refine AOps.step1 rfl rfl rfl (AStep.indexAddr tabOk rfl rfl rfl rfl rfl rfl (.inl rfl) rfl (by omega) (map_get hq)) ?_
         refine zA ?_
         refine AOps.step1 rfl rfl rfl (AStep.lookI eN (cm := false) (v := .one (int (addB β (l.drop j) q))) rfl Tryz.underlying122 Tryz.underlying3 rfl rfl rfl (by kernel_rfl) zeroN hf (by rw [← hfb q]; cases f q <;> rfl)) ?_
         refine AOps.step1 rfl rfl rfl (AStep.arith rfl rfl rfl (.inr (.inl ⟨rfl, rfl⟩)) (inRange_i64 (by omega) (by omega))) ?_
         refine AOps.putI eN (v := addB β (l.drop j) q - 1) rfl rfl rfl Tryz.underlying122 Tryz.underlying3 rfl rfl rfl rfl hf fun ck' l' hf' => ?_
         refine zM ?_
         refine cInv ⟨l.length - (j + 1), (j + 1, ck', l'), id, by omega, ⟨by omega, ⟨_, hf', fun k => ?_⟩, rfl⟩, LessR.of rfl (by (repeat' first | exact FrSub.nil | refine zfc ?_ | refine zfo ?_ | refine zfp ?_)) (by simp) .nil rfl (ouB_set0 cb ck' lb l' co lo).symm (by rw [show (St.set ⟨0, [], ouB cb lb co lo⟩ (.o 0) (.map ck' (encI eN l'))).ou = ouB ck' l' co lo from ouB_set0 cb ck' lb l' co lo]; exact ouB_ok _ _ _ _)⟩
         rw [BIs.put hfb, addB_drop hq]
       · have hlt2 : j = l.length := by simp at hb4; omega
         subst hlt2
         rw [List.drop_length] at hfb
         refine zM ?_
         exact cInv ⟨ks.length - (i + 1), (i + 1, (cb, lb), (co, lo)), id, by omega, ⟨by omega, ⟨f, hf, fun k => by rw [hfb k]; simp [addB]⟩, hS2, rfl⟩, LessR.of rfl (by (repeat' first | exact FrSub.nil | refine zfc ?_ | refine zfo ?_ | refine zfp ?_)) (by simp) .nil rfl rfl hou⟩
     · have hlt : i = ks.length := by simp at hb2; omega
       subst hlt
       rw [List.take_length, List.append_assoc] at hS
       refine zA ?_
       exact AFn.fin' rfl (WkF.refl _) (by simp) hou ⟨rfl, cb, lb, co, lo, rfl, hB, by simpa only [occB] using hS⟩
end Go.Proofs.YtpaonemmbhbgoaaGreatDoor
namespace Go.CoreX
theorem insertS_mem (n k : Int) : ∀ l : List Int, k ∈ insertS n l ↔ k = n ∨ k ∈ l
 | [] => by simp [insertS]
 | m :: l => by
   simp only [insertS]
   split
   · simp
   · split
     · rename_i h1 h2
       subst h2
       simp
     · simp only [List.mem_cons, insertS_mem n k l]
       constructor
       · rintro (h | h | h) <;> simp [h]
       · rintro (h | h | h) <;> simp [h]
theorem insertS_sorted (n : Int) : ∀ l : List Int, l.Pairwise (· < ·) → (insertS n l).Pairwise (· < ·)
 | [], _ => by simp [insertS]
 | m :: l, h => by
   simp only [List.pairwise_cons] at h
   simp only [insertS]
   split
   · rename_i h1
     simp only [List.pairwise_cons, List.mem_cons, forall_eq_or_imp]
     exact ⟨⟨h1, fun a ha => by have := h.1 a ha; omega⟩, h.1, h.2⟩
   · split
     · simp only [List.pairwise_cons]; exact h
     · rename_i h1 h2
       simp only [List.pairwise_cons]
       refine ⟨fun a ha => ?_, insertS_sorted n l h.2⟩
       rcases (insertS_mem n a l).1 ha with rfl | ha
       · omega
       · exact h.1 a ha
theorem sortS_mem (k : Int) : ∀ l : List Int, k ∈ sortS l ↔ k ∈ l
 | [] => by simp [sortS]
 | n :: l => by
   have ih := sortS_mem k l
   unfold sortS at ih ⊢
   rw [List.foldr_cons, insertS_mem, ih, List.mem_cons]
theorem sortS_sorted : ∀ l : List Int, (sortS l).Pairwise (· < ·)
 | [] => by simp [sortS]
 | n :: l => by
   have ih := sortS_sorted l
   unfold sortS at ih ⊢
   rw [List.foldr_cons]
   exact insertS_sorted n _ ih
theorem strict_unique : ∀ {l r : List Int}, l.Pairwise (· < ·) → r.Pairwise (· < ·) → (∀ k, k ∈ l ↔ k ∈ r) → l = r
 | [], [], _, _, _ => rfl
 | [], b :: r, _, _, h => by have := (h b).2 (by simp); simp at this
 | a :: l, [], _, _, h => by have := (h a).1 (by simp); simp at this
 | a :: l, b :: r, hl, hr, h => by
   simp only [List.pairwise_cons] at hl hr
   have hab : a = b := by
     have h1 := (h a).1 (by simp)
     have h2 := (h b).2 (by simp)
     rcases List.mem_cons.1 h1 with h1 | h1
     · exact h1
     · rcases List.mem_cons.1 h2 with h2 | h2
       · exact h2.symm
       · have := hr.1 a h1
         have := hl.1 b h2
         omega
   subst hab
   congr 1
   refine strict_unique hl.2 hr.2 fun k => ⟨fun hk => ?_, fun hk => ?_⟩
   · rcases List.mem_cons.1 ((h k).1 (List.mem_cons_of_mem _ hk)) with e | e
     · have := hl.1 k hk; omega
     · exact e
   · rcases List.mem_cons.1 ((h k).2 (List.mem_cons_of_mem _ hk)) with e | e
     · have := hr.1 k hk; omega
     · exact e
theorem sort_eq {keys m : List Int} (hn : keys.Nodup) (h : ∀ k, k ∈ keys ↔ k ∈ m) : (keys.mergeSort fun x y => decide (x ≤ y)) = sortS m := by
 have hp := List.mergeSort_perm keys (fun x y : Int => decide (x ≤ y))
 have hs : (keys.mergeSort fun x y => decide (x ≤ y)).Pairwise (fun x y => decide (x ≤ y) = true) := List.pairwise_mergeSort (fun a b c h1 h2 => by simp only [decide_eq_true_eq] at *; omega) (fun a b => by simp only [Bool.or_eq_true, decide_eq_true_eq]; omega) keys
 have hd : (keys.mergeSort fun x y => decide (x ≤ y)).Nodup := hp.nodup_iff.2 hn
 refine strict_unique ?_ (sortS_sorted m) fun k => ?_
 · have := hs.and hd
   refine this.imp fun {a b} hab => ?_
   have h1 := of_decide_eq_true hab.1
   have h2 := hab.2
   omega
 · rw [sortS_mem, ← h k]; exact hp.mem_iff
mutual
theorem occ_eq : ∀ (t : Tr) (sc : List Int) (β : Int → Int), (∀ k, β k = 0 ↔ sc.contains k = false) → (∀ k, 0 ≤ β k) → occT sc t = occB β t
 | .mk o n b k a, sc, β, h, h0 => by
   simp only [occT, occB]
   rw [occs_eq k sc β o b a 0 h h0]
   congr 1
   by_cases e : o = 0 ∧ β n = 0
   · rw [if_pos e, if_pos ⟨e.1, (h n).1 e.2⟩]
   · rw [if_neg e, if_neg (fun h2 => e ⟨h2.1, (h n).2 h2.2⟩)]
theorem occs_eq : ∀ (l : List Tr) (sc : List Int) (β : Int → Int) (o : Int) (b : List Int) (a : List Alt) (i : Nat), (∀ k, β k = 0 ↔ sc.contains k = false) → (∀ k, 0 ≤ β k) → occTs sc o b a i l = occBs β o b a i l
 | [], _, _, _, _, _, _, _, _ => by simp [occTs, occBs]
 | t :: l, sc, β, o, b, a, i, h, h0 => by
   simp only [occTs, occBs]
   rw [occs_eq l sc β o b a (i + 1) h h0, occ_eq t (boundN o b a i ++ sc) (addB β (boundN o b a i)) (fun k => ?_) (fun k => ?_)]
   · unfold addB
     have h1 := h k
     have h2 := h0 k
     have h3 : (boundN o b a i).count k = 0 ↔ (boundN o b a i).contains k = false := by
       rw [List.count_eq_zero]; simp
     simp only [List.contains_eq_mem, List.mem_append, decide_eq_false_iff_not, not_or] at *
     constructor
     · intro h4
       exact ⟨h3.1 (by omega), h1.1 (by omega)⟩
     · rintro ⟨h4, h5⟩
       have := h3.2 h4
       have := h1.2 h5
       omega
   · unfold addB
     have := h0 k
     omega
end
theorem freeOf_occB (t : Tr) : freeOf t = sortS (occB (fun _ => 0) t) := by
 unfold freeOf
 rw [occ_eq t [] (fun _ => 0) (fun k => by simp) (fun k => by simp)]
end Go.CoreX
namespace Go.CoreX
theorem nodup_le {α : Type} [DecidableEq α] : ∀ {l m : List α}, l.Nodup → (∀ x ∈ l, x ∈ m) → l.length ≤ m.length
 | [], m, _, _ => by simp
 | a :: l, m, hn, h => by
   simp only [List.nodup_cons] at hn
   have ha := h a (by simp)
   have := nodup_le (l := l) (m := m.erase a) hn.2 fun x hx => by
     have hne : x ≠ a := fun e => hn.1 (e ▸ hx)
     exact (List.mem_erase_of_ne hne).2 (h x (by simp [hx]))
   rw [List.length_erase_of_mem ha] at this
   have := List.length_pos_of_mem ha
   simp only [List.length_cons]; omega
mutual
theorem occB_len : ∀ (t : Tr) (β : Int → Int) (out : List Ex), (occB β t).length + out.length ≤ (listT out t).length
 | .mk o n b k a, β, out => by
   have := occBs_len k β o b a 0 out
   simp only [occB, listT, List.length_append, List.length_singleton]
   split <;> simp <;> omega
theorem occBs_len : ∀ (l : List Tr) (β : Int → Int) (o : Int) (b : List Int) (a : List Alt) (i : Nat) (out : List Ex), (occBs β o b a i l).length + out.length ≤ (listTs out l).1.length
 | [], _, _, _, _, _, out => by simp [occBs, listTs]
 | t :: l, β, o, b, a, i, out => by
   have h1 := occB_len t (addB β (boundN o b a i)) out
   have h2 := occBs_len l β o b a (i + 1) (listT out t)
   simp only [occBs, listTs, List.length_append]; omega
end
end Go.CoreX
namespace Go.Proofs.YtpaonemmbhbgoaaGreatDoor
open Go Go.Abs Go.CoreX Go.Sort
variable {Γ : List (Nat × List AC)}
def SortOk : Prop := ∀ (blk off cap : Nat) (zs : List Int) (w : World), Holds (Value.int .i64) w blk off zs.toArray → blk < w.heap.size → zs.length < 4611686018427387904 → Calls Tryz.prog 96 #[.slice (some ⟨blk, off, none⟩) zs.length cap] w fun e w' =>
 e = .returned (.tuple #[]) ∧ ∃ n os, w' = grow (putRow (Value.int .i64) (Sort.ahead w n) blk off (zs.mergeSort fun x y => decide (x ≤ y)).toArray) os
def SortNil : Prop := ∀ w : World, Calls Tryz.prog 96 #[.slice none 0 0] w fun e w' => e = .returned (.tuple #[]) ∧ w' = w
theorem sort_enter (us : Array Value) (w : World) : (callFunc 96 us).run Tryz.prog w = .ok (.enter 96 us) w := by
 have h1 : Tryz.prog.funcs[96]? = some Tryz.f96 := Tryz.func96
 simp [callFunc, h1]
 rfl
def leftM (l : List (Nat × Int × Unit)) (seen : List Nat) : Nat := (l.filter fun x => decide (x.1 ∉ seen)).length
theorem leftM_step {l : List (Nat × Int × Unit)} {seen : List Nat} {x : Nat × Int × Unit} (hx : x ∈ l) (hb : x.1 ∉ seen) : leftM l (seen ++ [x.1]) < leftM l seen := by
 unfold leftM
 induction l with
 | nil => cases hx
 | cons y l ih =>
   have hmono : ∀ l : List (Nat × Int × Unit), (l.filter fun z => decide (z.1 ∉ seen ++ [x.1])).length ≤ (l.filter fun z => decide (z.1 ∉ seen)).length := fun l => by
     induction l with
     | nil => simp
     | cons z l ih =>
       simp only [List.filter_cons]
       split <;> split <;> simp_all <;> omega
   simp only [List.filter_cons]
   rcases List.mem_cons.1 hx with rfl | hx
   · have := hmono l
     rw [if_neg (by simp), if_pos (by simpa using hb)]
     simp only [List.length_cons]; omega
   · have := ih hx
     split <;> split <;> simp_all <;> omega
theorem pair_of {l : List (Nat × Int × Unit)} (hk : (l.map (·.2.1)).Nodup) {x y : Nat × Int × Unit} (hx : x ∈ l) (hy : y ∈ l) (h : x.2.1 = y.2.1) : x = y := by
 induction l with
 | nil => cases hx
 | cons z l ih =>
   simp only [List.map_cons, List.nodup_cons] at hk
   rcases List.mem_cons.1 hx with e1 | h1
   · rcases List.mem_cons.1 hy with e2 | h2
     · rw [e1, e2]
     · exact absurd (List.mem_map.2 ⟨y, h2, by rw [← h, e1]⟩ : z.2.1 ∈ l.map (·.2.1)) hk.1
   · rcases List.mem_cons.1 hy with e2 | h2
     · exact absurd (List.mem_map.2 ⟨x, h1, by rw [h, e2]⟩ : z.2.1 ∈ l.map (·.2.1)) hk.1
     · exact ih hk.2 h1 h2
theorem keys_nodup {l zs : List (Nat × Int × Unit)} (hk : (l.map (·.2.1)).Nodup) : ∀ {zs : List (Nat × Int × Unit)}, (∀ x ∈ zs, x ∈ l) → (zs.map (·.1)).Nodup → (zs.map (·.2.1)).Nodup
 | [], _, _ => by simp
 | x :: zs, h, hn => by
   simp only [List.map_cons, List.nodup_cons] at hn ⊢
   refine ⟨fun hm => ?_, keys_nodup (zs := zs) hk (fun y hy => h y (by simp [hy])) hn.2⟩
   obtain ⟨y, hy, e⟩ := List.mem_map.1 hm
   have := pair_of hk (h x (by simp)) (h y (by simp [hy])) e.symm
   exact hn.1 (List.mem_map.2 ⟨y, hy, by rw [this]⟩)
@[simp] theorem ids_vecI (p : Abs.Id → Prop) (l : List Int) (cap : Nat) : idsL p (vec 1 (l.map cI) cap) := by
 unfold vec
 have e : (l.map cI).flatten = l.map int := by
   induction l with
   | nil => rfl
   | cons n l ih => simp only [List.map_cons, List.flatten_cons, ih]; rfl
 rw [e]
 refine idsL_app (ids_ints p l) ?_
 generalize (cap - (l.map cI).length) * 1 = q
 induction q with
 | zero => simp
 | succ q ih => rw [List.replicate_succ]; exact ⟨trivial, ih⟩
@[simp] theorem sub_mapU (θ : Abs.Id → Abs.Id) (ck : Nat) (l : List (Nat × Int × Unit)) : AObj.sub θ (.map ck (encI eU l)) = .map ck (encI eU l) := by
 simp [AObj.sub, encI, eU, FV.sub, subL, Function.comp_def]
theorem encI_born {β : Type} {enc : β → FV} {f : Int → Option β} {ck : Nat} {l : List (Nat × Int × β)} (h : IMOk f ck l) : ∀ x ∈ encI enc l, x.1 < ck := fun x hx => by
 simp only [encI, List.mem_map] at hx
 obtain ⟨y, hy, rfl⟩ := hx
 exact h.born y hy
theorem encI_key {β : Type} {enc : β → FV} {l : List (Nat × Int × β)} : ∀ x ∈ encI enc l, x.2.1.oneCell' = true := fun x hx => by
 simp only [encI, List.mem_map] at hx
 obtain ⟨y, hy, rfl⟩ := hx
 rfl
theorem encI_find {β : Type} {enc : β → FV} : ∀ {l : List (Nat × Int × β)} {x : Nat × Int × β}, (l.map (·.1)).Nodup → x ∈ l → (encI enc l).find? (fun y => y.1 == x.1) = some (x.1, .int .i64 x.2.1, enc x.2.2)
 | y :: l, x, hn, hx => by
   simp only [List.map_cons, List.nodup_cons] at hn
   rcases List.mem_cons.1 hx with rfl | h
   · simp [encI]
   · have hne : y.1 ≠ x.1 := fun e => hn.1 (List.mem_map.2 ⟨_, h, e.symm⟩)
     have := encI_find (enc := enc) hn.2 h
     simp only [encI, List.map_cons, List.find?_cons] at this ⊢
     rw [beq_eq_false_iff_ne.2 hne]
     exact this
theorem born_inj' {l : List (Nat × Int × Unit)} (hk : (l.map (·.1)).Nodup) {x y : Nat × Int × Unit} (hx : x ∈ l) (hy : y ∈ l) (h : x.1 = y.1) : x = y := by
 induction l with
 | nil => cases hx
 | cons z l ih =>
   simp only [List.map_cons, List.nodup_cons] at hk
   rcases List.mem_cons.1 hx with e1 | h1
   · rcases List.mem_cons.1 hy with e2 | h2
     · rw [e1, e2]
     · exact absurd (List.mem_map.2 ⟨y, h2, by rw [← h, e1]⟩ : z.1 ∈ l.map (·.1)) hk.1
   · rcases List.mem_cons.1 hy with e2 | h2
     · exact absurd (List.mem_map.2 ⟨x, h1, by rw [h, e2]⟩ : z.1 ∈ l.map (·.1)) hk.1
     · exact ih hk.2 h1 h2
theorem key_some {f : Int → Option Unit} {ck : Nat} {l : List (Nat × Int × Unit)} (h : IMOk f ck l) (k : Int) : (f k).isSome = true ↔ ∃ x ∈ l, x.2.1 = k := by
 rw [← h.look k]
 cases hf : l.find? (fun x => x.2.1 == k) with
 | none =>
   simp only [Option.map_none, Option.isSome_none, Bool.false_eq_true, false_iff]
   rintro ⟨x, hx, e⟩
   have := List.find?_eq_none.1 hf x hx
   simp [e] at this
 | some x =>
   simp only [Option.map_some, Option.isSome_some, true_iff]
   have h1 := List.find?_some hf
   exact ⟨x, List.mem_of_find?_eq_some hf, by simpa using h1⟩
def keyL (zs : List (Nat × Int × Unit)) : List Int := zs.map (·.2.1)
def bornL (zs : List (Nat × Int × Unit)) : List Nat := zs.map (·.1)
set_option maxHeartbeats 1000000 in
theorem FreeOf_ok (hΓ : ∀ g cs, (g, cs) ∈ Γ → idsL isO cs) (hΓF : ∀ g cs, (g, cs) ∈ Γ → idsL (fun _ => False) cs) (hs : SortOk) (hn : SortNil) (t : Tr) (ht : okT t) (hd : depthT t ≤ 1048576) (hsz : (listT [] t).length ≤ 1048576) :
   APure Tryz.prog Γ 67 [.one (.box (cTr t))] (.one (.sl 1 ((freeOf t).map cI))) := by
 intro ou
 refine AFn.walk 24 tabOk Tryz.func67 rfl (by kernel_rfl) rfl rfl fun hou => ?_
 refine zA ?_
 refine AOps.step1 rfl rfl rfl (AStep.makeMap rfl) ?_
 refine zA ?_
 refine AOps.step1 rfl rfl rfl (AStep.makeMap rfl) ?_
 refine zA ?_
 refine AOps.callR [.l 1, .l 0] [.one (.box (cTr t)), .one (.mp (.o 0)), .one (.mp (.o 1))] [.map 0 (encI eN []), .map 0 (encI eU [])] hΓF rfl rfl rfl rfl rfl rfl ?_ ?_ ?_ ?_ ?_ (free_ok hΓ t ht (fun _ => 0) 0 0 [] 0 [] [] (fun k => by simp) (by omega) ⟨_, IMOk.nil, fun k => rfl⟩ SetIs.nil) ?_
 · simp [subF, FV.sub, AC.sub, nameOf]
   exact ⟨(subL_pure _ _ (by simp)).symm, rfl⟩
 · simp [inO]
 · simp
 · exact ⟨rfl, rfl, trivial⟩
 · simp [inO]
 intro r ou' hq
 obtain ⟨rfl, cb, lb, co, lo, rfl, hB, g, hg, hgs⟩ := hq
 rw [List.nil_append] at hgs
 refine ⟨[.map cb (encI eN lb), .map co (encI eU lo)], rfl, rfl, by simp [inO], by simp, ?_⟩
 refine zA ?_
 refine AOps.step1 rfl rfl rfl (AStep.rangeMap rfl Tryz.underlying137 rfl rfl) ?_
 refine zA ?_
 refine ACode.loopR hΓ (α := List (Nat × Int × Unit) × Option Nat) (fun a => [(12, .one (.ptr (.l 2) 0)), (4, match a.2 with | none => .one (.lit (.slice none 0 0)) | some cap => .one (.arr (.l 3) 1 0 ((keyL a.1).map cI).length cap))])
   (fun a => match a.2 with | none => ⟨3, [(2, .iter (.l 0) co (bornL a.1) co), (0, .map co (encI eU lo))], ou⟩ | some cap => ⟨4, [(3, .cells (vec 1 ((keyL a.1).map cI) cap)), (2, .iter (.l 0) co (bornL a.1) co), (0, .map co (encI eU lo))], ou⟩)
   (fun m a => (∀ x ∈ a.1, x ∈ lo) ∧ (bornL a.1).Nodup ∧ (match a.2 with | none => a.1 = [] | some cap => a.1.length ≤ cap) ∧ m = leftM lo (bornL a.1)) (a0 := ([], none)) (ρ := id) ⟨by simp, by simp [bornL], rfl, rfl⟩ (LessR.of rfl ?_ ?_ ?_ rfl rfl hou) fun m a hj => ?_
 · (repeat' first | exact FrSub.nil | refine zfc ?_ | refine zfo ?_ | refine zfp ?_)
 · simp
 · repeat' first | exact LoSub.nil | refine zlc ?_ | refine zld ?_ ?_ | rfl
   all_goals (rw [sub_mapU, ren_mapU])
 obtain ⟨zs, oc⟩ := a
 obtain ⟨hzs, hnd, hcap, rfl⟩ := hj
 simp only at hzs hnd hcap
 have hin : ∀ k, k ∈ keyL zs → k ∈ occB (fun _ => 0) t := fun k hk => by
   obtain ⟨x, hx, rfl⟩ := List.mem_map.1 hk
   have h1 := (key_some hg x.2.1).2 ⟨x, hzs x hx, rfl⟩
   rw [hgs] at h1
   simpa using h1
 have hkn : (keyL zs).Nodup := keys_nodup (zs := zs) hg.nk hzs hnd
 have hkl : (keyL zs).length ≤ 1048576 := by
   have h1 := nodup_le hkn hin
   have h2 := occB_len t (fun _ => 0) []
   simp at h2
   omega
 have hend' : (∀ x ∈ encI eU lo, x.1 ∈ bornL zs) → (keyL zs).mergeSort (fun x y => decide (x ≤ y)) = freeOf t := fun hend => by
   rw [freeOf_occB]
   refine sort_eq hkn fun k => ⟨hin k, fun hk => ?_⟩
   have h1 : (g k).isSome = true := by rw [hgs]; simpa using hk
   obtain ⟨x, hx, rfl⟩ := (key_some hg k).1 h1
   have h2 := hend (x.1, .int .i64 x.2.1, eU x.2.2) (List.mem_map.2 ⟨x, hx, rfl⟩)
   obtain ⟨y, hy, e⟩ := List.mem_map.1 h2
   have := born_inj' hg.nb (hzs y hy) hx e
   subst this
   exact List.mem_map.2 ⟨y, hy, rfl⟩
 cases oc with
 | none =>
   subst hcap
   refine zA ?_
   refine AOps.nextMap rfl rfl rfl rfl rfl rfl rfl (encI_born hg) (Nat.le_refl _) encI_key (fun hend => ?_) (fun b u v hmem hnew => ?_)
   · refine zA ?_
     refine AOps.callNo rfl rfl rfl rfl rfl rfl sort_enter hn ?_
     refine zA ?_
     have h1 := hend' hend
     refine APure.fin rfl (.trans (.one (.nilS 1)) (.ofEq ?_)) (by simp) hou rfl
     rw [← h1]; simp [keyL]
   · obtain ⟨rfl, x, hx, rfl, rfl, _⟩ := (mem_encU _ _ _ _).1 hmem
     obtain ⟨bx, k, ⟨⟩⟩ := x
     refine zA ?_
     refine AOps.step1 rfl rfl rfl (AStep.entry (last := 0) (u := .int .i64 k) (v := .agg []) rfl rfl rfl rfl (encI_find hg.nb hx) rfl) ?_
     refine zA ?_
     refine AOps.appOwn tabOk rfl rfl rfl rfl rfl rfl rfl rfl rfl (.nil 1) (.sl 1 [cI k]) (by simp) rfl (by simp; show 1 * 8 ≤ _; omega) (by simp) fun cap hc => ?_
     refine zM ?_
     refine cInv ⟨leftM lo (bornL [(bx, k, ())]), ([(bx, k, ())], some cap), id, leftM_step (x := (bx, k, ())) hx hnew, ⟨by simpa using hx, by simp [bornL], by simpa using hc, rfl⟩, LessR.of rfl ?_ (by simp) ?_ rfl rfl hou⟩
     · exact FrSub.cons rfl (.ofEq rfl) (FrSub.cons rfl (.ofEq rfl) .nil)
     · refine LoSub.cons rfl ?_ rfl (by simp) (LoSub.cons rfl ?_ rfl (by simp) (LoSub.cons rfl (ren_mapU _ _ _).symm rfl (by simp) .nil))
       · rw [AObj.ren_pure _ _ (by simp)]; simp [keyL]
       · simp [AObj.ren, bornL]; rfl
 | some cap =>
   refine zA ?_
   refine AOps.nextMap rfl rfl rfl rfl rfl rfl rfl (encI_born hg) (Nat.le_refl _) encI_key (fun hend => ?_) (fun b u v hmem hnew => ?_)
   · have h1 := hend' hend
     refine zA ?_
     refine AOps.wk 21 rfl (y := .one (.arr (.l 3) 1 0 (keyL zs).length cap)) (.ofEq (by simp)) ?_
     refine AOps.sortI (l := keyL zs) rfl rfl rfl rfl rfl rfl sort_enter hs rfl (by omega) ?_
     rw [h1]
     refine AOps.wk 4 rfl (y := .one (.arr (.l 3) 1 0 ((freeOf t).map iC).length cap)) (.ofEq (by rw [← h1]; simp)) ?_
     refine AOps.freezeArr (.l 3) 4 rfl (by simp) rfl ?_
     refine zA ?_
     exact APure.fin rfl (WkF.ofEq rfl) (by simp) hou rfl
   · obtain ⟨rfl, x, hx, rfl, rfl, _⟩ := (mem_encU _ _ _ _).1 hmem
     obtain ⟨bx, k, ⟨⟩⟩ := x
     refine zA ?_
     refine AOps.step1 rfl rfl rfl (AStep.entry (last := 0) (u := .int .i64 k) (v := .agg []) rfl rfl rfl rfl (encI_find hg.nb hx) rfl) ?_
     refine zA ?_
     have hzl : ((keyL zs).map cI).length = zs.length := by simp [keyL]
     refine AOps.appOwn tabOk rfl rfl rfl rfl rfl rfl rfl rfl rfl (.own 1 cap ((keyL zs).map cI) (.l 3) rfl (by simp [cI]) (by rw [hzl]; exact hcap)) (.sl 1 [cI k]) (by simp) rfl (by simp; show (_ + 1) * 8 ≤ _; omega) (by simp; omega) fun cap' hc => ?_
     refine zM ?_
     refine cInv ⟨leftM lo (bornL (zs ++ [(bx, k, ())])), (zs ++ [(bx, k, ())], some cap'), fun k => if k = 3 then 4 else k, by have := leftM_step (x := (bx, k, ())) hx hnew; simpa [bornL] using this, ⟨?_, ?_, by simpa [keyL] using hc, rfl⟩, LessR.of rfl ?_ (by simp) ?_ rfl rfl hou⟩
     · intro y hy
       rcases List.mem_append.1 hy with hy | hy
       · exact hzs y hy
       · simp at hy; subst hy; exact hx
     · simp only [bornL, List.map_append, List.map_cons, List.map_nil]
       rw [List.nodup_append]
       refine ⟨hnd, by simp, fun a ha b hb e => ?_⟩
       simp at hb
       subst hb; subst e
       exact hnew ha
     · exact FrSub.cons rfl (.ofEq rfl) (FrSub.cons rfl (.ofEq (by simp [keyL, FV.ren, AC.ren]; rfl)) .nil)
     · refine LoSub.cons rfl ?_ rfl (by simp) (LoSub.cons rfl ?_ rfl (by simp) (LoSub.cons rfl (ren_mapU _ _ _).symm rfl (by simp) .nil))
       · rw [AObj.ren_pure _ _ (by simp)]; simp [keyL]
       · simp [AObj.ren, bornL]; rfl
end Go.Proofs.YtpaonemmbhbgoaaGreatDoor
namespace Go.CoreX
end Go.CoreX
namespace Go.Proofs.YtpaonemmbhbgoaaGreatDoor
open Go Go.Abs Go.CoreX
variable {Γ : List (Nat × List AC)}
def ouN (ck : Nat) (l : List (Nat × Int × Int)) : Outer := ouOf [.map ck (encI eN l)]
def SameOk (Γ : List (Nat × List AC)) (a b : Tr) : Prop := ∀ (m : Nm) (ck : Nat) (l : List (Nat × Int × Int)), IMOk m ck l → (sameT a b m).1 = true →
 AFn Tryz.prog Γ 88 [.one (.box (cTr a)), .one (.box (cTr b)), .one (.mp (.o 0))] (ouN ck l) (fun r ou' => r = .one (.lit (.bool true)) ∧ ∃ ck' l', ou' = ouN ck' l' ∧ IMOk (sameT a b m).2 ck' l')
end Go.Proofs.YtpaonemmbhbgoaaGreatDoor
namespace Go.Proofs
open Go.Shelf
def Tryz.lays189_ren : Go.Shelf.Ren := ⟨fun | 189 => 96 | 125 => 118 | 257 => 117 | 128 => 161 | 129 => 162 | 294 => 152 | 295 => 153 | 296 => 154 | 297 => 155 | 298 => 156 | 299 => 157 | 216 => 158 | 300 => 159 | 301 => 160 | 328 => 176 | 329 => 177 | 330 => 178 | 331 => 179 | 332 => 180 | 215 => 181 | 343 => 194 | n => n, fun | 28 => 29 | 3 => 3 | 46 => 161 | 0 => 0 | 51 => 205 | 53 => 207 | 4 => 4 | 183 => 199 | 182 => 198 | 131 => 130 | 5 => 5 | 9 => 9 | 218 => 227 | 222 => 231 | 228 => 244 | 229 => 237 | n => n, fun | n => n⟩
theorem Tryz.lays189 : Go.Proofs.Lays.n189 Tryz.prog Tryz.lays189_ren := {
 mixed := by kernel_rfl
 f125 := Tryz.func118.trans (congrArg some (by kernel_rfl))
 f128 := Tryz.func161.trans (congrArg some (by kernel_rfl))
 f129 := Tryz.func162.trans (congrArg some (by kernel_rfl))
 f189 := Tryz.func96.trans (congrArg some (by kernel_rfl))
 f215 := Tryz.func181.trans (congrArg some (by kernel_rfl))
 f216 := Tryz.func158.trans (congrArg some (by kernel_rfl))
 f257 := Tryz.func117.trans (congrArg some (by kernel_rfl))
 f294 := Tryz.func152.trans (congrArg some (by kernel_rfl))
 f295 := Tryz.func153.trans (congrArg some (by kernel_rfl))
 f296 := Tryz.func154.trans (congrArg some (by kernel_rfl))
 f297 := Tryz.func155.trans (congrArg some (by kernel_rfl))
 f298 := Tryz.func156.trans (congrArg some (by kernel_rfl))
 f299 := Tryz.func157.trans (congrArg some (by kernel_rfl))
 f300 := Tryz.func159.trans (congrArg some (by kernel_rfl))
 f301 := Tryz.func160.trans (congrArg some (by kernel_rfl))
 f328 := Tryz.func176.trans (congrArg some (by kernel_rfl))
 f329 := Tryz.func177.trans (congrArg some (by kernel_rfl))
 f330 := Tryz.func178.trans (congrArg some (by kernel_rfl))
 f331 := Tryz.func179.trans (congrArg some (by kernel_rfl))
 f332 := Tryz.func180.trans (congrArg some (by kernel_rfl))
 f343 := Tryz.func194.trans (congrArg some (by kernel_rfl))
 t0 := Tryz.underlying0
 a0 := Tryz.isAgg0
 z0 := Tryz.sizeOf0
 v0 := Tryz.zeroValue0
 t3 := Tryz.underlying3
 a3 := Tryz.isAgg3
 z3 := Tryz.sizeOf3
 v3 := Tryz.zeroValue3
 t4 := Tryz.underlying4
 a4 := Tryz.isAgg4
 z4 := Tryz.sizeOf4
 v4 := Tryz.zeroValue4
 t5 := Tryz.underlying5
 a5 := Tryz.isAgg5
 z5 := Tryz.sizeOf5
 v5 := Tryz.zeroValue5
 t9 := Tryz.underlying9
 a9 := Tryz.isAgg9
 z9 := Tryz.sizeOf9
 v9 := Tryz.zeroValue9
 t28 := Tryz.underlying29
 a28 := Tryz.isAgg29
 z28 := Tryz.sizeOf29
 v28 := Tryz.zeroValue29
 t46 := Tryz.underlying161
 a46 := Tryz.isAgg161
 z46 := Tryz.sizeOf161
 v46 := Tryz.zeroValue161
 t51 := Tryz.underlying205
 a51 := Tryz.isAgg205
 z51 := Tryz.sizeOf205
 v51 := Tryz.zeroValue205
 t53 := Tryz.underlying207
 a53 := Tryz.isAgg207
 z53 := Tryz.sizeOf207
 v53 := Tryz.zeroValue207
 t131 := Tryz.underlying130
 a131 := Tryz.isAgg130
 z131 := Tryz.sizeOf130
 v131 := Tryz.zeroValue130
 t182 := Tryz.underlying198
 a182 := Tryz.isAgg198
 z182 := Tryz.sizeOf198
 v182 := Tryz.zeroValue198
 t183 := Tryz.underlying199
 a183 := Tryz.isAgg199
 z183 := Tryz.sizeOf199
 v183 := Tryz.zeroValue199
 t218 := Tryz.underlying227
 a218 := Tryz.isAgg227
 z218 := Tryz.sizeOf227
 v218 := Tryz.zeroValue227
 t222 := Tryz.underlying231
 a222 := Tryz.isAgg231
 z222 := Tryz.sizeOf231
 v222 := Tryz.zeroValue231
 t228 := Tryz.underlying244
 a228 := Tryz.isAgg244
 z228 := Tryz.sizeOf244
 v228 := Tryz.zeroValue244
 t229 := Tryz.underlying237
 a229 := Tryz.isAgg237
 z229 := Tryz.sizeOf237
 v229 := Tryz.zeroValue237 }
open Go.Sort Go.RowKit in
theorem Tryz.slices_Sort_int (blk off cap : Nat) (zs : List Int) (w : World) (hH : Holds (Value.int .i64) w blk off zs.toArray) (hblk : blk < w.heap.size) (hsz : zs.length < 4611686018427387904) :
   Calls Tryz.prog 96 #[.slice (some ⟨blk, off, none⟩) zs.length cap] w fun e w' =>
     e = .returned (.tuple #[]) ∧ ∃ n os, w' = grow (putRow (Value.int .i64) (Sort.ahead w n) blk off (zs.mergeSort fun x y => decide (x ≤ y)).toArray) os := Any.slices_Sort_int Tryz.lays189 blk off cap zs w hH hblk hsz
theorem Tryz.slices_Sort_int_none (p : Option Addr) (cap : Nat) (w : World) :
   Calls Tryz.prog 96 #[.slice p 0 cap] w fun e w' => e = .returned (.tuple #[]) ∧ w' = w := Any.slices_Sort_int_none Tryz.lays189 p cap w
end Go.Proofs
namespace Go.Proofs.YtpaonemmbhbgoaaGreatDoor
open Go Go.Sort
theorem sortOk : SortOk := fun blk off cap zs w hH hblk hsz => Tryz.slices_Sort_int blk off cap zs w hH hblk hsz
theorem sortNil : SortNil := fun w => Tryz.slices_Sort_int_none none 0 w
end Go.Proofs.YtpaonemmbhbgoaaGreatDoor
namespace Go.CoreX
theorem okT_grow {e : List Ex} (h : ∀ x ∈ e, x.binds.length ≤ 1048576 ∧ x.kids.length ≤ 1048576 ∧ x.alts.length ≤ 1048576 ∧ (∀ a ∈ x.alts, a.binds.length ≤ 1048576) ∧ x.binds.length + (x.alts.flatMap (·.binds)).length ≤ 4194304) (hk : kidsIn e) : ∀ t ∈ growL e, okT t := by
 revert h hk
 refine snoc_ind (P := fun e => (∀ x ∈ e, x.binds.length ≤ 1048576 ∧ x.kids.length ≤ 1048576 ∧ x.alts.length ≤ 1048576 ∧ (∀ a ∈ x.alts, a.binds.length ≤ 1048576) ∧ x.binds.length + (x.alts.flatMap (·.binds)).length ≤ 4194304) → kidsIn e → ∀ t ∈ growL e, okT t) (fun _ _ t ht => by simp [growL] at ht) (fun e x ih h hk t ht => ?_) e
 obtain ⟨h1, h2⟩ := kidsIn_snoc.1 hk
 have ih := ih (fun y hy => h y (by simp [hy])) h1
 rw [growL_snoc] at ht
 rcases List.mem_append.1 ht with ht | ht
 · exact ih t ht
 · simp at ht
   subst ht
   obtain ⟨a1, a2, a3, a4, a5⟩ := h x (by simp)
   refine ⟨a1, by simpa using a2, a3, ⟨a4, a5⟩, okTs_iff.2 fun s hs => ?_⟩
   obtain ⟨k, hk2, rfl⟩ := List.mem_map.1 hs
   have hkb := h2 k hk2
   have hl : k.toNat < (growL e).length := by rw [growL_len]; omega
   rw [List.getD_eq_getElem?_getD, List.getElem?_eq_getElem hl]
   exact ih _ (List.getElem_mem hl)
theorem grow_mem {e : List Ex} (h : e ≠ []) : grow e ∈ growL e := by
 have hl : e.length - 1 < (growL e).length := by rw [growL_len]; have := List.length_pos_iff.2 h; omega
 unfold grow
 rw [List.getD_eq_getElem?_getD, List.getElem?_eq_getElem hl]
 exact List.getElem_mem hl
theorem firstErr_at {α : Type} {f : α → Int} : ∀ {l : List α} {j : Nat} {x : α}, (∀ y ∈ l.take j, f y = 0) → l[j]? = some x → f x ≠ 0 → firstErr f l = f x
 | [], j, x, _, h, _ => by simp at h
 | a :: l, 0, x, _, h, hx => by simp at h; subst h; simp [firstErr, hx]
 | a :: l, j + 1, x, h0, h, hx => by
   have h1 := h0 a (by simp)
   simp only [firstErr, h1]
   exact firstErr_at (l := l) (j := j) (fun y hy => h0 y (by simp [hy])) (by simpa using h) hx
theorem freeOf_len (t : Tr) : (freeOf t).length ≤ (listT [] t).length := by
 have h1 : (freeOf t).Nodup := (sortS_sorted (occT [] t)).imp fun {a b} h => by omega
 have h2 := nodup_le h1 (m := occB (fun _ => 0) t) fun x hx => by rw [freeOf_occB] at hx; exact (sortS_mem x _).1 hx
 have h3 := occB_len t (fun _ => 0) []
 simp at h3
 omega
theorem len_tree {e : List Ex} (h : IsTree e) : (listT [] (grow e)).length = e.length := by
 have hp := labs_perm h (isTree_list (grow e)) (grow_list _).symm
 rw [← len_labs e, ← len_labs]; exact hp.length_eq.symm
end Go.CoreX
namespace Go.Proofs.YtpaonemmbhbgoaaGreatDoor
open Go Go.Abs Go.CoreX
structure okB (e : List Ex) : Prop where
 eo : okE e
 b : ∀ x ∈ e, x.binds.length + (x.alts.flatMap (·.binds)).length ≤ 4194304
theorem okB.ex {e : List Ex} (h : okB e) : ∀ x ∈ e, (exBinders x).length ≤ 4194304 ∧ x.binds.length + (x.alts.flatMap (·.binds)).length ≤ 4194304 := fun x hx => by
 have h1 := h.b x hx
 refine ⟨?_, h1⟩
 unfold exBinders bindersN
 rw [List.length_append]
 split
 · omega
 · simp only [List.length_nil]; omega
theorem okB.t {e : List Ex} (h : okB e) (hk : kidsIn e) (hne : e ≠ []) : okT (grow e) := okT_grow (fun x hx => ⟨(h.eo.x x hx).b, (h.eo.x x hx).k, (h.eo.x x hx).a, (h.eo.x x hx).ab, h.b x hx⟩) hk _ (grow_mem hne)
theorem hΓcF : ∀ g cs, (g, cs) ∈ Γc → idsL (fun _ => False) cs := fun g cs h => by
 simp [Γc] at h
 first
   | (obtain ⟨rfl, rfl⟩ := h; simp [arC, arityL]; done)
   | (rcases h with ⟨rfl, rfl⟩ | ⟨rfl, rfl⟩ <;> simp [arC, orC, arityL])
set_option maxHeartbeats 1000000 in
theorem Body_ok (e : List Ex) (he : okB e) (params : List Int) (hp : params.length ≤ 1048576) (flat : Bool) :
   APure Tryz.prog Γc 48 [.one (.sl 5 (e.map cEx)), .one (.sl 1 (params.map cI)), .one (.lit (.bool flat))] (.one (int (body e params flat))) := by
 have hel := he.eo.l
 intro ou
 refine AFn.walk 62 tabOk Tryz.func48 rfl (by kernel_rfl) rfl rfl fun hou => ?_
 refine zA ?_
 refine AOps.freeze1 (.l 0) 3 rfl rfl ?_
 refine zca hΓc (treeError_ok hΓc e he.eo) hou ?_
 refine zA ?_
 refine ACode.cond rfl (fun hb => ?_) (fun hb => ?_)
 · have hb' : treeErr e ≠ 0 := by simpa using hb
   refine zA ?_
   refine APure.fin rfl (WkF.ofEq ?_) (by simp) hou rfl
   unfold body
   rw [if_pos hb']
 have h1 : treeErr e = 0 := by simpa using hb
 clear hb
 obtain ⟨t1, t2, t3⟩ := (treeErr_iff e).1 h1
 have hn : body e params flat = if firstErr (nodeErrF flat e) e ≠ 0 then firstErr (nodeErrF flat e) e else if hasDup (params ++ allBinders e) = true then 7 else if (freeOf (grow e)).all (fun n => params.contains n) = true then 0 else 6 := by
   unfold body; rw [if_neg (by simpa using h1)]
 refine zA ?_
 refine ACode.loopR hΓc (α := Nat) (fun j => [(20, .one (int j)), (19, .one (int (e.map cEx).length)), (18, .one (.sl 5 (e.map cEx))), (3, .one (.box [.sl 5 (e.map cEx)])), (2, .one (.lit (.bool flat))), (1, .one (.sl 1 (params.map cI)))])
   (fun j => ⟨0, [], ou⟩) (fun m j => j ≤ e.length ∧ (∀ x ∈ e.take j, nodeErrF flat e x = 0) ∧ m = e.length - j) (a0 := 0) (ρ := id) ⟨by omega, by simp, rfl⟩ (LessR.of rfl (by (repeat' first | exact FrSub.nil | refine zfc ?_ | refine zfo ?_ | refine zfp ?_)) (by simp) (by repeat' first | exact LoSub.nil | refine zlc ?_ | refine zld ?_ ?_ | rfl) rfl rfl hou) fun m j hj => ?_
 obtain ⟨hjl, hno, rfl⟩ := hj
 refine zA ?_
 refine ACode.cond rfl (fun hb2 => ?_) (fun hb2 => ?_)
 · have hlt : j < e.length := by simpa using hb2
   obtain ⟨x, hx⟩ := get_of_lt hlt
   have hxm := List.mem_of_getElem? hx
   have hxo := he.eo.x x hxm
   have bad : nodeErrF flat e x ≠ 0 → body e params flat = nodeErrF flat e x := fun h => by
     rw [hn, firstErr_at hno hx h, if_pos h]
   have hkk : ∀ k ∈ x.kids, 0 ≤ k ∧ k.toNat < e.length := fun k hk => by have := kids_lt t2.k hxm k hk; omega
   have hcall := nodeError_ok e x hxo hkk
   refine zA ?_
   refine AOps.step1 rfl rfl rfl (AStep.indexAddr tabOk rfl rfl rfl rfl rfl rfl (.inl rfl) rfl (by omega) (map_get hx)) ?_
   cases flat with
   | false =>
     have hE : nodeErrF false e x = if flatOnly x.op = true then 3 else nodeErr e x := by simp [nodeErrF]
     repeat' first | refine zN ?_ | (with_reducible refine oj ?_; refine AOps.splitS rfl rfl rfl rfl (fun hb => ?_) (fun hb => ?_)) | (with_reducible refine ok ?_; first | refine ACode.condS rfl (fun hb => ?_) (fun hb => ?_) | refine ACode.cond rfl (fun hb => ?_) (fun hb => ?_))
     refine zca hΓc (flatOnly_ok x.op) hou ?_
     repeat' first | refine zN ?_ | (with_reducible refine oj ?_; refine AOps.splitS rfl rfl rfl rfl (fun hb => ?_) (fun hb => ?_)) | (with_reducible refine ok ?_; first | refine ACode.condS rfl (fun hb => ?_) (fun hb => ?_) | refine ACode.cond rfl (fun hb => ?_) (fun hb => ?_))
     all_goals try
       (refine APure.fin rfl (WkF.ofEq ?_) (by simp) hou rfl
        rw [bad (by rw [hE, if_pos hb]; decide), hE, if_pos hb]
        done)
     rw [if_neg (by rw [hb]; decide)] at hE
     refine zca hΓc hcall hou ?_
     refine zA ?_
     refine ACode.cond rfl (fun hb3 => ?_) (fun hb3 => ?_)
     · have h3 : nodeErr e x ≠ 0 := by simpa using hb3
       refine zA ?_
       refine APure.fin rfl (WkF.ofEq ?_) (by simp) hou rfl
       rw [bad (by rw [hE]; exact h3), hE]
     · have h3 : nodeErr e x = 0 := by simpa using hb3
       refine zM ?_
       exact cInv ⟨e.length - (j + 1), j + 1, id, by omega, ⟨by omega, take_all hno hx (by rw [hE]; exact h3), rfl⟩, LessR.of rfl (by (repeat' first | exact FrSub.nil | refine zfc ?_ | refine zfo ?_ | refine zfp ?_)) (by simp) (by repeat' first | exact LoSub.nil | refine zlc ?_ | refine zld ?_ ?_ | rfl) rfl rfl hou⟩
   | true =>
     have hE : nodeErrF true e x = if coreOnly x.op = true then 3 else nodeErr e x := by simp [nodeErrF]
     repeat' first | refine zN ?_ | (with_reducible refine oj ?_; refine AOps.splitS rfl rfl rfl rfl (fun hb => ?_) (fun hb => ?_)) | (with_reducible refine ok ?_; first | refine ACode.condS rfl (fun hb => ?_) (fun hb => ?_) | refine ACode.cond rfl (fun hb => ?_) (fun hb => ?_))
     refine zca hΓc (coreOnly_ok x.op) hou ?_
     repeat' first | refine zN ?_ | (with_reducible refine oj ?_; refine AOps.splitS rfl rfl rfl rfl (fun hb => ?_) (fun hb => ?_)) | (with_reducible refine ok ?_; first | refine ACode.condS rfl (fun hb => ?_) (fun hb => ?_) | refine ACode.cond rfl (fun hb => ?_) (fun hb => ?_))
     all_goals try
       (refine APure.fin rfl (WkF.ofEq ?_) (by simp) hou rfl
        rw [bad (by rw [hE, if_pos hb]; decide), hE, if_pos hb]
        done)
     rw [if_neg (by rw [hb]; decide)] at hE
     refine zca hΓc hcall hou ?_
     refine zA ?_
     refine ACode.cond rfl (fun hb3 => ?_) (fun hb3 => ?_)
     · have h3 : nodeErr e x ≠ 0 := by simpa using hb3
       refine zA ?_
       refine APure.fin rfl (WkF.ofEq ?_) (by simp) hou rfl
       rw [bad (by rw [hE]; exact h3), hE]
     · have h3 : nodeErr e x = 0 := by simpa using hb3
       refine zM ?_
       exact cInv ⟨e.length - (j + 1), j + 1, id, by omega, ⟨by omega, take_all hno hx (by rw [hE]; exact h3), rfl⟩, LessR.of rfl (by (repeat' first | exact FrSub.nil | refine zfc ?_ | refine zfo ?_ | refine zfp ?_)) (by simp) (by repeat' first | exact LoSub.nil | refine zlc ?_ | refine zld ?_ ?_ | rfl) rfl rfl hou⟩
 have hlt : j = e.length := by simp at hb2; omega
 subst hlt
 rw [List.take_length] at hno
 rw [if_neg (by rw [Classical.not_not]; exact (firstErr_zero _ _).2 hno)] at hn
 clear hno hb2 hjl
 have hgt := he.t t2.k t2.ne
 refine zA ?_
 refine zca hΓc (twice_ok hΓc e he.eo params hp he.ex) hou ?_
 refine zA ?_
 refine ACode.cond rfl (fun hb => ?_) (fun hb => ?_)
 · refine zA ?_
   refine APure.fin rfl (WkF.ofEq ?_) (by simp) hou rfl
   rw [hn, if_pos hb]
 rw [if_neg (by rw [hb]; decide)] at hn
 refine zA ?_
 refine zca hΓc (Grow_ok hΓc e he.eo t2.k t2.ne) hou ?_
 refine zca hΓc (FreeOf_ok hΓc hΓcF sortOk sortNil (grow e) hgt (by omega) (by rw [len_tree t2]; omega)) hou ?_
 have hfl := freeOf_len (grow e)
 rw [len_tree t2] at hfl
 generalize freeOf (grow e) = fs at hn hfl
 refine zA ?_
 refine ACode.loopR hΓc (α := Nat) (fun j => [(53, .one (int j)), (52, .one (int (fs.map cI).length)), (51, .one (.sl 1 (fs.map cI))), (1, .one (.sl 1 (params.map cI)))])
   (fun j => ⟨0, [], ou⟩) (fun m j => j ≤ fs.length ∧ (∀ x ∈ fs.take j, params.contains x = true) ∧ m = fs.length - j) (a0 := 0) (ρ := id) ⟨by omega, by simp, rfl⟩ (LessR.of rfl (by (repeat' first | exact FrSub.nil | refine zfc ?_ | refine zfo ?_ | refine zfp ?_)) (by simp) (by repeat' first | exact LoSub.nil | refine zlc ?_ | refine zld ?_ ?_ | rfl) rfl rfl hou) fun m j hj => ?_
 obtain ⟨hjl, hno, rfl⟩ := hj
 refine zA ?_
 refine ACode.cond rfl (fun hb2 => ?_) (fun hb2 => ?_)
 · have hlt : j < fs.length := by simpa using hb2
   obtain ⟨k, hk⟩ := get_of_lt hlt
   refine zA ?_
   refine AOps.step1 rfl rfl rfl (AStep.indexAddr tabOk rfl rfl rfl rfl rfl rfl (.inl rfl) rfl (by omega) (map_get hk)) ?_
   refine zA ?_
   refine zca hΓc (Contains_ok hΓc params hp k) hou ?_
   refine zA ?_
   refine ACode.cond rfl (fun hb3 => ?_) (fun hb3 => ?_)
   · refine zA ?_
     refine APure.fin rfl (WkF.ofEq ?_) (by simp) hou rfl
     rw [hn, if_neg]
     rw [List.all_eq_true]
     intro h
     have := h k (List.mem_of_getElem? hk)
     rw [this] at hb3; cases hb3
   · refine zM ?_
     exact cInv ⟨fs.length - (j + 1), j + 1, id, by omega, ⟨by omega, take_all hno hk (by simpa using hb3), rfl⟩, LessR.of rfl (by (repeat' first | exact FrSub.nil | refine zfc ?_ | refine zfo ?_ | refine zfp ?_)) (by simp) (by repeat' first | exact LoSub.nil | refine zlc ?_ | refine zld ?_ ?_ | rfl) rfl rfl hou⟩
 · have hlt : j = fs.length := by simp at hb2; omega
   subst hlt
   rw [List.take_length] at hno
   refine zA ?_
   refine APure.fin rfl (WkF.ofEq ?_) (by simp) hou rfl
   rw [hn, if_pos (List.all_eq_true.2 hno)]
theorem Check_ok (e : List Ex) (he : okB e) : APure Tryz.prog Γc 13 [.one (.sl 5 (e.map cEx))] (.one (int (check e))) := by
 intro ou
 refine AFn.walk 5 tabOk Tryz.func13 rfl (by kernel_rfl) rfl rfl fun hou => ?_
 refine zA ?_
 refine AOps.callCW (ws := [.one (.sl 5 (e.map cEx)), .one (.sl 1 (([] : List Int).map cI)), .one (.lit (.bool false))]) hΓc (Body_ok e he [] (by simp) false) rfl rfl rfl rfl rfl rfl ?_ hou (by simp) ?_
 · exact .cons (.refl _) (.cons (.one (.nilS 1)) (.cons (.refl _) .nil))
 refine zA ?_
 exact APure.fin rfl (WkF.ofEq rfl) (by simp) hou rfl
variable {Γ : List (Nat × List AC)}
end Go.Proofs.YtpaonemmbhbgoaaGreatDoor
namespace Go.Abs
theorem AStep.wk {E : Env} {o : Oper} {fr : Fr} {σ σ' : St} {x y : FV} (h : AStep E o fr σ x σ') (hw : WkF x y) : AStep E o fr σ y σ' :=
 fun F w C tmps hi hf next Q hk => h F w C tmps hi hf next Q fun u w' C' a b c => hk u w' C' a b (hw _ _ _ c)
end Go.Abs
namespace Go.Proofs.YtpaonemmbhbgoaaGreatDoor
open Go Go.Abs Go.CoreX
variable {Γ : List (Nat × List AC)}
mutual
def encNd : Tr → List AC
 | .mk o n b k a => [int o, int n, .sl 1 (b.map cI), .any, .sl 2 (a.map cAlt), .sl 1 (encNds k)]
def encNds : List Tr → List (List AC)
 | [] => []
 | t :: ts => [.box (encNd t)] :: encNds ts
end
def cNd (t : Tr) : List AC := [int t.op, int t.n, .sl 1 (t.binds.map cI), .any, .sl 2 (t.alts.map cAlt), .sl 1 (encNds t.kids)]
theorem encNd_eq (t : Tr) : encNd t = cNd t := by cases t; simp [encNd, cNd]
theorem encNds_eq : ∀ l : List Tr, encNds l = l.map fun t => [.box (cNd t)]
 | [] => rfl
 | t :: ts => by simp [encNds, encNds_eq ts, encNd_eq]
theorem encNds_get {l : List Tr} {i : Nat} {t : Tr} (h : l[i]? = some t) : (encNds l)[i]? = some [.box (cNd t)] := by rw [encNds_eq]; simp [h]
mutual
theorem ids_encNd (p : Abs.Id → Prop) : ∀ t : Tr, idsL p (encNd t)
 | .mk o n b k a => by simp [encNd, ids_encNds p k]
theorem ids_encNds (p : Abs.Id → Prop) : ∀ l : List Tr, idsS p (encNds l)
 | [] => by simp [encNds]
 | t :: ts => by simp [encNds, ids_encNd p t, ids_encNds p ts]
end
attribute [simp] ids_encNds
@[simp] theorem ids_cNd (p : Abs.Id → Prop) (t : Tr) : idsL p (cNd t) := by simp [cNd]
@[simp] theorem len_encNds (l : List Tr) : (encNds l).length = l.length := by rw [encNds_eq]; simp
theorem N_ok (op n : Int) (ks : List Tr) : APure Tryz.prog Γ 26 [.one (int op), .one (int n), .one (.sl 1 (encNds ks))] (.one (.box (cNd (.mk op n [] ks [])))) := by
 intro ou
 refine AFn.walk 13 tabOk Tryz.func26 rfl (by kernel_rfl) rfl rfl fun hou => ?_
 iterate 14 (first | ((with_reducible refine oj ?_); refine zau ?_) | (with_reducible refine zst ?_) | ((with_reducible refine cExitMiss ?_ ?_); rfl) | (with_reducible refine ok ?_; first | refine ACode.condT rfl ?_ | refine ACode.condF rfl ?_))
 refine AOps.freeze1 (.l 0) 6 rfl rfl ?_
 refine zA ?_
 refine APure.fin rfl (.one (Wk.box ?_)) (by simp) hou rfl
 exact .cons (.refl _) (.cons (.refl _) (.cons (.nilS 1) (.cons (.any _) (.cons (.nilS 2) (.cons (.refl _) .nil)))))
theorem V_ok (hΓ : ∀ g cs, (g, cs) ∈ Γ → idsL isO cs) (n : Int) : APure Tryz.prog Γ 17 [.one (int n)] (.one (.box (cNd (.mk 0 n [] [] [])))) := by
 intro ou
 refine AFn.walk 5 tabOk Tryz.func17 rfl (by kernel_rfl) rfl rfl fun hou => ?_
 refine zA ?_
 refine AOps.callCW (ws := [.one (int 0), .one (int n), .one (.sl 1 (encNds []))]) hΓ (N_ok 0 n []) rfl rfl rfl rfl rfl rfl ?_ hou (by simp) ?_
 · exact .cons (.refl _) (.cons (.refl _) (.cons (.one (.nilS 1)) .nil))
 refine zA ?_
 exact APure.fin rfl (WkF.ofEq rfl) (by simp) hou rfl
def IntoOk (Γ : List (Nat × List AC)) (t : Tr) : Prop := ∀ (ou : Outer) (ko kt : Nat) (out : List Ex), OuOk ou → ou ko = none → ou kt = none → ko ≠ kt → (listT out t).length ≤ 1048576 →
 AFn Tryz.prog Γ 52 [.one (.box (cNd t)), .one (.ptr (.o ko) 0)] (ouS ou ko kt (out.map cEx)) (fun r ou' => r = .one (int (((listT out t).length : Int) - 1)) ∧ ∃ kt', ou kt' = none ∧ ko ≠ kt' ∧ ou' = ouS ou ko kt' ((listT out t).map cEx))
set_option maxHeartbeats 1000000 in
theorem into_ok (hΓ : ∀ g cs, (g, cs) ∈ Γ → idsL isO cs) : ∀ t : Tr, okT t → IntoOk Γ t
 | .mk o n b ks a, hok => by
   obtain ⟨hb, hk, ha, ⟨hab, _⟩, hks⟩ := hok
   have ih : ∀ t ∈ ks, IntoOk Γ t := fun t ht => into_ok hΓ t (okTs_iff.1 hks t ht)
   intro ou ko kt out hou0 ho ht hne hsz
   have hsz2 : (listTs out ks).1.length < 1048576 := by simp only [listT, List.length_append, List.length_singleton] at hsz; omega
   refine AFn.walk 44 tabOk Tryz.func52 rfl (by kernel_rfl) rfl rfl fun hou => ?_
   refine zA ?_
   refine ACode.grow 0 3 3 1 rfl rfl ?_
   refine ACode.loopR hΓ (α := Nat × Nat) (fun c => [(18, .one (int c.1)), (17, .one (int (encNds ks).length)), (16, .one (.sl 1 (encNds ks))), (5, .one (.ptr (.l 0) 0)), (1, .one (.ptr (.o ko) 0))])
     (fun c => ⟨2, [(1, .tok 3 1 c.1), (0, .cells [int o, int n, .sl 1 (b.map cI), .gs 1 ((listTs out (ks.take c.1)).2.map cI) (.l 1), .sl 2 (a.map cAlt)])], ouS ou ko c.2 ((listTs out (ks.take c.1)).1.map cEx)⟩)
     (fun m c => c.1 ≤ ks.length ∧ (ou c.2 = none ∧ ko ≠ c.2) ∧ m = ks.length - c.1) (a0 := (0, kt)) (ρ := id) ⟨by omega, ⟨ht, hne⟩, rfl⟩ (LessR.of rfl (by (repeat' first | exact FrSub.nil | refine zfc ?_ | refine zfo ?_ | refine zfp ?_)) (by simp) ?_ rfl (by simp [listTs]; rfl) hou) fun m c hi => ?_
   · repeat' first | exact LoSub.nil | refine zlc ?_ | refine zld ?_ ?_ | rfl
     all_goals (simp [AObj.ren, renL, AC.ren, listTs]; rfl)
   obtain ⟨i, kt⟩ := c
   obtain ⟨hil, ⟨ht, hne⟩, rfl⟩ := hi
   simp only at hil ht hne
   have hle : (listTs out (ks.take i)).1.length ≤ (listTs out ks).1.length := by
     have := listTs_app (ks.take i) (ks.drop i) out
     rw [List.take_append_drop] at this
     rw [this]; exact listTs_le _ _
   refine zA ?_
   refine ACode.cond rfl (fun hb3 => ?_) (fun hb3 => ?_)
   · have hlt2 : i < ks.length := by simpa using hb3
     obtain ⟨t, ht2⟩ := get_of_lt hlt2
     have hsn := listTs_snoc t (ks.take i) out
     rw [← take_get ht2] at hsn
     have hle2 : (listT (listTs out (ks.take i)).1 t).length ≤ 1048576 := by
       have := listTs_app (ks.take (i + 1)) (ks.drop (i + 1)) out
       rw [List.take_append_drop] at this
       have h2 := listTs_le (ks.drop (i + 1)) (listTs out (ks.take (i + 1))).1
       rw [← this, hsn] at h2
       simp only at h2
       omega
     have hcall := ih t (List.mem_of_getElem? ht2) ou ko kt (listTs out (ks.take i)).1 hou0 ho ht hne hle2
     have hil2 : ((listTs out (ks.take i)).2.map cI).length = i := by rw [List.length_map, listTs_ix_len]; simp; omega
     refine zA ?_
     refine AOps.step1 rfl rfl rfl (AStep.indexAddr tabOk rfl rfl rfl rfl rfl rfl (.inl rfl) rfl (by omega) (encNds_get ht2)) ?_
     refine zA ?_
     refine ACode.drawXR (va := .one (int (((listT (listTs out (ks.take i)).1 t).length : Int) - 1))) tabOk 6 4 []
       (fun σ => ∃ kt', ou kt' = none ∧ ko ≠ kt' ∧ σ = ⟨2, [(1, .tok 3 1 i), (0, .cells [int o, int n, .sl 1 (b.map cI), .gs 1 ((listTs out (ks.take i)).2.map cI) (.l 1), .sl 2 (a.map cAlt)])], ouS ou ko kt' ((listT (listTs out (ks.take i)).1 t).map cEx)⟩)
       follows (by kernel_rfl) rfl rfl rfl rfl rfl ?_ rfl ⟨rfl, rfl⟩ rfl ?_ .nil ?_ ?_
     · rintro σ ⟨kt', h1, h2, rfl⟩; rfl
     · refine AStepR.call hΓ rfl rfl rfl rfl (by simp) (ouS_ok hou0 (by simp)) hcall fun r ou' hq _ _ => ?_
       obtain ⟨rfl, kt', h1, h2, rfl⟩ := hq
       exact ⟨rfl, kt', h1, h2, rfl⟩
     · intro σ _; exact .nil
     rintro σ ⟨kt', h1, h2, rfl⟩
     refine zA ?_
     refine AOps.app tabOk rfl rfl rfl rfl rfl rfl rfl rfl rfl (Base.gs' _ _ _ _ _ (by rfl) hil2.symm) (.sl _ _) rfl ?_ ?_ ?_
     · rw [hil2]; show (i + 1) * 8 ≤ _; omega
     · rw [hil2]; show i + 1 ≤ _; omega
     refine zM ?_
     refine cInv ⟨ks.length - (i + 1), (i + 1, kt'), fun k => if k = 1 then 2 else k, by omega, ⟨by omega, ⟨h1, h2⟩, rfl⟩, LessR.of rfl (by (repeat' first | exact FrSub.nil | refine zfc ?_ | refine zfo ?_ | refine zfp ?_)) (by simp) ?_ rfl (by simp only [hsn]; rfl) (ouS_ok hou0 (by simp))⟩
     repeat' first | exact LoSub.nil | refine zlc ?_ | refine zld ?_ ?_ | rfl
     · simp only [AObj.ren, List.length_append, hil2]; rfl
     · simp only [hsn]; simp only [AObj.ren, renL, AC.ren, ren_cIs, ren_cAlts]; rw [List.map_append]; rfl
   have hlt2 : i = ks.length := by simp at hb3; omega
   subst hlt2
   rw [List.take_length] at *
   refine zA ?_
   have hT : listT out (.mk o n b ks a) = (listTs out ks).1 ++ [⟨o, n, b, (listTs out ks).2, a⟩] := by simp only [listT]
   have hmap : (listTs out ks).1.map cEx ++ [cEx ⟨o, n, b, (listTs out ks).2, a⟩] = (listT out (.mk o n b ks a)).map cEx := by rw [hT, List.map_append]; rfl
   have hw : WkF (.agg [int o, int n, .sl 1 (b.map cI), .gs 1 ((listTs out ks).2.map cI) (.l 1), .sl 2 (a.map cAlt)]) (.agg (cEx ⟨o, n, b, (listTs out ks).2, a⟩)) := WkF.agg (.cons (.refl _) (.cons (.refl _) (.cons (.refl _) (.cons (.gsE rfl) (.cons (.refl _) .nil)))))
   have hko : (bif Nat.beq ko kt then some AObj.dead else ouS ou ko kt ((listTs out ks).1.map cEx) ko) = some (.cells [.gs 5 ((listTs out ks).1.map cEx) (.o kt)]) := by rw [beq_no hne]; exact ouS_o hne _
   refine ACode.drawXH (va := .one (.gs 5 ((listTs out ks).1.map cEx ++ [cEx ⟨o, n, b, (listTs out ks).2, a⟩]) (.l 2))) (σ1 := (St.set ⟨2, [(1, .tok 3 1 ks.length), (0, .cells [int o, int n, .sl 1 (b.map cI), .gs 1 ((listTs out ks).2.map cI) (.l 1), .sl 2 (a.map cAlt)])], ouS ou ko kt ((listTs out ks).1.map cEx)⟩ (.o kt) .dead).push (.tok 57 5 ((listTs out ks).1.map cEx ++ [cEx ⟨o, n, b, (listTs out ks).2, a⟩]).length))
     tabOk 7 6 [(3, .one (.gs 5 ((listTs out ks).1.map cEx) (.o kt))), (4, .agg (cEx ⟨o, n, b, (listTs out ks).2, a⟩))] follows (by kernel_rfl) rfl rfl rfl rfl rfl rfl rfl ?_ ?_ ?_ ?_
   · refine HStep.plain rfl (AStep.append (s := 5) (es := (listTs out ks).1.map cEx) (news := [cEx ⟨o, n, b, (listTs out ks).2, a⟩]) (ti := ti22) (σ := ⟨2, [(1, .tok 3 1 ks.length), (0, .cells [int o, int n, .sl 1 (b.map cI), .gs 1 ((listTs out ks).2.map cI) (.l 1), .sl 2 (a.map cAlt)])], ouS ou ko kt ((listTs out ks).1.map cEx)⟩) tabOk rfl rfl rfl rfl rfl rfl (Base.gs' _ 57 5 _ (.o kt) (ouS_t ou ko kt _) rfl) (.sl _ _) rfl ?_ ?_)
     · simp; show (_ + 1) * 88 ≤ _; omega
     · simp; omega
   · refine .step rfl (HStep.plain rfl (AStep.loadOwn tabOk rfl rfl rfl rfl rfl (ouS_o hne _) rfl)) ?_
     exact .step rfl (HStep.plain rfl (AStep.wk (AStep.ofOp tabOk rfl) hw)) .nil
   · refine .step rfl (HStep.plain rfl (AStep.loadOwn tabOk rfl rfl rfl rfl rfl hko rfl)) ?_
     exact .step rfl (HStep.plain rfl (AStep.wk (AStep.ofOp tabOk rfl) hw)) .nil
   rw [hmap]
   refine zA ?_
   refine AOps.storeOwn (cs := [.gs 5 ((listTs out ks).1.map cEx) (.o kt)]) tabOk rfl rfl rfl rfl rfl rfl rfl hko (by simp) ?_
   refine AOps.cede 2 (show 2 < 3 by omega) fun k hk => ⟨[(1, .one (.ptr (.o ko) 0))], ⟨3, [], ouS ou ko k ((listT out (.mk o n b ks a)).map cEx)⟩, ⟨fun d x hd => ?_, rfl, fun i x hx => ?_⟩, ?_⟩
   · by_cases e : 1 = d
     · subst e
       simp [Fr.get] at hd; subst hd
       exact ⟨_, rfl, WkF.ofEq rfl⟩
     · simp [Fr.get, beq_no e] at hd
   · have hk' : (bif Nat.beq k ko then some (AObj.cells [.gs 5 ((listT out (.mk o n b ks a)).map cEx) (.l 2)]) else bif Nat.beq k kt then some AObj.dead else ouS ou ko kt ((listTs out ks).1.map cEx) k) = none := hk
     have k1 : k ≠ ko := fun e => by subst e; simp at hk'
     rw [beq_no k1] at hk'
     have k2 : k ≠ kt := fun e => by subst e; simp at hk'
     rw [beq_no k2] at hk'
     simp only [cond_false, ouS_w k1 k2] at hk'
     cases i with
     | l m => cases hx
     | o m =>
       have hx' : ouS ou ko k ((listT out (.mk o n b ks a)).map cEx) m = some x := hx
       by_cases e : m = k
       · subst e
         rw [ouS_t] at hx'; cases hx'
         exact ⟨.l 2, _, rfl, rfl, rfl⟩
       · by_cases e2 : m = ko
         · subst e2
           rw [ouS_o e] at hx'; cases hx'
           refine ⟨.o m, .cells [.gs 5 ((listT out (.mk o n b ks a)).map cEx) (.l 2)], ?_, rfl, ?_⟩
           · show (bif Nat.beq m m then _ else _) = _; rw [beq_self]; rfl
           · simp only [AObj.sub, subL, AC.sub]; rw [subS_o _ (by simp)]; rfl
         · rw [ouS_w e2 e] at hx'
           have e3 : m ≠ kt := fun e => by rw [e, ht] at hx'; cases hx'
           refine ⟨.o m, x, ?_, rfl, (AObj.sub_o x (hou0 m x hx')).symm⟩
           show (bif Nat.beq m ko then _ else bif Nat.beq m kt then _ else ouS ou ko kt _ m) = _
           rw [beq_no e2, beq_no e3]
           exact (ouS_w e2 e3 _).trans hx'
   · have hk' : (bif Nat.beq k ko then some (AObj.cells [.gs 5 ((listT out (.mk o n b ks a)).map cEx) (.l 2)]) else bif Nat.beq k kt then some AObj.dead else ouS ou ko kt ((listTs out ks).1.map cEx) k) = none := hk
     have k1 : k ≠ ko := fun e => by subst e; simp at hk'
     rw [beq_no k1] at hk'
     have k2 : k ≠ kt := fun e => by subst e; simp at hk'
     rw [beq_no k2] at hk'
     simp only [cond_false, ouS_w k1 k2] at hk'
     refine zA ?_
     refine AOps.step1 rfl rfl rfl (AStep.loadOwn tabOk rfl rfl rfl rfl rfl (ouS_o (Ne.symm k1) _) rfl) ?_
     refine zM ?_
     refine AFn.fin' rfl (WkF.ofEq ?_) (by simp) (ouS_ok hou0 (by simp)) ⟨rfl, k, hk', Ne.symm k1, rfl⟩
     simp
theorem NodeList_ok (hΓ : ∀ g cs, (g, cs) ∈ Γ → idsL isO cs) (t : Tr) (ht : okT t) (hsz : (listT [] t).length ≤ 1048576) : APure Tryz.prog Γ 19 [.one (.box (cNd t))] (.one (.sl 5 ((listT [] t).map cEx))) := by
 intro ou
 refine AFn.walk 7 tabOk Tryz.func19 rfl (by kernel_rfl) rfl rfl fun hou => ?_
 iterate 11 (first | ((with_reducible refine oj ?_); refine zau ?_) | (with_reducible refine zst ?_) | ((with_reducible refine cExitMiss ?_ ?_); rfl) | (with_reducible refine ok ?_; first | refine ACode.condT rfl ?_ | refine ACode.condF rfl ?_))
 refine ACode.grow 0 0 57 5 rfl rfl ?_
 refine zA ?_
 refine AOps.cede 0 (show 0 < 2 by omega) fun ko hko => ⟨[(4, .one (.box (cNd t))), (3, .one (.ptr (.o ko) 0))],
   ⟨2, [(1, .tok 57 5 0)], updO ou ko (.cells [.gs 5 [] (.l 1)])⟩, ⟨CedFr.get ?_, rfl, fun i x hx => ?_⟩, ?_⟩
 · exact .cons rfl (FV.sub_o _ (by simp)) (.cons rfl rfl .nil)
 · have hko : ou ko = none := hko
   cases i with
   | l m =>
     by_cases e : 1 = m
     · subst e; cases hx; exact ⟨.l 1, _, rfl, rfl, rfl⟩
     · simp [St.get, lookL, beq_no e] at hx
   | o m =>
     have hx' : updO ou ko (.cells [.gs 5 [] (.l 1)]) m = some x := hx
     by_cases e : ko = m
     · subst e; rw [updO_same] at hx'; cases hx'; exact ⟨.l 0, _, rfl, rfl, rfl⟩
     · rw [updO_ne _ e] at hx'
       exact ⟨.o m, x, hx', rfl, (AObj.sub_o x (hou m x hx')).symm⟩
 have hko : ou ko = none := hko
 refine AOps.cede 1 (show 1 < 2 by omega) fun kt hkt => ⟨[(4, .one (.box (cNd t))), (3, .one (.ptr (.o ko) 0))],
   ⟨2, [], ouS ou ko kt (([] : List Ex).map cEx)⟩, ⟨CedFr.get ?_, rfl, fun i x hx => ?_⟩, ?_⟩
 · exact .cons rfl (FV.sub_o _ (by simp)) (.cons rfl rfl .nil)
 · have hkt : updO ou ko (.cells [.gs 5 [] (.l 1)]) kt = none := hkt
   have hkto : ko ≠ kt := fun e => by subst e; rw [updO_same] at hkt; cases hkt
   cases i with
   | l m => cases hx
   | o m =>
     have hx' : ouS ou ko kt (([] : List Ex).map cEx) m = some x := hx
     by_cases e : m = kt
     · subst e; rw [ouS_t] at hx'; cases hx'; exact ⟨.l 1, _, rfl, rfl, rfl⟩
     · by_cases e2 : m = ko
       · subst e2; rw [ouS_o hkto] at hx'; cases hx'
         exact ⟨.o m, .cells [.gs 5 [] (.l 1)], updO_same _ _ _, rfl, rfl⟩
       · rw [ouS_w e2 e] at hx'
         refine ⟨.o m, x, ?_, rfl, (AObj.sub_o x (hou m x hx')).symm⟩
         show updO ou ko (.cells [.gs 5 [] (.l 1)]) m = _
         rw [updO_ne _ (Ne.symm e2)]; exact hx'
 have hkt : updO ou ko (.cells [.gs 5 [] (.l 1)]) kt = none := hkt
 have hot : ko ≠ kt := fun e => by subst e; rw [updO_same] at hkt; cases hkt
 rw [updO_ne _ hot] at hkt
 have hcall := into_ok hΓ t ht ou ko kt [] hou hko hkt hot hsz
 refine AOps.call1 hΓ rfl rfl rfl rfl rfl rfl rfl (by simp) (ouS_ok hou (by simp)) hcall fun r ou' hq hids hou' => ?_
 obtain ⟨rfl, kt', h1, h2, rfl⟩ := hq
 refine zA ?_
 refine AOps.step1 rfl rfl rfl (AStep.loadOwn tabOk rfl rfl rfl rfl rfl (ouS_o h2 _) rfl) ?_
 refine AOps.wk 6 rfl (y := .one (.sl 5 ((listT [] t).map cEx))) (.one (.gsE rfl)) ?_
 refine AOps.lessO ⟨2, [], ou⟩ rfl (fun i o ho => ?_) ?_
 · cases i with
   | l m => cases ho
   | o m =>
     have ho' : ou m = some o := ho
     show ouS ou ko kt' _ m = some o
     have e1 : m ≠ ko := fun e => by rw [e, hko] at ho'; cases ho'
     have e3 : m ≠ kt' := fun e => by rw [← e, ho'] at h1; cases h1
     rw [ouS_w e1 e3]; exact ho'
 refine zA ?_
 exact APure.fin rfl (WkF.ofEq rfl) (by simp) hou rfl
def factA : Tr := .mk 2 0 [1] [.mk 0 1 [] [] []] []
def factB : Tr := .mk 2 0 [2] [.mk 0 2 [] [] []] []
end Go.Proofs.YtpaonemmbhbgoaaGreatDoor
namespace Go.CoreX
def treeAt (e : List Ex) (k : Nat) : Tr := (growL e).getD k default
theorem treeAt_node {e : List Ex} (hk : kidsIn e) {i : Nat} {x : Ex} (hx : e[i]? = some x) : treeAt e i = .mk x.op x.n x.binds (x.kids.map fun k => treeAt e k.toNat) x.alts := by
 have hi := (List.getElem?_eq_some_iff.1 hx).1
 have hs : e = e.take i ++ x :: e.drop (i + 1) := by
   obtain ⟨h2, h3⟩ := List.getElem?_eq_some_iff.1 hx
   rw [← h3, ← List.drop_eq_getElem_cons h2, List.take_append_drop]
 have hl : (e.take i).length = i := by simp; omega
 have h1 := growL_at (e.take i) (e.drop (i + 1)) x
 rw [← hs, hl] at h1
 unfold treeAt
 rw [h1]
 simp only [nodeOf, Tr.mk.injEq, true_and, and_true]
 refine List.map_congr_left fun k hkk => ?_
 have hb := hk i x hx k hkk
 have h2 := growL_get (e := e.take i) (l := x :: e.drop (i + 1)) (i := k.toNat) (by rw [hl]; omega)
 rw [← hs] at h2
 exact h2.symm
theorem cnt_pos : ∀ {e : List Ex} {k : Nat}, 0 < cnt e k → ∃ (i : Nat) (x : Ex), e[i]? = some x ∧ (k : Int) ∈ x.kids
 | [], k, h => by simp [cnt] at h
 | x :: e, k, h => by
   simp only [cnt] at h
   by_cases h1 : 0 < x.kids.count (k : Int)
   · exact ⟨0, x, rfl, List.count_pos_iff.1 h1⟩
   · obtain ⟨i, y, h2, h3⟩ := cnt_pos (e := e) (k := k) (by omega)
     exact ⟨i + 1, y, by simpa using h2, h3⟩
def atErr (e : List Ex) (n : Int) : Int := if check e ≠ 0 then check e else if n < 0 ∨ (e.length : Int) ≤ n then 12 else 0
def freeAt (e : List Ex) (n : Int) : List Int × Int := if atErr e n ≠ 0 then ([], atErr e n) else (freeOf (treeAt e n.toNat), 0)
def cutAt (e : List Ex) (n : Int) : List Ex × Int := if atErr e n ≠ 0 then ([], atErr e n) else (listT [] (treeAt e n.toNat), 0)
def sizeAt (e : List Ex) (n : Int) : Int × Int := if atErr e n ≠ 0 then (0, atErr e n) else ((listT [] (treeAt e n.toNat)).length, 0)
end Go.CoreX
namespace Go.Proofs.YtpaonemmbhbgoaaGreatDoor
open Go Go.Abs Go.CoreX
variable {Γ : List (Nat × List AC)}
end Go.Proofs.YtpaonemmbhbgoaaGreatDoor
namespace Go.CoreX
mutual
def cntN : Tr → Nat
 | .mk _ _ _ k _ => cntNs k + 1
def cntNs : List Tr → Nat
 | [] => 0
 | t :: l => cntN t + cntNs l
end
mutual
theorem cntN_list : ∀ (t : Tr) (out : List Ex), (listT out t).length = out.length + cntN t
 | .mk o n b k a, out => by
   have := cntNs_list k out
   simp only [listT, cntN, List.length_append, List.length_singleton]; omega
theorem cntNs_list : ∀ (l : List Tr) (out : List Ex), (listTs out l).1.length = out.length + cntNs l
 | [], out => by simp [listTs, cntNs]
 | t :: l, out => by
   have h1 := cntN_list t out
   have h2 := cntNs_list l (listT out t)
   simp only [listTs, cntNs]; omega
end
end Go.CoreX
namespace Go.Proofs.YtpaonemmbhbgoaaGreatDoor
open Go Go.Abs Go.CoreX
variable {Γ : List (Nat × List AC)}
end Go.Proofs.YtpaonemmbhbgoaaGreatDoor
namespace Go.CoreX
def scopeE (x : Ex) (k : Int) : List Int := if x.op = 2 ∨ x.op = 5 ∨ (x.op = 4 ∧ k = 1) then x.binds else if (x.op = 7 ∨ x.op = 13) ∧ 0 < k then (x.alts.getD (k - 1).toNat ⟨0, []⟩).binds else []
def upStep (sc : List Int) (out : List Int) (f : Int) : List Int := if sc.contains f = false ∧ out.contains f = false then out ++ [f] else out
def upKid (sc fs out : List Int) : List Int := fs.foldl (upStep sc) out
def upTo (x : Ex) (fs : Nat → List Int) : Nat → List Int
 | 0 => if x.op = 0 then [x.n] else []
 | i + 1 => upKid (scopeE x i) (fs i) (upTo x fs i)
def fsAt (e : List Ex) (x : Ex) (i : Nat) : List Int := freeOf (treeAt e (x.kids.getD i 0).toNat)
end Go.CoreX
namespace Go.Proofs.YtpaonemmbhbgoaaGreatDoor
open Go Go.Abs Go.CoreX
variable {Γ : List (Nat × List AC)}
def ow8 (l : List Int) : Option Nat → AC
 | none => .lit (.slice none 0 0)
 | some cap => .arr (.l 0) 1 0 (l.map cI).length cap
def st8 (l : List Int) (ou : Outer) : Option Nat → St
 | none => ⟨0, [], ou⟩
 | some cap => ⟨1, [(0, .cells (vec 1 (l.map cI) cap))], ou⟩
def co8 (l : List Int) : Option Nat → Prop
 | none => l = []
 | some cap => l.length ≤ cap
def p8 : Option Nat → Nat
 | none => 0
 | some cap => cap
def d8 (l : List Int) (ou : Outer) : Option Nat → St
 | none => st8 l ou none
 | some cap => (st8 l ou (some cap)).set (.l 0) .dead
@[simp] theorem ids_ow8 (l l' : List Int) (ou : Outer) (oc : Option Nat) : (ow8 l oc).ids (inL (st8 l' ou oc).n) := by cases oc <;> simp [ow8, st8, AC.ids, inL]
theorem keep8 (l : List Int) (oc : Option Nat) : WkF (.one (ow8 l oc)) ((FV.one (ow8 l oc)).ren id) := by cases oc <;> exact .refl _
theorem FrSub.k8 {fr r : Fr} {k : Nat} {l : List Int} {oc : Option Nat} (h : Fr.get k fr = some (.one (ow8 l oc))) (hr : FrSub id fr r) : FrSub id fr ((k, .one (ow8 l oc)) :: r) := FrSub.cons h (keep8 l oc) hr
end Go.Proofs.YtpaonemmbhbgoaaGreatDoor
namespace Go.CoreX
def wordlyF (t : Tr) : Bool := t.op == 1 || (t.op == 8 && (decide (t.n ≤ 4) || t.n == 9))
def condLoop : List Alt → Int → Bool
 | [], known => known == 2
 | a :: l, known => if a.tag = -1 then true else if a.tag ≤ 1 ∧ a.binds.length = 0 then condLoop l (known + 1) else if a.tag ≤ 1 then false else condLoop l known
def condF (t : Tr) : Bool := if (t.kids.headD default).op ≠ 8 ∨ ((t.kids.headD default).n ≠ 5 ∧ (t.kids.headD default).n ≠ 6) then false else condLoop t.alts 0
def kid1 (t : Tr) : Tr := t.kids.tail.headD default
def wordsF (t : Tr) : Bool := wordlyF (t.kids.headD default) && (t.kids.length == 1 || wordlyF (kid1 t))
def primF (t : Tr) : Int :=
 if t.n = 7 then 3 else if t.n = 8 ∨ t.n = 11 then 10 else if t.n = 10 then 18 else if t.n = 9 then 2 else
 if t.n = 3 ∨ t.n = 4 then (if wordsF t = true ∧ (kid1 t).op = 1 ∧ (kid1 t).n ≠ 0 then 0 else 2) else
 if wordsF t = true then 0 else 2
def ownF (t : Tr) : Int :=
 if t.op = 17 then 2 else if t.op = 8 then primF t else
 if t.op = 3 then (if (t.kids.headD default).op ≠ 2 ∨ ((t.kids.headD default).binds.length : Int) ≠ t.kids.length - 1 then 63 else 0) else
 if t.op = 7 then (if condF t = true then 0 else 2) else
 if t.op = 10 ∨ t.op = 11 then (if (t.kids.headD default).op ≠ 9 ∨ (t.op = 10 ∧ (t.kids.headD default).binds.contains t.n = false) then 2 else 0) else
 if t.op = 12 then 6 else if t.op = 13 then 63 else 0
structure kidsOk (t : Tr) : Prop where
 p1 : t.op = 8 ∨ t.op = 3 ∨ t.op = 7 ∨ t.op = 10 ∨ t.op = 11 → 1 ≤ t.kids.length
 p2 : t.op = 8 → t.n = 3 ∨ t.n = 4 → 2 ≤ t.kids.length
end Go.CoreX
namespace Go.Proofs.YtpaonemmbhbgoaaGreatDoor
open Go Go.Abs Go.CoreX
variable {Γ : List (Nat × List AC)}
end Go.Proofs.YtpaonemmbhbgoaaGreatDoor
namespace Go.CoreX
open Go.Abs (orI subI anI)
def ex0 : Ex := ⟨0, 0, [], [], []⟩
def exN (e : List Ex) (i : Nat) : Ex := e.getD i ex0
def shK (e : List Ex) (k : Int) : Tr := .mk (exN e k.toNat).op (exN e k.toNat).n (exN e k.toNat).binds [] []
def shT (e : List Ex) (x : Ex) : Tr := .mk x.op x.n x.binds (x.kids.map (shK e)) x.alts
def purStep (e : List Ex) (x : Ex) (p : List Int) (k : Nat) (kid : Int) (acc : Int) : Int :=
 if x.op = 2 ∨ (x.op = 5 ∧ k < x.binds.length) then acc
 else if x.op = 3 ∧ k = 0 ∧ (exN e kid.toNat).op = 2 then orI acc (p.getD ((exN e kid.toNat).kids.getD 0 0).toNat 0)
 else orI acc (p.getD kid.toNat 0)
def purTo (e : List Ex) (x : Ex) (p : List Int) : Nat → Int
 | 0 => ownF (shT e x)
 | j + 1 => purStep e x p j (x.kids.getD j 0) (purTo e x p j)
def purAt (e : List Ex) : Nat → List Int
 | 0 => List.replicate e.length 0
 | i + 1 => (purAt e i).set i (purTo e (exN e i) (purAt e i) (exN e i).kids.length)
def purOf (e : List Ex) : List Int × Int := if check e ≠ 0 then ([], check e) else (purAt e e.length, 0)
end Go.CoreX
namespace Go.Proofs.YtpaonemmbhbgoaaGreatDoor
open Go Go.Abs Go.CoreX
variable {Γ : List (Nat × List AC)}
def shD (e : List Ex) (l : List Int) : List (List AC) := l.map fun k => cB (shK e k)
@[simp] theorem ids_shD (p : Abs.Id → Prop) (e : List Ex) (l : List Int) : idsS p (shD e l) := idsS_map (fun k => by simp [cB]) l
@[simp] theorem ren_shD (ρ : Nat → Nat) (e : List Ex) (l : List Int) : renS ρ (shD e l) = shD e l := renS_pure ρ _ (by simp)
end Go.Proofs.YtpaonemmbhbgoaaGreatDoor
namespace Go.CoreX
def factP : Tr := .mk 8 7 [] [.mk 1 1 [] [] []] []
end Go.CoreX
namespace Go.Proofs.YtpaonemmbhbgoaaGreatDoor
open Go Go.Abs Go.CoreX
variable {Γ : List (Nat × List AC)}
theorem W_ok (hΓ : ∀ g cs, (g, cs) ∈ Γ → idsL isO cs) (n : Int) : APure Tryz.prog Γ 25 [.one (int n)] (.one (.box (cNd (.mk 1 n [] [] [])))) := by
 intro ou
 refine AFn.walk 5 tabOk Tryz.func25 rfl (by kernel_rfl) rfl rfl fun hou => ?_
 refine zA ?_
 refine AOps.callCW (ws := [.one (int 1), .one (int n), .one (.sl 1 (encNds []))]) hΓ (N_ok 1 n []) rfl rfl rfl rfl rfl rfl ?_ hou (by simp) ?_
 · exact .cons (.refl _) (.cons (.refl _) (.cons (.one (.nilS 1)) .nil))
 refine zA ?_
 exact APure.fin rfl (WkF.ofEq rfl) (by simp) hou rfl
end Go.Proofs.YtpaonemmbhbgoaaGreatDoor
namespace Go.CoreX
structure CS where
 u : Int → Int
 d : Int → Int
 m : Int → Int
def upF (f : Int → Int) (k v : Int) : Int → Int := fun j => if k = j then v else f j
def visitU (s : CS) (n deep : Int) : CS := ⟨upF s.u n (s.u n + 1), s.d, if s.d n < deep then upF s.m n (s.m n + 1) else s.m⟩
def bindU (d : Int) (s : CS) (l : List Int) : CS := ⟨s.u, l.foldl (fun f n => upF f n d) s.d, s.m⟩
def rep (o : Int) (i : Int) : Bool := o == 2 || (o == 13 && decide (0 < i))
def deepK (o : Int) (i : Nat) (deep : Int) : Int := if rep o i = true then deep + 1 else deep
mutual
def walkU (deep : Int) (s : CS) : Tr → CS
 | .mk o n b k a => walkUs deep o b a 0 (if o = 0 then visitU s n deep else s) k
def walkUs (deep o : Int) (b : List Int) (a : List Alt) (i : Nat) (s : CS) : List Tr → CS
 | [] => s
 | t :: ts => walkUs deep o b a (i + 1) (walkU (deepK o i deep) (bindU (deepK o i deep) s (boundN o b a i)) t) ts
end
def CB (M : Int) (s : CS) : Prop := ∀ k, (0 ≤ s.u k ∧ s.u k ≤ M) ∧ 0 ≤ s.m k ∧ s.m k ≤ M
theorem CB.visit {M : Int} {s : CS} (h : CB M s) (n deep : Int) : CB (M + 1) (visitU s n deep) := fun k => by
 have h1 := h k
 have h2 := h n
 refine ⟨?_, ?_⟩
 · simp only [visitU, upF]; split <;> omega
 · by_cases e : s.d n < deep
   · simp only [visitU, if_pos e, upF]; split <;> omega
   · simp only [visitU, if_neg e]; omega
theorem CB.mono {M M' : Int} {s : CS} (h : CB M s) (hm : M ≤ M') : CB M' s := fun k => by have := h k; omega
mutual
theorem CB.walk : ∀ (t : Tr) {M : Int} {s : CS} (deep : Int), CB M s → CB (M + cntN t) (walkU deep s t)
 | .mk o n b k a, M, s, deep, h => by
   have h1 : CB (M + 1) (if o = 0 then visitU s n deep else s) := by
     split
     · exact h.visit n deep
     · exact h.mono (by omega)
   have h2 := CB.walks k (M := M + 1) deep o b a 0 h1
   simp only [walkU]
   refine h2.mono ?_
   simp only [cntN]; push_cast; omega
theorem CB.walks : ∀ (l : List Tr) {M : Int} {s : CS} (deep o : Int) (b : List Int) (a : List Alt) (i : Nat), CB M s → CB (M + cntNs l) (walkUs deep o b a i s l)
 | [], M, s, deep, o, b, a, i, h => by simpa [walkUs, cntNs] using h
 | t :: l, M, s, deep, o, b, a, i, h => by
   have h1 : CB M (bindU (deepK o i deep) s (boundN o b a i)) := h
   have h2 := CB.walk t (deepK o i deep) h1
   have h3 := CB.walks l deep o b a (i + 1) h2
   simp only [walkUs]
   refine h3.mono ?_
   simp only [cntNs]; push_cast; omega
end
structure UM where
 cu : Nat
 lu : List (Nat × Int × Int)
 cd : Nat
 ld : List (Nat × Int × Int)
 cm : Nat
 lm : List (Nat × Int × Int)
def isVar (n : Int) (l : Lab) : Int := if l.op = 0 ∧ l.n = n then 1 else 0
end Go.CoreX
namespace Go.Proofs.YtpaonemmbhbgoaaGreatDoor
open Go Go.Abs Go.CoreX
variable {Γ : List (Nat × List AC)}
def CIs (s : CS) (x : UM) : Prop := BIs s.u x.cu x.lu ∧ BIs s.d x.cd x.ld ∧ BIs s.m x.cm x.lm
def ouU (x : UM) : Outer := ouOf [.cells [.mp (.o 1), .mp (.o 2), .mp (.o 3)], .map x.cu (encI eN x.lu), .map x.cd (encI eN x.ld), .map x.cm (encI eN x.lm)]
end Go.Proofs.YtpaonemmbhbgoaaGreatDoor
namespace Go.CoreX
abbrev Nb := Option (Nat × Nat)
structure LAlt where
 tag : Int
 nb : Nb
 binds : List Int
def LAlt.er (a : LAlt) : Alt := ⟨a.tag, a.binds⟩
inductive LTr where
 | mk (id : Nat) (op n : Int) (nb : Nb) (binds : List Int) (kids : List LTr) (alts : List LAlt)
instance : Inhabited LTr := ⟨.mk 0 0 0 none [] [] []⟩
def LTr.id : LTr → Nat | .mk i _ _ _ _ _ _ => i
def LTr.kids : LTr → List LTr | .mk _ _ _ _ _ k _ => k
mutual
def erT : LTr → Tr
 | .mk _ o n _ b k a => .mk o n b (erTs k) (a.map LAlt.er)
def erTs : List LTr → List Tr
 | [] => []
 | t :: ts => erT t :: erTs ts
end
theorem erTs_eq : ∀ l : List LTr, erTs l = l.map erT
 | [] => rfl
 | t :: l => by simp [erTs, erTs_eq l]
end Go.CoreX
namespace Go.Proofs.YtpaonemmbhbgoaaGreatDoor
open Go Go.Abs Go.CoreX
variable {Γ : List (Nat × List AC)}
def bC : Nb → List Int → AC
 | none, l => .sl 1 (l.map cI)
 | some (a, cap), l => .arr (.o a) 1 0 (l.map cI).length cap
def bO : Nb → List Int → List (Nat × AObj)
 | none, _ => []
 | some (a, cap), l => [(a, .cells (vec 1 (l.map cI) cap))]
def lAlt (x : LAlt) : List AC := [int x.tag, bC x.nb x.binds]
def aO (l : List LAlt) : List (Nat × AObj) := l.flatMap fun x => bO x.nb x.binds
def kC (l : List LTr) : List (List AC) := l.map fun t => [.ptr (.o t.id) 0]
def lC : LTr → List AC
 | .mk _ o n nb b k a => [int o, int n, bC nb b, .sl 1 (kC k), .sl 2 (a.map lAlt)]
mutual
def objs : LTr → List (Nat × AObj)
 | .mk i o n nb b k a => (i, .cells [int o, int n, bC nb b, .sl 1 (kC k), .sl 2 (a.map lAlt)]) :: (bO nb b ++ aO a) ++ objss k
def objss : List LTr → List (Nat × AObj)
 | [] => []
 | t :: ts => objs t ++ objss ts
end
abbrev keys (l : List (Nat × AObj)) : List Nat := l.map (·.1)
def Owns (ou : Outer) (l : List (Nat × AObj)) : Prop := ∀ p ∈ l, ou p.1 = some p.2
theorem Owns.app {ou : Outer} {l r : List (Nat × AObj)} : Owns ou (l ++ r) ↔ Owns ou l ∧ Owns ou r := by
 unfold Owns
 constructor
 · exact fun h => ⟨fun p hp => h p (by simp [hp]), fun p hp => h p (by simp [hp])⟩
 · rintro ⟨h1, h2⟩ p hp
   rcases List.mem_append.1 hp with hp | hp
   · exact h1 p hp
   · exact h2 p hp
theorem Owns.frame {ou ou' : Outer} {l : List (Nat × AObj)} (h : Owns ou l) (hf : ∀ j ∈ keys l, ou' j = ou j) : Owns ou' l := fun p hp => (hf p.1 (List.mem_map_of_mem hp)).trans (h p hp)
theorem objss_eq : ∀ l : List LTr, objss l = l.flatMap objs
 | [] => rfl
 | t :: l => by simp [objss, objss_eq l]
theorem owns_node {ou : Outer} : ∀ {t : LTr}, Owns ou (objs t) → ou t.id = some (.cells (lC t))
 | .mk i o n nb b k a, h => h (i, .cells [int o, int n, bC nb b, .sl 1 (kC k), .sl 2 (a.map lAlt)]) (by simp [objs])
theorem ids_bC (p : Abs.Id → Prop) (hp : ∀ k, p (.o k)) (nb : Nb) (l : List Int) : (bC nb l).ids p := by
 cases nb with
 | none => simp [bC, AC.ids]
 | some x => exact hp _
theorem ids_kC (p : Abs.Id → Prop) (hp : ∀ k, p (.o k)) (l : List LTr) : idsS p (kC l) := idsS_map (f := fun t : LTr => [.ptr (.o t.id) 0]) (fun t => by simp only [idsL, AC.ids, and_true]; exact hp _) l
theorem ids_lAlts (p : Abs.Id → Prop) (hp : ∀ k, p (.o k)) (l : List LAlt) : idsS p (l.map lAlt) := idsS_map (f := lAlt) (fun t => by simp only [lAlt, idsL, AC.ids, and_true, true_and]; exact ids_bC p hp _ _) l
theorem bC_read {Γ : List (Nat × List AC)} {F : Nat → Prop} {w : World} {C C' : Ctx} {σ : St} (hi : Inv Γ F w C σ) (hc : Chg isO w C w C') {nb : Nb} {l : List Int} (ho : Owns σ.ou (bO nb l)) (hp : ∀ k ∈ keys (bO nb l), ∀ a : Addr, a.block = C.blk (.o k) → C'.prot a) {v : Value}
   (hr : R w C (bC nb l) v) : R w C' (.sl 1 (l.map cI)) v := by
 cases nb with
 | none => exact R.chg hc (.sl 1 (l.map cI)) v (ids_cIs _ _) hr
 | some x =>
   obtain ⟨a, cap⟩ := x
   have hg : σ.get (.o a) = some (.cells (vec 1 (l.map cI) cap)) := ho (a, .cells (vec 1 (l.map cI) cap)) (by simp [bO])
   obtain ⟨hok, zs, T, b1, b2, b3, b4⟩ := hi.obj _ _ hg
   simp only [bC, R, Nat.zero_mul] at hr
   refine ⟨some ⟨C.blk (.o a), 0, none⟩, cap, hr.2.1, hr.2.2, .inr ⟨_, rfl, rfl, ?_⟩⟩
   have hl : ∀ x ∈ l.map cI, x.length = 1 := fun x hx => by obtain ⟨n, _, rfl⟩ := List.mem_map.1 hx; rfl
   have hfl := flat_len hl
   have hzl := RV.length b3
   have hfi : idsL isO (l.map cI).flatten := by
     refine idsL_iff.2 fun c hc => ?_
     obtain ⟨e, he, hce⟩ := List.mem_flatten.1 hc
     obtain ⟨n, _, rfl⟩ := List.mem_map.1 he
     simp [cI] at hce; subst hce; trivial
   have hv : RV w C' (l.map cI).flatten (zs.take ((l.map cI).length * 1)) := by
     refine RV.chg hc _ _ hfi ?_
     have := b3.take ((l.map cI).length * 1)
     rwa [vec, List.take_append_of_le_length (by omega), List.take_of_length_le (by omega)] at this
   refine RS.ofVals 0 hl hv fun j v hj => ⟨?_, hp a (by simp [bO]) _ rfl⟩
   have h2 : j < (l.map cI).length * 1 := by have := (List.getElem?_eq_some_iff.1 hj).1; simp at this ⊢; omega
   rw [List.getElem?_take_of_lt h2] at hj
   rw [Nat.zero_add, cell_of_row _ _ _ _ _ _ b1]
   simpa using hj
theorem aC_read {Γ : List (Nat × List AC)} {F : Nat → Prop} {w : World} {C C' : Ctx} {σ : St} (hi : Inv Γ F w C σ) (hc : Chg isO w C w C') : ∀ {l : List LAlt}, Owns σ.ou (aO l) → (∀ k ∈ keys (aO l), ∀ a : Addr, a.block = C.blk (.o k) → C'.prot a) → ∀ ad : Addr,
   RS w C 2 (l.map lAlt) ad → RS w C' 2 ((l.map LAlt.er).map cAlt) ad
 | [], _, _, ad, _ => by simp [RS]
 | x :: l, ho, hp, ad, hr => by
   have e : aO (x :: l) = bO x.nb x.binds ++ aO l := rfl
   rw [e] at ho hp
   obtain ⟨ho1, ho2⟩ := Owns.app.1 ho
   simp only [List.map_cons, RS, lAlt, RL] at hr
   obtain ⟨_, ⟨⟨u, hu, hup, hur⟩, ⟨v, hv, hvp, hvr⟩, _⟩, hrest⟩ := hr
   refine ⟨rfl, ⟨⟨u, hu, hc.prot _ hup, R.chg hc _ u trivial hur⟩, ⟨v, hv, hc.prot _ hvp, ?_⟩, trivial⟩, aC_read hi hc ho2 (fun k hk => hp k (by simp [keys] at hk ⊢; exact .inr hk)) _ hrest⟩
   exact bC_read hi hc ho1 (fun k hk => hp k (by simp [keys] at hk ⊢; exact .inl hk)) hvr
mutual
theorem own_read {Γ : List (Nat × List AC)} {F : Nat → Prop} {w : World} {C C' : Ctx} {σ : St} (hi : Inv Γ F w C σ) (hc : Chg isO w C w C') : ∀ t : LTr, Owns σ.ou (objs t) → (∀ k ∈ keys (objs t), ∀ a : Addr, a.block = C.blk (.o k) → C'.prot a) → RL w C' (cTr (erT t)) ⟨C.blk (.o t.id), 0, none⟩
 | .mk i o n nb b k a, ho, hp => by
   have hg : σ.get (.o i) = some (.cells (lC (.mk i o n nb b k a))) := owns_node (t := .mk i o n nb b k a) ho
   obtain ⟨hok, zs, T, b1, b2, b3, b4⟩ := hi.obj _ _ hg
   have e : objs (.mk i o n nb b k a) = [(i, .cells [int o, int n, bC nb b, .sl 1 (kC k), .sl 2 (a.map lAlt)])] ++ ((bO nb b ++ aO a) ++ objss k) := by simp [objs]
   rw [e] at ho hp
   obtain ⟨_, ho2⟩ := Owns.app.1 ho
   obtain ⟨ho3, hok2⟩ := Owns.app.1 ho2
   obtain ⟨hob, hoa⟩ := Owns.app.1 ho3
   have hpb : ∀ k' ∈ keys (bO nb b), ∀ a : Addr, a.block = C.blk (.o k') → C'.prot a := fun k' hk => hp k' (by simp [keys] at hk ⊢; exact .inr (.inl hk))
   have hpa : ∀ k' ∈ keys (aO a), ∀ a : Addr, a.block = C.blk (.o k') → C'.prot a := fun k' hk => hp k' (by simp [keys] at hk ⊢; exact .inr (.inr (.inl hk)))
   have hpk : ∀ k' ∈ keys (objss k), ∀ a : Addr, a.block = C.blk (.o k') → C'.prot a := fun k' hk => hp k' (by simp [keys] at hk ⊢; exact .inr (.inr (.inr hk)))
   simp only [lC, RV, R] at b3
   obtain ⟨v1, _, rfl, ⟨rfl, _⟩, v2, _, rfl, ⟨rfl, _⟩, v3, _, rfl, h3, v4, _, rfl, ⟨a4, c4, rfl, l4, h4⟩, v5, _, rfl, ⟨a5, c5, rfl, l5, h5⟩, rfl⟩ := b3
   have hrv : RV w C' (cTr (erT (.mk i o n nb b k a))) [.int .i64 o, .int .i64 n, v3, .slice a4 (kC k).length c4, .slice a5 (a.map lAlt).length c5] := by
     simp only [cTr, erT, Tr.op_mk, Tr.n_mk, Tr.binds_mk, Tr.kids_mk, Tr.alts_mk, RV]
     refine ⟨_, _, rfl, by simp [R, Value.oneCell'], _, _, rfl, by simp [R, Value.oneCell'], _, _, rfl, bC_read hi hc hob hpb h3, _, _, rfl, ?_, _, _, rfl, ?_, rfl⟩
     · refine ⟨a4, c4, by simp [kC, erTs_eq], by simpa [kC, erTs_eq] using l4, ?_⟩
       rcases h4 with h4 | ⟨ad, rfl, hs, h4⟩
       · left
         simp only [kC, List.map_eq_nil_iff] at h4
         subst h4; rfl
       · exact .inr ⟨ad, rfl, hs, own_reads hi hc k hok2 hpk ad h4⟩
     · refine ⟨a5, c5, by simp, by simpa using l5, ?_⟩
       rcases h5 with h5 | ⟨ad, rfl, hs, h5⟩
       · left
         simp only [List.map_eq_nil_iff] at h5
         subst h5; rfl
       · exact .inr ⟨ad, rfl, hs, aC_read hi hc hoa hpa ad h5⟩
   refine RL.of_new 0 hrv (fun j v hj => ?_) (fun ad ha => ?_)
   · rw [Nat.zero_add]
     show w.cell? ⟨C.blk (.o i), j, none⟩ = some v
     rw [cell_of_row _ _ _ _ _ _ b1]
     simpa using hj
   · exact hp i (by simp [keys]) _ ha
theorem own_reads {Γ : List (Nat × List AC)} {F : Nat → Prop} {w : World} {C C' : Ctx} {σ : St} (hi : Inv Γ F w C σ) (hc : Chg isO w C w C') : ∀ l : List LTr, Owns σ.ou (objss l) → (∀ k ∈ keys (objss l), ∀ a : Addr, a.block = C.blk (.o k) → C'.prot a) → ∀ ad : Addr, RS w C 1 (kC l) ad → RS w C' 1 (encTrs (erTs l)) ad
 | [], _, _, ad, _ => by simp [erTs, encTrs, RS]
 | t :: l, ho, hp, ad, hr => by
   have e : objss (t :: l) = objs t ++ objss l := rfl
   rw [e] at ho hp
   obtain ⟨ho1, ho2⟩ := Owns.app.1 ho
   simp only [kC, List.map_cons, RS, RL, R] at hr
   obtain ⟨_, ⟨⟨u, hu, hup, _, hur⟩, _⟩, hrest⟩ := hr
   simp only [erTs, encTrs, RS]
   refine ⟨rfl, ⟨⟨u, hu, hc.prot _ hup, ⟨_, hur, rfl, ?_⟩⟩, trivial⟩, own_reads hi hc l ho2 (fun k hk => hp k (by simp [keys] at hk ⊢; exact .inr hk)) _ hrest⟩
   rw [encTr_eq]
   exact own_read hi hc t ho1 fun k hk => hp k (by simp [keys] at hk ⊢; exact .inl hk)
end
mutual
theorem objs_cells : ∀ t : LTr, ∀ p ∈ objs t, ∃ cs, p.2 = .cells cs
 | .mk i o n nb b k a, p, hp => by
   simp only [objs, List.cons_append, List.mem_cons, List.mem_append] at hp
   have hb : ∀ (nb : Nb) (l : List Int), ∀ p ∈ bO nb l, ∃ cs, p.2 = .cells cs := fun nb l p hp => by
     cases nb with
     | none => simp [bO] at hp
     | some x => simp [bO] at hp; subst hp; exact ⟨_, rfl⟩
   rcases hp with rfl | (hp | hp) | hp
   · exact ⟨_, rfl⟩
   · exact hb _ _ p hp
   · unfold aO at hp
     obtain ⟨x, _, hx⟩ := List.mem_flatMap.1 hp
     exact hb _ _ p hx
   · exact objss_cells k p hp
theorem objss_cells : ∀ l : List LTr, ∀ p ∈ objss l, ∃ cs, p.2 = .cells cs
 | [], p, hp => by simp [objss] at hp
 | t :: l, p, hp => by
   simp only [objss, List.mem_append] at hp
   rcases hp with hp | hp
   · exact objs_cells t p hp
   · exact objss_cells l p hp
end
theorem LendF.tree {σ : St} {t : LTr} (h : Owns σ.ou (objs t)) : LendF σ (.one (.ptr (.o t.id) 0)) (.one (.box (cTr (erT t)))) := by
 intro Γ F w C v hi hr
 simp only [RF, R] at hr
 refine ⟨_, hr.2, rfl, own_read hi hi.stillChg t h fun k hk a ha => ?_⟩
 obtain ⟨p, hp, rfl⟩ := List.mem_map.1 hk
 obtain ⟨cs, hcs⟩ := objs_cells t p hp
 show a.block < w.heap.size
 rw [ha]
 exact (AObj.block_lt (hi.obj (.o p.1) p.2 (h p hp)).2 (by rw [hcs]; rfl)).2
def deadL (ou : Outer) (l : List Nat) : Outer := fun j => if j ∈ l then some .dead else ou j
end Go.Proofs.YtpaonemmbhbgoaaGreatDoor
namespace Go.CoreX
def frB (f : Int) (l : List Int) : List Int := (List.range l.length).map fun i : Nat => f + i
def frN (m : Nm) (f : Int) (l : List Int) : Nm := putsN m l (frB f l)
def frTo (f : Int) (l : List Int) (j : Nat) : List Int := ((List.range j).map fun i : Nat => f + i) ++ l.drop j
end Go.CoreX
namespace Go.Proofs.YtpaonemmbhbgoaaGreatDoor
open Go Go.Abs Go.CoreX
variable {Γ : List (Nat × List AC)}
theorem OuOk.set {σ : St} {k : Nat} {o : AObj} (h : OuOk σ.ou) (ho : o.ids isO) : OuOk (σ.set (.o k) o).ou := by
 intro j p hj
 have hj' : (bif Nat.beq j k then some o else σ.ou j) = some p := hj
 by_cases e : j = k
 · subst e; simp at hj'; subst hj'; exact ho
 · rw [beq_no e] at hj'; exact h j p hj'
structure RnS (ou : Outer) (kn km kf : Nat) (nm : Nm) (ck : Nat) (l : List (Nat × Int × Int)) (f : Int) : Prop where
 n : ou kn = some (.cells [.mp (.o km)])
 m : ou km = some (.map ck (encI eN l))
 k : IMOk nm ck l
 f : ou kf = some (.cells [int f])
theorem RnS.ne {ou : Outer} {kn km kf : Nat} {nm : Nm} {ck : Nat} {l : List (Nat × Int × Int)} {f : Int} (h : RnS ou kn km kf nm ck l f) : kn ≠ km ∧ kn ≠ kf ∧ km ≠ kf := by
 refine ⟨fun e => ?_, fun e => ?_, fun e => ?_⟩
 · have := h.n; rw [e, h.m] at this; cases this
 · have := h.n; rw [e, h.f] at this; cases this
 · have := h.m; rw [e, h.f] at this; cases this
def FreshQ (ou : Outer) (kn km kf : Nat) (nm : Nm) (f : Int) (nb : Nb) (b : List Int) (r : FV) (ou' : Outer) : Prop :=
 r = .tup [] ∧ ∃ ck' l', RnS ou' kn km kf (frN nm f b) ck' l' (f + b.length) ∧ Owns ou' (bO nb (frB f b)) ∧ OuOk ou' ∧ ∀ j, j ≠ km → j ≠ kf → j ∉ keys (bO nb b) → ou' j = ou j
end Go.Proofs.YtpaonemmbhbgoaaGreatDoor
