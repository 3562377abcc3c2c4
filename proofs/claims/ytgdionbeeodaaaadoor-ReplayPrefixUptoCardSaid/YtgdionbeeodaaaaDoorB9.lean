/- The effects of all nodes, walked. -/
import Derived.Test.YtgdionbeeodaaaaDoorB8
set_option linter.unusedVariables false
set_option linter.unusedSimpArgs false
namespace Go.Proofs.YtgdionbeeodaaaaDoor
open Go Go.Abs Go.CoreX
set_option maxRecDepth 10000
variable {Γ : List (Nat × List AC)}
theorem own_ok (hΓ : ∀ g cs, (g, cs) ∈ Γ → idsL isO cs) (o n : Int) (b : List Int) (ks : List Tr) (a : List Alt) (h1 : o = 8 ∨ o = 3 ∨ o = 7 ∨ o = 10 ∨ o = 11 → ks ≠ []) (h2 : o = 8 → n = 3 ∨ n = 4 → 2 ≤ ks.length) (ha : a.length ≤ 1048576) (hkl : ks.length ≤ 1048576) (hb : ∀ k ∈ ks, k.binds.length ≤ 1048576) :
    APure Tryd.prog Γ 60 [.one (.box (cTr (.mk o n b ks a)))] (.one (int (ownF (.mk o n b ks a)))) := by
  by_cases h : o = 8 ∨ o = 3 ∨ o = 7 ∨ o = 10 ∨ o = 11
  · cases ks with
    | nil => exact absurd rfl (h1 h)
    | cons k0 ks =>
      refine own1_ok hΓ o n b k0 ks a h (fun h8 h34 hn => ?_) ha (by simp at hkl; omega) (hb k0 (by simp))
      have := h2 h8 h34
      rw [hn] at this
      simp at this
  · exact own0_ok hΓ o n b ks a h
def shD (e : List Ex) (l : List Int) : List (List AC) := l.map fun k => cB (shK e k)
theorem shD_succ {e : List Ex} {ks : List Int} {i : Nat} {k : Int} (h : ks[i]? = some k) : shD e (ks.take (i + 1)) = shD e (ks.take i) ++ [cB (shK e k)] := by
  simp [shD, List.take_add_one, h]
theorem shD_len (e : List Ex) (l : List Int) : (shD e l).length = l.length := by simp [shD]
@[simp] theorem ids_shD (p : Abs.Id → Prop) (e : List Ex) (l : List Int) : idsS p (shD e l) := idsS_map (fun k => by simp [cB]) l
@[simp] theorem ren_shD (ρ : Nat → Nat) (e : List Ex) (l : List Int) : renS ρ (shD e l) = shD e l := renS_pure ρ _ (by simp)
set_option maxHeartbeats 1000000 in
theorem Of_ok (e : List Ex) (he : okB e) : APure Tryd.prog Γc 35 [.one (.sl 5 (e.map cEx))] (.tup [.one (.sl 1 ((purOf e).1.map cI)), .one (int (purOf e).2)]) := by
  have hel := he.eo.l
  intro ou
  refine AFn.walk 144 tabOk Tryd.func35 rfl (by kernel_rfl) rfl rfl fun hou => ?_
  refine zA ?_
  refine zca hΓc (Check_ok e he) hou ?_
  refine zA ?_
  refine ACode.cond rfl (fun hb => ?_) (fun hb => ?_)
  · have h : check e ≠ 0 := by simpa using hb
    have ho : purOf e = ([], check e) := by unfold purOf; rw [if_pos h]
    rw [ho]
    refine zA ?_
    exact APure.fin rfl (WkF.tup (.cons (.one (.nilS 1)) (.cons (.refl _) .nil))) (by simp) hou rfl
  have h : check e = 0 := by simpa using hb
  have ho : purOf e = (purAt e e.length, 0) := by unfold purOf; rw [if_neg (by simpa using h)]
  rw [ho]
  have t1 := body_isTree h
  have hin := t1.k
  refine zA ?_
  have hb : ti3.bytes * (e.map cEx).length ≤ 281474976710656 := by simp; show 8 * _ ≤ _; omega
  have hb2 : (e.map cEx).length ≤ 281474976710656 := by simp; omega
  refine AOps.step1 rfl rfl rfl (AStep.makeArr tabOk rfl rfl rfl rfl rfl rfl rfl rfl hb hb2) ?_
  refine zM ?_
  refine ACode.loopR hΓc (α := Nat) (fun j => [(23, .one (int j)), (22, .one (int (e.map cEx).length)), (21, .one (.sl 5 (e.map cEx))), (5, .one (.arr (.l 0) 1 0 (e.map cEx).length (e.map cEx).length)), (0, .one (.sl 5 (e.map cEx)))])
    (fun j => ⟨1, [(0, .cells ((purAt e j).map int))], ou⟩) (fun m j => j ≤ e.length ∧ m = e.length - j) (a0 := 0) (ρ := id) ⟨by omega, rfl⟩
    (LessR.of rfl (by (repeat' first | exact FrSub.nil | refine zfc ?_ | refine zfo ?_ | refine zfp ?_)) (by simp) (LoSub.cons rfl (by rw [AObj.ren_pure _ _ (by simp)]; simp [purAt]) rfl (by simp) .nil) rfl rfl hou) fun m j hj => ?_
  obtain ⟨hjl, rfl⟩ := hj
  refine zA ?_
  refine ACode.cond rfl (fun hb2 => ?_) (fun hb2 => ?_)
  · have hlt : j < e.length := by simpa using hb2
    obtain ⟨x, hx⟩ := get_of_lt hlt
    have hxo := he.eo.x x (List.mem_of_getElem? hx)
    have hxk := hxo.k
    have hxin := hin j x hx
    have hsh := shape_of h x (List.mem_of_getElem? hx)
    obtain ⟨hk1, hk2⟩ := shape_kids hsh
    have hxn : exN e j = x := by unfold exN; rw [List.getD_eq_getElem?_getD, hx]; rfl
    have hpl := purAt_len e j
    refine zA ?_
    refine AOps.step1 rfl rfl rfl (AStep.indexAddr tabOk rfl rfl rfl rfl rfl rfl (.inl rfl) rfl (by omega) (map_get hx)) ?_
    refine zA ?_
    refine ACode.grow 2 3 70 1 rfl rfl ?_
    refine ACode.loopR hΓc (α := Nat) (fun i => [(41, .one (int i)), (40, .one (int (x.kids.map cI).length)), (39, .one (.sl 1 (x.kids.map cI))), (8, .one (.ptr (.l 2) 0)), (7, .one (.ptr (.l 1) 0)), (6, .one (int j)), (23, .one (int j)), (22, .one (int (e.map cEx).length)), (21, .one (.sl 5 (e.map cEx))), (5, .one (.arr (.l 0) 1 0 (e.map cEx).length (e.map cEx).length)), (0, .one (.sl 5 (e.map cEx)))])
      (fun i => ⟨4, [(3, .tok 70 1 i), (2, .cells [int x.op, int x.n, .sl 1 (x.binds.map cI), .gs 1 (shD e (x.kids.take i)) (.l 3), .sl 2 (x.alts.map cAlt)]), (1, .cells (cEx x)), (0, .cells ((purAt e j).map int))], ou⟩)
      (fun m i => i ≤ x.kids.length ∧ m = x.kids.length - i) (a0 := 0) (ρ := id) ⟨by omega, rfl⟩ (LessR.of rfl (by (repeat' first | exact FrSub.nil | refine zfc ?_ | refine zfo ?_ | refine zfp ?_)) (by simp) ?_ rfl rfl hou) fun m i hi => ?_
    · repeat' first | exact LoSub.nil | refine zlc ?_ | refine zld ?_ ?_ | rfl
      all_goals (simp [AObj.ren, renL, AC.ren, shD]; rfl)
    obtain ⟨hil, rfl⟩ := hi
    refine zA ?_
    refine ACode.cond rfl (fun hb3 => ?_) (fun hb3 => ?_)
    · have hlt2 : i < x.kids.length := by simpa using hb3
      obtain ⟨k, hk⟩ := get_of_lt hlt2
      have hkb := hxin k (List.mem_of_getElem? hk)
      obtain ⟨k', rfl⟩ : ∃ k' : Nat, k = k' := ⟨k.toNat, by omega⟩
      obtain ⟨y, hy⟩ := get_of_lt (l := e) (i := k') (by omega)
      have hyn : exN e k' = y := by unfold exN; rw [List.getD_eq_getElem?_getD, hy]; rfl
      have hsk : shK e (k' : Int) = .mk y.op y.n y.binds [] [] := by unfold shK; rw [Int.toNat_natCast, hyn]
      have hks := shD_succ (e := e) hk
      have hkl : (shD e (x.kids.take i)).length = i := by rw [shD_len]; simp; omega
      refine zA ?_
      refine AOps.step1 rfl rfl rfl (AStep.indexAddr tabOk rfl rfl rfl rfl rfl rfl (.inl rfl) rfl (by omega) (map_get hk)) ?_
      refine zA ?_
      have hwk : WkF (.one (.box [int y.op, int y.n, .sl 1 (y.binds.map cI), .lit (.slice none 0 0), .lit (.slice none 0 0)])) (.one (.box (cTr (shK e (k' : Int))))) := by
        rw [hsk]
        exact .one (.box (.cons (.refl _) (.cons (.refl _) (.cons (.refl _) (.cons (.nilS 1) (.cons (.nilS 2) .nil))))))
      refine ACode.drawXH (va := .one (.gs 1 (shD e (x.kids.take i) ++ [cB (shK e k')]) (.l 4))) (σ1 := (St.set ⟨4, [(3, .tok 70 1 i), (2, .cells [int x.op, int x.n, .sl 1 (x.binds.map cI), .gs 1 (shD e (x.kids.take i)) (.l 3), .sl 2 (x.alts.map cAlt)]), (1, .cells (cEx x)), (0, .cells ((purAt e j).map int))], ou⟩ (.l 3) .dead).push (.tok 70 1 (shD e (x.kids.take i) ++ [cB (shK e k')]).length))
        tabOk 24 23 [(7, .one (.box (cEx y))), (12, .one (.box (cEx y))), (17, .one (.box (cEx y))), (21, .one (.box (cTr (shK e k'))))] follows (by kernel_rfl) rfl rfl rfl rfl rfl rfl rfl ?_ ?_ ?_ ?_
      · refine HStep.plain rfl (AStep.append (s := 1) (es := shD e (x.kids.take i)) (news := [cB (shK e k')]) (ti := ti71) (σ := ⟨4, [(3, .tok 70 1 i), (2, .cells [int x.op, int x.n, .sl 1 (x.binds.map cI), .gs 1 (shD e (x.kids.take i)) (.l 3), .sl 2 (x.alts.map cAlt)]), (1, .cells (cEx x)), (0, .cells ((purAt e j).map int))], ou⟩) tabOk rfl rfl rfl rfl rfl rfl (Base.gs' _ 70 1 (shD e (x.kids.take i)) (.l 3) rfl hkl.symm) (.sl _ _) rfl ?_ ?_)
        · rw [hkl]; show (i + 1) * 8 ≤ _; omega
        · rw [hkl]; show i + 1 ≤ _; omega
      · refine .step rfl (HStep.plain rfl (AStep.indexAddr tabOk rfl rfl rfl rfl rfl rfl (.inl rfl) rfl (by omega) (map_get hy))) (.step rfl (HStep.plain rfl (AStep.indexAddr tabOk rfl rfl rfl rfl rfl rfl (.inl rfl) rfl (by omega) (map_get hy))) (.step rfl (HStep.plain rfl (AStep.indexAddr tabOk rfl rfl rfl rfl rfl rfl (.inl rfl) rfl (by omega) (map_get hy))) (.step rfl (HStep.plain rfl (AStep.wk (AStep.boxI rfl rfl) hwk)) .nil)))
      · refine .step rfl (HStep.plain rfl (AStep.indexAddr tabOk rfl rfl rfl rfl rfl rfl (.inl rfl) rfl (by omega) (map_get hy))) (.step rfl (HStep.plain rfl (AStep.indexAddr tabOk rfl rfl rfl rfl rfl rfl (.inl rfl) rfl (by omega) (map_get hy))) (.step rfl (HStep.plain rfl (AStep.indexAddr tabOk rfl rfl rfl rfl rfl rfl (.inl rfl) rfl (by omega) (map_get hy))) (.step rfl (HStep.plain rfl (AStep.wk (AStep.boxI rfl rfl) hwk)) .nil)))
      refine zM ?_
      refine cInv ⟨x.kids.length - (i + 1), i + 1, fun k => if k = 3 then 4 else k, by omega, ⟨by omega, rfl⟩, LessR.of rfl (by (repeat' first | exact FrSub.nil | refine zfc ?_ | refine zfo ?_ | refine zfp ?_)) (by simp) ?_ rfl rfl hou⟩
      repeat' first | exact LoSub.nil | refine zlc ?_ | refine zld ?_ ?_ | rfl
      · simp only [AObj.ren, List.length_append, hkl]; rfl
      · rw [hks]; simp only [AObj.ren, renL, AC.ren, ren_cIs, ren_cAlts]; rw [renS_pure _ _ (by rw [← hks]; exact ids_shD _ _ _)]; rfl
    have hlt2 : i = x.kids.length := by simp at hb3; omega
    subst hlt2
    rw [List.take_length]
    have hown := own_ok hΓc x.op x.n x.binds (x.kids.map (shK e)) x.alts (fun h hn => hk1 (by omega) (by simpa using hn)) (fun h8 h34 => by rw [List.length_map]; exact hk2 h8 h34) hxo.a (by rw [List.length_map]; exact hxk) (fun k hk => by
      obtain ⟨k', hk', rfl⟩ := List.mem_map.1 hk
      have hkb := hxin k' hk'
      obtain ⟨y, hy⟩ := get_of_lt (l := e) (i := k'.toNat) (by omega)
      have hyn : exN e k'.toNat = y := by unfold exN; rw [List.getD_eq_getElem?_getD, hy]; rfl
      show (exN e k'.toNat).binds.length ≤ _
      rw [hyn]
      exact (he.eo.x y (List.mem_of_getElem? hy)).b)
    refine zA ?_
    refine AOps.freeze1 (.l 2) 74 rfl rfl ?_
    refine AOps.wk 74 rfl (y := .one (.box (cTr (shT e x)))) (.one (Wk.box ?_)) ?_
    · exact .cons (.refl _) (.cons (.refl _) (.cons (.refl _) (.cons (.gsE (by rw [encTrs_eq]; simp [shD, shT])) (.cons (.refl _) .nil))))
    refine zca hΓc hown hou ?_
    refine AOps.step1 rfl rfl rfl (idxI tabOk rfl rfl rfl rfl rfl rfl rfl (by simp; omega)) ?_
    refine storeI tabOk rfl rfl rfl rfl rfl rfl rfl rfl (show j < (purAt e j).length by omega) ?_
    refine zA ?_
    refine ACode.loopR hΓc (α := Nat) (fun i => [(80, .one (int i)), (79, .one (int (x.kids.map cI).length)), (78, .one (.sl 1 (x.kids.map cI))), (7, .one (.ptr (.l 1) 0)), (6, .one (int j)), (23, .one (int j)), (22, .one (int (e.map cEx).length)), (21, .one (.sl 5 (e.map cEx))), (5, .one (.arr (.l 0) 1 0 (e.map cEx).length (e.map cEx).length)), (0, .one (.sl 5 (e.map cEx)))])
      (fun i => ⟨2, [(1, .cells (cEx x)), (0, .cells (((purAt e j).set j (purTo e x (purAt e j) i)).map int))], ou⟩)
      (fun m i => i ≤ x.kids.length ∧ m = x.kids.length - i) (a0 := 0) (ρ := id) ⟨by omega, rfl⟩ (LessR.of rfl (by (repeat' first | exact FrSub.nil | refine zfc ?_ | refine zfo ?_ | refine zfp ?_)) (by simp) (LoSub.cons rfl (by rw [AObj.ren_pure _ _ (by simp)]) rfl (by simp) (LoSub.cons rfl (by rw [AObj.ren_pure _ _ (by simp)]; rfl) rfl (by simp) .nil)) rfl rfl hou) fun m i hi => ?_
    obtain ⟨hil, rfl⟩ := hi
    refine zA ?_
    refine ACode.cond rfl (fun hb3 => ?_) (fun hb3 => ?_)
    · have hlt2 : i < x.kids.length := by simpa using hb3
      clear hb3
      obtain ⟨k, hk⟩ := get_of_lt hlt2
      have hkb := hxin k (List.mem_of_getElem? hk)
      obtain ⟨k', rfl⟩ : ∃ k' : Nat, k = k' := ⟨k.toNat, by omega⟩
      obtain ⟨y, hy⟩ := get_of_lt (l := e) (i := k') (by omega)
      have hyn : exN e k' = y := by unfold exN; rw [List.getD_eq_getElem?_getD, hy]; rfl
      have hst : purTo e x (purAt e j) (i + 1) = purStep e x (purAt e j) i k' (purTo e x (purAt e j) i) := by
        show purStep e x (purAt e j) i (x.kids.getD i 0) _ = _
        rw [List.getD_eq_getElem?_getD, hk]; rfl
      obtain ⟨acc, hacc⟩ : ∃ acc, acc = purTo e x (purAt e j) i := ⟨_, rfl⟩
      rw [← hacc] at hst ⊢
      have hpj : ((purAt e j).set j acc)[j]? = some acc := by rw [List.getElem?_set_self (by omega)]
      have hpk : ((purAt e j).set j acc)[k']? = some ((purAt e j).getD k' 0) := by
        rw [List.getElem?_set_ne (by omega), List.getD_eq_getElem?_getD, List.getElem?_eq_getElem (by omega)]; rfl
      refine zA ?_
      refine AOps.step1 rfl rfl rfl (AStep.indexAddr tabOk rfl rfl rfl rfl rfl rfl (.inl rfl) rfl (by omega) (map_get hk)) ?_
      repeat' first | refine zN ?_ | (with_reducible refine oj ?_; refine AOps.splitS rfl rfl rfl rfl (fun hb => ?_) (fun hb => ?_)) | (with_reducible refine ok ?_; first | refine ACode.condS rfl (fun hb => ?_) (fun hb => ?_) | refine ACode.cond rfl (fun hb => ?_) (fun hb => ?_))
      · have hs2 : purStep e x (purAt e j) i k' acc = acc := by
          unfold purStep
          rw [if_pos (.inl (by simpa using ‹(x.op == 2) = true›))]
        exact cInv ⟨x.kids.length - (i + 1), i + 1, id, by omega, ⟨by omega, rfl⟩, LessR.of rfl (by (repeat' first | exact FrSub.nil | refine zfc ?_ | refine zfo ?_ | refine zfp ?_)) (by simp) (LoSub.cons rfl (by rw [AObj.ren_pure _ _ (by simp)]) rfl (by simp) (LoSub.cons rfl (by rw [AObj.ren_pure _ _ (by simp), hst, hs2]) rfl (by simp) .nil)) rfl rfl hou⟩
      · have hs2 : purStep e x (purAt e j) i k' acc = acc := by
          unfold purStep
          rw [if_pos (.inr ⟨by simpa using ‹(x.op == 5) = true›, by simpa using ‹decide (((i : Nat) : Int) < ((x.binds.map cI).length : Int)) = true›⟩)]
        exact cInv ⟨x.kids.length - (i + 1), i + 1, id, by omega, ⟨by omega, rfl⟩, LessR.of rfl (by (repeat' first | exact FrSub.nil | refine zfc ?_ | refine zfo ?_ | refine zfp ?_)) (by simp) (LoSub.cons rfl (by rw [AObj.ren_pure _ _ (by simp)]) rfl (by simp) (LoSub.cons rfl (by rw [AObj.ren_pure _ _ (by simp), hst, hs2]) rfl (by simp) .nil)) rfl rfl hou⟩
      · exfalso
        have h5 : x.op = 5 := by simpa using ‹(x.op == 5) = true›
        have h3 : x.op = 3 := by simpa using ‹(x.op == 3) = true›
        omega
      · exfalso
        have h5 : x.op = 5 := by simpa using ‹(x.op == 5) = true›
        have h3 : x.op = 3 := by simpa using ‹(x.op == 3) = true›
        omega
      · have h5 : x.op = 5 := by simpa using ‹(x.op == 5) = true›
        have hl : ¬ i < x.binds.length := by simpa using ‹decide (((i : Nat) : Int) < ((x.binds.map cI).length : Int)) = false›
        have hs2 : purStep e x (purAt e j) i k' acc = orI acc ((purAt e j).getD k' 0) := by
          unfold purStep
          rw [if_neg (by omega), if_neg (by omega)]; rfl
        refine ACode.drawX tabOk 9 [(2, .one (.ptr (.l 0) j)), (3, .one (int acc)), (6, .one (.ptr (.l 0) k')), (7, .one (int ((purAt e j).getD k' 0))), (8, .one (int (orI acc ((purAt e j).getD k' 0))))] follows (by kernel_rfl) rfl rfl rfl rfl ?_ ?_
        · refine .step rfl (HStep.plain rfl (idxI tabOk rfl rfl rfl rfl rfl rfl rfl (by simp; omega))) ?_
          refine .step rfl (HStep.plain rfl (loadI tabOk rfl rfl rfl rfl rfl rfl hpj)) ?_
          refine .step rfl (HStep.plain rfl (idxI tabOk rfl rfl rfl rfl rfl rfl rfl (by simp; omega))) ?_
          refine .step rfl (HStep.plain rfl (loadI tabOk rfl rfl rfl rfl rfl rfl hpk)) ?_
          exact .step rfl (HStep.plain rfl (AStep.or rfl rfl rfl)) .nil
        refine AOps.step1 rfl rfl rfl (idxI tabOk rfl rfl rfl rfl rfl rfl rfl (by simp; omega)) ?_
        refine storeI tabOk rfl rfl rfl rfl rfl rfl rfl rfl (show j < ((purAt e j).set j acc).length by rw [List.length_set]; omega) ?_
        rw [List.set_set]
        refine zM ?_
        exact cInv ⟨x.kids.length - (i + 1), i + 1, id, by omega, ⟨by omega, rfl⟩, LessR.of rfl (by (repeat' first | exact FrSub.nil | refine zfc ?_ | refine zfo ?_ | refine zfp ?_)) (by simp) (LoSub.cons rfl (by rw [AObj.ren_pure _ _ (by simp)]) rfl (by simp) (LoSub.cons rfl (by rw [AObj.ren_pure _ _ (by simp), hst, hs2]) rfl (by simp) .nil)) rfl rfl hou⟩
      · have h3 : x.op = 3 := by simpa using ‹(x.op == 3) = true›
        have hi0 : i = 0 := by simpa using ‹(((i : Nat) : Int) == 0) = true›
        refine AOps.step1 rfl rfl rfl (AStep.indexAddr tabOk rfl rfl rfl rfl rfl rfl (.inl rfl) rfl (by omega) (map_get hy)) ?_
        refine zA ?_
        refine ACode.cond rfl (fun hb4 => ?_) (fun hb4 => ?_)
        · have hy2 : y.op = 2 := by simpa using hb4
          have hyk := (shape_kids (shape_of h y (List.mem_of_getElem? hy))).1 (by omega)
          obtain ⟨q, hq⟩ := get_of_lt (l := y.kids) (i := 0) (List.length_pos_iff.2 hyk)
          have hqb := hin k' y hy q (List.mem_of_getElem? hq)
          obtain ⟨q, rfl⟩ : ∃ q' : Nat, q = q' := ⟨q.toNat, by omega⟩
          have hpq : ((purAt e j).set j acc)[q]? = some ((purAt e j).getD q 0) := by
            rw [List.getElem?_set_ne (by omega), List.getD_eq_getElem?_getD, List.getElem?_eq_getElem (by omega)]; rfl
          have hs2 : purStep e x (purAt e j) i k' acc = orI acc ((purAt e j).getD q 0) := by
            unfold purStep
            rw [if_neg (by omega), if_pos ⟨h3, hi0, by rw [Int.toNat_natCast, hyn]; exact hy2⟩, Int.toNat_natCast, hyn, List.getD_eq_getElem?_getD (l := y.kids), hq]; rfl
          refine ACode.drawX tabOk 15 [(2, .one (.ptr (.l 0) j)), (3, .one (int acc)), (7, .one (.box (cEx y))), (10, .one (.box (cI q))), (12, .one (.ptr (.l 0) q)), (13, .one (int ((purAt e j).getD q 0))), (14, .one (int (orI acc ((purAt e j).getD q 0))))] follows (by kernel_rfl) rfl rfl rfl rfl ?_ ?_
          · refine .step rfl (HStep.plain rfl (idxI tabOk rfl rfl rfl rfl rfl rfl rfl (by simp; omega))) ?_
            refine .step rfl (HStep.plain rfl (loadI tabOk rfl rfl rfl rfl rfl rfl hpj)) ?_
            refine .step rfl (HStep.plain rfl (AStep.indexAddr tabOk rfl rfl rfl rfl rfl rfl (.inl rfl) rfl (by omega) (map_get hy))) ?_
            refine .step rfl (HStep.plain rfl (AStep.indexAddr tabOk rfl rfl rfl rfl rfl rfl (.inl rfl) rfl (by omega) (map_get (i := 0) hq))) ?_
            refine .step rfl (HStep.plain rfl (idxI tabOk rfl rfl rfl rfl rfl rfl rfl (by simp; omega))) ?_
            refine .step rfl (HStep.plain rfl (loadI tabOk rfl rfl rfl rfl rfl rfl hpq)) ?_
            exact .step rfl (HStep.plain rfl (AStep.or rfl rfl rfl)) .nil
          refine AOps.step1 rfl rfl rfl (idxI tabOk rfl rfl rfl rfl rfl rfl rfl (by simp; omega)) ?_
          refine storeI tabOk rfl rfl rfl rfl rfl rfl rfl rfl (show j < ((purAt e j).set j acc).length by rw [List.length_set]; omega) ?_
          rw [List.set_set]
          refine zM ?_
          exact cInv ⟨x.kids.length - (i + 1), i + 1, id, by omega, ⟨by omega, rfl⟩, LessR.of rfl (by (repeat' first | exact FrSub.nil | refine zfc ?_ | refine zfo ?_ | refine zfp ?_)) (by simp) (LoSub.cons rfl (by rw [AObj.ren_pure _ _ (by simp)]) rfl (by simp) (LoSub.cons rfl (by rw [AObj.ren_pure _ _ (by simp), hst, hs2]) rfl (by simp) .nil)) rfl rfl hou⟩
        · have hy2 : y.op ≠ 2 := by simpa using hb4
          have hs2 : purStep e x (purAt e j) i k' acc = orI acc ((purAt e j).getD k' 0) := by
            unfold purStep
            rw [if_neg (by omega), if_neg (by rw [Int.toNat_natCast, hyn]; omega)]; rfl
          refine ACode.drawX tabOk 9 [(2, .one (.ptr (.l 0) j)), (3, .one (int acc)), (6, .one (.ptr (.l 0) k')), (7, .one (int ((purAt e j).getD k' 0))), (8, .one (int (orI acc ((purAt e j).getD k' 0))))] follows (by kernel_rfl) rfl rfl rfl rfl ?_ ?_
          · refine .step rfl (HStep.plain rfl (idxI tabOk rfl rfl rfl rfl rfl rfl rfl (by simp; omega))) ?_
            refine .step rfl (HStep.plain rfl (loadI tabOk rfl rfl rfl rfl rfl rfl hpj)) ?_
            refine .step rfl (HStep.plain rfl (idxI tabOk rfl rfl rfl rfl rfl rfl rfl (by simp; omega))) ?_
            refine .step rfl (HStep.plain rfl (loadI tabOk rfl rfl rfl rfl rfl rfl hpk)) ?_
            exact .step rfl (HStep.plain rfl (AStep.or rfl rfl rfl)) .nil
          refine AOps.step1 rfl rfl rfl (idxI tabOk rfl rfl rfl rfl rfl rfl rfl (by simp; omega)) ?_
          refine storeI tabOk rfl rfl rfl rfl rfl rfl rfl rfl (show j < ((purAt e j).set j acc).length by rw [List.length_set]; omega) ?_
          rw [List.set_set]
          refine zM ?_
          exact cInv ⟨x.kids.length - (i + 1), i + 1, id, by omega, ⟨by omega, rfl⟩, LessR.of rfl (by (repeat' first | exact FrSub.nil | refine zfc ?_ | refine zfo ?_ | refine zfp ?_)) (by simp) (LoSub.cons rfl (by rw [AObj.ren_pure _ _ (by simp)]) rfl (by simp) (LoSub.cons rfl (by rw [AObj.ren_pure _ _ (by simp), hst, hs2]) rfl (by simp) .nil)) rfl rfl hou⟩
      · have h3 : x.op = 3 := by simpa using ‹(x.op == 3) = true›
        have hi0 : ¬ i = 0 := by simpa using ‹(((i : Nat) : Int) == 0) = false›
        have hs2 : purStep e x (purAt e j) i k' acc = orI acc ((purAt e j).getD k' 0) := by
          unfold purStep
          rw [if_neg (by omega), if_neg (by omega)]; rfl
        refine ACode.drawX tabOk 9 [(2, .one (.ptr (.l 0) j)), (3, .one (int acc)), (6, .one (.ptr (.l 0) k')), (7, .one (int ((purAt e j).getD k' 0))), (8, .one (int (orI acc ((purAt e j).getD k' 0))))] follows (by kernel_rfl) rfl rfl rfl rfl ?_ ?_
        · refine .step rfl (HStep.plain rfl (idxI tabOk rfl rfl rfl rfl rfl rfl rfl (by simp; omega))) ?_
          refine .step rfl (HStep.plain rfl (loadI tabOk rfl rfl rfl rfl rfl rfl hpj)) ?_
          refine .step rfl (HStep.plain rfl (idxI tabOk rfl rfl rfl rfl rfl rfl rfl (by simp; omega))) ?_
          refine .step rfl (HStep.plain rfl (loadI tabOk rfl rfl rfl rfl rfl rfl hpk)) ?_
          exact .step rfl (HStep.plain rfl (AStep.or rfl rfl rfl)) .nil
        refine AOps.step1 rfl rfl rfl (idxI tabOk rfl rfl rfl rfl rfl rfl rfl (by simp; omega)) ?_
        refine storeI tabOk rfl rfl rfl rfl rfl rfl rfl rfl (show j < ((purAt e j).set j acc).length by rw [List.length_set]; omega) ?_
        rw [List.set_set]
        refine zM ?_
        exact cInv ⟨x.kids.length - (i + 1), i + 1, id, by omega, ⟨by omega, rfl⟩, LessR.of rfl (by (repeat' first | exact FrSub.nil | refine zfc ?_ | refine zfo ?_ | refine zfp ?_)) (by simp) (LoSub.cons rfl (by rw [AObj.ren_pure _ _ (by simp)]) rfl (by simp) (LoSub.cons rfl (by rw [AObj.ren_pure _ _ (by simp), hst, hs2]) rfl (by simp) .nil)) rfl rfl hou⟩
      · have h2 : ¬ x.op = 2 := by simpa using ‹(x.op == 2) = false›
        have h5 : ¬ x.op = 5 := by simpa using ‹(x.op == 5) = false›
        have h3 : ¬ x.op = 3 := by simpa using ‹(x.op == 3) = false›
        have hs2 : purStep e x (purAt e j) i k' acc = orI acc ((purAt e j).getD k' 0) := by
          unfold purStep
          rw [if_neg (by omega), if_neg (by omega)]; rfl
        refine ACode.drawX tabOk 9 [(2, .one (.ptr (.l 0) j)), (3, .one (int acc)), (6, .one (.ptr (.l 0) k')), (7, .one (int ((purAt e j).getD k' 0))), (8, .one (int (orI acc ((purAt e j).getD k' 0))))] follows (by kernel_rfl) rfl rfl rfl rfl ?_ ?_
        · refine .step rfl (HStep.plain rfl (idxI tabOk rfl rfl rfl rfl rfl rfl rfl (by simp; omega))) ?_
          refine .step rfl (HStep.plain rfl (loadI tabOk rfl rfl rfl rfl rfl rfl hpj)) ?_
          refine .step rfl (HStep.plain rfl (idxI tabOk rfl rfl rfl rfl rfl rfl rfl (by simp; omega))) ?_
          refine .step rfl (HStep.plain rfl (loadI tabOk rfl rfl rfl rfl rfl rfl hpk)) ?_
          exact .step rfl (HStep.plain rfl (AStep.or rfl rfl rfl)) .nil
        refine AOps.step1 rfl rfl rfl (idxI tabOk rfl rfl rfl rfl rfl rfl rfl (by simp; omega)) ?_
        refine storeI tabOk rfl rfl rfl rfl rfl rfl rfl rfl (show j < ((purAt e j).set j acc).length by rw [List.length_set]; omega) ?_
        rw [List.set_set]
        refine zM ?_
        exact cInv ⟨x.kids.length - (i + 1), i + 1, id, by omega, ⟨by omega, rfl⟩, LessR.of rfl (by (repeat' first | exact FrSub.nil | refine zfc ?_ | refine zfo ?_ | refine zfp ?_)) (by simp) (LoSub.cons rfl (by rw [AObj.ren_pure _ _ (by simp)]) rfl (by simp) (LoSub.cons rfl (by rw [AObj.ren_pure _ _ (by simp), hst, hs2]) rfl (by simp) .nil)) rfl rfl hou⟩
    · have hlt2 : i = x.kids.length := by simp at hb3; omega
      subst hlt2
      refine zM ?_
      exact cInv ⟨e.length - (j + 1), j + 1, id, by omega, ⟨by omega, rfl⟩, LessR.of rfl (by (repeat' first | exact FrSub.nil | refine zfc ?_ | refine zfo ?_ | refine zfp ?_)) (by simp) (LoSub.cons rfl (by rw [AObj.ren_pure _ _ (by simp), purAt_succ, hxn]) rfl (by simp) .nil) rfl rfl hou⟩
  · have hlt : j = e.length := by simp at hb2; omega
    subst hlt
    have hpl := purAt_len e e.length
    have hvec : (purAt e e.length).map int = vec 1 ((purAt e e.length).map cI) (e.map cEx).length := by
      have h1 : ((purAt e e.length).map cI).flatten = (purAt e e.length).map int := by
        generalize purAt e e.length = l
        induction l with
        | nil => rfl
        | cons n l ih => simp only [List.map_cons, List.flatten_cons, ih]; rfl
      unfold vec
      rw [h1, List.length_map, List.length_map, hpl]; simp
    iterate 7 (first | ((with_reducible refine oj ?_); refine zau ?_) | (with_reducible refine zst ?_) | ((with_reducible refine cExitMiss ?_ ?_); rfl) | (with_reducible refine ok ?_; first | refine ACode.condT rfl ?_ | refine ACode.condF rfl ?_))
    refine AOps.wk 5 rfl (y := .one (.arr (.l 0) 1 0 ((purAt e e.length).map cI).length (e.map cEx).length)) (.ofEq (by simp [hpl])) ?_
    refine AOps.freezeArr (es := (purAt e e.length).map cI) (cap := (e.map cEx).length) (s := 1) (.l 0) 5 (by rw [← hvec]; rfl) (by simp [cI]) rfl ?_
    refine zA ?_
    exact APure.fin rfl (WkF.ofEq rfl) (by simp) hou rfl
end Go.Proofs.YtgdionbeeodaaaaDoor
namespace Go.CoreX
def factP : Tr := .mk 8 7 [] [.mk 1 1 [] [] []] []
theorem pur_fact : purOf (listT [] factP) = ([0, 3], 0) := by decide +kernel
end Go.CoreX
namespace Go.Proofs.YtgdionbeeodaaaaDoor
open Go Go.Abs Go.CoreX
set_option maxRecDepth 10000
variable {Γ : List (Nat × List AC)}
theorem W_ok (hΓ : ∀ g cs, (g, cs) ∈ Γ → idsL isO cs) (n : Int) : APure Tryd.prog Γ 20 [.one (int n)] (.one (.box (cNd (.mk 1 n [] [] [])))) := by
  intro ou
  refine AFn.walk 5 tabOk Tryd.func20 rfl (by kernel_rfl) rfl rfl fun hou => ?_
  refine zA ?_
  refine AOps.callCW (ws := [.one (int 1), .one (int n), .one (.sl 1 (encNds []))]) hΓ (N_ok 1 n []) rfl rfl rfl rfl rfl rfl ?_ hou (by simp) ?_
  · exact .cons (.refl _) (.cons (.refl _) (.cons (.one (.nilS 1)) .nil))
  refine zA ?_
  exact APure.fin rfl (WkF.ofEq rfl) (by simp) hou rfl
theorem Print_ok (hΓ : ∀ g cs, (g, cs) ∈ Γ → idsL isO cs) (t : Tr) : APure Tryd.prog Γ 61 [.one (.box (cNd t))] (.one (.box (cNd (.mk 8 7 [] [t] [])))) := by
  intro ou
  refine AFn.walk 6 tabOk Tryd.func61 rfl (by kernel_rfl) rfl rfl fun hou => ?_
  refine zA ?_
  refine AOps.callC hΓ (N_ok 8 7 [t]) rfl rfl rfl rfl rfl rfl (by rw [encNds_eq]; rfl) hou (by simp) ?_
  refine zA ?_
  exact APure.fin rfl (WkF.ofEq rfl) (by simp) hou rfl
theorem purFact_ok : APure Tryd.prog Γc 36 [] (.one (.lit (.bool true))) := by
  have hoT : okT factP := by simp [factP, okT, okTs]
  have hoB : okB (listT [] factP) := by
    refine ⟨⟨by simp [factP, listT, listTs], fun x hx => ?_⟩, fun x hx => ?_⟩
    all_goals
      simp [factP, listT, listTs] at hx
      rcases hx with rfl | rfl
    all_goals first
      | exact ⟨by simp, by simp, by simp, by simp⟩
      | simp
  have h1 := Of_ok _ hoB
  rw [pur_fact] at h1
  intro ou
  refine AFn.walk 17 tabOk Tryd.func36 rfl (by kernel_rfl) rfl rfl fun hou => ?_
  refine zA ?_
  refine zca hΓc (W_ok hΓc 1) hou ?_
  refine zca hΓc (Print_ok hΓc (.mk 1 1 [] [] [])) hou ?_
  refine zca hΓc (NodeList_ok hΓc factP hoT (by simp [factP, listT, listTs])) hou ?_
  refine zca hΓc h1 hou ?_
  refine zA ?_
  refine AOps.callG hΓc (Equal_ok hΓc [0, 3] [0, 3] (by simp)) rfl rfl rfl rfl rfl rfl rfl rfl rfl hou (by simp) ?_
  refine zA ?_
  exact APure.fin rfl (WkF.ofEq rfl) (by simp) hou rfl
end Go.Proofs.YtgdionbeeodaaaaDoor
namespace Go.CoreX
structure CS where
  u : Int → Int
  d : Int → Int
  m : Int → Int
def upF (f : Int → Int) (k v : Int) : Int → Int := fun j => if k = j then v else f j
def visitU (s : CS) (n deep : Int) : CS := ⟨upF s.u n (s.u n + 1), s.d, if s.d n < deep then upF s.m n (s.m n + 1) else s.m⟩
def bindU (d : Int) (s : CS) (l : List Int) : CS := ⟨s.u, l.foldl (fun f n => upF f n d) s.d, s.m⟩
def rep (o : Int) (i : Int) : Bool := o == 2 || (o == 13 && decide (0 < i))
def deepK (o : Int) (i : Nat) (deep : Int) : Int := if rep o i = true then deep + 1 else deep
mutual
def walkU (deep : Int) (s : CS) : Tr → CS
  | .mk o n b k a => walkUs deep o b a 0 (if o = 0 then visitU s n deep else s) k
def walkUs (deep o : Int) (b : List Int) (a : List Alt) (i : Nat) (s : CS) : List Tr → CS
  | [] => s
  | t :: ts => walkUs deep o b a (i + 1) (walkU (deepK o i deep) (bindU (deepK o i deep) s (boundN o b a i)) t) ts
end
def CB (M : Int) (s : CS) : Prop := ∀ k, (0 ≤ s.u k ∧ s.u k ≤ M) ∧ 0 ≤ s.m k ∧ s.m k ≤ M
theorem CB.visit {M : Int} {s : CS} (h : CB M s) (n deep : Int) : CB (M + 1) (visitU s n deep) := fun k => by
  have h1 := h k
  have h2 := h n
  refine ⟨?_, ?_⟩
  · simp only [visitU, upF]; split <;> omega
  · by_cases e : s.d n < deep
    · simp only [visitU, if_pos e, upF]; split <;> omega
    · simp only [visitU, if_neg e]; omega
theorem CB.mono {M M' : Int} {s : CS} (h : CB M s) (hm : M ≤ M') : CB M' s := fun k => by have := h k; omega
mutual
theorem CB.walk : ∀ (t : Tr) {M : Int} {s : CS} (deep : Int), CB M s → CB (M + cntN t) (walkU deep s t)
  | .mk o n b k a, M, s, deep, h => by
    have h1 : CB (M + 1) (if o = 0 then visitU s n deep else s) := by
      split
      · exact h.visit n deep
      · exact h.mono (by omega)
    have h2 := CB.walks k (M := M + 1) deep o b a 0 h1
    simp only [walkU]
    refine h2.mono ?_
    simp only [cntN]; push_cast; omega
theorem CB.walks : ∀ (l : List Tr) {M : Int} {s : CS} (deep o : Int) (b : List Int) (a : List Alt) (i : Nat), CB M s → CB (M + cntNs l) (walkUs deep o b a i s l)
  | [], M, s, deep, o, b, a, i, h => by simpa [walkUs, cntNs] using h
  | t :: l, M, s, deep, o, b, a, i, h => by
    have h1 : CB M (bindU (deepK o i deep) s (boundN o b a i)) := h
    have h2 := CB.walk t (deepK o i deep) h1
    have h3 := CB.walks l deep o b a (i + 1) h2
    simp only [walkUs]
    refine h3.mono ?_
    simp only [cntNs]; push_cast; omega
end
structure UM where
  cu : Nat
  lu : List (Nat × Int × Int)
  cd : Nat
  ld : List (Nat × Int × Int)
  cm : Nat
  lm : List (Nat × Int × Int)
def isVar (n : Int) (l : Lab) : Int := if l.op = 0 ∧ l.n = n then 1 else 0
theorem isVar_nonneg (n : Int) (l : Lab) : 0 ≤ isVar n l := by unfold isVar; split <;> omega
end Go.CoreX
namespace Go.Proofs.YtgdionbeeodaaaaDoor
open Go Go.Abs Go.CoreX
set_option maxRecDepth 10000
variable {Γ : List (Nat × List AC)}
def CIs (s : CS) (x : UM) : Prop := BIs s.u x.cu x.lu ∧ BIs s.d x.cd x.ld ∧ BIs s.m x.cm x.lm
def ouU (x : UM) : Outer := ouOf [.cells [.mp (.o 1), .mp (.o 2), .mp (.o 3)], .map x.cu (encI eN x.lu), .map x.cd (encI eN x.ld), .map x.cm (encI eN x.lm)]
def WalkUOk (Γ : List (Nat × List AC)) (t : Tr) : Prop := ∀ (s : CS) (deep M : Int) (x : UM), CB M s → 0 ≤ deep → M + cntN t ≤ 4611686018427387904 → deep + depthT t ≤ 4611686018427387904 → CIs s x →
  AFn Tryd.prog Γ 65 [.one (.ptr (.o 0) 0), .one (.box (cTr t)), .one (int deep)] (ouU x) (fun r ou' => r = .tup [] ∧ ∃ x', ou' = ouU x' ∧ CIs (walkU deep s t) x')
end Go.Proofs.YtgdionbeeodaaaaDoor
namespace Go.CoreX
abbrev Nb := Option (Nat × Nat)
structure LAlt where
  tag : Int
  nb : Nb
  binds : List Int
def LAlt.er (a : LAlt) : Alt := ⟨a.tag, a.binds⟩
inductive LTr where
  | mk (id : Nat) (op n : Int) (nb : Nb) (binds : List Int) (kids : List LTr) (alts : List LAlt)
instance : Inhabited LTr := ⟨.mk 0 0 0 none [] [] []⟩
def LTr.id : LTr → Nat | .mk i _ _ _ _ _ _ => i
def LTr.kids : LTr → List LTr | .mk _ _ _ _ _ k _ => k
mutual
def erT : LTr → Tr
  | .mk _ o n _ b k a => .mk o n b (erTs k) (a.map LAlt.er)
def erTs : List LTr → List Tr
  | [] => []
  | t :: ts => erT t :: erTs ts
end
theorem erTs_eq : ∀ l : List LTr, erTs l = l.map erT
  | [] => rfl
  | t :: l => by simp [erTs, erTs_eq l]
end Go.CoreX
namespace Go.Proofs.YtgdionbeeodaaaaDoor
open Go Go.Abs Go.CoreX
set_option maxRecDepth 10000
variable {Γ : List (Nat × List AC)}
def bC : Nb → List Int → AC
  | none, l => .sl 1 (l.map cI)
  | some (a, cap), l => .arr (.o a) 1 0 (l.map cI).length cap
def bO : Nb → List Int → List (Nat × AObj)
  | none, _ => []
  | some (a, cap), l => [(a, .cells (vec 1 (l.map cI) cap))]
def lAlt (x : LAlt) : List AC := [int x.tag, bC x.nb x.binds]
def aO (l : List LAlt) : List (Nat × AObj) := l.flatMap fun x => bO x.nb x.binds
def kC (l : List LTr) : List (List AC) := l.map fun t => [.ptr (.o t.id) 0]
def lC : LTr → List AC
  | .mk _ o n nb b k a => [int o, int n, bC nb b, .sl 1 (kC k), .sl 2 (a.map lAlt)]
mutual
def objs : LTr → List (Nat × AObj)
  | .mk i o n nb b k a => (i, .cells [int o, int n, bC nb b, .sl 1 (kC k), .sl 2 (a.map lAlt)]) :: (bO nb b ++ aO a) ++ objss k
def objss : List LTr → List (Nat × AObj)
  | [] => []
  | t :: ts => objs t ++ objss ts
end
abbrev keys (l : List (Nat × AObj)) : List Nat := l.map (·.1)
def Owns (ou : Outer) (l : List (Nat × AObj)) : Prop := ∀ p ∈ l, ou p.1 = some p.2
theorem Owns.app {ou : Outer} {l r : List (Nat × AObj)} : Owns ou (l ++ r) ↔ Owns ou l ∧ Owns ou r := by
  unfold Owns
  constructor
  · exact fun h => ⟨fun p hp => h p (by simp [hp]), fun p hp => h p (by simp [hp])⟩
  · rintro ⟨h1, h2⟩ p hp
    rcases List.mem_append.1 hp with hp | hp
    · exact h1 p hp
    · exact h2 p hp
theorem Owns.frame {ou ou' : Outer} {l : List (Nat × AObj)} (h : Owns ou l) (hf : ∀ j ∈ keys l, ou' j = ou j) : Owns ou' l := fun p hp => (hf p.1 (List.mem_map_of_mem hp)).trans (h p hp)
theorem objss_eq : ∀ l : List LTr, objss l = l.flatMap objs
  | [] => rfl
  | t :: l => by simp [objss, objss_eq l]
theorem objss_app (l r : List LTr) : objss (l ++ r) = objss l ++ objss r := by simp [objss_eq]
theorem id_mem : ∀ t : LTr, t.id ∈ keys (objs t)
  | .mk i o n nb b k a => by simp [objs, LTr.id]
theorem owns_node {ou : Outer} : ∀ {t : LTr}, Owns ou (objs t) → ou t.id = some (.cells (lC t))
  | .mk i o n nb b k a, h => h (i, .cells [int o, int n, bC nb b, .sl 1 (kC k), .sl 2 (a.map lAlt)]) (by simp [objs])
theorem ids_bC (p : Abs.Id → Prop) (hp : ∀ k, p (.o k)) (nb : Nb) (l : List Int) : (bC nb l).ids p := by
  cases nb with
  | none => simp [bC, AC.ids]
  | some x => exact hp _
theorem ids_kC (p : Abs.Id → Prop) (hp : ∀ k, p (.o k)) (l : List LTr) : idsS p (kC l) := idsS_map (f := fun t : LTr => [.ptr (.o t.id) 0]) (fun t => by simp only [idsL, AC.ids, and_true]; exact hp _) l
theorem ids_lAlts (p : Abs.Id → Prop) (hp : ∀ k, p (.o k)) (l : List LAlt) : idsS p (l.map lAlt) := idsS_map (f := lAlt) (fun t => by simp only [lAlt, idsL, AC.ids, and_true, true_and]; exact ids_bC p hp _ _) l
theorem bC_read {Γ : List (Nat × List AC)} {F : Nat → Prop} {w : World} {C C' : Ctx} {σ : St} (hi : Inv Γ F w C σ) (hc : Chg isO w C w C') {nb : Nb} {l : List Int} (ho : Owns σ.ou (bO nb l)) (hp : ∀ k ∈ keys (bO nb l), ∀ a : Addr, a.block = C.blk (.o k) → C'.prot a) {v : Value}
    (hr : R w C (bC nb l) v) : R w C' (.sl 1 (l.map cI)) v := by
  cases nb with
  | none => exact R.chg hc (.sl 1 (l.map cI)) v (ids_cIs _ _) hr
  | some x =>
    obtain ⟨a, cap⟩ := x
    have hg : σ.get (.o a) = some (.cells (vec 1 (l.map cI) cap)) := ho (a, .cells (vec 1 (l.map cI) cap)) (by simp [bO])
    obtain ⟨hok, zs, T, b1, b2, b3, b4⟩ := hi.obj _ _ hg
    simp only [bC, R, Nat.zero_mul] at hr
    refine ⟨some ⟨C.blk (.o a), 0, none⟩, cap, hr.2.1, hr.2.2, .inr ⟨_, rfl, rfl, ?_⟩⟩
    have hl : ∀ x ∈ l.map cI, x.length = 1 := fun x hx => by obtain ⟨n, _, rfl⟩ := List.mem_map.1 hx; rfl
    have hfl := flat_len hl
    have hzl := RV.length b3
    have hfi : idsL isO (l.map cI).flatten := by
      refine idsL_iff.2 fun c hc => ?_
      obtain ⟨e, he, hce⟩ := List.mem_flatten.1 hc
      obtain ⟨n, _, rfl⟩ := List.mem_map.1 he
      simp [cI] at hce; subst hce; trivial
    have hv : RV w C' (l.map cI).flatten (zs.take ((l.map cI).length * 1)) := by
      refine RV.chg hc _ _ hfi ?_
      have := b3.take ((l.map cI).length * 1)
      rwa [vec, List.take_append_of_le_length (by omega), List.take_of_length_le (by omega)] at this
    refine RS.ofVals 0 hl hv fun j v hj => ⟨?_, hp a (by simp [bO]) _ rfl⟩
    have h2 : j < (l.map cI).length * 1 := by have := (List.getElem?_eq_some_iff.1 hj).1; simp at this ⊢; omega
    rw [List.getElem?_take_of_lt h2] at hj
    rw [Nat.zero_add, cell_of_row _ _ _ _ _ _ b1]
    simpa using hj
theorem aC_read {Γ : List (Nat × List AC)} {F : Nat → Prop} {w : World} {C C' : Ctx} {σ : St} (hi : Inv Γ F w C σ) (hc : Chg isO w C w C') : ∀ {l : List LAlt}, Owns σ.ou (aO l) → (∀ k ∈ keys (aO l), ∀ a : Addr, a.block = C.blk (.o k) → C'.prot a) → ∀ ad : Addr,
    RS w C 2 (l.map lAlt) ad → RS w C' 2 ((l.map LAlt.er).map cAlt) ad
  | [], _, _, ad, _ => by simp [RS]
  | x :: l, ho, hp, ad, hr => by
    have e : aO (x :: l) = bO x.nb x.binds ++ aO l := rfl
    rw [e] at ho hp
    obtain ⟨ho1, ho2⟩ := Owns.app.1 ho
    simp only [List.map_cons, RS, lAlt, RL] at hr
    obtain ⟨_, ⟨⟨u, hu, hup, hur⟩, ⟨v, hv, hvp, hvr⟩, _⟩, hrest⟩ := hr
    refine ⟨rfl, ⟨⟨u, hu, hc.prot _ hup, R.chg hc _ u trivial hur⟩, ⟨v, hv, hc.prot _ hvp, ?_⟩, trivial⟩, aC_read hi hc ho2 (fun k hk => hp k (by simp [keys] at hk ⊢; exact .inr hk)) _ hrest⟩
    exact bC_read hi hc ho1 (fun k hk => hp k (by simp [keys] at hk ⊢; exact .inl hk)) hvr
mutual
theorem own_read {Γ : List (Nat × List AC)} {F : Nat → Prop} {w : World} {C C' : Ctx} {σ : St} (hi : Inv Γ F w C σ) (hc : Chg isO w C w C') : ∀ t : LTr, Owns σ.ou (objs t) → (∀ k ∈ keys (objs t), ∀ a : Addr, a.block = C.blk (.o k) → C'.prot a) → RL w C' (cTr (erT t)) ⟨C.blk (.o t.id), 0, none⟩
  | .mk i o n nb b k a, ho, hp => by
    have hg : σ.get (.o i) = some (.cells (lC (.mk i o n nb b k a))) := owns_node (t := .mk i o n nb b k a) ho
    obtain ⟨hok, zs, T, b1, b2, b3, b4⟩ := hi.obj _ _ hg
    have e : objs (.mk i o n nb b k a) = [(i, .cells [int o, int n, bC nb b, .sl 1 (kC k), .sl 2 (a.map lAlt)])] ++ ((bO nb b ++ aO a) ++ objss k) := by simp [objs]
    rw [e] at ho hp
    obtain ⟨_, ho2⟩ := Owns.app.1 ho
    obtain ⟨ho3, hok2⟩ := Owns.app.1 ho2
    obtain ⟨hob, hoa⟩ := Owns.app.1 ho3
    have hpb : ∀ k' ∈ keys (bO nb b), ∀ a : Addr, a.block = C.blk (.o k') → C'.prot a := fun k' hk => hp k' (by simp [keys] at hk ⊢; exact .inr (.inl hk))
    have hpa : ∀ k' ∈ keys (aO a), ∀ a : Addr, a.block = C.blk (.o k') → C'.prot a := fun k' hk => hp k' (by simp [keys] at hk ⊢; exact .inr (.inr (.inl hk)))
    have hpk : ∀ k' ∈ keys (objss k), ∀ a : Addr, a.block = C.blk (.o k') → C'.prot a := fun k' hk => hp k' (by simp [keys] at hk ⊢; exact .inr (.inr (.inr hk)))
    simp only [lC, RV, R] at b3
    obtain ⟨v1, _, rfl, ⟨rfl, _⟩, v2, _, rfl, ⟨rfl, _⟩, v3, _, rfl, h3, v4, _, rfl, ⟨a4, c4, rfl, l4, h4⟩, v5, _, rfl, ⟨a5, c5, rfl, l5, h5⟩, rfl⟩ := b3
    have hrv : RV w C' (cTr (erT (.mk i o n nb b k a))) [.int .i64 o, .int .i64 n, v3, .slice a4 (kC k).length c4, .slice a5 (a.map lAlt).length c5] := by
      simp only [cTr, erT, Tr.op_mk, Tr.n_mk, Tr.binds_mk, Tr.kids_mk, Tr.alts_mk, RV]
      refine ⟨_, _, rfl, by simp [R, Value.oneCell'], _, _, rfl, by simp [R, Value.oneCell'], _, _, rfl, bC_read hi hc hob hpb h3, _, _, rfl, ?_, _, _, rfl, ?_, rfl⟩
      · refine ⟨a4, c4, by simp [kC, erTs_eq], by simpa [kC, erTs_eq] using l4, ?_⟩
        rcases h4 with h4 | ⟨ad, rfl, hs, h4⟩
        · left
          simp only [kC, List.map_eq_nil_iff] at h4
          subst h4; rfl
        · exact .inr ⟨ad, rfl, hs, own_reads hi hc k hok2 hpk ad h4⟩
      · refine ⟨a5, c5, by simp, by simpa using l5, ?_⟩
        rcases h5 with h5 | ⟨ad, rfl, hs, h5⟩
        · left
          simp only [List.map_eq_nil_iff] at h5
          subst h5; rfl
        · exact .inr ⟨ad, rfl, hs, aC_read hi hc hoa hpa ad h5⟩
    refine RL.of_new 0 hrv (fun j v hj => ?_) (fun ad ha => ?_)
    · rw [Nat.zero_add]
      show w.cell? ⟨C.blk (.o i), j, none⟩ = some v
      rw [cell_of_row _ _ _ _ _ _ b1]
      simpa using hj
    · exact hp i (by simp [keys]) _ ha
theorem own_reads {Γ : List (Nat × List AC)} {F : Nat → Prop} {w : World} {C C' : Ctx} {σ : St} (hi : Inv Γ F w C σ) (hc : Chg isO w C w C') : ∀ l : List LTr, Owns σ.ou (objss l) → (∀ k ∈ keys (objss l), ∀ a : Addr, a.block = C.blk (.o k) → C'.prot a) → ∀ ad : Addr, RS w C 1 (kC l) ad → RS w C' 1 (encTrs (erTs l)) ad
  | [], _, _, ad, _ => by simp [erTs, encTrs, RS]
  | t :: l, ho, hp, ad, hr => by
    have e : objss (t :: l) = objs t ++ objss l := rfl
    rw [e] at ho hp
    obtain ⟨ho1, ho2⟩ := Owns.app.1 ho
    simp only [kC, List.map_cons, RS, RL, R] at hr
    obtain ⟨_, ⟨⟨u, hu, hup, _, hur⟩, _⟩, hrest⟩ := hr
    simp only [erTs, encTrs, RS]
    refine ⟨rfl, ⟨⟨u, hu, hc.prot _ hup, ⟨_, hur, rfl, ?_⟩⟩, trivial⟩, own_reads hi hc l ho2 (fun k hk => hp k (by simp [keys] at hk ⊢; exact .inr hk)) _ hrest⟩
    rw [encTr_eq]
    exact own_read hi hc t ho1 fun k hk => hp k (by simp [keys] at hk ⊢; exact .inl hk)
end
mutual
theorem objs_cells : ∀ t : LTr, ∀ p ∈ objs t, ∃ cs, p.2 = .cells cs
  | .mk i o n nb b k a, p, hp => by
    simp only [objs, List.cons_append, List.mem_cons, List.mem_append] at hp
    have hb : ∀ (nb : Nb) (l : List Int), ∀ p ∈ bO nb l, ∃ cs, p.2 = .cells cs := fun nb l p hp => by
      cases nb with
      | none => simp [bO] at hp
      | some x => simp [bO] at hp; subst hp; exact ⟨_, rfl⟩
    rcases hp with rfl | (hp | hp) | hp
    · exact ⟨_, rfl⟩
    · exact hb _ _ p hp
    · unfold aO at hp
      obtain ⟨x, _, hx⟩ := List.mem_flatMap.1 hp
      exact hb _ _ p hx
    · exact objss_cells k p hp
theorem objss_cells : ∀ l : List LTr, ∀ p ∈ objss l, ∃ cs, p.2 = .cells cs
  | [], p, hp => by simp [objss] at hp
  | t :: l, p, hp => by
    simp only [objss, List.mem_append] at hp
    rcases hp with hp | hp
    · exact objs_cells t p hp
    · exact objss_cells l p hp
end
theorem LendF.tree {σ : St} {t : LTr} (h : Owns σ.ou (objs t)) : LendF σ (.one (.ptr (.o t.id) 0)) (.one (.box (cTr (erT t)))) := by
  intro Γ F w C v hi hr
  simp only [RF, R] at hr
  refine ⟨_, hr.2, rfl, own_read hi hi.stillChg t h fun k hk a ha => ?_⟩
  obtain ⟨p, hp, rfl⟩ := List.mem_map.1 hk
  obtain ⟨cs, hcs⟩ := objs_cells t p hp
  show a.block < w.heap.size
  rw [ha]
  exact (AObj.block_lt (hi.obj (.o p.1) p.2 (h p hp)).2 (by rw [hcs]; rfl)).2
def deadL (ou : Outer) (l : List Nat) : Outer := fun j => if j ∈ l then some .dead else ou j
theorem inv_freezeL {Γ : List (Nat × List AC)} {F : Nat → Prop} {w : World} : ∀ (l : List (Nat × AObj)) {C : Ctx} {σ : St}, Inv Γ F w C σ → Owns σ.ou l → (keys l).Nodup → (∀ p ∈ l, ∃ cs, p.2 = .cells cs) →
    ∃ C', Goes F (fun _ => True) w C w C' ∧ Inv Γ F w C' { σ with ou := deadL σ.ou (keys l) } ∧ (∀ i, C'.blk i = C.blk i) ∧ ∀ k ∈ keys l, ∀ a : Addr, a.block = C.blk (.o k) → C'.prot a
  | [], C, σ, hi, _, _, _ => ⟨C, Goes.refl _ _ _ _, by rw [show deadL σ.ou (keys []) = σ.ou from funext fun j => by simp [deadL]]; exact hi, fun _ => rfl, fun k hk => by simp at hk⟩
  | (k, o) :: l, C, σ, hi, ho, hn, hc => by
    obtain ⟨cs, rfl⟩ : ∃ cs, o = .cells cs := hc (k, o) (by simp)
    simp only [keys, List.map_cons, List.nodup_cons] at hn
    have hg : σ.get (.o k) = some (.cells cs) := ho (k, .cells cs) (by simp)
    obtain ⟨h1, h2, h3⟩ := hi.freeze hg
    have ho2 : Owns (σ.set (.o k) .dead).ou l := fun p hp => by
      have hne : p.1 ≠ k := fun e => hn.1 (e ▸ List.mem_map_of_mem hp)
      show (bif Nat.beq p.1 k then some AObj.dead else σ.ou p.1) = some p.2
      rw [beq_no hne]
      exact ho p (by simp [hp])
    obtain ⟨C', g1, g2, g3, g4⟩ := inv_freezeL l h2 ho2 hn.2 fun p hp => hc p (by simp [hp])
    refine ⟨C', h1.trans g1, ?_, fun i => g3 i, fun j hj a ha => ?_⟩
    · have e : ({ σ.set (.o k) .dead with ou := deadL (σ.set (.o k) .dead).ou (keys l) } : St) = { σ with ou := deadL σ.ou (keys ((k, .cells cs) :: l)) } := by
        show St.mk σ.n σ.lo _ = St.mk σ.n σ.lo _
        congr 1
        funext j
        show deadL (fun j => bif Nat.beq j k then some AObj.dead else σ.ou j) (keys l) j = _
        unfold deadL
        by_cases e : j = k
        · subst e; simp
        · simp only [beq_no e, cond_false, keys, List.map_cons, List.mem_cons, e, false_or]
      rw [← e]; exact g2
    · simp only [keys, List.map_cons, List.mem_cons] at hj
      rcases hj with rfl | hj
      · exact g1.chg.prot a (.inr ha)
      · exact g4 j hj a ha
end Go.Proofs.YtgdionbeeodaaaaDoor
namespace Go.CoreX
def frB (f : Int) (l : List Int) : List Int := (List.range l.length).map fun i : Nat => f + i
def frN (m : Nm) (f : Int) (l : List Int) : Nm := putsN m l (frB f l)
def frTo (f : Int) (l : List Int) (j : Nat) : List Int := ((List.range j).map fun i : Nat => f + i) ++ l.drop j
theorem frB_len (f : Int) (l : List Int) : (frB f l).length = l.length := by simp [frB]
end Go.CoreX
namespace Go.Proofs.YtgdionbeeodaaaaDoor
open Go Go.Abs Go.CoreX
set_option maxRecDepth 10000
variable {Γ : List (Nat × List AC)}
theorem OuOk.set {σ : St} {k : Nat} {o : AObj} (h : OuOk σ.ou) (ho : o.ids isO) : OuOk (σ.set (.o k) o).ou := by
  intro j p hj
  have hj' : (bif Nat.beq j k then some o else σ.ou j) = some p := hj
  by_cases e : j = k
  · subst e; simp at hj'; subst hj'; exact ho
  · rw [beq_no e] at hj'; exact h j p hj'
structure RnS (ou : Outer) (kn km kf : Nat) (nm : Nm) (ck : Nat) (l : List (Nat × Int × Int)) (f : Int) : Prop where
  n : ou kn = some (.cells [.mp (.o km)])
  m : ou km = some (.map ck (encI eN l))
  k : IMOk nm ck l
  f : ou kf = some (.cells [int f])
theorem RnS.ne {ou : Outer} {kn km kf : Nat} {nm : Nm} {ck : Nat} {l : List (Nat × Int × Int)} {f : Int} (h : RnS ou kn km kf nm ck l f) : kn ≠ km ∧ kn ≠ kf ∧ km ≠ kf := by
  refine ⟨fun e => ?_, fun e => ?_, fun e => ?_⟩
  · have := h.n; rw [e, h.m] at this; cases this
  · have := h.n; rw [e, h.f] at this; cases this
  · have := h.m; rw [e, h.f] at this; cases this
def FreshQ (ou : Outer) (kn km kf : Nat) (nm : Nm) (f : Int) (nb : Nb) (b : List Int) (r : FV) (ou' : Outer) : Prop :=
  r = .tup [] ∧ ∃ ck' l', RnS ou' kn km kf (frN nm f b) ck' l' (f + b.length) ∧ Owns ou' (bO nb (frB f b)) ∧ OuOk ou' ∧ ∀ j, j ≠ km → j ≠ kf → j ∉ keys (bO nb b) → ou' j = ou j
end Go.Proofs.YtgdionbeeodaaaaDoor
namespace Go.CoreX
def rnAs (nm : Nm) (f : Int) : List LAlt → List LAlt × Nm × Int
  | [] => ([], nm, f)
  | x :: l => (⟨x.tag, x.nb, frB f x.binds⟩ :: (rnAs (frN nm f x.binds) (f + x.binds.length) l).1, (rnAs (frN nm f x.binds) (f + x.binds.length) l).2)
def ren1 (o : Int) (nm : Nm) (f : Int) (b : List Int) : List Int × Nm × Int := if o = 9 then (b, nm, f) else (frB f b, frN nm f b, f + b.length)
mutual
def rnL (nm : Nm) (f : Int) : LTr → LTr × Nm × Int
  | .mk i o n nb b k a =>
    let s1 := ren1 o nm f b
    let s2 := rnAs s1.2.1 s1.2.2 a
    let s3 := rnLs s2.2.1 s2.2.2 k
    (.mk i o (if o = 0 then (nm n).getD n else n) nb s1.1 s3.1 s2.1, s3.2)
def rnLs (nm : Nm) (f : Int) : List LTr → List LTr × Nm × Int
  | [] => ([], nm, f)
  | t :: l => ((rnL nm f t).1 :: (rnLs (rnL nm f t).2.1 (rnL nm f t).2.2 l).1, (rnLs (rnL nm f t).2.1 (rnL nm f t).2.2 l).2)
end
def nbA (l : List LAlt) : Nat := (l.map fun x => x.binds.length).sum
mutual
def nbL : LTr → Nat
  | .mk _ o _ _ b k a => (if o = 9 then 0 else b.length) + nbA a + nbLs k
def nbLs : List LTr → Nat
  | [] => 0
  | t :: l => nbL t + nbLs l
end
def ownB (nb : Nb) (b : List Int) : Prop := nb = none → b = []
mutual
def okL : LTr → Prop
  | .mk _ o _ nb b k a => (o ≠ 9 → ownB nb b) ∧ b.length ≤ 1048576 ∧ k.length ≤ 1048576 ∧ a.length ≤ 1048576 ∧ (∀ x ∈ a, ownB x.nb x.binds ∧ x.binds.length ≤ 1048576) ∧ okLs k
def okLs : List LTr → Prop
  | [] => True
  | t :: l => okL t ∧ okLs l
end
theorem okLs_iff : ∀ {l : List LTr}, okLs l ↔ ∀ t ∈ l, okL t
  | [] => by simp [okLs]
  | t :: l => by simp [okLs, okLs_iff (l := l)]
end Go.CoreX
namespace Go.Proofs.YtgdionbeeodaaaaDoor
open Go Go.Abs Go.CoreX
set_option maxRecDepth 10000
variable {Γ : List (Nat × List AC)}
theorem keys_app (l r : List (Nat × AObj)) : keys (l ++ r) = keys l ++ keys r := by simp [keys]
theorem aO_app (l r : List LAlt) : aO (l ++ r) = aO l ++ aO r := by simp [aO]
def fnR (kn kf kw : Nat) : AC := .fn (.func 91) [] [.ptr (.o kn) 0, .ptr (.o kf) 0, .ptr (.o kw) 0]
def RenQ (ou : Outer) (kn km kf : Nat) (nm : Nm) (f : Int) (t : LTr) (r : FV) (ou' : Outer) : Prop :=
  r = .tup [] ∧ ∃ ck' l', RnS ou' kn km kf (rnL nm f t).2.1 ck' l' (rnL nm f t).2.2 ∧ Owns ou' (objs (rnL nm f t).1) ∧ OuOk ou' ∧ ∀ j, j ≠ km → j ≠ kf → j ∉ keys (objs t) → ou' j = ou j
def RenOk (Γ : List (Nat × List AC)) (t : LTr) : Prop := ∀ (ou : Outer) (kn km kf kw : Nat) (nm : Nm) (ck : Nat) (l : List (Nat × Int × Int)) (f : Int), RnS ou kn km kf nm ck l f → ou kw = some (.cells [fnR kn kf kw]) → Owns ou (objs t) → (keys (objs t)).Nodup →
  (∀ k ∈ keys (objs t), k ≠ kn ∧ k ≠ km ∧ k ≠ kf ∧ k ≠ kw) → 0 ≤ f → f + nbL t ≤ 4611686018427387904 → OuOk ou →
  AFn Tryd.prog Γ 91 [.one (.ptr (.o t.id) 0), .one (.ptr (.o kn) 0), .one (.ptr (.o kf) 0), .one (.ptr (.o kw) 0)] ou (RenQ ou kn km kf nm f t)
theorem ids_node (o n : Int) (nb : Nb) (b : List Int) (ks : List LTr) (a : List LAlt) : (AObj.cells [int o, int n, bC nb b, .sl 1 (kC ks), .sl 2 (a.map lAlt)]).ids isO :=
  ⟨trivial, trivial, ids_bC _ (fun _ => trivial) _ _, ids_kC _ (fun _ => trivial) _, ids_lAlts _ (fun _ => trivial) _, trivial⟩
structure NdS (ou ov : Outer) (kn km kf kw i : Nat) (cs : List AC) (K : List Nat) (nm : Nm) (ck : Nat) (l : List (Nat × Int × Int)) (f : Int) (Lb La Lk : List (Nat × AObj)) : Prop where
  R : RnS ov kn km kf nm ck l f
  w : ov kw = some (.cells [fnR kn kf kw])
  i : ov i = some (.cells cs)
  b : Owns ov Lb
  a : Owns ov La
  k : Owns ov Lk
  ok : OuOk ov
  fr : ∀ j, j ≠ km → j ≠ kf → j ∉ K → ov j = ou j
theorem NdS.frame {ou ov ow : Outer} {kn km kf kw i : Nat} {cs : List AC} {K S : List Nat} {nm nm' : Nm} {ck ck' : Nat} {l l' : List (Nat × Int × Int)} {f f' : Int} {Lb La Lk Lb' La' Lk' : List (Nat × AObj)} (h : NdS ou ov kn km kf kw i cs K nm ck l f Lb La Lk)
    (hR : RnS ow kn km kf nm' ck' l' f') (hok : OuOk ow) (hfr : ∀ j, j ≠ km → j ≠ kf → j ∉ S → ow j = ov j) (hS : ∀ j ∈ S, j ∈ K ∧ j ≠ i) (hK : ∀ k ∈ K, k ≠ kn ∧ k ≠ km ∧ k ≠ kf ∧ k ≠ kw) (hi : i ∈ K) (hw : kw ≠ km ∧ kw ≠ kf)
    (hb : Owns ow Lb') (ha : Owns ow La') (hk : Owns ow Lk') : NdS ou ow kn km kf kw i cs K nm' ck' l' f' Lb' La' Lk' where
  R := hR
  w := (hfr kw hw.1 hw.2 fun hj => (hK kw (hS kw hj).1).2.2.2 rfl).trans h.w
  i := (hfr i (hK i hi).2.1 (hK i hi).2.2.1 fun hj => (hS i hj).2 rfl).trans h.i
  b := hb
  a := ha
  k := hk
  ok := hok
  fr := fun j h1 h2 h3 => (hfr j h1 h2 fun hj => h3 (hS j hj).1).trans (h.fr j h1 h2 h3)
end Go.Proofs.YtgdionbeeodaaaaDoor
namespace Go.Proofs.YtgdionbeeodaaaaDoor
open Go Go.Abs Go.CoreX
set_option maxRecDepth 10000
variable {Γ : List (Nat × List AC)}
abbrev nm0 : Nm := fun _ => none
theorem ouAdd_ok {ou : Outer} {k : Nat} {os : List AObj} (h : OuOk ou) (ho : ∀ o ∈ os, o.ids isO) : OuOk (ouAdd ou k os) := by
  intro m o hm
  rcases Nat.lt_or_ge m k with h1 | h1
  · rw [ouAdd_old h1] at hm; exact h m o hm
  · obtain ⟨p, rfl⟩ : ∃ p, m = k + p := ⟨m - k, by omega⟩
    rw [ouAdd_new] at hm
    exact ho o (List.mem_of_getElem? hm)
def ouCut (ou : Outer) (k : Nat) : Outer := fun m => if m < k then ou m else none
def RenameQ (ou : Outer) (t : LTr) (f : Int) (r : FV) (ou' : Outer) : Prop :=
  r = .one (int (rnL nm0 f t).2.2) ∧ Owns ou' (objs (rnL nm0 f t).1) ∧ OuOk ou' ∧ ∀ j, j ∉ keys (objs t) → ou' j = ou j
end Go.Proofs.YtgdionbeeodaaaaDoor
namespace Go.Proofs.YtgdionbeeodaaaaDoor
open Go Go.Abs Go.CoreX
set_option maxRecDepth 10000
variable {Γ : List (Nat × List AC)}
theorem Wk.arr0 (i : Abs.Id) (s cap : Nat) : Wk (.arr i s 0 0 cap) (.sl s []) := by
  intro w C v h
  simp only [R] at h ⊢
  obtain ⟨_, rfl, hc⟩ := h
  exact ⟨_, cap, rfl, by simp, .inl trivial⟩
structure NewO (ou ou' : Outer) (L : List (Nat × AObj)) : Prop where
  own : Owns ou' L
  new : ∀ k ∈ keys L, ou k = none
  old : ∀ m, m ∉ keys L → ou' m = ou m
  ok : OuOk ou'
  nd : (keys L).Nodup
theorem NewO.nil {ou : Outer} (h : OuOk ou) : NewO ou ou [] := ⟨fun p hp => by simp at hp, fun k hk => by simp [keys] at hk, fun _ _ => rfl, h, by simp [keys]⟩
theorem NewO.trans {ou ou1 ou2 : Outer} {L M : List (Nat × AObj)} (h : NewO ou ou1 L) (k : NewO ou1 ou2 M) : NewO ou ou2 (L ++ M) := by
  have hLM : ∀ j ∈ keys L, j ∉ keys M := fun j hj hm => by
    have h1 := k.new j hm
    obtain ⟨p, hp, rfl⟩ := List.mem_map.1 hj
    rw [h.own p hp] at h1
    cases h1
  refine ⟨Owns.app.2 ⟨h.own.frame fun j hj => k.old j (hLM j hj), k.own⟩, fun j hj => ?_, fun m hm => ?_, k.ok, ?_⟩
  · rw [keys_app, List.mem_append] at hj
    by_cases e : j ∈ keys L
    · exact h.new j e
    · rw [← h.old j e]
      exact k.new j (hj.resolve_left e)
  · rw [keys_app, List.mem_append, not_or] at hm
    rw [k.old m hm.2, h.old m hm.1]
  · rw [keys_app, List.nodup_append]
    exact ⟨h.nd, k.nd, fun a ha b hb e => hLM a ha (e ▸ hb)⟩
theorem NewO.frame {ou ou' : Outer} {L M : List (Nat × AObj)} (h : NewO ou ou' L) (ho : Owns ou M) : Owns ou' M := ho.frame fun j hj => h.old j fun hm => by
  obtain ⟨p, hp, rfl⟩ := List.mem_map.1 hj
  have := h.new _ hm
  rw [ho p hp] at this
  cases this
def CloneQ (ou : Outer) (l : List Int) (r : FV) (ou' : Outer) : Prop := ∃ nb, ownB nb l ∧ r = .one (bC nb l) ∧ NewO ou ou' (bO nb l)
theorem CloneN_ok (l : List Int) (hl : l.length ≤ 1048576) (ou : Outer) : AFn Tryd.prog Γ 88 [.one (.sl 1 (l.map cI))] ou (CloneQ ou l) := by
  refine AFn.walk 8 tabOk Tryd.func88 rfl (by kernel_rfl) rfl rfl fun hou => ?_
  refine zA ?_
  refine AOps.nilTest rfl rfl rfl rfl Tryd.underlying35 rfl rfl fun b hb => ?_
  refine zA ?_
  refine ACode.cond rfl (fun hb2 => ?_) (fun hb2 => ?_)
  · have h0 : l = [] := by simpa using hb hb2
    subst h0
    refine zA ?_
    exact AFn.fin' rfl (.one (.nilS 1)) (by simp) hou ⟨none, fun _ => rfl, rfl, .nil hou⟩
  · clear hb
    refine zA ?_
    refine AOps.step1 rfl rfl rfl (AStep.buildOwn0 (s := 1) tabOk rfl rfl rfl rfl rfl) ?_
    refine zA ?_
    by_cases h0 : l = []
    · subst h0
      refine AOps.step1 rfl rfl rfl (AStep.appNone tabOk rfl rfl rfl rfl rfl rfl) ?_
      refine zA ?_
      exact AFn.fin' rfl (.one (Wk.arr0 _ _ _)) (by simp) hou ⟨none, fun _ => rfl, rfl, .nil hou⟩
    · refine AOps.appOwn tabOk rfl rfl rfl rfl rfl rfl rfl rfl rfl (.own 1 0 [] (.l 0) rfl (by simp) (by simp)) (.sl 1 (l.map cI)) (by simpa using h0) rfl (by simp; show _ * 8 ≤ _; omega) (by simp; omega) fun cap hc => ?_
      simp only [List.nil_append] at hc ⊢
      refine AOps.cedes [1] rfl (by decide) hou fun k hk => ⟨[(7, .one (.arr (.o k) 1 0 (l.map cI).length cap))], [], [.cells (vec 1 (l.map cI) cap)], .cons rfl rfl .nil, .nil, .cons rfl ?_ .nil, ?_⟩
      · exact AObj.sub_f (fun i hi => by cases i with | l q => exact hi.elim | o q => rfl) _ (show idsL isO (vec 1 (l.map cI) cap) from ids_vecI _ _ _)
      have hk' : ∀ m, k ≤ m → ou m = none := hk
      have hok : OuOk (ouAdd ou k [.cells (vec 1 (l.map cI) cap)]) := ouAdd_ok hou fun o ho => by simp at ho; subst ho; exact ids_vecI _ _ _
      refine zA ?_
      refine AFn.fin' rfl (WkF.ofEq rfl) (by simp) hok ⟨some (k, cap), (fun h => by cases h), rfl, fun p hp => ?_, fun j hj => ?_, fun m hm => ?_, hok, by simp [bO, keys]⟩
      · simp [bO] at hp; subst hp
        exact ouAdd_new 0
      · simp [bO, keys] at hj; subst hj; exact hk' _ (Nat.le_refl _)
      · simp [bO, keys] at hm
        show ouAdd ou k [.cells (vec 1 (l.map cI) cap)] m = ou m
        rcases Nat.lt_or_ge m k with h1 | h1
        · exact ouAdd_old h1
        · obtain ⟨p, rfl⟩ : ∃ p, m = k + p := ⟨m - k, by omega⟩
          rw [ouAdd_new, hk' _ h1]
          cases p with
          | zero => simp at hm
          | succ p => simp
end Go.Proofs.YtgdionbeeodaaaaDoor
namespace Go.CoreX
theorem cnt_kids : ∀ {e f : List Ex}, e.map (·.kids) = f.map (·.kids) → ∀ i, cnt e i = cnt f i
  | [], [], _, _ => rfl
  | [], _ :: _, h, _ => by simp at h
  | _ :: _, [], h, _ => by simp at h
  | x :: e, y :: f, h, i => by
    simp only [List.map_cons, List.cons.injEq] at h
    simp only [cnt, h.1, cnt_kids h.2 i]
def ixE (e : List Ex) : List Ex := e.mapIdx fun i x => { x with n := (i : Nat) }
theorem ixE_get {e : List Ex} {i : Nat} : (ixE e)[i]? = (e[i]?).map fun x => { x with n := (i : Nat) } := by simp [ixE]
theorem ixE_kids (e : List Ex) : (ixE e).map (·.kids) = e.map (·.kids) := by
  apply List.ext_getElem?
  intro i
  simp only [List.getElem?_map, ixE_get]
  cases e[i]? <;> rfl
theorem ixE_len (e : List Ex) : (ixE e).length = e.length := by simp [ixE]
theorem ixE_tree {e : List Ex} (h : IsTree e) : IsTree (ixE e) := by
  refine ⟨fun e0 => h.ne (by have := ixE_len e; rw [e0] at this; exact List.length_eq_zero_iff.1 (by simpa using this.symm)), fun j x hx => ?_, fun i hi => ?_⟩
  · rw [ixE_get] at hx
    cases he : e[j]? with
    | none => rw [he] at hx; cases hx
    | some y =>
      rw [he] at hx
      simp at hx; subst hx
      exact h.k j y he
  · rw [cnt_kids (ixE_kids e), ixE_len]
    exact h.c i (by rw [ixE_len] at hi; exact hi)
theorem labs_n (e : List Ex) : (labs e).map (·.n) = e.map (·.n) := by simp [labs, labE]
theorem ixE_n (e : List Ex) : (ixE e).map (·.n) = (List.range e.length).map fun i : Nat => (i : Int) := by
  apply List.ext_getElem?
  intro i
  simp only [List.getElem?_map, ixE_get]
  by_cases h : i < e.length
  · simp [h]
  · simp [h]
end Go.CoreX
namespace Go.Proofs.YtgdionbeeodaaaaDoor
open Go Go.Abs Go.CoreX
set_option maxRecDepth 10000
def ownO : LTr → List (Nat × AObj)
  | .mk i o n nb b k a => (bO nb b ++ aO a) ++ [(i, .cells [int o, int n, bC nb b, .sl 1 (kC k), .sl 2 (a.map lAlt)])]
theorem objs_mem : ∀ (t : LTr) (p : Nat × AObj), p ∈ objs t ↔ p ∈ ownO t ∨ p ∈ objss t.kids
  | .mk i o n nb b k a, p => by
    simp only [objs, ownO, LTr.kids, List.cons_append, List.mem_cons, List.mem_append, List.not_mem_nil, or_false]
    constructor
    · rintro (h | (h | h) | h) <;> simp [h]
    · rintro (((h | h) | h) | h) <;> simp [h]
theorem objs_count (k : Nat) : ∀ t : LTr, (keys (objs t)).count k = (keys (ownO t)).count k + (keys (objss t.kids)).count k
  | .mk i o n nb b ks a => by
    simp only [objs, ownO, LTr.kids, keys, List.map_cons, List.map_append, List.cons_append, List.count_cons, List.count_append, List.map_nil, List.count_nil]
    omega
structure LinkL (e : List Ex) (lts : List LTr) (B : Nb → List Int → Prop := ownB) : Prop where
  len : lts.length = e.length
  at_ : ∀ (i : Nat) (x : Ex), e[i]? = some x → ∃ id nb a, lts[i]? = some (.mk id x.op x.n nb x.binds (x.kids.map fun q => lts.getD q.toNat default) a) ∧ a.map LAlt.er = x.alts ∧ B nb x.binds ∧ ∀ y ∈ a, B y.nb y.binds
theorem LinkL.nil {B : Nb → List Int → Prop} : LinkL [] [] B := ⟨rfl, fun i x h => by simp at h⟩
theorem LinkL.snoc {B : Nb → List Int → Prop} {e : List Ex} {lts : List LTr} (h : LinkL e lts B) (hk : kidsIn e) {x : Ex} (hx : ∀ q ∈ x.kids, 0 ≤ q ∧ q < (e.length : Int)) {id : Nat} {nb : Nb} {a : List LAlt} (ha : a.map LAlt.er = x.alts) (hb : B nb x.binds) (hab : ∀ y ∈ a, B y.nb y.binds) :
    LinkL (e ++ [x]) (lts ++ [.mk id x.op x.n nb x.binds (x.kids.map fun q => lts.getD q.toNat default) a]) B := by
  have hgd : ∀ (q : Int), 0 ≤ q → q < (e.length : Int) → ∀ t, (lts ++ [t]).getD q.toNat default = lts.getD q.toNat default := fun q h0 h1 t => getD_app (by rw [h.len]; omega)
  refine ⟨by simp [h.len], fun i y hy => ?_⟩
  by_cases hi : i < e.length
  · rw [List.getElem?_append_left hi] at hy
    obtain ⟨id', nb', a', h1, h2, h3, h4⟩ := h.at_ i y hy
    refine ⟨id', nb', a', ?_, h2, h3, h4⟩
    rw [List.getElem?_append_left (by rw [h.len]; exact hi), h1]
    congr 2
    refine List.map_congr_left fun q hq => ?_
    have := hk i y hy q hq
    exact (hgd q this.1 (by omega) _).symm
  · have hie : i = e.length := by
      have := (List.getElem?_eq_some_iff.1 hy).1
      simp at this; omega
    subst hie
    simp at hy
    subst hy
    refine ⟨id, nb, a, ?_, ha, hb, hab⟩
    rw [← h.len, List.getElem?_append_right (by simp)]
    simp only [Nat.sub_self, List.getElem?_cons_zero]
    congr 2
    exact List.map_congr_left fun q hq => (hgd q (hx q hq).1 (hx q hq).2 _).symm
section
variable {e : List Ex} {lts : List LTr} {B : Nb → List Int → Prop}
theorem LinkL.getD (h : LinkL e lts B) {i : Nat} {t : LTr} (ht : lts[i]? = some t) : lts.getD i default = t := by rw [List.getD_eq_getElem?_getD, ht]; rfl
theorem LinkL.er (h : LinkL e lts B) (hk : kidsIn e) : ∀ (n i : Nat) (t : LTr), i < n → lts[i]? = some t → erT t = treeAt e i
  | 0, i, t, hi, _ => by omega
  | n + 1, i, t, hi, ht => by
    have hil : i < e.length := by rw [← h.len]; exact (List.getElem?_eq_some_iff.1 ht).1
    obtain ⟨x, hx⟩ := get_of_lt hil
    obtain ⟨id, nb, a, h1, h2, _⟩ := h.at_ i x hx
    rw [ht] at h1
    cases h1
    rw [treeAt_node hk hx]
    simp only [erT, h2, erTs_eq, List.map_map]
    congr 1
    refine List.map_congr_left fun q hq => ?_
    have hq' := hk i x hx q hq
    obtain ⟨t', ht'⟩ := get_of_lt (l := lts) (i := q.toNat) (by rw [h.len]; omega)
    simp only [Function.comp, h.getD ht']
    exact h.er hk n q.toNat t' (by omega) ht'
theorem LinkL.own (h : LinkL e lts B) (hk : kidsIn e) : ∀ (n i : Nat) (t : LTr), i < n → lts[i]? = some t → ∀ p ∈ objs t, p ∈ lts.flatMap ownO
  | 0, i, t, hi, _ => by omega
  | n + 1, i, t, hi, ht => fun p hp => by
    have hil : i < e.length := by rw [← h.len]; exact (List.getElem?_eq_some_iff.1 ht).1
    obtain ⟨x, hx⟩ := get_of_lt hil
    obtain ⟨id, nb, a, h1, _⟩ := h.at_ i x hx
    rw [ht] at h1
    rcases (objs_mem t p).1 hp with hp | hp
    · exact List.mem_flatMap.2 ⟨t, List.mem_of_getElem? ht, hp⟩
    · cases h1
      simp only [LTr.kids, objss_eq] at hp
      obtain ⟨u, hu, hpu⟩ := List.mem_flatMap.1 hp
      obtain ⟨q, hq, rfl⟩ := List.mem_map.1 hu
      have hq' := hk i x hx q hq
      obtain ⟨t', ht'⟩ := get_of_lt (l := lts) (i := q.toNat) (by rw [h.len]; omega)
      rw [h.getD ht'] at hpu
      exact h.own hk n q.toNat t' (by omega) ht' p hpu
def ownC (lts : List LTr) (k : Nat) (l : Lab) : Int := ((keys (ownO (lts.getD l.n.toNat default))).count k : Nat)
theorem objss_count (k : Nat) : ∀ l : List LTr, (((keys (objss l)).count k : Nat) : Int) = (l.map fun t => (((keys (objs t)).count k : Nat) : Int)).sum
  | [] => by simp [objss, keys]
  | t :: l => by
    have := objss_count k l
    simp only [keys] at this
    simp only [objss, keys, List.map_append, List.count_append, List.map_cons, List.sum_cons, ← this]
    push_cast; rfl
theorem LinkL.count (h : LinkL e lts B) (hk : kidsIn e) (k : Nat) : ∀ (n i : Nat) (t : LTr), i < n → lts[i]? = some t → sumT (ownC lts k) (treeAt (ixE e) i) = ((keys (objs t)).count k : Nat)
  | 0, i, t, hi, _ => by omega
  | n + 1, i, t, hi, ht => by
    have hil : i < e.length := by rw [← h.len]; exact (List.getElem?_eq_some_iff.1 ht).1
    obtain ⟨x, hx⟩ := get_of_lt hil
    obtain ⟨id, nb, a, h1, _⟩ := h.at_ i x hx
    rw [ht] at h1
    have hki : kidsIn (ixE e) := fun j y hy => by
      rw [ixE_get] at hy
      cases he : e[j]? with
      | none => rw [he] at hy; cases hy
      | some z =>
        rw [he] at hy
        simp at hy; subst hy
        exact hk j z he
    have hxi : (ixE e)[i]? = some { x with n := (i : Nat) } := by rw [ixE_get, hx]; rfl
    rw [treeAt_node hki hxi]
    simp only [sumT, sumTs_eq, List.map_map]
    rw [objs_count]
    have e1 : ownC lts k ⟨x.op, (i : Nat), x.binds, x.kids.map (Tr.op ∘ fun k => treeAt (ixE e) k.toNat), x.alts⟩ = ((keys (ownO t)).count k : Nat) := by
      unfold ownC
      simp only [Int.toNat_natCast, h.getD ht]
    have e2 : (x.kids.map (sumT (ownC lts k) ∘ fun k => treeAt (ixE e) k.toNat)).sum = ((keys (objss t.kids)).count k : Nat) := by
      rw [objss_count]
      cases h1
      simp only [LTr.kids, List.map_map]
      congr 1
      refine List.map_congr_left fun q hq => ?_
      have hq' := hk i x hx q hq
      obtain ⟨t', ht'⟩ := get_of_lt (l := lts) (i := q.toNat) (by rw [h.len]; omega)
      simp only [Function.comp, h.getD ht']
      exact h.count hk k n q.toNat t' (by omega) ht'
    rw [e1, e2]
    push_cast; rfl
theorem flat_count (k : Nat) : ∀ lts : List LTr, (((keys (lts.flatMap ownO)).count k : Nat) : Int) = (lts.map fun t => (((keys (ownO t)).count k : Nat) : Int)).sum
  | [] => by simp [keys]
  | t :: l => by
    have := flat_count k l
    simp only [keys] at this
    simp only [List.flatMap_cons, keys, List.map_append, List.count_append, List.map_cons, List.sum_cons, ← this]
    push_cast; rfl
theorem LinkL.nodup (h : LinkL e lts B) (ht : IsTree e) (hn : (keys (lts.flatMap ownO)).Nodup) {t : LTr} (hr : lts[e.length - 1]? = some t) : (keys (objs t)).Nodup := by
  rw [List.nodup_iff_count]
  intro k
  have h1 := h.count ht.k k _ _ t (Nat.lt_succ_self _) hr
  have h2 := sum_tree (ownC lts k) (ixE_tree ht)
  have h3 : grow (ixE e) = treeAt (ixE e) (e.length - 1) := by unfold grow treeAt; rw [ixE_len]
  rw [h3, h1] at h2
  have h4 : ((labs (ixE e)).map (ownC lts k)) = lts.map fun t => (((keys (ownO t)).count k : Nat) : Int) := by
    have e1 : (labs (ixE e)).map (ownC lts k) = ((labs (ixE e)).map (·.n)).map fun n : Int => (((keys (ownO (lts.getD n.toNat default))).count k : Nat) : Int) := by
      rw [List.map_map]; rfl
    rw [e1, labs_n, ixE_n, List.map_map]
    apply List.ext_getElem?
    intro i
    by_cases hi : i < e.length
    · obtain ⟨t', ht'⟩ := get_of_lt (l := lts) (i := i) (by rw [h.len]; exact hi)
      simp only [List.getElem?_map, List.getElem?_range hi, Option.map_some, Function.comp, Int.toNat_natCast, h.getD ht', ht']
    · rw [List.getElem?_eq_none (by simp; omega), List.getElem?_eq_none (by simp [h.len]; omega)]
  rw [h4, ← flat_count] at h2
  have h5 := List.nodup_iff_count.1 hn k
  omega
theorem LinkL.ok (h : LinkL e lts) (hk : kidsIn e) (hs : ∀ x ∈ e, x.binds.length ≤ 1048576 ∧ x.kids.length ≤ 1048576 ∧ x.alts.length ≤ 1048576 ∧ ∀ a ∈ x.alts, a.binds.length ≤ 1048576) : ∀ (n i : Nat) (t : LTr), i < n → lts[i]? = some t → okL t
  | 0, i, t, hi, _ => by omega
  | n + 1, i, t, hi, ht => by
    have hil : i < e.length := by rw [← h.len]; exact (List.getElem?_eq_some_iff.1 ht).1
    obtain ⟨x, hx⟩ := get_of_lt hil
    obtain ⟨id, nb, a, h1, h2, h3, h4⟩ := h.at_ i x hx
    obtain ⟨s1, s2, s3, s4⟩ := hs x (List.mem_of_getElem? hx)
    rw [ht] at h1
    cases h1
    refine ⟨fun _ => h3, s1, by simpa using s2, by have := congrArg List.length h2; simp at this; omega, fun y hy => ⟨h4 y hy, ?_⟩, okLs_iff.2 fun u hu => ?_⟩
    · exact s4 y.er (by rw [← h2]; exact List.mem_map_of_mem hy)
    · obtain ⟨q, hq, rfl⟩ := List.mem_map.1 hu
      have hq' := hk i x hx q hq
      obtain ⟨t', ht'⟩ := get_of_lt (l := lts) (i := q.toNat) (by rw [h.len]; omega)
      rw [h.getD ht']
      exact h.ok hk hs n q.toNat t' (by omega) ht'
end
end Go.Proofs.YtgdionbeeodaaaaDoor
namespace Go.Proofs.YtgdionbeeodaaaaDoor
open Go Go.Abs Go.CoreX
set_option maxRecDepth 10000
variable {Γ : List (Nat × List AC)}
def nodesL (ts : List LTr) (n : Nat) : List AC := ts.map (fun t => .ptr (.o t.id) 0) ++ List.replicate (n - ts.length) (.lit (.pointer none))
theorem nodesL_nil (n : Nat) : nodesL [] n = List.replicate n (.lit (.pointer none)) := by simp [nodesL]
theorem nodesL_len {ts : List LTr} {n : Nat} (h : ts.length ≤ n) : (nodesL ts n).length = n := by simp [nodesL]; omega
theorem nodesL_get {ts : List LTr} {n k : Nat} {t : LTr} (h : ts[k]? = some t) : (nodesL ts n)[k]? = some (.ptr (.o t.id) 0) := by
  have hk := (List.getElem?_eq_some_iff.1 h).1
  unfold nodesL
  rw [List.getElem?_append_left (by simpa using hk)]
  simp [h]
theorem nodesL_set {ts : List LTr} {n : Nat} (h : ts.length < n) (t : LTr) : (nodesL ts n).set ts.length (.ptr (.o t.id) 0) = nodesL (ts ++ [t]) n := by
  unfold nodesL
  rw [List.set_append_right _ _ (by simp)]
  simp only [List.length_map, Nat.sub_self, List.map_append, List.map_cons, List.map_nil, List.append_assoc, List.length_append, List.length_singleton]
  congr 1
  rw [show n - ts.length = (n - (ts.length + 1)) + 1 by omega, List.replicate_succ]
  rfl
theorem ids_nodesL (p : Abs.Id → Prop) (hp : ∀ k, p (.o k)) (ts : List LTr) (n : Nat) : idsL p (nodesL ts n) := by
  refine idsL_app ?_ (ids_zs p _ _)
  induction ts with
  | nil => trivial
  | cons t ts ih => exact ⟨hp _, ih⟩
@[simp] theorem ids_nodesL_l (k : Nat) (ts : List LTr) (n : Nat) : idsL (inL k) (nodesL ts n) := ids_nodesL _ (fun _ => trivial) ts n
@[simp] theorem ids_nodesL_o (ts : List LTr) (n : Nat) : idsL isO (nodesL ts n) := ids_nodesL _ (fun _ => trivial) ts n
theorem kC_snoc (l : List LTr) (t : LTr) : kC (l ++ [t]) = kC l ++ [[.ptr (.o t.id) 0]] := by simp [kC]
def kidsL (ts : List LTr) (ks : List Int) : List LTr := ks.map fun k => ts.getD k.toNat default
theorem kidsL_succ {ts : List LTr} {ks : List Int} {i : Nat} {k : Int} (h : ks[i]? = some k) : kidsL ts (ks.take (i + 1)) = kidsL ts (ks.take i) ++ [ts.getD k.toNat default] := by
  simp [kidsL, List.take_add_one, h]
@[simp] theorem ids_kC_l (k : Nat) (ts : List LTr) : idsS (inL k) (kC ts) := ids_kC _ (fun _ => trivial) ts
@[simp] theorem ids_kC_o (ts : List LTr) : idsS isO (kC ts) := ids_kC _ (fun _ => trivial) ts
@[simp] theorem ids_lAlts_l (k : Nat) (l : List LAlt) : idsS (inL k) (l.map lAlt) := ids_lAlts _ (fun _ => trivial) l
@[simp] theorem ids_lAlts_o (l : List LAlt) : idsS isO (l.map lAlt) := ids_lAlts _ (fun _ => trivial) l
@[simp] theorem ids_bC_l (k : Nat) (nb : Nb) (l : List Int) : (bC nb l).ids (inL k) := ids_bC _ (fun _ => trivial) nb l
@[simp] theorem ids_bC_o (nb : Nb) (l : List Int) : (bC nb l).ids isO := ids_bC _ (fun _ => trivial) nb l
@[simp] theorem ren_kC (ρ : Nat → Nat) (l : List LTr) : renS ρ (kC l) = kC l := renS_pure ρ _ (ids_kC_o l)
@[simp] theorem ren_lAlts (ρ : Nat → Nat) (l : List LAlt) : renS ρ (l.map lAlt) = l.map lAlt := renS_pure ρ _ (ids_lAlts_o l)
@[simp] theorem ren_bC (ρ : Nat → Nat) (nb : Nb) (l : List Int) : (bC nb l).ren ρ = bC nb l := by cases nb <;> simp [bC, AC.ren, Abs.Id.ren]
theorem NewO.add {ou : Outer} {k : Nat} {o : AObj} (hk : ∀ m, k ≤ m → ou m = none) (hou : OuOk ou) (ho : o.ids isO) : NewO ou (ouAdd ou k [o]) [(k, o)] := by
  refine ⟨fun p hp => ?_, fun j hj => ?_, fun m hm => ?_, ouAdd_ok hou fun q hq => by simp at hq; subst hq; exact ho, by simp [keys]⟩
  · simp at hp; subst hp
    exact ouAdd_new 0
  · simp [keys] at hj; subst hj; exact hk _ (Nat.le_refl _)
  · simp [keys] at hm
    rcases Nat.lt_or_ge m k with h1 | h1
    · exact ouAdd_old h1
    · obtain ⟨p, rfl⟩ : ∃ p, m = k + p := ⟨m - k, by omega⟩
      rw [ouAdd_new, hk _ h1]
      cases p with
      | zero => simp at hm
      | succ p => simp
def GrowQ (e : List Ex) (ou : Outer) (r : FV) (ou' : Outer) : Prop := ∃ t : LTr, r = .one (.ptr (.o t.id) 0) ∧ erT t = grow e ∧ okL t ∧ Owns ou' (objs t) ∧ (keys (objs t)).Nodup ∧ (∀ k ∈ keys (objs t), ou k = none) ∧ OuOk ou' ∧ ∀ j o, ou j = some o → ou' j = some o
set_option maxHeartbeats 1000000 in
theorem GrowN_ok (hΓ : ∀ g cs, (g, cs) ∈ Γ → idsL isO cs) (e : List Ex) (he : okE e) (hin : kidsIn e) (hT : IsTree e) (ou : Outer) : AFn Tryd.prog Γ 53 [.one (.sl 5 (e.map cEx))] ou (GrowQ e ou) := by
  have hel := he.l
  refine AFn.walk 85 tabOk Tryd.func53 rfl (by kernel_rfl) rfl rfl fun hou => ?_
  refine zA ?_
  have hb : ti70.bytes * (e.map cEx).length ≤ 281474976710656 := by simp; show 8 * _ ≤ _; omega
  have hb2 : (e.map cEx).length ≤ 281474976710656 := by simp; omega
  refine AOps.step1 rfl rfl rfl (AStep.makeArr tabOk rfl rfl rfl rfl rfl rfl rfl rfl hb hb2) ?_
  refine zA ?_
  refine ACode.loopR hΓ (α := Nat × List LTr × Outer) (fun c => [(16, .one (int c.1)), (15, .one (int (e.map cEx).length)), (14, .one (.sl 5 (e.map cEx))), (3, .one (.arr (.l 0) 1 0 (e.map cEx).length (e.map cEx).length)), (0, .one (.sl 5 (e.map cEx)))])
    (fun c => ⟨1, [(0, .cells (nodesL c.2.1 (e.map cEx).length))], c.2.2⟩) (fun m c => c.1 ≤ e.length ∧ (LinkL (e.take c.1) c.2.1 ∧ NewO ou c.2.2 (c.2.1.flatMap ownO)) ∧ m = e.length - c.1) (a0 := (0, [], ou)) (ρ := id) ⟨by omega, ⟨LinkL.nil, .nil hou⟩, rfl⟩
    (LessR.of rfl (by (repeat' first | exact FrSub.nil | refine zfc ?_ | refine zfo ?_ | refine zfp ?_)) (by simp) (LoSub.cons rfl (by rw [AObj.ren_pure _ _ (by simp)]; show AObj.cells (List.replicate _ _) = AObj.cells (nodesL [] _); rw [nodesL_nil]) rfl (by simp) .nil) rfl rfl hou) fun m c hc => ?_
  obtain ⟨j, lts, ov⟩ := c
  obtain ⟨hjl, ⟨hL, hN⟩, rfl⟩ := hc
  dsimp only at hjl hL hN
  have hov := hN.ok
  refine zA ?_
  refine ACode.cond rfl (fun hb2 => ?_) (fun hb2 => ?_)
  · have hlt : j < e.length := by simpa using hb2
    obtain ⟨x, hx⟩ := get_of_lt hlt
    have hxo := he.x x (List.mem_of_getElem? hx)
    have hxk := hxo.k
    have hxa := hxo.a
    have hxin := hin j x hx
    have hgl : lts.length = j := by rw [hL.len]; simp; omega
    refine zA ?_
    refine AOps.step1 rfl rfl rfl (AStep.indexAddr tabOk rfl rfl rfl rfl rfl rfl (.inl rfl) rfl (by omega) (map_get hx)) ?_
    refine zA ?_
    refine ACode.drawC tabOk 9 [6, 7, 8] [] (fun vs σ => match vs with
        | [] => σ = ⟨2, [(1, .cells (cEx x)), (1, .cells (ti53.zero.map .lit)), (0, .cells (nodesL lts (e.map cEx).length))], ov⟩
        | [a] => ∃ nb ow, ownB nb x.binds ∧ NewO ov ow (bO nb x.binds) ∧ a = .one (bC nb x.binds) ∧ σ = ⟨2, [(1, .cells (cEx x)), (1, .cells (ti53.zero.map .lit)), (0, .cells (nodesL lts (e.map cEx).length))], ow⟩
        | [a, b] => ∃ nb ow, ownB nb x.binds ∧ NewO ov ow (bO nb x.binds) ∧ a = .one (bC nb x.binds) ∧ b = .agg [int x.op, int x.n, bC nb x.binds, .lit (.slice none 0 0), .lit (.slice none 0 0)] ∧ σ = ⟨2, [(1, .cells (cEx x)), (1, .cells (ti53.zero.map .lit)), (0, .cells (nodesL lts (e.map cEx).length))], ow⟩
        | [a, b, c] => ∃ nb ow, ownB nb x.binds ∧ NewO ov ow (bO nb x.binds) ∧ a = .one (bC nb x.binds) ∧ b = .agg [int x.op, int x.n, bC nb x.binds, .lit (.slice none 0 0), .lit (.slice none 0 0)] ∧ c = .one (.ptr (.l 2) 0) ∧ σ = ⟨3, [(2, .cells [int x.op, int x.n, bC nb x.binds, .lit (.slice none 0 0), .lit (.slice none 0 0)]), (1, .cells (cEx x)), (1, .cells (ti53.zero.map .lit)), (0, .cells (nodesL lts (e.map cEx).length))], ow⟩
        | _ => False) follows (by kernel_rfl) rfl rfl (by decide) (by kernel_rfl) (by kernel_rfl) rfl rfl ?_ (fun _ _ _ => .nil) (by decide) ?_ ?_
    · rintro vs σ hG
      match vs, hG with
      | [], hG => subst hG; rfl
      | [a], hG => obtain ⟨nb, ow, _, _, _, rfl⟩ := hG; rfl
      | [a, b], hG => obtain ⟨nb, ow, _, _, _, _, rfl⟩ := hG; rfl
      | [a, b, c], hG => obtain ⟨nb, ow, _, _, _, _, _, rfl⟩ := hG; rfl
    · rintro vs σ hG i o hi ho
      match vs, hG with
      | [], hG =>
        subst hG
        cases hi
        cases ho
        refine ⟨rfl, rfl, .inr ⟨rfl, AStepR.call hΓ rfl rfl rfl rfl (by simp) hov (CloneN_ok x.binds hxo.b ov) fun r ow hq _ _ => ?_⟩⟩
        obtain ⟨nb, h1, rfl, h2⟩ := hq
        exact ⟨nb, ow, h1, h2, rfl, rfl⟩
      | [a], hG =>
        obtain ⟨nb, ow, h1, h2, rfl, rfl⟩ := hG
        cases hi
        cases ho
        exact ⟨rfl, rfl, .inl ⟨_, _, HStep.auto tabOk rfl, nb, ow, h1, h2, rfl, rfl, rfl⟩⟩
      | [a, b], hG =>
        obtain ⟨nb, ow, h1, h2, rfl, rfl, rfl⟩ := hG
        cases hi
        cases ho
        exact ⟨rfl, rfl, .inl ⟨_, _, HStep.auto tabOk rfl, nb, ow, h1, h2, rfl, rfl, rfl, rfl⟩⟩
      | [a, b, c], hG => cases hi
    rintro vs σ hlen hG
    match vs, hlen, hG with
    | [a, b, c], _, hG =>
    obtain ⟨nb, ow, hnb, hNb, rfl, rfl, rfl, rfl⟩ := hG
    have how := hNb.ok
    refine zA ?_
    refine ACode.grow 2 3 70 1 rfl rfl ?_
    refine ACode.loopR hΓ (α := Nat) (fun i => [(33, .one (int i)), (32, .one (int (x.kids.map cI).length)), (31, .one (.sl 1 (x.kids.map cI))), (6, .one (.ptr (.l 2) 0)), (5, .one (.ptr (.l 1) 0)), (4, .one (int j)), (16, .one (int j)), (15, .one (int (e.map cEx).length)), (14, .one (.sl 5 (e.map cEx))), (3, .one (.arr (.l 0) 1 0 (e.map cEx).length (e.map cEx).length)), (0, .one (.sl 5 (e.map cEx)))])
      (fun i => ⟨4, [(3, .tok 70 1 i), (2, .cells [int x.op, int x.n, bC nb x.binds, .gs 1 (kC (kidsL lts (x.kids.take i))) (.l 3), .lit (.slice none 0 0)]), (1, .cells (cEx x)), (0, .cells (nodesL lts (e.map cEx).length))], ow⟩)
      (fun m i => i ≤ x.kids.length ∧ m = x.kids.length - i) (a0 := 0) (ρ := id) ⟨by omega, rfl⟩ (LessR.of rfl (by (repeat' first | exact FrSub.nil | refine zfc ?_ | refine zfo ?_ | refine zfp ?_)) (by simp) ?_ rfl rfl how) fun m i hi => ?_
    · repeat' first | exact LoSub.nil | refine zlc ?_ | refine zld ?_ ?_ | rfl
      all_goals (simp [AObj.ren, renL, AC.ren, kidsL]; exact ⟨rfl, rfl⟩)
    obtain ⟨hil, rfl⟩ := hi
    refine zA ?_
    refine ACode.cond rfl (fun hb3 => ?_) (fun hb3 => ?_)
    · have hlt2 : i < x.kids.length := by simpa using hb3
      obtain ⟨k, hk⟩ := get_of_lt hlt2
      have hkb := hxin k (List.mem_of_getElem? hk)
      obtain ⟨k', rfl⟩ : ∃ k' : Nat, k = k' := ⟨k.toNat, by omega⟩
      obtain ⟨tk, htk⟩ := get_of_lt (l := lts) (i := k') (by omega)
      have htd : (lts).getD (k' : Int).toNat default = tk := by rw [Int.toNat_natCast, List.getD_eq_getElem?_getD, htk]; rfl
      have hks := kidsL_succ (ts := lts) hk
      rw [htd] at hks
      have hkl : (kC (kidsL lts (x.kids.take i))).length = i := by simp [kC, kidsL]; omega
      refine zA ?_
      refine AOps.step1 rfl rfl rfl (AStep.indexAddr tabOk rfl rfl rfl rfl rfl rfl (.inl rfl) rfl (by omega) (map_get hk)) ?_
      refine zA ?_
      refine ACode.drawXH (va := .one (.gs 1 (kC (kidsL lts (x.kids.take i)) ++ [[AC.ptr (.o tk.id) 0]]) (.l 4))) (σ1 := ((St.mk 4 [(3, .tok 70 1 i), (2, .cells [int x.op, int x.n, bC nb x.binds, .gs 1 (kC (kidsL lts (x.kids.take i))) (.l 3), .lit (.slice none 0 0)]), (1, .cells (cEx x)), (0, .cells (nodesL lts (e.map cEx).length))] ow).set (.l 3) .dead).push (.tok 70 1 (kC (kidsL lts (x.kids.take i)) ++ [[AC.ptr (.o tk.id) 0]]).length))
        tabOk 11 10 [(7, .one (.ptr (.l 0) k')), (8, .one (.ptr (.o tk.id) 0))] follows (by kernel_rfl) rfl rfl rfl rfl rfl rfl rfl ?_ ?_ ?_ ?_
      · refine HStep.plain rfl (AStep.append (s := 1) (es := kC (kidsL lts (x.kids.take i))) (news := [[AC.ptr (.o tk.id) 0]]) (ti := ti71) (σ := ⟨4, [(3, .tok 70 1 i), (2, .cells [int x.op, int x.n, bC nb x.binds, .gs 1 (kC (kidsL lts (x.kids.take i))) (.l 3), .lit (.slice none 0 0)]), (1, .cells (cEx x)), (0, .cells (nodesL lts (e.map cEx).length))], ow⟩) tabOk rfl rfl rfl rfl rfl rfl (Base.gs' _ 70 1 (kC (kidsL lts (x.kids.take i))) (.l 3) rfl hkl.symm) (.sl _ _) rfl ?_ ?_)
        · rw [hkl]; show (i + 1) * 8 ≤ _; omega
        · rw [hkl]; show i + 1 ≤ _; omega
      · refine .step rfl (HStep.plain rfl (idxI tabOk rfl rfl rfl rfl rfl rfl rfl (by simp; omega))) ?_
        exact .step rfl (HStep.plain rfl (AStep.loadOwn tabOk rfl rfl rfl rfl rfl rfl (nodesL_get htk))) .nil
      · refine .step rfl (HStep.plain rfl (idxI tabOk rfl rfl rfl rfl rfl rfl rfl (by simp; omega))) ?_
        exact .step rfl (HStep.plain rfl (AStep.loadOwn tabOk rfl rfl rfl rfl rfl rfl (nodesL_get htk))) .nil
      refine zM ?_
      refine cInv ⟨x.kids.length - (i + 1), i + 1, fun k => if k = 3 then 4 else k, by omega, ⟨by omega, rfl⟩, LessR.of rfl (by (repeat' first | exact FrSub.nil | refine zfc ?_ | refine zfo ?_ | refine zfp ?_)) (by simp) ?_ rfl rfl how⟩
      repeat' first | exact LoSub.nil | refine zlc ?_ | refine zld ?_ ?_ | rfl
      · simp only [AObj.ren, List.length_append, hkl]; rfl
      · rw [hks, kC_snoc]; simp only [AObj.ren, renL, AC.ren, ren_bC]; rw [← kC_snoc, ren_kC]; rfl
    have hlt2 : i = x.kids.length := by simp at hb3; omega
    subst hlt2
    rw [List.take_length]
    refine zA ?_
    refine ACode.grow 2 4 89 2 rfl rfl ?_
    refine ACode.loopR hΓ (α := Nat × Outer × List LAlt) (fun c => [(54, .one (int c.1)), (53, .one (int (x.alts.map cAlt).length)), (52, .one (.sl 2 (x.alts.map cAlt))), (6, .one (.ptr (.l 2) 0)), (4, .one (int j)), (16, .one (int j)), (15, .one (int (e.map cEx).length)), (14, .one (.sl 5 (e.map cEx))), (3, .one (.arr (.l 0) 1 0 (e.map cEx).length (e.map cEx).length)), (0, .one (.sl 5 (e.map cEx)))])
      (fun c => ⟨5, [(4, .tok 89 2 c.1), (2, .cells [int x.op, int x.n, bC nb x.binds, .gs 1 (kC (kidsL lts x.kids)) (.l 3), .gs 2 (c.2.2.map lAlt) (.l 4)]), (0, .cells (nodesL lts (e.map cEx).length))], c.2.1⟩)
      (fun m c => c.1 ≤ x.alts.length ∧ (c.2.2.map LAlt.er = x.alts.take c.1 ∧ (∀ y ∈ c.2.2, ownB y.nb y.binds) ∧ NewO ow c.2.1 (aO c.2.2)) ∧ m = x.alts.length - c.1) (a0 := (0, ow, [])) (ρ := id) ⟨by omega, ⟨rfl, by simp, .nil how⟩, rfl⟩ (LessR.of rfl (by (repeat' first | exact FrSub.nil | refine zfc ?_ | refine zfo ?_ | refine zfp ?_)) (by simp) ?_ rfl rfl how) fun m c hc => ?_
    · repeat' first | exact LoSub.nil | refine zlc ?_ | refine zld ?_ ?_ | rfl
      all_goals (simp [AObj.ren, renL, AC.ren]; exact ⟨rfl, rfl⟩)
    obtain ⟨i, oy, la⟩ := c
    obtain ⟨hil, ⟨hla, hlo, hNa⟩, rfl⟩ := hc
    dsimp only at hil hla hlo hNa
    have hoy := hNa.ok
    have hll : la.length = i := by have := congrArg List.length hla; simp at this; omega
    have hal : (la.map lAlt).length = i := by simp [hll]
    refine zA ?_
    refine ACode.cond rfl (fun hb3 => ?_) (fun hb3 => ?_)
    · have hlt2 : i < x.alts.length := by simpa using hb3
      obtain ⟨a, ha⟩ := get_of_lt hlt2
      refine zA ?_
      refine AOps.step1 rfl rfl rfl (AStep.indexAddr tabOk rfl rfl rfl rfl rfl rfl (.inl rfl) rfl (by omega) (map_get ha)) ?_
      refine zA ?_
      refine ACode.drawC tabOk 13 [9, 10, 11, 12] [] (fun vs σ => match vs with
          | [] => σ = ⟨6, [(5, .cells (cAlt a)), (5, .cells (ti89.zero.map .lit)), (4, .tok 89 2 i), (2, .cells [int x.op, int x.n, bC nb x.binds, .gs 1 (kC (kidsL lts x.kids)) (.l 3), .gs 2 (la.map lAlt) (.l 4)]), (0, .cells (nodesL lts (e.map cEx).length))], oy⟩
          | [q1] => ∃ nc oz, ownB nc a.binds ∧ NewO oy oz (bO nc a.binds) ∧ q1 = .one (bC nc a.binds) ∧ σ = ⟨6, [(5, .cells (cAlt a)), (5, .cells (ti89.zero.map .lit)), (4, .tok 89 2 i), (2, .cells [int x.op, int x.n, bC nb x.binds, .gs 1 (kC (kidsL lts x.kids)) (.l 3), .gs 2 (la.map lAlt) (.l 4)]), (0, .cells (nodesL lts (e.map cEx).length))], oz⟩
          | [q1, q2] => ∃ nc oz, ownB nc a.binds ∧ NewO oy oz (bO nc a.binds) ∧ q1 = .one (bC nc a.binds) ∧ q2 = .agg [int a.tag, bC nc a.binds] ∧ σ = ⟨6, [(5, .cells (cAlt a)), (5, .cells (ti89.zero.map .lit)), (4, .tok 89 2 i), (2, .cells [int x.op, int x.n, bC nb x.binds, .gs 1 (kC (kidsL lts x.kids)) (.l 3), .gs 2 (la.map lAlt) (.l 4)]), (0, .cells (nodesL lts (e.map cEx).length))], oz⟩
          | [q1, q2, q3] => ∃ nc oz, ownB nc a.binds ∧ NewO oy oz (bO nc a.binds) ∧ q1 = .one (bC nc a.binds) ∧ q2 = .agg [int a.tag, bC nc a.binds] ∧ q3 = .one (.sl 2 [[int a.tag, bC nc a.binds]]) ∧ σ = ⟨6, [(5, .cells (cAlt a)), (5, .cells (ti89.zero.map .lit)), (4, .tok 89 2 i), (2, .cells [int x.op, int x.n, bC nb x.binds, .gs 1 (kC (kidsL lts x.kids)) (.l 3), .gs 2 (la.map lAlt) (.l 4)]), (0, .cells (nodesL lts (e.map cEx).length))], oz⟩
          | [q1, q2, q3, q4] => ∃ nc oz, ownB nc a.binds ∧ NewO oy oz (bO nc a.binds) ∧ q1 = .one (bC nc a.binds) ∧ q2 = .agg [int a.tag, bC nc a.binds] ∧ q3 = .one (.sl 2 [[int a.tag, bC nc a.binds]]) ∧ q4 = .one (.gs 2 (la.map lAlt ++ [[int a.tag, bC nc a.binds]]) (.l 6)) ∧ σ = ⟨7, [(6, .tok 89 2 (la.map lAlt ++ [[int a.tag, bC nc a.binds]]).length), (4, .dead), (5, .cells (cAlt a)), (5, .cells (ti89.zero.map .lit)), (4, .tok 89 2 i), (2, .cells [int x.op, int x.n, bC nb x.binds, .gs 1 (kC (kidsL lts x.kids)) (.l 3), .gs 2 (la.map lAlt) (.l 4)]), (0, .cells (nodesL lts (e.map cEx).length))], oz⟩
          | _ => False) follows (by kernel_rfl) rfl rfl (by decide) (by kernel_rfl) (by kernel_rfl) rfl rfl ?_ (fun _ _ _ => .nil) (by decide) ?_ ?_
      · rintro vs σ hG
        match vs, hG with
        | [], hG => subst hG; rfl
        | [_], hG => obtain ⟨nc, oz, _, _, _, rfl⟩ := hG; rfl
        | [_, _], hG => obtain ⟨nc, oz, _, _, _, _, rfl⟩ := hG; rfl
        | [_, _, _], hG => obtain ⟨nc, oz, _, _, _, _, _, rfl⟩ := hG; rfl
        | [_, _, _, _], hG => obtain ⟨nc, oz, _, _, _, _, _, _, rfl⟩ := hG; rfl
      · rintro vs σ hG q o hi ho
        match vs, hG with
        | [], hG =>
          subst hG
          cases hi
          cases ho
          refine ⟨rfl, rfl, .inr ⟨rfl, AStepR.call hΓ rfl rfl rfl rfl (by simp) hoy (CloneN_ok a.binds (hxo.ab a (List.mem_of_getElem? ha)) oy) fun r oz hq _ _ => ?_⟩⟩
          obtain ⟨nc, h1, rfl, h2⟩ := hq
          exact ⟨nc, oz, h1, h2, rfl, rfl⟩
        | [_], hG =>
          obtain ⟨nc, oz, h1, h2, rfl, rfl⟩ := hG
          cases hi
          cases ho
          exact ⟨rfl, rfl, .inl ⟨_, _, HStep.auto tabOk rfl, nc, oz, h1, h2, rfl, rfl, rfl⟩⟩
        | [_, _], hG =>
          obtain ⟨nc, oz, h1, h2, rfl, rfl, rfl⟩ := hG
          cases hi
          cases ho
          exact ⟨rfl, rfl, .inl ⟨_, _, HStep.auto tabOk rfl, nc, oz, h1, h2, rfl, rfl, rfl, rfl⟩⟩
        | [_, _, _], hG =>
          obtain ⟨nc, oz, h1, h2, rfl, rfl, rfl, rfl⟩ := hG
          cases hi
          cases ho
          refine ⟨rfl, rfl, .inl ⟨_, _, HStep.plain rfl (AStep.append (s := 2) (es := la.map lAlt) (news := [[int a.tag, bC nc a.binds]]) (ti := ti51) tabOk rfl rfl rfl rfl rfl rfl (Base.gs' _ 89 2 (la.map lAlt) (.l 4) rfl hal.symm) (.sl _ _) rfl ?_ ?_), nc, oz, h1, h2, rfl, rfl, rfl, rfl, rfl⟩⟩
          · rw [hal]; show (i + 1) * 32 ≤ _; omega
          · rw [hal]; show i + 1 ≤ _; omega
        | [_, _, _, _], hG => cases hi
      rintro vs σ hlen hG
      match vs, hlen, hG with
      | [_, _, _, _], _, hG =>
      obtain ⟨nc, oz, hnc, hNc, rfl, rfl, rfl, rfl, rfl⟩ := hG
      refine zM ?_
      obtain ⟨la', hla'⟩ : ∃ la', la' = la ++ [⟨a.tag, nc, a.binds⟩] := ⟨_, rfl⟩
      have hlm : la.map lAlt ++ [[int a.tag, bC nc a.binds]] = la'.map lAlt := by rw [hla', List.map_append]; rfl
      refine cInv ⟨x.alts.length - (i + 1), (i + 1, oz, la'), fun k => if k = 4 then 6 else k, by omega, ⟨by omega, ⟨by rw [hla', List.map_append, hla, take_get ha]; rfl, ?_, ?_⟩, rfl⟩, LessR.of rfl (by (repeat' first | exact FrSub.nil | refine zfc ?_ | refine zfo ?_ | refine zfp ?_)) (by simp) ?_ rfl rfl hNc.ok⟩
      · intro y hy
        rw [hla'] at hy
        rcases List.mem_append.1 hy with hy | hy
        · exact hlo y hy
        · simp at hy; subst hy; exact hnc
      · dsimp only
        rw [hla', aO_app, show aO [⟨a.tag, nc, a.binds⟩] = bO nc a.binds by simp [aO]]
        exact hNa.trans hNc
      · repeat' first | exact LoSub.nil | refine zlc ?_ | refine zld ?_ ?_ | rfl
        · simp only [AObj.ren, List.length_append, hal]; rfl
        · simp only [hlm, AObj.ren, renL, AC.ren, ren_bC, ren_kC, ren_lAlts]; rfl
    have hlt2 : i = x.alts.length := by simp at hb3; omega
    subst hlt2
    rw [List.take_length] at hla
    refine zA ?_
    refine AOps.step1 rfl rfl rfl (idxI tabOk rfl rfl rfl rfl rfl rfl rfl (by simp; omega)) ?_
    refine AOps.wkObj (.l 2) rfl (cs' := [int x.op, int x.n, bC nb x.binds, .sl 1 (kC (kidsL lts x.kids)), .sl 2 (la.map lAlt)]) (fun w C xs h => ?_) ?_
    · exact (show WkL _ _ from .cons (.refl _) (.cons (.refl _) (.cons (.refl _) (.cons (.gsE rfl) (.cons (.gsE rfl) .nil))))) w C xs h
    have hθ : ∀ (k : Nat) (i : Abs.Id), isO i → toOs [2] k i = i := fun k i hi => by cases i with | l q => exact hi.elim | o q => rfl
    refine AOps.cedes [2] rfl (by decide) hoy fun k hk => ⟨[(77, .one (.ptr (.l 0) j)), (76, .one (.ptr (.o k) 0)), (16, .one (int j)), (15, .one (int (e.map cEx).length)), (14, .one (.sl 5 (e.map cEx))), (3, .one (.arr (.l 0) 1 0 (e.map cEx).length (e.map cEx).length)), (0, .one (.sl 5 (e.map cEx)))],
      [(0, .cells (nodesL lts (e.map cEx).length))], [.cells [int x.op, int x.n, bC nb x.binds, .sl 1 (kC (kidsL lts x.kids)), .sl 2 (la.map lAlt)]], ?_, ?_, ?_, ?_⟩
    · exact .cons rfl rfl (.cons rfl rfl (.cons rfl rfl (.cons rfl rfl (.cons rfl (FV.sub_f (hθ k) _ (by simp)) (.cons rfl rfl (.cons rfl (FV.sub_f (hθ k) _ (by simp)) .nil))))))
    · exact .cons rfl rfl (AObj.sub_f (hθ k) _ (ids_nodesL_o _ _)) .nil
    · exact .cons rfl (AObj.sub_f (hθ k) _ (ids_node _ _ _ _ _ _)) .nil
    have hN1 := NewO.add hk hoy (ids_node x.op x.n nb x.binds (kidsL lts x.kids) la)
    have hN2 := ((hN.trans hNb).trans hNa).trans hN1
    obtain ⟨t, ht⟩ : ∃ t : LTr, t = .mk k x.op x.n nb x.binds (kidsL lts x.kids) la := ⟨_, rfl⟩
    have hto : lts.flatMap ownO ++ bO nb x.binds ++ aO la ++ [(k, .cells [int x.op, int x.n, bC nb x.binds, .sl 1 (kC (kidsL lts x.kids)), .sl 2 (la.map lAlt)])] = (lts ++ [t]).flatMap ownO := by
      rw [List.flatMap_append, ht]
      simp [ownO, List.append_assoc]
    rw [hto] at hN2
    have hL2 := hL.snoc (kidsIn_pre (by rw [List.take_append_drop]; exact hin)) (x := x) (fun q hq => by have := hxin q hq; simp; omega) (id := k) hla hnb hlo
    rw [← take_get hx, show LTr.mk k x.op x.n nb x.binds (x.kids.map fun q => lts.getD q.toNat default) la = t by rw [ht]; rfl] at hL2
    refine AOps.storeOwn tabOk rfl rfl rfl rfl rfl rfl rfl rfl (by rw [nodesL_len (by simp [hgl]; omega)]; simp; omega) ?_
    have hst := nodesL_set (ts := lts) (n := (e.map cEx).length) (by simp [hgl]; omega) t
    rw [hgl, show t.id = k by rw [ht]; rfl] at hst
    rw [hst]
    refine zM ?_
    exact cInv ⟨e.length - (j + 1), (j + 1, lts ++ [t], _), id, by omega, ⟨by omega, ⟨hL2, hN2⟩, rfl⟩, LessR.of rfl (by (repeat' first | exact FrSub.nil | refine zfc ?_ | refine zfo ?_ | refine zfp ?_)) (by simp) (by repeat' first | exact LoSub.nil | refine zlc ?_ | refine zld ?_ ?_ | rfl) rfl rfl hN2.ok⟩
  · have hlt : j = e.length := by simp at hb2; omega
    subst hlt
    rw [List.take_length] at hL
    obtain ⟨N, hNe⟩ : ∃ N, e.length = N + 1 := ⟨e.length - 1, by have := List.length_pos_iff.2 hT.ne; omega⟩
    obtain ⟨t, ht⟩ := get_of_lt (l := lts) (i := N) (by rw [hL.len]; omega)
    have hnt : e.length - 1 = N := by omega
    refine zM ?_
    refine AOps.wk 82 rfl (y := .one (int (N : Nat))) (.ofEq (by congr 3; simp; omega)) ?_
    refine AOps.step1 rfl rfl rfl (idxI tabOk rfl rfl rfl rfl rfl rfl rfl (by simp; omega)) ?_
    refine AOps.step1 rfl rfl rfl (AStep.loadOwn tabOk rfl rfl rfl rfl rfl rfl (nodesL_get ht)) ?_
    refine zA ?_
    have hown := hL.own hin _ N t (Nat.lt_succ_self _) ht
    refine AFn.fin' rfl (WkF.ofEq rfl) (by simp [AC.ids]) hov ⟨t, rfl, ?_, ?_, ?_, ?_, ?_, hov, ?_⟩
    · rw [hL.er hin _ N t (Nat.lt_succ_self _) ht]
      unfold grow treeAt; rw [hnt]
    · exact hL.ok hin (fun x hx => ⟨(he.x x hx).b, (he.x x hx).k, (he.x x hx).a, (he.x x hx).ab⟩) _ N t (Nat.lt_succ_self _) ht
    · exact fun p hp => hN.own p (hown p hp)
    · exact hL.nodup hT hN.nd (by rw [hnt]; exact ht)
    · intro k hk
      obtain ⟨p, hp, rfl⟩ := List.mem_map.1 hk
      exact hN.new p.1 (List.mem_map_of_mem (hown p hp))
    · intro m o hm
      show ov m = some o
      rw [hN.old m fun hmk => by have := hN.new m hmk; rw [hm] at this; cases this]
      exact hm
end Go.Proofs.YtgdionbeeodaaaaDoor
namespace Go.CoreX
def rnTA (nm : Nm) (f : Int) : List Alt → List Alt × Nm × Int
  | [] => ([], nm, f)
  | x :: l => (⟨x.tag, frB f x.binds⟩ :: (rnTA (frN nm f x.binds) (f + x.binds.length) l).1, (rnTA (frN nm f x.binds) (f + x.binds.length) l).2)
mutual
def rnT (nm : Nm) (f : Int) : Tr → Tr × Nm × Int
  | .mk o n b k a =>
    let s1 := ren1 o nm f b
    let s2 := rnTA s1.2.1 s1.2.2 a
    let s3 := rnTs s2.2.1 s2.2.2 k
    (.mk o (if o = 0 then (nm n).getD n else n) s1.1 s3.1 s2.1, s3.2)
def rnTs (nm : Nm) (f : Int) : List Tr → List Tr × Nm × Int
  | [] => ([], nm, f)
  | t :: l => ((rnT nm f t).1 :: (rnTs (rnT nm f t).2.1 (rnT nm f t).2.2 l).1, (rnTs (rnT nm f t).2.1 (rnT nm f t).2.2 l).2)
end
def nbLab (l : Lab) : Int := (if l.op = 9 then 0 else l.binds.length : Nat) + ((l.alts.map fun x => x.binds.length).sum : Nat)
def nbE (e : List Ex) : Int := sumT nbLab (grow e)
def renewE (e : List Ex) (f : Int) : List Ex × Int :=
  if check e ≠ 0 then ([], check e) else if f < 0 ∨ 1048576 < f then ([], 4) else if 1048576 < (rnT (fun _ => none) f (grow e)).2.2 then ([], 4) else (listT [] (rnT (fun _ => none) f (grow e)).1, 0)
-- The shape stays.
theorem ren1_len (o : Int) (nm : Nm) (f : Int) (b : List Int) : (ren1 o nm f b).1.length = b.length := by
  unfold ren1; split
  · rfl
  · exact frB_len f b
theorem rnTA_len : ∀ (l : List Alt) (nm : Nm) (f : Int), (rnTA nm f l).1.map (fun x => x.binds.length) = l.map fun x => x.binds.length
  | [], _, _ => rfl
  | x :: l, nm, f => by simp only [rnTA, List.map_cons, frB_len, rnTA_len l]
theorem flat_len_eq {l r : List Alt} (h : l.map (fun x => x.binds.length) = r.map fun x => x.binds.length) : (l.flatMap (·.binds)).length = (r.flatMap (·.binds)).length := by
  simp only [List.length_flatMap]; exact congrArg List.sum h
theorem mem_len {l r : List Alt} (h : l.map (fun x => x.binds.length) = r.map fun x => x.binds.length) {c : Nat} (hr : ∀ x ∈ r, x.binds.length ≤ c) : ∀ x ∈ l, x.binds.length ≤ c := fun x hx => by
  have : x.binds.length ∈ r.map fun x => x.binds.length := by rw [← h]; exact List.mem_map_of_mem (f := fun x : Alt => x.binds.length) hx
  obtain ⟨y, hy, e⟩ := List.mem_map.1 this
  rw [← e]; exact hr y hy
mutual
theorem rnT_cnt : ∀ (t : Tr) (nm : Nm) (f : Int), cntN (rnT nm f t).1 = cntN t
  | .mk o n b k a, nm, f => by simp only [rnT, cntN, rnTs_cnt k]
theorem rnTs_cnt : ∀ (l : List Tr) (nm : Nm) (f : Int), cntNs (rnTs nm f l).1 = cntNs l
  | [], _, _ => rfl
  | t :: l, nm, f => by simp only [rnTs, cntNs, rnT_cnt t, rnTs_cnt l]
end
end Go.CoreX
namespace Go.Proofs.YtgdionbeeodaaaaDoor
open Go Go.Abs Go.CoreX
set_option maxRecDepth 10000
variable {Γ : List (Nat × List AC)}
end Go.Proofs.YtgdionbeeodaaaaDoor
namespace Go.CoreX
-- What holds of all nodes.
mutual
def allT (p : Lab → Prop) : Tr → Prop
  | .mk o n b k a => p ⟨o, n, b, k.map Tr.op, a⟩ ∧ allTs p k
def allTs (p : Lab → Prop) : List Tr → Prop
  | [] => True
  | t :: l => allT p t ∧ allTs p l
end
theorem allTs_iff {p : Lab → Prop} : ∀ {l : List Tr}, allTs p l ↔ ∀ t ∈ l, allT p t
  | [] => by simp [allTs]
  | t :: l => by simp [allTs, allTs_iff (l := l)]
theorem allT_at {e : List Ex} (hk : kidsIn e) {p : Lab → Prop} (h : ∀ x ∈ e, p (labE e x)) : ∀ (n i : Nat), i < n → i < e.length → allT p (treeAt e i)
  | 0, i, hi, _ => by omega
  | n + 1, i, hi, hl => by
    obtain ⟨x, hx⟩ : ∃ x, e[i]? = some x := ⟨e[i], List.getElem?_eq_getElem hl⟩
    rw [treeAt_node hk hx]
    refine ⟨?_, allTs_iff.2 fun t ht => ?_⟩
    · have := h x (List.mem_of_getElem? hx)
      simp only [labE] at this
      simp only [List.map_map]
      exact this
    · obtain ⟨q, hq, rfl⟩ := List.mem_map.1 ht
      have := hk i x hx q hq
      exact allT_at hk h n q.toNat (by omega) (by omega)
theorem allT_grow {e : List Ex} (h : IsTree e) {p : Lab → Prop} (hp : ∀ x ∈ e, p (labE e x)) : allT p (grow e) := by
  have := List.length_pos_iff.2 h.ne
  exact allT_at h.k hp _ (e.length - 1) (Nat.lt_succ_self _) (by omega)
structure shLab (l : Lab) : Prop where
  b : l.op = 2 ∨ l.op = 4 ∨ l.op = 5 ∨ l.op = 9 ∨ l.binds = []
  v : l.op = 0 → l.alts = [] ∧ l.ops = []
theorem shLab_of {x : Ex} (h : shape x = true) (e : List Ex) : shLab (labE e x) := by
  unfold shape at h
  split at h
  · rename_i h7
    simp only [Bool.and_eq_true, beq_iff_eq] at h
    refine ⟨by simp only [labE]; exact .inr (.inr (.inr (.inr (List.length_eq_zero_iff.1 h.1.2)))), fun h0 => ?_⟩
    simp only [labE] at h0
    omega
  · rename_i h7
    cases hw : wants x with
    | none => rw [hw] at h; simp at h
    | some w =>
      obtain ⟨k, b, u⟩ := w
      rw [hw] at h
      simp only [Bool.and_eq_true, beq_iff_eq] at h
      obtain ⟨⟨⟨h1, h2⟩, h3⟩, _⟩ := h
      have ha : x.alts = [] := List.length_eq_zero_iff.1 h3
      refine ⟨?_, fun h0 => ?_⟩
      · simp only [labE]
        by_cases e2 : x.op = 2; · exact .inl e2
        by_cases e4 : x.op = 4; · exact .inr (.inl e4)
        by_cases e5 : x.op = 5; · exact .inr (.inr (.inl e5))
        by_cases e9 : x.op = 9; · exact .inr (.inr (.inr (.inl e9)))
        right; right; right; right
        have hb : b = 0 := by
          unfold wants at hw
          simp only [e2, e4, e5, e9, if_false] at hw
          repeat' split at hw
          all_goals first
            | (cases hw; rfl)
            | (cases hw; done)
        exact List.length_eq_zero_iff.1 (by omega)
      · simp only [labE] at h0 ⊢
        refine ⟨ha, ?_⟩
        unfold wants at hw
        rw [if_pos (.inl h0)] at hw
        cases hw
        have : x.kids = [] := List.length_eq_zero_iff.1 (by omega)
        rw [this]; rfl
theorem check_shape {e : List Ex} (h : check e = 0) : allT shLab (grow e) := allT_grow (body_isTree h) fun x hx => shLab_of (shape_of h x hx) e
-- The same up to renaming.
theorem rnTA_l : ∀ (a : List Alt) (nm : Nm) (f : Int), (rnTA nm f a).1.length = a.length
  | [], _, _ => rfl
  | x :: l, nm, f => by simp [rnTA, rnTA_l l]
def nmAt (o : Int) (nm : Nm) (f : Int) (b : List Int) (a : List Alt) : Nm × Int := (rnTA (ren1 o nm f b).2.1 (ren1 o nm f b).2.2 a).2
theorem rnT_op (t : Tr) (nm : Nm) (f : Int) : (rnT nm f t).1.op = t.op := by cases t; rfl
theorem rnTs_ops : ∀ (l : List Tr) (nm : Nm) (f : Int), (rnTs nm f l).1.map Tr.op = l.map Tr.op
  | [], _, _ => rfl
  | t :: l, nm, f => by simp only [rnTs, List.map_cons, rnT_op, rnTs_ops l]
end Go.CoreX
namespace Go.CoreX
def ind (a b k : Int) : Int := if a ≤ k ∧ k < b then 1 else 0
def cntB (k : Int) (l : Lab) : Int := ((bindersN l.op l.binds l.alts).count k : Nat)
-- Names that a tree does not bind keep their new names.
mutual
def bndT : Tr → List Int
  | .mk o _ b k a => bindersN o b a ++ bndTs k
def bndTs : List Tr → List Int
  | [] => []
  | t :: l => bndT t ++ bndTs l
end
theorem bound_sub {o : Int} {b : List Int} {a : List Alt} {j k : Int} (h : k ∈ boundN o b a j) : k ∈ bindersN o b a := by
  unfold boundN at h
  unfold bindersN
  split at h
  · rename_i e
    rw [if_pos (by omega)]
    exact List.mem_append.2 (.inl h)
  · split at h
    · rename_i e1 e2
      refine List.mem_append.2 (.inr (List.mem_flatMap.2 ⟨_, ?_, h⟩))
      have hl : (j - 1).toNat < a.length := by omega
      rw [List.getD_eq_getElem?_getD, List.getElem?_eq_getElem hl]
      exact List.getElem_mem hl
    · simp at h
end Go.CoreX
namespace Go.CoreX
def tl (a : Alt) : Int × Nat := (a.tag, a.binds.length)
def altBadP (op : Int) (L : List (Int × Nat)) (p : (Int × Nat) × Nat) : Bool :=
  ((L.take p.2).any (fun b => b.1 == p.1.1) || decide (p.1.1 < -1)) ||
  (op == 7 && p.1.1 == -1 && (decide ((p.2 : Int) < L.length - 1) || decide (0 < p.1.2))) ||
  ((op == 13 && !(((p.2 : Int) == 0) == (p.1.1 == -1))) || (op == 13 && !((p.1.2 : Int) == (if 2 < (p.2 : Int) + 1 then 2 else (p.2 : Int) + 1))))
end Go.CoreX
namespace Go.CoreX
def pLab (l : Lab) : Prop := ∀ (e : List Ex) (x : Ex), (∀ k ∈ x.kids, 0 ≤ k ∧ k < (e.length : Int)) → labE e x = l → nodeErrF false e x = 0
def nmR (nm : Nm) : Prop := ∀ k v, nm k = some v → 0 ≤ v ∧ v ≤ 1048575
theorem sum0 {α : Type} {f : α → Int} : ∀ {l : List α}, (∀ x ∈ l, 0 ≤ f x) → (l.map f).sum = 0 → ∀ x ∈ l, f x = 0
  | [], _, _, x, hx => by simp at hx
  | y :: l, h, hs, x, hx => by
    have h1 := h y (by simp)
    have h2 : ∀ z ∈ l, 0 ≤ f z := fun z hz => h z (by simp [hz])
    have h3 : 0 ≤ (l.map f).sum := by
      clear h h1 hs hx
      induction l with
      | nil => simp
      | cons z l ih =>
        have := h2 z (by simp)
        have := ih fun y hy => h2 y (by simp [hy])
        simp only [List.map_cons, List.sum_cons]; omega
    simp only [List.map_cons, List.sum_cons] at hs
    rcases List.mem_cons.1 hx with rfl | hx
    · omega
    · exact sum0 h2 (by omega) x hx
open Classical in
mutual
theorem sum_all {p : Lab → Prop} : ∀ t : Tr, allT p t → sumT (fun l => if p l then 0 else 1) t = 0
  | .mk o n b k a, h => by
    simp only [sumT, sum_alls k h.2]
    rw [if_pos h.1]; rfl
theorem sum_alls {p : Lab → Prop} : ∀ l : List Tr, allTs p l → sumTs (fun l => if p l then 0 else 1) l = 0
  | [], _ => rfl
  | t :: l, h => by simp only [sumTs, sum_all t h.1, sum_alls l h.2]; rfl
end
open Classical in
theorem allT_labs {p : Lab → Prop} {g : List Ex} (h : IsTree g) (ha : allT p (grow g)) : ∀ l ∈ labs g, p l := by
  have h1 := sum_tree (fun l => if p l then (0 : Int) else 1) h
  rw [sum_all _ ha] at h1
  intro l hl
  have := sum0 (fun x _ => by split <;> omega) h1 l hl
  split at this
  · assumption
  · cases this
theorem check_parts {e : List Ex} (h : check e = 0) : treeErr e = 0 ∧ (∀ x ∈ e, nodeErrF false e x = 0) ∧ (allBinders e).Nodup ∧ occT [] (grow e) = [] := by
  unfold check body at h
  by_cases h1 : treeErr e = 0
  · rw [if_neg (by simpa using h1)] at h
    by_cases h2 : firstErr (nodeErrF false e) e = 0
    · rw [if_neg (by simpa using h2)] at h
      by_cases h3 : hasDup ([] ++ allBinders e) = true
      · rw [if_pos h3] at h; cases h
      · rw [if_neg h3] at h
        have h3' := (hasDup_false _).1 (by simpa using h3)
        refine ⟨h1, (firstErr_zero _ _).1 h2, by simpa using h3', ?_⟩
        by_cases h4 : (freeOf (grow e)).all (fun n => ([] : List Int).contains n) = true
        · have h5 : freeOf (grow e) = [] := by
            cases hf : freeOf (grow e) with
            | nil => rfl
            | cons n l => rw [hf] at h4; simp at h4
          unfold freeOf at h5
          cases ho : occT [] (grow e) with
          | nil => rfl
          | cons n l =>
            have := (sortS_mem n (n :: l)).2 (by simp)
            rw [← ho, h5] at this
            simp at this
        · rw [if_neg h4] at h; cases h
    · rw [if_pos (by simpa using h2)] at h; exact absurd h h2
  · rw [if_pos h1] at h; exact absurd h h1
mutual
theorem bnd_count (k : Int) : ∀ t : Tr, (((bndT t).count k : Nat) : Int) = sumT (cntB k) t
  | .mk o n b ks a => by
    simp only [bndT, sumT, cntB, List.count_append, ← bnds_count k ks]; push_cast; rfl
theorem bnds_count (k : Int) : ∀ l : List Tr, (((bndTs l).count k : Nat) : Int) = sumTs (cntB k) l
  | [] => rfl
  | t :: l => by simp only [bndTs, sumTs, List.count_append, ← bnd_count k t, ← bnds_count k l]; push_cast; rfl
end
theorem bnd_nodup {e : List Ex} (h : check e = 0) : (bndT (grow e)).Nodup := by
  obtain ⟨_, _, h3, _⟩ := check_parts h
  have t1 := body_isTree h
  rw [List.nodup_iff_count] at h3 ⊢
  intro k
  have h4 := h3 k
  have h5 := bnd_count k (grow e)
  rw [← sum_tree _ t1] at h5
  have h6 : (((allBinders e).count k : Nat) : Int) = ((labs e).map (cntB k)).sum := by rw [allBinders_labs, count_flat]; rfl
  omega
abbrev nmN : Nm := fun _ => none
end Go.CoreX
namespace Go.Proofs.YtgdionbeeodaaaaDoor
open Go Go.Abs Go.CoreX
set_option maxRecDepth 10000
variable {Γ : List (Nat × List AC)}
end Go.Proofs.YtgdionbeeodaaaaDoor
namespace Go.CoreX
structure pOk (l : Lab) : Prop where
  b : l.binds.length ≤ 1048576
  k : l.ops.length ≤ 1048576
  a : l.alts.length ≤ 1048576
  ab : ∀ x ∈ l.alts, x.binds.length ≤ 1048576
  s : l.binds.length + (l.alts.flatMap (·.binds)).length ≤ 4194304
mutual
theorem rnT_pOk : ∀ (t : Tr) (nm : Nm) (f : Int), allT pOk t → allT pOk (rnT nm f t).1
  | .mk o n b k a, nm, f, h => by
    obtain ⟨h1, h2⟩ := h
    have e1 := rnTA_len a (ren1 o nm f b).2.1 (ren1 o nm f b).2.2
    refine ⟨⟨?_, ?_, ?_, ?_, ?_⟩, rnTs_pOk k _ _ h2⟩
    · simp only [ren1_len]; exact h1.b
    · simp only [rnTs_ops]; exact h1.k
    · simp only [rnTA_l]; exact h1.a
    · exact mem_len e1 h1.ab
    · simp only [ren1_len, flat_len_eq e1]; exact h1.s
theorem rnTs_pOk : ∀ (l : List Tr) (nm : Nm) (f : Int), allTs pOk l → allTs pOk (rnTs nm f l).1
  | [], _, _, _ => trivial
  | t :: l, nm, f, h => ⟨rnT_pOk t nm f h.1, rnTs_pOk l _ _ h.2⟩
end
-- Two lists in order, with the same members, are one list.
end Go.CoreX
namespace Go.Proofs.YtgdionbeeodaaaaDoor
open Go Go.Abs Go.CoreX
theorem okB_labs {e : List Ex} (he : okB e) : ∀ l ∈ labs e, pOk l := fun l hl => by
  obtain ⟨x, hx, rfl⟩ := List.mem_map.1 hl
  have h := he.eo.x x hx
  exact ⟨h.b, by simpa [labE] using h.k, h.a, h.ab, he.b x hx⟩
theorem okB_ofLabs {g : List Ex} (hl : g.length ≤ 1048576) (h : ∀ l ∈ labs g, pOk l) : okB g := by
  refine ⟨⟨hl, fun x hx => ?_⟩, fun x hx => ?_⟩
  · have := h _ (List.mem_map_of_mem (f := labE g) hx)
    exact ⟨this.b, by simpa [labE] using this.k, this.a, this.ab⟩
  · exact (h _ (List.mem_map_of_mem (f := labE g) hx)).s
end Go.Proofs.YtgdionbeeodaaaaDoor
namespace Go.CoreX
def mapA (ν : Int → Int) (x : Alt) : Alt := ⟨x.tag, x.binds.map ν⟩
mutual
def mapT (ν : Int → Int) : Tr → Tr
  | .mk o n b k a => .mk o (if o = 0 then ν n else n) (if o = 9 then b else b.map ν) (mapTs ν k) (a.map (mapA ν))
def mapTs (ν : Int → Int) : List Tr → List Tr
  | [] => []
  | t :: l => mapT ν t :: mapTs ν l
end
end Go.CoreX
namespace Go.CoreX
def InjOn (ν : Int → Int) (B : List Int) : Prop := ∀ x ∈ B, ∀ y ∈ B, ν x = ν y → x = y
def RelU (B : List Int) (ν : Int → Int) (s s' : CS) : Prop := ∀ k ∈ B, s'.u (ν k) = s.u k ∧ s'.d (ν k) = s.d k ∧ s'.m (ν k) = s.m k
theorem RelU.visit {B : List Int} {ν : Int → Int} (hi : InjOn ν B) {s s' : CS} (h : RelU B ν s s') {n : Int} (hn : n ∈ B) (deep : Int) : RelU B ν (visitU s n deep) (visitU s' (ν n) deep) := fun k hk => by
  obtain ⟨h1, h2, h3⟩ := h k hk
  obtain ⟨g1, g2, g3⟩ := h n hn
  have hup : ∀ (p p' : Int → Int) (v v' : Int), p' (ν k) = p k → v' = v → upF p' (ν n) v' (ν k) = upF p n v k := fun p p' v v' e1 e2 => by
    unfold upF
    by_cases e : n = k
    · subst e; rw [if_pos rfl, if_pos rfl, e2]
    · rw [if_neg e, if_neg (fun e3 => e (hi n hn k hk e3)), e1]
  refine ⟨hup _ _ _ _ h1 (by rw [g1]), h2, ?_⟩
  simp only [visitU]
  rw [g2]
  split
  · exact hup _ _ _ _ h3 (by rw [g3])
  · exact h3
theorem RelU.bind {B : List Int} {ν : Int → Int} (hi : InjOn ν B) (d : Int) : ∀ (l : List Int) {s s' : CS}, (∀ k ∈ l, k ∈ B) → RelU B ν s s' → RelU B ν (bindU d s l) (bindU d s' (l.map ν))
  | [], s, s', _, h => h
  | n :: l, s, s', hl, h => by
    have hn := hl n (by simp)
    have h1 : RelU B ν ⟨s.u, upF s.d n d, s.m⟩ ⟨s'.u, upF s'.d (ν n) d, s'.m⟩ := fun k hk => by
      obtain ⟨h1, h2, h3⟩ := h k hk
      refine ⟨h1, ?_, h3⟩
      simp only [upF]
      by_cases e : n = k
      · subst e; rw [if_pos rfl, if_pos rfl]
      · rw [if_neg e, if_neg (fun e3 => e (hi n hn k hk e3)), h2]
    exact RelU.bind hi d l (fun k hk => hl k (by simp [hk])) h1
end Go.CoreX
namespace Go.CoreX
def atomT (t : Tr) : Bool := t.op == 0 || t.op == 1 || (t.op == 6 && t.kids.length == 0)
mutual
def valT : Tr → Bool
  | .mk o n b k a => atomT (.mk o n b k a) || o == 2 || (if o = 5 then valLast k else if o = 6 ∨ o = 9 ∨ o = 4 then valTs k else false)
def valTs : List Tr → Bool
  | [] => true
  | t :: l => valT t && valTs l
def valLast : List Tr → Bool
  | [] => true
  | t :: l => match l with
    | [] => valT t
    | _ :: _ => valLast l
end
mutual
def usesN (id : Int) : Tr → Nat
  | .mk o n b k a => if o = 0 then (if n = id then 1 else 0) else usesNs id k
def usesNs (id : Int) : List Tr → Nat
  | [] => 0
  | t :: l => usesN id t + usesNs id l
end
mutual
def subT (id : Int) (v : Tr) : Tr → Tr
  | .mk o n b k a => if o = 0 then (if n = id then v else .mk o n b k a) else .mk o n b (subTs id v k) a
def subTs (id : Int) (v : Tr) : List Tr → List Tr
  | [] => []
  | t :: l => subT id v t :: subTs id v l
end
def letT (id : Int) (v body : Tr) : Tr := .mk 4 0 [id] [v, body] []
def letsT : List Int → List Tr → Tr → Tr
  | i :: is, t :: ts, b => letT i t (letsT is ts b)
  | _, _, b => b
def wrapI (n : Int) : Int := (n + 1073741824) % 2147483648 - 1073741824
def wordT (n : Int) : Tr := .mk 1 n [] [] []
def flagT (b : Bool) : Tr := .mk 6 (if b then 1 else 0) [] [] []
def kidT (t : Tr) (i : Nat) : Tr := t.kids.getD i default
def arithT (t : Tr) : Option Tr :=
  let x := kidT t 0; let y := kidT t 1
  if t.n > 6 ∨ x.op ≠ 1 ∨ y.op ≠ 1 then none
  else if t.n = 0 then some (wordT (wrapI (x.n + y.n)))
  else if t.n = 1 then some (wordT (wrapI (x.n - y.n)))
  else if t.n = 2 then some (wordT (wrapI (x.n * y.n)))
  else if t.n = 3 then (if y.n = 0 then none else some (wordT (wrapI (x.n.tdiv y.n))))
  else if t.n = 4 then (if y.n = 0 then none else some (wordT (wrapI (x.n.tmod y.n))))
  else if t.n = 6 then some (flagT (x.n == y.n))
  else if t.n = 5 then some (flagT (decide (x.n < y.n)))
  else some (wordT (wrapI 0))
def chosenL (con : Tr) : List Alt → List Tr → Option Tr
  | a :: as', k :: ks => if a.tag = con.n then (if a.binds.length ≠ con.kids.length then none else some (letsT a.binds con.kids k)) else if a.tag = -1 ∧ valT con = true then some k else chosenL con as' ks
  | _, _ => none
def chosenT (t : Tr) : Option Tr := chosenL (kidT t 0) t.alts t.kids.tail
def fieldL (n : Int) : List Int → List Tr → Option Tr
  | b :: bs, k :: ks => if b = n then some k else fieldL n bs ks
  | _, _ => none
def fieldT (t : Tr) : Option Tr :=
  let row := kidT t 0
  if row.op ≠ 9 ∨ valT row = false then none else fieldL t.n row.binds row.kids
def operandsN (t : Tr) : Nat :=
  if t.op = 3 ∨ t.op = 6 ∨ t.op = 8 ∨ t.op = 9 ∨ t.op = 10 ∨ t.op = 11 then t.kids.length else if t.op = 7 ∨ t.op = 12 then 1 else 0
mutual
def mostT : Tr → Int
  | .mk o n b k a => mostTs ((bindersN o b a).foldl max (-1)) k
def mostTs (m : Int) : List Tr → Int
  | [] => m
  | t :: l => mostTs (max m (mostT t)) l
end
def namedT (root t : Tr) (n : Int) : Option Tr :=
  if n < 0 ∨ (operandsN t : Int) ≤ n ∨ atomT (kidT t n.toNat) = true then none
  else if (t.kids.take n.toNat).all valT = false then none
  else some (letT (mostT root + 1) (kidT t n.toNat) (.mk t.op t.n t.binds (t.kids.set n.toNat (.mk 0 (mostT root + 1) [] [] [])) t.alts))
def defN (id : Int) (t : Tr) : List Int → Nat → Option Tr
  | [], _ => none
  | b :: bs, i => if b = id ∧ (t.op = 4 ∨ t.op = 5) ∧ (kidT t i).op = 2 then some (kidT t i) else defN id t bs (i + 1)
def defT (id : Int) : List Tr → Option Tr
  | [] => none
  | t :: l => match defN id t t.binds 0 with
    | some f => some f
    | none => defT id l
def unfoldT (nodes : List Tr) (root t : Tr) : Option Tr := (defT t.n nodes).map fun f => (rnT nmN (mostT root + 1) f).1
def letRuleT (rule : Int) (t : Tr) : Option Tr :=
  let v := kidT t 0; let body := kidT t 1; let id := t.binds.getD 0 0
  if rule = 2 ∧ atomT v = true then some (subT id v body)
  else if rule = 3 ∧ usesN id body = 0 ∧ valT v = true then some body
  else if rule = 8 ∧ v.op = 4 then some (letT (v.binds.getD 0 0) (kidT v 0) (letT id (kidT v 1) body))
  else if rule = 9 ∧ v.op = 7 ∧ v.alts.length = 1 then some (.mk 7 0 [] [kidT v 0, letT id (kidT v 1) body] v.alts)
  else if rule = 11 ∧ v.op = 2 ∧ usesN id body = 1 then some (subT id v body)
  else none
def unusedT (t : Tr) : Bool := t.binds.all fun id => usesN id (kidT t t.binds.length) == 0
def resT (nodes : List Tr) (root : Tr) (rule n : Int) (t : Tr) : Option Tr :=
  if n ≠ 0 ∧ rule ≠ 10 then none
  else if rule = 1 ∧ t.op = 3 ∧ (kidT t 0).op = 2 ∧ ((kidT t 0).binds.length : Int) = t.kids.length - 1 then some (letsT (kidT t 0).binds t.kids.tail (kidT (kidT t 0) 0))
  else if t.op = 4 ∧ rule ≠ 10 then letRuleT rule t
  else if rule = 4 ∧ t.op = 5 ∧ unusedT t = true then some (kidT t t.binds.length)
  else if rule = 5 ∧ t.op = 7 ∧ (kidT t 0).op = 6 then chosenT t
  else if rule = 6 ∧ t.op = 8 ∧ t.kids.length = 2 then arithT t
  else if rule = 7 ∧ t.op = 10 then fieldT t
  else if rule = 10 then namedT root t n
  else if rule = 12 ∧ t.op = 0 then unfoldT nodes root t
  else none
def growStepR (p : Nat) (u : Tr) (ts : List Tr) (x : Ex) : List Tr := ts ++ [if ts.length = p then u else nodeOf ts x]
def growLR (e : List Ex) (p : Nat) (u : Tr) : List Tr := e.foldl (growStepR p u) []
def growR (e : List Ex) (p : Nat) (u : Tr) : Tr := (growLR e p u).getD (e.length - 1) default
def applyE (e : List Ex) (rule at' n : Int) : List Ex × Int :=
  if check e ≠ 0 then ([], check e)
  else if rule < 1 ∨ 12 < rule then ([], 4)
  else if at' < 0 ∨ (e.length : Int) ≤ at' then ([], 12)
  else match resT (growL e) (grow e) rule n (treeAt e at'.toNat) with
    | none => ([], 12)
    | some x => if check (listT [] (growR e at'.toNat x)) ≠ 0 then ([], 2) else (listT [] (growR e at'.toNat x), 0)
def manyE (e : List Ex) (id : Int) : Nat := e.countP fun x => x.op == 0 && x.n == id
def canLetT (rule : Int) (t : Tr) (many : Nat) : Bool :=
  let v := kidT t 0
  if rule = 2 then atomT v
  else if rule = 3 then many == 0 && valT v
  else if rule = 8 then v.op == 4
  else if rule = 9 then v.op == 7 && v.alts.length == 1
  else if rule = 11 then v.op == 2 && many == 1
  else false
def restT (t : Tr) (many : Int → Nat) : Bool := !(t.binds.any fun id => decide (0 < many id)) || unusedT t
def canT (rule : Int) (t : Tr) (many : Int → Nat) : Bool :=
  if t.op = 4 then canLetT rule t (many (t.binds.getD 0 0))
  else if rule = 4 ∧ t.op = 5 then restT t many
  else if rule = 6 ∧ t.op = 8 then t.kids.length == 2 && (arithT t).isSome
  else if rule = 7 ∧ t.op = 10 then (fieldT t).isSome
  else if rule = 5 ∧ t.op = 7 then (kidT t 0).op == 6 && (chosenT t).isSome
  else if rule = 1 ∧ t.op = 3 then (kidT t 0).op == 2 && ((kidT t 0).binds.length : Int) == t.kids.length - 1
  else false
def orderR : List Int := [3, 4, 6, 7, 5, 1, 2, 11, 8, 9]
def nextE (e : List Ex) : Option (Int × Nat) := orderR.findSome? fun r => ((growL e).zipIdx.find? fun p => canT r p.1 (manyE e)).map fun p => (r, p.2)
theorem growLR_len (e : List Ex) (p : Nat) (u : Tr) : (growLR e p u).length = e.length := by
  have : ∀ (l : List Ex) (ts : List Tr), (l.foldl (growStepR p u) ts).length = ts.length + l.length := by
    intro l
    induction l with
    | nil => intro ts; simp
    | cons x l ih => intro ts; rw [List.foldl_cons, ih]; simp [growStepR]; omega
  unfold growLR
  rw [this]; simp
def factR : List Ex := listT [] (.mk 4 0 [1] [.mk 1 2 [] [] [], .mk 0 1 [] [] []] [])
end Go.CoreX
