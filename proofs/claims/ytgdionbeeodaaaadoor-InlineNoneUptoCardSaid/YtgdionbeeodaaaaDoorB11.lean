/- The rules of a let that hand on its own parts, walked. -/
import Derived.Test.YtgdionbeeodaaaaDoorB10
set_option linter.unusedVariables false
set_option linter.unusedSimpArgs false
namespace Go.Proofs.YtgdionbeeodaaaaDoor
open Go Go.Abs Go.CoreX
set_option maxRecDepth 10000
variable {Γ : List (Nat × List AC)}
mutual
theorem uses_mem (q : Int) : ∀ t : LTr, ∀ s ∈ usesL q t, ∀ p ∈ objs s, p ∈ objs t
  | .mk i o n nb b ks a, s, hs, p, hp => by
    simp only [usesL] at hs
    split at hs
    · split at hs
      · simp at hs; subst hs; exact hp
      · simp at hs
    · have := usess_mem q ks s hs p hp
      rw [objs_tail, tailO]
      simp [this]
theorem usess_mem (q : Int) : ∀ l : List LTr, ∀ s ∈ usesLs q l, ∀ p ∈ objs s, p ∈ objss l
  | [], s, hs, _, _ => by simp [usesLs] at hs
  | t :: l, s, hs, p, hp => by
    simp only [usesLs, List.mem_append] at hs
    simp only [objss, List.mem_append]
    rcases hs with hs | hs
    · exact .inl (uses_mem q t s hs p hp)
    · exact .inr (usess_mem q l s hs p hp)
end
theorem self_mem (t : LTr) : (t.id, AObj.cells (lC t)) ∈ objs t := by rw [objs_tail]; simp
set_option maxHeartbeats 2000000 in
theorem letRule_ok (hΓ : ∀ g cs, (g, cs) ∈ Γ → idsL isO cs) (rule : Int) (i : Nat) (n q : Int) (v d : LTr) (hpl : plainL (.mk i 4 n none [q] [v, d] [])) (hok : okT (erT (.mk i 4 n none [q] [v, d] []))) (hsh : allT shpL (erT (.mk i 4 n none [q] [v, d] []))) (hc : cntN (erT (.mk i 4 n none [q] [v, d] [])) ≤ 1048576) (ou : Outer)
    (ho : Owns ou (objs (.mk i 4 n none [q] [v, d] []))) (hn : (keys (objs (.mk i 4 n none [q] [v, d] []))).Nodup) :
    AFn Tryd.prog Γ 80 [.one (int rule), .one (.ptr (.o i) 0)] ou (ResW ou (.mk i 4 n none [q] [v, d] []) (letRuleT rule (erT (.mk i 4 n none [q] [v, d] [])))) := by
  have hi : ou i = some (.cells (lC (.mk i 4 n none [q] [v, d] []))) := owns_node ho
  simp only [lC, bC] at hi
  have hvm : v ∈ (LTr.mk i 4 n none [q] [v, d] []).kids := by simp [LTr.kids]
  have hdm : d ∈ (LTr.mk i 4 n none [q] [v, d] []).kids := by simp [LTr.kids]
  have hvo := owns_kid ho hvm
  have hdo := owns_kid ho hdm
  have hvk := okT_kid hok (er_kid hvm)
  have hdk := okT_kid hok (er_kid hdm)
  have hvs := allT_kid hsh (er_kid hvm)
  have hvc : cntN (erT v) ≤ 1048576 := by have := cnt_kid (er_kid hvm); omega
  have hdc : cntN (erT d) ≤ 1048576 := by have := cnt_kid (er_kid hdm); omega
  have hval := valued_ok hΓ (erT v) hvk hvs
  have hat := atom_ok (Γ := Γ) (erT v)
  have hus := uses_ok hΓ d hdk hdc q ou hdo
  have hlen : (kC (usesL q d)).length = usesN q (erT d) := by rw [kC_len, usesL_len]
  have hul : (usesL q d).length ≤ 1048576 := by have := usesN_le q (erT d); rw [usesL_len]; omega
  have hni : i ∉ keys (objs v) ∧ i ∉ keys (objs d) ∧ (keys (objs v)).Nodup ∧ (keys (objs d)).Nodup ∧ ∀ k ∈ keys (objs v), k ∉ keys (objs d) := by
    have h1 : (i :: (keys (objs v) ++ keys (objs d))).Nodup := by
      have e1 : keys (objs (.mk i 4 n none [q] [v, d] [])) = i :: (keys (objs v) ++ keys (objs d)) := by rw [objs_tail]; simp [tailO, bO, aO, objss, keys, LTr.id]
      rw [← e1]; exact hn
    simp only [List.nodup_cons, List.nodup_append, List.mem_append, not_or] at h1
    exact ⟨h1.1.1, h1.1.2, h1.2.1, h1.2.2.1, fun k hk hk2 => h1.2.2.2 k hk k hk2 rfl⟩
  obtain ⟨X, hX⟩ : ∃ X, X = letRuleT rule (erT (.mk i 4 n none [q] [v, d] [])) := ⟨_, rfl⟩
  rw [← hX]
  have hL : X = if rule = 2 ∧ atomT (erT v) = true then some (subT q (erT v) (erT d))
    else if rule = 3 ∧ usesN q (erT d) = 0 ∧ valT (erT v) = true then some (erT d)
    else if rule = 8 ∧ (erT v).op = 4 then some (letT ((erT v).binds.getD 0 0) (kidT (erT v) 0) (letT q (kidT (erT v) 1) (erT d)))
    else if rule = 9 ∧ (erT v).op = 7 ∧ (erT v).alts.length = 1 then some (.mk 7 0 [] [kidT (erT v) 0, letT q (kidT (erT v) 1) (erT d)] (erT v).alts)
    else if rule = 11 ∧ (erT v).op = 2 ∧ usesN q (erT d) = 1 then some (subT q (erT v) (erT d))
    else none := hX
  clear hX
  refine AFn.walk 161 tabOk Tryd.func80 rfl (by kernel_rfl) rfl rfl fun hou => ?_
  refine zA ?_
  refine ACode.drawX tabOk 13 [(3, .one (.sl 1 (kC [v, d]))), (4, .one (.box [.ptr (.o v.id) 0])), (9, .one (.sl 1 (kC [v, d]))), (10, .one (.box [.ptr (.o d.id) 0]))] follows (by kernel_rfl) rfl rfl rfl rfl ?_ ?_
  · refine .step rfl (HStep.plain rfl (AStep.loadOwn tabOk rfl rfl rfl rfl rfl hi rfl)) ?_
    refine .step rfl (HStep.plain rfl (AStep.indexAddr tabOk rfl rfl rfl rfl rfl rfl (.inl rfl) rfl (by decide) rfl)) ?_
    refine .step rfl (HStep.plain rfl (AStep.loadOwn tabOk rfl rfl rfl rfl rfl hi rfl)) ?_
    exact .step rfl (HStep.plain rfl (AStep.indexAddr tabOk rfl rfl rfl rfl rfl rfl (.inl rfl) rfl (by decide) rfl)) .nil
  repeat' first | refine zN ?_ | ((with_reducible refine oj ?_); first | refine zix ?_ | refine zow rfl rfl hi ?_)
  refine AOps.call1 hΓ rfl rfl rfl rfl rfl rfl rfl (by exact ⟨trivial, trivial, trivial⟩) hou hus fun r ou' hq _ _ => ?_
  obtain ⟨rfl, rfl⟩ := hq
  by_cases h2 : rule = 2
  · subst h2
    repeat' first | refine zN ?_ | ((with_reducible refine oj ?_); first | refine zix ?_ | refine zow rfl rfl hi ?_)
    refine AOps.callS hΓ hat (Plain.lit _) rfl rfl rfl rfl rfl rfl (LendFs.t1 hvo) ?_
    refine zA ?_
    refine ACode.condS rfl (fun hb => ?_) (fun hb => ?_)
    · have ha : atomT (erT v) = true := hb
      rw [if_pos ⟨rfl, ha⟩] at hL
      repeat ((fail_if_success ((with_reducible refine oj ?_); refine AOps.atDst 39 rfl ?_)); first | refine zO ?_)
      refine AOps.freezeU (t := v) 5 hvo rfl ?_
      obtain ⟨ou1, hou1⟩ : ∃ ou1, ou1 = deadL ou' (keys (objs v)) := ⟨_, rfl⟩
      rw [← hou1]
      have hok1 : OuOk ou1 := fun m o hm => by
        rw [hou1] at hm
        unfold deadL at hm
        split at hm
        · cases hm; trivial
        · exact hou m o hm
      have hold1 : ∀ j, j ∉ keys (objs v) → ou1 j = ou' j := fun j hj => by rw [hou1]; unfold deadL; rw [if_neg hj]
      have hvd : ∀ k ∈ keys (objs d), k ∉ keys (objs v) := fun k hk hk2 => hni.2.2.2.2 k hk2 hk
      refine zA ?_
      refine ACode.loopR hΓ (α := Nat × Outer × (Nat → Option LTr)) (fun c => [(41, .one (int c.1)), (40, .one (int (kC (usesL q d)).length)), (39, .one (.sl 1 (kC (usesL q d)))), (6, .one (.ptr (.o d.id) 0)), (5, .one (.box (cTr (erT v))))])
        (fun c => ⟨0, [], c.2.1⟩) (fun m c => c.1 ≤ (usesL q d).length ∧ CopyI ou1 c.2.1 ((usesL q d).take c.1) (erT v) c.2.2 ∧ m = (usesL q d).length - c.1) (a0 := (0, ou1, fun _ => none)) (ρ := fun k => k) ⟨by omega, CopyI.nil hok1, rfl⟩ (LessR.of rfl ?_ (by simp) .nil rfl rfl hok1) fun m c hc2 => ?_
      · exact FrSub.cons rfl (.ofEq rfl) (FrSub.cons rfl (.ofEq rfl) (FrSub.consP rfl (.ofEq rfl) (by simp) (FrSub.cons rfl (.ofEq rfl) (FrSub.consP rfl (.ofEq rfl) (by simp) .nil))))
      obtain ⟨j, ov, f⟩ := c
      obtain ⟨hjl, hI, rfl⟩ := hc2
      dsimp only at hjl hI
      have hov := hI.ok
      refine zA ?_
      refine ACode.cond rfl (fun hb2 => ?_) (fun hb2 => ?_)
      · have hlt : j < (usesL q d).length := by simpa [kC_len] using hb2
        obtain ⟨x, hx⟩ := get_of_lt hlt
        have hxm := List.mem_of_getElem? hx
        have hxk := uses_keys q d x hxm
        refine zA ?_
        refine AOps.step1 rfl rfl rfl (AStep.indexAddr tabOk rfl rfl rfl rfl rfl rfl (.inl rfl) rfl (by omega) (kC_get hx)) ?_
        refine zA ?_
        refine AOps.call1 hΓ rfl rfl rfl rfl rfl rfl rfl (by simp) hov (copied_ok hΓ (erT v) hvk hvc ov) fun r ow hq _ how => ?_
        obtain ⟨c, rfl, her, _, hco, hcn, hcnew, _, hcold⟩ := hq
        rw [grow_list] at her
        have hcc := owns_node hco
        have hx1 : ou1 x.id = some (.cells (lC x)) := by
          rw [hold1 _ (hvd _ hxk)]
          exact hdo _ (uses_mem q d x hxm _ (self_mem x))
        have hxL : x.id ∉ ((usesL q d).take j).map LTr.id := by
          have h1 := uses_nodup q d hni.2.2.2.1
          obtain ⟨h3, h4⟩ := List.getElem?_eq_some_iff.1 hx
          rw [← List.take_append_drop j (usesL q d), List.drop_eq_getElem_cons h3, h4, List.map_append, List.map_cons, List.nodup_append] at h1
          exact fun hm => h1.2.2 _ hm _ (by simp) rfl
        have hfx : f x.id = none := by
          cases hu : f x.id with
          | none => rfl
          | some u => exact absurd ((hI.dom x.id).1 (by rw [hu]; simp)) hxL
        have hx2 := hcold _ _ (hI.old _ _ hx1 hfx)
        have hI2 := hI.step hx1 hxL her hco hcnew hcold how
        rw [← take_get hx] at hI2
        cases c with
        | mk kc oc nc nbc bc ksc ac =>
        simp only [lC] at hcc
        refine zA ?_
        refine AOps.step1 rfl rfl rfl (AStep.loadOwnA tabOk rfl rfl rfl rfl rfl hcc) ?_
        refine zA ?_
        refine AOps.storeOwnA tabOk rfl rfl rfl rfl rfl (by simp [lC_len]) rfl rfl hx2 ?_
        refine zM ?_
        exact cInv ⟨(usesL q d).length - (j + 1), (j + 1, _, _), fun k => k, by omega, ⟨by omega, hI2, rfl⟩, LessR.of rfl (FrSub.cons rfl (.ofEq rfl) (FrSub.cons rfl (.ofEq rfl) (FrSub.consP rfl (.ofEq rfl) (by simp) (FrSub.cons rfl (.ofEq rfl) (FrSub.consP rfl (.ofEq rfl) (by simp) .nil))))) (by simp) .nil rfl rfl hI2.ok⟩
      · have hlt : j = (usesL q d).length := by simp [kC_len] at hb2; omega
        subst hlt
        rw [List.take_length] at hI
        obtain ⟨e1, e2, e3⟩ := puts_fin (i := i) hni.2.2.2.1 (plain_kid hpl hdm) hni.2.1 hI.dom (fun k u hu => by
          obtain ⟨g1, g2, g3, g4⟩ := hI.u k u hu
          refine ⟨g1, g2, g3, fun hm => ?_⟩
          obtain ⟨o', ho'⟩ := of_keys hm
          have := g4 _ ho'
          simp only at this
          rw [hold1 i hni.1, hi] at this
          cases this) (fun p hp hf => hI.old _ _ (by rw [hold1 _ (hvd _ (mem_keys hp))]; exact hdo p hp) hf)
        have hid : (putsL f d).id = d.id := putsL_id (fun k u hu => (hI.u k u hu).1) d
        refine zA ?_
        refine AFn.fin' rfl (WkF.refl _) (by simp) hov ?_
        rw [hL]
        refine ⟨putsL f d, by rw [hid], e1, e2, e3, hov, fun k o hk hkt => ?_, fun k hk => ?_⟩
        rotate_left
        · rcases puts_keys (plain_kid hpl hdm) (fun k u hu => (hI.u k u hu).1) k hk with hkd | ⟨k', u, hu, hku⟩
          · obtain ⟨o', ho'⟩ := of_keys hkd
            exact .inl (mem_keys (tail_kid hdm ho'))
          · obtain ⟨o', ho'⟩ := of_keys hku
            have h7 := (hI.u k' u hu).2.2.2 _ ho'
            right
            cases hk7 : ou' k with
            | none => rfl
            | some o7 =>
              simp only [hou1] at h7
              unfold deadL at h7
              split at h7
              · cases h7
              · rw [hk7] at h7; cases h7
        have hkv : k ∉ keys (objs v) := fun hm => by
          obtain ⟨o', ho'⟩ := of_keys hm
          exact hkt (mem_keys (tail_kid hvm ho'))
        have hkd : k ∉ keys (objs d) := fun hm => by
          obtain ⟨o', ho'⟩ := of_keys hm
          exact hkt (mem_keys (tail_kid hdm ho'))
        refine hI.old k o (by rw [hold1 k hkv]; exact hk) ?_
        cases hu : f k with
        | none => rfl
        | some u =>
          have := (hI.dom k).1 (by rw [hu]; simp)
          obtain ⟨s, hs, rfl⟩ := List.mem_map.1 this
          exact absurd (uses_keys q d s hs) hkd
    · have ha : atomT (erT v) = false := hb
      rw [if_neg (by rw [ha]; simp), if_neg (by simp), if_neg (by simp), if_neg (by simp), if_neg (by simp)] at hL
      refine zA ?_
      exact AFn.fin' rfl (WkF.refl _) (by simp) hou (by rw [hL]; exact ⟨rfl, hou, fun _ _ h => h⟩)
  rw [if_neg (fun h => h2 h.1)] at hL
  by_cases h3 : rule = 3
  · subst h3
    repeat' first | refine zN ?_ | ((with_reducible refine oj ?_); first | refine zix ?_ | refine zow rfl rfl hi ?_)
    rw [hlen]
    refine AOps.splitS rfl rfl rfl rfl (fun hb => ?_) (fun hb => ?_)
    · have h0 : usesN q (erT d) = 0 := by simpa using hb
      refine zM ?_
      refine AOps.callS hΓ hval (Plain.lit _) rfl rfl rfl rfl rfl rfl (LendFs.t1 hvo) ?_
      refine zA ?_
      refine ACode.condS rfl (fun hb3 => ?_) (fun hb3 => ?_)
      · have hv : valT (erT v) = true := hb3
        rw [if_pos ⟨rfl, h0, hv⟩] at hL
        refine zA ?_
        exact AFn.fin' rfl (WkF.refl _) (by simp) hou (by rw [hL]; exact ResD.w ho hn ⟨d, rfl, rfl, Der.refl (fun p hp => tail_kid hdm hp) hou⟩)
      · have hv : valT (erT v) = false := hb3
        rw [if_neg (by rw [hv]; simp), if_neg (by simp), if_neg (by simp), if_neg (by simp)] at hL
        refine zA ?_
        exact AFn.fin' rfl (WkF.refl _) (by simp) hou (by rw [hL]; exact ⟨rfl, hou, fun _ _ h => h⟩)
    · have h0 : ¬ usesN q (erT d) = 0 := by simpa using hb
      rw [if_neg (fun h => h0 h.2.1), if_neg (by simp), if_neg (by simp), if_neg (by simp)] at hL
      refine zA ?_
      exact AFn.fin' rfl (WkF.refl _) (by simp) hou (by rw [hL]; exact ⟨rfl, hou, fun _ _ h => h⟩)
  rw [if_neg (fun h => h3 h.1)] at hL
  cases v with
  | mk j op2 n2 nb2 b2 ks2 a2 =>
  obtain rfl : nb2 = none := (plain_kid hpl hvm).1
  have hv : ou' j = some (.cells (lC (.mk j op2 n2 none b2 ks2 a2))) := owns_node hvo
  simp only [lC, bC] at hv
  have hop : (erT (.mk j op2 n2 none b2 ks2 a2)).op = op2 := rfl
  rw [hop] at hL
  by_cases h8 : rule = 8
  · subst h8
    repeat' first | refine zN ?_ | ((with_reducible refine oj ?_); first | refine zix ?_ | refine zow rfl rfl hi ?_ | refine zow rfl rfl hv ?_)
    refine ACode.condS rfl (fun hb => ?_) (fun hb => ?_)
    · have h4 : op2 = 4 := by simpa using hb
      subst h4
      rw [if_pos ⟨rfl, rfl⟩] at hL
      obtain ⟨q2, y0, y1, hb2, hk2, _⟩ := shp_let (o := 4) (n := n2) (b := b2) (k := erTs ks2) (a := a2.map LAlt.er) hvs rfl
      obtain ⟨k0, k1, rfl⟩ : ∃ k0 k1, ks2 = [k0, k1] := by
        rw [erTs_eq] at hk2
        match ks2, hk2 with
        | [k0, k1], _ => exact ⟨k0, k1, rfl⟩
      subst hb2
      have hk0m : k0 ∈ (LTr.mk j 4 n2 none [q2] [k0, k1] a2).kids := by simp [LTr.kids]
      have hk1m : k1 ∈ (LTr.mk j 4 n2 none [q2] [k0, k1] a2).kids := by simp [LTr.kids]
      have hL : X = some (letT q2 (erT k0) (letT q (erT k1) (erT d))) := hL
      refine zA ?_
      refine ACode.drawC tabOk 22 [20, 21] [(3, .one (.sl 1 ([q2].map cI))), (4, .one (.box [int q2])), (9, .one (.sl 1 (kC [k0, k1]))), (10, .one (.box [.ptr (.o k0.id) 0])), (16, .one (.sl 1 (kC [k0, k1]))), (17, .one (.box [.ptr (.o k1.id) 0]))] (fun vs σ => match vs with
          | [] => σ = ⟨0, [], ou'⟩
          | [a] => ∃ (k : Nat) (ow : Outer), a = .one (.ptr (.o k) 0) ∧ NewO ou' ow [(k, .cells (lC (letN k q k1 d)))] ∧ σ = ⟨0, [], ow⟩
          | [a, b] => ∃ (k k' : Nat) (ow ox : Outer), a = .one (.ptr (.o k) 0) ∧ b = .one (.ptr (.o k') 0) ∧ NewO ou' ow [(k, .cells (lC (letN k q k1 d)))] ∧ NewO ow ox [(k', .cells (lC (letN k' q2 k0 (letN k q k1 d))))] ∧ σ = ⟨0, [], ox⟩
          | _ => False) follows (by kernel_rfl) rfl rfl (by decide) (by kernel_rfl) (by kernel_rfl) rfl rfl ?_ ?_ (by decide) ?_ ?_
      · rintro vs σ hG
        match vs, hG with
        | [], hG => subst hG; rfl
        | [a], hG => obtain ⟨k, ow, _, _, rfl⟩ := hG; rfl
        | [a, b], hG => obtain ⟨k, k', ow, ox, _, _, _, _, rfl⟩ := hG; rfl
      · rintro vs σ hG
        have hv' : σ.ou j = some (.cells [int 4, int n2, .sl 1 ([q2].map cI), .sl 1 (kC [k0, k1]), .sl 2 (a2.map lAlt)]) := by
          match vs, hG with
          | [], hG => subst hG; exact hv
          | [a], hG => obtain ⟨k, ow, _, hN, rfl⟩ := hG; exact hN.oldS hv
          | [a, b], hG => obtain ⟨k, k', ow, ox, _, _, hN, hN2, rfl⟩ := hG; exact hN2.oldS (hN.oldS hv)
        refine .step rfl (HStep.plain rfl (AStep.loadOwn tabOk rfl rfl rfl rfl rfl hv' rfl)) ?_
        refine .step rfl (HStep.plain rfl (AStep.indexAddr tabOk rfl rfl rfl rfl rfl rfl (.inl rfl) rfl (by decide) rfl)) ?_
        refine .step rfl (HStep.plain rfl (AStep.loadOwn tabOk rfl rfl rfl rfl rfl hv' rfl)) ?_
        refine .step rfl (HStep.plain rfl (AStep.indexAddr tabOk rfl rfl rfl rfl rfl rfl (.inl rfl) rfl (by decide) rfl)) ?_
        refine .step rfl (HStep.plain rfl (AStep.loadOwn tabOk rfl rfl rfl rfl rfl hv' rfl)) ?_
        exact .step rfl (HStep.plain rfl (AStep.indexAddr tabOk rfl rfl rfl rfl rfl rfl (.inl rfl) rfl (by decide) rfl)) .nil
      · rintro vs σ hG p oo hp1 hp2
        match vs, hG with
        | [], hG =>
          subst hG
          cases hp1
          cases hp2
          refine ⟨rfl, rfl, .inr ⟨rfl, AStepR.call hΓ rfl rfl rfl rfl (by exact ⟨trivial, trivial, trivial, trivial⟩) hou (let_ok hΓ q k1 d ou') fun r ow hq _ _ => ?_⟩⟩
          obtain ⟨k, rfl, hN⟩ := hq
          exact ⟨k, ow, rfl, hN, rfl⟩
        | [a], hG =>
          obtain ⟨k, ow, rfl, hN, rfl⟩ := hG
          cases hp1
          cases hp2
          refine ⟨rfl, rfl, .inr ⟨rfl, AStepR.call hΓ rfl rfl rfl rfl (by exact ⟨trivial, trivial, trivial, trivial⟩) hN.ok (let_ok hΓ q2 k0 (letN k q k1 d) ow) fun r ox hq _ _ => ?_⟩⟩
          obtain ⟨k', rfl, hN2⟩ := hq
          exact ⟨k, k', ow, ox, rfl, rfl, hN, hN2, rfl⟩
        | [a, b], hG => cases hp1
      rintro vs σ hlen2 hG
      match vs, hlen2, hG with
      | [a, b], _, hG =>
      obtain ⟨k, k', ow, ox, rfl, rfl, hN, hN2, rfl⟩ := hG
      have hD0 : Der ou' ou' (tailO (.mk i 4 n none [q] [.mk j 4 n2 none [q2] [k0, k1] a2, d] [])) d := Der.refl (fun p hp => tail_kid hdm hp) hou
      have hD1 := hD0.let hN (PartO.of fun p hp => tail_kid2 hvm hk1m hp)
      have hD2 := hD1.let hN2 (PartO.of fun p hp => tail_kid2 hvm hk0m hp)
      refine zM ?_
      refine AFn.fin' rfl (WkF.refl _) (by simp) hN2.ok (ResD.w ho hn ?_)
      rw [hL]
      exact ⟨_, rfl, by rw [letN_er, letN_er], hD2⟩
    · have h4 : ¬ op2 = 4 := by simpa using hb
      rw [if_neg (fun h => h4 h.2), if_neg (by simp), if_neg (by simp)] at hL
      refine zA ?_
      exact AFn.fin' rfl (WkF.refl _) (by simp) hou (by rw [hL]; exact ⟨rfl, hou, fun _ _ h => h⟩)
  rw [if_neg (fun h => h8 h.1)] at hL
  by_cases h9 : rule = 9
  · subst h9
    repeat' first | refine zN ?_ | ((with_reducible refine oj ?_); first | refine zix ?_ | refine zow rfl rfl hi ?_ | refine zow rfl rfl hv ?_)
    have hal : (erT (.mk j op2 n2 none b2 ks2 a2)).alts.length = a2.length := by simp [erT]
    rw [hal] at hL
    refine AOps.splitS rfl rfl rfl rfl (fun hb => ?_) (fun hb => ?_)
    · have h7 : op2 = 7 := by simpa using hb
      subst h7
      repeat' first | refine zN ?_ | ((with_reducible refine oj ?_); first | refine zix ?_ | refine zow rfl rfl hi ?_ | refine zow rfl rfl hv ?_)
      refine ACode.condS rfl (fun hb2 => ?_) (fun hb2 => ?_)
      · have h1 : a2.length = 1 := by simp at hb2; omega
        rw [if_pos ⟨rfl, rfl, h1⟩] at hL
        obtain ⟨h5, h6⟩ := shp_case (o := 7) (n := n2) (b := b2) (k := erTs ks2) (a := a2.map LAlt.er) hvs rfl
        rw [erTs_eq, List.length_map, List.length_map, h1] at h5
        obtain ⟨x1, rfl⟩ := List.length_eq_one_iff.1 h1
        obtain ⟨k0, k1, rfl⟩ : ∃ k0 k1, ks2 = [k0, k1] := by
          match ks2, h5 with
          | [k0, k1], _ => exact ⟨k0, k1, rfl⟩
        have hx1 : x1.nb = none := (plain_kid hpl hvm).2.1 x1 (by simp)
        have hk0m : k0 ∈ (LTr.mk j 7 n2 none b2 [k0, k1] [x1]).kids := by simp [LTr.kids]
        have hk1m : k1 ∈ (LTr.mk j 7 n2 none b2 [k0, k1] [x1]).kids := by simp [LTr.kids]
        have hL : X = some (.mk 7 0 [] [erT k0, letT q (erT k1) (erT d)] [x1.er]) := hL
        refine zA ?_
        refine ACode.drawC tabOk 22 [18, 19, 20, 21] [(3, .one (.sl 2 ([x1].map lAlt))), (7, .one (.sl 1 (kC [k0, k1]))), (8, .one (.box [.ptr (.o k0.id) 0])), (14, .one (.sl 1 (kC [k0, k1]))), (15, .one (.box [.ptr (.o k1.id) 0]))] (fun vs σ => match vs with
            | [] => σ = ⟨0, [], ou'⟩
            | [a] => ∃ (k : Nat) (ow : Outer), a = .one (.ptr (.o k) 0) ∧ NewO ou' ow [(k, .cells (lC (letN k q k1 d)))] ∧ σ = ⟨0, [], ow⟩
            | [a, b] => ∃ (k : Nat) (ow : Outer), a = .one (.ptr (.o k) 0) ∧ b = .one (.sl 1 [[.ptr (.o k0.id) 0], [.ptr (.o k) 0]]) ∧ NewO ou' ow [(k, .cells (lC (letN k q k1 d)))] ∧ σ = ⟨0, [], ow⟩
            | [a, b, c] => ∃ (k : Nat) (ow : Outer), a = .one (.ptr (.o k) 0) ∧ b = .one (.sl 1 [[.ptr (.o k0.id) 0], [.ptr (.o k) 0]]) ∧ c = .agg [int 7, int 0, .lit (.slice none 0 0), .sl 1 [[.ptr (.o k0.id) 0], [.ptr (.o k) 0]], .sl 2 ([x1].map lAlt)] ∧ NewO ou' ow [(k, .cells (lC (letN k q k1 d)))] ∧ σ = ⟨0, [], ow⟩
            | [a, b, c, e] => ∃ (k : Nat) (ow : Outer), a = .one (.ptr (.o k) 0) ∧ b = .one (.sl 1 [[.ptr (.o k0.id) 0], [.ptr (.o k) 0]]) ∧ c = .agg [int 7, int 0, .lit (.slice none 0 0), .sl 1 [[.ptr (.o k0.id) 0], [.ptr (.o k) 0]], .sl 2 ([x1].map lAlt)] ∧ e = .one (.ptr (.l 0) 0) ∧ NewO ou' ow [(k, .cells (lC (letN k q k1 d)))] ∧ σ = ⟨1, [(0, .cells [int 7, int 0, .lit (.slice none 0 0), .sl 1 [[.ptr (.o k0.id) 0], [.ptr (.o k) 0]], .sl 2 ([x1].map lAlt)])], ow⟩
            | _ => False) follows (by kernel_rfl) rfl rfl (by decide) (by kernel_rfl) (by kernel_rfl) rfl rfl ?_ ?_ (by decide) ?_ ?_
        · rintro vs σ hG
          match vs, hG with
          | [], hG => subst hG; rfl
          | [a], hG => obtain ⟨k, ow, _, _, rfl⟩ := hG; rfl
          | [a, b], hG => obtain ⟨k, ow, _, _, _, rfl⟩ := hG; rfl
          | [a, b, c], hG => obtain ⟨k, ow, _, _, _, _, rfl⟩ := hG; rfl
          | [a, b, c, e], hG => obtain ⟨k, ow, _, _, _, _, _, rfl⟩ := hG; rfl
        · rintro vs σ hG
          have hv' : σ.ou j = some (.cells [int 7, int n2, .sl 1 (b2.map cI), .sl 1 (kC [k0, k1]), .sl 2 ([x1].map lAlt)]) := by
            match vs, hG with
            | [], hG => subst hG; exact hv
            | [a], hG => obtain ⟨k, ow, _, hN, rfl⟩ := hG; exact hN.oldS hv
            | [a, b], hG => obtain ⟨k, ow, _, _, hN, rfl⟩ := hG; exact hN.oldS hv
            | [a, b, c], hG => obtain ⟨k, ow, _, _, _, hN, rfl⟩ := hG; exact hN.oldS hv
            | [a, b, c, e], hG => obtain ⟨k, ow, _, _, _, _, hN, rfl⟩ := hG; exact hN.oldS hv
          refine .step rfl (HStep.plain rfl (AStep.loadOwn tabOk rfl rfl rfl rfl rfl hv' rfl)) ?_
          refine .step rfl (HStep.plain rfl (AStep.loadOwn tabOk rfl rfl rfl rfl rfl hv' rfl)) ?_
          refine .step rfl (HStep.plain rfl (AStep.indexAddr tabOk rfl rfl rfl rfl rfl rfl (.inl rfl) rfl (by decide) rfl)) ?_
          refine .step rfl (HStep.plain rfl (AStep.loadOwn tabOk rfl rfl rfl rfl rfl hv' rfl)) ?_
          exact .step rfl (HStep.plain rfl (AStep.indexAddr tabOk rfl rfl rfl rfl rfl rfl (.inl rfl) rfl (by decide) rfl)) .nil
        · rintro vs σ hG p oo hp1 hp2
          match vs, hG with
          | [], hG =>
            subst hG
            cases hp1
            cases hp2
            refine ⟨rfl, rfl, .inr ⟨rfl, AStepR.call hΓ rfl rfl rfl rfl (by exact ⟨trivial, trivial, trivial, trivial⟩) hou (let_ok hΓ q k1 d ou') fun r ow hq _ _ => ?_⟩⟩
            obtain ⟨k, rfl, hN⟩ := hq
            exact ⟨k, ow, rfl, hN, rfl⟩
          | [a], hG =>
            obtain ⟨k, ow, rfl, hN, rfl⟩ := hG
            cases hp1
            cases hp2
            exact ⟨rfl, rfl, .inl ⟨_, _, HStep.auto tabOk rfl, k, ow, rfl, rfl, hN, rfl⟩⟩
          | [a, b], hG =>
            obtain ⟨k, ow, rfl, rfl, hN, rfl⟩ := hG
            cases hp1
            cases hp2
            exact ⟨rfl, rfl, .inl ⟨_, _, HStep.auto tabOk rfl, k, ow, rfl, rfl, rfl, hN, rfl⟩⟩
          | [a, b, c], hG =>
            obtain ⟨k, ow, rfl, rfl, rfl, hN, rfl⟩ := hG
            cases hp1
            cases hp2
            exact ⟨rfl, rfl, .inl ⟨_, _, HStep.auto tabOk rfl, k, ow, rfl, rfl, rfl, rfl, hN, rfl⟩⟩
          | [a, b, c, e], hG => cases hp1
        rintro vs σ hlen2 hG
        match vs, hlen2, hG with
        | [a, b, c, e], _, hG =>
        obtain ⟨k, ow, rfl, rfl, rfl, rfl, hN, rfl⟩ := hG
        have hD0 : Der ou' ou' (tailO (.mk i 4 n none [q] [.mk j 7 n2 none b2 [k0, k1] [x1], d] [])) d := Der.refl (fun p hp => tail_kid hdm hp) hou
        have hD1 := hD0.let hN (PartO.of fun p hp => tail_kid2 hvm hk1m hp)
        have hnd : (AObj.cells (lC (.mk 0 7 0 none [] [k0, letN k q k1 d] [x1]))).ids isO := lC_ids _
        refine AOps.wkObj (.l 0) rfl (cs' := lC (.mk 0 7 0 none [] [k0, letN k q k1 d] [x1])) (fun w C xs h => ?_) ?_
        · exact (show WkL _ _ from .cons (.refl _) (.cons (.refl _) (.cons (.nilS 1) (.cons (.refl _) (.cons (.refl _) .nil))))) w C xs h
        refine AOps.cedes [0] rfl (by decide) hN.ok fun k' hk' => ⟨[(137, .one (.ptr (.o k') 0))], [], [.cells (lC (.mk k' 7 0 none [] [k0, letN k q k1 d] [x1]))], .cons rfl rfl .nil, .nil, ?_, ?_⟩
        · exact .cons rfl (AObj.sub_f (fun i hi => by cases i with | l q => exact hi.elim | o q => rfl) _ hnd) .nil
        have hN2 := NewO.add hk' hN.ok (lC_ids (.mk k' 7 0 none [] [k0, letN k q k1 d] [x1]))
        refine zA ?_
        refine AFn.fin' rfl (WkF.refl _) (by simp) hN2.ok (ResD.w ho hn ?_)
        rw [hL]
        refine ⟨.mk k' 7 0 none [] [k0, letN k q k1 d] [x1], rfl, ?_, ?_⟩
        · simp only [erT, erTs, letN_er, List.map_cons, List.map_nil]
        · refine Der.node (u := .mk k' 7 0 none [] [k0, letN k q k1 d] [x1]) hD1.old hN2 ?_
          have et : tailO (.mk k' 7 0 none [] [k0, letN k q k1 d] [x1]) = objs k0 ++ objs (letN k q k1 d) := by
            simp only [tailO, bO, List.nil_append, objss, List.append_nil, plain_aO (show ∀ x ∈ [x1], x.nb = none by simpa using hx1)]
          rw [et]
          exact (PartO.of fun p hp => tail_kid2 hvm hk0m hp).app hD1.part
      · have h1 : ¬ a2.length = 1 := by simp at hb2; omega
        rw [if_neg (fun h => h1 h.2.2), if_neg (by simp)] at hL
        refine zA ?_
        exact AFn.fin' rfl (WkF.refl _) (by simp) hou (by rw [hL]; exact ⟨rfl, hou, fun _ _ h => h⟩)
    · have h7 : ¬ op2 = 7 := by simpa using hb
      rw [if_neg (fun h => h7 h.2.1), if_neg (by simp)] at hL
      refine zA ?_
      exact AFn.fin' rfl (WkF.refl _) (by simp) hou (by rw [hL]; exact ⟨rfl, hou, fun _ _ h => h⟩)
  rw [if_neg (fun h => h9 h.1)] at hL
  by_cases h11 : rule = 11
  · subst h11
    repeat' first | refine zN ?_ | ((with_reducible refine oj ?_); first | refine zix ?_ | refine zow rfl rfl hi ?_ | refine zow rfl rfl hv ?_)
    refine AOps.splitS rfl rfl rfl rfl (fun hb => ?_) (fun hb => ?_)
    · have h2' : op2 = 2 := by simpa using hb
      repeat' first | refine zN ?_ | ((with_reducible refine oj ?_); first | refine zix ?_ | refine zow rfl rfl hi ?_ | refine zow rfl rfl hv ?_)
      rw [hlen]
      refine ACode.condS rfl (fun hb2 => ?_) (fun hb2 => ?_)
      · have h1 : usesN q (erT d) = 1 := by simp at hb2; omega
        rw [if_pos ⟨rfl, h2', h1⟩] at hL
        rw [← usesL_len] at h1
        obtain ⟨x, hx⟩ := List.length_eq_one_iff.1 h1
        have hxm : x ∈ usesL q d := by rw [hx]; simp
        have hxk := uses_keys q d x hxm
        have hx1 : ou' x.id = some (.cells (lC x)) := hdo _ (uses_mem q d x hxm _ (self_mem x))
        have hvd : ∀ k ∈ keys (objs d), k ∉ keys (objs (.mk j op2 n2 none b2 ks2 a2)) := fun k hk hk2 => hni.2.2.2.2 k hk2 hk
        refine zA ?_
        rw [hx]
        refine ACode.drawX tabOk 6 [(1, .one (.box [.ptr (.o x.id) 0])), (5, .agg [int op2, int n2, .sl 1 (b2.map cI), .sl 1 (kC ks2), .sl 2 (a2.map lAlt)])] follows (by kernel_rfl) rfl rfl rfl rfl ?_ ?_
        · refine .step rfl (HStep.plain rfl (AStep.indexAddr tabOk rfl rfl rfl rfl rfl rfl (.inl rfl) rfl (by decide) rfl)) ?_
          exact .step rfl (HStep.plain rfl (AStep.loadOwnA tabOk rfl rfl rfl rfl rfl hv)) .nil
        refine zA ?_
        refine AOps.storeOwnA tabOk rfl rfl rfl rfl rfl (by simp [lC_len]) rfl rfl hx1 ?_
        refine zA ?_
        have hvk2 : x.id ∉ keys (tailO (.mk j op2 n2 none b2 ks2 a2)) := fun hm => hvd _ hxk (by rw [objs_tail]; exact List.mem_cons_of_mem _ hm)
        have hok2 : OuOk (setO ou' x.id (.cells (lC (.mk j op2 n2 none b2 ks2 a2)))) := setO_ok hou (lC_ids _)
        obtain ⟨e1, e2, e3⟩ := puts_fin (f := fun k => if k = x.id then some (withId x.id (.mk j op2 n2 none b2 ks2 a2)) else none) (q := q) (d := d) (V := erT (.mk j op2 n2 none b2 ks2 a2)) (ov := setO ou' x.id (.cells (lC (.mk j op2 n2 none b2 ks2 a2)))) (i := i) hni.2.2.2.1 (plain_kid hpl hdm) hni.2.1 (fun k => by rw [hx]; by_cases e : k = x.id <;> simp [e]) (fun k u hu => by
          by_cases e : k = x.id
          · rw [if_pos e] at hu
            cases hu
            refine ⟨by rw [withId_id, e], withId_er _ _, withId_own (own_tail hvo) hvk2, fun hm => ?_⟩
            rw [withId_tail] at hm
            exact hni.1 (by rw [objs_tail]; exact List.mem_cons_of_mem _ hm)
          · rw [if_neg e] at hu; cases hu) (fun p hp hf => by
          by_cases e : p.1 = x.id
          · rw [if_pos e] at hf; cases hf
          · rw [setO_ne e]; exact hdo p hp)
        have hid : (putsL (fun k => if k = x.id then some (withId x.id (.mk j op2 n2 none b2 ks2 a2)) else none) d).id = d.id := putsL_id (fun k u hu => by
          by_cases e : k = x.id
          · rw [if_pos e] at hu; cases hu; rw [withId_id, e]
          · rw [if_neg e] at hu; cases hu) d
        refine AFn.fin' rfl (WkF.refl _) (by simp) hok2 ?_
        rw [hL]
        refine ⟨_, by rw [hid], e1, e2, e3, hok2, fun k o hk hkt => ?_, fun k hk => ?_⟩
        rotate_left
        · rcases puts_keys (plain_kid hpl hdm) (fun k u hu => by
            by_cases e : k = x.id
            · rw [if_pos e] at hu; cases hu; rw [withId_id, e]
            · rw [if_neg e] at hu; cases hu) k hk with hkd | ⟨k', u, hu, hku⟩
          · obtain ⟨o', ho'⟩ := of_keys hkd
            exact .inl (mem_keys (tail_kid hdm ho'))
          · by_cases e : k' = x.id
            · rw [if_pos e] at hu
              cases hu
              rw [withId_tail] at hku
              obtain ⟨o', ho'⟩ := of_keys hku
              exact .inl (mem_keys (tail_kid hvm (by rw [objs_tail]; exact List.mem_cons_of_mem _ ho')))
            · rw [if_neg e] at hu; cases hu
        have hkd : k ≠ x.id := fun e => by
          obtain ⟨o', ho'⟩ := of_keys hxk
          exact hkt (e ▸ mem_keys (tail_kid hdm ho'))
        exact (setO_ne hkd).trans hk
      · have h1 : ¬ usesN q (erT d) = 1 := by simp at hb2; omega
        rw [if_neg (fun h => h1 h.2.2)] at hL
        refine zA ?_
        exact AFn.fin' rfl (WkF.refl _) (by simp) hou (by rw [hL]; exact ⟨rfl, hou, fun _ _ h => h⟩)
    · have h2' : ¬ op2 = 2 := by simpa using hb
      rw [if_neg (fun h => h2' h.2.1)] at hL
      refine zA ?_
      exact AFn.fin' rfl (WkF.refl _) (by simp) hou (by rw [hL]; exact ⟨rfl, hou, fun _ _ h => h⟩)
  rw [if_neg (fun h => h11 h.1)] at hL
  repeat' first | refine zN ?_ | ((with_reducible refine oj ?_); first | refine zix ?_ | refine zow rfl rfl hi ?_ | refine zow rfl rfl hv ?_) | (with_reducible refine oj ?_; refine AOps.splitS rfl rfl rfl rfl (fun hb => ?_) (fun hb => ?_)) | (with_reducible refine ok ?_; first | refine ACode.condS rfl (fun hb => ?_) (fun hb => ?_) | refine ACode.cond rfl (fun hb => ?_) (fun hb => ?_))
  all_goals first
    | (exfalso; simp at *; omega)
    | exact AFn.fin' rfl (WkF.refl _) (by simp) hou (by rw [hL]; exact ⟨rfl, hou, fun _ _ h => h⟩)
end Go.Proofs.YtgdionbeeodaaaaDoor
namespace Go.Proofs.YtgdionbeeodaaaaDoor
open Go Go.Abs Go.CoreX
set_option maxRecDepth 10000
variable {Γ : List (Nat × List AC)}
theorem ResW.dead {ou ou' : Outer} {t : LTr} {x : Option Tr} {r : FV} (h : ResW ou t x r ou') : OuOk ou' := by
  cases x with
  | none => exact h.2.1
  | some X => obtain ⟨u, _, _, _, _, h, _⟩ := h; exact h
theorem ResW.ids {ou ou' : Outer} {t : LTr} {x : Option Tr} {r : FV} (h : ResW ou t x r ou') : r.ids isO := by
  cases x with
  | none => rw [h.1]; trivial
  | some X => obtain ⟨u, rfl, _⟩ := h; trivial
theorem ResD.ids {ou ou' : Outer} {t : LTr} {x : Option Tr} {r : FV} (h : ResD ou t x r ou') : r.ids isO ∧ OuOk ou' := by
  cases x with
  | none => exact ⟨by rw [h.1]; trivial, h.2.1⟩
  | some X => obtain ⟨u, rfl, _, hD⟩ := h; exact ⟨trivial, hD.ok⟩
set_option maxHeartbeats 4000000 in
theorem result_ok (hΓ : ∀ g cs, (g, cs) ∈ Γ → idsL isO cs) (W : List AC) (hW : idsL isO W) (nodes : List Tr) (root : Tr) (rule at' n : Int) (i : Nat) (o nn : Int) (b : List Int) (ks : List LTr) (a : List LAlt) (hpl : plainL (.mk i o nn none b ks a)) (hok : okT (erT (.mk i o nn none b ks a))) (hsh : allT shpL (erT (.mk i o nn none b ks a))) (hc : cntN (erT (.mk i o nn none b ks a)) ≤ 1048576)
    (hrg : ∀ s ∈ ks, (erT s).op = 1 → -1073741824 ≤ (erT s).n ∧ (erT s).n ≤ 1073741823) (ou : Outer) (ho : Owns ou (objs (.mk i o nn none b ks a))) (hn : (keys (objs (.mk i o nn none b ks a))).Nodup)
    (hN : rule = 10 → AFn Tryd.prog Γ 85 [.one (.box W), .one (.ptr (.o i) 0), .one (int n)] ou (ResW ou (.mk i o nn none b ks a) (namedT root (erT (.mk i o nn none b ks a)) n)))
    (hU : rule = 12 → o = 0 → AFn Tryd.prog Γ 86 [.one (.box W), .one (.ptr (.o i) 0)] ou (ResW ou (.mk i o nn none b ks a) (unfoldT nodes root (erT (.mk i o nn none b ks a))))) :
    AFn Tryd.prog Γ 47 [.one (.box W), .agg [int rule, int at', int n], .one (.ptr (.o i) 0)] ou (ResW ou (.mk i o nn none b ks a) (resT nodes root rule n (erT (.mk i o nn none b ks a)))) := by
  have hi : ou i = some (.cells (lC (.mk i o nn none b ks a))) := owns_node ho
  simp only [lC, bC] at hi
  have hbl : b.length ≤ 1048576 := hok.1
  have hkl : ks.length ≤ 1048576 := by have := hok.2.1; simpa [erTs_eq] using this
  obtain ⟨t, hte⟩ : ∃ t, t = LTr.mk i o nn none b ks a := ⟨_, rfl⟩
  have hti : t.id = i := by rw [hte]; rfl
  obtain ⟨X, hX⟩ : ∃ X, X = resT nodes root rule n (erT t) := ⟨_, rfl⟩
  obtain ⟨B, hB⟩ : ∃ B : Bool, B = decide (rule = 1 ∧ (erT t).op = 3 ∧ (kidT (erT t) 0).op = 2 ∧ ((kidT (erT t) 0).binds.length : Int) = (erT t).kids.length - 1) := ⟨_, rfl⟩
  have hop : (erT t).op = o := by rw [hte]; rfl
  rw [← hte, ← hX]
  unfold resT at hX
  rw [hop] at hX hB
  refine AFn.walk 206 tabOk Tryd.func47 rfl (by kernel_rfl) rfl rfl fun hou => ?_
  have hW1 : ∀ k, idsL (inL k) W := fun k => idsL_mono (fun i hi => by cases i with | l q => exact hi.elim | o q => trivial) W hW
  have hnil : X = none → ResW ou t X nilP ou := fun h => by rw [h]; exact ⟨rfl, hou, fun _ _ h => h⟩
  refine zA ?_
  refine AOps.cutN 0 rfl hΓ (α := Unit) (fun _ => [(14, .one (.lit (.bool (decide (n ≠ 0 ∧ rule ≠ 10))))), (4, .one (.ptr (.l 0) 0)), (2, .one (.ptr (.o i) 0)), (0, .one (.box W))]) (fun _ => ⟨1, [(0, .cells [int rule, int at', int n])], ou⟩) (fun _ => True) ?_ fun _ _ => ?_
  · dsimp only [List.take_zero, List.nil_append]
    refine AOps.splitS rfl rfl rfl rfl (fun hb => ?_) (fun hb => ?_)
    · have hn0 : n ≠ 0 := by simpa using hb
      refine zA ?_
      refine cInv ⟨(), id, trivial, LessR.of rfl (FrSub.cons rfl (.ofEq ?_) (FrSub.cons rfl (.ofEq rfl) (FrSub.cons rfl (.ofEq rfl) (FrSub.consP rfl (.ofEq rfl) (by simp [hW]) .nil)))) (by simp [hW1]) (by repeat' first | exact LoSub.nil | refine zlc ?_ | refine zld ?_ ?_ | rfl) rfl rfl hou⟩
      simp only [FV.ren, AC.ren]
      congr 3
      rw [Bool.eq_iff_iff]; simp [hn0]
    · have hn0 : n = 0 := by simpa using hb
      refine zA ?_
      refine cInv ⟨(), id, trivial, LessR.of rfl (FrSub.cons rfl (.ofEq ?_) (FrSub.cons rfl (.ofEq rfl) (FrSub.cons rfl (.ofEq rfl) (FrSub.consP rfl (.ofEq rfl) (by simp [hW]) .nil)))) (by simp [hW1]) (by repeat' first | exact LoSub.nil | refine zlc ?_ | refine zld ?_ ?_ | rfl) rfl rfl hou⟩
      simp only [FV.ren, AC.ren]
      congr 3
      symm; simp [hn0]
  refine ACode.condS rfl (fun hb => ?_) (fun hb => ?_)
  · have h1 : n ≠ 0 ∧ rule ≠ 10 := by simpa using hb
    rw [if_pos h1] at hX
    refine zA ?_
    exact AFn.fin' rfl (WkF.refl _) (by simp) hou (hnil hX)
  have h1 : ¬ (n ≠ 0 ∧ rule ≠ 10) := by simpa using hb
  rw [if_neg h1] at hX
  refine zA ?_
  refine ACode.cutN 0 rfl hΓ (α := Unit) (fun _ => [(15, .one (.lit (.bool B))), (4, .one (.ptr (.l 0) 0)), (2, .one (.ptr (.o i) 0)), (0, .one (.box W))]) (fun _ => ⟨1, [(0, .cells [int rule, int at', int n])], ou⟩) (fun _ => True) ?_ fun _ _ => ?_
  · dsimp only [List.take_zero, List.nil_append]
    by_cases hr1 : rule = 1
    · by_cases h3 : o = 3
      · obtain ⟨k0, ks', rfl⟩ : ∃ k0 ks', ks = k0 :: ks' := by
          have := (shp_app (o := o) (n := nn) (b := b) (k := erTs ks) (a := a.map LAlt.er) hsh h3).1
          cases ks with
          | nil => simp [erTs] at this
          | cons k0 ks' => exact ⟨k0, ks', rfl⟩
        have hk0m : k0 ∈ (LTr.mk i o nn none b (k0 :: ks') a).kids := by simp [LTr.kids]
        have hkt : kidT (erT t) 0 = erT k0 := by rw [hte]; rfl
        have hkl2 : (erT t).kids.length = ks'.length + 1 := by rw [hte, er_kids]; simp [LTr.kids]
        rw [hkt, hkl2] at hB
        have hk0o := owns_kid ho hk0m
        have hpk0 := plain_kid hpl hk0m
        have hk0b : (erT k0).binds.length ≤ 1048576 := by
          have := okT_kid hok (er_kid hk0m)
          cases hek : erT k0 with
          | mk o' n' b' k' a' => rw [hek] at this; exact this.1
        cases k0 with
        | mk j op2 n2 nb2 b2 ks2 a2 =>
        obtain rfl : nb2 = none := hpk0.1
        have hj : ou j = some (.cells (lC (.mk j op2 n2 none b2 ks2 a2))) := owns_node hk0o
        simp only [lC, bC] at hj
        have hB : B = decide (rule = 1 ∧ o = 3 ∧ op2 = 2 ∧ ((b2.length : Int) = ((ks'.length + 1 : Nat) : Int) - 1)) := hB
        have hk0b : b2.length ≤ 1048576 := hk0b
        by_cases h2 : op2 = 2
        · refine ACode.drawX tabOk 41 [(2, .one (.lit (.bool true))), (7, .one (int o)), (8, .one (.lit (.bool true))), (14, .one (.sl 1 (kC (.mk j op2 n2 none b2 ks2 a2 :: ks')))), (15, .one (.box [.ptr (.o j) 0])), (19, .one (int op2)), (20, .one (.lit (.bool true))), (26, .one (.sl 1 (kC (.mk j op2 n2 none b2 ks2 a2 :: ks')))), (27, .one (.box [.ptr (.o j) 0])), (31, .one (.sl 1 (b2.map cI))), (36, .one (.sl 1 (kC (.mk j op2 n2 none b2 ks2 a2 :: ks')))), (38, .one (int (((kC (.mk j op2 n2 none b2 ks2 a2 :: ks')).length : Int) - 1)))] follows (by kernel_rfl) rfl rfl rfl rfl ?_ ?_
          · refine .step rfl (HStep.litB tabOk rfl (by simp [hr1])) ?_
            refine .step rfl (HStep.guarded rfl rfl rfl (AStep.loadOwn tabOk rfl rfl rfl rfl rfl hi rfl)) ?_
            refine .step rfl (HStep.litB tabOk rfl (by simp [h3])) ?_
            refine .step rfl (HStep.guarded rfl rfl rfl (AStep.loadOwn tabOk rfl rfl rfl rfl rfl hi rfl)) ?_
            refine .step rfl (HStep.guarded rfl rfl rfl (AStep.indexAddr tabOk rfl rfl rfl rfl rfl rfl (.inl rfl) rfl (by decide) rfl)) ?_
            refine .step rfl (HStep.guarded rfl rfl rfl (AStep.loadOwn tabOk rfl rfl rfl rfl rfl hj rfl)) ?_
            refine .step rfl (HStep.litB tabOk rfl (by simp [h2])) ?_
            refine .step rfl (HStep.guarded rfl rfl rfl (AStep.loadOwn tabOk rfl rfl rfl rfl rfl hi rfl)) ?_
            refine .step rfl (HStep.guarded rfl rfl rfl (AStep.indexAddr tabOk rfl rfl rfl rfl rfl rfl (.inl rfl) rfl (by decide) rfl)) ?_
            refine .step rfl (HStep.guarded rfl rfl rfl (AStep.loadOwn tabOk rfl rfl rfl rfl rfl hj rfl)) ?_
            refine .step rfl (HStep.guarded rfl rfl rfl (AStep.loadOwn tabOk rfl rfl rfl rfl rfl hi rfl)) ?_
            exact .step rfl (HStep.guarded rfl rfl rfl (AStep.arith rfl rfl rfl (.inr (.inl ⟨rfl, rfl⟩)) (inRange_i64 (by rw [kC_len]; have : (0 : Int) ≤ ((LTr.mk j op2 n2 none b2 ks2 a2 :: ks').length : Int) := Int.natCast_nonneg _; omega) (by rw [kC_len]; omega)))) .nil
          refine zA ?_
          refine cInv ⟨(), id, trivial, LessR.of rfl (FrSub.cons rfl (.ofEq ?_) (FrSub.cons rfl (.ofEq rfl) (FrSub.cons rfl (.ofEq rfl) (FrSub.consP rfl (.ofEq rfl) (by simp [hW]) .nil)))) (by simp [hW1]) (by repeat' first | exact LoSub.nil | refine zlc ?_ | refine zld ?_ ?_ | rfl) rfl rfl hou⟩
          simp only [FV.ren, AC.ren]
          congr 3
          rw [hB, Bool.eq_iff_iff]
          simp [kC_len, hr1, h3, h2]
        · refine ACode.drawX tabOk 41 [(2, .one (.lit (.bool true))), (7, .one (int o)), (8, .one (.lit (.bool true))), (14, .one (.sl 1 (kC (.mk j op2 n2 none b2 ks2 a2 :: ks')))), (15, .one (.box [.ptr (.o j) 0])), (19, .one (int op2)), (20, .one (.lit (.bool false)))] follows (by kernel_rfl) rfl rfl rfl rfl ?_ ?_
          · refine .step rfl (HStep.litB tabOk rfl (by simp [hr1])) ?_
            refine .step rfl (HStep.guarded rfl rfl rfl (AStep.loadOwn tabOk rfl rfl rfl rfl rfl hi rfl)) ?_
            refine .step rfl (HStep.litB tabOk rfl (by simp [h3])) ?_
            refine .step rfl (HStep.guarded rfl rfl rfl (AStep.loadOwn tabOk rfl rfl rfl rfl rfl hi rfl)) ?_
            refine .step rfl (HStep.guarded rfl rfl rfl (AStep.indexAddr tabOk rfl rfl rfl rfl rfl rfl (.inl rfl) rfl (by decide) rfl)) ?_
            refine .step rfl (HStep.guarded rfl rfl rfl (AStep.loadOwn tabOk rfl rfl rfl rfl rfl hj rfl)) ?_
            exact .step rfl (HStep.litB tabOk rfl (by simp [h2])) .nil
          refine zA ?_
          refine cInv ⟨(), id, trivial, LessR.of rfl (FrSub.cons rfl (.ofEq ?_) (FrSub.cons rfl (.ofEq rfl) (FrSub.cons rfl (.ofEq rfl) (FrSub.consP rfl (.ofEq rfl) (by simp [hW]) .nil)))) (by simp [hW1]) (by repeat' first | exact LoSub.nil | refine zlc ?_ | refine zld ?_ ?_ | rfl) rfl rfl hou⟩
          simp only [FV.ren, AC.ren]
          congr 3
          rw [hB]; simp [h2]
      · refine ACode.drawX tabOk 41 [(2, .one (.lit (.bool true))), (7, .one (int o)), (8, .one (.lit (.bool false)))] follows (by kernel_rfl) rfl rfl rfl rfl ?_ ?_
        · refine .step rfl (HStep.litB tabOk rfl (by simp [hr1])) ?_
          refine .step rfl (HStep.guarded rfl rfl rfl (AStep.loadOwn tabOk rfl rfl rfl rfl rfl hi rfl)) ?_
          exact .step rfl (HStep.litB tabOk rfl (by simp [h3])) .nil
        refine zA ?_
        refine cInv ⟨(), id, trivial, LessR.of rfl (FrSub.cons rfl (.ofEq ?_) (FrSub.cons rfl (.ofEq rfl) (FrSub.cons rfl (.ofEq rfl) (FrSub.consP rfl (.ofEq rfl) (by simp [hW]) .nil)))) (by simp [hW1]) (by repeat' first | exact LoSub.nil | refine zlc ?_ | refine zld ?_ ?_ | rfl) rfl rfl hou⟩
        simp only [FV.ren, AC.ren]
        congr 3
        rw [hB]; simp [h3]
    · refine ACode.drawX tabOk 41 [(2, .one (.lit (.bool false)))] follows (by kernel_rfl) rfl rfl rfl rfl ?_ ?_
      · exact .step rfl (HStep.litB tabOk rfl (by simp [hr1])) .nil
      refine zA ?_
      refine cInv ⟨(), id, trivial, LessR.of rfl (FrSub.cons rfl (.ofEq ?_) (FrSub.cons rfl (.ofEq rfl) (FrSub.cons rfl (.ofEq rfl) (FrSub.consP rfl (.ofEq rfl) (by simp [hW]) .nil)))) (by simp [hW1]) (by repeat' first | exact LoSub.nil | refine zlc ?_ | refine zld ?_ ?_ | rfl) rfl rfl hou⟩
      simp only [FV.ren, AC.ren]
      congr 3
      rw [hB]; simp [hr1]
  refine ACode.condS rfl (fun hb => ?_) (fun hb => ?_)
  · rw [hb] at hB
    have hB := of_decide_eq_true hB.symm
    rw [if_pos hB] at hX
    obtain ⟨hr1, h3, h2, h4⟩ := hB
    obtain ⟨k0, ks', rfl⟩ : ∃ k0 ks', ks = k0 :: ks' := by
      have := (shp_app (o := o) (n := nn) (b := b) (k := erTs ks) (a := a.map LAlt.er) hsh h3).1
      cases ks with
      | nil => simp [erTs] at this
      | cons k0 ks' => exact ⟨k0, ks', rfl⟩
    have hk0m : k0 ∈ (LTr.mk i o nn none b (k0 :: ks') a).kids := by simp [LTr.kids]
    have hkt : kidT (erT t) 0 = erT k0 := by rw [hte]; rfl
    have hkl2 : (erT t).kids = erT k0 :: ks'.map erT := by rw [hte, er_kids]; rfl
    rw [hkt] at h2 h4 hX
    rw [hkl2] at h4 hX
    have hk0o := owns_kid ho hk0m
    have hpk0 := plain_kid hpl hk0m
    have hk0s := allT_kid hsh (er_kid hk0m)
    cases k0 with
    | mk j op2 n2 nb2 b2 ks2 a2 =>
    obtain rfl : nb2 = none := hpk0.1
    obtain rfl : op2 = 2 := h2
    obtain ⟨body, rfl⟩ : ∃ body, ks2 = [body] := by
      have := (shp_lam (o := 2) (n := n2) (b := b2) (k := erTs ks2) (a := a2.map LAlt.er) hk0s rfl).1
      rw [erTs_eq, List.length_map] at this
      exact List.length_eq_one_iff.1 this
    have hj : ou j = some (.cells (lC (.mk j 2 n2 none b2 [body] a2))) := owns_node hk0o
    simp only [lC, bC] at hj
    have hbm : body ∈ (LTr.mk j 2 n2 none b2 [body] a2).kids := by simp [LTr.kids]
    have h4 : b2.length = ks'.length := by
      have h5 : ((b2.length : Nat) : Int) = (((erT (.mk j 2 n2 none b2 [body] a2) :: ks'.map erT).length : Nat) : Int) - 1 := h4
      simp at h5; omega
    have hX : X = some (letsT b2 (ks'.map erT) (erT body)) := hX
    have hkl' : ks'.length ≤ 1048576 := by simp at hkl; omega
    refine zA ?_
    refine ACode.drawC tabOk 26 [25] [(3, .one (.sl 1 (kC (.mk j 2 n2 none b2 [body] a2 :: ks')))), (4, .one (.box [.ptr (.o j) 0])), (8, .one (.sl 1 (b2.map cI))), (12, .one (.sl 1 (kC (.mk j 2 n2 none b2 [body] a2 :: ks')))), (13, .one (.sl 1 (kC ks'))), (17, .one (.sl 1 (kC (.mk j 2 n2 none b2 [body] a2 :: ks')))), (18, .one (.box [.ptr (.o j) 0])), (22, .one (.sl 1 (kC [body]))), (23, .one (.box [.ptr (.o body.id) 0]))] (fun vs σ => match vs with
        | [] => σ = ⟨1, [(0, .cells [int rule, int at', int n])], ou⟩
        | [r] => ∃ (u : LTr) (ow : Outer), r = .one (.ptr (.o u.id) 0) ∧ erT u = letsT b2 (ks'.map erT) (erT body) ∧ Der ou ow (objss ks' ++ objs body) u ∧ σ = ⟨1, [(0, .cells [int rule, int at', int n])], ow⟩
        | _ => False) follows (by kernel_rfl) rfl rfl (by decide) (by kernel_rfl) (by kernel_rfl) rfl rfl ?_ ?_ (by decide) ?_ ?_
    · rintro vs σ hG
      match vs, hG with
      | [], hG => subst hG; rfl
      | [r], hG => obtain ⟨u, ow, _, _, _, rfl⟩ := hG; rfl
    · rintro vs σ hG
      have hv' : σ.ou j = some (.cells [int 2, int n2, .sl 1 (b2.map cI), .sl 1 (kC [body]), .sl 2 (a2.map lAlt)]) ∧ σ.ou i = some (.cells [int o, int nn, .sl 1 (b.map cI), .sl 1 (kC (.mk j 2 n2 none b2 [body] a2 :: ks')), .sl 2 (a.map lAlt)]) := by
        match vs, hG with
        | [], hG => subst hG; exact ⟨hj, hi⟩
        | [r], hG => obtain ⟨u, ow, _, _, hD, rfl⟩ := hG; exact ⟨hD.old _ _ hj, hD.old _ _ hi⟩
      refine .step rfl (HStep.plain rfl (AStep.loadOwn tabOk rfl rfl rfl rfl rfl hv'.2 rfl)) ?_
      refine .step rfl (HStep.plain rfl (AStep.indexAddr tabOk rfl rfl rfl rfl rfl rfl (.inl rfl) rfl (by decide) rfl)) ?_
      refine .step rfl (HStep.plain rfl (AStep.loadOwn tabOk rfl rfl rfl rfl rfl hv'.1 rfl)) ?_
      refine .step rfl (HStep.plain rfl (AStep.loadOwn tabOk rfl rfl rfl rfl rfl hv'.2 rfl)) ?_
      refine .step rfl (HStep.plain rfl (AStep.sliceFrom (b := 1) (es := kC (.mk j 2 n2 none b2 [body] a2 :: ks')) tabOk rfl rfl rfl rfl rfl rfl rfl (by rw [kC_len]; simp))) ?_
      refine .step rfl (HStep.plain rfl (AStep.loadOwn tabOk rfl rfl rfl rfl rfl hv'.2 rfl)) ?_
      refine .step rfl (HStep.plain rfl (AStep.indexAddr tabOk rfl rfl rfl rfl rfl rfl (.inl rfl) rfl (by decide) rfl)) ?_
      refine .step rfl (HStep.plain rfl (AStep.loadOwn tabOk rfl rfl rfl rfl rfl hv'.1 rfl)) ?_
      exact .step rfl (HStep.plain rfl (AStep.indexAddr tabOk rfl rfl rfl rfl rfl rfl (.inl rfl) rfl (by decide) rfl)) .nil
    · rintro vs σ hG p oo hp1 hp2
      match vs, hG with
      | [], hG =>
        subst hG
        cases hp1
        cases hp2
        refine ⟨rfl, rfl, .inr ⟨rfl, AStepR.call hΓ rfl rfl rfl rfl (by exact ⟨by simp, by simp, trivial, trivial⟩) hou (lets_ok hΓ b2 ks' body h4 hkl' ou) fun r ow hq _ _ => ?_⟩⟩
        obtain ⟨u, rfl, he, hD⟩ := hq
        exact ⟨u, ow, rfl, he, hD, rfl⟩
      | [r], hG => cases hp1
    rintro vs σ hlen2 hG
    match vs, hlen2, hG with
    | [r], _, hG =>
    obtain ⟨u, ow, rfl, he, hD, rfl⟩ := hG
    refine zM ?_
    refine AFn.fin' rfl (WkF.refl _) (by simp) hD.ok ?_
    rw [hX, hte]
    refine ResD.w ho hn ⟨u, rfl, he, hD.mono fun p hp => ?_⟩
    rcases List.mem_append.1 hp with hp | hp
    · rw [objss_eq] at hp
      obtain ⟨s2, hs2, hp2⟩ := List.mem_flatMap.1 hp
      exact tail_kid (by simp [LTr.kids, hs2]) hp2
    · exact tail_kid2 hk0m hbm hp
  rw [hb] at hB
  have hB := of_decide_eq_false hB.symm
  rw [if_neg hB] at hX
  by_cases h4 : o = 4
  · subst h4
    by_cases h10 : rule = 10
    · subst h10
      rw [if_neg (by simp), if_neg (by simp), if_neg (by simp), if_neg (by simp), if_neg (by simp), if_pos rfl] at hX
      have hN := hN rfl
      rw [← hte, ← hX] at hN
      repeat' first | refine zN ?_ | ((with_reducible refine oj ?_); first | refine zix ?_ | refine zow rfl rfl hi ?_)
      refine AOps.call1 hΓ rfl rfl rfl rfl rfl rfl rfl (by exact ⟨hW, trivial, trivial, trivial⟩) hou hN fun r ow hq hids how => ?_
      refine zA ?_
      exact AFn.fin' rfl (WkF.refl _) hids how hq
    · obtain ⟨q, y0, y1, hb2, hk2, ha2⟩ := shp_let (o := 4) (n := nn) (b := b) (k := erTs ks) (a := a.map LAlt.er) hsh rfl
      obtain ⟨v, d, rfl⟩ : ∃ v d, ks = [v, d] := by
        rw [erTs_eq] at hk2
        match ks, hk2 with
        | [v, d], _ => exact ⟨v, d, rfl⟩
      obtain rfl : a = [] := by simpa using ha2
      subst hb2
      rw [if_pos ⟨rfl, h10⟩] at hX
      have hL := letRule_ok hΓ rule i nn q v d hpl hok hsh hc ou ho hn
      rw [← hte, ← hX] at hL
      repeat' first | refine zN ?_ | ((with_reducible refine oj ?_); first | refine zix ?_ | refine zow rfl rfl hi ?_)
      refine ACode.condS rfl (fun hb10 => ?_) (fun hb10 => absurd hb10 (by simp [h10]))
      refine zA ?_
      refine AOps.call1 hΓ rfl rfl rfl rfl rfl rfl rfl (by exact ⟨trivial, trivial, trivial⟩) hou hL fun r ow hq hids how => ?_
      refine zA ?_
      exact AFn.fin' rfl (WkF.refl _) hids how hq
  rw [if_neg (fun h => h4 h.1)] at hX
  by_cases hr4 : rule = 4
  · subst hr4
    rw [if_neg (fun h : (4 : Int) = 5 ∧ _ => absurd h.1 (by decide)), if_neg (fun h : (4 : Int) = 6 ∧ _ => absurd h.1 (by decide)), if_neg (fun h : (4 : Int) = 7 ∧ _ => absurd h.1 (by decide)), if_neg (by decide : ¬ (4 : Int) = 10), if_neg (fun h : (4 : Int) = 12 ∧ _ => absurd h.1 (by decide))] at hX
    repeat' first | refine zN ?_ | ((with_reducible refine oj ?_); first | refine zix ?_ | refine zow rfl rfl hi ?_)
    refine AOps.splitS rfl rfl rfl rfl (fun hb4 => absurd (by simpa using hb4) h4) (fun hb4 => ?_)
    repeat' first | refine zN ?_ | ((with_reducible refine oj ?_); first | refine zix ?_ | refine zow rfl rfl hi ?_)
    refine AOps.splitS rfl rfl rfl rfl (fun hb5 => ?_) (fun hb5 => ?_)
    · have h5 : o = 5 := by simpa using hb5
      subst h5
      have hrl := (shp_rec (o := 5) (n := nn) (b := b) (k := erTs ks) (a := a.map LAlt.er) hsh rfl).1
      rw [erTs_eq, List.length_map] at hrl
      have hun := unused_ok hΓ i 5 nn b ks a hok hc (by omega) ou ho
      rw [← hte] at hun
      repeat' first | refine zN ?_ | ((with_reducible refine oj ?_); first | refine zix ?_ | refine zow rfl rfl hi ?_)
      refine AOps.call1 hΓ rfl rfl rfl rfl rfl rfl rfl (by exact ⟨trivial, trivial⟩) hou hun fun r ow hq _ how => ?_
      obtain ⟨rfl, rfl⟩ := hq
      refine zA ?_
      refine ACode.condS rfl (fun hbu => ?_) (fun hbu => ?_)
      · rw [if_pos ⟨rfl, rfl, hbu⟩] at hX
        obtain ⟨s, hs⟩ := get_of_lt (l := ks) (i := b.length) (by omega)
        have hsm := List.mem_of_getElem? hs
        refine zA ?_
        refine ACode.drawX tabOk 11 [(3, .one (.sl 1 (kC ks))), (7, .one (.sl 1 (b.map cI))), (9, .one (.box [.ptr (.o s.id) 0]))] follows (by kernel_rfl) rfl rfl rfl rfl ?_ ?_
        · refine .step rfl (HStep.plain rfl (AStep.loadOwn tabOk rfl rfl rfl rfl rfl hi rfl)) ?_
          refine .step rfl (HStep.plain rfl (AStep.loadOwn tabOk rfl rfl rfl rfl rfl hi rfl)) ?_
          exact .step rfl (HStep.plain rfl (AStep.indexAddr tabOk rfl rfl rfl rfl rfl rfl (.inl rfl) rfl (by simp) (by simpa using kC_get hs))) .nil
        refine zA ?_
        refine AFn.fin' rfl (WkF.refl _) (by simp) hou ?_
        have hke : kidT (erT t) (erT t).binds.length = erT s := by
          rw [hte]
          unfold kidT
          rw [er_kids, List.getD_eq_getElem?_getD, List.getElem?_map]
          show (ks[b.length]?.map erT).getD default = erT s
          rw [hs]; rfl
        rw [hke] at hX
        rw [hX, hte]
        exact ResD.w ho hn ⟨s, rfl, rfl, Der.refl (fun p hp => tail_kid hsm hp) hou⟩
      · rw [if_neg (by rw [hbu]; simp)] at hX
        repeat' first | refine zN ?_ | ((with_reducible refine oj ?_); first | refine zix ?_ | refine zow rfl rfl hi ?_)
        exact AFn.fin' rfl (WkF.refl _) (by simp) hou (hnil hX)
    · have h5 : ¬ o = 5 := by simpa using hb5
      rw [if_neg (fun h => h5 h.2.1)] at hX
      repeat' first | refine zN ?_ | ((with_reducible refine oj ?_); first | refine zix ?_ | refine zow rfl rfl hi ?_)
      exact AFn.fin' rfl (WkF.refl _) (by simp) hou (hnil hX)
  rw [if_neg (fun h => hr4 h.1)] at hX
  by_cases hr5 : rule = 5
  · subst hr5
    rw [if_neg (fun h : (5 : Int) = 6 ∧ _ => absurd h.1 (by decide)), if_neg (fun h : (5 : Int) = 7 ∧ _ => absurd h.1 (by decide)), if_neg (by decide : ¬ (5 : Int) = 10), if_neg (fun h : (5 : Int) = 12 ∧ _ => absurd h.1 (by decide))] at hX
    repeat' first | refine zN ?_ | ((with_reducible refine oj ?_); first | refine zix ?_ | refine zow rfl rfl hi ?_)
    refine AOps.splitS rfl rfl rfl rfl (fun hb4 => absurd (by simpa using hb4) h4) (fun hb4 => ?_)
    repeat' first | refine zN ?_ | ((with_reducible refine oj ?_); first | refine zix ?_ | refine zow rfl rfl hi ?_)
    refine AOps.splitS rfl rfl rfl rfl (fun hb5 => ?_) (fun hb5 => ?_)
    · have h5 : o = 7 := by simpa using hb5
      subst h5
      have hrl := (shp_case (o := 7) (n := nn) (b := b) (k := erTs ks) (a := a.map LAlt.er) hsh rfl).1
      rw [erTs_eq, List.length_map, List.length_map] at hrl
      obtain ⟨con, rs, rfl⟩ : ∃ con rs, ks = con :: rs := by
        cases ks with
        | nil => simp at hrl
        | cons c r => exact ⟨c, r, rfl⟩
      have hrm : con ∈ (LTr.mk i 7 nn none b (con :: rs) a).kids := by simp [LTr.kids]
      have hpc := plain_kid hpl hrm
      have hch := chosen_ok hΓ i 7 nn b con rs a hpc hpl.2.1 (by simpa using hrl) hok hsh ou ho
      have hro := owns_kid ho hrm
      have hcop : (kidT (erT t) 0).op = (erT con).op := by rw [hte]; rfl
      rw [hcop] at hX
      cases con with
      | mk j op2 n2 nb2 b2 ks2 a2 =>
      have hj : ou j = some (.cells (lC (.mk j op2 n2 nb2 b2 ks2 a2))) := owns_node hro
      simp only [lC, bC] at hj
      repeat' first | refine zN ?_ | ((with_reducible refine oj ?_); first | refine zix ?_ | refine zow rfl rfl hi ?_ | refine zow rfl rfl hj ?_)
      refine ACode.condS rfl (fun hb6 => ?_) (fun hb6 => ?_)
      · have h6 : op2 = 6 := by simpa using hb6
        rw [if_pos ⟨rfl, rfl, h6⟩] at hX
        rw [← hte, ← hX] at hch
        refine zA ?_
        refine AOps.call1 hΓ rfl rfl rfl rfl rfl rfl rfl (by exact ⟨trivial, trivial⟩) hou hch fun r ow hq hids how => ?_
        refine zA ?_
        exact AFn.fin' rfl (WkF.refl _) hids how (by rw [hte] at hq ⊢; exact ResD.w ho hn hq)
      · have h6 : ¬ op2 = 6 := by simpa using hb6
        rw [if_neg (fun h => h6 h.2.2)] at hX
        repeat' first | refine zN ?_ | ((with_reducible refine oj ?_); first | refine zix ?_ | refine zow rfl rfl hi ?_)
        exact AFn.fin' rfl (WkF.refl _) (by simp) hou (hnil hX)
    · have h5 : ¬ o = 7 := by simpa using hb5
      rw [if_neg (fun h => h5 h.2.1)] at hX
      repeat' first | refine zN ?_ | ((with_reducible refine oj ?_); first | refine zix ?_ | refine zow rfl rfl hi ?_)
      exact AFn.fin' rfl (WkF.refl _) (by simp) hou (hnil hX)
  rw [if_neg (fun h => hr5 h.1)] at hX
  by_cases hr6 : rule = 6
  · subst hr6
    rw [if_neg (fun h : (6 : Int) = 7 ∧ _ => absurd h.1 (by decide)), if_neg (by decide : ¬ (6 : Int) = 10), if_neg (fun h : (6 : Int) = 12 ∧ _ => absurd h.1 (by decide))] at hX
    have hkl3 : (erT t).kids.length = ks.length := by rw [hte, er_kids]; simp [LTr.kids]
    rw [hkl3] at hX
    repeat' first | refine zN ?_ | ((with_reducible refine oj ?_); first | refine zix ?_ | refine zow rfl rfl hi ?_)
    refine AOps.splitS rfl rfl rfl rfl (fun hb4 => absurd (by simpa using hb4) h4) (fun hb4 => ?_)
    repeat' first | refine zN ?_ | ((with_reducible refine oj ?_); first | refine zix ?_ | refine zow rfl rfl hi ?_)
    refine AOps.splitS rfl rfl rfl rfl (fun hb5 => ?_) (fun hb5 => ?_)
    · have h5 : o = 8 := by simpa using hb5
      subst h5
      repeat' first | refine zN ?_ | ((with_reducible refine oj ?_); first | refine zix ?_ | refine zow rfl rfl hi ?_)
      refine ACode.condS rfl (fun hb6 => ?_) (fun hb6 => ?_)
      · have h6 : ks.length = 2 := by simp [kC_len] at hb6; omega
        rw [if_pos ⟨rfl, rfl, h6⟩] at hX
        obtain ⟨x, y, rfl⟩ : ∃ x y, ks = [x, y] := by
          match ks, h6 with
          | [x, y], _ => exact ⟨x, y, rfl⟩
        have har := arith_ok hΓ i 8 nn b x y a (hrg x (by simp)) (hrg y (by simp)) ou ho
        rw [← hte, ← hX] at har
        refine zA ?_
        refine AOps.call1 hΓ rfl rfl rfl rfl rfl rfl rfl (by exact ⟨trivial, trivial⟩) hou har fun r ow hq hids how => ?_
        refine zA ?_
        exact AFn.fin' rfl (WkF.refl _) hids how (by rw [hte] at hq ⊢; exact ResD.w ho hn hq)
      · have h6 : ¬ ks.length = 2 := by simp [kC_len] at hb6; omega
        rw [if_neg (fun h => h6 h.2.2)] at hX
        repeat' first | refine zN ?_ | ((with_reducible refine oj ?_); first | refine zix ?_ | refine zow rfl rfl hi ?_)
        exact AFn.fin' rfl (WkF.refl _) (by simp) hou (hnil hX)
    · have h5 : ¬ o = 8 := by simpa using hb5
      rw [if_neg (fun h => h5 h.2.1)] at hX
      repeat' first | refine zN ?_ | ((with_reducible refine oj ?_); first | refine zix ?_ | refine zow rfl rfl hi ?_)
      exact AFn.fin' rfl (WkF.refl _) (by simp) hou (hnil hX)
  rw [if_neg (fun h => hr6 h.1)] at hX
  by_cases hr7 : rule = 7
  · subst hr7
    rw [if_neg (by decide : ¬ (7 : Int) = 10), if_neg (fun h : (7 : Int) = 12 ∧ _ => absurd h.1 (by decide))] at hX
    repeat' first | refine zN ?_ | ((with_reducible refine oj ?_); first | refine zix ?_ | refine zow rfl rfl hi ?_)
    refine AOps.splitS rfl rfl rfl rfl (fun hb4 => absurd (by simpa using hb4) h4) (fun hb4 => ?_)
    repeat' first | refine zN ?_ | ((with_reducible refine oj ?_); first | refine zix ?_ | refine zow rfl rfl hi ?_)
    refine ACode.condS rfl (fun hb5 => ?_) (fun hb5 => ?_)
    · have h5 : o = 10 := by simpa using hb5
      subst h5
      have hrl := shp_get (o := 10) (n := nn) (b := b) (k := erTs ks) (a := a.map LAlt.er) hsh rfl
      rw [erTs_eq, List.length_map] at hrl
      obtain ⟨row, rfl⟩ := List.length_eq_one_iff.1 hrl
      rw [if_pos ⟨rfl, rfl⟩] at hX
      have hfi := field_ok hΓ i 10 nn b row [] a (plain_kid hpl (by simp [LTr.kids])) hok hsh ou ho
      rw [← hte, ← hX] at hfi
      refine zA ?_
      refine AOps.call1 hΓ rfl rfl rfl rfl rfl rfl rfl (by exact ⟨trivial, trivial⟩) hou hfi fun r ow hq hids how => ?_
      refine zA ?_
      exact AFn.fin' rfl (WkF.refl _) hids how (by rw [hte] at hq ⊢; exact ResD.w ho hn hq)
    · have h5 : ¬ o = 10 := by simpa using hb5
      rw [if_neg (fun h => h5 h.2)] at hX
      repeat' first | refine zN ?_ | ((with_reducible refine oj ?_); first | refine zix ?_ | refine zow rfl rfl hi ?_)
      exact AFn.fin' rfl (WkF.refl _) (by simp) hou (hnil hX)
  rw [if_neg (fun h => hr7 h.1)] at hX
  by_cases hr10 : rule = 10
  · subst hr10
    rw [if_pos rfl] at hX
    have hN := hN rfl
    rw [← hte, ← hX] at hN
    repeat' first | refine zN ?_ | ((with_reducible refine oj ?_); first | refine zix ?_ | refine zow rfl rfl hi ?_)
    refine AOps.splitS rfl rfl rfl rfl (fun hb4 => absurd (by simpa using hb4) h4) (fun hb4 => ?_)
    repeat' first | refine zN ?_ | ((with_reducible refine oj ?_); first | refine zix ?_ | refine zow rfl rfl hi ?_)
    refine AOps.call1 hΓ rfl rfl rfl rfl rfl rfl rfl (by exact ⟨hW, trivial, trivial, trivial⟩) hou hN fun r ow hq hids how => ?_
    refine zA ?_
    exact AFn.fin' rfl (WkF.refl _) hids how hq
  rw [if_neg hr10] at hX
  by_cases hr12 : rule = 12
  · subst hr12
    repeat' first | refine zN ?_ | ((with_reducible refine oj ?_); first | refine zix ?_ | refine zow rfl rfl hi ?_)
    refine AOps.splitS rfl rfl rfl rfl (fun hb4 => absurd (by simpa using hb4) h4) (fun hb4 => ?_)
    repeat' first | refine zN ?_ | ((with_reducible refine oj ?_); first | refine zix ?_ | refine zow rfl rfl hi ?_)
    refine ACode.condS rfl (fun hb5 => ?_) (fun hb5 => ?_)
    · have h5 : o = 0 := by simpa using hb5
      rw [if_pos ⟨rfl, h5⟩] at hX
      have hU := hU rfl h5
      rw [← hte, ← hX] at hU
      refine zA ?_
      refine AOps.call1 hΓ rfl rfl rfl rfl rfl rfl rfl (by exact ⟨hW, trivial, trivial⟩) hou hU fun r ow hq hids how => ?_
      refine zA ?_
      exact AFn.fin' rfl (WkF.refl _) hids how hq
    · have h5 : ¬ o = 0 := by simpa using hb5
      rw [if_neg (fun h => h5 h.2)] at hX
      refine zA ?_
      exact AFn.fin' rfl (WkF.refl _) (by simp) hou (hnil hX)
  rw [if_neg (fun h => hr12 h.1)] at hX
  repeat' first | refine zN ?_ | ((with_reducible refine oj ?_); first | refine zix ?_ | refine zow rfl rfl hi ?_) | (with_reducible refine oj ?_; refine AOps.splitS rfl rfl rfl rfl (fun hb => ?_) (fun hb => ?_)) | (with_reducible refine ok ?_; first | refine ACode.condS rfl (fun hb => ?_) (fun hb => ?_) | refine ACode.cond rfl (fun hb => ?_) (fun hb => ?_))
  all_goals first
    | (exfalso; simp at *; omega)
    | exact AFn.fin' rfl (WkF.refl _) (by simp) hou (hnil hX)
end Go.Proofs.YtgdionbeeodaaaaDoor
namespace Go.Proofs.YtgdionbeeodaaaaDoor
open Go Go.Abs Go.CoreX
set_option maxRecDepth 10000
variable {Γ : List (Nat × List AC)}
def OpenQ (e : List Ex) (ou : Outer) (r : FV) (ou' : Outer) : Prop := ∃ (lts : List LTr) (root : LTr), r = .one (.box [.sl 1 (kC lts), .ptr (.o root.id) 0]) ∧ LinkL e lts plainB ∧ lts[e.length - 1]? = some root ∧ NewO ou ou' (lts.flatMap ownO)
abbrev wO (lts : List LTr) : AObj := .cells [.gs 1 (kC lts) (.l 1), .lit (.pointer none)]
set_option maxHeartbeats 2000000 in
theorem open_ok (hΓ : ∀ g cs, (g, cs) ∈ Γ → idsL isO cs) (e : List Ex) (he : okE e) (hin : kidsIn e) (hne : e ≠ []) (ou : Outer) : AFn Tryd.prog Γ 46 [.one (.sl 5 (e.map cEx))] ou (OpenQ e ou) := by
  have hel := he.l
  refine AFn.walk 99 tabOk Tryd.func46 rfl (by kernel_rfl) rfl rfl fun hou => ?_
  refine zA ?_
  refine ACode.grow 0 0 70 1 rfl rfl ?_
  refine ACode.loopR hΓ (α := Nat × List LTr × Outer) (fun c => [(15, .one (int c.1)), (14, .one (int (e.map cEx).length)), (13, .one (.sl 5 (e.map cEx))), (3, .one (.ptr (.l 0) 0)), (0, .one (.sl 5 (e.map cEx)))])
    (fun c => ⟨2, [(1, .tok 70 1 c.1), (0, wO c.2.1)], c.2.2⟩) (fun m c => c.1 ≤ e.length ∧ (LinkL (e.take c.1) c.2.1 plainB ∧ NewO ou c.2.2 (c.2.1.flatMap ownO)) ∧ m = e.length - c.1) (a0 := (0, [], ou)) (ρ := id) ⟨by omega, ⟨LinkL.nil, .nil hou⟩, rfl⟩
    (LessR.of rfl (by (repeat' first | exact FrSub.nil | refine zfc ?_ | refine zfo ?_ | refine zfp ?_)) (by simp) (by repeat' first | exact LoSub.nil | refine zlc ?_ | refine zld ?_ ?_ | rfl) rfl rfl hou) fun m c hc => ?_
  obtain ⟨j, lts, ov⟩ := c
  obtain ⟨hjl, ⟨hL, hN⟩, rfl⟩ := hc
  dsimp only at hjl hL hN
  have hov := hN.ok
  refine zA ?_
  refine ACode.cond rfl (fun hb2 => ?_) (fun hb2 => ?_)
  · have hlt : j < e.length := by simpa using hb2
    obtain ⟨x, hx⟩ := get_of_lt hlt
    have hxo := he.x x (List.mem_of_getElem? hx)
    have hxk := hxo.k
    have hxa := hxo.a
    have hxb := hxo.b
    have hxin := hin j x hx
    have hgl : lts.length = j := by rw [hL.len]; simp; omega
    have hkcl : (kC lts).length = j := by rw [kC_len, hgl]
    refine zA ?_
    refine AOps.step1 rfl rfl rfl (AStep.indexAddr tabOk rfl rfl rfl rfl rfl rfl (.inl rfl) rfl (by omega) (map_get hx)) ?_
    refine zA ?_
    refine ACode.drawC tabOk 9 [6, 7, 8] [] (fun vs σ => match vs with
        | [] => σ = ⟨3, [(2, .cells (cEx x)), (2, .cells (ti53.zero.map .lit)), (1, .tok 70 1 j), (0, wO lts)], ov⟩
        | [a] => a = .one (.sl 1 (x.binds.map cI)) ∧ σ = ⟨4, (3, .dead) :: [(2, .cells (cEx x)), (2, .cells (ti53.zero.map .lit)), (1, .tok 70 1 j), (0, wO lts)], ov⟩
        | [a, b] => a = .one (.sl 1 (x.binds.map cI)) ∧ b = .agg [int x.op, int x.n, .sl 1 (x.binds.map cI), .lit (.slice none 0 0), .lit (.slice none 0 0)] ∧ σ = ⟨4, (3, .dead) :: [(2, .cells (cEx x)), (2, .cells (ti53.zero.map .lit)), (1, .tok 70 1 j), (0, wO lts)], ov⟩
        | [a, b, c] => a = .one (.sl 1 (x.binds.map cI)) ∧ b = .agg [int x.op, int x.n, .sl 1 (x.binds.map cI), .lit (.slice none 0 0), .lit (.slice none 0 0)] ∧ c = .one (.ptr (.l 4) 0) ∧ σ = ⟨5, (4, .cells [int x.op, int x.n, .sl 1 (x.binds.map cI), .lit (.slice none 0 0), .lit (.slice none 0 0)]) :: (3, .dead) :: [(2, .cells (cEx x)), (2, .cells (ti53.zero.map .lit)), (1, .tok 70 1 j), (0, wO lts)], ov⟩
        | _ => False) follows (by kernel_rfl) rfl rfl (by decide) (by kernel_rfl) (by kernel_rfl) rfl rfl ?_ (fun _ _ _ => .nil) (by decide) ?_ ?_
    · rintro vs σ hG
      match vs, hG with
      | [], hG => subst hG; rfl
      | [a], hG => obtain ⟨_, rfl⟩ := hG; rfl
      | [a, b], hG => obtain ⟨_, _, rfl⟩ := hG; rfl
      | [a, b, c], hG => obtain ⟨_, _, _, rfl⟩ := hG; rfl
    · rintro vs σ hG i o hp1 hp2
      match vs, hG with
      | [], hG =>
        subst hG
        cases hp1
        cases hp2
        refine ⟨rfl, rfl, .inr ⟨rfl, ?_⟩⟩
        intro F w C tmps hI hF next Q hk
        refine AStepR.appCopyS (news := x.binds.map cI) tabOk rfl rfl rfl rfl rfl rfl rfl (by simp; show _ * 8 ≤ _; omega) (by simp; omega) F w C tmps hI hF next Q fun u w' C' v σ' hq => hk u w' C' v σ' ?_
        obtain ⟨rfl, rfl⟩ := hq
        exact ⟨rfl, rfl⟩
      | [a], hG =>
        obtain ⟨rfl, rfl⟩ := hG
        cases hp1
        cases hp2
        exact ⟨rfl, rfl, .inl ⟨_, _, HStep.auto tabOk rfl, rfl, rfl, rfl⟩⟩
      | [a, b], hG =>
        obtain ⟨rfl, rfl, rfl⟩ := hG
        cases hp1
        cases hp2
        exact ⟨rfl, rfl, .inl ⟨_, _, HStep.auto tabOk rfl, rfl, rfl, rfl, rfl⟩⟩
      | [a, b, c], hG => cases hp1
    rintro vs σ hlen hG
    match vs, hlen, hG with
    | [a, b, c], _, hG =>
    obtain ⟨rfl, rfl, rfl, rfl⟩ := hG
    refine zA ?_
    refine ACode.grow 4 3 70 1 rfl rfl ?_
    refine ACode.loopR hΓ (α := Nat) (fun i => [(31, .one (int i)), (30, .one (int (x.kids.map cI).length)), (29, .one (.sl 1 (x.kids.map cI))), (6, .one (.ptr (.l 3) 0)), (5, .one (.ptr (.l 2) 0)), (3, .one (.ptr (.l 0) 0)), (15, .one (int j)), (14, .one (int (e.map cEx).length)), (13, .one (.sl 5 (e.map cEx))), (0, .one (.sl 5 (e.map cEx)))])
      (fun i => ⟨5, [(4, .tok 70 1 i), (3, .cells [int x.op, int x.n, .sl 1 (x.binds.map cI), .gs 1 (kC (kidsL lts (x.kids.take i))) (.l 4), .lit (.slice none 0 0)]), (2, .cells (cEx x)), (1, .tok 70 1 j), (0, wO lts)], ov⟩)
      (fun m i => i ≤ x.kids.length ∧ m = x.kids.length - i) (a0 := 0) (ρ := fun k => if k = 3 then 4 else if k = 4 then 5 else k) ⟨by omega, rfl⟩ (LessR.of rfl (by (repeat' first | exact FrSub.nil | refine zfc ?_ | refine zfo ?_ | refine zfp ?_)) (by simp) ?_ rfl rfl hov) fun m i hi => ?_
    · repeat' first | exact LoSub.nil | refine zlc ?_ | refine zld ?_ ?_ | rfl
      all_goals (simp [AObj.ren, renL, AC.ren, kidsL]; exact ⟨rfl, rfl⟩)
    obtain ⟨hil, rfl⟩ := hi
    refine zA ?_
    refine ACode.cond rfl (fun hb3 => ?_) (fun hb3 => ?_)
    · have hlt2 : i < x.kids.length := by simpa using hb3
      obtain ⟨k, hk⟩ := get_of_lt hlt2
      have hkb := hxin k (List.mem_of_getElem? hk)
      obtain ⟨k', rfl⟩ : ∃ k' : Nat, k = k' := ⟨k.toNat, by omega⟩
      obtain ⟨tk, htk⟩ := get_of_lt (l := lts) (i := k') (by omega)
      have htd : (lts).getD (k' : Int).toNat default = tk := by rw [Int.toNat_natCast, List.getD_eq_getElem?_getD, htk]; rfl
      have hks := kidsL_succ (ts := lts) hk
      rw [htd] at hks
      have hkl : (kC (kidsL lts (x.kids.take i))).length = i := by simp [kC, kidsL]; omega
      refine zA ?_
      refine AOps.step1 rfl rfl rfl (AStep.indexAddr tabOk rfl rfl rfl rfl rfl rfl (.inl rfl) rfl (by omega) (map_get hk)) ?_
      refine zA ?_
      refine ACode.drawXH (va := .one (.gs 1 (kC (kidsL lts (x.kids.take i)) ++ [[AC.ptr (.o tk.id) 0]]) (.l 5))) (σ1 := ((St.mk 5 [(4, .tok 70 1 i), (3, .cells [int x.op, int x.n, .sl 1 (x.binds.map cI), .gs 1 (kC (kidsL lts (x.kids.take i))) (.l 4), .lit (.slice none 0 0)]), (2, .cells (cEx x)), (1, .tok 70 1 j), (0, wO lts)] ov).set (.l 4) .dead).push (.tok 70 1 (kC (kidsL lts (x.kids.take i)) ++ [[AC.ptr (.o tk.id) 0]]).length))
        tabOk 14 13 [(10, .one (.box [.ptr (.o tk.id) 0]))] follows (by kernel_rfl) rfl rfl rfl rfl rfl rfl rfl ?_ ?_ ?_ ?_
      · refine HStep.plain rfl (AStep.append (s := 1) (es := kC (kidsL lts (x.kids.take i))) (news := [[AC.ptr (.o tk.id) 0]]) (ti := ti71) (σ := ⟨5, [(4, .tok 70 1 i), (3, .cells [int x.op, int x.n, .sl 1 (x.binds.map cI), .gs 1 (kC (kidsL lts (x.kids.take i))) (.l 4), .lit (.slice none 0 0)]), (2, .cells (cEx x)), (1, .tok 70 1 j), (0, wO lts)], ov⟩) tabOk rfl rfl rfl rfl rfl rfl (Base.gs' _ 70 1 (kC (kidsL lts (x.kids.take i))) (.l 4) rfl hkl.symm) (.sl _ _) rfl ?_ ?_)
        · rw [hkl]; show (i + 1) * 8 ≤ _; omega
        · rw [hkl]; show i + 1 ≤ _; omega
      · exact .step rfl (HStep.plain rfl (AStep.indexAddr tabOk rfl rfl rfl rfl rfl rfl (.inr ⟨_, rfl⟩) rfl (by omega) (kC_get htk))) .nil
      · exact .step rfl (HStep.plain rfl (AStep.indexAddr tabOk rfl rfl rfl rfl rfl rfl (.inr ⟨_, rfl⟩) rfl (by omega) (kC_get htk))) .nil
      refine zM ?_
      refine cInv ⟨x.kids.length - (i + 1), i + 1, fun k => if k = 4 then 5 else k, by omega, ⟨by omega, rfl⟩, LessR.of rfl (by (repeat' first | exact FrSub.nil | refine zfc ?_ | refine zfo ?_ | refine zfp ?_)) (by simp) ?_ rfl rfl hov⟩
      repeat' first | exact LoSub.nil | refine zlc ?_ | refine zld ?_ ?_ | rfl
      · simp only [AObj.ren, List.length_append, hkl]; rfl
      · rw [hks, kC_snoc]; simp only [AObj.ren, renL, AC.ren]; rw [← kC_snoc, ren_kC]; simp; rfl
    have hlt2 : i = x.kids.length := by simp at hb3; omega
    subst hlt2
    rw [List.take_length]
    refine zA ?_
    refine ACode.grow 3 4 89 2 rfl rfl ?_
    refine ACode.loopR hΓ (α := Nat × List LAlt) (fun c => [(55, .one (int c.1)), (54, .one (int (x.alts.map cAlt).length)), (53, .one (.sl 2 (x.alts.map cAlt))), (6, .one (.ptr (.l 3) 0)), (3, .one (.ptr (.l 0) 0)), (15, .one (int j)), (14, .one (int (e.map cEx).length)), (13, .one (.sl 5 (e.map cEx))), (0, .one (.sl 5 (e.map cEx)))])
      (fun c => ⟨6, [(5, .tok 89 2 c.1), (3, .cells [int x.op, int x.n, .sl 1 (x.binds.map cI), .gs 1 (kC (kidsL lts x.kids)) (.l 4), .gs 2 (c.2.map lAlt) (.l 5)]), (1, .tok 70 1 j), (0, wO lts)], ov⟩)
      (fun m c => c.1 ≤ x.alts.length ∧ (c.2.map LAlt.er = x.alts.take c.1 ∧ ∀ y ∈ c.2, y.nb = none) ∧ m = x.alts.length - c.1) (a0 := (0, [])) (ρ := id) ⟨by omega, ⟨rfl, by simp⟩, rfl⟩ (LessR.of rfl (by (repeat' first | exact FrSub.nil | refine zfc ?_ | refine zfo ?_ | refine zfp ?_)) (by simp) ?_ rfl rfl hov) fun m c hc => ?_
    · repeat' first | exact LoSub.nil | refine zlc ?_ | refine zld ?_ ?_ | rfl
      all_goals (simp [AObj.ren, renL, AC.ren]; exact ⟨rfl, rfl⟩)
    obtain ⟨i, la⟩ := c
    obtain ⟨hil, ⟨hla, hlo⟩, rfl⟩ := hc
    dsimp only at hil hla hlo
    have hll : la.length = i := by have := congrArg List.length hla; simp at this; omega
    have hal : (la.map lAlt).length = i := by simp [hll]
    refine zA ?_
    refine ACode.cond rfl (fun hb3 => ?_) (fun hb3 => ?_)
    · have hlt2 : i < x.alts.length := by simpa using hb3
      obtain ⟨a, ha⟩ := get_of_lt hlt2
      have hab := hxo.ab a (List.mem_of_getElem? ha)
      refine zA ?_
      refine AOps.step1 rfl rfl rfl (AStep.indexAddr tabOk rfl rfl rfl rfl rfl rfl (.inl rfl) rfl (by omega) (map_get ha)) ?_
      refine zA ?_
      refine ACode.drawC tabOk 13 [9, 10, 11, 12] [] (fun vs σ => match vs with
          | [] => σ = ⟨7, [(6, .cells (cAlt a)), (6, .cells (ti89.zero.map .lit)), (5, .tok 89 2 i), (3, .cells [int x.op, int x.n, .sl 1 (x.binds.map cI), .gs 1 (kC (kidsL lts x.kids)) (.l 4), .gs 2 (la.map lAlt) (.l 5)]), (1, .tok 70 1 j), (0, wO lts)], ov⟩
          | [q1] => q1 = .one (bC none a.binds) ∧ σ = ⟨8, (7, .dead) :: [(6, .cells (cAlt a)), (6, .cells (ti89.zero.map .lit)), (5, .tok 89 2 i), (3, .cells [int x.op, int x.n, .sl 1 (x.binds.map cI), .gs 1 (kC (kidsL lts x.kids)) (.l 4), .gs 2 (la.map lAlt) (.l 5)]), (1, .tok 70 1 j), (0, wO lts)], ov⟩
          | [q1, q2] => q1 = .one (bC none a.binds) ∧ q2 = .agg [int a.tag, bC none a.binds] ∧ σ = ⟨8, (7, .dead) :: [(6, .cells (cAlt a)), (6, .cells (ti89.zero.map .lit)), (5, .tok 89 2 i), (3, .cells [int x.op, int x.n, .sl 1 (x.binds.map cI), .gs 1 (kC (kidsL lts x.kids)) (.l 4), .gs 2 (la.map lAlt) (.l 5)]), (1, .tok 70 1 j), (0, wO lts)], ov⟩
          | [q1, q2, q3] => q1 = .one (bC none a.binds) ∧ q2 = .agg [int a.tag, bC none a.binds] ∧ q3 = .one (.sl 2 [[int a.tag, bC none a.binds]]) ∧ σ = ⟨8, (7, .dead) :: [(6, .cells (cAlt a)), (6, .cells (ti89.zero.map .lit)), (5, .tok 89 2 i), (3, .cells [int x.op, int x.n, .sl 1 (x.binds.map cI), .gs 1 (kC (kidsL lts x.kids)) (.l 4), .gs 2 (la.map lAlt) (.l 5)]), (1, .tok 70 1 j), (0, wO lts)], ov⟩
          | [q1, q2, q3, q4] => q1 = .one (bC none a.binds) ∧ q2 = .agg [int a.tag, bC none a.binds] ∧ q3 = .one (.sl 2 [[int a.tag, bC none a.binds]]) ∧ q4 = .one (.gs 2 (la.map lAlt ++ [[int a.tag, bC none a.binds]]) (.l 8)) ∧ σ = ⟨9, [(8, .tok 89 2 (la.map lAlt ++ [[int a.tag, bC none a.binds]]).length), (5, .dead), (7, .dead), (6, .cells (cAlt a)), (6, .cells (ti89.zero.map .lit)), (5, .tok 89 2 i), (3, .cells [int x.op, int x.n, .sl 1 (x.binds.map cI), .gs 1 (kC (kidsL lts x.kids)) (.l 4), .gs 2 (la.map lAlt) (.l 5)]), (1, .tok 70 1 j), (0, wO lts)], ov⟩
          | _ => False) follows (by kernel_rfl) rfl rfl (by decide) (by kernel_rfl) (by kernel_rfl) rfl rfl ?_ (fun _ _ _ => .nil) (by decide) ?_ ?_
      · rintro vs σ hG
        match vs, hG with
        | [], hG => subst hG; rfl
        | [_], hG => obtain ⟨_, rfl⟩ := hG; rfl
        | [_, _], hG => obtain ⟨_, _, rfl⟩ := hG; rfl
        | [_, _, _], hG => obtain ⟨_, _, _, rfl⟩ := hG; rfl
        | [_, _, _, _], hG => obtain ⟨_, _, _, _, rfl⟩ := hG; rfl
      · rintro vs σ hG q o hp1 hp2
        match vs, hG with
        | [], hG =>
          subst hG
          cases hp1
          cases hp2
          refine ⟨rfl, rfl, .inr ⟨rfl, ?_⟩⟩
          intro F w C tmps hI hF next Q hk
          refine AStepR.appCopyS (news := a.binds.map cI) tabOk rfl rfl rfl rfl rfl rfl rfl (by simp; show _ * 8 ≤ _; omega) (by simp; omega) F w C tmps hI hF next Q fun u w' C' v σ' hq => hk u w' C' v σ' ?_
          obtain ⟨rfl, rfl⟩ := hq
          exact ⟨rfl, rfl⟩
        | [_], hG =>
          obtain ⟨rfl, rfl⟩ := hG
          cases hp1
          cases hp2
          exact ⟨rfl, rfl, .inl ⟨_, _, HStep.auto tabOk rfl, rfl, rfl, rfl⟩⟩
        | [_, _], hG =>
          obtain ⟨rfl, rfl, rfl⟩ := hG
          cases hp1
          cases hp2
          exact ⟨rfl, rfl, .inl ⟨_, _, HStep.auto tabOk rfl, rfl, rfl, rfl, rfl⟩⟩
        | [_, _, _], hG =>
          obtain ⟨rfl, rfl, rfl, rfl⟩ := hG
          cases hp1
          cases hp2
          refine ⟨rfl, rfl, .inl ⟨_, _, HStep.plain rfl (AStep.append (s := 2) (es := la.map lAlt) (news := [[int a.tag, bC none a.binds]]) (ti := ti51) tabOk rfl rfl rfl rfl rfl rfl (Base.gs' _ 89 2 (la.map lAlt) (.l 5) rfl hal.symm) (.sl _ _) rfl ?_ ?_), rfl, rfl, rfl, rfl, rfl⟩⟩
          · rw [hal]; show (i + 1) * 32 ≤ _; omega
          · rw [hal]; show i + 1 ≤ _; omega
        | [_, _, _, _], hG => cases hp1
      rintro vs σ hlen hG
      match vs, hlen, hG with
      | [_, _, _, _], _, hG =>
      obtain ⟨rfl, rfl, rfl, rfl, rfl⟩ := hG
      refine zM ?_
      obtain ⟨la', hla'⟩ : ∃ la', la' = la ++ [⟨a.tag, none, a.binds⟩] := ⟨_, rfl⟩
      have hlm : la.map lAlt ++ [[int a.tag, bC none a.binds]] = la'.map lAlt := by rw [hla', List.map_append]; rfl
      refine cInv ⟨x.alts.length - (i + 1), (i + 1, la'), fun k => if k = 5 then 8 else k, by omega, ⟨by omega, ⟨by rw [hla', List.map_append, hla, take_get ha]; rfl, ?_⟩, rfl⟩, LessR.of rfl (by (repeat' first | exact FrSub.nil | refine zfc ?_ | refine zfo ?_ | refine zfp ?_)) (by simp) ?_ rfl rfl hov⟩
      · intro y hy
        rw [hla'] at hy
        rcases List.mem_append.1 hy with hy | hy
        · exact hlo y hy
        · simp at hy; subst hy; rfl
      · repeat' first | exact LoSub.nil | refine zlc ?_ | refine zld ?_ ?_ | rfl
        · simp only [AObj.ren, List.length_append, hal]; rfl
        · simp only [hlm, AObj.ren, renL, AC.ren, ren_kC, ren_lAlts]; simp; exact ⟨rfl, rfl⟩
    have hlt2 : i = x.alts.length := by simp at hb3; omega
    subst hlt2
    rw [List.take_length] at hla
    repeat ((fail_if_success ((with_reducible refine oj ?_); refine AOps.atDst 75 rfl ?_)); first | refine zO ?_)
    refine AOps.wkObj (.l 3) rfl (cs' := [int x.op, int x.n, .sl 1 (x.binds.map cI), .sl 1 (kC (kidsL lts x.kids)), .sl 2 (la.map lAlt)]) (fun w C xs h => ?_) ?_
    · exact (show WkL _ _ from .cons (.refl _) (.cons (.refl _) (.cons (.refl _) (.cons (.gsE rfl) (.cons (.gsE rfl) .nil))))) w C xs h
    have hθ : ∀ (k : Nat) (i : Abs.Id), isO i → toOs [3] k i = i := fun k i hi => by cases i with | l q => exact hi.elim | o q => rfl
    have hnid : (AObj.cells [int x.op, int x.n, .sl 1 (x.binds.map cI), .sl 1 (kC (kidsL lts x.kids)), .sl 2 (la.map lAlt)]).ids isO := ids_node x.op x.n none x.binds (kidsL lts x.kids) la
    refine AOps.cedes [3] rfl (by decide) hov fun k hk => ⟨[(6, .one (.ptr (.o k) 0)), (3, .one (.ptr (.l 0) 0)), (15, .one (int j)), (14, .one (int (e.map cEx).length)), (13, .one (.sl 5 (e.map cEx))), (0, .one (.sl 5 (e.map cEx)))],
      [(1, .tok 70 1 j), (0, wO lts)], [.cells [int x.op, int x.n, .sl 1 (x.binds.map cI), .sl 1 (kC (kidsL lts x.kids)), .sl 2 (la.map lAlt)]], ?_, ?_, ?_, ?_⟩
    · exact .cons rfl rfl (.cons rfl rfl (.cons rfl rfl (.cons rfl rfl (.cons rfl (FV.sub_f (hθ k) _ (by simp)) (.cons rfl (FV.sub_f (hθ k) _ (by simp)) .nil)))))
    · refine .cons rfl rfl rfl (.cons rfl rfl ?_ .nil)
      simp only [wO, AObj.sub, subL, AC.sub]
      rw [subS_f (hθ k) _ (ids_kC_o _)]
      rfl
    · exact .cons rfl (AObj.sub_f (hθ k) _ hnid) .nil
    have hN1 := NewO.add hk hov hnid
    have hN2 := hN.trans hN1
    obtain ⟨t, ht⟩ : ∃ t : LTr, t = .mk k x.op x.n none x.binds (kidsL lts x.kids) la := ⟨_, rfl⟩
    have hto : lts.flatMap ownO ++ [(k, .cells [int x.op, int x.n, .sl 1 (x.binds.map cI), .sl 1 (kC (kidsL lts x.kids)), .sl 2 (la.map lAlt)])] = (lts ++ [t]).flatMap ownO := by
      rw [List.flatMap_append, ht]
      simp [ownO, bO, bC, plain_aO hlo]
    rw [hto] at hN2
    have hL2 := hL.snoc (kidsIn_pre (by rw [List.take_append_drop]; exact hin)) (x := x) (fun q hq => by have := hxin q hq; simp; omega) (id := k) (nb := none) hla rfl hlo
    rw [← take_get hx, show LTr.mk k x.op x.n none x.binds (x.kids.map fun q => lts.getD q.toNat default) la = t by rw [ht]; rfl] at hL2
    refine zA ?_
    refine AOps.app tabOk rfl rfl rfl rfl rfl rfl rfl rfl rfl (Base.gs' _ 70 1 _ _ rfl hkcl.symm) (.sl _ _) rfl ?_ ?_ ?_
    · rw [hkcl]; show (j + 1) * 8 ≤ _; omega
    · rw [hkcl]; show j + 1 ≤ _; omega
    refine zM ?_
    have hsk : kC lts ++ [[AC.ptr (.o k) 0]] = kC (lts ++ [t]) := by rw [kC_app, ht]; rfl
    refine cInv ⟨e.length - (j + 1), (j + 1, lts ++ [t], _), fun q => if q = 1 then 6 else q, by omega, ⟨by omega, ⟨hL2, hN2⟩, rfl⟩, LessR.of rfl (by (repeat' first | exact FrSub.nil | refine zfc ?_ | refine zfo ?_ | refine zfp ?_)) (by simp) ?_ rfl rfl hN2.ok⟩
    repeat' first | exact LoSub.nil | refine zlc ?_ | refine zld ?_ ?_ | rfl
    · simp only [AObj.ren, List.length_append, hkcl]; rfl
    · show _ = AObj.ren _ (.cells [.gs 1 (kC (lts ++ [t])) (.l 1), .lit (.pointer none)])
      simp only [AObj.ren, renL, AC.ren, ren_kC]
      rw [hsk]; rfl
  · have hlt : j = e.length := by simp at hb2; omega
    subst hlt
    rw [List.take_length] at hL
    obtain ⟨N, hNe⟩ : ∃ N, e.length = N + 1 := ⟨e.length - 1, by have := List.length_pos_iff.2 hne; omega⟩
    obtain ⟨t, ht⟩ := get_of_lt (l := lts) (i := N) (by rw [hL.len]; omega)
    have hnt : e.length - 1 = N := by omega
    refine zM ?_
    refine AOps.wk 93 rfl (y := .one (int (N : Nat))) (.ofEq (by congr 3; simp; omega)) ?_
    refine AOps.step1 rfl rfl rfl (AStep.indexAddr tabOk rfl rfl rfl rfl rfl rfl (.inr ⟨_, rfl⟩) rfl (by omega) (kC_get ht)) ?_
    repeat ((fail_if_success ((with_reducible refine oj ?_); refine AOps.atDst 98 rfl ?_)); first | refine zO ?_)
    refine AOps.wkObj (.l 0) rfl (cs' := [.sl 1 (kC lts), .ptr (.o t.id) 0]) (fun w C xs h => ?_) ?_
    · exact (show WkL _ _ from .cons (.gsE rfl) (.cons (.refl _) .nil)) w C xs h
    refine AOps.freeze1 (.l 0) 3 rfl rfl ?_
    refine zA ?_
    exact AFn.fin' rfl (WkF.ofEq rfl) (by simp) hov ⟨lts, t, rfl, hL, by rw [hnt]; exact ht, hN⟩
end Go.Proofs.YtgdionbeeodaaaaDoor
namespace Go.CoreX
theorem word_range {e : List Ex} {x : Ex} (h : nodeErrF false e x = 0) (h1 : x.op = 1) : -1073741824 ≤ x.n ∧ x.n ≤ 1073741823 := by
  unfold nodeErrF at h
  split at h
  · cases h
  · unfold nodeErr at h
    split at h
    · cases h
    · split at h
      · rename_i hr; exact absurd h hr
      · rename_i hr
        have hr' : ranges x = 0 := by simpa using hr
        unfold ranges at hr'
        repeat' split at hr'
        all_goals first
          | (cases hr'; done)
          | skip
        all_goals
          rename_i hf _
          simp [between, lowN, highN, h1] at *
          try omega
theorem check_words {e : List Ex} (h : check e = 0) : allT (fun l => l.op = 1 → -1073741824 ≤ l.n ∧ l.n ≤ 1073741823) (grow e) := by
  obtain ⟨_, p2, _, _⟩ := check_parts h
  exact allT_grow (body_isTree h) fun x hx h1 => word_range (p2 x hx) h1
theorem pOk_growLR {e : List Ex} (hk : kidsIn e) (hp : ∀ x ∈ e, pOk (labE e x)) (p : Nat) {X : Tr} (hX : allT pOk X) : ∀ (n j : Nat), j < n → j < e.length → allT pOk ((growLR e p X).getD j default)
  | 0, j, hj, _ => by omega
  | n + 1, j, hj, hl => by
    obtain ⟨x, hx⟩ : ∃ x, e[j]? = some x := ⟨e[j], List.getElem?_eq_getElem hl⟩
    rw [growLR_node hk p X hx]
    split
    · exact hX
    · have h := hp x (List.mem_of_getElem? hx)
      refine ⟨⟨h.b, ?_, h.a, h.ab, h.s⟩, allTs_iff.2 fun t ht => ?_⟩
      · have := h.k
        simp only [labE, List.length_map] at this ⊢
        exact this
      · obtain ⟨q, hq, rfl⟩ := List.mem_map.1 ht
        have := hk j x hx q hq
        exact pOk_growLR hk hp p hX n q.toNat (by omega) (by omega)
theorem cnt_at {e : List Ex} (h : check e = 0) {k : Nat} (hk : k < e.length) : cntN (treeAt e k) ≤ 4096 := by
  have t1 := body_isTree h
  obtain ⟨p1, _⟩ := check_parts h
  obtain ⟨q1, _, _⟩ := (treeErr_iff e).1 p1
  have h1 := len_sub t1 hk
  have h2 := cntN_list (treeAt e k) []
  simp only [List.length_nil] at h2
  omega
end Go.CoreX
namespace Go.Proofs.YtgdionbeeodaaaaDoor
open Go Go.Abs Go.CoreX
set_option maxRecDepth 10000
theorem LinkL.plain {e : List Ex} {lts : List LTr} (h : LinkL e lts plainB) (hk : kidsIn e) : ∀ (n i : Nat) (t : LTr), i < n → lts[i]? = some t → plainL t
  | 0, i, t, hi, _ => by omega
  | n + 1, i, t, hi, ht => by
    have hil : i < e.length := by rw [← h.len]; exact (List.getElem?_eq_some_iff.1 ht).1
    obtain ⟨x, hx⟩ := get_of_lt hil
    obtain ⟨id, nb, a, h1, h2, h3, h4⟩ := h.at_ i x hx
    rw [ht] at h1
    cases h1
    refine ⟨h3, h4, plainLs_iff.2 fun s hs => ?_⟩
    obtain ⟨q, hq, rfl⟩ := List.mem_map.1 hs
    have hq' := hk i x hx q hq
    obtain ⟨t', ht'⟩ := get_of_lt (l := lts) (i := q.toNat) (by rw [h.len]; omega)
    rw [h.getD ht']
    exact h.plain hk n q.toNat t' (by omega) ht'
theorem objss_count_le (k : Nat) {s : LTr} : ∀ {l : List LTr}, s ∈ l → (keys (objs s)).count k ≤ (keys (objss l)).count k
  | [], h => by cases h
  | t :: l, h => by
    simp only [objss, keys_app, List.count_append]
    rcases List.mem_cons.1 h with rfl | h
    · omega
    · have := objss_count_le k h; omega
theorem sub_count (k : Nat) {t0 t : LTr} (h : SubL t0 t) : (keys (objs t0)).count k ≤ (keys (objs t)).count k := by
  induction h with
  | here => exact Nat.le_refl _
  | @kid t s hs _ ih =>
    have h1 := objs_count k t
    have h2 := objss_count_le k hs
    omega
theorem sub_nodup {t0 t : LTr} (h : SubL t0 t) (hn : (keys (objs t)).Nodup) : (keys (objs t0)).Nodup := by
  rw [List.nodup_iff_count] at hn ⊢
  exact fun k => Nat.le_trans (sub_count k h) (hn k)
theorem own_id : ∀ t : LTr, t.id ∈ keys (ownO t)
  | .mk i o n nb b k a => by simp [ownO, keys, LTr.id]
theorem ids_inj : ∀ {lts : List LTr}, (keys (lts.flatMap ownO)).Nodup → ∀ (i j : Nat) (ti tj : LTr), lts[i]? = some ti → lts[j]? = some tj → ti.id = tj.id → i = j
  | [], _, i, j, ti, tj, h, _, _ => by simp at h
  | t :: l, hn, i, j, ti, tj, hi, hj, he => by
    rw [List.flatMap_cons, keys_app, List.nodup_append] at hn
    have hmem : ∀ (q : Nat) (s : LTr), l[q]? = some s → s.id ∈ keys (l.flatMap ownO) := fun q s hs => by
      obtain ⟨o, ho⟩ := of_keys (own_id s)
      exact mem_keys (List.mem_flatMap.2 ⟨s, List.mem_of_getElem? hs, ho⟩)
    cases i with
    | zero =>
      simp at hi; subst hi
      cases j with
      | zero => rfl
      | succ j => exact absurd he (hn.2.2 _ (own_id _) _ (hmem j tj (by simpa using hj)))
    | succ i =>
      cases j with
      | zero =>
        simp at hj; subst hj
        exact absurd he.symm (hn.2.2 _ (own_id _) _ (hmem i ti (by simpa using hi)))
      | succ j => rw [ids_inj hn.2.1 i j ti tj (by simpa using hi) (by simpa using hj) he]
end Go.Proofs.YtgdionbeeodaaaaDoor
namespace Go.Proofs.YtgdionbeeodaaaaDoor
open Go Go.Abs Go.CoreX
set_option maxRecDepth 10000
variable {Γ : List (Nat × List AC)}
structure NameOk (e : List Ex) (rule n : Int) (at' : Nat) : Prop where
  n : rule = 10 → ∀ (ou : Outer) (lts : List LTr) (root t : LTr), LinkL e lts plainB → lts[e.length - 1]? = some root → lts[at']? = some t → Owns ou (lts.flatMap ownO) → AFn Tryd.prog Γc 85 [.one (.box [.sl 1 (kC lts), .ptr (.o root.id) 0]), .one (.ptr (.o t.id) 0), .one (int n)] ou (ResW ou t (namedT (grow e) (erT t) n))
  u : rule = 12 → ∀ (ou : Outer) (lts : List LTr) (root t : LTr), LinkL e lts plainB → lts[e.length - 1]? = some root → lts[at']? = some t → Owns ou (lts.flatMap ownO) → (erT t).op = 0 → AFn Tryd.prog Γc 86 [.one (.box [.sl 1 (kC lts), .ptr (.o root.id) 0]), .one (.ptr (.o t.id) 0)] ou (ResW ou t (unfoldT (growL e) (grow e) (erT t)))
theorem NameOk.no {e : List Ex} {rule n : Int} {at' : Nat} (h1 : rule ≠ 10) (h2 : rule ≠ 12) : NameOk e rule n at' := ⟨fun h => absurd h h1, fun h => absurd h h2⟩
set_option maxHeartbeats 1000000 in
theorem Apply_ok (e : List Ex) (he : okB e) (rule at' n : Int) (hno : check e = 0 → 0 ≤ at' → at' < (e.length : Int) → NameOk e rule n at'.toNat) : APure Tryd.prog Γc 16 [.one (.sl 5 (e.map cEx)), .agg [int rule, int at', int n]] (.tup [.one (.sl 5 ((applyE e rule at' n).1.map cEx)), .one (int (applyE e rule at' n).2)]) := by
  have c1 := Check_ok e he
  have hel := he.eo.l
  intro ou
  refine AFn.forget ?_
  refine AFn.walk 64 tabOk Tryd.func16 rfl (by kernel_rfl) rfl rfl fun hou => ?_
  refine zA ?_
  refine zca hΓc c1 hou ?_
  refine zA ?_
  refine ACode.cond rfl (fun hb => ?_) (fun hb => ?_)
  · have h : check e ≠ 0 := by simpa using hb
    refine zA ?_
    refine AFn.fin' rfl (.trans (WkF.tup (.cons (.one (.nilS 5)) (.cons (.refl _) .nil))) (.ofEq ?_)) (by simp) hou ⟨ou, fun _ _ h => h, rfl, rfl⟩
    unfold applyE
    rw [if_pos h]; rfl
  have h : check e = 0 := by simpa using hb
  have t1 := body_isTree h
  refine zA ?_
  refine AOps.splitS rfl rfl rfl rfl (fun hb1 => ?_) (fun hb1 => ?_)
  · have h1 : rule < 1 := by simpa using hb1
    refine zA ?_
    refine AFn.fin' rfl (.trans (WkF.tup (.cons (.one (.nilS 5)) (.cons (.refl _) .nil))) (.ofEq ?_)) (by simp) hou ⟨ou, fun _ _ h => h, rfl, rfl⟩
    unfold applyE
    rw [if_neg (by simpa using h), if_pos (.inl h1)]; rfl
  have h1 : ¬ rule < 1 := by simpa using hb1
  refine zA ?_
  refine ACode.cond rfl (fun hb2 => ?_) (fun hb2 => ?_)
  · have h2 : 12 < rule := by simpa using hb2
    refine zA ?_
    refine AFn.fin' rfl (.trans (WkF.tup (.cons (.one (.nilS 5)) (.cons (.refl _) .nil))) (.ofEq ?_)) (by simp) hou ⟨ou, fun _ _ h => h, rfl, rfl⟩
    unfold applyE
    rw [if_neg (by simpa using h), if_pos (.inr h2)]; rfl
  have h2 : ¬ 12 < rule := by simpa using hb2
  refine zA ?_
  refine AOps.splitS rfl rfl rfl rfl (fun hb3 => ?_) (fun hb3 => ?_)
  · have h3 : at' < 0 := by simpa using hb3
    refine zA ?_
    refine AFn.fin' rfl (.trans (WkF.tup (.cons (.one (.nilS 5)) (.cons (.refl _) .nil))) (.ofEq ?_)) (by simp) hou ⟨ou, fun _ _ h => h, rfl, rfl⟩
    unfold applyE
    rw [if_neg (by simpa using h), if_neg (by omega), if_pos (.inl h3)]; rfl
  have h3 : ¬ at' < 0 := by simpa using hb3
  refine zA ?_
  refine ACode.cond rfl (fun hb4 => ?_) (fun hb4 => ?_)
  · have h4 : (e.length : Int) ≤ at' := by simpa using hb4
    refine zA ?_
    refine AFn.fin' rfl (.trans (WkF.tup (.cons (.one (.nilS 5)) (.cons (.refl _) .nil))) (.ofEq ?_)) (by simp) hou ⟨ou, fun _ _ h => h, rfl, rfl⟩
    unfold applyE
    rw [if_neg (by simpa using h), if_neg (by omega), if_pos (.inr h4)]; rfl
  have h4 : ¬ (e.length : Int) ≤ at' := by simpa using hb4
  have hap : applyE e rule at' n = match resT (growL e) (grow e) rule n (treeAt e at'.toNat) with
    | none => ([], 12)
    | some x => if check (listT [] (growR e at'.toNat x)) ≠ 0 then ([], 2) else (listT [] (growR e at'.toNat x), 0) := by
    conv => lhs; unfold applyE
    rw [if_neg (by simpa using h), if_neg (by omega), if_neg (by omega)]
    cases resT (growL e) (grow e) rule n (treeAt e at'.toNat) <;> rfl
  have hno := hno h (by omega) (by omega)
  obtain ⟨p, rfl⟩ : ∃ p : Nat, at' = p := ⟨at'.toNat, by omega⟩
  rw [Int.toNat_natCast] at hap hno
  have hp : p < e.length := by omega
  obtain ⟨x, hx⟩ := get_of_lt hp
  refine zA ?_
  refine AOps.call1 hΓc rfl rfl rfl rfl rfl rfl rfl (by simp) hou (open_ok hΓc e he.eo t1.k t1.ne ou) fun r ov hq hids hov => ?_
  obtain ⟨lts, root, rfl, hL, hr, hN⟩ := hq
  obtain ⟨id, nb, a, ht0, ha, hnb, hab⟩ := hL.at_ p x hx
  obtain rfl : nb = none := hnb
  obtain ⟨ks, hks⟩ : ∃ ks, ks = x.kids.map fun q => lts.getD q.toNat default := ⟨_, rfl⟩
  rw [← hks] at ht0
  obtain ⟨t, hte⟩ : ∃ t, t = LTr.mk id x.op x.n none x.binds ks a := ⟨_, rfl⟩
  have ht : lts[p]? = some t := by rw [hte]; exact ht0
  have hpl := hL.plain t1.k _ p t (Nat.lt_succ_self _) ht
  have her : erT t = treeAt e p := hL.er t1.k _ p t (Nat.lt_succ_self _) ht
  have hrer : erT root = grow e := by
    have := hL.er t1.k _ _ root (Nat.lt_succ_self _) hr
    rw [this]; rfl
  have hok : okT (erT t) := by rw [her]; exact treeAt_ok he t1 hp
  have hsh : allT shpL (erT t) := by rw [her]; exact allT_treeAt t1 (check_shp h) hp
  have hwd : allT (fun l => l.op = 1 → -1073741824 ≤ l.n ∧ l.n ≤ 1073741823) (erT t) := by rw [her]; exact allT_treeAt t1 (check_words h) hp
  have hct : cntN (erT t) ≤ 4096 := by rw [her]; exact cnt_at h hp
  have hcr : cntN (erT root) ≤ 4096 := by
    rw [hrer]; exact cnt_at h (k := e.length - 1) (by have := List.length_pos_iff.2 t1.ne; omega)
  have hOw : ∀ (q : Nat) (s : LTr), lts[q]? = some s → Owns ov (objs s) := fun q s hs o ho => hN.own o (hL.own t1.k _ q s (Nat.lt_succ_self _) hs o ho)
  have hrn : (keys (objs root)).Nodup := hL.nodup t1 hN.nd hr
  have hsub := hL.sub t1 hr p t ht
  have htn := sub_nodup hsub hrn
  have hinj := ids_inj hN.nd
  have hres := result_ok (Γ := Γc) hΓc [.sl 1 (kC lts), .ptr (.o root.id) 0] (by simp) (growL e) (grow e) rule p n id x.op x.n x.binds ks a (by rw [← hte]; exact hpl) (by rw [← hte]; exact hok) (by rw [← hte]; exact hsh) (by rw [← hte]; omega)
    (fun s hs h1 => by
      have h2 := allT_kid hwd (er_kid (t := t) (s := s) (by rw [hte]; exact hs))
      cases hse : erT s with
      | mk o' n' b' k' a' =>
        rw [hse] at h2 h1
        exact h2.1 h1)
    ov (by rw [← hte]; exact hOw p t ht) (by rw [← hte]; exact htn)
    (fun h10 => by rw [← hte]; have := hno.n h10 ov lts root t hL hr ht hN.own; rwa [hte] at this ⊢) (fun h12 h0 => by rw [← hte]; have := hno.u h12 ov lts root t hL hr ht hN.own (by rw [hte]; exact h0); rwa [hte] at this ⊢)
  rw [← hte, her] at hres
  have hti : t.id = id := by rw [hte]; rfl
  obtain ⟨X, hX⟩ : ∃ X, X = resT (growL e) (grow e) rule n (treeAt e p) := ⟨_, rfl⟩
  rw [← hX] at hres hap
  refine zA ?_
  refine ACode.drawX tabOk 8 [(6, .one (.box [.ptr (.o id) 0]))] follows (by kernel_rfl) rfl rfl rfl rfl ?_ ?_
  · exact .step rfl (HStep.plain rfl (AStep.indexAddr tabOk rfl rfl rfl rfl rfl rfl (.inl rfl) rfl (by omega) (by rw [← hti]; exact kC_get ht))) .nil
  refine zA ?_
  refine AOps.call1 hΓc rfl rfl rfl rfl rfl rfl rfl (by simp [idsF]) hov hres fun r ow hq hids how => ?_
  cases X with
  | none =>
    obtain ⟨rfl, _, hfr⟩ := hq
    refine zA ?_
    refine AOps.step1 rfl rfl rfl (AStep.eqNil0 Tryd.underlying70 rfl rfl rfl) ?_
    refine zA ?_
    exact AFn.fin' rfl (.trans (WkF.tup (.cons (.one (.nilS 5)) (.cons (.refl _) .nil))) (.ofEq (by rw [hap]; rfl))) (by simp) how ⟨ou, fun m o hm => hfr m o (hN.oldS hm), rfl, rfl⟩
  | some X =>
    obtain ⟨u, rfl, heu, huo, htu, _, hfr, huk⟩ := hq
    have hpX : allT pOk X := res_pOk (nodes := growL e) (root := grow e) (t := treeAt e p) (by rw [← her]; exact okT_pOk _ hok) (fun s hs => by
      obtain ⟨q, hq1, hq2⟩ := List.getElem_of_mem hs
      rw [growL_len] at hq1
      have : treeAt e q = s := by unfold treeAt; rw [List.getD_eq_getElem?_getD, List.getElem?_eq_getElem (by rw [growL_len]; exact hq1), hq2]; rfl
      rw [← this]; exact okT_pOk _ (treeAt_ok he t1 hq1)) hX.symm
    have hcX : cntN X ≤ 4 * 4096 + 4 := res_cnt (nodes := growL e) (root := grow e) (t := treeAt e p) (by rw [← her]; exact hsh) (cnt_at h hp) (fun s hs => by
      obtain ⟨q, hq1, hq2⟩ := List.getElem_of_mem hs
      rw [growL_len] at hq1
      have : treeAt e q = s := by unfold treeAt; rw [List.getD_eq_getElem?_getD, List.getElem?_eq_getElem (by rw [growL_len]; exact hq1), hq2]; rfl
      rw [← this]; exact cnt_at h hq1) hX.symm
    have htO := hOw p t ht
    have htg : ow t.id = some (.cells (lC t)) := hfr _ _ (owns_node htO) (self_tail htn)
    have hug := owns_node huo
    have htut : t.id ∉ keys (tailO u) := fun hm => htu (by rw [objs_tail]; exact List.mem_cons_of_mem _ hm)
    have huo' : Owns (setO ow t.id (.cells (lC u))) (objs (withId t.id u)) := withId_own (own_tail huo) htut
    have hro : Owns (setO ow t.id (.cells (lC u))) (objs (putL t.id (withId t.id u) root)) := fun q hq => by
      rcases put_own hsub hrn (withId_id t.id u) q hq with h5 | ⟨h5, h6⟩
      · exact huo' q h5
      · have hqt : q.1 ≠ t.id := fun e1 => h6 (e1 ▸ id_mem t)
        rw [setO_ne hqt]
        exact hfr _ _ (hOw _ root hr q h5) (fun hm => h6 (by rw [objs_tail]; exact List.mem_cons_of_mem _ hm))
    have hrid : (putL t.id (withId t.id u) root).id = root.id := putL_id (withId_id t.id u) root
    have hrer' : erT (putL t.id (withId t.id u) root) = growR e p X := by
      rw [hL.put_er t1.k hinj ht (withId t.id u) _ _ root (Nat.lt_succ_self _) hr, withId_er, heu]; rfl
    have hcnt : cntN (growR e p X) ≤ 1048576 := by
      have h5 := put_cnt (u := withId t.id u) hsub hrn
      rw [hrer', withId_er, heu] at h5
      omega
    have hpk : allT pOk (growR e p X) := pOk_growLR t1.k (fun y hy => okB_labs he _ (List.mem_map_of_mem (f := labE e) hy)) p hpX _ _ (Nat.lt_succ_self _) (by have := List.length_pos_iff.2 t1.ne; omega)
    have how3 : OuOk (setO ow t.id (.cells (lC u))) := setO_ok how (lC_ids u)
    have hhap : applyE e rule p n = if check (listT [] (growR e p X)) ≠ 0 then ([], 2) else (listT [] (growR e p X), 0) := hap
    have hfin : ∀ m o, ou m = some o → m ∉ keys (objs (putL t.id (withId t.id u) root)) ∧ setO ow t.id (.cells (lC u)) m = some o := fun m o hm => by
      have hmN : m ∉ keys (lts.flatMap ownO) := fun hk => by have := hN.new m hk; rw [hm] at this; cases this
      have hmt : m ∉ keys (objs t) := fun hk => by
        obtain ⟨o', ho'⟩ := of_keys hk
        exact hmN (mem_keys (hL.own t1.k _ p t (Nat.lt_succ_self _) ht _ ho'))
      have hw : ow m = some o := hfr _ _ (hN.oldS hm) (fun hk => hmt (by rw [objs_tail]; exact List.mem_cons_of_mem _ hk))
      have hmt2 : m ≠ t.id := fun e1 => hmt (e1 ▸ id_mem t)
      refine ⟨fun hk => ?_, by rw [setO_ne hmt2]; exact hw⟩
      obtain ⟨o', ho'⟩ := of_keys hk
      rcases put_own hsub hrn (withId_id t.id u) _ ho' with h5 | ⟨h5, _⟩
      · rw [objs_tail, withId_id, withId_tail] at h5
        rcases List.mem_cons.1 h5 with h5 | h5
        · exact hmt2 (by injection h5)
        · rcases huk m (by rw [objs_tail]; exact List.mem_cons_of_mem _ (mem_keys h5)) with h6 | h6
          · exact hmt (by rw [objs_tail]; exact List.mem_cons_of_mem _ h6)
          · rw [hN.oldS hm] at h6; cases h6
      · exact hmN (mem_keys (hL.own t1.k _ _ root (Nat.lt_succ_self _) hr _ h5))
    generalize hR : putL t.id (withId t.id u) root = R at hro hrid hrer' hfin
    cases u with
    | mk ku ou' nu nbu bu ksu au =>
    simp only [lC] at hug
    refine zA ?_
    refine AOps.step1 rfl rfl rfl (AStep.eqNil Tryd.underlying70 rfl rfl rfl) ?_
    refine zA ?_
    refine AOps.step1 rfl rfl rfl (AStep.loadOwnA tabOk rfl rfl rfl rfl rfl hug) ?_
    refine zA ?_
    rw [hti] at htg how3 hro hfin
    refine AOps.storeOwnA tabOk rfl rfl rfl rfl rfl (by simp [lC_len]) rfl rfl htg ?_
    repeat ((fail_if_success ((with_reducible refine oj ?_); refine AOps.atDst 59 rfl ?_)); first | refine zO ?_)
    rw [← hrid]
    refine AOps.freezeU (t := R) 58 hro rfl ?_
    rw [hrer']
    have hokd : OuOk (deadL (setO ow id (.cells (lC (.mk ku ou' nu nbu bu ksu au)))) (keys (objs R))) := fun m o hm => by
      unfold deadL at hm
      split at hm
      · cases hm; trivial
      · exact how3 m o hm
    have hfind : ∀ m o, ou m = some o → deadL (setO ow id (.cells (lC (.mk ku ou' nu nbu bu ksu au)))) (keys (objs R)) m = some o := fun m o hm => by
      unfold deadL
      rw [if_neg (hfin m o hm).1]
      exact (hfin m o hm).2
    have hgl : (listT [] (growR e p X)).length ≤ 1048576 := by have := cntN_list (growR e p X) []; simp at this; omega
    have hli := List_ok (Γ := Γc) hΓc (growR e p X) (pOk_okT _ hpk) hgl
    have hck := Check_ok _ (okB_list hpk hcnt)
    refine zca hΓc hli hokd ?_
    refine zA ?_
    refine zca hΓc hck hokd ?_
    refine zA ?_
    refine ACode.cond rfl (fun hbc => ?_) (fun hbc => ?_)
    · have hc : check (listT [] (growR e p X)) ≠ 0 := by simpa using hbc
      refine zA ?_
      exact AFn.fin' rfl (.trans (WkF.tup (.cons (.one (.nilS 5)) (.cons (.refl _) .nil))) (.ofEq (by rw [hhap, if_pos hc]; rfl))) (by simp) hokd ⟨ou, hfind, rfl, rfl⟩
    · have hc : ¬ check (listT [] (growR e p X)) ≠ 0 := by simpa using hbc
      refine zA ?_
      exact AFn.fin' rfl (.ofEq (by rw [hhap, if_neg hc])) (by simp) hokd ⟨ou, hfind, rfl, rfl⟩
end Go.Proofs.YtgdionbeeodaaaaDoor
namespace Go.Proofs.YtgdionbeeodaaaaDoor
open Go Go.Abs Go.CoreX
set_option maxRecDepth 10000
def factRT : Tr := .mk 4 0 [1] [.mk 1 2 [] [] [], .mk 0 1 [] [] []] []
end Go.Proofs.YtgdionbeeodaaaaDoor
namespace Go.Proofs.YtgdionbeeodaaaaDoor
open Go Go.Abs Go.CoreX
set_option maxRecDepth 10000
variable {Γ : List (Nat × List AC)}
def ManyQ (e : List Ex) (ou : Outer) (r : FV) (ou' : Outer) : Prop := ∃ (k ck : Nat) (l : List (Nat × Int × Int)) (f : Nm), r = .one (.mp (.o k)) ∧ ou' k = some (.map ck (encI eN l)) ∧ IMOk f ck l ∧ (∀ q, (f q).getD 0 = (manyE e q : Nat)) ∧ OuOk ou' ∧ ∀ j o, ou j = some o → ou' j = some o
end Go.Proofs.YtgdionbeeodaaaaDoor
namespace Go.Proofs.YtgdionbeeodaaaaDoor
open Go Go.Abs Go.CoreX
set_option maxRecDepth 10000
variable {Γ : List (Nat × List AC)}
def CanQ (x : Bool) (ou : Outer) (r : FV) (ou' : Outer) : Prop := r = .one (.lit (.bool x)) ∧ OuOk ou' ∧ ∀ j o, ou j = some o → ou' j = some o
end Go.Proofs.YtgdionbeeodaaaaDoor
namespace Go.CoreX
def nextF (e : List Ex) (r : Int) : Option (Int × Nat) := ((growL e).zipIdx.find? fun p => canT r p.1 (manyE e)).map fun p => (r, p.2)
def nextR (e : List Ex) : Int × Int × Bool × Int := if check e ≠ 0 then (0, 0, false, check e) else match nextE e with
  | none => (0, 0, false, 0)
  | some (r, i) => (r, i, true, 0)
end Go.CoreX
namespace Go.Proofs.YtgdionbeeodaaaaDoor
open Go Go.Abs Go.CoreX
set_option maxRecDepth 10000
def Γo : List (Nat × List AC) := [(0, orC), (1, arC)]
theorem hΓo : ∀ g cs, (g, cs) ∈ Γo → idsL isO cs := by
  intro g cs h
  simp only [Γo, List.mem_cons, List.not_mem_nil, or_false, Prod.mk.injEq] at h
  rcases h with ⟨_, rfl⟩ | ⟨_, rfl⟩
  · simp [orC]
  · exact hΓc 1 arC (by simp [Γc])
theorem hco : ∀ g cs, (g, cs) ∈ Γc → (g, cs) ∈ Γo := by
  intro g cs h
  simp only [Γc, List.mem_cons, List.not_mem_nil, or_false, Prod.mk.injEq] at h
  obtain ⟨rfl, rfl⟩ := h
  simp [Γo]
theorem APure.o {g : Nat} {args : List FV} {r : FV} (h : APure Tryd.prog Γc g args r) : APure Tryd.prog Γo g args r := h.moreG hco hΓo
end Go.Proofs.YtgdionbeeodaaaaDoor
namespace Go.Proofs.YtgdionbeeodaaaaDoor
open Go Go.Abs Go.CoreX
set_option maxRecDepth 10000
def cS (s : Step3) : List AC := [int s.1, int s.2.1, int s.2.2]
theorem ids_cS (p : Abs.Id → Prop) (l : List Step3) : idsS p (l.map cS) := idsS_map (f := cS) (fun s => by simp [cS]) l
@[simp] theorem ids_cS_l (k : Nat) (l : List Step3) : idsS (inL k) (l.map cS) := ids_cS _ l
@[simp] theorem ids_cS_o (l : List Step3) : idsS isO (l.map cS) := ids_cS _ l
theorem apply_okB {e : List Ex} (he : okB e) {r p n : Int} (h : (applyE e r p n).2 = 0) : okB (applyE e r p n).1 := by
  obtain ⟨hc, _, ⟨hp0, hp1⟩, X, hX, hck, hE⟩ := applyE_res h
  have t1 := body_isTree hc
  rw [hE]
  have hpX : allT pOk X := res_pOk (nodes := growL e) (root := grow e) (t := treeAt e p.toNat) (okT_pOk _ (treeAt_ok he t1 (by omega))) (fun s hs => by
    obtain ⟨q, hq1, hq2⟩ := List.getElem_of_mem hs
    rw [growL_len] at hq1
    have : treeAt e q = s := by unfold treeAt; rw [List.getD_eq_getElem?_getD, List.getElem?_eq_getElem (by rw [growL_len]; exact hq1), hq2]; rfl
    rw [← this]; exact okT_pOk _ (treeAt_ok he t1 hq1)) hX
  refine okB_list (pOk_growLR t1.k (fun y hy => okB_labs he _ (List.mem_map_of_mem (f := labE e) hy)) p.toNat hpX _ _ (Nat.lt_succ_self _) (by have := List.length_pos_iff.2 t1.ne; omega)) ?_
  obtain ⟨p1, _⟩ := check_parts hck
  obtain ⟨q1, _, _⟩ := (treeErr_iff _).1 p1
  have h2 := cntN_list (growR e p.toNat X) []
  simp only [List.length_nil] at h2
  show cntN (growR e p.toNat X) ≤ 1048576
  omega
theorem order_okB {e : List Ex} (he : okB e) (h : check e = 0) : okB (listT [] (grow e)) := by
  have t1 := body_isTree h
  refine okB_list (okT_pOk _ (he.t t1.k t1.ne)) ?_
  have h1 := len_list h
  have h2 := cntN_list (grow e) []
  have := he.eo.l
  simp only [List.length_nil] at h2
  omega
end Go.Proofs.YtgdionbeeodaaaaDoor
namespace Go.CoreX
theorem mostTs_eq : ∀ (l : List Tr) (m : Int), mostTs m l = (l.map mostT).foldl max m
  | [], _ => rfl
  | t :: l, m => by simp only [mostTs, List.map_cons, List.foldl_cons]; exact mostTs_eq l _
theorem max_if (a b : Int) : max a b = if b > a then b else a := by rw [Int.max_def]; split <;> split <;> omega
theorem foldl_max_ge : ∀ (l : List Int) (m : Int), m ≤ l.foldl max m
  | [], _ => Int.le_refl _
  | x :: l, m => by simp only [List.foldl_cons]; have := foldl_max_ge l (max m x); omega
end Go.CoreX
namespace Go.Proofs.YtgdionbeeodaaaaDoor
open Go Go.Abs Go.CoreX
set_option maxRecDepth 10000
variable {Γ : List (Nat × List AC)}
theorem fold_snoc {l : List Int} {i : Nat} {n m : Int} (h : l[i]? = some n) : (l.take (i + 1)).foldl max m = if n > (l.take i).foldl max m then n else (l.take i).foldl max m := by
  rw [take_get h, List.foldl_append]; exact max_if _ _
def MostOk (Γ : List (Nat × List AC)) (t : Tr) : Prop := APure Tryd.prog Γ 115 [.one (.box (cTr t))] (.one (int (mostT t)))
theorem Most_ok (hΓ : ∀ g cs, (g, cs) ∈ Γ → idsL isO cs) : ∀ t : Tr, okT t → MostOk Γ t
  | .mk o n b ks a, hok => by
    have ih : ∀ t ∈ ks, MostOk Γ t := fun t ht => Most_ok hΓ t (okT_kid hok (by simpa using ht))
    have hk : ks.length ≤ 1048576 := hok.2.1
    have hbl : bindLen (.mk o n b ks a) ≤ 4194304 := by
      have h1 := hok.1
      have h2 := hok.2.2.2.1.2
      unfold bindLen
      simp only [Tr.binds, Tr.alts]
      omega
    have hB := Binders_ok hΓ (.mk o n b ks a) hbl hok.2.2.1
    have hbn : (bindersN o b a).length ≤ 4194304 := by
      unfold bindLen at hbl
      simp only [Tr.binds, Tr.alts] at hbl
      unfold bindersN
      rw [List.length_append]
      split
      · exact hbl
      · simp only [List.length_nil]; omega
    have hm : mostT (.mk o n b ks a) = (ks.map mostT).foldl max ((bindersN o b a).foldl max (-1)) := by simp only [mostT, mostTs_eq]
    intro ou
    rw [hm]
    clear hm
    obtain ⟨bn, hbe⟩ : ∃ bn, bn = bindersN o b a := ⟨_, rfl⟩
    rw [show bindersN (Tr.mk o n b ks a).op (Tr.mk o n b ks a).binds (Tr.mk o n b ks a).alts = bn from hbe.symm] at hB
    rw [← hbe] at hbn ⊢
    clear hbe hbl
    refine AFn.walk 34 tabOk Tryd.func115 rfl (by kernel_rfl) rfl rfl fun hou => ?_
    refine zA ?_
    refine zca hΓ hB hou ?_
    refine zA ?_
    refine ACode.loopR hΓ (α := Nat) (fun i => [(11, .one (int i)), (10, .one (int (bn.map cI).length)), (9, .one (.sl 1 (bn.map cI))), (3, .one (int ((bn.take i).foldl max (-1)))), (0, .one (.box (cTr (.mk o n b ks a))))])
      (fun i => ⟨0, [], ou⟩) (fun m i => i ≤ bn.length ∧ m = bn.length - i) (a0 := 0) (ρ := id) ⟨by omega, rfl⟩ (LessR.of rfl (by (repeat' first | exact FrSub.nil | refine zfc ?_ | refine zfo ?_ | refine zfp ?_)) (by simp) (by repeat' first | exact LoSub.nil | refine zlc ?_ | refine zld ?_ ?_ | rfl) rfl rfl hou) fun m i hi => ?_
    obtain ⟨hil, rfl⟩ := hi
    refine zA ?_
    refine ACode.cond rfl (fun hb3 => ?_) (fun hb3 => ?_)
    · have hlt2 : i < bn.length := by simpa using hb3
      obtain ⟨q, hn⟩ := get_of_lt hlt2
      have hsm := fold_snoc (m := -1) hn
      refine zA ?_
      refine AOps.step1 rfl rfl rfl (AStep.indexAddr tabOk rfl rfl rfl rfl rfl rfl (.inl rfl) rfl (by omega) (map_get hn)) ?_
      refine zM ?_
      refine cInv ⟨bn.length - (i + 1), i + 1, id, by omega, ⟨by omega, rfl⟩, ?_⟩
      simp only [hsm]
      exact LessR.of rfl (by (repeat' first | exact FrSub.nil | refine zfc ?_ | refine zfo ?_ | refine zfp ?_)) (by simp) (by repeat' first | exact LoSub.nil | refine zlc ?_ | refine zld ?_ ?_ | rfl) rfl rfl hou
    have hlt : i = bn.length := by simp at hb3; omega
    subst hlt
    rw [List.take_length]
    generalize bn.foldl max (-1) = m0
    refine zA ?_
    refine ACode.loopR hΓ (α := Nat) (fun i => [(24, .one (int i)), (23, .one (int (encTrs ks).length)), (22, .one (.sl 1 (encTrs ks))), (3, .one (int (((ks.map mostT).take i).foldl max m0)))])
      (fun i => ⟨0, [], ou⟩) (fun m i => i ≤ ks.length ∧ m = ks.length - i) (a0 := 0) (ρ := id) ⟨by omega, rfl⟩ (LessR.of rfl (by (repeat' first | exact FrSub.nil | refine zfc ?_ | refine zfo ?_ | refine zfp ?_)) (by simp) (by repeat' first | exact LoSub.nil | refine zlc ?_ | refine zld ?_ ?_ | rfl) rfl rfl hou) fun m i hi => ?_
    obtain ⟨hil, rfl⟩ := hi
    refine zA ?_
    refine ACode.cond rfl (fun hb3 => ?_) (fun hb3 => ?_)
    · have hlt2 : i < ks.length := by simpa using hb3
      obtain ⟨t, ht⟩ := get_of_lt hlt2
      have hsm := fold_snoc (l := ks.map mostT) (n := mostT t) (m := m0) (i := i) (by simp [ht])
      refine zA ?_
      refine AOps.step1 rfl rfl rfl (AStep.indexAddr tabOk rfl rfl rfl rfl rfl rfl (.inl rfl) rfl (by omega) (encTrs_get ht)) ?_
      refine zA ?_
      refine zca hΓ (ih t (List.mem_of_getElem? ht)) hou ?_
      refine zM ?_
      refine cInv ⟨ks.length - (i + 1), i + 1, id, by omega, ⟨by omega, rfl⟩, ?_⟩
      simp only [hsm]
      exact LessR.of rfl (by (repeat' first | exact FrSub.nil | refine zfc ?_ | refine zfo ?_ | refine zfp ?_)) (by simp) (by repeat' first | exact LoSub.nil | refine zlc ?_ | refine zld ?_ ?_ | rfl) rfl rfl hou
    have hlt : i = ks.length := by simp [encTrs_len] at hb3; omega
    subst hlt
    rw [show (ks.map mostT).take ks.length = ks.map mostT from List.take_of_length_le (by simp)]
    refine zA ?_
    exact APure.fin rfl (WkF.ofEq rfl) (by simp) hou rfl
end Go.Proofs.YtgdionbeeodaaaaDoor
namespace Go.Proofs.YtgdionbeeodaaaaDoor
open Go Go.Abs Go.CoreX
set_option maxRecDepth 10000
variable {Γ : List (Nat × List AC)}
theorem plain_alts : ∀ {a : List LAlt}, (∀ x ∈ a, x.nb = none) → a.map lAlt = (a.map LAlt.er).map cAlt
  | [], _ => rfl
  | x :: a, h => by
    have h1 := h x (by simp)
    have h2 := plain_alts fun y hy => h y (List.mem_cons_of_mem x hy)
    simp only [List.map_cons, h2]
    congr 1
    simp only [lAlt, h1]
    rfl
def ListOwn (Γ : List (Nat × List AC)) (t : LTr) : Prop := ∀ (ou : Outer) (kw ko kt : Nat) (out : List Ex), OuOk ou → Owns ou (objs t) → ou kw = some (.cells [fnW kw ko]) → ou ko = none → ou kt = none → ko ≠ kt → (listT out (erT t)).length ≤ 1048576 →
  AFn Tryd.prog Γ 87 [.one (.ptr (.o t.id) 0), .one (.ptr (.o kw) 0), .one (.ptr (.o ko) 0)] (ouS ou ko kt (out.map cEx)) (fun r ou' => r = .one (int (((listT out (erT t)).length : Int) - 1)) ∧ ∃ kt', ou kt' = none ∧ ko ≠ kt' ∧ ou' = ouS ou ko kt' ((listT out (erT t)).map cEx))
set_option maxHeartbeats 1000000 in
theorem listO_ok (hΓ : ∀ g cs, (g, cs) ∈ Γ → idsL isO cs) : ∀ t : LTr, okT (erT t) → plainL t → ListOwn Γ t
  | .mk i o n nb b lks a, hok, hpl => by
    have ih : ∀ t ∈ lks, ListOwn Γ t := fun t ht => listO_ok hΓ t (okT_kid hok (er_kid (t := .mk i o n nb b lks a) (by simpa [LTr.kids] using ht))) (plain_kid hpl (by simpa [LTr.kids] using ht))
    obtain ⟨hb, hk, ha, ⟨hab, _⟩, hks⟩ := hok
    obtain ⟨rfl, hpa, _⟩ := hpl
    intro ou kw ko kt out hou0 hOw hw ho ht hne hsz
    have hown : ∀ t ∈ lks, Owns ou (objs t) := fun t ht => owns_kid hOw (by simpa [LTr.kids] using ht)
    have hi0 : ou i = some (.cells (lC (.mk i o n none b lks a))) := owns_node hOw
    simp only [lC, bC, plain_alts hpa] at hi0
    have hi : ∀ kt es, ou kt = none → ouS ou ko kt es i = some (.cells [int o, int n, .sl 1 (b.map cI), .sl 1 (kC lks), .sl 2 ((a.map LAlt.er).map cAlt)]) := fun kt es hkt => (ouS_w (fun e => by rw [e, ho] at hi0; cases hi0) (fun e => by rw [e, hkt] at hi0; cases hi0) es).trans hi0
    have hkl : (kC lks).length = lks.length := kC_len lks
    obtain ⟨ks, hkse⟩ : ∃ ks, ks = erTs lks := ⟨_, rfl⟩
    have hkn : ks.length = lks.length := by rw [hkse, erTs_eq, List.length_map]
    have hkg : ∀ {j : Nat} {s : LTr}, lks[j]? = some s → ks[j]? = some (erT s) := fun h => by rw [hkse, erTs_eq]; simp [h]
    simp only [erT] at hsz ⊢
    rw [← hkse] at hsz hk ⊢
    generalize hae : a.map LAlt.er = al at *
    clear hkse hae
    have hwo : kw ≠ ko := fun e => by rw [e, ho] at hw; cases hw
    have hsz2 : (listTs out ks).1.length < 1048576 := by simp only [listT, List.length_append, List.length_singleton] at hsz; omega
    refine AFn.walk 70 tabOk Tryd.func87 rfl (by kernel_rfl) rfl rfl fun hou => ?_
    have hcl := Clone_ok (Γ := Γ) b hb
    refine zA ?_
    refine ACode.drawXA tabOk 15 14 [(3, .one (int o)), (7, .one (int n)), (11, .one (.sl 1 (b.map cI))), (12, .one (.sl 1 (b.map cI)))] follows (by kernel_rfl) rfl rfl rfl rfl rfl rfl rfl rfl rfl ?_ ?_ ?_
    · refine .step rfl (HStep.plain rfl (AStep.loadOwn tabOk rfl rfl rfl rfl rfl (hi _ _ ht) rfl)) ?_
      refine .step rfl (HStep.plain rfl (AStep.loadOwn tabOk rfl rfl rfl rfl rfl (hi _ _ ht) rfl)) ?_
      refine .step rfl (HStep.plain rfl (AStep.loadOwn tabOk rfl rfl rfl rfl rfl (hi _ _ ht) rfl)) ?_
      exact .call hΓ hcl hou (by simp) rfl rfl rfl rfl rfl rfl .nil
    · refine .step rfl (HStep.plain rfl (AStep.loadOwn tabOk rfl rfl rfl rfl rfl (hi _ _ ht) rfl)) ?_
      refine .step rfl (HStep.plain rfl (AStep.loadOwn tabOk rfl rfl rfl rfl rfl (hi _ _ ht) rfl)) ?_
      refine .step rfl (HStep.plain rfl (AStep.loadOwn tabOk rfl rfl rfl rfl rfl (hi _ _ ht) rfl)) ?_
      exact .call hΓ hcl hou (by simp) rfl rfl rfl rfl rfl rfl .nil
    repeat' first | refine zN ?_ | ((with_reducible refine oj ?_); first | refine zix ?_ | refine zow rfl rfl (hi _ _ ht) ?_)
    refine ACode.grow 0 3 3 1 rfl rfl ?_
    refine ACode.loopR hΓ (α := Nat × Nat) (fun c => [(29, .one (int c.1)), (28, .one (int (kC lks).length)), (27, .one (.sl 1 (kC lks))), (5, .one (.ptr (.l 0) 0)), (2, .one (.ptr (.o ko) 0)), (1, .one (.ptr (.o kw) 0)), (0, .one (.ptr (.o i) 0))])
      (fun c => ⟨2, [(1, .tok 3 1 c.1), (0, .cells [int o, int n, .sl 1 (b.map cI), .gs 1 ((listTs out (ks.take c.1)).2.map cI) (.l 1), .lit (.slice none 0 0)])], ouS ou ko c.2 ((listTs out (ks.take c.1)).1.map cEx)⟩)
      (fun m c => c.1 ≤ ks.length ∧ (ou c.2 = none ∧ ko ≠ c.2) ∧ m = ks.length - c.1) (a0 := (0, kt)) (ρ := id) ⟨by omega, ⟨ht, hne⟩, rfl⟩ (LessR.of rfl (by (repeat' first | exact FrSub.nil | refine zfc ?_ | refine zfo ?_ | refine zfp ?_)) (by simp) ?_ rfl (by simp [listTs]; rfl) hou) fun m c hi => ?_
    · repeat' first | exact LoSub.nil | refine zlc ?_ | refine zld ?_ ?_ | rfl
      all_goals (simp [AObj.ren, renL, AC.ren, listTs]; rfl)
    obtain ⟨q, kt⟩ := c
    obtain ⟨hil, ⟨ht, hne⟩, rfl⟩ := hi
    simp only at hil ht hne
    have hwt : kw ≠ kt := fun e => by rw [e, ht] at hw; cases hw
    have hle : (listTs out (ks.take q)).1.length ≤ (listTs out ks).1.length := by
      have := listTs_app (ks.take q) (ks.drop q) out
      rw [List.take_append_drop] at this
      rw [this]; exact listTs_le _ _
    refine zA ?_
    refine ACode.cond rfl (fun hb3 => ?_) (fun hb3 => ?_)
    · have hlt2 : q < ks.length := by simp [kC_len] at hb3; omega
      obtain ⟨lt, hlt3⟩ := get_of_lt (l := lks) (i := q) (by omega)
      obtain ⟨t, hte⟩ : ∃ t, t = erT lt := ⟨_, rfl⟩
      have ht2 : ks[q]? = some t := by rw [hte]; exact hkg hlt3
      have hsn := listTs_snoc t (ks.take q) out
      rw [← take_get ht2] at hsn
      have hle2 : (listT (listTs out (ks.take q)).1 t).length ≤ 1048576 := by
        have := listTs_app (ks.take (q + 1)) (ks.drop (q + 1)) out
        rw [List.take_append_drop] at this
        have h2 := listTs_le (ks.drop (q + 1)) (listTs out (ks.take (q + 1))).1
        rw [← this, hsn] at h2
        simp only at h2
        omega
      have hcall := ih lt (List.mem_of_getElem? hlt3) ou kw ko kt (listTs out (ks.take q)).1 hou0 (hown lt (List.mem_of_getElem? hlt3)) hw ho ht hne (by rw [← hte]; exact hle2)
      rw [← hte] at hcall
      have hil2 : ((listTs out (ks.take q)).2.map cI).length = q := by rw [List.length_map, listTs_ix_len]; simp; omega
      refine zA ?_
      refine AOps.step1 rfl rfl rfl (AStep.indexAddr tabOk rfl rfl rfl rfl rfl rfl (.inl rfl) rfl (by omega) (kC_get hlt3)) ?_
      refine zA ?_
      refine ACode.drawXR (va := .one (int (((listT (listTs out (ks.take q)).1 t).length : Int) - 1))) tabOk 6 4 [(2, .one (fnW kw ko))]
        (fun σ => ∃ kt', ou kt' = none ∧ ko ≠ kt' ∧ σ = ⟨2, [(1, .tok 3 1 q), (0, .cells [int o, int n, .sl 1 (b.map cI), .gs 1 ((listTs out (ks.take q)).2.map cI) (.l 1), .lit (.slice none 0 0)])], ouS ou ko kt' ((listT (listTs out (ks.take q)).1 t).map cEx)⟩)
        follows (by kernel_rfl) rfl rfl rfl rfl rfl ?_ rfl ⟨rfl, rfl⟩ rfl ?_ ?_ ?_ ?_
      · rintro σ ⟨kt', h1, h2, rfl⟩; rfl
      · refine AStepR.call hΓ rfl rfl rfl rfl (by simp) (ouS_ok hou0 (by simp)) hcall fun r ou' hq _ _ => ?_
        obtain ⟨rfl, kt', h1, h2, rfl⟩ := hq
        exact ⟨rfl, kt', h1, h2, rfl⟩
      · exact .step rfl (HStep.plain rfl (AStep.loadOwn tabOk rfl rfl rfl rfl rfl (ouS_w hwo hwt _ |>.trans hw) rfl)) .nil
      · rintro σ ⟨kt', h1, h2, rfl⟩
        have hwt' : kw ≠ kt' := fun e => by rw [e, h1] at hw; cases hw
        exact .step rfl (HStep.plain rfl (AStep.loadOwn tabOk rfl rfl rfl rfl rfl (ouS_w hwo hwt' _ |>.trans hw) rfl)) .nil
      rintro σ ⟨kt', h1, h2, rfl⟩
      refine zA ?_
      refine AOps.app tabOk rfl rfl rfl rfl rfl rfl rfl rfl rfl (Base.gs' _ _ _ _ _ (by rfl) hil2.symm) (.sl _ _) rfl ?_ ?_ ?_
      · rw [hil2]; show (q + 1) * 8 ≤ _; omega
      · rw [hil2]; show q + 1 ≤ _; omega
      refine zM ?_
      refine cInv ⟨ks.length - (q + 1), (q + 1, kt'), fun k => if k = 1 then 2 else k, by omega, ⟨by omega, ⟨h1, h2⟩, rfl⟩, LessR.of rfl (by (repeat' first | exact FrSub.nil | refine zfc ?_ | refine zfo ?_ | refine zfp ?_)) (by simp) ?_ rfl (by simp only [hsn]; rfl) (ouS_ok hou0 (by simp))⟩
      repeat' first | exact LoSub.nil | refine zlc ?_ | refine zld ?_ ?_ | rfl
      · simp only [AObj.ren, List.length_append, hil2]; rfl
      · simp only [hsn]; simp only [AObj.ren, renL, AC.ren, ren_cIs]; rw [List.map_append]; rfl
    have hlt2 : q = ks.length := by simp [kC_len] at hb3; omega
    subst hlt2
    rw [List.take_length] at *
    repeat' first | refine zN ?_ | ((with_reducible refine oj ?_); first | refine zix ?_ | refine zow rfl rfl (hi _ _ ht) ?_)
    refine ACode.grow 0 4 89 2 rfl rfl ?_
    refine ACode.loopR hΓ (α := Nat) (fun q => [(47, .one (int q)), (46, .one (int (al.map cAlt).length)), (45, .one (.sl 2 (al.map cAlt))), (5, .one (.ptr (.l 0) 0)), (2, .one (.ptr (.o ko) 0)), (1, .one (.ptr (.o kw) 0)), (0, .one (.ptr (.o i) 0))])
      (fun q => ⟨3, [(2, .tok 89 2 q), (0, .cells [int o, int n, .sl 1 (b.map cI), .gs 1 ((listTs out ks).2.map cI) (.l 1), .gs 2 ((al.take q).map cAlt) (.l 2)])], ouS ou ko kt ((listTs out ks).1.map cEx)⟩)
      (fun m q => q ≤ al.length ∧ m = al.length - q) (a0 := 0) (ρ := id) ⟨by omega, rfl⟩ (LessR.of rfl (by (repeat' first | exact FrSub.nil | refine zfc ?_ | refine zfo ?_ | refine zfp ?_)) (by simp) ?_ rfl rfl (ouS_ok hou0 (by simp))) fun m q hq => ?_
    · repeat' first | exact LoSub.nil | refine zlc ?_ | refine zld ?_ ?_ | rfl
      all_goals (simp [AObj.ren, renL, AC.ren]; exact ⟨rfl, rfl⟩)
    obtain ⟨hil, rfl⟩ := hq
    have hou2 : OuOk (ouS ou ko kt ((listTs out ks).1.map cEx)) := ouS_ok hou0 (by simp)
    refine zA ?_
    refine ACode.cond rfl (fun hb3 => ?_) (fun hb3 => ?_)
    · have hlt2 : q < al.length := by simpa using hb3
      obtain ⟨c, hc⟩ := get_of_lt hlt2
      have hal : ((al.take q).map cAlt).length = q := by simp; omega
      have hca := Clone_ok (Γ := Γ) c.binds (hab c (List.mem_of_getElem? hc))
      refine zA ?_
      refine AOps.step1 rfl rfl rfl (AStep.indexAddr tabOk rfl rfl rfl rfl rfl rfl (.inl rfl) rfl (by omega) (map_get hc)) ?_
      refine zA ?_
      refine ACode.drawX tabOk 9 [(6, .one (.sl 1 (c.binds.map cI)))] follows (by kernel_rfl) rfl rfl rfl rfl (.call hΓ hca hou2 (by simp) rfl rfl rfl rfl rfl rfl .nil) ?_
      refine zA ?_
      refine AOps.app tabOk rfl rfl rfl rfl rfl rfl rfl rfl rfl (Base.gs' _ _ _ _ _ (by rfl) hal.symm) (.sl _ _) rfl ?_ ?_ ?_
      · rw [hal]; show (q + 1) * 32 ≤ _; omega
      · rw [hal]; show q + 1 ≤ _; omega
      refine zM ?_
      refine cInv ⟨al.length - (q + 1), q + 1, fun k => if k = 2 then 4 else k, by omega, ⟨by omega, rfl⟩, LessR.of rfl (by (repeat' first | exact FrSub.nil | refine zfc ?_ | refine zfo ?_ | refine zfp ?_)) (by simp) ?_ rfl rfl hou2⟩
      repeat' first | exact LoSub.nil | refine zlc ?_ | refine zld ?_ ?_ | rfl
      · simp only [AObj.ren, List.length_append, hal]; rfl
      · rw [take_get hc]; simp only [AObj.ren, renL, AC.ren, ren_cIs, ren_cAlts]; rw [List.map_append]; rfl
    have hlt2 : q = al.length := by simp at hb3; omega
    subst hlt2
    rw [List.take_length]
    refine zA ?_
    refine AOps.step1 rfl rfl rfl (AStep.loadOwn tabOk rfl rfl rfl rfl rfl (ouS_o hne _) rfl) ?_
    (first | ((with_reducible refine oj ?_); refine zau ?_) | (with_reducible refine zst ?_) | ((with_reducible refine cExitMiss ?_ ?_); rfl) | (with_reducible refine ok ?_; first | refine ACode.condT rfl ?_ | refine ACode.condF rfl ?_))
    refine AOps.wk 64 rfl (y := .agg (cEx ⟨o, n, b, (listTs out ks).2, al⟩)) (WkF.agg ?_) ?_
    · exact .cons (.refl _) (.cons (.refl _) (.cons (.refl _) (.cons (.gsE rfl) (.cons (.gsE rfl) .nil))))
    refine zA ?_
    have hT : listT out (.mk o n b ks al) = (listTs out ks).1 ++ [⟨o, n, b, (listTs out ks).2, al⟩] := by simp only [listT]
    have hmap : (listTs out ks).1.map cEx ++ [cEx ⟨o, n, b, (listTs out ks).2, al⟩] = (listT out (.mk o n b ks al)).map cEx := by rw [hT, List.map_append]; rfl
    refine AOps.app (es := (listTs out ks).1.map cEx) tabOk rfl rfl rfl rfl rfl rfl rfl rfl rfl (Base.gs' _ 53 5 _ (.o kt) (ouS_t ou ko kt _) rfl) (.sl 5 [cEx ⟨o, n, b, (listTs out ks).2, al⟩]) rfl ?_ ?_ ?_
    · simp; show (_ + 1) * 88 ≤ _; omega
    · simp; omega
    rw [hmap]
    refine AOps.storeOwn (cs := [.gs 5 ((listTs out ks).1.map cEx) (.o kt)]) tabOk rfl rfl rfl rfl rfl rfl rfl (show (bif Nat.beq ko kt then some AObj.dead else ouS ou ko kt ((listTs out ks).1.map cEx) ko) = _ by rw [beq_no hne]; exact ouS_o hne _) (by simp) ?_
    refine AOps.cede 3 (show 3 < 4 by omega) fun k hk => ⟨[(2, .one (.ptr (.o ko) 0))], ⟨4, [], ouS ou ko k ((listT out (.mk o n b ks al)).map cEx)⟩, ⟨fun d x hd => ?_, rfl, fun i x hx => ?_⟩, ?_⟩
    · by_cases e : 2 = d
      · subst e
        simp [Fr.get] at hd; subst hd
        exact ⟨_, rfl, WkF.ofEq rfl⟩
      · simp [Fr.get, beq_no e] at hd
    · have hk' : (bif Nat.beq k ko then some (AObj.cells [.gs 5 ((listT out (.mk o n b ks al)).map cEx) (.l 3)]) else bif Nat.beq k kt then some AObj.dead else ouS ou ko kt ((listTs out ks).1.map cEx) k) = none := hk
      have k1 : k ≠ ko := fun e => by subst e; simp at hk'
      rw [beq_no k1] at hk'
      have k2 : k ≠ kt := fun e => by subst e; simp at hk'
      rw [beq_no k2] at hk'
      simp only [cond_false, ouS_w k1 k2] at hk'
      cases i with
      | l m => cases hx
      | o m =>
        have hx' : ouS ou ko k ((listT out (.mk o n b ks al)).map cEx) m = some x := hx
        by_cases e : m = k
        · subst e
          rw [ouS_t] at hx'; cases hx'
          exact ⟨.l 3, _, rfl, rfl, rfl⟩
        · by_cases e2 : m = ko
          · subst e2
            rw [ouS_o e] at hx'; cases hx'
            refine ⟨.o m, .cells [.gs 5 ((listT out (.mk o n b ks al)).map cEx) (.l 3)], ?_, rfl, ?_⟩
            · show (bif Nat.beq m m then _ else _) = _; rw [beq_self]; rfl
            · simp only [AObj.sub, subL, AC.sub]; rw [subS_o _ (by simp)]; rfl
          · rw [ouS_w e2 e] at hx'
            have e3 : m ≠ kt := fun e => by rw [e, ht] at hx'; cases hx'
            refine ⟨.o m, x, ?_, rfl, (AObj.sub_o x (hou0 m x hx')).symm⟩
            show (bif Nat.beq m ko then _ else bif Nat.beq m kt then _ else ouS ou ko kt _ m) = _
            rw [beq_no e2, beq_no e3]
            exact (ouS_w e2 e3 _).trans hx'
    · have hk' : (bif Nat.beq k ko then some (AObj.cells [.gs 5 ((listT out (.mk o n b ks al)).map cEx) (.l 3)]) else bif Nat.beq k kt then some AObj.dead else ouS ou ko kt ((listTs out ks).1.map cEx) k) = none := hk
      have k1 : k ≠ ko := fun e => by subst e; simp at hk'
      rw [beq_no k1] at hk'
      have k2 : k ≠ kt := fun e => by subst e; simp at hk'
      rw [beq_no k2] at hk'
      simp only [cond_false, ouS_w k1 k2] at hk'
      refine zA ?_
      refine AOps.step1 rfl rfl rfl (AStep.loadOwn tabOk rfl rfl rfl rfl rfl (ouS_o (Ne.symm k1) _) rfl) ?_
      refine zM ?_
      refine AFn.fin' rfl (WkF.ofEq ?_) (by simp) (ouS_ok hou0 (by simp)) ⟨rfl, k, hk', Ne.symm k1, rfl⟩
      simp
end Go.Proofs.YtgdionbeeodaaaaDoor
