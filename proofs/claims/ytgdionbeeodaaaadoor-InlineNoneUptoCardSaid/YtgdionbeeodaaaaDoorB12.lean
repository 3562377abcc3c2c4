/- List and a copy, walked over a tree that is the caller's own. -/
import Derived.Test.YtgdionbeeodaaaaDoorB11
import Derived.Test.YtgdionbeeodaaaaDoorRows
import Derived.Lib.LaidTab
set_option linter.unusedVariables false
set_option linter.unusedSimpArgs false
namespace Go.Proofs.YtgdionbeeodaaaaDoor
open Go Go.Abs Go.CoreX
set_option maxRecDepth 10000
variable {Γ : List (Nat × List AC)}
def IsR (X : FV) (ou : Outer) (r : FV) (ou' : Outer) : Prop := r = X ∧ ou' = ou
theorem ListO_ok (hΓ : ∀ g cs, (g, cs) ∈ Γ → idsL isO cs) (t : LTr) (ht : okT (erT t)) (hpl : plainL t) (hsz : (listT [] (erT t)).length ≤ 1048576) (ou : Outer) (hOw : Owns ou (objs t)) : AFn Tryd.prog Γ 48 [.one (.ptr (.o t.id) 0)] ou (IsR (.one (.sl 5 ((listT [] (erT t)).map cEx))) ou) := by
  refine AFn.walk 10 tabOk Tryd.func48 rfl (by kernel_rfl) rfl rfl fun hou => ?_
  iterate 22 (first | ((with_reducible refine oj ?_); refine zau ?_) | (with_reducible refine zst ?_) | ((with_reducible refine cExitMiss ?_ ?_); rfl) | (with_reducible refine ok ?_; first | refine ACode.condT rfl ?_ | refine ACode.condF rfl ?_))
  refine ACode.grow 0 0 53 5 rfl rfl ?_
  refine zA ?_
  refine AOps.cede 0 (show 0 < 3 by omega) fun ko hko => ⟨[(7, .one (.ptr (.o t.id) 0)), (6, .one (.fn (.func 87) [] [.ptr (.l 1) 0, .ptr (.o ko) 0])), (3, .one (.ptr (.o ko) 0))],
    ⟨3, [(2, .tok 53 5 0), (1, .cells [.fn (.func 87) [] [.ptr (.l 1) 0, .ptr (.o ko) 0]])], updO ou ko (.cells [.gs 5 [] (.l 2)])⟩, ⟨CedFr.get ?_, rfl, fun i x hx => ?_⟩, ?_⟩
  · exact .cons rfl (rfl) (.cons rfl rfl (.cons rfl rfl .nil))
  · have hko : ou ko = none := hko
    cases i with
    | l m =>
      by_cases e : 2 = m
      · subst e; cases hx; exact ⟨.l 2, _, rfl, rfl, rfl⟩
      · have hx' : lookL m [(1, AObj.cells [.fn (.func 87) [] [.ptr (.l 1) 0, .ptr (.o ko) 0]])] = some x := by simpa [St.get, lookL, beq_no e] using hx
        by_cases e1 : 1 = m
        · subst e1; cases hx'; exact ⟨.l 1, _, rfl, rfl, rfl⟩
        · simp [lookL, beq_no e1] at hx'
    | o m =>
      have hx' : updO ou ko (.cells [.gs 5 [] (.l 2)]) m = some x := hx
      by_cases e : ko = m
      · subst e; rw [updO_same] at hx'; cases hx'; exact ⟨.l 0, _, rfl, rfl, rfl⟩
      · rw [updO_ne _ e] at hx'
        exact ⟨.o m, x, hx', rfl, (AObj.sub_o x (hou m x hx')).symm⟩
  have hko : ou ko = none := hko
  refine AOps.cede 1 (show 1 < 3 by omega) fun kw hkw => ⟨[(7, .one (.ptr (.o t.id) 0)), (6, .one (fnW kw ko)), (3, .one (.ptr (.o ko) 0))],
    ⟨3, [(2, .tok 53 5 0)], updO (updO ou ko (.cells [.gs 5 [] (.l 2)])) kw (.cells [fnW kw ko])⟩, ⟨CedFr.get ?_, rfl, fun i x hx => ?_⟩, ?_⟩
  · exact .cons rfl (rfl) (.cons rfl rfl (.cons rfl rfl .nil))
  · have hkw : updO ou ko (.cells [.gs 5 [] (.l 2)]) kw = none := hkw
    cases i with
    | l m =>
      by_cases e : 2 = m
      · subst e; cases hx; exact ⟨.l 2, _, rfl, rfl, rfl⟩
      · simp [St.get, lookL, beq_no e] at hx
    | o m =>
      have hx' : updO (updO ou ko (.cells [.gs 5 [] (.l 2)])) kw (.cells [fnW kw ko]) m = some x := hx
      by_cases e : kw = m
      · subst e; rw [updO_same] at hx'; cases hx'; exact ⟨.l 1, _, rfl, rfl, rfl⟩
      · rw [updO_ne _ e] at hx'
        by_cases e2 : ko = m
        · subst e2; rw [updO_same] at hx'; cases hx'
          exact ⟨.o ko, _, updO_same _ _ _, rfl, rfl⟩
        · have hx2 := hx'
          rw [updO_ne _ e2] at hx2
          exact ⟨.o m, x, hx', rfl, (AObj.sub_o x (hou m x hx2)).symm⟩
  have hkw : updO ou ko (.cells [.gs 5 [] (.l 2)]) kw = none := hkw
  have hwo : ko ≠ kw := fun e => by subst e; rw [updO_same] at hkw; cases hkw
  rw [updO_ne _ hwo] at hkw
  refine AOps.cede 2 (show 2 < 3 by omega) fun kt hkt => ⟨[(7, .one (.ptr (.o t.id) 0)), (6, .one (fnW kw ko)), (3, .one (.ptr (.o ko) 0))],
    ⟨3, [], ouS (updO ou kw (.cells [fnW kw ko])) ko kt (([] : List Ex).map cEx)⟩, ⟨CedFr.get ?_, rfl, fun i x hx => ?_⟩, ?_⟩
  · exact .cons rfl (rfl) (.cons rfl rfl (.cons rfl rfl .nil))
  · have hkt : updO (updO ou ko (.cells [.gs 5 [] (.l 2)])) kw (.cells [fnW kw ko]) kt = none := hkt
    have hkto : ko ≠ kt := fun e => by subst e; rw [updO_ne _ (Ne.symm hwo), updO_same] at hkt; cases hkt
    cases i with
    | l m => cases hx
    | o m =>
      have hx' : ouS (updO ou kw (.cells [fnW kw ko])) ko kt (([] : List Ex).map cEx) m = some x := hx
      by_cases e : m = kt
      · subst e; rw [ouS_t] at hx'; cases hx'; exact ⟨.l 2, _, rfl, rfl, rfl⟩
      · by_cases e2 : m = ko
        · subst e2; rw [ouS_o hkto] at hx'; cases hx'
          refine ⟨.o m, .cells [.gs 5 [] (.l 2)], ?_, rfl, rfl⟩
          show updO (updO ou m (.cells [.gs 5 [] (.l 2)])) kw (.cells [fnW kw m]) m = _
          rw [updO_ne _ (Ne.symm hwo), updO_same]
        · rw [ouS_w e2 e] at hx'
          by_cases e3 : kw = m
          · subst e3; rw [updO_same] at hx'; cases hx'
            exact ⟨.o kw, _, updO_same _ _ _, rfl, rfl⟩
          · rw [updO_ne _ e3] at hx'
            refine ⟨.o m, x, ?_, rfl, (AObj.sub_o x (hou m x hx')).symm⟩
            show updO (updO ou ko (.cells [.gs 5 [] (.l 2)])) kw (.cells [fnW kw ko]) m = _
            rw [updO_ne _ e3, updO_ne _ (Ne.symm e2)]; exact hx'
  have hkt : updO (updO ou ko (.cells [.gs 5 [] (.l 2)])) kw (.cells [fnW kw ko]) kt = none := hkt
  have hwt : kw ≠ kt := fun e => by subst e; rw [updO_same] at hkt; cases hkt
  rw [updO_ne _ hwt] at hkt
  have hot : ko ≠ kt := fun e => by subst e; rw [updO_same] at hkt; cases hkt
  rw [updO_ne _ hot] at hkt
  have hob : OuOk (updO ou kw (.cells [fnW kw ko])) := fun k o hk => by
    by_cases e : kw = k
    · subst e; rw [updO_same] at hk; cases hk; simp
    · rw [updO_ne _ e] at hk; exact hou k o hk
  have hOw2 : Owns (updO ou kw (.cells [fnW kw ko])) (objs t) := hOw.frame fun j hj => by
    obtain ⟨o, hp⟩ := of_keys hj
    have hne : kw ≠ j := fun e => by
      have h1 : ou j = some o := hOw _ hp
      rw [← e, hkw] at h1; cases h1
    exact updO_ne _ hne _
  have hcall := listO_ok hΓ t ht hpl (updO ou kw (.cells [fnW kw ko])) kw ko kt [] hob hOw2 (updO_same _ _ _) (by rw [updO_ne _ (Ne.symm hwo)]; exact hko) (by rw [updO_ne _ hwt]; exact hkt) hot hsz
  refine AOps.call1 hΓ rfl rfl rfl rfl rfl rfl rfl (by simp) (ouS_ok hob (by simp)) hcall fun r ou' hq hids hou' => ?_
  obtain ⟨rfl, kt', h1, h2, rfl⟩ := hq
  refine zA ?_
  refine AOps.step1 rfl rfl rfl (AStep.loadOwn tabOk rfl rfl rfl rfl rfl (ouS_o h2 _) rfl) ?_
  refine AOps.wk 9 rfl (y := .one (.sl 5 ((listT [] (erT t)).map cEx))) (.one (.gsE rfl)) ?_
  refine AOps.lessO ⟨3, [], ou⟩ rfl (fun i o ho => ?_) ?_
  · cases i with
    | l m => cases ho
    | o m =>
      have ho' : ou m = some o := ho
      show ouS (updO ou kw (.cells [fnW kw ko])) ko kt' _ m = some o
      have e1 : m ≠ ko := fun e => by rw [e, hko] at ho'; cases ho'
      have e2 : kw ≠ m := fun e => by rw [← e, hkw] at ho'; cases ho'
      have e3 : m ≠ kt' := fun e => by
        rw [← e, updO_ne _ e2] at h1
        rw [h1] at ho'; cases ho'
      rw [ouS_w e1 e3, updO_ne _ e2]; exact ho'
  refine zA ?_
  exact AFn.fin' rfl (WkF.ofEq rfl) (by simp) hou ⟨rfl, rfl⟩
theorem copiedO_ok (hΓ : ∀ g cs, (g, cs) ∈ Γ → idsL isO cs) (t : LTr) (hT : okT (erT t)) (hpl : plainL t) (hl : cntN (erT t) ≤ 1048576) (ou : Outer) (hOw : Owns ou (objs t)) : AFn Tryd.prog Γ 111 [.one (.ptr (.o t.id) 0)] ou (GrowQ (listT [] (erT t)) ou) := by
  have hll : (listT [] (erT t)).length ≤ 1048576 := by have := cntN_list (erT t) []; simp at this; omega
  have hli := ListO_ok hΓ t hT hpl hll ou hOw
  refine AFn.walk 6 tabOk Tryd.func111 rfl (by kernel_rfl) rfl rfl fun hou => ?_
  refine zA ?_
  refine AOps.call1 hΓ rfl rfl rfl rfl rfl rfl rfl (by simp) hou hli fun r ou' hq hids hou' => ?_
  obtain ⟨rfl, rfl⟩ := hq
  refine AOps.call1 hΓ rfl rfl rfl rfl rfl rfl rfl (by simp) hou (GrowN_ok hΓ _ (okB_list (okT_pOk _ hT) hl).eo (isTree_list _).k (isTree_list _) _) fun r ou' hq hids hou' => ?_
  obtain ⟨t', rfl, h⟩ := hq
  refine zA ?_
  exact AFn.fin' rfl (WkF.refl _) (by simp) hou' ⟨t', rfl, h⟩
end Go.Proofs.YtgdionbeeodaaaaDoor
namespace Go.Proofs.YtgdionbeeodaaaaDoor
open Go Go.Abs Go.CoreX
set_option maxRecDepth 10000
variable {Γ : List (Nat × List AC)}
def DefQ (lts : List LTr) (X : Option Tr) (ou : Outer) (r : FV) (ou' : Outer) : Prop := ou' = ou ∧ match X with
  | none => r = nilP
  | some F => ∃ t ∈ lts, ∃ s ∈ t.kids, r = .one (.ptr (.o s.id) 0) ∧ erT s = F
def defR (id : Int) (l : List Tr) : Option Tr → Option Tr
  | some f => some f
  | none => defT id l
theorem defT_cons (id : Int) (t : Tr) (l : List Tr) : defT id (t :: l) = defR id l (defN id t t.binds 0) := by
  simp only [defT]
  cases defN id t t.binds 0 <;> rfl
theorem kidT_get {t : Tr} {i : Nat} {s : Tr} (h : t.kids[i]? = some s) : kidT t i = s := by
  unfold kidT
  rw [List.getD_eq_getElem?_getD, h]; rfl
set_option maxHeartbeats 1000000 in
theorem definition_ok (hΓ : ∀ g cs, (g, cs) ∈ Γ → idsL isO cs) (nm : Int) (root : Nat) (lts : List LTr) (hlen : lts.length ≤ 1048576) (hpl : ∀ t ∈ lts, plainL t) (hok : ∀ t ∈ lts, okT (erT t)) (hsh : ∀ t ∈ lts, allT shpL (erT t)) (ou : Outer) (ho : ∀ t ∈ lts, Owns ou (objs t)) :
    AFn Tryd.prog Γ 116 [.one (.box [.sl 1 (kC lts), .ptr (.o root) 0]), .one (int nm)] ou (DefQ lts (defT nm (lts.map erT)) ou) := by
  obtain ⟨X, hX⟩ : ∃ X, X = defT nm (lts.map erT) := ⟨_, rfl⟩
  rw [← hX]
  refine AFn.walk 67 tabOk Tryd.func116 rfl (by kernel_rfl) rfl rfl fun hou => ?_
  refine zA ?_
  refine ACode.loopR hΓ (α := Nat) (fun q => [(14, .one (int q)), (13, .one (int (kC lts).length)), (12, .one (.sl 1 (kC lts))), (1, .one (int nm))])
    (fun q => ⟨0, [], ou⟩) (fun m q => q ≤ lts.length ∧ X = defT nm ((lts.map erT).drop q) ∧ m = lts.length - q) (a0 := 0) (ρ := id) ⟨by omega, hX, rfl⟩ (LessR.of rfl (by (repeat' first | exact FrSub.nil | refine zfc ?_ | refine zfo ?_ | refine zfp ?_)) (by simp) (by repeat' first | exact LoSub.nil | refine zlc ?_ | refine zld ?_ ?_ | rfl) rfl rfl hou) fun m q hq => ?_
  obtain ⟨hql, hXq, rfl⟩ := hq
  refine zA ?_
  refine ACode.cond rfl (fun hb2 => ?_) (fun hb2 => ?_)
  · have hlt : q < lts.length := by simp [kC_len] at hb2; omega
    clear hb2
    obtain ⟨t, ht⟩ := get_of_lt hlt
    have htm := List.mem_of_getElem? ht
    have hd : (lts.map erT).drop q = erT t :: (lts.map erT).drop (q + 1) := by
      rw [List.drop_eq_getElem_cons (by simpa using hlt)]
      congr 1
      obtain ⟨_, h2⟩ := List.getElem?_eq_some_iff.1 ht
      simp [h2]
    rw [hd, defT_cons] at hXq
    obtain ⟨R, hR⟩ : ∃ R, R = (lts.map erT).drop (q + 1) := ⟨_, rfl⟩
    rw [← hR] at hXq
    have hpt := hpl t htm
    have hot := ho t htm
    have hkt := hok t htm
    have hst := hsh t htm
    have hit := kC_get ht
    obtain ⟨t0, ht0⟩ : ∃ t0, t0 = t := ⟨_, rfl⟩
    cases t with
    | mk i o n nb b ks a =>
    obtain rfl : nb = none := hpt.1
    have hi : ou i = some (.cells (lC (.mk i o n none b ks a))) := owns_node hot
    simp only [lC, bC] at hi
    have hbl : b.length ≤ 1048576 := hkt.1
    have hbi : (erT (.mk i o n none b ks a)).binds = b := rfl
    have hopi : (erT (.mk i o n none b ks a)).op = o := rfl
    have hkk : (erT (.mk i o n none b ks a)).kids = ks.map erT := er_kids _
    rw [hbi] at hXq
    have hkid : ∀ p, p < b.length → o = 4 ∨ o = 5 → p < ks.length := fun p hp h => by
      rcases h with h4 | h5
      · obtain ⟨_, _, _, h1, h2, _⟩ := shp_let (o := o) (n := n) (b := b) (k := erTs ks) (a := a.map LAlt.er) hst h4
        have := congrArg List.length h1
        have h3 := congrArg List.length h2
        rw [erTs_eq, List.length_map] at h3
        simp at this h3; omega
      · have := (shp_rec (o := o) (n := n) (b := b) (k := erTs ks) (a := a.map LAlt.er) hst h5).1
        rw [erTs_eq, List.length_map] at this; omega
    refine zA ?_
    refine AOps.step1 rfl rfl rfl (AStep.indexAddr tabOk rfl rfl rfl rfl rfl rfl (.inl rfl) rfl (by omega) hit) ?_
    repeat' first | refine zN ?_ | ((with_reducible refine oj ?_); first | refine zix ?_ | refine zow rfl rfl hi ?_)
    refine ACode.loopR hΓ (α := Nat) (fun p => [(23, .one (int p)), (22, .one (int (b.map cI).length)), (21, .one (.sl 1 (b.map cI))), (14, .one (int q)), (13, .one (int (kC lts).length)), (12, .one (.sl 1 (kC lts))), (6, .one (.ptr (.o i) 0)), (1, .one (int nm))])
      (fun p => ⟨0, [], ou⟩) (fun m p => p ≤ b.length ∧ X = defR nm R (defN nm (erT (.mk i o n none b ks a)) (b.drop p) p) ∧ m = b.length - p) (a0 := 0) (ρ := id) ⟨by omega, hXq, rfl⟩ (LessR.of rfl (by (repeat' first | exact FrSub.nil | refine zfc ?_ | refine zfo ?_ | refine zfp ?_)) (by simp) (by repeat' first | exact LoSub.nil | refine zlc ?_ | refine zld ?_ ?_ | rfl) rfl rfl hou) fun m p hp => ?_
    obtain ⟨hpl2, hXp, rfl⟩ := hp
    refine zA ?_
    refine ACode.cond rfl (fun hb3 => ?_) (fun hb3 => ?_)
    · have hlt2 : p < b.length := by simpa using hb3
      clear hb3
      obtain ⟨v, hv⟩ := get_of_lt hlt2
      have hdp : b.drop p = v :: b.drop (p + 1) := by
        obtain ⟨h1, h2⟩ := List.getElem?_eq_some_iff.1 hv
        rw [List.drop_eq_getElem_cons h1, h2]
      rw [hdp] at hXp
      simp only [defN, hopi] at hXp
      refine zA ?_
      refine AOps.step1 rfl rfl rfl (AStep.indexAddr tabOk rfl rfl rfl rfl rfl rfl (.inl rfl) rfl (by omega) (map_get hv)) ?_
      refine zA ?_
      have hcont : (X = defR nm R (defN nm (erT (.mk i o n none b ks a)) (b.drop (p + 1)) (p + 1))) → (p + 1 ≤ b.length ∧ X = defR nm R (defN nm (erT (.mk i o n none b ks a)) (b.drop (p + 1)) (p + 1)) ∧ b.length - (p + 1) = b.length - (p + 1)) := fun h => ⟨by omega, h, rfl⟩
      refine AOps.splitS rfl rfl rfl rfl (fun hb4 => ?_) (fun hb4 => ?_)
      · have hvid : v = nm := by simpa using hb4
        subst hvid
        repeat' first | refine zN ?_ | ((with_reducible refine oj ?_); first | refine zix ?_ | refine zow rfl rfl hi ?_) | (with_reducible refine oj ?_; refine AOps.splitS rfl rfl rfl rfl (fun hb => ?_) (fun hb => ?_)) | (with_reducible refine ok ?_; first | refine ACode.condS rfl (fun hb => ?_) (fun hb => ?_) | refine ACode.cond rfl (fun hb => ?_) (fun hb => ?_))
        iterate 2
          · have h45 : o = 4 ∨ o = 5 := by first | exact .inl (by simpa using hb) | exact .inr (by simpa using hb)
            obtain ⟨s, hs⟩ := get_of_lt (hkid p hlt2 h45)
            have hsm : s ∈ (LTr.mk i o n none b ks a).kids := List.mem_of_getElem? hs
            have hos := owns_kid hot hsm
            have hps := plain_kid hpt hsm
            have hks : kidT (erT (.mk i o n none b ks a)) p = erT s := kidT_get (by rw [hkk]; simp [hs])
            rw [hks] at hXp
            cases s with
            | mk j op2 n2 nb2 b2 ks2 a2 =>
            obtain rfl : nb2 = none := hps.1
            have hj : ou j = some (.cells (lC (.mk j op2 n2 none b2 ks2 a2))) := owns_node hos
            simp only [lC, bC] at hj
            rw [show (erT (.mk j op2 n2 none b2 ks2 a2)).op = op2 from rfl] at hXp
            refine AOps.step1 rfl rfl rfl (AStep.indexAddr tabOk rfl rfl rfl rfl rfl rfl (.inl rfl) rfl (by omega) (by simpa using kC_get hs)) ?_
            repeat' first | refine zN ?_ | ((with_reducible refine oj ?_); first | refine zix ?_ | refine zow rfl rfl hj ?_)
            refine ACode.condS rfl (fun hb5 => ?_) (fun hb5 => ?_)
            · have h2 : op2 = 2 := by simpa using hb5
              rw [if_pos ⟨rfl, h45, h2⟩] at hXp
              simp only [defR] at hXp
              repeat' first | refine zN ?_ | ((with_reducible refine oj ?_); first | refine zix ?_ | refine zow rfl rfl hi ?_)
              refine AOps.step1 rfl rfl rfl (AStep.indexAddr tabOk rfl rfl rfl rfl rfl rfl (.inl rfl) rfl (by omega) (by simpa using kC_get hs)) ?_
              repeat' first | refine zN ?_ | ((with_reducible refine oj ?_); first | refine zix ?_ | refine zow rfl rfl hi ?_)
              refine AFn.fin' rfl (WkF.refl _) (by simp) hou ⟨rfl, ?_⟩
              rw [hXp]; exact ⟨_, htm, _, hsm, rfl, rfl⟩
            · have h2 : ¬ op2 = 2 := by simpa using hb5
              rw [if_neg (fun h => h2 h.2.2)] at hXp
              refine zM ?_
              exact cInv ⟨b.length - (p + 1), p + 1, id, by omega, hcont hXp, LessR.of rfl (by (repeat' first | exact FrSub.nil | refine zfc ?_ | refine zfo ?_ | refine zfp ?_)) (by simp) (by repeat' first | exact LoSub.nil | refine zlc ?_ | refine zld ?_ ?_ | rfl) rfl rfl hou⟩
        · have h45 : ¬ (o = 4 ∨ o = 5) := by rintro (h | h) <;> simp_all
          rw [if_neg (fun h => h45 h.2.1)] at hXp
          exact cInv ⟨b.length - (p + 1), p + 1, id, by omega, hcont hXp, LessR.of rfl (by (repeat' first | exact FrSub.nil | refine zfc ?_ | refine zfo ?_ | refine zfp ?_)) (by simp) (by repeat' first | exact LoSub.nil | refine zlc ?_ | refine zld ?_ ?_ | rfl) rfl rfl hou⟩
      · have hvid : ¬ v = nm := by simpa using hb4
        rw [if_neg (fun h => hvid h.1)] at hXp
        refine zM ?_
        exact cInv ⟨b.length - (p + 1), p + 1, id, by omega, hcont hXp, LessR.of rfl (by (repeat' first | exact FrSub.nil | refine zfc ?_ | refine zfo ?_ | refine zfp ?_)) (by simp) (by repeat' first | exact LoSub.nil | refine zlc ?_ | refine zld ?_ ?_ | rfl) rfl rfl hou⟩
    · have hlt2 : p = b.length := by simp at hb3; omega
      subst hlt2
      rw [List.drop_length] at hXp
      simp only [defN, defR] at hXp
      refine zM ?_
      exact cInv ⟨lts.length - (q + 1), q + 1, id, by omega, ⟨by omega, by rw [← hR]; exact hXp, rfl⟩, LessR.of rfl (by (repeat' first | exact FrSub.nil | refine zfc ?_ | refine zfo ?_ | refine zfp ?_)) (by simp) (by repeat' first | exact LoSub.nil | refine zlc ?_ | refine zld ?_ ?_ | rfl) rfl rfl hou⟩
  · have hlt : q = lts.length := by simp [kC_len] at hb2; omega
    subst hlt
    rw [List.drop_of_length_le (by simp)] at hXq
    simp only [defT] at hXq
    refine zA ?_
    refine AFn.fin' rfl (WkF.refl _) (by simp) hou ⟨rfl, ?_⟩
    rw [hXq]
end Go.Proofs.YtgdionbeeodaaaaDoor
namespace Go.CoreX
def mxL (c : Int) (l : Lab) : Prop := ∀ n ∈ bindersN l.op l.binds l.alts, n ≤ c
theorem foldl_max_le (c : Int) : ∀ (l : List Int) (m : Int), m ≤ c → (∀ n ∈ l, n ≤ c) → l.foldl max m ≤ c
  | [], m, h, _ => h
  | x :: l, m, h, hl => by
    simp only [List.foldl_cons]
    have := hl x (by simp)
    exact foldl_max_le c l _ (by omega) fun n hn => hl n (by simp [hn])
mutual
theorem mostT_le (c : Int) (hc : -1 ≤ c) : ∀ t : Tr, Go.CoreX.allT (mxL c) t → mostT t ≤ c
  | .mk o n b k a, h => by
    simp only [mostT]
    exact mostTs_le c hc k _ (foldl_max_le c _ _ hc h.1) h.2
theorem mostTs_le (c : Int) (hc : -1 ≤ c) : ∀ (l : List Tr) (m : Int), m ≤ c → Go.CoreX.allTs (mxL c) l → mostTs m l ≤ c
  | [], m, h, _ => h
  | t :: l, m, h, hl => by
    simp only [mostTs]
    have := mostT_le c hc t hl.1
    exact mostTs_le c hc l _ (by omega) hl.2
end
theorem mostT_ge : ∀ t : Tr, -1 ≤ mostT t
  | .mk o n b k a => by
    simp only [mostT, mostTs_eq]
    have h1 := foldl_max_ge (bindersN o b a) (-1)
    have h2 := foldl_max_ge (k.map mostT) ((bindersN o b a).foldl max (-1))
    omega
end Go.CoreX
namespace Go.Proofs.YtgdionbeeodaaaaDoor
open Go Go.Abs Go.CoreX
set_option maxRecDepth 10000
variable {Γ : List (Nat × List AC)}
theorem unfold_ok (hΓ : ∀ g cs, (g, cs) ∈ Γ → idsL isO cs) (root t : LTr) (lts : List LTr) (hlen : lts.length ≤ 1048576) (hpl : ∀ t ∈ lts, plainL t) (hok : ∀ t ∈ lts, okT (erT t)) (hct : ∀ t ∈ lts, cntN (erT t) ≤ 1048576) (hsh : ∀ t ∈ lts, allT shpL (erT t)) (hm : mostT (erT root) ≤ 1048576) (hr : root ∈ lts) (ht : t ∈ lts) (h0 : (erT t).op = 0) (ou : Outer) (ho : ∀ t ∈ lts, Owns ou (objs t)) :
    AFn Tryd.prog Γ 86 [.one (.box [.sl 1 (kC lts), .ptr (.o root.id) 0]), .one (.ptr (.o t.id) 0)] ou (ResW ou t (unfoldT (lts.map erT) (erT root) (erT t))) := by
  have hot := ho t ht
  have hop := hok t ht
  have hpt := hpl t ht
  have hst := hsh t ht
  have hM := Most_ok hΓ (erT root) (hok root hr)
  have hm0 := mostT_ge (erT root)
  have hor := ho root hr
  obtain ⟨M, hMe⟩ : ∃ M, M = mostT (erT root) := ⟨_, rfl⟩
  unfold MostOk at hM
  rw [← hMe] at hM hm hm0
  obtain ⟨X, hX⟩ : ∃ X, X = unfoldT (lts.map erT) (erT root) (erT t) := ⟨_, rfl⟩
  rw [← hX]
  unfold unfoldT at hX
  rw [← hMe] at hX
  cases t with
  | mk i o n nb b ks a =>
  obtain rfl : nb = none := hpt.1
  have hi : ou i = some (.cells (lC (.mk i o n none b ks a))) := owns_node hot
  simp only [lC, bC] at hi
  have hD := definition_ok hΓ n root.id lts hlen hpl hok hsh ou ho
  rw [show (erT (.mk i o n none b ks a)).n = n from rfl] at hX
  refine AFn.walk 26 tabOk Tryd.func86 rfl (by kernel_rfl) rfl rfl fun hou => ?_
  repeat' first | refine zN ?_ | ((with_reducible refine oj ?_); first | refine zix ?_ | refine zow rfl rfl hi ?_)
  refine AOps.call1 hΓ rfl rfl rfl rfl rfl rfl rfl (by simp [idsF]) hou hD fun r ow hq hids how => ?_
  obtain ⟨hqe, hq⟩ := hq
  have hqe := hqe.symm
  subst hqe
  cases hDe : defT n (lts.map erT) with
  | none =>
    rw [hDe] at hX hq
    dsimp only at hq
    subst hq
    refine zA ?_
    refine AOps.step1 rfl rfl rfl (AStep.eqNil0 Tryd.underlying70 rfl rfl rfl) ?_
    refine zA ?_
    refine AFn.fin' rfl (WkF.refl _) (by simp) hou ?_
    rw [hX]
    exact ⟨rfl, hou, fun _ _ h => h⟩
  | some F =>
    rw [hDe] at hX hq
    obtain ⟨t1, ht1, s, hs, rfl, hF⟩ := hq
    have hsp := plain_kid (hpl t1 ht1) hs
    have hso := owns_kid (ho t1 ht1) hs
    have hsk := okT_kid (hok t1 ht1) (er_kid hs)
    have hsc : cntN (erT s) ≤ 1048576 := by
      have := cnt_kid (er_kid hs)
      have := hct t1 ht1
      omega
    have hC := copiedO_ok hΓ s hsk hsp hsc _ hso
    refine zA ?_
    refine AOps.step1 rfl rfl rfl (AStep.eqNil Tryd.underlying70 rfl rfl rfl) ?_
    refine zA ?_
    refine AOps.call1 hΓ rfl rfl rfl rfl rfl rfl rfl (by simp [idsF]) hou hC fun r ow hq hids how => ?_
    obtain ⟨c, rfl, hce, hcok, hcO, hcN, hcn, _, hold⟩ := hq
    rw [grow_list] at hce
    have hrO : Owns ow (objs root) := fun p hp => hold _ _ (hor p hp)
    refine zA ?_
    refine AOps.callS hΓ hM (Plain.lit _) rfl rfl rfl rfl rfl rfl (LendFs.t1 hrO) ?_
    have hnb : (nbL c : Int) ≤ 4398046511104 := by
      have h1 := nb_le (okB_list (okT_pOk _ hsk) hsc) (isTree_list (erT s))
      unfold nbE at h1
      rw [grow_list] at h1
      have h2 := nbL_er c
      rw [hce] at h2
      omega
    have hR := Rename_ok hΓ c hcok ow hcO hcN (M + 1) (by omega) (by omega) how
    refine zM ?_
    refine AOps.call1 hΓ rfl rfl rfl rfl rfl rfl rfl (by simp [idsF]) how hR fun r ov hq hids hov => ?_
    obtain ⟨rfl, hO2, _, hfr⟩ := hq
    refine zA ?_
    refine AFn.fin' rfl (WkF.refl _) (by simp) hov ?_
    rw [hX]
    refine ⟨(rnL nm0 (M + 1) c).1, by rw [rnL_id], ?_, hO2, ?_, hov, fun j o' hj hn => ?_, fun k hk => ?_⟩
    · rw [(rnL_er c nm0 (M + 1)).1, hce, hF]
    · rw [rnL_k]
      intro h
      have h1 := hcn _ h
      have h2 : ou i = _ := hi
      rw [show (LTr.mk i o n none b ks a).id = i from rfl] at h1
      rw [h1] at h2; cases h2
    · show ov j = some o'
      rw [hfr j fun h => by rw [hcn j h] at hj; cases hj]
      exact hold _ _ hj
    · rw [rnL_k] at hk
      exact .inr (hcn k hk)
end Go.Proofs.YtgdionbeeodaaaaDoor
namespace Go.CoreX
theorem binds_range2 {e : List Ex} {x : Ex} (h : nodeErrF false e x = 0) : ∀ b ∈ exBinders x, b ≤ 1048575 := by
  have hr : ranges x = 0 := by
    unfold nodeErrF at h
    split at h
    · cases h
    · unfold nodeErr at h
      split at h
      · cases h
      · split at h
        · rename_i hr; exact absurd h hr
        · rename_i hr; simpa using hr
  have hx : x.binds.all identOk = true ∧ x.alts.all (altRange x.op) = true := by
    unfold ranges at hr
    split at hr
    · cases hr
    split at hr
    · cases hr
    rename_i h1
    split at hr
    · cases hr
    rename_i h2
    exact ⟨by simpa using h1, by simpa using h2⟩
  have ok : ∀ n, identOk n = true → n ≤ 1048575 := fun n hn => by
    simp [identOk, between] at hn; omega
  intro b hb
  unfold exBinders bindersN at hb
  rcases List.mem_append.1 hb with hb | hb
  · split at hb
    · exact ok b (List.all_eq_true.1 hx.1 b hb)
    · cases hb
  · obtain ⟨a, ha, hba⟩ := List.mem_flatMap.1 hb
    have := List.all_eq_true.1 hx.2 a ha
    unfold altRange at this
    exact ok b (List.all_eq_true.1 (Bool.and_eq_true_iff.1 this).2 b hba)
theorem check_most {e : List Ex} (h : check e = 0) : allT (mxL 1048575) (grow e) := by
  obtain ⟨_, p2, _, _⟩ := check_parts h
  exact allT_grow (body_isTree h) fun x hx => binds_range2 (p2 x hx)
end Go.CoreX
namespace Go.Proofs.YtgdionbeeodaaaaDoor
open Go Go.Abs Go.CoreX
set_option maxRecDepth 10000
variable {Γ : List (Nat × List AC)}
theorem growL_at {e : List Ex} {i : Nat} (h : i < e.length) : (growL e)[i]? = some (treeAt e i) := by
  unfold treeAt
  have : i < (growL e).length := by rw [growL_len]; exact h
  rw [List.getD_eq_getElem?_getD, List.getElem?_eq_getElem this]; rfl
theorem link_map {e : List Ex} {lts : List LTr} (hL : LinkL e lts plainB) (hk : kidsIn e) : lts.map erT = growL e := by
  refine List.ext_getElem? fun i => ?_
  rw [List.getElem?_map]
  by_cases hi : i < e.length
  · obtain ⟨t, ht⟩ := get_of_lt (l := lts) (i := i) (by rw [hL.len]; exact hi)
    rw [ht, growL_at hi]
    show some (erT t) = _
    rw [hL.er hk _ i t (Nat.lt_succ_self _) ht]
  · rw [List.getElem?_eq_none (by rw [hL.len]; omega), List.getElem?_eq_none (by rw [growL_len]; omega)]; rfl
structure Opened (e : List Ex) (lts : List LTr) (root : LTr) (ou : Outer) : Prop where
  len : lts.length ≤ 1048576
  pl : ∀ t ∈ lts, plainL t
  ok : ∀ t ∈ lts, okT (erT t)
  ct : ∀ t ∈ lts, cntN (erT t) ≤ 4096
  sh : ∀ t ∈ lts, allT shpL (erT t)
  own : ∀ t ∈ lts, Owns ou (objs t)
  rin : root ∈ lts
  rer : erT root = grow e
  map : lts.map erT = growL e
  most : mostT (grow e) ≤ 1048575
theorem Opened.of {e : List Ex} (he : okB e) (h : check e = 0) {lts : List LTr} {root : LTr} {ou : Outer} (hL : LinkL e lts plainB) (hr : lts[e.length - 1]? = some root) (hO : Owns ou (lts.flatMap ownO)) : Opened e lts root ou := by
  have t1 := body_isTree h
  have hix : ∀ t ∈ lts, ∃ p : Nat, lts[p]? = some t ∧ p < e.length := fun t ht => by
    obtain ⟨p, hp⟩ := List.getElem?_of_mem ht
    exact ⟨p, hp, by have := (List.getElem?_eq_some_iff.1 hp).1; rw [hL.len] at this; exact this⟩
  have her : ∀ (p : Nat) (t : LTr), lts[p]? = some t → erT t = treeAt e p := fun p t ht => hL.er t1.k _ p t (Nat.lt_succ_self _) ht
  refine ⟨by rw [hL.len]; exact he.eo.l, fun t ht => ?_, fun t ht => ?_, fun t ht => ?_, fun t ht => ?_, fun t ht => ?_, List.mem_of_getElem? hr, ?_, link_map hL t1.k, mostT_le _ (by omega) _ (check_most h)⟩
  · obtain ⟨p, hp, _⟩ := hix t ht
    exact hL.plain t1.k _ p t (Nat.lt_succ_self _) hp
  · obtain ⟨p, hp, hl⟩ := hix t ht
    rw [her p t hp]; exact treeAt_ok he t1 hl
  · obtain ⟨p, hp, hl⟩ := hix t ht
    rw [her p t hp]; exact cnt_at h hl
  · obtain ⟨p, hp, hl⟩ := hix t ht
    rw [her p t hp]; exact allT_treeAt t1 (check_shp h) hl
  · obtain ⟨p, hp, hl⟩ := hix t ht
    exact fun o ho => hO o (hL.own t1.k _ p t (Nat.lt_succ_self _) hp o ho)
  · rw [her _ root hr]; rfl
theorem nameU {e : List Ex} (he : okB e) (h : check e = 0) {rule n : Int} {at' : Nat} (h10 : rule ≠ 10) : NameOk e rule n at' := by
  refine ⟨fun h => absurd h h10, fun _ ou lts root t hL hr ht hO h0 => ?_⟩
  have o := Opened.of he h hL hr hO
  have hU := unfold_ok hΓc root t lts o.len o.pl o.ok (fun t ht => by have := o.ct t ht; omega) o.sh (by rw [o.rer]; have := o.most; omega) o.rin (List.mem_of_getElem? ht) h0 ou o.own
  rw [o.map, o.rer] at hU
  exact hU
theorem Apply_u (e : List Ex) (he : okB e) (rule at' n : Int) (h1 : rule ≠ 10) : APure Tryd.prog Γc 16 [.one (.sl 5 (e.map cEx)), .agg [int rule, int at', int n]] (.tup [.one (.sl 5 ((applyE e rule at' n).1.map cEx)), .one (int (applyE e rule at' n).2)]) := Apply_ok e he rule at' n fun h _ _ => nameU he h h1
end Go.Proofs.YtgdionbeeodaaaaDoor
namespace Go.Proofs.YtgdionbeeodaaaaDoor
open Go Go.Abs Go.CoreX
set_option maxRecDepth 10000
def kidX (e : List Ex) (x : Ex) : Ex := e.getD (x.kids.getD 0 0).toNat ⟨0, 0, [], [], []⟩
def szStep (e : List Ex) (f : Int → Option Int) (x : Ex) : Int → Option Int :=
  if x.op = 4 ∧ (kidX e x).op = 2 then setF f (x.binds.getD 0 0) (cntN (treeAt e (x.kids.getD 0 0).toNat) : Nat) else f
def sizesE (e l : List Ex) : Int → Option Int := l.foldl (szStep e) (fun _ => none)
def callX (e : List Ex) (f : Int → Option Int) (x : Ex) : Bool :=
  decide (x.op = 3) && ((f (kidX e x).n).isSome && decide ((kidX e x).op = 0) && decide ((f (kidX e x).n).getD 0 ≤ 20))
def candL (e : List Ex) (f : Int → Option Int) : List Ex → Nat → Option (Int × Nat)
  | [], _ => none
  | x :: l, i => if callX e f x = true then some (x.kids.getD 0 0, i) else candL e f l (i + 1)
def candE (e : List Ex) : Option (Int × Nat) := candL e (sizesE e e) e 0
def candR (e : List Ex) : Int × Int × Bool := match candE e with
  | some (k, i) => (k, (i : Int), true)
  | none => (0, 0, false)
theorem sizesE_snoc (e l : List Ex) (x : Ex) : sizesE e (l ++ [x]) = szStep e (sizesE e l) x := by unfold sizesE; rw [List.foldl_append]; rfl
theorem cntNs_sum : ∀ l : List Tr, cntNs l = (l.map cntN).sum
  | [] => rfl
  | t :: l => by simp only [cntNs, List.map_cons, List.sum_cons, cntNs_sum l]
def sumK (e : List Ex) (l : List Int) : Nat := (l.map fun k => cntN (treeAt e k.toNat)).sum
theorem sumK_snoc (e : List Ex) (l : List Int) (k : Int) : sumK e (l ++ [k]) = sumK e l + cntN (treeAt e k.toNat) := by simp [sumK]
theorem cnt_node {e : List Ex} (hk : kidsIn e) {i : Nat} {x : Ex} (hx : e[i]? = some x) : cntN (treeAt e i) = 1 + sumK e x.kids := by
  rw [treeAt_node hk hx]
  simp only [cntN, cntNs_sum, List.map_map]
  unfold sumK
  have : (cntN ∘ fun k : Int => treeAt e k.toNat) = fun k : Int => cntN (treeAt e k.toNat) := rfl
  rw [this]; omega
theorem kids_app {e : List Ex} (hc : check e = 0) {i : Nat} {x : Ex} (hx : e[i]? = some x) (h : x.op = 3) : ∃ k, x.kids[0]? = some k ∧ 0 ≤ k ∧ k < (i : Int) := by
  have t1 := body_isTree hc
  have hlt := (List.getElem?_eq_some_iff.1 hx).1
  have hs := allT_treeAt t1 (check_shp hc) hlt
  rw [treeAt_node t1.k hx] at hs
  obtain ⟨h1, _⟩ := shp_app hs h
  cases hk : x.kids with
  | nil => rw [hk] at h1; exact absurd rfl h1
  | cons k l => exact ⟨k, rfl, t1.k i x hx k (by rw [hk]; simp)⟩
theorem kids_let {e : List Ex} (hc : check e = 0) {i : Nat} {x : Ex} (hx : e[i]? = some x) (h : x.op = 4) : ∃ k b, x.kids[0]? = some k ∧ x.binds[0]? = some b ∧ 0 ≤ k ∧ k < (i : Int) := by
  have t1 := body_isTree hc
  have hlt := (List.getElem?_eq_some_iff.1 hx).1
  have hs := allT_treeAt t1 (check_shp hc) hlt
  rw [treeAt_node t1.k hx] at hs
  obtain ⟨b, v, d, h1, h2, _⟩ := shp_let hs h
  cases hk : x.kids with
  | nil => rw [hk] at h2; cases h2
  | cons k l => exact ⟨k, b, rfl, by rw [h1]; rfl, t1.k i x hx k (by rw [hk]; simp)⟩
theorem kidX_at {e : List Ex} {x y : Ex} {k : Int} (hk : x.kids[0]? = some k) (hy : e[k.toNat]? = some y) : kidX e x = y := by
  unfold kidX
  rw [show x.kids.getD 0 0 = k by rw [List.getD_eq_getElem?_getD, hk]; rfl, List.getD_eq_getElem?_getD, hy]; rfl
theorem getD_at {l : List Int} {k : Int} (h : l[0]? = some k) : l.getD 0 0 = k := by rw [List.getD_eq_getElem?_getD, h]; rfl
variable {Γ : List (Nat × List AC)}
set_option maxHeartbeats 1000000 in
theorem candidate_ok (hΓ : ∀ g cs, (g, cs) ∈ Γ → idsL isO cs) (e : List Ex) (he : okB e) (hc : check e = 0) : APure Tryd.prog Γ 58 [.one (.sl 5 (e.map cEx))] (.tup [.one (int (candR e).1), .one (int (candR e).2.1), .one (.lit (.bool (candR e).2.2))]) := by
  have hel := he.eo.l
  have t1 := body_isTree hc
  intro ou
  refine AFn.walk 115 tabOk Tryd.func58 rfl (by kernel_rfl) rfl rfl fun hou => ?_
  refine zA ?_
  refine AOps.step1 rfl rfl rfl (AStep.makeMap rfl) ?_
  refine zA ?_
  have hb : ti3.bytes * (e.map cEx).length ≤ 281474976710656 := by simp; show 8 * _ ≤ _; omega
  have hb2 : (e.map cEx).length ≤ 281474976710656 := by simp; omega
  refine AOps.step1 rfl rfl rfl (AStep.makeArr tabOk rfl rfl rfl rfl rfl rfl rfl rfl hb hb2) ?_
  refine zA ?_
  have hz : (z0 e).map int = List.replicate (e.map cEx).length (.lit (.int .i64 0)) := by simp [z0]
  rw [← hz]
  refine ACode.loopR hΓ (α := Nat × List Int × Nat × List (Nat × Int × Int)) (fun a => [(22, .one (int a.1)), (21, .one (int (e.map cEx).length)), (20, .one (.sl 5 (e.map cEx))), (6, .one (.arr (.l 1) 1 0 (e.map cEx).length (e.map cEx).length)), (5, .one (.mp (.l 0))), (0, .one (.sl 5 (e.map cEx)))])
    (fun a => ⟨2, [(1, .cells (a.2.1.map int)), (0, .map a.2.2.1 (encI eN a.2.2.2))], ou⟩)
    (fun m a => a.1 ≤ e.length ∧ (a.2.1.length = e.length ∧ (∀ i, i < a.1 → a.2.1[i]? = some ((cntN (treeAt e i) : Nat) : Int)) ∧ IMOk (sizesE e (e.take a.1)) a.2.2.1 a.2.2.2) ∧ m = e.length - a.1)
    (a0 := (0, z0 e, 0, [])) (ρ := id) ⟨by omega, ⟨by simp [z0], by simp, IMOk.nil⟩, rfl⟩ (LessR.of rfl (by (repeat' first | exact FrSub.nil | refine zfc ?_ | refine zfo ?_ | refine zfp ?_)) (by simp) (by repeat' first | exact LoSub.nil | refine zlc ?_ | refine zld ?_ ?_ | rfl) rfl rfl hou) fun m a hj => ?_
  obtain ⟨j, d, ck, l⟩ := a
  obtain ⟨hjl, ⟨hdl, hdv, hI⟩, rfl⟩ := hj
  dsimp only at hjl hdl hdv hI
  refine zA ?_
  refine ACode.cond rfl (fun hb2 => ?_) (fun hb2 => ?_)
  · have hlt : j < e.length := by simpa using hb2
    clear hb2
    obtain ⟨x, hx⟩ := get_of_lt hlt
    have hxo := he.eo.x x (List.mem_of_getElem? hx)
    have hxk := hxo.k
    have hcn := cnt_node t1.k hx
    have hca := cnt_at hc hlt
    refine zA ?_
    refine AOps.step1 rfl rfl rfl (AStep.indexAddr tabOk rfl rfl rfl rfl rfl rfl (.inl rfl) rfl (by omega) (map_get hx)) ?_
    refine zA ?_
    refine AOps.step1 rfl rfl rfl (idxI tabOk rfl rfl rfl rfl rfl rfl rfl (by simp; omega)) ?_
    refine storeI tabOk rfl rfl rfl rfl rfl rfl rfl rfl (show j < d.length by omega) ?_
    refine zA ?_
    refine ACode.loopR hΓ (α := Nat × List Int) (fun a => [(33, .one (int a.1)), (32, .one (int (x.kids.map cI).length)), (31, .one (.sl 1 (x.kids.map cI))), (8, .one (.ptr (.l 2) 0)), (7, .one (int j)), (22, .one (int j)), (21, .one (int (e.map cEx).length)), (20, .one (.sl 5 (e.map cEx))), (6, .one (.arr (.l 1) 1 0 (e.map cEx).length (e.map cEx).length)), (5, .one (.mp (.l 0))), (0, .one (.sl 5 (e.map cEx)))])
      (fun a => ⟨3, [(2, .cells (cEx x)), (1, .cells (a.2.map int)), (0, .map ck (encI eN l))], ou⟩)
      (fun m a => a.1 ≤ x.kids.length ∧ (a.2.length = e.length ∧ (∀ i, i < j → a.2[i]? = some ((cntN (treeAt e i) : Nat) : Int)) ∧ a.2[j]? = some ((1 + sumK e (x.kids.take a.1) : Nat) : Int)) ∧ m = x.kids.length - a.1)
      (a0 := (0, d.set j 1)) (ρ := id) ⟨by omega, ⟨by simp [hdl], fun i hi => ?_, ?_⟩, rfl⟩ (LessR.of rfl (by (repeat' first | exact FrSub.nil | refine zfc ?_ | refine zfo ?_ | refine zfp ?_)) (by simp) (by repeat' first | exact LoSub.nil | refine zlc ?_ | refine zld ?_ ?_ | rfl) rfl rfl hou) fun m a hi => ?_
    · rw [List.getElem?_set_ne (by omega)]; exact hdv i hi
    · rw [List.getElem?_set_self (by omega)]; simp [sumK]
    obtain ⟨i, d'⟩ := a
    obtain ⟨hil, ⟨hdl', hdv', hdj⟩, rfl⟩ := hi
    dsimp only at hil hdl' hdv' hdj
    refine zA ?_
    refine ACode.cond rfl (fun hb3 => ?_) (fun hb3 => ?_)
    · have hlt2 : i < x.kids.length := by simpa using hb3
      clear hb3
      obtain ⟨k, hk⟩ := get_of_lt hlt2
      have hkr := t1.k j x hx k (List.mem_of_getElem? hk)
      have hsn := sumK_snoc e (x.kids.take i) k
      rw [← take_get hk] at hsn
      refine zA ?_
      refine AOps.step1 rfl rfl rfl (AStep.indexAddr tabOk rfl rfl rfl rfl rfl rfl (.inl rfl) rfl (by omega) (map_get hk)) ?_
      obtain ⟨k, rfl⟩ : ∃ k' : Nat, k = k' := ⟨k.toNat, by omega⟩
      rw [Int.toNat_natCast] at hsn
      have hdk := hdv' k (by omega)
      have hck := cnt_at hc (show k < e.length by omega)
      have hsl : sumK e (x.kids.take i) ≤ sumK e x.kids := by
        conv => rhs; rw [← List.take_append_drop i x.kids]
        unfold sumK
        rw [List.map_append, List.sum_append]; omega
      refine zA ?_
      refine ACode.drawX tabOk 9 [(2, .one (.ptr (.l 1) j)), (3, .one (int ((1 + sumK e (x.kids.take i) : Nat) : Int))), (6, .one (.ptr (.l 1) k)), (7, .one (int ((cntN (treeAt e k) : Nat) : Int))), (8, .one (int (((1 + sumK e (x.kids.take i) : Nat) : Int) + ((cntN (treeAt e k) : Nat) : Int))))] follows (by kernel_rfl) rfl rfl rfl rfl ?_ ?_
      · refine .step rfl (HStep.plain rfl (idxI tabOk rfl rfl rfl rfl rfl rfl rfl (by simp; omega))) ?_
        refine .step rfl (HStep.plain rfl (loadI tabOk rfl rfl rfl rfl rfl rfl hdj)) ?_
        refine .step rfl (HStep.plain rfl (idxI tabOk rfl rfl rfl rfl rfl rfl rfl (by simp; omega))) ?_
        refine .step rfl (HStep.plain rfl (loadI tabOk rfl rfl rfl rfl rfl rfl hdk)) ?_
        exact .step rfl (HStep.plain rfl (AStep.arith rfl rfl rfl (.inl ⟨rfl, rfl⟩) (inRange_i64 (by omega) (by omega)))) .nil
      refine zA ?_
      refine AOps.step1 rfl rfl rfl (idxI tabOk rfl rfl rfl rfl rfl rfl rfl (by simp; omega)) ?_
      refine storeI tabOk rfl rfl rfl rfl rfl rfl rfl rfl (show j < d'.length by omega) ?_
      refine zM ?_
      refine cInv ⟨x.kids.length - (i + 1), (i + 1, d'.set j (((1 + sumK e (x.kids.take i) : Nat) : Int) + ((cntN (treeAt e k) : Nat) : Int))), id, by omega, ⟨by omega, ⟨by simp [hdl'], fun i' hi' => ?_, ?_⟩, rfl⟩, LessR.of rfl (by (repeat' first | exact FrSub.nil | refine zfc ?_ | refine zfo ?_ | refine zfp ?_)) (by simp) (by repeat' first | exact LoSub.nil | refine zlc ?_ | refine zld ?_ ?_ | rfl) rfl rfl hou⟩
      · rw [List.getElem?_set_ne (by omega)]; exact hdv' i' hi'
      · rw [List.getElem?_set_self (by omega), hsn]; congr 1; push_cast; omega
    have hlt2 : i = x.kids.length := by simp at hb3; omega
    subst hlt2
    rw [List.take_length, ← hcn] at hdj
    have hsz := sizesE_snoc e (e.take j) x
    rw [← take_get hx] at hsz
    have hnext : ∀ i, i < j + 1 → d'[i]? = some ((cntN (treeAt e i) : Nat) : Int) := fun i hi => by
      by_cases h : i = j
      · subst h; exact hdj
      · exact hdv' i (by omega)
    refine zA ?_
    refine AOps.splitS rfl rfl rfl rfl (fun hb4 => ?_) (fun hb4 => ?_)
    · have h4 : x.op = 4 := by simpa using hb4
      obtain ⟨k, b, hk0, hb0, hk1, hk2⟩ := kids_let hc hx h4
      obtain ⟨k, rfl⟩ : ∃ k' : Nat, k = k' := ⟨k.toNat, by omega⟩
      obtain ⟨y, hy⟩ := get_of_lt (l := e) (i := k) (by omega)
      have hkx : kidX e x = y := kidX_at hk0 (by simpa using hy)
      have hdk := hdv' k (by omega)
      have hgk := getD_at hk0
      have hgb := getD_at hb0
      refine zM ?_
      refine AOps.step1 rfl rfl rfl (AStep.indexAddr tabOk rfl rfl rfl rfl rfl rfl (.inl rfl) rfl (by decide) (map_get hk0)) ?_
      refine zM ?_
      refine AOps.step1 rfl rfl rfl (AStep.indexAddr tabOk rfl rfl rfl rfl rfl rfl (.inl rfl) rfl (by omega) (map_get hy)) ?_
      refine zM ?_
      refine ACode.condS rfl (fun hb5 => ?_) (fun hb5 => ?_)
      · have h2 : y.op = 2 := by simpa using hb5
        have hst : szStep e (sizesE e (e.take j)) x = setF (sizesE e (e.take j)) b ((cntN (treeAt e k) : Nat) : Int) := by
          unfold szStep
          rw [if_pos ⟨h4, by rw [hkx]; exact h2⟩, hgk, hgb, Int.toNat_natCast]
        rw [hst] at hsz
        refine ACode.drawX tabOk 12 [(3, .one (.box (cI b))), (8, .one (.box (cI (k : Int)))), (10, .one (.ptr (.l 1) k)), (11, .one (int ((cntN (treeAt e k) : Nat) : Int)))] follows (by kernel_rfl) rfl rfl rfl rfl ?_ ?_
        · refine .step rfl (HStep.plain rfl (AStep.indexAddr tabOk rfl rfl rfl rfl rfl rfl (.inl rfl) rfl (by decide) (map_get hb0))) ?_
          refine .step rfl (HStep.plain rfl (AStep.indexAddr tabOk rfl rfl rfl rfl rfl rfl (.inl rfl) rfl (by decide) (map_get hk0))) ?_
          refine .step rfl (HStep.plain rfl (idxI tabOk rfl rfl rfl rfl rfl rfl rfl (by simp; omega))) ?_
          exact .step rfl (HStep.plain rfl (loadI tabOk rfl rfl rfl rfl rfl rfl hdk)) .nil
        refine zA ?_
        refine AOps.putI eN (v := ((cntN (treeAt e k) : Nat) : Int)) rfl rfl rfl Tryd.underlying90 Tryd.underlying3 rfl rfl rfl rfl hI fun ck' l' hI' => ?_
        refine zM ?_
        refine cInv ⟨e.length - (j + 1), (j + 1, d', ck', l'), id, by omega, ⟨by omega, ⟨hdl', hnext, ?_⟩, rfl⟩, LessR.of rfl (by (repeat' first | exact FrSub.nil | refine zfc ?_ | refine zfo ?_ | refine zfp ?_)) (by simp) (by repeat' first | exact LoSub.nil | refine zlc ?_ | refine zld ?_ ?_ | rfl) rfl rfl hou⟩
        dsimp only
        rw [hsz]; exact hI'
      · have h2 : ¬ y.op = 2 := by simpa using hb5
        have hst : szStep e (sizesE e (e.take j)) x = sizesE e (e.take j) := by
          unfold szStep
          rw [if_neg (fun h => h2 (by rw [← hkx]; exact h.2))]
        rw [hst] at hsz
        refine zM ?_
        refine cInv ⟨e.length - (j + 1), (j + 1, d', ck, l), id, by omega, ⟨by omega, ⟨hdl', hnext, ?_⟩, rfl⟩, LessR.of rfl (by (repeat' first | exact FrSub.nil | refine zfc ?_ | refine zfo ?_ | refine zfp ?_)) (by simp) (by repeat' first | exact LoSub.nil | refine zlc ?_ | refine zld ?_ ?_ | rfl) rfl rfl hou⟩
        dsimp only
        rw [hsz]; exact hI
    · have h4 : ¬ x.op = 4 := by simpa using hb4
      have hst : szStep e (sizesE e (e.take j)) x = sizesE e (e.take j) := by
        unfold szStep
        rw [if_neg (fun h => h4 h.1)]
      rw [hst] at hsz
      refine zM ?_
      refine cInv ⟨e.length - (j + 1), (j + 1, d', ck, l), id, by omega, ⟨by omega, ⟨hdl', hnext, ?_⟩, rfl⟩, LessR.of rfl (by (repeat' first | exact FrSub.nil | refine zfc ?_ | refine zfo ?_ | refine zfp ?_)) (by simp) (by repeat' first | exact LoSub.nil | refine zlc ?_ | refine zld ?_ ?_ | rfl) rfl rfl hou⟩
      dsimp only
      rw [hsz]; exact hI
  have hlt : j = e.length := by simp at hb2; omega
  subst hlt
  clear hb2
  rw [List.take_length] at hI
  obtain ⟨f, hf⟩ : ∃ f, f = sizesE e e := ⟨_, rfl⟩
  rw [← hf] at hI
  have hC : candE e = candL e f e 0 := by rw [hf]; rfl
  refine zA ?_
  refine ACode.loopR hΓ (α := Nat) (fun i => [(77, .one (int i)), (76, .one (int (e.map cEx).length)), (75, .one (.sl 5 (e.map cEx))), (5, .one (.mp (.l 0))), (0, .one (.sl 5 (e.map cEx)))])
    (fun i => ⟨1, [(0, .map ck (encI eN l))], ou⟩) (fun m i => i ≤ e.length ∧ candE e = candL e f (e.drop i) i ∧ m = e.length - i) (a0 := 0) (ρ := id) ⟨by omega, hC, rfl⟩ (LessR.of rfl (by (repeat' first | exact FrSub.nil | refine zfc ?_ | refine zfo ?_ | refine zfp ?_)) (by simp) (by repeat' first | exact LoSub.nil | refine zlc ?_ | refine zld ?_ ?_ | rfl) rfl rfl hou) fun m i hi => ?_
  obtain ⟨hil, hCi, rfl⟩ := hi
  refine zA ?_
  refine ACode.cond rfl (fun hb3 => ?_) (fun hb3 => ?_)
  · have hlt : i < e.length := by simpa using hb3
    clear hb3
    obtain ⟨x, hx⟩ := get_of_lt hlt
    have hd : e.drop i = x :: e.drop (i + 1) := by
      obtain ⟨h1, h2⟩ := List.getElem?_eq_some_iff.1 hx
      rw [List.drop_eq_getElem_cons h1, h2]
    rw [hd] at hCi
    simp only [candL] at hCi
    have hno : callX e f x = false → candE e = candL e f (e.drop (i + 1)) (i + 1) := fun h => by rw [hCi, h]; simp
    refine zA ?_
    refine AOps.step1 rfl rfl rfl (AStep.indexAddr tabOk rfl rfl rfl rfl rfl rfl (.inl rfl) rfl (by omega) (map_get hx)) ?_
    refine zA ?_
    refine ACode.condS rfl (fun hb4 => ?_) (fun hb4 => ?_)
    · have h3 : ¬ x.op = 3 := by simpa using hb4
      refine zM ?_
      exact cInv ⟨e.length - (i + 1), i + 1, id, by omega, ⟨by omega, hno (by unfold callX; simp [h3]), rfl⟩, LessR.of rfl (by (repeat' first | exact FrSub.nil | refine zfc ?_ | refine zfo ?_ | refine zfp ?_)) (by simp) (by repeat' first | exact LoSub.nil | refine zlc ?_ | refine zld ?_ ?_ | rfl) rfl rfl hou⟩
    have h3 : x.op = 3 := by simpa using hb4
    obtain ⟨k, hk0, hk1, hk2⟩ := kids_app hc hx h3
    obtain ⟨k, rfl⟩ : ∃ k' : Nat, k = k' := ⟨k.toNat, by omega⟩
    obtain ⟨y, hy⟩ := get_of_lt (l := e) (i := k) (by omega)
    have hkx : kidX e x = y := kidX_at hk0 (by simpa using hy)
    have hgk := getD_at hk0
    refine zA ?_
    refine AOps.step1 rfl rfl rfl (AStep.indexAddr tabOk rfl rfl rfl rfl rfl rfl (.inl rfl) rfl (by decide) (map_get hk0)) ?_
    refine zA ?_
    refine AOps.step1 rfl rfl rfl (AStep.indexAddr tabOk rfl rfl rfl rfl rfl rfl (.inl rfl) rfl (by omega) (map_get hy)) ?_
    refine zA ?_
    refine AOps.step1 rfl rfl rfl (AStep.lookI eN (cm := true) (v := .one (int ((f y.n).getD 0))) rfl Tryd.underlying90 Tryd.underlying3 rfl rfl rfl (by kernel_rfl) zeroN hI (by cases f y.n <;> rfl)) ?_
    obtain ⟨B, hB⟩ : ∃ B, B = (f y.n).isSome := ⟨_, rfl⟩
    obtain ⟨V, hV⟩ : ∃ V, V = (f y.n).getD 0 := ⟨_, rfl⟩
    have hcx : callX e f x = (B && decide (y.op = 0) && decide (V ≤ 20)) := by unfold callX; rw [hkx, ← hB, ← hV]; simp [h3]
    rw [← hB, ← hV]
    clear hB hV
    refine zA ?_
    cases B with
    | false =>
      refine zM ?_
      exact cInv ⟨e.length - (i + 1), i + 1, id, by omega, ⟨by omega, hno (by rw [hcx]; rfl), rfl⟩, LessR.of rfl (by (repeat' first | exact FrSub.nil | refine zfc ?_ | refine zfo ?_ | refine zfp ?_)) (by simp) (by repeat' first | exact LoSub.nil | refine zlc ?_ | refine zld ?_ ?_ | rfl) rfl rfl hou⟩
    | true =>
      refine zA ?_
      refine AOps.splitS rfl rfl rfl rfl (fun hb5 => ?_) (fun hb5 => ?_)
      · have h0 : y.op = 0 := by simpa using hb5
        refine zM ?_
        refine ACode.condS rfl (fun hb6 => ?_) (fun hb6 => ?_)
        · have h20 : V ≤ 20 := by simpa using hb6
          rw [if_pos (by rw [hcx]; simp [h0, h20]), hgk] at hCi
          refine zA ?_
          refine AOps.step1 rfl rfl rfl (AStep.indexAddr tabOk rfl rfl rfl rfl rfl rfl (.inl rfl) rfl (by decide) (map_get hk0)) ?_
          refine zA ?_
          refine APure.fin rfl (WkF.ofEq ?_) (by simp) hou rfl
          unfold candR
          rw [hCi]
        · have h20 : ¬ V ≤ 20 := by simpa using hb6
          refine zM ?_
          exact cInv ⟨e.length - (i + 1), i + 1, id, by omega, ⟨by omega, hno (by rw [hcx]; simp [h20]), rfl⟩, LessR.of rfl (by (repeat' first | exact FrSub.nil | refine zfc ?_ | refine zfo ?_ | refine zfp ?_)) (by simp) (by repeat' first | exact LoSub.nil | refine zlc ?_ | refine zld ?_ ?_ | rfl) rfl rfl hou⟩
      · have h0 : ¬ y.op = 0 := by simpa using hb5
        refine zM ?_
        exact cInv ⟨e.length - (i + 1), i + 1, id, by omega, ⟨by omega, hno (by rw [hcx]; simp [h0]), rfl⟩, LessR.of rfl (by (repeat' first | exact FrSub.nil | refine zfc ?_ | refine zfo ?_ | refine zfp ?_)) (by simp) (by repeat' first | exact LoSub.nil | refine zlc ?_ | refine zld ?_ ?_ | rfl) rfl rfl hou⟩
  have hlt : i = e.length := by simp at hb3; omega
  subst hlt
  rw [List.drop_length] at hCi
  simp only [candL] at hCi
  refine zA ?_
  refine APure.fin rfl (WkF.ofEq ?_) (by simp) hou rfl
  unfold candR
  rw [hCi]
end Go.Proofs.YtgdionbeeodaaaaDoor
namespace Go.Proofs.YtgdionbeeodaaaaDoor
open Go Go.Abs Go.CoreX
set_option maxRecDepth 10000
def inl1 (out : List Ex) (k : Int) : List Ex × Int := applyE out 12 k 0
def inlAt (out nx : List Ex) (i : Nat) : Int := (i : Int) + nx.length - out.length
def inlGo : Nat → List Ex → List Ex × List Step3
  | 0, out => (out, [])
  | m + 1, out => match candE out with
    | none => (out, [])
    | some (k, i) =>
      if (inl1 out k).2 ≠ 0 then (out, []) else
      if (applyE (inl1 out k).1 1 (inlAt out (inl1 out k).1 i) 0).2 ≠ 0 then (out, []) else
      ((inlGo m (applyE (inl1 out k).1 1 (inlAt out (inl1 out k).1 i) 0).1).1, (12, k, 0) :: (1, inlAt out (inl1 out k).1 i, 0) :: (inlGo m (applyE (inl1 out k).1 1 (inlAt out (inl1 out k).1 i) 0).1).2)
def inlE (e : List Ex) (b : Int) : List Ex × List Step3 × Int :=
  if check e ≠ 0 then ([], [], check e) else if b < 0 ∨ 500 < b then ([], [], 4) else ((inlGo (b.toNat / 2) (listT [] (grow e))).1, (inlGo (b.toNat / 2) (listT [] (grow e))).2, 0)
theorem candL_at {e : List Ex} {f : Int → Option Int} {k : Int} {i : Nat} : ∀ {l : List Ex} {j : Nat}, candL e f l j = some (k, i) → j ≤ i ∧ i < j + l.length
  | [], _, h => by simp [candL] at h
  | x :: l, j, h => by
    simp only [candL] at h
    split at h
    · cases h; simp
    · have := candL_at h
      simp only [List.length_cons]; omega
set_option maxHeartbeats 1000000 in
theorem Inline_ok (e : List Ex) (he : okB e) (b : Int) : APure Tryd.prog Γc 31 [.one (.sl 5 (e.map cEx)), .one (int b)] (.tup [.one (.sl 5 ((inlE e b).1.map cEx)), .one (.sl 3 ((inlE e b).2.1.map cS)), .one (int (inlE e b).2.2)]) := by
  have c1 := Check_ok e he
  intro ou
  refine AFn.walk 79 tabOk Tryd.func31 rfl (by kernel_rfl) rfl rfl fun hou => ?_
  refine zA ?_
  refine zca hΓc c1 hou ?_
  refine zA ?_
  refine ACode.cond rfl (fun hb => ?_) (fun hb => ?_)
  · have h : check e ≠ 0 := by simpa using hb
    have hR : inlE e b = ([], [], check e) := by unfold inlE; rw [if_pos h]
    rw [hR]
    refine zA ?_
    exact APure.fin rfl (WkF.tup (.cons (.one (.nilS 5)) (.cons (.one (.nilS 3)) (.cons (.refl _) .nil)))) (by simp) hou rfl
  have h : check e = 0 := by simpa using hb
  refine zA ?_
  refine AOps.splitS rfl rfl rfl rfl (fun hb1 => ?_) (fun hb1 => ?_)
  · have h1 : b < 0 := by simpa using hb1
    have hR : inlE e b = ([], [], 4) := by unfold inlE; rw [if_neg (by simpa using h), if_pos (.inl h1)]
    rw [hR]
    refine zA ?_
    exact APure.fin rfl (WkF.tup (.cons (.one (.nilS 5)) (.cons (.one (.nilS 3)) (.cons (.refl _) .nil)))) (by simp) hou rfl
  have h1 : ¬ b < 0 := by simpa using hb1
  refine zA ?_
  refine ACode.cond rfl (fun hb2 => ?_) (fun hb2 => ?_)
  · have h2 : 500 < b := by simpa using hb2
    have hR : inlE e b = ([], [], 4) := by unfold inlE; rw [if_neg (by simpa using h), if_pos (.inr h2)]
    rw [hR]
    refine zA ?_
    exact APure.fin rfl (WkF.tup (.cons (.one (.nilS 5)) (.cons (.one (.nilS 3)) (.cons (.refl _) .nil)))) (by simp) hou rfl
  have h2 : ¬ 500 < b := by simpa using hb2
  obtain ⟨B, rfl⟩ : ∃ B : Nat, b = B := ⟨b.toNat, by omega⟩
  have hR : inlE e (B : Int) = ((inlGo (B / 2) (listT [] (grow e))).1, (inlGo (B / 2) (listT [] (grow e))).2, 0) := by unfold inlE; rw [if_neg (by simpa using h), if_neg (by omega), Int.toNat_natCast]
  rw [hR]
  clear hR
  have t1 := body_isTree h
  have hl : (listT [] (grow e)).length ≤ 1048576 := by rw [len_tree t1]; exact he.eo.l
  obtain ⟨E0, hE0⟩ : ∃ E0, E0 = listT [] (grow e) := ⟨_, rfl⟩
  have hOb : okB E0 := by rw [hE0]; exact order_okB he h
  have hOc : check E0 = 0 := by rw [hE0]; exact check_list h
  have hLi := List_ok hΓc (grow e) (he.t t1.k t1.ne) hl
  rw [← hE0] at hLi ⊢
  refine zA ?_
  refine zca hΓc (Grow_ok hΓc e he.eo t1.k t1.ne) hou ?_
  refine zca hΓc hLi hou ?_
  refine zA ?_
  refine ACode.growS 9 29 3 rfl ?_
  refine ACode.loopR hΓc (α := List Ex × List Step3) (fun c => [(9, .one (.gs 3 (c.2.map cS) (.l 0))), (8, .one (.sl 5 (c.1.map cEx))), (1, .one (int B))])
    (fun c => ⟨1, [(0, .tok 29 3 (c.2.map cS).length)], ou⟩) (fun m c => (okB c.1 ∧ check c.1 = 0 ∧ ∃ t, c.2.length = 2 * t ∧ t + m = B / 2 ∧ inlGo (B / 2) E0 = ((inlGo m c.1).1, c.2 ++ (inlGo m c.1).2))) (a0 := (E0, [])) (ρ := id) ⟨hOb, hOc, 0, rfl, Nat.zero_add _, by simp⟩
    (LessR.of rfl (FrSub.consGs rfl rfl (by simp) (FrSub.consP rfl (.ofEq rfl) (by simp) (FrSub.cons rfl (.ofEq rfl) .nil))) (by simp) (by repeat' first | exact LoSub.nil | refine zlc ?_ | refine zld ?_ ?_ | rfl) rfl rfl hou) fun m c hc => ?_
  obtain ⟨out, L⟩ := c
  obtain ⟨hob, hoc, t, hLl, hm, hst⟩ := hc
  dsimp only at hLl hob hoc hst
  have hlen : ((L.map cS).length : Int) = (L.length : Int) := by simp
  have hstop : inlGo m out = (out, []) → inlGo (B / 2) E0 = (out, L) := fun hs => by rw [hst, hs]; simp
  have hol : (out.map cEx).length ≤ 1048576 := by rw [List.length_map]; exact hob.eo.l
  refine zM ?_
  refine ACode.cond rfl (fun hb3 => ?_) (fun hb3 => ?_)
  · have hlt : t + 1 ≤ B / 2 := by simp at hb3; omega
    obtain ⟨m, rfl⟩ : ∃ k, m = k + 1 := ⟨m - 1, by omega⟩
    have hca := candidate_ok hΓc out hob hoc
    simp only [inlGo] at hst hstop
    refine zA ?_
    cases hn : candE out with
    | none =>
      rw [show candR out = (0, 0, false) by unfold candR; rw [hn]] at hca
      refine zca hΓc hca hou ?_
      refine zA ?_
      have hfin := hstop (by rw [hn])
      rw [hfin]
      exact APure.fin (r' := .tup [.one (.sl 5 (out.map cEx)), .one (.sl 3 (L.map cS)), .one (int 0)]) rfl (WkF.tup (.cons (.refl _) (.cons (.one (.gsE rfl)) (.cons (.refl _) .nil)))) (by simp) hou rfl
    | some p =>
      obtain ⟨k, i⟩ := p
      rw [show candR out = (k, (i : Int), true) by unfold candR; rw [hn]] at hca
      dsimp only at hca
      have hil : i < out.length := by have := candL_at hn; omega
      rw [hn] at hst hstop
      dsimp only at hst hstop
      have hap := Apply_u out hob 12 k 0 (by decide)
      rw [show applyE out 12 k 0 = inl1 out k from rfl] at hap
      have hob2 := apply_okB (r := 12) (p := k) (n := 0) hob
      rw [show applyE out 12 k 0 = inl1 out k from rfl] at hob2
      obtain ⟨A, hA⟩ : ∃ A, A = inl1 out k := ⟨_, rfl⟩
      rw [← hA] at hst hstop hap hob2
      refine zca hΓc hca hou ?_
      refine zA ?_
      refine AOps.callC hΓc hap rfl rfl rfl rfl rfl rfl rfl hou (by simp [idsF]) ?_
      refine zA ?_
      refine ACode.cond rfl (fun hb4 => ?_) (fun hb4 => ?_)
      · have h4 : A.2 ≠ 0 := by simpa using hb4
        refine zA ?_
        have hfin := hstop (by rw [if_pos h4])
        rw [hfin]
        exact APure.fin (r' := .tup [.one (.sl 5 (out.map cEx)), .one (.sl 3 (L.map cS)), .one (int 0)]) rfl (WkF.tup (.cons (.refl _) (.cons (.one (.gsE rfl)) (.cons (.refl _) .nil)))) (by simp) hou rfl
      have h4 : A.2 = 0 := by simpa using hb4
      have hob2 := hob2 h4
      rw [if_neg (by simpa using h4)] at hst hstop
      have hal : (A.1.map cEx).length ≤ 1048576 := by rw [List.length_map]; exact hob2.eo.l
      have hat : inlAt out A.1 i = (i : Int) + ((A.1.map cEx).length : Nat) - ((out.map cEx).length : Nat) := by unfold inlAt; simp
      have hap2 := Apply_u A.1 hob2 1 (inlAt out A.1 i) 0 (by decide)
      have hob3 := apply_okB (r := 1) (p := inlAt out A.1 i) (n := 0) hob2
      have hord := apply_ord (e := A.1) (r := 1) (p := inlAt out A.1 i) (n := 0)
      obtain ⟨C, hC⟩ : ∃ C, C = applyE A.1 1 (inlAt out A.1 i) 0 := ⟨_, rfl⟩
      rw [← hC] at hst hstop hap2 hob3 hord
      rw [hat] at hap2
      have hil2 : i < (out.map cEx).length := by simpa using hil
      have hil3 : i < ((out, L).1.map cEx).length := hil2
      have hol3 : ((out, L).1.map cEx).length ≤ 1048576 := hol
      refine zM ?_
      refine AOps.callC hΓc hap2 rfl rfl rfl rfl rfl rfl rfl hou (by simp [idsF]) ?_
      rw [← hat]
      refine zA ?_
      refine ACode.cond rfl (fun hb5 => ?_) (fun hb5 => ?_)
      · have h5 : C.2 ≠ 0 := by simpa using hb5
        refine zA ?_
        have hfin := hstop (by rw [if_pos h5])
        rw [hfin]
        exact APure.fin (r' := .tup [.one (.sl 5 (out.map cEx)), .one (.sl 3 (L.map cS)), .one (int 0)]) rfl (WkF.tup (.cons (.refl _) (.cons (.one (.gsE rfl)) (.cons (.refl _) .nil)))) (by simp) hou rfl
      have h5 : C.2 = 0 := by simpa using hb5
      rw [if_neg (by simpa using h5)] at hst
      have hob3 := hob3 h5
      have hord := hord h5
      refine zA ?_
      refine AOps.app tabOk rfl rfl rfl rfl rfl rfl rfl rfl rfl (Base.gs' _ 29 3 _ _ rfl rfl) (.sl _ _) rfl ?_ ?_ ?_
      · rw [List.length_map]; show (L.length + 2) * 24 ≤ _; omega
      · rw [List.length_map]; show L.length + 2 ≤ _; omega
      refine zA ?_
      obtain ⟨P, hP⟩ : ∃ P, P = inlAt out A.1 i := ⟨_, rfl⟩
      rw [← hP] at hst ⊢
      obtain ⟨L', hL'⟩ : ∃ L', L' = L ++ [(12, k, 0), (1, P, 0)] := ⟨_, rfl⟩
      have hsn : L'.map cS = L.map cS ++ [[int 12, int k, int 0], [int 1, int P, int 0]] := by rw [hL', List.map_append]; rfl
      have hll : L'.length = L.length + 2 := by rw [hL']; simp
      refine cInv ⟨m, (C.1, L'), fun q => if q = 0 then 3 else q, by omega, ⟨hob3, hord.1, t + 1, by show L'.length = _; omega, by omega, ?_⟩, ?_⟩
      · rw [hst, hL']; simp
      · show LessR _ _ _ [(9, .one (.gs 3 (L'.map cS) (.l 0))), (8, .one (.sl 5 (C.1.map cEx))), (1, .one (int B))] ⟨1, [(0, .tok 29 3 (L'.map cS).length)], ou⟩
        rw [hsn]
        exact LessR.of rfl (FrSub.consGs rfl rfl (by rw [← hsn]; simp) (FrSub.consP rfl (.ofEq rfl) (by simp) (FrSub.cons rfl (.ofEq rfl) .nil))) (by rw [← hsn]; simp) (by repeat' first | exact LoSub.nil | refine zlc ?_ | refine zld ?_ ?_ | rfl) rfl rfl hou
  · have hlt : ¬ t + 1 ≤ B / 2 := by simp at hb3; omega
    have hm0 : m = 0 := by omega
    subst hm0
    refine zA ?_
    have hfin := hstop rfl
    rw [hfin]
    exact APure.fin (r' := .tup [.one (.sl 5 (out.map cEx)), .one (.sl 3 (L.map cS)), .one (int 0)]) rfl (WkF.tup (.cons (.refl _) (.cons (.one (.gsE rfl)) (.cons (.refl _) .nil)))) (by simp) hou rfl
end Go.Proofs.YtgdionbeeodaaaaDoor
namespace Go.Proofs.YtgdionbeeodaaaaDoor
open Go Go.Abs Go.CoreX
set_option maxRecDepth 10000
variable {Γ : List (Nat × List AC)}
def LFl (l : Lab) : Prop := ¬ (l.op = 4 ∧ l.ops.getD 0 0 = 2)
def letFn (e : List Ex) (x : Ex) : Bool := decide (x.op = 4) && decide ((kidX e x).op = 2)
theorem opT {e : List Ex} (hk : kidsIn e) {k : Nat} {y : Ex} (hy : e[k]? = some y) : (treeAt e k).op = y.op := by rw [treeAt_node hk hy]; rfl
theorem lf_of {e : List Ex} (hc : check e = 0) {i : Nat} {x : Ex} (hx : e[i]? = some x) (h4 : x.op = 4) : (x.kids.map fun k => (treeAt e k.toNat).op).getD 0 0 = (kidX e x).op := by
  have t1 := body_isTree hc
  obtain ⟨k, b, hk0, _, hk1, hk2⟩ := kids_let hc hx h4
  have hlt := (List.getElem?_eq_some_iff.1 hx).1
  obtain ⟨y, hy⟩ := get_of_lt (l := e) (i := k.toNat) (by omega)
  rw [kidX_at hk0 hy, List.getD_eq_getElem?_getD, List.getElem?_map, hk0]
  exact opT t1.k hy
theorem noLam_list {e : List Ex} (hc : check e = 0) (h : ∀ x ∈ e, letFn e x = false) : ∀ x ∈ listT [] (grow e), letFn (listT [] (grow e)) x = false := by
  have t1 := body_isTree hc
  have hA : allT LFl (grow e) := allT_grow t1 fun x hx => by
    obtain ⟨i, hi⟩ := List.getElem?_of_mem hx
    rintro ⟨h4, h2⟩
    have h4 : x.op = 4 := h4
    have h3 := lf_of hc hi h4
    have h2 : (x.kids.map fun k => (treeAt e k.toNat).op).getD 0 0 = 2 := h2
    have := h x hx
    unfold letFn at this
    rw [← h3, h2, h4] at this
    cases this
  have t2 := isTree_list (grow e)
  have hc2 := check_list hc
  obtain ⟨E, hE⟩ : ∃ E, E = listT [] (grow e) := ⟨_, rfl⟩
  have hg : grow E = grow e := by rw [hE, grow_list]
  rw [← hE] at t2 hc2 ⊢
  intro x hx
  obtain ⟨i, hi⟩ := List.getElem?_of_mem hx
  have h1 := allT_treeAt t2 (by rw [hg]; exact hA) (List.getElem?_eq_some_iff.1 hi).1
  rw [treeAt_node t2.k hi] at h1
  have h1 := h1.1
  by_cases h4 : x.op = 4
  · have h3 := lf_of hc2 hi h4
    have h5 : ¬ (kidX E x).op = 2 := fun h2 => h1 ⟨h4, by
      rw [← h3] at h2
      simpa [Function.comp_def] using h2⟩
    unfold letFn; simp [h5]
  · unfold letFn; simp [h4]
theorem cand_none {e : List Ex} (h : ∀ x ∈ e, letFn e x = false) : candE e = none := by
  have h1 : ∀ l : List Ex, (∀ x ∈ l, letFn e x = false) → ∀ f, l.foldl (szStep e) f = f := by
    intro l
    induction l with
    | nil => intro _ f; rfl
    | cons x l ih =>
      intro hl f
      have hx := hl x (by simp)
      have : szStep e f x = f := by
        unfold szStep
        rw [if_neg]
        rintro ⟨h4, h2⟩
        unfold letFn at hx
        simp [h4, h2] at hx
      rw [List.foldl_cons, this]
      exact ih (fun y hy => hl y (by simp [hy])) f
  have h2 : ∀ (l : List Ex) (i : Nat), candL e (fun _ => none) l i = none := by
    intro l
    induction l with
    | nil => intro i; rfl
    | cons x l ih => intro i; simp [candL, callX, ih]
  unfold candE sizesE
  rw [h1 e h]
  exact h2 e 0
def inlT : Tr := .mk 4 0 [1] [.mk 2 0 [2] [.mk 0 2 [] [] []] [], .mk 3 0 [] [.mk 0 1 [] [] [], wordT 3] []] []
def inlX : List Ex := listT [] inlT
theorem okT_inl : okT inlT := by simp [inlT, wordT, okT, okTs]
theorem okB_inl : okB inlX := okB_list (T := inlT) (okT_pOk _ okT_inl) (by simp [inlT, wordT, cntN, cntNs])
theorem inl_fact1 : (inlE inlX 9).2 = ([(12, 2, 0), (1, 5, 0)], 0) := by decide +kernel
theorem InlList_ok : APure Tryd.prog Γc 39 [.one (.box (cNd inlT))] (.one (.sl 5 (inlX.map cEx))) := NodeList_ok hΓc inlT okT_inl (by have := cntN_list inlT []; simp [inlT, wordT, cntN, cntNs] at this ⊢; omega)
theorem inlineFact_ok : APure Tryd.prog Γc 32 [] (.one (.lit (.bool true))) := by
  have h1 := Inline_ok inlX okB_inl 9
  rw [inl_fact1] at h1
  obtain ⟨F, hF⟩ : ∃ F, F = (inlE inlX 9).1 := ⟨_, rfl⟩
  rw [← hF] at h1
  intro ou
  refine AFn.walk 37 tabOk Tryd.func32 rfl (by kernel_rfl) rfl rfl fun hou => ?_
  refine zA ?_
  refine zca hΓc (V_ok hΓc 2) hou ?_
  refine zA ?_
  refine zca hΓc (B_ok (Γ := Γc) 2 [2] [.mk 0 2 [] [] []]) hou ?_
  refine zA ?_
  refine zca hΓc (V_ok hΓc 1) hou ?_
  refine zA ?_
  refine zca hΓc (W_ok hΓc 3) hou ?_
  refine zA ?_
  refine zca hΓc (N_ok (Γ := Γc) 3 0 [.mk 0 1 [] [] [], wordT 3]) hou ?_
  refine zA ?_
  refine zca hΓc (B_ok (Γ := Γc) 4 [1] [.mk 2 0 [2] [.mk 0 2 [] [] []] [], .mk 3 0 [] [.mk 0 1 [] [] [], wordT 3] []]) hou ?_
  refine zA ?_
  refine zca hΓc InlList_ok hou ?_
  refine zA ?_
  refine zca hΓc h1 hou ?_
  refine zM ?_
  refine AOps.step1 rfl rfl rfl (AStep.indexAddr tabOk rfl rfl rfl rfl rfl rfl (.inl rfl) rfl (by decide) rfl) ?_
  refine zM ?_
  exact APure.fin rfl (WkF.ofEq rfl) (by simp) hou rfl
end Go.Proofs.YtgdionbeeodaaaaDoor
namespace Go.Proofs.YtgdionbeeodaaaaDoor
open Go Go.Abs Go.CoreX
set_option maxRecDepth 10000
variable {Γ : List (Nat × List AC)}
theorem ExIdx_ok (hΓ : ∀ g cs, (g, cs) ∈ Γ → idsL isO cs) (gf : Nat) (caps : List AC) (hcap : idsL isO caps) (p : Ex → Bool) (xs : List Ex) (hx : xs.length ≤ 1048576) (hf : ∀ a ∈ xs, APure Tryd.prog Γ gf (.agg (cEx a) :: caps.map .one) (.one (.lit (.bool (p a))))) :
    APure Tryd.prog Γ 59 [.one (.sl 5 (xs.map cEx)), .one (.fn (.func gf) [] caps)] (.one (int (idxOf p xs))) := by
  intro ou
  refine AFn.walk 19 tabOk Tryd.func59 rfl (by kernel_rfl) rfl rfl fun hou => ?_
  refine zA ?_
  refine ACode.loopR hΓ (α := Nat) (fun j => [(8, .one (int j)), (7, .one (int (xs.map cEx).length)), (1, .one (.fn (.func gf) [] caps)), (0, .one (.sl 5 (xs.map cEx)))])
    (fun j => ⟨0, [], ou⟩) (fun m j => j ≤ xs.length ∧ (∀ x ∈ xs.take j, p x = false) ∧ m = xs.length - j) (a0 := 0) (ρ := id) ⟨by omega, by simp, rfl⟩ (LessR.of rfl ?_ ?_ (by repeat' first | exact LoSub.nil | refine zlc ?_ | refine zld ?_ ?_ | rfl) rfl rfl hou) fun m j hj => ?_
  · refine .cons rfl (.ofEq rfl) (.cons rfl (.ofEq rfl) (.consP rfl (.ofEq rfl) (by simp [hcap]) (.consP rfl (.ofEq rfl) (by simp) .nil)))
  · simp [idsL_mono isO_inL caps hcap]
  obtain ⟨hjl, hno, rfl⟩ := hj
  refine zA ?_
  refine ACode.cond rfl (fun hb2 => ?_) (fun hb2 => ?_)
  · have hlt : j < xs.length := by simpa using hb2
    obtain ⟨a, ha⟩ := get_of_lt hlt
    have hca := hf a (List.mem_of_getElem? ha)
    refine zA ?_
    refine AOps.step1 rfl rfl rfl (AStep.indexAddr tabOk rfl rfl rfl rfl rfl rfl (.inl rfl) rfl (by omega) (by simpa using map_get ha)) ?_
    refine zA ?_
    refine AOps.callC hΓ hca rfl rfl rfl rfl rfl rfl rfl hou (by simp [idsF_ones hcap]) ?_
    refine zA ?_
    refine ACode.cond rfl (fun hb3 => ?_) (fun hb3 => ?_)
    · refine zA ?_
      refine APure.fin rfl (WkF.ofEq ?_) (by simp) hou rfl
      rw [idxOf_at hno ha hb3]
    · refine zA ?_
      refine AOps.step1 rfl rfl rfl (AStep.arith rfl rfl rfl (.inl ⟨rfl, rfl⟩) (inRange_i64 (by omega) (by omega))) ?_
      refine zA ?_
      refine cInv ⟨xs.length - (j + 1), j + 1, id, by omega, ⟨by omega, take_all hno ha hb3, rfl⟩, LessR.of rfl ?_ ?_ (by repeat' first | exact LoSub.nil | refine zlc ?_ | refine zld ?_ ?_ | rfl) rfl rfl hou⟩
      · refine .cons rfl (.ofEq rfl) (.cons rfl (.ofEq rfl) (.consP rfl (.ofEq rfl) (by simp [hcap]) (.consP rfl (.ofEq rfl) (by simp) .nil)))
      · simp [idsL_mono isO_inL caps hcap]
  · have hlt : j = xs.length := by simp at hb2; omega
    subst hlt
    rw [List.take_length] at hno
    refine zA ?_
    refine APure.fin rfl (WkF.ofEq ?_) (by simp) hou rfl
    rw [idxOf_none hno]
theorem ExHas_ok (hΓ : ∀ g cs, (g, cs) ∈ Γ → idsL isO cs) (gf : Nat) (caps : List AC) (hcap : idsL isO caps) (p : Ex → Bool) (xs : List Ex) (hx : xs.length ≤ 1048576) (hf : ∀ a ∈ xs, APure Tryd.prog Γ gf (.agg (cEx a) :: caps.map .one) (.one (.lit (.bool (p a))))) :
    APure Tryd.prog Γ 33 [.one (.sl 5 (xs.map cEx)), .one (.fn (.func gf) [] caps)] (.one (.lit (.bool (xs.any p)))) := by
  intro ou
  refine AFn.walk 9 tabOk Tryd.func33 rfl (by kernel_rfl) rfl rfl fun hou => ?_
  refine zA ?_
  refine AOps.callC hΓ (ExIdx_ok hΓ gf caps hcap p xs hx hf) rfl rfl rfl rfl rfl rfl rfl hou (by simp [hcap]) ?_
  refine zA ?_
  refine APure.fin rfl (WkF.ofEq ?_) (by simp) hou rfl
  rw [← idxOf_any]

theorem letFn_ok (e : List Ex) (hel : e.length ≤ 1048576) (hc : check e = 0) (x : Ex) (hx : x ∈ e) : APure Tryd.prog Γ 34 (.agg (cEx x) :: [AC.box [.sl 5 (e.map cEx)]].map .one) (.one (.lit (.bool (letFn e x)))) := by
  obtain ⟨i, hi⟩ := List.getElem?_of_mem hx
  have hlt := (List.getElem?_eq_some_iff.1 hi).1
  intro ou
  refine AFn.walk 18 tabOk Tryd.func34 rfl (by kernel_rfl) rfl rfl fun hou => ?_
  refine zA ?_
  by_cases h4 : x.op = 4
  · obtain ⟨k, b, hk0, _, hk1, hk2⟩ := kids_let hc hi h4
    obtain ⟨k, rfl⟩ : ∃ k' : Nat, k = k' := ⟨k.toNat, by omega⟩
    obtain ⟨y, hy⟩ := get_of_lt (l := e) (i := k) (by omega)
    have hkx : kidX e x = y := kidX_at hk0 (by simpa using hy)
    refine ACode.drawX tabOk 14 [(2, .one (.lit (.bool true))), (7, .one (.box (cI (k : Int)))), (9, .one (.box (cEx y)))] follows (by kernel_rfl) rfl rfl rfl rfl ?_ ?_
    · refine .step rfl (HStep.litB tabOk rfl (by simp [h4])) ?_
      refine .step rfl (HStep.guarded rfl rfl rfl (AStep.indexAddr tabOk rfl rfl rfl rfl rfl rfl (.inl rfl) rfl (by decide) (map_get hk0))) ?_
      exact .step rfl (HStep.guarded rfl rfl rfl (AStep.indexAddr tabOk rfl rfl rfl rfl rfl rfl (.inl rfl) rfl (by omega) (map_get hy))) .nil
    refine zA ?_
    refine APure.fin rfl (WkF.ofEq ?_) (by simp) hou rfl
    unfold letFn
    rw [hkx, h4]
    congr 3
  · refine ACode.drawX tabOk 14 [(2, .one (.lit (.bool false)))] follows (by kernel_rfl) rfl rfl rfl rfl ?_ ?_
    · exact .step rfl (HStep.litB tabOk rfl (by simp [h4])) .nil
    refine zA ?_
    refine APure.fin rfl (WkF.ofEq ?_) (by simp) hou rfl
    unfold letFn
    simp [h4]
theorem InlineNone_ok (e : List Ex) (he : okB e) : APure Tryd.prog Γc 8 [.one (.sl 5 (e.map cEx))] (.one (.lit (.bool true))) := by
  have hel := he.eo.l
  have hR := Inline_ok e he 20
  intro ou
  refine AFn.walk 38 tabOk Tryd.func8 rfl (by kernel_rfl) rfl rfl fun hou => ?_
  refine zA ?_
  refine AOps.freeze1 (.l 0) 1 rfl rfl ?_
  by_cases h : check e ≠ 0
  · rw [show inlE e 20 = ([], [], check e) by unfold inlE; rw [if_pos h]] at hR
    dsimp only at hR
    refine zA ?_
    refine zca hΓc hR hou ?_
    refine zA ?_
    refine ACode.cond rfl (fun hb => ?_) (fun hb => absurd hb (by simpa using h))
    refine zA ?_
    refine zca hΓc inlineFact_ok hou ?_
    refine zM ?_
    exact APure.fin rfl (WkF.ofEq (by simp)) (by simp) hou rfl
  have h : check e = 0 := by simpa using h
  obtain ⟨V, hV⟩ : ∃ V, V = inlE e 20 := ⟨_, rfl⟩
  have hV2 : V.2.2 = 0 := by rw [hV]; unfold inlE; rw [if_neg (by simpa using h), if_neg (by omega)]
  rw [← hV, hV2] at hR
  have hH := ExHas_ok hΓc 34 [.box [.sl 5 (e.map cEx)]] (by simp) (letFn e) e hel (fun x hx => letFn_ok e hel h x hx)
  refine zA ?_
  refine zca hΓc hR hou ?_
  refine zA ?_
  refine zca hΓc hH hou ?_
  cases hany : e.any (letFn e) with
  | true =>
    refine zA ?_
    refine zca hΓc inlineFact_ok hou ?_
    refine zM ?_
    exact APure.fin rfl (WkF.ofEq (by simp)) (by simp) hou rfl
  | false =>
    have hno : ∀ x ∈ e, letFn e x = false := by simpa using hany
    have hcn := cand_none (noLam_list h hno)
    have hVe : V = (listT [] (grow e), [], 0) := by
      rw [hV]; unfold inlE
      rw [if_neg (by simpa using h), if_neg (by omega)]
      have : (20 : Int).toNat / 2 = 9 + 1 := by decide
      rw [this]
      simp only [inlGo, hcn]
    have hS := Same_ok e (listT [] (grow e)) he (order_okB he h) (by simp [same, h, check_list h, grow_list, sameTree_refl])
    subst hVe
    refine zA ?_
    refine zca hΓc inlineFact_ok hou ?_
    refine zM ?_
    refine zca hΓc hS hou ?_
    refine zM ?_
    exact APure.fin rfl (WkF.ofEq (by simp)) (by simp) hou rfl
end Go.Proofs.YtgdionbeeodaaaaDoor
namespace Go.Proofs.YtgdionbeeodaaaaDoor
open Go Go.Abs Go.CoreX
set_option maxRecDepth 10000
theorem bulkAll_eq {H : Type} : ∀ l : List (DataW H), Rows.uptoBulkAll l = bulkAll Rows.uptoBulk l
  | [] => rfl
  | d :: l => by simp only [Rows.uptoBulkAll, bulkAll, List.map_cons, List.sum_cons] at *; rw [bulkAll_eq l]; rfl
theorem bulk_agg {H : Type} (l : List (DataW H)) : bulkAll Rows.uptoBulk l + 1 ≤ Rows.uptoBulk (.agg l) := by
  simp only [Rows.uptoBulk, bulkAll_eq]; omega
theorem bulk_slice {H : Type} (l r : List (DataW H)) : bulkAll Rows.uptoBulk l + 1 ≤ Rows.uptoBulk (.slice l r) := by
  simp only [Rows.uptoBulk, bulkAll_eq]; omega
theorem bulk_nil {H : Type} : 1 ≤ Rows.uptoBulk (DataW.nil : DataW H) := by simp [Rows.uptoBulk]
section
variable {H : Type} {enc : TypeId × Value → H} {w : World}
abbrev I64 := {i : Int // IntKind.i64.min ≤ i ∧ i ≤ IntKind.i64.max}
theorem opens_int (n : Nat) : Opens enc Tryd.prog w Rows.uptoBulk 3 n (fun i : I64 => [int i.1]) (fun _ => 1) := by
  intro cs x h
  obtain ⟨i, rfl, rfl, hw⟩ := DataW.trod_int Tryd.underlying3 h
  refine ⟨⟨i, ?_⟩, ⟨_, _, rfl, ⟨rfl, rfl⟩, rfl⟩, by simp [Rows.uptoBulk]⟩
  simpa [Lit.wf] using hw
theorem opens_slice {t e : TypeId} {s : Nat} (ht : Tryd.prog.underlying t = some (.slice e)) (hs : Tryd.prog.cellsOf e = s) (h0 : 0 < s) {α : Type} {c : α → List AC} {wt : α → Nat} (n : Nat) (he : ∀ m, m < n → Opens enc Tryd.prog w Rows.uptoBulk e m c wt) :
    Opens enc Tryd.prog w Rows.uptoBulk t n (fun l : List α => [.sl s (l.map c)]) (fun l => wtAll wt l + 1) := by
  cases n with
  | zero => exact Opens.zero
  | succ n => exact Opens.slice bulk_slice bulk_nil ht hs h0 (he n (by omega))
theorem wt_one {α : Type} (l : List α) : wtAll (fun _ => 1) l = l.length := by
  unfold wtAll
  induction l with
  | nil => rfl
  | cons a l ih => simp only [List.map_cons, List.sum_cons, List.length_cons, ih]; omega
theorem opens_ints (n : Nat) : Opens enc Tryd.prog w Rows.uptoBulk 35 n (fun l : List Int => [.sl 1 (l.map cI)]) (fun l => l.length + 1) := by
  refine Opens.as (opens_slice Tryd.underlying35 (s := 1) (by kernel_rfl) (by omega) n (fun m _ => opens_int m)) fun l => ⟨l.map (·.1), ?_, ?_⟩
  · simp only [List.map_map]; rfl
  · rw [wt_one]; simp
def bAlt (a : Alt) : Nat := a.binds.length + 3
def bAlts (l : List Alt) : Nat := (l.map bAlt).sum
def bEx (x : Ex) : Nat := x.binds.length + x.kids.length + bAlts x.alts + 6
def bExs (l : List Ex) : Nat := (l.map bEx).sum
theorem opensAlt (n : Nat) : Opens enc Tryd.prog w Rows.uptoBulk 89 n cAlt bAlt := by
  cases n with
  | zero => exact Opens.zero
  | succ n =>
    refine Opens.as (Opens.struct bulk_agg Tryd.underlying89 (.cons rfl (by kernel_rfl) (opens_int n) (fun _ => rfl) (.cons rfl (by kernel_rfl) (opens_ints n) (fun _ => rfl) (.nil _))) (fun _ => (show (2 : Nat) = _ by kernel_rfl))) ?_
    rintro ⟨i, l, _⟩
    exact ⟨⟨i.1, l⟩, rfl, by show l.length + 3 ≤ 1 + (l.length + 1 + 0) + 1; omega⟩
theorem opensEx (n : Nat) : Opens enc Tryd.prog w Rows.uptoBulk 53 n cEx bEx := by
  cases n with
  | zero => exact Opens.zero
  | succ n =>
    have ha := opens_slice (enc := enc) (w := w) (t := 51) Tryd.underlying51 (s := 2) (by kernel_rfl) (by omega) n (fun m _ => opensAlt m)
    refine Opens.as (Opens.struct bulk_agg Tryd.underlying53 (.cons rfl (by kernel_rfl) (opens_int n) (fun _ => rfl) (.cons rfl (by kernel_rfl) (opens_int n) (fun _ => rfl) (.cons rfl (by kernel_rfl) (opens_ints n) (fun _ => rfl) (.cons rfl (by kernel_rfl) (opens_ints n) (fun _ => rfl) (.cons rfl (by kernel_rfl) ha (fun _ => rfl) (.nil _)))))) (fun _ => (show (5 : Nat) = _ by kernel_rfl))) ?_
    rintro ⟨i, j, b, k, l, _⟩
    refine ⟨⟨i.1, j.1, b, k, l⟩, rfl, ?_⟩
    show b.length + k.length + bAlts l + 6 ≤ 1 + (1 + (b.length + 1 + (k.length + 1 + (wtAll bAlt l + 1 + 0)))) + 1
    have : wtAll bAlt l = bAlts l := rfl
    omega
theorem opensExs (n : Nat) : Opens enc Tryd.prog w Rows.uptoBulk 22 n (fun l : List Ex => [.sl 5 (l.map cEx)]) (fun l => bExs l + 1) :=
  opens_slice Tryd.underlying22 (s := 5) (by kernel_rfl) (by omega) n (fun m _ => opensEx m)
theorem rf_slice {t e : TypeId} {base : Nat} {r : Reach} {W : World} {v : Value} {C : Ctx} {c : AC} (ht : Tryd.prog.underlying t = some (.slice e)) (h : Value.okWide Tryd.prog W r base t v) (hr : RV W C [c] v.cells.toList) : RF W C (.one c) v := by
  obtain ⟨a, len, cap, rfl⟩ := WideShapes.okWide_slice ht h
  obtain ⟨u, us, he, h1, h2⟩ := hr
  simp [Value.cells] at he
  obtain ⟨rfl, rfl⟩ := he
  exact h1
end
theorem sum_mem {α : Type} {f : α → Nat} : ∀ {l : List α} {a : α}, a ∈ l → f a ≤ (l.map f).sum
  | b :: l, a, h => by
    simp only [List.map_cons, List.sum_cons]
    rcases List.mem_cons.1 h with rfl | h
    · omega
    · have := sum_mem (f := f) h; omega
theorem sum_len {α : Type} {f : α → Nat} (hf : ∀ a, 1 ≤ f a) : ∀ l : List α, l.length ≤ (l.map f).sum
  | [] => by simp
  | b :: l => by
    have h1 := hf b
    have h2 := sum_len hf l
    simp only [List.map_cons, List.sum_cons, List.length_cons]; omega
theorem bAlts_flat : ∀ l : List Alt, (l.flatMap (·.binds)).length ≤ bAlts l
  | [] => by simp [bAlts]
  | a :: l => by
    have := bAlts_flat l
    simp only [bAlts, bAlt, List.flatMap_cons, List.length_append, List.map_cons, List.sum_cons] at *
    omega
theorem okB_of {e : List Ex} (h : bExs e ≤ 1048576) : okB e := by
  have h1 := sum_len (f := bEx) (fun x => by simp only [bEx]; omega) e
  have hx : ∀ x ∈ e, bEx x ≤ 1048576 := fun x hx => by
    have h2 : bEx x ≤ bExs e := sum_mem hx
    omega
  have h1' : e.length ≤ bExs e := h1
  refine ⟨⟨by omega, fun x hx1 => ?_⟩, fun x hx1 => ?_⟩
  · have h2 := hx x hx1
    simp only [bEx] at h2
    have h3 := sum_len (f := bAlt) (fun a => by simp only [bAlt]; omega) x.alts
    have h3' : x.alts.length ≤ bAlts x.alts := h3
    refine ⟨by omega, by omega, by omega, fun a ha => ?_⟩
    have h4 : bAlt a ≤ bAlts x.alts := sum_mem ha
    simp only [bAlt] at h4
    omega
  · have h2 := hx x hx1
    simp only [bEx] at h2
    have h3 := bAlts_flat x.alts
    omega
theorem arity_cells {W : World} (h : laidMetH Tryd.prog [("provenance/core.arity", Rows.laid_provenance_core_arity)] W) : ∀ g cs, (g, cs) ∈ Γc → RG W (ctx0 W) cs g := by
  have ht : Lib.TabIs Tryd.prog W "provenance/core.arity" .i64 [2, 2, 2, 2, 2, 2, 2, 1, 2, 1, 2, 3] :=
    Lib.tabIs_of_head (rest := []) (g := 1) (t := 158) (n := 12) (by kernel_rfl) (by kernel_rfl) (by kernel_rfl) Tryd.underlying3 (by kernel_rfl) (by kernel_rfl) h
  have hg : Tryd.prog.globalNamed "provenance/core.arity" = some 1 := by kernel_rfl
  intro g cs hm
  simp [Γc] at hm
  obtain ⟨rfl, rfl⟩ := hm
  exact RG.ofVar hg ht rfl
end Go.Proofs.YtgdionbeeodaaaaDoor
