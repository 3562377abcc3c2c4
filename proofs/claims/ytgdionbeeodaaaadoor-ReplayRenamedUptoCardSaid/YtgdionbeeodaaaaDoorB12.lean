/- The nodes of an expression as own trees: open, walked. -/
import Derived.Test.YtgdionbeeodaaaaDoorB11
import Derived.Test.YtgdionbeeodaaaaDoorRows
import Derived.Lib.LaidTab
set_option linter.unusedVariables false
set_option linter.unusedSimpArgs false
namespace Go.Proofs.YtgdionbeeodaaaaDoor
open Go Go.Abs Go.CoreX
set_option maxRecDepth 10000
variable {Γ : List (Nat × List AC)}
def OpenQ (e : List Ex) (ou : Outer) (r : FV) (ou' : Outer) : Prop := ∃ (lts : List LTr) (root : LTr), r = .one (.box [.sl 1 (kC lts), .ptr (.o root.id) 0]) ∧ LinkL e lts plainB ∧ lts[e.length - 1]? = some root ∧ NewO ou ou' (lts.flatMap ownO)
abbrev wO (lts : List LTr) : AObj := .cells [.gs 1 (kC lts) (.l 1), .lit (.pointer none)]
set_option maxHeartbeats 2000000 in
theorem open_ok (hΓ : ∀ g cs, (g, cs) ∈ Γ → idsL isO cs) (e : List Ex) (he : okE e) (hin : kidsIn e) (hne : e ≠ []) (ou : Outer) : AFn Tryd.prog Γ 46 [.one (.sl 5 (e.map cEx))] ou (OpenQ e ou) := by
  have hel := he.l
  refine AFn.walk 99 tabOk Tryd.func46 rfl (by kernel_rfl) rfl rfl fun hou => ?_
  refine zA ?_
  refine ACode.grow 0 0 70 1 rfl rfl ?_
  refine ACode.loopR hΓ (α := Nat × List LTr × Outer) (fun c => [(15, .one (int c.1)), (14, .one (int (e.map cEx).length)), (13, .one (.sl 5 (e.map cEx))), (3, .one (.ptr (.l 0) 0)), (0, .one (.sl 5 (e.map cEx)))])
    (fun c => ⟨2, [(1, .tok 70 1 c.1), (0, wO c.2.1)], c.2.2⟩) (fun m c => c.1 ≤ e.length ∧ (LinkL (e.take c.1) c.2.1 plainB ∧ NewO ou c.2.2 (c.2.1.flatMap ownO)) ∧ m = e.length - c.1) (a0 := (0, [], ou)) (ρ := id) ⟨by omega, ⟨LinkL.nil, .nil hou⟩, rfl⟩
    (LessR.of rfl (by (repeat' first | exact FrSub.nil | refine zfc ?_ | refine zfo ?_ | refine zfp ?_)) (by simp) (by repeat' first | exact LoSub.nil | refine zlc ?_ | refine zld ?_ ?_ | rfl) rfl rfl hou) fun m c hc => ?_
  obtain ⟨j, lts, ov⟩ := c
  obtain ⟨hjl, ⟨hL, hN⟩, rfl⟩ := hc
  dsimp only at hjl hL hN
  have hov := hN.ok
  refine zA ?_
  refine ACode.cond rfl (fun hb2 => ?_) (fun hb2 => ?_)
  · have hlt : j < e.length := by simpa using hb2
    obtain ⟨x, hx⟩ := get_of_lt hlt
    have hxo := he.x x (List.mem_of_getElem? hx)
    have hxk := hxo.k
    have hxa := hxo.a
    have hxb := hxo.b
    have hxin := hin j x hx
    have hgl : lts.length = j := by rw [hL.len]; simp; omega
    have hkcl : (kC lts).length = j := by rw [kC_len, hgl]
    refine zA ?_
    refine AOps.step1 rfl rfl rfl (AStep.indexAddr tabOk rfl rfl rfl rfl rfl rfl (.inl rfl) rfl (by omega) (map_get hx)) ?_
    refine zA ?_
    refine ACode.drawC tabOk 9 [6, 7, 8] [] (fun vs σ => match vs with
        | [] => σ = ⟨3, [(2, .cells (cEx x)), (2, .cells (ti53.zero.map .lit)), (1, .tok 70 1 j), (0, wO lts)], ov⟩
        | [a] => a = .one (.sl 1 (x.binds.map cI)) ∧ σ = ⟨4, (3, .dead) :: [(2, .cells (cEx x)), (2, .cells (ti53.zero.map .lit)), (1, .tok 70 1 j), (0, wO lts)], ov⟩
        | [a, b] => a = .one (.sl 1 (x.binds.map cI)) ∧ b = .agg [int x.op, int x.n, .sl 1 (x.binds.map cI), .lit (.slice none 0 0), .lit (.slice none 0 0)] ∧ σ = ⟨4, (3, .dead) :: [(2, .cells (cEx x)), (2, .cells (ti53.zero.map .lit)), (1, .tok 70 1 j), (0, wO lts)], ov⟩
        | [a, b, c] => a = .one (.sl 1 (x.binds.map cI)) ∧ b = .agg [int x.op, int x.n, .sl 1 (x.binds.map cI), .lit (.slice none 0 0), .lit (.slice none 0 0)] ∧ c = .one (.ptr (.l 4) 0) ∧ σ = ⟨5, (4, .cells [int x.op, int x.n, .sl 1 (x.binds.map cI), .lit (.slice none 0 0), .lit (.slice none 0 0)]) :: (3, .dead) :: [(2, .cells (cEx x)), (2, .cells (ti53.zero.map .lit)), (1, .tok 70 1 j), (0, wO lts)], ov⟩
        | _ => False) follows (by kernel_rfl) rfl rfl (by decide) (by kernel_rfl) (by kernel_rfl) rfl rfl ?_ (fun _ _ _ => .nil) (by decide) ?_ ?_
    · rintro vs σ hG
      match vs, hG with
      | [], hG => subst hG; rfl
      | [a], hG => obtain ⟨_, rfl⟩ := hG; rfl
      | [a, b], hG => obtain ⟨_, _, rfl⟩ := hG; rfl
      | [a, b, c], hG => obtain ⟨_, _, _, rfl⟩ := hG; rfl
    · rintro vs σ hG i o hp1 hp2
      match vs, hG with
      | [], hG =>
        subst hG
        cases hp1
        cases hp2
        refine ⟨rfl, rfl, .inr ⟨rfl, ?_⟩⟩
        intro F w C tmps hI hF next Q hk
        refine AStepR.appCopyS (news := x.binds.map cI) tabOk rfl rfl rfl rfl rfl rfl rfl (by simp; show _ * 8 ≤ _; omega) (by simp; omega) F w C tmps hI hF next Q fun u w' C' v σ' hq => hk u w' C' v σ' ?_
        obtain ⟨rfl, rfl⟩ := hq
        exact ⟨rfl, rfl⟩
      | [a], hG =>
        obtain ⟨rfl, rfl⟩ := hG
        cases hp1
        cases hp2
        exact ⟨rfl, rfl, .inl ⟨_, _, HStep.auto tabOk rfl, rfl, rfl, rfl⟩⟩
      | [a, b], hG =>
        obtain ⟨rfl, rfl, rfl⟩ := hG
        cases hp1
        cases hp2
        exact ⟨rfl, rfl, .inl ⟨_, _, HStep.auto tabOk rfl, rfl, rfl, rfl, rfl⟩⟩
      | [a, b, c], hG => cases hp1
    rintro vs σ hlen hG
    match vs, hlen, hG with
    | [a, b, c], _, hG =>
    obtain ⟨rfl, rfl, rfl, rfl⟩ := hG
    refine zA ?_
    refine ACode.grow 4 3 70 1 rfl rfl ?_
    refine ACode.loopR hΓ (α := Nat) (fun i => [(31, .one (int i)), (30, .one (int (x.kids.map cI).length)), (29, .one (.sl 1 (x.kids.map cI))), (6, .one (.ptr (.l 3) 0)), (5, .one (.ptr (.l 2) 0)), (3, .one (.ptr (.l 0) 0)), (15, .one (int j)), (14, .one (int (e.map cEx).length)), (13, .one (.sl 5 (e.map cEx))), (0, .one (.sl 5 (e.map cEx)))])
      (fun i => ⟨5, [(4, .tok 70 1 i), (3, .cells [int x.op, int x.n, .sl 1 (x.binds.map cI), .gs 1 (kC (kidsL lts (x.kids.take i))) (.l 4), .lit (.slice none 0 0)]), (2, .cells (cEx x)), (1, .tok 70 1 j), (0, wO lts)], ov⟩)
      (fun m i => i ≤ x.kids.length ∧ m = x.kids.length - i) (a0 := 0) (ρ := fun k => if k = 3 then 4 else if k = 4 then 5 else k) ⟨by omega, rfl⟩ (LessR.of rfl (by (repeat' first | exact FrSub.nil | refine zfc ?_ | refine zfo ?_ | refine zfp ?_)) (by simp) ?_ rfl rfl hov) fun m i hi => ?_
    · repeat' first | exact LoSub.nil | refine zlc ?_ | refine zld ?_ ?_ | rfl
      all_goals (simp [AObj.ren, renL, AC.ren, kidsL]; exact ⟨rfl, rfl⟩)
    obtain ⟨hil, rfl⟩ := hi
    refine zA ?_
    refine ACode.cond rfl (fun hb3 => ?_) (fun hb3 => ?_)
    · have hlt2 : i < x.kids.length := by simpa using hb3
      obtain ⟨k, hk⟩ := get_of_lt hlt2
      have hkb := hxin k (List.mem_of_getElem? hk)
      obtain ⟨k', rfl⟩ : ∃ k' : Nat, k = k' := ⟨k.toNat, by omega⟩
      obtain ⟨tk, htk⟩ := get_of_lt (l := lts) (i := k') (by omega)
      have htd : (lts).getD (k' : Int).toNat default = tk := by rw [Int.toNat_natCast, List.getD_eq_getElem?_getD, htk]; rfl
      have hks := kidsL_succ (ts := lts) hk
      rw [htd] at hks
      have hkl : (kC (kidsL lts (x.kids.take i))).length = i := by simp [kC, kidsL]; omega
      refine zA ?_
      refine AOps.step1 rfl rfl rfl (AStep.indexAddr tabOk rfl rfl rfl rfl rfl rfl (.inl rfl) rfl (by omega) (map_get hk)) ?_
      refine zA ?_
      refine ACode.drawXH (va := .one (.gs 1 (kC (kidsL lts (x.kids.take i)) ++ [[AC.ptr (.o tk.id) 0]]) (.l 5))) (σ1 := ((St.mk 5 [(4, .tok 70 1 i), (3, .cells [int x.op, int x.n, .sl 1 (x.binds.map cI), .gs 1 (kC (kidsL lts (x.kids.take i))) (.l 4), .lit (.slice none 0 0)]), (2, .cells (cEx x)), (1, .tok 70 1 j), (0, wO lts)] ov).set (.l 4) .dead).push (.tok 70 1 (kC (kidsL lts (x.kids.take i)) ++ [[AC.ptr (.o tk.id) 0]]).length))
        tabOk 14 13 [(10, .one (.box [.ptr (.o tk.id) 0]))] follows (by kernel_rfl) rfl rfl rfl rfl rfl rfl rfl ?_ ?_ ?_ ?_
      · refine HStep.plain rfl (AStep.append (s := 1) (es := kC (kidsL lts (x.kids.take i))) (news := [[AC.ptr (.o tk.id) 0]]) (ti := ti71) (σ := ⟨5, [(4, .tok 70 1 i), (3, .cells [int x.op, int x.n, .sl 1 (x.binds.map cI), .gs 1 (kC (kidsL lts (x.kids.take i))) (.l 4), .lit (.slice none 0 0)]), (2, .cells (cEx x)), (1, .tok 70 1 j), (0, wO lts)], ov⟩) tabOk rfl rfl rfl rfl rfl rfl (Base.gs' _ 70 1 (kC (kidsL lts (x.kids.take i))) (.l 4) rfl hkl.symm) (.sl _ _) rfl ?_ ?_)
        · rw [hkl]; show (i + 1) * 8 ≤ _; omega
        · rw [hkl]; show i + 1 ≤ _; omega
      · exact .step rfl (HStep.plain rfl (AStep.indexAddr tabOk rfl rfl rfl rfl rfl rfl (.inr ⟨_, rfl⟩) rfl (by omega) (kC_get htk))) .nil
      · exact .step rfl (HStep.plain rfl (AStep.indexAddr tabOk rfl rfl rfl rfl rfl rfl (.inr ⟨_, rfl⟩) rfl (by omega) (kC_get htk))) .nil
      refine zM ?_
      refine cInv ⟨x.kids.length - (i + 1), i + 1, fun k => if k = 4 then 5 else k, by omega, ⟨by omega, rfl⟩, LessR.of rfl (by (repeat' first | exact FrSub.nil | refine zfc ?_ | refine zfo ?_ | refine zfp ?_)) (by simp) ?_ rfl rfl hov⟩
      repeat' first | exact LoSub.nil | refine zlc ?_ | refine zld ?_ ?_ | rfl
      · simp only [AObj.ren, List.length_append, hkl]; rfl
      · rw [hks, kC_snoc]; simp only [AObj.ren, renL, AC.ren]; rw [← kC_snoc, ren_kC]; simp; rfl
    have hlt2 : i = x.kids.length := by simp at hb3; omega
    subst hlt2
    rw [List.take_length]
    refine zA ?_
    refine ACode.grow 3 4 89 2 rfl rfl ?_
    refine ACode.loopR hΓ (α := Nat × List LAlt) (fun c => [(55, .one (int c.1)), (54, .one (int (x.alts.map cAlt).length)), (53, .one (.sl 2 (x.alts.map cAlt))), (6, .one (.ptr (.l 3) 0)), (3, .one (.ptr (.l 0) 0)), (15, .one (int j)), (14, .one (int (e.map cEx).length)), (13, .one (.sl 5 (e.map cEx))), (0, .one (.sl 5 (e.map cEx)))])
      (fun c => ⟨6, [(5, .tok 89 2 c.1), (3, .cells [int x.op, int x.n, .sl 1 (x.binds.map cI), .gs 1 (kC (kidsL lts x.kids)) (.l 4), .gs 2 (c.2.map lAlt) (.l 5)]), (1, .tok 70 1 j), (0, wO lts)], ov⟩)
      (fun m c => c.1 ≤ x.alts.length ∧ (c.2.map LAlt.er = x.alts.take c.1 ∧ ∀ y ∈ c.2, y.nb = none) ∧ m = x.alts.length - c.1) (a0 := (0, [])) (ρ := id) ⟨by omega, ⟨rfl, by simp⟩, rfl⟩ (LessR.of rfl (by (repeat' first | exact FrSub.nil | refine zfc ?_ | refine zfo ?_ | refine zfp ?_)) (by simp) ?_ rfl rfl hov) fun m c hc => ?_
    · repeat' first | exact LoSub.nil | refine zlc ?_ | refine zld ?_ ?_ | rfl
      all_goals (simp [AObj.ren, renL, AC.ren]; exact ⟨rfl, rfl⟩)
    obtain ⟨i, la⟩ := c
    obtain ⟨hil, ⟨hla, hlo⟩, rfl⟩ := hc
    dsimp only at hil hla hlo
    have hll : la.length = i := by have := congrArg List.length hla; simp at this; omega
    have hal : (la.map lAlt).length = i := by simp [hll]
    refine zA ?_
    refine ACode.cond rfl (fun hb3 => ?_) (fun hb3 => ?_)
    · have hlt2 : i < x.alts.length := by simpa using hb3
      obtain ⟨a, ha⟩ := get_of_lt hlt2
      have hab := hxo.ab a (List.mem_of_getElem? ha)
      refine zA ?_
      refine AOps.step1 rfl rfl rfl (AStep.indexAddr tabOk rfl rfl rfl rfl rfl rfl (.inl rfl) rfl (by omega) (map_get ha)) ?_
      refine zA ?_
      refine ACode.drawC tabOk 13 [9, 10, 11, 12] [] (fun vs σ => match vs with
          | [] => σ = ⟨7, [(6, .cells (cAlt a)), (6, .cells (ti89.zero.map .lit)), (5, .tok 89 2 i), (3, .cells [int x.op, int x.n, .sl 1 (x.binds.map cI), .gs 1 (kC (kidsL lts x.kids)) (.l 4), .gs 2 (la.map lAlt) (.l 5)]), (1, .tok 70 1 j), (0, wO lts)], ov⟩
          | [q1] => q1 = .one (bC none a.binds) ∧ σ = ⟨8, (7, .dead) :: [(6, .cells (cAlt a)), (6, .cells (ti89.zero.map .lit)), (5, .tok 89 2 i), (3, .cells [int x.op, int x.n, .sl 1 (x.binds.map cI), .gs 1 (kC (kidsL lts x.kids)) (.l 4), .gs 2 (la.map lAlt) (.l 5)]), (1, .tok 70 1 j), (0, wO lts)], ov⟩
          | [q1, q2] => q1 = .one (bC none a.binds) ∧ q2 = .agg [int a.tag, bC none a.binds] ∧ σ = ⟨8, (7, .dead) :: [(6, .cells (cAlt a)), (6, .cells (ti89.zero.map .lit)), (5, .tok 89 2 i), (3, .cells [int x.op, int x.n, .sl 1 (x.binds.map cI), .gs 1 (kC (kidsL lts x.kids)) (.l 4), .gs 2 (la.map lAlt) (.l 5)]), (1, .tok 70 1 j), (0, wO lts)], ov⟩
          | [q1, q2, q3] => q1 = .one (bC none a.binds) ∧ q2 = .agg [int a.tag, bC none a.binds] ∧ q3 = .one (.sl 2 [[int a.tag, bC none a.binds]]) ∧ σ = ⟨8, (7, .dead) :: [(6, .cells (cAlt a)), (6, .cells (ti89.zero.map .lit)), (5, .tok 89 2 i), (3, .cells [int x.op, int x.n, .sl 1 (x.binds.map cI), .gs 1 (kC (kidsL lts x.kids)) (.l 4), .gs 2 (la.map lAlt) (.l 5)]), (1, .tok 70 1 j), (0, wO lts)], ov⟩
          | [q1, q2, q3, q4] => q1 = .one (bC none a.binds) ∧ q2 = .agg [int a.tag, bC none a.binds] ∧ q3 = .one (.sl 2 [[int a.tag, bC none a.binds]]) ∧ q4 = .one (.gs 2 (la.map lAlt ++ [[int a.tag, bC none a.binds]]) (.l 8)) ∧ σ = ⟨9, [(8, .tok 89 2 (la.map lAlt ++ [[int a.tag, bC none a.binds]]).length), (5, .dead), (7, .dead), (6, .cells (cAlt a)), (6, .cells (ti89.zero.map .lit)), (5, .tok 89 2 i), (3, .cells [int x.op, int x.n, .sl 1 (x.binds.map cI), .gs 1 (kC (kidsL lts x.kids)) (.l 4), .gs 2 (la.map lAlt) (.l 5)]), (1, .tok 70 1 j), (0, wO lts)], ov⟩
          | _ => False) follows (by kernel_rfl) rfl rfl (by decide) (by kernel_rfl) (by kernel_rfl) rfl rfl ?_ (fun _ _ _ => .nil) (by decide) ?_ ?_
      · rintro vs σ hG
        match vs, hG with
        | [], hG => subst hG; rfl
        | [_], hG => obtain ⟨_, rfl⟩ := hG; rfl
        | [_, _], hG => obtain ⟨_, _, rfl⟩ := hG; rfl
        | [_, _, _], hG => obtain ⟨_, _, _, rfl⟩ := hG; rfl
        | [_, _, _, _], hG => obtain ⟨_, _, _, _, rfl⟩ := hG; rfl
      · rintro vs σ hG q o hp1 hp2
        match vs, hG with
        | [], hG =>
          subst hG
          cases hp1
          cases hp2
          refine ⟨rfl, rfl, .inr ⟨rfl, ?_⟩⟩
          intro F w C tmps hI hF next Q hk
          refine AStepR.appCopyS (news := a.binds.map cI) tabOk rfl rfl rfl rfl rfl rfl rfl (by simp; show _ * 8 ≤ _; omega) (by simp; omega) F w C tmps hI hF next Q fun u w' C' v σ' hq => hk u w' C' v σ' ?_
          obtain ⟨rfl, rfl⟩ := hq
          exact ⟨rfl, rfl⟩
        | [_], hG =>
          obtain ⟨rfl, rfl⟩ := hG
          cases hp1
          cases hp2
          exact ⟨rfl, rfl, .inl ⟨_, _, HStep.auto tabOk rfl, rfl, rfl, rfl⟩⟩
        | [_, _], hG =>
          obtain ⟨rfl, rfl, rfl⟩ := hG
          cases hp1
          cases hp2
          exact ⟨rfl, rfl, .inl ⟨_, _, HStep.auto tabOk rfl, rfl, rfl, rfl, rfl⟩⟩
        | [_, _, _], hG =>
          obtain ⟨rfl, rfl, rfl, rfl⟩ := hG
          cases hp1
          cases hp2
          refine ⟨rfl, rfl, .inl ⟨_, _, HStep.plain rfl (AStep.append (s := 2) (es := la.map lAlt) (news := [[int a.tag, bC none a.binds]]) (ti := ti51) tabOk rfl rfl rfl rfl rfl rfl (Base.gs' _ 89 2 (la.map lAlt) (.l 5) rfl hal.symm) (.sl _ _) rfl ?_ ?_), rfl, rfl, rfl, rfl, rfl⟩⟩
          · rw [hal]; show (i + 1) * 32 ≤ _; omega
          · rw [hal]; show i + 1 ≤ _; omega
        | [_, _, _, _], hG => cases hp1
      rintro vs σ hlen hG
      match vs, hlen, hG with
      | [_, _, _, _], _, hG =>
      obtain ⟨rfl, rfl, rfl, rfl, rfl⟩ := hG
      refine zM ?_
      obtain ⟨la', hla'⟩ : ∃ la', la' = la ++ [⟨a.tag, none, a.binds⟩] := ⟨_, rfl⟩
      have hlm : la.map lAlt ++ [[int a.tag, bC none a.binds]] = la'.map lAlt := by rw [hla', List.map_append]; rfl
      refine cInv ⟨x.alts.length - (i + 1), (i + 1, la'), fun k => if k = 5 then 8 else k, by omega, ⟨by omega, ⟨by rw [hla', List.map_append, hla, take_get ha]; rfl, ?_⟩, rfl⟩, LessR.of rfl (by (repeat' first | exact FrSub.nil | refine zfc ?_ | refine zfo ?_ | refine zfp ?_)) (by simp) ?_ rfl rfl hov⟩
      · intro y hy
        rw [hla'] at hy
        rcases List.mem_append.1 hy with hy | hy
        · exact hlo y hy
        · simp at hy; subst hy; rfl
      · repeat' first | exact LoSub.nil | refine zlc ?_ | refine zld ?_ ?_ | rfl
        · simp only [AObj.ren, List.length_append, hal]; rfl
        · simp only [hlm, AObj.ren, renL, AC.ren, ren_kC, ren_lAlts]; simp; exact ⟨rfl, rfl⟩
    have hlt2 : i = x.alts.length := by simp at hb3; omega
    subst hlt2
    rw [List.take_length] at hla
    repeat ((fail_if_success ((with_reducible refine oj ?_); refine AOps.atDst 75 rfl ?_)); first | refine zO ?_)
    refine AOps.wkObj (.l 3) rfl (cs' := [int x.op, int x.n, .sl 1 (x.binds.map cI), .sl 1 (kC (kidsL lts x.kids)), .sl 2 (la.map lAlt)]) (fun w C xs h => ?_) ?_
    · exact (show WkL _ _ from .cons (.refl _) (.cons (.refl _) (.cons (.refl _) (.cons (.gsE rfl) (.cons (.gsE rfl) .nil))))) w C xs h
    have hθ : ∀ (k : Nat) (i : Abs.Id), isO i → toOs [3] k i = i := fun k i hi => by cases i with | l q => exact hi.elim | o q => rfl
    have hnid : (AObj.cells [int x.op, int x.n, .sl 1 (x.binds.map cI), .sl 1 (kC (kidsL lts x.kids)), .sl 2 (la.map lAlt)]).ids isO := ids_node x.op x.n none x.binds (kidsL lts x.kids) la
    refine AOps.cedes [3] rfl (by decide) hov fun k hk => ⟨[(6, .one (.ptr (.o k) 0)), (3, .one (.ptr (.l 0) 0)), (15, .one (int j)), (14, .one (int (e.map cEx).length)), (13, .one (.sl 5 (e.map cEx))), (0, .one (.sl 5 (e.map cEx)))],
      [(1, .tok 70 1 j), (0, wO lts)], [.cells [int x.op, int x.n, .sl 1 (x.binds.map cI), .sl 1 (kC (kidsL lts x.kids)), .sl 2 (la.map lAlt)]], ?_, ?_, ?_, ?_⟩
    · exact .cons rfl rfl (.cons rfl rfl (.cons rfl rfl (.cons rfl rfl (.cons rfl (FV.sub_f (hθ k) _ (by simp)) (.cons rfl (FV.sub_f (hθ k) _ (by simp)) .nil)))))
    · refine .cons rfl rfl rfl (.cons rfl rfl ?_ .nil)
      simp only [wO, AObj.sub, subL, AC.sub]
      rw [subS_f (hθ k) _ (ids_kC_o _)]
      rfl
    · exact .cons rfl (AObj.sub_f (hθ k) _ hnid) .nil
    have hN1 := NewO.add hk hov hnid
    have hN2 := hN.trans hN1
    obtain ⟨t, ht⟩ : ∃ t : LTr, t = .mk k x.op x.n none x.binds (kidsL lts x.kids) la := ⟨_, rfl⟩
    have hto : lts.flatMap ownO ++ [(k, .cells [int x.op, int x.n, .sl 1 (x.binds.map cI), .sl 1 (kC (kidsL lts x.kids)), .sl 2 (la.map lAlt)])] = (lts ++ [t]).flatMap ownO := by
      rw [List.flatMap_append, ht]
      simp [ownO, bO, bC, plain_aO hlo]
    rw [hto] at hN2
    have hL2 := hL.snoc (kidsIn_pre (by rw [List.take_append_drop]; exact hin)) (x := x) (fun q hq => by have := hxin q hq; simp; omega) (id := k) (nb := none) hla rfl hlo
    rw [← take_get hx, show LTr.mk k x.op x.n none x.binds (x.kids.map fun q => lts.getD q.toNat default) la = t by rw [ht]; rfl] at hL2
    refine zA ?_
    refine AOps.app tabOk rfl rfl rfl rfl rfl rfl rfl rfl rfl (Base.gs' _ 70 1 _ _ rfl hkcl.symm) (.sl _ _) rfl ?_ ?_ ?_
    · rw [hkcl]; show (j + 1) * 8 ≤ _; omega
    · rw [hkcl]; show j + 1 ≤ _; omega
    refine zM ?_
    have hsk : kC lts ++ [[AC.ptr (.o k) 0]] = kC (lts ++ [t]) := by rw [kC_app, ht]; rfl
    refine cInv ⟨e.length - (j + 1), (j + 1, lts ++ [t], _), fun q => if q = 1 then 6 else q, by omega, ⟨by omega, ⟨hL2, hN2⟩, rfl⟩, LessR.of rfl (by (repeat' first | exact FrSub.nil | refine zfc ?_ | refine zfo ?_ | refine zfp ?_)) (by simp) ?_ rfl rfl hN2.ok⟩
    repeat' first | exact LoSub.nil | refine zlc ?_ | refine zld ?_ ?_ | rfl
    · simp only [AObj.ren, List.length_append, hkcl]; rfl
    · show _ = AObj.ren _ (.cells [.gs 1 (kC (lts ++ [t])) (.l 1), .lit (.pointer none)])
      simp only [AObj.ren, renL, AC.ren, ren_kC]
      rw [hsk]; rfl
  · have hlt : j = e.length := by simp at hb2; omega
    subst hlt
    rw [List.take_length] at hL
    obtain ⟨N, hNe⟩ : ∃ N, e.length = N + 1 := ⟨e.length - 1, by have := List.length_pos_iff.2 hne; omega⟩
    obtain ⟨t, ht⟩ := get_of_lt (l := lts) (i := N) (by rw [hL.len]; omega)
    have hnt : e.length - 1 = N := by omega
    refine zM ?_
    refine AOps.wk 93 rfl (y := .one (int (N : Nat))) (.ofEq (by congr 3; simp; omega)) ?_
    refine AOps.step1 rfl rfl rfl (AStep.indexAddr tabOk rfl rfl rfl rfl rfl rfl (.inr ⟨_, rfl⟩) rfl (by omega) (kC_get ht)) ?_
    repeat ((fail_if_success ((with_reducible refine oj ?_); refine AOps.atDst 98 rfl ?_)); first | refine zO ?_)
    refine AOps.wkObj (.l 0) rfl (cs' := [.sl 1 (kC lts), .ptr (.o t.id) 0]) (fun w C xs h => ?_) ?_
    · exact (show WkL _ _ from .cons (.gsE rfl) (.cons (.refl _) .nil)) w C xs h
    refine AOps.freeze1 (.l 0) 3 rfl rfl ?_
    refine zA ?_
    exact AFn.fin' rfl (WkF.ofEq rfl) (by simp) hov ⟨lts, t, rfl, hL, by rw [hnt]; exact ht, hN⟩
end Go.Proofs.YtgdionbeeodaaaaDoor
namespace Go.CoreX
theorem word_range {e : List Ex} {x : Ex} (h : nodeErrF false e x = 0) (h1 : x.op = 1) : -1073741824 ≤ x.n ∧ x.n ≤ 1073741823 := by
  unfold nodeErrF at h
  split at h
  · cases h
  · unfold nodeErr at h
    split at h
    · cases h
    · split at h
      · rename_i hr; exact absurd h hr
      · rename_i hr
        have hr' : ranges x = 0 := by simpa using hr
        unfold ranges at hr'
        repeat' split at hr'
        all_goals first
          | (cases hr'; done)
          | skip
        all_goals
          rename_i hf _
          simp [between, lowN, highN, h1] at *
          try omega
theorem check_words {e : List Ex} (h : check e = 0) : allT (fun l => l.op = 1 → -1073741824 ≤ l.n ∧ l.n ≤ 1073741823) (grow e) := by
  obtain ⟨_, p2, _, _⟩ := check_parts h
  exact allT_grow (body_isTree h) fun x hx h1 => word_range (p2 x hx) h1
theorem pOk_growLR {e : List Ex} (hk : kidsIn e) (hp : ∀ x ∈ e, pOk (labE e x)) (p : Nat) {X : Tr} (hX : allT pOk X) : ∀ (n j : Nat), j < n → j < e.length → allT pOk ((growLR e p X).getD j default)
  | 0, j, hj, _ => by omega
  | n + 1, j, hj, hl => by
    obtain ⟨x, hx⟩ : ∃ x, e[j]? = some x := ⟨e[j], List.getElem?_eq_getElem hl⟩
    rw [growLR_node hk p X hx]
    split
    · exact hX
    · have h := hp x (List.mem_of_getElem? hx)
      refine ⟨⟨h.b, ?_, h.a, h.ab, h.s⟩, allTs_iff.2 fun t ht => ?_⟩
      · have := h.k
        simp only [labE, List.length_map] at this ⊢
        exact this
      · obtain ⟨q, hq, rfl⟩ := List.mem_map.1 ht
        have := hk j x hx q hq
        exact pOk_growLR hk hp p hX n q.toNat (by omega) (by omega)
theorem cnt_at {e : List Ex} (h : check e = 0) {k : Nat} (hk : k < e.length) : cntN (treeAt e k) ≤ 4096 := by
  have t1 := body_isTree h
  obtain ⟨p1, _⟩ := check_parts h
  obtain ⟨q1, _, _⟩ := (treeErr_iff e).1 p1
  have h1 := len_sub t1 hk
  have h2 := cntN_list (treeAt e k) []
  simp only [List.length_nil] at h2
  omega
end Go.CoreX
namespace Go.Proofs.YtgdionbeeodaaaaDoor
open Go Go.Abs Go.CoreX
set_option maxRecDepth 10000
theorem LinkL.plain {e : List Ex} {lts : List LTr} (h : LinkL e lts plainB) (hk : kidsIn e) : ∀ (n i : Nat) (t : LTr), i < n → lts[i]? = some t → plainL t
  | 0, i, t, hi, _ => by omega
  | n + 1, i, t, hi, ht => by
    have hil : i < e.length := by rw [← h.len]; exact (List.getElem?_eq_some_iff.1 ht).1
    obtain ⟨x, hx⟩ := get_of_lt hil
    obtain ⟨id, nb, a, h1, h2, h3, h4⟩ := h.at_ i x hx
    rw [ht] at h1
    cases h1
    refine ⟨h3, h4, plainLs_iff.2 fun s hs => ?_⟩
    obtain ⟨q, hq, rfl⟩ := List.mem_map.1 hs
    have hq' := hk i x hx q hq
    obtain ⟨t', ht'⟩ := get_of_lt (l := lts) (i := q.toNat) (by rw [h.len]; omega)
    rw [h.getD ht']
    exact h.plain hk n q.toNat t' (by omega) ht'
theorem objss_count_le (k : Nat) {s : LTr} : ∀ {l : List LTr}, s ∈ l → (keys (objs s)).count k ≤ (keys (objss l)).count k
  | [], h => by cases h
  | t :: l, h => by
    simp only [objss, keys_app, List.count_append]
    rcases List.mem_cons.1 h with rfl | h
    · omega
    · have := objss_count_le k h; omega
theorem sub_count (k : Nat) {t0 t : LTr} (h : SubL t0 t) : (keys (objs t0)).count k ≤ (keys (objs t)).count k := by
  induction h with
  | here => exact Nat.le_refl _
  | @kid t s hs _ ih =>
    have h1 := objs_count k t
    have h2 := objss_count_le k hs
    omega
theorem sub_nodup {t0 t : LTr} (h : SubL t0 t) (hn : (keys (objs t)).Nodup) : (keys (objs t0)).Nodup := by
  rw [List.nodup_iff_count] at hn ⊢
  exact fun k => Nat.le_trans (sub_count k h) (hn k)
theorem own_id : ∀ t : LTr, t.id ∈ keys (ownO t)
  | .mk i o n nb b k a => by simp [ownO, keys, LTr.id]
theorem ids_inj : ∀ {lts : List LTr}, (keys (lts.flatMap ownO)).Nodup → ∀ (i j : Nat) (ti tj : LTr), lts[i]? = some ti → lts[j]? = some tj → ti.id = tj.id → i = j
  | [], _, i, j, ti, tj, h, _, _ => by simp at h
  | t :: l, hn, i, j, ti, tj, hi, hj, he => by
    rw [List.flatMap_cons, keys_app, List.nodup_append] at hn
    have hmem : ∀ (q : Nat) (s : LTr), l[q]? = some s → s.id ∈ keys (l.flatMap ownO) := fun q s hs => by
      obtain ⟨o, ho⟩ := of_keys (own_id s)
      exact mem_keys (List.mem_flatMap.2 ⟨s, List.mem_of_getElem? hs, ho⟩)
    cases i with
    | zero =>
      simp at hi; subst hi
      cases j with
      | zero => rfl
      | succ j => exact absurd he (hn.2.2 _ (own_id _) _ (hmem j tj (by simpa using hj)))
    | succ i =>
      cases j with
      | zero =>
        simp at hj; subst hj
        exact absurd he.symm (hn.2.2 _ (own_id _) _ (hmem i ti (by simpa using hi)))
      | succ j => rw [ids_inj hn.2.1 i j ti tj (by simpa using hi) (by simpa using hj) he]
end Go.Proofs.YtgdionbeeodaaaaDoor
namespace Go.Proofs.YtgdionbeeodaaaaDoor
open Go Go.Abs Go.CoreX
set_option maxRecDepth 10000
variable {Γ : List (Nat × List AC)}
structure NameOk (e : List Ex) (rule n : Int) (at' : Nat) : Prop where
  n : rule = 10 → ∀ (ou : Outer) (lts : List LTr) (root t : LTr), LinkL e lts plainB → lts[e.length - 1]? = some root → lts[at']? = some t → Owns ou (lts.flatMap ownO) → AFn Tryd.prog Γc 85 [.one (.box [.sl 1 (kC lts), .ptr (.o root.id) 0]), .one (.ptr (.o t.id) 0), .one (int n)] ou (ResW ou t (namedT (grow e) (erT t) n))
  u : rule = 12 → ∀ (ou : Outer) (lts : List LTr) (root t : LTr), LinkL e lts plainB → lts[e.length - 1]? = some root → lts[at']? = some t → Owns ou (lts.flatMap ownO) → (erT t).op = 0 → AFn Tryd.prog Γc 86 [.one (.box [.sl 1 (kC lts), .ptr (.o root.id) 0]), .one (.ptr (.o t.id) 0)] ou (ResW ou t (unfoldT (growL e) (grow e) (erT t)))
theorem NameOk.no {e : List Ex} {rule n : Int} {at' : Nat} (h1 : rule ≠ 10) (h2 : rule ≠ 12) : NameOk e rule n at' := ⟨fun h => absurd h h1, fun h => absurd h h2⟩
set_option maxHeartbeats 1000000 in
theorem Apply_ok (e : List Ex) (he : okB e) (rule at' n : Int) (hno : check e = 0 → 0 ≤ at' → at' < (e.length : Int) → NameOk e rule n at'.toNat) : APure Tryd.prog Γc 16 [.one (.sl 5 (e.map cEx)), .agg [int rule, int at', int n]] (.tup [.one (.sl 5 ((applyE e rule at' n).1.map cEx)), .one (int (applyE e rule at' n).2)]) := by
  have c1 := Check_ok e he
  have hel := he.eo.l
  intro ou
  refine AFn.forget ?_
  refine AFn.walk 64 tabOk Tryd.func16 rfl (by kernel_rfl) rfl rfl fun hou => ?_
  refine zA ?_
  refine zca hΓc c1 hou ?_
  refine zA ?_
  refine ACode.cond rfl (fun hb => ?_) (fun hb => ?_)
  · have h : check e ≠ 0 := by simpa using hb
    refine zA ?_
    refine AFn.fin' rfl (.trans (WkF.tup (.cons (.one (.nilS 5)) (.cons (.refl _) .nil))) (.ofEq ?_)) (by simp) hou ⟨ou, fun _ _ h => h, rfl, rfl⟩
    unfold applyE
    rw [if_pos h]; rfl
  have h : check e = 0 := by simpa using hb
  have t1 := body_isTree h
  refine zA ?_
  refine AOps.splitS rfl rfl rfl rfl (fun hb1 => ?_) (fun hb1 => ?_)
  · have h1 : rule < 1 := by simpa using hb1
    refine zA ?_
    refine AFn.fin' rfl (.trans (WkF.tup (.cons (.one (.nilS 5)) (.cons (.refl _) .nil))) (.ofEq ?_)) (by simp) hou ⟨ou, fun _ _ h => h, rfl, rfl⟩
    unfold applyE
    rw [if_neg (by simpa using h), if_pos (.inl h1)]; rfl
  have h1 : ¬ rule < 1 := by simpa using hb1
  refine zA ?_
  refine ACode.cond rfl (fun hb2 => ?_) (fun hb2 => ?_)
  · have h2 : 12 < rule := by simpa using hb2
    refine zA ?_
    refine AFn.fin' rfl (.trans (WkF.tup (.cons (.one (.nilS 5)) (.cons (.refl _) .nil))) (.ofEq ?_)) (by simp) hou ⟨ou, fun _ _ h => h, rfl, rfl⟩
    unfold applyE
    rw [if_neg (by simpa using h), if_pos (.inr h2)]; rfl
  have h2 : ¬ 12 < rule := by simpa using hb2
  refine zA ?_
  refine AOps.splitS rfl rfl rfl rfl (fun hb3 => ?_) (fun hb3 => ?_)
  · have h3 : at' < 0 := by simpa using hb3
    refine zA ?_
    refine AFn.fin' rfl (.trans (WkF.tup (.cons (.one (.nilS 5)) (.cons (.refl _) .nil))) (.ofEq ?_)) (by simp) hou ⟨ou, fun _ _ h => h, rfl, rfl⟩
    unfold applyE
    rw [if_neg (by simpa using h), if_neg (by omega), if_pos (.inl h3)]; rfl
  have h3 : ¬ at' < 0 := by simpa using hb3
  refine zA ?_
  refine ACode.cond rfl (fun hb4 => ?_) (fun hb4 => ?_)
  · have h4 : (e.length : Int) ≤ at' := by simpa using hb4
    refine zA ?_
    refine AFn.fin' rfl (.trans (WkF.tup (.cons (.one (.nilS 5)) (.cons (.refl _) .nil))) (.ofEq ?_)) (by simp) hou ⟨ou, fun _ _ h => h, rfl, rfl⟩
    unfold applyE
    rw [if_neg (by simpa using h), if_neg (by omega), if_pos (.inr h4)]; rfl
  have h4 : ¬ (e.length : Int) ≤ at' := by simpa using hb4
  have hap : applyE e rule at' n = match resT (growL e) (grow e) rule n (treeAt e at'.toNat) with
    | none => ([], 12)
    | some x => if check (listT [] (growR e at'.toNat x)) ≠ 0 then ([], 2) else (listT [] (growR e at'.toNat x), 0) := by
    conv => lhs; unfold applyE
    rw [if_neg (by simpa using h), if_neg (by omega), if_neg (by omega)]
    cases resT (growL e) (grow e) rule n (treeAt e at'.toNat) <;> rfl
  have hno := hno h (by omega) (by omega)
  obtain ⟨p, rfl⟩ : ∃ p : Nat, at' = p := ⟨at'.toNat, by omega⟩
  rw [Int.toNat_natCast] at hap hno
  have hp : p < e.length := by omega
  obtain ⟨x, hx⟩ := get_of_lt hp
  refine zA ?_
  refine AOps.call1 hΓc rfl rfl rfl rfl rfl rfl rfl (by simp) hou (open_ok hΓc e he.eo t1.k t1.ne ou) fun r ov hq hids hov => ?_
  obtain ⟨lts, root, rfl, hL, hr, hN⟩ := hq
  obtain ⟨id, nb, a, ht0, ha, hnb, hab⟩ := hL.at_ p x hx
  obtain rfl : nb = none := hnb
  obtain ⟨ks, hks⟩ : ∃ ks, ks = x.kids.map fun q => lts.getD q.toNat default := ⟨_, rfl⟩
  rw [← hks] at ht0
  obtain ⟨t, hte⟩ : ∃ t, t = LTr.mk id x.op x.n none x.binds ks a := ⟨_, rfl⟩
  have ht : lts[p]? = some t := by rw [hte]; exact ht0
  have hpl := hL.plain t1.k _ p t (Nat.lt_succ_self _) ht
  have her : erT t = treeAt e p := hL.er t1.k _ p t (Nat.lt_succ_self _) ht
  have hrer : erT root = grow e := by
    have := hL.er t1.k _ _ root (Nat.lt_succ_self _) hr
    rw [this]; rfl
  have hok : okT (erT t) := by rw [her]; exact treeAt_ok he t1 hp
  have hsh : allT shpL (erT t) := by rw [her]; exact allT_treeAt t1 (check_shp h) hp
  have hwd : allT (fun l => l.op = 1 → -1073741824 ≤ l.n ∧ l.n ≤ 1073741823) (erT t) := by rw [her]; exact allT_treeAt t1 (check_words h) hp
  have hct : cntN (erT t) ≤ 4096 := by rw [her]; exact cnt_at h hp
  have hcr : cntN (erT root) ≤ 4096 := by
    rw [hrer]; exact cnt_at h (k := e.length - 1) (by have := List.length_pos_iff.2 t1.ne; omega)
  have hOw : ∀ (q : Nat) (s : LTr), lts[q]? = some s → Owns ov (objs s) := fun q s hs o ho => hN.own o (hL.own t1.k _ q s (Nat.lt_succ_self _) hs o ho)
  have hrn : (keys (objs root)).Nodup := hL.nodup t1 hN.nd hr
  have hsub := hL.sub t1 hr p t ht
  have htn := sub_nodup hsub hrn
  have hinj := ids_inj hN.nd
  have hres := result_ok (Γ := Γc) hΓc [.sl 1 (kC lts), .ptr (.o root.id) 0] (by simp) (growL e) (grow e) rule p n id x.op x.n x.binds ks a (by rw [← hte]; exact hpl) (by rw [← hte]; exact hok) (by rw [← hte]; exact hsh) (by rw [← hte]; omega)
    (fun s hs h1 => by
      have h2 := allT_kid hwd (er_kid (t := t) (s := s) (by rw [hte]; exact hs))
      cases hse : erT s with
      | mk o' n' b' k' a' =>
        rw [hse] at h2 h1
        exact h2.1 h1)
    ov (by rw [← hte]; exact hOw p t ht) (by rw [← hte]; exact htn)
    (fun h10 => by rw [← hte]; have := hno.n h10 ov lts root t hL hr ht hN.own; rwa [hte] at this ⊢) (fun h12 h0 => by rw [← hte]; have := hno.u h12 ov lts root t hL hr ht hN.own (by rw [hte]; exact h0); rwa [hte] at this ⊢)
  rw [← hte, her] at hres
  have hti : t.id = id := by rw [hte]; rfl
  obtain ⟨X, hX⟩ : ∃ X, X = resT (growL e) (grow e) rule n (treeAt e p) := ⟨_, rfl⟩
  rw [← hX] at hres hap
  refine zA ?_
  refine ACode.drawX tabOk 8 [(6, .one (.box [.ptr (.o id) 0]))] follows (by kernel_rfl) rfl rfl rfl rfl ?_ ?_
  · exact .step rfl (HStep.plain rfl (AStep.indexAddr tabOk rfl rfl rfl rfl rfl rfl (.inl rfl) rfl (by omega) (by rw [← hti]; exact kC_get ht))) .nil
  refine zA ?_
  refine AOps.call1 hΓc rfl rfl rfl rfl rfl rfl rfl (by simp [idsF]) hov hres fun r ow hq hids how => ?_
  cases X with
  | none =>
    obtain ⟨rfl, _, hfr⟩ := hq
    refine zA ?_
    refine AOps.step1 rfl rfl rfl (AStep.eqNil0 Tryd.underlying70 rfl rfl rfl) ?_
    refine zA ?_
    exact AFn.fin' rfl (.trans (WkF.tup (.cons (.one (.nilS 5)) (.cons (.refl _) .nil))) (.ofEq (by rw [hap]; rfl))) (by simp) how ⟨ou, fun m o hm => hfr m o (hN.oldS hm), rfl, rfl⟩
  | some X =>
    obtain ⟨u, rfl, heu, huo, htu, _, hfr, huk⟩ := hq
    have hpX : allT pOk X := res_pOk (nodes := growL e) (root := grow e) (t := treeAt e p) (by rw [← her]; exact okT_pOk _ hok) (fun s hs => by
      obtain ⟨q, hq1, hq2⟩ := List.getElem_of_mem hs
      rw [growL_len] at hq1
      have : treeAt e q = s := by unfold treeAt; rw [List.getD_eq_getElem?_getD, List.getElem?_eq_getElem (by rw [growL_len]; exact hq1), hq2]; rfl
      rw [← this]; exact okT_pOk _ (treeAt_ok he t1 hq1)) hX.symm
    have hcX : cntN X ≤ 4 * 4096 + 4 := res_cnt (nodes := growL e) (root := grow e) (t := treeAt e p) (by rw [← her]; exact hsh) (cnt_at h hp) (fun s hs => by
      obtain ⟨q, hq1, hq2⟩ := List.getElem_of_mem hs
      rw [growL_len] at hq1
      have : treeAt e q = s := by unfold treeAt; rw [List.getD_eq_getElem?_getD, List.getElem?_eq_getElem (by rw [growL_len]; exact hq1), hq2]; rfl
      rw [← this]; exact cnt_at h hq1) hX.symm
    have htO := hOw p t ht
    have htg : ow t.id = some (.cells (lC t)) := hfr _ _ (owns_node htO) (self_tail htn)
    have hug := owns_node huo
    have htut : t.id ∉ keys (tailO u) := fun hm => htu (by rw [objs_tail]; exact List.mem_cons_of_mem _ hm)
    have huo' : Owns (setO ow t.id (.cells (lC u))) (objs (withId t.id u)) := withId_own (own_tail huo) htut
    have hro : Owns (setO ow t.id (.cells (lC u))) (objs (putL t.id (withId t.id u) root)) := fun q hq => by
      rcases put_own hsub hrn (withId_id t.id u) q hq with h5 | ⟨h5, h6⟩
      · exact huo' q h5
      · have hqt : q.1 ≠ t.id := fun e1 => h6 (e1 ▸ id_mem t)
        rw [setO_ne hqt]
        exact hfr _ _ (hOw _ root hr q h5) (fun hm => h6 (by rw [objs_tail]; exact List.mem_cons_of_mem _ hm))
    have hrid : (putL t.id (withId t.id u) root).id = root.id := putL_id (withId_id t.id u) root
    have hrer' : erT (putL t.id (withId t.id u) root) = growR e p X := by
      rw [hL.put_er t1.k hinj ht (withId t.id u) _ _ root (Nat.lt_succ_self _) hr, withId_er, heu]; rfl
    have hcnt : cntN (growR e p X) ≤ 1048576 := by
      have h5 := put_cnt (u := withId t.id u) hsub hrn
      rw [hrer', withId_er, heu] at h5
      omega
    have hpk : allT pOk (growR e p X) := pOk_growLR t1.k (fun y hy => okB_labs he _ (List.mem_map_of_mem (f := labE e) hy)) p hpX _ _ (Nat.lt_succ_self _) (by have := List.length_pos_iff.2 t1.ne; omega)
    have how3 : OuOk (setO ow t.id (.cells (lC u))) := setO_ok how (lC_ids u)
    have hhap : applyE e rule p n = if check (listT [] (growR e p X)) ≠ 0 then ([], 2) else (listT [] (growR e p X), 0) := hap
    have hfin : ∀ m o, ou m = some o → m ∉ keys (objs (putL t.id (withId t.id u) root)) ∧ setO ow t.id (.cells (lC u)) m = some o := fun m o hm => by
      have hmN : m ∉ keys (lts.flatMap ownO) := fun hk => by have := hN.new m hk; rw [hm] at this; cases this
      have hmt : m ∉ keys (objs t) := fun hk => by
        obtain ⟨o', ho'⟩ := of_keys hk
        exact hmN (mem_keys (hL.own t1.k _ p t (Nat.lt_succ_self _) ht _ ho'))
      have hw : ow m = some o := hfr _ _ (hN.oldS hm) (fun hk => hmt (by rw [objs_tail]; exact List.mem_cons_of_mem _ hk))
      have hmt2 : m ≠ t.id := fun e1 => hmt (e1 ▸ id_mem t)
      refine ⟨fun hk => ?_, by rw [setO_ne hmt2]; exact hw⟩
      obtain ⟨o', ho'⟩ := of_keys hk
      rcases put_own hsub hrn (withId_id t.id u) _ ho' with h5 | ⟨h5, _⟩
      · rw [objs_tail, withId_id, withId_tail] at h5
        rcases List.mem_cons.1 h5 with h5 | h5
        · exact hmt2 (by injection h5)
        · rcases huk m (by rw [objs_tail]; exact List.mem_cons_of_mem _ (mem_keys h5)) with h6 | h6
          · exact hmt (by rw [objs_tail]; exact List.mem_cons_of_mem _ h6)
          · rw [hN.oldS hm] at h6; cases h6
      · exact hmN (mem_keys (hL.own t1.k _ _ root (Nat.lt_succ_self _) hr _ h5))
    generalize hR : putL t.id (withId t.id u) root = R at hro hrid hrer' hfin
    cases u with
    | mk ku ou' nu nbu bu ksu au =>
    simp only [lC] at hug
    refine zA ?_
    refine AOps.step1 rfl rfl rfl (AStep.eqNil Tryd.underlying70 rfl rfl rfl) ?_
    refine zA ?_
    refine AOps.step1 rfl rfl rfl (AStep.loadOwnA tabOk rfl rfl rfl rfl rfl hug) ?_
    refine zA ?_
    rw [hti] at htg how3 hro hfin
    refine AOps.storeOwnA tabOk rfl rfl rfl rfl rfl (by simp [lC_len]) rfl rfl htg ?_
    repeat ((fail_if_success ((with_reducible refine oj ?_); refine AOps.atDst 59 rfl ?_)); first | refine zO ?_)
    rw [← hrid]
    refine AOps.freezeU (t := R) 58 hro rfl ?_
    rw [hrer']
    have hokd : OuOk (deadL (setO ow id (.cells (lC (.mk ku ou' nu nbu bu ksu au)))) (keys (objs R))) := fun m o hm => by
      unfold deadL at hm
      split at hm
      · cases hm; trivial
      · exact how3 m o hm
    have hfind : ∀ m o, ou m = some o → deadL (setO ow id (.cells (lC (.mk ku ou' nu nbu bu ksu au)))) (keys (objs R)) m = some o := fun m o hm => by
      unfold deadL
      rw [if_neg (hfin m o hm).1]
      exact (hfin m o hm).2
    have hgl : (listT [] (growR e p X)).length ≤ 1048576 := by have := cntN_list (growR e p X) []; simp at this; omega
    have hli := List_ok (Γ := Γc) hΓc (growR e p X) (pOk_okT _ hpk) hgl
    have hck := Check_ok _ (okB_list hpk hcnt)
    refine zca hΓc hli hokd ?_
    refine zA ?_
    refine zca hΓc hck hokd ?_
    refine zA ?_
    refine ACode.cond rfl (fun hbc => ?_) (fun hbc => ?_)
    · have hc : check (listT [] (growR e p X)) ≠ 0 := by simpa using hbc
      refine zA ?_
      exact AFn.fin' rfl (.trans (WkF.tup (.cons (.one (.nilS 5)) (.cons (.refl _) .nil))) (.ofEq (by rw [hhap, if_pos hc]; rfl))) (by simp) hokd ⟨ou, hfind, rfl, rfl⟩
    · have hc : ¬ check (listT [] (growR e p X)) ≠ 0 := by simpa using hbc
      refine zA ?_
      exact AFn.fin' rfl (.ofEq (by rw [hhap, if_neg hc])) (by simp) hokd ⟨ou, hfind, rfl, rfl⟩
end Go.Proofs.YtgdionbeeodaaaaDoor
namespace Go.Proofs.YtgdionbeeodaaaaDoor
open Go Go.Abs Go.CoreX
set_option maxRecDepth 10000
def factRT : Tr := .mk 4 0 [1] [.mk 1 2 [] [] [], .mk 0 1 [] [] []] []
theorem okT_factR : okT factRT := by simp [factRT, okT, okTs]
theorem okB_factR : okB factR := okB_list (T := factRT) (okT_pOk _ okT_factR) (by simp [factRT, cntN, cntNs])
theorem okB_word (n : Int) : okB (listT [] (wordT n)) := okB_list (T := wordT n) (okT_pOk _ (by simp [wordT, okT, okTs])) (by simp [wordT, cntN, cntNs])
theorem WordList_ok (n : Int) : APure Tryd.prog Γc 39 [.one (.box (cNd (wordT n)))] (.one (.sl 5 ((listT [] (wordT n)).map cEx))) := NodeList_ok hΓc (wordT n) (by simp [wordT, okT, okTs]) (by have := cntN_list (wordT n) []; simp [wordT, cntN, cntNs] at this ⊢; omega)
theorem FactList_ok : APure Tryd.prog Γc 39 [.one (.box (cNd factRT))] (.one (.sl 5 (factR.map cEx))) := NodeList_ok hΓc factRT okT_factR (by have := cntN_list factRT []; simp [factRT, cntN, cntNs] at this ⊢; omega)
theorem Apply_some (e : List Ex) (he : okB e) (rule at' n : Int) (h1 : rule ≠ 10) (h2 : rule ≠ 12) : APure Tryd.prog Γc 16 [.one (.sl 5 (e.map cEx)), .agg [int rule, int at', int n]] (.tup [.one (.sl 5 ((applyE e rule at' n).1.map cEx)), .one (int (applyE e rule at' n).2)]) := Apply_ok e he rule at' n fun _ _ _ => NameOk.no h1 h2
end Go.Proofs.YtgdionbeeodaaaaDoor
namespace Go.Proofs.YtgdionbeeodaaaaDoor
open Go Go.Abs Go.CoreX
set_option maxRecDepth 10000
variable {Γ : List (Nat × List AC)}
def ManyQ (e : List Ex) (ou : Outer) (r : FV) (ou' : Outer) : Prop := ∃ (k ck : Nat) (l : List (Nat × Int × Int)) (f : Nm), r = .one (.mp (.o k)) ∧ ou' k = some (.map ck (encI eN l)) ∧ IMOk f ck l ∧ (∀ q, (f q).getD 0 = (manyE e q : Nat)) ∧ OuOk ou' ∧ ∀ j o, ou j = some o → ou' j = some o
end Go.Proofs.YtgdionbeeodaaaaDoor
namespace Go.Proofs.YtgdionbeeodaaaaDoor
open Go Go.Abs Go.CoreX
set_option maxRecDepth 10000
variable {Γ : List (Nat × List AC)}
def CanQ (x : Bool) (ou : Outer) (r : FV) (ou' : Outer) : Prop := r = .one (.lit (.bool x)) ∧ OuOk ou' ∧ ∀ j o, ou j = some o → ou' j = some o
end Go.Proofs.YtgdionbeeodaaaaDoor
namespace Go.CoreX
def nextF (e : List Ex) (r : Int) : Option (Int × Nat) := ((growL e).zipIdx.find? fun p => canT r p.1 (manyE e)).map fun p => (r, p.2)
def nextR (e : List Ex) : Int × Int × Bool × Int := if check e ≠ 0 then (0, 0, false, check e) else match nextE e with
  | none => (0, 0, false, 0)
  | some (r, i) => (r, i, true, 0)
end Go.CoreX
namespace Go.Proofs.YtgdionbeeodaaaaDoor
open Go Go.Abs Go.CoreX
set_option maxRecDepth 10000
def Γo : List (Nat × List AC) := [(0, orC), (1, arC)]
theorem hΓo : ∀ g cs, (g, cs) ∈ Γo → idsL isO cs := by
  intro g cs h
  simp only [Γo, List.mem_cons, List.not_mem_nil, or_false, Prod.mk.injEq] at h
  rcases h with ⟨_, rfl⟩ | ⟨_, rfl⟩
  · simp [orC]
  · exact hΓc 1 arC (by simp [Γc])
theorem hco : ∀ g cs, (g, cs) ∈ Γc → (g, cs) ∈ Γo := by
  intro g cs h
  simp only [Γc, List.mem_cons, List.not_mem_nil, or_false, Prod.mk.injEq] at h
  obtain ⟨rfl, rfl⟩ := h
  simp [Γo]
theorem APure.o {g : Nat} {args : List FV} {r : FV} (h : APure Tryd.prog Γc g args r) : APure Tryd.prog Γo g args r := h.moreG hco hΓo
end Go.Proofs.YtgdionbeeodaaaaDoor
namespace Go.Proofs.YtgdionbeeodaaaaDoor
open Go Go.Abs Go.CoreX
set_option maxRecDepth 10000
def cS (s : Step3) : List AC := [int s.1, int s.2.1, int s.2.2]
theorem ids_cS (p : Abs.Id → Prop) (l : List Step3) : idsS p (l.map cS) := idsS_map (f := cS) (fun s => by simp [cS]) l
@[simp] theorem ids_cS_l (k : Nat) (l : List Step3) : idsS (inL k) (l.map cS) := ids_cS _ l
@[simp] theorem ids_cS_o (l : List Step3) : idsS isO (l.map cS) := ids_cS _ l
theorem apply_okB {e : List Ex} (he : okB e) {r p n : Int} (h : (applyE e r p n).2 = 0) : okB (applyE e r p n).1 := by
  obtain ⟨hc, _, ⟨hp0, hp1⟩, X, hX, hck, hE⟩ := applyE_res h
  have t1 := body_isTree hc
  rw [hE]
  have hpX : allT pOk X := res_pOk (nodes := growL e) (root := grow e) (t := treeAt e p.toNat) (okT_pOk _ (treeAt_ok he t1 (by omega))) (fun s hs => by
    obtain ⟨q, hq1, hq2⟩ := List.getElem_of_mem hs
    rw [growL_len] at hq1
    have : treeAt e q = s := by unfold treeAt; rw [List.getD_eq_getElem?_getD, List.getElem?_eq_getElem (by rw [growL_len]; exact hq1), hq2]; rfl
    rw [← this]; exact okT_pOk _ (treeAt_ok he t1 hq1)) hX
  refine okB_list (pOk_growLR t1.k (fun y hy => okB_labs he _ (List.mem_map_of_mem (f := labE e) hy)) p.toNat hpX _ _ (Nat.lt_succ_self _) (by have := List.length_pos_iff.2 t1.ne; omega)) ?_
  obtain ⟨p1, _⟩ := check_parts hck
  obtain ⟨q1, _, _⟩ := (treeErr_iff _).1 p1
  have h2 := cntN_list (growR e p.toNat X) []
  simp only [List.length_nil] at h2
  show cntN (growR e p.toNat X) ≤ 1048576
  omega
theorem order_okB {e : List Ex} (he : okB e) (h : check e = 0) : okB (listT [] (grow e)) := by
  have t1 := body_isTree h
  refine okB_list (okT_pOk _ (he.t t1.k t1.ne)) ?_
  have h1 := len_list h
  have h2 := cntN_list (grow e) []
  have := he.eo.l
  simp only [List.length_nil] at h2
  omega
end Go.Proofs.YtgdionbeeodaaaaDoor
namespace Go.Proofs.YtgdionbeeodaaaaDoor
open Go Go.Abs Go.CoreX
set_option maxRecDepth 10000
variable {Γ : List (Nat × List AC)}
def rootNo (a b : Tr) : Prop := a.op ≠ b.op ∨ (a.op = b.op ∧ a.kids.length = b.kids.length ∧ a.binds.length = b.binds.length ∧ a.alts.length = b.alts.length ∧ a.op ≠ 0 ∧ a.n ≠ b.n)
theorem sameNo_ok (hΓ : ∀ g cs, (g, cs) ∈ Γ → idsL isO cs) (a b : Tr) (ha : okT a) (hb : okT b) (h : rootNo a b) (ck : Nat) (l : List (Nat × Int × Int)) :
    AFn Tryd.prog Γ 90 [.one (.box (cTr a)), .one (.box (cTr b)), .one (.mp (.o 0))] (ouN ck l) (fun r ou' => r = .one (.lit (.bool false)) ∧ ou' = ouN ck l) := by
  obtain ⟨hbs, hks, hal, _, _, _⟩ := okT_tr ha
  obtain ⟨htb, htk, hta, _, _, _⟩ := okT_tr hb
  refine AFn.walk 222 tabOk Tryd.func90 rfl (by kernel_rfl) rfl rfl fun hou => ?_
  rcases h with h | ⟨e1, e2, e3, e4, h0, hn⟩
  · refine zA ?_
    refine ACode.drawX tabOk 47 [(8, .one (.lit (.bool true)))] follows (by kernel_rfl) rfl rfl rfl rfl ?_ ?_
    · exact .step rfl (HStep.litB tabOk rfl (by simp [h])) .nil
    refine zA ?_
    exact AFn.fin' rfl (WkF.refl _) (by simp) hou ⟨rfl, rfl⟩
  · refine zA ?_
    refine ACode.drawX tabOk 47 [(8, .one (.lit (.bool false))), (20, .one (.lit (.bool false))), (33, .one (.lit (.bool false))), (46, .one (.lit (.bool false)))] follows (by kernel_rfl) rfl rfl rfl rfl ?_ ?_
    · refine .step rfl (HStep.litB tabOk rfl (by simp [e1])) ?_
      refine .step rfl (HStep.litB tabOk rfl (by simp [e2])) ?_
      refine .step rfl (HStep.litB tabOk rfl (by simp [e3])) ?_
      exact .step rfl (HStep.litB tabOk rfl (by simp [e4])) .nil
    refine zA ?_
    refine ACode.cond rfl (fun hb => absurd (by simpa using hb) h0) (fun hb => ?_)
    refine zA ?_
    refine ACode.drawX tabOk 28 [(8, .one (.lit (.bool true)))] follows (by kernel_rfl) rfl rfl rfl rfl ?_ ?_
    · exact .step rfl (HStep.litB tabOk rfl (by simp [hn])) .nil
    refine zA ?_
    exact AFn.fin' rfl (WkF.refl _) (by simp) hou ⟨rfl, rfl⟩
theorem SameTree_no (hΓ : ∀ g cs, (g, cs) ∈ Γ → idsL isO cs) (hΓF : ∀ g cs, (g, cs) ∈ Γ → idsL (fun _ => False) cs) (a b : Tr) (ha : okT a) (hb : okT b) (hs : rootNo a b) :
    APure Tryd.prog Γ 52 [.one (.box (cTr a)), .one (.box (cTr b))] (.one (.lit (.bool false))) := by
  intro ou
  refine AFn.walk 9 tabOk Tryd.func52 rfl (by kernel_rfl) rfl rfl fun hou => ?_
  refine zA ?_
  refine AOps.step1 rfl rfl rfl (AStep.makeMap rfl) ?_
  refine AOps.callR [.l 0] [.one (.box (cTr a)), .one (.box (cTr b)), .one (.mp (.o 0))] [.map 0 (encI eN [])] hΓF rfl rfl rfl rfl rfl rfl ?_ ?_ ?_ ?_ ?_ (sameNo_ok hΓ a b ha hb hs 0 []) ?_
  · simp [subF, FV.sub, AC.sub, nameOf]
    exact ⟨(subL_pure _ _ (by simp)).symm, (subL_pure _ _ (by simp)).symm⟩
  · simp [inO]
  · simp
  · exact ⟨rfl, trivial⟩
  · simp [inO]
  intro r ou' hq
  obtain ⟨rfl, rfl⟩ := hq
  refine ⟨[.map 0 (encI eN [])], rfl, rfl, by simp [inO], by simp, ?_⟩
  rw [show FV.sub (nameOf [.l 0]) (.one (.lit (.bool false))) = .one (.lit (.bool false)) from rfl]
  refine zA ?_
  exact APure.fin rfl (WkF.ofEq rfl) (by simp) hou rfl
theorem Same_no (e f : List Ex) (he : okB e) (hf : okB f) (h1 : check e = 0) (h2 : check f = 0) (h3 : rootNo (grow e) (grow f)) : APure Tryd.prog Γc 21 [.one (.sl 5 (e.map cEx)), .one (.sl 5 (f.map cEx))] (.one (.lit (.bool false))) := by
  have t1 := body_isTree h1
  have t2 := body_isTree h2
  have c1 := Check_ok e he
  have c2 := Check_ok f hf
  rw [h1] at c1
  rw [h2] at c2
  intro ou
  refine AFn.walk 20 tabOk Tryd.func21 rfl (by kernel_rfl) rfl rfl fun hou => ?_
  refine zA ?_
  refine zca hΓc c1 hou ?_
  refine zM ?_
  refine zca hΓc c2 hou ?_
  refine zM ?_
  refine zca hΓc (Grow_ok hΓc e he.eo t1.k t1.ne) hou ?_
  refine zM ?_
  refine zca hΓc (Grow_ok hΓc f hf.eo t2.k t2.ne) hou ?_
  refine zM ?_
  refine zca hΓc (SameTree_no hΓc hΓcF (grow e) (grow f) (he.t t1.k t1.ne) (hf.t t2.k t2.ne) h3) hou ?_
  refine zM ?_
  exact APure.fin rfl (WkF.ofEq rfl) (by simp) hou rfl
theorem rootNo_word {e : List Ex} {m : Int} (h : check e = 0) (hw : check (listT [] (wordT m)) = 0) (hs : same e (listT [] (wordT m)) = false) : rootNo (grow e) (wordT m) := by
  have hT := body_isTree h
  have hsh : allT shpL (grow e) := allT_treeAt hT (check_shp h) (by have := List.length_pos_iff.2 hT.ne; omega)
  have hg : sameTree (grow e) (wordT m) = false := by
    unfold same at hs
    rw [h, hw, grow_list] at hs
    simpa using hs
  generalize hG : grow e = G at hsh hg ⊢
  cases G with
  | mk o n b k a =>
    by_cases h1 : o = 1
    · obtain ⟨r1, r2, r3⟩ := shp_leaf hsh (.inr h1)
      subst h1; subst r1; subst r2; subst r3
      refine .inr ⟨rfl, rfl, rfl, rfl, by simp, fun hn => ?_⟩
      have hn : n = m := hn
      subst hn
      rw [show sameTree (.mk 1 n [] [] []) (wordT n) = true from sameTree_refl _] at hg
      cases hg
    · exact .inl (by simpa [wordT] using h1)
theorem SameWord_ok (e : List Ex) (he : okB e) (hc : check e = 0) (m : Int) (hw : check (listT [] (wordT m)) = 0) : APure Tryd.prog Γc 21 [.one (.sl 5 (e.map cEx)), .one (.sl 5 ((listT [] (wordT m)).map cEx))] (.one (.lit (.bool (same e (listT [] (wordT m)))))) := by
  cases hs : same e (listT [] (wordT m)) with
  | true => exact Same_ok e _ he (okB_word m) hs
  | false => exact Same_no e _ he (okB_word m) hc hw (by rw [grow_list]; exact rootNo_word hc hw hs)
end Go.Proofs.YtgdionbeeodaaaaDoor
namespace Go.Proofs.YtgdionbeeodaaaaDoor
open Go Go.Abs Go.CoreX
set_option maxRecDepth 10000
theorem Replay_ok (e f : List Ex) (he : okB e) (hf : okB f) (l : List Step3) (hl : l.length ≤ 2000) (hr : ∀ s ∈ l, s.1 ≠ 10 ∧ s.1 ≠ 12) (hce : check e = 0) (hcf : check f = 0) (g : List Ex) (hg : replayS (listT [] (grow e)) l = some g) (b : Bool)
    (hs : APure Tryd.prog Γc 21 [.one (.sl 5 (g.map cEx)), .one (.sl 5 (f.map cEx))] (.one (.lit (.bool b)))) :
    APure Tryd.prog Γc 26 [.one (.sl 5 (e.map cEx)), .one (.sl 5 (f.map cEx)), .one (.sl 3 (l.map cS))] (.one (int (if b then 0 else 14))) := by
  have c1 := Check_ok e he
  have c2 := Check_ok f hf
  rw [hce] at c1
  rw [hcf] at c2
  have t1 := body_isTree hce
  have hll : (listT [] (grow e)).length ≤ 1048576 := by rw [len_list hce]; exact he.eo.l
  intro ou
  refine AFn.walk 49 tabOk Tryd.func26 rfl (by kernel_rfl) rfl rfl fun hou => ?_
  refine zA ?_
  refine zca hΓc c1 hou ?_
  refine zA ?_
  refine zca hΓc c2 hou ?_
  refine zA ?_
  refine ACode.cond rfl (fun hb => absurd hb (by simp; omega)) (fun hb => ?_)
  refine zA ?_
  refine zca hΓc (Grow_ok hΓc e he.eo t1.k t1.ne) hou ?_
  refine zca hΓc (List_ok hΓc (grow e) (he.t t1.k t1.ne) hll) hou ?_
  refine zA ?_
  refine ACode.loopR hΓc (α := Nat × List Ex) (fun c => [(31, .one (int c.1)), (30, .one (int (l.map cS).length)), (29, .one (.sl 3 (l.map cS))), (1, .one (.sl 5 (f.map cEx))), (0, .one (.sl 5 (c.2.map cEx)))])
    (fun c => ⟨0, [], ou⟩) (fun m c => c.1 ≤ l.length ∧ replayS c.2 (l.drop c.1) = some g ∧ okB c.2 ∧ m = l.length - c.1) (a0 := (0, listT [] (grow e))) (ρ := id) ⟨by simp, hg, order_okB he hce, rfl⟩ (LessR.of rfl (by (repeat' first | exact FrSub.nil | refine zfc ?_ | refine zfo ?_ | refine zfp ?_)) (by simp) (by repeat' first | exact LoSub.nil | refine zlc ?_ | refine zld ?_ ?_ | rfl) rfl rfl hou) fun m c hi => ?_
  obtain ⟨i, cur⟩ := c
  obtain ⟨hil, hrp, hoc, rfl⟩ := hi
  dsimp only at hil hrp hoc ⊢
  refine zA ?_
  refine ACode.cond rfl (fun hb2 => ?_) (fun hb2 => ?_)
  · have hlt : i < l.length := by simpa using hb2
    clear hb2
    obtain ⟨s, hx⟩ := get_of_lt hlt
    obtain ⟨r, p, n⟩ := s
    have hrr := hr _ (List.mem_of_getElem? hx)
    have hd : l.drop i = (r, p, n) :: l.drop (i + 1) := by
      rw [List.drop_eq_getElem_cons hlt]
      congr 1
      exact Option.some.inj ((List.getElem?_eq_getElem hlt).symm.trans hx)
    rw [hd] at hrp
    simp only [replayS] at hrp
    split at hrp
    · rename_i hk
      have hap := Apply_some cur hoc r p n hrr.1 hrr.2
      have hon := apply_okB hoc hk
      rw [show applyE cur r p n = ((applyE cur r p n).1, 0) from Prod.ext rfl hk] at hap
      dsimp only at hap
      generalize (applyE cur r p n).1 = nx at hap hrp hon
      refine zA ?_
      refine AOps.step1 rfl rfl rfl (AStep.indexAddr tabOk rfl rfl rfl rfl rfl rfl (.inl rfl) rfl (by omega) (map_get hx)) ?_
      refine zA ?_
      refine AOps.callC hΓc hap rfl rfl rfl rfl rfl rfl rfl hou (by simp [idsF]) ?_
      refine zM ?_
      exact cInv ⟨l.length - (i + 1), (i + 1, nx), id, by omega, ⟨by omega, hrp, hon, rfl⟩, LessR.of rfl (by (repeat' first | exact FrSub.nil | refine zfc ?_ | refine zfo ?_ | refine zfp ?_)) (by simp) (by repeat' first | exact LoSub.nil | refine zlc ?_ | refine zld ?_ ?_ | rfl) rfl rfl hou⟩
    · cases hrp
  · have hlt : i = l.length := by simp at hb2; omega
    subst hlt
    simp [replayS] at hrp
    subst hrp
    refine zA ?_
    refine zca hΓc hs hou ?_
    refine zA ?_
    refine ACode.cond rfl (fun hb => ?_) (fun hb => ?_)
    · have hbf : b = false := by simpa using hb
      subst hbf
      refine zA ?_
      exact APure.fin rfl (WkF.ofEq rfl) (by simp) hou rfl
    · have hbf : b = true := by simpa using hb
      subst hbf
      refine zA ?_
      exact APure.fin rfl (WkF.ofEq rfl) (by simp) hou rfl
theorem check_fact : check factR = 0 := by decide +kernel
theorem check_w2 : check (listT [] (wordT 2)) = 0 := by decide +kernel
theorem check_w3 : check (listT [] (wordT 3)) = 0 := by decide +kernel
theorem replayFact_ok : APure Tryd.prog Γc 25 [] (.one (.lit (.bool true))) := by
  have h1 := Replay_ok factR (listT [] (wordT 2)) okB_factR (okB_word 2) [(2, 2, 0)] (by simp) (by simp) check_fact check_w2 (listT [] (wordT 2)) (by decide +kernel) true (by
    have := SameWord_ok (listT [] (wordT 2)) (okB_word 2) check_w2 2 check_w2
    rwa [same_refl check_w2] at this)
  have h2 := Replay_ok factR (listT [] (wordT 3)) okB_factR (okB_word 3) [] (by simp) (by simp) check_fact check_w3 (listT [] (grow factR)) rfl false (by
    have := SameWord_ok (listT [] (grow factR)) (order_okB okB_factR check_fact) (check_list check_fact) 3 check_w3
    rwa [show same (listT [] (grow factR)) (listT [] (wordT 3)) = false by decide +kernel] at this)
  intro ou
  refine AFn.walk 22 tabOk Tryd.func25 rfl (by kernel_rfl) rfl rfl fun hou => ?_
  refine zA ?_
  refine zca hΓc (W_ok hΓc 2) hou ?_
  refine zca hΓc (V_ok hΓc 1) hou ?_
  refine zA ?_
  refine zca hΓc (B_ok (Γ := Γc) 4 [1] [wordT 2, .mk 0 1 [] [] []]) hou ?_
  refine zca hΓc FactList_ok hou ?_
  refine zA ?_
  refine zca hΓc (W_ok hΓc 2) hou ?_
  refine zA ?_
  refine zca hΓc (WordList_ok 2) hou ?_
  refine zA ?_
  refine AOps.callC hΓc h1 rfl rfl rfl rfl rfl rfl rfl hou (by simp [cS]) ?_
  refine zM ?_
  refine zca hΓc (W_ok hΓc 3) hou ?_
  refine zM ?_
  refine zca hΓc (WordList_ok 3) hou ?_
  refine zM ?_
  refine AOps.callCW (ws := [.one (.sl 5 (factR.map cEx)), .one (.sl 5 ((listT [] (wordT 3)).map cEx)), .one (.sl 3 (([] : List Step3).map cS))]) hΓc h2 rfl rfl rfl rfl rfl rfl ?_ hou (by simp) ?_
  · exact .cons (.refl _) (.cons (.refl _) (.cons (.one (.nilS 3)) .nil))
  refine zM ?_
  exact APure.fin rfl (WkF.ofEq rfl) (by simp) hou rfl
end Go.Proofs.YtgdionbeeodaaaaDoor
namespace Go.Abs
theorem AStep.weak {E : Env} {o : Oper} {fr : Fr} {σ σ' : St} {x y : FV} (h : AStep E o fr σ x σ') (hw : WkF x y) : AStep E o fr σ y σ' :=
  fun F w C tmps hi hf next Q hk => h F w C tmps hi hf next Q fun u w' C' hg hi' hr => hk u w' C' hg hi' (hw _ _ _ hr)
end Go.Abs
namespace Go.Proofs.YtgdionbeeodaaaaDoor
open Go Go.Abs Go.CoreX
set_option maxRecDepth 10000
variable {Γ : List (Nat × List AC)}
def cNB (t : Tr) : List AC := [.box (cNd t)]
@[simp] theorem ids_cNBl (k : Nat) (l : List Tr) : idsS (inL k) (l.map cNB) := idsS_map (f := cNB) (fun t => by simp [cNB]) l
@[simp] theorem ids_cNBo (l : List Tr) : idsS isO (l.map cNB) := idsS_map (f := cNB) (fun t => by simp [cNB]) l
theorem ren_cNB (ρ : Nat → Nat) (l : List Tr) : renS ρ (l.map cNB) = l.map cNB := renS_pure _ _ (ids_cNBo l)
def gN (e : List Ex) (j : Nat) : List Tr := growL (e.take j)
def kN (e : List Ex) (j : Nat) (x : Ex) (i : Nat) : List Tr := kidsT (growL (e.take j)) (x.kids.take i)
theorem GrowR_ok (hΓ : ∀ g cs, (g, cs) ∈ Γ → idsL isO cs) (e : List Ex) (he : okE e) (hin : kidsIn e) (hne : e ≠ []) : APure Tryd.prog Γ 50 [.one (.sl 5 (e.map cEx))] (.one (.box (cNd (grow e)))) := by
  have hel := he.l
  intro ou
  refine AFn.walk 50 tabOk Tryd.func50 rfl (by kernel_rfl) rfl rfl fun hou => ?_
  refine zA ?_
  refine ACode.growS 3 33 1 rfl ?_
  refine ACode.loopR hΓ (α := Nat) (fun j => [(11, .one (int j)), (10, .one (int (e.map cEx).length)), (9, .one (.sl 5 (e.map cEx))), (3, .one (.gs 1 ((gN e j).map cNB) (.l 0)))])
    (fun j => ⟨1, [(0, .tok 33 1 j)], ou⟩) (fun m j => j ≤ e.length ∧ m = e.length - j) (a0 := 0) (ρ := id) ⟨by omega, rfl⟩ (LessR.of rfl ?_ (by simp) (by repeat' first | exact LoSub.nil | refine zlc ?_ | refine zld ?_ ?_ | rfl) rfl rfl hou) fun m j hj => ?_
  · exact FrSub.cons rfl (.ofEq rfl) (FrSub.cons rfl (.ofEq rfl) (FrSub.consP rfl (.ofEq rfl) (by simp) (FrSub.cons rfl (.ofEq rfl) .nil)))
  obtain ⟨hjl, rfl⟩ := hj
  refine zA ?_
  refine ACode.cond rfl (fun hb2 => ?_) (fun hb2 => ?_)
  · have hlt : j < e.length := by simpa using hb2
    obtain ⟨x, hx⟩ := get_of_lt hlt
    have hxo := he.x x (List.mem_of_getElem? hx)
    have hxk := hxo.k
    have hxin := hin j x hx
    have hgl : (gN e j).length = j := by unfold gN; rw [growL_len]; simp; omega
    refine zA ?_
    refine AOps.step1 rfl rfl rfl (AStep.indexAddr tabOk rfl rfl rfl rfl rfl rfl (.inl rfl) rfl (by omega) (map_get hx)) ?_
    refine zA ?_
    refine ACode.grow 2 5 33 1 rfl rfl ?_
    refine ACode.loopR hΓ (α := Nat) (fun i => [(21, .one (int i)), (20, .one (int (x.kids.map cI).length)), (19, .one (.sl 1 (x.kids.map cI))), (6, .one (.ptr (.l 2) 0)), (11, .one (int j)), (10, .one (int (e.map cEx).length)), (9, .one (.sl 5 (e.map cEx))), (3, .one (.gs 1 ((gN e j).map cNB) (.l 0)))])
      (fun i => ⟨4, [(3, .tok 33 1 i), (2, .cells [int x.op, int x.n, .sl 1 (x.binds.map cI), .sl 1 (x.kids.map cI), .sl 2 (x.alts.map cAlt), .gs 1 ((kN e j x i).map cNB) (.l 3)]), (0, .tok 33 1 j)], ou⟩)
      (fun m i => i ≤ x.kids.length ∧ m = x.kids.length - i) (a0 := 0) (ρ := id) ⟨by omega, rfl⟩ (LessR.of rfl ?_ (by simp) ?_ rfl rfl hou) fun m i hi => ?_
    · exact zfc (zfc (zfp (zfc (zfc (zfc (zfp (FrSub.consGs rfl rfl (by simp) .nil)))))))
    · repeat' first | exact LoSub.nil | refine zlc ?_ | refine zld ?_ ?_ | rfl
      all_goals (simp [AObj.ren, renL, AC.ren, kN, kidsT]; rfl)
    obtain ⟨hil, rfl⟩ := hi
    refine zA ?_
    refine ACode.cond rfl (fun hb3 => ?_) (fun hb3 => ?_)
    · have hlt2 : i < x.kids.length := by simpa using hb3
      obtain ⟨k, hk⟩ := get_of_lt hlt2
      have hkb := hxin k (List.mem_of_getElem? hk)
      obtain ⟨k', rfl⟩ : ∃ k' : Nat, k = k' := ⟨k.toNat, by omega⟩
      obtain ⟨tk, htk⟩ := get_of_lt (l := gN e j) (i := k') (by omega)
      have htd : (growL (e.take j)).getD (k' : Int).toNat default = tk := by rw [Int.toNat_natCast, List.getD_eq_getElem?_getD]; unfold gN at htk; rw [htk]; rfl
      have hks : kN e j x (i + 1) = kN e j x i ++ [tk] := by unfold kN; rw [kidsT_succ hk, htd]
      have hkl : ((kN e j x i).map cNB).length = i := by simp [kN, kidsT]; omega
      refine zA ?_
      refine AOps.step1 rfl rfl rfl (AStep.indexAddr tabOk rfl rfl rfl rfl rfl rfl (.inl rfl) rfl (by omega) (map_get hk)) ?_
      refine zA ?_
      refine ACode.drawXH (va := .one (.gs 1 ((kN e j x i).map cNB ++ [cNB tk]) (.l 4))) (σ1 := ((St.mk 4 [(3, .tok 33 1 i), (2, .cells [int x.op, int x.n, .sl 1 (x.binds.map cI), .sl 1 (x.kids.map cI), .sl 2 (x.alts.map cAlt), .gs 1 ((kN e j x i).map cNB) (.l 3)]), (0, .tok 33 1 j)] ou).set (.l 3) .dead).push (.tok 33 1 ((kN e j x i).map cNB ++ [cNB tk]).length))
        tabOk 11 10 [(5, .one (.sl 1 ((gN e j).map cNB))), (7, .one (.box (cNB tk)))] follows (by kernel_rfl) rfl rfl rfl rfl rfl rfl rfl ?_ ?_ ?_ ?_
      · refine HStep.plain rfl (AStep.append (s := 1) (es := (kN e j x i).map cNB) (news := [cNB tk]) (ti := ti80) (σ := ⟨4, [(3, .tok 33 1 i), (2, .cells [int x.op, int x.n, .sl 1 (x.binds.map cI), .sl 1 (x.kids.map cI), .sl 2 (x.alts.map cAlt), .gs 1 ((kN e j x i).map cNB) (.l 3)]), (0, .tok 33 1 j)], ou⟩) tabOk rfl rfl rfl rfl rfl rfl (Base.gs' _ 33 1 ((kN e j x i).map cNB) (.l 3) rfl hkl.symm) (.sl _ _) rfl ?_ ?_)
        · rw [hkl]; show (i + 1) * 8 ≤ _; omega
        · rw [hkl]; show i + 1 ≤ _; omega
      · refine .step rfl (HStep.plain rfl ((AStep.ofOp tabOk rfl).weak (.one (.gsE rfl)))) ?_
        exact .step rfl (HStep.plain rfl (AStep.indexAddr tabOk rfl rfl rfl rfl rfl rfl (.inl rfl) rfl (by omega) (map_get htk))) .nil
      · refine .step rfl (HStep.plain rfl ((AStep.ofOp tabOk rfl).weak (.one (.gsE rfl)))) ?_
        exact .step rfl (HStep.plain rfl (AStep.indexAddr tabOk rfl rfl rfl rfl rfl rfl (.inl rfl) rfl (by omega) (map_get htk))) .nil
      refine zM ?_
      refine cInv ⟨x.kids.length - (i + 1), i + 1, fun k => if k = 3 then 4 else k, by omega, ⟨by omega, rfl⟩, LessR.of rfl ?_ (by simp) ?_ rfl rfl hou⟩
      · exact zfc (zfc (zfp (zfc (zfc (zfc (zfp (FrSub.consGs rfl rfl (by simp) .nil)))))))
      · repeat' first | exact LoSub.nil | refine zlc ?_ | refine zld ?_ ?_ | rfl
        · simp only [AObj.ren, List.length_append, hkl]; rfl
        · rw [hks]; simp only [AObj.ren, renL, AC.ren, ren_cIs, ren_cNB, ren_cAlts]; rw [List.map_append]; rfl
        all_goals skip
    have hlt2 : i = x.kids.length := by simp at hb3; omega
    subst hlt2
    repeat ((fail_if_success ((with_reducible refine oj ?_); refine AOps.atDst 41 rfl ?_)); first | refine zO ?_)
    refine AOps.freeze1 (.l 2) 40 rfl rfl ?_
    have hkn : kN e j x x.kids.length = kidsT (growL (e.take j)) x.kids := by unfold kN; rw [List.take_length]
    refine AOps.wk 40 rfl (y := .one (.box (cNd (nodeOf (growL (e.take j)) x)))) (.one (Wk.box ?_)) ?_
    · rw [nodeOf_eq]
      exact .cons (.refl _) (.cons (.refl _) (.cons (.refl _) (.cons (.any _) (.cons (.refl _) (.cons (.gsE (by rw [hkn, Tr.kids_mk, encNds_eq]; rfl)) .nil)))))
    have hsn : gN e (j + 1) = gN e j ++ [nodeOf (growL (e.take j)) x] := by unfold gN; rw [take_get hx, growL_snoc]
    generalize nodeOf (growL (e.take j)) x = nd at hsn
    refine zA ?_
    refine AOps.app tabOk rfl rfl rfl rfl rfl rfl rfl rfl rfl (Base.gs' _ 33 1 _ _ rfl (by simp [hgl])) (.sl 1 [cNB nd]) rfl ?_ ?_ ?_
    · simp [hgl]; show (j + 1) * 8 ≤ _; omega
    · simp [hgl]; omega
    refine zM ?_
    have hcn : (gN e (j + 1)).map cNB = (gN e j).map cNB ++ [cNB nd] := by rw [hsn, List.map_append]; rfl
    refine cInv ⟨e.length - (j + 1), j + 1, fun k => if k = 0 then 4 else k, by omega, ⟨by omega, rfl⟩, ?_⟩
    simp only [hcn]
    refine LessR.of rfl (zfc (zfc (zfp (FrSub.consGs rfl rfl (by rw [← hcn]; simp) .nil)))) (by rw [← hcn]; simp) ?_ rfl rfl hou
    exact LoSub.cons rfl (by simp only [AObj.ren, List.length_append, List.length_map, hgl]; rfl) rfl (by simp) .nil
  · have hlt : j = e.length := by simp at hb2; omega
    subst hlt
    have hg : gN e e.length = growL e := by unfold gN; rw [List.take_length]
    obtain ⟨M, hM⟩ : ∃ M, e.length = M + 1 := ⟨e.length - 1, by have := List.length_pos_iff.2 hne; omega⟩
    obtain ⟨t, ht⟩ := get_of_lt (l := growL e) (i := M) (by rw [growL_len]; omega)
    have hgt : grow e = t := by unfold grow; rw [hM, Nat.add_sub_cancel, List.getD_eq_getElem?_getD, ht]; rfl
    repeat ((fail_if_success ((with_reducible refine oj ?_); refine AOps.atDst 44 rfl ?_)); first | refine zO ?_)
    refine AOps.wk 3 rfl (y := .one (.sl 1 ((growL e).map cNB))) (.one (.gsE (by rw [hg]))) ?_
    refine zM ?_
    have hgle := growL_len e
    refine AOps.wk 46 rfl (y := .one (int ((M + 1 : Nat) : Int))) (.ofEq (by rw [List.length_map, hgle, hM])) ?_
    refine zM ?_
    refine AOps.wk 47 rfl (y := .one (int (M : Nat))) (.ofEq (by congr 3; omega)) ?_
    refine AOps.step1 rfl rfl rfl (AStep.indexAddr tabOk rfl rfl rfl rfl rfl rfl (.inl rfl) rfl (by omega) (map_get ht)) ?_
    refine zA ?_
    refine APure.fin rfl (WkF.ofEq ?_) (by simp) hou rfl
    rw [hgt]
end Go.Proofs.YtgdionbeeodaaaaDoor
namespace Go.CoreX
def upMax (m : Int) (l : List Int) : Int := l.foldl (fun m n => if n > m then n else m) m
def mostB (e : List Ex) : Int := upMax (-1) (allBinders e)
theorem upMax_app (m : Int) (l r : List Int) : upMax m (l ++ r) = upMax (upMax m l) r := by simp [upMax]
theorem upMax_ge : ∀ (l : List Int) (m : Int), m ≤ upMax m l
  | [], m => Int.le_refl _
  | n :: l, m => by
    have := upMax_ge l (if n > m then n else m)
    simp only [upMax, List.foldl_cons] at this ⊢
    split at this <;> rename_i h <;> simp only [h, if_true, if_false] <;> omega
end Go.CoreX
namespace Go.Proofs.YtgdionbeeodaaaaDoor
open Go Go.Abs Go.CoreX
set_option maxRecDepth 10000
variable {Γ : List (Nat × List AC)}
def mB (e : List Ex) (j : Nat) : Int := upMax (-1) (allBinders (e.take j))
theorem MostR_ok (hΓ : ∀ g cs, (g, cs) ∈ Γ → idsL isO cs) (e : List Ex) (he : okB e) : APure Tryd.prog Γ 49 [.one (.sl 5 (e.map cEx))] (.one (int (mostB e))) := by
  have hel := he.eo.l
  intro ou
  refine AFn.walk 27 tabOk Tryd.func49 rfl (by kernel_rfl) rfl rfl fun hou => ?_
  refine zA ?_
  refine ACode.loopR hΓ (α := Nat) (fun j => [(10, .one (int j)), (9, .one (int (e.map cEx).length)), (8, .one (.sl 5 (e.map cEx))), (3, .one (int (mB e j)))])
    (fun j => ⟨0, [], ou⟩) (fun m j => j ≤ e.length ∧ m = e.length - j) (a0 := 0) (ρ := id) ⟨by omega, rfl⟩ (LessR.of rfl (by (repeat' first | exact FrSub.nil | refine zfc ?_ | refine zfo ?_ | refine zfp ?_)) (by simp) (by repeat' first | exact LoSub.nil | refine zlc ?_ | refine zld ?_ ?_ | rfl) rfl rfl hou) fun m j hj => ?_
  obtain ⟨hjl, rfl⟩ := hj
  refine zA ?_
  refine ACode.cond rfl (fun hb2 => ?_) (fun hb2 => ?_)
  · have hlt : j < e.length := by simpa using hb2
    obtain ⟨x, hx⟩ := get_of_lt hlt
    have hxm := List.mem_of_getElem? hx
    have hsn : mB e (j + 1) = upMax (mB e j) (exBinders x) := by unfold mB; rw [take_succ_of hx, allBinders, allBinders, List.flatMap_append, upMax_app]; simp
    refine zA ?_
    refine AOps.step1 rfl rfl rfl (AStep.indexAddr tabOk rfl rfl rfl rfl rfl rfl (.inl rfl) rfl (by omega) (map_get hx)) ?_
    refine zA ?_
    refine AOps.callC hΓ (BindsR_ok hΓ x (he.eo.x x hxm) (he.b x hxm)) rfl rfl rfl rfl rfl rfl rfl hou (by simp [cEx]) ?_
    refine zA ?_
    refine ACode.loopR hΓ (α := Nat) (fun i => [(17, .one (int i)), (16, .one (int ((exBinders x).map cI).length)), (15, .one (.sl 1 ((exBinders x).map cI))), (10, .one (int j)), (9, .one (int (e.map cEx).length)), (8, .one (.sl 5 (e.map cEx))), (3, .one (int (upMax (mB e j) ((exBinders x).take i))))])
      (fun i => ⟨0, [], ou⟩) (fun m i => i ≤ (exBinders x).length ∧ m = (exBinders x).length - i) (a0 := 0) (ρ := id) ⟨by omega, rfl⟩ (LessR.of rfl (by (repeat' first | exact FrSub.nil | refine zfc ?_ | refine zfo ?_ | refine zfp ?_)) (by simp) (by repeat' first | exact LoSub.nil | refine zlc ?_ | refine zld ?_ ?_ | rfl) rfl rfl hou) fun m i hi => ?_
    obtain ⟨hil, rfl⟩ := hi
    have hbl := (he.ex x hxm).1
    refine zA ?_
    refine ACode.cond rfl (fun hb3 => ?_) (fun hb3 => ?_)
    · have hlt2 : i < (exBinders x).length := by simpa using hb3
      obtain ⟨n, hn⟩ := get_of_lt hlt2
      have hsm : upMax (mB e j) ((exBinders x).take (i + 1)) = if n > upMax (mB e j) ((exBinders x).take i) then n else upMax (mB e j) ((exBinders x).take i) := by rw [take_get hn, upMax_app]; rfl
      refine zA ?_
      refine AOps.step1 rfl rfl rfl (AStep.indexAddr tabOk rfl rfl rfl rfl rfl rfl (.inl rfl) rfl (by omega) (map_get hn)) ?_
      refine zM ?_
      refine cInv ⟨(exBinders x).length - (i + 1), i + 1, id, by omega, ⟨by omega, rfl⟩, ?_⟩
      simp only [hsm]
      exact LessR.of rfl (by (repeat' first | exact FrSub.nil | refine zfc ?_ | refine zfo ?_ | refine zfp ?_)) (by simp) (by repeat' first | exact LoSub.nil | refine zlc ?_ | refine zld ?_ ?_ | rfl) rfl rfl hou
    have hlt2 : i = (exBinders x).length := by simp at hb3; omega
    subst hlt2
    rw [List.take_length, ← hsn]
    refine zM ?_
    exact cInv ⟨e.length - (j + 1), j + 1, id, by omega, ⟨by omega, rfl⟩, LessR.of rfl (by (repeat' first | exact FrSub.nil | refine zfc ?_ | refine zfo ?_ | refine zfp ?_)) (by simp) (by repeat' first | exact LoSub.nil | refine zlc ?_ | refine zld ?_ ?_ | rfl) rfl rfl hou⟩
  · have hlt : j = e.length := by simp at hb2; omega
    subst hlt
    refine zA ?_
    refine APure.fin rfl (WkF.ofEq ?_) (by simp) hou rfl
    unfold mB mostB; rw [List.take_length]
end Go.Proofs.YtgdionbeeodaaaaDoor
namespace Go.CoreX
def addT (id w : Int) (t : Tr) : Tr := .mk 4 0 [id] [wordT w, t] []
end Go.CoreX
namespace Go.CoreX
theorem binds_range {e : List Ex} {x : Ex} (h : nodeErrF false e x = 0) : ∀ b ∈ exBinders x, b ≤ 1048575 := by
  have hr : ranges x = 0 := by
    unfold nodeErrF at h
    split at h
    · cases h
    · unfold nodeErr at h
      split at h
      · cases h
      · split at h
        · rename_i hr; exact absurd h hr
        · rename_i hr; simpa using hr
  have hx : x.binds.all identOk = true ∧ x.alts.all (altRange x.op) = true := by
    unfold ranges at hr
    split at hr
    · cases hr
    split at hr
    · cases hr
    rename_i h1
    split at hr
    · cases hr
    rename_i h2
    exact ⟨by simpa using h1, by simpa using h2⟩
  have ok : ∀ n, identOk n = true → n ≤ 1048575 := fun n hn => by
    simp [identOk, between] at hn; omega
  intro b hb
  unfold exBinders bindersN at hb
  rcases List.mem_append.1 hb with hb | hb
  · split at hb
    · exact ok b (List.all_eq_true.1 hx.1 b hb)
    · cases hb
  · obtain ⟨a, ha, hba⟩ := List.mem_flatMap.1 hb
    have := List.all_eq_true.1 hx.2 a ha
    unfold altRange at this
    exact ok b (List.all_eq_true.1 (Bool.and_eq_true_iff.1 this).2 b hba)
theorem upMax_le : ∀ (l : List Int) (m B : Int), m ≤ B → (∀ n ∈ l, n ≤ B) → upMax m l ≤ B
  | [], m, B, h, _ => h
  | x :: l, m, B, h, hl => by
    show upMax (if x > m then x else m) l ≤ B
    exact upMax_le l _ B (by split; exact hl x (by simp); exact h) fun n hn => hl n (by simp [hn])
theorem mostB_range {e : List Ex} (h : check e = 0) : -1 ≤ mostB e ∧ mostB e ≤ 1048575 := by
  obtain ⟨_, p2, _, _⟩ := check_parts h
  refine ⟨upMax_ge _ _, upMax_le _ _ _ (by omega) fun n hn => ?_⟩
  obtain ⟨x, hx, hnx⟩ := List.mem_flatMap.1 hn
  exact binds_range (p2 x hx) n hnx
def arE (e : List Ex) (T : Tr) : List Ex × Bool := if check e ≠ 0 ∨ 1500 < e.length ∨ 1048576 ≤ mostB e + 9 then ([], false) else (listT [] T, check (listT [] T) == 0)
end Go.CoreX
namespace Go.Proofs.YtgdionbeeodaaaaDoor
open Go Go.Abs Go.CoreX
set_option maxRecDepth 10000
theorem around_ok (e : List Ex) (he : okB e) (g : Nat) (caps : List AC) (hcap : idsL isO caps) (T : Tr) (hT : check e = 0 → e.length ≤ 1500 → okT T ∧ cntN T ≤ 1048576)
    (hput : APure Tryd.prog Γc g ([.one (.box (cNd (grow e))), .one (int (mostB e + 1))] ++ caps.map .one) (.one (.box (cNd T)))) :
    APure Tryd.prog Γc 17 [.one (.sl 5 (e.map cEx)), .one (.fn (.func g) [] caps)] (.tup [.one (.sl 5 ((arE e T).1.map cEx)), .one (.lit (.bool (arE e T).2))]) := by
  have c1 := Check_ok e he
  have hel := he.eo.l
  have hmo := MostR_ok hΓc e he
  intro ou
  refine AFn.walk 33 tabOk Tryd.func17 rfl (by kernel_rfl) rfl rfl fun hou => ?_
  by_cases h : check e ≠ 0
  · rw [show arE e T = ([], false) by unfold arE; rw [if_pos (.inl h)]]
    refine zA ?_
    refine zca hΓc c1 hou ?_
    refine zA ?_
    refine AOps.splitS rfl rfl rfl rfl (fun hb => ?_) (fun hb => absurd hb (by simpa using h))
    refine zM ?_
    exact APure.fin rfl (WkF.tup (.cons (.one (.nilS 5)) (.cons (.refl _) .nil))) (by simp) hou rfl
  have h : check e = 0 := by simpa using h
  rw [h] at c1
  have hmr := mostB_range h
  refine zA ?_
  refine zca hΓc c1 hou ?_
  refine zM ?_
  refine AOps.splitS rfl rfl rfl rfl (fun hb => ?_) (fun hb => ?_)
  · have hl : 1500 < e.length := by simp at hb; omega
    rw [show arE e T = ([], false) by unfold arE; rw [if_pos (.inr (.inl hl))]]
    refine zM ?_
    exact APure.fin rfl (WkF.tup (.cons (.one (.nilS 5)) (.cons (.refl _) .nil))) (by simp) hou rfl
  have hl : e.length ≤ 1500 := by simp at hb; omega
  refine zM ?_
  refine zca hΓc hmo hou ?_
  refine zM ?_
  refine ACode.cond rfl (fun hb1 => ?_) (fun hb1 => ?_)
  · have hm : 1048576 ≤ mostB e + 9 := by simp at hb1; omega
    rw [show arE e T = ([], false) by unfold arE; rw [if_pos (.inr (.inr hm))]]
    refine zM ?_
    exact APure.fin rfl (WkF.tup (.cons (.one (.nilS 5)) (.cons (.refl _) .nil))) (by simp) hou rfl
  have hm : ¬ 1048576 ≤ mostB e + 9 := by simp at hb1; omega
  obtain ⟨hT1, hT2⟩ := hT h hl
  have hTl : (listT [] T).length ≤ 1048576 := by have := cntN_list T []; simp at this; omega
  have hTb : okB (listT [] T) := okB_list (okT_pOk _ hT1) hT2
  have c2 := Check_ok (listT [] T) hTb
  have t1 := body_isTree h
  rw [show arE e T = (listT [] T, check (listT [] T) == 0) by unfold arE; rw [if_neg (by simp [h]; omega)]]
  refine zA ?_
  refine zca hΓc (GrowR_ok hΓc e he.eo t1.k t1.ne) hou ?_
  refine zA ?_
  refine zca hΓc hmo hou ?_
  refine zM ?_
  refine AOps.callC hΓc hput rfl rfl rfl rfl rfl rfl rfl hou ?_ ?_
  · refine ⟨by simp, trivial, ?_⟩
    clear hput
    induction caps with
    | nil => trivial
    | cons c caps ih => exact ⟨hcap.1, ih hcap.2⟩
  refine zca hΓc (NodeList_ok hΓc T hT1 hTl) hou ?_
  refine zA ?_
  refine zca hΓc c2 hou ?_
  refine zM ?_
  exact APure.fin rfl (WkF.ofEq rfl) (by simp) hou rfl
end Go.Proofs.YtgdionbeeodaaaaDoor
namespace Go.Proofs.YtgdionbeeodaaaaDoor
open Go Go.Abs Go.CoreX
set_option maxRecDepth 10000
theorem order_okB' {e : List Ex} (he : okB e) (h : check e = 0) : okB (listT [] (grow e)) := by
  have t1 := body_isTree h
  refine okB_list (okT_pOk _ (he.t t1.k t1.ne)) ?_
  have h1 := len_list h
  have h2 := cntN_list (grow e) []
  have := he.eo.l
  simp only [List.length_nil] at h2
  omega
end Go.Proofs.YtgdionbeeodaaaaDoor
namespace Go.CoreX
theorem sameTs_snoc : ∀ {l r : List Tr} {i : Nat} {a b : Tr} {m : Nm}, (sameTs (l.take i) (r.take i) m).1 = true → l[i]? = some a → r[i]? = some b → sameTs (l.take (i + 1)) (r.take (i + 1)) m = sameT a b (sameTs (l.take i) (r.take i) m).2
  | [], _, i, a, b, m, _, h, _ => by simp at h
  | x :: l, [], i, a, b, m, _, _, h => by simp at h
  | x :: l, y :: r, 0, a, b, m, hs, h, h' => by
    simp at h h'
    subst h; subst h'
    simp only [List.take_succ_cons, List.take_zero, sameTs]
    by_cases e : (sameT x y m).1 = true
    · rw [if_pos e]; exact Prod.ext e.symm rfl
    · rw [if_neg e]; exact Prod.ext (by cases hh : (sameT x y m).1 with | true => exact absurd hh e | false => rfl) rfl
  | x :: l, y :: r, i + 1, a, b, m, hs, h, h' => by
    simp only [List.getElem?_cons_succ] at h h'
    rw [List.take_succ_cons, List.take_succ_cons] at hs
    rw [List.take_succ_cons, List.take_succ_cons, List.take_succ_cons, List.take_succ_cons]
    unfold sameTs at hs ⊢
    by_cases e : (sameT x y m).1 = true
    · simp only [if_pos e] at hs ⊢
      exact sameTs_snoc hs h h'
    · simp only [if_neg e] at hs
      cases hs
theorem sameTs_stop : ∀ {l r : List Tr} {j : Nat} {m : Nm}, (sameTs (l.take j) (r.take j) m).1 = false → sameTs l r m = sameTs (l.take j) (r.take j) m
  | [], r, j, m, h => by simp [sameTs] at h
  | x :: l, [], j, m, h => by cases j <;> simp [sameTs] at h
  | x :: l, y :: r, 0, m, h => by simp [sameTs] at h
  | x :: l, y :: r, j + 1, m, h => by
    rw [List.take_succ_cons, List.take_succ_cons] at h ⊢
    unfold sameTs at h ⊢
    by_cases e : (sameT x y m).1 = true
    · simp only [if_pos e] at h ⊢
      exact sameTs_stop h
    · simp only [if_neg e]
theorem altsLike_all : ∀ {l r : List Alt}, (∀ (i : Nat) (a b : Alt), l[i]? = some a → r[i]? = some b → a.tag = b.tag ∧ a.binds.length = b.binds.length) → altsLike l r = true
  | [], _, _ => by simp [altsLike]
  | _ :: _, [], _ => by simp [altsLike]
  | a :: l, b :: r, h => by
    have h0 := h 0 a b rfl rfl
    simp only [altsLike, h0.1, h0.2, beq_self_eq_true, Bool.and_self, Bool.true_and]
    exact altsLike_all fun i x y hx hy => h (i + 1) x y (by simpa using hx) (by simpa using hy)
end Go.CoreX
namespace Go.Proofs.YtgdionbeeodaaaaDoor
open Go Go.Abs Go.CoreX
set_option maxRecDepth 10000
variable {Γ : List (Nat × List AC)}
def SameX (Γ : List (Nat × List AC)) (a b : Tr) : Prop := ∀ (m : Nm) (ck : Nat) (l : List (Nat × Int × Int)), IMOk m ck l →
  AFn Tryd.prog Γ 90 [.one (.box (cTr a)), .one (.box (cTr b)), .one (.mp (.o 0))] (ouN ck l) (fun r ou' => r = .one (.lit (.bool (sameT a b m).1)) ∧ ∃ ck' l', ou' = ouN ck' l' ∧ IMOk (sameT a b m).2 ck' l')
set_option maxHeartbeats 2000000 in
theorem sameX_ok (hΓ : ∀ g cs, (g, cs) ∈ Γ → idsL isO cs) : ∀ a : Tr, okT a → ∀ b, okT b → SameX Γ a b
  | .mk o n bs ks al, ha, t, ht => by
    have ha' := okT_tr ha
    obtain ⟨hbs, hks, hal, hab, hbl, hkk⟩ := ha'
    simp only [Tr.binds_mk, Tr.kids_mk, Tr.alts_mk] at hbs hks hal hab hkk
    have ih : ∀ x ∈ ks, ∀ y, okT y → SameX Γ x y := fun x hx y hy => sameX_ok hΓ x (hkk x hx) y hy
    obtain ⟨htb, htk, hta, htab, htl, htkk⟩ := okT_tr ht
    intro m ck l hm
    refine AFn.walk 222 tabOk Tryd.func90 rfl (by kernel_rfl) rfl rfl fun hou => ?_
    by_cases hu : unlike o ks.length bs.length al.length t = true
    · have hS : sameT (.mk o n bs ks al) t m = (false, m) := by unfold sameT; rw [if_pos hu]
      rw [hS]
      have hcase : o ≠ t.op ∨ (o = t.op ∧ ks.length ≠ t.kids.length) ∨ (o = t.op ∧ ks.length = t.kids.length ∧ bs.length ≠ t.binds.length) ∨ (o = t.op ∧ ks.length = t.kids.length ∧ bs.length = t.binds.length ∧ al.length ≠ t.alts.length) := by
        simp [unlike] at hu
        by_cases h1 : o = t.op <;> by_cases h2 : ks.length = t.kids.length <;> by_cases h3 : bs.length = t.binds.length <;> simp_all
      rcases hcase with h1 | ⟨h1, h2⟩ | ⟨h1, h2, h3⟩ | ⟨h1, h2, h3, h4⟩
      · refine zA ?_
        refine ACode.drawX tabOk 47 [(8, .one (.lit (.bool true)))] follows (by kernel_rfl) rfl rfl rfl rfl ?_ ?_
        · exact .step rfl (HStep.litB tabOk rfl (by simp [h1])) .nil
        refine zA ?_
        exact AFn.fin' rfl (WkF.refl _) (by simp) hou ⟨rfl, ck, l, rfl, hm⟩
      · refine zA ?_
        refine ACode.drawX tabOk 47 [(8, .one (.lit (.bool false))), (20, .one (.lit (.bool true)))] follows (by kernel_rfl) rfl rfl rfl rfl ?_ ?_
        · exact .step rfl (HStep.litB tabOk rfl (by simp [h1])) (.step rfl (HStep.litB tabOk rfl (by simp; omega)) .nil)
        refine zA ?_
        exact AFn.fin' rfl (WkF.refl _) (by simp) hou ⟨rfl, ck, l, rfl, hm⟩
      · refine zA ?_
        refine ACode.drawX tabOk 47 [(8, .one (.lit (.bool false))), (20, .one (.lit (.bool false))), (33, .one (.lit (.bool true)))] follows (by kernel_rfl) rfl rfl rfl rfl ?_ ?_
        · exact .step rfl (HStep.litB tabOk rfl (by simp [h1])) (.step rfl (HStep.litB tabOk rfl (by simp [h2])) (.step rfl (HStep.litB tabOk rfl (by simp; omega)) .nil))
        refine zA ?_
        exact AFn.fin' rfl (WkF.refl _) (by simp) hou ⟨rfl, ck, l, rfl, hm⟩
      · refine zA ?_
        refine ACode.drawX tabOk 47 [(8, .one (.lit (.bool false))), (20, .one (.lit (.bool false))), (33, .one (.lit (.bool false))), (46, .one (.lit (.bool true)))] follows (by kernel_rfl) rfl rfl rfl rfl ?_ ?_
        · exact .step rfl (HStep.litB tabOk rfl (by simp [h1])) (.step rfl (HStep.litB tabOk rfl (by simp [h2])) (.step rfl (HStep.litB tabOk rfl (by simp [h3])) (.step rfl (HStep.litB tabOk rfl (by simp; omega)) .nil)))
        refine zA ?_
        exact AFn.fin' rfl (WkF.refl _) (by simp) hou ⟨rfl, ck, l, rfl, hm⟩
    obtain ⟨e1, e2, e3, e4⟩ : o = t.op ∧ ks.length = t.kids.length ∧ bs.length = t.binds.length ∧ al.length = t.alts.length := by simpa [unlike, and_assoc] using hu
    refine zA ?_
    refine ACode.drawX tabOk 47 [(8, .one (.lit (.bool false))), (20, .one (.lit (.bool false))), (33, .one (.lit (.bool false))), (46, .one (.lit (.bool false)))] follows (by kernel_rfl) rfl rfl rfl rfl ?_ ?_
    · refine .step rfl (HStep.litB tabOk rfl (by simp [e1])) ?_
      refine .step rfl (HStep.litB tabOk rfl (by simp [e2])) ?_
      refine .step rfl (HStep.litB tabOk rfl (by simp [e3])) ?_
      exact .step rfl (HStep.litB tabOk rfl (by simp [e4])) .nil
    iterate 7 (first | ((with_reducible refine oj ?_); refine zau ?_) | (with_reducible refine zst ?_) | ((with_reducible refine cExitMiss ?_ ?_); rfl) | (with_reducible refine ok ?_; first | refine ACode.condT rfl ?_ | refine ACode.condF rfl ?_))
    by_cases h0 : o = 0
    · have hS : sameT (.mk o n bs ks al) t m = (sameVar m n t.n, m) := by unfold sameT; rw [if_neg hu, if_pos h0]
      rw [hS]
      refine zA ?_
      refine ACode.cond rfl (fun hb => ?_) (fun hb => absurd h0 (by simpa using hb))
      have hz := zeroN
      refine zA ?_
      refine AOps.step1 rfl rfl rfl (AStep.lookI eN (cm := true) (v := .one (int ((m n).getD 0))) rfl Tryd.underlying90 Tryd.underlying3 rfl rfl rfl (by kernel_rfl) zeroN hm (by simp only [Tr.n_mk]; cases m n <;> rfl)) ?_
      refine zA ?_
      cases hmn : m n with
      | some v =>
        rw [show sameVar m n t.n = (v == t.n) by simp [sameVar, hmn]]
        refine ACode.wk 8 rfl (y := .one (.lit (.bool true))) (.ofEq (by simp [hmn])) ?_
        refine ACode.wk 7 rfl (y := .one (int v)) (.ofEq (by simp [hmn])) ?_
        cases hv : v == t.n with
        | true =>
          refine ACode.drawX tabOk 24 [(7, .one (.lit (.bool true)))] follows (by kernel_rfl) rfl rfl rfl rfl ?_ ?_
          · exact .step rfl (HStep.litB tabOk rfl (by simpa using hv)) .nil
          refine zA ?_
          exact AFn.fin' rfl (WkF.refl _) (by simp) hou ⟨rfl, ck, l, rfl, hm⟩
        | false =>
          refine ACode.drawX tabOk 24 [(7, .one (.lit (.bool false)))] follows (by kernel_rfl) rfl rfl rfl rfl ?_ ?_
          · exact .step rfl (HStep.litB tabOk rfl (by simpa using hv)) .nil
          refine zA ?_
          exact AFn.fin' rfl (WkF.refl _) (by simp) hou ⟨rfl, ck, l, rfl, hm⟩
      | none =>
        rw [show sameVar m n t.n = (n == t.n) by simp [sameVar, hmn]]
        refine ACode.wk 8 rfl (y := .one (.lit (.bool false))) (.ofEq (by simp [hmn])) ?_
        refine ACode.drawX tabOk 24 [(21, .one (.lit (.bool (n == t.n))))] follows (by kernel_rfl) rfl rfl rfl rfl ?_ ?_
        · exact .step rfl (HStep.litB tabOk rfl rfl) .nil
        refine zA ?_
        exact AFn.fin' rfl (WkF.refl _) (by simp) hou ⟨rfl, ck, l, rfl, hm⟩
    refine ACode.cutR hΓ (α := Unit) (fun _ => [(2, .one (.mp (.o 0))), (1, .one (.box (cTr t))), (0, .one (.box (cTr (.mk o n bs ks al))))])
      (fun _ => ⟨0, [], ouN ck l⟩) (fun _ => ¬ ((!(n == t.n)) || (o == 9 && !(bs == t.binds))) = true) ?_ fun _ hc => ?_
    · refine zA ?_
      refine ACode.cond rfl (fun hb => absurd (by simpa using hb) h0) (fun hb => ?_)
      refine zA ?_
      by_cases hn : n = t.n
      · by_cases h9 : o = 9
        · have heq := Equal_ok hΓ bs t.binds hbs
          cases h9b : bs == t.binds with
          | false =>
            rw [h9b] at heq
            have hS : sameT (.mk o n bs ks al) t m = (false, m) := by unfold sameT; rw [if_neg hu, if_neg h0, if_pos (by simp [h9]; exact .inr (by simpa using h9b))]
            rw [hS]
            refine ACode.drawX tabOk 28 [(8, .one (.lit (.bool false))), (14, .one (.lit (.bool true))), (24, .one (.lit (.bool false)))] follows (by kernel_rfl) rfl rfl rfl rfl ?_ ?_
            · refine .step rfl (HStep.litB tabOk rfl (by simp [hn])) ?_
              refine .step rfl (HStep.litB tabOk rfl (by simp [h9])) ?_
              exact .step rfl (HStep.guarded rfl rfl rfl (AStep.callP hΓ rfl rfl rfl rfl (by simp) hou heq)) .nil
            refine zA ?_
            exact AFn.fin' rfl (WkF.refl _) (by simp) hou ⟨rfl, ck, l, rfl, hm⟩
          | true =>
            rw [h9b] at heq
            refine ACode.drawX tabOk 28 [(8, .one (.lit (.bool false))), (14, .one (.lit (.bool true))), (24, .one (.lit (.bool true)))] follows (by kernel_rfl) rfl rfl rfl rfl ?_ ?_
            · refine .step rfl (HStep.litB tabOk rfl (by simp [hn])) ?_
              refine .step rfl (HStep.litB tabOk rfl (by simp [h9])) ?_
              exact .step rfl (HStep.guarded rfl rfl rfl (AStep.callP hΓ rfl rfl rfl rfl (by simp) hou heq)) .nil
            refine zA ?_
            exact cInv ⟨(), id, by simp [hn, h9b], LessR.of rfl (by (repeat' first | exact FrSub.nil | refine zfc ?_ | refine zfo ?_ | refine zfp ?_)) (by simp) .nil rfl rfl hou⟩
        · refine ACode.drawX tabOk 28 [(8, .one (.lit (.bool false))), (14, .one (.lit (.bool false)))] follows (by kernel_rfl) rfl rfl rfl rfl ?_ ?_
          · refine .step rfl (HStep.litB tabOk rfl (by simp [hn])) ?_
            exact .step rfl (HStep.litB tabOk rfl (by simp [h9])) .nil
          refine zA ?_
          exact cInv ⟨(), id, by simp [hn, h9], LessR.of rfl (by (repeat' first | exact FrSub.nil | refine zfc ?_ | refine zfo ?_ | refine zfp ?_)) (by simp) .nil rfl rfl hou⟩
      · have hS : sameT (.mk o n bs ks al) t m = (false, m) := by unfold sameT; rw [if_neg hu, if_neg h0, if_pos (by simp [hn])]
        rw [hS]
        refine ACode.drawX tabOk 28 [(8, .one (.lit (.bool true)))] follows (by kernel_rfl) rfl rfl rfl rfl ?_ ?_
        · exact .step rfl (HStep.litB tabOk rfl (by simp [hn])) .nil
        refine zA ?_
        exact AFn.fin' rfl (WkF.refl _) (by simp) hou ⟨rfl, ck, l, rfl, hm⟩
    have hS0 : sameT (.mk o n bs ks al) t m = if altsLike al t.alts = false then (false, m) else sameTs ks t.kids (putsN m (bindersN o bs al) (bindersN t.op t.binds t.alts)) := by
      rw [sameT, if_neg hu, if_neg h0, if_neg hc]
    refine zA ?_
    refine ACode.loopR hΓ (α := Nat) (fun i => [(135, .one (int i)), (134, .one (int (al.map cAlt).length)), (2, .one (.mp (.o 0))), (1, .one (.box (cTr t))), (0, .one (.box (cTr (.mk o n bs ks al))))])
      (fun i => ⟨0, [], ouN ck l⟩) (fun m i => i ≤ al.length ∧ (∀ (j : Nat) (a b : Alt), j < i → al[j]? = some a → t.alts[j]? = some b → a.tag = b.tag ∧ a.binds.length = b.binds.length) ∧ m = al.length - i) (a0 := 0) (ρ := id) ⟨by omega, fun j a b h => by omega, rfl⟩ (LessR.of rfl (by (repeat' first | exact FrSub.nil | refine zfc ?_ | refine zfo ?_ | refine zfp ?_)) (by simp) .nil rfl rfl hou) fun m' i hi => ?_
    obtain ⟨hil, hno, rfl⟩ := hi
    refine zA ?_
    refine ACode.cond rfl (fun hb3 => ?_) (fun hb3 => ?_)
    · have hlt : i < al.length := by simpa using hb3
      obtain ⟨x, hx⟩ := get_of_lt hlt
      obtain ⟨y, hy⟩ := get_of_lt (l := t.alts) (i := i) (by omega)
      by_cases q1 : x.tag = y.tag
      · by_cases q2 : x.binds.length = y.binds.length
        · refine zA ?_
          refine ACode.drawX tabOk 37 [(5, .one (.box (cAlt x))), (13, .one (.box (cAlt y))), (16, .one (.lit (.bool false))), (23, .one (.box (cAlt x))), (32, .one (.box (cAlt y))), (36, .one (.lit (.bool false)))] follows (by kernel_rfl) rfl rfl rfl rfl ?_ ?_
          · refine .step rfl (HStep.plain rfl (AStep.indexAddr tabOk rfl rfl rfl rfl rfl rfl (.inl rfl) rfl (by omega) (map_get hx))) ?_
            refine .step rfl (HStep.plain rfl (AStep.indexAddr tabOk rfl rfl rfl rfl rfl rfl (.inl rfl) rfl (by omega) (map_get hy))) ?_
            refine .step rfl (HStep.litB tabOk rfl (by simp [q1])) ?_
            refine .step rfl (HStep.guarded rfl rfl rfl (AStep.indexAddr tabOk rfl rfl rfl rfl rfl rfl (.inl rfl) rfl (by omega) (map_get hx))) ?_
            refine .step rfl (HStep.guarded rfl rfl rfl (AStep.indexAddr tabOk rfl rfl rfl rfl rfl rfl (.inl rfl) rfl (by omega) (map_get hy))) ?_
            exact .step rfl (HStep.litB tabOk rfl (by simp [q2])) .nil
          refine zM ?_
          refine cInv ⟨al.length - (i + 1), i + 1, id, by omega, ⟨by omega, fun j a b hj h1 h2 => ?_, rfl⟩, LessR.of rfl (by (repeat' first | exact FrSub.nil | refine zfc ?_ | refine zfo ?_ | refine zfp ?_)) (by simp) .nil rfl rfl hou⟩
          by_cases e : j = i
          · subst e
            rw [hx] at h1; rw [hy] at h2
            cases h1; cases h2; exact ⟨q1, q2⟩
          · exact hno j a b (by omega) h1 h2
        · have hA : altsLike al t.alts = false := by
            cases hA : altsLike al t.alts with
            | false => rfl
            | true => exact absurd (altsLike_at hA hx hy).2 q2
          rw [hS0, if_pos hA]
          refine zA ?_
          refine ACode.drawX tabOk 37 [(5, .one (.box (cAlt x))), (13, .one (.box (cAlt y))), (16, .one (.lit (.bool false))), (23, .one (.box (cAlt x))), (32, .one (.box (cAlt y))), (36, .one (.lit (.bool true)))] follows (by kernel_rfl) rfl rfl rfl rfl ?_ ?_
          · refine .step rfl (HStep.plain rfl (AStep.indexAddr tabOk rfl rfl rfl rfl rfl rfl (.inl rfl) rfl (by omega) (map_get hx))) ?_
            refine .step rfl (HStep.plain rfl (AStep.indexAddr tabOk rfl rfl rfl rfl rfl rfl (.inl rfl) rfl (by omega) (map_get hy))) ?_
            refine .step rfl (HStep.litB tabOk rfl (by simp [q1])) ?_
            refine .step rfl (HStep.guarded rfl rfl rfl (AStep.indexAddr tabOk rfl rfl rfl rfl rfl rfl (.inl rfl) rfl (by omega) (map_get hx))) ?_
            refine .step rfl (HStep.guarded rfl rfl rfl (AStep.indexAddr tabOk rfl rfl rfl rfl rfl rfl (.inl rfl) rfl (by omega) (map_get hy))) ?_
            exact .step rfl (HStep.litB tabOk rfl (by simp; omega)) .nil
          refine zM ?_
          exact AFn.fin' rfl (WkF.refl _) (by simp) hou ⟨rfl, ck, l, rfl, hm⟩
      · have hA : altsLike al t.alts = false := by
          cases hA : altsLike al t.alts with
          | false => rfl
          | true => exact absurd (altsLike_at hA hx hy).1 q1
        rw [hS0, if_pos hA]
        refine zA ?_
        refine ACode.drawX tabOk 37 [(5, .one (.box (cAlt x))), (13, .one (.box (cAlt y))), (16, .one (.lit (.bool true)))] follows (by kernel_rfl) rfl rfl rfl rfl ?_ ?_
        · refine .step rfl (HStep.plain rfl (AStep.indexAddr tabOk rfl rfl rfl rfl rfl rfl (.inl rfl) rfl (by omega) (map_get hx))) ?_
          refine .step rfl (HStep.plain rfl (AStep.indexAddr tabOk rfl rfl rfl rfl rfl rfl (.inl rfl) rfl (by omega) (map_get hy))) ?_
          exact .step rfl (HStep.litB tabOk rfl (by simp [q1])) .nil
        refine zM ?_
        exact AFn.fin' rfl (WkF.refl _) (by simp) hou ⟨rfl, ck, l, rfl, hm⟩
    have hlt : i = al.length := by simp at hb3; omega
    subst hlt
    have hal2 : altsLike al t.alts = true := altsLike_all fun j a b h1 h2 => hno j a b (List.getElem?_eq_some_iff.1 h1).1 h1 h2
    rw [if_neg (by simp [hal2])] at hS0
    rw [hS0]
    clear hb3 hno
    have hlen := bindersN_len (o := o) e3 e4 hal2
    have hB1 := Binders_ok hΓ (.mk o n bs ks al) hbl hal
    have hB2 := Binders_ok hΓ t htl hta
    have hbn : (bindersN o bs al).length ≤ 4194304 := by
      unfold bindLen at hbl
      simp only [Tr.binds_mk, Tr.alts_mk] at hbl
      unfold bindersN
      rw [List.length_append]
      split
      · omega
      · simp only [List.length_nil]; omega
    simp only [Tr.op_mk, Tr.binds_mk, Tr.alts_mk] at hB1
    rw [← e1] at hB2
    rw [← e1]
    clear hS0
    generalize bindersN o bs al = L1 at hlen hB1 hbn ⊢
    generalize bindersN o t.binds t.alts = L2 at hlen hB2 ⊢
    refine zA ?_
    refine zca hΓ hB1 hou ?_
    refine zA ?_
    refine zca hΓ hB2 hou ?_
    refine zA ?_
    refine ACode.loopR hΓ (α := Nat × Nat × List (Nat × Int × Int)) (fun c => [(183, .one (int c.1)), (182, .one (int (L1.map cI).length)), (11, .one (.sl 1 (L2.map cI))), (10, .one (.sl 1 (L1.map cI))), (2, .one (.mp (.o 0))), (1, .one (.box (cTr t))), (0, .one (.box (cTr (.mk o n bs ks al))))])
      (fun c => ⟨0, [], ouN c.2.1 c.2.2⟩) (fun m' c => c.1 ≤ L1.length ∧ IMOk (putsN m (L1.take c.1) (L2.take c.1)) c.2.1 c.2.2 ∧ m' = L1.length - c.1) (a0 := (0, ck, l)) (ρ := id) ⟨by omega, by simpa [putsN] using hm, rfl⟩ (LessR.of rfl (by (repeat' first | exact FrSub.nil | refine zfc ?_ | refine zfo ?_ | refine zfp ?_)) (by simp) .nil rfl rfl hou) fun m' c hi => ?_
    clear hm hou
    obtain ⟨i, ck, l⟩ := c
    obtain ⟨hil, hm, rfl⟩ := hi
    simp only at hil hm
    have hou : OuOk (ouN ck l) := ouN_ok _ _
    refine zA ?_
    refine ACode.cond rfl (fun hb3 => ?_) (fun hb3 => ?_)
    · have hlt : i < L1.length := by simpa using hb3
      obtain ⟨x, hx⟩ := get_of_lt hlt
      obtain ⟨y, hy⟩ := get_of_lt (l := L2) (i := i) (by omega)
      refine zA ?_
      refine ACode.drawX tabOk 9 [(3, .one (.box (cI x))), (7, .one (.box (cI y)))] follows (by kernel_rfl) rfl rfl rfl rfl ?_ ?_
      · refine .step rfl (HStep.plain rfl (AStep.indexAddr tabOk rfl rfl rfl rfl rfl rfl (.inl rfl) rfl (by omega) (map_get hx))) ?_
        exact .step rfl (HStep.plain rfl (AStep.indexAddr tabOk rfl rfl rfl rfl rfl rfl (.inl rfl) rfl (by omega) (map_get hy))) .nil
      refine AOps.putI eN (v := y) rfl rfl rfl Tryd.underlying90 Tryd.underlying3 rfl rfl rfl rfl hm fun ck' l' hm' => ?_
      refine zM ?_
      refine cInv ⟨L1.length - (i + 1), (i + 1, ck', l'), id, by omega, ⟨by omega, ?_, rfl⟩, LessR.of rfl (by (repeat' first | exact FrSub.nil | refine zfc ?_ | refine zfo ?_ | refine zfp ?_)) (by simp) .nil rfl (ouN_set ck ck' l l').symm (by rw [show (St.set ⟨0, [], ouN ck l⟩ (.o 0) (.map ck' (encI eN l'))).ou = ouN ck' l' from ouN_set ck ck' l l']; exact ouN_ok _ _)⟩
      rw [putsN_succ hx hy]; exact hm'
    have hlt : i = L1.length := by simp at hb3; omega
    subst hlt
    rw [List.take_length, hlen, List.take_length] at hm
    generalize putsN m L1 L2 = m1 at hm ⊢
    clear hb3
    refine zA ?_
    refine ACode.loopR hΓ (α := Nat × Nat × List (Nat × Int × Int)) (fun c => [(201, .one (int c.1)), (200, .one (int (encTrs ks).length)), (2, .one (.mp (.o 0))), (1, .one (.box (cTr t))), (0, .one (.box (cTr (.mk o n bs ks al))))])
      (fun c => ⟨0, [], ouN c.2.1 c.2.2⟩) (fun m' c => c.1 ≤ ks.length ∧ ((sameTs (ks.take c.1) (t.kids.take c.1) m1).1 = true ∧ IMOk (sameTs (ks.take c.1) (t.kids.take c.1) m1).2 c.2.1 c.2.2) ∧ m' = ks.length - c.1) (a0 := (0, ck, l)) (ρ := id) ⟨by omega, ⟨by simp [sameTs], by simpa [sameTs] using hm⟩, rfl⟩ (LessR.of rfl (by (repeat' first | exact FrSub.nil | refine zfc ?_ | refine zfo ?_ | refine zfp ?_)) (by simp) .nil rfl rfl hou) fun m' c hi => ?_
    clear hm hou
    obtain ⟨i, ck, l⟩ := c
    obtain ⟨hil, ⟨hpre, hm⟩, rfl⟩ := hi
    simp only at hil hpre hm
    have hou : OuOk (ouN ck l) := ouN_ok _ _
    refine zA ?_
    refine ACode.cond rfl (fun hb3 => ?_) (fun hb3 => ?_)
    · have hlt : i < ks.length := by simpa using hb3
      obtain ⟨x, hx⟩ := get_of_lt hlt
      obtain ⟨y, hy⟩ := get_of_lt (l := t.kids) (i := i) (by omega)
      have hst := sameTs_snoc hpre hx hy
      have hcall := ih x (List.mem_of_getElem? hx) y (htkk y (List.mem_of_getElem? hy)) _ ck l hm
      refine zA ?_
      refine ACode.drawX tabOk 15 [(5, .one (.box (cB x))), (12, .one (.box (cB y)))] follows (by kernel_rfl) rfl rfl rfl rfl ?_ ?_
      · refine .step rfl (HStep.plain rfl (AStep.indexAddr tabOk rfl rfl rfl rfl rfl rfl (.inl rfl) rfl (by omega) (encTrs_get hx))) ?_
        exact .step rfl (HStep.plain rfl (AStep.indexAddr tabOk rfl rfl rfl rfl rfl rfl (.inl rfl) rfl (by omega) (encTrs_get hy))) .nil
      refine AOps.call1 hΓ rfl rfl rfl rfl rfl rfl rfl (by simp) hou hcall fun r ou' hq hids hou' => ?_
      obtain ⟨rfl, ck', l', rfl, hm'⟩ := hq
      rw [← hst] at hm' ⊢
      refine zM ?_
      refine ACode.cond rfl (fun hb4 => ?_) (fun hb4 => ?_)
      · have hf : (sameTs (ks.take (i + 1)) (t.kids.take (i + 1)) m1).1 = false := by simpa using hb4
        rw [sameTs_stop hf, hf]
        refine zA ?_
        exact AFn.fin' rfl (WkF.refl _) (by simp) hou' ⟨rfl, ck', l', rfl, hm'⟩
      · have hf : (sameTs (ks.take (i + 1)) (t.kids.take (i + 1)) m1).1 = true := by simpa using hb4
        refine zM ?_
        exact cInv ⟨ks.length - (i + 1), (i + 1, ck', l'), id, by omega, ⟨by omega, ⟨hf, hm'⟩, rfl⟩, LessR.of rfl (by (repeat' first | exact FrSub.nil | refine zfc ?_ | refine zfo ?_ | refine zfp ?_)) (by simp) .nil rfl rfl hou'⟩
    · have hlt : i = ks.length := by simp at hb3; omega
      subst hlt
      rw [List.take_length, e2, List.take_length] at hm hpre
      rw [hpre]
      refine zA ?_
      exact AFn.fin' rfl (WkF.refl _) (by simp) hou ⟨rfl, ck, l, rfl, hm⟩
end Go.Proofs.YtgdionbeeodaaaaDoor
namespace Go.Proofs.YtgdionbeeodaaaaDoor
open Go Go.Abs Go.CoreX
set_option maxRecDepth 10000
variable {Γ : List (Nat × List AC)}
theorem SameTree_x (hΓ : ∀ g cs, (g, cs) ∈ Γ → idsL isO cs) (hΓF : ∀ g cs, (g, cs) ∈ Γ → idsL (fun _ => False) cs) (a b : Tr) (ha : okT a) (hb : okT b) :
    APure Tryd.prog Γ 52 [.one (.box (cTr a)), .one (.box (cTr b))] (.one (.lit (.bool (sameTree a b)))) := by
  intro ou
  refine AFn.walk 9 tabOk Tryd.func52 rfl (by kernel_rfl) rfl rfl fun hou => ?_
  refine zA ?_
  refine AOps.step1 rfl rfl rfl (AStep.makeMap rfl) ?_
  refine AOps.callR [.l 0] [.one (.box (cTr a)), .one (.box (cTr b)), .one (.mp (.o 0))] [.map 0 (encI eN [])] hΓF rfl rfl rfl rfl rfl rfl ?_ ?_ ?_ ?_ ?_ (sameX_ok hΓ a ha b hb (fun _ => none) 0 [] IMOk.nil) ?_
  · simp [subF, FV.sub, AC.sub, nameOf]
    exact ⟨(subL_pure _ _ (by simp)).symm, (subL_pure _ _ (by simp)).symm⟩
  · simp [inO]
  · simp
  · exact ⟨rfl, trivial⟩
  · simp [inO]
  intro r ou' hq
  obtain ⟨rfl, ck', l', rfl, hm⟩ := hq
  refine ⟨[.map ck' (encI eN l')], rfl, rfl, by simp [inO], by simp, ?_⟩
  rw [show FV.sub (nameOf [.l 0]) (.one (.lit (.bool (sameT a b fun _ => none).1))) = .one (.lit (.bool (sameTree a b))) from rfl]
  refine zA ?_
  exact APure.fin rfl (WkF.ofEq rfl) (by simp) hou rfl
theorem Same_x (e f : List Ex) (he : okB e) (hf : okB f) (h1 : check e = 0) (h2 : check f = 0) : APure Tryd.prog Γc 21 [.one (.sl 5 (e.map cEx)), .one (.sl 5 (f.map cEx))] (.one (.lit (.bool (same e f)))) := by
  have hs : same e f = sameTree (grow e) (grow f) := by simp [same, h1, h2]
  rw [hs]
  have t1 := body_isTree h1
  have t2 := body_isTree h2
  have c1 := Check_ok e he
  have c2 := Check_ok f hf
  rw [h1] at c1
  rw [h2] at c2
  intro ou
  refine AFn.walk 20 tabOk Tryd.func21 rfl (by kernel_rfl) rfl rfl fun hou => ?_
  refine zA ?_
  refine zca hΓc c1 hou ?_
  refine zM ?_
  refine zca hΓc c2 hou ?_
  refine zM ?_
  refine zca hΓc (Grow_ok hΓc e he.eo t1.k t1.ne) hou ?_
  refine zM ?_
  refine zca hΓc (Grow_ok hΓc f hf.eo t2.k t2.ne) hou ?_
  refine zM ?_
  refine zca hΓc (SameTree_x hΓc hΓcF (grow e) (grow f) (he.t t1.k t1.ne) (hf.t t2.k t2.ne)) hou ?_
  refine zM ?_
  exact APure.fin rfl (WkF.ofEq rfl) (by simp) hou rfl
end Go.Proofs.YtgdionbeeodaaaaDoor
namespace Go.CoreX
theorem unlike_no {o : Int} {k b a : Nat} {t : Tr} (h : unlike o k b a t = false) : o = t.op ∧ k = t.kids.length := by
  unfold unlike at h
  simp only [Bool.not_eq_false', Bool.and_eq_true, beq_iff_eq] at h
  exact ⟨h.1.1.1, h.1.1.2⟩
mutual
theorem same_cnt : ∀ (a t : Tr) (m : Nm), allT shLab a → (sameT a t m).1 = true → cntN a = cntN t
  | .mk o n b k a, t, m, hs, h => by
    have hk := cntNs_kids t
    simp only [cntN]
    unfold sameT at h
    split at h
    · cases h
    rename_i hu
    obtain ⟨h1, h2⟩ := unlike_no (by simpa using hu)
    split at h
    · rename_i h0
      have hke : k = [] := by
        have := (hs.1.v h0).2
        simpa using this
      subst hke
      have : t.kids = [] := List.length_eq_zero_iff.1 h2.symm
      rw [this] at hk
      simp only [cntNs] at hk ⊢; omega
    split at h
    · cases h
    split at h
    · cases h
    have := same_cnts k t.kids _ h2 hs.2 h
    omega
theorem same_cnts : ∀ (l r : List Tr) (m : Nm), l.length = r.length → allTs shLab l → (sameTs l r m).1 = true → cntNs l = cntNs r
  | [], [], _, _, _, _ => rfl
  | [], _ :: _, _, h, _, _ => by simp at h
  | _ :: _, [], _, h, _, _ => by simp at h
  | a :: l, b :: r, m, hl, hs, h => by
    unfold sameTs at h
    simp only at h
    split at h
    · rename_i h1
      have e1 := same_cnt a b m hs.1 h1
      have e2 := same_cnts l r _ (by simpa using hl) hs.2 h
      simp only [cntNs, e1, e2]
    · cases h
end
theorem replay_renew {e : List Ex} (h : check e = 0) {f : Int} (h0 : 0 ≤ f) (h1 : (rnT nmN f (grow e)).2.2 ≤ 1048576) : same (listT [] (grow e)) (listT [] (rnT nmN f (grow e)).1) = true := by
  have := same_rn h h0 h1
  unfold same at this ⊢
  rw [grow_list, check_list h]
  simp only [Bool.and_eq_true, beq_iff_eq] at this
  simp [this.1.2, this.2]
theorem replay_longer {e : List Ex} (h : check e = 0) {id w : Int} : same (listT [] (grow e)) (listT [] (addT id w (grow e))) = false := by
  cases hs : same (listT [] (grow e)) (listT [] (addT id w (grow e))) with
  | false => rfl
  | true =>
    unfold same sameTree at hs
    rw [grow_list, grow_list] at hs
    simp only [Bool.and_eq_true] at hs
    have := same_cnt _ _ _ (check_shape h) hs.2
    simp [addT, cntN, cntNs, wordT] at this
    omega
end Go.CoreX
namespace Go.Proofs.YtgdionbeeodaaaaDoor
open Go Go.Abs Go.CoreX
set_option maxRecDepth 10000
theorem Replay_bad (e : List Ex) (he : okB e) (hce : check e ≠ 0) (l : List Step3) (f : List Ex) :
    APure Tryd.prog Γc 26 [.one (.sl 5 (e.map cEx)), .one (.sl 5 (f.map cEx)), .one (.sl 3 (l.map cS))] (.one (int (check e))) := by
  have c1 := Check_ok e he
  intro ou
  refine AFn.walk 49 tabOk Tryd.func26 rfl (by kernel_rfl) rfl rfl fun hou => ?_
  refine zA ?_
  refine zca hΓc c1 hou ?_
  refine zA ?_
  refine ACode.cond rfl (fun hb => ?_) (fun hb => absurd hb (by simpa using hce))
  refine zM ?_
  exact APure.fin rfl (WkF.ofEq rfl) (by simp) hou rfl
theorem put1_ok (t : Tr) (id : Int) : APure Tryd.prog Γc 27 [.one (.box (cNd t)), .one (int id)] (.one (.box (cNd (addT id 1 t)))) := by
  intro ou
  refine AFn.walk 11 tabOk Tryd.func27 rfl (by kernel_rfl) rfl rfl fun hou => ?_
  refine zA ?_
  refine zca hΓc (W_ok hΓc 1) hou ?_
  refine zA ?_
  refine AOps.callC hΓc (B_ok (Γ := Γc) 4 [id] [.mk 1 1 [] [] [], t]) rfl rfl rfl rfl rfl rfl (by rw [encNds_eq]; rfl) hou (by simp) ?_
  refine zA ?_
  exact APure.fin rfl (WkF.ofEq rfl) (by simp) hou rfl
theorem ReplayRenamed_ok (e : List Ex) (he : okB e) (n : Int) : APure Tryd.prog Γc 6 [.one (.sl 5 (e.map cEx)), .one (int n)] (.one (.lit (.bool true))) := by
  have c1 := Check_ok e he
  have hr := Renew_ok e he ((if n > 0 then n else 0).tmod 3000)
  have hf0 : 0 ≤ (if n > 0 then n else 0).tmod 3000 := Int.tmod_nonneg _ (by split <;> omega)
  have hlt : (if n > 0 then n else 0).tmod 3000 < 3000 := Int.tmod_lt_of_pos _ (by decide)
  generalize hfr : (if n > 0 then n else 0).tmod 3000 = fr at hr hf0 hlt
  intro ou
  refine AFn.walk 50 tabOk Tryd.func6 rfl (by kernel_rfl) rfl rfl fun hou => ?_
  refine zM ?_
  refine AOps.step1 rfl rfl rfl (AStep.rem rfl rfl rfl (by decide)) ?_
  rw [hfr]
  by_cases hce : check e ≠ 0
  · rw [show renewE e fr = ([], check e) by unfold renewE; rw [if_pos hce]] at hr
    have hbad := Replay_bad e he hce [] e
    refine zca hΓc hr hou ?_
    refine zA ?_
    refine ACode.cond rfl (fun hb => ?_) (fun hb => absurd hb (by simpa using hce))
    refine zA ?_
    refine zca hΓc replayFact_ok hou ?_
    refine zM ?_
    refine AOps.callCW (ws := [.one (.sl 5 (e.map cEx)), .one (.sl 5 (e.map cEx)), .one (.sl 3 (([] : List Step3).map cS))]) hΓc hbad rfl rfl rfl rfl rfl rfl ?_ hou (by simp) ?_
    · exact .cons (.refl _) (.cons (.refl _) (.cons (.one (.nilS 3)) .nil))
    refine zM ?_
    refine zca hΓc c1 hou ?_
    refine zM ?_
    exact APure.fin rfl (WkF.ofEq (by simp)) (by simp) hou rfl
  have hce : check e = 0 := by simpa using hce
  have hend := rnT_end (grow e) nmN fr
  have hsm := nb_small hce
  have hle : (rnT nmN fr (grow e)).2.2 ≤ 1048576 := by omega
  rw [show renewE e fr = (listT [] (rnT nmN fr (grow e)).1, 0) by
    unfold renewE
    rw [if_neg (by simpa using hce), if_neg (by omega)]
    exact if_neg (show ¬ 1048576 < (rnT nmN fr (grow e)).2.2 by omega)] at hr
  have hfb := okB_rn he hce nmN fr
  have hfc := check_rn hce hf0 hle
  have hob := order_okB' he hce
  have hsame := replay_renew hce hf0 hle
  generalize (listT [] (rnT nmN fr (grow e)).1) = f at hr hfb hfc hsame
  have hrep := Replay_ok e f he hfb [] (by simp) (by simp) hce hfc (listT [] (grow e)) rfl true (Same_ok _ f hob hfb hsame)
  have hT : check e = 0 → e.length ≤ 1500 → okT (addT (mostB e + 1) 1 (grow e)) ∧ cntN (addT (mostB e + 1) 1 (grow e)) ≤ 1048576 := fun h hl => by
    have t1 := body_isTree h
    have h1 := he.t t1.k t1.ne
    refine ⟨by simp [addT, wordT, okT, okTs, h1], ?_⟩
    have h2 := len_list h
    have h3 := cntN_list (grow e) []
    simp only [List.length_nil] at h3
    simp [addT, wordT, cntN, cntNs]; omega
  have ha := around_ok e he 27 [] (by simp) (addT (mostB e + 1) 1 (grow e)) hT (put1_ok (grow e) (mostB e + 1))
  refine zca hΓc hr hou ?_
  refine zA ?_
  refine AOps.callC hΓc ha rfl rfl rfl rfl rfl rfl rfl hou (by simp [idsF]) ?_
  by_cases hA : check e ≠ 0 ∨ 1500 < e.length ∨ 1048576 ≤ mostB e + 9
  · rw [show arE e (addT (mostB e + 1) 1 (grow e)) = ([], false) by unfold arE; rw [if_pos hA]]
    refine zA ?_
    refine zca hΓc replayFact_ok hou ?_
    refine zM ?_
    refine AOps.callCW (ws := [.one (.sl 5 (e.map cEx)), .one (.sl 5 (f.map cEx)), .one (.sl 3 (([] : List Step3).map cS))]) hΓc hrep rfl rfl rfl rfl rfl rfl ?_ hou (by simp) ?_
    · exact .cons (.refl _) (.cons (.refl _) (.cons (.one (.nilS 3)) .nil))
    refine zM ?_
    exact APure.fin rfl (WkF.ofEq rfl) (by simp) hou rfl
  have hl : e.length ≤ 1500 := by
    by_cases hl : e.length ≤ 1500
    · exact hl
    · exact absurd (.inr (.inl (by omega))) hA
  obtain ⟨hT1, hT2⟩ := hT hce hl
  have hhb : okB (listT [] (addT (mostB e + 1) 1 (grow e))) := okB_list (okT_pOk _ hT1) hT2
  rw [show arE e (addT (mostB e + 1) 1 (grow e)) = (listT [] (addT (mostB e + 1) 1 (grow e)), check (listT [] (addT (mostB e + 1) 1 (grow e))) == 0) by unfold arE; rw [if_neg hA]]
  have hno := replay_longer hce (id := mostB e + 1) (w := 1)
  generalize listT [] (addT (mostB e + 1) 1 (grow e)) = h at hhb hno
  by_cases hhc : check h = 0
  · have hrep2 := Replay_ok e h he hhb [] (by simp) (by simp) hce hhc (listT [] (grow e)) rfl false (by
      have := Same_x _ h hob hhb (check_list hce) hhc
      rwa [hno] at this)
    rw [show (check h == 0) = true by simp [hhc]]
    refine zA ?_
    refine zca hΓc replayFact_ok hou ?_
    refine zM ?_
    refine AOps.callCW (ws := [.one (.sl 5 (e.map cEx)), .one (.sl 5 (f.map cEx)), .one (.sl 3 (([] : List Step3).map cS))]) hΓc hrep rfl rfl rfl rfl rfl rfl ?_ hou (by simp) ?_
    · exact .cons (.refl _) (.cons (.refl _) (.cons (.one (.nilS 3)) .nil))
    refine zM ?_
    refine AOps.callCW (ws := [.one (.sl 5 (e.map cEx)), .one (.sl 5 (h.map cEx)), .one (.sl 3 (([] : List Step3).map cS))]) hΓc hrep2 rfl rfl rfl rfl rfl rfl ?_ hou (by simp) ?_
    · exact .cons (.refl _) (.cons (.refl _) (.cons (.one (.nilS 3)) .nil))
    refine zM ?_
    exact APure.fin rfl (WkF.ofEq rfl) (by simp) hou rfl
  · rw [show (check h == 0) = false by simp [hhc]]
    refine zA ?_
    refine zca hΓc replayFact_ok hou ?_
    refine zM ?_
    refine AOps.callCW (ws := [.one (.sl 5 (e.map cEx)), .one (.sl 5 (f.map cEx)), .one (.sl 3 (([] : List Step3).map cS))]) hΓc hrep rfl rfl rfl rfl rfl rfl ?_ hou (by simp) ?_
    · exact .cons (.refl _) (.cons (.refl _) (.cons (.one (.nilS 3)) .nil))
    refine zM ?_
    exact APure.fin rfl (WkF.ofEq rfl) (by simp) hou rfl
end Go.Proofs.YtgdionbeeodaaaaDoor
namespace Go.Proofs.YtgdionbeeodaaaaDoor
open Go Go.Abs Go.CoreX
set_option maxRecDepth 10000
theorem bulkAll_eq {H : Type} : ∀ l : List (DataW H), Rows.uptoBulkAll l = bulkAll Rows.uptoBulk l
  | [] => rfl
  | d :: l => by simp only [Rows.uptoBulkAll, bulkAll, List.map_cons, List.sum_cons] at *; rw [bulkAll_eq l]; rfl
theorem bulk_agg {H : Type} (l : List (DataW H)) : bulkAll Rows.uptoBulk l + 1 ≤ Rows.uptoBulk (.agg l) := by
  simp only [Rows.uptoBulk, bulkAll_eq]; omega
theorem bulk_slice {H : Type} (l r : List (DataW H)) : bulkAll Rows.uptoBulk l + 1 ≤ Rows.uptoBulk (.slice l r) := by
  simp only [Rows.uptoBulk, bulkAll_eq]; omega
theorem bulk_nil {H : Type} : 1 ≤ Rows.uptoBulk (DataW.nil : DataW H) := by simp [Rows.uptoBulk]
section
variable {H : Type} {enc : TypeId × Value → H} {w : World}
abbrev I64 := {i : Int // IntKind.i64.min ≤ i ∧ i ≤ IntKind.i64.max}
theorem opens_int (n : Nat) : Opens enc Tryd.prog w Rows.uptoBulk 3 n (fun i : I64 => [int i.1]) (fun _ => 1) := by
  intro cs x h
  obtain ⟨i, rfl, rfl, hw⟩ := DataW.trod_int Tryd.underlying3 h
  refine ⟨⟨i, ?_⟩, ⟨_, _, rfl, ⟨rfl, rfl⟩, rfl⟩, by simp [Rows.uptoBulk]⟩
  simpa [Lit.wf] using hw
theorem opens_slice {t e : TypeId} {s : Nat} (ht : Tryd.prog.underlying t = some (.slice e)) (hs : Tryd.prog.cellsOf e = s) (h0 : 0 < s) {α : Type} {c : α → List AC} {wt : α → Nat} (n : Nat) (he : ∀ m, m < n → Opens enc Tryd.prog w Rows.uptoBulk e m c wt) :
    Opens enc Tryd.prog w Rows.uptoBulk t n (fun l : List α => [.sl s (l.map c)]) (fun l => wtAll wt l + 1) := by
  cases n with
  | zero => exact Opens.zero
  | succ n => exact Opens.slice bulk_slice bulk_nil ht hs h0 (he n (by omega))
theorem wt_one {α : Type} (l : List α) : wtAll (fun _ => 1) l = l.length := by
  unfold wtAll
  induction l with
  | nil => rfl
  | cons a l ih => simp only [List.map_cons, List.sum_cons, List.length_cons, ih]; omega
theorem opens_ints (n : Nat) : Opens enc Tryd.prog w Rows.uptoBulk 35 n (fun l : List Int => [.sl 1 (l.map cI)]) (fun l => l.length + 1) := by
  refine Opens.as (opens_slice Tryd.underlying35 (s := 1) (by kernel_rfl) (by omega) n (fun m _ => opens_int m)) fun l => ⟨l.map (·.1), ?_, ?_⟩
  · simp only [List.map_map]; rfl
  · rw [wt_one]; simp
def bAlt (a : Alt) : Nat := a.binds.length + 3
def bAlts (l : List Alt) : Nat := (l.map bAlt).sum
def bEx (x : Ex) : Nat := x.binds.length + x.kids.length + bAlts x.alts + 6
def bExs (l : List Ex) : Nat := (l.map bEx).sum
theorem opensAlt (n : Nat) : Opens enc Tryd.prog w Rows.uptoBulk 89 n cAlt bAlt := by
  cases n with
  | zero => exact Opens.zero
  | succ n =>
    refine Opens.as (Opens.struct bulk_agg Tryd.underlying89 (.cons rfl (by kernel_rfl) (opens_int n) (fun _ => rfl) (.cons rfl (by kernel_rfl) (opens_ints n) (fun _ => rfl) (.nil _))) (fun _ => (show (2 : Nat) = _ by kernel_rfl))) ?_
    rintro ⟨i, l, _⟩
    exact ⟨⟨i.1, l⟩, rfl, by show l.length + 3 ≤ 1 + (l.length + 1 + 0) + 1; omega⟩
theorem opensEx (n : Nat) : Opens enc Tryd.prog w Rows.uptoBulk 53 n cEx bEx := by
  cases n with
  | zero => exact Opens.zero
  | succ n =>
    have ha := opens_slice (enc := enc) (w := w) (t := 51) Tryd.underlying51 (s := 2) (by kernel_rfl) (by omega) n (fun m _ => opensAlt m)
    refine Opens.as (Opens.struct bulk_agg Tryd.underlying53 (.cons rfl (by kernel_rfl) (opens_int n) (fun _ => rfl) (.cons rfl (by kernel_rfl) (opens_int n) (fun _ => rfl) (.cons rfl (by kernel_rfl) (opens_ints n) (fun _ => rfl) (.cons rfl (by kernel_rfl) (opens_ints n) (fun _ => rfl) (.cons rfl (by kernel_rfl) ha (fun _ => rfl) (.nil _)))))) (fun _ => (show (5 : Nat) = _ by kernel_rfl))) ?_
    rintro ⟨i, j, b, k, l, _⟩
    refine ⟨⟨i.1, j.1, b, k, l⟩, rfl, ?_⟩
    show b.length + k.length + bAlts l + 6 ≤ 1 + (1 + (b.length + 1 + (k.length + 1 + (wtAll bAlt l + 1 + 0)))) + 1
    have : wtAll bAlt l = bAlts l := rfl
    omega
theorem opensExs (n : Nat) : Opens enc Tryd.prog w Rows.uptoBulk 22 n (fun l : List Ex => [.sl 5 (l.map cEx)]) (fun l => bExs l + 1) :=
  opens_slice Tryd.underlying22 (s := 5) (by kernel_rfl) (by omega) n (fun m _ => opensEx m)
theorem rf_slice {t e : TypeId} {base : Nat} {r : Reach} {W : World} {v : Value} {C : Ctx} {c : AC} (ht : Tryd.prog.underlying t = some (.slice e)) (h : Value.okWide Tryd.prog W r base t v) (hr : RV W C [c] v.cells.toList) : RF W C (.one c) v := by
  obtain ⟨a, len, cap, rfl⟩ := WideShapes.okWide_slice ht h
  obtain ⟨u, us, he, h1, h2⟩ := hr
  simp [Value.cells] at he
  obtain ⟨rfl, rfl⟩ := he
  exact h1
end
theorem sum_mem {α : Type} {f : α → Nat} : ∀ {l : List α} {a : α}, a ∈ l → f a ≤ (l.map f).sum
  | b :: l, a, h => by
    simp only [List.map_cons, List.sum_cons]
    rcases List.mem_cons.1 h with rfl | h
    · omega
    · have := sum_mem (f := f) h; omega
theorem sum_len {α : Type} {f : α → Nat} (hf : ∀ a, 1 ≤ f a) : ∀ l : List α, l.length ≤ (l.map f).sum
  | [] => by simp
  | b :: l => by
    have h1 := hf b
    have h2 := sum_len hf l
    simp only [List.map_cons, List.sum_cons, List.length_cons]; omega
theorem bAlts_flat : ∀ l : List Alt, (l.flatMap (·.binds)).length ≤ bAlts l
  | [] => by simp [bAlts]
  | a :: l => by
    have := bAlts_flat l
    simp only [bAlts, bAlt, List.flatMap_cons, List.length_append, List.map_cons, List.sum_cons] at *
    omega
theorem okB_of {e : List Ex} (h : bExs e ≤ 1048576) : okB e := by
  have h1 := sum_len (f := bEx) (fun x => by simp only [bEx]; omega) e
  have hx : ∀ x ∈ e, bEx x ≤ 1048576 := fun x hx => by
    have h2 : bEx x ≤ bExs e := sum_mem hx
    omega
  have h1' : e.length ≤ bExs e := h1
  refine ⟨⟨by omega, fun x hx1 => ?_⟩, fun x hx1 => ?_⟩
  · have h2 := hx x hx1
    simp only [bEx] at h2
    have h3 := sum_len (f := bAlt) (fun a => by simp only [bAlt]; omega) x.alts
    have h3' : x.alts.length ≤ bAlts x.alts := h3
    refine ⟨by omega, by omega, by omega, fun a ha => ?_⟩
    have h4 : bAlt a ≤ bAlts x.alts := sum_mem ha
    simp only [bAlt] at h4
    omega
  · have h2 := hx x hx1
    simp only [bEx] at h2
    have h3 := bAlts_flat x.alts
    omega
theorem arity_cells {W : World} (h : laidMetH Tryd.prog [("provenance/core.arity", Rows.laid_provenance_core_arity)] W) : ∀ g cs, (g, cs) ∈ Γc → RG W (ctx0 W) cs g := by
  have ht : Lib.TabIs Tryd.prog W "provenance/core.arity" .i64 [2, 2, 2, 2, 2, 2, 2, 1, 2, 1, 2, 3] :=
    Lib.tabIs_of_head (rest := []) (g := 1) (t := 158) (n := 12) (by kernel_rfl) (by kernel_rfl) (by kernel_rfl) Tryd.underlying3 (by kernel_rfl) (by kernel_rfl) h
  have hg : Tryd.prog.globalNamed "provenance/core.arity" = some 1 := by kernel_rfl
  intro g cs hm
  simp [Γc] at hm
  obtain ⟨rfl, rfl⟩ := hm
  exact RG.ofVar hg ht rfl
end Go.Proofs.YtgdionbeeodaaaaDoor
