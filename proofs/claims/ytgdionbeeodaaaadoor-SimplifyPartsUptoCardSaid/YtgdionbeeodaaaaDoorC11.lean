/- The nodes of an expression as own trees: open, walked. -/
import Derived.Test.YtgdionbeeodaaaaDoorC10
import Derived.Test.YtgdionbeeodaaaaDoorRows
import Derived.Lib.LaidTab
set_option linter.unusedVariables false
set_option linter.unusedSimpArgs false
namespace Go.Proofs.YtgdionbeeodaaaaDoor
open Go Go.Abs Go.CoreX
set_option maxRecDepth 10000
variable {Γ : List (Nat × List AC)}
def OpenQ (e : List Ex) (ou : Outer) (r : FV) (ou' : Outer) : Prop := ∃ (lts : List LTr) (root : LTr), r = .one (.box [.sl 1 (kC lts), .ptr (.o root.id) 0]) ∧ LinkL e lts plainB ∧ lts[e.length - 1]? = some root ∧ NewO ou ou' (lts.flatMap ownO)
abbrev wO (lts : List LTr) : AObj := .cells [.gs 1 (kC lts) (.l 1), .lit (.pointer none)]
set_option maxHeartbeats 2000000 in
theorem open_ok (hΓ : ∀ g cs, (g, cs) ∈ Γ → idsL isO cs) (e : List Ex) (he : okE e) (hin : kidsIn e) (hne : e ≠ []) (ou : Outer) : AFn Tryd.prog Γ 46 [.one (.sl 5 (e.map cEx))] ou (OpenQ e ou) := by
  have hel := he.l
  refine AFn.walk 99 tabOk Tryd.func46 rfl (by kernel_rfl) rfl rfl fun hou => ?_
  refine zA ?_
  refine ACode.grow 0 0 70 1 rfl rfl ?_
  refine ACode.loopR hΓ (α := Nat × List LTr × Outer) (fun c => [(15, .one (int c.1)), (14, .one (int (e.map cEx).length)), (13, .one (.sl 5 (e.map cEx))), (3, .one (.ptr (.l 0) 0)), (0, .one (.sl 5 (e.map cEx)))])
    (fun c => ⟨2, [(1, .tok 70 1 c.1), (0, wO c.2.1)], c.2.2⟩) (fun m c => c.1 ≤ e.length ∧ (LinkL (e.take c.1) c.2.1 plainB ∧ NewO ou c.2.2 (c.2.1.flatMap ownO)) ∧ m = e.length - c.1) (a0 := (0, [], ou)) (ρ := id) ⟨by omega, ⟨LinkL.nil, .nil hou⟩, rfl⟩
    (LessR.of rfl (by (repeat' first | exact FrSub.nil | refine zfc ?_ | refine zfo ?_ | refine zfp ?_)) (by simp) (by repeat' first | exact LoSub.nil | refine zlc ?_ | refine zld ?_ ?_ | rfl) rfl rfl hou) fun m c hc => ?_
  obtain ⟨j, lts, ov⟩ := c
  obtain ⟨hjl, ⟨hL, hN⟩, rfl⟩ := hc
  dsimp only at hjl hL hN
  have hov := hN.ok
  refine zA ?_
  refine ACode.cond rfl (fun hb2 => ?_) (fun hb2 => ?_)
  · have hlt : j < e.length := by simpa using hb2
    obtain ⟨x, hx⟩ := get_of_lt hlt
    have hxo := he.x x (List.mem_of_getElem? hx)
    have hxk := hxo.k
    have hxa := hxo.a
    have hxb := hxo.b
    have hxin := hin j x hx
    have hgl : lts.length = j := by rw [hL.len]; simp; omega
    have hkcl : (kC lts).length = j := by rw [kC_len, hgl]
    refine zA ?_
    refine AOps.step1 rfl rfl rfl (AStep.indexAddr tabOk rfl rfl rfl rfl rfl rfl (.inl rfl) rfl (by omega) (map_get hx)) ?_
    refine zA ?_
    refine ACode.drawC tabOk 9 [6, 7, 8] [] (fun vs σ => match vs with
        | [] => σ = ⟨3, [(2, .cells (cEx x)), (2, .cells (ti53.zero.map .lit)), (1, .tok 70 1 j), (0, wO lts)], ov⟩
        | [a] => a = .one (.sl 1 (x.binds.map cI)) ∧ σ = ⟨4, (3, .dead) :: [(2, .cells (cEx x)), (2, .cells (ti53.zero.map .lit)), (1, .tok 70 1 j), (0, wO lts)], ov⟩
        | [a, b] => a = .one (.sl 1 (x.binds.map cI)) ∧ b = .agg [int x.op, int x.n, .sl 1 (x.binds.map cI), .lit (.slice none 0 0), .lit (.slice none 0 0)] ∧ σ = ⟨4, (3, .dead) :: [(2, .cells (cEx x)), (2, .cells (ti53.zero.map .lit)), (1, .tok 70 1 j), (0, wO lts)], ov⟩
        | [a, b, c] => a = .one (.sl 1 (x.binds.map cI)) ∧ b = .agg [int x.op, int x.n, .sl 1 (x.binds.map cI), .lit (.slice none 0 0), .lit (.slice none 0 0)] ∧ c = .one (.ptr (.l 4) 0) ∧ σ = ⟨5, (4, .cells [int x.op, int x.n, .sl 1 (x.binds.map cI), .lit (.slice none 0 0), .lit (.slice none 0 0)]) :: (3, .dead) :: [(2, .cells (cEx x)), (2, .cells (ti53.zero.map .lit)), (1, .tok 70 1 j), (0, wO lts)], ov⟩
        | _ => False) follows (by kernel_rfl) rfl rfl (by decide) (by kernel_rfl) (by kernel_rfl) rfl rfl ?_ (fun _ _ _ => .nil) (by decide) ?_ ?_
    · rintro vs σ hG
      match vs, hG with
      | [], hG => subst hG; rfl
      | [a], hG => obtain ⟨_, rfl⟩ := hG; rfl
      | [a, b], hG => obtain ⟨_, _, rfl⟩ := hG; rfl
      | [a, b, c], hG => obtain ⟨_, _, _, rfl⟩ := hG; rfl
    · rintro vs σ hG i o hp1 hp2
      match vs, hG with
      | [], hG =>
        subst hG
        cases hp1
        cases hp2
        refine ⟨rfl, rfl, .inr ⟨rfl, ?_⟩⟩
        intro F w C tmps hI hF next Q hk
        refine AStepR.appCopyS (news := x.binds.map cI) tabOk rfl rfl rfl rfl rfl rfl rfl (by simp; show _ * 8 ≤ _; omega) (by simp; omega) F w C tmps hI hF next Q fun u w' C' v σ' hq => hk u w' C' v σ' ?_
        obtain ⟨rfl, rfl⟩ := hq
        exact ⟨rfl, rfl⟩
      | [a], hG =>
        obtain ⟨rfl, rfl⟩ := hG
        cases hp1
        cases hp2
        exact ⟨rfl, rfl, .inl ⟨_, _, HStep.auto tabOk rfl, rfl, rfl, rfl⟩⟩
      | [a, b], hG =>
        obtain ⟨rfl, rfl, rfl⟩ := hG
        cases hp1
        cases hp2
        exact ⟨rfl, rfl, .inl ⟨_, _, HStep.auto tabOk rfl, rfl, rfl, rfl, rfl⟩⟩
      | [a, b, c], hG => cases hp1
    rintro vs σ hlen hG
    match vs, hlen, hG with
    | [a, b, c], _, hG =>
    obtain ⟨rfl, rfl, rfl, rfl⟩ := hG
    refine zA ?_
    refine ACode.grow 4 3 70 1 rfl rfl ?_
    refine ACode.loopR hΓ (α := Nat) (fun i => [(31, .one (int i)), (30, .one (int (x.kids.map cI).length)), (29, .one (.sl 1 (x.kids.map cI))), (6, .one (.ptr (.l 3) 0)), (5, .one (.ptr (.l 2) 0)), (3, .one (.ptr (.l 0) 0)), (15, .one (int j)), (14, .one (int (e.map cEx).length)), (13, .one (.sl 5 (e.map cEx))), (0, .one (.sl 5 (e.map cEx)))])
      (fun i => ⟨5, [(4, .tok 70 1 i), (3, .cells [int x.op, int x.n, .sl 1 (x.binds.map cI), .gs 1 (kC (kidsL lts (x.kids.take i))) (.l 4), .lit (.slice none 0 0)]), (2, .cells (cEx x)), (1, .tok 70 1 j), (0, wO lts)], ov⟩)
      (fun m i => i ≤ x.kids.length ∧ m = x.kids.length - i) (a0 := 0) (ρ := fun k => if k = 3 then 4 else if k = 4 then 5 else k) ⟨by omega, rfl⟩ (LessR.of rfl (by (repeat' first | exact FrSub.nil | refine zfc ?_ | refine zfo ?_ | refine zfp ?_)) (by simp) ?_ rfl rfl hov) fun m i hi => ?_
    · repeat' first | exact LoSub.nil | refine zlc ?_ | refine zld ?_ ?_ | rfl
      all_goals (simp [AObj.ren, renL, AC.ren, kidsL]; exact ⟨rfl, rfl⟩)
    obtain ⟨hil, rfl⟩ := hi
    refine zA ?_
    refine ACode.cond rfl (fun hb3 => ?_) (fun hb3 => ?_)
    · have hlt2 : i < x.kids.length := by simpa using hb3
      obtain ⟨k, hk⟩ := get_of_lt hlt2
      have hkb := hxin k (List.mem_of_getElem? hk)
      obtain ⟨k', rfl⟩ : ∃ k' : Nat, k = k' := ⟨k.toNat, by omega⟩
      obtain ⟨tk, htk⟩ := get_of_lt (l := lts) (i := k') (by omega)
      have htd : (lts).getD (k' : Int).toNat default = tk := by rw [Int.toNat_natCast, List.getD_eq_getElem?_getD, htk]; rfl
      have hks := kidsL_succ (ts := lts) hk
      rw [htd] at hks
      have hkl : (kC (kidsL lts (x.kids.take i))).length = i := by simp [kC, kidsL]; omega
      refine zA ?_
      refine AOps.step1 rfl rfl rfl (AStep.indexAddr tabOk rfl rfl rfl rfl rfl rfl (.inl rfl) rfl (by omega) (map_get hk)) ?_
      refine zA ?_
      refine ACode.drawXH (va := .one (.gs 1 (kC (kidsL lts (x.kids.take i)) ++ [[AC.ptr (.o tk.id) 0]]) (.l 5))) (σ1 := ((St.mk 5 [(4, .tok 70 1 i), (3, .cells [int x.op, int x.n, .sl 1 (x.binds.map cI), .gs 1 (kC (kidsL lts (x.kids.take i))) (.l 4), .lit (.slice none 0 0)]), (2, .cells (cEx x)), (1, .tok 70 1 j), (0, wO lts)] ov).set (.l 4) .dead).push (.tok 70 1 (kC (kidsL lts (x.kids.take i)) ++ [[AC.ptr (.o tk.id) 0]]).length))
        tabOk 14 13 [(10, .one (.box [.ptr (.o tk.id) 0]))] follows (by kernel_rfl) rfl rfl rfl rfl rfl rfl rfl ?_ ?_ ?_ ?_
      · refine HStep.plain rfl (AStep.append (s := 1) (es := kC (kidsL lts (x.kids.take i))) (news := [[AC.ptr (.o tk.id) 0]]) (ti := ti71) (σ := ⟨5, [(4, .tok 70 1 i), (3, .cells [int x.op, int x.n, .sl 1 (x.binds.map cI), .gs 1 (kC (kidsL lts (x.kids.take i))) (.l 4), .lit (.slice none 0 0)]), (2, .cells (cEx x)), (1, .tok 70 1 j), (0, wO lts)], ov⟩) tabOk rfl rfl rfl rfl rfl rfl (Base.gs' _ 70 1 (kC (kidsL lts (x.kids.take i))) (.l 4) rfl hkl.symm) (.sl _ _) rfl ?_ ?_)
        · rw [hkl]; show (i + 1) * 8 ≤ _; omega
        · rw [hkl]; show i + 1 ≤ _; omega
      · exact .step rfl (HStep.plain rfl (AStep.indexAddr tabOk rfl rfl rfl rfl rfl rfl (.inr ⟨_, rfl⟩) rfl (by omega) (kC_get htk))) .nil
      · exact .step rfl (HStep.plain rfl (AStep.indexAddr tabOk rfl rfl rfl rfl rfl rfl (.inr ⟨_, rfl⟩) rfl (by omega) (kC_get htk))) .nil
      refine zM ?_
      refine cInv ⟨x.kids.length - (i + 1), i + 1, fun k => if k = 4 then 5 else k, by omega, ⟨by omega, rfl⟩, LessR.of rfl (by (repeat' first | exact FrSub.nil | refine zfc ?_ | refine zfo ?_ | refine zfp ?_)) (by simp) ?_ rfl rfl hov⟩
      repeat' first | exact LoSub.nil | refine zlc ?_ | refine zld ?_ ?_ | rfl
      · simp only [AObj.ren, List.length_append, hkl]; rfl
      · rw [hks, kC_snoc]; simp only [AObj.ren, renL, AC.ren]; rw [← kC_snoc, ren_kC]; simp; rfl
    have hlt2 : i = x.kids.length := by simp at hb3; omega
    subst hlt2
    rw [List.take_length]
    refine zA ?_
    refine ACode.grow 3 4 89 2 rfl rfl ?_
    refine ACode.loopR hΓ (α := Nat × List LAlt) (fun c => [(55, .one (int c.1)), (54, .one (int (x.alts.map cAlt).length)), (53, .one (.sl 2 (x.alts.map cAlt))), (6, .one (.ptr (.l 3) 0)), (3, .one (.ptr (.l 0) 0)), (15, .one (int j)), (14, .one (int (e.map cEx).length)), (13, .one (.sl 5 (e.map cEx))), (0, .one (.sl 5 (e.map cEx)))])
      (fun c => ⟨6, [(5, .tok 89 2 c.1), (3, .cells [int x.op, int x.n, .sl 1 (x.binds.map cI), .gs 1 (kC (kidsL lts x.kids)) (.l 4), .gs 2 (c.2.map lAlt) (.l 5)]), (1, .tok 70 1 j), (0, wO lts)], ov⟩)
      (fun m c => c.1 ≤ x.alts.length ∧ (c.2.map LAlt.er = x.alts.take c.1 ∧ ∀ y ∈ c.2, y.nb = none) ∧ m = x.alts.length - c.1) (a0 := (0, [])) (ρ := id) ⟨by omega, ⟨rfl, by simp⟩, rfl⟩ (LessR.of rfl (by (repeat' first | exact FrSub.nil | refine zfc ?_ | refine zfo ?_ | refine zfp ?_)) (by simp) ?_ rfl rfl hov) fun m c hc => ?_
    · repeat' first | exact LoSub.nil | refine zlc ?_ | refine zld ?_ ?_ | rfl
      all_goals (simp [AObj.ren, renL, AC.ren]; exact ⟨rfl, rfl⟩)
    obtain ⟨i, la⟩ := c
    obtain ⟨hil, ⟨hla, hlo⟩, rfl⟩ := hc
    dsimp only at hil hla hlo
    have hll : la.length = i := by have := congrArg List.length hla; simp at this; omega
    have hal : (la.map lAlt).length = i := by simp [hll]
    refine zA ?_
    refine ACode.cond rfl (fun hb3 => ?_) (fun hb3 => ?_)
    · have hlt2 : i < x.alts.length := by simpa using hb3
      obtain ⟨a, ha⟩ := get_of_lt hlt2
      have hab := hxo.ab a (List.mem_of_getElem? ha)
      refine zA ?_
      refine AOps.step1 rfl rfl rfl (AStep.indexAddr tabOk rfl rfl rfl rfl rfl rfl (.inl rfl) rfl (by omega) (map_get ha)) ?_
      refine zA ?_
      refine ACode.drawC tabOk 13 [9, 10, 11, 12] [] (fun vs σ => match vs with
          | [] => σ = ⟨7, [(6, .cells (cAlt a)), (6, .cells (ti89.zero.map .lit)), (5, .tok 89 2 i), (3, .cells [int x.op, int x.n, .sl 1 (x.binds.map cI), .gs 1 (kC (kidsL lts x.kids)) (.l 4), .gs 2 (la.map lAlt) (.l 5)]), (1, .tok 70 1 j), (0, wO lts)], ov⟩
          | [q1] => q1 = .one (bC none a.binds) ∧ σ = ⟨8, (7, .dead) :: [(6, .cells (cAlt a)), (6, .cells (ti89.zero.map .lit)), (5, .tok 89 2 i), (3, .cells [int x.op, int x.n, .sl 1 (x.binds.map cI), .gs 1 (kC (kidsL lts x.kids)) (.l 4), .gs 2 (la.map lAlt) (.l 5)]), (1, .tok 70 1 j), (0, wO lts)], ov⟩
          | [q1, q2] => q1 = .one (bC none a.binds) ∧ q2 = .agg [int a.tag, bC none a.binds] ∧ σ = ⟨8, (7, .dead) :: [(6, .cells (cAlt a)), (6, .cells (ti89.zero.map .lit)), (5, .tok 89 2 i), (3, .cells [int x.op, int x.n, .sl 1 (x.binds.map cI), .gs 1 (kC (kidsL lts x.kids)) (.l 4), .gs 2 (la.map lAlt) (.l 5)]), (1, .tok 70 1 j), (0, wO lts)], ov⟩
          | [q1, q2, q3] => q1 = .one (bC none a.binds) ∧ q2 = .agg [int a.tag, bC none a.binds] ∧ q3 = .one (.sl 2 [[int a.tag, bC none a.binds]]) ∧ σ = ⟨8, (7, .dead) :: [(6, .cells (cAlt a)), (6, .cells (ti89.zero.map .lit)), (5, .tok 89 2 i), (3, .cells [int x.op, int x.n, .sl 1 (x.binds.map cI), .gs 1 (kC (kidsL lts x.kids)) (.l 4), .gs 2 (la.map lAlt) (.l 5)]), (1, .tok 70 1 j), (0, wO lts)], ov⟩
          | [q1, q2, q3, q4] => q1 = .one (bC none a.binds) ∧ q2 = .agg [int a.tag, bC none a.binds] ∧ q3 = .one (.sl 2 [[int a.tag, bC none a.binds]]) ∧ q4 = .one (.gs 2 (la.map lAlt ++ [[int a.tag, bC none a.binds]]) (.l 8)) ∧ σ = ⟨9, [(8, .tok 89 2 (la.map lAlt ++ [[int a.tag, bC none a.binds]]).length), (5, .dead), (7, .dead), (6, .cells (cAlt a)), (6, .cells (ti89.zero.map .lit)), (5, .tok 89 2 i), (3, .cells [int x.op, int x.n, .sl 1 (x.binds.map cI), .gs 1 (kC (kidsL lts x.kids)) (.l 4), .gs 2 (la.map lAlt) (.l 5)]), (1, .tok 70 1 j), (0, wO lts)], ov⟩
          | _ => False) follows (by kernel_rfl) rfl rfl (by decide) (by kernel_rfl) (by kernel_rfl) rfl rfl ?_ (fun _ _ _ => .nil) (by decide) ?_ ?_
      · rintro vs σ hG
        match vs, hG with
        | [], hG => subst hG; rfl
        | [_], hG => obtain ⟨_, rfl⟩ := hG; rfl
        | [_, _], hG => obtain ⟨_, _, rfl⟩ := hG; rfl
        | [_, _, _], hG => obtain ⟨_, _, _, rfl⟩ := hG; rfl
        | [_, _, _, _], hG => obtain ⟨_, _, _, _, rfl⟩ := hG; rfl
      · rintro vs σ hG q o hp1 hp2
        match vs, hG with
        | [], hG =>
          subst hG
          cases hp1
          cases hp2
          refine ⟨rfl, rfl, .inr ⟨rfl, ?_⟩⟩
          intro F w C tmps hI hF next Q hk
          refine AStepR.appCopyS (news := a.binds.map cI) tabOk rfl rfl rfl rfl rfl rfl rfl (by simp; show _ * 8 ≤ _; omega) (by simp; omega) F w C tmps hI hF next Q fun u w' C' v σ' hq => hk u w' C' v σ' ?_
          obtain ⟨rfl, rfl⟩ := hq
          exact ⟨rfl, rfl⟩
        | [_], hG =>
          obtain ⟨rfl, rfl⟩ := hG
          cases hp1
          cases hp2
          exact ⟨rfl, rfl, .inl ⟨_, _, HStep.auto tabOk rfl, rfl, rfl, rfl⟩⟩
        | [_, _], hG =>
          obtain ⟨rfl, rfl, rfl⟩ := hG
          cases hp1
          cases hp2
          exact ⟨rfl, rfl, .inl ⟨_, _, HStep.auto tabOk rfl, rfl, rfl, rfl, rfl⟩⟩
        | [_, _, _], hG =>
          obtain ⟨rfl, rfl, rfl, rfl⟩ := hG
          cases hp1
          cases hp2
          refine ⟨rfl, rfl, .inl ⟨_, _, HStep.plain rfl (AStep.append (s := 2) (es := la.map lAlt) (news := [[int a.tag, bC none a.binds]]) (ti := ti51) tabOk rfl rfl rfl rfl rfl rfl (Base.gs' _ 89 2 (la.map lAlt) (.l 5) rfl hal.symm) (.sl _ _) rfl ?_ ?_), rfl, rfl, rfl, rfl, rfl⟩⟩
          · rw [hal]; show (i + 1) * 32 ≤ _; omega
          · rw [hal]; show i + 1 ≤ _; omega
        | [_, _, _, _], hG => cases hp1
      rintro vs σ hlen hG
      match vs, hlen, hG with
      | [_, _, _, _], _, hG =>
      obtain ⟨rfl, rfl, rfl, rfl, rfl⟩ := hG
      refine zM ?_
      obtain ⟨la', hla'⟩ : ∃ la', la' = la ++ [⟨a.tag, none, a.binds⟩] := ⟨_, rfl⟩
      have hlm : la.map lAlt ++ [[int a.tag, bC none a.binds]] = la'.map lAlt := by rw [hla', List.map_append]; rfl
      refine cInv ⟨x.alts.length - (i + 1), (i + 1, la'), fun k => if k = 5 then 8 else k, by omega, ⟨by omega, ⟨by rw [hla', List.map_append, hla, take_get ha]; rfl, ?_⟩, rfl⟩, LessR.of rfl (by (repeat' first | exact FrSub.nil | refine zfc ?_ | refine zfo ?_ | refine zfp ?_)) (by simp) ?_ rfl rfl hov⟩
      · intro y hy
        rw [hla'] at hy
        rcases List.mem_append.1 hy with hy | hy
        · exact hlo y hy
        · simp at hy; subst hy; rfl
      · repeat' first | exact LoSub.nil | refine zlc ?_ | refine zld ?_ ?_ | rfl
        · simp only [AObj.ren, List.length_append, hal]; rfl
        · simp only [hlm, AObj.ren, renL, AC.ren, ren_kC, ren_lAlts]; simp; exact ⟨rfl, rfl⟩
    have hlt2 : i = x.alts.length := by simp at hb3; omega
    subst hlt2
    rw [List.take_length] at hla
    repeat ((fail_if_success ((with_reducible refine oj ?_); refine AOps.atDst 75 rfl ?_)); first | refine zO ?_)
    refine AOps.wkObj (.l 3) rfl (cs' := [int x.op, int x.n, .sl 1 (x.binds.map cI), .sl 1 (kC (kidsL lts x.kids)), .sl 2 (la.map lAlt)]) (fun w C xs h => ?_) ?_
    · exact (show WkL _ _ from .cons (.refl _) (.cons (.refl _) (.cons (.refl _) (.cons (.gsE rfl) (.cons (.gsE rfl) .nil))))) w C xs h
    have hθ : ∀ (k : Nat) (i : Abs.Id), isO i → toOs [3] k i = i := fun k i hi => by cases i with | l q => exact hi.elim | o q => rfl
    have hnid : (AObj.cells [int x.op, int x.n, .sl 1 (x.binds.map cI), .sl 1 (kC (kidsL lts x.kids)), .sl 2 (la.map lAlt)]).ids isO := ids_node x.op x.n none x.binds (kidsL lts x.kids) la
    refine AOps.cedes [3] rfl (by decide) hov fun k hk => ⟨[(6, .one (.ptr (.o k) 0)), (3, .one (.ptr (.l 0) 0)), (15, .one (int j)), (14, .one (int (e.map cEx).length)), (13, .one (.sl 5 (e.map cEx))), (0, .one (.sl 5 (e.map cEx)))],
      [(1, .tok 70 1 j), (0, wO lts)], [.cells [int x.op, int x.n, .sl 1 (x.binds.map cI), .sl 1 (kC (kidsL lts x.kids)), .sl 2 (la.map lAlt)]], ?_, ?_, ?_, ?_⟩
    · exact .cons rfl rfl (.cons rfl rfl (.cons rfl rfl (.cons rfl rfl (.cons rfl (FV.sub_f (hθ k) _ (by simp)) (.cons rfl (FV.sub_f (hθ k) _ (by simp)) .nil)))))
    · refine .cons rfl rfl rfl (.cons rfl rfl ?_ .nil)
      simp only [wO, AObj.sub, subL, AC.sub]
      rw [subS_f (hθ k) _ (ids_kC_o _)]
      rfl
    · exact .cons rfl (AObj.sub_f (hθ k) _ hnid) .nil
    have hN1 := NewO.add hk hov hnid
    have hN2 := hN.trans hN1
    obtain ⟨t, ht⟩ : ∃ t : LTr, t = .mk k x.op x.n none x.binds (kidsL lts x.kids) la := ⟨_, rfl⟩
    have hto : lts.flatMap ownO ++ [(k, .cells [int x.op, int x.n, .sl 1 (x.binds.map cI), .sl 1 (kC (kidsL lts x.kids)), .sl 2 (la.map lAlt)])] = (lts ++ [t]).flatMap ownO := by
      rw [List.flatMap_append, ht]
      simp [ownO, bO, bC, plain_aO hlo]
    rw [hto] at hN2
    have hL2 := hL.snoc (kidsIn_pre (by rw [List.take_append_drop]; exact hin)) (x := x) (fun q hq => by have := hxin q hq; simp; omega) (id := k) (nb := none) hla rfl hlo
    rw [← take_get hx, show LTr.mk k x.op x.n none x.binds (x.kids.map fun q => lts.getD q.toNat default) la = t by rw [ht]; rfl] at hL2
    refine zA ?_
    refine AOps.app tabOk rfl rfl rfl rfl rfl rfl rfl rfl rfl (Base.gs' _ 70 1 _ _ rfl hkcl.symm) (.sl _ _) rfl ?_ ?_ ?_
    · rw [hkcl]; show (j + 1) * 8 ≤ _; omega
    · rw [hkcl]; show j + 1 ≤ _; omega
    refine zM ?_
    have hsk : kC lts ++ [[AC.ptr (.o k) 0]] = kC (lts ++ [t]) := by rw [kC_app, ht]; rfl
    refine cInv ⟨e.length - (j + 1), (j + 1, lts ++ [t], _), fun q => if q = 1 then 6 else q, by omega, ⟨by omega, ⟨hL2, hN2⟩, rfl⟩, LessR.of rfl (by (repeat' first | exact FrSub.nil | refine zfc ?_ | refine zfo ?_ | refine zfp ?_)) (by simp) ?_ rfl rfl hN2.ok⟩
    repeat' first | exact LoSub.nil | refine zlc ?_ | refine zld ?_ ?_ | rfl
    · simp only [AObj.ren, List.length_append, hkcl]; rfl
    · show _ = AObj.ren _ (.cells [.gs 1 (kC (lts ++ [t])) (.l 1), .lit (.pointer none)])
      simp only [AObj.ren, renL, AC.ren, ren_kC]
      rw [hsk]; rfl
  · have hlt : j = e.length := by simp at hb2; omega
    subst hlt
    rw [List.take_length] at hL
    obtain ⟨N, hNe⟩ : ∃ N, e.length = N + 1 := ⟨e.length - 1, by have := List.length_pos_iff.2 hne; omega⟩
    obtain ⟨t, ht⟩ := get_of_lt (l := lts) (i := N) (by rw [hL.len]; omega)
    have hnt : e.length - 1 = N := by omega
    refine zM ?_
    refine AOps.wk 93 rfl (y := .one (int (N : Nat))) (.ofEq (by congr 3; simp; omega)) ?_
    refine AOps.step1 rfl rfl rfl (AStep.indexAddr tabOk rfl rfl rfl rfl rfl rfl (.inr ⟨_, rfl⟩) rfl (by omega) (kC_get ht)) ?_
    repeat ((fail_if_success ((with_reducible refine oj ?_); refine AOps.atDst 98 rfl ?_)); first | refine zO ?_)
    refine AOps.wkObj (.l 0) rfl (cs' := [.sl 1 (kC lts), .ptr (.o t.id) 0]) (fun w C xs h => ?_) ?_
    · exact (show WkL _ _ from .cons (.gsE rfl) (.cons (.refl _) .nil)) w C xs h
    refine AOps.freeze1 (.l 0) 3 rfl rfl ?_
    refine zA ?_
    exact AFn.fin' rfl (WkF.ofEq rfl) (by simp) hov ⟨lts, t, rfl, hL, by rw [hnt]; exact ht, hN⟩
end Go.Proofs.YtgdionbeeodaaaaDoor
namespace Go.CoreX
theorem word_range {e : List Ex} {x : Ex} (h : nodeErrF false e x = 0) (h1 : x.op = 1) : -1073741824 ≤ x.n ∧ x.n ≤ 1073741823 := by
  unfold nodeErrF at h
  split at h
  · cases h
  · unfold nodeErr at h
    split at h
    · cases h
    · split at h
      · rename_i hr; exact absurd h hr
      · rename_i hr
        have hr' : ranges x = 0 := by simpa using hr
        unfold ranges at hr'
        repeat' split at hr'
        all_goals first
          | (cases hr'; done)
          | skip
        all_goals
          rename_i hf _
          simp [between, lowN, highN, h1] at *
          try omega
theorem check_words {e : List Ex} (h : check e = 0) : allT (fun l => l.op = 1 → -1073741824 ≤ l.n ∧ l.n ≤ 1073741823) (grow e) := by
  obtain ⟨_, p2, _, _⟩ := check_parts h
  exact allT_grow (body_isTree h) fun x hx h1 => word_range (p2 x hx) h1
theorem pOk_growLR {e : List Ex} (hk : kidsIn e) (hp : ∀ x ∈ e, pOk (labE e x)) (p : Nat) {X : Tr} (hX : allT pOk X) : ∀ (n j : Nat), j < n → j < e.length → allT pOk ((growLR e p X).getD j default)
  | 0, j, hj, _ => by omega
  | n + 1, j, hj, hl => by
    obtain ⟨x, hx⟩ : ∃ x, e[j]? = some x := ⟨e[j], List.getElem?_eq_getElem hl⟩
    rw [growLR_node hk p X hx]
    split
    · exact hX
    · have h := hp x (List.mem_of_getElem? hx)
      refine ⟨⟨h.b, ?_, h.a, h.ab, h.s⟩, allTs_iff.2 fun t ht => ?_⟩
      · have := h.k
        simp only [labE, List.length_map] at this ⊢
        exact this
      · obtain ⟨q, hq, rfl⟩ := List.mem_map.1 ht
        have := hk j x hx q hq
        exact pOk_growLR hk hp p hX n q.toNat (by omega) (by omega)
theorem cnt_at {e : List Ex} (h : check e = 0) {k : Nat} (hk : k < e.length) : cntN (treeAt e k) ≤ 4096 := by
  have t1 := body_isTree h
  obtain ⟨p1, _⟩ := check_parts h
  obtain ⟨q1, _, _⟩ := (treeErr_iff e).1 p1
  have h1 := len_sub t1 hk
  have h2 := cntN_list (treeAt e k) []
  simp only [List.length_nil] at h2
  omega
end Go.CoreX
namespace Go.Proofs.YtgdionbeeodaaaaDoor
open Go Go.Abs Go.CoreX
set_option maxRecDepth 10000
theorem LinkL.plain {e : List Ex} {lts : List LTr} (h : LinkL e lts plainB) (hk : kidsIn e) : ∀ (n i : Nat) (t : LTr), i < n → lts[i]? = some t → plainL t
  | 0, i, t, hi, _ => by omega
  | n + 1, i, t, hi, ht => by
    have hil : i < e.length := by rw [← h.len]; exact (List.getElem?_eq_some_iff.1 ht).1
    obtain ⟨x, hx⟩ := get_of_lt hil
    obtain ⟨id, nb, a, h1, h2, h3, h4⟩ := h.at_ i x hx
    rw [ht] at h1
    cases h1
    refine ⟨h3, h4, plainLs_iff.2 fun s hs => ?_⟩
    obtain ⟨q, hq, rfl⟩ := List.mem_map.1 hs
    have hq' := hk i x hx q hq
    obtain ⟨t', ht'⟩ := get_of_lt (l := lts) (i := q.toNat) (by rw [h.len]; omega)
    rw [h.getD ht']
    exact h.plain hk n q.toNat t' (by omega) ht'
theorem objss_count_le (k : Nat) {s : LTr} : ∀ {l : List LTr}, s ∈ l → (keys (objs s)).count k ≤ (keys (objss l)).count k
  | [], h => by cases h
  | t :: l, h => by
    simp only [objss, keys_app, List.count_append]
    rcases List.mem_cons.1 h with rfl | h
    · omega
    · have := objss_count_le k h; omega
theorem sub_count (k : Nat) {t0 t : LTr} (h : SubL t0 t) : (keys (objs t0)).count k ≤ (keys (objs t)).count k := by
  induction h with
  | here => exact Nat.le_refl _
  | @kid t s hs _ ih =>
    have h1 := objs_count k t
    have h2 := objss_count_le k hs
    omega
theorem sub_nodup {t0 t : LTr} (h : SubL t0 t) (hn : (keys (objs t)).Nodup) : (keys (objs t0)).Nodup := by
  rw [List.nodup_iff_count] at hn ⊢
  exact fun k => Nat.le_trans (sub_count k h) (hn k)
theorem own_id : ∀ t : LTr, t.id ∈ keys (ownO t)
  | .mk i o n nb b k a => by simp [ownO, keys, LTr.id]
theorem ids_inj : ∀ {lts : List LTr}, (keys (lts.flatMap ownO)).Nodup → ∀ (i j : Nat) (ti tj : LTr), lts[i]? = some ti → lts[j]? = some tj → ti.id = tj.id → i = j
  | [], _, i, j, ti, tj, h, _, _ => by simp at h
  | t :: l, hn, i, j, ti, tj, hi, hj, he => by
    rw [List.flatMap_cons, keys_app, List.nodup_append] at hn
    have hmem : ∀ (q : Nat) (s : LTr), l[q]? = some s → s.id ∈ keys (l.flatMap ownO) := fun q s hs => by
      obtain ⟨o, ho⟩ := of_keys (own_id s)
      exact mem_keys (List.mem_flatMap.2 ⟨s, List.mem_of_getElem? hs, ho⟩)
    cases i with
    | zero =>
      simp at hi; subst hi
      cases j with
      | zero => rfl
      | succ j => exact absurd he (hn.2.2 _ (own_id _) _ (hmem j tj (by simpa using hj)))
    | succ i =>
      cases j with
      | zero =>
        simp at hj; subst hj
        exact absurd he.symm (hn.2.2 _ (own_id _) _ (hmem i ti (by simpa using hi)))
      | succ j => rw [ids_inj hn.2.1 i j ti tj (by simpa using hi) (by simpa using hj) he]
end Go.Proofs.YtgdionbeeodaaaaDoor
namespace Go.Proofs.YtgdionbeeodaaaaDoor
open Go Go.Abs Go.CoreX
set_option maxRecDepth 10000
variable {Γ : List (Nat × List AC)}
structure NameOk (e : List Ex) (rule n : Int) (at' : Nat) : Prop where
  n : rule = 10 → ∀ (ou : Outer) (lts : List LTr) (root t : LTr), LinkL e lts plainB → lts[e.length - 1]? = some root → lts[at']? = some t → Owns ou (lts.flatMap ownO) → AFn Tryd.prog Γc 85 [.one (.box [.sl 1 (kC lts), .ptr (.o root.id) 0]), .one (.ptr (.o t.id) 0), .one (int n)] ou (ResW ou t (namedT (grow e) (erT t) n))
  u : rule = 12 → ∀ (ou : Outer) (lts : List LTr) (root t : LTr), LinkL e lts plainB → lts[e.length - 1]? = some root → lts[at']? = some t → Owns ou (lts.flatMap ownO) → (erT t).op = 0 → AFn Tryd.prog Γc 86 [.one (.box [.sl 1 (kC lts), .ptr (.o root.id) 0]), .one (.ptr (.o t.id) 0)] ou (ResW ou t (unfoldT (growL e) (grow e) (erT t)))
theorem NameOk.no {e : List Ex} {rule n : Int} {at' : Nat} (h1 : rule ≠ 10) (h2 : rule ≠ 12) : NameOk e rule n at' := ⟨fun h => absurd h h1, fun h => absurd h h2⟩
set_option maxHeartbeats 1000000 in
theorem Apply_ok (e : List Ex) (he : okB e) (rule at' n : Int) (hno : check e = 0 → 0 ≤ at' → at' < (e.length : Int) → NameOk e rule n at'.toNat) : APure Tryd.prog Γc 16 [.one (.sl 5 (e.map cEx)), .agg [int rule, int at', int n]] (.tup [.one (.sl 5 ((applyE e rule at' n).1.map cEx)), .one (int (applyE e rule at' n).2)]) := by
  have c1 := Check_ok e he
  have hel := he.eo.l
  intro ou
  refine AFn.forget ?_
  refine AFn.walk 64 tabOk Tryd.func16 rfl (by kernel_rfl) rfl rfl fun hou => ?_
  refine zA ?_
  refine zca hΓc c1 hou ?_
  refine zA ?_
  refine ACode.cond rfl (fun hb => ?_) (fun hb => ?_)
  · have h : check e ≠ 0 := by simpa using hb
    refine zA ?_
    refine AFn.fin' rfl (.trans (WkF.tup (.cons (.one (.nilS 5)) (.cons (.refl _) .nil))) (.ofEq ?_)) (by simp) hou ⟨ou, fun _ _ h => h, rfl, rfl⟩
    unfold applyE
    rw [if_pos h]; rfl
  have h : check e = 0 := by simpa using hb
  have t1 := body_isTree h
  refine zA ?_
  refine AOps.splitS rfl rfl rfl rfl (fun hb1 => ?_) (fun hb1 => ?_)
  · have h1 : rule < 1 := by simpa using hb1
    refine zA ?_
    refine AFn.fin' rfl (.trans (WkF.tup (.cons (.one (.nilS 5)) (.cons (.refl _) .nil))) (.ofEq ?_)) (by simp) hou ⟨ou, fun _ _ h => h, rfl, rfl⟩
    unfold applyE
    rw [if_neg (by simpa using h), if_pos (.inl h1)]; rfl
  have h1 : ¬ rule < 1 := by simpa using hb1
  refine zA ?_
  refine ACode.cond rfl (fun hb2 => ?_) (fun hb2 => ?_)
  · have h2 : 12 < rule := by simpa using hb2
    refine zA ?_
    refine AFn.fin' rfl (.trans (WkF.tup (.cons (.one (.nilS 5)) (.cons (.refl _) .nil))) (.ofEq ?_)) (by simp) hou ⟨ou, fun _ _ h => h, rfl, rfl⟩
    unfold applyE
    rw [if_neg (by simpa using h), if_pos (.inr h2)]; rfl
  have h2 : ¬ 12 < rule := by simpa using hb2
  refine zA ?_
  refine AOps.splitS rfl rfl rfl rfl (fun hb3 => ?_) (fun hb3 => ?_)
  · have h3 : at' < 0 := by simpa using hb3
    refine zA ?_
    refine AFn.fin' rfl (.trans (WkF.tup (.cons (.one (.nilS 5)) (.cons (.refl _) .nil))) (.ofEq ?_)) (by simp) hou ⟨ou, fun _ _ h => h, rfl, rfl⟩
    unfold applyE
    rw [if_neg (by simpa using h), if_neg (by omega), if_pos (.inl h3)]; rfl
  have h3 : ¬ at' < 0 := by simpa using hb3
  refine zA ?_
  refine ACode.cond rfl (fun hb4 => ?_) (fun hb4 => ?_)
  · have h4 : (e.length : Int) ≤ at' := by simpa using hb4
    refine zA ?_
    refine AFn.fin' rfl (.trans (WkF.tup (.cons (.one (.nilS 5)) (.cons (.refl _) .nil))) (.ofEq ?_)) (by simp) hou ⟨ou, fun _ _ h => h, rfl, rfl⟩
    unfold applyE
    rw [if_neg (by simpa using h), if_neg (by omega), if_pos (.inr h4)]; rfl
  have h4 : ¬ (e.length : Int) ≤ at' := by simpa using hb4
  have hap : applyE e rule at' n = match resT (growL e) (grow e) rule n (treeAt e at'.toNat) with
    | none => ([], 12)
    | some x => if check (listT [] (growR e at'.toNat x)) ≠ 0 then ([], 2) else (listT [] (growR e at'.toNat x), 0) := by
    conv => lhs; unfold applyE
    rw [if_neg (by simpa using h), if_neg (by omega), if_neg (by omega)]
    cases resT (growL e) (grow e) rule n (treeAt e at'.toNat) <;> rfl
  have hno := hno h (by omega) (by omega)
  obtain ⟨p, rfl⟩ : ∃ p : Nat, at' = p := ⟨at'.toNat, by omega⟩
  rw [Int.toNat_natCast] at hap hno
  have hp : p < e.length := by omega
  obtain ⟨x, hx⟩ := get_of_lt hp
  refine zA ?_
  refine AOps.call1 hΓc rfl rfl rfl rfl rfl rfl rfl (by simp) hou (open_ok hΓc e he.eo t1.k t1.ne ou) fun r ov hq hids hov => ?_
  obtain ⟨lts, root, rfl, hL, hr, hN⟩ := hq
  obtain ⟨id, nb, a, ht0, ha, hnb, hab⟩ := hL.at_ p x hx
  obtain rfl : nb = none := hnb
  obtain ⟨ks, hks⟩ : ∃ ks, ks = x.kids.map fun q => lts.getD q.toNat default := ⟨_, rfl⟩
  rw [← hks] at ht0
  obtain ⟨t, hte⟩ : ∃ t, t = LTr.mk id x.op x.n none x.binds ks a := ⟨_, rfl⟩
  have ht : lts[p]? = some t := by rw [hte]; exact ht0
  have hpl := hL.plain t1.k _ p t (Nat.lt_succ_self _) ht
  have her : erT t = treeAt e p := hL.er t1.k _ p t (Nat.lt_succ_self _) ht
  have hrer : erT root = grow e := by
    have := hL.er t1.k _ _ root (Nat.lt_succ_self _) hr
    rw [this]; rfl
  have hok : okT (erT t) := by rw [her]; exact treeAt_ok he t1 hp
  have hsh : allT shpL (erT t) := by rw [her]; exact allT_treeAt t1 (check_shp h) hp
  have hwd : allT (fun l => l.op = 1 → -1073741824 ≤ l.n ∧ l.n ≤ 1073741823) (erT t) := by rw [her]; exact allT_treeAt t1 (check_words h) hp
  have hct : cntN (erT t) ≤ 4096 := by rw [her]; exact cnt_at h hp
  have hcr : cntN (erT root) ≤ 4096 := by
    rw [hrer]; exact cnt_at h (k := e.length - 1) (by have := List.length_pos_iff.2 t1.ne; omega)
  have hOw : ∀ (q : Nat) (s : LTr), lts[q]? = some s → Owns ov (objs s) := fun q s hs o ho => hN.own o (hL.own t1.k _ q s (Nat.lt_succ_self _) hs o ho)
  have hrn : (keys (objs root)).Nodup := hL.nodup t1 hN.nd hr
  have hsub := hL.sub t1 hr p t ht
  have htn := sub_nodup hsub hrn
  have hinj := ids_inj hN.nd
  have hres := result_ok (Γ := Γc) hΓc [.sl 1 (kC lts), .ptr (.o root.id) 0] (by simp) (growL e) (grow e) rule p n id x.op x.n x.binds ks a (by rw [← hte]; exact hpl) (by rw [← hte]; exact hok) (by rw [← hte]; exact hsh) (by rw [← hte]; omega)
    (fun s hs h1 => by
      have h2 := allT_kid hwd (er_kid (t := t) (s := s) (by rw [hte]; exact hs))
      cases hse : erT s with
      | mk o' n' b' k' a' =>
        rw [hse] at h2 h1
        exact h2.1 h1)
    ov (by rw [← hte]; exact hOw p t ht) (by rw [← hte]; exact htn)
    (fun h10 => by rw [← hte]; have := hno.n h10 ov lts root t hL hr ht hN.own; rwa [hte] at this ⊢) (fun h12 h0 => by rw [← hte]; have := hno.u h12 ov lts root t hL hr ht hN.own (by rw [hte]; exact h0); rwa [hte] at this ⊢)
  rw [← hte, her] at hres
  have hti : t.id = id := by rw [hte]; rfl
  obtain ⟨X, hX⟩ : ∃ X, X = resT (growL e) (grow e) rule n (treeAt e p) := ⟨_, rfl⟩
  rw [← hX] at hres hap
  refine zA ?_
  refine ACode.drawX tabOk 8 [(6, .one (.box [.ptr (.o id) 0]))] follows (by kernel_rfl) rfl rfl rfl rfl ?_ ?_
  · exact .step rfl (HStep.plain rfl (AStep.indexAddr tabOk rfl rfl rfl rfl rfl rfl (.inl rfl) rfl (by omega) (by rw [← hti]; exact kC_get ht))) .nil
  refine zA ?_
  refine AOps.call1 hΓc rfl rfl rfl rfl rfl rfl rfl (by simp [idsF]) hov hres fun r ow hq hids how => ?_
  cases X with
  | none =>
    obtain ⟨rfl, _, hfr⟩ := hq
    refine zA ?_
    refine AOps.step1 rfl rfl rfl (AStep.eqNil0 Tryd.underlying70 rfl rfl rfl) ?_
    refine zA ?_
    exact AFn.fin' rfl (.trans (WkF.tup (.cons (.one (.nilS 5)) (.cons (.refl _) .nil))) (.ofEq (by rw [hap]; rfl))) (by simp) how ⟨ou, fun m o hm => hfr m o (hN.oldS hm), rfl, rfl⟩
  | some X =>
    obtain ⟨u, rfl, heu, huo, htu, _, hfr, huk⟩ := hq
    have hpX : allT pOk X := res_pOk (nodes := growL e) (root := grow e) (t := treeAt e p) (by rw [← her]; exact okT_pOk _ hok) (fun s hs => by
      obtain ⟨q, hq1, hq2⟩ := List.getElem_of_mem hs
      rw [growL_len] at hq1
      have : treeAt e q = s := by unfold treeAt; rw [List.getD_eq_getElem?_getD, List.getElem?_eq_getElem (by rw [growL_len]; exact hq1), hq2]; rfl
      rw [← this]; exact okT_pOk _ (treeAt_ok he t1 hq1)) hX.symm
    have hcX : cntN X ≤ 4 * 4096 + 4 := res_cnt (nodes := growL e) (root := grow e) (t := treeAt e p) (by rw [← her]; exact hsh) (cnt_at h hp) (fun s hs => by
      obtain ⟨q, hq1, hq2⟩ := List.getElem_of_mem hs
      rw [growL_len] at hq1
      have : treeAt e q = s := by unfold treeAt; rw [List.getD_eq_getElem?_getD, List.getElem?_eq_getElem (by rw [growL_len]; exact hq1), hq2]; rfl
      rw [← this]; exact cnt_at h hq1) hX.symm
    have htO := hOw p t ht
    have htg : ow t.id = some (.cells (lC t)) := hfr _ _ (owns_node htO) (self_tail htn)
    have hug := owns_node huo
    have htut : t.id ∉ keys (tailO u) := fun hm => htu (by rw [objs_tail]; exact List.mem_cons_of_mem _ hm)
    have huo' : Owns (setO ow t.id (.cells (lC u))) (objs (withId t.id u)) := withId_own (own_tail huo) htut
    have hro : Owns (setO ow t.id (.cells (lC u))) (objs (putL t.id (withId t.id u) root)) := fun q hq => by
      rcases put_own hsub hrn (withId_id t.id u) q hq with h5 | ⟨h5, h6⟩
      · exact huo' q h5
      · have hqt : q.1 ≠ t.id := fun e1 => h6 (e1 ▸ id_mem t)
        rw [setO_ne hqt]
        exact hfr _ _ (hOw _ root hr q h5) (fun hm => h6 (by rw [objs_tail]; exact List.mem_cons_of_mem _ hm))
    have hrid : (putL t.id (withId t.id u) root).id = root.id := putL_id (withId_id t.id u) root
    have hrer' : erT (putL t.id (withId t.id u) root) = growR e p X := by
      rw [hL.put_er t1.k hinj ht (withId t.id u) _ _ root (Nat.lt_succ_self _) hr, withId_er, heu]; rfl
    have hcnt : cntN (growR e p X) ≤ 1048576 := by
      have h5 := put_cnt (u := withId t.id u) hsub hrn
      rw [hrer', withId_er, heu] at h5
      omega
    have hpk : allT pOk (growR e p X) := pOk_growLR t1.k (fun y hy => okB_labs he _ (List.mem_map_of_mem (f := labE e) hy)) p hpX _ _ (Nat.lt_succ_self _) (by have := List.length_pos_iff.2 t1.ne; omega)
    have how3 : OuOk (setO ow t.id (.cells (lC u))) := setO_ok how (lC_ids u)
    have hhap : applyE e rule p n = if check (listT [] (growR e p X)) ≠ 0 then ([], 2) else (listT [] (growR e p X), 0) := hap
    have hfin : ∀ m o, ou m = some o → m ∉ keys (objs (putL t.id (withId t.id u) root)) ∧ setO ow t.id (.cells (lC u)) m = some o := fun m o hm => by
      have hmN : m ∉ keys (lts.flatMap ownO) := fun hk => by have := hN.new m hk; rw [hm] at this; cases this
      have hmt : m ∉ keys (objs t) := fun hk => by
        obtain ⟨o', ho'⟩ := of_keys hk
        exact hmN (mem_keys (hL.own t1.k _ p t (Nat.lt_succ_self _) ht _ ho'))
      have hw : ow m = some o := hfr _ _ (hN.oldS hm) (fun hk => hmt (by rw [objs_tail]; exact List.mem_cons_of_mem _ hk))
      have hmt2 : m ≠ t.id := fun e1 => hmt (e1 ▸ id_mem t)
      refine ⟨fun hk => ?_, by rw [setO_ne hmt2]; exact hw⟩
      obtain ⟨o', ho'⟩ := of_keys hk
      rcases put_own hsub hrn (withId_id t.id u) _ ho' with h5 | ⟨h5, _⟩
      · rw [objs_tail, withId_id, withId_tail] at h5
        rcases List.mem_cons.1 h5 with h5 | h5
        · exact hmt2 (by injection h5)
        · rcases huk m (by rw [objs_tail]; exact List.mem_cons_of_mem _ (mem_keys h5)) with h6 | h6
          · exact hmt (by rw [objs_tail]; exact List.mem_cons_of_mem _ h6)
          · rw [hN.oldS hm] at h6; cases h6
      · exact hmN (mem_keys (hL.own t1.k _ _ root (Nat.lt_succ_self _) hr _ h5))
    generalize hR : putL t.id (withId t.id u) root = R at hro hrid hrer' hfin
    cases u with
    | mk ku ou' nu nbu bu ksu au =>
    simp only [lC] at hug
    refine zA ?_
    refine AOps.step1 rfl rfl rfl (AStep.eqNil Tryd.underlying70 rfl rfl rfl) ?_
    refine zA ?_
    refine AOps.step1 rfl rfl rfl (AStep.loadOwnA tabOk rfl rfl rfl rfl rfl hug) ?_
    refine zA ?_
    rw [hti] at htg how3 hro hfin
    refine AOps.storeOwnA tabOk rfl rfl rfl rfl rfl (by simp [lC_len]) rfl rfl htg ?_
    repeat ((fail_if_success ((with_reducible refine oj ?_); refine AOps.atDst 59 rfl ?_)); first | refine zO ?_)
    rw [← hrid]
    refine AOps.freezeU (t := R) 58 hro rfl ?_
    rw [hrer']
    have hokd : OuOk (deadL (setO ow id (.cells (lC (.mk ku ou' nu nbu bu ksu au)))) (keys (objs R))) := fun m o hm => by
      unfold deadL at hm
      split at hm
      · cases hm; trivial
      · exact how3 m o hm
    have hfind : ∀ m o, ou m = some o → deadL (setO ow id (.cells (lC (.mk ku ou' nu nbu bu ksu au)))) (keys (objs R)) m = some o := fun m o hm => by
      unfold deadL
      rw [if_neg (hfin m o hm).1]
      exact (hfin m o hm).2
    have hgl : (listT [] (growR e p X)).length ≤ 1048576 := by have := cntN_list (growR e p X) []; simp at this; omega
    have hli := List_ok (Γ := Γc) hΓc (growR e p X) (pOk_okT _ hpk) hgl
    have hck := Check_ok _ (okB_list hpk hcnt)
    refine zca hΓc hli hokd ?_
    refine zA ?_
    refine zca hΓc hck hokd ?_
    refine zA ?_
    refine ACode.cond rfl (fun hbc => ?_) (fun hbc => ?_)
    · have hc : check (listT [] (growR e p X)) ≠ 0 := by simpa using hbc
      refine zA ?_
      exact AFn.fin' rfl (.trans (WkF.tup (.cons (.one (.nilS 5)) (.cons (.refl _) .nil))) (.ofEq (by rw [hhap, if_pos hc]; rfl))) (by simp) hokd ⟨ou, hfind, rfl, rfl⟩
    · have hc : ¬ check (listT [] (growR e p X)) ≠ 0 := by simpa using hbc
      refine zA ?_
      exact AFn.fin' rfl (.ofEq (by rw [hhap, if_neg hc])) (by simp) hokd ⟨ou, hfind, rfl, rfl⟩
end Go.Proofs.YtgdionbeeodaaaaDoor
namespace Go.Proofs.YtgdionbeeodaaaaDoor
open Go Go.Abs Go.CoreX
set_option maxRecDepth 10000
def factRT : Tr := .mk 4 0 [1] [.mk 1 2 [] [] [], .mk 0 1 [] [] []] []
theorem okB_word (n : Int) : okB (listT [] (wordT n)) := okB_list (T := wordT n) (okT_pOk _ (by simp [wordT, okT, okTs])) (by simp [wordT, cntN, cntNs])
theorem WordList_ok (n : Int) : APure Tryd.prog Γc 39 [.one (.box (cNd (wordT n)))] (.one (.sl 5 ((listT [] (wordT n)).map cEx))) := NodeList_ok hΓc (wordT n) (by simp [wordT, okT, okTs]) (by have := cntN_list (wordT n) []; simp [wordT, cntN, cntNs] at this ⊢; omega)
theorem Apply_some (e : List Ex) (he : okB e) (rule at' n : Int) (h1 : rule ≠ 10) (h2 : rule ≠ 12) : APure Tryd.prog Γc 16 [.one (.sl 5 (e.map cEx)), .agg [int rule, int at', int n]] (.tup [.one (.sl 5 ((applyE e rule at' n).1.map cEx)), .one (int (applyE e rule at' n).2)]) := Apply_ok e he rule at' n fun _ _ _ => NameOk.no h1 h2
end Go.Proofs.YtgdionbeeodaaaaDoor
namespace Go.Proofs.YtgdionbeeodaaaaDoor
open Go Go.Abs Go.CoreX
set_option maxRecDepth 10000
variable {Γ : List (Nat × List AC)}
def ManyQ (e : List Ex) (ou : Outer) (r : FV) (ou' : Outer) : Prop := ∃ (k ck : Nat) (l : List (Nat × Int × Int)) (f : Nm), r = .one (.mp (.o k)) ∧ ou' k = some (.map ck (encI eN l)) ∧ IMOk f ck l ∧ (∀ q, (f q).getD 0 = (manyE e q : Nat)) ∧ OuOk ou' ∧ ∀ j o, ou j = some o → ou' j = some o
theorem many_snoc (e : List Ex) (x : Ex) (q : Int) : manyE (e ++ [x]) q = manyE e q + if x.op = 0 ∧ x.n = q then 1 else 0 := by
  unfold manyE
  rw [List.countP_append, List.countP_singleton]
  simp
theorem many_le (e : List Ex) (q : Int) : manyE e q ≤ e.length := List.countP_le_length
theorem occurrences_ok (hΓ : ∀ g cs, (g, cs) ∈ Γ → idsL isO cs) (e : List Ex) (hel : e.length ≤ 1048576) (ou : Outer) : AFn Tryd.prog Γ 56 [.one (.sl 5 (e.map cEx))] ou (ManyQ e ou) := by
  refine AFn.walk 23 tabOk Tryd.func56 rfl (by kernel_rfl) rfl rfl fun hou => ?_
  refine zA ?_
  refine AOps.step1 rfl rfl rfl (AStep.makeMap rfl) ?_
  refine zA ?_
  refine ACode.loopR hΓ (α := Nat × Nat × List (Nat × Int × Int) × Nm) (fun c => [(9, .one (int c.1)), (8, .one (int (e.map cEx).length)), (7, .one (.sl 5 (e.map cEx))), (3, .one (.mp (.l 0)))])
    (fun c => ⟨1, [(0, .map c.2.1 (encI eN c.2.2.1))], ou⟩) (fun m c => c.1 ≤ e.length ∧ (IMOk c.2.2.2 c.2.1 c.2.2.1 ∧ ∀ q, (c.2.2.2 q).getD 0 = (manyE (e.take c.1) q : Nat)) ∧ m = e.length - c.1) (a0 := (0, 0, [], fun _ => none)) (ρ := id) ⟨by omega, ⟨IMOk.nil, by simp [manyE]⟩, rfl⟩
    (LessR.of rfl (by (repeat' first | exact FrSub.nil | refine zfc ?_ | refine zfo ?_ | refine zfp ?_)) (by simp) (LoSub.cons rfl rfl rfl (by simp) .nil) rfl rfl hou) fun m c hc => ?_
  obtain ⟨i, ck, l, f⟩ := c
  obtain ⟨hil, ⟨hI, hf⟩, rfl⟩ := hc
  dsimp only at hil hI hf
  refine zA ?_
  refine ACode.cond rfl (fun hb2 => ?_) (fun hb2 => ?_)
  · have hlt : i < e.length := by simpa using hb2
    obtain ⟨x, hx⟩ := get_of_lt hlt
    have hsn := many_snoc (e.take i) x
    rw [← take_get hx] at hsn
    refine zA ?_
    refine AOps.step1 rfl rfl rfl (AStep.indexAddr tabOk rfl rfl rfl rfl rfl rfl (.inl rfl) rfl (by omega) (map_get hx)) ?_
    refine zA ?_
    refine ACode.cond rfl (fun hb3 => ?_) (fun hb3 => ?_)
    · have h0 : x.op = 0 := by simpa using hb3
      have hle := many_le (e.take i) x.n
      have hle2 : (e.take i).length ≤ e.length := by simp; omega
      refine zA ?_
      refine AOps.step1 rfl rfl rfl (AStep.lookI eN (cm := false) (v := .one (int (manyE (e.take i) x.n : Nat))) rfl Tryd.underlying90 Tryd.underlying3 rfl rfl rfl (by kernel_rfl) zeroN hI (by rw [← hf x.n]; cases f x.n <;> rfl)) ?_
      refine zM ?_
      refine AOps.putI eN (v := (manyE (e.take i) x.n : Nat) + 1) rfl rfl rfl Tryd.underlying90 Tryd.underlying3 rfl rfl rfl rfl hI fun ck' l' hI' => ?_
      refine zM ?_
      refine cInv ⟨e.length - (i + 1), (i + 1, ck', l', _), id, by omega, ⟨by omega, ⟨hI', fun q => ?_⟩, rfl⟩, LessR.of rfl (by (repeat' first | exact FrSub.nil | refine zfc ?_ | refine zfo ?_ | refine zfp ?_)) (by simp) (LoSub.cons rfl (AObj.ren_pure _ _ (ids_mapN _ _ _)).symm rfl (by simp) .nil) rfl rfl hou⟩
      show (setF f x.n ((manyE (e.take i) x.n : Nat) + 1) q).getD 0 = _
      rw [hsn]
      unfold setF
      by_cases hq : x.n = q
      · subst hq; simp [h0]
      · rw [if_neg hq, if_neg (by simp [hq])]; exact hf q
    · have h0 : ¬ x.op = 0 := by simpa using hb3
      refine zM ?_
      refine cInv ⟨e.length - (i + 1), (i + 1, ck, l, f), id, by omega, ⟨by omega, ⟨hI, fun q => ?_⟩, rfl⟩, LessR.of rfl (by (repeat' first | exact FrSub.nil | refine zfc ?_ | refine zfo ?_ | refine zfp ?_)) (by simp) (LoSub.cons rfl (AObj.ren_pure _ _ (ids_mapN _ _ _)).symm rfl (by simp) .nil) rfl rfl hou⟩
      rw [hsn, if_neg (by simp [h0])]; exact hf q
  · have hlt : i = e.length := by simp at hb2; omega
    subst hlt
    rw [List.take_length] at hf
    repeat ((fail_if_success ((with_reducible refine oj ?_); refine AOps.atDst 22 rfl ?_)); first | refine zO ?_)
    refine AOps.cedes [0] rfl (by decide) hou fun k hk => ⟨[(3, .one (.mp (.o k)))], [], [.map ck (encI eN l)], .cons rfl rfl .nil, .nil, ?_, ?_⟩
    · exact .cons rfl (AObj.sub_f (fun i hi => by cases i with | l q => exact hi.elim | o q => rfl) _ (ids_mapN _ _ _)) .nil
    have hN := NewO.add hk hou (o := .map ck (encI eN l)) (ids_mapN _ _ _)
    refine zA ?_
    exact AFn.fin' rfl (WkF.refl _) (by simp) hN.ok ⟨k, ck, l, f, rfl, hN.own (k, .map ck (encI eN l)) (by simp), hI, hf, hN.ok, fun j o hj => hN.oldS hj⟩
theorem canLet_ok (hΓ : ∀ g cs, (g, cs) ∈ Γ → idsL isO cs) (rule : Int) (i : Nat) (n q : Int) (v d : LTr) (cnt : Nat) (hpl : plainL v) (hok : okT (erT (.mk i 4 n none [q] [v, d] []))) (hsh : allT shpL (erT (.mk i 4 n none [q] [v, d] []))) (ou : Outer)
    (ho : Owns ou (objs (.mk i 4 n none [q] [v, d] []))) :
    AFn Tryd.prog Γ 93 [.one (int rule), .one (.ptr (.o i) 0), .one (int cnt)] ou (fun r ou' => r = .one (.lit (.bool (canLetT rule (erT (.mk i 4 n none [q] [v, d] [])) cnt))) ∧ ou' = ou) := by
  have hi : ou i = some (.cells (lC (.mk i 4 n none [q] [v, d] []))) := owns_node ho
  simp only [lC, bC] at hi
  have hvm : v ∈ (LTr.mk i 4 n none [q] [v, d] []).kids := by simp [LTr.kids]
  have hvo := owns_kid ho hvm
  have hvk := okT_kid hok (er_kid hvm)
  have hvs := allT_kid hsh (er_kid hvm)
  have hval := valued_ok hΓ (erT v) hvk hvs
  have hat := atom_ok (Γ := Γ) (erT v)
  obtain ⟨X, hX⟩ : ∃ X, X = canLetT rule (erT (.mk i 4 n none [q] [v, d] [])) cnt := ⟨_, rfl⟩
  rw [← hX]
  have hL : X = if rule = 2 then atomT (erT v) else if rule = 3 then cnt == 0 && valT (erT v) else if rule = 8 then (erT v).op == 4 else if rule = 9 then (erT v).op == 7 && (erT v).alts.length == 1 else if rule = 11 then (erT v).op == 2 && cnt == 1 else false := hX
  clear hX
  have hcz : ((cnt : Int) == 0) = (cnt == 0) := by rw [Bool.eq_iff_iff]; simp
  have hc1 : ((cnt : Int) == 1) = (cnt == 1) := by rw [Bool.eq_iff_iff]; simp; omega
  cases v with
  | mk j op2 n2 nb2 b2 ks2 a2 =>
  obtain rfl : nb2 = none := hpl.1
  have hv : ou j = some (.cells (lC (.mk j op2 n2 none b2 ks2 a2))) := owns_node hvo
  simp only [lC, bC] at hv
  have hop : (erT (.mk j op2 n2 none b2 ks2 a2)).op = op2 := rfl
  have hal : (erT (.mk j op2 n2 none b2 ks2 a2)).alts.length = a2.length := by simp [erT]
  have hal2 : ((a2.map lAlt).length : Int) = (a2.length : Int) := by simp
  have ha1 : ((a2.length : Int) == 1) = (a2.length == 1) := by rw [Bool.eq_iff_iff]; simp; omega
  rw [hop, hal] at hL
  refine AFn.walk 60 tabOk Tryd.func93 rfl (by kernel_rfl) rfl rfl fun hou => ?_
  by_cases h2 : rule = 2
  · subst h2
    rw [if_pos rfl] at hL
    repeat' first | refine zN ?_ | ((with_reducible refine oj ?_); first | refine zix ?_ | refine zow rfl rfl hi ?_ | refine zow rfl rfl hv ?_)
    refine AOps.callS hΓ hat (Plain.lit _) rfl rfl rfl rfl rfl rfl (LendFs.t1 (t := .mk j op2 n2 none b2 ks2 a2) hvo) ?_
    refine zA ?_
    exact AFn.fin' rfl (WkF.ofEq (by rw [hL])) (by simp) hou ⟨rfl, rfl⟩
  rw [if_neg h2] at hL
  by_cases h3 : rule = 3
  · subst h3
    rw [if_pos rfl] at hL
    repeat' first | refine zN ?_ | ((with_reducible refine oj ?_); first | refine zix ?_ | refine zow rfl rfl hi ?_ | refine zow rfl rfl hv ?_)
    rw [hcz]
    refine AOps.splitS rfl rfl rfl rfl (fun hb => ?_) (fun hb => ?_)
    · refine zM ?_
      refine AOps.callS hΓ hval (Plain.lit _) rfl rfl rfl rfl rfl rfl (LendFs.t1 (t := .mk j op2 n2 none b2 ks2 a2) hvo) ?_
      refine zA ?_
      exact AFn.fin' rfl (WkF.ofEq (by rw [hL, hb]; rfl)) (by simp) hou ⟨rfl, rfl⟩
    · refine zA ?_
      exact AFn.fin' rfl (WkF.ofEq (by rw [hL, hb]; rfl)) (by simp) hou ⟨rfl, rfl⟩
  rw [if_neg h3] at hL
  by_cases h8 : rule = 8
  · subst h8
    rw [if_pos rfl] at hL
    repeat' first | refine zN ?_ | ((with_reducible refine oj ?_); first | refine zix ?_ | refine zow rfl rfl hi ?_ | refine zow rfl rfl hv ?_)
    exact AFn.fin' rfl (WkF.ofEq (by rw [hL])) (by simp) hou ⟨rfl, rfl⟩
  rw [if_neg h8] at hL
  by_cases h9 : rule = 9
  · subst h9
    rw [if_pos rfl] at hL
    repeat' first | refine zN ?_ | ((with_reducible refine oj ?_); first | refine zix ?_ | refine zow rfl rfl hi ?_ | refine zow rfl rfl hv ?_)
    refine AOps.splitS rfl rfl rfl rfl (fun hb => ?_) (fun hb => ?_)
    · repeat' first | refine zN ?_ | ((with_reducible refine oj ?_); first | refine zix ?_ | refine zow rfl rfl hi ?_ | refine zow rfl rfl hv ?_)
      exact AFn.fin' rfl (WkF.ofEq (by rw [hL, hb, hal2, ha1]; simp)) (by simp) hou ⟨rfl, rfl⟩
    · refine zA ?_
      exact AFn.fin' rfl (WkF.ofEq (by rw [hL, hb]; rfl)) (by simp) hou ⟨rfl, rfl⟩
  rw [if_neg h9] at hL
  by_cases h11 : rule = 11
  · subst h11
    rw [if_pos rfl] at hL
    repeat' first | refine zN ?_ | ((with_reducible refine oj ?_); first | refine zix ?_ | refine zow rfl rfl hi ?_ | refine zow rfl rfl hv ?_)
    refine AOps.splitS rfl rfl rfl rfl (fun hb => ?_) (fun hb => ?_)
    · refine zM ?_
      exact AFn.fin' rfl (WkF.ofEq (by rw [hL, hb, hc1]; simp)) (by simp) hou ⟨rfl, rfl⟩
    · refine zA ?_
      exact AFn.fin' rfl (WkF.ofEq (by rw [hL, hb]; rfl)) (by simp) hou ⟨rfl, rfl⟩
  rw [if_neg h11] at hL
  repeat' first | refine zN ?_ | ((with_reducible refine oj ?_); first | refine zix ?_ | refine zow rfl rfl hi ?_ | refine zow rfl rfl hv ?_) | (with_reducible refine oj ?_; refine AOps.splitS rfl rfl rfl rfl (fun hb => ?_) (fun hb => ?_)) | (with_reducible refine ok ?_; first | refine ACode.condS rfl (fun hb => ?_) (fun hb => ?_) | refine ACode.cond rfl (fun hb => ?_) (fun hb => ?_))
  all_goals first
    | (exfalso; simp at *; omega)
    | exact AFn.fin' rfl (WkF.ofEq (by rw [hL])) (by simp) hou ⟨rfl, rfl⟩
end Go.Proofs.YtgdionbeeodaaaaDoor
namespace Go.Proofs.YtgdionbeeodaaaaDoor
open Go Go.Abs Go.CoreX
set_option maxRecDepth 10000
variable {Γ : List (Nat × List AC)}
theorem rest_ok (hΓ : ∀ g cs, (g, cs) ∈ Γ → idsL isO cs) (i : Nat) (o n : Int) (b : List Int) (ks : List LTr) (a : List LAlt) (hok : okT (erT (.mk i o n none b ks a))) (hc : cntN (erT (.mk i o n none b ks a)) ≤ 1048576) (hlen : b.length < ks.length) (ou : Outer) (ho : Owns ou (objs (.mk i o n none b ks a)))
    (km ck : Nat) (l : List (Nat × Int × Int)) (f : Nm) (many : Int → Nat) (hm : ou km = some (.map ck (encI eN l))) (hI : IMOk f ck l) (hf : ∀ q, (f q).getD 0 = (many q : Nat)) :
    AFn Tryd.prog Γ 94 [.one (.ptr (.o i) 0), .one (.mp (.o km))] ou (fun r ou' => r = .one (.lit (.bool (restT (erT (.mk i o n none b ks a)) many))) ∧ ou' = ou) := by
  have hi : ou i = some (.cells (lC (.mk i o n none b ks a))) := owns_node ho
  simp only [lC, bC] at hi
  have hbl : b.length ≤ 1048576 := hok.1
  have hun := unused_ok hΓ i o n b ks a hok hc hlen ou ho
  have hR : restT (erT (.mk i o n none b ks a)) many = (!(b.any fun id => decide (0 < many id)) || unusedT (erT (.mk i o n none b ks a))) := rfl
  rw [hR]
  generalize unusedT (erT (.mk i o n none b ks a)) = U at hun
  refine AFn.walk 31 tabOk Tryd.func94 rfl (by kernel_rfl) rfl rfl fun hou => ?_
  repeat' first | refine zN ?_ | ((with_reducible refine oj ?_); first | refine zix ?_ | refine zow rfl rfl hi ?_)
  refine ACode.loopR hΓ (α := Nat) (fun j => [(13, .one (int j)), (12, .one (int (b.map cI).length)), (11, .one (.sl 1 (b.map cI))), (5, .one (.lit (.bool ((b.take j).any fun id => decide (0 < many id))))), (1, .one (.mp (.o km))), (0, .one (.ptr (.o i) 0))])
    (fun j => ⟨0, [], ou⟩) (fun m j => j ≤ b.length ∧ m = b.length - j) (a0 := 0) (ρ := id) ⟨by omega, rfl⟩ (LessR.of rfl (by (repeat' first | exact FrSub.nil | refine zfc ?_ | refine zfo ?_ | refine zfp ?_)) (by simp) (by repeat' first | exact LoSub.nil | refine zlc ?_ | refine zld ?_ ?_ | rfl) rfl rfl hou) fun m j hj => ?_
  obtain ⟨hjl, rfl⟩ := hj
  obtain ⟨S, hS⟩ : ∃ S, S = (b.take j).any fun id => decide (0 < many id) := ⟨_, rfl⟩
  rw [← hS]
  refine zA ?_
  refine ACode.cond rfl (fun hb2 => ?_) (fun hb2 => ?_)
  · have hlt : j < b.length := by simpa using hb2
    obtain ⟨q, hq⟩ := get_of_lt hlt
    have hsn : ((b.take (j + 1)).any fun id => decide (0 < many id)) = (S || decide (0 < many q)) := by rw [take_get hq, List.any_append, hS]; simp
    refine zA ?_
    refine AOps.step1 rfl rfl rfl (AStep.indexAddr tabOk rfl rfl rfl rfl rfl rfl (.inl rfl) rfl (by omega) (map_get hq)) ?_
    refine zA ?_
    refine AOps.splitS rfl rfl rfl rfl (fun hs => ?_) (fun hs => ?_)
    · rw [hs] at hsn
      refine zM ?_
      exact cInv ⟨b.length - (j + 1), j + 1, id, by omega, ⟨by omega, rfl⟩, LessR.of rfl (by rw [hsn]; (repeat' first | exact FrSub.nil | refine zfc ?_ | refine zfo ?_ | refine zfp ?_)) (by simp) (by repeat' first | exact LoSub.nil | refine zlc ?_ | refine zld ?_ ?_ | rfl) rfl rfl hou⟩
    · rw [hs] at hsn
      refine zM ?_
      refine AOps.step1 rfl rfl rfl (AStep.lookI eN (cm := false) (v := .one (int (many q : Nat))) rfl Tryd.underlying90 Tryd.underlying3 rfl hm rfl (by kernel_rfl) zeroN hI (by rw [← hf q]; cases f q <;> rfl)) ?_
      refine zM ?_
      refine cInv ⟨b.length - (j + 1), j + 1, id, by omega, ⟨by omega, rfl⟩, LessR.of rfl ?_ (by simp) (by repeat' first | exact LoSub.nil | refine zlc ?_ | refine zld ?_ ?_ | rfl) rfl rfl hou⟩
      rw [hsn]
      refine FrSub.cons rfl (.ofEq rfl) (FrSub.cons rfl (.ofEq rfl) (FrSub.consP rfl (.ofEq rfl) (by simp) (FrSub.cons rfl (.ofEq ?_) (FrSub.cons rfl (.ofEq rfl) (FrSub.cons rfl (.ofEq rfl) .nil)))))
      simp only [FV.ren, AC.ren]
      congr 3
      simp
  · have hlt : j = b.length := by simp at hb2; omega
    subst hlt
    rw [List.take_length] at hS
    rw [← hS]
    refine zA ?_
    refine AOps.splitS rfl rfl rfl rfl (fun hs => ?_) (fun hs => ?_)
    · refine zA ?_
      exact AFn.fin' rfl (WkF.ofEq (by rw [hs]; rfl)) (by simp) hou ⟨rfl, rfl⟩
    · refine zM ?_
      refine AOps.call1 hΓ rfl rfl rfl rfl rfl rfl rfl (by exact ⟨trivial, trivial⟩) hou hun fun r ou' hq _ how => ?_
      obtain ⟨rfl, rfl⟩ := hq
      refine zA ?_
      exact AFn.fin' rfl (WkF.ofEq (by rw [hs]; rfl)) (by simp) hou ⟨rfl, rfl⟩
def CanQ (x : Bool) (ou : Outer) (r : FV) (ou' : Outer) : Prop := r = .one (.lit (.bool x)) ∧ OuOk ou' ∧ ∀ j o, ou j = some o → ou' j = some o
set_option maxHeartbeats 2000000 in
theorem can_ok (hΓ : ∀ g cs, (g, cs) ∈ Γ → idsL isO cs) (rule : Int) (i : Nat) (o nn : Int) (b : List Int) (ks : List LTr) (a : List LAlt) (hpl : plainL (.mk i o nn none b ks a)) (hok : okT (erT (.mk i o nn none b ks a))) (hsh : allT shpL (erT (.mk i o nn none b ks a))) (hc : cntN (erT (.mk i o nn none b ks a)) ≤ 1048576)
    (hrg : ∀ s ∈ ks, (erT s).op = 1 → -1073741824 ≤ (erT s).n ∧ (erT s).n ≤ 1073741823) (ou : Outer) (ho : Owns ou (objs (.mk i o nn none b ks a)))
    (km ck : Nat) (l : List (Nat × Int × Int)) (f : Nm) (many : Int → Nat) (hm : ou km = some (.map ck (encI eN l))) (hI : IMOk f ck l) (hf : ∀ q, (f q).getD 0 = (many q : Nat)) :
    AFn Tryd.prog Γ 57 [.one (int rule), .one (.ptr (.o i) 0), .one (.mp (.o km))] ou (CanQ (canT rule (erT (.mk i o nn none b ks a)) many) ou) := by
  have hi : ou i = some (.cells (lC (.mk i o nn none b ks a))) := owns_node ho
  simp only [lC, bC] at hi
  have hbl : b.length ≤ 1048576 := hok.1
  have hkl : ks.length ≤ 1048576 := by have := hok.2.1; simpa [erTs_eq] using this
  obtain ⟨t, hte⟩ : ∃ t, t = LTr.mk i o nn none b ks a := ⟨_, rfl⟩
  obtain ⟨X, hX⟩ : ∃ X, X = canT rule (erT t) many := ⟨_, rfl⟩
  have hop : (erT t).op = o := by rw [hte]; rfl
  rw [← hte, ← hX]
  unfold canT at hX
  rw [hop] at hX
  refine AFn.walk 135 tabOk Tryd.func57 rfl (by kernel_rfl) rfl rfl fun hou => ?_
  have hfin : ∀ x, X = x → CanQ X ou (.one (.lit (.bool x))) ou := fun x h => ⟨by rw [h], hou, fun _ _ h => h⟩
  by_cases h4 : o = 4
  · subst h4
    rw [if_pos rfl] at hX
    obtain ⟨q, y0, y1, hb2, hk2, ha2⟩ := shp_let (o := 4) (n := nn) (b := b) (k := erTs ks) (a := a.map LAlt.er) hsh rfl
    obtain ⟨v, d, rfl⟩ : ∃ v d, ks = [v, d] := by
      rw [erTs_eq] at hk2
      match ks, hk2 with
      | [v, d], _ => exact ⟨v, d, rfl⟩
    obtain rfl : a = [] := by simpa using ha2
    subst hb2
    have hcl := canLet_ok hΓ rule i nn q v d (many q) (plain_kid hpl (by simp [LTr.kids])) hok hsh ou ho
    have hX : X = canLetT rule (erT (.mk i 4 nn none [q] [v, d] [])) (many q) := by rw [hX, hte]; rfl
    rw [← hX] at hcl
    repeat' first | refine zN ?_ | ((with_reducible refine oj ?_); first | refine zix ?_ | refine zow rfl rfl hi ?_)
    refine AOps.step1 rfl rfl rfl (AStep.lookI eN (cm := false) (v := .one (int (many q : Nat))) rfl Tryd.underlying90 Tryd.underlying3 rfl hm rfl (by kernel_rfl) zeroN hI (by rw [← hf q]; cases f q <;> rfl)) ?_
    refine zA ?_
    refine AOps.call1 hΓ rfl rfl rfl rfl rfl rfl rfl (by exact ⟨trivial, trivial, trivial, trivial⟩) hou hcl fun r ou' hq _ how => ?_
    obtain ⟨rfl, rfl⟩ := hq
    refine zA ?_
    exact AFn.fin' rfl (WkF.refl _) (by simp) hou (hfin _ rfl)
  rw [if_neg h4] at hX
  by_cases hr4 : rule = 4
  · subst hr4
    repeat' first | refine zN ?_ | ((with_reducible refine oj ?_); first | refine zix ?_ | refine zow rfl rfl hi ?_)
    refine ACode.condS rfl (fun hb4 => absurd (by simpa using hb4) h4) (fun hb4 => ?_)
    repeat' first | refine zN ?_ | ((with_reducible refine oj ?_); first | refine zix ?_ | refine zow rfl rfl hi ?_)
    refine ACode.condS rfl (fun hb5 => ?_) (fun hb5 => ?_)
    · have h5 : o = 5 := by simpa using hb5
      subst h5
      rw [if_pos ⟨rfl, rfl⟩] at hX
      have hrl := (shp_rec (o := 5) (n := nn) (b := b) (k := erTs ks) (a := a.map LAlt.er) hsh rfl).1
      rw [erTs_eq, List.length_map] at hrl
      have hre := rest_ok hΓ i 5 nn b ks a hok hc (by omega) ou ho km ck l f many hm hI hf
      rw [← hte, ← hX] at hre
      repeat' first | refine zN ?_ | ((with_reducible refine oj ?_); first | refine zix ?_ | refine zow rfl rfl hi ?_)
      refine AOps.call1 hΓ rfl rfl rfl rfl rfl rfl rfl (by exact ⟨trivial, trivial, trivial⟩) hou hre fun r ou' hq _ how => ?_
      obtain ⟨rfl, rfl⟩ := hq
      refine zA ?_
      exact AFn.fin' rfl (WkF.refl _) (by simp) hou (hfin _ rfl)
    · have h5 : ¬ o = 5 := by simpa using hb5
      rw [if_neg (fun h => h5 h.2), if_neg (by simp), if_neg (by simp), if_neg (by simp), if_neg (by simp)] at hX
      repeat' first | refine zN ?_ | ((with_reducible refine oj ?_); first | refine zix ?_ | refine zow rfl rfl hi ?_)
      exact AFn.fin' rfl (WkF.refl _) (by simp) hou (hfin _ hX)
  rw [if_neg (fun h => hr4 h.1)] at hX
  by_cases hr6 : rule = 6
  · subst hr6
    repeat' first | refine zN ?_ | ((with_reducible refine oj ?_); first | refine zix ?_ | refine zow rfl rfl hi ?_)
    refine ACode.condS rfl (fun hb4 => absurd (by simpa using hb4) h4) (fun hb4 => ?_)
    repeat' first | refine zN ?_ | ((with_reducible refine oj ?_); first | refine zix ?_ | refine zow rfl rfl hi ?_)
    refine ACode.condS rfl (fun hb5 => ?_) (fun hb5 => ?_)
    · have h5 : o = 8 := by simpa using hb5
      subst h5
      rw [if_pos ⟨rfl, rfl⟩] at hX
      have hkl3 : (erT t).kids.length = ks.length := by rw [hte, er_kids]; simp [LTr.kids]
      rw [hkl3] at hX
      repeat' first | refine zN ?_ | ((with_reducible refine oj ?_); first | refine zix ?_ | refine zow rfl rfl hi ?_)
      refine AOps.splitS rfl rfl rfl rfl (fun hb6 => ?_) (fun hb6 => ?_)
      · have h6 : ks.length = 2 := by simp [kC_len] at hb6; omega
        obtain ⟨x, y, rfl⟩ : ∃ x y, ks = [x, y] := by
          match ks, h6 with
          | [x, y], _ => exact ⟨x, y, rfl⟩
        have har := arith_ok hΓ i 8 nn b x y a (hrg x (by simp)) (hrg y (by simp)) ou ho
        rw [← hte] at har
        have hX : X = (arithT (erT t)).isSome := hX
        refine zM ?_
        refine AOps.call1 hΓ rfl rfl rfl rfl rfl rfl rfl (by exact ⟨trivial, trivial⟩) hou har fun r ow hq hids how => ?_
        cases hA : arithT (erT t) with
        | none =>
          rw [hA] at hq hX
          obtain ⟨rfl, _, hfr⟩ := hq
          refine zM ?_
          refine AOps.step1 rfl rfl rfl (AStep.neNil0 Tryd.underlying70 rfl rfl rfl) ?_
          refine zA ?_
          exact AFn.fin' rfl (WkF.refl _) (by simp) how ⟨by rw [hX]; rfl, how, hfr⟩
        | some T =>
          rw [hA] at hq hX
          obtain ⟨u, rfl, _, hD⟩ := hq
          refine zM ?_
          refine AOps.step1 rfl rfl rfl (AStep.neNil Tryd.underlying70 rfl rfl rfl) ?_
          refine zA ?_
          exact AFn.fin' rfl (WkF.refl _) (by simp) how ⟨by rw [hX]; rfl, how, hD.old⟩
      · have h6 : ¬ ks.length = 2 := by simp [kC_len] at hb6; omega
        rw [beq_eq_false_iff_ne.2 h6] at hX
        repeat' first | refine zN ?_ | ((with_reducible refine oj ?_); first | refine zix ?_ | refine zow rfl rfl hi ?_)
        exact AFn.fin' rfl (WkF.refl _) (by simp) hou (hfin _ hX)
    · have h5 : ¬ o = 8 := by simpa using hb5
      rw [if_neg (fun h => h5 h.2), if_neg (by simp), if_neg (by simp), if_neg (by simp)] at hX
      repeat' first | refine zN ?_ | ((with_reducible refine oj ?_); first | refine zix ?_ | refine zow rfl rfl hi ?_)
      exact AFn.fin' rfl (WkF.refl _) (by simp) hou (hfin _ hX)
  rw [if_neg (fun h => hr6 h.1)] at hX
  by_cases hr7 : rule = 7
  · subst hr7
    repeat' first | refine zN ?_ | ((with_reducible refine oj ?_); first | refine zix ?_ | refine zow rfl rfl hi ?_)
    refine ACode.condS rfl (fun hb4 => absurd (by simpa using hb4) h4) (fun hb4 => ?_)
    repeat' first | refine zN ?_ | ((with_reducible refine oj ?_); first | refine zix ?_ | refine zow rfl rfl hi ?_)
    refine ACode.condS rfl (fun hb5 => ?_) (fun hb5 => ?_)
    · have h5 : o = 10 := by simpa using hb5
      subst h5
      rw [if_pos ⟨rfl, rfl⟩] at hX
      have hrl := shp_get (o := 10) (n := nn) (b := b) (k := erTs ks) (a := a.map LAlt.er) hsh rfl
      rw [erTs_eq, List.length_map] at hrl
      obtain ⟨row, rfl⟩ := List.length_eq_one_iff.1 hrl
      have hfi := field_ok hΓ i 10 nn b row [] a (plain_kid hpl (by simp [LTr.kids])) hok hsh ou ho
      rw [← hte] at hfi
      refine zA ?_
      refine AOps.call1 hΓ rfl rfl rfl rfl rfl rfl rfl (by exact ⟨trivial, trivial⟩) hou hfi fun r ow hq hids how => ?_
      cases hA : fieldT (erT t) with
      | none =>
        rw [hA] at hq hX
        obtain ⟨rfl, _, hfr⟩ := hq
        refine AOps.step1 rfl rfl rfl (AStep.neNil0 Tryd.underlying70 rfl rfl rfl) ?_
        refine zA ?_
        exact AFn.fin' rfl (WkF.refl _) (by simp) how ⟨by rw [hX]; rfl, how, hfr⟩
      | some T =>
        rw [hA] at hq hX
        obtain ⟨u, rfl, _, hD⟩ := hq
        refine AOps.step1 rfl rfl rfl (AStep.neNil Tryd.underlying70 rfl rfl rfl) ?_
        refine zA ?_
        exact AFn.fin' rfl (WkF.refl _) (by simp) how ⟨by rw [hX]; rfl, how, hD.old⟩
    · have h5 : ¬ o = 10 := by simpa using hb5
      rw [if_neg (fun h => h5 h.2), if_neg (by simp), if_neg (by simp)] at hX
      repeat' first | refine zN ?_ | ((with_reducible refine oj ?_); first | refine zix ?_ | refine zow rfl rfl hi ?_)
      exact AFn.fin' rfl (WkF.refl _) (by simp) hou (hfin _ hX)
  rw [if_neg (fun h => hr7 h.1)] at hX
  by_cases hr5 : rule = 5
  · subst hr5
    repeat' first | refine zN ?_ | ((with_reducible refine oj ?_); first | refine zix ?_ | refine zow rfl rfl hi ?_)
    refine ACode.condS rfl (fun hb4 => absurd (by simpa using hb4) h4) (fun hb4 => ?_)
    repeat' first | refine zN ?_ | ((with_reducible refine oj ?_); first | refine zix ?_ | refine zow rfl rfl hi ?_)
    refine ACode.condS rfl (fun hb5 => ?_) (fun hb5 => ?_)
    · have h5 : o = 7 := by simpa using hb5
      subst h5
      rw [if_pos ⟨rfl, rfl⟩] at hX
      have hrl := (shp_case (o := 7) (n := nn) (b := b) (k := erTs ks) (a := a.map LAlt.er) hsh rfl).1
      rw [erTs_eq, List.length_map, List.length_map] at hrl
      obtain ⟨con, rs, rfl⟩ : ∃ con rs, ks = con :: rs := by
        cases ks with
        | nil => simp at hrl
        | cons c r => exact ⟨c, r, rfl⟩
      have hrm : con ∈ (LTr.mk i 7 nn none b (con :: rs) a).kids := by simp [LTr.kids]
      have hch := chosen_ok hΓ i 7 nn b con rs a (plain_kid hpl hrm) hpl.2.1 (by simpa using hrl) hok hsh ou ho
      have hro := owns_kid ho hrm
      have hcop : (kidT (erT t) 0).op = (erT con).op := by rw [hte]; rfl
      rw [hcop] at hX
      cases con with
      | mk j op2 n2 nb2 b2 ks2 a2 =>
      have hj : ou j = some (.cells (lC (.mk j op2 n2 nb2 b2 ks2 a2))) := owns_node hro
      simp only [lC, bC] at hj
      have hX : X = (op2 == 6 && (chosenT (erT t)).isSome) := hX
      rw [← hte] at hch
      repeat' first | refine zN ?_ | ((with_reducible refine oj ?_); first | refine zix ?_ | refine zow rfl rfl hi ?_ | refine zow rfl rfl hj ?_)
      refine AOps.splitS rfl rfl rfl rfl (fun hb6 => ?_) (fun hb6 => ?_)
      · rw [hb6, Bool.true_and] at hX
        refine zM ?_
        refine AOps.call1 hΓ rfl rfl rfl rfl rfl rfl rfl (by exact ⟨trivial, trivial⟩) hou hch fun r ow hq hids how => ?_
        cases hA : chosenT (erT t) with
        | none =>
          rw [hA] at hq hX
          obtain ⟨rfl, _, hfr⟩ := hq
          refine zM ?_
          refine AOps.step1 rfl rfl rfl (AStep.neNil0 Tryd.underlying70 rfl rfl rfl) ?_
          refine zA ?_
          exact AFn.fin' rfl (WkF.refl _) (by simp) how ⟨by rw [hX]; rfl, how, hfr⟩
        | some T =>
          rw [hA] at hq hX
          obtain ⟨u, rfl, _, hD⟩ := hq
          refine zM ?_
          refine AOps.step1 rfl rfl rfl (AStep.neNil Tryd.underlying70 rfl rfl rfl) ?_
          refine zA ?_
          exact AFn.fin' rfl (WkF.refl _) (by simp) how ⟨by rw [hX]; rfl, how, hD.old⟩
      · rw [hb6, Bool.false_and] at hX
        repeat' first | refine zN ?_ | ((with_reducible refine oj ?_); first | refine zix ?_ | refine zow rfl rfl hi ?_)
        exact AFn.fin' rfl (WkF.refl _) (by simp) hou (hfin _ hX)
    · have h5 : ¬ o = 7 := by simpa using hb5
      rw [if_neg (fun h => h5 h.2), if_neg (by simp)] at hX
      repeat' first | refine zN ?_ | ((with_reducible refine oj ?_); first | refine zix ?_ | refine zow rfl rfl hi ?_)
      exact AFn.fin' rfl (WkF.refl _) (by simp) hou (hfin _ hX)
  rw [if_neg (fun h => hr5 h.1)] at hX
  by_cases hr1 : rule = 1
  · subst hr1
    repeat' first | refine zN ?_ | ((with_reducible refine oj ?_); first | refine zix ?_ | refine zow rfl rfl hi ?_)
    refine ACode.condS rfl (fun hb4 => absurd (by simpa using hb4) h4) (fun hb4 => ?_)
    repeat' first | refine zN ?_ | ((with_reducible refine oj ?_); first | refine zix ?_ | refine zow rfl rfl hi ?_)
    refine ACode.condS rfl (fun hb5 => ?_) (fun hb5 => ?_)
    · have h5 : o = 3 := by simpa using hb5
      subst h5
      rw [if_pos ⟨rfl, rfl⟩] at hX
      obtain ⟨k0, ks', rfl⟩ : ∃ k0 ks', ks = k0 :: ks' := by
        have := (shp_app (o := 3) (n := nn) (b := b) (k := erTs ks) (a := a.map LAlt.er) hsh rfl).1
        cases ks with
        | nil => simp [erTs] at this
        | cons k0 ks' => exact ⟨k0, ks', rfl⟩
      have hk0m : k0 ∈ (LTr.mk i 3 nn none b (k0 :: ks') a).kids := by simp [LTr.kids]
      have hkt : kidT (erT t) 0 = erT k0 := by rw [hte]; rfl
      have hkl2 : (erT t).kids.length = ks'.length + 1 := by rw [hte, er_kids]; simp [LTr.kids]
      rw [hkt, hkl2] at hX
      have hk0o := owns_kid ho hk0m
      have hpk0 := plain_kid hpl hk0m
      cases k0 with
      | mk j op2 n2 nb2 b2 ks2 a2 =>
      obtain rfl : nb2 = none := hpk0.1
      have hj : ou j = some (.cells (lC (.mk j op2 n2 none b2 ks2 a2))) := owns_node hk0o
      simp only [lC, bC] at hj
      have hX : X = (op2 == 2 && ((b2.length : Int) == ((ks'.length + 1 : Nat) : Int) - 1)) := hX
      refine zA ?_
      by_cases h2 : op2 = 2
      · refine ACode.drawX tabOk 29 [(3, .one (.sl 1 (kC (.mk j op2 n2 none b2 ks2 a2 :: ks')))), (4, .one (.box [.ptr (.o j) 0])), (8, .one (int op2)), (9, .one (.lit (.bool true))), (14, .one (.sl 1 (kC (.mk j op2 n2 none b2 ks2 a2 :: ks')))), (15, .one (.box [.ptr (.o j) 0])), (19, .one (.sl 1 (b2.map cI))), (24, .one (.sl 1 (kC (.mk j op2 n2 none b2 ks2 a2 :: ks')))), (26, .one (int (((kC (.mk j op2 n2 none b2 ks2 a2 :: ks')).length : Int) - 1)))] follows (by kernel_rfl) rfl rfl rfl rfl ?_ ?_
        · refine .step rfl (HStep.plain rfl (AStep.loadOwn tabOk rfl rfl rfl rfl rfl hi rfl)) ?_
          refine .step rfl (HStep.plain rfl (AStep.indexAddr tabOk rfl rfl rfl rfl rfl rfl (.inl rfl) rfl (by decide) rfl)) ?_
          refine .step rfl (HStep.plain rfl (AStep.loadOwn tabOk rfl rfl rfl rfl rfl hj rfl)) ?_
          refine .step rfl (HStep.litB tabOk rfl (by simp [h2])) ?_
          refine .step rfl (HStep.guarded rfl rfl rfl (AStep.loadOwn tabOk rfl rfl rfl rfl rfl hi rfl)) ?_
          refine .step rfl (HStep.guarded rfl rfl rfl (AStep.indexAddr tabOk rfl rfl rfl rfl rfl rfl (.inl rfl) rfl (by decide) rfl)) ?_
          refine .step rfl (HStep.guarded rfl rfl rfl (AStep.loadOwn tabOk rfl rfl rfl rfl rfl hj rfl)) ?_
          refine .step rfl (HStep.guarded rfl rfl rfl (AStep.loadOwn tabOk rfl rfl rfl rfl rfl hi rfl)) ?_
          exact .step rfl (HStep.guarded rfl rfl rfl (AStep.arith rfl rfl rfl (.inr (.inl ⟨rfl, rfl⟩)) (inRange_i64 (by rw [kC_len]; have : (0 : Int) ≤ ((LTr.mk j op2 n2 none b2 ks2 a2 :: ks').length : Int) := Int.natCast_nonneg _; omega) (by rw [kC_len]; omega)))) .nil
        refine zA ?_
        refine AFn.fin' rfl (WkF.refl _) (by simp) hou (hfin _ ?_)
        rw [hX, h2]
        simp [kC_len]
      · refine ACode.drawX tabOk 29 [(3, .one (.sl 1 (kC (.mk j op2 n2 none b2 ks2 a2 :: ks')))), (4, .one (.box [.ptr (.o j) 0])), (8, .one (int op2)), (9, .one (.lit (.bool false)))] follows (by kernel_rfl) rfl rfl rfl rfl ?_ ?_
        · refine .step rfl (HStep.plain rfl (AStep.loadOwn tabOk rfl rfl rfl rfl rfl hi rfl)) ?_
          refine .step rfl (HStep.plain rfl (AStep.indexAddr tabOk rfl rfl rfl rfl rfl rfl (.inl rfl) rfl (by decide) rfl)) ?_
          refine .step rfl (HStep.plain rfl (AStep.loadOwn tabOk rfl rfl rfl rfl rfl hj rfl)) ?_
          exact .step rfl (HStep.litB tabOk rfl (by simp [h2])) .nil
        refine zA ?_
        refine AFn.fin' rfl (WkF.refl _) (by simp) hou (hfin _ ?_)
        rw [hX, beq_eq_false_iff_ne.2 h2]; rfl
    · have h5 : ¬ o = 3 := by simpa using hb5
      rw [if_neg (fun h => h5 h.2)] at hX
      repeat' first | refine zN ?_ | ((with_reducible refine oj ?_); first | refine zix ?_ | refine zow rfl rfl hi ?_)
      exact AFn.fin' rfl (WkF.refl _) (by simp) hou (hfin _ hX)
  rw [if_neg (fun h => hr1 h.1)] at hX
  repeat' first | refine zN ?_ | ((with_reducible refine oj ?_); first | refine zix ?_ | refine zow rfl rfl hi ?_) | (with_reducible refine oj ?_; refine AOps.splitS rfl rfl rfl rfl (fun hb => ?_) (fun hb => ?_)) | (with_reducible refine ok ?_; first | refine ACode.condS rfl (fun hb => ?_) (fun hb => ?_) | refine ACode.cond rfl (fun hb => ?_) (fun hb => ?_))
  all_goals first
    | (exfalso; simp at *; omega)
    | exact AFn.fin' rfl (WkF.refl _) (by simp) hou (hfin _ hX)
end Go.Proofs.YtgdionbeeodaaaaDoor
namespace Go.CoreX
def nextF (e : List Ex) (r : Int) : Option (Int × Nat) := ((growL e).zipIdx.find? fun p => canT r p.1 (manyE e)).map fun p => (r, p.2)
def nextR (e : List Ex) : Int × Int × Bool × Int := if check e ≠ 0 then (0, 0, false, check e) else match nextE e with
  | none => (0, 0, false, 0)
  | some (r, i) => (r, i, true, 0)
end Go.CoreX
namespace Go.Proofs.YtgdionbeeodaaaaDoor
open Go Go.Abs Go.CoreX
set_option maxRecDepth 10000
def Γo : List (Nat × List AC) := [(0, orC), (1, arC)]
theorem hΓo : ∀ g cs, (g, cs) ∈ Γo → idsL isO cs := by
  intro g cs h
  simp only [Γo, List.mem_cons, List.not_mem_nil, or_false, Prod.mk.injEq] at h
  rcases h with ⟨_, rfl⟩ | ⟨_, rfl⟩
  · simp [orC]
  · exact hΓc 1 arC (by simp [Γc])
theorem hco : ∀ g cs, (g, cs) ∈ Γc → (g, cs) ∈ Γo := by
  intro g cs h
  simp only [Γc, List.mem_cons, List.not_mem_nil, or_false, Prod.mk.injEq] at h
  obtain ⟨rfl, rfl⟩ := h
  simp [Γo]
theorem APure.o {g : Nat} {args : List FV} {r : FV} (h : APure Tryd.prog Γc g args r) : APure Tryd.prog Γo g args r := h.moreG hco hΓo
set_option maxHeartbeats 1000000 in
theorem Next_ok (e : List Ex) (he : okB e) : APure Tryd.prog Γo 30 [.one (.sl 5 (e.map cEx))] (.tup [.agg [int (nextR e).1, int (nextR e).2.1, int 0], .one (.lit (.bool (nextR e).2.2.1)), .one (int (nextR e).2.2.2)]) := by
  have c1 := APure.o (Check_ok e he)
  have hel := he.eo.l
  intro ou
  refine AFn.forget ?_
  refine AFn.walk 46 tabOk Tryd.func30 rfl (by kernel_rfl) rfl rfl fun hou => ?_
  refine zA ?_
  refine zca hΓo c1 hou ?_
  refine zA ?_
  refine ACode.cond rfl (fun hb => ?_) (fun hb => ?_)
  · have h : check e ≠ 0 := by simpa using hb
    have hR : nextR e = (0, 0, false, check e) := by unfold nextR; rw [if_pos h]
    rw [hR]
    refine zA ?_
    exact AFn.fin' rfl (WkF.ofEq rfl) (by simp) hou ⟨ou, fun _ _ h => h, rfl, rfl⟩
  have h : check e = 0 := by simpa using hb
  have t1 := body_isTree h
  have hR : nextR e = match nextE e with
      | none => (0, 0, false, 0)
      | some (r, i) => (r, i, true, 0) := by unfold nextR; rw [if_neg (by simpa using h)]
  rw [hR]
  refine zA ?_
  refine AOps.call1 hΓo rfl rfl rfl rfl rfl rfl rfl (by simp) hou (open_ok hΓo e he.eo t1.k t1.ne ou) fun r ov hq hids hov => ?_
  obtain ⟨lts, root, rfl, hL, hr, hN⟩ := hq
  refine zA ?_
  refine AOps.call1 hΓo rfl rfl rfl rfl rfl rfl rfl (by simp) hov (occurrences_ok hΓo e hel ov) fun r ov2 hq hids2 hov2 => ?_
  obtain ⟨km, ck, l, f, rfl, hkm, hI, hf, _, hext⟩ := hq
  have hown2 : Owns ov2 (lts.flatMap ownO) := fun p hp => hext _ _ (hN.own p hp)
  have hold2 : ∀ m o, ou m = some o → ov2 m = some o := fun m o hm => hext _ _ (hN.oldS hm)
  have hll : lts.length = e.length := hL.len
  obtain ⟨W, hW⟩ : ∃ W, W = [AC.sl 1 (kC lts), AC.ptr (.o root.id) 0] := ⟨_, rfl⟩
  have hWi : idsL isO W := by rw [hW]; simp
  have hWl : ∀ k, idsL (inL k) W := fun k => by rw [hW]; simp [inL]
  rw [← hW]
  refine zA ?_
  refine ACode.loopR hΓo (α := Nat × Outer) (fun c => [(23, .one (int c.1)), (22, .agg orC), (7, .one (.mp (.o km))), (6, .one (.box W)), (2, .one (.ptr (.l 0) 0))])
    (fun c => ⟨1, [(0, .cells [int 0, int 0, int 0])], c.2⟩) (fun m c => c.1 ≤ 10 ∧ (nextE e = (orderR.drop c.1).findSome? (nextF e) ∧ (∀ j o, ov2 j = some o → c.2 j = some o) ∧ OuOk c.2) ∧ m = 10 - c.1) (a0 := (0, ov2)) (ρ := id) ⟨by omega, ⟨rfl, fun _ _ h => h, hov2⟩, rfl⟩
    (LessR.of rfl (FrSub.cons rfl (.ofEq rfl) (FrSub.cons rfl (.ofEq rfl) (FrSub.cons rfl (.ofEq rfl) (FrSub.consP rfl (.ofEq rfl) (by simp [hWi]) (FrSub.cons rfl (.ofEq rfl) .nil))))) (by simp [hWl, orC]) (LoSub.cons rfl rfl rfl (by simp) .nil) rfl rfl hov2) fun m c hc => ?_
  obtain ⟨ri, ow⟩ := c
  obtain ⟨hri, ⟨hne, how, hokw⟩, rfl⟩ := hc
  dsimp only at hri hne how hokw
  refine zA ?_
  refine ACode.cond rfl (fun hb2 => ?_) (fun hb2 => ?_)
  · have hlt : ri < 10 := by simp at hb2; omega
    obtain ⟨rule, hrule⟩ := get_of_lt (l := orderR) (i := ri) hlt
    obtain ⟨q1, q2⟩ := List.getElem?_eq_some_iff.1 hrule
    rw [List.drop_eq_getElem_cons q1, q2, List.findSome?_cons] at hne
    have hor : orC[((ri : Nat) : Int).toNat]? = some (int rule) := by
      rw [Int.toNat_natCast, show orC = orderR.map int from rfl, List.getElem?_map, hrule]; rfl
    refine zA ?_
    refine AOps.step1 rfl rfl rfl (AStep.indexAgg tabOk rfl rfl rfl rfl rfl rfl rfl rfl (by omega) (by show _ < ((10 : Nat) : Int); omega) hor) ?_
    refine zA ?_
    rw [hW]
    refine zA ?_
    refine ACode.loopR hΓo (α := Nat × Outer) (fun c => [(31, .one (int c.1)), (30, .one (int (kC lts).length)), (29, .one (.sl 1 (kC lts))), (9, .one (int rule)), (23, .one (int ri)), (22, .agg orC), (7, .one (.mp (.o km))), (6, .one (.box W)), (2, .one (.ptr (.l 0) 0))])
      (fun c => ⟨1, [(0, .cells [int 0, int 0, int 0])], c.2⟩) (fun m c => c.1 ≤ e.length ∧ (nextF e rule = ((((growL e).zipIdx.drop c.1).find? fun p => canT rule p.1 (manyE e)).map fun p => (rule, p.2)) ∧ (∀ j o, ov2 j = some o → c.2 j = some o) ∧ OuOk c.2) ∧ m = e.length - c.1) (a0 := (0, ow)) (ρ := id) ⟨by omega, ⟨rfl, how, hokw⟩, rfl⟩
      (LessR.of rfl ?_ (by simp [hWl, orC]) (LoSub.cons rfl rfl rfl (by simp) .nil) rfl rfl hokw) fun m c hc => ?_
    · refine FrSub.cons rfl (.ofEq rfl) (FrSub.cons rfl (.ofEq rfl) (FrSub.consP rfl (.ofEq rfl) (by simp) (FrSub.cons rfl (.ofEq rfl) (FrSub.cons rfl (.ofEq rfl) (FrSub.cons rfl (.ofEq rfl) (FrSub.cons rfl (.ofEq rfl) (FrSub.consP rfl (.ofEq (by rw [hW])) (by simp [hWi]) (FrSub.cons rfl (.ofEq rfl) .nil))))))))
    obtain ⟨j, ox⟩ := c
    obtain ⟨hjl, ⟨hnf, hox, hokx⟩, rfl⟩ := hc
    dsimp only at hjl hnf hox hokx
    refine zA ?_
    refine ACode.cond rfl (fun hb3 => ?_) (fun hb3 => ?_)
    · have hp : j < e.length := by simp [kC_len] at hb3; omega
      obtain ⟨x, hx⟩ := get_of_lt hp
      obtain ⟨id, nb, a, ht0, ha, hnb, hab⟩ := hL.at_ j x hx
      obtain rfl : nb = none := hnb
      obtain ⟨ks, hks⟩ : ∃ ks, ks = x.kids.map fun q => lts.getD q.toNat default := ⟨_, rfl⟩
      rw [← hks] at ht0
      obtain ⟨t, hte⟩ : ∃ t, t = LTr.mk id x.op x.n none x.binds ks a := ⟨_, rfl⟩
      have ht : lts[j]? = some t := by rw [hte]; exact ht0
      have hti : t.id = id := by rw [hte]; rfl
      have her : erT t = treeAt e j := hL.er t1.k _ j t (Nat.lt_succ_self _) ht
      have hwd : allT (fun l => l.op = 1 → -1073741824 ≤ l.n ∧ l.n ≤ 1073741823) (erT t) := by rw [her]; exact allT_treeAt t1 (check_words h) hp
      have hOx : Owns ox (objs t) := fun p hpp => hox _ _ (hown2 p (hL.own t1.k _ j t (Nat.lt_succ_self _) ht p hpp))
      have hzl : (growL e).zipIdx[j]? = some (treeAt e j, j) := by
        rw [List.getElem?_zipIdx]
        unfold treeAt
        rw [List.getD_eq_getElem?_getD, List.getElem?_eq_getElem (by rw [growL_len]; exact hp)]
        simp
      obtain ⟨z1, z2⟩ := List.getElem?_eq_some_iff.1 hzl
      rw [List.drop_eq_getElem_cons z1, z2, List.find?_cons] at hnf
      have hcan := can_ok (Γ := Γo) hΓo rule id x.op x.n x.binds ks a (by rw [← hte]; exact hL.plain t1.k _ j t (Nat.lt_succ_self _) ht) (by rw [← hte, her]; exact treeAt_ok he t1 hp) (by rw [← hte, her]; exact allT_treeAt t1 (check_shp h) hp) (by rw [← hte, her]; have := cnt_at h hp; omega)
        (fun s hs h1 => by
          have h2 := allT_kid hwd (er_kid (t := t) (s := s) (by rw [hte]; exact hs))
          cases hse : erT s with
          | mk o' n' b' k' a' =>
            rw [hse] at h2 h1
            exact h2.1 h1) ox (by rw [← hte]; exact hOx) km ck l f (manyE e) (hox _ _ hkm) hI hf
      rw [← hte, her] at hcan
      refine zA ?_
      refine AOps.step1 rfl rfl rfl (AStep.indexAddr tabOk rfl rfl rfl rfl rfl rfl (.inl rfl) rfl (by omega) (kC_get ht)) ?_
      refine zA ?_
      rw [hti]
      refine AOps.call1 hΓo rfl rfl rfl rfl rfl rfl rfl (by exact ⟨trivial, trivial, trivial, trivial⟩) hokx hcan fun r oy hq _ hoy => ?_
      obtain ⟨rfl, _, hyx⟩ := hq
      refine zA ?_
      refine ACode.condS rfl (fun hbc => ?_) (fun hbc => ?_)
      · rw [hbc] at hnf
        have hnf : nextF e rule = some (rule, j) := hnf
        rw [hnf] at hne
        have hne : nextE e = some (rule, j) := hne
        rw [hne]
        refine zA ?_
        exact AFn.fin' rfl (WkF.ofEq rfl) (by simp) hoy ⟨ou, fun m o hm => hyx _ _ (hox _ _ (hold2 m o hm)), rfl, rfl⟩
      · rw [hbc] at hnf
        have hnf : nextF e rule = ((((growL e).zipIdx.drop (j + 1)).find? fun p => canT rule p.1 (manyE e)).map fun p => (rule, p.2)) := hnf
        refine zM ?_
        exact cInv ⟨e.length - (j + 1), (j + 1, oy), fun k => k, by omega, ⟨by omega, ⟨hnf, fun m o hm => hyx _ _ (hox m o hm), hoy⟩, rfl⟩, LessR.of rfl (FrSub.cons rfl (.ofEq rfl) (FrSub.cons rfl (.ofEq rfl) (FrSub.consP rfl (.ofEq rfl) (by simp) (FrSub.cons rfl (.ofEq rfl) (FrSub.cons rfl (.ofEq rfl) (FrSub.cons rfl (.ofEq rfl) (FrSub.cons rfl (.ofEq rfl) (FrSub.consP rfl (.ofEq rfl) (by simp [hWi]) (FrSub.cons rfl (.ofEq rfl) .nil))))))))) (by simp [hWl, orC]) (LoSub.cons rfl rfl rfl (by simp) .nil) rfl rfl hoy⟩
    · have hjl2 : j = e.length := by simp [kC_len] at hb3; omega
      subst hjl2
      rw [List.drop_eq_nil_of_le (by rw [List.length_zipIdx, growL_len]; exact Nat.le_refl _)] at hnf
      have hnf : nextF e rule = none := hnf
      rw [hnf] at hne
      have hne : nextE e = (orderR.drop (ri + 1)).findSome? (nextF e) := hne
      refine zM ?_
      exact cInv ⟨10 - (ri + 1), (ri + 1, ox), fun k => k, by omega, ⟨by omega, ⟨hne, hox, hokx⟩, rfl⟩, LessR.of rfl (FrSub.cons rfl (.ofEq rfl) (FrSub.cons rfl (.ofEq rfl) (FrSub.cons rfl (.ofEq rfl) (FrSub.consP rfl (.ofEq (by rw [hW])) (by simp [← hW, hWi]) (FrSub.cons rfl (.ofEq rfl) .nil))))) (by simp [hWl, orC]) (LoSub.cons rfl rfl rfl (by simp) .nil) rfl rfl hokx⟩
  · have hri2 : ri = 10 := by simp at hb2; omega
    subst hri2
    have hne : nextE e = none := hne
    rw [hne]
    refine zA ?_
    exact AFn.fin' rfl (WkF.ofEq rfl) (by simp) hokw ⟨ou, fun m o hm => how _ _ (hold2 m o hm), rfl, rfl⟩
end Go.Proofs.YtgdionbeeodaaaaDoor
namespace Go.Proofs.YtgdionbeeodaaaaDoor
open Go Go.Abs Go.CoreX
set_option maxRecDepth 10000
def cS (s : Step3) : List AC := [int s.1, int s.2.1, int s.2.2]
theorem ids_cS (p : Abs.Id → Prop) (l : List Step3) : idsS p (l.map cS) := idsS_map (f := cS) (fun s => by simp [cS]) l
@[simp] theorem ids_cS_l (k : Nat) (l : List Step3) : idsS (inL k) (l.map cS) := ids_cS _ l
@[simp] theorem ids_cS_o (l : List Step3) : idsS isO (l.map cS) := ids_cS _ l
theorem apply_okB {e : List Ex} (he : okB e) {r p n : Int} (h : (applyE e r p n).2 = 0) : okB (applyE e r p n).1 := by
  obtain ⟨hc, _, ⟨hp0, hp1⟩, X, hX, hck, hE⟩ := applyE_res h
  have t1 := body_isTree hc
  rw [hE]
  have hpX : allT pOk X := res_pOk (nodes := growL e) (root := grow e) (t := treeAt e p.toNat) (okT_pOk _ (treeAt_ok he t1 (by omega))) (fun s hs => by
    obtain ⟨q, hq1, hq2⟩ := List.getElem_of_mem hs
    rw [growL_len] at hq1
    have : treeAt e q = s := by unfold treeAt; rw [List.getD_eq_getElem?_getD, List.getElem?_eq_getElem (by rw [growL_len]; exact hq1), hq2]; rfl
    rw [← this]; exact okT_pOk _ (treeAt_ok he t1 hq1)) hX
  refine okB_list (pOk_growLR t1.k (fun y hy => okB_labs he _ (List.mem_map_of_mem (f := labE e) hy)) p.toNat hpX _ _ (Nat.lt_succ_self _) (by have := List.length_pos_iff.2 t1.ne; omega)) ?_
  obtain ⟨p1, _⟩ := check_parts hck
  obtain ⟨q1, _, _⟩ := (treeErr_iff _).1 p1
  have h2 := cntN_list (growR e p.toNat X) []
  simp only [List.length_nil] at h2
  show cntN (growR e p.toNat X) ≤ 1048576
  omega
theorem order_okB {e : List Ex} (he : okB e) (h : check e = 0) : okB (listT [] (grow e)) := by
  have t1 := body_isTree h
  refine okB_list (okT_pOk _ (he.t t1.k t1.ne)) ?_
  have h1 := len_list h
  have h2 := cntN_list (grow e) []
  have := he.eo.l
  simp only [List.length_nil] at h2
  omega
theorem order_rule {r : Int} (h : r ∈ orderR) : r ≠ 10 ∧ r ≠ 12 := by
  simp [orderR] at h
  omega
set_option maxHeartbeats 1000000 in
theorem Simp_ok (e : List Ex) (he : okB e) (b : Int) : APure Tryd.prog Γo 28 [.one (.sl 5 (e.map cEx)), .one (int b)] (.tup [.one (.sl 5 ((simpE e b).1.map cEx)), .one (.sl 3 ((simpE e b).2.1.map cS)), .one (int (simpE e b).2.2)]) := by
  have c1 := APure.o (Check_ok e he)
  intro ou
  refine AFn.walk 56 tabOk Tryd.func28 rfl (by kernel_rfl) rfl rfl fun hou => ?_
  refine zA ?_
  refine zca hΓo c1 hou ?_
  refine zA ?_
  refine ACode.cond rfl (fun hb => ?_) (fun hb => ?_)
  · have h : check e ≠ 0 := by simpa using hb
    have hR : simpE e b = ([], [], check e) := by unfold simpE; rw [if_pos h]
    rw [hR]
    refine zA ?_
    exact APure.fin rfl (WkF.tup (.cons (.one (.nilS 5)) (.cons (.one (.nilS 3)) (.cons (.refl _) .nil)))) (by simp) hou rfl
  have h : check e = 0 := by simpa using hb
  refine zA ?_
  refine AOps.splitS rfl rfl rfl rfl (fun hb1 => ?_) (fun hb1 => ?_)
  · have h1 : b < 0 := by simpa using hb1
    have hR : simpE e b = ([], [], 4) := by unfold simpE; rw [if_neg (by simpa using h), if_pos (.inl h1)]
    rw [hR]
    refine zA ?_
    exact APure.fin rfl (WkF.tup (.cons (.one (.nilS 5)) (.cons (.one (.nilS 3)) (.cons (.refl _) .nil)))) (by simp) hou rfl
  have h1 : ¬ b < 0 := by simpa using hb1
  refine zA ?_
  refine ACode.cond rfl (fun hb2 => ?_) (fun hb2 => ?_)
  · have h2 : 500 < b := by simpa using hb2
    have hR : simpE e b = ([], [], 4) := by unfold simpE; rw [if_neg (by simpa using h), if_pos (.inr h2)]
    rw [hR]
    refine zA ?_
    exact APure.fin rfl (WkF.tup (.cons (.one (.nilS 5)) (.cons (.one (.nilS 3)) (.cons (.refl _) .nil)))) (by simp) hou rfl
  have h2 : ¬ 500 < b := by simpa using hb2
  obtain ⟨B, rfl⟩ : ∃ B : Nat, b = B := ⟨b.toNat, by omega⟩
  have hR : simpE e (B : Int) = ((stepsE B (listT [] (grow e))).1, (stepsE B (listT [] (grow e))).2, 0) := by unfold simpE; rw [if_neg (by simpa using h), if_neg (by omega), Int.toNat_natCast]
  rw [hR]
  clear hR
  have t1 := body_isTree h
  have hl : (listT [] (grow e)).length ≤ 1048576 := by rw [len_tree t1]; exact he.eo.l
  obtain ⟨E0, hE0⟩ : ∃ E0, E0 = listT [] (grow e) := ⟨_, rfl⟩
  have hOb : okB E0 := by rw [hE0]; exact order_okB he h
  have hOc : check E0 = 0 := by rw [hE0]; exact check_list h
  have hLi := List_ok hΓo (grow e) (he.t t1.k t1.ne) hl
  rw [← hE0] at hLi ⊢
  refine zA ?_
  refine zca hΓo (Grow_ok hΓo e he.eo t1.k t1.ne) hou ?_
  refine zca hΓo hLi hou ?_
  refine zA ?_
  refine ACode.growS 9 29 3 rfl ?_
  refine ACode.loopR hΓo (α := List Ex × List Step3) (fun c => [(9, .one (.gs 3 (c.2.map cS) (.l 0))), (8, .one (.sl 5 (c.1.map cEx))), (1, .one (int B))])
    (fun c => ⟨1, [(0, .tok 29 3 (c.2.map cS).length)], ou⟩) (fun m c => (c.2.length ≤ B ∧ okB c.1 ∧ check c.1 = 0 ∧ stepsE B E0 = ((stepsE (B - c.2.length) c.1).1, c.2 ++ (stepsE (B - c.2.length) c.1).2)) ∧ m = B - c.2.length) (a0 := (E0, [])) (ρ := id) ⟨⟨by simp, hOb, hOc, by simp⟩, rfl⟩
    (LessR.of rfl (FrSub.consGs rfl rfl (by simp) (FrSub.consP rfl (.ofEq rfl) (by simp) (FrSub.cons rfl (.ofEq rfl) .nil))) (by simp) (by repeat' first | exact LoSub.nil | refine zlc ?_ | refine zld ?_ ?_ | rfl) rfl rfl hou) fun m c hc => ?_
  obtain ⟨out, L⟩ := c
  obtain ⟨⟨hLl, hob, hoc, hst⟩, rfl⟩ := hc
  dsimp only at hLl hob hoc hst
  have hlen : ((L.map cS).length : Int) = (L.length : Int) := by simp
  refine zA ?_
  have hstop : ∀ {k : Nat}, B - L.length = k → stepsE k out = (out, []) → stepsE B E0 = (out, L) := fun hk hs => by rw [hst, hk, hs]; simp
  refine ACode.cond rfl (fun hb3 => ?_) (fun hb3 => ?_)
  · have hlt : L.length < B := by simp at hb3; omega
    obtain ⟨k, hk⟩ : ∃ k, B - L.length = k + 1 := ⟨B - L.length - 1, by omega⟩
    have hnx := Next_ok out hob
    refine zA ?_
    cases hn : nextE out with
    | none =>
      have hnr : nextR out = (0, 0, false, 0) := by unfold nextR; rw [if_neg (by simpa using hoc), hn]
      rw [hnr] at hnx
      refine zca hΓo hnx hou ?_
      refine zA ?_
      have hfin := hstop hk (by simp only [stepsE, hn])
      rw [hfin]
      exact APure.fin (r' := .tup [.one (.sl 5 (out.map cEx)), .one (.sl 3 (L.map cS)), .one (int 0)]) rfl (WkF.tup (.cons (.refl _) (.cons (.one (.gsE rfl)) (.cons (.refl _) .nil)))) (by simp) hou rfl
    | some p =>
      obtain ⟨r, i⟩ := p
      have hnr : nextR out = (r, (i : Int), true, 0) := by unfold nextR; rw [if_neg (by simpa using hoc), hn]
      rw [hnr] at hnx
      have hrr := order_rule (next_sound hn).1
      have hap := APure.o (Apply_some out hob r i 0 hrr.1 hrr.2)
      refine zca hΓo hnx hou ?_
      refine zA ?_
      refine AOps.callC hΓo hap rfl rfl rfl rfl rfl rfl rfl hou (by simp [idsF]) ?_
      refine zA ?_
      refine ACode.cond rfl (fun hb4 => ?_) (fun hb4 => ?_)
      · have h4 : ¬ (applyE out r i 0).2 = 0 := by simpa using hb4
        refine zA ?_
        have hfin := hstop hk (by simp only [stepsE, hn, if_neg h4])
        rw [hfin]
        exact APure.fin (r' := .tup [.one (.sl 5 (out.map cEx)), .one (.sl 3 (L.map cS)), .one (int 0)]) rfl (WkF.tup (.cons (.refl _) (.cons (.one (.gsE rfl)) (.cons (.refl _) .nil)))) (by simp) hou rfl
      · have h4 : (applyE out r i 0).2 = 0 := by simpa using hb4
        have hord := apply_ord h4
        have hob2 := apply_okB hob h4
        generalize hA : applyE out r i 0 = A at h4 hord hob2
        refine zA ?_
        refine AOps.app tabOk rfl rfl rfl rfl rfl rfl rfl rfl rfl (Base.gs' _ 29 3 _ _ rfl rfl) (.sl _ _) rfl ?_ ?_ ?_
        · rw [List.length_map]; show (L.length + 1) * 24 ≤ _; omega
        · rw [List.length_map]; show L.length + 1 ≤ _; omega
        refine zA ?_
        obtain ⟨L', hL'⟩ : ∃ L', L' = L ++ [(r, (i : Int), 0)] := ⟨_, rfl⟩
        have hsn : L'.map cS = L.map cS ++ [[int r, int i, int 0]] := by rw [hL', List.map_append]; rfl
        have hll : L'.length = L.length + 1 := by rw [hL']; simp
        refine cInv ⟨B - (L.length + 1), (A.1, L'), fun q => if q = 0 then 2 else q, by show B - (L.length + 1) < B - L.length; omega, ⟨⟨by show L'.length ≤ B; omega, hob2, hord.1, ?_⟩, by rw [hll]⟩, ?_⟩
        · rw [hst, hk]
          have hlk : B - L'.length = k := by omega
          rw [hlk, hL']
          simp only [stepsE, hn, hA, if_pos h4]
          simp
        · show LessR _ _ _ [(9, .one (.gs 3 (L'.map cS) (.l 0))), (8, .one (.sl 5 (A.1.map cEx))), (1, .one (int B))] ⟨1, [(0, .tok 29 3 (L'.map cS).length)], ou⟩
          rw [hsn]
          exact LessR.of rfl (FrSub.consGs rfl rfl (by rw [← hsn]; simp) (FrSub.consP rfl (.ofEq rfl) (by simp) (FrSub.cons rfl (.ofEq rfl) .nil))) (by rw [← hsn]; simp) (by repeat' first | exact LoSub.nil | refine zlc ?_ | refine zld ?_ ?_ | rfl) rfl rfl hou
  · have hlt : B - L.length = 0 := by simp at hb3; omega
    refine zA ?_
    have hfin := hstop hlt (by simp only [stepsE])
    rw [hfin]
    exact APure.fin (r' := .tup [.one (.sl 5 (out.map cEx)), .one (.sl 3 (L.map cS)), .one (int 0)]) rfl (WkF.tup (.cons (.refl _) (.cons (.one (.gsE rfl)) (.cons (.refl _) .nil)))) (by simp) hou rfl
end Go.Proofs.YtgdionbeeodaaaaDoor
namespace Go.Proofs.YtgdionbeeodaaaaDoor
open Go Go.Abs Go.CoreX
set_option maxRecDepth 10000
def mulT : Tr := .mk 8 2 [] [wordT 3, wordT 4] []
def sumT0 : Tr := .mk 8 0 [] [wordT 2, mulT] []
theorem okT_sum0 : okT sumT0 := by simp [sumT0, mulT, wordT, okT, okTs]
theorem okB_sum0 : okB (listT [] sumT0) := okB_list (okT_pOk _ okT_sum0) (by simp [sumT0, mulT, wordT, cntN, cntNs])
theorem SumList_ok : APure Tryd.prog Γo 39 [.one (.box (cNd sumT0))] (.one (.sl 5 ((listT [] sumT0).map cEx))) := NodeList_ok hΓo sumT0 okT_sum0 (by have := cntN_list sumT0 []; simp [sumT0, mulT, wordT, cntN, cntNs] at this ⊢; omega)
theorem simplifyFact_ok : APure Tryd.prog Γo 29 [] (.one (.lit (.bool true))) := by
  have h1 := Simp_ok (listT [] sumT0) okB_sum0 9
  rw [show simpE (listT [] sumT0) 9 = (listT [] (wordT 14), [(6, 3, 0), (6, 2, 0)], 0) from simplify_fact] at h1
  intro ou
  refine AFn.walk 32 tabOk Tryd.func29 rfl (by kernel_rfl) rfl rfl fun hou => ?_
  refine zA ?_
  refine zca hΓo (W_ok hΓo 2) hou ?_
  refine zca hΓo (W_ok hΓo 3) hou ?_
  refine zca hΓo (W_ok hΓo 4) hou ?_
  refine zA ?_
  refine zca hΓo (N_ok (Γ := Γo) 8 2 [wordT 3, wordT 4]) hou ?_
  refine zA ?_
  refine zca hΓo (N_ok (Γ := Γo) 8 0 [wordT 2, mulT]) hou ?_
  refine zca hΓo SumList_ok hou ?_
  refine zA ?_
  refine zca hΓo h1 hou ?_
  refine zM ?_
  refine zca hΓo (W_ok hΓo 14) hou ?_
  refine zM ?_
  refine zca hΓo (APure.o (WordList_ok 14)) hou ?_
  refine zM ?_
  refine zca hΓo (SameListR_ok hΓo (listT [] (wordT 14)) (okB_word 14).eo) hou ?_
  refine zA ?_
  exact APure.fin rfl (WkF.ofEq rfl) (by simp) hou rfl
theorem steps_okB : ∀ (k : Nat) {e : List Ex}, okB e → okB (stepsE k e).1
  | 0, e, h => h
  | k + 1, e, h => by
    simp only [stepsE]
    split
    · exact h
    · rename_i r i _
      split
      · rename_i hk; exact steps_okB k (apply_okB h hk)
      · exact h
end Go.Proofs.YtgdionbeeodaaaaDoor
namespace Go.Proofs.YtgdionbeeodaaaaDoor
open Go Go.Abs Go.CoreX
set_option maxRecDepth 10000
variable {Γ : List (Nat × List AC)}
def rootNo (a b : Tr) : Prop := a.op ≠ b.op ∨ (a.op = b.op ∧ a.kids.length = b.kids.length ∧ a.binds.length = b.binds.length ∧ a.alts.length = b.alts.length ∧ a.op ≠ 0 ∧ a.n ≠ b.n)
end Go.Proofs.YtgdionbeeodaaaaDoor
namespace Go.Proofs.YtgdionbeeodaaaaDoor
open Go Go.Abs Go.CoreX
set_option maxRecDepth 10000
end Go.Proofs.YtgdionbeeodaaaaDoor
namespace Go.CoreX
end Go.CoreX
namespace Go.Proofs.YtgdionbeeodaaaaDoor
open Go Go.Abs Go.CoreX
set_option maxRecDepth 10000
theorem modN (n : Int) (m : Int) (hm : 0 < m) : ∃ k : Nat, (if n > 0 then n else 0).tmod m = (k : Int) ∧ (k : Int) < m := by
  have h1 : 0 ≤ (if n > 0 then n else 0).tmod m := Int.tmod_nonneg _ (by split <;> omega)
  have h2 : (if n > 0 then n else 0).tmod m < m := Int.tmod_lt_of_pos _ hm
  exact ⟨((if n > 0 then n else 0).tmod m).toNat, by omega, by omega⟩
end Go.Proofs.YtgdionbeeodaaaaDoor
namespace Go.Proofs.YtgdionbeeodaaaaDoor
open Go Go.Abs Go.CoreX
set_option maxRecDepth 10000
variable {Γ : List (Nat × List AC)}
theorem AStep.neSt {T : Tab} {N : Nat} {o : Oper} {fr : Fr} {σ : St} {x y : Operand} {p q : Step3} (ho : o.op = .binOp .neq 29 x y 29) (hx : aEval Γ fr x = some (.agg (cS p))) (hy : aEval Γ fr y = some (.agg (cS q))) : AStep { P := Tryd.prog, T := T, Γ := Γ, N := N } o fr σ (.one (.lit (.bool (!(p.1 == q.1 && (p.2.1 == q.2.1 && p.2.2 == q.2.2)))))) σ := by
  refine AStep.quiet fun F w C tmps hi hf => ⟨.bool (!(p.1 == q.1 && (p.2.1 == q.2.1 && p.2.2 == q.2.2))), ?_, rfl, rfl⟩
  have h1 := aEval_ok (a := ⟨tmps, []⟩) hi hf hx
  have h2 := aEval_ok (a := ⟨tmps, []⟩) hi hf hy
  simp only [RF, cS, RV, R] at h1 h2
  obtain ⟨xs, h1, u1, us1, rfl, ⟨rfl, _⟩, u2, us2, rfl, ⟨rfl, _⟩, u3, us3, rfl, ⟨rfl, _⟩, rfl⟩ := h1
  obtain ⟨ys, h2, v1, vs1, rfl, ⟨rfl, _⟩, v2, vs2, rfl, ⟨rfl, _⟩, v3, vs3, rfl, ⟨rfl, _⟩, rfl⟩ := h2
  have hS : Tryd.prog.underlying 29 = some (.struct (Tryd.prog.fieldsOf 29)) := by kernel_rfl
  have hp : Tryd.prog.stoodInHeld 29 = false := by kernel_rfl
  have hm : Tryd.prog.eqGuardType Tryd.prog.depth 29 = false := by kernel_rfl
  have u3 := Tryd.underlying3
  have a3 := Tryd.isAgg3
  have z3 := Tryd.sizeOf3
  have hb : ∀ w, (binOp .neq 29 (.agg #[.int .i64 p.1, .int .i64 p.2.1, .int .i64 p.2.2]) (.agg #[.int .i64 q.1, .int .i64 q.2.1, .int .i64 q.2.2])).run Tryd.prog w = .ok (.bool (!(p.1 == q.1 && (p.2.1 == q.2.1 && p.2.2 == q.2.2)))) w := fun w => by
    rw [run_neq_struct, show (10000 : Nat) = 9999 + 1 from rfl, run_equalIn_agg w 9999 29 _ _ hS hp]
    simp only [Program.fieldsOf, Tryd.underlying29]
    go_simp
    by_cases h1 : p.1 = q.1 <;> by_cases h2 : p.2.1 = q.2.1 <;> by_cases h3 : p.2.2 = q.2.2 <;> simp [h1, h2, h3]
  unfold execOp
  simp only [ho, h1, h2, Sem.run_bind, run_eqGuard_agg _ _ _ _ _ _ _ hm, Result.andThen_ok]
  rw [hb]
  simp
theorem EqualS_ok (hΓ : ∀ g cs, (g, cs) ∈ Γ → idsL isO cs) (xs : List Step3) (hx : xs.length ≤ 1048576) :
    APure Tryd.prog Γ 37 [.one (.sl 3 (xs.map cS)), .one (.sl 3 (xs.map cS))] (.one (.lit (.bool true))) := by
  intro ou
  refine AFn.walk 26 tabOk Tryd.func37 rfl (by kernel_rfl) rfl rfl fun hou => ?_
  refine zA ?_
  refine ACode.cond rfl (fun hb => absurd hb (by simp)) (fun hb => ?_)
  clear hb
  refine zA ?_
  refine ACode.loopR hΓ (α := Nat) (fun j => [(13, .one (int j)), (12, .one (int (xs.map cS).length)), (1, .one (.sl 3 (xs.map cS))), (0, .one (.sl 3 (xs.map cS)))])
    (fun j => ⟨0, [], ou⟩) (fun m j => j ≤ xs.length ∧ m = xs.length - j) (a0 := 0) (ρ := id) ⟨by omega, rfl⟩ (LessR.of rfl (by (repeat' first | exact FrSub.nil | refine zfc ?_ | refine zfo ?_ | refine zfp ?_)) (by simp) (by repeat' first | exact LoSub.nil | refine zlc ?_ | refine zld ?_ ?_ | rfl) rfl rfl hou) fun m j hj => ?_
  obtain ⟨hjl, rfl⟩ := hj
  refine zA ?_
  refine ACode.cond rfl (fun hb2 => ?_) (fun hb2 => ?_)
  · have hlt : j < xs.length := by simpa using hb2
    obtain ⟨x, hx1⟩ := get_of_lt hlt
    refine zA ?_
    refine ACode.drawX tabOk 8 [(2, .one (.box (cS x))), (6, .one (.box (cS x)))] follows (by kernel_rfl) rfl rfl rfl rfl ?_ ?_
    · refine .step rfl (HStep.plain rfl (AStep.indexAddr tabOk rfl rfl rfl rfl rfl rfl (.inl rfl) rfl (by omega) (map_get hx1))) ?_
      exact .step rfl (HStep.plain rfl (AStep.indexAddr tabOk rfl rfl rfl rfl rfl rfl (.inl rfl) rfl (by omega) (map_get hx1))) .nil
    refine AOps.step1 rfl rfl rfl (AStep.neSt (p := x) (q := x) rfl rfl rfl) ?_
    refine zA ?_
    refine ACode.cond rfl (fun hb3 => absurd hb3 (by simp)) (fun hb3 => ?_)
    refine zM ?_
    exact cInv ⟨xs.length - (j + 1), j + 1, id, by omega, ⟨by omega, rfl⟩, LessR.of rfl (by (repeat' first | exact FrSub.nil | refine zfc ?_ | refine zfo ?_ | refine zfp ?_)) (by simp) (by repeat' first | exact LoSub.nil | refine zlc ?_ | refine zld ?_ ?_ | rfl) rfl rfl hou⟩
  · refine zA ?_
    exact APure.fin rfl (WkF.ofEq rfl) (by simp) hou rfl
end Go.Proofs.YtgdionbeeodaaaaDoor
namespace Go.Abs
section
variable {Γ : List (Nat × List AC)} {F : Nat → Prop} {w : World} {C : Ctx} {σ : St}
theorem Inv.appZeros0 (hi : Inv Γ F w C σ) {P : Program} {t tn ty e : TypeId} {tj : TI} {kn kq : IntKind} (hsl : P.underlying t = some (.slice e)) (htn : P.underlying tn = some (.int kn)) (hj : TIOk P e tj) {s m : Nat}
    (hs : tj.size = s) (hm : 0 < m) (hbytes : m * tj.bytes ≤ 140737488355328) (h63 : m ≤ 140737488355328) :
    ∃ v' w' C' capn, (Builtin.append_ #[t, tn] ty #[.slice none 0 0, .int kq m]).run P w = .ok v' w' ∧ Goes F (fun _ => True) w C w' C' ∧ Inv Γ F w' C' (σ.push (.cells (vec s [] capn))) ∧ R w' C' (.arr (.l σ.n) s 0 m capn) v' ∧ m ≤ capn := by
  obtain ⟨i0, dd, z, g1, g2, g3, g4, g5, g6, g7, g8⟩ := hj.ex
  obtain ⟨he0, hid⟩ := hi.drew
  have hpos := hj.pos
  have hone := hj.one
  rw [← g6] at hone
  have hzl : z.cells.size = tj.size := by have := hj.len; rw [← g6] at this; simpa using this
  have hold : (Builtin.firstCells i0.size 0 (.slice none 0 0)).run P w.drew = .ok ([] : List Value).toArray w.drew := by simp [Builtin.firstCells]
  have hr := Lib.run_append_grow_zeros (P := P) w t tn ty e i0 z kq kn hsl htn g1 g5 none 0 0 [] hold m hm (by rw [g3]; omega) (by omega) (by omega) (by rw [g4]; omega) (growslice_fits (by omega) (by rw [g4]; simpa using hbytes))
  have hge := grownCap_ge w (0 + m) 0 e
  rw [Nat.zero_add] at hr hge
  obtain ⟨zs, hzs⟩ : ∃ zs, zs = (Builtin.zeroCells z.cells m).toList ++ (Builtin.zeroCells z.cells (grownCap w m 0 e - m)).toList := ⟨_, rfl⟩
  have hz1 : ∀ x ∈ zs, x.oneCell' = true := fun x hx => by
    rw [hzs] at hx
    rcases List.mem_append.1 hx with h | h
    · exact zeroCells_one hone (by rw [hzl]; exact hpos) _ x h
    · exact zeroCells_one hone (by rw [hzl]; exact hpos) _ x h
  have hzn : zs.length = (grownCap w m 0 e - 0) * s := by
    rw [hzs, List.length_append, Array.length_toList, Array.length_toList, size_zeroCells, size_zeroCells, hzl, hs, ← Nat.add_mul]
    congr 1; omega
  have hrv : RV w.drew C (vec s [] (grownCap w m 0 e)) zs := by
    rw [vec, List.length_nil, ← hzn]
    exact RV.anys _ hz1
  obtain ⟨C', he, hno, hnp, hin, hok, hblk⟩ := hid.newObj hrv e
  have heq : zs.toArray = ([] : List Value).toArray ++ Builtin.zeroCells z.cells m ++ Builtin.zeroCells z.cells (grownCap w m 0 e - m) := by rw [hzs]; apply Array.ext'; simp
  rw [heq] at he hin
  refine ⟨_, _, C', _, hr, ⟨(Stp.drew F w).trans (Stp.alloc (w := w.drew) hi.base _ _), he0.trans he, by rw [hno]; exact Nat.le_refl _, hnp⟩, hin, ⟨hok, ?_, hge⟩, hge⟩
  rw [hblk, Nat.zero_mul]; rfl
end
section
variable {E : Env} {o : Oper} {fr : Fr} {σ : St}
theorem AStepR.appZeros0 {t tn : TypeId} {ti tj : TI} {x y : Operand} {kn kq : IntKind} {s m : Nat} (hT : TabOk E.P E.T) (ho : o.op = .call { callee := .builtin .append, args := #[x, y], argTypes := #[t, tn] }) (ht : Tab.get t E.T = some ti) (hkd : Nat.beq ti.kind 2 = true) (hj : Tab.get ti.elem E.T = some tj) (hs : Nat.beq tj.size s = true) (htn : E.P.underlying tn = some (.int kn))
    (hx : aEval E.Γ fr x = some (.one (.lit (.slice none 0 0)))) (hy : aEval E.Γ fr y = some (.one (.lit (.int kq m)))) (hm : 0 < m) (hbytes : m * tj.bytes ≤ 140737488355328) (h63 : m ≤ 140737488355328) :
    AStepR E o fr σ (fun v σ' => ∃ capn, m ≤ capn ∧ v = .one (.arr (.l σ.n) s 0 m capn) ∧ σ' = σ.push (.cells (vec s [] capn))) := by
  intro F w C tmps hi hf next Q hk3
  have h1 := aEval_ok (a := ⟨tmps, []⟩) hi hf hx
  have h2 := aEval_ok (a := ⟨tmps, []⟩) hi hf hy
  simp only [RF, R] at h1 h2
  obtain ⟨v', w', C', capn, hrun, hgo, hi', hr, hle⟩ := hi.appZeros0 (ty := o.type) (kq := kq) ((hT t ti ht).slice (Nat.eq_of_beq_eq_true hkd)) htn (hT _ _ hj) (Nat.eq_of_beq_eq_true hs) hm hbytes h63
  have hex : (execOp (Act.eval ⟨tmps, []⟩) o).run E.P w = .ok (.value v') w' := by
    unfold execOp
    simp only [ho, resolve, invoke, builtin, Sem.run_bind, Sem.run_pure, Result.andThen_ok, List.map_toArray, List.map_cons, List.map_nil, h1.1, h2.1, hrun]
  unfold Oper.wp
  rw [hex, Oper.upon_value]
  exact hk3 _ _ C' _ _ ⟨capn, hle, rfl, rfl⟩ hgo hi' (by simp only [RF]; exact hr)
theorem AStep.capNil {t : TypeId} {ti : TI} {x : Operand} (hT : TabOk E.P E.T) (ho : o.op = .call { callee := .builtin .cap, args := #[x], argTypes := #[t] }) (ht : Tab.get t E.T = some ti) (hk : Nat.beq ti.kind 2 = true) (hx : aEval E.Γ fr x = some (.one (.lit (.slice none 0 0)))) : AStep E o fr σ (.one (.lit (.int .i64 0))) σ := by
  refine AStep.quiet fun F w C tmps hin hf => ⟨.int .i64 0, ?_, rfl, rfl⟩
  have e1 := aEval_ok (a := ⟨tmps, []⟩) hin hf hx
  have hu := (hT t ti ht).slice (Nat.eq_of_beq_eq_true hk)
  simp only [RF, R] at e1
  unfold execOp
  simp [ho, resolve, invoke, builtin, e1.1, Builtin.cap_, run_underlying hu, goInt, Result.andThen]
theorem AStep.sliceNilTo {t : TypeId} {ti tj : TI} {x h : Operand} {k : IntKind} (hT : TabOk E.P E.T) (ho : o.op = .slice t x none (some h) none) (ht : Tab.get t E.T = some ti) (hk : Nat.beq ti.kind 2 = true) (hj : Tab.get ti.elem E.T = some tj)
    (hx : aEval E.Γ fr x = some (.one (.lit (.slice none 0 0)))) (hh : aEval E.Γ fr h = some (.one (.lit (.int k 0)))) : AStep E o fr σ (.one (.lit (.slice none 0 0))) σ := by
  refine AStep.quiet fun F w C tmps hin hf => ⟨.slice none 0 0, ?_, rfl, rfl⟩
  have e1 := aEval_ok (a := ⟨tmps, []⟩) hin hf hx
  have e2 := aEval_ok (a := ⟨tmps, []⟩) hin hf hh
  simp only [RF, R] at e1 e2
  have hu := (hT t ti ht).slice (Nat.eq_of_beq_eq_true hk)
  have hsz := (hT _ _ hj).run_sizeOf (w := w)
  unfold execOp
  simp [ho, e1.1, e2.1, Instr.sliceAt, Instr.slice, run_underlying hu, hsz, Instr.sliceBounds, Instr.sliceBound, asIntOf, Result.andThen]
end
end Go.Abs
namespace Go.Abs
theorem vecO_ids {p : Id → Prop} {s cap : Nat} (es : List (List AC)) (h : idsS p es) : (AObj.cells (vec s es cap)).ids p := by
  show idsL p (vec s es cap)
  refine idsL_iff.2 fun c hc => ?_
  unfold vec at hc
  rcases List.mem_append.1 hc with hc | hc
  · obtain ⟨x, hx, hcx⟩ := List.mem_flatten.1 hc
    exact idsL_iff.1 (idsS_iff.1 h x hx) c hcx
  · obtain ⟨_, rfl⟩ := List.mem_replicate.1 hc
    trivial
theorem updO_ok {ou : Outer} {k : Nat} {o : AObj} (h : OuOk ou) (ho : o.ids isO) : OuOk (updO ou k o) := fun j x hx => by
  by_cases e : k = j
  · subst e; rw [updO_same] at hx; cases hx; exact ho
  · rw [updO_ne _ e] at hx; exact h j x hx
end Go.Abs
namespace Go.Proofs.YtgdionbeeodaaaaDoor
open Go Go.Abs Go.CoreX
set_option maxRecDepth 10000
variable {Γ : List (Nat × List AC)}
def GrwQ (ou : Outer) (r : FV) (ou' : Outer) : Prop :=
  (r = .one (.lit (.slice none 0 0)) ∧ ou' = ou) ∨ ∃ k cap, ou k = none ∧ r = .one (.arr (.o k) 3 0 0 cap) ∧ ou' = updO ou k (.cells (vec 3 [] cap))
theorem GrowS_ok (n : Nat) (hn : n ≤ 1048576) (ou : Outer) : AFn Tryd.prog Γ 63 [.one (.lit (.slice none 0 0)), .one (int n)] ou (GrwQ ou) := by
  refine AFn.walk 27 tabOk Tryd.func63 rfl (by kernel_rfl) rfl rfl fun hou => ?_
  refine zA ?_
  refine AOps.step1 rfl rfl rfl (AStep.capNil tabOk rfl rfl rfl rfl) ?_
  refine zM ?_
  refine ACode.cond rfl (fun hb => ?_) (fun hb => ?_)
  · have hn0 : 0 < n := by simp at hb; omega
    refine zA ?_
    refine AOps.step1 rfl rfl rfl (AStep.capNil tabOk rfl rfl rfl rfl) ?_
    refine zA ?_
    refine AOps.step1 rfl rfl rfl (AStep.sliceNilTo tabOk rfl rfl rfl rfl rfl rfl) ?_
    refine zA ?_
    refine AOps.wk 21 rfl (y := .one (int n)) (.ofEq (by simp)) ?_
    refine AOps.stepR rfl rfl rfl (AStepR.appZeros0 (m := n) (s := 3) tabOk rfl rfl rfl rfl rfl Tryd.underlying3 rfl rfl hn0 (by show _ * 24 ≤ _; omega) (by omega)) ?_
    rintro v σ' ⟨cap, hcap, rfl, rfl⟩
    refine zA ?_
    refine AOps.step1 rfl rfl rfl (AStep.sliceOwn (a := 0) (b := 0) (c := cap) tabOk rfl rfl rfl rfl rfl rfl rfl ⟨.i64, rfl⟩ rfl (fun h => by cases h) (by omega) (by omega) (by omega)) ?_
    rw [show (AC.arr (.l 0) 3 (if cap = 0 then 0 else 0) (0 - 0) (cap - 0)) = .arr (.l 0) 3 0 0 cap by simp]
    refine AOps.cede 0 (show 0 < 1 by omega) fun k hk => ⟨[(25, .one (.arr (.o k) 3 0 0 cap))], ⟨1, [], updO ou k (.cells (vec 3 [] cap))⟩, ⟨CedFr.get (.cons rfl rfl .nil), rfl, fun i x hx => ?_⟩, ?_⟩
    · have hk : ou k = none := hk
      cases i with
      | l m => cases hx
      | o m =>
        have hx' : updO ou k (.cells (vec 3 [] cap)) m = some x := hx
        by_cases e : k = m
        · subst e; rw [updO_same] at hx'; cases hx'
          exact ⟨.l 0, _, rfl, rfl, (AObj.sub_o _ (vecO_ids _ (by simp))).symm⟩
        · rw [updO_ne _ e] at hx'
          exact ⟨.o m, x, hx', rfl, (AObj.sub_o x (hou m x hx')).symm⟩
    refine zA ?_
    exact AFn.fin' rfl (.refl _) (by simp) (updO_ok hou (vecO_ids _ (by simp))) (.inr ⟨k, cap, hk, rfl, rfl⟩)
  · refine zA ?_
    exact AFn.fin' rfl (.refl _) (by simp) hou (.inl ⟨rfl, rfl⟩)
def cL (l : List Step3) : List AC := [.sl 3 (l.map cS)]
theorem ids_cL (p : Abs.Id → Prop) (ll : List (List Step3)) : idsS p (ll.map cL) := idsS_map (f := cL) (fun l => ⟨ids_cS p l, trivial⟩) ll
@[simp] theorem ids_cL_l (k : Nat) (ll : List (List Step3)) : idsS (inL k) (ll.map cL) := ids_cL _ ll
@[simp] theorem ids_cL_o (ll : List (List Step3)) : idsS isO (ll.map cL) := ids_cL _ ll
def cat (ll : List (List Step3)) (i : Nat) : List Step3 := (ll.take i).flatten
theorem cat_succ {ll : List (List Step3)} {i : Nat} {l : List Step3} (h : ll[i]? = some l) : cat ll (i + 1) = cat ll i ++ l := by unfold cat; rw [take_succ_of h]; simp
theorem cat_full (ll : List (List Step3)) : cat ll ll.length = ll.flatten := by unfold cat; rw [List.take_length]
theorem cat_le (ll : List (List Step3)) (j : Nat) : (cat ll j).length ≤ ll.flatten.length := by
  have := congrArg (fun z => z.flatten.length) (List.take_append_drop j ll)
  simp only [List.flatten_append, List.length_append] at this
  unfold cat; omega
theorem Concat_ok (hΓ : ∀ g cs, (g, cs) ∈ Γ → idsL isO cs) (ll : List (List Step3)) (hl : ll.length ≤ 1048576) (hs : ll.flatten.length ≤ 1048576) :
    APure Tryd.prog Γ 38 [.one (.sl 1 (ll.map cL))] (.one (.sl 3 (ll.flatten.map cS))) := by
  intro ou
  have hpre := cat_le ll
  refine AFn.walk 36 tabOk Tryd.func38 rfl (by kernel_rfl) rfl rfl fun hou => ?_
  refine zA ?_
  refine ACode.loopR hΓ (α := Nat) (fun j => [(11, .one (int j)), (10, .one (int (ll.map cL).length)), (9, .one (.sl 1 (ll.map cL))), (3, .one (int (cat ll j).length)), (0, .one (.sl 1 (ll.map cL)))])
    (fun j => ⟨0, [], ou⟩) (fun m j => j ≤ ll.length ∧ m = ll.length - j) (a0 := 0) (ρ := id) ⟨by omega, rfl⟩ (LessR.of rfl (by (repeat' first | exact FrSub.nil | refine zfc ?_ | refine zfo ?_ | refine zfp ?_)) (by simp) (by repeat' first | exact LoSub.nil | refine zlc ?_ | refine zld ?_ ?_ | rfl) rfl rfl hou) fun m j hj => ?_
  obtain ⟨hjl, rfl⟩ := hj
  refine zA ?_
  refine ACode.cond rfl (fun hb => ?_) (fun hb => ?_)
  · have hlt : j < ll.length := by simpa using hb
    clear hb
    obtain ⟨l, hx⟩ := get_of_lt hlt
    have hsn : (cat ll (j + 1)) = (cat ll j) ++ l := cat_succ hx
    have hle := hpre (j + 1)
    rw [hsn, List.length_append] at hle
    refine zA ?_
    refine AOps.step1 rfl rfl rfl (AStep.indexAddr tabOk rfl rfl rfl rfl rfl rfl (.inl rfl) rfl (by omega) (map_get hx)) ?_
    refine zM ?_
    exact cInv ⟨ll.length - (j + 1), j + 1, id, by omega, ⟨by omega, rfl⟩, LessR.of rfl (FrSub.cons rfl (.ofEq rfl) (FrSub.cons rfl (.ofEq rfl) (FrSub.consP rfl (.ofEq rfl) (by simp) (FrSub.cons rfl (.ofEq (by simp [hsn, FV.ren, AC.ren])) (FrSub.consP rfl (.ofEq rfl) (by simp) .nil))))) (by simp) (by repeat' first | exact LoSub.nil | refine zlc ?_ | refine zld ?_ ?_ | rfl) rfl rfl hou⟩
  · have hlt : j = ll.length := by simp at hb; omega
    subst hlt
    rw [cat_full]
    refine zA ?_
    refine AOps.cutN 0 rfl hΓ (α := Option Nat) (fun oc => [(6, .one (oaC 0 3 [] oc)), (0, .one (.sl 1 (ll.map cL)))]) (fun oc => ⟨1, [(0, oaO 3 [] oc)], ou⟩) (fun oc => coO ([] : List (List AC)) oc) ?_ fun oc hoc => ?_
    · dsimp only [List.take_zero, List.nil_append]
      refine AOps.call1 hΓ rfl rfl rfl rfl rfl rfl rfl (by exact ⟨trivial, trivial, trivial⟩) hou (GrowS_ok ll.flatten.length hs ou) fun r ou' hq _ hov => ?_
      rcases hq with ⟨rfl, rfl⟩ | ⟨k, cap, hk, rfl, rfl⟩
      · refine AOps.ghost ?_
        refine zA ?_
        exact cInv ⟨none, id, rfl, LessR.of rfl (by (repeat' first | exact FrSub.nil | refine zfc ?_ | refine zfo ?_ | refine zfp ?_)) (by simp) (by repeat' first | exact LoSub.nil | refine zlc ?_ | refine zld ?_ ?_ | rfl) rfl rfl hou⟩
      · refine AOps.adopt hk (vecO_ids _ (by simp)) ?_
        refine AOps.wk 24 rfl (y := .one (oaC 0 3 [] (some cap))) (.ofEq (by simp [FV.sub, AC.sub, toL, oaC])) ?_
        refine zA ?_
        exact cInv ⟨some cap, id, by simp [coO], LessR.of rfl (by (repeat' first | exact FrSub.nil | refine zfc ?_ | refine zfo ?_ | refine zfp ?_)) (by simp) (LoSub.cons rfl (show AObj.cells (vec 3 [] cap) = AObj.ren id (oaO 3 [] (some cap)) from (ren_oaO id 3 [] (some cap) fun _ => ids_vec (by simp)).symm) rfl (ids_oaO (by simp)) .nil) rfl rfl hou⟩
    refine zA ?_
    refine ACode.loopR hΓ (α := Nat × Option Nat) (fun c => [(27, .one (int c.1)), (26, .one (int (ll.map cL).length)), (25, .one (.sl 1 (ll.map cL))), (6, .one (oaC 0 3 ((cat ll c.1).map cS) c.2))])
      (fun c => ⟨1, [(0, oaO 3 ((cat ll c.1).map cS) c.2)], ou⟩) (fun m c => c.1 ≤ ll.length ∧ coO ((cat ll c.1).map cS) c.2 ∧ m = ll.length - c.1) (a0 := (0, oc)) (ρ := id) ⟨by omega, hoc, rfl⟩ (LessR.of rfl ?_ (by simp) (by repeat' first | exact LoSub.nil | refine zlc ?_ | refine zld ?_ ?_ | rfl) rfl rfl hou) fun m c hc => ?_
    · (repeat' first | exact FrSub.nil | refine zfc ?_ | refine zfo ?_ | refine zfp ?_)
    obtain ⟨i, oc⟩ := c
    obtain ⟨hil, hco, rfl⟩ := hc
    dsimp only at hil hco
    refine zA ?_
    refine ACode.cond rfl (fun hb2 => ?_) (fun hb2 => ?_)
    · have hlt : i < ll.length := by simpa using hb2
      clear hb2
      obtain ⟨l, hx⟩ := get_of_lt hlt
      have hsn : (cat ll (i + 1)) = (cat ll i) ++ l := cat_succ hx
      have hle := hpre (i + 1)
      rw [hsn, List.length_append] at hle
      refine zA ?_
      refine AOps.step1 rfl rfl rfl (AStep.indexAddr tabOk rfl rfl rfl rfl rfl rfl (.inl rfl) rfl (by omega) (map_get hx)) ?_
      refine zA ?_
      by_cases hxe : l = []
      · subst hxe
        rw [List.append_nil] at hsn
        refine AOps.appG0 (k := 0) (s := 3) (es := (cat ll i).map cS) (oc := oc) tabOk rfl rfl rfl rfl rfl rfl rfl rfl rfl ?_
        refine zM ?_
        exact cInv ⟨ll.length - (i + 1), (i + 1, oc), id, by omega, ⟨by omega, by dsimp only; rw [hsn]; exact hco, rfl⟩, LessR.of rfl (by dsimp only; rw [hsn]; (repeat' first | exact FrSub.nil | refine zfc ?_ | refine zfo ?_ | refine zfp ?_)) (by simp) (by dsimp only; rw [hsn]; repeat' first | exact LoSub.nil | refine zlc ?_ | refine zld ?_ ?_ | rfl) rfl rfl hou⟩
      · refine AOps.appG (k := 0) (s := 3) (es := (cat ll i).map cS) (oc := oc) (news := l.map cS) tabOk rfl rfl rfl rfl rfl rfl rfl rfl rfl rfl hco (fun y hy => by obtain ⟨z, _, rfl⟩ := List.mem_map.1 hy; rfl) (.sl 3 _) (by simpa using hxe) rfl (by simp only [List.length_map]; show (_ + _) * 24 ≤ _; omega) (by simp only [List.length_map]; omega) fun cap hc => ?_
        rw [← List.map_append, ← hsn] at hc ⊢
        refine zM ?_
        exact cInv ⟨ll.length - (i + 1), (i + 1, some cap), fun _ => 1, by omega, ⟨by omega, hc, rfl⟩, LessR.of rfl (by (repeat' first | exact FrSub.nil | refine zfc ?_ | refine zfo ?_ | refine zfp ?_)) (by simp) (by repeat' first | exact LoSub.nil | refine zlc ?_ | refine zld ?_ ?_ | rfl) rfl rfl hou⟩
    · have hlt : i = ll.length := by simp at hb2; omega
      subst hlt
      have hfu := cat_full ll
      repeat ((fail_if_success ((with_reducible refine oj ?_); refine AOps.atDst 35 rfl ?_)); first | refine zO ?_)
      refine AOps.freezeG 0 6 rfl hco (fun y hy => by obtain ⟨z, _, rfl⟩ := List.mem_map.1 hy; rfl) rfl ?_
      refine zA ?_
      exact APure.fin rfl (WkF.ofEq (by rw [hfu])) (by rw [← hfu]; simp) hou rfl
end Go.Proofs.YtgdionbeeodaaaaDoor
namespace Go.Proofs.YtgdionbeeodaaaaDoor
open Go Go.Abs Go.CoreX
set_option maxRecDepth 10000
theorem SimplifyParts_ok (e : List Ex) (he : okB e) (a b : Int) : APure Tryd.prog Γo 10 [.one (.sl 5 (e.map cEx)), .one (int a), .one (int b)] (.one (.lit (.bool true))) := by
  obtain ⟨k, hk, hk2⟩ := modN a 20 (by decide)
  obtain ⟨m, hm, hm2⟩ := modN b 20 (by decide)
  have h1 := Simp_ok e he k
  have h3 := Simp_ok e he ((k : Int) + m)
  intro ou
  refine AFn.walk 70 tabOk Tryd.func10 rfl (by kernel_rfl) rfl rfl fun hou => ?_
  refine zM ?_
  refine AOps.step1 rfl rfl rfl (AStep.rem rfl rfl rfl (by decide)) ?_
  refine AOps.wk 18 rfl (y := .one (int k)) (.ofEq (by rw [← hk])) ?_
  refine zM ?_
  refine AOps.step1 rfl rfl rfl (AStep.rem rfl rfl rfl (by decide)) ?_
  refine AOps.wk 21 rfl (y := .one (int m)) (.ofEq (by rw [← hm])) ?_
  refine zM ?_
  by_cases hc : check e ≠ 0
  · rw [simp_err hc] at h1
    refine zca hΓo h1 hou ?_
    refine zA ?_
    refine ACode.cond rfl (fun hb => ?_) (fun hb => absurd hb (by simpa using hc))
    refine zA ?_
    refine zca hΓo simplifyFact_ok hou ?_
    refine zM ?_
    exact APure.fin rfl (WkF.ofEq (by simp)) (by simp) hou rfl
  have hc : check e = 0 := by simpa using hc
  obtain ⟨s1, s2, s3⟩ := simp_parts hc (check_list hc) (a := k) (b := m) (by omega)
  rw [s1] at h1
  rw [s3] at h3
  have hob := steps_okB k (order_okB he hc)
  have h2 := Simp_ok _ hob m
  rw [s2] at h2
  have hob2 := steps_okB m hob
  have hl1 := steps_len k (listT [] (grow e))
  have hl2 := steps_len m (stepsE k (listT [] (grow e))).1
  generalize stepsE m (stepsE k (listT [] (grow e))).1 = S2 at h2 h3 hob2 hl2
  generalize stepsE k (listT [] (grow e)) = S1 at h1 h2 h3 hl1
  obtain ⟨o1', L1⟩ := S1
  obtain ⟨o2', L2⟩ := S2
  dsimp only at h1 h2 h3 hob2 hl1 hl2
  have hcc := Concat_ok hΓo [L1, L2] (by simp) (by simp; omega)
  rw [show ([L1, L2] : List (List Step3)).flatten = L1 ++ L2 by simp] at hcc
  have hq := EqualS_ok hΓo (L1 ++ L2) (by rw [List.length_append]; omega)
  generalize L1 ++ L2 = L at hcc hq h3
  refine zca hΓo h1 hou ?_
  refine zA ?_
  refine zca hΓo h2 hou ?_
  refine zM ?_
  refine zca hΓo h3 hou ?_
  refine zA ?_
  refine zca hΓo simplifyFact_ok hou ?_
  refine zM ?_
  refine zca hΓo (SameListR_ok hΓo o2' hob2.eo) hou ?_
  refine zM ?_
  refine AOps.callC hΓo hcc rfl rfl rfl rfl rfl rfl rfl hou (by simp [cL]) ?_
  refine zM ?_
  refine zca hΓo hq hou ?_
  refine zM ?_
  exact APure.fin rfl (WkF.ofEq rfl) (by simp) hou rfl
end Go.Proofs.YtgdionbeeodaaaaDoor
namespace Go.Proofs.YtgdionbeeodaaaaDoor
open Go Go.Abs Go.CoreX
set_option maxRecDepth 10000
theorem bulkAll_eq {H : Type} : ∀ l : List (DataW H), Rows.uptoBulkAll l = bulkAll Rows.uptoBulk l
  | [] => rfl
  | d :: l => by simp only [Rows.uptoBulkAll, bulkAll, List.map_cons, List.sum_cons] at *; rw [bulkAll_eq l]; rfl
theorem bulk_agg {H : Type} (l : List (DataW H)) : bulkAll Rows.uptoBulk l + 1 ≤ Rows.uptoBulk (.agg l) := by
  simp only [Rows.uptoBulk, bulkAll_eq]; omega
theorem bulk_slice {H : Type} (l r : List (DataW H)) : bulkAll Rows.uptoBulk l + 1 ≤ Rows.uptoBulk (.slice l r) := by
  simp only [Rows.uptoBulk, bulkAll_eq]; omega
theorem bulk_nil {H : Type} : 1 ≤ Rows.uptoBulk (DataW.nil : DataW H) := by simp [Rows.uptoBulk]
section
variable {H : Type} {enc : TypeId × Value → H} {w : World}
abbrev I64 := {i : Int // IntKind.i64.min ≤ i ∧ i ≤ IntKind.i64.max}
theorem opens_int (n : Nat) : Opens enc Tryd.prog w Rows.uptoBulk 3 n (fun i : I64 => [int i.1]) (fun _ => 1) := by
  intro cs x h
  obtain ⟨i, rfl, rfl, hw⟩ := DataW.trod_int Tryd.underlying3 h
  refine ⟨⟨i, ?_⟩, ⟨_, _, rfl, ⟨rfl, rfl⟩, rfl⟩, by simp [Rows.uptoBulk]⟩
  simpa [Lit.wf] using hw
theorem opens_slice {t e : TypeId} {s : Nat} (ht : Tryd.prog.underlying t = some (.slice e)) (hs : Tryd.prog.cellsOf e = s) (h0 : 0 < s) {α : Type} {c : α → List AC} {wt : α → Nat} (n : Nat) (he : ∀ m, m < n → Opens enc Tryd.prog w Rows.uptoBulk e m c wt) :
    Opens enc Tryd.prog w Rows.uptoBulk t n (fun l : List α => [.sl s (l.map c)]) (fun l => wtAll wt l + 1) := by
  cases n with
  | zero => exact Opens.zero
  | succ n => exact Opens.slice bulk_slice bulk_nil ht hs h0 (he n (by omega))
theorem wt_one {α : Type} (l : List α) : wtAll (fun _ => 1) l = l.length := by
  unfold wtAll
  induction l with
  | nil => rfl
  | cons a l ih => simp only [List.map_cons, List.sum_cons, List.length_cons, ih]; omega
theorem opens_ints (n : Nat) : Opens enc Tryd.prog w Rows.uptoBulk 35 n (fun l : List Int => [.sl 1 (l.map cI)]) (fun l => l.length + 1) := by
  refine Opens.as (opens_slice Tryd.underlying35 (s := 1) (by kernel_rfl) (by omega) n (fun m _ => opens_int m)) fun l => ⟨l.map (·.1), ?_, ?_⟩
  · simp only [List.map_map]; rfl
  · rw [wt_one]; simp
def bAlt (a : Alt) : Nat := a.binds.length + 3
def bAlts (l : List Alt) : Nat := (l.map bAlt).sum
def bEx (x : Ex) : Nat := x.binds.length + x.kids.length + bAlts x.alts + 6
def bExs (l : List Ex) : Nat := (l.map bEx).sum
theorem opensAlt (n : Nat) : Opens enc Tryd.prog w Rows.uptoBulk 89 n cAlt bAlt := by
  cases n with
  | zero => exact Opens.zero
  | succ n =>
    refine Opens.as (Opens.struct bulk_agg Tryd.underlying89 (.cons rfl (by kernel_rfl) (opens_int n) (fun _ => rfl) (.cons rfl (by kernel_rfl) (opens_ints n) (fun _ => rfl) (.nil _))) (fun _ => (show (2 : Nat) = _ by kernel_rfl))) ?_
    rintro ⟨i, l, _⟩
    exact ⟨⟨i.1, l⟩, rfl, by show l.length + 3 ≤ 1 + (l.length + 1 + 0) + 1; omega⟩
theorem opensEx (n : Nat) : Opens enc Tryd.prog w Rows.uptoBulk 53 n cEx bEx := by
  cases n with
  | zero => exact Opens.zero
  | succ n =>
    have ha := opens_slice (enc := enc) (w := w) (t := 51) Tryd.underlying51 (s := 2) (by kernel_rfl) (by omega) n (fun m _ => opensAlt m)
    refine Opens.as (Opens.struct bulk_agg Tryd.underlying53 (.cons rfl (by kernel_rfl) (opens_int n) (fun _ => rfl) (.cons rfl (by kernel_rfl) (opens_int n) (fun _ => rfl) (.cons rfl (by kernel_rfl) (opens_ints n) (fun _ => rfl) (.cons rfl (by kernel_rfl) (opens_ints n) (fun _ => rfl) (.cons rfl (by kernel_rfl) ha (fun _ => rfl) (.nil _)))))) (fun _ => (show (5 : Nat) = _ by kernel_rfl))) ?_
    rintro ⟨i, j, b, k, l, _⟩
    refine ⟨⟨i.1, j.1, b, k, l⟩, rfl, ?_⟩
    show b.length + k.length + bAlts l + 6 ≤ 1 + (1 + (b.length + 1 + (k.length + 1 + (wtAll bAlt l + 1 + 0)))) + 1
    have : wtAll bAlt l = bAlts l := rfl
    omega
theorem opensExs (n : Nat) : Opens enc Tryd.prog w Rows.uptoBulk 22 n (fun l : List Ex => [.sl 5 (l.map cEx)]) (fun l => bExs l + 1) :=
  opens_slice Tryd.underlying22 (s := 5) (by kernel_rfl) (by omega) n (fun m _ => opensEx m)
theorem rf_slice {t e : TypeId} {base : Nat} {r : Reach} {W : World} {v : Value} {C : Ctx} {c : AC} (ht : Tryd.prog.underlying t = some (.slice e)) (h : Value.okWide Tryd.prog W r base t v) (hr : RV W C [c] v.cells.toList) : RF W C (.one c) v := by
  obtain ⟨a, len, cap, rfl⟩ := WideShapes.okWide_slice ht h
  obtain ⟨u, us, he, h1, h2⟩ := hr
  simp [Value.cells] at he
  obtain ⟨rfl, rfl⟩ := he
  exact h1
end
theorem sum_mem {α : Type} {f : α → Nat} : ∀ {l : List α} {a : α}, a ∈ l → f a ≤ (l.map f).sum
  | b :: l, a, h => by
    simp only [List.map_cons, List.sum_cons]
    rcases List.mem_cons.1 h with rfl | h
    · omega
    · have := sum_mem (f := f) h; omega
theorem sum_len {α : Type} {f : α → Nat} (hf : ∀ a, 1 ≤ f a) : ∀ l : List α, l.length ≤ (l.map f).sum
  | [] => by simp
  | b :: l => by
    have h1 := hf b
    have h2 := sum_len hf l
    simp only [List.map_cons, List.sum_cons, List.length_cons]; omega
theorem bAlts_flat : ∀ l : List Alt, (l.flatMap (·.binds)).length ≤ bAlts l
  | [] => by simp [bAlts]
  | a :: l => by
    have := bAlts_flat l
    simp only [bAlts, bAlt, List.flatMap_cons, List.length_append, List.map_cons, List.sum_cons] at *
    omega
theorem okB_of {e : List Ex} (h : bExs e ≤ 1048576) : okB e := by
  have h1 := sum_len (f := bEx) (fun x => by simp only [bEx]; omega) e
  have hx : ∀ x ∈ e, bEx x ≤ 1048576 := fun x hx => by
    have h2 : bEx x ≤ bExs e := sum_mem hx
    omega
  have h1' : e.length ≤ bExs e := h1
  refine ⟨⟨by omega, fun x hx1 => ?_⟩, fun x hx1 => ?_⟩
  · have h2 := hx x hx1
    simp only [bEx] at h2
    have h3 := sum_len (f := bAlt) (fun a => by simp only [bAlt]; omega) x.alts
    have h3' : x.alts.length ≤ bAlts x.alts := h3
    refine ⟨by omega, by omega, by omega, fun a ha => ?_⟩
    have h4 : bAlt a ≤ bAlts x.alts := sum_mem ha
    simp only [bAlt] at h4
    omega
  · have h2 := hx x hx1
    simp only [bEx] at h2
    have h3 := bAlts_flat x.alts
    omega
end Go.Proofs.YtgdionbeeodaaaaDoor
namespace Go.Proofs.YtgdionbeeodaaaaDoor
open Go Go.Abs Go.CoreX
set_option maxRecDepth 10000
theorem laidMet_tail {P : Program} {W : World} {x : String × DataW Unit} {rest : List (String × DataW Unit)} (h : laidMet P (x :: rest) W) : laidMet P rest W := by
  obtain ⟨ps, ⟨g, t, cs, fuel, p, q, h1, h2, h3, h4, h5, rfl⟩, hn, hc⟩ := h
  exact ⟨q, h5, (List.nodup_append.1 hn).2.1, fun b off hm => hc b off (by simp [hm])⟩
theorem order_cells {W : World} (h : laidMetH Tryd.prog [("provenance/core.arity", Rows.laid_provenance_core_arity), ("provenance/rewrite.order", Rows.laid_provenance_rewrite_order)] W) : ∀ g cs, (g, cs) ∈ Γo → RG W (ctx0 W) cs g := by
  have h' : laidMet Tryd.prog [("provenance/core.arity", Rows.laid_provenance_core_arity), ("provenance/rewrite.order", Rows.laid_provenance_rewrite_order)] W := h
  have ht : Lib.TabIs Tryd.prog W "provenance/core.arity" .i64 [2, 2, 2, 2, 2, 2, 2, 1, 2, 1, 2, 3] :=
    Lib.tabIs_of_head (rest := [("provenance/rewrite.order", Rows.laid_provenance_rewrite_order)]) (g := 1) (t := 158) (n := 12) (by kernel_rfl) (by kernel_rfl) (by kernel_rfl) Tryd.underlying3 (by kernel_rfl) (by kernel_rfl) h
  have hu : Lib.TabIs Tryd.prog W "provenance/rewrite.order" .i64 [3, 4, 6, 7, 5, 1, 2, 11, 8, 9] :=
    Lib.tabIs_of_head (rest := []) (g := 0) (t := 92) (n := 10) (by kernel_rfl) (by kernel_rfl) (by kernel_rfl) Tryd.underlying3 (by kernel_rfl) (by kernel_rfl) (laidMet_tail h')
  have hg : Tryd.prog.globalNamed "provenance/core.arity" = some 1 := by kernel_rfl
  have hh : Tryd.prog.globalNamed "provenance/rewrite.order" = some 0 := by kernel_rfl
  intro g cs hm
  simp [Γo] at hm
  rcases hm with ⟨rfl, rfl⟩ | ⟨rfl, rfl⟩
  · exact RG.ofVar hh hu rfl
  · exact RG.ofVar hg ht rfl
end Go.Proofs.YtgdionbeeodaaaaDoor
