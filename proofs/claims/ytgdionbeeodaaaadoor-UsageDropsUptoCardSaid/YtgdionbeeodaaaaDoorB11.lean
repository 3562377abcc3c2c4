/- The nodes of an expression as own trees: open, walked. -/
import Derived.Test.YtgdionbeeodaaaaDoorB10
import Derived.Shelf.SlicesG.Cmp
import Derived.Shelf.SlSortCmp.NoneTotal
import Derived.Laws.StructEq
import Derived.Test.YtgdionbeeodaaaaDoorRows
import Derived.Lib.LaidTab
set_option linter.unusedVariables false
set_option linter.unusedSimpArgs false
namespace Go.Proofs.YtgdionbeeodaaaaDoor
open Go Go.Abs Go.CoreX
set_option maxRecDepth 10000
variable {Γ : List (Nat × List AC)}
def OpenQ (e : List Ex) (ou : Outer) (r : FV) (ou' : Outer) : Prop := ∃ (lts : List LTr) (root : LTr), r = .one (.box [.sl 1 (kC lts), .ptr (.o root.id) 0]) ∧ LinkL e lts plainB ∧ lts[e.length - 1]? = some root ∧ NewO ou ou' (lts.flatMap ownO)
abbrev wO (lts : List LTr) : AObj := .cells [.gs 1 (kC lts) (.l 1), .lit (.pointer none)]
set_option maxHeartbeats 2000000 in
theorem open_ok (hΓ : ∀ g cs, (g, cs) ∈ Γ → idsL isO cs) (e : List Ex) (he : okE e) (hin : kidsIn e) (hne : e ≠ []) (ou : Outer) : AFn Tryd.prog Γ 46 [.one (.sl 5 (e.map cEx))] ou (OpenQ e ou) := by
  have hel := he.l
  refine AFn.walk 99 tabOk Tryd.func46 rfl (by kernel_rfl) rfl rfl fun hou => ?_
  refine zA ?_
  refine ACode.grow 0 0 70 1 rfl rfl ?_
  refine ACode.loopR hΓ (α := Nat × List LTr × Outer) (fun c => [(15, .one (int c.1)), (14, .one (int (e.map cEx).length)), (13, .one (.sl 5 (e.map cEx))), (3, .one (.ptr (.l 0) 0)), (0, .one (.sl 5 (e.map cEx)))])
    (fun c => ⟨2, [(1, .tok 70 1 c.1), (0, wO c.2.1)], c.2.2⟩) (fun m c => c.1 ≤ e.length ∧ (LinkL (e.take c.1) c.2.1 plainB ∧ NewO ou c.2.2 (c.2.1.flatMap ownO)) ∧ m = e.length - c.1) (a0 := (0, [], ou)) (ρ := id) ⟨by omega, ⟨LinkL.nil, .nil hou⟩, rfl⟩
    (LessR.of rfl (by (repeat' first | exact FrSub.nil | refine zfc ?_ | refine zfo ?_ | refine zfp ?_)) (by simp) (by repeat' first | exact LoSub.nil | refine zlc ?_ | refine zld ?_ ?_ | rfl) rfl rfl hou) fun m c hc => ?_
  obtain ⟨j, lts, ov⟩ := c
  obtain ⟨hjl, ⟨hL, hN⟩, rfl⟩ := hc
  dsimp only at hjl hL hN
  have hov := hN.ok
  refine zA ?_
  refine ACode.cond rfl (fun hb2 => ?_) (fun hb2 => ?_)
  · have hlt : j < e.length := by simpa using hb2
    obtain ⟨x, hx⟩ := get_of_lt hlt
    have hxo := he.x x (List.mem_of_getElem? hx)
    have hxk := hxo.k
    have hxa := hxo.a
    have hxb := hxo.b
    have hxin := hin j x hx
    have hgl : lts.length = j := by rw [hL.len]; simp; omega
    have hkcl : (kC lts).length = j := by rw [kC_len, hgl]
    refine zA ?_
    refine AOps.step1 rfl rfl rfl (AStep.indexAddr tabOk rfl rfl rfl rfl rfl rfl (.inl rfl) rfl (by omega) (map_get hx)) ?_
    refine zA ?_
    refine ACode.drawC tabOk 9 [6, 7, 8] [] (fun vs σ => match vs with
        | [] => σ = ⟨3, [(2, .cells (cEx x)), (2, .cells (ti53.zero.map .lit)), (1, .tok 70 1 j), (0, wO lts)], ov⟩
        | [a] => a = .one (.sl 1 (x.binds.map cI)) ∧ σ = ⟨4, (3, .dead) :: [(2, .cells (cEx x)), (2, .cells (ti53.zero.map .lit)), (1, .tok 70 1 j), (0, wO lts)], ov⟩
        | [a, b] => a = .one (.sl 1 (x.binds.map cI)) ∧ b = .agg [int x.op, int x.n, .sl 1 (x.binds.map cI), .lit (.slice none 0 0), .lit (.slice none 0 0)] ∧ σ = ⟨4, (3, .dead) :: [(2, .cells (cEx x)), (2, .cells (ti53.zero.map .lit)), (1, .tok 70 1 j), (0, wO lts)], ov⟩
        | [a, b, c] => a = .one (.sl 1 (x.binds.map cI)) ∧ b = .agg [int x.op, int x.n, .sl 1 (x.binds.map cI), .lit (.slice none 0 0), .lit (.slice none 0 0)] ∧ c = .one (.ptr (.l 4) 0) ∧ σ = ⟨5, (4, .cells [int x.op, int x.n, .sl 1 (x.binds.map cI), .lit (.slice none 0 0), .lit (.slice none 0 0)]) :: (3, .dead) :: [(2, .cells (cEx x)), (2, .cells (ti53.zero.map .lit)), (1, .tok 70 1 j), (0, wO lts)], ov⟩
        | _ => False) follows (by kernel_rfl) rfl rfl (by decide) (by kernel_rfl) (by kernel_rfl) rfl rfl ?_ (fun _ _ _ => .nil) (by decide) ?_ ?_
    · rintro vs σ hG
      match vs, hG with
      | [], hG => subst hG; rfl
      | [a], hG => obtain ⟨_, rfl⟩ := hG; rfl
      | [a, b], hG => obtain ⟨_, _, rfl⟩ := hG; rfl
      | [a, b, c], hG => obtain ⟨_, _, _, rfl⟩ := hG; rfl
    · rintro vs σ hG i o hp1 hp2
      match vs, hG with
      | [], hG =>
        subst hG
        cases hp1
        cases hp2
        refine ⟨rfl, rfl, .inr ⟨rfl, ?_⟩⟩
        intro F w C tmps hI hF next Q hk
        refine AStepR.appCopyS (news := x.binds.map cI) tabOk rfl rfl rfl rfl rfl rfl rfl (by simp; show _ * 8 ≤ _; omega) (by simp; omega) F w C tmps hI hF next Q fun u w' C' v σ' hq => hk u w' C' v σ' ?_
        obtain ⟨rfl, rfl⟩ := hq
        exact ⟨rfl, rfl⟩
      | [a], hG =>
        obtain ⟨rfl, rfl⟩ := hG
        cases hp1
        cases hp2
        exact ⟨rfl, rfl, .inl ⟨_, _, HStep.auto tabOk rfl, rfl, rfl, rfl⟩⟩
      | [a, b], hG =>
        obtain ⟨rfl, rfl, rfl⟩ := hG
        cases hp1
        cases hp2
        exact ⟨rfl, rfl, .inl ⟨_, _, HStep.auto tabOk rfl, rfl, rfl, rfl, rfl⟩⟩
      | [a, b, c], hG => cases hp1
    rintro vs σ hlen hG
    match vs, hlen, hG with
    | [a, b, c], _, hG =>
    obtain ⟨rfl, rfl, rfl, rfl⟩ := hG
    refine zA ?_
    refine ACode.grow 4 3 70 1 rfl rfl ?_
    refine ACode.loopR hΓ (α := Nat) (fun i => [(31, .one (int i)), (30, .one (int (x.kids.map cI).length)), (29, .one (.sl 1 (x.kids.map cI))), (6, .one (.ptr (.l 3) 0)), (5, .one (.ptr (.l 2) 0)), (3, .one (.ptr (.l 0) 0)), (15, .one (int j)), (14, .one (int (e.map cEx).length)), (13, .one (.sl 5 (e.map cEx))), (0, .one (.sl 5 (e.map cEx)))])
      (fun i => ⟨5, [(4, .tok 70 1 i), (3, .cells [int x.op, int x.n, .sl 1 (x.binds.map cI), .gs 1 (kC (kidsL lts (x.kids.take i))) (.l 4), .lit (.slice none 0 0)]), (2, .cells (cEx x)), (1, .tok 70 1 j), (0, wO lts)], ov⟩)
      (fun m i => i ≤ x.kids.length ∧ m = x.kids.length - i) (a0 := 0) (ρ := fun k => if k = 3 then 4 else if k = 4 then 5 else k) ⟨by omega, rfl⟩ (LessR.of rfl (by (repeat' first | exact FrSub.nil | refine zfc ?_ | refine zfo ?_ | refine zfp ?_)) (by simp) ?_ rfl rfl hov) fun m i hi => ?_
    · repeat' first | exact LoSub.nil | refine zlc ?_ | refine zld ?_ ?_ | rfl
      all_goals (simp [AObj.ren, renL, AC.ren, kidsL]; exact ⟨rfl, rfl⟩)
    obtain ⟨hil, rfl⟩ := hi
    refine zA ?_
    refine ACode.cond rfl (fun hb3 => ?_) (fun hb3 => ?_)
    · have hlt2 : i < x.kids.length := by simpa using hb3
      obtain ⟨k, hk⟩ := get_of_lt hlt2
      have hkb := hxin k (List.mem_of_getElem? hk)
      obtain ⟨k', rfl⟩ : ∃ k' : Nat, k = k' := ⟨k.toNat, by omega⟩
      obtain ⟨tk, htk⟩ := get_of_lt (l := lts) (i := k') (by omega)
      have htd : (lts).getD (k' : Int).toNat default = tk := by rw [Int.toNat_natCast, List.getD_eq_getElem?_getD, htk]; rfl
      have hks := kidsL_succ (ts := lts) hk
      rw [htd] at hks
      have hkl : (kC (kidsL lts (x.kids.take i))).length = i := by simp [kC, kidsL]; omega
      refine zA ?_
      refine AOps.step1 rfl rfl rfl (AStep.indexAddr tabOk rfl rfl rfl rfl rfl rfl (.inl rfl) rfl (by omega) (map_get hk)) ?_
      refine zA ?_
      refine ACode.drawXH (va := .one (.gs 1 (kC (kidsL lts (x.kids.take i)) ++ [[AC.ptr (.o tk.id) 0]]) (.l 5))) (σ1 := ((St.mk 5 [(4, .tok 70 1 i), (3, .cells [int x.op, int x.n, .sl 1 (x.binds.map cI), .gs 1 (kC (kidsL lts (x.kids.take i))) (.l 4), .lit (.slice none 0 0)]), (2, .cells (cEx x)), (1, .tok 70 1 j), (0, wO lts)] ov).set (.l 4) .dead).push (.tok 70 1 (kC (kidsL lts (x.kids.take i)) ++ [[AC.ptr (.o tk.id) 0]]).length))
        tabOk 14 13 [(10, .one (.box [.ptr (.o tk.id) 0]))] follows (by kernel_rfl) rfl rfl rfl rfl rfl rfl rfl ?_ ?_ ?_ ?_
      · refine HStep.plain rfl (AStep.append (s := 1) (es := kC (kidsL lts (x.kids.take i))) (news := [[AC.ptr (.o tk.id) 0]]) (ti := ti71) (σ := ⟨5, [(4, .tok 70 1 i), (3, .cells [int x.op, int x.n, .sl 1 (x.binds.map cI), .gs 1 (kC (kidsL lts (x.kids.take i))) (.l 4), .lit (.slice none 0 0)]), (2, .cells (cEx x)), (1, .tok 70 1 j), (0, wO lts)], ov⟩) tabOk rfl rfl rfl rfl rfl rfl (Base.gs' _ 70 1 (kC (kidsL lts (x.kids.take i))) (.l 4) rfl hkl.symm) (.sl _ _) rfl ?_ ?_)
        · rw [hkl]; show (i + 1) * 8 ≤ _; omega
        · rw [hkl]; show i + 1 ≤ _; omega
      · exact .step rfl (HStep.plain rfl (AStep.indexAddr tabOk rfl rfl rfl rfl rfl rfl (.inr ⟨_, rfl⟩) rfl (by omega) (kC_get htk))) .nil
      · exact .step rfl (HStep.plain rfl (AStep.indexAddr tabOk rfl rfl rfl rfl rfl rfl (.inr ⟨_, rfl⟩) rfl (by omega) (kC_get htk))) .nil
      refine zM ?_
      refine cInv ⟨x.kids.length - (i + 1), i + 1, fun k => if k = 4 then 5 else k, by omega, ⟨by omega, rfl⟩, LessR.of rfl (by (repeat' first | exact FrSub.nil | refine zfc ?_ | refine zfo ?_ | refine zfp ?_)) (by simp) ?_ rfl rfl hov⟩
      repeat' first | exact LoSub.nil | refine zlc ?_ | refine zld ?_ ?_ | rfl
      · simp only [AObj.ren, List.length_append, hkl]; rfl
      · rw [hks, kC_snoc]; simp only [AObj.ren, renL, AC.ren]; rw [← kC_snoc, ren_kC]; simp; rfl
    have hlt2 : i = x.kids.length := by simp at hb3; omega
    subst hlt2
    rw [List.take_length]
    refine zA ?_
    refine ACode.grow 3 4 89 2 rfl rfl ?_
    refine ACode.loopR hΓ (α := Nat × List LAlt) (fun c => [(55, .one (int c.1)), (54, .one (int (x.alts.map cAlt).length)), (53, .one (.sl 2 (x.alts.map cAlt))), (6, .one (.ptr (.l 3) 0)), (3, .one (.ptr (.l 0) 0)), (15, .one (int j)), (14, .one (int (e.map cEx).length)), (13, .one (.sl 5 (e.map cEx))), (0, .one (.sl 5 (e.map cEx)))])
      (fun c => ⟨6, [(5, .tok 89 2 c.1), (3, .cells [int x.op, int x.n, .sl 1 (x.binds.map cI), .gs 1 (kC (kidsL lts x.kids)) (.l 4), .gs 2 (c.2.map lAlt) (.l 5)]), (1, .tok 70 1 j), (0, wO lts)], ov⟩)
      (fun m c => c.1 ≤ x.alts.length ∧ (c.2.map LAlt.er = x.alts.take c.1 ∧ ∀ y ∈ c.2, y.nb = none) ∧ m = x.alts.length - c.1) (a0 := (0, [])) (ρ := id) ⟨by omega, ⟨rfl, by simp⟩, rfl⟩ (LessR.of rfl (by (repeat' first | exact FrSub.nil | refine zfc ?_ | refine zfo ?_ | refine zfp ?_)) (by simp) ?_ rfl rfl hov) fun m c hc => ?_
    · repeat' first | exact LoSub.nil | refine zlc ?_ | refine zld ?_ ?_ | rfl
      all_goals (simp [AObj.ren, renL, AC.ren]; exact ⟨rfl, rfl⟩)
    obtain ⟨i, la⟩ := c
    obtain ⟨hil, ⟨hla, hlo⟩, rfl⟩ := hc
    dsimp only at hil hla hlo
    have hll : la.length = i := by have := congrArg List.length hla; simp at this; omega
    have hal : (la.map lAlt).length = i := by simp [hll]
    refine zA ?_
    refine ACode.cond rfl (fun hb3 => ?_) (fun hb3 => ?_)
    · have hlt2 : i < x.alts.length := by simpa using hb3
      obtain ⟨a, ha⟩ := get_of_lt hlt2
      have hab := hxo.ab a (List.mem_of_getElem? ha)
      refine zA ?_
      refine AOps.step1 rfl rfl rfl (AStep.indexAddr tabOk rfl rfl rfl rfl rfl rfl (.inl rfl) rfl (by omega) (map_get ha)) ?_
      refine zA ?_
      refine ACode.drawC tabOk 13 [9, 10, 11, 12] [] (fun vs σ => match vs with
          | [] => σ = ⟨7, [(6, .cells (cAlt a)), (6, .cells (ti89.zero.map .lit)), (5, .tok 89 2 i), (3, .cells [int x.op, int x.n, .sl 1 (x.binds.map cI), .gs 1 (kC (kidsL lts x.kids)) (.l 4), .gs 2 (la.map lAlt) (.l 5)]), (1, .tok 70 1 j), (0, wO lts)], ov⟩
          | [q1] => q1 = .one (bC none a.binds) ∧ σ = ⟨8, (7, .dead) :: [(6, .cells (cAlt a)), (6, .cells (ti89.zero.map .lit)), (5, .tok 89 2 i), (3, .cells [int x.op, int x.n, .sl 1 (x.binds.map cI), .gs 1 (kC (kidsL lts x.kids)) (.l 4), .gs 2 (la.map lAlt) (.l 5)]), (1, .tok 70 1 j), (0, wO lts)], ov⟩
          | [q1, q2] => q1 = .one (bC none a.binds) ∧ q2 = .agg [int a.tag, bC none a.binds] ∧ σ = ⟨8, (7, .dead) :: [(6, .cells (cAlt a)), (6, .cells (ti89.zero.map .lit)), (5, .tok 89 2 i), (3, .cells [int x.op, int x.n, .sl 1 (x.binds.map cI), .gs 1 (kC (kidsL lts x.kids)) (.l 4), .gs 2 (la.map lAlt) (.l 5)]), (1, .tok 70 1 j), (0, wO lts)], ov⟩
          | [q1, q2, q3] => q1 = .one (bC none a.binds) ∧ q2 = .agg [int a.tag, bC none a.binds] ∧ q3 = .one (.sl 2 [[int a.tag, bC none a.binds]]) ∧ σ = ⟨8, (7, .dead) :: [(6, .cells (cAlt a)), (6, .cells (ti89.zero.map .lit)), (5, .tok 89 2 i), (3, .cells [int x.op, int x.n, .sl 1 (x.binds.map cI), .gs 1 (kC (kidsL lts x.kids)) (.l 4), .gs 2 (la.map lAlt) (.l 5)]), (1, .tok 70 1 j), (0, wO lts)], ov⟩
          | [q1, q2, q3, q4] => q1 = .one (bC none a.binds) ∧ q2 = .agg [int a.tag, bC none a.binds] ∧ q3 = .one (.sl 2 [[int a.tag, bC none a.binds]]) ∧ q4 = .one (.gs 2 (la.map lAlt ++ [[int a.tag, bC none a.binds]]) (.l 8)) ∧ σ = ⟨9, [(8, .tok 89 2 (la.map lAlt ++ [[int a.tag, bC none a.binds]]).length), (5, .dead), (7, .dead), (6, .cells (cAlt a)), (6, .cells (ti89.zero.map .lit)), (5, .tok 89 2 i), (3, .cells [int x.op, int x.n, .sl 1 (x.binds.map cI), .gs 1 (kC (kidsL lts x.kids)) (.l 4), .gs 2 (la.map lAlt) (.l 5)]), (1, .tok 70 1 j), (0, wO lts)], ov⟩
          | _ => False) follows (by kernel_rfl) rfl rfl (by decide) (by kernel_rfl) (by kernel_rfl) rfl rfl ?_ (fun _ _ _ => .nil) (by decide) ?_ ?_
      · rintro vs σ hG
        match vs, hG with
        | [], hG => subst hG; rfl
        | [_], hG => obtain ⟨_, rfl⟩ := hG; rfl
        | [_, _], hG => obtain ⟨_, _, rfl⟩ := hG; rfl
        | [_, _, _], hG => obtain ⟨_, _, _, rfl⟩ := hG; rfl
        | [_, _, _, _], hG => obtain ⟨_, _, _, _, rfl⟩ := hG; rfl
      · rintro vs σ hG q o hp1 hp2
        match vs, hG with
        | [], hG =>
          subst hG
          cases hp1
          cases hp2
          refine ⟨rfl, rfl, .inr ⟨rfl, ?_⟩⟩
          intro F w C tmps hI hF next Q hk
          refine AStepR.appCopyS (news := a.binds.map cI) tabOk rfl rfl rfl rfl rfl rfl rfl (by simp; show _ * 8 ≤ _; omega) (by simp; omega) F w C tmps hI hF next Q fun u w' C' v σ' hq => hk u w' C' v σ' ?_
          obtain ⟨rfl, rfl⟩ := hq
          exact ⟨rfl, rfl⟩
        | [_], hG =>
          obtain ⟨rfl, rfl⟩ := hG
          cases hp1
          cases hp2
          exact ⟨rfl, rfl, .inl ⟨_, _, HStep.auto tabOk rfl, rfl, rfl, rfl⟩⟩
        | [_, _], hG =>
          obtain ⟨rfl, rfl, rfl⟩ := hG
          cases hp1
          cases hp2
          exact ⟨rfl, rfl, .inl ⟨_, _, HStep.auto tabOk rfl, rfl, rfl, rfl, rfl⟩⟩
        | [_, _, _], hG =>
          obtain ⟨rfl, rfl, rfl, rfl⟩ := hG
          cases hp1
          cases hp2
          refine ⟨rfl, rfl, .inl ⟨_, _, HStep.plain rfl (AStep.append (s := 2) (es := la.map lAlt) (news := [[int a.tag, bC none a.binds]]) (ti := ti51) tabOk rfl rfl rfl rfl rfl rfl (Base.gs' _ 89 2 (la.map lAlt) (.l 5) rfl hal.symm) (.sl _ _) rfl ?_ ?_), rfl, rfl, rfl, rfl, rfl⟩⟩
          · rw [hal]; show (i + 1) * 32 ≤ _; omega
          · rw [hal]; show i + 1 ≤ _; omega
        | [_, _, _, _], hG => cases hp1
      rintro vs σ hlen hG
      match vs, hlen, hG with
      | [_, _, _, _], _, hG =>
      obtain ⟨rfl, rfl, rfl, rfl, rfl⟩ := hG
      refine zM ?_
      obtain ⟨la', hla'⟩ : ∃ la', la' = la ++ [⟨a.tag, none, a.binds⟩] := ⟨_, rfl⟩
      have hlm : la.map lAlt ++ [[int a.tag, bC none a.binds]] = la'.map lAlt := by rw [hla', List.map_append]; rfl
      refine cInv ⟨x.alts.length - (i + 1), (i + 1, la'), fun k => if k = 5 then 8 else k, by omega, ⟨by omega, ⟨by rw [hla', List.map_append, hla, take_get ha]; rfl, ?_⟩, rfl⟩, LessR.of rfl (by (repeat' first | exact FrSub.nil | refine zfc ?_ | refine zfo ?_ | refine zfp ?_)) (by simp) ?_ rfl rfl hov⟩
      · intro y hy
        rw [hla'] at hy
        rcases List.mem_append.1 hy with hy | hy
        · exact hlo y hy
        · simp at hy; subst hy; rfl
      · repeat' first | exact LoSub.nil | refine zlc ?_ | refine zld ?_ ?_ | rfl
        · simp only [AObj.ren, List.length_append, hal]; rfl
        · simp only [hlm, AObj.ren, renL, AC.ren, ren_kC, ren_lAlts]; simp; exact ⟨rfl, rfl⟩
    have hlt2 : i = x.alts.length := by simp at hb3; omega
    subst hlt2
    rw [List.take_length] at hla
    repeat ((fail_if_success ((with_reducible refine oj ?_); refine AOps.atDst 75 rfl ?_)); first | refine zO ?_)
    refine AOps.wkObj (.l 3) rfl (cs' := [int x.op, int x.n, .sl 1 (x.binds.map cI), .sl 1 (kC (kidsL lts x.kids)), .sl 2 (la.map lAlt)]) (fun w C xs h => ?_) ?_
    · exact (show WkL _ _ from .cons (.refl _) (.cons (.refl _) (.cons (.refl _) (.cons (.gsE rfl) (.cons (.gsE rfl) .nil))))) w C xs h
    have hθ : ∀ (k : Nat) (i : Abs.Id), isO i → toOs [3] k i = i := fun k i hi => by cases i with | l q => exact hi.elim | o q => rfl
    have hnid : (AObj.cells [int x.op, int x.n, .sl 1 (x.binds.map cI), .sl 1 (kC (kidsL lts x.kids)), .sl 2 (la.map lAlt)]).ids isO := ids_node x.op x.n none x.binds (kidsL lts x.kids) la
    refine AOps.cedes [3] rfl (by decide) hov fun k hk => ⟨[(6, .one (.ptr (.o k) 0)), (3, .one (.ptr (.l 0) 0)), (15, .one (int j)), (14, .one (int (e.map cEx).length)), (13, .one (.sl 5 (e.map cEx))), (0, .one (.sl 5 (e.map cEx)))],
      [(1, .tok 70 1 j), (0, wO lts)], [.cells [int x.op, int x.n, .sl 1 (x.binds.map cI), .sl 1 (kC (kidsL lts x.kids)), .sl 2 (la.map lAlt)]], ?_, ?_, ?_, ?_⟩
    · exact .cons rfl rfl (.cons rfl rfl (.cons rfl rfl (.cons rfl rfl (.cons rfl (FV.sub_f (hθ k) _ (by simp)) (.cons rfl (FV.sub_f (hθ k) _ (by simp)) .nil)))))
    · refine .cons rfl rfl rfl (.cons rfl rfl ?_ .nil)
      simp only [wO, AObj.sub, subL, AC.sub]
      rw [subS_f (hθ k) _ (ids_kC_o _)]
      rfl
    · exact .cons rfl (AObj.sub_f (hθ k) _ hnid) .nil
    have hN1 := NewO.add hk hov hnid
    have hN2 := hN.trans hN1
    obtain ⟨t, ht⟩ : ∃ t : LTr, t = .mk k x.op x.n none x.binds (kidsL lts x.kids) la := ⟨_, rfl⟩
    have hto : lts.flatMap ownO ++ [(k, .cells [int x.op, int x.n, .sl 1 (x.binds.map cI), .sl 1 (kC (kidsL lts x.kids)), .sl 2 (la.map lAlt)])] = (lts ++ [t]).flatMap ownO := by
      rw [List.flatMap_append, ht]
      simp [ownO, bO, bC, plain_aO hlo]
    rw [hto] at hN2
    have hL2 := hL.snoc (kidsIn_pre (by rw [List.take_append_drop]; exact hin)) (x := x) (fun q hq => by have := hxin q hq; simp; omega) (id := k) (nb := none) hla rfl hlo
    rw [← take_get hx, show LTr.mk k x.op x.n none x.binds (x.kids.map fun q => lts.getD q.toNat default) la = t by rw [ht]; rfl] at hL2
    refine zA ?_
    refine AOps.app tabOk rfl rfl rfl rfl rfl rfl rfl rfl rfl (Base.gs' _ 70 1 _ _ rfl hkcl.symm) (.sl _ _) rfl ?_ ?_ ?_
    · rw [hkcl]; show (j + 1) * 8 ≤ _; omega
    · rw [hkcl]; show j + 1 ≤ _; omega
    refine zM ?_
    have hsk : kC lts ++ [[AC.ptr (.o k) 0]] = kC (lts ++ [t]) := by rw [kC_app, ht]; rfl
    refine cInv ⟨e.length - (j + 1), (j + 1, lts ++ [t], _), fun q => if q = 1 then 6 else q, by omega, ⟨by omega, ⟨hL2, hN2⟩, rfl⟩, LessR.of rfl (by (repeat' first | exact FrSub.nil | refine zfc ?_ | refine zfo ?_ | refine zfp ?_)) (by simp) ?_ rfl rfl hN2.ok⟩
    repeat' first | exact LoSub.nil | refine zlc ?_ | refine zld ?_ ?_ | rfl
    · simp only [AObj.ren, List.length_append, hkcl]; rfl
    · show _ = AObj.ren _ (.cells [.gs 1 (kC (lts ++ [t])) (.l 1), .lit (.pointer none)])
      simp only [AObj.ren, renL, AC.ren, ren_kC]
      rw [hsk]; rfl
  · have hlt : j = e.length := by simp at hb2; omega
    subst hlt
    rw [List.take_length] at hL
    obtain ⟨N, hNe⟩ : ∃ N, e.length = N + 1 := ⟨e.length - 1, by have := List.length_pos_iff.2 hne; omega⟩
    obtain ⟨t, ht⟩ := get_of_lt (l := lts) (i := N) (by rw [hL.len]; omega)
    have hnt : e.length - 1 = N := by omega
    refine zM ?_
    refine AOps.wk 93 rfl (y := .one (int (N : Nat))) (.ofEq (by congr 3; simp; omega)) ?_
    refine AOps.step1 rfl rfl rfl (AStep.indexAddr tabOk rfl rfl rfl rfl rfl rfl (.inr ⟨_, rfl⟩) rfl (by omega) (kC_get ht)) ?_
    repeat ((fail_if_success ((with_reducible refine oj ?_); refine AOps.atDst 98 rfl ?_)); first | refine zO ?_)
    refine AOps.wkObj (.l 0) rfl (cs' := [.sl 1 (kC lts), .ptr (.o t.id) 0]) (fun w C xs h => ?_) ?_
    · exact (show WkL _ _ from .cons (.gsE rfl) (.cons (.refl _) .nil)) w C xs h
    refine AOps.freeze1 (.l 0) 3 rfl rfl ?_
    refine zA ?_
    exact AFn.fin' rfl (WkF.ofEq rfl) (by simp) hov ⟨lts, t, rfl, hL, by rw [hnt]; exact ht, hN⟩
end Go.Proofs.YtgdionbeeodaaaaDoor
namespace Go.CoreX
theorem word_range {e : List Ex} {x : Ex} (h : nodeErrF false e x = 0) (h1 : x.op = 1) : -1073741824 ≤ x.n ∧ x.n ≤ 1073741823 := by
  unfold nodeErrF at h
  split at h
  · cases h
  · unfold nodeErr at h
    split at h
    · cases h
    · split at h
      · rename_i hr; exact absurd h hr
      · rename_i hr
        have hr' : ranges x = 0 := by simpa using hr
        unfold ranges at hr'
        repeat' split at hr'
        all_goals first
          | (cases hr'; done)
          | skip
        all_goals
          rename_i hf _
          simp [between, lowN, highN, h1] at *
          try omega
theorem check_words {e : List Ex} (h : check e = 0) : allT (fun l => l.op = 1 → -1073741824 ≤ l.n ∧ l.n ≤ 1073741823) (grow e) := by
  obtain ⟨_, p2, _, _⟩ := check_parts h
  exact allT_grow (body_isTree h) fun x hx h1 => word_range (p2 x hx) h1
theorem pOk_growLR {e : List Ex} (hk : kidsIn e) (hp : ∀ x ∈ e, pOk (labE e x)) (p : Nat) {X : Tr} (hX : allT pOk X) : ∀ (n j : Nat), j < n → j < e.length → allT pOk ((growLR e p X).getD j default)
  | 0, j, hj, _ => by omega
  | n + 1, j, hj, hl => by
    obtain ⟨x, hx⟩ : ∃ x, e[j]? = some x := ⟨e[j], List.getElem?_eq_getElem hl⟩
    rw [growLR_node hk p X hx]
    split
    · exact hX
    · have h := hp x (List.mem_of_getElem? hx)
      refine ⟨⟨h.b, ?_, h.a, h.ab, h.s⟩, allTs_iff.2 fun t ht => ?_⟩
      · have := h.k
        simp only [labE, List.length_map] at this ⊢
        exact this
      · obtain ⟨q, hq, rfl⟩ := List.mem_map.1 ht
        have := hk j x hx q hq
        exact pOk_growLR hk hp p hX n q.toNat (by omega) (by omega)
theorem cnt_at {e : List Ex} (h : check e = 0) {k : Nat} (hk : k < e.length) : cntN (treeAt e k) ≤ 4096 := by
  have t1 := body_isTree h
  obtain ⟨p1, _⟩ := check_parts h
  obtain ⟨q1, _, _⟩ := (treeErr_iff e).1 p1
  have h1 := len_sub t1 hk
  have h2 := cntN_list (treeAt e k) []
  simp only [List.length_nil] at h2
  omega
end Go.CoreX
namespace Go.Proofs.YtgdionbeeodaaaaDoor
open Go Go.Abs Go.CoreX
set_option maxRecDepth 10000
theorem LinkL.plain {e : List Ex} {lts : List LTr} (h : LinkL e lts plainB) (hk : kidsIn e) : ∀ (n i : Nat) (t : LTr), i < n → lts[i]? = some t → plainL t
  | 0, i, t, hi, _ => by omega
  | n + 1, i, t, hi, ht => by
    have hil : i < e.length := by rw [← h.len]; exact (List.getElem?_eq_some_iff.1 ht).1
    obtain ⟨x, hx⟩ := get_of_lt hil
    obtain ⟨id, nb, a, h1, h2, h3, h4⟩ := h.at_ i x hx
    rw [ht] at h1
    cases h1
    refine ⟨h3, h4, plainLs_iff.2 fun s hs => ?_⟩
    obtain ⟨q, hq, rfl⟩ := List.mem_map.1 hs
    have hq' := hk i x hx q hq
    obtain ⟨t', ht'⟩ := get_of_lt (l := lts) (i := q.toNat) (by rw [h.len]; omega)
    rw [h.getD ht']
    exact h.plain hk n q.toNat t' (by omega) ht'
theorem objss_count_le (k : Nat) {s : LTr} : ∀ {l : List LTr}, s ∈ l → (keys (objs s)).count k ≤ (keys (objss l)).count k
  | [], h => by cases h
  | t :: l, h => by
    simp only [objss, keys_app, List.count_append]
    rcases List.mem_cons.1 h with rfl | h
    · omega
    · have := objss_count_le k h; omega
theorem sub_count (k : Nat) {t0 t : LTr} (h : SubL t0 t) : (keys (objs t0)).count k ≤ (keys (objs t)).count k := by
  induction h with
  | here => exact Nat.le_refl _
  | @kid t s hs _ ih =>
    have h1 := objs_count k t
    have h2 := objss_count_le k hs
    omega
theorem sub_nodup {t0 t : LTr} (h : SubL t0 t) (hn : (keys (objs t)).Nodup) : (keys (objs t0)).Nodup := by
  rw [List.nodup_iff_count] at hn ⊢
  exact fun k => Nat.le_trans (sub_count k h) (hn k)
theorem own_id : ∀ t : LTr, t.id ∈ keys (ownO t)
  | .mk i o n nb b k a => by simp [ownO, keys, LTr.id]
theorem ids_inj : ∀ {lts : List LTr}, (keys (lts.flatMap ownO)).Nodup → ∀ (i j : Nat) (ti tj : LTr), lts[i]? = some ti → lts[j]? = some tj → ti.id = tj.id → i = j
  | [], _, i, j, ti, tj, h, _, _ => by simp at h
  | t :: l, hn, i, j, ti, tj, hi, hj, he => by
    rw [List.flatMap_cons, keys_app, List.nodup_append] at hn
    have hmem : ∀ (q : Nat) (s : LTr), l[q]? = some s → s.id ∈ keys (l.flatMap ownO) := fun q s hs => by
      obtain ⟨o, ho⟩ := of_keys (own_id s)
      exact mem_keys (List.mem_flatMap.2 ⟨s, List.mem_of_getElem? hs, ho⟩)
    cases i with
    | zero =>
      simp at hi; subst hi
      cases j with
      | zero => rfl
      | succ j => exact absurd he (hn.2.2 _ (own_id _) _ (hmem j tj (by simpa using hj)))
    | succ i =>
      cases j with
      | zero =>
        simp at hj; subst hj
        exact absurd he.symm (hn.2.2 _ (own_id _) _ (hmem i ti (by simpa using hi)))
      | succ j => rw [ids_inj hn.2.1 i j ti tj (by simpa using hi) (by simpa using hj) he]
end Go.Proofs.YtgdionbeeodaaaaDoor
namespace Go.Proofs.YtgdionbeeodaaaaDoor
open Go Go.Abs Go.CoreX
set_option maxRecDepth 10000
variable {Γ : List (Nat × List AC)}
structure NameOk (e : List Ex) (rule n : Int) (at' : Nat) : Prop where
  n : rule = 10 → ∀ (ou : Outer) (lts : List LTr) (root t : LTr), LinkL e lts plainB → lts[e.length - 1]? = some root → lts[at']? = some t → Owns ou (lts.flatMap ownO) → AFn Tryd.prog Γc 85 [.one (.box [.sl 1 (kC lts), .ptr (.o root.id) 0]), .one (.ptr (.o t.id) 0), .one (int n)] ou (ResW ou t (namedT (grow e) (erT t) n))
  u : rule = 12 → ∀ (ou : Outer) (lts : List LTr) (root t : LTr), LinkL e lts plainB → lts[e.length - 1]? = some root → lts[at']? = some t → Owns ou (lts.flatMap ownO) → (erT t).op = 0 → AFn Tryd.prog Γc 86 [.one (.box [.sl 1 (kC lts), .ptr (.o root.id) 0]), .one (.ptr (.o t.id) 0)] ou (ResW ou t (unfoldT (growL e) (grow e) (erT t)))
theorem NameOk.no {e : List Ex} {rule n : Int} {at' : Nat} (h1 : rule ≠ 10) (h2 : rule ≠ 12) : NameOk e rule n at' := ⟨fun h => absurd h h1, fun h => absurd h h2⟩
set_option maxHeartbeats 1000000 in
theorem Apply_ok (e : List Ex) (he : okB e) (rule at' n : Int) (hno : check e = 0 → 0 ≤ at' → at' < (e.length : Int) → NameOk e rule n at'.toNat) : APure Tryd.prog Γc 16 [.one (.sl 5 (e.map cEx)), .agg [int rule, int at', int n]] (.tup [.one (.sl 5 ((applyE e rule at' n).1.map cEx)), .one (int (applyE e rule at' n).2)]) := by
  have c1 := Check_ok e he
  have hel := he.eo.l
  intro ou
  refine AFn.forget ?_
  refine AFn.walk 64 tabOk Tryd.func16 rfl (by kernel_rfl) rfl rfl fun hou => ?_
  refine zA ?_
  refine zca hΓc c1 hou ?_
  refine zA ?_
  refine ACode.cond rfl (fun hb => ?_) (fun hb => ?_)
  · have h : check e ≠ 0 := by simpa using hb
    refine zA ?_
    refine AFn.fin' rfl (.trans (WkF.tup (.cons (.one (.nilS 5)) (.cons (.refl _) .nil))) (.ofEq ?_)) (by simp) hou ⟨ou, fun _ _ h => h, rfl, rfl⟩
    unfold applyE
    rw [if_pos h]; rfl
  have h : check e = 0 := by simpa using hb
  have t1 := body_isTree h
  refine zA ?_
  refine AOps.splitS rfl rfl rfl rfl (fun hb1 => ?_) (fun hb1 => ?_)
  · have h1 : rule < 1 := by simpa using hb1
    refine zA ?_
    refine AFn.fin' rfl (.trans (WkF.tup (.cons (.one (.nilS 5)) (.cons (.refl _) .nil))) (.ofEq ?_)) (by simp) hou ⟨ou, fun _ _ h => h, rfl, rfl⟩
    unfold applyE
    rw [if_neg (by simpa using h), if_pos (.inl h1)]; rfl
  have h1 : ¬ rule < 1 := by simpa using hb1
  refine zA ?_
  refine ACode.cond rfl (fun hb2 => ?_) (fun hb2 => ?_)
  · have h2 : 12 < rule := by simpa using hb2
    refine zA ?_
    refine AFn.fin' rfl (.trans (WkF.tup (.cons (.one (.nilS 5)) (.cons (.refl _) .nil))) (.ofEq ?_)) (by simp) hou ⟨ou, fun _ _ h => h, rfl, rfl⟩
    unfold applyE
    rw [if_neg (by simpa using h), if_pos (.inr h2)]; rfl
  have h2 : ¬ 12 < rule := by simpa using hb2
  refine zA ?_
  refine AOps.splitS rfl rfl rfl rfl (fun hb3 => ?_) (fun hb3 => ?_)
  · have h3 : at' < 0 := by simpa using hb3
    refine zA ?_
    refine AFn.fin' rfl (.trans (WkF.tup (.cons (.one (.nilS 5)) (.cons (.refl _) .nil))) (.ofEq ?_)) (by simp) hou ⟨ou, fun _ _ h => h, rfl, rfl⟩
    unfold applyE
    rw [if_neg (by simpa using h), if_neg (by omega), if_pos (.inl h3)]; rfl
  have h3 : ¬ at' < 0 := by simpa using hb3
  refine zA ?_
  refine ACode.cond rfl (fun hb4 => ?_) (fun hb4 => ?_)
  · have h4 : (e.length : Int) ≤ at' := by simpa using hb4
    refine zA ?_
    refine AFn.fin' rfl (.trans (WkF.tup (.cons (.one (.nilS 5)) (.cons (.refl _) .nil))) (.ofEq ?_)) (by simp) hou ⟨ou, fun _ _ h => h, rfl, rfl⟩
    unfold applyE
    rw [if_neg (by simpa using h), if_neg (by omega), if_pos (.inr h4)]; rfl
  have h4 : ¬ (e.length : Int) ≤ at' := by simpa using hb4
  have hap : applyE e rule at' n = match resT (growL e) (grow e) rule n (treeAt e at'.toNat) with
    | none => ([], 12)
    | some x => if check (listT [] (growR e at'.toNat x)) ≠ 0 then ([], 2) else (listT [] (growR e at'.toNat x), 0) := by
    conv => lhs; unfold applyE
    rw [if_neg (by simpa using h), if_neg (by omega), if_neg (by omega)]
    cases resT (growL e) (grow e) rule n (treeAt e at'.toNat) <;> rfl
  have hno := hno h (by omega) (by omega)
  obtain ⟨p, rfl⟩ : ∃ p : Nat, at' = p := ⟨at'.toNat, by omega⟩
  rw [Int.toNat_natCast] at hap hno
  have hp : p < e.length := by omega
  obtain ⟨x, hx⟩ := get_of_lt hp
  refine zA ?_
  refine AOps.call1 hΓc rfl rfl rfl rfl rfl rfl rfl (by simp) hou (open_ok hΓc e he.eo t1.k t1.ne ou) fun r ov hq hids hov => ?_
  obtain ⟨lts, root, rfl, hL, hr, hN⟩ := hq
  obtain ⟨id, nb, a, ht0, ha, hnb, hab⟩ := hL.at_ p x hx
  obtain rfl : nb = none := hnb
  obtain ⟨ks, hks⟩ : ∃ ks, ks = x.kids.map fun q => lts.getD q.toNat default := ⟨_, rfl⟩
  rw [← hks] at ht0
  obtain ⟨t, hte⟩ : ∃ t, t = LTr.mk id x.op x.n none x.binds ks a := ⟨_, rfl⟩
  have ht : lts[p]? = some t := by rw [hte]; exact ht0
  have hpl := hL.plain t1.k _ p t (Nat.lt_succ_self _) ht
  have her : erT t = treeAt e p := hL.er t1.k _ p t (Nat.lt_succ_self _) ht
  have hrer : erT root = grow e := by
    have := hL.er t1.k _ _ root (Nat.lt_succ_self _) hr
    rw [this]; rfl
  have hok : okT (erT t) := by rw [her]; exact treeAt_ok he t1 hp
  have hsh : allT shpL (erT t) := by rw [her]; exact allT_treeAt t1 (check_shp h) hp
  have hwd : allT (fun l => l.op = 1 → -1073741824 ≤ l.n ∧ l.n ≤ 1073741823) (erT t) := by rw [her]; exact allT_treeAt t1 (check_words h) hp
  have hct : cntN (erT t) ≤ 4096 := by rw [her]; exact cnt_at h hp
  have hcr : cntN (erT root) ≤ 4096 := by
    rw [hrer]; exact cnt_at h (k := e.length - 1) (by have := List.length_pos_iff.2 t1.ne; omega)
  have hOw : ∀ (q : Nat) (s : LTr), lts[q]? = some s → Owns ov (objs s) := fun q s hs o ho => hN.own o (hL.own t1.k _ q s (Nat.lt_succ_self _) hs o ho)
  have hrn : (keys (objs root)).Nodup := hL.nodup t1 hN.nd hr
  have hsub := hL.sub t1 hr p t ht
  have htn := sub_nodup hsub hrn
  have hinj := ids_inj hN.nd
  have hres := result_ok (Γ := Γc) hΓc [.sl 1 (kC lts), .ptr (.o root.id) 0] (by simp) (growL e) (grow e) rule p n id x.op x.n x.binds ks a (by rw [← hte]; exact hpl) (by rw [← hte]; exact hok) (by rw [← hte]; exact hsh) (by rw [← hte]; omega)
    (fun s hs h1 => by
      have h2 := allT_kid hwd (er_kid (t := t) (s := s) (by rw [hte]; exact hs))
      cases hse : erT s with
      | mk o' n' b' k' a' =>
        rw [hse] at h2 h1
        exact h2.1 h1)
    ov (by rw [← hte]; exact hOw p t ht) (by rw [← hte]; exact htn)
    (fun h10 => by rw [← hte]; have := hno.n h10 ov lts root t hL hr ht hN.own; rwa [hte] at this ⊢) (fun h12 h0 => by rw [← hte]; have := hno.u h12 ov lts root t hL hr ht hN.own (by rw [hte]; exact h0); rwa [hte] at this ⊢)
  rw [← hte, her] at hres
  have hti : t.id = id := by rw [hte]; rfl
  obtain ⟨X, hX⟩ : ∃ X, X = resT (growL e) (grow e) rule n (treeAt e p) := ⟨_, rfl⟩
  rw [← hX] at hres hap
  refine zA ?_
  refine ACode.drawX tabOk 8 [(6, .one (.box [.ptr (.o id) 0]))] follows (by kernel_rfl) rfl rfl rfl rfl ?_ ?_
  · exact .step rfl (HStep.plain rfl (AStep.indexAddr tabOk rfl rfl rfl rfl rfl rfl (.inl rfl) rfl (by omega) (by rw [← hti]; exact kC_get ht))) .nil
  refine zA ?_
  refine AOps.call1 hΓc rfl rfl rfl rfl rfl rfl rfl (by simp [idsF]) hov hres fun r ow hq hids how => ?_
  cases X with
  | none =>
    obtain ⟨rfl, _, hfr⟩ := hq
    refine zA ?_
    refine AOps.step1 rfl rfl rfl (AStep.eqNil0 Tryd.underlying70 rfl rfl rfl) ?_
    refine zA ?_
    exact AFn.fin' rfl (.trans (WkF.tup (.cons (.one (.nilS 5)) (.cons (.refl _) .nil))) (.ofEq (by rw [hap]; rfl))) (by simp) how ⟨ou, fun m o hm => hfr m o (hN.oldS hm), rfl, rfl⟩
  | some X =>
    obtain ⟨u, rfl, heu, huo, htu, _, hfr, huk⟩ := hq
    have hpX : allT pOk X := res_pOk (nodes := growL e) (root := grow e) (t := treeAt e p) (by rw [← her]; exact okT_pOk _ hok) (fun s hs => by
      obtain ⟨q, hq1, hq2⟩ := List.getElem_of_mem hs
      rw [growL_len] at hq1
      have : treeAt e q = s := by unfold treeAt; rw [List.getD_eq_getElem?_getD, List.getElem?_eq_getElem (by rw [growL_len]; exact hq1), hq2]; rfl
      rw [← this]; exact okT_pOk _ (treeAt_ok he t1 hq1)) hX.symm
    have hcX : cntN X ≤ 4 * 4096 + 4 := res_cnt (nodes := growL e) (root := grow e) (t := treeAt e p) (by rw [← her]; exact hsh) (cnt_at h hp) (fun s hs => by
      obtain ⟨q, hq1, hq2⟩ := List.getElem_of_mem hs
      rw [growL_len] at hq1
      have : treeAt e q = s := by unfold treeAt; rw [List.getD_eq_getElem?_getD, List.getElem?_eq_getElem (by rw [growL_len]; exact hq1), hq2]; rfl
      rw [← this]; exact cnt_at h hq1) hX.symm
    have htO := hOw p t ht
    have htg : ow t.id = some (.cells (lC t)) := hfr _ _ (owns_node htO) (self_tail htn)
    have hug := owns_node huo
    have htut : t.id ∉ keys (tailO u) := fun hm => htu (by rw [objs_tail]; exact List.mem_cons_of_mem _ hm)
    have huo' : Owns (setO ow t.id (.cells (lC u))) (objs (withId t.id u)) := withId_own (own_tail huo) htut
    have hro : Owns (setO ow t.id (.cells (lC u))) (objs (putL t.id (withId t.id u) root)) := fun q hq => by
      rcases put_own hsub hrn (withId_id t.id u) q hq with h5 | ⟨h5, h6⟩
      · exact huo' q h5
      · have hqt : q.1 ≠ t.id := fun e1 => h6 (e1 ▸ id_mem t)
        rw [setO_ne hqt]
        exact hfr _ _ (hOw _ root hr q h5) (fun hm => h6 (by rw [objs_tail]; exact List.mem_cons_of_mem _ hm))
    have hrid : (putL t.id (withId t.id u) root).id = root.id := putL_id (withId_id t.id u) root
    have hrer' : erT (putL t.id (withId t.id u) root) = growR e p X := by
      rw [hL.put_er t1.k hinj ht (withId t.id u) _ _ root (Nat.lt_succ_self _) hr, withId_er, heu]; rfl
    have hcnt : cntN (growR e p X) ≤ 1048576 := by
      have h5 := put_cnt (u := withId t.id u) hsub hrn
      rw [hrer', withId_er, heu] at h5
      omega
    have hpk : allT pOk (growR e p X) := pOk_growLR t1.k (fun y hy => okB_labs he _ (List.mem_map_of_mem (f := labE e) hy)) p hpX _ _ (Nat.lt_succ_self _) (by have := List.length_pos_iff.2 t1.ne; omega)
    have how3 : OuOk (setO ow t.id (.cells (lC u))) := setO_ok how (lC_ids u)
    have hhap : applyE e rule p n = if check (listT [] (growR e p X)) ≠ 0 then ([], 2) else (listT [] (growR e p X), 0) := hap
    have hfin : ∀ m o, ou m = some o → m ∉ keys (objs (putL t.id (withId t.id u) root)) ∧ setO ow t.id (.cells (lC u)) m = some o := fun m o hm => by
      have hmN : m ∉ keys (lts.flatMap ownO) := fun hk => by have := hN.new m hk; rw [hm] at this; cases this
      have hmt : m ∉ keys (objs t) := fun hk => by
        obtain ⟨o', ho'⟩ := of_keys hk
        exact hmN (mem_keys (hL.own t1.k _ p t (Nat.lt_succ_self _) ht _ ho'))
      have hw : ow m = some o := hfr _ _ (hN.oldS hm) (fun hk => hmt (by rw [objs_tail]; exact List.mem_cons_of_mem _ hk))
      have hmt2 : m ≠ t.id := fun e1 => hmt (e1 ▸ id_mem t)
      refine ⟨fun hk => ?_, by rw [setO_ne hmt2]; exact hw⟩
      obtain ⟨o', ho'⟩ := of_keys hk
      rcases put_own hsub hrn (withId_id t.id u) _ ho' with h5 | ⟨h5, _⟩
      · rw [objs_tail, withId_id, withId_tail] at h5
        rcases List.mem_cons.1 h5 with h5 | h5
        · exact hmt2 (by injection h5)
        · rcases huk m (by rw [objs_tail]; exact List.mem_cons_of_mem _ (mem_keys h5)) with h6 | h6
          · exact hmt (by rw [objs_tail]; exact List.mem_cons_of_mem _ h6)
          · rw [hN.oldS hm] at h6; cases h6
      · exact hmN (mem_keys (hL.own t1.k _ _ root (Nat.lt_succ_self _) hr _ h5))
    generalize hR : putL t.id (withId t.id u) root = R at hro hrid hrer' hfin
    cases u with
    | mk ku ou' nu nbu bu ksu au =>
    simp only [lC] at hug
    refine zA ?_
    refine AOps.step1 rfl rfl rfl (AStep.eqNil Tryd.underlying70 rfl rfl rfl) ?_
    refine zA ?_
    refine AOps.step1 rfl rfl rfl (AStep.loadOwnA tabOk rfl rfl rfl rfl rfl hug) ?_
    refine zA ?_
    rw [hti] at htg how3 hro hfin
    refine AOps.storeOwnA tabOk rfl rfl rfl rfl rfl (by simp [lC_len]) rfl rfl htg ?_
    repeat ((fail_if_success ((with_reducible refine oj ?_); refine AOps.atDst 59 rfl ?_)); first | refine zO ?_)
    rw [← hrid]
    refine AOps.freezeU (t := R) 58 hro rfl ?_
    rw [hrer']
    have hokd : OuOk (deadL (setO ow id (.cells (lC (.mk ku ou' nu nbu bu ksu au)))) (keys (objs R))) := fun m o hm => by
      unfold deadL at hm
      split at hm
      · cases hm; trivial
      · exact how3 m o hm
    have hfind : ∀ m o, ou m = some o → deadL (setO ow id (.cells (lC (.mk ku ou' nu nbu bu ksu au)))) (keys (objs R)) m = some o := fun m o hm => by
      unfold deadL
      rw [if_neg (hfin m o hm).1]
      exact (hfin m o hm).2
    have hgl : (listT [] (growR e p X)).length ≤ 1048576 := by have := cntN_list (growR e p X) []; simp at this; omega
    have hli := List_ok (Γ := Γc) hΓc (growR e p X) (pOk_okT _ hpk) hgl
    have hck := Check_ok _ (okB_list hpk hcnt)
    refine zca hΓc hli hokd ?_
    refine zA ?_
    refine zca hΓc hck hokd ?_
    refine zA ?_
    refine ACode.cond rfl (fun hbc => ?_) (fun hbc => ?_)
    · have hc : check (listT [] (growR e p X)) ≠ 0 := by simpa using hbc
      refine zA ?_
      exact AFn.fin' rfl (.trans (WkF.tup (.cons (.one (.nilS 5)) (.cons (.refl _) .nil))) (.ofEq (by rw [hhap, if_pos hc]; rfl))) (by simp) hokd ⟨ou, hfind, rfl, rfl⟩
    · have hc : ¬ check (listT [] (growR e p X)) ≠ 0 := by simpa using hbc
      refine zA ?_
      exact AFn.fin' rfl (.ofEq (by rw [hhap, if_neg hc])) (by simp) hokd ⟨ou, hfind, rfl, rfl⟩
end Go.Proofs.YtgdionbeeodaaaaDoor
namespace Go.Proofs.YtgdionbeeodaaaaDoor
open Go Go.Abs Go.CoreX
set_option maxRecDepth 10000
def factRT : Tr := .mk 4 0 [1] [.mk 1 2 [] [] [], .mk 0 1 [] [] []] []
theorem Apply_some (e : List Ex) (he : okB e) (rule at' n : Int) (h1 : rule ≠ 10) (h2 : rule ≠ 12) : APure Tryd.prog Γc 16 [.one (.sl 5 (e.map cEx)), .agg [int rule, int at', int n]] (.tup [.one (.sl 5 ((applyE e rule at' n).1.map cEx)), .one (int (applyE e rule at' n).2)]) := Apply_ok e he rule at' n fun _ _ _ => NameOk.no h1 h2
end Go.Proofs.YtgdionbeeodaaaaDoor
namespace Go.Proofs
open Go.Shelf
def Tryd.laysSlC25_f52_ren : Go.Shelf.Ren := ⟨fun | 5 => 69 | 7 => 102 | n => n, fun | 22 => 3 | 3 => 3 | 4 => 4 | n => n, fun | n => n⟩
theorem Tryd.laysSlC25_f52 : Go.Proofs.SlLaysC2.n5 Tryd.prog Tryd.laysSlC25_f52_ren := {
  mixed := by kernel_rfl
  f5 := ⟨Tryd.f69.name, by decide, Tryd.func69.trans (congrArg some (by kernel_rfl))⟩
  f7 := ⟨Tryd.f102.name, by decide, Tryd.func102.trans (congrArg some (by kernel_rfl))⟩
  t3 := Tryd.underlying3
  a3 := Tryd.isAgg3
  z3 := Tryd.sizeOf3
  v3 := Tryd.zeroValue3
  t4 := Tryd.underlying4
  a4 := Tryd.isAgg4
  z4 := Tryd.sizeOf4
  v4 := Tryd.zeroValue4
  t22 := Tryd.underlying3
  a22 := Tryd.isAgg3
  z22 := Tryd.sizeOf3
  v22 := Tryd.zeroValue3 }
open Go.Lib in
theorem Tryd.cmp_Compare_int (x y : Int) (w : World) :
    Calls Tryd.prog 69 #[.int .i64 x, .int .i64 y] w fun e w' => e = .returned (.int .i64 (Lib.compareInt x y)) ∧ w' = w := AnyG.cmp_Compare_int Tryd.laysSlC25_f52 x y w
def Tryd.laysSlF06_f50_ren : Go.Shelf.Ren := ⟨fun | 6 => 67 | 15 => 101 | 14 => 100 | 28 => 126 | 29 => 127 | 20 => 118 | 21 => 119 | 22 => 120 | 23 => 121 | 24 => 122 | 25 => 123 | 26 => 124 | 27 => 125 | 46 => 131 | 47 => 132 | 48 => 133 | 49 => 134 | 50 => 135 | 57 => 147 | n => n, fun | 22 => 60 | 24 => 65 | 25 => 110 | 3 => 3 | 39 => 135 | 0 => 0 | 53 => 154 | 55 => 156 | 4 => 4 | 46 => 148 | 45 => 147 | 50 => 127 | 5 => 5 | 9 => 9 | 66 => 160 | 70 => 164 | 76 => 174 | 77 => 175 | n => n, fun | n => n⟩
theorem Tryd.laysSlF06_f50 : Go.Proofs.SlLaysF0.n6 Tryd.prog Tryd.laysSlF06_f50_ren := {
  mixed := by kernel_rfl
  f6 := ⟨Tryd.f67.name, by decide, Tryd.func67.trans (congrArg some (by kernel_rfl))⟩
  f14 := ⟨Tryd.f100.name, by decide, Tryd.func100.trans (congrArg some (by kernel_rfl))⟩
  f15 := Tryd.func101.trans (congrArg some (by kernel_rfl))
  f20 := ⟨Tryd.f118.name, by decide, Tryd.func118.trans (congrArg some (by kernel_rfl))⟩
  f21 := ⟨Tryd.f119.name, by decide, Tryd.func119.trans (congrArg some (by kernel_rfl))⟩
  f22 := ⟨Tryd.f120.name, by decide, Tryd.func120.trans (congrArg some (by kernel_rfl))⟩
  f23 := ⟨Tryd.f121.name, by decide, Tryd.func121.trans (congrArg some (by kernel_rfl))⟩
  f24 := ⟨Tryd.f122.name, by decide, Tryd.func122.trans (congrArg some (by kernel_rfl))⟩
  f25 := ⟨Tryd.f123.name, by decide, Tryd.func123.trans (congrArg some (by kernel_rfl))⟩
  f26 := ⟨Tryd.f124.name, by decide, Tryd.func124.trans (congrArg some (by kernel_rfl))⟩
  f27 := ⟨Tryd.f125.name, by decide, Tryd.func125.trans (congrArg some (by kernel_rfl))⟩
  f28 := Tryd.func126.trans (congrArg some (by kernel_rfl))
  f29 := Tryd.func127.trans (congrArg some (by kernel_rfl))
  f46 := ⟨Tryd.f131.name, by decide, Tryd.func131.trans (congrArg some (by kernel_rfl))⟩
  f47 := Tryd.func132.trans (congrArg some (by kernel_rfl))
  f48 := Tryd.func133.trans (congrArg some (by kernel_rfl))
  f49 := ⟨Tryd.f134.name, by decide, Tryd.func134.trans (congrArg some (by kernel_rfl))⟩
  f50 := ⟨Tryd.f135.name, by decide, Tryd.func135.trans (congrArg some (by kernel_rfl))⟩
  f57 := ⟨Tryd.f147.name, by decide, Tryd.func147.trans (congrArg some (by kernel_rfl))⟩
  t0 := Tryd.underlying0
  a0 := Tryd.isAgg0
  z0 := Tryd.sizeOf0
  v0 := Tryd.zeroValue0
  t3 := Tryd.underlying3
  a3 := Tryd.isAgg3
  z3 := Tryd.sizeOf3
  v3 := Tryd.zeroValue3
  t4 := Tryd.underlying4
  a4 := Tryd.isAgg4
  z4 := Tryd.sizeOf4
  v4 := Tryd.zeroValue4
  t5 := Tryd.underlying5
  a5 := Tryd.isAgg5
  z5 := Tryd.sizeOf5
  v5 := Tryd.zeroValue5
  t9 := Tryd.underlying9
  a9 := Tryd.isAgg9
  z9 := Tryd.sizeOf9
  v9 := Tryd.zeroValue9
  t22 := Tryd.underlying60
  a22 := Tryd.isAgg60
  z22 := Tryd.sizeOf60
  v22 := Tryd.zeroValue60
  t25 := Tryd.underlying110
  a25 := Tryd.isAgg110
  z25 := Tryd.sizeOf110
  v25 := Tryd.zeroValue110
  t39 := Tryd.underlying135
  a39 := Tryd.isAgg135
  z39 := Tryd.sizeOf135
  v39 := Tryd.zeroValue135
  t45 := Tryd.underlying147
  a45 := Tryd.isAgg147
  z45 := Tryd.sizeOf147
  v45 := Tryd.zeroValue147
  t46 := Tryd.underlying148
  a46 := Tryd.isAgg148
  z46 := Tryd.sizeOf148
  v46 := Tryd.zeroValue148
  t50 := Tryd.underlying127
  a50 := Tryd.isAgg127
  z50 := Tryd.sizeOf127
  v50 := Tryd.zeroValue127
  t53 := Tryd.underlying154
  a53 := Tryd.isAgg154
  z53 := Tryd.sizeOf154
  v53 := Tryd.zeroValue154
  t55 := Tryd.underlying156
  a55 := Tryd.isAgg156
  z55 := Tryd.sizeOf156
  v55 := Tryd.zeroValue156
  t66 := Tryd.underlying160
  a66 := Tryd.isAgg160
  z66 := Tryd.sizeOf160
  v66 := Tryd.zeroValue160
  t70 := Tryd.underlying164
  a70 := Tryd.isAgg164
  z70 := Tryd.sizeOf164
  v70 := Tryd.zeroValue164
  t76 := Tryd.underlying174
  a76 := Tryd.isAgg174
  z76 := Tryd.sizeOf174
  v76 := Tryd.zeroValue174
  t77 := Tryd.underlying175
  a77 := Tryd.isAgg175
  z77 := Tryd.sizeOf175
  v77 := Tryd.zeroValue175 }
open Go.Lib in
theorem Tryd.slices_SortFunc_none (p : Option Addr) (cap : Nat) (fv : Value) (w : World) :
    Calls Tryd.prog 67 #[.slice p 0 cap, fv] w fun e w' => e = .returned (.tuple #[]) ∧ w' = w := AnyF.slices_SortFunc_none Tryd.laysSlF06_f50 p cap fv w
open Go.Shelf Go.RowKit Go.Lib Go.Sort
def Tryd.encUs (x : Int × Int) : List Value := [.int .i64 x.1, .int .i64 x.2]
set_option maxHeartbeats 1000000 in
theorem Tryd.closure51 (x y : Int × Int) (W : World) : Calls Tryd.prog 68 #[.agg #[.int .i64 x.1, .int .i64 x.2], .agg #[.int .i64 y.1, .int .i64 y.2]] W fun e w' => e = .returned (.int .i64 (Lib.compareInt x.1 y.1)) ∧ ∃ q os', w' = grow (W.drewN q) os' := by
  have hcon := fun W' => Tryd.cmp_Compare_int x.1 y.1 W'
  generalize Lib.compareInt x.1 y.1 = r at hcon ⊢
  go_enter Tryd.func68, Tryd.ntmps68
  go_wp2_with (go_at_call 69; refine (hcon _).mono ?_; rintro e w' ⟨rfl, rfl⟩)
  go_ret
  exact ⟨rfl, 0, _, by rw [alloc_eq_grow, alloc_eq_grow, grow_grow]; rfl⟩
theorem Tryd.ltUs (x y : Int × Int) : ltOf (fun x y : Int × Int => Lib.compareInt x.1 y.1) x y = decide (x.1 < y.1) := by
  unfold ltOf Lib.compareInt
  by_cases h : x.1 < y.1
  · simp [h]
  · by_cases h2 : x.1 > y.1
    · simp [h, h2]
    · simp [h, h2]
theorem Tryd.swoUs : SWO (ltOf fun x y : Int × Int => Lib.compareInt x.1 y.1) :=
  { irrefl := fun x => by rw [Tryd.ltUs]; simp
    trans := fun x y z h1 h2 => by rw [Tryd.ltUs] at *; simp at *; omega
    ntrans := fun x y z h1 h2 => by rw [Tryd.ltUs] at *; simp at *; omega }
theorem Tryd.slices_SortFunc (blk cap : Nat) (d : Array (Int × Int)) (w : World) (hH : HoldsK Tryd.encUs 2 w blk 0 d) (hblk : blk < w.heap.size) (hsz : d.size < 4611686018427387904) :
    Calls Tryd.prog 67 #[.slice (some ⟨blk, 0, none⟩) d.size cap, .func (.func 68) #[] #[]] w fun e w' => e = .returned (.tuple #[]) ∧ ∃ (d' : Array (Int × Int)) (n : Nat) (os : Array Obj), PermIn 0 d.size d d' ∧ w' = sortWorldK Tryd.encUs 2 w blk 0 n d' os :=
  (AnyQ.slices_SortFunc Tryd.laysSlF06_f50 2 Tryd.isAgg65 Tryd.sizeOf65 Tryd.encUs (fun _ => rfl) (fun x v hv => by simp [Tryd.encUs] at hv; rcases hv with rfl | rfl <;> rfl) (fun x y => Lib.compareInt x.1 y.1) Tryd.swoUs 68 #[] blk 0 cap d w
    (enters_of Tryd.func68 (by kernel_rfl) rfl) (fun _ _ _ _ x y => Tryd.closure51 x y _) hH hblk hsz).mono fun _ _ ⟨he, d', n, os, hp, _, hw⟩ => ⟨he, d', n, os, hp, hw⟩
end Go.Proofs
namespace Go.CoreX
def CS0 : CS := ⟨fun _ => 0, fun _ => 0, fun _ => 0⟩
def useS (e : List Ex) : CS := walkU 0 CS0 (grow e)
def howU (s : CS) (n : Int) : Int := if s.u n = 0 then 0 else if s.u n = 1 ∧ s.m n = 0 then 1 else 2
def useL (s : CS) (l : List Int) : List (Int × Int) := l.map fun n => (n, howU s n)
theorem flat_le {α β : Type} {f : α → List β} {c : Nat} : ∀ {l : List α}, (∀ x ∈ l, (f x).length ≤ c) → (l.flatMap f).length ≤ l.length * c
  | [], _ => by simp
  | x :: l, h => by
    have h1 := h x (by simp)
    have h2 := flat_le (f := f) (l := l) fun y hy => h y (by simp [hy])
    simp only [List.flatMap_cons, List.length_append, List.length_cons, Nat.add_mul]; omega
def useOf (e : List Ex) : List (Int × Int) := useL (useS e) (allBinders e)
end Go.CoreX
namespace Go.Proofs.YtgdionbeeodaaaaDoor
open Go Go.Abs Go.CoreX
set_option maxRecDepth 10000
variable {Γ : List (Nat × List AC)}
def cUs (x : Int × Int) : List AC := [int x.1, int x.2]
theorem cUs_lit : cUs = litC Tryd.encUs := rfl
@[simp] theorem ids_cUs (p : Abs.Id → Prop) (x : Int × Int) : idsL p (cUs x) := by simp [cUs]
@[simp] theorem ids_cUss (p : Abs.Id → Prop) (l : List (Int × Int)) : idsS p (l.map cUs) := idsS_map (ids_cUs p) l
@[simp] theorem ren_cUss (ρ : Nat → Nat) (l : List (Int × Int)) : renS ρ (l.map cUs) = l.map cUs := renS_pure ρ _ (ids_cUss _ l)
@[simp] theorem ren_oaU (ρ : Nat → Nat) (l : List (Int × Int)) (oc : Option Nat) : (oaO 2 (l.map cUs) oc).ren ρ = oaO 2 (l.map cUs) oc := ren_oaO ρ 2 _ oc fun cap => ids_vec (ids_cUss _ l)
@[simp] theorem ids_oaU (p : Abs.Id → Prop) (l : List (Int × Int)) (oc : Option Nat) : (oaO 2 (l.map cUs) oc).ids p := ids_oaO (ids_cUss _ l)
@[simp] theorem sub_mapN (θ : Abs.Id → Abs.Id) (ck : Nat) (l : List (Nat × Int × Int)) : AObj.sub θ (.map ck (encI eN l)) = .map ck (encI eN l) := by
  simp [AObj.sub, encI, eN, FV.sub, AC.sub, Function.comp_def]
theorem cb0 : CB 0 CS0 := fun k => by simp [CS0]
def UseQ (e : List Ex) (ou : Outer) (r : FV) (ou' : Outer) : Prop :=
  ou' = ou ∧ ((check e ≠ 0 ∧ r = .tup [.one (.sl 2 []), .one (int (check e))]) ∨ (check e = 0 ∧ ∃ l : List (Int × Int), l.Perm (useOf e) ∧ r = .tup [.one (.sl 2 (l.map cUs)), .one (int 0)]))
set_option maxHeartbeats 1000000 in
theorem UseOf_ok (e : List Ex) (he : okB e) (ou : Outer) : AFn Tryd.prog Γc 40 [.one (.sl 5 (e.map cEx))] ou (UseQ e ou) := by
  have c1 := Check_ok e he
  have hel := he.eo.l
  refine AFn.walk 84 tabOk Tryd.func40 rfl (by kernel_rfl) rfl rfl fun hou => ?_
  refine zA ?_
  refine zca hΓc c1 hou ?_
  refine zA ?_
  refine ACode.cond rfl (fun hb => ?_) (fun hb => ?_)
  · have h : check e ≠ 0 := by simpa using hb
    refine zA ?_
    refine AFn.fin' rfl (WkF.tup (.cons (.one (.nilS 2)) (.cons (.refl _) .nil))) (by simp) hou ⟨rfl, .inl ⟨h, rfl⟩⟩
  have h : check e = 0 := by simpa using hb
  have t1 := body_isTree h
  have hgt := he.t t1.k t1.ne
  have hcn : cntN (grow e) = e.length := by
    have h1 := cntN_list (grow e) []
    have h2 := len_list h
    simp only [List.length_nil] at h1; omega
  have hdp : depthT (grow e) ≤ 400 := ((treeErr_iff e).1 (by
    unfold check body at h
    by_cases h0 : treeErr e ≠ 0
    · rw [if_pos h0] at h; exact h
    · simpa using h0)).2.2
  refine zA ?_
  refine AOps.step1 rfl rfl rfl (AStep.makeMap rfl) ?_
  refine AOps.step1 rfl rfl rfl (AStep.makeMap rfl) ?_
  refine AOps.step1 rfl rfl rfl (AStep.makeMap rfl) ?_
  refine zA ?_
  refine zca hΓc (Grow_ok hΓc e he.eo t1.k t1.ne) hou ?_
  refine zA ?_
  refine AOps.callR [.l 3, .l 0, .l 1, .l 2] [.one (.ptr (.o 0) 0), .one (.box (cTr (grow e))), .one (int 0)] [.cells [.mp (.o 1), .mp (.o 2), .mp (.o 3)], .map 0 (encI eN []), .map 0 (encI eN []), .map 0 (encI eN [])] hΓcF rfl rfl rfl rfl rfl rfl ?_ ?_ ?_ ?_ ?_
    (walkU_ok hΓc (grow e) hgt CS0 0 0 ⟨0, [], 0, [], 0, []⟩ cb0 (by omega) (by rw [hcn]; omega) (by omega) ⟨⟨_, IMOk.nil, fun k => rfl⟩, ⟨_, IMOk.nil, fun k => rfl⟩, ⟨_, IMOk.nil, fun k => rfl⟩⟩) ?_
  · simp [subF, FV.sub, AC.sub, nameOf]
    exact ⟨rfl, (subL_pure _ _ (by simp)).symm⟩
  · simp [inO]
  · simp
  · exact ⟨rfl, rfl, rfl, rfl, trivial⟩
  · simp [inO]
  intro r ou' hq
  obtain ⟨rfl, x', rfl, hB1, hB2, hB3⟩ := hq
  refine ⟨[.cells [.mp (.o 1), .mp (.o 2), .mp (.o 3)], .map x'.cu (encI eN x'.lu), .map x'.cd (encI eN x'.ld), .map x'.cm (encI eN x'.lm)], rfl, rfl, by simp [inO], by simp, ?_⟩
  obtain ⟨s, hs⟩ : ∃ s, s = useS e := ⟨_, rfl⟩
  have hs' : walkU 0 CS0 (grow e) = s := hs.symm
  rw [hs'] at hB1 hB2 hB3
  obtain ⟨cu, lu, cd, ld, cm, lm⟩ := x'
  obtain ⟨fu, hu, hu2⟩ := hB1
  obtain ⟨fm, hm, hm2⟩ := hB3
  simp only at hu hm
  clear hB2
  refine zA ?_
  refine ACode.ghost ?_
  refine zA ?_
  refine ACode.loopR hΓc (α := Nat × Option Nat) (fun c => [(30, .one (int c.1)), (29, .one (int (e.map cEx).length)), (28, .one (.sl 5 (e.map cEx))), (7, .one (oaC 4 2 ((useL s (allBinders (e.take c.1))).map cUs) c.2)), (5, .one (.ptr (.l 3) 0))])
    (fun c => ⟨5, [(4, oaO 2 ((useL s (allBinders (e.take c.1))).map cUs) c.2), (3, .cells [.mp (.l 0), .mp (.l 1), .mp (.l 2)]), (2, .map cm (encI eN lm)), (0, .map cu (encI eN lu))], ou⟩)
    (fun m c => c.1 ≤ e.length ∧ coO ((useL s (allBinders (e.take c.1))).map cUs) c.2 ∧ m = e.length - c.1) (a0 := (0, none)) (ρ := id) ⟨by omega, rfl, rfl⟩ (LessR.of rfl ?_ ?_ ?_ rfl rfl hou) fun m c hc => ?_
  · (repeat' first | exact FrSub.nil | refine zfc ?_ | refine zfo ?_ | refine zfp ?_)
  · simp
  · repeat' first | exact LoSub.nil | refine zlc ?_ | refine zld ?_ ?_ | rfl
    all_goals (rw [sub_mapN, ren_mapN])
  obtain ⟨i, oc⟩ := c
  obtain ⟨hil, hco, rfl⟩ := hc
  simp only at hil hco
  refine zA ?_
  refine ACode.cond rfl (fun hb2 => ?_) (fun hb2 => ?_)
  · have hlt : i < e.length := by simpa using hb2
    obtain ⟨x, hx⟩ := get_of_lt hlt
    have hxm := List.mem_of_getElem? hx
    have hxo := he.eo.x x hxm
    have hxl := he.ex x hxm
    have hab : allBinders (e.take (i + 1)) = allBinders (e.take i) ++ exBinders x := by rw [take_succ_of hx]; simp [allBinders]
    have hal : (allBinders e).length ≤ 1048576 * 4194304 := Nat.le_trans (flat_le (c := 4194304) fun x hx => (he.ex x hx).1) (Nat.mul_le_mul_right _ hel)
    obtain ⟨L, hL⟩ : ∃ L : Nat → List Int, L = fun j => allBinders (e.take i) ++ (exBinders x).take j := ⟨_, rfl⟩
    have hL0 : L 0 = allBinders (e.take i) := by rw [hL]; simp
    have hL1 : L (exBinders x).length = allBinders (e.take (i + 1)) := by rw [hL, hab]; simp
    have hLs : ∀ {j : Nat} {n : Int}, (exBinders x)[j]? = some n → L (j + 1) = L j ++ [n] := fun {j n} hn => by rw [hL]; simp [take_succ_of hn]
    have hLl : ∀ j, j < (exBinders x).length → (L j).length + 1 ≤ 4398046511104 := fun j hj => by
      have h1 : (L (exBinders x).length).length ≤ (allBinders e).length := by
        rw [hL1]
        have : allBinders e = allBinders (e.take (i + 1)) ++ allBinders (e.drop (i + 1)) := by
          unfold allBinders
          rw [← List.flatMap_append, List.take_append_drop]
        rw [this, List.length_append]; omega
      have h2 : (L j).length + 1 ≤ (L (exBinders x).length).length := by
        rw [hL]; simp only [List.length_append, List.length_take]; omega
      omega
    clear hL
    rw [← hL0] at hco ⊢
    refine zA ?_
    refine AOps.step1 rfl rfl rfl (AStep.indexAddr tabOk rfl rfl rfl rfl rfl rfl (.inl rfl) rfl (by omega) (map_get hx)) ?_
    refine zA ?_
    refine AOps.freeze1 (.l 6) 41 rfl rfl ?_
    refine AOps.wk 41 rfl (y := .one (.box (cTr (.mk x.op 0 x.binds [] x.alts)))) (.one (Wk.box ?_)) ?_
    · exact .cons (.refl _) (.cons (.refl _) (.cons (.refl _) (.cons (.nilS 1) (.cons (.refl _) .nil))))
    have hcall := Binders_ok hΓc (.mk x.op 0 x.binds [] x.alts) (by simpa [bindLen] using hxl.2) hxo.a
    refine zca hΓc hcall hou ?_
    have heb : bindersN x.op x.binds x.alts = exBinders x := rfl
    simp only [Tr.op_mk, Tr.binds_mk, Tr.alts_mk, heb]
    refine zA ?_
    refine ACode.loopR hΓc (α := Nat × Option Nat) (fun c => [(44, .one (int c.1)), (43, .one (int ((exBinders x).map cI).length)), (42, .one (.sl 1 ((exBinders x).map cI))), (30, .one (int i)), (29, .one (int (e.map cEx).length)), (28, .one (.sl 5 (e.map cEx))), (7, .one (oaC 4 2 ((useL s (L c.1)).map cUs) c.2)), (5, .one (.ptr (.l 3) 0))])
      (fun c => ⟨5, [(4, oaO 2 ((useL s (L c.1)).map cUs) c.2), (3, .cells [.mp (.l 0), .mp (.l 1), .mp (.l 2)]), (2, .map cm (encI eN lm)), (0, .map cu (encI eN lu))], ou⟩)
      (fun m c => c.1 ≤ (exBinders x).length ∧ coO ((useL s (L c.1)).map cUs) c.2 ∧ m = (exBinders x).length - c.1) (a0 := (0, oc)) (ρ := id) ⟨by omega, hco, rfl⟩ (LessR.of rfl ?_ ?_ ?_ rfl rfl hou) fun m c hc => ?_
    · (repeat' first | exact FrSub.nil | refine zfc ?_ | refine zfo ?_ | refine zfp ?_)
    · simp
    · repeat' first | exact LoSub.nil | refine zlc ?_ | refine zld ?_ ?_ | rfl
    obtain ⟨j, oc⟩ := c
    obtain ⟨hjl, hco, rfl⟩ := hc
    simp only at hjl hco
    refine zA ?_
    refine ACode.cond rfl (fun hb3 => ?_) (fun hb3 => ?_)
    · have hlt2 : j < (exBinders x).length := by simpa using hb3
      obtain ⟨n, hn⟩ := get_of_lt hlt2
      refine zA ?_
      refine AOps.step1 rfl rfl rfl (AStep.indexAddr tabOk rfl rfl rfl rfl rfl rfl (.inl rfl) rfl (by omega) (map_get hn)) ?_
      refine zA ?_
      refine AOps.cutN 2 rfl hΓc (α := Unit) (fun _ => [(12, .one (int (howU s n))), (11, .one (int n)), (44, .one (int j)), (43, .one (int ((exBinders x).map cI).length)), (42, .one (.sl 1 ((exBinders x).map cI))), (30, .one (int i)), (29, .one (int (e.map cEx).length)), (28, .one (.sl 5 (e.map cEx))), (7, .one (oaC 4 2 ((useL s (L j)).map cUs) oc)), (5, .one (.ptr (.l 3) 0))])
        (fun _ => ⟨5, [(4, oaO 2 ((useL s (L j)).map cUs) oc), (3, .cells [.mp (.l 0), .mp (.l 1), .mp (.l 2)]), (2, .map cm (encI eN lm)), (0, .map cu (encI eN lu))], ou⟩) (fun _ => True) ?_ fun _ _ => ?_
      · dsimp only [List.take_succ_cons, List.take_zero, List.cons_append, List.nil_append]
        refine AOps.step1 rfl rfl rfl (AStep.lookI eN (cm := false) (v := .one (int (s.u n))) rfl Tryd.underlying90 Tryd.underlying3 rfl rfl rfl (by kernel_rfl) zeroN hu (by rw [← hu2 n]; cases fu n <;> rfl)) ?_
        refine zA ?_
        refine ACode.cond rfl (fun hb4 => ?_) (fun hb4 => ?_)
        · have h0 : s.u n = 0 := by simpa using hb4
          have hh : howU s n = 0 := by unfold howU; rw [if_pos h0]
          refine zA ?_
          exact cInv ⟨(), id, trivial, LessR.of rfl (by rw [hh]; (repeat' first | exact FrSub.nil | refine zfc ?_ | refine zfo ?_ | refine zfp ?_)) (by simp) (by repeat' first | exact LoSub.nil | refine zlc ?_ | refine zld ?_ ?_ | rfl) rfl rfl hou⟩
        · have h0 : ¬ s.u n = 0 := by simpa using hb4
          refine zA ?_
          refine AOps.step1 rfl rfl rfl (AStep.lookI eN (cm := false) (v := .one (int (s.u n))) rfl Tryd.underlying90 Tryd.underlying3 rfl rfl rfl (by kernel_rfl) zeroN hu (by rw [← hu2 n]; cases fu n <;> rfl)) ?_
          refine zA ?_
          refine AOps.splitG rfl rfl rfl (fun hb5 => ?_) (fun hb5 => ?_)
          · have h1 : s.u n = 1 := by simpa using hb5
            refine zM ?_
            refine AOps.step1 rfl rfl rfl (AStep.lookI eN (cm := false) (v := .one (int (s.m n))) rfl Tryd.underlying90 Tryd.underlying3 rfl rfl rfl (by kernel_rfl) zeroN hm (by rw [← hm2 n]; cases fm n <;> rfl)) ?_
            refine zM ?_
            refine ACode.cond rfl (fun hb6 => ?_) (fun hb6 => ?_)
            · have h2 : s.m n = 0 := by simpa using hb6
              have hh : howU s n = 1 := by unfold howU; rw [if_neg h0, if_pos ⟨h1, h2⟩]
              refine zM ?_
              exact cInv ⟨(), id, trivial, LessR.of rfl (by rw [hh]; (repeat' first | exact FrSub.nil | refine zfc ?_ | refine zfo ?_ | refine zfp ?_)) (by simp) (by repeat' first | exact LoSub.nil | refine zlc ?_ | refine zld ?_ ?_ | rfl) rfl rfl hou⟩
            · have h2 : ¬ s.m n = 0 := by simpa using hb6
              have hh : howU s n = 2 := by unfold howU; rw [if_neg h0, if_neg (fun h => h2 h.2)]
              refine zM ?_
              exact cInv ⟨(), id, trivial, LessR.of rfl (by rw [hh]; (repeat' first | exact FrSub.nil | refine zfc ?_ | refine zfo ?_ | refine zfp ?_)) (by simp) (by repeat' first | exact LoSub.nil | refine zlc ?_ | refine zld ?_ ?_ | rfl) rfl rfl hou⟩
          · have h1 : ¬ s.u n = 1 := by simpa using hb5
            have hh : howU s n = 2 := by unfold howU; rw [if_neg h0, if_neg (fun h => h1 h.1)]
            refine zM ?_
            exact cInv ⟨(), id, trivial, LessR.of rfl (by rw [hh]; (repeat' first | exact FrSub.nil | refine zfc ?_ | refine zfo ?_ | refine zfp ?_)) (by simp) (by repeat' first | exact LoSub.nil | refine zlc ?_ | refine zld ?_ ?_ | rfl) rfl rfl hou⟩
      · have hlb := hLl j hlt2
        have hul : ((useL s (L j)).map cUs).length = (L j).length := by simp [useL]
        have hap : (useL s (L j)).map cUs ++ [cUs (n, howU s n)] = (useL s (L (j + 1))).map cUs := by rw [hLs hn]; simp [useL]
        refine zA ?_
        refine AOps.appG (k := 4) (s := 2) (es := (useL s (L j)).map cUs) (oc := oc) (news := [cUs (n, howU s n)]) tabOk rfl rfl rfl rfl rfl rfl rfl rfl rfl rfl hco (fun y hy => by obtain ⟨z, _, rfl⟩ := List.mem_map.1 hy; rfl) (.sl 2 [cUs (n, howU s n)]) (by simp) rfl (by rw [hul]; show (_ + 1) * 16 ≤ _; omega) (by rw [hul]; show _ + 1 ≤ _; omega) fun cap hc => ?_
        rw [hap] at hc ⊢
        refine zM ?_
        exact cInv ⟨(exBinders x).length - (j + 1), (j + 1, some cap), fun k => if k = 4 then 5 else k, by omega, ⟨by omega, hc, rfl⟩, LessR.of rfl (by (repeat' first | exact FrSub.nil | refine zfc ?_ | refine zfo ?_ | refine zfp ?_)) (by simp) (by repeat' first | exact LoSub.nil | refine zlc ?_ | refine zld ?_ ?_ | rfl) rfl rfl hou⟩
    · have hlt2 : j = (exBinders x).length := by simp at hb3; omega
      subst hlt2
      rw [hL1] at hco ⊢
      refine zM ?_
      exact cInv ⟨e.length - (i + 1), (i + 1, oc), id, by omega, ⟨by omega, hco, rfl⟩, LessR.of rfl (by (repeat' first | exact FrSub.nil | refine zfc ?_ | refine zfo ?_ | refine zfp ?_)) (by simp) (by repeat' first | exact LoSub.nil | refine zlc ?_ | refine zld ?_ ?_ | rfl) rfl rfl hou⟩
  · have hlt2 : i = e.length := by simp at hb2; omega
    subst hlt2
    rw [List.take_length] at hco ⊢
    have hus : useL s (allBinders e) = useOf e := by unfold useOf; rw [hs]
    rw [hus] at hco ⊢
    refine zA ?_
    have hlb : (useOf e).length = (allBinders e).length := by unfold useOf useL; simp
    have hal : (allBinders e).length ≤ 1048576 * 4194304 := Nat.le_trans (flat_le (c := 4194304) fun x hx => (he.ex x hx).1) (Nat.mul_le_mul_right _ hel)
    cases oc with
    | none =>
      have h0 : useOf e = [] := by simpa [coO] using hco
      rw [h0]
      refine AOps.callNo2 rfl rfl rfl rfl rfl rfl (enters_of Tryd.func67 (by kernel_rfl) rfl) (fun w => Tryd.slices_SortFunc_none none 0 _ w) ?_
      refine zA ?_
      exact AFn.fin' rfl (WkF.tup (.cons (.one (.nilS 2)) (.cons (.refl _) .nil))) (by simp) hou ⟨rfl, .inr ⟨h, [], by rw [h0], rfl⟩⟩
    | some cap =>
      refine AOps.wk 81 rfl (y := .one (.arr (.l 4) 2 0 (useOf e).length cap)) (.ofEq (by simp [oaC])) ?_
      refine AOps.sortK (α := Int × Int) (enc := Tryd.encUs) (k := 2) (l := useOf e) (i := .l 4) (cap := cap) (fun _ => rfl) (fun x v hv => by simp [Tryd.encUs] at hv; rcases hv with rfl | rfl <;> rfl) rfl rfl rfl rfl rfl rfl (enters_of Tryd.func67 (by kernel_rfl) rfl)
        Tryd.slices_SortFunc rfl (by rw [hlb]; omega) fun l' hp => ?_
      rw [← cUs_lit] at *
      have hll : ((useOf e).map cUs).length = (l'.map cUs).length := by simp [hp.length_eq]
      refine AOps.wk 7 rfl (y := .one (.arr (.l 4) 2 0 (l'.map cUs).length cap)) (.ofEq (by rw [← hll]; rfl)) ?_
      refine AOps.freezeArr (.l 4) 7 rfl (fun y hy => by obtain ⟨z, _, rfl⟩ := List.mem_map.1 hy; rfl) rfl ?_
      refine zA ?_
      exact AFn.fin' rfl (WkF.ofEq rfl) (by simp) hou ⟨rfl, .inr ⟨h, l', hp, rfl⟩⟩
end Go.Proofs.YtgdionbeeodaaaaDoor
namespace Go.CoreX
theorem visit_u (s : CS) (n deep k : Int) : (visitU s n deep).u k = s.u k + if n = k then 1 else 0 := by
  simp only [visitU, upF]
  by_cases e : n = k
  · subst e; simp
  · simp [e]
mutual
theorem walkU_u (k : Int) : ∀ (t : Tr) (deep : Int) (s : CS), (walkU deep s t).u k = s.u k + sumT (isVar k) t
  | .mk o n b ks a, deep, s => by
    simp only [walkU, sumT, walkUs_u k ks]
    by_cases e : o = 0
    · rw [if_pos e, visit_u]; simp only [isVar, e, true_and]; omega
    · rw [if_neg e]; simp only [isVar, e, false_and, if_false]; omega
theorem walkUs_u (k : Int) : ∀ (l : List Tr) (deep o : Int) (b : List Int) (a : List Alt) (i : Nat) (s : CS), (walkUs deep o b a i s l).u k = s.u k + sumTs (isVar k) l
  | [], _, _, _, _, _, _ => by simp [walkUs, sumTs]
  | t :: l, deep, o, b, a, i, s => by
    simp only [walkUs, sumTs, walkUs_u k l, walkU_u k t]
    simp only [bindU]; omega
end
theorem sum_zero {α : Type} {f : α → Int} : ∀ {l : List α}, (∀ x ∈ l, 0 ≤ f x) → ((l.map f).sum = 0 ↔ ∀ x ∈ l, f x = 0)
  | [], _ => by simp
  | x :: l, h => by
    have h1 := h x (by simp)
    have h2 : ∀ y ∈ l, 0 ≤ f y := fun y hy => h y (by simp [hy])
    have h3 : 0 ≤ (l.map f).sum := by
      clear h h1
      induction l with
      | nil => simp
      | cons z l ih =>
        have := h2 z (by simp)
        have := ih fun y hy => h2 y (by simp [hy])
        simp only [List.map_cons, List.sum_cons]; omega
    have ih := sum_zero h2
    simp only [List.map_cons, List.sum_cons, List.mem_cons, forall_eq_or_imp]
    constructor
    · intro h4
      exact ⟨by omega, ih.1 (by omega)⟩
    · rintro ⟨h4, h5⟩
      rw [ih.2 h5]; omega
theorem ne_at {α : Type} [BEq α] [LawfulBEq α] {xs ys : List α} {j : Nat} {x y : α} (h1 : xs[j]? = some x) (h2 : ys[j]? = some y) (h : x ≠ y) : (xs == ys) = false := by
  apply beq_eq_false_iff_ne.2
  rintro rfl
  rw [h1] at h2
  exact h (by simpa using h2)
theorem eq_all {α : Type} [BEq α] [LawfulBEq α] {xs ys : List α} (hl : xs.length = ys.length) (h : ∀ (j : Nat) (x y : α), xs[j]? = some x → ys[j]? = some y → x = y) : (xs == ys) = true := by
  rw [beq_iff_eq]
  refine List.ext_getElem hl fun i h1 h2 => h i _ _ (List.getElem?_eq_getElem h1) (List.getElem?_eq_getElem h2)
def occV (n : Int) (x : Ex) : Bool := x.op == 0 && x.n == n
theorem use_never {e : List Ex} (h : IsTree e) (n : Int) : howU (useS e) n = 0 ↔ e.any (occV n) = false := by
  have h2 : howU (useS e) n = 0 ↔ (useS e).u n = 0 := by
    unfold howU
    split
    · simp [*]
    · split <;> simp [*]
  have h1 : (useS e).u n = ((labs e).map (isVar n)).sum := by
    unfold useS
    rw [walkU_u, sum_tree _ h]
    simp [CS0]
  rw [h2, h1, sum_zero (fun x _ => isVar_nonneg n x), List.any_eq_false]
  unfold labs
  simp only [List.mem_map, forall_exists_index, and_imp, forall_apply_eq_imp_iff₂]
  refine forall_congr' fun x => forall_congr' fun hx => ?_
  unfold isVar occV labE
  simp only [Bool.and_eq_true, beq_iff_eq]
  split <;> simp_all
end Go.CoreX
namespace Go.Proofs.YtgdionbeeodaaaaDoor
open Go Go.Abs Go.CoreX
set_option maxRecDepth 10000
variable {Γ : List (Nat × List AC)}
theorem AStep.neUs {T : Tab} {N : Nat} {o : Oper} {fr : Fr} {σ : St} {x y : Operand} {p q : Int × Int} (ho : o.op = .binOp .neq 65 x y 65) (hx : aEval Γ fr x = some (.agg (cUs p))) (hy : aEval Γ fr y = some (.agg (cUs q))) : AStep { P := Tryd.prog, T := T, Γ := Γ, N := N } o fr σ (.one (.lit (.bool (!(p.1 == q.1 && p.2 == q.2))))) σ := by
  refine AStep.quiet fun F w C tmps hi hf => ⟨.bool (!(p.1 == q.1 && p.2 == q.2)), ?_, rfl, rfl⟩
  have h1 := aEval_ok (a := ⟨tmps, []⟩) hi hf hx
  have h2 := aEval_ok (a := ⟨tmps, []⟩) hi hf hy
  simp only [RF, cUs, RV, R] at h1 h2
  obtain ⟨xs, h1, u1, us1, rfl, ⟨rfl, _⟩, u2, us2, rfl, ⟨rfl, _⟩, rfl⟩ := h1
  obtain ⟨ys, h2, v1, vs1, rfl, ⟨rfl, _⟩, v2, vs2, rfl, ⟨rfl, _⟩, rfl⟩ := h2
  have hS : Tryd.prog.underlying 65 = some (.struct (Tryd.prog.fieldsOf 65)) := by kernel_rfl
  have hp : Tryd.prog.stoodInHeld 65 = false := by kernel_rfl
  have hm : Tryd.prog.eqGuardType Tryd.prog.depth 65 = false := by kernel_rfl
  have u3 := Tryd.underlying3
  have a3 := Tryd.isAgg3
  have z3 := Tryd.sizeOf3
  have hb : ∀ w, (binOp .neq 65 (.agg #[.int .i64 p.1, .int .i64 p.2]) (.agg #[.int .i64 q.1, .int .i64 q.2])).run Tryd.prog w = .ok (.bool (!(p.1 == q.1 && p.2 == q.2))) w := fun w => by
    rw [run_neq_struct, show (10000 : Nat) = 9999 + 1 from rfl, run_equalIn_agg w 9999 65 _ _ hS hp]
    simp only [Program.fieldsOf, Tryd.underlying65]
    go_simp
    by_cases h1 : p.1 = q.1 <;> by_cases h2 : p.2 = q.2 <;> simp [h1, h2]
  unfold execOp
  simp only [ho, h1, h2, Sem.run_bind, run_eqGuard_agg _ _ _ _ _ _ _ hm, Result.andThen_ok]
  rw [hb]
  simp
theorem EqualU_ok (hΓ : ∀ g cs, (g, cs) ∈ Γ → idsL isO cs) (xs ys : List (Int × Int)) (hx : xs.length ≤ 1048576) :
    APure Tryd.prog Γ 70 [.one (.sl 2 (xs.map cUs)), .one (.sl 2 (ys.map cUs))] (.one (.lit (.bool (xs == ys)))) := by
  intro ou
  refine AFn.walk 26 tabOk Tryd.func70 rfl (by kernel_rfl) rfl rfl fun hou => ?_
  refine zA ?_
  refine ACode.cond rfl (fun hb => ?_) (fun hb => ?_)
  · refine zA ?_
    refine APure.fin rfl (WkF.ofEq ?_) (by simp) hou rfl
    have : (xs == ys) = false := by
      apply beq_eq_false_iff_ne.2
      rintro rfl
      simp at hb
    rw [this]
  have hl : xs.length = ys.length := by simp at hb; omega
  clear hb
  refine zA ?_
  refine ACode.loopR hΓ (α := Nat) (fun j => [(13, .one (int j)), (12, .one (int (xs.map cUs).length)), (1, .one (.sl 2 (ys.map cUs))), (0, .one (.sl 2 (xs.map cUs)))])
    (fun j => ⟨0, [], ou⟩) (fun m j => j ≤ xs.length ∧ (∀ (i : Nat) (x y : Int × Int), i < j → xs[i]? = some x → ys[i]? = some y → x = y) ∧ m = xs.length - j) (a0 := 0) (ρ := id) ⟨by omega, fun i x y h => by omega, rfl⟩ (LessR.of rfl (by (repeat' first | exact FrSub.nil | refine zfc ?_ | refine zfo ?_ | refine zfp ?_)) (by simp) (by repeat' first | exact LoSub.nil | refine zlc ?_ | refine zld ?_ ?_ | rfl) rfl rfl hou) fun m j hj => ?_
  obtain ⟨hjl, hno, rfl⟩ := hj
  refine zA ?_
  refine ACode.cond rfl (fun hb2 => ?_) (fun hb2 => ?_)
  · have hlt : j < xs.length := by simpa using hb2
    obtain ⟨x, hx1⟩ := get_of_lt hlt
    obtain ⟨y, hy1⟩ := get_of_lt (l := ys) (i := j) (by omega)
    refine zA ?_
    refine ACode.drawX tabOk 8 [(2, .one (.box (cUs x))), (6, .one (.box (cUs y)))] follows (by kernel_rfl) rfl rfl rfl rfl ?_ ?_
    · refine .step rfl (HStep.plain rfl (AStep.indexAddr tabOk rfl rfl rfl rfl rfl rfl (.inl rfl) rfl (by omega) (map_get hx1))) ?_
      exact .step rfl (HStep.plain rfl (AStep.indexAddr tabOk rfl rfl rfl rfl rfl rfl (.inl rfl) rfl (by omega) (map_get hy1))) .nil
    refine AOps.step1 rfl rfl rfl (AStep.neUs rfl rfl rfl) ?_
    refine zA ?_
    refine ACode.cond rfl (fun hb3 => ?_) (fun hb3 => ?_)
    · have hne : x ≠ y := by rintro rfl; simp at hb3
      refine zA ?_
      refine APure.fin rfl (WkF.ofEq ?_) (by simp) hou rfl
      rw [ne_at hx1 hy1 hne]
    · have he : x = y := by obtain ⟨x1, x2⟩ := x; obtain ⟨y1, y2⟩ := y; simp at hb3; exact Prod.ext hb3.1 hb3.2
      refine zM ?_
      refine cInv ⟨xs.length - (j + 1), j + 1, id, by omega, ⟨by omega, fun i x' y' hi h1 h2 => ?_, rfl⟩, LessR.of rfl (by (repeat' first | exact FrSub.nil | refine zfc ?_ | refine zfo ?_ | refine zfp ?_)) (by simp) (by repeat' first | exact LoSub.nil | refine zlc ?_ | refine zld ?_ ?_ | rfl) rfl rfl hou⟩
      by_cases e : i = j
      · subst e
        rw [hx1] at h1; rw [hy1] at h2
        cases h1; cases h2; exact he
      · exact hno i x' y' (by omega) h1 h2
  · have hlt : j = xs.length := by simp at hb2; omega
    subst hlt
    refine zA ?_
    refine APure.fin rfl (WkF.ofEq ?_) (by simp) hou rfl
    rw [eq_all hl fun i x y h1 h2 => hno i x y (List.getElem?_eq_some_iff.1 h1).1 h1 h2]

def factU : Tr := .mk 2 0 [1] [.mk 1 2 [] [] []] []
theorem use_fact : check (listT [] factU) = 0 ∧ useOf (listT [] factU) = [(1, 0)] := by decide +kernel
theorem usageFact_ok : APure Tryd.prog Γc 41 [] (.one (.lit (.bool true))) := by
  intro ou
  have hoT : okT factU := by simp [factU, okT, okTs]
  have hoB : okB (listT [] factU) := by
    refine ⟨⟨by simp [factU, listT, listTs], fun x hx => ?_⟩, fun x hx => ?_⟩
    all_goals
      simp [factU, listT, listTs] at hx
      rcases hx with rfl | rfl
    all_goals first
      | exact ⟨by simp, by simp, by simp, by simp⟩
      | simp
  have h1 := UseOf_ok _ hoB
  refine AFn.walk 20 tabOk Tryd.func41 rfl (by kernel_rfl) rfl rfl fun hou => ?_
  refine zA ?_
  refine zca hΓc (W_ok hΓc 2) hou ?_
  refine zA ?_
  refine zca hΓc (B_ok 2 [1] [.mk 1 2 [] [] []]) hou ?_
  refine zca hΓc (NodeList_ok hΓc factU hoT (by simp [factU, listT, listTs])) hou ?_
  refine AOps.call1 hΓc rfl rfl rfl rfl rfl rfl rfl (by simp) hou (h1 ou) fun r ou' hq hids hou' => ?_
  obtain ⟨rfl, hq⟩ := hq
  rcases hq with ⟨h2, _⟩ | ⟨_, l, hp, rfl⟩
  · exact absurd use_fact.1 h2
  rw [use_fact.2] at hp
  have hl : l = [(1, 0)] := List.perm_singleton.1 hp
  subst hl
  refine zA ?_
  refine AOps.callG hΓc (EqualU_ok hΓc [(1, 0)] [(1, 0)] (by simp)) rfl rfl rfl rfl rfl rfl rfl rfl rfl hou (by simp) ?_
  refine zA ?_
  exact AFn.fin' rfl (WkF.ofEq rfl) (by simp) hou ⟨rfl, rfl⟩
end Go.Proofs.YtgdionbeeodaaaaDoor
namespace Go.CoreX
theorem nodeErrF_imp {flat : Bool} {e f : List Ex} {x y : Ex} (hx : ∀ k ∈ x.kids, 0 ≤ k ∧ k < (e.length : Int)) (hy : ∀ k ∈ y.kids, 0 ≤ k ∧ k < (f.length : Int)) (ho : x.op = y.op) (hn : x.n = y.n) (hb : x.binds = y.binds) (ha : x.alts = y.alts) (hl : x.kids.length = y.kids.length)
    (h2 : ∀ i : Nat, ((x.kids.map fun k => (treeAt e k.toNat).op)[i]?) = some 2 → ((y.kids.map fun k => (treeAt f k.toNat).op)[i]?) = some 2) (h : nodeErrF flat e x = 0) : nodeErrF flat f y = 0 := by
  obtain ⟨o, n, b, kx, a⟩ := x
  obtain ⟨o', n', b', ky, a'⟩ := y
  dsimp only at ho hn hb ha hl hx hy h2
  subst ho hn hb ha
  unfold nodeErrF nodeErr at h ⊢
  dsimp only at h ⊢
  rw [← shape_len hl, ← ranges_len hl]
  split at h
  · cases h
  rename_i h0
  rw [if_neg h0]
  cases hs : shape ⟨o, n, b, kx, a⟩ with
  | false => rw [hs] at h; simp at h
  | true =>
    rw [hs] at h
    rw [if_neg (by simp)] at h ⊢
    split at h
    · rename_i h1; exact absurd h h1
    rename_i h1
    rw [if_neg h1]
    have hb : (List.range b.length).any (bindBad f ⟨o, n, b, ky, a⟩) = false := by
      rw [List.any_eq_false]
      intro i hi
      have hi : i < b.length := by simpa using hi
      split at h
      · cases h
      rename_i h3
      have h3 : bindBad e ⟨o, n, b, kx, a⟩ i = false := by
        have h4 : (List.range b.length).any (bindBad e ⟨o, n, b, kx, a⟩) = false := by simpa using h3
        rw [List.any_eq_false] at h4
        simpa using h4 i (by simpa using hi)
      unfold bindBad at h3 ⊢
      dsimp only at h3 ⊢
      by_cases h5 : o = 5
      · have hr := shape_rec' hs h5
        simp only at hr
        obtain ⟨k, g1⟩ : ∃ k, kx[i]? = some k := ⟨kx[i]'(by omega), List.getElem?_eq_getElem _⟩
        obtain ⟨m, g2⟩ : ∃ k, ky[i]? = some k := ⟨ky[i]'(by omega), List.getElem?_eq_getElem _⟩
        have k1 := hx k (List.mem_of_getElem? g1)
        have k2 := hy m (List.mem_of_getElem? g2)
        have e1 : kx.getD i 0 = k := by rw [List.getD_eq_getElem?_getD, g1]; rfl
        have e2 : ky.getD i 0 = m := by rw [List.getD_eq_getElem?_getD, g2]; rfl
        have h6 := h2 i
        rw [List.getElem?_map, List.getElem?_map, g1, g2] at h6
        have o1 := op_grow e k.toNat (by omega)
        have o2 := op_grow f m.toNat (by omega)
        simp only [Option.map_some, Option.some.injEq] at h6
        rw [e1, ← o1] at h3
        rw [e2, ← o2]
        change (o == 5 && !((treeAt e k.toNat).op == 2) || _) = false at h3
        change ¬ (o == 5 && !((treeAt f m.toNat).op == 2) || _) = true
        simp only [h5] at h3 ⊢
        simp at h3 ⊢
        exact h6 h3
      · have h7 : (o == 5) = false := by simpa using h5
        rw [h7] at h3 ⊢
        simpa using h3
    rw [hb]; simp
-- The tree with the let left out.
mutual
inductive DropR (L D : Tr) : Tr → Tr → Prop
  | here : DropR L D L D
  | node {o n : Int} {b : List Int} {a : List Alt} {ks ks' : List Tr} (h : DropRs L D ks ks') : DropR L D (.mk o n b ks a) (.mk o n b ks' a)
inductive DropRs (L D : Tr) : List Tr → List Tr → Prop
  | nil : DropRs L D [] []
  | cons {t t' : Tr} {l l' : List Tr} (h : DropR L D t t') (k : DropRs L D l l') : DropRs L D (t :: l) (t' :: l')
end
theorem dropRs_map {L D : Tr} (f g : Int → Tr) : ∀ l : List Int, (∀ q ∈ l, DropR L D (f q) (g q)) → DropRs L D (l.map f) (l.map g)
  | [], _ => .nil
  | q :: l, h => .cons (h q (by simp)) (dropRs_map f g l fun q hq => h q (by simp [hq]))
theorem dropR_at {e : List Ex} (hk : kidsIn e) (p : Nat) (D : Tr) : ∀ (n j : Nat), j < n → j < e.length → DropR (treeAt e p) D (treeAt e j) ((growLR e p D).getD j default)
  | 0, j, h, _ => by omega
  | n + 1, j, h, hj => by
    obtain ⟨x, hx⟩ : ∃ x, e[j]? = some x := ⟨e[j], List.getElem?_eq_getElem hj⟩
    rw [growLR_node hk p D hx]
    by_cases hp : j = p
    · rw [if_pos hp, hp]; exact .here
    · rw [if_neg hp, treeAt_node hk hx]
      refine .node (dropRs_map _ _ _ fun q hq => ?_)
      have := hk j x hx q hq
      exact dropR_at hk p D n q.toNat (by omega) (by omega)
mutual
theorem drop_bnd {L D : Tr} (h0 : (bndT D).Sublist (bndT L)) : ∀ {t t' : Tr}, DropR L D t t' → (bndT t').Sublist (bndT t)
  | _, _, .here => h0
  | _, _, .node h => by simp only [bndT]; exact (List.Sublist.refl _).append (drop_bnds h0 h)
theorem drop_bnds {L D : Tr} (h0 : (bndT D).Sublist (bndT L)) : ∀ {l l' : List Tr}, DropRs L D l l' → (bndTs l').Sublist (bndTs l)
  | _, _, .nil => .refl _
  | _, _, .cons h k => by simp only [bndTs]; exact (drop_bnd h0 h).append (drop_bnds h0 k)
end
mutual
theorem drop_cnt {L D : Tr} (h0 : cntN D ≤ cntN L) : ∀ {t t' : Tr}, DropR L D t t' → cntN t' ≤ cntN t
  | _, _, .here => h0
  | _, _, .node h => by simp only [cntN]; have := drop_cnts h0 h; omega
theorem drop_cnts {L D : Tr} (h0 : cntN D ≤ cntN L) : ∀ {l l' : List Tr}, DropRs L D l l' → cntNs l' ≤ cntNs l
  | _, _, .nil => Nat.le_refl _
  | _, _, .cons h k => by simp only [cntNs]; have := drop_cnt h0 h; have := drop_cnts h0 k; omega
end
mutual
theorem drop_occ {L D : Tr} (h0 : ∀ sc, occT sc D = occT sc L) : ∀ {t t' : Tr}, DropR L D t t' → ∀ sc, occT sc t' = occT sc t
  | _, _, .here, sc => h0 sc
  | _, _, .node h, sc => by simp only [occT]; rw [drop_occs h0 h]
theorem drop_occs {L D : Tr} (h0 : ∀ sc, occT sc D = occT sc L) : ∀ {l l' : List Tr}, DropRs L D l l' → ∀ sc o b a i, occTs sc o b a i l' = occTs sc o b a i l
  | _, _, .nil, _, _, _, _, _ => rfl
  | _, _, .cons h k, sc, o, b, a, i => by simp only [occTs]; rw [drop_occ h0 h, drop_occs h0 k]
end
def foldMx (m : Int) (l : List Tr) : Int := (depthTs l).foldl mx m
mutual
theorem drop_depth {L D : Tr} (h0 : depthT D ≤ depthT L) : ∀ {t t' : Tr}, DropR L D t t' → depthT t' ≤ depthT t
  | _, _, .here => h0
  | _, _, .node h => by
    simp only [depthT]
    have := drop_depths h0 h 0 0 (Int.le_refl _)
    omega
theorem drop_depths {L D : Tr} (h0 : depthT D ≤ depthT L) : ∀ {l l' : List Tr}, DropRs L D l l' → ∀ m m', m' ≤ m → (depthTs l').foldl mx m' ≤ (depthTs l).foldl mx m
  | _, _, .nil, m, m', h => h
  | _, _, .cons h k, m, m', hm => by
    simp only [depthTs, List.foldl_cons]
    refine drop_depths h0 k _ _ ?_
    have := drop_depth h0 h
    unfold mx
    split <;> split <;> omega
end
theorem drop_op {L D : Tr} {t t' : Tr} (h4 : L.op = 4) (h : DropR L D t t') : t.op = 2 → t'.op = 2 := fun h2 => by
  cases h with
  | here => rw [h4] at h2; cases h2
  | node _ => exact h2
theorem drop_ops {L D : Tr} (h4 : L.op = 4) : ∀ {l l' : List Tr}, DropRs L D l l' → l'.length = l.length ∧ ∀ i : Nat, (l.map Tr.op)[i]? = some 2 → (l'.map Tr.op)[i]? = some 2
  | _, _, .nil => ⟨rfl, fun i h => by simp at h⟩
  | _, _, .cons h k => by
    obtain ⟨h1, h2⟩ := drop_ops h4 k
    refine ⟨by simp [h1], fun i hi => ?_⟩
    cases i with
    | zero =>
      simp only [List.map_cons, List.getElem?_cons_zero, Option.some.injEq] at hi ⊢
      exact drop_op h4 h hi
    | succ i =>
      simp only [List.map_cons, List.getElem?_cons_succ] at hi ⊢
      exact h2 i hi
theorem pLab_ops {o n : Int} {b ops ops' : List Int} {a : List Alt} (hlen : ops'.length = ops.length) (h2 : ∀ i : Nat, ops[i]? = some 2 → ops'[i]? = some 2) (hp : pLab ⟨o, n, b, ops, a⟩) : pLab ⟨o, n, b, ops', a⟩ := by
  intro e x hk hl
  obtain ⟨e0, he0⟩ : ∃ e0 : List Ex, e0 = ops.map fun op => ⟨op, 0, [], [], []⟩ := ⟨_, rfl⟩
  obtain ⟨x0, hx0⟩ : ∃ x0 : Ex, x0 = ⟨o, n, b, (List.range ops.length).map fun i : Nat => (i : Int), a⟩ := ⟨_, rfl⟩
  have hl0 : e0.length = ops.length := by rw [he0]; simp
  have hk0 : ∀ k ∈ x0.kids, 0 ≤ k ∧ k < (e0.length : Int) := by
    intro k hk
    rw [hx0] at hk
    simp only [List.mem_map, List.mem_range] at hk
    obtain ⟨i, hi, rfl⟩ := hk
    rw [hl0]; omega
  have hop : ∀ i, i < ops.length → ((growL e0).getD i default).op = ops.getD i 0 := fun i hi => by
    rw [op_grow e0 i (by omega), he0, List.getD_eq_getElem?_getD, List.getD_eq_getElem?_getD, List.getElem?_map]
    rw [List.getElem?_eq_getElem hi]; rfl
  have hlab : labE e0 x0 = ⟨o, n, b, ops, a⟩ := by
    unfold labE
    rw [hx0]
    simp only [Lab.mk.injEq, true_and, and_true, List.map_map]
    refine List.ext_getElem? fun i => ?_
    by_cases hi : i < ops.length
    · rw [List.getElem?_map, List.getElem?_range hi]
      simp only [Option.map_some, Function.comp_apply, Int.toNat_natCast]
      rw [hop i hi, List.getD_eq_getElem?_getD, List.getElem?_eq_getElem hi]; rfl
    · rw [List.getElem?_eq_none (by simp; omega), List.getElem?_eq_none (by omega)]
  have h0 := hp e0 x0 hk0 hlab
  have hl2 := hl
  unfold labE at hl
  simp only [Lab.mk.injEq] at hl
  obtain ⟨l1, l2, l3, l4, l5⟩ := hl
  have hlab2 := hlab
  unfold labE at hlab2
  simp only [Lab.mk.injEq] at hlab2
  obtain ⟨m1, m2, m3, m4, m5⟩ := hlab2
  refine nodeErrF_imp hk0 hk (m1.trans l1.symm) (m2.trans l2.symm) (m3.trans l3.symm) (m5.trans l5.symm) ?_ ?_ h0
  · have := congrArg List.length l4
    have h3 := congrArg List.length m4
    simp only [List.length_map] at this h3
    omega
  · intro i hi
    have h3 : (x0.kids.map fun k => ((growL e0).getD k.toNat default).op)[i]? = some 2 := hi
    rw [m4] at h3
    have h4 := h2 i h3
    rw [← l4] at h4
    exact h4
mutual
theorem drop_lab {L D : Tr} (h4 : L.op = 4) (hD : allT pLab D) : ∀ {t t' : Tr}, DropR L D t t' → allT pLab t → allT pLab t'
  | _, _, .here, _ => hD
  | _, _, .node h, ⟨h1, h2⟩ => by
    obtain ⟨e1, e2⟩ := drop_ops h4 h
    exact ⟨pLab_ops (by simp [e1]) e2 h1, drop_labs h4 hD h h2⟩
theorem drop_labs {L D : Tr} (h4 : L.op = 4) (hD : allT pLab D) : ∀ {l l' : List Tr}, DropRs L D l l' → allTs pLab l → allTs pLab l'
  | _, _, .nil, _ => trivial
  | _, _, .cons h k, ⟨h1, h2⟩ => ⟨drop_lab h4 hD h h1, drop_labs h4 hD k h2⟩
end
mutual
theorem drop_sum (g : Lab → Int) (hg : ∀ o n b ops ops' a, g ⟨o, n, b, ops, a⟩ = g ⟨o, n, b, ops', a⟩) {L D : Tr} (h0 : sumT g D = sumT g L) : ∀ {t t' : Tr}, DropR L D t t' → sumT g t' = sumT g t
  | _, _, .here => h0
  | _, _, .node h => by simp only [sumT]; rw [drop_sums g hg h0 h, hg _ _ _ _ _ _]
theorem drop_sums (g : Lab → Int) (hg : ∀ o n b ops ops' a, g ⟨o, n, b, ops, a⟩ = g ⟨o, n, b, ops', a⟩) {L D : Tr} (h0 : sumT g D = sumT g L) : ∀ {l l' : List Tr}, DropRs L D l l' → sumTs g l' = sumTs g l
  | _, _, .nil => rfl
  | _, _, .cons h k => by simp only [sumTs]; rw [drop_sum g hg h0 h, drop_sums g hg h0 k]
end
-- Where the let stood, its identifier is no longer bound.
mutual
theorem drop_gone {L D : Tr} {id : Int} (hL : bndT L = id :: bndT D) : ∀ {t t' : Tr}, DropR L D t t' → (bndT t).Nodup → t' = t ∨ (id ∈ bndT t ∧ id ∉ bndT t')
  | _, _, .here, h => by
    rw [hL] at h ⊢
    exact .inr ⟨by simp, (List.nodup_cons.1 h).1⟩
  | .mk o n b ks a, _, .node h, hn => by
    simp only [bndT] at hn ⊢
    obtain ⟨n1, n2, n3⟩ := List.nodup_append.1 hn
    rcases drop_gones hL h n2 with e | ⟨h1, h2⟩
    · exact .inl (by rw [e])
    · refine .inr ⟨List.mem_append_right _ h1, fun hm => ?_⟩
      rcases List.mem_append.1 hm with hm | hm
      · exact n3 _ hm _ h1 rfl
      · exact h2 hm
theorem drop_gones {L D : Tr} {id : Int} (hL : bndT L = id :: bndT D) : ∀ {l l' : List Tr}, DropRs L D l l' → (bndTs l).Nodup → l' = l ∨ (id ∈ bndTs l ∧ id ∉ bndTs l')
  | _, _, .nil, _ => .inl rfl
  | t :: l, t' :: l', .cons h k, hn => by
    simp only [bndTs] at hn ⊢
    obtain ⟨n1, n2, n3⟩ := List.nodup_append.1 hn
    rcases drop_gone hL h n1 with e1 | ⟨a1, a2⟩
    · rcases drop_gones hL k n2 with e2 | ⟨b1, b2⟩
      · exact .inl (by rw [e1, e2])
      · refine .inr ⟨List.mem_append_right _ b1, fun hm => ?_⟩
        rcases List.mem_append.1 hm with hm | hm
        · rw [e1] at hm; exact n3 _ hm _ b1 rfl
        · exact b2 hm
    · refine .inr ⟨List.mem_append_left _ a1, fun hm => ?_⟩
      rcases List.mem_append.1 hm with hm | hm
      · exact a2 hm
      · rcases drop_gones hL k n2 with e2 | ⟨b1, b2⟩
        · rw [e2] at hm; exact n3 _ a1 _ hm rfl
        · exact b2 hm
end
theorem ix_ind {e : List Ex} (h : IsTree e) {P : Nat → Prop} (h0 : P (e.length - 1)) (h1 : ∀ (i : Nat) (x : Ex) (k : Nat), e[i]? = some x → (k : Int) ∈ x.kids → P i → P k) : ∀ k, k < e.length → P k := by
  have key : ∀ d k, k < e.length → e.length - k = d → P k := by
    intro d
    induction d using Nat.strongRecOn with
    | _ d ih =>
      intro k hk hd
      by_cases hl : k + 1 < e.length
      · have hc := (h.c k hk).2 hl
        obtain ⟨i, x, hx, hkx⟩ := cnt_pos (e := e) (k := k) (by omega)
        have hb := h.k i x hx _ hkx
        have hi := (List.getElem?_eq_some_iff.1 hx).1
        exact h1 i x k hx hkx (ih (e.length - i) (by omega) i hi rfl)
      · have : k = e.length - 1 := by omega
        subst this
        exact h0
  exact fun k hk => key _ k hk rfl
theorem growR_ne {e : List Ex} (h : IsTree e) {p : Nat} (hp : p < e.length) {D : Tr} (hD : D ≠ treeAt e p) : growR e p D ≠ grow e := by
  intro he
  have hP := ix_ind h (P := fun j => (growLR e p D).getD j default = treeAt e j) he (fun i x k hx hk hi => by
    rw [growLR_node h.k p D hx] at hi
    by_cases hip : i = p
    · rw [if_pos hip] at hi
      subst hip
      exact absurd hi hD
    · rw [if_neg hip, treeAt_node h.k hx] at hi
      injection hi with _ _ _ hks _
      have := List.map_inj_left.1 hks (k : Int) hk
      simpa using this) p hp
  obtain ⟨x, hx⟩ : ∃ x, e[p]? = some x := ⟨e[p], List.getElem?_eq_getElem hp⟩
  rw [growLR_node h.k p D hx, if_pos rfl] at hP
  exact hD hP
def noV (id : Int) (l : Lab) : Prop := ¬ (l.op = 0 ∧ l.n = id)
mutual
theorem noV_occ (id : Int) : ∀ (t : Tr) (sc sc' : List Int), allT (noV id) t → (∀ n, n ≠ id → sc.contains n = sc'.contains n) → occT sc t = occT sc' t
  | .mk o n b ks a, sc, sc', h, hs => by
    simp only [occT]
    rw [noV_occs id ks sc sc' o b a 0 h.2 hs]
    congr 1
    by_cases ho : o = 0
    · have hn : n ≠ id := fun e => h.1 ⟨ho, e⟩
      rw [hs n hn]
    · simp [ho]
theorem noV_occs (id : Int) : ∀ (l : List Tr) (sc sc' : List Int) (o : Int) (b : List Int) (a : List Alt) (i : Nat), allTs (noV id) l → (∀ n, n ≠ id → sc.contains n = sc'.contains n) → occTs sc o b a i l = occTs sc' o b a i l
  | [], _, _, _, _, _, _, _, _ => rfl
  | t :: l, sc, sc', o, b, a, i, h, hs => by
    simp only [occTs]
    rw [noV_occ id t (boundN o b a i ++ sc) (boundN o b a i ++ sc') h.1 (fun n hn => by have := hs n hn; simp only [List.contains_eq_mem, List.mem_append, decide_eq_decide] at this ⊢; rw [this]), noV_occs id l sc sc' o b a (i + 1) h.2 hs]
end
mutual
theorem noV_uses (id : Int) : ∀ t : Tr, allT (noV id) t → usesN id t = 0
  | .mk o n b ks a, h => by
    simp only [usesN]
    split
    · rename_i ho
      rw [if_neg fun e => h.1 ⟨ho, e⟩]
    · exact noV_usess id ks h.2
theorem noV_usess (id : Int) : ∀ l : List Tr, allTs (noV id) l → usesNs id l = 0
  | [], _ => rfl
  | t :: l, h => by simp only [usesNs, noV_uses id t h.1, noV_usess id l h.2]
end
end Go.CoreX
namespace Go.CoreX
theorem map_two {α : Type} {f : Int → α} {l : List Int} {v d : α} (h : l.map f = [v, d]) : ∃ k q, l = [k, q] ∧ f k = v ∧ f q = d := by
  match l, h with
  | [k, q], h => simp at h; exact ⟨k, q, rfl, h.1, h.2⟩
theorem drop_word {e : List Ex} (hc : check e = 0) {i : Nat} {x : Ex} (hx : e[i]? = some x) (h4 : x.op = 4) (hw : (treeAt e (x.kids.getD 0 0).toNat).op = 1) :
    (applyE e 3 i 0).2 = 0 ↔ ∀ y ∈ e, ¬ (y.op = 0 ∧ y.n = x.binds.getD 0 0) := by
  have t1 := body_isTree hc
  have hlt := (List.getElem?_eq_some_iff.1 hx).1
  have hs := allT_treeAt t1 (check_shp hc) hlt
  have hL := treeAt_node t1.k hx
  rw [hL] at hs
  obtain ⟨id, v, d, hb, hk, ha⟩ := shp_let hs h4
  obtain ⟨k, q, hkq, hv, hd⟩ := map_two hk
  rw [hb]
  rw [hkq] at hw
  have hw : v.op = 1 := by rw [← hv]; exact hw
  have hvs := allT_kid hs (s := v) (by rw [Tr.kids_mk, hk]; simp)
  obtain ⟨w, rfl⟩ : ∃ w, v = .mk 1 w [] [] [] := by
    cases v with
    | mk o n b ks a =>
      obtain rfl : o = 1 := hw
      obtain ⟨r1, r2, r3⟩ := shp_leaf hvs (.inr rfl)
      exact ⟨n, by rw [r1, r2, r3]⟩
  obtain ⟨L, hLe⟩ : ∃ L, L = treeAt e i := ⟨_, rfl⟩
  rw [h4, hb, hk, ha] at hL
  have hLv : L = .mk 4 x.n [id] [.mk 1 w [] [] [], d] [] := by rw [hLe, hL]
  have hbl : bndT L = id :: bndT d := by rw [hLv]; simp [bndT, bndTs, bindersN]
  have hcl : cntN d < cntN L := by rw [hLv]; simp [cntN, cntNs]; omega
  have hne : d ≠ treeAt e i := fun h => by rw [← hLe] at h; rw [h] at hcl; omega
  have hR : DropR L d (grow e) (growR e i d) := by
    have hpos := List.length_pos_iff.2 t1.ne
    have := dropR_at t1.k i d _ (e.length - 1) (Nat.lt_succ_self _) (by omega)
    rw [← hLe] at this
    exact this
  have hrs : ∀ X, resT (growL e) (grow e) 3 0 (treeAt e i) = some X → X = d := fun X h => by
    rw [← hLe, hLv] at h
    unfold resT at h
    rw [if_neg (by simp), if_neg (by simp), if_pos (by simp)] at h
    unfold letRuleT at h
    rw [if_neg (by simp)] at h
    split at h
    · simpa [kidT] using h.symm
    · rw [if_neg (by simp), if_neg (by simp), if_neg (by simp)] at h
      cases h
  have hsv : sumT (isVar id) d = sumT (isVar id) L := by
    rw [hLv]
    simp [sumT, sumTs, isVar]
  have hgi : ∀ o n b ops ops' a, isVar id ⟨o, n, b, ops, a⟩ = isVar id ⟨o, n, b, ops', a⟩ := fun _ _ _ _ _ _ => rfl
  constructor
  · intro h
    obtain ⟨_, _, _, X, hX, hck, _⟩ := applyE_res h
    rw [Int.toNat_natCast] at hX hck
    obtain rfl := hrs X hX
    obtain ⟨_, _, _, p4⟩ := check_parts hck
    rw [grow_list] at p4
    rcases drop_gone hbl hR (bnd_nodup hc) with e1 | ⟨_, g2⟩
    · exact absurd e1 (growR_ne t1 hlt hne)
    · have h1 := zero_occ id _ [] p4 (by simp) g2
      rw [drop_sum (isVar id) hgi hsv hR, ← sum_tree _ t1] at h1
      intro y hy hyv
      have h2 := sum0 (fun l _ => isVar_nonneg id l) h1 (labE e y) (List.mem_map_of_mem hy)
      unfold isVar at h2
      rw [if_pos (by exact hyv)] at h2
      cases h2
  · intro h
    have hno : allT (noV id) (grow e) := allT_grow t1 fun y hy => h y hy
    have hnd : allT (noV id) d := by
      have h1 := allT_treeAt t1 hno hlt
      rw [← hLe, hLv] at h1
      exact allT_kid h1 (by simp)
    have hX : resT (growL e) (grow e) 3 0 (treeAt e i) = some d := by
      rw [← hLe, hLv]
      unfold resT
      rw [if_neg (by simp), if_neg (by simp), if_pos (by simp)]
      unfold letRuleT
      rw [if_neg (by simp), if_pos ⟨rfl, noV_uses id d hnd, rfl⟩]
      rfl
    obtain ⟨p1, p2, p3, p4⟩ := check_parts hc
    obtain ⟨q1, q2, q3⟩ := (treeErr_iff e).1 p1
    have t2 := isTree_list (growR e i d)
    have hck : check (listT [] (growR e i d)) = 0 := by
      refine check_of ?_ ?_ ?_ ?_
      · refine (treeErr_iff _).2 ⟨?_, t2, ?_⟩
        · have h5 := cntN_list (growR e i d) []
          have h6 := cntN_list (grow e) []
          have h7 := len_list hc
          have h8 := drop_cnt (Nat.le_of_lt hcl) hR
          simp only [List.length_nil] at h5 h6
          omega
        · rw [grow_list]
          have h8 := drop_depth (by
            rw [hLv]
            simp only [depthT, depthTs, List.foldl_cons, List.foldl_nil]
            unfold mx
            split <;> split <;> omega) hR
          omega
      · intro y hy
        have hD : allT pLab d := by
          have h1 := allT_treeAt t1 (check_pLab hc) hlt
          rw [← hLe, hLv] at h1
          exact allT_kid h1 (by simp)
        have hp := drop_lab (by rw [hLv]; rfl) hD hR (check_pLab hc)
        have := allT_labs t2 (by rw [grow_list]; exact hp) _ (List.mem_map_of_mem (f := labE (listT [] (growR e i d))) hy)
        exact this _ y (kids_lt t2.k hy) rfl
      · have h5 := drop_bnd (by rw [hbl]; exact List.sublist_cons_self _ _) hR
        have h6 := h5.nodup (bnd_nodup hc)
        have h7 := bnd_perm t2
        rw [grow_list] at h7
        exact h7.nodup_iff.2 h6
      · rw [grow_list, drop_occ (fun sc => ?_) hR]
        · exact p4
        · rw [hLv]
          simp only [occT, occTs]
          rw [noV_occ id d sc (boundN 4 [id] [] (0 + 1) ++ sc) hnd (fun n hn => by simp [boundN, hn])]
          simp
    unfold applyE
    rw [if_neg (by simpa using hc), if_neg (by omega), if_neg (by omega), Int.toNat_natCast, hX]
    dsimp only
    rw [if_neg (by simpa using hck)]
end Go.CoreX
namespace Go.Proofs.YtgdionbeeodaaaaDoor
open Go Go.Abs Go.CoreX
set_option maxRecDepth 10000
variable {Γ : List (Nat × List AC)}
theorem idxOf_get {α : Type} {p : α → Bool} : ∀ {l : List α}, l.any p = true → ∃ (j : Nat) (a : α), idxOf p l = j ∧ l[j]? = some a ∧ p a = true
  | [], h => by simp at h
  | a :: l, h => by
    by_cases hp : p a = true
    · exact ⟨0, a, by simp [idxOf, hp], rfl, hp⟩
    · have h2 : l.any p = true := by
        simp only [List.any_cons, Bool.or_eq_true] at h
        exact h.resolve_left hp
      obtain ⟨j, b, h3, h4, h5⟩ := idxOf_get h2
      refine ⟨j + 1, b, ?_, by simpa using h4, h5⟩
      simp only [idxOf, hp, h3]
      rw [if_neg (by simp), if_neg (by omega)]; rfl
def uP (n : Int) (u : Int × Int) : Bool := u.1 == n
theorem UsIdx_ok (hΓ : ∀ g cs, (g, cs) ∈ Γ → idsL isO cs) (gf : Nat) (caps : List AC) (hcap : idsL isO caps) (p : Int × Int → Bool) (xs : List (Int × Int)) (hx : xs.length ≤ 4611686018427387904) (hf : ∀ a ∈ xs, APure Tryd.prog Γ gf (.agg (cUs a) :: caps.map .one) (.one (.lit (.bool (p a))))) :
    APure Tryd.prog Γ 42 [.one (.sl 2 (xs.map cUs)), .one (.fn (.func gf) [] caps)] (.one (int (idxOf p xs))) := by
  intro ou
  refine AFn.walk 19 tabOk Tryd.func42 rfl (by kernel_rfl) rfl rfl fun hou => ?_
  refine zA ?_
  refine ACode.loopR hΓ (α := Nat) (fun j => [(8, .one (int j)), (7, .one (int (xs.map cUs).length)), (1, .one (.fn (.func gf) [] caps)), (0, .one (.sl 2 (xs.map cUs)))])
    (fun j => ⟨0, [], ou⟩) (fun m j => j ≤ xs.length ∧ (∀ x ∈ xs.take j, p x = false) ∧ m = xs.length - j) (a0 := 0) (ρ := id) ⟨by omega, by simp, rfl⟩ (LessR.of rfl ?_ ?_ (by repeat' first | exact LoSub.nil | refine zlc ?_ | refine zld ?_ ?_ | rfl) rfl rfl hou) fun m j hj => ?_
  · refine .cons rfl (.ofEq rfl) (.cons rfl (.ofEq rfl) (.consP rfl (.ofEq rfl) (by simp [hcap]) (.consP rfl (.ofEq rfl) (by simp) .nil)))
  · simp [idsL_mono isO_inL caps hcap]
  obtain ⟨hjl, hno, rfl⟩ := hj
  refine zA ?_
  refine ACode.cond rfl (fun hb2 => ?_) (fun hb2 => ?_)
  · have hlt : j < xs.length := by simpa using hb2
    obtain ⟨a, ha⟩ := get_of_lt hlt
    have hca := hf a (List.mem_of_getElem? ha)
    refine zA ?_
    refine AOps.step1 rfl rfl rfl (AStep.indexAddr tabOk rfl rfl rfl rfl rfl rfl (.inl rfl) rfl (by omega) (by simpa using map_get ha)) ?_
    refine zA ?_
    refine AOps.callC hΓ hca rfl rfl rfl rfl rfl rfl rfl hou (by simp [idsF_ones hcap]) ?_
    refine zA ?_
    refine ACode.cond rfl (fun hb3 => ?_) (fun hb3 => ?_)
    · refine zA ?_
      refine APure.fin rfl (WkF.ofEq ?_) (by simp) hou rfl
      rw [idxOf_at hno ha hb3]
    · refine zA ?_
      refine AOps.step1 rfl rfl rfl (AStep.arith rfl rfl rfl (.inl ⟨rfl, rfl⟩) (inRange_i64 (by omega) (by omega))) ?_
      refine zA ?_
      refine cInv ⟨xs.length - (j + 1), j + 1, id, by omega, ⟨by omega, take_all hno ha hb3, rfl⟩, LessR.of rfl ?_ ?_ (by repeat' first | exact LoSub.nil | refine zlc ?_ | refine zld ?_ ?_ | rfl) rfl rfl hou⟩
      · refine .cons rfl (.ofEq rfl) (.cons rfl (.ofEq rfl) (.consP rfl (.ofEq rfl) (by simp [hcap]) (.consP rfl (.ofEq rfl) (by simp) .nil)))
      · simp [idsL_mono isO_inL caps hcap]
  · have hlt : j = xs.length := by simp at hb2; omega
    subst hlt
    rw [List.take_length] at hno
    refine zA ?_
    refine APure.fin rfl (WkF.ofEq ?_) (by simp) hou rfl
    rw [idxOf_none hno]
theorem usClo_ok (x : Ex) (b : Int) (hb : x.binds[0]? = some b) (u : Int × Int) : APure Tryd.prog Γ 43 (.agg (cUs u) :: [AC.box (cEx x)].map .one) (.one (.lit (.bool (uP b u)))) := by
  intro ou
  refine AFn.walk 11 tabOk Tryd.func43 rfl (by kernel_rfl) rfl rfl fun hou => ?_
  refine zA ?_
  refine ACode.drawX tabOk 7 [(4, .one (.box (cI b)))] follows (by kernel_rfl) rfl rfl rfl rfl ?_ ?_
  · exact .step rfl (HStep.plain rfl (AStep.indexAddr tabOk rfl rfl rfl rfl rfl rfl (.inl rfl) rfl (by decide) (map_get hb))) .nil
  refine zA ?_
  exact APure.fin rfl (WkF.ofEq rfl) (by simp) hou rfl
theorem use_at {e : List Ex} {l : List (Int × Int)} (hp : l.Perm (useOf e)) {b : Int} (hb : b ∈ allBinders e) : ∃ (j : Nat), idxOf (uP b) l = j ∧ l[j]? = some (b, howU (useS e) b) := by
  have h1 : (b, howU (useS e) b) ∈ useOf e := by unfold useOf useL; exact List.mem_map_of_mem (f := fun n => (n, howU (useS e) n)) hb
  have h2 : l.any (uP b) = true := List.any_eq_true.2 ⟨_, hp.mem_iff.2 h1, by simp [uP]⟩
  obtain ⟨j, u, h3, h4, h5⟩ := idxOf_get h2
  have h6 := hp.mem_iff.1 (List.mem_of_getElem? h4)
  unfold useOf useL at h6
  obtain ⟨n, _, rfl⟩ := List.mem_map.1 h6
  have h7 : n = b := by simpa [uP] using h5
  subst h7
  exact ⟨j, h3, h4⟩
theorem kids_let2 {e : List Ex} (hc : check e = 0) {i : Nat} {x : Ex} (hx : e[i]? = some x) (h : x.op = 4) : ∃ k b, x.kids[0]? = some k ∧ x.binds[0]? = some b ∧ 0 ≤ k ∧ k < (i : Int) := by
  have t1 := body_isTree hc
  have hlt := (List.getElem?_eq_some_iff.1 hx).1
  have hs := allT_treeAt t1 (check_shp hc) hlt
  rw [treeAt_node t1.k hx] at hs
  obtain ⟨b, v, d, h1, h2, _⟩ := shp_let hs h
  cases hk : x.kids with
  | nil => rw [hk] at h2; cases h2
  | cons k l => exact ⟨k, b, rfl, by rw [h1]; rfl, t1.k i x hx k (by rw [hk]; simp)⟩
set_option maxHeartbeats 1000000 in
theorem UsageDrops_ok (e : List Ex) (he : okB e) : APure Tryd.prog Γc 13 [.one (.sl 5 (e.map cEx))] (.one (.lit (.bool true))) := by
  have hU := UseOf_ok e he
  have hel := he.eo.l
  intro ou
  refine AFn.walk 67 tabOk Tryd.func13 rfl (by kernel_rfl) rfl rfl fun hou => ?_
  refine zA ?_
  refine AOps.call1 hΓc rfl rfl rfl rfl rfl rfl rfl (by simp) hou (hU ou) fun r ou' hq hids hou' => ?_
  obtain ⟨hoe, hq⟩ := hq
  have hoe := hoe.symm
  subst hoe
  rcases hq with ⟨h, rfl⟩ | ⟨h, l, hp, rfl⟩
  · refine zA ?_
    refine ACode.cond rfl (fun hb => ?_) (fun hb => absurd hb (by simpa using h))
    refine zA ?_
    refine zca hΓc usageFact_ok hou ?_
    refine zM ?_
    exact APure.fin rfl (WkF.ofEq (by simp)) (by simp) hou rfl
  have t1 := body_isTree h
  have hll : l.length ≤ 4611686018427387904 := by
    have h1 := hp.length_eq
    have h2 : (useOf e).length = (allBinders e).length := by simp [useOf, useL]
    have h3 : (allBinders e).length ≤ e.length * 4194304 := flat_le fun x hx => by
      have h5 := he.b x hx
      unfold exBinders bindersN
      rw [List.length_append]
      split
      · exact h5
      · simp only [List.length_nil]; omega
    have h4 := Nat.mul_le_mul_right 4194304 hel
    omega
  refine zA ?_
  refine ACode.loopR hΓc (α := Nat) (fun i => [(25, .one (int i)), (24, .one (int (e.map cEx).length)), (23, .one (.sl 5 (e.map cEx))), (3, .one (.sl 2 (l.map cUs))), (0, .one (.sl 5 (e.map cEx)))])
    (fun i => ⟨0, [], ou⟩) (fun m i => i ≤ e.length ∧ m = e.length - i) (a0 := 0) (ρ := id) ⟨by omega, rfl⟩ (LessR.of rfl (by (repeat' first | exact FrSub.nil | refine zfc ?_ | refine zfo ?_ | refine zfp ?_)) (by simp) (by repeat' first | exact LoSub.nil | refine zlc ?_ | refine zld ?_ ?_ | rfl) rfl rfl hou) fun m i hi => ?_
  obtain ⟨hil, rfl⟩ := hi
  refine zA ?_
  refine ACode.cond rfl (fun hb2 => ?_) (fun hb2 => ?_)
  · have hlt : i < e.length := by simpa using hb2
    clear hb2
    obtain ⟨x, hx⟩ := get_of_lt hlt
    refine zA ?_
    refine AOps.step1 rfl rfl rfl (AStep.indexAddr tabOk rfl rfl rfl rfl rfl rfl (.inl rfl) rfl (by omega) (map_get hx)) ?_
    refine zA ?_
    refine AOps.splitS rfl rfl rfl rfl (fun hb4 => ?_) (fun hb4 => ?_)
    · refine zM ?_
      exact cInv ⟨e.length - (i + 1), i + 1, id, by omega, ⟨by omega, rfl⟩, LessR.of rfl (by (repeat' first | exact FrSub.nil | refine zfc ?_ | refine zfo ?_ | refine zfp ?_)) (by simp) (by repeat' first | exact LoSub.nil | refine zlc ?_ | refine zld ?_ ?_ | rfl) rfl rfl hou⟩
    have h4 : x.op = 4 := by simpa using hb4
    obtain ⟨k, b, hk0, hb0, hk1, hk2⟩ := kids_let2 h hx h4
    obtain ⟨k, rfl⟩ : ∃ k' : Nat, k = k' := ⟨k.toNat, by omega⟩
    obtain ⟨y, hy⟩ := get_of_lt (l := e) (i := k) (by omega)
    refine zM ?_
    refine AOps.step1 rfl rfl rfl (AStep.indexAddr tabOk rfl rfl rfl rfl rfl rfl (.inl rfl) rfl (by decide) (map_get hk0)) ?_
    refine zM ?_
    refine AOps.step1 rfl rfl rfl (AStep.indexAddr tabOk rfl rfl rfl rfl rfl rfl (.inl rfl) rfl (by omega) (map_get hy)) ?_
    refine zM ?_
    refine ACode.condS rfl (fun hb5 => ?_) (fun hb5 => ?_)
    · refine zM ?_
      exact cInv ⟨e.length - (i + 1), i + 1, id, by omega, ⟨by omega, rfl⟩, LessR.of rfl (by (repeat' first | exact FrSub.nil | refine zfc ?_ | refine zfo ?_ | refine zfp ?_)) (by simp) (by repeat' first | exact LoSub.nil | refine zlc ?_ | refine zld ?_ ?_ | rfl) rfl rfl hou⟩
    have h1 : y.op = 1 := by simpa using hb5
    have hgk : x.kids.getD 0 0 = (k : Int) := by rw [List.getD_eq_getElem?_getD, hk0]; rfl
    have hgb : x.binds.getD 0 0 = b := by rw [List.getD_eq_getElem?_getD, hb0]; rfl
    have hdw := drop_word h hx h4 (by rw [hgk, Int.toNat_natCast, treeAt_node t1.k hy]; exact h1)
    rw [hgb] at hdw
    have hbm : b ∈ allBinders e := List.mem_flatMap.2 ⟨x, List.mem_of_getElem? hx, by
      unfold exBinders bindersN
      rw [if_pos (.inr (.inl h4))]
      exact List.mem_append_left _ (List.mem_of_getElem? hb0)⟩
    obtain ⟨j, hj1, hj2⟩ := use_at hp hbm
    have hix := UsIdx_ok hΓc 43 [.box (cEx x)] (by simp) (uP b) l hll (fun u _ => usClo_ok x b hb0 u)
    rw [hj1] at hix
    have hap := Apply_some e he 3 i 0 (by decide) (by decide)
    have hun := use_never t1 b
    repeat ((fail_if_success ((with_reducible refine oj ?_); refine AOps.atDst 45 rfl ?_)); first | refine zO ?_)
    refine AOps.freeze1 (.l 0) 6 rfl rfl ?_
    refine zA ?_
    refine zca hΓc hix hou ?_
    refine zA ?_
    refine AOps.callC hΓc hap rfl rfl rfl rfl rfl rfl rfl hou (by simp [idsF]) ?_
    refine zM ?_
    refine AOps.step1 rfl rfl rfl (AStep.indexAddr tabOk rfl rfl rfl rfl rfl rfl (.inl rfl) rfl (by omega) (map_get hj2)) ?_
    refine zM ?_
    refine ACode.condS rfl (fun hb7 => ?_) (fun hb7 => ?_)
    · exfalso
      have h8 : (applyE e 3 i 0).2 = 0 ↔ howU (useS e) b = 0 := by
        rw [hdw, hun, List.any_eq_false]
        refine forall_congr' fun y => forall_congr' fun hy => ?_
        unfold occV
        simp
      have h9 : ((applyE e 3 i 0).2 == 0) = (howU (useS e) b == 0) := by rw [Bool.eq_iff_iff]; simpa using h8
      rw [h9] at hb7
      simp at hb7
    · refine zM ?_
      exact cInv ⟨e.length - (i + 1), i + 1, id, by omega, ⟨by omega, rfl⟩, LessR.of rfl (by (repeat' first | exact FrSub.nil | refine zfc ?_ | refine zfo ?_ | refine zfp ?_)) (by simp) (by repeat' first | exact LoSub.nil | refine zlc ?_ | refine zld ?_ ?_ | rfl) rfl rfl hou⟩
  have hlt : i = e.length := by simp at hb2; omega
  subst hlt
  refine zA ?_
  refine zca hΓc usageFact_ok hou ?_
  refine zA ?_
  exact APure.fin rfl (WkF.ofEq rfl) (by simp) hou rfl
end Go.Proofs.YtgdionbeeodaaaaDoor
namespace Go.Proofs.YtgdionbeeodaaaaDoor
open Go Go.Abs Go.CoreX
set_option maxRecDepth 10000
theorem bulkAll_eq {H : Type} : ∀ l : List (DataW H), Rows.uptoBulkAll l = bulkAll Rows.uptoBulk l
  | [] => rfl
  | d :: l => by simp only [Rows.uptoBulkAll, bulkAll, List.map_cons, List.sum_cons] at *; rw [bulkAll_eq l]; rfl
theorem bulk_agg {H : Type} (l : List (DataW H)) : bulkAll Rows.uptoBulk l + 1 ≤ Rows.uptoBulk (.agg l) := by
  simp only [Rows.uptoBulk, bulkAll_eq]; omega
theorem bulk_slice {H : Type} (l r : List (DataW H)) : bulkAll Rows.uptoBulk l + 1 ≤ Rows.uptoBulk (.slice l r) := by
  simp only [Rows.uptoBulk, bulkAll_eq]; omega
theorem bulk_nil {H : Type} : 1 ≤ Rows.uptoBulk (DataW.nil : DataW H) := by simp [Rows.uptoBulk]
section
variable {H : Type} {enc : TypeId × Value → H} {w : World}
abbrev I64 := {i : Int // IntKind.i64.min ≤ i ∧ i ≤ IntKind.i64.max}
theorem opens_int (n : Nat) : Opens enc Tryd.prog w Rows.uptoBulk 3 n (fun i : I64 => [int i.1]) (fun _ => 1) := by
  intro cs x h
  obtain ⟨i, rfl, rfl, hw⟩ := DataW.trod_int Tryd.underlying3 h
  refine ⟨⟨i, ?_⟩, ⟨_, _, rfl, ⟨rfl, rfl⟩, rfl⟩, by simp [Rows.uptoBulk]⟩
  simpa [Lit.wf] using hw
theorem opens_slice {t e : TypeId} {s : Nat} (ht : Tryd.prog.underlying t = some (.slice e)) (hs : Tryd.prog.cellsOf e = s) (h0 : 0 < s) {α : Type} {c : α → List AC} {wt : α → Nat} (n : Nat) (he : ∀ m, m < n → Opens enc Tryd.prog w Rows.uptoBulk e m c wt) :
    Opens enc Tryd.prog w Rows.uptoBulk t n (fun l : List α => [.sl s (l.map c)]) (fun l => wtAll wt l + 1) := by
  cases n with
  | zero => exact Opens.zero
  | succ n => exact Opens.slice bulk_slice bulk_nil ht hs h0 (he n (by omega))
theorem wt_one {α : Type} (l : List α) : wtAll (fun _ => 1) l = l.length := by
  unfold wtAll
  induction l with
  | nil => rfl
  | cons a l ih => simp only [List.map_cons, List.sum_cons, List.length_cons, ih]; omega
theorem opens_ints (n : Nat) : Opens enc Tryd.prog w Rows.uptoBulk 35 n (fun l : List Int => [.sl 1 (l.map cI)]) (fun l => l.length + 1) := by
  refine Opens.as (opens_slice Tryd.underlying35 (s := 1) (by kernel_rfl) (by omega) n (fun m _ => opens_int m)) fun l => ⟨l.map (·.1), ?_, ?_⟩
  · simp only [List.map_map]; rfl
  · rw [wt_one]; simp
def bAlt (a : Alt) : Nat := a.binds.length + 3
def bAlts (l : List Alt) : Nat := (l.map bAlt).sum
def bEx (x : Ex) : Nat := x.binds.length + x.kids.length + bAlts x.alts + 6
def bExs (l : List Ex) : Nat := (l.map bEx).sum
theorem opensAlt (n : Nat) : Opens enc Tryd.prog w Rows.uptoBulk 89 n cAlt bAlt := by
  cases n with
  | zero => exact Opens.zero
  | succ n =>
    refine Opens.as (Opens.struct bulk_agg Tryd.underlying89 (.cons rfl (by kernel_rfl) (opens_int n) (fun _ => rfl) (.cons rfl (by kernel_rfl) (opens_ints n) (fun _ => rfl) (.nil _))) (fun _ => (show (2 : Nat) = _ by kernel_rfl))) ?_
    rintro ⟨i, l, _⟩
    exact ⟨⟨i.1, l⟩, rfl, by show l.length + 3 ≤ 1 + (l.length + 1 + 0) + 1; omega⟩
theorem opensEx (n : Nat) : Opens enc Tryd.prog w Rows.uptoBulk 53 n cEx bEx := by
  cases n with
  | zero => exact Opens.zero
  | succ n =>
    have ha := opens_slice (enc := enc) (w := w) (t := 51) Tryd.underlying51 (s := 2) (by kernel_rfl) (by omega) n (fun m _ => opensAlt m)
    refine Opens.as (Opens.struct bulk_agg Tryd.underlying53 (.cons rfl (by kernel_rfl) (opens_int n) (fun _ => rfl) (.cons rfl (by kernel_rfl) (opens_int n) (fun _ => rfl) (.cons rfl (by kernel_rfl) (opens_ints n) (fun _ => rfl) (.cons rfl (by kernel_rfl) (opens_ints n) (fun _ => rfl) (.cons rfl (by kernel_rfl) ha (fun _ => rfl) (.nil _)))))) (fun _ => (show (5 : Nat) = _ by kernel_rfl))) ?_
    rintro ⟨i, j, b, k, l, _⟩
    refine ⟨⟨i.1, j.1, b, k, l⟩, rfl, ?_⟩
    show b.length + k.length + bAlts l + 6 ≤ 1 + (1 + (b.length + 1 + (k.length + 1 + (wtAll bAlt l + 1 + 0)))) + 1
    have : wtAll bAlt l = bAlts l := rfl
    omega
theorem opensExs (n : Nat) : Opens enc Tryd.prog w Rows.uptoBulk 22 n (fun l : List Ex => [.sl 5 (l.map cEx)]) (fun l => bExs l + 1) :=
  opens_slice Tryd.underlying22 (s := 5) (by kernel_rfl) (by omega) n (fun m _ => opensEx m)
theorem rf_slice {t e : TypeId} {base : Nat} {r : Reach} {W : World} {v : Value} {C : Ctx} {c : AC} (ht : Tryd.prog.underlying t = some (.slice e)) (h : Value.okWide Tryd.prog W r base t v) (hr : RV W C [c] v.cells.toList) : RF W C (.one c) v := by
  obtain ⟨a, len, cap, rfl⟩ := WideShapes.okWide_slice ht h
  obtain ⟨u, us, he, h1, h2⟩ := hr
  simp [Value.cells] at he
  obtain ⟨rfl, rfl⟩ := he
  exact h1
end
theorem sum_mem {α : Type} {f : α → Nat} : ∀ {l : List α} {a : α}, a ∈ l → f a ≤ (l.map f).sum
  | b :: l, a, h => by
    simp only [List.map_cons, List.sum_cons]
    rcases List.mem_cons.1 h with rfl | h
    · omega
    · have := sum_mem (f := f) h; omega
theorem sum_len {α : Type} {f : α → Nat} (hf : ∀ a, 1 ≤ f a) : ∀ l : List α, l.length ≤ (l.map f).sum
  | [] => by simp
  | b :: l => by
    have h1 := hf b
    have h2 := sum_len hf l
    simp only [List.map_cons, List.sum_cons, List.length_cons]; omega
theorem bAlts_flat : ∀ l : List Alt, (l.flatMap (·.binds)).length ≤ bAlts l
  | [] => by simp [bAlts]
  | a :: l => by
    have := bAlts_flat l
    simp only [bAlts, bAlt, List.flatMap_cons, List.length_append, List.map_cons, List.sum_cons] at *
    omega
theorem okB_of {e : List Ex} (h : bExs e ≤ 1048576) : okB e := by
  have h1 := sum_len (f := bEx) (fun x => by simp only [bEx]; omega) e
  have hx : ∀ x ∈ e, bEx x ≤ 1048576 := fun x hx => by
    have h2 : bEx x ≤ bExs e := sum_mem hx
    omega
  have h1' : e.length ≤ bExs e := h1
  refine ⟨⟨by omega, fun x hx1 => ?_⟩, fun x hx1 => ?_⟩
  · have h2 := hx x hx1
    simp only [bEx] at h2
    have h3 := sum_len (f := bAlt) (fun a => by simp only [bAlt]; omega) x.alts
    have h3' : x.alts.length ≤ bAlts x.alts := h3
    refine ⟨by omega, by omega, by omega, fun a ha => ?_⟩
    have h4 : bAlt a ≤ bAlts x.alts := sum_mem ha
    simp only [bAlt] at h4
    omega
  · have h2 := hx x hx1
    simp only [bEx] at h2
    have h3 := bAlts_flat x.alts
    omega
theorem arity_cells {W : World} (h : laidMetH Tryd.prog [("provenance/core.arity", Rows.laid_provenance_core_arity)] W) : ∀ g cs, (g, cs) ∈ Γc → RG W (ctx0 W) cs g := by
  have ht : Lib.TabIs Tryd.prog W "provenance/core.arity" .i64 [2, 2, 2, 2, 2, 2, 2, 1, 2, 1, 2, 3] :=
    Lib.tabIs_of_head (rest := []) (g := 1) (t := 158) (n := 12) (by kernel_rfl) (by kernel_rfl) (by kernel_rfl) Tryd.underlying3 (by kernel_rfl) (by kernel_rfl) h
  have hg : Tryd.prog.globalNamed "provenance/core.arity" = some 1 := by kernel_rfl
  intro g cs hm
  simp [Γc] at hm
  obtain ⟨rfl, rfl⟩ := hm
  exact RG.ofVar hg ht rfl
end Go.Proofs.YtgdionbeeodaaaaDoor
