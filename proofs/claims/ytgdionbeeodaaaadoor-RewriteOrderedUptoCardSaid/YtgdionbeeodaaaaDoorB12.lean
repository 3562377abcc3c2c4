/- The nodes of an expression as own trees: open, walked. -/
import Derived.Test.YtgdionbeeodaaaaDoorB11
set_option maxRecDepth 10000
set_option linter.unusedVariables false
set_option linter.unusedSimpArgs false
namespace Go.Proofs.YtgdionbeeodaaaaDoor
open Go Go.Abs Go.CoreX
variable {Γ : List (Nat × List AC)}
def OpenQ (e : List Ex) (ou : Outer) (r : FV) (ou' : Outer) : Prop := ∃ (lts : List LTr) (root : LTr), r = .one (.box [.sl 1 (kC lts), .ptr (.o root.id) 0]) ∧ LinkL e lts plainB ∧ lts[e.length - 1]? = some root ∧ NewO ou ou' (lts.flatMap ownO)
abbrev wO (lts : List LTr) : AObj := .cells [.gs 1 (kC lts) (.l 1), .lit (.pointer none)]
set_option maxHeartbeats 2000000 in
theorem open_ok (hΓ : ∀ g cs, (g, cs) ∈ Γ → idsL isO cs) (e : List Ex) (he : okE e) (hin : kidsIn e) (hne : e ≠ []) (ou : Outer) : AFn Tryd.prog Γ 46 [.one (.sl 5 (e.map cEx))] ou (OpenQ e ou) := by
 have hel := he.l
 refine AFn.walk 99 tabOk Tryd.func46 rfl (by kernel_rfl) rfl rfl fun hou => ?_
 refine zA ?_
 refine ACode.grow 0 0 70 1 rfl rfl ?_
 refine ACode.loopR hΓ (α := Nat × List LTr × Outer) (fun c => [(15, .one (int c.1)), (14, .one (int (e.map cEx).length)), (13, .one (.sl 5 (e.map cEx))), (3, .one (.ptr (.l 0) 0)), (0, .one (.sl 5 (e.map cEx)))])
   (fun c => ⟨2, [(1, .tok 70 1 c.1), (0, wO c.2.1)], c.2.2⟩) (fun m c => c.1 ≤ e.length ∧ (LinkL (e.take c.1) c.2.1 plainB ∧ NewO ou c.2.2 (c.2.1.flatMap ownO)) ∧ m = e.length - c.1) (a0 := (0, [], ou)) (ρ := id) ⟨by omega, ⟨LinkL.nil, .nil hou⟩, rfl⟩
   (LessR.of rfl (by (repeat' first | exact FrSub.nil | refine zfc ?_ | refine zfo ?_ | refine zfp ?_)) (by simp) (by repeat' first | exact LoSub.nil | refine zlc ?_ | refine zld ?_ ?_ | rfl) rfl rfl hou) fun m c hc => ?_
 obtain ⟨j, lts, ov⟩ := c
 obtain ⟨hjl, ⟨hL, hN⟩, rfl⟩ := hc
 dsimp only at hjl hL hN
 have hov := hN.ok
 refine zA ?_
 refine ACode.cond rfl (fun hb2 => ?_) (fun hb2 => ?_)
 · have hlt : j < e.length := by simpa using hb2
   obtain ⟨x, hx⟩ := get_of_lt hlt
   have hxo := he.x x (List.mem_of_getElem? hx)
   have hxk := hxo.k
   have hxa := hxo.a
   have hxb := hxo.b
   have hxin := hin j x hx
   have hgl : lts.length = j := by rw [hL.len]; simp; omega
   have hkcl : (kC lts).length = j := by rw [kC_len, hgl]
   refine zA ?_
   refine AOps.step1 rfl rfl rfl (AStep.indexAddr tabOk rfl rfl rfl rfl rfl rfl (.inl rfl) rfl (by omega) (map_get hx)) ?_
   refine zA ?_
   refine ACode.drawC tabOk 9 [6, 7, 8] [] (fun vs σ => match vs with
       | [] => σ = ⟨3, [(2, .cells (cEx x)), (2, .cells (ti53.zero.map .lit)), (1, .tok 70 1 j), (0, wO lts)], ov⟩
       | [a] => a = .one (.sl 1 (x.binds.map cI)) ∧ σ = ⟨4, (3, .dead) :: [(2, .cells (cEx x)), (2, .cells (ti53.zero.map .lit)), (1, .tok 70 1 j), (0, wO lts)], ov⟩
       | [a, b] => a = .one (.sl 1 (x.binds.map cI)) ∧ b = .agg [int x.op, int x.n, .sl 1 (x.binds.map cI), .lit (.slice none 0 0), .lit (.slice none 0 0)] ∧ σ = ⟨4, (3, .dead) :: [(2, .cells (cEx x)), (2, .cells (ti53.zero.map .lit)), (1, .tok 70 1 j), (0, wO lts)], ov⟩
       | [a, b, c] => a = .one (.sl 1 (x.binds.map cI)) ∧ b = .agg [int x.op, int x.n, .sl 1 (x.binds.map cI), .lit (.slice none 0 0), .lit (.slice none 0 0)] ∧ c = .one (.ptr (.l 4) 0) ∧ σ = ⟨5, (4, .cells [int x.op, int x.n, .sl 1 (x.binds.map cI), .lit (.slice none 0 0), .lit (.slice none 0 0)]) :: (3, .dead) :: [(2, .cells (cEx x)), (2, .cells (ti53.zero.map .lit)), (1, .tok 70 1 j), (0, wO lts)], ov⟩
       | _ => False) follows (by kernel_rfl) rfl rfl (by decide) (by kernel_rfl) (by kernel_rfl) rfl rfl ?_ (fun _ _ _ => .nil) (by decide) ?_ ?_
   · rintro vs σ hG
     match vs, hG with
     | [], hG => subst hG; rfl
     | [a], hG => obtain ⟨_, rfl⟩ := hG; rfl
     | [a, b], hG => obtain ⟨_, _, rfl⟩ := hG; rfl
     | [a, b, c], hG => obtain ⟨_, _, _, rfl⟩ := hG; rfl
   · rintro vs σ hG i o hp1 hp2
     match vs, hG with
     | [], hG =>
       subst hG
       cases hp1
       cases hp2
       refine ⟨rfl, rfl, .inr ⟨rfl, ?_⟩⟩
       intro F w C tmps hI hF next Q hk
       refine AStepR.appCopyS (news := x.binds.map cI) tabOk rfl rfl rfl rfl rfl rfl rfl (by simp; show _ * 8 ≤ _; omega) (by simp; omega) F w C tmps hI hF next Q fun u w' C' v σ' hq => hk u w' C' v σ' ?_
       obtain ⟨rfl, rfl⟩ := hq
       exact ⟨rfl, rfl⟩
     | [a], hG =>
       obtain ⟨rfl, rfl⟩ := hG
       cases hp1
       cases hp2
       exact ⟨rfl, rfl, .inl ⟨_, _, HStep.auto tabOk rfl, rfl, rfl, rfl⟩⟩
     | [a, b], hG =>
       obtain ⟨rfl, rfl, rfl⟩ := hG
       cases hp1
       cases hp2
       exact ⟨rfl, rfl, .inl ⟨_, _, HStep.auto tabOk rfl, rfl, rfl, rfl, rfl⟩⟩
     | [a, b, c], hG => cases hp1
   rintro vs σ hlen hG
   match vs, hlen, hG with
   | [a, b, c], _, hG =>
   obtain ⟨rfl, rfl, rfl, rfl⟩ := hG
   refine zA ?_
   refine ACode.grow 4 3 70 1 rfl rfl ?_
   refine ACode.loopR hΓ (α := Nat) (fun i => [(31, .one (int i)), (30, .one (int (x.kids.map cI).length)), (29, .one (.sl 1 (x.kids.map cI))), (6, .one (.ptr (.l 3) 0)), (5, .one (.ptr (.l 2) 0)), (3, .one (.ptr (.l 0) 0)), (15, .one (int j)), (14, .one (int (e.map cEx).length)), (13, .one (.sl 5 (e.map cEx))), (0, .one (.sl 5 (e.map cEx)))])
     (fun i => ⟨5, [(4, .tok 70 1 i), (3, .cells [int x.op, int x.n, .sl 1 (x.binds.map cI), .gs 1 (kC (kidsL lts (x.kids.take i))) (.l 4), .lit (.slice none 0 0)]), (2, .cells (cEx x)), (1, .tok 70 1 j), (0, wO lts)], ov⟩)
     (fun m i => i ≤ x.kids.length ∧ m = x.kids.length - i) (a0 := 0) (ρ := fun k => if k = 3 then 4 else if k = 4 then 5 else k) ⟨by omega, rfl⟩ (LessR.of rfl (by (repeat' first | exact FrSub.nil | refine zfc ?_ | refine zfo ?_ | refine zfp ?_)) (by simp) ?_ rfl rfl hov) fun m i hi => ?_
   · repeat' first | exact LoSub.nil | refine zlc ?_ | refine zld ?_ ?_ | rfl
     all_goals (simp [AObj.ren, renL, AC.ren, kidsL]; exact ⟨rfl, rfl⟩)
   obtain ⟨hil, rfl⟩ := hi
   refine zA ?_
   refine ACode.cond rfl (fun hb3 => ?_) (fun hb3 => ?_)
   · have hlt2 : i < x.kids.length := by simpa using hb3
     obtain ⟨k, hk⟩ := get_of_lt hlt2
     have hkb := hxin k (List.mem_of_getElem? hk)
     obtain ⟨k', rfl⟩ : ∃ k' : Nat, k = k' := ⟨k.toNat, by omega⟩
     obtain ⟨tk, htk⟩ := get_of_lt (l := lts) (i := k') (by omega)
     have htd : (lts).getD (k' : Int).toNat default = tk := by rw [Int.toNat_natCast, List.getD_eq_getElem?_getD, htk]; rfl
     have hks := kidsL_succ (ts := lts) hk
     rw [htd] at hks
     have hkl : (kC (kidsL lts (x.kids.take i))).length = i := by simp [kC, kidsL]; omega
     refine zA ?_
     refine AOps.step1 rfl rfl rfl (AStep.indexAddr tabOk rfl rfl rfl rfl rfl rfl (.inl rfl) rfl (by omega) (map_get hk)) ?_
     refine zA ?_
     refine ACode.drawXH (va := .one (.gs 1 (kC (kidsL lts (x.kids.take i)) ++ [[AC.ptr (.o tk.id) 0]]) (.l 5))) (σ1 := ((St.mk 5 [(4, .tok 70 1 i), (3, .cells [int x.op, int x.n, .sl 1 (x.binds.map cI), .gs 1 (kC (kidsL lts (x.kids.take i))) (.l 4), .lit (.slice none 0 0)]), (2, .cells (cEx x)), (1, .tok 70 1 j), (0, wO lts)] ov).set (.l 4) .dead).push (.tok 70 1 (kC (kidsL lts (x.kids.take i)) ++ [[AC.ptr (.o tk.id) 0]]).length))
       tabOk 14 13 [(10, .one (.box [.ptr (.o tk.id) 0]))] follows (by kernel_rfl) rfl rfl rfl rfl rfl rfl rfl ?_ ?_ ?_ ?_
     · refine HStep.plain rfl (AStep.append (s := 1) (es := kC (kidsL lts (x.kids.take i))) (news := [[AC.ptr (.o tk.id) 0]]) (ti := ti71) (σ := ⟨5, [(4, .tok 70 1 i), (3, .cells [int x.op, int x.n, .sl 1 (x.binds.map cI), .gs 1 (kC (kidsL lts (x.kids.take i))) (.l 4), .lit (.slice none 0 0)]), (2, .cells (cEx x)), (1, .tok 70 1 j), (0, wO lts)], ov⟩) tabOk rfl rfl rfl rfl rfl rfl (Base.gs' _ 70 1 (kC (kidsL lts (x.kids.take i))) (.l 4) rfl hkl.symm) (.sl _ _) rfl ?_ ?_)
       · rw [hkl]; show (i + 1) * 8 ≤ _; omega
       · rw [hkl]; show i + 1 ≤ _; omega
     · exact .step rfl (HStep.plain rfl (AStep.indexAddr tabOk rfl rfl rfl rfl rfl rfl (.inr ⟨_, rfl⟩) rfl (by omega) (kC_get htk))) .nil
     · exact .step rfl (HStep.plain rfl (AStep.indexAddr tabOk rfl rfl rfl rfl rfl rfl (.inr ⟨_, rfl⟩) rfl (by omega) (kC_get htk))) .nil
     refine zM ?_
     refine cInv ⟨x.kids.length - (i + 1), i + 1, fun k => if k = 4 then 5 else k, by omega, ⟨by omega, rfl⟩, LessR.of rfl (by (repeat' first | exact FrSub.nil | refine zfc ?_ | refine zfo ?_ | refine zfp ?_)) (by simp) ?_ rfl rfl hov⟩
     repeat' first | exact LoSub.nil | refine zlc ?_ | refine zld ?_ ?_ | rfl
     · simp only [AObj.ren, List.length_append, hkl]; rfl
     · rw [hks, kC_snoc]; simp only [AObj.ren, renL, AC.ren]; rw [← kC_snoc, ren_kC]; simp; rfl
   have hlt2 : i = x.kids.length := by simp at hb3; omega
   subst hlt2
   rw [List.take_length]
   refine zA ?_
   refine ACode.grow 3 4 89 2 rfl rfl ?_
   refine ACode.loopR hΓ (α := Nat × List LAlt) (fun c => [(55, .one (int c.1)), (54, .one (int (x.alts.map cAlt).length)), (53, .one (.sl 2 (x.alts.map cAlt))), (6, .one (.ptr (.l 3) 0)), (3, .one (.ptr (.l 0) 0)), (15, .one (int j)), (14, .one (int (e.map cEx).length)), (13, .one (.sl 5 (e.map cEx))), (0, .one (.sl 5 (e.map cEx)))])
     (fun c => ⟨6, [(5, .tok 89 2 c.1), (3, .cells [int x.op, int x.n, .sl 1 (x.binds.map cI), .gs 1 (kC (kidsL lts x.kids)) (.l 4), .gs 2 (c.2.map lAlt) (.l 5)]), (1, .tok 70 1 j), (0, wO lts)], ov⟩)
     (fun m c => c.1 ≤ x.alts.length ∧ (c.2.map LAlt.er = x.alts.take c.1 ∧ ∀ y ∈ c.2, y.nb = none) ∧ m = x.alts.length - c.1) (a0 := (0, [])) (ρ := id) ⟨by omega, ⟨rfl, by simp⟩, rfl⟩ (LessR.of rfl (by (repeat' first | exact FrSub.nil | refine zfc ?_ | refine zfo ?_ | refine zfp ?_)) (by simp) ?_ rfl rfl hov) fun m c hc => ?_
   · repeat' first | exact LoSub.nil | refine zlc ?_ | refine zld ?_ ?_ | rfl
     all_goals (simp [AObj.ren, renL, AC.ren]; exact ⟨rfl, rfl⟩)
   obtain ⟨i, la⟩ := c
   obtain ⟨hil, ⟨hla, hlo⟩, rfl⟩ := hc
   dsimp only at hil hla hlo
   have hll : la.length = i := by have := congrArg List.length hla; simp at this; omega
   have hal : (la.map lAlt).length = i := by simp [hll]
   refine zA ?_
   refine ACode.cond rfl (fun hb3 => ?_) (fun hb3 => ?_)
   · have hlt2 : i < x.alts.length := by simpa using hb3
     obtain ⟨a, ha⟩ := get_of_lt hlt2
     have hab := hxo.ab a (List.mem_of_getElem? ha)
     refine zA ?_
     refine AOps.step1 rfl rfl rfl (AStep.indexAddr tabOk rfl rfl rfl rfl rfl rfl (.inl rfl) rfl (by omega) (map_get ha)) ?_
     refine zA ?_
     refine ACode.drawC tabOk 13 [9, 10, 11, 12] [] (fun vs σ => match vs with
         | [] => σ = ⟨7, [(6, .cells (cAlt a)), (6, .cells (ti89.zero.map .lit)), (5, .tok 89 2 i), (3, .cells [int x.op, int x.n, .sl 1 (x.binds.map cI), .gs 1 (kC (kidsL lts x.kids)) (.l 4), .gs 2 (la.map lAlt) (.l 5)]), (1, .tok 70 1 j), (0, wO lts)], ov⟩
         | [q1] => q1 = .one (bC none a.binds) ∧ σ = ⟨8, (7, .dead) :: [(6, .cells (cAlt a)), (6, .cells (ti89.zero.map .lit)), (5, .tok 89 2 i), (3, .cells [int x.op, int x.n, .sl 1 (x.binds.map cI), .gs 1 (kC (kidsL lts x.kids)) (.l 4), .gs 2 (la.map lAlt) (.l 5)]), (1, .tok 70 1 j), (0, wO lts)], ov⟩
         | [q1, q2] => q1 = .one (bC none a.binds) ∧ q2 = .agg [int a.tag, bC none a.binds] ∧ σ = ⟨8, (7, .dead) :: [(6, .cells (cAlt a)), (6, .cells (ti89.zero.map .lit)), (5, .tok 89 2 i), (3, .cells [int x.op, int x.n, .sl 1 (x.binds.map cI), .gs 1 (kC (kidsL lts x.kids)) (.l 4), .gs 2 (la.map lAlt) (.l 5)]), (1, .tok 70 1 j), (0, wO lts)], ov⟩
         | [q1, q2, q3] => q1 = .one (bC none a.binds) ∧ q2 = .agg [int a.tag, bC none a.binds] ∧ q3 = .one (.sl 2 [[int a.tag, bC none a.binds]]) ∧ σ = ⟨8, (7, .dead) :: [(6, .cells (cAlt a)), (6, .cells (ti89.zero.map .lit)), (5, .tok 89 2 i), (3, .cells [int x.op, int x.n, .sl 1 (x.binds.map cI), .gs 1 (kC (kidsL lts x.kids)) (.l 4), .gs 2 (la.map lAlt) (.l 5)]), (1, .tok 70 1 j), (0, wO lts)], ov⟩
         | [q1, q2, q3, q4] => q1 = .one (bC none a.binds) ∧ q2 = .agg [int a.tag, bC none a.binds] ∧ q3 = .one (.sl 2 [[int a.tag, bC none a.binds]]) ∧ q4 = .one (.gs 2 (la.map lAlt ++ [[int a.tag, bC none a.binds]]) (.l 8)) ∧ σ = ⟨9, [(8, .tok 89 2 (la.map lAlt ++ [[int a.tag, bC none a.binds]]).length), (5, .dead), (7, .dead), (6, .cells (cAlt a)), (6, .cells (ti89.zero.map .lit)), (5, .tok 89 2 i), (3, .cells [int x.op, int x.n, .sl 1 (x.binds.map cI), .gs 1 (kC (kidsL lts x.kids)) (.l 4), .gs 2 (la.map lAlt) (.l 5)]), (1, .tok 70 1 j), (0, wO lts)], ov⟩
         | _ => False) follows (by kernel_rfl) rfl rfl (by decide) (by kernel_rfl) (by kernel_rfl) rfl rfl ?_ (fun _ _ _ => .nil) (by decide) ?_ ?_
     · rintro vs σ hG
       match vs, hG with
       | [], hG => subst hG; rfl
       | [_], hG => obtain ⟨_, rfl⟩ := hG; rfl
       | [_, _], hG => obtain ⟨_, _, rfl⟩ := hG; rfl
       | [_, _, _], hG => obtain ⟨_, _, _, rfl⟩ := hG; rfl
       | [_, _, _, _], hG => obtain ⟨_, _, _, _, rfl⟩ := hG; rfl
     · rintro vs σ hG q o hp1 hp2
       match vs, hG with
       | [], hG =>
         subst hG
         cases hp1
         cases hp2
         refine ⟨rfl, rfl, .inr ⟨rfl, ?_⟩⟩
         intro F w C tmps hI hF next Q hk
         refine AStepR.appCopyS (news := a.binds.map cI) tabOk rfl rfl rfl rfl rfl rfl rfl (by simp; show _ * 8 ≤ _; omega) (by simp; omega) F w C tmps hI hF next Q fun u w' C' v σ' hq => hk u w' C' v σ' ?_
         obtain ⟨rfl, rfl⟩ := hq
         exact ⟨rfl, rfl⟩
       | [_], hG =>
         obtain ⟨rfl, rfl⟩ := hG
         cases hp1
         cases hp2
         exact ⟨rfl, rfl, .inl ⟨_, _, HStep.auto tabOk rfl, rfl, rfl, rfl⟩⟩
       | [_, _], hG =>
         obtain ⟨rfl, rfl, rfl⟩ := hG
         cases hp1
         cases hp2
         exact ⟨rfl, rfl, .inl ⟨_, _, HStep.auto tabOk rfl, rfl, rfl, rfl, rfl⟩⟩
       | [_, _, _], hG =>
         obtain ⟨rfl, rfl, rfl, rfl⟩ := hG
         cases hp1
         cases hp2
         refine ⟨rfl, rfl, .inl ⟨_, _, HStep.plain rfl (AStep.append (s := 2) (es := la.map lAlt) (news := [[int a.tag, bC none a.binds]]) (ti := ti51) tabOk rfl rfl rfl rfl rfl rfl (Base.gs' _ 89 2 (la.map lAlt) (.l 5) rfl hal.symm) (.sl _ _) rfl ?_ ?_), rfl, rfl, rfl, rfl, rfl⟩⟩
         · rw [hal]; show (i + 1) * 32 ≤ _; omega
         · rw [hal]; show i + 1 ≤ _; omega
       | [_, _, _, _], hG => cases hp1
     rintro vs σ hlen hG
     match vs, hlen, hG with
     | [_, _, _, _], _, hG =>
     obtain ⟨rfl, rfl, rfl, rfl, rfl⟩ := hG
     refine zM ?_
     obtain ⟨la', hla'⟩ : ∃ la', la' = la ++ [⟨a.tag, none, a.binds⟩] := ⟨_, rfl⟩
     have hlm : la.map lAlt ++ [[int a.tag, bC none a.binds]] = la'.map lAlt := by rw [hla', List.map_append]; rfl
     refine cInv ⟨x.alts.length - (i + 1), (i + 1, la'), fun k => if k = 5 then 8 else k, by omega, ⟨by omega, ⟨by rw [hla', List.map_append, hla, take_get ha]; rfl, ?_⟩, rfl⟩, LessR.of rfl (by (repeat' first | exact FrSub.nil | refine zfc ?_ | refine zfo ?_ | refine zfp ?_)) (by simp) ?_ rfl rfl hov⟩
     · intro y hy
       rw [hla'] at hy
       rcases List.mem_append.1 hy with hy | hy
       · exact hlo y hy
       · simp at hy; subst hy; rfl
     · repeat' first | exact LoSub.nil | refine zlc ?_ | refine zld ?_ ?_ | rfl
       · simp only [AObj.ren, List.length_append, hal]; rfl
       · simp only [hlm, AObj.ren, renL, AC.ren, ren_kC, ren_lAlts]; simp; exact ⟨rfl, rfl⟩
   have hlt2 : i = x.alts.length := by simp at hb3; omega
   subst hlt2
   rw [List.take_length] at hla
   repeat ((fail_if_success ((with_reducible refine oj ?_); refine AOps.atDst 75 rfl ?_)); first | refine zO ?_)
   refine AOps.wkObj (.l 3) rfl (cs' := [int x.op, int x.n, .sl 1 (x.binds.map cI), .sl 1 (kC (kidsL lts x.kids)), .sl 2 (la.map lAlt)]) (fun w C xs h => ?_) ?_
   · exact (show WkL _ _ from .cons (.refl _) (.cons (.refl _) (.cons (.refl _) (.cons (.gsE rfl) (.cons (.gsE rfl) .nil))))) w C xs h
   have hθ : ∀ (k : Nat) (i : Abs.Id), isO i → toOs [3] k i = i := fun k i hi => by cases i with | l q => exact hi.elim | o q => rfl
   have hnid : (AObj.cells [int x.op, int x.n, .sl 1 (x.binds.map cI), .sl 1 (kC (kidsL lts x.kids)), .sl 2 (la.map lAlt)]).ids isO := ids_node x.op x.n none x.binds (kidsL lts x.kids) la
   refine AOps.cedes [3] rfl (by decide) hov fun k hk => ⟨[(6, .one (.ptr (.o k) 0)), (3, .one (.ptr (.l 0) 0)), (15, .one (int j)), (14, .one (int (e.map cEx).length)), (13, .one (.sl 5 (e.map cEx))), (0, .one (.sl 5 (e.map cEx)))],
     [(1, .tok 70 1 j), (0, wO lts)], [.cells [int x.op, int x.n, .sl 1 (x.binds.map cI), .sl 1 (kC (kidsL lts x.kids)), .sl 2 (la.map lAlt)]], ?_, ?_, ?_, ?_⟩
   · exact .cons rfl rfl (.cons rfl rfl (.cons rfl rfl (.cons rfl rfl (.cons rfl (FV.sub_f (hθ k) _ (by simp)) (.cons rfl (FV.sub_f (hθ k) _ (by simp)) .nil)))))
   · refine .cons rfl rfl rfl (.cons rfl rfl ?_ .nil)
     simp only [wO, AObj.sub, subL, AC.sub]
     rw [subS_f (hθ k) _ (ids_kC_o _)]
     rfl
   · exact .cons rfl (AObj.sub_f (hθ k) _ hnid) .nil
   have hN1 := NewO.add hk hov hnid
   have hN2 := hN.trans hN1
   obtain ⟨t, ht⟩ : ∃ t : LTr, t = .mk k x.op x.n none x.binds (kidsL lts x.kids) la := ⟨_, rfl⟩
   have hto : lts.flatMap ownO ++ [(k, .cells [int x.op, int x.n, .sl 1 (x.binds.map cI), .sl 1 (kC (kidsL lts x.kids)), .sl 2 (la.map lAlt)])] = (lts ++ [t]).flatMap ownO := by
     rw [List.flatMap_append, ht]
     simp [ownO, bO, bC, plain_aO hlo]
   rw [hto] at hN2
   have hL2 := hL.snoc (kidsIn_pre (by rw [List.take_append_drop]; exact hin)) (x := x) (fun q hq => by have := hxin q hq; simp; omega) (id := k) (nb := none) hla rfl hlo
   rw [← take_get hx, show LTr.mk k x.op x.n none x.binds (x.kids.map fun q => lts.getD q.toNat default) la = t by rw [ht]; rfl] at hL2
   refine zA ?_
   refine AOps.app tabOk rfl rfl rfl rfl rfl rfl rfl rfl rfl (Base.gs' _ 70 1 _ _ rfl hkcl.symm) (.sl _ _) rfl ?_ ?_ ?_
   · rw [hkcl]; show (j + 1) * 8 ≤ _; omega
   · rw [hkcl]; show j + 1 ≤ _; omega
   refine zM ?_
   have hsk : kC lts ++ [[AC.ptr (.o k) 0]] = kC (lts ++ [t]) := by rw [kC_app, ht]; rfl
   refine cInv ⟨e.length - (j + 1), (j + 1, lts ++ [t], _), fun q => if q = 1 then 6 else q, by omega, ⟨by omega, ⟨hL2, hN2⟩, rfl⟩, LessR.of rfl (by (repeat' first | exact FrSub.nil | refine zfc ?_ | refine zfo ?_ | refine zfp ?_)) (by simp) ?_ rfl rfl hN2.ok⟩
   repeat' first | exact LoSub.nil | refine zlc ?_ | refine zld ?_ ?_ | rfl
   · simp only [AObj.ren, List.length_append, hkcl]; rfl
   · show _ = AObj.ren _ (.cells [.gs 1 (kC (lts ++ [t])) (.l 1), .lit (.pointer none)])
     simp only [AObj.ren, renL, AC.ren, ren_kC]
     rw [hsk]; rfl
 · have hlt : j = e.length := by simp at hb2; omega
   subst hlt
   rw [List.take_length] at hL
   obtain ⟨N, hNe⟩ : ∃ N, e.length = N + 1 := ⟨e.length - 1, by have := List.length_pos_iff.2 hne; omega⟩
   obtain ⟨t, ht⟩ := get_of_lt (l := lts) (i := N) (by rw [hL.len]; omega)
   have hnt : e.length - 1 = N := by omega
   refine zM ?_
   refine AOps.wk 93 rfl (y := .one (int (N : Nat))) (.ofEq (by congr 3; simp; omega)) ?_
   refine AOps.step1 rfl rfl rfl (AStep.indexAddr tabOk rfl rfl rfl rfl rfl rfl (.inr ⟨_, rfl⟩) rfl (by omega) (kC_get ht)) ?_
   repeat ((fail_if_success ((with_reducible refine oj ?_); refine AOps.atDst 98 rfl ?_)); first | refine zO ?_)
   refine AOps.wkObj (.l 0) rfl (cs' := [.sl 1 (kC lts), .ptr (.o t.id) 0]) (fun w C xs h => ?_) ?_
   · exact (show WkL _ _ from .cons (.gsE rfl) (.cons (.refl _) .nil)) w C xs h
   refine AOps.freeze1 (.l 0) 3 rfl rfl ?_
   refine zA ?_
   exact AFn.fin' rfl (WkF.ofEq rfl) (by simp) hov ⟨lts, t, rfl, hL, by rw [hnt]; exact ht, hN⟩
end Go.Proofs.YtgdionbeeodaaaaDoor
namespace Go.CoreX
theorem word_range {e : List Ex} {x : Ex} (h : nodeErrF false e x = 0) (h1 : x.op = 1) : -1073741824 ≤ x.n ∧ x.n ≤ 1073741823 := by
 unfold nodeErrF at h
 split at h
 · cases h
 · unfold nodeErr at h
   split at h
   · cases h
   · split at h
     · rename_i hr; exact absurd h hr
     · rename_i hr
       have hr' : ranges x = 0 := by simpa using hr
       unfold ranges at hr'
       repeat' split at hr'
       all_goals first
         | (cases hr'; done)
         | skip
       all_goals
         rename_i hf _
         simp [between, lowN, highN, h1] at *
         try omega
theorem check_words {e : List Ex} (h : check e = 0) : allT (fun l => l.op = 1 → -1073741824 ≤ l.n ∧ l.n ≤ 1073741823) (grow e) := by
 obtain ⟨_, p2, _, _⟩ := check_parts h
 exact allT_grow (body_isTree h) fun x hx h1 => word_range (p2 x hx) h1
theorem pOk_growLR {e : List Ex} (hk : kidsIn e) (hp : ∀ x ∈ e, pOk (labE e x)) (p : Nat) {X : Tr} (hX : allT pOk X) : ∀ (n j : Nat), j < n → j < e.length → allT pOk ((growLR e p X).getD j default)
 | 0, j, hj, _ => by omega
 | n + 1, j, hj, hl => by
   obtain ⟨x, hx⟩ : ∃ x, e[j]? = some x := ⟨e[j], List.getElem?_eq_getElem hl⟩
   rw [growLR_node hk p X hx]
   split
   · exact hX
   · have h := hp x (List.mem_of_getElem? hx)
     refine ⟨⟨h.b, ?_, h.a, h.ab, h.s⟩, allTs_iff.2 fun t ht => ?_⟩
     · have := h.k
       simp only [labE, List.length_map] at this ⊢
       exact this
     · obtain ⟨q, hq, rfl⟩ := List.mem_map.1 ht
       have := hk j x hx q hq
       exact pOk_growLR hk hp p hX n q.toNat (by omega) (by omega)
theorem cnt_at {e : List Ex} (h : check e = 0) {k : Nat} (hk : k < e.length) : cntN (treeAt e k) ≤ 4096 := by
 have t1 := body_isTree h
 obtain ⟨p1, _⟩ := check_parts h
 obtain ⟨q1, _, _⟩ := (treeErr_iff e).1 p1
 have h1 := len_sub t1 hk
 have h2 := cntN_list (treeAt e k) []
 simp only [List.length_nil] at h2
 omega
end Go.CoreX
namespace Go.Proofs.YtgdionbeeodaaaaDoor
open Go Go.Abs Go.CoreX
theorem LinkL.plain {e : List Ex} {lts : List LTr} (h : LinkL e lts plainB) (hk : kidsIn e) : ∀ (n i : Nat) (t : LTr), i < n → lts[i]? = some t → plainL t
 | 0, i, t, hi, _ => by omega
 | n + 1, i, t, hi, ht => by
   have hil : i < e.length := by rw [← h.len]; exact (List.getElem?_eq_some_iff.1 ht).1
   obtain ⟨x, hx⟩ := get_of_lt hil
   obtain ⟨id, nb, a, h1, h2, h3, h4⟩ := h.at_ i x hx
   rw [ht] at h1
   cases h1
   refine ⟨h3, h4, plainLs_iff.2 fun s hs => ?_⟩
   obtain ⟨q, hq, rfl⟩ := List.mem_map.1 hs
   have hq' := hk i x hx q hq
   obtain ⟨t', ht'⟩ := get_of_lt (l := lts) (i := q.toNat) (by rw [h.len]; omega)
   rw [h.getD ht']
   exact h.plain hk n q.toNat t' (by omega) ht'
theorem objss_count_le (k : Nat) {s : LTr} : ∀ {l : List LTr}, s ∈ l → (keys (objs s)).count k ≤ (keys (objss l)).count k
 | [], h => by cases h
 | t :: l, h => by
   simp only [objss, keys_app, List.count_append]
   rcases List.mem_cons.1 h with rfl | h
   · omega
   · have := objss_count_le k h; omega
theorem sub_count (k : Nat) {t0 t : LTr} (h : SubL t0 t) : (keys (objs t0)).count k ≤ (keys (objs t)).count k := by
 induction h with
 | here => exact Nat.le_refl _
 | @kid t s hs _ ih =>
   have h1 := objs_count k t
   have h2 := objss_count_le k hs
   omega
theorem sub_nodup {t0 t : LTr} (h : SubL t0 t) (hn : (keys (objs t)).Nodup) : (keys (objs t0)).Nodup := by
 rw [List.nodup_iff_count] at hn ⊢
 exact fun k => Nat.le_trans (sub_count k h) (hn k)
theorem own_id : ∀ t : LTr, t.id ∈ keys (ownO t)
 | .mk i o n nb b k a => by simp [ownO, keys, LTr.id]
theorem ids_inj : ∀ {lts : List LTr}, (keys (lts.flatMap ownO)).Nodup → ∀ (i j : Nat) (ti tj : LTr), lts[i]? = some ti → lts[j]? = some tj → ti.id = tj.id → i = j
 | [], _, i, j, ti, tj, h, _, _ => by simp at h
 | t :: l, hn, i, j, ti, tj, hi, hj, he => by
   rw [List.flatMap_cons, keys_app, List.nodup_append] at hn
   have hmem : ∀ (q : Nat) (s : LTr), l[q]? = some s → s.id ∈ keys (l.flatMap ownO) := fun q s hs => by
     obtain ⟨o, ho⟩ := of_keys (own_id s)
     exact mem_keys (List.mem_flatMap.2 ⟨s, List.mem_of_getElem? hs, ho⟩)
   cases i with
   | zero =>
     simp at hi; subst hi
     cases j with
     | zero => rfl
     | succ j => exact absurd he (hn.2.2 _ (own_id _) _ (hmem j tj (by simpa using hj)))
   | succ i =>
     cases j with
     | zero =>
       simp at hj; subst hj
       exact absurd he.symm (hn.2.2 _ (own_id _) _ (hmem i ti (by simpa using hi)))
     | succ j => rw [ids_inj hn.2.1 i j ti tj (by simpa using hi) (by simpa using hj) he]
variable {Γ : List (Nat × List AC)}
structure NameOk (e : List Ex) (rule n : Int) (at' : Nat) : Prop where
 n : rule = 10 → ∀ (ou : Outer) (lts : List LTr) (root t : LTr), LinkL e lts plainB → lts[e.length - 1]? = some root → lts[at']? = some t → Owns ou (lts.flatMap ownO) → (keys (objs t)).Nodup → AFn Tryd.prog Γc 85 [.one (.box [.sl 1 (kC lts), .ptr (.o root.id) 0]), .one (.ptr (.o t.id) 0), .one (int n)] ou (ResW ou t (namedT (grow e) (erT t) n))
 u : rule = 12 → ∀ (ou : Outer) (lts : List LTr) (root t : LTr), LinkL e lts plainB → lts[e.length - 1]? = some root → lts[at']? = some t → Owns ou (lts.flatMap ownO) → (erT t).op = 0 → AFn Tryd.prog Γc 86 [.one (.box [.sl 1 (kC lts), .ptr (.o root.id) 0]), .one (.ptr (.o t.id) 0)] ou (ResW ou t (unfoldT (growL e) (grow e) (erT t)))
theorem NameOk.no {e : List Ex} {rule n : Int} {at' : Nat} (h1 : rule ≠ 10) (h2 : rule ≠ 12) : NameOk e rule n at' := ⟨fun h => absurd h h1, fun h => absurd h h2⟩
set_option maxHeartbeats 1000000 in
theorem Apply_ok (e : List Ex) (he : okB e) (rule at' n : Int) (hno : check e = 0 → 0 ≤ at' → at' < (e.length : Int) → NameOk e rule n at'.toNat) : APure Tryd.prog Γc 16 [.one (.sl 5 (e.map cEx)), .agg [int rule, int at', int n]] (.tup [.one (.sl 5 ((applyE e rule at' n).1.map cEx)), .one (int (applyE e rule at' n).2)]) := by
 have c1 := Check_ok e he
 have hel := he.eo.l
 intro ou
 refine AFn.forget ?_
 refine AFn.walk 64 tabOk Tryd.func16 rfl (by kernel_rfl) rfl rfl fun hou => ?_
 refine zA ?_
 refine zca hΓc c1 hou ?_
 refine zA ?_
 refine ACode.cond rfl (fun hb => ?_) (fun hb => ?_)
 · have h : check e ≠ 0 := by simpa using hb
   refine zA ?_
   refine AFn.fin' rfl (.trans (WkF.tup (.cons (.one (.nilS 5)) (.cons (.refl _) .nil))) (.ofEq ?_)) (by simp) hou ⟨ou, fun _ _ h => h, rfl, rfl⟩
   unfold applyE
   rw [if_pos h]; rfl
 have h : check e = 0 := by simpa using hb
 have t1 := body_isTree h
 refine zA ?_
 refine AOps.splitS rfl rfl rfl rfl (fun hb1 => ?_) (fun hb1 => ?_)
 · have h1 : rule < 1 := by simpa using hb1
   refine zA ?_
   refine AFn.fin' rfl (.trans (WkF.tup (.cons (.one (.nilS 5)) (.cons (.refl _) .nil))) (.ofEq ?_)) (by simp) hou ⟨ou, fun _ _ h => h, rfl, rfl⟩
   unfold applyE
   rw [if_neg (by simpa using h), if_pos (.inl h1)]; rfl
 have h1 : ¬ rule < 1 := by simpa using hb1
 refine zA ?_
 refine ACode.cond rfl (fun hb2 => ?_) (fun hb2 => ?_)
 · have h2 : 12 < rule := by simpa using hb2
   refine zA ?_
   refine AFn.fin' rfl (.trans (WkF.tup (.cons (.one (.nilS 5)) (.cons (.refl _) .nil))) (.ofEq ?_)) (by simp) hou ⟨ou, fun _ _ h => h, rfl, rfl⟩
   unfold applyE
   rw [if_neg (by simpa using h), if_pos (.inr h2)]; rfl
 have h2 : ¬ 12 < rule := by simpa using hb2
 refine zA ?_
 refine AOps.splitS rfl rfl rfl rfl (fun hb3 => ?_) (fun hb3 => ?_)
 · have h3 : at' < 0 := by simpa using hb3
   refine zA ?_
   refine AFn.fin' rfl (.trans (WkF.tup (.cons (.one (.nilS 5)) (.cons (.refl _) .nil))) (.ofEq ?_)) (by simp) hou ⟨ou, fun _ _ h => h, rfl, rfl⟩
   unfold applyE
   rw [if_neg (by simpa using h), if_neg (by omega), if_pos (.inl h3)]; rfl
 have h3 : ¬ at' < 0 := by simpa using hb3
 refine zA ?_
 refine ACode.cond rfl (fun hb4 => ?_) (fun hb4 => ?_)
 · have h4 : (e.length : Int) ≤ at' := by simpa using hb4
   refine zA ?_
   refine AFn.fin' rfl (.trans (WkF.tup (.cons (.one (.nilS 5)) (.cons (.refl _) .nil))) (.ofEq ?_)) (by simp) hou ⟨ou, fun _ _ h => h, rfl, rfl⟩
   unfold applyE
   rw [if_neg (by simpa using h), if_neg (by omega), if_pos (.inr h4)]; rfl
 have h4 : ¬ (e.length : Int) ≤ at' := by simpa using hb4
 have hap : applyE e rule at' n = match resT (growL e) (grow e) rule n (treeAt e at'.toNat) with
   | none => ([], 12)
   | some x => if check (listT [] (growR e at'.toNat x)) ≠ 0 then ([], 2) else (listT [] (growR e at'.toNat x), 0) := by
   conv => lhs; unfold applyE
   rw [if_neg (by simpa using h), if_neg (by omega), if_neg (by omega)]
   cases resT (growL e) (grow e) rule n (treeAt e at'.toNat) <;> rfl
 have hno := hno h (by omega) (by omega)
 obtain ⟨p, rfl⟩ : ∃ p : Nat, at' = p := ⟨at'.toNat, by omega⟩
 rw [Int.toNat_natCast] at hap hno
 have hp : p < e.length := by omega
 obtain ⟨x, hx⟩ := get_of_lt hp
 refine zA ?_
 refine AOps.call1 hΓc rfl rfl rfl rfl rfl rfl rfl (by simp) hou (open_ok hΓc e he.eo t1.k t1.ne ou) fun r ov hq hids hov => ?_
 obtain ⟨lts, root, rfl, hL, hr, hN⟩ := hq
 obtain ⟨id, nb, a, ht0, ha, hnb, hab⟩ := hL.at_ p x hx
 obtain rfl : nb = none := hnb
 obtain ⟨ks, hks⟩ : ∃ ks, ks = x.kids.map fun q => lts.getD q.toNat default := ⟨_, rfl⟩
 rw [← hks] at ht0
 obtain ⟨t, hte⟩ : ∃ t, t = LTr.mk id x.op x.n none x.binds ks a := ⟨_, rfl⟩
 have ht : lts[p]? = some t := by rw [hte]; exact ht0
 have hpl := hL.plain t1.k _ p t (Nat.lt_succ_self _) ht
 have her : erT t = treeAt e p := hL.er t1.k _ p t (Nat.lt_succ_self _) ht
 have hrer : erT root = grow e := by
   have := hL.er t1.k _ _ root (Nat.lt_succ_self _) hr
   rw [this]; rfl
 have hok : okT (erT t) := by rw [her]; exact treeAt_ok he t1 hp
 have hsh : allT shpL (erT t) := by rw [her]; exact allT_treeAt t1 (check_shp h) hp
 have hwd : allT (fun l => l.op = 1 → -1073741824 ≤ l.n ∧ l.n ≤ 1073741823) (erT t) := by rw [her]; exact allT_treeAt t1 (check_words h) hp
 have hct : cntN (erT t) ≤ 4096 := by rw [her]; exact cnt_at h hp
 have hcr : cntN (erT root) ≤ 4096 := by
   rw [hrer]; exact cnt_at h (k := e.length - 1) (by have := List.length_pos_iff.2 t1.ne; omega)
 have hOw : ∀ (q : Nat) (s : LTr), lts[q]? = some s → Owns ov (objs s) := fun q s hs o ho => hN.own o (hL.own t1.k _ q s (Nat.lt_succ_self _) hs o ho)
 have hrn : (keys (objs root)).Nodup := hL.nodup t1 hN.nd hr
 have hsub := hL.sub t1 hr p t ht
 have htn := sub_nodup hsub hrn
 have hinj := ids_inj hN.nd
 have hres := result_ok (Γ := Γc) hΓc [.sl 1 (kC lts), .ptr (.o root.id) 0] (by simp) (growL e) (grow e) rule p n id x.op x.n x.binds ks a (by rw [← hte]; exact hpl) (by rw [← hte]; exact hok) (by rw [← hte]; exact hsh) (by rw [← hte]; omega)
   (fun s hs h1 => by
     have h2 := allT_kid hwd (er_kid (t := t) (s := s) (by rw [hte]; exact hs))
     cases hse : erT s with
     | mk o' n' b' k' a' =>
       rw [hse] at h2 h1
       exact h2.1 h1)
   ov (by rw [← hte]; exact hOw p t ht) (by rw [← hte]; exact htn)
   (fun h10 => by rw [← hte]; have := hno.n h10 ov lts root t hL hr ht hN.own htn; rwa [hte] at this ⊢) (fun h12 h0 => by rw [← hte]; have := hno.u h12 ov lts root t hL hr ht hN.own (by rw [hte]; exact h0); rwa [hte] at this ⊢)
 rw [← hte, her] at hres
 have hti : t.id = id := by rw [hte]; rfl
 obtain ⟨X, hX⟩ : ∃ X, X = resT (growL e) (grow e) rule n (treeAt e p) := ⟨_, rfl⟩
 rw [← hX] at hres hap
 refine zA ?_
 refine ACode.drawX tabOk 8 [(6, .one (.box [.ptr (.o id) 0]))] follows (by kernel_rfl) rfl rfl rfl rfl ?_ ?_
 · exact .step rfl (HStep.plain rfl (AStep.indexAddr tabOk rfl rfl rfl rfl rfl rfl (.inl rfl) rfl (by omega) (by rw [← hti]; exact kC_get ht))) .nil
 refine zA ?_
 refine AOps.call1 hΓc rfl rfl rfl rfl rfl rfl rfl (by simp [idsF]) hov hres fun r ow hq hids how => ?_
 cases X with
 | none =>
   obtain ⟨rfl, _, hfr⟩ := hq
   refine zA ?_
   refine AOps.step1 rfl rfl rfl (AStep.eqNil0 Tryd.underlying70 rfl rfl rfl) ?_
   refine zA ?_
   exact AFn.fin' rfl (.trans (WkF.tup (.cons (.one (.nilS 5)) (.cons (.refl _) .nil))) (.ofEq (by rw [hap]; rfl))) (by simp) how ⟨ou, fun m o hm => hfr m o (hN.oldS hm), rfl, rfl⟩
 | some X =>
   obtain ⟨u, rfl, heu, huo, htu, _, hfr, huk⟩ := hq
   have hpX : allT pOk X := res_pOk (nodes := growL e) (root := grow e) (t := treeAt e p) (by rw [← her]; exact okT_pOk _ hok) (fun s hs => by
     obtain ⟨q, hq1, hq2⟩ := List.getElem_of_mem hs
     rw [growL_len] at hq1
     have : treeAt e q = s := by unfold treeAt; rw [List.getD_eq_getElem?_getD, List.getElem?_eq_getElem (by rw [growL_len]; exact hq1), hq2]; rfl
     rw [← this]; exact okT_pOk _ (treeAt_ok he t1 hq1)) hX.symm
   have hcX : cntN X ≤ 4 * 4096 + 4 := res_cnt (nodes := growL e) (root := grow e) (t := treeAt e p) (by rw [← her]; exact hsh) (cnt_at h hp) (fun s hs => by
     obtain ⟨q, hq1, hq2⟩ := List.getElem_of_mem hs
     rw [growL_len] at hq1
     have : treeAt e q = s := by unfold treeAt; rw [List.getD_eq_getElem?_getD, List.getElem?_eq_getElem (by rw [growL_len]; exact hq1), hq2]; rfl
     rw [← this]; exact cnt_at h hq1) hX.symm
   have htO := hOw p t ht
   have htg : ow t.id = some (.cells (lC t)) := hfr _ _ (owns_node htO) (self_tail htn)
   have hug := owns_node huo
   have htut : t.id ∉ keys (tailO u) := fun hm => htu (by rw [objs_tail]; exact List.mem_cons_of_mem _ hm)
   have huo' : Owns (setO ow t.id (.cells (lC u))) (objs (withId t.id u)) := withId_own (own_tail huo) htut
   have hro : Owns (setO ow t.id (.cells (lC u))) (objs (putL t.id (withId t.id u) root)) := fun q hq => by
     rcases put_own hsub hrn (withId_id t.id u) q hq with h5 | ⟨h5, h6⟩
     · exact huo' q h5
     · have hqt : q.1 ≠ t.id := fun e1 => h6 (e1 ▸ id_mem t)
       rw [setO_ne hqt]
       exact hfr _ _ (hOw _ root hr q h5) (fun hm => h6 (by rw [objs_tail]; exact List.mem_cons_of_mem _ hm))
   have hrid : (putL t.id (withId t.id u) root).id = root.id := putL_id (withId_id t.id u) root
   have hrer' : erT (putL t.id (withId t.id u) root) = growR e p X := by
     rw [hL.put_er t1.k hinj ht (withId t.id u) _ _ root (Nat.lt_succ_self _) hr, withId_er, heu]; rfl
   have hcnt : cntN (growR e p X) ≤ 1048576 := by
     have h5 := put_cnt (u := withId t.id u) hsub hrn
     rw [hrer', withId_er, heu] at h5
     omega
   have hpk : allT pOk (growR e p X) := pOk_growLR t1.k (fun y hy => okB_labs he _ (List.mem_map_of_mem (f := labE e) hy)) p hpX _ _ (Nat.lt_succ_self _) (by have := List.length_pos_iff.2 t1.ne; omega)
   have how3 : OuOk (setO ow t.id (.cells (lC u))) := setO_ok how (lC_ids u)
   have hhap : applyE e rule p n = if check (listT [] (growR e p X)) ≠ 0 then ([], 2) else (listT [] (growR e p X), 0) := hap
   have hfin : ∀ m o, ou m = some o → m ∉ keys (objs (putL t.id (withId t.id u) root)) ∧ setO ow t.id (.cells (lC u)) m = some o := fun m o hm => by
     have hmN : m ∉ keys (lts.flatMap ownO) := fun hk => by have := hN.new m hk; rw [hm] at this; cases this
     have hmt : m ∉ keys (objs t) := fun hk => by
       obtain ⟨o', ho'⟩ := of_keys hk
       exact hmN (mem_keys (hL.own t1.k _ p t (Nat.lt_succ_self _) ht _ ho'))
     have hw : ow m = some o := hfr _ _ (hN.oldS hm) (fun hk => hmt (by rw [objs_tail]; exact List.mem_cons_of_mem _ hk))
     have hmt2 : m ≠ t.id := fun e1 => hmt (e1 ▸ id_mem t)
     refine ⟨fun hk => ?_, by rw [setO_ne hmt2]; exact hw⟩
     obtain ⟨o', ho'⟩ := of_keys hk
     rcases put_own hsub hrn (withId_id t.id u) _ ho' with h5 | ⟨h5, _⟩
     · rw [objs_tail, withId_id, withId_tail] at h5
       rcases List.mem_cons.1 h5 with h5 | h5
       · exact hmt2 (by injection h5)
       · rcases huk m (by rw [objs_tail]; exact List.mem_cons_of_mem _ (mem_keys h5)) with h6 | h6
         · exact hmt (by rw [objs_tail]; exact List.mem_cons_of_mem _ h6)
         · rw [hN.oldS hm] at h6; cases h6
     · exact hmN (mem_keys (hL.own t1.k _ _ root (Nat.lt_succ_self _) hr _ h5))
   generalize hR : putL t.id (withId t.id u) root = R at hro hrid hrer' hfin
   cases u with
   | mk ku ou' nu nbu bu ksu au =>
   simp only [lC] at hug
   refine zA ?_
   refine AOps.step1 rfl rfl rfl (AStep.eqNil Tryd.underlying70 rfl rfl rfl) ?_
   refine zA ?_
   refine AOps.step1 rfl rfl rfl (AStep.loadOwnA tabOk rfl rfl rfl rfl rfl hug) ?_
   refine zA ?_
   rw [hti] at htg how3 hro hfin
   refine AOps.storeOwnA tabOk rfl rfl rfl rfl rfl (by simp [lC_len]) rfl rfl htg ?_
   repeat ((fail_if_success ((with_reducible refine oj ?_); refine AOps.atDst 59 rfl ?_)); first | refine zO ?_)
   rw [← hrid]
   refine AOps.freezeU (t := R) 58 hro rfl ?_
   rw [hrer']
   have hokd : OuOk (deadL (setO ow id (.cells (lC (.mk ku ou' nu nbu bu ksu au)))) (keys (objs R))) := fun m o hm => by
     unfold deadL at hm
     split at hm
     · cases hm; trivial
     · exact how3 m o hm
   have hfind : ∀ m o, ou m = some o → deadL (setO ow id (.cells (lC (.mk ku ou' nu nbu bu ksu au)))) (keys (objs R)) m = some o := fun m o hm => by
     unfold deadL
     rw [if_neg (hfin m o hm).1]
     exact (hfin m o hm).2
   have hgl : (listT [] (growR e p X)).length ≤ 1048576 := by have := cntN_list (growR e p X) []; simp at this; omega
   have hli := List_ok (Γ := Γc) hΓc (growR e p X) (pOk_okT _ hpk) hgl
   have hck := Check_ok _ (okB_list hpk hcnt)
   refine zca hΓc hli hokd ?_
   refine zA ?_
   refine zca hΓc hck hokd ?_
   refine zA ?_
   refine ACode.cond rfl (fun hbc => ?_) (fun hbc => ?_)
   · have hc : check (listT [] (growR e p X)) ≠ 0 := by simpa using hbc
     refine zA ?_
     exact AFn.fin' rfl (.trans (WkF.tup (.cons (.one (.nilS 5)) (.cons (.refl _) .nil))) (.ofEq (by rw [hhap, if_pos hc]; rfl))) (by simp) hokd ⟨ou, hfind, rfl, rfl⟩
   · have hc : ¬ check (listT [] (growR e p X)) ≠ 0 := by simpa using hbc
     refine zA ?_
     exact AFn.fin' rfl (.ofEq (by rw [hhap, if_neg hc])) (by simp) hokd ⟨ou, hfind, rfl, rfl⟩
def factRT : Tr := .mk 4 0 [1] [.mk 1 2 [] [] [], .mk 0 1 [] [] []] []
theorem okT_factR : okT factRT := by simp [factRT, okT, okTs]
theorem okB_factR : okB factR := okB_list (T := factRT) (okT_pOk _ okT_factR) (by simp [factRT, cntN, cntNs])
theorem okB_word (n : Int) : okB (listT [] (wordT n)) := okB_list (T := wordT n) (okT_pOk _ (by simp [wordT, okT, okTs])) (by simp [wordT, cntN, cntNs])
theorem WordList_ok (n : Int) : APure Tryd.prog Γc 39 [.one (.box (cNd (wordT n)))] (.one (.sl 5 ((listT [] (wordT n)).map cEx))) := NodeList_ok hΓc (wordT n) (by simp [wordT, okT, okTs]) (by have := cntN_list (wordT n) []; simp [wordT, cntN, cntNs] at this ⊢; omega)
theorem FactList_ok : APure Tryd.prog Γc 39 [.one (.box (cNd factRT))] (.one (.sl 5 (factR.map cEx))) := NodeList_ok hΓc factRT okT_factR (by have := cntN_list factRT []; simp [factRT, cntN, cntNs] at this ⊢; omega)
theorem Apply_some (e : List Ex) (he : okB e) (rule at' n : Int) (h1 : rule ≠ 10) (h2 : rule ≠ 12) : APure Tryd.prog Γc 16 [.one (.sl 5 (e.map cEx)), .agg [int rule, int at', int n]] (.tup [.one (.sl 5 ((applyE e rule at' n).1.map cEx)), .one (int (applyE e rule at' n).2)]) := Apply_ok e he rule at' n fun _ _ _ => NameOk.no h1 h2
theorem rewriteFact_ok : APure Tryd.prog Γc 14 [] (.one (.lit (.bool true))) := by
 have h1 := Apply_some factR okB_factR 2 2 0 (by decide) (by decide)
 rw [rewrite_fact] at h1
 intro ou
 refine AFn.walk 22 tabOk Tryd.func14 rfl (by kernel_rfl) rfl rfl fun hou => ?_
 refine zA ?_
 refine zca hΓc (W_ok hΓc 2) hou ?_
 refine zca hΓc (V_ok hΓc 1) hou ?_
 refine zA ?_
 refine zca hΓc (B_ok (Γ := Γc) 4 [1] [wordT 2, .mk 0 1 [] [] []]) hou ?_
 refine zca hΓc FactList_ok hou ?_
 refine zA ?_
 refine AOps.callC hΓc h1 rfl rfl rfl rfl rfl rfl rfl hou (by simp [idsF]) ?_
 refine zM ?_
 refine zca hΓc (W_ok hΓc 2) hou ?_
 refine zM ?_
 refine zca hΓc (WordList_ok 2) hou ?_
 refine zM ?_
 refine zca hΓc (SameListR_ok hΓc (listT [] (wordT 2)) (okB_word 2).eo) hou ?_
 refine zA ?_
 exact APure.fin rfl (WkF.ofEq rfl) (by simp) hou rfl
def ManyQ (e : List Ex) (ou : Outer) (r : FV) (ou' : Outer) : Prop := ∃ (k ck : Nat) (l : List (Nat × Int × Int)) (f : Nm), r = .one (.mp (.o k)) ∧ ou' k = some (.map ck (encI eN l)) ∧ IMOk f ck l ∧ (∀ q, (f q).getD 0 = (manyE e q : Nat)) ∧ OuOk ou' ∧ ∀ j o, ou j = some o → ou' j = some o
def CanQ (x : Bool) (ou : Outer) (r : FV) (ou' : Outer) : Prop := r = .one (.lit (.bool x)) ∧ OuOk ou' ∧ ∀ j o, ou j = some o → ou' j = some o
end Go.Proofs.YtgdionbeeodaaaaDoor
namespace Go.CoreX
def nextF (e : List Ex) (r : Int) : Option (Int × Nat) := ((growL e).zipIdx.find? fun p => canT r p.1 (manyE e)).map fun p => (r, p.2)
def nextR (e : List Ex) : Int × Int × Bool × Int := if check e ≠ 0 then (0, 0, false, check e) else match nextE e with
 | none => (0, 0, false, 0)
 | some (r, i) => (r, i, true, 0)
end Go.CoreX
namespace Go.Proofs.YtgdionbeeodaaaaDoor
open Go Go.Abs Go.CoreX
def Γo : List (Nat × List AC) := [(0, orC), (1, arC)]
theorem hΓo : ∀ g cs, (g, cs) ∈ Γo → idsL isO cs := by
 intro g cs h
 simp only [Γo, List.mem_cons, List.not_mem_nil, or_false, Prod.mk.injEq] at h
 rcases h with ⟨_, rfl⟩ | ⟨_, rfl⟩
 · simp [orC]
 · exact hΓc 1 arC (by simp [Γc])
theorem hco : ∀ g cs, (g, cs) ∈ Γc → (g, cs) ∈ Γo := by
 intro g cs h
 simp only [Γc, List.mem_cons, List.not_mem_nil, or_false, Prod.mk.injEq] at h
 obtain ⟨rfl, rfl⟩ := h
 simp [Γo]
theorem APure.o {g : Nat} {args : List FV} {r : FV} (h : APure Tryd.prog Γc g args r) : APure Tryd.prog Γo g args r := h.moreG hco hΓo
def cS (s : Step3) : List AC := [int s.1, int s.2.1, int s.2.2]
theorem ids_cS (p : Abs.Id → Prop) (l : List Step3) : idsS p (l.map cS) := idsS_map (f := cS) (fun s => by simp [cS]) l
@[simp] theorem ids_cS_l (k : Nat) (l : List Step3) : idsS (inL k) (l.map cS) := ids_cS _ l
@[simp] theorem ids_cS_o (l : List Step3) : idsS isO (l.map cS) := ids_cS _ l
theorem apply_okB {e : List Ex} (he : okB e) {r p n : Int} (h : (applyE e r p n).2 = 0) : okB (applyE e r p n).1 := by
 obtain ⟨hc, _, ⟨hp0, hp1⟩, X, hX, hck, hE⟩ := applyE_res h
 have t1 := body_isTree hc
 rw [hE]
 have hpX : allT pOk X := res_pOk (nodes := growL e) (root := grow e) (t := treeAt e p.toNat) (okT_pOk _ (treeAt_ok he t1 (by omega))) (fun s hs => by
   obtain ⟨q, hq1, hq2⟩ := List.getElem_of_mem hs
   rw [growL_len] at hq1
   have : treeAt e q = s := by unfold treeAt; rw [List.getD_eq_getElem?_getD, List.getElem?_eq_getElem (by rw [growL_len]; exact hq1), hq2]; rfl
   rw [← this]; exact okT_pOk _ (treeAt_ok he t1 hq1)) hX
 refine okB_list (pOk_growLR t1.k (fun y hy => okB_labs he _ (List.mem_map_of_mem (f := labE e) hy)) p.toNat hpX _ _ (Nat.lt_succ_self _) (by have := List.length_pos_iff.2 t1.ne; omega)) ?_
 obtain ⟨p1, _⟩ := check_parts hck
 obtain ⟨q1, _, _⟩ := (treeErr_iff _).1 p1
 have h2 := cntN_list (growR e p.toNat X) []
 simp only [List.length_nil] at h2
 show cntN (growR e p.toNat X) ≤ 1048576
 omega
theorem order_okB {e : List Ex} (he : okB e) (h : check e = 0) : okB (listT [] (grow e)) := by
 have t1 := body_isTree h
 refine okB_list (okT_pOk _ (he.t t1.k t1.ne)) ?_
 have h1 := len_list h
 have h2 := cntN_list (grow e) []
 have := he.eo.l
 simp only [List.length_nil] at h2
 omega
end Go.Proofs.YtgdionbeeodaaaaDoor
namespace Go.CoreX
theorem mostTs_eq : ∀ (l : List Tr) (m : Int), mostTs m l = (l.map mostT).foldl max m
 | [], _ => rfl
 | t :: l, m => by simp only [mostTs, List.map_cons, List.foldl_cons]; exact mostTs_eq l _
theorem max_if (a b : Int) : max a b = if b > a then b else a := by rw [Int.max_def]; split <;> split <;> omega
theorem foldl_max_ge : ∀ (l : List Int) (m : Int), m ≤ l.foldl max m
 | [], _ => Int.le_refl _
 | x :: l, m => by simp only [List.foldl_cons]; have := foldl_max_ge l (max m x); omega
end Go.CoreX
namespace Go.Proofs.YtgdionbeeodaaaaDoor
open Go Go.Abs Go.CoreX
variable {Γ : List (Nat × List AC)}
theorem fold_snoc {l : List Int} {i : Nat} {n m : Int} (h : l[i]? = some n) : (l.take (i + 1)).foldl max m = if n > (l.take i).foldl max m then n else (l.take i).foldl max m := by
 rw [take_get h, List.foldl_append]; exact max_if _ _
def MostOk (Γ : List (Nat × List AC)) (t : Tr) : Prop := APure Tryd.prog Γ 115 [.one (.box (cTr t))] (.one (int (mostT t)))
theorem Most_ok (hΓ : ∀ g cs, (g, cs) ∈ Γ → idsL isO cs) : ∀ t : Tr, okT t → MostOk Γ t
 | .mk o n b ks a, hok => by
   have ih : ∀ t ∈ ks, MostOk Γ t := fun t ht => Most_ok hΓ t (okT_kid hok (by simpa using ht))
   have hk : ks.length ≤ 1048576 := hok.2.1
   have hbl : bindLen (.mk o n b ks a) ≤ 4194304 := by
     have h1 := hok.1
     have h2 := hok.2.2.2.1.2
     unfold bindLen
     simp only [Tr.binds, Tr.alts]
     omega
   have hB := Binders_ok hΓ (.mk o n b ks a) hbl hok.2.2.1
   have hbn : (bindersN o b a).length ≤ 4194304 := by
     unfold bindLen at hbl
     simp only [Tr.binds, Tr.alts] at hbl
     unfold bindersN
     rw [List.length_append]
     split
     · exact hbl
     · simp only [List.length_nil]; omega
   have hm : mostT (.mk o n b ks a) = (ks.map mostT).foldl max ((bindersN o b a).foldl max (-1)) := by simp only [mostT, mostTs_eq]
   intro ou
   rw [hm]
   clear hm
   obtain ⟨bn, hbe⟩ : ∃ bn, bn = bindersN o b a := ⟨_, rfl⟩
   rw [show bindersN (Tr.mk o n b ks a).op (Tr.mk o n b ks a).binds (Tr.mk o n b ks a).alts = bn from hbe.symm] at hB
   rw [← hbe] at hbn ⊢
   clear hbe hbl
   refine AFn.walk 34 tabOk Tryd.func115 rfl (by kernel_rfl) rfl rfl fun hou => ?_
   refine zA ?_
   refine zca hΓ hB hou ?_
   refine zA ?_
   refine ACode.loopR hΓ (α := Nat) (fun i => [(11, .one (int i)), (10, .one (int (bn.map cI).length)), (9, .one (.sl 1 (bn.map cI))), (3, .one (int ((bn.take i).foldl max (-1)))), (0, .one (.box (cTr (.mk o n b ks a))))])
     (fun i => ⟨0, [], ou⟩) (fun m i => i ≤ bn.length ∧ m = bn.length - i) (a0 := 0) (ρ := id) ⟨by omega, rfl⟩ (LessR.of rfl (by (repeat' first | exact FrSub.nil | refine zfc ?_ | refine zfo ?_ | refine zfp ?_)) (by simp) (by repeat' first | exact LoSub.nil | refine zlc ?_ | refine zld ?_ ?_ | rfl) rfl rfl hou) fun m i hi => ?_
   obtain ⟨hil, rfl⟩ := hi
   refine zA ?_
   refine ACode.cond rfl (fun hb3 => ?_) (fun hb3 => ?_)
   · have hlt2 : i < bn.length := by simpa using hb3
     obtain ⟨q, hn⟩ := get_of_lt hlt2
     have hsm := fold_snoc (m := -1) hn
     refine zA ?_
     refine AOps.step1 rfl rfl rfl (AStep.indexAddr tabOk rfl rfl rfl rfl rfl rfl (.inl rfl) rfl (by omega) (map_get hn)) ?_
     refine zM ?_
     refine cInv ⟨bn.length - (i + 1), i + 1, id, by omega, ⟨by omega, rfl⟩, ?_⟩
     simp only [hsm]
     exact LessR.of rfl (by (repeat' first | exact FrSub.nil | refine zfc ?_ | refine zfo ?_ | refine zfp ?_)) (by simp) (by repeat' first | exact LoSub.nil | refine zlc ?_ | refine zld ?_ ?_ | rfl) rfl rfl hou
   have hlt : i = bn.length := by simp at hb3; omega
   subst hlt
   rw [List.take_length]
   generalize bn.foldl max (-1) = m0
   refine zA ?_
   refine ACode.loopR hΓ (α := Nat) (fun i => [(24, .one (int i)), (23, .one (int (encTrs ks).length)), (22, .one (.sl 1 (encTrs ks))), (3, .one (int (((ks.map mostT).take i).foldl max m0)))])
     (fun i => ⟨0, [], ou⟩) (fun m i => i ≤ ks.length ∧ m = ks.length - i) (a0 := 0) (ρ := id) ⟨by omega, rfl⟩ (LessR.of rfl (by (repeat' first | exact FrSub.nil | refine zfc ?_ | refine zfo ?_ | refine zfp ?_)) (by simp) (by repeat' first | exact LoSub.nil | refine zlc ?_ | refine zld ?_ ?_ | rfl) rfl rfl hou) fun m i hi => ?_
   obtain ⟨hil, rfl⟩ := hi
   refine zA ?_
   refine ACode.cond rfl (fun hb3 => ?_) (fun hb3 => ?_)
   · have hlt2 : i < ks.length := by simpa using hb3
     obtain ⟨t, ht⟩ := get_of_lt hlt2
     have hsm := fold_snoc (l := ks.map mostT) (n := mostT t) (m := m0) (i := i) (by simp [ht])
     refine zA ?_
     refine AOps.step1 rfl rfl rfl (AStep.indexAddr tabOk rfl rfl rfl rfl rfl rfl (.inl rfl) rfl (by omega) (encTrs_get ht)) ?_
     refine zA ?_
     refine zca hΓ (ih t (List.mem_of_getElem? ht)) hou ?_
     refine zM ?_
     refine cInv ⟨ks.length - (i + 1), i + 1, id, by omega, ⟨by omega, rfl⟩, ?_⟩
     simp only [hsm]
     exact LessR.of rfl (by (repeat' first | exact FrSub.nil | refine zfc ?_ | refine zfo ?_ | refine zfp ?_)) (by simp) (by repeat' first | exact LoSub.nil | refine zlc ?_ | refine zld ?_ ?_ | rfl) rfl rfl hou
   have hlt : i = ks.length := by simp [encTrs_len] at hb3; omega
   subst hlt
   rw [show (ks.map mostT).take ks.length = ks.map mostT from List.take_of_length_le (by simp)]
   refine zA ?_
   exact APure.fin rfl (WkF.ofEq rfl) (by simp) hou rfl
theorem plain_alts : ∀ {a : List LAlt}, (∀ x ∈ a, x.nb = none) → a.map lAlt = (a.map LAlt.er).map cAlt
 | [], _ => rfl
 | x :: a, h => by
   have h1 := h x (by simp)
   have h2 := plain_alts fun y hy => h y (List.mem_cons_of_mem x hy)
   simp only [List.map_cons, h2]
   congr 1
   simp only [lAlt, h1]
   rfl
def ListOwn (Γ : List (Nat × List AC)) (t : LTr) : Prop := ∀ (ou : Outer) (kw ko kt : Nat) (out : List Ex), OuOk ou → Owns ou (objs t) → ou kw = some (.cells [fnW kw ko]) → ou ko = none → ou kt = none → ko ≠ kt → (listT out (erT t)).length ≤ 1048576 →
 AFn Tryd.prog Γ 87 [.one (.ptr (.o t.id) 0), .one (.ptr (.o kw) 0), .one (.ptr (.o ko) 0)] (ouS ou ko kt (out.map cEx)) (fun r ou' => r = .one (int (((listT out (erT t)).length : Int) - 1)) ∧ ∃ kt', ou kt' = none ∧ ko ≠ kt' ∧ ou' = ouS ou ko kt' ((listT out (erT t)).map cEx))
set_option maxHeartbeats 1000000 in
theorem listO_ok (hΓ : ∀ g cs, (g, cs) ∈ Γ → idsL isO cs) : ∀ t : LTr, okT (erT t) → plainL t → ListOwn Γ t
 | .mk i o n nb b lks a, hok, hpl => by
   have ih : ∀ t ∈ lks, ListOwn Γ t := fun t ht => listO_ok hΓ t (okT_kid hok (er_kid (t := .mk i o n nb b lks a) (by simpa [LTr.kids] using ht))) (plain_kid hpl (by simpa [LTr.kids] using ht))
   obtain ⟨hb, hk, ha, ⟨hab, _⟩, hks⟩ := hok
   obtain ⟨rfl, hpa, _⟩ := hpl
   intro ou kw ko kt out hou0 hOw hw ho ht hne hsz
   have hown : ∀ t ∈ lks, Owns ou (objs t) := fun t ht => owns_kid hOw (by simpa [LTr.kids] using ht)
   have hi0 : ou i = some (.cells (lC (.mk i o n none b lks a))) := owns_node hOw
   simp only [lC, bC, plain_alts hpa] at hi0
   have hi : ∀ kt es, ou kt = none → ouS ou ko kt es i = some (.cells [int o, int n, .sl 1 (b.map cI), .sl 1 (kC lks), .sl 2 ((a.map LAlt.er).map cAlt)]) := fun kt es hkt => (ouS_w (fun e => by rw [e, ho] at hi0; cases hi0) (fun e => by rw [e, hkt] at hi0; cases hi0) es).trans hi0
   have hkl : (kC lks).length = lks.length := kC_len lks
   obtain ⟨ks, hkse⟩ : ∃ ks, ks = erTs lks := ⟨_, rfl⟩
   have hkn : ks.length = lks.length := by rw [hkse, erTs_eq, List.length_map]
   have hkg : ∀ {j : Nat} {s : LTr}, lks[j]? = some s → ks[j]? = some (erT s) := fun h => by rw [hkse, erTs_eq]; simp [h]
   simp only [erT] at hsz ⊢
   rw [← hkse] at hsz hk ⊢
   generalize hae : a.map LAlt.er = al at *
   clear hkse hae
   have hwo : kw ≠ ko := fun e => by rw [e, ho] at hw; cases hw
   have hsz2 : (listTs out ks).1.length < 1048576 := by simp only [listT, List.length_append, List.length_singleton] at hsz; omega
   refine AFn.walk 70 tabOk Tryd.func87 rfl (by kernel_rfl) rfl rfl fun hou => ?_
   have hcl := Clone_ok (Γ := Γ) b hb
   refine zA ?_
   refine ACode.drawXA tabOk 15 14 [(3, .one (int o)), (7, .one (int n)), (11, .one (.sl 1 (b.map cI))), (12, .one (.sl 1 (b.map cI)))] follows (by kernel_rfl) rfl rfl rfl rfl rfl rfl rfl rfl rfl ?_ ?_ ?_
   · refine .step rfl (HStep.plain rfl (AStep.loadOwn tabOk rfl rfl rfl rfl rfl (hi _ _ ht) rfl)) ?_
     refine .step rfl (HStep.plain rfl (AStep.loadOwn tabOk rfl rfl rfl rfl rfl (hi _ _ ht) rfl)) ?_
     refine .step rfl (HStep.plain rfl (AStep.loadOwn tabOk rfl rfl rfl rfl rfl (hi _ _ ht) rfl)) ?_
     exact .call hΓ hcl hou (by simp) rfl rfl rfl rfl rfl rfl .nil
   · refine .step rfl (HStep.plain rfl (AStep.loadOwn tabOk rfl rfl rfl rfl rfl (hi _ _ ht) rfl)) ?_
     refine .step rfl (HStep.plain rfl (AStep.loadOwn tabOk rfl rfl rfl rfl rfl (hi _ _ ht) rfl)) ?_
     refine .step rfl (HStep.plain rfl (AStep.loadOwn tabOk rfl rfl rfl rfl rfl (hi _ _ ht) rfl)) ?_
     exact .call hΓ hcl hou (by simp) rfl rfl rfl rfl rfl rfl .nil
   repeat' first | refine zN ?_ | ((with_reducible refine oj ?_); first | refine zix ?_ | refine zow rfl rfl (hi _ _ ht) ?_)
   refine ACode.grow 0 3 3 1 rfl rfl ?_
   refine ACode.loopR hΓ (α := Nat × Nat) (fun c => [(29, .one (int c.1)), (28, .one (int (kC lks).length)), (27, .one (.sl 1 (kC lks))), (5, .one (.ptr (.l 0) 0)), (2, .one (.ptr (.o ko) 0)), (1, .one (.ptr (.o kw) 0)), (0, .one (.ptr (.o i) 0))])
     (fun c => ⟨2, [(1, .tok 3 1 c.1), (0, .cells [int o, int n, .sl 1 (b.map cI), .gs 1 ((listTs out (ks.take c.1)).2.map cI) (.l 1), .lit (.slice none 0 0)])], ouS ou ko c.2 ((listTs out (ks.take c.1)).1.map cEx)⟩)
     (fun m c => c.1 ≤ ks.length ∧ (ou c.2 = none ∧ ko ≠ c.2) ∧ m = ks.length - c.1) (a0 := (0, kt)) (ρ := id) ⟨by omega, ⟨ht, hne⟩, rfl⟩ (LessR.of rfl (by (repeat' first | exact FrSub.nil | refine zfc ?_ | refine zfo ?_ | refine zfp ?_)) (by simp) ?_ rfl (by simp [listTs]; rfl) hou) fun m c hi => ?_
   · repeat' first | exact LoSub.nil | refine zlc ?_ | refine zld ?_ ?_ | rfl
     all_goals (simp [AObj.ren, renL, AC.ren, listTs]; rfl)
   obtain ⟨q, kt⟩ := c
   obtain ⟨hil, ⟨ht, hne⟩, rfl⟩ := hi
   simp only at hil ht hne
   have hwt : kw ≠ kt := fun e => by rw [e, ht] at hw; cases hw
   have hle : (listTs out (ks.take q)).1.length ≤ (listTs out ks).1.length := by
     have := listTs_app (ks.take q) (ks.drop q) out
     rw [List.take_append_drop] at this
     rw [this]; exact listTs_le _ _
   refine zA ?_
   refine ACode.cond rfl (fun hb3 => ?_) (fun hb3 => ?_)
   · have hlt2 : q < ks.length := by simp [kC_len] at hb3; omega
     obtain ⟨lt, hlt3⟩ := get_of_lt (l := lks) (i := q) (by omega)
     obtain ⟨t, hte⟩ : ∃ t, t = erT lt := ⟨_, rfl⟩
     have ht2 : ks[q]? = some t := by rw [hte]; exact hkg hlt3
     have hsn := listTs_snoc t (ks.take q) out
     rw [← take_get ht2] at hsn
     have hle2 : (listT (listTs out (ks.take q)).1 t).length ≤ 1048576 := by
       have := listTs_app (ks.take (q + 1)) (ks.drop (q + 1)) out
       rw [List.take_append_drop] at this
       have h2 := listTs_le (ks.drop (q + 1)) (listTs out (ks.take (q + 1))).1
       rw [← this, hsn] at h2
       simp only at h2
       omega
     have hcall := ih lt (List.mem_of_getElem? hlt3) ou kw ko kt (listTs out (ks.take q)).1 hou0 (hown lt (List.mem_of_getElem? hlt3)) hw ho ht hne (by rw [← hte]; exact hle2)
     rw [← hte] at hcall
     have hil2 : ((listTs out (ks.take q)).2.map cI).length = q := by rw [List.length_map, listTs_ix_len]; simp; omega
     refine zA ?_
     refine AOps.step1 rfl rfl rfl (AStep.indexAddr tabOk rfl rfl rfl rfl rfl rfl (.inl rfl) rfl (by omega) (kC_get hlt3)) ?_
     refine zA ?_
     refine ACode.drawXR (va := .one (int (((listT (listTs out (ks.take q)).1 t).length : Int) - 1))) tabOk 6 4 [(2, .one (fnW kw ko))]
       (fun σ => ∃ kt', ou kt' = none ∧ ko ≠ kt' ∧ σ = ⟨2, [(1, .tok 3 1 q), (0, .cells [int o, int n, .sl 1 (b.map cI), .gs 1 ((listTs out (ks.take q)).2.map cI) (.l 1), .lit (.slice none 0 0)])], ouS ou ko kt' ((listT (listTs out (ks.take q)).1 t).map cEx)⟩)
       follows (by kernel_rfl) rfl rfl rfl rfl rfl ?_ rfl ⟨rfl, rfl⟩ rfl ?_ ?_ ?_ ?_
     · rintro σ ⟨kt', h1, h2, rfl⟩; rfl
     · refine AStepR.call hΓ rfl rfl rfl rfl (by simp) (ouS_ok hou0 (by simp)) hcall fun r ou' hq _ _ => ?_
       obtain ⟨rfl, kt', h1, h2, rfl⟩ := hq
       exact ⟨rfl, kt', h1, h2, rfl⟩
     · exact .step rfl (HStep.plain rfl (AStep.loadOwn tabOk rfl rfl rfl rfl rfl (ouS_w hwo hwt _ |>.trans hw) rfl)) .nil
     · rintro σ ⟨kt', h1, h2, rfl⟩
       have hwt' : kw ≠ kt' := fun e => by rw [e, h1] at hw; cases hw
       exact .step rfl (HStep.plain rfl (AStep.loadOwn tabOk rfl rfl rfl rfl rfl (ouS_w hwo hwt' _ |>.trans hw) rfl)) .nil
     rintro σ ⟨kt', h1, h2, rfl⟩
     refine zA ?_
     refine AOps.app tabOk rfl rfl rfl rfl rfl rfl rfl rfl rfl (Base.gs' _ _ _ _ _ (by rfl) hil2.symm) (.sl _ _) rfl ?_ ?_ ?_
     · rw [hil2]; show (q + 1) * 8 ≤ _; omega
     · rw [hil2]; show q + 1 ≤ _; omega
     refine zM ?_
     refine cInv ⟨ks.length - (q + 1), (q + 1, kt'), fun k => if k = 1 then 2 else k, by omega, ⟨by omega, ⟨h1, h2⟩, rfl⟩, LessR.of rfl (by (repeat' first | exact FrSub.nil | refine zfc ?_ | refine zfo ?_ | refine zfp ?_)) (by simp) ?_ rfl (by simp only [hsn]; rfl) (ouS_ok hou0 (by simp))⟩
     repeat' first | exact LoSub.nil | refine zlc ?_ | refine zld ?_ ?_ | rfl
     · simp only [AObj.ren, List.length_append, hil2]; rfl
     · simp only [hsn]; simp only [AObj.ren, renL, AC.ren, ren_cIs]; rw [List.map_append]; rfl
   have hlt2 : q = ks.length := by simp [kC_len] at hb3; omega
   subst hlt2
   rw [List.take_length] at *
   repeat' first | refine zN ?_ | ((with_reducible refine oj ?_); first | refine zix ?_ | refine zow rfl rfl (hi _ _ ht) ?_)
   refine ACode.grow 0 4 89 2 rfl rfl ?_
   refine ACode.loopR hΓ (α := Nat) (fun q => [(47, .one (int q)), (46, .one (int (al.map cAlt).length)), (45, .one (.sl 2 (al.map cAlt))), (5, .one (.ptr (.l 0) 0)), (2, .one (.ptr (.o ko) 0)), (1, .one (.ptr (.o kw) 0)), (0, .one (.ptr (.o i) 0))])
     (fun q => ⟨3, [(2, .tok 89 2 q), (0, .cells [int o, int n, .sl 1 (b.map cI), .gs 1 ((listTs out ks).2.map cI) (.l 1), .gs 2 ((al.take q).map cAlt) (.l 2)])], ouS ou ko kt ((listTs out ks).1.map cEx)⟩)
     (fun m q => q ≤ al.length ∧ m = al.length - q) (a0 := 0) (ρ := id) ⟨by omega, rfl⟩ (LessR.of rfl (by (repeat' first | exact FrSub.nil | refine zfc ?_ | refine zfo ?_ | refine zfp ?_)) (by simp) ?_ rfl rfl (ouS_ok hou0 (by simp))) fun m q hq => ?_
   · repeat' first | exact LoSub.nil | refine zlc ?_ | refine zld ?_ ?_ | rfl
     all_goals (simp [AObj.ren, renL, AC.ren]; exact ⟨rfl, rfl⟩)
   obtain ⟨hil, rfl⟩ := hq
   have hou2 : OuOk (ouS ou ko kt ((listTs out ks).1.map cEx)) := ouS_ok hou0 (by simp)
   refine zA ?_
   refine ACode.cond rfl (fun hb3 => ?_) (fun hb3 => ?_)
   · have hlt2 : q < al.length := by simpa using hb3
     obtain ⟨c, hc⟩ := get_of_lt hlt2
     have hal : ((al.take q).map cAlt).length = q := by simp; omega
     have hca := Clone_ok (Γ := Γ) c.binds (hab c (List.mem_of_getElem? hc))
     refine zA ?_
     refine AOps.step1 rfl rfl rfl (AStep.indexAddr tabOk rfl rfl rfl rfl rfl rfl (.inl rfl) rfl (by omega) (map_get hc)) ?_
     refine zA ?_
     refine ACode.drawX tabOk 9 [(6, .one (.sl 1 (c.binds.map cI)))] follows (by kernel_rfl) rfl rfl rfl rfl (.call hΓ hca hou2 (by simp) rfl rfl rfl rfl rfl rfl .nil) ?_
     refine zA ?_
     refine AOps.app tabOk rfl rfl rfl rfl rfl rfl rfl rfl rfl (Base.gs' _ _ _ _ _ (by rfl) hal.symm) (.sl _ _) rfl ?_ ?_ ?_
     · rw [hal]; show (q + 1) * 32 ≤ _; omega
     · rw [hal]; show q + 1 ≤ _; omega
     refine zM ?_
     refine cInv ⟨al.length - (q + 1), q + 1, fun k => if k = 2 then 4 else k, by omega, ⟨by omega, rfl⟩, LessR.of rfl (by (repeat' first | exact FrSub.nil | refine zfc ?_ | refine zfo ?_ | refine zfp ?_)) (by simp) ?_ rfl rfl hou2⟩
     repeat' first | exact LoSub.nil | refine zlc ?_ | refine zld ?_ ?_ | rfl
     · simp only [AObj.ren, List.length_append, hal]; rfl
     · rw [take_get hc]; simp only [AObj.ren, renL, AC.ren, ren_cIs, ren_cAlts]; rw [List.map_append]; rfl
   have hlt2 : q = al.length := by simp at hb3; omega
   subst hlt2
   rw [List.take_length]
   refine zA ?_
   refine AOps.step1 rfl rfl rfl (AStep.loadOwn tabOk rfl rfl rfl rfl rfl (ouS_o hne _) rfl) ?_
   (first | ((with_reducible refine oj ?_); refine zau ?_) | (with_reducible refine zst ?_) | ((with_reducible refine cExitMiss ?_ ?_); rfl) | (with_reducible refine ok ?_; first | refine ACode.condT rfl ?_ | refine ACode.condF rfl ?_))
   refine AOps.wk 64 rfl (y := .agg (cEx ⟨o, n, b, (listTs out ks).2, al⟩)) (WkF.agg ?_) ?_
   · exact .cons (.refl _) (.cons (.refl _) (.cons (.refl _) (.cons (.gsE rfl) (.cons (.gsE rfl) .nil))))
   refine zA ?_
   have hT : listT out (.mk o n b ks al) = (listTs out ks).1 ++ [⟨o, n, b, (listTs out ks).2, al⟩] := by simp only [listT]
   have hmap : (listTs out ks).1.map cEx ++ [cEx ⟨o, n, b, (listTs out ks).2, al⟩] = (listT out (.mk o n b ks al)).map cEx := by rw [hT, List.map_append]; rfl
   refine AOps.app (es := (listTs out ks).1.map cEx) tabOk rfl rfl rfl rfl rfl rfl rfl rfl rfl (Base.gs' _ 53 5 _ (.o kt) (ouS_t ou ko kt _) rfl) (.sl 5 [cEx ⟨o, n, b, (listTs out ks).2, al⟩]) rfl ?_ ?_ ?_
   · simp; show (_ + 1) * 88 ≤ _; omega
   · simp; omega
   rw [hmap]
   refine AOps.storeOwn (cs := [.gs 5 ((listTs out ks).1.map cEx) (.o kt)]) tabOk rfl rfl rfl rfl rfl rfl rfl (show (bif Nat.beq ko kt then some AObj.dead else ouS ou ko kt ((listTs out ks).1.map cEx) ko) = _ by rw [beq_no hne]; exact ouS_o hne _) (by simp) ?_
   refine AOps.cede 3 (show 3 < 4 by omega) fun k hk => ⟨[(2, .one (.ptr (.o ko) 0))], ⟨4, [], ouS ou ko k ((listT out (.mk o n b ks al)).map cEx)⟩, ⟨fun d x hd => ?_, rfl, fun i x hx => ?_⟩, ?_⟩
   · by_cases e : 2 = d
     · subst e
       simp [Fr.get] at hd; subst hd
       exact ⟨_, rfl, WkF.ofEq rfl⟩
     · simp [Fr.get, beq_no e] at hd
   · have hk' : (bif Nat.beq k ko then some (AObj.cells [.gs 5 ((listT out (.mk o n b ks al)).map cEx) (.l 3)]) else bif Nat.beq k kt then some AObj.dead else ouS ou ko kt ((listTs out ks).1.map cEx) k) = none := hk
     have k1 : k ≠ ko := fun e => by subst e; simp at hk'
     rw [beq_no k1] at hk'
     have k2 : k ≠ kt := fun e => by subst e; simp at hk'
     rw [beq_no k2] at hk'
     simp only [cond_false, ouS_w k1 k2] at hk'
     cases i with
     | l m => cases hx
     | o m =>
       have hx' : ouS ou ko k ((listT out (.mk o n b ks al)).map cEx) m = some x := hx
       by_cases e : m = k
       · subst e
         rw [ouS_t] at hx'; cases hx'
         exact ⟨.l 3, _, rfl, rfl, rfl⟩
       · by_cases e2 : m = ko
         · subst e2
           rw [ouS_o e] at hx'; cases hx'
           refine ⟨.o m, .cells [.gs 5 ((listT out (.mk o n b ks al)).map cEx) (.l 3)], ?_, rfl, ?_⟩
           · show (bif Nat.beq m m then _ else _) = _; rw [beq_self]; rfl
           · simp only [AObj.sub, subL, AC.sub]; rw [subS_o _ (by simp)]; rfl
         · rw [ouS_w e2 e] at hx'
           have e3 : m ≠ kt := fun e => by rw [e, ht] at hx'; cases hx'
           refine ⟨.o m, x, ?_, rfl, (AObj.sub_o x (hou0 m x hx')).symm⟩
           show (bif Nat.beq m ko then _ else bif Nat.beq m kt then _ else ouS ou ko kt _ m) = _
           rw [beq_no e2, beq_no e3]
           exact (ouS_w e2 e3 _).trans hx'
   · have hk' : (bif Nat.beq k ko then some (AObj.cells [.gs 5 ((listT out (.mk o n b ks al)).map cEx) (.l 3)]) else bif Nat.beq k kt then some AObj.dead else ouS ou ko kt ((listTs out ks).1.map cEx) k) = none := hk
     have k1 : k ≠ ko := fun e => by subst e; simp at hk'
     rw [beq_no k1] at hk'
     have k2 : k ≠ kt := fun e => by subst e; simp at hk'
     rw [beq_no k2] at hk'
     simp only [cond_false, ouS_w k1 k2] at hk'
     refine zA ?_
     refine AOps.step1 rfl rfl rfl (AStep.loadOwn tabOk rfl rfl rfl rfl rfl (ouS_o (Ne.symm k1) _) rfl) ?_
     refine zM ?_
     refine AFn.fin' rfl (WkF.ofEq ?_) (by simp) (ouS_ok hou0 (by simp)) ⟨rfl, k, hk', Ne.symm k1, rfl⟩
     simp
def IsR (X : FV) (ou : Outer) (r : FV) (ou' : Outer) : Prop := r = X ∧ ou' = ou
theorem ListO_ok (hΓ : ∀ g cs, (g, cs) ∈ Γ → idsL isO cs) (t : LTr) (ht : okT (erT t)) (hpl : plainL t) (hsz : (listT [] (erT t)).length ≤ 1048576) (ou : Outer) (hOw : Owns ou (objs t)) : AFn Tryd.prog Γ 48 [.one (.ptr (.o t.id) 0)] ou (IsR (.one (.sl 5 ((listT [] (erT t)).map cEx))) ou) := by
 refine AFn.walk 10 tabOk Tryd.func48 rfl (by kernel_rfl) rfl rfl fun hou => ?_
 iterate 22 (first | ((with_reducible refine oj ?_); refine zau ?_) | (with_reducible refine zst ?_) | ((with_reducible refine cExitMiss ?_ ?_); rfl) | (with_reducible refine ok ?_; first | refine ACode.condT rfl ?_ | refine ACode.condF rfl ?_))
 refine ACode.grow 0 0 53 5 rfl rfl ?_
 refine zA ?_
 refine AOps.cede 0 (show 0 < 3 by omega) fun ko hko => ⟨[(7, .one (.ptr (.o t.id) 0)), (6, .one (.fn (.func 87) [] [.ptr (.l 1) 0, .ptr (.o ko) 0])), (3, .one (.ptr (.o ko) 0))],
   ⟨3, [(2, .tok 53 5 0), (1, .cells [.fn (.func 87) [] [.ptr (.l 1) 0, .ptr (.o ko) 0]])], updO ou ko (.cells [.gs 5 [] (.l 2)])⟩, ⟨CedFr.get ?_, rfl, fun i x hx => ?_⟩, ?_⟩
 · exact .cons rfl (rfl) (.cons rfl rfl (.cons rfl rfl .nil))
 · have hko : ou ko = none := hko
   cases i with
   | l m =>
     by_cases e : 2 = m
     · subst e; cases hx; exact ⟨.l 2, _, rfl, rfl, rfl⟩
     · have hx' : lookL m [(1, AObj.cells [.fn (.func 87) [] [.ptr (.l 1) 0, .ptr (.o ko) 0]])] = some x := by simpa [St.get, lookL, beq_no e] using hx
       by_cases e1 : 1 = m
       · subst e1; cases hx'; exact ⟨.l 1, _, rfl, rfl, rfl⟩
       · simp [lookL, beq_no e1] at hx'
   | o m =>
     have hx' : updO ou ko (.cells [.gs 5 [] (.l 2)]) m = some x := hx
     by_cases e : ko = m
     · subst e; rw [updO_same] at hx'; cases hx'; exact ⟨.l 0, _, rfl, rfl, rfl⟩
     · rw [updO_ne _ e] at hx'
       exact ⟨.o m, x, hx', rfl, (AObj.sub_o x (hou m x hx')).symm⟩
 have hko : ou ko = none := hko
 refine AOps.cede 1 (show 1 < 3 by omega) fun kw hkw => ⟨[(7, .one (.ptr (.o t.id) 0)), (6, .one (fnW kw ko)), (3, .one (.ptr (.o ko) 0))],
   ⟨3, [(2, .tok 53 5 0)], updO (updO ou ko (.cells [.gs 5 [] (.l 2)])) kw (.cells [fnW kw ko])⟩, ⟨CedFr.get ?_, rfl, fun i x hx => ?_⟩, ?_⟩
 · exact .cons rfl (rfl) (.cons rfl rfl (.cons rfl rfl .nil))
 · have hkw : updO ou ko (.cells [.gs 5 [] (.l 2)]) kw = none := hkw
   cases i with
   | l m =>
     by_cases e : 2 = m
     · subst e; cases hx; exact ⟨.l 2, _, rfl, rfl, rfl⟩
     · simp [St.get, lookL, beq_no e] at hx
   | o m =>
     have hx' : updO (updO ou ko (.cells [.gs 5 [] (.l 2)])) kw (.cells [fnW kw ko]) m = some x := hx
     by_cases e : kw = m
     · subst e; rw [updO_same] at hx'; cases hx'; exact ⟨.l 1, _, rfl, rfl, rfl⟩
     · rw [updO_ne _ e] at hx'
       by_cases e2 : ko = m
       · subst e2; rw [updO_same] at hx'; cases hx'
         exact ⟨.o ko, _, updO_same _ _ _, rfl, rfl⟩
       · have hx2 := hx'
         rw [updO_ne _ e2] at hx2
         exact ⟨.o m, x, hx', rfl, (AObj.sub_o x (hou m x hx2)).symm⟩
 have hkw : updO ou ko (.cells [.gs 5 [] (.l 2)]) kw = none := hkw
 have hwo : ko ≠ kw := fun e => by subst e; rw [updO_same] at hkw; cases hkw
 rw [updO_ne _ hwo] at hkw
 refine AOps.cede 2 (show 2 < 3 by omega) fun kt hkt => ⟨[(7, .one (.ptr (.o t.id) 0)), (6, .one (fnW kw ko)), (3, .one (.ptr (.o ko) 0))],
   ⟨3, [], ouS (updO ou kw (.cells [fnW kw ko])) ko kt (([] : List Ex).map cEx)⟩, ⟨CedFr.get ?_, rfl, fun i x hx => ?_⟩, ?_⟩
 · exact .cons rfl (rfl) (.cons rfl rfl (.cons rfl rfl .nil))
 · have hkt : updO (updO ou ko (.cells [.gs 5 [] (.l 2)])) kw (.cells [fnW kw ko]) kt = none := hkt
   have hkto : ko ≠ kt := fun e => by subst e; rw [updO_ne _ (Ne.symm hwo), updO_same] at hkt; cases hkt
   cases i with
   | l m => cases hx
   | o m =>
     have hx' : ouS (updO ou kw (.cells [fnW kw ko])) ko kt (([] : List Ex).map cEx) m = some x := hx
     by_cases e : m = kt
     · subst e; rw [ouS_t] at hx'; cases hx'; exact ⟨.l 2, _, rfl, rfl, rfl⟩
     · by_cases e2 : m = ko
       · subst e2; rw [ouS_o hkto] at hx'; cases hx'
         refine ⟨.o m, .cells [.gs 5 [] (.l 2)], ?_, rfl, rfl⟩
         show updO (updO ou m (.cells [.gs 5 [] (.l 2)])) kw (.cells [fnW kw m]) m = _
         rw [updO_ne _ (Ne.symm hwo), updO_same]
       · rw [ouS_w e2 e] at hx'
         by_cases e3 : kw = m
         · subst e3; rw [updO_same] at hx'; cases hx'
           exact ⟨.o kw, _, updO_same _ _ _, rfl, rfl⟩
         · rw [updO_ne _ e3] at hx'
           refine ⟨.o m, x, ?_, rfl, (AObj.sub_o x (hou m x hx')).symm⟩
           show updO (updO ou ko (.cells [.gs 5 [] (.l 2)])) kw (.cells [fnW kw ko]) m = _
           rw [updO_ne _ e3, updO_ne _ (Ne.symm e2)]; exact hx'
 have hkt : updO (updO ou ko (.cells [.gs 5 [] (.l 2)])) kw (.cells [fnW kw ko]) kt = none := hkt
 have hwt : kw ≠ kt := fun e => by subst e; rw [updO_same] at hkt; cases hkt
 rw [updO_ne _ hwt] at hkt
 have hot : ko ≠ kt := fun e => by subst e; rw [updO_same] at hkt; cases hkt
 rw [updO_ne _ hot] at hkt
 have hob : OuOk (updO ou kw (.cells [fnW kw ko])) := fun k o hk => by
   by_cases e : kw = k
   · subst e; rw [updO_same] at hk; cases hk; simp
   · rw [updO_ne _ e] at hk; exact hou k o hk
 have hOw2 : Owns (updO ou kw (.cells [fnW kw ko])) (objs t) := hOw.frame fun j hj => by
   obtain ⟨o, hp⟩ := of_keys hj
   have hne : kw ≠ j := fun e => by
     have h1 : ou j = some o := hOw _ hp
     rw [← e, hkw] at h1; cases h1
   exact updO_ne _ hne _
 have hcall := listO_ok hΓ t ht hpl (updO ou kw (.cells [fnW kw ko])) kw ko kt [] hob hOw2 (updO_same _ _ _) (by rw [updO_ne _ (Ne.symm hwo)]; exact hko) (by rw [updO_ne _ hwt]; exact hkt) hot hsz
 refine AOps.call1 hΓ rfl rfl rfl rfl rfl rfl rfl (by simp) (ouS_ok hob (by simp)) hcall fun r ou' hq hids hou' => ?_
 obtain ⟨rfl, kt', h1, h2, rfl⟩ := hq
 refine zA ?_
 refine AOps.step1 rfl rfl rfl (AStep.loadOwn tabOk rfl rfl rfl rfl rfl (ouS_o h2 _) rfl) ?_
 refine AOps.wk 9 rfl (y := .one (.sl 5 ((listT [] (erT t)).map cEx))) (.one (.gsE rfl)) ?_
 refine AOps.lessO ⟨3, [], ou⟩ rfl (fun i o ho => ?_) ?_
 · cases i with
   | l m => cases ho
   | o m =>
     have ho' : ou m = some o := ho
     show ouS (updO ou kw (.cells [fnW kw ko])) ko kt' _ m = some o
     have e1 : m ≠ ko := fun e => by rw [e, hko] at ho'; cases ho'
     have e2 : kw ≠ m := fun e => by rw [← e, hkw] at ho'; cases ho'
     have e3 : m ≠ kt' := fun e => by
       rw [← e, updO_ne _ e2] at h1
       rw [h1] at ho'; cases ho'
     rw [ouS_w e1 e3, updO_ne _ e2]; exact ho'
 refine zA ?_
 exact AFn.fin' rfl (WkF.ofEq rfl) (by simp) hou ⟨rfl, rfl⟩
theorem copiedO_ok (hΓ : ∀ g cs, (g, cs) ∈ Γ → idsL isO cs) (t : LTr) (hT : okT (erT t)) (hpl : plainL t) (hl : cntN (erT t) ≤ 1048576) (ou : Outer) (hOw : Owns ou (objs t)) : AFn Tryd.prog Γ 111 [.one (.ptr (.o t.id) 0)] ou (GrowQ (listT [] (erT t)) ou) := by
 have hll : (listT [] (erT t)).length ≤ 1048576 := by have := cntN_list (erT t) []; simp at this; omega
 have hli := ListO_ok hΓ t hT hpl hll ou hOw
 refine AFn.walk 6 tabOk Tryd.func111 rfl (by kernel_rfl) rfl rfl fun hou => ?_
 refine zA ?_
 refine AOps.call1 hΓ rfl rfl rfl rfl rfl rfl rfl (by simp) hou hli fun r ou' hq hids hou' => ?_
 obtain ⟨rfl, rfl⟩ := hq
 refine AOps.call1 hΓ rfl rfl rfl rfl rfl rfl rfl (by simp) hou (GrowN_ok hΓ _ (okB_list (okT_pOk _ hT) hl).eo (isTree_list _).k (isTree_list _) _) fun r ou' hq hids hou' => ?_
 obtain ⟨t', rfl, h⟩ := hq
 refine zA ?_
 exact AFn.fin' rfl (WkF.refl _) (by simp) hou' ⟨t', rfl, h⟩
def DefQ (lts : List LTr) (X : Option Tr) (ou : Outer) (r : FV) (ou' : Outer) : Prop := ou' = ou ∧ match X with
 | none => r = nilP
 | some F => ∃ t ∈ lts, ∃ s ∈ t.kids, r = .one (.ptr (.o s.id) 0) ∧ erT s = F
def defR (id : Int) (l : List Tr) : Option Tr → Option Tr
 | some f => some f
 | none => defT id l
theorem defT_cons (id : Int) (t : Tr) (l : List Tr) : defT id (t :: l) = defR id l (defN id t t.binds 0) := by
 simp only [defT]
 cases defN id t t.binds 0 <;> rfl
theorem kidT_get {t : Tr} {i : Nat} {s : Tr} (h : t.kids[i]? = some s) : kidT t i = s := by
 unfold kidT
 rw [List.getD_eq_getElem?_getD, h]; rfl
set_option maxHeartbeats 1000000 in
theorem definition_ok (hΓ : ∀ g cs, (g, cs) ∈ Γ → idsL isO cs) (nm : Int) (root : Nat) (lts : List LTr) (hlen : lts.length ≤ 1048576) (hpl : ∀ t ∈ lts, plainL t) (hok : ∀ t ∈ lts, okT (erT t)) (hsh : ∀ t ∈ lts, allT shpL (erT t)) (ou : Outer) (ho : ∀ t ∈ lts, Owns ou (objs t)) :
   AFn Tryd.prog Γ 116 [.one (.box [.sl 1 (kC lts), .ptr (.o root) 0]), .one (int nm)] ou (DefQ lts (defT nm (lts.map erT)) ou) := by
 obtain ⟨X, hX⟩ : ∃ X, X = defT nm (lts.map erT) := ⟨_, rfl⟩
 rw [← hX]
 refine AFn.walk 67 tabOk Tryd.func116 rfl (by kernel_rfl) rfl rfl fun hou => ?_
 refine zA ?_
 refine ACode.loopR hΓ (α := Nat) (fun q => [(14, .one (int q)), (13, .one (int (kC lts).length)), (12, .one (.sl 1 (kC lts))), (1, .one (int nm))])
   (fun q => ⟨0, [], ou⟩) (fun m q => q ≤ lts.length ∧ X = defT nm ((lts.map erT).drop q) ∧ m = lts.length - q) (a0 := 0) (ρ := id) ⟨by omega, hX, rfl⟩ (LessR.of rfl (by (repeat' first | exact FrSub.nil | refine zfc ?_ | refine zfo ?_ | refine zfp ?_)) (by simp) (by repeat' first | exact LoSub.nil | refine zlc ?_ | refine zld ?_ ?_ | rfl) rfl rfl hou) fun m q hq => ?_
 obtain ⟨hql, hXq, rfl⟩ := hq
 refine zA ?_
 refine ACode.cond rfl (fun hb2 => ?_) (fun hb2 => ?_)
 · have hlt : q < lts.length := by simp [kC_len] at hb2; omega
   clear hb2
   obtain ⟨t, ht⟩ := get_of_lt hlt
   have htm := List.mem_of_getElem? ht
   have hd : (lts.map erT).drop q = erT t :: (lts.map erT).drop (q + 1) := by
     rw [List.drop_eq_getElem_cons (by simpa using hlt)]
     congr 1
     obtain ⟨_, h2⟩ := List.getElem?_eq_some_iff.1 ht
     simp [h2]
   rw [hd, defT_cons] at hXq
   obtain ⟨R, hR⟩ : ∃ R, R = (lts.map erT).drop (q + 1) := ⟨_, rfl⟩
   rw [← hR] at hXq
   have hpt := hpl t htm
   have hot := ho t htm
   have hkt := hok t htm
   have hst := hsh t htm
   have hit := kC_get ht
   obtain ⟨t0, ht0⟩ : ∃ t0, t0 = t := ⟨_, rfl⟩
   cases t with
   | mk i o n nb b ks a =>
   obtain rfl : nb = none := hpt.1
   have hi : ou i = some (.cells (lC (.mk i o n none b ks a))) := owns_node hot
   simp only [lC, bC] at hi
   have hbl : b.length ≤ 1048576 := hkt.1
   have hbi : (erT (.mk i o n none b ks a)).binds = b := rfl
   have hopi : (erT (.mk i o n none b ks a)).op = o := rfl
   have hkk : (erT (.mk i o n none b ks a)).kids = ks.map erT := er_kids _
   rw [hbi] at hXq
   have hkid : ∀ p, p < b.length → o = 4 ∨ o = 5 → p < ks.length := fun p hp h => by
     rcases h with h4 | h5
     · obtain ⟨_, _, _, h1, h2, _⟩ := shp_let (o := o) (n := n) (b := b) (k := erTs ks) (a := a.map LAlt.er) hst h4
       have := congrArg List.length h1
       have h3 := congrArg List.length h2
       rw [erTs_eq, List.length_map] at h3
       simp at this h3; omega
     · have := (shp_rec (o := o) (n := n) (b := b) (k := erTs ks) (a := a.map LAlt.er) hst h5).1
       rw [erTs_eq, List.length_map] at this; omega
   refine zA ?_
   refine AOps.step1 rfl rfl rfl (AStep.indexAddr tabOk rfl rfl rfl rfl rfl rfl (.inl rfl) rfl (by omega) hit) ?_
   repeat' first | refine zN ?_ | ((with_reducible refine oj ?_); first | refine zix ?_ | refine zow rfl rfl hi ?_)
   refine ACode.loopR hΓ (α := Nat) (fun p => [(23, .one (int p)), (22, .one (int (b.map cI).length)), (21, .one (.sl 1 (b.map cI))), (14, .one (int q)), (13, .one (int (kC lts).length)), (12, .one (.sl 1 (kC lts))), (6, .one (.ptr (.o i) 0)), (1, .one (int nm))])
     (fun p => ⟨0, [], ou⟩) (fun m p => p ≤ b.length ∧ X = defR nm R (defN nm (erT (.mk i o n none b ks a)) (b.drop p) p) ∧ m = b.length - p) (a0 := 0) (ρ := id) ⟨by omega, hXq, rfl⟩ (LessR.of rfl (by (repeat' first | exact FrSub.nil | refine zfc ?_ | refine zfo ?_ | refine zfp ?_)) (by simp) (by repeat' first | exact LoSub.nil | refine zlc ?_ | refine zld ?_ ?_ | rfl) rfl rfl hou) fun m p hp => ?_
   obtain ⟨hpl2, hXp, rfl⟩ := hp
   refine zA ?_
   refine ACode.cond rfl (fun hb3 => ?_) (fun hb3 => ?_)
   · have hlt2 : p < b.length := by simpa using hb3
     clear hb3
     obtain ⟨v, hv⟩ := get_of_lt hlt2
     have hdp : b.drop p = v :: b.drop (p + 1) := by
       obtain ⟨h1, h2⟩ := List.getElem?_eq_some_iff.1 hv
       rw [List.drop_eq_getElem_cons h1, h2]
     rw [hdp] at hXp
     simp only [defN, hopi] at hXp
     refine zA ?_
     refine AOps.step1 rfl rfl rfl (AStep.indexAddr tabOk rfl rfl rfl rfl rfl rfl (.inl rfl) rfl (by omega) (map_get hv)) ?_
     refine zA ?_
     have hcont : (X = defR nm R (defN nm (erT (.mk i o n none b ks a)) (b.drop (p + 1)) (p + 1))) → (p + 1 ≤ b.length ∧ X = defR nm R (defN nm (erT (.mk i o n none b ks a)) (b.drop (p + 1)) (p + 1)) ∧ b.length - (p + 1) = b.length - (p + 1)) := fun h => ⟨by omega, h, rfl⟩
     refine AOps.splitS rfl rfl rfl rfl (fun hb4 => ?_) (fun hb4 => ?_)
     · have hvid : v = nm := by simpa using hb4
       subst hvid
       repeat' first | refine zN ?_ | ((with_reducible refine oj ?_); first | refine zix ?_ | refine zow rfl rfl hi ?_) | (with_reducible refine oj ?_; refine AOps.splitS rfl rfl rfl rfl (fun hb => ?_) (fun hb => ?_)) | (with_reducible refine ok ?_; first | refine ACode.condS rfl (fun hb => ?_) (fun hb => ?_) | refine ACode.cond rfl (fun hb => ?_) (fun hb => ?_))
       iterate 2
         · have h45 : o = 4 ∨ o = 5 := by first | exact .inl (by simpa using hb) | exact .inr (by simpa using hb)
           obtain ⟨s, hs⟩ := get_of_lt (hkid p hlt2 h45)
           have hsm : s ∈ (LTr.mk i o n none b ks a).kids := List.mem_of_getElem? hs
           have hos := owns_kid hot hsm
           have hps := plain_kid hpt hsm
           have hks : kidT (erT (.mk i o n none b ks a)) p = erT s := kidT_get (by rw [hkk]; simp [hs])
           rw [hks] at hXp
           cases s with
           | mk j op2 n2 nb2 b2 ks2 a2 =>
           obtain rfl : nb2 = none := hps.1
           have hj : ou j = some (.cells (lC (.mk j op2 n2 none b2 ks2 a2))) := owns_node hos
           simp only [lC, bC] at hj
           rw [show (erT (.mk j op2 n2 none b2 ks2 a2)).op = op2 from rfl] at hXp
           refine AOps.step1 rfl rfl rfl (AStep.indexAddr tabOk rfl rfl rfl rfl rfl rfl (.inl rfl) rfl (by omega) (by simpa using kC_get hs)) ?_
           repeat' first | refine zN ?_ | ((with_reducible refine oj ?_); first | refine zix ?_ | refine zow rfl rfl hj ?_)
           refine ACode.condS rfl (fun hb5 => ?_) (fun hb5 => ?_)
           · have h2 : op2 = 2 := by simpa using hb5
             rw [if_pos ⟨rfl, h45, h2⟩] at hXp
             simp only [defR] at hXp
             repeat' first | refine zN ?_ | ((with_reducible refine oj ?_); first | refine zix ?_ | refine zow rfl rfl hi ?_)
             refine AOps.step1 rfl rfl rfl (AStep.indexAddr tabOk rfl rfl rfl rfl rfl rfl (.inl rfl) rfl (by omega) (by simpa using kC_get hs)) ?_
             repeat' first | refine zN ?_ | ((with_reducible refine oj ?_); first | refine zix ?_ | refine zow rfl rfl hi ?_)
             refine AFn.fin' rfl (WkF.refl _) (by simp) hou ⟨rfl, ?_⟩
             rw [hXp]; exact ⟨_, htm, _, hsm, rfl, rfl⟩
           · have h2 : ¬ op2 = 2 := by simpa using hb5
             rw [if_neg (fun h => h2 h.2.2)] at hXp
             refine zM ?_
             exact cInv ⟨b.length - (p + 1), p + 1, id, by omega, hcont hXp, LessR.of rfl (by (repeat' first | exact FrSub.nil | refine zfc ?_ | refine zfo ?_ | refine zfp ?_)) (by simp) (by repeat' first | exact LoSub.nil | refine zlc ?_ | refine zld ?_ ?_ | rfl) rfl rfl hou⟩
       · have h45 : ¬ (o = 4 ∨ o = 5) := by rintro (h | h) <;> simp_all
         rw [if_neg (fun h => h45 h.2.1)] at hXp
         exact cInv ⟨b.length - (p + 1), p + 1, id, by omega, hcont hXp, LessR.of rfl (by (repeat' first | exact FrSub.nil | refine zfc ?_ | refine zfo ?_ | refine zfp ?_)) (by simp) (by repeat' first | exact LoSub.nil | refine zlc ?_ | refine zld ?_ ?_ | rfl) rfl rfl hou⟩
     · have hvid : ¬ v = nm := by simpa using hb4
       rw [if_neg (fun h => hvid h.1)] at hXp
       refine zM ?_
       exact cInv ⟨b.length - (p + 1), p + 1, id, by omega, hcont hXp, LessR.of rfl (by (repeat' first | exact FrSub.nil | refine zfc ?_ | refine zfo ?_ | refine zfp ?_)) (by simp) (by repeat' first | exact LoSub.nil | refine zlc ?_ | refine zld ?_ ?_ | rfl) rfl rfl hou⟩
   · have hlt2 : p = b.length := by simp at hb3; omega
     subst hlt2
     rw [List.drop_length] at hXp
     simp only [defN, defR] at hXp
     refine zM ?_
     exact cInv ⟨lts.length - (q + 1), q + 1, id, by omega, ⟨by omega, by rw [← hR]; exact hXp, rfl⟩, LessR.of rfl (by (repeat' first | exact FrSub.nil | refine zfc ?_ | refine zfo ?_ | refine zfp ?_)) (by simp) (by repeat' first | exact LoSub.nil | refine zlc ?_ | refine zld ?_ ?_ | rfl) rfl rfl hou⟩
 · have hlt : q = lts.length := by simp [kC_len] at hb2; omega
   subst hlt
   rw [List.drop_of_length_le (by simp)] at hXq
   simp only [defT] at hXq
   refine zA ?_
   refine AFn.fin' rfl (WkF.refl _) (by simp) hou ⟨rfl, ?_⟩
   rw [hXq]
end Go.Proofs.YtgdionbeeodaaaaDoor
namespace Go.CoreX
def mxL (c : Int) (l : Lab) : Prop := ∀ n ∈ bindersN l.op l.binds l.alts, n ≤ c
theorem foldl_max_le (c : Int) : ∀ (l : List Int) (m : Int), m ≤ c → (∀ n ∈ l, n ≤ c) → l.foldl max m ≤ c
 | [], m, h, _ => h
 | x :: l, m, h, hl => by
   simp only [List.foldl_cons]
   have := hl x (by simp)
   exact foldl_max_le c l _ (by omega) fun n hn => hl n (by simp [hn])
mutual
theorem mostT_le (c : Int) (hc : -1 ≤ c) : ∀ t : Tr, Go.CoreX.allT (mxL c) t → mostT t ≤ c
 | .mk o n b k a, h => by
   simp only [mostT]
   exact mostTs_le c hc k _ (foldl_max_le c _ _ hc h.1) h.2
theorem mostTs_le (c : Int) (hc : -1 ≤ c) : ∀ (l : List Tr) (m : Int), m ≤ c → Go.CoreX.allTs (mxL c) l → mostTs m l ≤ c
 | [], m, h, _ => h
 | t :: l, m, h, hl => by
   simp only [mostTs]
   have := mostT_le c hc t hl.1
   exact mostTs_le c hc l _ (by omega) hl.2
end
theorem mostT_ge : ∀ t : Tr, -1 ≤ mostT t
 | .mk o n b k a => by
   simp only [mostT, mostTs_eq]
   have h1 := foldl_max_ge (bindersN o b a) (-1)
   have h2 := foldl_max_ge (k.map mostT) ((bindersN o b a).foldl max (-1))
   omega
end Go.CoreX
namespace Go.Proofs.YtgdionbeeodaaaaDoor
open Go Go.Abs Go.CoreX
variable {Γ : List (Nat × List AC)}
theorem unfold_ok (hΓ : ∀ g cs, (g, cs) ∈ Γ → idsL isO cs) (root t : LTr) (lts : List LTr) (hlen : lts.length ≤ 1048576) (hpl : ∀ t ∈ lts, plainL t) (hok : ∀ t ∈ lts, okT (erT t)) (hct : ∀ t ∈ lts, cntN (erT t) ≤ 1048576) (hsh : ∀ t ∈ lts, allT shpL (erT t)) (hm : mostT (erT root) ≤ 1048576) (hr : root ∈ lts) (ht : t ∈ lts) (h0 : (erT t).op = 0) (ou : Outer) (ho : ∀ t ∈ lts, Owns ou (objs t)) :
   AFn Tryd.prog Γ 86 [.one (.box [.sl 1 (kC lts), .ptr (.o root.id) 0]), .one (.ptr (.o t.id) 0)] ou (ResW ou t (unfoldT (lts.map erT) (erT root) (erT t))) := by
 have hot := ho t ht
 have hop := hok t ht
 have hpt := hpl t ht
 have hst := hsh t ht
 have hM := Most_ok hΓ (erT root) (hok root hr)
 have hm0 := mostT_ge (erT root)
 have hor := ho root hr
 obtain ⟨M, hMe⟩ : ∃ M, M = mostT (erT root) := ⟨_, rfl⟩
 unfold MostOk at hM
 rw [← hMe] at hM hm hm0
 obtain ⟨X, hX⟩ : ∃ X, X = unfoldT (lts.map erT) (erT root) (erT t) := ⟨_, rfl⟩
 rw [← hX]
 unfold unfoldT at hX
 rw [← hMe] at hX
 cases t with
 | mk i o n nb b ks a =>
 obtain rfl : nb = none := hpt.1
 have hi : ou i = some (.cells (lC (.mk i o n none b ks a))) := owns_node hot
 simp only [lC, bC] at hi
 have hD := definition_ok hΓ n root.id lts hlen hpl hok hsh ou ho
 rw [show (erT (.mk i o n none b ks a)).n = n from rfl] at hX
 refine AFn.walk 26 tabOk Tryd.func86 rfl (by kernel_rfl) rfl rfl fun hou => ?_
 repeat' first | refine zN ?_ | ((with_reducible refine oj ?_); first | refine zix ?_ | refine zow rfl rfl hi ?_)
 refine AOps.call1 hΓ rfl rfl rfl rfl rfl rfl rfl (by simp [idsF]) hou hD fun r ow hq hids how => ?_
 obtain ⟨hqe, hq⟩ := hq
 have hqe := hqe.symm
 subst hqe
 cases hDe : defT n (lts.map erT) with
 | none =>
   rw [hDe] at hX hq
   dsimp only at hq
   subst hq
   refine zA ?_
   refine AOps.step1 rfl rfl rfl (AStep.eqNil0 Tryd.underlying70 rfl rfl rfl) ?_
   refine zA ?_
   refine AFn.fin' rfl (WkF.refl _) (by simp) hou ?_
   rw [hX]
   exact ⟨rfl, hou, fun _ _ h => h⟩
 | some F =>
   rw [hDe] at hX hq
   obtain ⟨t1, ht1, s, hs, rfl, hF⟩ := hq
   have hsp := plain_kid (hpl t1 ht1) hs
   have hso := owns_kid (ho t1 ht1) hs
   have hsk := okT_kid (hok t1 ht1) (er_kid hs)
   have hsc : cntN (erT s) ≤ 1048576 := by
     have := cnt_kid (er_kid hs)
     have := hct t1 ht1
     omega
   have hC := copiedO_ok hΓ s hsk hsp hsc _ hso
   refine zA ?_
   refine AOps.step1 rfl rfl rfl (AStep.eqNil Tryd.underlying70 rfl rfl rfl) ?_
   refine zA ?_
   refine AOps.call1 hΓ rfl rfl rfl rfl rfl rfl rfl (by simp [idsF]) hou hC fun r ow hq hids how => ?_
   obtain ⟨c, rfl, hce, hcok, hcO, hcN, hcn, _, hold⟩ := hq
   rw [grow_list] at hce
   have hrO : Owns ow (objs root) := fun p hp => hold _ _ (hor p hp)
   refine zA ?_
   refine AOps.callS hΓ hM (Plain.lit _) rfl rfl rfl rfl rfl rfl (LendFs.t1 hrO) ?_
   have hnb : (nbL c : Int) ≤ 4398046511104 := by
     have h1 := nb_le (okB_list (okT_pOk _ hsk) hsc) (isTree_list (erT s))
     unfold nbE at h1
     rw [grow_list] at h1
     have h2 := nbL_er c
     rw [hce] at h2
     omega
   have hR := Rename_ok hΓ c hcok ow hcO hcN (M + 1) (by omega) (by omega) how
   refine zM ?_
   refine AOps.call1 hΓ rfl rfl rfl rfl rfl rfl rfl (by simp [idsF]) how hR fun r ov hq hids hov => ?_
   obtain ⟨rfl, hO2, _, hfr⟩ := hq
   refine zA ?_
   refine AFn.fin' rfl (WkF.refl _) (by simp) hov ?_
   rw [hX]
   refine ⟨(rnL nm0 (M + 1) c).1, by rw [rnL_id], ?_, hO2, ?_, hov, fun j o' hj hn => ?_, fun k hk => ?_⟩
   · rw [(rnL_er c nm0 (M + 1)).1, hce, hF]
   · rw [rnL_k]
     intro h
     have h1 := hcn _ h
     have h2 : ou i = _ := hi
     rw [show (LTr.mk i o n none b ks a).id = i from rfl] at h1
     rw [h1] at h2; cases h2
   · show ov j = some o'
     rw [hfr j fun h => by rw [hcn j h] at hj; cases hj]
     exact hold _ _ hj
   · rw [rnL_k] at hk
     exact .inr (hcn k hk)
end Go.Proofs.YtgdionbeeodaaaaDoor
namespace Go.CoreX
theorem binds_range2 {e : List Ex} {x : Ex} (h : nodeErrF false e x = 0) : ∀ b ∈ exBinders x, b ≤ 1048575 := by
 have hr : ranges x = 0 := by
   unfold nodeErrF at h
   split at h
   · cases h
   · unfold nodeErr at h
     split at h
     · cases h
     · split at h
       · rename_i hr; exact absurd h hr
       · rename_i hr; simpa using hr
 have hx : x.binds.all identOk = true ∧ x.alts.all (altRange x.op) = true := by
   unfold ranges at hr
   split at hr
   · cases hr
   split at hr
   · cases hr
   rename_i h1
   split at hr
   · cases hr
   rename_i h2
   exact ⟨by simpa using h1, by simpa using h2⟩
 have ok : ∀ n, identOk n = true → n ≤ 1048575 := fun n hn => by
   simp [identOk, between] at hn; omega
 intro b hb
 unfold exBinders bindersN at hb
 rcases List.mem_append.1 hb with hb | hb
 · split at hb
   · exact ok b (List.all_eq_true.1 hx.1 b hb)
   · cases hb
 · obtain ⟨a, ha, hba⟩ := List.mem_flatMap.1 hb
   have := List.all_eq_true.1 hx.2 a ha
   unfold altRange at this
   exact ok b (List.all_eq_true.1 (Bool.and_eq_true_iff.1 this).2 b hba)
theorem check_most {e : List Ex} (h : check e = 0) : allT (mxL 1048575) (grow e) := by
 obtain ⟨_, p2, _, _⟩ := check_parts h
 exact allT_grow (body_isTree h) fun x hx => binds_range2 (p2 x hx)
end Go.CoreX
namespace Go.Proofs.YtgdionbeeodaaaaDoor
open Go Go.Abs Go.CoreX
variable {Γ : List (Nat × List AC)}
theorem growL_at {e : List Ex} {i : Nat} (h : i < e.length) : (growL e)[i]? = some (treeAt e i) := by
 unfold treeAt
 have : i < (growL e).length := by rw [growL_len]; exact h
 rw [List.getD_eq_getElem?_getD, List.getElem?_eq_getElem this]; rfl
theorem link_map {e : List Ex} {lts : List LTr} (hL : LinkL e lts plainB) (hk : kidsIn e) : lts.map erT = growL e := by
 refine List.ext_getElem? fun i => ?_
 rw [List.getElem?_map]
 by_cases hi : i < e.length
 · obtain ⟨t, ht⟩ := get_of_lt (l := lts) (i := i) (by rw [hL.len]; exact hi)
   rw [ht, growL_at hi]
   show some (erT t) = _
   rw [hL.er hk _ i t (Nat.lt_succ_self _) ht]
 · rw [List.getElem?_eq_none (by rw [hL.len]; omega), List.getElem?_eq_none (by rw [growL_len]; omega)]; rfl
structure Opened (e : List Ex) (lts : List LTr) (root : LTr) (ou : Outer) : Prop where
 len : lts.length ≤ 1048576
 pl : ∀ t ∈ lts, plainL t
 ok : ∀ t ∈ lts, okT (erT t)
 ct : ∀ t ∈ lts, cntN (erT t) ≤ 4096
 sh : ∀ t ∈ lts, allT shpL (erT t)
 own : ∀ t ∈ lts, Owns ou (objs t)
 rin : root ∈ lts
 rer : erT root = grow e
 map : lts.map erT = growL e
 most : mostT (grow e) ≤ 1048575
theorem Opened.of {e : List Ex} (he : okB e) (h : check e = 0) {lts : List LTr} {root : LTr} {ou : Outer} (hL : LinkL e lts plainB) (hr : lts[e.length - 1]? = some root) (hO : Owns ou (lts.flatMap ownO)) : Opened e lts root ou := by
 have t1 := body_isTree h
 have hix : ∀ t ∈ lts, ∃ p : Nat, lts[p]? = some t ∧ p < e.length := fun t ht => by
   obtain ⟨p, hp⟩ := List.getElem?_of_mem ht
   exact ⟨p, hp, by have := (List.getElem?_eq_some_iff.1 hp).1; rw [hL.len] at this; exact this⟩
 have her : ∀ (p : Nat) (t : LTr), lts[p]? = some t → erT t = treeAt e p := fun p t ht => hL.er t1.k _ p t (Nat.lt_succ_self _) ht
 refine ⟨by rw [hL.len]; exact he.eo.l, fun t ht => ?_, fun t ht => ?_, fun t ht => ?_, fun t ht => ?_, fun t ht => ?_, List.mem_of_getElem? hr, ?_, link_map hL t1.k, mostT_le _ (by omega) _ (check_most h)⟩
 · obtain ⟨p, hp, _⟩ := hix t ht
   exact hL.plain t1.k _ p t (Nat.lt_succ_self _) hp
 · obtain ⟨p, hp, hl⟩ := hix t ht
   rw [her p t hp]; exact treeAt_ok he t1 hl
 · obtain ⟨p, hp, hl⟩ := hix t ht
   rw [her p t hp]; exact cnt_at h hl
 · obtain ⟨p, hp, hl⟩ := hix t ht
   rw [her p t hp]; exact allT_treeAt t1 (check_shp h) hl
 · obtain ⟨p, hp, hl⟩ := hix t ht
   exact fun o ho => hO o (hL.own t1.k _ p t (Nat.lt_succ_self _) hp o ho)
 · rw [her _ root hr]; rfl
theorem operands_ok (t : Tr) : APure Tryd.prog Γ 114 [.one (.box (cTr t))] (.one (int ((operandsN t : Nat) : Int))) := by
 cases t with
 | mk o n b ks a =>
 intro ou
 refine AFn.walk 22 tabOk Tryd.func114 rfl (by kernel_rfl) rfl rfl fun hou => ?_
 have hV : operandsN (.mk o n b ks a) = if o = 3 ∨ o = 6 ∨ o = 8 ∨ o = 9 ∨ o = 10 ∨ o = 11 then ks.length else if o = 7 ∨ o = 12 then 1 else 0 := rfl
 rw [hV]
 by_cases h1 : o = 3 ∨ o = 6 ∨ o = 8 ∨ o = 9 ∨ o = 10 ∨ o = 11
 · rw [if_pos h1]
   rcases h1 with rfl | rfl | rfl | rfl | rfl | rfl
   all_goals
     refine zA ?_
     exact APure.fin rfl (WkF.ofEq (by simp [encTrs_len])) (by simp) hou rfl
 rw [if_neg h1]
 by_cases h2 : o = 7 ∨ o = 12
 · rw [if_pos h2]
   rcases h2 with rfl | rfl
   all_goals
     refine zA ?_
     exact APure.fin rfl (WkF.ofEq rfl) (by simp) hou rfl
 rw [if_neg h2]
 repeat' first | refine zN ?_ | (with_reducible refine oj ?_; refine AOps.splitS rfl rfl rfl rfl (fun hb => ?_) (fun hb => ?_)) | (with_reducible refine ok ?_; first | refine ACode.condS rfl (fun hb => ?_) (fun hb => ?_) | refine ACode.cond rfl (fun hb => ?_) (fun hb => ?_))
 all_goals first
   | exact APure.fin rfl (WkF.ofEq rfl) (by simp) hou rfl
   | (exfalso; simp at *; omega)
end Go.Proofs.YtgdionbeeodaaaaDoor
namespace Go.Abs
theorem RV.setC {w : World} {C : Ctx} {a b : AC} (hab : ∀ v, R w C a v → R w C b v) : ∀ {cs : List AC} {off : Nat} {xs : List Value}, RV w C cs xs → cs[off]? = some a → RV w C (cs.set off b) xs
 | [], _, _, _, h => by simp at h
 | c :: cs, 0, xs, ⟨x, xs', e, h1, h2⟩, h => by
   simp only [List.getElem?_cons_zero, Option.some.injEq] at h
   subst h
   exact ⟨x, xs', e, hab x h1, h2⟩
 | c :: cs, off + 1, xs, ⟨x, xs', e, h1, h2⟩, h => by
   simp only [List.getElem?_cons_succ] at h
   exact ⟨x, xs', e, h1, RV.setC hab h2 h⟩
theorem AOps.freezeArrO {E : Env} {ops : Array Oper} {l : List Oper} {K : Cont} {fr : Fr} {σ : St} (i j : Id) (off : Nat) {s cap : Nat} {es : List (List AC)} {cs : List AC} (hg : σ.get i = some (.cells (vec s es cap))) (hl : ∀ x ∈ es, x.length = s) (hgj : (σ.set i .dead).get j = some (.cells cs)) (hoff : cs[off]? = some (.arr i s 0 es.length cap))
   (h : AOps E ops l K fr ((σ.set i .dead).set j (.cells (cs.set off (.sl s es))))) : AOps E ops l K fr σ := by
 intro F w0 C0 w C tmps hgo hi hf
 obtain ⟨h1, h2, h3⟩ := frz_run hi hf hg (fr' := []) trivial
 obtain ⟨hok, zs, T, b1, b2, b3, b4⟩ := hi.obj i _ hg
 have key : ∀ v, R w (C.froze (C.blk i)) (.arr i s 0 es.length cap) v → R w (C.froze (C.blk i)) (.sl s es) v := by
   intro u hr
   simp only [R, Nat.zero_mul] at hr
   refine ⟨some ⟨C.blk i, 0, none⟩, cap, hr.2.1, hr.2.2, .inr ⟨_, rfl, rfl, ?_⟩⟩
   have hfl := flat_len hl
   have hzl := RV.length b3
   have hv : RV w (C.froze (C.blk i)) es.flatten (zs.take (es.length * s)) := by
     have := (b3.take (es.length * s)).ext h1.chg
     rwa [vec, List.take_append_of_le_length (by omega), List.take_of_length_le (by omega)] at this
   refine RS.ofVals 0 hl hv fun j v hj => ⟨?_, .inr rfl⟩
   have h2 : j < es.length * s := by have := (List.getElem?_eq_some_iff.1 hj).1; simp at this; omega
   rw [List.getElem?_take_of_lt h2] at hj
   rw [Nat.zero_add, cell_of_row _ _ _ _ _ _ b1]
   simpa using hj
 obtain ⟨hokj, xs, Tj, o1, o2, o3, o4⟩ := h2.obj j _ hgj
 obtain ⟨he, hi'⟩ := h2.turn hgj (g := (C.froze (C.blk i)).blk j) rfl (w' := w) rfl (fun _ _ => rfl) (fun _ _ _ => rfl) (o' := .cells (cs.set off (.sl s es))) rfl fun _ => ⟨xs, Tj, o1, o2, RV.setC key o3 hoff, o4⟩
 refine h F w0 C0 w _ tmps (hgo.trans h1.toO) hi' ⟨hf.1, fun k x hk => ?_⟩
 obtain ⟨u, hu, hr⟩ := hf.2 k x hk
 exact ⟨u, hu, hr.ext h1.chg⟩
end Go.Abs
namespace Go.Proofs.YtgdionbeeodaaaaDoor
open Go Go.Abs Go.CoreX
variable {Γ : List (Nat × List AC)}
theorem vec_set1 {ks : List LTr} {cap p : Nat} (v : LTr) (hp : p < ks.length) : (vec 1 (kC ks) cap).set p (.ptr (.o v.id) 0) = vec 1 (kC (ks.set p v)) cap := by
 have hf : ∀ l : List LTr, (kC l).flatten = l.map fun t => AC.ptr (.o t.id) 0 := fun l => by
   induction l with
   | nil => rfl
   | cons t l ih => simp only [kC, List.map_cons, List.flatten_cons] at ih ⊢; rw [ih]; rfl
 unfold vec
 rw [hf, hf, kC_len, kC_len, List.length_set, List.set_append_left _ _ (by simpa using hp), List.map_set]
theorem kC_one (l : List LTr) : ∀ x ∈ kC l, x.length = 1 := fun x hx => by
 obtain ⟨t, _, rfl⟩ := List.mem_map.1 hx
 rfl
set_option maxHeartbeats 1000000 in
theorem named_ok (hΓ : ∀ g cs, (g, cs) ∈ Γ → idsL isO cs) (root t : LTr) (lts : List LTr) (hpt : plainL t) (hkt : okT (erT t)) (hst : allT shpL (erT t)) (hkr : okT (erT root)) (hm : mostT (erT root) ≤ 1048576) (n : Int) (ou : Outer) (hot : Owns ou (objs t)) (hor : Owns ou (objs root)) :
   AFn Tryd.prog Γ 85 [.one (.box [.sl 1 (kC lts), .ptr (.o root.id) 0]), .one (.ptr (.o t.id) 0), .one (int n)] ou (ResD ou t (namedT (erT root) (erT t) n)) := by
 have hM := Most_ok hΓ (erT root) hkr
 have hm0 := mostT_ge (erT root)
 unfold MostOk at hM
 obtain ⟨X, hX⟩ : ∃ X, X = namedT (erT root) (erT t) n := ⟨_, rfl⟩
 rw [← hX]
 unfold namedT at hX
 have hOp := operands_ok (Γ := Γ) (erT t)
 obtain ⟨P, hP⟩ : ∃ P, P = operandsN (erT t) := ⟨_, rfl⟩
 rw [← hP] at hX hOp
 generalize mostT (erT root) = M at hM hm0 hm hX
 have hkk := er_kids t
 cases t with
 | mk i o nn nb b ks a =>
 obtain rfl : nb = none := hpt.1
 have hi : ou i = some (.cells (lC (.mk i o nn none b ks a))) := owns_node hot
 simp only [lC, bC] at hi
 have hkl : ks.length ≤ 1048576 := by have := hkt.2.1; simpa [erTs_eq] using this
 have hPl : P ≤ ks.length := by
   rw [hP]
   have : operandsN (erT (.mk i o nn none b ks a)) = if o = 3 ∨ o = 6 ∨ o = 8 ∨ o = 9 ∨ o = 10 ∨ o = 11 then (erTs ks).length else if o = 7 ∨ o = 12 then 1 else 0 := rfl
   rw [this, erTs_eq, List.length_map]
   split
   · omega
   · split
     · rename_i h1 h2
       rcases h2 with h2 | h2
       · have := (shp_case (o := o) (n := nn) (b := b) (k := erTs ks) (a := a.map LAlt.er) hst h2).1
         rw [erTs_eq, List.length_map] at this
         omega
       · subst h2
         have := (shp_wants (o := 12) (n := nn) (b := b) (k := erTs ks) (a := a.map LAlt.er) hst (by decide) rfl).1
         rw [erTs_eq, List.length_map] at this
         simp at this
         omega
     · omega
 refine AFn.walk 75 tabOk Tryd.func85 rfl (by kernel_rfl) rfl rfl fun hou => ?_
 have hnil : X = none → ResD ou (.mk i o nn none b ks a) X nilP ou := fun h => by rw [h]; exact ResD.no rfl hou
 refine zA ?_
 refine AOps.splitS rfl rfl rfl rfl (fun hb1 => ?_) (fun hb1 => ?_)
 · have h1 : n < 0 := by simpa using hb1
   rw [if_pos (.inl h1)] at hX
   refine zA ?_
   exact AFn.fin' rfl (WkF.refl _) (by simp) hou (hnil hX)
 have h1 : ¬ n < 0 := by simpa using hb1
 obtain ⟨N, rfl⟩ : ∃ N : Nat, n = N := ⟨n.toNat, by omega⟩
 refine zM ?_
 refine AOps.callS hΓ hOp (Plain.lit _) rfl rfl rfl rfl rfl rfl (LendFs.t1 (t := .mk i o nn none b ks a) hot) ?_
 refine zM ?_
 refine AOps.splitS rfl rfl rfl rfl (fun hb2 => ?_) (fun hb2 => ?_)
 · have h2 : (P : Int) ≤ N := by simpa using hb2
   rw [if_pos (.inr (.inl h2))] at hX
   refine zA ?_
   exact AFn.fin' rfl (WkF.refl _) (by simp) hou (hnil hX)
 have h2 : ¬ (P : Int) ≤ N := by simpa using hb2
 obtain ⟨s, hs⟩ := get_of_lt (l := ks) (i := N) (by omega)
 have hsm : s ∈ (LTr.mk i o nn none b ks a).kids := List.mem_of_getElem? hs
 have hso := owns_kid hot hsm
 have hks : kidT (erT (.mk i o nn none b ks a)) N = erT s := kidT_get (by rw [hkk]; simp [LTr.kids, hs])
 rw [Int.toNat_natCast, hks] at hX
 repeat' first | refine zN ?_ | ((with_reducible refine oj ?_); first | refine zix ?_ | refine zow rfl rfl hi ?_)
 refine AOps.step1 rfl rfl rfl (AStep.indexAddr tabOk rfl rfl rfl rfl rfl rfl (.inl rfl) rfl (by omega) (by simpa using kC_get hs)) ?_
 refine zM ?_
 refine AOps.callS hΓ (atom_ok (erT s)) (Plain.lit _) rfl rfl rfl rfl rfl rfl (LendFs.t1 hso) ?_
 refine zM ?_
 refine ACode.condS rfl (fun hb3 => ?_) (fun hb3 => ?_)
 · have h3 : atomT (erT s) = true := by simpa using hb3
   rw [if_pos (.inr (.inr h3))] at hX
   refine zA ?_
   exact AFn.fin' rfl (WkF.refl _) (by simp) hou (hnil hX)
 have h3 : ¬ atomT (erT s) = true := by simpa using hb3
 rw [if_neg (by rintro (h | h | h); exact h1 h; exact h2 h; exact h3 h)] at hX
 rw [hkk] at hX
 have hNl : N ≤ (kC ks).length := by rw [kC_len]; omega
 repeat' first | refine zN ?_ | ((with_reducible refine oj ?_); first | refine zix ?_ | refine zow rfl rfl hi ?_)
 refine AOps.step1 rfl rfl rfl (AStep.sliceTo (b := N) (es := kC ks) tabOk rfl rfl rfl rfl rfl rfl hNl) ?_
 refine AOps.wk 34 rfl (y := .one (.sl 1 (kC (ks.take N)))) (.ofEq (by simp only [kC, List.map_take])) ?_
 refine zA ?_
 have hln : (kC (ks.take N)).length = N := by rw [kC_len, List.length_take]; omega
 refine ACode.loopR hΓ (α := Nat) (fun p => [(36, .one (int p)), (35, .one (int (kC (ks.take N)).length)), (34, .one (.sl 1 (kC (ks.take N)))), (2, .one (int N)), (1, .one (.ptr (.o i) 0)), (0, .one (.box [.sl 1 (kC lts), .ptr (.o root.id) 0]))])
   (fun p => ⟨0, [], ou⟩) (fun m p => p ≤ N ∧ ((ks.take p).map erT).all valT = true ∧ m = N - p) (a0 := 0) (ρ := id) ⟨by omega, rfl, rfl⟩ (LessR.of rfl (by (repeat' first | exact FrSub.nil | refine zfc ?_ | refine zfo ?_ | refine zfp ?_)) (by simp) (by repeat' first | exact LoSub.nil | refine zlc ?_ | refine zld ?_ ?_ | rfl) rfl rfl hou) fun m p hp => ?_
 obtain ⟨hpl, hall, rfl⟩ := hp
 refine zA ?_
 refine ACode.cond rfl (fun hb4 => ?_) (fun hb4 => ?_)
 · have hlt : p < N := by simp [hln] at hb4; omega
   clear hb4
   obtain ⟨q, hq⟩ := get_of_lt (l := ks) (i := p) (by omega)
   have hqm : q ∈ (LTr.mk i o nn none b ks a).kids := List.mem_of_getElem? hq
   have hqo := owns_kid hot hqm
   have hqk := okT_kid hkt (er_kid hqm)
   have hqs := allT_kid hst (er_kid hqm)
   have hval := valued_ok hΓ (erT q) hqk hqs
   have htk : ((ks.take (p + 1)).map erT).all valT = (((ks.take p).map erT).all valT && valT (erT q)) := by rw [take_get hq]; simp
   refine zA ?_
   refine AOps.step1 rfl rfl rfl (AStep.indexAddr tabOk rfl rfl rfl rfl rfl rfl (.inl rfl) rfl (by omega) (by rw [Int.toNat_natCast]; exact kC_get (by rw [List.getElem?_take_of_lt hlt]; exact hq))) ?_
   refine zA ?_
   refine AOps.callS hΓ hval (Plain.lit _) rfl rfl rfl rfl rfl rfl (LendFs.t1 hqo) ?_
   refine zA ?_
   refine ACode.condS rfl (fun hb5 => ?_) (fun hb5 => ?_)
   · have h5 : valT (erT q) = false := by simpa using hb5
     have h6 : ((LTr.mk i o nn none b ks a).kids.map erT |>.take N).all valT = false := by
       rw [List.all_eq_false]
       refine ⟨erT q, ?_, by rw [h5]; simp⟩
       rw [← List.map_take]
       refine List.mem_map_of_mem (List.mem_of_getElem? (i := p) ?_)
       rw [List.getElem?_take_of_lt hlt]
       exact hq
     rw [if_pos h6] at hX
     refine zA ?_
     exact AFn.fin' rfl (WkF.refl _) (by simp) hou (hnil hX)
   · have h5 : valT (erT q) = true := by simpa using hb5
     refine zM ?_
     exact cInv ⟨N - (p + 1), p + 1, id, by omega, ⟨by omega, by rw [htk, hall, h5]; rfl, rfl⟩, LessR.of rfl (by (repeat' first | exact FrSub.nil | refine zfc ?_ | refine zfo ?_ | refine zfp ?_)) (by simp) (by repeat' first | exact LoSub.nil | refine zlc ?_ | refine zld ?_ ?_ | rfl) rfl rfl hou⟩
 have hpe : p = N := by simp [hln] at hb4; omega
 subst hpe
 have h6 : ¬ ((LTr.mk i o nn none b ks a).kids.map erT |>.take p).all valT = false := by
   rw [← List.map_take]
   show ¬ ((ks.take p).map erT).all valT = false
   rw [hall]; simp
 rw [if_neg h6] at hX
 clear hb4
 refine zA ?_
 refine AOps.callS hΓ hM (Plain.lit _) rfl rfl rfl rfl rfl rfl (LendFs.t1 hor) ?_
 refine zM ?_
 refine AOps.step1 rfl rfl rfl (AStep.loadOwnA tabOk rfl rfl rfl rfl rfl hi) ?_
 repeat' first | refine zN ?_ | ((with_reducible refine oj ?_); first | refine zix ?_ | refine zow rfl rfl hi ?_)
 refine AOps.appOwn tabOk rfl rfl rfl rfl rfl rfl rfl rfl rfl (.nil 1) (.sl 1 (kC ks)) (by intro h; have := congrArg List.length h; rw [kC_len, List.length_nil] at this; omega) rfl (by rw [kC_len, List.length_nil, Nat.zero_add]; show _ * 8 ≤ _; omega) (by rw [kC_len, List.length_nil, Nat.zero_add]; omega) fun cap hc => ?_
 simp only [List.nil_append] at hc ⊢
 refine zA ?_
 refine AOps.step1 rfl rfl rfl (idxI tabOk rfl rfl rfl rfl rfl rfl rfl (by rw [kC_len]; omega)) ?_
 have hpl2 : p < ks.length := by omega
 refine AOps.wkObj (.l 2) rfl (cs' := [int 0, int (M + 1), .sl 1 [], .sl 1 [], .sl 2 []]) (fun w C xs h => ?_) ?_
 · exact (show WkL _ _ from .cons (.refl _) (.cons (.refl _) (.cons (.nilS 1) (.cons (.nilS 1) (.cons (.nilS 2) .nil))))) w C xs h
 have hθ : ∀ (k : Nat) (i : Abs.Id), isO i → toOs [2] k i = i := fun k i hi => by cases i with | l q => exact hi.elim | o q => rfl
 have hidK : ∀ (l : List LTr) (cap : Nat), idsL isO (vec 1 (kC l) cap) := fun l cap => ids_vec (ids_kC_o l)
 refine AOps.cedes [2] rfl (by decide) hou fun k1 hk1 => ⟨[(65, .one (.ptr (.l 1) p)), (64, .one (.ptr (.o k1) 0)), (10, .one (.ptr (.l 0) 0)), (9, .one (int (M + 1))), (2, .one (int p)), (1, .one (.ptr (.o i) 0))],
   [(1, .cells (vec 1 (kC ks) cap)), (0, .cells [int o, int nn, .sl 1 (b.map cI), .arr (.l 1) 1 0 (kC ks).length cap, .sl 2 (a.map lAlt)])], [.cells [int 0, int (M + 1), .sl 1 [], .sl 1 [], .sl 2 []]], ?_, ?_, ?_, ?_⟩
 · exact .cons rfl rfl (.cons rfl rfl (.cons rfl rfl (.cons rfl rfl (.cons rfl rfl (.cons rfl rfl .nil)))))
 · refine .cons rfl rfl (AObj.sub_f (hθ k1) _ (hidK _ _)) (.cons rfl rfl ?_ .nil)
   simp only [AObj.sub, subL, AC.sub]
   rw [subS_f (hθ k1) (b.map cI) (by simp), subS_f (hθ k1) (a.map lAlt) (ids_lAlts _ (fun _ => trivial) _)]
   rfl
 · exact .cons rfl rfl .nil
 obtain ⟨v, hv⟩ : ∃ v : LTr, v = .mk k1 0 (M + 1) none [] [] [] := ⟨_, rfl⟩
 have hN1 : NewO ou (ouAdd ou k1 [.cells [int 0, int (M + 1), .sl 1 [], .sl 1 [], .sl 2 []]]) [(v.id, .cells (lC v))] := by
   rw [hv]
   exact NewO.add hk1 hou (by simp)
 obtain ⟨ou1, hou1⟩ : ∃ ou1, ou1 = ouAdd ou k1 [.cells [int 0, int (M + 1), .sl 1 [], .sl 1 [], .sl 2 []]] := ⟨_, rfl⟩
 rw [← hou1] at hN1
 show AOps _ _ _ _ _ ⟨3, _, ouAdd ou k1 [.cells [int 0, int (M + 1), .sl 1 [], .sl 1 [], .sl 2 []]]⟩
 rw [← hou1]
 have hvs := vec_set1 (cap := cap) v hpl2
 rw [show v.id = k1 by rw [hv]; rfl] at hvs
 refine AOps.storeOwn (cs := vec 1 (kC ks) cap) (c := .ptr (.o k1) 0) tabOk rfl rfl rfl rfl rfl rfl rfl rfl (by rw [vec, List.length_append, flat_len (kC_one ks), kC_len]; omega) ?_
 rw [hvs]
 obtain ⟨ks', hks'⟩ : ∃ ks', ks' = ks.set p v := ⟨_, rfl⟩
 rw [← hks']
 have hkl' : (kC ks).length = (kC ks').length := by rw [kC_len, kC_len, hks', List.length_set]
 rw [hkl']
 refine AOps.freezeArrO (.l 1) (.l 0) 3 (s := 1) (cap := cap) (es := kC ks') (cs := [int o, int nn, .sl 1 (b.map cI), .arr (.l 1) 1 0 (kC ks').length cap, .sl 2 (a.map lAlt)]) rfl (kC_one ks') rfl rfl ?_
 have hθ0 : ∀ (k : Nat) (i : Abs.Id), isO i → toOs [0] k i = i := fun k i hi => by cases i with | l q => exact hi.elim | o q => rfl
 refine AOps.cedes [0] rfl (by decide) hN1.ok fun k2 hk2 => ⟨[(10, .one (.ptr (.o k2) 0)), (9, .one (int (M + 1))), (2, .one (int p)), (1, .one (.ptr (.o i) 0))],
   [], [.cells [int o, int nn, .sl 1 (b.map cI), .sl 1 (kC ks'), .sl 2 (a.map lAlt)]], ?_, .nil, ?_, ?_⟩
 · exact .cons rfl rfl (.cons rfl rfl (.cons rfl rfl (.cons rfl rfl .nil)))
 · exact .cons rfl (AObj.sub_f (hθ0 k2) _ (ids_node o nn none b ks' a)) .nil
 obtain ⟨ux, hux⟩ : ∃ ux : LTr, ux = .mk k2 o nn none b ks' a := ⟨_, rfl⟩
 have hN2 : NewO ou1 (ouAdd ou1 k2 [.cells [int o, int nn, .sl 1 (b.map cI), .sl 1 (kC ks'), .sl 2 (a.map lAlt)]]) [(ux.id, .cells (lC ux))] := by
   rw [hux]
   exact NewO.add hk2 hN1.ok (ids_node o nn none b ks' a)
 show AOps _ _ _ _ _ ⟨3, _, ouAdd ou1 k2 [.cells [int o, int nn, .sl 1 (b.map cI), .sl 1 (kC ks'), .sl 2 (a.map lAlt)]]⟩
 obtain ⟨ou2, hou2⟩ : ∃ ou2, ou2 = ouAdd ou1 k2 [.cells [int o, int nn, .sl 1 (b.map cI), .sl 1 (kC ks'), .sl 2 (a.map lAlt)]] := ⟨_, rfl⟩
 rw [← hou2] at hN2 ⊢
 have hi1 : ou1 i = _ := hN1.oldS hi
 have hi2 : ou2 i = _ := hN2.oldS hi1
 have hlet := let_ok hΓ (M + 1) s ux ou2
 rw [show ux.id = k2 by rw [hux]; rfl] at hlet
 repeat' first | refine zN ?_ | ((with_reducible refine oj ?_); first | refine zix ?_ | refine zow rfl rfl hi2 ?_)
 refine AOps.step1 rfl rfl rfl (AStep.indexAddr tabOk rfl rfl rfl rfl rfl rfl (.inl rfl) rfl (by omega) (by simpa using kC_get hs)) ?_
 repeat' first | refine zN ?_ | ((with_reducible refine oj ?_); first | refine zix ?_ | refine zow rfl rfl hi2 ?_)
 refine AOps.call1 hΓ rfl rfl rfl rfl rfl rfl rfl (by simp [idsF]) hN2.ok hlet fun r ou3 hq hids hou3 => ?_
 obtain ⟨k3, rfl, hN3⟩ := hq
 refine zA ?_
 refine AFn.fin' rfl (WkF.refl _) (by simp) hou3 ?_
 rw [hX]
 have hP1 : PartO ou ou1 (tailO (.mk i o nn none b ks a)) (tailO ux) := fun q hq => by
   rw [hux] at hq
   simp only [tailO, bO, plain_aO hpt.2.1, List.nil_append] at hq
   rw [objss_eq] at hq
   obtain ⟨w, hw, hqw⟩ := List.mem_flatMap.1 hq
   rw [hks'] at hw
   rcases List.mem_or_eq_of_mem_set hw with hw | rfl
   · exact .inl (tail_kid (t := .mk i o nn none b ks a) hw hqw)
   · have hqv : q = (w.id, .cells (lC w)) := by
       rw [hv] at hqw ⊢
       simpa [objs, bO, aO, objss, lC, LTr.id] using hqw
     subst hqv
     exact .inr ⟨hN1.new _ (by simp [keys]), hN1.own _ (by simp)⟩
 have hD1 : Der ou ou2 (tailO (.mk i o nn none b ks a)) ux := Der.node (fun j o' hj => hN1.oldS hj) hN2 hP1
 have hD2 : Der ou ou3 (tailO (.mk i o nn none b ks a)) (letN k3 (M + 1) s ux) := Der.let hD1 hN3 fun q hq => .inl (tail_kid hsm hq)
 refine ⟨letN k3 (M + 1) s ux, rfl, ?_, hD2⟩
 rw [letN_er, hux, hks']
 simp only [erT, erTs_eq, List.map_set, LTr.kids]
 rw [hv]
 rfl
theorem nameA {e : List Ex} (he : okB e) (h : check e = 0) {rule n : Int} {at' : Nat} : NameOk e rule n at' := by
 refine ⟨fun _ ou lts root t hL hr ht hO hn => ?_, fun _ ou lts root t hL hr ht hO h0 => ?_⟩
 · have o := Opened.of he h hL hr hO
   have htm := List.mem_of_getElem? ht
   have hN := named_ok hΓc root t lts (o.pl t htm) (o.ok t htm) (o.sh t htm) (o.ok root o.rin) (by rw [o.rer]; have := o.most; omega) n ou (o.own t htm) (o.own root o.rin)
   rw [o.rer] at hN
   exact hN.mono fun r ou' hq => ResD.w (o.own t htm) hn hq
 · have o := Opened.of he h hL hr hO
   have hU := unfold_ok hΓc root t lts o.len o.pl o.ok (fun t ht => by have := o.ct t ht; omega) o.sh (by rw [o.rer]; have := o.most; omega) o.rin (List.mem_of_getElem? ht) h0 ou o.own
   rw [o.map, o.rer] at hU
   exact hU
theorem Apply_any (e : List Ex) (he : okB e) (rule at' n : Int) : APure Tryd.prog Γc 16 [.one (.sl 5 (e.map cEx)), .agg [int rule, int at', int n]] (.tup [.one (.sl 5 ((applyE e rule at' n).1.map cEx)), .one (int (applyE e rule at' n).2)]) := Apply_ok e he rule at' n fun h _ _ => nameA he h
end Go.Proofs.YtgdionbeeodaaaaDoor
namespace Go.CoreX
section
variable {ν : Int → Int}
theorem mapTs_eq : ∀ l : List Tr, mapTs ν l = l.map (mapT ν)
 | [] => rfl
 | t :: l => by simp only [mapTs, List.map_cons, mapTs_eq l]
theorem map_op (t : Tr) : (mapT ν t).op = t.op := by cases t; rfl
theorem map_kids (t : Tr) : (mapT ν t).kids = t.kids.map (mapT ν) := by cases t; simp [mapT, mapTs_eq]
theorem map_alts (t : Tr) : (mapT ν t).alts = t.alts.map (mapA ν) := by cases t; simp [mapT]
theorem map_binds {t : Tr} (h : t.op ≠ 9) : (mapT ν t).binds = t.binds.map ν := by cases t; simp only [Tr.op_mk] at h; simp [mapT, h]
theorem map_bindsN {t : Tr} (h : t.op = 9) : (mapT ν t).binds = t.binds := by cases t; simp only [Tr.op_mk] at h; simp [mapT, h]
theorem map_n {t : Tr} (h : t.op ≠ 0) : (mapT ν t).n = t.n := by cases t; simp only [Tr.op_mk] at h; simp [mapT, h]
theorem map_nv {t : Tr} (h : t.op = 0) : (mapT ν t).n = ν t.n := by cases t; simp only [Tr.op_mk] at h; simp [mapT, h]
theorem kid_map {t : Tr} {i : Nat} (h : i < t.kids.length) : kidT (mapT ν t) i = mapT ν (kidT t i) := by
 unfold kidT
 rw [map_kids, List.getD_eq_getElem?_getD, List.getD_eq_getElem?_getD, List.getElem?_map, List.getElem?_eq_getElem h]; rfl
theorem kid_op (t : Tr) (i : Nat) : (kidT (mapT ν t) i).op = (kidT t i).op := by
 by_cases h : i < t.kids.length
 · rw [kid_map h, map_op]
 · unfold kidT
   rw [map_kids, List.getD_eq_getElem?_getD, List.getD_eq_getElem?_getD, List.getElem?_eq_none (by simp; omega), List.getElem?_eq_none (by omega)]
theorem atom_map (t : Tr) : atomT (mapT ν t) = atomT t := by unfold atomT; rw [map_op, map_kids, List.length_map]
mutual
theorem val_map : ∀ t : Tr, valT (mapT ν t) = valT t
 | .mk o n b k a => by
   have h1 := atom_map (ν := ν) (.mk o n b k a)
   simp only [mapT] at h1 ⊢
   simp only [valT]
   rw [h1, vals_map k, valLast_map k]
theorem vals_map : ∀ l : List Tr, valTs (mapTs ν l) = valTs l
 | [] => rfl
 | t :: l => by simp only [mapTs, valTs, val_map t, vals_map l]
theorem valLast_map : ∀ l : List Tr, valLast (mapTs ν l) = valLast l
 | [] => rfl
 | [t] => by simp only [mapTs, valLast, val_map t]
 | t :: u :: l => by
   have := valLast_map (u :: l)
   simp only [mapTs] at this
   simp only [mapTs, valLast]
   exact this
end
def vS (S : Int → Prop) (l : Lab) : Prop := (l.op = 0 → S l.n) ∧ ∀ n ∈ bindersN l.op l.binds l.alts, S n
section
variable {S : Int → Prop} (hi : ∀ x y, S x → S y → ν x = ν y → x = y)
include hi
omit hi in
mutual
theorem uses_map (hi : ∀ x y, S x → S y → ν x = ν y → x = y) {id : Int} (hid : S id) : ∀ t : Tr, allT (vS S) t → usesN (ν id) (mapT ν t) = usesN id t
 | .mk o n b k a, h => by
   simp only [mapT, usesN]
   by_cases ho : o = 0
   · rw [if_pos ho, if_pos ho, if_pos ho]
     have hn : S n := h.1.1 ho
     by_cases e : n = id
     · rw [if_pos e, if_pos (by rw [e])]
     · rw [if_neg e, if_neg fun e2 => e (hi _ _ hn hid e2)]
   · rw [if_neg ho, if_neg ho]
     exact usess_map hi hid k h.2
theorem usess_map (hi : ∀ x y, S x → S y → ν x = ν y → x = y) {id : Int} (hid : S id) : ∀ l : List Tr, allTs (vS S) l → usesNs (ν id) (mapTs ν l) = usesNs id l
 | [], _ => rfl
 | t :: l, h => by simp only [mapTs, usesNs, uses_map hi hid t h.1, usess_map hi hid l h.2]
end
omit hi in
mutual
theorem sub_map (hi : ∀ x y, S x → S y → ν x = ν y → x = y) {id : Int} (hid : S id) (v : Tr) : ∀ t : Tr, allT (vS S) t → subT (ν id) (mapT ν v) (mapT ν t) = mapT ν (subT id v t)
 | .mk o n b k a, h => by
   simp only [mapT, subT]
   by_cases ho : o = 0
   · rw [if_pos ho, if_pos ho, if_pos ho]
     have hn : S n := h.1.1 ho
     by_cases e : n = id
     · rw [if_pos e, if_pos (by rw [e])]
     · rw [if_neg e, if_neg fun e2 => e (hi _ _ hn hid e2)]
       simp only [mapT, if_pos ho]
   · rw [if_neg ho, if_neg ho, if_neg ho]
     simp only [mapT, if_neg ho, subs_map hi hid v k h.2]
theorem subs_map (hi : ∀ x y, S x → S y → ν x = ν y → x = y) {id : Int} (hid : S id) (v : Tr) : ∀ l : List Tr, allTs (vS S) l → subTs (ν id) (mapT ν v) (mapTs ν l) = mapTs ν (subTs id v l)
 | [], _ => rfl
 | t :: l, h => by simp only [mapTs, subTs, sub_map hi hid v t h.1, subs_map hi hid v l h.2]
end
end
theorem let_map (id : Int) (v b : Tr) : mapT ν (letT id v b) = letT (ν id) (mapT ν v) (mapT ν b) := by simp [letT, mapT, mapTs]
theorem lets_map : ∀ (is : List Int) (ts : List Tr) (b : Tr), mapT ν (letsT is ts b) = letsT (is.map ν) (ts.map (mapT ν)) (mapT ν b)
 | [], _, _ => by simp [letsT]
 | i :: is, [], _ => by simp [letsT]
 | i :: is, t :: ts, b => by simp only [letsT, List.map_cons, let_map, lets_map is ts b]
theorem word_map (n : Int) : mapT ν (wordT n) = wordT n := by simp [wordT, mapT, mapTs]
theorem flag_map (b : Bool) : mapT ν (flagT b) = flagT b := by simp [flagT, mapT, mapTs]
theorem arith_map {t : Tr} (h0 : t.op ≠ 0) (h2 : t.kids.length = 2) : arithT (mapT ν t) = (arithT t).map (mapT ν) := by
 unfold arithT
 rw [map_n h0, kid_map (by omega), kid_map (by omega)]
 dsimp only
 rw [map_op, map_op]
 by_cases h : t.n > 6 ∨ (kidT t 0).op ≠ 1 ∨ (kidT t 1).op ≠ 1
 · rw [if_pos h, if_pos h]; rfl
 rw [if_neg h, if_neg h]
 have hx : (kidT t 0).op ≠ 0 := fun e => h (.inr (.inl (by omega)))
 have hy : (kidT t 1).op ≠ 0 := fun e => h (.inr (.inr (by omega)))
 rw [map_n hx, map_n hy]
 repeat' split
 all_goals simp [word_map, flag_map]
theorem chosen_map {con : Tr} (hc : con.op = 6) : ∀ (as' : List Alt) (ks : List Tr), chosenL (mapT ν con) (as'.map (mapA ν)) (ks.map (mapT ν)) = (chosenL con as' ks).map (mapT ν)
 | [], _ => by simp [chosenL]
 | a :: as', [] => by simp [chosenL]
 | a :: as', k :: ks => by
   simp only [List.map_cons, chosenL, mapA, List.length_map, map_kids, map_n (t := con) (by omega), val_map, chosen_map hc as' ks]
   repeat' split
   all_goals simp [lets_map]
theorem field_map (n : Int) : ∀ (bs : List Int) (ks : List Tr), fieldL n bs (ks.map (mapT ν)) = (fieldL n bs ks).map (mapT ν)
 | [], _ => by simp [fieldL]
 | b :: bs, [] => by simp [fieldL]
 | b :: bs, k :: ks => by
   simp only [List.map_cons, fieldL, field_map n bs ks]
   split <;> rfl
-- Lists.
def mapX (ν : Int → Int) (x : Ex) : Ex := ⟨x.op, if x.op = 0 then ν x.n else x.n, if x.op = 9 then x.binds else x.binds.map ν, x.kids, x.alts.map (mapA ν)⟩
mutual
theorem list_map : ∀ (t : Tr) (out : List Ex), listT (out.map (mapX ν)) (mapT ν t) = (listT out t).map (mapX ν)
 | .mk o n b k a, out => by
   simp only [mapT, listT, lists_map k out, List.map_append, List.map_cons, List.map_nil, mapX]
theorem lists_map : ∀ (l : List Tr) (out : List Ex), listTs (out.map (mapX ν)) (mapTs ν l) = ((listTs out l).1.map (mapX ν), (listTs out l).2)
 | [], out => rfl
 | t :: l, out => by simp only [mapTs, listTs, list_map t out, lists_map l (listT out t), List.length_map]
end
theorem treeAt_map {e : List Ex} (hk : kidsIn e) : ∀ (n i : Nat), i < n → i < e.length → treeAt (e.map (mapX ν)) i = mapT ν (treeAt e i)
 | 0, i, h, _ => by omega
 | n + 1, i, h, hl => by
   obtain ⟨x, hx⟩ : ∃ x, e[i]? = some x := ⟨e[i], List.getElem?_eq_getElem hl⟩
   have hk2 : kidsIn (e.map (mapX ν)) := fun j y hy k hkk => by
     rw [List.getElem?_map] at hy
     cases hj : e[j]? with
     | none => rw [hj] at hy; cases hy
     | some z => rw [hj] at hy; cases hy; exact hk j z hj k hkk
   rw [treeAt_node hk2 (x := mapX ν x) (by rw [List.getElem?_map, hx]; rfl), treeAt_node hk hx]
   simp only [mapT, mapTs_eq, mapX, List.map_map, Tr.mk.injEq, true_and, and_true]
   refine List.map_congr_left fun q hq => ?_
   have := hk i x hx q hq
   exact treeAt_map hk n q.toNat (by omega) (by omega)
theorem growLR_map {e : List Ex} (hk : kidsIn e) (p : Nat) (X : Tr) : ∀ (n i : Nat), i < n → i < e.length → (growLR (e.map (mapX ν)) p (mapT ν X)).getD i default = mapT ν ((growLR e p X).getD i default)
 | 0, i, h, _ => by omega
 | n + 1, i, h, hl => by
   obtain ⟨x, hx⟩ : ∃ x, e[i]? = some x := ⟨e[i], List.getElem?_eq_getElem hl⟩
   have hk2 : kidsIn (e.map (mapX ν)) := fun j y hy k hkk => by
     rw [List.getElem?_map] at hy
     cases hj : e[j]? with
     | none => rw [hj] at hy; cases hy
     | some z => rw [hj] at hy; cases hy; exact hk j z hj k hkk
   rw [growLR_node hk2 p _ (x := mapX ν x) (by rw [List.getElem?_map, hx]; rfl), growLR_node hk p X hx]
   by_cases hp : i = p
   · rw [if_pos hp, if_pos hp]
   · rw [if_neg hp, if_neg hp]
     simp only [mapT, mapTs_eq, mapX, List.map_map, Tr.mk.injEq, true_and, and_true]
     refine List.map_congr_left fun q hq => ?_
     have := hk i x hx q hq
     exact growLR_map hk p X n q.toNat (by omega) (by omega)
end
end Go.CoreX
