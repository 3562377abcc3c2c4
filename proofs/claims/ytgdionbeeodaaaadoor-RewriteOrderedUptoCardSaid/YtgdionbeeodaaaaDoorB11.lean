/- Arithmetic of words, walked. -/
import Derived.Test.YtgdionbeeodaaaaDoorB10
set_option maxRecDepth 10000
set_option linter.unusedVariables false
set_option linter.unusedSimpArgs false
namespace Go.Abs
def adI (a b : Int) : Int := bI (BitVec.ofInt 64 a &&& BitVec.ofInt 64 b)
theorem AStep.and {E : Env} {o : Oper} {fr : Fr} {σ : St} {t yt : TypeId} {x y : Operand} {a b : Int} (ho : o.op = .binOp .and t x y yt) (hx : aEval E.Γ fr x = some (.one (.lit (.int .i64 a)))) (hy : aEval E.Γ fr y = some (.one (.lit (.int .i64 b)))) : AStep E o fr σ (.one (.lit (.int .i64 (adI a b)))) σ := by
 refine AStep.quiet fun F w C tmps hi hf => ⟨.int .i64 (adI a b), ?_, rfl, rfl⟩
 have h1 := aEval_ok (a := ⟨tmps, []⟩) hi hf hx
 have h2 := aEval_ok (a := ⟨tmps, []⟩) hi hf hy
 simp only [RF, R] at h1 h2
 unfold execOp
 simp only [ho, h1.1, h2.1, eqGuard_at_int, Sem.run_bind, Sem.run_pure, Result.andThen_ok]
 rfl
theorem adI_mask (a : Int) : adI a 2147483647 = a % 2147483648 := by
 have h1 : (BitVec.ofInt 64 a &&& BitVec.ofInt 64 2147483647).toNat = (a % 2147483648).toNat := by
   rw [BitVec.toNat_and, show (BitVec.ofInt 64 2147483647).toNat = 2 ^ 31 - 1 by decide, Nat.and_two_pow_sub_one_eq_mod]
   rw [BitVec.toNat_ofInt]
   have h2 : a % 2147483648 = a % 18446744073709551616 % 2147483648 := (Int.emod_emod_of_dvd a (by decide)).symm
   rw [h2]
   have h3 : 0 ≤ a % 18446744073709551616 := Int.emod_nonneg _ (by decide)
   rw [show ((2 ^ 64 : Nat) : Int) = 18446744073709551616 by decide]
   omega
 unfold adI bI
 rw [h1]
 have h4 : 0 ≤ a % 2147483648 := Int.emod_nonneg _ (by decide)
 have h5 : a % 2147483648 < 2147483648 := Int.emod_lt_of_pos _ (by decide)
 simp [IntKind.wrap, IntKind.signed, IntKind.bits, Int.bmod]
 omega
theorem AOps.atDst {E : Env} {ops : Array Oper} {l : List Oper} {o : Oper} {K : Cont} {fr : Fr} {σ : St} (d : Nat) (h : o.dst = some d) (k : AOps E ops (o :: l) K fr σ) : AOps E ops (o :: l) K fr σ := k
end Go.Abs
namespace Go.Proofs.YtgdionbeeodaaaaDoor
open Go Go.Abs Go.CoreX
variable {Γ : List (Nat × List AC)}
theorem wrap_ok (n : Int) (h0 : -4611686018427387904 ≤ n) (h1 : n ≤ 4611686018427387904) : APure Tryd.prog Γ 113 [.one (int n)] (.one (int (wrapI n))) := by
 intro ou
 refine AFn.walk 7 tabOk Tryd.func113 rfl (by kernel_rfl) rfl rfl fun hou => ?_
 refine zM ?_
 refine AOps.step1 rfl rfl rfl (AStep.and rfl rfl rfl) ?_
 rw [adI_mask]
 have h4 : 0 ≤ (n - (-1073741824)) % 2147483648 := Int.emod_nonneg _ (by decide)
 have h5 : (n - (-1073741824)) % 2147483648 < 2147483648 := Int.emod_lt_of_pos _ (by decide)
 refine zM ?_
 refine APure.fin rfl (WkF.ofEq ?_) (by simp) hou rfl
 unfold wrapI
 congr 3
theorem mul_bound {a b : Int} (ha : -1073741824 ≤ a ∧ a ≤ 1073741823) (hb : -1073741824 ≤ b ∧ b ≤ 1073741823) : -1152921504606846976 ≤ a * b ∧ a * b ≤ 1152921504606846976 := by
 have h1 : (a * b).natAbs ≤ 1073741824 * 1073741824 := by
   rw [Int.natAbs_mul]
   exact Nat.mul_le_mul (by omega) (by omega)
 omega
theorem tdiv_bound {a : Int} (b : Int) (ha : -1073741824 ≤ a ∧ a ≤ 1073741823) : -1073741824 ≤ a.tdiv b ∧ a.tdiv b ≤ 1073741824 := by
 have h1 : (a.tdiv b).natAbs ≤ a.natAbs := by
   rw [Int.natAbs_tdiv]; exact Nat.div_le_self _ _
 omega
theorem tmod_bound {a : Int} (b : Int) (ha : -1073741824 ≤ a ∧ a ≤ 1073741823) : -1073741824 ≤ a.tmod b ∧ a.tmod b ≤ 1073741824 := by
 have h1 : (a.tmod b).natAbs ≤ a.natAbs := by
   rw [Int.natAbs_tmod]; exact Nat.mod_le _ _
 omega
set_option maxHeartbeats 2000000 in
theorem arith_ok (hΓ : ∀ g cs, (g, cs) ∈ Γ → idsL isO cs) (i : Nat) (o n : Int) (b : List Int) (x y : LTr) (a : List LAlt) (hrx : (erT x).op = 1 → -1073741824 ≤ (erT x).n ∧ (erT x).n ≤ 1073741823) (hry : (erT y).op = 1 → -1073741824 ≤ (erT y).n ∧ (erT y).n ≤ 1073741823) (ou : Outer) (ho : Owns ou (objs (.mk i o n none b [x, y] a))) :
   AFn Tryd.prog Γ 83 [.one (.ptr (.o i) 0)] ou (ResD ou (.mk i o n none b [x, y] a) (arithT (erT (.mk i o n none b [x, y] a)))) := by
 have hi : ou i = some (.cells (lC (.mk i o n none b [x, y] a))) := owns_node ho
 simp only [lC, bC] at hi
 have hxo := owns_kid ho (s := x) (by simp [LTr.kids])
 have hyo := owns_kid ho (s := y) (by simp [LTr.kids])
 cases x with
 | mk jx ox nx nbx bx kx ax =>
 cases y with
 | mk jy oy ny nby by' ky ay =>
 have hx : ou jx = some (.cells (lC (.mk jx ox nx nbx bx kx ax))) := owns_node hxo
 have hy : ou jy = some (.cells (lC (.mk jy oy ny nby by' ky ay))) := owns_node hyo
 simp only [lC] at hx hy
 obtain ⟨X, hX⟩ : ∃ X, X = arithT (erT (.mk i o n none b [.mk jx ox nx nbx bx kx ax, .mk jy oy ny nby by' ky ay] a)) := ⟨_, rfl⟩
 rw [← hX]
 have hA : X = if n > 6 ∨ ox ≠ 1 ∨ oy ≠ 1 then none
   else if n = 0 then some (wordT (wrapI (nx + ny)))
   else if n = 1 then some (wordT (wrapI (nx - ny)))
   else if n = 2 then some (wordT (wrapI (nx * ny)))
   else if n = 3 then (if ny = 0 then none else some (wordT (wrapI (nx.tdiv ny))))
   else if n = 4 then (if ny = 0 then none else some (wordT (wrapI (nx.tmod ny))))
   else if n = 6 then some (flagT (nx == ny))
   else if n = 5 then some (flagT (decide (nx < ny)))
   else some (wordT (wrapI 0)) := hX
 clear hX
 generalize hT : LTr.mk i o n none b [.mk jx ox nx nbx bx kx ax, .mk jy oy ny nby by' ky ay] a = t
 refine AFn.walk 114 tabOk Tryd.func83 rfl (by kernel_rfl) rfl rfl fun hou => ?_
 by_cases hbad : n > 6 ∨ ox ≠ 1 ∨ oy ≠ 1
 · rw [if_pos hbad] at hA
   repeat' first | refine zN ?_ | ((with_reducible refine oj ?_); first | refine zix ?_ | refine zow rfl rfl hi ?_ | refine zow rfl rfl hx ?_ | refine zow rfl rfl hy ?_) | (with_reducible refine oj ?_; refine AOps.splitS rfl rfl rfl rfl (fun hb => ?_) (fun hb => ?_)) | (with_reducible refine ok ?_; first | refine ACode.condS rfl (fun hb => ?_) (fun hb => ?_) | refine ACode.cond rfl (fun hb => ?_) (fun hb => ?_))
   all_goals first
     | (exfalso; simp at *; omega)
     | skip
   all_goals exact AFn.fin' rfl (WkF.refl _) (by simp) hou (by rw [hA]; exact ResD.no rfl hou)
 rw [if_neg hbad] at hA
 obtain ⟨hn6, rfl, rfl⟩ : n ≤ 6 ∧ ox = 1 ∧ oy = 1 := by omega
 have hrx := hrx rfl
 have hry := hry rfl
 simp only [erT, Tr.n_mk] at hrx hry
 rcases (by omega : n = 0 ∨ n = 1 ∨ n = 2 ∨ n = 3 ∨ n = 4 ∨ n = 5 ∨ n = 6 ∨ n < 0) with rfl | rfl | rfl | rfl | rfl | rfl | rfl | hneg
 · repeat' first | refine zN ?_ | ((with_reducible refine oj ?_); first | refine zix ?_ | refine zow rfl rfl hi ?_ | refine zow rfl rfl hx ?_ | refine zow rfl rfl hy ?_)
   refine ACode.drawX tabOk 19 [(3, .one (.sl 1 (kC [.mk jx 1 nx nbx bx kx ax, .mk jy 1 ny nby by' ky ay]))), (4, .one (.box [.ptr (.o jx) 0])), (8, .one (int nx)), (12, .one (.sl 1 (kC [.mk jx 1 nx nbx bx kx ax, .mk jy 1 ny nby by' ky ay]))), (13, .one (.box [.ptr (.o jy) 0])), (17, .one (int ny))] follows (by kernel_rfl) rfl rfl rfl rfl ?_ ?_
   · refine .step rfl (HStep.plain rfl (AStep.loadOwn tabOk rfl rfl rfl rfl rfl hi rfl)) ?_
     refine .step rfl (HStep.plain rfl (AStep.indexAddr tabOk rfl rfl rfl rfl rfl rfl (.inl rfl) rfl (by decide) rfl)) ?_
     refine .step rfl (HStep.plain rfl (AStep.loadOwn tabOk rfl rfl rfl rfl rfl hx rfl)) ?_
     refine .step rfl (HStep.plain rfl (AStep.loadOwn tabOk rfl rfl rfl rfl rfl hi rfl)) ?_
     refine .step rfl (HStep.plain rfl (AStep.indexAddr tabOk rfl rfl rfl rfl rfl rfl (.inl rfl) rfl (by decide) rfl)) ?_
     exact .step rfl (HStep.plain rfl (AStep.loadOwn tabOk rfl rfl rfl rfl rfl hy rfl)) .nil
   repeat ((fail_if_success ((with_reducible refine oj ?_); refine AOps.atDst 104 rfl ?_)); first | refine zO ?_ | ((with_reducible refine oj ?_); first | refine zix ?_ | refine zow rfl rfl hi ?_ | refine zow rfl rfl hx ?_ | refine zow rfl rfl hy ?_))
   refine zca hΓ (wrap_ok (nx + ny) (by omega) (by omega)) hou ?_
   repeat ((fail_if_success ((with_reducible refine oj ?_); refine AOps.atDst 2 rfl ?_)); first | refine zO ?_)
   refine AOps.wkObj (.l 0) rfl (cs' := lC (.mk 0 1 (wrapI (nx + ny)) none [] [] [])) (fun w C xs h => ?_) ?_
   · exact (show WkL _ _ from .cons (.refl _) (.cons (.refl _) (.cons (.nilS 1) (.cons (.nilS 1) (.cons (.nilS 2) .nil))))) w C xs h
   refine AOps.cedes [0] rfl (by decide) hou fun k hk => ⟨[(106, .one (.ptr (.o k) 0))], [], [.cells (lC (.mk k 1 (wrapI (nx + ny)) none [] [] []))], .cons rfl rfl .nil, .nil, ?_, ?_⟩
   · exact .cons rfl rfl .nil
   have hN := NewO.add hk hou (show (AObj.cells (lC (.mk k 1 (wrapI (nx + ny)) none [] [] []))).ids isO by simp [lC, bC, kC])
   refine zA ?_
   refine AFn.fin' rfl (WkF.refl _) (by simp) hN.ok ?_
   rw [hA]
   exact ⟨.mk k 1 (wrapI (nx + ny)) none [] [] [], rfl, rfl, Der.node (u := .mk k 1 (wrapI (nx + ny)) none [] [] []) (fun _ _ h => h) hN (fun p hp => by simp [tailO, bO, aO, objss] at hp)⟩
 · repeat' first | refine zN ?_ | ((with_reducible refine oj ?_); first | refine zix ?_ | refine zow rfl rfl hi ?_ | refine zow rfl rfl hx ?_ | refine zow rfl rfl hy ?_)
   refine ACode.drawX tabOk 19 [(3, .one (.sl 1 (kC [.mk jx 1 nx nbx bx kx ax, .mk jy 1 ny nby by' ky ay]))), (4, .one (.box [.ptr (.o jx) 0])), (8, .one (int nx)), (12, .one (.sl 1 (kC [.mk jx 1 nx nbx bx kx ax, .mk jy 1 ny nby by' ky ay]))), (13, .one (.box [.ptr (.o jy) 0])), (17, .one (int ny))] follows (by kernel_rfl) rfl rfl rfl rfl ?_ ?_
   · refine .step rfl (HStep.plain rfl (AStep.loadOwn tabOk rfl rfl rfl rfl rfl hi rfl)) ?_
     refine .step rfl (HStep.plain rfl (AStep.indexAddr tabOk rfl rfl rfl rfl rfl rfl (.inl rfl) rfl (by decide) rfl)) ?_
     refine .step rfl (HStep.plain rfl (AStep.loadOwn tabOk rfl rfl rfl rfl rfl hx rfl)) ?_
     refine .step rfl (HStep.plain rfl (AStep.loadOwn tabOk rfl rfl rfl rfl rfl hi rfl)) ?_
     refine .step rfl (HStep.plain rfl (AStep.indexAddr tabOk rfl rfl rfl rfl rfl rfl (.inl rfl) rfl (by decide) rfl)) ?_
     exact .step rfl (HStep.plain rfl (AStep.loadOwn tabOk rfl rfl rfl rfl rfl hy rfl)) .nil
   repeat ((fail_if_success ((with_reducible refine oj ?_); refine AOps.atDst 104 rfl ?_)); first | refine zO ?_ | ((with_reducible refine oj ?_); first | refine zix ?_ | refine zow rfl rfl hi ?_ | refine zow rfl rfl hx ?_ | refine zow rfl rfl hy ?_))
   refine zca hΓ (wrap_ok (nx - ny) (by omega) (by omega)) hou ?_
   repeat ((fail_if_success ((with_reducible refine oj ?_); refine AOps.atDst 2 rfl ?_)); first | refine zO ?_)
   refine AOps.wkObj (.l 0) rfl (cs' := lC (.mk 0 1 (wrapI (nx - ny)) none [] [] [])) (fun w C xs h => ?_) ?_
   · exact (show WkL _ _ from .cons (.refl _) (.cons (.refl _) (.cons (.nilS 1) (.cons (.nilS 1) (.cons (.nilS 2) .nil))))) w C xs h
   refine AOps.cedes [0] rfl (by decide) hou fun k hk => ⟨[(106, .one (.ptr (.o k) 0))], [], [.cells (lC (.mk k 1 (wrapI (nx - ny)) none [] [] []))], .cons rfl rfl .nil, .nil, ?_, ?_⟩
   · exact .cons rfl rfl .nil
   have hN := NewO.add hk hou (show (AObj.cells (lC (.mk k 1 (wrapI (nx - ny)) none [] [] []))).ids isO by simp [lC, bC, kC])
   refine zA ?_
   refine AFn.fin' rfl (WkF.refl _) (by simp) hN.ok ?_
   rw [hA]
   exact ⟨.mk k 1 (wrapI (nx - ny)) none [] [] [], rfl, rfl, Der.node (u := .mk k 1 (wrapI (nx - ny)) none [] [] []) (fun _ _ h => h) hN (fun p hp => by simp [tailO, bO, aO, objss] at hp)⟩
 · repeat' first | refine zN ?_ | ((with_reducible refine oj ?_); first | refine zix ?_ | refine zow rfl rfl hi ?_ | refine zow rfl rfl hx ?_ | refine zow rfl rfl hy ?_)
   refine ACode.drawX tabOk 19 [(3, .one (.sl 1 (kC [.mk jx 1 nx nbx bx kx ax, .mk jy 1 ny nby by' ky ay]))), (4, .one (.box [.ptr (.o jx) 0])), (8, .one (int nx)), (12, .one (.sl 1 (kC [.mk jx 1 nx nbx bx kx ax, .mk jy 1 ny nby by' ky ay]))), (13, .one (.box [.ptr (.o jy) 0])), (17, .one (int ny))] follows (by kernel_rfl) rfl rfl rfl rfl ?_ ?_
   · refine .step rfl (HStep.plain rfl (AStep.loadOwn tabOk rfl rfl rfl rfl rfl hi rfl)) ?_
     refine .step rfl (HStep.plain rfl (AStep.indexAddr tabOk rfl rfl rfl rfl rfl rfl (.inl rfl) rfl (by decide) rfl)) ?_
     refine .step rfl (HStep.plain rfl (AStep.loadOwn tabOk rfl rfl rfl rfl rfl hx rfl)) ?_
     refine .step rfl (HStep.plain rfl (AStep.loadOwn tabOk rfl rfl rfl rfl rfl hi rfl)) ?_
     refine .step rfl (HStep.plain rfl (AStep.indexAddr tabOk rfl rfl rfl rfl rfl rfl (.inl rfl) rfl (by decide) rfl)) ?_
     exact .step rfl (HStep.plain rfl (AStep.loadOwn tabOk rfl rfl rfl rfl rfl hy rfl)) .nil
   have hm := mul_bound hrx hry
   repeat' first | refine zN ?_ | ((with_reducible refine oj ?_); first | refine zix ?_ | refine zow rfl rfl hi ?_ | refine zow rfl rfl hx ?_ | refine zow rfl rfl hy ?_)
   refine AOps.step1 rfl rfl rfl (AStep.arith (r := nx * ny) rfl rfl rfl (.inr (.inr ⟨rfl, rfl⟩)) (inRange_i64 (by omega) (by omega))) ?_
   repeat ((fail_if_success ((with_reducible refine oj ?_); refine AOps.atDst 104 rfl ?_)); first | refine zO ?_ | ((with_reducible refine oj ?_); first | refine zix ?_ | refine zow rfl rfl hi ?_ | refine zow rfl rfl hx ?_ | refine zow rfl rfl hy ?_))
   refine zca hΓ (wrap_ok (nx * ny) (by omega) (by omega)) hou ?_
   repeat ((fail_if_success ((with_reducible refine oj ?_); refine AOps.atDst 2 rfl ?_)); first | refine zO ?_)
   refine AOps.wkObj (.l 0) rfl (cs' := lC (.mk 0 1 (wrapI (nx * ny)) none [] [] [])) (fun w C xs h => ?_) ?_
   · exact (show WkL _ _ from .cons (.refl _) (.cons (.refl _) (.cons (.nilS 1) (.cons (.nilS 1) (.cons (.nilS 2) .nil))))) w C xs h
   refine AOps.cedes [0] rfl (by decide) hou fun k hk => ⟨[(106, .one (.ptr (.o k) 0))], [], [.cells (lC (.mk k 1 (wrapI (nx * ny)) none [] [] []))], .cons rfl rfl .nil, .nil, ?_, ?_⟩
   · exact .cons rfl rfl .nil
   have hN := NewO.add hk hou (show (AObj.cells (lC (.mk k 1 (wrapI (nx * ny)) none [] [] []))).ids isO by simp [lC, bC, kC])
   refine zA ?_
   refine AFn.fin' rfl (WkF.refl _) (by simp) hN.ok ?_
   rw [hA]
   exact ⟨.mk k 1 (wrapI (nx * ny)) none [] [] [], rfl, rfl, Der.node (u := .mk k 1 (wrapI (nx * ny)) none [] [] []) (fun _ _ h => h) hN (fun p hp => by simp [tailO, bO, aO, objss] at hp)⟩
 · repeat' first | refine zN ?_ | ((with_reducible refine oj ?_); first | refine zix ?_ | refine zow rfl rfl hi ?_ | refine zow rfl rfl hx ?_ | refine zow rfl rfl hy ?_)
   refine ACode.drawX tabOk 19 [(3, .one (.sl 1 (kC [.mk jx 1 nx nbx bx kx ax, .mk jy 1 ny nby by' ky ay]))), (4, .one (.box [.ptr (.o jx) 0])), (8, .one (int nx)), (12, .one (.sl 1 (kC [.mk jx 1 nx nbx bx kx ax, .mk jy 1 ny nby by' ky ay]))), (13, .one (.box [.ptr (.o jy) 0])), (17, .one (int ny))] follows (by kernel_rfl) rfl rfl rfl rfl ?_ ?_
   · refine .step rfl (HStep.plain rfl (AStep.loadOwn tabOk rfl rfl rfl rfl rfl hi rfl)) ?_
     refine .step rfl (HStep.plain rfl (AStep.indexAddr tabOk rfl rfl rfl rfl rfl rfl (.inl rfl) rfl (by decide) rfl)) ?_
     refine .step rfl (HStep.plain rfl (AStep.loadOwn tabOk rfl rfl rfl rfl rfl hx rfl)) ?_
     refine .step rfl (HStep.plain rfl (AStep.loadOwn tabOk rfl rfl rfl rfl rfl hi rfl)) ?_
     refine .step rfl (HStep.plain rfl (AStep.indexAddr tabOk rfl rfl rfl rfl rfl rfl (.inl rfl) rfl (by decide) rfl)) ?_
     exact .step rfl (HStep.plain rfl (AStep.loadOwn tabOk rfl rfl rfl rfl rfl hy rfl)) .nil
   repeat' first | refine zN ?_ | ((with_reducible refine oj ?_); first | refine zix ?_ | refine zow rfl rfl hi ?_ | refine zow rfl rfl hx ?_ | refine zow rfl rfl hy ?_)
   have hd := tdiv_bound ny hrx
   have hmo := tmod_bound ny hrx
   refine ACode.condS rfl (fun h0 => ?_) (fun h0 => ?_)
   · have h0' : ny = 0 := by simpa using h0
     refine zA ?_
     rw [if_neg (by decide), if_neg (by decide), if_neg (by decide), if_pos rfl, if_pos h0'] at hA
     exact AFn.fin' rfl (WkF.refl _) (by simp) hou (by rw [hA]; exact ResD.no rfl hou)
   have h0' : ny ≠ 0 := by simpa using h0
   rw [if_neg (by decide), if_neg (by decide), if_neg (by decide), if_pos rfl, if_neg h0'] at hA
   repeat' first | refine zN ?_ | ((with_reducible refine oj ?_); first | refine zix ?_ | refine zow rfl rfl hi ?_ | refine zow rfl rfl hx ?_ | refine zow rfl rfl hy ?_)
   refine AOps.step1 rfl rfl rfl (AStep.quo rfl rfl rfl h0' (inRange_i64 (by omega) (by omega))) ?_
   repeat ((fail_if_success ((with_reducible refine oj ?_); refine AOps.atDst 104 rfl ?_)); first | refine zO ?_ | ((with_reducible refine oj ?_); first | refine zix ?_ | refine zow rfl rfl hi ?_ | refine zow rfl rfl hx ?_ | refine zow rfl rfl hy ?_))
   refine zca hΓ (wrap_ok (nx.tdiv ny) (by omega) (by omega)) hou ?_
   repeat ((fail_if_success ((with_reducible refine oj ?_); refine AOps.atDst 2 rfl ?_)); first | refine zO ?_)
   refine AOps.wkObj (.l 0) rfl (cs' := lC (.mk 0 1 (wrapI (nx.tdiv ny)) none [] [] [])) (fun w C xs h => ?_) ?_
   · exact (show WkL _ _ from .cons (.refl _) (.cons (.refl _) (.cons (.nilS 1) (.cons (.nilS 1) (.cons (.nilS 2) .nil))))) w C xs h
   refine AOps.cedes [0] rfl (by decide) hou fun k hk => ⟨[(106, .one (.ptr (.o k) 0))], [], [.cells (lC (.mk k 1 (wrapI (nx.tdiv ny)) none [] [] []))], .cons rfl rfl .nil, .nil, ?_, ?_⟩
   · exact .cons rfl rfl .nil
   have hN := NewO.add hk hou (show (AObj.cells (lC (.mk k 1 (wrapI (nx.tdiv ny)) none [] [] []))).ids isO by simp [lC, bC, kC])
   refine zA ?_
   refine AFn.fin' rfl (WkF.refl _) (by simp) hN.ok ?_
   rw [hA]
   exact ⟨.mk k 1 (wrapI (nx.tdiv ny)) none [] [] [], rfl, rfl, Der.node (u := .mk k 1 (wrapI (nx.tdiv ny)) none [] [] []) (fun _ _ h => h) hN (fun p hp => by simp [tailO, bO, aO, objss] at hp)⟩
 · repeat' first | refine zN ?_ | ((with_reducible refine oj ?_); first | refine zix ?_ | refine zow rfl rfl hi ?_ | refine zow rfl rfl hx ?_ | refine zow rfl rfl hy ?_)
   refine ACode.drawX tabOk 19 [(3, .one (.sl 1 (kC [.mk jx 1 nx nbx bx kx ax, .mk jy 1 ny nby by' ky ay]))), (4, .one (.box [.ptr (.o jx) 0])), (8, .one (int nx)), (12, .one (.sl 1 (kC [.mk jx 1 nx nbx bx kx ax, .mk jy 1 ny nby by' ky ay]))), (13, .one (.box [.ptr (.o jy) 0])), (17, .one (int ny))] follows (by kernel_rfl) rfl rfl rfl rfl ?_ ?_
   · refine .step rfl (HStep.plain rfl (AStep.loadOwn tabOk rfl rfl rfl rfl rfl hi rfl)) ?_
     refine .step rfl (HStep.plain rfl (AStep.indexAddr tabOk rfl rfl rfl rfl rfl rfl (.inl rfl) rfl (by decide) rfl)) ?_
     refine .step rfl (HStep.plain rfl (AStep.loadOwn tabOk rfl rfl rfl rfl rfl hx rfl)) ?_
     refine .step rfl (HStep.plain rfl (AStep.loadOwn tabOk rfl rfl rfl rfl rfl hi rfl)) ?_
     refine .step rfl (HStep.plain rfl (AStep.indexAddr tabOk rfl rfl rfl rfl rfl rfl (.inl rfl) rfl (by decide) rfl)) ?_
     exact .step rfl (HStep.plain rfl (AStep.loadOwn tabOk rfl rfl rfl rfl rfl hy rfl)) .nil
   repeat' first | refine zN ?_ | ((with_reducible refine oj ?_); first | refine zix ?_ | refine zow rfl rfl hi ?_ | refine zow rfl rfl hx ?_ | refine zow rfl rfl hy ?_)
   have hd := tdiv_bound ny hrx
   have hmo := tmod_bound ny hrx
   refine ACode.condS rfl (fun h0 => ?_) (fun h0 => ?_)
   · have h0' : ny = 0 := by simpa using h0
     refine zA ?_
     rw [if_neg (by decide), if_neg (by decide), if_neg (by decide), if_neg (by decide), if_pos rfl, if_pos h0'] at hA
     exact AFn.fin' rfl (WkF.refl _) (by simp) hou (by rw [hA]; exact ResD.no rfl hou)
   have h0' : ny ≠ 0 := by simpa using h0
   rw [if_neg (by decide), if_neg (by decide), if_neg (by decide), if_neg (by decide), if_pos rfl, if_neg h0'] at hA
   repeat' first | refine zN ?_ | ((with_reducible refine oj ?_); first | refine zix ?_ | refine zow rfl rfl hi ?_ | refine zow rfl rfl hx ?_ | refine zow rfl rfl hy ?_)
   refine AOps.step1 rfl rfl rfl (AStep.quo rfl rfl rfl h0' (inRange_i64 (by omega) (by omega))) ?_
   repeat' first | refine zN ?_ | ((with_reducible refine oj ?_); first | refine zix ?_ | refine zow rfl rfl hi ?_ | refine zow rfl rfl hx ?_ | refine zow rfl rfl hy ?_)
   refine AOps.step1 rfl rfl rfl (AStep.rem rfl rfl rfl h0') ?_
   repeat ((fail_if_success ((with_reducible refine oj ?_); refine AOps.atDst 104 rfl ?_)); first | refine zO ?_ | ((with_reducible refine oj ?_); first | refine zix ?_ | refine zow rfl rfl hi ?_ | refine zow rfl rfl hx ?_ | refine zow rfl rfl hy ?_))
   refine zca hΓ (wrap_ok (nx.tmod ny) (by omega) (by omega)) hou ?_
   repeat ((fail_if_success ((with_reducible refine oj ?_); refine AOps.atDst 2 rfl ?_)); first | refine zO ?_)
   refine AOps.wkObj (.l 0) rfl (cs' := lC (.mk 0 1 (wrapI (nx.tmod ny)) none [] [] [])) (fun w C xs h => ?_) ?_
   · exact (show WkL _ _ from .cons (.refl _) (.cons (.refl _) (.cons (.nilS 1) (.cons (.nilS 1) (.cons (.nilS 2) .nil))))) w C xs h
   refine AOps.cedes [0] rfl (by decide) hou fun k hk => ⟨[(106, .one (.ptr (.o k) 0))], [], [.cells (lC (.mk k 1 (wrapI (nx.tmod ny)) none [] [] []))], .cons rfl rfl .nil, .nil, ?_, ?_⟩
   · exact .cons rfl rfl .nil
   have hN := NewO.add hk hou (show (AObj.cells (lC (.mk k 1 (wrapI (nx.tmod ny)) none [] [] []))).ids isO by simp [lC, bC, kC])
   refine zA ?_
   refine AFn.fin' rfl (WkF.refl _) (by simp) hN.ok ?_
   rw [hA]
   exact ⟨.mk k 1 (wrapI (nx.tmod ny)) none [] [] [], rfl, rfl, Der.node (u := .mk k 1 (wrapI (nx.tmod ny)) none [] [] []) (fun _ _ h => h) hN (fun p hp => by simp [tailO, bO, aO, objss] at hp)⟩
 · repeat' first | refine zN ?_ | ((with_reducible refine oj ?_); first | refine zix ?_ | refine zow rfl rfl hi ?_ | refine zow rfl rfl hx ?_ | refine zow rfl rfl hy ?_)
   refine ACode.drawX tabOk 19 [(3, .one (.sl 1 (kC [.mk jx 1 nx nbx bx kx ax, .mk jy 1 ny nby by' ky ay]))), (4, .one (.box [.ptr (.o jx) 0])), (8, .one (int nx)), (12, .one (.sl 1 (kC [.mk jx 1 nx nbx bx kx ax, .mk jy 1 ny nby by' ky ay]))), (13, .one (.box [.ptr (.o jy) 0])), (17, .one (int ny))] follows (by kernel_rfl) rfl rfl rfl rfl ?_ ?_
   · refine .step rfl (HStep.plain rfl (AStep.loadOwn tabOk rfl rfl rfl rfl rfl hi rfl)) ?_
     refine .step rfl (HStep.plain rfl (AStep.indexAddr tabOk rfl rfl rfl rfl rfl rfl (.inl rfl) rfl (by decide) rfl)) ?_
     refine .step rfl (HStep.plain rfl (AStep.loadOwn tabOk rfl rfl rfl rfl rfl hx rfl)) ?_
     refine .step rfl (HStep.plain rfl (AStep.loadOwn tabOk rfl rfl rfl rfl rfl hi rfl)) ?_
     refine .step rfl (HStep.plain rfl (AStep.indexAddr tabOk rfl rfl rfl rfl rfl rfl (.inl rfl) rfl (by decide) rfl)) ?_
     exact .step rfl (HStep.plain rfl (AStep.loadOwn tabOk rfl rfl rfl rfl rfl hy rfl)) .nil
   repeat' first | refine zN ?_ | ((with_reducible refine oj ?_); first | refine zix ?_ | refine zow rfl rfl hi ?_ | refine zow rfl rfl hx ?_ | refine zow rfl rfl hy ?_)
   refine ACode.condS rfl (fun hB => ?_) (fun hB => ?_)
   · have hB' : nx < ny := by simpa using hB
     have hA : X = some (flagT true) := by rw [hA]; simp [hB']
     repeat ((fail_if_success ((with_reducible refine oj ?_); refine AOps.atDst 2 rfl ?_)); first | refine zO ?_)
     refine AOps.wkObj (.l 0) rfl (cs' := lC (.mk 0 6 (1) none [] [] [])) (fun w C xs h => ?_) ?_
     · exact (show WkL _ _ from .cons (.refl _) (.cons (.refl _) (.cons (.nilS 1) (.cons (.nilS 1) (.cons (.nilS 2) .nil))))) w C xs h
     refine AOps.cedes [0] rfl (by decide) hou fun k hk => ⟨[(113, .one (.ptr (.o k) 0))], [], [.cells (lC (.mk k 6 (1) none [] [] []))], .cons rfl rfl .nil, .nil, ?_, ?_⟩
     · exact .cons rfl rfl .nil
     have hN := NewO.add hk hou (show (AObj.cells (lC (.mk k 6 (1) none [] [] []))).ids isO by simp [lC, bC, kC])
     refine zA ?_
     refine AFn.fin' rfl (WkF.refl _) (by simp) hN.ok ?_
     rw [hA]
     exact ⟨.mk k 6 (1) none [] [] [], rfl, rfl, Der.node (u := .mk k 6 (1) none [] [] []) (fun _ _ h => h) hN (fun p hp => by simp [tailO, bO, aO, objss] at hp)⟩
   · have hB' : ¬ nx < ny := by simpa using hB
     have hA : X = some (flagT false) := by rw [hA]; simp [hB']
     repeat ((fail_if_success ((with_reducible refine oj ?_); refine AOps.atDst 2 rfl ?_)); first | refine zO ?_)
     refine AOps.wkObj (.l 0) rfl (cs' := lC (.mk 0 6 (0) none [] [] [])) (fun w C xs h => ?_) ?_
     · exact (show WkL _ _ from .cons (.refl _) (.cons (.refl _) (.cons (.nilS 1) (.cons (.nilS 1) (.cons (.nilS 2) .nil))))) w C xs h
     refine AOps.cedes [0] rfl (by decide) hou fun k hk => ⟨[(113, .one (.ptr (.o k) 0))], [], [.cells (lC (.mk k 6 (0) none [] [] []))], .cons rfl rfl .nil, .nil, ?_, ?_⟩
     · exact .cons rfl rfl .nil
     have hN := NewO.add hk hou (show (AObj.cells (lC (.mk k 6 (0) none [] [] []))).ids isO by simp [lC, bC, kC])
     refine zA ?_
     refine AFn.fin' rfl (WkF.refl _) (by simp) hN.ok ?_
     rw [hA]
     exact ⟨.mk k 6 (0) none [] [] [], rfl, rfl, Der.node (u := .mk k 6 (0) none [] [] []) (fun _ _ h => h) hN (fun p hp => by simp [tailO, bO, aO, objss] at hp)⟩
 · repeat' first | refine zN ?_ | ((with_reducible refine oj ?_); first | refine zix ?_ | refine zow rfl rfl hi ?_ | refine zow rfl rfl hx ?_ | refine zow rfl rfl hy ?_)
   refine ACode.drawX tabOk 19 [(3, .one (.sl 1 (kC [.mk jx 1 nx nbx bx kx ax, .mk jy 1 ny nby by' ky ay]))), (4, .one (.box [.ptr (.o jx) 0])), (8, .one (int nx)), (12, .one (.sl 1 (kC [.mk jx 1 nx nbx bx kx ax, .mk jy 1 ny nby by' ky ay]))), (13, .one (.box [.ptr (.o jy) 0])), (17, .one (int ny))] follows (by kernel_rfl) rfl rfl rfl rfl ?_ ?_
   · refine .step rfl (HStep.plain rfl (AStep.loadOwn tabOk rfl rfl rfl rfl rfl hi rfl)) ?_
     refine .step rfl (HStep.plain rfl (AStep.indexAddr tabOk rfl rfl rfl rfl rfl rfl (.inl rfl) rfl (by decide) rfl)) ?_
     refine .step rfl (HStep.plain rfl (AStep.loadOwn tabOk rfl rfl rfl rfl rfl hx rfl)) ?_
     refine .step rfl (HStep.plain rfl (AStep.loadOwn tabOk rfl rfl rfl rfl rfl hi rfl)) ?_
     refine .step rfl (HStep.plain rfl (AStep.indexAddr tabOk rfl rfl rfl rfl rfl rfl (.inl rfl) rfl (by decide) rfl)) ?_
     exact .step rfl (HStep.plain rfl (AStep.loadOwn tabOk rfl rfl rfl rfl rfl hy rfl)) .nil
   repeat' first | refine zN ?_ | ((with_reducible refine oj ?_); first | refine zix ?_ | refine zow rfl rfl hi ?_ | refine zow rfl rfl hx ?_ | refine zow rfl rfl hy ?_)
   refine ACode.condS rfl (fun hB => ?_) (fun hB => ?_)
   · have hB' : nx = ny := by simpa using hB
     have hA : X = some (flagT true) := by rw [hA]; simp [hB']
     repeat ((fail_if_success ((with_reducible refine oj ?_); refine AOps.atDst 2 rfl ?_)); first | refine zO ?_)
     refine AOps.wkObj (.l 0) rfl (cs' := lC (.mk 0 6 (1) none [] [] [])) (fun w C xs h => ?_) ?_
     · exact (show WkL _ _ from .cons (.refl _) (.cons (.refl _) (.cons (.nilS 1) (.cons (.nilS 1) (.cons (.nilS 2) .nil))))) w C xs h
     refine AOps.cedes [0] rfl (by decide) hou fun k hk => ⟨[(113, .one (.ptr (.o k) 0))], [], [.cells (lC (.mk k 6 (1) none [] [] []))], .cons rfl rfl .nil, .nil, ?_, ?_⟩
     · exact .cons rfl rfl .nil
     have hN := NewO.add hk hou (show (AObj.cells (lC (.mk k 6 (1) none [] [] []))).ids isO by simp [lC, bC, kC])
     refine zA ?_
     refine AFn.fin' rfl (WkF.refl _) (by simp) hN.ok ?_
     rw [hA]
     exact ⟨.mk k 6 (1) none [] [] [], rfl, rfl, Der.node (u := .mk k 6 (1) none [] [] []) (fun _ _ h => h) hN (fun p hp => by simp [tailO, bO, aO, objss] at hp)⟩
   · have hB' : ¬ nx = ny := by simpa using hB
     have hA : X = some (flagT false) := by rw [hA]; simp [hB', beq_eq_false_iff_ne.2 hB']
     repeat ((fail_if_success ((with_reducible refine oj ?_); refine AOps.atDst 2 rfl ?_)); first | refine zO ?_)
     refine AOps.wkObj (.l 0) rfl (cs' := lC (.mk 0 6 (0) none [] [] [])) (fun w C xs h => ?_) ?_
     · exact (show WkL _ _ from .cons (.refl _) (.cons (.refl _) (.cons (.nilS 1) (.cons (.nilS 1) (.cons (.nilS 2) .nil))))) w C xs h
     refine AOps.cedes [0] rfl (by decide) hou fun k hk => ⟨[(113, .one (.ptr (.o k) 0))], [], [.cells (lC (.mk k 6 (0) none [] [] []))], .cons rfl rfl .nil, .nil, ?_, ?_⟩
     · exact .cons rfl rfl .nil
     have hN := NewO.add hk hou (show (AObj.cells (lC (.mk k 6 (0) none [] [] []))).ids isO by simp [lC, bC, kC])
     refine zA ?_
     refine AFn.fin' rfl (WkF.refl _) (by simp) hN.ok ?_
     rw [hA]
     exact ⟨.mk k 6 (0) none [] [] [], rfl, rfl, Der.node (u := .mk k 6 (0) none [] [] []) (fun _ _ h => h) hN (fun p hp => by simp [tailO, bO, aO, objss] at hp)⟩
 · repeat' first | refine zN ?_ | ((with_reducible refine oj ?_); first | refine zix ?_ | refine zow rfl rfl hi ?_ | refine zow rfl rfl hx ?_ | refine zow rfl rfl hy ?_) | (with_reducible refine oj ?_; refine AOps.splitS rfl rfl rfl rfl (fun hb => ?_) (fun hb => ?_)) | (with_reducible refine ok ?_; first | refine ACode.condS rfl (fun hb => ?_) (fun hb => ?_) | refine ACode.cond rfl (fun hb => ?_) (fun hb => ?_))
   all_goals first
     | (exfalso; simp at *; omega)
     | skip
   refine ACode.drawX tabOk 19 [(3, .one (.sl 1 (kC [.mk jx 1 nx nbx bx kx ax, .mk jy 1 ny nby by' ky ay]))), (4, .one (.box [.ptr (.o jx) 0])), (8, .one (int nx)), (12, .one (.sl 1 (kC [.mk jx 1 nx nbx bx kx ax, .mk jy 1 ny nby by' ky ay]))), (13, .one (.box [.ptr (.o jy) 0])), (17, .one (int ny))] follows (by kernel_rfl) rfl rfl rfl rfl ?_ ?_
   · refine .step rfl (HStep.plain rfl (AStep.loadOwn tabOk rfl rfl rfl rfl rfl hi rfl)) ?_
     refine .step rfl (HStep.plain rfl (AStep.indexAddr tabOk rfl rfl rfl rfl rfl rfl (.inl rfl) rfl (by decide) rfl)) ?_
     refine .step rfl (HStep.plain rfl (AStep.loadOwn tabOk rfl rfl rfl rfl rfl hx rfl)) ?_
     refine .step rfl (HStep.plain rfl (AStep.loadOwn tabOk rfl rfl rfl rfl rfl hi rfl)) ?_
     refine .step rfl (HStep.plain rfl (AStep.indexAddr tabOk rfl rfl rfl rfl rfl rfl (.inl rfl) rfl (by decide) rfl)) ?_
     exact .step rfl (HStep.plain rfl (AStep.loadOwn tabOk rfl rfl rfl rfl rfl hy rfl)) .nil
   repeat' ((fail_if_success ((with_reducible refine oj ?_); refine AOps.atDst 104 rfl ?_)); first | refine zO ?_ | ((with_reducible refine oj ?_); first | refine zix ?_ | refine zow rfl rfl hi ?_ | refine zow rfl rfl hx ?_ | refine zow rfl rfl hy ?_) | (with_reducible refine oj ?_; refine AOps.splitS rfl rfl rfl rfl (fun hb => ?_) (fun hb => ?_)) | (with_reducible refine ok ?_; first | refine ACode.condS rfl (fun hb => ?_) (fun hb => ?_) | refine ACode.cond rfl (fun hb => ?_) (fun hb => ?_)))
   all_goals first
     | (exfalso; simp at *; omega)
     | skip
   have hA : X = some (wordT (wrapI 0)) := by rw [hA, if_neg (by omega), if_neg (by omega), if_neg (by omega), if_neg (by omega), if_neg (by omega), if_neg (by omega), if_neg (by omega)]
   repeat ((fail_if_success ((with_reducible refine oj ?_); refine AOps.atDst 104 rfl ?_)); first | refine zO ?_ | ((with_reducible refine oj ?_); first | refine zix ?_ | refine zow rfl rfl hi ?_ | refine zow rfl rfl hx ?_ | refine zow rfl rfl hy ?_))
   refine zca hΓ (wrap_ok (0) (by omega) (by omega)) hou ?_
   repeat ((fail_if_success ((with_reducible refine oj ?_); refine AOps.atDst 2 rfl ?_)); first | refine zO ?_)
   refine AOps.wkObj (.l 0) rfl (cs' := lC (.mk 0 1 (wrapI (0)) none [] [] [])) (fun w C xs h => ?_) ?_
   · exact (show WkL _ _ from .cons (.refl _) (.cons (.refl _) (.cons (.nilS 1) (.cons (.nilS 1) (.cons (.nilS 2) .nil))))) w C xs h
   refine AOps.cedes [0] rfl (by decide) hou fun k hk => ⟨[(106, .one (.ptr (.o k) 0))], [], [.cells (lC (.mk k 1 (wrapI (0)) none [] [] []))], .cons rfl rfl .nil, .nil, ?_, ?_⟩
   · exact .cons rfl rfl .nil
   have hN := NewO.add hk hou (show (AObj.cells (lC (.mk k 1 (wrapI (0)) none [] [] []))).ids isO by simp [lC, bC, kC])
   refine zA ?_
   refine AFn.fin' rfl (WkF.refl _) (by simp) hN.ok ?_
   rw [hA]
   exact ⟨.mk k 1 (wrapI (0)) none [] [] [], rfl, rfl, Der.node (u := .mk k 1 (wrapI (0)) none [] [] []) (fun _ _ h => h) hN (fun p hp => by simp [tailO, bO, aO, objss] at hp)⟩
end Go.Proofs.YtgdionbeeodaaaaDoor
namespace Go.CoreX
mutual
theorem okT_pOk : ∀ t : Tr, okT t → allT pOk t
 | .mk o n b k a, h => ⟨⟨h.1, by simpa using h.2.1, h.2.2.1, h.2.2.2.1.1, h.2.2.2.1.2⟩, okTs_pOk k h.2.2.2.2⟩
theorem okTs_pOk : ∀ l : List Tr, okTs l → allTs pOk l
 | [], _ => trivial
 | t :: l, h => ⟨okT_pOk t h.1, okTs_pOk l h.2⟩
end
mutual
theorem pOk_okT : ∀ t : Tr, allT pOk t → okT t
 | .mk o n b k a, h => ⟨h.1.b, by simpa using h.1.k, h.1.a, ⟨h.1.ab, h.1.s⟩, pOk_okTs k h.2⟩
theorem pOk_okTs : ∀ l : List Tr, allTs pOk l → okTs l
 | [], _ => trivial
 | t :: l, h => ⟨pOk_okT t h.1, pOk_okTs l h.2⟩
end
mutual
def putsL (f : Nat → Option LTr) : LTr → LTr
 | .mk i o n nb b ks a => match f i with
   | some u => u
   | none => .mk i o n nb b (putsLs f ks) a
def putsLs (f : Nat → Option LTr) : List LTr → List LTr
 | [] => []
 | t :: l => putsL f t :: putsLs f l
end
theorem putsL_id {f : Nat → Option LTr} (hf : ∀ k u, f k = some u → u.id = k) : ∀ t : LTr, (putsL f t).id = t.id
 | .mk i o n nb b ks a => by
   simp only [putsL]
   split
   · rename_i u hu; exact hf i u hu
   · rfl
end Go.CoreX
namespace Go.Proofs.YtgdionbeeodaaaaDoor
open Go Go.Abs Go.CoreX
variable {Γ : List (Nat × List AC)}
theorem okB_list {T : Tr} (h : allT pOk T) (hl : cntN T ≤ 1048576) : okB (listT [] T) := okB_ofLabs (by have := cntN_list T []; simp at this; omega) (allT_labs (isTree_list _) (by rw [grow_list]; exact h))
theorem copied_ok (hΓ : ∀ g cs, (g, cs) ∈ Γ → idsL isO cs) (T : Tr) (hT : okT T) (hl : cntN T ≤ 1048576) (ou : Outer) : AFn Tryd.prog Γ 111 [.one (.box (cTr T))] ou (GrowQ (listT [] T) ou) := by
 have hll : (listT [] T).length ≤ 1048576 := by have := cntN_list T []; simp at this; omega
 have hli := List_ok hΓ T hT hll
 refine AFn.walk 6 tabOk Tryd.func111 rfl (by kernel_rfl) rfl rfl fun hou => ?_
 refine zA ?_
 refine zca hΓ hli hou ?_
 refine AOps.call1 hΓ rfl rfl rfl rfl rfl rfl rfl (by simp) hou (GrowN_ok hΓ _ (okB_list (okT_pOk T hT) hl).eo (isTree_list T).k (isTree_list T) ou) fun r ou' hq hids hou' => ?_
 obtain ⟨t, rfl, h⟩ := hq
 refine zA ?_
 exact AFn.fin' rfl (WkF.refl _) (by simp) hou' ⟨t, rfl, h⟩
theorem putsL_kC {f : Nat → Option LTr} (hf : ∀ k u, f k = some u → u.id = k) : ∀ l : List LTr, kC (putsLs f l) = kC l
 | [] => rfl
 | t :: l => by
   have := putsL_kC hf l
   simp only [kC, putsLs, List.map_cons, putsL_id hf] at this ⊢
   rw [this]
mutual
theorem putsL_none {f : Nat → Option LTr} : ∀ t : LTr, (∀ k ∈ keys (objs t), f k = none) → putsL f t = t
 | .mk i o n nb b ks a, h => by
   simp only [objs, keys, List.cons_append, List.map_cons, List.map_append, List.mem_cons, List.mem_append] at h
   simp only [putsL, h i (.inl rfl)]
   rw [putsLs_none ks fun k hk => h k (.inr (.inr hk))]
theorem putsLs_none {f : Nat → Option LTr} : ∀ l : List LTr, (∀ k ∈ keys (objss l), f k = none) → putsLs f l = l
 | [], _ => rfl
 | t :: l, h => by
   simp only [objss, keys, List.map_append, List.mem_append] at h
   simp only [putsLs]
   rw [putsL_none t fun k hk => h k (.inl hk), putsLs_none l fun k hk => h k (.inr hk)]
end
theorem plain_bO {nb : Nb} {b : List Int} (h : nb = none) : bO nb b = [] := by subst h; rfl
theorem plain_aO : ∀ {a : List LAlt}, (∀ x ∈ a, x.nb = none) → aO a = []
 | [], _ => rfl
 | x :: a, h => by
   rw [show aO (x :: a) = bO x.nb x.binds ++ aO a from rfl, plain_bO (h x (by simp)), plain_aO fun y hy => h y (by simp [hy])]; rfl
mutual
theorem puts_own {f : Nat → Option LTr} (hf : ∀ k u, f k = some u → u.id = k) : ∀ t : LTr, plainL t → ∀ p ∈ objs (putsL f t), (∃ k u, k ∈ keys (objs t) ∧ f k = some u ∧ p ∈ objs u) ∨ (p ∈ objs t ∧ f p.1 = none)
 | .mk i o n nb b ks a, hpl, p, hp => by
   simp only [putsL] at hp
   cases hfi : f i with
   | some u =>
     rw [hfi] at hp
     exact .inl ⟨i, u, by simp [objs, keys], hfi, hp⟩
   | none =>
     rw [hfi] at hp
     simp only [objs, putsL_kC hf, plain_bO hpl.1, plain_aO hpl.2.1, List.append_nil, List.cons_append, List.nil_append, List.mem_cons] at hp ⊢
     rcases hp with rfl | hp
     · exact .inr ⟨.inl rfl, hfi⟩
     · rcases putss_own hf ks hpl.2.2 p hp with ⟨k, u, h1, h2, h3⟩ | ⟨h1, h2⟩
       · exact .inl ⟨k, u, by simp [keys] at h1 ⊢; exact .inr h1, h2, h3⟩
       · exact .inr ⟨.inr h1, h2⟩
theorem putss_own {f : Nat → Option LTr} (hf : ∀ k u, f k = some u → u.id = k) : ∀ l : List LTr, plainLs l → ∀ p ∈ objss (putsLs f l), (∃ k u, k ∈ keys (objss l) ∧ f k = some u ∧ p ∈ objs u) ∨ (p ∈ objss l ∧ f p.1 = none)
 | [], _, p, hp => by simp [putsLs, objss] at hp
 | t :: l, hpl, p, hp => by
   simp only [putsLs, objss, List.mem_append] at hp ⊢
   rcases hp with hp | hp
   · rcases puts_own hf t hpl.1 p hp with ⟨k, u, h1, h2, h3⟩ | ⟨h1, h2⟩
     · exact .inl ⟨k, u, by rw [keys_app]; exact List.mem_append.2 (.inl h1), h2, h3⟩
     · exact .inr ⟨.inl h1, h2⟩
   · rcases putss_own hf l hpl.2 p hp with ⟨k, u, h1, h2, h3⟩ | ⟨h1, h2⟩
     · exact .inl ⟨k, u, by rw [keys_app]; exact List.mem_append.2 (.inr h1), h2, h3⟩
     · exact .inr ⟨.inr h1, h2⟩
end
mutual
theorem uses_keys (q : Int) : ∀ t : LTr, ∀ s ∈ usesL q t, s.id ∈ keys (objs t)
 | .mk i o n nb b ks a, s, hs => by
   simp only [usesL] at hs
   split at hs
   · split at hs
     · simp at hs; subst hs; exact id_mem _
     · simp at hs
   · have := usess_keys q ks s hs
     rw [objs_tail, tailO]
     simp only [keys, List.map_cons, List.map_append] at this ⊢
     simp [this]
theorem usess_keys (q : Int) : ∀ l : List LTr, ∀ s ∈ usesLs q l, s.id ∈ keys (objss l)
 | [], s, hs => by simp [usesLs] at hs
 | t :: l, s, hs => by
   simp only [usesLs, List.mem_append] at hs
   simp only [objss, keys_app, List.mem_append]
   rcases hs with hs | hs
   · exact .inl (uses_keys q t s hs)
   · exact .inr (usess_keys q l s hs)
end
mutual
theorem puts_er {f : Nat → Option LTr} {q : Int} {V : Tr} (hV : ∀ k u, f k = some u → erT u = V) : ∀ t : LTr, (keys (objs t)).Nodup → (∀ k ∈ keys (objs t), f k ≠ none ↔ k ∈ (usesL q t).map LTr.id) → erT (putsL f t) = subT q V (erT t)
 | .mk i o n nb b ks a, hn, hf => by
   have hii : i ∈ keys (objs (.mk i o n nb b ks a)) := id_mem (.mk i o n nb b ks a)
   have hfi := hf i hii
   have hself : i ∉ keys (objss ks) := fun h => by
     have := self_tail hn
     refine this ?_
     simp only [tailO, keys, List.map_append, List.mem_append]
     exact .inr h
   have hkk : ∀ k ∈ keys (objss ks), k ∈ keys (objs (.mk i o n nb b ks a)) := fun k hk => by
     rw [objs_tail, tailO]
     simp only [keys, List.map_cons, List.map_append] at hk ⊢
     simp [hk]
   have hnk : (keys (objss ks)).Nodup := by
     rw [objs_tail] at hn
     simp only [tailO, keys, List.map_cons, List.map_append] at hn
     exact (List.nodup_append.1 (List.nodup_cons.1 hn).2).2.1
   simp only [usesL] at hfi hf
   by_cases h0 : o = 0
   · rw [if_pos h0] at hfi
     by_cases h1 : n = q
     · rw [if_pos h1] at hfi
       have : f i ≠ none := hfi.2 (by simp [LTr.id])
       cases hu : f i with
       | none => exact absurd hu this
       | some u =>
         simp only [putsL, hu, erT, subT, if_pos h0, if_pos h1]
         exact hV i u hu
     · rw [if_neg h1] at hfi
       have hno : f i = none := by
         cases hu : f i with
         | none => rfl
         | some u => have := hfi.1 (by rw [hu]; simp); simp at this
       have hks : putsLs f ks = ks := putsLs_none ks fun k hk => by
         have := hf k (hkk k hk)
         rw [if_pos h0, if_neg h1] at this
         cases hu : f k with
         | none => rfl
         | some u => have := this.1 (by rw [hu]; simp); simp at this
       simp only [putsL, hno, hks, erT, subT, if_pos h0, if_neg h1]
   · rw [if_neg h0] at hfi
     have hno : f i = none := by
       cases hu : f i with
       | none => rfl
       | some u =>
         have := hfi.1 (by rw [hu]; simp)
         obtain ⟨s, hs, he⟩ := List.mem_map.1 this
         exact absurd (he ▸ usess_keys q ks s hs) hself
     simp only [putsL, hno, erT, subT, if_neg h0]
     congr 1
     refine putss_er hV ks hnk fun k hk => ?_
     have := hf k (hkk k hk)
     rwa [if_neg h0] at this
theorem putss_er {f : Nat → Option LTr} {q : Int} {V : Tr} (hV : ∀ k u, f k = some u → erT u = V) : ∀ l : List LTr, (keys (objss l)).Nodup → (∀ k ∈ keys (objss l), f k ≠ none ↔ k ∈ (usesLs q l).map LTr.id) → erTs (putsLs f l) = subTs q V (erTs l)
 | [], _, _ => rfl
 | t :: l, hn, hf => by
   simp only [objss, keys_app, List.nodup_append] at hn
   simp only [objss, keys_app, List.mem_append, usesLs, List.map_append] at hf
   simp only [putsLs, erTs, subTs]
   have h1 := puts_er hV t hn.1 fun k hk => by
     rw [hf k (.inl hk)]
     constructor
     · rintro (h | h)
       · exact h
       · obtain ⟨s, hs, rfl⟩ := List.mem_map.1 h
         exact absurd rfl (hn.2.2 _ hk _ (usess_keys q l s hs))
     · exact .inl
   have h2 := putss_er hV l hn.2.1 fun k hk => by
     rw [hf k (.inr hk)]
     constructor
     · rintro (h | h)
       · obtain ⟨s, hs, rfl⟩ := List.mem_map.1 h
         exact absurd rfl (hn.2.2 _ (uses_keys q t s hs) _ hk)
       · exact h
     · exact .inr
   rw [h1, h2]
end
mutual
theorem uses_nodup (q : Int) : ∀ t : LTr, (keys (objs t)).Nodup → ((usesL q t).map LTr.id).Nodup
 | .mk i o n nb b ks a, hn => by
   simp only [usesL]
   split
   · split <;> simp
   · refine usess_nodup q ks ?_
     rw [objs_tail] at hn
     simp only [tailO, keys, List.map_cons, List.map_append] at hn
     exact (List.nodup_append.1 (List.nodup_cons.1 hn).2).2.1
theorem usess_nodup (q : Int) : ∀ l : List LTr, (keys (objss l)).Nodup → ((usesLs q l).map LTr.id).Nodup
 | [], _ => by simp [usesLs]
 | t :: l, hn => by
   simp only [objss, keys_app, List.nodup_append] at hn
   simp only [usesLs, List.map_append, List.nodup_append]
   refine ⟨uses_nodup q t hn.1, usess_nodup q l hn.2.1, fun x hx y hy => ?_⟩
   obtain ⟨s, hs, rfl⟩ := List.mem_map.1 hx
   obtain ⟨s', hs', rfl⟩ := List.mem_map.1 hy
   exact hn.2.2 _ (uses_keys q t s hs) _ (usess_keys q l s' hs')
end
def setO (ou : Outer) (k : Nat) (o : AObj) : Outer := fun j => bif Nat.beq j k then some o else ou j
theorem setO_same (ou : Outer) (k : Nat) (o : AObj) : setO ou k o k = some o := by unfold setO; simp
theorem setO_ne {ou : Outer} {j k : Nat} {o : AObj} (h : j ≠ k) : setO ou k o j = ou j := by unfold setO; rw [beq_no h]; rfl
theorem setO_ok {ou : Outer} {k : Nat} {o : AObj} (h : OuOk ou) (ho : o.ids isO) : OuOk (setO ou k o) := fun j p hj => by
 by_cases e : j = k
 · subst e; rw [setO_same] at hj; cases hj; exact ho
 · rw [setO_ne e] at hj; exact h j p hj
def withId (k : Nat) : LTr → LTr
 | .mk _ o n nb b ks a => .mk k o n nb b ks a
theorem withId_id (k : Nat) (t : LTr) : (withId k t).id = k := by cases t; rfl
theorem withId_er (k : Nat) (t : LTr) : erT (withId k t) = erT t := by cases t; rfl
theorem withId_lC (k : Nat) (t : LTr) : lC (withId k t) = lC t := by cases t; rfl
theorem withId_tail (k : Nat) (t : LTr) : tailO (withId k t) = tailO t := by cases t; rfl
theorem lC_len (t : LTr) : (lC t).length = 5 := by cases t; rfl
theorem lC_ids (t : LTr) : (AObj.cells (lC t)).ids isO := by
 cases t with
 | mk i o n nb b ks a => exact ids_node o n nb b ks a
theorem withId_own {ou : Outer} {k : Nat} {t : LTr} (h : Owns ou (tailO t)) (hk : k ∉ keys (tailO t)) : Owns (setO ou k (.cells (lC t))) (objs (withId k t)) := fun p hp => by
 rw [objs_tail, withId_id, withId_lC, withId_tail] at hp
 rcases List.mem_cons.1 hp with rfl | hp
 · exact setO_same _ _ _
 · rw [setO_ne (show p.1 ≠ k from fun e => hk (e ▸ mem_keys hp))]; exact h p hp
theorem own_tail {ou : Outer} {t : LTr} (h : Owns ou (objs t)) : Owns ou (tailO t) := fun p hp => h p (by rw [objs_tail]; exact List.mem_cons_of_mem _ hp)
def updF (f : Nat → Option LTr) (k : Nat) (u : LTr) : Nat → Option LTr := fun j => if j = k then some u else f j
structure CopyI (ou1 ov : Outer) (L : List LTr) (V : Tr) (f : Nat → Option LTr) : Prop where
 dom : ∀ k, f k ≠ none ↔ k ∈ L.map LTr.id
 u : ∀ k u, f k = some u → u.id = k ∧ erT u = V ∧ Owns ov (objs u) ∧ ∀ p ∈ tailO u, ou1 p.1 = none
 old : ∀ k o, ou1 k = some o → f k = none → ov k = some o
 ok : OuOk ov
theorem CopyI.nil {ou1 : Outer} {V : Tr} (h : OuOk ou1) : CopyI ou1 ou1 [] V (fun _ => none) := ⟨by simp, by simp, fun k o hk _ => hk, h⟩
theorem CopyI.step {ou1 ov ow : Outer} {L : List LTr} {V : Tr} {f : Nat → Option LTr} (h : CopyI ou1 ov L V f) {x c : LTr} {o : AObj} (hx : ou1 x.id = some o) (hxL : x.id ∉ L.map LTr.id) (hV : erT c = V) (hc : Owns ow (objs c)) (hnew : ∀ k ∈ keys (objs c), ov k = none) (hold : ∀ k o, ov k = some o → ow k = some o) (hok : OuOk ow) :
   CopyI ou1 (setO ow x.id (.cells (lC c))) (L ++ [x]) V (updF f x.id (withId x.id c)) := by
 have hfx : f x.id = none := by
   cases hu : f x.id with
   | none => rfl
   | some u => exact absurd ((h.dom x.id).1 (by rw [hu]; simp)) hxL
 have hvx := h.old _ _ hx hfx
 have hck : ∀ p ∈ objs c, ou1 p.1 = none := fun p hp => by
   have h1 := hnew p.1 (mem_keys hp)
   cases ho : ou1 p.1 with
   | none => rfl
   | some o' =>
     by_cases hf : f p.1 = none
     · rw [h.old _ _ ho hf] at h1; cases h1
     · obtain ⟨u, hu⟩ := Option.ne_none_iff_exists'.1 hf
       obtain ⟨e1, _, e3, _⟩ := h.u _ _ hu
       have := e3 (u.id, .cells (lC u)) (by rw [objs_tail]; simp)
       rw [e1, h1] at this; cases this
 refine ⟨fun k => ?_, fun k u hu => ?_, fun k o' hk hf => ?_, setO_ok hok (lC_ids c)⟩
 · unfold updF
   by_cases e : k = x.id
   · subst e; simp
   · rw [if_neg e, h.dom k]; simp [e]
 · unfold updF at hu
   by_cases e : k = x.id
   · rw [if_pos e] at hu
     cases hu
     refine ⟨by rw [withId_id, e], by rw [withId_er, hV], withId_own (own_tail hc) fun hm => ?_, fun p hp => ?_⟩
     · obtain ⟨o'', hq⟩ := of_keys hm
       have := hck (x.id, o'') (by rw [objs_tail]; exact List.mem_cons_of_mem _ hq)
       rw [hx] at this; cases this
     · rw [withId_tail] at hp
       exact hck p (by rw [objs_tail]; exact List.mem_cons_of_mem _ hp)
   · rw [if_neg e] at hu
     obtain ⟨e1, e2, e3, e4⟩ := h.u k u hu
     refine ⟨e1, e2, fun p hp => ?_, e4⟩
     have hpx : p.1 ≠ x.id := by
       rw [objs_tail] at hp
       rcases List.mem_cons.1 hp with rfl | hp
       · simp only; rw [e1]; exact e
       · intro e5
         have := e4 p hp
         rw [e5, hx] at this; cases this
     rw [setO_ne hpx]
     exact hold _ _ (e3 p hp)
 · unfold updF at hf
   by_cases e : k = x.id
   · rw [if_pos e] at hf; cases hf
   · rw [if_neg e] at hf
     rw [setO_ne e]
     exact hold _ _ (h.old k o' hk hf)
theorem puts_fin {f : Nat → Option LTr} {q : Int} {d : LTr} {V : Tr} {ov : Outer} {i : Nat} (hn : (keys (objs d)).Nodup) (hp : plainL d) (hi : i ∉ keys (objs d)) (hdom : ∀ k, f k ≠ none ↔ k ∈ (usesL q d).map LTr.id)
   (hu : ∀ k u, f k = some u → u.id = k ∧ erT u = V ∧ Owns ov (objs u) ∧ i ∉ keys (tailO u)) (hold : ∀ p ∈ objs d, f p.1 = none → ov p.1 = some p.2) :
   erT (putsL f d) = subT q V (erT d) ∧ Owns ov (objs (putsL f d)) ∧ i ∉ keys (objs (putsL f d)) := by
 have hf : ∀ k u, f k = some u → u.id = k := fun k u h => (hu k u h).1
 refine ⟨puts_er (fun k u h => (hu k u h).2.1) d hn fun k _ => hdom k, fun p hp' => ?_, fun hm => ?_⟩
 · rcases puts_own hf d hp p hp' with ⟨k, u, _, h2, h3⟩ | ⟨h1, h2⟩
   · exact (hu k u h2).2.2.1 p h3
   · exact hold p h1 h2
 · obtain ⟨o, ho⟩ := of_keys hm
   rcases puts_own hf d hp _ ho with ⟨k, u, h1, h2, h3⟩ | ⟨h1, h2⟩
   · rw [objs_tail] at h3
     rcases List.mem_cons.1 h3 with h3 | h3
     · have : i = u.id := by injection h3
       rw [this, (hu k u h2).1] at hi
       exact hi h1
     · exact (hu k u h2).2.2.2 (mem_keys h3)
   · exact hi (mem_keys h1)
theorem puts_keys {f : Nat → Option LTr} {d : LTr} (hp : plainL d) (hf : ∀ k u, f k = some u → u.id = k) : ∀ k ∈ keys (objs (putsL f d)), k ∈ keys (objs d) ∨ ∃ k' u, f k' = some u ∧ k ∈ keys (tailO u) := fun k hk => by
 obtain ⟨o, ho⟩ := of_keys hk
 rcases puts_own hf d hp _ ho with ⟨k', u, h1, h2, h3⟩ | ⟨h1, h2⟩
 · rw [objs_tail] at h3
   rcases List.mem_cons.1 h3 with h3 | h3
   · have : k = u.id := by injection h3
     rw [this, hf k' u h2]; exact .inl h1
   · exact .inr ⟨k', u, h2, mem_keys h3⟩
 · exact .inl (mem_keys h1)
def ResW (ou : Outer) (t : LTr) (x : Option Tr) (r : FV) (ou' : Outer) : Prop := match x with
 | none => r = nilP ∧ OuOk ou' ∧ ∀ j o, ou j = some o → ou' j = some o
 | some X => ∃ u : LTr, r = .one (.ptr (.o u.id) 0) ∧ erT u = X ∧ Owns ou' (objs u) ∧ t.id ∉ keys (objs u) ∧ OuOk ou' ∧ (∀ j o, ou j = some o → j ∉ keys (tailO t) → ou' j = some o) ∧ ∀ k ∈ keys (objs u), k ∈ keys (tailO t) ∨ ou k = none
theorem ResD.w {ou ou' : Outer} {t : LTr} {x : Option Tr} {r : FV} (ho : Owns ou (objs t)) (hn : (keys (objs t)).Nodup) (h : ResD ou t x r ou') : ResW ou t x r ou' := by
 cases x with
 | none => exact h
 | some X =>
   obtain ⟨u, h1, h2, h3⟩ := h
   refine ⟨u, h1, h2, h3.own (own_tail ho), h3.not (owns_node ho) (self_tail hn), h3.ok, fun j o hj _ => h3.old j o hj, fun k hk => ?_⟩
   obtain ⟨o, hp⟩ := of_keys hk
   exact (h3.part _ hp).imp (fun h => mem_keys h) (fun h => h.1)
mutual
theorem uses_mem (q : Int) : ∀ t : LTr, ∀ s ∈ usesL q t, ∀ p ∈ objs s, p ∈ objs t
 | .mk i o n nb b ks a, s, hs, p, hp => by
   simp only [usesL] at hs
   split at hs
   · split at hs
     · simp at hs; subst hs; exact hp
     · simp at hs
   · have := usess_mem q ks s hs p hp
     rw [objs_tail, tailO]
     simp [this]
theorem usess_mem (q : Int) : ∀ l : List LTr, ∀ s ∈ usesLs q l, ∀ p ∈ objs s, p ∈ objss l
 | [], s, hs, _, _ => by simp [usesLs] at hs
 | t :: l, s, hs, p, hp => by
   simp only [usesLs, List.mem_append] at hs
   simp only [objss, List.mem_append]
   rcases hs with hs | hs
   · exact .inl (uses_mem q t s hs p hp)
   · exact .inr (usess_mem q l s hs p hp)
end
theorem self_mem (t : LTr) : (t.id, AObj.cells (lC t)) ∈ objs t := by rw [objs_tail]; simp
set_option maxHeartbeats 2000000 in
theorem letRule_ok (hΓ : ∀ g cs, (g, cs) ∈ Γ → idsL isO cs) (rule : Int) (i : Nat) (n q : Int) (v d : LTr) (hpl : plainL (.mk i 4 n none [q] [v, d] [])) (hok : okT (erT (.mk i 4 n none [q] [v, d] []))) (hsh : allT shpL (erT (.mk i 4 n none [q] [v, d] []))) (hc : cntN (erT (.mk i 4 n none [q] [v, d] [])) ≤ 1048576) (ou : Outer)
   (ho : Owns ou (objs (.mk i 4 n none [q] [v, d] []))) (hn : (keys (objs (.mk i 4 n none [q] [v, d] []))).Nodup) :
   AFn Tryd.prog Γ 80 [.one (int rule), .one (.ptr (.o i) 0)] ou (ResW ou (.mk i 4 n none [q] [v, d] []) (letRuleT rule (erT (.mk i 4 n none [q] [v, d] [])))) := by
 have hi : ou i = some (.cells (lC (.mk i 4 n none [q] [v, d] []))) := owns_node ho
 simp only [lC, bC] at hi
 have hvm : v ∈ (LTr.mk i 4 n none [q] [v, d] []).kids := by simp [LTr.kids]
 have hdm : d ∈ (LTr.mk i 4 n none [q] [v, d] []).kids := by simp [LTr.kids]
 have hvo := owns_kid ho hvm
 have hdo := owns_kid ho hdm
 have hvk := okT_kid hok (er_kid hvm)
 have hdk := okT_kid hok (er_kid hdm)
 have hvs := allT_kid hsh (er_kid hvm)
 have hvc : cntN (erT v) ≤ 1048576 := by have := cnt_kid (er_kid hvm); omega
 have hdc : cntN (erT d) ≤ 1048576 := by have := cnt_kid (er_kid hdm); omega
 have hval := valued_ok hΓ (erT v) hvk hvs
 have hat := atom_ok (Γ := Γ) (erT v)
 have hus := uses_ok hΓ d hdk hdc q ou hdo
 have hlen : (kC (usesL q d)).length = usesN q (erT d) := by rw [kC_len, usesL_len]
 have hul : (usesL q d).length ≤ 1048576 := by have := usesN_le q (erT d); rw [usesL_len]; omega
 have hni : i ∉ keys (objs v) ∧ i ∉ keys (objs d) ∧ (keys (objs v)).Nodup ∧ (keys (objs d)).Nodup ∧ ∀ k ∈ keys (objs v), k ∉ keys (objs d) := by
   have h1 : (i :: (keys (objs v) ++ keys (objs d))).Nodup := by
     have e1 : keys (objs (.mk i 4 n none [q] [v, d] [])) = i :: (keys (objs v) ++ keys (objs d)) := by rw [objs_tail]; simp [tailO, bO, aO, objss, keys, LTr.id]
     rw [← e1]; exact hn
   simp only [List.nodup_cons, List.nodup_append, List.mem_append, not_or] at h1
   exact ⟨h1.1.1, h1.1.2, h1.2.1, h1.2.2.1, fun k hk hk2 => h1.2.2.2 k hk k hk2 rfl⟩
 obtain ⟨X, hX⟩ : ∃ X, X = letRuleT rule (erT (.mk i 4 n none [q] [v, d] [])) := ⟨_, rfl⟩
 rw [← hX]
 have hL : X = if rule = 2 ∧ atomT (erT v) = true then some (subT q (erT v) (erT d))
   else if rule = 3 ∧ usesN q (erT d) = 0 ∧ valT (erT v) = true then some (erT d)
   else if rule = 8 ∧ (erT v).op = 4 then some (letT ((erT v).binds.getD 0 0) (kidT (erT v) 0) (letT q (kidT (erT v) 1) (erT d)))
   else if rule = 9 ∧ (erT v).op = 7 ∧ (erT v).alts.length = 1 then some (.mk 7 0 [] [kidT (erT v) 0, letT q (kidT (erT v) 1) (erT d)] (erT v).alts)
   else if rule = 11 ∧ (erT v).op = 2 ∧ usesN q (erT d) = 1 then some (subT q (erT v) (erT d))
   else none := hX
 clear hX
 refine AFn.walk 161 tabOk Tryd.func80 rfl (by kernel_rfl) rfl rfl fun hou => ?_
 refine zA ?_
 refine ACode.drawX tabOk 13 [(3, .one (.sl 1 (kC [v, d]))), (4, .one (.box [.ptr (.o v.id) 0])), (9, .one (.sl 1 (kC [v, d]))), (10, .one (.box [.ptr (.o d.id) 0]))] follows (by kernel_rfl) rfl rfl rfl rfl ?_ ?_
 · refine .step rfl (HStep.plain rfl (AStep.loadOwn tabOk rfl rfl rfl rfl rfl hi rfl)) ?_
   refine .step rfl (HStep.plain rfl (AStep.indexAddr tabOk rfl rfl rfl rfl rfl rfl (.inl rfl) rfl (by decide) rfl)) ?_
   refine .step rfl (HStep.plain rfl (AStep.loadOwn tabOk rfl rfl rfl rfl rfl hi rfl)) ?_
   exact .step rfl (HStep.plain rfl (AStep.indexAddr tabOk rfl rfl rfl rfl rfl rfl (.inl rfl) rfl (by decide) rfl)) .nil
 repeat' first | refine zN ?_ | ((with_reducible refine oj ?_); first | refine zix ?_ | refine zow rfl rfl hi ?_)
 refine AOps.call1 hΓ rfl rfl rfl rfl rfl rfl rfl (by exact ⟨trivial, trivial, trivial⟩) hou hus fun r ou' hq _ _ => ?_
 obtain ⟨rfl, rfl⟩ := hq
 by_cases h2 : rule = 2
 · subst h2
   repeat' first | refine zN ?_ | ((with_reducible refine oj ?_); first | refine zix ?_ | refine zow rfl rfl hi ?_)
   refine AOps.callS hΓ hat (Plain.lit _) rfl rfl rfl rfl rfl rfl (LendFs.t1 hvo) ?_
   refine zA ?_
   refine ACode.condS rfl (fun hb => ?_) (fun hb => ?_)
   · have ha : atomT (erT v) = true := hb
     rw [if_pos ⟨rfl, ha⟩] at hL
     repeat ((fail_if_success ((with_reducible refine oj ?_); refine AOps.atDst 39 rfl ?_)); first | refine zO ?_)
     refine AOps.freezeU (t := v) 5 hvo rfl ?_
     obtain ⟨ou1, hou1⟩ : ∃ ou1, ou1 = deadL ou' (keys (objs v)) := ⟨_, rfl⟩
     rw [← hou1]
     have hok1 : OuOk ou1 := fun m o hm => by
       rw [hou1] at hm
       unfold deadL at hm
       split at hm
       · cases hm; trivial
       · exact hou m o hm
     have hold1 : ∀ j, j ∉ keys (objs v) → ou1 j = ou' j := fun j hj => by rw [hou1]; unfold deadL; rw [if_neg hj]
     have hvd : ∀ k ∈ keys (objs d), k ∉ keys (objs v) := fun k hk hk2 => hni.2.2.2.2 k hk2 hk
     refine zA ?_
     refine ACode.loopR hΓ (α := Nat × Outer × (Nat → Option LTr)) (fun c => [(41, .one (int c.1)), (40, .one (int (kC (usesL q d)).length)), (39, .one (.sl 1 (kC (usesL q d)))), (6, .one (.ptr (.o d.id) 0)), (5, .one (.box (cTr (erT v))))])
       (fun c => ⟨0, [], c.2.1⟩) (fun m c => c.1 ≤ (usesL q d).length ∧ CopyI ou1 c.2.1 ((usesL q d).take c.1) (erT v) c.2.2 ∧ m = (usesL q d).length - c.1) (a0 := (0, ou1, fun _ => none)) (ρ := fun k => k) ⟨by omega, CopyI.nil hok1, rfl⟩ (LessR.of rfl ?_ (by simp) .nil rfl rfl hok1) fun m c hc2 => ?_
     · exact FrSub.cons rfl (.ofEq rfl) (FrSub.cons rfl (.ofEq rfl) (FrSub.consP rfl (.ofEq rfl) (by simp) (FrSub.cons rfl (.ofEq rfl) (FrSub.consP rfl (.ofEq rfl) (by simp) .nil))))
     obtain ⟨j, ov, f⟩ := c
     obtain ⟨hjl, hI, rfl⟩ := hc2
     dsimp only at hjl hI
     have hov := hI.ok
     refine zA ?_
     refine ACode.cond rfl (fun hb2 => ?_) (fun hb2 => ?_)
     · have hlt : j < (usesL q d).length := by simpa [kC_len] using hb2
       obtain ⟨x, hx⟩ := get_of_lt hlt
       have hxm := List.mem_of_getElem? hx
       have hxk := uses_keys q d x hxm
       refine zA ?_
       refine AOps.step1 rfl rfl rfl (AStep.indexAddr tabOk rfl rfl rfl rfl rfl rfl (.inl rfl) rfl (by omega) (kC_get hx)) ?_
       refine zA ?_
       refine AOps.call1 hΓ rfl rfl rfl rfl rfl rfl rfl (by simp) hov (copied_ok hΓ (erT v) hvk hvc ov) fun r ow hq _ how => ?_
       obtain ⟨c, rfl, her, _, hco, hcn, hcnew, _, hcold⟩ := hq
       rw [grow_list] at her
       have hcc := owns_node hco
       have hx1 : ou1 x.id = some (.cells (lC x)) := by
         rw [hold1 _ (hvd _ hxk)]
         exact hdo _ (uses_mem q d x hxm _ (self_mem x))
       have hxL : x.id ∉ ((usesL q d).take j).map LTr.id := by
         have h1 := uses_nodup q d hni.2.2.2.1
         obtain ⟨h3, h4⟩ := List.getElem?_eq_some_iff.1 hx
         rw [← List.take_append_drop j (usesL q d), List.drop_eq_getElem_cons h3, h4, List.map_append, List.map_cons, List.nodup_append] at h1
         exact fun hm => h1.2.2 _ hm _ (by simp) rfl
       have hfx : f x.id = none := by
         cases hu : f x.id with
         | none => rfl
         | some u => exact absurd ((hI.dom x.id).1 (by rw [hu]; simp)) hxL
       have hx2 := hcold _ _ (hI.old _ _ hx1 hfx)
       have hI2 := hI.step hx1 hxL her hco hcnew hcold how
       rw [← take_get hx] at hI2
       cases c with
       | mk kc oc nc nbc bc ksc ac =>
       simp only [lC] at hcc
       refine zA ?_
       refine AOps.step1 rfl rfl rfl (AStep.loadOwnA tabOk rfl rfl rfl rfl rfl hcc) ?_
       refine zA ?_
       refine AOps.storeOwnA tabOk rfl rfl rfl rfl rfl (by simp [lC_len]) rfl rfl hx2 ?_
       refine zM ?_
       exact cInv ⟨(usesL q d).length - (j + 1), (j + 1, _, _), fun k => k, by omega, ⟨by omega, hI2, rfl⟩, LessR.of rfl (FrSub.cons rfl (.ofEq rfl) (FrSub.cons rfl (.ofEq rfl) (FrSub.consP rfl (.ofEq rfl) (by simp) (FrSub.cons rfl (.ofEq rfl) (FrSub.consP rfl (.ofEq rfl) (by simp) .nil))))) (by simp) .nil rfl rfl hI2.ok⟩
     · have hlt : j = (usesL q d).length := by simp [kC_len] at hb2; omega
       subst hlt
       rw [List.take_length] at hI
       obtain ⟨e1, e2, e3⟩ := puts_fin (i := i) hni.2.2.2.1 (plain_kid hpl hdm) hni.2.1 hI.dom (fun k u hu => by
         obtain ⟨g1, g2, g3, g4⟩ := hI.u k u hu
         refine ⟨g1, g2, g3, fun hm => ?_⟩
         obtain ⟨o', ho'⟩ := of_keys hm
         have := g4 _ ho'
         simp only at this
         rw [hold1 i hni.1, hi] at this
         cases this) (fun p hp hf => hI.old _ _ (by rw [hold1 _ (hvd _ (mem_keys hp))]; exact hdo p hp) hf)
       have hid : (putsL f d).id = d.id := putsL_id (fun k u hu => (hI.u k u hu).1) d
       refine zA ?_
       refine AFn.fin' rfl (WkF.refl _) (by simp) hov ?_
       rw [hL]
       refine ⟨putsL f d, by rw [hid], e1, e2, e3, hov, fun k o hk hkt => ?_, fun k hk => ?_⟩
       rotate_left
       · rcases puts_keys (plain_kid hpl hdm) (fun k u hu => (hI.u k u hu).1) k hk with hkd | ⟨k', u, hu, hku⟩
         · obtain ⟨o', ho'⟩ := of_keys hkd
           exact .inl (mem_keys (tail_kid hdm ho'))
         · obtain ⟨o', ho'⟩ := of_keys hku
           have h7 := (hI.u k' u hu).2.2.2 _ ho'
           right
           cases hk7 : ou' k with
           | none => rfl
           | some o7 =>
             simp only [hou1] at h7
             unfold deadL at h7
             split at h7
             · cases h7
             · rw [hk7] at h7; cases h7
       have hkv : k ∉ keys (objs v) := fun hm => by
         obtain ⟨o', ho'⟩ := of_keys hm
         exact hkt (mem_keys (tail_kid hvm ho'))
       have hkd : k ∉ keys (objs d) := fun hm => by
         obtain ⟨o', ho'⟩ := of_keys hm
         exact hkt (mem_keys (tail_kid hdm ho'))
       refine hI.old k o (by rw [hold1 k hkv]; exact hk) ?_
       cases hu : f k with
       | none => rfl
       | some u =>
         have := (hI.dom k).1 (by rw [hu]; simp)
         obtain ⟨s, hs, rfl⟩ := List.mem_map.1 this
         exact absurd (uses_keys q d s hs) hkd
   · have ha : atomT (erT v) = false := hb
     rw [if_neg (by rw [ha]; simp), if_neg (by simp), if_neg (by simp), if_neg (by simp), if_neg (by simp)] at hL
     refine zA ?_
     exact AFn.fin' rfl (WkF.refl _) (by simp) hou (by rw [hL]; exact ⟨rfl, hou, fun _ _ h => h⟩)
 rw [if_neg (fun h => h2 h.1)] at hL
 by_cases h3 : rule = 3
 · subst h3
   repeat' first | refine zN ?_ | ((with_reducible refine oj ?_); first | refine zix ?_ | refine zow rfl rfl hi ?_)
   rw [hlen]
   refine AOps.splitS rfl rfl rfl rfl (fun hb => ?_) (fun hb => ?_)
   · have h0 : usesN q (erT d) = 0 := by simpa using hb
     refine zM ?_
     refine AOps.callS hΓ hval (Plain.lit _) rfl rfl rfl rfl rfl rfl (LendFs.t1 hvo) ?_
     refine zA ?_
     refine ACode.condS rfl (fun hb3 => ?_) (fun hb3 => ?_)
     · have hv : valT (erT v) = true := hb3
       rw [if_pos ⟨rfl, h0, hv⟩] at hL
       refine zA ?_
       exact AFn.fin' rfl (WkF.refl _) (by simp) hou (by rw [hL]; exact ResD.w ho hn ⟨d, rfl, rfl, Der.refl (fun p hp => tail_kid hdm hp) hou⟩)
     · have hv : valT (erT v) = false := hb3
       rw [if_neg (by rw [hv]; simp), if_neg (by simp), if_neg (by simp), if_neg (by simp)] at hL
       refine zA ?_
       exact AFn.fin' rfl (WkF.refl _) (by simp) hou (by rw [hL]; exact ⟨rfl, hou, fun _ _ h => h⟩)
   · have h0 : ¬ usesN q (erT d) = 0 := by simpa using hb
     rw [if_neg (fun h => h0 h.2.1), if_neg (by simp), if_neg (by simp), if_neg (by simp)] at hL
     refine zA ?_
     exact AFn.fin' rfl (WkF.refl _) (by simp) hou (by rw [hL]; exact ⟨rfl, hou, fun _ _ h => h⟩)
 rw [if_neg (fun h => h3 h.1)] at hL
 cases v with
 | mk j op2 n2 nb2 b2 ks2 a2 =>
 obtain rfl : nb2 = none := (plain_kid hpl hvm).1
 have hv : ou' j = some (.cells (lC (.mk j op2 n2 none b2 ks2 a2))) := owns_node hvo
 simp only [lC, bC] at hv
 have hop : (erT (.mk j op2 n2 none b2 ks2 a2)).op = op2 := rfl
 rw [hop] at hL
 by_cases h8 : rule = 8
 · subst h8
   repeat' first | refine zN ?_ | ((with_reducible refine oj ?_); first | refine zix ?_ | refine zow rfl rfl hi ?_ | refine zow rfl rfl hv ?_)
   refine ACode.condS rfl (fun hb => ?_) (fun hb => ?_)
   · have h4 : op2 = 4 := by simpa using hb
     subst h4
     rw [if_pos ⟨rfl, rfl⟩] at hL
     obtain ⟨q2, y0, y1, hb2, hk2, _⟩ := shp_let (o := 4) (n := n2) (b := b2) (k := erTs ks2) (a := a2.map LAlt.er) hvs rfl
     obtain ⟨k0, k1, rfl⟩ : ∃ k0 k1, ks2 = [k0, k1] := by
       rw [erTs_eq] at hk2
       match ks2, hk2 with
       | [k0, k1], _ => exact ⟨k0, k1, rfl⟩
     subst hb2
     have hk0m : k0 ∈ (LTr.mk j 4 n2 none [q2] [k0, k1] a2).kids := by simp [LTr.kids]
     have hk1m : k1 ∈ (LTr.mk j 4 n2 none [q2] [k0, k1] a2).kids := by simp [LTr.kids]
     have hL : X = some (letT q2 (erT k0) (letT q (erT k1) (erT d))) := hL
     refine zA ?_
     refine ACode.drawC tabOk 22 [20, 21] [(3, .one (.sl 1 ([q2].map cI))), (4, .one (.box [int q2])), (9, .one (.sl 1 (kC [k0, k1]))), (10, .one (.box [.ptr (.o k0.id) 0])), (16, .one (.sl 1 (kC [k0, k1]))), (17, .one (.box [.ptr (.o k1.id) 0]))] (fun vs σ => match vs with
         | [] => σ = ⟨0, [], ou'⟩
         | [a] => ∃ (k : Nat) (ow : Outer), a = .one (.ptr (.o k) 0) ∧ NewO ou' ow [(k, .cells (lC (letN k q k1 d)))] ∧ σ = ⟨0, [], ow⟩
         | [a, b] => ∃ (k k' : Nat) (ow ox : Outer), a = .one (.ptr (.o k) 0) ∧ b = .one (.ptr (.o k') 0) ∧ NewO ou' ow [(k, .cells (lC (letN k q k1 d)))] ∧ NewO ow ox [(k', .cells (lC (letN k' q2 k0 (letN k q k1 d))))] ∧ σ = ⟨0, [], ox⟩
         | _ => False) follows (by kernel_rfl) rfl rfl (by decide) (by kernel_rfl) (by kernel_rfl) rfl rfl ?_ ?_ (by decide) ?_ ?_
     · rintro vs σ hG
       match vs, hG with
       | [], hG => subst hG; rfl
       | [a], hG => obtain ⟨k, ow, _, _, rfl⟩ := hG; rfl
       | [a, b], hG => obtain ⟨k, k', ow, ox, _, _, _, _, rfl⟩ := hG; rfl
     · rintro vs σ hG
       have hv' : σ.ou j = some (.cells [int 4, int n2, .sl 1 ([q2].map cI), .sl 1 (kC [k0, k1]), .sl 2 (a2.map lAlt)]) := by
         match vs, hG with
         | [], hG => subst hG; exact hv
         | [a], hG => obtain ⟨k, ow, _, hN, rfl⟩ := hG; exact hN.oldS hv
         | [a, b], hG => obtain ⟨k, k', ow, ox, _, _, hN, hN2, rfl⟩ := hG; exact hN2.oldS (hN.oldS hv)
       refine .step rfl (HStep.plain rfl (AStep.loadOwn tabOk rfl rfl rfl rfl rfl hv' rfl)) ?_
       refine .step rfl (HStep.plain rfl (AStep.indexAddr tabOk rfl rfl rfl rfl rfl rfl (.inl rfl) rfl (by decide) rfl)) ?_
       refine .step rfl (HStep.plain rfl (AStep.loadOwn tabOk rfl rfl rfl rfl rfl hv' rfl)) ?_
       refine .step rfl (HStep.plain rfl (AStep.indexAddr tabOk rfl rfl rfl rfl rfl rfl (.inl rfl) rfl (by decide) rfl)) ?_
       refine .step rfl (HStep.plain rfl (AStep.loadOwn tabOk rfl rfl rfl rfl rfl hv' rfl)) ?_
       exact .step rfl (HStep.plain rfl (AStep.indexAddr tabOk rfl rfl rfl rfl rfl rfl (.inl rfl) rfl (by decide) rfl)) .nil
     · rintro vs σ hG p oo hp1 hp2
       match vs, hG with
       | [], hG =>
         subst hG
         cases hp1
         cases hp2
         refine ⟨rfl, rfl, .inr ⟨rfl, AStepR.call hΓ rfl rfl rfl rfl (by exact ⟨trivial, trivial, trivial, trivial⟩) hou (let_ok hΓ q k1 d ou') fun r ow hq _ _ => ?_⟩⟩
         obtain ⟨k, rfl, hN⟩ := hq
         exact ⟨k, ow, rfl, hN, rfl⟩
       | [a], hG =>
         obtain ⟨k, ow, rfl, hN, rfl⟩ := hG
         cases hp1
         cases hp2
         refine ⟨rfl, rfl, .inr ⟨rfl, AStepR.call hΓ rfl rfl rfl rfl (by exact ⟨trivial, trivial, trivial, trivial⟩) hN.ok (let_ok hΓ q2 k0 (letN k q k1 d) ow) fun r ox hq _ _ => ?_⟩⟩
         obtain ⟨k', rfl, hN2⟩ := hq
         exact ⟨k, k', ow, ox, rfl, rfl, hN, hN2, rfl⟩
       | [a, b], hG => cases hp1
     rintro vs σ hlen2 hG
     match vs, hlen2, hG with
     | [a, b], _, hG =>
     obtain ⟨k, k', ow, ox, rfl, rfl, hN, hN2, rfl⟩ := hG
     have hD0 : Der ou' ou' (tailO (.mk i 4 n none [q] [.mk j 4 n2 none [q2] [k0, k1] a2, d] [])) d := Der.refl (fun p hp => tail_kid hdm hp) hou
     have hD1 := hD0.let hN (PartO.of fun p hp => tail_kid2 hvm hk1m hp)
     have hD2 := hD1.let hN2 (PartO.of fun p hp => tail_kid2 hvm hk0m hp)
     refine zM ?_
     refine AFn.fin' rfl (WkF.refl _) (by simp) hN2.ok (ResD.w ho hn ?_)
     rw [hL]
     exact ⟨_, rfl, by rw [letN_er, letN_er], hD2⟩
   · have h4 : ¬ op2 = 4 := by simpa using hb
     rw [if_neg (fun h => h4 h.2), if_neg (by simp), if_neg (by simp)] at hL
     refine zA ?_
     exact AFn.fin' rfl (WkF.refl _) (by simp) hou (by rw [hL]; exact ⟨rfl, hou, fun _ _ h => h⟩)
 rw [if_neg (fun h => h8 h.1)] at hL
 by_cases h9 : rule = 9
 · subst h9
   repeat' first | refine zN ?_ | ((with_reducible refine oj ?_); first | refine zix ?_ | refine zow rfl rfl hi ?_ | refine zow rfl rfl hv ?_)
   have hal : (erT (.mk j op2 n2 none b2 ks2 a2)).alts.length = a2.length := by simp [erT]
   rw [hal] at hL
   refine AOps.splitS rfl rfl rfl rfl (fun hb => ?_) (fun hb => ?_)
   · have h7 : op2 = 7 := by simpa using hb
     subst h7
     repeat' first | refine zN ?_ | ((with_reducible refine oj ?_); first | refine zix ?_ | refine zow rfl rfl hi ?_ | refine zow rfl rfl hv ?_)
     refine ACode.condS rfl (fun hb2 => ?_) (fun hb2 => ?_)
     · have h1 : a2.length = 1 := by simp at hb2; omega
       rw [if_pos ⟨rfl, rfl, h1⟩] at hL
       obtain ⟨h5, h6⟩ := shp_case (o := 7) (n := n2) (b := b2) (k := erTs ks2) (a := a2.map LAlt.er) hvs rfl
       rw [erTs_eq, List.length_map, List.length_map, h1] at h5
       obtain ⟨x1, rfl⟩ := List.length_eq_one_iff.1 h1
       obtain ⟨k0, k1, rfl⟩ : ∃ k0 k1, ks2 = [k0, k1] := by
         match ks2, h5 with
         | [k0, k1], _ => exact ⟨k0, k1, rfl⟩
       have hx1 : x1.nb = none := (plain_kid hpl hvm).2.1 x1 (by simp)
       have hk0m : k0 ∈ (LTr.mk j 7 n2 none b2 [k0, k1] [x1]).kids := by simp [LTr.kids]
       have hk1m : k1 ∈ (LTr.mk j 7 n2 none b2 [k0, k1] [x1]).kids := by simp [LTr.kids]
       have hL : X = some (.mk 7 0 [] [erT k0, letT q (erT k1) (erT d)] [x1.er]) := hL
       refine zA ?_
       refine ACode.drawC tabOk 22 [18, 19, 20, 21] [(3, .one (.sl 2 ([x1].map lAlt))), (7, .one (.sl 1 (kC [k0, k1]))), (8, .one (.box [.ptr (.o k0.id) 0])), (14, .one (.sl 1 (kC [k0, k1]))), (15, .one (.box [.ptr (.o k1.id) 0]))] (fun vs σ => match vs with
           | [] => σ = ⟨0, [], ou'⟩
           | [a] => ∃ (k : Nat) (ow : Outer), a = .one (.ptr (.o k) 0) ∧ NewO ou' ow [(k, .cells (lC (letN k q k1 d)))] ∧ σ = ⟨0, [], ow⟩
           | [a, b] => ∃ (k : Nat) (ow : Outer), a = .one (.ptr (.o k) 0) ∧ b = .one (.sl 1 [[.ptr (.o k0.id) 0], [.ptr (.o k) 0]]) ∧ NewO ou' ow [(k, .cells (lC (letN k q k1 d)))] ∧ σ = ⟨0, [], ow⟩
           | [a, b, c] => ∃ (k : Nat) (ow : Outer), a = .one (.ptr (.o k) 0) ∧ b = .one (.sl 1 [[.ptr (.o k0.id) 0], [.ptr (.o k) 0]]) ∧ c = .agg [int 7, int 0, .lit (.slice none 0 0), .sl 1 [[.ptr (.o k0.id) 0], [.ptr (.o k) 0]], .sl 2 ([x1].map lAlt)] ∧ NewO ou' ow [(k, .cells (lC (letN k q k1 d)))] ∧ σ = ⟨0, [], ow⟩
           | [a, b, c, e] => ∃ (k : Nat) (ow : Outer), a = .one (.ptr (.o k) 0) ∧ b = .one (.sl 1 [[.ptr (.o k0.id) 0], [.ptr (.o k) 0]]) ∧ c = .agg [int 7, int 0, .lit (.slice none 0 0), .sl 1 [[.ptr (.o k0.id) 0], [.ptr (.o k) 0]], .sl 2 ([x1].map lAlt)] ∧ e = .one (.ptr (.l 0) 0) ∧ NewO ou' ow [(k, .cells (lC (letN k q k1 d)))] ∧ σ = ⟨1, [(0, .cells [int 7, int 0, .lit (.slice none 0 0), .sl 1 [[.ptr (.o k0.id) 0], [.ptr (.o k) 0]], .sl 2 ([x1].map lAlt)])], ow⟩
           | _ => False) follows (by kernel_rfl) rfl rfl (by decide) (by kernel_rfl) (by kernel_rfl) rfl rfl ?_ ?_ (by decide) ?_ ?_
       · rintro vs σ hG
         match vs, hG with
         | [], hG => subst hG; rfl
         | [a], hG => obtain ⟨k, ow, _, _, rfl⟩ := hG; rfl
         | [a, b], hG => obtain ⟨k, ow, _, _, _, rfl⟩ := hG; rfl
         | [a, b, c], hG => obtain ⟨k, ow, _, _, _, _, rfl⟩ := hG; rfl
         | [a, b, c, e], hG => obtain ⟨k, ow, _, _, _, _, _, rfl⟩ := hG; rfl
       · rintro vs σ hG
         have hv' : σ.ou j = some (.cells [int 7, int n2, .sl 1 (b2.map cI), .sl 1 (kC [k0, k1]), .sl 2 ([x1].map lAlt)]) := by
           match vs, hG with
           | [], hG => subst hG; exact hv
           | [a], hG => obtain ⟨k, ow, _, hN, rfl⟩ := hG; exact hN.oldS hv
           | [a, b], hG => obtain ⟨k, ow, _, _, hN, rfl⟩ := hG; exact hN.oldS hv
           | [a, b, c], hG => obtain ⟨k, ow, _, _, _, hN, rfl⟩ := hG; exact hN.oldS hv
           | [a, b, c, e], hG => obtain ⟨k, ow, _, _, _, _, hN, rfl⟩ := hG; exact hN.oldS hv
         refine .step rfl (HStep.plain rfl (AStep.loadOwn tabOk rfl rfl rfl rfl rfl hv' rfl)) ?_
         refine .step rfl (HStep.plain rfl (AStep.loadOwn tabOk rfl rfl rfl rfl rfl hv' rfl)) ?_
         refine .step rfl (HStep.plain rfl (AStep.indexAddr tabOk rfl rfl rfl rfl rfl rfl (.inl rfl) rfl (by decide) rfl)) ?_
         refine .step rfl (HStep.plain rfl (AStep.loadOwn tabOk rfl rfl rfl rfl rfl hv' rfl)) ?_
         exact .step rfl (HStep.plain rfl (AStep.indexAddr tabOk rfl rfl rfl rfl rfl rfl (.inl rfl) rfl (by decide) rfl)) .nil
       · rintro vs σ hG p oo hp1 hp2
         match vs, hG with
         | [], hG =>
           subst hG
           cases hp1
           cases hp2
           refine ⟨rfl, rfl, .inr ⟨rfl, AStepR.call hΓ rfl rfl rfl rfl (by exact ⟨trivial, trivial, trivial, trivial⟩) hou (let_ok hΓ q k1 d ou') fun r ow hq _ _ => ?_⟩⟩
           obtain ⟨k, rfl, hN⟩ := hq
           exact ⟨k, ow, rfl, hN, rfl⟩
         | [a], hG =>
           obtain ⟨k, ow, rfl, hN, rfl⟩ := hG
           cases hp1
           cases hp2
           exact ⟨rfl, rfl, .inl ⟨_, _, HStep.auto tabOk rfl, k, ow, rfl, rfl, hN, rfl⟩⟩
         | [a, b], hG =>
           obtain ⟨k, ow, rfl, rfl, hN, rfl⟩ := hG
           cases hp1
           cases hp2
           exact ⟨rfl, rfl, .inl ⟨_, _, HStep.auto tabOk rfl, k, ow, rfl, rfl, rfl, hN, rfl⟩⟩
         | [a, b, c], hG =>
           obtain ⟨k, ow, rfl, rfl, rfl, hN, rfl⟩ := hG
           cases hp1
           cases hp2
           exact ⟨rfl, rfl, .inl ⟨_, _, HStep.auto tabOk rfl, k, ow, rfl, rfl, rfl, rfl, hN, rfl⟩⟩
         | [a, b, c, e], hG => cases hp1
       rintro vs σ hlen2 hG
       match vs, hlen2, hG with
       | [a, b, c, e], _, hG =>
       obtain ⟨k, ow, rfl, rfl, rfl, rfl, hN, rfl⟩ := hG
       have hD0 : Der ou' ou' (tailO (.mk i 4 n none [q] [.mk j 7 n2 none b2 [k0, k1] [x1], d] [])) d := Der.refl (fun p hp => tail_kid hdm hp) hou
       have hD1 := hD0.let hN (PartO.of fun p hp => tail_kid2 hvm hk1m hp)
       have hnd : (AObj.cells (lC (.mk 0 7 0 none [] [k0, letN k q k1 d] [x1]))).ids isO := lC_ids _
       refine AOps.wkObj (.l 0) rfl (cs' := lC (.mk 0 7 0 none [] [k0, letN k q k1 d] [x1])) (fun w C xs h => ?_) ?_
       · exact (show WkL _ _ from .cons (.refl _) (.cons (.refl _) (.cons (.nilS 1) (.cons (.refl _) (.cons (.refl _) .nil))))) w C xs h
       refine AOps.cedes [0] rfl (by decide) hN.ok fun k' hk' => ⟨[(137, .one (.ptr (.o k') 0))], [], [.cells (lC (.mk k' 7 0 none [] [k0, letN k q k1 d] [x1]))], .cons rfl rfl .nil, .nil, ?_, ?_⟩
       · exact .cons rfl (AObj.sub_f (fun i hi => by cases i with | l q => exact hi.elim | o q => rfl) _ hnd) .nil
       have hN2 := NewO.add hk' hN.ok (lC_ids (.mk k' 7 0 none [] [k0, letN k q k1 d] [x1]))
       refine zA ?_
       refine AFn.fin' rfl (WkF.refl _) (by simp) hN2.ok (ResD.w ho hn ?_)
       rw [hL]
       refine ⟨.mk k' 7 0 none [] [k0, letN k q k1 d] [x1], rfl, ?_, ?_⟩
       · simp only [erT, erTs, letN_er, List.map_cons, List.map_nil]
       · refine Der.node (u := .mk k' 7 0 none [] [k0, letN k q k1 d] [x1]) hD1.old hN2 ?_
         have et : tailO (.mk k' 7 0 none [] [k0, letN k q k1 d] [x1]) = objs k0 ++ objs (letN k q k1 d) := by
           simp only [tailO, bO, List.nil_append, objss, List.append_nil, plain_aO (show ∀ x ∈ [x1], x.nb = none by simpa using hx1)]
         rw [et]
         exact (PartO.of fun p hp => tail_kid2 hvm hk0m hp).app hD1.part
     · have h1 : ¬ a2.length = 1 := by simp at hb2; omega
       rw [if_neg (fun h => h1 h.2.2), if_neg (by simp)] at hL
       refine zA ?_
       exact AFn.fin' rfl (WkF.refl _) (by simp) hou (by rw [hL]; exact ⟨rfl, hou, fun _ _ h => h⟩)
   · have h7 : ¬ op2 = 7 := by simpa using hb
     rw [if_neg (fun h => h7 h.2.1), if_neg (by simp)] at hL
     refine zA ?_
     exact AFn.fin' rfl (WkF.refl _) (by simp) hou (by rw [hL]; exact ⟨rfl, hou, fun _ _ h => h⟩)
 rw [if_neg (fun h => h9 h.1)] at hL
 by_cases h11 : rule = 11
 · subst h11
   repeat' first | refine zN ?_ | ((with_reducible refine oj ?_); first | refine zix ?_ | refine zow rfl rfl hi ?_ | refine zow rfl rfl hv ?_)
   refine AOps.splitS rfl rfl rfl rfl (fun hb => ?_) (fun hb => ?_)
   · have h2' : op2 = 2 := by simpa using hb
     repeat' first | refine zN ?_ | ((with_reducible refine oj ?_); first | refine zix ?_ | refine zow rfl rfl hi ?_ | refine zow rfl rfl hv ?_)
     rw [hlen]
     refine ACode.condS rfl (fun hb2 => ?_) (fun hb2 => ?_)
     · have h1 : usesN q (erT d) = 1 := by simp at hb2; omega
       rw [if_pos ⟨rfl, h2', h1⟩] at hL
       rw [← usesL_len] at h1
       obtain ⟨x, hx⟩ := List.length_eq_one_iff.1 h1
       have hxm : x ∈ usesL q d := by rw [hx]; simp
       have hxk := uses_keys q d x hxm
       have hx1 : ou' x.id = some (.cells (lC x)) := hdo _ (uses_mem q d x hxm _ (self_mem x))
       have hvd : ∀ k ∈ keys (objs d), k ∉ keys (objs (.mk j op2 n2 none b2 ks2 a2)) := fun k hk hk2 => hni.2.2.2.2 k hk2 hk
       refine zA ?_
       rw [hx]
       refine ACode.drawX tabOk 6 [(1, .one (.box [.ptr (.o x.id) 0])), (5, .agg [int op2, int n2, .sl 1 (b2.map cI), .sl 1 (kC ks2), .sl 2 (a2.map lAlt)])] follows (by kernel_rfl) rfl rfl rfl rfl ?_ ?_
       · refine .step rfl (HStep.plain rfl (AStep.indexAddr tabOk rfl rfl rfl rfl rfl rfl (.inl rfl) rfl (by decide) rfl)) ?_
         exact .step rfl (HStep.plain rfl (AStep.loadOwnA tabOk rfl rfl rfl rfl rfl hv)) .nil
       refine zA ?_
       refine AOps.storeOwnA tabOk rfl rfl rfl rfl rfl (by simp [lC_len]) rfl rfl hx1 ?_
       refine zA ?_
       have hvk2 : x.id ∉ keys (tailO (.mk j op2 n2 none b2 ks2 a2)) := fun hm => hvd _ hxk (by rw [objs_tail]; exact List.mem_cons_of_mem _ hm)
       have hok2 : OuOk (setO ou' x.id (.cells (lC (.mk j op2 n2 none b2 ks2 a2)))) := setO_ok hou (lC_ids _)
       obtain ⟨e1, e2, e3⟩ := puts_fin (f := fun k => if k = x.id then some (withId x.id (.mk j op2 n2 none b2 ks2 a2)) else none) (q := q) (d := d) (V := erT (.mk j op2 n2 none b2 ks2 a2)) (ov := setO ou' x.id (.cells (lC (.mk j op2 n2 none b2 ks2 a2)))) (i := i) hni.2.2.2.1 (plain_kid hpl hdm) hni.2.1 (fun k => by rw [hx]; by_cases e : k = x.id <;> simp [e]) (fun k u hu => by
         by_cases e : k = x.id
         · rw [if_pos e] at hu
           cases hu
           refine ⟨by rw [withId_id, e], withId_er _ _, withId_own (own_tail hvo) hvk2, fun hm => ?_⟩
           rw [withId_tail] at hm
           exact hni.1 (by rw [objs_tail]; exact List.mem_cons_of_mem _ hm)
         · rw [if_neg e] at hu; cases hu) (fun p hp hf => by
         by_cases e : p.1 = x.id
         · rw [if_pos e] at hf; cases hf
         · rw [setO_ne e]; exact hdo p hp)
       have hid : (putsL (fun k => if k = x.id then some (withId x.id (.mk j op2 n2 none b2 ks2 a2)) else none) d).id = d.id := putsL_id (fun k u hu => by
         by_cases e : k = x.id
         · rw [if_pos e] at hu; cases hu; rw [withId_id, e]
         · rw [if_neg e] at hu; cases hu) d
       refine AFn.fin' rfl (WkF.refl _) (by simp) hok2 ?_
       rw [hL]
       refine ⟨_, by rw [hid], e1, e2, e3, hok2, fun k o hk hkt => ?_, fun k hk => ?_⟩
       rotate_left
       · rcases puts_keys (plain_kid hpl hdm) (fun k u hu => by
           by_cases e : k = x.id
           · rw [if_pos e] at hu; cases hu; rw [withId_id, e]
           · rw [if_neg e] at hu; cases hu) k hk with hkd | ⟨k', u, hu, hku⟩
         · obtain ⟨o', ho'⟩ := of_keys hkd
           exact .inl (mem_keys (tail_kid hdm ho'))
         · by_cases e : k' = x.id
           · rw [if_pos e] at hu
             cases hu
             rw [withId_tail] at hku
             obtain ⟨o', ho'⟩ := of_keys hku
             exact .inl (mem_keys (tail_kid hvm (by rw [objs_tail]; exact List.mem_cons_of_mem _ ho')))
           · rw [if_neg e] at hu; cases hu
       have hkd : k ≠ x.id := fun e => by
         obtain ⟨o', ho'⟩ := of_keys hxk
         exact hkt (e ▸ mem_keys (tail_kid hdm ho'))
       exact (setO_ne hkd).trans hk
     · have h1 : ¬ usesN q (erT d) = 1 := by simp at hb2; omega
       rw [if_neg (fun h => h1 h.2.2)] at hL
       refine zA ?_
       exact AFn.fin' rfl (WkF.refl _) (by simp) hou (by rw [hL]; exact ⟨rfl, hou, fun _ _ h => h⟩)
   · have h2' : ¬ op2 = 2 := by simpa using hb
     rw [if_neg (fun h => h2' h.2.1)] at hL
     refine zA ?_
     exact AFn.fin' rfl (WkF.refl _) (by simp) hou (by rw [hL]; exact ⟨rfl, hou, fun _ _ h => h⟩)
 rw [if_neg (fun h => h11 h.1)] at hL
 repeat' first | refine zN ?_ | ((with_reducible refine oj ?_); first | refine zix ?_ | refine zow rfl rfl hi ?_ | refine zow rfl rfl hv ?_) | (with_reducible refine oj ?_; refine AOps.splitS rfl rfl rfl rfl (fun hb => ?_) (fun hb => ?_)) | (with_reducible refine ok ?_; first | refine ACode.condS rfl (fun hb => ?_) (fun hb => ?_) | refine ACode.cond rfl (fun hb => ?_) (fun hb => ?_))
 all_goals first
   | (exfalso; simp at *; omega)
   | exact AFn.fin' rfl (WkF.refl _) (by simp) hou (by rw [hL]; exact ⟨rfl, hou, fun _ _ h => h⟩)
theorem ResW.dead {ou ou' : Outer} {t : LTr} {x : Option Tr} {r : FV} (h : ResW ou t x r ou') : OuOk ou' := by
 cases x with
 | none => exact h.2.1
 | some X => obtain ⟨u, _, _, _, _, h, _⟩ := h; exact h
theorem ResW.ids {ou ou' : Outer} {t : LTr} {x : Option Tr} {r : FV} (h : ResW ou t x r ou') : r.ids isO := by
 cases x with
 | none => rw [h.1]; trivial
 | some X => obtain ⟨u, rfl, _⟩ := h; trivial
theorem ResD.ids {ou ou' : Outer} {t : LTr} {x : Option Tr} {r : FV} (h : ResD ou t x r ou') : r.ids isO ∧ OuOk ou' := by
 cases x with
 | none => exact ⟨by rw [h.1]; trivial, h.2.1⟩
 | some X => obtain ⟨u, rfl, _, hD⟩ := h; exact ⟨trivial, hD.ok⟩
set_option maxHeartbeats 4000000 in
theorem result_ok (hΓ : ∀ g cs, (g, cs) ∈ Γ → idsL isO cs) (W : List AC) (hW : idsL isO W) (nodes : List Tr) (root : Tr) (rule at' n : Int) (i : Nat) (o nn : Int) (b : List Int) (ks : List LTr) (a : List LAlt) (hpl : plainL (.mk i o nn none b ks a)) (hok : okT (erT (.mk i o nn none b ks a))) (hsh : allT shpL (erT (.mk i o nn none b ks a))) (hc : cntN (erT (.mk i o nn none b ks a)) ≤ 1048576)
   (hrg : ∀ s ∈ ks, (erT s).op = 1 → -1073741824 ≤ (erT s).n ∧ (erT s).n ≤ 1073741823) (ou : Outer) (ho : Owns ou (objs (.mk i o nn none b ks a))) (hn : (keys (objs (.mk i o nn none b ks a))).Nodup)
   (hN : rule = 10 → AFn Tryd.prog Γ 85 [.one (.box W), .one (.ptr (.o i) 0), .one (int n)] ou (ResW ou (.mk i o nn none b ks a) (namedT root (erT (.mk i o nn none b ks a)) n)))
   (hU : rule = 12 → o = 0 → AFn Tryd.prog Γ 86 [.one (.box W), .one (.ptr (.o i) 0)] ou (ResW ou (.mk i o nn none b ks a) (unfoldT nodes root (erT (.mk i o nn none b ks a))))) :
   AFn Tryd.prog Γ 47 [.one (.box W), .agg [int rule, int at', int n], .one (.ptr (.o i) 0)] ou (ResW ou (.mk i o nn none b ks a) (resT nodes root rule n (erT (.mk i o nn none b ks a)))) := by
 have hi : ou i = some (.cells (lC (.mk i o nn none b ks a))) := owns_node ho
 simp only [lC, bC] at hi
 have hbl : b.length ≤ 1048576 := hok.1
 have hkl : ks.length ≤ 1048576 := by have := hok.2.1; simpa [erTs_eq] using this
 obtain ⟨t, hte⟩ : ∃ t, t = LTr.mk i o nn none b ks a := ⟨_, rfl⟩
 have hti : t.id = i := by rw [hte]; rfl
 obtain ⟨X, hX⟩ : ∃ X, X = resT nodes root rule n (erT t) := ⟨_, rfl⟩
 obtain ⟨B, hB⟩ : ∃ B : Bool, B = decide (rule = 1 ∧ (erT t).op = 3 ∧ (kidT (erT t) 0).op = 2 ∧ ((kidT (erT t) 0).binds.length : Int) = (erT t).kids.length - 1) := ⟨_, rfl⟩
 have hop : (erT t).op = o := by rw [hte]; rfl
 rw [← hte, ← hX]
 unfold resT at hX
 rw [hop] at hX hB
 refine AFn.walk 206 tabOk Tryd.func47 rfl (by kernel_rfl) rfl rfl fun hou => ?_
 have hW1 : ∀ k, idsL (inL k) W := fun k => idsL_mono (fun i hi => by cases i with | l q => exact hi.elim | o q => trivial) W hW
 have hnil : X = none → ResW ou t X nilP ou := fun h => by rw [h]; exact ⟨rfl, hou, fun _ _ h => h⟩
 refine zA ?_
 refine AOps.cutN 0 rfl hΓ (α := Unit) (fun _ => [(14, .one (.lit (.bool (decide (n ≠ 0 ∧ rule ≠ 10))))), (4, .one (.ptr (.l 0) 0)), (2, .one (.ptr (.o i) 0)), (0, .one (.box W))]) (fun _ => ⟨1, [(0, .cells [int rule, int at', int n])], ou⟩) (fun _ => True) ?_ fun _ _ => ?_
 · dsimp only [List.take_zero, List.nil_append]
   refine AOps.splitS rfl rfl rfl rfl (fun hb => ?_) (fun hb => ?_)
   · have hn0 : n ≠ 0 := by simpa using hb
     refine zA ?_
     refine cInv ⟨(), id, trivial, LessR.of rfl (FrSub.cons rfl (.ofEq ?_) (FrSub.cons rfl (.ofEq rfl) (FrSub.cons rfl (.ofEq rfl) (FrSub.consP rfl (.ofEq rfl) (by simp [hW]) .nil)))) (by simp [hW1]) (by repeat' first | exact LoSub.nil | refine zlc ?_ | refine zld ?_ ?_ | rfl) rfl rfl hou⟩
     simp only [FV.ren, AC.ren]
     congr 3
     rw [Bool.eq_iff_iff]; simp [hn0]
   · have hn0 : n = 0 := by simpa using hb
     refine zA ?_
     refine cInv ⟨(), id, trivial, LessR.of rfl (FrSub.cons rfl (.ofEq ?_) (FrSub.cons rfl (.ofEq rfl) (FrSub.cons rfl (.ofEq rfl) (FrSub.consP rfl (.ofEq rfl) (by simp [hW]) .nil)))) (by simp [hW1]) (by repeat' first | exact LoSub.nil | refine zlc ?_ | refine zld ?_ ?_ | rfl) rfl rfl hou⟩
     simp only [FV.ren, AC.ren]
     congr 3
     symm; simp [hn0]
 refine ACode.condS rfl (fun hb => ?_) (fun hb => ?_)
 · have h1 : n ≠ 0 ∧ rule ≠ 10 := by simpa using hb
   rw [if_pos h1] at hX
   refine zA ?_
   exact AFn.fin' rfl (WkF.refl _) (by simp) hou (hnil hX)
 have h1 : ¬ (n ≠ 0 ∧ rule ≠ 10) := by simpa using hb
 rw [if_neg h1] at hX
 refine zA ?_
 refine ACode.cutN 0 rfl hΓ (α := Unit) (fun _ => [(15, .one (.lit (.bool B))), (4, .one (.ptr (.l 0) 0)), (2, .one (.ptr (.o i) 0)), (0, .one (.box W))]) (fun _ => ⟨1, [(0, .cells [int rule, int at', int n])], ou⟩) (fun _ => True) ?_ fun _ _ => ?_
 · dsimp only [List.take_zero, List.nil_append]
   by_cases hr1 : rule = 1
   · by_cases h3 : o = 3
     · obtain ⟨k0, ks', rfl⟩ : ∃ k0 ks', ks = k0 :: ks' := by
         have := (shp_app (o := o) (n := nn) (b := b) (k := erTs ks) (a := a.map LAlt.er) hsh h3).1
         cases ks with
         | nil => simp [erTs] at this
         | cons k0 ks' => exact ⟨k0, ks', rfl⟩
       have hk0m : k0 ∈ (LTr.mk i o nn none b (k0 :: ks') a).kids := by simp [LTr.kids]
       have hkt : kidT (erT t) 0 = erT k0 := by rw [hte]; rfl
       have hkl2 : (erT t).kids.length = ks'.length + 1 := by rw [hte, er_kids]; simp [LTr.kids]
       rw [hkt, hkl2] at hB
       have hk0o := owns_kid ho hk0m
       have hpk0 := plain_kid hpl hk0m
       have hk0b : (erT k0).binds.length ≤ 1048576 := by
         have := okT_kid hok (er_kid hk0m)
         cases hek : erT k0 with
         | mk o' n' b' k' a' => rw [hek] at this; exact this.1
       cases k0 with
       | mk j op2 n2 nb2 b2 ks2 a2 =>
       obtain rfl : nb2 = none := hpk0.1
       have hj : ou j = some (.cells (lC (.mk j op2 n2 none b2 ks2 a2))) := owns_node hk0o
       simp only [lC, bC] at hj
       have hB : B = decide (rule = 1 ∧ o = 3 ∧ op2 = 2 ∧ ((b2.length : Int) = ((ks'.length + 1 : Nat) : Int) - 1)) := hB
       have hk0b : b2.length ≤ 1048576 := hk0b
       by_cases h2 : op2 = 2
       · refine ACode.drawX tabOk 41 [(2, .one (.lit (.bool true))), (7, .one (int o)), (8, .one (.lit (.bool true))), (14, .one (.sl 1 (kC (.mk j op2 n2 none b2 ks2 a2 :: ks')))), (15, .one (.box [.ptr (.o j) 0])), (19, .one (int op2)), (20, .one (.lit (.bool true))), (26, .one (.sl 1 (kC (.mk j op2 n2 none b2 ks2 a2 :: ks')))), (27, .one (.box [.ptr (.o j) 0])), (31, .one (.sl 1 (b2.map cI))), (36, .one (.sl 1 (kC (.mk j op2 n2 none b2 ks2 a2 :: ks')))), (38, .one (int (((kC (.mk j op2 n2 none b2 ks2 a2 :: ks')).length : Int) - 1)))] follows (by kernel_rfl) rfl rfl rfl rfl ?_ ?_
         · refine .step rfl (HStep.litB tabOk rfl (by simp [hr1])) ?_
           refine .step rfl (HStep.guarded rfl rfl rfl (AStep.loadOwn tabOk rfl rfl rfl rfl rfl hi rfl)) ?_
           refine .step rfl (HStep.litB tabOk rfl (by simp [h3])) ?_
           refine .step rfl (HStep.guarded rfl rfl rfl (AStep.loadOwn tabOk rfl rfl rfl rfl rfl hi rfl)) ?_
           refine .step rfl (HStep.guarded rfl rfl rfl (AStep.indexAddr tabOk rfl rfl rfl rfl rfl rfl (.inl rfl) rfl (by decide) rfl)) ?_
           refine .step rfl (HStep.guarded rfl rfl rfl (AStep.loadOwn tabOk rfl rfl rfl rfl rfl hj rfl)) ?_
           refine .step rfl (HStep.litB tabOk rfl (by simp [h2])) ?_
           refine .step rfl (HStep.guarded rfl rfl rfl (AStep.loadOwn tabOk rfl rfl rfl rfl rfl hi rfl)) ?_
           refine .step rfl (HStep.guarded rfl rfl rfl (AStep.indexAddr tabOk rfl rfl rfl rfl rfl rfl (.inl rfl) rfl (by decide) rfl)) ?_
           refine .step rfl (HStep.guarded rfl rfl rfl (AStep.loadOwn tabOk rfl rfl rfl rfl rfl hj rfl)) ?_
           refine .step rfl (HStep.guarded rfl rfl rfl (AStep.loadOwn tabOk rfl rfl rfl rfl rfl hi rfl)) ?_
           exact .step rfl (HStep.guarded rfl rfl rfl (AStep.arith rfl rfl rfl (.inr (.inl ⟨rfl, rfl⟩)) (inRange_i64 (by rw [kC_len]; have : (0 : Int) ≤ ((LTr.mk j op2 n2 none b2 ks2 a2 :: ks').length : Int) := Int.natCast_nonneg _; omega) (by rw [kC_len]; omega)))) .nil
         refine zA ?_
         refine cInv ⟨(), id, trivial, LessR.of rfl (FrSub.cons rfl (.ofEq ?_) (FrSub.cons rfl (.ofEq rfl) (FrSub.cons rfl (.ofEq rfl) (FrSub.consP rfl (.ofEq rfl) (by simp [hW]) .nil)))) (by simp [hW1]) (by repeat' first | exact LoSub.nil | refine zlc ?_ | refine zld ?_ ?_ | rfl) rfl rfl hou⟩
         simp only [FV.ren, AC.ren]
         congr 3
         rw [hB, Bool.eq_iff_iff]
         simp [kC_len, hr1, h3, h2]
       · refine ACode.drawX tabOk 41 [(2, .one (.lit (.bool true))), (7, .one (int o)), (8, .one (.lit (.bool true))), (14, .one (.sl 1 (kC (.mk j op2 n2 none b2 ks2 a2 :: ks')))), (15, .one (.box [.ptr (.o j) 0])), (19, .one (int op2)), (20, .one (.lit (.bool false)))] follows (by kernel_rfl) rfl rfl rfl rfl ?_ ?_
         · refine .step rfl (HStep.litB tabOk rfl (by simp [hr1])) ?_
           refine .step rfl (HStep.guarded rfl rfl rfl (AStep.loadOwn tabOk rfl rfl rfl rfl rfl hi rfl)) ?_
           refine .step rfl (HStep.litB tabOk rfl (by simp [h3])) ?_
           refine .step rfl (HStep.guarded rfl rfl rfl (AStep.loadOwn tabOk rfl rfl rfl rfl rfl hi rfl)) ?_
           refine .step rfl (HStep.guarded rfl rfl rfl (AStep.indexAddr tabOk rfl rfl rfl rfl rfl rfl (.inl rfl) rfl (by decide) rfl)) ?_
           refine .step rfl (HStep.guarded rfl rfl rfl (AStep.loadOwn tabOk rfl rfl rfl rfl rfl hj rfl)) ?_
           exact .step rfl (HStep.litB tabOk rfl (by simp [h2])) .nil
         refine zA ?_
         refine cInv ⟨(), id, trivial, LessR.of rfl (FrSub.cons rfl (.ofEq ?_) (FrSub.cons rfl (.ofEq rfl) (FrSub.cons rfl (.ofEq rfl) (FrSub.consP rfl (.ofEq rfl) (by simp [hW]) .nil)))) (by simp [hW1]) (by repeat' first | exact LoSub.nil | refine zlc ?_ | refine zld ?_ ?_ | rfl) rfl rfl hou⟩
         simp only [FV.ren, AC.ren]
         congr 3
         rw [hB]; simp [h2]
     · refine ACode.drawX tabOk 41 [(2, .one (.lit (.bool true))), (7, .one (int o)), (8, .one (.lit (.bool false)))] follows (by kernel_rfl) rfl rfl rfl rfl ?_ ?_
       · refine .step rfl (HStep.litB tabOk rfl (by simp [hr1])) ?_
         refine .step rfl (HStep.guarded rfl rfl rfl (AStep.loadOwn tabOk rfl rfl rfl rfl rfl hi rfl)) ?_
         exact .step rfl (HStep.litB tabOk rfl (by simp [h3])) .nil
       refine zA ?_
       refine cInv ⟨(), id, trivial, LessR.of rfl (FrSub.cons rfl (.ofEq ?_) (FrSub.cons rfl (.ofEq rfl) (FrSub.cons rfl (.ofEq rfl) (FrSub.consP rfl (.ofEq rfl) (by simp [hW]) .nil)))) (by simp [hW1]) (by repeat' first | exact LoSub.nil | refine zlc ?_ | refine zld ?_ ?_ | rfl) rfl rfl hou⟩
       simp only [FV.ren, AC.ren]
       congr 3
       rw [hB]; simp [h3]
   · refine ACode.drawX tabOk 41 [(2, .one (.lit (.bool false)))] follows (by kernel_rfl) rfl rfl rfl rfl ?_ ?_
     · exact .step rfl (HStep.litB tabOk rfl (by simp [hr1])) .nil
     refine zA ?_
     refine cInv ⟨(), id, trivial, LessR.of rfl (FrSub.cons rfl (.ofEq ?_) (FrSub.cons rfl (.ofEq rfl) (FrSub.cons rfl (.ofEq rfl) (FrSub.consP rfl (.ofEq rfl) (by simp [hW]) .nil)))) (by simp [hW1]) (by repeat' first | exact LoSub.nil | refine zlc ?_ | refine zld ?_ ?_ | rfl) rfl rfl hou⟩
     simp only [FV.ren, AC.ren]
     congr 3
     rw [hB]; simp [hr1]
 refine ACode.condS rfl (fun hb => ?_) (fun hb => ?_)
 · rw [hb] at hB
   have hB := of_decide_eq_true hB.symm
   rw [if_pos hB] at hX
   obtain ⟨hr1, h3, h2, h4⟩ := hB
   obtain ⟨k0, ks', rfl⟩ : ∃ k0 ks', ks = k0 :: ks' := by
     have := (shp_app (o := o) (n := nn) (b := b) (k := erTs ks) (a := a.map LAlt.er) hsh h3).1
     cases ks with
     | nil => simp [erTs] at this
     | cons k0 ks' => exact ⟨k0, ks', rfl⟩
   have hk0m : k0 ∈ (LTr.mk i o nn none b (k0 :: ks') a).kids := by simp [LTr.kids]
   have hkt : kidT (erT t) 0 = erT k0 := by rw [hte]; rfl
   have hkl2 : (erT t).kids = erT k0 :: ks'.map erT := by rw [hte, er_kids]; rfl
   rw [hkt] at h2 h4 hX
   rw [hkl2] at h4 hX
   have hk0o := owns_kid ho hk0m
   have hpk0 := plain_kid hpl hk0m
   have hk0s := allT_kid hsh (er_kid hk0m)
   cases k0 with
   | mk j op2 n2 nb2 b2 ks2 a2 =>
   obtain rfl : nb2 = none := hpk0.1
   obtain rfl : op2 = 2 := h2
   obtain ⟨body, rfl⟩ : ∃ body, ks2 = [body] := by
     have := (shp_lam (o := 2) (n := n2) (b := b2) (k := erTs ks2) (a := a2.map LAlt.er) hk0s rfl).1
     rw [erTs_eq, List.length_map] at this
     exact List.length_eq_one_iff.1 this
   have hj : ou j = some (.cells (lC (.mk j 2 n2 none b2 [body] a2))) := owns_node hk0o
   simp only [lC, bC] at hj
   have hbm : body ∈ (LTr.mk j 2 n2 none b2 [body] a2).kids := by simp [LTr.kids]
   have h4 : b2.length = ks'.length := by
     have h5 : ((b2.length : Nat) : Int) = (((erT (.mk j 2 n2 none b2 [body] a2) :: ks'.map erT).length : Nat) : Int) - 1 := h4
     simp at h5; omega
   have hX : X = some (letsT b2 (ks'.map erT) (erT body)) := hX
   have hkl' : ks'.length ≤ 1048576 := by simp at hkl; omega
   refine zA ?_
   refine ACode.drawC tabOk 26 [25] [(3, .one (.sl 1 (kC (.mk j 2 n2 none b2 [body] a2 :: ks')))), (4, .one (.box [.ptr (.o j) 0])), (8, .one (.sl 1 (b2.map cI))), (12, .one (.sl 1 (kC (.mk j 2 n2 none b2 [body] a2 :: ks')))), (13, .one (.sl 1 (kC ks'))), (17, .one (.sl 1 (kC (.mk j 2 n2 none b2 [body] a2 :: ks')))), (18, .one (.box [.ptr (.o j) 0])), (22, .one (.sl 1 (kC [body]))), (23, .one (.box [.ptr (.o body.id) 0]))] (fun vs σ => match vs with
       | [] => σ = ⟨1, [(0, .cells [int rule, int at', int n])], ou⟩
       | [r] => ∃ (u : LTr) (ow : Outer), r = .one (.ptr (.o u.id) 0) ∧ erT u = letsT b2 (ks'.map erT) (erT body) ∧ Der ou ow (objss ks' ++ objs body) u ∧ σ = ⟨1, [(0, .cells [int rule, int at', int n])], ow⟩
       | _ => False) follows (by kernel_rfl) rfl rfl (by decide) (by kernel_rfl) (by kernel_rfl) rfl rfl ?_ ?_ (by decide) ?_ ?_
   · rintro vs σ hG
     match vs, hG with
     | [], hG => subst hG; rfl
     | [r], hG => obtain ⟨u, ow, _, _, _, rfl⟩ := hG; rfl
   · rintro vs σ hG
     have hv' : σ.ou j = some (.cells [int 2, int n2, .sl 1 (b2.map cI), .sl 1 (kC [body]), .sl 2 (a2.map lAlt)]) ∧ σ.ou i = some (.cells [int o, int nn, .sl 1 (b.map cI), .sl 1 (kC (.mk j 2 n2 none b2 [body] a2 :: ks')), .sl 2 (a.map lAlt)]) := by
       match vs, hG with
       | [], hG => subst hG; exact ⟨hj, hi⟩
       | [r], hG => obtain ⟨u, ow, _, _, hD, rfl⟩ := hG; exact ⟨hD.old _ _ hj, hD.old _ _ hi⟩
     refine .step rfl (HStep.plain rfl (AStep.loadOwn tabOk rfl rfl rfl rfl rfl hv'.2 rfl)) ?_
     refine .step rfl (HStep.plain rfl (AStep.indexAddr tabOk rfl rfl rfl rfl rfl rfl (.inl rfl) rfl (by decide) rfl)) ?_
     refine .step rfl (HStep.plain rfl (AStep.loadOwn tabOk rfl rfl rfl rfl rfl hv'.1 rfl)) ?_
     refine .step rfl (HStep.plain rfl (AStep.loadOwn tabOk rfl rfl rfl rfl rfl hv'.2 rfl)) ?_
     refine .step rfl (HStep.plain rfl (AStep.sliceFrom (b := 1) (es := kC (.mk j 2 n2 none b2 [body] a2 :: ks')) tabOk rfl rfl rfl rfl rfl rfl rfl (by rw [kC_len]; simp))) ?_
     refine .step rfl (HStep.plain rfl (AStep.loadOwn tabOk rfl rfl rfl rfl rfl hv'.2 rfl)) ?_
     refine .step rfl (HStep.plain rfl (AStep.indexAddr tabOk rfl rfl rfl rfl rfl rfl (.inl rfl) rfl (by decide) rfl)) ?_
     refine .step rfl (HStep.plain rfl (AStep.loadOwn tabOk rfl rfl rfl rfl rfl hv'.1 rfl)) ?_
     exact .step rfl (HStep.plain rfl (AStep.indexAddr tabOk rfl rfl rfl rfl rfl rfl (.inl rfl) rfl (by decide) rfl)) .nil
   · rintro vs σ hG p oo hp1 hp2
     match vs, hG with
     | [], hG =>
       subst hG
       cases hp1
       cases hp2
       refine ⟨rfl, rfl, .inr ⟨rfl, AStepR.call hΓ rfl rfl rfl rfl (by exact ⟨by simp, by simp, trivial, trivial⟩) hou (lets_ok hΓ b2 ks' body h4 hkl' ou) fun r ow hq _ _ => ?_⟩⟩
       obtain ⟨u, rfl, he, hD⟩ := hq
       exact ⟨u, ow, rfl, he, hD, rfl⟩
     | [r], hG => cases hp1
   rintro vs σ hlen2 hG
   match vs, hlen2, hG with
   | [r], _, hG =>
   obtain ⟨u, ow, rfl, he, hD, rfl⟩ := hG
   refine zM ?_
   refine AFn.fin' rfl (WkF.refl _) (by simp) hD.ok ?_
   rw [hX, hte]
   refine ResD.w ho hn ⟨u, rfl, he, hD.mono fun p hp => ?_⟩
   rcases List.mem_append.1 hp with hp | hp
   · rw [objss_eq] at hp
     obtain ⟨s2, hs2, hp2⟩ := List.mem_flatMap.1 hp
     exact tail_kid (by simp [LTr.kids, hs2]) hp2
   · exact tail_kid2 hk0m hbm hp
 rw [hb] at hB
 have hB := of_decide_eq_false hB.symm
 rw [if_neg hB] at hX
 by_cases h4 : o = 4
 · subst h4
   by_cases h10 : rule = 10
   · subst h10
     rw [if_neg (by simp), if_neg (by simp), if_neg (by simp), if_neg (by simp), if_neg (by simp), if_pos rfl] at hX
     have hN := hN rfl
     rw [← hte, ← hX] at hN
     repeat' first | refine zN ?_ | ((with_reducible refine oj ?_); first | refine zix ?_ | refine zow rfl rfl hi ?_)
     refine AOps.call1 hΓ rfl rfl rfl rfl rfl rfl rfl (by exact ⟨hW, trivial, trivial, trivial⟩) hou hN fun r ow hq hids how => ?_
     refine zA ?_
     exact AFn.fin' rfl (WkF.refl _) hids how hq
   · obtain ⟨q, y0, y1, hb2, hk2, ha2⟩ := shp_let (o := 4) (n := nn) (b := b) (k := erTs ks) (a := a.map LAlt.er) hsh rfl
     obtain ⟨v, d, rfl⟩ : ∃ v d, ks = [v, d] := by
       rw [erTs_eq] at hk2
       match ks, hk2 with
       | [v, d], _ => exact ⟨v, d, rfl⟩
     obtain rfl : a = [] := by simpa using ha2
     subst hb2
     rw [if_pos ⟨rfl, h10⟩] at hX
     have hL := letRule_ok hΓ rule i nn q v d hpl hok hsh hc ou ho hn
     rw [← hte, ← hX] at hL
     repeat' first | refine zN ?_ | ((with_reducible refine oj ?_); first | refine zix ?_ | refine zow rfl rfl hi ?_)
     refine ACode.condS rfl (fun hb10 => ?_) (fun hb10 => absurd hb10 (by simp [h10]))
     refine zA ?_
     refine AOps.call1 hΓ rfl rfl rfl rfl rfl rfl rfl (by exact ⟨trivial, trivial, trivial⟩) hou hL fun r ow hq hids how => ?_
     refine zA ?_
     exact AFn.fin' rfl (WkF.refl _) hids how hq
 rw [if_neg (fun h => h4 h.1)] at hX
 by_cases hr4 : rule = 4
 · subst hr4
   rw [if_neg (fun h : (4 : Int) = 5 ∧ _ => absurd h.1 (by decide)), if_neg (fun h : (4 : Int) = 6 ∧ _ => absurd h.1 (by decide)), if_neg (fun h : (4 : Int) = 7 ∧ _ => absurd h.1 (by decide)), if_neg (by decide : ¬ (4 : Int) = 10), if_neg (fun h : (4 : Int) = 12 ∧ _ => absurd h.1 (by decide))] at hX
   repeat' first | refine zN ?_ | ((with_reducible refine oj ?_); first | refine zix ?_ | refine zow rfl rfl hi ?_)
   refine AOps.splitS rfl rfl rfl rfl (fun hb4 => absurd (by simpa using hb4) h4) (fun hb4 => ?_)
   repeat' first | refine zN ?_ | ((with_reducible refine oj ?_); first | refine zix ?_ | refine zow rfl rfl hi ?_)
   refine AOps.splitS rfl rfl rfl rfl (fun hb5 => ?_) (fun hb5 => ?_)
   · have h5 : o = 5 := by simpa using hb5
     subst h5
     have hrl := (shp_rec (o := 5) (n := nn) (b := b) (k := erTs ks) (a := a.map LAlt.er) hsh rfl).1
     rw [erTs_eq, List.length_map] at hrl
     have hun := unused_ok hΓ i 5 nn b ks a hok hc (by omega) ou ho
     rw [← hte] at hun
     repeat' first | refine zN ?_ | ((with_reducible refine oj ?_); first | refine zix ?_ | refine zow rfl rfl hi ?_)
     refine AOps.call1 hΓ rfl rfl rfl rfl rfl rfl rfl (by exact ⟨trivial, trivial⟩) hou hun fun r ow hq _ how => ?_
     obtain ⟨rfl, rfl⟩ := hq
     refine zA ?_
     refine ACode.condS rfl (fun hbu => ?_) (fun hbu => ?_)
     · rw [if_pos ⟨rfl, rfl, hbu⟩] at hX
       obtain ⟨s, hs⟩ := get_of_lt (l := ks) (i := b.length) (by omega)
       have hsm := List.mem_of_getElem? hs
       refine zA ?_
       refine ACode.drawX tabOk 11 [(3, .one (.sl 1 (kC ks))), (7, .one (.sl 1 (b.map cI))), (9, .one (.box [.ptr (.o s.id) 0]))] follows (by kernel_rfl) rfl rfl rfl rfl ?_ ?_
       · refine .step rfl (HStep.plain rfl (AStep.loadOwn tabOk rfl rfl rfl rfl rfl hi rfl)) ?_
         refine .step rfl (HStep.plain rfl (AStep.loadOwn tabOk rfl rfl rfl rfl rfl hi rfl)) ?_
         exact .step rfl (HStep.plain rfl (AStep.indexAddr tabOk rfl rfl rfl rfl rfl rfl (.inl rfl) rfl (by simp) (by simpa using kC_get hs))) .nil
       refine zA ?_
       refine AFn.fin' rfl (WkF.refl _) (by simp) hou ?_
       have hke : kidT (erT t) (erT t).binds.length = erT s := by
         rw [hte]
         unfold kidT
         rw [er_kids, List.getD_eq_getElem?_getD, List.getElem?_map]
         show (ks[b.length]?.map erT).getD default = erT s
         rw [hs]; rfl
       rw [hke] at hX
       rw [hX, hte]
       exact ResD.w ho hn ⟨s, rfl, rfl, Der.refl (fun p hp => tail_kid hsm hp) hou⟩
     · rw [if_neg (by rw [hbu]; simp)] at hX
       repeat' first | refine zN ?_ | ((with_reducible refine oj ?_); first | refine zix ?_ | refine zow rfl rfl hi ?_)
       exact AFn.fin' rfl (WkF.refl _) (by simp) hou (hnil hX)
   · have h5 : ¬ o = 5 := by simpa using hb5
     rw [if_neg (fun h => h5 h.2.1)] at hX
     repeat' first | refine zN ?_ | ((with_reducible refine oj ?_); first | refine zix ?_ | refine zow rfl rfl hi ?_)
     exact AFn.fin' rfl (WkF.refl _) (by simp) hou (hnil hX)
 rw [if_neg (fun h => hr4 h.1)] at hX
 by_cases hr5 : rule = 5
 · subst hr5
   rw [if_neg (fun h : (5 : Int) = 6 ∧ _ => absurd h.1 (by decide)), if_neg (fun h : (5 : Int) = 7 ∧ _ => absurd h.1 (by decide)), if_neg (by decide : ¬ (5 : Int) = 10), if_neg (fun h : (5 : Int) = 12 ∧ _ => absurd h.1 (by decide))] at hX
   repeat' first | refine zN ?_ | ((with_reducible refine oj ?_); first | refine zix ?_ | refine zow rfl rfl hi ?_)
   refine AOps.splitS rfl rfl rfl rfl (fun hb4 => absurd (by simpa using hb4) h4) (fun hb4 => ?_)
   repeat' first | refine zN ?_ | ((with_reducible refine oj ?_); first | refine zix ?_ | refine zow rfl rfl hi ?_)
   refine AOps.splitS rfl rfl rfl rfl (fun hb5 => ?_) (fun hb5 => ?_)
   · have h5 : o = 7 := by simpa using hb5
     subst h5
     have hrl := (shp_case (o := 7) (n := nn) (b := b) (k := erTs ks) (a := a.map LAlt.er) hsh rfl).1
     rw [erTs_eq, List.length_map, List.length_map] at hrl
     obtain ⟨con, rs, rfl⟩ : ∃ con rs, ks = con :: rs := by
       cases ks with
       | nil => simp at hrl
       | cons c r => exact ⟨c, r, rfl⟩
     have hrm : con ∈ (LTr.mk i 7 nn none b (con :: rs) a).kids := by simp [LTr.kids]
     have hpc := plain_kid hpl hrm
     have hch := chosen_ok hΓ i 7 nn b con rs a hpc hpl.2.1 (by simpa using hrl) hok hsh ou ho
     have hro := owns_kid ho hrm
     have hcop : (kidT (erT t) 0).op = (erT con).op := by rw [hte]; rfl
     rw [hcop] at hX
     cases con with
     | mk j op2 n2 nb2 b2 ks2 a2 =>
     have hj : ou j = some (.cells (lC (.mk j op2 n2 nb2 b2 ks2 a2))) := owns_node hro
     simp only [lC, bC] at hj
     repeat' first | refine zN ?_ | ((with_reducible refine oj ?_); first | refine zix ?_ | refine zow rfl rfl hi ?_ | refine zow rfl rfl hj ?_)
     refine ACode.condS rfl (fun hb6 => ?_) (fun hb6 => ?_)
     · have h6 : op2 = 6 := by simpa using hb6
       rw [if_pos ⟨rfl, rfl, h6⟩] at hX
       rw [← hte, ← hX] at hch
       refine zA ?_
       refine AOps.call1 hΓ rfl rfl rfl rfl rfl rfl rfl (by exact ⟨trivial, trivial⟩) hou hch fun r ow hq hids how => ?_
       refine zA ?_
       exact AFn.fin' rfl (WkF.refl _) hids how (by rw [hte] at hq ⊢; exact ResD.w ho hn hq)
     · have h6 : ¬ op2 = 6 := by simpa using hb6
       rw [if_neg (fun h => h6 h.2.2)] at hX
       repeat' first | refine zN ?_ | ((with_reducible refine oj ?_); first | refine zix ?_ | refine zow rfl rfl hi ?_)
       exact AFn.fin' rfl (WkF.refl _) (by simp) hou (hnil hX)
   · have h5 : ¬ o = 7 := by simpa using hb5
     rw [if_neg (fun h => h5 h.2.1)] at hX
     repeat' first | refine zN ?_ | ((with_reducible refine oj ?_); first | refine zix ?_ | refine zow rfl rfl hi ?_)
     exact AFn.fin' rfl (WkF.refl _) (by simp) hou (hnil hX)
 rw [if_neg (fun h => hr5 h.1)] at hX
 by_cases hr6 : rule = 6
 · subst hr6
   rw [if_neg (fun h : (6 : Int) = 7 ∧ _ => absurd h.1 (by decide)), if_neg (by decide : ¬ (6 : Int) = 10), if_neg (fun h : (6 : Int) = 12 ∧ _ => absurd h.1 (by decide))] at hX
   have hkl3 : (erT t).kids.length = ks.length := by rw [hte, er_kids]; simp [LTr.kids]
   rw [hkl3] at hX
   repeat' first | refine zN ?_ | ((with_reducible refine oj ?_); first | refine zix ?_ | refine zow rfl rfl hi ?_)
   refine AOps.splitS rfl rfl rfl rfl (fun hb4 => absurd (by simpa using hb4) h4) (fun hb4 => ?_)
   repeat' first | refine zN ?_ | ((with_reducible refine oj ?_); first | refine zix ?_ | refine zow rfl rfl hi ?_)
   refine AOps.splitS rfl rfl rfl rfl (fun hb5 => ?_) (fun hb5 => ?_)
   · have h5 : o = 8 := by simpa using hb5
     subst h5
     repeat' first | refine zN ?_ | ((with_reducible refine oj ?_); first | refine zix ?_ | refine zow rfl rfl hi ?_)
     refine ACode.condS rfl (fun hb6 => ?_) (fun hb6 => ?_)
     · have h6 : ks.length = 2 := by simp [kC_len] at hb6; omega
       rw [if_pos ⟨rfl, rfl, h6⟩] at hX
       obtain ⟨x, y, rfl⟩ : ∃ x y, ks = [x, y] := by
         match ks, h6 with
         | [x, y], _ => exact ⟨x, y, rfl⟩
       have har := arith_ok hΓ i 8 nn b x y a (hrg x (by simp)) (hrg y (by simp)) ou ho
       rw [← hte, ← hX] at har
       refine zA ?_
       refine AOps.call1 hΓ rfl rfl rfl rfl rfl rfl rfl (by exact ⟨trivial, trivial⟩) hou har fun r ow hq hids how => ?_
       refine zA ?_
       exact AFn.fin' rfl (WkF.refl _) hids how (by rw [hte] at hq ⊢; exact ResD.w ho hn hq)
     · have h6 : ¬ ks.length = 2 := by simp [kC_len] at hb6; omega
       rw [if_neg (fun h => h6 h.2.2)] at hX
       repeat' first | refine zN ?_ | ((with_reducible refine oj ?_); first | refine zix ?_ | refine zow rfl rfl hi ?_)
       exact AFn.fin' rfl (WkF.refl _) (by simp) hou (hnil hX)
   · have h5 : ¬ o = 8 := by simpa using hb5
     rw [if_neg (fun h => h5 h.2.1)] at hX
     repeat' first | refine zN ?_ | ((with_reducible refine oj ?_); first | refine zix ?_ | refine zow rfl rfl hi ?_)
     exact AFn.fin' rfl (WkF.refl _) (by simp) hou (hnil hX)
 rw [if_neg (fun h => hr6 h.1)] at hX
 by_cases hr7 : rule = 7
 · subst hr7
   rw [if_neg (by decide : ¬ (7 : Int) = 10), if_neg (fun h : (7 : Int) = 12 ∧ _ => absurd h.1 (by decide))] at hX
   repeat' first | refine zN ?_ | ((with_reducible refine oj ?_); first | refine zix ?_ | refine zow rfl rfl hi ?_)
   refine AOps.splitS rfl rfl rfl rfl (fun hb4 => absurd (by simpa using hb4) h4) (fun hb4 => ?_)
   repeat' first | refine zN ?_ | ((with_reducible refine oj ?_); first | refine zix ?_ | refine zow rfl rfl hi ?_)
   refine ACode.condS rfl (fun hb5 => ?_) (fun hb5 => ?_)
   · have h5 : o = 10 := by simpa using hb5
     subst h5
     have hrl := shp_get (o := 10) (n := nn) (b := b) (k := erTs ks) (a := a.map LAlt.er) hsh rfl
     rw [erTs_eq, List.length_map] at hrl
     obtain ⟨row, rfl⟩ := List.length_eq_one_iff.1 hrl
     rw [if_pos ⟨rfl, rfl⟩] at hX
     have hfi := field_ok hΓ i 10 nn b row [] a (plain_kid hpl (by simp [LTr.kids])) hok hsh ou ho
     rw [← hte, ← hX] at hfi
     refine zA ?_
     refine AOps.call1 hΓ rfl rfl rfl rfl rfl rfl rfl (by exact ⟨trivial, trivial⟩) hou hfi fun r ow hq hids how => ?_
     refine zA ?_
     exact AFn.fin' rfl (WkF.refl _) hids how (by rw [hte] at hq ⊢; exact ResD.w ho hn hq)
   · have h5 : ¬ o = 10 := by simpa using hb5
     rw [if_neg (fun h => h5 h.2)] at hX
     repeat' first | refine zN ?_ | ((with_reducible refine oj ?_); first | refine zix ?_ | refine zow rfl rfl hi ?_)
     exact AFn.fin' rfl (WkF.refl _) (by simp) hou (hnil hX)
 rw [if_neg (fun h => hr7 h.1)] at hX
 by_cases hr10 : rule = 10
 · subst hr10
   rw [if_pos rfl] at hX
   have hN := hN rfl
   rw [← hte, ← hX] at hN
   repeat' first | refine zN ?_ | ((with_reducible refine oj ?_); first | refine zix ?_ | refine zow rfl rfl hi ?_)
   refine AOps.splitS rfl rfl rfl rfl (fun hb4 => absurd (by simpa using hb4) h4) (fun hb4 => ?_)
   repeat' first | refine zN ?_ | ((with_reducible refine oj ?_); first | refine zix ?_ | refine zow rfl rfl hi ?_)
   refine AOps.call1 hΓ rfl rfl rfl rfl rfl rfl rfl (by exact ⟨hW, trivial, trivial, trivial⟩) hou hN fun r ow hq hids how => ?_
   refine zA ?_
   exact AFn.fin' rfl (WkF.refl _) hids how hq
 rw [if_neg hr10] at hX
 by_cases hr12 : rule = 12
 · subst hr12
   repeat' first | refine zN ?_ | ((with_reducible refine oj ?_); first | refine zix ?_ | refine zow rfl rfl hi ?_)
   refine AOps.splitS rfl rfl rfl rfl (fun hb4 => absurd (by simpa using hb4) h4) (fun hb4 => ?_)
   repeat' first | refine zN ?_ | ((with_reducible refine oj ?_); first | refine zix ?_ | refine zow rfl rfl hi ?_)
   refine ACode.condS rfl (fun hb5 => ?_) (fun hb5 => ?_)
   · have h5 : o = 0 := by simpa using hb5
     rw [if_pos ⟨rfl, h5⟩] at hX
     have hU := hU rfl h5
     rw [← hte, ← hX] at hU
     refine zA ?_
     refine AOps.call1 hΓ rfl rfl rfl rfl rfl rfl rfl (by exact ⟨hW, trivial, trivial⟩) hou hU fun r ow hq hids how => ?_
     refine zA ?_
     exact AFn.fin' rfl (WkF.refl _) hids how hq
   · have h5 : ¬ o = 0 := by simpa using hb5
     rw [if_neg (fun h => h5 h.2)] at hX
     refine zA ?_
     exact AFn.fin' rfl (WkF.refl _) (by simp) hou (hnil hX)
 rw [if_neg (fun h => hr12 h.1)] at hX
 repeat' first | refine zN ?_ | ((with_reducible refine oj ?_); first | refine zix ?_ | refine zow rfl rfl hi ?_) | (with_reducible refine oj ?_; refine AOps.splitS rfl rfl rfl rfl (fun hb => ?_) (fun hb => ?_)) | (with_reducible refine ok ?_; first | refine ACode.condS rfl (fun hb => ?_) (fun hb => ?_) | refine ACode.cond rfl (fun hb => ?_) (fun hb => ?_))
 all_goals first
   | (exfalso; simp at *; omega)
   | exact AFn.fin' rfl (WkF.refl _) (by simp) hou (hnil hX)
end Go.Proofs.YtgdionbeeodaaaaDoor
