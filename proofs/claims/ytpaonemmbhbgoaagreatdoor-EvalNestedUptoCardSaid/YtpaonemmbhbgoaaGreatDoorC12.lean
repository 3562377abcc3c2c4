/- The closure of slices.Backward over frames: its contract. -/
import Derived.Test.YtpaonemmbhbgoaaGreatDoorC11
import Derived.Test.YtpaonemmbhbgoaaGreatDoorChecked
import Derived.RangeFuncBox
import Derived.RangeFuncLeaves
import Derived.WalkKit
import Derived.OwnWalkIn
import Derived.TacticsInMore
import Derived.LoopNIn
import Derived.LoopIn
import Derived.KernelRfl
import Derived.Test.YtpaonemmbhbgoaaGreatDoorRows
import Derived.Lib.LaidTab
set_option maxRecDepth 10000
set_option linter.unusedVariables false
set_option linter.unusedSimpArgs false
namespace Go.Proofs.YtpaonemmbhbgoaaGreatDoor
open Go Go.RowKit
attribute [local go_sem] Oper.semAt_some
def uptoL {α : Type} (f : Nat → α) (k : Nat) : List α := (List.range k).map f
theorem uptoL_succ {α : Type} (f : Nat → α) (k : Nat) : uptoL f (k + 1) = uptoL f k ++ [f k] := by simp [uptoL, List.range_succ]
theorem uptoL_length {α : Type} (f : Nat → α) (k : Nat) : (uptoL f k).length = k := by simp [uptoL]
set_option maxRecDepth 100000 in
set_option maxHeartbeats 2000000 in
theorem backward1_in (F : Fence) (n : Nat) (h7 : F.fn 184) (hro : F.round = none) (l Bs ob b off len cap : Nat) (zs : List Value) (hreach : len * 8 ≤ 140737488351232) (Kp : World → World → Prop) (hKr : ∀ A, Kp A A) (hKt : ∀ A B C, Kp A B → Kp B C → Kp A C)
   (hKb : ∀ A B, Kp A B → B.cell? ⟨Bs, ob, none⟩ = A.cell? ⟨Bs, ob, none⟩) (hKe : ∀ A B j, Kp A B → j < len → B.cell? ⟨b, off + j, none⟩ = A.cell? ⟨b, off + j, none⟩) (J Jx : List (Int × Value) → World → Prop)
   (hY : ∀ pre x W, J pre W → pre.length < len → x = (((len - 1 - pre.length : Nat) : Int), zs.getD (len - 1 - pre.length) undef) → YieldAt F (n - 1) Tryz.prog l #[.int .i64 x.1, x.2] W fun e W' =>
     (e = .returned (.bool true) ∧ J (pre ++ [x]) W' ∧ Kp W W') ∨ (e = .returned (.bool false) ∧ Jx (pre ++ [x]) W'))
   (W : World) (hBs : W.cell? ⟨Bs, ob, none⟩ = some (.slice (some ⟨b, off, none⟩) len cap)) (hc : ∀ j, j < len → W.cell? ⟨b, off + j, none⟩ = some (zs.getD j undef)) (h0 : J [] W) (hn : 1 ≤ n) :
   CallsIn F n Tryz.prog 184 #[.func (.yield l) #[] #[], .pointer (some ⟨Bs, ob, none⟩)] W fun e W' => (∃ v, e = .returned v) ∧
     ((∃ ys, ys = uptoL (fun j => (((len - 1 - j : Nat) : Int), zs.getD (len - 1 - j) undef)) len ∧ J ys W') ∨ (∃ pre, True ∧ Jx pre W')) := by
 refine callsIn_of_wp Tryz.func184 rfl h7 ?_ hro
 simp only [Tryz.ntmps184, List.size_toArray, List.length_cons, List.length_nil, Nat.reduceAdd, Nat.reduceSub, Array.replicate_succ, Array.replicate_zero, List.push_toArray, List.append_toArray, List.nil_append, List.cons_append]
 gi_wp2
 gi_loopw [3] (fun i wr => ∃ k : Nat, k ≤ len ∧ i = .int .i64 ((len : Int) - 1 - k) ∧ J (uptoL (fun j => (((len - 1 - j : Nat) : Int), zs.getD (len - 1 - j) undef)) k) wr ∧ Kp W wr)
   (fun i _ => (intOf i + 1).toNat)
 case atStart => exact ⟨0, Nat.zero_le _, by simp, h0, hKr _⟩
 case round =>
   obtain ⟨k, hk, rfl, hJs, hnx⟩ := hrel
   by_cases hlt : k < len
   · have hex : ∃ m, m + k + 1 ≤ len ∧ len ≤ m + k + 1 := ⟨len - 1 - k, by omega, by omega⟩
     obtain ⟨m, hm1, hm2⟩ := hex
     have e1 : ((len : Int) - 1 - k) = (m : Int) := by omega
     have hml : m < len := by omega
     have hcx : wr.cell? ⟨b, off + m, none⟩ = some (zs.getD m undef) := (hKe W wr m hnx hml).trans (hc m hml)
     have hbx : wr.cell? ⟨Bs, ob, none⟩ = some (.slice (some ⟨b, off, none⟩) len cap) := (hKb W wr hnx).trans hBs
     obtain ⟨fn, tmps, assign, body, hy, hR⟩ := hY _ ((m : Int), zs.getD m undef) wr hJs (by rw [uptoL_length]; exact hlt) (by rw [uptoL_length, show len - 1 - k = m by omega])
     simp only [List.getD_eq_getElem?_getD] at hy hcx
     rw [e1]
     gi_wp2
     refine hR.mono ?_
     rintro e W3 (⟨rfl, hJ3, hk3⟩ | ⟨rfl, hJx3⟩)
     · gi_wp2
       go_roundw
       case rel => exact ⟨k + 1, by omega, by first | (simp; done) | (simp; omega), by rw [uptoL_succ, show len - 1 - k = m by omega]; exact hJ3, hKt _ _ _ hnx hk3⟩
       case measure => simp [intOf]
     · gi_wp2
       refine bodyPost_ret (results_none rfl _ _ _) rfl ?_
       exact ⟨⟨_, rfl⟩, .inr ⟨_, trivial, hJx3⟩⟩
   · obtain rfl : k = len := by omega
     have e1 : ((k : Int) - 1 - k) = -1 := by omega
     rw [e1]
     gi_wp2
     go_end0
     exact ⟨⟨_, rfl⟩, .inl ⟨_, rfl, hJs⟩⟩
end Go.Proofs.YtpaonemmbhbgoaaGreatDoor
namespace Go.Proofs.YtpaonemmbhbgoaaGreatDoor
open Go Go.RowKit
attribute [local go_sem] Oper.semAt_some
set_option maxRecDepth 100000 in
set_option maxHeartbeats 2000000 in
theorem backward0_in (F : Fence) (n : Nat) (h7 : F.fn 184) (hro : F.round = none) (l Bs ob : Nat) {α : Type} (a : Option Addr) (cap : Nat) (J : List α → World → Prop)
   (W : World) (hBs : W.cell? ⟨Bs, ob, none⟩ = some (.slice a 0 cap)) (h0 : J [] W) :
   CallsIn F n Tryz.prog 184 #[.func (.yield l) #[] #[], .pointer (some ⟨Bs, ob, none⟩)] W fun e W' => (∃ v, e = .returned v) ∧ J [] W' := by
 refine callsIn_of_wp Tryz.func184 rfl h7 ?_ hro
 simp only [Tryz.ntmps184, List.size_toArray, List.length_cons, List.length_nil, Nat.reduceAdd, Nat.reduceSub, Array.replicate_succ, Array.replicate_zero, List.push_toArray, List.append_toArray, List.nil_append, List.cons_append]
 gi_wp2
 gi_loopw [3] (fun i wr => i = .int .i64 (-1) ∧ J [] wr)
   (fun i _ => (intOf i + 1).toNat)
 case atStart => exact ⟨by simp, h0⟩
 case round =>
   obtain ⟨rfl, hJs⟩ := hrel
   gi_wp2
   go_end0
   exact ⟨⟨_, rfl⟩, hJs⟩
end Go.Proofs.YtpaonemmbhbgoaaGreatDoor
namespace Go.Proofs.YtpaonemmbhbgoaaGreatDoor
open Go Go.RowKit Go.Abs
abbrev encX (x : Int × Value) : Array Value := #[.int .i64 x.1, x.2]
abbrev encF (zs : List Value) {len : Nat} (j : Fin len) : Array Value := encX (((j.val : Nat) : Int), zs.getD j.val undef)
theorem backward_seq {C : Ctx} {w : World} {Bs ob b off len cap : Nat} {zs : List Value} (hreach : len * 8 ≤ 140737488351232) (hpB : C.prot ⟨Bs, ob, none⟩) (hpe : ∀ j, j < len → C.prot ⟨b, off + j, none⟩) (hlt : ∀ a, C.prot a → a.block < w.heap.size)
   (hBs : w.cell? ⟨Bs, ob, none⟩ = some (.slice (some ⟨b, off, none⟩) len cap)) (hc : ∀ j, j < len → w.cell? ⟨b, off + j, none⟩ = some (zs.getD j undef)) :
   SeqStopsK Fence.wide 1 Tryz.prog 184 #[.pointer (some ⟨Bs, ob, none⟩)] (encF zs (len := len)) (KpC C) (fun ys => ys.map Fin.val = uptoL (fun j => len - 1 - j) len) (fun _ => True) len w := by
 intro l J Jx W hb hJ hJx hY h0
 let f : Fin len → Int × Value := fun j => (((j.val : Nat) : Int), zs.getD j.val undef)
 refine (backward1_in Fence.wide 1 trivial rfl l Bs ob b off len cap zs hreach (KpC C) (fun A => ⟨KeepsWalks.refl A, fun _ _ => rfl⟩) (fun A B D h k => ⟨h.1.trans k.1, fun a ha => (k.2 a ha).trans (h.2 a ha)⟩) (fun A B h => h.2 _ hpB) (fun A B j h hj => h.2 _ (hpe j hj))
   (fun ys W1 => ∃ pre : List (Fin len), ys = pre.map f ∧ pre.map Fin.val = uptoL (fun j => len - 1 - j) pre.length ∧ J pre W1) (fun ys W1 => ∃ pre : List (Fin len), Jx pre W1) (fun pre x W1 h1 h2 h3 => ?_) W
   ((hb.cell (p := ⟨Bs, ob, none⟩) (hlt _ hpB)).trans hBs) (fun j hj => (hb.cell (p := ⟨b, off + j, none⟩) (hlt _ (hpe j hj))).trans (hc j hj)) ⟨[], rfl, rfl, h0⟩ (Nat.le_refl 1)).mono ?_
 · obtain ⟨pre', rfl, h5, h4⟩ := h1
   simp only [List.length_map] at h2 h3
   have hj : len - 1 - pre'.length < len := by omega
   have hx : x = f ⟨len - 1 - pre'.length, hj⟩ := h3
   subst hx
   obtain ⟨fn, tmps, assign, body, hy, hR⟩ := hY pre' ⟨len - 1 - pre'.length, hj⟩ W1 h4 h2
   refine ⟨fn, tmps, assign, body, hy, hR.mono ?_⟩
   rintro e W' (⟨g1, g2, g3⟩ | ⟨g1, g2⟩)
   · refine .inl ⟨g1, ⟨pre' ++ [⟨len - 1 - pre'.length, hj⟩], by rw [List.map_append]; rfl, ?_, g2⟩, g3⟩
     rw [List.length_append, List.length_singleton, uptoL_succ, List.map_append, h5]
     rfl
   · exact .inr ⟨g1, _, g2⟩
 · rintro e W' ⟨h1, h2 | h2⟩
   · obtain ⟨ys, rfl, pre, h3, h4, h5⟩ := h2
     refine ⟨h1, .inl ⟨pre, ?_, h5⟩⟩
     have := congrArg List.length h3
     rw [uptoL_length, List.length_map] at this
     show pre.map Fin.val = _
     rw [h4, ← this]
   · obtain ⟨ys, _, pre, h3⟩ := h2
     exact ⟨h1, .inr ⟨pre, trivial, h3⟩⟩
theorem backward_seq0 {C : Ctx} {w : World} {Bs ob cap : Nat} {a : Option Addr} {zs : List Value} (hpB : C.prot ⟨Bs, ob, none⟩) (hlt : ∀ a, C.prot a → a.block < w.heap.size) (hBs : w.cell? ⟨Bs, ob, none⟩ = some (.slice a 0 cap)) :
   SeqStopsK Fence.wide 1 Tryz.prog 184 #[.pointer (some ⟨Bs, ob, none⟩)] (encF zs (len := 0)) (KpC C) (fun ys => ys.map Fin.val = uptoL (fun j => 0 - 1 - j) 0) (fun _ => True) 0 w := by
 intro l J Jx W hb hJ hJx hY h0
 refine (backward0_in Fence.wide 1 trivial rfl l Bs ob a cap J W ((hb.cell (p := ⟨Bs, ob, none⟩) (hlt _ hpB)).trans hBs) h0).mono fun e W' h => ⟨h.1, .inl ⟨[], rfl, h.2⟩⟩
theorem backward_any {C : Ctx} {w : World} {Bs ob len cap : Nat} {a : Option Addr} {zs : List Value} (hreach : len * 8 ≤ 140737488351232) (hpB : C.prot ⟨Bs, ob, none⟩) (hlt : ∀ a, C.prot a → a.block < w.heap.size)
   (hBs : w.cell? ⟨Bs, ob, none⟩ = some (.slice a len cap)) (h : len = 0 ∨ ∃ b off, a = some ⟨b, off, none⟩ ∧ (∀ j, j < len → C.prot ⟨b, off + j, none⟩) ∧ ∀ j, j < len → w.cell? ⟨b, off + j, none⟩ = some (zs.getD j undef)) :
   SeqStopsK Fence.wide 1 Tryz.prog 184 #[.pointer (some ⟨Bs, ob, none⟩)] (encF zs (len := len)) (KpC C) (fun ys => ys.map Fin.val = uptoL (fun j => len - 1 - j) len) (fun _ => True) len w := by
 rcases h with rfl | ⟨b, off, rfl, hp, hc⟩
 · exact backward_seq0 hpB hlt hBs
 · exact backward_seq hreach hpB hp hlt hBs hc
end Go.Proofs.YtpaonemmbhbgoaaGreatDoor
namespace Go.Proofs.YtpaonemmbhbgoaaGreatDoor
open Go Go.Abs Go.CoreX
variable {Γ : List (Nat × List AC)}
theorem Backward_ok (c : AC) (hc : c.ids isO) : APure Tryz.prog Γ 169 [.one c] (.one (.fn (.func 184) [] [.box [c]])) := by
 intro ou
 refine AFn.walk 4 tabOk Tryz.func169 rfl (by kernel_rfl) rfl rfl fun hou => ?_
 iterate 3 (first | ((with_reducible refine oj ?_); refine zau ?_) | (with_reducible refine zst ?_) | ((with_reducible refine cExitMiss ?_ ?_); rfl) | (with_reducible refine ok ?_; first | refine ACode.condT rfl ?_ | refine ACode.condF rfl ?_))
 refine AOps.freeze1 (.l 0) 1 rfl rfl ?_
 refine zA ?_
 exact APure.fin rfl (WkF.ofEq rfl) (by simp [hc]) hou rfl
section
variable {fu : Int} {ac : AC}
theorem FsR.get {H : Hm} {nm : Nm2} : ∀ {fs : List Fm} {l : List (List AC)} {i : Nat} {f : Fm}, FsR H nm fs l → fs[i]? = some f → ∃ c, l[i]? = some [c] ∧ FR H nm f c
 | _, _, _, _, .nil, h => by cases h
 | _, _, 0, _, .cons f c fs cs hf h, hi => by cases hi; exact ⟨c, rfl, hf⟩
 | _, _, i + 1, _, .cons f c fs cs hf h, hi => by simpa using FsR.get h (by simpa using hi)
theorem FsR.len {H : Hm} {nm : Nm2} : ∀ {fs : List Fm} {l : List (List AC)}, FsR H nm fs l → l.length = fs.length
 | _, _, .nil => rfl
 | _, _, .cons f c fs cs hf h => by simp [FsR.len h]
def pushF (fs k : List Fm) (pre : List Nat) : List Fm := pre.foldl (fun kk j => fs.getD j default :: kk) k
theorem pushF_snoc (fs k : List Fm) (pre : List Nat) (j : Nat) : pushF fs k (pre ++ [j]) = fs.getD j default :: pushF fs k pre := by simp [pushF]
theorem pushF_upto (fs k : List Fm) : ∀ n, n ≤ fs.length → pushF fs k (uptoL (fun j => fs.length - 1 - j) n) = fs.drop (fs.length - n) ++ k
 | 0, _ => by simp [pushF, uptoL]
 | n + 1, h => by
   rw [uptoL_succ, pushF_snoc, pushF_upto fs k n (by omega)]
   have h1 : fs.length - (n + 1) < fs.length := by omega
   rw [show fs.length - 1 - n = fs.length - (n + 1) by omega, List.drop_eq_getElem_cons h1, List.getD_eq_getElem?_getD, List.getElem?_eq_getElem h1]
   simp only [Option.getD_some, List.cons_append]
   rw [show fs.length - (n + 1) + 1 = fs.length - n by omega]
theorem call_res (hΓ : ∀ g cs, (g, cs) ∈ Γ → idsL isO cs) (hac : ac.ids isO) (ou : Outer) (H : Hm) (nm : Nm2) (m : Ms) (k fs : List Fm) (kc tc0 ec0 vc0 : AC) (kt : Nat) (vc : AC) (a : Vl) (c : AC) (h0 : M0 fu ⟨ac, kt⟩ ou H nm m tc0 ec0 vc0 kc) (hk : KR H nm k kc) (hv : VR H nm (.res fs) vc) (ha : VR H nm a c) (hfl : (fs ++ k).length ≤ 1048576) :
   AFn Tryz.prog Γ 138 [.one (.ptr (.o 0) 0), .one vc, .one (.sl 1 [[c]])] ou (StQ fu ⟨ac, kt⟩ H nm (.ok { m with c := .rt a, k := fs ++ k })) := by
 have hfc : (FcT.mk ac kt).ids isO := hac
 have hoX := h0.ouX
 have hai := ha.ids
 have hki := hk.ids
 rw [hoX]
 have hw := h0.w
 rw [hoX] at hw
 generalize hmc : ou = ou0 at hw
 clear hoX
 obtain ⟨l, rfl, hf⟩ : ∃ l, vc = iB tRes [.sl 1 l] ∧ FsR H nm fs l := by
   rcases hv.isRes with ⟨fs', l, e, rfl, hf⟩ | ⟨hno, _⟩
   · cases e; exact ⟨l, rfl, hf⟩
   · exact absurd rfl (hno fs)
 have hli := hf.ids
 have n1 : notT tClo (iB tRes [.sl 1 l]) := .inr ⟨_, _, _, rfl, rfl⟩
 have n2 : notT tCap (iB tRes [.sl 1 l]) := .inr ⟨_, _, _, rfl, rfl⟩
 refine AFn.walkM 137 tabOk Tryz.func138 rfl (by kernel_rfl) rfl rfl fun hou F w C hnl hi => ?_
 refine XCode.seq ?_
 iterate 2 (first | ((with_reducible refine oj ?_); refine zau ?_) | (with_reducible refine zst ?_) | ((with_reducible refine cExitMiss ?_ ?_); rfl) | (with_reducible refine ok ?_; first | refine ACode.condT rfl ?_ | refine ACode.condF rfl ?_))
 refine AOps.freeze1 (.l 0) 3 rfl rfl ?_
 refine zA ?_
 refine cInv ?_
 refine XCode.seqR ?_
 refine XCode.seq ?_
 refine zA ?_
 refine cInv ?_
 refine XCode.block ?_
 refine XCode.seq ?_
 refine ACode.region ?_
 refine AOps.step1 rfl rfl rfl (AStep.assertNo concClo rfl zClo rfl rfl n1) ?_
 refine zA ?_
 refine cInv ?_
 refine XCode.condF rfl ?_
 refine XCode.seq ?_
 refine ACode.region ?_
 refine AOps.step1 rfl rfl rfl (AStep.assertNo concCap rfl zCap rfl rfl n2) ?_
 refine zA ?_
 refine cInv ?_
 refine XCode.condF rfl ?_
 refine XCode.seq ?_
 refine ACode.region ?_
 refine AOps.step1 rfl rfl rfl (AStep.assertYes concRes rfl rfl) ?_
 refine zA ?_
 refine cInv ?_
 refine XCode.condT rfl ?_
 refine XCode.seq ?_
 refine zA ?_
 refine cInv ?_
 refine XCode.seq ?_
 refine zA ?_
 refine cInv ?_
 refine XCode.condT rfl ?_
 refine XCode.seqR ?_
 refine XCode.seq ?_
 refine zA ?_
 refine AOps.callC hΓ (Backward_ok (.sl 1 l) hli) rfl rfl rfl rfl rfl rfl rfl hou (by simp [hli]) ?_
 refine zA ?_
 refine cInv ?_
 have hfv : (FV.one (.fn (.func 184) [] [.box [.sl 1 l]])).ids isO := by simp [hli]
 have hcv : (FV.one (.sl 1 [[c]])).ids isO := by simp [hai]
 refine XCode.lessR hΓ (fr' := [(102, .one (.fn (.func 184) [] [.box [.sl 1 l]])), (3, .one (.box [.ptr (.o 0) 0])), (2, .one (.sl 1 [[c]]))]) (σ' := ⟨0, [], ouX (mC tc0 ec0 vc0 kc m.out m.steps fu ⟨ac, kt⟩) m.out.length ou0⟩) (ρ := _root_.id) (LessR.of rfl (by (repeat' first | exact FrSub.nil | refine zfc ?_ | refine zfo ?_ | refine zfp ?_ (hp := by first | assumption | (simp; done)))) (by simp [hli, hai, idsS_inL hli, ids_inL hai]) (by repeat' first | exact LoSub.nil | refine zlc ?_ | refine zld ?_ ?_ | rfl) rfl rfl hou) ?_
 refine XCode.block ?_
 have hwi := fun kc' (hkr : KR H nm (pushF fs k []) kc') => hkr.ids
 have hll := hf.len
 intro w1 C1 tmps hg hi1 hf1
 obtain ⟨u, hu, hr⟩ := hf1.2 102 _ rfl
 obtain ⟨Bs, ob, ad, cap, rfl, hpB, hcB, zs, hz⟩ := hr.boxSl
 have hseq : SeqStopsK Fence.wide 1 Tryz.prog 184 #[.pointer (some ⟨Bs, ob, none⟩)] (encF zs (len := l.length)) (KpC C1) (fun ys => ys.map Fin.val = uptoL (fun j => l.length - 1 - j) l.length) (fun _ => True) l.length w1 := by
   refine backward_any (by simp at hfl; omega) hpB hi1.prot hcB ?_
   rcases hz with hz | ⟨b, off, rfl, hz⟩
   · exact .inl hz
   · refine .inr ⟨b, off, rfl, fun j hj => ?_, fun j hj => ?_⟩
     · obtain ⟨f, hfj⟩ := get_of_lt (l := fs) (i := j) (by omega)
       obtain ⟨cj, hcj, _⟩ := hf.get hfj
       exact (hz j cj hcj).2.1
     · obtain ⟨f, hfj⟩ := get_of_lt (l := fs) (i := j) (by omega)
       obtain ⟨cj, hcj, _⟩ := hf.get hfj
       exact (hz j cj hcj).1
 let J : List (Fin l.length) → St → Prop := fun pre σ => ∃ kc', KR H nm (pushF fs k (pre.map Fin.val)) kc' ∧ σ = ⟨0, [], ouX (mC tc0 ec0 vc0 kc' m.out m.steps fu ⟨ac, kt⟩) m.out.length ou0⟩
 have hPl : ∀ mc', PlainS ⟨0, [], ouX mc' m.out.length ou0⟩ := by
   intro mc' i o hio
   have hpo : plainO o := by
     cases i with
     | l k => cases hio
     | o k =>
       cases k with
       | zero => cases hio; trivial
       | succ k => exact hw.pl (k + 1) o hio
   cases o <;> first | trivial | exact hpo
 have hJp : ∀ pre σ, J pre σ → PlainS σ := by
   rintro pre σ ⟨kc', _, rfl⟩
   exact hPl _
 refine range_wp (E := ⟨Tryz.prog, tab, Γ, 137, []⟩) (α := Fin l.length) J (fun x => ((tmps.setIfInBounds 103 (.int .i64 ((x.val : Nat) : Int))).setIfInBounds 104 (zs.getD x.val undef)).setIfInBounds 11 (zs.getD x.val undef)) hg hi1 hf1 hJp ⟨kc, hk, rfl⟩ ?_ (by simp [Act.eval, hu]) ?_ hseq (fun x => rfl) ?_ ?_ ?_
 · intro j x hx
   have : ∀ (fr : Fr), (∀ p ∈ fr, p.2.ids isO) → ∀ j x, Fr.get j fr = some x → x.ids isO := by
     intro fr
     induction fr with
     | nil => intro _ j x h; cases h
     | cons p fr ih =>
       intro hp j x h
       obtain ⟨j', y⟩ := p
       simp only [Fr.get] at h
       cases hb : Nat.beq j' j with
       | true => rw [hb] at h; cases h; exact hp _ (List.mem_cons_self ..)
       | false => rw [hb] at h; exact ih (fun q hq => hp q (List.mem_cons_of_mem _ hq)) j x h
   refine this _ (fun p hp => ?_) j x hx
   rcases List.mem_cons.1 hp with rfl | hp
   · exact hfv
   rcases List.mem_cons.1 hp with rfl | hp
   · simp
   rcases List.mem_cons.1 hp with rfl | hp
   · exact hcv
   · cases hp
 · intro args w'
   exact enter_ok Tryz.func184 rfl (by kernel_rfl) args w'
 · intro l' x W K hK
   have e0 : ((#[103, 104] : Array Tmp).zip (encF zs x)).foldl (fun t (p, v) => t.setIfInBounds p v) tmps = (tmps.setIfInBounds 103 (.int .i64 ((x.val : Nat) : Int))).setIfInBounds 104 (zs.getD x.val undef) := by simp [encF, encX]
   rw [e0]
   refine wpIn_assign rfl rfl rfl ?_
   have h104 : 104 < (tmps.setIfInBounds 103 (.int .i64 ((x.val : Nat) : Int))).size := by simp [hf1.1]
   have e : Act.eval ⟨(tmps.setIfInBounds 103 (.int .i64 ((x.val : Nat) : Int))).setIfInBounds 104 (zs.getD x.val undef), []⟩ (.tmp 104) = zs.getD x.val undef := by
     simp only [Act.eval]
     rw [Array.getD_eq_getD_getElem?, Array.getElem?_setIfInBounds_self_of_lt h104]
     rfl
   show K ⟨((tmps.setIfInBounds 103 (.int .i64 ((x.val : Nat) : Int))).setIfInBounds 104 (zs.getD x.val undef)).setIfInBounds 11 (Act.eval ⟨(tmps.setIfInBounds 103 (.int .i64 ((x.val : Nat) : Int))).setIfInBounds 104 (zs.getD x.val undef), []⟩ (.tmp 104)), []⟩ W
   rw [e]
   exact hK
 · intro l' pre x W C' σ' hlt hgW hiW hfW hJ'
   obtain ⟨kc', hkr, rfl⟩ := hJ'
   have hlx : x.val < l.length := x.isLt
   obtain ⟨f, hfx⟩ := get_of_lt (l := fs) (i := x.val) (by omega)
   obtain ⟨cx, hcx, hfr⟩ := hf.get hfx
   have hci := hkr.ids
   obtain ⟨t, e, d⟩ := f
   cases hfr with
   | mk _ _ _ ec dc nx hxi he hd =>
   have hei := he.ids
   have hdi := hd.ids
   have hrx : R W C' (.box [.box (cTr t), ec, .sl 1 dc, nx]) (zs.getD x.val undef) := by
     rcases hz with hz | ⟨b, off, _, hz⟩
     · omega
     · exact R.chg hgW.chg _ _ (by simp [hei, hdi, hxi]) (hz x.val _ hcx).2.2
   have hf2 := ((hfW.put (d := 103) (x := .one (int ((x.val : Nat) : Int))) (u := .int .i64 ((x.val : Nat) : Int)) (show 103 < 137 by decide) (show RF W C' (.one (int _)) _ from ⟨rfl, rfl⟩)).put (d := 104) (show 104 < 137 by decide) (show RF W C' (.one (.box [.box (cTr t), ec, .sl 1 dc, nx])) _ from hrx)).put (d := 11) (show 11 < 137 by decide) (show RF W C' (.one (.box [.box (cTr t), ec, .sl 1 dc, nx])) _ from hrx)
   refine AIn.block (E := ⟨Tryz.prog, tab, Γ, 137, []⟩) (K := fun e _ σ'' => e = .normal ∧ J (pre ++ [x]) σ'') (AIn.drawn follows ?_ ?_ ?_) _ W C' W C' _ (Goes.refl _ _ _ _) hiW hf2 l' 0
   · rintro fr σ ⟨h, _⟩; cases h
   · simp
   · refine AAny.drawC2 tabOk 21 [18, 19, 20] [] (fun vs σ => match vs with
       | [] => σ = ⟨0, [], ouX (mC tc0 ec0 vc0 kc' m.out m.steps fu ⟨ac, kt⟩) m.out.length ou0⟩
       | [g] => g = .one (.box [.box (cTr t), ec, .sl 1 dc, kc']) ∧ σ = ⟨0, [], ouX (mC tc0 ec0 vc0 kc' m.out m.steps fu ⟨ac, kt⟩) m.out.length ou0⟩
       | [g, a] => g = .one (.box [.box (cTr t), ec, .sl 1 dc, kc']) ∧ a = .one (.ptr (.o 0) 0) ∧ σ = ⟨0, [], ouX (mC tc0 ec0 vc0 kc' m.out m.steps fu ⟨ac, kt⟩) m.out.length ou0⟩
       | [g, a, b] => g = .one (.box [.box (cTr t), ec, .sl 1 dc, kc']) ∧ a = .one (.ptr (.o 0) 0) ∧ b = .one (.ptr (.o 0) 3) ∧ σ = ⟨0, [], ouX (mC tc0 ec0 vc0 kc' m.out m.steps fu ⟨ac, kt⟩) m.out.length ou0⟩
       | _ => False) follows (by kernel_rfl) rfl rfl (by decide) (by kernel_rfl) (by kernel_rfl) rfl rfl ?_ ?_ (by decide) ?_ ?_
     · intro vs σ h
       match vs with
       | [] => subst h; rfl
       | [_] => obtain ⟨_, rfl⟩ := h; rfl
       | [_, _] => obtain ⟨_, _, rfl⟩ := h; rfl
       | [_, _, _] => obtain ⟨_, _, _, rfl⟩ := h; rfl
       | _ :: _ :: _ :: _ :: _ => exact h.elim
     · intro vs σ h
       exact trivial
     · intro vs σ h i o hi ho
       match vs with
       | [] => subst h; cases hi; cases ho; exact ⟨rfl, .inl (.inl ⟨_, _, AStep.boxI rfl rfl, rfl, rfl⟩)⟩
       | [_] => obtain ⟨rfl, rfl⟩ := h; cases hi; cases ho; exact ⟨rfl, .inl (.inl ⟨_, _, AStep.ofOp tabOk rfl, rfl, rfl, rfl⟩)⟩
       | [_, _] => obtain ⟨rfl, rfl, rfl⟩ := h; cases hi; cases ho; exact ⟨rfl, .inl (.inl ⟨_, _, AStep.ofOp tabOk rfl, rfl, rfl, rfl, rfl⟩)⟩
       | _ :: _ :: _ :: _ => cases hi
     · intro vs σ hl h
       match vs, hl with
       | [g, a, b], _ =>
         obtain ⟨rfl, rfl, rfl, rfl⟩ := h
         refine AOps.store tabOk rfl rfl rfl ?_
         refine AOps.nil ?_
         refine ⟨rfl, .box [.box (cTr t), ec, .sl 1 dc, kc'], ?_, ?_⟩
         · rw [List.map_append]
           show KR H nm (pushF fs k (pre.map Fin.val ++ [x.val])) _
           rw [pushF_snoc, List.getD_eq_getElem?_getD, hfx]
           exact .cons _ _ _ _ _ _ _ he hd hkr
         · exact setX _ _ _ _
 · intro D xs W C' σ' hD hS hgo hiW hfW hJ' hm
   have hpl := hJp xs σ' hJ'
   obtain ⟨kc', hkr, rfl⟩ := hJ'
   have hS' : xs.map Fin.val = uptoL (fun j => l.length - 1 - j) l.length := hS
   rw [hS', hll, pushF_upto fs k fs.length (Nat.le_refl _), Nat.sub_self, List.drop_zero] at hkr
   have hci := hkr.ids
   refine bodyM_mark (E := ⟨Tryz.prog, tab, Γ, 137, []⟩) tabOk hnl hi (Nat.le_trans hg.stp.size hD) hgo hiW hpl hfW hm (fun _ _ h => h) (fun ds => ?_)
   refine ACode.seq ?_
   refine ACode.drawC2 tabOk 10 [7, 8, 9] [(3, .one (.box [c]))] (fun vs σ => match vs with
     | [] => σ = ⟨0, [], ouX (mC tc0 ec0 vc0 kc' m.out m.steps fu ⟨ac, kt⟩) m.out.length ou0⟩
     | [s] => s = .bot ∧ σ = ⟨0, [], ouX (mC nilPE ec0 vc0 kc' m.out m.steps fu ⟨ac, kt⟩) m.out.length ou0⟩
     | [s, a] => s = .bot ∧ a = .one (.ptr (.o 0) 0) ∧ σ = ⟨0, [], ouX (mC nilPE ec0 vc0 kc' m.out m.steps fu ⟨ac, kt⟩) m.out.length ou0⟩
     | [s, a, b] => s = .bot ∧ a = .one (.ptr (.o 0) 0) ∧ b = .one (.ptr (.o 0) 2) ∧ σ = ⟨0, [], ouX (mC nilPE ec0 vc0 kc' m.out m.steps fu ⟨ac, kt⟩) m.out.length ou0⟩
     | _ => False) follows (by kernel_rfl) rfl rfl (by decide) (by kernel_rfl) (by kernel_rfl) rfl rfl ?_ ?_ (by decide) ?_ ?_
   · intro vs σ h
     match vs with
     | [] => subst h; rfl
     | [_] => obtain ⟨_, rfl⟩ := h; rfl
     | [_, _] => obtain ⟨_, _, rfl⟩ := h; rfl
     | [_, _, _] => obtain ⟨_, _, _, rfl⟩ := h; rfl
     | _ :: _ :: _ :: _ :: _ => exact h.elim
   · intro vs σ h
     exact ⟨⟨_, rfl, AStep.indexAddr tabOk rfl rfl rfl rfl rfl rfl (.inl rfl) rfl (by decide) rfl⟩, trivial⟩
   · intro vs σ h i o hi ho
     match vs with
     | [] => subst h; cases hi; cases ho; exact ⟨rfl, .inl (.inl ⟨_, _, AStep.ofStore tabOk rfl, rfl, setX _ _ _ _⟩)⟩
     | [_] => obtain ⟨rfl, rfl⟩ := h; cases hi; cases ho; exact ⟨rfl, .inl (.inl ⟨_, _, AStep.ofOp tabOk rfl, rfl, rfl, rfl⟩)⟩
     | [_, _] => obtain ⟨rfl, rfl, rfl⟩ := h; cases hi; cases ho; exact ⟨rfl, .inl (.inl ⟨_, _, AStep.ofOp tabOk rfl, rfl, rfl, rfl, rfl⟩)⟩
     | _ :: _ :: _ :: _ => cases hi
   · intro vs σ hl h
     match vs, hl with
     | [s, a', b], _ =>
       obtain ⟨rfl, rfl, rfl, rfl⟩ := h
       refine zA ?_
       refine ⟨StQ.fin rfl rfl (.refl _ _) (MR.ofRt (m := m) (k := fs ++ k) hw ha hkr h0.ids.2.1 hfc rfl rfl (fun _ => rfl)), ?_⟩
       show PlainS (St.set ⟨0, [], ouX (mC nilPE ec0 vc0 kc' m.out m.steps fu ⟨ac, kt⟩) m.out.length ou0⟩ (.o 0) (.cells (mC nilPE ec0 c kc' m.out m.steps fu ⟨ac, kt⟩)))
       rw [setX]
       exact hPl _
theorem MoreC.yes (hΓ : ∀ g cs, (g, cs) ∈ Γ → idsL isO cs) (hac : ac.ids isO) : MoreC true fu ac Γ :=
 ⟨fun _ ou H nm m k fs kc tc0 ec0 vc0 kt vc a c h0 hk hv ha _ hfl => call_res hΓ hac ou H nm m k fs kc tc0 ec0 vc0 kt vc a c h0 hk hv ha hfl,
  fun _ ou H nm m m' t e d k ec kc tc0 ec0 vc0 kc0 dc kt h0 he hd hk ht hg hkl hl ho hx => kid_hi hΓ hac ou H nm m m' t e d k ec kc tc0 ec0 vc0 kc0 dc kt h0 he hd hk ht hg hkl hl ho hx⟩
end
def fragB (hi : Bool) (l : Lab) : Bool :=
 Go.CoreX.shape ⟨l.op, l.n, l.binds, l.ops, l.alts⟩ && ((decide (0 ≤ l.op) && decide (l.op ≤ 8)) || (hi && (decide (l.op = 12) || decide (l.op = 13)))) && (!(decide (l.op = 8)) || (decide (l.n = 0) || decide (l.n = 1) || decide (l.n = 2) || decide (l.n = 5) || decide (l.n = 6) || decide (l.n = 7))) &&
 decide (l.binds.length ≤ 1048576) && decide (l.alts.length ≤ 1048576) && (l.alts.all fun a => decide (a.binds.length ≤ 1048576)) && decide (l.ops.length ≤ 1048576) && (!(decide (l.op = 1)) || (decide (-1073741824 ≤ l.n) && decide (l.n ≤ 1073741823))) && (!(decide (l.op = 5)) || (l.ops.take l.binds.length == List.replicate l.binds.length 2))
theorem fragB_ok {hi : Bool} {l : Lab} (h : fragB hi l = true) : FragL hi l := by
 unfold fragB at h
 simp only [Bool.and_eq_true, Bool.or_eq_true, Bool.not_eq_true', decide_eq_true_eq, decide_eq_false_iff_not, List.all_eq_true, beq_iff_eq] at h
 obtain ⟨⟨⟨⟨⟨⟨⟨⟨h1, h2⟩, h3⟩, h4⟩, h5⟩, h6⟩, h7⟩, h8⟩, h9⟩ := h
 refine ⟨shpQ_of h1, ?_, fun h => ?_, h4, h5, h6, h7, fun h => ?_, fun h i hi => ?_⟩
 · rcases h2 with h2 | ⟨h2, h3⟩
   · exact .inl h2
   · exact .inr ⟨h2, h3⟩
 · rcases h3 with h3 | h3
   · exact absurd h h3
   · omega
 · rcases h8 with h8 | h8
   · exact absurd h h8
   · exact h8
 · rcases h9 with h9 | h9
   · exact absurd h h9
   · have := congrArg (fun r => r[i]?) h9
     simp only [List.getElem?_take_of_lt hi, List.getElem?_replicate, if_pos hi] at this
     exact this
theorem frag_word {hi : Bool} {n : Int} (h : inW n) : allT (FragL hi) (tW n) := by
 refine ⟨fragB_ok ?_, trivial⟩
 unfold inW at h
 simp [fragB, Go.CoreX.shape, wants, h.1, h.2]
theorem A_ok (op : Int) (al : List Alt) (ks : List Tr) : APure Tryz.prog Γ 27 [.one (int op), .one (.sl 2 (al.map cAlt)), .one (.sl 1 (encNds ks))] (.one (.box (cNd (.mk op 0 [] ks al)))) := by
 intro ou
 refine AFn.walk 13 tabOk Tryz.func27 rfl (by kernel_rfl) rfl rfl fun hou => ?_
 iterate 14 (first | ((with_reducible refine oj ?_); refine zau ?_) | (with_reducible refine zst ?_) | ((with_reducible refine cExitMiss ?_ ?_); rfl) | (with_reducible refine ok ?_; first | refine ACode.condT rfl ?_ | refine ACode.condF rfl ?_))
 refine AOps.freeze1 (.l 0) 6 rfl rfl ?_
 refine zA ?_
 refine APure.fin rfl (.one (Wk.box ?_)) (by simp) hou rfl
 exact .cons (.refl _) (.cons (.refl _) (.cons (.nilS 1) (.cons (.any _) (.cons (.refl _) (.cons (.refl _) .nil)))))
def okN (n : Nat) : Bool := check (listT [] (loopT n)) == 0
end Go.Proofs.YtpaonemmbhbgoaaGreatDoor
namespace Go.CoreX
def opI (n x y : Int) : Int := if n = 0 then x + y else if n = 1 then x - y else x * y
inductive Wd : Tr → Int → Nat → Prop
 | w (n : Int) (h : -1073741824 ≤ n ∧ n ≤ 1073741823) : Wd (wordT n) n 0
 | p (n : Int) (a b : Tr) (x y : Int) (c d : Nat) (h : 0 ≤ n ∧ n ≤ 2) (ha : Wd a x c) (hb : Wd b y d) : Wd (.mk 8 n [] [a, b] []) (wrapI (opI n x y)) (c + d + 1)
theorem wrapI_rng (n : Int) : -1073741824 ≤ wrapI n ∧ wrapI n ≤ 1073741823 := by unfold wrapI; omega
theorem Wd.rng {t : Tr} {v : Int} {k : Nat} (h : Wd t v k) : -1073741824 ≤ v ∧ v ≤ 1073741823 := by
 cases h with
 | w n h => exact h
 | p n a b x y c d h ha hb => exact wrapI_rng _
theorem Wd.inv {t : Tr} {v : Int} {k : Nat} (h : Wd t v k) : (t = wordT v ∧ k = 0) ∨ ∃ n a b x y c d, t = .mk 8 n [] [a, b] [] ∧ v = wrapI (opI n x y) ∧ k = c + d + 1 ∧ (0 ≤ n ∧ n ≤ 2) ∧ Wd a x c ∧ Wd b y d := by
 cases h with
 | w n h => exact .inl ⟨rfl, rfl⟩
 | p n a b x y c d h ha hb => exact .inr ⟨n, a, b, x, y, c, d, rfl, rfl, rfl, h, ha, hb⟩
theorem Wd.ev {fu : Int} {fns : List Fun} {t : Tr} {v : Int} {k : Nat} (h : Wd t v k) (e : En) : Ev fu fns t e (.word v) (2 * k + 1) := by
 induction h with
 | w n h => exact ev_int n e
 | p n a b x y c d h ha hb iha ihb =>
   have := ev_prim (n := n) (v := .word (wrapI (opI n x y))) iha ihb (fun m => by
     have h3 : n = 0 ∨ n = 1 ∨ n = 2 := by omega
     rcases h3 with rfl | rfl | rfl <;> simp [primM, wordV, opI, bind, Except.bind, pure, Except.pure] <;> rfl)
   rw [show 1 + (2 * c + 1) + (2 * d + 1) = 2 * (c + d + 1) + 1 by omega] at this
   exact this
theorem Wd.cnt {t : Tr} {v : Int} {k : Nat} (h : Wd t v k) : cntN t = 2 * k + 1 := by
 induction h with
 | w n h => rfl
 | p n a b x y c d h ha hb iha ihb => simp only [cntN, cntNs, iha, ihb]; omega
theorem Wd.dep {t : Tr} {v : Int} {k : Nat} (h : Wd t v k) : 0 ≤ depthT t ∧ depthT t ≤ k + 1 := by
 induction h with
 | w n h => simp [wordT, depthT, depthTs]
 | p n a b x y c d h ha hb iha ihb =>
   simp only [depthT, depthTs, List.foldl_cons, List.foldl_nil, mx]
   push_cast
   split <;> split <;> omega
def noB (l : Lab) : Prop := bindersN l.op l.binds l.alts = []
theorem pLab_word {n : Int} (h : -1073741824 ≤ n ∧ n ≤ 1073741823) : pLab ⟨1, n, [], [], []⟩ := fun e x hk hl => by
 obtain ⟨o, m, b, ks, a⟩ := x
 simp only [labE, Lab.mk.injEq, List.map_eq_nil_iff] at hl
 obtain ⟨rfl, rfl, rfl, rfl, rfl⟩ := hl
 have hb : between m (-1073741824) 1073741823 = true := by simp [between]; omega
 simp [nodeErrF, nodeErr, shape, wants, ranges, lowN, highN, hb, fields, flatOnly, coreOnly]
theorem pLab_prim {n oa ob : Int} (h : 0 ≤ n ∧ n ≤ 2) : pLab ⟨8, n, [], [oa, ob], []⟩ := fun e x hk hl => by
 obtain ⟨o, m, b, ks, a⟩ := x
 simp only [labE, Lab.mk.injEq] at hl
 obtain ⟨rfl, rfl, rfl, hks, rfl⟩ := hl
 have hlen : ks.length = 2 := by simpa using congrArg List.length hks
 have hb : between m 0 11 = true := by simp [between]; omega
 have hb2 : between m 0 1048575 = true := by simp [between]; omega
 have h3 : m = 0 ∨ m = 1 ∨ m = 2 := by omega
 have ha : arityL[m.toNat]?.getD 0 = 2 := by rcases h3 with rfl | rfl | rfl <;> rfl
 simp [nodeErrF, nodeErr, shape, wants, ranges, lowN, highN, hb, hb2, ha, hlen, fields, flatOnly, coreOnly]
theorem Wd.pLab {t : Tr} {v : Int} {k : Nat} (h : Wd t v k) : allT pLab t ∧ allT noB t ∧ ∀ sc, occT sc t = [] := by
 induction h with
 | w n h => exact ⟨⟨pLab_word h, trivial⟩, ⟨rfl, trivial⟩, fun sc => rfl⟩
 | p n a b x y c d h ha hb iha ihb =>
   refine ⟨⟨pLab_prim h, iha.1, ihb.1, trivial⟩, ⟨rfl, iha.2.1, ihb.2.1, trivial⟩, fun sc => ?_⟩
   simp [occT, occTs, iha.2.2, ihb.2.2]
theorem Wd.check {t : Tr} {v : Int} {k : Nat} (h : Wd t v k) (hk : k ≤ 40) : check (listT [] t) = 0 := by
 have t2 := isTree_list t
 refine check_of ((treeErr_iff _).2 ⟨?_, t2, ?_⟩) (fun y hy => ?_) ?_ ?_
 · have := cntN_list t []
   rw [h.cnt] at this
   simp only [List.length_nil] at this
   omega
 · rw [grow_list]
   have := h.dep
   omega
 · have := allT_labs t2 (by rw [grow_list]; exact h.pLab.1) _ (List.mem_map_of_mem (f := labE (listT [] t)) hy)
   exact this _ y (kids_lt t2.k hy) rfl
 · rw [allBinders_labs]
   have h2 := allT_labs t2 (by rw [grow_list]; exact h.pLab.2.1)
   rw [List.flatMap_eq_nil_iff.2 h2]
   exact List.nodup_nil
 · rw [grow_list]; exact h.pLab.2.2 []
theorem ixInd {e : List Ex} (h : IsTree e) {P : Nat → Prop} (h0 : P (e.length - 1)) (h1 : ∀ (i : Nat) (x : Ex) (k : Nat), e[i]? = some x → (k : Int) ∈ x.kids → P i → P k) : ∀ k, k < e.length → P k := by
 have key : ∀ d k, k < e.length → e.length - k = d → P k := by
   intro d
   induction d using Nat.strongRecOn with
   | _ d ih =>
     intro k hk hd
     by_cases hl : k + 1 < e.length
     · have hc := (h.c k hk).2 hl
       obtain ⟨i, x, hx, hkx⟩ := cnt_pos (e := e) (k := k) (by omega)
       have hb := h.k i x hx _ hkx
       have hi := (List.getElem?_eq_some_iff.1 hx).1
       exact h1 i x k hx hkx (ih (e.length - i) (by omega) i hi rfl)
     · have : k = e.length - 1 := by omega
       subst this
       exact h0
 exact fun k hk => key _ k hk rfl
theorem growRNe {e : List Ex} (h : IsTree e) {p : Nat} (hp : p < e.length) {D : Tr} (hD : D ≠ treeAt e p) : growR e p D ≠ grow e := by
 intro he
 have hP := ixInd h (P := fun j => (growLR e p D).getD j default = treeAt e j) he (fun i x k hx hk hi => by
   rw [growLR_node h.k p D hx] at hi
   by_cases hip : i = p
   · rw [if_pos hip] at hi
     subst hip
     exact absurd hi hD
   · rw [if_neg hip, treeAt_node h.k hx] at hi
     injection hi with _ _ _ hks _
     have := List.map_inj_left.1 hks (k : Int) hk
     simpa using this) p hp
 obtain ⟨x, hx⟩ : ∃ x, e[p]? = some x := ⟨e[p], List.getElem?_eq_getElem hp⟩
 rw [growLR_node h.k p D hx, if_pos rfl] at hP
 exact hD hP
theorem Wd.node {t : Tr} {v : Int} {k : Nat} (h : Wd t v k) {o n : Int} {b : List Int} {ks : List Tr} {a : List Alt} (he : t = .mk o n b ks a) : (o = 1 ∧ ks = []) ∨ ∃ t1 t2 x y c d, o = 8 ∧ b = [] ∧ a = [] ∧ ks = [t1, t2] ∧ (0 ≤ n ∧ n ≤ 2) ∧ v = wrapI (opI n x y) ∧ k = c + d + 1 ∧ Wd t1 x c ∧ Wd t2 y d := by
 rcases h.inv with ⟨h1, _⟩ | ⟨n', t1, t2, x, y, c, d, h1, h2, h3, h4, h5, h6⟩
 · rw [he] at h1
   unfold wordT at h1
   injection h1 with h1 _ _ h2 _
   exact .inl ⟨h1, h2⟩
 · rw [he] at h1
   injection h1 with e1 e2 e3 e4 e5
   subst e2
   exact .inr ⟨t1, t2, x, y, c, d, e1, e3, e5, e4, h4, h2, h3, h5, h6⟩
theorem Wd.all {e : List Ex} (h : IsTree e) {v : Int} {k : Nat} (hw : Wd (grow e) v k) : ∀ j, j < e.length → ∃ v' k', Wd (treeAt e j) v' k' := by
 refine ixInd h ⟨v, k, hw⟩ fun i x q hx hq hi => ?_
 obtain ⟨v', k', hi⟩ := hi
 rcases hi.node (treeAt_node h.k hx) with ⟨_, h2⟩ | ⟨t1, t2, x1, y1, c, d, _, _, _, h2, _, _, _, h5, h6⟩
 · rw [List.map_eq_nil_iff] at h2
   rw [h2] at hq; cases hq
 · have hm : treeAt e q ∈ x.kids.map fun k => treeAt e k.toNat := List.mem_map.2 ⟨_, hq, by simp⟩
   rw [h2] at hm
   rcases List.mem_cons.1 hm with h7 | hm
   · exact ⟨_, _, h7 ▸ h5⟩
   · rcases List.mem_cons.1 hm with h7 | hm
     · exact ⟨_, _, h7 ▸ h6⟩
     · cases hm
theorem Wd.op1 {t : Tr} {v : Int} {k : Nat} (h : Wd t v k) (ho : t.op = 1) : t = wordT v ∧ k = 0 := by
 rcases h.inv with h1 | ⟨n', t1, t2, x, y, c, d, h1, _⟩
 · exact h1
 · rw [h1] at ho; simp [Tr.op] at ho
theorem Wd.word {n v : Int} {k : Nat} (h : Wd (wordT n) v k) : n = v ∧ k = 0 := by
 obtain ⟨h1, h2⟩ := h.op1 rfl
 unfold wordT at h1
 injection h1 with _ h1
 exact ⟨h1, h2⟩
theorem Wd.can {t : Tr} {v : Int} {k : Nat} (h : Wd t v k) {r : Int} {m : Int → Nat} (hc : canT r t m = true) : r = 6 ∧ k = 1 ∧ t.op = 8 ∧ t.kids.length = 2 ∧ arithT t = some (wordT v) := by
 rcases h.inv with ⟨h1, h2⟩ | ⟨n, t1, t2, x, y, c, d, rfl, rfl, rfl, hn, h5, h6⟩
 · rw [h1] at hc
   simp [canT, wordT, Tr.op] at hc
 · unfold canT at hc
   simp only [Tr.op, Tr.kids] at hc
   rw [if_neg (by decide), if_neg (by omega)] at hc
   by_cases hr : r = 6
   · subst hr
     rw [if_pos (by decide)] at hc
     have h7 : t1.op = 1 ∧ t2.op = 1 := by
       simp [arithT, kidT, Tr.kids, Tr.n] at hc
       by_cases h8 : t1.op = 1 <;> by_cases h9 : t2.op = 1 <;> simp [h8, h9] at hc ⊢
     obtain ⟨e1, rfl⟩ := h5.op1 h7.1
     obtain ⟨e2, rfl⟩ := h6.op1 h7.2
     subst e1; subst e2
     refine ⟨rfl, rfl, rfl, rfl, ?_⟩
     have h3 : n = 0 ∨ n = 1 ∨ n = 2 := by omega
     rcases h3 with rfl | rfl | rfl <;> simp [arithT, kidT, Tr.kids, Tr.n, wordT, Tr.op, opI]
   · simp [hr] at hc
theorem next_none {e : List Ex} (h : nextE e = none) {r : Int} (hr : r ∈ orderR) {i : Nat} (hi : i < e.length) : canT r (treeAt e i) (manyE e) = false := by
 unfold nextE at h
 rw [List.findSome?_eq_none_iff] at h
 have h1 := h r hr
 rw [Option.map_eq_none_iff, List.find?_eq_none] at h1
 have h2 := h1 (treeAt e i, i) (by
   rw [List.mem_zipIdx_iff_getElem?]
   show (growL e)[i]? = some (treeAt e i)
   unfold treeAt
   rw [List.getD_eq_getElem?_getD, List.getElem?_eq_getElem (by rw [growL_len]; exact hi)]
   rfl)
 simpa using h2
theorem Wd.done {e : List Ex} (h : IsTree e) {v : Int} {k : Nat} (hw : Wd (grow e) v k) (hn : nextE e = none) : k = 0 := by
 have hall := hw.all h
 have key : ∀ n j, j < n → j < e.length → ∃ m, treeAt e j = wordT m := by
   intro n
   induction n with
   | zero => intro j hj; omega
   | succ n ih =>
     intro j hj hl
     obtain ⟨x, hx⟩ : ∃ x, e[j]? = some x := ⟨e[j], List.getElem?_eq_getElem hl⟩
     obtain ⟨v', k', hv⟩ := hall j hl
     have hc := next_none hn (r := 6) (by simp [orderR]) hl
     have ht := treeAt_node h.k hx
     rcases hv.inv with ⟨h1, _⟩ | ⟨n0, t1, t2, x1, y1, c, d, h1, _, _, hn0, h5, h6⟩
     · exact ⟨_, h1⟩
     · rw [ht] at h1
       injection h1 with e1 e2 e3 e4 e5
       have hkid : ∀ t ∈ [t1, t2], ∃ m, t = wordT m := fun t hm => by
         rw [← e4] at hm
         obtain ⟨q, hq, rfl⟩ := List.mem_map.1 hm
         have := h.k j x hx q hq
         exact ih q.toNat (by omega) (by omega)
       obtain ⟨m1, rfl⟩ := hkid t1 (by simp)
       obtain ⟨m2, rfl⟩ := hkid t2 (by simp)
       rw [ht, e1, e2, e3, e4, e5] at hc
       have h3 : n0 = 0 ∨ n0 = 1 ∨ n0 = 2 := by omega
       rcases h3 with rfl | rfl | rfl <;> simp [canT, arithT, kidT, Tr.kids, Tr.n, wordT, Tr.op] at hc
 obtain ⟨m, hm⟩ := key e.length (e.length - 1) (by have := List.length_pos_iff.2 h.ne; omega) (by have := List.length_pos_iff.2 h.ne; omega)
 have : grow e = wordT m := hm
 rw [this] at hw
 exact hw.word.2
theorem Wd.redu {e : List Ex} (hk : kidsIn e) {p : Nat} {U : Tr} (hU : ∀ v k, Wd (treeAt e p) v k → ∃ k', Wd U v k' ∧ k' < k) : ∀ n j, j < n → j < e.length → ∀ v k, Wd (treeAt e j) v k → ∃ k', Wd ((growLR e p U).getD j default) v k' ∧ ((growLR e p U).getD j default = treeAt e j ∨ k' < k) ∧ k' ≤ k := by
 intro n
 induction n with
 | zero => intro j hj; omega
 | succ n ih =>
   intro j hj hl v k hw
   obtain ⟨x, hx⟩ : ∃ x, e[j]? = some x := ⟨e[j], List.getElem?_eq_getElem hl⟩
   rw [growLR_node hk p U hx]
   by_cases hp : j = p
   · rw [if_pos hp]
     subst hp
     obtain ⟨k', h1, h2⟩ := hU v k hw
     exact ⟨k', h1, .inr h2, by omega⟩
   rw [if_neg hp]
   have ht := treeAt_node hk hx
   rcases hw.inv with ⟨h1, h2⟩ | ⟨n0, t1, t2, x1, y1, c, d, h1, rfl, rfl, hn0, h5, h6⟩
   · have h3 := h1
     rw [ht] at h3
     unfold wordT at h3
     injection h3 with e1 e2 e3 e4 e5
     rw [List.map_eq_nil_iff] at e4
     rw [e1, e2, e3, e5, e4]
     exact ⟨0, by rw [h1] at hw; obtain ⟨-, rfl⟩ := hw.word; exact hw, .inl h1.symm, by omega⟩
   · have h3 := h1
     rw [ht] at h3
     injection h3 with e1 e2 e3 e4 e5
     obtain ⟨q1, q2, hq⟩ : ∃ q1 q2, x.kids = [q1, q2] := by
       have : x.kids.length = 2 := by simpa using congrArg List.length e4
       match x.kids, this with
       | [a, b], _ => exact ⟨a, b, rfl⟩
     rw [hq] at e4
     simp only [List.map_cons, List.map_nil] at e4
     injection e4 with f1 f2
     injection f2 with f2 _
     have b1 := hk j x hx q1 (by rw [hq]; simp)
     have b2 := hk j x hx q2 (by rw [hq]; simp)
     obtain ⟨c', g1, g2, g3⟩ := ih q1.toNat (by omega) (by omega) x1 c (f1 ▸ h5)
     obtain ⟨d', i1, i2, i3⟩ := ih q2.toNat (by omega) (by omega) y1 d (f2 ▸ h6)
     refine ⟨c' + d' + 1, ?_, ?_, by omega⟩
     · rw [e1, e2, e3, e5, hq]
       exact .p _ _ _ _ _ _ _ hn0 g1 i1
     · rcases g2 with g2 | g2
       · rcases i2 with i2 | i2
         · left
           rw [hq]
           simp only [List.map_cons, List.map_nil]
           rw [g2, i2, f1, f2, e1, e2, e3, e5, h1]
         · right; omega
       · right; omega
theorem Wd.step {e : List Ex} (h : CoreX.check e = 0) {v : Int} {k : Nat} (hw : Wd (grow e) v k) (hk : k ≤ 40) {r : Int} {i : Nat} (hn : nextE e = some (r, i)) : ∃ t' k', applyE e r i 0 = (listT [] t', 0) ∧ Wd t' v k' ∧ k' < k := by
 have hT := body_isTree h
 obtain ⟨h1, h2, h3⟩ := next_sound hn
 obtain ⟨v1, k1, hv⟩ := hw.all hT i h2
 obtain ⟨rfl, rfl, h4, h5, h6⟩ := hv.can h3
 have hv1 := hv.rng
 have hU : ∀ v k, Wd (treeAt e i) v k → ∃ k', Wd (wordT v1) v k' ∧ k' < k := fun v2 k2 hw2 => by
   obtain ⟨_, rfl, _, _, h7⟩ := hw2.can h3
   rw [h6] at h7
   injection h7 with h7
   unfold wordT at h7
   injection h7 with _ h7
   subst h7
   exact ⟨0, .w _ hv1, by omega⟩
 have hlen := List.length_pos_iff.2 hT.ne
 obtain ⟨k', g1, g2, g3⟩ := Wd.redu hT.k hU e.length (e.length - 1) (by omega) (by omega) v k hw
 have hne : wordT v1 ≠ treeAt e i := fun h8 => by rw [← h8] at h4; simp [wordT, Tr.op] at h4
 have hlt : k' < k := g2.resolve_left (growRNe hT h2 hne)
 have hR : resT (growL e) (grow e) 6 0 (treeAt e i) = some (wordT v1) := by
   unfold resT
   rw [if_neg (by simp), if_neg (by simp), if_neg (by simp [h4]), if_neg (by simp), if_neg (by simp), if_pos ⟨rfl, h4, h5⟩]
   exact h6
 have g1' : Wd (growR e i (wordT v1)) v k' := g1
 have hck := g1'.check (by omega)
 refine ⟨growR e i (wordT v1), k', ?_, g1', hlt⟩
 unfold applyE
 rw [if_neg (by simpa using h), if_neg (by decide), if_neg (by omega), show ((i : Int)).toNat = i by simp, hR]
 dsimp only
 rw [if_neg (by simpa using hck)]
theorem Wd.steps : ∀ (N : Nat) {t : Tr} {v : Int} {k : Nat}, Wd t v k → k ≤ 40 → k ≤ N → (stepsE N (listT [] t)).1 = listT [] (wordT v)
 | 0, t, v, k, h, _, hN => by
   obtain rfl : k = 0 := by omega
   rcases h.inv with ⟨rfl, _⟩ | ⟨n, t1, t2, x, y, c, d, _, _, h3, _⟩
   · rfl
   · omega
 | N + 1, t, v, k, h, hk, hN => by
   have hT := isTree_list t
   have hg : Wd (grow (listT [] t)) v k := by rw [grow_list]; exact h
   cases hn : nextE (listT [] t) with
   | none =>
     obtain rfl := hg.done hT hn
     simp only [stepsE, hn]
     rcases h.inv with ⟨rfl, _⟩ | ⟨n, t1, t2, x, y, c, d, _, _, h3, _⟩
     · rfl
     · omega
   | some p =>
     obtain ⟨r, i⟩ := p
     obtain ⟨t', k', h1, h2, h3⟩ := hg.step (h.check hk) hk hn
     simp only [stepsE, hn, h1, if_true]
     exact Wd.steps N h2 (by omega) (by omega)
theorem Wd.simp {t : Tr} {v : Int} {k : Nat} (h : Wd t v k) (hk : k ≤ 40) : simpE (listT [] t) 100 = (listT [] (wordT v), (stepsE 100 (listT [] t)).2, 0) := by
 unfold simpE
 rw [if_neg (by simpa using h.check hk), if_neg (by decide), grow_list, show (100 : Int).toNat = 100 by decide, h.steps 100 hk (by omega)]
end Go.CoreX
namespace Go.Proofs.YtpaonemmbhbgoaaGreatDoor
open Go Go.Abs Go.CoreX
set_option maxRecDepth 100000
theorem check_sym {t : Tr} (h1 : treeErr (listT [] t) = 0) (hw : allT (fun l => l.op = 1 → l.binds = [] ∧ l.ops = [] ∧ l.alts = [] ∧ inW l.n) t) (h2 : ((listT [] t).all fun x => x.op == 1 || nodeErrF false (listT [] t) x == 0) = true)
   (h3 : hasDup (allBinders (listT [] t)) = false) (h4 : occT [] t = []) : check (listT [] t) = 0 := by
 have t2 := isTree_list t
 refine check_of h1 (fun y hy => ?_) ((hasDup_false _).1 h3) (by rw [grow_list]; exact h4)
 have h := List.all_eq_true.1 h2 y hy
 rw [Bool.or_eq_true] at h
 rcases h with h | h
 · have ho : y.op = 1 := by simpa using h
   have h5 := allT_labs t2 (by rw [grow_list]; exact hw) _ (List.mem_map_of_mem (f := labE (listT [] t)) hy)
   obtain ⟨e1, e2, e3, e4⟩ := h5 ho
   refine pLab_word (n := y.n) e4 _ y (kids_lt t2.k hy) ?_
   have e2' : y.kids.map (fun k => ((growL (listT [] t)).getD k.toNat default).op) = [] := e2
   show Lab.mk _ _ _ _ _ = _
   rw [ho, show y.binds = [] from e1, e2', show y.alts = [] from e3]
 · simpa using h
theorem frag_words {hi : Bool} {t : Tr} (h : allT (FragL hi) t) (hs : ∀ l : Lab, FragL hi l → l.op = 1 → l.binds = [] ∧ l.ops = [] ∧ l.alts = []) : allT (fun l => l.op = 1 → l.binds = [] ∧ l.ops = [] ∧ l.alts = [] ∧ inW l.n) t :=
 allT_imp (fun l hl h1 => ⟨(hs l hl h1).1, (hs l hl h1).2.1, (hs l hl h1).2.2, hl.wd h1⟩) t h
theorem runsTo_of {hi : Bool} {fu : Int} {t : Tr} (g : Nat) {m : Ms} {v : Vl} (hc : check (listT [] t) = 0) (hf : allT (FragL hi) t) (hfu : 1 ≤ fu ∧ fu ≤ 1000000) (hg : goX fu [] g ⟨.ev t .nil, [], [], 0, []⟩ = some (.done m v)) (hb : bndX fu [] g ⟨.ev t .nil, [], [], 0, []⟩ = true)
   (ho : m.out.length ≤ 1000) (hs : m.steps ≤ fu) : RunsTo hi fu (listT [] t) m v :=
 ⟨hc, by rw [grow_list]; exact hf, hfu, by rw [grow_list]; exact ⟨g, hg, fun _ => hb⟩, ho, hs⟩
-- R.Twice
def clauseT : Tr := .mk 8 0 [] [.mk 3 0 [] [tV 3, tV 2] [], .mk 3 0 [] [tV 3, .mk 8 0 [] [tV 2, tV 2] []] []] []
def twiceT : Tr := .mk 13 0 [] [.mk 8 0 [] [tW 1, .mk 12 5 [] [tW 3] []] [], tV 1, clauseT] [⟨-1, [1]⟩, ⟨5, [2, 3]⟩]
theorem frag_twice : allT (FragL true) twiceT :=
 ⟨fragB_ok rfl, ⟨fragB_ok rfl, ⟨fragB_ok rfl, trivial⟩, ⟨fragB_ok rfl, ⟨fragB_ok rfl, trivial⟩, trivial⟩, trivial⟩, ⟨fragB_ok rfl, trivial⟩,
   ⟨fragB_ok rfl, ⟨fragB_ok rfl, ⟨fragB_ok rfl, trivial⟩, ⟨fragB_ok rfl, trivial⟩, trivial⟩, ⟨fragB_ok rfl, ⟨fragB_ok rfl, trivial⟩, ⟨fragB_ok rfl, ⟨fragB_ok rfl, trivial⟩, ⟨fragB_ok rfl, trivial⟩, trivial⟩, trivial⟩, trivial⟩, trivial⟩
theorem check_twice : check (listT [] twiceT) = 0 := by decide +kernel
def endOf : Option Rd → Option (Ms × Vl)
 | some (.done m v) => some (m, v)
 | _ => none
theorem runs_twice {fu : Int} (h : fu = 999 ∨ fu = 2000 ∨ fu = 1000000) : ∃ m, RunsTo true fu (listT [] twiceT) m (.word 11) := by
 refine ⟨⟨.rt (.word 11), [], [], 16, []⟩, runsTo_of 100 check_twice frag_twice (by omega) ?_ ?_ (by simp) (by show (16 : Int) ≤ fu; omega)⟩
 · rcases h with rfl | rfl | rfl <;> kernel_rfl
 · rcases h with rfl | rfl | rfl <;> kernel_rfl
set_option maxRecDepth 100000
theorem frag_leaf {l : Lab} (h : FragL true l) (h1 : l.op = 1) : l.binds = [] ∧ l.ops = [] ∧ l.alts = [] := by
 obtain ⟨ks, hk, hs⟩ := h.sh.sh
 rw [h1] at hs
 simp [Go.CoreX.shape, wants] at hs
 obtain ⟨⟨h2, h3⟩, h4⟩ := hs
 subst h2
 exact ⟨h3, List.eq_nil_of_length_eq_zero hk.symm, h4⟩
def addT' (s : Tr) (n : Int) : Tr := .mk 8 0 [] [s, .mk 3 0 [] [tV 3, tW n] []] []
def sumR (ws : List Int) : Tr := ws.foldl addT' (tW 0)
def resT (b : Int) (ws : List Int) : Tr := .mk 13 0 [] [.mk 8 0 [] [tW b, .mk 12 7 [] [tW 1] []] [], tV 1, sumR ws] [⟨-1, [1]⟩, ⟨7, [2, 3]⟩]
def valR (b : Int) (ws : List Int) : Int := ws.foldl (fun s n => wrapW (s + wrapW (b + n))) 0
def innT (a b : Int) : Tr := .mk 13 0 [] [.mk 12 4 [] [tW a] [], tV 1, .mk 12 4 [] [.mk 8 0 [] [tV 2, tW b] []] []] [⟨-1, [1]⟩, ⟨4, [2, 3]⟩]
def nesT (a b : Int) : Tr := .mk 13 0 [] [innT a b, tW 0, .mk 8 1 [] [tV 5, tW 1] []] [⟨-1, [4]⟩, ⟨4, [5, 6]⟩]
theorem frag_nes {a b : Int} (ha : inW a) (hb : inW b) : allT (FragL true) (nesT a b) :=
 ⟨fragB_ok rfl, ⟨fragB_ok rfl, ⟨fragB_ok rfl, frag_word ha, trivial⟩, ⟨fragB_ok rfl, trivial⟩, ⟨fragB_ok rfl, ⟨fragB_ok rfl, ⟨fragB_ok rfl, trivial⟩, frag_word hb, trivial⟩, trivial⟩, trivial⟩, ⟨fragB_ok rfl, trivial⟩, ⟨fragB_ok rfl, ⟨fragB_ok rfl, trivial⟩, ⟨fragB_ok rfl, trivial⟩, trivial⟩, trivial⟩
theorem nes_runs {a b : Int} (ha : inW a) (hb : inW b) : ∃ m, RunsTo true 999 (listT [] (nesT a b)) m (.word (wrapW (wrapW (a + b) - 1))) :=
 ⟨⟨.rt (.word (wrapW (wrapW (a + b) - 1))), [], [], 11, []⟩, runsTo_of 100 (check_sym (by kernel_rfl) (frag_words (frag_nes ha hb) fun l => frag_leaf) (by kernel_rfl) (by kernel_rfl) (by kernel_rfl)) (frag_nes ha hb) (by omega) (by kernel_rfl) (by kernel_rfl) (by simp) (by show (11 : Int) ≤ 999; decide)⟩
variable {Γ : List (Nat × List AC)}
theorem N2 (o n : Int) (a b : Tr) : APure Tryz.prog Γ 26 [.one (int o), .one (int n), .one (.sl 1 [[.box (cNd a)], [.box (cNd b)]])] (.one (.box (cNd (.mk o n [] [a, b] [])))) := by
 have := N_ok (Γ := Γ) o n [a, b]
 rwa [encNds_eq] at this
theorem N1 (o n : Int) (a : Tr) : APure Tryz.prog Γ 26 [.one (int o), .one (int n), .one (.sl 1 [[.box (cNd a)]])] (.one (.box (cNd (.mk o n [] [a] [])))) := by
 have := N_ok (Γ := Γ) o n [a]
 rwa [encNds_eq] at this
theorem A3 (o : Int) (al : List Alt) (a b c : Tr) : APure Tryz.prog Γ 27 [.one (int o), .one (.sl 2 (al.map cAlt)), .one (.sl 1 [[.box (cNd a)], [.box (cNd b)], [.box (cNd c)]])] (.one (.box (cNd (.mk o 0 [] [a, b, c] al)))) := by
 have := A_ok (Γ := Γ) o al [a, b, c]
 rwa [encNds_eq] at this
theorem sum_ok (hΓ : ∀ g cs, (g, cs) ∈ Γ → idsL isO cs) (a b : Tr) : APure Tryz.prog Γ 80 [.one (.box (cNd a)), .one (.box (cNd b))] (.one (.box (cNd (.mk 8 0 [] [a, b] [])))) := by
 have hN := N2 (Γ := Γ) 8 0 a b
 intro ou
 refine AFn.walk 9 tabOk Tryz.func80 rfl (by kernel_rfl) rfl rfl fun hou => ?_
 refine zA ?_
 refine zca hΓ hN hou ?_
 refine zA ?_
 exact APure.fin rfl (WkF.ofEq rfl) (by simp) hou rfl
theorem again_ok (hΓ : ∀ g cs, (g, cs) ∈ Γ → idsL isO cs) (a : Tr) : APure Tryz.prog Γ 81 [.one (.box (cNd a))] (.one (.box (cNd (.mk 3 0 [] [tV 3, a] [])))) := by
 have hN := N2 (Γ := Γ) 3 0 (tV 3) a
 intro ou
 refine AFn.walk 7 tabOk Tryz.func81 rfl (by kernel_rfl) rfl rfl fun hou => ?_
 refine zA ?_
 refine zca hΓ (V_ok hΓ 3) hou ?_
 refine zA ?_
 refine zca hΓ hN hou ?_
 refine zA ?_
 exact APure.fin rfl (WkF.ofEq rfl) (by simp) hou rfl
theorem okT_twice : okT twiceT := by
 simp only [twiceT, clauseT, tV, tW, okT, okTs]
 simp
theorem cnt_twice : cntN twiceT = 15 := by simp [twiceT, clauseT, tV, tW, cntN, cntNs]
theorem TwiceR_ok (hΓ : ∀ g cs, (g, cs) ∈ Γ → idsL isO cs) : APure Tryz.prog Γ 51 [] (.one (.sl 5 ((listT [] twiceT).map cEx))) := by
 have hL := NodeList_ok hΓ twiceT okT_twice (by have := cntN_list twiceT []; rw [cnt_twice] at this; simp at this; omega)
 intro ou
 refine AFn.walk 31 tabOk Tryz.func51 rfl (by kernel_rfl) rfl rfl fun hou => ?_
 refine zA ?_
 refine zca hΓ (V_ok hΓ 2) hou ?_
 refine zca hΓ (again_ok hΓ (tV 2)) hou ?_
 refine zA ?_
 refine zca hΓ (V_ok hΓ 2) hou ?_
 refine zca hΓ (V_ok hΓ 2) hou ?_
 refine zca hΓ (sum_ok hΓ (tV 2) (tV 2)) hou ?_
 refine zca hΓ (again_ok hΓ (.mk 8 0 [] [tV 2, tV 2] [])) hou ?_
 refine zca hΓ (sum_ok hΓ (.mk 3 0 [] [tV 3, tV 2] []) (.mk 3 0 [] [tV 3, .mk 8 0 [] [tV 2, tV 2] []] [])) hou ?_
 refine zA ?_
 refine zca hΓ (W_ok hΓ 1) hou ?_
 refine zca hΓ (W_ok hΓ 3) hou ?_
 refine zA ?_
 refine zca hΓ (N_ok (Γ := Γ) 12 5 [tW 3]) hou ?_
 refine zca hΓ (sum_ok hΓ (tW 1) (.mk 12 5 [] [tW 3] [])) hou ?_
 refine zca hΓ (V_ok hΓ 1) hou ?_
 refine zA ?_
 refine zca hΓ (A_ok (Γ := Γ) 13 [⟨-1, [1]⟩, ⟨5, [2, 3]⟩] [.mk 8 0 [] [tW 1, .mk 12 5 [] [tW 3] []] [], tV 1, clauseT]) hou ?_
 refine zca hΓ hL hou ?_
 refine zA ?_
 exact APure.fin rfl (WkF.ofEq rfl) (by simp) hou rfl
theorem okB_twice : okB (listT [] twiceT) := okB_list (okT_pOk _ okT_twice) (by rw [cnt_twice]; omega)
theorem evalFact_ok : APure Tryz.prog Γc 29 [] (.one (.lit (.bool true))) := by
 obtain ⟨m, hm⟩ := runs_twice (fu := 999) (.inl rfl)
 have hR := Run_ok (MoreC.yes hΓc trivial) okB_twice hm
 intro ou
 refine AFn.walk 22 tabOk Tryz.func29 rfl (by kernel_rfl) rfl rfl fun hou => ?_
 refine zA ?_
 refine zca hΓc (TwiceR_ok hΓc) hou ?_
 refine zca hΓc hR hou ?_
 refine zM ?_
 exact APure.fin rfl (WkF.ofEq rfl) (by simp) hou rfl
def inK (n : Int) : Prop := -10000 < n ∧ n < 10000
theorem tmod_inK (n : Int) : inK (n.tmod 10000) := ⟨Int.lt_tmod_of_pos n (by decide), Int.tmod_lt_of_pos n (by decide)⟩
theorem inK.w {n : Int} (h : inK n) : inW n := by unfold inK at h; unfold inW; omega
def wantR (b : Int) (ws : List Int) : Int := ws.foldl (fun s n => s + (b + n)) 0
theorem wrap_small {n : Int} (h : -1000000 ≤ n ∧ n ≤ 1000000) : wrapW n = n := by unfold wrapW; omega
theorem perf_ok (hΓ : ∀ g cs, (g, cs) ∈ Γ → idsL isO cs) (a : Tr) : APure Tryz.prog Γ 30 [.one (.box (cNd a))] (.one (.box (cNd (.mk 12 4 [] [a] [])))) := by
 have hN := N1 (Γ := Γ) 12 4 a
 intro ou
 refine AFn.walk 6 tabOk Tryz.func30 rfl (by kernel_rfl) rfl rfl fun hou => ?_
 refine zA ?_
 refine zca hΓ hN hou ?_
 refine zA ?_
 exact APure.fin rfl (WkF.ofEq rfl) (by simp) hou rfl
theorem okT_nes (a b : Int) : okT (nesT a b) := by
 simp only [nesT, innT, tV, tW, okT, okTs]
 simp
theorem cnt_nes (a b : Int) : cntN (nesT a b) = 13 := by simp [nesT, innT, tV, tW, cntN, cntNs]
theorem EvalNested_ok (x y : Int) : APure Tryz.prog Γc 6 [.one (int x), .one (int y)] (.one (.lit (.bool true))) := by
 obtain ⟨a, had⟩ : ∃ a, a = x.tmod 10000 := ⟨_, rfl⟩
 obtain ⟨b, hbd⟩ : ∃ b, b = y.tmod 10000 := ⟨_, rfl⟩
 have ha : inK a := by rw [had]; exact tmod_inK x
 have hb : inK b := by rw [hbd]; exact tmod_inK y
 obtain ⟨m, hrun⟩ := nes_runs ha.w hb.w
 have hR := Run_ok (MoreC.yes hΓc trivial) (okB_list (okT_pOk _ (okT_nes a b)) (by rw [cnt_nes]; omega)) hrun
 have hL2 := NodeList_ok hΓc (nesT a b) (okT_nes a b) (by have := cntN_list (nesT a b) []; rw [cnt_nes] at this; simp at this; omega)
 have hE := evalFact_ok
 have hval : wrapW (wrapW (a + b) - 1) = a + b - 1 := by
   unfold inK at ha hb
   rw [wrap_small (n := a + b) (by omega), wrap_small (by omega)]
 unfold inK at ha hb
 intro ou
 refine AFn.walk 68 tabOk Tryz.func6 rfl (by kernel_rfl) rfl rfl fun hou => ?_
 refine zA ?_
 refine AOps.step1 rfl rfl rfl (AStep.rem rfl rfl rfl (by decide)) ?_
 refine AOps.wk 12 rfl (y := .one (int a)) (.ofEq (by rw [had])) ?_
 refine zA ?_
 refine AOps.step1 rfl rfl rfl (AStep.rem rfl rfl rfl (by decide)) ?_
 refine AOps.wk 14 rfl (y := .one (int b)) (.ofEq (by rw [hbd])) ?_
 refine zA ?_
 refine zca hΓc (W_ok hΓc a) hou ?_
 refine zca hΓc (perf_ok hΓc (tW a)) hou ?_
 refine zca hΓc (V_ok hΓc 1) hou ?_
 refine zA ?_
 refine zca hΓc (V_ok hΓc 2) hou ?_
 refine zA ?_
 refine zca hΓc (W_ok hΓc b) hou ?_
 refine zA ?_
 refine zca hΓc (N2 (Γ := Γc) 8 0 (tV 2) (tW b)) hou ?_
 refine zca hΓc (perf_ok hΓc (.mk 8 0 [] [tV 2, tW b] [])) hou ?_
 refine zA ?_
 refine zca hΓc (A3 (Γ := Γc) 13 [⟨-1, [1]⟩, ⟨4, [2, 3]⟩] (.mk 12 4 [] [tW a] []) (tV 1) (.mk 12 4 [] [.mk 8 0 [] [tV 2, tW b] []] [])) hou ?_
 refine zA ?_
 refine zca hΓc (W_ok hΓc 0) hou ?_
 refine zca hΓc (V_ok hΓc 5) hou ?_
 refine zca hΓc (W_ok hΓc 1) hou ?_
 refine zA ?_
 refine zca hΓc (N2 (Γ := Γc) 8 1 (tV 5) (tW 1)) hou ?_
 refine zA ?_
 refine zca hΓc (A3 (Γ := Γc) 13 [⟨-1, [4]⟩, ⟨4, [5, 6]⟩] (innT a b) (tW 0) (.mk 8 1 [] [tV 5, tW 1] [])) hou ?_
 refine zca hΓc hL2 hou ?_
 refine zA ?_
 refine zca hΓc hR hou ?_
 refine zM ?_
 refine zca hΓc hE hou ?_
 refine zM ?_
 exact APure.fin rfl (WkF.ofEq (by simp [hval, lastV])) (by simp) hou rfl
section
variable {H : Type} {enc : TypeId × Value → H} {w : World}
abbrev I64 := {i : Int // IntKind.i64.min ≤ i ∧ i ≤ IntKind.i64.max}
theorem opens_int (n : Nat) : Opens enc Tryz.prog w Rows.uptoBulk 3 n (fun i : I64 => [int i.1]) (fun _ => 1) := by
 intro cs x h
 obtain ⟨i, rfl, rfl, hw⟩ := DataW.trod_int Tryz.underlying3 h
 refine ⟨⟨i, ?_⟩, ⟨_, _, rfl, ⟨rfl, rfl⟩, rfl⟩, by simp [Rows.uptoBulk]⟩
 simpa [Lit.wf] using hw
def bAlt (a : Alt) : Nat := a.binds.length + 3
def bAlts (l : List Alt) : Nat := (l.map bAlt).sum
def bEx (x : Ex) : Nat := x.binds.length + x.kids.length + bAlts x.alts + 6
def bExs (l : List Ex) : Nat := (l.map bEx).sum
end
theorem arity_cells {W : World} (h : laidMetH Tryz.prog [("provenance/core.arity", Rows.laid_provenance_core_arity)] W) : ∀ g cs, (g, cs) ∈ Γc → RG W (ctx0 W) cs g := by
 have ht : Lib.TabIs Tryz.prog W "provenance/core.arity" .i64 [2, 2, 2, 2, 2, 2, 2, 1, 2, 1, 2, 3] :=
   Lib.tabIs_of_head (rest := []) (g := 1) (t := 168) (n := 12) (by kernel_rfl) (by kernel_rfl) (by kernel_rfl) Tryz.underlying3 (by kernel_rfl) (by kernel_rfl) h
 have hg : Tryz.prog.globalNamed "provenance/core.arity" = some 1 := by kernel_rfl
 intro g cs hm
 simp [Γc] at hm
 obtain ⟨rfl, rfl⟩ := hm
 exact RG.ofVar hg ht rfl
end Go.Proofs.YtpaonemmbhbgoaaGreatDoor
