/- same, walked: where it says that two trees are equal. -/
import Derived.Test.YtgdionbeeodaaaaDoorB7
import Derived.Shelf.Sort.Plain
import Derived.Shelf.Slices.In.SortNone
set_option maxRecDepth 10000
set_option linter.unusedVariables false
set_option linter.unusedSimpArgs false
namespace Go.Proofs.YtgdionbeeodaaaaDoor
open Go Go.Abs Go.CoreX
variable {Γ : List (Nat × List AC)}
def ouN (ck : Nat) (l : List (Nat × Int × Int)) : Outer := ouOf [.map ck (encI eN l)]
theorem ouN_ok (ck : Nat) (l : List (Nat × Int × Int)) : OuOk (ouN ck l) := by
 intro k o h
 match k, h with
 | 0, h => cases h; exact ids_mapN _ _ _
 | k + 1, h => cases h
theorem ouN_set (ck ck' : Nat) (l l' : List (Nat × Int × Int)) : (fun j => bif Nat.beq j 0 then some (AObj.map ck' (encI eN l')) else ouN ck l j) = ouN ck' l' := by
 funext j
 match j with
 | 0 => rfl
 | k + 1 => rfl
theorem okT_tr {t : Tr} (h : okT t) : t.binds.length ≤ 1048576 ∧ t.kids.length ≤ 1048576 ∧ t.alts.length ≤ 1048576 ∧ (∀ x ∈ t.alts, x.binds.length ≤ 1048576) ∧ bindLen t ≤ 4194304 ∧ ∀ k ∈ t.kids, okT k := by
 cases t with
 | mk o n b k a =>
   obtain ⟨h1, h2, h3, h4, h5⟩ := h
   exact ⟨h1, h2, h3, h4.1, h4.2, okTs_iff.1 h5⟩
def SameOk (Γ : List (Nat × List AC)) (a b : Tr) : Prop := ∀ (m : Nm) (ck : Nat) (l : List (Nat × Int × Int)), IMOk m ck l → (sameT a b m).1 = true →
 AFn Tryd.prog Γ 90 [.one (.box (cTr a)), .one (.box (cTr b)), .one (.mp (.o 0))] (ouN ck l) (fun r ou' => r = .one (.lit (.bool true)) ∧ ∃ ck' l', ou' = ouN ck' l' ∧ IMOk (sameT a b m).2 ck' l')
set_option maxHeartbeats 2000000 in
theorem same_ok (hΓ : ∀ g cs, (g, cs) ∈ Γ → idsL isO cs) : ∀ a : Tr, okT a → ∀ b, okT b → SameOk Γ a b
 | .mk o n bs ks al, ha, t, ht => by
   have ha' := okT_tr ha
   obtain ⟨hbs, hks, hal, hab, hbl, hkk⟩ := ha'
   simp only [Tr.binds_mk, Tr.kids_mk, Tr.alts_mk] at hbs hks hal hab hkk
   have ih : ∀ x ∈ ks, ∀ y, okT y → SameOk Γ x y := fun x hx y hy => same_ok hΓ x (hkk x hx) y hy
   obtain ⟨htb, htk, hta, htab, htl, htkk⟩ := okT_tr ht
   intro m ck l hm hs
   obtain ⟨⟨e1, e2, e3, e4⟩, hcase⟩ := sameT_true hs
   refine AFn.walk 222 tabOk Tryd.func90 rfl (by kernel_rfl) rfl rfl fun hou => ?_
   refine zA ?_
   refine ACode.drawX tabOk 47 [(8, .one (.lit (.bool false))), (20, .one (.lit (.bool false))), (33, .one (.lit (.bool false))), (46, .one (.lit (.bool false)))] follows (by kernel_rfl) rfl rfl rfl rfl ?_ ?_
   · refine .step rfl (HStep.litB tabOk rfl (by simp [e1])) ?_
     refine .step rfl (HStep.litB tabOk rfl (by simp [e2])) ?_
     refine .step rfl (HStep.litB tabOk rfl (by simp [e3])) ?_
     exact .step rfl (HStep.litB tabOk rfl (by simp [e4])) .nil
   iterate 7 (first | ((with_reducible refine oj ?_); refine zau ?_) | (with_reducible refine zst ?_) | ((with_reducible refine cExitMiss ?_ ?_); rfl) | (with_reducible refine ok ?_; first | refine ACode.condT rfl ?_ | refine ACode.condF rfl ?_))
   refine ACode.cutR hΓ (α := Unit) (fun _ => [(2, .one (.mp (.o 0))), (1, .one (.box (cTr t))), (0, .one (.box (cTr (.mk o n bs ks al))))])
     (fun _ => ⟨0, [], ouN ck l⟩) (fun _ => o ≠ 0 ∧ altsLike al t.alts = true ∧ (sameTs ks t.kids (putsN m (bindersN o bs al) (bindersN t.op t.binds t.alts))).1 = true ∧ (sameT (.mk o n bs ks al) t m).2 = (sameTs ks t.kids (putsN m (bindersN o bs al) (bindersN t.op t.binds t.alts))).2) ?_ fun _ hc => ?_
   · refine zA ?_
     rcases hcase with ⟨h0, hv, hm2⟩ | ⟨h0, hn, h9, hal2, hts, hm2⟩
     · refine ACode.cond rfl (fun hb => ?_) (fun hb => absurd h0 (by simpa using hb))
       have hz := zeroN
       refine zA ?_
       refine AOps.step1 rfl rfl rfl (AStep.lookI eN (cm := true) (v := .one (int ((m n).getD 0))) rfl Tryd.underlying90 Tryd.underlying3 rfl rfl rfl (by kernel_rfl) zeroN hm (by simp only [Tr.n_mk]; cases m n <;> rfl)) ?_
       refine zA ?_
       cases hmn : m n with
       | some v =>
         have hvt : v = t.n := by simpa [sameVar, hmn] using hv
         refine ACode.wk 8 rfl (y := .one (.lit (.bool true))) (.ofEq (by simp [hmn])) ?_
         refine ACode.wk 7 rfl (y := .one (int v)) (.ofEq (by simp [hmn])) ?_
         refine ACode.drawX tabOk 24 [(7, .one (.lit (.bool true)))] follows (by kernel_rfl) rfl rfl rfl rfl ?_ ?_
         · exact .step rfl (HStep.litB tabOk rfl (by simp [hvt])) .nil
         refine zA ?_
         exact AFn.fin' rfl (WkF.refl _) (by simp) hou ⟨rfl, ck, l, rfl, by rw [hm2]; exact hm⟩
       | none =>
         have hvt : n = t.n := by simpa [sameVar, hmn] using hv
         refine ACode.wk 8 rfl (y := .one (.lit (.bool false))) (.ofEq (by simp [hmn])) ?_
         refine ACode.drawX tabOk 24 [(21, .one (.lit (.bool true)))] follows (by kernel_rfl) rfl rfl rfl rfl ?_ ?_
         · exact .step rfl (HStep.litB tabOk rfl (by simp [hvt])) .nil
         refine zA ?_
         exact AFn.fin' rfl (WkF.refl _) (by simp) hou ⟨rfl, ck, l, rfl, by rw [hm2]; exact hm⟩
     · refine ACode.cond rfl (fun hb => absurd (by simpa using hb) h0) (fun hb => ?_)
       refine zA ?_
       by_cases h9' : o = 9
       · have heq := Equal_ok hΓ bs t.binds hbs
         rw [h9 h9'] at heq
         have e9 : (t.binds == t.binds) = true := by simp
         rw [e9] at heq
         refine ACode.drawX tabOk 28 [(8, .one (.lit (.bool false))), (14, .one (.lit (.bool true))), (24, .one (.lit (.bool true)))] follows (by kernel_rfl) rfl rfl rfl rfl ?_ ?_
         · refine .step rfl (HStep.litB tabOk rfl (by simp [hn])) ?_
           refine .step rfl (HStep.litB tabOk rfl (by simp [h9'])) ?_
           exact .step rfl (HStep.guarded rfl rfl rfl (AStep.callP hΓ rfl rfl rfl (by rw [h9 h9']; rfl) (by simp) hou heq)) .nil
         refine zA ?_
         exact cInv ⟨(), id, ⟨h0, hal2, hts, hm2⟩, LessR.of rfl (by (repeat' first | exact FrSub.nil | refine zfc ?_ | refine zfo ?_ | refine zfp ?_)) (by simp) .nil rfl rfl hou⟩
       · refine ACode.drawX tabOk 28 [(8, .one (.lit (.bool false))), (14, .one (.lit (.bool false)))] follows (by kernel_rfl) rfl rfl rfl rfl ?_ ?_
         · refine .step rfl (HStep.litB tabOk rfl (by simp [hn])) ?_
           exact .step rfl (HStep.litB tabOk rfl (by simp [h9'])) .nil
         refine zA ?_
         exact cInv ⟨(), id, ⟨h0, hal2, hts, hm2⟩, LessR.of rfl (by (repeat' first | exact FrSub.nil | refine zfc ?_ | refine zfo ?_ | refine zfp ?_)) (by simp) .nil rfl rfl hou⟩
   obtain ⟨h0, hal2, hts, hm2⟩ := hc
   clear hcase hs
   refine zA ?_
   refine ACode.loopR hΓ (α := Nat) (fun i => [(135, .one (int i)), (134, .one (int (al.map cAlt).length)), (2, .one (.mp (.o 0))), (1, .one (.box (cTr t))), (0, .one (.box (cTr (.mk o n bs ks al))))])
     (fun i => ⟨0, [], ouN ck l⟩) (fun m i => i ≤ al.length ∧ m = al.length - i) (a0 := 0) (ρ := id) ⟨by omega, rfl⟩ (LessR.of rfl (by (repeat' first | exact FrSub.nil | refine zfc ?_ | refine zfo ?_ | refine zfp ?_)) (by simp) .nil rfl rfl hou) fun m' i hi => ?_
   obtain ⟨hil, rfl⟩ := hi
   refine zA ?_
   refine ACode.cond rfl (fun hb3 => ?_) (fun hb3 => ?_)
   · have hlt : i < al.length := by simpa using hb3
     obtain ⟨x, hx⟩ := get_of_lt hlt
     obtain ⟨y, hy⟩ := get_of_lt (l := t.alts) (i := i) (by omega)
     obtain ⟨q1, q2⟩ := altsLike_at hal2 hx hy
     refine zA ?_
     refine ACode.drawX tabOk 37 [(5, .one (.box (cAlt x))), (13, .one (.box (cAlt y))), (16, .one (.lit (.bool false))), (23, .one (.box (cAlt x))), (32, .one (.box (cAlt y))), (36, .one (.lit (.bool false)))] follows (by kernel_rfl) rfl rfl rfl rfl ?_ ?_
     · refine .step rfl (HStep.plain rfl (AStep.indexAddr tabOk rfl rfl rfl rfl rfl rfl (.inl rfl) rfl (by omega) (map_get hx))) ?_
       refine .step rfl (HStep.plain rfl (AStep.indexAddr tabOk rfl rfl rfl rfl rfl rfl (.inl rfl) rfl (by omega) (map_get hy))) ?_
       refine .step rfl (HStep.litB tabOk rfl (by simp [q1])) ?_
       refine .step rfl (HStep.guarded rfl rfl rfl (AStep.indexAddr tabOk rfl rfl rfl rfl rfl rfl (.inl rfl) rfl (by omega) (map_get hx))) ?_
       refine .step rfl (HStep.guarded rfl rfl rfl (AStep.indexAddr tabOk rfl rfl rfl rfl rfl rfl (.inl rfl) rfl (by omega) (map_get hy))) ?_
       exact .step rfl (HStep.litB tabOk rfl (by simp [q2])) .nil
     refine zM ?_
     exact cInv ⟨al.length - (i + 1), i + 1, id, by omega, ⟨by omega, rfl⟩, LessR.of rfl (by (repeat' first | exact FrSub.nil | refine zfc ?_ | refine zfo ?_ | refine zfp ?_)) (by simp) .nil rfl rfl hou⟩
   clear hb3
   have hlen := bindersN_len (o := o) e3 e4 hal2
   have hB1 := Binders_ok hΓ (.mk o n bs ks al) hbl hal
   have hB2 := Binders_ok hΓ t htl hta
   have hbn : (bindersN o bs al).length ≤ 4194304 := by
     unfold bindLen at hbl
     simp only [Tr.binds_mk, Tr.alts_mk] at hbl
     unfold bindersN
     rw [List.length_append]
     split
     · omega
     · simp only [List.length_nil]; omega
   simp only [Tr.op_mk, Tr.binds_mk, Tr.alts_mk] at hB1
   rw [← e1] at hB2 hts hm2
   generalize bindersN o bs al = L1 at hlen hB1 hts hm2 hbn
   generalize bindersN o t.binds t.alts = L2 at hlen hB2 hts hm2
   refine zA ?_
   refine zca hΓ hB1 hou ?_
   refine zA ?_
   refine zca hΓ hB2 hou ?_
   refine zA ?_
   refine ACode.loopR hΓ (α := Nat × Nat × List (Nat × Int × Int)) (fun c => [(183, .one (int c.1)), (182, .one (int (L1.map cI).length)), (11, .one (.sl 1 (L2.map cI))), (10, .one (.sl 1 (L1.map cI))), (2, .one (.mp (.o 0))), (1, .one (.box (cTr t))), (0, .one (.box (cTr (.mk o n bs ks al))))])
     (fun c => ⟨0, [], ouN c.2.1 c.2.2⟩) (fun m' c => c.1 ≤ L1.length ∧ IMOk (putsN m (L1.take c.1) (L2.take c.1)) c.2.1 c.2.2 ∧ m' = L1.length - c.1) (a0 := (0, ck, l)) (ρ := id) ⟨by omega, by simpa [putsN] using hm, rfl⟩ (LessR.of rfl (by (repeat' first | exact FrSub.nil | refine zfc ?_ | refine zfo ?_ | refine zfp ?_)) (by simp) .nil rfl rfl hou) fun m' c hi => ?_
   clear hm hou
   obtain ⟨i, ck, l⟩ := c
   obtain ⟨hil, hm, rfl⟩ := hi
   simp only at hil hm
   have hou : OuOk (ouN ck l) := ouN_ok _ _
   refine zA ?_
   refine ACode.cond rfl (fun hb3 => ?_) (fun hb3 => ?_)
   · have hlt : i < L1.length := by simpa using hb3
     obtain ⟨x, hx⟩ := get_of_lt hlt
     obtain ⟨y, hy⟩ := get_of_lt (l := L2) (i := i) (by omega)
     refine zA ?_
     refine ACode.drawX tabOk 9 [(3, .one (.box (cI x))), (7, .one (.box (cI y)))] follows (by kernel_rfl) rfl rfl rfl rfl ?_ ?_
     · refine .step rfl (HStep.plain rfl (AStep.indexAddr tabOk rfl rfl rfl rfl rfl rfl (.inl rfl) rfl (by omega) (map_get hx))) ?_
       exact .step rfl (HStep.plain rfl (AStep.indexAddr tabOk rfl rfl rfl rfl rfl rfl (.inl rfl) rfl (by omega) (map_get hy))) .nil
     refine AOps.putI eN (v := y) rfl rfl rfl Tryd.underlying90 Tryd.underlying3 rfl rfl rfl rfl hm fun ck' l' hm' => ?_
     refine zM ?_
     refine cInv ⟨L1.length - (i + 1), (i + 1, ck', l'), id, by omega, ⟨by omega, ?_, rfl⟩, LessR.of rfl (by (repeat' first | exact FrSub.nil | refine zfc ?_ | refine zfo ?_ | refine zfp ?_)) (by simp) .nil rfl (ouN_set ck ck' l l').symm (by rw [show (St.set ⟨0, [], ouN ck l⟩ (.o 0) (.map ck' (encI eN l'))).ou = ouN ck' l' from ouN_set ck ck' l l']; exact ouN_ok _ _)⟩
     rw [putsN_succ hx hy]; exact hm'
   have hlt : i = L1.length := by simp at hb3; omega
   subst hlt
   rw [List.take_length, hlen, List.take_length] at hm
   generalize putsN m L1 L2 = m1 at hm hts hm2
   clear hb3
   refine zA ?_
   refine ACode.loopR hΓ (α := Nat × Nat × List (Nat × Int × Int)) (fun c => [(201, .one (int c.1)), (200, .one (int (encTrs ks).length)), (2, .one (.mp (.o 0))), (1, .one (.box (cTr t))), (0, .one (.box (cTr (.mk o n bs ks al))))])
     (fun c => ⟨0, [], ouN c.2.1 c.2.2⟩) (fun m' c => c.1 ≤ ks.length ∧ IMOk (sameTs (ks.take c.1) (t.kids.take c.1) m1).2 c.2.1 c.2.2 ∧ m' = ks.length - c.1) (a0 := (0, ck, l)) (ρ := id) ⟨by omega, by simpa [sameTs] using hm, rfl⟩ (LessR.of rfl (by (repeat' first | exact FrSub.nil | refine zfc ?_ | refine zfo ?_ | refine zfp ?_)) (by simp) .nil rfl rfl hou) fun m' c hi => ?_
   clear hm hou
   obtain ⟨i, ck, l⟩ := c
   obtain ⟨hil, hm, rfl⟩ := hi
   simp only at hil hm
   have hou : OuOk (ouN ck l) := ouN_ok _ _
   refine zA ?_
   refine ACode.cond rfl (fun hb3 => ?_) (fun hb3 => ?_)
   · have hlt : i < ks.length := by simpa using hb3
     obtain ⟨x, hx⟩ := get_of_lt hlt
     obtain ⟨y, hy⟩ := get_of_lt (l := t.kids) (i := i) (by omega)
     obtain ⟨q1, q2⟩ := sameTs_step hts hx hy
     have hcall := ih x (List.mem_of_getElem? hx) y (htkk y (List.mem_of_getElem? hy)) _ ck l hm q1
     refine zA ?_
     refine ACode.drawX tabOk 15 [(5, .one (.box (cB x))), (12, .one (.box (cB y)))] follows (by kernel_rfl) rfl rfl rfl rfl ?_ ?_
     · refine .step rfl (HStep.plain rfl (AStep.indexAddr tabOk rfl rfl rfl rfl rfl rfl (.inl rfl) rfl (by omega) (encTrs_get hx))) ?_
       exact .step rfl (HStep.plain rfl (AStep.indexAddr tabOk rfl rfl rfl rfl rfl rfl (.inl rfl) rfl (by omega) (encTrs_get hy))) .nil
     refine AOps.call1 hΓ rfl rfl rfl rfl rfl rfl rfl (by simp) hou hcall fun r ou' hq hids hou' => ?_
     obtain ⟨rfl, ck', l', rfl, hm'⟩ := hq
     refine zM ?_
     refine cInv ⟨ks.length - (i + 1), (i + 1, ck', l'), id, by omega, ⟨by omega, ?_, rfl⟩, LessR.of rfl (by (repeat' first | exact FrSub.nil | refine zfc ?_ | refine zfo ?_ | refine zfp ?_)) (by simp) .nil rfl rfl hou'⟩
     rw [q2]; exact hm'
   · have hlt : i = ks.length := by simp at hb3; omega
     subst hlt
     rw [List.take_length, e2, List.take_length] at hm
     refine zA ?_
     exact AFn.fin' rfl (WkF.refl _) (by simp) hou ⟨rfl, ck, l, rfl, by rw [hm2]; exact hm⟩
end Go.Proofs.YtgdionbeeodaaaaDoor
namespace Go.Proofs
open Go.Shelf
def Tryd.lays189_ren : Go.Shelf.Ren := ⟨fun | 189 => 106 | 125 => 101 | 257 => 130 | 128 => 126 | 129 => 127 | 294 => 138 | 295 => 139 | 296 => 140 | 297 => 141 | 298 => 142 | 299 => 143 | 216 => 144 | 300 => 145 | 301 => 146 | 328 => 149 | 329 => 132 | 330 => 133 | 331 => 150 | 332 => 151 | 215 => 102 | 343 => 152 | n => n, fun | 28 => 35 | 3 => 3 | 46 => 135 | 0 => 0 | 51 => 154 | 53 => 156 | 4 => 4 | 183 => 148 | 182 => 147 | 131 => 127 | 5 => 5 | 9 => 9 | 218 => 160 | 222 => 164 | 228 => 174 | 229 => 175 | n => n, fun | n => n⟩
theorem Tryd.lays189 : Go.Proofs.Lays.n189 Tryd.prog Tryd.lays189_ren := {
 mixed := by kernel_rfl
 f125 := Tryd.func101.trans (congrArg some (by kernel_rfl))
 f128 := Tryd.func126.trans (congrArg some (by kernel_rfl))
 f129 := Tryd.func127.trans (congrArg some (by kernel_rfl))
 f189 := Tryd.func106.trans (congrArg some (by kernel_rfl))
 f215 := Tryd.func102.trans (congrArg some (by kernel_rfl))
 f216 := Tryd.func144.trans (congrArg some (by kernel_rfl))
 f257 := Tryd.func130.trans (congrArg some (by kernel_rfl))
 f294 := Tryd.func138.trans (congrArg some (by kernel_rfl))
 f295 := Tryd.func139.trans (congrArg some (by kernel_rfl))
 f296 := Tryd.func140.trans (congrArg some (by kernel_rfl))
 f297 := Tryd.func141.trans (congrArg some (by kernel_rfl))
 f298 := Tryd.func142.trans (congrArg some (by kernel_rfl))
 f299 := Tryd.func143.trans (congrArg some (by kernel_rfl))
 f300 := Tryd.func145.trans (congrArg some (by kernel_rfl))
 f301 := Tryd.func146.trans (congrArg some (by kernel_rfl))
 f328 := Tryd.func149.trans (congrArg some (by kernel_rfl))
 f329 := Tryd.func132.trans (congrArg some (by kernel_rfl))
 f330 := Tryd.func133.trans (congrArg some (by kernel_rfl))
 f331 := Tryd.func150.trans (congrArg some (by kernel_rfl))
 f332 := Tryd.func151.trans (congrArg some (by kernel_rfl))
 f343 := Tryd.func152.trans (congrArg some (by kernel_rfl))
 t0 := Tryd.underlying0
 a0 := Tryd.isAgg0
 z0 := Tryd.sizeOf0
 v0 := Tryd.zeroValue0
 t3 := Tryd.underlying3
 a3 := Tryd.isAgg3
 z3 := Tryd.sizeOf3
 v3 := Tryd.zeroValue3
 t4 := Tryd.underlying4
 a4 := Tryd.isAgg4
 z4 := Tryd.sizeOf4
 v4 := Tryd.zeroValue4
 t5 := Tryd.underlying5
 a5 := Tryd.isAgg5
 z5 := Tryd.sizeOf5
 v5 := Tryd.zeroValue5
 t9 := Tryd.underlying9
 a9 := Tryd.isAgg9
 z9 := Tryd.sizeOf9
 v9 := Tryd.zeroValue9
 t28 := Tryd.underlying35
 a28 := Tryd.isAgg35
 z28 := Tryd.sizeOf35
 v28 := Tryd.zeroValue35
 t46 := Tryd.underlying135
 a46 := Tryd.isAgg135
 z46 := Tryd.sizeOf135
 v46 := Tryd.zeroValue135
 t51 := Tryd.underlying154
 a51 := Tryd.isAgg154
 z51 := Tryd.sizeOf154
 v51 := Tryd.zeroValue154
 t53 := Tryd.underlying156
 a53 := Tryd.isAgg156
 z53 := Tryd.sizeOf156
 v53 := Tryd.zeroValue156
 t131 := Tryd.underlying127
 a131 := Tryd.isAgg127
 z131 := Tryd.sizeOf127
 v131 := Tryd.zeroValue127
 t182 := Tryd.underlying147
 a182 := Tryd.isAgg147
 z182 := Tryd.sizeOf147
 v182 := Tryd.zeroValue147
 t183 := Tryd.underlying148
 a183 := Tryd.isAgg148
 z183 := Tryd.sizeOf148
 v183 := Tryd.zeroValue148
 t218 := Tryd.underlying160
 a218 := Tryd.isAgg160
 z218 := Tryd.sizeOf160
 v218 := Tryd.zeroValue160
 t222 := Tryd.underlying164
 a222 := Tryd.isAgg164
 z222 := Tryd.sizeOf164
 v222 := Tryd.zeroValue164
 t228 := Tryd.underlying174
 a228 := Tryd.isAgg174
 z228 := Tryd.sizeOf174
 v228 := Tryd.zeroValue174
 t229 := Tryd.underlying175
 a229 := Tryd.isAgg175
 z229 := Tryd.sizeOf175
 v229 := Tryd.zeroValue175 }
open Go.Sort Go.RowKit in
theorem Tryd.slices_Sort_int (blk off cap : Nat) (zs : List Int) (w : World) (hH : Holds (Value.int .i64) w blk off zs.toArray) (hblk : blk < w.heap.size) (hsz : zs.length < 4611686018427387904) :
   Calls Tryd.prog 106 #[.slice (some ⟨blk, off, none⟩) zs.length cap] w fun e w' =>
     e = .returned (.tuple #[]) ∧ ∃ n os, w' = grow (putRow (Value.int .i64) (Sort.ahead w n) blk off (zs.mergeSort fun x y => decide (x ≤ y)).toArray) os := Any.slices_Sort_int Tryd.lays189 blk off cap zs w hH hblk hsz
theorem Tryd.slices_Sort_int_none (p : Option Addr) (cap : Nat) (w : World) :
   Calls Tryd.prog 106 #[.slice p 0 cap] w fun e w' => e = .returned (.tuple #[]) ∧ w' = w := Any.slices_Sort_int_none Tryd.lays189 p cap w
end Go.Proofs
namespace Go.Proofs.YtgdionbeeodaaaaDoor
open Go Go.Sort
theorem sortOk : SortOk := fun blk off cap zs w hH hblk hsz => Tryd.slices_Sort_int blk off cap zs w hH hblk hsz
theorem sortNil : SortNil := fun w => Tryd.slices_Sort_int_none none 0 w
end Go.Proofs.YtgdionbeeodaaaaDoor
namespace Go.CoreX
theorem okT_grow {e : List Ex} (h : ∀ x ∈ e, x.binds.length ≤ 1048576 ∧ x.kids.length ≤ 1048576 ∧ x.alts.length ≤ 1048576 ∧ (∀ a ∈ x.alts, a.binds.length ≤ 1048576) ∧ x.binds.length + (x.alts.flatMap (·.binds)).length ≤ 4194304) (hk : kidsIn e) : ∀ t ∈ growL e, okT t := by
 revert h hk
 refine snoc_ind (P := fun e => (∀ x ∈ e, x.binds.length ≤ 1048576 ∧ x.kids.length ≤ 1048576 ∧ x.alts.length ≤ 1048576 ∧ (∀ a ∈ x.alts, a.binds.length ≤ 1048576) ∧ x.binds.length + (x.alts.flatMap (·.binds)).length ≤ 4194304) → kidsIn e → ∀ t ∈ growL e, okT t) (fun _ _ t ht => by simp [growL] at ht) (fun e x ih h hk t ht => ?_) e
 obtain ⟨h1, h2⟩ := kidsIn_snoc.1 hk
 have ih := ih (fun y hy => h y (by simp [hy])) h1
 rw [growL_snoc] at ht
 rcases List.mem_append.1 ht with ht | ht
 · exact ih t ht
 · simp at ht
   subst ht
   obtain ⟨a1, a2, a3, a4, a5⟩ := h x (by simp)
   refine ⟨a1, by simpa using a2, a3, ⟨a4, a5⟩, okTs_iff.2 fun s hs => ?_⟩
   obtain ⟨k, hk2, rfl⟩ := List.mem_map.1 hs
   have hkb := h2 k hk2
   have hl : k.toNat < (growL e).length := by rw [growL_len]; omega
   rw [List.getD_eq_getElem?_getD, List.getElem?_eq_getElem hl]
   exact ih _ (List.getElem_mem hl)
theorem grow_mem {e : List Ex} (h : e ≠ []) : grow e ∈ growL e := by
 have hl : e.length - 1 < (growL e).length := by rw [growL_len]; have := List.length_pos_iff.2 h; omega
 unfold grow
 rw [List.getD_eq_getElem?_getD, List.getElem?_eq_getElem hl]
 exact List.getElem_mem hl
theorem firstErr_at {α : Type} {f : α → Int} : ∀ {l : List α} {j : Nat} {x : α}, (∀ y ∈ l.take j, f y = 0) → l[j]? = some x → f x ≠ 0 → firstErr f l = f x
 | [], j, x, _, h, _ => by simp at h
 | a :: l, 0, x, _, h, hx => by simp at h; subst h; simp [firstErr, hx]
 | a :: l, j + 1, x, h0, h, hx => by
   have h1 := h0 a (by simp)
   simp only [firstErr, h1]
   exact firstErr_at (l := l) (j := j) (fun y hy => h0 y (by simp [hy])) (by simpa using h) hx
theorem freeOf_len (t : Tr) : (freeOf t).length ≤ (listT [] t).length := by
 have h1 : (freeOf t).Nodup := (sortS_sorted (occT [] t)).imp fun {a b} h => by omega
 have h2 := nodup_le h1 (m := occB (fun _ => 0) t) fun x hx => by rw [freeOf_occB] at hx; exact (sortS_mem x _).1 hx
 have h3 := occB_len t (fun _ => 0) []
 simp at h3
 omega
theorem len_tree {e : List Ex} (h : IsTree e) : (listT [] (grow e)).length = e.length := by
 have hp := labs_perm h (isTree_list (grow e)) (grow_list _).symm
 rw [← len_labs e, ← len_labs]; exact hp.length_eq.symm
end Go.CoreX
namespace Go.Proofs.YtgdionbeeodaaaaDoor
open Go Go.Abs Go.CoreX
structure okB (e : List Ex) : Prop where
 eo : okE e
 b : ∀ x ∈ e, x.binds.length + (x.alts.flatMap (·.binds)).length ≤ 4194304
theorem okB.ex {e : List Ex} (h : okB e) : ∀ x ∈ e, (exBinders x).length ≤ 4194304 ∧ x.binds.length + (x.alts.flatMap (·.binds)).length ≤ 4194304 := fun x hx => by
 have h1 := h.b x hx
 refine ⟨?_, h1⟩
 unfold exBinders bindersN
 rw [List.length_append]
 split
 · omega
 · simp only [List.length_nil]; omega
theorem okB.t {e : List Ex} (h : okB e) (hk : kidsIn e) (hne : e ≠ []) : okT (grow e) := okT_grow (fun x hx => ⟨(h.eo.x x hx).b, (h.eo.x x hx).k, (h.eo.x x hx).a, (h.eo.x x hx).ab, h.b x hx⟩) hk _ (grow_mem hne)
theorem hΓcF : ∀ g cs, (g, cs) ∈ Γc → idsL (fun _ => False) cs := fun g cs h => by
 simp [Γc] at h
 first
   | (obtain ⟨rfl, rfl⟩ := h; simp [arC, arityL]; done)
   | (rcases h with ⟨rfl, rfl⟩ | ⟨rfl, rfl⟩ <;> simp [arC, orC, arityL])
set_option maxHeartbeats 1000000 in
theorem Body_ok (e : List Ex) (he : okB e) (params : List Int) (hp : params.length ≤ 1048576) (flat : Bool) :
   APure Tryd.prog Γc 45 [.one (.sl 5 (e.map cEx)), .one (.sl 1 (params.map cI)), .one (.lit (.bool flat))] (.one (int (body e params flat))) := by
 have hel := he.eo.l
 intro ou
 refine AFn.walk 62 tabOk Tryd.func45 rfl (by kernel_rfl) rfl rfl fun hou => ?_
 refine zA ?_
 refine AOps.freeze1 (.l 0) 3 rfl rfl ?_
 refine zca hΓc (treeError_ok hΓc e he.eo) hou ?_
 refine zA ?_
 refine ACode.cond rfl (fun hb => ?_) (fun hb => ?_)
 · have hb' : treeErr e ≠ 0 := by simpa using hb
   refine zA ?_
   refine APure.fin rfl (WkF.ofEq ?_) (by simp) hou rfl
   unfold body
   rw [if_pos hb']
 have h1 : treeErr e = 0 := by simpa using hb
 clear hb
 obtain ⟨t1, t2, t3⟩ := (treeErr_iff e).1 h1
 have hn : body e params flat = if firstErr (nodeErrF flat e) e ≠ 0 then firstErr (nodeErrF flat e) e else if hasDup (params ++ allBinders e) = true then 7 else if (freeOf (grow e)).all (fun n => params.contains n) = true then 0 else 6 := by
   unfold body; rw [if_neg (by simpa using h1)]
 refine zA ?_
 refine ACode.loopR hΓc (α := Nat) (fun j => [(20, .one (int j)), (19, .one (int (e.map cEx).length)), (18, .one (.sl 5 (e.map cEx))), (3, .one (.box [.sl 5 (e.map cEx)])), (2, .one (.lit (.bool flat))), (1, .one (.sl 1 (params.map cI)))])
   (fun j => ⟨0, [], ou⟩) (fun m j => j ≤ e.length ∧ (∀ x ∈ e.take j, nodeErrF flat e x = 0) ∧ m = e.length - j) (a0 := 0) (ρ := id) ⟨by omega, by simp, rfl⟩ (LessR.of rfl (by (repeat' first | exact FrSub.nil | refine zfc ?_ | refine zfo ?_ | refine zfp ?_)) (by simp) (by repeat' first | exact LoSub.nil | refine zlc ?_ | refine zld ?_ ?_ | rfl) rfl rfl hou) fun m j hj => ?_
 obtain ⟨hjl, hno, rfl⟩ := hj
 refine zA ?_
 refine ACode.cond rfl (fun hb2 => ?_) (fun hb2 => ?_)
 · have hlt : j < e.length := by simpa using hb2
   obtain ⟨x, hx⟩ := get_of_lt hlt
   have hxm := List.mem_of_getElem? hx
   have hxo := he.eo.x x hxm
   have bad : nodeErrF flat e x ≠ 0 → body e params flat = nodeErrF flat e x := fun h => by
     rw [hn, firstErr_at hno hx h, if_pos h]
   have hkk : ∀ k ∈ x.kids, 0 ≤ k ∧ k.toNat < e.length := fun k hk => by have := kids_lt t2.k hxm k hk; omega
   have hcall := nodeError_ok e x hxo hkk
   refine zA ?_
   refine AOps.step1 rfl rfl rfl (AStep.indexAddr tabOk rfl rfl rfl rfl rfl rfl (.inl rfl) rfl (by omega) (map_get hx)) ?_
   cases flat with
   | false =>
     have hE : nodeErrF false e x = if flatOnly x.op = true then 3 else nodeErr e x := by simp [nodeErrF]
     repeat' first | refine zN ?_ | (with_reducible refine oj ?_; refine AOps.splitS rfl rfl rfl rfl (fun hb => ?_) (fun hb => ?_)) | (with_reducible refine ok ?_; first | refine ACode.condS rfl (fun hb => ?_) (fun hb => ?_) | refine ACode.cond rfl (fun hb => ?_) (fun hb => ?_))
     refine zca hΓc (flatOnly_ok x.op) hou ?_
     repeat' first | refine zN ?_ | (with_reducible refine oj ?_; refine AOps.splitS rfl rfl rfl rfl (fun hb => ?_) (fun hb => ?_)) | (with_reducible refine ok ?_; first | refine ACode.condS rfl (fun hb => ?_) (fun hb => ?_) | refine ACode.cond rfl (fun hb => ?_) (fun hb => ?_))
     all_goals try
       (refine APure.fin rfl (WkF.ofEq ?_) (by simp) hou rfl
        rw [bad (by rw [hE, if_pos hb]; decide), hE, if_pos hb]
        done)
     rw [if_neg (by rw [hb]; decide)] at hE
     refine zca hΓc hcall hou ?_
     refine zA ?_
     refine ACode.cond rfl (fun hb3 => ?_) (fun hb3 => ?_)
     · have h3 : nodeErr e x ≠ 0 := by simpa using hb3
       refine zA ?_
       refine APure.fin rfl (WkF.ofEq ?_) (by simp) hou rfl
       rw [bad (by rw [hE]; exact h3), hE]
     · have h3 : nodeErr e x = 0 := by simpa using hb3
       refine zM ?_
       exact cInv ⟨e.length - (j + 1), j + 1, id, by omega, ⟨by omega, take_all hno hx (by rw [hE]; exact h3), rfl⟩, LessR.of rfl (by (repeat' first | exact FrSub.nil | refine zfc ?_ | refine zfo ?_ | refine zfp ?_)) (by simp) (by repeat' first | exact LoSub.nil | refine zlc ?_ | refine zld ?_ ?_ | rfl) rfl rfl hou⟩
   | true =>
     have hE : nodeErrF true e x = if coreOnly x.op = true then 3 else nodeErr e x := by simp [nodeErrF]
     repeat' first | refine zN ?_ | (with_reducible refine oj ?_; refine AOps.splitS rfl rfl rfl rfl (fun hb => ?_) (fun hb => ?_)) | (with_reducible refine ok ?_; first | refine ACode.condS rfl (fun hb => ?_) (fun hb => ?_) | refine ACode.cond rfl (fun hb => ?_) (fun hb => ?_))
     refine zca hΓc (coreOnly_ok x.op) hou ?_
     repeat' first | refine zN ?_ | (with_reducible refine oj ?_; refine AOps.splitS rfl rfl rfl rfl (fun hb => ?_) (fun hb => ?_)) | (with_reducible refine ok ?_; first | refine ACode.condS rfl (fun hb => ?_) (fun hb => ?_) | refine ACode.cond rfl (fun hb => ?_) (fun hb => ?_))
     all_goals try
       (refine APure.fin rfl (WkF.ofEq ?_) (by simp) hou rfl
        rw [bad (by rw [hE, if_pos hb]; decide), hE, if_pos hb]
        done)
     rw [if_neg (by rw [hb]; decide)] at hE
     refine zca hΓc hcall hou ?_
     refine zA ?_
     refine ACode.cond rfl (fun hb3 => ?_) (fun hb3 => ?_)
     · have h3 : nodeErr e x ≠ 0 := by simpa using hb3
       refine zA ?_
       refine APure.fin rfl (WkF.ofEq ?_) (by simp) hou rfl
       rw [bad (by rw [hE]; exact h3), hE]
     · have h3 : nodeErr e x = 0 := by simpa using hb3
       refine zM ?_
       exact cInv ⟨e.length - (j + 1), j + 1, id, by omega, ⟨by omega, take_all hno hx (by rw [hE]; exact h3), rfl⟩, LessR.of rfl (by (repeat' first | exact FrSub.nil | refine zfc ?_ | refine zfo ?_ | refine zfp ?_)) (by simp) (by repeat' first | exact LoSub.nil | refine zlc ?_ | refine zld ?_ ?_ | rfl) rfl rfl hou⟩
 have hlt : j = e.length := by simp at hb2; omega
 subst hlt
 rw [List.take_length] at hno
 rw [if_neg (by rw [Classical.not_not]; exact (firstErr_zero _ _).2 hno)] at hn
 clear hno hb2 hjl
 have hgt := he.t t2.k t2.ne
 refine zA ?_
 refine zca hΓc (twice_ok hΓc e he.eo params hp he.ex) hou ?_
 refine zA ?_
 refine ACode.cond rfl (fun hb => ?_) (fun hb => ?_)
 · refine zA ?_
   refine APure.fin rfl (WkF.ofEq ?_) (by simp) hou rfl
   rw [hn, if_pos hb]
 rw [if_neg (by rw [hb]; decide)] at hn
 refine zA ?_
 refine zca hΓc (Grow_ok hΓc e he.eo t2.k t2.ne) hou ?_
 refine zca hΓc (FreeOf_ok hΓc hΓcF sortOk sortNil (grow e) hgt (by omega) (by rw [len_tree t2]; omega)) hou ?_
 have hfl := freeOf_len (grow e)
 rw [len_tree t2] at hfl
 generalize freeOf (grow e) = fs at hn hfl
 refine zA ?_
 refine ACode.loopR hΓc (α := Nat) (fun j => [(53, .one (int j)), (52, .one (int (fs.map cI).length)), (51, .one (.sl 1 (fs.map cI))), (1, .one (.sl 1 (params.map cI)))])
   (fun j => ⟨0, [], ou⟩) (fun m j => j ≤ fs.length ∧ (∀ x ∈ fs.take j, params.contains x = true) ∧ m = fs.length - j) (a0 := 0) (ρ := id) ⟨by omega, by simp, rfl⟩ (LessR.of rfl (by (repeat' first | exact FrSub.nil | refine zfc ?_ | refine zfo ?_ | refine zfp ?_)) (by simp) (by repeat' first | exact LoSub.nil | refine zlc ?_ | refine zld ?_ ?_ | rfl) rfl rfl hou) fun m j hj => ?_
 obtain ⟨hjl, hno, rfl⟩ := hj
 refine zA ?_
 refine ACode.cond rfl (fun hb2 => ?_) (fun hb2 => ?_)
 · have hlt : j < fs.length := by simpa using hb2
   obtain ⟨k, hk⟩ := get_of_lt hlt
   refine zA ?_
   refine AOps.step1 rfl rfl rfl (AStep.indexAddr tabOk rfl rfl rfl rfl rfl rfl (.inl rfl) rfl (by omega) (map_get hk)) ?_
   refine zA ?_
   refine zca hΓc (Contains_ok hΓc params hp k) hou ?_
   refine zA ?_
   refine ACode.cond rfl (fun hb3 => ?_) (fun hb3 => ?_)
   · refine zA ?_
     refine APure.fin rfl (WkF.ofEq ?_) (by simp) hou rfl
     rw [hn, if_neg]
     rw [List.all_eq_true]
     intro h
     have := h k (List.mem_of_getElem? hk)
     rw [this] at hb3; cases hb3
   · refine zM ?_
     exact cInv ⟨fs.length - (j + 1), j + 1, id, by omega, ⟨by omega, take_all hno hk (by simpa using hb3), rfl⟩, LessR.of rfl (by (repeat' first | exact FrSub.nil | refine zfc ?_ | refine zfo ?_ | refine zfp ?_)) (by simp) (by repeat' first | exact LoSub.nil | refine zlc ?_ | refine zld ?_ ?_ | rfl) rfl rfl hou⟩
 · have hlt : j = fs.length := by simp at hb2; omega
   subst hlt
   rw [List.take_length] at hno
   refine zA ?_
   refine APure.fin rfl (WkF.ofEq ?_) (by simp) hou rfl
   rw [hn, if_pos (List.all_eq_true.2 hno)]
theorem Check_ok (e : List Ex) (he : okB e) : APure Tryd.prog Γc 15 [.one (.sl 5 (e.map cEx))] (.one (int (check e))) := by
 intro ou
 refine AFn.walk 5 tabOk Tryd.func15 rfl (by kernel_rfl) rfl rfl fun hou => ?_
 refine zA ?_
 refine AOps.callCW (ws := [.one (.sl 5 (e.map cEx)), .one (.sl 1 (([] : List Int).map cI)), .one (.lit (.bool false))]) hΓc (Body_ok e he [] (by simp) false) rfl rfl rfl rfl rfl rfl ?_ hou (by simp) ?_
 · exact .cons (.refl _) (.cons (.one (.nilS 1)) (.cons (.refl _) .nil))
 refine zA ?_
 exact APure.fin rfl (WkF.ofEq rfl) (by simp) hou rfl
variable {Γ : List (Nat × List AC)}
theorem SameTree_ok (hΓ : ∀ g cs, (g, cs) ∈ Γ → idsL isO cs) (hΓF : ∀ g cs, (g, cs) ∈ Γ → idsL (fun _ => False) cs) (a b : Tr) (ha : okT a) (hb : okT b) (hs : sameTree a b = true) :
   APure Tryd.prog Γ 52 [.one (.box (cTr a)), .one (.box (cTr b))] (.one (.lit (.bool true))) := by
 intro ou
 refine AFn.walk 9 tabOk Tryd.func52 rfl (by kernel_rfl) rfl rfl fun hou => ?_
 refine zA ?_
 refine AOps.step1 rfl rfl rfl (AStep.makeMap rfl) ?_
 refine AOps.callR [.l 0] [.one (.box (cTr a)), .one (.box (cTr b)), .one (.mp (.o 0))] [.map 0 (encI eN [])] hΓF rfl rfl rfl rfl rfl rfl ?_ ?_ ?_ ?_ ?_ (same_ok hΓ a ha b hb (fun _ => none) 0 [] IMOk.nil hs) ?_
 · simp [subF, FV.sub, AC.sub, nameOf]
   exact ⟨(subL_pure _ _ (by simp)).symm, (subL_pure _ _ (by simp)).symm⟩
 · simp [inO]
 · simp
 · exact ⟨rfl, trivial⟩
 · simp [inO]
 intro r ou' hq
 obtain ⟨rfl, ck', l', rfl, hm⟩ := hq
 refine ⟨[.map ck' (encI eN l')], rfl, rfl, by simp [inO], by simp, ?_⟩
 rw [show FV.sub (nameOf [.l 0]) (.one (.lit (.bool true))) = .one (.lit (.bool true)) from rfl]
 refine zA ?_
 exact APure.fin rfl (WkF.ofEq rfl) (by simp) hou rfl
theorem Same_ok (e f : List Ex) (he : okB e) (hf : okB f) (hs : same e f = true) : APure Tryd.prog Γc 21 [.one (.sl 5 (e.map cEx)), .one (.sl 5 (f.map cEx))] (.one (.lit (.bool true))) := by
 have hs' : (check e = 0 ∧ check f = 0) ∧ sameTree (grow e) (grow f) = true := by simpa [same] using hs
 obtain ⟨⟨h1, h2⟩, h3⟩ := hs'
 have t1 := body_isTree h1
 have t2 := body_isTree h2
 have c1 := Check_ok e he
 have c2 := Check_ok f hf
 rw [h1] at c1
 rw [h2] at c2
 intro ou
 refine AFn.walk 20 tabOk Tryd.func21 rfl (by kernel_rfl) rfl rfl fun hou => ?_
 refine zA ?_
 refine zca hΓc c1 hou ?_
 refine zM ?_
 refine zca hΓc c2 hou ?_
 refine zM ?_
 refine zca hΓc (Grow_ok hΓc e he.eo t1.k t1.ne) hou ?_
 refine zM ?_
 refine zca hΓc (Grow_ok hΓc f hf.eo t2.k t2.ne) hou ?_
 refine zM ?_
 refine zca hΓc (SameTree_ok hΓc hΓcF (grow e) (grow f) (he.t t1.k t1.ne) (hf.t t2.k t2.ne) h3) hou ?_
 refine zM ?_
 exact APure.fin rfl (WkF.ofEq rfl) (by simp) hou rfl
theorem Order_ok (e : List Ex) (he : okB e) : APure Tryd.prog Γc 22 [.one (.sl 5 (e.map cEx))] (.tup [.one (.sl 5 ((order e).1.map cEx)), .one (int (order e).2)]) := by
 intro ou
 refine AFn.walk 13 tabOk Tryd.func22 rfl (by kernel_rfl) rfl rfl fun hou => ?_
 refine zA ?_
 refine zca hΓc (Check_ok e he) hou ?_
 refine zA ?_
 refine ACode.cond rfl (fun hb => ?_) (fun hb => ?_)
 · have h : check e ≠ 0 := by simpa using hb
   have ho : order e = ([], check e) := by unfold order; rw [if_pos h]
   rw [ho]
   refine zA ?_
   exact APure.fin rfl (WkF.tup (.cons (.one (.nilS 5)) (.cons (.refl _) .nil))) (by simp) hou rfl
 · have h : check e = 0 := by simpa using hb
   have ho : order e = (listT [] (grow e), 0) := by unfold order; rw [if_neg (by simpa using h)]
   have t1 := body_isTree h
   have hl : (listT [] (grow e)).length ≤ 1048576 := by rw [len_tree t1]; exact he.eo.l
   rw [ho]
   refine zA ?_
   refine zca hΓc (Grow_ok hΓc e he.eo t1.k t1.ne) hou ?_
   refine zca hΓc (List_ok hΓc (grow e) (he.t t1.k t1.ne) hl) hou ?_
   refine zA ?_
   exact APure.fin rfl (WkF.ofEq rfl) (by simp) hou rfl
theorem SameListR_ok (hΓ : ∀ g cs, (g, cs) ∈ Γ → idsL isO cs) (e : List Ex) (he : okE e) : APure Tryd.prog Γ 24 [.one (.sl 5 (e.map cEx)), .one (.sl 5 (e.map cEx))] (.one (.lit (.bool true))) := by
 have hel := he.l
 intro ou
 refine AFn.walk 136 tabOk Tryd.func24 rfl (by kernel_rfl) rfl rfl fun hou => ?_
 refine zA ?_
 refine ACode.cond rfl (fun hb => absurd hb (by simp)) (fun hb => ?_)
 clear hb
 refine zA ?_
 refine ACode.loopR hΓ (α := Nat) (fun j => [(14, .one (int j)), (13, .one (int (e.map cEx).length)), (1, .one (.sl 5 (e.map cEx))), (0, .one (.sl 5 (e.map cEx)))])
   (fun j => ⟨0, [], ou⟩) (fun m j => j ≤ e.length ∧ m = e.length - j) (a0 := 0) (ρ := id) ⟨by omega, rfl⟩ (LessR.of rfl (by (repeat' first | exact FrSub.nil | refine zfc ?_ | refine zfo ?_ | refine zfp ?_)) (by simp) (by repeat' first | exact LoSub.nil | refine zlc ?_ | refine zld ?_ ?_ | rfl) rfl rfl hou) fun m j hj => ?_
 obtain ⟨hjl, rfl⟩ := hj
 refine zA ?_
 refine ACode.cond rfl (fun hb2 => ?_) (fun hb2 => ?_)
 · have hlt : j < e.length := by simpa using hb2
   obtain ⟨x, hx⟩ := get_of_lt hlt
   have hxo := he.x x (List.mem_of_getElem? hx)
   have hxa := hxo.a
   have s1 := SameInts_ok hΓ x.binds x.binds hxo.b
   have s2 := SameInts_ok hΓ x.kids x.kids hxo.k
   rw [show (x.binds == x.binds) = true by simp] at s1
   rw [show (x.kids == x.kids) = true by simp] at s2
   refine zA ?_
   refine ACode.drawX tabOk 66 [(2, .one (.box (cEx x))), (7, .one (.box (cEx x))), (10, .one (.lit (.bool false))), (14, .one (.box (cEx x))), (19, .one (.box (cEx x))), (22, .one (.lit (.bool false))), (27, .one (.box (cEx x))), (32, .one (.box (cEx x))), (35, .one (.lit (.bool true))), (41, .one (.box (cEx x))), (46, .one (.box (cEx x))), (49, .one (.lit (.bool true))), (55, .one (.box (cEx x))), (61, .one (.box (cEx x))), (65, .one (.lit (.bool false)))] follows (by kernel_rfl) rfl rfl rfl rfl ?_ ?_
   · have ix := map_get (f := cEx) hx
     refine .step rfl (HStep.plain rfl (AStep.indexAddr tabOk rfl rfl rfl rfl rfl rfl (.inl rfl) rfl (by omega) ix)) ?_
     refine .step rfl (HStep.plain rfl (AStep.indexAddr tabOk rfl rfl rfl rfl rfl rfl (.inl rfl) rfl (by omega) ix)) ?_
     refine .step rfl (HStep.litB tabOk rfl (by simp)) ?_
     refine .step rfl (HStep.guarded rfl rfl rfl (AStep.indexAddr tabOk rfl rfl rfl rfl rfl rfl (.inl rfl) rfl (by omega) ix)) ?_
     refine .step rfl (HStep.guarded rfl rfl rfl (AStep.indexAddr tabOk rfl rfl rfl rfl rfl rfl (.inl rfl) rfl (by omega) ix)) ?_
     refine .step rfl (HStep.litB tabOk rfl (by simp)) ?_
     refine .step rfl (HStep.guarded rfl rfl rfl (AStep.indexAddr tabOk rfl rfl rfl rfl rfl rfl (.inl rfl) rfl (by omega) ix)) ?_
     refine .step rfl (HStep.guarded rfl rfl rfl (AStep.indexAddr tabOk rfl rfl rfl rfl rfl rfl (.inl rfl) rfl (by omega) ix)) ?_
     refine .step rfl (HStep.guarded rfl rfl rfl (AStep.callP hΓ rfl rfl rfl rfl (by simp) hou s1)) ?_
     refine .step rfl (HStep.guarded rfl rfl rfl (AStep.indexAddr tabOk rfl rfl rfl rfl rfl rfl (.inl rfl) rfl (by omega) ix)) ?_
     refine .step rfl (HStep.guarded rfl rfl rfl (AStep.indexAddr tabOk rfl rfl rfl rfl rfl rfl (.inl rfl) rfl (by omega) ix)) ?_
     refine .step rfl (HStep.guarded rfl rfl rfl (AStep.callP hΓ rfl rfl rfl rfl (by simp) hou s2)) ?_
     refine .step rfl (HStep.guarded rfl rfl rfl (AStep.indexAddr tabOk rfl rfl rfl rfl rfl rfl (.inl rfl) rfl (by omega) ix)) ?_
     refine .step rfl (HStep.guarded rfl rfl rfl (AStep.indexAddr tabOk rfl rfl rfl rfl rfl rfl (.inl rfl) rfl (by omega) ix)) ?_
     exact .step rfl (HStep.litB tabOk rfl (by simp)) .nil
   refine zA ?_
   refine AOps.step1 rfl rfl rfl (AStep.indexAddr tabOk rfl rfl rfl rfl rfl rfl (.inl rfl) rfl (by omega) (map_get hx)) ?_
   refine zA ?_
   refine ACode.loopR hΓ (α := Nat) (fun i => [(90, .one (int i)), (89, .one (int (x.alts.map cAlt).length)), (5, .one (int j)), (14, .one (int j)), (13, .one (int (e.map cEx).length)), (1, .one (.sl 5 (e.map cEx))), (0, .one (.sl 5 (e.map cEx)))])
     (fun i => ⟨0, [], ou⟩) (fun m i => i ≤ x.alts.length ∧ m = x.alts.length - i) (a0 := 0) (ρ := id) ⟨by omega, rfl⟩ (LessR.of rfl (by (repeat' first | exact FrSub.nil | refine zfc ?_ | refine zfo ?_ | refine zfp ?_)) (by simp) (by repeat' first | exact LoSub.nil | refine zlc ?_ | refine zld ?_ ?_ | rfl) rfl rfl hou) fun m i hi => ?_
   obtain ⟨hil, rfl⟩ := hi
   refine zA ?_
   refine ACode.cond rfl (fun hb3 => ?_) (fun hb3 => ?_)
   · have hlt2 : i < x.alts.length := by simpa using hb3
     obtain ⟨a, ha⟩ := get_of_lt hlt2
     have s3 := SameInts_ok hΓ a.binds a.binds (hxo.ab a (List.mem_of_getElem? ha))
     rw [show (a.binds == a.binds) = true by simp] at s3
     refine zA ?_
     refine ACode.drawX tabOk 40 [(2, .one (.box (cEx x))), (6, .one (.box (cAlt a))), (11, .one (.box (cEx x))), (15, .one (.box (cAlt a))), (18, .one (.lit (.bool false))), (22, .one (.box (cEx x))), (26, .one (.box (cAlt a))), (31, .one (.box (cEx x))), (35, .one (.box (cAlt a))), (38, .one (.lit (.bool true)))] follows (by kernel_rfl) rfl rfl rfl rfl ?_ ?_
     · have ix := map_get (f := cEx) hx
       have ia := map_get (f := cAlt) ha
       refine .step rfl (HStep.plain rfl (AStep.indexAddr tabOk rfl rfl rfl rfl rfl rfl (.inl rfl) rfl (by omega) ix)) ?_
       refine .step rfl (HStep.plain rfl (AStep.indexAddr tabOk rfl rfl rfl rfl rfl rfl (.inl rfl) rfl (by omega) ia)) ?_
       refine .step rfl (HStep.plain rfl (AStep.indexAddr tabOk rfl rfl rfl rfl rfl rfl (.inl rfl) rfl (by omega) ix)) ?_
       refine .step rfl (HStep.plain rfl (AStep.indexAddr tabOk rfl rfl rfl rfl rfl rfl (.inl rfl) rfl (by omega) ia)) ?_
       refine .step rfl (HStep.litB tabOk rfl (by simp)) ?_
       refine .step rfl (HStep.guarded rfl rfl rfl (AStep.indexAddr tabOk rfl rfl rfl rfl rfl rfl (.inl rfl) rfl (by omega) ix)) ?_
       refine .step rfl (HStep.guarded rfl rfl rfl (AStep.indexAddr tabOk rfl rfl rfl rfl rfl rfl (.inl rfl) rfl (by omega) ia)) ?_
       refine .step rfl (HStep.guarded rfl rfl rfl (AStep.indexAddr tabOk rfl rfl rfl rfl rfl rfl (.inl rfl) rfl (by omega) ix)) ?_
       refine .step rfl (HStep.guarded rfl rfl rfl (AStep.indexAddr tabOk rfl rfl rfl rfl rfl rfl (.inl rfl) rfl (by omega) ia)) ?_
       exact .step rfl (HStep.guarded rfl rfl rfl (AStep.callP hΓ rfl rfl rfl rfl (by simp) hou s3)) .nil
     refine zM ?_
     exact cInv ⟨x.alts.length - (i + 1), i + 1, id, by omega, ⟨by omega, rfl⟩, LessR.of rfl (by (repeat' first | exact FrSub.nil | refine zfc ?_ | refine zfo ?_ | refine zfp ?_)) (by simp) (by repeat' first | exact LoSub.nil | refine zlc ?_ | refine zld ?_ ?_ | rfl) rfl rfl hou⟩
   · have hlt2 : i = x.alts.length := by simp at hb3; omega
     subst hlt2
     refine zM ?_
     exact cInv ⟨e.length - (j + 1), j + 1, id, by omega, ⟨by omega, rfl⟩, LessR.of rfl (by (repeat' first | exact FrSub.nil | refine zfc ?_ | refine zfo ?_ | refine zfp ?_)) (by simp) (by repeat' first | exact LoSub.nil | refine zlc ?_ | refine zld ?_ ?_ | rfl) rfl rfl hou⟩
 · have hlt : j = e.length := by simp at hb2; omega
   subst hlt
   refine zA ?_
   exact APure.fin rfl (WkF.ofEq rfl) (by simp) hou rfl
end Go.Proofs.YtgdionbeeodaaaaDoor
namespace Go.Abs
theorem AStep.wk {E : Env} {o : Oper} {fr : Fr} {σ σ' : St} {x y : FV} (h : AStep E o fr σ x σ') (hw : WkF x y) : AStep E o fr σ y σ' :=
 fun F w C tmps hi hf next Q hk => h F w C tmps hi hf next Q fun u w' C' a b c => hk u w' C' a b (hw _ _ _ c)
end Go.Abs
namespace Go.Proofs.YtgdionbeeodaaaaDoor
open Go Go.Abs Go.CoreX
variable {Γ : List (Nat × List AC)}
mutual
def encNd : Tr → List AC
 | .mk o n b k a => [int o, int n, .sl 1 (b.map cI), .any, .sl 2 (a.map cAlt), .sl 1 (encNds k)]
def encNds : List Tr → List (List AC)
 | [] => []
 | t :: ts => [.box (encNd t)] :: encNds ts
end
def cNd (t : Tr) : List AC := [int t.op, int t.n, .sl 1 (t.binds.map cI), .any, .sl 2 (t.alts.map cAlt), .sl 1 (encNds t.kids)]
theorem encNd_eq (t : Tr) : encNd t = cNd t := by cases t; simp [encNd, cNd]
theorem encNds_eq : ∀ l : List Tr, encNds l = l.map fun t => [.box (cNd t)]
 | [] => rfl
 | t :: ts => by simp [encNds, encNds_eq ts, encNd_eq]
theorem encNds_get {l : List Tr} {i : Nat} {t : Tr} (h : l[i]? = some t) : (encNds l)[i]? = some [.box (cNd t)] := by rw [encNds_eq]; simp [h]
mutual
theorem ids_encNd (p : Abs.Id → Prop) : ∀ t : Tr, idsL p (encNd t)
 | .mk o n b k a => by simp [encNd, ids_encNds p k]
theorem ids_encNds (p : Abs.Id → Prop) : ∀ l : List Tr, idsS p (encNds l)
 | [] => by simp [encNds]
 | t :: ts => by simp [encNds, ids_encNd p t, ids_encNds p ts]
end
attribute [simp] ids_encNds
@[simp] theorem ids_cNd (p : Abs.Id → Prop) (t : Tr) : idsL p (cNd t) := by simp [cNd]
@[simp] theorem len_encNds (l : List Tr) : (encNds l).length = l.length := by rw [encNds_eq]; simp
theorem N_ok (op n : Int) (ks : List Tr) : APure Tryd.prog Γ 51 [.one (int op), .one (int n), .one (.sl 1 (encNds ks))] (.one (.box (cNd (.mk op n [] ks [])))) := by
 intro ou
 refine AFn.walk 13 tabOk Tryd.func51 rfl (by kernel_rfl) rfl rfl fun hou => ?_
 iterate 14 (first | ((with_reducible refine oj ?_); refine zau ?_) | (with_reducible refine zst ?_) | ((with_reducible refine cExitMiss ?_ ?_); rfl) | (with_reducible refine ok ?_; first | refine ACode.condT rfl ?_ | refine ACode.condF rfl ?_))
 refine AOps.freeze1 (.l 0) 6 rfl rfl ?_
 refine zA ?_
 refine APure.fin rfl (.one (Wk.box ?_)) (by simp) hou rfl
 exact .cons (.refl _) (.cons (.refl _) (.cons (.nilS 1) (.cons (.any _) (.cons (.nilS 2) (.cons (.refl _) .nil)))))
theorem B_ok (op : Int) (b : List Int) (ks : List Tr) : APure Tryd.prog Γ 19 [.one (int op), .one (.sl 1 (b.map cI)), .one (.sl 1 (encNds ks))] (.one (.box (cNd (.mk op 0 b ks [])))) := by
 intro ou
 refine AFn.walk 13 tabOk Tryd.func19 rfl (by kernel_rfl) rfl rfl fun hou => ?_
 iterate 14 (first | ((with_reducible refine oj ?_); refine zau ?_) | (with_reducible refine zst ?_) | ((with_reducible refine cExitMiss ?_ ?_); rfl) | (with_reducible refine ok ?_; first | refine ACode.condT rfl ?_ | refine ACode.condF rfl ?_))
 refine AOps.freeze1 (.l 0) 6 rfl rfl ?_
 refine zA ?_
 refine APure.fin rfl (.one (Wk.box ?_)) (by simp) hou rfl
 exact .cons (.refl _) (.cons (.refl _) (.cons (.refl _) (.cons (.any _) (.cons (.nilS 2) (.cons (.refl _) .nil)))))
theorem V_ok (hΓ : ∀ g cs, (g, cs) ∈ Γ → idsL isO cs) (n : Int) : APure Tryd.prog Γ 44 [.one (int n)] (.one (.box (cNd (.mk 0 n [] [] [])))) := by
 intro ou
 refine AFn.walk 5 tabOk Tryd.func44 rfl (by kernel_rfl) rfl rfl fun hou => ?_
 refine zA ?_
 refine AOps.callCW (ws := [.one (int 0), .one (int n), .one (.sl 1 (encNds []))]) hΓ (N_ok 0 n []) rfl rfl rfl rfl rfl rfl ?_ hou (by simp) ?_
 · exact .cons (.refl _) (.cons (.refl _) (.cons (.one (.nilS 1)) .nil))
 refine zA ?_
 exact APure.fin rfl (WkF.ofEq rfl) (by simp) hou rfl
def IntoOk (Γ : List (Nat × List AC)) (t : Tr) : Prop := ∀ (ou : Outer) (ko kt : Nat) (out : List Ex), OuOk ou → ou ko = none → ou kt = none → ko ≠ kt → (listT out t).length ≤ 1048576 →
 AFn Tryd.prog Γ 64 [.one (.box (cNd t)), .one (.ptr (.o ko) 0)] (ouS ou ko kt (out.map cEx)) (fun r ou' => r = .one (int (((listT out t).length : Int) - 1)) ∧ ∃ kt', ou kt' = none ∧ ko ≠ kt' ∧ ou' = ouS ou ko kt' ((listT out t).map cEx))
set_option maxHeartbeats 1000000 in
theorem into_ok (hΓ : ∀ g cs, (g, cs) ∈ Γ → idsL isO cs) : ∀ t : Tr, okT t → IntoOk Γ t
 | .mk o n b ks a, hok => by
   obtain ⟨hb, hk, ha, ⟨hab, _⟩, hks⟩ := hok
   have ih : ∀ t ∈ ks, IntoOk Γ t := fun t ht => into_ok hΓ t (okTs_iff.1 hks t ht)
   intro ou ko kt out hou0 ho ht hne hsz
   have hsz2 : (listTs out ks).1.length < 1048576 := by simp only [listT, List.length_append, List.length_singleton] at hsz; omega
   refine AFn.walk 44 tabOk Tryd.func64 rfl (by kernel_rfl) rfl rfl fun hou => ?_
   refine zA ?_
   refine ACode.grow 0 3 3 1 rfl rfl ?_
   refine ACode.loopR hΓ (α := Nat × Nat) (fun c => [(18, .one (int c.1)), (17, .one (int (encNds ks).length)), (16, .one (.sl 1 (encNds ks))), (5, .one (.ptr (.l 0) 0)), (1, .one (.ptr (.o ko) 0))])
     (fun c => ⟨2, [(1, .tok 3 1 c.1), (0, .cells [int o, int n, .sl 1 (b.map cI), .gs 1 ((listTs out (ks.take c.1)).2.map cI) (.l 1), .sl 2 (a.map cAlt)])], ouS ou ko c.2 ((listTs out (ks.take c.1)).1.map cEx)⟩)
     (fun m c => c.1 ≤ ks.length ∧ (ou c.2 = none ∧ ko ≠ c.2) ∧ m = ks.length - c.1) (a0 := (0, kt)) (ρ := id) ⟨by omega, ⟨ht, hne⟩, rfl⟩ (LessR.of rfl (by (repeat' first | exact FrSub.nil | refine zfc ?_ | refine zfo ?_ | refine zfp ?_)) (by simp) ?_ rfl (by simp [listTs]; rfl) hou) fun m c hi => ?_
   · repeat' first | exact LoSub.nil | refine zlc ?_ | refine zld ?_ ?_ | rfl
     all_goals (simp [AObj.ren, renL, AC.ren, listTs]; rfl)
   obtain ⟨i, kt⟩ := c
   obtain ⟨hil, ⟨ht, hne⟩, rfl⟩ := hi
   simp only at hil ht hne
   have hle : (listTs out (ks.take i)).1.length ≤ (listTs out ks).1.length := by
     have := listTs_app (ks.take i) (ks.drop i) out
     rw [List.take_append_drop] at this
     rw [this]; exact listTs_le _ _
   refine zA ?_
   refine ACode.cond rfl (fun hb3 => ?_) (fun hb3 => ?_)
   · have hlt2 : i < ks.length := by simpa using hb3
     obtain ⟨t, ht2⟩ := get_of_lt hlt2
     have hsn := listTs_snoc t (ks.take i) out
     rw [← take_get ht2] at hsn
     have hle2 : (listT (listTs out (ks.take i)).1 t).length ≤ 1048576 := by
       have := listTs_app (ks.take (i + 1)) (ks.drop (i + 1)) out
       rw [List.take_append_drop] at this
       have h2 := listTs_le (ks.drop (i + 1)) (listTs out (ks.take (i + 1))).1
       rw [← this, hsn] at h2
       simp only at h2
       omega
     have hcall := ih t (List.mem_of_getElem? ht2) ou ko kt (listTs out (ks.take i)).1 hou0 ho ht hne hle2
     have hil2 : ((listTs out (ks.take i)).2.map cI).length = i := by rw [List.length_map, listTs_ix_len]; simp; omega
     refine zA ?_
     refine AOps.step1 rfl rfl rfl (AStep.indexAddr tabOk rfl rfl rfl rfl rfl rfl (.inl rfl) rfl (by omega) (encNds_get ht2)) ?_
     refine zA ?_
     refine ACode.drawXR (va := .one (int (((listT (listTs out (ks.take i)).1 t).length : Int) - 1))) tabOk 6 4 []
       (fun σ => ∃ kt', ou kt' = none ∧ ko ≠ kt' ∧ σ = ⟨2, [(1, .tok 3 1 i), (0, .cells [int o, int n, .sl 1 (b.map cI), .gs 1 ((listTs out (ks.take i)).2.map cI) (.l 1), .sl 2 (a.map cAlt)])], ouS ou ko kt' ((listT (listTs out (ks.take i)).1 t).map cEx)⟩)
       follows (by kernel_rfl) rfl rfl rfl rfl rfl ?_ rfl ⟨rfl, rfl⟩ rfl ?_ .nil ?_ ?_
     · rintro σ ⟨kt', h1, h2, rfl⟩; rfl
     · refine AStepR.call hΓ rfl rfl rfl rfl (by simp) (ouS_ok hou0 (by simp)) hcall fun r ou' hq _ _ => ?_
       obtain ⟨rfl, kt', h1, h2, rfl⟩ := hq
       exact ⟨rfl, kt', h1, h2, rfl⟩
     · intro σ _; exact .nil
     rintro σ ⟨kt', h1, h2, rfl⟩
     refine zA ?_
     refine AOps.app tabOk rfl rfl rfl rfl rfl rfl rfl rfl rfl (Base.gs' _ _ _ _ _ (by rfl) hil2.symm) (.sl _ _) rfl ?_ ?_ ?_
     · rw [hil2]; show (i + 1) * 8 ≤ _; omega
     · rw [hil2]; show i + 1 ≤ _; omega
     refine zM ?_
     refine cInv ⟨ks.length - (i + 1), (i + 1, kt'), fun k => if k = 1 then 2 else k, by omega, ⟨by omega, ⟨h1, h2⟩, rfl⟩, LessR.of rfl (by (repeat' first | exact FrSub.nil | refine zfc ?_ | refine zfo ?_ | refine zfp ?_)) (by simp) ?_ rfl (by simp only [hsn]; rfl) (ouS_ok hou0 (by simp))⟩
     repeat' first | exact LoSub.nil | refine zlc ?_ | refine zld ?_ ?_ | rfl
     · simp only [AObj.ren, List.length_append, hil2]; rfl
     · simp only [hsn]; simp only [AObj.ren, renL, AC.ren, ren_cIs, ren_cAlts]; rw [List.map_append]; rfl
   have hlt2 : i = ks.length := by simp at hb3; omega
   subst hlt2
   rw [List.take_length] at *
   refine zA ?_
   have hT : listT out (.mk o n b ks a) = (listTs out ks).1 ++ [⟨o, n, b, (listTs out ks).2, a⟩] := by simp only [listT]
   have hmap : (listTs out ks).1.map cEx ++ [cEx ⟨o, n, b, (listTs out ks).2, a⟩] = (listT out (.mk o n b ks a)).map cEx := by rw [hT, List.map_append]; rfl
   have hw : WkF (.agg [int o, int n, .sl 1 (b.map cI), .gs 1 ((listTs out ks).2.map cI) (.l 1), .sl 2 (a.map cAlt)]) (.agg (cEx ⟨o, n, b, (listTs out ks).2, a⟩)) := WkF.agg (.cons (.refl _) (.cons (.refl _) (.cons (.refl _) (.cons (.gsE rfl) (.cons (.refl _) .nil)))))
   have hko : (bif Nat.beq ko kt then some AObj.dead else ouS ou ko kt ((listTs out ks).1.map cEx) ko) = some (.cells [.gs 5 ((listTs out ks).1.map cEx) (.o kt)]) := by rw [beq_no hne]; exact ouS_o hne _
   refine ACode.drawXH (va := .one (.gs 5 ((listTs out ks).1.map cEx ++ [cEx ⟨o, n, b, (listTs out ks).2, a⟩]) (.l 2))) (σ1 := (St.set ⟨2, [(1, .tok 3 1 ks.length), (0, .cells [int o, int n, .sl 1 (b.map cI), .gs 1 ((listTs out ks).2.map cI) (.l 1), .sl 2 (a.map cAlt)])], ouS ou ko kt ((listTs out ks).1.map cEx)⟩ (.o kt) .dead).push (.tok 53 5 ((listTs out ks).1.map cEx ++ [cEx ⟨o, n, b, (listTs out ks).2, a⟩]).length))
     tabOk 7 6 [(3, .one (.gs 5 ((listTs out ks).1.map cEx) (.o kt))), (4, .agg (cEx ⟨o, n, b, (listTs out ks).2, a⟩))] follows (by kernel_rfl) rfl rfl rfl rfl rfl rfl rfl ?_ ?_ ?_ ?_
   · refine HStep.plain rfl (AStep.append (s := 5) (es := (listTs out ks).1.map cEx) (news := [cEx ⟨o, n, b, (listTs out ks).2, a⟩]) (ti := ti22) (σ := ⟨2, [(1, .tok 3 1 ks.length), (0, .cells [int o, int n, .sl 1 (b.map cI), .gs 1 ((listTs out ks).2.map cI) (.l 1), .sl 2 (a.map cAlt)])], ouS ou ko kt ((listTs out ks).1.map cEx)⟩) tabOk rfl rfl rfl rfl rfl rfl (Base.gs' _ 53 5 _ (.o kt) (ouS_t ou ko kt _) rfl) (.sl _ _) rfl ?_ ?_)
     · simp; show (_ + 1) * 88 ≤ _; omega
     · simp; omega
   · refine .step rfl (HStep.plain rfl (AStep.loadOwn tabOk rfl rfl rfl rfl rfl (ouS_o hne _) rfl)) ?_
     exact .step rfl (HStep.plain rfl (AStep.wk (AStep.ofOp tabOk rfl) hw)) .nil
   · refine .step rfl (HStep.plain rfl (AStep.loadOwn tabOk rfl rfl rfl rfl rfl hko rfl)) ?_
     exact .step rfl (HStep.plain rfl (AStep.wk (AStep.ofOp tabOk rfl) hw)) .nil
   rw [hmap]
   refine zA ?_
   refine AOps.storeOwn (cs := [.gs 5 ((listTs out ks).1.map cEx) (.o kt)]) tabOk rfl rfl rfl rfl rfl rfl rfl hko (by simp) ?_
   refine AOps.cede 2 (show 2 < 3 by omega) fun k hk => ⟨[(1, .one (.ptr (.o ko) 0))], ⟨3, [], ouS ou ko k ((listT out (.mk o n b ks a)).map cEx)⟩, ⟨fun d x hd => ?_, rfl, fun i x hx => ?_⟩, ?_⟩
   · by_cases e : 1 = d
     · subst e
       simp [Fr.get] at hd; subst hd
       exact ⟨_, rfl, WkF.ofEq rfl⟩
     · simp [Fr.get, beq_no e] at hd
   · have hk' : (bif Nat.beq k ko then some (AObj.cells [.gs 5 ((listT out (.mk o n b ks a)).map cEx) (.l 2)]) else bif Nat.beq k kt then some AObj.dead else ouS ou ko kt ((listTs out ks).1.map cEx) k) = none := hk
     have k1 : k ≠ ko := fun e => by subst e; simp at hk'
     rw [beq_no k1] at hk'
     have k2 : k ≠ kt := fun e => by subst e; simp at hk'
     rw [beq_no k2] at hk'
     simp only [cond_false, ouS_w k1 k2] at hk'
     cases i with
     | l m => cases hx
     | o m =>
       have hx' : ouS ou ko k ((listT out (.mk o n b ks a)).map cEx) m = some x := hx
       by_cases e : m = k
       · subst e
         rw [ouS_t] at hx'; cases hx'
         exact ⟨.l 2, _, rfl, rfl, rfl⟩
       · by_cases e2 : m = ko
         · subst e2
           rw [ouS_o e] at hx'; cases hx'
           refine ⟨.o m, .cells [.gs 5 ((listT out (.mk o n b ks a)).map cEx) (.l 2)], ?_, rfl, ?_⟩
           · show (bif Nat.beq m m then _ else _) = _; rw [beq_self]; rfl
           · simp only [AObj.sub, subL, AC.sub]; rw [subS_o _ (by simp)]; rfl
         · rw [ouS_w e2 e] at hx'
           have e3 : m ≠ kt := fun e => by rw [e, ht] at hx'; cases hx'
           refine ⟨.o m, x, ?_, rfl, (AObj.sub_o x (hou0 m x hx')).symm⟩
           show (bif Nat.beq m ko then _ else bif Nat.beq m kt then _ else ouS ou ko kt _ m) = _
           rw [beq_no e2, beq_no e3]
           exact (ouS_w e2 e3 _).trans hx'
   · have hk' : (bif Nat.beq k ko then some (AObj.cells [.gs 5 ((listT out (.mk o n b ks a)).map cEx) (.l 2)]) else bif Nat.beq k kt then some AObj.dead else ouS ou ko kt ((listTs out ks).1.map cEx) k) = none := hk
     have k1 : k ≠ ko := fun e => by subst e; simp at hk'
     rw [beq_no k1] at hk'
     have k2 : k ≠ kt := fun e => by subst e; simp at hk'
     rw [beq_no k2] at hk'
     simp only [cond_false, ouS_w k1 k2] at hk'
     refine zA ?_
     refine AOps.step1 rfl rfl rfl (AStep.loadOwn tabOk rfl rfl rfl rfl rfl (ouS_o (Ne.symm k1) _) rfl) ?_
     refine zM ?_
     refine AFn.fin' rfl (WkF.ofEq ?_) (by simp) (ouS_ok hou0 (by simp)) ⟨rfl, k, hk', Ne.symm k1, rfl⟩
     simp
theorem NodeList_ok (hΓ : ∀ g cs, (g, cs) ∈ Γ → idsL isO cs) (t : Tr) (ht : okT t) (hsz : (listT [] t).length ≤ 1048576) : APure Tryd.prog Γ 39 [.one (.box (cNd t))] (.one (.sl 5 ((listT [] t).map cEx))) := by
 intro ou
 refine AFn.walk 7 tabOk Tryd.func39 rfl (by kernel_rfl) rfl rfl fun hou => ?_
 iterate 11 (first | ((with_reducible refine oj ?_); refine zau ?_) | (with_reducible refine zst ?_) | ((with_reducible refine cExitMiss ?_ ?_); rfl) | (with_reducible refine ok ?_; first | refine ACode.condT rfl ?_ | refine ACode.condF rfl ?_))
 refine ACode.grow 0 0 53 5 rfl rfl ?_
 refine zA ?_
 refine AOps.cede 0 (show 0 < 2 by omega) fun ko hko => ⟨[(4, .one (.box (cNd t))), (3, .one (.ptr (.o ko) 0))],
   ⟨2, [(1, .tok 53 5 0)], updO ou ko (.cells [.gs 5 [] (.l 1)])⟩, ⟨CedFr.get ?_, rfl, fun i x hx => ?_⟩, ?_⟩
 · exact .cons rfl (FV.sub_o _ (by simp)) (.cons rfl rfl .nil)
 · have hko : ou ko = none := hko
   cases i with
   | l m =>
     by_cases e : 1 = m
     · subst e; cases hx; exact ⟨.l 1, _, rfl, rfl, rfl⟩
     · simp [St.get, lookL, beq_no e] at hx
   | o m =>
     have hx' : updO ou ko (.cells [.gs 5 [] (.l 1)]) m = some x := hx
     by_cases e : ko = m
     · subst e; rw [updO_same] at hx'; cases hx'; exact ⟨.l 0, _, rfl, rfl, rfl⟩
     · rw [updO_ne _ e] at hx'
       exact ⟨.o m, x, hx', rfl, (AObj.sub_o x (hou m x hx')).symm⟩
 have hko : ou ko = none := hko
 refine AOps.cede 1 (show 1 < 2 by omega) fun kt hkt => ⟨[(4, .one (.box (cNd t))), (3, .one (.ptr (.o ko) 0))],
   ⟨2, [], ouS ou ko kt (([] : List Ex).map cEx)⟩, ⟨CedFr.get ?_, rfl, fun i x hx => ?_⟩, ?_⟩
 · exact .cons rfl (FV.sub_o _ (by simp)) (.cons rfl rfl .nil)
 · have hkt : updO ou ko (.cells [.gs 5 [] (.l 1)]) kt = none := hkt
   have hkto : ko ≠ kt := fun e => by subst e; rw [updO_same] at hkt; cases hkt
   cases i with
   | l m => cases hx
   | o m =>
     have hx' : ouS ou ko kt (([] : List Ex).map cEx) m = some x := hx
     by_cases e : m = kt
     · subst e; rw [ouS_t] at hx'; cases hx'; exact ⟨.l 1, _, rfl, rfl, rfl⟩
     · by_cases e2 : m = ko
       · subst e2; rw [ouS_o hkto] at hx'; cases hx'
         exact ⟨.o m, .cells [.gs 5 [] (.l 1)], updO_same _ _ _, rfl, rfl⟩
       · rw [ouS_w e2 e] at hx'
         refine ⟨.o m, x, ?_, rfl, (AObj.sub_o x (hou m x hx')).symm⟩
         show updO ou ko (.cells [.gs 5 [] (.l 1)]) m = _
         rw [updO_ne _ (Ne.symm e2)]; exact hx'
 have hkt : updO ou ko (.cells [.gs 5 [] (.l 1)]) kt = none := hkt
 have hot : ko ≠ kt := fun e => by subst e; rw [updO_same] at hkt; cases hkt
 rw [updO_ne _ hot] at hkt
 have hcall := into_ok hΓ t ht ou ko kt [] hou hko hkt hot hsz
 refine AOps.call1 hΓ rfl rfl rfl rfl rfl rfl rfl (by simp) (ouS_ok hou (by simp)) hcall fun r ou' hq hids hou' => ?_
 obtain ⟨rfl, kt', h1, h2, rfl⟩ := hq
 refine zA ?_
 refine AOps.step1 rfl rfl rfl (AStep.loadOwn tabOk rfl rfl rfl rfl rfl (ouS_o h2 _) rfl) ?_
 refine AOps.wk 6 rfl (y := .one (.sl 5 ((listT [] t).map cEx))) (.one (.gsE rfl)) ?_
 refine AOps.lessO ⟨2, [], ou⟩ rfl (fun i o ho => ?_) ?_
 · cases i with
   | l m => cases ho
   | o m =>
     have ho' : ou m = some o := ho
     show ouS ou ko kt' _ m = some o
     have e1 : m ≠ ko := fun e => by rw [e, hko] at ho'; cases ho'
     have e3 : m ≠ kt' := fun e => by rw [← e, ho'] at h1; cases h1
     rw [ouS_w e1 e3]; exact ho'
 refine zA ?_
 exact APure.fin rfl (WkF.ofEq rfl) (by simp) hou rfl
def factA : Tr := .mk 2 0 [1] [.mk 0 1 [] [] []] []
def factB : Tr := .mk 2 0 [2] [.mk 0 2 [] [] []] []
end Go.Proofs.YtgdionbeeodaaaaDoor
namespace Go.CoreX
def treeAt (e : List Ex) (k : Nat) : Tr := (growL e).getD k default
theorem treeAt_node {e : List Ex} (hk : kidsIn e) {i : Nat} {x : Ex} (hx : e[i]? = some x) : treeAt e i = .mk x.op x.n x.binds (x.kids.map fun k => treeAt e k.toNat) x.alts := by
 have hi := (List.getElem?_eq_some_iff.1 hx).1
 have hs : e = e.take i ++ x :: e.drop (i + 1) := by
   obtain ⟨h2, h3⟩ := List.getElem?_eq_some_iff.1 hx
   rw [← h3, ← List.drop_eq_getElem_cons h2, List.take_append_drop]
 have hl : (e.take i).length = i := by simp; omega
 have h1 := growL_at (e.take i) (e.drop (i + 1)) x
 rw [← hs, hl] at h1
 unfold treeAt
 rw [h1]
 simp only [nodeOf, Tr.mk.injEq, true_and, and_true]
 refine List.map_congr_left fun k hkk => ?_
 have hb := hk i x hx k hkk
 have h2 := growL_get (e := e.take i) (l := x :: e.drop (i + 1)) (i := k.toNat) (by rw [hl]; omega)
 rw [← hs] at h2
 exact h2.symm
theorem cnt_pos : ∀ {e : List Ex} {k : Nat}, 0 < cnt e k → ∃ (i : Nat) (x : Ex), e[i]? = some x ∧ (k : Int) ∈ x.kids
 | [], k, h => by simp [cnt] at h
 | x :: e, k, h => by
   simp only [cnt] at h
   by_cases h1 : 0 < x.kids.count (k : Int)
   · exact ⟨0, x, rfl, List.count_pos_iff.1 h1⟩
   · obtain ⟨i, y, h2, h3⟩ := cnt_pos (e := e) (k := k) (by omega)
     exact ⟨i + 1, y, by simpa using h2, h3⟩
theorem up_ind {e : List Ex} (h : IsTree e) {P : Tr → Prop} (h0 : P (grow e)) (h1 : ∀ (t s : Tr), P t → s ∈ t.kids → P s) : ∀ k, k < e.length → P (treeAt e k) := by
 have key : ∀ d k, k < e.length → e.length - k = d → P (treeAt e k) := by
   intro d
   induction d using Nat.strongRecOn with
   | _ d ih =>
     intro k hk hd
     by_cases hl : k + 1 < e.length
     · have hc := (h.c k hk).2 hl
       obtain ⟨i, x, hx, hkx⟩ := cnt_pos (e := e) (k := k) (by omega)
       have hb := h.k i x hx _ hkx
       have hi := (List.getElem?_eq_some_iff.1 hx).1
       have hp := ih (e.length - i) (by omega) i hi rfl
       rw [treeAt_node h.k hx] at hp
       refine h1 _ _ hp ?_
       simp only [Tr.kids_mk, List.mem_map]
       exact ⟨_, hkx, by simp⟩
     · have : k = e.length - 1 := by omega
       subst this
       exact h0
 exact fun k hk => key _ k hk rfl
mutual
theorem sumT_nonneg (g : Lab → Int) (hg : ∀ l, 0 ≤ g l) : ∀ t : Tr, 0 ≤ sumT g t
 | .mk o m b k a => by
   simp only [sumT]
   have h1 := hg ⟨o, m, b, k.map Tr.op, a⟩
   have h2 := sumTs_nonneg g hg k
   omega
theorem sumTs_nonneg (g : Lab → Int) (hg : ∀ l, 0 ≤ g l) : ∀ l : List Tr, 0 ≤ sumTs g l
 | [] => by simp [sumTs]
 | t :: l => by
   simp only [sumTs]
   have h1 := sumT_nonneg g hg t
   have h2 := sumTs_nonneg g hg l
   omega
end
theorem sumT_kid (g : Lab → Int) (hg : ∀ l, 0 ≤ g l) {t s : Tr} (h : s ∈ t.kids) : sumT g s ≤ sumT g t := by
 cases t with
 | mk o m b k a =>
   simp only [Tr.kids_mk] at h
   simp only [sumT, sumTs_eq]
   have h1 := hg ⟨o, m, b, k.map Tr.op, a⟩
   have : sumT g s ≤ (k.map (sumT g)).sum := by
     clear h1
     induction k with
     | nil => cases h
     | cons r k ih =>
       simp only [List.map_cons, List.sum_cons]
       have hr := sumT_nonneg g hg r
       have hk : 0 ≤ (k.map (sumT g)).sum := by
         clear ih h
         induction k with
         | nil => simp
         | cons q k ihk =>
           simp only [List.map_cons, List.sum_cons]
           have := sumT_nonneg g hg q
           omega
       rcases List.mem_cons.1 h with rfl | h
       · omega
       · have := ih h; omega
   omega
theorem okT_kid {t s : Tr} (ht : okT t) (h : s ∈ t.kids) : okT s := by
 cases t with
 | mk o m b k a => exact okTs_iff.1 ht.2.2.2.2 s h
theorem sum_mono (g : Lab → Int) (hg : ∀ l, 0 ≤ g l) {e : List Ex} (h : IsTree e) {k : Nat} (hk : k < e.length) : ((labs (listT [] (treeAt e k))).map g).sum ≤ ((labs e).map g).sum := by
 have h1 := sum_tree g (isTree_list (treeAt e k))
 rw [grow_list] at h1
 rw [h1, sum_tree g h]
 exact up_ind h (P := fun t => sumT g t ≤ sumT g (grow e)) (Int.le_refl _) (fun t s ht hs => Int.le_trans (sumT_kid g hg hs) ht) k hk
theorem sum_ones : ∀ ls : List Lab, (ls.map fun _ => (1 : Int)).sum = ls.length
 | [] => rfl
 | l :: ls => by simp only [List.map_cons, List.sum_cons, sum_ones ls, List.length_cons]; omega
theorem len_sub {e : List Ex} (h : IsTree e) {k : Nat} (hk : k < e.length) : (listT [] (treeAt e k)).length ≤ e.length := by
 have h1 := sum_mono (fun _ => (1 : Int)) (fun _ => by omega) h hk
 rw [sum_ones, sum_ones, len_labs, len_labs] at h1
 omega
theorem count_flat (n : Int) (f : Lab → List Int) : ∀ ls : List Lab, (((ls.flatMap f).count n : Nat) : Int) = (ls.map fun l => (((f l).count n : Nat) : Int)).sum
 | [] => rfl
 | l :: ls => by
   simp only [List.flatMap_cons, List.count_append, List.map_cons, List.sum_cons, ← count_flat n f ls]
   omega
def atErr (e : List Ex) (n : Int) : Int := if check e ≠ 0 then check e else if n < 0 ∨ (e.length : Int) ≤ n then 12 else 0
def freeAt (e : List Ex) (n : Int) : List Int × Int := if atErr e n ≠ 0 then ([], atErr e n) else (freeOf (treeAt e n.toNat), 0)
def cutAt (e : List Ex) (n : Int) : List Ex × Int := if atErr e n ≠ 0 then ([], atErr e n) else (listT [] (treeAt e n.toNat), 0)
def sizeAt (e : List Ex) (n : Int) : Int × Int := if atErr e n ≠ 0 then (0, atErr e n) else ((listT [] (treeAt e n.toNat)).length, 0)
end Go.CoreX
namespace Go.Proofs.YtgdionbeeodaaaaDoor
open Go Go.Abs Go.CoreX
variable {Γ : List (Nat × List AC)}
end Go.Proofs.YtgdionbeeodaaaaDoor
namespace Go.CoreX
mutual
def cntN : Tr → Nat
 | .mk _ _ _ k _ => cntNs k + 1
def cntNs : List Tr → Nat
 | [] => 0
 | t :: l => cntN t + cntNs l
end
mutual
theorem cntN_list : ∀ (t : Tr) (out : List Ex), (listT out t).length = out.length + cntN t
 | .mk o n b k a, out => by
   have := cntNs_list k out
   simp only [listT, cntN, List.length_append, List.length_singleton]; omega
theorem cntNs_list : ∀ (l : List Tr) (out : List Ex), (listTs out l).1.length = out.length + cntNs l
 | [], out => by simp [listTs, cntNs]
 | t :: l, out => by
   have h1 := cntN_list t out
   have h2 := cntNs_list l (listT out t)
   simp only [listTs, cntNs]; omega
end
theorem cntNs_app : ∀ (l r : List Tr), cntNs (l ++ r) = cntNs l + cntNs r
 | [], r => by simp [cntNs]
 | t :: l, r => by simp only [List.cons_append, cntNs, cntNs_app l r]; omega
end Go.CoreX
namespace Go.Proofs.YtgdionbeeodaaaaDoor
open Go Go.Abs Go.CoreX
variable {Γ : List (Nat × List AC)}
theorem treeAt_ok {e : List Ex} (he : okB e) (h : IsTree e) {k : Nat} (hk : k < e.length) : okT (treeAt e k) :=
 up_ind h (P := okT) (he.t h.k h.ne) (fun _ _ ht hs => okT_kid ht hs) k hk
end Go.Proofs.YtgdionbeeodaaaaDoor
namespace Go.CoreX
def scopeE (x : Ex) (k : Int) : List Int := if x.op = 2 ∨ x.op = 5 ∨ (x.op = 4 ∧ k = 1) then x.binds else if (x.op = 7 ∨ x.op = 13) ∧ 0 < k then (x.alts.getD (k - 1).toNat ⟨0, []⟩).binds else []
theorem shape_of {e : List Ex} (h : check e = 0) : ∀ x ∈ e, shape x = true := by
 intro x hx
 unfold check body at h
 by_cases h1 : treeErr e = 0
 · rw [if_neg (by simpa using h1)] at h
   by_cases h2 : firstErr (nodeErrF false e) e = 0
   · have h3 := (firstErr_zero _ e).1 h2 x hx
     unfold nodeErrF at h3
     simp only [Bool.false_and, Bool.not_false, Bool.true_and, Bool.false_or] at h3
     by_cases h4 : flatOnly x.op = true
     · rw [if_pos h4] at h3; cases h3
     · rw [if_neg h4] at h3
       unfold nodeErr at h3
       by_cases h5 : shape x = false
       · rw [if_pos h5] at h3; cases h3
       · simpa using h5
   · rw [if_pos h2] at h; exact absurd h h2
 · rw [if_pos h1] at h; exact absurd h h1
theorem shape_alts {x : Ex} (h : shape x = true) : if x.op = 7 ∨ x.op = 13 then x.kids.length = x.alts.length + 1 else x.alts = [] := by
 unfold shape at h
 split
 · rename_i ho
   rw [if_pos ho] at h
   simp only [altsOk, Bool.and_eq_true, beq_iff_eq] at h
   omega
 · rename_i ho
   rw [if_neg ho] at h
   split at h
   · cases h
   · simp only [Bool.and_eq_true, beq_iff_eq] at h
     exact List.length_eq_zero_iff.1 h.1.2
def upStep (sc : List Int) (out : List Int) (f : Int) : List Int := if sc.contains f = false ∧ out.contains f = false then out ++ [f] else out
def upKid (sc fs out : List Int) : List Int := fs.foldl (upStep sc) out
def upTo (x : Ex) (fs : Nat → List Int) : Nat → List Int
 | 0 => if x.op = 0 then [x.n] else []
 | i + 1 => upKid (scopeE x i) (fs i) (upTo x fs i)
def fsAt (e : List Ex) (x : Ex) (i : Nat) : List Int := freeOf (treeAt e (x.kids.getD i 0).toNat)
end Go.CoreX
namespace Go.Proofs.YtgdionbeeodaaaaDoor
open Go Go.Abs Go.CoreX
variable {Γ : List (Nat × List AC)}
def ow8 (l : List Int) : Option Nat → AC
 | none => .lit (.slice none 0 0)
 | some cap => .arr (.l 0) 1 0 (l.map cI).length cap
def st8 (l : List Int) (ou : Outer) : Option Nat → St
 | none => ⟨0, [], ou⟩
 | some cap => ⟨1, [(0, .cells (vec 1 (l.map cI) cap))], ou⟩
def co8 (l : List Int) : Option Nat → Prop
 | none => l = []
 | some cap => l.length ≤ cap
def p8 : Option Nat → Nat
 | none => 0
 | some cap => cap
def d8 (l : List Int) (ou : Outer) : Option Nat → St
 | none => st8 l ou none
 | some cap => (st8 l ou (some cap)).set (.l 0) .dead
@[simp] theorem ids_ow8 (l l' : List Int) (ou : Outer) (oc : Option Nat) : (ow8 l oc).ids (inL (st8 l' ou oc).n) := by cases oc <;> simp [ow8, st8, AC.ids, inL]
theorem keep8 (l : List Int) (oc : Option Nat) : WkF (.one (ow8 l oc)) ((FV.one (ow8 l oc)).ren id) := by cases oc <;> exact .refl _
theorem FrSub.k8 {fr r : Fr} {k : Nat} {l : List Int} {oc : Option Nat} (h : Fr.get k fr = some (.one (ow8 l oc))) (hr : FrSub id fr r) : FrSub id fr ((k, .one (ow8 l oc)) :: r) := FrSub.cons h (keep8 l oc) hr
theorem FrSub.n8 {ρ : Nat → Nat} {fr r : Fr} {k m n cap : Nat} {l : List Int} (h : Fr.get k fr = some (.one (.arr (.l m) 1 0 n cap))) (hm : m = ρ 0) (hn : n = l.length) (hr : FrSub ρ fr r) : FrSub ρ fr ((k, .one (ow8 l (some cap))) :: r) :=
 FrSub.cons h (.ofEq (by subst hm; subst hn; simp [ow8, FV.ren, AC.ren, Abs.Id.ren])) hr
end Go.Proofs.YtgdionbeeodaaaaDoor
namespace Go.CoreX
def wordlyF (t : Tr) : Bool := t.op == 1 || (t.op == 8 && (decide (t.n ≤ 4) || t.n == 9))
def condLoop : List Alt → Int → Bool
 | [], known => known == 2
 | a :: l, known => if a.tag = -1 then true else if a.tag ≤ 1 ∧ a.binds.length = 0 then condLoop l (known + 1) else if a.tag ≤ 1 then false else condLoop l known
def condF (t : Tr) : Bool := if (t.kids.headD default).op ≠ 8 ∨ ((t.kids.headD default).n ≠ 5 ∧ (t.kids.headD default).n ≠ 6) then false else condLoop t.alts 0
def kid1 (t : Tr) : Tr := t.kids.tail.headD default
def wordsF (t : Tr) : Bool := wordlyF (t.kids.headD default) && (t.kids.length == 1 || wordlyF (kid1 t))
def primF (t : Tr) : Int :=
 if t.n = 7 then 3 else if t.n = 8 ∨ t.n = 11 then 10 else if t.n = 10 then 18 else if t.n = 9 then 2 else
 if t.n = 3 ∨ t.n = 4 then (if wordsF t = true ∧ (kid1 t).op = 1 ∧ (kid1 t).n ≠ 0 then 0 else 2) else
 if wordsF t = true then 0 else 2
def ownF (t : Tr) : Int :=
 if t.op = 17 then 2 else if t.op = 8 then primF t else
 if t.op = 3 then (if (t.kids.headD default).op ≠ 2 ∨ ((t.kids.headD default).binds.length : Int) ≠ t.kids.length - 1 then 63 else 0) else
 if t.op = 7 then (if condF t = true then 0 else 2) else
 if t.op = 10 ∨ t.op = 11 then (if (t.kids.headD default).op ≠ 9 ∨ (t.op = 10 ∧ (t.kids.headD default).binds.contains t.n = false) then 2 else 0) else
 if t.op = 12 then 6 else if t.op = 13 then 63 else 0
structure kidsOk (t : Tr) : Prop where
 p1 : t.op = 8 ∨ t.op = 3 ∨ t.op = 7 ∨ t.op = 10 ∨ t.op = 11 → 1 ≤ t.kids.length
 p2 : t.op = 8 → t.n = 3 ∨ t.n = 4 → 2 ≤ t.kids.length
end Go.CoreX
namespace Go.Proofs.YtgdionbeeodaaaaDoor
open Go Go.Abs Go.CoreX
variable {Γ : List (Nat × List AC)}
end Go.Proofs.YtgdionbeeodaaaaDoor
namespace Go.CoreX
open Go.Abs (orI subI anI)
def ex0 : Ex := ⟨0, 0, [], [], []⟩
def exN (e : List Ex) (i : Nat) : Ex := e.getD i ex0
def shK (e : List Ex) (k : Int) : Tr := .mk (exN e k.toNat).op (exN e k.toNat).n (exN e k.toNat).binds [] []
def shT (e : List Ex) (x : Ex) : Tr := .mk x.op x.n x.binds (x.kids.map (shK e)) x.alts
def purStep (e : List Ex) (x : Ex) (p : List Int) (k : Nat) (kid : Int) (acc : Int) : Int :=
 if x.op = 2 ∨ (x.op = 5 ∧ k < x.binds.length) then acc
 else if x.op = 3 ∧ k = 0 ∧ (exN e kid.toNat).op = 2 then orI acc (p.getD ((exN e kid.toNat).kids.getD 0 0).toNat 0)
 else orI acc (p.getD kid.toNat 0)
def purTo (e : List Ex) (x : Ex) (p : List Int) : Nat → Int
 | 0 => ownF (shT e x)
 | j + 1 => purStep e x p j (x.kids.getD j 0) (purTo e x p j)
def purAt (e : List Ex) : Nat → List Int
 | 0 => List.replicate e.length 0
 | i + 1 => (purAt e i).set i (purTo e (exN e i) (purAt e i) (exN e i).kids.length)
def purOf (e : List Ex) : List Int × Int := if check e ≠ 0 then ([], check e) else (purAt e e.length, 0)
end Go.CoreX
namespace Go.Proofs.YtgdionbeeodaaaaDoor
open Go Go.Abs Go.CoreX
variable {Γ : List (Nat × List AC)}
def shD (e : List Ex) (l : List Int) : List (List AC) := l.map fun k => cB (shK e k)
@[simp] theorem ids_shD (p : Abs.Id → Prop) (e : List Ex) (l : List Int) : idsS p (shD e l) := idsS_map (fun k => by simp [cB]) l
@[simp] theorem ren_shD (ρ : Nat → Nat) (e : List Ex) (l : List Int) : renS ρ (shD e l) = shD e l := renS_pure ρ _ (by simp)
end Go.Proofs.YtgdionbeeodaaaaDoor
namespace Go.CoreX
def factP : Tr := .mk 8 7 [] [.mk 1 1 [] [] []] []
end Go.CoreX
namespace Go.Proofs.YtgdionbeeodaaaaDoor
open Go Go.Abs Go.CoreX
variable {Γ : List (Nat × List AC)}
theorem W_ok (hΓ : ∀ g cs, (g, cs) ∈ Γ → idsL isO cs) (n : Int) : APure Tryd.prog Γ 20 [.one (int n)] (.one (.box (cNd (.mk 1 n [] [] [])))) := by
 intro ou
 refine AFn.walk 5 tabOk Tryd.func20 rfl (by kernel_rfl) rfl rfl fun hou => ?_
 refine zA ?_
 refine AOps.callCW (ws := [.one (int 1), .one (int n), .one (.sl 1 (encNds []))]) hΓ (N_ok 1 n []) rfl rfl rfl rfl rfl rfl ?_ hou (by simp) ?_
 · exact .cons (.refl _) (.cons (.refl _) (.cons (.one (.nilS 1)) .nil))
 refine zA ?_
 exact APure.fin rfl (WkF.ofEq rfl) (by simp) hou rfl
end Go.Proofs.YtgdionbeeodaaaaDoor
namespace Go.CoreX
structure CS where
 u : Int → Int
 d : Int → Int
 m : Int → Int
def upF (f : Int → Int) (k v : Int) : Int → Int := fun j => if k = j then v else f j
def visitU (s : CS) (n deep : Int) : CS := ⟨upF s.u n (s.u n + 1), s.d, if s.d n < deep then upF s.m n (s.m n + 1) else s.m⟩
def bindU (d : Int) (s : CS) (l : List Int) : CS := ⟨s.u, l.foldl (fun f n => upF f n d) s.d, s.m⟩
def rep (o : Int) (i : Int) : Bool := o == 2 || (o == 13 && decide (0 < i))
def deepK (o : Int) (i : Nat) (deep : Int) : Int := if rep o i = true then deep + 1 else deep
mutual
def walkU (deep : Int) (s : CS) : Tr → CS
 | .mk o n b k a => walkUs deep o b a 0 (if o = 0 then visitU s n deep else s) k
def walkUs (deep o : Int) (b : List Int) (a : List Alt) (i : Nat) (s : CS) : List Tr → CS
 | [] => s
 | t :: ts => walkUs deep o b a (i + 1) (walkU (deepK o i deep) (bindU (deepK o i deep) s (boundN o b a i)) t) ts
end
def CB (M : Int) (s : CS) : Prop := ∀ k, (0 ≤ s.u k ∧ s.u k ≤ M) ∧ 0 ≤ s.m k ∧ s.m k ≤ M
theorem CB.visit {M : Int} {s : CS} (h : CB M s) (n deep : Int) : CB (M + 1) (visitU s n deep) := fun k => by
 have h1 := h k
 have h2 := h n
 refine ⟨?_, ?_⟩
 · simp only [visitU, upF]; split <;> omega
 · by_cases e : s.d n < deep
   · simp only [visitU, if_pos e, upF]; split <;> omega
   · simp only [visitU, if_neg e]; omega
theorem CB.mono {M M' : Int} {s : CS} (h : CB M s) (hm : M ≤ M') : CB M' s := fun k => by have := h k; omega
mutual
theorem CB.walk : ∀ (t : Tr) {M : Int} {s : CS} (deep : Int), CB M s → CB (M + cntN t) (walkU deep s t)
 | .mk o n b k a, M, s, deep, h => by
   have h1 : CB (M + 1) (if o = 0 then visitU s n deep else s) := by
     split
     · exact h.visit n deep
     · exact h.mono (by omega)
   have h2 := CB.walks k (M := M + 1) deep o b a 0 h1
   simp only [walkU]
   refine h2.mono ?_
   simp only [cntN]; push_cast; omega
theorem CB.walks : ∀ (l : List Tr) {M : Int} {s : CS} (deep o : Int) (b : List Int) (a : List Alt) (i : Nat), CB M s → CB (M + cntNs l) (walkUs deep o b a i s l)
 | [], M, s, deep, o, b, a, i, h => by simpa [walkUs, cntNs] using h
 | t :: l, M, s, deep, o, b, a, i, h => by
   have h1 : CB M (bindU (deepK o i deep) s (boundN o b a i)) := h
   have h2 := CB.walk t (deepK o i deep) h1
   have h3 := CB.walks l deep o b a (i + 1) h2
   simp only [walkUs]
   refine h3.mono ?_
   simp only [cntNs]; push_cast; omega
end
structure UM where
 cu : Nat
 lu : List (Nat × Int × Int)
 cd : Nat
 ld : List (Nat × Int × Int)
 cm : Nat
 lm : List (Nat × Int × Int)
def isVar (n : Int) (l : Lab) : Int := if l.op = 0 ∧ l.n = n then 1 else 0
end Go.CoreX
namespace Go.Proofs.YtgdionbeeodaaaaDoor
open Go Go.Abs Go.CoreX
variable {Γ : List (Nat × List AC)}
def CIs (s : CS) (x : UM) : Prop := BIs s.u x.cu x.lu ∧ BIs s.d x.cd x.ld ∧ BIs s.m x.cm x.lm
def ouU (x : UM) : Outer := ouOf [.cells [.mp (.o 1), .mp (.o 2), .mp (.o 3)], .map x.cu (encI eN x.lu), .map x.cd (encI eN x.ld), .map x.cm (encI eN x.lm)]
def WalkUOk (Γ : List (Nat × List AC)) (t : Tr) : Prop := ∀ (s : CS) (deep M : Int) (x : UM), CB M s → 0 ≤ deep → M + cntN t ≤ 4611686018427387904 → deep + depthT t ≤ 4611686018427387904 → CIs s x →
 AFn Tryd.prog Γ 65 [.one (.ptr (.o 0) 0), .one (.box (cTr t)), .one (int deep)] (ouU x) (fun r ou' => r = .tup [] ∧ ∃ x', ou' = ouU x' ∧ CIs (walkU deep s t) x')
end Go.Proofs.YtgdionbeeodaaaaDoor
namespace Go.CoreX
abbrev Nb := Option (Nat × Nat)
structure LAlt where
 tag : Int
 nb : Nb
 binds : List Int
def LAlt.er (a : LAlt) : Alt := ⟨a.tag, a.binds⟩
inductive LTr where
 | mk (id : Nat) (op n : Int) (nb : Nb) (binds : List Int) (kids : List LTr) (alts : List LAlt)
instance : Inhabited LTr := ⟨.mk 0 0 0 none [] [] []⟩
def LTr.id : LTr → Nat | .mk i _ _ _ _ _ _ => i
def LTr.kids : LTr → List LTr | .mk _ _ _ _ _ k _ => k
mutual
def erT : LTr → Tr
 | .mk _ o n _ b k a => .mk o n b (erTs k) (a.map LAlt.er)
def erTs : List LTr → List Tr
 | [] => []
 | t :: ts => erT t :: erTs ts
end
theorem erTs_eq : ∀ l : List LTr, erTs l = l.map erT
 | [] => rfl
 | t :: l => by simp [erTs, erTs_eq l]
end Go.CoreX
namespace Go.Proofs.YtgdionbeeodaaaaDoor
open Go Go.Abs Go.CoreX
variable {Γ : List (Nat × List AC)}
def bC : Nb → List Int → AC
 | none, l => .sl 1 (l.map cI)
 | some (a, cap), l => .arr (.o a) 1 0 (l.map cI).length cap
def bO : Nb → List Int → List (Nat × AObj)
 | none, _ => []
 | some (a, cap), l => [(a, .cells (vec 1 (l.map cI) cap))]
def lAlt (x : LAlt) : List AC := [int x.tag, bC x.nb x.binds]
def aO (l : List LAlt) : List (Nat × AObj) := l.flatMap fun x => bO x.nb x.binds
def kC (l : List LTr) : List (List AC) := l.map fun t => [.ptr (.o t.id) 0]
def lC : LTr → List AC
 | .mk _ o n nb b k a => [int o, int n, bC nb b, .sl 1 (kC k), .sl 2 (a.map lAlt)]
mutual
def objs : LTr → List (Nat × AObj)
 | .mk i o n nb b k a => (i, .cells [int o, int n, bC nb b, .sl 1 (kC k), .sl 2 (a.map lAlt)]) :: (bO nb b ++ aO a) ++ objss k
def objss : List LTr → List (Nat × AObj)
 | [] => []
 | t :: ts => objs t ++ objss ts
end
abbrev keys (l : List (Nat × AObj)) : List Nat := l.map (·.1)
def Owns (ou : Outer) (l : List (Nat × AObj)) : Prop := ∀ p ∈ l, ou p.1 = some p.2
theorem Owns.app {ou : Outer} {l r : List (Nat × AObj)} : Owns ou (l ++ r) ↔ Owns ou l ∧ Owns ou r := by
 unfold Owns
 constructor
 · exact fun h => ⟨fun p hp => h p (by simp [hp]), fun p hp => h p (by simp [hp])⟩
 · rintro ⟨h1, h2⟩ p hp
   rcases List.mem_append.1 hp with hp | hp
   · exact h1 p hp
   · exact h2 p hp
theorem Owns.frame {ou ou' : Outer} {l : List (Nat × AObj)} (h : Owns ou l) (hf : ∀ j ∈ keys l, ou' j = ou j) : Owns ou' l := fun p hp => (hf p.1 (List.mem_map_of_mem hp)).trans (h p hp)
theorem objss_eq : ∀ l : List LTr, objss l = l.flatMap objs
 | [] => rfl
 | t :: l => by simp [objss, objss_eq l]
theorem objss_app (l r : List LTr) : objss (l ++ r) = objss l ++ objss r := by simp [objss_eq]
theorem id_mem : ∀ t : LTr, t.id ∈ keys (objs t)
 | .mk i o n nb b k a => by simp [objs, LTr.id]
theorem owns_node {ou : Outer} : ∀ {t : LTr}, Owns ou (objs t) → ou t.id = some (.cells (lC t))
 | .mk i o n nb b k a, h => h (i, .cells [int o, int n, bC nb b, .sl 1 (kC k), .sl 2 (a.map lAlt)]) (by simp [objs])
theorem ids_bC (p : Abs.Id → Prop) (hp : ∀ k, p (.o k)) (nb : Nb) (l : List Int) : (bC nb l).ids p := by
 cases nb with
 | none => simp [bC, AC.ids]
 | some x => exact hp _
theorem ids_kC (p : Abs.Id → Prop) (hp : ∀ k, p (.o k)) (l : List LTr) : idsS p (kC l) := idsS_map (f := fun t : LTr => [.ptr (.o t.id) 0]) (fun t => by simp only [idsL, AC.ids, and_true]; exact hp _) l
theorem ids_lAlts (p : Abs.Id → Prop) (hp : ∀ k, p (.o k)) (l : List LAlt) : idsS p (l.map lAlt) := idsS_map (f := lAlt) (fun t => by simp only [lAlt, idsL, AC.ids, and_true, true_and]; exact ids_bC p hp _ _) l
theorem bC_read {Γ : List (Nat × List AC)} {F : Nat → Prop} {w : World} {C C' : Ctx} {σ : St} (hi : Inv Γ F w C σ) (hc : Chg isO w C w C') {nb : Nb} {l : List Int} (ho : Owns σ.ou (bO nb l)) (hp : ∀ k ∈ keys (bO nb l), ∀ a : Addr, a.block = C.blk (.o k) → C'.prot a) {v : Value}
   (hr : R w C (bC nb l) v) : R w C' (.sl 1 (l.map cI)) v := by
 cases nb with
 | none => exact R.chg hc (.sl 1 (l.map cI)) v (ids_cIs _ _) hr
 | some x =>
   obtain ⟨a, cap⟩ := x
   have hg : σ.get (.o a) = some (.cells (vec 1 (l.map cI) cap)) := ho (a, .cells (vec 1 (l.map cI) cap)) (by simp [bO])
   obtain ⟨hok, zs, T, b1, b2, b3, b4⟩ := hi.obj _ _ hg
   simp only [bC, R, Nat.zero_mul] at hr
   refine ⟨some ⟨C.blk (.o a), 0, none⟩, cap, hr.2.1, hr.2.2, .inr ⟨_, rfl, rfl, ?_⟩⟩
   have hl : ∀ x ∈ l.map cI, x.length = 1 := fun x hx => by obtain ⟨n, _, rfl⟩ := List.mem_map.1 hx; rfl
   have hfl := flat_len hl
   have hzl := RV.length b3
   have hfi : idsL isO (l.map cI).flatten := by
     refine idsL_iff.2 fun c hc => ?_
     obtain ⟨e, he, hce⟩ := List.mem_flatten.1 hc
     obtain ⟨n, _, rfl⟩ := List.mem_map.1 he
     simp [cI] at hce; subst hce; trivial
   have hv : RV w C' (l.map cI).flatten (zs.take ((l.map cI).length * 1)) := by
     refine RV.chg hc _ _ hfi ?_
     have := b3.take ((l.map cI).length * 1)
     rwa [vec, List.take_append_of_le_length (by omega), List.take_of_length_le (by omega)] at this
   refine RS.ofVals 0 hl hv fun j v hj => ⟨?_, hp a (by simp [bO]) _ rfl⟩
   have h2 : j < (l.map cI).length * 1 := by have := (List.getElem?_eq_some_iff.1 hj).1; simp at this ⊢; omega
   rw [List.getElem?_take_of_lt h2] at hj
   rw [Nat.zero_add, cell_of_row _ _ _ _ _ _ b1]
   simpa using hj
theorem aC_read {Γ : List (Nat × List AC)} {F : Nat → Prop} {w : World} {C C' : Ctx} {σ : St} (hi : Inv Γ F w C σ) (hc : Chg isO w C w C') : ∀ {l : List LAlt}, Owns σ.ou (aO l) → (∀ k ∈ keys (aO l), ∀ a : Addr, a.block = C.blk (.o k) → C'.prot a) → ∀ ad : Addr,
   RS w C 2 (l.map lAlt) ad → RS w C' 2 ((l.map LAlt.er).map cAlt) ad
 | [], _, _, ad, _ => by simp [RS]
 | x :: l, ho, hp, ad, hr => by
   have e : aO (x :: l) = bO x.nb x.binds ++ aO l := rfl
   rw [e] at ho hp
   obtain ⟨ho1, ho2⟩ := Owns.app.1 ho
   simp only [List.map_cons, RS, lAlt, RL] at hr
   obtain ⟨_, ⟨⟨u, hu, hup, hur⟩, ⟨v, hv, hvp, hvr⟩, _⟩, hrest⟩ := hr
   refine ⟨rfl, ⟨⟨u, hu, hc.prot _ hup, R.chg hc _ u trivial hur⟩, ⟨v, hv, hc.prot _ hvp, ?_⟩, trivial⟩, aC_read hi hc ho2 (fun k hk => hp k (by simp [keys] at hk ⊢; exact .inr hk)) _ hrest⟩
   exact bC_read hi hc ho1 (fun k hk => hp k (by simp [keys] at hk ⊢; exact .inl hk)) hvr
mutual
theorem own_read {Γ : List (Nat × List AC)} {F : Nat → Prop} {w : World} {C C' : Ctx} {σ : St} (hi : Inv Γ F w C σ) (hc : Chg isO w C w C') : ∀ t : LTr, Owns σ.ou (objs t) → (∀ k ∈ keys (objs t), ∀ a : Addr, a.block = C.blk (.o k) → C'.prot a) → RL w C' (cTr (erT t)) ⟨C.blk (.o t.id), 0, none⟩
 | .mk i o n nb b k a, ho, hp => by
   have hg : σ.get (.o i) = some (.cells (lC (.mk i o n nb b k a))) := owns_node (t := .mk i o n nb b k a) ho
   obtain ⟨hok, zs, T, b1, b2, b3, b4⟩ := hi.obj _ _ hg
   have e : objs (.mk i o n nb b k a) = [(i, .cells [int o, int n, bC nb b, .sl 1 (kC k), .sl 2 (a.map lAlt)])] ++ ((bO nb b ++ aO a) ++ objss k) := by simp [objs]
   rw [e] at ho hp
   obtain ⟨_, ho2⟩ := Owns.app.1 ho
   obtain ⟨ho3, hok2⟩ := Owns.app.1 ho2
   obtain ⟨hob, hoa⟩ := Owns.app.1 ho3
   have hpb : ∀ k' ∈ keys (bO nb b), ∀ a : Addr, a.block = C.blk (.o k') → C'.prot a := fun k' hk => hp k' (by simp [keys] at hk ⊢; exact .inr (.inl hk))
   have hpa : ∀ k' ∈ keys (aO a), ∀ a : Addr, a.block = C.blk (.o k') → C'.prot a := fun k' hk => hp k' (by simp [keys] at hk ⊢; exact .inr (.inr (.inl hk)))
   have hpk : ∀ k' ∈ keys (objss k), ∀ a : Addr, a.block = C.blk (.o k') → C'.prot a := fun k' hk => hp k' (by simp [keys] at hk ⊢; exact .inr (.inr (.inr hk)))
   simp only [lC, RV, R] at b3
   obtain ⟨v1, _, rfl, ⟨rfl, _⟩, v2, _, rfl, ⟨rfl, _⟩, v3, _, rfl, h3, v4, _, rfl, ⟨a4, c4, rfl, l4, h4⟩, v5, _, rfl, ⟨a5, c5, rfl, l5, h5⟩, rfl⟩ := b3
   have hrv : RV w C' (cTr (erT (.mk i o n nb b k a))) [.int .i64 o, .int .i64 n, v3, .slice a4 (kC k).length c4, .slice a5 (a.map lAlt).length c5] := by
     simp only [cTr, erT, Tr.op_mk, Tr.n_mk, Tr.binds_mk, Tr.kids_mk, Tr.alts_mk, RV]
     refine ⟨_, _, rfl, by simp [R, Value.oneCell'], _, _, rfl, by simp [R, Value.oneCell'], _, _, rfl, bC_read hi hc hob hpb h3, _, _, rfl, ?_, _, _, rfl, ?_, rfl⟩
     · refine ⟨a4, c4, by simp [kC, erTs_eq], by simpa [kC, erTs_eq] using l4, ?_⟩
       rcases h4 with h4 | ⟨ad, rfl, hs, h4⟩
       · left
         simp only [kC, List.map_eq_nil_iff] at h4
         subst h4; rfl
       · exact .inr ⟨ad, rfl, hs, own_reads hi hc k hok2 hpk ad h4⟩
     · refine ⟨a5, c5, by simp, by simpa using l5, ?_⟩
       rcases h5 with h5 | ⟨ad, rfl, hs, h5⟩
       · left
         simp only [List.map_eq_nil_iff] at h5
         subst h5; rfl
       · exact .inr ⟨ad, rfl, hs, aC_read hi hc hoa hpa ad h5⟩
   refine RL.of_new 0 hrv (fun j v hj => ?_) (fun ad ha => ?_)
   · rw [Nat.zero_add]
     show w.cell? ⟨C.blk (.o i), j, none⟩ = some v
     rw [cell_of_row _ _ _ _ _ _ b1]
     simpa using hj
   · exact hp i (by simp [keys]) _ ha
theorem own_reads {Γ : List (Nat × List AC)} {F : Nat → Prop} {w : World} {C C' : Ctx} {σ : St} (hi : Inv Γ F w C σ) (hc : Chg isO w C w C') : ∀ l : List LTr, Owns σ.ou (objss l) → (∀ k ∈ keys (objss l), ∀ a : Addr, a.block = C.blk (.o k) → C'.prot a) → ∀ ad : Addr, RS w C 1 (kC l) ad → RS w C' 1 (encTrs (erTs l)) ad
 | [], _, _, ad, _ => by simp [erTs, encTrs, RS]
 | t :: l, ho, hp, ad, hr => by
   have e : objss (t :: l) = objs t ++ objss l := rfl
   rw [e] at ho hp
   obtain ⟨ho1, ho2⟩ := Owns.app.1 ho
   simp only [kC, List.map_cons, RS, RL, R] at hr
   obtain ⟨_, ⟨⟨u, hu, hup, _, hur⟩, _⟩, hrest⟩ := hr
   simp only [erTs, encTrs, RS]
   refine ⟨rfl, ⟨⟨u, hu, hc.prot _ hup, ⟨_, hur, rfl, ?_⟩⟩, trivial⟩, own_reads hi hc l ho2 (fun k hk => hp k (by simp [keys] at hk ⊢; exact .inr hk)) _ hrest⟩
   rw [encTr_eq]
   exact own_read hi hc t ho1 fun k hk => hp k (by simp [keys] at hk ⊢; exact .inl hk)
end
mutual
theorem objs_cells : ∀ t : LTr, ∀ p ∈ objs t, ∃ cs, p.2 = .cells cs
 | .mk i o n nb b k a, p, hp => by
   simp only [objs, List.cons_append, List.mem_cons, List.mem_append] at hp
   have hb : ∀ (nb : Nb) (l : List Int), ∀ p ∈ bO nb l, ∃ cs, p.2 = .cells cs := fun nb l p hp => by
     cases nb with
     | none => simp [bO] at hp
     | some x => simp [bO] at hp; subst hp; exact ⟨_, rfl⟩
   rcases hp with rfl | (hp | hp) | hp
   · exact ⟨_, rfl⟩
   · exact hb _ _ p hp
   · unfold aO at hp
     obtain ⟨x, _, hx⟩ := List.mem_flatMap.1 hp
     exact hb _ _ p hx
   · exact objss_cells k p hp
theorem objss_cells : ∀ l : List LTr, ∀ p ∈ objss l, ∃ cs, p.2 = .cells cs
 | [], p, hp => by simp [objss] at hp
 | t :: l, p, hp => by
   simp only [objss, List.mem_append] at hp
   rcases hp with hp | hp
   · exact objs_cells t p hp
   · exact objss_cells l p hp
end
theorem LendF.tree {σ : St} {t : LTr} (h : Owns σ.ou (objs t)) : LendF σ (.one (.ptr (.o t.id) 0)) (.one (.box (cTr (erT t)))) := by
 intro Γ F w C v hi hr
 simp only [RF, R] at hr
 refine ⟨_, hr.2, rfl, own_read hi hi.stillChg t h fun k hk a ha => ?_⟩
 obtain ⟨p, hp, rfl⟩ := List.mem_map.1 hk
 obtain ⟨cs, hcs⟩ := objs_cells t p hp
 show a.block < w.heap.size
 rw [ha]
 exact (AObj.block_lt (hi.obj (.o p.1) p.2 (h p hp)).2 (by rw [hcs]; rfl)).2
def deadL (ou : Outer) (l : List Nat) : Outer := fun j => if j ∈ l then some .dead else ou j
theorem inv_freezeL {Γ : List (Nat × List AC)} {F : Nat → Prop} {w : World} : ∀ (l : List (Nat × AObj)) {C : Ctx} {σ : St}, Inv Γ F w C σ → Owns σ.ou l → (keys l).Nodup → (∀ p ∈ l, ∃ cs, p.2 = .cells cs) →
   ∃ C', Goes F (fun _ => True) w C w C' ∧ Inv Γ F w C' { σ with ou := deadL σ.ou (keys l) } ∧ (∀ i, C'.blk i = C.blk i) ∧ ∀ k ∈ keys l, ∀ a : Addr, a.block = C.blk (.o k) → C'.prot a
 | [], C, σ, hi, _, _, _ => ⟨C, Goes.refl _ _ _ _, by rw [show deadL σ.ou (keys []) = σ.ou from funext fun j => by simp [deadL]]; exact hi, fun _ => rfl, fun k hk => by simp at hk⟩
 | (k, o) :: l, C, σ, hi, ho, hn, hc => by
   obtain ⟨cs, rfl⟩ : ∃ cs, o = .cells cs := hc (k, o) (by simp)
   simp only [keys, List.map_cons, List.nodup_cons] at hn
   have hg : σ.get (.o k) = some (.cells cs) := ho (k, .cells cs) (by simp)
   obtain ⟨h1, h2, h3⟩ := hi.freeze hg
   have ho2 : Owns (σ.set (.o k) .dead).ou l := fun p hp => by
     have hne : p.1 ≠ k := fun e => hn.1 (e ▸ List.mem_map_of_mem hp)
     show (bif Nat.beq p.1 k then some AObj.dead else σ.ou p.1) = some p.2
     rw [beq_no hne]
     exact ho p (by simp [hp])
   obtain ⟨C', g1, g2, g3, g4⟩ := inv_freezeL l h2 ho2 hn.2 fun p hp => hc p (by simp [hp])
   refine ⟨C', h1.trans g1, ?_, fun i => g3 i, fun j hj a ha => ?_⟩
   · have e : ({ σ.set (.o k) .dead with ou := deadL (σ.set (.o k) .dead).ou (keys l) } : St) = { σ with ou := deadL σ.ou (keys ((k, .cells cs) :: l)) } := by
       show St.mk σ.n σ.lo _ = St.mk σ.n σ.lo _
       congr 1
       funext j
       show deadL (fun j => bif Nat.beq j k then some AObj.dead else σ.ou j) (keys l) j = _
       unfold deadL
       by_cases e : j = k
       · subst e; simp
       · simp only [beq_no e, cond_false, keys, List.map_cons, List.mem_cons, e, false_or]
     rw [← e]; exact g2
   · simp only [keys, List.map_cons, List.mem_cons] at hj
     rcases hj with rfl | hj
     · exact g1.chg.prot a (.inr ha)
     · exact g4 j hj a ha
theorem AOps.freezeT {E : Env} {ops : Array Oper} {l : List Oper} {K : Cont} {fr : Fr} {σ : St} {t : LTr} (d : Nat) (ho : Owns σ.ou (objs t)) (hn : (keys (objs t)).Nodup) (hd : Fr.get d fr = some (.one (.ptr (.o t.id) 0)))
   (h : AOps E ops l K ((d, .one (.box (cTr (erT t)))) :: fr) { σ with ou := deadL σ.ou (keys (objs t)) }) : AOps E ops l K fr σ := by
 intro F w0 C0 w C tmps hgo hi hf
 obtain ⟨C', g1, g2, g3, g4⟩ := inv_freezeL (objs t) hi ho hn (objs_cells t)
 refine h F w0 C0 w C' tmps (hgo.trans g1.toO) g2 ⟨hf.1, fun k x hk => ?_⟩
 simp only [Fr.get] at hk
 by_cases e : d = k
 · subst e
   simp at hk
   subst hk
   obtain ⟨u, hu, hr⟩ := hf.2 d _ hd
   simp only [RF, R] at hr
   exact ⟨u, hu, _, hr.2, rfl, own_read hi (g1.chg.weaken fun _ _ => trivial) t ho g4⟩
 · rw [beq_no e] at hk
   obtain ⟨u, hu, hr⟩ := hf.2 k x hk
   exact ⟨u, hu, hr.ext g1.chg⟩
end Go.Proofs.YtgdionbeeodaaaaDoor
namespace Go.CoreX
def frB (f : Int) (l : List Int) : List Int := (List.range l.length).map fun i : Nat => f + i
def frN (m : Nm) (f : Int) (l : List Int) : Nm := putsN m l (frB f l)
def frTo (f : Int) (l : List Int) (j : Nat) : List Int := ((List.range j).map fun i : Nat => f + i) ++ l.drop j
theorem frTo_zero (f : Int) (l : List Int) : frTo f l 0 = l := by simp [frTo]
theorem frTo_all (f : Int) (l : List Int) : frTo f l l.length = frB f l := by simp [frTo, frB]
theorem frTo_len (f : Int) (l : List Int) {j : Nat} (h : j ≤ l.length) : (frTo f l j).length = l.length := by simp [frTo]; omega
theorem frTo_get (f : Int) {l : List Int} {j : Nat} {n : Int} (h : l[j]? = some n) : (frTo f l j)[j]? = some n := by
 unfold frTo
 rw [List.getElem?_append_right (by simp)]
 simp [h]
theorem frTo_set (f : Int) {l : List Int} {j : Nat} (h : j < l.length) : (frTo f l j).set j (f + j) = frTo f l (j + 1) := by
 unfold frTo
 rw [List.set_append_right _ _ (by simp)]
 simp only [List.length_map, List.length_range, Nat.sub_self]
 rw [List.drop_eq_getElem_cons h, List.set_cons_zero, List.range_succ, List.map_append, List.append_assoc]
 rfl
theorem frB_len (f : Int) (l : List Int) : (frB f l).length = l.length := by simp [frB]
theorem frB_get {f : Int} {l : List Int} {j : Nat} (h : j < l.length) : (frB f l)[j]? = some (f + j) := by simp [frB, h]
end Go.CoreX
namespace Go.Proofs.YtgdionbeeodaaaaDoor
open Go Go.Abs Go.CoreX
variable {Γ : List (Nat × List AC)}
theorem vecI_eq (l : List Int) (cap : Nat) : vec 1 (l.map cI) cap = l.map int ++ List.replicate (cap - l.length) .any := by
 unfold vec
 have e : (l.map cI).flatten = l.map int := by
   induction l with
   | nil => rfl
   | cons n l ih => simp only [List.map_cons, List.flatten_cons, ih]; rfl
 rw [e]; simp
theorem vecI_get {l : List Int} {cap i : Nat} {v : Int} (h : l[i]? = some v) : (vec 1 (l.map cI) cap)[i]? = some (int v) := by
 rw [vecI_eq, List.getElem?_append_left (by simpa using (List.getElem?_eq_some_iff.1 h).1)]
 simp [h]
theorem vecI_set {l : List Int} {cap i : Nat} (v : Int) (h : i < l.length) : (vec 1 (l.map cI) cap).set i (int v) = vec 1 ((l.set i v).map cI) cap := by
 rw [vecI_eq, vecI_eq, List.set_append_left _ _ (by simpa using h), List.length_set, List.map_set]
theorem vecI_lt {l : List Int} {cap i : Nat} (h : i < l.length) : i < (vec 1 (l.map cI) cap).length := by
 rw [vecI_eq]; simp; omega
theorem OuOk.set {σ : St} {k : Nat} {o : AObj} (h : OuOk σ.ou) (ho : o.ids isO) : OuOk (σ.set (.o k) o).ou := by
 intro j p hj
 have hj' : (bif Nat.beq j k then some o else σ.ou j) = some p := hj
 by_cases e : j = k
 · subst e; simp at hj'; subst hj'; exact ho
 · rw [beq_no e] at hj'; exact h j p hj'
theorem set_ou_same {σ : St} {k : Nat} {o : AObj} : (σ.set (.o k) o).ou k = some o := by show (bif Nat.beq k k then _ else _) = _; simp
theorem set_ou_ne {σ : St} {j k : Nat} {o : AObj} (h : j ≠ k) : (σ.set (.o k) o).ou j = σ.ou j := by show (bif Nat.beq j k then _ else _) = _; rw [beq_no h]; rfl
structure RnS (ou : Outer) (kn km kf : Nat) (nm : Nm) (ck : Nat) (l : List (Nat × Int × Int)) (f : Int) : Prop where
 n : ou kn = some (.cells [.mp (.o km)])
 m : ou km = some (.map ck (encI eN l))
 k : IMOk nm ck l
 f : ou kf = some (.cells [int f])
theorem RnS.ne {ou : Outer} {kn km kf : Nat} {nm : Nm} {ck : Nat} {l : List (Nat × Int × Int)} {f : Int} (h : RnS ou kn km kf nm ck l f) : kn ≠ km ∧ kn ≠ kf ∧ km ≠ kf := by
 refine ⟨fun e => ?_, fun e => ?_, fun e => ?_⟩
 · have := h.n; rw [e, h.m] at this; cases this
 · have := h.n; rw [e, h.f] at this; cases this
 · have := h.m; rw [e, h.f] at this; cases this
def FreshQ (ou : Outer) (kn km kf : Nat) (nm : Nm) (f : Int) (nb : Nb) (b : List Int) (r : FV) (ou' : Outer) : Prop :=
 r = .tup [] ∧ ∃ ck' l', RnS ou' kn km kf (frN nm f b) ck' l' (f + b.length) ∧ Owns ou' (bO nb (frB f b)) ∧ OuOk ou' ∧ ∀ j, j ≠ km → j ≠ kf → j ∉ keys (bO nb b) → ou' j = ou j
theorem fresh_ok (hΓ : ∀ g cs, (g, cs) ∈ Γ → idsL isO cs) (nb : Nb) (b : List Int) (hb : nb = none → b = []) (hl : b.length ≤ 1048576) (ou : Outer) (kn km kf : Nat) (nm : Nm) (ck : Nat) (l : List (Nat × Int × Int)) (f : Int) (h : RnS ou kn km kf nm ck l f)
   (ho : Owns ou (bO nb b)) (hd : ∀ k ∈ keys (bO nb b), k ≠ kn ∧ k ≠ km ∧ k ≠ kf) (hf0 : 0 ≤ f) (hf1 : f + b.length ≤ 4611686018427387904) (hou0 : OuOk ou) :
   AFn Tryd.prog Γ 92 [.one (bC nb b), .one (.ptr (.o kf) 0), .one (.ptr (.o kn) 0)] ou (FreshQ ou kn km kf nm f nb b) := by
 cases nb with
 | none =>
   obtain rfl := hb rfl
   refine AFn.walk 23 tabOk Tryd.func92 rfl (by kernel_rfl) rfl rfl fun hou => ?_
   refine zA ?_
   refine ACode.loopR hΓ (α := Unit) (fun _ => [(7, .one (int 0)), (6, .one (int 0))]) (fun _ => ⟨0, [], ou⟩) (fun m _ => m = 0) (a0 := ()) (ρ := id) rfl (LessR.of rfl (by (repeat' first | exact FrSub.nil | refine zfc ?_ | refine zfo ?_ | refine zfp ?_)) (by simp) .nil rfl rfl hou) fun m a hm => ?_
   refine zA ?_
   refine AFn.fin' rfl (WkF.refl _) (by simp) hou ⟨rfl, ck, l, ?_, by simpa [frB, bO] using ho, hou0, fun _ _ _ _ => rfl⟩
   simpa [frN, putsN] using h
 | some x =>
   obtain ⟨a, cap⟩ := x
   obtain ⟨da1, da2, da3⟩ := hd a (by simp [bO])
   have hoa : ou a = some (.cells (vec 1 (b.map cI) cap)) := ho (a, .cells (vec 1 (b.map cI) cap)) (by simp [bO])
   obtain ⟨dn1, dn2, dn3⟩ := h.ne
   refine AFn.walk 23 tabOk Tryd.func92 rfl (by kernel_rfl) rfl rfl fun hou => ?_
   refine zA ?_
   refine ACode.loopR hΓ (α := Nat × Outer × Nat × List (Nat × Int × Int)) (fun c => [(7, .one (int c.1)), (6, .one (int (b.map cI).length)), (2, .one (.ptr (.o kn) 0)), (1, .one (.ptr (.o kf) 0)), (0, .one (.arr (.o a) 1 0 (b.map cI).length cap))])
     (fun c => ⟨0, [], c.2.1⟩) (fun m c => c.1 ≤ b.length ∧ (RnS c.2.1 kn km kf (putsN nm (b.take c.1) ((frB f b).take c.1)) c.2.2.1 c.2.2.2 (f + c.1) ∧ c.2.1 a = some (.cells (vec 1 ((frTo f b c.1).map cI) cap)) ∧ OuOk c.2.1 ∧ ∀ j, j ≠ km → j ≠ kf → j ≠ a → c.2.1 j = ou j) ∧ m = b.length - c.1)
     (a0 := (0, ou, ck, l)) (ρ := id) ⟨by omega, ⟨by simpa [putsN] using h, by rw [frTo_zero]; exact hoa, hou0, fun _ _ _ _ => rfl⟩, rfl⟩ (LessR.of rfl (by (repeat' first | exact FrSub.nil | refine zfc ?_ | refine zfo ?_ | refine zfp ?_)) (by simp) .nil rfl rfl hou) fun m c hc => ?_
   clear hoa h ho
   obtain ⟨j, ov, ck, l⟩ := c
   obtain ⟨hjl, ⟨hR, ha, hok, hfr⟩, rfl⟩ := hc
   simp only at hjl hR ha hok hfr
   refine zA ?_
   refine ACode.cond rfl (fun hb2 => ?_) (fun hb2 => ?_)
   · have hlt : j < b.length := by simpa using hb2
     obtain ⟨n, hn⟩ := get_of_lt hlt
     have hgn := frTo_get f hn
     refine zA ?_
     refine ACode.drawX tabOk 6 [(0, .one (.mp (.o km))), (3, .one (.ptr (.o a) j)), (4, .one (int n)), (5, .one (int (f + j)))] follows (by kernel_rfl) rfl rfl rfl rfl ?_ ?_
     · refine .step rfl (HStep.plain rfl (AStep.loadOwn tabOk rfl rfl rfl rfl rfl hR.n rfl)) (.step rfl (HStep.plain rfl (idxI tabOk rfl rfl rfl rfl rfl rfl rfl (by simpa using hlt))) ?_)
       refine .step rfl (HStep.plain rfl (AStep.loadOwn tabOk rfl rfl rfl rfl rfl ha (vecI_get hgn))) ?_
       exact .step rfl (HStep.plain rfl (AStep.loadOwn tabOk rfl rfl rfl rfl rfl hR.f rfl)) .nil
     refine AOps.putI eN (v := f + j) rfl rfl rfl Tryd.underlying90 Tryd.underlying3 rfl hR.m rfl rfl hR.k fun ck' l' hm' => ?_
     have e1 := (set_ou_ne (σ := ⟨0, [], ov⟩) (o := .map ck' (encI eN l')) (Ne.symm dn3)).trans hR.f
     have e2 := (set_ou_ne (σ := ⟨0, [], ov⟩) (o := .map ck' (encI eN l')) da2).trans ha
     refine zA ?_
     refine AOps.step1 rfl rfl rfl (AStep.loadOwn tabOk rfl rfl rfl rfl rfl e1 rfl) ?_
     refine AOps.step1 rfl rfl rfl (idxI tabOk rfl rfl rfl rfl rfl rfl rfl (by simpa using hlt)) ?_
     refine AOps.storeOwn tabOk rfl rfl rfl rfl rfl rfl rfl e2 (vecI_lt (by rw [frTo_len f b hjl]; exact hlt)) ?_
     rw [vecI_set _ (by rw [frTo_len f b hjl]; exact hlt), frTo_set f hlt]
     refine zA ?_
     have e3 := (set_ou_ne (σ := St.set ⟨0, [], ov⟩ (.o km) (.map ck' (encI eN l'))) (o := .cells (vec 1 ((frTo f b (j + 1)).map cI) cap)) (Ne.symm da3)).trans e1
     refine AOps.step1 rfl rfl rfl (AStep.loadOwn tabOk rfl rfl rfl rfl rfl e3 rfl) ?_
     refine AOps.step1 rfl rfl rfl (AStep.arith rfl rfl rfl (.inl ⟨rfl, rfl⟩) (inRange_i64 (by omega) (by omega))) ?_
     refine AOps.storeOwn tabOk rfl rfl rfl rfl rfl rfl rfl e3 (by simp) ?_
     refine zM ?_
     refine cInv ⟨b.length - (j + 1), (j + 1, (St.set (St.set (St.set ⟨0, [], ov⟩ (.o km) (.map ck' (encI eN l'))) (.o a) (.cells (vec 1 ((frTo f b (j + 1)).map cI) cap))) (.o kf) (.cells [int (f + j + 1)])).ou, ck', l'), id, by omega, ⟨by omega, ⟨⟨?_, ?_, ?_, ?_⟩, ?_, ?_, fun i h1 h2 h3 => ?_⟩, rfl⟩, LessR.of rfl (by (repeat' first | exact FrSub.nil | refine zfc ?_ | refine zfo ?_ | refine zfp ?_)) (by simp) .nil rfl rfl ?_⟩
     all_goals try dsimp only
     · rw [set_ou_ne dn2, set_ou_ne (Ne.symm da1), set_ou_ne dn1]; exact hR.n
     · rw [set_ou_ne dn3, set_ou_ne (Ne.symm da2), set_ou_same]
     · rw [putsN_succ hn (frB_get hlt)]; exact hm'
     · rw [set_ou_same, show f + ((j + 1 : Nat) : Int) = f + j + 1 by omega]
     · rw [set_ou_ne da3, set_ou_same]
     · exact OuOk.set (OuOk.set (OuOk.set (σ := ⟨0, [], ov⟩) hok (ids_mapN _ _ _)) (ids_vecI _ _ _)) (by simp)
     · rw [set_ou_ne h2, set_ou_ne h3, set_ou_ne h1]; exact hfr i h1 h2 h3
     · exact OuOk.set (OuOk.set (OuOk.set (σ := ⟨0, [], ov⟩) hok (ids_mapN _ _ _)) (ids_vecI _ _ _)) (by simp)
   · have hlt : j = b.length := by simp at hb2; omega
     subst hlt
     refine zA ?_
     refine AFn.fin' rfl (WkF.refl _) (by simp) hok ⟨rfl, ck, l, ?_, ?_, hok, fun i h1 h2 h3 => hfr i h1 h2 (by simpa [bO] using h3)⟩
     · have := hR
       rw [List.take_length, List.take_of_length_le (by rw [frB_len]; omega)] at this
       exact this
     · intro p hp
       simp [bO] at hp
       subst hp
       show ov a = _
       rw [ha, frTo_all]
end Go.Proofs.YtgdionbeeodaaaaDoor
