/- Bound and Binders, walked. -/
import Derived.Test.YtgdionbeeodaaaaDoorB6
namespace Go.Proofs.YtgdionbeeodaaaaDoor
open Go Go.Abs Go.CoreX
set_option maxRecDepth 10000
set_option linter.unusedVariables false
set_option linter.unusedSimpArgs false
variable {Γ : List (Nat × List AC)}
theorem Bound_ok (hΓ : ∀ g cs, (g, cs) ∈ Γ → idsL isO cs) (t : Tr) (k : Int) (hk : -1048576 ≤ k ∧ k ≤ 1048576) (ha : t.alts.length ≤ 1048576) :
    APure Tryd.prog Γ 99 [.one (.box (cTr t)), .one (int k)] (.one (.sl 1 ((boundN t.op t.binds t.alts k).map cI))) := by
  intro ou
  refine AFn.walk 58 tabOk Tryd.func99 rfl (by kernel_rfl) rfl rfl fun hou => ?_
  repeat' first | ((with_reducible refine oj ?_); refine zau ?_) | (with_reducible refine zst ?_) | (with_reducible refine cExitMiss ?_ ?_; rfl) | (with_reducible refine ok ?_; first | refine ACode.condT rfl ?_ | refine ACode.condF rfl ?_) | ((with_reducible refine oj ?_); first | refine zad ?_ | refine zsu ?_ | refine zne ?_ | refine zeq ?_ | refine zmx ?_ | refine zmn ?_ | refine AOps.unG rfl rfl rfl ?_) | (with_reducible refine oj ?_; refine AOps.splitS rfl rfl rfl rfl (fun hb => ?_) (fun hb => ?_)) | (with_reducible refine ok ?_; first | refine ACode.condS rfl (fun hb => ?_) (fun hb => ?_) | refine ACode.cond rfl (fun hb => ?_) (fun hb => ?_))
  all_goals try
    (have h1 : 0 < k := by simp_all
     have h2 : k ≤ t.alts.length := by simp_all
     obtain ⟨a, ha2⟩ := get_of_lt (l := t.alts) (i := (k - 1).toNat) (by omega)
     refine AOps.step1 rfl rfl rfl (AStep.indexAddr tabOk rfl rfl rfl rfl rfl rfl (.inl rfl) rfl (by omega) (map_get ha2)) ?_
     have hb2 : boundN t.op t.binds t.alts k = a.binds := by
       have e1 : t.alts.getD (k - 1).toNat ⟨0, []⟩ = a := by rw [List.getD_eq_getElem?_getD, ha2]; rfl
       unfold boundN
       rw [if_neg (by simp_all), if_pos (by omega), e1]
     rw [hb2]
     repeat' first | ((with_reducible refine oj ?_); refine zau ?_) | (with_reducible refine zst ?_) | (with_reducible refine cExitMiss ?_ ?_; rfl) | (with_reducible refine ok ?_; first | refine ACode.condT rfl ?_ | refine ACode.condF rfl ?_) | ((with_reducible refine oj ?_); first | refine zad ?_ | refine zsu ?_ | refine zne ?_ | refine zeq ?_ | refine zmx ?_ | refine zmn ?_ | refine AOps.unG rfl rfl rfl ?_) | (with_reducible refine oj ?_; refine AOps.splitS rfl rfl rfl rfl (fun hb => ?_) (fun hb => ?_)) | (with_reducible refine ok ?_; first | refine ACode.condS rfl (fun hb => ?_) (fun hb => ?_) | refine ACode.cond rfl (fun hb => ?_) (fun hb => ?_))
     exact APure.fin rfl (WkF.ofEq rfl) (by simp) hou rfl)
  all_goals first
    | (refine APure.fin rfl (WkF.ofEq ?_) (by simp) hou rfl
       simp_all [boundN]
       done)
    | (refine APure.fin rfl (.trans (.one (.nilS 1)) (.ofEq ?_)) (by simp) hou rfl
       simp_all [boundN]
       done)
    | (refine APure.fin rfl (.trans (.one (.nilS 1)) (.ofEq ?_)) (by simp) hou rfl
       simp_all [boundN]
       intros; omega)
/-- The binders of the first alternatives, behind others. -/
def bindTo (pre : List Int) (al : List Alt) (j : Nat) : List Int := pre ++ (al.take j).flatMap (·.binds)
theorem bindTo_succ {pre : List Int} {al : List Alt} {j : Nat} {a : Alt} (h : al[j]? = some a) : bindTo pre al (j + 1) = bindTo pre al j ++ a.binds := by
  simp [bindTo, List.take_add_one, h, List.flatMap_append]
def bindLen (t : Tr) : Nat := t.binds.length + (t.alts.flatMap (·.binds)).length
theorem bindTo_len {pre : List Int} {al : List Alt} (j : Nat) : (bindTo pre al j).length ≤ pre.length + (al.flatMap (·.binds)).length := by
  simp only [bindTo, List.length_append]
  have : ((al.take j).flatMap (·.binds)).length ≤ (al.flatMap (·.binds)).length := by
    conv => rhs; rw [← List.take_append_drop j al, List.flatMap_append, List.length_append]
    omega
  omega
theorem Binders_ok (hΓ : ∀ g cs, (g, cs) ∈ Γ → idsL isO cs) (t : Tr) (hl : bindLen t ≤ 4194304) (ha : t.alts.length ≤ 1048576) :
    APure Tryd.prog Γ 66 [.one (.box (cTr t))] (.one (.sl 1 ((bindersN t.op t.binds t.alts).map cI))) := by
  unfold bindLen at hl
  intro ou
  refine AFn.walk 46 tabOk Tryd.func66 rfl (by kernel_rfl) rfl rfl fun hou => ?_
  iterate 11 (first | ((with_reducible refine oj ?_); refine zau ?_) | (with_reducible refine zst ?_) | (with_reducible refine cExitMiss ?_ ?_; rfl) | (with_reducible refine ok ?_; first | refine ACode.condT rfl ?_ | refine ACode.condF rfl ?_))
  refine ACode.growS 3 3 1 rfl ?_
  have he0 : bindersN t.op t.binds t.alts = bindTo (if t.op = 2 ∨ t.op = 4 ∨ t.op = 5 then t.binds else []) t.alts t.alts.length := by simp [bindersN, bindTo]
  obtain ⟨pre, hpre⟩ : ∃ pre, pre = (if t.op = 2 ∨ t.op = 4 ∨ t.op = 5 then t.binds else []) := ⟨_, rfl⟩
  rw [he0, ← hpre]
  have hpl : pre.length ≤ t.binds.length := by rw [hpre]; split <;> simp
  refine ACode.cutR hΓ (α := Unit) (fun _ => [(3, .one (.gs 1 (pre.map cI) (.l 0))), (0, .one (.box (cTr t)))])
    (fun _ => ⟨1, [(0, .tok 3 1 pre.length)], ou⟩) (fun _ => True) ?_ fun _ _ => ?_
  · repeat' first | ((with_reducible refine oj ?_); refine zau ?_) | (with_reducible refine zst ?_) | (with_reducible refine cExitMiss ?_ ?_; rfl) | (with_reducible refine ok ?_; first | refine ACode.condT rfl ?_ | refine ACode.condF rfl ?_) | ((with_reducible refine oj ?_); first | refine zad ?_ | refine zsu ?_ | refine zne ?_ | refine zeq ?_ | refine zmx ?_ | refine zmn ?_ | refine AOps.unG rfl rfl rfl ?_) | (with_reducible refine oj ?_; refine AOps.splitS rfl rfl rfl rfl (fun hb => ?_) (fun hb => ?_)) | (with_reducible refine ok ?_; first | refine ACode.condS rfl (fun hb => ?_) (fun hb => ?_) | refine ACode.cond rfl (fun hb => ?_) (fun hb => ?_))
    all_goals first
      | (have : pre = t.binds := by simp_all
         subst this
         refine AOps.app tabOk rfl rfl rfl rfl rfl rfl rfl rfl rfl (Base.gs' _ _ _ _ _ (by rfl) (by simp)) (.sl _ _) rfl (by simp; show _ * 8 ≤ _; omega) (by simp; omega) ?_
         repeat' first | ((with_reducible refine oj ?_); refine zau ?_) | (with_reducible refine zst ?_) | (with_reducible refine cExitMiss ?_ ?_; rfl) | (with_reducible refine ok ?_; first | refine ACode.condT rfl ?_ | refine ACode.condF rfl ?_) | ((with_reducible refine oj ?_); first | refine zad ?_ | refine zsu ?_ | refine zne ?_ | refine zeq ?_ | refine zmx ?_ | refine zmn ?_ | refine AOps.unG rfl rfl rfl ?_) | (with_reducible refine oj ?_; refine AOps.splitS rfl rfl rfl rfl (fun hb => ?_) (fun hb => ?_)) | (with_reducible refine ok ?_; first | refine ACode.condS rfl (fun hb => ?_) (fun hb => ?_) | refine ACode.cond rfl (fun hb => ?_) (fun hb => ?_))
         exact cInv ⟨(), fun _ => 1, trivial, LessR.of rfl (FrSub.consGs rfl rfl (by simp) (FrSub.consP rfl (.ofEq rfl) (by simp) .nil)) (by simp) (LoSub.cons rfl (by simp [AObj.ren]; rfl) rfl (by simp) .nil) rfl rfl hou⟩)
      | (have : pre = [] := by simp_all
         subst this
         exact cInv ⟨(), id, trivial, LessR.of rfl (FrSub.consGs rfl rfl (by simp) (FrSub.consP rfl (.ofEq rfl) (by simp) .nil)) (by simp) (by repeat' first | exact LoSub.nil | refine LoSub.cons rfl ?_ rfl (by first | (simp; done) | exact ids_oaO (by simp)) ?_ | rfl | (refine (AObj.ren_pure _ _ ?_).symm; simp; done) | exact (ren_oaO _ _ _ _ fun _ => ids_vec (by simp; done)).symm | (simp [AObj.ren, renL, AC.ren]; done) | (simp [AObj.ren, renL, AC.ren]; rfl)) rfl rfl hou⟩)
  clear hpre he0
  repeat first | ((with_reducible refine oj ?_); refine zau ?_) | (with_reducible refine zst ?_) | (with_reducible refine cExitMiss ?_ ?_; rfl) | (with_reducible refine ok ?_; first | refine ACode.condT rfl ?_ | refine ACode.condF rfl ?_)
  refine ACode.loopR hΓ (α := Nat) (fun j => [(36, .one (int j)), (35, .one (int (t.alts.map cAlt).length)), (34, .one (.sl 2 (t.alts.map cAlt))), (3, .one (.gs 1 ((bindTo pre t.alts j).map cI) (.l 0))), (0, .one (.box (cTr t)))])
    (fun j => ⟨1, [(0, .tok 3 1 (bindTo pre t.alts j).length)], ou⟩) (fun m j => j ≤ t.alts.length ∧ m = t.alts.length - j) (a0 := 0) (ρ := id) ⟨by omega, rfl⟩
    (LessR.of rfl (FrSub.cons rfl (.ofEq rfl) (FrSub.cons rfl (.ofEq rfl) (FrSub.consP rfl (.ofEq rfl) (by simp) (FrSub.consGs (by simp [bindTo]; rfl) rfl (by simp) (FrSub.consP rfl (.ofEq rfl) (by simp) .nil))))) (by simp) (LoSub.cons rfl (by simp [AObj.ren, bindTo]) rfl (by simp) .nil) rfl rfl hou) fun m j hj => ?_
  obtain ⟨hjl, rfl⟩ := hj
  repeat first | ((with_reducible refine oj ?_); refine zau ?_) | (with_reducible refine zst ?_) | (with_reducible refine cExitMiss ?_ ?_; rfl) | (with_reducible refine ok ?_; first | refine ACode.condT rfl ?_ | refine ACode.condF rfl ?_)
  refine ACode.cond rfl (fun hb2 => ?_) (fun hb2 => ?_)
  · have hlt : j < t.alts.length := by simpa using hb2
    obtain ⟨a, ha2⟩ := get_of_lt hlt
    have hbl := bindTo_len (pre := pre) (al := t.alts) (j + 1)
    rw [bindTo_succ ha2] at hbl
    simp only [List.length_append] at hbl
    repeat first | ((with_reducible refine oj ?_); refine zau ?_) | (with_reducible refine zst ?_) | (with_reducible refine cExitMiss ?_ ?_; rfl) | (with_reducible refine ok ?_; first | refine ACode.condT rfl ?_ | refine ACode.condF rfl ?_)
    refine AOps.step1 rfl rfl rfl (AStep.indexAddr tabOk rfl rfl rfl rfl rfl rfl (.inl rfl) rfl (by omega) (map_get ha2)) ?_
    repeat first | ((with_reducible refine oj ?_); refine zau ?_) | (with_reducible refine zst ?_) | (with_reducible refine cExitMiss ?_ ?_; rfl) | (with_reducible refine ok ?_; first | refine ACode.condT rfl ?_ | refine ACode.condF rfl ?_)
    refine AOps.app tabOk rfl rfl rfl rfl rfl rfl rfl rfl rfl (Base.gs' _ _ _ _ _ (by rfl) (by simp)) (.sl _ _) rfl (by simp; show _ * 8 ≤ _; omega) (by simp; omega) ?_
    repeat' first | ((with_reducible refine oj ?_); refine zau ?_) | (with_reducible refine zst ?_) | (with_reducible refine cExitMiss ?_ ?_; rfl) | (with_reducible refine ok ?_; first | refine ACode.condT rfl ?_ | refine ACode.condF rfl ?_) | ((with_reducible refine oj ?_); first | refine zad ?_ | refine zsu ?_ | refine zne ?_ | refine zeq ?_ | refine zmx ?_ | refine zmn ?_ | refine AOps.unG rfl rfl rfl ?_)
    exact cInv ⟨t.alts.length - (j + 1), j + 1, fun _ => 2, by omega, ⟨by omega, rfl⟩, LessR.of rfl (FrSub.cons rfl (.ofEq rfl) (FrSub.cons rfl (.ofEq rfl) (FrSub.consP rfl (.ofEq rfl) (by simp) (FrSub.consGs (by rw [bindTo_succ ha2, List.map_append]; rfl) rfl (by simp) (FrSub.consP rfl (.ofEq rfl) (by simp) .nil))))) (by simp) (LoSub.cons rfl (by simp [AObj.ren, bindTo_succ ha2]; rfl) rfl (by simp) .nil) rfl rfl hou⟩
  · have hlt : j = t.alts.length := by simp at hb2; omega
    subst hlt
    repeat first | ((with_reducible refine oj ?_); refine zau ?_) | (with_reducible refine zst ?_) | (with_reducible refine cExitMiss ?_ ?_; rfl) | (with_reducible refine ok ?_; first | refine ACode.condT rfl ?_ | refine ACode.condF rfl ?_)
    exact APure.fin rfl (.one (.gsE rfl)) (by simp) hou rfl
end Go.Proofs.YtgdionbeeodaaaaDoor
/- Clone, walked. -/
namespace Go.Abs
set_option linter.unusedVariables false
/-- An empty slice that is not nil, to be appended to. -/
theorem AStep.buildSlice0 {E : Env} {o : Oper} {fr : Fr} {σ : St} {t : TypeId} {ti tj : TI} {s : Nat} (hT : TabOk E.P E.T) (ho : o.op = .buildSlice t 0 #[]) (ht : Tab.get t E.T = some ti) (hk : Nat.beq ti.kind 2 = true) (hj : Tab.get ti.elem E.T = some tj) (hs : tj.size = s) :
    AStep E o fr σ (.one (.gs s [] (.l σ.n))) (σ.push (.tok ti.elem s 0)) := by
  intro F w C tmps hi hf next Q hk2
  have hsl := (hT t ti ht).slice (Nat.eq_of_beq_eq_true hk)
  have hsz := (hT _ _ hj).run_sizeOf w
  have hrun : (execOp (Act.eval ⟨tmps, []⟩) o).run E.P w = .ok (.value (.slice (some ⟨w.heap.size, 0, none⟩) 0 0)) (w.alloc (.cells #[] ti.elem)) := by
    unfold execOp
    simp only [ho]
    simp [Instr.buildSlice, run_underlying hsl, hsz, Instr.fill, newRow, Array.range_zero']
  have hno := Ctx.tokd_new C (some (w.heap.size, 0)) (fun _ => False) hi.next
  have he : Ext w C (w.alloc (.cells #[] ti.elem)) (C.tokd (some (w.heap.size, 0)) (fun _ => False)) := ⟨fun a ha => World.cell?_alloc_lt _ _ _ (hi.prot a ha), fun _ h => .inl h, fun i _ ho => Ctx.tokd_old C _ _ ho⟩
  have hadd : Inv E.Γ F (w.alloc (.cells #[] ti.elem)) (C.tokd (some (w.heap.size, 0)) (fun _ => False)) (σ.push (.tok ti.elem s 0)) := by
    refine hi.addObj (o := .tok ti.elem s 0) (d := .l σ.n) (σ.get_push _) he ?_ ?_ ?_ ?_ ?_ hno.1 ?_ ?_
    · simp [Ctx.tokd, Ctx.more, St.push, hi.next]
    · intro k hk; have := hi.base k hk; simp; omega
    · intro a ha
      rcases ha with ha | ha
      · have := hi.prot a ha; simp; omega
      · exact ha.elim
    · intro i p hp g x hb hx; exact heap_alloc_lt w _ hx
    · intro i p hp a hb hlt ha; exact ha.resolve_right id
    · simp only [ObjOk, hno.2]
      refine ⟨#[], heap_alloc_new w _, fun hF => by have := hi.base _ hF; omega, by simp, Nat.le_refl _, by simp [maxLen], fun a ha hp => ?_⟩
      rcases hp with hp | hp
      · have := hi.prot a hp; omega
      · exact hp.elim
    · intro i p g hp hb hb2
      simp only [AObj.block, hno.2, Option.map_some, Option.some.injEq] at hb2
      have := (AObj.block_lt (hi.obj i p hp).2 hb).2
      omega
  unfold Oper.wp
  rw [hrun, Oper.upon_value]
  refine hk2 _ _ _ ⟨Stp.alloc hi.base _ _, he, by simp [Ctx.tokd, Ctx.more], fun a ha => ha.imp id (fun h => h.elim)⟩ hadd ?_
  simp only [RF, R]
  exact ⟨hno.1, .inr ⟨_, 0, rfl, Nat.le_refl _, hno.2, by simp [RS]⟩⟩
/-- A DRAWN REGION in whose head one operation turns the store; how it does is given. -/
theorem ACode.drawXH {E : Env} {id : Nat} {l hd tl : List Oper} {K : Cont} {fr frb fr' : Fr} {σ σ1 : St} {vs : List FV} {va : FV} {oal : Oper} (hT : TabOk E.P E.T) (n al : Nat) (cs : List (Nat × FV)) (hm : E.P.follows .mixedOrders = true) (hB : drawB l n = true) (haln : Nat.ble (al + 1) n = true) (hsp : splitO n l = some (hd, tl)) (hfb : Fr.woO (dsts hd) fr = some frb)
    (hoal : l[al]? = some oal) (hrun : runHeads E l.toArray l frb σ ((al, va) :: cs) 0 hd [] = some vs) (hrun1 : runHeads E l.toArray l frb σ1 ((al, va) :: cs) 0 hd [] = some vs) (hfr : frOf hd vs frb = some fr') (hal : HStep E l.toArray oal (depFr l vs oal ++ frb) σ σ1 va) (hcs : CallsOk E l frb σ vs cs) (hcs1 : CallsOk E l frb σ1 vs cs) (htail : AOps E l.toArray tl K fr' σ1) : ACode E (.region id l.toArray true) K fr σ := by
  obtain ⟨h1, h2⟩ := splitO_eq hsp
  subst h1; subst h2
  have h3 := Fr.woO_eq hfb
  have h4 := frOf_eq hfr
  have hn : n < l.length := by
    simp only [drawB, Bool.and_eq_true, decide_eq_true_eq] at hB
    exact hB.1.1.1.1.1
  have hlast : ((l.take n).zipIdx.all fun x => x.1.after.all fun e => !Region.binds .any e || decide (e.on < x.2)) = true := by
    simp only [drawB, Bool.and_eq_true] at hB
    exact hB.2
  refine ACode.drawAF n al vs _ hm haln hB rfl frb h3 (runHeads_ok2 (n := n) (va := va) hT (fun k o hk hkn => ?_) hoal hal hcs hcs1 _ 0 [] vs rfl (fun i o hi => ?_) hrun hrun1 rfl) (by rw [h4]; exact htail)
  · have := List.all_eq_true.1 hlast (o, k) (by
      rw [List.mem_iff_getElem?]
      exact ⟨k, by rw [List.getElem?_zipIdx, List.getElem?_take_of_lt hkn, hk]; simp⟩)
    exact this
  · have hi2 : i < n := by
      have := (List.getElem?_eq_some_iff.1 hi).1
      simp at this; omega
    rw [List.getElem?_take_of_lt hi2] at hi
    exact ⟨by simpa using hi, by omega⟩
end Go.Abs
namespace Go.Proofs.YtgdionbeeodaaaaDoor
open Go Go.Abs Go.CoreX
set_option maxRecDepth 10000
set_option linter.unusedVariables false
set_option linter.unusedSimpArgs false
variable {Γ : List (Nat × List AC)}
theorem Clone_ok (l : List Int) (hl : l.length ≤ 1048576) : APure Tryd.prog Γ 88 [.one (.sl 1 (l.map cI))] (.one (.sl 1 (l.map cI))) := by
  intro ou
  refine AFn.walk 8 tabOk Tryd.func88 rfl (by kernel_rfl) rfl rfl fun hou => ?_
  repeat first | ((with_reducible refine oj ?_); refine zau ?_) | (with_reducible refine zst ?_) | (with_reducible refine cExitMiss ?_ ?_; rfl) | (with_reducible refine ok ?_; first | refine ACode.condT rfl ?_ | refine ACode.condF rfl ?_)
  refine AOps.nilTest rfl rfl rfl rfl Tryd.underlying35 rfl rfl fun b hb => ?_
  cases b with
  | true =>
    have hz : l = [] := by have := hb rfl; simpa using this
    subst hz
    repeat first | ((with_reducible refine oj ?_); refine zau ?_) | (with_reducible refine zst ?_) | (with_reducible refine cExitMiss ?_ ?_; rfl) | (with_reducible refine ok ?_; first | refine ACode.condT rfl ?_ | refine ACode.condF rfl ?_)
    exact APure.fin rfl (.one (.nilS 1)) (by simp) hou rfl
  | false =>
    repeat first | ((with_reducible refine oj ?_); refine zau ?_) | (with_reducible refine zst ?_) | (with_reducible refine cExitMiss ?_ ?_; rfl) | (with_reducible refine ok ?_; first | refine ACode.condT rfl ?_ | refine ACode.condF rfl ?_)
    refine AOps.step1 rfl rfl rfl (AStep.buildSlice0 tabOk rfl rfl rfl rfl rfl) ?_
    repeat first | ((with_reducible refine oj ?_); refine zau ?_) | (with_reducible refine zst ?_) | (with_reducible refine cExitMiss ?_ ?_; rfl) | (with_reducible refine ok ?_; first | refine ACode.condT rfl ?_ | refine ACode.condF rfl ?_)
    refine AOps.app tabOk rfl rfl rfl rfl rfl rfl rfl rfl rfl (Base.gs' _ _ _ _ _ (by rfl) (by simp)) (.sl _ _) rfl (by simp; show _ * 8 ≤ _; omega) (by simp; omega) ?_
    repeat first | ((with_reducible refine oj ?_); refine zau ?_) | (with_reducible refine zst ?_) | (with_reducible refine cExitMiss ?_ ?_; rfl) | (with_reducible refine ok ?_; first | refine ACode.condT rfl ?_ | refine ACode.condF rfl ?_)
    exact APure.fin rfl (.one (.gsE (by simp))) (by simp) hou rfl
end Go.Proofs.YtgdionbeeodaaaaDoor
/- Maps by numbers, as plain data. No condition. -/
namespace Go.Proofs.YtgdionbeeodaaaaDoor
open Go Go.Abs Go.CoreX
set_option linter.unusedVariables false
set_option linter.unusedSimpArgs false
section
variable {β : Type}
/-- The entries: when each was born, its key, its value. -/
def encI (enc : β → FV) (l : List (Nat × Int × β)) : List (Nat × Value × FV) := l.map fun x => (x.1, .int .i64 x.2.1, enc x.2.2)
structure IMOk (f : Int → Option β) (ck : Nat) (l : List (Nat × Int × β)) : Prop where
  born : ∀ x ∈ l, x.1 < ck
  nb : (l.map (·.1)).Nodup
  look : ∀ k, (l.find? (fun x => x.2.1 == k)).map (·.2.2) = f k
  nk : (l.map (·.2.1)).Nodup
def setF (f : Int → Option β) (k : Int) (v : β) : Int → Option β := fun j => if k = j then some v else f j
theorem IMOk.nil : IMOk (fun _ => none : Int → Option β) 0 [] := ⟨by simp, by simp, fun k => rfl, by simp⟩
variable (enc : β → FV)
theorem keysI (l : List (Nat × Int × β)) : KeysOk (.int .i64) (encI enc l) := by
  intro x hx
  simp only [encI, List.mem_map] at hx
  obtain ⟨y, _, rfl⟩ := hx
  rfl
theorem same_yes (k : Int) : Instr.sameNow (.int .i64) (.int .i64 k) (.int .i64 k) = some true := by simp [Instr.sameNow]
theorem same_no {k j : Int} (h : k ≠ j) : Instr.sameNow (.int .i64) (.int .i64 k) (.int .i64 j) = some false := by simp [Instr.sameNow, h]
theorem mFind_I (k : Int) : ∀ l : List (Nat × Int × β), mFind (.int .i64 k) (encI enc l) = ((l.find? (fun x => x.2.1 == k)).map (·.2.2)).map enc
  | [] => rfl
  | (b, j, t) :: l => by
    have ih := mFind_I k l
    simp only [encI, List.map_cons, mFind, keyDesc, List.find?_cons] at ih ⊢
    by_cases e : j = k
    · subst e
      simp [same_yes]
    · rw [same_no (Ne.symm e), beq_eq_false_iff_ne.2 e]
      exact ih
theorem mFind_ok {f : Int → Option β} {ck : Nat} {l : List (Nat × Int × β)} (h : IMOk f ck l) (k : Int) : mFind (.int .i64 k) (encI enc l) = (f k).map enc := by rw [mFind_I, h.look]
def repl (k : Int) (v : β) (l : List (Nat × Int × β)) : List (Nat × Int × β) := l.map fun x => if x.2.1 = k then (x.1, k, v) else x
theorem mPut_I (k : Int) (v : β) (ck : Nat) : ∀ l : List (Nat × Int × β), (l.map (·.2.1)).Nodup → mPut (.int .i64 k) (enc v) ck (encI enc l) = if k ∈ l.map (·.2.1) then (encI enc (repl k v l), ck) else (encI enc (l ++ [(ck, k, v)]), ck + 1)
  | [], _ => rfl
  | (b, j, t) :: l, hn => by
    simp only [List.map_cons, List.nodup_cons] at hn
    have ih := mPut_I k v ck l hn.2
    simp only [encI, List.map_cons, mPut, keyDesc, List.cons_append] at ih ⊢
    by_cases e : j = k
    · subst e
      rw [same_yes, if_pos (by simp)]
      have : repl j v l = l := by
        unfold repl
        rw [List.map_congr_left (g := id), List.map_id]
        intro x hx
        rw [if_neg]; rfl
        rintro e
        exact hn.1 (e ▸ List.mem_map_of_mem hx)
      have h2 : repl j v ((b, j, t) :: l) = (b, j, v) :: l := by
        have : repl j v ((b, j, t) :: l) = (b, j, v) :: repl j v l := by simp [repl]
        rw [this]; congr 1
      rw [h2]; rfl
    · rw [same_no (Ne.symm e)]
      simp only [ih]
      by_cases hm : k ∈ l.map (·.2.1)
      · rw [if_pos hm, if_pos (by simp [hm])]
        have h2 : repl k v ((b, j, t) :: l) = (b, j, t) :: repl k v l := by simp [repl, e]
        rw [h2]; rfl
      · rw [if_neg hm, if_neg (by simp only [List.mem_cons, not_or]; exact ⟨Ne.symm e, hm⟩)]
theorem IMOk.put {f : Int → Option β} {ck : Nat} {l : List (Nat × Int × β)} (h : IMOk f ck l) (k : Int) (v : β) : ∃ ck' l', mPut (.int .i64 k) (enc v) ck (encI enc l) = (encI enc l', ck') ∧ IMOk (setF f k v) ck' l' := by
  rw [mPut_I enc k v ck l h.nk]
  by_cases hm : k ∈ l.map (·.2.1)
  · rw [if_pos hm]
    refine ⟨_, _, rfl, ?_, ?_, fun j => ?_, ?_⟩
    · intro x hx
      obtain ⟨y, hy, rfl⟩ := List.mem_map.1 hx
      have := h.born y hy
      split <;> exact this
    · have : (repl k v l).map (·.1) = l.map (·.1) := by
        simp only [repl, List.map_map]
        refine List.map_congr_left fun x _ => ?_
        simp only [Function.comp]; split <;> rfl
      rw [this]; exact h.nb
    · have key : ∀ l : List (Nat × Int × β), k ∈ l.map (·.2.1) → ((repl k v l).find? (fun x => x.2.1 == j)).map (·.2.2) = if k = j then some v else (l.find? (fun x => x.2.1 == j)).map (·.2.2) := by
        intro l
        induction l with
        | nil => intro h; simp at h
        | cons y l ih =>
          intro hm
          obtain ⟨b, i, t⟩ := y
          by_cases e : i = k
          · subst e
            have h2 : repl i v ((b, i, t) :: l) = (b, i, v) :: repl i v l := by simp [repl]
            rw [h2, List.find?_cons, List.find?_cons]
            by_cases e2 : i = j
            · subst e2; simp
            · simp only [beq_eq_false_iff_ne.2 e2, if_neg e2]
              by_cases hm2 : i ∈ l.map (·.2.1)
              · rw [ih hm2, if_neg e2]
              · have : repl i v l = l := by
                  unfold repl
                  rw [List.map_congr_left (g := id), List.map_id]
                  intro x hx
                  rw [if_neg]; rfl
                  rintro e
                  exact hm2 (e ▸ List.mem_map_of_mem hx)
                rw [this]
          · have h2 : repl k v ((b, i, t) :: l) = (b, i, t) :: repl k v l := by simp [repl, e]
            have hm2 : k ∈ l.map (·.2.1) := by
              rcases List.mem_cons.1 hm with h3 | h3
              · exact absurd h3.symm e
              · exact h3
            rw [h2, List.find?_cons, List.find?_cons]
            by_cases e2 : i = j
            · subst e2; simp [Ne.symm e]
            · simp only [beq_eq_false_iff_ne.2 e2]
              exact ih hm2
      rw [key l hm]
      unfold setF
      rw [h.look]
    · have : (repl k v l).map (·.2.1) = l.map (·.2.1) := by
        simp only [repl, List.map_map]
        refine List.map_congr_left fun x _ => ?_
        simp only [Function.comp]
        split
        · rename_i e; exact e.symm
        · rfl
      rw [this]; exact h.nk
  · rw [if_neg hm]
    refine ⟨_, _, rfl, ?_, ?_, fun j => ?_, ?_⟩
    · intro x hx
      rcases List.mem_append.1 hx with hx | hx
      · have := h.born x hx; omega
      · simp at hx; subst hx; exact Nat.lt_succ_self _
    · rw [List.map_append, List.nodup_append]
      refine ⟨h.nb, by simp, fun a ha b hb e => ?_⟩
      simp at hb
      obtain ⟨x, hx, rfl⟩ := List.mem_map.1 ha
      have := h.born x hx
      omega
    · rw [List.find?_append]
      unfold setF
      by_cases e : k = j
      · subst e
        rw [if_pos rfl, List.find?_eq_none.2 (fun x hx => by simp; rintro e; exact hm (e ▸ List.mem_map_of_mem hx))]
        simp
      · rw [if_neg e, ← h.look j]
        have : ((k : Int) == j) = false := beq_eq_false_iff_ne.2 e
        cases hf : l.find? (fun x => x.2.1 == j) with
        | none => simp [this]
        | some x => simp
    · rw [List.map_append, List.nodup_append]
      refine ⟨h.nk, by simp, fun a ha b hb e => ?_⟩
      simp at hb
      subst hb
      exact hm (e ▸ ha)
theorem ids_encI (henc : ∀ b p, (enc b).ids p) (p : Abs.Id → Prop) (ck : Nat) (l : List (Nat × Int × β)) : AObj.ids p (.map ck (encI enc l)) := by
  intro x hx
  simp only [encI, List.mem_map] at hx
  obtain ⟨y, _, rfl⟩ := hx
  exact henc _ _
/-- An entry put into a map. -/
theorem AOps.putI {E : Env} {ops : Array Oper} {rest : List Oper} {K : Cont} {o : Oper} {fr : Fr} {σ : St} {t kt et : TypeId} {x i y : Operand} {m : Abs.Id} {ck : Nat} {l : List (Nat × Int × β)} {f : Int → Option β} {k : Int} {v : β} (hgd : o.guard = none) (hd : o.dst = none) (ho : o.op = .mapUpdate t x i y) (hm : E.P.underlying t = some (.map kt et)) (hk : E.P.underlying kt = some (.int .i64))
    (hx : aEval E.Γ fr x = some (.one (.mp m))) (hg : σ.get m = some (.map ck (encI enc l))) (hu : aEval E.Γ fr i = some (.one (int k))) (hy : aEval E.Γ fr y = some (enc v)) (hf : IMOk f ck l)
    (h : ∀ ck' l', IMOk (setF f k v) ck' l' → AOps E ops rest K fr (σ.set m (.map ck' (encI enc l')))) : AOps E ops (o :: rest) K fr σ := by
  obtain ⟨ck', l', h1, h2⟩ := hf.put enc k v
  have hs := AStep.mapUpdate (σ := σ) ho hm hk hx hg hu hy rfl (keysI enc l)
  rw [h1] at hs
  have hrest := h ck' l' h2
  exact AOps.step hgd (by rw [hd]; rfl) hs (by rw [hd]; exact hrest)
/-- A look into a map. -/
theorem AStep.lookI {E : Env} {o : Oper} {fr : Fr} {σ : St} {t kt et : TypeId} {x i : Operand} {m : Abs.Id} {ck : Nat} {l : List (Nat × Int × β)} {f : Int → Option β} {k : Int} {zv : Value} {z v : FV} {cm : Bool} (ho : o.op = .lookup t x i cm) (hm : E.P.underlying t = some (.map kt et)) (hk : E.P.underlying kt = some (.int .i64))
    (hx : aEval E.Γ fr x = some (.one (.mp m))) (hg : σ.get m = some (.map ck (encI enc l))) (hu : aEval E.Γ fr i = some (.one (int k))) (hzv : (E.P.info? et).map (·.zero) = some (some zv)) (hz : ∀ w C, RF w C z zv) (hf : IMOk f ck l) (hv : (match f k with | some b => enc b | none => z) = v) :
    AStep E o fr σ (if cm = true then .tup [v, .one (.lit (.bool (f k).isSome))] else v) σ := by
  have h := AStep.lookupZ (z := z) (v := v) ho hm hk hx hg hu rfl (keysI enc l) hzv hz (by
    rw [mFind_ok enc hf, ← hv]
    cases f k <;> rfl)
  rw [mFind_ok enc hf] at h
  have e : ((f k).map enc).isSome = (f k).isSome := by cases f k <;> rfl
  rw [e] at h
  exact h
end
def eU : Unit → FV := fun _ => .agg []
def eN : Int → FV := fun n => .one (int n)
theorem eU_ids (b : Unit) (p : Abs.Id → Prop) : (eU b).ids p := by simp [eU]
theorem eN_ids (b : Int) (p : Abs.Id → Prop) : (eN b).ids p := by simp [eN]
@[simp] theorem ids_mapU (p : Abs.Id → Prop) (ck : Nat) (l : List (Nat × Int × Unit)) : AObj.ids p (.map ck (encI eU l)) := ids_encI eU eU_ids p ck l
@[simp] theorem ids_mapN (p : Abs.Id → Prop) (ck : Nat) (l : List (Nat × Int × Int)) : AObj.ids p (.map ck (encI eN l)) := ids_encI eN eN_ids p ck l
def hasE {β : Type} (l : List (Nat × Int × β)) (a : Nat) (k : Value) (v : β) : Prop := ∃ x ∈ l, x.1 = a ∧ .int .i64 x.2.1 = k ∧ x.2.2 = v
@[simp] theorem mem_encU (a : Nat) (k : Value) (b : FV) (l : List (Nat × Int × Unit)) : (a, k, b) ∈ encI eU l ↔ b = .agg [] ∧ hasE l a k () := by
  simp only [encI, eU, List.mem_map, Prod.mk.injEq]
  exact ⟨fun ⟨x, h1, h2, h3, h4⟩ => ⟨h4.symm, ⟨x, h1, h2, h3, rfl⟩⟩, fun ⟨h4, ⟨x, h1, h2, h3, _⟩⟩ => ⟨x, h1, h2, h3, h4.symm⟩⟩
@[simp] theorem mem_encN (a : Nat) (k : Value) (b : FV) (l : List (Nat × Int × Int)) : (a, k, b) ∈ encI eN l ↔ ∃ v, hasE l a k v ∧ .one (int v) = b := by
  simp only [encI, eN, List.mem_map, Prod.mk.injEq]
  exact ⟨fun ⟨x, h1, h2, h3, h4⟩ => ⟨_, ⟨x, h1, h2, h3, rfl⟩, h4⟩, fun ⟨v, ⟨x, h1, h2, h3, h5⟩, h4⟩ => ⟨x, h1, h2, h3, by rw [h5]; exact h4⟩⟩
@[simp] theorem ren_mapU (ρ : Nat → Nat) (ck : Nat) (l : List (Nat × Int × Unit)) : AObj.ren ρ (.map ck (encI eU l)) = .map ck (encI eU l) := AObj.ren_pure _ _ (ids_mapU _ ck l)
@[simp] theorem ren_mapN (ρ : Nat → Nat) (ck : Nat) (l : List (Nat × Int × Int)) : AObj.ren ρ (.map ck (encI eN l)) = .map ck (encI eN l) := AObj.ren_pure _ _ (ids_mapN _ ck l)
theorem zeroU (w : World) (C : Ctx) : RF w C (.agg []) (.agg #[]) := ⟨[], rfl, rfl⟩
theorem zeroN (w : World) (C : Ctx) : RF w C (.one (int 0)) (.int .i64 0) := by simp [RF, R, Value.oneCell']
end Go.Proofs.YtgdionbeeodaaaaDoor
/- treeError, walked. -/
namespace Go.Proofs.YtgdionbeeodaaaaDoor
open Go Go.Abs Go.CoreX
set_option maxRecDepth 10000
set_option linter.unusedVariables false
set_option linter.unusedSimpArgs false
variable {Γ : List (Nat × List AC)}
@[simp] theorem ids_ints (p : Abs.Id → Prop) : ∀ l : List Int, idsL p (l.map int)
  | [] => by simp
  | n :: l => by simp [ids_ints p l]
@[simp] theorem ids_intset (p : Abs.Id → Prop) (l : List Int) (i : Nat) (v : Int) : idsL p ((l.map int).set i (int v)) := by
  rw [← List.map_set]; exact ids_ints p _
@[simp] theorem ids_zs (p : Abs.Id → Prop) (v : Value) : ∀ n : Nat, idsL p (List.replicate n (.lit v))
  | 0 => by simp
  | n + 1 => by simp [List.replicate_succ, ids_zs p v n]
theorem idxI {E : Env} {o : Oper} {fr : Fr} {σ : St} {t : TypeId} {ti tj : TI} {x i : Operand} {k : IntKind} {j : Abs.Id} {len cap : Nat} {n : Nat} (hT : TabOk E.P E.T) (ho : o.op = .indexAddr t x i) (ht : Tab.get t E.T = some ti) (hk : Nat.beq ti.kind 2 = true) (hj : Tab.get ti.elem E.T = some tj) (hs : Nat.beq tj.size 1 = true)
    (hx : aEval E.Γ fr x = some (.one (.arr j 1 0 len cap))) (hi' : aEval E.Γ fr i = some (.one (.lit (.int k n)))) (hn : n < len) : AStep E o fr σ (.one (.ptr j n)) σ := by
  have h := AStep.idxOwn (σ := σ) hT ho ht hk hj hs hx hi' hn
  simpa using h
theorem loadI {E : Env} {o : Oper} {fr : Fr} {σ : St} {t : TypeId} {ti : TI} {x : Operand} {j : Abs.Id} {n : Nat} {p : List Int} {v : Int} (hT : TabOk E.P E.T) (ho : o.op = .load t x) (ht : Tab.get t E.T = some ti) (ha : ti.agg = false) (hs : Nat.beq ti.size 1 = true) (hx : aEval E.Γ fr x = some (.one (.ptr j n)))
    (hg : σ.get j = some (.cells (p.map int))) (hc : p[n]? = some v) : AStep E o fr σ (.one (int v)) σ :=
  AStep.loadOwn hT ho ht ha hs hx hg (by simp [hc])
theorem storeI {E : Env} {ops : Array Oper} {rest : List Oper} {o : Oper} {K : Cont} {fr : Fr} {σ : St} {t : TypeId} {ti : TI} {x y : Operand} {j : Abs.Id} {n : Nat} {p : List Int} {v : Int} (hT : TabOk E.P E.T) (hgd : o.guard = none) (hd : o.dst = none) (ho : o.op = .store t x y) (ht : Tab.get t E.T = some ti) (hs : Nat.beq ti.size 1 = true) (hx : aEval E.Γ fr x = some (.one (.ptr j n)))
    (hy : aEval E.Γ fr y = some (.one (int v))) (hg : σ.get j = some (.cells (p.map int))) (hlt : n < p.length) (h : AOps E ops rest K fr (σ.set j (.cells ((p.set n v).map int)))) : AOps E ops (o :: rest) K fr σ := by
  refine AOps.storeOwn hT hgd hd ho ht hs hx hy hg (by simpa using hlt) ?_
  rw [← List.map_set]; exact h
/-- Two operations of a head each lay an object, in either order, and a third one (k) takes what the first one (i) yields. -/
inductive Two (i j k : Nat) (A0 A1 : FV) (σ0 σ1 σ2 : St) : (Nat → Option FV) → St → Prop
  | n : Two i j k A0 A1 σ0 σ1 σ2 (fun _ => none) σ0
  | a : Two i j k A0 A1 σ0 σ1 σ2 (updV (fun _ => none) i A0) σ1
  | b : Two i j k A0 A1 σ0 σ1 σ2 (updV (fun _ => none) j A0) σ1
  | ab : Two i j k A0 A1 σ0 σ1 σ2 (updV (updV (fun _ => none) i A0) j A1) σ2
  | ac : Two i j k A0 A1 σ0 σ1 σ2 (updV (updV (fun _ => none) i A0) k A0) σ1
  | ba : Two i j k A0 A1 σ0 σ1 σ2 (updV (updV (fun _ => none) j A0) i A1) σ2
  | abc : Two i j k A0 A1 σ0 σ1 σ2 (updV (updV (updV (fun _ => none) i A0) j A1) k A0) σ2
  | acb : Two i j k A0 A1 σ0 σ1 σ2 (updV (updV (updV (fun _ => none) i A0) k A0) j A1) σ2
  | bac : Two i j k A0 A1 σ0 σ1 σ2 (updV (updV (updV (fun _ => none) j A0) i A1) k A1) σ2
def z0 (e : List Ex) : List Int := List.replicate e.length 0
def runTo (e : List Ex) (j : Nat) : Option (List Int × List Int) := (e.zipIdx.take j).foldl nodeStep (some (z0 e, z0 e))
theorem runTo_all (e : List Ex) : runTo e e.length = treeRun e := by
  unfold runTo treeRun z0
  rw [List.take_of_length_le (by simp)]
theorem zip_at {e : List Ex} {j : Nat} {x : Ex} (h : e[j]? = some x) : e.zipIdx[j]? = some (x, j) := by simp [List.getElem?_zipIdx, h]
theorem runTo_succ {e : List Ex} {j : Nat} {x : Ex} (h : e[j]? = some x) : runTo e (j + 1) = nodeStep (runTo e j) (x, j) := by
  unfold runTo
  rw [List.take_add_one, zip_at h, List.foldl_append]; rfl
theorem runTo_bad {e : List Ex} {j : Nat} (h : runTo e j = none) : treeRun e = none := by
  rw [← runTo_all]
  unfold runTo at h ⊢
  rw [List.take_of_length_le (l := e.zipIdx) (by simp), ← List.take_append_drop j e.zipIdx, List.foldl_append, h, nodeStep_none]
theorem kidsTo_succ {ks : List Int} {i j : Nat} {k : Int} {s : Option (List Int × List Int)} (h : ks[i]? = some k) : (ks.take (i + 1)).foldl (kidStep j) s = kidStep j ((ks.take i).foldl (kidStep j) s) k := by
  rw [List.take_add_one, h, List.foldl_append]; rfl
theorem kidsTo_bad {ks : List Int} {i j : Nat} {s : Option (List Int × List Int)} (h : (ks.take i).foldl (kidStep j) s = none) : ks.foldl (kidStep j) s = none := by
  rw [← List.take_append_drop i ks, List.foldl_append, h, kidStep_none]
theorem mem_set_bd {l : List Int} {i : Nat} {v a b : Int} (h : ∀ x ∈ l, a ≤ x ∧ x ≤ b) (hv : a ≤ v ∧ v ≤ b) : ∀ x ∈ l.set i v, a ≤ x ∧ x ≤ b := fun x hx => by
  rcases List.mem_or_eq_of_mem_set hx with hx | rfl
  · exact h x hx
  · exact hv
theorem getD_of {l : List Int} {i : Nat} {v : Int} (h : l[i]? = some v) : l.getD i 0 = v := by rw [List.getD_eq_getElem?_getD, h]; rfl
set_option maxHeartbeats 1000000 in
theorem treeError_ok (hΓ : ∀ g cs, (g, cs) ∈ Γ → idsL isO cs) (e : List Ex) (he : okE e) : APure Tryd.prog Γ 71 [.one (.sl 5 (e.map cEx))] (.one (int (treeErr e))) := by
  have hel := he.l
  intro ou
  refine AFn.walk 93 tabOk Tryd.func71 rfl (by kernel_rfl) rfl rfl fun hou => ?_
  repeat first | ((with_reducible refine oj ?_); refine zau ?_) | (with_reducible refine zst ?_) | (with_reducible refine cExitMiss ?_ ?_; rfl) | (with_reducible refine ok ?_; first | refine ACode.condT rfl ?_ | refine ACode.condF rfl ?_)
  refine ACode.cond rfl (fun hb => ?_) (fun hb => ?_)
  · repeat first | ((with_reducible refine oj ?_); refine zau ?_) | (with_reducible refine zst ?_) | (with_reducible refine cExitMiss ?_ ?_; rfl) | (with_reducible refine ok ?_; first | refine ACode.condT rfl ?_ | refine ACode.condF rfl ?_)
    refine APure.fin rfl (WkF.ofEq ?_) (by simp) hou rfl
    have : 4096 < e.length := by simp at hb; omega
    simp [treeErr, this]
  have h1 : e.length ≤ 4096 := by simp at hb; omega
  clear hb
  repeat first | ((with_reducible refine oj ?_); refine zau ?_) | (with_reducible refine zst ?_) | (with_reducible refine cExitMiss ?_ ?_; rfl) | (with_reducible refine ok ?_; first | refine ACode.condT rfl ?_ | refine ACode.condF rfl ?_)
  refine ACode.cond rfl (fun hb => ?_) (fun hb => ?_)
  · repeat first | ((with_reducible refine oj ?_); refine zau ?_) | (with_reducible refine zst ?_) | (with_reducible refine cExitMiss ?_ ?_; rfl) | (with_reducible refine ok ?_; first | refine ACode.condT rfl ?_ | refine ACode.condF rfl ?_)
    refine APure.fin rfl (WkF.ofEq ?_) (by simp) hou rfl
    have : e.length = 0 := by simpa using hb
    simp [treeErr, this]
  have h2 : e.length ≠ 0 := by simpa using hb
  clear hb
  have hn : treeErr e = (match treeRun e with | none => 3 | some (d, p) => if (List.range e.length).any (oddParent e.length p) = true then 3 else if 400 < d.getD (e.length - 1) 0 then 2 else 0) := by
    unfold treeErr; rw [if_neg (by omega), if_neg h2]; rfl
  repeat first | ((with_reducible refine oj ?_); refine zau ?_) | (with_reducible refine zst ?_) | (with_reducible refine cExitMiss ?_ ?_; rfl) | (with_reducible refine ok ?_; first | refine ACode.condT rfl ?_ | refine ACode.condF rfl ?_)
  refine ACode.cutR hΓ (α := Unit) (fun _ => [(4, .one (.arr (.l 1) 1 0 (e.map cEx).length (e.map cEx).length)), (3, .one (.arr (.l 0) 1 0 (e.map cEx).length (e.map cEx).length)), (0, .one (.sl 5 (e.map cEx)))])
    (fun _ => ⟨2, [(1, .cells ((z0 e).map int)), (0, .cells ((z0 e).map int))], ou⟩) (fun _ => True) ?_ fun _ _ => ?_
  · have hz : (z0 e).map int = List.replicate (e.map cEx).length (.lit (.int .i64 0)) := by simp [z0]
    rw [hz]
    have hb : ti3.bytes * (e.map cEx).length ≤ 281474976710656 := by simp; show 8 * _ ≤ _; omega
    have hb2 : (e.map cEx).length ≤ 281474976710656 := by simp; omega
    refine ACode.drawS 7 [2, 5, 6] [.one (.sl 5 (e.map cEx)), .one (int (e.map cEx).length), .bot, .one (.sl 5 (e.map cEx)), .one (int (e.map cEx).length), .bot, .bot]
      (Two 2 5 6 (.one (.arr (.l 0) 1 0 (e.map cEx).length (e.map cEx).length)) (.one (.arr (.l 1) 1 0 (e.map cEx).length (e.map cEx).length)) ⟨0, [], ou⟩ ⟨1, [(0, .cells (List.replicate (e.map cEx).length (.lit (.int .i64 0))))], ou⟩ ⟨2, [(1, .cells (List.replicate (e.map cEx).length (.lit (.int .i64 0)))), (0, .cells (List.replicate (e.map cEx).length (.lit (.int .i64 0))))], ou⟩)
      follows (by kernel_rfl) rfl rfl .n ?_ ?_ ?_ ?_
    · intro f σ h i hi
      have : 2 ≠ i ∧ 5 ≠ i ∧ 6 ≠ i := ⟨(by rintro rfl; cases hi), (by rintro rfl; cases hi), (by rintro rfl; cases hi)⟩
      cases h <;> simp [updV, this]
    · intro i o hi hS hlo
      match i, hi with
      | 0, _ => cases hlo; exact ⟨_, rfl, rfl, rfl, by kernel_rfl, fun f σ _ => HStep.auto tabOk rfl⟩
      | 1, _ => cases hlo; exact ⟨_, rfl, rfl, rfl, by kernel_rfl, fun f σ _ => HStep.auto tabOk rfl⟩
      | 2, _ => cases hS
      | 3, _ => cases hlo; exact ⟨_, rfl, rfl, rfl, by kernel_rfl, fun f σ _ => HStep.auto tabOk rfl⟩
      | 4, _ => cases hlo; exact ⟨_, rfl, rfl, rfl, by kernel_rfl, fun f σ _ => HStep.auto tabOk rfl⟩
      | 5, _ => cases hS
      | 6, _ => cases hS
    · intro f σ i o h hS hlo hfi hdep
      have hi : i = 2 ∨ i = 5 ∨ i = 6 := by
        simp only [List.any_cons, List.any_nil, Bool.or_false, Bool.or_eq_true] at hS
        rcases hS with h | h | h <;> have := Nat.eq_of_beq_eq_true h <;> omega
      rcases hi with rfl | rfl | rfl <;> cases hlo
      · cases h with
        | n => exact ⟨rfl, rfl, _, _, HStep.plain rfl (AStep.makeArr (σ := ⟨0, [], ou⟩) tabOk rfl rfl rfl rfl rfl rfl rfl rfl hb hb2), .a⟩
        | b => exact ⟨rfl, rfl, _, _, HStep.plain rfl (AStep.makeArr (σ := ⟨1, [(0, .cells (List.replicate (e.map cEx).length (.lit (.int .i64 0))))], ou⟩) tabOk rfl rfl rfl rfl rfl rfl rfl rfl hb hb2), .ba⟩
        | _ => cases hfi
      · cases h with
        | n => exact ⟨rfl, rfl, _, _, HStep.plain rfl (AStep.makeArr (σ := ⟨0, [], ou⟩) tabOk rfl rfl rfl rfl rfl rfl rfl rfl hb hb2), .b⟩
        | a => exact ⟨rfl, rfl, _, _, HStep.plain rfl (AStep.makeArr (σ := ⟨1, [(0, .cells (List.replicate (e.map cEx).length (.lit (.int .i64 0))))], ou⟩) tabOk rfl rfl rfl rfl rfl rfl rfl rfl hb hb2), .ab⟩
        | ac => exact ⟨rfl, rfl, _, _, HStep.plain rfl (AStep.makeArr (σ := ⟨1, [(0, .cells (List.replicate (e.map cEx).length (.lit (.int .i64 0))))], ou⟩) tabOk rfl rfl rfl rfl rfl rfl rfl rfl hb hb2), .acb⟩
        | _ => cases hfi
      · cases h with
        | a => exact ⟨rfl, rfl, _, _, HStep.auto tabOk rfl, .ac⟩
        | ab => exact ⟨rfl, rfl, _, _, HStep.auto tabOk rfl, .abc⟩
        | ba => exact ⟨rfl, rfl, _, _, HStep.auto tabOk rfl, .bac⟩
        | n => exact absurd (hdep _ (List.mem_cons_self ..) rfl rfl) (by simp)
        | b => exact absurd (hdep _ (List.mem_cons_self ..) rfl rfl) (by simp [updV])
        | _ => cases hfi
    · intro f σ h hall
      have h2 := hall 2 (by simp) (by omega)
      have h5 := hall 5 (by simp) (by omega)
      have h6 := hall 6 (by simp) (by omega)
      cases h with
      | abc =>
        repeat first | ((with_reducible refine oj ?_); refine zau ?_) | (with_reducible refine zst ?_) | (with_reducible refine cExitMiss ?_ ?_; rfl) | (with_reducible refine ok ?_; first | refine ACode.condT rfl ?_ | refine ACode.condF rfl ?_)
        exact cInv ⟨(), id, trivial, LessR.of rfl (by (repeat' first | exact FrSub.nil | refine FrSub.cons rfl (.ofEq rfl) ?_ | refine FrSub.oa rfl rfl ?_ | refine FrSub.consP rfl (.ofEq rfl) (by simp) ?_)) (by simp) (by repeat' first | exact LoSub.nil | refine LoSub.cons rfl ?_ rfl (by first | (simp; done) | exact ids_oaO (by simp)) ?_ | rfl | (refine (AObj.ren_pure _ _ ?_).symm; simp; done) | exact (ren_oaO _ _ _ _ fun _ => ids_vec (by simp; done)).symm | (simp [AObj.ren, renL, AC.ren]; done) | (simp [AObj.ren, renL, AC.ren]; rfl)) rfl rfl hou⟩
      | acb =>
        repeat first | ((with_reducible refine oj ?_); refine zau ?_) | (with_reducible refine zst ?_) | (with_reducible refine cExitMiss ?_ ?_; rfl) | (with_reducible refine ok ?_; first | refine ACode.condT rfl ?_ | refine ACode.condF rfl ?_)
        exact cInv ⟨(), id, trivial, LessR.of rfl (by (repeat' first | exact FrSub.nil | refine FrSub.cons rfl (.ofEq rfl) ?_ | refine FrSub.oa rfl rfl ?_ | refine FrSub.consP rfl (.ofEq rfl) (by simp) ?_)) (by simp) (by repeat' first | exact LoSub.nil | refine LoSub.cons rfl ?_ rfl (by first | (simp; done) | exact ids_oaO (by simp)) ?_ | rfl | (refine (AObj.ren_pure _ _ ?_).symm; simp; done) | exact (ren_oaO _ _ _ _ fun _ => ids_vec (by simp; done)).symm | (simp [AObj.ren, renL, AC.ren]; done) | (simp [AObj.ren, renL, AC.ren]; rfl)) rfl rfl hou⟩
      | bac =>
        repeat first | ((with_reducible refine oj ?_); refine zau ?_) | (with_reducible refine zst ?_) | (with_reducible refine cExitMiss ?_ ?_; rfl) | (with_reducible refine ok ?_; first | refine ACode.condT rfl ?_ | refine ACode.condF rfl ?_)
        exact cInv ⟨(), fun k => if k = 0 then 1 else 0, trivial, LessR.of rfl (by (repeat' first | exact FrSub.nil | refine FrSub.cons rfl (.ofEq rfl) ?_ | refine FrSub.oa rfl rfl ?_ | refine FrSub.consP rfl (.ofEq rfl) (by simp) ?_)) (by simp) (by repeat' first | exact LoSub.nil | refine LoSub.cons rfl ?_ rfl (by first | (simp; done) | exact ids_oaO (by simp)) ?_ | rfl | (refine (AObj.ren_pure _ _ ?_).symm; simp; done) | exact (ren_oaO _ _ _ _ fun _ => ids_vec (by simp; done)).symm | (simp [AObj.ren, renL, AC.ren]; done) | (simp [AObj.ren, renL, AC.ren]; rfl)) rfl rfl hou⟩
      | n => cases h2
      | a => cases h5
      | b => cases h2
      | ab => cases h6
      | ac => cases h5
      | ba => cases h6
  repeat first | ((with_reducible refine oj ?_); refine zau ?_) | (with_reducible refine zst ?_) | (with_reducible refine cExitMiss ?_ ?_; rfl) | (with_reducible refine ok ?_; first | refine ACode.condT rfl ?_ | refine ACode.condF rfl ?_)
  refine ACode.loopR hΓ (α := Nat × List Int × List Int) (fun a => [(25, .one (int a.1)), (24, .one (int (e.map cEx).length)), (23, .one (.sl 5 (e.map cEx))), (4, .one (.arr (.l 1) 1 0 (e.map cEx).length (e.map cEx).length)), (3, .one (.arr (.l 0) 1 0 (e.map cEx).length (e.map cEx).length)), (0, .one (.sl 5 (e.map cEx)))])
    (fun a => ⟨2, [(1, .cells (a.2.2.map int)), (0, .cells (a.2.1.map int))], ou⟩)
    (fun m a => a.1 ≤ e.length ∧ runTo e a.1 = some (a.2.1, a.2.2) ∧ (a.2.1.length = e.length ∧ a.2.2.length = e.length) ∧ (∀ v ∈ a.2.1, 0 ≤ v ∧ v ≤ (a.1 : Int)) ∧ (∀ v ∈ a.2.2, 0 ≤ v ∧ v ≤ (a.1 : Int) * 1048576) ∧ m = e.length - a.1)
    (a0 := (0, z0 e, z0 e)) (ρ := id) ⟨by omega, rfl, ⟨by simp [z0], by simp [z0]⟩, by simp [z0], by simp [z0], rfl⟩ (LessR.of rfl (by (repeat' first | exact FrSub.nil | refine FrSub.cons rfl (.ofEq rfl) ?_ | refine FrSub.oa rfl rfl ?_ | refine FrSub.consP rfl (.ofEq rfl) (by simp) ?_)) (by simp) (by repeat' first | exact LoSub.nil | refine LoSub.cons rfl ?_ rfl (by first | (simp; done) | exact ids_oaO (by simp)) ?_ | rfl | (refine (AObj.ren_pure _ _ ?_).symm; simp; done) | exact (ren_oaO _ _ _ _ fun _ => ids_vec (by simp; done)).symm | (simp [AObj.ren, renL, AC.ren]; done) | (simp [AObj.ren, renL, AC.ren]; rfl)) rfl rfl hou) fun m a hj => ?_
  obtain ⟨j, d, p⟩ := a
  obtain ⟨hjl, hrun, ⟨hdl, hpl⟩, hdb, hpb, rfl⟩ := hj
  simp only at hjl hrun hdl hpl hdb hpb
  repeat first | ((with_reducible refine oj ?_); refine zau ?_) | (with_reducible refine zst ?_) | (with_reducible refine cExitMiss ?_ ?_; rfl) | (with_reducible refine ok ?_; first | refine ACode.condT rfl ?_ | refine ACode.condF rfl ?_)
  refine ACode.cond rfl (fun hb2 => ?_) (fun hb2 => ?_)
  · have hlt : j < e.length := by simpa using hb2
    obtain ⟨x, hx⟩ := get_of_lt hlt
    have hxo := he.x x (List.mem_of_getElem? hx)
    have hxk := hxo.k
    repeat first | ((with_reducible refine oj ?_); refine zau ?_) | (with_reducible refine zst ?_) | (with_reducible refine cExitMiss ?_ ?_; rfl) | (with_reducible refine ok ?_; first | refine ACode.condT rfl ?_ | refine ACode.condF rfl ?_)
    refine AOps.step1 rfl rfl rfl (AStep.indexAddr tabOk rfl rfl rfl rfl rfl rfl (.inl rfl) rfl (by omega) (map_get hx)) ?_
    repeat first | ((with_reducible refine oj ?_); refine zau ?_) | (with_reducible refine zst ?_) | (with_reducible refine cExitMiss ?_ ?_; rfl) | (with_reducible refine ok ?_; first | refine ACode.condT rfl ?_ | refine ACode.condF rfl ?_)
    refine ACode.loopR hΓ (α := Nat × List Int × List Int) (fun a => [(33, .one (int a.1)), (32, .one (int (x.kids.map cI).length)), (31, .one (.sl 1 (x.kids.map cI))), (5, .one (int j)), (25, .one (int j)), (24, .one (int (e.map cEx).length)), (23, .one (.sl 5 (e.map cEx))), (4, .one (.arr (.l 1) 1 0 (e.map cEx).length (e.map cEx).length)), (3, .one (.arr (.l 0) 1 0 (e.map cEx).length (e.map cEx).length)), (0, .one (.sl 5 (e.map cEx)))])
      (fun a => ⟨2, [(1, .cells (a.2.2.map int)), (0, .cells (a.2.1.map int))], ou⟩)
      (fun m a => a.1 ≤ x.kids.length ∧ (x.kids.take a.1).foldl (kidStep j) (some (d, p)) = some (a.2.1, a.2.2) ∧ (a.2.1.length = e.length ∧ a.2.2.length = e.length) ∧ (∀ v ∈ a.2.1, 0 ≤ v ∧ v ≤ (j : Int)) ∧ (∀ v ∈ a.2.2, 0 ≤ v ∧ v ≤ (j : Int) * 1048576 + a.1) ∧ m = x.kids.length - a.1)
      (a0 := (0, d, p)) (ρ := id) ⟨by omega, rfl, ⟨hdl, hpl⟩, hdb, fun v hv => by have := hpb v hv; show 0 ≤ v ∧ v ≤ (j : Int) * 1048576 + ((0 : Nat) : Int); omega, rfl⟩ (LessR.of rfl (by (repeat' first | exact FrSub.nil | refine FrSub.cons rfl (.ofEq rfl) ?_ | refine FrSub.oa rfl rfl ?_ | refine FrSub.consP rfl (.ofEq rfl) (by simp) ?_)) (by simp) (by repeat' first | exact LoSub.nil | refine LoSub.cons rfl ?_ rfl (by first | (simp; done) | exact ids_oaO (by simp)) ?_ | rfl | (refine (AObj.ren_pure _ _ ?_).symm; simp; done) | exact (ren_oaO _ _ _ _ fun _ => ids_vec (by simp; done)).symm | (simp [AObj.ren, renL, AC.ren]; done) | (simp [AObj.ren, renL, AC.ren]; rfl)) rfl rfl hou) fun m a hi => ?_
    obtain ⟨i, d', p'⟩ := a
    obtain ⟨hil, hki, ⟨hdl', hpl'⟩, hdb', hpb', rfl⟩ := hi
    simp only at hil hki hdl' hpl' hdb' hpb'
    obtain ⟨dj, hdj⟩ := get_of_lt (l := d') (i := j) (by omega)
    have hdjb := hdb' dj (List.mem_of_getElem? hdj)
    repeat first | ((with_reducible refine oj ?_); refine zau ?_) | (with_reducible refine zst ?_) | (with_reducible refine cExitMiss ?_ ?_; rfl) | (with_reducible refine ok ?_; first | refine ACode.condT rfl ?_ | refine ACode.condF rfl ?_)
    refine ACode.cond rfl (fun hb3 => ?_) (fun hb3 => ?_)
    · have hlt2 : i < x.kids.length := by simpa using hb3
      obtain ⟨k, hk⟩ := get_of_lt hlt2
      have bad : (k < 0 ∨ (j : Int) ≤ k) → treeErr e = 3 := fun h => by
        have h1 : (x.kids.take (i + 1)).foldl (kidStep j) (some (d, p)) = none := by
          rw [kidsTo_succ hk, hki]; simp only [kidStep, Option.bind_some]; rw [if_pos h]
        have h2 := kidsTo_bad h1
        have h3 : runTo e (j + 1) = none := by rw [runTo_succ hx, hrun]; simp only [nodeStep]; rw [h2]; rfl
        rw [hn, runTo_bad h3]
      repeat first | ((with_reducible refine oj ?_); refine zau ?_) | (with_reducible refine zst ?_) | (with_reducible refine cExitMiss ?_ ?_; rfl) | (with_reducible refine ok ?_; first | refine ACode.condT rfl ?_ | refine ACode.condF rfl ?_)
      refine AOps.step1 rfl rfl rfl (AStep.indexAddr tabOk rfl rfl rfl rfl rfl rfl (.inl rfl) rfl (by omega) (map_get hk)) ?_
      by_cases hkk : k < 0 ∨ (j : Int) ≤ k
      · repeat' first | ((with_reducible refine oj ?_); refine zau ?_) | (with_reducible refine zst ?_) | (with_reducible refine cExitMiss ?_ ?_; rfl) | (with_reducible refine ok ?_; first | refine ACode.condT rfl ?_ | refine ACode.condF rfl ?_) | ((with_reducible refine oj ?_); first | refine zad ?_ | refine zsu ?_ | refine zne ?_ | refine zeq ?_ | refine zmx ?_ | refine zmn ?_ | refine AOps.unG rfl rfl rfl ?_) | (with_reducible refine oj ?_; refine AOps.splitS rfl rfl rfl rfl (fun hb => ?_) (fun hb => ?_)) | (with_reducible refine ok ?_; first | refine ACode.condS rfl (fun hb => ?_) (fun hb => ?_) | refine ACode.cond rfl (fun hb => ?_) (fun hb => ?_))
        all_goals first
          | (refine APure.fin rfl (WkF.ofEq ?_) (by simp) hou rfl
             rw [bad hkk]
             done)
          | (exfalso; simp only [decide_eq_false_iff_not, decide_eq_true_eq] at *; omega)
      · obtain ⟨k, rfl⟩ : ∃ k' : Nat, k = k' := ⟨k.toNat, by omega⟩
        have hkj : k < j := by omega
        obtain ⟨pk, hpk⟩ := get_of_lt (l := p') (i := k) (by omega)
        obtain ⟨dk, hdk⟩ := get_of_lt (l := d') (i := k) (by omega)
        have hpkb := hpb' pk (List.mem_of_getElem? hpk)
        have hdkb := hdb' dk (List.mem_of_getElem? hdk)
        repeat' first | ((with_reducible refine oj ?_); refine zau ?_) | (with_reducible refine zst ?_) | (with_reducible refine cExitMiss ?_ ?_; rfl) | (with_reducible refine ok ?_; first | refine ACode.condT rfl ?_ | refine ACode.condF rfl ?_) | ((with_reducible refine oj ?_); first | refine zad ?_ | refine zsu ?_ | refine zne ?_ | refine zeq ?_ | refine zmx ?_ | refine zmn ?_ | refine AOps.unG rfl rfl rfl ?_) | (with_reducible refine oj ?_; refine AOps.splitS rfl rfl rfl rfl (fun hb => ?_) (fun hb => ?_)) | (with_reducible refine ok ?_; first | refine ACode.condS rfl (fun hb => ?_) (fun hb => ?_) | refine ACode.cond rfl (fun hb => ?_) (fun hb => ?_))
        all_goals first
          | (exfalso; simp at hb; done)
          | (exfalso; simp at hb; omega)
          | skip
        refine AOps.step1 rfl rfl rfl (idxI tabOk rfl rfl rfl rfl rfl rfl rfl (by simp; omega)) ?_
        refine AOps.step1 rfl rfl rfl (loadI tabOk rfl rfl rfl rfl rfl rfl hpk) ?_
        refine AOps.step1 rfl rfl rfl (AStep.arith rfl rfl rfl (.inl ⟨rfl, rfl⟩) (inRange_i64 (by omega) (by omega))) ?_
        refine AOps.step1 rfl rfl rfl (idxI tabOk rfl rfl rfl rfl rfl rfl rfl (by simp; omega)) ?_
        refine storeI tabOk rfl rfl rfl rfl rfl rfl rfl rfl (show k < p'.length by omega) ?_
        repeat first | ((with_reducible refine oj ?_); refine zau ?_) | (with_reducible refine zst ?_) | (with_reducible refine cExitMiss ?_ ?_; rfl) | (with_reducible refine ok ?_; first | refine ACode.condT rfl ?_ | refine ACode.condF rfl ?_)
        refine ACode.drawX tabOk 11 [(4, .one (.ptr (.l 0) j)), (5, .one (int dj)), (8, .one (.ptr (.l 0) k)), (9, .one (int dk)), (10, .one (int (if dk > dj then dk else dj)))] follows (by kernel_rfl) rfl rfl rfl rfl ?_ ?_
        · refine .step rfl (HStep.plain rfl (idxI tabOk rfl rfl rfl rfl rfl rfl rfl (by simp; omega))) ?_
          refine .step rfl (HStep.plain rfl (loadI tabOk rfl rfl rfl rfl rfl rfl hdj)) ?_
          refine .step rfl (HStep.plain rfl (idxI tabOk rfl rfl rfl rfl rfl rfl rfl (by simp; omega))) ?_
          refine .step rfl (HStep.plain rfl (loadI tabOk rfl rfl rfl rfl rfl rfl hdk)) ?_
          exact .step rfl (HStep.plain rfl (AStep.max2 (t := 3) (ty := 3) rfl rfl rfl)) .nil
        repeat first | ((with_reducible refine oj ?_); refine zau ?_) | (with_reducible refine zst ?_) | (with_reducible refine cExitMiss ?_ ?_; rfl) | (with_reducible refine ok ?_; first | refine ACode.condT rfl ?_ | refine ACode.condF rfl ?_)
        refine AOps.step1 rfl rfl rfl (idxI tabOk rfl rfl rfl rfl rfl rfl rfl (by simp; omega)) ?_
        refine storeI tabOk rfl rfl rfl rfl rfl rfl rfl rfl (show j < d'.length by omega) ?_
        repeat' first | ((with_reducible refine oj ?_); refine zau ?_) | (with_reducible refine zst ?_) | (with_reducible refine cExitMiss ?_ ?_; rfl) | (with_reducible refine ok ?_; first | refine ACode.condT rfl ?_ | refine ACode.condF rfl ?_) | ((with_reducible refine oj ?_); first | refine zad ?_ | refine zsu ?_ | refine zne ?_ | refine zeq ?_ | refine zmx ?_ | refine zmn ?_ | refine AOps.unG rfl rfl rfl ?_)
        refine cInv ⟨x.kids.length - (i + 1), (i + 1, d'.set j (if dk > dj then dk else dj), p'.set k (pk + 1)), id, by omega, ⟨by omega, ?_, ⟨by simp [hdl'], by simp [hpl']⟩, mem_set_bd hdb' (by split <;> omega), fun v hv => ?_, rfl⟩, LessR.of rfl (by (repeat' first | exact FrSub.nil | refine FrSub.cons rfl (.ofEq rfl) ?_ | refine FrSub.oa rfl rfl ?_ | refine FrSub.consP rfl (.ofEq rfl) (by simp) ?_)) (by simp) (by repeat' first | exact LoSub.nil | refine LoSub.cons rfl ?_ rfl (by first | (simp; done) | exact ids_oaO (by simp)) ?_ | rfl | (refine (AObj.ren_pure _ _ ?_).symm; simp; done) | exact (ren_oaO _ _ _ _ fun _ => ids_vec (by simp; done)).symm | (simp [AObj.ren, renL, AC.ren]; done) | (simp [AObj.ren, renL, AC.ren]; rfl)) rfl rfl hou⟩
        · rw [kidsTo_succ hk, hki]
          simp only [kidStep, Option.bind_some, Int.toNat_natCast, getD_of hdj, getD_of hdk, getD_of hpk]
          rw [if_neg (by omega)]
        · have := mem_set_bd (a := 0) (b := (j : Int) * 1048576 + (i + 1 : Nat)) (fun v hv => by have := hpb' v hv; omega) (show (0 : Int) ≤ pk + 1 ∧ pk + 1 ≤ (j : Int) * 1048576 + (i + 1 : Nat) by omega) v hv
          exact this
    · have hlt2 : i = x.kids.length := by simp at hb3; omega
      subst hlt2
      rw [List.take_length] at hki
      repeat first | ((with_reducible refine oj ?_); refine zau ?_) | (with_reducible refine zst ?_) | (with_reducible refine cExitMiss ?_ ?_; rfl) | (with_reducible refine ok ?_; first | refine ACode.condT rfl ?_ | refine ACode.condF rfl ?_)
      refine AOps.step1 rfl rfl rfl (idxI tabOk rfl rfl rfl rfl rfl rfl rfl (by simp; omega)) ?_
      refine AOps.step1 rfl rfl rfl (loadI tabOk rfl rfl rfl rfl rfl rfl hdj) ?_
      refine AOps.step1 rfl rfl rfl (AStep.arith rfl rfl rfl (.inl ⟨rfl, rfl⟩) (inRange_i64 (by omega) (by omega))) ?_
      refine AOps.step1 rfl rfl rfl (idxI tabOk rfl rfl rfl rfl rfl rfl rfl (by simp; omega)) ?_
      refine storeI tabOk rfl rfl rfl rfl rfl rfl rfl rfl (show j < d'.length by omega) ?_
      repeat' first | ((with_reducible refine oj ?_); refine zau ?_) | (with_reducible refine zst ?_) | (with_reducible refine cExitMiss ?_ ?_; rfl) | (with_reducible refine ok ?_; first | refine ACode.condT rfl ?_ | refine ACode.condF rfl ?_) | ((with_reducible refine oj ?_); first | refine zad ?_ | refine zsu ?_ | refine zne ?_ | refine zeq ?_ | refine zmx ?_ | refine zmn ?_ | refine AOps.unG rfl rfl rfl ?_)
      refine cInv ⟨e.length - (j + 1), (j + 1, d'.set j (dj + 1), p'), id, by omega, ⟨by omega, ?_, ⟨by simp [hdl'], hpl'⟩, ?_, fun v hv => ?_, rfl⟩, LessR.of rfl (by (repeat' first | exact FrSub.nil | refine FrSub.cons rfl (.ofEq rfl) ?_ | refine FrSub.oa rfl rfl ?_ | refine FrSub.consP rfl (.ofEq rfl) (by simp) ?_)) (by simp) (by repeat' first | exact LoSub.nil | refine LoSub.cons rfl ?_ rfl (by first | (simp; done) | exact ids_oaO (by simp)) ?_ | rfl | (refine (AObj.ren_pure _ _ ?_).symm; simp; done) | exact (ren_oaO _ _ _ _ fun _ => ids_vec (by simp; done)).symm | (simp [AObj.ren, renL, AC.ren]; done) | (simp [AObj.ren, renL, AC.ren]; rfl)) rfl rfl hou⟩
      · rw [runTo_succ hx, hrun]
        simp only [nodeStep, hki, Option.map_some, getD_of hdj]
      · exact mem_set_bd (fun v hv => by have := hdb' v hv; simp only; omega) (by simp only; omega)
      · have := hpb' v hv
        simp only; omega
  · have hlt : j = e.length := by simp at hb2; omega
    subst hlt
    rw [runTo_all] at hrun
    rw [hrun] at hn
    simp only at hn
    obtain ⟨N, hN⟩ : ∃ N, e.length = N + 1 := ⟨e.length - 1, by omega⟩
    repeat first | ((with_reducible refine oj ?_); refine zau ?_) | (with_reducible refine zst ?_) | (with_reducible refine cExitMiss ?_ ?_; rfl) | (with_reducible refine ok ?_; first | refine ACode.condT rfl ?_ | refine ACode.condF rfl ?_)
    refine ACode.loopR hΓ (α := Nat) (fun i => [(72, .one (int i)), (71, .one (int (e.map cEx).length)), (70, .one (.arr (.l 1) 1 0 (e.map cEx).length (e.map cEx).length)), (4, .one (.arr (.l 1) 1 0 (e.map cEx).length (e.map cEx).length)), (3, .one (.arr (.l 0) 1 0 (e.map cEx).length (e.map cEx).length)), (0, .one (.sl 5 (e.map cEx)))])
      (fun i => ⟨2, [(1, .cells (p.map int)), (0, .cells (d.map int))], ou⟩) (fun m i => i ≤ e.length ∧ (∀ q ∈ (List.range e.length).take i, oddParent e.length p q = false) ∧ m = e.length - i) (a0 := 0) (ρ := id) ⟨by omega, by simp, rfl⟩ (LessR.of rfl (by (repeat' first | exact FrSub.nil | refine FrSub.cons rfl (.ofEq rfl) ?_ | refine FrSub.oa rfl rfl ?_ | refine FrSub.consP rfl (.ofEq rfl) (by simp) ?_)) (by simp) (by repeat' first | exact LoSub.nil | refine LoSub.cons rfl ?_ rfl (by first | (simp; done) | exact ids_oaO (by simp)) ?_ | rfl | (refine (AObj.ren_pure _ _ ?_).symm; simp; done) | exact (ren_oaO _ _ _ _ fun _ => ids_vec (by simp; done)).symm | (simp [AObj.ren, renL, AC.ren]; done) | (simp [AObj.ren, renL, AC.ren]; rfl)) rfl rfl hou) fun m i hi => ?_
    obtain ⟨hil, hno, rfl⟩ := hi
    repeat first | ((with_reducible refine oj ?_); refine zau ?_) | (with_reducible refine zst ?_) | (with_reducible refine cExitMiss ?_ ?_; rfl) | (with_reducible refine ok ?_; first | refine ACode.condT rfl ?_ | refine ACode.condF rfl ?_)
    refine ACode.cond rfl (fun hb3 => ?_) (fun hb3 => ?_)
    · have hlt2 : i < e.length := by simpa using hb3
      have hri : (List.range e.length)[i]? = some i := by simp [hlt2]
      obtain ⟨v, hv⟩ := get_of_lt (l := p) (i := i) (by omega)
      have hod : oddParent e.length p i = !((v == 1) == decide ((i : Int) < (e.length : Int) - 1)) := by unfold oddParent; rw [getD_of hv]
      repeat first | ((with_reducible refine oj ?_); refine zau ?_) | (with_reducible refine zst ?_) | (with_reducible refine cExitMiss ?_ ?_; rfl) | (with_reducible refine ok ?_; first | refine ACode.condT rfl ?_ | refine ACode.condF rfl ?_)
      refine AOps.step1 rfl rfl rfl (idxI tabOk rfl rfl rfl rfl rfl rfl rfl (by simp; omega)) ?_
      refine AOps.step1 rfl rfl rfl (loadI tabOk rfl rfl rfl rfl rfl rfl hv) ?_
      repeat' first | ((with_reducible refine oj ?_); refine zau ?_) | (with_reducible refine zst ?_) | (with_reducible refine cExitMiss ?_ ?_; rfl) | (with_reducible refine ok ?_; first | refine ACode.condT rfl ?_ | refine ACode.condF rfl ?_) | ((with_reducible refine oj ?_); first | refine zad ?_ | refine zsu ?_ | refine zne ?_ | refine zeq ?_ | refine zmx ?_ | refine zmn ?_ | refine AOps.unG rfl rfl rfl ?_)
      refine ACode.cond rfl (fun hb4 => ?_) (fun hb4 => ?_)
      · repeat first | ((with_reducible refine oj ?_); refine zau ?_) | (with_reducible refine zst ?_) | (with_reducible refine cExitMiss ?_ ?_; rfl) | (with_reducible refine ok ?_; first | refine ACode.condT rfl ?_ | refine ACode.condF rfl ?_)
        refine APure.fin rfl (WkF.ofEq ?_) (by simp) hou rfl
        rw [hn, if_pos (List.any_eq_true.2 ⟨i, by simp [hlt2], by rw [hod]; simpa using hb4⟩)]
      · repeat' first | ((with_reducible refine oj ?_); refine zau ?_) | (with_reducible refine zst ?_) | (with_reducible refine cExitMiss ?_ ?_; rfl) | (with_reducible refine ok ?_; first | refine ACode.condT rfl ?_ | refine ACode.condF rfl ?_) | ((with_reducible refine oj ?_); first | refine zad ?_ | refine zsu ?_ | refine zne ?_ | refine zeq ?_ | refine zmx ?_ | refine zmn ?_ | refine AOps.unG rfl rfl rfl ?_)
        exact cInv ⟨e.length - (i + 1), i + 1, id, by omega, ⟨by omega, take_all hno hri (by rw [hod]; simpa using hb4), rfl⟩, LessR.of rfl (by (repeat' first | exact FrSub.nil | refine FrSub.cons rfl (.ofEq rfl) ?_ | refine FrSub.oa rfl rfl ?_ | refine FrSub.consP rfl (.ofEq rfl) (by simp) ?_)) (by simp) (by repeat' first | exact LoSub.nil | refine LoSub.cons rfl ?_ rfl (by first | (simp; done) | exact ids_oaO (by simp)) ?_ | rfl | (refine (AObj.ren_pure _ _ ?_).symm; simp; done) | exact (ren_oaO _ _ _ _ fun _ => ids_vec (by simp; done)).symm | (simp [AObj.ren, renL, AC.ren]; done) | (simp [AObj.ren, renL, AC.ren]; rfl)) rfl rfl hou⟩
    · have hlt2 : i = e.length := by simp at hb3; omega
      have hany : ¬ (List.range e.length).any (oddParent e.length p) = true := by
        rw [List.any_eq_true]
        rintro ⟨q, hq, hq2⟩
        rw [hno q (by rw [hlt2, List.take_of_length_le (by simp)]; exact hq)] at hq2
        cases hq2
      rw [if_neg hany] at hn
      obtain ⟨v, hv⟩ := get_of_lt (l := d) (i := N) (by omega)
      have hgd : d.getD (e.length - 1) 0 = v := by rw [hN]; exact getD_of hv
      rw [hgd] at hn
      repeat' first | ((with_reducible refine oj ?_); refine zau ?_) | (with_reducible refine zst ?_) | (with_reducible refine cExitMiss ?_ ?_; rfl) | (with_reducible refine ok ?_; first | refine ACode.condT rfl ?_ | refine ACode.condF rfl ?_) | ((with_reducible refine oj ?_); first | refine zad ?_ | refine zsu ?_ | refine zne ?_ | refine zeq ?_ | refine zmx ?_ | refine zmn ?_ | refine AOps.unG rfl rfl rfl ?_)
      refine AOps.wk 89 rfl (y := .one (int (N : Nat))) (.ofEq (by congr 3; simp; omega)) ?_
      refine AOps.step1 rfl rfl rfl (idxI tabOk rfl rfl rfl rfl rfl rfl rfl (by simp; omega)) ?_
      refine AOps.step1 rfl rfl rfl (loadI tabOk rfl rfl rfl rfl rfl rfl hv) ?_
      repeat first | ((with_reducible refine oj ?_); refine zau ?_) | (with_reducible refine zst ?_) | (with_reducible refine cExitMiss ?_ ?_; rfl) | (with_reducible refine ok ?_; first | refine ACode.condT rfl ?_ | refine ACode.condF rfl ?_)
      refine ACode.cond rfl (fun hb4 => ?_) (fun hb4 => ?_)
      · repeat first | ((with_reducible refine oj ?_); refine zau ?_) | (with_reducible refine zst ?_) | (with_reducible refine cExitMiss ?_ ?_; rfl) | (with_reducible refine ok ?_; first | refine ACode.condT rfl ?_ | refine ACode.condF rfl ?_)
        refine APure.fin rfl (WkF.ofEq ?_) (by simp) hou rfl
        rw [hn, if_pos (by simpa using hb4)]
      · repeat first | ((with_reducible refine oj ?_); refine zau ?_) | (with_reducible refine zst ?_) | (with_reducible refine cExitMiss ?_ ?_; rfl) | (with_reducible refine ok ?_; first | refine ACode.condT rfl ?_ | refine ACode.condF rfl ?_)
        refine APure.fin rfl (WkF.ofEq ?_) (by simp) hou rfl
        rw [hn, if_neg (by simpa using hb4)]
end Go.Proofs.YtgdionbeeodaaaaDoor
/- twice, walked. -/
namespace Go.Proofs.YtgdionbeeodaaaaDoor
open Go Go.Abs Go.CoreX
set_option maxRecDepth 10000
set_option linter.unusedVariables false
set_option linter.unusedSimpArgs false
variable {Γ : List (Nat × List AC)}
/-- A set of numbers: those of a list. -/
structure SetIs (S : List Int) (ck : Nat) (l : List (Nat × Int × Unit)) : Prop where
  ex : ∃ f, IMOk f ck l ∧ ∀ k, (f k).isSome = S.contains k
theorem SetIs.nil : SetIs [] 0 [] := ⟨_, IMOk.nil, fun k => by simp⟩
theorem set_put {S : List Int} {f : Int → Option Unit} (h : ∀ k, (f k).isSome = S.contains k) (n : Int) : ∀ k, (setF f n () k).isSome = (S ++ [n]).contains k := fun k => by
  unfold setF
  by_cases e : n = k
  · subst e; simp
  · rw [if_neg e, h k]
    have : ¬ k = n := fun h => e h.symm
    simp [this]
theorem dup_at {S r : List Int} {n : Int} (h : S.contains n = true) : hasDup (S ++ n :: r) = true := by
  apply Classical.byContradiction
  intro hd
  have := (hasDup_false _).1 (by simpa using hd)
  rw [List.nodup_append] at this
  exact this.2.2 n (by simpa using h) n (by simp) rfl
theorem nodup_snoc {S : List Int} {n : Int} (h : S.Nodup) (hn : S.contains n = false) : (S ++ [n]).Nodup := by
  rw [List.nodup_append]
  refine ⟨h, by simp, fun a ha b hb e => ?_⟩
  simp at hb
  subst hb; subst e
  simp at hn
  exact hn ha
theorem take_succ_of {α : Type} {l : List α} {j : Nat} {a : α} (h : l[j]? = some a) : l.take (j + 1) = l.take j ++ [a] := by rw [List.take_add_one, h]; rfl
theorem split_at {α : Type} {l : List α} {j : Nat} {a : α} (h : l[j]? = some a) : l = l.take j ++ a :: l.drop (j + 1) := by
  have h1 := (List.getElem?_eq_some_iff.1 h)
  obtain ⟨h2, h3⟩ := h1
  rw [← h3, ← List.drop_eq_getElem_cons h2, List.take_append_drop]
set_option maxHeartbeats 1000000 in
theorem twice_ok (hΓ : ∀ g cs, (g, cs) ∈ Γ → idsL isO cs) (e : List Ex) (he : okE e) (params : List Int) (hp : params.length ≤ 1048576) (hbl : ∀ x ∈ e, (exBinders x).length ≤ 4194304 ∧ x.binds.length + (x.alts.flatMap (·.binds)).length ≤ 4194304) :
    APure Tryd.prog Γ 76 [.one (.sl 5 (e.map cEx)), .one (.sl 1 (params.map cI))] (.one (.lit (.bool (hasDup (params ++ allBinders e))))) := by
  have hel := he.l
  intro ou
  refine AFn.walk 68 tabOk Tryd.func76 rfl (by kernel_rfl) rfl rfl fun hou => ?_
  repeat first | ((with_reducible refine oj ?_); refine zau ?_) | (with_reducible refine zst ?_) | (with_reducible refine cExitMiss ?_ ?_; rfl) | (with_reducible refine ok ?_; first | refine ACode.condT rfl ?_ | refine ACode.condF rfl ?_)
  refine AOps.step1 rfl rfl rfl (AStep.makeMap rfl) ?_
  repeat first | ((with_reducible refine oj ?_); refine zau ?_) | (with_reducible refine zst ?_) | (with_reducible refine cExitMiss ?_ ?_; rfl) | (with_reducible refine ok ?_; first | refine ACode.condT rfl ?_ | refine ACode.condF rfl ?_)
  refine ACode.loopR hΓ (α := Nat × Nat × List (Nat × Int × Unit)) (fun a => [(20, .one (int a.1)), (19, .one (int (params.map cI).length)), (18, .one (.sl 1 (params.map cI))), (5, .one (.mp (.l 0))), (0, .one (.sl 5 (e.map cEx)))])
    (fun a => ⟨1, [(0, .map a.2.1 (encI eU a.2.2))], ou⟩) (fun m a => a.1 ≤ params.length ∧ SetIs (params.take a.1) a.2.1 a.2.2 ∧ (params.take a.1).Nodup ∧ m = params.length - a.1) (a0 := (0, 0, [])) (ρ := id) ⟨by omega, by simpa using SetIs.nil, by simp, rfl⟩
    (LessR.of rfl (by (repeat' first | exact FrSub.nil | refine FrSub.cons rfl (.ofEq rfl) ?_ | refine FrSub.oa rfl rfl ?_ | refine FrSub.consP rfl (.ofEq rfl) (by simp) ?_)) (by simp) (by repeat' first | exact LoSub.nil | refine LoSub.cons rfl ?_ rfl (by first | (simp; done) | exact ids_oaO (by simp)) ?_ | rfl | (refine (AObj.ren_pure _ _ ?_).symm; simp; done) | exact (ren_oaO _ _ _ _ fun _ => ids_vec (by simp; done)).symm | (simp [AObj.ren, renL, AC.ren]; done) | (simp [AObj.ren, renL, AC.ren]; rfl)) rfl rfl hou) fun m a hj => ?_
  obtain ⟨j, ck, l⟩ := a
  obtain ⟨hjl, ⟨f, hf, hfs⟩, hnd, rfl⟩ := hj
  simp only at hjl hf hfs hnd
  repeat first | ((with_reducible refine oj ?_); refine zau ?_) | (with_reducible refine zst ?_) | (with_reducible refine cExitMiss ?_ ?_; rfl) | (with_reducible refine ok ?_; first | refine ACode.condT rfl ?_ | refine ACode.condF rfl ?_)
  refine ACode.cond rfl (fun hb2 => ?_) (fun hb2 => ?_)
  · have hlt : j < params.length := by simpa using hb2
    obtain ⟨n, hn⟩ := get_of_lt hlt
    repeat first | ((with_reducible refine oj ?_); refine zau ?_) | (with_reducible refine zst ?_) | (with_reducible refine cExitMiss ?_ ?_; rfl) | (with_reducible refine ok ?_; first | refine ACode.condT rfl ?_ | refine ACode.condF rfl ?_)
    refine AOps.step1 rfl rfl rfl (AStep.indexAddr tabOk rfl rfl rfl rfl rfl rfl (.inl rfl) rfl (by omega) (map_get hn)) ?_
    repeat first | ((with_reducible refine oj ?_); refine zau ?_) | (with_reducible refine zst ?_) | (with_reducible refine cExitMiss ?_ ?_; rfl) | (with_reducible refine ok ?_; first | refine ACode.condT rfl ?_ | refine ACode.condF rfl ?_)
    refine AOps.step1 rfl rfl rfl (AStep.lookI eU (cm := true) (v := .agg []) rfl Tryd.underlying137 Tryd.underlying3 rfl rfl rfl (by kernel_rfl) zeroU hf (by cases f n <;> rfl)) ?_
    repeat first | ((with_reducible refine oj ?_); refine zau ?_) | (with_reducible refine zst ?_) | (with_reducible refine cExitMiss ?_ ?_; rfl) | (with_reducible refine ok ?_; first | refine ACode.condT rfl ?_ | refine ACode.condF rfl ?_)
    refine AOps.step1 rfl rfl rfl (AStep.allocU rfl (by kernel_rfl)) ?_
    refine AOps.step rfl rfl (AStep.storeU rfl (by kernel_rfl) rfl rfl rfl) ?_
    repeat first | ((with_reducible refine oj ?_); refine zau ?_) | (with_reducible refine zst ?_) | (with_reducible refine cExitMiss ?_ ?_; rfl) | (with_reducible refine ok ?_; first | refine ACode.condT rfl ?_ | refine ACode.condF rfl ?_)
    refine ACode.cond rfl (fun hb3 => ?_) (fun hb3 => ?_)
    · repeat first | ((with_reducible refine oj ?_); refine zau ?_) | (with_reducible refine zst ?_) | (with_reducible refine cExitMiss ?_ ?_; rfl) | (with_reducible refine ok ?_; first | refine ACode.condT rfl ?_ | refine ACode.condF rfl ?_)
      refine APure.fin rfl (WkF.ofEq ?_) (by simp) hou rfl
      rw [hfs n] at hb3
      have hd := dup_at (r := params.drop (j + 1) ++ allBinders e) hb3
      rw [← List.cons_append, ← List.append_assoc, ← split_at hn] at hd
      rw [hd]
    · rw [hfs n] at hb3
      repeat first | ((with_reducible refine oj ?_); refine zau ?_) | (with_reducible refine zst ?_) | (with_reducible refine cExitMiss ?_ ?_; rfl) | (with_reducible refine ok ?_; first | refine ACode.condT rfl ?_ | refine ACode.condF rfl ?_)
      refine AOps.step1 rfl rfl rfl (AStep.buildU rfl Tryd.underlying138 (by kernel_rfl)) ?_
      refine AOps.putI eU (v := ()) rfl rfl rfl Tryd.underlying137 Tryd.underlying3 rfl rfl rfl rfl hf fun ck' l' hf' => ?_
      repeat' first | ((with_reducible refine oj ?_); refine zau ?_) | (with_reducible refine zst ?_) | (with_reducible refine cExitMiss ?_ ?_; rfl) | (with_reducible refine ok ?_; first | refine ACode.condT rfl ?_ | refine ACode.condF rfl ?_) | ((with_reducible refine oj ?_); first | refine zad ?_ | refine zsu ?_ | refine zne ?_ | refine zeq ?_ | refine zmx ?_ | refine zmn ?_ | refine AOps.unG rfl rfl rfl ?_)
      exact cInv ⟨params.length - (j + 1), (j + 1, ck', l'), id, by omega, ⟨by omega, ⟨_, hf', by rw [take_succ_of hn]; exact set_put hfs n⟩, by rw [take_succ_of hn]; exact nodup_snoc hnd hb3, rfl⟩, LessR.of rfl (by (repeat' first | exact FrSub.nil | refine FrSub.cons rfl (.ofEq rfl) ?_ | refine FrSub.oa rfl rfl ?_ | refine FrSub.consP rfl (.ofEq rfl) (by simp) ?_)) (by simp) (by repeat' first | exact LoSub.nil | refine LoSub.cons rfl ?_ rfl (by first | (simp; done) | exact ids_oaO (by simp)) ?_ | rfl | (refine (AObj.ren_pure _ _ ?_).symm; simp; done) | exact (ren_oaO _ _ _ _ fun _ => ids_vec (by simp; done)).symm | (simp [AObj.ren, renL, AC.ren]; done) | (simp [AObj.ren, renL, AC.ren]; rfl)) rfl rfl hou⟩
  have hlt : j = params.length := by simp at hb2; omega
  subst hlt
  rw [List.take_length] at hfs hnd
  repeat first | ((with_reducible refine oj ?_); refine zau ?_) | (with_reducible refine zst ?_) | (with_reducible refine cExitMiss ?_ ?_; rfl) | (with_reducible refine ok ?_; first | refine ACode.condT rfl ?_ | refine ACode.condF rfl ?_)
  refine ACode.loopR hΓ (α := Nat × Nat × List (Nat × Int × Unit)) (fun a => [(37, .one (int a.1)), (36, .one (int (e.map cEx).length)), (35, .one (.sl 5 (e.map cEx))), (5, .one (.mp (.l 0)))])
    (fun a => ⟨1, [(0, .map a.2.1 (encI eU a.2.2))], ou⟩) (fun m a => a.1 ≤ e.length ∧ SetIs (params ++ allBinders (e.take a.1)) a.2.1 a.2.2 ∧ (params ++ allBinders (e.take a.1)).Nodup ∧ m = e.length - a.1) (a0 := (0, ck, l)) (ρ := id) ⟨by omega, ⟨f, hf, by simpa [allBinders] using hfs⟩, by simpa [allBinders] using hnd, rfl⟩
    (LessR.of rfl (by (repeat' first | exact FrSub.nil | refine FrSub.cons rfl (.ofEq rfl) ?_ | refine FrSub.oa rfl rfl ?_ | refine FrSub.consP rfl (.ofEq rfl) (by simp) ?_)) (by simp) (by repeat' first | exact LoSub.nil | refine LoSub.cons rfl ?_ rfl (by first | (simp; done) | exact ids_oaO (by simp)) ?_ | rfl | (refine (AObj.ren_pure _ _ ?_).symm; simp; done) | exact (ren_oaO _ _ _ _ fun _ => ids_vec (by simp; done)).symm | (simp [AObj.ren, renL, AC.ren]; done) | (simp [AObj.ren, renL, AC.ren]; rfl)) rfl rfl hou) fun m a hj => ?_
  clear hf hfs hnd hb2 hjl f
  obtain ⟨j, ck, l⟩ := a
  obtain ⟨hjl, ⟨f, hf, hfs⟩, hnd, rfl⟩ := hj
  simp only at hjl hf hfs hnd
  repeat first | ((with_reducible refine oj ?_); refine zau ?_) | (with_reducible refine zst ?_) | (with_reducible refine cExitMiss ?_ ?_; rfl) | (with_reducible refine ok ?_; first | refine ACode.condT rfl ?_ | refine ACode.condF rfl ?_)
  refine ACode.cond rfl (fun hb2 => ?_) (fun hb2 => ?_)
  · have hlt : j < e.length := by simpa using hb2
    obtain ⟨x, hx⟩ := get_of_lt hlt
    have hxm := List.mem_of_getElem? hx
    have hxo := he.x x hxm
    have hxl := hbl x hxm
    have hab : allBinders (e.take (j + 1)) = allBinders (e.take j) ++ exBinders x := by rw [take_succ_of hx]; simp [allBinders]
    have hall : allBinders e = allBinders (e.take j) ++ (exBinders x ++ allBinders (e.drop (j + 1))) := by
      conv => lhs; rw [split_at hx]
      simp [allBinders]
    repeat first | ((with_reducible refine oj ?_); refine zau ?_) | (with_reducible refine zst ?_) | (with_reducible refine cExitMiss ?_ ?_; rfl) | (with_reducible refine ok ?_; first | refine ACode.condT rfl ?_ | refine ACode.condF rfl ?_)
    refine AOps.step1 rfl rfl rfl (AStep.indexAddr tabOk rfl rfl rfl rfl rfl rfl (.inl rfl) rfl (by omega) (map_get hx)) ?_
    repeat first | ((with_reducible refine oj ?_); refine zau ?_) | (with_reducible refine zst ?_) | (with_reducible refine cExitMiss ?_ ?_; rfl) | (with_reducible refine ok ?_; first | refine ACode.condT rfl ?_ | refine ACode.condF rfl ?_)
    refine AOps.freeze1 (.l 2) 49 rfl rfl ?_
    refine AOps.wk 49 rfl (y := .one (.box (cTr (.mk x.op 0 x.binds [] x.alts)))) (.one (Wk.box ?_)) ?_
    · exact .cons (.refl _) (.cons (.refl _) (.cons (.refl _) (.cons (.nilS 1) (.cons (.refl _) .nil))))
    have hcall := Binders_ok hΓ (.mk x.op 0 x.binds [] x.alts) (by simpa [bindLen] using hxl.2) hxo.a
    refine AOps.callC hΓ hcall rfl rfl rfl rfl rfl rfl rfl hou (by simp) ?_
    have heb : bindersN x.op x.binds x.alts = exBinders x := rfl
    simp only [Tr.op_mk, Tr.binds_mk, Tr.alts_mk, heb]
    repeat first | ((with_reducible refine oj ?_); refine zau ?_) | (with_reducible refine zst ?_) | (with_reducible refine cExitMiss ?_ ?_; rfl) | (with_reducible refine ok ?_; first | refine ACode.condT rfl ?_ | refine ACode.condF rfl ?_)
    refine ACode.loopR hΓ (α := Nat × Nat × List (Nat × Int × Unit)) (fun a => [(52, .one (int a.1)), (51, .one (int ((exBinders x).map cI).length)), (50, .one (.sl 1 ((exBinders x).map cI))), (37, .one (int j)), (36, .one (int (e.map cEx).length)), (35, .one (.sl 5 (e.map cEx))), (5, .one (.mp (.l 0)))])
      (fun a => ⟨1, [(0, .map a.2.1 (encI eU a.2.2))], ou⟩) (fun m a => a.1 ≤ (exBinders x).length ∧ SetIs (params ++ allBinders (e.take j) ++ (exBinders x).take a.1) a.2.1 a.2.2 ∧ (params ++ allBinders (e.take j) ++ (exBinders x).take a.1).Nodup ∧ m = (exBinders x).length - a.1) (a0 := (0, ck, l)) (ρ := id) ⟨by omega, ⟨f, hf, by simpa using hfs⟩, by simpa using hnd, rfl⟩
      (LessR.of rfl (by (repeat' first | exact FrSub.nil | refine FrSub.cons rfl (.ofEq rfl) ?_ | refine FrSub.oa rfl rfl ?_ | refine FrSub.consP rfl (.ofEq rfl) (by simp) ?_)) (by simp) (by repeat' first | exact LoSub.nil | refine LoSub.cons rfl ?_ rfl (by first | (simp; done) | exact ids_oaO (by simp)) ?_ | rfl | (refine (AObj.ren_pure _ _ ?_).symm; simp; done) | exact (ren_oaO _ _ _ _ fun _ => ids_vec (by simp; done)).symm | (simp [AObj.ren, renL, AC.ren]; done) | (simp [AObj.ren, renL, AC.ren]; rfl)) rfl rfl hou) fun m a hi => ?_
    clear hf hfs hnd f
    obtain ⟨i, ck, l⟩ := a
    obtain ⟨hil, ⟨f, hf, hfs⟩, hnd, rfl⟩ := hi
    simp only at hil hf hfs hnd
    repeat first | ((with_reducible refine oj ?_); refine zau ?_) | (with_reducible refine zst ?_) | (with_reducible refine cExitMiss ?_ ?_; rfl) | (with_reducible refine ok ?_; first | refine ACode.condT rfl ?_ | refine ACode.condF rfl ?_)
    refine ACode.cond rfl (fun hb3 => ?_) (fun hb3 => ?_)
    · have hlt2 : i < (exBinders x).length := by simpa using hb3
      obtain ⟨n, hn⟩ := get_of_lt hlt2
      repeat first | ((with_reducible refine oj ?_); refine zau ?_) | (with_reducible refine zst ?_) | (with_reducible refine cExitMiss ?_ ?_; rfl) | (with_reducible refine ok ?_; first | refine ACode.condT rfl ?_ | refine ACode.condF rfl ?_)
      refine AOps.step1 rfl rfl rfl (AStep.indexAddr tabOk rfl rfl rfl rfl rfl rfl (.inl rfl) rfl (by omega) (map_get hn)) ?_
      repeat first | ((with_reducible refine oj ?_); refine zau ?_) | (with_reducible refine zst ?_) | (with_reducible refine cExitMiss ?_ ?_; rfl) | (with_reducible refine ok ?_; first | refine ACode.condT rfl ?_ | refine ACode.condF rfl ?_)
      refine AOps.step1 rfl rfl rfl (AStep.lookI eU (cm := true) (v := .agg []) rfl Tryd.underlying137 Tryd.underlying3 rfl rfl rfl (by kernel_rfl) zeroU hf (by cases f n <;> rfl)) ?_
      repeat first | ((with_reducible refine oj ?_); refine zau ?_) | (with_reducible refine zst ?_) | (with_reducible refine cExitMiss ?_ ?_; rfl) | (with_reducible refine ok ?_; first | refine ACode.condT rfl ?_ | refine ACode.condF rfl ?_)
      refine AOps.step1 rfl rfl rfl (AStep.allocU rfl (by kernel_rfl)) ?_
      refine AOps.step rfl rfl (AStep.storeU rfl (by kernel_rfl) rfl rfl rfl) ?_
      repeat first | ((with_reducible refine oj ?_); refine zau ?_) | (with_reducible refine zst ?_) | (with_reducible refine cExitMiss ?_ ?_; rfl) | (with_reducible refine ok ?_; first | refine ACode.condT rfl ?_ | refine ACode.condF rfl ?_)
      refine ACode.cond rfl (fun hb4 => ?_) (fun hb4 => ?_)
      · repeat first | ((with_reducible refine oj ?_); refine zau ?_) | (with_reducible refine zst ?_) | (with_reducible refine cExitMiss ?_ ?_; rfl) | (with_reducible refine ok ?_; first | refine ACode.condT rfl ?_ | refine ACode.condF rfl ?_)
        refine APure.fin rfl (WkF.ofEq ?_) (by simp) hou rfl
        rw [hfs n] at hb4
        have hd := dup_at (r := (exBinders x).drop (i + 1) ++ allBinders (e.drop (j + 1))) hb4
        rw [← List.cons_append, List.append_assoc (params ++ _), ← List.append_assoc ((exBinders x).take i), ← split_at hn, List.append_assoc, ← hall] at hd
        rw [hd]
      · rw [hfs n] at hb4
        repeat first | ((with_reducible refine oj ?_); refine zau ?_) | (with_reducible refine zst ?_) | (with_reducible refine cExitMiss ?_ ?_; rfl) | (with_reducible refine ok ?_; first | refine ACode.condT rfl ?_ | refine ACode.condF rfl ?_)
        refine AOps.step1 rfl rfl rfl (AStep.buildU rfl Tryd.underlying138 (by kernel_rfl)) ?_
        refine AOps.putI eU (v := ()) rfl rfl rfl Tryd.underlying137 Tryd.underlying3 rfl rfl rfl rfl hf fun ck' l' hf' => ?_
        repeat' first | ((with_reducible refine oj ?_); refine zau ?_) | (with_reducible refine zst ?_) | (with_reducible refine cExitMiss ?_ ?_; rfl) | (with_reducible refine ok ?_; first | refine ACode.condT rfl ?_ | refine ACode.condF rfl ?_) | ((with_reducible refine oj ?_); first | refine zad ?_ | refine zsu ?_ | refine zne ?_ | refine zeq ?_ | refine zmx ?_ | refine zmn ?_ | refine AOps.unG rfl rfl rfl ?_)
        exact cInv ⟨(exBinders x).length - (i + 1), (i + 1, ck', l'), id, by omega, ⟨by omega, ⟨_, hf', by rw [take_succ_of hn, ← List.append_assoc]; exact set_put hfs n⟩, by rw [take_succ_of hn, ← List.append_assoc]; exact nodup_snoc hnd hb4, rfl⟩, LessR.of rfl (by (repeat' first | exact FrSub.nil | refine FrSub.cons rfl (.ofEq rfl) ?_ | refine FrSub.oa rfl rfl ?_ | refine FrSub.consP rfl (.ofEq rfl) (by simp) ?_)) (by simp) (by repeat' first | exact LoSub.nil | refine LoSub.cons rfl ?_ rfl (by first | (simp; done) | exact ids_oaO (by simp)) ?_ | rfl | (refine (AObj.ren_pure _ _ ?_).symm; simp; done) | exact (ren_oaO _ _ _ _ fun _ => ids_vec (by simp; done)).symm | (simp [AObj.ren, renL, AC.ren]; done) | (simp [AObj.ren, renL, AC.ren]; rfl)) rfl rfl hou⟩
    · have hlt2 : i = (exBinders x).length := by simp at hb3; omega
      subst hlt2
      rw [List.take_length, List.append_assoc, ← hab] at hfs hnd
      repeat' first | ((with_reducible refine oj ?_); refine zau ?_) | (with_reducible refine zst ?_) | (with_reducible refine cExitMiss ?_ ?_; rfl) | (with_reducible refine ok ?_; first | refine ACode.condT rfl ?_ | refine ACode.condF rfl ?_) | ((with_reducible refine oj ?_); first | refine zad ?_ | refine zsu ?_ | refine zne ?_ | refine zeq ?_ | refine zmx ?_ | refine zmn ?_ | refine AOps.unG rfl rfl rfl ?_)
      exact cInv ⟨e.length - (j + 1), (j + 1, ck, l), id, by omega, ⟨by omega, ⟨_, hf, hfs⟩, hnd, rfl⟩, LessR.of rfl (by (repeat' first | exact FrSub.nil | refine FrSub.cons rfl (.ofEq rfl) ?_ | refine FrSub.oa rfl rfl ?_ | refine FrSub.consP rfl (.ofEq rfl) (by simp) ?_)) (by simp) (by repeat' first | exact LoSub.nil | refine LoSub.cons rfl ?_ rfl (by first | (simp; done) | exact ids_oaO (by simp)) ?_ | rfl | (refine (AObj.ren_pure _ _ ?_).symm; simp; done) | exact (ren_oaO _ _ _ _ fun _ => ids_vec (by simp; done)).symm | (simp [AObj.ren, renL, AC.ren]; done) | (simp [AObj.ren, renL, AC.ren]; rfl)) rfl rfl hou⟩
  · have hlt : j = e.length := by simp at hb2; omega
    subst hlt
    rw [List.take_length] at hnd
    repeat first | ((with_reducible refine oj ?_); refine zau ?_) | (with_reducible refine zst ?_) | (with_reducible refine cExitMiss ?_ ?_; rfl) | (with_reducible refine ok ?_; first | refine ACode.condT rfl ?_ | refine ACode.condF rfl ?_)
    refine APure.fin rfl (WkF.ofEq ?_) (by simp) hou rfl
    rw [(hasDup_false _).2 hnd]
end Go.Proofs.YtgdionbeeodaaaaDoor
/- Grow, walked. -/
namespace Go.Proofs.YtgdionbeeodaaaaDoor
open Go Go.Abs Go.CoreX
set_option maxRecDepth 10000
set_option linter.unusedVariables false
set_option linter.unusedSimpArgs false
variable {Γ : List (Nat × List AC)}
@[simp] theorem ids_takeA (p : Abs.Id → Prop) (n : Nat) (l : List Alt) : idsS p (List.take n (l.map cAlt)) := by rw [← List.map_take]; exact ids_cAlts p _
@[simp] theorem ids_takeI (p : Abs.Id → Prop) (n : Nat) (l : List Int) : idsS p (List.take n (l.map cI)) := by rw [← List.map_take]; exact ids_cIs p _
@[simp] theorem renS_nil (ρ : Nat → Nat) : renS ρ [] = [] := rfl
/-- Pointers to trees, the first ones laid. -/
def nodesC (ts : List Tr) (n : Nat) : List AC := ts.map (fun t => .box (cTr t)) ++ List.replicate (n - ts.length) (.lit (.pointer none))
theorem nodesC_nil (n : Nat) : nodesC [] n = List.replicate n (.lit (.pointer none)) := by simp [nodesC]
theorem nodesC_len {ts : List Tr} {n : Nat} (h : ts.length ≤ n) : (nodesC ts n).length = n := by simp [nodesC]; omega
theorem nodesC_get {ts : List Tr} {n k : Nat} {t : Tr} (h : ts[k]? = some t) : (nodesC ts n)[k]? = some (.box (cTr t)) := by
  have hk := (List.getElem?_eq_some_iff.1 h).1
  unfold nodesC
  rw [List.getElem?_append_left (by simpa using hk)]
  simp [h]
theorem nodesC_set {ts : List Tr} {n : Nat} (h : ts.length < n) (t : Tr) : (nodesC ts n).set ts.length (.box (cTr t)) = nodesC (ts ++ [t]) n := by
  unfold nodesC
  rw [List.set_append_right _ _ (by simp)]
  simp only [List.length_map, Nat.sub_self, List.map_append, List.map_cons, List.map_nil, List.append_assoc, List.length_append, List.length_singleton]
  congr 1
  rw [show n - ts.length = (n - (ts.length + 1)) + 1 by omega, List.replicate_succ]
  rfl
theorem ids_boxes (p : Abs.Id → Prop) : ∀ ts : List Tr, idsL p (ts.map fun t => AC.box (cTr t))
  | [] => by simp
  | t :: ts => by simp [ids_boxes p ts]
theorem idsL_app {p : Abs.Id → Prop} : ∀ {a b : List AC}, idsL p a → idsL p b → idsL p (a ++ b)
  | [], _, _, h => h
  | _ :: _, _, h, k => ⟨h.1, idsL_app h.2 k⟩
@[simp] theorem ids_nodesC (p : Abs.Id → Prop) (ts : List Tr) (n : Nat) : idsL p (nodesC ts n) := idsL_app (ids_boxes p ts) (ids_zs p _ _)
/-- The trees of some kids. -/
def kidsT (ts : List Tr) (ks : List Int) : List Tr := ks.map fun k => ts.getD k.toNat default
theorem kidsT_succ {ts : List Tr} {ks : List Int} {i : Nat} {k : Int} (h : ks[i]? = some k) : kidsT ts (ks.take (i + 1)) = kidsT ts (ks.take i) ++ [ts.getD k.toNat default] := by
  simp [kidsT, List.take_add_one, h]
theorem nodeOf_eq (ts : List Tr) (x : Ex) : nodeOf ts x = .mk x.op x.n x.binds (kidsT ts x.kids) x.alts := rfl
theorem take_get {α : Type} {l : List α} {j : Nat} {a : α} (h : l[j]? = some a) : l.take (j + 1) = l.take j ++ [a] := by rw [List.take_add_one, h]; rfl
set_option maxHeartbeats 1000000 in
theorem Grow_ok (hΓ : ∀ g cs, (g, cs) ∈ Γ → idsL isO cs) (e : List Ex) (he : okE e) (hin : kidsIn e) (hne : e ≠ []) : APure Tryd.prog Γ 53 [.one (.sl 5 (e.map cEx))] (.one (.box (cTr (grow e)))) := by
  have hel := he.l
  intro ou
  refine AFn.walk 85 tabOk Tryd.func53 rfl (by kernel_rfl) rfl rfl fun hou => ?_
  repeat first | ((with_reducible refine oj ?_); refine zau ?_) | (with_reducible refine zst ?_) | (with_reducible refine cExitMiss ?_ ?_; rfl) | (with_reducible refine ok ?_; first | refine ACode.condT rfl ?_ | refine ACode.condF rfl ?_)
  have hb : ti70.bytes * (e.map cEx).length ≤ 281474976710656 := by simp; show 8 * _ ≤ _; omega
  have hb2 : (e.map cEx).length ≤ 281474976710656 := by simp; omega
  refine AOps.step1 rfl rfl rfl (AStep.makeArr tabOk rfl rfl rfl rfl rfl rfl rfl rfl hb hb2) ?_
  repeat first | ((with_reducible refine oj ?_); refine zau ?_) | (with_reducible refine zst ?_) | (with_reducible refine cExitMiss ?_ ?_; rfl) | (with_reducible refine ok ?_; first | refine ACode.condT rfl ?_ | refine ACode.condF rfl ?_)
  refine ACode.loopR hΓ (α := Nat) (fun j => [(16, .one (int j)), (15, .one (int (e.map cEx).length)), (14, .one (.sl 5 (e.map cEx))), (3, .one (.arr (.l 0) 1 0 (e.map cEx).length (e.map cEx).length)), (0, .one (.sl 5 (e.map cEx)))])
    (fun j => ⟨1, [(0, .cells (nodesC (growL (e.take j)) (e.map cEx).length))], ou⟩) (fun m j => j ≤ e.length ∧ m = e.length - j) (a0 := 0) (ρ := id) ⟨by omega, rfl⟩
    (LessR.of rfl (by (repeat' first | exact FrSub.nil | refine FrSub.cons rfl (.ofEq rfl) ?_ | refine FrSub.oa rfl rfl ?_ | refine FrSub.consP rfl (.ofEq rfl) (by simp) ?_)) (by simp) (LoSub.cons rfl (by rw [AObj.ren_pure _ _ (by simp)]; show AObj.cells (List.replicate _ _) = AObj.cells (nodesC [] _); rw [nodesC_nil]) rfl (by simp) .nil) rfl rfl hou) fun m j hj => ?_
  obtain ⟨hjl, rfl⟩ := hj
  repeat first | ((with_reducible refine oj ?_); refine zau ?_) | (with_reducible refine zst ?_) | (with_reducible refine cExitMiss ?_ ?_; rfl) | (with_reducible refine ok ?_; first | refine ACode.condT rfl ?_ | refine ACode.condF rfl ?_)
  refine ACode.cond rfl (fun hb2 => ?_) (fun hb2 => ?_)
  · have hlt : j < e.length := by simpa using hb2
    obtain ⟨x, hx⟩ := get_of_lt hlt
    have hxo := he.x x (List.mem_of_getElem? hx)
    have hxk := hxo.k
    have hxa := hxo.a
    have hxin := hin j x hx
    have hgl : (growL (e.take j)).length = j := by rw [growL_len]; simp; omega
    repeat first | ((with_reducible refine oj ?_); refine zau ?_) | (with_reducible refine zst ?_) | (with_reducible refine cExitMiss ?_ ?_; rfl) | (with_reducible refine ok ?_; first | refine ACode.condT rfl ?_ | refine ACode.condF rfl ?_)
    refine AOps.step1 rfl rfl rfl (AStep.indexAddr tabOk rfl rfl rfl rfl rfl rfl (.inl rfl) rfl (by omega) (map_get hx)) ?_
    repeat first | ((with_reducible refine oj ?_); refine zau ?_) | (with_reducible refine zst ?_) | (with_reducible refine cExitMiss ?_ ?_; rfl) | (with_reducible refine ok ?_; first | refine ACode.condT rfl ?_ | refine ACode.condF rfl ?_)
    have hcl := Clone_ok (Γ := Γ) x.binds hxo.b
    refine ACode.drawXH (va := .one (.ptr (.l 2) 0)) (σ1 := (((St.mk 1 [(0, .cells (nodesC (growL (e.take j)) (e.map cEx).length))] ou).push (.cells (ti53.zero.map .lit))).set (.l 1) (.cells (cEx x))).push (.cells [int x.op, int x.n, .sl 1 (x.binds.map cI), .lit (.slice none 0 0), .lit (.slice none 0 0)]))
      tabOk 9 8 [(6, .one (.sl 1 (x.binds.map cI)))] follows (by kernel_rfl) rfl rfl rfl rfl rfl rfl rfl (HStep.auto tabOk rfl) ?_ ?_ ?_
    · exact .call hΓ hcl hou (by simp) rfl rfl rfl rfl rfl rfl .nil
    · exact .call hΓ hcl hou (by simp) rfl rfl rfl rfl rfl rfl .nil
    repeat first | ((with_reducible refine oj ?_); refine zau ?_) | (with_reducible refine zst ?_) | (with_reducible refine cExitMiss ?_ ?_; rfl) | (with_reducible refine ok ?_; first | refine ACode.condT rfl ?_ | refine ACode.condF rfl ?_)
    refine ACode.grow 2 3 70 1 rfl rfl ?_
    refine ACode.loopR hΓ (α := Nat) (fun i => [(33, .one (int i)), (32, .one (int (x.kids.map cI).length)), (31, .one (.sl 1 (x.kids.map cI))), (6, .one (.ptr (.l 2) 0)), (5, .one (.ptr (.l 1) 0)), (4, .one (int j)), (16, .one (int j)), (15, .one (int (e.map cEx).length)), (14, .one (.sl 5 (e.map cEx))), (3, .one (.arr (.l 0) 1 0 (e.map cEx).length (e.map cEx).length)), (0, .one (.sl 5 (e.map cEx)))])
      (fun i => ⟨4, [(3, .tok 70 1 i), (2, .cells [int x.op, int x.n, .sl 1 (x.binds.map cI), .gs 1 ((kidsT (growL (e.take j)) (x.kids.take i)).map cB) (.l 3), .lit (.slice none 0 0)]), (1, .cells (cEx x)), (0, .cells (nodesC (growL (e.take j)) (e.map cEx).length))], ou⟩)
      (fun m i => i ≤ x.kids.length ∧ m = x.kids.length - i) (a0 := 0) (ρ := id) ⟨by omega, rfl⟩ (LessR.of rfl (by (repeat' first | exact FrSub.nil | refine FrSub.cons rfl (.ofEq rfl) ?_ | refine FrSub.oa rfl rfl ?_ | refine FrSub.consP rfl (.ofEq rfl) (by simp) ?_)) (by simp) ?_ rfl rfl hou) fun m i hi => ?_
    · repeat' first | exact LoSub.nil | refine LoSub.cons rfl ?_ rfl (by first | (simp; done) | exact ids_oaO (by simp)) ?_ | rfl | (refine (AObj.ren_pure _ _ ?_).symm; simp; done) | exact (ren_oaO _ _ _ _ fun _ => ids_vec (by simp; done)).symm | (simp [AObj.ren, renL, AC.ren]; done) | (simp [AObj.ren, renL, AC.ren]; rfl)
      all_goals (simp [AObj.ren, renL, AC.ren, kidsT]; rfl)
    obtain ⟨hil, rfl⟩ := hi
    repeat first | ((with_reducible refine oj ?_); refine zau ?_) | (with_reducible refine zst ?_) | (with_reducible refine cExitMiss ?_ ?_; rfl) | (with_reducible refine ok ?_; first | refine ACode.condT rfl ?_ | refine ACode.condF rfl ?_)
    refine ACode.cond rfl (fun hb3 => ?_) (fun hb3 => ?_)
    · have hlt2 : i < x.kids.length := by simpa using hb3
      obtain ⟨k, hk⟩ := get_of_lt hlt2
      have hkb := hxin k (List.mem_of_getElem? hk)
      obtain ⟨k', rfl⟩ : ∃ k' : Nat, k = k' := ⟨k.toNat, by omega⟩
      obtain ⟨tk, htk⟩ := get_of_lt (l := growL (e.take j)) (i := k') (by omega)
      have htd : (growL (e.take j)).getD (k' : Int).toNat default = tk := by rw [Int.toNat_natCast, List.getD_eq_getElem?_getD, htk]; rfl
      have hks := kidsT_succ (ts := growL (e.take j)) hk
      rw [htd] at hks
      have hkl : ((kidsT (growL (e.take j)) (x.kids.take i)).map cB).length = i := by simp [kidsT]; omega
      repeat first | ((with_reducible refine oj ?_); refine zau ?_) | (with_reducible refine zst ?_) | (with_reducible refine cExitMiss ?_ ?_; rfl) | (with_reducible refine ok ?_; first | refine ACode.condT rfl ?_ | refine ACode.condF rfl ?_)
      refine AOps.step1 rfl rfl rfl (AStep.indexAddr tabOk rfl rfl rfl rfl rfl rfl (.inl rfl) rfl (by omega) (map_get hk)) ?_
      repeat first | ((with_reducible refine oj ?_); refine zau ?_) | (with_reducible refine zst ?_) | (with_reducible refine cExitMiss ?_ ?_; rfl) | (with_reducible refine ok ?_; first | refine ACode.condT rfl ?_ | refine ACode.condF rfl ?_)
      refine ACode.drawXH (va := .one (.gs 1 ((kidsT (growL (e.take j)) (x.kids.take i)).map cB ++ [cB tk]) (.l 4))) (σ1 := ((St.mk 4 [(3, .tok 70 1 i), (2, .cells [int x.op, int x.n, .sl 1 (x.binds.map cI), .gs 1 ((kidsT (growL (e.take j)) (x.kids.take i)).map cB) (.l 3), .lit (.slice none 0 0)]), (1, .cells (cEx x)), (0, .cells (nodesC (growL (e.take j)) (e.map cEx).length))] ou).set (.l 3) .dead).push (.tok 70 1 ((kidsT (growL (e.take j)) (x.kids.take i)).map cB ++ [cB tk]).length))
        tabOk 11 10 [(7, .one (.ptr (.l 0) k')), (8, .one (.box (cTr tk)))] follows (by kernel_rfl) rfl rfl rfl rfl rfl rfl rfl ?_ ?_ ?_ ?_
      · refine HStep.plain rfl (AStep.append (s := 1) (es := (kidsT (growL (e.take j)) (x.kids.take i)).map cB) (news := [cB tk]) (ti := ti71) (σ := ⟨4, [(3, .tok 70 1 i), (2, .cells [int x.op, int x.n, .sl 1 (x.binds.map cI), .gs 1 ((kidsT (growL (e.take j)) (x.kids.take i)).map cB) (.l 3), .lit (.slice none 0 0)]), (1, .cells (cEx x)), (0, .cells (nodesC (growL (e.take j)) (e.map cEx).length))], ou⟩) tabOk rfl rfl rfl rfl rfl rfl (Base.gs' _ 70 1 ((kidsT (growL (e.take j)) (x.kids.take i)).map cB) (.l 3) rfl hkl.symm) (.sl _ _) rfl ?_ ?_)
        · rw [hkl]; show (i + 1) * 8 ≤ _; omega
        · rw [hkl]; show i + 1 ≤ _; omega
      · refine .step rfl (HStep.plain rfl (idxI tabOk rfl rfl rfl rfl rfl rfl rfl (by simp; omega))) ?_
        exact .step rfl (HStep.plain rfl (AStep.loadOwn tabOk rfl rfl rfl rfl rfl rfl (nodesC_get htk))) .nil
      · refine .step rfl (HStep.plain rfl (idxI tabOk rfl rfl rfl rfl rfl rfl rfl (by simp; omega))) ?_
        exact .step rfl (HStep.plain rfl (AStep.loadOwn tabOk rfl rfl rfl rfl rfl rfl (nodesC_get htk))) .nil
      repeat' first | ((with_reducible refine oj ?_); refine zau ?_) | (with_reducible refine zst ?_) | (with_reducible refine cExitMiss ?_ ?_; rfl) | (with_reducible refine ok ?_; first | refine ACode.condT rfl ?_ | refine ACode.condF rfl ?_) | ((with_reducible refine oj ?_); first | refine zad ?_ | refine zsu ?_ | refine zne ?_ | refine zeq ?_ | refine zmx ?_ | refine zmn ?_ | refine AOps.unG rfl rfl rfl ?_)
      refine cInv ⟨x.kids.length - (i + 1), i + 1, fun k => if k = 3 then 4 else k, by omega, ⟨by omega, rfl⟩, LessR.of rfl (by (repeat' first | exact FrSub.nil | refine FrSub.cons rfl (.ofEq rfl) ?_ | refine FrSub.oa rfl rfl ?_ | refine FrSub.consP rfl (.ofEq rfl) (by simp) ?_)) (by simp) ?_ rfl rfl hou⟩
      repeat' first | exact LoSub.nil | refine LoSub.cons rfl ?_ rfl (by first | (simp; done) | exact ids_oaO (by simp)) ?_ | rfl | (refine (AObj.ren_pure _ _ ?_).symm; simp; done) | exact (ren_oaO _ _ _ _ fun _ => ids_vec (by simp; done)).symm | (simp [AObj.ren, renL, AC.ren]; done) | (simp [AObj.ren, renL, AC.ren]; rfl)
      · simp only [AObj.ren, List.length_append, hkl]; rfl
      · rw [hks]; simp only [AObj.ren, renL, AC.ren, ren_cIs, ren_cBs]; rw [List.map_append]; rfl
    have hlt2 : i = x.kids.length := by simp at hb3; omega
    subst hlt2
    rw [List.take_length]
    repeat first | ((with_reducible refine oj ?_); refine zau ?_) | (with_reducible refine zst ?_) | (with_reducible refine cExitMiss ?_ ?_; rfl) | (with_reducible refine ok ?_; first | refine ACode.condT rfl ?_ | refine ACode.condF rfl ?_)
    refine ACode.grow 2 4 89 2 rfl rfl ?_
    refine ACode.loopR hΓ (α := Nat) (fun i => [(54, .one (int i)), (53, .one (int (x.alts.map cAlt).length)), (52, .one (.sl 2 (x.alts.map cAlt))), (6, .one (.ptr (.l 2) 0)), (4, .one (int j)), (16, .one (int j)), (15, .one (int (e.map cEx).length)), (14, .one (.sl 5 (e.map cEx))), (3, .one (.arr (.l 0) 1 0 (e.map cEx).length (e.map cEx).length)), (0, .one (.sl 5 (e.map cEx)))])
      (fun i => ⟨5, [(4, .tok 89 2 i), (2, .cells [int x.op, int x.n, .sl 1 (x.binds.map cI), .gs 1 ((kidsT (growL (e.take j)) x.kids).map cB) (.l 3), .gs 2 ((x.alts.take i).map cAlt) (.l 4)]), (0, .cells (nodesC (growL (e.take j)) (e.map cEx).length))], ou⟩)
      (fun m i => i ≤ x.alts.length ∧ m = x.alts.length - i) (a0 := 0) (ρ := id) ⟨by omega, rfl⟩ (LessR.of rfl (by (repeat' first | exact FrSub.nil | refine FrSub.cons rfl (.ofEq rfl) ?_ | refine FrSub.oa rfl rfl ?_ | refine FrSub.consP rfl (.ofEq rfl) (by simp) ?_)) (by simp) ?_ rfl rfl hou) fun m i hi => ?_
    · repeat' first | exact LoSub.nil | refine LoSub.cons rfl ?_ rfl (by first | (simp; done) | exact ids_oaO (by simp)) ?_ | rfl | (refine (AObj.ren_pure _ _ ?_).symm; simp; done) | exact (ren_oaO _ _ _ _ fun _ => ids_vec (by simp; done)).symm | (simp [AObj.ren, renL, AC.ren]; done) | (simp [AObj.ren, renL, AC.ren]; rfl)
      all_goals (simp [AObj.ren, renL, AC.ren]; exact ⟨rfl, rfl⟩)
    obtain ⟨hil, rfl⟩ := hi
    repeat first | ((with_reducible refine oj ?_); refine zau ?_) | (with_reducible refine zst ?_) | (with_reducible refine cExitMiss ?_ ?_; rfl) | (with_reducible refine ok ?_; first | refine ACode.condT rfl ?_ | refine ACode.condF rfl ?_)
    refine ACode.cond rfl (fun hb3 => ?_) (fun hb3 => ?_)
    · have hlt2 : i < x.alts.length := by simpa using hb3
      obtain ⟨a, ha⟩ := get_of_lt hlt2
      have hal : ((x.alts.take i).map cAlt).length = i := by simp; omega
      have hca := Clone_ok (Γ := Γ) a.binds (hxo.ab a (List.mem_of_getElem? ha))
      repeat first | ((with_reducible refine oj ?_); refine zau ?_) | (with_reducible refine zst ?_) | (with_reducible refine cExitMiss ?_ ?_; rfl) | (with_reducible refine ok ?_; first | refine ACode.condT rfl ?_ | refine ACode.condF rfl ?_)
      refine AOps.step1 rfl rfl rfl (AStep.indexAddr tabOk rfl rfl rfl rfl rfl rfl (.inl rfl) rfl (by omega) (map_get ha)) ?_
      repeat first | ((with_reducible refine oj ?_); refine zau ?_) | (with_reducible refine zst ?_) | (with_reducible refine cExitMiss ?_ ?_; rfl) | (with_reducible refine ok ?_; first | refine ACode.condT rfl ?_ | refine ACode.condF rfl ?_)
      refine ACode.drawXH (va := .one (.gs 2 ((x.alts.take i).map cAlt ++ [cAlt a]) (.l 6))) (σ1 := ((((St.mk 5 [(4, .tok 89 2 i), (2, .cells [int x.op, int x.n, .sl 1 (x.binds.map cI), .gs 1 ((kidsT (growL (e.take j)) x.kids).map cB) (.l 3), .gs 2 ((x.alts.take i).map cAlt) (.l 4)]), (0, .cells (nodesC (growL (e.take j)) (e.map cEx).length))] ou).push (.cells (ti89.zero.map .lit))).set (.l 5) (.cells (cAlt a))).set (.l 4) .dead).push (.tok 89 2 ((x.alts.take i).map cAlt ++ [cAlt a]).length))
        tabOk 13 12 [(9, .one (.sl 1 (a.binds.map cI)))] follows (by kernel_rfl) rfl rfl rfl rfl rfl rfl rfl ?_ ?_ ?_ ?_
      · refine HStep.plain rfl (AStep.append (s := 2) (es := (x.alts.take i).map cAlt) (news := [cAlt a]) (ti := ti51) (σ := (((St.mk 5 [(4, .tok 89 2 i), (2, .cells [int x.op, int x.n, .sl 1 (x.binds.map cI), .gs 1 ((kidsT (growL (e.take j)) x.kids).map cB) (.l 3), .gs 2 ((x.alts.take i).map cAlt) (.l 4)]), (0, .cells (nodesC (growL (e.take j)) (e.map cEx).length))] ou).push (.cells (ti89.zero.map .lit))).set (.l 5) (.cells (cAlt a)))) tabOk rfl rfl rfl rfl rfl rfl (Base.gs' _ 89 2 ((x.alts.take i).map cAlt) (.l 4) rfl hal.symm) (.sl _ _) rfl ?_ ?_)
        · rw [hal]; show (i + 1) * 32 ≤ _; omega
        · rw [hal]; show i + 1 ≤ _; omega
      · exact .call hΓ hca hou (by simp) rfl rfl rfl rfl rfl rfl .nil
      · exact .call hΓ hca hou (by simp) rfl rfl rfl rfl rfl rfl .nil
      repeat' first | ((with_reducible refine oj ?_); refine zau ?_) | (with_reducible refine zst ?_) | (with_reducible refine cExitMiss ?_ ?_; rfl) | (with_reducible refine ok ?_; first | refine ACode.condT rfl ?_ | refine ACode.condF rfl ?_) | ((with_reducible refine oj ?_); first | refine zad ?_ | refine zsu ?_ | refine zne ?_ | refine zeq ?_ | refine zmx ?_ | refine zmn ?_ | refine AOps.unG rfl rfl rfl ?_)
      refine cInv ⟨x.alts.length - (i + 1), i + 1, fun k => if k = 4 then 6 else k, by omega, ⟨by omega, rfl⟩, LessR.of rfl (by (repeat' first | exact FrSub.nil | refine FrSub.cons rfl (.ofEq rfl) ?_ | refine FrSub.oa rfl rfl ?_ | refine FrSub.consP rfl (.ofEq rfl) (by simp) ?_)) (by simp) ?_ rfl rfl hou⟩
      repeat' first | exact LoSub.nil | refine LoSub.cons rfl ?_ rfl (by first | (simp; done) | exact ids_oaO (by simp)) ?_ | rfl | (refine (AObj.ren_pure _ _ ?_).symm; simp; done) | exact (ren_oaO _ _ _ _ fun _ => ids_vec (by simp; done)).symm | (simp [AObj.ren, renL, AC.ren]; done) | (simp [AObj.ren, renL, AC.ren]; rfl)
      · simp only [AObj.ren, List.length_append, hal]; rfl
      · rw [take_get ha]; simp only [AObj.ren, renL, AC.ren, ren_cIs, ren_cBs, ren_cAlts]; rw [List.map_append]; rfl
    have hlt2 : i = x.alts.length := by simp at hb3; omega
    subst hlt2
    rw [List.take_length]
    repeat first | ((with_reducible refine oj ?_); refine zau ?_) | (with_reducible refine zst ?_) | (with_reducible refine cExitMiss ?_ ?_; rfl) | (with_reducible refine ok ?_; first | refine ACode.condT rfl ?_ | refine ACode.condF rfl ?_)
    refine AOps.step1 rfl rfl rfl (idxI tabOk rfl rfl rfl rfl rfl rfl rfl (by simp; omega)) ?_
    refine AOps.freeze1 (.l 2) 76 rfl rfl ?_
    refine AOps.wk 76 rfl (y := .one (.box (cTr (nodeOf (growL (e.take j)) x)))) (.one (Wk.box ?_)) ?_
    · rw [nodeOf_eq]
      exact .cons (.refl _) (.cons (.refl _) (.cons (.refl _) (.cons (.gsE (encTrs_eq _).symm) (.cons (.gsE rfl) .nil))))
    refine AOps.storeOwn tabOk rfl rfl rfl rfl rfl rfl rfl rfl (by rw [nodesC_len (by simp [hgl]; omega)]; simp; omega) ?_
    have hst := nodesC_set (ts := growL (e.take j)) (n := (e.map cEx).length) (by simp [hgl]; omega) (nodeOf (growL (e.take j)) x)
    rw [hgl, ← growL_snoc, ← take_get hx] at hst
    rw [hst]
    repeat' first | ((with_reducible refine oj ?_); refine zau ?_) | (with_reducible refine zst ?_) | (with_reducible refine cExitMiss ?_ ?_; rfl) | (with_reducible refine ok ?_; first | refine ACode.condT rfl ?_ | refine ACode.condF rfl ?_) | ((with_reducible refine oj ?_); first | refine zad ?_ | refine zsu ?_ | refine zne ?_ | refine zeq ?_ | refine zmx ?_ | refine zmn ?_ | refine AOps.unG rfl rfl rfl ?_)
    exact cInv ⟨e.length - (j + 1), j + 1, id, by omega, ⟨by omega, rfl⟩, LessR.of rfl (by (repeat' first | exact FrSub.nil | refine FrSub.cons rfl (.ofEq rfl) ?_ | refine FrSub.oa rfl rfl ?_ | refine FrSub.consP rfl (.ofEq rfl) (by simp) ?_)) (by simp) (by repeat' first | exact LoSub.nil | refine LoSub.cons rfl ?_ rfl (by first | (simp; done) | exact ids_oaO (by simp)) ?_ | rfl | (refine (AObj.ren_pure _ _ ?_).symm; simp; done) | exact (ren_oaO _ _ _ _ fun _ => ids_vec (by simp; done)).symm | (simp [AObj.ren, renL, AC.ren]; done) | (simp [AObj.ren, renL, AC.ren]; rfl)) rfl rfl hou⟩
  · have hlt : j = e.length := by simp at hb2; omega
    subst hlt
    rw [List.take_length]
    obtain ⟨N, hN⟩ : ∃ N, e.length = N + 1 := ⟨e.length - 1, by have := List.length_pos_iff.2 hne; omega⟩
    obtain ⟨t, ht⟩ := get_of_lt (l := growL e) (i := N) (by rw [growL_len]; omega)
    have hgt : grow e = t := by unfold grow; rw [hN, Nat.add_sub_cancel, List.getD_eq_getElem?_getD, ht]; rfl
    repeat' first | ((with_reducible refine oj ?_); refine zau ?_) | (with_reducible refine zst ?_) | (with_reducible refine cExitMiss ?_ ?_; rfl) | (with_reducible refine ok ?_; first | refine ACode.condT rfl ?_ | refine ACode.condF rfl ?_) | ((with_reducible refine oj ?_); first | refine zad ?_ | refine zsu ?_ | refine zne ?_ | refine zeq ?_ | refine zmx ?_ | refine zmn ?_ | refine AOps.unG rfl rfl rfl ?_)
    refine AOps.wk 82 rfl (y := .one (int (N : Nat))) (.ofEq (by congr 3; simp; omega)) ?_
    refine AOps.step1 rfl rfl rfl (idxI tabOk rfl rfl rfl rfl rfl rfl rfl (by simp; omega)) ?_
    refine AOps.step1 rfl rfl rfl (AStep.loadOwn tabOk rfl rfl rfl rfl rfl rfl (nodesC_get ht)) ?_
    repeat first | ((with_reducible refine oj ?_); refine zau ?_) | (with_reducible refine zst ?_) | (with_reducible refine cExitMiss ?_ ?_; rfl) | (with_reducible refine ok ?_; first | refine ACode.condT rfl ?_ | refine ACode.condF rfl ?_)
    refine APure.fin rfl (WkF.ofEq ?_) (by simp) hou rfl
    rw [hgt]
end Go.Proofs.YtgdionbeeodaaaaDoor
/- List, walked. -/
namespace Go.CoreX
theorem listTs_snoc (t : Tr) : ∀ (l : List Tr) (out : List Ex), listTs out (l ++ [t]) = (listT (listTs out l).1 t, (listTs out l).2 ++ [((listT (listTs out l).1 t).length : Int) - 1])
  | [], out => by simp [listTs]
  | a :: l, out => by
    have := listTs_snoc t l (listT out a)
    simp only [List.cons_append, listTs, this]
mutual
theorem listT_lt : ∀ (t : Tr) (out : List Ex), out.length < (listT out t).length
  | .mk o n b k a, out => by
    have := listTs_le k out
    simp only [listT, List.length_append, List.length_singleton]; omega
theorem listTs_le : ∀ (l : List Tr) (out : List Ex), out.length ≤ (listTs out l).1.length
  | [], out => by simp [listTs]
  | t :: l, out => by
    have h1 := listT_lt t out
    have h2 := listTs_le l (listT out t)
    simp only [listTs]; omega
end
theorem listTs_app : ∀ (l r : List Tr) (out : List Ex), (listTs out (l ++ r)).1 = (listTs (listTs out l).1 r).1
  | [], r, out => by simp [listTs]
  | a :: l, r, out => by simp only [List.cons_append, listTs, listTs_app l r]
theorem listTs_ix_len : ∀ (l : List Tr) (out : List Ex), (listTs out l).2.length = l.length
  | [], out => by simp [listTs]
  | a :: l, out => by simp [listTs, listTs_ix_len l]
-- The lists of a tree are not too long.
mutual
def okT : Tr → Prop
  | .mk _ _ b k a => b.length ≤ 1048576 ∧ k.length ≤ 1048576 ∧ a.length ≤ 1048576 ∧ ((∀ x ∈ a, x.binds.length ≤ 1048576) ∧ b.length + (a.flatMap (·.binds)).length ≤ 4194304) ∧ okTs k
def okTs : List Tr → Prop
  | [] => True
  | t :: l => okT t ∧ okTs l
end
theorem okTs_iff : ∀ {l : List Tr}, okTs l ↔ ∀ t ∈ l, okT t
  | [] => by simp [okTs]
  | t :: l => by simp [okTs, okTs_iff (l := l)]
end Go.CoreX
namespace Go.Proofs.YtgdionbeeodaaaaDoor
open Go Go.Abs Go.CoreX
set_option maxRecDepth 10000
set_option linter.unusedVariables false
set_option linter.unusedSimpArgs false
variable {Γ : List (Nat × List AC)}
abbrev fnW (kw ko : Nat) : AC := .fn (.func 87) [] [.ptr (.o kw) 0, .ptr (.o ko) 0]
/-- The outer objects while a tree is listed: the list so far, with its token. -/
def ouS (ou : Outer) (ko kt : Nat) (es : List (List AC)) : Outer := updO (updO ou ko (.cells [.gs 5 es (.o kt)])) kt (.tok 53 5 es.length)
theorem ouS_o {ou : Outer} {ko kt : Nat} (h : ko ≠ kt) (es : List (List AC)) : ouS ou ko kt es ko = some (.cells [.gs 5 es (.o kt)]) := by
  unfold ouS; rw [updO_ne _ (Ne.symm h), updO_same]
theorem ouS_t (ou : Outer) (ko kt : Nat) (es : List (List AC)) : ouS ou ko kt es kt = some (.tok 53 5 es.length) := by unfold ouS; rw [updO_same]
theorem ouS_w {ou : Outer} {ko kt k : Nat} (h : k ≠ ko) (h2 : k ≠ kt) (es : List (List AC)) : ouS ou ko kt es k = ou k := by
  unfold ouS; rw [updO_ne _ (Ne.symm h2), updO_ne _ (Ne.symm h)]
theorem ouS_ok {ou : Outer} {ko kt : Nat} {es : List (List AC)} (h : OuOk ou) (he : idsS isO es) : OuOk (ouS ou ko kt es) := by
  intro k o hk
  unfold ouS at hk
  by_cases e : kt = k
  · subst e; rw [updO_same] at hk; cases hk; trivial
  · rw [updO_ne _ e] at hk
    by_cases e2 : ko = k
    · subst e2; rw [updO_same] at hk; cases hk; exact ⟨⟨trivial, he⟩, trivial⟩
    · rw [updO_ne _ e2] at hk; exact h k o hk
/-- What the walk of a tree gives. -/
def ListOk (Γ : List (Nat × List AC)) (t : Tr) : Prop := ∀ (ou : Outer) (kw ko kt : Nat) (out : List Ex), OuOk ou → ou kw = some (.cells [fnW kw ko]) → ou ko = none → ou kt = none → ko ≠ kt → (listT out t).length ≤ 1048576 →
  AFn Tryd.prog Γ 87 [.one (.box (cTr t)), .one (.ptr (.o kw) 0), .one (.ptr (.o ko) 0)] (ouS ou ko kt (out.map cEx)) (fun r ou' => r = .one (int (((listT out t).length : Int) - 1)) ∧ ∃ kt', ou kt' = none ∧ ko ≠ kt' ∧ ou' = ouS ou ko kt' ((listT out t).map cEx))
set_option maxHeartbeats 1000000 in
theorem list1_ok (hΓ : ∀ g cs, (g, cs) ∈ Γ → idsL isO cs) : ∀ t : Tr, okT t → ListOk Γ t
  | .mk o n b ks a, hok => by
    obtain ⟨hb, hk, ha, ⟨hab, _⟩, hks⟩ := hok
    have ih : ∀ t ∈ ks, ListOk Γ t := fun t ht => list1_ok hΓ t (okTs_iff.1 hks t ht)
    intro ou kw ko kt out hou0 hw ho ht hne hsz
    have hwo : kw ≠ ko := fun e => by rw [e, ho] at hw; cases hw
    have hsz2 : (listTs out ks).1.length < 1048576 := by simp only [listT, List.length_append, List.length_singleton] at hsz; omega
    refine AFn.walk 70 tabOk Tryd.func87 rfl (by kernel_rfl) rfl rfl fun hou => ?_
    have hcl := Clone_ok (Γ := Γ) b hb
    repeat first | ((with_reducible refine oj ?_); refine zau ?_) | (with_reducible refine zst ?_) | (with_reducible refine cExitMiss ?_ ?_; rfl) | (with_reducible refine ok ?_; first | refine ACode.condT rfl ?_ | refine ACode.condF rfl ?_)
    refine ACode.drawXA tabOk 15 14 [(12, .one (.sl 1 (b.map cI)))] follows (by kernel_rfl) rfl rfl rfl rfl rfl rfl rfl rfl rfl ?_ ?_ ?_
    · exact .call hΓ hcl hou (by simp) rfl rfl rfl rfl rfl rfl .nil
    · exact .call hΓ hcl hou (by simp) rfl rfl rfl rfl rfl rfl .nil
    repeat first | ((with_reducible refine oj ?_); refine zau ?_) | (with_reducible refine zst ?_) | (with_reducible refine cExitMiss ?_ ?_; rfl) | (with_reducible refine ok ?_; first | refine ACode.condT rfl ?_ | refine ACode.condF rfl ?_)
    refine ACode.grow 0 3 3 1 rfl rfl ?_
    refine ACode.loopR hΓ (α := Nat × Nat) (fun c => [(29, .one (int c.1)), (28, .one (int (encTrs ks).length)), (27, .one (.sl 1 (encTrs ks))), (5, .one (.ptr (.l 0) 0)), (2, .one (.ptr (.o ko) 0)), (1, .one (.ptr (.o kw) 0)), (0, .one (.box (cTr (.mk o n b ks a))))])
      (fun c => ⟨2, [(1, .tok 3 1 c.1), (0, .cells [int o, int n, .sl 1 (b.map cI), .gs 1 ((listTs out (ks.take c.1)).2.map cI) (.l 1), .lit (.slice none 0 0)])], ouS ou ko c.2 ((listTs out (ks.take c.1)).1.map cEx)⟩)
      (fun m c => c.1 ≤ ks.length ∧ (ou c.2 = none ∧ ko ≠ c.2) ∧ m = ks.length - c.1) (a0 := (0, kt)) (ρ := id) ⟨by omega, ⟨ht, hne⟩, rfl⟩ (LessR.of rfl (by (repeat' first | exact FrSub.nil | refine FrSub.cons rfl (.ofEq rfl) ?_ | refine FrSub.oa rfl rfl ?_ | refine FrSub.consP rfl (.ofEq rfl) (by simp) ?_)) (by simp) ?_ rfl (by simp [listTs]; rfl) hou) fun m c hi => ?_
    · repeat' first | exact LoSub.nil | refine LoSub.cons rfl ?_ rfl (by first | (simp; done) | exact ids_oaO (by simp)) ?_ | rfl | (refine (AObj.ren_pure _ _ ?_).symm; simp; done) | exact (ren_oaO _ _ _ _ fun _ => ids_vec (by simp; done)).symm | (simp [AObj.ren, renL, AC.ren]; done) | (simp [AObj.ren, renL, AC.ren]; rfl)
      all_goals (simp [AObj.ren, renL, AC.ren, listTs]; rfl)
    obtain ⟨i, kt⟩ := c
    obtain ⟨hil, ⟨ht, hne⟩, rfl⟩ := hi
    simp only at hil ht hne
    have hwt : kw ≠ kt := fun e => by rw [e, ht] at hw; cases hw
    have hle : (listTs out (ks.take i)).1.length ≤ (listTs out ks).1.length := by
      have := listTs_app (ks.take i) (ks.drop i) out
      rw [List.take_append_drop] at this
      rw [this]; exact listTs_le _ _
    repeat first | ((with_reducible refine oj ?_); refine zau ?_) | (with_reducible refine zst ?_) | (with_reducible refine cExitMiss ?_ ?_; rfl) | (with_reducible refine ok ?_; first | refine ACode.condT rfl ?_ | refine ACode.condF rfl ?_)
    refine ACode.cond rfl (fun hb3 => ?_) (fun hb3 => ?_)
    · have hlt2 : i < ks.length := by simpa using hb3
      obtain ⟨t, ht2⟩ := get_of_lt hlt2
      have hsn := listTs_snoc t (ks.take i) out
      rw [← take_get ht2] at hsn
      have hle2 : (listT (listTs out (ks.take i)).1 t).length ≤ 1048576 := by
        have := listTs_app (ks.take (i + 1)) (ks.drop (i + 1)) out
        rw [List.take_append_drop] at this
        have h2 := listTs_le (ks.drop (i + 1)) (listTs out (ks.take (i + 1))).1
        rw [← this, hsn] at h2
        simp only at h2
        omega
      have hcall := ih t (List.mem_of_getElem? ht2) ou kw ko kt (listTs out (ks.take i)).1 hou0 hw ho ht hne hle2
      have hil2 : ((listTs out (ks.take i)).2.map cI).length = i := by rw [List.length_map, listTs_ix_len]; simp; omega
      repeat first | ((with_reducible refine oj ?_); refine zau ?_) | (with_reducible refine zst ?_) | (with_reducible refine cExitMiss ?_ ?_; rfl) | (with_reducible refine ok ?_; first | refine ACode.condT rfl ?_ | refine ACode.condF rfl ?_)
      refine AOps.step1 rfl rfl rfl (AStep.indexAddr tabOk rfl rfl rfl rfl rfl rfl (.inl rfl) rfl (by omega) (encTrs_get ht2)) ?_
      repeat first | ((with_reducible refine oj ?_); refine zau ?_) | (with_reducible refine zst ?_) | (with_reducible refine cExitMiss ?_ ?_; rfl) | (with_reducible refine ok ?_; first | refine ACode.condT rfl ?_ | refine ACode.condF rfl ?_)
      refine ACode.drawXR (va := .one (int (((listT (listTs out (ks.take i)).1 t).length : Int) - 1))) tabOk 6 4 [(2, .one (fnW kw ko))]
        (fun σ => ∃ kt', ou kt' = none ∧ ko ≠ kt' ∧ σ = ⟨2, [(1, .tok 3 1 i), (0, .cells [int o, int n, .sl 1 (b.map cI), .gs 1 ((listTs out (ks.take i)).2.map cI) (.l 1), .lit (.slice none 0 0)])], ouS ou ko kt' ((listT (listTs out (ks.take i)).1 t).map cEx)⟩)
        follows (by kernel_rfl) rfl rfl rfl rfl rfl ?_ rfl ⟨rfl, rfl⟩ rfl ?_ ?_ ?_ ?_
      · rintro σ ⟨kt', h1, h2, rfl⟩; rfl
      · refine AStepR.call hΓ rfl rfl rfl rfl (by simp) (ouS_ok hou0 (by simp)) hcall fun r ou' hq _ _ => ?_
        obtain ⟨rfl, kt', h1, h2, rfl⟩ := hq
        exact ⟨rfl, kt', h1, h2, rfl⟩
      · exact .step rfl (HStep.plain rfl (AStep.loadOwn tabOk rfl rfl rfl rfl rfl (ouS_w hwo hwt _ |>.trans hw) rfl)) .nil
      · rintro σ ⟨kt', h1, h2, rfl⟩
        have hwt' : kw ≠ kt' := fun e => by rw [e, h1] at hw; cases hw
        exact .step rfl (HStep.plain rfl (AStep.loadOwn tabOk rfl rfl rfl rfl rfl (ouS_w hwo hwt' _ |>.trans hw) rfl)) .nil
      rintro σ ⟨kt', h1, h2, rfl⟩
      repeat first | ((with_reducible refine oj ?_); refine zau ?_) | (with_reducible refine zst ?_) | (with_reducible refine cExitMiss ?_ ?_; rfl) | (with_reducible refine ok ?_; first | refine ACode.condT rfl ?_ | refine ACode.condF rfl ?_)
      refine AOps.app tabOk rfl rfl rfl rfl rfl rfl rfl rfl rfl (Base.gs' _ _ _ _ _ (by rfl) hil2.symm) (.sl _ _) rfl ?_ ?_ ?_
      · rw [hil2]; show (i + 1) * 8 ≤ _; omega
      · rw [hil2]; show i + 1 ≤ _; omega
      repeat' first | ((with_reducible refine oj ?_); refine zau ?_) | (with_reducible refine zst ?_) | (with_reducible refine cExitMiss ?_ ?_; rfl) | (with_reducible refine ok ?_; first | refine ACode.condT rfl ?_ | refine ACode.condF rfl ?_) | ((with_reducible refine oj ?_); first | refine zad ?_ | refine zsu ?_ | refine zne ?_ | refine zeq ?_ | refine zmx ?_ | refine zmn ?_ | refine AOps.unG rfl rfl rfl ?_)
      refine cInv ⟨ks.length - (i + 1), (i + 1, kt'), fun k => if k = 1 then 2 else k, by omega, ⟨by omega, ⟨h1, h2⟩, rfl⟩, LessR.of rfl (by (repeat' first | exact FrSub.nil | refine FrSub.cons rfl (.ofEq rfl) ?_ | refine FrSub.oa rfl rfl ?_ | refine FrSub.consP rfl (.ofEq rfl) (by simp) ?_)) (by simp) ?_ rfl (by simp only [hsn]; rfl) (ouS_ok hou0 (by simp))⟩
      repeat' first | exact LoSub.nil | refine LoSub.cons rfl ?_ rfl (by first | (simp; done) | exact ids_oaO (by simp)) ?_ | rfl | (refine (AObj.ren_pure _ _ ?_).symm; simp; done) | exact (ren_oaO _ _ _ _ fun _ => ids_vec (by simp; done)).symm | (simp [AObj.ren, renL, AC.ren]; done) | (simp [AObj.ren, renL, AC.ren]; rfl)
      · simp only [AObj.ren, List.length_append, hil2]; rfl
      · simp only [hsn]; simp only [AObj.ren, renL, AC.ren, ren_cIs]; rw [List.map_append]; rfl
    have hlt2 : i = ks.length := by simp at hb3; omega
    subst hlt2
    rw [List.take_length] at *
    repeat first | ((with_reducible refine oj ?_); refine zau ?_) | (with_reducible refine zst ?_) | (with_reducible refine cExitMiss ?_ ?_; rfl) | (with_reducible refine ok ?_; first | refine ACode.condT rfl ?_ | refine ACode.condF rfl ?_)
    refine ACode.grow 0 4 89 2 rfl rfl ?_
    refine ACode.loopR hΓ (α := Nat) (fun i => [(47, .one (int i)), (46, .one (int (a.map cAlt).length)), (45, .one (.sl 2 (a.map cAlt))), (5, .one (.ptr (.l 0) 0)), (2, .one (.ptr (.o ko) 0)), (1, .one (.ptr (.o kw) 0)), (0, .one (.box (cTr (.mk o n b ks a))))])
      (fun i => ⟨3, [(2, .tok 89 2 i), (0, .cells [int o, int n, .sl 1 (b.map cI), .gs 1 ((listTs out ks).2.map cI) (.l 1), .gs 2 ((a.take i).map cAlt) (.l 2)])], ouS ou ko kt ((listTs out ks).1.map cEx)⟩)
      (fun m i => i ≤ a.length ∧ m = a.length - i) (a0 := 0) (ρ := id) ⟨by omega, rfl⟩ (LessR.of rfl (by (repeat' first | exact FrSub.nil | refine FrSub.cons rfl (.ofEq rfl) ?_ | refine FrSub.oa rfl rfl ?_ | refine FrSub.consP rfl (.ofEq rfl) (by simp) ?_)) (by simp) ?_ rfl rfl (ouS_ok hou0 (by simp))) fun m i hi => ?_
    · repeat' first | exact LoSub.nil | refine LoSub.cons rfl ?_ rfl (by first | (simp; done) | exact ids_oaO (by simp)) ?_ | rfl | (refine (AObj.ren_pure _ _ ?_).symm; simp; done) | exact (ren_oaO _ _ _ _ fun _ => ids_vec (by simp; done)).symm | (simp [AObj.ren, renL, AC.ren]; done) | (simp [AObj.ren, renL, AC.ren]; rfl)
      all_goals (simp [AObj.ren, renL, AC.ren]; exact ⟨rfl, rfl⟩)
    obtain ⟨hil, rfl⟩ := hi
    have hou2 : OuOk (ouS ou ko kt ((listTs out ks).1.map cEx)) := ouS_ok hou0 (by simp)
    repeat first | ((with_reducible refine oj ?_); refine zau ?_) | (with_reducible refine zst ?_) | (with_reducible refine cExitMiss ?_ ?_; rfl) | (with_reducible refine ok ?_; first | refine ACode.condT rfl ?_ | refine ACode.condF rfl ?_)
    refine ACode.cond rfl (fun hb3 => ?_) (fun hb3 => ?_)
    · have hlt2 : i < a.length := by simpa using hb3
      obtain ⟨c, hc⟩ := get_of_lt hlt2
      have hal : ((a.take i).map cAlt).length = i := by simp; omega
      have hca := Clone_ok (Γ := Γ) c.binds (hab c (List.mem_of_getElem? hc))
      repeat first | ((with_reducible refine oj ?_); refine zau ?_) | (with_reducible refine zst ?_) | (with_reducible refine cExitMiss ?_ ?_; rfl) | (with_reducible refine ok ?_; first | refine ACode.condT rfl ?_ | refine ACode.condF rfl ?_)
      refine AOps.step1 rfl rfl rfl (AStep.indexAddr tabOk rfl rfl rfl rfl rfl rfl (.inl rfl) rfl (by omega) (map_get hc)) ?_
      repeat first | ((with_reducible refine oj ?_); refine zau ?_) | (with_reducible refine zst ?_) | (with_reducible refine cExitMiss ?_ ?_; rfl) | (with_reducible refine ok ?_; first | refine ACode.condT rfl ?_ | refine ACode.condF rfl ?_)
      refine ACode.drawX tabOk 9 [(6, .one (.sl 1 (c.binds.map cI)))] follows (by kernel_rfl) rfl rfl rfl rfl (.call hΓ hca hou2 (by simp) rfl rfl rfl rfl rfl rfl .nil) ?_
      repeat first | ((with_reducible refine oj ?_); refine zau ?_) | (with_reducible refine zst ?_) | (with_reducible refine cExitMiss ?_ ?_; rfl) | (with_reducible refine ok ?_; first | refine ACode.condT rfl ?_ | refine ACode.condF rfl ?_)
      refine AOps.app tabOk rfl rfl rfl rfl rfl rfl rfl rfl rfl (Base.gs' _ _ _ _ _ (by rfl) hal.symm) (.sl _ _) rfl ?_ ?_ ?_
      · rw [hal]; show (i + 1) * 32 ≤ _; omega
      · rw [hal]; show i + 1 ≤ _; omega
      repeat' first | ((with_reducible refine oj ?_); refine zau ?_) | (with_reducible refine zst ?_) | (with_reducible refine cExitMiss ?_ ?_; rfl) | (with_reducible refine ok ?_; first | refine ACode.condT rfl ?_ | refine ACode.condF rfl ?_) | ((with_reducible refine oj ?_); first | refine zad ?_ | refine zsu ?_ | refine zne ?_ | refine zeq ?_ | refine zmx ?_ | refine zmn ?_ | refine AOps.unG rfl rfl rfl ?_)
      refine cInv ⟨a.length - (i + 1), i + 1, fun k => if k = 2 then 4 else k, by omega, ⟨by omega, rfl⟩, LessR.of rfl (by (repeat' first | exact FrSub.nil | refine FrSub.cons rfl (.ofEq rfl) ?_ | refine FrSub.oa rfl rfl ?_ | refine FrSub.consP rfl (.ofEq rfl) (by simp) ?_)) (by simp) ?_ rfl rfl hou2⟩
      repeat' first | exact LoSub.nil | refine LoSub.cons rfl ?_ rfl (by first | (simp; done) | exact ids_oaO (by simp)) ?_ | rfl | (refine (AObj.ren_pure _ _ ?_).symm; simp; done) | exact (ren_oaO _ _ _ _ fun _ => ids_vec (by simp; done)).symm | (simp [AObj.ren, renL, AC.ren]; done) | (simp [AObj.ren, renL, AC.ren]; rfl)
      · simp only [AObj.ren, List.length_append, hal]; rfl
      · rw [take_get hc]; simp only [AObj.ren, renL, AC.ren, ren_cIs, ren_cAlts]; rw [List.map_append]; rfl
    have hlt2 : i = a.length := by simp at hb3; omega
    subst hlt2
    rw [List.take_length]
    repeat first | ((with_reducible refine oj ?_); refine zau ?_) | (with_reducible refine zst ?_) | (with_reducible refine cExitMiss ?_ ?_; rfl) | (with_reducible refine ok ?_; first | refine ACode.condT rfl ?_ | refine ACode.condF rfl ?_)
    refine AOps.step1 rfl rfl rfl (AStep.loadOwn tabOk rfl rfl rfl rfl rfl (ouS_o hne _) rfl) ?_
    (first | ((with_reducible refine oj ?_); refine zau ?_) | (with_reducible refine zst ?_) | (with_reducible refine cExitMiss ?_ ?_; rfl) | (with_reducible refine ok ?_; first | refine ACode.condT rfl ?_ | refine ACode.condF rfl ?_))
    refine AOps.wk 64 rfl (y := .agg (cEx ⟨o, n, b, (listTs out ks).2, a⟩)) (WkF.agg ?_) ?_
    · exact .cons (.refl _) (.cons (.refl _) (.cons (.refl _) (.cons (.gsE rfl) (.cons (.gsE rfl) .nil))))
    repeat first | ((with_reducible refine oj ?_); refine zau ?_) | (with_reducible refine zst ?_) | (with_reducible refine cExitMiss ?_ ?_; rfl) | (with_reducible refine ok ?_; first | refine ACode.condT rfl ?_ | refine ACode.condF rfl ?_)
    have hT : listT out (.mk o n b ks a) = (listTs out ks).1 ++ [⟨o, n, b, (listTs out ks).2, a⟩] := by simp only [listT]
    have hmap : (listTs out ks).1.map cEx ++ [cEx ⟨o, n, b, (listTs out ks).2, a⟩] = (listT out (.mk o n b ks a)).map cEx := by rw [hT, List.map_append]; rfl
    refine AOps.app (es := (listTs out ks).1.map cEx) tabOk rfl rfl rfl rfl rfl rfl rfl rfl rfl (Base.gs' _ 53 5 _ (.o kt) (ouS_t ou ko kt _) rfl) (.sl 5 [cEx ⟨o, n, b, (listTs out ks).2, a⟩]) rfl ?_ ?_ ?_
    · simp; show (_ + 1) * 88 ≤ _; omega
    · simp; omega
    rw [hmap]
    refine AOps.storeOwn (cs := [.gs 5 ((listTs out ks).1.map cEx) (.o kt)]) tabOk rfl rfl rfl rfl rfl rfl rfl (show (bif Nat.beq ko kt then some AObj.dead else ouS ou ko kt ((listTs out ks).1.map cEx) ko) = _ by rw [beq_no hne]; exact ouS_o hne _) (by simp) ?_
    refine AOps.cede 3 (show 3 < 4 by omega) fun k hk => ⟨[(2, .one (.ptr (.o ko) 0))], ⟨4, [], ouS ou ko k ((listT out (.mk o n b ks a)).map cEx)⟩, ⟨fun d x hd => ?_, rfl, fun i x hx => ?_⟩, ?_⟩
    · by_cases e : 2 = d
      · subst e
        simp [Fr.get] at hd; subst hd
        exact ⟨_, rfl, WkF.ofEq rfl⟩
      · simp [Fr.get, beq_no e] at hd
    · have hk' : (bif Nat.beq k ko then some (AObj.cells [.gs 5 ((listT out (.mk o n b ks a)).map cEx) (.l 3)]) else bif Nat.beq k kt then some AObj.dead else ouS ou ko kt ((listTs out ks).1.map cEx) k) = none := hk
      have k1 : k ≠ ko := fun e => by subst e; simp at hk'
      rw [beq_no k1] at hk'
      have k2 : k ≠ kt := fun e => by subst e; simp at hk'
      rw [beq_no k2] at hk'
      simp only [cond_false, ouS_w k1 k2] at hk'
      cases i with
      | l m => cases hx
      | o m =>
        have hx' : ouS ou ko k ((listT out (.mk o n b ks a)).map cEx) m = some x := hx
        by_cases e : m = k
        · subst e
          rw [ouS_t] at hx'; cases hx'
          exact ⟨.l 3, _, rfl, rfl, rfl⟩
        · by_cases e2 : m = ko
          · subst e2
            rw [ouS_o e] at hx'; cases hx'
            refine ⟨.o m, .cells [.gs 5 ((listT out (.mk o n b ks a)).map cEx) (.l 3)], ?_, rfl, ?_⟩
            · show (bif Nat.beq m m then _ else _) = _; rw [beq_self]; rfl
            · simp only [AObj.sub, subL, AC.sub]; rw [subS_o _ (by simp)]; rfl
          · rw [ouS_w e2 e] at hx'
            have e3 : m ≠ kt := fun e => by rw [e, ht] at hx'; cases hx'
            refine ⟨.o m, x, ?_, rfl, (AObj.sub_o x (hou0 m x hx')).symm⟩
            show (bif Nat.beq m ko then _ else bif Nat.beq m kt then _ else ouS ou ko kt _ m) = _
            rw [beq_no e2, beq_no e3]
            exact (ouS_w e2 e3 _).trans hx'
    · have hk' : (bif Nat.beq k ko then some (AObj.cells [.gs 5 ((listT out (.mk o n b ks a)).map cEx) (.l 3)]) else bif Nat.beq k kt then some AObj.dead else ouS ou ko kt ((listTs out ks).1.map cEx) k) = none := hk
      have k1 : k ≠ ko := fun e => by subst e; simp at hk'
      rw [beq_no k1] at hk'
      have k2 : k ≠ kt := fun e => by subst e; simp at hk'
      rw [beq_no k2] at hk'
      simp only [cond_false, ouS_w k1 k2] at hk'
      repeat first | ((with_reducible refine oj ?_); refine zau ?_) | (with_reducible refine zst ?_) | (with_reducible refine cExitMiss ?_ ?_; rfl) | (with_reducible refine ok ?_; first | refine ACode.condT rfl ?_ | refine ACode.condF rfl ?_)
      refine AOps.step1 rfl rfl rfl (AStep.loadOwn tabOk rfl rfl rfl rfl rfl (ouS_o (Ne.symm k1) _) rfl) ?_
      repeat' first | ((with_reducible refine oj ?_); refine zau ?_) | (with_reducible refine zst ?_) | (with_reducible refine cExitMiss ?_ ?_; rfl) | (with_reducible refine ok ?_; first | refine ACode.condT rfl ?_ | refine ACode.condF rfl ?_) | ((with_reducible refine oj ?_); first | refine zad ?_ | refine zsu ?_ | refine zne ?_ | refine zeq ?_ | refine zmx ?_ | refine zmn ?_ | refine AOps.unG rfl rfl rfl ?_)
      refine AFn.fin' rfl (WkF.ofEq ?_) (by simp) (ouS_ok hou0 (by simp)) ⟨rfl, k, hk', Ne.symm k1, rfl⟩
      simp
end Go.Proofs.YtgdionbeeodaaaaDoor
