/- The abstract layer, part Ag: outer names stay as they are. No condition. -/
import Derived.Test.YtnonkoeknpmcjaaDoorB4
import Derived.Sort.Row
import Derived.Sort.Grow
import Derived.Laws.CopyRow
import Derived.Shelf.GgSortFunc.InsertionK
namespace Go.Abs
set_option linter.unusedVariables false
section
variable {j k : Nat}
theorem toO_isO : ∀ i : Id, isO i → toO j k i = i
  | .o _, _ => rfl
  | .l _, h => h.elim
mutual
theorem AC.sub_o : ∀ c : AC, c.ids isO → c.sub (toO j k) = c
  | .lit _, _ => rfl
  | .any, _ => rfl
  | .sl s es, h => by simp only [AC.ids] at h; simp only [AC.sub]; rw [subS_o es h]
  | .box cs, h => by simp only [AC.ids] at h; simp only [AC.sub]; rw [subL_o cs h]
  | .ptr i off, h => by simp only [AC.ids] at h; simp only [AC.sub]; rw [toO_isO i h]
  | .gs s es i, h => by simp only [AC.ids] at h; simp only [AC.sub]; rw [toO_isO i h.1, subS_o es h.2]
  | .arr i s off len cap, h => by simp only [AC.ids] at h; simp only [AC.sub]; rw [toO_isO i h]
  | .mp i, h => by simp only [AC.ids] at h; simp only [AC.sub]; rw [toO_isO i h]
  | .fn f a b, h => by simp only [AC.ids] at h; simp only [AC.sub]; rw [subL_o a h.1, subL_o b h.2]
  | .ifc t ag cs, h => by simp only [AC.ids] at h; simp only [AC.sub]; rw [subL_o cs h]
theorem subS_o : ∀ es : List (List AC), idsS isO es → subS (toO j k) es = es
  | [], _ => rfl
  | e :: es, h => by simp only [idsS] at h; simp only [subS]; rw [subL_o e h.1, subS_o es h.2]
theorem subL_o : ∀ cs : List AC, idsL isO cs → subL (toO j k) cs = cs
  | [], _ => rfl
  | c :: cs, h => by simp only [idsL] at h; simp only [subL]; rw [AC.sub_o c h.1, subL_o cs h.2]
end
mutual
theorem FV.sub_o : ∀ x : FV, x.ids isO → x.sub (toO j k) = x
  | .bot, _ => rfl
  | .one c, h => by simp only [FV.ids] at h; simp only [FV.sub]; rw [AC.sub_o c h]
  | .agg cs, h => by simp only [FV.ids] at h; simp only [FV.sub]; rw [subL_o cs h]
  | .tup vs, h => by simp only [FV.ids] at h; simp only [FV.sub]; rw [subF_o vs h]
theorem subF_o : ∀ vs : List FV, idsF isO vs → subF (toO j k) vs = vs
  | [], _ => rfl
  | v :: vs, h => by simp only [idsF] at h; simp only [subF]; rw [FV.sub_o v h.1, subF_o vs h.2]
end
theorem AObj.sub_o (o : AObj) (h : o.ids isO) : o.sub (toO j k) = o := by
  cases o with
  | cells cs => simp only [AObj.sub]; rw [subL_o cs h]
  | map ck es =>
    simp only [AObj.sub]
    congr 1
    rw [List.map_congr_left (g := id), List.map_id]
    intro x hx
    have := h x hx
    obtain ⟨a, b, c⟩ := x
    simp only [FV.sub_o c this, id]
  | iter m a b d => simp only [AObj.sub]; rw [toO_isO m h]
  | sit s q => rfl
  | tok e s u => rfl
  | dead => rfl
end
theorem AFn.fin' {E : Env} {fn : Func} {fr : Fr} {σ : St} {Q : FV → Outer → Prop} {r r' : FV} (h : aRes E.T fr σ fn.results.toList = some r) (hw : WkF r r') (hi : r'.ids isO) (ho : OuOk σ.ou) (hq : Q r' σ.ou) : Fin E fn Q fr σ := ⟨r, r', h, hw, hi, ho, hq⟩
end Go.Abs
/- The abstract layer, part Ah: an own array of numbers, sorted in place. What the sort does is given. -/
namespace Go.Abs
open Go.Sort
set_option linter.unusedVariables false
set_option linter.unusedSimpArgs false
abbrev iC (n : Int) : List AC := [.lit (.int .i64 n)]
theorem flat_iC : ∀ l : List Int, (l.map iC).flatten = l.map fun n => AC.lit (.int .i64 n)
  | [] => rfl
  | n :: l => by simp [flat_iC l]
theorem RV.ints {w : World} {C : Ctx} : ∀ {l : List Int} {cs : List AC} {xs : List Value}, RV w C ((l.map fun n => AC.lit (.int .i64 n)) ++ cs) xs → xs = l.map (Value.int .i64) ++ xs.drop l.length ∧ RV w C cs (xs.drop l.length)
  | [], cs, xs, h => ⟨by simp, by simpa using h⟩
  | n :: l, cs, xs, h => by
    simp only [List.map_cons, List.cons_append, RV] at h
    obtain ⟨v, ys, rfl, h1, h2⟩ := h
    simp only [R] at h1
    obtain ⟨h3, h4⟩ := RV.ints h2
    refine ⟨?_, by simpa using h4⟩
    simp only [List.map_cons, List.length_cons, List.drop_succ_cons, List.cons_append]
    rw [← h3, h1.1]
theorem RV.ofInts {w : World} {C : Ctx} : ∀ (l : List Int) {cs : List AC} {xs : List Value}, RV w C cs xs → RV w C ((l.map fun n => AC.lit (.int .i64 n)) ++ cs) (l.map (Value.int .i64) ++ xs)
  | [], cs, xs, h => by simpa using h
  | n :: l, cs, xs, h => by
    simp only [List.map_cons, List.cons_append, RV]
    exact ⟨_, _, rfl, by simp [R, Value.oneCell'], RV.ofInts l h⟩
theorem putCells_front (d : List Int) (xs : List Value) (h : d.length ≤ xs.length) : putCells (Value.int .i64) 0 d.toArray xs.toArray = (d.map (Value.int .i64) ++ xs.drop d.length).toArray := by
  apply Array.ext_getElem?
  intro k
  unfold putCells
  rw [Array.getElem?_mapIdx]
  simp only [List.getElem?_toArray, List.size_toArray, Nat.zero_le, true_and, Nat.zero_add, Nat.sub_zero]
  by_cases hk : k < d.length
  · rw [List.getElem?_append_left (by simpa using hk)]
    have hx : k < xs.length := by omega
    simp [List.getElem?_eq_getElem hx, hk]
  · rw [List.getElem?_append_right (by simp; omega)]
    simp only [List.length_map, List.getElem?_drop]
    rw [show d.length + (k - d.length) = k by omega]
    simp [hk]
/-- The sort of an own array. -/
theorem AOps.sortI {E : Env} {ops : Array Oper} {rest : List Oper} {o : Oper} {K : Cont} {fr : Fr} {σ : St} {d : Nat} {f : Operand} {args : Array Operand} {tys : Array TypeId} {g : Nat} {i : Id} {l : List Int} {cap : Nat} (hgd : o.guard = none) (hdst : o.dst = some d) (hd : Nat.ble (d + 1) E.N = true)
    (ho : o.op = .call { callee := .value f, args := args, argTypes := tys }) (hf : aEval E.Γ fr f = some (.one (.fn (.func g) [] []))) (hargs : aEvals E.Γ fr args.toList = some [.one (.arr i 1 0 l.length cap)])
    (hcf : ∀ us (w : World), (callFunc g us).run E.P w = .ok (.enter g us) w)
    (hc : ∀ (blk off cap : Nat) (zs : List Int) (w : World), Holds (Value.int .i64) w blk off zs.toArray → blk < w.heap.size → zs.length < 4611686018427387904 → Calls E.P g #[.slice (some ⟨blk, off, none⟩) zs.length cap] w fun e w' =>
      e = .returned (.tuple #[]) ∧ ∃ n os, w' = grow (putRow (Value.int .i64) (Sort.ahead w n) blk off (zs.mergeSort fun x y => decide (x ≤ y)).toArray) os)
    (hg : σ.get i = some (.cells (vec 1 (l.map iC) cap))) (hlen : l.length < 4611686018427387904)
    (h : AOps E ops rest K ((d, .tup []) :: fr) (σ.set i (.cells (vec 1 ((l.mergeSort fun x y => decide (x ≤ y)).map iC) cap)))) : AOps E ops (o :: rest) K fr σ := by
  intro F w0 C0 w C tmps hgo hi hfr
  refine wpList_plain hgd fun N' hN => ?_
  have hcallee := aEval_ok (a := ⟨tmps, []⟩) hi hfr hf
  simp only [RF, R] at hcallee
  obtain ⟨xs, ys, hfv, hx, hy⟩ := hcallee
  simp only [RV] at hx hy
  subst hx; subst hy
  have hvs := aEvals_ok (a := ⟨tmps, []⟩) hi hfr hargs
  simp only [RFs, RF, R] at hvs
  obtain ⟨v, us, hv, ⟨hok, hv2, hcapl⟩, hus⟩ := hvs
  subst hus
  rw [hv2] at hv
  simp only [Nat.zero_mul] at hv
  obtain ⟨hok', zs, T, b1, b2, b3, b4⟩ := hi.obj i _ hg
  have hzs := b3
  unfold vec at hzs
  rw [flat_iC] at hzs
  obtain ⟨hz1, hz2⟩ := RV.ints hzs
  have hzl : l.length ≤ zs.length := by rw [hz1]; simp
  have hcell : ∀ j : Nat, w.cell? ⟨C.blk i, j, none⟩ = zs[j]? := fun j => by rw [cell_of_row _ _ _ _ _ _ b1]; simp
  have hH : Holds (Value.int .i64) w (C.blk i) 0 l.toArray := fun j hj => by
    have hj' : j < l.length := by simpa using hj
    refine ⟨?_, ?_⟩
    · rw [Nat.zero_add, hcell, hz1, List.getElem?_append_left (by simpa using hj')]
      simp [hj']
    · simp [World.frozen?, b1]
  have hblk : C.blk i < w.heap.size := lt_of_heap b1
  have hrun : (execOp (Act.eval ⟨tmps, []⟩) o).run E.P w = .ok (.enter g #[.slice (some ⟨C.blk i, 0, none⟩) l.length cap]) w := by
    unfold execOp
    simp only [ho, resolve, Sem.run_bind, hfv, Deferred.ofValue, Sem.run_pure, Result.andThen_ok, invoke, hcf]
    congr 2
    apply Array.ext'
    simpa using hv
  unfold Oper.wp
  rw [hrun, Oper.upon_enter]
  refine (hc (C.blk i) 0 cap l w hH hblk hlen).mono fun e w' ⟨he, n, os, hw'⟩ => ?_
  subst he
  subst hw'
  obtain ⟨l', hl'⟩ : ∃ l', l' = (l.mergeSort fun x y => decide (x ≤ y)) := ⟨_, rfl⟩
  rw [← hl'] at h ⊢
  have hll : l'.length = l.length := by rw [hl']; simp
  -- the row, turned
  have hsz : (putRow (Value.int .i64) (Sort.ahead w n) (C.blk i) 0 l'.toArray).heap.size = w.heap.size := by simp [Sort.ahead]
  have hoth : ∀ k, k ≠ C.blk i → (putRow (Value.int .i64) (Sort.ahead w n) (C.blk i) 0 l'.toArray).heap[k]? = w.heap[k]? := fun k hk => by
    unfold putRow mapBlock
    show (w.heap.modify _ _)[k]? = _
    rw [Array.getElem?_modify, if_neg (Ne.symm hk)]
  have hat : (putRow (Value.int .i64) (Sort.ahead w n) (C.blk i) 0 l'.toArray).heap[C.blk i]? = some (.cells (l'.map (Value.int .i64) ++ zs.drop l.length).toArray T (0, 0)) := by
    unfold putRow mapBlock
    show (w.heap.modify _ _)[C.blk i]? = _
    rw [Array.getElem?_modify, if_pos rfl, b1]
    simp only [Option.map_some, onCells]
    rw [putCells_front l' zs (by omega), hll]
  obtain ⟨he1, hi1⟩ := hi.turn (o' := .cells (vec 1 (l'.map iC) cap)) hg (show AObj.block C i (.cells _) = some (C.blk i) from rfl) hsz hoth (fun a ha hp => absurd hp (b4 a ha)) rfl fun he => by
    refine ⟨_, T, hat, b2, ?_, b4⟩
    unfold vec
    rw [flat_iC]
    have hcl : (l'.map iC).length = (l.map iC).length := by simp [hll]
    rw [hcl]
    exact RV.ofInts l' (hz2.ext he)
  have hsz2 : (putRow (Value.int .i64) (Sort.ahead w n) (C.blk i) 0 l'.toArray).heap.size ≤ (grow (putRow (Value.int .i64) (Sort.ahead w n) (C.blk i) 0 l'.toArray) os).heap.size := by simp [grow]
  have hold : ∀ k, k < (putRow (Value.int .i64) (Sort.ahead w n) (C.blk i) 0 l'.toArray).heap.size → (grow (putRow (Value.int .i64) (Sort.ahead w n) (C.blk i) 0 l'.toArray) os).heap[k]? = (putRow (Value.int .i64) (Sort.ahead w n) (C.blk i) 0 l'.toArray).heap[k]? := fun k hk => by
    show (_ ++ os)[k]? = _
    rw [Array.getElem?_append_left hk]
  obtain ⟨he2, hi2⟩ := hi1.grown hsz2 hold
  have hstp : Stp F w (grow (putRow (Value.int .i64) (Sort.ahead w n) (C.blk i) 0 l'.toArray) os) := by
    refine ⟨rfl, rfl, rfl, by rw [← hsz]; exact hsz2, fun k hk => ?_, fun a ha => ?_⟩
    · have hk2 := hi.base k hk
      rw [hold k (by rw [hsz]; exact hk2), hoth k (fun e => b2 (e ▸ hk))]
    · have h1 : World.frozen? (grow (putRow (Value.int .i64) (Sort.ahead w n) (C.blk i) 0 l'.toArray) os) a = World.frozen? (putRow (Value.int .i64) (Sort.ahead w n) (C.blk i) 0 l'.toArray) a := by
        unfold World.frozen?
        rw [hold a.block (by rw [hsz]; exact ha)]
      rw [h1, frozen?_putRow]; rfl
  refine hN _ _ ?_
  rw [put_eta]
  have hext := he1.trans he2
  rw [hdst]
  exact h F w0 C0 _ C _ (hgo.trans ⟨hstp, hext.weaken (fun _ _ => trivial), Nat.le_refl _, NewP.refl _ _⟩) hi2 (putFr_ok (dst := some d) (hfr.ext hext) hd (by simp only [RF, RFs]; exact ⟨[], rfl, rfl⟩))
end Go.Abs
/- The abstract layer, part Ai: an own array that is written no more; a call that leaves the world as it is. No condition. -/
namespace Go.Abs
set_option linter.unusedVariables false
set_option linter.unusedSimpArgs false
theorem AOps.freezeArr {E : Env} {ops : Array Oper} {l : List Oper} {K : Cont} {fr : Fr} {σ : St} (i : Id) (d : Nat) {s cap : Nat} {es : List (List AC)} (hg : σ.get i = some (.cells (vec s es cap))) (hl : ∀ x ∈ es, x.length = s) (hd : Fr.get d fr = some (.one (.arr i s 0 es.length cap)))
    (h : AOps E ops l K ((d, .one (.sl s es)) :: fr) (σ.set i .dead)) : AOps E ops l K fr σ := by
  intro F w0 C0 w C tmps hgo hi hf
  obtain ⟨h1, h2, h3⟩ := frz_run hi hf hg (fr' := []) trivial
  obtain ⟨hok, zs, T, b1, b2, b3, b4⟩ := hi.obj i _ hg
  refine h F w0 C0 w _ tmps (hgo.trans h1.toO) h2 ⟨hf.1, fun k x hk => ?_⟩
  simp only [Fr.get] at hk
  by_cases e : d = k
  · subst e
    simp at hk
    subst hk
    obtain ⟨u, hu, hr⟩ := hf.2 d _ hd
    simp only [RF, R, Nat.zero_mul] at hr
    refine ⟨u, hu, some ⟨C.blk i, 0, none⟩, cap, hr.2.1, hr.2.2, .inr ⟨_, rfl, rfl, ?_⟩⟩
    have hfl := flat_len hl
    have hzl := RV.length b3
    have hv : RV w (C.froze (C.blk i)) es.flatten (zs.take (es.length * s)) := by
      have := (b3.take (es.length * s)).ext h1.chg
      rwa [vec, List.take_append_of_le_length (by omega), List.take_of_length_le (by omega)] at this
    refine RS.ofVals 0 hl hv fun j v hj => ⟨?_, .inr rfl⟩
    have h2 : j < es.length * s := by have := (List.getElem?_eq_some_iff.1 hj).1; simp at this; omega
    rw [List.getElem?_take_of_lt h2] at hj
    rw [Nat.zero_add, cell_of_row _ _ _ _ _ _ b1]
    simpa using hj
  · rw [beq_no e] at hk
    obtain ⟨u, hu, hr⟩ := hf.2 k x hk
    exact ⟨u, hu, hr.ext h1.chg⟩
/-- A call whose contract leaves the world as it is. -/
theorem AOps.callNo {E : Env} {ops : Array Oper} {rest : List Oper} {o : Oper} {K : Cont} {fr : Fr} {σ : St} {d : Nat} {f : Operand} {args : Array Operand} {tys : Array TypeId} {g : Nat} {u : Value} (hgd : o.guard = none) (hdst : o.dst = some d) (hd : Nat.ble (d + 1) E.N = true)
    (ho : o.op = .call { callee := .value f, args := args, argTypes := tys }) (hf : aEval E.Γ fr f = some (.one (.fn (.func g) [] []))) (hargs : aEvals E.Γ fr args.toList = some [.one (.lit u)])
    (hcf : ∀ us (w : World), (callFunc g us).run E.P w = .ok (.enter g us) w) (hc : ∀ w : World, Calls E.P g #[u] w fun e w' => e = .returned (.tuple #[]) ∧ w' = w)
    (h : AOps E ops rest K ((d, .tup []) :: fr) σ) : AOps E ops (o :: rest) K fr σ := by
  intro F w0 C0 w C tmps hgo hi hfr
  refine wpList_plain hgd fun N' hN => ?_
  have hcallee := aEval_ok (a := ⟨tmps, []⟩) hi hfr hf
  simp only [RF, R] at hcallee
  obtain ⟨xs, ys, hfv, hx, hy⟩ := hcallee
  simp only [RV] at hx hy
  subst hx; subst hy
  have hvs := aEvals_ok (a := ⟨tmps, []⟩) hi hfr hargs
  simp only [RFs, RF, R] at hvs
  obtain ⟨v, us, hv, ⟨hv2, _⟩, hus⟩ := hvs
  subst hus
  rw [hv2] at hv
  have hrun : (execOp (Act.eval ⟨tmps, []⟩) o).run E.P w = .ok (.enter g #[u]) w := by
    unfold execOp
    simp only [ho, resolve, Sem.run_bind, hfv, Deferred.ofValue, Sem.run_pure, Result.andThen_ok, invoke, hcf]
    congr 2
    apply Array.ext'
    simpa using hv
  unfold Oper.wp
  rw [hrun, Oper.upon_enter]
  refine (hc w).mono fun e w' ⟨he, hw'⟩ => ?_
  subst he
  subst hw'
  refine hN _ _ ?_
  rw [put_eta]
  rw [hdst]
  exact h F w0 C0 w' C _ hgo hi (putFr_ok (dst := some d) hfr hd (by simp only [RF, RFs]; exact ⟨[], rfl, rfl⟩))
end Go.Abs
/- The abstract layer, part Aj: a call of a function that only computes a number or a truth value; own objects are lent to it, to be read. No condition. -/
namespace Go.Abs
set_option linter.unusedVariables false
set_option linter.unusedSimpArgs false
/-- A context in which no old cell is written. -/
def Ctx.still (C : Ctx) (w : World) : Ctx := ⟨fun a => a.block < w.heap.size, 0, C.no, C.phi, C.tk⟩
theorem Inv.stillChg {Γ : List (Nat × List AC)} {F : Nat → Prop} {w : World} {C : Ctx} {σ : St} (hi : Inv Γ F w C σ) : Chg isO w C w (C.still w) :=
  ⟨fun _ _ => rfl, fun a h => hi.prot a h, fun i hp hok => ⟨by cases i with | l k => cases hp | o k => exact hok, rfl, rfl⟩⟩
def LendF (σ : St) (x y : FV) : Prop := ∀ (Γ : List (Nat × List AC)) (F : Nat → Prop) (w : World) (C : Ctx) (v : Value), Inv Γ F w C σ → RF w C x v → RF w (C.still w) y v
def LendFs (σ : St) (xs ys : List FV) : Prop := ∀ (Γ : List (Nat × List AC)) (F : Nat → Prop) (w : World) (C : Ctx) (vs : List Value), Inv Γ F w C σ → RFs w C xs vs → RFs w (C.still w) ys vs
theorem LendF.of {σ : St} {x y : FV} (h : WkF x y) (hy : y.ids isO) : LendF σ x y := fun Γ F w C v hi hr => RF.chg hi.stillChg y v hy (h w C v hr)
theorem LendF.refl {σ : St} {x : FV} (hy : x.ids isO) : LendF σ x x := .of (.refl x) hy
theorem LendF.arr {σ : St} {i : Id} {s cap n : Nat} {es : List (List AC)} (hg : σ.get i = some (.cells (vec s es cap))) (hn : n = es.length) (hl : ∀ x ∈ es, x.length = s) (hids : idsS isO es) : LendF σ (.one (.arr i s 0 n cap)) (.one (.sl s es)) := by
  subst hn
  intro Γ F w C v hi hr
  obtain ⟨hok, zs, T, b1, b2, b3, b4⟩ := hi.obj i _ hg
  simp only [RF, R, Nat.zero_mul] at hr
  refine ⟨some ⟨C.blk i, 0, none⟩, cap, hr.2.1, hr.2.2, .inr ⟨_, rfl, rfl, ?_⟩⟩
  have hfl := flat_len hl
  have hzl := RV.length b3
  have hfi : idsL isO es.flatten := by
    clear hg hl hr hfl b3 hzl
    induction es with
    | nil => trivial
    | cons x es ih =>
      simp only [idsS] at hids
      rw [List.flatten_cons]
      exact idsL_iff.2 fun c hc => (List.mem_append.1 hc).elim (fun h => idsL_iff.1 hids.1 c h) fun h => idsL_iff.1 (ih hids.2) c h
  have hv : RV w (C.still w) es.flatten (zs.take (es.length * s)) := by
    refine RV.chg hi.stillChg _ _ hfi ?_
    have := b3.take (es.length * s)
    rwa [vec, List.take_append_of_le_length (by omega), List.take_of_length_le (by omega)] at this
  refine RS.ofVals 0 hl hv fun j v hj => ⟨?_, lt_of_heap b1⟩
  have h2 : j < es.length * s := by have := (List.getElem?_eq_some_iff.1 hj).1; simp at this; omega
  rw [List.getElem?_take_of_lt h2] at hj
  rw [Nat.zero_add, cell_of_row _ _ _ _ _ _ b1]
  simpa using hj
theorem LendF.ptr {σ : St} {i : Id} {off : Nat} {cs : List AC} (hg : σ.get i = some (.cells cs)) (hids : idsL isO cs) : LendF σ (.one (.ptr i off)) (.one (.box (cs.drop off))) := by
  intro Γ F w C v hi hr
  obtain ⟨hok, zs, T, b1, b2, b3, b4⟩ := hi.obj i _ hg
  simp only [RF, R] at hr
  refine ⟨⟨C.blk i, off, none⟩, hr.2, rfl, ?_⟩
  have h : RL w (C.still w) cs ⟨C.blk i, 0, none⟩ := by
    refine RL.of_new 0 (RV.chg hi.stillChg cs zs hids b3) (fun j v hj => ?_) (fun ad ha => ?_)
    · rw [Nat.zero_add, cell_of_row _ _ _ _ _ _ b1]
      simpa using hj
    · show ad.block < w.heap.size
      rw [ha]; exact lt_of_heap b1
  have := RL.drop off rfl h
  simpa using this
theorem LendFs.nil {σ : St} : LendFs σ [] [] := fun _ _ _ _ _ _ h => h
theorem LendFs.cons {σ : St} {x y : FV} {xs ys : List FV} (h : LendF σ x y) (k : LendFs σ xs ys) : LendFs σ (x :: xs) (y :: ys) := by
  intro Γ F w C vs hi hr
  simp only [RFs] at hr ⊢
  obtain ⟨v, us, rfl, h1, h2⟩ := hr
  exact ⟨v, us, rfl, h _ _ _ _ _ hi h1, k _ _ _ _ _ hi h2⟩
/-- What reads the same everywhere. -/
def Plain (r : FV) : Prop := ∀ (w w' : World) (C C' : Ctx) (v : Value), RF w C r v → RF w' C' r v
theorem Plain.lit (u : Value) : Plain (.one (.lit u)) := fun w w' C C' v h => by simpa only [RF, R] using h
end Go.Abs
/- The abstract layer, part Ak: parts of an own array, elements taken out of it in place, its tail cleared; an own array in a value that is written no more. No condition. -/
namespace Go.Abs
set_option linter.unusedVariables false
set_option linter.unusedSimpArgs false
/-- A bound that may be left out. -/
def optIs (Γ : List (Nat × List AC)) (fr : Fr) (x : Option Operand) (n d : Nat) : Prop := match x with
  | none => n = d
  | some y => ∃ k : IntKind, aEval Γ fr y = some (.one (.lit (.int k (n : Int))))
section
variable {E : Env} {o : Oper} {fr : Fr} {σ : St}
end
section
variable {Γ : List (Nat × List AC)} {F : Nat → Prop} {w : World} {C : Ctx} {σ : St}
end
end Go.Abs
/- The abstract layer, part Al: a drawn head with calls of which not all is known; own arrays from nothing; an object of which less is said. No condition. -/
namespace Go.Abs
set_option linter.unusedVariables false
set_option linter.unusedSimpArgs false
theorem HStepR.mono {E : Env} {ops : Array Oper} {o : Oper} {fr : Fr} {σ : St} {P Q : FV → St → Prop} (h : HStepR E ops o fr σ P) (hq : ∀ v σ', P v σ' → Q v σ') : HStepR E ops o fr σ Q := by
  rcases h with ⟨v, σ', h1, h2⟩ | ⟨h1, h2⟩
  · exact .inl ⟨v, σ', h1, hq _ _ h2⟩
  · exact .inr ⟨h1, fun F w C tmps hi hf next Q' hk => h2 F w C tmps hi hf next Q' fun u w' C' v σ' hp => hk u w' C' v σ' (hq _ _ hp)⟩
section
variable {E : Env} {l : List Oper} {frb : Fr} {n : Nat} {K : Cont} {J : Array Bool → St → (Nat → Option FV) → Prop}
end
end Go.Abs
/- The abstract layer, part Am: a value boxed and written no more; the bits of numbers. No condition. -/
namespace Go.Abs
set_option linter.unusedVariables false
set_option linter.unusedSimpArgs false
/-- Bits. -/
def bI (v : BitVec 64) : Int := IntKind.i64.wrap v.toNat
def orI (a b : Int) : Int := bI (BitVec.ofInt 64 a ||| BitVec.ofInt 64 b)
def anI (a b : Int) : Int := bI (BitVec.ofInt 64 a &&& ~~~BitVec.ofInt 64 b)
/-- All bits of the one are bits of the other. -/
def subI (a b : Int) : Prop := BitVec.ofInt 64 a &&& ~~~BitVec.ofInt 64 b = 0#64
theorem subI.an {a b : Int} (h : subI a b) : anI a b = 0 := by
  unfold anI; rw [h]; decide
theorem bv_sub {a b : BitVec 64} : a &&& ~~~b = 0#64 ↔ a ||| b = b := by
  constructor
  · intro h
    ext i hi
    have := congrArg (fun v : BitVec 64 => v.getLsbD i) h
    simp [hi] at this ⊢
    simp only [← BitVec.getLsbD_eq_getElem] at *
    cases ha : a.getLsbD i <;> simp_all
  · intro h
    ext i hi
    have := congrArg (fun v : BitVec 64 => v.getLsbD i) h
    simp [hi] at this ⊢
    simp only [← BitVec.getLsbD_eq_getElem] at *
    cases ha : a.getLsbD i <;> simp_all
theorem subI.trans {a b c : Int} (h : subI a b) (k : subI b c) : subI a c := by
  unfold subI at *
  rw [bv_sub] at *
  rw [← k, ← BitVec.or_assoc, h]
theorem subI.zero (b : Int) : subI 0 b := by unfold subI; simp
section
variable {E : Env} {o : Oper} {fr : Fr} {σ : St}
theorem AStep.or {t yt : TypeId} {x y : Operand} {a b : Int} (ho : o.op = .binOp .or t x y yt) (hx : aEval E.Γ fr x = some (.one (.lit (.int .i64 a)))) (hy : aEval E.Γ fr y = some (.one (.lit (.int .i64 b)))) : AStep E o fr σ (.one (.lit (.int .i64 (orI a b)))) σ := by
  refine AStep.quiet fun F w C tmps hi hf => ⟨.int .i64 (orI a b), ?_, rfl, rfl⟩
  have h1 := aEval_ok (a := ⟨tmps, []⟩) hi hf hx
  have h2 := aEval_ok (a := ⟨tmps, []⟩) hi hf hy
  simp only [RF, R] at h1 h2
  unfold execOp
  simp only [ho, h1.1, h2.1, eqGuard_at_int, Sem.run_bind, Sem.run_pure, Result.andThen_ok]
  rfl
end
end Go.Abs
/- The abstract layer, part An: an own array of rows of k cells, permuted in place by a sort with a comparison. What the sort does is given. -/
namespace Go.Abs
open Go.Sort Go.Proofs
set_option linter.unusedVariables false
set_option linter.unusedSimpArgs false
set_option linter.unusedSectionVars false
section
variable {α : Type} [Inhabited α]
/-- A row of values as abstract cells. -/
def litC (enc : α → List Value) (x : α) : List AC := (enc x).map .lit
theorem flat_litC (enc : α → List Value) : ∀ l : List α, (l.map (litC enc)).flatten = (l.flatMap enc).map .lit
  | [] => rfl
  | x :: l => by simp [flat_litC enc l, litC]
theorem RV.lits {w : World} {C : Ctx} : ∀ {vs : List Value} {cs : List AC} {xs : List Value}, RV w C (vs.map .lit ++ cs) xs → xs = vs ++ xs.drop vs.length ∧ RV w C cs (xs.drop vs.length)
  | [], cs, xs, h => ⟨by simp, by simpa using h⟩
  | v :: vs, cs, xs, h => by
    simp only [List.map_cons, List.cons_append, RV] at h
    obtain ⟨u, ys, rfl, h1, h2⟩ := h
    simp only [R] at h1
    obtain ⟨h3, h4⟩ := RV.lits h2
    refine ⟨?_, by simpa using h4⟩
    simp only [List.length_cons, List.drop_succ_cons, List.cons_append]
    rw [← h3, h1.1]
theorem RV.ofLits {w : World} {C : Ctx} : ∀ (vs : List Value) {cs : List AC} {xs : List Value}, (∀ v ∈ vs, v.oneCell' = true) → RV w C cs xs → RV w C (vs.map .lit ++ cs) (vs ++ xs)
  | [], cs, xs, _, h => by simpa using h
  | v :: vs, cs, xs, ho, h => by
    simp only [List.map_cons, List.cons_append, RV]
    exact ⟨_, _, rfl, by simp only [R, true_and]; exact ho v (by simp), RV.ofLits vs (fun u hu => ho u (by simp [hu])) h⟩
theorem putCells_vals (d : List Value) (xs : List Value) (h : d.length ≤ xs.length) : putCells id 0 d.toArray xs.toArray = (d ++ xs.drop d.length).toArray := by
  apply Array.ext_getElem?
  intro k
  unfold putCells
  rw [Array.getElem?_mapIdx]
  by_cases hk : k < d.length
  · rw [List.getElem?_toArray, List.getElem?_toArray, List.getElem?_append_left (by simpa using hk)]
    have hx : k < xs.length := by omega
    simp [List.getElem?_eq_getElem hx, hk]
  · rw [List.getElem?_toArray, List.getElem?_toArray, List.getElem?_append_right (by omega)]
    rw [List.getElem?_drop, show d.length + (k - d.length) = k by omega]
    simp [hk]
theorem flatMap_len {enc : α → List Value} {k : Nat} (hk : ∀ x, (enc x).length = k) : ∀ l : List α, (l.flatMap enc).length = l.length * k
  | [] => by simp
  | x :: l => by simp only [List.flatMap_cons, List.length_append, hk, flatMap_len hk l, List.length_cons]; rw [Nat.add_mul]; omega
theorem flatMap_get {enc : α → List Value} {k : Nat} (hk : ∀ x, (enc x).length = k) : ∀ (l : List α) (t : Nat), t < l.length * k → (l.flatMap enc)[t]! = (enc l[t / k]!)[t % k]!
  | [], t, h => by simp at h
  | x :: l, t, h => by
    have k0 : 0 < k := by
      rcases Nat.eq_zero_or_pos k with h0 | h0
      · subst h0; simp at h
      · exact h0
    simp only [List.length_cons, Nat.add_mul, Nat.one_mul] at h
    rw [List.flatMap_cons]
    by_cases ht : t < k
    · rw [List.getElem!_eq_getElem?_getD, List.getElem?_append_left (by rw [hk]; exact ht), Nat.div_eq_of_lt ht, Nat.mod_eq_of_lt ht]
      simp [List.getElem!_eq_getElem?_getD]
    · have ih := flatMap_get hk l (t - k) (by omega)
      rw [List.getElem!_eq_getElem?_getD, List.getElem?_append_right (by rw [hk]; omega), hk, ← List.getElem!_eq_getElem?_getD, ih]
      have e1 : t / k = (t - k) / k + 1 := by
        rw [← Nat.add_div_right _ k0]; congr 1; omega
      have e2 : t % k = (t - k) % k := by rw [← Nat.mod_eq_sub_mod (by omega)]
      rw [e1, e2]
      simp
theorem flatK_list {enc : α → List Value} {k : Nat} (hk : ∀ x, (enc x).length = k) (d : Array α) : flatK enc k d = (d.toList.flatMap enc).toArray := by
  refine ext_get! (by simp [flatMap_len hk]) fun t ht => ?_
  have ht' : t < d.size * k := by simpa using ht
  rw [get_flatK _ _ _ _ ht']
  have := flatMap_get hk d.toList t (by simpa using ht')
  simp only [List.getElem!_toArray]
  rw [this]
  have e : d.toList[t / k]! = d[t / k]! := by simp [Array.getElem!_eq_getD, List.getElem!_eq_getElem?_getD]
  rw [e]
/-- The sort of an own array by a comparison: some permutation. -/
theorem AOps.sortK {E : Env} {ops : Array Oper} {rest : List Oper} {o : Oper} {K : Cont} {fr : Fr} {σ : St} {d : Nat} {f : Operand} {args : Array Operand} {tys : Array TypeId} {g g' : Nat} {i : Id} {l : List α} {cap : Nat} {enc : α → List Value} {k : Nat} (hk : ∀ x, (enc x).length = k) (h1c : ∀ x, ∀ v ∈ enc x, v.oneCell' = true)
    (hgd : o.guard = none) (hdst : o.dst = some d) (hd : Nat.ble (d + 1) E.N = true)
    (ho : o.op = .call { callee := .value f, args := args, argTypes := tys }) (hf : aEval E.Γ fr f = some (.one (.fn (.func g) [] []))) (hargs : aEvals E.Γ fr args.toList = some [.one (.arr i k 0 l.length cap), .one (.fn (.func g') [] [])])
    (hcf : ∀ us (w : World), (callFunc g us).run E.P w = .ok (.enter g us) w)
    (hc : ∀ (blk cap : Nat) (d : Array α) (w : World), HoldsK enc k w blk 0 d → blk < w.heap.size → d.size < 4611686018427387904 → Calls E.P g #[.slice (some ⟨blk, 0, none⟩) d.size cap, .func (.func g') #[] #[]] w fun e w' =>
      e = .returned (.tuple #[]) ∧ ∃ (d' : Array α) (n : Nat) (os : Array Obj), PermIn 0 d.size d d' ∧ w' = sortWorldK enc k w blk 0 n d' os)
    (hg : σ.get i = some (.cells (vec k (l.map (litC enc)) cap))) (hlen : l.length < 4611686018427387904)
    (h : ∀ l' : List α, l'.Perm l → AOps E ops rest K ((d, .tup []) :: fr) (σ.set i (.cells (vec k (l'.map (litC enc)) cap)))) : AOps E ops (o :: rest) K fr σ := by
  intro F w0 C0 w C tmps hgo hi hfr
  refine wpList_plain hgd fun N' hN => ?_
  have hcallee := aEval_ok (a := ⟨tmps, []⟩) hi hfr hf
  simp only [RF, R] at hcallee
  obtain ⟨xs, ys, hfv, hx, hy⟩ := hcallee
  simp only [RV] at hx hy
  subst hx; subst hy
  have hvs := aEvals_ok (a := ⟨tmps, []⟩) hi hfr hargs
  simp only [RFs, RF, R] at hvs
  obtain ⟨v, us, hv, ⟨hok, hv2, hcapl⟩, v', us', hus, ⟨xs', ys', hv3, hx', hy'⟩, hus'⟩ := hvs
  simp only [RV] at hx' hy'
  subst hx'; subst hy'
  subst hus'; subst hus
  rw [hv2, hv3] at hv
  simp only [Nat.zero_mul] at hv
  obtain ⟨hok', zs, T, b1, b2, b3, b4⟩ := hi.obj i _ hg
  have hzs := b3
  unfold vec at hzs
  rw [flat_litC] at hzs
  obtain ⟨hz1, hz2⟩ := RV.lits hzs
  have hfl : (l.flatMap enc).length = l.length * k := flatMap_len hk l
  have hzl : (l.flatMap enc).length ≤ zs.length := by rw [hz1]; simp
  have hcell : ∀ j : Nat, w.cell? ⟨C.blk i, j, none⟩ = zs[j]? := fun j => by rw [cell_of_row _ _ _ _ _ _ b1]; simp
  have hH : HoldsK enc k w (C.blk i) 0 l.toArray := by
    unfold HoldsK
    rw [flatK_list hk]
    intro j hj
    have hj' : j < (l.flatMap enc).length := by simpa using hj
    refine ⟨?_, ?_⟩
    · rw [Nat.zero_add, hcell, hz1, List.getElem?_append_left hj']
      simp only [List.getElem!_toArray, id]
      rw [List.getElem?_eq_getElem hj', getElem!_pos _ j hj']
    · simp [World.frozen?, b1]
  have hblk : C.blk i < w.heap.size := lt_of_heap b1
  have hrun : (execOp (Act.eval ⟨tmps, []⟩) o).run E.P w = .ok (.enter g #[.slice (some ⟨C.blk i, 0, none⟩) l.length cap, .func (.func g') #[] #[]]) w := by
    unfold execOp
    simp only [ho, resolve, Sem.run_bind, hfv, Deferred.ofValue, Sem.run_pure, Result.andThen_ok, invoke, hcf]
    congr 2
    apply Array.ext'
    simpa using hv
  unfold Oper.wp
  rw [hrun, Oper.upon_enter]
  refine (hc (C.blk i) cap l.toArray w hH hblk (by simpa using hlen)).mono fun e w' ⟨he, d', n, os, hp, hw'⟩ => ?_
  subst he
  subst hw'
  obtain ⟨p1, _, p3⟩ := hp
  have hperm : d'.toList.Perm l := by
    have e1 : d'.extract 0 l.toArray.size = d' := by rw [← p1]; simp
    have e2 : l.toArray.extract 0 l.toArray.size = l.toArray := by simp
    rw [e1, e2] at p3
    simpa using p3
  obtain ⟨l', hl'⟩ : ∃ l', l' = d'.toList := ⟨_, rfl⟩
  replace h := h l' (hl' ▸ hperm)
  have hll : l'.length = l.length := by rw [hl']; exact hperm.length_eq
  unfold sortWorldK putRowK
  rw [flatK_list hk, ← hl']
  have hfl' : (l'.flatMap enc).length = (l.flatMap enc).length := by rw [flatMap_len hk, flatMap_len hk, hll]
  have hsz : (putRow id (Sort.ahead w n) (C.blk i) 0 (l'.flatMap enc).toArray).heap.size = w.heap.size := by simp [Sort.ahead]
  have hoth : ∀ k, k ≠ C.blk i → (putRow id (Sort.ahead w n) (C.blk i) 0 (l'.flatMap enc).toArray).heap[k]? = w.heap[k]? := fun k hk => by
    unfold putRow mapBlock
    show (w.heap.modify _ _)[k]? = _
    rw [Array.getElem?_modify, if_neg (Ne.symm hk)]
  have hat : (putRow id (Sort.ahead w n) (C.blk i) 0 (l'.flatMap enc).toArray).heap[C.blk i]? = some (.cells (l'.flatMap enc ++ zs.drop (l.flatMap enc).length).toArray T (0, 0)) := by
    unfold putRow mapBlock
    show (w.heap.modify _ _)[C.blk i]? = _
    rw [Array.getElem?_modify, if_pos rfl, b1]
    simp only [Option.map_some, onCells]
    rw [putCells_vals (l'.flatMap enc) zs (by omega), hfl']
  have hone : ∀ v ∈ l'.flatMap enc, v.oneCell' = true := fun v hv => by
    obtain ⟨x, _, hx⟩ := List.mem_flatMap.1 hv
    exact h1c x v hx
  obtain ⟨he1, hi1⟩ := hi.turn (o' := .cells (vec k (l'.map (litC enc)) cap)) hg (show AObj.block C i (.cells _) = some (C.blk i) from rfl) hsz hoth (fun a ha hp => absurd hp (b4 a ha)) rfl fun he => by
    refine ⟨_, T, hat, b2, ?_, b4⟩
    unfold vec
    rw [flat_litC]
    have hcl : (l'.map (litC enc)).length = (l.map (litC enc)).length := by simp [hll]
    rw [hcl]
    exact RV.ofLits _ hone (hz2.ext he)
  have hsz2 : (putRow id (Sort.ahead w n) (C.blk i) 0 (l'.flatMap enc).toArray).heap.size ≤ (grow (putRow id (Sort.ahead w n) (C.blk i) 0 (l'.flatMap enc).toArray) os).heap.size := by simp [grow]
  have hold : ∀ k, k < (putRow id (Sort.ahead w n) (C.blk i) 0 (l'.flatMap enc).toArray).heap.size → (grow (putRow id (Sort.ahead w n) (C.blk i) 0 (l'.flatMap enc).toArray) os).heap[k]? = (putRow id (Sort.ahead w n) (C.blk i) 0 (l'.flatMap enc).toArray).heap[k]? := fun k hk => by
    show (_ ++ os)[k]? = _
    rw [Array.getElem?_append_left hk]
  obtain ⟨he2, hi2⟩ := hi1.grown hsz2 hold
  have hstp : Stp F w (grow (putRow id (Sort.ahead w n) (C.blk i) 0 (l'.flatMap enc).toArray) os) := by
    refine ⟨rfl, rfl, rfl, by rw [← hsz]; exact hsz2, fun k hk => ?_, fun a ha => ?_⟩
    · have hk2 := hi.base k hk
      rw [hold k (by rw [hsz]; exact hk2), hoth k (fun e => b2 (e ▸ hk))]
    · have h1 : World.frozen? (grow (putRow id (Sort.ahead w n) (C.blk i) 0 (l'.flatMap enc).toArray) os) a = World.frozen? (putRow id (Sort.ahead w n) (C.blk i) 0 (l'.flatMap enc).toArray) a := by
        unfold World.frozen?
        rw [hold a.block (by rw [hsz]; exact ha)]
      rw [h1, frozen?_putRow]; rfl
  refine hN _ _ ?_
  rw [put_eta]
  have hext := he1.trans he2
  rw [hdst]
  exact h F w0 C0 _ C _ (hgo.trans ⟨hstp, hext.weaken (fun _ _ => trivial), Nat.le_refl _, NewP.refl _ _⟩) hi2 (putFr_ok (dst := some d) (hfr.ext hext) hd (by simp only [RF, RFs]; exact ⟨[], rfl, rfl⟩))
end
end Go.Abs
/- The abstract layer, part Ao: a list that grows in an own array, or is none yet. No condition. -/
namespace Go.Abs
set_option linter.unusedVariables false
set_option linter.unusedSimpArgs false
def oaC (k s : Nat) (es : List (List AC)) : Option Nat → AC
  | none => .lit (.slice none 0 0)
  | some cap => .arr (.l k) s 0 es.length cap
def oaO (s : Nat) (es : List (List AC)) : Option Nat → AObj
  | none => .dead
  | some cap => .cells (vec s es cap)
def coO (es : List (List AC)) : Option Nat → Prop
  | none => es = []
  | some cap => es.length ≤ cap
section
variable {E : Env} {ops : Array Oper} {l rest : List Oper} {K : Cont} {fr : Fr} {σ : St}
theorem Inv.ghost {Γ : List (Nat × List AC)} {F : Nat → Prop} {w : World} {C : Ctx} (hi : Inv Γ F w C σ) : ∃ C', Ext w C w C' ∧ C'.no = C.no ∧ (∀ a, C'.prot a ↔ C.prot a) ∧ Inv Γ F w C' (σ.push .dead) := by
  have hn := Ctx.more_new C 0 none hi.next
  have he : Ext w C w (C.more 0 none) := ⟨fun _ _ => rfl, fun _ h => h, fun i _ hok => Ctx.more_old C 0 none hok⟩
  refine ⟨C.more 0 none, he, rfl, fun a => Iff.rfl, ?_⟩
  refine hi.addObj (o := .dead) (d := .l σ.n) (fun i => St.get_push σ _ i) he ?_ hi.base hi.prot (fun _ _ _ _ _ _ h => h) (fun _ _ _ _ _ _ h => h) hn.1 trivial (fun _ _ _ _ _ h => by cases h)
  show C.nl + 1 = σ.n + 1
  rw [hi.next]
/-- A name for an object that is not there yet. -/
theorem AOps.ghost (h : AOps E ops l K fr (σ.push .dead)) : AOps E ops l K fr σ := by
  intro F w0 C0 w C tmps hg hi hf
  obtain ⟨C', h1, h2, h3, h4⟩ := hi.ghost
  exact h F w0 C0 w C' tmps (hg.trans ⟨Stp.refl _ _, h1.weaken (fun _ _ => trivial), by rw [h2]; exact Nat.le_refl _, fun a ha => .inl ((h3 a).1 ha)⟩) h4 (hf.ext h1)
theorem ACode.ghost {c : Code} (h : ACode E c K fr (σ.push .dead)) : ACode E c K fr σ := by
  intro F w0 C0 w C tmps hg hi hf
  obtain ⟨C', h1, h2, h3, h4⟩ := hi.ghost
  exact h F w0 C0 w C' tmps (hg.trans ⟨Stp.refl _ _, h1.weaken (fun _ _ => trivial), by rw [h2]; exact Nat.le_refl _, fun a ha => .inl ((h3 a).1 ha)⟩) h4 (hf.ext h1)
theorem AOps.appG {o : Oper} {dd : Nat} {t : TypeId} {ti tj : TI} {x y : Operand} {d : AC} {s k : Nat} {es news : List (List AC)} {oc : Option Nat} (hT : TabOk E.P E.T) (hgd : o.guard = none) (hdst : o.dst = some dd) (hdd : Nat.ble (dd + 1) E.N = true)
    (ho : o.op = .call { callee := .builtin .append, args := #[x, y], argTypes := #[t, t] }) (ht : Tab.get t E.T = some ti) (hk : Nat.beq ti.kind 2 = true) (hj : Tab.get ti.elem E.T = some tj) (hx : aEval E.Γ fr x = some (.one (oaC k s es oc))) (hy : aEval E.Γ fr y = some (.one d))
    (hg : σ.get (.l k) = some (oaO s es oc)) (hco : coO es oc) (hl : ∀ x ∈ es, x.length = s) (hsrc : Src d s news) (hne : news ≠ [])
    (hs : Nat.beq tj.size s = true) (hbytes : (es.length + news.length) * tj.bytes ≤ 140737488355328) (h63 : es.length + news.length ≤ 140737488355328)
    (h : ∀ cap, (es ++ news).length ≤ cap → AOps E ops rest K ((dd, .one (oaC σ.n s (es ++ news) (some cap))) :: fr) ((σ.set (.l k) .dead).push (oaO s (es ++ news) (some cap)))) : AOps E ops (o :: rest) K fr σ := by
  cases oc with
  | none =>
    simp only [coO] at hco
    subst hco
    refine AOps.appOwn hT hgd hdst hdd ho ht hk hj hx hy (.nil s) hsrc hne hs hbytes h63 fun cap hc => ?_
    refine AOps.lessO ((σ.set (.l k) .dead).push (oaO s ([] ++ news) (some cap))) rfl (fun i q hq => ?_) (h cap hc)
    rw [St.get_push] at hq ⊢
    split
    · rename_i e
      rw [if_pos (by rw [e]; rfl)] at hq
      exact hq
    · rename_i e
      rw [if_neg (by intro e2; exact e e2)] at hq
      by_cases e3 : (Id.l k) = i
      · subst e3
        rw [St.get_set_same] at hq
        rw [hg, ← hq]; rfl
      · rw [St.get_set_ne _ e3] at hq; exact hq
  | some cap =>
    exact AOps.appOwn hT hgd hdst hdd ho ht hk hj hx hy (.own s cap es (.l k) hg hl hco) hsrc hne hs hbytes h63 h
end
theorem letsOut_mono {Q Q' : Exit → Act → World → Prop} (hq : ∀ e a w, Q e a w → Q' e a w) (h : LetsOut Q) : LetsOut Q' := let ⟨a, w, h⟩ := h; ⟨a, w, hq _ _ _ h⟩
theorem oper_mono {P : Program} {Q Q' : Exit → Act → World → Prop} (hq : ∀ e a w, Q e a w → Q' e a w) {o : Oper} {a : Act} {w : World} {K K' : Act → World → Prop} (h : ∀ a w, K a w → K' a w) (hh : o.wp P a w K Q) : o.wp P a w K' Q' := by
  unfold Oper.wp at *
  generalize (execOp a.eval o).run P w = r at *
  cases r with
  | ok n w' =>
    cases n with
    | value v => exact h _ _ hh
    | skip => exact h _ _ hh
    | defer d => exact h _ _ hh
    | enter f args =>
      exact Calls.mono hh (fun e w'' he => by
        cases e with
        | returned v => exact h _ _ he
        | panicked c => exact hq _ _ _ he
        | outgrown => exact letsOut_mono hq he)
    | row row args => exact Rows.mono hh (fun _ _ he => h _ _ he)
    | _ => exact absurd hh (by simp only [Oper.upon]; exact id)
  | halt x w' => cases x <;> simp only [Oper.upon] at hh ⊢ <;> first | exact hq _ _ _ hh | exact hh
theorem wpList_mono {P : Program} {ops : Array Oper} {Q Q' : Exit → Act → World → Prop} (hq : ∀ e a w, Q e a w → Q' e a w) : ∀ {l : List Oper} {a : Act} {w : World}, wpList P ops Q l a w → wpList P ops Q' l a w
  | [], a, w, h => hq _ _ _ h
  | o :: rest, a, w, h => by
    simp only [wpList] at h ⊢
    split
    · rename_i hw
      rw [if_pos hw] at h
      rcases h with h | ⟨h1, h2⟩
      · exact .inl (oper_mono hq (fun a w h => wpList_mono hq h) h)
      · exact .inr ⟨h1, letsOut_mono hq h2⟩
    · rename_i hw
      rw [if_neg hw] at h
      exact wpList_mono hq h
theorem AOps.monoK {E : Env} {ops : Array Oper} {l : List Oper} {K K' : Cont} {fr : Fr} {σ : St} (h : AOps E ops l K fr σ) (hk : ∀ e fr σ, K e fr σ → K' e fr σ) : AOps E ops l K' fr σ := by
  intro F w0 C0 w C tmps hg hi hf
  refine wpList_mono (fun e act w' hp => ?_) (h F w0 C0 w C tmps hg hi hf)
  obtain ⟨hd, fr2, σ2, C2, h1, h2, h3, h4⟩ := hp
  exact ⟨hd, fr2, σ2, C2, h1, h2, h3, hk _ _ _ h4⟩
theorem contOf_mono {E : Env} {Fin : Fr → St → Prop} {k k' : List AItem} (h : ∀ e fr σ, contOf E Fin k e fr σ → contOf E Fin k' e fr σ) : ∀ (pre : List AItem) (e : Exit) (fr : Fr) (σ : St), contOf E Fin (pre ++ k) e fr σ → contOf E Fin (pre ++ k') e fr σ
  | [], e, fr, σ, hc => h e fr σ hc
  | .code c :: pre, e, fr, σ, hc => by
    cases e with
    | normal => exact ACode.monoK (show ACode E c (contOf E Fin (pre ++ k)) fr σ from hc) (contOf_mono h pre)
    | _ => exact contOf_mono h pre _ fr σ hc
  | .blk id :: pre, e, fr, σ, hc => by
    cases e with
    | normal => exact contOf_mono h pre _ fr σ hc
    | exit j =>
      simp only [List.cons_append, contOf] at hc ⊢
      cases hb : Nat.beq j id with
      | true => rw [hb] at hc; exact contOf_mono h pre _ fr σ hc
      | false => rw [hb] at hc; exact contOf_mono h pre _ fr σ hc
    | _ => exact contOf_mono h pre _ fr σ hc
  | .inv J :: pre, e, fr, σ, hc => by
    cases e with
    | normal => exact hc
    | _ => exact contOf_mono h pre _ fr σ hc
section
variable {E : Env} {ops : Array Oper} {l : List Oper} {x y : Code} {Fin : Fr → St → Prop} {k : List AItem} {α : Type} {fr : Fr} {σ : St}
theorem cutP_step (hΓ : ∀ g cs, (g, cs) ∈ E.Γ → idsL isO cs) {frI : α → Fr} {σI : α → St} {I : α → Prop} (hy : ∀ a, I a → ACode E y (contOf E Fin k) (frI a) (σI a)) (e : Exit) (fr : Fr) (σ : St)
    (h : contOf E Fin (.inv (fun fr' σ' => ∃ a ρ, I a ∧ LessR ρ fr' σ' (frI a) (σI a)) :: k) e fr σ) : contOf E Fin (.code y :: k) e fr σ := by
  cases e with
  | normal =>
    obtain ⟨a, ρ, ha, hl⟩ := h
    exact ACode.lessR hΓ hl (hy a ha)
  | _ => exact h
/-- WAYS THAT MEET behind some items: the states there are given by 'α'. -/
theorem AOps.cutP (pre : List AItem) (hΓ : ∀ g cs, (g, cs) ∈ E.Γ → idsL isO cs) (frI : α → Fr) (σI : α → St) (I : α → Prop)
    (hx : AOps E ops l (contOf E Fin (pre ++ .inv (fun fr' σ' => ∃ a ρ, I a ∧ LessR ρ fr' σ' (frI a) (σI a)) :: k)) fr σ) (hy : ∀ a, I a → ACode E y (contOf E Fin k) (frI a) (σI a)) : AOps E ops l (contOf E Fin (pre ++ .code y :: k)) fr σ :=
  AOps.monoK hx (contOf_mono (cutP_step hΓ hy) pre)
theorem ACode.cutP (pre : List AItem) (hΓ : ∀ g cs, (g, cs) ∈ E.Γ → idsL isO cs) (frI : α → Fr) (σI : α → St) (I : α → Prop)
    (hx : ACode E x (contOf E Fin (pre ++ .inv (fun fr' σ' => ∃ a ρ, I a ∧ LessR ρ fr' σ' (frI a) (σI a)) :: k)) fr σ) (hy : ∀ a, I a → ACode E y (contOf E Fin k) (frI a) (σI a)) : ACode E x (contOf E Fin (pre ++ .code y :: k)) fr σ :=
  ACode.monoK hx (contOf_mono (cutP_step hΓ hy) pre)
/-- .. behind n items. -/
theorem AOps.cutN {its : List AItem} (n : Nat) (hn : its.drop n = .code y :: k) (hΓ : ∀ g cs, (g, cs) ∈ E.Γ → idsL isO cs) (frI : α → Fr) (σI : α → St) (I : α → Prop)
    (hx : AOps E ops l (contOf E Fin (its.take n ++ .inv (fun fr' σ' => ∃ a ρ, I a ∧ LessR ρ fr' σ' (frI a) (σI a)) :: k)) fr σ) (hy : ∀ a, I a → ACode E y (contOf E Fin k) (frI a) (σI a)) : AOps E ops l (contOf E Fin its) fr σ := by
  have h := AOps.cutP (its.take n) hΓ frI σI I hx hy
  rwa [← hn, List.take_append_drop] at h
theorem ACode.cutN {its : List AItem} (n : Nat) (hn : its.drop n = .code y :: k) (hΓ : ∀ g cs, (g, cs) ∈ E.Γ → idsL isO cs) (frI : α → Fr) (σI : α → St) (I : α → Prop)
    (hx : ACode E x (contOf E Fin (its.take n ++ .inv (fun fr' σ' => ∃ a ρ, I a ∧ LessR ρ fr' σ' (frI a) (σI a)) :: k)) fr σ) (hy : ∀ a, I a → ACode E y (contOf E Fin k) (frI a) (σI a)) : ACode E x (contOf E Fin its) fr σ := by
  have h := ACode.cutP (its.take n) hΓ frI σI I hx hy
  rwa [← hn, List.take_append_drop] at h
end
@[simp] theorem ren_oaC (ρ : Nat → Nat) (k s : Nat) (es : List (List AC)) (oc : Option Nat) : (oaC k s es oc).ren ρ = oaC (ρ k) s es oc := by cases oc <;> rfl
theorem ren_oaO (ρ : Nat → Nat) (s : Nat) (es : List (List AC)) (oc : Option Nat) (h : ∀ cap, idsL isO (vec s es cap)) : (oaO s es oc).ren ρ = oaO s es oc := by
  cases oc with
  | none => rfl
  | some cap => exact AObj.ren_pure ρ (.cells (vec s es cap)) (h cap)
@[simp] theorem ids_oaC (n k s : Nat) (es : List (List AC)) (oc : Option Nat) : (oaC k s es oc).ids (inL n) ↔ (oc = none ∨ inL n (.l k)) := by cases oc <;> simp [oaC, AC.ids]
theorem ids_vec {p : Id → Prop} {s cap : Nat} {es : List (List AC)} (h : idsS p es) : idsL p (vec s es cap) := by
  unfold vec
  refine idsL_iff.2 fun c hc => ?_
  rcases List.mem_append.1 hc with hc | hc
  · obtain ⟨e, he, hc⟩ := List.mem_flatten.1 hc
    exact idsL_iff.1 (idsS_iff.1 h e he) c hc
  · rw [List.mem_replicate] at hc
    rw [hc.2]; trivial
theorem ids_oaO {p : Id → Prop} {s : Nat} {es : List (List AC)} {oc : Option Nat} (h : idsS p es) : (oaO s es oc).ids p := by
  cases oc with
  | none => trivial
  | some cap => exact ids_vec h
theorem FrSub.oa {ρ : Nat → Nat} {fr r : Fr} {d k k' s : Nat} {es : List (List AC)} {oc : Option Nat} (h : Fr.get d fr = some (.one (oaC k' s es oc))) (hk : k' = ρ k) (hr : FrSub ρ fr r) : FrSub ρ fr ((d, .one (oaC k s es oc)) :: r) :=
  FrSub.cons h (.ofEq (by subst hk; simp only [FV.ren, ren_oaC])) hr
/-- A call whose contract leaves the world as it is. -/
theorem AOps.callNo2 {E : Env} {ops : Array Oper} {rest : List Oper} {o : Oper} {K : Cont} {fr : Fr} {σ : St} {d : Nat} {f : Operand} {args : Array Operand} {tys : Array TypeId} {g : Nat} {u : Value} {q : Fn} (hgd : o.guard = none) (hdst : o.dst = some d) (hd : Nat.ble (d + 1) E.N = true)
    (ho : o.op = .call { callee := .value f, args := args, argTypes := tys }) (hf : aEval E.Γ fr f = some (.one (.fn (.func g) [] []))) (hargs : aEvals E.Γ fr args.toList = some [.one (.lit u), .one (.fn q [] [])])
    (hcf : ∀ us (w : World), (callFunc g us).run E.P w = .ok (.enter g us) w) (hc : ∀ w : World, Calls E.P g #[u, .func q #[] #[]] w fun e w' => e = .returned (.tuple #[]) ∧ w' = w)
    (h : AOps E ops rest K ((d, .tup []) :: fr) σ) : AOps E ops (o :: rest) K fr σ := by
  intro F w0 C0 w C tmps hgo hi hfr
  refine wpList_plain hgd fun N' hN => ?_
  have hcallee := aEval_ok (a := ⟨tmps, []⟩) hi hfr hf
  simp only [RF, R] at hcallee
  obtain ⟨xs, ys, hfv, hx, hy⟩ := hcallee
  simp only [RV] at hx hy
  subst hx; subst hy
  have hvs := aEvals_ok (a := ⟨tmps, []⟩) hi hfr hargs
  simp only [RFs, RF, R] at hvs
  obtain ⟨v, us, hv, ⟨hv2, _⟩, v', us', hus, ⟨xs', ys', hv3, hx', hy'⟩, hus'⟩ := hvs
  simp only [RV] at hx' hy'
  subst hx'; subst hy'
  subst hus'; subst hus
  rw [hv2, hv3] at hv
  have hrun : (execOp (Act.eval ⟨tmps, []⟩) o).run E.P w = .ok (.enter g #[u, .func q #[] #[]]) w := by
    unfold execOp
    simp only [ho, resolve, Sem.run_bind, hfv, Deferred.ofValue, Sem.run_pure, Result.andThen_ok, invoke, hcf]
    congr 2
    apply Array.ext'
    simpa using hv
  unfold Oper.wp
  rw [hrun, Oper.upon_enter]
  refine (hc w).mono fun e w' ⟨he, hw'⟩ => ?_
  subst he
  subst hw'
  refine hN _ _ ?_
  rw [put_eta]
  rw [hdst]
  exact h F w0 C0 w' C _ hgo hi (putFr_ok (dst := some d) hfr hd (by simp only [RF, RFs]; exact ⟨[], rfl, rfl⟩))
end Go.Abs
/- Core expressions as plain data: lists, trees, and what the functions of the package compute. No condition. -/
namespace Go.CoreX
/-- An alternative, a node, a tree. -/
structure Alt where
  tag : Int
  binds : List Int
  deriving DecidableEq
structure Ex where
  op : Int
  n : Int
  binds : List Int
  kids : List Int
  alts : List Alt
  deriving DecidableEq
inductive Tr where
  | mk (op n : Int) (binds : List Int) (kids : List Tr) (alts : List Alt)
instance : Inhabited Tr := ⟨.mk 0 0 [] [] []⟩
def Tr.op : Tr → Int | .mk o _ _ _ _ => o
def Tr.n : Tr → Int | .mk _ n _ _ _ => n
def Tr.binds : Tr → List Int | .mk _ _ b _ _ => b
def Tr.kids : Tr → List Tr | .mk _ _ _ k _ => k
def Tr.alts : Tr → List Alt | .mk _ _ _ _ a => a
@[simp] theorem Tr.op_mk (o n b k a) : (Tr.mk o n b k a).op = o := rfl
@[simp] theorem Tr.n_mk (o n b k a) : (Tr.mk o n b k a).n = n := rfl
@[simp] theorem Tr.binds_mk (o n b k a) : (Tr.mk o n b k a).binds = b := rfl
@[simp] theorem Tr.kids_mk (o n b k a) : (Tr.mk o n b k a).kids = k := rfl
@[simp] theorem Tr.alts_mk (o n b k a) : (Tr.mk o n b k a).alts = a := rfl

/-- The trees of the first nodes. -/
def nodeOf (ts : List Tr) (x : Ex) : Tr := .mk x.op x.n x.binds (x.kids.map fun k => ts.getD k.toNat default) x.alts
def growStep (ts : List Tr) (x : Ex) : List Tr := ts ++ [nodeOf ts x]
def growL (e : List Ex) : List Tr := e.foldl growStep []
def grow (e : List Ex) : Tr := (growL e).getD (e.length - 1) default

mutual
def listT (out : List Ex) : Tr → List Ex
  | .mk o n b k a => (listTs out k).1 ++ [⟨o, n, b, (listTs out k).2, a⟩]
def listTs (out : List Ex) : List Tr → List Ex × List Int
  | [] => (out, [])
  | t :: ts => ((listTs (listT out t) ts).1, (((listT out t).length : Int) - 1) :: (listTs (listT out t) ts).2)
end

/-- What a node binds itself, and in its kid k. -/
def bindersN (op : Int) (binds : List Int) (alts : List Alt) : List Int := (if op = 2 ∨ op = 4 ∨ op = 5 then binds else []) ++ alts.flatMap (·.binds)
def boundN (op : Int) (binds : List Int) (alts : List Alt) (k : Int) : List Int :=
  if op = 2 ∨ op = 5 ∨ (op = 4 ∧ k = 1) then binds else if 0 < (alts.length : Int) ∧ 0 < k ∧ k ≤ alts.length then (alts.getD (k - 1).toNat ⟨0, []⟩).binds else []

/-- treeError. -/
def kidStep (i : Nat) (s : Option (List Int × List Int)) (k : Int) : Option (List Int × List Int) :=
  s.bind fun dp => if k < 0 ∨ (i : Int) ≤ k then none else some (dp.1.set i (if dp.1.getD k.toNat 0 > dp.1.getD i 0 then dp.1.getD k.toNat 0 else dp.1.getD i 0), dp.2.set k.toNat (dp.2.getD k.toNat 0 + 1))
def nodeStep (s : Option (List Int × List Int)) (x : Ex × Nat) : Option (List Int × List Int) :=
  (x.1.kids.foldl (kidStep x.2) s).map fun dp => (dp.1.set x.2 (dp.1.getD x.2 0 + 1), dp.2)
def treeRun (e : List Ex) : Option (List Int × List Int) := e.zipIdx.foldl nodeStep (some (List.replicate e.length 0, List.replicate e.length 0))
def oddParent (n : Nat) (p : List Int) (i : Nat) : Bool := !((p.getD i 0 == 1) == decide ((i : Int) < n - 1))
def treeErr (e : List Ex) : Int :=
  if 4096 < e.length then 2 else if e.length = 0 then 3 else
  match treeRun e with
  | none => 3
  | some (d, p) => if (List.range e.length).any (oddParent e.length p) = true then 3 else if 400 < d.getD (e.length - 1) 0 then 2 else 0

/-- nodeError. -/
def between (n low high : Int) : Bool := decide (low ≤ n) && decide (n ≤ high)
def flatOnly (op : Int) : Bool := op == 14 || op == 15 || op == 16
def coreOnly (op : Int) : Bool := op == 2 || op == 5 || op == 12 || op == 13
def altBad (x : Ex) (i : Nat) (a : Alt) : Bool :=
  ((x.alts.take i).any (fun b => b.tag == a.tag) || decide (a.tag < -1)) ||
  (x.op == 7 && a.tag == -1 && (decide ((i : Int) < x.alts.length - 1) || decide (0 < a.binds.length))) ||
  ((x.op == 13 && !(((i : Int) == 0) == (a.tag == -1))) || (x.op == 13 && !((a.binds.length : Int) == (if 2 < (i : Int) + 1 then 2 else (i : Int) + 1))))
def altsOk (x : Ex) : Bool := !(x.alts.zipIdx.any fun ai => altBad x ai.2 ai.1) && ((x.kids.length : Int) == 1 + x.alts.length && (x.op == 7 || decide (0 < x.alts.length)))
def arityL : List Int := [2, 2, 2, 2, 2, 2, 2, 1, 2, 1, 2, 3]
/-- The numbers of kids and identifiers, and whether N is used. -/
def wants (x : Ex) : Option (Int × Int × Bool) :=
  if x.op = 0 ∨ x.op = 1 ∨ x.op = 17 then some (0, 0, true) else
  if x.op = 2 then some (1, x.binds.length, false) else
  if x.op = 3 then some (if (x.kids.length : Int) > 1 then x.kids.length else 1, 0, false) else
  if x.op = 4 then some (2, 1, false) else
  if x.op = 5 then some (x.binds.length + 1, if (x.binds.length : Int) > 1 then x.binds.length else 1, false) else
  if x.op = 6 then some (x.kids.length, 0, true) else
  if x.op = 8 then (if between x.n 0 11 = true then some (arityL.getD x.n.toNat 0, 0, true) else none) else
  if x.op = 9 then some (x.binds.length, x.binds.length, false) else
  if x.op = 10 ∨ x.op = 12 then some (1, 0, true) else
  if x.op = 11 then some (2, 0, true) else
  if x.op = 14 ∨ x.op = 15 then some (x.kids.length, 0, true) else
  if x.op = 16 then some (1, 0, true) else none
def shape (x : Ex) : Bool :=
  if x.op = 7 ∨ x.op = 13 then altsOk x && x.binds.length == 0 && x.n == 0 else
  match wants x with
  | none => false
  | some (k, b, u) => (x.kids.length : Int) == k && (x.binds.length : Int) == b && x.alts.length == 0 && (u || x.n == 0)
def lowN (op : Int) : Int := if op = 1 then -1073741824 else if op = 17 then 1 else 0
def highN (op : Int) : Int := if op = 1 then 1073741823 else if op = 6 then 255 else if op = 17 then 6 else if op = 16 then 15 else 1048575
def identOk (n : Int) : Bool := between n 0 1048575
def altRange (op : Int) (a : Alt) : Bool := !((decide (255 < a.tag) && op == 7) || decide (1048576 ≤ a.tag)) && a.binds.all identOk
def fields (x : Ex) : Int := x.alts.foldl (fun f a => if (a.binds.length : Int) > f then a.binds.length else f) x.binds.length
def ranges (x : Ex) : Int :=
  if between x.n (lowN x.op) (highN x.op) = false then 4 else
  if x.binds.all identOk = false then 4 else
  if x.alts.all (altRange x.op) = false then 4 else
  if ((decide (fields x > (if x.op = 2 then 6 else 16)) || ((x.op == 6 || x.op == 15) && decide (16 < (x.kids.length : Int)))) || (x.op == 3 && decide (7 < (x.kids.length : Int)))) || (x.op == 14 && decide (6 < (x.kids.length : Int))) then 2 else 0
def bindBad (e : List Ex) (x : Ex) (i : Nat) : Bool :=
  (x.op == 5 && !((e.getD (x.kids.getD i 0).toNat ⟨0, 0, [], [], []⟩).op == 2)) || (x.op == 9 && decide (0 < i) && decide (x.binds.getD (i - 1) 0 ≥ x.binds.getD i 0))
def nodeErr (e : List Ex) (x : Ex) : Int :=
  if shape x = false then 3 else if ranges x ≠ 0 then ranges x else if (List.range x.binds.length).any (bindBad e x) = true then 3 else 0
def nodeErrF (flat : Bool) (e : List Ex) (x : Ex) : Int := if (flat && coreOnly x.op) || (!flat && flatOnly x.op) then 3 else nodeErr e x
def firstErr {α : Type} (f : α → Int) : List α → Int
  | [] => 0
  | a :: l => if f a ≠ 0 then f a else firstErr f l

/-- twice. -/
def hasDup : List Int → Bool
  | [] => false
  | n :: l => l.contains n || hasDup l
def exBinders (x : Ex) : List Int := bindersN x.op x.binds x.alts
def allBinders (e : List Ex) : List Int := e.flatMap exBinders

mutual
def occT (sc : List Int) : Tr → List Int
  | .mk o n b k a => (if o = 0 ∧ sc.contains n = false then [n] else []) ++ occTs sc o b a 0 k
def occTs (sc : List Int) (o : Int) (b : List Int) (a : List Alt) : Nat → List Tr → List Int
  | _, [] => []
  | i, t :: ts => occT (boundN o b a i ++ sc) t ++ occTs sc o b a (i + 1) ts
end
def insertS (n : Int) : List Int → List Int
  | [] => [n]
  | m :: l => if n < m then n :: m :: l else if n = m then m :: l else m :: insertS n l
def sortS (l : List Int) : List Int := l.foldr insertS []
def freeOf (t : Tr) : List Int := sortS (occT [] t)

/-- Body and Check. -/
def body (e : List Ex) (params : List Int) (flat : Bool) : Int :=
  if treeErr e ≠ 0 then treeErr e else
  if firstErr (nodeErrF flat e) e ≠ 0 then firstErr (nodeErrF flat e) e else
  if hasDup (params ++ allBinders e) = true then 7 else
  if (freeOf (grow e)).all (fun n => params.contains n) = true then 0 else 6
def check (e : List Ex) : Int := body e [] false
end Go.CoreX
/- Core expressions as plain data: an expression in order is the same expression. No condition. -/
namespace Go.CoreX
set_option linter.unusedVariables false
set_option linter.unusedSimpArgs false
/-- The label of a node: all that is said of it but where its kids lie. -/
structure Lab where
  op : Int
  n : Int
  binds : List Int
  ops : List Int
  alts : List Alt
  deriving DecidableEq
mutual
def sumT (g : Lab → Int) : Tr → Int
  | .mk o n b k a => g ⟨o, n, b, k.map Tr.op, a⟩ + sumTs g k
def sumTs (g : Lab → Int) : List Tr → Int
  | [] => 0
  | t :: ts => sumT g t + sumTs g ts
end
def mx (m d : Int) : Int := if d > m then d else m
mutual
def depthT : Tr → Int
  | .mk _ _ _ k _ => (depthTs k).foldl mx 0 + 1
def depthTs : List Tr → List Int
  | [] => []
  | t :: ts => depthT t :: depthTs ts
end
theorem depthTs_eq : ∀ l : List Tr, depthTs l = l.map depthT
  | [] => rfl
  | t :: ts => by simp [depthTs, depthTs_eq ts]
theorem sumTs_eq (g : Lab → Int) : ∀ l : List Tr, sumTs g l = (l.map (sumT g)).sum
  | [] => rfl
  | t :: ts => by simp [sumTs, sumTs_eq g ts]
theorem growL_snoc (e : List Ex) (x : Ex) : growL (e ++ [x]) = growL e ++ [nodeOf (growL e) x] := by simp [growL, growStep]
theorem snoc_ind {α : Type} {P : List α → Prop} (h0 : P []) (h1 : ∀ l x, P l → P (l ++ [x])) (l : List α) : P l := by
  have : ∀ l : List α, P l.reverse := by
    intro l
    induction l with
    | nil => exact h0
    | cons a l ih => rw [List.reverse_cons]; exact h1 _ _ ih
  simpa using this l.reverse
theorem growL_len (e : List Ex) : (growL e).length = e.length := by
  refine snoc_ind (P := fun e => (growL e).length = e.length) rfl (fun l x ih => ?_) e
  rw [growL_snoc]; simp [ih]
theorem growL_app (e l : List Ex) : ∃ r, growL (e ++ l) = growL e ++ r := by
  refine snoc_ind (P := fun l => ∃ r, growL (e ++ l) = growL e ++ r) ⟨[], by simp⟩ (fun l x ih => ?_) l
  obtain ⟨r, h⟩ := ih
  exact ⟨r ++ [nodeOf (growL (e ++ l)) x], by rw [← List.append_assoc, growL_snoc, h]; simp⟩
theorem getD_app {α : Type} {l r : List α} {i : Nat} {d : α} (h : i < l.length) : (l ++ r).getD i d = l.getD i d := by
  simp [List.getD, List.getElem?_append_left h]
theorem growL_get {e l : List Ex} {i : Nat} (h : i < e.length) : (growL (e ++ l)).getD i default = (growL e).getD i default := by
  obtain ⟨r, hr⟩ := growL_app e l
  rw [hr, getD_app (by rw [growL_len]; exact h)]
theorem growL_at (e l : List Ex) (x : Ex) : (growL (e ++ x :: l)).getD e.length default = nodeOf (growL e) x := by
  rw [show e ++ x :: l = (e ++ [x]) ++ l by simp, growL_get (by simp), growL_snoc]
  simp [List.getD, growL_len]
theorem grow_snoc (e : List Ex) (x : Ex) : grow (e ++ [x]) = nodeOf (growL e) x := by
  unfold grow
  have := growL_at e [] x
  simpa using this
/-- How often a node is a kid. -/
def cnt : List Ex → Nat → Nat
  | [], _ => 0
  | x :: e, i => x.kids.count (i : Int) + cnt e i
theorem cnt_app (e l : List Ex) (i : Nat) : cnt (e ++ l) i = cnt e i + cnt l i := by
  induction e with
  | nil => simp [cnt]
  | cons x e ih => simp [cnt, ih, Nat.add_assoc]
def kidsIn (e : List Ex) : Prop := ∀ (j : Nat) (x : Ex), e[j]? = some x → ∀ k ∈ x.kids, 0 ≤ k ∧ k < (j : Int)
theorem kidsIn_snoc {e : List Ex} {x : Ex} : kidsIn (e ++ [x]) ↔ kidsIn e ∧ ∀ k ∈ x.kids, 0 ≤ k ∧ k < e.length := by
  constructor
  · intro h
    refine ⟨fun j y hj => h j y ?_, ?_⟩
    · rw [List.getElem?_append_left (List.getElem?_eq_some_iff.1 hj).1]; exact hj
    · exact h e.length x (by simp)
  · intro ⟨h1, h2⟩ j y hj
    by_cases hl : j < e.length
    · rw [List.getElem?_append_left hl] at hj; exact h1 j y hj
    · rw [List.getElem?_append_right (by omega)] at hj
      have : j = e.length := by
        have := (List.getElem?_eq_some_iff.1 hj).1
        simp at this; omega
      subst this
      simp at hj; subst hj; exact h2
/-- What is known when some nodes have been looked at. -/
structure Run (pre : List Ex) (N : Nat) (d p : List Int) : Prop where
  dl : d.length = N
  pl : p.length = N
  pv : ∀ i, i < N → p.getD i 0 = cnt pre i
  dv : ∀ i, i < pre.length → d.getD i 0 = depthT ((growL pre).getD i default)
  d0 : ∀ i, pre.length ≤ i → d.getD i 0 = 0
theorem kidStep_none (i : Nat) : ∀ ks : List Int, ks.foldl (kidStep i) none = none
  | [] => rfl
  | k :: ks => by rw [List.foldl_cons]; exact kidStep_none i ks
theorem getD_set_eq {l : List Int} {i : Nat} {v : Int} (h : i < l.length) : (l.set i v).getD i 0 = v := by simp [List.getD, h]
theorem getD_set_ne {l : List Int} {i j : Nat} {v : Int} (h : i ≠ j) : (l.set i v).getD j 0 = l.getD j 0 := by simp [List.getD, List.getElem?_set_ne h]
theorem set_getD {l : List Int} {i : Nat} (h : i < l.length) : l.set i (l.getD i 0) = l := by
  apply List.ext_getElem?
  intro j
  by_cases hj : i = j
  · subst hj; simp [h, List.getD, List.getElem?_eq_getElem h]
  · rw [List.getElem?_set_ne hj]
theorem kids_run {i N : Nat} : ∀ (ks : List Int) (d p : List Int), d.length = N → p.length = N → i < N → (∀ k ∈ ks, 0 ≤ k ∧ k < i) →
    ∃ p', ks.foldl (kidStep i) (some (d, p)) = some (d.set i (ks.foldl (fun m k => mx m (d.getD k.toNat 0)) (d.getD i 0)), p') ∧ p'.length = N ∧ ∀ j, j < N → p'.getD j 0 = p.getD j 0 + ks.count (j : Int)
  | [], d, p, hd, hp, hi, _ => ⟨p, by rw [List.foldl_nil, List.foldl_nil, set_getD (show i < d.length by omega)], hp, by simp⟩
  | k :: ks, d, p, hd, hp, hi, hk => by
    obtain ⟨k0, k1⟩ := hk k (by simp)
    have hks : ∀ k ∈ ks, 0 ≤ k ∧ k < i := fun y hy => hk y (by simp [hy])
    obtain ⟨p', h1, h2, h3⟩ := kids_run ks (d.set i (mx (d.getD i 0) (d.getD k.toNat 0))) (p.set k.toNat (p.getD k.toNat 0 + 1)) (by simpa using hd) (by simpa using hp) hi hks
    refine ⟨p', ?_, h2, fun j hj => ?_⟩
    · rw [List.foldl_cons]
      have e1 : kidStep i (some (d, p)) k = some (d.set i (mx (d.getD i 0) (d.getD k.toNat 0)), p.set k.toNat (p.getD k.toNat 0 + 1)) := by
        simp only [kidStep, Option.bind_some, mx]
        rw [if_neg (by omega)]
      rw [e1, h1, List.set_set, getD_set_eq (by omega), List.foldl_cons]
      congr 2
      have : ∀ (l : List Int) (m : Int), (∀ k ∈ l, 0 ≤ k ∧ k < i) → l.foldl (fun m k' => mx m ((d.set i (mx (d.getD i 0) (d.getD k.toNat 0))).getD k'.toNat 0)) m = l.foldl (fun m k' => mx m (d.getD k'.toNat 0)) m := by
        intro l
        induction l with
        | nil => intro m _; rfl
        | cons y l ih =>
          intro m hl
          have hy := hl y (by simp)
          simp only [List.foldl_cons]
          rw [getD_set_ne (by omega), ih _ (fun z hz => hl z (by simp [hz]))]
      rw [this ks _ hks]
    · rw [h3 j hj, List.count_cons]
      by_cases hkj : k.toNat = j
      · subst hkj
        rw [getD_set_eq (by omega)]
        have : (k == ((k.toNat : Nat) : Int)) = true := by simp; omega
        rw [if_pos this]; omega
      · rw [getD_set_ne hkj]
        have : ¬ (k == (j : Int)) = true := by simp; omega
        rw [if_neg this]; omega
theorem kids_bad {i N : Nat} : ∀ (ks : List Int) (d p : List Int), ¬ (∀ k ∈ ks, 0 ≤ k ∧ k < i) → ks.foldl (kidStep i) (some (d, p)) = none
  | [], d, p, h => absurd (by simp) h
  | k :: ks, d, p, h => by
    rw [List.foldl_cons]
    by_cases hk : 0 ≤ k ∧ k < i
    · have e1 : kidStep i (some (d, p)) k = some (d.set i (mx (d.getD i 0) (d.getD k.toNat 0)), p.set k.toNat (p.getD k.toNat 0 + 1)) := by
        simp only [kidStep, Option.bind_some, mx]
        rw [if_neg (by omega)]
      rw [e1]
      refine kids_bad (N := N) ks _ _ fun h2 => h ?_
      intro y hy
      rcases List.mem_cons.1 hy with rfl | hy
      · exact hk
      · exact h2 y hy
    · have e1 : kidStep i (some (d, p)) k = none := by
        simp only [kidStep, Option.bind_some]
        rw [if_pos (by omega)]
      rw [e1, kidStep_none]
theorem foldl_kids (f : Int → Int) : ∀ (l : List Int) (m : Int), l.foldl (fun m k => mx m (f k)) m = (l.map f).foldl mx m
  | [], _ => rfl
  | k :: l, m => by simp [foldl_kids f l]
theorem depthT_nodeOf (ts : List Tr) (x : Ex) : depthT (nodeOf ts x) = (x.kids.map fun k => depthT (ts.getD k.toNat default)).foldl mx 0 + 1 := by
  simp only [nodeOf, depthT, depthTs_eq, List.map_map]; rfl
theorem Run.step {pre : List Ex} {N : Nat} {d p : List Int} {x : Ex} (h : Run pre N d p) (hN : pre.length < N) (hk : ∀ k ∈ x.kids, 0 ≤ k ∧ k < pre.length) : ∃ d' p', nodeStep (some (d, p)) (x, pre.length) = some (d', p') ∧ Run (pre ++ [x]) N d' p' := by
  obtain ⟨p', h1, h2, h3⟩ := kids_run x.kids d p h.dl h.pl hN hk
  have hdl := h.dl
  refine ⟨_, p', by simp only [nodeStep, h1, Option.map_some]; rfl, by simpa using hdl, h2, fun i hi => ?_, fun i hi => ?_, fun i hi => ?_⟩
  · rw [h3 i hi, h.pv i hi, cnt_app]; simp [cnt]
  · rw [List.set_set]
    simp only [List.length_append, List.length_singleton] at hi
    by_cases e : pre.length = i
    · subst e
      rw [getD_set_eq (by omega), getD_set_eq (by omega), growL_at pre [] x, depthT_nodeOf, h.d0 _ (Nat.le_refl _), foldl_kids]
      congr 2
      refine List.map_congr_left fun k hk2 => ?_
      have := hk k hk2
      exact h.dv _ (by omega)
    · rw [getD_set_ne e, growL_get (by omega), h.dv i (by omega)]
  · simp only [List.length_append, List.length_singleton] at hi
    rw [List.set_set, getD_set_ne (by omega), h.d0 i (by omega)]
theorem nodeStep_none (l : List (Ex × Nat)) : l.foldl nodeStep none = none := by
  induction l with
  | nil => rfl
  | cons x l ih =>
    have : nodeStep none x = none := by simp [nodeStep, kidStep_none]
    rw [List.foldl_cons, this, ih]
theorem run_spec {N : Nat} : ∀ (l pre : List Ex) (d p : List Int), Run pre N d p → kidsIn pre → pre.length + l.length = N →
    (kidsIn (pre ++ l) ∧ ∃ d' p', (l.zipIdx pre.length).foldl nodeStep (some (d, p)) = some (d', p') ∧ Run (pre ++ l) N d' p') ∨ (¬ kidsIn (pre ++ l) ∧ (l.zipIdx pre.length).foldl nodeStep (some (d, p)) = none)
  | [], pre, d, p, h, hk, _ => .inl ⟨by simpa using hk, d, p, rfl, by simpa using h⟩
  | x :: l, pre, d, p, h, hk, hN => by
    rw [List.zipIdx_cons, List.foldl_cons]
    simp only [List.length_cons] at hN
    by_cases hx : ∀ k ∈ x.kids, 0 ≤ k ∧ k < pre.length
    · obtain ⟨d1, p1, e1, h1⟩ := h.step (by omega) hx
      rw [e1]
      have := run_spec l (pre ++ [x]) d1 p1 h1 (kidsIn_snoc.2 ⟨hk, hx⟩) (by simp; omega)
      simpa [List.append_assoc] using this
    · right
      have e1 : nodeStep (some (d, p)) (x, pre.length) = none := by simp only [nodeStep, kids_bad (N := N) x.kids d p hx, Option.map_none]
      rw [e1, nodeStep_none]
      refine ⟨fun h2 => hx ?_, rfl⟩
      exact h2 pre.length x (by simp)
theorem treeRun_spec (e : List Ex) : (kidsIn e ∧ ∃ d p, treeRun e = some (d, p) ∧ Run e e.length d p) ∨ (¬ kidsIn e ∧ treeRun e = none) := by
  have h0 : Run [] e.length (List.replicate e.length 0) (List.replicate e.length 0) := by
    have z : ∀ i, (List.replicate e.length (0 : Int)).getD i 0 = 0 := fun i => by
      simp only [List.getD]
      rw [List.getElem?_replicate]; split <;> rfl
    exact ⟨by simp, by simp, fun i _ => by rw [z]; rfl, fun i hi => by simp at hi, fun i _ => z i⟩
  have := run_spec e [] _ _ h0 (fun j x hj => by simp at hj) (by simp)
  simpa [treeRun] using this
/-- A list that is a tree. -/
structure IsTree (e : List Ex) : Prop where
  ne : e ≠ []
  k : kidsIn e
  c : ∀ i, i < e.length → (cnt e i = 1 ↔ i + 1 < e.length)
theorem treeErr_iff (e : List Ex) : treeErr e = 0 ↔ e.length ≤ 4096 ∧ IsTree e ∧ depthT (grow e) ≤ 400 := by
  unfold treeErr
  by_cases h1 : 4096 < e.length
  · rw [if_pos h1]; exact ⟨fun h => absurd h (by decide), fun h => by omega⟩
  rw [if_neg h1]
  by_cases h2 : e.length = 0
  · rw [if_pos h2]
    exact ⟨fun h => absurd h (by decide), fun h => absurd (List.length_eq_zero_iff.1 h2) h.2.1.ne⟩
  rw [if_neg h2]
  rcases treeRun_spec e with ⟨hk, d, p, h3, hr⟩ | ⟨hk, h3⟩
  · rw [h3]
    have hd : d.getD (e.length - 1) 0 = depthT (grow e) := hr.dv _ (by omega)
    have hodd : (List.range e.length).any (oddParent e.length p) = true ↔ ¬ ∀ i, i < e.length → (cnt e i = 1 ↔ i + 1 < e.length) := by
      rw [List.any_eq_true]
      constructor
      · rintro ⟨i, hi, hb⟩ h
        have hi' : i < e.length := by simpa using hi
        have := h i hi'
        have hc := hr.pv i hi'
        simp only [oddParent, Bool.not_eq_true', beq_eq_false_iff_ne, ne_eq] at hb
        apply hb
        rw [Bool.eq_iff_iff, beq_iff_eq, decide_eq_true_iff, hc]
        omega
      · intro h
        simp only [Classical.not_forall] at h
        obtain ⟨i, hi, hne⟩ := h
        refine ⟨i, by simpa using hi, ?_⟩
        have hc := hr.pv i hi
        simp only [oddParent, Bool.not_eq_true', beq_eq_false_iff_ne, ne_eq]
        intro hb
        rw [Bool.eq_iff_iff, beq_iff_eq, decide_eq_true_iff, hc] at hb
        apply hne
        omega
    simp only
    by_cases h4 : (List.range e.length).any (oddParent e.length p) = true
    · rw [if_pos h4]
      exact ⟨fun h => absurd h (by decide), fun h => absurd h.2.1.c (hodd.1 h4)⟩
    · rw [if_neg h4, hd]
      have hc : ∀ i, i < e.length → (cnt e i = 1 ↔ i + 1 < e.length) := by
        apply Classical.byContradiction
        intro hn
        exact h4 (hodd.2 hn)
      by_cases h5 : 400 < depthT (grow e)
      · rw [if_pos h5]; exact ⟨fun h => absurd h (by decide), fun h => by omega⟩
      · rw [if_neg h5]
        exact ⟨fun _ => ⟨by omega, ⟨fun h => h2 (by simp [h]), hk, hc⟩, by omega⟩, fun _ => rfl⟩
  · rw [h3]
    simp only
    exact ⟨fun h => absurd h (by decide), fun h => absurd h.2.1.k hk⟩

/-- Weighted sums of a list of values. -/
def wsum (c : Nat → Int) : Nat → List Int → Int
  | _, [] => 0
  | j, v :: vs => c j * v + wsum c (j + 1) vs
theorem wsum_app (c : Nat → Int) : ∀ (vs us : List Int) (j : Nat), wsum c j (vs ++ us) = wsum c j vs + wsum c (j + vs.length) us
  | [], us, j => by simp [wsum]
  | v :: vs, us, j => by
    simp only [List.cons_append, wsum, wsum_app c vs us, List.length_cons]
    rw [show j + 1 + vs.length = j + (vs.length + 1) by omega]; omega
theorem wsum_congr {c c' : Nat → Int} : ∀ (vs : List Int) (j : Nat), (∀ i, j ≤ i → i < j + vs.length → c i = c' i) → wsum c j vs = wsum c' j vs
  | [], _, _ => rfl
  | v :: vs, j, h => by
    simp only [wsum]
    rw [h j (by omega) (by simp), wsum_congr vs (j + 1) (fun i h1 h2 => h i (by omega) (by simp; omega))]
theorem wsum_sub (c c' : Nat → Int) : ∀ (vs : List Int) (j : Nat), wsum (fun i => c i - c' i) j vs = wsum c j vs - wsum c' j vs
  | [], _ => by simp [wsum]
  | v :: vs, j => by
    simp only [wsum, wsum_sub c c' vs, Int.sub_mul]; omega
theorem wsum_add (c c' : Nat → Int) : ∀ (vs : List Int) (j : Nat), wsum (fun i => c i + c' i) j vs = wsum c j vs + wsum c' j vs
  | [], _ => by simp [wsum]
  | v :: vs, j => by
    simp only [wsum, wsum_add c c' vs, Int.add_mul]; omega
theorem wsum_zero {c : Nat → Int} : ∀ (vs : List Int) (j : Nat), (∀ i, j ≤ i → i < j + vs.length → c i = 0) → wsum c j vs = 0
  | [], _, _ => rfl
  | v :: vs, j, h => by
    simp only [wsum]
    rw [h j (by omega) (by simp), wsum_zero vs (j + 1) (fun i h1 h2 => h i (by omega) (by simp; omega))]; omega
theorem wsum_one (k : Int) : ∀ (vs : List Int) (j : Nat), (j : Int) ≤ k → k < j + vs.length → wsum (fun i => if k = (i : Int) then 1 else 0) j vs = vs.getD (k.toNat - j) 0
  | [], j, h1, h2 => by simp at h2; omega
  | v :: vs, j, h1, h2 => by
    simp only [wsum]
    by_cases e : k = j
    · subst e
      rw [wsum_zero vs (j + 1) (fun i h3 h4 => if_neg (by omega))]
      simp [List.getD]
    · rw [if_neg e, wsum_one k vs (j + 1) (by omega) (by simp at h2; omega)]
      rw [show k.toNat - j = (k.toNat - (j + 1)) + 1 by omega]
      simp [List.getD]
theorem wsum_count (vs : List Int) : ∀ ks : List Int, (∀ k ∈ ks, 0 ≤ k ∧ k < vs.length) → wsum (fun i => ((ks.count (i : Int) : Nat) : Int)) 0 vs = (ks.map fun k => vs.getD k.toNat 0).sum
  | [], _ => by simp; exact wsum_zero vs 0 (fun _ _ _ => by simp)
  | k :: ks, h => by
    have hk := h k (by simp)
    have e : wsum (fun i => (((k :: ks).count (i : Int) : Nat) : Int)) 0 vs = wsum (fun i => (if k = (i : Int) then 1 else 0) + ((ks.count (i : Int) : Nat) : Int)) 0 vs := by
      refine wsum_congr vs 0 fun i _ _ => ?_
      rw [List.count_cons]
      by_cases e : k = (i : Int)
      · simp [e]; omega
      · simp [e]
    rw [e, wsum_add, wsum_one k vs 0 (by omega) (by omega), wsum_count vs ks (fun y hy => h y (by simp [hy]))]
    simp
/-- The labels of the nodes of a list. -/
def labE (e : List Ex) (x : Ex) : Lab := ⟨x.op, x.n, x.binds, x.kids.map (fun k => ((growL e).getD k.toNat default).op), x.alts⟩
def labs (e : List Ex) : List Lab := e.map (labE e)
theorem labs_snoc {e : List Ex} {x : Ex} (h : kidsIn (e ++ [x])) : labs (e ++ [x]) = labs e ++ [labE e x] := by
  obtain ⟨h1, h2⟩ := kidsIn_snoc.1 h
  have same : ∀ y : Ex, (∀ k ∈ y.kids, 0 ≤ k ∧ k < e.length) → labE (e ++ [x]) y = labE e y := by
    intro y hy
    simp only [labE, Lab.mk.injEq, true_and, and_true]
    refine List.map_congr_left fun k hk => ?_
    have := hy k hk
    rw [growL_get (by omega)]
  simp only [labs, List.map_append, List.map_cons, List.map_nil]
  rw [same x h2]
  congr 1
  refine List.map_congr_left fun y hy => same y fun k hk => ?_
  obtain ⟨j, hj⟩ := List.mem_iff_getElem?.1 hy
  have := h1 j y hj k hk
  have hl := (List.getElem?_eq_some_iff.1 hj).1
  omega
theorem sumT_nodeOf (g : Lab → Int) (e : List Ex) (x : Ex) : sumT g (nodeOf (growL e) x) = g (labE e x) + (x.kids.map fun k => sumT g ((growL e).getD k.toNat default)).sum := by
  simp only [nodeOf, sumT, sumTs_eq, labE, List.map_map]; rfl
theorem sum_pre (g : Lab → Int) (e : List Ex) (h : kidsIn e) : wsum (fun i => 1 - (cnt e i : Int)) 0 ((growL e).map (sumT g)) = ((labs e).map g).sum := by
  revert h
  refine snoc_ind (P := fun e => kidsIn e → wsum (fun i => 1 - (cnt e i : Int)) 0 ((growL e).map (sumT g)) = ((labs e).map g).sum) (fun _ => rfl) (fun e x ih h => ?_) e
  obtain ⟨h1, h2⟩ := kidsIn_snoc.1 h
  have ih := ih h1
  have hlen : ((growL e).map (sumT g)).length = e.length := by simp [growL_len]
  have hz : cnt (e ++ [x]) e.length = 0 := by
    have : ∀ (l : List Ex) (n : Nat), (∀ y ∈ l, ∀ k ∈ y.kids, k < (n : Int)) → cnt l n = 0 := by
      intro l
      induction l with
      | nil => intro n _; rfl
      | cons y l ih2 =>
        intro n hl
        simp only [cnt]
        rw [ih2 n (fun z hz => hl z (by simp [hz])), Nat.add_zero, List.count_eq_zero]
        intro hm
        have := hl y (by simp) _ hm
        omega
    refine this _ _ fun y hy k hk => ?_
    obtain ⟨j, hj⟩ := List.mem_iff_getElem?.1 hy
    have := h j y hj k hk
    have hl := (List.getElem?_eq_some_iff.1 hj).1
    simp at hl
    omega
  rw [growL_snoc, List.map_append, wsum_app, hlen, labs_snoc h, List.map_append, List.sum_append, ← ih]
  simp only [List.map_cons, List.map_nil, wsum, Nat.zero_add, hz, List.sum_cons, List.sum_nil, sumT_nodeOf]
  have e1 : wsum (fun i => 1 - (cnt (e ++ [x]) i : Int)) 0 ((growL e).map (sumT g)) = wsum (fun i => (1 - (cnt e i : Int)) - ((x.kids.count (i : Int) : Nat) : Int)) 0 ((growL e).map (sumT g)) := by
    refine wsum_congr _ 0 fun i _ _ => ?_
    rw [cnt_app]; simp [cnt]; omega
  rw [e1, wsum_sub, wsum_count _ _ (fun k hk => by rw [hlen]; exact h2 k hk)]
  have e2 : (x.kids.map fun k => ((growL e).map (sumT g)).getD k.toNat 0) = x.kids.map fun k => sumT g ((growL e).getD k.toNat default) := by
    refine List.map_congr_left fun k hk => ?_
    have := h2 k hk
    have hl : k.toNat < (growL e).length := by rw [growL_len]; omega
    simp [List.getD, List.getElem?_eq_getElem hl]
  rw [e2]
  omega
theorem cnt_last {e : List Ex} (h : kidsIn e) {n : Nat} (hn : e.length ≤ n + 1) : cnt e n = 0 := by
  have : ∀ (l : List Ex), (∀ y ∈ l, ∀ k ∈ y.kids, k < (n : Int)) → cnt l n = 0 := by
    intro l
    induction l with
    | nil => intro _; rfl
    | cons y l ih2 =>
      intro hl
      simp only [cnt]
      rw [ih2 (fun z hz => hl z (by simp [hz])), Nat.add_zero, List.count_eq_zero]
      intro hm
      have := hl y (by simp) _ hm
      omega
  refine this _ fun y hy k hk => ?_
  obtain ⟨j, hj⟩ := List.mem_iff_getElem?.1 hy
  have := h j y hj k hk
  have hl := (List.getElem?_eq_some_iff.1 hj).1
  omega
/-- A SUM OVER THE NODES IS ONE OVER THE TREE. -/
theorem sum_tree (g : Lab → Int) {e : List Ex} (h : IsTree e) : ((labs e).map g).sum = sumT g (grow e) := by
  rw [← sum_pre g e h.k]
  obtain ⟨pre, x, rfl⟩ : ∃ pre x, e = pre ++ [x] := ⟨e.dropLast, e.getLast h.ne, (List.dropLast_concat_getLast h.ne).symm⟩
  rw [growL_snoc, List.map_append, wsum_app]
  rw [wsum_zero _ 0 (fun i _ hi => ?_), grow_snoc]
  · simp only [List.map_cons, List.map_nil, wsum, List.length_map, growL_len, Nat.zero_add]
    rw [cnt_last h.k (by simp)]; omega
  · have hi : i < pre.length := by simpa [growL_len] using hi
    have := (h.c i (by simp; omega)).2 (by simp; omega)
    rw [this]; rfl
end Go.CoreX
/- Core expressions as plain data: the list of a tree. No condition. -/
namespace Go.CoreX
set_option linter.unusedVariables false
set_option linter.unusedSimpArgs false
structure OkT (out : List Ex) (t : Tr) : Prop where
  lt : out.length < (listT out t).length
  k : kidsIn (listT out t)
  g : ∃ r, growL (listT out t) = growL out ++ r ++ [t]
  c : ∀ i, cnt (listT out t) i = cnt out i + if out.length ≤ i ∧ i + 1 < (listT out t).length then 1 else 0
structure OkTs (out : List Ex) (ts : List Tr) : Prop where
  le : out.length ≤ (listTs out ts).1.length
  k : kidsIn (listTs out ts).1
  g : ∃ r, growL (listTs out ts).1 = growL out ++ r
  ix : ∀ k ∈ (listTs out ts).2, (out.length : Int) ≤ k ∧ k < (listTs out ts).1.length
  m : (listTs out ts).2.map (fun k => (growL (listTs out ts).1).getD k.toNat default) = ts
  c : ∀ i, cnt (listTs out ts).1 i + (listTs out ts).2.count (i : Int) = cnt out i + if out.length ≤ i ∧ i < (listTs out ts).1.length then 1 else 0
mutual
theorem listT_ok : ∀ (t : Tr) (out : List Ex), kidsIn out → OkT out t
  | .mk o n b ks a, out, h => by
    have H := listTs_ok ks out h
    have e : listT out (.mk o n b ks a) = (listTs out ks).1 ++ [⟨o, n, b, (listTs out ks).2, a⟩] := by simp only [listT]
    refine ⟨?_, ?_, ?_, fun i => ?_⟩
    · rw [e]; have := H.le; simp; omega
    · rw [e, kidsIn_snoc]
      refine ⟨H.k, fun k hk => ?_⟩
      have := H.ix k hk
      exact ⟨by omega, this.2⟩
    · obtain ⟨r, hr⟩ := H.g
      refine ⟨r, ?_⟩
      rw [e, growL_snoc]
      have : nodeOf (growL (listTs out ks).1) ⟨o, n, b, (listTs out ks).2, a⟩ = .mk o n b ks a := by
        simp only [nodeOf, Tr.mk.injEq, true_and, and_true]; exact H.m
      rw [this, hr]
    · rw [e, cnt_app]
      have := H.c i
      simp only [cnt, Nat.add_zero, List.length_append, List.length_singleton]
      rw [this]
      congr 1
      by_cases h1 : out.length ≤ i ∧ i < (listTs out ks).1.length
      · rw [if_pos h1, if_pos (by omega)]
      · rw [if_neg h1, if_neg (by omega)]
theorem listTs_ok : ∀ (ts : List Tr) (out : List Ex), kidsIn out → OkTs out ts
  | [], out, h => ⟨by simp [listTs], by simpa [listTs] using h, ⟨[], by simp [listTs]⟩, by simp [listTs], by simp [listTs], fun i => by
      have e1 : (listTs out []).1 = out := by simp only [listTs]
      have e2 : (listTs out []).2 = [] := by simp only [listTs]
      rw [e1, e2, if_neg (by omega)]; rfl⟩
  | t :: ts, out, h => by
    have H1 := listT_ok t out h
    have H2 := listTs_ok ts (listT out t) H1.k
    have e1 : (listTs out (t :: ts)).1 = (listTs (listT out t) ts).1 := by simp only [listTs]
    have e2 : (listTs out (t :: ts)).2 = (((listT out t).length : Int) - 1) :: (listTs (listT out t) ts).2 := by simp only [listTs]
    have l1 := H1.lt
    have l2 := H2.le
    obtain ⟨r1, g1⟩ := H1.g
    obtain ⟨r2, g2⟩ := H2.g
    refine ⟨by rw [e1]; omega, by rw [e1]; exact H2.k, ⟨r1 ++ [t] ++ r2, ?_⟩, ?_, ?_, fun i => ?_⟩
    · rw [e1, g2, g1]; simp
    · intro k hk
      rw [e2] at hk
      rw [e1]
      rcases List.mem_cons.1 hk with rfl | hk
      · omega
      · have := H2.ix k hk; omega
    · rw [e1, e2, List.map_cons, H2.m]
      congr 1
      have hl : (growL (listT out t)).length = (listT out t).length := growL_len _
      have hl2 : (growL out ++ r1).length + 1 = (listT out t).length := by rw [← hl, g1]; simp; omega
      rw [g2, getD_app (by rw [hl]; omega), g1]
      have : ((((listT out t).length : Int) - 1)).toNat = (growL out ++ r1).length := by omega
      rw [this]
      simp [List.getD]
    · rw [e1, e2, List.count_cons]
      have c2 := H2.c i
      have c1 := H1.c i
      have hh : (((((listT out t).length : Int) - 1) == (i : Int)) = true) ↔ i + 1 = (listT out t).length := by
        rw [beq_iff_eq]; omega
      by_cases h1 : i + 1 = (listT out t).length
      · rw [if_pos (hh.2 h1)]
        rw [if_neg (by omega)] at c2
        rw [if_neg (by omega)] at c1
        rw [if_pos (by omega)]
        omega
      · rw [if_neg (fun h => h1 (hh.1 h))]
        by_cases h2 : out.length ≤ i ∧ i + 1 < (listT out t).length
        · rw [if_pos h2] at c1
          rw [if_neg (by omega)] at c2
          rw [if_pos (by omega)]
          omega
        · rw [if_neg h2] at c1
          by_cases h3 : (listT out t).length ≤ i ∧ i < (listTs (listT out t) ts).1.length
          · rw [if_pos h3] at c2
            rw [if_pos (by omega)]
            omega
          · rw [if_neg h3] at c2
            rw [if_neg (by omega)]
            omega
end
theorem kidsIn_nil : kidsIn [] := fun j x hj => by simp at hj
theorem grow_list (t : Tr) : grow (listT [] t) = t := by
  have H := listT_ok t [] kidsIn_nil
  obtain ⟨r, hr⟩ := H.g
  have hl : (growL (listT [] t)).length = (listT [] t).length := growL_len _
  unfold grow
  rw [hr] at hl ⊢
  have : (listT [] t).length - 1 = (growL [] ++ r).length := by simp at hl ⊢; omega
  rw [this]
  simp [List.getD]
theorem isTree_list (t : Tr) : IsTree (listT [] t) := by
  have H := listT_ok t [] kidsIn_nil
  refine ⟨fun h => ?_, H.k, fun i hi => ?_⟩
  · have := H.lt; rw [h] at this; simp at this
  · rw [H.c i]
    simp only [cnt, List.length_nil, Nat.zero_le, true_and, Nat.zero_add]
    split <;> omega
/-- Two lists of one tree hold the same nodes. -/
theorem sum_count (ls : List Lab) (l0 : Lab) : (ls.map fun l => if l = l0 then (1 : Int) else 0).sum = ls.count l0 := by
  induction ls with
  | nil => rfl
  | cons l ls ih =>
    simp only [List.map_cons, List.sum_cons, ih, List.count_cons]
    by_cases e : l = l0
    · simp [e]; omega
    · simp [e]
theorem labs_perm {e f : List Ex} (he : IsTree e) (hf : IsTree f) (h : grow e = grow f) : (labs e).Perm (labs f) := by
  rw [List.perm_iff_count]
  intro l0
  have h1 := sum_tree (fun l => if l = l0 then (1 : Int) else 0) he
  have h2 := sum_tree (fun l => if l = l0 then (1 : Int) else 0) hf
  rw [sum_count] at h1 h2
  rw [h] at h1
  omega
theorem len_labs (e : List Ex) : (labs e).length = e.length := by simp [labs]
theorem firstErr_zero {α : Type} (f : α → Int) : ∀ l : List α, firstErr f l = 0 ↔ ∀ x ∈ l, f x = 0
  | [] => by simp [firstErr]
  | a :: l => by
    simp only [firstErr, List.mem_cons, forall_eq_or_imp]
    by_cases h : f a = 0
    · simp [h, firstErr_zero f l]
    · simp [h]
theorem hasDup_false : ∀ l : List Int, hasDup l = false ↔ l.Nodup
  | [] => by simp [hasDup]
  | n :: l => by simp [hasDup, List.nodup_cons, hasDup_false l]
theorem kids_lt {e : List Ex} (h : kidsIn e) {x : Ex} (hx : x ∈ e) : ∀ k ∈ x.kids, 0 ≤ k ∧ k < (e.length : Int) := by
  intro k hk
  obtain ⟨j, hj⟩ := List.mem_iff_getElem?.1 hx
  have := h j x hj k hk
  have hl := (List.getElem?_eq_some_iff.1 hj).1
  omega
theorem body_isTree {e : List Ex} {params : List Int} {flat : Bool} (hb : body e params flat = 0) : IsTree e := by
  unfold body at hb
  by_cases h1 : treeErr e = 0
  · exact ((treeErr_iff e).1 h1).2.1
  · rw [if_pos h1] at hb; exact absurd hb h1
theorem len_list {e : List Ex} (h : check e = 0) : (listT [] (grow e)).length = e.length := by
  have hp := labs_perm (body_isTree h) (isTree_list (grow e)) (grow_list _).symm
  rw [← len_labs e, ← len_labs]; exact hp.length_eq.symm
end Go.CoreX
/- Core expressions as plain data: equal up to renaming. No condition. -/
namespace Go.CoreX
set_option linter.unusedVariables false
set_option linter.unusedSimpArgs false
abbrev Nm := Int → Option Int
def setN (m : Nm) (k v : Int) : Nm := fun j => if k = j then some v else m j
def putsN (m : Nm) : List Int → List Int → Nm
  | x :: xs, y :: ys => putsN (setN m x y) xs ys
  | _, _ => m
def altsLike : List Alt → List Alt → Bool
  | a :: l, b :: r => (a.tag == b.tag && a.binds.length == b.binds.length) && altsLike l r
  | _, _ => true
def unlike (o : Int) (nk nb na : Nat) (t : Tr) : Bool := !(o == t.op && nk == t.kids.length && nb == t.binds.length && na == t.alts.length)
def sameVar (m : Nm) (n n' : Int) : Bool := match m n with | some v => v == n' | none => n == n'
mutual
def sameT : Tr → Tr → Nm → Bool × Nm
  | .mk o n b k a, t, m =>
    if unlike o k.length b.length a.length t = true then (false, m) else
    if o = 0 then (sameVar m n t.n, m) else
    if (!(n == t.n)) || (o == 9 && !(b == t.binds)) then (false, m) else
    if altsLike a t.alts = false then (false, m) else
    sameTs k t.kids (putsN m (bindersN o b a) (bindersN t.op t.binds t.alts))
def sameTs : List Tr → List Tr → Nm → Bool × Nm
  | [], _, m => (true, m)
  | a :: l, r, m => match r with
    | [] => (true, m)
    | b :: r => if (sameT a b m).1 = true then sameTs l r (sameT a b m).2 else (false, (sameT a b m).2)
end
def idN (m : Nm) : Prop := ∀ n v, m n = some v → v = n
def sameTree (a b : Tr) : Bool := (sameT a b fun _ => none).1
/-- Same, and what Order hands back. -/
def same (a b : List Ex) : Bool := (check a == 0 && check b == 0) && sameTree (grow a) (grow b)
def order (e : List Ex) : List Ex × Int := if check e ≠ 0 then ([], check e) else (listT [] (grow e), 0)
def coreOrdered (e : List Ex) : Bool :=
  if (order e).2 ≠ 0 then (order e).1.length == 0 else
  (((order (order e).1).2 == 0 && (order e).1 == (order (order e).1).1) && same e (order e).1) && (order e).1.length == e.length
end Go.CoreX
/- Core expressions as abstract values. No condition. -/
namespace Go.Proofs.YtnonkoeknpmcjaaDoor
open Go Go.Abs Go.CoreX
set_option linter.unusedSimpArgs false
abbrev int (n : Int) : AC := .lit (.int .i64 n)
def cI (n : Int) : List AC := [int n]
def cAlt (a : Alt) : List AC := [int a.tag, .sl 1 (a.binds.map cI)]
def cEx (x : Ex) : List AC := [int x.op, int x.n, .sl 1 (x.binds.map cI), .sl 1 (x.kids.map cI), .sl 2 (x.alts.map cAlt)]
mutual
def encTr : Tr → List AC
  | .mk o n b k a => [int o, int n, .sl 1 (b.map cI), .sl 1 (encTrs k), .sl 2 (a.map cAlt)]
def encTrs : List Tr → List (List AC)
  | [] => []
  | t :: ts => [.box (encTr t)] :: encTrs ts
end
def cTr (t : Tr) : List AC := [int t.op, int t.n, .sl 1 (t.binds.map cI), .sl 1 (encTrs t.kids), .sl 2 (t.alts.map cAlt)]
def cB (t : Tr) : List AC := [.box (cTr t)]
theorem encTr_eq (t : Tr) : encTr t = cTr t := by cases t; simp [encTr, cTr]
theorem encTrs_eq : ∀ l : List Tr, encTrs l = l.map cB
  | [] => rfl
  | t :: ts => by simp [encTrs, encTrs_eq ts, encTr_eq, cB]
theorem encTrs_get {l : List Tr} {i : Nat} {t : Tr} (h : l[i]? = some t) : (encTrs l)[i]? = some (cB t) := by rw [encTrs_eq]; simp [h]
attribute [simp] idsL idsS AC.ids FV.ids idsF Fr.ids inL isO AObj.ids
theorem idsS_map {α : Type} {p : Abs.Id → Prop} {f : α → List AC} (h : ∀ x, idsL p (f x)) : ∀ l : List α, idsS p (l.map f)
  | [] => by simp
  | x :: l => by simp [h x, idsS_map h l]
@[simp] theorem ids_cI (p : Abs.Id → Prop) (n : Int) : idsL p (cI n) := by simp [cI]
@[simp] theorem ids_cIs (p : Abs.Id → Prop) (l : List Int) : idsS p (l.map cI) := idsS_map (ids_cI p) l
@[simp] theorem ids_cAlt (p : Abs.Id → Prop) (a : Alt) : idsL p (cAlt a) := by simp [cAlt]
@[simp] theorem ids_cAlts (p : Abs.Id → Prop) (l : List Alt) : idsS p (l.map cAlt) := idsS_map (ids_cAlt p) l
@[simp] theorem ids_cEx (p : Abs.Id → Prop) (x : Ex) : idsL p (cEx x) := by simp [cEx]
@[simp] theorem ids_cExs (p : Abs.Id → Prop) (l : List Ex) : idsS p (l.map cEx) := idsS_map (ids_cEx p) l
mutual
theorem ids_encTr (p : Abs.Id → Prop) : ∀ t : Tr, idsL p (encTr t)
  | .mk o n b k a => by simp [encTr, ids_encTrs p k]
theorem ids_encTrs (p : Abs.Id → Prop) : ∀ l : List Tr, idsS p (encTrs l)
  | [] => by simp [encTrs]
  | t :: ts => by simp [encTrs, ids_encTr p t, ids_encTrs p ts]
end
attribute [simp] ids_encTrs
@[simp] theorem ids_cTr (p : Abs.Id → Prop) (t : Tr) : idsL p (cTr t) := by simp [cTr]
@[simp] theorem ids_cB (p : Abs.Id → Prop) (t : Tr) : idsL p (cB t) := by simp [cB]
@[simp] theorem ids_cBs (p : Abs.Id → Prop) (l : List Tr) : idsS p (l.map cB) := idsS_map (ids_cB p) l
@[simp] theorem len_encTrs (l : List Tr) : (encTrs l).length = l.length := by rw [encTrs_eq]; simp
@[simp] theorem ren_cIs (ρ : Nat → Nat) (l : List Int) : renS ρ (l.map cI) = l.map cI := renS_pure ρ _ (ids_cIs _ l)
@[simp] theorem ren_cAlts (ρ : Nat → Nat) (l : List Alt) : renS ρ (l.map cAlt) = l.map cAlt := renS_pure ρ _ (ids_cAlts _ l)
@[simp] theorem ren_cBs (ρ : Nat → Nat) (l : List Tr) : renS ρ (l.map cB) = l.map cB := renS_pure ρ _ (ids_cBs _ l)
@[simp] theorem ren_cEx (ρ : Nat → Nat) (x : Ex) : renL ρ (cEx x) = cEx x := renL_pure ρ _ (ids_cEx _ x)
theorem map_get {α : Type} {f : α → List AC} {l : List α} {i : Nat} {a : α} (h : l[i]? = some a) : (l.map f)[i]? = some (f a) := by simp [h]
theorem get_of_lt {α : Type} {l : List α} {i : Nat} (h : i < l.length) : ∃ a, l[i]? = some a := ⟨l[i], List.getElem?_eq_getElem h⟩
/-- The table of the primitives' arities. -/
def arC : List AC := (arityL.map fun n => Value.int .i64 n).map .lit
def Γc : List (Nat × List AC) := [(0, arC)]
theorem hΓc : ∀ g cs, (g, cs) ∈ Γc → idsL isO cs := fun g cs h => by
  simp only [Γc, List.mem_singleton, Prod.mk.injEq] at h
  obtain ⟨rfl, rfl⟩ := h
  simp [arC, arityL]
theorem follows : Tryd.prog.follows .mixedOrders = true := by kernel_rfl
/-- The lists of an expression are no longer than so. -/
structure okX (x : Ex) : Prop where
  b : x.binds.length ≤ 1048576
  k : x.kids.length ≤ 1048576
  a : x.alts.length ≤ 1048576
  ab : ∀ a ∈ x.alts, a.binds.length ≤ 1048576
structure okE (e : List Ex) : Prop where
  l : e.length ≤ 1048576
  x : ∀ x ∈ e, okX x
end Go.Proofs.YtnonkoeknpmcjaaDoor
/- Small functions of the package core, walked. -/
namespace Go.Proofs.YtnonkoeknpmcjaaDoor
open Go Go.Abs Go.CoreX
set_option maxRecDepth 10000
set_option linter.unusedVariables false
set_option linter.unusedSimpArgs false
variable {Γ : List (Nat × List AC)}
def idxOf {α : Type} (p : α → Bool) : List α → Int
  | [] => -1
  | a :: l => if p a = true then 0 else if idxOf p l < 0 then -1 else idxOf p l + 1
theorem idxOf_ge {α : Type} {p : α → Bool} : ∀ l : List α, -1 ≤ idxOf p l
  | [] => by simp [idxOf]
  | a :: l => by
    have := idxOf_ge (p := p) l
    simp only [idxOf]; split
    · omega
    · split <;> omega
theorem idxOf_none {α : Type} {p : α → Bool} : ∀ {l : List α}, (∀ x ∈ l, p x = false) → idxOf p l = -1
  | [], _ => rfl
  | a :: l, h => by simp only [idxOf, h a (by simp), idxOf_none (l := l) (fun x hx => h x (by simp [hx]))]; simp
theorem idxOf_at {α : Type} {p : α → Bool} : ∀ {l : List α} {j : Nat} {a : α}, (∀ x ∈ l.take j, p x = false) → l[j]? = some a → p a = true → idxOf p l = j
  | [], j, a, _, h, _ => by simp at h
  | x :: l, 0, a, _, h, hp => by simp at h; subst h; simp [idxOf, hp]
  | x :: l, j + 1, a, h0, h, hp => by
    have := idxOf_at (l := l) (j := j) (fun y hy => h0 y (by simp [hy])) (by simpa using h) hp
    simp only [idxOf, h0 x (by simp), this]
    rw [if_neg (by simp), if_neg (by omega)]; simp
theorem idxOf_iff {α : Type} {p : α → Bool} : ∀ l : List α, 0 ≤ idxOf p l ↔ l.any p = true
  | [] => by simp [idxOf]
  | a :: l => by
    have ih := idxOf_iff (p := p) l
    have hge := idxOf_ge (p := p) l
    simp only [idxOf, List.any_cons, Bool.or_eq_true, ← ih]
    by_cases hp : p a = true
    · simp [hp]
    · rw [if_neg hp]
      by_cases h : idxOf p l < 0
      · rw [if_pos h]
        exact ⟨fun h2 => by omega, fun h2 => h2.elim (fun h3 => absurd h3 hp) (fun h3 => by omega)⟩
      · rw [if_neg h]
        exact ⟨fun h2 => .inr (by omega), fun h2 => by omega⟩
theorem idxOf_any {α : Type} {p : α → Bool} (l : List α) : decide (idxOf p l ≥ 0) = l.any p := by
  rw [Bool.eq_iff_iff, decide_eq_true_iff]
  exact idxOf_iff l

theorem take_all {α : Type} {p : α → Prop} {l : List α} {j : Nat} {a : α} (h : ∀ x ∈ l.take j, p x) (ha : l[j]? = some a) (hp : p a) : ∀ x ∈ l.take (j + 1), p x := by
  intro x hx
  rw [List.take_add_one, ha] at hx
  rcases List.mem_append.1 hx with hx | hx
  · exact h x hx
  · simp at hx; subst hx; exact hp
theorem idsF_ones {caps : List AC} (h : idsL isO caps) : idsF isO (caps.map .one) := by
  induction caps with
  | nil => trivial
  | cons c l ih => exact ⟨h.1, ih h.2⟩
theorem between_ok (n low high : Int) : APure Tryd.prog Γ 106 [.one (int n), .one (int low), .one (int high)] (.one (.lit (.bool (between n low high)))) := by
  intro ou
  refine AFn.walk 15 tabOk Tryd.func106 rfl (by kernel_rfl) rfl rfl fun hou => ?_
  repeat' first | (with_reducible refine oj ?_; refine AOps.auto tabOk rfl ?_) | (with_reducible first | refine o1 ?_ | refine o2 ?_ | refine o3 ?_ | refine o4 ?_ | refine o5 ?_ | refine o6 ?_ | refine o7 ?_ | refine o8 ?_ | refine o9 ?_ | refine oa ?_ | refine ob ?_ | refine oc ?_ | refine od ?_ | refine oe ?_ | refine og ?_ | refine oh ?_ | refine oi ?_) | (with_reducible refine cExitMiss ?_ ?_; rfl) | (with_reducible refine ok ?_; first | refine ACode.condT rfl ?_ | refine ACode.condF rfl ?_) | (with_reducible refine oj ?_; refine AOps.splitS rfl rfl rfl rfl (fun hb => ?_) (fun hb => ?_)) | (with_reducible refine ok ?_; refine ACode.cond rfl (fun hb => ?_) (fun hb => ?_))
  all_goals exact APure.fin rfl (WkF.ofEq (by simp [between]; first | (simp_all; done) | (simp_all; omega))) (by simp) hou rfl
theorem flatOnly_ok (n : Int) : APure Tryd.prog Γ 62 [.one (int n)] (.one (.lit (.bool (flatOnly n)))) := by
  intro ou
  refine AFn.walk 13 tabOk Tryd.func62 rfl (by kernel_rfl) rfl rfl fun hou => ?_
  repeat' first | (with_reducible refine oj ?_; refine AOps.auto tabOk rfl ?_) | (with_reducible first | refine o1 ?_ | refine o2 ?_ | refine o3 ?_ | refine o4 ?_ | refine o5 ?_ | refine o6 ?_ | refine o7 ?_ | refine o8 ?_ | refine o9 ?_ | refine oa ?_ | refine ob ?_ | refine oc ?_ | refine od ?_ | refine oe ?_ | refine og ?_ | refine oh ?_ | refine oi ?_) | (with_reducible refine cExitMiss ?_ ?_; rfl) | (with_reducible refine ok ?_; first | refine ACode.condT rfl ?_ | refine ACode.condF rfl ?_) | (with_reducible refine oj ?_; refine AOps.splitS rfl rfl rfl rfl (fun hb => ?_) (fun hb => ?_)) | (with_reducible refine ok ?_; refine ACode.cond rfl (fun hb => ?_) (fun hb => ?_))
  all_goals exact APure.fin rfl (WkF.ofEq (by simp [flatOnly]; simp_all)) (by simp) hou rfl
theorem coreOnly_ok (n : Int) : APure Tryd.prog Γ 61 [.one (int n)] (.one (.lit (.bool (coreOnly n)))) := by
  intro ou
  refine AFn.walk 17 tabOk Tryd.func61 rfl (by kernel_rfl) rfl rfl fun hou => ?_
  repeat' first | (with_reducible refine oj ?_; refine AOps.auto tabOk rfl ?_) | (with_reducible first | refine o1 ?_ | refine o2 ?_ | refine o3 ?_ | refine o4 ?_ | refine o5 ?_ | refine o6 ?_ | refine o7 ?_ | refine o8 ?_ | refine o9 ?_ | refine oa ?_ | refine ob ?_ | refine oc ?_ | refine od ?_ | refine oe ?_ | refine og ?_ | refine oh ?_ | refine oi ?_) | (with_reducible refine cExitMiss ?_ ?_; rfl) | (with_reducible refine ok ?_; first | refine ACode.condT rfl ?_ | refine ACode.condF rfl ?_) | (with_reducible refine oj ?_; refine AOps.splitS rfl rfl rfl rfl (fun hb => ?_) (fun hb => ?_)) | (with_reducible refine ok ?_; refine ACode.cond rfl (fun hb => ?_) (fun hb => ?_))
  all_goals exact APure.fin rfl (WkF.ofEq (by simp [coreOnly]; simp_all)) (by simp) hou rfl
theorem Index_ok (hΓ : ∀ g cs, (g, cs) ∈ Γ → idsL isO cs) (xs : List Int) (hx : xs.length ≤ 1048576) (n : Int) :
    APure Tryd.prog Γ 90 [.one (.sl 1 (xs.map cI)), .one (int n)] (.one (int (idxOf (n == ·) xs))) := by
  intro ou
  refine AFn.walk 19 tabOk Tryd.func90 rfl (by kernel_rfl) rfl rfl fun hou => ?_
  repeat first | (with_reducible refine oj ?_; refine AOps.auto tabOk rfl ?_) | (with_reducible first | refine o1 ?_ | refine o2 ?_ | refine o3 ?_ | refine o4 ?_ | refine o5 ?_ | refine o6 ?_ | refine o7 ?_ | refine o8 ?_ | refine o9 ?_ | refine oa ?_ | refine ob ?_ | refine oc ?_ | refine od ?_ | refine oe ?_ | refine og ?_ | refine oh ?_ | refine oi ?_) | (with_reducible refine cExitMiss ?_ ?_; rfl) | (with_reducible refine ok ?_; first | refine ACode.condT rfl ?_ | refine ACode.condF rfl ?_)
  refine ACode.loopR hΓ (α := Nat) (fun j => [(8, .one (int j)), (7, .one (int (xs.map cI).length)), (1, .one (int n)), (0, .one (.sl 1 (xs.map cI)))])
    (fun j => ⟨0, [], ou⟩) (fun m j => j ≤ xs.length ∧ (∀ x ∈ xs.take j, (n == x) = false) ∧ m = xs.length - j) (a0 := 0) (ρ := id) ⟨by omega, by simp, rfl⟩ (LessR.of rfl (by (repeat' first | exact FrSub.nil | refine FrSub.cons rfl (.ofEq rfl) ?_ | refine FrSub.consP rfl (.ofEq rfl) (by simp) ?_)) (by simp) (by repeat' first | exact LoSub.nil | refine LoSub.cons rfl ?_ rfl (by simp) ?_ | rfl | (refine (AObj.ren_pure _ _ ?_).symm; simp; done) | (simp [AObj.ren, renL, AC.ren]; done) | (simp [AObj.ren, renL, AC.ren]; rfl)) rfl rfl hou) fun m j hj => ?_
  obtain ⟨hjl, hno, rfl⟩ := hj
  repeat first | (with_reducible refine oj ?_; refine AOps.auto tabOk rfl ?_) | (with_reducible first | refine o1 ?_ | refine o2 ?_ | refine o3 ?_ | refine o4 ?_ | refine o5 ?_ | refine o6 ?_ | refine o7 ?_ | refine o8 ?_ | refine o9 ?_ | refine oa ?_ | refine ob ?_ | refine oc ?_ | refine od ?_ | refine oe ?_ | refine og ?_ | refine oh ?_ | refine oi ?_) | (with_reducible refine cExitMiss ?_ ?_; rfl) | (with_reducible refine ok ?_; first | refine ACode.condT rfl ?_ | refine ACode.condF rfl ?_)
  refine ACode.cond rfl (fun hb2 => ?_) (fun hb2 => ?_)
  · have hlt : j < xs.length := by simpa using hb2
    obtain ⟨a, ha⟩ := get_of_lt hlt
    repeat first | (with_reducible refine oj ?_; refine AOps.auto tabOk rfl ?_) | (with_reducible first | refine o1 ?_ | refine o2 ?_ | refine o3 ?_ | refine o4 ?_ | refine o5 ?_ | refine o6 ?_ | refine o7 ?_ | refine o8 ?_ | refine o9 ?_ | refine oa ?_ | refine ob ?_ | refine oc ?_ | refine od ?_ | refine oe ?_ | refine og ?_ | refine oh ?_ | refine oi ?_) | (with_reducible refine cExitMiss ?_ ?_; rfl) | (with_reducible refine ok ?_; first | refine ACode.condT rfl ?_ | refine ACode.condF rfl ?_)
    refine AOps.step1 rfl rfl rfl (AStep.indexAddr tabOk rfl rfl rfl rfl rfl rfl (.inl rfl) rfl (by omega) (by simpa using map_get ha)) ?_
    repeat first | (with_reducible refine oj ?_; refine AOps.auto tabOk rfl ?_) | (with_reducible first | refine o1 ?_ | refine o2 ?_ | refine o3 ?_ | refine o4 ?_ | refine o5 ?_ | refine o6 ?_ | refine o7 ?_ | refine o8 ?_ | refine o9 ?_ | refine oa ?_ | refine ob ?_ | refine oc ?_ | refine od ?_ | refine oe ?_ | refine og ?_ | refine oh ?_ | refine oi ?_) | (with_reducible refine cExitMiss ?_ ?_; rfl) | (with_reducible refine ok ?_; first | refine ACode.condT rfl ?_ | refine ACode.condF rfl ?_)
    refine ACode.cond rfl (fun hb3 => ?_) (fun hb3 => ?_)
    · repeat first | (with_reducible refine oj ?_; refine AOps.auto tabOk rfl ?_) | (with_reducible first | refine o1 ?_ | refine o2 ?_ | refine o3 ?_ | refine o4 ?_ | refine o5 ?_ | refine o6 ?_ | refine o7 ?_ | refine o8 ?_ | refine o9 ?_ | refine oa ?_ | refine ob ?_ | refine oc ?_ | refine od ?_ | refine oe ?_ | refine og ?_ | refine oh ?_ | refine oi ?_) | (with_reducible refine cExitMiss ?_ ?_; rfl) | (with_reducible refine ok ?_; first | refine ACode.condT rfl ?_ | refine ACode.condF rfl ?_)
      refine APure.fin rfl (WkF.ofEq ?_) (by simp) hou rfl
      rw [idxOf_at hno ha hb3]
    · repeat first | (with_reducible refine oj ?_; refine AOps.auto tabOk rfl ?_) | (with_reducible first | refine o1 ?_ | refine o2 ?_ | refine o3 ?_ | refine o4 ?_ | refine o5 ?_ | refine o6 ?_ | refine o7 ?_ | refine o8 ?_ | refine o9 ?_ | refine oa ?_ | refine ob ?_ | refine oc ?_ | refine od ?_ | refine oe ?_ | refine og ?_ | refine oh ?_ | refine oi ?_) | (with_reducible refine cExitMiss ?_ ?_; rfl) | (with_reducible refine ok ?_; first | refine ACode.condT rfl ?_ | refine ACode.condF rfl ?_)
      refine AOps.step1 rfl rfl rfl (AStep.arith rfl rfl rfl (.inl ⟨rfl, rfl⟩) (inRange_i64 (by omega) (by omega))) ?_
      repeat first | (with_reducible refine oj ?_; refine AOps.auto tabOk rfl ?_) | (with_reducible first | refine o1 ?_ | refine o2 ?_ | refine o3 ?_ | refine o4 ?_ | refine o5 ?_ | refine o6 ?_ | refine o7 ?_ | refine o8 ?_ | refine o9 ?_ | refine oa ?_ | refine ob ?_ | refine oc ?_ | refine od ?_ | refine oe ?_ | refine og ?_ | refine oh ?_ | refine oi ?_) | (with_reducible refine cExitMiss ?_ ?_; rfl) | (with_reducible refine ok ?_; first | refine ACode.condT rfl ?_ | refine ACode.condF rfl ?_)
      exact cInv ⟨xs.length - (j + 1), j + 1, id, by omega, ⟨by omega, take_all hno ha hb3, rfl⟩, LessR.of rfl (by (repeat' first | exact FrSub.nil | refine FrSub.cons rfl (.ofEq rfl) ?_ | refine FrSub.consP rfl (.ofEq rfl) (by simp) ?_)) (by simp) (by repeat' first | exact LoSub.nil | refine LoSub.cons rfl ?_ rfl (by simp) ?_ | rfl | (refine (AObj.ren_pure _ _ ?_).symm; simp; done) | (simp [AObj.ren, renL, AC.ren]; done) | (simp [AObj.ren, renL, AC.ren]; rfl)) rfl rfl hou⟩
  · have hlt : j = xs.length := by simp at hb2; omega
    subst hlt
    rw [List.take_length] at hno
    repeat first | (with_reducible refine oj ?_; refine AOps.auto tabOk rfl ?_) | (with_reducible first | refine o1 ?_ | refine o2 ?_ | refine o3 ?_ | refine o4 ?_ | refine o5 ?_ | refine o6 ?_ | refine o7 ?_ | refine o8 ?_ | refine o9 ?_ | refine oa ?_ | refine ob ?_ | refine oc ?_ | refine od ?_ | refine oe ?_ | refine og ?_ | refine oh ?_ | refine oi ?_) | (with_reducible refine cExitMiss ?_ ?_; rfl) | (with_reducible refine ok ?_; first | refine ACode.condT rfl ?_ | refine ACode.condF rfl ?_)
    refine APure.fin rfl (WkF.ofEq ?_) (by simp) hou rfl
    rw [idxOf_none hno]
theorem Contains_ok (hΓ : ∀ g cs, (g, cs) ∈ Γ → idsL isO cs) (xs : List Int) (hx : xs.length ≤ 1048576) (n : Int) :
    APure Tryd.prog Γ 66 [.one (.sl 1 (xs.map cI)), .one (int n)] (.one (.lit (.bool (xs.contains n)))) := by
  intro ou
  refine AFn.walk 9 tabOk Tryd.func66 rfl (by kernel_rfl) rfl rfl fun hou => ?_
  repeat first | (with_reducible refine oj ?_; refine AOps.auto tabOk rfl ?_) | (with_reducible first | refine o1 ?_ | refine o2 ?_ | refine o3 ?_ | refine o4 ?_ | refine o5 ?_ | refine o6 ?_ | refine o7 ?_ | refine o8 ?_ | refine o9 ?_ | refine oa ?_ | refine ob ?_ | refine oc ?_ | refine od ?_ | refine oe ?_ | refine og ?_ | refine oh ?_ | refine oi ?_) | (with_reducible refine cExitMiss ?_ ?_; rfl) | (with_reducible refine ok ?_; first | refine ACode.condT rfl ?_ | refine ACode.condF rfl ?_)
  refine AOps.callC hΓ (Index_ok hΓ xs hx n) rfl rfl rfl rfl rfl rfl rfl hou (by simp) ?_
  repeat first | (with_reducible refine oj ?_; refine AOps.auto tabOk rfl ?_) | (with_reducible first | refine o1 ?_ | refine o2 ?_ | refine o3 ?_ | refine o4 ?_ | refine o5 ?_ | refine o6 ?_ | refine o7 ?_ | refine o8 ?_ | refine o9 ?_ | refine oa ?_ | refine ob ?_ | refine oc ?_ | refine od ?_ | refine oe ?_ | refine og ?_ | refine oh ?_ | refine oi ?_) | (with_reducible refine cExitMiss ?_ ?_; rfl) | (with_reducible refine ok ?_; first | refine ACode.condT rfl ?_ | refine ACode.condF rfl ?_)
  refine APure.fin rfl (WkF.ofEq ?_) (by simp) hou rfl
  rw [idxOf_any, List.any_beq]

theorem AltAnyI_ok (hΓ : ∀ g cs, (g, cs) ∈ Γ → idsL isO cs) (gf : Nat) (caps : List AC) (hcap : idsL isO caps) (p : Alt → Bool) (xs : List Alt) (hx : xs.length ≤ 1048576) (hf : ∀ a ∈ xs, APure Tryd.prog Γ gf (.agg (cAlt a) :: caps.map .one) (.one (.lit (.bool (p a))))) :
    APure Tryd.prog Γ 114 [.one (.sl 2 (xs.map cAlt)), .one (.fn (.func gf) [] caps)] (.one (int (idxOf p xs))) := by
  intro ou
  refine AFn.walk 19 tabOk Tryd.func114 rfl (by kernel_rfl) rfl rfl fun hou => ?_
  repeat first | (with_reducible refine oj ?_; refine AOps.auto tabOk rfl ?_) | (with_reducible first | refine o1 ?_ | refine o2 ?_ | refine o3 ?_ | refine o4 ?_ | refine o5 ?_ | refine o6 ?_ | refine o7 ?_ | refine o8 ?_ | refine o9 ?_ | refine oa ?_ | refine ob ?_ | refine oc ?_ | refine od ?_ | refine oe ?_ | refine og ?_ | refine oh ?_ | refine oi ?_) | (with_reducible refine cExitMiss ?_ ?_; rfl) | (with_reducible refine ok ?_; first | refine ACode.condT rfl ?_ | refine ACode.condF rfl ?_)
  refine ACode.loopR hΓ (α := Nat) (fun j => [(8, .one (int j)), (7, .one (int (xs.map cAlt).length)), (1, .one (.fn (.func gf) [] caps)), (0, .one (.sl 2 (xs.map cAlt)))])
    (fun j => ⟨0, [], ou⟩) (fun m j => j ≤ xs.length ∧ (∀ x ∈ xs.take j, p x = false) ∧ m = xs.length - j) (a0 := 0) (ρ := id) ⟨by omega, by simp, rfl⟩ (LessR.of rfl ?_ ?_ (by repeat' first | exact LoSub.nil | refine LoSub.cons rfl ?_ rfl (by simp) ?_ | rfl | (refine (AObj.ren_pure _ _ ?_).symm; simp; done) | (simp [AObj.ren, renL, AC.ren]; done) | (simp [AObj.ren, renL, AC.ren]; rfl)) rfl rfl hou) fun m j hj => ?_
  · refine .cons rfl (.ofEq rfl) (.cons rfl (.ofEq rfl) (.consP rfl (.ofEq rfl) (by simp [hcap]) (.consP rfl (.ofEq rfl) (by simp) .nil)))
  · simp [idsL_mono isO_inL caps hcap]
  obtain ⟨hjl, hno, rfl⟩ := hj
  repeat first | (with_reducible refine oj ?_; refine AOps.auto tabOk rfl ?_) | (with_reducible first | refine o1 ?_ | refine o2 ?_ | refine o3 ?_ | refine o4 ?_ | refine o5 ?_ | refine o6 ?_ | refine o7 ?_ | refine o8 ?_ | refine o9 ?_ | refine oa ?_ | refine ob ?_ | refine oc ?_ | refine od ?_ | refine oe ?_ | refine og ?_ | refine oh ?_ | refine oi ?_) | (with_reducible refine cExitMiss ?_ ?_; rfl) | (with_reducible refine ok ?_; first | refine ACode.condT rfl ?_ | refine ACode.condF rfl ?_)
  refine ACode.cond rfl (fun hb2 => ?_) (fun hb2 => ?_)
  · have hlt : j < xs.length := by simpa using hb2
    obtain ⟨a, ha⟩ := get_of_lt hlt
    have hca := hf a (List.mem_of_getElem? ha)
    repeat first | (with_reducible refine oj ?_; refine AOps.auto tabOk rfl ?_) | (with_reducible first | refine o1 ?_ | refine o2 ?_ | refine o3 ?_ | refine o4 ?_ | refine o5 ?_ | refine o6 ?_ | refine o7 ?_ | refine o8 ?_ | refine o9 ?_ | refine oa ?_ | refine ob ?_ | refine oc ?_ | refine od ?_ | refine oe ?_ | refine og ?_ | refine oh ?_ | refine oi ?_) | (with_reducible refine cExitMiss ?_ ?_; rfl) | (with_reducible refine ok ?_; first | refine ACode.condT rfl ?_ | refine ACode.condF rfl ?_)
    refine AOps.step1 rfl rfl rfl (AStep.indexAddr tabOk rfl rfl rfl rfl rfl rfl (.inl rfl) rfl (by omega) (by simpa using map_get ha)) ?_
    repeat first | (with_reducible refine oj ?_; refine AOps.auto tabOk rfl ?_) | (with_reducible first | refine o1 ?_ | refine o2 ?_ | refine o3 ?_ | refine o4 ?_ | refine o5 ?_ | refine o6 ?_ | refine o7 ?_ | refine o8 ?_ | refine o9 ?_ | refine oa ?_ | refine ob ?_ | refine oc ?_ | refine od ?_ | refine oe ?_ | refine og ?_ | refine oh ?_ | refine oi ?_) | (with_reducible refine cExitMiss ?_ ?_; rfl) | (with_reducible refine ok ?_; first | refine ACode.condT rfl ?_ | refine ACode.condF rfl ?_)
    refine AOps.callC hΓ hca rfl rfl rfl rfl rfl rfl rfl hou (by simp [idsF_ones hcap]) ?_
    repeat first | (with_reducible refine oj ?_; refine AOps.auto tabOk rfl ?_) | (with_reducible first | refine o1 ?_ | refine o2 ?_ | refine o3 ?_ | refine o4 ?_ | refine o5 ?_ | refine o6 ?_ | refine o7 ?_ | refine o8 ?_ | refine o9 ?_ | refine oa ?_ | refine ob ?_ | refine oc ?_ | refine od ?_ | refine oe ?_ | refine og ?_ | refine oh ?_ | refine oi ?_) | (with_reducible refine cExitMiss ?_ ?_; rfl) | (with_reducible refine ok ?_; first | refine ACode.condT rfl ?_ | refine ACode.condF rfl ?_)
    refine ACode.cond rfl (fun hb3 => ?_) (fun hb3 => ?_)
    · repeat first | (with_reducible refine oj ?_; refine AOps.auto tabOk rfl ?_) | (with_reducible first | refine o1 ?_ | refine o2 ?_ | refine o3 ?_ | refine o4 ?_ | refine o5 ?_ | refine o6 ?_ | refine o7 ?_ | refine o8 ?_ | refine o9 ?_ | refine oa ?_ | refine ob ?_ | refine oc ?_ | refine od ?_ | refine oe ?_ | refine og ?_ | refine oh ?_ | refine oi ?_) | (with_reducible refine cExitMiss ?_ ?_; rfl) | (with_reducible refine ok ?_; first | refine ACode.condT rfl ?_ | refine ACode.condF rfl ?_)
      refine APure.fin rfl (WkF.ofEq ?_) (by simp) hou rfl
      rw [idxOf_at hno ha hb3]
    · repeat first | (with_reducible refine oj ?_; refine AOps.auto tabOk rfl ?_) | (with_reducible first | refine o1 ?_ | refine o2 ?_ | refine o3 ?_ | refine o4 ?_ | refine o5 ?_ | refine o6 ?_ | refine o7 ?_ | refine o8 ?_ | refine o9 ?_ | refine oa ?_ | refine ob ?_ | refine oc ?_ | refine od ?_ | refine oe ?_ | refine og ?_ | refine oh ?_ | refine oi ?_) | (with_reducible refine cExitMiss ?_ ?_; rfl) | (with_reducible refine ok ?_; first | refine ACode.condT rfl ?_ | refine ACode.condF rfl ?_)
      refine AOps.step1 rfl rfl rfl (AStep.arith rfl rfl rfl (.inl ⟨rfl, rfl⟩) (inRange_i64 (by omega) (by omega))) ?_
      repeat first | (with_reducible refine oj ?_; refine AOps.auto tabOk rfl ?_) | (with_reducible first | refine o1 ?_ | refine o2 ?_ | refine o3 ?_ | refine o4 ?_ | refine o5 ?_ | refine o6 ?_ | refine o7 ?_ | refine o8 ?_ | refine o9 ?_ | refine oa ?_ | refine ob ?_ | refine oc ?_ | refine od ?_ | refine oe ?_ | refine og ?_ | refine oh ?_ | refine oi ?_) | (with_reducible refine cExitMiss ?_ ?_; rfl) | (with_reducible refine ok ?_; first | refine ACode.condT rfl ?_ | refine ACode.condF rfl ?_)
      refine cInv ⟨xs.length - (j + 1), j + 1, id, by omega, ⟨by omega, take_all hno ha hb3, rfl⟩, LessR.of rfl ?_ ?_ (by repeat' first | exact LoSub.nil | refine LoSub.cons rfl ?_ rfl (by simp) ?_ | rfl | (refine (AObj.ren_pure _ _ ?_).symm; simp; done) | (simp [AObj.ren, renL, AC.ren]; done) | (simp [AObj.ren, renL, AC.ren]; rfl)) rfl rfl hou⟩
      · refine .cons rfl (.ofEq rfl) (.cons rfl (.ofEq rfl) (.consP rfl (.ofEq rfl) (by simp [hcap]) (.consP rfl (.ofEq rfl) (by simp) .nil)))
      · simp [idsL_mono isO_inL caps hcap]
  · have hlt : j = xs.length := by simp at hb2; omega
    subst hlt
    rw [List.take_length] at hno
    repeat first | (with_reducible refine oj ?_; refine AOps.auto tabOk rfl ?_) | (with_reducible first | refine o1 ?_ | refine o2 ?_ | refine o3 ?_ | refine o4 ?_ | refine o5 ?_ | refine o6 ?_ | refine o7 ?_ | refine o8 ?_ | refine o9 ?_ | refine oa ?_ | refine ob ?_ | refine oc ?_ | refine od ?_ | refine oe ?_ | refine og ?_ | refine oh ?_ | refine oi ?_) | (with_reducible refine cExitMiss ?_ ?_; rfl) | (with_reducible refine ok ?_; first | refine ACode.condT rfl ?_ | refine ACode.condF rfl ?_)
    refine APure.fin rfl (WkF.ofEq ?_) (by simp) hou rfl
    rw [idxOf_none hno]
theorem AltAny_ok (hΓ : ∀ g cs, (g, cs) ∈ Γ → idsL isO cs) (gf : Nat) (caps : List AC) (hcap : idsL isO caps) (p : Alt → Bool) (xs : List Alt) (hx : xs.length ≤ 1048576) (hf : ∀ a ∈ xs, APure Tryd.prog Γ gf (.agg (cAlt a) :: caps.map .one) (.one (.lit (.bool (p a))))) :
    APure Tryd.prog Γ 111 [.one (.sl 2 (xs.map cAlt)), .one (.fn (.func gf) [] caps)] (.one (.lit (.bool (xs.any p)))) := by
  intro ou
  refine AFn.walk 9 tabOk Tryd.func111 rfl (by kernel_rfl) rfl rfl fun hou => ?_
  repeat first | (with_reducible refine oj ?_; refine AOps.auto tabOk rfl ?_) | (with_reducible first | refine o1 ?_ | refine o2 ?_ | refine o3 ?_ | refine o4 ?_ | refine o5 ?_ | refine o6 ?_ | refine o7 ?_ | refine o8 ?_ | refine o9 ?_ | refine oa ?_ | refine ob ?_ | refine oc ?_ | refine od ?_ | refine oe ?_ | refine og ?_ | refine oh ?_ | refine oi ?_) | (with_reducible refine cExitMiss ?_ ?_; rfl) | (with_reducible refine ok ?_; first | refine ACode.condT rfl ?_ | refine ACode.condF rfl ?_)
  refine AOps.callC hΓ (AltAnyI_ok hΓ gf caps hcap p xs hx hf) rfl rfl rfl rfl rfl rfl rfl hou (by simp [hcap]) ?_
  repeat first | (with_reducible refine oj ?_; refine AOps.auto tabOk rfl ?_) | (with_reducible first | refine o1 ?_ | refine o2 ?_ | refine o3 ?_ | refine o4 ?_ | refine o5 ?_ | refine o6 ?_ | refine o7 ?_ | refine o8 ?_ | refine o9 ?_ | refine oa ?_ | refine ob ?_ | refine oc ?_ | refine od ?_ | refine oe ?_ | refine og ?_ | refine oh ?_ | refine oi ?_) | (with_reducible refine cExitMiss ?_ ?_; rfl) | (with_reducible refine ok ?_; first | refine ACode.condT rfl ?_ | refine ACode.condF rfl ?_)
  refine APure.fin rfl (WkF.ofEq ?_) (by simp) hou rfl
  rw [← idxOf_any]

theorem altsF_ok (b a : Alt) : APure Tryd.prog Γ 112 [.agg (cAlt b), .one (.box (cAlt a))] (.one (.lit (.bool (b.tag == a.tag)))) := by
  intro ou
  refine AFn.walk 9 tabOk Tryd.func112 rfl (by kernel_rfl) rfl rfl fun hou => ?_
  repeat first | (with_reducible refine oj ?_; refine AOps.auto tabOk rfl ?_) | (with_reducible first | refine o1 ?_ | refine o2 ?_ | refine o3 ?_ | refine o4 ?_ | refine o5 ?_ | refine o6 ?_ | refine o7 ?_ | refine o8 ?_ | refine o9 ?_ | refine oa ?_ | refine ob ?_ | refine oc ?_ | refine od ?_ | refine oe ?_ | refine og ?_ | refine oh ?_ | refine oi ?_) | (with_reducible refine cExitMiss ?_ ?_; rfl) | (with_reducible refine ok ?_; first | refine ACode.condT rfl ?_ | refine ACode.condF rfl ?_)
  exact APure.fin rfl (WkF.ofEq rfl) (by simp) hou rfl
theorem bodyF_ok (e : List Ex) (k : Int) (x : Ex) (h0 : 0 ≤ k) (hx : e[k.toNat]? = some x) : APure Tryd.prog Γ 64 [.one (int k), .one (.box [.sl 5 (e.map cEx)])] (.agg (cEx x)) := by
  intro ou
  refine AFn.walk 8 tabOk Tryd.func64 rfl (by kernel_rfl) rfl rfl fun hou => ?_
  repeat first | (with_reducible refine oj ?_; refine AOps.auto tabOk rfl ?_) | (with_reducible first | refine o1 ?_ | refine o2 ?_ | refine o3 ?_ | refine o4 ?_ | refine o5 ?_ | refine o6 ?_ | refine o7 ?_ | refine o8 ?_ | refine o9 ?_ | refine oa ?_ | refine ob ?_ | refine oc ?_ | refine od ?_ | refine oe ?_ | refine og ?_ | refine oh ?_ | refine oi ?_) | (with_reducible refine cExitMiss ?_ ?_; rfl) | (with_reducible refine ok ?_; first | refine ACode.condT rfl ?_ | refine ACode.condF rfl ?_)
  refine AOps.step1 rfl rfl rfl (AStep.indexAddr tabOk rfl rfl rfl rfl rfl rfl (.inl rfl) rfl h0 (map_get hx)) ?_
  repeat first | (with_reducible refine oj ?_; refine AOps.auto tabOk rfl ?_) | (with_reducible first | refine o1 ?_ | refine o2 ?_ | refine o3 ?_ | refine o4 ?_ | refine o5 ?_ | refine o6 ?_ | refine o7 ?_ | refine o8 ?_ | refine o9 ?_ | refine oa ?_ | refine ob ?_ | refine oc ?_ | refine od ?_ | refine oe ?_ | refine og ?_ | refine oh ?_ | refine oi ?_) | (with_reducible refine cExitMiss ?_ ?_; rfl) | (with_reducible refine ok ?_; first | refine ACode.condT rfl ?_ | refine ACode.condF rfl ?_)
  exact APure.fin rfl (WkF.ofEq rfl) (by simp) hou rfl
end Go.Proofs.YtnonkoeknpmcjaaDoor
/- alts, shape, ranges, walked. -/
namespace Go.Proofs.YtnonkoeknpmcjaaDoor
open Go Go.Abs Go.CoreX
set_option maxRecDepth 10000
set_option linter.unusedVariables false
set_option linter.unusedSimpArgs false
variable {Γ : List (Nat × List AC)}
set_option maxHeartbeats 400000 in
theorem alts_ok (hΓ : ∀ g cs, (g, cs) ∈ Γ → idsL isO cs) (x : Ex) (hx : okX x) : APure Tryd.prog Γ 105 [.agg (cEx x)] (.one (.lit (.bool (altsOk x)))) := by
  have hxa := hx.a
  have hxb := hx.ab
  have hxk := hx.k
  intro ou
  refine AFn.walk 94 tabOk Tryd.func105 rfl (by kernel_rfl) rfl rfl fun hou => ?_
  repeat first | (with_reducible refine oj ?_; refine AOps.auto tabOk rfl ?_) | (with_reducible first | refine o1 ?_ | refine o2 ?_ | refine o3 ?_ | refine o4 ?_ | refine o5 ?_ | refine o6 ?_ | refine o7 ?_ | refine o8 ?_ | refine o9 ?_ | refine oa ?_ | refine ob ?_ | refine oc ?_ | refine od ?_ | refine oe ?_ | refine og ?_ | refine oh ?_ | refine oi ?_) | (with_reducible refine cExitMiss ?_ ?_; rfl) | (with_reducible refine ok ?_; first | refine ACode.condT rfl ?_ | refine ACode.condF rfl ?_)
  refine ACode.loopR hΓ (α := Nat) (fun j => [(9, .one (int j)), (8, .one (int (x.alts.map cAlt).length)), (7, .one (.sl 2 (x.alts.map cAlt))), (1, .one (.ptr (.l 0) 0))])
    (fun j => ⟨1, [(0, .cells (cEx x))], ou⟩) (fun m j => j ≤ x.alts.length ∧ (∀ ai ∈ x.alts.zipIdx.take j, altBad x ai.2 ai.1 = false) ∧ m = x.alts.length - j) (a0 := 0) (ρ := id) ⟨by omega, by simp, rfl⟩ (LessR.of rfl (by (repeat' first | exact FrSub.nil | refine FrSub.cons rfl (.ofEq rfl) ?_ | refine FrSub.consP rfl (.ofEq rfl) (by simp) ?_)) (by simp) (by repeat' first | exact LoSub.nil | refine LoSub.cons rfl ?_ rfl (by simp) ?_ | rfl | (refine (AObj.ren_pure _ _ ?_).symm; simp; done) | (simp [AObj.ren, renL, AC.ren]; done) | (simp [AObj.ren, renL, AC.ren]; rfl)) rfl rfl hou) fun m j hj => ?_
  obtain ⟨hjl, hno, rfl⟩ := hj
  repeat first | (with_reducible refine oj ?_; refine AOps.auto tabOk rfl ?_) | (with_reducible first | refine o1 ?_ | refine o2 ?_ | refine o3 ?_ | refine o4 ?_ | refine o5 ?_ | refine o6 ?_ | refine o7 ?_ | refine o8 ?_ | refine o9 ?_ | refine oa ?_ | refine ob ?_ | refine oc ?_ | refine od ?_ | refine oe ?_ | refine og ?_ | refine oh ?_ | refine oi ?_) | (with_reducible refine cExitMiss ?_ ?_; rfl) | (with_reducible refine ok ?_; first | refine ACode.condT rfl ?_ | refine ACode.condF rfl ?_)
  refine ACode.cond rfl (fun hb2 => ?_) (fun hb2 => ?_)
  · have hlt : j < x.alts.length := by simpa using hb2
    obtain ⟨a, ha⟩ := get_of_lt hlt
    have haz : x.alts.zipIdx[j]? = some (a, j) := by simp [List.getElem?_zipIdx, ha]
    have hab := hxb a (List.mem_of_getElem? ha)
    have bad : altBad x j a = true → altsOk x = false := fun h => by
      have : x.alts.zipIdx.any (fun ai => altBad x ai.2 ai.1) = true := List.any_eq_true.2 ⟨(a, j), List.mem_of_getElem? haz, h⟩
      simp [altsOk, this]
    repeat first | (with_reducible refine oj ?_; refine AOps.auto tabOk rfl ?_) | (with_reducible first | refine o1 ?_ | refine o2 ?_ | refine o3 ?_ | refine o4 ?_ | refine o5 ?_ | refine o6 ?_ | refine o7 ?_ | refine o8 ?_ | refine o9 ?_ | refine oa ?_ | refine ob ?_ | refine oc ?_ | refine od ?_ | refine oe ?_ | refine og ?_ | refine oh ?_ | refine oi ?_) | (with_reducible refine cExitMiss ?_ ?_; rfl) | (with_reducible refine ok ?_; first | refine ACode.condT rfl ?_ | refine ACode.condF rfl ?_)
    refine AOps.step1 rfl rfl rfl (AStep.indexAddr tabOk rfl rfl rfl rfl rfl rfl (.inl rfl) rfl (by omega) (map_get ha)) ?_
    repeat first | (with_reducible refine oj ?_; refine AOps.auto tabOk rfl ?_) | (with_reducible first | refine o1 ?_ | refine o2 ?_ | refine o3 ?_ | refine o4 ?_ | refine o5 ?_ | refine o6 ?_ | refine o7 ?_ | refine o8 ?_ | refine o9 ?_ | refine oa ?_ | refine ob ?_ | refine oc ?_ | refine od ?_ | refine oe ?_ | refine og ?_ | refine oh ?_ | refine oi ?_) | (with_reducible refine cExitMiss ?_ ?_; rfl) | (with_reducible refine ok ?_; first | refine ACode.condT rfl ?_ | refine ACode.condF rfl ?_)
    refine AOps.step1 rfl rfl rfl (AStep.sliceTo tabOk rfl rfl rfl rfl rfl rfl (by simp; omega)) ?_
    refine AOps.freeze1 (.l 1) 4 rfl rfl ?_
    refine AOps.wk 17 rfl (y := .one (.sl 2 ((x.alts.take j).map cAlt))) (.ofEq (by rw [List.map_take])) ?_
    repeat first | (with_reducible refine oj ?_; refine AOps.auto tabOk rfl ?_) | (with_reducible first | refine o1 ?_ | refine o2 ?_ | refine o3 ?_ | refine o4 ?_ | refine o5 ?_ | refine o6 ?_ | refine o7 ?_ | refine o8 ?_ | refine o9 ?_ | refine oa ?_ | refine ob ?_ | refine oc ?_ | refine od ?_ | refine oe ?_ | refine og ?_ | refine oh ?_ | refine oi ?_) | (with_reducible refine cExitMiss ?_ ?_; rfl) | (with_reducible refine ok ?_; first | refine ACode.condT rfl ?_ | refine ACode.condF rfl ?_)
    have hca := AltAny_ok hΓ 112 [.box (cAlt a)] (by simp) (fun b => b.tag == a.tag) (x.alts.take j) (by simp; omega) (fun b _ => altsF_ok b a)
    obtain ⟨q, hq⟩ : ∃ q, (x.alts.take j).any (fun b => b.tag == a.tag) = q := ⟨_, rfl⟩
    rw [hq] at hca
    refine AOps.callC hΓ hca rfl rfl rfl rfl rfl rfl rfl hou (by simp [-List.map_take]) ?_
    have fin : ∀ fr' σ', altBad x j a = true → aRes tab fr' σ' Tryd.f105.results.toList = some (.one (.lit (.bool false))) → σ'.ou = ou → Abs.Fin ⟨Tryd.prog, tab, Γ, 94⟩ Tryd.f105 (fun r' ou' => r' = .one (.lit (.bool (altsOk x))) ∧ ou' = ou) fr' σ' := fun fr' σ' h1 h2 h3 =>
      APure.fin h2 (WkF.ofEq (by rw [bad h1])) (by simp) hou h3
    repeat' first | (with_reducible refine oj ?_; refine AOps.auto tabOk rfl ?_) | (with_reducible first | refine o1 ?_ | refine o2 ?_ | refine o3 ?_ | refine o4 ?_ | refine o5 ?_ | refine o6 ?_ | refine o7 ?_ | refine o8 ?_ | refine o9 ?_ | refine oa ?_ | refine ob ?_ | refine oc ?_ | refine od ?_ | refine oe ?_ | refine og ?_ | refine oh ?_ | refine oi ?_) | (with_reducible refine cExitMiss ?_ ?_; rfl) | (with_reducible refine ok ?_; first | refine ACode.condT rfl ?_ | refine ACode.condF rfl ?_) | (with_reducible refine oj ?_; first | refine AOps.step1 rfl rfl rfl (AStep.arith rfl rfl rfl (.inl ⟨rfl, rfl⟩) (inRange_i64 (by first | omega | (simp; omega)) (by first | omega | (simp; omega)))) ?_ | refine AOps.step1 rfl rfl rfl (AStep.arith rfl rfl rfl (.inr (.inl ⟨rfl, rfl⟩)) (inRange_i64 (by first | omega | (simp; omega)) (by first | omega | (simp; omega)))) ?_ | refine AOps.step1 rfl rfl rfl (AStep.neBool Tryd.underlying4 rfl rfl rfl) ?_ | refine AOps.step1 rfl rfl rfl (AStep.eqBool Tryd.underlying4 rfl rfl rfl) ?_ | refine AOps.step1 rfl rfl rfl (AStep.max2 (t := 3) (ty := 3) rfl rfl rfl) ?_ | refine AOps.step1 rfl rfl rfl (AStep.min2 (t := 3) (ty := 3) rfl rfl rfl) ?_ | refine AOps.unG rfl rfl rfl ?_) | (with_reducible refine oj ?_; refine AOps.splitS rfl rfl rfl rfl (fun hb => ?_) (fun hb => ?_)) | (with_reducible refine ok ?_; first | refine ACode.condS rfl (fun hb => ?_) (fun hb => ?_) | refine ACode.cond rfl (fun hb => ?_) (fun hb => ?_))
    all_goals first
      | (refine fin _ _ ?_ rfl rfl
         subst hq
         simp_all [altBad]
         done)
      | (refine cInv ⟨x.alts.length - (j + 1), j + 1, fun k => if k = 0 then 0 else k, by omega, ⟨by omega, take_all hno haz ?_, rfl⟩, LessR.of rfl (by (repeat' first | exact FrSub.nil | refine FrSub.cons rfl (.ofEq rfl) ?_ | refine FrSub.consP rfl (.ofEq rfl) (by simp) ?_)) (by simp) (by repeat' first | exact LoSub.nil | refine LoSub.cons rfl ?_ rfl (by simp) ?_ | rfl | (refine (AObj.ren_pure _ _ ?_).symm; simp; done) | (simp [AObj.ren, renL, AC.ren]; done) | (simp [AObj.ren, renL, AC.ren]; rfl)) rfl rfl hou⟩
         subst hq
         simp_all [altBad]
         done)
  · have hlt : j = x.alts.length := by simp at hb2; omega
    subst hlt
    have e : altsOk x = ((x.kids.length : Int) == 1 + x.alts.length && (x.op == 7 || decide (0 < x.alts.length))) := by
      have hall : x.alts.zipIdx.any (fun ai => altBad x ai.2 ai.1) = false := by
        rw [List.any_eq_false]
        intro ai hai
        have := hno ai (by rw [List.take_of_length_le (by simp)]; exact hai)
        simp [this]
      simp only [altsOk, hall, Bool.not_false, Bool.true_and]
    clear hno
    repeat' first | (with_reducible refine oj ?_; refine AOps.auto tabOk rfl ?_) | (with_reducible first | refine o1 ?_ | refine o2 ?_ | refine o3 ?_ | refine o4 ?_ | refine o5 ?_ | refine o6 ?_ | refine o7 ?_ | refine o8 ?_ | refine o9 ?_ | refine oa ?_ | refine ob ?_ | refine oc ?_ | refine od ?_ | refine oe ?_ | refine og ?_ | refine oh ?_ | refine oi ?_) | (with_reducible refine cExitMiss ?_ ?_; rfl) | (with_reducible refine ok ?_; first | refine ACode.condT rfl ?_ | refine ACode.condF rfl ?_) | (with_reducible refine oj ?_; first | refine AOps.step1 rfl rfl rfl (AStep.arith rfl rfl rfl (.inl ⟨rfl, rfl⟩) (inRange_i64 (by first | omega | (simp; omega)) (by first | omega | (simp; omega)))) ?_ | refine AOps.step1 rfl rfl rfl (AStep.arith rfl rfl rfl (.inr (.inl ⟨rfl, rfl⟩)) (inRange_i64 (by first | omega | (simp; omega)) (by first | omega | (simp; omega)))) ?_ | refine AOps.step1 rfl rfl rfl (AStep.neBool Tryd.underlying4 rfl rfl rfl) ?_ | refine AOps.step1 rfl rfl rfl (AStep.eqBool Tryd.underlying4 rfl rfl rfl) ?_ | refine AOps.step1 rfl rfl rfl (AStep.max2 (t := 3) (ty := 3) rfl rfl rfl) ?_ | refine AOps.step1 rfl rfl rfl (AStep.min2 (t := 3) (ty := 3) rfl rfl rfl) ?_ | refine AOps.unG rfl rfl rfl ?_) | (with_reducible refine oj ?_; refine AOps.splitS rfl rfl rfl rfl (fun hb => ?_) (fun hb => ?_)) | (with_reducible refine ok ?_; first | refine ACode.condS rfl (fun hb => ?_) (fun hb => ?_) | refine ACode.cond rfl (fun hb => ?_) (fun hb => ?_))
    all_goals
      refine APure.fin rfl (WkF.ofEq ?_) (by simp) hou rfl
      rw [e]
      simp_all
end Go.Proofs.YtnonkoeknpmcjaaDoor
