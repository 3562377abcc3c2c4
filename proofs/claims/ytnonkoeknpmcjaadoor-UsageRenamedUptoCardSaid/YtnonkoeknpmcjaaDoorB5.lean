/- The abstract layer, part Ag: outer names stay as they are. No condition. -/
import Derived.Test.YtnonkoeknpmcjaaDoorB4
import Derived.Sort.Row
import Derived.Sort.Grow
import Derived.Laws.CopyRow
import Derived.Shelf.GgSortFunc.InsertionK
namespace Go.Abs
set_option linter.unusedVariables false
section
variable {j k : Nat}
theorem toO_isO : ∀ i : Id, isO i → toO j k i = i
  | .o _, _ => rfl
  | .l _, h => h.elim
mutual
theorem AC.sub_o : ∀ c : AC, c.ids isO → c.sub (toO j k) = c
  | .lit _, _ => rfl
  | .any, _ => rfl
  | .sl s es, h => by simp only [AC.ids] at h; simp only [AC.sub]; rw [subS_o es h]
  | .box cs, h => by simp only [AC.ids] at h; simp only [AC.sub]; rw [subL_o cs h]
  | .ptr i off, h => by simp only [AC.ids] at h; simp only [AC.sub]; rw [toO_isO i h]
  | .gs s es i, h => by simp only [AC.ids] at h; simp only [AC.sub]; rw [toO_isO i h.1, subS_o es h.2]
  | .arr i s off len cap, h => by simp only [AC.ids] at h; simp only [AC.sub]; rw [toO_isO i h]
  | .mp i, h => by simp only [AC.ids] at h; simp only [AC.sub]; rw [toO_isO i h]
  | .fn f a b, h => by simp only [AC.ids] at h; simp only [AC.sub]; rw [subL_o a h.1, subL_o b h.2]
  | .ifc t ag cs, h => by simp only [AC.ids] at h; simp only [AC.sub]; rw [subL_o cs h]
theorem subS_o : ∀ es : List (List AC), idsS isO es → subS (toO j k) es = es
  | [], _ => rfl
  | e :: es, h => by simp only [idsS] at h; simp only [subS]; rw [subL_o e h.1, subS_o es h.2]
theorem subL_o : ∀ cs : List AC, idsL isO cs → subL (toO j k) cs = cs
  | [], _ => rfl
  | c :: cs, h => by simp only [idsL] at h; simp only [subL]; rw [AC.sub_o c h.1, subL_o cs h.2]
end
mutual
theorem FV.sub_o : ∀ x : FV, x.ids isO → x.sub (toO j k) = x
  | .bot, _ => rfl
  | .one c, h => by simp only [FV.ids] at h; simp only [FV.sub]; rw [AC.sub_o c h]
  | .agg cs, h => by simp only [FV.ids] at h; simp only [FV.sub]; rw [subL_o cs h]
  | .tup vs, h => by simp only [FV.ids] at h; simp only [FV.sub]; rw [subF_o vs h]
theorem subF_o : ∀ vs : List FV, idsF isO vs → subF (toO j k) vs = vs
  | [], _ => rfl
  | v :: vs, h => by simp only [idsF] at h; simp only [subF]; rw [FV.sub_o v h.1, subF_o vs h.2]
end
theorem AObj.sub_o (o : AObj) (h : o.ids isO) : o.sub (toO j k) = o := by
  cases o with
  | cells cs => simp only [AObj.sub]; rw [subL_o cs h]
  | map ck es =>
    simp only [AObj.sub]
    congr 1
    rw [List.map_congr_left (g := id), List.map_id]
    intro x hx
    have := h x hx
    obtain ⟨a, b, c⟩ := x
    simp only [FV.sub_o c this, id]
  | iter m a b d => simp only [AObj.sub]; rw [toO_isO m h]
  | sit s q => rfl
  | tok e s u => rfl
  | dead => rfl
end
theorem AFn.fin' {E : Env} {fn : Func} {fr : Fr} {σ : St} {Q : FV → Outer → Prop} {r r' : FV} (h : aRes E.T fr σ fn.results.toList = some r) (hw : WkF r r') (hi : r'.ids isO) (ho : OuOk σ.ou) (hq : Q r' σ.ou) : Fin E fn Q fr σ := ⟨r, r', h, hw, hi, ho, hq⟩
end Go.Abs
/- The abstract layer, part Ah: an own array of numbers, sorted in place. What the sort does is given. -/
namespace Go.Abs
open Go.Sort
set_option linter.unusedVariables false
set_option linter.unusedSimpArgs false
abbrev iC (n : Int) : List AC := [.lit (.int .i64 n)]
theorem flat_iC : ∀ l : List Int, (l.map iC).flatten = l.map fun n => AC.lit (.int .i64 n)
  | [] => rfl
  | n :: l => by simp [flat_iC l]
theorem RV.ints {w : World} {C : Ctx} : ∀ {l : List Int} {cs : List AC} {xs : List Value}, RV w C ((l.map fun n => AC.lit (.int .i64 n)) ++ cs) xs → xs = l.map (Value.int .i64) ++ xs.drop l.length ∧ RV w C cs (xs.drop l.length)
  | [], cs, xs, h => ⟨by simp, by simpa using h⟩
  | n :: l, cs, xs, h => by
    simp only [List.map_cons, List.cons_append, RV] at h
    obtain ⟨v, ys, rfl, h1, h2⟩ := h
    simp only [R] at h1
    obtain ⟨h3, h4⟩ := RV.ints h2
    refine ⟨?_, by simpa using h4⟩
    simp only [List.map_cons, List.length_cons, List.drop_succ_cons, List.cons_append]
    rw [← h3, h1.1]
theorem RV.ofInts {w : World} {C : Ctx} : ∀ (l : List Int) {cs : List AC} {xs : List Value}, RV w C cs xs → RV w C ((l.map fun n => AC.lit (.int .i64 n)) ++ cs) (l.map (Value.int .i64) ++ xs)
  | [], cs, xs, h => by simpa using h
  | n :: l, cs, xs, h => by
    simp only [List.map_cons, List.cons_append, RV]
    exact ⟨_, _, rfl, by simp [R, Value.oneCell'], RV.ofInts l h⟩
theorem putCells_front (d : List Int) (xs : List Value) (h : d.length ≤ xs.length) : putCells (Value.int .i64) 0 d.toArray xs.toArray = (d.map (Value.int .i64) ++ xs.drop d.length).toArray := by
  apply Array.ext_getElem?
  intro k
  unfold putCells
  rw [Array.getElem?_mapIdx]
  simp only [List.getElem?_toArray, List.size_toArray, Nat.zero_le, true_and, Nat.zero_add, Nat.sub_zero]
  by_cases hk : k < d.length
  · rw [List.getElem?_append_left (by simpa using hk)]
    have hx : k < xs.length := by omega
    simp [List.getElem?_eq_getElem hx, hk]
  · rw [List.getElem?_append_right (by simp; omega)]
    simp only [List.length_map, List.getElem?_drop]
    rw [show d.length + (k - d.length) = k by omega]
    simp [hk]
/-- The sort of an own array. -/
theorem AOps.sortI {E : Env} {ops : Array Oper} {rest : List Oper} {o : Oper} {K : Cont} {fr : Fr} {σ : St} {d : Nat} {f : Operand} {args : Array Operand} {tys : Array TypeId} {g : Nat} {i : Id} {l : List Int} {cap : Nat} (hgd : o.guard = none) (hdst : o.dst = some d) (hd : Nat.ble (d + 1) E.N = true)
    (ho : o.op = .call { callee := .value f, args := args, argTypes := tys }) (hf : aEval E.Γ fr f = some (.one (.fn (.func g) [] []))) (hargs : aEvals E.Γ fr args.toList = some [.one (.arr i 1 0 l.length cap)])
    (hcf : ∀ us (w : World), (callFunc g us).run E.P w = .ok (.enter g us) w)
    (hc : ∀ (blk off cap : Nat) (zs : List Int) (w : World), Holds (Value.int .i64) w blk off zs.toArray → blk < w.heap.size → zs.length < 4611686018427387904 → Calls E.P g #[.slice (some ⟨blk, off, none⟩) zs.length cap] w fun e w' =>
      e = .returned (.tuple #[]) ∧ ∃ n os, w' = grow (putRow (Value.int .i64) (Sort.ahead w n) blk off (zs.mergeSort fun x y => decide (x ≤ y)).toArray) os)
    (hg : σ.get i = some (.cells (vec 1 (l.map iC) cap))) (hlen : l.length < 4611686018427387904)
    (h : AOps E ops rest K ((d, .tup []) :: fr) (σ.set i (.cells (vec 1 ((l.mergeSort fun x y => decide (x ≤ y)).map iC) cap)))) : AOps E ops (o :: rest) K fr σ := by
  intro F w0 C0 w C tmps hgo hi hfr
  refine wpList_plain hgd fun N' hN => ?_
  have hcallee := aEval_ok (a := ⟨tmps, []⟩) hi hfr hf
  simp only [RF, R] at hcallee
  obtain ⟨xs, ys, hfv, hx, hy⟩ := hcallee
  simp only [RV] at hx hy
  subst hx; subst hy
  have hvs := aEvals_ok (a := ⟨tmps, []⟩) hi hfr hargs
  simp only [RFs, RF, R] at hvs
  obtain ⟨v, us, hv, ⟨hok, hv2, hcapl⟩, hus⟩ := hvs
  subst hus
  rw [hv2] at hv
  simp only [Nat.zero_mul] at hv
  obtain ⟨hok', zs, T, b1, b2, b3, b4⟩ := hi.obj i _ hg
  have hzs := b3
  unfold vec at hzs
  rw [flat_iC] at hzs
  obtain ⟨hz1, hz2⟩ := RV.ints hzs
  have hzl : l.length ≤ zs.length := by rw [hz1]; simp
  have hcell : ∀ j : Nat, w.cell? ⟨C.blk i, j, none⟩ = zs[j]? := fun j => by rw [cell_of_row _ _ _ _ _ _ b1]; simp
  have hH : Holds (Value.int .i64) w (C.blk i) 0 l.toArray := fun j hj => by
    have hj' : j < l.length := by simpa using hj
    refine ⟨?_, ?_⟩
    · rw [Nat.zero_add, hcell, hz1, List.getElem?_append_left (by simpa using hj')]
      simp [hj']
    · simp [World.frozen?, b1]
  have hblk : C.blk i < w.heap.size := lt_of_heap b1
  have hrun : (execOp (Act.eval ⟨tmps, []⟩) o).run E.P w = .ok (.enter g #[.slice (some ⟨C.blk i, 0, none⟩) l.length cap]) w := by
    unfold execOp
    simp only [ho, resolve, Sem.run_bind, hfv, Deferred.ofValue, Sem.run_pure, Result.andThen_ok, invoke, hcf]
    congr 2
    apply Array.ext'
    simpa using hv
  unfold Oper.wp
  rw [hrun, Oper.upon_enter]
  refine (hc (C.blk i) 0 cap l w hH hblk hlen).mono fun e w' ⟨he, n, os, hw'⟩ => ?_
  subst he
  subst hw'
  obtain ⟨l', hl'⟩ : ∃ l', l' = (l.mergeSort fun x y => decide (x ≤ y)) := ⟨_, rfl⟩
  rw [← hl'] at h ⊢
  have hll : l'.length = l.length := by rw [hl']; simp
  -- the row, turned
  have hsz : (putRow (Value.int .i64) (Sort.ahead w n) (C.blk i) 0 l'.toArray).heap.size = w.heap.size := by simp [Sort.ahead]
  have hoth : ∀ k, k ≠ C.blk i → (putRow (Value.int .i64) (Sort.ahead w n) (C.blk i) 0 l'.toArray).heap[k]? = w.heap[k]? := fun k hk => by
    unfold putRow mapBlock
    show (w.heap.modify _ _)[k]? = _
    rw [Array.getElem?_modify, if_neg (Ne.symm hk)]
  have hat : (putRow (Value.int .i64) (Sort.ahead w n) (C.blk i) 0 l'.toArray).heap[C.blk i]? = some (.cells (l'.map (Value.int .i64) ++ zs.drop l.length).toArray T (0, 0)) := by
    unfold putRow mapBlock
    show (w.heap.modify _ _)[C.blk i]? = _
    rw [Array.getElem?_modify, if_pos rfl, b1]
    simp only [Option.map_some, onCells]
    rw [putCells_front l' zs (by omega), hll]
  obtain ⟨he1, hi1⟩ := hi.turn (o' := .cells (vec 1 (l'.map iC) cap)) hg (show AObj.block C i (.cells _) = some (C.blk i) from rfl) hsz hoth (fun a ha hp => absurd hp (b4 a ha)) rfl fun he => by
    refine ⟨_, T, hat, b2, ?_, b4⟩
    unfold vec
    rw [flat_iC]
    have hcl : (l'.map iC).length = (l.map iC).length := by simp [hll]
    rw [hcl]
    exact RV.ofInts l' (hz2.ext he)
  have hsz2 : (putRow (Value.int .i64) (Sort.ahead w n) (C.blk i) 0 l'.toArray).heap.size ≤ (grow (putRow (Value.int .i64) (Sort.ahead w n) (C.blk i) 0 l'.toArray) os).heap.size := by simp [grow]
  have hold : ∀ k, k < (putRow (Value.int .i64) (Sort.ahead w n) (C.blk i) 0 l'.toArray).heap.size → (grow (putRow (Value.int .i64) (Sort.ahead w n) (C.blk i) 0 l'.toArray) os).heap[k]? = (putRow (Value.int .i64) (Sort.ahead w n) (C.blk i) 0 l'.toArray).heap[k]? := fun k hk => by
    show (_ ++ os)[k]? = _
    rw [Array.getElem?_append_left hk]
  obtain ⟨he2, hi2⟩ := hi1.grown hsz2 hold
  have hstp : Stp F w (grow (putRow (Value.int .i64) (Sort.ahead w n) (C.blk i) 0 l'.toArray) os) := by
    refine ⟨rfl, rfl, rfl, by rw [← hsz]; exact hsz2, fun k hk => ?_, fun a ha => ?_⟩
    · have hk2 := hi.base k hk
      rw [hold k (by rw [hsz]; exact hk2), hoth k (fun e => b2 (e ▸ hk))]
    · have h1 : World.frozen? (grow (putRow (Value.int .i64) (Sort.ahead w n) (C.blk i) 0 l'.toArray) os) a = World.frozen? (putRow (Value.int .i64) (Sort.ahead w n) (C.blk i) 0 l'.toArray) a := by
        unfold World.frozen?
        rw [hold a.block (by rw [hsz]; exact ha)]
      rw [h1, frozen?_putRow]; rfl
  refine hN _ _ ?_
  rw [put_eta]
  have hext := he1.trans he2
  rw [hdst]
  exact h F w0 C0 _ C _ (hgo.trans ⟨hstp, hext.weaken (fun _ _ => trivial), Nat.le_refl _, NewP.refl _ _⟩) hi2 (putFr_ok (dst := some d) (hfr.ext hext) hd (by simp only [RF, RFs]; exact ⟨[], rfl, rfl⟩))
end Go.Abs
/- The abstract layer, part Ai: an own array that is written no more; a call that leaves the world as it is. No condition. -/
namespace Go.Abs
set_option linter.unusedVariables false
set_option linter.unusedSimpArgs false
theorem AOps.freezeArr {E : Env} {ops : Array Oper} {l : List Oper} {K : Cont} {fr : Fr} {σ : St} (i : Id) (d : Nat) {s cap : Nat} {es : List (List AC)} (hg : σ.get i = some (.cells (vec s es cap))) (hl : ∀ x ∈ es, x.length = s) (hd : Fr.get d fr = some (.one (.arr i s 0 es.length cap)))
    (h : AOps E ops l K ((d, .one (.sl s es)) :: fr) (σ.set i .dead)) : AOps E ops l K fr σ := by
  intro F w0 C0 w C tmps hgo hi hf
  obtain ⟨h1, h2, h3⟩ := frz_run hi hf hg (fr' := []) trivial
  obtain ⟨hok, zs, T, b1, b2, b3, b4⟩ := hi.obj i _ hg
  refine h F w0 C0 w _ tmps (hgo.trans h1.toO) h2 ⟨hf.1, fun k x hk => ?_⟩
  simp only [Fr.get] at hk
  by_cases e : d = k
  · subst e
    simp at hk
    subst hk
    obtain ⟨u, hu, hr⟩ := hf.2 d _ hd
    simp only [RF, R, Nat.zero_mul] at hr
    refine ⟨u, hu, some ⟨C.blk i, 0, none⟩, cap, hr.2.1, hr.2.2, .inr ⟨_, rfl, rfl, ?_⟩⟩
    have hfl := flat_len hl
    have hzl := RV.length b3
    have hv : RV w (C.froze (C.blk i)) es.flatten (zs.take (es.length * s)) := by
      have := (b3.take (es.length * s)).ext h1.chg
      rwa [vec, List.take_append_of_le_length (by omega), List.take_of_length_le (by omega)] at this
    refine RS.ofVals 0 hl hv fun j v hj => ⟨?_, .inr rfl⟩
    have h2 : j < es.length * s := by have := (List.getElem?_eq_some_iff.1 hj).1; simp at this; omega
    rw [List.getElem?_take_of_lt h2] at hj
    rw [Nat.zero_add, cell_of_row _ _ _ _ _ _ b1]
    simpa using hj
  · rw [beq_no e] at hk
    obtain ⟨u, hu, hr⟩ := hf.2 k x hk
    exact ⟨u, hu, hr.ext h1.chg⟩
/-- A call whose contract leaves the world as it is. -/
theorem AOps.callNo {E : Env} {ops : Array Oper} {rest : List Oper} {o : Oper} {K : Cont} {fr : Fr} {σ : St} {d : Nat} {f : Operand} {args : Array Operand} {tys : Array TypeId} {g : Nat} {u : Value} (hgd : o.guard = none) (hdst : o.dst = some d) (hd : Nat.ble (d + 1) E.N = true)
    (ho : o.op = .call { callee := .value f, args := args, argTypes := tys }) (hf : aEval E.Γ fr f = some (.one (.fn (.func g) [] []))) (hargs : aEvals E.Γ fr args.toList = some [.one (.lit u)])
    (hcf : ∀ us (w : World), (callFunc g us).run E.P w = .ok (.enter g us) w) (hc : ∀ w : World, Calls E.P g #[u] w fun e w' => e = .returned (.tuple #[]) ∧ w' = w)
    (h : AOps E ops rest K ((d, .tup []) :: fr) σ) : AOps E ops (o :: rest) K fr σ := by
  intro F w0 C0 w C tmps hgo hi hfr
  refine wpList_plain hgd fun N' hN => ?_
  have hcallee := aEval_ok (a := ⟨tmps, []⟩) hi hfr hf
  simp only [RF, R] at hcallee
  obtain ⟨xs, ys, hfv, hx, hy⟩ := hcallee
  simp only [RV] at hx hy
  subst hx; subst hy
  have hvs := aEvals_ok (a := ⟨tmps, []⟩) hi hfr hargs
  simp only [RFs, RF, R] at hvs
  obtain ⟨v, us, hv, ⟨hv2, _⟩, hus⟩ := hvs
  subst hus
  rw [hv2] at hv
  have hrun : (execOp (Act.eval ⟨tmps, []⟩) o).run E.P w = .ok (.enter g #[u]) w := by
    unfold execOp
    simp only [ho, resolve, Sem.run_bind, hfv, Deferred.ofValue, Sem.run_pure, Result.andThen_ok, invoke, hcf]
    congr 2
    apply Array.ext'
    simpa using hv
  unfold Oper.wp
  rw [hrun, Oper.upon_enter]
  refine (hc w).mono fun e w' ⟨he, hw'⟩ => ?_
  subst he
  subst hw'
  refine hN _ _ ?_
  rw [put_eta]
  rw [hdst]
  exact h F w0 C0 w' C _ hgo hi (putFr_ok (dst := some d) hfr hd (by simp only [RF, RFs]; exact ⟨[], rfl, rfl⟩))
end Go.Abs
/- The abstract layer, part Aj: a call of a function that only computes a number or a truth value; own objects are lent to it, to be read. No condition. -/
namespace Go.Abs
set_option linter.unusedVariables false
set_option linter.unusedSimpArgs false
/-- A context in which no old cell is written. -/
def Ctx.still (C : Ctx) (w : World) : Ctx := ⟨fun a => a.block < w.heap.size, 0, C.no, C.phi, C.tk⟩
theorem Inv.stillChg {Γ : List (Nat × List AC)} {F : Nat → Prop} {w : World} {C : Ctx} {σ : St} (hi : Inv Γ F w C σ) : Chg isO w C w (C.still w) :=
  ⟨fun _ _ => rfl, fun a h => hi.prot a h, fun i hp hok => ⟨by cases i with | l k => cases hp | o k => exact hok, rfl, rfl⟩⟩
def LendF (σ : St) (x y : FV) : Prop := ∀ (Γ : List (Nat × List AC)) (F : Nat → Prop) (w : World) (C : Ctx) (v : Value), Inv Γ F w C σ → RF w C x v → RF w (C.still w) y v
def LendFs (σ : St) (xs ys : List FV) : Prop := ∀ (Γ : List (Nat × List AC)) (F : Nat → Prop) (w : World) (C : Ctx) (vs : List Value), Inv Γ F w C σ → RFs w C xs vs → RFs w (C.still w) ys vs
theorem LendF.of {σ : St} {x y : FV} (h : WkF x y) (hy : y.ids isO) : LendF σ x y := fun Γ F w C v hi hr => RF.chg hi.stillChg y v hy (h w C v hr)
theorem LendF.refl {σ : St} {x : FV} (hy : x.ids isO) : LendF σ x x := .of (.refl x) hy
theorem LendF.arr {σ : St} {i : Id} {s cap n : Nat} {es : List (List AC)} (hg : σ.get i = some (.cells (vec s es cap))) (hn : n = es.length) (hl : ∀ x ∈ es, x.length = s) (hids : idsS isO es) : LendF σ (.one (.arr i s 0 n cap)) (.one (.sl s es)) := by
  subst hn
  intro Γ F w C v hi hr
  obtain ⟨hok, zs, T, b1, b2, b3, b4⟩ := hi.obj i _ hg
  simp only [RF, R, Nat.zero_mul] at hr
  refine ⟨some ⟨C.blk i, 0, none⟩, cap, hr.2.1, hr.2.2, .inr ⟨_, rfl, rfl, ?_⟩⟩
  have hfl := flat_len hl
  have hzl := RV.length b3
  have hfi : idsL isO es.flatten := by
    clear hg hl hr hfl b3 hzl
    induction es with
    | nil => trivial
    | cons x es ih =>
      simp only [idsS] at hids
      rw [List.flatten_cons]
      exact idsL_iff.2 fun c hc => (List.mem_append.1 hc).elim (fun h => idsL_iff.1 hids.1 c h) fun h => idsL_iff.1 (ih hids.2) c h
  have hv : RV w (C.still w) es.flatten (zs.take (es.length * s)) := by
    refine RV.chg hi.stillChg _ _ hfi ?_
    have := b3.take (es.length * s)
    rwa [vec, List.take_append_of_le_length (by omega), List.take_of_length_le (by omega)] at this
  refine RS.ofVals 0 hl hv fun j v hj => ⟨?_, lt_of_heap b1⟩
  have h2 : j < es.length * s := by have := (List.getElem?_eq_some_iff.1 hj).1; simp at this; omega
  rw [List.getElem?_take_of_lt h2] at hj
  rw [Nat.zero_add, cell_of_row _ _ _ _ _ _ b1]
  simpa using hj
theorem LendF.ptr {σ : St} {i : Id} {off : Nat} {cs : List AC} (hg : σ.get i = some (.cells cs)) (hids : idsL isO cs) : LendF σ (.one (.ptr i off)) (.one (.box (cs.drop off))) := by
  intro Γ F w C v hi hr
  obtain ⟨hok, zs, T, b1, b2, b3, b4⟩ := hi.obj i _ hg
  simp only [RF, R] at hr
  refine ⟨⟨C.blk i, off, none⟩, hr.2, rfl, ?_⟩
  have h : RL w (C.still w) cs ⟨C.blk i, 0, none⟩ := by
    refine RL.of_new 0 (RV.chg hi.stillChg cs zs hids b3) (fun j v hj => ?_) (fun ad ha => ?_)
    · rw [Nat.zero_add, cell_of_row _ _ _ _ _ _ b1]
      simpa using hj
    · show ad.block < w.heap.size
      rw [ha]; exact lt_of_heap b1
  have := RL.drop off rfl h
  simpa using this
theorem LendFs.nil {σ : St} : LendFs σ [] [] := fun _ _ _ _ _ _ h => h
theorem LendFs.cons {σ : St} {x y : FV} {xs ys : List FV} (h : LendF σ x y) (k : LendFs σ xs ys) : LendFs σ (x :: xs) (y :: ys) := by
  intro Γ F w C vs hi hr
  simp only [RFs] at hr ⊢
  obtain ⟨v, us, rfl, h1, h2⟩ := hr
  exact ⟨v, us, rfl, h _ _ _ _ _ hi h1, k _ _ _ _ _ hi h2⟩
/-- What reads the same everywhere. -/
def Plain (r : FV) : Prop := ∀ (w w' : World) (C C' : Ctx) (v : Value), RF w C r v → RF w' C' r v
theorem Plain.lit (u : Value) : Plain (.one (.lit u)) := fun w w' C C' v h => by simpa only [RF, R] using h
end Go.Abs
/- The abstract layer, part Ak: parts of an own array, elements taken out of it in place, its tail cleared; an own array in a value that is written no more. No condition. -/
namespace Go.Abs
set_option linter.unusedVariables false
set_option linter.unusedSimpArgs false
/-- A bound that may be left out. -/
def optIs (Γ : List (Nat × List AC)) (fr : Fr) (x : Option Operand) (n d : Nat) : Prop := match x with
  | none => n = d
  | some y => ∃ k : IntKind, aEval Γ fr y = some (.one (.lit (.int k (n : Int))))
section
variable {E : Env} {o : Oper} {fr : Fr} {σ : St}
end
section
variable {Γ : List (Nat × List AC)} {F : Nat → Prop} {w : World} {C : Ctx} {σ : St}
end
end Go.Abs
/- The abstract layer, part Al: a drawn head with calls of which not all is known; own arrays from nothing; an object of which less is said. No condition. -/
namespace Go.Abs
set_option linter.unusedVariables false
set_option linter.unusedSimpArgs false
theorem HStepR.mono {E : Env} {ops : Array Oper} {o : Oper} {fr : Fr} {σ : St} {P Q : FV → St → Prop} (h : HStepR E ops o fr σ P) (hq : ∀ v σ', P v σ' → Q v σ') : HStepR E ops o fr σ Q := by
  rcases h with ⟨v, σ', h1, h2⟩ | ⟨h1, h2⟩
  · exact .inl ⟨v, σ', h1, hq _ _ h2⟩
  · exact .inr ⟨h1, fun F w C tmps hi hf next Q' hk => h2 F w C tmps hi hf next Q' fun u w' C' v σ' hp => hk u w' C' v σ' (hq _ _ hp)⟩
section
variable {E : Env} {l : List Oper} {frb : Fr} {n : Nat} {K : Cont} {J : Array Bool → St → (Nat → Option FV) → Prop}
/-- Some operations of the head (S) turn the store or wait for one that does; M: in which states they leave it, and with which values. The others only read, and wait for none of them. -/
theorem ACode.drawSR {id : Nat} {fr : Fr} {σ0 : St} {hd tl : List Oper} (n : Nat) (S : List Nat) (vs : List FV) (M : (Nat → Option FV) → St → Prop) (hm : E.P.follows .mixedOrders = true) (hB : drawB l n = true) (hsp : splitO n l = some (hd, tl)) (hfb : Fr.woO (dsts hd) fr = some frb) (h0 : M (fun _ => none) σ0)
    (hM : ∀ f σ, M f σ → ∀ i, S.any (fun k => Nat.beq k i) = false → f i = none)
    (hq : ∀ i o, i < n → S.any (fun k => Nat.beq k i) = false → l[i]? = some o → ∃ v, vs[i]? = some v ∧ o.dst.isSome = true ∧ dstOk E.N o.dst = true ∧ (o.after.toList.all fun e => !Region.binds .any e || !(S.any fun k => Nat.beq k e.on)) = true ∧ ∀ f σ, M f σ → HStep E l.toArray o (depFr l vs o ++ frb) σ σ v)
    (hs : ∀ f σ i o, M f σ → S.any (fun k => Nat.beq k i) = true → l[i]? = some o → f i = none → (∀ e ∈ o.after.toList, Region.binds .any e = true → S.any (fun k => Nat.beq k e.on) = true → (f e.on).isSome = true) →
      o.dst.isSome = true ∧ dstOk E.N o.dst = true ∧ HStepR E l.toArray o (depFrJ l (mixV S vs f) o ++ frb) σ (fun v σ' => M (updV f i v) σ'))
    (htail : ∀ f σ, M f σ → (∀ i ∈ S, i < n → (f i).isSome = true) → AOps E l.toArray tl K (headFrJ (mixV S vs f) 0 hd ++ frb) σ) : ACode E (.region id l.toArray true) K fr σ0 := by
  obtain ⟨hsp1, hsp2⟩ := splitO_eq hsp
  subst hsp1; subst hsp2
  have depEq : ∀ (o : Oper) (v1 v2 : Nat → Option FV), (∀ e ∈ o.after.toList, Region.binds .any e = true → v1 e.on = v2 e.on) → depFrJ l v1 o = depFrJ l v2 o := fun o v1 v2 h => by
    unfold depFrJ
    refine filterMap_same fun e he => ?_
    cases hb : Region.binds .any e with
    | false => rfl
    | true => simp only [cond_true]; rw [h e he hb]
  refine ACode.drawJR n (fun listed σ vals => listed.size = l.length ∧ ∃ f, M f σ ∧ (∀ i, i < n → listed.getD i false = true → vals i = mixV S vs f i) ∧ (∀ i, S.any (fun k => Nat.beq k i) = true → listed.getD i false = (f i).isSome)) hm hB hfb
    ⟨by simp, _, h0, fun i _ h => absurd h (by rw [getD_replicate_false]; simp), fun i _ => by rw [getD_replicate_false]; rfl⟩ ?_ ?_
  · intro listed σ vals i o hi hlo hun hsz hall ⟨_, f, hMf, hv, hf⟩
    have hn : n < l.length := by
      have := hB
      simp only [drawB, Bool.and_eq_true, decide_eq_true_eq] at this
      exact this.1.1.1.1.1
    have hset : ∀ (v : FV) j, (listed.setIfInBounds i true).getD j false = if i = j then true else listed.getD j false := fun _ j => by
      by_cases e : i = j
      · subst e; simp [show i < listed.size by omega]
      · rw [getD_set_ne false e, if_neg e]
    have hlast : ∀ e ∈ o.after.toList, Region.binds .any e = true → e.on < n := fun e he hb => by
      have hB2 := hB
      simp only [drawB, Bool.and_eq_true, decide_eq_true_eq] at hB2
      have h1 := List.all_eq_true.1 hB2.2 (o, i) (by
        rw [List.mem_zipIdx_iff_getElem?]
        rw [List.getElem?_take_of_lt hi]
        simpa using hlo)
      have h2 := Array.all_eq_true_iff_forall_mem.1 h1 e (by simpa using he)
      simp only [hb, Bool.not_true, Bool.false_or, decide_eq_true_eq] at h2
      omega
    have hdj : depFrJ l vals o = depFrJ l (mixV S vs f) o := depEq o _ _ fun e he hb => hv e.on (hlast e he hb) (hall e he hb)
    rw [hdj]
    cases hS : S.any (fun k => Nat.beq k i) with
    | true =>
      have hfi : f i = none := by
        have := hf i hS
        rw [hun] at this
        cases h : f i with
        | none => rfl
        | some v => rw [h] at this; cases this
      obtain ⟨k1, k2, k3⟩ := hs f σ i o hMf hS hlo hfi fun e he hb hSe => by rw [← hf _ hSe]; exact hall e he hb
      refine ⟨k1, k2, k3.mono fun v σ' k4 => ⟨by simp [hsz], updV f i v, k4, fun j hj hlj => ?_, fun j hj => ?_⟩⟩
      · by_cases e : i = j
        · subst e
          simp [mixV, hS, updV]
        · rw [hset v, if_neg e] at hlj
          rw [updV, if_neg e, hv j hj hlj]
          simp only [mixV, updV, if_neg e]
      · rw [hset v]
        by_cases e : i = j
        · subst e; simp [updV]
        · simp only [if_neg e, updV]; exact hf j hj
    | false =>
      obtain ⟨v, q1, q2, q3, q4, q5⟩ := hq i o hi hS hlo
      have hdd : depFrJ l (mixV S vs f) o = depFr l vs o := by
        unfold depFrJ depFr
        refine filterMap_same fun e he => ?_
        cases hb : Region.binds .any e with
        | false => rfl
        | true =>
          have h1 := List.all_eq_true.1 q4 e he
          rw [hb] at h1
          simp only [Bool.not_true, Bool.false_or, Bool.not_eq_true'] at h1
          simp only [cond_true, mixV, h1, cond_false]
          rfl
      rw [hdd]
      refine ⟨q2, q3, .inl ⟨v, σ, q5 f σ hMf, by simp [hsz], f, hMf, fun j hj hlj => ?_, fun j hj => ?_⟩⟩
      · by_cases e : i = j
        · subst e
          rw [updV, if_pos rfl]; simp only [mixV, hS, cond_false]; exact q1.symm
        · rw [hset v, if_neg e] at hlj
          rw [updV, if_neg e, hv j hj hlj]
      · rw [hset v]
        by_cases e : i = j
        · subst e; rw [hS] at hj; cases hj
        · simp only [if_neg e]; exact hf j hj
  · intro σ vals ⟨_, f, hMf, hv, hf⟩
    have hn : n < l.length := by
      have := hB
      simp only [drawB, Bool.and_eq_true, decide_eq_true_eq] at this
      exact this.1.1.1.1.1
    have hl : ∀ j, j < n → (listedTo l.length n).getD j false = true := fun j hj => by
      have : j < (listedTo l.length n).size := by simp [listedTo]; omega
      simp [listedTo, show j < l.length by omega, hj]
    have heq : headFrJ vals 0 (l.take n) = headFrJ (mixV S vs f) 0 (l.take n) := by
      have : ∀ (os : List Oper) (k : Nat), k + os.length ≤ n → headFrJ vals k os = headFrJ (mixV S vs f) k os := by
        intro os
        induction os with
        | nil => intro k _; rfl
        | cons o os ih =>
          intro k hk
          simp only [List.length_cons] at hk
          simp only [headFrJ]
          rw [hv k (by omega) (hl k (by omega)), ih (k + 1) (by omega)]
      exact this _ 0 (by simp; omega)
    rw [heq]
    exact htail f σ hMf fun i hi hin => by
      rw [← hf i (List.any_eq_true.2 ⟨i, hi, beq_self i⟩)]
      exact hl i hin

end
/-- An object of which less is said. -/
theorem AOps.wkObj {E : Env} {ops : Array Oper} {l : List Oper} {K : Cont} {fr : Fr} {σ : St} (i : Id) {cs cs' : List AC} (hg : σ.get i = some (.cells cs)) (hw : ∀ (w : World) (C : Ctx) (xs : List Value), RV w C cs xs → RV w C cs' xs) (h : AOps E ops l K fr (σ.set i (.cells cs'))) : AOps E ops l K fr σ := by
  intro F w0 C0 w C tmps hgo hi hf
  obtain ⟨hok, xs, T, o1, o2, o3, o4⟩ := hi.obj i _ hg
  obtain ⟨he, hi'⟩ := hi.turn hg (g := C.blk i) rfl (w' := w) rfl (fun _ _ => rfl) (fun _ _ _ => rfl) (o' := .cells cs') rfl fun _ => ⟨xs, T, o1, o2, hw w C xs o3, o4⟩
  exact h F w0 C0 w C tmps hgo hi' hf
/-- An own array without room. -/
theorem AStep.buildOwn0 {E : Env} {o : Oper} {fr : Fr} {σ : St} {t : TypeId} {ti tj : TI} {s : Nat} (hT : TabOk E.P E.T) (ho : o.op = .buildSlice t 0 #[]) (ht : Tab.get t E.T = some ti) (hk : Nat.beq ti.kind 2 = true) (hj : Tab.get ti.elem E.T = some tj) (hs : tj.size = s) :
    AStep E o fr σ (.one (.arr (.l σ.n) s 0 0 0)) (σ.push (.cells (vec s [] 0))) := by
  intro F w C tmps hi hf next Q hk2
  have hsl := (hT t ti ht).slice (Nat.eq_of_beq_eq_true hk)
  have hsz := (hT _ _ hj).run_sizeOf w
  have hrun : (execOp (Act.eval ⟨tmps, []⟩) o).run E.P w = .ok (.value (.slice (some ⟨w.heap.size, 0, none⟩) 0 0)) (w.alloc (.cells #[] ti.elem)) := by
    unfold execOp
    simp only [ho]
    simp [Instr.buildSlice, run_underlying hsl, hsz, Instr.fill, newRow, Array.range_zero']
  obtain ⟨C', he, hno, hnp, hin, hok, hblk⟩ := hi.newObj (cs := vec s [] 0) (xs := []) (by simp [vec, RV]) ti.elem
  unfold Oper.wp
  rw [hrun, Oper.upon_value]
  exact hk2 _ _ C' ⟨Stp.alloc hi.base _ _, he, Nat.le_of_eq hno.symm, hnp⟩ hin (by simp only [RF, R]; exact ⟨hok, by rw [hblk, Nat.zero_mul], Nat.le_refl _⟩)
/-- An append of nothing. -/
theorem AStep.appNone {E : Env} {o : Oper} {fr : Fr} {σ : St} {t : TypeId} {ti tj : TI} {x y : Operand} {i : Id} {s n cap : Nat} (hT : TabOk E.P E.T) (ho : o.op = .call { callee := .builtin .append, args := #[x, y], argTypes := #[t, t] }) (ht : Tab.get t E.T = some ti) (hk : Nat.beq ti.kind 2 = true) (hj : Tab.get ti.elem E.T = some tj)
    (hx : aEval E.Γ fr x = some (.one (.arr i s 0 n cap))) (hy : aEval E.Γ fr y = some (.one (.sl s []))) : AStep E o fr σ (.one (.arr i s 0 n cap)) σ := by
  refine AStep.quiet fun F w C tmps hi hf => ?_
  have h1 := aEval_ok (a := ⟨tmps, []⟩) hi hf hx
  have h2 := aEval_ok (a := ⟨tmps, []⟩) hi hf hy
  simp only [RF, R, Nat.zero_mul] at h1 h2
  obtain ⟨hok, hv, hc⟩ := h1
  obtain ⟨a, c, hv2, _, _⟩ := h2
  have hu := (hT t ti ht).slice (Nat.eq_of_beq_eq_true hk)
  obtain ⟨i0, dd, z, g1, g2, g3, g4, g5, g6, g7, g8⟩ := (hT _ _ hj).ex
  refine ⟨.slice (some ⟨C.blk i, 0, none⟩) n cap, ?_, by simp only [RF, R, Nat.zero_mul]; exact ⟨hok, trivial, hc⟩⟩
  unfold execOp
  simp only [ho, resolve, invoke, builtin, Sem.run_bind, Sem.run_pure, Result.andThen_ok, List.map_toArray, List.map_cons, List.map_nil, hv, hv2]
  cases a with
  | none => simp [Builtin.append_, run_underlying hu, sizeOf, typeInfo, g1, Builtin.lenOf, Builtin.firstCells, hc, storeCells]
  | some a => simp [Builtin.append_, run_underlying hu, sizeOf, typeInfo, g1, Builtin.lenOf, Builtin.firstCells, hc, storeCells, loadCells, loadCellsFrom]
end Go.Abs
/- The abstract layer, part Am: a value boxed and written no more; the bits of numbers. No condition. -/
namespace Go.Abs
set_option linter.unusedVariables false
set_option linter.unusedSimpArgs false
/-- Bits. -/
def bI (v : BitVec 64) : Int := IntKind.i64.wrap v.toNat
def orI (a b : Int) : Int := bI (BitVec.ofInt 64 a ||| BitVec.ofInt 64 b)
def anI (a b : Int) : Int := bI (BitVec.ofInt 64 a &&& ~~~BitVec.ofInt 64 b)
/-- All bits of the one are bits of the other. -/
def subI (a b : Int) : Prop := BitVec.ofInt 64 a &&& ~~~BitVec.ofInt 64 b = 0#64
theorem subI.an {a b : Int} (h : subI a b) : anI a b = 0 := by
  unfold anI; rw [h]; decide
theorem bv_sub {a b : BitVec 64} : a &&& ~~~b = 0#64 ↔ a ||| b = b := by
  constructor
  · intro h
    ext i hi
    have := congrArg (fun v : BitVec 64 => v.getLsbD i) h
    simp [hi] at this ⊢
    simp only [← BitVec.getLsbD_eq_getElem] at *
    cases ha : a.getLsbD i <;> simp_all
  · intro h
    ext i hi
    have := congrArg (fun v : BitVec 64 => v.getLsbD i) h
    simp [hi] at this ⊢
    simp only [← BitVec.getLsbD_eq_getElem] at *
    cases ha : a.getLsbD i <;> simp_all
theorem subI.trans {a b c : Int} (h : subI a b) (k : subI b c) : subI a c := by
  unfold subI at *
  rw [bv_sub] at *
  rw [← k, ← BitVec.or_assoc, h]
theorem subI.zero (b : Int) : subI 0 b := by unfold subI; simp
section
variable {E : Env} {o : Oper} {fr : Fr} {σ : St}
theorem AStep.or {t yt : TypeId} {x y : Operand} {a b : Int} (ho : o.op = .binOp .or t x y yt) (hx : aEval E.Γ fr x = some (.one (.lit (.int .i64 a)))) (hy : aEval E.Γ fr y = some (.one (.lit (.int .i64 b)))) : AStep E o fr σ (.one (.lit (.int .i64 (orI a b)))) σ := by
  refine AStep.quiet fun F w C tmps hi hf => ⟨.int .i64 (orI a b), ?_, rfl, rfl⟩
  have h1 := aEval_ok (a := ⟨tmps, []⟩) hi hf hx
  have h2 := aEval_ok (a := ⟨tmps, []⟩) hi hf hy
  simp only [RF, R] at h1 h2
  unfold execOp
  simp only [ho, h1.1, h2.1, eqGuard_at_int, Sem.run_bind, Sem.run_pure, Result.andThen_ok]
  rfl
end
end Go.Abs
/- The abstract layer, part An: an own array of rows of k cells, permuted in place by a sort with a comparison. What the sort does is given. -/
namespace Go.Abs
open Go.Sort Go.Proofs
set_option linter.unusedVariables false
set_option linter.unusedSimpArgs false
set_option linter.unusedSectionVars false
section
variable {α : Type} [Inhabited α]
/-- A row of values as abstract cells. -/
def litC (enc : α → List Value) (x : α) : List AC := (enc x).map .lit
theorem flat_litC (enc : α → List Value) : ∀ l : List α, (l.map (litC enc)).flatten = (l.flatMap enc).map .lit
  | [] => rfl
  | x :: l => by simp [flat_litC enc l, litC]
theorem RV.lits {w : World} {C : Ctx} : ∀ {vs : List Value} {cs : List AC} {xs : List Value}, RV w C (vs.map .lit ++ cs) xs → xs = vs ++ xs.drop vs.length ∧ RV w C cs (xs.drop vs.length)
  | [], cs, xs, h => ⟨by simp, by simpa using h⟩
  | v :: vs, cs, xs, h => by
    simp only [List.map_cons, List.cons_append, RV] at h
    obtain ⟨u, ys, rfl, h1, h2⟩ := h
    simp only [R] at h1
    obtain ⟨h3, h4⟩ := RV.lits h2
    refine ⟨?_, by simpa using h4⟩
    simp only [List.length_cons, List.drop_succ_cons, List.cons_append]
    rw [← h3, h1.1]
theorem RV.ofLits {w : World} {C : Ctx} : ∀ (vs : List Value) {cs : List AC} {xs : List Value}, (∀ v ∈ vs, v.oneCell' = true) → RV w C cs xs → RV w C (vs.map .lit ++ cs) (vs ++ xs)
  | [], cs, xs, _, h => by simpa using h
  | v :: vs, cs, xs, ho, h => by
    simp only [List.map_cons, List.cons_append, RV]
    exact ⟨_, _, rfl, by simp only [R, true_and]; exact ho v (by simp), RV.ofLits vs (fun u hu => ho u (by simp [hu])) h⟩
theorem putCells_vals (d : List Value) (xs : List Value) (h : d.length ≤ xs.length) : putCells id 0 d.toArray xs.toArray = (d ++ xs.drop d.length).toArray := by
  apply Array.ext_getElem?
  intro k
  unfold putCells
  rw [Array.getElem?_mapIdx]
  by_cases hk : k < d.length
  · rw [List.getElem?_toArray, List.getElem?_toArray, List.getElem?_append_left (by simpa using hk)]
    have hx : k < xs.length := by omega
    simp [List.getElem?_eq_getElem hx, hk]
  · rw [List.getElem?_toArray, List.getElem?_toArray, List.getElem?_append_right (by omega)]
    rw [List.getElem?_drop, show d.length + (k - d.length) = k by omega]
    simp [hk]
theorem flatMap_len {enc : α → List Value} {k : Nat} (hk : ∀ x, (enc x).length = k) : ∀ l : List α, (l.flatMap enc).length = l.length * k
  | [] => by simp
  | x :: l => by simp only [List.flatMap_cons, List.length_append, hk, flatMap_len hk l, List.length_cons]; rw [Nat.add_mul]; omega
theorem flatMap_get {enc : α → List Value} {k : Nat} (hk : ∀ x, (enc x).length = k) : ∀ (l : List α) (t : Nat), t < l.length * k → (l.flatMap enc)[t]! = (enc l[t / k]!)[t % k]!
  | [], t, h => by simp at h
  | x :: l, t, h => by
    have k0 : 0 < k := by
      rcases Nat.eq_zero_or_pos k with h0 | h0
      · subst h0; simp at h
      · exact h0
    simp only [List.length_cons, Nat.add_mul, Nat.one_mul] at h
    rw [List.flatMap_cons]
    by_cases ht : t < k
    · rw [List.getElem!_eq_getElem?_getD, List.getElem?_append_left (by rw [hk]; exact ht), Nat.div_eq_of_lt ht, Nat.mod_eq_of_lt ht]
      simp [List.getElem!_eq_getElem?_getD]
    · have ih := flatMap_get hk l (t - k) (by omega)
      rw [List.getElem!_eq_getElem?_getD, List.getElem?_append_right (by rw [hk]; omega), hk, ← List.getElem!_eq_getElem?_getD, ih]
      have e1 : t / k = (t - k) / k + 1 := by
        rw [← Nat.add_div_right _ k0]; congr 1; omega
      have e2 : t % k = (t - k) % k := by rw [← Nat.mod_eq_sub_mod (by omega)]
      rw [e1, e2]
      simp
theorem flatK_list {enc : α → List Value} {k : Nat} (hk : ∀ x, (enc x).length = k) (d : Array α) : flatK enc k d = (d.toList.flatMap enc).toArray := by
  refine ext_get! (by simp [flatMap_len hk]) fun t ht => ?_
  have ht' : t < d.size * k := by simpa using ht
  rw [get_flatK _ _ _ _ ht']
  have := flatMap_get hk d.toList t (by simpa using ht')
  simp only [List.getElem!_toArray]
  rw [this]
  have e : d.toList[t / k]! = d[t / k]! := by simp [Array.getElem!_eq_getD, List.getElem!_eq_getElem?_getD]
  rw [e]
/-- The sort of an own array by a comparison: some permutation. -/
theorem AOps.sortK {E : Env} {ops : Array Oper} {rest : List Oper} {o : Oper} {K : Cont} {fr : Fr} {σ : St} {d : Nat} {f : Operand} {args : Array Operand} {tys : Array TypeId} {g g' : Nat} {i : Id} {l : List α} {cap : Nat} {enc : α → List Value} {k : Nat} (hk : ∀ x, (enc x).length = k) (h1c : ∀ x, ∀ v ∈ enc x, v.oneCell' = true)
    (hgd : o.guard = none) (hdst : o.dst = some d) (hd : Nat.ble (d + 1) E.N = true)
    (ho : o.op = .call { callee := .value f, args := args, argTypes := tys }) (hf : aEval E.Γ fr f = some (.one (.fn (.func g) [] []))) (hargs : aEvals E.Γ fr args.toList = some [.one (.arr i k 0 l.length cap), .one (.fn (.func g') [] [])])
    (hcf : ∀ us (w : World), (callFunc g us).run E.P w = .ok (.enter g us) w)
    (hc : ∀ (blk cap : Nat) (d : Array α) (w : World), HoldsK enc k w blk 0 d → blk < w.heap.size → d.size < 4611686018427387904 → Calls E.P g #[.slice (some ⟨blk, 0, none⟩) d.size cap, .func (.func g') #[] #[]] w fun e w' =>
      e = .returned (.tuple #[]) ∧ ∃ (d' : Array α) (n : Nat) (os : Array Obj), PermIn 0 d.size d d' ∧ w' = sortWorldK enc k w blk 0 n d' os)
    (hg : σ.get i = some (.cells (vec k (l.map (litC enc)) cap))) (hlen : l.length < 4611686018427387904)
    (h : ∀ l' : List α, l'.Perm l → AOps E ops rest K ((d, .tup []) :: fr) (σ.set i (.cells (vec k (l'.map (litC enc)) cap)))) : AOps E ops (o :: rest) K fr σ := by
  intro F w0 C0 w C tmps hgo hi hfr
  refine wpList_plain hgd fun N' hN => ?_
  have hcallee := aEval_ok (a := ⟨tmps, []⟩) hi hfr hf
  simp only [RF, R] at hcallee
  obtain ⟨xs, ys, hfv, hx, hy⟩ := hcallee
  simp only [RV] at hx hy
  subst hx; subst hy
  have hvs := aEvals_ok (a := ⟨tmps, []⟩) hi hfr hargs
  simp only [RFs, RF, R] at hvs
  obtain ⟨v, us, hv, ⟨hok, hv2, hcapl⟩, v', us', hus, ⟨xs', ys', hv3, hx', hy'⟩, hus'⟩ := hvs
  simp only [RV] at hx' hy'
  subst hx'; subst hy'
  subst hus'; subst hus
  rw [hv2, hv3] at hv
  simp only [Nat.zero_mul] at hv
  obtain ⟨hok', zs, T, b1, b2, b3, b4⟩ := hi.obj i _ hg
  have hzs := b3
  unfold vec at hzs
  rw [flat_litC] at hzs
  obtain ⟨hz1, hz2⟩ := RV.lits hzs
  have hfl : (l.flatMap enc).length = l.length * k := flatMap_len hk l
  have hzl : (l.flatMap enc).length ≤ zs.length := by rw [hz1]; simp
  have hcell : ∀ j : Nat, w.cell? ⟨C.blk i, j, none⟩ = zs[j]? := fun j => by rw [cell_of_row _ _ _ _ _ _ b1]; simp
  have hH : HoldsK enc k w (C.blk i) 0 l.toArray := by
    unfold HoldsK
    rw [flatK_list hk]
    intro j hj
    have hj' : j < (l.flatMap enc).length := by simpa using hj
    refine ⟨?_, ?_⟩
    · rw [Nat.zero_add, hcell, hz1, List.getElem?_append_left hj']
      simp only [List.getElem!_toArray, id]
      rw [List.getElem?_eq_getElem hj', getElem!_pos _ j hj']
    · simp [World.frozen?, b1]
  have hblk : C.blk i < w.heap.size := lt_of_heap b1
  have hrun : (execOp (Act.eval ⟨tmps, []⟩) o).run E.P w = .ok (.enter g #[.slice (some ⟨C.blk i, 0, none⟩) l.length cap, .func (.func g') #[] #[]]) w := by
    unfold execOp
    simp only [ho, resolve, Sem.run_bind, hfv, Deferred.ofValue, Sem.run_pure, Result.andThen_ok, invoke, hcf]
    congr 2
    apply Array.ext'
    simpa using hv
  unfold Oper.wp
  rw [hrun, Oper.upon_enter]
  refine (hc (C.blk i) cap l.toArray w hH hblk (by simpa using hlen)).mono fun e w' ⟨he, d', n, os, hp, hw'⟩ => ?_
  subst he
  subst hw'
  obtain ⟨p1, _, p3⟩ := hp
  have hperm : d'.toList.Perm l := by
    have e1 : d'.extract 0 l.toArray.size = d' := by rw [← p1]; simp
    have e2 : l.toArray.extract 0 l.toArray.size = l.toArray := by simp
    rw [e1, e2] at p3
    simpa using p3
  obtain ⟨l', hl'⟩ : ∃ l', l' = d'.toList := ⟨_, rfl⟩
  replace h := h l' (hl' ▸ hperm)
  have hll : l'.length = l.length := by rw [hl']; exact hperm.length_eq
  unfold sortWorldK putRowK
  rw [flatK_list hk, ← hl']
  have hfl' : (l'.flatMap enc).length = (l.flatMap enc).length := by rw [flatMap_len hk, flatMap_len hk, hll]
  have hsz : (putRow id (Sort.ahead w n) (C.blk i) 0 (l'.flatMap enc).toArray).heap.size = w.heap.size := by simp [Sort.ahead]
  have hoth : ∀ k, k ≠ C.blk i → (putRow id (Sort.ahead w n) (C.blk i) 0 (l'.flatMap enc).toArray).heap[k]? = w.heap[k]? := fun k hk => by
    unfold putRow mapBlock
    show (w.heap.modify _ _)[k]? = _
    rw [Array.getElem?_modify, if_neg (Ne.symm hk)]
  have hat : (putRow id (Sort.ahead w n) (C.blk i) 0 (l'.flatMap enc).toArray).heap[C.blk i]? = some (.cells (l'.flatMap enc ++ zs.drop (l.flatMap enc).length).toArray T (0, 0)) := by
    unfold putRow mapBlock
    show (w.heap.modify _ _)[C.blk i]? = _
    rw [Array.getElem?_modify, if_pos rfl, b1]
    simp only [Option.map_some, onCells]
    rw [putCells_vals (l'.flatMap enc) zs (by omega), hfl']
  have hone : ∀ v ∈ l'.flatMap enc, v.oneCell' = true := fun v hv => by
    obtain ⟨x, _, hx⟩ := List.mem_flatMap.1 hv
    exact h1c x v hx
  obtain ⟨he1, hi1⟩ := hi.turn (o' := .cells (vec k (l'.map (litC enc)) cap)) hg (show AObj.block C i (.cells _) = some (C.blk i) from rfl) hsz hoth (fun a ha hp => absurd hp (b4 a ha)) rfl fun he => by
    refine ⟨_, T, hat, b2, ?_, b4⟩
    unfold vec
    rw [flat_litC]
    have hcl : (l'.map (litC enc)).length = (l.map (litC enc)).length := by simp [hll]
    rw [hcl]
    exact RV.ofLits _ hone (hz2.ext he)
  have hsz2 : (putRow id (Sort.ahead w n) (C.blk i) 0 (l'.flatMap enc).toArray).heap.size ≤ (grow (putRow id (Sort.ahead w n) (C.blk i) 0 (l'.flatMap enc).toArray) os).heap.size := by simp [grow]
  have hold : ∀ k, k < (putRow id (Sort.ahead w n) (C.blk i) 0 (l'.flatMap enc).toArray).heap.size → (grow (putRow id (Sort.ahead w n) (C.blk i) 0 (l'.flatMap enc).toArray) os).heap[k]? = (putRow id (Sort.ahead w n) (C.blk i) 0 (l'.flatMap enc).toArray).heap[k]? := fun k hk => by
    show (_ ++ os)[k]? = _
    rw [Array.getElem?_append_left hk]
  obtain ⟨he2, hi2⟩ := hi1.grown hsz2 hold
  have hstp : Stp F w (grow (putRow id (Sort.ahead w n) (C.blk i) 0 (l'.flatMap enc).toArray) os) := by
    refine ⟨rfl, rfl, rfl, by rw [← hsz]; exact hsz2, fun k hk => ?_, fun a ha => ?_⟩
    · have hk2 := hi.base k hk
      rw [hold k (by rw [hsz]; exact hk2), hoth k (fun e => b2 (e ▸ hk))]
    · have h1 : World.frozen? (grow (putRow id (Sort.ahead w n) (C.blk i) 0 (l'.flatMap enc).toArray) os) a = World.frozen? (putRow id (Sort.ahead w n) (C.blk i) 0 (l'.flatMap enc).toArray) a := by
        unfold World.frozen?
        rw [hold a.block (by rw [hsz]; exact ha)]
      rw [h1, frozen?_putRow]; rfl
  refine hN _ _ ?_
  rw [put_eta]
  have hext := he1.trans he2
  rw [hdst]
  exact h F w0 C0 _ C _ (hgo.trans ⟨hstp, hext.weaken (fun _ _ => trivial), Nat.le_refl _, NewP.refl _ _⟩) hi2 (putFr_ok (dst := some d) (hfr.ext hext) hd (by simp only [RF, RFs]; exact ⟨[], rfl, rfl⟩))
end
end Go.Abs
/- The abstract layer, part Ao: a list that grows in an own array, or is none yet. No condition. -/
namespace Go.Abs
set_option linter.unusedVariables false
set_option linter.unusedSimpArgs false
def oaC (k s : Nat) (es : List (List AC)) : Option Nat → AC
  | none => .lit (.slice none 0 0)
  | some cap => .arr (.l k) s 0 es.length cap
def oaO (s : Nat) (es : List (List AC)) : Option Nat → AObj
  | none => .dead
  | some cap => .cells (vec s es cap)
def coO (es : List (List AC)) : Option Nat → Prop
  | none => es = []
  | some cap => es.length ≤ cap
section
variable {E : Env} {ops : Array Oper} {l rest : List Oper} {K : Cont} {fr : Fr} {σ : St}
theorem Inv.ghost {Γ : List (Nat × List AC)} {F : Nat → Prop} {w : World} {C : Ctx} (hi : Inv Γ F w C σ) : ∃ C', Ext w C w C' ∧ C'.no = C.no ∧ (∀ a, C'.prot a ↔ C.prot a) ∧ Inv Γ F w C' (σ.push .dead) := by
  have hn := Ctx.more_new C 0 none hi.next
  have he : Ext w C w (C.more 0 none) := ⟨fun _ _ => rfl, fun _ h => h, fun i _ hok => Ctx.more_old C 0 none hok⟩
  refine ⟨C.more 0 none, he, rfl, fun a => Iff.rfl, ?_⟩
  refine hi.addObj (o := .dead) (d := .l σ.n) (fun i => St.get_push σ _ i) he ?_ hi.base hi.prot (fun _ _ _ _ _ _ h => h) (fun _ _ _ _ _ _ h => h) hn.1 trivial (fun _ _ _ _ _ h => by cases h)
  show C.nl + 1 = σ.n + 1
  rw [hi.next]
/-- A name for an object that is not there yet. -/
theorem AOps.ghost (h : AOps E ops l K fr (σ.push .dead)) : AOps E ops l K fr σ := by
  intro F w0 C0 w C tmps hg hi hf
  obtain ⟨C', h1, h2, h3, h4⟩ := hi.ghost
  exact h F w0 C0 w C' tmps (hg.trans ⟨Stp.refl _ _, h1.weaken (fun _ _ => trivial), by rw [h2]; exact Nat.le_refl _, fun a ha => .inl ((h3 a).1 ha)⟩) h4 (hf.ext h1)
theorem ACode.ghost {c : Code} (h : ACode E c K fr (σ.push .dead)) : ACode E c K fr σ := by
  intro F w0 C0 w C tmps hg hi hf
  obtain ⟨C', h1, h2, h3, h4⟩ := hi.ghost
  exact h F w0 C0 w C' tmps (hg.trans ⟨Stp.refl _ _, h1.weaken (fun _ _ => trivial), by rw [h2]; exact Nat.le_refl _, fun a ha => .inl ((h3 a).1 ha)⟩) h4 (hf.ext h1)
theorem AOps.appG {o : Oper} {dd : Nat} {t : TypeId} {ti tj : TI} {x y : Operand} {d : AC} {s k : Nat} {es news : List (List AC)} {oc : Option Nat} (hT : TabOk E.P E.T) (hgd : o.guard = none) (hdst : o.dst = some dd) (hdd : Nat.ble (dd + 1) E.N = true)
    (ho : o.op = .call { callee := .builtin .append, args := #[x, y], argTypes := #[t, t] }) (ht : Tab.get t E.T = some ti) (hk : Nat.beq ti.kind 2 = true) (hj : Tab.get ti.elem E.T = some tj) (hx : aEval E.Γ fr x = some (.one (oaC k s es oc))) (hy : aEval E.Γ fr y = some (.one d))
    (hg : σ.get (.l k) = some (oaO s es oc)) (hco : coO es oc) (hl : ∀ x ∈ es, x.length = s) (hsrc : Src d s news) (hne : news ≠ [])
    (hs : Nat.beq tj.size s = true) (hbytes : (es.length + news.length) * tj.bytes ≤ 140737488355328) (h63 : es.length + news.length ≤ 140737488355328)
    (h : ∀ cap, (es ++ news).length ≤ cap → AOps E ops rest K ((dd, .one (oaC σ.n s (es ++ news) (some cap))) :: fr) ((σ.set (.l k) .dead).push (oaO s (es ++ news) (some cap)))) : AOps E ops (o :: rest) K fr σ := by
  cases oc with
  | none =>
    simp only [coO] at hco
    subst hco
    refine AOps.appOwn hT hgd hdst hdd ho ht hk hj hx hy (.nil s) hsrc hne hs hbytes h63 fun cap hc => ?_
    refine AOps.lessO ((σ.set (.l k) .dead).push (oaO s ([] ++ news) (some cap))) rfl (fun i q hq => ?_) (h cap hc)
    rw [St.get_push] at hq ⊢
    split
    · rename_i e
      rw [if_pos (by rw [e]; rfl)] at hq
      exact hq
    · rename_i e
      rw [if_neg (by intro e2; exact e e2)] at hq
      by_cases e3 : (Id.l k) = i
      · subst e3
        rw [St.get_set_same] at hq
        rw [hg, ← hq]; rfl
      · rw [St.get_set_ne _ e3] at hq; exact hq
  | some cap =>
    exact AOps.appOwn hT hgd hdst hdd ho ht hk hj hx hy (.own s cap es (.l k) hg hl hco) hsrc hne hs hbytes h63 h
end
theorem letsOut_mono {Q Q' : Exit → Act → World → Prop} (hq : ∀ e a w, Q e a w → Q' e a w) (h : LetsOut Q) : LetsOut Q' := let ⟨a, w, h⟩ := h; ⟨a, w, hq _ _ _ h⟩
theorem oper_mono {P : Program} {Q Q' : Exit → Act → World → Prop} (hq : ∀ e a w, Q e a w → Q' e a w) {o : Oper} {a : Act} {w : World} {K K' : Act → World → Prop} (h : ∀ a w, K a w → K' a w) (hh : o.wp P a w K Q) : o.wp P a w K' Q' := by
  unfold Oper.wp at *
  generalize (execOp a.eval o).run P w = r at *
  cases r with
  | ok n w' =>
    cases n with
    | value v => exact h _ _ hh
    | skip => exact h _ _ hh
    | defer d => exact h _ _ hh
    | enter f args =>
      exact Calls.mono hh (fun e w'' he => by
        cases e with
        | returned v => exact h _ _ he
        | panicked c => exact hq _ _ _ he
        | outgrown => exact letsOut_mono hq he)
    | row row args => exact Rows.mono hh (fun _ _ he => h _ _ he)
    | _ => exact absurd hh (by simp only [Oper.upon]; exact id)
  | halt x w' => cases x <;> simp only [Oper.upon] at hh ⊢ <;> first | exact hq _ _ _ hh | exact hh
theorem wpList_mono {P : Program} {ops : Array Oper} {Q Q' : Exit → Act → World → Prop} (hq : ∀ e a w, Q e a w → Q' e a w) : ∀ {l : List Oper} {a : Act} {w : World}, wpList P ops Q l a w → wpList P ops Q' l a w
  | [], a, w, h => hq _ _ _ h
  | o :: rest, a, w, h => by
    simp only [wpList] at h ⊢
    split
    · rename_i hw
      rw [if_pos hw] at h
      rcases h with h | ⟨h1, h2⟩
      · exact .inl (oper_mono hq (fun a w h => wpList_mono hq h) h)
      · exact .inr ⟨h1, letsOut_mono hq h2⟩
    · rename_i hw
      rw [if_neg hw] at h
      exact wpList_mono hq h
theorem AOps.monoK {E : Env} {ops : Array Oper} {l : List Oper} {K K' : Cont} {fr : Fr} {σ : St} (h : AOps E ops l K fr σ) (hk : ∀ e fr σ, K e fr σ → K' e fr σ) : AOps E ops l K' fr σ := by
  intro F w0 C0 w C tmps hg hi hf
  refine wpList_mono (fun e act w' hp => ?_) (h F w0 C0 w C tmps hg hi hf)
  obtain ⟨hd, fr2, σ2, C2, h1, h2, h3, h4⟩ := hp
  exact ⟨hd, fr2, σ2, C2, h1, h2, h3, hk _ _ _ h4⟩
theorem contOf_mono {E : Env} {Fin : Fr → St → Prop} {k k' : List AItem} (h : ∀ e fr σ, contOf E Fin k e fr σ → contOf E Fin k' e fr σ) : ∀ (pre : List AItem) (e : Exit) (fr : Fr) (σ : St), contOf E Fin (pre ++ k) e fr σ → contOf E Fin (pre ++ k') e fr σ
  | [], e, fr, σ, hc => h e fr σ hc
  | .code c :: pre, e, fr, σ, hc => by
    cases e with
    | normal => exact ACode.monoK (show ACode E c (contOf E Fin (pre ++ k)) fr σ from hc) (contOf_mono h pre)
    | _ => exact contOf_mono h pre _ fr σ hc
  | .blk id :: pre, e, fr, σ, hc => by
    cases e with
    | normal => exact contOf_mono h pre _ fr σ hc
    | exit j =>
      simp only [List.cons_append, contOf] at hc ⊢
      cases hb : Nat.beq j id with
      | true => rw [hb] at hc; exact contOf_mono h pre _ fr σ hc
      | false => rw [hb] at hc; exact contOf_mono h pre _ fr σ hc
    | _ => exact contOf_mono h pre _ fr σ hc
  | .inv J :: pre, e, fr, σ, hc => by
    cases e with
    | normal => exact hc
    | _ => exact contOf_mono h pre _ fr σ hc
section
variable {E : Env} {ops : Array Oper} {l : List Oper} {x y : Code} {Fin : Fr → St → Prop} {k : List AItem} {α : Type} {fr : Fr} {σ : St}
theorem cutP_step (hΓ : ∀ g cs, (g, cs) ∈ E.Γ → idsL isO cs) {frI : α → Fr} {σI : α → St} {I : α → Prop} (hy : ∀ a, I a → ACode E y (contOf E Fin k) (frI a) (σI a)) (e : Exit) (fr : Fr) (σ : St)
    (h : contOf E Fin (.inv (fun fr' σ' => ∃ a ρ, I a ∧ LessR ρ fr' σ' (frI a) (σI a)) :: k) e fr σ) : contOf E Fin (.code y :: k) e fr σ := by
  cases e with
  | normal =>
    obtain ⟨a, ρ, ha, hl⟩ := h
    exact ACode.lessR hΓ hl (hy a ha)
  | _ => exact h
/-- WAYS THAT MEET behind some items: the states there are given by 'α'. -/
theorem AOps.cutP (pre : List AItem) (hΓ : ∀ g cs, (g, cs) ∈ E.Γ → idsL isO cs) (frI : α → Fr) (σI : α → St) (I : α → Prop)
    (hx : AOps E ops l (contOf E Fin (pre ++ .inv (fun fr' σ' => ∃ a ρ, I a ∧ LessR ρ fr' σ' (frI a) (σI a)) :: k)) fr σ) (hy : ∀ a, I a → ACode E y (contOf E Fin k) (frI a) (σI a)) : AOps E ops l (contOf E Fin (pre ++ .code y :: k)) fr σ :=
  AOps.monoK hx (contOf_mono (cutP_step hΓ hy) pre)
theorem ACode.cutP (pre : List AItem) (hΓ : ∀ g cs, (g, cs) ∈ E.Γ → idsL isO cs) (frI : α → Fr) (σI : α → St) (I : α → Prop)
    (hx : ACode E x (contOf E Fin (pre ++ .inv (fun fr' σ' => ∃ a ρ, I a ∧ LessR ρ fr' σ' (frI a) (σI a)) :: k)) fr σ) (hy : ∀ a, I a → ACode E y (contOf E Fin k) (frI a) (σI a)) : ACode E x (contOf E Fin (pre ++ .code y :: k)) fr σ :=
  ACode.monoK hx (contOf_mono (cutP_step hΓ hy) pre)
/-- .. behind n items. -/
theorem AOps.cutN {its : List AItem} (n : Nat) (hn : its.drop n = .code y :: k) (hΓ : ∀ g cs, (g, cs) ∈ E.Γ → idsL isO cs) (frI : α → Fr) (σI : α → St) (I : α → Prop)
    (hx : AOps E ops l (contOf E Fin (its.take n ++ .inv (fun fr' σ' => ∃ a ρ, I a ∧ LessR ρ fr' σ' (frI a) (σI a)) :: k)) fr σ) (hy : ∀ a, I a → ACode E y (contOf E Fin k) (frI a) (σI a)) : AOps E ops l (contOf E Fin its) fr σ := by
  have h := AOps.cutP (its.take n) hΓ frI σI I hx hy
  rwa [← hn, List.take_append_drop] at h
theorem ACode.cutN {its : List AItem} (n : Nat) (hn : its.drop n = .code y :: k) (hΓ : ∀ g cs, (g, cs) ∈ E.Γ → idsL isO cs) (frI : α → Fr) (σI : α → St) (I : α → Prop)
    (hx : ACode E x (contOf E Fin (its.take n ++ .inv (fun fr' σ' => ∃ a ρ, I a ∧ LessR ρ fr' σ' (frI a) (σI a)) :: k)) fr σ) (hy : ∀ a, I a → ACode E y (contOf E Fin k) (frI a) (σI a)) : ACode E x (contOf E Fin its) fr σ := by
  have h := ACode.cutP (its.take n) hΓ frI σI I hx hy
  rwa [← hn, List.take_append_drop] at h
end
@[simp] theorem ren_oaC (ρ : Nat → Nat) (k s : Nat) (es : List (List AC)) (oc : Option Nat) : (oaC k s es oc).ren ρ = oaC (ρ k) s es oc := by cases oc <;> rfl
theorem ren_oaO (ρ : Nat → Nat) (s : Nat) (es : List (List AC)) (oc : Option Nat) (h : ∀ cap, idsL isO (vec s es cap)) : (oaO s es oc).ren ρ = oaO s es oc := by
  cases oc with
  | none => rfl
  | some cap => exact AObj.ren_pure ρ (.cells (vec s es cap)) (h cap)
@[simp] theorem ids_oaC (n k s : Nat) (es : List (List AC)) (oc : Option Nat) : (oaC k s es oc).ids (inL n) ↔ (oc = none ∨ inL n (.l k)) := by cases oc <;> simp [oaC, AC.ids]
theorem ids_vec {p : Id → Prop} {s cap : Nat} {es : List (List AC)} (h : idsS p es) : idsL p (vec s es cap) := by
  unfold vec
  refine idsL_iff.2 fun c hc => ?_
  rcases List.mem_append.1 hc with hc | hc
  · obtain ⟨e, he, hc⟩ := List.mem_flatten.1 hc
    exact idsL_iff.1 (idsS_iff.1 h e he) c hc
  · rw [List.mem_replicate] at hc
    rw [hc.2]; trivial
theorem ids_oaO {p : Id → Prop} {s : Nat} {es : List (List AC)} {oc : Option Nat} (h : idsS p es) : (oaO s es oc).ids p := by
  cases oc with
  | none => trivial
  | some cap => exact ids_vec h
theorem FrSub.oa {ρ : Nat → Nat} {fr r : Fr} {d k k' s : Nat} {es : List (List AC)} {oc : Option Nat} (h : Fr.get d fr = some (.one (oaC k' s es oc))) (hk : k' = ρ k) (hr : FrSub ρ fr r) : FrSub ρ fr ((d, .one (oaC k s es oc)) :: r) :=
  FrSub.cons h (.ofEq (by subst hk; simp only [FV.ren, ren_oaC])) hr
/-- A call whose contract leaves the world as it is. -/
theorem AOps.callNo2 {E : Env} {ops : Array Oper} {rest : List Oper} {o : Oper} {K : Cont} {fr : Fr} {σ : St} {d : Nat} {f : Operand} {args : Array Operand} {tys : Array TypeId} {g : Nat} {u : Value} {q : Fn} (hgd : o.guard = none) (hdst : o.dst = some d) (hd : Nat.ble (d + 1) E.N = true)
    (ho : o.op = .call { callee := .value f, args := args, argTypes := tys }) (hf : aEval E.Γ fr f = some (.one (.fn (.func g) [] []))) (hargs : aEvals E.Γ fr args.toList = some [.one (.lit u), .one (.fn q [] [])])
    (hcf : ∀ us (w : World), (callFunc g us).run E.P w = .ok (.enter g us) w) (hc : ∀ w : World, Calls E.P g #[u, .func q #[] #[]] w fun e w' => e = .returned (.tuple #[]) ∧ w' = w)
    (h : AOps E ops rest K ((d, .tup []) :: fr) σ) : AOps E ops (o :: rest) K fr σ := by
  intro F w0 C0 w C tmps hgo hi hfr
  refine wpList_plain hgd fun N' hN => ?_
  have hcallee := aEval_ok (a := ⟨tmps, []⟩) hi hfr hf
  simp only [RF, R] at hcallee
  obtain ⟨xs, ys, hfv, hx, hy⟩ := hcallee
  simp only [RV] at hx hy
  subst hx; subst hy
  have hvs := aEvals_ok (a := ⟨tmps, []⟩) hi hfr hargs
  simp only [RFs, RF, R] at hvs
  obtain ⟨v, us, hv, ⟨hv2, _⟩, v', us', hus, ⟨xs', ys', hv3, hx', hy'⟩, hus'⟩ := hvs
  simp only [RV] at hx' hy'
  subst hx'; subst hy'
  subst hus'; subst hus
  rw [hv2, hv3] at hv
  have hrun : (execOp (Act.eval ⟨tmps, []⟩) o).run E.P w = .ok (.enter g #[u, .func q #[] #[]]) w := by
    unfold execOp
    simp only [ho, resolve, Sem.run_bind, hfv, Deferred.ofValue, Sem.run_pure, Result.andThen_ok, invoke, hcf]
    congr 2
    apply Array.ext'
    simpa using hv
  unfold Oper.wp
  rw [hrun, Oper.upon_enter]
  refine (hc w).mono fun e w' ⟨he, hw'⟩ => ?_
  subst he
  subst hw'
  refine hN _ _ ?_
  rw [put_eta]
  rw [hdst]
  exact h F w0 C0 w' C _ hgo hi (putFr_ok (dst := some d) hfr hd (by simp only [RF, RFs]; exact ⟨[], rfl, rfl⟩))
end Go.Abs
/- The abstract layer, part Ap: several own objects of this activation take names among the outer ones. No condition. -/
namespace Go.Abs
set_option linter.unusedVariables false
set_option linter.unusedSimpArgs false
section
variable {θ : Id → Id}
mutual
theorem AC.sub_f (hθ : ∀ i : Id, isO i → θ i = i) : ∀ c : AC, c.ids isO → c.sub θ = c
  | .lit _, _ => rfl
  | .any, _ => rfl
  | .sl s es, h => by simp only [AC.ids] at h; simp only [AC.sub]; rw [subS_f hθ es h]
  | .box cs, h => by simp only [AC.ids] at h; simp only [AC.sub]; rw [subL_f hθ cs h]
  | .ptr i off, h => by simp only [AC.ids] at h; simp only [AC.sub]; rw [hθ i h]
  | .gs s es i, h => by simp only [AC.ids] at h; simp only [AC.sub]; rw [hθ i h.1, subS_f hθ es h.2]
  | .arr i s off len cap, h => by simp only [AC.ids] at h; simp only [AC.sub]; rw [hθ i h]
  | .mp i, h => by simp only [AC.ids] at h; simp only [AC.sub]; rw [hθ i h]
  | .fn f a b, h => by simp only [AC.ids] at h; simp only [AC.sub]; rw [subL_f hθ a h.1, subL_f hθ b h.2]
  | .ifc t ag cs, h => by simp only [AC.ids] at h; simp only [AC.sub]; rw [subL_f hθ cs h]
theorem subS_f (hθ : ∀ i : Id, isO i → θ i = i) : ∀ es : List (List AC), idsS isO es → subS θ es = es
  | [], _ => rfl
  | e :: es, h => by simp only [idsS] at h; simp only [subS]; rw [subL_f hθ e h.1, subS_f hθ es h.2]
theorem subL_f (hθ : ∀ i : Id, isO i → θ i = i) : ∀ cs : List AC, idsL isO cs → subL θ cs = cs
  | [], _ => rfl
  | c :: cs, h => by simp only [idsL] at h; simp only [subL]; rw [AC.sub_f hθ c h.1, subL_f hθ cs h.2]
end
mutual
theorem FV.sub_f (hθ : ∀ i : Id, isO i → θ i = i) : ∀ x : FV, x.ids isO → x.sub θ = x
  | .bot, _ => rfl
  | .one c, h => by simp only [FV.ids] at h; simp only [FV.sub]; rw [AC.sub_f hθ c h]
  | .agg cs, h => by simp only [FV.ids] at h; simp only [FV.sub]; rw [subL_f hθ cs h]
  | .tup vs, h => by simp only [FV.ids] at h; simp only [FV.sub]; rw [subF_f hθ vs h]
theorem subF_f (hθ : ∀ i : Id, isO i → θ i = i) : ∀ vs : List FV, idsF isO vs → subF θ vs = vs
  | [], _ => rfl
  | v :: vs, h => by simp only [idsF] at h; simp only [subF]; rw [FV.sub_f hθ v h.1, subF_f hθ vs h.2]
end
theorem AObj.sub_f (hθ : ∀ i : Id, isO i → θ i = i) (o : AObj) (h : o.ids isO) : o.sub θ = o := by
  cases o with
  | cells cs => simp only [AObj.sub]; rw [subL_f hθ cs h]
  | map ck es =>
    simp only [AObj.sub]
    congr 1
    rw [List.map_congr_left (g := id), List.map_id]
    intro x hx
    have := h x hx
    obtain ⟨a, b, c⟩ := x
    simp only [FV.sub_f hθ c this, id]
  | iter m a b d => simp only [AObj.sub]; rw [hθ m h]
  | sit s q => rfl
  | tok e s u => rfl
  | dead => rfl
end
def posOf (i : Nat) : List Nat → Option Nat
  | [] => none
  | j :: r => bif Nat.beq i j then some 0 else match posOf i r with | some p => some (p + 1) | none => none
theorem posOf_some : ∀ {js : List Nat} {i p : Nat}, posOf i js = some p → js[p]? = some i
  | [], i, p, h => by cases h
  | j :: r, i, p, h => by
    simp only [posOf] at h
    by_cases e : i = j
    · subst e
      simp at h; subst h; rfl
    · rw [beq_no e] at h
      cases hr : posOf i r with
      | none => rw [hr] at h; cases h
      | some q =>
        rw [hr] at h
        simp at h; subst h
        simpa using posOf_some hr
/-- Local names js become the outer names from k on. -/
def toOs (js : List Nat) (k : Nat) : Id → Id
  | .l i => match posOf i js with | some p => .o (k + p) | none => .l i
  | .o i => .o i
structure CedN (θ : Id → Id) (fr : Fr) (σ : St) (fr' : Fr) (σ' : St) : Prop where
  fr : ∀ d x, Fr.get d fr' = some x → ∃ y, Fr.get d fr = some y ∧ WkF (y.sub θ) x
  n : σ'.n = σ.n
  obj : ∀ i x, σ'.get i = some x → ∃ i0 y, σ.get i0 = some y ∧ θ i0 = i ∧ x = y.sub θ
theorem AOps.cedeN {E : Env} {ops : Array Oper} {rest : List Oper} {K : Cont} {fr : Fr} {σ : St} (js : List Nat) (hj : ∀ j ∈ js, j < σ.n) (h : ∀ k, (∀ m, k ≤ m → σ.ou m = none) → ∃ fr' σ', CedN (toOs js k) fr σ fr' σ' ∧ AOps E ops rest K fr' σ') : AOps E ops rest K fr σ := by
  intro F w0 C0 w C tmps hg hi hf
  have hnone : ∀ m, C.no ≤ m → σ.ou m = none := fun m hm => by
    cases hx : σ.ou m with
    | none => rfl
    | some x =>
      have : m < C.no := (hi.obj (.o m) x hx).1
      omega
  obtain ⟨fr', σ', hc, h⟩ := h _ hnone
  let C2 : Ctx := { C with no := C.no + js.length, phi := fun i => match i with | .o m => if m < C.no then C.phi (.o m) else (match js[m - C.no]? with | some j => C.phi (.l j) | none => C.phi (.o m)) | .l m => C.phi (.l m), tk := fun i => match i with | .o m => if m < C.no then C.tk (.o m) else (match js[m - C.no]? with | some j => C.tk (.l j) | none => C.tk (.o m)) | .l m => C.tk (.l m) }
  have hx : Ext w C w C2 := ⟨fun _ _ => rfl, fun _ h => h, fun i _ ho => by
    cases i with
    | l m => exact ⟨ho, rfl, rfl⟩
    | o m =>
      have hm : m < C.no := ho
      refine ⟨Nat.lt_of_lt_of_le hm (Nat.le_add_right _ _), ?_, ?_⟩
      · show (if m < C.no then _ else _) = _; rw [if_pos hm]; rfl
      · show (if m < C.no then _ else _) = _; rw [if_pos hm]; rfl⟩
  have hb : Bus (toOs js C.no) (fun _ => True) w C2 C := ⟨fun _ h => h, fun i _ ho => by
    cases i with
    | o m => exact hx.id (.o m) trivial ho
    | l m =>
      simp only [toOs]
      cases hp : posOf m js with
      | none => exact ⟨ho, rfl, rfl⟩
      | some p =>
        have hjp := posOf_some hp
        have hlt : p < js.length := (List.getElem?_eq_some_iff.1 hjp).1
        refine ⟨Nat.add_lt_add_left hlt _, ?_, ?_⟩
        · show (if C.no + p < C.no then _ else _) = _
          rw [if_neg (by omega), Nat.add_sub_cancel_left, hjp]; rfl
        · show (if C.no + p < C.no then _ else _) = _
          rw [if_neg (by omega), Nat.add_sub_cancel_left, hjp]; rfl⟩
  have hok : ∀ i0 y, σ.get i0 = some y → C.ok i0 := fun i0 y hy => (hi.obj i0 y hy).1
  have hi' : Inv E.Γ F w C2 σ' := by
    refine ⟨hi.base, by rw [hc.n]; exact hi.next, fun g cs hm => (hi.glob g cs hm).ext hx, hi.prot, fun i x hxx => ?_, fun i1 i2 x1 x2 g h1 h2 h3 h4 => ?_⟩
    · obtain ⟨i0, y, hy, rfl, rfl⟩ := hc.obj i x hxx
      obtain ⟨k1, k2⟩ := hi.obj i0 y hy
      exact ⟨(hb.id i0 trivial k1).1, ObjOk.bus hb (AObj.ids_all y) trivial k1 (fun _ h => h) k2⟩
    · obtain ⟨a, y, hy, rfl, rfl⟩ := hc.obj i1 x1 h1
      obtain ⟨b, z, hz, rfl, rfl⟩ := hc.obj i2 x2 h2
      rw [AObj.block_bus hb trivial (hok a y hy)] at h3
      rw [AObj.block_bus hb trivial (hok b z hz)] at h4
      rw [hi.inj a b y z g hy hz h3 h4]
  refine h F w0 C0 w C2 tmps (hg.trans ⟨Stp.refl _ _, hx.weaken (fun _ _ => trivial), Nat.le_add_right _ _, NewP.refl _ _⟩) hi' ⟨hf.1, fun d x hd => ?_⟩
  obtain ⟨y, hy, hw⟩ := hc.fr d x hd
  obtain ⟨u, hu, hr⟩ := hf.2 d y hy
  exact ⟨u, hu, hw _ _ _ (RF.bus hb y u (FV.ids_true y) hr)⟩
/-- The outer objects with some new ones from k on. -/
def ouAdd (ou : Outer) (k : Nat) (os : List AObj) : Outer := fun m => bif Nat.blt m k then ou m else os[m - k]?
theorem ouAdd_old {ou : Outer} {k : Nat} {os : List AObj} {m : Nat} (h : m < k) : ouAdd ou k os m = ou m := by
  unfold ouAdd
  have : Nat.blt m k = true := by simp [Nat.blt]; exact h
  rw [this]; rfl
theorem ouAdd_new {ou : Outer} {k : Nat} {os : List AObj} (p : Nat) : ouAdd ou k os (k + p) = os[p]? := by
  unfold ouAdd
  have : Nat.blt (k + p) k = false := by
    cases h : Nat.blt (k + p) k with
    | false => rfl
    | true => simp [Nat.blt] at h; omega
  rw [this, Nat.add_sub_cancel_left]; rfl
theorem ouAdd_lt {ou : Outer} {k : Nat} (h : ∀ m, k ≤ m → ou m = none) {m : Nat} {o : AObj} (hm : ou m = some o) : m < k := by
  rcases Nat.lt_or_ge m k with h1 | h1
  · exact h1
  · rw [h m h1] at hm; cases hm
inductive CedFrN (θ : Id → Id) (fr : Fr) : Fr → Prop
  | nil : CedFrN θ fr []
  | cons {k : Nat} {x y : FV} {r : Fr} (h : Fr.get k fr = some y) (hw : y.sub θ = x) (hr : CedFrN θ fr r) : CedFrN θ fr ((k, x) :: r)
theorem CedFrN.get {θ : Id → Id} {fr fr' : Fr} (h : CedFrN θ fr fr') : ∀ d x, Fr.get d fr' = some x → ∃ y, Fr.get d fr = some y ∧ WkF (y.sub θ) x := by
  induction h with
  | nil => intro d x h; cases h
  | @cons k x y r h hw hr ih =>
    intro d z hz
    simp only [Fr.get] at hz
    by_cases e : k = d
    · subst e; simp at hz; subst hz; exact ⟨y, h, WkF.ofEq hw⟩
    · rw [beq_no e] at hz; exact ih d z hz
inductive CedLo (θ : Id → Id) (lo : List (Nat × AObj)) (js : List Nat) : List (Nat × AObj) → Prop
  | nil : CedLo θ lo js []
  | cons {n : Nat} {o y : AObj} {r : List (Nat × AObj)} (h : lookL n lo = some y) (hn : posOf n js = none) (ho : y.sub θ = o) (hr : CedLo θ lo js r) : CedLo θ lo js ((n, o) :: r)
theorem CedLo.get {θ : Id → Id} {lo lo' : List (Nat × AObj)} {js : List Nat} (h : CedLo θ lo js lo') : ∀ n o, lookL n lo' = some o → posOf n js = none ∧ ∃ y, lookL n lo = some y ∧ y.sub θ = o := by
  induction h with
  | nil => intro n o h; cases h
  | @cons m x y r h hn ho hr ih =>
    intro n o hz
    simp only [lookL] at hz
    by_cases e : m = n
    · subst e; simp at hz; subst hz; exact ⟨hn, y, h, ho⟩
    · rw [beq_no e] at hz; exact ih n o hz
inductive CedOs (θ : Id → Id) (lo : List (Nat × AObj)) : List Nat → List AObj → Prop
  | nil : CedOs θ lo [] []
  | cons {j : Nat} {o y : AObj} {js : List Nat} {os : List AObj} (h : lookL j lo = some y) (ho : y.sub θ = o) (hr : CedOs θ lo js os) : CedOs θ lo (j :: js) (o :: os)
theorem CedOs.get {θ : Id → Id} {lo : List (Nat × AObj)} {js : List Nat} {os : List AObj} (h : CedOs θ lo js os) : ∀ (p : Nat) (o : AObj), os[p]? = some o → ∃ j y, js[p]? = some j ∧ lookL j lo = some y ∧ y.sub θ = o := by
  induction h with
  | nil => intro p o h; simp at h
  | @cons j o y js os h ho hr ih =>
    intro p z hz
    cases p with
    | zero => simp at hz; subst hz; exact ⟨j, y, rfl, h, ho⟩
    | succ p => simpa using ih p z (by simpa using hz)
theorem nodupB_pos : ∀ {js : List Nat} {p j : Nat}, js.Nodup → js[p]? = some j → posOf j js = some p
  | [], p, j, _, h => by simp at h
  | i :: r, p, j, hn, h => by
    simp only [List.nodup_cons] at hn
    cases p with
    | zero => simp at h; subst h; simp [posOf]
    | succ p =>
      have h1 : r[p]? = some j := by simpa using h
      have hne : j ≠ i := fun e => hn.1 (e ▸ List.mem_of_getElem? h1)
      simp only [posOf, beq_no hne, cond_false, nodupB_pos hn.2 h1]
/-- SEVERAL LOCAL OBJECTS BECOME OUTER ONES. -/
theorem AOps.cedes {E : Env} {ops : Array Oper} {rest : List Oper} {K : Cont} {fr : Fr} {σ : St} (js : List Nat) (hj : js.all (fun j => Nat.blt j σ.n) = true) (hnd : js.Nodup) (hou : OuOk σ.ou)
    (h : ∀ k, (∀ m, k ≤ m → σ.ou m = none) → ∃ fr' lo' os, CedFrN (toOs js k) fr fr' ∧ CedLo (toOs js k) σ.lo js lo' ∧ CedOs (toOs js k) σ.lo js os ∧ AOps E ops rest K fr' ⟨σ.n, lo', ouAdd σ.ou k os⟩) : AOps E ops rest K fr σ := by
  refine AOps.cedeN js (fun j hjj => ?_) fun k hk => ?_
  · have := List.all_eq_true.1 hj j hjj
    exact Nat.le_of_ble_eq_true (show Nat.ble (j + 1) σ.n = true from this)
  obtain ⟨fr', lo', os, h1, h2, h3, h4⟩ := h k hk
  refine ⟨fr', ⟨σ.n, lo', ouAdd σ.ou k os⟩, ⟨h1.get, rfl, fun i x hx => ?_⟩, h4⟩
  cases i with
  | l m =>
    obtain ⟨hp, y, hy, rfl⟩ := h2.get m x hx
    exact ⟨.l m, y, hy, by simp [toOs, hp], rfl⟩
  | o m =>
    have hx' : ouAdd σ.ou k os m = some x := hx
    rcases Nat.lt_or_ge m k with hm | hm
    · rw [ouAdd_old hm] at hx'
      exact ⟨.o m, x, hx', rfl, (AObj.sub_f (fun i hi => by cases i with | l q => exact hi.elim | o q => rfl) x (hou m x hx')).symm⟩
    · obtain ⟨p, rfl⟩ : ∃ p, m = k + p := ⟨m - k, by omega⟩
      rw [ouAdd_new] at hx'
      obtain ⟨j, y, q1, q2, rfl⟩ := h3.get p x hx'
      exact ⟨.l j, y, q2, by simp [toOs, nodupB_pos hnd q1], rfl⟩
/-- Outer objects may be forgotten at a function's end. -/
theorem AFn.forget {P : Program} {Γ : List (Nat × List AC)} {g : Nat} {args : List FV} {ou : Outer} {Q : FV → Outer → Prop} (h : AFn P Γ g args ou (fun r ou' => ∃ ou'' : Outer, (∀ m o, ou'' m = some o → ou' m = some o) ∧ Q r ou'')) : AFn P Γ g args ou Q := by
  refine ⟨h.1, fun F w C cargs h0 hi hr => (h.2 F w C cargs h0 hi hr).mono fun e w' ⟨v, r, ou', C', h1, h2, h3, h4, h5, ou'', h6, h7⟩ => ⟨v, r, ou'', C', h1, h2, h3, ?_, h5, h7⟩⟩
  have hs : ∀ i o, (St.mk 0 [] ou'').get i = some o → (St.mk 0 [] ou').get i = some o := fun i o hio => by
    cases i with
    | l m => cases hio
    | o m => exact h6 m o hio
  exact ⟨h4.base, h4.next, h4.glob, h4.prot, fun i o ho => h4.obj i o (hs i o ho), fun i j o o' g h1 h2 h3 h5 => h4.inj i j o o' g (hs i o h1) (hs j o' h2) h3 h5⟩
end Go.Abs
/- The abstract layer, part Aq: a drawn head in which some operations, each waiting for the one before, turn the store. No condition. -/
namespace Go.Abs
set_option linter.unusedVariables false
set_option linter.unusedSimpArgs false
theorem runHeads_at {E : Env} {l : List Oper} {frb : Fr} {σ : St} {cs : List (Nat × FV)} {n : Nat} {vs : List FV} (hT : TabOk E.P E.T) (hall : ∀ k o, l[k]? = some o → k < n → o.after.all (fun e => !Region.binds .any e || decide (e.on < k)) = true) :
    ∀ (os : List Oper) (k : Nat) (acc ws : List FV), acc.length = k → (∀ i o, os[i]? = some o → l[k + i]? = some o ∧ k + i < n) → runHeads E l.toArray l frb σ cs k os acc = some ws → acc ++ ws = vs →
    ∀ i o, os[i]? = some o → ∃ v, ws[i]? = some v ∧ o.dst.isSome = true ∧ dstOk E.N o.dst = true ∧ (lookC (k + i) cs = some v ∨ (lookC (k + i) cs = none ∧ HStep E l.toArray o (depFr l vs o ++ frb) σ σ v))
  | [], k, acc, ws, _, _, _, _, i, o, hi => by simp at hi
  | o :: os, k, acc, ws, hl, hos, h, hv, i, o', hi => by
    have ho := hos 0 o rfl
    simp only [Nat.add_zero] at ho
    simp only [runHeads, forceK_eq] at h
    cases hb : (o.dst.isSome && dstOk E.N o.dst) with
    | false => rw [hb] at h; cases h
    | true =>
      rw [hb] at h
      simp only [Bool.and_eq_true] at hb
      simp only [cond_true] at h
      have rest : ∀ {v : FV}, (match runHeads E l.toArray l frb σ cs (k + 1) os (acc ++ [v]) with | some vs => some (v :: vs) | none => none) = some ws → (lookC k cs = some v ∨ (lookC k cs = none ∧ HStep E l.toArray o (depFr l vs o ++ frb) σ σ v)) →
          ∃ v, ws[i]? = some v ∧ o'.dst.isSome = true ∧ dstOk E.N o'.dst = true ∧ (lookC (k + i) cs = some v ∨ (lookC (k + i) cs = none ∧ HStep E l.toArray o' (depFr l vs o' ++ frb) σ σ v)) := by
        intro v h hfirst
        split at h
        · rename_i ws' hw
          simp only [Option.some.injEq] at h; subst h
          cases i with
          | zero =>
            simp at hi; subst hi
            exact ⟨v, rfl, hb.1, hb.2, hfirst⟩
          | succ i =>
            have := runHeads_at hT hall os (k + 1) (acc ++ [v]) ws' (by simp [hl]) (fun i o hi => by have := hos (i + 1) o hi; rw [show k + 1 + i = k + (i + 1) by omega]; exact this) hw (by simpa using hv) i o' (by simpa using hi)
            rw [show k + 1 + i = k + (i + 1) by omega] at this
            simpa using this
        · cases h
      cases hc : lookC k cs with
      | some v =>
        rw [hc] at h
        exact rest h (.inl hc)
      | none =>
        rw [hc] at h
        simp only at h
        cases hp : pureOp o.op with
        | false => rw [hp] at h; cases h
        | true =>
          rw [hp] at h
          simp only [cond_true] at h
          split at h
          · rename_i v σ' ha
            have hdep : depFr l vs o = depFr l acc o := by
              have : ∃ r, vs = acc ++ r := ⟨ws, hv.symm⟩
              obtain ⟨r, rfl⟩ := this
              exact depFr_prefix (by rw [hl]; exact hall k o ho.1 ho.2)
            have hσ : σ' = σ := by
              have key : ∀ {y : FV} {τ : St}, (match aOp E.T E.Γ o.op (depFr l acc o ++ frb) σ with | some (some x, σ') => some (x, σ') | _ => none) = some (y, τ) → τ = σ := by
                intro y τ h
                split at h
                · rename_i h1
                  simp only [Option.some.injEq, Prod.mk.injEq] at h
                  obtain ⟨rfl, rfl⟩ := h
                  exact aOp_pure hp h1
                · cases h
              unfold aHead at ha
              split at ha
              · exact key ha
              · split at ha
                · split at ha
                  · exact key ha
                  · exact key ha
                  · cases ha; rfl
                  · cases ha; rfl
                  · cases ha; rfl
                  · cases ha
                · cases ha
            subst hσ
            have hs := HStep.auto (ops := l.toArray) hT ha
            rw [← hdep] at hs
            exact rest h (.inr ⟨hc, hs⟩)
          · cases h
def inS (S : List Nat) (i : Nat) : Bool := S.any fun k => Nat.beq k i
/-- The values of the first operations of the chain. -/
def fC : List Nat → List FV → Nat → Option FV
  | s :: S, v :: vs, i => bif Nat.beq s i then some v else fC S vs i
  | _, _, _ => none
def chainB (l : List Oper) : List Nat → Bool
  | s :: s' :: S => (match l[s']? with | some o => o.after.any fun e => Region.binds .any e && Nat.beq e.on s | none => false) && chainB l (s' :: S)
  | _ => true
def quietB (l : List Oper) (S : List Nat) (n : Nat) : Bool := (l.take n).zipIdx.all fun x => inS S x.2 || x.1.after.toList.all fun e => !Region.binds .any e || !(inS S e.on)
theorem fC_none : ∀ {S : List Nat} {vs : List FV} {i : Nat}, inS S i = false → fC S vs i = none
  | [], [], _, _ => rfl
  | [], _ :: _, _, _ => rfl
  | s :: S, [], _, _ => rfl
  | s :: S, v :: vs, i, h => by
    simp only [inS, List.any_cons, Bool.or_eq_false_iff] at h
    simp only [fC, h.1, cond_false]
    exact fC_none h.2
theorem fC_some {S : List Nat} (hn : S.Nodup) : ∀ {vs : List FV} {p i : Nat}, S[p]? = some i → p < vs.length → fC S vs i = vs[p]? := by
  induction S with
  | nil => intro vs p i h; simp at h
  | cons s S ih =>
    intro vs p i h hp
    simp only [List.nodup_cons] at hn
    cases vs with
    | nil => simp at hp
    | cons v vs =>
      cases p with
      | zero => simp at h; subst h; simp [fC]
      | succ p =>
        have h1 : S[p]? = some i := by simpa using h
        have hne : s ≠ i := fun e => hn.1 (e ▸ List.mem_of_getElem? h1)
        simp only [fC, beq_no hne, cond_false]
        rw [ih hn.2 h1 (by simpa using hp)]
        simp
theorem fC_out {S : List Nat} (hn : S.Nodup) : ∀ {vs : List FV} {p i : Nat}, S[p]? = some i → vs.length ≤ p → fC S vs i = none := by
  induction S with
  | nil => intro vs p i h; simp at h
  | cons s S ih =>
    intro vs p i h hp
    simp only [List.nodup_cons] at hn
    cases vs with
    | nil => rfl
    | cons v vs =>
      cases p with
      | zero => simp at hp
      | succ p =>
        have h1 : S[p]? = some i := by simpa using h
        have hne : s ≠ i := fun e => hn.1 (e ▸ List.mem_of_getElem? h1)
        simp only [fC, beq_no hne, cond_false]
        exact ih hn.2 h1 (by simpa using hp)
theorem fC_upd {S : List Nat} (hn : S.Nodup) {vs : List FV} {i : Nat} {v : FV} (h : S[vs.length]? = some i) : updV (fC S vs) i v = fC S (vs ++ [v]) := by
  funext j
  unfold updV
  by_cases hj : inS S j = true
  · obtain ⟨s, hs, he⟩ := List.any_eq_true.1 hj
    obtain rfl : s = j := Nat.eq_of_beq_eq_true he
    obtain ⟨p, hp⟩ := List.mem_iff_getElem?.1 hs
    by_cases e : s = i
    · subst e
      have hpv : p = vs.length := (List.getElem?_inj (List.getElem?_eq_some_iff.1 hp).1 hn).1 (hp.trans h.symm)
      subst hpv
      rw [fC_some (vs := vs ++ [v]) hn hp (by simp)]
      simp
    · have hpv : p ≠ vs.length := fun e2 => by subst e2; rw [h] at hp; exact e (by simpa using hp.symm)
      simp only [Ne.symm e, if_false, e]
      rcases Nat.lt_or_ge p vs.length with h1 | h1
      · rw [fC_some hn hp h1, fC_some hn hp (by simp; omega), List.getElem?_append_left h1]
      · rw [fC_out hn hp h1, fC_out hn hp (by simp; omega)]
  · have hj' : inS S j = false := by simpa using hj
    have hne : j ≠ i := fun e => by
      subst e
      have : inS S j = true := List.any_eq_true.2 ⟨j, List.mem_of_getElem? h, by simp⟩
      rw [this] at hj'; cases hj'
    rw [fC_none hj', fC_none hj']
    simp [Ne.symm hne, hne]
theorem chainB_at {l : List Oper} : ∀ {S : List Nat}, chainB l S = true → ∀ {p i j : Nat} {o : Oper}, S[p]? = some i → S[p + 1]? = some j → l[j]? = some o → ∃ e ∈ o.after.toList, Region.binds .any e = true ∧ e.on = i
  | [], _, p, i, j, o, h1, _, _ => by simp at h1
  | [s], _, p, i, j, o, _, h2, _ => by simp at h2
  | s :: s' :: S, h, p, i, j, o, h1, h2, h3 => by
    simp only [chainB, Bool.and_eq_true] at h
    cases p with
    | zero =>
      simp at h1 h2
      subst h1; subst h2
      rw [h3] at h
      obtain ⟨e, he, hb⟩ := Array.any_eq_true'.1 h.1
      simp only [Bool.and_eq_true] at hb
      exact ⟨e, by simpa using he, hb.1, Nat.eq_of_beq_eq_true hb.2⟩
    | succ p => exact chainB_at h.2 (by simpa using h1) (by simpa using h2) h3
section
variable {E : Env} {l : List Oper} {frb : Fr} {K : Cont}
/-- A CHAIN of operations in the head turns the store: G says of the values so far and the store. -/
theorem ACode.drawC {id : Nat} {fr : Fr} {σ0 : St} {hd tl : List Oper} {vs0 : List FV} (hT : TabOk E.P E.T) (n : Nat) (S : List Nat) (cs : List (Nat × FV)) (G : List FV → St → Prop) (hm : E.P.follows .mixedOrders = true) (hB : drawB l n = true) (hsp : splitO n l = some (hd, tl)) (hfb : Fr.woO (dsts hd) fr = some frb)
    (hn : S.Nodup) (hch : chainB l S = true) (hqb : quietB l S n = true) (h0 : G [] σ0) (hrun0 : runHeads E l.toArray l frb σ0 (S.map (fun i => (i, FV.bot)) ++ cs) 0 hd [] = some vs0)
    (hrun : ∀ vs σ, G vs σ → runHeads E l.toArray l frb σ (S.map (fun i => (i, FV.bot)) ++ cs) 0 hd [] = some vs0) (hcs : ∀ vs σ, G vs σ → CallsOk E l frb σ vs0 cs) (hSl : ∀ i ∈ S, i < n)
    (hs : ∀ vs σ, G vs σ → ∀ i o, S[vs.length]? = some i → l[i]? = some o → o.dst.isSome = true ∧ dstOk E.N o.dst = true ∧ HStepR E l.toArray o (depFrJ l (mixV S vs0 (fC S vs)) o ++ frb) σ (fun v σ' => G (vs ++ [v]) σ'))
    (htail : ∀ vs σ, vs.length = S.length → G vs σ → AOps E l.toArray tl K (headFrJ (mixV S vs0 (fC S vs)) 0 hd ++ frb) σ) : ACode E (.region id l.toArray true) K fr σ0 := by
  have hnl : n < l.length := by
    have := hB
    simp only [drawB, Bool.and_eq_true, decide_eq_true_eq] at this
    exact this.1.1.1.1.1
  have hlast : ∀ k o, l[k]? = some o → k < n → o.after.all (fun e => !Region.binds .any e || decide (e.on < k)) = true := fun k o hk hkn => by
    have hB2 := hB
    simp only [drawB, Bool.and_eq_true, decide_eq_true_eq] at hB2
    exact List.all_eq_true.1 hB2.2 (o, k) (by
      rw [List.mem_zipIdx_iff_getElem?, List.getElem?_take_of_lt hkn]
      simpa using hk)
  obtain ⟨hsp1, hsp2⟩ := splitO_eq hsp
  refine ACode.drawSR n S vs0 (fun f σ => ∃ vs, vs.length ≤ S.length ∧ f = fC S vs ∧ G vs σ) hm hB hsp hfb ⟨[], by simp, by funext i; cases S <;> rfl, h0⟩ (fun f σ ⟨vs, _, hf, _⟩ i hi => by rw [hf]; exact fC_none hi) ?_ ?_ ?_
  · intro i o hi hS hlo
    have hio : hd[i]? = some o := by rw [← hsp1, List.getElem?_take_of_lt hi]; exact hlo
    have key : ∀ vs σ, G vs σ → ∃ v, vs0[i]? = some v ∧ o.dst.isSome = true ∧ dstOk E.N o.dst = true ∧ HStep E l.toArray o (depFr l vs0 o ++ frb) σ σ v := fun vs σ hG => by
      obtain ⟨v, h1, h2, h3, h4⟩ := runHeads_at (vs := vs0) hT hlast hd 0 [] vs0 rfl (fun i o hi => by
        have hi2 : i < n := by
          have := (List.getElem?_eq_some_iff.1 hi).1
          rw [← hsp1] at this; simp at this; omega
        rw [← hsp1, List.getElem?_take_of_lt hi2] at hi
        exact ⟨by simpa using hi, by omega⟩) (hrun vs σ hG) (List.nil_append _) i o hio
      rw [Nat.zero_add] at h4
      refine ⟨v, h1, h2, h3, ?_⟩
      rcases h4 with h4 | h4
      · have hl : lookC i cs = some v := by
          have : ∀ {S : List Nat}, (S.any fun k => Nat.beq k i) = false → lookC i (S.map (fun i => (i, FV.bot)) ++ cs) = lookC i cs := fun {S} hS => by
            induction S with
            | nil => rfl
            | cons s S ih =>
              simp only [List.any_cons, Bool.or_eq_false_iff] at hS
              simp only [List.map_cons, List.cons_append, lookC, hS.1, cond_false]
              exact ih hS.2
          rw [this hS] at h4; exact h4
        obtain ⟨o', ho', hst⟩ := (hcs vs σ hG).get hl
        rw [hlo] at ho'
        cases ho'
        exact hst
      · exact h4.2
    have hq : (o.after.toList.all fun e => !Region.binds .any e || !(S.any fun k => Nat.beq k e.on)) = true := by
      have h1 := List.all_eq_true.1 hqb (o, i) (by
        rw [List.mem_zipIdx_iff_getElem?, List.getElem?_take_of_lt hi]
        simpa using hlo)
      have h2 : inS S i = false := hS
      simp only [h2, Bool.false_or] at h1
      exact h1
    obtain ⟨v, h1, h2, h3, _⟩ := key [] σ0 h0
    refine ⟨v, h1, h2, h3, hq, fun f σ ⟨vs, _, _, hG⟩ => ?_⟩
    obtain ⟨v', h1', _, _, h4⟩ := key vs σ hG
    rw [h1] at h1'
    cases h1'
    exact h4
  · rintro f σ i o ⟨vs, hlen, rfl, hG⟩ hS hlo hfi hdep
    obtain ⟨s, hsS, he⟩ := List.any_eq_true.1 hS
    obtain rfl : s = i := Nat.eq_of_beq_eq_true he
    obtain ⟨p, hp⟩ := List.mem_iff_getElem?.1 hsS
    have hpS := (List.getElem?_eq_some_iff.1 hp).1
    have hpv : p = vs.length := by
      rcases Nat.lt_trichotomy p vs.length with h1 | h1 | h1
      · rw [fC_some hn hp h1] at hfi
        have := (List.getElem?_eq_none_iff.1 hfi); omega
      · exact h1
      · exfalso
        obtain ⟨q, rfl⟩ : ∃ q, p = q + 1 := ⟨p - 1, by omega⟩
        obtain ⟨i0, hi0⟩ : ∃ i0, S[q]? = some i0 := ⟨S[q], List.getElem?_eq_getElem (by omega)⟩
        obtain ⟨e, he, hb, heo⟩ := chainB_at hch hi0 hp hlo
        have h2 := hdep e he hb (by rw [heo]; exact List.any_eq_true.2 ⟨i0, List.mem_of_getElem? hi0, by simp⟩)
        rw [heo, fC_out hn hi0 (by omega)] at h2
        cases h2
    subst hpv
    obtain ⟨k1, k2, k3⟩ := hs vs σ hG s o hp hlo
    exact ⟨k1, k2, k3.mono fun v σ' hG' => ⟨vs ++ [v], by simp; omega, fC_upd hn hp, hG'⟩⟩
  · rintro f σ ⟨vs, hlen, rfl, hG⟩ hall
    refine htail vs σ ?_ hG
    rcases Nat.lt_or_ge vs.length S.length with h1 | h1
    · exfalso
      obtain ⟨i0, hi0⟩ : ∃ i0, S[vs.length]? = some i0 := ⟨S[vs.length], List.getElem?_eq_getElem h1⟩
      have hm := List.mem_of_getElem? hi0
      have := hall i0 hm (hSl i0 hm)
      rw [fC_out hn hi0 (Nat.le_refl _)] at this
      cases this
    · omega
end
end Go.Abs
/- Core expressions as plain data: lists, trees, and what the functions of the package compute. No condition. -/
namespace Go.CoreX
/-- An alternative, a node, a tree. -/
structure Alt where
  tag : Int
  binds : List Int
  deriving DecidableEq
structure Ex where
  op : Int
  n : Int
  binds : List Int
  kids : List Int
  alts : List Alt
  deriving DecidableEq
inductive Tr where
  | mk (op n : Int) (binds : List Int) (kids : List Tr) (alts : List Alt)
instance : Inhabited Tr := ⟨.mk 0 0 [] [] []⟩
def Tr.op : Tr → Int | .mk o _ _ _ _ => o
def Tr.n : Tr → Int | .mk _ n _ _ _ => n
def Tr.binds : Tr → List Int | .mk _ _ b _ _ => b
def Tr.kids : Tr → List Tr | .mk _ _ _ k _ => k
def Tr.alts : Tr → List Alt | .mk _ _ _ _ a => a
@[simp] theorem Tr.op_mk (o n b k a) : (Tr.mk o n b k a).op = o := rfl
@[simp] theorem Tr.n_mk (o n b k a) : (Tr.mk o n b k a).n = n := rfl
@[simp] theorem Tr.binds_mk (o n b k a) : (Tr.mk o n b k a).binds = b := rfl
@[simp] theorem Tr.kids_mk (o n b k a) : (Tr.mk o n b k a).kids = k := rfl
@[simp] theorem Tr.alts_mk (o n b k a) : (Tr.mk o n b k a).alts = a := rfl

/-- The trees of the first nodes. -/
def nodeOf (ts : List Tr) (x : Ex) : Tr := .mk x.op x.n x.binds (x.kids.map fun k => ts.getD k.toNat default) x.alts
def growStep (ts : List Tr) (x : Ex) : List Tr := ts ++ [nodeOf ts x]
def growL (e : List Ex) : List Tr := e.foldl growStep []
def grow (e : List Ex) : Tr := (growL e).getD (e.length - 1) default

mutual
def listT (out : List Ex) : Tr → List Ex
  | .mk o n b k a => (listTs out k).1 ++ [⟨o, n, b, (listTs out k).2, a⟩]
def listTs (out : List Ex) : List Tr → List Ex × List Int
  | [] => (out, [])
  | t :: ts => ((listTs (listT out t) ts).1, (((listT out t).length : Int) - 1) :: (listTs (listT out t) ts).2)
end

/-- What a node binds itself, and in its kid k. -/
def bindersN (op : Int) (binds : List Int) (alts : List Alt) : List Int := (if op = 2 ∨ op = 4 ∨ op = 5 then binds else []) ++ alts.flatMap (·.binds)
def boundN (op : Int) (binds : List Int) (alts : List Alt) (k : Int) : List Int :=
  if op = 2 ∨ op = 5 ∨ (op = 4 ∧ k = 1) then binds else if 0 < (alts.length : Int) ∧ 0 < k ∧ k ≤ alts.length then (alts.getD (k - 1).toNat ⟨0, []⟩).binds else []

/-- treeError. -/
def kidStep (i : Nat) (s : Option (List Int × List Int)) (k : Int) : Option (List Int × List Int) :=
  s.bind fun dp => if k < 0 ∨ (i : Int) ≤ k then none else some (dp.1.set i (if dp.1.getD k.toNat 0 > dp.1.getD i 0 then dp.1.getD k.toNat 0 else dp.1.getD i 0), dp.2.set k.toNat (dp.2.getD k.toNat 0 + 1))
def nodeStep (s : Option (List Int × List Int)) (x : Ex × Nat) : Option (List Int × List Int) :=
  (x.1.kids.foldl (kidStep x.2) s).map fun dp => (dp.1.set x.2 (dp.1.getD x.2 0 + 1), dp.2)
def treeRun (e : List Ex) : Option (List Int × List Int) := e.zipIdx.foldl nodeStep (some (List.replicate e.length 0, List.replicate e.length 0))
def oddParent (n : Nat) (p : List Int) (i : Nat) : Bool := !((p.getD i 0 == 1) == decide ((i : Int) < n - 1))
def treeErr (e : List Ex) : Int :=
  if 4096 < e.length then 2 else if e.length = 0 then 3 else
  match treeRun e with
  | none => 3
  | some (d, p) => if (List.range e.length).any (oddParent e.length p) = true then 3 else if 400 < d.getD (e.length - 1) 0 then 2 else 0

/-- nodeError. -/
def between (n low high : Int) : Bool := decide (low ≤ n) && decide (n ≤ high)
def flatOnly (op : Int) : Bool := op == 14 || op == 15 || op == 16
def coreOnly (op : Int) : Bool := op == 2 || op == 5 || op == 12 || op == 13
def altBad (x : Ex) (i : Nat) (a : Alt) : Bool :=
  ((x.alts.take i).any (fun b => b.tag == a.tag) || decide (a.tag < -1)) ||
  (x.op == 7 && a.tag == -1 && (decide ((i : Int) < x.alts.length - 1) || decide (0 < a.binds.length))) ||
  ((x.op == 13 && !(((i : Int) == 0) == (a.tag == -1))) || (x.op == 13 && !((a.binds.length : Int) == (if 2 < (i : Int) + 1 then 2 else (i : Int) + 1))))
def altsOk (x : Ex) : Bool := !(x.alts.zipIdx.any fun ai => altBad x ai.2 ai.1) && ((x.kids.length : Int) == 1 + x.alts.length && (x.op == 7 || decide (0 < x.alts.length)))
def arityL : List Int := [2, 2, 2, 2, 2, 2, 2, 1, 2, 1, 2, 3]
/-- The numbers of kids and identifiers, and whether N is used. -/
def wants (x : Ex) : Option (Int × Int × Bool) :=
  if x.op = 0 ∨ x.op = 1 ∨ x.op = 17 then some (0, 0, true) else
  if x.op = 2 then some (1, x.binds.length, false) else
  if x.op = 3 then some (if (x.kids.length : Int) > 1 then x.kids.length else 1, 0, false) else
  if x.op = 4 then some (2, 1, false) else
  if x.op = 5 then some (x.binds.length + 1, if (x.binds.length : Int) > 1 then x.binds.length else 1, false) else
  if x.op = 6 then some (x.kids.length, 0, true) else
  if x.op = 8 then (if between x.n 0 11 = true then some (arityL.getD x.n.toNat 0, 0, true) else none) else
  if x.op = 9 then some (x.binds.length, x.binds.length, false) else
  if x.op = 10 ∨ x.op = 12 then some (1, 0, true) else
  if x.op = 11 then some (2, 0, true) else
  if x.op = 14 ∨ x.op = 15 then some (x.kids.length, 0, true) else
  if x.op = 16 then some (1, 0, true) else none
def shape (x : Ex) : Bool :=
  if x.op = 7 ∨ x.op = 13 then altsOk x && x.binds.length == 0 && x.n == 0 else
  match wants x with
  | none => false
  | some (k, b, u) => (x.kids.length : Int) == k && (x.binds.length : Int) == b && x.alts.length == 0 && (u || x.n == 0)
def lowN (op : Int) : Int := if op = 1 then -1073741824 else if op = 17 then 1 else 0
def highN (op : Int) : Int := if op = 1 then 1073741823 else if op = 6 then 255 else if op = 17 then 6 else if op = 16 then 15 else 1048575
def identOk (n : Int) : Bool := between n 0 1048575
def altRange (op : Int) (a : Alt) : Bool := !((decide (255 < a.tag) && op == 7) || decide (1048576 ≤ a.tag)) && a.binds.all identOk
def fields (x : Ex) : Int := x.alts.foldl (fun f a => if (a.binds.length : Int) > f then a.binds.length else f) x.binds.length
def ranges (x : Ex) : Int :=
  if between x.n (lowN x.op) (highN x.op) = false then 4 else
  if x.binds.all identOk = false then 4 else
  if x.alts.all (altRange x.op) = false then 4 else
  if ((decide (fields x > (if x.op = 2 then 6 else 16)) || ((x.op == 6 || x.op == 15) && decide (16 < (x.kids.length : Int)))) || (x.op == 3 && decide (7 < (x.kids.length : Int)))) || (x.op == 14 && decide (6 < (x.kids.length : Int))) then 2 else 0
def bindBad (e : List Ex) (x : Ex) (i : Nat) : Bool :=
  (x.op == 5 && !((e.getD (x.kids.getD i 0).toNat ⟨0, 0, [], [], []⟩).op == 2)) || (x.op == 9 && decide (0 < i) && decide (x.binds.getD (i - 1) 0 ≥ x.binds.getD i 0))
def nodeErr (e : List Ex) (x : Ex) : Int :=
  if shape x = false then 3 else if ranges x ≠ 0 then ranges x else if (List.range x.binds.length).any (bindBad e x) = true then 3 else 0
def nodeErrF (flat : Bool) (e : List Ex) (x : Ex) : Int := if (flat && coreOnly x.op) || (!flat && flatOnly x.op) then 3 else nodeErr e x
def firstErr {α : Type} (f : α → Int) : List α → Int
  | [] => 0
  | a :: l => if f a ≠ 0 then f a else firstErr f l

/-- twice. -/
def hasDup : List Int → Bool
  | [] => false
  | n :: l => l.contains n || hasDup l
def exBinders (x : Ex) : List Int := bindersN x.op x.binds x.alts
def allBinders (e : List Ex) : List Int := e.flatMap exBinders

mutual
def occT (sc : List Int) : Tr → List Int
  | .mk o n b k a => (if o = 0 ∧ sc.contains n = false then [n] else []) ++ occTs sc o b a 0 k
def occTs (sc : List Int) (o : Int) (b : List Int) (a : List Alt) : Nat → List Tr → List Int
  | _, [] => []
  | i, t :: ts => occT (boundN o b a i ++ sc) t ++ occTs sc o b a (i + 1) ts
end
def insertS (n : Int) : List Int → List Int
  | [] => [n]
  | m :: l => if n < m then n :: m :: l else if n = m then m :: l else m :: insertS n l
def sortS (l : List Int) : List Int := l.foldr insertS []
def freeOf (t : Tr) : List Int := sortS (occT [] t)

/-- Body and Check. -/
def body (e : List Ex) (params : List Int) (flat : Bool) : Int :=
  if treeErr e ≠ 0 then treeErr e else
  if firstErr (nodeErrF flat e) e ≠ 0 then firstErr (nodeErrF flat e) e else
  if hasDup (params ++ allBinders e) = true then 7 else
  if (freeOf (grow e)).all (fun n => params.contains n) = true then 0 else 6
def check (e : List Ex) : Int := body e [] false
end Go.CoreX
/- Core expressions as plain data: an expression in order is the same expression. No condition. -/
namespace Go.CoreX
set_option linter.unusedVariables false
set_option linter.unusedSimpArgs false
/-- The label of a node: all that is said of it but where its kids lie. -/
structure Lab where
  op : Int
  n : Int
  binds : List Int
  ops : List Int
  alts : List Alt
  deriving DecidableEq
mutual
def sumT (g : Lab → Int) : Tr → Int
  | .mk o n b k a => g ⟨o, n, b, k.map Tr.op, a⟩ + sumTs g k
def sumTs (g : Lab → Int) : List Tr → Int
  | [] => 0
  | t :: ts => sumT g t + sumTs g ts
end
def mx (m d : Int) : Int := if d > m then d else m
mutual
def depthT : Tr → Int
  | .mk _ _ _ k _ => (depthTs k).foldl mx 0 + 1
def depthTs : List Tr → List Int
  | [] => []
  | t :: ts => depthT t :: depthTs ts
end
theorem depthTs_eq : ∀ l : List Tr, depthTs l = l.map depthT
  | [] => rfl
  | t :: ts => by simp [depthTs, depthTs_eq ts]
theorem sumTs_eq (g : Lab → Int) : ∀ l : List Tr, sumTs g l = (l.map (sumT g)).sum
  | [] => rfl
  | t :: ts => by simp [sumTs, sumTs_eq g ts]
theorem growL_snoc (e : List Ex) (x : Ex) : growL (e ++ [x]) = growL e ++ [nodeOf (growL e) x] := by simp [growL, growStep]
theorem snoc_ind {α : Type} {P : List α → Prop} (h0 : P []) (h1 : ∀ l x, P l → P (l ++ [x])) (l : List α) : P l := by
  have : ∀ l : List α, P l.reverse := by
    intro l
    induction l with
    | nil => exact h0
    | cons a l ih => rw [List.reverse_cons]; exact h1 _ _ ih
  simpa using this l.reverse
theorem growL_len (e : List Ex) : (growL e).length = e.length := by
  refine snoc_ind (P := fun e => (growL e).length = e.length) rfl (fun l x ih => ?_) e
  rw [growL_snoc]; simp [ih]
theorem growL_app (e l : List Ex) : ∃ r, growL (e ++ l) = growL e ++ r := by
  refine snoc_ind (P := fun l => ∃ r, growL (e ++ l) = growL e ++ r) ⟨[], by simp⟩ (fun l x ih => ?_) l
  obtain ⟨r, h⟩ := ih
  exact ⟨r ++ [nodeOf (growL (e ++ l)) x], by rw [← List.append_assoc, growL_snoc, h]; simp⟩
theorem getD_app {α : Type} {l r : List α} {i : Nat} {d : α} (h : i < l.length) : (l ++ r).getD i d = l.getD i d := by
  simp [List.getD, List.getElem?_append_left h]
theorem growL_get {e l : List Ex} {i : Nat} (h : i < e.length) : (growL (e ++ l)).getD i default = (growL e).getD i default := by
  obtain ⟨r, hr⟩ := growL_app e l
  rw [hr, getD_app (by rw [growL_len]; exact h)]
theorem growL_at (e l : List Ex) (x : Ex) : (growL (e ++ x :: l)).getD e.length default = nodeOf (growL e) x := by
  rw [show e ++ x :: l = (e ++ [x]) ++ l by simp, growL_get (by simp), growL_snoc]
  simp [List.getD, growL_len]
theorem grow_snoc (e : List Ex) (x : Ex) : grow (e ++ [x]) = nodeOf (growL e) x := by
  unfold grow
  have := growL_at e [] x
  simpa using this
/-- How often a node is a kid. -/
def cnt : List Ex → Nat → Nat
  | [], _ => 0
  | x :: e, i => x.kids.count (i : Int) + cnt e i
theorem cnt_app (e l : List Ex) (i : Nat) : cnt (e ++ l) i = cnt e i + cnt l i := by
  induction e with
  | nil => simp [cnt]
  | cons x e ih => simp [cnt, ih, Nat.add_assoc]
def kidsIn (e : List Ex) : Prop := ∀ (j : Nat) (x : Ex), e[j]? = some x → ∀ k ∈ x.kids, 0 ≤ k ∧ k < (j : Int)
theorem kidsIn_snoc {e : List Ex} {x : Ex} : kidsIn (e ++ [x]) ↔ kidsIn e ∧ ∀ k ∈ x.kids, 0 ≤ k ∧ k < e.length := by
  constructor
  · intro h
    refine ⟨fun j y hj => h j y ?_, ?_⟩
    · rw [List.getElem?_append_left (List.getElem?_eq_some_iff.1 hj).1]; exact hj
    · exact h e.length x (by simp)
  · intro ⟨h1, h2⟩ j y hj
    by_cases hl : j < e.length
    · rw [List.getElem?_append_left hl] at hj; exact h1 j y hj
    · rw [List.getElem?_append_right (by omega)] at hj
      have : j = e.length := by
        have := (List.getElem?_eq_some_iff.1 hj).1
        simp at this; omega
      subst this
      simp at hj; subst hj; exact h2
theorem kidsIn_pre {e l : List Ex} (h : kidsIn (e ++ l)) : kidsIn e := fun j y hj => h j y (by
  rw [List.getElem?_append_left (List.getElem?_eq_some_iff.1 hj).1]; exact hj)

/-- What is known when some nodes have been looked at. -/
structure Run (pre : List Ex) (N : Nat) (d p : List Int) : Prop where
  dl : d.length = N
  pl : p.length = N
  pv : ∀ i, i < N → p.getD i 0 = cnt pre i
  dv : ∀ i, i < pre.length → d.getD i 0 = depthT ((growL pre).getD i default)
  d0 : ∀ i, pre.length ≤ i → d.getD i 0 = 0
theorem kidStep_none (i : Nat) : ∀ ks : List Int, ks.foldl (kidStep i) none = none
  | [] => rfl
  | k :: ks => by rw [List.foldl_cons]; exact kidStep_none i ks
theorem getD_set_eq {l : List Int} {i : Nat} {v : Int} (h : i < l.length) : (l.set i v).getD i 0 = v := by simp [List.getD, h]
theorem getD_set_ne {l : List Int} {i j : Nat} {v : Int} (h : i ≠ j) : (l.set i v).getD j 0 = l.getD j 0 := by simp [List.getD, List.getElem?_set_ne h]
theorem set_getD {l : List Int} {i : Nat} (h : i < l.length) : l.set i (l.getD i 0) = l := by
  apply List.ext_getElem?
  intro j
  by_cases hj : i = j
  · subst hj; simp [h, List.getD, List.getElem?_eq_getElem h]
  · rw [List.getElem?_set_ne hj]
theorem kids_run {i N : Nat} : ∀ (ks : List Int) (d p : List Int), d.length = N → p.length = N → i < N → (∀ k ∈ ks, 0 ≤ k ∧ k < i) →
    ∃ p', ks.foldl (kidStep i) (some (d, p)) = some (d.set i (ks.foldl (fun m k => mx m (d.getD k.toNat 0)) (d.getD i 0)), p') ∧ p'.length = N ∧ ∀ j, j < N → p'.getD j 0 = p.getD j 0 + ks.count (j : Int)
  | [], d, p, hd, hp, hi, _ => ⟨p, by rw [List.foldl_nil, List.foldl_nil, set_getD (show i < d.length by omega)], hp, by simp⟩
  | k :: ks, d, p, hd, hp, hi, hk => by
    obtain ⟨k0, k1⟩ := hk k (by simp)
    have hks : ∀ k ∈ ks, 0 ≤ k ∧ k < i := fun y hy => hk y (by simp [hy])
    obtain ⟨p', h1, h2, h3⟩ := kids_run ks (d.set i (mx (d.getD i 0) (d.getD k.toNat 0))) (p.set k.toNat (p.getD k.toNat 0 + 1)) (by simpa using hd) (by simpa using hp) hi hks
    refine ⟨p', ?_, h2, fun j hj => ?_⟩
    · rw [List.foldl_cons]
      have e1 : kidStep i (some (d, p)) k = some (d.set i (mx (d.getD i 0) (d.getD k.toNat 0)), p.set k.toNat (p.getD k.toNat 0 + 1)) := by
        simp only [kidStep, Option.bind_some, mx]
        rw [if_neg (by omega)]
      rw [e1, h1, List.set_set, getD_set_eq (by omega), List.foldl_cons]
      congr 2
      have : ∀ (l : List Int) (m : Int), (∀ k ∈ l, 0 ≤ k ∧ k < i) → l.foldl (fun m k' => mx m ((d.set i (mx (d.getD i 0) (d.getD k.toNat 0))).getD k'.toNat 0)) m = l.foldl (fun m k' => mx m (d.getD k'.toNat 0)) m := by
        intro l
        induction l with
        | nil => intro m _; rfl
        | cons y l ih =>
          intro m hl
          have hy := hl y (by simp)
          simp only [List.foldl_cons]
          rw [getD_set_ne (by omega), ih _ (fun z hz => hl z (by simp [hz]))]
      rw [this ks _ hks]
    · rw [h3 j hj, List.count_cons]
      by_cases hkj : k.toNat = j
      · subst hkj
        rw [getD_set_eq (by omega)]
        have : (k == ((k.toNat : Nat) : Int)) = true := by simp; omega
        rw [if_pos this]; omega
      · rw [getD_set_ne hkj]
        have : ¬ (k == (j : Int)) = true := by simp; omega
        rw [if_neg this]; omega
theorem kids_bad {i N : Nat} : ∀ (ks : List Int) (d p : List Int), ¬ (∀ k ∈ ks, 0 ≤ k ∧ k < i) → ks.foldl (kidStep i) (some (d, p)) = none
  | [], d, p, h => absurd (by simp) h
  | k :: ks, d, p, h => by
    rw [List.foldl_cons]
    by_cases hk : 0 ≤ k ∧ k < i
    · have e1 : kidStep i (some (d, p)) k = some (d.set i (mx (d.getD i 0) (d.getD k.toNat 0)), p.set k.toNat (p.getD k.toNat 0 + 1)) := by
        simp only [kidStep, Option.bind_some, mx]
        rw [if_neg (by omega)]
      rw [e1]
      refine kids_bad (N := N) ks _ _ fun h2 => h ?_
      intro y hy
      rcases List.mem_cons.1 hy with rfl | hy
      · exact hk
      · exact h2 y hy
    · have e1 : kidStep i (some (d, p)) k = none := by
        simp only [kidStep, Option.bind_some]
        rw [if_pos (by omega)]
      rw [e1, kidStep_none]
theorem foldl_kids (f : Int → Int) : ∀ (l : List Int) (m : Int), l.foldl (fun m k => mx m (f k)) m = (l.map f).foldl mx m
  | [], _ => rfl
  | k :: l, m => by simp [foldl_kids f l]
theorem depthT_nodeOf (ts : List Tr) (x : Ex) : depthT (nodeOf ts x) = (x.kids.map fun k => depthT (ts.getD k.toNat default)).foldl mx 0 + 1 := by
  simp only [nodeOf, depthT, depthTs_eq, List.map_map]; rfl
theorem Run.step {pre : List Ex} {N : Nat} {d p : List Int} {x : Ex} (h : Run pre N d p) (hN : pre.length < N) (hk : ∀ k ∈ x.kids, 0 ≤ k ∧ k < pre.length) : ∃ d' p', nodeStep (some (d, p)) (x, pre.length) = some (d', p') ∧ Run (pre ++ [x]) N d' p' := by
  obtain ⟨p', h1, h2, h3⟩ := kids_run x.kids d p h.dl h.pl hN hk
  have hdl := h.dl
  refine ⟨_, p', by simp only [nodeStep, h1, Option.map_some]; rfl, by simpa using hdl, h2, fun i hi => ?_, fun i hi => ?_, fun i hi => ?_⟩
  · rw [h3 i hi, h.pv i hi, cnt_app]; simp [cnt]
  · rw [List.set_set]
    simp only [List.length_append, List.length_singleton] at hi
    by_cases e : pre.length = i
    · subst e
      rw [getD_set_eq (by omega), getD_set_eq (by omega), growL_at pre [] x, depthT_nodeOf, h.d0 _ (Nat.le_refl _), foldl_kids]
      congr 2
      refine List.map_congr_left fun k hk2 => ?_
      have := hk k hk2
      exact h.dv _ (by omega)
    · rw [getD_set_ne e, growL_get (by omega), h.dv i (by omega)]
  · simp only [List.length_append, List.length_singleton] at hi
    rw [List.set_set, getD_set_ne (by omega), h.d0 i (by omega)]
theorem nodeStep_none (l : List (Ex × Nat)) : l.foldl nodeStep none = none := by
  induction l with
  | nil => rfl
  | cons x l ih =>
    have : nodeStep none x = none := by simp [nodeStep, kidStep_none]
    rw [List.foldl_cons, this, ih]
theorem run_spec {N : Nat} : ∀ (l pre : List Ex) (d p : List Int), Run pre N d p → kidsIn pre → pre.length + l.length = N →
    (kidsIn (pre ++ l) ∧ ∃ d' p', (l.zipIdx pre.length).foldl nodeStep (some (d, p)) = some (d', p') ∧ Run (pre ++ l) N d' p') ∨ (¬ kidsIn (pre ++ l) ∧ (l.zipIdx pre.length).foldl nodeStep (some (d, p)) = none)
  | [], pre, d, p, h, hk, _ => .inl ⟨by simpa using hk, d, p, rfl, by simpa using h⟩
  | x :: l, pre, d, p, h, hk, hN => by
    rw [List.zipIdx_cons, List.foldl_cons]
    simp only [List.length_cons] at hN
    by_cases hx : ∀ k ∈ x.kids, 0 ≤ k ∧ k < pre.length
    · obtain ⟨d1, p1, e1, h1⟩ := h.step (by omega) hx
      rw [e1]
      have := run_spec l (pre ++ [x]) d1 p1 h1 (kidsIn_snoc.2 ⟨hk, hx⟩) (by simp; omega)
      simpa [List.append_assoc] using this
    · right
      have e1 : nodeStep (some (d, p)) (x, pre.length) = none := by simp only [nodeStep, kids_bad (N := N) x.kids d p hx, Option.map_none]
      rw [e1, nodeStep_none]
      refine ⟨fun h2 => hx ?_, rfl⟩
      exact h2 pre.length x (by simp)
theorem treeRun_spec (e : List Ex) : (kidsIn e ∧ ∃ d p, treeRun e = some (d, p) ∧ Run e e.length d p) ∨ (¬ kidsIn e ∧ treeRun e = none) := by
  have h0 : Run [] e.length (List.replicate e.length 0) (List.replicate e.length 0) := by
    have z : ∀ i, (List.replicate e.length (0 : Int)).getD i 0 = 0 := fun i => by
      simp only [List.getD]
      rw [List.getElem?_replicate]; split <;> rfl
    exact ⟨by simp, by simp, fun i _ => by rw [z]; rfl, fun i hi => by simp at hi, fun i _ => z i⟩
  have := run_spec e [] _ _ h0 (fun j x hj => by simp at hj) (by simp)
  simpa [treeRun] using this
/-- A list that is a tree. -/
structure IsTree (e : List Ex) : Prop where
  ne : e ≠ []
  k : kidsIn e
  c : ∀ i, i < e.length → (cnt e i = 1 ↔ i + 1 < e.length)
theorem treeErr_iff (e : List Ex) : treeErr e = 0 ↔ e.length ≤ 4096 ∧ IsTree e ∧ depthT (grow e) ≤ 400 := by
  unfold treeErr
  by_cases h1 : 4096 < e.length
  · rw [if_pos h1]; exact ⟨fun h => absurd h (by decide), fun h => by omega⟩
  rw [if_neg h1]
  by_cases h2 : e.length = 0
  · rw [if_pos h2]
    exact ⟨fun h => absurd h (by decide), fun h => absurd (List.length_eq_zero_iff.1 h2) h.2.1.ne⟩
  rw [if_neg h2]
  rcases treeRun_spec e with ⟨hk, d, p, h3, hr⟩ | ⟨hk, h3⟩
  · rw [h3]
    have hd : d.getD (e.length - 1) 0 = depthT (grow e) := hr.dv _ (by omega)
    have hodd : (List.range e.length).any (oddParent e.length p) = true ↔ ¬ ∀ i, i < e.length → (cnt e i = 1 ↔ i + 1 < e.length) := by
      rw [List.any_eq_true]
      constructor
      · rintro ⟨i, hi, hb⟩ h
        have hi' : i < e.length := by simpa using hi
        have := h i hi'
        have hc := hr.pv i hi'
        simp only [oddParent, Bool.not_eq_true', beq_eq_false_iff_ne, ne_eq] at hb
        apply hb
        rw [Bool.eq_iff_iff, beq_iff_eq, decide_eq_true_iff, hc]
        omega
      · intro h
        simp only [Classical.not_forall] at h
        obtain ⟨i, hi, hne⟩ := h
        refine ⟨i, by simpa using hi, ?_⟩
        have hc := hr.pv i hi
        simp only [oddParent, Bool.not_eq_true', beq_eq_false_iff_ne, ne_eq]
        intro hb
        rw [Bool.eq_iff_iff, beq_iff_eq, decide_eq_true_iff, hc] at hb
        apply hne
        omega
    simp only
    by_cases h4 : (List.range e.length).any (oddParent e.length p) = true
    · rw [if_pos h4]
      exact ⟨fun h => absurd h (by decide), fun h => absurd h.2.1.c (hodd.1 h4)⟩
    · rw [if_neg h4, hd]
      have hc : ∀ i, i < e.length → (cnt e i = 1 ↔ i + 1 < e.length) := by
        apply Classical.byContradiction
        intro hn
        exact h4 (hodd.2 hn)
      by_cases h5 : 400 < depthT (grow e)
      · rw [if_pos h5]; exact ⟨fun h => absurd h (by decide), fun h => by omega⟩
      · rw [if_neg h5]
        exact ⟨fun _ => ⟨by omega, ⟨fun h => h2 (by simp [h]), hk, hc⟩, by omega⟩, fun _ => rfl⟩
  · rw [h3]
    simp only
    exact ⟨fun h => absurd h (by decide), fun h => absurd h.2.1.k hk⟩

/-- Weighted sums of a list of values. -/
def wsum (c : Nat → Int) : Nat → List Int → Int
  | _, [] => 0
  | j, v :: vs => c j * v + wsum c (j + 1) vs
theorem wsum_app (c : Nat → Int) : ∀ (vs us : List Int) (j : Nat), wsum c j (vs ++ us) = wsum c j vs + wsum c (j + vs.length) us
  | [], us, j => by simp [wsum]
  | v :: vs, us, j => by
    simp only [List.cons_append, wsum, wsum_app c vs us, List.length_cons]
    rw [show j + 1 + vs.length = j + (vs.length + 1) by omega]; omega
theorem wsum_congr {c c' : Nat → Int} : ∀ (vs : List Int) (j : Nat), (∀ i, j ≤ i → i < j + vs.length → c i = c' i) → wsum c j vs = wsum c' j vs
  | [], _, _ => rfl
  | v :: vs, j, h => by
    simp only [wsum]
    rw [h j (by omega) (by simp), wsum_congr vs (j + 1) (fun i h1 h2 => h i (by omega) (by simp; omega))]
theorem wsum_sub (c c' : Nat → Int) : ∀ (vs : List Int) (j : Nat), wsum (fun i => c i - c' i) j vs = wsum c j vs - wsum c' j vs
  | [], _ => by simp [wsum]
  | v :: vs, j => by
    simp only [wsum, wsum_sub c c' vs, Int.sub_mul]; omega
theorem wsum_add (c c' : Nat → Int) : ∀ (vs : List Int) (j : Nat), wsum (fun i => c i + c' i) j vs = wsum c j vs + wsum c' j vs
  | [], _ => by simp [wsum]
  | v :: vs, j => by
    simp only [wsum, wsum_add c c' vs, Int.add_mul]; omega
theorem wsum_zero {c : Nat → Int} : ∀ (vs : List Int) (j : Nat), (∀ i, j ≤ i → i < j + vs.length → c i = 0) → wsum c j vs = 0
  | [], _, _ => rfl
  | v :: vs, j, h => by
    simp only [wsum]
    rw [h j (by omega) (by simp), wsum_zero vs (j + 1) (fun i h1 h2 => h i (by omega) (by simp; omega))]; omega
theorem wsum_one (k : Int) : ∀ (vs : List Int) (j : Nat), (j : Int) ≤ k → k < j + vs.length → wsum (fun i => if k = (i : Int) then 1 else 0) j vs = vs.getD (k.toNat - j) 0
  | [], j, h1, h2 => by simp at h2; omega
  | v :: vs, j, h1, h2 => by
    simp only [wsum]
    by_cases e : k = j
    · subst e
      rw [wsum_zero vs (j + 1) (fun i h3 h4 => if_neg (by omega))]
      simp [List.getD]
    · rw [if_neg e, wsum_one k vs (j + 1) (by omega) (by simp at h2; omega)]
      rw [show k.toNat - j = (k.toNat - (j + 1)) + 1 by omega]
      simp [List.getD]
theorem wsum_count (vs : List Int) : ∀ ks : List Int, (∀ k ∈ ks, 0 ≤ k ∧ k < vs.length) → wsum (fun i => ((ks.count (i : Int) : Nat) : Int)) 0 vs = (ks.map fun k => vs.getD k.toNat 0).sum
  | [], _ => by simp; exact wsum_zero vs 0 (fun _ _ _ => by simp)
  | k :: ks, h => by
    have hk := h k (by simp)
    have e : wsum (fun i => (((k :: ks).count (i : Int) : Nat) : Int)) 0 vs = wsum (fun i => (if k = (i : Int) then 1 else 0) + ((ks.count (i : Int) : Nat) : Int)) 0 vs := by
      refine wsum_congr vs 0 fun i _ _ => ?_
      rw [List.count_cons]
      by_cases e : k = (i : Int)
      · simp [e]; omega
      · simp [e]
    rw [e, wsum_add, wsum_one k vs 0 (by omega) (by omega), wsum_count vs ks (fun y hy => h y (by simp [hy]))]
    simp
/-- The labels of the nodes of a list. -/
def labE (e : List Ex) (x : Ex) : Lab := ⟨x.op, x.n, x.binds, x.kids.map (fun k => ((growL e).getD k.toNat default).op), x.alts⟩
def labs (e : List Ex) : List Lab := e.map (labE e)
theorem labs_snoc {e : List Ex} {x : Ex} (h : kidsIn (e ++ [x])) : labs (e ++ [x]) = labs e ++ [labE e x] := by
  obtain ⟨h1, h2⟩ := kidsIn_snoc.1 h
  have same : ∀ y : Ex, (∀ k ∈ y.kids, 0 ≤ k ∧ k < e.length) → labE (e ++ [x]) y = labE e y := by
    intro y hy
    simp only [labE, Lab.mk.injEq, true_and, and_true]
    refine List.map_congr_left fun k hk => ?_
    have := hy k hk
    rw [growL_get (by omega)]
  simp only [labs, List.map_append, List.map_cons, List.map_nil]
  rw [same x h2]
  congr 1
  refine List.map_congr_left fun y hy => same y fun k hk => ?_
  obtain ⟨j, hj⟩ := List.mem_iff_getElem?.1 hy
  have := h1 j y hj k hk
  have hl := (List.getElem?_eq_some_iff.1 hj).1
  omega
theorem sumT_nodeOf (g : Lab → Int) (e : List Ex) (x : Ex) : sumT g (nodeOf (growL e) x) = g (labE e x) + (x.kids.map fun k => sumT g ((growL e).getD k.toNat default)).sum := by
  simp only [nodeOf, sumT, sumTs_eq, labE, List.map_map]; rfl
theorem sum_pre (g : Lab → Int) (e : List Ex) (h : kidsIn e) : wsum (fun i => 1 - (cnt e i : Int)) 0 ((growL e).map (sumT g)) = ((labs e).map g).sum := by
  revert h
  refine snoc_ind (P := fun e => kidsIn e → wsum (fun i => 1 - (cnt e i : Int)) 0 ((growL e).map (sumT g)) = ((labs e).map g).sum) (fun _ => rfl) (fun e x ih h => ?_) e
  obtain ⟨h1, h2⟩ := kidsIn_snoc.1 h
  have ih := ih h1
  have hlen : ((growL e).map (sumT g)).length = e.length := by simp [growL_len]
  have hz : cnt (e ++ [x]) e.length = 0 := by
    have : ∀ (l : List Ex) (n : Nat), (∀ y ∈ l, ∀ k ∈ y.kids, k < (n : Int)) → cnt l n = 0 := by
      intro l
      induction l with
      | nil => intro n _; rfl
      | cons y l ih2 =>
        intro n hl
        simp only [cnt]
        rw [ih2 n (fun z hz => hl z (by simp [hz])), Nat.add_zero, List.count_eq_zero]
        intro hm
        have := hl y (by simp) _ hm
        omega
    refine this _ _ fun y hy k hk => ?_
    obtain ⟨j, hj⟩ := List.mem_iff_getElem?.1 hy
    have := h j y hj k hk
    have hl := (List.getElem?_eq_some_iff.1 hj).1
    simp at hl
    omega
  rw [growL_snoc, List.map_append, wsum_app, hlen, labs_snoc h, List.map_append, List.sum_append, ← ih]
  simp only [List.map_cons, List.map_nil, wsum, Nat.zero_add, hz, List.sum_cons, List.sum_nil, sumT_nodeOf]
  have e1 : wsum (fun i => 1 - (cnt (e ++ [x]) i : Int)) 0 ((growL e).map (sumT g)) = wsum (fun i => (1 - (cnt e i : Int)) - ((x.kids.count (i : Int) : Nat) : Int)) 0 ((growL e).map (sumT g)) := by
    refine wsum_congr _ 0 fun i _ _ => ?_
    rw [cnt_app]; simp [cnt]; omega
  rw [e1, wsum_sub, wsum_count _ _ (fun k hk => by rw [hlen]; exact h2 k hk)]
  have e2 : (x.kids.map fun k => ((growL e).map (sumT g)).getD k.toNat 0) = x.kids.map fun k => sumT g ((growL e).getD k.toNat default) := by
    refine List.map_congr_left fun k hk => ?_
    have := h2 k hk
    have hl : k.toNat < (growL e).length := by rw [growL_len]; omega
    simp [List.getD, List.getElem?_eq_getElem hl]
  rw [e2]
  omega
theorem cnt_last {e : List Ex} (h : kidsIn e) {n : Nat} (hn : e.length ≤ n + 1) : cnt e n = 0 := by
  have : ∀ (l : List Ex), (∀ y ∈ l, ∀ k ∈ y.kids, k < (n : Int)) → cnt l n = 0 := by
    intro l
    induction l with
    | nil => intro _; rfl
    | cons y l ih2 =>
      intro hl
      simp only [cnt]
      rw [ih2 (fun z hz => hl z (by simp [hz])), Nat.add_zero, List.count_eq_zero]
      intro hm
      have := hl y (by simp) _ hm
      omega
  refine this _ fun y hy k hk => ?_
  obtain ⟨j, hj⟩ := List.mem_iff_getElem?.1 hy
  have := h j y hj k hk
  have hl := (List.getElem?_eq_some_iff.1 hj).1
  omega
/-- A SUM OVER THE NODES IS ONE OVER THE TREE. -/
theorem sum_tree (g : Lab → Int) {e : List Ex} (h : IsTree e) : ((labs e).map g).sum = sumT g (grow e) := by
  rw [← sum_pre g e h.k]
  obtain ⟨pre, x, rfl⟩ : ∃ pre x, e = pre ++ [x] := ⟨e.dropLast, e.getLast h.ne, (List.dropLast_concat_getLast h.ne).symm⟩
  rw [growL_snoc, List.map_append, wsum_app]
  rw [wsum_zero _ 0 (fun i _ hi => ?_), grow_snoc]
  · simp only [List.map_cons, List.map_nil, wsum, List.length_map, growL_len, Nat.zero_add]
    rw [cnt_last h.k (by simp)]; omega
  · have hi : i < pre.length := by simpa [growL_len] using hi
    have := (h.c i (by simp; omega)).2 (by simp; omega)
    rw [this]; rfl
end Go.CoreX
/- Core expressions as plain data: the list of a tree. No condition. -/
namespace Go.CoreX
set_option linter.unusedVariables false
set_option linter.unusedSimpArgs false
structure OkT (out : List Ex) (t : Tr) : Prop where
  lt : out.length < (listT out t).length
  k : kidsIn (listT out t)
  g : ∃ r, growL (listT out t) = growL out ++ r ++ [t]
  c : ∀ i, cnt (listT out t) i = cnt out i + if out.length ≤ i ∧ i + 1 < (listT out t).length then 1 else 0
structure OkTs (out : List Ex) (ts : List Tr) : Prop where
  le : out.length ≤ (listTs out ts).1.length
  k : kidsIn (listTs out ts).1
  g : ∃ r, growL (listTs out ts).1 = growL out ++ r
  ix : ∀ k ∈ (listTs out ts).2, (out.length : Int) ≤ k ∧ k < (listTs out ts).1.length
  m : (listTs out ts).2.map (fun k => (growL (listTs out ts).1).getD k.toNat default) = ts
  c : ∀ i, cnt (listTs out ts).1 i + (listTs out ts).2.count (i : Int) = cnt out i + if out.length ≤ i ∧ i < (listTs out ts).1.length then 1 else 0
mutual
theorem listT_ok : ∀ (t : Tr) (out : List Ex), kidsIn out → OkT out t
  | .mk o n b ks a, out, h => by
    have H := listTs_ok ks out h
    have e : listT out (.mk o n b ks a) = (listTs out ks).1 ++ [⟨o, n, b, (listTs out ks).2, a⟩] := by simp only [listT]
    refine ⟨?_, ?_, ?_, fun i => ?_⟩
    · rw [e]; have := H.le; simp; omega
    · rw [e, kidsIn_snoc]
      refine ⟨H.k, fun k hk => ?_⟩
      have := H.ix k hk
      exact ⟨by omega, this.2⟩
    · obtain ⟨r, hr⟩ := H.g
      refine ⟨r, ?_⟩
      rw [e, growL_snoc]
      have : nodeOf (growL (listTs out ks).1) ⟨o, n, b, (listTs out ks).2, a⟩ = .mk o n b ks a := by
        simp only [nodeOf, Tr.mk.injEq, true_and, and_true]; exact H.m
      rw [this, hr]
    · rw [e, cnt_app]
      have := H.c i
      simp only [cnt, Nat.add_zero, List.length_append, List.length_singleton]
      rw [this]
      congr 1
      by_cases h1 : out.length ≤ i ∧ i < (listTs out ks).1.length
      · rw [if_pos h1, if_pos (by omega)]
      · rw [if_neg h1, if_neg (by omega)]
theorem listTs_ok : ∀ (ts : List Tr) (out : List Ex), kidsIn out → OkTs out ts
  | [], out, h => ⟨by simp [listTs], by simpa [listTs] using h, ⟨[], by simp [listTs]⟩, by simp [listTs], by simp [listTs], fun i => by
      have e1 : (listTs out []).1 = out := by simp only [listTs]
      have e2 : (listTs out []).2 = [] := by simp only [listTs]
      rw [e1, e2, if_neg (by omega)]; rfl⟩
  | t :: ts, out, h => by
    have H1 := listT_ok t out h
    have H2 := listTs_ok ts (listT out t) H1.k
    have e1 : (listTs out (t :: ts)).1 = (listTs (listT out t) ts).1 := by simp only [listTs]
    have e2 : (listTs out (t :: ts)).2 = (((listT out t).length : Int) - 1) :: (listTs (listT out t) ts).2 := by simp only [listTs]
    have l1 := H1.lt
    have l2 := H2.le
    obtain ⟨r1, g1⟩ := H1.g
    obtain ⟨r2, g2⟩ := H2.g
    refine ⟨by rw [e1]; omega, by rw [e1]; exact H2.k, ⟨r1 ++ [t] ++ r2, ?_⟩, ?_, ?_, fun i => ?_⟩
    · rw [e1, g2, g1]; simp
    · intro k hk
      rw [e2] at hk
      rw [e1]
      rcases List.mem_cons.1 hk with rfl | hk
      · omega
      · have := H2.ix k hk; omega
    · rw [e1, e2, List.map_cons, H2.m]
      congr 1
      have hl : (growL (listT out t)).length = (listT out t).length := growL_len _
      have hl2 : (growL out ++ r1).length + 1 = (listT out t).length := by rw [← hl, g1]; simp; omega
      rw [g2, getD_app (by rw [hl]; omega), g1]
      have : ((((listT out t).length : Int) - 1)).toNat = (growL out ++ r1).length := by omega
      rw [this]
      simp [List.getD]
    · rw [e1, e2, List.count_cons]
      have c2 := H2.c i
      have c1 := H1.c i
      have hh : (((((listT out t).length : Int) - 1) == (i : Int)) = true) ↔ i + 1 = (listT out t).length := by
        rw [beq_iff_eq]; omega
      by_cases h1 : i + 1 = (listT out t).length
      · rw [if_pos (hh.2 h1)]
        rw [if_neg (by omega)] at c2
        rw [if_neg (by omega)] at c1
        rw [if_pos (by omega)]
        omega
      · rw [if_neg (fun h => h1 (hh.1 h))]
        by_cases h2 : out.length ≤ i ∧ i + 1 < (listT out t).length
        · rw [if_pos h2] at c1
          rw [if_neg (by omega)] at c2
          rw [if_pos (by omega)]
          omega
        · rw [if_neg h2] at c1
          by_cases h3 : (listT out t).length ≤ i ∧ i < (listTs (listT out t) ts).1.length
          · rw [if_pos h3] at c2
            rw [if_pos (by omega)]
            omega
          · rw [if_neg h3] at c2
            rw [if_neg (by omega)]
            omega
end
theorem kidsIn_nil : kidsIn [] := fun j x hj => by simp at hj
theorem grow_list (t : Tr) : grow (listT [] t) = t := by
  have H := listT_ok t [] kidsIn_nil
  obtain ⟨r, hr⟩ := H.g
  have hl : (growL (listT [] t)).length = (listT [] t).length := growL_len _
  unfold grow
  rw [hr] at hl ⊢
  have : (listT [] t).length - 1 = (growL [] ++ r).length := by simp at hl ⊢; omega
  rw [this]
  simp [List.getD]
theorem isTree_list (t : Tr) : IsTree (listT [] t) := by
  have H := listT_ok t [] kidsIn_nil
  refine ⟨fun h => ?_, H.k, fun i hi => ?_⟩
  · have := H.lt; rw [h] at this; simp at this
  · rw [H.c i]
    simp only [cnt, List.length_nil, Nat.zero_le, true_and, Nat.zero_add]
    split <;> omega
/-- Two lists of one tree hold the same nodes. -/
theorem sum_count (ls : List Lab) (l0 : Lab) : (ls.map fun l => if l = l0 then (1 : Int) else 0).sum = ls.count l0 := by
  induction ls with
  | nil => rfl
  | cons l ls ih =>
    simp only [List.map_cons, List.sum_cons, ih, List.count_cons]
    by_cases e : l = l0
    · simp [e]; omega
    · simp [e]
theorem labs_perm {e f : List Ex} (he : IsTree e) (hf : IsTree f) (h : grow e = grow f) : (labs e).Perm (labs f) := by
  rw [List.perm_iff_count]
  intro l0
  have h1 := sum_tree (fun l => if l = l0 then (1 : Int) else 0) he
  have h2 := sum_tree (fun l => if l = l0 then (1 : Int) else 0) hf
  rw [sum_count] at h1 h2
  rw [h] at h1
  omega
theorem len_labs (e : List Ex) : (labs e).length = e.length := by simp [labs]
/-- The operation of a kid. -/
theorem op_grow (e : List Ex) : ∀ i, i < e.length → ((growL e).getD i default).op = (e.getD i ⟨0, 0, [], [], []⟩).op := by
  refine snoc_ind (P := fun e => ∀ i, i < e.length → ((growL e).getD i default).op = (e.getD i ⟨0, 0, [], [], []⟩).op) (fun i hi => by simp at hi) (fun e x ih i hi => ?_) e
  by_cases h : i < e.length
  · rw [growL_get h, ih i h, getD_app h]
  · have : i = e.length := by simp at hi; omega
    subst this
    rw [growL_at e [] x]
    simp [nodeOf, List.getD]
theorem shape_len {o n : Int} {b kx ky : List Int} {a : List Alt} (h : kx.length = ky.length) : shape ⟨o, n, b, kx, a⟩ = shape ⟨o, n, b, ky, a⟩ := by
  unfold shape wants altsOk altBad
  simp only [h]
theorem ranges_len {o n : Int} {b kx ky : List Int} {a : List Alt} (h : kx.length = ky.length) : ranges ⟨o, n, b, kx, a⟩ = ranges ⟨o, n, b, ky, a⟩ := by
  unfold ranges fields
  simp only [h]
theorem shape_rec' {x : Ex} (h : shape x = true) (h5 : x.op = 5) : x.kids.length = x.binds.length + 1 := by
  unfold shape wants at h
  simp [h5] at h
  omega
theorem nodeErrF_lab {flat : Bool} {e f : List Ex} {x y : Ex} (hx : ∀ k ∈ x.kids, 0 ≤ k ∧ k < (e.length : Int)) (hy : ∀ k ∈ y.kids, 0 ≤ k ∧ k < (f.length : Int)) (h : labE e x = labE f y) : nodeErrF flat e x = nodeErrF flat f y := by
  obtain ⟨o, n, b, kx, a⟩ := x
  obtain ⟨o', n', b', ky, a'⟩ := y
  simp only [labE, Lab.mk.injEq] at h
  obtain ⟨rfl, rfl, rfl, hk, rfl⟩ := h
  have hl : kx.length = ky.length := by have := congrArg List.length hk; simpa using this
  unfold nodeErrF nodeErr
  rw [shape_len hl, ranges_len hl]
  cases hs : shape ⟨o, n, b, ky, a⟩ with
  | false => simp
  | true =>
    have hb : (List.range b.length).any (bindBad e ⟨o, n, b, kx, a⟩) = (List.range b.length).any (bindBad f ⟨o, n, b, ky, a⟩) := by
      rw [Bool.eq_iff_iff, List.any_eq_true, List.any_eq_true]
      have key : ∀ i, i < b.length → bindBad e ⟨o, n, b, kx, a⟩ i = bindBad f ⟨o, n, b, ky, a⟩ i := by
        intro i hi
        unfold bindBad
        by_cases h5 : o = 5
        · have hr := shape_rec' hs h5
          simp only at hr
          obtain ⟨k, h1⟩ : ∃ k, kx[i]? = some k := ⟨kx[i]'(by omega), List.getElem?_eq_getElem _⟩
          obtain ⟨m, h2⟩ : ∃ k, ky[i]? = some k := ⟨ky[i]'(by omega), List.getElem?_eq_getElem _⟩
          have k1 := hx k (List.mem_of_getElem? h1)
          have k2 := hy m (List.mem_of_getElem? h2)
          have h3 := congrArg (fun l => l[i]?) hk
          simp only [List.getElem?_map, h1, h2, Option.map_some, Option.some.injEq] at h3
          rw [op_grow e _ (by omega), op_grow f _ (by omega)] at h3
          have e1 : kx.getD i 0 = k := by rw [List.getD_eq_getElem?_getD, h1]; rfl
          have e2 : ky.getD i 0 = m := by rw [List.getD_eq_getElem?_getD, h2]; rfl
          simp only [e1, e2, h3]
        · have : (o == 5) = false := by simpa using h5
          simp only [this, Bool.false_and]
      constructor
      · rintro ⟨i, hi, hb⟩; exact ⟨i, hi, by rw [← key i (by simpa using hi)]; exact hb⟩
      · rintro ⟨i, hi, hb⟩; exact ⟨i, hi, by rw [key i (by simpa using hi)]; exact hb⟩
    simp only [hb]
theorem firstErr_zero {α : Type} (f : α → Int) : ∀ l : List α, firstErr f l = 0 ↔ ∀ x ∈ l, f x = 0
  | [] => by simp [firstErr]
  | a :: l => by
    simp only [firstErr, List.mem_cons, forall_eq_or_imp]
    by_cases h : f a = 0
    · simp [h, firstErr_zero f l]
    · simp [h]
theorem hasDup_false : ∀ l : List Int, hasDup l = false ↔ l.Nodup
  | [] => by simp [hasDup]
  | n :: l => by simp [hasDup, List.nodup_cons, hasDup_false l]
theorem kids_lt {e : List Ex} (h : kidsIn e) {x : Ex} (hx : x ∈ e) : ∀ k ∈ x.kids, 0 ≤ k ∧ k < (e.length : Int) := by
  intro k hk
  obtain ⟨j, hj⟩ := List.mem_iff_getElem?.1 hx
  have := h j x hj k hk
  have hl := (List.getElem?_eq_some_iff.1 hj).1
  omega
theorem allBinders_labs (e : List Ex) : allBinders e = (labs e).flatMap fun l => bindersN l.op l.binds l.alts := by
  unfold allBinders labs
  rw [List.flatMap_map]; rfl
theorem body_isTree {e : List Ex} {params : List Int} {flat : Bool} (hb : body e params flat = 0) : IsTree e := by
  unfold body at hb
  by_cases h1 : treeErr e = 0
  · exact ((treeErr_iff e).1 h1).2.1
  · rw [if_pos h1] at hb; exact absurd hb h1
theorem len_list {e : List Ex} (h : check e = 0) : (listT [] (grow e)).length = e.length := by
  have hp := labs_perm (body_isTree h) (isTree_list (grow e)) (grow_list _).symm
  rw [← len_labs e, ← len_labs]; exact hp.length_eq.symm
end Go.CoreX
/- Core expressions as plain data: equal up to renaming. No condition. -/
namespace Go.CoreX
set_option linter.unusedVariables false
set_option linter.unusedSimpArgs false
abbrev Nm := Int → Option Int
def setN (m : Nm) (k v : Int) : Nm := fun j => if k = j then some v else m j
def putsN (m : Nm) : List Int → List Int → Nm
  | x :: xs, y :: ys => putsN (setN m x y) xs ys
  | _, _ => m
def altsLike : List Alt → List Alt → Bool
  | a :: l, b :: r => (a.tag == b.tag && a.binds.length == b.binds.length) && altsLike l r
  | _, _ => true
def unlike (o : Int) (nk nb na : Nat) (t : Tr) : Bool := !(o == t.op && nk == t.kids.length && nb == t.binds.length && na == t.alts.length)
def sameVar (m : Nm) (n n' : Int) : Bool := match m n with | some v => v == n' | none => n == n'
mutual
def sameT : Tr → Tr → Nm → Bool × Nm
  | .mk o n b k a, t, m =>
    if unlike o k.length b.length a.length t = true then (false, m) else
    if o = 0 then (sameVar m n t.n, m) else
    if (!(n == t.n)) || (o == 9 && !(b == t.binds)) then (false, m) else
    if altsLike a t.alts = false then (false, m) else
    sameTs k t.kids (putsN m (bindersN o b a) (bindersN t.op t.binds t.alts))
def sameTs : List Tr → List Tr → Nm → Bool × Nm
  | [], _, m => (true, m)
  | a :: l, r, m => match r with
    | [] => (true, m)
    | b :: r => if (sameT a b m).1 = true then sameTs l r (sameT a b m).2 else (false, (sameT a b m).2)
end
def idN (m : Nm) : Prop := ∀ n v, m n = some v → v = n
def sameTree (a b : Tr) : Bool := (sameT a b fun _ => none).1
/-- Same, and what Order hands back. -/
def same (a b : List Ex) : Bool := (check a == 0 && check b == 0) && sameTree (grow a) (grow b)
def order (e : List Ex) : List Ex × Int := if check e ≠ 0 then ([], check e) else (listT [] (grow e), 0)
def coreOrdered (e : List Ex) : Bool :=
  if (order e).2 ≠ 0 then (order e).1.length == 0 else
  (((order (order e).1).2 == 0 && (order e).1 == (order (order e).1).1) && same e (order e).1) && (order e).1.length == e.length
end Go.CoreX
