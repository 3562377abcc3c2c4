/- The abstract layer, part Ah: an own array of numbers, sorted in place. What the sort does is given. -/
import Derived.Test.YtoojdmgbffnmiaaDoorB11
import Derived.Sort.Row
import Derived.Sort.Grow
import Derived.Laws.CopyRow
import Derived.Lib.Overlaps
import Derived.Lib.AppendZerosOnto
namespace Go.Abs
open Go.Sort
set_option linter.unusedVariables false
set_option linter.unusedSimpArgs false
abbrev iC (n : Int) : List AC := [.lit (.int .i64 n)]
theorem flat_iC : ∀ l : List Int, (l.map iC).flatten = l.map fun n => AC.lit (.int .i64 n)
  | [] => rfl
  | n :: l => by simp [flat_iC l]
theorem RV.ints {w : World} {C : Ctx} : ∀ {l : List Int} {cs : List AC} {xs : List Value}, RV w C ((l.map fun n => AC.lit (.int .i64 n)) ++ cs) xs → xs = l.map (Value.int .i64) ++ xs.drop l.length ∧ RV w C cs (xs.drop l.length)
  | [], cs, xs, h => ⟨by simp, by simpa using h⟩
  | n :: l, cs, xs, h => by
    simp only [List.map_cons, List.cons_append, RV] at h
    obtain ⟨v, ys, rfl, h1, h2⟩ := h
    simp only [R] at h1
    obtain ⟨h3, h4⟩ := RV.ints h2
    refine ⟨?_, by simpa using h4⟩
    simp only [List.map_cons, List.length_cons, List.drop_succ_cons, List.cons_append]
    rw [← h3, h1.1]
theorem RV.ofInts {w : World} {C : Ctx} : ∀ (l : List Int) {cs : List AC} {xs : List Value}, RV w C cs xs → RV w C ((l.map fun n => AC.lit (.int .i64 n)) ++ cs) (l.map (Value.int .i64) ++ xs)
  | [], cs, xs, h => by simpa using h
  | n :: l, cs, xs, h => by
    simp only [List.map_cons, List.cons_append, RV]
    exact ⟨_, _, rfl, by simp [R, Value.oneCell'], RV.ofInts l h⟩
theorem putCells_front (d : List Int) (xs : List Value) (h : d.length ≤ xs.length) : putCells (Value.int .i64) 0 d.toArray xs.toArray = (d.map (Value.int .i64) ++ xs.drop d.length).toArray := by
  apply Array.ext_getElem?
  intro k
  unfold putCells
  rw [Array.getElem?_mapIdx]
  simp only [List.getElem?_toArray, List.size_toArray, Nat.zero_le, true_and, Nat.zero_add, Nat.sub_zero]
  by_cases hk : k < d.length
  · rw [List.getElem?_append_left (by simpa using hk)]
    have hx : k < xs.length := by omega
    simp [List.getElem?_eq_getElem hx, hk]
  · rw [List.getElem?_append_right (by simp; omega)]
    simp only [List.length_map, List.getElem?_drop]
    rw [show d.length + (k - d.length) = k by omega]
    simp [hk]
/-- The sort of an own array. -/
theorem AOps.sortI {E : Env} {ops : Array Oper} {rest : List Oper} {o : Oper} {K : Cont} {fr : Fr} {σ : St} {d : Nat} {f : Operand} {args : Array Operand} {tys : Array TypeId} {g : Nat} {i : Id} {l : List Int} {cap : Nat} (hgd : o.guard = none) (hdst : o.dst = some d) (hd : Nat.ble (d + 1) E.N = true)
    (ho : o.op = .call { callee := .value f, args := args, argTypes := tys }) (hf : aEval E.Γ fr f = some (.one (.fn (.func g) [] []))) (hargs : aEvals E.Γ fr args.toList = some [.one (.arr i 1 0 l.length cap)])
    (hcf : ∀ us (w : World), (callFunc g us).run E.P w = .ok (.enter g us) w)
    (hc : ∀ (blk off cap : Nat) (zs : List Int) (w : World), Holds (Value.int .i64) w blk off zs.toArray → blk < w.heap.size → zs.length < 4611686018427387904 → Calls E.P g #[.slice (some ⟨blk, off, none⟩) zs.length cap] w fun e w' =>
      e = .returned (.tuple #[]) ∧ ∃ n os, w' = grow (putRow (Value.int .i64) (Sort.ahead w n) blk off (zs.mergeSort fun x y => decide (x ≤ y)).toArray) os)
    (hg : σ.get i = some (.cells (vec 1 (l.map iC) cap))) (hlen : l.length < 4611686018427387904)
    (h : AOps E ops rest K ((d, .tup []) :: fr) (σ.set i (.cells (vec 1 ((l.mergeSort fun x y => decide (x ≤ y)).map iC) cap)))) : AOps E ops (o :: rest) K fr σ := by
  intro F w0 C0 w C tmps hgo hi hfr
  refine wpList_plain hgd fun N' hN => ?_
  have hcallee := aEval_ok (a := ⟨tmps, []⟩) hi hfr hf
  simp only [RF, R] at hcallee
  obtain ⟨xs, ys, hfv, hx, hy⟩ := hcallee
  simp only [RV] at hx hy
  subst hx; subst hy
  have hvs := aEvals_ok (a := ⟨tmps, []⟩) hi hfr hargs
  simp only [RFs, RF, R] at hvs
  obtain ⟨v, us, hv, ⟨hok, hv2, hcapl⟩, hus⟩ := hvs
  subst hus
  rw [hv2] at hv
  simp only [Nat.zero_mul] at hv
  obtain ⟨hok', zs, T, b1, b2, b3, b4⟩ := hi.obj i _ hg
  have hzs := b3
  unfold vec at hzs
  rw [flat_iC] at hzs
  obtain ⟨hz1, hz2⟩ := RV.ints hzs
  have hzl : l.length ≤ zs.length := by rw [hz1]; simp
  have hcell : ∀ j : Nat, w.cell? ⟨C.blk i, j, none⟩ = zs[j]? := fun j => by rw [cell_of_row _ _ _ _ _ _ b1]; simp
  have hH : Holds (Value.int .i64) w (C.blk i) 0 l.toArray := fun j hj => by
    have hj' : j < l.length := by simpa using hj
    refine ⟨?_, ?_⟩
    · rw [Nat.zero_add, hcell, hz1, List.getElem?_append_left (by simpa using hj')]
      simp [hj']
    · simp [World.frozen?, b1]
  have hblk : C.blk i < w.heap.size := lt_of_heap b1
  have hrun : (execOp (Act.eval ⟨tmps, []⟩) o).run E.P w = .ok (.enter g #[.slice (some ⟨C.blk i, 0, none⟩) l.length cap]) w := by
    unfold execOp
    simp only [ho, resolve, Sem.run_bind, hfv, Deferred.ofValue, Sem.run_pure, Result.andThen_ok, invoke, hcf]
    congr 2
    apply Array.ext'
    simpa using hv
  unfold Oper.wp
  rw [hrun, Oper.upon_enter]
  refine (hc (C.blk i) 0 cap l w hH hblk hlen).mono fun e w' ⟨he, n, os, hw'⟩ => ?_
  subst he
  subst hw'
  obtain ⟨l', hl'⟩ : ∃ l', l' = (l.mergeSort fun x y => decide (x ≤ y)) := ⟨_, rfl⟩
  rw [← hl'] at h ⊢
  have hll : l'.length = l.length := by rw [hl']; simp
  -- the row, turned
  have hsz : (putRow (Value.int .i64) (Sort.ahead w n) (C.blk i) 0 l'.toArray).heap.size = w.heap.size := by simp [Sort.ahead]
  have hoth : ∀ k, k ≠ C.blk i → (putRow (Value.int .i64) (Sort.ahead w n) (C.blk i) 0 l'.toArray).heap[k]? = w.heap[k]? := fun k hk => by
    unfold putRow mapBlock
    show (w.heap.modify _ _)[k]? = _
    rw [Array.getElem?_modify, if_neg (Ne.symm hk)]
  have hat : (putRow (Value.int .i64) (Sort.ahead w n) (C.blk i) 0 l'.toArray).heap[C.blk i]? = some (.cells (l'.map (Value.int .i64) ++ zs.drop l.length).toArray T (0, 0)) := by
    unfold putRow mapBlock
    show (w.heap.modify _ _)[C.blk i]? = _
    rw [Array.getElem?_modify, if_pos rfl, b1]
    simp only [Option.map_some, onCells]
    rw [putCells_front l' zs (by omega), hll]
  obtain ⟨he1, hi1⟩ := hi.turn (o' := .cells (vec 1 (l'.map iC) cap)) hg (show AObj.block C i (.cells _) = some (C.blk i) from rfl) hsz hoth (fun a ha hp => absurd hp (b4 a ha)) rfl fun he => by
    refine ⟨_, T, hat, b2, ?_, b4⟩
    unfold vec
    rw [flat_iC]
    have hcl : (l'.map iC).length = (l.map iC).length := by simp [hll]
    rw [hcl]
    exact RV.ofInts l' (hz2.ext he)
  have hsz2 : (putRow (Value.int .i64) (Sort.ahead w n) (C.blk i) 0 l'.toArray).heap.size ≤ (grow (putRow (Value.int .i64) (Sort.ahead w n) (C.blk i) 0 l'.toArray) os).heap.size := by simp [grow]
  have hold : ∀ k, k < (putRow (Value.int .i64) (Sort.ahead w n) (C.blk i) 0 l'.toArray).heap.size → (grow (putRow (Value.int .i64) (Sort.ahead w n) (C.blk i) 0 l'.toArray) os).heap[k]? = (putRow (Value.int .i64) (Sort.ahead w n) (C.blk i) 0 l'.toArray).heap[k]? := fun k hk => by
    show (_ ++ os)[k]? = _
    rw [Array.getElem?_append_left hk]
  obtain ⟨he2, hi2⟩ := hi1.grown hsz2 hold
  have hstp : Stp F w (grow (putRow (Value.int .i64) (Sort.ahead w n) (C.blk i) 0 l'.toArray) os) := by
    refine ⟨rfl, rfl, rfl, by rw [← hsz]; exact hsz2, fun k hk => ?_, fun a ha => ?_⟩
    · have hk2 := hi.base k hk
      rw [hold k (by rw [hsz]; exact hk2), hoth k (fun e => b2 (e ▸ hk))]
    · have h1 : World.frozen? (grow (putRow (Value.int .i64) (Sort.ahead w n) (C.blk i) 0 l'.toArray) os) a = World.frozen? (putRow (Value.int .i64) (Sort.ahead w n) (C.blk i) 0 l'.toArray) a := by
        unfold World.frozen?
        rw [hold a.block (by rw [hsz]; exact ha)]
      rw [h1, frozen?_putRow]; rfl
  refine hN _ _ ?_
  rw [put_eta]
  have hext := he1.trans he2
  rw [hdst]
  exact h F w0 C0 _ C _ (hgo.trans ⟨hstp, hext.weaken (fun _ _ => trivial), Nat.le_refl _, NewP.refl _ _⟩) hi2 (putFr_ok (dst := some d) (hfr.ext hext) hd (by simp only [RF, RFs]; exact ⟨[], rfl, rfl⟩))
end Go.Abs
/- The abstract layer, part Ai: an own array that is written no more; a call that leaves the world as it is. No condition. -/
namespace Go.Abs
set_option linter.unusedVariables false
set_option linter.unusedSimpArgs false
theorem AOps.freezeArr {E : Env} {ops : Array Oper} {l : List Oper} {K : Cont} {fr : Fr} {σ : St} (i : Id) (d : Nat) {s cap : Nat} {es : List (List AC)} (hg : σ.get i = some (.cells (vec s es cap))) (hl : ∀ x ∈ es, x.length = s) (hd : Fr.get d fr = some (.one (.arr i s 0 es.length cap)))
    (h : AOps E ops l K ((d, .one (.sl s es)) :: fr) (σ.set i .dead)) : AOps E ops l K fr σ := by
  intro F w0 C0 w C tmps hgo hi hf
  obtain ⟨h1, h2, h3⟩ := frz_run hi hf hg (fr' := []) trivial
  obtain ⟨hok, zs, T, b1, b2, b3, b4⟩ := hi.obj i _ hg
  refine h F w0 C0 w _ tmps (hgo.trans h1.toO) h2 ⟨hf.1, fun k x hk => ?_⟩
  simp only [Fr.get] at hk
  by_cases e : d = k
  · subst e
    simp at hk
    subst hk
    obtain ⟨u, hu, hr⟩ := hf.2 d _ hd
    simp only [RF, R, Nat.zero_mul] at hr
    refine ⟨u, hu, some ⟨C.blk i, 0, none⟩, cap, hr.2.1, hr.2.2, .inr ⟨_, rfl, rfl, ?_⟩⟩
    have hfl := flat_len hl
    have hzl := RV.length b3
    have hv : RV w (C.froze (C.blk i)) es.flatten (zs.take (es.length * s)) := by
      have := (b3.take (es.length * s)).ext h1.chg
      rwa [vec, List.take_append_of_le_length (by omega), List.take_of_length_le (by omega)] at this
    refine RS.ofVals 0 hl hv fun j v hj => ⟨?_, .inr rfl⟩
    have h2 : j < es.length * s := by have := (List.getElem?_eq_some_iff.1 hj).1; simp at this; omega
    rw [List.getElem?_take_of_lt h2] at hj
    rw [Nat.zero_add, cell_of_row _ _ _ _ _ _ b1]
    simpa using hj
  · rw [beq_no e] at hk
    obtain ⟨u, hu, hr⟩ := hf.2 k x hk
    exact ⟨u, hu, hr.ext h1.chg⟩
/-- A call whose contract leaves the world as it is. -/
theorem AOps.callNo {E : Env} {ops : Array Oper} {rest : List Oper} {o : Oper} {K : Cont} {fr : Fr} {σ : St} {d : Nat} {f : Operand} {args : Array Operand} {tys : Array TypeId} {g : Nat} {u : Value} (hgd : o.guard = none) (hdst : o.dst = some d) (hd : Nat.ble (d + 1) E.N = true)
    (ho : o.op = .call { callee := .value f, args := args, argTypes := tys }) (hf : aEval E.Γ fr f = some (.one (.fn (.func g) [] []))) (hargs : aEvals E.Γ fr args.toList = some [.one (.lit u)])
    (hcf : ∀ us (w : World), (callFunc g us).run E.P w = .ok (.enter g us) w) (hc : ∀ w : World, Calls E.P g #[u] w fun e w' => e = .returned (.tuple #[]) ∧ w' = w)
    (h : AOps E ops rest K ((d, .tup []) :: fr) σ) : AOps E ops (o :: rest) K fr σ := by
  intro F w0 C0 w C tmps hgo hi hfr
  refine wpList_plain hgd fun N' hN => ?_
  have hcallee := aEval_ok (a := ⟨tmps, []⟩) hi hfr hf
  simp only [RF, R] at hcallee
  obtain ⟨xs, ys, hfv, hx, hy⟩ := hcallee
  simp only [RV] at hx hy
  subst hx; subst hy
  have hvs := aEvals_ok (a := ⟨tmps, []⟩) hi hfr hargs
  simp only [RFs, RF, R] at hvs
  obtain ⟨v, us, hv, ⟨hv2, _⟩, hus⟩ := hvs
  subst hus
  rw [hv2] at hv
  have hrun : (execOp (Act.eval ⟨tmps, []⟩) o).run E.P w = .ok (.enter g #[u]) w := by
    unfold execOp
    simp only [ho, resolve, Sem.run_bind, hfv, Deferred.ofValue, Sem.run_pure, Result.andThen_ok, invoke, hcf]
    congr 2
    apply Array.ext'
    simpa using hv
  unfold Oper.wp
  rw [hrun, Oper.upon_enter]
  refine (hc w).mono fun e w' ⟨he, hw'⟩ => ?_
  subst he
  subst hw'
  refine hN _ _ ?_
  rw [put_eta]
  rw [hdst]
  exact h F w0 C0 w' C _ hgo hi (putFr_ok (dst := some d) hfr hd (by simp only [RF, RFs]; exact ⟨[], rfl, rfl⟩))
end Go.Abs
/- The abstract layer, part Aj: a call of a function that only computes a number or a truth value; own objects are lent to it, to be read. No condition. -/
namespace Go.Abs
set_option linter.unusedVariables false
set_option linter.unusedSimpArgs false
/-- A context in which no old cell is written. -/
def Ctx.still (C : Ctx) (w : World) : Ctx := ⟨fun a => a.block < w.heap.size, 0, C.no, C.phi, C.tk⟩
theorem Inv.stillChg {Γ : List (Nat × List AC)} {F : Nat → Prop} {w : World} {C : Ctx} {σ : St} (hi : Inv Γ F w C σ) : Chg isO w C w (C.still w) :=
  ⟨fun _ _ => rfl, fun a h => hi.prot a h, fun i hp hok => ⟨by cases i with | l k => cases hp | o k => exact hok, rfl, rfl⟩⟩
theorem Inv.forStill {Γ : List (Nat × List AC)} {F : Nat → Prop} {w : World} {C : Ctx} {σ : St} (hi : Inv Γ F w C σ) (hΓ : ∀ g cs, (g, cs) ∈ Γ → idsL isO cs) : Inv Γ (fun k => k < w.heap.size) w (C.still w) ⟨0, [], fun _ => none⟩ := by
  have hn : ∀ i, St.get ⟨0, [], fun _ => none⟩ i = none := fun i => by cases i <;> rfl
  exact ⟨fun _ h => h, rfl, fun g cs h => (hi.glob g cs h).chg hi.stillChg (hΓ g cs h), fun _ h => h, fun i o h => by (rw [hn] at h; cases h), fun i j o o' g h => by (rw [hn] at h; cases h)⟩
def LendF (σ : St) (x y : FV) : Prop := ∀ (Γ : List (Nat × List AC)) (F : Nat → Prop) (w : World) (C : Ctx) (v : Value), Inv Γ F w C σ → RF w C x v → RF w (C.still w) y v
def LendFs (σ : St) (xs ys : List FV) : Prop := ∀ (Γ : List (Nat × List AC)) (F : Nat → Prop) (w : World) (C : Ctx) (vs : List Value), Inv Γ F w C σ → RFs w C xs vs → RFs w (C.still w) ys vs
theorem LendF.of {σ : St} {x y : FV} (h : WkF x y) (hy : y.ids isO) : LendF σ x y := fun Γ F w C v hi hr => RF.chg hi.stillChg y v hy (h w C v hr)
theorem LendF.refl {σ : St} {x : FV} (hy : x.ids isO) : LendF σ x x := .of (.refl x) hy
theorem LendF.arr {σ : St} {i : Id} {s cap n : Nat} {es : List (List AC)} (hg : σ.get i = some (.cells (vec s es cap))) (hn : n = es.length) (hl : ∀ x ∈ es, x.length = s) (hids : idsS isO es) : LendF σ (.one (.arr i s 0 n cap)) (.one (.sl s es)) := by
  subst hn
  intro Γ F w C v hi hr
  obtain ⟨hok, zs, T, b1, b2, b3, b4⟩ := hi.obj i _ hg
  simp only [RF, R, Nat.zero_mul] at hr
  refine ⟨some ⟨C.blk i, 0, none⟩, cap, hr.2.1, hr.2.2, .inr ⟨_, rfl, rfl, ?_⟩⟩
  have hfl := flat_len hl
  have hzl := RV.length b3
  have hfi : idsL isO es.flatten := by
    clear hg hl hr hfl b3 hzl
    induction es with
    | nil => trivial
    | cons x es ih =>
      simp only [idsS] at hids
      rw [List.flatten_cons]
      exact idsL_iff.2 fun c hc => (List.mem_append.1 hc).elim (fun h => idsL_iff.1 hids.1 c h) fun h => idsL_iff.1 (ih hids.2) c h
  have hv : RV w (C.still w) es.flatten (zs.take (es.length * s)) := by
    refine RV.chg hi.stillChg _ _ hfi ?_
    have := b3.take (es.length * s)
    rwa [vec, List.take_append_of_le_length (by omega), List.take_of_length_le (by omega)] at this
  refine RS.ofVals 0 hl hv fun j v hj => ⟨?_, lt_of_heap b1⟩
  have h2 : j < es.length * s := by have := (List.getElem?_eq_some_iff.1 hj).1; simp at this; omega
  rw [List.getElem?_take_of_lt h2] at hj
  rw [Nat.zero_add, cell_of_row _ _ _ _ _ _ b1]
  simpa using hj
theorem LendF.ptr {σ : St} {i : Id} {off : Nat} {cs : List AC} (hg : σ.get i = some (.cells cs)) (hids : idsL isO cs) : LendF σ (.one (.ptr i off)) (.one (.box (cs.drop off))) := by
  intro Γ F w C v hi hr
  obtain ⟨hok, zs, T, b1, b2, b3, b4⟩ := hi.obj i _ hg
  simp only [RF, R] at hr
  refine ⟨⟨C.blk i, off, none⟩, hr.2, rfl, ?_⟩
  have h : RL w (C.still w) cs ⟨C.blk i, 0, none⟩ := by
    refine RL.of_new 0 (RV.chg hi.stillChg cs zs hids b3) (fun j v hj => ?_) (fun ad ha => ?_)
    · rw [Nat.zero_add, cell_of_row _ _ _ _ _ _ b1]
      simpa using hj
    · show ad.block < w.heap.size
      rw [ha]; exact lt_of_heap b1
  have := RL.drop off rfl h
  simpa using this
theorem LendFs.nil {σ : St} : LendFs σ [] [] := fun _ _ _ _ _ _ h => h
theorem LendFs.cons {σ : St} {x y : FV} {xs ys : List FV} (h : LendF σ x y) (k : LendFs σ xs ys) : LendFs σ (x :: xs) (y :: ys) := by
  intro Γ F w C vs hi hr
  simp only [RFs] at hr ⊢
  obtain ⟨v, us, rfl, h1, h2⟩ := hr
  exact ⟨v, us, rfl, h _ _ _ _ _ hi h1, k _ _ _ _ _ hi h2⟩
/-- What reads the same everywhere. -/
def Plain (r : FV) : Prop := ∀ (w w' : World) (C C' : Ctx) (v : Value), RF w C r v → RF w' C' r v
theorem Plain.lit (u : Value) : Plain (.one (.lit u)) := fun w w' C C' v h => by simpa only [RF, R] using h
theorem AStep.callS {E : Env} {o : Oper} {fr : Fr} {σ : St} {f : Operand} {args : Array Operand} {tys : Array TypeId} {g : Nat} {first caps : List AC} {vs ws : List FV} {r : FV}
    (hΓ : ∀ g cs, (g, cs) ∈ E.Γ → idsL isO cs) (hc : APure E.P E.Γ g ws r) (hp : Plain r) (ho : o.op = .call { callee := .value f, args := args, argTypes := tys })
    (hf : aEval E.Γ fr f = some (.one (.fn (.func g) first caps))) (hargs : aEvals E.Γ fr args.toList = some vs) (hw : LendFs σ (first.map .one ++ vs ++ caps.map .one) ws) : AStep E o fr σ r σ := by
  intro F w C tmps hi hfr next Q hk
  have hcallee := aEval_ok (a := ⟨tmps, []⟩) hi hfr hf
  simp only [RF, R] at hcallee
  obtain ⟨xs, ys, hfv, hx, hy⟩ := hcallee
  have hvs := aEvals_ok (a := ⟨tmps, []⟩) hi hfr hargs
  have hall : RFs w (C.still w) ws (xs ++ args.toList.map (Act.eval ⟨tmps, []⟩) ++ ys) := hw _ _ _ _ _ hi ((RFs.ones hx |>.append hvs).append (RFs.ones hy))
  have hrun : (execOp (Act.eval ⟨tmps, []⟩) o).run E.P w = .ok (.enter g (xs ++ args.toList.map (Act.eval ⟨tmps, []⟩) ++ ys).toArray) w := by
    unfold execOp
    simp only [ho, resolve, Sem.run_bind, hfv, Deferred.ofValue, Sem.run_pure, Result.andThen_ok, invoke, (hc σ.ou).1]
    congr 2
    apply Array.ext'
    simp
  unfold Oper.wp
  rw [hrun, Oper.upon_enter]
  refine ((hc fun _ => none).2 (fun k => k < w.heap.size) w (C.still w) _ rfl (hi.forStill hΓ) hall).mono fun e w' ⟨v, r', ou', C', he, hgo, h0, hi', hr, hQ1, hQ2⟩ => ?_
  subst he; subst hQ1
  obtain ⟨he, hi2⟩ := hi.grown hgo.stp.size (fun k hk => hgo.stp.block k hk)
  exact hk v w' C ⟨hgo.stp.mono fun k hk => hi.base k hk, he, Nat.le_refl _, NewP.refl _ _⟩ hi2 (hp _ _ _ _ _ hr)
/-- A call that only reads. -/
theorem AOps.callS {E : Env} {ops : Array Oper} {rest : List Oper} {o : Oper} {K : Cont} {fr : Fr} {σ : St} {d : Nat} {f : Operand} {args : Array Operand} {tys : Array TypeId} {g : Nat} {first caps : List AC} {vs ws : List FV} {r : FV}
    (hΓ : ∀ g cs, (g, cs) ∈ E.Γ → idsL isO cs) (hc : APure E.P E.Γ g ws r) (hp : Plain r) (hgd : o.guard = none) (hdst : o.dst = some d) (hd : Nat.ble (d + 1) E.N = true) (ho : o.op = .call { callee := .value f, args := args, argTypes := tys })
    (hf : aEval E.Γ fr f = some (.one (.fn (.func g) first caps))) (hargs : aEvals E.Γ fr args.toList = some vs) (hw : LendFs σ (first.map .one ++ vs ++ caps.map .one) ws)
    (h : AOps E ops rest K ((d, r) :: fr) σ) : AOps E ops (o :: rest) K fr σ :=
  AOps.step1 hgd hdst hd (AStep.callS hΓ hc hp ho hf hargs hw) h
end Go.Abs
/- The abstract layer, part Ak: parts of an own array, elements taken out of it in place, its tail cleared; an own array in a value that is written no more. No condition. -/
namespace Go.Abs
set_option linter.unusedVariables false
set_option linter.unusedSimpArgs false
/-- A bound that may be left out. -/
def optIs (Γ : List (Nat × List AC)) (fr : Fr) (x : Option Operand) (n d : Nat) : Prop := match x with
  | none => n = d
  | some y => ∃ k : IntKind, aEval Γ fr y = some (.one (.lit (.int k (n : Int))))
section
variable {E : Env} {o : Oper} {fr : Fr} {σ : St}
/-- A part of an own array. -/
theorem AStep.sliceOwn {t : TypeId} {ti tj : TI} {x : Operand} {lo hi mx : Option Operand} {i : Id} {s len cap a b c : Nat} (hT : TabOk E.P E.T) (ho : o.op = .slice t x lo hi mx) (ht : Tab.get t E.T = some ti) (hk : Nat.beq ti.kind 2 = true) (hj : Tab.get ti.elem E.T = some tj) (hs : Nat.beq tj.size s = true)
    (hx : aEval E.Γ fr x = some (.one (.arr i s 0 len cap))) (hlo : optIs E.Γ fr lo a 0) (hhi : optIs E.Γ fr hi b len) (hmx : optIs E.Γ fr mx c cap) (hm : mx.isSome = true → hi.isSome = true) (h1 : a ≤ b) (h2 : b ≤ c) (h3 : c ≤ cap) :
    AStep E o fr σ (.one (.arr i s (if c = a then 0 else a) (b - a) (c - a))) σ := by
  refine AStep.quiet fun F w C tmps hin hf => ?_
  have e1 := aEval_ok (a := ⟨tmps, []⟩) hin hf hx
  have ev : ∀ (y : Option Operand) (n d : Nat), optIs E.Γ fr y n d → (y = none ∧ n = d) ∨ ∃ z k, y = some z ∧ Act.eval ⟨tmps, []⟩ z = .int k (n : Int) := by
    intro y n d h
    cases y with
    | none => exact .inl ⟨rfl, h⟩
    | some z =>
      obtain ⟨k, hz⟩ := h
      have := aEval_ok (a := ⟨tmps, []⟩) hin hf hz
      simp only [RF, R] at this
      exact .inr ⟨z, k, rfl, this.1⟩
  have hu := (hT t ti ht).slice (Nat.eq_of_beq_eq_true hk)
  have hsz := (hT _ _ hj).run_sizeOf (w := w)
  have hs' : tj.size = s := Nat.eq_of_beq_eq_true hs
  simp only [RF, R, Nat.zero_mul] at e1
  obtain ⟨hok, hv, hcap⟩ := e1
  have hrun : (execOp (Act.eval ⟨tmps, []⟩) o).run E.P w = .ok (.value (.slice (if c = a then some ⟨C.blk i, 0, none⟩ else some (Addr.add ⟨C.blk i, 0, none⟩ (a * tj.size))) (b - a) (c - a))) w := by
    have h1' : (a : Int) ≤ (b : Int) := by omega
    have h2' : (b : Int) ≤ (c : Int) := by omega
    have h3' : (c : Int) ≤ (cap : Int) := by omega
    unfold execOp
    rcases ev lo a 0 hlo with ⟨rfl, rfl⟩ | ⟨z1, k1, rfl, q1⟩ <;> rcases ev hi b len hhi with ⟨rfl, rfl⟩ | ⟨z2, k2, rfl, q2⟩ <;> rcases ev mx c cap hmx with ⟨rfl, rfl⟩ | ⟨z3, k3, rfl, q3⟩ <;> simp_all [Instr.sliceAt, Instr.slice, run_underlying hu, hsz, Instr.sliceBounds, Instr.sliceBound, asIntOf, Result.andThen]
  refine ⟨_, hrun, hok, ?_, by omega⟩
  by_cases e : c = a
  · rw [if_pos e, if_pos e, Nat.zero_mul]
  · rw [if_neg e, if_neg e, hs', Addr.add_none rfl, Nat.zero_add]
end
section
variable {Γ : List (Nat × List AC)} {F : Nat → Prop} {w : World} {C : Ctx} {σ : St}
theorem RV.mapAny {w : World} {C : Ctx} {cs : List AC} {l : List Value} (h : RV w C cs l) (n : Nat) (hn : n ≤ cs.length) : RV w C (cs.take n ++ List.replicate (cs.length - n) .any) l := by
  have h1 := (h.take n).append (h.drop n).toAny
  rw [List.take_append_drop, List.length_drop] at h1
  exact h1
theorem vec_cut {w : World} {C : Ctx} {s cap a : Nat} {es : List (List AC)} {xs : List Value} (hel : ∀ x ∈ es, x.length = s) (hn : es.length ≤ cap) (ha : a ≤ es.length) (h : RV w C (vec s es cap) xs) : RV w C (vec s (es.take a) cap) xs := by
  have hl := vec_len hel hn
  have hta : ∀ x ∈ es.take a, x.length = s := fun x hx => hel x (List.mem_of_mem_take hx)
  have hfl := flat_len hta
  have hfe := flat_len hel
  have hle : a * s ≤ es.length * s := Nat.mul_le_mul_right _ ha
  have e1 : (es.take a).length = a := by simp; omega
  rw [e1] at hfl
  have h1 := h.mapAny (a * s) (by rw [hl]; exact Nat.mul_le_mul_right _ (by omega))
  have e2 : (vec s es cap).take (a * s) = (es.take a).flatten := by
    rw [vec, List.take_append_of_le_length (by omega)]
    conv => lhs; rw [← List.take_append_drop a es, List.flatten_append]
    rw [List.take_append_of_le_length (by omega), List.take_of_length_le (by omega)]
  rw [e2, hl] at h1
  unfold vec
  rw [e1, Nat.sub_mul]
  exact h1
/-- Elements further behind are moved to the front. -/
theorem Inv.closeUp (hi : Inv Γ F w C σ) {P : Program} {t ty e : TypeId} {tj : TI} (hsl : P.underlying t = some (.slice e)) (hj : TIOk P e tj) {i : Id} {s cap a off m cap2 : Nat} {es : List (List AC)} (hg : σ.get i = some (.cells (vec s es cap))) (hel : ∀ x ∈ es, x.length = s) (hn : es.length ≤ cap)
    (ha : a ≤ es.length) (hoff : m = 0 ∨ off + m ≤ es.length) (hs : tj.size = s) (hroom : a + m ≤ cap) :
    ∃ w', (Builtin.append_ #[t, t] ty #[.slice (some ⟨C.blk i, 0, none⟩) a cap, .slice (some ⟨C.blk i, off * s, none⟩) m cap2]).run P w = .ok (.slice (some ⟨C.blk i, 0, none⟩) (a + m) cap) w' ∧ Goes F (fun _ => True) w C w' C ∧ Inv Γ F w' C (σ.set i (.cells (vec s (es.take a ++ (es.drop off).take m) cap))) := by
  obtain ⟨i0, dd, z, g1, g2, g3, g4, g5, g6, g7, g8⟩ := hj.ex
  obtain ⟨hok, xs, T, o1, o2, o3, o4⟩ := hi.obj i _ hg
  have hxl : xs.length = cap * s := by rw [RV.length o3, vec_len hel hn]
  have hfe := flat_len hel
  obtain ⟨news, hnews⟩ : ∃ news, news = (es.drop off).take m := ⟨_, rfl⟩
  have hnel : ∀ x ∈ news, x.length = s := fun x hx => hel x (List.mem_of_mem_drop (List.mem_of_mem_take (hnews ▸ hx)))
  have hnlen : news.length = m := by rw [hnews]; simp; omega
  have hfn := flat_len hnel
  obtain ⟨nv, hnv⟩ : ∃ nv, nv = (xs.drop (off * s)).take (m * s) := ⟨_, rfl⟩
  have hnvl : nv.length = m * s := by
    rw [hnv]; simp
    rcases hoff with rfl | hoff
    · simp
    · have : (off + m) * s ≤ cap * s := Nat.mul_le_mul_right _ (by omega)
      rw [Nat.add_mul] at this
      omega
  have hnr : RV w C news.flatten nv := by
    rcases hoff with rfl | hoff
    · have : news = [] := List.length_eq_zero_iff.1 hnlen
      rw [this]
      have : nv = [] := List.length_eq_zero_iff.1 (by rw [hnvl]; simp)
      rw [this]; simp [RV]
    · have h1 := (o3.drop (off * s)).take (m * s)
      rw [← hnv] at h1
      have hle : (off + m) * s ≤ es.length * s := Nat.mul_le_mul_right _ hoff
      rw [Nat.add_mul] at hle
      have e2 : ((vec s es cap).drop (off * s)).take (m * s) = news.flatten := by
        rw [vec, List.drop_append_of_le_length (by omega), List.take_append_of_le_length (by rw [List.length_drop]; omega), hnews]
        have hd : ∀ (l : List (List AC)) (n : Nat), (∀ x ∈ l, x.length = s) → n ≤ l.length → l.flatten.drop (n * s) = (l.drop n).flatten := by
          intro l
          induction l with
          | nil => intro n _ hn; simp at hn; subst hn; simp
          | cons x l ih =>
            intro n h hn
            cases n with
            | zero => simp
            | succ n =>
              have hx := h x (by simp)
              rw [List.flatten_cons, List.drop_succ_cons, Nat.add_mul, Nat.one_mul, Nat.add_comm, ← hx, ← List.drop_drop, List.drop_left, hx]
              exact ih n (fun y hy => h y (by simp [hy])) (by simpa using hn)
        have htk : ∀ (l : List (List AC)) (n : Nat), (∀ x ∈ l, x.length = s) → n ≤ l.length → l.flatten.take (n * s) = (l.take n).flatten := by
          intro l n h hn
          have h1 := flat_len (fun x hx => h x (List.mem_of_mem_take (i := n) hx))
          have h2 : (l.take n).length = n := by simp; omega
          rw [h2] at h1
          conv => lhs; rw [← List.take_append_drop n l, List.flatten_append]
          rw [List.take_append_of_le_length (by omega), List.take_of_length_le (by omega)]
        rw [hd es off hel (by omega), htk _ m (fun x hx => hel x (List.mem_of_mem_drop hx)) (by simp; omega)]
      rw [e2] at h1
      exact h1
  have hnv1 : ∀ x ∈ nv, x.oneCell' = true := RV.one hnr
  have hfit : a * i0.size + nv.length ≤ xs.toArray.size := by
    rw [g3, hs, hnvl, ← Nat.add_mul]
    simp only [List.size_toArray, hxl]
    exact Nat.mul_le_mul_right _ hroom
  have hcell : ∀ j u, nv[j]? = some u → w.cell? ((⟨C.blk i, off * s, none⟩ : Addr).add j) = some u := fun j u hj2 => by
    rw [Addr.add_none rfl, cell_of_row _ _ _ _ _ _ o1]
    have h2 : j < m * s := by have := (List.getElem?_eq_some_iff.1 hj2).1; omega
    rw [hnv, List.getElem?_take_of_lt h2, List.getElem?_drop] at hj2
    simpa using hj2
  have hr := appendRoom (P := P) (w := w) t ty e T i0 hsl g1 (C.blk i) a cap xs.toArray o1 ⟨C.blk i, off * s, none⟩ m cap2 nv (by rw [hnvl, g3, hs]) hcell hnv1 hroom hfit
  rw [g3, hs] at hr
  simp only [List.toList_toArray] at hr
  have hta : ∀ x ∈ es.take a, x.length = s := fun x hx => hel x (List.mem_of_mem_take hx)
  have e1 : (es.take a).length = a := by simp; omega
  have o5 := vec_cut hel hn ha o3
  have hxe : RV w C (es.take a).flatten (xs.take ((es.take a).length * s)) := by
    have h1 := o5.take ((es.take a).length * s)
    have h2 := flat_len hta
    rwa [vec, List.take_append_of_le_length (by omega), List.take_of_length_le (by omega)] at h1
  have hrv := vec_put hta (by omega) hxe hnr (by rw [hnvl, hnlen]) o5
  rw [e1] at hrv
  obtain ⟨k1, k2, k3⟩ := hi.storeRow hg o1 hrv
  refine ⟨_, hr, ⟨k1, k2, Nat.le_refl _, NewP.refl _ _⟩, ?_⟩
  rw [← hnews]
  exact k3
/-- The tail of an own array is cleared. -/
theorem Inv.clearTail (hi : Inv Γ F w C σ) {P : Program} {t ty e : TypeId} {tj : TI} (hsl : P.underlying t = some (.slice e)) (hj : TIOk P e tj) {i : Id} {s cap off m cap2 : Nat} {es : List (List AC)} (hg : σ.get i = some (.cells (vec s es cap))) (hel : ∀ x ∈ es, x.length = s) (hn : es.length ≤ cap)
    (hoff : es.length ≤ off) (hs : tj.size = s) (hroom : off + (m + 1) ≤ cap) :
    ∃ w', (Builtin.clear_ #[t] ty #[.slice (some ⟨C.blk i, off * s, none⟩) (m + 1) cap2]).run P w = .ok (.tuple #[]) w' ∧ Goes F (fun _ => True) w C w' C ∧ Inv Γ F w' C (σ.set i (.cells (vec s es cap))) := by
  obtain ⟨z, g6, g5⟩ := hj.run_zero (w := w)
  obtain ⟨hok, xs, T, o1, o2, o3, o4⟩ := hi.obj i _ hg
  have hxl : xs.length = cap * s := by rw [RV.length o3, vec_len hel hn]
  have hone := hj.one
  rw [← g6] at hone
  have hzl : z.cells.size = tj.size := by have := hj.len; rw [← g6] at this; simpa using this
  obtain ⟨zs, hzs⟩ : ∃ zs, zs = (Builtin.zeroCells z.cells (m + 1)).toList := ⟨_, rfl⟩
  have hz1 : ∀ x ∈ zs, x.oneCell' = true := by rw [hzs]; exact zeroCells_one hone (by rw [hzl]; exact hj.pos) _
  have hzn : zs.length = (m + 1) * s := by rw [hzs, Array.length_toList, size_zeroCells, hzl, hs]
  have hle : (off + (m + 1)) * s ≤ cap * s := Nat.mul_le_mul_right _ hroom
  rw [Nat.add_mul] at hle
  have k2 := run_storeCells_at P (C.blk i) (off * s) T zs 0 xs.toArray w o1 (by simp only [List.size_toArray, Nat.add_zero, hzn, hxl]; exact hle) hz1
  rw [Nat.add_zero] at k2
  simp only [List.toList_toArray] at k2
  have hr : (Builtin.clear_ #[t] ty #[.slice (some ⟨C.blk i, off * s, none⟩) (m + 1) cap2]).run P w = .ok (.tuple #[]) (w.setRow (C.blk i) (xs.take (off * s) ++ zs ++ xs.drop (off * s + zs.length)).toArray) := by
    simp [Builtin.clear_, run_underlying hsl, g5, Result.andThen, ← hzs, k2]
  have hle2 : es.length * s ≤ off * s := Nat.mul_le_mul_right _ hoff
  have hfe := flat_len hel
  have hrv : RV w C (vec s es cap) (xs.take (off * s) ++ zs ++ xs.drop (off * s + zs.length)) := by
    have h1 : RV w C es.flatten (xs.take (es.length * s)) := by
      have := o3.take (es.length * s)
      rwa [vec, List.take_append_of_le_length (by omega), List.take_of_length_le (by omega)] at this
    have e3 : xs.take (off * s) ++ zs ++ xs.drop (off * s + zs.length) = xs.take (es.length * s) ++ ((xs.take (off * s)).drop (es.length * s) ++ zs ++ xs.drop (off * s + zs.length)) := by
      have e4 : xs.take (es.length * s) = (xs.take (off * s)).take (es.length * s) := by rw [List.take_take]; congr 1; omega
      rw [e4, ← List.append_assoc, ← List.append_assoc, List.take_append_drop]
    rw [e3]
    unfold vec
    refine h1.append ?_
    have e5 : (cap - es.length) * s = ((xs.take (off * s)).drop (es.length * s) ++ zs ++ xs.drop (off * s + zs.length)).length := by
      simp only [List.length_append, List.length_drop, List.length_take, hzn, hxl, Nat.sub_mul]
      omega
    rw [e5]
    have hx1 := RV.one o3
    refine RV.anys _ fun x hx => ?_
    simp only [List.mem_append] at hx
    rcases hx with (hx | hx) | hx
    · exact hx1 x (List.mem_of_mem_take (List.mem_of_mem_drop hx))
    · exact hz1 x hx
    · exact hx1 x (List.mem_of_mem_drop hx)
  obtain ⟨k1, k3, k4⟩ := hi.storeRow hg o1 hrv
  exact ⟨_, hr, ⟨k1, k3, Nat.le_refl _, NewP.refl _ _⟩, k4⟩
end
/-- The same as steps. -/
theorem AStep.closeUp {E : Env} {o : Oper} {fr : Fr} {σ : St} {t : TypeId} {ti tj : TI} {x y : Operand} {i : Id} {s cap a off m cap2 : Nat} {es : List (List AC)} (hT : TabOk E.P E.T) (ho : o.op = .call { callee := .builtin .append, args := #[x, y], argTypes := #[t, t] }) (ht : Tab.get t E.T = some ti) (hk : Nat.beq ti.kind 2 = true) (hj : Tab.get ti.elem E.T = some tj) (hs : Nat.beq tj.size s = true)
    (hx : aEval E.Γ fr x = some (.one (.arr i s 0 a cap))) (hy : aEval E.Γ fr y = some (.one (.arr i s off m cap2))) (hg : σ.get i = some (.cells (vec s es cap))) (hel : ∀ x ∈ es, x.length = s) (hn : es.length ≤ cap) (ha : a ≤ es.length) (hoff : m = 0 ∨ off + m ≤ es.length) (hroom : a + m ≤ cap) :
    AStep E o fr σ (.one (.arr i s 0 (a + m) cap)) (σ.set i (.cells (vec s (es.take a ++ (es.drop off).take m) cap))) := by
  intro F w C tmps hi hf next Q hk2
  have h1 := aEval_ok (a := ⟨tmps, []⟩) hi hf hx
  have h2 := aEval_ok (a := ⟨tmps, []⟩) hi hf hy
  simp only [RF, R, Nat.zero_mul] at h1 h2
  obtain ⟨w', hrun, hgo, hi'⟩ := hi.closeUp (ty := o.type) (cap2 := cap2) ((hT t ti ht).slice (Nat.eq_of_beq_eq_true hk)) (hT _ _ hj) hg hel hn ha hoff (Nat.eq_of_beq_eq_true hs) hroom
  have hex : (execOp (Act.eval ⟨tmps, []⟩) o).run E.P w = .ok (.value (.slice (some ⟨C.blk i, 0, none⟩) (a + m) cap)) w' := by
    unfold execOp
    simp only [ho, resolve, invoke, builtin, Sem.run_bind, Sem.run_pure, Result.andThen_ok, List.map_toArray, List.map_cons, List.map_nil, h1.2.1, h2.2.1, hrun]
  unfold Oper.wp
  rw [hex, Oper.upon_value]
  exact hk2 _ _ C hgo hi' (by simp only [RF, R, Nat.zero_mul]; exact ⟨h1.1, trivial, hroom⟩)
theorem AStep.clearTail {E : Env} {o : Oper} {fr : Fr} {σ : St} {t : TypeId} {ti tj : TI} {y : Operand} {i : Id} {s cap off m cap2 : Nat} {es : List (List AC)} (hT : TabOk E.P E.T) (ho : o.op = .call { callee := .builtin .clear, args := #[y], argTypes := #[t] }) (ht : Tab.get t E.T = some ti) (hk : Nat.beq ti.kind 2 = true) (hj : Tab.get ti.elem E.T = some tj) (hs : Nat.beq tj.size s = true)
    (hy : aEval E.Γ fr y = some (.one (.arr i s off m cap2))) (hm : 0 < m) (hg : σ.get i = some (.cells (vec s es cap))) (hel : ∀ x ∈ es, x.length = s) (hn : es.length ≤ cap) (hoff : es.length ≤ off) (hroom : off + m ≤ cap) :
    AStep E o fr σ (.tup []) (σ.set i (.cells (vec s es cap))) := by
  intro F w C tmps hi hf next Q hk2
  have h2 := aEval_ok (a := ⟨tmps, []⟩) hi hf hy
  simp only [RF, R] at h2
  obtain ⟨m, rfl⟩ : ∃ m', m = m' + 1 := ⟨m - 1, by omega⟩
  obtain ⟨w', hrun, hgo, hi'⟩ := hi.clearTail (ty := o.type) (cap2 := cap2) ((hT t ti ht).slice (Nat.eq_of_beq_eq_true hk)) (hT _ _ hj) hg hel hn hoff (Nat.eq_of_beq_eq_true hs) hroom
  have hex : (execOp (Act.eval ⟨tmps, []⟩) o).run E.P w = .ok (.value (.tuple #[])) w' := by
    unfold execOp
    simp only [ho, resolve, invoke, builtin, Sem.run_bind, Sem.run_pure, Result.andThen_ok, List.map_toArray, List.map_cons, List.map_nil, h2.2.1, hrun]
  unfold Oper.wp
  rw [hex, Oper.upon_value]
  exact hk2 _ _ C hgo hi' (by simp only [RF, RFs]; exact ⟨[], rfl, rfl⟩)
/-- An own array in a slot's value is written no more. -/
theorem RV.swap {w w' : World} {C C' : Ctx} (he : Ext w C w' C') {c c' : AC} (hc : ∀ v, R w C c v → R w' C' c' v) : ∀ {pre post : List AC} {xs : List Value}, RV w C (pre ++ c :: post) xs → RV w' C' (pre ++ c' :: post) xs
  | [], post, xs, h => by
    simp only [List.nil_append, RV] at h ⊢
    obtain ⟨v, us, rfl, h1, h2⟩ := h
    exact ⟨v, us, rfl, hc v h1, h2.ext he⟩
  | p :: pre, post, xs, h => by
    simp only [List.cons_append, RV] at h ⊢
    obtain ⟨v, us, rfl, h1, h2⟩ := h
    exact ⟨v, us, rfl, h1.ext he, RV.swap he hc h2⟩
theorem AOps.freezeAgg {E : Env} {ops : Array Oper} {l : List Oper} {K : Cont} {fr : Fr} {σ : St} (i : Id) (d : Nat) {s cap n : Nat} {es : List (List AC)} {pre post : List AC} (hg : σ.get i = some (.cells (vec s es cap))) (hl : ∀ x ∈ es, x.length = s) (hn : n = es.length) (hd : Fr.get d fr = some (.agg (pre ++ .arr i s 0 n cap :: post)))
    (h : AOps E ops l K ((d, .agg (pre ++ .sl s es :: post)) :: fr) (σ.set i .dead)) : AOps E ops l K fr σ := by
  subst hn
  intro F w0 C0 w C tmps hgo hi hf
  obtain ⟨h1, h2, h3⟩ := frz_run hi hf hg (fr' := []) trivial
  obtain ⟨hok, zs, T, b1, b2, b3, b4⟩ := hi.obj i _ hg
  have key : ∀ u, R w C (.arr i s 0 es.length cap) u → R w (C.froze (C.blk i)) (.sl s es) u := by
    intro u hr
    simp only [R, Nat.zero_mul] at hr
    refine ⟨some ⟨C.blk i, 0, none⟩, cap, hr.2.1, hr.2.2, .inr ⟨_, rfl, rfl, ?_⟩⟩
    have hfl := flat_len hl
    have hzl := RV.length b3
    have hv : RV w (C.froze (C.blk i)) es.flatten (zs.take (es.length * s)) := by
      have := (b3.take (es.length * s)).ext h1.chg
      rwa [vec, List.take_append_of_le_length (by omega), List.take_of_length_le (by omega)] at this
    refine RS.ofVals 0 hl hv fun j v hj => ⟨?_, .inr rfl⟩
    have h2 : j < es.length * s := by have := (List.getElem?_eq_some_iff.1 hj).1; simp at this; omega
    rw [List.getElem?_take_of_lt h2] at hj
    rw [Nat.zero_add, cell_of_row _ _ _ _ _ _ b1]
    simpa using hj
  refine h F w0 C0 w _ tmps (hgo.trans h1.toO) h2 ⟨hf.1, fun k x hk => ?_⟩
  simp only [Fr.get] at hk
  by_cases e : d = k
  · subst e
    simp at hk
    subst hk
    obtain ⟨u, hu, hr⟩ := hf.2 d _ hd
    simp only [RF] at hr
    obtain ⟨xs, rfl, hr⟩ := hr
    exact ⟨_, hu, xs, rfl, RV.swap h1.chg key hr⟩
  · rw [beq_no e] at hk
    obtain ⟨u, hu, hr⟩ := hf.2 k x hk
    exact ⟨u, hu, hr.ext h1.chg⟩
end Go.Abs
/- The abstract layer, part Al: a drawn head with calls of which not all is known; own arrays from nothing; an object of which less is said. No condition. -/
namespace Go.Abs
set_option linter.unusedVariables false
set_option linter.unusedSimpArgs false
theorem HStepR.mono {E : Env} {ops : Array Oper} {o : Oper} {fr : Fr} {σ : St} {P Q : FV → St → Prop} (h : HStepR E ops o fr σ P) (hq : ∀ v σ', P v σ' → Q v σ') : HStepR E ops o fr σ Q := by
  rcases h with ⟨v, σ', h1, h2⟩ | ⟨h1, h2⟩
  · exact .inl ⟨v, σ', h1, hq _ _ h2⟩
  · exact .inr ⟨h1, fun F w C tmps hi hf next Q' hk => h2 F w C tmps hi hf next Q' fun u w' C' v σ' hp => hk u w' C' v σ' (hq _ _ hp)⟩
section
variable {E : Env} {l : List Oper} {frb : Fr} {n : Nat} {K : Cont} {J : Array Bool → St → (Nat → Option FV) → Prop}
/-- Some operations of the head (S) turn the store or wait for one that does; M: in which states they leave it, and with which values. The others only read, and wait for none of them. -/
theorem ACode.drawSR {id : Nat} {fr : Fr} {σ0 : St} {hd tl : List Oper} (n : Nat) (S : List Nat) (vs : List FV) (M : (Nat → Option FV) → St → Prop) (hm : E.P.follows .mixedOrders = true) (hB : drawB l n = true) (hsp : splitO n l = some (hd, tl)) (hfb : Fr.woO (dsts hd) fr = some frb) (h0 : M (fun _ => none) σ0)
    (hM : ∀ f σ, M f σ → ∀ i, S.any (fun k => Nat.beq k i) = false → f i = none)
    (hq : ∀ i o, i < n → S.any (fun k => Nat.beq k i) = false → l[i]? = some o → ∃ v, vs[i]? = some v ∧ o.dst.isSome = true ∧ dstOk E.N o.dst = true ∧ (o.after.toList.all fun e => !Region.binds .any e || !(S.any fun k => Nat.beq k e.on)) = true ∧ ∀ f σ, M f σ → HStep E l.toArray o (depFr l vs o ++ frb) σ σ v)
    (hs : ∀ f σ i o, M f σ → S.any (fun k => Nat.beq k i) = true → l[i]? = some o → f i = none → (∀ e ∈ o.after.toList, Region.binds .any e = true → S.any (fun k => Nat.beq k e.on) = true → (f e.on).isSome = true) →
      o.dst.isSome = true ∧ dstOk E.N o.dst = true ∧ HStepR E l.toArray o (depFrJ l (mixV S vs f) o ++ frb) σ (fun v σ' => M (updV f i v) σ'))
    (htail : ∀ f σ, M f σ → (∀ i ∈ S, i < n → (f i).isSome = true) → AOps E l.toArray tl K (headFrJ (mixV S vs f) 0 hd ++ frb) σ) : ACode E (.region id l.toArray true) K fr σ0 := by
  obtain ⟨hsp1, hsp2⟩ := splitO_eq hsp
  subst hsp1; subst hsp2
  have depEq : ∀ (o : Oper) (v1 v2 : Nat → Option FV), (∀ e ∈ o.after.toList, Region.binds .any e = true → v1 e.on = v2 e.on) → depFrJ l v1 o = depFrJ l v2 o := fun o v1 v2 h => by
    unfold depFrJ
    refine filterMap_same fun e he => ?_
    cases hb : Region.binds .any e with
    | false => rfl
    | true => simp only [cond_true]; rw [h e he hb]
  refine ACode.drawJR n (fun listed σ vals => listed.size = l.length ∧ ∃ f, M f σ ∧ (∀ i, i < n → listed.getD i false = true → vals i = mixV S vs f i) ∧ (∀ i, S.any (fun k => Nat.beq k i) = true → listed.getD i false = (f i).isSome)) hm hB hfb
    ⟨by simp, _, h0, fun i _ h => absurd h (by rw [getD_replicate_false]; simp), fun i _ => by rw [getD_replicate_false]; rfl⟩ ?_ ?_
  · intro listed σ vals i o hi hlo hun hsz hall ⟨_, f, hMf, hv, hf⟩
    have hn : n < l.length := by
      have := hB
      simp only [drawB, Bool.and_eq_true, decide_eq_true_eq] at this
      exact this.1.1.1.1.1
    have hset : ∀ (v : FV) j, (listed.setIfInBounds i true).getD j false = if i = j then true else listed.getD j false := fun _ j => by
      by_cases e : i = j
      · subst e; simp [show i < listed.size by omega]
      · rw [getD_set_ne false e, if_neg e]
    have hlast : ∀ e ∈ o.after.toList, Region.binds .any e = true → e.on < n := fun e he hb => by
      have hB2 := hB
      simp only [drawB, Bool.and_eq_true, decide_eq_true_eq] at hB2
      have h1 := List.all_eq_true.1 hB2.2 (o, i) (by
        rw [List.mem_zipIdx_iff_getElem?]
        rw [List.getElem?_take_of_lt hi]
        simpa using hlo)
      have h2 := Array.all_eq_true_iff_forall_mem.1 h1 e (by simpa using he)
      simp only [hb, Bool.not_true, Bool.false_or, decide_eq_true_eq] at h2
      omega
    have hdj : depFrJ l vals o = depFrJ l (mixV S vs f) o := depEq o _ _ fun e he hb => hv e.on (hlast e he hb) (hall e he hb)
    rw [hdj]
    cases hS : S.any (fun k => Nat.beq k i) with
    | true =>
      have hfi : f i = none := by
        have := hf i hS
        rw [hun] at this
        cases h : f i with
        | none => rfl
        | some v => rw [h] at this; cases this
      obtain ⟨k1, k2, k3⟩ := hs f σ i o hMf hS hlo hfi fun e he hb hSe => by rw [← hf _ hSe]; exact hall e he hb
      refine ⟨k1, k2, k3.mono fun v σ' k4 => ⟨by simp [hsz], updV f i v, k4, fun j hj hlj => ?_, fun j hj => ?_⟩⟩
      · by_cases e : i = j
        · subst e
          simp [mixV, hS, updV]
        · rw [hset v, if_neg e] at hlj
          rw [updV, if_neg e, hv j hj hlj]
          simp only [mixV, updV, if_neg e]
      · rw [hset v]
        by_cases e : i = j
        · subst e; simp [updV]
        · simp only [if_neg e, updV]; exact hf j hj
    | false =>
      obtain ⟨v, q1, q2, q3, q4, q5⟩ := hq i o hi hS hlo
      have hdd : depFrJ l (mixV S vs f) o = depFr l vs o := by
        unfold depFrJ depFr
        refine filterMap_same fun e he => ?_
        cases hb : Region.binds .any e with
        | false => rfl
        | true =>
          have h1 := List.all_eq_true.1 q4 e he
          rw [hb] at h1
          simp only [Bool.not_true, Bool.false_or, Bool.not_eq_true'] at h1
          simp only [cond_true, mixV, h1, cond_false]
          rfl
      rw [hdd]
      refine ⟨q2, q3, .inl ⟨v, σ, q5 f σ hMf, by simp [hsz], f, hMf, fun j hj hlj => ?_, fun j hj => ?_⟩⟩
      · by_cases e : i = j
        · subst e
          rw [updV, if_pos rfl]; simp only [mixV, hS, cond_false]; exact q1.symm
        · rw [hset v, if_neg e] at hlj
          rw [updV, if_neg e, hv j hj hlj]
      · rw [hset v]
        by_cases e : i = j
        · subst e; rw [hS] at hj; cases hj
        · simp only [if_neg e]; exact hf j hj
  · intro σ vals ⟨_, f, hMf, hv, hf⟩
    have hn : n < l.length := by
      have := hB
      simp only [drawB, Bool.and_eq_true, decide_eq_true_eq] at this
      exact this.1.1.1.1.1
    have hl : ∀ j, j < n → (listedTo l.length n).getD j false = true := fun j hj => by
      have : j < (listedTo l.length n).size := by simp [listedTo]; omega
      simp [listedTo, show j < l.length by omega, hj]
    have heq : headFrJ vals 0 (l.take n) = headFrJ (mixV S vs f) 0 (l.take n) := by
      have : ∀ (os : List Oper) (k : Nat), k + os.length ≤ n → headFrJ vals k os = headFrJ (mixV S vs f) k os := by
        intro os
        induction os with
        | nil => intro k _; rfl
        | cons o os ih =>
          intro k hk
          simp only [List.length_cons] at hk
          simp only [headFrJ]
          rw [hv k (by omega) (hl k (by omega)), ih (k + 1) (by omega)]
      exact this _ 0 (by simp; omega)
    rw [heq]
    exact htail f σ hMf fun i hi hin => by
      rw [← hf i (List.any_eq_true.2 ⟨i, hi, beq_self i⟩)]
      exact hl i hin

end
/-- A step that leaves one of some states. -/
theorem AOps.stepR {E : Env} {ops : Array Oper} {rest : List Oper} {o : Oper} {K : Cont} {fr : Fr} {σ : St} {d : Nat} {P : FV → St → Prop} (hgd : o.guard = none) (hdst : o.dst = some d) (hd : Nat.ble (d + 1) E.N = true) (hs : AStepR E o fr σ P) (h : ∀ v σ', P v σ' → AOps E ops rest K ((d, v) :: fr) σ') : AOps E ops (o :: rest) K fr σ := by
  intro F w0 C0 w C tmps hg hi hf
  refine wpList_plain hgd fun N' hN => ?_
  refine hs F w C tmps hi hf _ _ fun u w' C' v σ' hp hgo hi' hr => ?_
  refine hN _ _ ?_
  rw [hdst]
  exact h v σ' hp F w0 C0 w' C' _ (hg.trans hgo.toO) hi' (putFr_ok (dst := some d) (hf.ext hgo.chg) hd hr)
/-- An object of which less is said. -/
theorem AOps.wkObj {E : Env} {ops : Array Oper} {l : List Oper} {K : Cont} {fr : Fr} {σ : St} (i : Id) {cs cs' : List AC} (hg : σ.get i = some (.cells cs)) (hw : ∀ (w : World) (C : Ctx) (xs : List Value), RV w C cs xs → RV w C cs' xs) (h : AOps E ops l K fr (σ.set i (.cells cs'))) : AOps E ops l K fr σ := by
  intro F w0 C0 w C tmps hgo hi hf
  obtain ⟨hok, xs, T, o1, o2, o3, o4⟩ := hi.obj i _ hg
  obtain ⟨he, hi'⟩ := hi.turn hg (g := C.blk i) rfl (w' := w) rfl (fun _ _ => rfl) (fun _ _ _ => rfl) (o' := .cells cs') rfl fun _ => ⟨xs, T, o1, o2, hw w C xs o3, o4⟩
  exact h F w0 C0 w C tmps hgo hi' hf
/-- An own array without room. -/
theorem AStep.buildOwn0 {E : Env} {o : Oper} {fr : Fr} {σ : St} {t : TypeId} {ti tj : TI} {s : Nat} (hT : TabOk E.P E.T) (ho : o.op = .buildSlice t 0 #[]) (ht : Tab.get t E.T = some ti) (hk : Nat.beq ti.kind 2 = true) (hj : Tab.get ti.elem E.T = some tj) (hs : tj.size = s) :
    AStep E o fr σ (.one (.arr (.l σ.n) s 0 0 0)) (σ.push (.cells (vec s [] 0))) := by
  intro F w C tmps hi hf next Q hk2
  have hsl := (hT t ti ht).slice (Nat.eq_of_beq_eq_true hk)
  have hsz := (hT _ _ hj).run_sizeOf w
  have hrun : (execOp (Act.eval ⟨tmps, []⟩) o).run E.P w = .ok (.value (.slice (some ⟨w.heap.size, 0, none⟩) 0 0)) (w.alloc (.cells #[] ti.elem)) := by
    unfold execOp
    simp only [ho]
    simp [Instr.buildSlice, run_underlying hsl, hsz, Instr.fill, newRow, Array.range_zero']
  obtain ⟨C', he, hno, hnp, hin, hok, hblk⟩ := hi.newObj (cs := vec s [] 0) (xs := []) (by simp [vec, RV]) ti.elem
  unfold Oper.wp
  rw [hrun, Oper.upon_value]
  exact hk2 _ _ C' ⟨Stp.alloc hi.base _ _, he, Nat.le_of_eq hno.symm, hnp⟩ hin (by simp only [RF, R]; exact ⟨hok, by rw [hblk, Nat.zero_mul], Nat.le_refl _⟩)
/-- An append of nothing. -/
theorem AStep.appNone {E : Env} {o : Oper} {fr : Fr} {σ : St} {t : TypeId} {ti tj : TI} {x y : Operand} {i : Id} {s n cap : Nat} (hT : TabOk E.P E.T) (ho : o.op = .call { callee := .builtin .append, args := #[x, y], argTypes := #[t, t] }) (ht : Tab.get t E.T = some ti) (hk : Nat.beq ti.kind 2 = true) (hj : Tab.get ti.elem E.T = some tj)
    (hx : aEval E.Γ fr x = some (.one (.arr i s 0 n cap))) (hy : aEval E.Γ fr y = some (.one (.sl s []))) : AStep E o fr σ (.one (.arr i s 0 n cap)) σ := by
  refine AStep.quiet fun F w C tmps hi hf => ?_
  have h1 := aEval_ok (a := ⟨tmps, []⟩) hi hf hx
  have h2 := aEval_ok (a := ⟨tmps, []⟩) hi hf hy
  simp only [RF, R, Nat.zero_mul] at h1 h2
  obtain ⟨hok, hv, hc⟩ := h1
  obtain ⟨a, c, hv2, _, _⟩ := h2
  have hu := (hT t ti ht).slice (Nat.eq_of_beq_eq_true hk)
  obtain ⟨i0, dd, z, g1, g2, g3, g4, g5, g6, g7, g8⟩ := (hT _ _ hj).ex
  refine ⟨.slice (some ⟨C.blk i, 0, none⟩) n cap, ?_, by simp only [RF, R, Nat.zero_mul]; exact ⟨hok, trivial, hc⟩⟩
  unfold execOp
  simp only [ho, resolve, invoke, builtin, Sem.run_bind, Sem.run_pure, Result.andThen_ok, List.map_toArray, List.map_cons, List.map_nil, hv, hv2]
  cases a with
  | none => simp [Builtin.append_, run_underlying hu, sizeOf, typeInfo, g1, Builtin.lenOf, Builtin.firstCells, hc, storeCells]
  | some a => simp [Builtin.append_, run_underlying hu, sizeOf, typeInfo, g1, Builtin.lenOf, Builtin.firstCells, hc, storeCells, loadCells, loadCellsFrom]
/-- Outer objects that are forgotten at the end. -/
theorem AOps.dropO {E : Env} {ops : Array Oper} {rest : List Oper} {K : Cont} {fr : Fr} {n : Nat} {lo : List (Nat × AObj)} {ou ou' : Outer} (hs : ∀ k o, ou k = some o → ou' k = some o) (h : AOps E ops rest K fr ⟨n, lo, ou⟩) : AOps E ops rest K fr ⟨n, lo, ou'⟩ := by
  refine AOps.lessO ⟨n, lo, ou⟩ rfl (fun i o hi => ?_) h
  cases i with
  | l k => exact hi
  | o k => exact hs k o hi
end Go.Abs
/- The abstract layer, part Ar: copies into own arrays, out of them and out of slices that stay; an append of zero rows that leaves its base; no overlap. No condition. -/
namespace Go.Abs
set_option linter.unusedVariables false
set_option linter.unusedSimpArgs false
theorem flat_drop {s : Nat} : ∀ (l : List (List AC)) (n : Nat), (∀ x ∈ l, x.length = s) → n ≤ l.length → l.flatten.drop (n * s) = (l.drop n).flatten
  | [], n, _, hn => by simp at hn; subst hn; simp
  | x :: l, 0, _, _ => by simp
  | x :: l, n + 1, h, hn => by
    have hx := h x (by simp)
    rw [List.flatten_cons, List.drop_succ_cons, Nat.add_mul, Nat.one_mul, Nat.add_comm, ← hx, ← List.drop_drop, List.drop_left, hx]
    exact flat_drop l n (fun y hy => h y (by simp [hy])) (by simpa using hn)
theorem flat_take {s : Nat} (l : List (List AC)) (n : Nat) (h : ∀ x ∈ l, x.length = s) (hn : n ≤ l.length) : l.flatten.take (n * s) = (l.take n).flatten := by
  have h1 := flat_len (fun x hx => h x (List.mem_of_mem_take (i := n) hx))
  have h2 : (l.take n).length = n := by simp; omega
  rw [h2] at h1
  conv => lhs; rw [← List.take_append_drop n l, List.flatten_append]
  rw [List.take_append_of_le_length (by omega), List.take_of_length_le (by omega)]
section
variable {Γ : List (Nat × List AC)} {F : Nat → Prop} {w : World} {C : Ctx} {σ : St}
/-- What a part of an own array holds. -/
theorem Inv.part (hi : Inv Γ F w C σ) {j : Id} {s cap off k : Nat} {es : List (List AC)} (hg : σ.get j = some (.cells (vec s es cap))) (hel : ∀ x ∈ es, x.length = s) (hn : es.length ≤ cap) (hk : off + k ≤ es.length) :
    ∃ nv, nv.length = k * s ∧ RV w C ((es.drop off).take k).flatten nv ∧ Held w nv ⟨C.blk j, off * s, none⟩ := by
  obtain ⟨hok, xs, T, o1, o2, o3, o4⟩ := hi.obj j _ hg
  have hxl : xs.length = cap * s := by rw [RV.length o3, vec_len hel hn]
  have hfe := flat_len hel
  have hle : (off + k) * s ≤ es.length * s := Nat.mul_le_mul_right _ hk
  have hle2 : es.length * s ≤ cap * s := Nat.mul_le_mul_right _ hn
  rw [Nat.add_mul] at hle
  refine ⟨(xs.drop (off * s)).take (k * s), by simp; omega, ?_, fun i u hu => ?_⟩
  · have h1 := (o3.drop (off * s)).take (k * s)
    have e2 : ((vec s es cap).drop (off * s)).take (k * s) = ((es.drop off).take k).flatten := by
      rw [vec, List.drop_append_of_le_length (by omega), List.take_append_of_le_length (by rw [List.length_drop]; omega), flat_drop es off hel (by omega), flat_take _ k (fun x hx => hel x (List.mem_of_mem_drop hx)) (by simp; omega)]
    rwa [e2] at h1
  · rw [Addr.add_none rfl, cell_of_row _ _ _ _ _ _ o1]
    have h2 : i < k * s := by have := (List.getElem?_eq_some_iff.1 hu).1; simp at this; omega
    rw [List.getElem?_take_of_lt h2, List.getElem?_drop] at hu
    simpa using hu
/-- Rows put over rows of an own array. -/
theorem vec_over {s cap off : Nat} {es news : List (List AC)} {xs nv : List Value} (hel : ∀ x ∈ es, x.length = s) (hn : es.length ≤ cap) (ho : off ≤ es.length) (hnl : ∀ x ∈ news, x.length = s) (hroom : off + news.length ≤ cap) (hnr : RV w C news.flatten nv) (o3 : RV w C (vec s es cap) xs) :
    RV w C (vec s (es.take off ++ news ++ es.drop (off + news.length)) cap) (xs.take (off * s) ++ nv ++ xs.drop (off * s + nv.length)) := by
  have hnvl : nv.length = news.length * s := by rw [RV.length hnr, flat_len hnl]
  have hfe := flat_len hel
  have hle : off * s ≤ es.length * s := Nat.mul_le_mul_right _ ho
  have e1 : (vec s es cap).take (off * s) = (es.take off).flatten := by
    rw [vec, List.take_append_of_le_length (by omega), flat_take es off hel ho]
  have e2 : ∃ l : List AC, vec s (es.take off ++ news ++ es.drop (off + news.length)) cap = (es.take off).flatten ++ news.flatten ++ l ∧ ∀ ys, RV w C ((vec s es cap).drop (off * s + nv.length)) ys → RV w C l ys := by
    by_cases h : off + news.length ≤ es.length
    · refine ⟨(vec s es cap).drop (off * s + nv.length), ?_, fun ys h => h⟩
      have hle2 : (off + news.length) * s ≤ es.length * s := Nat.mul_le_mul_right _ h
      rw [hnvl, ← Nat.add_mul, vec, vec, List.drop_append_of_le_length (by omega), flat_drop es _ hel h]
      have hlen : (es.take off ++ news ++ es.drop (off + news.length)).length = es.length := by simp; omega
      rw [hlen]; simp
    · have hd : es.drop (off + news.length) = [] := List.drop_of_length_le (by omega)
      refine ⟨List.replicate ((cap - (off + news.length)) * s) .any, ?_, fun ys h => ?_⟩
      · have hlen : (es.take off ++ news).length = off + news.length := by simp; omega
        rw [hd, List.append_nil, vec, hlen, List.flatten_append]
      · have h1 := h.toAny
        have h2 : ((vec s es cap).drop (off * s + nv.length)).length = (cap - (off + news.length)) * s := by
          rw [List.length_drop, vec_len hel hn, hnvl, ← Nat.add_mul, Nat.sub_mul]
        rwa [h2] at h1
  obtain ⟨l, q1, q2⟩ := e2
  rw [q1]
  have h1 := o3.take (off * s)
  rw [e1] at h1
  exact (h1.append hnr).append (q2 _ (o3.drop _))
/-- Rows copied into an own array. -/
theorem Inv.copyRows (hi : Inv Γ F w C σ) {P : Program} {t t' ty e : TypeId} {tj : TI} (hsl : P.underlying t = some (.slice e)) (hj : TIOk P e tj) {i : Id} {s cap off m c1 m2 c2 k : Nat} {es news : List (List AC)} {ad : Addr} {nv : List Value} (hg : σ.get i = some (.cells (vec s es cap))) (hel : ∀ x ∈ es, x.length = s) (hn : es.length ≤ cap) (ho : off ≤ es.length)
    (hnl : ∀ x ∈ news, x.length = s) (hnlen : news.length = k) (hnr : RV w C news.flatten nv) (hheld : Held w nv ad) (hs : tj.size = s) (hk : min m2 m = k) (hroom : off + k ≤ cap) :
    ∃ w', (Builtin.copy_ #[t, t'] ty #[.slice (some ⟨C.blk i, off * s, none⟩) m c1, .slice (some ad) m2 c2]).run P w = .ok (goInt k) w' ∧ Goes F (fun _ => True) w C w' C ∧ Inv Γ F w' C (σ.set i (.cells (vec s (es.take off ++ news ++ es.drop (off + k)) cap))) := by
  obtain ⟨hok, xs, T, o1, o2, o3, o4⟩ := hi.obj i _ hg
  have hnvl : nv.length = k * s := by rw [RV.length hnr, flat_len hnl, hnlen]
  have hxl : xs.length = cap * s := by rw [RV.length o3, vec_len hel hn]
  have hle : (off + k) * s ≤ cap * s := Nat.mul_le_mul_right _ hroom
  rw [Nat.add_mul] at hle
  have hrv := vec_over hel hn ho hnl (by rw [hnlen]; exact hroom) hnr o3
  rw [hnlen] at hrv
  have hz := hj.run_sizeOf (w := w)
  have k1 := run_firstCells_some (P := P) w tj.size k ad m2 c2 nv (by rw [hnvl, hs]) hheld
  have k2 := run_storeCells_at P (C.blk i) (off * s) T nv 0 xs.toArray w o1 (by simp only [List.size_toArray, Nat.add_zero, hnvl, hxl]; exact hle) (RV.one hnr)
  rw [Nat.add_zero] at k2
  simp only [List.toList_toArray] at k2
  obtain ⟨g1, g2, g3⟩ := hi.storeRow hg o1 hrv
  have hk' : Nat.min m2 m = k := hk
  refine ⟨_, ?_, ⟨g1, g2, Nat.le_refl _, NewP.refl _ _⟩, g3⟩
  simp [Builtin.copy_, run_underlying hsl, Builtin.lenOf, hk', hz, k1, k2, Result.andThen]
/-- An append of zero rows for which there is no room: its base stays. -/
theorem Inv.appZeros (hi : Inv Γ F w C σ) {P : Program} {t tn ty e : TypeId} {tj : TI} {kn kq : IntKind} (hsl : P.underlying t = some (.slice e)) (htn : P.underlying tn = some (.int kn)) (hj : TIOk P e tj) {i : Id} {s cap a m : Nat} {es : List (List AC)} (hg : σ.get i = some (.cells (vec s es cap))) (hel : ∀ x ∈ es, x.length = s) (hn : es.length ≤ cap) (ha : a ≤ es.length)
    (hs : tj.size = s) (hm : 0 < m) (hroom : cap < a + m) (hbytes : (a + m) * tj.bytes ≤ 140737488355328) (h63 : a + m ≤ 140737488355328) :
    ∃ v' w' C' capn, (Builtin.append_ #[t, tn] ty #[.slice (some ⟨C.blk i, 0, none⟩) a cap, .int kq m]).run P w = .ok v' w' ∧ Goes F (fun _ => True) w C w' C' ∧ Inv Γ F w' C' (σ.push (.cells (vec s (es.take a) capn))) ∧ R w' C' (.arr (.l σ.n) s 0 (a + m) capn) v' ∧ a + m ≤ capn := by
  obtain ⟨i0, dd, z, g1, g2, g3, g4, g5, g6, g7, g8⟩ := hj.ex
  obtain ⟨he0, hid⟩ := hi.drew
  obtain ⟨ov, hovl, hor, hohd⟩ := hid.part (off := 0) (k := a) hg hel hn (by omega)
  rw [Nat.zero_mul] at hohd
  rw [List.drop_zero] at hor
  have hpos := hj.pos
  have hone := hj.one
  rw [← g6] at hone
  have hzl : z.cells.size = tj.size := by have := hj.len; rw [← g6] at this; simpa using this
  have hold := run_firstCells_some (P := P) w.drew i0.size a ⟨C.blk i, 0, none⟩ a cap ov (by rw [hovl, g3, hs]) hohd
  have hmb : m * tj.bytes ≤ (a + m) * tj.bytes := Nat.mul_le_mul_right _ (by omega)
  have hr := Lib.run_append_grow_zeros (P := P) w t tn ty e i0 z kq kn hsl htn g1 g5 (some ⟨C.blk i, 0, none⟩) a cap ov hold m hm (by rw [g3]; omega) hroom (by omega) (by rw [g4]; omega) (growslice_fits (by omega) (by rw [g4]; exact hbytes))
  have hge := grownCap_ge w (a + m) cap e
  obtain ⟨zs, hzs⟩ : ∃ zs, zs = (Builtin.zeroCells z.cells m).toList ++ (Builtin.zeroCells z.cells (grownCap w (a + m) cap e - (a + m))).toList := ⟨_, rfl⟩
  have hz1 : ∀ x ∈ zs, x.oneCell' = true := fun x hx => by
    rw [hzs] at hx
    rcases List.mem_append.1 hx with h | h
    · exact zeroCells_one hone (by rw [hzl]; exact hpos) _ x h
    · exact zeroCells_one hone (by rw [hzl]; exact hpos) _ x h
  have hzn : zs.length = (grownCap w (a + m) cap e - a) * s := by
    rw [hzs, List.length_append, Array.length_toList, Array.length_toList, size_zeroCells, size_zeroCells, hzl, hs, ← Nat.add_mul]
    congr 1; omega
  have hrv : RV w.drew C (vec s (es.take a) (grownCap w (a + m) cap e)) (ov ++ zs) := by
    have hl : (es.take a).length = a := by simp; omega
    rw [vec, hl, ← hzn]
    exact hor.append (RV.anys _ hz1)
  obtain ⟨C', he, hno, hnp, hin, hok, hblk⟩ := hid.newObj hrv e
  have heq : (ov ++ zs).toArray = ov.toArray ++ Builtin.zeroCells z.cells m ++ Builtin.zeroCells z.cells (grownCap w (a + m) cap e - (a + m)) := by rw [hzs]; apply Array.ext'; simp
  rw [heq] at he hin
  refine ⟨_, _, C', _, hr, ⟨(Stp.drew F w).trans (Stp.alloc (w := w.drew) hi.base _ _), he0.trans he, by rw [hno]; exact Nat.le_refl _, hnp⟩, hin, ⟨hok, ?_, hge⟩, hge⟩
  rw [hblk, Nat.zero_mul]; rfl
end
section
variable {E : Env} {o : Oper} {fr : Fr} {σ : St}
theorem AStep.copyOwn {t t' : TypeId} {ti tj : TI} {x y : Operand} {i j : Id} {s cap off m c1 cap2 off2 m2 c2 k : Nat} {es es2 es' : List (List AC)} (hT : TabOk E.P E.T) (ho : o.op = .call { callee := .builtin .copy, args := #[x, y], argTypes := #[t, t'] }) (ht : Tab.get t E.T = some ti) (hkd : Nat.beq ti.kind 2 = true) (hj : Tab.get ti.elem E.T = some tj) (hs : Nat.beq tj.size s = true)
    (hx : aEval E.Γ fr x = some (.one (.arr i s off m c1))) (hy : aEval E.Γ fr y = some (.one (.arr j s off2 m2 c2))) (hg : σ.get i = some (.cells (vec s es cap))) (hel : ∀ x ∈ es, x.length = s) (hn : es.length ≤ cap) (hof : off ≤ es.length)
    (hg2 : σ.get j = some (.cells (vec s es2 cap2))) (hel2 : ∀ x ∈ es2, x.length = s) (hn2 : es2.length ≤ cap2) (hk : min m2 m = k) (hk2 : off2 + k ≤ es2.length) (hroom : off + k ≤ cap) (he' : es.take off ++ (es2.drop off2).take k ++ es.drop (off + k) = es') :
    AStep E o fr σ (.one (.lit (goInt k))) (σ.set i (.cells (vec s es' cap))) := by
  subst he'
  intro F w C tmps hi hf next Q hk3
  have h1 := aEval_ok (a := ⟨tmps, []⟩) hi hf hx
  have h2 := aEval_ok (a := ⟨tmps, []⟩) hi hf hy
  simp only [RF, R] at h1 h2
  obtain ⟨nv, hnvl, hnr, hheld⟩ := hi.part hg2 hel2 hn2 hk2
  have hnl : ∀ x ∈ (es2.drop off2).take k, x.length = s := fun x hx => hel2 x (List.mem_of_mem_drop (List.mem_of_mem_take hx))
  obtain ⟨w', hrun, hgo, hi'⟩ := hi.copyRows (t' := t') (ty := o.type) (c1 := c1) (c2 := c2) ((hT t ti ht).slice (Nat.eq_of_beq_eq_true hkd)) (hT _ _ hj) hg hel hn hof hnl (by simp; omega) hnr hheld (Nat.eq_of_beq_eq_true hs) hk hroom
  have hex : (execOp (Act.eval ⟨tmps, []⟩) o).run E.P w = .ok (.value (goInt k)) w' := by
    unfold execOp
    simp only [ho, resolve, invoke, builtin, Sem.run_bind, Sem.run_pure, Result.andThen_ok, List.map_toArray, List.map_cons, List.map_nil, h1.2.1, h2.2.1, hrun]
  unfold Oper.wp
  rw [hex, Oper.upon_value]
  exact hk3 _ _ C hgo hi' (by simp only [RF, R]; exact ⟨trivial, rfl⟩)
theorem AStep.copySl {t t' : TypeId} {ti tj : TI} {x y : Operand} {i : Id} {d : AC} {s cap off m c1 : Nat} {es news es' : List (List AC)} (hT : TabOk E.P E.T) (ho : o.op = .call { callee := .builtin .copy, args := #[x, y], argTypes := #[t, t'] }) (ht : Tab.get t E.T = some ti) (hkd : Nat.beq ti.kind 2 = true) (hj : Tab.get ti.elem E.T = some tj) (hs : Nat.beq tj.size s = true)
    (hx : aEval E.Γ fr x = some (.one (.arr i s off m c1))) (hy : aEval E.Γ fr y = some (.one d)) (hsrc : Src d s news) (hne : news ≠ []) (hg : σ.get i = some (.cells (vec s es cap))) (hel : ∀ x ∈ es, x.length = s) (hn : es.length ≤ cap) (hof : off ≤ es.length)
    (hk : news.length ≤ m) (hroom : off + news.length ≤ cap) (he' : es.take off ++ news ++ es.drop (off + news.length) = es') :
    AStep E o fr σ (.one (.lit (goInt news.length))) (σ.set i (.cells (vec s es' cap))) := by
  subst he'
  intro F w C tmps hi hf next Q hk3
  have h1 := aEval_ok (a := ⟨tmps, []⟩) hi hf hx
  have h2 := aEval_ok (a := ⟨tmps, []⟩) hi hf hy
  simp only [RF, R] at h1 h2
  obtain ⟨hnl, b, capn, nv, hv2, hnvl, hnr, hheld, _⟩ := hsrc.held h2
  obtain ⟨ad, rfl, hh2⟩ := hheld.resolve_left hne
  obtain ⟨w', hrun, hgo, hi'⟩ := hi.copyRows (t' := t') (ty := o.type) (m := m) (c1 := c1) (m2 := news.length) (c2 := capn) ((hT t ti ht).slice (Nat.eq_of_beq_eq_true hkd)) (hT _ _ hj) hg hel hn hof hnl rfl hnr hh2 (Nat.eq_of_beq_eq_true hs) (by omega) hroom
  have hex : (execOp (Act.eval ⟨tmps, []⟩) o).run E.P w = .ok (.value (goInt news.length)) w' := by
    unfold execOp
    simp only [ho, resolve, invoke, builtin, Sem.run_bind, Sem.run_pure, Result.andThen_ok, List.map_toArray, List.map_cons, List.map_nil, h1.2.1, hv2, hrun]
  unfold Oper.wp
  rw [hex, Oper.upon_value]
  exact hk3 _ _ C hgo hi' (by simp only [RF, R]; exact ⟨trivial, rfl⟩)
theorem AStepR.appZeros {t tn : TypeId} {ti tj : TI} {x y : Operand} {kn kq : IntKind} {i : Id} {s cap a m : Nat} {es : List (List AC)} (hT : TabOk E.P E.T) (ho : o.op = .call { callee := .builtin .append, args := #[x, y], argTypes := #[t, tn] }) (ht : Tab.get t E.T = some ti) (hkd : Nat.beq ti.kind 2 = true) (hj : Tab.get ti.elem E.T = some tj) (hs : Nat.beq tj.size s = true) (htn : E.P.underlying tn = some (.int kn))
    (hx : aEval E.Γ fr x = some (.one (.arr i s 0 a cap))) (hy : aEval E.Γ fr y = some (.one (.lit (.int kq m)))) (hg : σ.get i = some (.cells (vec s es cap))) (hel : ∀ x ∈ es, x.length = s) (hn : es.length ≤ cap) (ha : a ≤ es.length)
    (hm : 0 < m) (hroom : cap < a + m) (hbytes : (a + m) * tj.bytes ≤ 140737488355328) (h63 : a + m ≤ 140737488355328) :
    AStepR E o fr σ (fun v σ' => ∃ capn, a + m ≤ capn ∧ v = .one (.arr (.l σ.n) s 0 (a + m) capn) ∧ σ' = σ.push (.cells (vec s (es.take a) capn))) := by
  intro F w C tmps hi hf next Q hk3
  have h1 := aEval_ok (a := ⟨tmps, []⟩) hi hf hx
  have h2 := aEval_ok (a := ⟨tmps, []⟩) hi hf hy
  simp only [RF, R, Nat.zero_mul] at h1 h2
  obtain ⟨v', w', C', capn, hrun, hgo, hi', hr, hle⟩ := hi.appZeros (ty := o.type) (kq := kq) ((hT t ti ht).slice (Nat.eq_of_beq_eq_true hkd)) htn (hT _ _ hj) hg hel hn ha (Nat.eq_of_beq_eq_true hs) hm hroom hbytes h63
  have hex : (execOp (Act.eval ⟨tmps, []⟩) o).run E.P w = .ok (.value v') w' := by
    unfold execOp
    simp only [ho, resolve, invoke, builtin, Sem.run_bind, Sem.run_pure, Result.andThen_ok, List.map_toArray, List.map_cons, List.map_nil, h1.2.1, h2.1, hrun]
  unfold Oper.wp
  rw [hex, Oper.upon_value]
  exact hk3 _ _ C' _ _ ⟨capn, hle, rfl, rfl⟩ hgo hi' (by simp only [RF]; exact hr)
/-- A slice that stays and an own array do not overlap. -/
theorem AStep.overlapsSl {t tR : TypeId} {ti tj : TI} {f x y : Operand} {tys : Array TypeId} {g : Nat} {j : Id} {s off2 m2 c2 : Nat} {news : List (List AC)} {csj : List AC} (hT : TabOk E.P E.T) (ho : o.op = .call { callee := .value f, args := #[x, y], argTypes := tys }) (hf : aEval E.Γ fr f = some (.one (.fn (.func g) [] []))) (ht : Tab.get t E.T = some ti) (hk : Nat.beq ti.kind 2 = true) (hj : Tab.get ti.elem E.T = some tj)
    (hov : ∀ us v w, (Extern.SlicesOverlaps.overlaps #[t, t] #[tR] us).run E.P w = .ok v w → (callFunc g us).run E.P w = .ok (.value v) w)
    (hx : aEval E.Γ fr x = some (.one (.sl s news))) (hy : aEval E.Γ fr y = some (.one (.arr j s off2 m2 c2))) (hne : news ≠ []) (hs : 0 < s) (hg2 : σ.get j = some (.cells csj)) (hc : csj.length ≠ 0) :
    AStep E o fr σ (.one (.lit (.bool false))) σ := by
  refine AStep.quiet fun F w C tmps hi hfr => ⟨.bool false, ?_, rfl, rfl⟩
  have hcallee := aEval_ok (a := ⟨tmps, []⟩) hi hfr hf
  have h1 := aEval_ok (a := ⟨tmps, []⟩) hi hfr hx
  have h2 := aEval_ok (a := ⟨tmps, []⟩) hi hfr hy
  simp only [RF, R] at h1 hcallee h2
  obtain ⟨xs, ys, hfv, q1, q2⟩ := hcallee
  simp only [RV] at q1 q2
  subst q1; subst q2
  obtain ⟨b, capn, hv1, _, hrs⟩ := h1
  obtain ⟨ad, rfl, hsp, hrs⟩ := hrs.resolve_left hne
  obtain ⟨r, rest, rfl⟩ : ∃ r rest, news = r :: rest := List.exists_cons_of_ne_nil hne
  simp only [RS] at hrs
  obtain ⟨hrl, hrr, _⟩ := hrs
  obtain ⟨c, cs, rfl⟩ : ∃ c cs, r = c :: cs := List.exists_cons_of_ne_nil (by rintro rfl; simp at hrl; omega)
  simp only [RL] at hrr
  obtain ⟨⟨u, hu, hpr, _⟩, _⟩ := hrr
  obtain ⟨hok2, vs2, T2, p1, p2, p3, p4⟩ := hi.obj j _ hg2
  have hne2 : ad.block ≠ C.blk j := fun e => p4 ad e hpr
  have hnb : (ad.block != C.blk j) = true := by simpa using hne2
  have hnb' : (ad.block == C.blk j) = false := by simpa using hne2
  have hz : ∀ w, (Go.sizeOf ti.elem).run E.P w = .ok tj.size w := fun w => (hT _ _ hj).run_sizeOf (w := w)
  have ht' := (hT t ti ht).slice (Nat.eq_of_beq_eq_true hk)
  have hsa : ∃ T k, w.shape? ad.block = some (T, k + 1) := by
    unfold World.cell? at hu
    unfold World.shape?
    split at hu
    · rename_i cur T fr0 heq
      rw [if_neg (by simp [hsp])] at hu
      have := (Array.getElem?_eq_some_iff.1 hu).1
      exact ⟨T, cur.size - 1, by simp; omega⟩
    · cases hu
  obtain ⟨TA, kA, hsa⟩ := hsa
  have hsb : w.shape? (C.blk j) = some (T2, vs2.length) := by simp [World.shape?, p1]
  have hfb : ∀ n, w.frozen? ⟨C.blk j, n, none⟩ = false := fun n => by simp [World.frozen?, p1]
  have hr : (Extern.SlicesOverlaps.overlaps #[t, t] #[tR] #[.slice (some ad) (List.length ((c :: cs) :: rest)) capn, .slice (some ⟨C.blk j, off2 * s, none⟩) m2 c2]).run E.P w = .ok (.bool false) w := by
    change Sem.run E.P (α := Value) (do
      let some t := (#[t, t] : Array TypeId)[0]? | stuck "slices.overlaps: no parameter types"
      let .slice elem ← underlying t | stuck "slices.overlaps: slice type expected"
      let size ← sizeOf elem
      match (some ad : Option Addr), (some (⟨C.blk j, off2 * s, none⟩ : Addr) : Option Addr) with
      | some a, some b =>
        if (List.length ((c :: cs) :: rest)) = 0 ∨ m2 = 0 ∨ size = 0 then pure (Value.bool false)
        else if a.block != b.block && (← frozen a) && (← frozen b) then unsupported .addressObserved
        else do
          if a.block != b.block then do
            noView a; noView b
            if ← mayBeOne a b then return Value.bool ((← choose (.extern "sameAddr.stringBytes" 2)) == 1)
          pure (Value.bool (a.block == b.block && a.off < b.off + m2 * size && b.off < a.off + (List.length ((c :: cs) :: rest)) * size))
      | _, _ => pure (Value.bool false)) w = _
    by_cases h0 : (List.length ((c :: cs) :: rest)) = 0 ∨ m2 = 0 ∨ tj.size = 0
    · simp only [List.getElem?_toArray, List.getElem?_cons_zero, Sem.run_bind, run_underlying ht', Result.andThen_ok, hz, if_pos h0, Sem.run_pure]
    · cases hfa : w.frozen? ad <;> cases hfe : w.frozen? ⟨ad.block, kA + 1, none⟩ <;>
        simp [run_underlying ht', hz, h0, hnb, hnb', frozen, noView, viewAt, mayBeOne, stringish, shape, Sem.run, hsa, hsb, hfb, hfa, hfe]
  unfold execOp
  simp only [ho, resolve, Sem.run_bind, hfv, Deferred.ofValue, Sem.run_pure, Result.andThen_ok, invoke]
  have h5 : Array.map (Act.eval ⟨tmps, []⟩) #[x, y] = #[.slice (some ad) (List.length ((c :: cs) :: rest)) capn, .slice (some ⟨C.blk j, off2 * s, none⟩) m2 c2] := by simp [hv1, h2.2.1]
  rw [h5]
  simpa using hov _ _ w hr
end
end Go.Abs
/- Clone and Delete, walked: they hand on an array of their own. -/
namespace Go.Abs
set_option linter.unusedVariables false
inductive CedFr (θ : Id → Id) (fr : Fr) : Fr → Prop
  | nil : CedFr θ fr []
  | cons {k : Nat} {x y : FV} {r : Fr} (h : Fr.get k fr = some y) (hw : y.sub θ = x) (hr : CedFr θ fr r) : CedFr θ fr ((k, x) :: r)
theorem CedFr.get {θ : Id → Id} {fr fr' : Fr} (h : CedFr θ fr fr') : ∀ d x, Fr.get d fr' = some x → ∃ y, Fr.get d fr = some y ∧ WkF (y.sub θ) x := by
  induction h with
  | nil => intro d x h; cases h
  | @cons k x y r h hw hr ih =>
    intro d z hz
    simp only [Fr.get] at hz
    by_cases e : k = d
    · subst e; simp at hz; subst hz; exact ⟨y, h, WkF.ofEq hw⟩
    · rw [beq_no e] at hz; exact ih d z hz
theorem vecO_ids {p : Id → Prop} {s cap : Nat} (es : List (List AC)) (h : idsS p es) : (AObj.cells (vec s es cap)).ids p := by
  show idsL p (vec s es cap)
  refine idsL_iff.2 fun c hc => ?_
  unfold vec at hc
  rcases List.mem_append.1 hc with hc | hc
  · obtain ⟨x, hx, hcx⟩ := List.mem_flatten.1 hc
    exact idsL_iff.1 (idsS_iff.1 h x hx) c hcx
  · obtain ⟨_, rfl⟩ := List.mem_replicate.1 hc
    trivial
theorem updO_ok {ou : Outer} {k : Nat} {o : AObj} (h : OuOk ou) (ho : o.ids isO) : OuOk (updO ou k o) := fun j x hx => by
  by_cases e : k = j
  · subst e; rw [updO_same] at hx; cases hx; exact ho
  · rw [updO_ne _ e] at hx; exact h j x hx
end Go.Abs
namespace Go.Proofs.YtoojdmgbffnmiaaDoor
open Go Go.Abs
set_option maxRecDepth 10000
set_option linter.unusedVariables false
set_option linter.unusedSimpArgs false
variable {Γ : List (Nat × List AC)}
def CloneQ (s : Nat) (es : List (List AC)) (ou : Outer) (r : FV) (ou' : Outer) : Prop :=
  (es = [] ∧ r = .one (.sl s []) ∧ ou' = ou) ∨ ∃ k cap, ou k = none ∧ es ≠ [] ∧ es.length ≤ cap ∧ r = .one (.arr (.o k) s 0 es.length cap) ∧ ou' = updO ou k (.cells (vec s es cap))
theorem CloneD_ok (hΓ : ∀ g cs, (g, cs) ∈ Γ → idsL isO cs) (l : List DSig) (hl : l.length ≤ 1048576) (ou : Outer) : AFn Tryd.prog Γ 23 [.one (.sl 3 (l.map cData))] ou (CloneQ 3 (l.map cData) ou) := by
  refine AFn.walk 8 tabOk Tryd.func23 rfl (by kernel_rfl) rfl rfl fun hou => ?_
  repeat first | (with_reducible refine oj ?_; refine AOps.auto tabOk rfl ?_) | (with_reducible first | refine o1 ?_ | refine o2 ?_ | refine o3 ?_ | refine o4 ?_ | refine o5 ?_ | refine o6 ?_ | refine o7 ?_ | refine o8 ?_ | refine o9 ?_ | refine oa ?_ | refine ob ?_ | refine oc ?_ | refine od ?_ | refine oe ?_ | refine og ?_ | refine oh ?_ | refine oi ?_) | (with_reducible refine cExitMiss ?_ ?_; rfl) | (with_reducible refine ok ?_; first | refine ACode.condT rfl ?_ | refine ACode.condF rfl ?_)
  refine AOps.nilTest rfl rfl rfl rfl Tryd.underlying22 rfl rfl fun b hb => ?_
  cases b with
  | true =>
    have hz : l = [] := by have := hb rfl; simpa using this
    subst hz
    repeat first | (with_reducible refine oj ?_; refine AOps.auto tabOk rfl ?_) | (with_reducible first | refine o1 ?_ | refine o2 ?_ | refine o3 ?_ | refine o4 ?_ | refine o5 ?_ | refine o6 ?_ | refine o7 ?_ | refine o8 ?_ | refine o9 ?_ | refine oa ?_ | refine ob ?_ | refine oc ?_ | refine od ?_ | refine oe ?_ | refine og ?_ | refine oh ?_ | refine oi ?_) | (with_reducible refine cExitMiss ?_ ?_; rfl) | (with_reducible refine ok ?_; first | refine ACode.condT rfl ?_ | refine ACode.condF rfl ?_)
    exact AFn.fin' rfl (.one (.nilS 3)) (by simp) hou (.inl ⟨rfl, rfl, rfl⟩)
  | false =>
    repeat first | (with_reducible refine oj ?_; refine AOps.auto tabOk rfl ?_) | (with_reducible first | refine o1 ?_ | refine o2 ?_ | refine o3 ?_ | refine o4 ?_ | refine o5 ?_ | refine o6 ?_ | refine o7 ?_ | refine o8 ?_ | refine o9 ?_ | refine oa ?_ | refine ob ?_ | refine oc ?_ | refine od ?_ | refine oe ?_ | refine og ?_ | refine oh ?_ | refine oi ?_) | (with_reducible refine cExitMiss ?_ ?_; rfl) | (with_reducible refine ok ?_; first | refine ACode.condT rfl ?_ | refine ACode.condF rfl ?_)
    refine AOps.step1 rfl rfl rfl (AStep.buildOwn0 tabOk rfl rfl rfl rfl rfl) ?_
    repeat first | (with_reducible refine oj ?_; refine AOps.auto tabOk rfl ?_) | (with_reducible first | refine o1 ?_ | refine o2 ?_ | refine o3 ?_ | refine o4 ?_ | refine o5 ?_ | refine o6 ?_ | refine o7 ?_ | refine o8 ?_ | refine o9 ?_ | refine oa ?_ | refine ob ?_ | refine oc ?_ | refine od ?_ | refine oe ?_ | refine og ?_ | refine oh ?_ | refine oi ?_) | (with_reducible refine cExitMiss ?_ ?_; rfl) | (with_reducible refine ok ?_; first | refine ACode.condT rfl ?_ | refine ACode.condF rfl ?_)
    by_cases hz : l = []
    · subst hz
      refine AOps.step1 rfl rfl rfl (AStep.appNone tabOk rfl rfl rfl rfl rfl rfl) ?_
      refine AOps.freezeArr (es := []) (.l 0) 7 rfl (by simp) rfl ?_
      repeat first | (with_reducible refine oj ?_; refine AOps.auto tabOk rfl ?_) | (with_reducible first | refine o1 ?_ | refine o2 ?_ | refine o3 ?_ | refine o4 ?_ | refine o5 ?_ | refine o6 ?_ | refine o7 ?_ | refine o8 ?_ | refine o9 ?_ | refine oa ?_ | refine ob ?_ | refine oc ?_ | refine od ?_ | refine oe ?_ | refine og ?_ | refine oh ?_ | refine oi ?_) | (with_reducible refine cExitMiss ?_ ?_; rfl) | (with_reducible refine ok ?_; first | refine ACode.condT rfl ?_ | refine ACode.condF rfl ?_)
      exact AFn.fin' rfl (.refl _) (by simp) hou (.inl ⟨rfl, rfl, rfl⟩)
    · refine AOps.appOwn tabOk rfl rfl rfl rfl rfl rfl rfl rfl rfl (.own 3 0 [] (.l 0) rfl (by simp) (by simp)) (.sl 3 (l.map cData)) (by simpa using hz) rfl (by simp; show _ * 48 ≤ _; omega) (by simp; omega) fun cap hc => ?_
      refine AOps.cede 1 (show 1 < 2 by omega) fun k hk => ⟨[(7, .one (.arr (.o k) 3 0 (l.map cData).length cap))], ⟨2, [], updO ou k (.cells (vec 3 (l.map cData) cap))⟩, ⟨CedFr.get (.cons rfl rfl .nil), rfl, fun i x hx => ?_⟩, ?_⟩
      · have hk : ou k = none := hk
        cases i with
        | l m => cases hx
        | o m =>
          have hx' : updO ou k (.cells (vec 3 (l.map cData) cap)) m = some x := hx
          by_cases e : k = m
          · subst e; rw [updO_same] at hx'; cases hx'
            exact ⟨.l 1, _, rfl, rfl, (AObj.sub_o _ (vecO_ids _ (by simp))).symm⟩
          · rw [updO_ne _ e] at hx'
            exact ⟨.o m, x, hx', rfl, (AObj.sub_o x (hou m x hx')).symm⟩
      repeat first | (with_reducible refine oj ?_; refine AOps.auto tabOk rfl ?_) | (with_reducible first | refine o1 ?_ | refine o2 ?_ | refine o3 ?_ | refine o4 ?_ | refine o5 ?_ | refine o6 ?_ | refine o7 ?_ | refine o8 ?_ | refine o9 ?_ | refine oa ?_ | refine ob ?_ | refine oc ?_ | refine od ?_ | refine oe ?_ | refine og ?_ | refine oh ?_ | refine oi ?_) | (with_reducible refine cExitMiss ?_ ?_; rfl) | (with_reducible refine ok ?_; first | refine ACode.condT rfl ?_ | refine ACode.condF rfl ?_)
      exact AFn.fin' rfl (.refl _) (by simp) (updO_ok hou (vecO_ids _ (by simp))) (.inr ⟨k, cap, hk, by simpa using hz, by simpa using hc, rfl, rfl⟩)
theorem CloneV_ok (hΓ : ∀ g cs, (g, cs) ∈ Γ → idsL isO cs) (l : List VSig) (hl : l.length ≤ 1048576) (ou : Outer) : AFn Tryd.prog Γ 25 [.one (.sl 7 (l.map cVal))] ou (CloneQ 7 (l.map cVal) ou) := by
  refine AFn.walk 8 tabOk Tryd.func25 rfl (by kernel_rfl) rfl rfl fun hou => ?_
  repeat first | (with_reducible refine oj ?_; refine AOps.auto tabOk rfl ?_) | (with_reducible first | refine o1 ?_ | refine o2 ?_ | refine o3 ?_ | refine o4 ?_ | refine o5 ?_ | refine o6 ?_ | refine o7 ?_ | refine o8 ?_ | refine o9 ?_ | refine oa ?_ | refine ob ?_ | refine oc ?_ | refine od ?_ | refine oe ?_ | refine og ?_ | refine oh ?_ | refine oi ?_) | (with_reducible refine cExitMiss ?_ ?_; rfl) | (with_reducible refine ok ?_; first | refine ACode.condT rfl ?_ | refine ACode.condF rfl ?_)
  refine AOps.nilTest rfl rfl rfl rfl Tryd.underlying23 rfl rfl fun b hb => ?_
  cases b with
  | true =>
    have hz : l = [] := by have := hb rfl; simpa using this
    subst hz
    repeat first | (with_reducible refine oj ?_; refine AOps.auto tabOk rfl ?_) | (with_reducible first | refine o1 ?_ | refine o2 ?_ | refine o3 ?_ | refine o4 ?_ | refine o5 ?_ | refine o6 ?_ | refine o7 ?_ | refine o8 ?_ | refine o9 ?_ | refine oa ?_ | refine ob ?_ | refine oc ?_ | refine od ?_ | refine oe ?_ | refine og ?_ | refine oh ?_ | refine oi ?_) | (with_reducible refine cExitMiss ?_ ?_; rfl) | (with_reducible refine ok ?_; first | refine ACode.condT rfl ?_ | refine ACode.condF rfl ?_)
    exact AFn.fin' rfl (.one (.nilS 7)) (by simp) hou (.inl ⟨rfl, rfl, rfl⟩)
  | false =>
    repeat first | (with_reducible refine oj ?_; refine AOps.auto tabOk rfl ?_) | (with_reducible first | refine o1 ?_ | refine o2 ?_ | refine o3 ?_ | refine o4 ?_ | refine o5 ?_ | refine o6 ?_ | refine o7 ?_ | refine o8 ?_ | refine o9 ?_ | refine oa ?_ | refine ob ?_ | refine oc ?_ | refine od ?_ | refine oe ?_ | refine og ?_ | refine oh ?_ | refine oi ?_) | (with_reducible refine cExitMiss ?_ ?_; rfl) | (with_reducible refine ok ?_; first | refine ACode.condT rfl ?_ | refine ACode.condF rfl ?_)
    refine AOps.step1 rfl rfl rfl (AStep.buildOwn0 tabOk rfl rfl rfl rfl rfl) ?_
    repeat first | (with_reducible refine oj ?_; refine AOps.auto tabOk rfl ?_) | (with_reducible first | refine o1 ?_ | refine o2 ?_ | refine o3 ?_ | refine o4 ?_ | refine o5 ?_ | refine o6 ?_ | refine o7 ?_ | refine o8 ?_ | refine o9 ?_ | refine oa ?_ | refine ob ?_ | refine oc ?_ | refine od ?_ | refine oe ?_ | refine og ?_ | refine oh ?_ | refine oi ?_) | (with_reducible refine cExitMiss ?_ ?_; rfl) | (with_reducible refine ok ?_; first | refine ACode.condT rfl ?_ | refine ACode.condF rfl ?_)
    by_cases hz : l = []
    · subst hz
      refine AOps.step1 rfl rfl rfl (AStep.appNone tabOk rfl rfl rfl rfl rfl rfl) ?_
      refine AOps.freezeArr (es := []) (.l 0) 7 rfl (by simp) rfl ?_
      repeat first | (with_reducible refine oj ?_; refine AOps.auto tabOk rfl ?_) | (with_reducible first | refine o1 ?_ | refine o2 ?_ | refine o3 ?_ | refine o4 ?_ | refine o5 ?_ | refine o6 ?_ | refine o7 ?_ | refine o8 ?_ | refine o9 ?_ | refine oa ?_ | refine ob ?_ | refine oc ?_ | refine od ?_ | refine oe ?_ | refine og ?_ | refine oh ?_ | refine oi ?_) | (with_reducible refine cExitMiss ?_ ?_; rfl) | (with_reducible refine ok ?_; first | refine ACode.condT rfl ?_ | refine ACode.condF rfl ?_)
      exact AFn.fin' rfl (.refl _) (by simp) hou (.inl ⟨rfl, rfl, rfl⟩)
    · refine AOps.appOwn tabOk rfl rfl rfl rfl rfl rfl rfl rfl rfl (.own 7 0 [] (.l 0) rfl (by simp) (by simp)) (.sl 7 (l.map cVal)) (by simpa using hz) rfl (by simp; show _ * 104 ≤ _; omega) (by simp; omega) fun cap hc => ?_
      refine AOps.cede 1 (show 1 < 2 by omega) fun k hk => ⟨[(7, .one (.arr (.o k) 7 0 (l.map cVal).length cap))], ⟨2, [], updO ou k (.cells (vec 7 (l.map cVal) cap))⟩, ⟨CedFr.get (.cons rfl rfl .nil), rfl, fun i x hx => ?_⟩, ?_⟩
      · have hk : ou k = none := hk
        cases i with
        | l m => cases hx
        | o m =>
          have hx' : updO ou k (.cells (vec 7 (l.map cVal) cap)) m = some x := hx
          by_cases e : k = m
          · subst e; rw [updO_same] at hx'; cases hx'
            exact ⟨.l 1, _, rfl, rfl, (AObj.sub_o _ (vecO_ids _ (by simp))).symm⟩
          · rw [updO_ne _ e] at hx'
            exact ⟨.o m, x, hx', rfl, (AObj.sub_o x (hou m x hx')).symm⟩
      repeat first | (with_reducible refine oj ?_; refine AOps.auto tabOk rfl ?_) | (with_reducible first | refine o1 ?_ | refine o2 ?_ | refine o3 ?_ | refine o4 ?_ | refine o5 ?_ | refine o6 ?_ | refine o7 ?_ | refine o8 ?_ | refine o9 ?_ | refine oa ?_ | refine ob ?_ | refine oc ?_ | refine od ?_ | refine oe ?_ | refine og ?_ | refine oh ?_ | refine oi ?_) | (with_reducible refine cExitMiss ?_ ?_; rfl) | (with_reducible refine ok ?_; first | refine ACode.condT rfl ?_ | refine ACode.condF rfl ?_)
      exact AFn.fin' rfl (.refl _) (by simp) (updO_ok hou (vecO_ids _ (by simp))) (.inr ⟨k, cap, hk, by simpa using hz, by simpa using hc, rfl, rfl⟩)
end Go.Proofs.YtoojdmgbffnmiaaDoor
/- Delete, walked. -/
namespace Go.Abs
set_option linter.unusedVariables false
/-- A DRAWN REGION in whose head one operation turns the store; how it does is given. -/
theorem ACode.drawXH {E : Env} {id : Nat} {l hd tl : List Oper} {K : Cont} {fr frb fr' : Fr} {σ σ1 : St} {vs : List FV} {va : FV} {oal : Oper} (hT : TabOk E.P E.T) (n al : Nat) (cs : List (Nat × FV)) (hm : E.P.follows .mixedOrders = true) (hB : drawB l n = true) (haln : Nat.ble (al + 1) n = true) (hsp : splitO n l = some (hd, tl)) (hfb : Fr.woO (dsts hd) fr = some frb)
    (hoal : l[al]? = some oal) (hrun : runHeads E l.toArray l frb σ ((al, va) :: cs) 0 hd [] = some vs) (hrun1 : runHeads E l.toArray l frb σ1 ((al, va) :: cs) 0 hd [] = some vs) (hfr : frOf hd vs frb = some fr') (hal : HStep E l.toArray oal (depFr l vs oal ++ frb) σ σ1 va) (hcs : CallsOk E l frb σ vs cs) (hcs1 : CallsOk E l frb σ1 vs cs) (htail : AOps E l.toArray tl K fr' σ1) : ACode E (.region id l.toArray true) K fr σ := by
  obtain ⟨h1, h2⟩ := splitO_eq hsp
  subst h1; subst h2
  have h3 := Fr.woO_eq hfb
  have h4 := frOf_eq hfr
  have hn : n < l.length := by
    simp only [drawB, Bool.and_eq_true, decide_eq_true_eq] at hB
    exact hB.1.1.1.1.1
  have hlast : ((l.take n).zipIdx.all fun x => x.1.after.all fun e => !Region.binds .any e || decide (e.on < x.2)) = true := by
    simp only [drawB, Bool.and_eq_true] at hB
    exact hB.2
  refine ACode.drawAF n al vs _ hm haln hB rfl frb h3 (runHeads_ok2 (n := n) (va := va) hT (fun k o hk hkn => ?_) hoal hal hcs hcs1 _ 0 [] vs rfl (fun i o hi => ?_) hrun hrun1 rfl) (by rw [h4]; exact htail)
  · have := List.all_eq_true.1 hlast (o, k) (by
      rw [List.mem_iff_getElem?]
      exact ⟨k, by rw [List.getElem?_zipIdx, List.getElem?_take_of_lt hkn, hk]; simp⟩)
    exact this
  · have hi2 : i < n := by
      have := (List.getElem?_eq_some_iff.1 hi).1
      simp at this; omega
    rw [List.getElem?_take_of_lt hi2] at hi
    exact ⟨by simpa using hi, by omega⟩
theorem setO_eq (n : Nat) (lo : List (Nat × AObj)) (ou : Outer) (k : Nat) (o : AObj) : St.set ⟨n, lo, ou⟩ (.o k) o = ⟨n, lo, updO ou k o⟩ := by
  have : (fun j => bif Nat.beq j k then some o else ou j) = updO ou k o := by
    funext j
    by_cases e : k = j
    · subst e; rw [updO_same]; simp
    · rw [updO_ne _ e, beq_no (fun h => e h.symm)]; rfl
  show St.mk n lo (fun j => bif Nat.beq j k then some o else ou j) = _
  rw [this]
theorem updO_twice (ou : Outer) (k : Nat) (o p : AObj) : updO (updO ou k o) k p = updO ou k p := by
  funext j
  by_cases e : k = j
  · subst e; rw [updO_same, updO_same]
  · rw [updO_ne _ e, updO_ne _ e, updO_ne _ e]
theorem AStep.sliceOwn' {E : Env} {o : Oper} {fr : Fr} {σ : St} {t : TypeId} {ti tj : TI} {x : Operand} {lo hi mx : Option Operand} {i : Id} {s len cap a b c off' m' c' : Nat} (hT : TabOk E.P E.T) (ho : o.op = .slice t x lo hi mx) (ht : Tab.get t E.T = some ti) (hk : Nat.beq ti.kind 2 = true) (hj : Tab.get ti.elem E.T = some tj) (hs : Nat.beq tj.size s = true)
    (hx : aEval E.Γ fr x = some (.one (.arr i s 0 len cap))) (hlo : optIs E.Γ fr lo a 0) (hhi : optIs E.Γ fr hi b len) (hmx : optIs E.Γ fr mx c cap) (hm : mx.isSome = true → hi.isSome = true) (h1 : a ≤ b) (h2 : b ≤ c) (h3 : c ≤ cap)
    (e1 : (if c = a then 0 else a) = off') (e2 : b - a = m') (e3 : c - a = c') : AStep E o fr σ (.one (.arr i s off' m' c')) σ := by
  subst e1; subst e2; subst e3
  exact AStep.sliceOwn hT ho ht hk hj hs hx hlo hhi hmx hm h1 h2 h3
theorem AStep.closeUp' {E : Env} {o : Oper} {fr : Fr} {σ : St} {t : TypeId} {ti tj : TI} {x y : Operand} {i : Id} {s cap a off m cap2 n' : Nat} {es es' : List (List AC)} (hT : TabOk E.P E.T) (ho : o.op = .call { callee := .builtin .append, args := #[x, y], argTypes := #[t, t] }) (ht : Tab.get t E.T = some ti) (hk : Nat.beq ti.kind 2 = true) (hj : Tab.get ti.elem E.T = some tj) (hs : Nat.beq tj.size s = true)
    (hx : aEval E.Γ fr x = some (.one (.arr i s 0 a cap))) (hy : aEval E.Γ fr y = some (.one (.arr i s off m cap2))) (hg : σ.get i = some (.cells (vec s es cap))) (hel : ∀ x ∈ es, x.length = s) (hn : es.length ≤ cap) (ha : a ≤ es.length) (hoff : m = 0 ∨ off + m ≤ es.length) (hroom : a + m ≤ cap)
    (hn' : a + m = n') (he' : es.take a ++ (es.drop off).take m = es') : AStep E o fr σ (.one (.arr i s 0 n' cap)) (σ.set i (.cells (vec s es' cap))) := by
  subst hn'; subst he'
  exact AStep.closeUp hT ho ht hk hj hs hx hy hg hel hn ha hoff hroom
end Go.Abs
namespace Go.Proofs.YtoojdmgbffnmiaaDoor
open Go Go.Abs
set_option maxRecDepth 10000
set_option linter.unusedVariables false
set_option linter.unusedSimpArgs false
variable {Γ : List (Nat × List AC)}
theorem DeleteV_ok (hΓ : ∀ g cs, (g, cs) ∈ Γ → idsL isO cs) (es : List (List AC)) (hes : ∀ x ∈ es, x.length = 7) (hids : ∀ p : Abs.Id → Prop, idsS p es) (hl : es.length ≤ 1048576) (j : Nat) (hj : j < es.length) (ou : Outer) (k cap : Nat) (hc : es.length ≤ cap) (hk : ou k = some (.cells (vec 7 es cap))) :
    AFn Tryd.prog Γ 24 [.one (.arr (.o k) 7 0 es.length cap), .one (int j), .one (int ((j : Int) + 1))] ou (fun r ou' => r = .one (.arr (.o k) 7 0 (es.eraseIdx j).length cap) ∧ ou' = updO ou k (.cells (vec 7 (es.eraseIdx j) cap))) := by
  have hel : (es.eraseIdx j).length = es.length - 1 := List.length_eraseIdx_of_lt hj
  have her : es.take j ++ (es.drop (j + 1)).take (es.length - (j + 1)) = es.eraseIdx j := by
    rw [List.take_of_length_le (l := es.drop (j + 1)) (by simp), List.eraseIdx_eq_take_drop_succ]
  have hee : ∀ x ∈ es.eraseIdx j, x.length = 7 := fun x hx => hes x (List.mem_of_mem_eraseIdx hx)
  refine AFn.walk 33 tabOk Tryd.func24 rfl (by kernel_rfl) rfl rfl fun hou => ?_
  repeat first | (with_reducible refine oj ?_; refine AOps.auto tabOk rfl ?_) | (with_reducible first | refine o1 ?_ | refine o2 ?_ | refine o3 ?_ | refine o4 ?_ | refine o5 ?_ | refine o6 ?_ | refine o7 ?_ | refine o8 ?_ | refine o9 ?_ | refine oa ?_ | refine ob ?_ | refine oc ?_ | refine od ?_ | refine oe ?_ | refine og ?_ | refine oh ?_ | refine oi ?_) | (with_reducible refine cExitMiss ?_ ?_; rfl) | (with_reducible refine ok ?_; first | refine ACode.condT rfl ?_ | refine ACode.condF rfl ?_)
  refine AOps.step1 rfl rfl rfl (AStep.sliceOwn (a := j) (b := j + 1) (c := es.length) tabOk rfl rfl rfl rfl rfl rfl ⟨_, rfl⟩ ⟨_, rfl⟩ ⟨_, rfl⟩ (fun _ => rfl) (by omega) (by omega) (by omega)) ?_
  repeat first | (with_reducible refine oj ?_; refine AOps.auto tabOk rfl ?_) | (with_reducible first | refine o1 ?_ | refine o2 ?_ | refine o3 ?_ | refine o4 ?_ | refine o5 ?_ | refine o6 ?_ | refine o7 ?_ | refine o8 ?_ | refine o9 ?_ | refine oa ?_ | refine ob ?_ | refine oc ?_ | refine od ?_ | refine oe ?_ | refine og ?_ | refine oh ?_ | refine oi ?_) | (with_reducible refine cExitMiss ?_ ?_; rfl) | (with_reducible refine ok ?_; first | refine ACode.condT rfl ?_ | refine ACode.condF rfl ?_)
  refine ACode.cond rfl (fun hb => absurd hb (by simp; omega)) (fun hb => ?_)
  repeat first | (with_reducible refine oj ?_; refine AOps.auto tabOk rfl ?_) | (with_reducible first | refine o1 ?_ | refine o2 ?_ | refine o3 ?_ | refine o4 ?_ | refine o5 ?_ | refine o6 ?_ | refine o7 ?_ | refine o8 ?_ | refine o9 ?_ | refine oa ?_ | refine ob ?_ | refine oc ?_ | refine od ?_ | refine oe ?_ | refine og ?_ | refine oh ?_ | refine oi ?_) | (with_reducible refine cExitMiss ?_ ?_; rfl) | (with_reducible refine ok ?_; first | refine ACode.condT rfl ?_ | refine ACode.condF rfl ?_)
  have hjl : j + (es.length - (j + 1)) = (es.eraseIdx j).length := by omega
  refine ACode.drawXH (va := .one (.arr (.o k) 7 0 (es.eraseIdx j).length cap)) (σ1 := (St.set ⟨0, [], ou⟩ (.o k) (.cells (vec 7 (es.eraseIdx j) cap))))
    tabOk 7 6 [(2, .one (.arr (.o k) 7 0 j cap)), (5, .one (.arr (.o k) 7 (if cap = j + 1 then 0 else j + 1) (es.length - (j + 1)) (cap - (j + 1))))] follows (by kernel_rfl) rfl rfl rfl rfl rfl rfl rfl ?_ ?_ ?_ ?_
  · refine HStep.plain rfl (AStep.closeUp' (es := es) tabOk rfl rfl rfl rfl rfl rfl rfl hk hes hc (by omega) ?_ (by omega) hjl ?_)
    · by_cases e : cap = j + 1
      · exact .inl (by omega)
      · rw [if_neg e]; exact .inr (by omega)
    · by_cases e : cap = j + 1
      · rw [if_pos e, ← her, show es.length - (j + 1) = 0 by omega]; rfl
      · rw [if_neg e]; exact her
  · refine .step rfl (HStep.plain rfl (AStep.sliceOwn' (a := 0) (b := j) (c := cap) tabOk rfl rfl rfl rfl rfl rfl rfl ⟨_, rfl⟩ rfl (fun _ => rfl) (by omega) (by omega) (by omega) (by simp) rfl rfl)) ?_
    exact .step rfl (HStep.plain rfl (AStep.sliceOwn (a := j + 1) (b := es.length) (c := cap) tabOk rfl rfl rfl rfl rfl rfl ⟨_, rfl⟩ rfl rfl (fun h => h) (by omega) (by omega) (by omega))) .nil
  · refine .step rfl (HStep.plain rfl (AStep.sliceOwn' (a := 0) (b := j) (c := cap) tabOk rfl rfl rfl rfl rfl rfl rfl ⟨_, rfl⟩ rfl (fun _ => rfl) (by omega) (by omega) (by omega) (by simp) rfl rfl)) ?_
    exact .step rfl (HStep.plain rfl (AStep.sliceOwn (a := j + 1) (b := es.length) (c := cap) tabOk rfl rfl rfl rfl rfl rfl ⟨_, rfl⟩ rfl rfl (fun h => h) (by omega) (by omega) (by omega))) .nil
  repeat first | (with_reducible refine oj ?_; refine AOps.auto tabOk rfl ?_) | (with_reducible first | refine o1 ?_ | refine o2 ?_ | refine o3 ?_ | refine o4 ?_ | refine o5 ?_ | refine o6 ?_ | refine o7 ?_ | refine o8 ?_ | refine o9 ?_ | refine oa ?_ | refine ob ?_ | refine oc ?_ | refine od ?_ | refine oe ?_ | refine og ?_ | refine oh ?_ | refine oi ?_) | (with_reducible refine cExitMiss ?_ ?_; rfl) | (with_reducible refine ok ?_; first | refine ACode.condT rfl ?_ | refine ACode.condF rfl ?_)
  refine AOps.step1 rfl rfl rfl (AStep.sliceOwn' (a := (es.eraseIdx j).length) (b := es.length) (c := cap) (off' := (es.eraseIdx j).length) (m' := 1) tabOk rfl rfl rfl rfl rfl rfl ⟨_, rfl⟩ ⟨_, rfl⟩ rfl (fun _ => rfl) (by omega) (by omega) (by omega) (by rw [if_neg (by omega)]) (by omega) rfl) ?_
  refine AOps.step rfl rfl (AStep.clearTail (es := es.eraseIdx j) (cap := cap) tabOk rfl rfl rfl rfl rfl rfl (by omega) (St.get_set_same _ _ _) hee (by omega) (Nat.le_refl _) (by omega)) ?_
  rw [setO_eq, setO_eq, updO_twice]
  repeat first | (with_reducible refine oj ?_; refine AOps.auto tabOk rfl ?_) | (with_reducible first | refine o1 ?_ | refine o2 ?_ | refine o3 ?_ | refine o4 ?_ | refine o5 ?_ | refine o6 ?_ | refine o7 ?_ | refine o8 ?_ | refine o9 ?_ | refine oa ?_ | refine ob ?_ | refine oc ?_ | refine od ?_ | refine oe ?_ | refine og ?_ | refine oh ?_ | refine oi ?_) | (with_reducible refine cExitMiss ?_ ?_; rfl) | (with_reducible refine ok ?_; first | refine ACode.condT rfl ?_ | refine ACode.condF rfl ?_)
  exact AFn.fin' rfl (.refl _) (by simp) (updO_ok hou (vecO_ids _ (idsS_iff.2 fun x hx => idsS_iff.1 (hids _) x (List.mem_of_mem_eraseIdx hx)))) ⟨rfl, rfl⟩
end Go.Proofs.YtoojdmgbffnmiaaDoor
/- A search in any list, walked: its place is in the list or behind it. -/
namespace Go.Proofs.YtoojdmgbffnmiaaDoor
open Go Go.Abs
set_option maxRecDepth 10000
set_option linter.unusedVariables false
set_option linter.unusedSimpArgs false
variable {Γ : List (Nat × List AC)}
theorem cVal_l7 (v : VSig) : (cVal v).length = 7 := by
  obtain ⟨a, b, c, d⟩ := v
  cases d; rfl
def c3 (a b : Str) : Int := if Op.bytesLess (ByteArray.toList a) (ByteArray.toList b) then -1 else if !(Op.bytesLess (ByteArray.toList a) (ByteArray.toList b) || ByteArray.toList a == ByteArray.toList b) then 1 else 0
theorem C3_ok (a b : VSig) : APure Tryd.prog Γ 27 [.agg (cVal a), .agg (cVal b)] (.one (int (c3 a.name b.name))) := by
  intro ou
  refine AFn.walk 15 tabOk Tryd.func27 rfl (by kernel_rfl) rfl rfl fun hou => ?_
  repeat first | (with_reducible refine oj ?_; refine AOps.auto tabOk rfl ?_) | (with_reducible first | refine o1 ?_ | refine o2 ?_ | refine o3 ?_ | refine o4 ?_ | refine o5 ?_ | refine o6 ?_ | refine o7 ?_ | refine o8 ?_ | refine o9 ?_ | refine oa ?_ | refine ob ?_ | refine oc ?_ | refine od ?_ | refine oe ?_ | refine og ?_ | refine oh ?_ | refine oi ?_) | (with_reducible refine cExitMiss ?_ ?_; rfl) | (with_reducible refine ok ?_; first | refine ACode.condT rfl ?_ | refine ACode.condF rfl ?_)
  refine ACode.cond rfl (fun hb => ?_) (fun hb => ?_)
  · repeat first | (with_reducible refine oj ?_; refine AOps.auto tabOk rfl ?_) | (with_reducible first | refine o1 ?_ | refine o2 ?_ | refine o3 ?_ | refine o4 ?_ | refine o5 ?_ | refine o6 ?_ | refine o7 ?_ | refine o8 ?_ | refine o9 ?_ | refine oa ?_ | refine ob ?_ | refine oc ?_ | refine od ?_ | refine oe ?_ | refine og ?_ | refine oh ?_ | refine oi ?_) | (with_reducible refine cExitMiss ?_ ?_; rfl) | (with_reducible refine ok ?_; first | refine ACode.condT rfl ?_ | refine ACode.condF rfl ?_)
    refine APure.fin rfl (WkF.ofEq ?_) (by simp) hou rfl
    unfold c3; rw [if_pos hb]
  · repeat first | (with_reducible refine oj ?_; refine AOps.auto tabOk rfl ?_) | (with_reducible first | refine o1 ?_ | refine o2 ?_ | refine o3 ?_ | refine o4 ?_ | refine o5 ?_ | refine o6 ?_ | refine o7 ?_ | refine o8 ?_ | refine o9 ?_ | refine oa ?_ | refine ob ?_ | refine oc ?_ | refine od ?_ | refine oe ?_ | refine og ?_ | refine oh ?_ | refine oi ?_) | (with_reducible refine cExitMiss ?_ ?_; rfl) | (with_reducible refine ok ?_; first | refine ACode.condT rfl ?_ | refine ACode.condF rfl ?_)
    refine ACode.cond rfl (fun hb2 => ?_) (fun hb2 => ?_)
    · repeat first | (with_reducible refine oj ?_; refine AOps.auto tabOk rfl ?_) | (with_reducible first | refine o1 ?_ | refine o2 ?_ | refine o3 ?_ | refine o4 ?_ | refine o5 ?_ | refine o6 ?_ | refine o7 ?_ | refine o8 ?_ | refine o9 ?_ | refine oa ?_ | refine ob ?_ | refine oc ?_ | refine od ?_ | refine oe ?_ | refine og ?_ | refine oh ?_ | refine oi ?_) | (with_reducible refine cExitMiss ?_ ?_; rfl) | (with_reducible refine ok ?_; first | refine ACode.condT rfl ?_ | refine ACode.condF rfl ?_)
      refine APure.fin rfl (WkF.ofEq ?_) (by simp) hou rfl
      unfold c3; rw [if_neg (by rw [hb]; simp), if_pos hb2]
    · repeat first | (with_reducible refine oj ?_; refine AOps.auto tabOk rfl ?_) | (with_reducible first | refine o1 ?_ | refine o2 ?_ | refine o3 ?_ | refine o4 ?_ | refine o5 ?_ | refine o6 ?_ | refine o7 ?_ | refine o8 ?_ | refine o9 ?_ | refine oa ?_ | refine ob ?_ | refine oc ?_ | refine od ?_ | refine oe ?_ | refine og ?_ | refine oh ?_ | refine oi ?_) | (with_reducible refine cExitMiss ?_ ?_; rfl) | (with_reducible refine ok ?_; first | refine ACode.condT rfl ?_ | refine ACode.condF rfl ?_)
      refine APure.fin rfl (WkF.ofEq ?_) (by simp) hou rfl
      unfold c3; rw [if_neg (by rw [hb]; simp), if_neg (by rw [hb2]; simp)]
theorem c3_small (a b : Str) : -1 ≤ c3 a b ∧ c3 a b ≤ 1 := by
  unfold c3; split
  · omega
  · split <;> omega
def BsQ (n : Nat) (ou : Outer) (r : FV) (ou' : Outer) : Prop := ou' = ou ∧ ∃ (i : Nat) (b : Bool), i ≤ n ∧ r = .tup [.one (int i), .one (.lit (.bool b))]
theorem BSF26_ok (hΓ : ∀ g cs, (g, cs) ∈ Γ → idsL isO cs) (v : VSig) (xs : List VSig) (hx : xs.length ≤ 1048576) (ou : Outer) :
    AFn Tryd.prog Γ 26 [.one (.sl 7 (xs.map cVal)), .agg (cVal v), .one (.fn (.func 27) [] [])] ou (BsQ xs.length ou) := by
  refine AFn.walk 49 tabOk Tryd.func26 rfl (by kernel_rfl) rfl rfl fun hou => ?_
  repeat first | (with_reducible refine oj ?_; refine AOps.auto tabOk rfl ?_) | (with_reducible first | refine o1 ?_ | refine o2 ?_ | refine o3 ?_ | refine o4 ?_ | refine o5 ?_ | refine o6 ?_ | refine o7 ?_ | refine o8 ?_ | refine o9 ?_ | refine oa ?_ | refine ob ?_ | refine oc ?_ | refine od ?_ | refine oe ?_ | refine og ?_ | refine oh ?_ | refine oi ?_) | (with_reducible refine cExitMiss ?_ ?_; rfl) | (with_reducible refine ok ?_; first | refine ACode.condT rfl ?_ | refine ACode.condF rfl ?_)
  refine ACode.freeze1 (.l 0) 4 rfl rfl ?_
  refine ACode.loopR hΓ (α := Nat × Nat) (fun j => [(10, .one (int j.2)), (9, .one (int j.1)), (8, .one (int (xs.map cVal).length)), (4, .one (.box (cVal v))), (2, .one (.fn (.func 27) [] [])), (0, .one (.sl 7 (xs.map cVal)))])
    (fun j => ⟨0, [], ou⟩) (fun m j => j.1 ≤ j.2 ∧ j.2 ≤ xs.length ∧ m = j.2 - j.1) (a0 := (0, xs.length)) (ρ := id) ⟨by simp, by simp, rfl⟩ (LessR.of rfl ?_ (by simp) (by repeat' first | exact LoSub.nil | refine LoSub.cons rfl ?_ rfl (by first | (simp; done) | exact ids_oaO (by simp)) ?_ | rfl | (refine (AObj.ren_pure _ _ ?_).symm; simp; done) | exact (ren_oaO _ _ _ _ fun _ => ids_vec (by simp; done)).symm | (simp [AObj.ren, renL, AC.ren, cTy]; done) | (simp [AObj.ren, renL, AC.ren, cTy]; rfl)) rfl rfl hou) fun m j hj => ?_
  · (repeat' first | exact FrSub.nil | refine FrSub.cons rfl (.ofEq rfl) ?_ | refine FrSub.consP rfl (.ofEq rfl) (by simp) ?_ | refine FrSub.cons rfl (.ofEq (by simp [FV.ren, AC.ren])) ?_)
  obtain ⟨lo, hi'⟩ := j
  obtain ⟨h2, h3, rfl⟩ := hj
  simp only at h2 h3 ⊢
  repeat first | (with_reducible refine oj ?_; refine AOps.auto tabOk rfl ?_) | (with_reducible first | refine o1 ?_ | refine o2 ?_ | refine o3 ?_ | refine o4 ?_ | refine o5 ?_ | refine o6 ?_ | refine o7 ?_ | refine o8 ?_ | refine o9 ?_ | refine oa ?_ | refine ob ?_ | refine oc ?_ | refine od ?_ | refine oe ?_ | refine og ?_ | refine oh ?_ | refine oi ?_) | (with_reducible refine cExitMiss ?_ ?_; rfl) | (with_reducible refine ok ?_; first | refine ACode.condT rfl ?_ | refine ACode.condF rfl ?_)
  refine ACode.cond rfl (fun hb2 => ?_) (fun hb2 => ?_)
  · have hlt : lo < hi' := by simpa using hb2
    obtain ⟨a, ha⟩ := get_of_lt (l := xs) (i := (lo + hi') / 2) (by omega)
    have hca := C3_ok (Γ := Γ) a v
    repeat first | (with_reducible refine oj ?_; refine AOps.auto tabOk rfl ?_) | (with_reducible first | refine o1 ?_ | refine o2 ?_ | refine o3 ?_ | refine o4 ?_ | refine o5 ?_ | refine o6 ?_ | refine o7 ?_ | refine o8 ?_ | refine o9 ?_ | refine oa ?_ | refine ob ?_ | refine oc ?_ | refine od ?_ | refine oe ?_ | refine og ?_ | refine oh ?_ | refine oi ?_) | (with_reducible refine cExitMiss ?_ ?_; rfl) | (with_reducible refine ok ?_; first | refine ACode.condT rfl ?_ | refine ACode.condF rfl ?_)
    refine AOps.step1 rfl rfl rfl (AStep.arith rfl rfl rfl (.inl ⟨rfl, rfl⟩) (inRange_i64 (by omega) (by omega))) ?_
    repeat first | (with_reducible refine oj ?_; refine AOps.auto tabOk rfl ?_) | (with_reducible first | refine o1 ?_ | refine o2 ?_ | refine o3 ?_ | refine o4 ?_ | refine o5 ?_ | refine o6 ?_ | refine o7 ?_ | refine o8 ?_ | refine o9 ?_ | refine oa ?_ | refine ob ?_ | refine oc ?_ | refine od ?_ | refine oe ?_ | refine og ?_ | refine oh ?_ | refine oi ?_) | (with_reducible refine cExitMiss ?_ ?_; rfl) | (with_reducible refine ok ?_; first | refine ACode.condT rfl ?_ | refine ACode.condF rfl ?_)
    refine AOps.step1 rfl rfl rfl (AStep.convInt rfl (by rw [Tryd.underlying3]; rfl) Tryd.underlying91 rfl (by constructor <;> simp [IntKind.min, IntKind.max, IntKind.signed, IntKind.bits] <;> omega)) ?_
    repeat first | (with_reducible refine oj ?_; refine AOps.auto tabOk rfl ?_) | (with_reducible first | refine o1 ?_ | refine o2 ?_ | refine o3 ?_ | refine o4 ?_ | refine o5 ?_ | refine o6 ?_ | refine o7 ?_ | refine o8 ?_ | refine o9 ?_ | refine oa ?_ | refine ob ?_ | refine oc ?_ | refine od ?_ | refine oe ?_ | refine og ?_ | refine oh ?_ | refine oi ?_) | (with_reducible refine cExitMiss ?_ ?_; rfl) | (with_reducible refine ok ?_; first | refine ACode.condT rfl ?_ | refine ACode.condF rfl ?_)
    refine AOps.step1 rfl rfl rfl (AStep.shr rfl rfl rfl (by omega) (by decide)) ?_
    have hmid : ((lo : Int) + (hi' : Int)) / 2 ^ (1 : Int).toNat = (((lo + hi') / 2 : Nat) : Int) := by simp
    rw [hmid]
    repeat first | (with_reducible refine oj ?_; refine AOps.auto tabOk rfl ?_) | (with_reducible first | refine o1 ?_ | refine o2 ?_ | refine o3 ?_ | refine o4 ?_ | refine o5 ?_ | refine o6 ?_ | refine o7 ?_ | refine o8 ?_ | refine o9 ?_ | refine oa ?_ | refine ob ?_ | refine oc ?_ | refine od ?_ | refine oe ?_ | refine og ?_ | refine oh ?_ | refine oi ?_) | (with_reducible refine cExitMiss ?_ ?_; rfl) | (with_reducible refine ok ?_; first | refine ACode.condT rfl ?_ | refine ACode.condF rfl ?_)
    refine AOps.step1 rfl rfl rfl (AStep.convInt rfl (by rw [Tryd.underlying91]; rfl) Tryd.underlying3 rfl (inRange_i64 (by omega) (by omega))) ?_
    repeat first | (with_reducible refine oj ?_; refine AOps.auto tabOk rfl ?_) | (with_reducible first | refine o1 ?_ | refine o2 ?_ | refine o3 ?_ | refine o4 ?_ | refine o5 ?_ | refine o6 ?_ | refine o7 ?_ | refine o8 ?_ | refine o9 ?_ | refine oa ?_ | refine ob ?_ | refine oc ?_ | refine od ?_ | refine oe ?_ | refine og ?_ | refine oh ?_ | refine oi ?_) | (with_reducible refine cExitMiss ?_ ?_; rfl) | (with_reducible refine ok ?_; first | refine ACode.condT rfl ?_ | refine ACode.condF rfl ?_)
    refine ACode.drawX tabOk 7 [(3, .one (.box (cVal a))), (6, .one (int (c3 a.name v.name)))] follows (by kernel_rfl) rfl rfl rfl rfl ?_ ?_
    · refine .step rfl (HStep.plain rfl (AStep.indexAddr tabOk rfl rfl rfl rfl rfl rfl (.inl rfl) rfl (by omega) (map_get ha))) ?_
      exact .call hΓ hca hou (by simp) rfl rfl rfl rfl rfl rfl .nil
    repeat first | (with_reducible refine oj ?_; refine AOps.auto tabOk rfl ?_) | (with_reducible first | refine o1 ?_ | refine o2 ?_ | refine o3 ?_ | refine o4 ?_ | refine o5 ?_ | refine o6 ?_ | refine o7 ?_ | refine o8 ?_ | refine o9 ?_ | refine oa ?_ | refine ob ?_ | refine oc ?_ | refine od ?_ | refine oe ?_ | refine og ?_ | refine oh ?_ | refine oi ?_) | (with_reducible refine cExitMiss ?_ ?_; rfl) | (with_reducible refine ok ?_; first | refine ACode.condT rfl ?_ | refine ACode.condF rfl ?_)
    refine ACode.cond rfl (fun hb3 => ?_) (fun hb3 => ?_)
    · repeat first | (with_reducible refine oj ?_; refine AOps.auto tabOk rfl ?_) | (with_reducible first | refine o1 ?_ | refine o2 ?_ | refine o3 ?_ | refine o4 ?_ | refine o5 ?_ | refine o6 ?_ | refine o7 ?_ | refine o8 ?_ | refine o9 ?_ | refine oa ?_ | refine ob ?_ | refine oc ?_ | refine od ?_ | refine oe ?_ | refine og ?_ | refine oh ?_ | refine oi ?_) | (with_reducible refine cExitMiss ?_ ?_; rfl) | (with_reducible refine ok ?_; first | refine ACode.condT rfl ?_ | refine ACode.condF rfl ?_)
      refine AOps.step1 rfl rfl rfl (AStep.arith rfl rfl rfl (.inl ⟨rfl, rfl⟩) (inRange_i64 (by omega) (by omega))) ?_
      repeat first | (with_reducible refine oj ?_; refine AOps.auto tabOk rfl ?_) | (with_reducible first | refine o1 ?_ | refine o2 ?_ | refine o3 ?_ | refine o4 ?_ | refine o5 ?_ | refine o6 ?_ | refine o7 ?_ | refine o8 ?_ | refine o9 ?_ | refine oa ?_ | refine ob ?_ | refine oc ?_ | refine od ?_ | refine oe ?_ | refine og ?_ | refine oh ?_ | refine oi ?_) | (with_reducible refine cExitMiss ?_ ?_; rfl) | (with_reducible refine ok ?_; first | refine ACode.condT rfl ?_ | refine ACode.condF rfl ?_)
      exact cInv ⟨hi' - ((lo + hi') / 2 + 1), ((lo + hi') / 2 + 1, hi'), id, by omega, ⟨by simp; omega, by simp; omega, rfl⟩, LessR.of rfl (by (repeat' first | exact FrSub.nil | refine FrSub.cons rfl (.ofEq rfl) ?_ | refine FrSub.consP rfl (.ofEq rfl) (by simp) ?_ | refine FrSub.cons rfl (.ofEq (by simp [FV.ren, AC.ren])) ?_)) (by simp) (by repeat' first | exact LoSub.nil | refine LoSub.cons rfl ?_ rfl (by first | (simp; done) | exact ids_oaO (by simp)) ?_ | rfl | (refine (AObj.ren_pure _ _ ?_).symm; simp; done) | exact (ren_oaO _ _ _ _ fun _ => ids_vec (by simp; done)).symm | (simp [AObj.ren, renL, AC.ren, cTy]; done) | (simp [AObj.ren, renL, AC.ren, cTy]; rfl)) rfl rfl hou⟩
    · repeat first | (with_reducible refine oj ?_; refine AOps.auto tabOk rfl ?_) | (with_reducible first | refine o1 ?_ | refine o2 ?_ | refine o3 ?_ | refine o4 ?_ | refine o5 ?_ | refine o6 ?_ | refine o7 ?_ | refine o8 ?_ | refine o9 ?_ | refine oa ?_ | refine ob ?_ | refine oc ?_ | refine od ?_ | refine oe ?_ | refine og ?_ | refine oh ?_ | refine oi ?_) | (with_reducible refine cExitMiss ?_ ?_; rfl) | (with_reducible refine ok ?_; first | refine ACode.condT rfl ?_ | refine ACode.condF rfl ?_)
      exact cInv ⟨(lo + hi') / 2 - lo, (lo, (lo + hi') / 2), id, by omega, ⟨by simp; omega, by simp; omega, rfl⟩, LessR.of rfl (by (repeat' first | exact FrSub.nil | refine FrSub.cons rfl (.ofEq rfl) ?_ | refine FrSub.consP rfl (.ofEq rfl) (by simp) ?_ | refine FrSub.cons rfl (.ofEq (by simp [FV.ren, AC.ren])) ?_)) (by simp) (by repeat' first | exact LoSub.nil | refine LoSub.cons rfl ?_ rfl (by first | (simp; done) | exact ids_oaO (by simp)) ?_ | rfl | (refine (AObj.ren_pure _ _ ?_).symm; simp; done) | exact (ren_oaO _ _ _ _ fun _ => ids_vec (by simp; done)).symm | (simp [AObj.ren, renL, AC.ren, cTy]; done) | (simp [AObj.ren, renL, AC.ren, cTy]; rfl)) rfl rfl hou⟩
  · repeat first | (with_reducible refine oj ?_; refine AOps.auto tabOk rfl ?_) | (with_reducible first | refine o1 ?_ | refine o2 ?_ | refine o3 ?_ | refine o4 ?_ | refine o5 ?_ | refine o6 ?_ | refine o7 ?_ | refine o8 ?_ | refine o9 ?_ | refine oa ?_ | refine ob ?_ | refine oc ?_ | refine od ?_ | refine oe ?_ | refine og ?_ | refine oh ?_ | refine oi ?_) | (with_reducible refine cExitMiss ?_ ?_; rfl) | (with_reducible refine ok ?_; first | refine ACode.condT rfl ?_ | refine ACode.condF rfl ?_)
    by_cases hlt : lo < xs.length
    · obtain ⟨a, ha⟩ := get_of_lt hlt
      refine ACode.drawX tabOk 15 [(3, .one (.lit (.bool true))), (8, .one (.box (cVal a))), (11, .one (int (c3 a.name v.name)))] follows (by kernel_rfl) rfl rfl rfl rfl ?_ ?_
      · refine .step rfl (HStep.litB tabOk rfl (by simpa using hlt)) ?_
        refine .step rfl (HStep.guarded rfl rfl rfl (AStep.indexAddr tabOk rfl rfl rfl rfl rfl rfl (.inl rfl) rfl (by omega) (map_get ha))) ?_
        exact .step rfl (HStep.guarded rfl rfl rfl (AStep.callP hΓ rfl rfl rfl rfl (by simp) hou (C3_ok a v))) .nil
      repeat first | (with_reducible refine oj ?_; refine AOps.auto tabOk rfl ?_) | (with_reducible first | refine o1 ?_ | refine o2 ?_ | refine o3 ?_ | refine o4 ?_ | refine o5 ?_ | refine o6 ?_ | refine o7 ?_ | refine o8 ?_ | refine o9 ?_ | refine oa ?_ | refine ob ?_ | refine oc ?_ | refine od ?_ | refine oe ?_ | refine og ?_ | refine oh ?_ | refine oi ?_) | (with_reducible refine cExitMiss ?_ ?_; rfl) | (with_reducible refine ok ?_; first | refine ACode.condT rfl ?_ | refine ACode.condF rfl ?_)
      exact AFn.fin' rfl (.refl _) (by simp) hou ⟨rfl, lo, _, by omega, rfl⟩
    · refine ACode.drawX tabOk 15 [(3, .one (.lit (.bool false)))] follows (by kernel_rfl) rfl rfl rfl rfl ?_ ?_
      · exact .step rfl (HStep.litB tabOk rfl (by simpa using hlt)) .nil
      repeat first | (with_reducible refine oj ?_; refine AOps.auto tabOk rfl ?_) | (with_reducible first | refine o1 ?_ | refine o2 ?_ | refine o3 ?_ | refine o4 ?_ | refine o5 ?_ | refine o6 ?_ | refine o7 ?_ | refine o8 ?_ | refine o9 ?_ | refine oa ?_ | refine ob ?_ | refine oc ?_ | refine od ?_ | refine oe ?_ | refine og ?_ | refine oh ?_ | refine oi ?_) | (with_reducible refine cExitMiss ?_ ?_; rfl) | (with_reducible refine ok ?_; first | refine ACode.condT rfl ?_ | refine ACode.condF rfl ?_)
      exact AFn.fin' rfl (.refl _) (by simp) hou ⟨rfl, lo, _, by omega, rfl⟩
end Go.Proofs.YtoojdmgbffnmiaaDoor
