/- The abstract layer, part Ad: maps whose values are found or zero, values that take no memory, tests for nil, truth values compared. No condition. -/
import Derived.Test.YtnonkoeknpmcjaaDoorB4
import Derived.Laws.Cover3
import Derived.Sort.Row
import Derived.Sort.Grow
import Derived.Laws.CopyRow
namespace Go.Abs
open Go.MapKept
set_option linter.unusedVariables false
set_option linter.unusedSimpArgs false
section
variable {E : Env} {o : Oper} {fr : Fr} {σ : St}
/-- A look into a map, with or without its 'ok'. -/
theorem AStep.lookupZ {t kt et : TypeId} {d : TypeDesc} {x i : Operand} {m : Id} {ck : Nat} {es : List (Nat × Value × FV)} {u zv : Value} {z v : FV} {cm : Bool} (ho : o.op = .lookup t x i cm) (hm : E.P.underlying t = some (.map kt et)) (hd : E.P.underlying kt = some d)
    (hx : aEval E.Γ fr x = some (.one (.mp m))) (hg : σ.get m = some (.map ck es)) (hu : aEval E.Γ fr i = some (.one (.lit u))) (hku : IsKey d u) (hks : KeysOk d es) (hzv : (E.P.info? et).map (·.zero) = some (some zv)) (hz : ∀ w C, RF w C z zv) (hv : (match mFind u es with | some v => v | none => z) = v) :
    AStep E o fr σ (if cm = true then .tup [v, .one (.lit (.bool (mFind u es).isSome))] else v) σ := by
  refine AStep.quiet fun F w C tmps hi hf => ?_
  have h1 := aEval_ok (a := ⟨tmps, []⟩) hi hf hx
  have h2 := aEval_ok (a := ⟨tmps, []⟩) hi hf hu
  simp only [RF, R] at h1 h2
  obtain ⟨hok, ents, he, _, hrm⟩ := hi.obj m _ hg
  have hzr : (zeroValue et).run E.P w = .ok zv w := zeroRun hzv
  have hzf : RF w C z zv := hz w C
  rcases findNow_ok hku 0 hrm hks with ⟨a1, a2, a3⟩ | ⟨j, e, v0, a1, a2, a3, a4, a5, a6⟩
  · rw [a1] at hv ⊢
    simp only at hv
    subst hv
    cases cm with
    | true =>
      refine ⟨.tuple #[zv, .bool false], ?_, [zv, .bool false], rfl, zv, [.bool false], rfl, hzf, .bool false, [], rfl, ⟨rfl, rfl⟩, rfl⟩
      unfold execOp
      simp only [ho]
      simp [Instr.lookup, run_underlying hm, h1.2, h2.1, MapKept.run_getObj_map he, run_checkKey hd hku, run_findKey hd a2, hzr, Result.andThen]
    | false =>
      refine ⟨zv, ?_, hzf⟩
      unfold execOp
      simp only [ho]
      simp [Instr.lookup, run_underlying hm, h1.2, h2.1, MapKept.run_getObj_map he, run_checkKey hd hku, run_findKey hd a2, hzr, Result.andThen]
  · rw [a2] at hv ⊢
    simp only at hv
    subst hv
    cases cm with
    | true =>
      refine ⟨.tuple #[e.val, .bool true], ?_, [e.val, .bool true], rfl, e.val, [.bool true], rfl, a3, .bool true, [], rfl, ⟨rfl, rfl⟩, rfl⟩
      unfold execOp
      simp only [ho]
      simp [Instr.lookup, run_underlying hm, h1.2, h2.1, MapKept.run_getObj_map he, run_checkKey hd hku, run_findKey hd a5, Result.andThen]
    | false =>
      refine ⟨e.val, ?_, a3⟩
      unfold execOp
      simp only [ho]
      simp [Instr.lookup, run_underlying hm, h1.2, h2.1, MapKept.run_getObj_map he, run_checkKey hd hku, run_findKey hd a5, Result.andThen]
/-- A value that takes no memory. -/
theorem AStep.buildU {t : TypeId} (ho : o.op = .build t #[]) (hu : E.P.underlying t = some (.struct #[])) (hz : (E.P.info? t).map (·.zero) = some (some (.agg #[]))) : AStep E o fr σ (.agg []) σ := by
  refine AStep.quiet fun F w C tmps hi hf => ⟨.agg #[], ?_, [], rfl, rfl⟩
  unfold execOp
  simp only [ho]
  simp [Instr.build, zeroRun hz, run_underlying hu]
  rfl
theorem AStep.allocU {t : TypeId} (ho : o.op = .alloc t) (hz : (E.P.info? t).map (·.zero) = some (some (.agg #[]))) : AStep E o fr σ (.one (.ptr (.l σ.n) 0)) (σ.push (.cells [])) := by
  intro F w C tmps hi hf next Q hk
  obtain ⟨C', he, hno, hnp, hin, hok, hblk⟩ := hi.newObj (cs := []) (xs := []) (by simp [RV]) t
  have hrun : (execOp (Act.eval ⟨tmps, []⟩) o).run E.P w = .ok (.value (.pointer (some ⟨w.heap.size, 0, none⟩))) (w.alloc (.cells #[] t)) := by
    unfold execOp
    simp only [ho]
    simp [Instr.alloc, zeroRun hz, newVar, newRow, Value.cells]
  unfold Oper.wp
  rw [hrun, Oper.upon_value]
  exact hk _ _ C' ⟨Stp.alloc hi.base _ _, he, Nat.le_of_eq hno.symm, hnp⟩ hin (by simp only [RF, R]; exact ⟨hok, by rw [hblk]⟩)
theorem AStep.storeU {t : TypeId} {x y : Operand} {j : Id} (ho : o.op = .store t x y) (hz : (E.P.info? t).map (·.size) = some 0) (hx : aEval E.Γ fr x = some (.one (.ptr j 0))) (hy : aEval E.Γ fr y = some (.agg [])) (hg : σ.get j = some (.cells [])) : AStep E o fr σ .bot σ := by
  intro F w C tmps hi hf next Q hk
  have h1 := aEval_ok (a := ⟨tmps, []⟩) hi hf hx
  have h2 := aEval_ok (a := ⟨tmps, []⟩) hi hf hy
  simp only [RF, R, RV] at h1 h2
  obtain ⟨xs, h2, rfl⟩ := h2
  have hrun : (execOp (Act.eval ⟨tmps, []⟩) o).run E.P w = .ok .skip w := by
    unfold execOp
    simp only [ho, h1.2, h2]
    cases hi : E.P.info? t with
    | none => rw [hi] at hz; cases hz
    | some i =>
      rw [hi] at hz
      simp only [Option.map_some, Option.some.injEq] at hz
      simp [Instr.storeAt, Instr.sureAddr, storeVar, sizeOf, typeInfo, hi, hz, Value.cells, storeCells]
  unfold Oper.wp
  rw [hrun, Oper.upon_skip]
  exact hk undef _ C (Goes.refl _ _ _ _) hi (by simp [RF])
theorem AStep.eqBool {t yt : TypeId} {x y : Operand} {a b : Bool} (ht : E.P.underlying t = some .bool) (ho : o.op = .binOp .eql t x y yt) (hx : aEval E.Γ fr x = some (.one (.lit (.bool a)))) (hy : aEval E.Γ fr y = some (.one (.lit (.bool b)))) : AStep E o fr σ (.one (.lit (.bool (a == b)))) σ := by
  refine AStep.quiet fun F w C tmps hi hf => ⟨.bool (a == b), ?_, rfl, rfl⟩
  have h1 := aEval_ok (a := ⟨tmps, []⟩) hi hf hx
  have h2 := aEval_ok (a := ⟨tmps, []⟩) hi hf hy
  simp only [RF, R] at h1 h2
  unfold execOp
  simp only [ho, h1.1, h2.1, eqGuard_at_bool, Sem.run_bind, Sem.run_pure, Result.andThen_ok]
  simp [binOp, run_equal_bool _ _ _ _ ht]
theorem AStep.neBool {t yt : TypeId} {x y : Operand} {a b : Bool} (ht : E.P.underlying t = some .bool) (ho : o.op = .binOp .neq t x y yt) (hx : aEval E.Γ fr x = some (.one (.lit (.bool a)))) (hy : aEval E.Γ fr y = some (.one (.lit (.bool b)))) : AStep E o fr σ (.one (.lit (.bool (!(a == b))))) σ := by
  refine AStep.quiet fun F w C tmps hi hf => ⟨.bool (!(a == b)), ?_, rfl, rfl⟩
  have h1 := aEval_ok (a := ⟨tmps, []⟩) hi hf hx
  have h2 := aEval_ok (a := ⟨tmps, []⟩) hi hf hy
  simp only [RF, R] at h1 h2
  unfold execOp
  simp only [ho, h1.1, h2.1, eqGuard_at_bool, Sem.run_bind, Sem.run_pure, Result.andThen_ok]
  simp [binOp, run_equal_bool _ _ _ _ ht]
theorem AStep.min2 {t ty : TypeId} {x y : Operand} {k : IntKind} {a b : Int} {tys : Array TypeId} (ho : o.op = .call { callee := .builtin .min, args := #[x, y], argTypes := tys }) (hx : aEval E.Γ fr x = some (.one (.lit (.int k a)))) (hy : aEval E.Γ fr y = some (.one (.lit (.int k b)))) :
    AStep E o fr σ (.one (.lit (.int k (if b < a then b else a)))) σ := by
  refine AStep.quiet fun F w C tmps hi hf => ⟨.int k (if b < a then b else a), ?_, rfl, rfl⟩
  have h1 := aEval_ok (a := ⟨tmps, []⟩) hi hf hx
  have h2 := aEval_ok (a := ⟨tmps, []⟩) hi hf hy
  simp only [RF, R] at h1 h2
  unfold execOp
  simp [ho, h1.1, h2.1, resolve, invoke, builtin, Builtin.min_, Builtin.min2]
end
/-- A condition that is a slot: each way knows it. -/
theorem ACode.condS {E : Env} {x y : Code} {K : Cont} {fr : Fr} {σ : St} {d : Nat} {b : Bool} (hb : Fr.get d fr = some (.one (.lit (.bool b)))) (ht : b = true → ACode E x K ((d, .one (.lit (.bool true))) :: fr) σ) (hf : b = false → ACode E y K ((d, .one (.lit (.bool false))) :: fr) σ) : ACode E (.cond (.tmp d) x y) K fr σ := by
  refine ACode.cond (c := .tmp d) (b := b) hb (fun h => ?_) (fun h => ?_)
  · subst h
    intro F w0 C0 w C tmps hg hi hfr
    exact ht rfl F w0 C0 w C tmps hg hi (hfr.refine hb (fun _ h => h))
  · subst h
    intro F w0 C0 w C tmps hg hi hfr
    exact hf rfl F w0 C0 w C tmps hg hi (hfr.refine hb (fun _ h => h))
/-- A cell of a box. -/
theorem AStep.loadBox {E : Env} {o : Oper} {fr : Fr} {σ : St} {t : TypeId} {ti : TI} {x : Operand} {cs : List AC} {c : AC} (hT : TabOk E.P E.T) (ho : o.op = .load t x) (ht : Tab.get t E.T = some ti) (ha : ti.agg = false) (hs : Nat.beq ti.size 1 = true) (hx : aEval E.Γ fr x = some (.one (.box cs)))
    (hc : cs[0]? = some c) : AStep E o fr σ (.one c) σ := by
  refine AStep.ofOp hT ?_
  have hs' : ti.size = 1 := Nat.eq_of_beq_eq_true hs
  obtain ⟨d, ds, rfl⟩ : ∃ d ds, cs = d :: ds := by cases cs with | nil => simp at hc | cons d ds => exact ⟨d, ds, rfl⟩
  simp only [List.getElem?_cons_zero, Option.some.injEq] at hc
  subst hc
  simp only [ho, aOp, ht, ha, hs', hx, aLoad, forceK_eq, List.length_cons, List.take_succ_cons, List.take_zero, mkFV]
  rfl
/-- A slice held against nil: either answer. -/
theorem AOps.nilTest {E : Env} {ops : Array Oper} {rest : List Oper} {K : Cont} {o : Oper} {fr : Fr} {σ : St} {dd : Nat} {t e yt : TypeId} {x y : Operand} {s : Nat} {es : List (List AC)} (hgd : o.guard = none) (hdst : o.dst = some dd) (hdd : Nat.ble (dd + 1) E.N = true) (ho : o.op = .binOp .eql t x y yt)
    (ht : E.P.underlying t = some (.slice e)) (hx : aEval E.Γ fr x = some (.one (.sl s es))) (hy : aEval E.Γ fr y = some (.one (.lit (.slice none 0 0)))) (h : ∀ b, (b = true → es = []) → AOps E ops rest K ((dd, .one (.lit (.bool b))) :: fr) σ) : AOps E ops (o :: rest) K fr σ := by
  intro F w0 C0 w C tmps hg hi hf
  refine wpList_plain hgd fun N' hN => ?_
  have h1 := aEval_ok (a := ⟨tmps, []⟩) hi hf hx
  have h2 := aEval_ok (a := ⟨tmps, []⟩) hi hf hy
  simp only [RF, R] at h1 h2
  obtain ⟨a, cap, hv, hc, hor⟩ := h1
  have hex : (execOp (Act.eval ⟨tmps, []⟩) o).run E.P w = .ok (.value (.bool a.isNone)) w := by
    unfold execOp
    simp only [ho, hv, h2.1, eqGuard_at_slice, Sem.run_bind, Sem.run_pure, Result.andThen_ok]
    simp [binOp, run_equal_slice_nil _ _ _ _ _ _ ht]
  unfold Oper.wp
  rw [hex, Oper.upon_value]
  refine hN _ _ ?_
  rw [put_eta, hdst]
  refine h a.isNone (fun hb => ?_) F w0 C0 w C _ hg hi (putFr_ok (dst := some dd) hf hdd (by simp only [RF, R]; exact ⟨trivial, rfl⟩))
  rcases hor with rfl | ⟨ad, rfl, _⟩
  · rfl
  · cases hb
end Go.Abs
/- The abstract layer, part Ae: a drawn region whose head turns the store more than once: what holds between its operations is given. No condition of its own. -/
namespace Go.Abs
set_option linter.unusedVariables false
set_option linter.unusedSimpArgs false
/-- What an operation may read. -/
def depFrJ (l : List Oper) (vals : Nat → Option FV) (o : Oper) : Fr :=
  o.after.toList.filterMap fun e => bif Region.binds .any e then (match (l[e.on]?).bind (·.dst), vals e.on with | some d, some v => some (d, v) | _, _ => none) else none
def headFrJ (vals : Nat → Option FV) : Nat → List Oper → Fr
  | k, o :: os => match o.dst, vals k with
    | some d, some v => (d, v) :: headFrJ vals (k + 1) os
    | _, _ => headFrJ vals (k + 1) os
  | _, [] => []
def updV (vals : Nat → Option FV) (i : Nat) (v : FV) : Nat → Option FV := fun j => if i = j then some v else vals j
theorem headFrJ_mem {vals : Nat → Option FV} : ∀ {os : List Oper} {k d : Nat} {v : FV}, (d, v) ∈ headFrJ vals k os → ∃ (i : Nat) (o : Oper), os[i]? = some o ∧ o.dst = some d ∧ vals (k + i) = some v
  | [], k, d, v, h => by simp [headFrJ] at h
  | o :: os, k, d, v, h => by
    simp only [headFrJ] at h
    have rec' : (d, v) ∈ headFrJ vals (k + 1) os → ∃ (i : Nat) (o' : Oper), (o :: os)[i]? = some o' ∧ o'.dst = some d ∧ vals (k + i) = some v := fun h => by
      obtain ⟨i, o', h1, h2, h3⟩ := headFrJ_mem h
      exact ⟨i + 1, o', by simpa using h1, h2, by rw [show k + (i + 1) = k + 1 + i by omega]; exact h3⟩
    split at h
    · rename_i d' w hd hw
      rcases List.mem_cons.1 h with h | h
      · cases h; exact ⟨0, o, rfl, hd, hw⟩
      · exact rec' h
    · exact rec' h
section
variable {E : Env} {l : List Oper} {frb : Fr} {n : Nat} {K : Cont} {J : Array Bool → St → (Nat → Option FV) → Prop}
/-- What holds while the heads run. -/
structure MidJ (E : Env) (l : List Oper) (n : Nat) (frb : Fr) (J : Array Bool → St → (Nat → Option FV) → Prop) (F : Nat → Prop) (w0 : World) (C0 : Ctx) (listed : Array Bool) (a : Act) (w : World) : Prop where
  defers : a.defers = []
  ex : ∃ C σ vals, J listed σ vals ∧ Goes F isO w0 C0 w C ∧ Inv E.Γ F w C σ ∧ FrOk w C E.N frb a.tmps ∧
    ∀ (i : Nat) (o : Oper) (d : Nat) (v : FV), i < n → l[i]? = some o → o.dst = some d → vals i = some v → ∃ u, a.tmps[d]? = some u ∧ RF w C v u
theorem mid_anyJ (hB : drawB l n = true) (hfb : (dsts (l.take n)).all (fun d => (Fr.get d frb).isNone) = true)
    (hstep : ∀ (listed : Array Bool) (σ : St) (vals : Nat → Option FV) (i : Nat) (o : Oper), i < n → l[i]? = some o → listed.getD i false = false → listed.size = l.length → (∀ e ∈ o.after.toList, Region.binds .any e = true → listed.getD e.on false = true) → J listed σ vals →
      o.dst.isSome = true ∧ dstOk E.N o.dst = true ∧ ∃ σ' v, HStep E l.toArray o (depFrJ l vals o ++ frb) σ σ' v ∧ J (listed.setIfInBounds i true) σ' (updV vals i v))
    (htail : ∀ σ vals, J (listedTo l.length n) σ vals → AOps E l.toArray (l.drop n) K (headFrJ vals 0 (l.take n) ++ frb) σ) {F : Nat → Prop} {w0 : World} {C0 : Ctx} :
    ∀ (c : Nat) (listed : Array Bool) (a : Act) (w : World), ((List.range n).filter fun j => !listed.getD j false).length = c → HeadInv .any l.toArray n listed → MidJ E l n frb J F w0 C0 listed a w →
      wpAny E.P .any l.toArray (Post E F w0 C0 K) (c + (l.length - n)) listed a w := by
  simp only [drawB, Bool.and_eq_true, decide_eq_true_eq] at hB
  obtain ⟨⟨⟨⟨⟨hn, hs⟩, hc⟩, hsq⟩, hdi⟩, haf⟩ := hB
  have hsz : l.toArray.size = l.length := by simp
  intro c
  induction c with
  | zero =>
    intro listed a w hcnt hinv hmid
    have hall : ∀ j, j < n → listed.getD j false = true := by
      intro j hj
      have : (List.range n).filter (fun j => !listed.getD j false) = [] := List.eq_nil_of_length_eq_zero hcnt
      have h2 := List.filter_eq_nil_iff.1 this j (List.mem_range.2 hj)
      simpa using h2
    have hl : listed = listedTo l.length n := by
      apply Array.ext
      · simp [listedTo, hinv.size]
      · intro j h1 h2
        have hj : j < l.length := by simpa [listedTo] using h2
        have h3 : listed.getD j false = listed[j] := by simp [h1]
        simp only [listedTo, Array.getElem_map, Array.getElem_range]
        by_cases hjn : j < n
        · rw [← h3, hall j hjn]; simp [hjn]
        · have := hinv.tail j (by omega) (by rw [hsz]; exact hj)
          rw [getD_tf h1] at this
          rw [← h3, this]; simp [hjn]
    have hdl : (l.drop n).length = l.length - n := by simp
    rw [Nat.zero_add, ← hdl]
    refine wpAny_of_seq (md := .any) (l.drop n) n listed a w (fun j => by simp [List.getElem?_drop]) (by rw [hl, hdl]; exact hsq) ?_
    obtain ⟨hd, C, σ, vals, hJ, hg, hi, hf, hv⟩ := hmid
    have ha : a = ⟨a.tmps, []⟩ := by cases a; simp_all
    rw [ha]
    rw [hl] at hJ
    refine htail σ vals hJ F w0 C0 w C a.tmps hg hi ⟨hf.1, fun k x hk => ?_⟩
    rcases Fr.get_append hk with hk | ⟨_, hk⟩
    · obtain ⟨i, o, h1, h2, h3⟩ := headFrJ_mem (Fr.get_mem hk)
      rw [Nat.zero_add] at h3
      have hin : i < n := by
        have := (List.getElem?_eq_some_iff.1 h1).1
        simp at this; omega
      rw [List.getElem?_take_of_lt hin] at h1
      exact hv i o k x hin h1 h2 h3
    · exact hf.2 k x hk
  | succ c ih =>
    intro listed a w hcnt hinv hmid
    -- some head is not listed
    have hex : ∃ i, i < n ∧ listed.getD i false = false ∧ ∀ j, j < i → listed.getD j false = true := by
      have hne : ∃ i, i < n ∧ listed.getD i false = false := by
        cases hL : (List.range n).filter (fun j => !listed.getD j false) with
        | nil => rw [hL] at hcnt; simp at hcnt
        | cons i L =>
          have : i ∈ (List.range n).filter (fun j => !listed.getD j false) := by rw [hL]; simp
          obtain ⟨h1, h2⟩ := List.mem_filter.1 this
          exact ⟨i, List.mem_range.1 h1, by simpa using h2⟩
      obtain ⟨i, hi⟩ := hne
      induction i using Nat.strongRecOn with
      | _ i ih2 =>
        by_cases h : ∃ j, j < i ∧ listed.getD j false = false
        · obtain ⟨j, hj, hj2⟩ := h
          exact ih2 j hj ⟨by omega, hj2⟩
        · exact ⟨i, hi.1, hi.2, fun j hj => (Bool.not_eq_false _).mp (fun hb => h ⟨j, hj, hb⟩)⟩
    obtain ⟨i0, hi0n, hi0u, hi0m⟩ := hex
    have hready : i0 ∈ Region.ready .any l.toArray listed := by
      rw [mem_ready]
      have hlt : i0 < l.length := by omega
      refine ⟨by rw [getD_tf (by rw [hinv.size, hsz]; exact hlt)]; exact hi0u, l[i0], by simp [hlt], fun e he hb => ?_⟩
      have h1 := List.all_eq_true.1 haf (l[i0], i0) (by
        rw [List.mem_zipIdx_iff_getElem?]
        rw [List.getElem?_take_of_lt hi0n]
        simp [hlt])
      have h2 := Array.all_eq_true_iff_forall_mem.1 h1 e he
      simp only [hb, Bool.not_true, Bool.false_or, decide_eq_true_eq] at h2
      exact hi0m _ h2
    rw [show c + 1 + (l.length - n) = (c + (l.length - n)) + 1 by omega]
    refine ⟨fun h => absurd hready (by rw [h]; simp), fun i hi => ?_⟩
    have hi0t : listed.getD i0 true = false := (mem_ready.1 hready).1
    have hin : i < n := by
      rcases Nat.lt_or_ge i n with h | h
      · exact h
      · exact absurd hi (tail_waits hs hc (by rw [hsz]; exact hn) hinv _ i0 rfl hi0n hi0t i h)
    obtain ⟨hun, o, ho, hall⟩ := mem_ready.1 hi
    have hlo : l[i]? = some o := by simpa using ho
    obtain ⟨hd, C, σ, vals, hJ, hg, hinvw, hf, hvals⟩ := hmid
    have ha : a = ⟨a.tmps, []⟩ := by cases a; simp_all
    rw [ha]
    have huni : listed.getD i false = false := getD_both hun
    have hil : i < listed.size := by rw [hinv.size, hsz]; omega
    have hlast : ∀ e ∈ o.after.toList, Region.binds .any e = true → e.on < n := fun e he hb => by
      have h1 := List.all_eq_true.1 haf (o, i) (by
        rw [List.mem_zipIdx_iff_getElem?]
        rw [List.getElem?_take_of_lt hin]
        simpa using hlo)
      have h2 := Array.all_eq_true_iff_forall_mem.1 h1 e (by simpa using he)
      simp only [hb, Bool.not_true, Bool.false_or, decide_eq_true_eq] at h2
      omega
    obtain ⟨hds, hdo, σ', v, hst, hJ'⟩ := hstep listed σ vals i o hin hlo huni (by rw [hinv.size, hsz]) (fun e he hb => hall e (by simpa using he) hb) hJ
    have hfr : FrOk w C E.N (depFrJ l vals o ++ frb) a.tmps := by
      refine ⟨hf.1, fun k x hk => ?_⟩
      rcases Fr.get_append hk with hk | ⟨_, hk⟩
      · have hm := Fr.get_mem hk
        obtain ⟨e, he, he2⟩ := List.mem_filterMap.1 hm
        cases hb : Region.binds .any e with
        | false => rw [hb] at he2; cases he2
        | true =>
          rw [hb] at he2; simp only [cond_true] at he2
          cases h1 : (l[e.on]?).bind (·.dst) with
          | none => rw [h1] at he2; cases he2
          | some d =>
            cases h2 : vals e.on with
            | none => rw [h1, h2] at he2; cases he2
            | some v' =>
              rw [h1, h2] at he2; cases he2
              cases h3 : l[e.on]? with
              | none => rw [h3] at h1; cases h1
              | some oe =>
                rw [h3] at h1
                exact hvals e.on oe k x (hlast e he hb) h3 h1 h2
      · exact hf.2 k x hk
    obtain ⟨d, hdd⟩ := Option.isSome_iff_exists.1 hds
    refine hstep_run hst hinvw hfr ho fun u w' C' hgo hi' hr => ?_
    refine ih _ _ _ ?_ (hinv.set hi hin) ⟨put_defers .., C', σ', _, hJ', hg.trans hgo.toO, hi', ?_, fun j oj dj vj hj hoj hdj hvj => ?_⟩
    · have h2 : ((List.range n).filter fun j => !(listed.setIfInBounds i true).getD j false).length + 1 = ((List.range n).filter fun j => !listed.getD j false).length := count_eq hin huni hil
      omega
    · refine ⟨by rw [hdd]; simp [Act.put, hf.1], fun k x hk => ?_⟩
      obtain ⟨u', hu', hr'⟩ := hf.2 k x hk
      have hne : d ≠ k := by
        rintro rfl
        have h1 := List.all_eq_true.1 hfb d (List.mem_filterMap.2 ⟨o, List.mem_of_getElem? (i := i) (by rw [List.getElem?_take_of_lt hin]; exact hlo), hdd⟩)
        rw [hk] at h1; cases h1
      refine ⟨u', ?_, hr'.ext hgo.chg⟩
      rw [hdd]
      simp only [Act.put]
      rw [Array.getElem?_setIfInBounds_ne hne]; exact hu'
    · by_cases e : i = j
      · subst e
        rw [hlo] at hoj; cases hoj
        rw [hdd] at hdj; cases hdj
        rw [updV, if_pos rfl] at hvj
        cases hvj
        have hdN : d < a.tmps.size := by
          rw [hf.1]
          rw [hdd] at hdo
          exact Nat.le_of_ble_eq_true (show Nat.ble (d + 1) E.N = true from hdo)
        exact ⟨u, by rw [hdd]; simp [Act.put, hdN], hr⟩
      · simp only [updV, if_neg e] at hvj
        obtain ⟨u', hu', hr'⟩ := hvals j oj dj vj hj hoj hdj hvj
        have hne : d ≠ dj := by
          rintro rfl
          exact e (distinct_dsts hdi (by rw [List.getElem?_take_of_lt hin]; exact hlo) (by rw [List.getElem?_take_of_lt hj]; exact hoj) hdd hdj)
        refine ⟨u', ?_, hr'.ext hgo.chg⟩
        rw [hdd]
        simp only [Act.put]
        rw [Array.getElem?_setIfInBounds_ne hne]; exact hu'
/-- A REGION THAT DRAWS ITS ORDER, with what holds between the operations of its head. -/
theorem ACode.drawJ {id : Nat} {fr : Fr} {σ0 : St} (n : Nat) (J : Array Bool → St → (Nat → Option FV) → Prop) (hm : E.P.follows .mixedOrders = true) (hB : drawB l n = true) (hfb : Fr.woO (dsts (l.take n)) fr = some frb) (h0 : J (Array.replicate l.length false) σ0 (fun _ => none))
    (hstep : ∀ (listed : Array Bool) (σ : St) (vals : Nat → Option FV) (i : Nat) (o : Oper), i < n → l[i]? = some o → listed.getD i false = false → listed.size = l.length → (∀ e ∈ o.after.toList, Region.binds .any e = true → listed.getD e.on false = true) → J listed σ vals →
      o.dst.isSome = true ∧ dstOk E.N o.dst = true ∧ ∃ σ' v, HStep E l.toArray o (depFrJ l vals o ++ frb) σ σ' v ∧ J (listed.setIfInBounds i true) σ' (updV vals i v))
    (htail : ∀ σ vals, J (listedTo l.length n) σ vals → AOps E l.toArray (l.drop n) K (headFrJ vals 0 (l.take n) ++ frb) σ) : ACode E (.region id l.toArray true) K fr σ0 := by
  have h3 := Fr.woO_eq hfb
  intro F w0 C0 w C tmps hg hi hf
  have hn : n < l.length := by
    simp only [drawB, Bool.and_eq_true, decide_eq_true_eq] at hB
    exact hB.1.1.1.1.1
  refine wp_region_any hm ?_
  have h := mid_anyJ (F := F) (w0 := w0) (C0 := C0) (J := J) hB (by rw [← h3]; exact Fr.wo_none _ _) hstep htail n (Array.replicate l.toArray.size false) ⟨tmps, []⟩ w.drew (by
      have : ∀ j, (!(Array.replicate l.toArray.size false).getD j false) = true := fun j => by rw [getD_replicate_false]; rfl
      simp only [this]; rw [List.filter_eq_self.2 (fun _ _ => rfl), List.length_range])
    ⟨by simp, fun j oj _ hl => (by rw [getD_replicate_false] at hl; cases hl), fun t _ ht => getD_in (by simpa using ht) (getD_replicate_false _ _)⟩
    ⟨rfl, C, σ0, fun _ => none, by simpa using h0, hg.trans (Goes.drew hi).toO, hi.drew.2, ⟨hf.1, fun k x hk => by
        obtain ⟨u, hu, hr⟩ := hf.2 k x (by rw [← h3] at hk; exact (Fr.wo_get hk).1)
        exact ⟨u, hu, hr.ext hi.drew.1⟩⟩, fun i o d v _ _ _ hv => by cases hv⟩
  rw [show n + (l.length - n) = l.toArray.size by simp; omega] at h
  exact h
/-- The values: of the operations that are told apart by 'f', of the others by 'vs'. -/
def mixV (S : List Nat) (vs : List FV) (f : Nat → Option FV) : Nat → Option FV := fun j => bif S.any (fun k => Nat.beq k j) then f j else vs[j]?
/-- Some operations of the head (S) turn the store or wait for one that does; M: in which states they leave it, and with which values. The others only read, and wait for none of them. -/
theorem ACode.drawS {id : Nat} {fr : Fr} {σ0 : St} {hd tl : List Oper} (n : Nat) (S : List Nat) (vs : List FV) (M : (Nat → Option FV) → St → Prop) (hm : E.P.follows .mixedOrders = true) (hB : drawB l n = true) (hsp : splitO n l = some (hd, tl)) (hfb : Fr.woO (dsts hd) fr = some frb) (h0 : M (fun _ => none) σ0)
    (hM : ∀ f σ, M f σ → ∀ i, S.any (fun k => Nat.beq k i) = false → f i = none)
    (hq : ∀ i o, i < n → S.any (fun k => Nat.beq k i) = false → l[i]? = some o → ∃ v, vs[i]? = some v ∧ o.dst.isSome = true ∧ dstOk E.N o.dst = true ∧ (o.after.toList.all fun e => !Region.binds .any e || !(S.any fun k => Nat.beq k e.on)) = true ∧ ∀ f σ, M f σ → HStep E l.toArray o (depFr l vs o ++ frb) σ σ v)
    (hs : ∀ f σ i o, M f σ → S.any (fun k => Nat.beq k i) = true → l[i]? = some o → f i = none → (∀ e ∈ o.after.toList, Region.binds .any e = true → S.any (fun k => Nat.beq k e.on) = true → (f e.on).isSome = true) →
      o.dst.isSome = true ∧ dstOk E.N o.dst = true ∧ ∃ σ' v, HStep E l.toArray o (depFrJ l (mixV S vs f) o ++ frb) σ σ' v ∧ M (updV f i v) σ')
    (htail : ∀ f σ, M f σ → (∀ i ∈ S, i < n → (f i).isSome = true) → AOps E l.toArray tl K (headFrJ (mixV S vs f) 0 hd ++ frb) σ) : ACode E (.region id l.toArray true) K fr σ0 := by
  obtain ⟨hsp1, hsp2⟩ := splitO_eq hsp
  subst hsp1; subst hsp2
  have depEq : ∀ (o : Oper) (v1 v2 : Nat → Option FV), (∀ e ∈ o.after.toList, Region.binds .any e = true → v1 e.on = v2 e.on) → depFrJ l v1 o = depFrJ l v2 o := fun o v1 v2 h => by
    unfold depFrJ
    refine filterMap_same fun e he => ?_
    cases hb : Region.binds .any e with
    | false => rfl
    | true => simp only [cond_true]; rw [h e he hb]
  refine ACode.drawJ n (fun listed σ vals => listed.size = l.length ∧ ∃ f, M f σ ∧ (∀ i, i < n → listed.getD i false = true → vals i = mixV S vs f i) ∧ (∀ i, S.any (fun k => Nat.beq k i) = true → listed.getD i false = (f i).isSome)) hm hB hfb
    ⟨by simp, _, h0, fun i _ h => absurd h (by rw [getD_replicate_false]; simp), fun i _ => by rw [getD_replicate_false]; rfl⟩ ?_ ?_
  · intro listed σ vals i o hi hlo hun hsz hall ⟨_, f, hMf, hv, hf⟩
    have hn : n < l.length := by
      have := hB
      simp only [drawB, Bool.and_eq_true, decide_eq_true_eq] at this
      exact this.1.1.1.1.1
    have hset : ∀ (v : FV) j, (listed.setIfInBounds i true).getD j false = if i = j then true else listed.getD j false := fun _ j => by
      by_cases e : i = j
      · subst e; simp [show i < listed.size by omega]
      · rw [getD_set_ne false e, if_neg e]
    have hlast : ∀ e ∈ o.after.toList, Region.binds .any e = true → e.on < n := fun e he hb => by
      have hB2 := hB
      simp only [drawB, Bool.and_eq_true, decide_eq_true_eq] at hB2
      have h1 := List.all_eq_true.1 hB2.2 (o, i) (by
        rw [List.mem_zipIdx_iff_getElem?]
        rw [List.getElem?_take_of_lt hi]
        simpa using hlo)
      have h2 := Array.all_eq_true_iff_forall_mem.1 h1 e (by simpa using he)
      simp only [hb, Bool.not_true, Bool.false_or, decide_eq_true_eq] at h2
      omega
    have hdj : depFrJ l vals o = depFrJ l (mixV S vs f) o := depEq o _ _ fun e he hb => hv e.on (hlast e he hb) (hall e he hb)
    rw [hdj]
    cases hS : S.any (fun k => Nat.beq k i) with
    | true =>
      have hfi : f i = none := by
        have := hf i hS
        rw [hun] at this
        cases h : f i with
        | none => rfl
        | some v => rw [h] at this; cases this
      obtain ⟨k1, k2, σ', v, k3, k4⟩ := hs f σ i o hMf hS hlo hfi fun e he hb hSe => by rw [← hf _ hSe]; exact hall e he hb
      refine ⟨k1, k2, σ', v, k3, by simp [hsz], updV f i v, k4, fun j hj hlj => ?_, fun j hj => ?_⟩
      · by_cases e : i = j
        · subst e
          simp [mixV, hS, updV]
        · rw [hset v, if_neg e] at hlj
          rw [updV, if_neg e, hv j hj hlj]
          simp only [mixV, updV, if_neg e]
      · rw [hset v]
        by_cases e : i = j
        · subst e; simp [updV]
        · simp only [if_neg e, updV]; exact hf j hj
    | false =>
      obtain ⟨v, q1, q2, q3, q4, q5⟩ := hq i o hi hS hlo
      have hdd : depFrJ l (mixV S vs f) o = depFr l vs o := by
        unfold depFrJ depFr
        refine filterMap_same fun e he => ?_
        cases hb : Region.binds .any e with
        | false => rfl
        | true =>
          have h1 := List.all_eq_true.1 q4 e he
          rw [hb] at h1
          simp only [Bool.not_true, Bool.false_or, Bool.not_eq_true'] at h1
          simp only [cond_true, mixV, h1, cond_false]
          rfl
      rw [hdd]
      refine ⟨q2, q3, σ, v, q5 f σ hMf, by simp [hsz], f, hMf, fun j hj hlj => ?_, fun j hj => ?_⟩
      · by_cases e : i = j
        · subst e
          rw [updV, if_pos rfl]; simp only [mixV, hS, cond_false]; exact q1.symm
        · rw [hset v, if_neg e] at hlj
          rw [updV, if_neg e, hv j hj hlj]
      · rw [hset v]
        by_cases e : i = j
        · subst e; rw [hS] at hj; cases hj
        · simp only [if_neg e]; exact hf j hj
  · intro σ vals ⟨_, f, hMf, hv, hf⟩
    have hn : n < l.length := by
      have := hB
      simp only [drawB, Bool.and_eq_true, decide_eq_true_eq] at this
      exact this.1.1.1.1.1
    have hl : ∀ j, j < n → (listedTo l.length n).getD j false = true := fun j hj => by
      have : j < (listedTo l.length n).size := by simp [listedTo]; omega
      simp [listedTo, show j < l.length by omega, hj]
    have heq : headFrJ vals 0 (l.take n) = headFrJ (mixV S vs f) 0 (l.take n) := by
      have : ∀ (os : List Oper) (k : Nat), k + os.length ≤ n → headFrJ vals k os = headFrJ (mixV S vs f) k os := by
        intro os
        induction os with
        | nil => intro k _; rfl
        | cons o os ih =>
          intro k hk
          simp only [List.length_cons] at hk
          simp only [headFrJ]
          rw [hv k (by omega) (hl k (by omega)), ih (k + 1) (by omega)]
      exact this _ 0 (by simp; omega)
    rw [heq]
    exact htail f σ hMf fun i hi hin => by
      rw [← hf i (List.any_eq_true.2 ⟨i, hi, beq_self i⟩)]
      exact hl i hin
end
end Go.Abs
/- The abstract layer, part Af: steps whose outcome is not one alone, in a drawn region; a local object that takes the name of an outer one. No condition of its own. -/
namespace Go.Abs
set_option linter.unusedVariables false
set_option linter.unusedSimpArgs false
/-- A step that leaves one of some states, with one of some values. -/
def AStepR (E : Env) (o : Oper) (fr : Fr) (σ : St) (P : FV → St → Prop) : Prop :=
  ∀ (F : Nat → Prop) (w : World) (C : Ctx) (tmps : Array Value), Inv E.Γ F w C σ → FrOk w C E.N fr tmps →
    ∀ (next : Act → World → Prop) (Q : Exit → Act → World → Prop),
      (∀ (u : Value) (w' : World) (C' : Ctx) (v : FV) (σ' : St), P v σ' → Goes F (fun _ => True) w C w' C' → Inv E.Γ F w' C' σ' → RF w' C' v u → next (Act.put ⟨tmps, []⟩ o.dst u) w') → o.wp E.P ⟨tmps, []⟩ w next Q
def HStepR (E : Env) (ops : Array Oper) (o : Oper) (fr : Fr) (σ : St) (P : FV → St → Prop) : Prop :=
  (∃ v σ', HStep E ops o fr σ σ' v ∧ P v σ') ∨ (o.guard = none ∧ AStepR E o fr σ P)
theorem hstepR_run {E : Env} {ops : Array Oper} {o : Oper} {fr : Fr} {σ : St} {P : FV → St → Prop} (h : HStepR E ops o fr σ P) {F : Nat → Prop} {w : World} {C : Ctx} {tmps : Array Value} (hi : Inv E.Γ F w C σ) (hf : FrOk w C E.N fr tmps) {i : Nat} (ho : ops[i]? = some o)
    {next : Act → World → Prop} {Q : Exit → Act → World → Prop} (hk : ∀ (u : Value) (w' : World) (C' : Ctx) (v : FV) (σ' : St), P v σ' → Goes F (fun _ => True) w C w' C' → Inv E.Γ F w' C' σ' → RF w' C' v u → next (Act.put ⟨tmps, []⟩ o.dst u) w') : wpOp E.P ops Q i next ⟨tmps, []⟩ w := by
  rcases h with ⟨v, σ', h1, h2⟩ | ⟨hg, h⟩
  · exact hstep_run h1 hi hf ho fun u w' C' a b c => hk u w' C' v σ' h2 a b c
  · unfold wpOp
    simp only [ho]
    rw [if_pos (by simp [Region.wanted, hg])]
    exact .inl (h F w C tmps hi hf next Q hk)
theorem AStepR.call {E : Env} {o : Oper} {fr : Fr} {σ : St} {f : Operand} {args : Array Operand} {tys : Array TypeId} {g : Nat} {first caps : List AC} {vs us : List FV} {Q : FV → Outer → Prop} {P : FV → St → Prop}
    (hΓ : ∀ g cs, (g, cs) ∈ E.Γ → idsL isO cs) (ho : o.op = .call { callee := .value f, args := args, argTypes := tys })
    (hf : aEval E.Γ fr f = some (.one (.fn (.func g) first caps))) (hargs : aEvals E.Γ fr args.toList = some vs) (has : first.map .one ++ vs ++ caps.map .one = us) (hids : idsF isO us) (hou : OuOk σ.ou)
    (hc : AFn E.P E.Γ g us σ.ou Q) (h : ∀ r ou', Q r ou' → r.ids isO → OuOk ou' → P r { σ with ou := ou' }) : AStepR E o fr σ P := by
  subst has
  intro F w C tmps hi hfr next Qx hk
  have hcallee := aEval_ok (a := ⟨tmps, []⟩) hi hfr hf
  simp only [RF, R] at hcallee
  obtain ⟨xs, ys, hfv, hx, hy⟩ := hcallee
  have hvs := aEvals_ok (a := ⟨tmps, []⟩) hi hfr hargs
  have hall : RFs w C (first.map .one ++ vs ++ caps.map .one) (xs ++ args.toList.map (Act.eval ⟨tmps, []⟩) ++ ys) := (RFs.ones hx |>.append hvs).append (RFs.ones hy)
  have hrun : (execOp (Act.eval ⟨tmps, []⟩) o).run E.P w = .ok (.enter g (xs ++ args.toList.map (Act.eval ⟨tmps, []⟩) ++ ys).toArray) w := by
    unfold execOp
    simp only [ho, resolve, Sem.run_bind, hfv, Deferred.ofValue, Sem.run_pure, Result.andThen_ok, invoke, hc.1]
    congr 2
    apply Array.ext'
    simp
  unfold Oper.wp
  rw [hrun, Oper.upon_enter]
  have hc1 : Chg isO w C w { C with nl := 0 } := ⟨fun _ _ => rfl, fun _ h => h, fun i hp ho => ⟨by cases i with | l k => cases hp | o k => exact ho, rfl, rfl⟩⟩
  refine (hc.2 (calleeF w C σ.ou) w { C with nl := 0 } _ rfl (hi.forCallee hou hΓ) (RFs.chg hc1 _ _ hids hall)).mono fun e w' ⟨v, r, ou', C', he, hgo, h0, hi', hr, hQ⟩ => ?_
  subst he
  obtain ⟨hb1, hb2, hb3⟩ := hi.back hgo h0 hi'
  have hrid : r.ids isO := FV.ids_mono (ok_isO h0) r (RF.idsOk r v hr)
  exact hk _ _ _ r _ (h r ou' hQ hrid (OuOk.of_inv hi' h0)) hb1 hb2 (RF.chg hb3 r v hrid hr)
theorem runHeads_quiet {E : Env} {l : List Oper} {frb : Fr} {σ : St} {cs : List (Nat × FV)} {n al : Nat} {vs : List FV} {va : FV} (hT : TabOk E.P E.T) (hall : ∀ (k : Nat) (o : Oper), l[k]? = some o → k < n → o.after.all (fun e => !Region.binds .any e || decide (e.on < k)) = true) (hcs : CallsOk E l frb σ vs cs) :
    ∀ (os : List Oper) (k : Nat) (acc ws : List FV), acc.length = k → (∀ (i : Nat) (o : Oper), os[i]? = some o → l[k + i]? = some o ∧ k + i < n) → runHeads E l.toArray l frb σ ((al, va) :: cs) k os acc = some ws → acc ++ ws = vs →
      os.length = ws.length ∧ ∀ (i : Nat) (o : Oper), os[i]? = some o → ∃ v, ws[i]? = some v ∧ o.dst.isSome = true ∧ dstOk E.N o.dst = true ∧ (k + i = al → v = va) ∧ (k + i ≠ al → HStep E l.toArray o (depFr l vs o ++ frb) σ σ v)
  | [], k, acc, ws, _, _, h, _ => by simp only [runHeads, Option.some.injEq] at h; subst h; exact ⟨rfl, fun i o h => by simp at h⟩
  | o :: os, k, acc, ws, hl, hos, h, hv => by
    have ho := hos 0 o rfl
    simp only [Nat.add_zero] at ho
    simp only [runHeads, forceK_eq] at h
    cases hb : (o.dst.isSome && dstOk E.N o.dst) with
    | false => rw [hb] at h; cases h
    | true =>
      rw [hb] at h
      simp only [Bool.and_eq_true] at hb
      simp only [cond_true] at h
      have rest : ∀ {v : FV}, (k = al → v = va) → (k ≠ al → (∀ ws', ws = v :: ws' → HStep E l.toArray o (depFr l vs o ++ frb) σ σ v)) → (match runHeads E l.toArray l frb σ ((al, va) :: cs) (k + 1) os (acc ++ [v]) with | some vs => some (v :: vs) | none => none) = some ws →
          (o :: os).length = ws.length ∧ ∀ (i : Nat) (p : Oper), (o :: os)[i]? = some p → ∃ v, ws[i]? = some v ∧ p.dst.isSome = true ∧ dstOk E.N p.dst = true ∧ (k + i = al → v = va) ∧ (k + i ≠ al → HStep E l.toArray p (depFr l vs p ++ frb) σ σ v) := by
        intro v hva hst h
        split at h
        · rename_i ws' hw
          simp only [Option.some.injEq] at h; subst h
          obtain ⟨q1, q2⟩ := runHeads_quiet hT hall hcs os (k + 1) (acc ++ [v]) ws' (by simp [hl]) (fun i o hi => by have := hos (i + 1) o hi; rw [show k + 1 + i = k + (i + 1) by omega]; exact this) hw (by simpa using hv)
          refine ⟨by simp [q1], fun i p hi => ?_⟩
          cases i with
          | zero => simp at hi; subst hi; exact ⟨v, rfl, hb.1, hb.2, hva, fun hne => hst hne ws' rfl⟩
          | succ i =>
            obtain ⟨u, u1, u2, u3, u4, u5⟩ := q2 i p (by simpa using hi)
            rw [show k + 1 + i = k + (i + 1) by omega] at u4 u5
            exact ⟨u, by simpa using u1, u2, u3, u4, u5⟩
        · cases h
      by_cases hka : al = k
      · subst hka
        have hc : lookC al ((al, va) :: cs) = some va := by simp [lookC]
        rw [hc] at h
        exact rest (fun _ => rfl) (fun hne => absurd rfl hne) h
      · have hc : lookC k ((al, va) :: cs) = lookC k cs := by simp only [lookC, beq_no hka, cond_false]
        rw [hc] at h
        cases hc2 : lookC k cs with
        | some v =>
          rw [hc2] at h
          obtain ⟨o', ho', hs0⟩ := hcs.get hc2
          rw [ho.1] at ho'
          cases ho'
          exact rest (fun e => absurd e.symm hka) (fun _ _ _ => hs0) h
        | none =>
          rw [hc2] at h
          simp only at h
          cases hp : pureOp o.op with
          | false => rw [hp] at h; cases h
          | true =>
            rw [hp] at h
            simp only [cond_true] at h
            have hpure : ∀ {τ τ' : St} {v : FV}, aHead E l.toArray o (depFr l acc o ++ frb) τ = some (v, τ') → τ' = τ := by
              intro τ τ' v ha
              have key : ∀ {y : FV} {τ2 : St}, (match aOp E.T E.Γ o.op (depFr l acc o ++ frb) τ with | some (some x, σ') => some (x, σ') | _ => none) = some (y, τ2) → τ2 = τ := by
                intro y τ2 h
                split at h
                · rename_i h1
                  simp only [Option.some.injEq, Prod.mk.injEq] at h
                  obtain ⟨rfl, rfl⟩ := h
                  exact aOp_pure hp h1
                · cases h
              unfold aHead at ha
              split at ha
              · exact key ha
              · split at ha
                · split at ha
                  · exact key ha
                  · exact key ha
                  · cases ha; rfl
                  · cases ha; rfl
                  · cases ha; rfl
                  · cases ha
                · cases ha
            split at h
            · rename_i v σ' ha
              refine rest (fun e => absurd e.symm hka) (fun _ ws' hw => ?_) h
              have hdep : depFr l vs o = depFr l acc o := by rw [← hv]; exact depFr_prefix (by rw [hl]; exact hall k o ho.1 ho.2)
              have e1 := hpure ha
              subst e1
              have hs0 := HStep.auto (ops := l.toArray) hT ha
              rw [← hdep] at hs0
              exact hs0
            · cases h
section
variable {E : Env} {l : List Oper} {frb : Fr} {n : Nat} {K : Cont} {J : Array Bool → St → (Nat → Option FV) → Prop}
theorem mid_anyR (hB : drawB l n = true) (hfb : (dsts (l.take n)).all (fun d => (Fr.get d frb).isNone) = true)
    (hstep : ∀ (listed : Array Bool) (σ : St) (vals : Nat → Option FV) (i : Nat) (o : Oper), i < n → l[i]? = some o → listed.getD i false = false → listed.size = l.length → (∀ e ∈ o.after.toList, Region.binds .any e = true → listed.getD e.on false = true) → J listed σ vals →
      o.dst.isSome = true ∧ dstOk E.N o.dst = true ∧ HStepR E l.toArray o (depFrJ l vals o ++ frb) σ (fun v σ' => J (listed.setIfInBounds i true) σ' (updV vals i v)))
    (htail : ∀ σ vals, J (listedTo l.length n) σ vals → AOps E l.toArray (l.drop n) K (headFrJ vals 0 (l.take n) ++ frb) σ) {F : Nat → Prop} {w0 : World} {C0 : Ctx} :
    ∀ (c : Nat) (listed : Array Bool) (a : Act) (w : World), ((List.range n).filter fun j => !listed.getD j false).length = c → HeadInv .any l.toArray n listed → MidJ E l n frb J F w0 C0 listed a w →
      wpAny E.P .any l.toArray (Post E F w0 C0 K) (c + (l.length - n)) listed a w := by
  simp only [drawB, Bool.and_eq_true, decide_eq_true_eq] at hB
  obtain ⟨⟨⟨⟨⟨hn, hs⟩, hc⟩, hsq⟩, hdi⟩, haf⟩ := hB
  have hsz : l.toArray.size = l.length := by simp
  intro c
  induction c with
  | zero =>
    intro listed a w hcnt hinv hmid
    have hall : ∀ j, j < n → listed.getD j false = true := by
      intro j hj
      have : (List.range n).filter (fun j => !listed.getD j false) = [] := List.eq_nil_of_length_eq_zero hcnt
      have h2 := List.filter_eq_nil_iff.1 this j (List.mem_range.2 hj)
      simpa using h2
    have hl : listed = listedTo l.length n := by
      apply Array.ext
      · simp [listedTo, hinv.size]
      · intro j h1 h2
        have hj : j < l.length := by simpa [listedTo] using h2
        have h3 : listed.getD j false = listed[j] := by simp [h1]
        simp only [listedTo, Array.getElem_map, Array.getElem_range]
        by_cases hjn : j < n
        · rw [← h3, hall j hjn]; simp [hjn]
        · have := hinv.tail j (by omega) (by rw [hsz]; exact hj)
          rw [getD_tf h1] at this
          rw [← h3, this]; simp [hjn]
    have hdl : (l.drop n).length = l.length - n := by simp
    rw [Nat.zero_add, ← hdl]
    refine wpAny_of_seq (md := .any) (l.drop n) n listed a w (fun j => by simp [List.getElem?_drop]) (by rw [hl, hdl]; exact hsq) ?_
    obtain ⟨hd, C, σ, vals, hJ, hg, hi, hf, hv⟩ := hmid
    have ha : a = ⟨a.tmps, []⟩ := by cases a; simp_all
    rw [ha]
    rw [hl] at hJ
    refine htail σ vals hJ F w0 C0 w C a.tmps hg hi ⟨hf.1, fun k x hk => ?_⟩
    rcases Fr.get_append hk with hk | ⟨_, hk⟩
    · obtain ⟨i, o, h1, h2, h3⟩ := headFrJ_mem (Fr.get_mem hk)
      rw [Nat.zero_add] at h3
      have hin : i < n := by
        have := (List.getElem?_eq_some_iff.1 h1).1
        simp at this; omega
      rw [List.getElem?_take_of_lt hin] at h1
      exact hv i o k x hin h1 h2 h3
    · exact hf.2 k x hk
  | succ c ih =>
    intro listed a w hcnt hinv hmid
    -- some head is not listed
    have hex : ∃ i, i < n ∧ listed.getD i false = false ∧ ∀ j, j < i → listed.getD j false = true := by
      have hne : ∃ i, i < n ∧ listed.getD i false = false := by
        cases hL : (List.range n).filter (fun j => !listed.getD j false) with
        | nil => rw [hL] at hcnt; simp at hcnt
        | cons i L =>
          have : i ∈ (List.range n).filter (fun j => !listed.getD j false) := by rw [hL]; simp
          obtain ⟨h1, h2⟩ := List.mem_filter.1 this
          exact ⟨i, List.mem_range.1 h1, by simpa using h2⟩
      obtain ⟨i, hi⟩ := hne
      induction i using Nat.strongRecOn with
      | _ i ih2 =>
        by_cases h : ∃ j, j < i ∧ listed.getD j false = false
        · obtain ⟨j, hj, hj2⟩ := h
          exact ih2 j hj ⟨by omega, hj2⟩
        · exact ⟨i, hi.1, hi.2, fun j hj => (Bool.not_eq_false _).mp (fun hb => h ⟨j, hj, hb⟩)⟩
    obtain ⟨i0, hi0n, hi0u, hi0m⟩ := hex
    have hready : i0 ∈ Region.ready .any l.toArray listed := by
      rw [mem_ready]
      have hlt : i0 < l.length := by omega
      refine ⟨by rw [getD_tf (by rw [hinv.size, hsz]; exact hlt)]; exact hi0u, l[i0], by simp [hlt], fun e he hb => ?_⟩
      have h1 := List.all_eq_true.1 haf (l[i0], i0) (by
        rw [List.mem_zipIdx_iff_getElem?]
        rw [List.getElem?_take_of_lt hi0n]
        simp [hlt])
      have h2 := Array.all_eq_true_iff_forall_mem.1 h1 e he
      simp only [hb, Bool.not_true, Bool.false_or, decide_eq_true_eq] at h2
      exact hi0m _ h2
    rw [show c + 1 + (l.length - n) = (c + (l.length - n)) + 1 by omega]
    refine ⟨fun h => absurd hready (by rw [h]; simp), fun i hi => ?_⟩
    have hi0t : listed.getD i0 true = false := (mem_ready.1 hready).1
    have hin : i < n := by
      rcases Nat.lt_or_ge i n with h | h
      · exact h
      · exact absurd hi (tail_waits hs hc (by rw [hsz]; exact hn) hinv _ i0 rfl hi0n hi0t i h)
    obtain ⟨hun, o, ho, hall⟩ := mem_ready.1 hi
    have hlo : l[i]? = some o := by simpa using ho
    obtain ⟨hd, C, σ, vals, hJ, hg, hinvw, hf, hvals⟩ := hmid
    have ha : a = ⟨a.tmps, []⟩ := by cases a; simp_all
    rw [ha]
    have huni : listed.getD i false = false := getD_both hun
    have hil : i < listed.size := by rw [hinv.size, hsz]; omega
    have hlast : ∀ e ∈ o.after.toList, Region.binds .any e = true → e.on < n := fun e he hb => by
      have h1 := List.all_eq_true.1 haf (o, i) (by
        rw [List.mem_zipIdx_iff_getElem?]
        rw [List.getElem?_take_of_lt hin]
        simpa using hlo)
      have h2 := Array.all_eq_true_iff_forall_mem.1 h1 e (by simpa using he)
      simp only [hb, Bool.not_true, Bool.false_or, decide_eq_true_eq] at h2
      omega
    obtain ⟨hds, hdo, hst⟩ := hstep listed σ vals i o hin hlo huni (by rw [hinv.size, hsz]) (fun e he hb => hall e (by simpa using he) hb) hJ
    have hfr : FrOk w C E.N (depFrJ l vals o ++ frb) a.tmps := by
      refine ⟨hf.1, fun k x hk => ?_⟩
      rcases Fr.get_append hk with hk | ⟨_, hk⟩
      · have hm := Fr.get_mem hk
        obtain ⟨e, he, he2⟩ := List.mem_filterMap.1 hm
        cases hb : Region.binds .any e with
        | false => rw [hb] at he2; cases he2
        | true =>
          rw [hb] at he2; simp only [cond_true] at he2
          cases h1 : (l[e.on]?).bind (·.dst) with
          | none => rw [h1] at he2; cases he2
          | some d =>
            cases h2 : vals e.on with
            | none => rw [h1, h2] at he2; cases he2
            | some v' =>
              rw [h1, h2] at he2; cases he2
              cases h3 : l[e.on]? with
              | none => rw [h3] at h1; cases h1
              | some oe =>
                rw [h3] at h1
                exact hvals e.on oe k x (hlast e he hb) h3 h1 h2
      · exact hf.2 k x hk
    obtain ⟨d, hdd⟩ := Option.isSome_iff_exists.1 hds
    refine hstepR_run hst hinvw hfr ho fun u w' C' v σ' hJ' hgo hi' hr => ?_
    refine ih _ _ _ ?_ (hinv.set hi hin) ⟨put_defers .., C', σ', _, hJ', hg.trans hgo.toO, hi', ?_, fun j oj dj vj hj hoj hdj hvj => ?_⟩
    · have h2 : ((List.range n).filter fun j => !(listed.setIfInBounds i true).getD j false).length + 1 = ((List.range n).filter fun j => !listed.getD j false).length := count_eq hin huni hil
      omega
    · refine ⟨by rw [hdd]; simp [Act.put, hf.1], fun k x hk => ?_⟩
      obtain ⟨u', hu', hr'⟩ := hf.2 k x hk
      have hne : d ≠ k := by
        rintro rfl
        have h1 := List.all_eq_true.1 hfb d (List.mem_filterMap.2 ⟨o, List.mem_of_getElem? (i := i) (by rw [List.getElem?_take_of_lt hin]; exact hlo), hdd⟩)
        rw [hk] at h1; cases h1
      refine ⟨u', ?_, hr'.ext hgo.chg⟩
      rw [hdd]
      simp only [Act.put]
      rw [Array.getElem?_setIfInBounds_ne hne]; exact hu'
    · by_cases e : i = j
      · subst e
        rw [hlo] at hoj; cases hoj
        rw [hdd] at hdj; cases hdj
        rw [updV, if_pos rfl] at hvj
        cases hvj
        have hdN : d < a.tmps.size := by
          rw [hf.1]
          rw [hdd] at hdo
          exact Nat.le_of_ble_eq_true (show Nat.ble (d + 1) E.N = true from hdo)
        exact ⟨u, by rw [hdd]; simp [Act.put, hdN], hr⟩
      · simp only [updV, if_neg e] at hvj
        obtain ⟨u', hu', hr'⟩ := hvals j oj dj vj hj hoj hdj hvj
        have hne : d ≠ dj := by
          rintro rfl
          exact e (distinct_dsts hdi (by rw [List.getElem?_take_of_lt hin]; exact hlo) (by rw [List.getElem?_take_of_lt hj]; exact hoj) hdd hdj)
        refine ⟨u', ?_, hr'.ext hgo.chg⟩
        rw [hdd]
        simp only [Act.put]
        rw [Array.getElem?_setIfInBounds_ne hne]; exact hu'
/-- A REGION THAT DRAWS ITS ORDER, with what holds between the operations of its head. -/
theorem ACode.drawJR {id : Nat} {fr : Fr} {σ0 : St} (n : Nat) (J : Array Bool → St → (Nat → Option FV) → Prop) (hm : E.P.follows .mixedOrders = true) (hB : drawB l n = true) (hfb : Fr.woO (dsts (l.take n)) fr = some frb) (h0 : J (Array.replicate l.length false) σ0 (fun _ => none))
    (hstep : ∀ (listed : Array Bool) (σ : St) (vals : Nat → Option FV) (i : Nat) (o : Oper), i < n → l[i]? = some o → listed.getD i false = false → listed.size = l.length → (∀ e ∈ o.after.toList, Region.binds .any e = true → listed.getD e.on false = true) → J listed σ vals →
      o.dst.isSome = true ∧ dstOk E.N o.dst = true ∧ HStepR E l.toArray o (depFrJ l vals o ++ frb) σ (fun v σ' => J (listed.setIfInBounds i true) σ' (updV vals i v)))
    (htail : ∀ σ vals, J (listedTo l.length n) σ vals → AOps E l.toArray (l.drop n) K (headFrJ vals 0 (l.take n) ++ frb) σ) : ACode E (.region id l.toArray true) K fr σ0 := by
  have h3 := Fr.woO_eq hfb
  intro F w0 C0 w C tmps hg hi hf
  have hn : n < l.length := by
    simp only [drawB, Bool.and_eq_true, decide_eq_true_eq] at hB
    exact hB.1.1.1.1.1
  refine wp_region_any hm ?_
  have h := mid_anyR (F := F) (w0 := w0) (C0 := C0) (J := J) hB (by rw [← h3]; exact Fr.wo_none _ _) hstep htail n (Array.replicate l.toArray.size false) ⟨tmps, []⟩ w.drew (by
      have : ∀ j, (!(Array.replicate l.toArray.size false).getD j false) = true := fun j => by rw [getD_replicate_false]; rfl
      simp only [this]; rw [List.filter_eq_self.2 (fun _ _ => rfl), List.length_range])
    ⟨by simp, fun j oj _ hl => (by rw [getD_replicate_false] at hl; cases hl), fun t _ ht => getD_in (by simpa using ht) (getD_replicate_false _ _)⟩
    ⟨rfl, C, σ0, fun _ => none, by simpa using h0, hg.trans (Goes.drew hi).toO, hi.drew.2, ⟨hf.1, fun k x hk => by
        obtain ⟨u, hu, hr⟩ := hf.2 k x (by rw [← h3] at hk; exact (Fr.wo_get hk).1)
        exact ⟨u, hu, hr.ext hi.drew.1⟩⟩, fun i o d v _ _ _ hv => by cases hv⟩
  rw [show n + (l.length - n) = l.toArray.size by simp; omega] at h
  exact h

/-- One operation of the head, a call say, leaves one of some states; its value is known. The others only read, before it and behind it. -/
theorem ACode.drawXR {id : Nat} {fr fr' : Fr} {σ0 : St} {hd tl : List Oper} {vs : List FV} {va : FV} {oal : Oper} (hT : TabOk E.P E.T) (n al : Nat) (cs : List (Nat × FV)) (S : St → Prop) (hm : E.P.follows .mixedOrders = true) (hB : drawB l n = true) (haln : Nat.ble (al + 1) n = true) (hsp : splitO n l = some (hd, tl)) (hfb : Fr.woO (dsts hd) fr = some frb)
    (hoal : l[al]? = some oal) (hrun : runHeads E l.toArray l frb σ0 ((al, va) :: cs) 0 hd [] = some vs) (hrun1 : ∀ σ, S σ → runHeads E l.toArray l frb σ ((al, va) :: cs) 0 hd [] = some vs) (hfr : frOf hd vs frb = some fr')
    (hds : oal.dst.isSome = true ∧ dstOk E.N oal.dst = true) (hg : oal.guard = none) (hal : AStepR E oal (depFr l vs oal ++ frb) σ0 (fun v σ => v = va ∧ S σ)) (hcs : CallsOk E l frb σ0 vs cs) (hcs1 : ∀ σ, S σ → CallsOk E l frb σ vs cs)
    (htail : ∀ σ, S σ → AOps E l.toArray tl K fr' σ) : ACode E (.region id l.toArray true) K fr σ0 := by
  obtain ⟨hsp1, hsp2⟩ := splitO_eq hsp
  subst hsp1; subst hsp2
  have h4 := frOf_eq hfr
  have hn : n < l.length := by
    have := hB
    simp only [drawB, Bool.and_eq_true, decide_eq_true_eq] at this
    exact this.1.1.1.1.1
  have hlast : ∀ (i : Nat) (o : Oper), l[i]? = some o → i < n → o.after.all (fun e => !Region.binds .any e || decide (e.on < i)) = true := fun i o hlo hi => by
    have hB2 := hB
    simp only [drawB, Bool.and_eq_true, decide_eq_true_eq] at hB2
    exact List.all_eq_true.1 hB2.2 (o, i) (by
      rw [List.mem_zipIdx_iff_getElem?]
      rw [List.getElem?_take_of_lt hi]
      simpa using hlo)
  have hos : ∀ i o, (l.take n)[i]? = some o → l[0 + i]? = some o ∧ 0 + i < n := fun i o hi => by
    have hi2 : i < n := by
      have := (List.getElem?_eq_some_iff.1 hi).1
      simp at this; omega
    rw [List.getElem?_take_of_lt hi2] at hi
    exact ⟨by simpa using hi, by omega⟩
  -- a head that turns nothing, seen from each state
  have H : ∀ σ, runHeads E l.toArray l frb σ ((al, va) :: cs) 0 (l.take n) [] = some vs → CallsOk E l frb σ vs cs → (l.take n).length = vs.length ∧ ∀ i o, l[i]? = some o → i < n → i ≠ al → ∃ v, vs[i]? = some v ∧ o.dst.isSome = true ∧ dstOk E.N o.dst = true ∧ HStep E l.toArray o (depFr l vs o ++ frb) σ σ v := fun σ hr hc => by
    have hq := runHeads_quiet (n := n) (al := al) (va := va) hT hlast hc _ 0 [] vs rfl hos hr rfl
    refine ⟨hq.1, fun i o hlo hi hne => ?_⟩
    obtain ⟨v, q1, q2, q3, _, q4⟩ := hq.2 i o (by rw [List.getElem?_take_of_lt hi]; exact hlo)
    exact ⟨v, q1, q2, q3, q4 (by omega)⟩
  have hva : vs[al]? = some va := by
    have hq := runHeads_quiet (n := n) (al := al) (va := va) hT hlast hcs _ 0 [] vs rfl hos hrun rfl
    obtain ⟨v, q1, _, _, q4, _⟩ := hq.2 al oal (by rw [List.getElem?_take_of_lt (Nat.le_of_ble_eq_true haln)]; exact hoal)
    rw [q1, q4 (by omega)]
  obtain ⟨hlen, H0⟩ := H σ0 hrun hcs
  refine ACode.drawJR n (fun listed σ vals => listed.size = l.length ∧ (∀ i, i < n → listed.getD i false = true → vals i = vs[i]?) ∧ ((listed.getD al false = false ∧ σ = σ0) ∨ (listed.getD al false = true ∧ S σ))) hm hB hfb ⟨by simp, fun i _ h => absurd h (by rw [getD_replicate_false]; simp), .inl ⟨getD_replicate_false _ _, rfl⟩⟩ ?_ ?_
  · intro listed σ vals i o hi hlo hun hsz hall ⟨_, hv, hst⟩
    have hset : ∀ j, (listed.setIfInBounds i true).getD j false = if i = j then true else listed.getD j false := fun j => by
      by_cases e : i = j
      · subst e; simp [show i < listed.size by omega]
      · rw [getD_set_ne false e, if_neg e]
    have hdd : depFrJ l vals o = depFr l vs o := by
      unfold depFrJ depFr
      refine filterMap_same fun e he => ?_
      cases hb : Region.binds .any e with
      | false => rfl
      | true =>
        have h1 := Array.all_eq_true_iff_forall_mem.1 (hlast i o hlo hi) e (by simpa using he)
        simp only [hb, Bool.not_true, Bool.false_or, decide_eq_true_eq] at h1
        simp only [cond_true]
        rw [hv e.on (by omega) (hall e he hb)]
        rfl
    rw [hdd]
    have hnew : ∀ v, vs[i]? = some v → ∀ j, j < n → (listed.setIfInBounds i true).getD j false = true → updV vals i v j = vs[j]? := fun v hvv j hj hlj => by
      by_cases e : i = j
      · subst e; rw [updV, if_pos rfl, hvv]
      · rw [hset, if_neg e] at hlj
        rw [updV, if_neg e]; exact hv j hj hlj
    by_cases e : i = al
    · subst e
      rw [hoal] at hlo; cases hlo
      rcases hst with ⟨_, rfl⟩ | ⟨h, _⟩
      · refine ⟨hds.1, hds.2, .inr ⟨hg, ?_⟩⟩
        intro F w C tmps hi2 hf2 next Q hk
        refine hal F w C tmps hi2 hf2 next Q fun u w' C' v σ' ⟨hv1, hS⟩ => ?_
        subst hv1
        exact hk u w' C' _ σ' ⟨by simp [hsz], hnew _ hva, .inr ⟨by rw [hset, if_pos rfl], hS⟩⟩
      · rw [hun] at h; cases h
    · have hq : ∃ v, vs[i]? = some v ∧ o.dst.isSome = true ∧ dstOk E.N o.dst = true ∧ HStep E l.toArray o (depFr l vs o ++ frb) σ σ v := by
        rcases hst with ⟨_, rfl⟩ | ⟨_, hS⟩
        · exact H0 i o hlo hi e
        · exact (H σ (hrun1 σ hS) (hcs1 σ hS)).2 i o hlo hi e
      obtain ⟨v, q1, q2, q3, q4⟩ := hq
      refine ⟨q2, q3, .inl ⟨v, σ, q4, by simp [hsz], hnew v q1, ?_⟩⟩
      rw [hset, if_neg e]; exact hst
  · intro σ vals ⟨_, hv, hst⟩
    have hl : ∀ j, j < n → (listedTo l.length n).getD j false = true := fun j hj => by
      have : j < (listedTo l.length n).size := by simp [listedTo]; omega
      simp [listedTo, show j < l.length by omega, hj]
    have hS : S σ := by
      rcases hst with ⟨h, _⟩ | ⟨_, h⟩
      · rw [hl al (Nat.le_of_ble_eq_true haln)] at h; cases h
      · exact h
    have heq : headFrJ vals 0 (l.take n) = headFr (l.take n) vs := by
      have : ∀ (os : List Oper) (ws : List FV) (k : Nat), os.length = ws.length → (∀ i, i < os.length → vals (k + i) = ws[i]?) → (∀ o ∈ os, o.dst.isSome = true) → headFrJ vals k os = headFr os ws := by
        intro os
        induction os with
        | nil => intro ws k _ _ _; cases ws <;> rfl
        | cons o os ih =>
          intro ws k hl h hd
          cases ws with
          | nil => simp at hl
          | cons v ws =>
            have h0 := h 0 (by simp)
            simp at h0
            obtain ⟨d, hdd⟩ := Option.isSome_iff_exists.1 (hd o (by simp))
            simp only [headFrJ, headFr, hdd, h0]
            rw [ih ws (k + 1) (by simpa using hl) (fun i hi => by have := h (i + 1) (by simpa using hi); rw [show k + 1 + i = k + (i + 1) by omega, this]; simp) (fun o ho => hd o (by simp [ho]))]
      refine this _ _ 0 hlen (fun i hi => by rw [Nat.zero_add]; exact hv i (by simp at hi; omega) (hl i (by simp at hi; omega))) fun o ho => ?_
      obtain ⟨i, hi⟩ := List.mem_iff_getElem?.1 ho
      obtain ⟨h1, h2⟩ := hos i o hi
      rw [Nat.zero_add] at h1 h2
      by_cases e : i = al
      · subst e; rw [hoal] at h1; cases h1; exact hds.1
      · obtain ⟨_, _, h, _⟩ := H0 i o h1 h2 e; exact h
    rw [heq, h4]
    exact htail σ hS
end
/-- A local object takes the name of a new outer one: the states before and behind. -/
structure Ced (j k : Nat) (fr : Fr) (σ : St) (fr' : Fr) (σ' : St) : Prop where
  fr : ∀ d x, Fr.get d fr' = some x → ∃ y, Fr.get d fr = some y ∧ WkF (y.sub (toO j k)) x
  n : σ'.n = σ.n
  obj : ∀ i x, σ'.get i = some x → ∃ i0 y, σ.get i0 = some y ∧ toO j k i0 = i ∧ x = y.sub (toO j k)
theorem FV.ids_all (x : FV) : x.ids (fun _ => True) := FV.ids_true x
theorem AObj.ids_all (o : AObj) : o.ids (fun _ => True) := by
  cases o with
  | cells cs => exact idsL_true cs
  | map ck es => exact fun x hx => FV.ids_true _
  | iter m a b c => trivial
  | sit s q => trivial
  | tok e s u => trivial
  | dead => trivial
theorem AOps.cede {E : Env} {ops : Array Oper} {rest : List Oper} {K : Cont} {fr : Fr} {σ : St} (j : Nat) (hj : j < σ.n) (h : ∀ k, σ.ou k = none → ∃ fr' σ', Ced j k fr σ fr' σ' ∧ AOps E ops rest K fr' σ') : AOps E ops rest K fr σ := by
  intro F w0 C0 w C tmps hg hi hf
  have hnone : σ.ou C.no = none := by
    cases hx : σ.ou C.no with
    | none => rfl
    | some x => exact absurd (hi.obj (.o C.no) x hx).1 (Nat.lt_irrefl _)
  obtain ⟨fr', σ', hc, h⟩ := h _ hnone
  let C2 : Ctx := { C with no := C.no + 1, phi := fun i => match i with | .o m => if m = C.no then C.phi (.l j) else C.phi (.o m) | .l m => C.phi (.l m), tk := fun i => match i with | .o m => if m = C.no then C.tk (.l j) else C.tk (.o m) | .l m => C.tk (.l m) }
  have hx : Ext w C w C2 := ⟨fun _ _ => rfl, fun _ h => h, fun i _ ho => by
    cases i with
    | l m => exact ⟨ho, rfl, rfl⟩
    | o m =>
      have hm : m < C.no := ho
      refine ⟨Nat.lt_succ_of_lt hm, ?_, ?_⟩
      · show (if m = C.no then _ else _) = _; rw [if_neg (by omega)]; rfl
      · show (if m = C.no then _ else _) = _; rw [if_neg (by omega)]; rfl⟩
  have hb : Bus (toO j C.no) (fun _ => True) w C2 C := ⟨fun _ h => h, fun i _ ho => by
    cases i with
    | o m => exact hx.id (.o m) trivial ho
    | l m =>
      by_cases e : m = j
      · subst e
        simp only [toO, beq_self, cond_true]
        refine ⟨Nat.lt_succ_self _, ?_, ?_⟩
        · show (if C.no = C.no then _ else _) = _; rw [if_pos rfl]; rfl
        · show (if C.no = C.no then _ else _) = _; rw [if_pos rfl]; rfl
      · simp only [toO, beq_no e, cond_false]
        exact ⟨ho, rfl, rfl⟩⟩
  have hok : ∀ i0 y, σ.get i0 = some y → C.ok i0 := fun i0 y hy => (hi.obj i0 y hy).1
  have hi' : Inv E.Γ F w C2 σ' := by
    refine ⟨hi.base, by rw [hc.n]; exact hi.next, fun g cs hm => (hi.glob g cs hm).ext hx, hi.prot, fun i x hxx => ?_, fun i1 i2 x1 x2 g h1 h2 h3 h4 => ?_⟩
    · obtain ⟨i0, y, hy, rfl, rfl⟩ := hc.obj i x hxx
      obtain ⟨k1, k2⟩ := hi.obj i0 y hy
      exact ⟨(hb.id i0 trivial k1).1, ObjOk.bus hb (AObj.ids_all y) trivial k1 (fun _ h => h) k2⟩
    · obtain ⟨a, y, hy, rfl, rfl⟩ := hc.obj i1 x1 h1
      obtain ⟨b, z, hz, rfl, rfl⟩ := hc.obj i2 x2 h2
      rw [AObj.block_bus hb trivial (hok a y hy)] at h3
      rw [AObj.block_bus hb trivial (hok b z hz)] at h4
      rw [hi.inj a b y z g hy hz h3 h4]
  refine h F w0 C0 w C2 tmps (hg.trans ⟨Stp.refl _ _, hx.weaken (fun _ _ => trivial), Nat.le_succ _, NewP.refl _ _⟩) hi' ⟨hf.1, fun d x hd => ?_⟩
  obtain ⟨y, hy, hw⟩ := hc.fr d x hd
  obtain ⟨u, hu, hr⟩ := hf.2 d y hy
  exact ⟨u, hu, hw _ _ _ (RF.bus hb y u (FV.ids_true y) hr)⟩
/-- Objects that are spoken of no more. -/
theorem AOps.lessO {E : Env} {ops : Array Oper} {rest : List Oper} {K : Cont} {fr : Fr} {σ : St} (σ' : St) (hn : σ'.n = σ.n) (hs : ∀ i o, σ'.get i = some o → σ.get i = some o) (h : AOps E ops rest K fr σ') : AOps E ops rest K fr σ := by
  intro F w0 C0 w C tmps hg hi hf
  exact h F w0 C0 w C tmps hg ⟨hi.base, by rw [hn]; exact hi.next, hi.glob, hi.prot, fun i o ho => hi.obj i o (hs i o ho), fun i j o o' g h1 h2 h3 h4 => hi.inj i j o o' g (hs i o h1) (hs j o' h2) h3 h4⟩ hf
end Go.Abs
/- The abstract layer, part Ag: outer names stay as they are. No condition. -/
namespace Go.Abs
set_option linter.unusedVariables false
section
variable {j k : Nat}
theorem toO_isO : ∀ i : Id, isO i → toO j k i = i
  | .o _, _ => rfl
  | .l _, h => h.elim
mutual
theorem AC.sub_o : ∀ c : AC, c.ids isO → c.sub (toO j k) = c
  | .lit _, _ => rfl
  | .any, _ => rfl
  | .sl s es, h => by simp only [AC.ids] at h; simp only [AC.sub]; rw [subS_o es h]
  | .box cs, h => by simp only [AC.ids] at h; simp only [AC.sub]; rw [subL_o cs h]
  | .ptr i off, h => by simp only [AC.ids] at h; simp only [AC.sub]; rw [toO_isO i h]
  | .gs s es i, h => by simp only [AC.ids] at h; simp only [AC.sub]; rw [toO_isO i h.1, subS_o es h.2]
  | .arr i s off len cap, h => by simp only [AC.ids] at h; simp only [AC.sub]; rw [toO_isO i h]
  | .mp i, h => by simp only [AC.ids] at h; simp only [AC.sub]; rw [toO_isO i h]
  | .fn f a b, h => by simp only [AC.ids] at h; simp only [AC.sub]; rw [subL_o a h.1, subL_o b h.2]
  | .ifc t ag cs, h => by simp only [AC.ids] at h; simp only [AC.sub]; rw [subL_o cs h]
theorem subS_o : ∀ es : List (List AC), idsS isO es → subS (toO j k) es = es
  | [], _ => rfl
  | e :: es, h => by simp only [idsS] at h; simp only [subS]; rw [subL_o e h.1, subS_o es h.2]
theorem subL_o : ∀ cs : List AC, idsL isO cs → subL (toO j k) cs = cs
  | [], _ => rfl
  | c :: cs, h => by simp only [idsL] at h; simp only [subL]; rw [AC.sub_o c h.1, subL_o cs h.2]
end
mutual
theorem FV.sub_o : ∀ x : FV, x.ids isO → x.sub (toO j k) = x
  | .bot, _ => rfl
  | .one c, h => by simp only [FV.ids] at h; simp only [FV.sub]; rw [AC.sub_o c h]
  | .agg cs, h => by simp only [FV.ids] at h; simp only [FV.sub]; rw [subL_o cs h]
  | .tup vs, h => by simp only [FV.ids] at h; simp only [FV.sub]; rw [subF_o vs h]
theorem subF_o : ∀ vs : List FV, idsF isO vs → subF (toO j k) vs = vs
  | [], _ => rfl
  | v :: vs, h => by simp only [idsF] at h; simp only [subF]; rw [FV.sub_o v h.1, subF_o vs h.2]
end
theorem AObj.sub_o (o : AObj) (h : o.ids isO) : o.sub (toO j k) = o := by
  cases o with
  | cells cs => simp only [AObj.sub]; rw [subL_o cs h]
  | map ck es =>
    simp only [AObj.sub]
    congr 1
    rw [List.map_congr_left (g := id), List.map_id]
    intro x hx
    have := h x hx
    obtain ⟨a, b, c⟩ := x
    simp only [FV.sub_o c this, id]
  | iter m a b d => simp only [AObj.sub]; rw [toO_isO m h]
  | sit s q => rfl
  | tok e s u => rfl
  | dead => rfl
end
theorem AFn.fin' {E : Env} {fn : Func} {fr : Fr} {σ : St} {Q : FV → Outer → Prop} {r r' : FV} (h : aRes E.T fr σ fn.results.toList = some r) (hw : WkF r r') (hi : r'.ids isO) (ho : OuOk σ.ou) (hq : Q r' σ.ou) : Fin E fn Q fr σ := ⟨r, r', h, hw, hi, ho, hq⟩
end Go.Abs
/- The abstract layer, part Ah: an own array of numbers, sorted in place. What the sort does is given. -/
namespace Go.Abs
open Go.Sort
set_option linter.unusedVariables false
set_option linter.unusedSimpArgs false
abbrev iC (n : Int) : List AC := [.lit (.int .i64 n)]
theorem flat_iC : ∀ l : List Int, (l.map iC).flatten = l.map fun n => AC.lit (.int .i64 n)
  | [] => rfl
  | n :: l => by simp [flat_iC l]
theorem RV.ints {w : World} {C : Ctx} : ∀ {l : List Int} {cs : List AC} {xs : List Value}, RV w C ((l.map fun n => AC.lit (.int .i64 n)) ++ cs) xs → xs = l.map (Value.int .i64) ++ xs.drop l.length ∧ RV w C cs (xs.drop l.length)
  | [], cs, xs, h => ⟨by simp, by simpa using h⟩
  | n :: l, cs, xs, h => by
    simp only [List.map_cons, List.cons_append, RV] at h
    obtain ⟨v, ys, rfl, h1, h2⟩ := h
    simp only [R] at h1
    obtain ⟨h3, h4⟩ := RV.ints h2
    refine ⟨?_, by simpa using h4⟩
    simp only [List.map_cons, List.length_cons, List.drop_succ_cons, List.cons_append]
    rw [← h3, h1.1]
theorem RV.ofInts {w : World} {C : Ctx} : ∀ (l : List Int) {cs : List AC} {xs : List Value}, RV w C cs xs → RV w C ((l.map fun n => AC.lit (.int .i64 n)) ++ cs) (l.map (Value.int .i64) ++ xs)
  | [], cs, xs, h => by simpa using h
  | n :: l, cs, xs, h => by
    simp only [List.map_cons, List.cons_append, RV]
    exact ⟨_, _, rfl, by simp [R, Value.oneCell'], RV.ofInts l h⟩
theorem putCells_front (d : List Int) (xs : List Value) (h : d.length ≤ xs.length) : putCells (Value.int .i64) 0 d.toArray xs.toArray = (d.map (Value.int .i64) ++ xs.drop d.length).toArray := by
  apply Array.ext_getElem?
  intro k
  unfold putCells
  rw [Array.getElem?_mapIdx]
  simp only [List.getElem?_toArray, List.size_toArray, Nat.zero_le, true_and, Nat.zero_add, Nat.sub_zero]
  by_cases hk : k < d.length
  · rw [List.getElem?_append_left (by simpa using hk)]
    have hx : k < xs.length := by omega
    simp [List.getElem?_eq_getElem hx, hk]
  · rw [List.getElem?_append_right (by simp; omega)]
    simp only [List.length_map, List.getElem?_drop]
    rw [show d.length + (k - d.length) = k by omega]
    simp [hk]
/-- The sort of an own array. -/
theorem AOps.sortI {E : Env} {ops : Array Oper} {rest : List Oper} {o : Oper} {K : Cont} {fr : Fr} {σ : St} {d : Nat} {f : Operand} {args : Array Operand} {tys : Array TypeId} {g : Nat} {i : Id} {l : List Int} {cap : Nat} (hgd : o.guard = none) (hdst : o.dst = some d) (hd : Nat.ble (d + 1) E.N = true)
    (ho : o.op = .call { callee := .value f, args := args, argTypes := tys }) (hf : aEval E.Γ fr f = some (.one (.fn (.func g) [] []))) (hargs : aEvals E.Γ fr args.toList = some [.one (.arr i 1 0 l.length cap)])
    (hcf : ∀ us (w : World), (callFunc g us).run E.P w = .ok (.enter g us) w)
    (hc : ∀ (blk off cap : Nat) (zs : List Int) (w : World), Holds (Value.int .i64) w blk off zs.toArray → blk < w.heap.size → zs.length < 4611686018427387904 → Calls E.P g #[.slice (some ⟨blk, off, none⟩) zs.length cap] w fun e w' =>
      e = .returned (.tuple #[]) ∧ ∃ n os, w' = grow (putRow (Value.int .i64) (Sort.ahead w n) blk off (zs.mergeSort fun x y => decide (x ≤ y)).toArray) os)
    (hg : σ.get i = some (.cells (vec 1 (l.map iC) cap))) (hlen : l.length < 4611686018427387904)
    (h : AOps E ops rest K ((d, .tup []) :: fr) (σ.set i (.cells (vec 1 ((l.mergeSort fun x y => decide (x ≤ y)).map iC) cap)))) : AOps E ops (o :: rest) K fr σ := by
  intro F w0 C0 w C tmps hgo hi hfr
  refine wpList_plain hgd fun N' hN => ?_
  have hcallee := aEval_ok (a := ⟨tmps, []⟩) hi hfr hf
  simp only [RF, R] at hcallee
  obtain ⟨xs, ys, hfv, hx, hy⟩ := hcallee
  simp only [RV] at hx hy
  subst hx; subst hy
  have hvs := aEvals_ok (a := ⟨tmps, []⟩) hi hfr hargs
  simp only [RFs, RF, R] at hvs
  obtain ⟨v, us, hv, ⟨hok, hv2, hcapl⟩, hus⟩ := hvs
  subst hus
  rw [hv2] at hv
  simp only [Nat.zero_mul] at hv
  obtain ⟨hok', zs, T, b1, b2, b3, b4⟩ := hi.obj i _ hg
  have hzs := b3
  unfold vec at hzs
  rw [flat_iC] at hzs
  obtain ⟨hz1, hz2⟩ := RV.ints hzs
  have hzl : l.length ≤ zs.length := by rw [hz1]; simp
  have hcell : ∀ j : Nat, w.cell? ⟨C.blk i, j, none⟩ = zs[j]? := fun j => by rw [cell_of_row _ _ _ _ _ _ b1]; simp
  have hH : Holds (Value.int .i64) w (C.blk i) 0 l.toArray := fun j hj => by
    have hj' : j < l.length := by simpa using hj
    refine ⟨?_, ?_⟩
    · rw [Nat.zero_add, hcell, hz1, List.getElem?_append_left (by simpa using hj')]
      simp [hj']
    · simp [World.frozen?, b1]
  have hblk : C.blk i < w.heap.size := lt_of_heap b1
  have hrun : (execOp (Act.eval ⟨tmps, []⟩) o).run E.P w = .ok (.enter g #[.slice (some ⟨C.blk i, 0, none⟩) l.length cap]) w := by
    unfold execOp
    simp only [ho, resolve, Sem.run_bind, hfv, Deferred.ofValue, Sem.run_pure, Result.andThen_ok, invoke, hcf]
    congr 2
    apply Array.ext'
    simpa using hv
  unfold Oper.wp
  rw [hrun, Oper.upon_enter]
  refine (hc (C.blk i) 0 cap l w hH hblk hlen).mono fun e w' ⟨he, n, os, hw'⟩ => ?_
  subst he
  subst hw'
  obtain ⟨l', hl'⟩ : ∃ l', l' = (l.mergeSort fun x y => decide (x ≤ y)) := ⟨_, rfl⟩
  rw [← hl'] at h ⊢
  have hll : l'.length = l.length := by rw [hl']; simp
  -- the row, turned
  have hsz : (putRow (Value.int .i64) (Sort.ahead w n) (C.blk i) 0 l'.toArray).heap.size = w.heap.size := by simp [Sort.ahead]
  have hoth : ∀ k, k ≠ C.blk i → (putRow (Value.int .i64) (Sort.ahead w n) (C.blk i) 0 l'.toArray).heap[k]? = w.heap[k]? := fun k hk => by
    unfold putRow mapBlock
    show (w.heap.modify _ _)[k]? = _
    rw [Array.getElem?_modify, if_neg (Ne.symm hk)]
  have hat : (putRow (Value.int .i64) (Sort.ahead w n) (C.blk i) 0 l'.toArray).heap[C.blk i]? = some (.cells (l'.map (Value.int .i64) ++ zs.drop l.length).toArray T (0, 0)) := by
    unfold putRow mapBlock
    show (w.heap.modify _ _)[C.blk i]? = _
    rw [Array.getElem?_modify, if_pos rfl, b1]
    simp only [Option.map_some, onCells]
    rw [putCells_front l' zs (by omega), hll]
  obtain ⟨he1, hi1⟩ := hi.turn (o' := .cells (vec 1 (l'.map iC) cap)) hg (show AObj.block C i (.cells _) = some (C.blk i) from rfl) hsz hoth (fun a ha hp => absurd hp (b4 a ha)) rfl fun he => by
    refine ⟨_, T, hat, b2, ?_, b4⟩
    unfold vec
    rw [flat_iC]
    have hcl : (l'.map iC).length = (l.map iC).length := by simp [hll]
    rw [hcl]
    exact RV.ofInts l' (hz2.ext he)
  have hsz2 : (putRow (Value.int .i64) (Sort.ahead w n) (C.blk i) 0 l'.toArray).heap.size ≤ (grow (putRow (Value.int .i64) (Sort.ahead w n) (C.blk i) 0 l'.toArray) os).heap.size := by simp [grow]
  have hold : ∀ k, k < (putRow (Value.int .i64) (Sort.ahead w n) (C.blk i) 0 l'.toArray).heap.size → (grow (putRow (Value.int .i64) (Sort.ahead w n) (C.blk i) 0 l'.toArray) os).heap[k]? = (putRow (Value.int .i64) (Sort.ahead w n) (C.blk i) 0 l'.toArray).heap[k]? := fun k hk => by
    show (_ ++ os)[k]? = _
    rw [Array.getElem?_append_left hk]
  obtain ⟨he2, hi2⟩ := hi1.grown hsz2 hold
  have hstp : Stp F w (grow (putRow (Value.int .i64) (Sort.ahead w n) (C.blk i) 0 l'.toArray) os) := by
    refine ⟨rfl, rfl, rfl, by rw [← hsz]; exact hsz2, fun k hk => ?_, fun a ha => ?_⟩
    · have hk2 := hi.base k hk
      rw [hold k (by rw [hsz]; exact hk2), hoth k (fun e => b2 (e ▸ hk))]
    · have h1 : World.frozen? (grow (putRow (Value.int .i64) (Sort.ahead w n) (C.blk i) 0 l'.toArray) os) a = World.frozen? (putRow (Value.int .i64) (Sort.ahead w n) (C.blk i) 0 l'.toArray) a := by
        unfold World.frozen?
        rw [hold a.block (by rw [hsz]; exact ha)]
      rw [h1, frozen?_putRow]; rfl
  refine hN _ _ ?_
  rw [put_eta]
  have hext := he1.trans he2
  rw [hdst]
  exact h F w0 C0 _ C _ (hgo.trans ⟨hstp, hext.weaken (fun _ _ => trivial), Nat.le_refl _, NewP.refl _ _⟩) hi2 (putFr_ok (dst := some d) (hfr.ext hext) hd (by simp only [RF, RFs]; exact ⟨[], rfl, rfl⟩))
end Go.Abs
/- The abstract layer, part Ai: an own array that is written no more; a call that leaves the world as it is. No condition. -/
namespace Go.Abs
set_option linter.unusedVariables false
set_option linter.unusedSimpArgs false
theorem AOps.freezeArr {E : Env} {ops : Array Oper} {l : List Oper} {K : Cont} {fr : Fr} {σ : St} (i : Id) (d : Nat) {s cap : Nat} {es : List (List AC)} (hg : σ.get i = some (.cells (vec s es cap))) (hl : ∀ x ∈ es, x.length = s) (hd : Fr.get d fr = some (.one (.arr i s 0 es.length cap)))
    (h : AOps E ops l K ((d, .one (.sl s es)) :: fr) (σ.set i .dead)) : AOps E ops l K fr σ := by
  intro F w0 C0 w C tmps hgo hi hf
  obtain ⟨h1, h2, h3⟩ := frz_run hi hf hg (fr' := []) trivial
  obtain ⟨hok, zs, T, b1, b2, b3, b4⟩ := hi.obj i _ hg
  refine h F w0 C0 w _ tmps (hgo.trans h1.toO) h2 ⟨hf.1, fun k x hk => ?_⟩
  simp only [Fr.get] at hk
  by_cases e : d = k
  · subst e
    simp at hk
    subst hk
    obtain ⟨u, hu, hr⟩ := hf.2 d _ hd
    simp only [RF, R, Nat.zero_mul] at hr
    refine ⟨u, hu, some ⟨C.blk i, 0, none⟩, cap, hr.2.1, hr.2.2, .inr ⟨_, rfl, rfl, ?_⟩⟩
    have hfl := flat_len hl
    have hzl := RV.length b3
    have hv : RV w (C.froze (C.blk i)) es.flatten (zs.take (es.length * s)) := by
      have := (b3.take (es.length * s)).ext h1.chg
      rwa [vec, List.take_append_of_le_length (by omega), List.take_of_length_le (by omega)] at this
    refine RS.ofVals 0 hl hv fun j v hj => ⟨?_, .inr rfl⟩
    have h2 : j < es.length * s := by have := (List.getElem?_eq_some_iff.1 hj).1; simp at this; omega
    rw [List.getElem?_take_of_lt h2] at hj
    rw [Nat.zero_add, cell_of_row _ _ _ _ _ _ b1]
    simpa using hj
  · rw [beq_no e] at hk
    obtain ⟨u, hu, hr⟩ := hf.2 k x hk
    exact ⟨u, hu, hr.ext h1.chg⟩
/-- A call whose contract leaves the world as it is. -/
theorem AOps.callNo {E : Env} {ops : Array Oper} {rest : List Oper} {o : Oper} {K : Cont} {fr : Fr} {σ : St} {d : Nat} {f : Operand} {args : Array Operand} {tys : Array TypeId} {g : Nat} {u : Value} (hgd : o.guard = none) (hdst : o.dst = some d) (hd : Nat.ble (d + 1) E.N = true)
    (ho : o.op = .call { callee := .value f, args := args, argTypes := tys }) (hf : aEval E.Γ fr f = some (.one (.fn (.func g) [] []))) (hargs : aEvals E.Γ fr args.toList = some [.one (.lit u)])
    (hcf : ∀ us (w : World), (callFunc g us).run E.P w = .ok (.enter g us) w) (hc : ∀ w : World, Calls E.P g #[u] w fun e w' => e = .returned (.tuple #[]) ∧ w' = w)
    (h : AOps E ops rest K ((d, .tup []) :: fr) σ) : AOps E ops (o :: rest) K fr σ := by
  intro F w0 C0 w C tmps hgo hi hfr
  refine wpList_plain hgd fun N' hN => ?_
  have hcallee := aEval_ok (a := ⟨tmps, []⟩) hi hfr hf
  simp only [RF, R] at hcallee
  obtain ⟨xs, ys, hfv, hx, hy⟩ := hcallee
  simp only [RV] at hx hy
  subst hx; subst hy
  have hvs := aEvals_ok (a := ⟨tmps, []⟩) hi hfr hargs
  simp only [RFs, RF, R] at hvs
  obtain ⟨v, us, hv, ⟨hv2, _⟩, hus⟩ := hvs
  subst hus
  rw [hv2] at hv
  have hrun : (execOp (Act.eval ⟨tmps, []⟩) o).run E.P w = .ok (.enter g #[u]) w := by
    unfold execOp
    simp only [ho, resolve, Sem.run_bind, hfv, Deferred.ofValue, Sem.run_pure, Result.andThen_ok, invoke, hcf]
    congr 2
    apply Array.ext'
    simpa using hv
  unfold Oper.wp
  rw [hrun, Oper.upon_enter]
  refine (hc w).mono fun e w' ⟨he, hw'⟩ => ?_
  subst he
  subst hw'
  refine hN _ _ ?_
  rw [put_eta]
  rw [hdst]
  exact h F w0 C0 w' C _ hgo hi (putFr_ok (dst := some d) hfr hd (by simp only [RF, RFs]; exact ⟨[], rfl, rfl⟩))
end Go.Abs
/- The abstract layer, part Aj: a call of a function that only computes a number or a truth value; own objects are lent to it, to be read. No condition. -/
namespace Go.Abs
set_option linter.unusedVariables false
set_option linter.unusedSimpArgs false
/-- A context in which no old cell is written. -/
def Ctx.still (C : Ctx) (w : World) : Ctx := ⟨fun a => a.block < w.heap.size, 0, C.no, C.phi, C.tk⟩
theorem Inv.stillChg {Γ : List (Nat × List AC)} {F : Nat → Prop} {w : World} {C : Ctx} {σ : St} (hi : Inv Γ F w C σ) : Chg isO w C w (C.still w) :=
  ⟨fun _ _ => rfl, fun a h => hi.prot a h, fun i hp hok => ⟨by cases i with | l k => cases hp | o k => exact hok, rfl, rfl⟩⟩
theorem Inv.forStill {Γ : List (Nat × List AC)} {F : Nat → Prop} {w : World} {C : Ctx} {σ : St} (hi : Inv Γ F w C σ) (hΓ : ∀ g cs, (g, cs) ∈ Γ → idsL isO cs) : Inv Γ (fun k => k < w.heap.size) w (C.still w) ⟨0, [], fun _ => none⟩ := by
  have hn : ∀ i, St.get ⟨0, [], fun _ => none⟩ i = none := fun i => by cases i <;> rfl
  exact ⟨fun _ h => h, rfl, fun g cs h => (hi.glob g cs h).chg hi.stillChg (hΓ g cs h), fun _ h => h, fun i o h => by (rw [hn] at h; cases h), fun i j o o' g h => by (rw [hn] at h; cases h)⟩
def LendF (σ : St) (x y : FV) : Prop := ∀ (Γ : List (Nat × List AC)) (F : Nat → Prop) (w : World) (C : Ctx) (v : Value), Inv Γ F w C σ → RF w C x v → RF w (C.still w) y v
def LendFs (σ : St) (xs ys : List FV) : Prop := ∀ (Γ : List (Nat × List AC)) (F : Nat → Prop) (w : World) (C : Ctx) (vs : List Value), Inv Γ F w C σ → RFs w C xs vs → RFs w (C.still w) ys vs
theorem LendF.of {σ : St} {x y : FV} (h : WkF x y) (hy : y.ids isO) : LendF σ x y := fun Γ F w C v hi hr => RF.chg hi.stillChg y v hy (h w C v hr)
theorem LendF.refl {σ : St} {x : FV} (hy : x.ids isO) : LendF σ x x := .of (.refl x) hy
theorem LendF.arr {σ : St} {i : Id} {s cap n : Nat} {es : List (List AC)} (hg : σ.get i = some (.cells (vec s es cap))) (hn : n = es.length) (hl : ∀ x ∈ es, x.length = s) (hids : idsS isO es) : LendF σ (.one (.arr i s 0 n cap)) (.one (.sl s es)) := by
  subst hn
  intro Γ F w C v hi hr
  obtain ⟨hok, zs, T, b1, b2, b3, b4⟩ := hi.obj i _ hg
  simp only [RF, R, Nat.zero_mul] at hr
  refine ⟨some ⟨C.blk i, 0, none⟩, cap, hr.2.1, hr.2.2, .inr ⟨_, rfl, rfl, ?_⟩⟩
  have hfl := flat_len hl
  have hzl := RV.length b3
  have hfi : idsL isO es.flatten := by
    clear hg hl hr hfl b3 hzl
    induction es with
    | nil => trivial
    | cons x es ih =>
      simp only [idsS] at hids
      rw [List.flatten_cons]
      exact idsL_iff.2 fun c hc => (List.mem_append.1 hc).elim (fun h => idsL_iff.1 hids.1 c h) fun h => idsL_iff.1 (ih hids.2) c h
  have hv : RV w (C.still w) es.flatten (zs.take (es.length * s)) := by
    refine RV.chg hi.stillChg _ _ hfi ?_
    have := b3.take (es.length * s)
    rwa [vec, List.take_append_of_le_length (by omega), List.take_of_length_le (by omega)] at this
  refine RS.ofVals 0 hl hv fun j v hj => ⟨?_, lt_of_heap b1⟩
  have h2 : j < es.length * s := by have := (List.getElem?_eq_some_iff.1 hj).1; simp at this; omega
  rw [List.getElem?_take_of_lt h2] at hj
  rw [Nat.zero_add, cell_of_row _ _ _ _ _ _ b1]
  simpa using hj
theorem LendF.ptr {σ : St} {i : Id} {off : Nat} {cs : List AC} (hg : σ.get i = some (.cells cs)) (hids : idsL isO cs) : LendF σ (.one (.ptr i off)) (.one (.box (cs.drop off))) := by
  intro Γ F w C v hi hr
  obtain ⟨hok, zs, T, b1, b2, b3, b4⟩ := hi.obj i _ hg
  simp only [RF, R] at hr
  refine ⟨⟨C.blk i, off, none⟩, hr.2, rfl, ?_⟩
  have h : RL w (C.still w) cs ⟨C.blk i, 0, none⟩ := by
    refine RL.of_new 0 (RV.chg hi.stillChg cs zs hids b3) (fun j v hj => ?_) (fun ad ha => ?_)
    · rw [Nat.zero_add, cell_of_row _ _ _ _ _ _ b1]
      simpa using hj
    · show ad.block < w.heap.size
      rw [ha]; exact lt_of_heap b1
  have := RL.drop off rfl h
  simpa using this
theorem LendFs.nil {σ : St} : LendFs σ [] [] := fun _ _ _ _ _ _ h => h
theorem LendFs.cons {σ : St} {x y : FV} {xs ys : List FV} (h : LendF σ x y) (k : LendFs σ xs ys) : LendFs σ (x :: xs) (y :: ys) := by
  intro Γ F w C vs hi hr
  simp only [RFs] at hr ⊢
  obtain ⟨v, us, rfl, h1, h2⟩ := hr
  exact ⟨v, us, rfl, h _ _ _ _ _ hi h1, k _ _ _ _ _ hi h2⟩
/-- What reads the same everywhere. -/
def Plain (r : FV) : Prop := ∀ (w w' : World) (C C' : Ctx) (v : Value), RF w C r v → RF w' C' r v
theorem Plain.lit (u : Value) : Plain (.one (.lit u)) := fun w w' C C' v h => by simpa only [RF, R] using h
theorem AStep.callS {E : Env} {o : Oper} {fr : Fr} {σ : St} {f : Operand} {args : Array Operand} {tys : Array TypeId} {g : Nat} {first caps : List AC} {vs ws : List FV} {r : FV}
    (hΓ : ∀ g cs, (g, cs) ∈ E.Γ → idsL isO cs) (hc : APure E.P E.Γ g ws r) (hp : Plain r) (ho : o.op = .call { callee := .value f, args := args, argTypes := tys })
    (hf : aEval E.Γ fr f = some (.one (.fn (.func g) first caps))) (hargs : aEvals E.Γ fr args.toList = some vs) (hw : LendFs σ (first.map .one ++ vs ++ caps.map .one) ws) : AStep E o fr σ r σ := by
  intro F w C tmps hi hfr next Q hk
  have hcallee := aEval_ok (a := ⟨tmps, []⟩) hi hfr hf
  simp only [RF, R] at hcallee
  obtain ⟨xs, ys, hfv, hx, hy⟩ := hcallee
  have hvs := aEvals_ok (a := ⟨tmps, []⟩) hi hfr hargs
  have hall : RFs w (C.still w) ws (xs ++ args.toList.map (Act.eval ⟨tmps, []⟩) ++ ys) := hw _ _ _ _ _ hi ((RFs.ones hx |>.append hvs).append (RFs.ones hy))
  have hrun : (execOp (Act.eval ⟨tmps, []⟩) o).run E.P w = .ok (.enter g (xs ++ args.toList.map (Act.eval ⟨tmps, []⟩) ++ ys).toArray) w := by
    unfold execOp
    simp only [ho, resolve, Sem.run_bind, hfv, Deferred.ofValue, Sem.run_pure, Result.andThen_ok, invoke, (hc σ.ou).1]
    congr 2
    apply Array.ext'
    simp
  unfold Oper.wp
  rw [hrun, Oper.upon_enter]
  refine ((hc fun _ => none).2 (fun k => k < w.heap.size) w (C.still w) _ rfl (hi.forStill hΓ) hall).mono fun e w' ⟨v, r', ou', C', he, hgo, h0, hi', hr, hQ1, hQ2⟩ => ?_
  subst he; subst hQ1
  obtain ⟨he, hi2⟩ := hi.grown hgo.stp.size (fun k hk => hgo.stp.block k hk)
  exact hk v w' C ⟨hgo.stp.mono fun k hk => hi.base k hk, he, Nat.le_refl _, NewP.refl _ _⟩ hi2 (hp _ _ _ _ _ hr)
/-- A call that only reads. -/
theorem AOps.callS {E : Env} {ops : Array Oper} {rest : List Oper} {o : Oper} {K : Cont} {fr : Fr} {σ : St} {d : Nat} {f : Operand} {args : Array Operand} {tys : Array TypeId} {g : Nat} {first caps : List AC} {vs ws : List FV} {r : FV}
    (hΓ : ∀ g cs, (g, cs) ∈ E.Γ → idsL isO cs) (hc : APure E.P E.Γ g ws r) (hp : Plain r) (hgd : o.guard = none) (hdst : o.dst = some d) (hd : Nat.ble (d + 1) E.N = true) (ho : o.op = .call { callee := .value f, args := args, argTypes := tys })
    (hf : aEval E.Γ fr f = some (.one (.fn (.func g) first caps))) (hargs : aEvals E.Γ fr args.toList = some vs) (hw : LendFs σ (first.map .one ++ vs ++ caps.map .one) ws)
    (h : AOps E ops rest K ((d, r) :: fr) σ) : AOps E ops (o :: rest) K fr σ :=
  AOps.step1 hgd hdst hd (AStep.callS hΓ hc hp ho hf hargs hw) h
end Go.Abs
/- The abstract layer, part Ak: parts of an own array, elements taken out of it in place, its tail cleared; an own array in a value that is written no more. No condition. -/
namespace Go.Abs
set_option linter.unusedVariables false
set_option linter.unusedSimpArgs false
/-- A bound that may be left out. -/
def optIs (Γ : List (Nat × List AC)) (fr : Fr) (x : Option Operand) (n d : Nat) : Prop := match x with
  | none => n = d
  | some y => ∃ k : IntKind, aEval Γ fr y = some (.one (.lit (.int k (n : Int))))
section
variable {E : Env} {o : Oper} {fr : Fr} {σ : St}
/-- A part of an own array. -/
theorem AStep.sliceOwn {t : TypeId} {ti tj : TI} {x : Operand} {lo hi mx : Option Operand} {i : Id} {s len cap a b c : Nat} (hT : TabOk E.P E.T) (ho : o.op = .slice t x lo hi mx) (ht : Tab.get t E.T = some ti) (hk : Nat.beq ti.kind 2 = true) (hj : Tab.get ti.elem E.T = some tj) (hs : Nat.beq tj.size s = true)
    (hx : aEval E.Γ fr x = some (.one (.arr i s 0 len cap))) (hlo : optIs E.Γ fr lo a 0) (hhi : optIs E.Γ fr hi b len) (hmx : optIs E.Γ fr mx c cap) (hm : mx.isSome = true → hi.isSome = true) (h1 : a ≤ b) (h2 : b ≤ c) (h3 : c ≤ cap) :
    AStep E o fr σ (.one (.arr i s (if c = a then 0 else a) (b - a) (c - a))) σ := by
  refine AStep.quiet fun F w C tmps hin hf => ?_
  have e1 := aEval_ok (a := ⟨tmps, []⟩) hin hf hx
  have ev : ∀ (y : Option Operand) (n d : Nat), optIs E.Γ fr y n d → (y = none ∧ n = d) ∨ ∃ z k, y = some z ∧ Act.eval ⟨tmps, []⟩ z = .int k (n : Int) := by
    intro y n d h
    cases y with
    | none => exact .inl ⟨rfl, h⟩
    | some z =>
      obtain ⟨k, hz⟩ := h
      have := aEval_ok (a := ⟨tmps, []⟩) hin hf hz
      simp only [RF, R] at this
      exact .inr ⟨z, k, rfl, this.1⟩
  have hu := (hT t ti ht).slice (Nat.eq_of_beq_eq_true hk)
  have hsz := (hT _ _ hj).run_sizeOf (w := w)
  have hs' : tj.size = s := Nat.eq_of_beq_eq_true hs
  simp only [RF, R, Nat.zero_mul] at e1
  obtain ⟨hok, hv, hcap⟩ := e1
  have hrun : (execOp (Act.eval ⟨tmps, []⟩) o).run E.P w = .ok (.value (.slice (if c = a then some ⟨C.blk i, 0, none⟩ else some (Addr.add ⟨C.blk i, 0, none⟩ (a * tj.size))) (b - a) (c - a))) w := by
    have h1' : (a : Int) ≤ (b : Int) := by omega
    have h2' : (b : Int) ≤ (c : Int) := by omega
    have h3' : (c : Int) ≤ (cap : Int) := by omega
    unfold execOp
    rcases ev lo a 0 hlo with ⟨rfl, rfl⟩ | ⟨z1, k1, rfl, q1⟩ <;> rcases ev hi b len hhi with ⟨rfl, rfl⟩ | ⟨z2, k2, rfl, q2⟩ <;> rcases ev mx c cap hmx with ⟨rfl, rfl⟩ | ⟨z3, k3, rfl, q3⟩ <;> simp_all [Instr.sliceAt, Instr.slice, run_underlying hu, hsz, Instr.sliceBounds, Instr.sliceBound, asIntOf, Result.andThen]
  refine ⟨_, hrun, hok, ?_, by omega⟩
  by_cases e : c = a
  · rw [if_pos e, if_pos e, Nat.zero_mul]
  · rw [if_neg e, if_neg e, hs', Addr.add_none rfl, Nat.zero_add]
end
section
variable {Γ : List (Nat × List AC)} {F : Nat → Prop} {w : World} {C : Ctx} {σ : St}
theorem RV.mapAny {w : World} {C : Ctx} {cs : List AC} {l : List Value} (h : RV w C cs l) (n : Nat) (hn : n ≤ cs.length) : RV w C (cs.take n ++ List.replicate (cs.length - n) .any) l := by
  have h1 := (h.take n).append (h.drop n).toAny
  rw [List.take_append_drop, List.length_drop] at h1
  exact h1
theorem vec_cut {w : World} {C : Ctx} {s cap a : Nat} {es : List (List AC)} {xs : List Value} (hel : ∀ x ∈ es, x.length = s) (hn : es.length ≤ cap) (ha : a ≤ es.length) (h : RV w C (vec s es cap) xs) : RV w C (vec s (es.take a) cap) xs := by
  have hl := vec_len hel hn
  have hta : ∀ x ∈ es.take a, x.length = s := fun x hx => hel x (List.mem_of_mem_take hx)
  have hfl := flat_len hta
  have hfe := flat_len hel
  have hle : a * s ≤ es.length * s := Nat.mul_le_mul_right _ ha
  have e1 : (es.take a).length = a := by simp; omega
  rw [e1] at hfl
  have h1 := h.mapAny (a * s) (by rw [hl]; exact Nat.mul_le_mul_right _ (by omega))
  have e2 : (vec s es cap).take (a * s) = (es.take a).flatten := by
    rw [vec, List.take_append_of_le_length (by omega)]
    conv => lhs; rw [← List.take_append_drop a es, List.flatten_append]
    rw [List.take_append_of_le_length (by omega), List.take_of_length_le (by omega)]
  rw [e2, hl] at h1
  unfold vec
  rw [e1, Nat.sub_mul]
  exact h1
/-- Elements further behind are moved to the front. -/
theorem Inv.closeUp (hi : Inv Γ F w C σ) {P : Program} {t ty e : TypeId} {tj : TI} (hsl : P.underlying t = some (.slice e)) (hj : TIOk P e tj) {i : Id} {s cap a off m cap2 : Nat} {es : List (List AC)} (hg : σ.get i = some (.cells (vec s es cap))) (hel : ∀ x ∈ es, x.length = s) (hn : es.length ≤ cap)
    (ha : a ≤ es.length) (hoff : m = 0 ∨ off + m ≤ es.length) (hs : tj.size = s) (hroom : a + m ≤ cap) :
    ∃ w', (Builtin.append_ #[t, t] ty #[.slice (some ⟨C.blk i, 0, none⟩) a cap, .slice (some ⟨C.blk i, off * s, none⟩) m cap2]).run P w = .ok (.slice (some ⟨C.blk i, 0, none⟩) (a + m) cap) w' ∧ Goes F (fun _ => True) w C w' C ∧ Inv Γ F w' C (σ.set i (.cells (vec s (es.take a ++ (es.drop off).take m) cap))) := by
  obtain ⟨i0, dd, z, g1, g2, g3, g4, g5, g6, g7, g8⟩ := hj.ex
  obtain ⟨hok, xs, T, o1, o2, o3, o4⟩ := hi.obj i _ hg
  have hxl : xs.length = cap * s := by rw [RV.length o3, vec_len hel hn]
  have hfe := flat_len hel
  obtain ⟨news, hnews⟩ : ∃ news, news = (es.drop off).take m := ⟨_, rfl⟩
  have hnel : ∀ x ∈ news, x.length = s := fun x hx => hel x (List.mem_of_mem_drop (List.mem_of_mem_take (hnews ▸ hx)))
  have hnlen : news.length = m := by rw [hnews]; simp; omega
  have hfn := flat_len hnel
  obtain ⟨nv, hnv⟩ : ∃ nv, nv = (xs.drop (off * s)).take (m * s) := ⟨_, rfl⟩
  have hnvl : nv.length = m * s := by
    rw [hnv]; simp
    rcases hoff with rfl | hoff
    · simp
    · have : (off + m) * s ≤ cap * s := Nat.mul_le_mul_right _ (by omega)
      rw [Nat.add_mul] at this
      omega
  have hnr : RV w C news.flatten nv := by
    rcases hoff with rfl | hoff
    · have : news = [] := List.length_eq_zero_iff.1 hnlen
      rw [this]
      have : nv = [] := List.length_eq_zero_iff.1 (by rw [hnvl]; simp)
      rw [this]; simp [RV]
    · have h1 := (o3.drop (off * s)).take (m * s)
      rw [← hnv] at h1
      have hle : (off + m) * s ≤ es.length * s := Nat.mul_le_mul_right _ hoff
      rw [Nat.add_mul] at hle
      have e2 : ((vec s es cap).drop (off * s)).take (m * s) = news.flatten := by
        rw [vec, List.drop_append_of_le_length (by omega), List.take_append_of_le_length (by rw [List.length_drop]; omega), hnews]
        have hd : ∀ (l : List (List AC)) (n : Nat), (∀ x ∈ l, x.length = s) → n ≤ l.length → l.flatten.drop (n * s) = (l.drop n).flatten := by
          intro l
          induction l with
          | nil => intro n _ hn; simp at hn; subst hn; simp
          | cons x l ih =>
            intro n h hn
            cases n with
            | zero => simp
            | succ n =>
              have hx := h x (by simp)
              rw [List.flatten_cons, List.drop_succ_cons, Nat.add_mul, Nat.one_mul, Nat.add_comm, ← hx, ← List.drop_drop, List.drop_left, hx]
              exact ih n (fun y hy => h y (by simp [hy])) (by simpa using hn)
        have htk : ∀ (l : List (List AC)) (n : Nat), (∀ x ∈ l, x.length = s) → n ≤ l.length → l.flatten.take (n * s) = (l.take n).flatten := by
          intro l n h hn
          have h1 := flat_len (fun x hx => h x (List.mem_of_mem_take (i := n) hx))
          have h2 : (l.take n).length = n := by simp; omega
          rw [h2] at h1
          conv => lhs; rw [← List.take_append_drop n l, List.flatten_append]
          rw [List.take_append_of_le_length (by omega), List.take_of_length_le (by omega)]
        rw [hd es off hel (by omega), htk _ m (fun x hx => hel x (List.mem_of_mem_drop hx)) (by simp; omega)]
      rw [e2] at h1
      exact h1
  have hnv1 : ∀ x ∈ nv, x.oneCell' = true := RV.one hnr
  have hfit : a * i0.size + nv.length ≤ xs.toArray.size := by
    rw [g3, hs, hnvl, ← Nat.add_mul]
    simp only [List.size_toArray, hxl]
    exact Nat.mul_le_mul_right _ hroom
  have hcell : ∀ j u, nv[j]? = some u → w.cell? ((⟨C.blk i, off * s, none⟩ : Addr).add j) = some u := fun j u hj2 => by
    rw [Addr.add_none rfl, cell_of_row _ _ _ _ _ _ o1]
    have h2 : j < m * s := by have := (List.getElem?_eq_some_iff.1 hj2).1; omega
    rw [hnv, List.getElem?_take_of_lt h2, List.getElem?_drop] at hj2
    simpa using hj2
  have hr := appendRoom (P := P) (w := w) t ty e T i0 hsl g1 (C.blk i) a cap xs.toArray o1 ⟨C.blk i, off * s, none⟩ m cap2 nv (by rw [hnvl, g3, hs]) hcell hnv1 hroom hfit
  rw [g3, hs] at hr
  simp only [List.toList_toArray] at hr
  have hta : ∀ x ∈ es.take a, x.length = s := fun x hx => hel x (List.mem_of_mem_take hx)
  have e1 : (es.take a).length = a := by simp; omega
  have o5 := vec_cut hel hn ha o3
  have hxe : RV w C (es.take a).flatten (xs.take ((es.take a).length * s)) := by
    have h1 := o5.take ((es.take a).length * s)
    have h2 := flat_len hta
    rwa [vec, List.take_append_of_le_length (by omega), List.take_of_length_le (by omega)] at h1
  have hrv := vec_put hta (by omega) hxe hnr (by rw [hnvl, hnlen]) o5
  rw [e1] at hrv
  obtain ⟨k1, k2, k3⟩ := hi.storeRow hg o1 hrv
  refine ⟨_, hr, ⟨k1, k2, Nat.le_refl _, NewP.refl _ _⟩, ?_⟩
  rw [← hnews]
  exact k3
/-- The tail of an own array is cleared. -/
theorem Inv.clearTail (hi : Inv Γ F w C σ) {P : Program} {t ty e : TypeId} {tj : TI} (hsl : P.underlying t = some (.slice e)) (hj : TIOk P e tj) {i : Id} {s cap off m cap2 : Nat} {es : List (List AC)} (hg : σ.get i = some (.cells (vec s es cap))) (hel : ∀ x ∈ es, x.length = s) (hn : es.length ≤ cap)
    (hoff : es.length ≤ off) (hs : tj.size = s) (hroom : off + (m + 1) ≤ cap) :
    ∃ w', (Builtin.clear_ #[t] ty #[.slice (some ⟨C.blk i, off * s, none⟩) (m + 1) cap2]).run P w = .ok (.tuple #[]) w' ∧ Goes F (fun _ => True) w C w' C ∧ Inv Γ F w' C (σ.set i (.cells (vec s es cap))) := by
  obtain ⟨z, g6, g5⟩ := hj.run_zero (w := w)
  obtain ⟨hok, xs, T, o1, o2, o3, o4⟩ := hi.obj i _ hg
  have hxl : xs.length = cap * s := by rw [RV.length o3, vec_len hel hn]
  have hone := hj.one
  rw [← g6] at hone
  have hzl : z.cells.size = tj.size := by have := hj.len; rw [← g6] at this; simpa using this
  obtain ⟨zs, hzs⟩ : ∃ zs, zs = (Builtin.zeroCells z.cells (m + 1)).toList := ⟨_, rfl⟩
  have hz1 : ∀ x ∈ zs, x.oneCell' = true := by rw [hzs]; exact zeroCells_one hone (by rw [hzl]; exact hj.pos) _
  have hzn : zs.length = (m + 1) * s := by rw [hzs, Array.length_toList, size_zeroCells, hzl, hs]
  have hle : (off + (m + 1)) * s ≤ cap * s := Nat.mul_le_mul_right _ hroom
  rw [Nat.add_mul] at hle
  have k2 := run_storeCells_at P (C.blk i) (off * s) T zs 0 xs.toArray w o1 (by simp only [List.size_toArray, Nat.add_zero, hzn, hxl]; exact hle) hz1
  rw [Nat.add_zero] at k2
  simp only [List.toList_toArray] at k2
  have hr : (Builtin.clear_ #[t] ty #[.slice (some ⟨C.blk i, off * s, none⟩) (m + 1) cap2]).run P w = .ok (.tuple #[]) (w.setRow (C.blk i) (xs.take (off * s) ++ zs ++ xs.drop (off * s + zs.length)).toArray) := by
    simp [Builtin.clear_, run_underlying hsl, g5, Result.andThen, ← hzs, k2]
  have hle2 : es.length * s ≤ off * s := Nat.mul_le_mul_right _ hoff
  have hfe := flat_len hel
  have hrv : RV w C (vec s es cap) (xs.take (off * s) ++ zs ++ xs.drop (off * s + zs.length)) := by
    have h1 : RV w C es.flatten (xs.take (es.length * s)) := by
      have := o3.take (es.length * s)
      rwa [vec, List.take_append_of_le_length (by omega), List.take_of_length_le (by omega)] at this
    have e3 : xs.take (off * s) ++ zs ++ xs.drop (off * s + zs.length) = xs.take (es.length * s) ++ ((xs.take (off * s)).drop (es.length * s) ++ zs ++ xs.drop (off * s + zs.length)) := by
      have e4 : xs.take (es.length * s) = (xs.take (off * s)).take (es.length * s) := by rw [List.take_take]; congr 1; omega
      rw [e4, ← List.append_assoc, ← List.append_assoc, List.take_append_drop]
    rw [e3]
    unfold vec
    refine h1.append ?_
    have e5 : (cap - es.length) * s = ((xs.take (off * s)).drop (es.length * s) ++ zs ++ xs.drop (off * s + zs.length)).length := by
      simp only [List.length_append, List.length_drop, List.length_take, hzn, hxl, Nat.sub_mul]
      omega
    rw [e5]
    have hx1 := RV.one o3
    refine RV.anys _ fun x hx => ?_
    simp only [List.mem_append] at hx
    rcases hx with (hx | hx) | hx
    · exact hx1 x (List.mem_of_mem_take (List.mem_of_mem_drop hx))
    · exact hz1 x hx
    · exact hx1 x (List.mem_of_mem_drop hx)
  obtain ⟨k1, k3, k4⟩ := hi.storeRow hg o1 hrv
  exact ⟨_, hr, ⟨k1, k3, Nat.le_refl _, NewP.refl _ _⟩, k4⟩
end
/-- The same as steps. -/
theorem AStep.closeUp {E : Env} {o : Oper} {fr : Fr} {σ : St} {t : TypeId} {ti tj : TI} {x y : Operand} {i : Id} {s cap a off m cap2 : Nat} {es : List (List AC)} (hT : TabOk E.P E.T) (ho : o.op = .call { callee := .builtin .append, args := #[x, y], argTypes := #[t, t] }) (ht : Tab.get t E.T = some ti) (hk : Nat.beq ti.kind 2 = true) (hj : Tab.get ti.elem E.T = some tj) (hs : Nat.beq tj.size s = true)
    (hx : aEval E.Γ fr x = some (.one (.arr i s 0 a cap))) (hy : aEval E.Γ fr y = some (.one (.arr i s off m cap2))) (hg : σ.get i = some (.cells (vec s es cap))) (hel : ∀ x ∈ es, x.length = s) (hn : es.length ≤ cap) (ha : a ≤ es.length) (hoff : m = 0 ∨ off + m ≤ es.length) (hroom : a + m ≤ cap) :
    AStep E o fr σ (.one (.arr i s 0 (a + m) cap)) (σ.set i (.cells (vec s (es.take a ++ (es.drop off).take m) cap))) := by
  intro F w C tmps hi hf next Q hk2
  have h1 := aEval_ok (a := ⟨tmps, []⟩) hi hf hx
  have h2 := aEval_ok (a := ⟨tmps, []⟩) hi hf hy
  simp only [RF, R, Nat.zero_mul] at h1 h2
  obtain ⟨w', hrun, hgo, hi'⟩ := hi.closeUp (ty := o.type) (cap2 := cap2) ((hT t ti ht).slice (Nat.eq_of_beq_eq_true hk)) (hT _ _ hj) hg hel hn ha hoff (Nat.eq_of_beq_eq_true hs) hroom
  have hex : (execOp (Act.eval ⟨tmps, []⟩) o).run E.P w = .ok (.value (.slice (some ⟨C.blk i, 0, none⟩) (a + m) cap)) w' := by
    unfold execOp
    simp only [ho, resolve, invoke, builtin, Sem.run_bind, Sem.run_pure, Result.andThen_ok, List.map_toArray, List.map_cons, List.map_nil, h1.2.1, h2.2.1, hrun]
  unfold Oper.wp
  rw [hex, Oper.upon_value]
  exact hk2 _ _ C hgo hi' (by simp only [RF, R, Nat.zero_mul]; exact ⟨h1.1, trivial, hroom⟩)
theorem AStep.clearTail {E : Env} {o : Oper} {fr : Fr} {σ : St} {t : TypeId} {ti tj : TI} {y : Operand} {i : Id} {s cap off m cap2 : Nat} {es : List (List AC)} (hT : TabOk E.P E.T) (ho : o.op = .call { callee := .builtin .clear, args := #[y], argTypes := #[t] }) (ht : Tab.get t E.T = some ti) (hk : Nat.beq ti.kind 2 = true) (hj : Tab.get ti.elem E.T = some tj) (hs : Nat.beq tj.size s = true)
    (hy : aEval E.Γ fr y = some (.one (.arr i s off m cap2))) (hm : 0 < m) (hg : σ.get i = some (.cells (vec s es cap))) (hel : ∀ x ∈ es, x.length = s) (hn : es.length ≤ cap) (hoff : es.length ≤ off) (hroom : off + m ≤ cap) :
    AStep E o fr σ (.tup []) (σ.set i (.cells (vec s es cap))) := by
  intro F w C tmps hi hf next Q hk2
  have h2 := aEval_ok (a := ⟨tmps, []⟩) hi hf hy
  simp only [RF, R] at h2
  obtain ⟨m, rfl⟩ : ∃ m', m = m' + 1 := ⟨m - 1, by omega⟩
  obtain ⟨w', hrun, hgo, hi'⟩ := hi.clearTail (ty := o.type) (cap2 := cap2) ((hT t ti ht).slice (Nat.eq_of_beq_eq_true hk)) (hT _ _ hj) hg hel hn hoff (Nat.eq_of_beq_eq_true hs) hroom
  have hex : (execOp (Act.eval ⟨tmps, []⟩) o).run E.P w = .ok (.value (.tuple #[])) w' := by
    unfold execOp
    simp only [ho, resolve, invoke, builtin, Sem.run_bind, Sem.run_pure, Result.andThen_ok, List.map_toArray, List.map_cons, List.map_nil, h2.2.1, hrun]
  unfold Oper.wp
  rw [hex, Oper.upon_value]
  exact hk2 _ _ C hgo hi' (by simp only [RF, RFs]; exact ⟨[], rfl, rfl⟩)
/-- An own array in a slot's value is written no more. -/
theorem RV.swap {w w' : World} {C C' : Ctx} (he : Ext w C w' C') {c c' : AC} (hc : ∀ v, R w C c v → R w' C' c' v) : ∀ {pre post : List AC} {xs : List Value}, RV w C (pre ++ c :: post) xs → RV w' C' (pre ++ c' :: post) xs
  | [], post, xs, h => by
    simp only [List.nil_append, RV] at h ⊢
    obtain ⟨v, us, rfl, h1, h2⟩ := h
    exact ⟨v, us, rfl, hc v h1, h2.ext he⟩
  | p :: pre, post, xs, h => by
    simp only [List.cons_append, RV] at h ⊢
    obtain ⟨v, us, rfl, h1, h2⟩ := h
    exact ⟨v, us, rfl, h1.ext he, RV.swap he hc h2⟩
theorem AOps.freezeAgg {E : Env} {ops : Array Oper} {l : List Oper} {K : Cont} {fr : Fr} {σ : St} (i : Id) (d : Nat) {s cap n : Nat} {es : List (List AC)} {pre post : List AC} (hg : σ.get i = some (.cells (vec s es cap))) (hl : ∀ x ∈ es, x.length = s) (hn : n = es.length) (hd : Fr.get d fr = some (.agg (pre ++ .arr i s 0 n cap :: post)))
    (h : AOps E ops l K ((d, .agg (pre ++ .sl s es :: post)) :: fr) (σ.set i .dead)) : AOps E ops l K fr σ := by
  subst hn
  intro F w0 C0 w C tmps hgo hi hf
  obtain ⟨h1, h2, h3⟩ := frz_run hi hf hg (fr' := []) trivial
  obtain ⟨hok, zs, T, b1, b2, b3, b4⟩ := hi.obj i _ hg
  have key : ∀ u, R w C (.arr i s 0 es.length cap) u → R w (C.froze (C.blk i)) (.sl s es) u := by
    intro u hr
    simp only [R, Nat.zero_mul] at hr
    refine ⟨some ⟨C.blk i, 0, none⟩, cap, hr.2.1, hr.2.2, .inr ⟨_, rfl, rfl, ?_⟩⟩
    have hfl := flat_len hl
    have hzl := RV.length b3
    have hv : RV w (C.froze (C.blk i)) es.flatten (zs.take (es.length * s)) := by
      have := (b3.take (es.length * s)).ext h1.chg
      rwa [vec, List.take_append_of_le_length (by omega), List.take_of_length_le (by omega)] at this
    refine RS.ofVals 0 hl hv fun j v hj => ⟨?_, .inr rfl⟩
    have h2 : j < es.length * s := by have := (List.getElem?_eq_some_iff.1 hj).1; simp at this; omega
    rw [List.getElem?_take_of_lt h2] at hj
    rw [Nat.zero_add, cell_of_row _ _ _ _ _ _ b1]
    simpa using hj
  refine h F w0 C0 w _ tmps (hgo.trans h1.toO) h2 ⟨hf.1, fun k x hk => ?_⟩
  simp only [Fr.get] at hk
  by_cases e : d = k
  · subst e
    simp at hk
    subst hk
    obtain ⟨u, hu, hr⟩ := hf.2 d _ hd
    simp only [RF] at hr
    obtain ⟨xs, rfl, hr⟩ := hr
    exact ⟨_, hu, xs, rfl, RV.swap h1.chg key hr⟩
  · rw [beq_no e] at hk
    obtain ⟨u, hu, hr⟩ := hf.2 k x hk
    exact ⟨u, hu, hr.ext h1.chg⟩
end Go.Abs
/- The abstract layer, part Al: a drawn head with calls of which not all is known; own arrays from nothing; an object of which less is said. No condition. -/
namespace Go.Abs
set_option linter.unusedVariables false
set_option linter.unusedSimpArgs false
theorem HStepR.mono {E : Env} {ops : Array Oper} {o : Oper} {fr : Fr} {σ : St} {P Q : FV → St → Prop} (h : HStepR E ops o fr σ P) (hq : ∀ v σ', P v σ' → Q v σ') : HStepR E ops o fr σ Q := by
  rcases h with ⟨v, σ', h1, h2⟩ | ⟨h1, h2⟩
  · exact .inl ⟨v, σ', h1, hq _ _ h2⟩
  · exact .inr ⟨h1, fun F w C tmps hi hf next Q' hk => h2 F w C tmps hi hf next Q' fun u w' C' v σ' hp => hk u w' C' v σ' (hq _ _ hp)⟩
section
variable {E : Env} {l : List Oper} {frb : Fr} {n : Nat} {K : Cont} {J : Array Bool → St → (Nat → Option FV) → Prop}
/-- Some operations of the head (S) turn the store or wait for one that does; M: in which states they leave it, and with which values. The others only read, and wait for none of them. -/
theorem ACode.drawSR {id : Nat} {fr : Fr} {σ0 : St} {hd tl : List Oper} (n : Nat) (S : List Nat) (vs : List FV) (M : (Nat → Option FV) → St → Prop) (hm : E.P.follows .mixedOrders = true) (hB : drawB l n = true) (hsp : splitO n l = some (hd, tl)) (hfb : Fr.woO (dsts hd) fr = some frb) (h0 : M (fun _ => none) σ0)
    (hM : ∀ f σ, M f σ → ∀ i, S.any (fun k => Nat.beq k i) = false → f i = none)
    (hq : ∀ i o, i < n → S.any (fun k => Nat.beq k i) = false → l[i]? = some o → ∃ v, vs[i]? = some v ∧ o.dst.isSome = true ∧ dstOk E.N o.dst = true ∧ (o.after.toList.all fun e => !Region.binds .any e || !(S.any fun k => Nat.beq k e.on)) = true ∧ ∀ f σ, M f σ → HStep E l.toArray o (depFr l vs o ++ frb) σ σ v)
    (hs : ∀ f σ i o, M f σ → S.any (fun k => Nat.beq k i) = true → l[i]? = some o → f i = none → (∀ e ∈ o.after.toList, Region.binds .any e = true → S.any (fun k => Nat.beq k e.on) = true → (f e.on).isSome = true) →
      o.dst.isSome = true ∧ dstOk E.N o.dst = true ∧ HStepR E l.toArray o (depFrJ l (mixV S vs f) o ++ frb) σ (fun v σ' => M (updV f i v) σ'))
    (htail : ∀ f σ, M f σ → (∀ i ∈ S, i < n → (f i).isSome = true) → AOps E l.toArray tl K (headFrJ (mixV S vs f) 0 hd ++ frb) σ) : ACode E (.region id l.toArray true) K fr σ0 := by
  obtain ⟨hsp1, hsp2⟩ := splitO_eq hsp
  subst hsp1; subst hsp2
  have depEq : ∀ (o : Oper) (v1 v2 : Nat → Option FV), (∀ e ∈ o.after.toList, Region.binds .any e = true → v1 e.on = v2 e.on) → depFrJ l v1 o = depFrJ l v2 o := fun o v1 v2 h => by
    unfold depFrJ
    refine filterMap_same fun e he => ?_
    cases hb : Region.binds .any e with
    | false => rfl
    | true => simp only [cond_true]; rw [h e he hb]
  refine ACode.drawJR n (fun listed σ vals => listed.size = l.length ∧ ∃ f, M f σ ∧ (∀ i, i < n → listed.getD i false = true → vals i = mixV S vs f i) ∧ (∀ i, S.any (fun k => Nat.beq k i) = true → listed.getD i false = (f i).isSome)) hm hB hfb
    ⟨by simp, _, h0, fun i _ h => absurd h (by rw [getD_replicate_false]; simp), fun i _ => by rw [getD_replicate_false]; rfl⟩ ?_ ?_
  · intro listed σ vals i o hi hlo hun hsz hall ⟨_, f, hMf, hv, hf⟩
    have hn : n < l.length := by
      have := hB
      simp only [drawB, Bool.and_eq_true, decide_eq_true_eq] at this
      exact this.1.1.1.1.1
    have hset : ∀ (v : FV) j, (listed.setIfInBounds i true).getD j false = if i = j then true else listed.getD j false := fun _ j => by
      by_cases e : i = j
      · subst e; simp [show i < listed.size by omega]
      · rw [getD_set_ne false e, if_neg e]
    have hlast : ∀ e ∈ o.after.toList, Region.binds .any e = true → e.on < n := fun e he hb => by
      have hB2 := hB
      simp only [drawB, Bool.and_eq_true, decide_eq_true_eq] at hB2
      have h1 := List.all_eq_true.1 hB2.2 (o, i) (by
        rw [List.mem_zipIdx_iff_getElem?]
        rw [List.getElem?_take_of_lt hi]
        simpa using hlo)
      have h2 := Array.all_eq_true_iff_forall_mem.1 h1 e (by simpa using he)
      simp only [hb, Bool.not_true, Bool.false_or, decide_eq_true_eq] at h2
      omega
    have hdj : depFrJ l vals o = depFrJ l (mixV S vs f) o := depEq o _ _ fun e he hb => hv e.on (hlast e he hb) (hall e he hb)
    rw [hdj]
    cases hS : S.any (fun k => Nat.beq k i) with
    | true =>
      have hfi : f i = none := by
        have := hf i hS
        rw [hun] at this
        cases h : f i with
        | none => rfl
        | some v => rw [h] at this; cases this
      obtain ⟨k1, k2, k3⟩ := hs f σ i o hMf hS hlo hfi fun e he hb hSe => by rw [← hf _ hSe]; exact hall e he hb
      refine ⟨k1, k2, k3.mono fun v σ' k4 => ⟨by simp [hsz], updV f i v, k4, fun j hj hlj => ?_, fun j hj => ?_⟩⟩
      · by_cases e : i = j
        · subst e
          simp [mixV, hS, updV]
        · rw [hset v, if_neg e] at hlj
          rw [updV, if_neg e, hv j hj hlj]
          simp only [mixV, updV, if_neg e]
      · rw [hset v]
        by_cases e : i = j
        · subst e; simp [updV]
        · simp only [if_neg e, updV]; exact hf j hj
    | false =>
      obtain ⟨v, q1, q2, q3, q4, q5⟩ := hq i o hi hS hlo
      have hdd : depFrJ l (mixV S vs f) o = depFr l vs o := by
        unfold depFrJ depFr
        refine filterMap_same fun e he => ?_
        cases hb : Region.binds .any e with
        | false => rfl
        | true =>
          have h1 := List.all_eq_true.1 q4 e he
          rw [hb] at h1
          simp only [Bool.not_true, Bool.false_or, Bool.not_eq_true'] at h1
          simp only [cond_true, mixV, h1, cond_false]
          rfl
      rw [hdd]
      refine ⟨q2, q3, .inl ⟨v, σ, q5 f σ hMf, by simp [hsz], f, hMf, fun j hj hlj => ?_, fun j hj => ?_⟩⟩
      · by_cases e : i = j
        · subst e
          rw [updV, if_pos rfl]; simp only [mixV, hS, cond_false]; exact q1.symm
        · rw [hset v, if_neg e] at hlj
          rw [updV, if_neg e, hv j hj hlj]
      · rw [hset v]
        by_cases e : i = j
        · subst e; rw [hS] at hj; cases hj
        · simp only [if_neg e]; exact hf j hj
  · intro σ vals ⟨_, f, hMf, hv, hf⟩
    have hn : n < l.length := by
      have := hB
      simp only [drawB, Bool.and_eq_true, decide_eq_true_eq] at this
      exact this.1.1.1.1.1
    have hl : ∀ j, j < n → (listedTo l.length n).getD j false = true := fun j hj => by
      have : j < (listedTo l.length n).size := by simp [listedTo]; omega
      simp [listedTo, show j < l.length by omega, hj]
    have heq : headFrJ vals 0 (l.take n) = headFrJ (mixV S vs f) 0 (l.take n) := by
      have : ∀ (os : List Oper) (k : Nat), k + os.length ≤ n → headFrJ vals k os = headFrJ (mixV S vs f) k os := by
        intro os
        induction os with
        | nil => intro k _; rfl
        | cons o os ih =>
          intro k hk
          simp only [List.length_cons] at hk
          simp only [headFrJ]
          rw [hv k (by omega) (hl k (by omega)), ih (k + 1) (by omega)]
      exact this _ 0 (by simp; omega)
    rw [heq]
    exact htail f σ hMf fun i hi hin => by
      rw [← hf i (List.any_eq_true.2 ⟨i, hi, beq_self i⟩)]
      exact hl i hin

end
/-- A step that leaves one of some states. -/
theorem AOps.stepR {E : Env} {ops : Array Oper} {rest : List Oper} {o : Oper} {K : Cont} {fr : Fr} {σ : St} {d : Nat} {P : FV → St → Prop} (hgd : o.guard = none) (hdst : o.dst = some d) (hd : Nat.ble (d + 1) E.N = true) (hs : AStepR E o fr σ P) (h : ∀ v σ', P v σ' → AOps E ops rest K ((d, v) :: fr) σ') : AOps E ops (o :: rest) K fr σ := by
  intro F w0 C0 w C tmps hg hi hf
  refine wpList_plain hgd fun N' hN => ?_
  refine hs F w C tmps hi hf _ _ fun u w' C' v σ' hp hgo hi' hr => ?_
  refine hN _ _ ?_
  rw [hdst]
  exact h v σ' hp F w0 C0 w' C' _ (hg.trans hgo.toO) hi' (putFr_ok (dst := some d) (hf.ext hgo.chg) hd hr)
/-- An object of which less is said. -/
theorem AOps.wkObj {E : Env} {ops : Array Oper} {l : List Oper} {K : Cont} {fr : Fr} {σ : St} (i : Id) {cs cs' : List AC} (hg : σ.get i = some (.cells cs)) (hw : ∀ (w : World) (C : Ctx) (xs : List Value), RV w C cs xs → RV w C cs' xs) (h : AOps E ops l K fr (σ.set i (.cells cs'))) : AOps E ops l K fr σ := by
  intro F w0 C0 w C tmps hgo hi hf
  obtain ⟨hok, xs, T, o1, o2, o3, o4⟩ := hi.obj i _ hg
  obtain ⟨he, hi'⟩ := hi.turn hg (g := C.blk i) rfl (w' := w) rfl (fun _ _ => rfl) (fun _ _ _ => rfl) (o' := .cells cs') rfl fun _ => ⟨xs, T, o1, o2, hw w C xs o3, o4⟩
  exact h F w0 C0 w C tmps hgo hi' hf
/-- An own array without room. -/
theorem AStep.buildOwn0 {E : Env} {o : Oper} {fr : Fr} {σ : St} {t : TypeId} {ti tj : TI} {s : Nat} (hT : TabOk E.P E.T) (ho : o.op = .buildSlice t 0 #[]) (ht : Tab.get t E.T = some ti) (hk : Nat.beq ti.kind 2 = true) (hj : Tab.get ti.elem E.T = some tj) (hs : tj.size = s) :
    AStep E o fr σ (.one (.arr (.l σ.n) s 0 0 0)) (σ.push (.cells (vec s [] 0))) := by
  intro F w C tmps hi hf next Q hk2
  have hsl := (hT t ti ht).slice (Nat.eq_of_beq_eq_true hk)
  have hsz := (hT _ _ hj).run_sizeOf w
  have hrun : (execOp (Act.eval ⟨tmps, []⟩) o).run E.P w = .ok (.value (.slice (some ⟨w.heap.size, 0, none⟩) 0 0)) (w.alloc (.cells #[] ti.elem)) := by
    unfold execOp
    simp only [ho]
    simp [Instr.buildSlice, run_underlying hsl, hsz, Instr.fill, newRow, Array.range_zero']
  obtain ⟨C', he, hno, hnp, hin, hok, hblk⟩ := hi.newObj (cs := vec s [] 0) (xs := []) (by simp [vec, RV]) ti.elem
  unfold Oper.wp
  rw [hrun, Oper.upon_value]
  exact hk2 _ _ C' ⟨Stp.alloc hi.base _ _, he, Nat.le_of_eq hno.symm, hnp⟩ hin (by simp only [RF, R]; exact ⟨hok, by rw [hblk, Nat.zero_mul], Nat.le_refl _⟩)
/-- An append of nothing. -/
theorem AStep.appNone {E : Env} {o : Oper} {fr : Fr} {σ : St} {t : TypeId} {ti tj : TI} {x y : Operand} {i : Id} {s n cap : Nat} (hT : TabOk E.P E.T) (ho : o.op = .call { callee := .builtin .append, args := #[x, y], argTypes := #[t, t] }) (ht : Tab.get t E.T = some ti) (hk : Nat.beq ti.kind 2 = true) (hj : Tab.get ti.elem E.T = some tj)
    (hx : aEval E.Γ fr x = some (.one (.arr i s 0 n cap))) (hy : aEval E.Γ fr y = some (.one (.sl s []))) : AStep E o fr σ (.one (.arr i s 0 n cap)) σ := by
  refine AStep.quiet fun F w C tmps hi hf => ?_
  have h1 := aEval_ok (a := ⟨tmps, []⟩) hi hf hx
  have h2 := aEval_ok (a := ⟨tmps, []⟩) hi hf hy
  simp only [RF, R, Nat.zero_mul] at h1 h2
  obtain ⟨hok, hv, hc⟩ := h1
  obtain ⟨a, c, hv2, _, _⟩ := h2
  have hu := (hT t ti ht).slice (Nat.eq_of_beq_eq_true hk)
  obtain ⟨i0, dd, z, g1, g2, g3, g4, g5, g6, g7, g8⟩ := (hT _ _ hj).ex
  refine ⟨.slice (some ⟨C.blk i, 0, none⟩) n cap, ?_, by simp only [RF, R, Nat.zero_mul]; exact ⟨hok, trivial, hc⟩⟩
  unfold execOp
  simp only [ho, resolve, invoke, builtin, Sem.run_bind, Sem.run_pure, Result.andThen_ok, List.map_toArray, List.map_cons, List.map_nil, hv, hv2]
  cases a with
  | none => simp [Builtin.append_, run_underlying hu, sizeOf, typeInfo, g1, Builtin.lenOf, Builtin.firstCells, hc, storeCells]
  | some a => simp [Builtin.append_, run_underlying hu, sizeOf, typeInfo, g1, Builtin.lenOf, Builtin.firstCells, hc, storeCells, loadCells, loadCellsFrom]
/-- Outer objects that are forgotten at the end. -/
theorem AOps.dropO {E : Env} {ops : Array Oper} {rest : List Oper} {K : Cont} {fr : Fr} {n : Nat} {lo : List (Nat × AObj)} {ou ou' : Outer} (hs : ∀ k o, ou k = some o → ou' k = some o) (h : AOps E ops rest K fr ⟨n, lo, ou⟩) : AOps E ops rest K fr ⟨n, lo, ou'⟩ := by
  refine AOps.lessO ⟨n, lo, ou⟩ rfl (fun i o hi => ?_) h
  cases i with
  | l k => exact hi
  | o k => exact hs k o hi
end Go.Abs
/- The abstract layer, part Am: a value boxed and written no more; the bits of numbers. No condition. -/
namespace Go.Abs
set_option linter.unusedVariables false
set_option linter.unusedSimpArgs false
/-- A new box that nobody writes. -/
theorem AStep.boxI {E : Env} {o : Oper} {fr : Fr} {σ : St} {t : TypeId} {x : Operand} {cs : List AC} (ho : o.op = .box t x) (hx : aEval E.Γ fr x = some (.agg cs)) : AStep E o fr σ (.one (.box cs)) σ := by
  intro F w C tmps hi hf next Q hk
  have h1 := aEval_ok (a := ⟨tmps, []⟩) hi hf hx
  simp only [RF] at h1
  obtain ⟨xs, hv, hr⟩ := h1
  obtain ⟨C', he, hno, hnp, hin, hpr⟩ := hi.newRow xs t
  have hrun : (execOp (Act.eval ⟨tmps, []⟩) o).run E.P w = .ok (.value (.pointer (some ⟨w.heap.size, 0, none⟩))) (w.alloc (.cells xs.toArray t)) := by
    unfold execOp
    simp only [ho, hv]
    simp [Instr.box, newVar, newRow, Value.cells]
  unfold Oper.wp
  rw [hrun, Oper.upon_value]
  refine hk _ _ C' ⟨Stp.alloc hi.base _ _, he, Nat.le_of_eq hno.symm, hnp⟩ hin ?_
  simp only [RF, R]
  refine ⟨⟨w.heap.size, 0, none⟩, rfl, rfl, RL.of_new 0 (hr.ext he) (fun j v hj => ?_) hpr⟩
  rw [Nat.zero_add, cell_of_row _ _ _ _ _ _ (heap_alloc_new w _)]
  simpa using hj
/-- Bits. -/
def bI (v : BitVec 64) : Int := IntKind.i64.wrap v.toNat
def orI (a b : Int) : Int := bI (BitVec.ofInt 64 a ||| BitVec.ofInt 64 b)
def anI (a b : Int) : Int := bI (BitVec.ofInt 64 a &&& ~~~BitVec.ofInt 64 b)
theorem ofInt_bI (v : BitVec 64) : BitVec.ofInt 64 (bI v) = v := by
  apply BitVec.eq_of_toInt_eq
  rw [BitVec.toInt_ofInt]
  unfold bI
  have h1 := v.isLt
  rw [BitVec.toInt_eq_toNat_bmod]
  simp [IntKind.wrap, IntKind.signed, IntKind.bits, Int.bmod]
  omega
/-- All bits of the one are bits of the other. -/
def subI (a b : Int) : Prop := BitVec.ofInt 64 a &&& ~~~BitVec.ofInt 64 b = 0#64
theorem subI.an {a b : Int} (h : subI a b) : anI a b = 0 := by
  unfold anI; rw [h]; decide
theorem bv_sub {a b : BitVec 64} : a &&& ~~~b = 0#64 ↔ a ||| b = b := by
  constructor
  · intro h
    ext i hi
    have := congrArg (fun v : BitVec 64 => v.getLsbD i) h
    simp [hi] at this ⊢
    simp only [← BitVec.getLsbD_eq_getElem] at *
    cases ha : a.getLsbD i <;> simp_all
  · intro h
    ext i hi
    have := congrArg (fun v : BitVec 64 => v.getLsbD i) h
    simp [hi] at this ⊢
    simp only [← BitVec.getLsbD_eq_getElem] at *
    cases ha : a.getLsbD i <;> simp_all
theorem subI.or_l (a b : Int) : subI a (orI a b) := by
  unfold subI orI
  rw [ofInt_bI, bv_sub, ← BitVec.or_assoc, BitVec.or_self]
theorem subI.or_r (a b : Int) : subI b (orI a b) := by
  unfold subI orI
  rw [ofInt_bI, bv_sub, BitVec.or_comm (BitVec.ofInt 64 a), ← BitVec.or_assoc, BitVec.or_self]
theorem subI.trans {a b c : Int} (h : subI a b) (k : subI b c) : subI a c := by
  unfold subI at *
  rw [bv_sub] at *
  rw [← k, ← BitVec.or_assoc, h]
theorem subI.zero (b : Int) : subI 0 b := by unfold subI; simp
section
variable {E : Env} {o : Oper} {fr : Fr} {σ : St}
theorem AStep.or {t yt : TypeId} {x y : Operand} {a b : Int} (ho : o.op = .binOp .or t x y yt) (hx : aEval E.Γ fr x = some (.one (.lit (.int .i64 a)))) (hy : aEval E.Γ fr y = some (.one (.lit (.int .i64 b)))) : AStep E o fr σ (.one (.lit (.int .i64 (orI a b)))) σ := by
  refine AStep.quiet fun F w C tmps hi hf => ⟨.int .i64 (orI a b), ?_, rfl, rfl⟩
  have h1 := aEval_ok (a := ⟨tmps, []⟩) hi hf hx
  have h2 := aEval_ok (a := ⟨tmps, []⟩) hi hf hy
  simp only [RF, R] at h1 h2
  unfold execOp
  simp only [ho, h1.1, h2.1, eqGuard_at_int, Sem.run_bind, Sem.run_pure, Result.andThen_ok]
  rfl
theorem AStep.andNot {t yt : TypeId} {x y : Operand} {a b : Int} (ho : o.op = .binOp .andNot t x y yt) (hx : aEval E.Γ fr x = some (.one (.lit (.int .i64 a)))) (hy : aEval E.Γ fr y = some (.one (.lit (.int .i64 b)))) : AStep E o fr σ (.one (.lit (.int .i64 (anI a b)))) σ := by
  refine AStep.quiet fun F w C tmps hi hf => ⟨.int .i64 (anI a b), ?_, rfl, rfl⟩
  have h1 := aEval_ok (a := ⟨tmps, []⟩) hi hf hx
  have h2 := aEval_ok (a := ⟨tmps, []⟩) hi hf hy
  simp only [RF, R] at h1 h2
  unfold execOp
  simp only [ho, h1.1, h2.1, eqGuard_at_int, Sem.run_bind, Sem.run_pure, Result.andThen_ok]
  rfl
end
end Go.Abs
/- Core expressions as plain data: lists, trees, and what the functions of the package compute. No condition. -/
namespace Go.CoreX
/-- An alternative, a node, a tree. -/
structure Alt where
  tag : Int
  binds : List Int
  deriving DecidableEq
structure Ex where
  op : Int
  n : Int
  binds : List Int
  kids : List Int
  alts : List Alt
  deriving DecidableEq
inductive Tr where
  | mk (op n : Int) (binds : List Int) (kids : List Tr) (alts : List Alt)
instance : Inhabited Tr := ⟨.mk 0 0 [] [] []⟩
def Tr.op : Tr → Int | .mk o _ _ _ _ => o
def Tr.n : Tr → Int | .mk _ n _ _ _ => n
def Tr.binds : Tr → List Int | .mk _ _ b _ _ => b
def Tr.kids : Tr → List Tr | .mk _ _ _ k _ => k
def Tr.alts : Tr → List Alt | .mk _ _ _ _ a => a
@[simp] theorem Tr.op_mk (o n b k a) : (Tr.mk o n b k a).op = o := rfl
@[simp] theorem Tr.n_mk (o n b k a) : (Tr.mk o n b k a).n = n := rfl
@[simp] theorem Tr.binds_mk (o n b k a) : (Tr.mk o n b k a).binds = b := rfl
@[simp] theorem Tr.kids_mk (o n b k a) : (Tr.mk o n b k a).kids = k := rfl
@[simp] theorem Tr.alts_mk (o n b k a) : (Tr.mk o n b k a).alts = a := rfl

/-- The trees of the first nodes. -/
def nodeOf (ts : List Tr) (x : Ex) : Tr := .mk x.op x.n x.binds (x.kids.map fun k => ts.getD k.toNat default) x.alts
def growStep (ts : List Tr) (x : Ex) : List Tr := ts ++ [nodeOf ts x]
def growL (e : List Ex) : List Tr := e.foldl growStep []
def grow (e : List Ex) : Tr := (growL e).getD (e.length - 1) default

mutual
def listT (out : List Ex) : Tr → List Ex
  | .mk o n b k a => (listTs out k).1 ++ [⟨o, n, b, (listTs out k).2, a⟩]
def listTs (out : List Ex) : List Tr → List Ex × List Int
  | [] => (out, [])
  | t :: ts => ((listTs (listT out t) ts).1, (((listT out t).length : Int) - 1) :: (listTs (listT out t) ts).2)
end

/-- What a node binds itself, and in its kid k. -/
def bindersN (op : Int) (binds : List Int) (alts : List Alt) : List Int := (if op = 2 ∨ op = 4 ∨ op = 5 then binds else []) ++ alts.flatMap (·.binds)
def boundN (op : Int) (binds : List Int) (alts : List Alt) (k : Int) : List Int :=
  if op = 2 ∨ op = 5 ∨ (op = 4 ∧ k = 1) then binds else if 0 < (alts.length : Int) ∧ 0 < k ∧ k ≤ alts.length then (alts.getD (k - 1).toNat ⟨0, []⟩).binds else []

/-- treeError. -/
def kidStep (i : Nat) (s : Option (List Int × List Int)) (k : Int) : Option (List Int × List Int) :=
  s.bind fun dp => if k < 0 ∨ (i : Int) ≤ k then none else some (dp.1.set i (if dp.1.getD k.toNat 0 > dp.1.getD i 0 then dp.1.getD k.toNat 0 else dp.1.getD i 0), dp.2.set k.toNat (dp.2.getD k.toNat 0 + 1))
def nodeStep (s : Option (List Int × List Int)) (x : Ex × Nat) : Option (List Int × List Int) :=
  (x.1.kids.foldl (kidStep x.2) s).map fun dp => (dp.1.set x.2 (dp.1.getD x.2 0 + 1), dp.2)
def treeRun (e : List Ex) : Option (List Int × List Int) := e.zipIdx.foldl nodeStep (some (List.replicate e.length 0, List.replicate e.length 0))
def oddParent (n : Nat) (p : List Int) (i : Nat) : Bool := !((p.getD i 0 == 1) == decide ((i : Int) < n - 1))
def treeErr (e : List Ex) : Int :=
  if 4096 < e.length then 2 else if e.length = 0 then 3 else
  match treeRun e with
  | none => 3
  | some (d, p) => if (List.range e.length).any (oddParent e.length p) = true then 3 else if 400 < d.getD (e.length - 1) 0 then 2 else 0

/-- nodeError. -/
def between (n low high : Int) : Bool := decide (low ≤ n) && decide (n ≤ high)
def flatOnly (op : Int) : Bool := op == 14 || op == 15 || op == 16
def coreOnly (op : Int) : Bool := op == 2 || op == 5 || op == 12 || op == 13
def altBad (x : Ex) (i : Nat) (a : Alt) : Bool :=
  ((x.alts.take i).any (fun b => b.tag == a.tag) || decide (a.tag < -1)) ||
  (x.op == 7 && a.tag == -1 && (decide ((i : Int) < x.alts.length - 1) || decide (0 < a.binds.length))) ||
  ((x.op == 13 && !(((i : Int) == 0) == (a.tag == -1))) || (x.op == 13 && !((a.binds.length : Int) == (if 2 < (i : Int) + 1 then 2 else (i : Int) + 1))))
def altsOk (x : Ex) : Bool := !(x.alts.zipIdx.any fun ai => altBad x ai.2 ai.1) && ((x.kids.length : Int) == 1 + x.alts.length && (x.op == 7 || decide (0 < x.alts.length)))
def arityL : List Int := [2, 2, 2, 2, 2, 2, 2, 1, 2, 1, 2, 3]
/-- The numbers of kids and identifiers, and whether N is used. -/
def wants (x : Ex) : Option (Int × Int × Bool) :=
  if x.op = 0 ∨ x.op = 1 ∨ x.op = 17 then some (0, 0, true) else
  if x.op = 2 then some (1, x.binds.length, false) else
  if x.op = 3 then some (if (x.kids.length : Int) > 1 then x.kids.length else 1, 0, false) else
  if x.op = 4 then some (2, 1, false) else
  if x.op = 5 then some (x.binds.length + 1, if (x.binds.length : Int) > 1 then x.binds.length else 1, false) else
  if x.op = 6 then some (x.kids.length, 0, true) else
  if x.op = 8 then (if between x.n 0 11 = true then some (arityL.getD x.n.toNat 0, 0, true) else none) else
  if x.op = 9 then some (x.binds.length, x.binds.length, false) else
  if x.op = 10 ∨ x.op = 12 then some (1, 0, true) else
  if x.op = 11 then some (2, 0, true) else
  if x.op = 14 ∨ x.op = 15 then some (x.kids.length, 0, true) else
  if x.op = 16 then some (1, 0, true) else none
def shape (x : Ex) : Bool :=
  if x.op = 7 ∨ x.op = 13 then altsOk x && x.binds.length == 0 && x.n == 0 else
  match wants x with
  | none => false
  | some (k, b, u) => (x.kids.length : Int) == k && (x.binds.length : Int) == b && x.alts.length == 0 && (u || x.n == 0)
def lowN (op : Int) : Int := if op = 1 then -1073741824 else if op = 17 then 1 else 0
def highN (op : Int) : Int := if op = 1 then 1073741823 else if op = 6 then 255 else if op = 17 then 6 else if op = 16 then 15 else 1048575
def identOk (n : Int) : Bool := between n 0 1048575
def altRange (op : Int) (a : Alt) : Bool := !((decide (255 < a.tag) && op == 7) || decide (1048576 ≤ a.tag)) && a.binds.all identOk
def fields (x : Ex) : Int := x.alts.foldl (fun f a => if (a.binds.length : Int) > f then a.binds.length else f) x.binds.length
def ranges (x : Ex) : Int :=
  if between x.n (lowN x.op) (highN x.op) = false then 4 else
  if x.binds.all identOk = false then 4 else
  if x.alts.all (altRange x.op) = false then 4 else
  if ((decide (fields x > (if x.op = 2 then 6 else 16)) || ((x.op == 6 || x.op == 15) && decide (16 < (x.kids.length : Int)))) || (x.op == 3 && decide (7 < (x.kids.length : Int)))) || (x.op == 14 && decide (6 < (x.kids.length : Int))) then 2 else 0
def bindBad (e : List Ex) (x : Ex) (i : Nat) : Bool :=
  (x.op == 5 && !((e.getD (x.kids.getD i 0).toNat ⟨0, 0, [], [], []⟩).op == 2)) || (x.op == 9 && decide (0 < i) && decide (x.binds.getD (i - 1) 0 ≥ x.binds.getD i 0))
def nodeErr (e : List Ex) (x : Ex) : Int :=
  if shape x = false then 3 else if ranges x ≠ 0 then ranges x else if (List.range x.binds.length).any (bindBad e x) = true then 3 else 0
def nodeErrF (flat : Bool) (e : List Ex) (x : Ex) : Int := if (flat && coreOnly x.op) || (!flat && flatOnly x.op) then 3 else nodeErr e x
def firstErr {α : Type} (f : α → Int) : List α → Int
  | [] => 0
  | a :: l => if f a ≠ 0 then f a else firstErr f l

/-- twice. -/
def hasDup : List Int → Bool
  | [] => false
  | n :: l => l.contains n || hasDup l
def exBinders (x : Ex) : List Int := bindersN x.op x.binds x.alts
def allBinders (e : List Ex) : List Int := e.flatMap exBinders

mutual
def occT (sc : List Int) : Tr → List Int
  | .mk o n b k a => (if o = 0 ∧ sc.contains n = false then [n] else []) ++ occTs sc o b a 0 k
def occTs (sc : List Int) (o : Int) (b : List Int) (a : List Alt) : Nat → List Tr → List Int
  | _, [] => []
  | i, t :: ts => occT (boundN o b a i ++ sc) t ++ occTs sc o b a (i + 1) ts
end
def insertS (n : Int) : List Int → List Int
  | [] => [n]
  | m :: l => if n < m then n :: m :: l else if n = m then m :: l else m :: insertS n l
def sortS (l : List Int) : List Int := l.foldr insertS []
def freeOf (t : Tr) : List Int := sortS (occT [] t)

/-- Body and Check. -/
def body (e : List Ex) (params : List Int) (flat : Bool) : Int :=
  if treeErr e ≠ 0 then treeErr e else
  if firstErr (nodeErrF flat e) e ≠ 0 then firstErr (nodeErrF flat e) e else
  if hasDup (params ++ allBinders e) = true then 7 else
  if (freeOf (grow e)).all (fun n => params.contains n) = true then 0 else 6
def check (e : List Ex) : Int := body e [] false
end Go.CoreX
