/- The abstract layer, part Ad: maps whose values are found or zero, values that take no memory, tests for nil, truth values compared. No condition. -/
import Derived.Test.YtnonkoeknpmcjaaDoorB4
import Derived.Laws.Cover3
import Derived.Sort.Row
import Derived.Sort.Grow
namespace Go.Abs
open Go.MapKept
set_option linter.unusedVariables false
set_option linter.unusedSimpArgs false
section
variable {E : Env} {o : Oper} {fr : Fr} {σ : St}
/-- A look into a map, with or without its 'ok'. -/
theorem AStep.lookupZ {t kt et : TypeId} {d : TypeDesc} {x i : Operand} {m : Id} {ck : Nat} {es : List (Nat × Value × FV)} {u zv : Value} {z v : FV} {cm : Bool} (ho : o.op = .lookup t x i cm) (hm : E.P.underlying t = some (.map kt et)) (hd : E.P.underlying kt = some d)
    (hx : aEval E.Γ fr x = some (.one (.mp m))) (hg : σ.get m = some (.map ck es)) (hu : aEval E.Γ fr i = some (.one (.lit u))) (hku : IsKey d u) (hks : KeysOk d es) (hzv : (E.P.info? et).map (·.zero) = some (some zv)) (hz : ∀ w C, RF w C z zv) (hv : (match mFind u es with | some v => v | none => z) = v) :
    AStep E o fr σ (if cm = true then .tup [v, .one (.lit (.bool (mFind u es).isSome))] else v) σ := by
  refine AStep.quiet fun F w C tmps hi hf => ?_
  have h1 := aEval_ok (a := ⟨tmps, []⟩) hi hf hx
  have h2 := aEval_ok (a := ⟨tmps, []⟩) hi hf hu
  simp only [RF, R] at h1 h2
  obtain ⟨hok, ents, he, _, hrm⟩ := hi.obj m _ hg
  have hzr : (zeroValue et).run E.P w = .ok zv w := zeroRun hzv
  have hzf : RF w C z zv := hz w C
  rcases findNow_ok hku 0 hrm hks with ⟨a1, a2, a3⟩ | ⟨j, e, v0, a1, a2, a3, a4, a5, a6⟩
  · rw [a1] at hv ⊢
    simp only at hv
    subst hv
    cases cm with
    | true =>
      refine ⟨.tuple #[zv, .bool false], ?_, [zv, .bool false], rfl, zv, [.bool false], rfl, hzf, .bool false, [], rfl, ⟨rfl, rfl⟩, rfl⟩
      unfold execOp
      simp only [ho]
      simp [Instr.lookup, run_underlying hm, h1.2, h2.1, MapKept.run_getObj_map he, run_checkKey hd hku, run_findKey hd a2, hzr, Result.andThen]
    | false =>
      refine ⟨zv, ?_, hzf⟩
      unfold execOp
      simp only [ho]
      simp [Instr.lookup, run_underlying hm, h1.2, h2.1, MapKept.run_getObj_map he, run_checkKey hd hku, run_findKey hd a2, hzr, Result.andThen]
  · rw [a2] at hv ⊢
    simp only at hv
    subst hv
    cases cm with
    | true =>
      refine ⟨.tuple #[e.val, .bool true], ?_, [e.val, .bool true], rfl, e.val, [.bool true], rfl, a3, .bool true, [], rfl, ⟨rfl, rfl⟩, rfl⟩
      unfold execOp
      simp only [ho]
      simp [Instr.lookup, run_underlying hm, h1.2, h2.1, MapKept.run_getObj_map he, run_checkKey hd hku, run_findKey hd a5, Result.andThen]
    | false =>
      refine ⟨e.val, ?_, a3⟩
      unfold execOp
      simp only [ho]
      simp [Instr.lookup, run_underlying hm, h1.2, h2.1, MapKept.run_getObj_map he, run_checkKey hd hku, run_findKey hd a5, Result.andThen]
/-- A value that takes no memory. -/
theorem AStep.buildU {t : TypeId} (ho : o.op = .build t #[]) (hu : E.P.underlying t = some (.struct #[])) (hz : (E.P.info? t).map (·.zero) = some (some (.agg #[]))) : AStep E o fr σ (.agg []) σ := by
  refine AStep.quiet fun F w C tmps hi hf => ⟨.agg #[], ?_, [], rfl, rfl⟩
  unfold execOp
  simp only [ho]
  simp [Instr.build, zeroRun hz, run_underlying hu]
  rfl
theorem AStep.allocU {t : TypeId} (ho : o.op = .alloc t) (hz : (E.P.info? t).map (·.zero) = some (some (.agg #[]))) : AStep E o fr σ (.one (.ptr (.l σ.n) 0)) (σ.push (.cells [])) := by
  intro F w C tmps hi hf next Q hk
  obtain ⟨C', he, hno, hnp, hin, hok, hblk⟩ := hi.newObj (cs := []) (xs := []) (by simp [RV]) t
  have hrun : (execOp (Act.eval ⟨tmps, []⟩) o).run E.P w = .ok (.value (.pointer (some ⟨w.heap.size, 0, none⟩))) (w.alloc (.cells #[] t)) := by
    unfold execOp
    simp only [ho]
    simp [Instr.alloc, zeroRun hz, newVar, newRow, Value.cells]
  unfold Oper.wp
  rw [hrun, Oper.upon_value]
  exact hk _ _ C' ⟨Stp.alloc hi.base _ _, he, Nat.le_of_eq hno.symm, hnp⟩ hin (by simp only [RF, R]; exact ⟨hok, by rw [hblk]⟩)
theorem AStep.storeU {t : TypeId} {x y : Operand} {j : Id} (ho : o.op = .store t x y) (hz : (E.P.info? t).map (·.size) = some 0) (hx : aEval E.Γ fr x = some (.one (.ptr j 0))) (hy : aEval E.Γ fr y = some (.agg [])) (hg : σ.get j = some (.cells [])) : AStep E o fr σ .bot σ := by
  intro F w C tmps hi hf next Q hk
  have h1 := aEval_ok (a := ⟨tmps, []⟩) hi hf hx
  have h2 := aEval_ok (a := ⟨tmps, []⟩) hi hf hy
  simp only [RF, R, RV] at h1 h2
  obtain ⟨xs, h2, rfl⟩ := h2
  have hrun : (execOp (Act.eval ⟨tmps, []⟩) o).run E.P w = .ok .skip w := by
    unfold execOp
    simp only [ho, h1.2, h2]
    cases hi : E.P.info? t with
    | none => rw [hi] at hz; cases hz
    | some i =>
      rw [hi] at hz
      simp only [Option.map_some, Option.some.injEq] at hz
      simp [Instr.storeAt, Instr.sureAddr, storeVar, sizeOf, typeInfo, hi, hz, Value.cells, storeCells]
  unfold Oper.wp
  rw [hrun, Oper.upon_skip]
  exact hk undef _ C (Goes.refl _ _ _ _) hi (by simp [RF])
theorem AStep.eqBool {t yt : TypeId} {x y : Operand} {a b : Bool} (ht : E.P.underlying t = some .bool) (ho : o.op = .binOp .eql t x y yt) (hx : aEval E.Γ fr x = some (.one (.lit (.bool a)))) (hy : aEval E.Γ fr y = some (.one (.lit (.bool b)))) : AStep E o fr σ (.one (.lit (.bool (a == b)))) σ := by
  refine AStep.quiet fun F w C tmps hi hf => ⟨.bool (a == b), ?_, rfl, rfl⟩
  have h1 := aEval_ok (a := ⟨tmps, []⟩) hi hf hx
  have h2 := aEval_ok (a := ⟨tmps, []⟩) hi hf hy
  simp only [RF, R] at h1 h2
  unfold execOp
  simp only [ho, h1.1, h2.1, eqGuard_at_bool, Sem.run_bind, Sem.run_pure, Result.andThen_ok]
  simp [binOp, run_equal_bool _ _ _ _ ht]
theorem AStep.neBool {t yt : TypeId} {x y : Operand} {a b : Bool} (ht : E.P.underlying t = some .bool) (ho : o.op = .binOp .neq t x y yt) (hx : aEval E.Γ fr x = some (.one (.lit (.bool a)))) (hy : aEval E.Γ fr y = some (.one (.lit (.bool b)))) : AStep E o fr σ (.one (.lit (.bool (!(a == b))))) σ := by
  refine AStep.quiet fun F w C tmps hi hf => ⟨.bool (!(a == b)), ?_, rfl, rfl⟩
  have h1 := aEval_ok (a := ⟨tmps, []⟩) hi hf hx
  have h2 := aEval_ok (a := ⟨tmps, []⟩) hi hf hy
  simp only [RF, R] at h1 h2
  unfold execOp
  simp only [ho, h1.1, h2.1, eqGuard_at_bool, Sem.run_bind, Sem.run_pure, Result.andThen_ok]
  simp [binOp, run_equal_bool _ _ _ _ ht]
theorem AStep.min2 {t ty : TypeId} {x y : Operand} {k : IntKind} {a b : Int} {tys : Array TypeId} (ho : o.op = .call { callee := .builtin .min, args := #[x, y], argTypes := tys }) (hx : aEval E.Γ fr x = some (.one (.lit (.int k a)))) (hy : aEval E.Γ fr y = some (.one (.lit (.int k b)))) :
    AStep E o fr σ (.one (.lit (.int k (if b < a then b else a)))) σ := by
  refine AStep.quiet fun F w C tmps hi hf => ⟨.int k (if b < a then b else a), ?_, rfl, rfl⟩
  have h1 := aEval_ok (a := ⟨tmps, []⟩) hi hf hx
  have h2 := aEval_ok (a := ⟨tmps, []⟩) hi hf hy
  simp only [RF, R] at h1 h2
  unfold execOp
  simp [ho, h1.1, h2.1, resolve, invoke, builtin, Builtin.min_, Builtin.min2]
end
/-- A condition that is a slot: each way knows it. -/
theorem ACode.condS {E : Env} {x y : Code} {K : Cont} {fr : Fr} {σ : St} {d : Nat} {b : Bool} (hb : Fr.get d fr = some (.one (.lit (.bool b)))) (ht : b = true → ACode E x K ((d, .one (.lit (.bool true))) :: fr) σ) (hf : b = false → ACode E y K ((d, .one (.lit (.bool false))) :: fr) σ) : ACode E (.cond (.tmp d) x y) K fr σ := by
  refine ACode.cond (c := .tmp d) (b := b) hb (fun h => ?_) (fun h => ?_)
  · subst h
    intro F w0 C0 w C tmps hg hi hfr
    exact ht rfl F w0 C0 w C tmps hg hi (hfr.refine hb (fun _ h => h))
  · subst h
    intro F w0 C0 w C tmps hg hi hfr
    exact hf rfl F w0 C0 w C tmps hg hi (hfr.refine hb (fun _ h => h))
/-- A cell of a box. -/
theorem AStep.loadBox {E : Env} {o : Oper} {fr : Fr} {σ : St} {t : TypeId} {ti : TI} {x : Operand} {cs : List AC} {c : AC} (hT : TabOk E.P E.T) (ho : o.op = .load t x) (ht : Tab.get t E.T = some ti) (ha : ti.agg = false) (hs : Nat.beq ti.size 1 = true) (hx : aEval E.Γ fr x = some (.one (.box cs)))
    (hc : cs[0]? = some c) : AStep E o fr σ (.one c) σ := by
  refine AStep.ofOp hT ?_
  have hs' : ti.size = 1 := Nat.eq_of_beq_eq_true hs
  obtain ⟨d, ds, rfl⟩ : ∃ d ds, cs = d :: ds := by cases cs with | nil => simp at hc | cons d ds => exact ⟨d, ds, rfl⟩
  simp only [List.getElem?_cons_zero, Option.some.injEq] at hc
  subst hc
  simp only [ho, aOp, ht, ha, hs', hx, aLoad, forceK_eq, List.length_cons, List.take_succ_cons, List.take_zero, mkFV]
  rfl
/-- A slice held against nil: either answer. -/
theorem AOps.nilTest {E : Env} {ops : Array Oper} {rest : List Oper} {K : Cont} {o : Oper} {fr : Fr} {σ : St} {dd : Nat} {t e yt : TypeId} {x y : Operand} {s : Nat} {es : List (List AC)} (hgd : o.guard = none) (hdst : o.dst = some dd) (hdd : Nat.ble (dd + 1) E.N = true) (ho : o.op = .binOp .eql t x y yt)
    (ht : E.P.underlying t = some (.slice e)) (hx : aEval E.Γ fr x = some (.one (.sl s es))) (hy : aEval E.Γ fr y = some (.one (.lit (.slice none 0 0)))) (h : ∀ b, (b = true → es = []) → AOps E ops rest K ((dd, .one (.lit (.bool b))) :: fr) σ) : AOps E ops (o :: rest) K fr σ := by
  intro F w0 C0 w C tmps hg hi hf
  refine wpList_plain hgd fun N' hN => ?_
  have h1 := aEval_ok (a := ⟨tmps, []⟩) hi hf hx
  have h2 := aEval_ok (a := ⟨tmps, []⟩) hi hf hy
  simp only [RF, R] at h1 h2
  obtain ⟨a, cap, hv, hc, hor⟩ := h1
  have hex : (execOp (Act.eval ⟨tmps, []⟩) o).run E.P w = .ok (.value (.bool a.isNone)) w := by
    unfold execOp
    simp only [ho, hv, h2.1, eqGuard_at_slice, Sem.run_bind, Sem.run_pure, Result.andThen_ok]
    simp [binOp, run_equal_slice_nil _ _ _ _ _ _ ht]
  unfold Oper.wp
  rw [hex, Oper.upon_value]
  refine hN _ _ ?_
  rw [put_eta, hdst]
  refine h a.isNone (fun hb => ?_) F w0 C0 w C _ hg hi (putFr_ok (dst := some dd) hf hdd (by simp only [RF, R]; exact ⟨trivial, rfl⟩))
  rcases hor with rfl | ⟨ad, rfl, _⟩
  · rfl
  · cases hb
end Go.Abs
/- The abstract layer, part Ae: a drawn region whose head turns the store more than once: what holds between its operations is given. No condition of its own. -/
namespace Go.Abs
set_option linter.unusedVariables false
set_option linter.unusedSimpArgs false
/-- What an operation may read. -/
def depFrJ (l : List Oper) (vals : Nat → Option FV) (o : Oper) : Fr :=
  o.after.toList.filterMap fun e => bif Region.binds .any e then (match (l[e.on]?).bind (·.dst), vals e.on with | some d, some v => some (d, v) | _, _ => none) else none
def headFrJ (vals : Nat → Option FV) : Nat → List Oper → Fr
  | k, o :: os => match o.dst, vals k with
    | some d, some v => (d, v) :: headFrJ vals (k + 1) os
    | _, _ => headFrJ vals (k + 1) os
  | _, [] => []
def updV (vals : Nat → Option FV) (i : Nat) (v : FV) : Nat → Option FV := fun j => if i = j then some v else vals j
theorem headFrJ_mem {vals : Nat → Option FV} : ∀ {os : List Oper} {k d : Nat} {v : FV}, (d, v) ∈ headFrJ vals k os → ∃ (i : Nat) (o : Oper), os[i]? = some o ∧ o.dst = some d ∧ vals (k + i) = some v
  | [], k, d, v, h => by simp [headFrJ] at h
  | o :: os, k, d, v, h => by
    simp only [headFrJ] at h
    have rec' : (d, v) ∈ headFrJ vals (k + 1) os → ∃ (i : Nat) (o' : Oper), (o :: os)[i]? = some o' ∧ o'.dst = some d ∧ vals (k + i) = some v := fun h => by
      obtain ⟨i, o', h1, h2, h3⟩ := headFrJ_mem h
      exact ⟨i + 1, o', by simpa using h1, h2, by rw [show k + (i + 1) = k + 1 + i by omega]; exact h3⟩
    split at h
    · rename_i d' w hd hw
      rcases List.mem_cons.1 h with h | h
      · cases h; exact ⟨0, o, rfl, hd, hw⟩
      · exact rec' h
    · exact rec' h
section
variable {E : Env} {l : List Oper} {frb : Fr} {n : Nat} {K : Cont} {J : Array Bool → St → (Nat → Option FV) → Prop}
/-- What holds while the heads run. -/
structure MidJ (E : Env) (l : List Oper) (n : Nat) (frb : Fr) (J : Array Bool → St → (Nat → Option FV) → Prop) (F : Nat → Prop) (w0 : World) (C0 : Ctx) (listed : Array Bool) (a : Act) (w : World) : Prop where
  defers : a.defers = []
  ex : ∃ C σ vals, J listed σ vals ∧ Goes F isO w0 C0 w C ∧ Inv E.Γ F w C σ ∧ FrOk w C E.N frb a.tmps ∧
    ∀ (i : Nat) (o : Oper) (d : Nat) (v : FV), i < n → l[i]? = some o → o.dst = some d → vals i = some v → ∃ u, a.tmps[d]? = some u ∧ RF w C v u
theorem mid_anyJ (hB : drawB l n = true) (hfb : (dsts (l.take n)).all (fun d => (Fr.get d frb).isNone) = true)
    (hstep : ∀ (listed : Array Bool) (σ : St) (vals : Nat → Option FV) (i : Nat) (o : Oper), i < n → l[i]? = some o → listed.getD i false = false → listed.size = l.length → (∀ e ∈ o.after.toList, Region.binds .any e = true → listed.getD e.on false = true) → J listed σ vals →
      o.dst.isSome = true ∧ dstOk E.N o.dst = true ∧ ∃ σ' v, HStep E l.toArray o (depFrJ l vals o ++ frb) σ σ' v ∧ J (listed.setIfInBounds i true) σ' (updV vals i v))
    (htail : ∀ σ vals, J (listedTo l.length n) σ vals → AOps E l.toArray (l.drop n) K (headFrJ vals 0 (l.take n) ++ frb) σ) {F : Nat → Prop} {w0 : World} {C0 : Ctx} :
    ∀ (c : Nat) (listed : Array Bool) (a : Act) (w : World), ((List.range n).filter fun j => !listed.getD j false).length = c → HeadInv .any l.toArray n listed → MidJ E l n frb J F w0 C0 listed a w →
      wpAny E.P .any l.toArray (Post E F w0 C0 K) (c + (l.length - n)) listed a w := by
  simp only [drawB, Bool.and_eq_true, decide_eq_true_eq] at hB
  obtain ⟨⟨⟨⟨⟨hn, hs⟩, hc⟩, hsq⟩, hdi⟩, haf⟩ := hB
  have hsz : l.toArray.size = l.length := by simp
  intro c
  induction c with
  | zero =>
    intro listed a w hcnt hinv hmid
    have hall : ∀ j, j < n → listed.getD j false = true := by
      intro j hj
      have : (List.range n).filter (fun j => !listed.getD j false) = [] := List.eq_nil_of_length_eq_zero hcnt
      have h2 := List.filter_eq_nil_iff.1 this j (List.mem_range.2 hj)
      simpa using h2
    have hl : listed = listedTo l.length n := by
      apply Array.ext
      · simp [listedTo, hinv.size]
      · intro j h1 h2
        have hj : j < l.length := by simpa [listedTo] using h2
        have h3 : listed.getD j false = listed[j] := by simp [h1]
        simp only [listedTo, Array.getElem_map, Array.getElem_range]
        by_cases hjn : j < n
        · rw [← h3, hall j hjn]; simp [hjn]
        · have := hinv.tail j (by omega) (by rw [hsz]; exact hj)
          rw [getD_tf h1] at this
          rw [← h3, this]; simp [hjn]
    have hdl : (l.drop n).length = l.length - n := by simp
    rw [Nat.zero_add, ← hdl]
    refine wpAny_of_seq (md := .any) (l.drop n) n listed a w (fun j => by simp [List.getElem?_drop]) (by rw [hl, hdl]; exact hsq) ?_
    obtain ⟨hd, C, σ, vals, hJ, hg, hi, hf, hv⟩ := hmid
    have ha : a = ⟨a.tmps, []⟩ := by cases a; simp_all
    rw [ha]
    rw [hl] at hJ
    refine htail σ vals hJ F w0 C0 w C a.tmps hg hi ⟨hf.1, fun k x hk => ?_⟩
    rcases Fr.get_append hk with hk | ⟨_, hk⟩
    · obtain ⟨i, o, h1, h2, h3⟩ := headFrJ_mem (Fr.get_mem hk)
      rw [Nat.zero_add] at h3
      have hin : i < n := by
        have := (List.getElem?_eq_some_iff.1 h1).1
        simp at this; omega
      rw [List.getElem?_take_of_lt hin] at h1
      exact hv i o k x hin h1 h2 h3
    · exact hf.2 k x hk
  | succ c ih =>
    intro listed a w hcnt hinv hmid
    -- some head is not listed
    have hex : ∃ i, i < n ∧ listed.getD i false = false ∧ ∀ j, j < i → listed.getD j false = true := by
      have hne : ∃ i, i < n ∧ listed.getD i false = false := by
        cases hL : (List.range n).filter (fun j => !listed.getD j false) with
        | nil => rw [hL] at hcnt; simp at hcnt
        | cons i L =>
          have : i ∈ (List.range n).filter (fun j => !listed.getD j false) := by rw [hL]; simp
          obtain ⟨h1, h2⟩ := List.mem_filter.1 this
          exact ⟨i, List.mem_range.1 h1, by simpa using h2⟩
      obtain ⟨i, hi⟩ := hne
      induction i using Nat.strongRecOn with
      | _ i ih2 =>
        by_cases h : ∃ j, j < i ∧ listed.getD j false = false
        · obtain ⟨j, hj, hj2⟩ := h
          exact ih2 j hj ⟨by omega, hj2⟩
        · exact ⟨i, hi.1, hi.2, fun j hj => (Bool.not_eq_false _).mp (fun hb => h ⟨j, hj, hb⟩)⟩
    obtain ⟨i0, hi0n, hi0u, hi0m⟩ := hex
    have hready : i0 ∈ Region.ready .any l.toArray listed := by
      rw [mem_ready]
      have hlt : i0 < l.length := by omega
      refine ⟨by rw [getD_tf (by rw [hinv.size, hsz]; exact hlt)]; exact hi0u, l[i0], by simp [hlt], fun e he hb => ?_⟩
      have h1 := List.all_eq_true.1 haf (l[i0], i0) (by
        rw [List.mem_zipIdx_iff_getElem?]
        rw [List.getElem?_take_of_lt hi0n]
        simp [hlt])
      have h2 := Array.all_eq_true_iff_forall_mem.1 h1 e he
      simp only [hb, Bool.not_true, Bool.false_or, decide_eq_true_eq] at h2
      exact hi0m _ h2
    rw [show c + 1 + (l.length - n) = (c + (l.length - n)) + 1 by omega]
    refine ⟨fun h => absurd hready (by rw [h]; simp), fun i hi => ?_⟩
    have hi0t : listed.getD i0 true = false := (mem_ready.1 hready).1
    have hin : i < n := by
      rcases Nat.lt_or_ge i n with h | h
      · exact h
      · exact absurd hi (tail_waits hs hc (by rw [hsz]; exact hn) hinv _ i0 rfl hi0n hi0t i h)
    obtain ⟨hun, o, ho, hall⟩ := mem_ready.1 hi
    have hlo : l[i]? = some o := by simpa using ho
    obtain ⟨hd, C, σ, vals, hJ, hg, hinvw, hf, hvals⟩ := hmid
    have ha : a = ⟨a.tmps, []⟩ := by cases a; simp_all
    rw [ha]
    have huni : listed.getD i false = false := getD_both hun
    have hil : i < listed.size := by rw [hinv.size, hsz]; omega
    have hlast : ∀ e ∈ o.after.toList, Region.binds .any e = true → e.on < n := fun e he hb => by
      have h1 := List.all_eq_true.1 haf (o, i) (by
        rw [List.mem_zipIdx_iff_getElem?]
        rw [List.getElem?_take_of_lt hin]
        simpa using hlo)
      have h2 := Array.all_eq_true_iff_forall_mem.1 h1 e (by simpa using he)
      simp only [hb, Bool.not_true, Bool.false_or, decide_eq_true_eq] at h2
      omega
    obtain ⟨hds, hdo, σ', v, hst, hJ'⟩ := hstep listed σ vals i o hin hlo huni (by rw [hinv.size, hsz]) (fun e he hb => hall e (by simpa using he) hb) hJ
    have hfr : FrOk w C E.N (depFrJ l vals o ++ frb) a.tmps := by
      refine ⟨hf.1, fun k x hk => ?_⟩
      rcases Fr.get_append hk with hk | ⟨_, hk⟩
      · have hm := Fr.get_mem hk
        obtain ⟨e, he, he2⟩ := List.mem_filterMap.1 hm
        cases hb : Region.binds .any e with
        | false => rw [hb] at he2; cases he2
        | true =>
          rw [hb] at he2; simp only [cond_true] at he2
          cases h1 : (l[e.on]?).bind (·.dst) with
          | none => rw [h1] at he2; cases he2
          | some d =>
            cases h2 : vals e.on with
            | none => rw [h1, h2] at he2; cases he2
            | some v' =>
              rw [h1, h2] at he2; cases he2
              cases h3 : l[e.on]? with
              | none => rw [h3] at h1; cases h1
              | some oe =>
                rw [h3] at h1
                exact hvals e.on oe k x (hlast e he hb) h3 h1 h2
      · exact hf.2 k x hk
    obtain ⟨d, hdd⟩ := Option.isSome_iff_exists.1 hds
    refine hstep_run hst hinvw hfr ho fun u w' C' hgo hi' hr => ?_
    refine ih _ _ _ ?_ (hinv.set hi hin) ⟨put_defers .., C', σ', _, hJ', hg.trans hgo.toO, hi', ?_, fun j oj dj vj hj hoj hdj hvj => ?_⟩
    · have h2 : ((List.range n).filter fun j => !(listed.setIfInBounds i true).getD j false).length + 1 = ((List.range n).filter fun j => !listed.getD j false).length := count_eq hin huni hil
      omega
    · refine ⟨by rw [hdd]; simp [Act.put, hf.1], fun k x hk => ?_⟩
      obtain ⟨u', hu', hr'⟩ := hf.2 k x hk
      have hne : d ≠ k := by
        rintro rfl
        have h1 := List.all_eq_true.1 hfb d (List.mem_filterMap.2 ⟨o, List.mem_of_getElem? (i := i) (by rw [List.getElem?_take_of_lt hin]; exact hlo), hdd⟩)
        rw [hk] at h1; cases h1
      refine ⟨u', ?_, hr'.ext hgo.chg⟩
      rw [hdd]
      simp only [Act.put]
      rw [Array.getElem?_setIfInBounds_ne hne]; exact hu'
    · by_cases e : i = j
      · subst e
        rw [hlo] at hoj; cases hoj
        rw [hdd] at hdj; cases hdj
        rw [updV, if_pos rfl] at hvj
        cases hvj
        have hdN : d < a.tmps.size := by
          rw [hf.1]
          rw [hdd] at hdo
          exact Nat.le_of_ble_eq_true (show Nat.ble (d + 1) E.N = true from hdo)
        exact ⟨u, by rw [hdd]; simp [Act.put, hdN], hr⟩
      · simp only [updV, if_neg e] at hvj
        obtain ⟨u', hu', hr'⟩ := hvals j oj dj vj hj hoj hdj hvj
        have hne : d ≠ dj := by
          rintro rfl
          exact e (distinct_dsts hdi (by rw [List.getElem?_take_of_lt hin]; exact hlo) (by rw [List.getElem?_take_of_lt hj]; exact hoj) hdd hdj)
        refine ⟨u', ?_, hr'.ext hgo.chg⟩
        rw [hdd]
        simp only [Act.put]
        rw [Array.getElem?_setIfInBounds_ne hne]; exact hu'
/-- A REGION THAT DRAWS ITS ORDER, with what holds between the operations of its head. -/
theorem ACode.drawJ {id : Nat} {fr : Fr} {σ0 : St} (n : Nat) (J : Array Bool → St → (Nat → Option FV) → Prop) (hm : E.P.follows .mixedOrders = true) (hB : drawB l n = true) (hfb : Fr.woO (dsts (l.take n)) fr = some frb) (h0 : J (Array.replicate l.length false) σ0 (fun _ => none))
    (hstep : ∀ (listed : Array Bool) (σ : St) (vals : Nat → Option FV) (i : Nat) (o : Oper), i < n → l[i]? = some o → listed.getD i false = false → listed.size = l.length → (∀ e ∈ o.after.toList, Region.binds .any e = true → listed.getD e.on false = true) → J listed σ vals →
      o.dst.isSome = true ∧ dstOk E.N o.dst = true ∧ ∃ σ' v, HStep E l.toArray o (depFrJ l vals o ++ frb) σ σ' v ∧ J (listed.setIfInBounds i true) σ' (updV vals i v))
    (htail : ∀ σ vals, J (listedTo l.length n) σ vals → AOps E l.toArray (l.drop n) K (headFrJ vals 0 (l.take n) ++ frb) σ) : ACode E (.region id l.toArray true) K fr σ0 := by
  have h3 := Fr.woO_eq hfb
  intro F w0 C0 w C tmps hg hi hf
  have hn : n < l.length := by
    simp only [drawB, Bool.and_eq_true, decide_eq_true_eq] at hB
    exact hB.1.1.1.1.1
  refine wp_region_any hm ?_
  have h := mid_anyJ (F := F) (w0 := w0) (C0 := C0) (J := J) hB (by rw [← h3]; exact Fr.wo_none _ _) hstep htail n (Array.replicate l.toArray.size false) ⟨tmps, []⟩ w.drew (by
      have : ∀ j, (!(Array.replicate l.toArray.size false).getD j false) = true := fun j => by rw [getD_replicate_false]; rfl
      simp only [this]; rw [List.filter_eq_self.2 (fun _ _ => rfl), List.length_range])
    ⟨by simp, fun j oj _ hl => (by rw [getD_replicate_false] at hl; cases hl), fun t _ ht => getD_in (by simpa using ht) (getD_replicate_false _ _)⟩
    ⟨rfl, C, σ0, fun _ => none, by simpa using h0, hg.trans (Goes.drew hi).toO, hi.drew.2, ⟨hf.1, fun k x hk => by
        obtain ⟨u, hu, hr⟩ := hf.2 k x (by rw [← h3] at hk; exact (Fr.wo_get hk).1)
        exact ⟨u, hu, hr.ext hi.drew.1⟩⟩, fun i o d v _ _ _ hv => by cases hv⟩
  rw [show n + (l.length - n) = l.toArray.size by simp; omega] at h
  exact h
/-- The values: of the operations that are told apart by 'f', of the others by 'vs'. -/
def mixV (S : List Nat) (vs : List FV) (f : Nat → Option FV) : Nat → Option FV := fun j => bif S.any (fun k => Nat.beq k j) then f j else vs[j]?
/-- Some operations of the head (S) turn the store or wait for one that does; M: in which states they leave it, and with which values. The others only read, and wait for none of them. -/
theorem ACode.drawS {id : Nat} {fr : Fr} {σ0 : St} {hd tl : List Oper} (n : Nat) (S : List Nat) (vs : List FV) (M : (Nat → Option FV) → St → Prop) (hm : E.P.follows .mixedOrders = true) (hB : drawB l n = true) (hsp : splitO n l = some (hd, tl)) (hfb : Fr.woO (dsts hd) fr = some frb) (h0 : M (fun _ => none) σ0)
    (hM : ∀ f σ, M f σ → ∀ i, S.any (fun k => Nat.beq k i) = false → f i = none)
    (hq : ∀ i o, i < n → S.any (fun k => Nat.beq k i) = false → l[i]? = some o → ∃ v, vs[i]? = some v ∧ o.dst.isSome = true ∧ dstOk E.N o.dst = true ∧ (o.after.toList.all fun e => !Region.binds .any e || !(S.any fun k => Nat.beq k e.on)) = true ∧ ∀ f σ, M f σ → HStep E l.toArray o (depFr l vs o ++ frb) σ σ v)
    (hs : ∀ f σ i o, M f σ → S.any (fun k => Nat.beq k i) = true → l[i]? = some o → f i = none → (∀ e ∈ o.after.toList, Region.binds .any e = true → S.any (fun k => Nat.beq k e.on) = true → (f e.on).isSome = true) →
      o.dst.isSome = true ∧ dstOk E.N o.dst = true ∧ ∃ σ' v, HStep E l.toArray o (depFrJ l (mixV S vs f) o ++ frb) σ σ' v ∧ M (updV f i v) σ')
    (htail : ∀ f σ, M f σ → (∀ i ∈ S, i < n → (f i).isSome = true) → AOps E l.toArray tl K (headFrJ (mixV S vs f) 0 hd ++ frb) σ) : ACode E (.region id l.toArray true) K fr σ0 := by
  obtain ⟨hsp1, hsp2⟩ := splitO_eq hsp
  subst hsp1; subst hsp2
  have depEq : ∀ (o : Oper) (v1 v2 : Nat → Option FV), (∀ e ∈ o.after.toList, Region.binds .any e = true → v1 e.on = v2 e.on) → depFrJ l v1 o = depFrJ l v2 o := fun o v1 v2 h => by
    unfold depFrJ
    refine filterMap_same fun e he => ?_
    cases hb : Region.binds .any e with
    | false => rfl
    | true => simp only [cond_true]; rw [h e he hb]
  refine ACode.drawJ n (fun listed σ vals => listed.size = l.length ∧ ∃ f, M f σ ∧ (∀ i, i < n → listed.getD i false = true → vals i = mixV S vs f i) ∧ (∀ i, S.any (fun k => Nat.beq k i) = true → listed.getD i false = (f i).isSome)) hm hB hfb
    ⟨by simp, _, h0, fun i _ h => absurd h (by rw [getD_replicate_false]; simp), fun i _ => by rw [getD_replicate_false]; rfl⟩ ?_ ?_
  · intro listed σ vals i o hi hlo hun hsz hall ⟨_, f, hMf, hv, hf⟩
    have hn : n < l.length := by
      have := hB
      simp only [drawB, Bool.and_eq_true, decide_eq_true_eq] at this
      exact this.1.1.1.1.1
    have hset : ∀ (v : FV) j, (listed.setIfInBounds i true).getD j false = if i = j then true else listed.getD j false := fun _ j => by
      by_cases e : i = j
      · subst e; simp [show i < listed.size by omega]
      · rw [getD_set_ne false e, if_neg e]
    have hlast : ∀ e ∈ o.after.toList, Region.binds .any e = true → e.on < n := fun e he hb => by
      have hB2 := hB
      simp only [drawB, Bool.and_eq_true, decide_eq_true_eq] at hB2
      have h1 := List.all_eq_true.1 hB2.2 (o, i) (by
        rw [List.mem_zipIdx_iff_getElem?]
        rw [List.getElem?_take_of_lt hi]
        simpa using hlo)
      have h2 := Array.all_eq_true_iff_forall_mem.1 h1 e (by simpa using he)
      simp only [hb, Bool.not_true, Bool.false_or, decide_eq_true_eq] at h2
      omega
    have hdj : depFrJ l vals o = depFrJ l (mixV S vs f) o := depEq o _ _ fun e he hb => hv e.on (hlast e he hb) (hall e he hb)
    rw [hdj]
    cases hS : S.any (fun k => Nat.beq k i) with
    | true =>
      have hfi : f i = none := by
        have := hf i hS
        rw [hun] at this
        cases h : f i with
        | none => rfl
        | some v => rw [h] at this; cases this
      obtain ⟨k1, k2, σ', v, k3, k4⟩ := hs f σ i o hMf hS hlo hfi fun e he hb hSe => by rw [← hf _ hSe]; exact hall e he hb
      refine ⟨k1, k2, σ', v, k3, by simp [hsz], updV f i v, k4, fun j hj hlj => ?_, fun j hj => ?_⟩
      · by_cases e : i = j
        · subst e
          simp [mixV, hS, updV]
        · rw [hset v, if_neg e] at hlj
          rw [updV, if_neg e, hv j hj hlj]
          simp only [mixV, updV, if_neg e]
      · rw [hset v]
        by_cases e : i = j
        · subst e; simp [updV]
        · simp only [if_neg e, updV]; exact hf j hj
    | false =>
      obtain ⟨v, q1, q2, q3, q4, q5⟩ := hq i o hi hS hlo
      have hdd : depFrJ l (mixV S vs f) o = depFr l vs o := by
        unfold depFrJ depFr
        refine filterMap_same fun e he => ?_
        cases hb : Region.binds .any e with
        | false => rfl
        | true =>
          have h1 := List.all_eq_true.1 q4 e he
          rw [hb] at h1
          simp only [Bool.not_true, Bool.false_or, Bool.not_eq_true'] at h1
          simp only [cond_true, mixV, h1, cond_false]
          rfl
      rw [hdd]
      refine ⟨q2, q3, σ, v, q5 f σ hMf, by simp [hsz], f, hMf, fun j hj hlj => ?_, fun j hj => ?_⟩
      · by_cases e : i = j
        · subst e
          rw [updV, if_pos rfl]; simp only [mixV, hS, cond_false]; exact q1.symm
        · rw [hset v, if_neg e] at hlj
          rw [updV, if_neg e, hv j hj hlj]
      · rw [hset v]
        by_cases e : i = j
        · subst e; rw [hS] at hj; cases hj
        · simp only [if_neg e]; exact hf j hj
  · intro σ vals ⟨_, f, hMf, hv, hf⟩
    have hn : n < l.length := by
      have := hB
      simp only [drawB, Bool.and_eq_true, decide_eq_true_eq] at this
      exact this.1.1.1.1.1
    have hl : ∀ j, j < n → (listedTo l.length n).getD j false = true := fun j hj => by
      have : j < (listedTo l.length n).size := by simp [listedTo]; omega
      simp [listedTo, show j < l.length by omega, hj]
    have heq : headFrJ vals 0 (l.take n) = headFrJ (mixV S vs f) 0 (l.take n) := by
      have : ∀ (os : List Oper) (k : Nat), k + os.length ≤ n → headFrJ vals k os = headFrJ (mixV S vs f) k os := by
        intro os
        induction os with
        | nil => intro k _; rfl
        | cons o os ih =>
          intro k hk
          simp only [List.length_cons] at hk
          simp only [headFrJ]
          rw [hv k (by omega) (hl k (by omega)), ih (k + 1) (by omega)]
      exact this _ 0 (by simp; omega)
    rw [heq]
    exact htail f σ hMf fun i hi hin => by
      rw [← hf i (List.any_eq_true.2 ⟨i, hi, beq_self i⟩)]
      exact hl i hin
end
end Go.Abs
/- The abstract layer, part Af: steps whose outcome is not one alone, in a drawn region; a local object that takes the name of an outer one. No condition of its own. -/
namespace Go.Abs
set_option linter.unusedVariables false
set_option linter.unusedSimpArgs false
/-- A step that leaves one of some states, with one of some values. -/
def AStepR (E : Env) (o : Oper) (fr : Fr) (σ : St) (P : FV → St → Prop) : Prop :=
  ∀ (F : Nat → Prop) (w : World) (C : Ctx) (tmps : Array Value), Inv E.Γ F w C σ → FrOk w C E.N fr tmps →
    ∀ (next : Act → World → Prop) (Q : Exit → Act → World → Prop),
      (∀ (u : Value) (w' : World) (C' : Ctx) (v : FV) (σ' : St), P v σ' → Goes F (fun _ => True) w C w' C' → Inv E.Γ F w' C' σ' → RF w' C' v u → next (Act.put ⟨tmps, []⟩ o.dst u) w') → o.wp E.P ⟨tmps, []⟩ w next Q
def HStepR (E : Env) (ops : Array Oper) (o : Oper) (fr : Fr) (σ : St) (P : FV → St → Prop) : Prop :=
  (∃ v σ', HStep E ops o fr σ σ' v ∧ P v σ') ∨ (o.guard = none ∧ AStepR E o fr σ P)
theorem hstepR_run {E : Env} {ops : Array Oper} {o : Oper} {fr : Fr} {σ : St} {P : FV → St → Prop} (h : HStepR E ops o fr σ P) {F : Nat → Prop} {w : World} {C : Ctx} {tmps : Array Value} (hi : Inv E.Γ F w C σ) (hf : FrOk w C E.N fr tmps) {i : Nat} (ho : ops[i]? = some o)
    {next : Act → World → Prop} {Q : Exit → Act → World → Prop} (hk : ∀ (u : Value) (w' : World) (C' : Ctx) (v : FV) (σ' : St), P v σ' → Goes F (fun _ => True) w C w' C' → Inv E.Γ F w' C' σ' → RF w' C' v u → next (Act.put ⟨tmps, []⟩ o.dst u) w') : wpOp E.P ops Q i next ⟨tmps, []⟩ w := by
  rcases h with ⟨v, σ', h1, h2⟩ | ⟨hg, h⟩
  · exact hstep_run h1 hi hf ho fun u w' C' a b c => hk u w' C' v σ' h2 a b c
  · unfold wpOp
    simp only [ho]
    rw [if_pos (by simp [Region.wanted, hg])]
    exact .inl (h F w C tmps hi hf next Q hk)
theorem AStepR.call {E : Env} {o : Oper} {fr : Fr} {σ : St} {f : Operand} {args : Array Operand} {tys : Array TypeId} {g : Nat} {first caps : List AC} {vs us : List FV} {Q : FV → Outer → Prop} {P : FV → St → Prop}
    (hΓ : ∀ g cs, (g, cs) ∈ E.Γ → idsL isO cs) (ho : o.op = .call { callee := .value f, args := args, argTypes := tys })
    (hf : aEval E.Γ fr f = some (.one (.fn (.func g) first caps))) (hargs : aEvals E.Γ fr args.toList = some vs) (has : first.map .one ++ vs ++ caps.map .one = us) (hids : idsF isO us) (hou : OuOk σ.ou)
    (hc : AFn E.P E.Γ g us σ.ou Q) (h : ∀ r ou', Q r ou' → r.ids isO → OuOk ou' → P r { σ with ou := ou' }) : AStepR E o fr σ P := by
  subst has
  intro F w C tmps hi hfr next Qx hk
  have hcallee := aEval_ok (a := ⟨tmps, []⟩) hi hfr hf
  simp only [RF, R] at hcallee
  obtain ⟨xs, ys, hfv, hx, hy⟩ := hcallee
  have hvs := aEvals_ok (a := ⟨tmps, []⟩) hi hfr hargs
  have hall : RFs w C (first.map .one ++ vs ++ caps.map .one) (xs ++ args.toList.map (Act.eval ⟨tmps, []⟩) ++ ys) := (RFs.ones hx |>.append hvs).append (RFs.ones hy)
  have hrun : (execOp (Act.eval ⟨tmps, []⟩) o).run E.P w = .ok (.enter g (xs ++ args.toList.map (Act.eval ⟨tmps, []⟩) ++ ys).toArray) w := by
    unfold execOp
    simp only [ho, resolve, Sem.run_bind, hfv, Deferred.ofValue, Sem.run_pure, Result.andThen_ok, invoke, hc.1]
    congr 2
    apply Array.ext'
    simp
  unfold Oper.wp
  rw [hrun, Oper.upon_enter]
  have hc1 : Chg isO w C w { C with nl := 0 } := ⟨fun _ _ => rfl, fun _ h => h, fun i hp ho => ⟨by cases i with | l k => cases hp | o k => exact ho, rfl, rfl⟩⟩
  refine (hc.2 (calleeF w C σ.ou) w { C with nl := 0 } _ rfl (hi.forCallee hou hΓ) (RFs.chg hc1 _ _ hids hall)).mono fun e w' ⟨v, r, ou', C', he, hgo, h0, hi', hr, hQ⟩ => ?_
  subst he
  obtain ⟨hb1, hb2, hb3⟩ := hi.back hgo h0 hi'
  have hrid : r.ids isO := FV.ids_mono (ok_isO h0) r (RF.idsOk r v hr)
  exact hk _ _ _ r _ (h r ou' hQ hrid (OuOk.of_inv hi' h0)) hb1 hb2 (RF.chg hb3 r v hrid hr)
theorem runHeads_quiet {E : Env} {l : List Oper} {frb : Fr} {σ : St} {cs : List (Nat × FV)} {n al : Nat} {vs : List FV} {va : FV} (hT : TabOk E.P E.T) (hall : ∀ (k : Nat) (o : Oper), l[k]? = some o → k < n → o.after.all (fun e => !Region.binds .any e || decide (e.on < k)) = true) (hcs : CallsOk E l frb σ vs cs) :
    ∀ (os : List Oper) (k : Nat) (acc ws : List FV), acc.length = k → (∀ (i : Nat) (o : Oper), os[i]? = some o → l[k + i]? = some o ∧ k + i < n) → runHeads E l.toArray l frb σ ((al, va) :: cs) k os acc = some ws → acc ++ ws = vs →
      os.length = ws.length ∧ ∀ (i : Nat) (o : Oper), os[i]? = some o → ∃ v, ws[i]? = some v ∧ o.dst.isSome = true ∧ dstOk E.N o.dst = true ∧ (k + i = al → v = va) ∧ (k + i ≠ al → HStep E l.toArray o (depFr l vs o ++ frb) σ σ v)
  | [], k, acc, ws, _, _, h, _ => by simp only [runHeads, Option.some.injEq] at h; subst h; exact ⟨rfl, fun i o h => by simp at h⟩
  | o :: os, k, acc, ws, hl, hos, h, hv => by
    have ho := hos 0 o rfl
    simp only [Nat.add_zero] at ho
    simp only [runHeads, forceK_eq] at h
    cases hb : (o.dst.isSome && dstOk E.N o.dst) with
    | false => rw [hb] at h; cases h
    | true =>
      rw [hb] at h
      simp only [Bool.and_eq_true] at hb
      simp only [cond_true] at h
      have rest : ∀ {v : FV}, (k = al → v = va) → (k ≠ al → (∀ ws', ws = v :: ws' → HStep E l.toArray o (depFr l vs o ++ frb) σ σ v)) → (match runHeads E l.toArray l frb σ ((al, va) :: cs) (k + 1) os (acc ++ [v]) with | some vs => some (v :: vs) | none => none) = some ws →
          (o :: os).length = ws.length ∧ ∀ (i : Nat) (p : Oper), (o :: os)[i]? = some p → ∃ v, ws[i]? = some v ∧ p.dst.isSome = true ∧ dstOk E.N p.dst = true ∧ (k + i = al → v = va) ∧ (k + i ≠ al → HStep E l.toArray p (depFr l vs p ++ frb) σ σ v) := by
        intro v hva hst h
        split at h
        · rename_i ws' hw
          simp only [Option.some.injEq] at h; subst h
          obtain ⟨q1, q2⟩ := runHeads_quiet hT hall hcs os (k + 1) (acc ++ [v]) ws' (by simp [hl]) (fun i o hi => by have := hos (i + 1) o hi; rw [show k + 1 + i = k + (i + 1) by omega]; exact this) hw (by simpa using hv)
          refine ⟨by simp [q1], fun i p hi => ?_⟩
          cases i with
          | zero => simp at hi; subst hi; exact ⟨v, rfl, hb.1, hb.2, hva, fun hne => hst hne ws' rfl⟩
          | succ i =>
            obtain ⟨u, u1, u2, u3, u4, u5⟩ := q2 i p (by simpa using hi)
            rw [show k + 1 + i = k + (i + 1) by omega] at u4 u5
            exact ⟨u, by simpa using u1, u2, u3, u4, u5⟩
        · cases h
      by_cases hka : al = k
      · subst hka
        have hc : lookC al ((al, va) :: cs) = some va := by simp [lookC]
        rw [hc] at h
        exact rest (fun _ => rfl) (fun hne => absurd rfl hne) h
      · have hc : lookC k ((al, va) :: cs) = lookC k cs := by simp only [lookC, beq_no hka, cond_false]
        rw [hc] at h
        cases hc2 : lookC k cs with
        | some v =>
          rw [hc2] at h
          obtain ⟨o', ho', hs0⟩ := hcs.get hc2
          rw [ho.1] at ho'
          cases ho'
          exact rest (fun e => absurd e.symm hka) (fun _ _ _ => hs0) h
        | none =>
          rw [hc2] at h
          simp only at h
          cases hp : pureOp o.op with
          | false => rw [hp] at h; cases h
          | true =>
            rw [hp] at h
            simp only [cond_true] at h
            have hpure : ∀ {τ τ' : St} {v : FV}, aHead E l.toArray o (depFr l acc o ++ frb) τ = some (v, τ') → τ' = τ := by
              intro τ τ' v ha
              have key : ∀ {y : FV} {τ2 : St}, (match aOp E.T E.Γ o.op (depFr l acc o ++ frb) τ with | some (some x, σ') => some (x, σ') | _ => none) = some (y, τ2) → τ2 = τ := by
                intro y τ2 h
                split at h
                · rename_i h1
                  simp only [Option.some.injEq, Prod.mk.injEq] at h
                  obtain ⟨rfl, rfl⟩ := h
                  exact aOp_pure hp h1
                · cases h
              unfold aHead at ha
              split at ha
              · exact key ha
              · split at ha
                · split at ha
                  · exact key ha
                  · exact key ha
                  · cases ha; rfl
                  · cases ha; rfl
                  · cases ha; rfl
                  · cases ha
                · cases ha
            split at h
            · rename_i v σ' ha
              refine rest (fun e => absurd e.symm hka) (fun _ ws' hw => ?_) h
              have hdep : depFr l vs o = depFr l acc o := by rw [← hv]; exact depFr_prefix (by rw [hl]; exact hall k o ho.1 ho.2)
              have e1 := hpure ha
              subst e1
              have hs0 := HStep.auto (ops := l.toArray) hT ha
              rw [← hdep] at hs0
              exact hs0
            · cases h
section
variable {E : Env} {l : List Oper} {frb : Fr} {n : Nat} {K : Cont} {J : Array Bool → St → (Nat → Option FV) → Prop}
theorem mid_anyR (hB : drawB l n = true) (hfb : (dsts (l.take n)).all (fun d => (Fr.get d frb).isNone) = true)
    (hstep : ∀ (listed : Array Bool) (σ : St) (vals : Nat → Option FV) (i : Nat) (o : Oper), i < n → l[i]? = some o → listed.getD i false = false → listed.size = l.length → (∀ e ∈ o.after.toList, Region.binds .any e = true → listed.getD e.on false = true) → J listed σ vals →
      o.dst.isSome = true ∧ dstOk E.N o.dst = true ∧ HStepR E l.toArray o (depFrJ l vals o ++ frb) σ (fun v σ' => J (listed.setIfInBounds i true) σ' (updV vals i v)))
    (htail : ∀ σ vals, J (listedTo l.length n) σ vals → AOps E l.toArray (l.drop n) K (headFrJ vals 0 (l.take n) ++ frb) σ) {F : Nat → Prop} {w0 : World} {C0 : Ctx} :
    ∀ (c : Nat) (listed : Array Bool) (a : Act) (w : World), ((List.range n).filter fun j => !listed.getD j false).length = c → HeadInv .any l.toArray n listed → MidJ E l n frb J F w0 C0 listed a w →
      wpAny E.P .any l.toArray (Post E F w0 C0 K) (c + (l.length - n)) listed a w := by
  simp only [drawB, Bool.and_eq_true, decide_eq_true_eq] at hB
  obtain ⟨⟨⟨⟨⟨hn, hs⟩, hc⟩, hsq⟩, hdi⟩, haf⟩ := hB
  have hsz : l.toArray.size = l.length := by simp
  intro c
  induction c with
  | zero =>
    intro listed a w hcnt hinv hmid
    have hall : ∀ j, j < n → listed.getD j false = true := by
      intro j hj
      have : (List.range n).filter (fun j => !listed.getD j false) = [] := List.eq_nil_of_length_eq_zero hcnt
      have h2 := List.filter_eq_nil_iff.1 this j (List.mem_range.2 hj)
      simpa using h2
    have hl : listed = listedTo l.length n := by
      apply Array.ext
      · simp [listedTo, hinv.size]
      · intro j h1 h2
        have hj : j < l.length := by simpa [listedTo] using h2
        have h3 : listed.getD j false = listed[j] := by simp [h1]
        simp only [listedTo, Array.getElem_map, Array.getElem_range]
        by_cases hjn : j < n
        · rw [← h3, hall j hjn]; simp [hjn]
        · have := hinv.tail j (by omega) (by rw [hsz]; exact hj)
          rw [getD_tf h1] at this
          rw [← h3, this]; simp [hjn]
    have hdl : (l.drop n).length = l.length - n := by simp
    rw [Nat.zero_add, ← hdl]
    refine wpAny_of_seq (md := .any) (l.drop n) n listed a w (fun j => by simp [List.getElem?_drop]) (by rw [hl, hdl]; exact hsq) ?_
    obtain ⟨hd, C, σ, vals, hJ, hg, hi, hf, hv⟩ := hmid
    have ha : a = ⟨a.tmps, []⟩ := by cases a; simp_all
    rw [ha]
    rw [hl] at hJ
    refine htail σ vals hJ F w0 C0 w C a.tmps hg hi ⟨hf.1, fun k x hk => ?_⟩
    rcases Fr.get_append hk with hk | ⟨_, hk⟩
    · obtain ⟨i, o, h1, h2, h3⟩ := headFrJ_mem (Fr.get_mem hk)
      rw [Nat.zero_add] at h3
      have hin : i < n := by
        have := (List.getElem?_eq_some_iff.1 h1).1
        simp at this; omega
      rw [List.getElem?_take_of_lt hin] at h1
      exact hv i o k x hin h1 h2 h3
    · exact hf.2 k x hk
  | succ c ih =>
    intro listed a w hcnt hinv hmid
    -- some head is not listed
    have hex : ∃ i, i < n ∧ listed.getD i false = false ∧ ∀ j, j < i → listed.getD j false = true := by
      have hne : ∃ i, i < n ∧ listed.getD i false = false := by
        cases hL : (List.range n).filter (fun j => !listed.getD j false) with
        | nil => rw [hL] at hcnt; simp at hcnt
        | cons i L =>
          have : i ∈ (List.range n).filter (fun j => !listed.getD j false) := by rw [hL]; simp
          obtain ⟨h1, h2⟩ := List.mem_filter.1 this
          exact ⟨i, List.mem_range.1 h1, by simpa using h2⟩
      obtain ⟨i, hi⟩ := hne
      induction i using Nat.strongRecOn with
      | _ i ih2 =>
        by_cases h : ∃ j, j < i ∧ listed.getD j false = false
        · obtain ⟨j, hj, hj2⟩ := h
          exact ih2 j hj ⟨by omega, hj2⟩
        · exact ⟨i, hi.1, hi.2, fun j hj => (Bool.not_eq_false _).mp (fun hb => h ⟨j, hj, hb⟩)⟩
    obtain ⟨i0, hi0n, hi0u, hi0m⟩ := hex
    have hready : i0 ∈ Region.ready .any l.toArray listed := by
      rw [mem_ready]
      have hlt : i0 < l.length := by omega
      refine ⟨by rw [getD_tf (by rw [hinv.size, hsz]; exact hlt)]; exact hi0u, l[i0], by simp [hlt], fun e he hb => ?_⟩
      have h1 := List.all_eq_true.1 haf (l[i0], i0) (by
        rw [List.mem_zipIdx_iff_getElem?]
        rw [List.getElem?_take_of_lt hi0n]
        simp [hlt])
      have h2 := Array.all_eq_true_iff_forall_mem.1 h1 e he
      simp only [hb, Bool.not_true, Bool.false_or, decide_eq_true_eq] at h2
      exact hi0m _ h2
    rw [show c + 1 + (l.length - n) = (c + (l.length - n)) + 1 by omega]
    refine ⟨fun h => absurd hready (by rw [h]; simp), fun i hi => ?_⟩
    have hi0t : listed.getD i0 true = false := (mem_ready.1 hready).1
    have hin : i < n := by
      rcases Nat.lt_or_ge i n with h | h
      · exact h
      · exact absurd hi (tail_waits hs hc (by rw [hsz]; exact hn) hinv _ i0 rfl hi0n hi0t i h)
    obtain ⟨hun, o, ho, hall⟩ := mem_ready.1 hi
    have hlo : l[i]? = some o := by simpa using ho
    obtain ⟨hd, C, σ, vals, hJ, hg, hinvw, hf, hvals⟩ := hmid
    have ha : a = ⟨a.tmps, []⟩ := by cases a; simp_all
    rw [ha]
    have huni : listed.getD i false = false := getD_both hun
    have hil : i < listed.size := by rw [hinv.size, hsz]; omega
    have hlast : ∀ e ∈ o.after.toList, Region.binds .any e = true → e.on < n := fun e he hb => by
      have h1 := List.all_eq_true.1 haf (o, i) (by
        rw [List.mem_zipIdx_iff_getElem?]
        rw [List.getElem?_take_of_lt hin]
        simpa using hlo)
      have h2 := Array.all_eq_true_iff_forall_mem.1 h1 e (by simpa using he)
      simp only [hb, Bool.not_true, Bool.false_or, decide_eq_true_eq] at h2
      omega
    obtain ⟨hds, hdo, hst⟩ := hstep listed σ vals i o hin hlo huni (by rw [hinv.size, hsz]) (fun e he hb => hall e (by simpa using he) hb) hJ
    have hfr : FrOk w C E.N (depFrJ l vals o ++ frb) a.tmps := by
      refine ⟨hf.1, fun k x hk => ?_⟩
      rcases Fr.get_append hk with hk | ⟨_, hk⟩
      · have hm := Fr.get_mem hk
        obtain ⟨e, he, he2⟩ := List.mem_filterMap.1 hm
        cases hb : Region.binds .any e with
        | false => rw [hb] at he2; cases he2
        | true =>
          rw [hb] at he2; simp only [cond_true] at he2
          cases h1 : (l[e.on]?).bind (·.dst) with
          | none => rw [h1] at he2; cases he2
          | some d =>
            cases h2 : vals e.on with
            | none => rw [h1, h2] at he2; cases he2
            | some v' =>
              rw [h1, h2] at he2; cases he2
              cases h3 : l[e.on]? with
              | none => rw [h3] at h1; cases h1
              | some oe =>
                rw [h3] at h1
                exact hvals e.on oe k x (hlast e he hb) h3 h1 h2
      · exact hf.2 k x hk
    obtain ⟨d, hdd⟩ := Option.isSome_iff_exists.1 hds
    refine hstepR_run hst hinvw hfr ho fun u w' C' v σ' hJ' hgo hi' hr => ?_
    refine ih _ _ _ ?_ (hinv.set hi hin) ⟨put_defers .., C', σ', _, hJ', hg.trans hgo.toO, hi', ?_, fun j oj dj vj hj hoj hdj hvj => ?_⟩
    · have h2 : ((List.range n).filter fun j => !(listed.setIfInBounds i true).getD j false).length + 1 = ((List.range n).filter fun j => !listed.getD j false).length := count_eq hin huni hil
      omega
    · refine ⟨by rw [hdd]; simp [Act.put, hf.1], fun k x hk => ?_⟩
      obtain ⟨u', hu', hr'⟩ := hf.2 k x hk
      have hne : d ≠ k := by
        rintro rfl
        have h1 := List.all_eq_true.1 hfb d (List.mem_filterMap.2 ⟨o, List.mem_of_getElem? (i := i) (by rw [List.getElem?_take_of_lt hin]; exact hlo), hdd⟩)
        rw [hk] at h1; cases h1
      refine ⟨u', ?_, hr'.ext hgo.chg⟩
      rw [hdd]
      simp only [Act.put]
      rw [Array.getElem?_setIfInBounds_ne hne]; exact hu'
    · by_cases e : i = j
      · subst e
        rw [hlo] at hoj; cases hoj
        rw [hdd] at hdj; cases hdj
        rw [updV, if_pos rfl] at hvj
        cases hvj
        have hdN : d < a.tmps.size := by
          rw [hf.1]
          rw [hdd] at hdo
          exact Nat.le_of_ble_eq_true (show Nat.ble (d + 1) E.N = true from hdo)
        exact ⟨u, by rw [hdd]; simp [Act.put, hdN], hr⟩
      · simp only [updV, if_neg e] at hvj
        obtain ⟨u', hu', hr'⟩ := hvals j oj dj vj hj hoj hdj hvj
        have hne : d ≠ dj := by
          rintro rfl
          exact e (distinct_dsts hdi (by rw [List.getElem?_take_of_lt hin]; exact hlo) (by rw [List.getElem?_take_of_lt hj]; exact hoj) hdd hdj)
        refine ⟨u', ?_, hr'.ext hgo.chg⟩
        rw [hdd]
        simp only [Act.put]
        rw [Array.getElem?_setIfInBounds_ne hne]; exact hu'
/-- A REGION THAT DRAWS ITS ORDER, with what holds between the operations of its head. -/
theorem ACode.drawJR {id : Nat} {fr : Fr} {σ0 : St} (n : Nat) (J : Array Bool → St → (Nat → Option FV) → Prop) (hm : E.P.follows .mixedOrders = true) (hB : drawB l n = true) (hfb : Fr.woO (dsts (l.take n)) fr = some frb) (h0 : J (Array.replicate l.length false) σ0 (fun _ => none))
    (hstep : ∀ (listed : Array Bool) (σ : St) (vals : Nat → Option FV) (i : Nat) (o : Oper), i < n → l[i]? = some o → listed.getD i false = false → listed.size = l.length → (∀ e ∈ o.after.toList, Region.binds .any e = true → listed.getD e.on false = true) → J listed σ vals →
      o.dst.isSome = true ∧ dstOk E.N o.dst = true ∧ HStepR E l.toArray o (depFrJ l vals o ++ frb) σ (fun v σ' => J (listed.setIfInBounds i true) σ' (updV vals i v)))
    (htail : ∀ σ vals, J (listedTo l.length n) σ vals → AOps E l.toArray (l.drop n) K (headFrJ vals 0 (l.take n) ++ frb) σ) : ACode E (.region id l.toArray true) K fr σ0 := by
  have h3 := Fr.woO_eq hfb
  intro F w0 C0 w C tmps hg hi hf
  have hn : n < l.length := by
    simp only [drawB, Bool.and_eq_true, decide_eq_true_eq] at hB
    exact hB.1.1.1.1.1
  refine wp_region_any hm ?_
  have h := mid_anyR (F := F) (w0 := w0) (C0 := C0) (J := J) hB (by rw [← h3]; exact Fr.wo_none _ _) hstep htail n (Array.replicate l.toArray.size false) ⟨tmps, []⟩ w.drew (by
      have : ∀ j, (!(Array.replicate l.toArray.size false).getD j false) = true := fun j => by rw [getD_replicate_false]; rfl
      simp only [this]; rw [List.filter_eq_self.2 (fun _ _ => rfl), List.length_range])
    ⟨by simp, fun j oj _ hl => (by rw [getD_replicate_false] at hl; cases hl), fun t _ ht => getD_in (by simpa using ht) (getD_replicate_false _ _)⟩
    ⟨rfl, C, σ0, fun _ => none, by simpa using h0, hg.trans (Goes.drew hi).toO, hi.drew.2, ⟨hf.1, fun k x hk => by
        obtain ⟨u, hu, hr⟩ := hf.2 k x (by rw [← h3] at hk; exact (Fr.wo_get hk).1)
        exact ⟨u, hu, hr.ext hi.drew.1⟩⟩, fun i o d v _ _ _ hv => by cases hv⟩
  rw [show n + (l.length - n) = l.toArray.size by simp; omega] at h
  exact h

/-- One operation of the head, a call say, leaves one of some states; its value is known. The others only read, before it and behind it. -/
theorem ACode.drawXR {id : Nat} {fr fr' : Fr} {σ0 : St} {hd tl : List Oper} {vs : List FV} {va : FV} {oal : Oper} (hT : TabOk E.P E.T) (n al : Nat) (cs : List (Nat × FV)) (S : St → Prop) (hm : E.P.follows .mixedOrders = true) (hB : drawB l n = true) (haln : Nat.ble (al + 1) n = true) (hsp : splitO n l = some (hd, tl)) (hfb : Fr.woO (dsts hd) fr = some frb)
    (hoal : l[al]? = some oal) (hrun : runHeads E l.toArray l frb σ0 ((al, va) :: cs) 0 hd [] = some vs) (hrun1 : ∀ σ, S σ → runHeads E l.toArray l frb σ ((al, va) :: cs) 0 hd [] = some vs) (hfr : frOf hd vs frb = some fr')
    (hds : oal.dst.isSome = true ∧ dstOk E.N oal.dst = true) (hg : oal.guard = none) (hal : AStepR E oal (depFr l vs oal ++ frb) σ0 (fun v σ => v = va ∧ S σ)) (hcs : CallsOk E l frb σ0 vs cs) (hcs1 : ∀ σ, S σ → CallsOk E l frb σ vs cs)
    (htail : ∀ σ, S σ → AOps E l.toArray tl K fr' σ) : ACode E (.region id l.toArray true) K fr σ0 := by
  obtain ⟨hsp1, hsp2⟩ := splitO_eq hsp
  subst hsp1; subst hsp2
  have h4 := frOf_eq hfr
  have hn : n < l.length := by
    have := hB
    simp only [drawB, Bool.and_eq_true, decide_eq_true_eq] at this
    exact this.1.1.1.1.1
  have hlast : ∀ (i : Nat) (o : Oper), l[i]? = some o → i < n → o.after.all (fun e => !Region.binds .any e || decide (e.on < i)) = true := fun i o hlo hi => by
    have hB2 := hB
    simp only [drawB, Bool.and_eq_true, decide_eq_true_eq] at hB2
    exact List.all_eq_true.1 hB2.2 (o, i) (by
      rw [List.mem_zipIdx_iff_getElem?]
      rw [List.getElem?_take_of_lt hi]
      simpa using hlo)
  have hos : ∀ i o, (l.take n)[i]? = some o → l[0 + i]? = some o ∧ 0 + i < n := fun i o hi => by
    have hi2 : i < n := by
      have := (List.getElem?_eq_some_iff.1 hi).1
      simp at this; omega
    rw [List.getElem?_take_of_lt hi2] at hi
    exact ⟨by simpa using hi, by omega⟩
  -- a head that turns nothing, seen from each state
  have H : ∀ σ, runHeads E l.toArray l frb σ ((al, va) :: cs) 0 (l.take n) [] = some vs → CallsOk E l frb σ vs cs → (l.take n).length = vs.length ∧ ∀ i o, l[i]? = some o → i < n → i ≠ al → ∃ v, vs[i]? = some v ∧ o.dst.isSome = true ∧ dstOk E.N o.dst = true ∧ HStep E l.toArray o (depFr l vs o ++ frb) σ σ v := fun σ hr hc => by
    have hq := runHeads_quiet (n := n) (al := al) (va := va) hT hlast hc _ 0 [] vs rfl hos hr rfl
    refine ⟨hq.1, fun i o hlo hi hne => ?_⟩
    obtain ⟨v, q1, q2, q3, _, q4⟩ := hq.2 i o (by rw [List.getElem?_take_of_lt hi]; exact hlo)
    exact ⟨v, q1, q2, q3, q4 (by omega)⟩
  have hva : vs[al]? = some va := by
    have hq := runHeads_quiet (n := n) (al := al) (va := va) hT hlast hcs _ 0 [] vs rfl hos hrun rfl
    obtain ⟨v, q1, _, _, q4, _⟩ := hq.2 al oal (by rw [List.getElem?_take_of_lt (Nat.le_of_ble_eq_true haln)]; exact hoal)
    rw [q1, q4 (by omega)]
  obtain ⟨hlen, H0⟩ := H σ0 hrun hcs
  refine ACode.drawJR n (fun listed σ vals => listed.size = l.length ∧ (∀ i, i < n → listed.getD i false = true → vals i = vs[i]?) ∧ ((listed.getD al false = false ∧ σ = σ0) ∨ (listed.getD al false = true ∧ S σ))) hm hB hfb ⟨by simp, fun i _ h => absurd h (by rw [getD_replicate_false]; simp), .inl ⟨getD_replicate_false _ _, rfl⟩⟩ ?_ ?_
  · intro listed σ vals i o hi hlo hun hsz hall ⟨_, hv, hst⟩
    have hset : ∀ j, (listed.setIfInBounds i true).getD j false = if i = j then true else listed.getD j false := fun j => by
      by_cases e : i = j
      · subst e; simp [show i < listed.size by omega]
      · rw [getD_set_ne false e, if_neg e]
    have hdd : depFrJ l vals o = depFr l vs o := by
      unfold depFrJ depFr
      refine filterMap_same fun e he => ?_
      cases hb : Region.binds .any e with
      | false => rfl
      | true =>
        have h1 := Array.all_eq_true_iff_forall_mem.1 (hlast i o hlo hi) e (by simpa using he)
        simp only [hb, Bool.not_true, Bool.false_or, decide_eq_true_eq] at h1
        simp only [cond_true]
        rw [hv e.on (by omega) (hall e he hb)]
        rfl
    rw [hdd]
    have hnew : ∀ v, vs[i]? = some v → ∀ j, j < n → (listed.setIfInBounds i true).getD j false = true → updV vals i v j = vs[j]? := fun v hvv j hj hlj => by
      by_cases e : i = j
      · subst e; rw [updV, if_pos rfl, hvv]
      · rw [hset, if_neg e] at hlj
        rw [updV, if_neg e]; exact hv j hj hlj
    by_cases e : i = al
    · subst e
      rw [hoal] at hlo; cases hlo
      rcases hst with ⟨_, rfl⟩ | ⟨h, _⟩
      · refine ⟨hds.1, hds.2, .inr ⟨hg, ?_⟩⟩
        intro F w C tmps hi2 hf2 next Q hk
        refine hal F w C tmps hi2 hf2 next Q fun u w' C' v σ' ⟨hv1, hS⟩ => ?_
        subst hv1
        exact hk u w' C' _ σ' ⟨by simp [hsz], hnew _ hva, .inr ⟨by rw [hset, if_pos rfl], hS⟩⟩
      · rw [hun] at h; cases h
    · have hq : ∃ v, vs[i]? = some v ∧ o.dst.isSome = true ∧ dstOk E.N o.dst = true ∧ HStep E l.toArray o (depFr l vs o ++ frb) σ σ v := by
        rcases hst with ⟨_, rfl⟩ | ⟨_, hS⟩
        · exact H0 i o hlo hi e
        · exact (H σ (hrun1 σ hS) (hcs1 σ hS)).2 i o hlo hi e
      obtain ⟨v, q1, q2, q3, q4⟩ := hq
      refine ⟨q2, q3, .inl ⟨v, σ, q4, by simp [hsz], hnew v q1, ?_⟩⟩
      rw [hset, if_neg e]; exact hst
  · intro σ vals ⟨_, hv, hst⟩
    have hl : ∀ j, j < n → (listedTo l.length n).getD j false = true := fun j hj => by
      have : j < (listedTo l.length n).size := by simp [listedTo]; omega
      simp [listedTo, show j < l.length by omega, hj]
    have hS : S σ := by
      rcases hst with ⟨h, _⟩ | ⟨_, h⟩
      · rw [hl al (Nat.le_of_ble_eq_true haln)] at h; cases h
      · exact h
    have heq : headFrJ vals 0 (l.take n) = headFr (l.take n) vs := by
      have : ∀ (os : List Oper) (ws : List FV) (k : Nat), os.length = ws.length → (∀ i, i < os.length → vals (k + i) = ws[i]?) → (∀ o ∈ os, o.dst.isSome = true) → headFrJ vals k os = headFr os ws := by
        intro os
        induction os with
        | nil => intro ws k _ _ _; cases ws <;> rfl
        | cons o os ih =>
          intro ws k hl h hd
          cases ws with
          | nil => simp at hl
          | cons v ws =>
            have h0 := h 0 (by simp)
            simp at h0
            obtain ⟨d, hdd⟩ := Option.isSome_iff_exists.1 (hd o (by simp))
            simp only [headFrJ, headFr, hdd, h0]
            rw [ih ws (k + 1) (by simpa using hl) (fun i hi => by have := h (i + 1) (by simpa using hi); rw [show k + 1 + i = k + (i + 1) by omega, this]; simp) (fun o ho => hd o (by simp [ho]))]
      refine this _ _ 0 hlen (fun i hi => by rw [Nat.zero_add]; exact hv i (by simp at hi; omega) (hl i (by simp at hi; omega))) fun o ho => ?_
      obtain ⟨i, hi⟩ := List.mem_iff_getElem?.1 ho
      obtain ⟨h1, h2⟩ := hos i o hi
      rw [Nat.zero_add] at h1 h2
      by_cases e : i = al
      · subst e; rw [hoal] at h1; cases h1; exact hds.1
      · obtain ⟨_, _, h, _⟩ := H0 i o h1 h2 e; exact h
    rw [heq, h4]
    exact htail σ hS
end
/-- A local object takes the name of a new outer one: the states before and behind. -/
structure Ced (j k : Nat) (fr : Fr) (σ : St) (fr' : Fr) (σ' : St) : Prop where
  fr : ∀ d x, Fr.get d fr' = some x → ∃ y, Fr.get d fr = some y ∧ WkF (y.sub (toO j k)) x
  n : σ'.n = σ.n
  obj : ∀ i x, σ'.get i = some x → ∃ i0 y, σ.get i0 = some y ∧ toO j k i0 = i ∧ x = y.sub (toO j k)
theorem FV.ids_all (x : FV) : x.ids (fun _ => True) := FV.ids_true x
theorem AObj.ids_all (o : AObj) : o.ids (fun _ => True) := by
  cases o with
  | cells cs => exact idsL_true cs
  | map ck es => exact fun x hx => FV.ids_true _
  | iter m a b c => trivial
  | sit s q => trivial
  | tok e s u => trivial
  | dead => trivial
theorem AOps.cede {E : Env} {ops : Array Oper} {rest : List Oper} {K : Cont} {fr : Fr} {σ : St} (j : Nat) (hj : j < σ.n) (h : ∀ k, σ.ou k = none → ∃ fr' σ', Ced j k fr σ fr' σ' ∧ AOps E ops rest K fr' σ') : AOps E ops rest K fr σ := by
  intro F w0 C0 w C tmps hg hi hf
  have hnone : σ.ou C.no = none := by
    cases hx : σ.ou C.no with
    | none => rfl
    | some x => exact absurd (hi.obj (.o C.no) x hx).1 (Nat.lt_irrefl _)
  obtain ⟨fr', σ', hc, h⟩ := h _ hnone
  let C2 : Ctx := { C with no := C.no + 1, phi := fun i => match i with | .o m => if m = C.no then C.phi (.l j) else C.phi (.o m) | .l m => C.phi (.l m), tk := fun i => match i with | .o m => if m = C.no then C.tk (.l j) else C.tk (.o m) | .l m => C.tk (.l m) }
  have hx : Ext w C w C2 := ⟨fun _ _ => rfl, fun _ h => h, fun i _ ho => by
    cases i with
    | l m => exact ⟨ho, rfl, rfl⟩
    | o m =>
      have hm : m < C.no := ho
      refine ⟨Nat.lt_succ_of_lt hm, ?_, ?_⟩
      · show (if m = C.no then _ else _) = _; rw [if_neg (by omega)]; rfl
      · show (if m = C.no then _ else _) = _; rw [if_neg (by omega)]; rfl⟩
  have hb : Bus (toO j C.no) (fun _ => True) w C2 C := ⟨fun _ h => h, fun i _ ho => by
    cases i with
    | o m => exact hx.id (.o m) trivial ho
    | l m =>
      by_cases e : m = j
      · subst e
        simp only [toO, beq_self, cond_true]
        refine ⟨Nat.lt_succ_self _, ?_, ?_⟩
        · show (if C.no = C.no then _ else _) = _; rw [if_pos rfl]; rfl
        · show (if C.no = C.no then _ else _) = _; rw [if_pos rfl]; rfl
      · simp only [toO, beq_no e, cond_false]
        exact ⟨ho, rfl, rfl⟩⟩
  have hok : ∀ i0 y, σ.get i0 = some y → C.ok i0 := fun i0 y hy => (hi.obj i0 y hy).1
  have hi' : Inv E.Γ F w C2 σ' := by
    refine ⟨hi.base, by rw [hc.n]; exact hi.next, fun g cs hm => (hi.glob g cs hm).ext hx, hi.prot, fun i x hxx => ?_, fun i1 i2 x1 x2 g h1 h2 h3 h4 => ?_⟩
    · obtain ⟨i0, y, hy, rfl, rfl⟩ := hc.obj i x hxx
      obtain ⟨k1, k2⟩ := hi.obj i0 y hy
      exact ⟨(hb.id i0 trivial k1).1, ObjOk.bus hb (AObj.ids_all y) trivial k1 (fun _ h => h) k2⟩
    · obtain ⟨a, y, hy, rfl, rfl⟩ := hc.obj i1 x1 h1
      obtain ⟨b, z, hz, rfl, rfl⟩ := hc.obj i2 x2 h2
      rw [AObj.block_bus hb trivial (hok a y hy)] at h3
      rw [AObj.block_bus hb trivial (hok b z hz)] at h4
      rw [hi.inj a b y z g hy hz h3 h4]
  refine h F w0 C0 w C2 tmps (hg.trans ⟨Stp.refl _ _, hx.weaken (fun _ _ => trivial), Nat.le_succ _, NewP.refl _ _⟩) hi' ⟨hf.1, fun d x hd => ?_⟩
  obtain ⟨y, hy, hw⟩ := hc.fr d x hd
  obtain ⟨u, hu, hr⟩ := hf.2 d y hy
  exact ⟨u, hu, hw _ _ _ (RF.bus hb y u (FV.ids_true y) hr)⟩
/-- Objects that are spoken of no more. -/
theorem AOps.lessO {E : Env} {ops : Array Oper} {rest : List Oper} {K : Cont} {fr : Fr} {σ : St} (σ' : St) (hn : σ'.n = σ.n) (hs : ∀ i o, σ'.get i = some o → σ.get i = some o) (h : AOps E ops rest K fr σ') : AOps E ops rest K fr σ := by
  intro F w0 C0 w C tmps hg hi hf
  exact h F w0 C0 w C tmps hg ⟨hi.base, by rw [hn]; exact hi.next, hi.glob, hi.prot, fun i o ho => hi.obj i o (hs i o ho), fun i j o o' g h1 h2 h3 h4 => hi.inj i j o o' g (hs i o h1) (hs j o' h2) h3 h4⟩ hf
end Go.Abs
/- The abstract layer, part Ag: outer names stay as they are. No condition. -/
namespace Go.Abs
set_option linter.unusedVariables false
section
variable {j k : Nat}
theorem toO_isO : ∀ i : Id, isO i → toO j k i = i
  | .o _, _ => rfl
  | .l _, h => h.elim
mutual
theorem AC.sub_o : ∀ c : AC, c.ids isO → c.sub (toO j k) = c
  | .lit _, _ => rfl
  | .any, _ => rfl
  | .sl s es, h => by simp only [AC.ids] at h; simp only [AC.sub]; rw [subS_o es h]
  | .box cs, h => by simp only [AC.ids] at h; simp only [AC.sub]; rw [subL_o cs h]
  | .ptr i off, h => by simp only [AC.ids] at h; simp only [AC.sub]; rw [toO_isO i h]
  | .gs s es i, h => by simp only [AC.ids] at h; simp only [AC.sub]; rw [toO_isO i h.1, subS_o es h.2]
  | .arr i s off len cap, h => by simp only [AC.ids] at h; simp only [AC.sub]; rw [toO_isO i h]
  | .mp i, h => by simp only [AC.ids] at h; simp only [AC.sub]; rw [toO_isO i h]
  | .fn f a b, h => by simp only [AC.ids] at h; simp only [AC.sub]; rw [subL_o a h.1, subL_o b h.2]
  | .ifc t ag cs, h => by simp only [AC.ids] at h; simp only [AC.sub]; rw [subL_o cs h]
theorem subS_o : ∀ es : List (List AC), idsS isO es → subS (toO j k) es = es
  | [], _ => rfl
  | e :: es, h => by simp only [idsS] at h; simp only [subS]; rw [subL_o e h.1, subS_o es h.2]
theorem subL_o : ∀ cs : List AC, idsL isO cs → subL (toO j k) cs = cs
  | [], _ => rfl
  | c :: cs, h => by simp only [idsL] at h; simp only [subL]; rw [AC.sub_o c h.1, subL_o cs h.2]
end
mutual
theorem FV.sub_o : ∀ x : FV, x.ids isO → x.sub (toO j k) = x
  | .bot, _ => rfl
  | .one c, h => by simp only [FV.ids] at h; simp only [FV.sub]; rw [AC.sub_o c h]
  | .agg cs, h => by simp only [FV.ids] at h; simp only [FV.sub]; rw [subL_o cs h]
  | .tup vs, h => by simp only [FV.ids] at h; simp only [FV.sub]; rw [subF_o vs h]
theorem subF_o : ∀ vs : List FV, idsF isO vs → subF (toO j k) vs = vs
  | [], _ => rfl
  | v :: vs, h => by simp only [idsF] at h; simp only [subF]; rw [FV.sub_o v h.1, subF_o vs h.2]
end
theorem AObj.sub_o (o : AObj) (h : o.ids isO) : o.sub (toO j k) = o := by
  cases o with
  | cells cs => simp only [AObj.sub]; rw [subL_o cs h]
  | map ck es =>
    simp only [AObj.sub]
    congr 1
    rw [List.map_congr_left (g := id), List.map_id]
    intro x hx
    have := h x hx
    obtain ⟨a, b, c⟩ := x
    simp only [FV.sub_o c this, id]
  | iter m a b d => simp only [AObj.sub]; rw [toO_isO m h]
  | sit s q => rfl
  | tok e s u => rfl
  | dead => rfl
end
theorem AFn.fin' {E : Env} {fn : Func} {fr : Fr} {σ : St} {Q : FV → Outer → Prop} {r r' : FV} (h : aRes E.T fr σ fn.results.toList = some r) (hw : WkF r r') (hi : r'.ids isO) (ho : OuOk σ.ou) (hq : Q r' σ.ou) : Fin E fn Q fr σ := ⟨r, r', h, hw, hi, ho, hq⟩
end Go.Abs
/- The abstract layer, part Ah: an own array of numbers, sorted in place. What the sort does is given. -/
namespace Go.Abs
open Go.Sort
set_option linter.unusedVariables false
set_option linter.unusedSimpArgs false
abbrev iC (n : Int) : List AC := [.lit (.int .i64 n)]
theorem flat_iC : ∀ l : List Int, (l.map iC).flatten = l.map fun n => AC.lit (.int .i64 n)
  | [] => rfl
  | n :: l => by simp [flat_iC l]
theorem RV.ints {w : World} {C : Ctx} : ∀ {l : List Int} {cs : List AC} {xs : List Value}, RV w C ((l.map fun n => AC.lit (.int .i64 n)) ++ cs) xs → xs = l.map (Value.int .i64) ++ xs.drop l.length ∧ RV w C cs (xs.drop l.length)
  | [], cs, xs, h => ⟨by simp, by simpa using h⟩
  | n :: l, cs, xs, h => by
    simp only [List.map_cons, List.cons_append, RV] at h
    obtain ⟨v, ys, rfl, h1, h2⟩ := h
    simp only [R] at h1
    obtain ⟨h3, h4⟩ := RV.ints h2
    refine ⟨?_, by simpa using h4⟩
    simp only [List.map_cons, List.length_cons, List.drop_succ_cons, List.cons_append]
    rw [← h3, h1.1]
theorem RV.ofInts {w : World} {C : Ctx} : ∀ (l : List Int) {cs : List AC} {xs : List Value}, RV w C cs xs → RV w C ((l.map fun n => AC.lit (.int .i64 n)) ++ cs) (l.map (Value.int .i64) ++ xs)
  | [], cs, xs, h => by simpa using h
  | n :: l, cs, xs, h => by
    simp only [List.map_cons, List.cons_append, RV]
    exact ⟨_, _, rfl, by simp [R, Value.oneCell'], RV.ofInts l h⟩
theorem putCells_front (d : List Int) (xs : List Value) (h : d.length ≤ xs.length) : putCells (Value.int .i64) 0 d.toArray xs.toArray = (d.map (Value.int .i64) ++ xs.drop d.length).toArray := by
  apply Array.ext_getElem?
  intro k
  unfold putCells
  rw [Array.getElem?_mapIdx]
  simp only [List.getElem?_toArray, List.size_toArray, Nat.zero_le, true_and, Nat.zero_add, Nat.sub_zero]
  by_cases hk : k < d.length
  · rw [List.getElem?_append_left (by simpa using hk)]
    have hx : k < xs.length := by omega
    simp [List.getElem?_eq_getElem hx, hk]
  · rw [List.getElem?_append_right (by simp; omega)]
    simp only [List.length_map, List.getElem?_drop]
    rw [show d.length + (k - d.length) = k by omega]
    simp [hk]
/-- The sort of an own array. -/
theorem AOps.sortI {E : Env} {ops : Array Oper} {rest : List Oper} {o : Oper} {K : Cont} {fr : Fr} {σ : St} {d : Nat} {f : Operand} {args : Array Operand} {tys : Array TypeId} {g : Nat} {i : Id} {l : List Int} {cap : Nat} (hgd : o.guard = none) (hdst : o.dst = some d) (hd : Nat.ble (d + 1) E.N = true)
    (ho : o.op = .call { callee := .value f, args := args, argTypes := tys }) (hf : aEval E.Γ fr f = some (.one (.fn (.func g) [] []))) (hargs : aEvals E.Γ fr args.toList = some [.one (.arr i 1 0 l.length cap)])
    (hcf : ∀ us (w : World), (callFunc g us).run E.P w = .ok (.enter g us) w)
    (hc : ∀ (blk off cap : Nat) (zs : List Int) (w : World), Holds (Value.int .i64) w blk off zs.toArray → blk < w.heap.size → zs.length < 4611686018427387904 → Calls E.P g #[.slice (some ⟨blk, off, none⟩) zs.length cap] w fun e w' =>
      e = .returned (.tuple #[]) ∧ ∃ n os, w' = grow (putRow (Value.int .i64) (Sort.ahead w n) blk off (zs.mergeSort fun x y => decide (x ≤ y)).toArray) os)
    (hg : σ.get i = some (.cells (vec 1 (l.map iC) cap))) (hlen : l.length < 4611686018427387904)
    (h : AOps E ops rest K ((d, .tup []) :: fr) (σ.set i (.cells (vec 1 ((l.mergeSort fun x y => decide (x ≤ y)).map iC) cap)))) : AOps E ops (o :: rest) K fr σ := by
  intro F w0 C0 w C tmps hgo hi hfr
  refine wpList_plain hgd fun N' hN => ?_
  have hcallee := aEval_ok (a := ⟨tmps, []⟩) hi hfr hf
  simp only [RF, R] at hcallee
  obtain ⟨xs, ys, hfv, hx, hy⟩ := hcallee
  simp only [RV] at hx hy
  subst hx; subst hy
  have hvs := aEvals_ok (a := ⟨tmps, []⟩) hi hfr hargs
  simp only [RFs, RF, R] at hvs
  obtain ⟨v, us, hv, ⟨hok, hv2, hcapl⟩, hus⟩ := hvs
  subst hus
  rw [hv2] at hv
  simp only [Nat.zero_mul] at hv
  obtain ⟨hok', zs, T, b1, b2, b3, b4⟩ := hi.obj i _ hg
  have hzs := b3
  unfold vec at hzs
  rw [flat_iC] at hzs
  obtain ⟨hz1, hz2⟩ := RV.ints hzs
  have hzl : l.length ≤ zs.length := by rw [hz1]; simp
  have hcell : ∀ j : Nat, w.cell? ⟨C.blk i, j, none⟩ = zs[j]? := fun j => by rw [cell_of_row _ _ _ _ _ _ b1]; simp
  have hH : Holds (Value.int .i64) w (C.blk i) 0 l.toArray := fun j hj => by
    have hj' : j < l.length := by simpa using hj
    refine ⟨?_, ?_⟩
    · rw [Nat.zero_add, hcell, hz1, List.getElem?_append_left (by simpa using hj')]
      simp [hj']
    · simp [World.frozen?, b1]
  have hblk : C.blk i < w.heap.size := lt_of_heap b1
  have hrun : (execOp (Act.eval ⟨tmps, []⟩) o).run E.P w = .ok (.enter g #[.slice (some ⟨C.blk i, 0, none⟩) l.length cap]) w := by
    unfold execOp
    simp only [ho, resolve, Sem.run_bind, hfv, Deferred.ofValue, Sem.run_pure, Result.andThen_ok, invoke, hcf]
    congr 2
    apply Array.ext'
    simpa using hv
  unfold Oper.wp
  rw [hrun, Oper.upon_enter]
  refine (hc (C.blk i) 0 cap l w hH hblk hlen).mono fun e w' ⟨he, n, os, hw'⟩ => ?_
  subst he
  subst hw'
  obtain ⟨l', hl'⟩ : ∃ l', l' = (l.mergeSort fun x y => decide (x ≤ y)) := ⟨_, rfl⟩
  rw [← hl'] at h ⊢
  have hll : l'.length = l.length := by rw [hl']; simp
  -- the row, turned
  have hsz : (putRow (Value.int .i64) (Sort.ahead w n) (C.blk i) 0 l'.toArray).heap.size = w.heap.size := by simp [Sort.ahead]
  have hoth : ∀ k, k ≠ C.blk i → (putRow (Value.int .i64) (Sort.ahead w n) (C.blk i) 0 l'.toArray).heap[k]? = w.heap[k]? := fun k hk => by
    unfold putRow mapBlock
    show (w.heap.modify _ _)[k]? = _
    rw [Array.getElem?_modify, if_neg (Ne.symm hk)]
  have hat : (putRow (Value.int .i64) (Sort.ahead w n) (C.blk i) 0 l'.toArray).heap[C.blk i]? = some (.cells (l'.map (Value.int .i64) ++ zs.drop l.length).toArray T (0, 0)) := by
    unfold putRow mapBlock
    show (w.heap.modify _ _)[C.blk i]? = _
    rw [Array.getElem?_modify, if_pos rfl, b1]
    simp only [Option.map_some, onCells]
    rw [putCells_front l' zs (by omega), hll]
  obtain ⟨he1, hi1⟩ := hi.turn (o' := .cells (vec 1 (l'.map iC) cap)) hg (show AObj.block C i (.cells _) = some (C.blk i) from rfl) hsz hoth (fun a ha hp => absurd hp (b4 a ha)) rfl fun he => by
    refine ⟨_, T, hat, b2, ?_, b4⟩
    unfold vec
    rw [flat_iC]
    have hcl : (l'.map iC).length = (l.map iC).length := by simp [hll]
    rw [hcl]
    exact RV.ofInts l' (hz2.ext he)
  have hsz2 : (putRow (Value.int .i64) (Sort.ahead w n) (C.blk i) 0 l'.toArray).heap.size ≤ (grow (putRow (Value.int .i64) (Sort.ahead w n) (C.blk i) 0 l'.toArray) os).heap.size := by simp [grow]
  have hold : ∀ k, k < (putRow (Value.int .i64) (Sort.ahead w n) (C.blk i) 0 l'.toArray).heap.size → (grow (putRow (Value.int .i64) (Sort.ahead w n) (C.blk i) 0 l'.toArray) os).heap[k]? = (putRow (Value.int .i64) (Sort.ahead w n) (C.blk i) 0 l'.toArray).heap[k]? := fun k hk => by
    show (_ ++ os)[k]? = _
    rw [Array.getElem?_append_left hk]
  obtain ⟨he2, hi2⟩ := hi1.grown hsz2 hold
  have hstp : Stp F w (grow (putRow (Value.int .i64) (Sort.ahead w n) (C.blk i) 0 l'.toArray) os) := by
    refine ⟨rfl, rfl, rfl, by rw [← hsz]; exact hsz2, fun k hk => ?_, fun a ha => ?_⟩
    · have hk2 := hi.base k hk
      rw [hold k (by rw [hsz]; exact hk2), hoth k (fun e => b2 (e ▸ hk))]
    · have h1 : World.frozen? (grow (putRow (Value.int .i64) (Sort.ahead w n) (C.blk i) 0 l'.toArray) os) a = World.frozen? (putRow (Value.int .i64) (Sort.ahead w n) (C.blk i) 0 l'.toArray) a := by
        unfold World.frozen?
        rw [hold a.block (by rw [hsz]; exact ha)]
      rw [h1, frozen?_putRow]; rfl
  refine hN _ _ ?_
  rw [put_eta]
  have hext := he1.trans he2
  rw [hdst]
  exact h F w0 C0 _ C _ (hgo.trans ⟨hstp, hext.weaken (fun _ _ => trivial), Nat.le_refl _, NewP.refl _ _⟩) hi2 (putFr_ok (dst := some d) (hfr.ext hext) hd (by simp only [RF, RFs]; exact ⟨[], rfl, rfl⟩))
end Go.Abs
/- The abstract layer, part Ai: an own array that is written no more; a call that leaves the world as it is. No condition. -/
namespace Go.Abs
set_option linter.unusedVariables false
set_option linter.unusedSimpArgs false
theorem AOps.freezeArr {E : Env} {ops : Array Oper} {l : List Oper} {K : Cont} {fr : Fr} {σ : St} (i : Id) (d : Nat) {s cap : Nat} {es : List (List AC)} (hg : σ.get i = some (.cells (vec s es cap))) (hl : ∀ x ∈ es, x.length = s) (hd : Fr.get d fr = some (.one (.arr i s 0 es.length cap)))
    (h : AOps E ops l K ((d, .one (.sl s es)) :: fr) (σ.set i .dead)) : AOps E ops l K fr σ := by
  intro F w0 C0 w C tmps hgo hi hf
  obtain ⟨h1, h2, h3⟩ := frz_run hi hf hg (fr' := []) trivial
  obtain ⟨hok, zs, T, b1, b2, b3, b4⟩ := hi.obj i _ hg
  refine h F w0 C0 w _ tmps (hgo.trans h1.toO) h2 ⟨hf.1, fun k x hk => ?_⟩
  simp only [Fr.get] at hk
  by_cases e : d = k
  · subst e
    simp at hk
    subst hk
    obtain ⟨u, hu, hr⟩ := hf.2 d _ hd
    simp only [RF, R, Nat.zero_mul] at hr
    refine ⟨u, hu, some ⟨C.blk i, 0, none⟩, cap, hr.2.1, hr.2.2, .inr ⟨_, rfl, rfl, ?_⟩⟩
    have hfl := flat_len hl
    have hzl := RV.length b3
    have hv : RV w (C.froze (C.blk i)) es.flatten (zs.take (es.length * s)) := by
      have := (b3.take (es.length * s)).ext h1.chg
      rwa [vec, List.take_append_of_le_length (by omega), List.take_of_length_le (by omega)] at this
    refine RS.ofVals 0 hl hv fun j v hj => ⟨?_, .inr rfl⟩
    have h2 : j < es.length * s := by have := (List.getElem?_eq_some_iff.1 hj).1; simp at this; omega
    rw [List.getElem?_take_of_lt h2] at hj
    rw [Nat.zero_add, cell_of_row _ _ _ _ _ _ b1]
    simpa using hj
  · rw [beq_no e] at hk
    obtain ⟨u, hu, hr⟩ := hf.2 k x hk
    exact ⟨u, hu, hr.ext h1.chg⟩
/-- A call whose contract leaves the world as it is. -/
theorem AOps.callNo {E : Env} {ops : Array Oper} {rest : List Oper} {o : Oper} {K : Cont} {fr : Fr} {σ : St} {d : Nat} {f : Operand} {args : Array Operand} {tys : Array TypeId} {g : Nat} {u : Value} (hgd : o.guard = none) (hdst : o.dst = some d) (hd : Nat.ble (d + 1) E.N = true)
    (ho : o.op = .call { callee := .value f, args := args, argTypes := tys }) (hf : aEval E.Γ fr f = some (.one (.fn (.func g) [] []))) (hargs : aEvals E.Γ fr args.toList = some [.one (.lit u)])
    (hcf : ∀ us (w : World), (callFunc g us).run E.P w = .ok (.enter g us) w) (hc : ∀ w : World, Calls E.P g #[u] w fun e w' => e = .returned (.tuple #[]) ∧ w' = w)
    (h : AOps E ops rest K ((d, .tup []) :: fr) σ) : AOps E ops (o :: rest) K fr σ := by
  intro F w0 C0 w C tmps hgo hi hfr
  refine wpList_plain hgd fun N' hN => ?_
  have hcallee := aEval_ok (a := ⟨tmps, []⟩) hi hfr hf
  simp only [RF, R] at hcallee
  obtain ⟨xs, ys, hfv, hx, hy⟩ := hcallee
  simp only [RV] at hx hy
  subst hx; subst hy
  have hvs := aEvals_ok (a := ⟨tmps, []⟩) hi hfr hargs
  simp only [RFs, RF, R] at hvs
  obtain ⟨v, us, hv, ⟨hv2, _⟩, hus⟩ := hvs
  subst hus
  rw [hv2] at hv
  have hrun : (execOp (Act.eval ⟨tmps, []⟩) o).run E.P w = .ok (.enter g #[u]) w := by
    unfold execOp
    simp only [ho, resolve, Sem.run_bind, hfv, Deferred.ofValue, Sem.run_pure, Result.andThen_ok, invoke, hcf]
    congr 2
    apply Array.ext'
    simpa using hv
  unfold Oper.wp
  rw [hrun, Oper.upon_enter]
  refine (hc w).mono fun e w' ⟨he, hw'⟩ => ?_
  subst he
  subst hw'
  refine hN _ _ ?_
  rw [put_eta]
  rw [hdst]
  exact h F w0 C0 w' C _ hgo hi (putFr_ok (dst := some d) hfr hd (by simp only [RF, RFs]; exact ⟨[], rfl, rfl⟩))
end Go.Abs
/- The abstract layer, part Aj: a call of a function that only computes a number or a truth value; own objects are lent to it, to be read. No condition. -/
namespace Go.Abs
set_option linter.unusedVariables false
set_option linter.unusedSimpArgs false
/-- A context in which no old cell is written. -/
def Ctx.still (C : Ctx) (w : World) : Ctx := ⟨fun a => a.block < w.heap.size, 0, C.no, C.phi, C.tk⟩
theorem Inv.stillChg {Γ : List (Nat × List AC)} {F : Nat → Prop} {w : World} {C : Ctx} {σ : St} (hi : Inv Γ F w C σ) : Chg isO w C w (C.still w) :=
  ⟨fun _ _ => rfl, fun a h => hi.prot a h, fun i hp hok => ⟨by cases i with | l k => cases hp | o k => exact hok, rfl, rfl⟩⟩
theorem Inv.forStill {Γ : List (Nat × List AC)} {F : Nat → Prop} {w : World} {C : Ctx} {σ : St} (hi : Inv Γ F w C σ) (hΓ : ∀ g cs, (g, cs) ∈ Γ → idsL isO cs) : Inv Γ (fun k => k < w.heap.size) w (C.still w) ⟨0, [], fun _ => none⟩ := by
  have hn : ∀ i, St.get ⟨0, [], fun _ => none⟩ i = none := fun i => by cases i <;> rfl
  exact ⟨fun _ h => h, rfl, fun g cs h => (hi.glob g cs h).chg hi.stillChg (hΓ g cs h), fun _ h => h, fun i o h => by (rw [hn] at h; cases h), fun i j o o' g h => by (rw [hn] at h; cases h)⟩
def LendF (σ : St) (x y : FV) : Prop := ∀ (Γ : List (Nat × List AC)) (F : Nat → Prop) (w : World) (C : Ctx) (v : Value), Inv Γ F w C σ → RF w C x v → RF w (C.still w) y v
def LendFs (σ : St) (xs ys : List FV) : Prop := ∀ (Γ : List (Nat × List AC)) (F : Nat → Prop) (w : World) (C : Ctx) (vs : List Value), Inv Γ F w C σ → RFs w C xs vs → RFs w (C.still w) ys vs
theorem LendF.of {σ : St} {x y : FV} (h : WkF x y) (hy : y.ids isO) : LendF σ x y := fun Γ F w C v hi hr => RF.chg hi.stillChg y v hy (h w C v hr)
theorem LendF.refl {σ : St} {x : FV} (hy : x.ids isO) : LendF σ x x := .of (.refl x) hy
theorem LendF.arr {σ : St} {i : Id} {s cap n : Nat} {es : List (List AC)} (hg : σ.get i = some (.cells (vec s es cap))) (hn : n = es.length) (hl : ∀ x ∈ es, x.length = s) (hids : idsS isO es) : LendF σ (.one (.arr i s 0 n cap)) (.one (.sl s es)) := by
  subst hn
  intro Γ F w C v hi hr
  obtain ⟨hok, zs, T, b1, b2, b3, b4⟩ := hi.obj i _ hg
  simp only [RF, R, Nat.zero_mul] at hr
  refine ⟨some ⟨C.blk i, 0, none⟩, cap, hr.2.1, hr.2.2, .inr ⟨_, rfl, rfl, ?_⟩⟩
  have hfl := flat_len hl
  have hzl := RV.length b3
  have hfi : idsL isO es.flatten := by
    clear hg hl hr hfl b3 hzl
    induction es with
    | nil => trivial
    | cons x es ih =>
      simp only [idsS] at hids
      rw [List.flatten_cons]
      exact idsL_iff.2 fun c hc => (List.mem_append.1 hc).elim (fun h => idsL_iff.1 hids.1 c h) fun h => idsL_iff.1 (ih hids.2) c h
  have hv : RV w (C.still w) es.flatten (zs.take (es.length * s)) := by
    refine RV.chg hi.stillChg _ _ hfi ?_
    have := b3.take (es.length * s)
    rwa [vec, List.take_append_of_le_length (by omega), List.take_of_length_le (by omega)] at this
  refine RS.ofVals 0 hl hv fun j v hj => ⟨?_, lt_of_heap b1⟩
  have h2 : j < es.length * s := by have := (List.getElem?_eq_some_iff.1 hj).1; simp at this; omega
  rw [List.getElem?_take_of_lt h2] at hj
  rw [Nat.zero_add, cell_of_row _ _ _ _ _ _ b1]
  simpa using hj
theorem LendF.ptr {σ : St} {i : Id} {off : Nat} {cs : List AC} (hg : σ.get i = some (.cells cs)) (hids : idsL isO cs) : LendF σ (.one (.ptr i off)) (.one (.box (cs.drop off))) := by
  intro Γ F w C v hi hr
  obtain ⟨hok, zs, T, b1, b2, b3, b4⟩ := hi.obj i _ hg
  simp only [RF, R] at hr
  refine ⟨⟨C.blk i, off, none⟩, hr.2, rfl, ?_⟩
  have h : RL w (C.still w) cs ⟨C.blk i, 0, none⟩ := by
    refine RL.of_new 0 (RV.chg hi.stillChg cs zs hids b3) (fun j v hj => ?_) (fun ad ha => ?_)
    · rw [Nat.zero_add, cell_of_row _ _ _ _ _ _ b1]
      simpa using hj
    · show ad.block < w.heap.size
      rw [ha]; exact lt_of_heap b1
  have := RL.drop off rfl h
  simpa using this
theorem LendFs.nil {σ : St} : LendFs σ [] [] := fun _ _ _ _ _ _ h => h
theorem LendFs.cons {σ : St} {x y : FV} {xs ys : List FV} (h : LendF σ x y) (k : LendFs σ xs ys) : LendFs σ (x :: xs) (y :: ys) := by
  intro Γ F w C vs hi hr
  simp only [RFs] at hr ⊢
  obtain ⟨v, us, rfl, h1, h2⟩ := hr
  exact ⟨v, us, rfl, h _ _ _ _ _ hi h1, k _ _ _ _ _ hi h2⟩
/-- What reads the same everywhere. -/
def Plain (r : FV) : Prop := ∀ (w w' : World) (C C' : Ctx) (v : Value), RF w C r v → RF w' C' r v
theorem Plain.lit (u : Value) : Plain (.one (.lit u)) := fun w w' C C' v h => by simpa only [RF, R] using h
theorem AStep.callS {E : Env} {o : Oper} {fr : Fr} {σ : St} {f : Operand} {args : Array Operand} {tys : Array TypeId} {g : Nat} {first caps : List AC} {vs ws : List FV} {r : FV}
    (hΓ : ∀ g cs, (g, cs) ∈ E.Γ → idsL isO cs) (hc : APure E.P E.Γ g ws r) (hp : Plain r) (ho : o.op = .call { callee := .value f, args := args, argTypes := tys })
    (hf : aEval E.Γ fr f = some (.one (.fn (.func g) first caps))) (hargs : aEvals E.Γ fr args.toList = some vs) (hw : LendFs σ (first.map .one ++ vs ++ caps.map .one) ws) : AStep E o fr σ r σ := by
  intro F w C tmps hi hfr next Q hk
  have hcallee := aEval_ok (a := ⟨tmps, []⟩) hi hfr hf
  simp only [RF, R] at hcallee
  obtain ⟨xs, ys, hfv, hx, hy⟩ := hcallee
  have hvs := aEvals_ok (a := ⟨tmps, []⟩) hi hfr hargs
  have hall : RFs w (C.still w) ws (xs ++ args.toList.map (Act.eval ⟨tmps, []⟩) ++ ys) := hw _ _ _ _ _ hi ((RFs.ones hx |>.append hvs).append (RFs.ones hy))
  have hrun : (execOp (Act.eval ⟨tmps, []⟩) o).run E.P w = .ok (.enter g (xs ++ args.toList.map (Act.eval ⟨tmps, []⟩) ++ ys).toArray) w := by
    unfold execOp
    simp only [ho, resolve, Sem.run_bind, hfv, Deferred.ofValue, Sem.run_pure, Result.andThen_ok, invoke, (hc σ.ou).1]
    congr 2
    apply Array.ext'
    simp
  unfold Oper.wp
  rw [hrun, Oper.upon_enter]
  refine ((hc fun _ => none).2 (fun k => k < w.heap.size) w (C.still w) _ rfl (hi.forStill hΓ) hall).mono fun e w' ⟨v, r', ou', C', he, hgo, h0, hi', hr, hQ1, hQ2⟩ => ?_
  subst he; subst hQ1
  obtain ⟨he, hi2⟩ := hi.grown hgo.stp.size (fun k hk => hgo.stp.block k hk)
  exact hk v w' C ⟨hgo.stp.mono fun k hk => hi.base k hk, he, Nat.le_refl _, NewP.refl _ _⟩ hi2 (hp _ _ _ _ _ hr)
/-- A call that only reads. -/
theorem AOps.callS {E : Env} {ops : Array Oper} {rest : List Oper} {o : Oper} {K : Cont} {fr : Fr} {σ : St} {d : Nat} {f : Operand} {args : Array Operand} {tys : Array TypeId} {g : Nat} {first caps : List AC} {vs ws : List FV} {r : FV}
    (hΓ : ∀ g cs, (g, cs) ∈ E.Γ → idsL isO cs) (hc : APure E.P E.Γ g ws r) (hp : Plain r) (hgd : o.guard = none) (hdst : o.dst = some d) (hd : Nat.ble (d + 1) E.N = true) (ho : o.op = .call { callee := .value f, args := args, argTypes := tys })
    (hf : aEval E.Γ fr f = some (.one (.fn (.func g) first caps))) (hargs : aEvals E.Γ fr args.toList = some vs) (hw : LendFs σ (first.map .one ++ vs ++ caps.map .one) ws)
    (h : AOps E ops rest K ((d, r) :: fr) σ) : AOps E ops (o :: rest) K fr σ :=
  AOps.step1 hgd hdst hd (AStep.callS hΓ hc hp ho hf hargs hw) h
end Go.Abs
/- Core expressions as plain data: lists, trees, and what the functions of the package compute. No condition. -/
namespace Go.CoreX
/-- An alternative, a node, a tree. -/
structure Alt where
  tag : Int
  binds : List Int
  deriving DecidableEq
structure Ex where
  op : Int
  n : Int
  binds : List Int
  kids : List Int
  alts : List Alt
  deriving DecidableEq
inductive Tr where
  | mk (op n : Int) (binds : List Int) (kids : List Tr) (alts : List Alt)
instance : Inhabited Tr := ⟨.mk 0 0 [] [] []⟩
def Tr.op : Tr → Int | .mk o _ _ _ _ => o
def Tr.n : Tr → Int | .mk _ n _ _ _ => n
def Tr.binds : Tr → List Int | .mk _ _ b _ _ => b
def Tr.kids : Tr → List Tr | .mk _ _ _ k _ => k
def Tr.alts : Tr → List Alt | .mk _ _ _ _ a => a
@[simp] theorem Tr.op_mk (o n b k a) : (Tr.mk o n b k a).op = o := rfl
@[simp] theorem Tr.n_mk (o n b k a) : (Tr.mk o n b k a).n = n := rfl
@[simp] theorem Tr.binds_mk (o n b k a) : (Tr.mk o n b k a).binds = b := rfl
@[simp] theorem Tr.kids_mk (o n b k a) : (Tr.mk o n b k a).kids = k := rfl
@[simp] theorem Tr.alts_mk (o n b k a) : (Tr.mk o n b k a).alts = a := rfl

/-- The trees of the first nodes. -/
def nodeOf (ts : List Tr) (x : Ex) : Tr := .mk x.op x.n x.binds (x.kids.map fun k => ts.getD k.toNat default) x.alts
def growStep (ts : List Tr) (x : Ex) : List Tr := ts ++ [nodeOf ts x]
def growL (e : List Ex) : List Tr := e.foldl growStep []
def grow (e : List Ex) : Tr := (growL e).getD (e.length - 1) default

mutual
def listT (out : List Ex) : Tr → List Ex
  | .mk o n b k a => (listTs out k).1 ++ [⟨o, n, b, (listTs out k).2, a⟩]
def listTs (out : List Ex) : List Tr → List Ex × List Int
  | [] => (out, [])
  | t :: ts => ((listTs (listT out t) ts).1, (((listT out t).length : Int) - 1) :: (listTs (listT out t) ts).2)
end

/-- What a node binds itself, and in its kid k. -/
def bindersN (op : Int) (binds : List Int) (alts : List Alt) : List Int := (if op = 2 ∨ op = 4 ∨ op = 5 then binds else []) ++ alts.flatMap (·.binds)
def boundN (op : Int) (binds : List Int) (alts : List Alt) (k : Int) : List Int :=
  if op = 2 ∨ op = 5 ∨ (op = 4 ∧ k = 1) then binds else if 0 < (alts.length : Int) ∧ 0 < k ∧ k ≤ alts.length then (alts.getD (k - 1).toNat ⟨0, []⟩).binds else []

/-- treeError. -/
def kidStep (i : Nat) (s : Option (List Int × List Int)) (k : Int) : Option (List Int × List Int) :=
  s.bind fun dp => if k < 0 ∨ (i : Int) ≤ k then none else some (dp.1.set i (if dp.1.getD k.toNat 0 > dp.1.getD i 0 then dp.1.getD k.toNat 0 else dp.1.getD i 0), dp.2.set k.toNat (dp.2.getD k.toNat 0 + 1))
def nodeStep (s : Option (List Int × List Int)) (x : Ex × Nat) : Option (List Int × List Int) :=
  (x.1.kids.foldl (kidStep x.2) s).map fun dp => (dp.1.set x.2 (dp.1.getD x.2 0 + 1), dp.2)
def treeRun (e : List Ex) : Option (List Int × List Int) := e.zipIdx.foldl nodeStep (some (List.replicate e.length 0, List.replicate e.length 0))
def oddParent (n : Nat) (p : List Int) (i : Nat) : Bool := !((p.getD i 0 == 1) == decide ((i : Int) < n - 1))
def treeErr (e : List Ex) : Int :=
  if 4096 < e.length then 2 else if e.length = 0 then 3 else
  match treeRun e with
  | none => 3
  | some (d, p) => if (List.range e.length).any (oddParent e.length p) = true then 3 else if 400 < d.getD (e.length - 1) 0 then 2 else 0

/-- nodeError. -/
def between (n low high : Int) : Bool := decide (low ≤ n) && decide (n ≤ high)
def flatOnly (op : Int) : Bool := op == 14 || op == 15 || op == 16
def coreOnly (op : Int) : Bool := op == 2 || op == 5 || op == 12 || op == 13
def altBad (x : Ex) (i : Nat) (a : Alt) : Bool :=
  ((x.alts.take i).any (fun b => b.tag == a.tag) || decide (a.tag < -1)) ||
  (x.op == 7 && a.tag == -1 && (decide ((i : Int) < x.alts.length - 1) || decide (0 < a.binds.length))) ||
  ((x.op == 13 && !(((i : Int) == 0) == (a.tag == -1))) || (x.op == 13 && !((a.binds.length : Int) == (if 2 < (i : Int) + 1 then 2 else (i : Int) + 1))))
def altsOk (x : Ex) : Bool := !(x.alts.zipIdx.any fun ai => altBad x ai.2 ai.1) && ((x.kids.length : Int) == 1 + x.alts.length && (x.op == 7 || decide (0 < x.alts.length)))
def arityL : List Int := [2, 2, 2, 2, 2, 2, 2, 1, 2, 1, 2, 3]
/-- The numbers of kids and identifiers, and whether N is used. -/
def wants (x : Ex) : Option (Int × Int × Bool) :=
  if x.op = 0 ∨ x.op = 1 ∨ x.op = 17 then some (0, 0, true) else
  if x.op = 2 then some (1, x.binds.length, false) else
  if x.op = 3 then some (if (x.kids.length : Int) > 1 then x.kids.length else 1, 0, false) else
  if x.op = 4 then some (2, 1, false) else
  if x.op = 5 then some (x.binds.length + 1, if (x.binds.length : Int) > 1 then x.binds.length else 1, false) else
  if x.op = 6 then some (x.kids.length, 0, true) else
  if x.op = 8 then (if between x.n 0 11 = true then some (arityL.getD x.n.toNat 0, 0, true) else none) else
  if x.op = 9 then some (x.binds.length, x.binds.length, false) else
  if x.op = 10 ∨ x.op = 12 then some (1, 0, true) else
  if x.op = 11 then some (2, 0, true) else
  if x.op = 14 ∨ x.op = 15 then some (x.kids.length, 0, true) else
  if x.op = 16 then some (1, 0, true) else none
def shape (x : Ex) : Bool :=
  if x.op = 7 ∨ x.op = 13 then altsOk x && x.binds.length == 0 && x.n == 0 else
  match wants x with
  | none => false
  | some (k, b, u) => (x.kids.length : Int) == k && (x.binds.length : Int) == b && x.alts.length == 0 && (u || x.n == 0)
def lowN (op : Int) : Int := if op = 1 then -1073741824 else if op = 17 then 1 else 0
def highN (op : Int) : Int := if op = 1 then 1073741823 else if op = 6 then 255 else if op = 17 then 6 else if op = 16 then 15 else 1048575
def identOk (n : Int) : Bool := between n 0 1048575
def altRange (op : Int) (a : Alt) : Bool := !((decide (255 < a.tag) && op == 7) || decide (1048576 ≤ a.tag)) && a.binds.all identOk
def fields (x : Ex) : Int := x.alts.foldl (fun f a => if (a.binds.length : Int) > f then a.binds.length else f) x.binds.length
def ranges (x : Ex) : Int :=
  if between x.n (lowN x.op) (highN x.op) = false then 4 else
  if x.binds.all identOk = false then 4 else
  if x.alts.all (altRange x.op) = false then 4 else
  if ((decide (fields x > (if x.op = 2 then 6 else 16)) || ((x.op == 6 || x.op == 15) && decide (16 < (x.kids.length : Int)))) || (x.op == 3 && decide (7 < (x.kids.length : Int)))) || (x.op == 14 && decide (6 < (x.kids.length : Int))) then 2 else 0
def bindBad (e : List Ex) (x : Ex) (i : Nat) : Bool :=
  (x.op == 5 && !((e.getD (x.kids.getD i 0).toNat ⟨0, 0, [], [], []⟩).op == 2)) || (x.op == 9 && decide (0 < i) && decide (x.binds.getD (i - 1) 0 ≥ x.binds.getD i 0))
def nodeErr (e : List Ex) (x : Ex) : Int :=
  if shape x = false then 3 else if ranges x ≠ 0 then ranges x else if (List.range x.binds.length).any (bindBad e x) = true then 3 else 0
def nodeErrF (flat : Bool) (e : List Ex) (x : Ex) : Int := if (flat && coreOnly x.op) || (!flat && flatOnly x.op) then 3 else nodeErr e x
def firstErr {α : Type} (f : α → Int) : List α → Int
  | [] => 0
  | a :: l => if f a ≠ 0 then f a else firstErr f l

/-- twice. -/
def hasDup : List Int → Bool
  | [] => false
  | n :: l => l.contains n || hasDup l
def exBinders (x : Ex) : List Int := bindersN x.op x.binds x.alts
def allBinders (e : List Ex) : List Int := e.flatMap exBinders

mutual
def occT (sc : List Int) : Tr → List Int
  | .mk o n b k a => (if o = 0 ∧ sc.contains n = false then [n] else []) ++ occTs sc o b a 0 k
def occTs (sc : List Int) (o : Int) (b : List Int) (a : List Alt) : Nat → List Tr → List Int
  | _, [] => []
  | i, t :: ts => occT (boundN o b a i ++ sc) t ++ occTs sc o b a (i + 1) ts
end
def insertS (n : Int) : List Int → List Int
  | [] => [n]
  | m :: l => if n < m then n :: m :: l else if n = m then m :: l else m :: insertS n l
def sortS (l : List Int) : List Int := l.foldr insertS []
def freeOf (t : Tr) : List Int := sortS (occT [] t)

/-- Body and Check. -/
def body (e : List Ex) (params : List Int) (flat : Bool) : Int :=
  if treeErr e ≠ 0 then treeErr e else
  if firstErr (nodeErrF flat e) e ≠ 0 then firstErr (nodeErrF flat e) e else
  if hasDup (params ++ allBinders e) = true then 7 else
  if (freeOf (grow e)).all (fun n => params.contains n) = true then 0 else 6
def check (e : List Ex) : Int := body e [] false
end Go.CoreX
/- Core expressions as plain data: an expression in order is the same expression. No condition. -/
namespace Go.CoreX
set_option linter.unusedVariables false
set_option linter.unusedSimpArgs false
/-- The label of a node: all that is said of it but where its kids lie. -/
structure Lab where
  op : Int
  n : Int
  binds : List Int
  ops : List Int
  alts : List Alt
  deriving DecidableEq
mutual
def sumT (g : Lab → Int) : Tr → Int
  | .mk o n b k a => g ⟨o, n, b, k.map Tr.op, a⟩ + sumTs g k
def sumTs (g : Lab → Int) : List Tr → Int
  | [] => 0
  | t :: ts => sumT g t + sumTs g ts
end
def mx (m d : Int) : Int := if d > m then d else m
mutual
def depthT : Tr → Int
  | .mk _ _ _ k _ => (depthTs k).foldl mx 0 + 1
def depthTs : List Tr → List Int
  | [] => []
  | t :: ts => depthT t :: depthTs ts
end
theorem depthTs_eq : ∀ l : List Tr, depthTs l = l.map depthT
  | [] => rfl
  | t :: ts => by simp [depthTs, depthTs_eq ts]
theorem sumTs_eq (g : Lab → Int) : ∀ l : List Tr, sumTs g l = (l.map (sumT g)).sum
  | [] => rfl
  | t :: ts => by simp [sumTs, sumTs_eq g ts]
theorem growL_snoc (e : List Ex) (x : Ex) : growL (e ++ [x]) = growL e ++ [nodeOf (growL e) x] := by simp [growL, growStep]
theorem snoc_ind {α : Type} {P : List α → Prop} (h0 : P []) (h1 : ∀ l x, P l → P (l ++ [x])) (l : List α) : P l := by
  have : ∀ l : List α, P l.reverse := by
    intro l
    induction l with
    | nil => exact h0
    | cons a l ih => rw [List.reverse_cons]; exact h1 _ _ ih
  simpa using this l.reverse
theorem growL_len (e : List Ex) : (growL e).length = e.length := by
  refine snoc_ind (P := fun e => (growL e).length = e.length) rfl (fun l x ih => ?_) e
  rw [growL_snoc]; simp [ih]
theorem growL_app (e l : List Ex) : ∃ r, growL (e ++ l) = growL e ++ r := by
  refine snoc_ind (P := fun l => ∃ r, growL (e ++ l) = growL e ++ r) ⟨[], by simp⟩ (fun l x ih => ?_) l
  obtain ⟨r, h⟩ := ih
  exact ⟨r ++ [nodeOf (growL (e ++ l)) x], by rw [← List.append_assoc, growL_snoc, h]; simp⟩
theorem getD_app {α : Type} {l r : List α} {i : Nat} {d : α} (h : i < l.length) : (l ++ r).getD i d = l.getD i d := by
  simp [List.getD, List.getElem?_append_left h]
theorem growL_get {e l : List Ex} {i : Nat} (h : i < e.length) : (growL (e ++ l)).getD i default = (growL e).getD i default := by
  obtain ⟨r, hr⟩ := growL_app e l
  rw [hr, getD_app (by rw [growL_len]; exact h)]
theorem growL_at (e l : List Ex) (x : Ex) : (growL (e ++ x :: l)).getD e.length default = nodeOf (growL e) x := by
  rw [show e ++ x :: l = (e ++ [x]) ++ l by simp, growL_get (by simp), growL_snoc]
  simp [List.getD, growL_len]
theorem grow_snoc (e : List Ex) (x : Ex) : grow (e ++ [x]) = nodeOf (growL e) x := by
  unfold grow
  have := growL_at e [] x
  simpa using this
/-- How often a node is a kid. -/
def cnt : List Ex → Nat → Nat
  | [], _ => 0
  | x :: e, i => x.kids.count (i : Int) + cnt e i
theorem cnt_app (e l : List Ex) (i : Nat) : cnt (e ++ l) i = cnt e i + cnt l i := by
  induction e with
  | nil => simp [cnt]
  | cons x e ih => simp [cnt, ih, Nat.add_assoc]
def kidsIn (e : List Ex) : Prop := ∀ (j : Nat) (x : Ex), e[j]? = some x → ∀ k ∈ x.kids, 0 ≤ k ∧ k < (j : Int)
theorem kidsIn_snoc {e : List Ex} {x : Ex} : kidsIn (e ++ [x]) ↔ kidsIn e ∧ ∀ k ∈ x.kids, 0 ≤ k ∧ k < e.length := by
  constructor
  · intro h
    refine ⟨fun j y hj => h j y ?_, ?_⟩
    · rw [List.getElem?_append_left (List.getElem?_eq_some_iff.1 hj).1]; exact hj
    · exact h e.length x (by simp)
  · intro ⟨h1, h2⟩ j y hj
    by_cases hl : j < e.length
    · rw [List.getElem?_append_left hl] at hj; exact h1 j y hj
    · rw [List.getElem?_append_right (by omega)] at hj
      have : j = e.length := by
        have := (List.getElem?_eq_some_iff.1 hj).1
        simp at this; omega
      subst this
      simp at hj; subst hj; exact h2
theorem kidsIn_pre {e l : List Ex} (h : kidsIn (e ++ l)) : kidsIn e := fun j y hj => h j y (by
  rw [List.getElem?_append_left (List.getElem?_eq_some_iff.1 hj).1]; exact hj)

/-- What is known when some nodes have been looked at. -/
structure Run (pre : List Ex) (N : Nat) (d p : List Int) : Prop where
  dl : d.length = N
  pl : p.length = N
  pv : ∀ i, i < N → p.getD i 0 = cnt pre i
  dv : ∀ i, i < pre.length → d.getD i 0 = depthT ((growL pre).getD i default)
  d0 : ∀ i, pre.length ≤ i → d.getD i 0 = 0
theorem kidStep_none (i : Nat) : ∀ ks : List Int, ks.foldl (kidStep i) none = none
  | [] => rfl
  | k :: ks => by rw [List.foldl_cons]; exact kidStep_none i ks
theorem getD_set_eq {l : List Int} {i : Nat} {v : Int} (h : i < l.length) : (l.set i v).getD i 0 = v := by simp [List.getD, h]
theorem getD_set_ne {l : List Int} {i j : Nat} {v : Int} (h : i ≠ j) : (l.set i v).getD j 0 = l.getD j 0 := by simp [List.getD, List.getElem?_set_ne h]
theorem set_getD {l : List Int} {i : Nat} (h : i < l.length) : l.set i (l.getD i 0) = l := by
  apply List.ext_getElem?
  intro j
  by_cases hj : i = j
  · subst hj; simp [h, List.getD, List.getElem?_eq_getElem h]
  · rw [List.getElem?_set_ne hj]
theorem kids_run {i N : Nat} : ∀ (ks : List Int) (d p : List Int), d.length = N → p.length = N → i < N → (∀ k ∈ ks, 0 ≤ k ∧ k < i) →
    ∃ p', ks.foldl (kidStep i) (some (d, p)) = some (d.set i (ks.foldl (fun m k => mx m (d.getD k.toNat 0)) (d.getD i 0)), p') ∧ p'.length = N ∧ ∀ j, j < N → p'.getD j 0 = p.getD j 0 + ks.count (j : Int)
  | [], d, p, hd, hp, hi, _ => ⟨p, by rw [List.foldl_nil, List.foldl_nil, set_getD (show i < d.length by omega)], hp, by simp⟩
  | k :: ks, d, p, hd, hp, hi, hk => by
    obtain ⟨k0, k1⟩ := hk k (by simp)
    have hks : ∀ k ∈ ks, 0 ≤ k ∧ k < i := fun y hy => hk y (by simp [hy])
    obtain ⟨p', h1, h2, h3⟩ := kids_run ks (d.set i (mx (d.getD i 0) (d.getD k.toNat 0))) (p.set k.toNat (p.getD k.toNat 0 + 1)) (by simpa using hd) (by simpa using hp) hi hks
    refine ⟨p', ?_, h2, fun j hj => ?_⟩
    · rw [List.foldl_cons]
      have e1 : kidStep i (some (d, p)) k = some (d.set i (mx (d.getD i 0) (d.getD k.toNat 0)), p.set k.toNat (p.getD k.toNat 0 + 1)) := by
        simp only [kidStep, Option.bind_some, mx]
        rw [if_neg (by omega)]
      rw [e1, h1, List.set_set, getD_set_eq (by omega), List.foldl_cons]
      congr 2
      have : ∀ (l : List Int) (m : Int), (∀ k ∈ l, 0 ≤ k ∧ k < i) → l.foldl (fun m k' => mx m ((d.set i (mx (d.getD i 0) (d.getD k.toNat 0))).getD k'.toNat 0)) m = l.foldl (fun m k' => mx m (d.getD k'.toNat 0)) m := by
        intro l
        induction l with
        | nil => intro m _; rfl
        | cons y l ih =>
          intro m hl
          have hy := hl y (by simp)
          simp only [List.foldl_cons]
          rw [getD_set_ne (by omega), ih _ (fun z hz => hl z (by simp [hz]))]
      rw [this ks _ hks]
    · rw [h3 j hj, List.count_cons]
      by_cases hkj : k.toNat = j
      · subst hkj
        rw [getD_set_eq (by omega)]
        have : (k == ((k.toNat : Nat) : Int)) = true := by simp; omega
        rw [if_pos this]; omega
      · rw [getD_set_ne hkj]
        have : ¬ (k == (j : Int)) = true := by simp; omega
        rw [if_neg this]; omega
theorem kids_bad {i N : Nat} : ∀ (ks : List Int) (d p : List Int), ¬ (∀ k ∈ ks, 0 ≤ k ∧ k < i) → ks.foldl (kidStep i) (some (d, p)) = none
  | [], d, p, h => absurd (by simp) h
  | k :: ks, d, p, h => by
    rw [List.foldl_cons]
    by_cases hk : 0 ≤ k ∧ k < i
    · have e1 : kidStep i (some (d, p)) k = some (d.set i (mx (d.getD i 0) (d.getD k.toNat 0)), p.set k.toNat (p.getD k.toNat 0 + 1)) := by
        simp only [kidStep, Option.bind_some, mx]
        rw [if_neg (by omega)]
      rw [e1]
      refine kids_bad (N := N) ks _ _ fun h2 => h ?_
      intro y hy
      rcases List.mem_cons.1 hy with rfl | hy
      · exact hk
      · exact h2 y hy
    · have e1 : kidStep i (some (d, p)) k = none := by
        simp only [kidStep, Option.bind_some]
        rw [if_pos (by omega)]
      rw [e1, kidStep_none]
theorem foldl_kids (f : Int → Int) : ∀ (l : List Int) (m : Int), l.foldl (fun m k => mx m (f k)) m = (l.map f).foldl mx m
  | [], _ => rfl
  | k :: l, m => by simp [foldl_kids f l]
theorem depthT_nodeOf (ts : List Tr) (x : Ex) : depthT (nodeOf ts x) = (x.kids.map fun k => depthT (ts.getD k.toNat default)).foldl mx 0 + 1 := by
  simp only [nodeOf, depthT, depthTs_eq, List.map_map]; rfl
theorem Run.step {pre : List Ex} {N : Nat} {d p : List Int} {x : Ex} (h : Run pre N d p) (hN : pre.length < N) (hk : ∀ k ∈ x.kids, 0 ≤ k ∧ k < pre.length) : ∃ d' p', nodeStep (some (d, p)) (x, pre.length) = some (d', p') ∧ Run (pre ++ [x]) N d' p' := by
  obtain ⟨p', h1, h2, h3⟩ := kids_run x.kids d p h.dl h.pl hN hk
  have hdl := h.dl
  refine ⟨_, p', by simp only [nodeStep, h1, Option.map_some]; rfl, by simpa using hdl, h2, fun i hi => ?_, fun i hi => ?_, fun i hi => ?_⟩
  · rw [h3 i hi, h.pv i hi, cnt_app]; simp [cnt]
  · rw [List.set_set]
    simp only [List.length_append, List.length_singleton] at hi
    by_cases e : pre.length = i
    · subst e
      rw [getD_set_eq (by omega), getD_set_eq (by omega), growL_at pre [] x, depthT_nodeOf, h.d0 _ (Nat.le_refl _), foldl_kids]
      congr 2
      refine List.map_congr_left fun k hk2 => ?_
      have := hk k hk2
      exact h.dv _ (by omega)
    · rw [getD_set_ne e, growL_get (by omega), h.dv i (by omega)]
  · simp only [List.length_append, List.length_singleton] at hi
    rw [List.set_set, getD_set_ne (by omega), h.d0 i (by omega)]
theorem nodeStep_none (l : List (Ex × Nat)) : l.foldl nodeStep none = none := by
  induction l with
  | nil => rfl
  | cons x l ih =>
    have : nodeStep none x = none := by simp [nodeStep, kidStep_none]
    rw [List.foldl_cons, this, ih]
theorem run_spec {N : Nat} : ∀ (l pre : List Ex) (d p : List Int), Run pre N d p → kidsIn pre → pre.length + l.length = N →
    (kidsIn (pre ++ l) ∧ ∃ d' p', (l.zipIdx pre.length).foldl nodeStep (some (d, p)) = some (d', p') ∧ Run (pre ++ l) N d' p') ∨ (¬ kidsIn (pre ++ l) ∧ (l.zipIdx pre.length).foldl nodeStep (some (d, p)) = none)
  | [], pre, d, p, h, hk, _ => .inl ⟨by simpa using hk, d, p, rfl, by simpa using h⟩
  | x :: l, pre, d, p, h, hk, hN => by
    rw [List.zipIdx_cons, List.foldl_cons]
    simp only [List.length_cons] at hN
    by_cases hx : ∀ k ∈ x.kids, 0 ≤ k ∧ k < pre.length
    · obtain ⟨d1, p1, e1, h1⟩ := h.step (by omega) hx
      rw [e1]
      have := run_spec l (pre ++ [x]) d1 p1 h1 (kidsIn_snoc.2 ⟨hk, hx⟩) (by simp; omega)
      simpa [List.append_assoc] using this
    · right
      have e1 : nodeStep (some (d, p)) (x, pre.length) = none := by simp only [nodeStep, kids_bad (N := N) x.kids d p hx, Option.map_none]
      rw [e1, nodeStep_none]
      refine ⟨fun h2 => hx ?_, rfl⟩
      exact h2 pre.length x (by simp)
theorem treeRun_spec (e : List Ex) : (kidsIn e ∧ ∃ d p, treeRun e = some (d, p) ∧ Run e e.length d p) ∨ (¬ kidsIn e ∧ treeRun e = none) := by
  have h0 : Run [] e.length (List.replicate e.length 0) (List.replicate e.length 0) := by
    have z : ∀ i, (List.replicate e.length (0 : Int)).getD i 0 = 0 := fun i => by
      simp only [List.getD]
      rw [List.getElem?_replicate]; split <;> rfl
    exact ⟨by simp, by simp, fun i _ => by rw [z]; rfl, fun i hi => by simp at hi, fun i _ => z i⟩
  have := run_spec e [] _ _ h0 (fun j x hj => by simp at hj) (by simp)
  simpa [treeRun] using this
/-- A list that is a tree. -/
structure IsTree (e : List Ex) : Prop where
  ne : e ≠ []
  k : kidsIn e
  c : ∀ i, i < e.length → (cnt e i = 1 ↔ i + 1 < e.length)
theorem treeErr_iff (e : List Ex) : treeErr e = 0 ↔ e.length ≤ 4096 ∧ IsTree e ∧ depthT (grow e) ≤ 400 := by
  unfold treeErr
  by_cases h1 : 4096 < e.length
  · rw [if_pos h1]; exact ⟨fun h => absurd h (by decide), fun h => by omega⟩
  rw [if_neg h1]
  by_cases h2 : e.length = 0
  · rw [if_pos h2]
    exact ⟨fun h => absurd h (by decide), fun h => absurd (List.length_eq_zero_iff.1 h2) h.2.1.ne⟩
  rw [if_neg h2]
  rcases treeRun_spec e with ⟨hk, d, p, h3, hr⟩ | ⟨hk, h3⟩
  · rw [h3]
    have hd : d.getD (e.length - 1) 0 = depthT (grow e) := hr.dv _ (by omega)
    have hodd : (List.range e.length).any (oddParent e.length p) = true ↔ ¬ ∀ i, i < e.length → (cnt e i = 1 ↔ i + 1 < e.length) := by
      rw [List.any_eq_true]
      constructor
      · rintro ⟨i, hi, hb⟩ h
        have hi' : i < e.length := by simpa using hi
        have := h i hi'
        have hc := hr.pv i hi'
        simp only [oddParent, Bool.not_eq_true', beq_eq_false_iff_ne, ne_eq] at hb
        apply hb
        rw [Bool.eq_iff_iff, beq_iff_eq, decide_eq_true_iff, hc]
        omega
      · intro h
        simp only [Classical.not_forall] at h
        obtain ⟨i, hi, hne⟩ := h
        refine ⟨i, by simpa using hi, ?_⟩
        have hc := hr.pv i hi
        simp only [oddParent, Bool.not_eq_true', beq_eq_false_iff_ne, ne_eq]
        intro hb
        rw [Bool.eq_iff_iff, beq_iff_eq, decide_eq_true_iff, hc] at hb
        apply hne
        omega
    simp only
    by_cases h4 : (List.range e.length).any (oddParent e.length p) = true
    · rw [if_pos h4]
      exact ⟨fun h => absurd h (by decide), fun h => absurd h.2.1.c (hodd.1 h4)⟩
    · rw [if_neg h4, hd]
      have hc : ∀ i, i < e.length → (cnt e i = 1 ↔ i + 1 < e.length) := by
        apply Classical.byContradiction
        intro hn
        exact h4 (hodd.2 hn)
      by_cases h5 : 400 < depthT (grow e)
      · rw [if_pos h5]; exact ⟨fun h => absurd h (by decide), fun h => by omega⟩
      · rw [if_neg h5]
        exact ⟨fun _ => ⟨by omega, ⟨fun h => h2 (by simp [h]), hk, hc⟩, by omega⟩, fun _ => rfl⟩
  · rw [h3]
    simp only
    exact ⟨fun h => absurd h (by decide), fun h => absurd h.2.1.k hk⟩

/-- Weighted sums of a list of values. -/
def wsum (c : Nat → Int) : Nat → List Int → Int
  | _, [] => 0
  | j, v :: vs => c j * v + wsum c (j + 1) vs
theorem wsum_app (c : Nat → Int) : ∀ (vs us : List Int) (j : Nat), wsum c j (vs ++ us) = wsum c j vs + wsum c (j + vs.length) us
  | [], us, j => by simp [wsum]
  | v :: vs, us, j => by
    simp only [List.cons_append, wsum, wsum_app c vs us, List.length_cons]
    rw [show j + 1 + vs.length = j + (vs.length + 1) by omega]; omega
theorem wsum_congr {c c' : Nat → Int} : ∀ (vs : List Int) (j : Nat), (∀ i, j ≤ i → i < j + vs.length → c i = c' i) → wsum c j vs = wsum c' j vs
  | [], _, _ => rfl
  | v :: vs, j, h => by
    simp only [wsum]
    rw [h j (by omega) (by simp), wsum_congr vs (j + 1) (fun i h1 h2 => h i (by omega) (by simp; omega))]
theorem wsum_sub (c c' : Nat → Int) : ∀ (vs : List Int) (j : Nat), wsum (fun i => c i - c' i) j vs = wsum c j vs - wsum c' j vs
  | [], _ => by simp [wsum]
  | v :: vs, j => by
    simp only [wsum, wsum_sub c c' vs, Int.sub_mul]; omega
theorem wsum_add (c c' : Nat → Int) : ∀ (vs : List Int) (j : Nat), wsum (fun i => c i + c' i) j vs = wsum c j vs + wsum c' j vs
  | [], _ => by simp [wsum]
  | v :: vs, j => by
    simp only [wsum, wsum_add c c' vs, Int.add_mul]; omega
theorem wsum_zero {c : Nat → Int} : ∀ (vs : List Int) (j : Nat), (∀ i, j ≤ i → i < j + vs.length → c i = 0) → wsum c j vs = 0
  | [], _, _ => rfl
  | v :: vs, j, h => by
    simp only [wsum]
    rw [h j (by omega) (by simp), wsum_zero vs (j + 1) (fun i h1 h2 => h i (by omega) (by simp; omega))]; omega
theorem wsum_one (k : Int) : ∀ (vs : List Int) (j : Nat), (j : Int) ≤ k → k < j + vs.length → wsum (fun i => if k = (i : Int) then 1 else 0) j vs = vs.getD (k.toNat - j) 0
  | [], j, h1, h2 => by simp at h2; omega
  | v :: vs, j, h1, h2 => by
    simp only [wsum]
    by_cases e : k = j
    · subst e
      rw [wsum_zero vs (j + 1) (fun i h3 h4 => if_neg (by omega))]
      simp [List.getD]
    · rw [if_neg e, wsum_one k vs (j + 1) (by omega) (by simp at h2; omega)]
      rw [show k.toNat - j = (k.toNat - (j + 1)) + 1 by omega]
      simp [List.getD]
theorem wsum_count (vs : List Int) : ∀ ks : List Int, (∀ k ∈ ks, 0 ≤ k ∧ k < vs.length) → wsum (fun i => ((ks.count (i : Int) : Nat) : Int)) 0 vs = (ks.map fun k => vs.getD k.toNat 0).sum
  | [], _ => by simp; exact wsum_zero vs 0 (fun _ _ _ => by simp)
  | k :: ks, h => by
    have hk := h k (by simp)
    have e : wsum (fun i => (((k :: ks).count (i : Int) : Nat) : Int)) 0 vs = wsum (fun i => (if k = (i : Int) then 1 else 0) + ((ks.count (i : Int) : Nat) : Int)) 0 vs := by
      refine wsum_congr vs 0 fun i _ _ => ?_
      rw [List.count_cons]
      by_cases e : k = (i : Int)
      · simp [e]; omega
      · simp [e]
    rw [e, wsum_add, wsum_one k vs 0 (by omega) (by omega), wsum_count vs ks (fun y hy => h y (by simp [hy]))]
    simp
/-- The labels of the nodes of a list. -/
def labE (e : List Ex) (x : Ex) : Lab := ⟨x.op, x.n, x.binds, x.kids.map (fun k => ((growL e).getD k.toNat default).op), x.alts⟩
def labs (e : List Ex) : List Lab := e.map (labE e)
theorem labs_snoc {e : List Ex} {x : Ex} (h : kidsIn (e ++ [x])) : labs (e ++ [x]) = labs e ++ [labE e x] := by
  obtain ⟨h1, h2⟩ := kidsIn_snoc.1 h
  have same : ∀ y : Ex, (∀ k ∈ y.kids, 0 ≤ k ∧ k < e.length) → labE (e ++ [x]) y = labE e y := by
    intro y hy
    simp only [labE, Lab.mk.injEq, true_and, and_true]
    refine List.map_congr_left fun k hk => ?_
    have := hy k hk
    rw [growL_get (by omega)]
  simp only [labs, List.map_append, List.map_cons, List.map_nil]
  rw [same x h2]
  congr 1
  refine List.map_congr_left fun y hy => same y fun k hk => ?_
  obtain ⟨j, hj⟩ := List.mem_iff_getElem?.1 hy
  have := h1 j y hj k hk
  have hl := (List.getElem?_eq_some_iff.1 hj).1
  omega
theorem sumT_nodeOf (g : Lab → Int) (e : List Ex) (x : Ex) : sumT g (nodeOf (growL e) x) = g (labE e x) + (x.kids.map fun k => sumT g ((growL e).getD k.toNat default)).sum := by
  simp only [nodeOf, sumT, sumTs_eq, labE, List.map_map]; rfl
theorem sum_pre (g : Lab → Int) (e : List Ex) (h : kidsIn e) : wsum (fun i => 1 - (cnt e i : Int)) 0 ((growL e).map (sumT g)) = ((labs e).map g).sum := by
  revert h
  refine snoc_ind (P := fun e => kidsIn e → wsum (fun i => 1 - (cnt e i : Int)) 0 ((growL e).map (sumT g)) = ((labs e).map g).sum) (fun _ => rfl) (fun e x ih h => ?_) e
  obtain ⟨h1, h2⟩ := kidsIn_snoc.1 h
  have ih := ih h1
  have hlen : ((growL e).map (sumT g)).length = e.length := by simp [growL_len]
  have hz : cnt (e ++ [x]) e.length = 0 := by
    have : ∀ (l : List Ex) (n : Nat), (∀ y ∈ l, ∀ k ∈ y.kids, k < (n : Int)) → cnt l n = 0 := by
      intro l
      induction l with
      | nil => intro n _; rfl
      | cons y l ih2 =>
        intro n hl
        simp only [cnt]
        rw [ih2 n (fun z hz => hl z (by simp [hz])), Nat.add_zero, List.count_eq_zero]
        intro hm
        have := hl y (by simp) _ hm
        omega
    refine this _ _ fun y hy k hk => ?_
    obtain ⟨j, hj⟩ := List.mem_iff_getElem?.1 hy
    have := h j y hj k hk
    have hl := (List.getElem?_eq_some_iff.1 hj).1
    simp at hl
    omega
  rw [growL_snoc, List.map_append, wsum_app, hlen, labs_snoc h, List.map_append, List.sum_append, ← ih]
  simp only [List.map_cons, List.map_nil, wsum, Nat.zero_add, hz, List.sum_cons, List.sum_nil, sumT_nodeOf]
  have e1 : wsum (fun i => 1 - (cnt (e ++ [x]) i : Int)) 0 ((growL e).map (sumT g)) = wsum (fun i => (1 - (cnt e i : Int)) - ((x.kids.count (i : Int) : Nat) : Int)) 0 ((growL e).map (sumT g)) := by
    refine wsum_congr _ 0 fun i _ _ => ?_
    rw [cnt_app]; simp [cnt]; omega
  rw [e1, wsum_sub, wsum_count _ _ (fun k hk => by rw [hlen]; exact h2 k hk)]
  have e2 : (x.kids.map fun k => ((growL e).map (sumT g)).getD k.toNat 0) = x.kids.map fun k => sumT g ((growL e).getD k.toNat default) := by
    refine List.map_congr_left fun k hk => ?_
    have := h2 k hk
    have hl : k.toNat < (growL e).length := by rw [growL_len]; omega
    simp [List.getD, List.getElem?_eq_getElem hl]
  rw [e2]
  omega
theorem cnt_last {e : List Ex} (h : kidsIn e) {n : Nat} (hn : e.length ≤ n + 1) : cnt e n = 0 := by
  have : ∀ (l : List Ex), (∀ y ∈ l, ∀ k ∈ y.kids, k < (n : Int)) → cnt l n = 0 := by
    intro l
    induction l with
    | nil => intro _; rfl
    | cons y l ih2 =>
      intro hl
      simp only [cnt]
      rw [ih2 (fun z hz => hl z (by simp [hz])), Nat.add_zero, List.count_eq_zero]
      intro hm
      have := hl y (by simp) _ hm
      omega
  refine this _ fun y hy k hk => ?_
  obtain ⟨j, hj⟩ := List.mem_iff_getElem?.1 hy
  have := h j y hj k hk
  have hl := (List.getElem?_eq_some_iff.1 hj).1
  omega
/-- A SUM OVER THE NODES IS ONE OVER THE TREE. -/
theorem sum_tree (g : Lab → Int) {e : List Ex} (h : IsTree e) : ((labs e).map g).sum = sumT g (grow e) := by
  rw [← sum_pre g e h.k]
  obtain ⟨pre, x, rfl⟩ : ∃ pre x, e = pre ++ [x] := ⟨e.dropLast, e.getLast h.ne, (List.dropLast_concat_getLast h.ne).symm⟩
  rw [growL_snoc, List.map_append, wsum_app]
  rw [wsum_zero _ 0 (fun i _ hi => ?_), grow_snoc]
  · simp only [List.map_cons, List.map_nil, wsum, List.length_map, growL_len, Nat.zero_add]
    rw [cnt_last h.k (by simp)]; omega
  · have hi : i < pre.length := by simpa [growL_len] using hi
    have := (h.c i (by simp; omega)).2 (by simp; omega)
    rw [this]; rfl
end Go.CoreX
/- Core expressions as plain data: the list of a tree. No condition. -/
namespace Go.CoreX
set_option linter.unusedVariables false
set_option linter.unusedSimpArgs false
structure OkT (out : List Ex) (t : Tr) : Prop where
  lt : out.length < (listT out t).length
  k : kidsIn (listT out t)
  g : ∃ r, growL (listT out t) = growL out ++ r ++ [t]
  c : ∀ i, cnt (listT out t) i = cnt out i + if out.length ≤ i ∧ i + 1 < (listT out t).length then 1 else 0
structure OkTs (out : List Ex) (ts : List Tr) : Prop where
  le : out.length ≤ (listTs out ts).1.length
  k : kidsIn (listTs out ts).1
  g : ∃ r, growL (listTs out ts).1 = growL out ++ r
  ix : ∀ k ∈ (listTs out ts).2, (out.length : Int) ≤ k ∧ k < (listTs out ts).1.length
  m : (listTs out ts).2.map (fun k => (growL (listTs out ts).1).getD k.toNat default) = ts
  c : ∀ i, cnt (listTs out ts).1 i + (listTs out ts).2.count (i : Int) = cnt out i + if out.length ≤ i ∧ i < (listTs out ts).1.length then 1 else 0
mutual
theorem listT_ok : ∀ (t : Tr) (out : List Ex), kidsIn out → OkT out t
  | .mk o n b ks a, out, h => by
    have H := listTs_ok ks out h
    have e : listT out (.mk o n b ks a) = (listTs out ks).1 ++ [⟨o, n, b, (listTs out ks).2, a⟩] := by simp only [listT]
    refine ⟨?_, ?_, ?_, fun i => ?_⟩
    · rw [e]; have := H.le; simp; omega
    · rw [e, kidsIn_snoc]
      refine ⟨H.k, fun k hk => ?_⟩
      have := H.ix k hk
      exact ⟨by omega, this.2⟩
    · obtain ⟨r, hr⟩ := H.g
      refine ⟨r, ?_⟩
      rw [e, growL_snoc]
      have : nodeOf (growL (listTs out ks).1) ⟨o, n, b, (listTs out ks).2, a⟩ = .mk o n b ks a := by
        simp only [nodeOf, Tr.mk.injEq, true_and, and_true]; exact H.m
      rw [this, hr]
    · rw [e, cnt_app]
      have := H.c i
      simp only [cnt, Nat.add_zero, List.length_append, List.length_singleton]
      rw [this]
      congr 1
      by_cases h1 : out.length ≤ i ∧ i < (listTs out ks).1.length
      · rw [if_pos h1, if_pos (by omega)]
      · rw [if_neg h1, if_neg (by omega)]
theorem listTs_ok : ∀ (ts : List Tr) (out : List Ex), kidsIn out → OkTs out ts
  | [], out, h => ⟨by simp [listTs], by simpa [listTs] using h, ⟨[], by simp [listTs]⟩, by simp [listTs], by simp [listTs], fun i => by
      have e1 : (listTs out []).1 = out := by simp only [listTs]
      have e2 : (listTs out []).2 = [] := by simp only [listTs]
      rw [e1, e2, if_neg (by omega)]; rfl⟩
  | t :: ts, out, h => by
    have H1 := listT_ok t out h
    have H2 := listTs_ok ts (listT out t) H1.k
    have e1 : (listTs out (t :: ts)).1 = (listTs (listT out t) ts).1 := by simp only [listTs]
    have e2 : (listTs out (t :: ts)).2 = (((listT out t).length : Int) - 1) :: (listTs (listT out t) ts).2 := by simp only [listTs]
    have l1 := H1.lt
    have l2 := H2.le
    obtain ⟨r1, g1⟩ := H1.g
    obtain ⟨r2, g2⟩ := H2.g
    refine ⟨by rw [e1]; omega, by rw [e1]; exact H2.k, ⟨r1 ++ [t] ++ r2, ?_⟩, ?_, ?_, fun i => ?_⟩
    · rw [e1, g2, g1]; simp
    · intro k hk
      rw [e2] at hk
      rw [e1]
      rcases List.mem_cons.1 hk with rfl | hk
      · omega
      · have := H2.ix k hk; omega
    · rw [e1, e2, List.map_cons, H2.m]
      congr 1
      have hl : (growL (listT out t)).length = (listT out t).length := growL_len _
      have hl2 : (growL out ++ r1).length + 1 = (listT out t).length := by rw [← hl, g1]; simp; omega
      rw [g2, getD_app (by rw [hl]; omega), g1]
      have : ((((listT out t).length : Int) - 1)).toNat = (growL out ++ r1).length := by omega
      rw [this]
      simp [List.getD]
    · rw [e1, e2, List.count_cons]
      have c2 := H2.c i
      have c1 := H1.c i
      have hh : (((((listT out t).length : Int) - 1) == (i : Int)) = true) ↔ i + 1 = (listT out t).length := by
        rw [beq_iff_eq]; omega
      by_cases h1 : i + 1 = (listT out t).length
      · rw [if_pos (hh.2 h1)]
        rw [if_neg (by omega)] at c2
        rw [if_neg (by omega)] at c1
        rw [if_pos (by omega)]
        omega
      · rw [if_neg (fun h => h1 (hh.1 h))]
        by_cases h2 : out.length ≤ i ∧ i + 1 < (listT out t).length
        · rw [if_pos h2] at c1
          rw [if_neg (by omega)] at c2
          rw [if_pos (by omega)]
          omega
        · rw [if_neg h2] at c1
          by_cases h3 : (listT out t).length ≤ i ∧ i < (listTs (listT out t) ts).1.length
          · rw [if_pos h3] at c2
            rw [if_pos (by omega)]
            omega
          · rw [if_neg h3] at c2
            rw [if_neg (by omega)]
            omega
end
theorem kidsIn_nil : kidsIn [] := fun j x hj => by simp at hj
theorem grow_list (t : Tr) : grow (listT [] t) = t := by
  have H := listT_ok t [] kidsIn_nil
  obtain ⟨r, hr⟩ := H.g
  have hl : (growL (listT [] t)).length = (listT [] t).length := growL_len _
  unfold grow
  rw [hr] at hl ⊢
  have : (listT [] t).length - 1 = (growL [] ++ r).length := by simp at hl ⊢; omega
  rw [this]
  simp [List.getD]
theorem isTree_list (t : Tr) : IsTree (listT [] t) := by
  have H := listT_ok t [] kidsIn_nil
  refine ⟨fun h => ?_, H.k, fun i hi => ?_⟩
  · have := H.lt; rw [h] at this; simp at this
  · rw [H.c i]
    simp only [cnt, List.length_nil, Nat.zero_le, true_and, Nat.zero_add]
    split <;> omega
/-- Two lists of one tree hold the same nodes. -/
theorem sum_count (ls : List Lab) (l0 : Lab) : (ls.map fun l => if l = l0 then (1 : Int) else 0).sum = ls.count l0 := by
  induction ls with
  | nil => rfl
  | cons l ls ih =>
    simp only [List.map_cons, List.sum_cons, ih, List.count_cons]
    by_cases e : l = l0
    · simp [e]; omega
    · simp [e]
theorem labs_perm {e f : List Ex} (he : IsTree e) (hf : IsTree f) (h : grow e = grow f) : (labs e).Perm (labs f) := by
  rw [List.perm_iff_count]
  intro l0
  have h1 := sum_tree (fun l => if l = l0 then (1 : Int) else 0) he
  have h2 := sum_tree (fun l => if l = l0 then (1 : Int) else 0) hf
  rw [sum_count] at h1 h2
  rw [h] at h1
  omega
theorem len_labs (e : List Ex) : (labs e).length = e.length := by simp [labs]
/-- The operation of a kid. -/
theorem op_grow (e : List Ex) : ∀ i, i < e.length → ((growL e).getD i default).op = (e.getD i ⟨0, 0, [], [], []⟩).op := by
  refine snoc_ind (P := fun e => ∀ i, i < e.length → ((growL e).getD i default).op = (e.getD i ⟨0, 0, [], [], []⟩).op) (fun i hi => by simp at hi) (fun e x ih i hi => ?_) e
  by_cases h : i < e.length
  · rw [growL_get h, ih i h, getD_app h]
  · have : i = e.length := by simp at hi; omega
    subst this
    rw [growL_at e [] x]
    simp [nodeOf, List.getD]
theorem shape_len {o n : Int} {b kx ky : List Int} {a : List Alt} (h : kx.length = ky.length) : shape ⟨o, n, b, kx, a⟩ = shape ⟨o, n, b, ky, a⟩ := by
  unfold shape wants altsOk altBad
  simp only [h]
theorem ranges_len {o n : Int} {b kx ky : List Int} {a : List Alt} (h : kx.length = ky.length) : ranges ⟨o, n, b, kx, a⟩ = ranges ⟨o, n, b, ky, a⟩ := by
  unfold ranges fields
  simp only [h]
theorem shape_rec' {x : Ex} (h : shape x = true) (h5 : x.op = 5) : x.kids.length = x.binds.length + 1 := by
  unfold shape wants at h
  simp [h5] at h
  omega
theorem nodeErrF_lab {flat : Bool} {e f : List Ex} {x y : Ex} (hx : ∀ k ∈ x.kids, 0 ≤ k ∧ k < (e.length : Int)) (hy : ∀ k ∈ y.kids, 0 ≤ k ∧ k < (f.length : Int)) (h : labE e x = labE f y) : nodeErrF flat e x = nodeErrF flat f y := by
  obtain ⟨o, n, b, kx, a⟩ := x
  obtain ⟨o', n', b', ky, a'⟩ := y
  simp only [labE, Lab.mk.injEq] at h
  obtain ⟨rfl, rfl, rfl, hk, rfl⟩ := h
  have hl : kx.length = ky.length := by have := congrArg List.length hk; simpa using this
  unfold nodeErrF nodeErr
  rw [shape_len hl, ranges_len hl]
  cases hs : shape ⟨o, n, b, ky, a⟩ with
  | false => simp
  | true =>
    have hb : (List.range b.length).any (bindBad e ⟨o, n, b, kx, a⟩) = (List.range b.length).any (bindBad f ⟨o, n, b, ky, a⟩) := by
      rw [Bool.eq_iff_iff, List.any_eq_true, List.any_eq_true]
      have key : ∀ i, i < b.length → bindBad e ⟨o, n, b, kx, a⟩ i = bindBad f ⟨o, n, b, ky, a⟩ i := by
        intro i hi
        unfold bindBad
        by_cases h5 : o = 5
        · have hr := shape_rec' hs h5
          simp only at hr
          obtain ⟨k, h1⟩ : ∃ k, kx[i]? = some k := ⟨kx[i]'(by omega), List.getElem?_eq_getElem _⟩
          obtain ⟨m, h2⟩ : ∃ k, ky[i]? = some k := ⟨ky[i]'(by omega), List.getElem?_eq_getElem _⟩
          have k1 := hx k (List.mem_of_getElem? h1)
          have k2 := hy m (List.mem_of_getElem? h2)
          have h3 := congrArg (fun l => l[i]?) hk
          simp only [List.getElem?_map, h1, h2, Option.map_some, Option.some.injEq] at h3
          rw [op_grow e _ (by omega), op_grow f _ (by omega)] at h3
          have e1 : kx.getD i 0 = k := by rw [List.getD_eq_getElem?_getD, h1]; rfl
          have e2 : ky.getD i 0 = m := by rw [List.getD_eq_getElem?_getD, h2]; rfl
          simp only [e1, e2, h3]
        · have : (o == 5) = false := by simpa using h5
          simp only [this, Bool.false_and]
      constructor
      · rintro ⟨i, hi, hb⟩; exact ⟨i, hi, by rw [← key i (by simpa using hi)]; exact hb⟩
      · rintro ⟨i, hi, hb⟩; exact ⟨i, hi, by rw [key i (by simpa using hi)]; exact hb⟩
    simp only [hb]
theorem firstErr_zero {α : Type} (f : α → Int) : ∀ l : List α, firstErr f l = 0 ↔ ∀ x ∈ l, f x = 0
  | [] => by simp [firstErr]
  | a :: l => by
    simp only [firstErr, List.mem_cons, forall_eq_or_imp]
    by_cases h : f a = 0
    · simp [h, firstErr_zero f l]
    · simp [h]
theorem hasDup_false : ∀ l : List Int, hasDup l = false ↔ l.Nodup
  | [] => by simp [hasDup]
  | n :: l => by simp [hasDup, List.nodup_cons, hasDup_false l]
theorem kids_lt {e : List Ex} (h : kidsIn e) {x : Ex} (hx : x ∈ e) : ∀ k ∈ x.kids, 0 ≤ k ∧ k < (e.length : Int) := by
  intro k hk
  obtain ⟨j, hj⟩ := List.mem_iff_getElem?.1 hx
  have := h j x hj k hk
  have hl := (List.getElem?_eq_some_iff.1 hj).1
  omega
theorem allBinders_labs (e : List Ex) : allBinders e = (labs e).flatMap fun l => bindersN l.op l.binds l.alts := by
  unfold allBinders labs
  rw [List.flatMap_map]; rfl
/-- What a check says does not hang on the order of the nodes. -/
theorem body_tree {e f : List Ex} {params : List Int} {flat : Bool} (hf : IsTree f) (h : grow e = grow f) (hb : body e params flat = 0) : body f params flat = 0 := by
  unfold body at hb ⊢
  by_cases h1 : treeErr e = 0
  · rw [if_neg (by simpa using h1)] at hb
    obtain ⟨t1, t2, t3⟩ := (treeErr_iff e).1 h1
    have hp := labs_perm t2 hf h
    have hl : e.length = f.length := by rw [← len_labs e, ← len_labs f]; exact hp.length_eq
    rw [if_neg (by rw [Classical.not_not]; exact (treeErr_iff f).2 ⟨by omega, hf, by rw [← h]; exact t3⟩)]
    by_cases h2 : firstErr (nodeErrF flat e) e = 0
    · rw [if_neg (by simpa using h2)] at hb
      have h2f : firstErr (nodeErrF flat f) f = 0 := by
        rw [firstErr_zero] at h2 ⊢
        intro y hy
        have hm : labE f y ∈ labs e := hp.mem_iff.2 (List.mem_map_of_mem hy)
        obtain ⟨x, hx, hxy⟩ := List.mem_map.1 hm
        rw [← nodeErrF_lab (kids_lt t2.k hx) (kids_lt hf.k hy) hxy]
        exact h2 x hx
      rw [if_neg (by simpa using h2f)]
      by_cases h3 : hasDup (params ++ allBinders e) = true
      · rw [if_pos h3] at hb; exact absurd hb (by decide)
      · rw [if_neg h3] at hb
        have hd : (params ++ allBinders e).Perm (params ++ allBinders f) := by
          rw [allBinders_labs, allBinders_labs]
          exact List.Perm.append_left _ (List.Perm.flatMap_right _ hp)
        have h3f : ¬ hasDup (params ++ allBinders f) = true := by
          intro h4
          have h5 := (hasDup_false _).1 (by simpa using h3)
          have h6 := (hasDup_false _).2 (hd.nodup_iff.1 h5)
          rw [h6] at h4; cases h4
        rw [if_neg h3f, ← h]
        exact hb
    · rw [if_pos h2] at hb; exact absurd hb h2
  · rw [if_pos h1] at hb; exact absurd hb h1
theorem body_isTree {e : List Ex} {params : List Int} {flat : Bool} (hb : body e params flat = 0) : IsTree e := by
  unfold body at hb
  by_cases h1 : treeErr e = 0
  · exact ((treeErr_iff e).1 h1).2.1
  · rw [if_pos h1] at hb; exact absurd hb h1
theorem check_list {e : List Ex} (h : check e = 0) : check (listT [] (grow e)) = 0 := body_tree (isTree_list _) (grow_list _).symm h
theorem len_list {e : List Ex} (h : check e = 0) : (listT [] (grow e)).length = e.length := by
  have hp := labs_perm (body_isTree h) (isTree_list (grow e)) (grow_list _).symm
  rw [← len_labs e, ← len_labs]; exact hp.length_eq.symm
end Go.CoreX
/- Core expressions as plain data: equal up to renaming. No condition. -/
namespace Go.CoreX
set_option linter.unusedVariables false
set_option linter.unusedSimpArgs false
abbrev Nm := Int → Option Int
def setN (m : Nm) (k v : Int) : Nm := fun j => if k = j then some v else m j
def putsN (m : Nm) : List Int → List Int → Nm
  | x :: xs, y :: ys => putsN (setN m x y) xs ys
  | _, _ => m
def altsLike : List Alt → List Alt → Bool
  | a :: l, b :: r => (a.tag == b.tag && a.binds.length == b.binds.length) && altsLike l r
  | _, _ => true
def unlike (o : Int) (nk nb na : Nat) (t : Tr) : Bool := !(o == t.op && nk == t.kids.length && nb == t.binds.length && na == t.alts.length)
def sameVar (m : Nm) (n n' : Int) : Bool := match m n with | some v => v == n' | none => n == n'
mutual
def sameT : Tr → Tr → Nm → Bool × Nm
  | .mk o n b k a, t, m =>
    if unlike o k.length b.length a.length t = true then (false, m) else
    if o = 0 then (sameVar m n t.n, m) else
    if (!(n == t.n)) || (o == 9 && !(b == t.binds)) then (false, m) else
    if altsLike a t.alts = false then (false, m) else
    sameTs k t.kids (putsN m (bindersN o b a) (bindersN t.op t.binds t.alts))
def sameTs : List Tr → List Tr → Nm → Bool × Nm
  | [], _, m => (true, m)
  | a :: l, r, m => match r with
    | [] => (true, m)
    | b :: r => if (sameT a b m).1 = true then sameTs l r (sameT a b m).2 else (false, (sameT a b m).2)
end
def idN (m : Nm) : Prop := ∀ n v, m n = some v → v = n
theorem idN_puts : ∀ (l : List Int) (m : Nm), idN m → idN (putsN m l l)
  | [], m, h => h
  | x :: l, m, h => idN_puts l _ fun n v hv => by
    unfold setN at hv
    by_cases e : x = n
    · rw [if_pos e] at hv; simp at hv; omega
    · rw [if_neg e] at hv; exact h n v hv
theorem altsLike_refl : ∀ l : List Alt, altsLike l l = true
  | [] => rfl
  | a :: l => by simp [altsLike, altsLike_refl l]
mutual
theorem sameT_refl : ∀ (t : Tr) (m : Nm), idN m → (sameT t t m).1 = true ∧ idN (sameT t t m).2
  | .mk o n b k a, m, h => by
    unfold sameT
    rw [if_neg (by simp [unlike])]
    by_cases e : o = 0
    · rw [if_pos e]
      refine ⟨?_, h⟩
      simp only [sameVar, Tr.n_mk]
      cases hm : m n with
      | none => simp
      | some v => simp [h n v hm]
    · rw [if_neg e, if_neg (by simp), if_neg (by simp [altsLike_refl])]
      exact sameTs_refl k _ (idN_puts _ m h)
theorem sameTs_refl : ∀ (l : List Tr) (m : Nm), idN m → (sameTs l l m).1 = true ∧ idN (sameTs l l m).2
  | [], m, h => ⟨rfl, h⟩
  | t :: l, m, h => by
    obtain ⟨h1, h2⟩ := sameT_refl t m h
    unfold sameTs
    simp only [h1, if_true]
    exact sameTs_refl l _ h2
end
def sameTree (a b : Tr) : Bool := (sameT a b fun _ => none).1
theorem sameTree_refl (t : Tr) : sameTree t t = true := (sameT_refl t _ fun n v h => by cases h).1
/-- Same, and what Order hands back. -/
def same (a b : List Ex) : Bool := (check a == 0 && check b == 0) && sameTree (grow a) (grow b)
def order (e : List Ex) : List Ex × Int := if check e ≠ 0 then ([], check e) else (listT [] (grow e), 0)
def coreOrdered (e : List Ex) : Bool :=
  if (order e).2 ≠ 0 then (order e).1.length == 0 else
  (((order (order e).1).2 == 0 && (order e).1 == (order (order e).1).1) && same e (order e).1) && (order e).1.length == e.length
theorem coreOrdered_true (e : List Ex) : coreOrdered e = true := by
  unfold coreOrdered
  by_cases h : check e = 0
  · have h1 : order e = (listT [] (grow e), 0) := by unfold order; rw [if_neg (by simpa using h)]
    have h2 : order (listT [] (grow e)) = (listT [] (grow e), 0) := by unfold order; rw [if_neg (by simpa using check_list h), grow_list]
    rw [h1]
    simp only [h2]
    simp [same, h, check_list h, grow_list, sameTree_refl, len_list h]
  · have h1 : order e = ([], check e) := by unfold order; rw [if_pos h]
    rw [h1]
    simp [h]
end Go.CoreX
