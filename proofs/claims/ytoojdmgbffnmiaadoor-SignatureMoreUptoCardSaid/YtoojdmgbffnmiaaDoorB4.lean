/- The abstract layer, part V: a range over a string, a scope without jumps, a rune as a string, the rest of a string. No condition. -/
import Derived.Test.YtoojdmgbffnmiaaDoorB3
import Derived.Scope
import Derived.ProofKit
import Derived.OpenShut
import Derived.Deep.DeepHandedRow
import Derived.JoinedCond
import Derived.Test.YtoojdmgbffnmiaaDoorChecked
import Derived.KernelRfl
import Derived.Laws.Strings
namespace Go.Abs
set_option linter.unusedVariables false
set_option linter.unusedSimpArgs false
section
variable {E : Env} {o : Oper} {fr : Fr} {σ : St}

theorem AStep.rangeStr {t : TypeId} {x : Operand} {s : ByteArray} (ho : o.op = .range t x) (hm : E.P.underlying t = some .string) (hx : aEval E.Γ fr x = some (.one (.lit (.string s)))) :
    AStep E o fr σ (.one (.ptr (.l σ.n) 0)) (σ.push (.sit s 0)) := by
  intro F w C tmps hi hf next Q hk
  have h1 := aEval_ok (a := ⟨tmps, []⟩) hi hf hx
  simp only [RF, R] at h1
  obtain ⟨C', k1, k2, k3, k4⟩ := hi.newAny (obj := .stringIter s 0) (o := .sit s 0) (by intro c t fr h; cases h) (fun _ _ => rfl) (fun C' hext hb hx hF => ⟨by rw [hb]; exact hx, by rw [hb]; exact hF⟩)
  have hrun : (execOp (Act.eval ⟨tmps, []⟩) o).run E.P w = .ok (.value (.pointer (some ⟨w.heap.size, 0, none⟩))) (w.alloc (.stringIter s 0)) := by
    unfold execOp
    simp only [ho]
    simp [Instr.range, run_underlying hm, h1.1]
  unfold Oper.wp
  rw [hrun, Oper.upon_value]
  exact hk _ _ C' k1 k2 ⟨k3, by rw [k4]⟩
theorem AStep.nextStr {x : Operand} {it : Id} {s : ByteArray} {pos c wd : Nat} (ho : o.op = .next x true) (hx : aEval E.Γ fr x = some (.one (.ptr it 0))) (hit : σ.get it = some (.sit s pos)) (hlt : pos < s.size) (hd : Utf8.decode s pos = (c, wd)) :
    AStep E o fr σ (.tup [.one (.lit (.bool true)), .one (.lit (.int .i64 pos)), .one (.lit (.int .i32 c))]) (σ.set it (.sit s (pos + wd))) := by
  intro F w C tmps hi hfr next Q hk
  have h1 := aEval_ok (a := ⟨tmps, []⟩) hi hfr hx
  simp only [RF, R] at h1
  obtain ⟨hok, he, hnf⟩ := hi.obj it _ hit
  obtain ⟨k1, k2⟩ := hi.setAny (o' := .sit s (pos + wd)) (obj' := .stringIter s (pos + wd)) hit rfl rfl he (by intro c t fr h; cases h) (by intro c t fr h; cases h) (fun w' _ hx _ => ⟨hx, hnf⟩)
  have hg1 : (getObj (C.blk it)).run E.P w = .ok (.stringIter s pos) w := by simp [getObj, Sem.run, he]
  have hrun : (execOp (Act.eval ⟨tmps, []⟩) o).run E.P w = .ok (.value (.tuple #[.bool true, .int .i64 pos, .int .i32 c])) { w with heap := w.heap.setIfInBounds (C.blk it) (.stringIter s (pos + wd)) } := by
    unfold execOp
    simp only [ho]
    simp [Instr.next, h1.2, hg1, hlt, hd, setObj, Sem.run, goInt, Result.andThen, he]
  unfold Oper.wp
  rw [hrun, Oper.upon_value]
  exact hk _ _ C k1 k2 ⟨[.bool true, .int .i64 pos, .int .i32 c], rfl, _, _, rfl, ⟨rfl, rfl⟩, _, _, rfl, ⟨rfl, rfl⟩, _, _, rfl, ⟨rfl, rfl⟩, rfl⟩
theorem AStep.nextStrX {x : Operand} {it : Id} {s : ByteArray} {pos c wd : Nat} {cx : Int} (hcx : cx = c) (ho : o.op = .next x true) (hx : aEval E.Γ fr x = some (.one (.ptr it 0))) (hit : σ.get it = some (.sit s pos)) (hlt : pos < s.size) (hd : Utf8.decode s pos = (c, wd)) :
    AStep E o fr σ (.tup [.one (.lit (.bool true)), .one (.lit (.int .i64 pos)), .one (.lit (.int .i32 cx))]) (σ.set it (.sit s (pos + wd))) := by
  subst hcx
  exact AStep.nextStr ho hx hit hlt hd
theorem AStep.nextStrEnd {x : Operand} {it : Id} {s : ByteArray} {pos : Nat} (ho : o.op = .next x true) (hx : aEval E.Γ fr x = some (.one (.ptr it 0))) (hit : σ.get it = some (.sit s pos)) (hlt : ¬ pos < s.size) :
    AStep E o fr σ (.tup [.one (.lit (.bool false))]) σ := by
  refine AStep.quiet fun F w C tmps hi hfr => ?_
  have h1 := aEval_ok (a := ⟨tmps, []⟩) hi hfr hx
  simp only [RF, R] at h1
  obtain ⟨hok, he, hnf⟩ := hi.obj it _ hit
  have hg1 : (getObj (C.blk it)).run E.P w = .ok (.stringIter s pos) w := by simp [getObj, Sem.run, he]
  refine ⟨.tuple #[.bool false], ?_, [.bool false], rfl, _, _, rfl, ⟨rfl, rfl⟩, rfl⟩
  unfold execOp
  simp only [ho]
  simp [Instr.next, h1.2, hg1, hlt]
theorem contOf_goto {Fin : Fr → St → Prop} {l : Nat} : ∀ {k : List AItem} {fr : Fr} {σ : St}, contOf E Fin k (.goto l) fr σ → False
  | [], _, _, h => h
  | .code _ :: k, _, _, h => contOf_goto (k := k) h
  | .blk _ :: k, _, _, h => contOf_goto (k := k) h
  | .inv _ :: k, _, _, h => contOf_goto (k := k) h
theorem ACode.scope {c : Code} {Fin : Fr → St → Prop} {k : List AItem} (h : ACode E c (contOf E Fin k) fr σ) : ACode E (.scope c) (contOf E Fin k) fr σ := by
  intro F w0 C0 w C tmps hg hi hf
  refine wp_scope_straight (wp_mono (h F w0 C0 w C tmps hg hi hf) fun e a w' hp => ?_)
  cases e with
  | goto l =>
    obtain ⟨_, _, _, _, _, _, _, hk⟩ := hp
    exact contOf_goto hk
  | _ => exact hp
/-- The rest of a string. -/
theorem AStep.sliceStrFrom {t : TypeId} {ti : TI} {x l : Operand} {j : IntKind} {a : Nat} {s : ByteArray} (hT : TabOk E.P E.T) (ho : o.op = .slice t x (some l) none none) (ht : Tab.get t E.T = some ti) (hk : Nat.beq ti.kind 5 = true) (hx : aEval E.Γ fr x = some (.one (.lit (.string s)))) (hl : aEval E.Γ fr l = some (.one (.lit (.int j (a : Int))))) (h1 : a ≤ s.size) :
    AStep E o fr σ (.one (.lit (.string (s.extract a s.size)))) σ := by
  refine AStep.quiet fun F w C tmps hi hf => ⟨.string (s.extract a s.size), ?_, rfl, rfl⟩
  have e1 := aEval_ok (a := ⟨tmps, []⟩) hi hf hx
  have e2 := aEval_ok (a := ⟨tmps, []⟩) hi hf hl
  simp only [RF, R] at e1 e2
  obtain ⟨i, d, z, _, hu, _, _, _, _, _, hkd⟩ := (hT t ti ht).ex
  have hkd' : d = .string := by simpa [kindOf, Nat.eq_of_beq_eq_true hk] using hkd
  subst hkd'
  unfold execOp
  simp only [ho, e1.1, e2.1, Option.map_some, Option.map_none]
  have h1' : (a : Int) ≤ (s.size : Int) := by omega
  simp [Instr.sliceAt, Instr.slice, run_underlying hu, Instr.sliceBounds, Instr.sliceBound, asIntOf, h1, Result.andThen]
/-- A rune as a string. -/
theorem AStep.runeStr {src dst : TypeId} {x : Operand} {j k : IntKind} {n : Int} (ho : o.op = .convert src dst x) (hs : E.P.underlying src = some (.int k)) (hd : E.P.underlying dst = some .string) (hx : aEval E.Γ fr x = some (.one (.lit (.int j n)))) :
    AStep E o fr σ (.one (.lit (.string (Utf8.encode n)))) σ := by
  refine AStep.quiet fun F w C tmps hi hf => ⟨.string (Utf8.encode n), ?_, rfl, rfl⟩
  have e1 := aEval_ok (a := ⟨tmps, []⟩) hi hf hx
  simp only [RF, R] at e1
  unfold execOp
  simp only [ho, e1.1]
  simp [convert, run_underlying hs, run_underlying hd, Conv.intToString]
end
/-- A function over plain values whose contract says that two rows are new, and nothing else turned. -/
theorem APure.ofCallsRows {P : Program} {Γ : List (Nat × List AC)} {g : Nat} {vs : List Value} {v : Value} {X Y : Array Value} {S T : TypeId} (hent : ∀ (us0 : Array Value) (w : World), (callFunc g us0).run P w = .ok (.enter g us0) w) (hv : v.oneCell' = true)
    (h : ∀ w, Calls P g vs.toArray w fun e w' => e = .returned v ∧ w' = (w.alloc (.cells X S)).alloc (.cells Y T)) : APure P Γ g (vs.map fun u => .one (.lit u)) (.one (.lit v)) := by
  intro ou
  refine ⟨hent, fun F w C cargs h0 hi hr => ?_⟩
  have hc : ∀ (vs : List Value) (cargs : List Value), RFs w C (vs.map fun u => .one (.lit u)) cargs → cargs = vs := by
    intro vs
    induction vs with
    | nil => intro cargs h; simpa [RFs] using h
    | cons u us ih =>
      intro cargs h
      simp only [List.map_cons, RFs] at h
      obtain ⟨x, xs, rfl, h1, h2⟩ := h
      rw [ih xs h2, h1.1]
  rw [hc vs cargs hr]
  obtain ⟨C1, e1, n1, p1, i1, _⟩ := hi.newRow X.toList S
  obtain ⟨C2, e2, n2, p2, i2, _⟩ := i1.newRow Y.toList T
  simp only [Array.toArray_toList] at e1 i1 e2 i2
  have g1 : Goes F (fun _ => True) w C (w.alloc (.cells X S)) C1 := ⟨Stp.alloc hi.base _ _, e1, by omega, p1⟩
  have g2 : Goes F (fun _ => True) (w.alloc (.cells X S)) C1 ((w.alloc (.cells X S)).alloc (.cells Y T)) C2 := ⟨Stp.alloc i1.base _ _, e2, by omega, p2⟩
  exact (h w).mono fun e w' ⟨h1, h2⟩ => ⟨v, .one (.lit v), ou, C2, h1, by rw [h2]; exact (g1.trans g2).toO, by rw [i2.next], by rw [h2]; exact i2, ⟨rfl, hv⟩, rfl, rfl⟩
end Go.Abs
/- The abstract layer, part W: a drawn region whose head makes an object and stores into it. No condition. -/
namespace Go.Abs
set_option linter.unusedVariables false
set_option linter.unusedSimpArgs false

/-- The heads, one by one: 'al' turns σ0 into σ1, 'st' σ1 into σ2, the others leave all three as they are. -/
def Heads3 (E : Env) (ops : Array Oper) (l : List Oper) (vs : List FV) (frb : Fr) (σ0 σ1 σ2 : St) (al st : Nat) : Nat → List Oper → List FV → Prop
  | _, [], [] => True
  | k, o :: os, v :: ws => (dstOk E.N o.dst = true ∧
      (if k = al then HStep E ops o (depFr l vs o ++ frb) σ0 σ1 v else if k = st then HStep E ops o (depFr l vs o ++ frb) σ1 σ2 v else
        HStep E ops o (depFr l vs o ++ frb) σ0 σ0 v ∧ HStep E ops o (depFr l vs o ++ frb) σ1 σ1 v ∧ HStep E ops o (depFr l vs o ++ frb) σ2 σ2 v)) ∧ Heads3 E ops l vs frb σ0 σ1 σ2 al st (k + 1) os ws
  | _, _, _ => False
section
variable {E : Env} {l : List Oper} {vs : List FV} {frb : Fr} {σ0 σ1 σ2 : St} {al st n : Nat} {K : Cont}
theorem Heads3.at {ops : Array Oper} : ∀ {os : List Oper} {ws : List FV} {k : Nat}, Heads3 E ops l vs frb σ0 σ1 σ2 al st k os ws → os.length = ws.length ∧ ∀ (i : Nat) (o : Oper), os[i]? = some o → ∃ v, ws[i]? = some v ∧ dstOk E.N o.dst = true ∧
      (if k + i = al then HStep E ops o (depFr l vs o ++ frb) σ0 σ1 v else if k + i = st then HStep E ops o (depFr l vs o ++ frb) σ1 σ2 v else
        HStep E ops o (depFr l vs o ++ frb) σ0 σ0 v ∧ HStep E ops o (depFr l vs o ++ frb) σ1 σ1 v ∧ HStep E ops o (depFr l vs o ++ frb) σ2 σ2 v)
  | [], [], k, _ => ⟨rfl, fun i o h => by simp at h⟩
  | [], _ :: _, k, h => h.elim
  | _ :: _, [], k, h => h.elim
  | o :: os, v :: ws, k, h => by
    obtain ⟨⟨h2, h3⟩, h4⟩ := h
    obtain ⟨h5, h6⟩ := Heads3.at h4
    refine ⟨by simp [h5], fun i p hi => ?_⟩
    cases i with
    | zero => simp at hi; subst hi; exact ⟨v, rfl, h2, by simpa using h3⟩
    | succ i =>
      obtain ⟨v', k1, k3, k4⟩ := h6 i p (by simpa using hi)
      refine ⟨v', by simpa using k1, k3, ?_⟩
      rw [show k + (i + 1) = k + 1 + i by omega]
      exact k4
/-- The store at a time. -/
def stAt (σ0 σ1 σ2 : St) (al st : Nat) (listed : Array Bool) : St := if listed.getD st false = true then σ2 else if listed.getD al false = true then σ1 else σ0
structure Mid3 (E : Env) (l : List Oper) (vs : List FV) (n al st : Nat) (frb : Fr) (σ0 σ1 σ2 : St) (F : Nat → Prop) (w0 : World) (C0 : Ctx) (listed : Array Bool) (a : Act) (w : World) : Prop where
  defers : a.defers = []
  ex : ∃ C, Goes F isO w0 C0 w C ∧ Inv E.Γ F w C (stAt σ0 σ1 σ2 al st listed) ∧ FrOk w C E.N frb a.tmps ∧
    ∀ (i : Nat) (o : Oper) (d : Nat) (v : FV), i < n → l[i]? = some o → o.dst = some d → vs[i]? = some v → listed.getD i false = true → ∃ u, a.tmps[d]? = some u ∧ RF w C v u

theorem mid_any3 (hB : drawB l n = true) (hfb : (dsts (l.take n)).all (fun d => (Fr.get d frb).isNone) = true) (hH : Heads3 E l.toArray l vs frb σ0 σ1 σ2 al st 0 (l.take n) vs) (haln : al < n) (hstn : st < n) (hne0 : al ≠ st)
    (hdep : ∃ (o : Oper) (e : _), l[st]? = some o ∧ e ∈ o.after ∧ Region.binds .any e = true ∧ e.on = al)
    (htail : AOps E l.toArray (l.drop n) K (headFr (l.take n) vs ++ frb) σ2) {F : Nat → Prop} {w0 : World} {C0 : Ctx} :
    ∀ (c : Nat) (listed : Array Bool) (a : Act) (w : World), ((List.range n).filter fun j => !listed.getD j false).length = c → HeadInv .any l.toArray n listed → Mid3 E l vs n al st frb σ0 σ1 σ2 F w0 C0 listed a w →
      wpAny E.P .any l.toArray (Post E F w0 C0 K) (c + (l.length - n)) listed a w := by
  simp only [drawB, Bool.and_eq_true, decide_eq_true_eq] at hB
  obtain ⟨⟨⟨⟨⟨hn, hs⟩, hc⟩, hsq⟩, hdi⟩, haf⟩ := hB
  obtain ⟨hlen, hat⟩ := hH.at
  have hsz : l.toArray.size = l.length := by simp
  intro c
  induction c with
  | zero =>
    intro listed a w hcnt hinv hmid
    have hall : ∀ j, j < n → listed.getD j false = true := by
      intro j hj
      have : (List.range n).filter (fun j => !listed.getD j false) = [] := List.eq_nil_of_length_eq_zero hcnt
      have h2 := List.filter_eq_nil_iff.1 this j (List.mem_range.2 hj)
      simpa using h2
    have hl : listed = listedTo l.length n := by
      apply Array.ext
      · simp [listedTo, hinv.size]
      · intro j h1 h2
        have hj : j < l.length := by simpa [listedTo] using h2
        have h3 : listed.getD j false = listed[j] := by simp [h1]
        simp only [listedTo, Array.getElem_map, Array.getElem_range]
        by_cases hjn : j < n
        · rw [← h3, hall j hjn]; simp [hjn]
        · have := hinv.tail j (by omega) (by rw [hsz]; exact hj)
          rw [getD_tf h1] at this
          rw [← h3, this]; simp [hjn]
    have hdl : (l.drop n).length = l.length - n := by simp
    rw [Nat.zero_add, ← hdl]
    refine wpAny_of_seq (md := .any) (l.drop n) n listed a w (fun j => by simp [List.getElem?_drop]) (by rw [hl, hdl]; exact hsq) ?_
    obtain ⟨hd, C, hg, hi, hf, hv⟩ := hmid
    have ha : a = ⟨a.tmps, []⟩ := by cases a; simp_all
    rw [ha]
    have hσ : stAt σ0 σ1 σ2 al st listed = σ2 := by
      unfold stAt
      rw [hall st hstn, if_pos rfl]
    rw [hσ] at hi
    refine htail F w0 C0 w C a.tmps hg hi ⟨hf.1, fun k x hk => ?_⟩
    rcases Fr.get_append hk with hk | ⟨_, hk⟩
    · obtain ⟨i, o, h1, h2, h3⟩ := headFr_mem (Fr.get_mem hk)
      have hin : i < n := by
        have := (List.getElem?_eq_some_iff.1 h1).1
        simp at this; omega
      rw [List.getElem?_take_of_lt hin] at h1
      exact hv i o k x hin h1 h2 h3 (hall i hin)
    · exact hf.2 k x hk
  | succ c ih =>
    intro listed a w hcnt hinv hmid
    have hex : ∃ i, i < n ∧ listed.getD i false = false ∧ ∀ j, j < i → listed.getD j false = true := by
      have hne : ∃ i, i < n ∧ listed.getD i false = false := by
        cases hL : (List.range n).filter (fun j => !listed.getD j false) with
        | nil => rw [hL] at hcnt; simp at hcnt
        | cons i L =>
          have : i ∈ (List.range n).filter (fun j => !listed.getD j false) := by rw [hL]; simp
          obtain ⟨h1, h2⟩ := List.mem_filter.1 this
          exact ⟨i, List.mem_range.1 h1, by simpa using h2⟩
      obtain ⟨i, hi⟩ := hne
      induction i using Nat.strongRecOn with
      | _ i ih2 =>
        by_cases h : ∃ j, j < i ∧ listed.getD j false = false
        · obtain ⟨j, hj, hj2⟩ := h
          exact ih2 j hj ⟨by omega, hj2⟩
        · exact ⟨i, hi.1, hi.2, fun j hj => (Bool.not_eq_false _).mp (fun hb => h ⟨j, hj, hb⟩)⟩
    obtain ⟨i0, hi0n, hi0u, hi0m⟩ := hex
    have hready : i0 ∈ Region.ready .any l.toArray listed := by
      rw [mem_ready]
      have hlt : i0 < l.length := by omega
      refine ⟨by rw [getD_tf (by rw [hinv.size, hsz]; exact hlt)]; exact hi0u, l[i0], by simp [hlt], fun e he hb => ?_⟩
      have h1 := List.all_eq_true.1 haf (l[i0], i0) (by
        rw [List.mem_zipIdx_iff_getElem?]
        rw [List.getElem?_take_of_lt hi0n]
        simp [hlt])
      have h2 := Array.all_eq_true_iff_forall_mem.1 h1 e he
      simp only [hb, Bool.not_true, Bool.false_or, decide_eq_true_eq] at h2
      exact hi0m _ h2
    rw [show c + 1 + (l.length - n) = (c + (l.length - n)) + 1 by omega]
    refine ⟨fun h => absurd hready (by rw [h]; simp), fun i hi => ?_⟩
    have hi0t : listed.getD i0 true = false := (mem_ready.1 hready).1
    have hin : i < n := by
      rcases Nat.lt_or_ge i n with h | h
      · exact h
      · exact absurd hi (tail_waits hs hc (by rw [hsz]; exact hn) hinv _ i0 rfl hi0n hi0t i h)
    obtain ⟨hun, o, ho, hall⟩ := mem_ready.1 hi
    have hlo : l[i]? = some o := by simpa using ho
    obtain ⟨v, hv, hdo, hst⟩ := hat i o (by rw [List.getElem?_take_of_lt hin]; exact hlo)
    rw [Nat.zero_add] at hst
    obtain ⟨hd, C, hg, hinvw, hf, hvals⟩ := hmid
    have ha : a = ⟨a.tmps, []⟩ := by cases a; simp_all
    rw [ha]
    have hfr : FrOk w C E.N (depFr l vs o ++ frb) a.tmps := by
      refine ⟨hf.1, fun k x hk => ?_⟩
      rcases Fr.get_append hk with hk | ⟨_, hk⟩
      · have hm := Fr.get_mem hk
        obtain ⟨e, he, he2⟩ := List.mem_filterMap.1 hm
        cases hb : Region.binds .any e with
        | false => rw [hb] at he2; cases he2
        | true =>
          rw [hb] at he2; simp only [cond_true] at he2
          cases h1 : (l[e.on]?).bind (·.dst) with
          | none => rw [h1] at he2; cases he2
          | some d =>
            cases h2 : vs[e.on]? with
            | none => rw [h1, h2] at he2; cases he2
            | some v' =>
              rw [h1, h2] at he2; cases he2
              cases h3 : l[e.on]? with
              | none => rw [h3] at h1; cases h1
              | some oe =>
                rw [h3] at h1
                have hen : e.on < n := by
                  have := (List.getElem?_eq_some_iff.1 h2).1
                  rw [← hlen] at this
                  simp at this; omega
                exact hvals e.on oe k x hen h3 h1 h2 (hall e (by simpa using he) hb)
      · exact hf.2 k x hk
    have huni : listed.getD i false = false := getD_both hun
    have hil : i < listed.size := by rw [hinv.size, hsz]; omega
    have hsal : listed.getD st false = true → listed.getD al false = true := fun h => by
      obtain ⟨os, e, h1, h2, h3, h4⟩ := hdep
      rw [← h4]
      exact hinv.closed st os (by simpa using h1) h e h2 h3
    have hstep : HStep E l.toArray o (depFr l vs o ++ frb) (stAt σ0 σ1 σ2 al st listed) (stAt σ0 σ1 σ2 al st (listed.setIfInBounds i true)) v := by
      have hset : ∀ j, (listed.setIfInBounds i true).getD j false = if i = j then true else listed.getD j false := fun j => by
        by_cases e : i = j
        · subst e; simp [hil]
        · rw [getD_set_ne false e, if_neg e]
      unfold stAt
      rw [hset, hset]
      by_cases e : i = al
      · subst e
        rw [if_pos rfl] at hst
        have h2 : listed.getD st false = false := by
          cases h : listed.getD st false with
          | false => rfl
          | true => rw [hsal h] at huni; cases huni
        rw [if_neg hne0, h2, huni]
        simpa using hst
      · rw [if_neg e] at hst
        by_cases e2 : i = st
        · subst e2
          rw [if_pos rfl] at hst
          have h2 : listed.getD al false = true := by
            obtain ⟨os, e', h1, h2, h3, h4⟩ := hdep
            rw [hlo] at h1
            injection h1 with h1
            subst h1
            rw [← h4]
            exact hall e' (by simpa using h2) h3
          rw [huni, h2]
          simpa using hst
        · rw [if_neg e2] at hst
          rw [if_neg e, if_neg e2]
          split
          · exact hst.2.2
          · split
            · exact hst.2.1
            · exact hst.1
    refine hstep_run hstep hinvw hfr ho fun u w' C' hgo hi' hr => ?_
    refine ih _ _ _ ?_ (hinv.set hi hin) ⟨put_defers .., C', hg.trans hgo.toO, hi', ?_, fun j oj dj vj hj hoj hdj hvj hlj => ?_⟩
    · have h2 : ((List.range n).filter fun j => !(listed.setIfInBounds i true).getD j false).length + 1 = ((List.range n).filter fun j => !listed.getD j false).length := count_eq hin huni hil
      omega
    · cases hdd : o.dst with
      | none =>
        refine ⟨hf.1, fun k x hk => ?_⟩
        obtain ⟨u', hu', hr'⟩ := hf.2 k x hk
        exact ⟨u', hu', hr'.ext hgo.chg⟩
      | some d =>
        refine ⟨by simp [Act.put, hf.1], fun k x hk => ?_⟩
        obtain ⟨u', hu', hr'⟩ := hf.2 k x hk
        have hne : d ≠ k := by
          rintro rfl
          have h1 := List.all_eq_true.1 hfb d (List.mem_filterMap.2 ⟨o, List.mem_of_getElem? (i := i) (by rw [List.getElem?_take_of_lt hin]; exact hlo), hdd⟩)
          rw [hk] at h1; cases h1
        refine ⟨u', ?_, hr'.ext hgo.chg⟩
        simp only [Act.put]
        rw [Array.getElem?_setIfInBounds_ne hne]; exact hu'
    · by_cases e : i = j
      · subst e
        rw [hlo] at hoj; cases hoj
        rw [hv] at hvj; cases hvj
        have hdN : dj < a.tmps.size := by
          rw [hf.1]
          rw [hdj] at hdo
          exact Nat.le_of_ble_eq_true (show Nat.ble (dj + 1) E.N = true from hdo)
        exact ⟨u, by rw [hdj]; simp [Act.put, hdN], hr⟩
      · rw [getD_set_ne false e] at hlj
        obtain ⟨u', hu', hr'⟩ := hvals j oj dj vj hj hoj hdj hvj hlj
        cases hdd : o.dst with
        | none => exact ⟨u', hu', hr'.ext hgo.chg⟩
        | some d =>
          have hne : d ≠ dj := by
            rintro rfl
            exact e (distinct_dsts hdi (by rw [List.getElem?_take_of_lt hin]; exact hlo) (by rw [List.getElem?_take_of_lt hj]; exact hoj) hdd hdj)
          refine ⟨u', ?_, hr'.ext hgo.chg⟩
          simp only [Act.put]
          rw [Array.getElem?_setIfInBounds_ne hne]; exact hu'
theorem ACode.draw3 {id : Nat} {fr : Fr} (n al st : Nat) (vs : List FV) (frb : Fr) (hm : E.P.follows .mixedOrders = true) (hB : drawB l n = true) (hfb : (dsts (l.take n)).all (fun d => (Fr.get d frb).isNone) = true) (hsub : ∀ k x, Fr.get k frb = some x → Fr.get k fr = some x)
    (hH : Heads3 E l.toArray l vs frb σ0 σ1 σ2 al st 0 (l.take n) vs) (haln : al < n) (hstn : st < n) (hne0 : al ≠ st) (hdep : ∃ (o : Oper) (e : _), l[st]? = some o ∧ e ∈ o.after ∧ Region.binds .any e = true ∧ e.on = al)
    (htail : AOps E l.toArray (l.drop n) K (headFr (l.take n) vs ++ frb) σ2) : ACode E (.region id l.toArray true) K fr σ0 := by
  intro F w0 C0 w C tmps hg hi hf
  have hn : n < l.length := by
    simp only [drawB, Bool.and_eq_true, decide_eq_true_eq] at hB
    exact hB.1.1.1.1.1
  refine wp_region_any hm ?_
  have h := mid_any3 (F := F) (w0 := w0) (C0 := C0) hB hfb hH haln hstn hne0 hdep htail n (Array.replicate l.toArray.size false) ⟨tmps, []⟩ w.drew (by
      have : ∀ j, (!(Array.replicate l.toArray.size false).getD j false) = true := fun j => by rw [getD_replicate_false]; rfl
      simp only [this]; rw [List.filter_eq_self.2 (fun _ _ => rfl), List.length_range])
    ⟨by simp, fun j oj _ hl => (by rw [getD_replicate_false] at hl; cases hl), fun t _ ht => getD_in (by simpa using ht) (getD_replicate_false _ _)⟩
    ⟨rfl, C, hg.trans (Goes.drew hi).toO, by unfold stAt; rw [getD_replicate_false, getD_replicate_false, if_neg (by simp), if_neg (by simp)]; exact hi.drew.2, ⟨hf.1, fun k x hk => by
        obtain ⟨u, hu, hr⟩ := hf.2 k x (hsub k x hk)
        exact ⟨u, hu, hr.ext hi.drew.1⟩⟩, fun i o d v _ _ _ _ hl => by rw [getD_replicate_false] at hl; cases hl⟩
  rw [show n + (l.length - n) = l.toArray.size by simp; omega] at h
  exact h
end
/-- The heads run; what calls, the alloc and the store yield is given. -/
def runHd (E : Env) (ops : Array Oper) (l : List Oper) (frb : Fr) (σ : St) (cs : List (Nat × FV)) : Nat → List Oper → List FV → Option (List FV)
  | _, [], _ => some []
  | k, o :: os, acc => bif dstOk E.N o.dst then
      (match lookC k cs with
      | some v => forceK (acc ++ [v]) fun acc' => (match runHd E ops l frb σ cs (k + 1) os acc' with | some vs => some (v :: vs) | none => none)
      | none => bif pureOp o.op then forceK (depFr l acc o ++ frb) fun fr => (match aHead E ops o fr σ with
        | some (v, _) => forceK (acc ++ [v]) fun acc' => (match runHd E ops l frb σ cs (k + 1) os acc' with | some vs => some (v :: vs) | none => none)
        | none => none) else none) else none
theorem aHead_pure {E : Env} {ops : Array Oper} {o : Oper} {fr : Fr} {τ τ' : St} {v : FV} (hp : pureOp o.op = true) (ha : aHead E ops o fr τ = some (v, τ')) : τ' = τ := by
  have key : ∀ {y : FV} {τ2 : St}, (match aOp E.T E.Γ o.op fr τ with | some (some x, σ') => some (x, σ') | _ => none) = some (y, τ2) → τ2 = τ := by
    intro y τ2 h
    split at h
    · rename_i h1
      simp only [Option.some.injEq, Prod.mk.injEq] at h
      obtain ⟨rfl, rfl⟩ := h
      exact aOp_pure hp h1
    · cases h
  unfold aHead at ha
  split at ha
  · exact key ha
  · split at ha
    · split at ha
      · exact key ha
      · exact key ha
      · cases ha; rfl
      · cases ha; rfl
      · cases ha; rfl
      · cases ha
    · cases ha
theorem runHd_ok {E : Env} {l : List Oper} {frb : Fr} {σ0 σ1 σ2 : St} {cs : List (Nat × FV)} {n al st : Nat} {vs : List FV} {va : FV} {oal ost : Oper} (hT : TabOk E.P E.T) (hne0 : al ≠ st) (hall : ∀ k o, l[k]? = some o → k < n → o.after.all (fun e => !Region.binds .any e || decide (e.on < k)) = true)
    (hoal : l[al]? = some oal) (hal : HStep E l.toArray oal (depFr l vs oal ++ frb) σ0 σ1 va) (host : l[st]? = some ost) (hst : HStep E l.toArray ost (depFr l vs ost ++ frb) σ1 σ2 .bot) (hcs0 : CallsOk E l frb σ0 vs cs) (hcs1 : CallsOk E l frb σ1 vs cs) (hcs2 : CallsOk E l frb σ2 vs cs) :
    ∀ (os : List Oper) (k : Nat) (acc ws : List FV), acc.length = k → (∀ i o, os[i]? = some o → l[k + i]? = some o ∧ k + i < n) → runHd E l.toArray l frb σ0 ((al, va) :: (st, .bot) :: cs) k os acc = some ws → runHd E l.toArray l frb σ1 ((al, va) :: (st, .bot) :: cs) k os acc = some ws → runHd E l.toArray l frb σ2 ((al, va) :: (st, .bot) :: cs) k os acc = some ws → acc ++ ws = vs → Heads3 E l.toArray l vs frb σ0 σ1 σ2 al st k os ws
  | [], k, acc, ws, _, _, h, _, _, _ => by simp only [runHd, Option.some.injEq] at h; subst h; trivial
  | o :: os, k, acc, ws, hl, hos, h, h', h'', hv => by
    have ho := hos 0 o rfl
    simp only [Nat.add_zero] at ho
    simp only [runHd, forceK_eq] at h h' h''
    cases hb : dstOk E.N o.dst with
    | false => rw [hb] at h; cases h
    | true =>
      rw [hb] at h h' h''
      simp only [cond_true] at h h' h''
      have rest : ∀ {v v' v'' : FV}, (match runHd E l.toArray l frb σ0 ((al, va) :: (st, .bot) :: cs) (k + 1) os (acc ++ [v]) with | some vs => some (v :: vs) | none => none) = some ws → (match runHd E l.toArray l frb σ1 ((al, va) :: (st, .bot) :: cs) (k + 1) os (acc ++ [v']) with | some vs => some (v' :: vs) | none => none) = some ws → (match runHd E l.toArray l frb σ2 ((al, va) :: (st, .bot) :: cs) (k + 1) os (acc ++ [v'']) with | some vs => some (v'' :: vs) | none => none) = some ws → v' = v ∧ v'' = v ∧ ∃ ws', ws = v :: ws' ∧ Heads3 E l.toArray l vs frb σ0 σ1 σ2 al st (k + 1) os ws' := by
        intro v v' v'' h h' h''
        split at h
        · rename_i ws' hw
          simp only [Option.some.injEq] at h; subst h
          split at h'
          · rename_i ws2 hw2
            simp only [Option.some.injEq, List.cons.injEq] at h'
            obtain ⟨rfl, rfl⟩ := h'
            split at h''
            · rename_i ws3 hw3
              simp only [Option.some.injEq, List.cons.injEq] at h''
              obtain ⟨rfl, rfl⟩ := h''
              exact ⟨rfl, rfl, ws3, rfl, runHd_ok hT hne0 hall hoal hal host hst hcs0 hcs1 hcs2 os (k + 1) (acc ++ [v'']) ws3 (by simp [hl]) (fun i o hi => by have := hos (i + 1) o hi; rw [show k + 1 + i = k + (i + 1) by omega]; exact this) hw hw2 hw3 (by simpa using hv)⟩
            · cases h''
          · cases h'
        · cases h
      by_cases hka : al = k
      · subst hka
        have hc : lookC al ((al, va) :: (st, .bot) :: cs) = some va := by simp [lookC]
        rw [hc] at h h' h''
        obtain ⟨_, _, ws', rfl, hw⟩ := rest h h' h''
        rw [ho.1] at hoal
        cases hoal
        exact ⟨⟨hb, by rw [if_pos rfl]; exact hal⟩, hw⟩
      · by_cases hks : st = k
        · subst hks
          have hc : lookC st ((al, va) :: (st, .bot) :: cs) = some .bot := by simp only [lookC, beq_no hne0, cond_false]; simp
          rw [hc] at h h' h''
          obtain ⟨_, _, ws', rfl, hw⟩ := rest h h' h''
          rw [ho.1] at host
          cases host
          exact ⟨⟨hb, by rw [if_neg (Ne.symm hka), if_pos rfl]; exact hst⟩, hw⟩
        · have hc : lookC k ((al, va) :: (st, .bot) :: cs) = lookC k cs := by simp only [lookC, beq_no hka, beq_no hks, cond_false]
          rw [hc] at h h' h''
          cases hc2 : lookC k cs with
          | some v =>
            rw [hc2] at h h' h''
            obtain ⟨_, _, ws', rfl, hw⟩ := rest h h' h''
            obtain ⟨o', ho', hs0⟩ := hcs0.get hc2
            obtain ⟨o2, ho2, hs1⟩ := hcs1.get hc2
            obtain ⟨o3, ho3, hs2⟩ := hcs2.get hc2
            rw [ho.1] at ho' ho2 ho3
            cases ho'; cases ho2; cases ho3
            exact ⟨⟨hb, by rw [if_neg (Ne.symm hka), if_neg (Ne.symm hks)]; exact ⟨hs0, hs1, hs2⟩⟩, hw⟩
          | none =>
            rw [hc2] at h h' h''
            simp only at h h' h''
            cases hp : pureOp o.op with
            | false => rw [hp] at h; cases h
            | true =>
              rw [hp] at h h' h''
              simp only [cond_true] at h h' h''
              split at h
              · rename_i v σ' ha
                split at h'
                · rename_i v' σ3 ha'
                  split at h''
                  · rename_i v'' σ4 ha''
                    obtain ⟨rfl, rfl, ws', rfl, hw⟩ := rest h h' h''
                    have hdep : depFr l vs o = depFr l acc o := by rw [← hv]; exact depFr_prefix (by rw [hl]; exact hall k o ho.1 ho.2)
                    have e1 := aHead_pure hp ha
                    have e2 := aHead_pure hp ha'
                    have e3 := aHead_pure hp ha''
                    subst e1; subst e2; subst e3
                    have hs0 := HStep.auto (ops := l.toArray) hT ha
                    have hs1 := HStep.auto (ops := l.toArray) hT ha'
                    have hs2 := HStep.auto (ops := l.toArray) hT ha''
                    rw [← hdep] at hs0 hs1 hs2
                    exact ⟨⟨hb, by rw [if_neg (Ne.symm hka), if_neg (Ne.symm hks)]; exact ⟨hs0, hs1, hs2⟩⟩, hw⟩
                  · cases h''
                · cases h'
              · cases h
def hasDep (l : List Oper) (st al : Nat) : Bool := match l[st]? with
  | some o => o.after.any fun e => Region.binds .any e && decide (e.on = al)
  | none => false
/-- A DRAWN REGION in whose head an object is made ('al') and stored into ('st'). -/
theorem ACode.drawXS {E : Env} {id : Nat} {l hd tl : List Oper} {K : Cont} {fr frb fr' : Fr} {σ σ1 σ2 : St} {vs : List FV} {va : FV} {oal ost : Oper} (hT : TabOk E.P E.T) (n al st : Nat) (cs : List (Nat × FV)) (hm : E.P.follows .mixedOrders = true) (hB : drawB l n = true) (haln : Nat.ble (al + 1) n = true) (hstn : Nat.ble (st + 1) n = true) (hne0 : Nat.beq al st = false) (hdp : hasDep l st al = true) (hsp : splitO n l = some (hd, tl)) (hfb : Fr.woO (dsts hd) fr = some frb)
    (hoal : l[al]? = some oal) (hal : aHead E l.toArray oal (depFr l [] oal ++ frb) σ = some (va, σ1)) (hda : oal.after = #[]) (host : l[st]? = some ost) (hgs : ost.guard = none)
    (hrun : runHd E l.toArray l frb σ ((al, va) :: (st, .bot) :: cs) 0 hd [] = some vs) (hrun1 : runHd E l.toArray l frb σ1 ((al, va) :: (st, .bot) :: cs) 0 hd [] = some vs) (hst : aOp E.T E.Γ ost.op (depFr l vs ost ++ frb) σ1 = some (none, σ2)) (hrun2 : runHd E l.toArray l frb σ2 ((al, va) :: (st, .bot) :: cs) 0 hd [] = some vs) (hfr : frOf hd vs frb = some fr') (hcs : CallsOk E l frb σ vs cs) (hcs1 : CallsOk E l frb σ1 vs cs) (hcs2 : CallsOk E l frb σ2 vs cs) (htail : AOps E l.toArray tl K fr' σ2) : ACode E (.region id l.toArray true) K fr σ := by
  obtain ⟨h1, h2⟩ := splitO_eq hsp
  subst h1; subst h2
  have h3 := Fr.woO_eq hfb
  have h4 := frOf_eq hfr
  have hn : n < l.length := by
    simp only [drawB, Bool.and_eq_true, decide_eq_true_eq] at hB
    exact hB.1.1.1.1.1
  have hlast : ((l.take n).zipIdx.all fun x => x.1.after.all fun e => !Region.binds .any e || decide (e.on < x.2)) = true := by
    simp only [drawB, Bool.and_eq_true] at hB
    exact hB.2
  have hdep : ∀ ws : List FV, depFr l ws oal = [] := fun ws => by simp [depFr, hda]
  have hne : al ≠ st := fun e => by subst e; simp at hne0
  have hall : ∀ k o, l[k]? = some o → k < n → o.after.all (fun e => !Region.binds .any e || decide (e.on < k)) = true := fun k o hk hkn => by
    have := List.all_eq_true.1 hlast (o, k) (by
      rw [List.mem_iff_getElem?]
      exact ⟨k, by rw [List.getElem?_zipIdx, List.getElem?_take_of_lt hkn, hk]; simp⟩)
    exact this
  have hH := runHd_ok (n := n) (va := va) hT hne hall hoal (by rw [hdep, ← hdep []]; exact HStep.auto hT hal) host (HStep.plain hgs (AStep.ofStore hT hst)) hcs hcs1 hcs2 (l.take n) 0 [] vs rfl (fun i o hi => by
    have hi2 : i < n := by
      have := (List.getElem?_eq_some_iff.1 hi).1
      simp at this; omega
    rw [List.getElem?_take_of_lt hi2] at hi
    exact ⟨by simpa using hi, by omega⟩) hrun hrun1 hrun2 rfl
  have hdd : ∃ (o : Oper) (e : _), l[st]? = some o ∧ e ∈ o.after ∧ Region.binds .any e = true ∧ e.on = al := by
    unfold hasDep at hdp
    rw [host] at hdp
    simp only [Array.any_eq_true'] at hdp
    obtain ⟨e, he, hb⟩ := hdp
    simp only [Bool.and_eq_true, decide_eq_true_eq] at hb
    exact ⟨ost, e, host, he, hb.1, hb.2⟩
  refine ACode.draw3 n al st vs frb hm hB ?_ ?_ hH (Nat.le_of_ble_eq_true haln) (Nat.le_of_ble_eq_true hstn) hne hdd (by rw [h4]; exact htail)
  · rw [← h3]; exact Fr.wo_none _ _
  · intro k x h
    rw [← h3] at h
    exact (Fr.wo_get h).1
end Go.Abs
/- The abstract layer, part X: a guard that is met falls away. No condition. -/
namespace Go.Abs
set_option linter.unusedVariables false
theorem AOps.unG {E : Env} {ops : Array Oper} {rest : List Oper} {o : Oper} {K : Cont} {fr : Fr} {σ : St} {j e : Nat} {b : Bool} (hg : o.guard = some (j, b)) (hj : guardSlot ops j = some e) (hb : Fr.get e fr = some (.one (.lit (.bool b))))
    (h : AOps E ops ({ o with guard := none } :: rest) K fr σ) : AOps E ops (o :: rest) K fr σ := by
  intro F w0 C0 w C tmps hgo hi hf
  have h1 := h F w0 C0 w C tmps hgo hi hf
  have hy := yielded_of hf hj hb
  unfold wpList at h1 ⊢
  rw [if_pos (by simp [Region.wanted, hg, hy])]
  rw [if_pos (by simp [Region.wanted])] at h1
  exact h1
mutual
theorem AC.sub_pure (θ : Id → Id) : ∀ c : AC, c.ids (fun _ => False) → c.sub θ = c
  | .lit _, _ => rfl
  | .any, _ => rfl
  | .sl s es, h => by simp only [AC.ids] at h; simp only [AC.sub]; rw [subS_pure θ es h]
  | .box cs, h => by simp only [AC.ids] at h; simp only [AC.sub]; rw [subL_pure θ cs h]
  | .ptr i off, h => h.elim
  | .gs s es i, h => h.1.elim
  | .arr i s off len cap, h => h.elim
  | .mp i, h => h.elim
  | .fn f a b, h => by simp only [AC.ids] at h; simp only [AC.sub]; rw [subL_pure θ a h.1, subL_pure θ b h.2]
  | .ifc t ag cs, h => by simp only [AC.ids] at h; simp only [AC.sub]; rw [subL_pure θ cs h]
theorem subS_pure (θ : Id → Id) : ∀ es : List (List AC), idsS (fun _ => False) es → subS θ es = es
  | [], _ => rfl
  | e :: es, h => by simp only [idsS] at h; simp only [subS]; rw [subL_pure θ e h.1, subS_pure θ es h.2]
theorem subL_pure (θ : Id → Id) : ∀ cs : List AC, idsL (fun _ => False) cs → subL θ cs = cs
  | [], _ => rfl
  | c :: cs, h => by simp only [idsL] at h; simp only [subL]; rw [AC.sub_pure θ c h.1, subL_pure θ cs h.2]
end
mutual
theorem FV.sub_pure (θ : Id → Id) : ∀ x : FV, x.ids (fun _ => False) → x.sub θ = x
  | .bot, _ => rfl
  | .one c, h => by simp only [FV.ids] at h; simp only [FV.sub]; rw [AC.sub_pure θ c h]
  | .agg cs, h => by simp only [FV.ids] at h; simp only [FV.sub]; rw [subL_pure θ cs h]
  | .tup vs, h => by simp only [FV.ids] at h; simp only [FV.sub]; rw [subF_pure θ vs h]
theorem subF_pure (θ : Id → Id) : ∀ vs : List FV, idsF (fun _ => False) vs → subF θ vs = vs
  | [], _ => rfl
  | v :: vs, h => by simp only [idsF] at h; simp only [subF]; rw [FV.sub_pure θ v h.1, subF_pure θ vs h.2]
end
end Go.Abs
/- The abstract layer, part Y: a row of a law out of a contract: it answers true, its arguments read as they did. No condition. -/
namespace Go.Abs
open Go.RowKit (Below)
open Go.ChangeShapes Go.WideShapes Go.ChangeAt Go.RowKit
set_option linter.unusedVariables false
section
variable {H : Type} {enc : TypeId × Value → H} {P : Program} {W W' : World}
theorem rf_agg {r : Reach} {t : TypeId} {fs : Array Field} {v : Value} {C : Ctx} {c : List AC} (ht : P.underlying t = some (.struct fs)) (h : Value.okWide P W r 0 t v) (hr : RV W C c v.cells.toList) : RF W C (.agg c) v := by
  obtain ⟨cs, rfl, _⟩ := okWide_struct ht h
  exact ⟨cs.toList, by simp, by simpa [Value.cells] using hr⟩
theorem rf_agg' {base : Nat} {r : Reach} {t : TypeId} {fs : Array Field} {v : Value} {C : Ctx} {c : List AC} (ht : P.underlying t = some (.struct fs)) (h : Value.okWide P W r base t v) (hr : RV W C c v.cells.toList) : RF W C (.agg c) v := by
  obtain ⟨cs, rfl, _⟩ := okWide_struct ht h
  exact ⟨cs.toList, by simp, by simpa [Value.cells] using hr⟩
theorem rf_int {base : Nat} {r : Reach} {t : TypeId} {k : IntKind} {v : Value} {C : Ctx} {c : AC} (ht : P.underlying t = some (.int k)) (h : Value.okWide P W r base t v) (hr : RV W C [c] v.cells.toList) : RF W C (.one c) v := by
  obtain ⟨n, rfl⟩ := okWide_int ht h
  obtain ⟨u, us, he, h1, h2⟩ := hr
  simp [Value.cells] at he
  obtain ⟨rfl, rfl⟩ := he
  exact h1
theorem trodAll_stays (hl : laidOutB P = true) {sp : Nat → Bool} : ∀ {ts : List TypeId} {vs : List Value} {ds : List (DataW H)} {ps : List MemPlace}, (∀ t ∈ ts, P.readableRec t = true ∧ t < P.types.size) →
    DataW.TrodAll enc P W 0 (fun _ => true) true ts vs ds ps → (∀ x ∈ ps, W.sameAt W' x) → (∀ x ∈ ps, sp x.block = true) → DataW.TrodAll enc P W' 0 sp true ts vs ds ps
  | [], [], [], ps, _, h, _, _ => h
  | t :: ts, v :: vs, d :: ds, ps, hr, h, hs, hb => by
    obtain ⟨p, q, h1, h2, rfl⟩ := h
    refine ⟨p, q, WideElems.Trod_stays hl (hr t (by simp)).1 (hr t (by simp)).2 h1 (fun x hx => hs x (List.mem_append_left _ hx)) (fun x hx => hb x (List.mem_append_left _ hx)), ?_, rfl⟩
    exact trodAll_stays hl (fun t ht => hr t (by simp [ht])) h2 (fun x hx => hs x (List.mem_append_right _ hx)) (fun x hx => hb x (List.mem_append_right _ hx))
  | [], _ :: _, _, _, _, h, _, _ => h.elim
  | [], [], _ :: _, _, _, h, _, _ => h.elim
  | _ :: _, [], _, _, _, h, _, _ => h.elim
  | _ :: _, _ :: _, [], _, _, h, _, _ => h.elim
theorem row_of_calls (hl : laidOutB P = true) {fn : Func} (hr : ∀ t ∈ fn.params.toList, P.readableRec t = true ∧ t < P.types.size) {s : ChangeSpec} (hv : s.vars = []) {tb : TypeId} (htb : P.underlying tb = some .bool) (hrt : fn.resultTypes = #[tb]) {g : Nat} {args : Array Value} {ds gs : List (DataW H)} {before : List MemPlace}
    (hW : DataW.Whole enc P fn.params.toList s.vars false W args.toList ds gs before) (hspec : s.fn H (ds ++ gs) = { results := [.lit (.bool true)], args := ds })
    (hc : Calls P g args W fun e w' => ∃ v C', e = .returned v ∧ RF w' C' (.one (.lit (.bool true))) v ∧ Below W.heap.size W w') :
    Calls P g args W fun e W' => ∃ v, e = .returned v ∧ s.post enc P fn false true false false W args v W' := by
  refine hc.mono fun e W' ⟨v, C', he, hr', hb⟩ => ?_
  simp only [RF, R] at hr'
  obtain rfl := hr'.1
  have hlt := hW.lt
  have hW0 := hW
  obtain ⟨p, q, hA, hV, rfl, hfz, hnd⟩ := hW0
  rw [hv] at hV
  obtain ⟨rfl, rfl⟩ := trodVars_none hV
  simp only [List.append_nil] at hW hspec hlt
  refine ⟨_, he, ⟨ds, [], _, [], p, [], hW, ?_, ?_, ?_, World.keptBut_mono (fun p hp => ⟨hp, .inr (.inl hp)⟩) (hb.frame _), fun h => by cases h⟩⟩
  · rw [List.append_nil, hspec, hrt]
    exact trodAll_cons_mk (shut_bool htb _) trodAll_mk0
  · rw [List.append_nil, hspec]
    exact trodAll_stays hl hr hA (fun x hx => hb.same (hlt x hx)) fun x hx => by simpa using hlt x hx
  · rw [List.append_nil, hspec, hv]
    rfl
end
end Go.Abs
/- The types of the seat as a table, and that the loaded program has them so. -/
namespace Go.Proofs.YtoojdmgbffnmiaaDoor
open Go Go.Abs
def ti1 : TI := { size := 1, bytes := 8, agg := false, zero := [.nilFunc], kind := 0, flds := [], elem := 0, len := 0 }
theorem tok1 : TIOk Tryd.prog 1 ti1 := TIOk.of (z := .nilFunc) (by kernel_rfl) Tryd.underlying1 rfl rfl trivial rfl rfl rfl
def ti2 : TI := { size := 1, bytes := 8, agg := false, zero := [.int .i64 0], kind := 0, flds := [], elem := 0, len := 0 }
theorem tok2 : TIOk Tryd.prog 2 ti2 := TIOk.of (z := .int .i64 0) (by kernel_rfl) Tryd.underlying2 rfl rfl trivial rfl rfl rfl
def ti3 : TI := { size := 1, bytes := 8, agg := false, zero := [.int .i64 0], kind := 0, flds := [], elem := 0, len := 0 }
theorem tok3 : TIOk Tryd.prog 3 ti3 := TIOk.of (z := .int .i64 0) (by kernel_rfl) Tryd.underlying3 rfl rfl trivial rfl rfl rfl
def ti4 : TI := { size := 1, bytes := 1, agg := false, zero := [.bool false], kind := 0, flds := [], elem := 0, len := 0 }
theorem tok4 : TIOk Tryd.prog 4 ti4 := TIOk.of (z := .bool false) (by kernel_rfl) Tryd.underlying4 rfl rfl trivial rfl rfl rfl
def ti5 : TI := { size := 1, bytes := 1, agg := false, zero := [.int .u8 0], kind := 0, flds := [], elem := 0, len := 0 }
theorem tok5 : TIOk Tryd.prog 5 ti5 := TIOk.of (z := .int .u8 0) (by kernel_rfl) Tryd.underlying5 rfl rfl trivial rfl rfl rfl
def ti6 : TI := { size := 1, bytes := 1, agg := false, zero := [.int .u8 0], kind := 0, flds := [], elem := 0, len := 0 }
theorem tok6 : TIOk Tryd.prog 6 ti6 := TIOk.of (z := .int .u8 0) (by kernel_rfl) Tryd.underlying6 rfl rfl trivial rfl rfl rfl
def ti7 : TI := { size := 4, bytes := 24, agg := true, zero := [.int .i64 0, .int .i64 0, .bool false, .int .u8 0], kind := 1, flds := [(0, 2), (1, 3), (2, 4), (3, 6)], elem := 0, len := 0 }
theorem tok7 : TIOk Tryd.prog 7 ti7 := TIOk.of (z := .agg #[.int .i64 0, .int .i64 0, .bool false, .int .u8 0]) (by kernel_rfl) Tryd.underlying7 rfl rfl ⟨_, rfl, rfl⟩ rfl rfl rfl
def ti8 : TI := { size := 4, bytes := 24, agg := true, zero := [.int .i64 0, .int .i64 0, .bool false, .int .u8 0], kind := 1, flds := [(0, 2), (1, 3), (2, 4), (3, 6)], elem := 0, len := 0 }
theorem tok8 : TIOk Tryd.prog 8 ti8 := TIOk.of (z := .agg #[.int .i64 0, .int .i64 0, .bool false, .int .u8 0]) (by kernel_rfl) Tryd.underlying8 rfl rfl ⟨_, rfl, rfl⟩ rfl rfl rfl
def ti9 : TI := { size := 1, bytes := 16, agg := false, zero := [.string ⟨#[]⟩], kind := 5, flds := [], elem := 0, len := 0 }
theorem tok9 : TIOk Tryd.prog 9 ti9 := TIOk.of (z := .string ⟨#[]⟩) (by kernel_rfl) Tryd.underlying9 rfl rfl rfl rfl rfl rfl
def ti10 : TI := { size := 1, bytes := 16, agg := false, zero := [.string ⟨#[]⟩], kind := 5, flds := [], elem := 0, len := 0 }
theorem tok10 : TIOk Tryd.prog 10 ti10 := TIOk.of (z := .string ⟨#[]⟩) (by kernel_rfl) Tryd.underlying10 rfl rfl rfl rfl rfl rfl
def ti11 : TI := { size := 1, bytes := 16, agg := false, zero := [.string ⟨#[]⟩], kind := 5, flds := [], elem := 0, len := 0 }
theorem tok11 : TIOk Tryd.prog 11 ti11 := TIOk.of (z := .string ⟨#[]⟩) (by kernel_rfl) Tryd.underlying11 rfl rfl rfl rfl rfl rfl
def ti12 : TI := { size := 1, bytes := 8, agg := false, zero := [.int .u64 0], kind := 0, flds := [], elem := 0, len := 0 }
theorem tok12 : TIOk Tryd.prog 12 ti12 := TIOk.of (z := .int .u64 0) (by kernel_rfl) Tryd.underlying12 rfl rfl trivial rfl rfl rfl
def ti13 : TI := { size := 2, bytes := 24, agg := true, zero := [.string ⟨#[]⟩, .int .u64 0], kind := 1, flds := [(0, 9), (1, 12)], elem := 0, len := 0 }
theorem tok13 : TIOk Tryd.prog 13 ti13 := TIOk.of (z := .agg #[.string ⟨#[]⟩, .int .u64 0]) (by kernel_rfl) Tryd.underlying13 rfl rfl ⟨_, rfl, rfl⟩ rfl rfl rfl
def ti14 : TI := { size := 2, bytes := 24, agg := true, zero := [.string ⟨#[]⟩, .int .u64 0], kind := 1, flds := [(0, 9), (1, 12)], elem := 0, len := 0 }
theorem tok14 : TIOk Tryd.prog 14 ti14 := TIOk.of (z := .agg #[.string ⟨#[]⟩, .int .u64 0]) (by kernel_rfl) Tryd.underlying14 rfl rfl ⟨_, rfl, rfl⟩ rfl rfl rfl
def ti15 : TI := { size := 1, bytes := 8, agg := false, zero := [.pointer none], kind := 6, flds := [], elem := 152, len := 0 }
theorem tok15 : TIOk Tryd.prog 15 ti15 := TIOk.of (z := .pointer none) (by kernel_rfl) Tryd.underlying15 rfl rfl rfl rfl rfl rfl
def ti16 : TI := { size := 1, bytes := 8, agg := false, zero := [.pointer none], kind := 6, flds := [], elem := 155, len := 0 }
theorem tok16 : TIOk Tryd.prog 16 ti16 := TIOk.of (z := .pointer none) (by kernel_rfl) Tryd.underlying16 rfl rfl rfl rfl rfl rfl
def ti17 : TI := { size := 1, bytes := 8, agg := false, zero := [.pointer none], kind := 6, flds := [], elem := 164, len := 0 }
theorem tok17 : TIOk Tryd.prog 17 ti17 := TIOk.of (z := .pointer none) (by kernel_rfl) Tryd.underlying17 rfl rfl rfl rfl rfl rfl
def ti18 : TI := { size := 1, bytes := 8, agg := true, zero := [.pointer none], kind := 1, flds := [(0, 17)], elem := 0, len := 0 }
theorem tok18 : TIOk Tryd.prog 18 ti18 := TIOk.of (z := .agg #[.pointer none]) (by kernel_rfl) Tryd.underlying18 rfl rfl ⟨_, rfl, rfl⟩ rfl rfl rfl
def ti19 : TI := { size := 1, bytes := 8, agg := true, zero := [.pointer none], kind := 1, flds := [(0, 17)], elem := 0, len := 0 }
theorem tok19 : TIOk Tryd.prog 19 ti19 := TIOk.of (z := .agg #[.pointer none]) (by kernel_rfl) Tryd.underlying19 rfl rfl ⟨_, rfl, rfl⟩ rfl rfl rfl
def ti21 : TI := { size := 1, bytes := 4, agg := false, zero := [.int .i32 0], kind := 0, flds := [], elem := 0, len := 0 }
theorem tok21 : TIOk Tryd.prog 21 ti21 := TIOk.of (z := .int .i32 0) (by kernel_rfl) Tryd.underlying21 rfl rfl trivial rfl rfl rfl
def ti22 : TI := { size := 1, bytes := 24, agg := false, zero := [.slice none 0 0], kind := 2, flds := [], elem := 40, len := 0 }
theorem tok22 : TIOk Tryd.prog 22 ti22 := TIOk.of (z := .slice none 0 0) (by kernel_rfl) Tryd.underlying22 rfl rfl rfl rfl rfl rfl
def ti23 : TI := { size := 1, bytes := 24, agg := false, zero := [.slice none 0 0], kind := 2, flds := [], elem := 61, len := 0 }
theorem tok23 : TIOk Tryd.prog 23 ti23 := TIOk.of (z := .slice none 0 0) (by kernel_rfl) Tryd.underlying23 rfl rfl rfl rfl rfl rfl
def ti24 : TI := { size := 2, bytes := 48, agg := true, zero := [.slice none 0 0, .slice none 0 0], kind := 1, flds := [(0, 22), (1, 23)], elem := 0, len := 0 }
theorem tok24 : TIOk Tryd.prog 24 ti24 := TIOk.of (z := .agg #[.slice none 0 0, .slice none 0 0]) (by kernel_rfl) Tryd.underlying24 rfl rfl ⟨_, rfl, rfl⟩ rfl rfl rfl
def ti25 : TI := { size := 2, bytes := 48, agg := true, zero := [.slice none 0 0, .slice none 0 0], kind := 1, flds := [(0, 22), (1, 23)], elem := 0, len := 0 }
theorem tok25 : TIOk Tryd.prog 25 ti25 := TIOk.of (z := .agg #[.slice none 0 0, .slice none 0 0]) (by kernel_rfl) Tryd.underlying25 rfl rfl ⟨_, rfl, rfl⟩ rfl rfl rfl
def ti26 : TI := { size := 1, bytes := 24, agg := false, zero := [.slice none 0 0], kind := 2, flds := [], elem := 44, len := 0 }
theorem tok26 : TIOk Tryd.prog 26 ti26 := TIOk.of (z := .slice none 0 0) (by kernel_rfl) Tryd.underlying26 rfl rfl rfl rfl rfl rfl
def ti27 : TI := { size := 1, bytes := 8, agg := false, zero := [.int .i64 0], kind := 0, flds := [], elem := 0, len := 0 }
theorem tok27 : TIOk Tryd.prog 27 ti27 := TIOk.of (z := .int .i64 0) (by kernel_rfl) Tryd.underlying27 rfl rfl trivial rfl rfl rfl
def ti29 : TI := { size := 1, bytes := 8, agg := false, zero := [.nilFunc], kind := 0, flds := [], elem := 0, len := 0 }
theorem tok29 : TIOk Tryd.prog 29 ti29 := TIOk.of (z := .nilFunc) (by kernel_rfl) Tryd.underlying29 rfl rfl trivial rfl rfl rfl
def ti30 : TI := { size := 1, bytes := 8, agg := false, zero := [.nilFunc], kind := 0, flds := [], elem := 0, len := 0 }
theorem tok30 : TIOk Tryd.prog 30 ti30 := TIOk.of (z := .nilFunc) (by kernel_rfl) Tryd.underlying30 rfl rfl trivial rfl rfl rfl
def ti31 : TI := { size := 1, bytes := 8, agg := false, zero := [.nilFunc], kind := 0, flds := [], elem := 0, len := 0 }
theorem tok31 : TIOk Tryd.prog 31 ti31 := TIOk.of (z := .nilFunc) (by kernel_rfl) Tryd.underlying31 rfl rfl trivial rfl rfl rfl
def ti32 : TI := { size := 1, bytes := 8, agg := false, zero := [.nilFunc], kind := 0, flds := [], elem := 0, len := 0 }
theorem tok32 : TIOk Tryd.prog 32 ti32 := TIOk.of (z := .nilFunc) (by kernel_rfl) Tryd.underlying32 rfl rfl trivial rfl rfl rfl
def ti33 : TI := { size := 1, bytes := 8, agg := false, zero := [.nilFunc], kind := 0, flds := [], elem := 0, len := 0 }
theorem tok33 : TIOk Tryd.prog 33 ti33 := TIOk.of (z := .nilFunc) (by kernel_rfl) Tryd.underlying33 rfl rfl trivial rfl rfl rfl
def ti34 : TI := { size := 1, bytes := 24, agg := false, zero := [.slice none 0 0], kind := 2, flds := [], elem := 36, len := 0 }
theorem tok34 : TIOk Tryd.prog 34 ti34 := TIOk.of (z := .slice none 0 0) (by kernel_rfl) Tryd.underlying34 rfl rfl rfl rfl rfl rfl
def ti35 : TI := { size := 4, bytes := 56, agg := true, zero := [.int .i64 0, .string ⟨#[]⟩, .int .i64 0, .slice none 0 0], kind := 1, flds := [(0, 3), (1, 9), (2, 3), (3, 34)], elem := 0, len := 0 }
theorem tok35 : TIOk Tryd.prog 35 ti35 := TIOk.of (z := .agg #[.int .i64 0, .string ⟨#[]⟩, .int .i64 0, .slice none 0 0]) (by kernel_rfl) Tryd.underlying35 rfl rfl ⟨_, rfl, rfl⟩ rfl rfl rfl
def ti36 : TI := { size := 4, bytes := 56, agg := true, zero := [.int .i64 0, .string ⟨#[]⟩, .int .i64 0, .slice none 0 0], kind := 1, flds := [(0, 3), (1, 9), (2, 3), (3, 34)], elem := 0, len := 0 }
theorem tok36 : TIOk Tryd.prog 36 ti36 := TIOk.of (z := .agg #[.int .i64 0, .string ⟨#[]⟩, .int .i64 0, .slice none 0 0]) (by kernel_rfl) Tryd.underlying36 rfl rfl ⟨_, rfl, rfl⟩ rfl rfl rfl
def ti37 : TI := { size := 1, bytes := 8, agg := false, zero := [.nilFunc], kind := 0, flds := [], elem := 0, len := 0 }
theorem tok37 : TIOk Tryd.prog 37 ti37 := TIOk.of (z := .nilFunc) (by kernel_rfl) Tryd.underlying37 rfl rfl trivial rfl rfl rfl
def ti38 : TI := { size := 1, bytes := 24, agg := false, zero := [.slice none 0 0], kind := 2, flds := [], elem := 96, len := 0 }
theorem tok38 : TIOk Tryd.prog 38 ti38 := TIOk.of (z := .slice none 0 0) (by kernel_rfl) Tryd.underlying38 rfl rfl rfl rfl rfl rfl
def ti39 : TI := { size := 3, bytes := 48, agg := true, zero := [.string ⟨#[]⟩, .int .i64 0, .slice none 0 0], kind := 1, flds := [(0, 9), (1, 3), (2, 38)], elem := 0, len := 0 }
theorem tok39 : TIOk Tryd.prog 39 ti39 := TIOk.of (z := .agg #[.string ⟨#[]⟩, .int .i64 0, .slice none 0 0]) (by kernel_rfl) Tryd.underlying39 rfl rfl ⟨_, rfl, rfl⟩ rfl rfl rfl
def ti40 : TI := { size := 3, bytes := 48, agg := true, zero := [.string ⟨#[]⟩, .int .i64 0, .slice none 0 0], kind := 1, flds := [(0, 9), (1, 3), (2, 38)], elem := 0, len := 0 }
theorem tok40 : TIOk Tryd.prog 40 ti40 := TIOk.of (z := .agg #[.string ⟨#[]⟩, .int .i64 0, .slice none 0 0]) (by kernel_rfl) Tryd.underlying40 rfl rfl ⟨_, rfl, rfl⟩ rfl rfl rfl
def ti41 : TI := { size := 1, bytes := 8, agg := false, zero := [.nilFunc], kind := 0, flds := [], elem := 0, len := 0 }
theorem tok41 : TIOk Tryd.prog 41 ti41 := TIOk.of (z := .nilFunc) (by kernel_rfl) Tryd.underlying41 rfl rfl trivial rfl rfl rfl
def ti42 : TI := { size := 1, bytes := 8, agg := false, zero := [.nilFunc], kind := 0, flds := [], elem := 0, len := 0 }
theorem tok42 : TIOk Tryd.prog 42 ti42 := TIOk.of (z := .nilFunc) (by kernel_rfl) Tryd.underlying42 rfl rfl trivial rfl rfl rfl
def ti43 : TI := { size := 5, bytes := 72, agg := true, zero := [.string ⟨#[]⟩, .int .i64 0, .string ⟨#[]⟩, .int .i64 0, .slice none 0 0], kind := 1, flds := [(0, 9), (1, 36)], elem := 0, len := 0 }
theorem tok43 : TIOk Tryd.prog 43 ti43 := TIOk.of (z := .agg #[.string ⟨#[]⟩, .int .i64 0, .string ⟨#[]⟩, .int .i64 0, .slice none 0 0]) (by kernel_rfl) Tryd.underlying43 rfl rfl ⟨_, rfl, rfl⟩ rfl rfl rfl
def ti44 : TI := { size := 5, bytes := 72, agg := true, zero := [.string ⟨#[]⟩, .int .i64 0, .string ⟨#[]⟩, .int .i64 0, .slice none 0 0], kind := 1, flds := [(0, 9), (1, 36)], elem := 0, len := 0 }
theorem tok44 : TIOk Tryd.prog 44 ti44 := TIOk.of (z := .agg #[.string ⟨#[]⟩, .int .i64 0, .string ⟨#[]⟩, .int .i64 0, .slice none 0 0]) (by kernel_rfl) Tryd.underlying44 rfl rfl ⟨_, rfl, rfl⟩ rfl rfl rfl
def ti45 : TI := { size := 1, bytes := 8, agg := false, zero := [.nilFunc], kind := 0, flds := [], elem := 0, len := 0 }
theorem tok45 : TIOk Tryd.prog 45 ti45 := TIOk.of (z := .nilFunc) (by kernel_rfl) Tryd.underlying45 rfl rfl trivial rfl rfl rfl
def ti46 : TI := { size := 1, bytes := 8, agg := false, zero := [.nilFunc], kind := 0, flds := [], elem := 0, len := 0 }
theorem tok46 : TIOk Tryd.prog 46 ti46 := TIOk.of (z := .nilFunc) (by kernel_rfl) Tryd.underlying46 rfl rfl trivial rfl rfl rfl
def ti47 : TI := { size := 1, bytes := 24, agg := false, zero := [.slice none 0 0], kind := 2, flds := [], elem := 56, len := 0 }
theorem tok47 : TIOk Tryd.prog 47 ti47 := TIOk.of (z := .slice none 0 0) (by kernel_rfl) Tryd.underlying47 rfl rfl rfl rfl rfl rfl
def ti48 : TI := { size := 6, bytes := 88, agg := true, zero := [.int .i64 0, .slice none 0 0, .int .i64 0, .string ⟨#[]⟩, .int .i64 0, .slice none 0 0], kind := 1, flds := [(0, 3), (1, 47), (2, 36)], elem := 0, len := 0 }
theorem tok48 : TIOk Tryd.prog 48 ti48 := TIOk.of (z := .agg #[.int .i64 0, .slice none 0 0, .int .i64 0, .string ⟨#[]⟩, .int .i64 0, .slice none 0 0]) (by kernel_rfl) Tryd.underlying48 rfl rfl ⟨_, rfl, rfl⟩ rfl rfl rfl
def ti49 : TI := { size := 6, bytes := 88, agg := true, zero := [.int .i64 0, .slice none 0 0, .int .i64 0, .string ⟨#[]⟩, .int .i64 0, .slice none 0 0], kind := 1, flds := [(0, 3), (1, 47), (2, 36)], elem := 0, len := 0 }
theorem tok49 : TIOk Tryd.prog 49 ti49 := TIOk.of (z := .agg #[.int .i64 0, .slice none 0 0, .int .i64 0, .string ⟨#[]⟩, .int .i64 0, .slice none 0 0]) (by kernel_rfl) Tryd.underlying49 rfl rfl ⟨_, rfl, rfl⟩ rfl rfl rfl
def ti51 : TI := { size := 1, bytes := 8, agg := false, zero := [.nilFunc], kind := 0, flds := [], elem := 0, len := 0 }
theorem tok51 : TIOk Tryd.prog 51 ti51 := TIOk.of (z := .nilFunc) (by kernel_rfl) Tryd.underlying51 rfl rfl trivial rfl rfl rfl
def ti52 : TI := { size := 1, bytes := 8, agg := false, zero := [.nilFunc], kind := 0, flds := [], elem := 0, len := 0 }
theorem tok52 : TIOk Tryd.prog 52 ti52 := TIOk.of (z := .nilFunc) (by kernel_rfl) Tryd.underlying52 rfl rfl trivial rfl rfl rfl
def ti53 : TI := { size := 1, bytes := 8, agg := false, zero := [.nilFunc], kind := 0, flds := [], elem := 0, len := 0 }
theorem tok53 : TIOk Tryd.prog 53 ti53 := TIOk.of (z := .nilFunc) (by kernel_rfl) Tryd.underlying53 rfl rfl trivial rfl rfl rfl
def ti54 : TI := { size := 1, bytes := 8, agg := false, zero := [.nilFunc], kind := 0, flds := [], elem := 0, len := 0 }
theorem tok54 : TIOk Tryd.prog 54 ti54 := TIOk.of (z := .nilFunc) (by kernel_rfl) Tryd.underlying54 rfl rfl trivial rfl rfl rfl
def ti55 : TI := { size := 5, bytes := 72, agg := true, zero := [.string ⟨#[]⟩, .int .i64 0, .string ⟨#[]⟩, .int .i64 0, .slice none 0 0], kind := 1, flds := [(0, 9), (1, 36)], elem := 0, len := 0 }
theorem tok55 : TIOk Tryd.prog 55 ti55 := TIOk.of (z := .agg #[.string ⟨#[]⟩, .int .i64 0, .string ⟨#[]⟩, .int .i64 0, .slice none 0 0]) (by kernel_rfl) Tryd.underlying55 rfl rfl ⟨_, rfl, rfl⟩ rfl rfl rfl
def ti56 : TI := { size := 5, bytes := 72, agg := true, zero := [.string ⟨#[]⟩, .int .i64 0, .string ⟨#[]⟩, .int .i64 0, .slice none 0 0], kind := 1, flds := [(0, 9), (1, 36)], elem := 0, len := 0 }
theorem tok56 : TIOk Tryd.prog 56 ti56 := TIOk.of (z := .agg #[.string ⟨#[]⟩, .int .i64 0, .string ⟨#[]⟩, .int .i64 0, .slice none 0 0]) (by kernel_rfl) Tryd.underlying56 rfl rfl ⟨_, rfl, rfl⟩ rfl rfl rfl
def ti57 : TI := { size := 1, bytes := 8, agg := false, zero := [.nilFunc], kind := 0, flds := [], elem := 0, len := 0 }
theorem tok57 : TIOk Tryd.prog 57 ti57 := TIOk.of (z := .nilFunc) (by kernel_rfl) Tryd.underlying57 rfl rfl trivial rfl rfl rfl
def ti58 : TI := { size := 1, bytes := 8, agg := false, zero := [.nilFunc], kind := 0, flds := [], elem := 0, len := 0 }
theorem tok58 : TIOk Tryd.prog 58 ti58 := TIOk.of (z := .nilFunc) (by kernel_rfl) Tryd.underlying58 rfl rfl trivial rfl rfl rfl
def ti59 : TI := { size := 1, bytes := 8, agg := false, zero := [.nilFunc], kind := 0, flds := [], elem := 0, len := 0 }
theorem tok59 : TIOk Tryd.prog 59 ti59 := TIOk.of (z := .nilFunc) (by kernel_rfl) Tryd.underlying59 rfl rfl trivial rfl rfl rfl
def ti60 : TI := { size := 7, bytes := 104, agg := true, zero := [.string ⟨#[]⟩, .int .i64 0, .slice none 0 0, .int .i64 0, .string ⟨#[]⟩, .int .i64 0, .slice none 0 0], kind := 1, flds := [(0, 9), (1, 49)], elem := 0, len := 0 }
theorem tok60 : TIOk Tryd.prog 60 ti60 := TIOk.of (z := .agg #[.string ⟨#[]⟩, .int .i64 0, .slice none 0 0, .int .i64 0, .string ⟨#[]⟩, .int .i64 0, .slice none 0 0]) (by kernel_rfl) Tryd.underlying60 rfl rfl ⟨_, rfl, rfl⟩ rfl rfl rfl
def ti61 : TI := { size := 7, bytes := 104, agg := true, zero := [.string ⟨#[]⟩, .int .i64 0, .slice none 0 0, .int .i64 0, .string ⟨#[]⟩, .int .i64 0, .slice none 0 0], kind := 1, flds := [(0, 9), (1, 49)], elem := 0, len := 0 }
theorem tok61 : TIOk Tryd.prog 61 ti61 := TIOk.of (z := .agg #[.string ⟨#[]⟩, .int .i64 0, .slice none 0 0, .int .i64 0, .string ⟨#[]⟩, .int .i64 0, .slice none 0 0]) (by kernel_rfl) Tryd.underlying61 rfl rfl ⟨_, rfl, rfl⟩ rfl rfl rfl
def ti62 : TI := { size := 1, bytes := 8, agg := false, zero := [.nilFunc], kind := 0, flds := [], elem := 0, len := 0 }
theorem tok62 : TIOk Tryd.prog 62 ti62 := TIOk.of (z := .nilFunc) (by kernel_rfl) Tryd.underlying62 rfl rfl trivial rfl rfl rfl
def ti63 : TI := { size := 1, bytes := 8, agg := false, zero := [.nilFunc], kind := 0, flds := [], elem := 0, len := 0 }
theorem tok63 : TIOk Tryd.prog 63 ti63 := TIOk.of (z := .nilFunc) (by kernel_rfl) Tryd.underlying63 rfl rfl trivial rfl rfl rfl
def ti65 : TI := { size := 1, bytes := 8, agg := false, zero := [.nilFunc], kind := 0, flds := [], elem := 0, len := 0 }
theorem tok65 : TIOk Tryd.prog 65 ti65 := TIOk.of (z := .nilFunc) (by kernel_rfl) Tryd.underlying65 rfl rfl trivial rfl rfl rfl
def ti66 : TI := { size := 1, bytes := 8, agg := false, zero := [.nilFunc], kind := 0, flds := [], elem := 0, len := 0 }
theorem tok66 : TIOk Tryd.prog 66 ti66 := TIOk.of (z := .nilFunc) (by kernel_rfl) Tryd.underlying66 rfl rfl trivial rfl rfl rfl
def ti67 : TI := { size := 1, bytes := 8, agg := false, zero := [.nilFunc], kind := 0, flds := [], elem := 0, len := 0 }
theorem tok67 : TIOk Tryd.prog 67 ti67 := TIOk.of (z := .nilFunc) (by kernel_rfl) Tryd.underlying67 rfl rfl trivial rfl rfl rfl
def ti68 : TI := { size := 1, bytes := 8, agg := false, zero := [.nilFunc], kind := 0, flds := [], elem := 0, len := 0 }
theorem tok68 : TIOk Tryd.prog 68 ti68 := TIOk.of (z := .nilFunc) (by kernel_rfl) Tryd.underlying68 rfl rfl trivial rfl rfl rfl
def ti69 : TI := { size := 6, bytes := 120, agg := true, zero := [.string ⟨#[]⟩, .slice none 0 0, .slice none 0 0, .slice none 0 0, .slice none 0 0, .bool false], kind := 1, flds := [(0, 9), (1, 25), (3, 25), (5, 4)], elem := 0, len := 0 }
theorem tok69 : TIOk Tryd.prog 69 ti69 := TIOk.of (z := .agg #[.string ⟨#[]⟩, .slice none 0 0, .slice none 0 0, .slice none 0 0, .slice none 0 0, .bool false]) (by kernel_rfl) Tryd.underlying69 rfl rfl ⟨_, rfl, rfl⟩ rfl rfl rfl
def ti70 : TI := { size := 6, bytes := 120, agg := true, zero := [.string ⟨#[]⟩, .slice none 0 0, .slice none 0 0, .slice none 0 0, .slice none 0 0, .bool false], kind := 1, flds := [(0, 9), (1, 25), (3, 25), (5, 4)], elem := 0, len := 0 }
theorem tok70 : TIOk Tryd.prog 70 ti70 := TIOk.of (z := .agg #[.string ⟨#[]⟩, .slice none 0 0, .slice none 0 0, .slice none 0 0, .slice none 0 0, .bool false]) (by kernel_rfl) Tryd.underlying70 rfl rfl ⟨_, rfl, rfl⟩ rfl rfl rfl
def ti72 : TI := { size := 1, bytes := 8, agg := false, zero := [.nilFunc], kind := 0, flds := [], elem := 0, len := 0 }
theorem tok72 : TIOk Tryd.prog 72 ti72 := TIOk.of (z := .nilFunc) (by kernel_rfl) Tryd.underlying72 rfl rfl trivial rfl rfl rfl
def ti73 : TI := { size := 1, bytes := 8, agg := false, zero := [.nilFunc], kind := 0, flds := [], elem := 0, len := 0 }
theorem tok73 : TIOk Tryd.prog 73 ti73 := TIOk.of (z := .nilFunc) (by kernel_rfl) Tryd.underlying73 rfl rfl trivial rfl rfl rfl
def ti74 : TI := { size := 1, bytes := 8, agg := false, zero := [.nilFunc], kind := 0, flds := [], elem := 0, len := 0 }
theorem tok74 : TIOk Tryd.prog 74 ti74 := TIOk.of (z := .nilFunc) (by kernel_rfl) Tryd.underlying74 rfl rfl trivial rfl rfl rfl
def ti75 : TI := { size := 1, bytes := 8, agg := false, zero := [.nilFunc], kind := 0, flds := [], elem := 0, len := 0 }
theorem tok75 : TIOk Tryd.prog 75 ti75 := TIOk.of (z := .nilFunc) (by kernel_rfl) Tryd.underlying75 rfl rfl trivial rfl rfl rfl
def ti76 : TI := { size := 1, bytes := 8, agg := false, zero := [.nilFunc], kind := 0, flds := [], elem := 0, len := 0 }
theorem tok76 : TIOk Tryd.prog 76 ti76 := TIOk.of (z := .nilFunc) (by kernel_rfl) Tryd.underlying76 rfl rfl trivial rfl rfl rfl
def ti77 : TI := { size := 1, bytes := 8, agg := false, zero := [.nilFunc], kind := 0, flds := [], elem := 0, len := 0 }
theorem tok77 : TIOk Tryd.prog 77 ti77 := TIOk.of (z := .nilFunc) (by kernel_rfl) Tryd.underlying77 rfl rfl trivial rfl rfl rfl
def ti78 : TI := { size := 1, bytes := 8, agg := false, zero := [.nilFunc], kind := 0, flds := [], elem := 0, len := 0 }
theorem tok78 : TIOk Tryd.prog 78 ti78 := TIOk.of (z := .nilFunc) (by kernel_rfl) Tryd.underlying78 rfl rfl trivial rfl rfl rfl
def ti79 : TI := { size := 1, bytes := 8, agg := false, zero := [.nilFunc], kind := 0, flds := [], elem := 0, len := 0 }
theorem tok79 : TIOk Tryd.prog 79 ti79 := TIOk.of (z := .nilFunc) (by kernel_rfl) Tryd.underlying79 rfl rfl trivial rfl rfl rfl
def ti80 : TI := { size := 1, bytes := 8, agg := false, zero := [.nilFunc], kind := 0, flds := [], elem := 0, len := 0 }
theorem tok80 : TIOk Tryd.prog 80 ti80 := TIOk.of (z := .nilFunc) (by kernel_rfl) Tryd.underlying80 rfl rfl trivial rfl rfl rfl
def ti81 : TI := { size := 1, bytes := 8, agg := false, zero := [.nilFunc], kind := 0, flds := [], elem := 0, len := 0 }
theorem tok81 : TIOk Tryd.prog 81 ti81 := TIOk.of (z := .nilFunc) (by kernel_rfl) Tryd.underlying81 rfl rfl trivial rfl rfl rfl
def ti82 : TI := { size := 1, bytes := 8, agg := false, zero := [.nilFunc], kind := 0, flds := [], elem := 0, len := 0 }
theorem tok82 : TIOk Tryd.prog 82 ti82 := TIOk.of (z := .nilFunc) (by kernel_rfl) Tryd.underlying82 rfl rfl trivial rfl rfl rfl
def ti83 : TI := { size := 1, bytes := 8, agg := false, zero := [.nilFunc], kind := 0, flds := [], elem := 0, len := 0 }
theorem tok83 : TIOk Tryd.prog 83 ti83 := TIOk.of (z := .nilFunc) (by kernel_rfl) Tryd.underlying83 rfl rfl trivial rfl rfl rfl
def ti84 : TI := { size := 1, bytes := 8, agg := false, zero := [.nilFunc], kind := 0, flds := [], elem := 0, len := 0 }
theorem tok84 : TIOk Tryd.prog 84 ti84 := TIOk.of (z := .nilFunc) (by kernel_rfl) Tryd.underlying84 rfl rfl trivial rfl rfl rfl
def ti85 : TI := { size := 1, bytes := 8, agg := false, zero := [.nilFunc], kind := 0, flds := [], elem := 0, len := 0 }
theorem tok85 : TIOk Tryd.prog 85 ti85 := TIOk.of (z := .nilFunc) (by kernel_rfl) Tryd.underlying85 rfl rfl trivial rfl rfl rfl
def ti86 : TI := { size := 1, bytes := 8, agg := false, zero := [.nilFunc], kind := 0, flds := [], elem := 0, len := 0 }
theorem tok86 : TIOk Tryd.prog 86 ti86 := TIOk.of (z := .nilFunc) (by kernel_rfl) Tryd.underlying86 rfl rfl trivial rfl rfl rfl
def ti87 : TI := { size := 1, bytes := 8, agg := false, zero := [.nilFunc], kind := 0, flds := [], elem := 0, len := 0 }
theorem tok87 : TIOk Tryd.prog 87 ti87 := TIOk.of (z := .nilFunc) (by kernel_rfl) Tryd.underlying87 rfl rfl trivial rfl rfl rfl
def ti88 : TI := { size := 1, bytes := 8, agg := false, zero := [.nilFunc], kind := 0, flds := [], elem := 0, len := 0 }
theorem tok88 : TIOk Tryd.prog 88 ti88 := TIOk.of (z := .nilFunc) (by kernel_rfl) Tryd.underlying88 rfl rfl trivial rfl rfl rfl
def ti89 : TI := { size := 1, bytes := 8, agg := false, zero := [.nilFunc], kind := 0, flds := [], elem := 0, len := 0 }
theorem tok89 : TIOk Tryd.prog 89 ti89 := TIOk.of (z := .nilFunc) (by kernel_rfl) Tryd.underlying89 rfl rfl trivial rfl rfl rfl
def ti90 : TI := { size := 1, bytes := 8, agg := false, zero := [.nilFunc], kind := 0, flds := [], elem := 0, len := 0 }
theorem tok90 : TIOk Tryd.prog 90 ti90 := TIOk.of (z := .nilFunc) (by kernel_rfl) Tryd.underlying90 rfl rfl trivial rfl rfl rfl
def ti91 : TI := { size := 1, bytes := 8, agg := false, zero := [.int .u64 0], kind := 0, flds := [], elem := 0, len := 0 }
theorem tok91 : TIOk Tryd.prog 91 ti91 := TIOk.of (z := .int .u64 0) (by kernel_rfl) Tryd.underlying91 rfl rfl trivial rfl rfl rfl
def ti92 : TI := { size := 1, bytes := 8, agg := false, zero := [.nilFunc], kind := 0, flds := [], elem := 0, len := 0 }
theorem tok92 : TIOk Tryd.prog 92 ti92 := TIOk.of (z := .nilFunc) (by kernel_rfl) Tryd.underlying92 rfl rfl trivial rfl rfl rfl
def ti93 : TI := { size := 1, bytes := 8, agg := false, zero := [.nilFunc], kind := 0, flds := [], elem := 0, len := 0 }
theorem tok93 : TIOk Tryd.prog 93 ti93 := TIOk.of (z := .nilFunc) (by kernel_rfl) Tryd.underlying93 rfl rfl trivial rfl rfl rfl
def ti94 : TI := { size := 1, bytes := 8, agg := false, zero := [.nilFunc], kind := 0, flds := [], elem := 0, len := 0 }
theorem tok94 : TIOk Tryd.prog 94 ti94 := TIOk.of (z := .nilFunc) (by kernel_rfl) Tryd.underlying94 rfl rfl trivial rfl rfl rfl
def ti95 : TI := { size := 2, bytes := 40, agg := true, zero := [.string ⟨#[]⟩, .slice none 0 0], kind := 1, flds := [(0, 9), (1, 34)], elem := 0, len := 0 }
theorem tok95 : TIOk Tryd.prog 95 ti95 := TIOk.of (z := .agg #[.string ⟨#[]⟩, .slice none 0 0]) (by kernel_rfl) Tryd.underlying95 rfl rfl ⟨_, rfl, rfl⟩ rfl rfl rfl
def ti96 : TI := { size := 2, bytes := 40, agg := true, zero := [.string ⟨#[]⟩, .slice none 0 0], kind := 1, flds := [(0, 9), (1, 34)], elem := 0, len := 0 }
theorem tok96 : TIOk Tryd.prog 96 ti96 := TIOk.of (z := .agg #[.string ⟨#[]⟩, .slice none 0 0]) (by kernel_rfl) Tryd.underlying96 rfl rfl ⟨_, rfl, rfl⟩ rfl rfl rfl
def ti98 : TI := { size := 1, bytes := 8, agg := false, zero := [.nilFunc], kind := 0, flds := [], elem := 0, len := 0 }
theorem tok98 : TIOk Tryd.prog 98 ti98 := TIOk.of (z := .nilFunc) (by kernel_rfl) Tryd.underlying98 rfl rfl trivial rfl rfl rfl
def ti99 : TI := { size := 1, bytes := 8, agg := false, zero := [.nilFunc], kind := 0, flds := [], elem := 0, len := 0 }
theorem tok99 : TIOk Tryd.prog 99 ti99 := TIOk.of (z := .nilFunc) (by kernel_rfl) Tryd.underlying99 rfl rfl trivial rfl rfl rfl
def ti100 : TI := { size := 1, bytes := 8, agg := false, zero := [.nilFunc], kind := 0, flds := [], elem := 0, len := 0 }
theorem tok100 : TIOk Tryd.prog 100 ti100 := TIOk.of (z := .nilFunc) (by kernel_rfl) Tryd.underlying100 rfl rfl trivial rfl rfl rfl
def ti101 : TI := { size := 1, bytes := 8, agg := false, zero := [.nilFunc], kind := 0, flds := [], elem := 0, len := 0 }
theorem tok101 : TIOk Tryd.prog 101 ti101 := TIOk.of (z := .nilFunc) (by kernel_rfl) Tryd.underlying101 rfl rfl trivial rfl rfl rfl
def ti102 : TI := { size := 1, bytes := 8, agg := false, zero := [.nilFunc], kind := 0, flds := [], elem := 0, len := 0 }
theorem tok102 : TIOk Tryd.prog 102 ti102 := TIOk.of (z := .nilFunc) (by kernel_rfl) Tryd.underlying102 rfl rfl trivial rfl rfl rfl
def ti103 : TI := { size := 1, bytes := 8, agg := false, zero := [.pointer none], kind := 6, flds := [], elem := 106, len := 0 }
theorem tok103 : TIOk Tryd.prog 103 ti103 := TIOk.of (z := .pointer none) (by kernel_rfl) Tryd.underlying103 rfl rfl rfl rfl rfl rfl
def ti104 : TI := { size := 1, bytes := 8, agg := false, zero := [.map none], kind := 4, flds := [], elem := 36, len := 0 }
theorem tok104 : TIOk Tryd.prog 104 ti104 := TIOk.of (z := .map none) (by kernel_rfl) Tryd.underlying104 rfl rfl ⟨_, rfl⟩ rfl rfl rfl
def ti105 : TI := { size := 1, bytes := 8, agg := true, zero := [.map none], kind := 1, flds := [(0, 104)], elem := 0, len := 0 }
theorem tok105 : TIOk Tryd.prog 105 ti105 := TIOk.of (z := .agg #[.map none]) (by kernel_rfl) Tryd.underlying105 rfl rfl ⟨_, rfl, rfl⟩ rfl rfl rfl
def ti106 : TI := { size := 1, bytes := 8, agg := true, zero := [.map none], kind := 1, flds := [(0, 104)], elem := 0, len := 0 }
theorem tok106 : TIOk Tryd.prog 106 ti106 := TIOk.of (z := .agg #[.map none]) (by kernel_rfl) Tryd.underlying106 rfl rfl ⟨_, rfl, rfl⟩ rfl rfl rfl
def ti107 : TI := { size := 1, bytes := 8, agg := false, zero := [.nilFunc], kind := 0, flds := [], elem := 0, len := 0 }
theorem tok107 : TIOk Tryd.prog 107 ti107 := TIOk.of (z := .nilFunc) (by kernel_rfl) Tryd.underlying107 rfl rfl trivial rfl rfl rfl
def ti108 : TI := { size := 1, bytes := 8, agg := false, zero := [.nilFunc], kind := 0, flds := [], elem := 0, len := 0 }
theorem tok108 : TIOk Tryd.prog 108 ti108 := TIOk.of (z := .nilFunc) (by kernel_rfl) Tryd.underlying108 rfl rfl trivial rfl rfl rfl
def ti109 : TI := { size := 1, bytes := 8, agg := false, zero := [.nilFunc], kind := 0, flds := [], elem := 0, len := 0 }
theorem tok109 : TIOk Tryd.prog 109 ti109 := TIOk.of (z := .nilFunc) (by kernel_rfl) Tryd.underlying109 rfl rfl trivial rfl rfl rfl
def ti110 : TI := { size := 1, bytes := 8, agg := false, zero := [.nilFunc], kind := 0, flds := [], elem := 0, len := 0 }
theorem tok110 : TIOk Tryd.prog 110 ti110 := TIOk.of (z := .nilFunc) (by kernel_rfl) Tryd.underlying110 rfl rfl trivial rfl rfl rfl
def ti111 : TI := { size := 1, bytes := 8, agg := false, zero := [.nilFunc], kind := 0, flds := [], elem := 0, len := 0 }
theorem tok111 : TIOk Tryd.prog 111 ti111 := TIOk.of (z := .nilFunc) (by kernel_rfl) Tryd.underlying111 rfl rfl trivial rfl rfl rfl
def ti112 : TI := { size := 1, bytes := 8, agg := false, zero := [.nilFunc], kind := 0, flds := [], elem := 0, len := 0 }
theorem tok112 : TIOk Tryd.prog 112 ti112 := TIOk.of (z := .nilFunc) (by kernel_rfl) Tryd.underlying112 rfl rfl trivial rfl rfl rfl
def ti113 : TI := { size := 1, bytes := 8, agg := false, zero := [.nilFunc], kind := 0, flds := [], elem := 0, len := 0 }
theorem tok113 : TIOk Tryd.prog 113 ti113 := TIOk.of (z := .nilFunc) (by kernel_rfl) Tryd.underlying113 rfl rfl trivial rfl rfl rfl
def ti114 : TI := { size := 1, bytes := 8, agg := false, zero := [.nilFunc], kind := 0, flds := [], elem := 0, len := 0 }
theorem tok114 : TIOk Tryd.prog 114 ti114 := TIOk.of (z := .nilFunc) (by kernel_rfl) Tryd.underlying114 rfl rfl trivial rfl rfl rfl
def ti115 : TI := { size := 1, bytes := 8, agg := false, zero := [.nilFunc], kind := 0, flds := [], elem := 0, len := 0 }
theorem tok115 : TIOk Tryd.prog 115 ti115 := TIOk.of (z := .nilFunc) (by kernel_rfl) Tryd.underlying115 rfl rfl trivial rfl rfl rfl
def ti116 : TI := { size := 1, bytes := 8, agg := false, zero := [.nilFunc], kind := 0, flds := [], elem := 0, len := 0 }
theorem tok116 : TIOk Tryd.prog 116 ti116 := TIOk.of (z := .nilFunc) (by kernel_rfl) Tryd.underlying116 rfl rfl trivial rfl rfl rfl
def ti117 : TI := { size := 1, bytes := 8, agg := false, zero := [.nilFunc], kind := 0, flds := [], elem := 0, len := 0 }
theorem tok117 : TIOk Tryd.prog 117 ti117 := TIOk.of (z := .nilFunc) (by kernel_rfl) Tryd.underlying117 rfl rfl trivial rfl rfl rfl
def ti119 : TI := { size := 1, bytes := 8, agg := false, zero := [.nilFunc], kind := 0, flds := [], elem := 0, len := 0 }
theorem tok119 : TIOk Tryd.prog 119 ti119 := TIOk.of (z := .nilFunc) (by kernel_rfl) Tryd.underlying119 rfl rfl trivial rfl rfl rfl
def ti120 : TI := { size := 1, bytes := 8, agg := false, zero := [.nilFunc], kind := 0, flds := [], elem := 0, len := 0 }
theorem tok120 : TIOk Tryd.prog 120 ti120 := TIOk.of (z := .nilFunc) (by kernel_rfl) Tryd.underlying120 rfl rfl trivial rfl rfl rfl
def ti121 : TI := { size := 6, bytes := 48, agg := true, zero := [.int .i64 0, .int .i64 0, .int .i64 0, .int .i64 0, .int .i64 0, .int .i64 0], kind := 3, flds := [], elem := 3, len := 6 }
theorem tok121 : TIOk Tryd.prog 121 ti121 := TIOk.of (z := .agg #[.int .i64 0, .int .i64 0, .int .i64 0, .int .i64 0, .int .i64 0, .int .i64 0]) (by kernel_rfl) Tryd.underlying121 rfl rfl rfl rfl rfl rfl
def ti122 : TI := { size := 1, bytes := 8, agg := false, zero := [.nilFunc], kind := 0, flds := [], elem := 0, len := 0 }
theorem tok122 : TIOk Tryd.prog 122 ti122 := TIOk.of (z := .nilFunc) (by kernel_rfl) Tryd.underlying122 rfl rfl trivial rfl rfl rfl
def ti123 : TI := { size := 1, bytes := 8, agg := false, zero := [.nilFunc], kind := 0, flds := [], elem := 0, len := 0 }
theorem tok123 : TIOk Tryd.prog 123 ti123 := TIOk.of (z := .nilFunc) (by kernel_rfl) Tryd.underlying123 rfl rfl trivial rfl rfl rfl
def ti124 : TI := { size := 1, bytes := 8, agg := false, zero := [.nilFunc], kind := 0, flds := [], elem := 0, len := 0 }
theorem tok124 : TIOk Tryd.prog 124 ti124 := TIOk.of (z := .nilFunc) (by kernel_rfl) Tryd.underlying124 rfl rfl trivial rfl rfl rfl
def ti125 : TI := { size := 1, bytes := 8, agg := false, zero := [.nilFunc], kind := 0, flds := [], elem := 0, len := 0 }
theorem tok125 : TIOk Tryd.prog 125 ti125 := TIOk.of (z := .nilFunc) (by kernel_rfl) Tryd.underlying125 rfl rfl trivial rfl rfl rfl
def ti129 : TI := { size := 1, bytes := 8, agg := false, zero := [.nilFunc], kind := 0, flds := [], elem := 0, len := 0 }
theorem tok129 : TIOk Tryd.prog 129 ti129 := TIOk.of (z := .nilFunc) (by kernel_rfl) Tryd.underlying129 rfl rfl trivial rfl rfl rfl
def ti130 : TI := { size := 1, bytes := 8, agg := false, zero := [.nilFunc], kind := 0, flds := [], elem := 0, len := 0 }
theorem tok130 : TIOk Tryd.prog 130 ti130 := TIOk.of (z := .nilFunc) (by kernel_rfl) Tryd.underlying130 rfl rfl trivial rfl rfl rfl
def ti132 : TI := { size := 1, bytes := 8, agg := false, zero := [.int .u64 0], kind := 0, flds := [], elem := 0, len := 0 }
theorem tok132 : TIOk Tryd.prog 132 ti132 := TIOk.of (z := .int .u64 0) (by kernel_rfl) Tryd.underlying132 rfl rfl trivial rfl rfl rfl
def ti133 : TI := { size := 1, bytes := 8, agg := false, zero := [.nilFunc], kind := 0, flds := [], elem := 0, len := 0 }
theorem tok133 : TIOk Tryd.prog 133 ti133 := TIOk.of (z := .nilFunc) (by kernel_rfl) Tryd.underlying133 rfl rfl trivial rfl rfl rfl
def ti134 : TI := { size := 1, bytes := 8, agg := false, zero := [.nilFunc], kind := 0, flds := [], elem := 0, len := 0 }
theorem tok134 : TIOk Tryd.prog 134 ti134 := TIOk.of (z := .nilFunc) (by kernel_rfl) Tryd.underlying134 rfl rfl trivial rfl rfl rfl
def ti135 : TI := { size := 1, bytes := 24, agg := false, zero := [.slice none 0 0], kind := 2, flds := [], elem := 5, len := 0 }
theorem tok135 : TIOk Tryd.prog 135 ti135 := TIOk.of (z := .slice none 0 0) (by kernel_rfl) Tryd.underlying135 rfl rfl rfl rfl rfl rfl
def ti137 : TI := { size := 1, bytes := 8, agg := false, zero := [.nilFunc], kind := 0, flds := [], elem := 0, len := 0 }
theorem tok137 : TIOk Tryd.prog 137 ti137 := TIOk.of (z := .nilFunc) (by kernel_rfl) Tryd.underlying137 rfl rfl trivial rfl rfl rfl
def ti138 : TI := { size := 1, bytes := 8, agg := false, zero := [.nilFunc], kind := 0, flds := [], elem := 0, len := 0 }
theorem tok138 : TIOk Tryd.prog 138 ti138 := TIOk.of (z := .nilFunc) (by kernel_rfl) Tryd.underlying138 rfl rfl trivial rfl rfl rfl
def ti139 : TI := { size := 1, bytes := 8, agg := false, zero := [.nilFunc], kind := 0, flds := [], elem := 0, len := 0 }
theorem tok139 : TIOk Tryd.prog 139 ti139 := TIOk.of (z := .nilFunc) (by kernel_rfl) Tryd.underlying139 rfl rfl trivial rfl rfl rfl
def ti140 : TI := { size := 1, bytes := 8, agg := false, zero := [.nilFunc], kind := 0, flds := [], elem := 0, len := 0 }
theorem tok140 : TIOk Tryd.prog 140 ti140 := TIOk.of (z := .nilFunc) (by kernel_rfl) Tryd.underlying140 rfl rfl trivial rfl rfl rfl
def ti141 : TI := { size := 1, bytes := 8, agg := false, zero := [.pointer none], kind := 6, flds := [], elem := 127, len := 0 }
theorem tok141 : TIOk Tryd.prog 141 ti141 := TIOk.of (z := .pointer none) (by kernel_rfl) Tryd.underlying141 rfl rfl rfl rfl rfl rfl
def ti142 : TI := { size := 1, bytes := 8, agg := false, zero := [.nilFunc], kind := 0, flds := [], elem := 0, len := 0 }
theorem tok142 : TIOk Tryd.prog 142 ti142 := TIOk.of (z := .nilFunc) (by kernel_rfl) Tryd.underlying142 rfl rfl trivial rfl rfl rfl
def ti144 : TI := { size := 1, bytes := 4, agg := false, zero := [.int .u32 0], kind := 0, flds := [], elem := 0, len := 0 }
theorem tok144 : TIOk Tryd.prog 144 ti144 := TIOk.of (z := .int .u32 0) (by kernel_rfl) Tryd.underlying144 rfl rfl trivial rfl rfl rfl
def ti146 : TI := { size := 1, bytes := 8, agg := false, zero := [.nilFunc], kind := 0, flds := [], elem := 0, len := 0 }
theorem tok146 : TIOk Tryd.prog 146 ti146 := TIOk.of (z := .nilFunc) (by kernel_rfl) Tryd.underlying146 rfl rfl trivial rfl rfl rfl
def tab : Tab := [(1, ti1), (2, ti2), (3, ti3), (4, ti4), (5, ti5), (6, ti6), (7, ti7), (8, ti8), (9, ti9), (10, ti10), (11, ti11), (12, ti12), (13, ti13), (14, ti14), (15, ti15), (16, ti16), (17, ti17), (18, ti18), (19, ti19), (21, ti21), (22, ti22), (23, ti23), (24, ti24), (25, ti25), (26, ti26), (27, ti27), (29, ti29), (30, ti30), (31, ti31), (32, ti32), (33, ti33), (34, ti34), (35, ti35), (36, ti36), (37, ti37), (38, ti38), (39, ti39), (40, ti40), (41, ti41), (42, ti42), (43, ti43), (44, ti44), (45, ti45), (46, ti46), (47, ti47), (48, ti48), (49, ti49), (51, ti51), (52, ti52), (53, ti53), (54, ti54), (55, ti55), (56, ti56), (57, ti57), (58, ti58), (59, ti59), (60, ti60), (61, ti61), (62, ti62), (63, ti63), (65, ti65), (66, ti66), (67, ti67), (68, ti68), (69, ti69), (70, ti70), (72, ti72), (73, ti73), (74, ti74), (75, ti75), (76, ti76), (77, ti77), (78, ti78), (79, ti79), (80, ti80), (81, ti81), (82, ti82), (83, ti83), (84, ti84), (85, ti85), (86, ti86), (87, ti87), (88, ti88), (89, ti89), (90, ti90), (91, ti91), (92, ti92), (93, ti93), (94, ti94), (95, ti95), (96, ti96), (98, ti98), (99, ti99), (100, ti100), (101, ti101), (102, ti102), (103, ti103), (104, ti104), (105, ti105), (106, ti106), (107, ti107), (108, ti108), (109, ti109), (110, ti110), (111, ti111), (112, ti112), (113, ti113), (114, ti114), (115, ti115), (116, ti116), (117, ti117), (119, ti119), (120, ti120), (121, ti121), (122, ti122), (123, ti123), (124, ti124), (125, ti125), (129, ti129), (130, ti130), (132, ti132), (133, ti133), (134, ti134), (135, ti135), (137, ti137), (138, ti138), (139, ti139), (140, ti140), (141, ti141), (142, ti142), (144, ti144), (146, ti146)]
theorem tabOk : TabOk Tryd.prog tab := TabOk.of (by
  simp only [tab, List.forall_mem_cons]
  exact ⟨tok1, tok2, tok3, tok4, tok5, tok6, tok7, tok8, tok9, tok10, tok11, tok12, tok13, tok14, tok15, tok16, tok17, tok18, tok19, tok21, tok22, tok23, tok24, tok25, tok26, tok27, tok29, tok30, tok31, tok32, tok33, tok34, tok35, tok36, tok37, tok38, tok39, tok40, tok41, tok42, tok43, tok44, tok45, tok46, tok47, tok48, tok49, tok51, tok52, tok53, tok54, tok55, tok56, tok57, tok58, tok59, tok60, tok61, tok62, tok63, tok65, tok66, tok67, tok68, tok69, tok70, tok72, tok73, tok74, tok75, tok76, tok77, tok78, tok79, tok80, tok81, tok82, tok83, tok84, tok85, tok86, tok87, tok88, tok89, tok90, tok91, tok92, tok93, tok94, tok95, tok96, tok98, tok99, tok100, tok101, tok102, tok103, tok104, tok105, tok106, tok107, tok108, tok109, tok110, tok111, tok112, tok113, tok114, tok115, tok116, tok117, tok119, tok120, tok121, tok122, tok123, tok124, tok125, tok129, tok130, tok132, tok133, tok134, tok135, tok137, tok138, tok139, tok140, tok141, tok142, tok144, tok146, fun _ h => by cases h⟩)
end Go.Proofs.YtoojdmgbffnmiaaDoor
/- Types, schemes and specifications us plain data, and the abstract values that they are. No condition. -/
namespace Go.Proofs.YtoojdmgbffnmiaaDoor
open Go Go.Abs

abbrev Str := ByteArray
inductive Ty where
  | mk (kind : Int) (name : Str) (var : Int) (args : List Ty)
def Ty.kind : Ty → Int | .mk k _ _ _ => k
def Ty.name : Ty → Str | .mk _ n _ _ => n
def Ty.var : Ty → Int | .mk _ _ v _ => v
def Ty.args : Ty → List Ty | .mk _ _ _ us => us
@[simp] theorem Ty.kind_mk (k n v us) : (Ty.mk k n v us).kind = k := rfl
@[simp] theorem Ty.name_mk (k n v us) : (Ty.mk k n v us).name = n := rfl
@[simp] theorem Ty.var_mk (k n v us) : (Ty.mk k n v us).var = v := rfl
@[simp] theorem Ty.args_mk (k n v us) : (Ty.mk k n v us).args = us := rfl
abbrev int (n : Int) : AC := .lit (.int .i64 n)
abbrev str (s : Str) : AC := .lit (.string s)
mutual
def encTy : Ty → List AC
  | .mk k n v us => [int k, str n, int v, .sl 4 (encTys us)]
def encTys : List Ty → List (List AC)
  | [] => []
  | t :: ts => encTy t :: encTys ts
end
def cTy (t : Ty) : List AC := [int t.kind, str t.name, int t.var, .sl 4 (encTys t.args)]
theorem encTy_eq (t : Ty) : encTy t = cTy t := by cases t; simp [encTy, cTy]
theorem encTys_eq : ∀ l : List Ty, encTys l = l.map cTy
  | [] => rfl
  | t :: ts => by simp [encTys, encTys_eq ts, encTy_eq]
theorem encTys_get {l : List Ty} {i : Nat} {t : Ty} (h : l[i]? = some t) : (encTys l)[i]? = some (cTy t) := by rw [encTys_eq]; simp [h]

attribute [simp] idsL idsS AC.ids FV.ids idsF Fr.ids inL isO AObj.ids
mutual
theorem ids_encTy (p : Abs.Id → Prop) : ∀ t : Ty, idsL p (encTy t)
  | .mk k n v us => by simp [encTy, ids_encTys p us]
theorem ids_encTys (p : Abs.Id → Prop) : ∀ l : List Ty, idsS p (encTys l)
  | [] => by simp [encTys]
  | t :: ts => by simp [encTys, ids_encTy p t, ids_encTys p ts]
end
attribute [simp] ids_encTys
@[simp] theorem ids_cTy (p : Abs.Id → Prop) (t : Ty) : idsL p (cTy t) := by simp [cTy]
@[simp] theorem ren_encTys (ρ : Nat → Nat) (l : List Ty) : renS ρ (encTys l) = encTys l := renS_pure ρ _ (ids_encTys _ l)
@[simp] theorem len_encTys (l : List Ty) : (encTys l).length = l.length := by rw [encTys_eq]; simp
theorem idsS_map {α : Type} {p : Abs.Id → Prop} {f : α → List AC} (h : ∀ x, idsL p (f x)) : ∀ l : List α, idsS p (l.map f)
  | [] => by simp
  | x :: l => by simp [h x, idsS_map h l]

structure Prd where
  cls : Str
  ty : Ty
structure Sch where
  vars : Int
  preds : List Prd
  ty : Ty
structure VSig where
  name : Str
  sch : Sch
structure CSig where
  name : Str
  args : List Ty
structure DSig where
  name : Str
  params : Int
  cons : List CSig
structure Spec where
  datas : List DSig
  vals : List VSig
structure SMap where
  name : Str
  ty : Ty
structure Fctr where
  name : Str
  needs : Spec
  yields : Spec
  fresh : Bool
def cPrd (p : Prd) : List AC := str p.cls :: cTy p.ty
def cSch (s : Sch) : List AC := int s.vars :: .sl 5 (s.preds.map cPrd) :: cTy s.ty
def cVal (v : VSig) : List AC := str v.name :: cSch v.sch
def cCon (c : CSig) : List AC := [str c.name, .sl 4 (encTys c.args)]
def cData (d : DSig) : List AC := [str d.name, int d.params, .sl 2 (d.cons.map cCon)]
def cSpec (s : Spec) : List AC := [.sl 3 (s.datas.map cData), .sl 7 (s.vals.map cVal)]
def cMap (m : SMap) : List AC := str m.name :: cTy m.ty
def cFctr (f : Fctr) : List AC := str f.name :: (cSpec f.needs ++ cSpec f.yields ++ [.lit (.bool f.fresh)])
@[simp] theorem ids_cPrd (p : Abs.Id → Prop) (t : Prd) : idsL p (cPrd t) := by simp [cPrd]
@[simp] theorem ids_cSch (p : Abs.Id → Prop) (t : Sch) : idsL p (cSch t) := by simp [cSch, idsS_map (ids_cPrd p)]
@[simp] theorem ids_cVal (p : Abs.Id → Prop) (t : VSig) : idsL p (cVal t) := by simp [cVal]
@[simp] theorem ids_cCon (p : Abs.Id → Prop) (t : CSig) : idsL p (cCon t) := by simp [cCon]
@[simp] theorem ids_cData (p : Abs.Id → Prop) (t : DSig) : idsL p (cData t) := by simp [cData, idsS_map (ids_cCon p)]
@[simp] theorem ids_cSpec (p : Abs.Id → Prop) (t : Spec) : idsL p (cSpec t) := by simp [cSpec, idsS_map (ids_cData p), idsS_map (ids_cVal p)]
@[simp] theorem ids_cMap (p : Abs.Id → Prop) (t : SMap) : idsL p (cMap t) := by simp [cMap]
@[simp] theorem ids_cFctr (p : Abs.Id → Prop) (t : Fctr) : idsL p (cFctr t) := by simp [cFctr, cSpec, idsS_map (ids_cData p), idsS_map (ids_cVal p)]
@[simp] theorem ids_prds (p : Abs.Id → Prop) (l : List Prd) : idsS p (l.map cPrd) := idsS_map (ids_cPrd p) l
@[simp] theorem ids_vals (p : Abs.Id → Prop) (l : List VSig) : idsS p (l.map cVal) := idsS_map (ids_cVal p) l
@[simp] theorem ids_cons (p : Abs.Id → Prop) (l : List CSig) : idsS p (l.map cCon) := idsS_map (ids_cCon p) l
@[simp] theorem ids_datas (p : Abs.Id → Prop) (l : List DSig) : idsS p (l.map cData) := idsS_map (ids_cData p) l
@[simp] theorem ids_maps (p : Abs.Id → Prop) (l : List SMap) : idsS p (l.map cMap) := idsS_map (ids_cMap p) l
@[simp] theorem ren_prds (ρ : Nat → Nat) (l : List Prd) : renS ρ (l.map cPrd) = l.map cPrd := renS_pure ρ _ (ids_prds _ l)
@[simp] theorem ren_vals (ρ : Nat → Nat) (l : List VSig) : renS ρ (l.map cVal) = l.map cVal := renS_pure ρ _ (ids_vals _ l)
@[simp] theorem ren_cons (ρ : Nat → Nat) (l : List CSig) : renS ρ (l.map cCon) = l.map cCon := renS_pure ρ _ (ids_cons _ l)
@[simp] theorem ren_datas (ρ : Nat → Nat) (l : List DSig) : renS ρ (l.map cData) = l.map cData := renS_pure ρ _ (ids_datas _ l)
@[simp] theorem ren_maps (ρ : Nat → Nat) (l : List SMap) : renS ρ (l.map cMap) = l.map cMap := renS_pure ρ _ (ids_maps _ l)
theorem map_get {α : Type} {f : α → List AC} {l : List α} {i : Nat} {x : α} (h : l[i]? = some x) : (l.map f)[i]? = some (f x) := by simp [h]
theorem get_of_lt {α : Type} {l : List α} {i : Nat} (h : i < l.length) : ∃ x, l[i]? = some x := ⟨_, List.getElem?_eq_getElem h⟩

mutual
/-- No list below is longer than 2^20, no variable of a replacement is negative. -/
def smallTy : Ty → Prop
  | .mk _ _ _ us => us.length ≤ 1048576 ∧ smallTys us
def smallTys : List Ty → Prop
  | [] => True
  | t :: ts => smallTy t ∧ smallTys ts
end
theorem smallTys_iff : ∀ {l : List Ty}, smallTys l ↔ ∀ t ∈ l, smallTy t
  | [] => by simp [smallTys]
  | t :: ts => by simp [smallTys, smallTys_iff (l := ts)]
mutual
def posTy : Ty → Prop
  | .mk k _ v us => (k = 0 → 0 ≤ v) ∧ posTys us
def posTys : List Ty → Prop
  | [] => True
  | t :: ts => posTy t ∧ posTys ts
end
theorem posTys_iff : ∀ {l : List Ty}, posTys l ↔ ∀ t ∈ l, posTy t
  | [] => by simp [posTys]
  | t :: ts => by simp [posTys, posTys_iff (l := ts)]

mutual
def fillTy (args : List Ty) : Ty → Ty
  | .mk k n v us => if k = 0 then (match args[v.toNat]? with | some a => if v < args.length then a else .mk k n v us | none => .mk k n v us) else .mk k n 0 (fillTys args us)
def fillTys (args : List Ty) : List Ty → List Ty
  | [] => []
  | t :: ts => fillTy args t :: fillTys args ts
end
theorem fillTys_eq (args : List Ty) : ∀ l : List Ty, fillTys args l = l.map (fillTy args)
  | [] => rfl
  | t :: ts => by simp [fillTys, fillTys_eq args ts]

/-- The first map of a name. -/
def findMap (l : List SMap) (n : Str) : Option SMap := l.find? (fun m => m.name.toList == n.toList)
mutual
def substTy (l : List SMap) : Ty → Ty
  | .mk k n v us => if k = 1 then (match findMap l n with | some m => fillTy (substTys l us) m.ty | none => .mk k n v (substTys l us)) else .mk k n v (substTys l us)
def substTys (l : List SMap) : List Ty → List Ty
  | [] => []
  | t :: ts => substTy l t :: substTys l ts
end
theorem substTys_eq (m : List SMap) : ∀ l : List Ty, substTys m l = l.map (substTy m)
  | [] => rfl
  | t :: ts => by simp [substTys, substTys_eq m ts]

theorem RS_eq {x y : List (List AC)} {s : Nat} {i : Abs.Id} (h : x = y) : AC.gs s x i = AC.gs s y i := by rw [h]
theorem follows : Tryd.prog.follows .mixedOrders = true := by kernel_rfl
/-- Two equal strings, us the program compares them. -/
theorem str_eq {a b : Str} : (a.toList == b.toList) = true ↔ a = b := by
  constructor
  · intro h
    have := eq_of_beq h
    rw [Go.ByteArray.toList_eq, Go.ByteArray.toList_eq] at this
    exact ByteArray.ext (Array.toList_inj.1 this)
  · rintro rfl; simp
end Go.Proofs.YtoojdmgbffnmiaaDoor
/- filled: what it computes. -/
namespace Go.Proofs.YtoojdmgbffnmiaaDoor
open Go Go.Abs
set_option maxRecDepth 10000
set_option linter.unusedVariables false
set_option linter.unusedSimpArgs false
variable {Γ : List (Nat × List AC)}
theorem filled_ok (hΓ : ∀ g cs, (g, cs) ∈ Γ → idsL isO cs) (args : List Ty) (hargs : args.length ≤ 1048576) : ∀ (t : Ty) (ht : smallTy t) (hp : posTy t), APure Tryd.prog Γ 47 [.agg (cTy t), .one (.sl 4 (encTys args))] (.agg (cTy (fillTy args t)))
  | .mk k n v ts, ht, hp => by
    have ih : ∀ a ∈ ts, APure Tryd.prog Γ 47 [.agg (cTy a), .one (.sl 4 (encTys args))] (.agg (cTy (fillTy args a))) := fun a ha =>
      filled_ok hΓ args hargs a (smallTys_iff.1 ht.2 a ha) (posTys_iff.1 hp.2 a ha)
    have hlen := ht.1
    intro ou
    refine AFn.walk 44 tabOk Tryd.func47 rfl (by kernel_rfl) rfl rfl fun hou => ?_
    repeat first | (with_reducible refine oj ?_; refine AOps.auto tabOk rfl ?_) | (with_reducible first | refine o1 ?_ | refine o2 ?_ | refine o3 ?_ | refine o4 ?_ | refine o5 ?_ | refine o6 ?_ | refine o7 ?_ | refine o8 ?_ | refine o9 ?_ | refine oa ?_ | refine ob ?_ | refine oc ?_ | refine od ?_ | refine oe ?_ | refine og ?_ | refine oh ?_ | refine oi ?_) | (with_reducible refine cExitMiss ?_ ?_; rfl) | (with_reducible refine ok ?_; first | refine ACode.condT rfl ?_ | refine ACode.condF rfl ?_)
    refine ACode.cond rfl (fun hb => ?_) (fun hb => ?_)
    · have hk : k = 0 := by simpa using hb
      have hv : 0 ≤ v := hp.1 hk
      repeat first | (with_reducible refine oj ?_; refine AOps.auto tabOk rfl ?_) | (with_reducible first | refine o1 ?_ | refine o2 ?_ | refine o3 ?_ | refine o4 ?_ | refine o5 ?_ | refine o6 ?_ | refine o7 ?_ | refine o8 ?_ | refine o9 ?_ | refine oa ?_ | refine ob ?_ | refine oc ?_ | refine od ?_ | refine oe ?_ | refine og ?_ | refine oh ?_ | refine oi ?_) | (with_reducible refine cExitMiss ?_ ?_; rfl) | (with_reducible refine ok ?_; first | refine ACode.condT rfl ?_ | refine ACode.condF rfl ?_)
      refine ACode.cond rfl (fun hb2 => ?_) (fun hb2 => ?_)
      · have hlt : v.toNat < args.length := by simp at hb2; omega
        obtain ⟨a, ha⟩ := get_of_lt hlt
        repeat first | (with_reducible refine oj ?_; refine AOps.auto tabOk rfl ?_) | (with_reducible first | refine o1 ?_ | refine o2 ?_ | refine o3 ?_ | refine o4 ?_ | refine o5 ?_ | refine o6 ?_ | refine o7 ?_ | refine o8 ?_ | refine o9 ?_ | refine oa ?_ | refine ob ?_ | refine oc ?_ | refine od ?_ | refine oe ?_ | refine og ?_ | refine oh ?_ | refine oi ?_) | (with_reducible refine cExitMiss ?_ ?_; rfl) | (with_reducible refine ok ?_; first | refine ACode.condT rfl ?_ | refine ACode.condF rfl ?_)
        refine AOps.step1 rfl rfl rfl (AStep.indexAddr tabOk rfl rfl rfl rfl rfl rfl (.inl rfl) rfl hv (encTys_get ha)) ?_
        repeat first | (with_reducible refine oj ?_; refine AOps.auto tabOk rfl ?_) | (with_reducible first | refine o1 ?_ | refine o2 ?_ | refine o3 ?_ | refine o4 ?_ | refine o5 ?_ | refine o6 ?_ | refine o7 ?_ | refine o8 ?_ | refine o9 ?_ | refine oa ?_ | refine ob ?_ | refine oc ?_ | refine od ?_ | refine oe ?_ | refine og ?_ | refine oh ?_ | refine oi ?_) | (with_reducible refine cExitMiss ?_ ?_; rfl) | (with_reducible refine ok ?_; first | refine ACode.condT rfl ?_ | refine ACode.condF rfl ?_)
        refine APure.fin rfl (WkF.ofEq ?_) (ids_cTy _ _) hou rfl
        have : v < (args.length : Int) := by omega
        have hf : fillTy args (.mk k n v ts) = a := by simp [fillTy, hk, ha, this]
        rw [hf]; rfl
      · repeat first | (with_reducible refine oj ?_; refine AOps.auto tabOk rfl ?_) | (with_reducible first | refine o1 ?_ | refine o2 ?_ | refine o3 ?_ | refine o4 ?_ | refine o5 ?_ | refine o6 ?_ | refine o7 ?_ | refine o8 ?_ | refine o9 ?_ | refine oa ?_ | refine ob ?_ | refine oc ?_ | refine od ?_ | refine oe ?_ | refine og ?_ | refine oh ?_ | refine oi ?_) | (with_reducible refine cExitMiss ?_ ?_; rfl) | (with_reducible refine ok ?_; first | refine ACode.condT rfl ?_ | refine ACode.condF rfl ?_)
        refine APure.fin rfl (WkF.ofEq ?_) (ids_cTy _ _) hou rfl
        simp at hb2
        have hn2 : args[v.toNat]? = none := by simp; omega
        have hf : fillTy args (.mk k n v ts) = .mk k n v ts := by simp [fillTy, hk, hn2]
        rw [hf]; rfl
    · have hk : k ≠ 0 := by simpa using hb
      repeat first | (with_reducible refine oj ?_; refine AOps.auto tabOk rfl ?_) | (with_reducible first | refine o1 ?_ | refine o2 ?_ | refine o3 ?_ | refine o4 ?_ | refine o5 ?_ | refine o6 ?_ | refine o7 ?_ | refine o8 ?_ | refine o9 ?_ | refine oa ?_ | refine ob ?_ | refine oc ?_ | refine od ?_ | refine oe ?_ | refine og ?_ | refine oh ?_ | refine oi ?_) | (with_reducible refine cExitMiss ?_ ?_; rfl) | (with_reducible refine ok ?_; first | refine ACode.condT rfl ?_ | refine ACode.condF rfl ?_)
      refine ACode.grow 2 3 36 4 rfl rfl ?_
      refine ACode.loopR hΓ (α := Nat) (fun j => [(30, .one (int j)), (29, .one (int (encTys ts).length)), (28, .one (.sl 4 (encTys ts))), (5, .one (.ptr (.l 2) 0)), (4, .one (.ptr (.l 1) 0)), (1, .one (.sl 4 (encTys args)))])
        (fun j => ⟨4, [(3, .tok 36 4 j), (2, .cells [int k, str n, int 0, .gs 4 (encTys (fillTys args (ts.take j))) (.l 3)]), (1, .cells [int 0, str ⟨#[]⟩, int 0, .lit (.slice none 0 0)])], ou⟩)
        (fun m j => j ≤ ts.length ∧ m = ts.length - j) (a0 := 0) (ρ := id) ⟨by omega, rfl⟩ (LessR.of rfl (by (repeat' first | exact FrSub.nil | refine FrSub.cons rfl (.ofEq rfl) ?_ | refine FrSub.consP rfl (.ofEq rfl) (by simp) ?_)) (by simp) (by repeat' first | exact LoSub.nil | refine LoSub.cons rfl ?_ rfl (by simp) ?_ | rfl | (refine (AObj.ren_pure _ _ ?_).symm; simp; done) | (simp [AObj.ren, renL, AC.ren, cTy]; done) | (simp [AObj.ren, renL, AC.ren, cTy]; rfl)) rfl rfl hou) fun m j hj => ?_
      obtain ⟨hjl, rfl⟩ := hj
      repeat first | (with_reducible refine oj ?_; refine AOps.auto tabOk rfl ?_) | (with_reducible first | refine o1 ?_ | refine o2 ?_ | refine o3 ?_ | refine o4 ?_ | refine o5 ?_ | refine o6 ?_ | refine o7 ?_ | refine o8 ?_ | refine o9 ?_ | refine oa ?_ | refine ob ?_ | refine oc ?_ | refine od ?_ | refine oe ?_ | refine og ?_ | refine oh ?_ | refine oi ?_) | (with_reducible refine cExitMiss ?_ ?_; rfl) | (with_reducible refine ok ?_; first | refine ACode.condT rfl ?_ | refine ACode.condF rfl ?_)
      refine ACode.cond rfl (fun hb2 => ?_) (fun hb2 => ?_)
      · have hlt : j < ts.length := by simpa using hb2
        obtain ⟨a, ha⟩ := get_of_lt hlt
        have hca := ih a (List.mem_of_getElem? ha)
        repeat first | (with_reducible refine oj ?_; refine AOps.auto tabOk rfl ?_) | (with_reducible first | refine o1 ?_ | refine o2 ?_ | refine o3 ?_ | refine o4 ?_ | refine o5 ?_ | refine o6 ?_ | refine o7 ?_ | refine o8 ?_ | refine o9 ?_ | refine oa ?_ | refine ob ?_ | refine oc ?_ | refine od ?_ | refine oe ?_ | refine og ?_ | refine oh ?_ | refine oi ?_) | (with_reducible refine cExitMiss ?_ ?_; rfl) | (with_reducible refine ok ?_; first | refine ACode.condT rfl ?_ | refine ACode.condF rfl ?_)
        refine AOps.step1 rfl rfl rfl (AStep.indexAddr tabOk rfl rfl rfl rfl rfl rfl (.inl rfl) rfl (by omega) (by simpa using encTys_get ha)) ?_
        repeat first | (with_reducible refine oj ?_; refine AOps.auto tabOk rfl ?_) | (with_reducible first | refine o1 ?_ | refine o2 ?_ | refine o3 ?_ | refine o4 ?_ | refine o5 ?_ | refine o6 ?_ | refine o7 ?_ | refine o8 ?_ | refine o9 ?_ | refine oa ?_ | refine ob ?_ | refine oc ?_ | refine od ?_ | refine oe ?_ | refine og ?_ | refine oh ?_ | refine oi ?_) | (with_reducible refine cExitMiss ?_ ?_; rfl) | (with_reducible refine ok ?_; first | refine ACode.condT rfl ?_ | refine ACode.condF rfl ?_)
        refine ACode.drawX tabOk 6 [(4, .agg (cTy (fillTy args a)))] follows (by kernel_rfl) rfl rfl rfl rfl (.call hΓ hca hou (by simp) rfl rfl rfl rfl rfl rfl .nil) ?_
        have hte : (encTys (fillTys args (ts.take j))).length = j := by simp [fillTys_eq]; omega
        repeat first | (with_reducible refine oj ?_; refine AOps.auto tabOk rfl ?_) | (with_reducible first | refine o1 ?_ | refine o2 ?_ | refine o3 ?_ | refine o4 ?_ | refine o5 ?_ | refine o6 ?_ | refine o7 ?_ | refine o8 ?_ | refine o9 ?_ | refine oa ?_ | refine ob ?_ | refine oc ?_ | refine od ?_ | refine oe ?_ | refine og ?_ | refine oh ?_ | refine oi ?_) | (with_reducible refine cExitMiss ?_ ?_; rfl) | (with_reducible refine ok ?_; first | refine ACode.condT rfl ?_ | refine ACode.condF rfl ?_)
        refine AOps.app tabOk rfl rfl rfl rfl rfl rfl rfl rfl rfl (Base.gs' _ _ _ _ _ (by rfl) hte.symm) (.sl _ _) rfl ?_ ?_ ?_
        · rw [hte]; show (j + 1) * 56 ≤ _; omega
        · rw [hte]; show j + 1 ≤ _; omega
        repeat first | (with_reducible refine oj ?_; refine AOps.auto tabOk rfl ?_) | (with_reducible first | refine o1 ?_ | refine o2 ?_ | refine o3 ?_ | refine o4 ?_ | refine o5 ?_ | refine o6 ?_ | refine o7 ?_ | refine o8 ?_ | refine o9 ?_ | refine oa ?_ | refine ob ?_ | refine oc ?_ | refine od ?_ | refine oe ?_ | refine og ?_ | refine oh ?_ | refine oi ?_) | (with_reducible refine cExitMiss ?_ ?_; rfl) | (with_reducible refine ok ?_; first | refine ACode.condT rfl ?_ | refine ACode.condF rfl ?_)
        refine AOps.step1 rfl rfl rfl (AStep.arith rfl rfl rfl (.inl ⟨rfl, rfl⟩) (inRange_i64 (by omega) (by omega))) ?_
        repeat first | (with_reducible refine oj ?_; refine AOps.auto tabOk rfl ?_) | (with_reducible first | refine o1 ?_ | refine o2 ?_ | refine o3 ?_ | refine o4 ?_ | refine o5 ?_ | refine o6 ?_ | refine o7 ?_ | refine o8 ?_ | refine o9 ?_ | refine oa ?_ | refine ob ?_ | refine oc ?_ | refine od ?_ | refine oe ?_ | refine og ?_ | refine oh ?_ | refine oi ?_) | (with_reducible refine cExitMiss ?_ ?_; rfl) | (with_reducible refine ok ?_; first | refine ACode.condT rfl ?_ | refine ACode.condF rfl ?_)
        refine cInv ⟨ts.length - (j + 1), j + 1, fun k => if k = 3 then 5 else k, by omega, ⟨by omega, rfl⟩, LessR.of rfl (by (repeat' first | exact FrSub.nil | refine FrSub.cons rfl (.ofEq rfl) ?_ | refine FrSub.consP rfl (.ofEq rfl) (by simp) ?_)) (by simp) ?_ rfl rfl hou⟩
        have hte2 : encTys (fillTys args (ts.take (j + 1))) = encTys (fillTys args (ts.take j)) ++ [cTy (fillTy args a)] := by
          simp [fillTys_eq, encTys_eq, List.take_add_one, ha]
        repeat' first | exact LoSub.nil | refine LoSub.cons rfl ?_ rfl (by simp) ?_ | rfl | (refine (AObj.ren_pure _ _ ?_).symm; simp; done) | (simp [AObj.ren, renL, AC.ren, cTy]; done) | (simp [AObj.ren, renL, AC.ren, cTy]; rfl)
        · simp [AObj.ren, hte]; rfl
        · simp only [AObj.ren, renL, AC.ren, ren_encTys]; rw [hte2]; rfl
      · have hlt : j = ts.length := by simp at hb2; omega
        subst hlt
        repeat first | (with_reducible refine oj ?_; refine AOps.auto tabOk rfl ?_) | (with_reducible first | refine o1 ?_ | refine o2 ?_ | refine o3 ?_ | refine o4 ?_ | refine o5 ?_ | refine o6 ?_ | refine o7 ?_ | refine o8 ?_ | refine o9 ?_ | refine oa ?_ | refine ob ?_ | refine oc ?_ | refine od ?_ | refine oe ?_ | refine og ?_ | refine oh ?_ | refine oi ?_) | (with_reducible refine cExitMiss ?_ ?_; rfl) | (with_reducible refine ok ?_; first | refine ACode.condT rfl ?_ | refine ACode.condF rfl ?_)
        refine APure.fin rfl (WkF.agg ?_) (ids_cTy _ _) hou rfl
        have hf : fillTy args (.mk k n v ts) = .mk k n 0 (fillTys args ts) := by simp [fillTy, hk]
        rw [hf]
        exact .cons (.refl _) <| .cons (.refl _) <| .cons (.refl _) <| .cons (.gsE (by simp)) .nil
end Go.Proofs.YtoojdmgbffnmiaaDoor
/- Subst: what it computes. -/
namespace Go.Proofs.YtoojdmgbffnmiaaDoor
open Go Go.Abs
set_option maxRecDepth 10000
set_option linter.unusedVariables false
set_option linter.unusedSimpArgs false
variable {Γ : List (Nat × List AC)}
theorem find_none_take {α : Type} {p : α → Bool} {l : List α} (h : ∀ x ∈ l.take l.length, p x = false) : l.find? p = none := by
  rw [List.find?_eq_none]
  intro x hx
  have := h x (by simpa using hx)
  simp [this]
theorem find_at {α : Type} {p : α → Bool} : ∀ {l : List α} {j : Nat} {m : α}, (∀ x ∈ l.take j, p x = false) → l[j]? = some m → p m = true → l.find? p = some m
  | [], j, m, _, h, _ => by simp at h
  | x :: l, 0, m, _, h, hp => by simp at h; subst h; simp [hp]
  | x :: l, j + 1, m, h1, h, hp => by
    have hx := h1 x (by simp)
    simp only [List.find?_cons, hx]
    exact find_at (j := j) (fun y hy => h1 y (by simp [hy])) (by simpa using h) hp
theorem Subst_ok (hΓ : ∀ g cs, (g, cs) ∈ Γ → idsL isO cs) (l : List SMap) (hl : l.length ≤ 1048576) (hls : ∀ m ∈ l, smallTy m.ty ∧ posTy m.ty) : ∀ (t : Ty) (ht : smallTy t), APure Tryd.prog Γ 18 [.agg (cTy t), .one (.sl 5 (l.map cMap))] (.agg (cTy (substTy l t)))
  | .mk k n v ts, ht => by
    have ih : ∀ a ∈ ts, APure Tryd.prog Γ 18 [.agg (cTy a), .one (.sl 5 (l.map cMap))] (.agg (cTy (substTy l a))) := fun a ha =>
      Subst_ok hΓ l hl hls a (smallTys_iff.1 ht.2 a ha)
    have hlen := ht.1
    intro ou
    refine AFn.walk 54 tabOk Tryd.func18 rfl (by kernel_rfl) rfl rfl fun hou => ?_
    repeat first | (with_reducible refine oj ?_; refine AOps.auto tabOk rfl ?_) | (with_reducible first | refine o1 ?_ | refine o2 ?_ | refine o3 ?_ | refine o4 ?_ | refine o5 ?_ | refine o6 ?_ | refine o7 ?_ | refine o8 ?_ | refine o9 ?_ | refine oa ?_ | refine ob ?_ | refine oc ?_ | refine od ?_ | refine oe ?_ | refine og ?_ | refine oh ?_ | refine oi ?_) | (with_reducible refine cExitMiss ?_ ?_; rfl) | (with_reducible refine ok ?_; first | refine ACode.condT rfl ?_ | refine ACode.condF rfl ?_)
    refine ACode.grow 2 3 36 4 rfl rfl ?_
    refine ACode.loopR hΓ (α := Nat) (fun j => [(20, .one (int j)), (19, .one (int (encTys ts).length)), (18, .one (.sl 4 (encTys ts))), (5, .one (.ptr (.l 2) 0)), (4, .one (.ptr (.l 1) 0)), (2, .one (.ptr (.l 0) 0)), (1, .one (.sl 5 (l.map cMap)))])
      (fun j => ⟨4, [(3, .tok 36 4 j), (2, .cells [int k, str n, int v, .gs 4 (encTys (substTys l (ts.take j))) (.l 3)]), (1, .cells [int 0, str ⟨#[]⟩, int 0, .lit (.slice none 0 0)]), (0, .cells [int k, str n, int v, .sl 4 (encTys ts)])], ou⟩)
      (fun m j => j ≤ ts.length ∧ m = ts.length - j) (a0 := 0) (ρ := id) ⟨by omega, rfl⟩ (LessR.of rfl (by (repeat' first | exact FrSub.nil | refine FrSub.cons rfl (.ofEq rfl) ?_ | refine FrSub.consP rfl (.ofEq rfl) (by simp) ?_)) (by simp) (by repeat' first | exact LoSub.nil | refine LoSub.cons rfl ?_ rfl (by simp) ?_ | rfl | (refine (AObj.ren_pure _ _ ?_).symm; simp; done) | (simp [AObj.ren, renL, AC.ren, cTy]; done) | (simp [AObj.ren, renL, AC.ren, cTy]; rfl)) rfl rfl hou) fun m j hj => ?_
    obtain ⟨hjl, rfl⟩ := hj
    repeat first | (with_reducible refine oj ?_; refine AOps.auto tabOk rfl ?_) | (with_reducible first | refine o1 ?_ | refine o2 ?_ | refine o3 ?_ | refine o4 ?_ | refine o5 ?_ | refine o6 ?_ | refine o7 ?_ | refine o8 ?_ | refine o9 ?_ | refine oa ?_ | refine ob ?_ | refine oc ?_ | refine od ?_ | refine oe ?_ | refine og ?_ | refine oh ?_ | refine oi ?_) | (with_reducible refine cExitMiss ?_ ?_; rfl) | (with_reducible refine ok ?_; first | refine ACode.condT rfl ?_ | refine ACode.condF rfl ?_)
    refine ACode.cond rfl (fun hb2 => ?_) (fun hb2 => ?_)
    · have hlt : j < ts.length := by simpa using hb2
      obtain ⟨a, ha⟩ := get_of_lt hlt
      have hca := ih a (List.mem_of_getElem? ha)
      repeat first | (with_reducible refine oj ?_; refine AOps.auto tabOk rfl ?_) | (with_reducible first | refine o1 ?_ | refine o2 ?_ | refine o3 ?_ | refine o4 ?_ | refine o5 ?_ | refine o6 ?_ | refine o7 ?_ | refine o8 ?_ | refine o9 ?_ | refine oa ?_ | refine ob ?_ | refine oc ?_ | refine od ?_ | refine oe ?_ | refine og ?_ | refine oh ?_ | refine oi ?_) | (with_reducible refine cExitMiss ?_ ?_; rfl) | (with_reducible refine ok ?_; first | refine ACode.condT rfl ?_ | refine ACode.condF rfl ?_)
      refine AOps.step1 rfl rfl rfl (AStep.indexAddr tabOk rfl rfl rfl rfl rfl rfl (.inl rfl) rfl (by omega) (by simpa using encTys_get ha)) ?_
      repeat first | (with_reducible refine oj ?_; refine AOps.auto tabOk rfl ?_) | (with_reducible first | refine o1 ?_ | refine o2 ?_ | refine o3 ?_ | refine o4 ?_ | refine o5 ?_ | refine o6 ?_ | refine o7 ?_ | refine o8 ?_ | refine o9 ?_ | refine oa ?_ | refine ob ?_ | refine oc ?_ | refine od ?_ | refine oe ?_ | refine og ?_ | refine oh ?_ | refine oi ?_) | (with_reducible refine cExitMiss ?_ ?_; rfl) | (with_reducible refine ok ?_; first | refine ACode.condT rfl ?_ | refine ACode.condF rfl ?_)
      refine ACode.drawX tabOk 6 [(4, .agg (cTy (substTy l a)))] follows (by kernel_rfl) rfl rfl rfl rfl (.call hΓ hca hou (by simp) rfl rfl rfl rfl rfl rfl .nil) ?_
      have hte : (encTys (substTys l (ts.take j))).length = j := by simp [substTys_eq]; omega
      repeat first | (with_reducible refine oj ?_; refine AOps.auto tabOk rfl ?_) | (with_reducible first | refine o1 ?_ | refine o2 ?_ | refine o3 ?_ | refine o4 ?_ | refine o5 ?_ | refine o6 ?_ | refine o7 ?_ | refine o8 ?_ | refine o9 ?_ | refine oa ?_ | refine ob ?_ | refine oc ?_ | refine od ?_ | refine oe ?_ | refine og ?_ | refine oh ?_ | refine oi ?_) | (with_reducible refine cExitMiss ?_ ?_; rfl) | (with_reducible refine ok ?_; first | refine ACode.condT rfl ?_ | refine ACode.condF rfl ?_)
      refine AOps.app tabOk rfl rfl rfl rfl rfl rfl rfl rfl rfl (Base.gs' _ _ _ _ _ (by rfl) hte.symm) (.sl _ _) rfl ?_ ?_ ?_
      · rw [hte]; show (j + 1) * 56 ≤ _; omega
      · rw [hte]; show j + 1 ≤ _; omega
      repeat first | (with_reducible refine oj ?_; refine AOps.auto tabOk rfl ?_) | (with_reducible first | refine o1 ?_ | refine o2 ?_ | refine o3 ?_ | refine o4 ?_ | refine o5 ?_ | refine o6 ?_ | refine o7 ?_ | refine o8 ?_ | refine o9 ?_ | refine oa ?_ | refine ob ?_ | refine oc ?_ | refine od ?_ | refine oe ?_ | refine og ?_ | refine oh ?_ | refine oi ?_) | (with_reducible refine cExitMiss ?_ ?_; rfl) | (with_reducible refine ok ?_; first | refine ACode.condT rfl ?_ | refine ACode.condF rfl ?_)
      refine AOps.step1 rfl rfl rfl (AStep.arith rfl rfl rfl (.inl ⟨rfl, rfl⟩) (inRange_i64 (by omega) (by omega))) ?_
      repeat first | (with_reducible refine oj ?_; refine AOps.auto tabOk rfl ?_) | (with_reducible first | refine o1 ?_ | refine o2 ?_ | refine o3 ?_ | refine o4 ?_ | refine o5 ?_ | refine o6 ?_ | refine o7 ?_ | refine o8 ?_ | refine o9 ?_ | refine oa ?_ | refine ob ?_ | refine oc ?_ | refine od ?_ | refine oe ?_ | refine og ?_ | refine oh ?_ | refine oi ?_) | (with_reducible refine cExitMiss ?_ ?_; rfl) | (with_reducible refine ok ?_; first | refine ACode.condT rfl ?_ | refine ACode.condF rfl ?_)
      refine cInv ⟨ts.length - (j + 1), j + 1, fun k => if k = 3 then 5 else k, by omega, ⟨by omega, rfl⟩, LessR.of rfl (by (repeat' first | exact FrSub.nil | refine FrSub.cons rfl (.ofEq rfl) ?_ | refine FrSub.consP rfl (.ofEq rfl) (by simp) ?_)) (by simp) ?_ rfl rfl hou⟩
      have hte2 : encTys (substTys l (ts.take (j + 1))) = encTys (substTys l (ts.take j)) ++ [cTy (substTy l a)] := by
        simp [substTys_eq, encTys_eq, List.take_add_one, ha]
      repeat' first | exact LoSub.nil | refine LoSub.cons rfl ?_ rfl (by simp) ?_ | rfl | (refine (AObj.ren_pure _ _ ?_).symm; simp; done) | (simp [AObj.ren, renL, AC.ren, cTy]; done) | (simp [AObj.ren, renL, AC.ren, cTy]; rfl)
      · simp [AObj.ren, hte]; rfl
      · simp only [AObj.ren, renL, AC.ren, ren_encTys]; rw [hte2]; rfl
    · have hlt : j = ts.length := by simp at hb2; omega
      subst hlt
      simp only [List.take_length]
      have hlen2 : (substTys l ts).length = ts.length := by simp [substTys_eq]
      repeat first | (with_reducible refine oj ?_; refine AOps.auto tabOk rfl ?_) | (with_reducible first | refine o1 ?_ | refine o2 ?_ | refine o3 ?_ | refine o4 ?_ | refine o5 ?_ | refine o6 ?_ | refine o7 ?_ | refine o8 ?_ | refine o9 ?_ | refine oa ?_ | refine ob ?_ | refine oc ?_ | refine od ?_ | refine oe ?_ | refine og ?_ | refine oh ?_ | refine oi ?_) | (with_reducible refine cExitMiss ?_ ?_; rfl) | (with_reducible refine ok ?_; first | refine ACode.condT rfl ?_ | refine ACode.condF rfl ?_)
      refine ACode.cond rfl (fun hb => ?_) (fun hb => ?_)
      · have hk : k = 1 := by simpa using hb
        repeat first | (with_reducible refine oj ?_; refine AOps.auto tabOk rfl ?_) | (with_reducible first | refine o1 ?_ | refine o2 ?_ | refine o3 ?_ | refine o4 ?_ | refine o5 ?_ | refine o6 ?_ | refine o7 ?_ | refine o8 ?_ | refine o9 ?_ | refine oa ?_ | refine ob ?_ | refine oc ?_ | refine od ?_ | refine oe ?_ | refine og ?_ | refine oh ?_ | refine oi ?_) | (with_reducible refine cExitMiss ?_ ?_; rfl) | (with_reducible refine ok ?_; first | refine ACode.condT rfl ?_ | refine ACode.condF rfl ?_)
        refine ACode.loopR hΓ (α := Nat) (fun j => [(38, .one (int j)), (37, .one (int (l.map cMap).length)), (36, .one (.sl 5 (l.map cMap))), (5, .one (.ptr (.l 2) 0)), (4, .one (.ptr (.l 1) 0)), (2, .one (.ptr (.l 0) 0))])
          (fun j => ⟨4, [(3, .tok 36 4 ts.length), (2, .cells [int k, str n, int v, .gs 4 (encTys (substTys l ts)) (.l 3)]), (1, .cells [int 0, str ⟨#[]⟩, int 0, .lit (.slice none 0 0)]), (0, .cells [int k, str n, int v, .sl 4 (encTys ts)])], ou⟩)
          (fun m j => j ≤ l.length ∧ (∀ x ∈ l.take j, (x.name.toList == n.toList) = false) ∧ m = l.length - j) (a0 := 0) (ρ := id) ⟨by omega, by simp, rfl⟩ (LessR.of rfl (by (repeat' first | exact FrSub.nil | refine FrSub.cons rfl (.ofEq rfl) ?_ | refine FrSub.consP rfl (.ofEq rfl) (by simp) ?_)) (by simp) ?_ rfl rfl hou) fun m j hj => ?_
        · repeat' first | exact LoSub.nil | refine LoSub.cons rfl ?_ rfl (by simp) ?_ | rfl | (refine (AObj.ren_pure _ _ ?_).symm; simp; done) | (simp [AObj.ren, renL, AC.ren, cTy]; done) | (simp [AObj.ren, renL, AC.ren, cTy]; rfl)
        obtain ⟨hjl, hno, rfl⟩ := hj
        repeat first | (with_reducible refine oj ?_; refine AOps.auto tabOk rfl ?_) | (with_reducible first | refine o1 ?_ | refine o2 ?_ | refine o3 ?_ | refine o4 ?_ | refine o5 ?_ | refine o6 ?_ | refine o7 ?_ | refine o8 ?_ | refine o9 ?_ | refine oa ?_ | refine ob ?_ | refine oc ?_ | refine od ?_ | refine oe ?_ | refine og ?_ | refine oh ?_ | refine oi ?_) | (with_reducible refine cExitMiss ?_ ?_; rfl) | (with_reducible refine ok ?_; first | refine ACode.condT rfl ?_ | refine ACode.condF rfl ?_)
        refine ACode.cond rfl (fun hb2 => ?_) (fun hb2 => ?_)
        · have hlt : j < l.length := by simpa using hb2
          obtain ⟨a, ha⟩ := get_of_lt hlt
          have hm := hls a (List.mem_of_getElem? ha)
          repeat first | (with_reducible refine oj ?_; refine AOps.auto tabOk rfl ?_) | (with_reducible first | refine o1 ?_ | refine o2 ?_ | refine o3 ?_ | refine o4 ?_ | refine o5 ?_ | refine o6 ?_ | refine o7 ?_ | refine o8 ?_ | refine o9 ?_ | refine oa ?_ | refine ob ?_ | refine oc ?_ | refine od ?_ | refine oe ?_ | refine og ?_ | refine oh ?_ | refine oi ?_) | (with_reducible refine cExitMiss ?_ ?_; rfl) | (with_reducible refine ok ?_; first | refine ACode.condT rfl ?_ | refine ACode.condF rfl ?_)
          refine AOps.step1 rfl rfl rfl (AStep.indexAddr tabOk rfl rfl rfl rfl rfl rfl (.inl rfl) rfl (by omega) (by simpa using map_get ha)) ?_
          repeat first | (with_reducible refine oj ?_; refine AOps.auto tabOk rfl ?_) | (with_reducible first | refine o1 ?_ | refine o2 ?_ | refine o3 ?_ | refine o4 ?_ | refine o5 ?_ | refine o6 ?_ | refine o7 ?_ | refine o8 ?_ | refine o9 ?_ | refine oa ?_ | refine ob ?_ | refine oc ?_ | refine od ?_ | refine oe ?_ | refine og ?_ | refine oh ?_ | refine oi ?_) | (with_reducible refine cExitMiss ?_ ?_; rfl) | (with_reducible refine ok ?_; first | refine ACode.condT rfl ?_ | refine ACode.condF rfl ?_)
          refine ACode.cond rfl (fun hb3 => ?_) (fun hb3 => ?_)
          · have hfm : findMap l n = some a := find_at hno ha hb3
            repeat first | (with_reducible refine oj ?_; refine AOps.auto tabOk rfl ?_) | (with_reducible first | refine o1 ?_ | refine o2 ?_ | refine o3 ?_ | refine o4 ?_ | refine o5 ?_ | refine o6 ?_ | refine o7 ?_ | refine o8 ?_ | refine o9 ?_ | refine oa ?_ | refine ob ?_ | refine oc ?_ | refine od ?_ | refine oe ?_ | refine og ?_ | refine oh ?_ | refine oi ?_) | (with_reducible refine cExitMiss ?_ ?_; rfl) | (with_reducible refine ok ?_; first | refine ACode.condT rfl ?_ | refine ACode.condF rfl ?_)
            refine AOps.wk 50 rfl (WkF.one (Wk.gs _ _ _)) ?_
            refine AOps.callC hΓ (filled_ok hΓ (substTys l ts) (by omega) a.ty hm.1 hm.2) rfl rfl rfl rfl rfl rfl rfl hou (by simp) ?_
            repeat first | (with_reducible refine oj ?_; refine AOps.auto tabOk rfl ?_) | (with_reducible first | refine o1 ?_ | refine o2 ?_ | refine o3 ?_ | refine o4 ?_ | refine o5 ?_ | refine o6 ?_ | refine o7 ?_ | refine o8 ?_ | refine o9 ?_ | refine oa ?_ | refine ob ?_ | refine oc ?_ | refine od ?_ | refine oe ?_ | refine og ?_ | refine oh ?_ | refine oi ?_) | (with_reducible refine cExitMiss ?_ ?_; rfl) | (with_reducible refine ok ?_; first | refine ACode.condT rfl ?_ | refine ACode.condF rfl ?_)
            refine APure.fin rfl (WkF.ofEq ?_) (ids_cTy _ _) hou rfl
            have hf : substTy l (.mk k n v ts) = fillTy (substTys l ts) a.ty := by simp [substTy, hk, hfm]
            rw [hf]; rfl
          · repeat first | (with_reducible refine oj ?_; refine AOps.auto tabOk rfl ?_) | (with_reducible first | refine o1 ?_ | refine o2 ?_ | refine o3 ?_ | refine o4 ?_ | refine o5 ?_ | refine o6 ?_ | refine o7 ?_ | refine o8 ?_ | refine o9 ?_ | refine oa ?_ | refine ob ?_ | refine oc ?_ | refine od ?_ | refine oe ?_ | refine og ?_ | refine oh ?_ | refine oi ?_) | (with_reducible refine cExitMiss ?_ ?_; rfl) | (with_reducible refine ok ?_; first | refine ACode.condT rfl ?_ | refine ACode.condF rfl ?_)
            refine AOps.step1 rfl rfl rfl (AStep.arith rfl rfl rfl (.inl ⟨rfl, rfl⟩) (inRange_i64 (by omega) (by omega))) ?_
            repeat first | (with_reducible refine oj ?_; refine AOps.auto tabOk rfl ?_) | (with_reducible first | refine o1 ?_ | refine o2 ?_ | refine o3 ?_ | refine o4 ?_ | refine o5 ?_ | refine o6 ?_ | refine o7 ?_ | refine o8 ?_ | refine o9 ?_ | refine oa ?_ | refine ob ?_ | refine oc ?_ | refine od ?_ | refine oe ?_ | refine og ?_ | refine oh ?_ | refine oi ?_) | (with_reducible refine cExitMiss ?_ ?_; rfl) | (with_reducible refine ok ?_; first | refine ACode.condT rfl ?_ | refine ACode.condF rfl ?_)
            refine cInv ⟨l.length - (j + 1), j + 1, id, by omega, ⟨by omega, ?_, rfl⟩, LessR.of rfl (by (repeat' first | exact FrSub.nil | refine FrSub.cons rfl (.ofEq rfl) ?_ | refine FrSub.consP rfl (.ofEq rfl) (by simp) ?_)) (by simp) ?_ rfl rfl hou⟩
            · intro x hx
              rw [List.take_add_one, ha] at hx
              rcases List.mem_append.1 hx with h | h
              · exact hno x h
              · simp at h; subst h; exact hb3
            · repeat' first | exact LoSub.nil | refine LoSub.cons rfl ?_ rfl (by simp) ?_ | rfl | (refine (AObj.ren_pure _ _ ?_).symm; simp; done) | (simp [AObj.ren, renL, AC.ren, cTy]; done) | (simp [AObj.ren, renL, AC.ren, cTy]; rfl)
        · have hlt : j = l.length := by simp at hb2; omega
          subst hlt
          have hfm : findMap l n = none := find_none_take hno
          repeat first | (with_reducible refine oj ?_; refine AOps.auto tabOk rfl ?_) | (with_reducible first | refine o1 ?_ | refine o2 ?_ | refine o3 ?_ | refine o4 ?_ | refine o5 ?_ | refine o6 ?_ | refine o7 ?_ | refine o8 ?_ | refine o9 ?_ | refine oa ?_ | refine ob ?_ | refine oc ?_ | refine od ?_ | refine oe ?_ | refine og ?_ | refine oh ?_ | refine oi ?_) | (with_reducible refine cExitMiss ?_ ?_; rfl) | (with_reducible refine ok ?_; first | refine ACode.condT rfl ?_ | refine ACode.condF rfl ?_)
          refine APure.fin rfl (WkF.agg ?_) (ids_cTy _ _) hou rfl
          have hf : substTy l (.mk k n v ts) = .mk k n v (substTys l ts) := by simp [substTy, hfm]
          rw [hf]
          exact .cons (.refl _) <| .cons (.refl _) <| .cons (.refl _) <| .cons (.gsE rfl) .nil
      · have hk : k ≠ 1 := by simpa using hb
        repeat first | (with_reducible refine oj ?_; refine AOps.auto tabOk rfl ?_) | (with_reducible first | refine o1 ?_ | refine o2 ?_ | refine o3 ?_ | refine o4 ?_ | refine o5 ?_ | refine o6 ?_ | refine o7 ?_ | refine o8 ?_ | refine o9 ?_ | refine oa ?_ | refine ob ?_ | refine oc ?_ | refine od ?_ | refine oe ?_ | refine og ?_ | refine oh ?_ | refine oi ?_) | (with_reducible refine cExitMiss ?_ ?_; rfl) | (with_reducible refine ok ?_; first | refine ACode.condT rfl ?_ | refine ACode.condF rfl ?_)
        refine APure.fin rfl (WkF.agg ?_) (ids_cTy _ _) hou rfl
        have hf : substTy l (.mk k n v ts) = .mk k n v (substTys l ts) := by simp [substTy, hk]
        rw [hf]
        exact .cons (.refl _) <| .cons (.refl _) <| .cons (.refl _) <| .cons (.gsE rfl) .nil
end Go.Proofs.YtoojdmgbffnmiaaDoor
