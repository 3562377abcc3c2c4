/- The abstract layer, part V: a range over a string, a scope without jumps, a rune as a string, the rest of a string. No condition. -/
import Derived.Test.YtnonkoeknpmcjaaDoorB3
import Derived.Scope
import Derived.ProofKit
import Derived.OpenShut
import Derived.Deep.DeepHandedRow
import Derived.JoinedCond
import Derived.Test.YtnonkoeknpmcjaaDoorChecked
import Derived.KernelRfl
import Derived.Laws.MakeOwn
import Derived.Laws.Small
namespace Go.Abs
set_option linter.unusedVariables false
set_option linter.unusedSimpArgs false
section
variable {E : Env} {o : Oper} {fr : Fr} {σ : St}

theorem AStep.rangeStr {t : TypeId} {x : Operand} {s : ByteArray} (ho : o.op = .range t x) (hm : E.P.underlying t = some .string) (hx : aEval E.Γ fr x = some (.one (.lit (.string s)))) :
    AStep E o fr σ (.one (.ptr (.l σ.n) 0)) (σ.push (.sit s 0)) := by
  intro F w C tmps hi hf next Q hk
  have h1 := aEval_ok (a := ⟨tmps, []⟩) hi hf hx
  simp only [RF, R] at h1
  obtain ⟨C', k1, k2, k3, k4⟩ := hi.newAny (obj := .stringIter s 0) (o := .sit s 0) (by intro c t fr h; cases h) (fun _ _ => rfl) (fun C' hext hb hx hF => ⟨by rw [hb]; exact hx, by rw [hb]; exact hF⟩)
  have hrun : (execOp (Act.eval ⟨tmps, []⟩) o).run E.P w = .ok (.value (.pointer (some ⟨w.heap.size, 0, none⟩))) (w.alloc (.stringIter s 0)) := by
    unfold execOp
    simp only [ho]
    simp [Instr.range, run_underlying hm, h1.1]
  unfold Oper.wp
  rw [hrun, Oper.upon_value]
  exact hk _ _ C' k1 k2 ⟨k3, by rw [k4]⟩
theorem AStep.nextStr {x : Operand} {it : Id} {s : ByteArray} {pos c wd : Nat} (ho : o.op = .next x true) (hx : aEval E.Γ fr x = some (.one (.ptr it 0))) (hit : σ.get it = some (.sit s pos)) (hlt : pos < s.size) (hd : Utf8.decode s pos = (c, wd)) :
    AStep E o fr σ (.tup [.one (.lit (.bool true)), .one (.lit (.int .i64 pos)), .one (.lit (.int .i32 c))]) (σ.set it (.sit s (pos + wd))) := by
  intro F w C tmps hi hfr next Q hk
  have h1 := aEval_ok (a := ⟨tmps, []⟩) hi hfr hx
  simp only [RF, R] at h1
  obtain ⟨hok, he, hnf⟩ := hi.obj it _ hit
  obtain ⟨k1, k2⟩ := hi.setAny (o' := .sit s (pos + wd)) (obj' := .stringIter s (pos + wd)) hit rfl rfl he (by intro c t fr h; cases h) (by intro c t fr h; cases h) (fun w' _ hx _ => ⟨hx, hnf⟩)
  have hg1 : (getObj (C.blk it)).run E.P w = .ok (.stringIter s pos) w := by simp [getObj, Sem.run, he]
  have hrun : (execOp (Act.eval ⟨tmps, []⟩) o).run E.P w = .ok (.value (.tuple #[.bool true, .int .i64 pos, .int .i32 c])) { w with heap := w.heap.setIfInBounds (C.blk it) (.stringIter s (pos + wd)) } := by
    unfold execOp
    simp only [ho]
    simp [Instr.next, h1.2, hg1, hlt, hd, setObj, Sem.run, goInt, Result.andThen, he]
  unfold Oper.wp
  rw [hrun, Oper.upon_value]
  exact hk _ _ C k1 k2 ⟨[.bool true, .int .i64 pos, .int .i32 c], rfl, _, _, rfl, ⟨rfl, rfl⟩, _, _, rfl, ⟨rfl, rfl⟩, _, _, rfl, ⟨rfl, rfl⟩, rfl⟩
theorem AStep.nextStrX {x : Operand} {it : Id} {s : ByteArray} {pos c wd : Nat} {cx : Int} (hcx : cx = c) (ho : o.op = .next x true) (hx : aEval E.Γ fr x = some (.one (.ptr it 0))) (hit : σ.get it = some (.sit s pos)) (hlt : pos < s.size) (hd : Utf8.decode s pos = (c, wd)) :
    AStep E o fr σ (.tup [.one (.lit (.bool true)), .one (.lit (.int .i64 pos)), .one (.lit (.int .i32 cx))]) (σ.set it (.sit s (pos + wd))) := by
  subst hcx
  exact AStep.nextStr ho hx hit hlt hd
theorem AStep.nextStrEnd {x : Operand} {it : Id} {s : ByteArray} {pos : Nat} (ho : o.op = .next x true) (hx : aEval E.Γ fr x = some (.one (.ptr it 0))) (hit : σ.get it = some (.sit s pos)) (hlt : ¬ pos < s.size) :
    AStep E o fr σ (.tup [.one (.lit (.bool false))]) σ := by
  refine AStep.quiet fun F w C tmps hi hfr => ?_
  have h1 := aEval_ok (a := ⟨tmps, []⟩) hi hfr hx
  simp only [RF, R] at h1
  obtain ⟨hok, he, hnf⟩ := hi.obj it _ hit
  have hg1 : (getObj (C.blk it)).run E.P w = .ok (.stringIter s pos) w := by simp [getObj, Sem.run, he]
  refine ⟨.tuple #[.bool false], ?_, [.bool false], rfl, _, _, rfl, ⟨rfl, rfl⟩, rfl⟩
  unfold execOp
  simp only [ho]
  simp [Instr.next, h1.2, hg1, hlt]
theorem contOf_goto {Fin : Fr → St → Prop} {l : Nat} : ∀ {k : List AItem} {fr : Fr} {σ : St}, contOf E Fin k (.goto l) fr σ → False
  | [], _, _, h => h
  | .code _ :: k, _, _, h => contOf_goto (k := k) h
  | .blk _ :: k, _, _, h => contOf_goto (k := k) h
  | .inv _ :: k, _, _, h => contOf_goto (k := k) h
theorem ACode.scope {c : Code} {Fin : Fr → St → Prop} {k : List AItem} (h : ACode E c (contOf E Fin k) fr σ) : ACode E (.scope c) (contOf E Fin k) fr σ := by
  intro F w0 C0 w C tmps hg hi hf
  refine wp_scope_straight (wp_mono (h F w0 C0 w C tmps hg hi hf) fun e a w' hp => ?_)
  cases e with
  | goto l =>
    obtain ⟨_, _, _, _, _, _, _, hk⟩ := hp
    exact contOf_goto hk
  | _ => exact hp
/-- The rest of a string. -/
theorem AStep.sliceStrFrom {t : TypeId} {ti : TI} {x l : Operand} {j : IntKind} {a : Nat} {s : ByteArray} (hT : TabOk E.P E.T) (ho : o.op = .slice t x (some l) none none) (ht : Tab.get t E.T = some ti) (hk : Nat.beq ti.kind 5 = true) (hx : aEval E.Γ fr x = some (.one (.lit (.string s)))) (hl : aEval E.Γ fr l = some (.one (.lit (.int j (a : Int))))) (h1 : a ≤ s.size) :
    AStep E o fr σ (.one (.lit (.string (s.extract a s.size)))) σ := by
  refine AStep.quiet fun F w C tmps hi hf => ⟨.string (s.extract a s.size), ?_, rfl, rfl⟩
  have e1 := aEval_ok (a := ⟨tmps, []⟩) hi hf hx
  have e2 := aEval_ok (a := ⟨tmps, []⟩) hi hf hl
  simp only [RF, R] at e1 e2
  obtain ⟨i, d, z, _, hu, _, _, _, _, _, hkd⟩ := (hT t ti ht).ex
  have hkd' : d = .string := by simpa [kindOf, Nat.eq_of_beq_eq_true hk] using hkd
  subst hkd'
  unfold execOp
  simp only [ho, e1.1, e2.1, Option.map_some, Option.map_none]
  have h1' : (a : Int) ≤ (s.size : Int) := by omega
  simp [Instr.sliceAt, Instr.slice, run_underlying hu, Instr.sliceBounds, Instr.sliceBound, asIntOf, h1, Result.andThen]
/-- A rune as a string. -/
theorem AStep.runeStr {src dst : TypeId} {x : Operand} {j k : IntKind} {n : Int} (ho : o.op = .convert src dst x) (hs : E.P.underlying src = some (.int k)) (hd : E.P.underlying dst = some .string) (hx : aEval E.Γ fr x = some (.one (.lit (.int j n)))) :
    AStep E o fr σ (.one (.lit (.string (Utf8.encode n)))) σ := by
  refine AStep.quiet fun F w C tmps hi hf => ⟨.string (Utf8.encode n), ?_, rfl, rfl⟩
  have e1 := aEval_ok (a := ⟨tmps, []⟩) hi hf hx
  simp only [RF, R] at e1
  unfold execOp
  simp only [ho, e1.1]
  simp [convert, run_underlying hs, run_underlying hd, Conv.intToString]
end
/-- A function over plain values whose contract says that two rows are new, and nothing else turned. -/
theorem APure.ofCallsRows {P : Program} {Γ : List (Nat × List AC)} {g : Nat} {vs : List Value} {v : Value} {X Y : Array Value} {S T : TypeId} (hent : ∀ (us0 : Array Value) (w : World), (callFunc g us0).run P w = .ok (.enter g us0) w) (hv : v.oneCell' = true)
    (h : ∀ w, Calls P g vs.toArray w fun e w' => e = .returned v ∧ w' = (w.alloc (.cells X S)).alloc (.cells Y T)) : APure P Γ g (vs.map fun u => .one (.lit u)) (.one (.lit v)) := by
  intro ou
  refine ⟨hent, fun F w C cargs h0 hi hr => ?_⟩
  have hc : ∀ (vs : List Value) (cargs : List Value), RFs w C (vs.map fun u => .one (.lit u)) cargs → cargs = vs := by
    intro vs
    induction vs with
    | nil => intro cargs h; simpa [RFs] using h
    | cons u us ih =>
      intro cargs h
      simp only [List.map_cons, RFs] at h
      obtain ⟨x, xs, rfl, h1, h2⟩ := h
      rw [ih xs h2, h1.1]
  rw [hc vs cargs hr]
  obtain ⟨C1, e1, n1, p1, i1, _⟩ := hi.newRow X.toList S
  obtain ⟨C2, e2, n2, p2, i2, _⟩ := i1.newRow Y.toList T
  simp only [Array.toArray_toList] at e1 i1 e2 i2
  have g1 : Goes F (fun _ => True) w C (w.alloc (.cells X S)) C1 := ⟨Stp.alloc hi.base _ _, e1, by omega, p1⟩
  have g2 : Goes F (fun _ => True) (w.alloc (.cells X S)) C1 ((w.alloc (.cells X S)).alloc (.cells Y T)) C2 := ⟨Stp.alloc i1.base _ _, e2, by omega, p2⟩
  exact (h w).mono fun e w' ⟨h1, h2⟩ => ⟨v, .one (.lit v), ou, C2, h1, by rw [h2]; exact (g1.trans g2).toO, by rw [i2.next], by rw [h2]; exact i2, ⟨rfl, hv⟩, rfl, rfl⟩
end Go.Abs
/- The abstract layer, part W: a drawn region whose head makes an object and stores into it. No condition. -/
namespace Go.Abs
set_option linter.unusedVariables false
set_option linter.unusedSimpArgs false

/-- The heads, one by one: 'al' turns σ0 into σ1, 'st' σ1 into σ2, the others leave all three as they are. -/
def Heads3 (E : Env) (ops : Array Oper) (l : List Oper) (vs : List FV) (frb : Fr) (σ0 σ1 σ2 : St) (al st : Nat) : Nat → List Oper → List FV → Prop
  | _, [], [] => True
  | k, o :: os, v :: ws => (dstOk E.N o.dst = true ∧
      (if k = al then HStep E ops o (depFr l vs o ++ frb) σ0 σ1 v else if k = st then HStep E ops o (depFr l vs o ++ frb) σ1 σ2 v else
        HStep E ops o (depFr l vs o ++ frb) σ0 σ0 v ∧ HStep E ops o (depFr l vs o ++ frb) σ1 σ1 v ∧ HStep E ops o (depFr l vs o ++ frb) σ2 σ2 v)) ∧ Heads3 E ops l vs frb σ0 σ1 σ2 al st (k + 1) os ws
  | _, _, _ => False
section
variable {E : Env} {l : List Oper} {vs : List FV} {frb : Fr} {σ0 σ1 σ2 : St} {al st n : Nat} {K : Cont}
theorem Heads3.at {ops : Array Oper} : ∀ {os : List Oper} {ws : List FV} {k : Nat}, Heads3 E ops l vs frb σ0 σ1 σ2 al st k os ws → os.length = ws.length ∧ ∀ (i : Nat) (o : Oper), os[i]? = some o → ∃ v, ws[i]? = some v ∧ dstOk E.N o.dst = true ∧
      (if k + i = al then HStep E ops o (depFr l vs o ++ frb) σ0 σ1 v else if k + i = st then HStep E ops o (depFr l vs o ++ frb) σ1 σ2 v else
        HStep E ops o (depFr l vs o ++ frb) σ0 σ0 v ∧ HStep E ops o (depFr l vs o ++ frb) σ1 σ1 v ∧ HStep E ops o (depFr l vs o ++ frb) σ2 σ2 v)
  | [], [], k, _ => ⟨rfl, fun i o h => by simp at h⟩
  | [], _ :: _, k, h => h.elim
  | _ :: _, [], k, h => h.elim
  | o :: os, v :: ws, k, h => by
    obtain ⟨⟨h2, h3⟩, h4⟩ := h
    obtain ⟨h5, h6⟩ := Heads3.at h4
    refine ⟨by simp [h5], fun i p hi => ?_⟩
    cases i with
    | zero => simp at hi; subst hi; exact ⟨v, rfl, h2, by simpa using h3⟩
    | succ i =>
      obtain ⟨v', k1, k3, k4⟩ := h6 i p (by simpa using hi)
      refine ⟨v', by simpa using k1, k3, ?_⟩
      rw [show k + (i + 1) = k + 1 + i by omega]
      exact k4
/-- The store at a time. -/
def stAt (σ0 σ1 σ2 : St) (al st : Nat) (listed : Array Bool) : St := if listed.getD st false = true then σ2 else if listed.getD al false = true then σ1 else σ0
structure Mid3 (E : Env) (l : List Oper) (vs : List FV) (n al st : Nat) (frb : Fr) (σ0 σ1 σ2 : St) (F : Nat → Prop) (w0 : World) (C0 : Ctx) (listed : Array Bool) (a : Act) (w : World) : Prop where
  defers : a.defers = []
  ex : ∃ C, Goes F isO w0 C0 w C ∧ Inv E.Γ F w C (stAt σ0 σ1 σ2 al st listed) ∧ FrOk w C E.N frb a.tmps ∧
    ∀ (i : Nat) (o : Oper) (d : Nat) (v : FV), i < n → l[i]? = some o → o.dst = some d → vs[i]? = some v → listed.getD i false = true → ∃ u, a.tmps[d]? = some u ∧ RF w C v u

theorem mid_any3 (hB : drawB l n = true) (hfb : (dsts (l.take n)).all (fun d => (Fr.get d frb).isNone) = true) (hH : Heads3 E l.toArray l vs frb σ0 σ1 σ2 al st 0 (l.take n) vs) (haln : al < n) (hstn : st < n) (hne0 : al ≠ st)
    (hdep : ∃ (o : Oper) (e : _), l[st]? = some o ∧ e ∈ o.after ∧ Region.binds .any e = true ∧ e.on = al)
    (htail : AOps E l.toArray (l.drop n) K (headFr (l.take n) vs ++ frb) σ2) {F : Nat → Prop} {w0 : World} {C0 : Ctx} :
    ∀ (c : Nat) (listed : Array Bool) (a : Act) (w : World), ((List.range n).filter fun j => !listed.getD j false).length = c → HeadInv .any l.toArray n listed → Mid3 E l vs n al st frb σ0 σ1 σ2 F w0 C0 listed a w →
      wpAny E.P .any l.toArray (Post E F w0 C0 K) (c + (l.length - n)) listed a w := by
  simp only [drawB, Bool.and_eq_true, decide_eq_true_eq] at hB
  obtain ⟨⟨⟨⟨⟨hn, hs⟩, hc⟩, hsq⟩, hdi⟩, haf⟩ := hB
  obtain ⟨hlen, hat⟩ := hH.at
  have hsz : l.toArray.size = l.length := by simp
  intro c
  induction c with
  | zero =>
    intro listed a w hcnt hinv hmid
    have hall : ∀ j, j < n → listed.getD j false = true := by
      intro j hj
      have : (List.range n).filter (fun j => !listed.getD j false) = [] := List.eq_nil_of_length_eq_zero hcnt
      have h2 := List.filter_eq_nil_iff.1 this j (List.mem_range.2 hj)
      simpa using h2
    have hl : listed = listedTo l.length n := by
      apply Array.ext
      · simp [listedTo, hinv.size]
      · intro j h1 h2
        have hj : j < l.length := by simpa [listedTo] using h2
        have h3 : listed.getD j false = listed[j] := by simp [h1]
        simp only [listedTo, Array.getElem_map, Array.getElem_range]
        by_cases hjn : j < n
        · rw [← h3, hall j hjn]; simp [hjn]
        · have := hinv.tail j (by omega) (by rw [hsz]; exact hj)
          rw [getD_tf h1] at this
          rw [← h3, this]; simp [hjn]
    have hdl : (l.drop n).length = l.length - n := by simp
    rw [Nat.zero_add, ← hdl]
    refine wpAny_of_seq (md := .any) (l.drop n) n listed a w (fun j => by simp [List.getElem?_drop]) (by rw [hl, hdl]; exact hsq) ?_
    obtain ⟨hd, C, hg, hi, hf, hv⟩ := hmid
    have ha : a = ⟨a.tmps, []⟩ := by cases a; simp_all
    rw [ha]
    have hσ : stAt σ0 σ1 σ2 al st listed = σ2 := by
      unfold stAt
      rw [hall st hstn, if_pos rfl]
    rw [hσ] at hi
    refine htail F w0 C0 w C a.tmps hg hi ⟨hf.1, fun k x hk => ?_⟩
    rcases Fr.get_append hk with hk | ⟨_, hk⟩
    · obtain ⟨i, o, h1, h2, h3⟩ := headFr_mem (Fr.get_mem hk)
      have hin : i < n := by
        have := (List.getElem?_eq_some_iff.1 h1).1
        simp at this; omega
      rw [List.getElem?_take_of_lt hin] at h1
      exact hv i o k x hin h1 h2 h3 (hall i hin)
    · exact hf.2 k x hk
  | succ c ih =>
    intro listed a w hcnt hinv hmid
    have hex : ∃ i, i < n ∧ listed.getD i false = false ∧ ∀ j, j < i → listed.getD j false = true := by
      have hne : ∃ i, i < n ∧ listed.getD i false = false := by
        cases hL : (List.range n).filter (fun j => !listed.getD j false) with
        | nil => rw [hL] at hcnt; simp at hcnt
        | cons i L =>
          have : i ∈ (List.range n).filter (fun j => !listed.getD j false) := by rw [hL]; simp
          obtain ⟨h1, h2⟩ := List.mem_filter.1 this
          exact ⟨i, List.mem_range.1 h1, by simpa using h2⟩
      obtain ⟨i, hi⟩ := hne
      induction i using Nat.strongRecOn with
      | _ i ih2 =>
        by_cases h : ∃ j, j < i ∧ listed.getD j false = false
        · obtain ⟨j, hj, hj2⟩ := h
          exact ih2 j hj ⟨by omega, hj2⟩
        · exact ⟨i, hi.1, hi.2, fun j hj => (Bool.not_eq_false _).mp (fun hb => h ⟨j, hj, hb⟩)⟩
    obtain ⟨i0, hi0n, hi0u, hi0m⟩ := hex
    have hready : i0 ∈ Region.ready .any l.toArray listed := by
      rw [mem_ready]
      have hlt : i0 < l.length := by omega
      refine ⟨by rw [getD_tf (by rw [hinv.size, hsz]; exact hlt)]; exact hi0u, l[i0], by simp [hlt], fun e he hb => ?_⟩
      have h1 := List.all_eq_true.1 haf (l[i0], i0) (by
        rw [List.mem_zipIdx_iff_getElem?]
        rw [List.getElem?_take_of_lt hi0n]
        simp [hlt])
      have h2 := Array.all_eq_true_iff_forall_mem.1 h1 e he
      simp only [hb, Bool.not_true, Bool.false_or, decide_eq_true_eq] at h2
      exact hi0m _ h2
    rw [show c + 1 + (l.length - n) = (c + (l.length - n)) + 1 by omega]
    refine ⟨fun h => absurd hready (by rw [h]; simp), fun i hi => ?_⟩
    have hi0t : listed.getD i0 true = false := (mem_ready.1 hready).1
    have hin : i < n := by
      rcases Nat.lt_or_ge i n with h | h
      · exact h
      · exact absurd hi (tail_waits hs hc (by rw [hsz]; exact hn) hinv _ i0 rfl hi0n hi0t i h)
    obtain ⟨hun, o, ho, hall⟩ := mem_ready.1 hi
    have hlo : l[i]? = some o := by simpa using ho
    obtain ⟨v, hv, hdo, hst⟩ := hat i o (by rw [List.getElem?_take_of_lt hin]; exact hlo)
    rw [Nat.zero_add] at hst
    obtain ⟨hd, C, hg, hinvw, hf, hvals⟩ := hmid
    have ha : a = ⟨a.tmps, []⟩ := by cases a; simp_all
    rw [ha]
    have hfr : FrOk w C E.N (depFr l vs o ++ frb) a.tmps := by
      refine ⟨hf.1, fun k x hk => ?_⟩
      rcases Fr.get_append hk with hk | ⟨_, hk⟩
      · have hm := Fr.get_mem hk
        obtain ⟨e, he, he2⟩ := List.mem_filterMap.1 hm
        cases hb : Region.binds .any e with
        | false => rw [hb] at he2; cases he2
        | true =>
          rw [hb] at he2; simp only [cond_true] at he2
          cases h1 : (l[e.on]?).bind (·.dst) with
          | none => rw [h1] at he2; cases he2
          | some d =>
            cases h2 : vs[e.on]? with
            | none => rw [h1, h2] at he2; cases he2
            | some v' =>
              rw [h1, h2] at he2; cases he2
              cases h3 : l[e.on]? with
              | none => rw [h3] at h1; cases h1
              | some oe =>
                rw [h3] at h1
                have hen : e.on < n := by
                  have := (List.getElem?_eq_some_iff.1 h2).1
                  rw [← hlen] at this
                  simp at this; omega
                exact hvals e.on oe k x hen h3 h1 h2 (hall e (by simpa using he) hb)
      · exact hf.2 k x hk
    have huni : listed.getD i false = false := getD_both hun
    have hil : i < listed.size := by rw [hinv.size, hsz]; omega
    have hsal : listed.getD st false = true → listed.getD al false = true := fun h => by
      obtain ⟨os, e, h1, h2, h3, h4⟩ := hdep
      rw [← h4]
      exact hinv.closed st os (by simpa using h1) h e h2 h3
    have hstep : HStep E l.toArray o (depFr l vs o ++ frb) (stAt σ0 σ1 σ2 al st listed) (stAt σ0 σ1 σ2 al st (listed.setIfInBounds i true)) v := by
      have hset : ∀ j, (listed.setIfInBounds i true).getD j false = if i = j then true else listed.getD j false := fun j => by
        by_cases e : i = j
        · subst e; simp [hil]
        · rw [getD_set_ne false e, if_neg e]
      unfold stAt
      rw [hset, hset]
      by_cases e : i = al
      · subst e
        rw [if_pos rfl] at hst
        have h2 : listed.getD st false = false := by
          cases h : listed.getD st false with
          | false => rfl
          | true => rw [hsal h] at huni; cases huni
        rw [if_neg hne0, h2, huni]
        simpa using hst
      · rw [if_neg e] at hst
        by_cases e2 : i = st
        · subst e2
          rw [if_pos rfl] at hst
          have h2 : listed.getD al false = true := by
            obtain ⟨os, e', h1, h2, h3, h4⟩ := hdep
            rw [hlo] at h1
            injection h1 with h1
            subst h1
            rw [← h4]
            exact hall e' (by simpa using h2) h3
          rw [huni, h2]
          simpa using hst
        · rw [if_neg e2] at hst
          rw [if_neg e, if_neg e2]
          split
          · exact hst.2.2
          · split
            · exact hst.2.1
            · exact hst.1
    refine hstep_run hstep hinvw hfr ho fun u w' C' hgo hi' hr => ?_
    refine ih _ _ _ ?_ (hinv.set hi hin) ⟨put_defers .., C', hg.trans hgo.toO, hi', ?_, fun j oj dj vj hj hoj hdj hvj hlj => ?_⟩
    · have h2 : ((List.range n).filter fun j => !(listed.setIfInBounds i true).getD j false).length + 1 = ((List.range n).filter fun j => !listed.getD j false).length := count_eq hin huni hil
      omega
    · cases hdd : o.dst with
      | none =>
        refine ⟨hf.1, fun k x hk => ?_⟩
        obtain ⟨u', hu', hr'⟩ := hf.2 k x hk
        exact ⟨u', hu', hr'.ext hgo.chg⟩
      | some d =>
        refine ⟨by simp [Act.put, hf.1], fun k x hk => ?_⟩
        obtain ⟨u', hu', hr'⟩ := hf.2 k x hk
        have hne : d ≠ k := by
          rintro rfl
          have h1 := List.all_eq_true.1 hfb d (List.mem_filterMap.2 ⟨o, List.mem_of_getElem? (i := i) (by rw [List.getElem?_take_of_lt hin]; exact hlo), hdd⟩)
          rw [hk] at h1; cases h1
        refine ⟨u', ?_, hr'.ext hgo.chg⟩
        simp only [Act.put]
        rw [Array.getElem?_setIfInBounds_ne hne]; exact hu'
    · by_cases e : i = j
      · subst e
        rw [hlo] at hoj; cases hoj
        rw [hv] at hvj; cases hvj
        have hdN : dj < a.tmps.size := by
          rw [hf.1]
          rw [hdj] at hdo
          exact Nat.le_of_ble_eq_true (show Nat.ble (dj + 1) E.N = true from hdo)
        exact ⟨u, by rw [hdj]; simp [Act.put, hdN], hr⟩
      · rw [getD_set_ne false e] at hlj
        obtain ⟨u', hu', hr'⟩ := hvals j oj dj vj hj hoj hdj hvj hlj
        cases hdd : o.dst with
        | none => exact ⟨u', hu', hr'.ext hgo.chg⟩
        | some d =>
          have hne : d ≠ dj := by
            rintro rfl
            exact e (distinct_dsts hdi (by rw [List.getElem?_take_of_lt hin]; exact hlo) (by rw [List.getElem?_take_of_lt hj]; exact hoj) hdd hdj)
          refine ⟨u', ?_, hr'.ext hgo.chg⟩
          simp only [Act.put]
          rw [Array.getElem?_setIfInBounds_ne hne]; exact hu'
theorem ACode.draw3 {id : Nat} {fr : Fr} (n al st : Nat) (vs : List FV) (frb : Fr) (hm : E.P.follows .mixedOrders = true) (hB : drawB l n = true) (hfb : (dsts (l.take n)).all (fun d => (Fr.get d frb).isNone) = true) (hsub : ∀ k x, Fr.get k frb = some x → Fr.get k fr = some x)
    (hH : Heads3 E l.toArray l vs frb σ0 σ1 σ2 al st 0 (l.take n) vs) (haln : al < n) (hstn : st < n) (hne0 : al ≠ st) (hdep : ∃ (o : Oper) (e : _), l[st]? = some o ∧ e ∈ o.after ∧ Region.binds .any e = true ∧ e.on = al)
    (htail : AOps E l.toArray (l.drop n) K (headFr (l.take n) vs ++ frb) σ2) : ACode E (.region id l.toArray true) K fr σ0 := by
  intro F w0 C0 w C tmps hg hi hf
  have hn : n < l.length := by
    simp only [drawB, Bool.and_eq_true, decide_eq_true_eq] at hB
    exact hB.1.1.1.1.1
  refine wp_region_any hm ?_
  have h := mid_any3 (F := F) (w0 := w0) (C0 := C0) hB hfb hH haln hstn hne0 hdep htail n (Array.replicate l.toArray.size false) ⟨tmps, []⟩ w.drew (by
      have : ∀ j, (!(Array.replicate l.toArray.size false).getD j false) = true := fun j => by rw [getD_replicate_false]; rfl
      simp only [this]; rw [List.filter_eq_self.2 (fun _ _ => rfl), List.length_range])
    ⟨by simp, fun j oj _ hl => (by rw [getD_replicate_false] at hl; cases hl), fun t _ ht => getD_in (by simpa using ht) (getD_replicate_false _ _)⟩
    ⟨rfl, C, hg.trans (Goes.drew hi).toO, by unfold stAt; rw [getD_replicate_false, getD_replicate_false, if_neg (by simp), if_neg (by simp)]; exact hi.drew.2, ⟨hf.1, fun k x hk => by
        obtain ⟨u, hu, hr⟩ := hf.2 k x (hsub k x hk)
        exact ⟨u, hu, hr.ext hi.drew.1⟩⟩, fun i o d v _ _ _ _ hl => by rw [getD_replicate_false] at hl; cases hl⟩
  rw [show n + (l.length - n) = l.toArray.size by simp; omega] at h
  exact h
end
/-- The heads run; what calls, the alloc and the store yield is given. -/
def runHd (E : Env) (ops : Array Oper) (l : List Oper) (frb : Fr) (σ : St) (cs : List (Nat × FV)) : Nat → List Oper → List FV → Option (List FV)
  | _, [], _ => some []
  | k, o :: os, acc => bif dstOk E.N o.dst then
      (match lookC k cs with
      | some v => forceK (acc ++ [v]) fun acc' => (match runHd E ops l frb σ cs (k + 1) os acc' with | some vs => some (v :: vs) | none => none)
      | none => bif pureOp o.op then forceK (depFr l acc o ++ frb) fun fr => (match aHead E ops o fr σ with
        | some (v, _) => forceK (acc ++ [v]) fun acc' => (match runHd E ops l frb σ cs (k + 1) os acc' with | some vs => some (v :: vs) | none => none)
        | none => none) else none) else none
theorem aHead_pure {E : Env} {ops : Array Oper} {o : Oper} {fr : Fr} {τ τ' : St} {v : FV} (hp : pureOp o.op = true) (ha : aHead E ops o fr τ = some (v, τ')) : τ' = τ := by
  have key : ∀ {y : FV} {τ2 : St}, (match aOp E.T E.Γ o.op fr τ with | some (some x, σ') => some (x, σ') | _ => none) = some (y, τ2) → τ2 = τ := by
    intro y τ2 h
    split at h
    · rename_i h1
      simp only [Option.some.injEq, Prod.mk.injEq] at h
      obtain ⟨rfl, rfl⟩ := h
      exact aOp_pure hp h1
    · cases h
  unfold aHead at ha
  split at ha
  · exact key ha
  · split at ha
    · split at ha
      · exact key ha
      · exact key ha
      · cases ha; rfl
      · cases ha; rfl
      · cases ha; rfl
      · cases ha
    · cases ha
theorem runHd_ok {E : Env} {l : List Oper} {frb : Fr} {σ0 σ1 σ2 : St} {cs : List (Nat × FV)} {n al st : Nat} {vs : List FV} {va : FV} {oal ost : Oper} (hT : TabOk E.P E.T) (hne0 : al ≠ st) (hall : ∀ k o, l[k]? = some o → k < n → o.after.all (fun e => !Region.binds .any e || decide (e.on < k)) = true)
    (hoal : l[al]? = some oal) (hal : HStep E l.toArray oal (depFr l vs oal ++ frb) σ0 σ1 va) (host : l[st]? = some ost) (hst : HStep E l.toArray ost (depFr l vs ost ++ frb) σ1 σ2 .bot) (hcs0 : CallsOk E l frb σ0 vs cs) (hcs1 : CallsOk E l frb σ1 vs cs) (hcs2 : CallsOk E l frb σ2 vs cs) :
    ∀ (os : List Oper) (k : Nat) (acc ws : List FV), acc.length = k → (∀ i o, os[i]? = some o → l[k + i]? = some o ∧ k + i < n) → runHd E l.toArray l frb σ0 ((al, va) :: (st, .bot) :: cs) k os acc = some ws → runHd E l.toArray l frb σ1 ((al, va) :: (st, .bot) :: cs) k os acc = some ws → runHd E l.toArray l frb σ2 ((al, va) :: (st, .bot) :: cs) k os acc = some ws → acc ++ ws = vs → Heads3 E l.toArray l vs frb σ0 σ1 σ2 al st k os ws
  | [], k, acc, ws, _, _, h, _, _, _ => by simp only [runHd, Option.some.injEq] at h; subst h; trivial
  | o :: os, k, acc, ws, hl, hos, h, h', h'', hv => by
    have ho := hos 0 o rfl
    simp only [Nat.add_zero] at ho
    simp only [runHd, forceK_eq] at h h' h''
    cases hb : dstOk E.N o.dst with
    | false => rw [hb] at h; cases h
    | true =>
      rw [hb] at h h' h''
      simp only [cond_true] at h h' h''
      have rest : ∀ {v v' v'' : FV}, (match runHd E l.toArray l frb σ0 ((al, va) :: (st, .bot) :: cs) (k + 1) os (acc ++ [v]) with | some vs => some (v :: vs) | none => none) = some ws → (match runHd E l.toArray l frb σ1 ((al, va) :: (st, .bot) :: cs) (k + 1) os (acc ++ [v']) with | some vs => some (v' :: vs) | none => none) = some ws → (match runHd E l.toArray l frb σ2 ((al, va) :: (st, .bot) :: cs) (k + 1) os (acc ++ [v'']) with | some vs => some (v'' :: vs) | none => none) = some ws → v' = v ∧ v'' = v ∧ ∃ ws', ws = v :: ws' ∧ Heads3 E l.toArray l vs frb σ0 σ1 σ2 al st (k + 1) os ws' := by
        intro v v' v'' h h' h''
        split at h
        · rename_i ws' hw
          simp only [Option.some.injEq] at h; subst h
          split at h'
          · rename_i ws2 hw2
            simp only [Option.some.injEq, List.cons.injEq] at h'
            obtain ⟨rfl, rfl⟩ := h'
            split at h''
            · rename_i ws3 hw3
              simp only [Option.some.injEq, List.cons.injEq] at h''
              obtain ⟨rfl, rfl⟩ := h''
              exact ⟨rfl, rfl, ws3, rfl, runHd_ok hT hne0 hall hoal hal host hst hcs0 hcs1 hcs2 os (k + 1) (acc ++ [v'']) ws3 (by simp [hl]) (fun i o hi => by have := hos (i + 1) o hi; rw [show k + 1 + i = k + (i + 1) by omega]; exact this) hw hw2 hw3 (by simpa using hv)⟩
            · cases h''
          · cases h'
        · cases h
      by_cases hka : al = k
      · subst hka
        have hc : lookC al ((al, va) :: (st, .bot) :: cs) = some va := by simp [lookC]
        rw [hc] at h h' h''
        obtain ⟨_, _, ws', rfl, hw⟩ := rest h h' h''
        rw [ho.1] at hoal
        cases hoal
        exact ⟨⟨hb, by rw [if_pos rfl]; exact hal⟩, hw⟩
      · by_cases hks : st = k
        · subst hks
          have hc : lookC st ((al, va) :: (st, .bot) :: cs) = some .bot := by simp only [lookC, beq_no hne0, cond_false]; simp
          rw [hc] at h h' h''
          obtain ⟨_, _, ws', rfl, hw⟩ := rest h h' h''
          rw [ho.1] at host
          cases host
          exact ⟨⟨hb, by rw [if_neg (Ne.symm hka), if_pos rfl]; exact hst⟩, hw⟩
        · have hc : lookC k ((al, va) :: (st, .bot) :: cs) = lookC k cs := by simp only [lookC, beq_no hka, beq_no hks, cond_false]
          rw [hc] at h h' h''
          cases hc2 : lookC k cs with
          | some v =>
            rw [hc2] at h h' h''
            obtain ⟨_, _, ws', rfl, hw⟩ := rest h h' h''
            obtain ⟨o', ho', hs0⟩ := hcs0.get hc2
            obtain ⟨o2, ho2, hs1⟩ := hcs1.get hc2
            obtain ⟨o3, ho3, hs2⟩ := hcs2.get hc2
            rw [ho.1] at ho' ho2 ho3
            cases ho'; cases ho2; cases ho3
            exact ⟨⟨hb, by rw [if_neg (Ne.symm hka), if_neg (Ne.symm hks)]; exact ⟨hs0, hs1, hs2⟩⟩, hw⟩
          | none =>
            rw [hc2] at h h' h''
            simp only at h h' h''
            cases hp : pureOp o.op with
            | false => rw [hp] at h; cases h
            | true =>
              rw [hp] at h h' h''
              simp only [cond_true] at h h' h''
              split at h
              · rename_i v σ' ha
                split at h'
                · rename_i v' σ3 ha'
                  split at h''
                  · rename_i v'' σ4 ha''
                    obtain ⟨rfl, rfl, ws', rfl, hw⟩ := rest h h' h''
                    have hdep : depFr l vs o = depFr l acc o := by rw [← hv]; exact depFr_prefix (by rw [hl]; exact hall k o ho.1 ho.2)
                    have e1 := aHead_pure hp ha
                    have e2 := aHead_pure hp ha'
                    have e3 := aHead_pure hp ha''
                    subst e1; subst e2; subst e3
                    have hs0 := HStep.auto (ops := l.toArray) hT ha
                    have hs1 := HStep.auto (ops := l.toArray) hT ha'
                    have hs2 := HStep.auto (ops := l.toArray) hT ha''
                    rw [← hdep] at hs0 hs1 hs2
                    exact ⟨⟨hb, by rw [if_neg (Ne.symm hka), if_neg (Ne.symm hks)]; exact ⟨hs0, hs1, hs2⟩⟩, hw⟩
                  · cases h''
                · cases h'
              · cases h
def hasDep (l : List Oper) (st al : Nat) : Bool := match l[st]? with
  | some o => o.after.any fun e => Region.binds .any e && decide (e.on = al)
  | none => false
/-- A DRAWN REGION in whose head an object is made ('al') and stored into ('st'). -/
theorem ACode.drawXS {E : Env} {id : Nat} {l hd tl : List Oper} {K : Cont} {fr frb fr' : Fr} {σ σ1 σ2 : St} {vs : List FV} {va : FV} {oal ost : Oper} (hT : TabOk E.P E.T) (n al st : Nat) (cs : List (Nat × FV)) (hm : E.P.follows .mixedOrders = true) (hB : drawB l n = true) (haln : Nat.ble (al + 1) n = true) (hstn : Nat.ble (st + 1) n = true) (hne0 : Nat.beq al st = false) (hdp : hasDep l st al = true) (hsp : splitO n l = some (hd, tl)) (hfb : Fr.woO (dsts hd) fr = some frb)
    (hoal : l[al]? = some oal) (hal : aHead E l.toArray oal (depFr l [] oal ++ frb) σ = some (va, σ1)) (hda : oal.after = #[]) (host : l[st]? = some ost) (hgs : ost.guard = none)
    (hrun : runHd E l.toArray l frb σ ((al, va) :: (st, .bot) :: cs) 0 hd [] = some vs) (hrun1 : runHd E l.toArray l frb σ1 ((al, va) :: (st, .bot) :: cs) 0 hd [] = some vs) (hst : aOp E.T E.Γ ost.op (depFr l vs ost ++ frb) σ1 = some (none, σ2)) (hrun2 : runHd E l.toArray l frb σ2 ((al, va) :: (st, .bot) :: cs) 0 hd [] = some vs) (hfr : frOf hd vs frb = some fr') (hcs : CallsOk E l frb σ vs cs) (hcs1 : CallsOk E l frb σ1 vs cs) (hcs2 : CallsOk E l frb σ2 vs cs) (htail : AOps E l.toArray tl K fr' σ2) : ACode E (.region id l.toArray true) K fr σ := by
  obtain ⟨h1, h2⟩ := splitO_eq hsp
  subst h1; subst h2
  have h3 := Fr.woO_eq hfb
  have h4 := frOf_eq hfr
  have hn : n < l.length := by
    simp only [drawB, Bool.and_eq_true, decide_eq_true_eq] at hB
    exact hB.1.1.1.1.1
  have hlast : ((l.take n).zipIdx.all fun x => x.1.after.all fun e => !Region.binds .any e || decide (e.on < x.2)) = true := by
    simp only [drawB, Bool.and_eq_true] at hB
    exact hB.2
  have hdep : ∀ ws : List FV, depFr l ws oal = [] := fun ws => by simp [depFr, hda]
  have hne : al ≠ st := fun e => by subst e; simp at hne0
  have hall : ∀ k o, l[k]? = some o → k < n → o.after.all (fun e => !Region.binds .any e || decide (e.on < k)) = true := fun k o hk hkn => by
    have := List.all_eq_true.1 hlast (o, k) (by
      rw [List.mem_iff_getElem?]
      exact ⟨k, by rw [List.getElem?_zipIdx, List.getElem?_take_of_lt hkn, hk]; simp⟩)
    exact this
  have hH := runHd_ok (n := n) (va := va) hT hne hall hoal (by rw [hdep, ← hdep []]; exact HStep.auto hT hal) host (HStep.plain hgs (AStep.ofStore hT hst)) hcs hcs1 hcs2 (l.take n) 0 [] vs rfl (fun i o hi => by
    have hi2 : i < n := by
      have := (List.getElem?_eq_some_iff.1 hi).1
      simp at this; omega
    rw [List.getElem?_take_of_lt hi2] at hi
    exact ⟨by simpa using hi, by omega⟩) hrun hrun1 hrun2 rfl
  have hdd : ∃ (o : Oper) (e : _), l[st]? = some o ∧ e ∈ o.after ∧ Region.binds .any e = true ∧ e.on = al := by
    unfold hasDep at hdp
    rw [host] at hdp
    simp only [Array.any_eq_true'] at hdp
    obtain ⟨e, he, hb⟩ := hdp
    simp only [Bool.and_eq_true, decide_eq_true_eq] at hb
    exact ⟨ost, e, host, he, hb.1, hb.2⟩
  refine ACode.draw3 n al st vs frb hm hB ?_ ?_ hH (Nat.le_of_ble_eq_true haln) (Nat.le_of_ble_eq_true hstn) hne hdd (by rw [h4]; exact htail)
  · rw [← h3]; exact Fr.wo_none _ _
  · intro k x h
    rw [← h3] at h
    exact (Fr.wo_get h).1
end Go.Abs
/- The abstract layer, part X: a guard that is met falls away. No condition. -/
namespace Go.Abs
set_option linter.unusedVariables false
theorem AOps.unG {E : Env} {ops : Array Oper} {rest : List Oper} {o : Oper} {K : Cont} {fr : Fr} {σ : St} {j e : Nat} {b : Bool} (hg : o.guard = some (j, b)) (hj : guardSlot ops j = some e) (hb : Fr.get e fr = some (.one (.lit (.bool b))))
    (h : AOps E ops ({ o with guard := none } :: rest) K fr σ) : AOps E ops (o :: rest) K fr σ := by
  intro F w0 C0 w C tmps hgo hi hf
  have h1 := h F w0 C0 w C tmps hgo hi hf
  have hy := yielded_of hf hj hb
  unfold wpList at h1 ⊢
  rw [if_pos (by simp [Region.wanted, hg, hy])]
  rw [if_pos (by simp [Region.wanted])] at h1
  exact h1
mutual
theorem AC.sub_pure (θ : Id → Id) : ∀ c : AC, c.ids (fun _ => False) → c.sub θ = c
  | .lit _, _ => rfl
  | .any, _ => rfl
  | .sl s es, h => by simp only [AC.ids] at h; simp only [AC.sub]; rw [subS_pure θ es h]
  | .box cs, h => by simp only [AC.ids] at h; simp only [AC.sub]; rw [subL_pure θ cs h]
  | .ptr i off, h => h.elim
  | .gs s es i, h => h.1.elim
  | .arr i s off len cap, h => h.elim
  | .mp i, h => h.elim
  | .fn f a b, h => by simp only [AC.ids] at h; simp only [AC.sub]; rw [subL_pure θ a h.1, subL_pure θ b h.2]
  | .ifc t ag cs, h => by simp only [AC.ids] at h; simp only [AC.sub]; rw [subL_pure θ cs h]
theorem subS_pure (θ : Id → Id) : ∀ es : List (List AC), idsS (fun _ => False) es → subS θ es = es
  | [], _ => rfl
  | e :: es, h => by simp only [idsS] at h; simp only [subS]; rw [subL_pure θ e h.1, subS_pure θ es h.2]
theorem subL_pure (θ : Id → Id) : ∀ cs : List AC, idsL (fun _ => False) cs → subL θ cs = cs
  | [], _ => rfl
  | c :: cs, h => by simp only [idsL] at h; simp only [subL]; rw [AC.sub_pure θ c h.1, subL_pure θ cs h.2]
end
mutual
theorem FV.sub_pure (θ : Id → Id) : ∀ x : FV, x.ids (fun _ => False) → x.sub θ = x
  | .bot, _ => rfl
  | .one c, h => by simp only [FV.ids] at h; simp only [FV.sub]; rw [AC.sub_pure θ c h]
  | .agg cs, h => by simp only [FV.ids] at h; simp only [FV.sub]; rw [subL_pure θ cs h]
  | .tup vs, h => by simp only [FV.ids] at h; simp only [FV.sub]; rw [subF_pure θ vs h]
theorem subF_pure (θ : Id → Id) : ∀ vs : List FV, idsF (fun _ => False) vs → subF θ vs = vs
  | [], _ => rfl
  | v :: vs, h => by simp only [idsF] at h; simp only [subF]; rw [FV.sub_pure θ v h.1, subF_pure θ vs h.2]
end
end Go.Abs
/- The abstract layer, part Y: a row of a law out of a contract: it answers true, its arguments read as they did. No condition. -/
namespace Go.Abs
open Go.RowKit (Below)
open Go.ChangeShapes Go.WideShapes Go.ChangeAt Go.RowKit
set_option linter.unusedVariables false
section
variable {H : Type} {enc : TypeId × Value → H} {P : Program} {W W' : World}
theorem rf_agg {r : Reach} {t : TypeId} {fs : Array Field} {v : Value} {C : Ctx} {c : List AC} (ht : P.underlying t = some (.struct fs)) (h : Value.okWide P W r 0 t v) (hr : RV W C c v.cells.toList) : RF W C (.agg c) v := by
  obtain ⟨cs, rfl, _⟩ := okWide_struct ht h
  exact ⟨cs.toList, by simp, by simpa [Value.cells] using hr⟩
theorem rf_agg' {base : Nat} {r : Reach} {t : TypeId} {fs : Array Field} {v : Value} {C : Ctx} {c : List AC} (ht : P.underlying t = some (.struct fs)) (h : Value.okWide P W r base t v) (hr : RV W C c v.cells.toList) : RF W C (.agg c) v := by
  obtain ⟨cs, rfl, _⟩ := okWide_struct ht h
  exact ⟨cs.toList, by simp, by simpa [Value.cells] using hr⟩
theorem rf_int {base : Nat} {r : Reach} {t : TypeId} {k : IntKind} {v : Value} {C : Ctx} {c : AC} (ht : P.underlying t = some (.int k)) (h : Value.okWide P W r base t v) (hr : RV W C [c] v.cells.toList) : RF W C (.one c) v := by
  obtain ⟨n, rfl⟩ := okWide_int ht h
  obtain ⟨u, us, he, h1, h2⟩ := hr
  simp [Value.cells] at he
  obtain ⟨rfl, rfl⟩ := he
  exact h1
theorem trodAll_stays (hl : laidOutB P = true) {sp : Nat → Bool} : ∀ {ts : List TypeId} {vs : List Value} {ds : List (DataW H)} {ps : List MemPlace}, (∀ t ∈ ts, P.readableRec t = true ∧ t < P.types.size) →
    DataW.TrodAll enc P W 0 (fun _ => true) true ts vs ds ps → (∀ x ∈ ps, W.sameAt W' x) → (∀ x ∈ ps, sp x.block = true) → DataW.TrodAll enc P W' 0 sp true ts vs ds ps
  | [], [], [], ps, _, h, _, _ => h
  | t :: ts, v :: vs, d :: ds, ps, hr, h, hs, hb => by
    obtain ⟨p, q, h1, h2, rfl⟩ := h
    refine ⟨p, q, WideElems.Trod_stays hl (hr t (by simp)).1 (hr t (by simp)).2 h1 (fun x hx => hs x (List.mem_append_left _ hx)) (fun x hx => hb x (List.mem_append_left _ hx)), ?_, rfl⟩
    exact trodAll_stays hl (fun t ht => hr t (by simp [ht])) h2 (fun x hx => hs x (List.mem_append_right _ hx)) (fun x hx => hb x (List.mem_append_right _ hx))
  | [], _ :: _, _, _, _, h, _, _ => h.elim
  | [], [], _ :: _, _, _, h, _, _ => h.elim
  | _ :: _, [], _, _, _, h, _, _ => h.elim
  | _ :: _, _ :: _, [], _, _, h, _, _ => h.elim
theorem row_of_calls (hl : laidOutB P = true) {fn : Func} (hr : ∀ t ∈ fn.params.toList, P.readableRec t = true ∧ t < P.types.size) {s : ChangeSpec} (hv : s.vars = []) {tb : TypeId} (htb : P.underlying tb = some .bool) (hrt : fn.resultTypes = #[tb]) {g : Nat} {args : Array Value} {ds gs : List (DataW H)} {before : List MemPlace}
    (hW : DataW.Whole enc P fn.params.toList s.vars false W args.toList ds gs before) (hspec : s.fn H (ds ++ gs) = { results := [.lit (.bool true)], args := ds })
    (hc : Calls P g args W fun e w' => ∃ v C', e = .returned v ∧ RF w' C' (.one (.lit (.bool true))) v ∧ Below W.heap.size W w') :
    Calls P g args W fun e W' => ∃ v, e = .returned v ∧ s.post enc P fn false true false false W args v W' := by
  refine hc.mono fun e W' ⟨v, C', he, hr', hb⟩ => ?_
  simp only [RF, R] at hr'
  obtain rfl := hr'.1
  have hlt := hW.lt
  have hW0 := hW
  obtain ⟨p, q, hA, hV, rfl, hfz, hnd⟩ := hW0
  rw [hv] at hV
  obtain ⟨rfl, rfl⟩ := trodVars_none hV
  simp only [List.append_nil] at hW hspec hlt
  refine ⟨_, he, ⟨ds, [], _, [], p, [], hW, ?_, ?_, ?_, World.keptBut_mono (fun p hp => ⟨hp, .inr (.inl hp)⟩) (hb.frame _), fun h => by cases h⟩⟩
  · rw [List.append_nil, hspec, hrt]
    exact trodAll_cons_mk (shut_bool htb _) trodAll_mk0
  · rw [List.append_nil, hspec]
    exact trodAll_stays hl hr hA (fun x hx => hb.same (hlt x hx)) fun x hx => by simpa using hlt x hx
  · rw [List.append_nil, hspec, hv]
    rfl
end
end Go.Abs
/- The abstract layer, part Z: a function that hands an object of its own to its caller. No condition. -/
namespace Go.Abs
set_option linter.unusedVariables false
set_option linter.unusedSimpArgs false
/-- The outer objects with one more. -/
def updO (ou : Outer) (k : Nat) (o : AObj) : Outer := fun j => bif Nat.beq k j then some o else ou j
theorem updO_same (ou : Outer) (k : Nat) (o : AObj) : updO ou k o k = some o := by simp [updO]
theorem updO_ne (ou : Outer) {k j : Nat} (h : k ≠ j) (o : AObj) : updO ou k o j = ou j := by simp [updO, beq_no h]
def toO (j k : Nat) : Id → Id
  | .l i => bif Nat.beq i j then .o k else .l i
  | .o i => .o i
def toL (k n : Nat) : Id → Id
  | .o i => bif Nat.beq i k then .l n else .o i
  | .l i => .l i
def isOr (j : Nat) : Id → Prop
  | .l i => i = j
  | .o _ => True
theorem ObjOk.move {w : World} {C C' : Ctx} {F : Nat → Prop} {a b : Id} {o : AObj} (p : Id → Prop) (hc : Chg p w C w C') (hprot : ∀ x, C'.prot x → C.prot x) (hblk : C'.blk b = C.blk a) (htok : C'.tok b = C.tok a) (hids : o.ids p) (h : ObjOk w C F a o) : ObjOk w C' F b o := by
  cases o with
  | cells cs =>
    obtain ⟨xs, T, h1, h2, h3, h4⟩ := h
    exact ⟨xs, T, by rw [hblk]; exact h1, by rw [hblk]; exact h2, RV.chg hc cs xs hids h3, fun x ha hpa => h4 x (by rw [ha, hblk]) (hprot x hpa)⟩
  | map ck es =>
    obtain ⟨ents, h1, h2, h3⟩ := h
    exact ⟨ents, by rw [hblk]; exact h1, by rw [hblk]; exact h2, RM.chg hc es ents hids h3⟩
  | iter m since seen last =>
    obtain ⟨h1, h2, h3⟩ := h
    obtain ⟨m1, m2, _⟩ := hc.id m hids h3
    exact ⟨by rw [hblk, m2]; exact h1, by rw [hblk]; exact h2, m1⟩
  | sit s q =>
    obtain ⟨h1, h2⟩ := h
    exact ⟨by rw [hblk]; exact h1, by rw [hblk]; exact h2⟩
  | tok e s used =>
    simp only [ObjOk, htok] at *
    cases ht : C.tok a with
    | none => rw [ht] at h; exact h
    | some gc =>
      obtain ⟨g, cap⟩ := gc
      simp only [ht] at h ⊢
      obtain ⟨xs, h1, h2, h3, h4, h6, h5⟩ := h
      exact ⟨xs, h1, h2, h3, h4, h6, fun x ha hpa => h5 x ha (hprot x hpa)⟩
  | dead => trivial
theorem AObj.block_move {C C' : Ctx} {a b : Id} {o : AObj} (hblk : C'.blk b = C.blk a) (htok : C'.tok b = C.tok a) : o.block C' b = o.block C a := by
  cases o <;> simp [AObj.block, hblk, htok]
/-- An object takes another name. -/
theorem Inv.retag {Γ : List (Nat × List AC)} {F : Nat → Prop} {w : World} {C C' : Ctx} {σ σ' : St} (hi : Inv Γ F w C σ) (p : Id → Prop) (hc : Chg p w C w C') (hprot : ∀ x, C'.prot x → C.prot x) (hΓ : ∀ g cs, (g, cs) ∈ Γ → idsL p cs) (hn : C'.nl = σ'.n)
    {a b : Id} {o : AObj} (ha : σ.get a = some o) (hob : C'.ok b) (hblk : C'.blk b = C.blk a) (htok : C'.tok b = C.tok a) (hids : o.ids p) (hb : σ'.get b = some o)
    (hrest : ∀ i x, i ≠ b → σ'.get i = some x → p i ∧ x.ids p ∧ i ≠ a ∧ σ.get i = some x) : Inv Γ F w C' σ' := by
  refine ⟨hi.base, hn, fun g cs h => RG.chg hc (hΓ g cs h) (hi.glob g cs h), fun x hx => hi.prot x (hprot x hx), fun i x hx => ?_, fun i j x y g h1 h2 h3 h4 => ?_⟩
  · by_cases e : i = b
    · subst e
      rw [hb] at hx; injection hx with hx; subst hx
      exact ⟨hob, ObjOk.move p hc hprot hblk htok hids (hi.obj a _ ha).2⟩
    · obtain ⟨h1, h2, h3, h4⟩ := hrest i x e hx
      obtain ⟨g1, g2⟩ := hi.obj i x h4
      exact ⟨(hc.id i h1 g1).1, g2.ctx p h2 h1 g1 hc hprot (fun _ h => h)⟩
  · have key : ∀ i x, i ≠ b → σ'.get i = some x → x.block C' i = x.block C i := fun i x e hx => by
      obtain ⟨h1, h2, h3, h4⟩ := hrest i x e hx
      exact AObj.block_ctx p h1 (hi.obj i x h4).1 hc
    by_cases e : i = b
    · by_cases e2 : j = b
      · rw [e, e2]
      · subst e
        rw [hb] at h1; injection h1 with h1; subst h1
        rw [AObj.block_move hblk htok] at h3
        rw [key j y e2 h2] at h4
        obtain ⟨k1, k2, k3, k4⟩ := hrest j y e2 h2
        exact (k3 (hi.inj a j _ y g ha k4 h3 h4).symm).elim
    · by_cases e2 : j = b
      · subst e2
        rw [hb] at h2; injection h2 with h2; subst h2
        rw [AObj.block_move hblk htok] at h4
        rw [key i x e h1] at h3
        obtain ⟨k1, k2, k3, k4⟩ := hrest i x e h1
        exact (k3 (hi.inj i a x _ g k4 ha h3 h4)).elim
      · obtain ⟨k1, k2, k3, k4⟩ := hrest i x e h1
        obtain ⟨m1, m2, m3, m4⟩ := hrest j y e2 h2
        rw [key i x e h1] at h3
        rw [key j y e2 h2] at h4
        exact hi.inj i j x y g k4 m4 h3 h4
/-- The caller takes an outer object ws its own. -/
theorem AOps.adopt {E : Env} {ops : Array Oper} {rest : List Oper} {K : Cont} {fr : Fr} {n : Nat} {lo : List (Nat × AObj)} {ou : Outer} {d k : Nat} {r : FV} {o : AObj} (hk : ou k = none) (ho : o.ids (fun _ => False))
    (h : AOps E ops rest K ((d, r.sub (toL k n)) :: fr) ⟨n + 1, (n, o) :: lo, ou⟩) : AOps E ops rest K ((d, r) :: fr) ⟨n, lo, updO ou k o⟩ := by
  intro F w0 C0 w C tmps hg hi hf
  have hnl : C.nl = n := hi.next
  have ha : St.get ⟨n, lo, updO ou k o⟩ (.o k) = some o := updO_same ou k o
  let C' : Ctx := { C with nl := n + 1, phi := fun i => match i with | .l j => if j = n then C.phi (.o k) else C.phi (.l j) | .o j => C.phi (.o j), tk := fun i => match i with | .l j => if j = n then C.tk (.o k) else C.tk (.l j) | .o j => C.tk (.o j) }
  have hc : Ext w C w C' := ⟨fun _ _ => rfl, fun _ h => h, fun i _ hk => by
    cases i with
    | o j => exact ⟨hk, rfl, rfl⟩
    | l j =>
      have hj : j < n := by rw [← hnl]; exact hk
      refine ⟨Nat.lt_succ_of_lt hj, ?_, ?_⟩
      · show (if j = n then _ else _) = _; rw [if_neg (by omega)]; rfl
      · show (if j = n then _ else _) = _; rw [if_neg (by omega)]; rfl⟩
  have hblk : C'.blk (.l n) = C.blk (.o k) := by show (if n = n then _ else _) = _; rw [if_pos rfl]; rfl
  have htok : C'.tok (.l n) = C.tok (.o k) := by show (if n = n then _ else _) = _; rw [if_pos rfl]; rfl
  have hi' : Inv E.Γ F w C' ⟨n + 1, (n, o) :: lo, ou⟩ := by
    refine hi.retag (a := .o k) (b := .l n) (fun _ => True) hc (fun _ h => h) (fun g cs h => idsL_true cs) rfl ha (show n < n + 1 by omega) hblk htok ?_ (by simp [St.get, lookL]) fun i x e hx => ?_
    · cases o with
      | cells cs => exact idsL_true cs
      | map ck es => exact fun x hx => FV.ids_true _
      | iter m a b c => trivial
      | sit s q => trivial
      | tok e s u => trivial
      | dead => trivial
    · refine ⟨trivial, ?_, ?_⟩
      · cases x with
        | cells cs => exact idsL_true cs
        | map ck es => exact fun x hx => FV.ids_true _
        | iter m a b c => trivial
        | sit s q => trivial
        | tok e s u => trivial
        | dead => trivial
      · cases i with
        | o j =>
          have hx' : ou j = some x := hx
          have hne : j ≠ k := fun e => by rw [e, hk] at hx'; cases hx'
          exact ⟨fun e => hne (by injection e), by show updO ou k o j = _; rw [updO_ne _ (Ne.symm hne)]; exact hx'⟩
        | l j =>
          have hne : n ≠ j := fun h => e (by rw [h])
          refine ⟨(fun e => by cases e), ?_⟩
          have : St.get ⟨n + 1, (n, o) :: lo, ou⟩ (.l j) = lookL j lo := lookL_cons_ne hne o lo
          rw [this] at hx
          exact hx
  have hb : Bus (toL k n) (fun _ => True) w C' C := ⟨fun _ h => h, fun i _ hk' => by
    cases i with
    | l j => exact hc.id (.l j) trivial hk'
    | o j =>
      by_cases e : j = k
      · subst e
        simp only [toL, beq_self, cond_true]
        exact ⟨Nat.lt_succ_self n, hblk, htok⟩
      · simp only [toL, beq_no e, cond_false]
        exact hc.id (.o j) trivial hk'⟩
  refine h F w0 C0 w C' tmps (hg.trans ⟨Stp.refl _ _, hc.weaken (fun _ _ => trivial), Nat.le_refl _, NewP.refl _ _⟩) hi' ⟨hf.1, fun j x hx => ?_⟩
  by_cases e : d = j
  · subst e
    simp [Fr.get] at hx
    subst hx
    obtain ⟨u, hu, hr⟩ := hf.2 d r (by simp [Fr.get])
    exact ⟨u, hu, RF.bus hb r u (FV.ids_true r) hr⟩
  · obtain ⟨u, hu, hr⟩ := hf.2 j x (by simpa [Fr.get, beq_no e] using hx)
    exact ⟨u, hu, hr.ext hc⟩
/-- What is owed at the end of a function that may hand an object of its own on. -/
def FinN (E : Env) (fn : Func) (Q : FV → Outer → Prop) (fr : Fr) (σ : St) : Prop :=
  Fin E fn Q fr σ ∨ ∃ r r' j o, aRes E.T fr σ fn.results.toList = some r ∧ WkF r r' ∧ r'.ids (isOr j) ∧ σ.get (.l j) = some o ∧ o.ids (fun _ => False) ∧ OuOk σ.ou ∧ ∀ k, σ.ou k = none → Q (r'.sub (toO j k)) (updO σ.ou k o)
/-- A CONTRACT OUT OF A BODY that may hand an object of its own on. -/
theorem AFn.ofBodyN {P : Program} {T : Tab} {Γ : List (Nat × List AC)} {g : Nat} {fn : Func} {c : Code} {args : List FV} {ou : Outer} {Q : FV → Outer → Prop} (hT : TabOk P T) (hΓ : ∀ g cs, (g, cs) ∈ Γ → idsL isO cs) (hf : P.funcs[g]? = some fn) (hb : fn.body = some c) (hname : (fn.name == "runtime.NumGoroutine") = false)
    (hlen : args.length ≤ fn.ntmps)
    (h : OuOk ou → ACode ⟨P, T, Γ, fn.ntmps⟩ c (contOf ⟨P, T, Γ, fn.ntmps⟩ (FinN ⟨P, T, Γ, fn.ntmps⟩ fn Q) []) (argFr 0 args) ⟨0, [], ou⟩) : AFn P Γ g args ou Q := by
  refine ⟨fun ws w => ?_, fun F w C cargs h0 hi hr => ?_⟩
  · simp [callFunc, hf, hb]
    simpa using hname
  · have hcl : cargs.length = args.length := by
      have : ∀ (vs : List FV) (xs : List Value), RFs w C vs xs → xs.length = vs.length := by
        intro vs
        induction vs with
        | nil => intro xs h; simp only [RFs] at h; simp [h]
        | cons v vs ih => intro xs h; simp only [RFs] at h; obtain ⟨u, us, rfl, _, h2⟩ := h; simp [ih us h2]
      exact this _ _ hr
    refine calls_of_wp hf hb ?_
    have hfr : FrOk w C fn.ntmps (argFr 0 args) (cargs.toArray ++ Array.replicate (fn.ntmps - cargs.toArray.size) undef) := by
      refine ⟨by simp; omega, fun k x hk => ?_⟩
      obtain ⟨_, h2⟩ := argFr_get args 0 k x hk
      simp only [Nat.sub_zero] at h2
      obtain ⟨u, hu, hru⟩ := RFs.get hr h2
      refine ⟨u, ?_, hru⟩
      have hlt : k < cargs.length := (List.getElem?_eq_some_iff.1 hu).1
      rw [Array.getElem?_append_left (by simpa using hlt)]
      simpa using hu
    refine wp_mono (h (OuOk.of_inv hi h0) F w C w C _ (Goes.refl _ _ _ _) hi hfr) fun e a w' hp => ?_
    obtain ⟨hd, fr', σ', C', hgo, hi', hf', hk⟩ := hp
    have fin : FinN ⟨P, T, Γ, fn.ntmps⟩ fn Q fr' σ' → a.defers = [] ∧ ∃ v, (results fn a.tmps).run P w' = .ok v w' ∧ (∃ v' r ou' C', Ending.returned v = .returned v' ∧ Goes F isO w C w' C' ∧ C'.nl = 0 ∧ Inv Γ F w' C' ⟨0, [], ou'⟩ ∧ RF w' C' r v' ∧ Q r ou') := by
      rintro (⟨r, r', h1, h2, h3, h4, h5⟩ | ⟨r, r', j, o, h1, h2, h3, h4, h6, h7, h5⟩)
      · obtain ⟨u, hu, hru⟩ := aRes_ok (tmps := a.tmps) hT hi' hf' h1
        have hc : Chg isO w' C' w' { C' with nl := 0 } := ⟨fun _ _ => rfl, fun _ h => h, fun i hp ho => ⟨by cases i with | l k => cases hp | o k => exact ho, rfl, rfl⟩⟩
        refine ⟨hd, u, hu, u, r', σ'.ou, { C' with nl := 0 }, rfl, ⟨hgo.stp, hgo.chg.trans hc, hgo.no, hgo.newp⟩, rfl, ⟨hi'.base, rfl, fun g cs hm => RG.chg hc (hΓ g cs hm) (hi'.glob g cs hm), hi'.prot, fun i o ho => ?_, fun i j o o' g k1 k2 k3 k4 => ?_⟩, RF.chg hc r' u h3 (h2 _ _ _ hru), h5⟩
        · cases i with
          | l k => cases ho
          | o k =>
            obtain ⟨k1, k2⟩ := hi'.obj (.o k) o ho
            exact ⟨k1, k2.ctx isO (h4 k o ho) trivial k1 hc (fun _ h => h) (fun _ h => h)⟩
        · cases i with
          | l k => cases k1
          | o k => cases j with
            | l k => cases k2
            | o k' =>
              have e1 := AObj.block_ctx (o := o) isO (i := .o k) trivial (hi'.obj (.o k) o k1).1 hc
              have e2 := AObj.block_ctx (o := o') isO (i := .o k') trivial (hi'.obj (.o k') o' k2).1 hc
              exact hi'.inj (.o k) (.o k') o o' g k1 k2 (by rw [← e1]; exact k3) (by rw [← e2]; exact k4)
      · obtain ⟨u, hu, hru⟩ := aRes_ok (tmps := a.tmps) hT hi' hf' h1
        have hnone : σ'.ou C'.no = none := by
          cases hx : σ'.ou C'.no with
          | none => rfl
          | some x => exact absurd (hi'.obj (.o C'.no) x hx).1 (Nat.lt_irrefl _)
        let C2 : Ctx := { C' with nl := 0, no := C'.no + 1, phi := fun i => match i with | .o m => if m = C'.no then C'.phi (.l j) else C'.phi (.o m) | .l m => C'.phi (.l m), tk := fun i => match i with | .o m => if m = C'.no then C'.tk (.l j) else C'.tk (.o m) | .l m => C'.tk (.l m) }
        have hc : Chg isO w' C' w' C2 := ⟨fun _ _ => rfl, fun _ h => h, fun i hp ho => by
          cases i with
          | l m => cases hp
          | o m =>
            have hm : m < C'.no := ho
            refine ⟨Nat.lt_succ_of_lt hm, ?_, ?_⟩
            · show (if m = C'.no then _ else _) = _; rw [if_neg (by omega)]; rfl
            · show (if m = C'.no then _ else _) = _; rw [if_neg (by omega)]; rfl⟩
        have hblk : C2.blk (.o C'.no) = C'.blk (.l j) := by show (if C'.no = C'.no then _ else _) = _; rw [if_pos rfl]; rfl
        have htok : C2.tok (.o C'.no) = C'.tok (.l j) := by show (if C'.no = C'.no then _ else _) = _; rw [if_pos rfl]; rfl
        have hb2 : Bus (toO j C'.no) (isOr j) w' C2 C' := ⟨fun _ h => h, fun i hp hk' => by
          cases i with
          | o m => exact hc.id (.o m) trivial hk'
          | l m =>
            have e : m = j := hp
            subst e
            simp only [toO, beq_self, cond_true]
            exact ⟨Nat.lt_succ_self _, hblk, htok⟩⟩
        refine ⟨hd, u, hu, u, r'.sub (toO j C'.no), updO σ'.ou C'.no o, C2, rfl, ⟨hgo.stp, hgo.chg.trans hc, Nat.le_succ_of_le hgo.no, fun a ha => hgo.newp a ha⟩, rfl, ?_, RF.bus hb2 r' u h3 (h2 _ _ _ hru), h5 _ hnone⟩
        refine hi'.retag (a := .l j) (b := .o C'.no) isO hc (fun _ h => h) hΓ rfl h4 (show C'.no < C'.no + 1 by omega) hblk htok (AObj.ids_mono (fun _ h => h.elim) _ h6) (updO_same _ _ _) fun i x e hx => ?_
        cases i with
        | l m => cases hx
        | o m =>
          have hne : m ≠ C'.no := fun h => e (by rw [h])
          have hx' : σ'.ou m = some x := by
            have : St.get ⟨0, [], updO σ'.ou C'.no o⟩ (.o m) = updO σ'.ou C'.no o m := rfl
            rw [this, updO_ne _ (Ne.symm hne)] at hx
            exact hx
          exact ⟨trivial, h7 m x hx', (fun e => by cases e), hx'⟩
    cases e with
    | normal => exact fin hk
    | ret => exact fin hk
    | exit id => exact hk.elim
    | goto l => exact hk.elim
    | panic ch => exact hk.elim
    | outgrown => exact hk.elim
theorem AFn.walkN {P : Program} {T : Tab} {Γ : List (Nat × List AC)} {g : Nat} {fn : Func} {c : Code} {args : List FV} {ou : Outer} {Q : FV → Outer → Prop} (N : Nat) (hT : TabOk P T) (hΓ : ∀ g cs, (g, cs) ∈ Γ → idsL isO cs) (hf : P.funcs[g]? = some fn) (hb : fn.body = some c) (hname : (fn.name == "runtime.NumGoroutine") = false)
    (hN : fn.ntmps = N) (hlen : Nat.ble args.length N = true) (h : OuOk ou → ACode ⟨P, T, Γ, N⟩ c (contOf ⟨P, T, Γ, N⟩ (FinN ⟨P, T, Γ, N⟩ fn Q) []) (argFr 0 args) ⟨0, [], ou⟩) : AFn P Γ g args ou Q := by
  subst hN
  exact AFn.ofBodyN hT hΓ hf hb hname (Nat.le_of_ble_eq_true hlen) h
/-- A call of a function that only computes, the arguments told less of. -/
theorem AStep.callPW {E : Env} {o : Oper} {fr : Fr} {σ : St} {f : Operand} {args : Array Operand} {tys : Array TypeId} {g : Nat} {first caps : List AC} {vs ws : List FV} {r : FV}
    (hΓ : ∀ g cs, (g, cs) ∈ E.Γ → idsL isO cs) (ho : o.op = .call { callee := .value f, args := args, argTypes := tys })
    (hf : aEval E.Γ fr f = some (.one (.fn (.func g) first caps))) (hargs : aEvals E.Γ fr args.toList = some vs) (hw : WkFs (first.map .one ++ vs ++ caps.map .one) ws) (hids : idsF isO ws) (hou : OuOk σ.ou)
    (hc : APure E.P E.Γ g ws r) : AStep E o fr σ r σ := by
  intro F w C tmps hi hfr next Q hk
  have hcallee := aEval_ok (a := ⟨tmps, []⟩) hi hfr hf
  simp only [RF, R] at hcallee
  obtain ⟨xs, ys, hfv, hx, hy⟩ := hcallee
  have hvs := aEvals_ok (a := ⟨tmps, []⟩) hi hfr hargs
  have hall : RFs w C ws (xs ++ args.toList.map (Act.eval ⟨tmps, []⟩) ++ ys) := hw _ _ _ ((RFs.ones hx |>.append hvs).append (RFs.ones hy))
  have hrun : (execOp (Act.eval ⟨tmps, []⟩) o).run E.P w = .ok (.enter g (xs ++ args.toList.map (Act.eval ⟨tmps, []⟩) ++ ys).toArray) w := by
    unfold execOp
    simp only [ho, resolve, Sem.run_bind, hfv, Deferred.ofValue, Sem.run_pure, Result.andThen_ok, invoke, (hc σ.ou).1]
    congr 2
    apply Array.ext'
    simp
  unfold Oper.wp
  rw [hrun, Oper.upon_enter]
  have hc1 : Chg isO w C w { C with nl := 0 } := ⟨fun _ _ => rfl, fun _ h => h, fun i hp ho => ⟨by cases i with | l k => cases hp | o k => exact ho, rfl, rfl⟩⟩
  refine ((hc σ.ou).2 (calleeF w C σ.ou) w { C with nl := 0 } _ rfl (hi.forCallee hou hΓ) (RFs.chg hc1 _ _ hids hall)).mono fun e w' ⟨v, r', ou', C', he, hgo, h0, hi', hr, hQ1, hQ2⟩ => ?_
  subst he; subst hQ1; subst hQ2
  obtain ⟨hb1, hb2, hb3⟩ := hi.back hgo h0 hi'
  have hrid : r'.ids isO := FV.ids_mono (ok_isO h0) r' (RF.idsOk r' v hr)
  exact hk v w' _ hb1 hb2 (RF.chg hb3 r' v hrid hr)
theorem AOps.callCW {E : Env} {ops : Array Oper} {rest : List Oper} {o : Oper} {K : Cont} {fr : Fr} {σ : St} {d : Nat} {f : Operand} {args : Array Operand} {tys : Array TypeId} {g : Nat} {first caps : List AC} {vs ws : List FV} {r : FV}
    (hΓ : ∀ g cs, (g, cs) ∈ E.Γ → idsL isO cs) (hc : APure E.P E.Γ g ws r) (hgd : o.guard = none) (hdst : o.dst = some d) (hd : Nat.ble (d + 1) E.N = true) (ho : o.op = .call { callee := .value f, args := args, argTypes := tys })
    (hf : aEval E.Γ fr f = some (.one (.fn (.func g) first caps))) (hargs : aEvals E.Γ fr args.toList = some vs) (hw : WkFs (first.map .one ++ vs ++ caps.map .one) ws) (hou : OuOk σ.ou) (hids : idsF isO ws)
    (h : AOps E ops rest K ((d, r) :: fr) σ) : AOps E ops (o :: rest) K fr σ :=
  AOps.step1 hgd hdst hd (AStep.callPW hΓ ho hf hargs hw hids hou hc) h
theorem CallsOk.callW {E : Env} {l : List Oper} {frb : Fr} {σ : St} {vs : List FV} {k : Nat} {v : FV} {r : List (Nat × FV)} {o : Oper} {f : Operand} {args : Array Operand} {tys : Array TypeId} {g : Nat} {first caps : List AC} {us ws : List FV} (hΓ : ∀ g cs, (g, cs) ∈ E.Γ → idsL isO cs)
    (hc : APure E.P E.Γ g ws v) (hou : OuOk σ.ou) (hids : idsF isO ws) (hk : l[k]? = some o) (hgd : o.guard = none)
    (ho : o.op = .call { callee := .value f, args := args, argTypes := tys }) (hf : aEval E.Γ (depFr l vs o ++ frb) f = some (.one (.fn (.func g) first caps))) (hargs : aEvals E.Γ (depFr l vs o ++ frb) args.toList = some us) (hw : WkFs (first.map .one ++ us ++ caps.map .one) ws)
    (hr : CallsOk E l frb σ vs r) : CallsOk E l frb σ vs ((k, v) :: r) :=
  .step hk (HStep.plain hgd (AStep.callPW hΓ ho hf hargs hw hids hou hc)) hr
theorem FrSub.consGs {ρ : Nat → Nat} {fr r : Fr} {k s i j : Nat} {es : List (List AC)} (h : Fr.get k fr = some (.one (.gs s es (.l j)))) (hj : j = ρ i) (hp : idsS isO es) (hr : FrSub ρ fr r) : FrSub ρ fr ((k, .one (.gs s es (.l i))) :: r) := by
  refine FrSub.cons h (.ofEq ?_) hr
  simp only [FV.ren, AC.ren]
  rw [renS_pure ρ es hp, hj]; rfl
end Go.Abs
/- The abstract layer, part Za: a contract over more globals. No condition. -/
namespace Go.Abs
theorem AFn.lift {P : Program} {Γ Γ' : List (Nat × List AC)} {g : Nat} {args : List FV} {ou : Outer} {Q : FV → Outer → Prop} (hs : ∀ x ∈ Γ, x ∈ Γ') (hids : ∀ g cs, (g, cs) ∈ Γ' → idsL isO cs) (h : AFn P Γ g args ou Q) : AFn P Γ' g args ou Q :=
  ⟨h.1, fun F w C cargs h0 hi hr => (h.2 F w C cargs h0 ⟨hi.base, hi.next, fun g cs hm => hi.glob g cs (hs _ hm), hi.prot, hi.obj, hi.inj⟩ hr).mono fun e w' ⟨v, r, ou', C', he, hgo, h0', hi', hr', hq⟩ =>
    ⟨v, r, ou', C', he, hgo, h0', ⟨hi'.base, hi'.next, fun g cs hm => RG.chg hgo.chg (hids g cs hm) (hi.glob g cs hm), hi'.prot, hi'.obj, hi'.inj⟩, hr', hq⟩⟩
theorem APure.lift {P : Program} {Γ Γ' : List (Nat × List AC)} {g : Nat} {args : List FV} {r : FV} (hs : ∀ x ∈ Γ, x ∈ Γ') (hids : ∀ g cs, (g, cs) ∈ Γ' → idsL isO cs) (h : APure P Γ g args r) : APure P Γ' g args r := fun ou => (h ou).lift hs hids
end Go.Abs
/- The types of the seat as a table, and that the loaded program has them so. -/
namespace Go.Proofs.YtnonkoeknpmcjaaDoor
open Go Go.Abs
def ti1 : TI := { size := 1, bytes := 8, agg := false, zero := [.nilFunc], kind := 0, flds := [], elem := 0, len := 0 }
theorem tok1 : TIOk Tryd.prog 1 ti1 := TIOk.of (z := .nilFunc) (by kernel_rfl) Tryd.underlying1 rfl rfl trivial rfl rfl rfl
def ti2 : TI := { size := 1, bytes := 8, agg := false, zero := [.int .i64 0], kind := 0, flds := [], elem := 0, len := 0 }
theorem tok2 : TIOk Tryd.prog 2 ti2 := TIOk.of (z := .int .i64 0) (by kernel_rfl) Tryd.underlying2 rfl rfl trivial rfl rfl rfl
def ti3 : TI := { size := 1, bytes := 8, agg := false, zero := [.int .i64 0], kind := 0, flds := [], elem := 0, len := 0 }
theorem tok3 : TIOk Tryd.prog 3 ti3 := TIOk.of (z := .int .i64 0) (by kernel_rfl) Tryd.underlying3 rfl rfl trivial rfl rfl rfl
def ti4 : TI := { size := 1, bytes := 1, agg := false, zero := [.bool false], kind := 0, flds := [], elem := 0, len := 0 }
theorem tok4 : TIOk Tryd.prog 4 ti4 := TIOk.of (z := .bool false) (by kernel_rfl) Tryd.underlying4 rfl rfl trivial rfl rfl rfl
def ti5 : TI := { size := 1, bytes := 1, agg := false, zero := [.int .u8 0], kind := 0, flds := [], elem := 0, len := 0 }
theorem tok5 : TIOk Tryd.prog 5 ti5 := TIOk.of (z := .int .u8 0) (by kernel_rfl) Tryd.underlying5 rfl rfl trivial rfl rfl rfl
def ti6 : TI := { size := 1, bytes := 1, agg := false, zero := [.int .u8 0], kind := 0, flds := [], elem := 0, len := 0 }
theorem tok6 : TIOk Tryd.prog 6 ti6 := TIOk.of (z := .int .u8 0) (by kernel_rfl) Tryd.underlying6 rfl rfl trivial rfl rfl rfl
def ti7 : TI := { size := 4, bytes := 24, agg := true, zero := [.int .i64 0, .int .i64 0, .bool false, .int .u8 0], kind := 1, flds := [(0, 2), (1, 3), (2, 4), (3, 6)], elem := 0, len := 0 }
theorem tok7 : TIOk Tryd.prog 7 ti7 := TIOk.of (z := .agg #[.int .i64 0, .int .i64 0, .bool false, .int .u8 0]) (by kernel_rfl) Tryd.underlying7 rfl rfl ⟨_, rfl, rfl⟩ rfl rfl rfl
def ti8 : TI := { size := 4, bytes := 24, agg := true, zero := [.int .i64 0, .int .i64 0, .bool false, .int .u8 0], kind := 1, flds := [(0, 2), (1, 3), (2, 4), (3, 6)], elem := 0, len := 0 }
theorem tok8 : TIOk Tryd.prog 8 ti8 := TIOk.of (z := .agg #[.int .i64 0, .int .i64 0, .bool false, .int .u8 0]) (by kernel_rfl) Tryd.underlying8 rfl rfl ⟨_, rfl, rfl⟩ rfl rfl rfl
def ti9 : TI := { size := 1, bytes := 16, agg := false, zero := [.string ⟨#[]⟩], kind := 5, flds := [], elem := 0, len := 0 }
theorem tok9 : TIOk Tryd.prog 9 ti9 := TIOk.of (z := .string ⟨#[]⟩) (by kernel_rfl) Tryd.underlying9 rfl rfl rfl rfl rfl rfl
def ti10 : TI := { size := 1, bytes := 16, agg := false, zero := [.string ⟨#[]⟩], kind := 5, flds := [], elem := 0, len := 0 }
theorem tok10 : TIOk Tryd.prog 10 ti10 := TIOk.of (z := .string ⟨#[]⟩) (by kernel_rfl) Tryd.underlying10 rfl rfl rfl rfl rfl rfl
def ti11 : TI := { size := 1, bytes := 16, agg := false, zero := [.string ⟨#[]⟩], kind := 5, flds := [], elem := 0, len := 0 }
theorem tok11 : TIOk Tryd.prog 11 ti11 := TIOk.of (z := .string ⟨#[]⟩) (by kernel_rfl) Tryd.underlying11 rfl rfl rfl rfl rfl rfl
def ti12 : TI := { size := 1, bytes := 8, agg := false, zero := [.int .u64 0], kind := 0, flds := [], elem := 0, len := 0 }
theorem tok12 : TIOk Tryd.prog 12 ti12 := TIOk.of (z := .int .u64 0) (by kernel_rfl) Tryd.underlying12 rfl rfl trivial rfl rfl rfl
def ti13 : TI := { size := 2, bytes := 24, agg := true, zero := [.string ⟨#[]⟩, .int .u64 0], kind := 1, flds := [(0, 9), (1, 12)], elem := 0, len := 0 }
theorem tok13 : TIOk Tryd.prog 13 ti13 := TIOk.of (z := .agg #[.string ⟨#[]⟩, .int .u64 0]) (by kernel_rfl) Tryd.underlying13 rfl rfl ⟨_, rfl, rfl⟩ rfl rfl rfl
def ti14 : TI := { size := 2, bytes := 24, agg := true, zero := [.string ⟨#[]⟩, .int .u64 0], kind := 1, flds := [(0, 9), (1, 12)], elem := 0, len := 0 }
theorem tok14 : TIOk Tryd.prog 14 ti14 := TIOk.of (z := .agg #[.string ⟨#[]⟩, .int .u64 0]) (by kernel_rfl) Tryd.underlying14 rfl rfl ⟨_, rfl, rfl⟩ rfl rfl rfl
def ti15 : TI := { size := 1, bytes := 8, agg := false, zero := [.pointer none], kind := 6, flds := [], elem := 149, len := 0 }
theorem tok15 : TIOk Tryd.prog 15 ti15 := TIOk.of (z := .pointer none) (by kernel_rfl) Tryd.underlying15 rfl rfl rfl rfl rfl rfl
def ti16 : TI := { size := 1, bytes := 8, agg := false, zero := [.pointer none], kind := 6, flds := [], elem := 152, len := 0 }
theorem tok16 : TIOk Tryd.prog 16 ti16 := TIOk.of (z := .pointer none) (by kernel_rfl) Tryd.underlying16 rfl rfl rfl rfl rfl rfl
def ti17 : TI := { size := 1, bytes := 8, agg := false, zero := [.pointer none], kind := 6, flds := [], elem := 161, len := 0 }
theorem tok17 : TIOk Tryd.prog 17 ti17 := TIOk.of (z := .pointer none) (by kernel_rfl) Tryd.underlying17 rfl rfl rfl rfl rfl rfl
def ti18 : TI := { size := 1, bytes := 8, agg := true, zero := [.pointer none], kind := 1, flds := [(0, 17)], elem := 0, len := 0 }
theorem tok18 : TIOk Tryd.prog 18 ti18 := TIOk.of (z := .agg #[.pointer none]) (by kernel_rfl) Tryd.underlying18 rfl rfl ⟨_, rfl, rfl⟩ rfl rfl rfl
def ti19 : TI := { size := 1, bytes := 8, agg := true, zero := [.pointer none], kind := 1, flds := [(0, 17)], elem := 0, len := 0 }
theorem tok19 : TIOk Tryd.prog 19 ti19 := TIOk.of (z := .agg #[.pointer none]) (by kernel_rfl) Tryd.underlying19 rfl rfl ⟨_, rfl, rfl⟩ rfl rfl rfl
def ti21 : TI := { size := 1, bytes := 4, agg := false, zero := [.int .i32 0], kind := 0, flds := [], elem := 0, len := 0 }
theorem tok21 : TIOk Tryd.prog 21 ti21 := TIOk.of (z := .int .i32 0) (by kernel_rfl) Tryd.underlying21 rfl rfl trivial rfl rfl rfl
def ti22 : TI := { size := 1, bytes := 24, agg := false, zero := [.slice none 0 0], kind := 2, flds := [], elem := 35, len := 0 }
theorem tok22 : TIOk Tryd.prog 22 ti22 := TIOk.of (z := .slice none 0 0) (by kernel_rfl) Tryd.underlying22 rfl rfl rfl rfl rfl rfl
def ti23 : TI := { size := 1, bytes := 8, agg := false, zero := [.int .i64 0], kind := 0, flds := [], elem := 0, len := 0 }
theorem tok23 : TIOk Tryd.prog 23 ti23 := TIOk.of (z := .int .i64 0) (by kernel_rfl) Tryd.underlying23 rfl rfl trivial rfl rfl rfl
def ti25 : TI := { size := 1, bytes := 8, agg := false, zero := [.nilFunc], kind := 0, flds := [], elem := 0, len := 0 }
theorem tok25 : TIOk Tryd.prog 25 ti25 := TIOk.of (z := .nilFunc) (by kernel_rfl) Tryd.underlying25 rfl rfl trivial rfl rfl rfl
def ti26 : TI := { size := 1, bytes := 8, agg := false, zero := [.nilFunc], kind := 0, flds := [], elem := 0, len := 0 }
theorem tok26 : TIOk Tryd.prog 26 ti26 := TIOk.of (z := .nilFunc) (by kernel_rfl) Tryd.underlying26 rfl rfl trivial rfl rfl rfl
def ti27 : TI := { size := 1, bytes := 8, agg := false, zero := [.nilFunc], kind := 0, flds := [], elem := 0, len := 0 }
theorem tok27 : TIOk Tryd.prog 27 ti27 := TIOk.of (z := .nilFunc) (by kernel_rfl) Tryd.underlying27 rfl rfl trivial rfl rfl rfl
def ti28 : TI := { size := 1, bytes := 8, agg := false, zero := [.nilFunc], kind := 0, flds := [], elem := 0, len := 0 }
theorem tok28 : TIOk Tryd.prog 28 ti28 := TIOk.of (z := .nilFunc) (by kernel_rfl) Tryd.underlying28 rfl rfl trivial rfl rfl rfl
def ti29 : TI := { size := 1, bytes := 8, agg := false, zero := [.nilFunc], kind := 0, flds := [], elem := 0, len := 0 }
theorem tok29 : TIOk Tryd.prog 29 ti29 := TIOk.of (z := .nilFunc) (by kernel_rfl) Tryd.underlying29 rfl rfl trivial rfl rfl rfl
def ti30 : TI := { size := 1, bytes := 24, agg := false, zero := [.slice none 0 0], kind := 2, flds := [], elem := 3, len := 0 }
theorem tok30 : TIOk Tryd.prog 30 ti30 := TIOk.of (z := .slice none 0 0) (by kernel_rfl) Tryd.underlying30 rfl rfl rfl rfl rfl rfl
def ti32 : TI := { size := 1, bytes := 8, agg := false, zero := [.nilFunc], kind := 0, flds := [], elem := 0, len := 0 }
theorem tok32 : TIOk Tryd.prog 32 ti32 := TIOk.of (z := .nilFunc) (by kernel_rfl) Tryd.underlying32 rfl rfl trivial rfl rfl rfl
def ti33 : TI := { size := 1, bytes := 24, agg := false, zero := [.slice none 0 0], kind := 2, flds := [], elem := 63, len := 0 }
theorem tok33 : TIOk Tryd.prog 33 ti33 := TIOk.of (z := .slice none 0 0) (by kernel_rfl) Tryd.underlying33 rfl rfl rfl rfl rfl rfl
def ti34 : TI := { size := 5, bytes := 88, agg := true, zero := [.int .i64 0, .int .i64 0, .slice none 0 0, .slice none 0 0, .slice none 0 0], kind := 1, flds := [(0, 3), (1, 3), (2, 30), (3, 30), (4, 33)], elem := 0, len := 0 }
theorem tok34 : TIOk Tryd.prog 34 ti34 := TIOk.of (z := .agg #[.int .i64 0, .int .i64 0, .slice none 0 0, .slice none 0 0, .slice none 0 0]) (by kernel_rfl) Tryd.underlying34 rfl rfl ⟨_, rfl, rfl⟩ rfl rfl rfl
def ti35 : TI := { size := 5, bytes := 88, agg := true, zero := [.int .i64 0, .int .i64 0, .slice none 0 0, .slice none 0 0, .slice none 0 0], kind := 1, flds := [(0, 3), (1, 3), (2, 30), (3, 30), (4, 33)], elem := 0, len := 0 }
theorem tok35 : TIOk Tryd.prog 35 ti35 := TIOk.of (z := .agg #[.int .i64 0, .int .i64 0, .slice none 0 0, .slice none 0 0, .slice none 0 0]) (by kernel_rfl) Tryd.underlying35 rfl rfl ⟨_, rfl, rfl⟩ rfl rfl rfl
def ti36 : TI := { size := 1, bytes := 8, agg := false, zero := [.nilFunc], kind := 0, flds := [], elem := 0, len := 0 }
theorem tok36 : TIOk Tryd.prog 36 ti36 := TIOk.of (z := .nilFunc) (by kernel_rfl) Tryd.underlying36 rfl rfl trivial rfl rfl rfl
def ti37 : TI := { size := 1, bytes := 8, agg := false, zero := [.nilFunc], kind := 0, flds := [], elem := 0, len := 0 }
theorem tok37 : TIOk Tryd.prog 37 ti37 := TIOk.of (z := .nilFunc) (by kernel_rfl) Tryd.underlying37 rfl rfl trivial rfl rfl rfl
def ti38 : TI := { size := 1, bytes := 8, agg := false, zero := [.nilFunc], kind := 0, flds := [], elem := 0, len := 0 }
theorem tok38 : TIOk Tryd.prog 38 ti38 := TIOk.of (z := .nilFunc) (by kernel_rfl) Tryd.underlying38 rfl rfl trivial rfl rfl rfl
def ti39 : TI := { size := 1, bytes := 8, agg := false, zero := [.nilFunc], kind := 0, flds := [], elem := 0, len := 0 }
theorem tok39 : TIOk Tryd.prog 39 ti39 := TIOk.of (z := .nilFunc) (by kernel_rfl) Tryd.underlying39 rfl rfl trivial rfl rfl rfl
def ti40 : TI := { size := 1, bytes := 8, agg := false, zero := [.nilFunc], kind := 0, flds := [], elem := 0, len := 0 }
theorem tok40 : TIOk Tryd.prog 40 ti40 := TIOk.of (z := .nilFunc) (by kernel_rfl) Tryd.underlying40 rfl rfl trivial rfl rfl rfl
def ti41 : TI := { size := 1, bytes := 8, agg := false, zero := [.nilFunc], kind := 0, flds := [], elem := 0, len := 0 }
theorem tok41 : TIOk Tryd.prog 41 ti41 := TIOk.of (z := .nilFunc) (by kernel_rfl) Tryd.underlying41 rfl rfl trivial rfl rfl rfl
def ti42 : TI := { size := 1, bytes := 8, agg := false, zero := [.nilFunc], kind := 0, flds := [], elem := 0, len := 0 }
theorem tok42 : TIOk Tryd.prog 42 ti42 := TIOk.of (z := .nilFunc) (by kernel_rfl) Tryd.underlying42 rfl rfl trivial rfl rfl rfl
def ti44 : TI := { size := 1, bytes := 8, agg := false, zero := [.nilFunc], kind := 0, flds := [], elem := 0, len := 0 }
theorem tok44 : TIOk Tryd.prog 44 ti44 := TIOk.of (z := .nilFunc) (by kernel_rfl) Tryd.underlying44 rfl rfl trivial rfl rfl rfl
def ti45 : TI := { size := 1, bytes := 8, agg := false, zero := [.nilFunc], kind := 0, flds := [], elem := 0, len := 0 }
theorem tok45 : TIOk Tryd.prog 45 ti45 := TIOk.of (z := .nilFunc) (by kernel_rfl) Tryd.underlying45 rfl rfl trivial rfl rfl rfl
def ti46 : TI := { size := 1, bytes := 24, agg := false, zero := [.slice none 0 0], kind := 2, flds := [], elem := 50, len := 0 }
theorem tok46 : TIOk Tryd.prog 46 ti46 := TIOk.of (z := .slice none 0 0) (by kernel_rfl) Tryd.underlying46 rfl rfl rfl rfl rfl rfl
def ti48 : TI := { size := 1, bytes := 8, agg := false, zero := [.nilFunc], kind := 0, flds := [], elem := 0, len := 0 }
theorem tok48 : TIOk Tryd.prog 48 ti48 := TIOk.of (z := .nilFunc) (by kernel_rfl) Tryd.underlying48 rfl rfl trivial rfl rfl rfl
def ti49 : TI := { size := 2, bytes := 16, agg := true, zero := [.int .i64 0, .int .i64 0], kind := 1, flds := [(0, 3), (1, 3)], elem := 0, len := 0 }
theorem tok49 : TIOk Tryd.prog 49 ti49 := TIOk.of (z := .agg #[.int .i64 0, .int .i64 0]) (by kernel_rfl) Tryd.underlying49 rfl rfl ⟨_, rfl, rfl⟩ rfl rfl rfl
def ti50 : TI := { size := 2, bytes := 16, agg := true, zero := [.int .i64 0, .int .i64 0], kind := 1, flds := [(0, 3), (1, 3)], elem := 0, len := 0 }
theorem tok50 : TIOk Tryd.prog 50 ti50 := TIOk.of (z := .agg #[.int .i64 0, .int .i64 0]) (by kernel_rfl) Tryd.underlying50 rfl rfl ⟨_, rfl, rfl⟩ rfl rfl rfl
def ti51 : TI := { size := 1, bytes := 8, agg := false, zero := [.nilFunc], kind := 0, flds := [], elem := 0, len := 0 }
theorem tok51 : TIOk Tryd.prog 51 ti51 := TIOk.of (z := .nilFunc) (by kernel_rfl) Tryd.underlying51 rfl rfl trivial rfl rfl rfl
def ti52 : TI := { size := 1, bytes := 8, agg := false, zero := [.nilFunc], kind := 0, flds := [], elem := 0, len := 0 }
theorem tok52 : TIOk Tryd.prog 52 ti52 := TIOk.of (z := .nilFunc) (by kernel_rfl) Tryd.underlying52 rfl rfl trivial rfl rfl rfl
def ti53 : TI := { size := 3, bytes := 24, agg := true, zero := [.int .i64 0, .int .i64 0, .int .i64 0], kind := 3, flds := [], elem := 3, len := 3 }
theorem tok53 : TIOk Tryd.prog 53 ti53 := TIOk.of (z := .agg #[.int .i64 0, .int .i64 0, .int .i64 0]) (by kernel_rfl) Tryd.underlying53 rfl rfl rfl rfl rfl rfl
def ti54 : TI := { size := 6, bytes := 48, agg := true, zero := [.int .i64 0, .int .i64 0, .int .i64 0, .int .i64 0, .int .i64 0, .int .i64 0], kind := 3, flds := [], elem := 53, len := 2 }
theorem tok54 : TIOk Tryd.prog 54 ti54 := TIOk.of (z := .agg #[.int .i64 0, .int .i64 0, .int .i64 0, .int .i64 0, .int .i64 0, .int .i64 0]) (by kernel_rfl) Tryd.underlying54 rfl rfl rfl rfl rfl rfl
def ti55 : TI := { size := 1, bytes := 8, agg := false, zero := [.nilFunc], kind := 0, flds := [], elem := 0, len := 0 }
theorem tok55 : TIOk Tryd.prog 55 ti55 := TIOk.of (z := .nilFunc) (by kernel_rfl) Tryd.underlying55 rfl rfl trivial rfl rfl rfl
def ti56 : TI := { size := 1, bytes := 8, agg := false, zero := [.pointer none], kind := 6, flds := [], elem := 76, len := 0 }
theorem tok56 : TIOk Tryd.prog 56 ti56 := TIOk.of (z := .pointer none) (by kernel_rfl) Tryd.underlying56 rfl rfl rfl rfl rfl rfl
def ti57 : TI := { size := 1, bytes := 8, agg := false, zero := [.nilFunc], kind := 0, flds := [], elem := 0, len := 0 }
theorem tok57 : TIOk Tryd.prog 57 ti57 := TIOk.of (z := .nilFunc) (by kernel_rfl) Tryd.underlying57 rfl rfl trivial rfl rfl rfl
def ti58 : TI := { size := 1, bytes := 8, agg := false, zero := [.pointer none], kind := 6, flds := [], elem := 92, len := 0 }
theorem tok58 : TIOk Tryd.prog 58 ti58 := TIOk.of (z := .pointer none) (by kernel_rfl) Tryd.underlying58 rfl rfl rfl rfl rfl rfl
def ti59 : TI := { size := 1, bytes := 8, agg := false, zero := [.nilFunc], kind := 0, flds := [], elem := 0, len := 0 }
theorem tok59 : TIOk Tryd.prog 59 ti59 := TIOk.of (z := .nilFunc) (by kernel_rfl) Tryd.underlying59 rfl rfl trivial rfl rfl rfl
def ti60 : TI := { size := 1, bytes := 8, agg := false, zero := [.nilFunc], kind := 0, flds := [], elem := 0, len := 0 }
theorem tok60 : TIOk Tryd.prog 60 ti60 := TIOk.of (z := .nilFunc) (by kernel_rfl) Tryd.underlying60 rfl rfl trivial rfl rfl rfl
def ti61 : TI := { size := 1, bytes := 8, agg := false, zero := [.nilFunc], kind := 0, flds := [], elem := 0, len := 0 }
theorem tok61 : TIOk Tryd.prog 61 ti61 := TIOk.of (z := .nilFunc) (by kernel_rfl) Tryd.underlying61 rfl rfl trivial rfl rfl rfl
def ti62 : TI := { size := 2, bytes := 32, agg := true, zero := [.int .i64 0, .slice none 0 0], kind := 1, flds := [(0, 3), (1, 30)], elem := 0, len := 0 }
theorem tok62 : TIOk Tryd.prog 62 ti62 := TIOk.of (z := .agg #[.int .i64 0, .slice none 0 0]) (by kernel_rfl) Tryd.underlying62 rfl rfl ⟨_, rfl, rfl⟩ rfl rfl rfl
def ti63 : TI := { size := 2, bytes := 32, agg := true, zero := [.int .i64 0, .slice none 0 0], kind := 1, flds := [(0, 3), (1, 30)], elem := 0, len := 0 }
theorem tok63 : TIOk Tryd.prog 63 ti63 := TIOk.of (z := .agg #[.int .i64 0, .slice none 0 0]) (by kernel_rfl) Tryd.underlying63 rfl rfl ⟨_, rfl, rfl⟩ rfl rfl rfl
def ti64 : TI := { size := 1, bytes := 8, agg := false, zero := [.nilFunc], kind := 0, flds := [], elem := 0, len := 0 }
theorem tok64 : TIOk Tryd.prog 64 ti64 := TIOk.of (z := .nilFunc) (by kernel_rfl) Tryd.underlying64 rfl rfl trivial rfl rfl rfl
def ti65 : TI := { size := 1, bytes := 8, agg := false, zero := [.nilFunc], kind := 0, flds := [], elem := 0, len := 0 }
theorem tok65 : TIOk Tryd.prog 65 ti65 := TIOk.of (z := .nilFunc) (by kernel_rfl) Tryd.underlying65 rfl rfl trivial rfl rfl rfl
def ti66 : TI := { size := 1, bytes := 8, agg := false, zero := [.nilFunc], kind := 0, flds := [], elem := 0, len := 0 }
theorem tok66 : TIOk Tryd.prog 66 ti66 := TIOk.of (z := .nilFunc) (by kernel_rfl) Tryd.underlying66 rfl rfl trivial rfl rfl rfl
def ti67 : TI := { size := 1, bytes := 8, agg := false, zero := [.nilFunc], kind := 0, flds := [], elem := 0, len := 0 }
theorem tok67 : TIOk Tryd.prog 67 ti67 := TIOk.of (z := .nilFunc) (by kernel_rfl) Tryd.underlying67 rfl rfl trivial rfl rfl rfl
def ti68 : TI := { size := 1, bytes := 8, agg := false, zero := [.nilFunc], kind := 0, flds := [], elem := 0, len := 0 }
theorem tok68 : TIOk Tryd.prog 68 ti68 := TIOk.of (z := .nilFunc) (by kernel_rfl) Tryd.underlying68 rfl rfl trivial rfl rfl rfl
def ti69 : TI := { size := 1, bytes := 8, agg := false, zero := [.nilFunc], kind := 0, flds := [], elem := 0, len := 0 }
theorem tok69 : TIOk Tryd.prog 69 ti69 := TIOk.of (z := .nilFunc) (by kernel_rfl) Tryd.underlying69 rfl rfl trivial rfl rfl rfl
def ti70 : TI := { size := 1, bytes := 8, agg := false, zero := [.nilFunc], kind := 0, flds := [], elem := 0, len := 0 }
theorem tok70 : TIOk Tryd.prog 70 ti70 := TIOk.of (z := .nilFunc) (by kernel_rfl) Tryd.underlying70 rfl rfl trivial rfl rfl rfl
def ti71 : TI := { size := 1, bytes := 8, agg := false, zero := [.int .u64 0], kind := 0, flds := [], elem := 0, len := 0 }
theorem tok71 : TIOk Tryd.prog 71 ti71 := TIOk.of (z := .int .u64 0) (by kernel_rfl) Tryd.underlying71 rfl rfl trivial rfl rfl rfl
def ti72 : TI := { size := 1, bytes := 8, agg := false, zero := [.nilFunc], kind := 0, flds := [], elem := 0, len := 0 }
theorem tok72 : TIOk Tryd.prog 72 ti72 := TIOk.of (z := .nilFunc) (by kernel_rfl) Tryd.underlying72 rfl rfl trivial rfl rfl rfl
def ti73 : TI := { size := 1, bytes := 8, agg := false, zero := [.nilFunc], kind := 0, flds := [], elem := 0, len := 0 }
theorem tok73 : TIOk Tryd.prog 73 ti73 := TIOk.of (z := .nilFunc) (by kernel_rfl) Tryd.underlying73 rfl rfl trivial rfl rfl rfl
def ti74 : TI := { size := 1, bytes := 24, agg := false, zero := [.slice none 0 0], kind := 2, flds := [], elem := 56, len := 0 }
theorem tok74 : TIOk Tryd.prog 74 ti74 := TIOk.of (z := .slice none 0 0) (by kernel_rfl) Tryd.underlying74 rfl rfl rfl rfl rfl rfl
def ti75 : TI := { size := 5, bytes := 88, agg := true, zero := [.int .i64 0, .int .i64 0, .slice none 0 0, .slice none 0 0, .slice none 0 0], kind := 1, flds := [(0, 3), (1, 3), (2, 30), (3, 74), (4, 33)], elem := 0, len := 0 }
theorem tok75 : TIOk Tryd.prog 75 ti75 := TIOk.of (z := .agg #[.int .i64 0, .int .i64 0, .slice none 0 0, .slice none 0 0, .slice none 0 0]) (by kernel_rfl) Tryd.underlying75 rfl rfl ⟨_, rfl, rfl⟩ rfl rfl rfl
def ti76 : TI := { size := 5, bytes := 88, agg := true, zero := [.int .i64 0, .int .i64 0, .slice none 0 0, .slice none 0 0, .slice none 0 0], kind := 1, flds := [(0, 3), (1, 3), (2, 30), (3, 74), (4, 33)], elem := 0, len := 0 }
theorem tok76 : TIOk Tryd.prog 76 ti76 := TIOk.of (z := .agg #[.int .i64 0, .int .i64 0, .slice none 0 0, .slice none 0 0, .slice none 0 0]) (by kernel_rfl) Tryd.underlying76 rfl rfl ⟨_, rfl, rfl⟩ rfl rfl rfl
def ti77 : TI := { size := 1, bytes := 8, agg := false, zero := [.nilFunc], kind := 0, flds := [], elem := 0, len := 0 }
theorem tok77 : TIOk Tryd.prog 77 ti77 := TIOk.of (z := .nilFunc) (by kernel_rfl) Tryd.underlying77 rfl rfl trivial rfl rfl rfl
def ti78 : TI := { size := 1, bytes := 8, agg := false, zero := [.pointer none], kind := 6, flds := [], elem := 81, len := 0 }
theorem tok78 : TIOk Tryd.prog 78 ti78 := TIOk.of (z := .pointer none) (by kernel_rfl) Tryd.underlying78 rfl rfl rfl rfl rfl rfl
def ti79 : TI := { size := 1, bytes := 8, agg := false, zero := [.map none], kind := 4, flds := [], elem := 3, len := 0 }
theorem tok79 : TIOk Tryd.prog 79 ti79 := TIOk.of (z := .map none) (by kernel_rfl) Tryd.underlying79 rfl rfl ⟨_, rfl⟩ rfl rfl rfl
def ti80 : TI := { size := 3, bytes := 24, agg := true, zero := [.map none, .map none, .map none], kind := 1, flds := [(0, 79), (1, 79), (2, 79)], elem := 0, len := 0 }
theorem tok80 : TIOk Tryd.prog 80 ti80 := TIOk.of (z := .agg #[.map none, .map none, .map none]) (by kernel_rfl) Tryd.underlying80 rfl rfl ⟨_, rfl, rfl⟩ rfl rfl rfl
def ti81 : TI := { size := 3, bytes := 24, agg := true, zero := [.map none, .map none, .map none], kind := 1, flds := [(0, 79), (1, 79), (2, 79)], elem := 0, len := 0 }
theorem tok81 : TIOk Tryd.prog 81 ti81 := TIOk.of (z := .agg #[.map none, .map none, .map none]) (by kernel_rfl) Tryd.underlying81 rfl rfl ⟨_, rfl, rfl⟩ rfl rfl rfl
def ti82 : TI := { size := 1, bytes := 8, agg := false, zero := [.nilFunc], kind := 0, flds := [], elem := 0, len := 0 }
theorem tok82 : TIOk Tryd.prog 82 ti82 := TIOk.of (z := .nilFunc) (by kernel_rfl) Tryd.underlying82 rfl rfl trivial rfl rfl rfl
def ti83 : TI := { size := 1, bytes := 8, agg := false, zero := [.nilFunc], kind := 0, flds := [], elem := 0, len := 0 }
theorem tok83 : TIOk Tryd.prog 83 ti83 := TIOk.of (z := .nilFunc) (by kernel_rfl) Tryd.underlying83 rfl rfl trivial rfl rfl rfl
def ti84 : TI := { size := 1, bytes := 8, agg := false, zero := [.nilFunc], kind := 0, flds := [], elem := 0, len := 0 }
theorem tok84 : TIOk Tryd.prog 84 ti84 := TIOk.of (z := .nilFunc) (by kernel_rfl) Tryd.underlying84 rfl rfl trivial rfl rfl rfl
def ti85 : TI := { size := 1, bytes := 8, agg := false, zero := [.nilFunc], kind := 0, flds := [], elem := 0, len := 0 }
theorem tok85 : TIOk Tryd.prog 85 ti85 := TIOk.of (z := .nilFunc) (by kernel_rfl) Tryd.underlying85 rfl rfl trivial rfl rfl rfl
def ti86 : TI := { size := 1, bytes := 8, agg := false, zero := [.nilFunc], kind := 0, flds := [], elem := 0, len := 0 }
theorem tok86 : TIOk Tryd.prog 86 ti86 := TIOk.of (z := .nilFunc) (by kernel_rfl) Tryd.underlying86 rfl rfl trivial rfl rfl rfl
def ti87 : TI := { size := 1, bytes := 8, agg := false, zero := [.nilFunc], kind := 0, flds := [], elem := 0, len := 0 }
theorem tok87 : TIOk Tryd.prog 87 ti87 := TIOk.of (z := .nilFunc) (by kernel_rfl) Tryd.underlying87 rfl rfl trivial rfl rfl rfl
def ti88 : TI := { size := 1, bytes := 8, agg := false, zero := [.nilFunc], kind := 0, flds := [], elem := 0, len := 0 }
theorem tok88 : TIOk Tryd.prog 88 ti88 := TIOk.of (z := .nilFunc) (by kernel_rfl) Tryd.underlying88 rfl rfl trivial rfl rfl rfl
def ti89 : TI := { size := 1, bytes := 8, agg := false, zero := [.nilFunc], kind := 0, flds := [], elem := 0, len := 0 }
theorem tok89 : TIOk Tryd.prog 89 ti89 := TIOk.of (z := .nilFunc) (by kernel_rfl) Tryd.underlying89 rfl rfl trivial rfl rfl rfl
def ti90 : TI := { size := 1, bytes := 24, agg := false, zero := [.slice none 0 0], kind := 2, flds := [], elem := 58, len := 0 }
theorem tok90 : TIOk Tryd.prog 90 ti90 := TIOk.of (z := .slice none 0 0) (by kernel_rfl) Tryd.underlying90 rfl rfl rfl rfl rfl rfl
def ti91 : TI := { size := 6, bytes := 112, agg := true, zero := [.int .i64 0, .int .i64 0, .slice none 0 0, .slice none 0 0, .slice none 0 0, .slice none 0 0], kind := 1, flds := [(0, 35), (5, 90)], elem := 0, len := 0 }
theorem tok91 : TIOk Tryd.prog 91 ti91 := TIOk.of (z := .agg #[.int .i64 0, .int .i64 0, .slice none 0 0, .slice none 0 0, .slice none 0 0, .slice none 0 0]) (by kernel_rfl) Tryd.underlying91 rfl rfl ⟨_, rfl, rfl⟩ rfl rfl rfl
def ti92 : TI := { size := 6, bytes := 112, agg := true, zero := [.int .i64 0, .int .i64 0, .slice none 0 0, .slice none 0 0, .slice none 0 0, .slice none 0 0], kind := 1, flds := [(0, 35), (5, 90)], elem := 0, len := 0 }
theorem tok92 : TIOk Tryd.prog 92 ti92 := TIOk.of (z := .agg #[.int .i64 0, .int .i64 0, .slice none 0 0, .slice none 0 0, .slice none 0 0, .slice none 0 0]) (by kernel_rfl) Tryd.underlying92 rfl rfl ⟨_, rfl, rfl⟩ rfl rfl rfl
def ti93 : TI := { size := 1, bytes := 8, agg := false, zero := [.nilFunc], kind := 0, flds := [], elem := 0, len := 0 }
theorem tok93 : TIOk Tryd.prog 93 ti93 := TIOk.of (z := .nilFunc) (by kernel_rfl) Tryd.underlying93 rfl rfl trivial rfl rfl rfl
def ti94 : TI := { size := 1, bytes := 8, agg := false, zero := [.nilFunc], kind := 0, flds := [], elem := 0, len := 0 }
theorem tok94 : TIOk Tryd.prog 94 ti94 := TIOk.of (z := .nilFunc) (by kernel_rfl) Tryd.underlying94 rfl rfl trivial rfl rfl rfl
def ti95 : TI := { size := 1, bytes := 8, agg := false, zero := [.pointer none], kind := 6, flds := [], elem := 22, len := 0 }
theorem tok95 : TIOk Tryd.prog 95 ti95 := TIOk.of (z := .pointer none) (by kernel_rfl) Tryd.underlying95 rfl rfl rfl rfl rfl rfl
def ti96 : TI := { size := 1, bytes := 8, agg := false, zero := [.nilFunc], kind := 0, flds := [], elem := 0, len := 0 }
theorem tok96 : TIOk Tryd.prog 96 ti96 := TIOk.of (z := .nilFunc) (by kernel_rfl) Tryd.underlying96 rfl rfl trivial rfl rfl rfl
def ti97 : TI := { size := 1, bytes := 8, agg := false, zero := [.nilFunc], kind := 0, flds := [], elem := 0, len := 0 }
theorem tok97 : TIOk Tryd.prog 97 ti97 := TIOk.of (z := .nilFunc) (by kernel_rfl) Tryd.underlying97 rfl rfl trivial rfl rfl rfl
def ti98 : TI := { size := 1, bytes := 8, agg := false, zero := [.nilFunc], kind := 0, flds := [], elem := 0, len := 0 }
theorem tok98 : TIOk Tryd.prog 98 ti98 := TIOk.of (z := .nilFunc) (by kernel_rfl) Tryd.underlying98 rfl rfl trivial rfl rfl rfl
def ti99 : TI := { size := 1, bytes := 8, agg := false, zero := [.nilFunc], kind := 0, flds := [], elem := 0, len := 0 }
theorem tok99 : TIOk Tryd.prog 99 ti99 := TIOk.of (z := .nilFunc) (by kernel_rfl) Tryd.underlying99 rfl rfl trivial rfl rfl rfl
def ti100 : TI := { size := 1, bytes := 8, agg := false, zero := [.nilFunc], kind := 0, flds := [], elem := 0, len := 0 }
theorem tok100 : TIOk Tryd.prog 100 ti100 := TIOk.of (z := .nilFunc) (by kernel_rfl) Tryd.underlying100 rfl rfl trivial rfl rfl rfl
def ti101 : TI := { size := 1, bytes := 8, agg := false, zero := [.map none], kind := 4, flds := [], elem := 122, len := 0 }
theorem tok101 : TIOk Tryd.prog 101 ti101 := TIOk.of (z := .map none) (by kernel_rfl) Tryd.underlying101 rfl rfl ⟨_, rfl⟩ rfl rfl rfl
def ti102 : TI := { size := 1, bytes := 8, agg := false, zero := [.nilFunc], kind := 0, flds := [], elem := 0, len := 0 }
theorem tok102 : TIOk Tryd.prog 102 ti102 := TIOk.of (z := .nilFunc) (by kernel_rfl) Tryd.underlying102 rfl rfl trivial rfl rfl rfl
def ti103 : TI := { size := 1, bytes := 8, agg := false, zero := [.nilFunc], kind := 0, flds := [], elem := 0, len := 0 }
theorem tok103 : TIOk Tryd.prog 103 ti103 := TIOk.of (z := .nilFunc) (by kernel_rfl) Tryd.underlying103 rfl rfl trivial rfl rfl rfl
def ti104 : TI := { size := 1, bytes := 8, agg := false, zero := [.int .i64 0], kind := 0, flds := [], elem := 0, len := 0 }
theorem tok104 : TIOk Tryd.prog 104 ti104 := TIOk.of (z := .int .i64 0) (by kernel_rfl) Tryd.underlying104 rfl rfl trivial rfl rfl rfl
def ti106 : TI := { size := 1, bytes := 8, agg := false, zero := [.nilFunc], kind := 0, flds := [], elem := 0, len := 0 }
theorem tok106 : TIOk Tryd.prog 106 ti106 := TIOk.of (z := .nilFunc) (by kernel_rfl) Tryd.underlying106 rfl rfl trivial rfl rfl rfl
def ti107 : TI := { size := 1, bytes := 8, agg := false, zero := [.nilFunc], kind := 0, flds := [], elem := 0, len := 0 }
theorem tok107 : TIOk Tryd.prog 107 ti107 := TIOk.of (z := .nilFunc) (by kernel_rfl) Tryd.underlying107 rfl rfl trivial rfl rfl rfl
def ti108 : TI := { size := 1, bytes := 8, agg := false, zero := [.nilFunc], kind := 0, flds := [], elem := 0, len := 0 }
theorem tok108 : TIOk Tryd.prog 108 ti108 := TIOk.of (z := .nilFunc) (by kernel_rfl) Tryd.underlying108 rfl rfl trivial rfl rfl rfl
def ti109 : TI := { size := 1, bytes := 8, agg := false, zero := [.nilFunc], kind := 0, flds := [], elem := 0, len := 0 }
theorem tok109 : TIOk Tryd.prog 109 ti109 := TIOk.of (z := .nilFunc) (by kernel_rfl) Tryd.underlying109 rfl rfl trivial rfl rfl rfl
def ti111 : TI := { size := 1, bytes := 8, agg := false, zero := [.nilFunc], kind := 0, flds := [], elem := 0, len := 0 }
theorem tok111 : TIOk Tryd.prog 111 ti111 := TIOk.of (z := .nilFunc) (by kernel_rfl) Tryd.underlying111 rfl rfl trivial rfl rfl rfl
def ti112 : TI := { size := 1, bytes := 8, agg := false, zero := [.nilFunc], kind := 0, flds := [], elem := 0, len := 0 }
theorem tok112 : TIOk Tryd.prog 112 ti112 := TIOk.of (z := .nilFunc) (by kernel_rfl) Tryd.underlying112 rfl rfl trivial rfl rfl rfl
def ti113 : TI := { size := 1, bytes := 4, agg := false, zero := [.int .u32 0], kind := 0, flds := [], elem := 0, len := 0 }
theorem tok113 : TIOk Tryd.prog 113 ti113 := TIOk.of (z := .int .u32 0) (by kernel_rfl) Tryd.underlying113 rfl rfl trivial rfl rfl rfl
def ti114 : TI := { size := 1, bytes := 8, agg := false, zero := [.nilFunc], kind := 0, flds := [], elem := 0, len := 0 }
theorem tok114 : TIOk Tryd.prog 114 ti114 := TIOk.of (z := .nilFunc) (by kernel_rfl) Tryd.underlying114 rfl rfl trivial rfl rfl rfl
def ti115 : TI := { size := 1, bytes := 8, agg := false, zero := [.int .u64 0], kind := 0, flds := [], elem := 0, len := 0 }
theorem tok115 : TIOk Tryd.prog 115 ti115 := TIOk.of (z := .int .u64 0) (by kernel_rfl) Tryd.underlying115 rfl rfl trivial rfl rfl rfl
def ti116 : TI := { size := 1, bytes := 8, agg := false, zero := [.nilFunc], kind := 0, flds := [], elem := 0, len := 0 }
theorem tok116 : TIOk Tryd.prog 116 ti116 := TIOk.of (z := .nilFunc) (by kernel_rfl) Tryd.underlying116 rfl rfl trivial rfl rfl rfl
def ti117 : TI := { size := 1, bytes := 8, agg := false, zero := [.nilFunc], kind := 0, flds := [], elem := 0, len := 0 }
theorem tok117 : TIOk Tryd.prog 117 ti117 := TIOk.of (z := .nilFunc) (by kernel_rfl) Tryd.underlying117 rfl rfl trivial rfl rfl rfl
def ti118 : TI := { size := 1, bytes := 8, agg := false, zero := [.nilFunc], kind := 0, flds := [], elem := 0, len := 0 }
theorem tok118 : TIOk Tryd.prog 118 ti118 := TIOk.of (z := .nilFunc) (by kernel_rfl) Tryd.underlying118 rfl rfl trivial rfl rfl rfl
def ti119 : TI := { size := 1, bytes := 8, agg := false, zero := [.nilFunc], kind := 0, flds := [], elem := 0, len := 0 }
theorem tok119 : TIOk Tryd.prog 119 ti119 := TIOk.of (z := .nilFunc) (by kernel_rfl) Tryd.underlying119 rfl rfl trivial rfl rfl rfl
def ti120 : TI := { size := 1, bytes := 8, agg := false, zero := [.nilFunc], kind := 0, flds := [], elem := 0, len := 0 }
theorem tok120 : TIOk Tryd.prog 120 ti120 := TIOk.of (z := .nilFunc) (by kernel_rfl) Tryd.underlying120 rfl rfl trivial rfl rfl rfl
def ti121 : TI := { size := 1, bytes := 8, agg := false, zero := [.nilFunc], kind := 0, flds := [], elem := 0, len := 0 }
theorem tok121 : TIOk Tryd.prog 121 ti121 := TIOk.of (z := .nilFunc) (by kernel_rfl) Tryd.underlying121 rfl rfl trivial rfl rfl rfl
def ti124 : TI := { size := 1, bytes := 8, agg := false, zero := [.nilFunc], kind := 0, flds := [], elem := 0, len := 0 }
theorem tok124 : TIOk Tryd.prog 124 ti124 := TIOk.of (z := .nilFunc) (by kernel_rfl) Tryd.underlying124 rfl rfl trivial rfl rfl rfl
def ti125 : TI := { size := 1, bytes := 8, agg := false, zero := [.int .u64 0], kind := 0, flds := [], elem := 0, len := 0 }
theorem tok125 : TIOk Tryd.prog 125 ti125 := TIOk.of (z := .int .u64 0) (by kernel_rfl) Tryd.underlying125 rfl rfl trivial rfl rfl rfl
def ti126 : TI := { size := 1, bytes := 8, agg := false, zero := [.nilFunc], kind := 0, flds := [], elem := 0, len := 0 }
theorem tok126 : TIOk Tryd.prog 126 ti126 := TIOk.of (z := .nilFunc) (by kernel_rfl) Tryd.underlying126 rfl rfl trivial rfl rfl rfl
def ti127 : TI := { size := 1, bytes := 8, agg := false, zero := [.nilFunc], kind := 0, flds := [], elem := 0, len := 0 }
theorem tok127 : TIOk Tryd.prog 127 ti127 := TIOk.of (z := .nilFunc) (by kernel_rfl) Tryd.underlying127 rfl rfl trivial rfl rfl rfl
def ti128 : TI := { size := 1, bytes := 8, agg := false, zero := [.nilFunc], kind := 0, flds := [], elem := 0, len := 0 }
theorem tok128 : TIOk Tryd.prog 128 ti128 := TIOk.of (z := .nilFunc) (by kernel_rfl) Tryd.underlying128 rfl rfl trivial rfl rfl rfl
def ti129 : TI := { size := 1, bytes := 8, agg := false, zero := [.pointer none], kind := 6, flds := [], elem := 3, len := 0 }
theorem tok129 : TIOk Tryd.prog 129 ti129 := TIOk.of (z := .pointer none) (by kernel_rfl) Tryd.underlying129 rfl rfl rfl rfl rfl rfl
def ti130 : TI := { size := 1, bytes := 8, agg := false, zero := [.nilFunc], kind := 0, flds := [], elem := 0, len := 0 }
theorem tok130 : TIOk Tryd.prog 130 ti130 := TIOk.of (z := .nilFunc) (by kernel_rfl) Tryd.underlying130 rfl rfl trivial rfl rfl rfl
def ti131 : TI := { size := 1, bytes := 8, agg := false, zero := [.nilFunc], kind := 0, flds := [], elem := 0, len := 0 }
theorem tok131 : TIOk Tryd.prog 131 ti131 := TIOk.of (z := .nilFunc) (by kernel_rfl) Tryd.underlying131 rfl rfl trivial rfl rfl rfl
def ti132 : TI := { size := 1, bytes := 8, agg := false, zero := [.nilFunc], kind := 0, flds := [], elem := 0, len := 0 }
theorem tok132 : TIOk Tryd.prog 132 ti132 := TIOk.of (z := .nilFunc) (by kernel_rfl) Tryd.underlying132 rfl rfl trivial rfl rfl rfl
def ti133 : TI := { size := 1, bytes := 8, agg := false, zero := [.nilFunc], kind := 0, flds := [], elem := 0, len := 0 }
theorem tok133 : TIOk Tryd.prog 133 ti133 := TIOk.of (z := .nilFunc) (by kernel_rfl) Tryd.underlying133 rfl rfl trivial rfl rfl rfl
def ti134 : TI := { size := 1, bytes := 8, agg := false, zero := [.nilFunc], kind := 0, flds := [], elem := 0, len := 0 }
theorem tok134 : TIOk Tryd.prog 134 ti134 := TIOk.of (z := .nilFunc) (by kernel_rfl) Tryd.underlying134 rfl rfl trivial rfl rfl rfl
def ti135 : TI := { size := 1, bytes := 8, agg := false, zero := [.nilFunc], kind := 0, flds := [], elem := 0, len := 0 }
theorem tok135 : TIOk Tryd.prog 135 ti135 := TIOk.of (z := .nilFunc) (by kernel_rfl) Tryd.underlying135 rfl rfl trivial rfl rfl rfl
def ti136 : TI := { size := 1, bytes := 8, agg := false, zero := [.nilFunc], kind := 0, flds := [], elem := 0, len := 0 }
theorem tok136 : TIOk Tryd.prog 136 ti136 := TIOk.of (z := .nilFunc) (by kernel_rfl) Tryd.underlying136 rfl rfl trivial rfl rfl rfl
def ti137 : TI := { size := 12, bytes := 96, agg := true, zero := [.int .i64 0, .int .i64 0, .int .i64 0, .int .i64 0, .int .i64 0, .int .i64 0, .int .i64 0, .int .i64 0, .int .i64 0, .int .i64 0, .int .i64 0, .int .i64 0], kind := 3, flds := [], elem := 3, len := 12 }
theorem tok137 : TIOk Tryd.prog 137 ti137 := TIOk.of (z := .agg #[.int .i64 0, .int .i64 0, .int .i64 0, .int .i64 0, .int .i64 0, .int .i64 0, .int .i64 0, .int .i64 0, .int .i64 0, .int .i64 0, .int .i64 0, .int .i64 0]) (by kernel_rfl) Tryd.underlying137 rfl rfl rfl rfl rfl rfl
def ti138 : TI := { size := 1, bytes := 8, agg := false, zero := [.pointer none], kind := 6, flds := [], elem := 125, len := 0 }
theorem tok138 : TIOk Tryd.prog 138 ti138 := TIOk.of (z := .pointer none) (by kernel_rfl) Tryd.underlying138 rfl rfl rfl rfl rfl rfl
def ti140 : TI := { size := 1, bytes := 8, agg := false, zero := [.nilFunc], kind := 0, flds := [], elem := 0, len := 0 }
theorem tok140 : TIOk Tryd.prog 140 ti140 := TIOk.of (z := .nilFunc) (by kernel_rfl) Tryd.underlying140 rfl rfl trivial rfl rfl rfl
def ti141 : TI := { size := 1, bytes := 8, agg := false, zero := [.nilFunc], kind := 0, flds := [], elem := 0, len := 0 }
theorem tok141 : TIOk Tryd.prog 141 ti141 := TIOk.of (z := .nilFunc) (by kernel_rfl) Tryd.underlying141 rfl rfl trivial rfl rfl rfl
def ti142 : TI := { size := 1, bytes := 8, agg := false, zero := [.nilFunc], kind := 0, flds := [], elem := 0, len := 0 }
theorem tok142 : TIOk Tryd.prog 142 ti142 := TIOk.of (z := .nilFunc) (by kernel_rfl) Tryd.underlying142 rfl rfl trivial rfl rfl rfl
def ti143 : TI := { size := 1, bytes := 8, agg := false, zero := [.nilFunc], kind := 0, flds := [], elem := 0, len := 0 }
theorem tok143 : TIOk Tryd.prog 143 ti143 := TIOk.of (z := .nilFunc) (by kernel_rfl) Tryd.underlying143 rfl rfl trivial rfl rfl rfl
def ti144 : TI := { size := 1, bytes := 8, agg := false, zero := [.nilFunc], kind := 0, flds := [], elem := 0, len := 0 }
theorem tok144 : TIOk Tryd.prog 144 ti144 := TIOk.of (z := .nilFunc) (by kernel_rfl) Tryd.underlying144 rfl rfl trivial rfl rfl rfl
def ti145 : TI := { size := 1, bytes := 8, agg := false, zero := [.nilFunc], kind := 0, flds := [], elem := 0, len := 0 }
theorem tok145 : TIOk Tryd.prog 145 ti145 := TIOk.of (z := .nilFunc) (by kernel_rfl) Tryd.underlying145 rfl rfl trivial rfl rfl rfl
def ti146 : TI := { size := 1, bytes := 8, agg := false, zero := [.nilFunc], kind := 0, flds := [], elem := 0, len := 0 }
theorem tok146 : TIOk Tryd.prog 146 ti146 := TIOk.of (z := .nilFunc) (by kernel_rfl) Tryd.underlying146 rfl rfl trivial rfl rfl rfl
def ti147 : TI := { size := 1, bytes := 8, agg := false, zero := [.nilFunc], kind := 0, flds := [], elem := 0, len := 0 }
theorem tok147 : TIOk Tryd.prog 147 ti147 := TIOk.of (z := .nilFunc) (by kernel_rfl) Tryd.underlying147 rfl rfl trivial rfl rfl rfl
def ti148 : TI := { size := 4, bytes := 40, agg := true, zero := [.pointer none, .pointer none, .pointer none, .string ⟨#[]⟩], kind := 1, flds := [(0, 17), (1, 17), (2, 17), (3, 9)], elem := 0, len := 0 }
theorem tok148 : TIOk Tryd.prog 148 ti148 := TIOk.of (z := .agg #[.pointer none, .pointer none, .pointer none, .string ⟨#[]⟩]) (by kernel_rfl) Tryd.underlying148 rfl rfl ⟨_, rfl, rfl⟩ rfl rfl rfl
def ti149 : TI := { size := 4, bytes := 40, agg := true, zero := [.pointer none, .pointer none, .pointer none, .string ⟨#[]⟩], kind := 1, flds := [(0, 17), (1, 17), (2, 17), (3, 9)], elem := 0, len := 0 }
theorem tok149 : TIOk Tryd.prog 149 ti149 := TIOk.of (z := .agg #[.pointer none, .pointer none, .pointer none, .string ⟨#[]⟩]) (by kernel_rfl) Tryd.underlying149 rfl rfl ⟨_, rfl, rfl⟩ rfl rfl rfl
def ti153 : TI := { size := 1, bytes := 8, agg := false, zero := [.nilFunc], kind := 0, flds := [], elem := 0, len := 0 }
theorem tok153 : TIOk Tryd.prog 153 ti153 := TIOk.of (z := .nilFunc) (by kernel_rfl) Tryd.underlying153 rfl rfl trivial rfl rfl rfl
def ti154 : TI := { size := 1, bytes := 1, agg := false, zero := [.int .u8 0], kind := 0, flds := [], elem := 0, len := 0 }
theorem tok154 : TIOk Tryd.prog 154 ti154 := TIOk.of (z := .int .u8 0) (by kernel_rfl) Tryd.underlying154 rfl rfl trivial rfl rfl rfl
def ti155 : TI := { size := 1, bytes := 1, agg := false, zero := [.int .u8 0], kind := 0, flds := [], elem := 0, len := 0 }
theorem tok155 : TIOk Tryd.prog 155 ti155 := TIOk.of (z := .int .u8 0) (by kernel_rfl) Tryd.underlying155 rfl rfl trivial rfl rfl rfl
def ti156 : TI := { size := 1, bytes := 8, agg := false, zero := [.nilFunc], kind := 0, flds := [], elem := 0, len := 0 }
theorem tok156 : TIOk Tryd.prog 156 ti156 := TIOk.of (z := .nilFunc) (by kernel_rfl) Tryd.underlying156 rfl rfl trivial rfl rfl rfl
def ti157 : TI := { size := 1, bytes := 8, agg := false, zero := [.pointer none], kind := 6, flds := [], elem := 5, len := 0 }
theorem tok157 : TIOk Tryd.prog 157 ti157 := TIOk.of (z := .pointer none) (by kernel_rfl) Tryd.underlying157 rfl rfl rfl rfl rfl rfl
def ti158 : TI := { size := 1, bytes := 4, agg := false, zero := [.int .i32 0], kind := 0, flds := [], elem := 0, len := 0 }
theorem tok158 : TIOk Tryd.prog 158 ti158 := TIOk.of (z := .int .i32 0) (by kernel_rfl) Tryd.underlying158 rfl rfl trivial rfl rfl rfl
def ti159 : TI := { size := 1, bytes := 4, agg := false, zero := [.int .i32 0], kind := 0, flds := [], elem := 0, len := 0 }
theorem tok159 : TIOk Tryd.prog 159 ti159 := TIOk.of (z := .int .i32 0) (by kernel_rfl) Tryd.underlying159 rfl rfl trivial rfl rfl rfl
def ti160 : TI := { size := 11, bytes := 48, agg := true, zero := [.int .u64 0, .int .u64 0, .int .u32 0, .int .u8 0, .int .u8 0, .int .u8 0, .int .u8 0, .nilFunc, .pointer none, .int .i32 0, .int .i32 0], kind := 1, flds := [(0, 12), (1, 12), (2, 113), (3, 154), (4, 5), (5, 5), (6, 155), (7, 156), (8, 157), (9, 158), (10, 159)], elem := 0, len := 0 }
theorem tok160 : TIOk Tryd.prog 160 ti160 := TIOk.of (z := .agg #[.int .u64 0, .int .u64 0, .int .u32 0, .int .u8 0, .int .u8 0, .int .u8 0, .int .u8 0, .nilFunc, .pointer none, .int .i32 0, .int .i32 0]) (by kernel_rfl) Tryd.underlying160 rfl rfl ⟨_, rfl, rfl⟩ rfl rfl rfl
def ti161 : TI := { size := 11, bytes := 48, agg := true, zero := [.int .u64 0, .int .u64 0, .int .u32 0, .int .u8 0, .int .u8 0, .int .u8 0, .int .u8 0, .nilFunc, .pointer none, .int .i32 0, .int .i32 0], kind := 1, flds := [(0, 12), (1, 12), (2, 113), (3, 154), (4, 5), (5, 5), (6, 155), (7, 156), (8, 157), (9, 158), (10, 159)], elem := 0, len := 0 }
theorem tok161 : TIOk Tryd.prog 161 ti161 := TIOk.of (z := .agg #[.int .u64 0, .int .u64 0, .int .u32 0, .int .u8 0, .int .u8 0, .int .u8 0, .int .u8 0, .nilFunc, .pointer none, .int .i32 0, .int .i32 0]) (by kernel_rfl) Tryd.underlying161 rfl rfl ⟨_, rfl, rfl⟩ rfl rfl rfl
def tab : Tab := [(1, ti1), (2, ti2), (3, ti3), (4, ti4), (5, ti5), (6, ti6), (7, ti7), (8, ti8), (9, ti9), (10, ti10), (11, ti11), (12, ti12), (13, ti13), (14, ti14), (15, ti15), (16, ti16), (17, ti17), (18, ti18), (19, ti19), (21, ti21), (22, ti22), (23, ti23), (25, ti25), (26, ti26), (27, ti27), (28, ti28), (29, ti29), (30, ti30), (32, ti32), (33, ti33), (34, ti34), (35, ti35), (36, ti36), (37, ti37), (38, ti38), (39, ti39), (40, ti40), (41, ti41), (42, ti42), (44, ti44), (45, ti45), (46, ti46), (48, ti48), (49, ti49), (50, ti50), (51, ti51), (52, ti52), (53, ti53), (54, ti54), (55, ti55), (56, ti56), (57, ti57), (58, ti58), (59, ti59), (60, ti60), (61, ti61), (62, ti62), (63, ti63), (64, ti64), (65, ti65), (66, ti66), (67, ti67), (68, ti68), (69, ti69), (70, ti70), (71, ti71), (72, ti72), (73, ti73), (74, ti74), (75, ti75), (76, ti76), (77, ti77), (78, ti78), (79, ti79), (80, ti80), (81, ti81), (82, ti82), (83, ti83), (84, ti84), (85, ti85), (86, ti86), (87, ti87), (88, ti88), (89, ti89), (90, ti90), (91, ti91), (92, ti92), (93, ti93), (94, ti94), (95, ti95), (96, ti96), (97, ti97), (98, ti98), (99, ti99), (100, ti100), (101, ti101), (102, ti102), (103, ti103), (104, ti104), (106, ti106), (107, ti107), (108, ti108), (109, ti109), (111, ti111), (112, ti112), (113, ti113), (114, ti114), (115, ti115), (116, ti116), (117, ti117), (118, ti118), (119, ti119), (120, ti120), (121, ti121), (124, ti124), (125, ti125), (126, ti126), (127, ti127), (128, ti128), (129, ti129), (130, ti130), (131, ti131), (132, ti132), (133, ti133), (134, ti134), (135, ti135), (136, ti136), (137, ti137), (138, ti138), (140, ti140), (141, ti141), (142, ti142), (143, ti143), (144, ti144), (145, ti145), (146, ti146), (147, ti147), (148, ti148), (149, ti149), (153, ti153), (154, ti154), (155, ti155), (156, ti156), (157, ti157), (158, ti158), (159, ti159), (160, ti160), (161, ti161)]
theorem tabOk : TabOk Tryd.prog tab := TabOk.of (by
  simp only [tab, List.forall_mem_cons]
  exact ⟨tok1, tok2, tok3, tok4, tok5, tok6, tok7, tok8, tok9, tok10, tok11, tok12, tok13, tok14, tok15, tok16, tok17, tok18, tok19, tok21, tok22, tok23, tok25, tok26, tok27, tok28, tok29, tok30, tok32, tok33, tok34, tok35, tok36, tok37, tok38, tok39, tok40, tok41, tok42, tok44, tok45, tok46, tok48, tok49, tok50, tok51, tok52, tok53, tok54, tok55, tok56, tok57, tok58, tok59, tok60, tok61, tok62, tok63, tok64, tok65, tok66, tok67, tok68, tok69, tok70, tok71, tok72, tok73, tok74, tok75, tok76, tok77, tok78, tok79, tok80, tok81, tok82, tok83, tok84, tok85, tok86, tok87, tok88, tok89, tok90, tok91, tok92, tok93, tok94, tok95, tok96, tok97, tok98, tok99, tok100, tok101, tok102, tok103, tok104, tok106, tok107, tok108, tok109, tok111, tok112, tok113, tok114, tok115, tok116, tok117, tok118, tok119, tok120, tok121, tok124, tok125, tok126, tok127, tok128, tok129, tok130, tok131, tok132, tok133, tok134, tok135, tok136, tok137, tok138, tok140, tok141, tok142, tok143, tok144, tok145, tok146, tok147, tok148, tok149, tok153, tok154, tok155, tok156, tok157, tok158, tok159, tok160, tok161, fun _ h => by cases h⟩)
end Go.Proofs.YtnonkoeknpmcjaaDoor
/- The abstract layer, part Ab: arrays that are written in place. No condition. -/
namespace Go.Abs
set_option linter.unusedVariables false
set_option linter.unusedSimpArgs false
section
variable {E : Env} {o : Oper} {fr : Fr} {σ : St}
theorem RV.replicate {w : World} {C : Ctx} {c : AC} {v : Value} (h : R w C c v) : ∀ n : Nat, RV w C (List.replicate n c) (List.replicate n v)
  | 0 => by simp [RV]
  | n + 1 => ⟨v, List.replicate n v, by simp [List.replicate_succ], h, RV.replicate h n⟩
/-- A new array of cells, to be written in place. -/
theorem AStep.makeArr {t : TypeId} {ti tj : TI} {x y : Operand} {n : Nat} {z : Value} (hT : TabOk E.P E.T) (ho : o.op = .makeSlice t x y) (ht : Tab.get t E.T = some ti) (hk : Nat.beq ti.kind 2 = true) (hj : Tab.get ti.elem E.T = some tj) (hs : Nat.beq tj.size 1 = true) (hz : tj.zero = [z])
    (hx : aEval E.Γ fr x = some (.one (.lit (.int .i64 n)))) (hy : aEval E.Γ fr y = some (.one (.lit (.int .i64 n)))) (hb : tj.bytes * n ≤ 281474976710656) (hn : n ≤ 281474976710656) :
    AStep E o fr σ (.one (.arr (.l σ.n) 1 0 n n)) (σ.push (.cells (List.replicate n (.lit z)))) := by
  intro F w C tmps hi hf next Q hk2
  have e1 := aEval_ok (a := ⟨tmps, []⟩) hi hf hx
  have e2 := aEval_ok (a := ⟨tmps, []⟩) hi hf hy
  simp only [RF, R] at e1 e2
  have hs' : tj.size = 1 := Nat.eq_of_beq_eq_true hs
  have hsl := (hT t ti ht).slice (Nat.eq_of_beq_eq_true hk)
  have htj := hT _ _ hj
  obtain ⟨i, d, z', h1, h2, h3, h4, h5, h6, h7, h8⟩ := htj.ex
  have hone : z.oneCell' = true := by have := htj.one; rw [hz] at this; simpa using this
  have hbi : (i.bytes : Int) * (n : Int) ≤ 281474976710656 := by
    rw [h4]
    have h : ((tj.bytes * n : Nat) : Int) ≤ 281474976710656 := by omega
    rwa [Int.natCast_mul] at h
  have hr := run_make (P := E.P) w t ti.elem i z' hsl h1 h5 .i64 .i64 n n (by omega) (Int.le_refl _) hbi (by omega)
  have hcells : madeCells z'.cells ((n : Int).toNat * i.size) = (List.replicate n z).toArray := by
    rw [h3, hs']
    have : z'.cells = #[z] := by apply Array.ext'; rw [h6, hz]
    rw [this]
    apply Array.ext'
    simp [madeCells, Nat.mod_one]
    rw [List.map_const']; simp
  rw [hcells] at hr
  obtain ⟨C', he, hno, hnp, hin, hok, hblk⟩ := hi.newObj (cs := List.replicate n (.lit z)) (xs := List.replicate n z) (RV.replicate (by simp only [R]; exact ⟨trivial, hone⟩) n) ti.elem
  have hrun : (execOp (Act.eval ⟨tmps, []⟩) o).run E.P w = .ok (.value (.slice (some ⟨w.heap.size, 0, none⟩) n n)) (w.alloc (.cells (List.replicate n z).toArray ti.elem)) := by
    unfold execOp
    simp only [ho, e1.1, e2.1, Sem.run_bind, hr, Result.andThen_ok]
    simp
  unfold Oper.wp
  rw [hrun, Oper.upon_value]
  exact hk2 _ _ C' ⟨Stp.alloc hi.base _ _, he, Nat.le_of_eq hno.symm, hnp⟩ hin (by simp only [RF, R]; exact ⟨hok, by rw [hblk, Nat.zero_mul], Nat.le_refl _⟩)
/-- The place of an element of an array that is written in place. -/
theorem AStep.idxOwn {t : TypeId} {ti tj : TI} {x i : Operand} {k : IntKind} {j : Id} {s off len cap : Nat} {n : Nat} (hT : TabOk E.P E.T) (ho : o.op = .indexAddr t x i) (ht : Tab.get t E.T = some ti) (hk : Nat.beq ti.kind 2 = true) (hj : Tab.get ti.elem E.T = some tj) (hs : Nat.beq tj.size s = true)
    (hx : aEval E.Γ fr x = some (.one (.arr j s off len cap))) (hi' : aEval E.Γ fr i = some (.one (.lit (.int k n)))) (hn : n < len) : AStep E o fr σ (.one (.ptr j (off * s + n * s))) σ := by
  refine AStep.quiet fun F w C tmps hi hf => ?_
  have h1 := aEval_ok (a := ⟨tmps, []⟩) hi hf hx
  have h2 := aEval_ok (a := ⟨tmps, []⟩) hi hf hi'
  have hsz := (hT _ _ hj).run_sizeOf w
  have hsl := (hT t ti ht).slice (Nat.eq_of_beq_eq_true hk)
  have hs' : tj.size = s := Nat.eq_of_beq_eq_true hs
  simp only [RF, R] at h1 h2
  obtain ⟨hok, hx1, hc⟩ := h1
  have hlt' : (n : Int) < len := by omega
  refine ⟨.pointer (some ((⟨C.blk j, off * s, none⟩ : Addr).add (n * s))), ?_, hok, ?_⟩
  · unfold execOp
    simp only [ho, hx1, h2.1]
    simp [Instr.indexAt, asIntOf, run_underlying hsl, hlt', hn, hsz, hs']
  · rw [Addr.add_none rfl]
/-- A cell of an own object. -/
theorem AStep.loadOwn {t : TypeId} {ti : TI} {x : Operand} {j : Id} {off : Nat} {cs : List AC} {c : AC} (hT : TabOk E.P E.T) (ho : o.op = .load t x) (ht : Tab.get t E.T = some ti) (ha : ti.agg = false) (hs : Nat.beq ti.size 1 = true) (hx : aEval E.Γ fr x = some (.one (.ptr j off)))
    (hg : σ.get j = some (.cells cs)) (hc : cs[off]? = some c) : AStep E o fr σ (.one c) σ := by
  refine AStep.ofOp hT ?_
  have hs' : ti.size = 1 := Nat.eq_of_beq_eq_true hs
  have hlt : off < cs.length := (List.getElem?_eq_some_iff.1 hc).1
  have e1 : (cs.drop off).take 1 = [c] := by
    rw [List.drop_eq_getElem_cons hlt]
    simp [(List.getElem?_eq_some_iff.1 hc).2]
  have hb : Nat.ble (off + 1) cs.length = true := Nat.ble_eq ▸ (show off + 1 ≤ cs.length by omega)
  simp only [ho, aOp, ht, ha, hs', hx, aLoad, hg, hb, cond_true, forceK_eq, e1, mkFV]
  rfl
/-- A cell of an own object, written. -/
theorem AStep.storeOwn {t : TypeId} {ti : TI} {x y : Operand} {j : Id} {off : Nat} {cs : List AC} {c : AC} (hT : TabOk E.P E.T) (ho : o.op = .store t x y) (ht : Tab.get t E.T = some ti) (hs : Nat.beq ti.size 1 = true) (hx : aEval E.Γ fr x = some (.one (.ptr j off)))
    (hy : aEval E.Γ fr y = some (.one c)) (hg : σ.get j = some (.cells cs)) (hlt : off < cs.length) : aOp E.T E.Γ o.op fr σ = some (none, σ.set j (.cells (cs.set off c))) := by
  have hs' : ti.size = 1 := Nat.eq_of_beq_eq_true hs
  have hb : Nat.ble (off + 1) cs.length = true := Nat.ble_eq ▸ (show off + 1 ≤ cs.length by omega)
  have ov : ∀ (xs : List AC) (n : Nat), n < xs.length → over xs n [c] = xs.set n c := by
    intro xs
    induction xs with
    | nil => intro n h; simp at h
    | cons a xs ih =>
      intro n h
      cases n with
      | zero => cases xs <;> simp [over]
      | succ n => simp only [over, List.set_cons_succ]; rw [ih n (by simpa using h)]
  simp only [ho, aOp, ht, hx, hy, aStore, hg, FV.cells, hs', hb, List.length_singleton, beq_self, cond_true, Bool.and_self, forceK_eq, ov cs off hlt]
end
theorem AOps.storeOwn {E : Env} {ops : Array Oper} {rest : List Oper} {o : Oper} {K : Cont} {fr : Fr} {σ : St} {t : TypeId} {ti : TI} {x y : Operand} {j : Id} {off : Nat} {cs : List AC} {c : AC} (hT : TabOk E.P E.T) (hgd : o.guard = none) (hd : o.dst = none) (ho : o.op = .store t x y) (ht : Tab.get t E.T = some ti) (hs : Nat.beq ti.size 1 = true) (hx : aEval E.Γ fr x = some (.one (.ptr j off)))
    (hy : aEval E.Γ fr y = some (.one c)) (hg : σ.get j = some (.cells cs)) (hlt : off < cs.length) (h : AOps E ops rest K fr (σ.set j (.cells (cs.set off c)))) : AOps E ops (o :: rest) K fr σ :=
  AOps.store hT hgd hd (AStep.storeOwn hT ho ht hs hx hy hg hlt) h
end Go.Abs
/- The abstract layer, part Ac: a growing array that is written in place. No condition. -/
namespace Go.Abs
set_option linter.unusedVariables false
set_option linter.unusedSimpArgs false
/-- The cells of a growing array: its elements, and room. -/
def vec (s : Nat) (es : List (List AC)) (cap : Nat) : List AC := es.flatten ++ List.replicate ((cap - es.length) * s) .any
/-- The base of an append whose array is an own object. -/
inductive BaseO (σ : St) : AC → Nat → List (List AC) → Nat → St → Prop
  | nil (s : Nat) : BaseO σ (.lit (.slice none 0 0)) s [] 0 σ
  | own (s cap : Nat) (es : List (List AC)) (i : Id) (h : σ.get i = some (.cells (vec s es cap))) (hl : ∀ x ∈ es, x.length = s) (hn : es.length ≤ cap) : BaseO σ (.arr i s 0 es.length cap) s es cap (σ.set i .dead)
theorem zeroCells_one {z : Array Value} (h : z.toList.all Value.oneCell' = true) (hp : z.size ≠ 0) (n : Nat) : ∀ x ∈ (Builtin.zeroCells z n).toList, x.oneCell' = true := by
  intro x hx
  simp only [Builtin.zeroCells, Array.toList_map, List.mem_map] at hx
  obtain ⟨i, _, rfl⟩ := hx
  have hlt : i % z.size < z.size := Nat.mod_lt _ (by omega)
  rw [getElem!_pos z _ hlt]
  exact List.all_eq_true.1 h _ (by simp)
theorem RV.anys {w : World} {C : Ctx} : ∀ (l : List Value), (∀ x ∈ l, x.oneCell' = true) → RV w C (List.replicate l.length .any) l
  | [], _ => by simp [RV]
  | x :: l, h => ⟨x, l, rfl, h x (by simp), RV.anys l fun y hy => h y (by simp [hy])⟩
theorem RV.toAny {w : World} {C : Ctx} {cs : List AC} {l : List Value} (h : RV w C cs l) : RV w C (List.replicate cs.length .any) l := by
  rw [← h.length]; exact RV.anys l h.one
theorem flat_len {s : Nat} : ∀ {es : List (List AC)}, (∀ x ∈ es, x.length = s) → es.flatten.length = es.length * s
  | [], _ => by simp
  | e :: es, h => by
    have ih := flat_len (es := es) (fun x hx => h x (List.mem_cons_of_mem _ hx))
    have he := h e (List.mem_cons_self ..)
    simp only [List.flatten_cons, List.length_append, List.length_cons, ih, he, Nat.add_mul, Nat.one_mul]; omega
section
variable {Γ : List (Nat × List AC)} {F : Nat → Prop} {w : World} {C : Ctx} {σ : St}
theorem appendRoom {P : Program} {w : World} (t ty e T : TypeId) (i : TypeInfo) (ht : P.underlying t = some (.slice e)) (hi : P.info? e = some i) (g n cap : Nat) (cur : Array Value) (hg : w.heap[g]? = some (.cells cur T (0, 0)))
    (a : Addr) (m c : Nat) (news : List Value) (hl : news.length = m * i.size) (hnews : ∀ j u, news[j]? = some u → w.cell? (a.add j) = some u) (h1 : ∀ u ∈ news, u.oneCell' = true) (hroom : n + m ≤ cap) (hfit : n * i.size + news.length ≤ cur.size) :
    (Builtin.append_ #[t, t] ty #[.slice (some ⟨g, 0, none⟩) n cap, .slice (some a) m c]).run P w = .ok (.slice (some ⟨g, 0, none⟩) (n + m) cap) (w.setRow g (cur.toList.take (n * i.size) ++ news ++ cur.toList.drop (n * i.size + news.length)).toArray) := by
  have k1 := run_firstCells_some (P := P) w i.size m a m c news hl hnews
  have k2 := run_storeCells_at P g (n * i.size) T news 0 cur w hg (by simpa using hfit) h1
  rw [Nat.add_zero] at k2
  simp [Builtin.append_, run_underlying ht, sizeOf, typeInfo, hi, Builtin.lenOf, hroom, k1, Addr.add_lit, k2]
theorem vec_len {s cap : Nat} {es : List (List AC)} (hl : ∀ x ∈ es, x.length = s) (hn : es.length ≤ cap) : (vec s es cap).length = cap * s := by
  rw [vec, List.length_append, flat_len hl, List.length_replicate, ← Nat.add_mul]; congr 1; omega
theorem vec_put {s cap : Nat} {es news : List (List AC)} {xs nv : List Value} (hel : ∀ x ∈ es, x.length = s) (hnc : es.length ≤ cap) (hxe : RV w C es.flatten (xs.take (es.length * s))) (hnr : RV w C news.flatten nv) (hnvl : nv.length = news.length * s) (o3 : RV w C (vec s es cap) xs) :
    RV w C (vec s (es ++ news) cap) (xs.take (es.length * s) ++ nv ++ xs.drop (es.length * s + nv.length)) := by
  have e1 : ((vec s es cap).drop (es.length * s + nv.length)).length = (cap - (es ++ news).length) * s := by
    rw [List.length_drop, vec_len hel hnc, hnvl, ← Nat.add_mul, List.length_append, Nat.sub_mul]
  have e2 : vec s (es ++ news) cap = es.flatten ++ news.flatten ++ List.replicate ((cap - (es ++ news).length) * s) .any := by rw [vec, List.flatten_append]
  rw [e2, ← e1]
  exact (hxe.append hnr).append (o3.drop _).toAny
/-- AN APPEND to an array that is written in place. -/
theorem Inv.appendOwn (hi : Inv Γ F w C σ) {P : Program} {t ty e : TypeId} {tj : TI} (hsl : P.underlying t = some (.slice e)) (hj : TIOk P e tj) {c d : AC} {s cap0 : Nat} {es news : List (List AC)} {σ1 : St} (hb : BaseO σ c s es cap0 σ1) (hsrc : Src d s news) (hne : news ≠ [])
    (hs : tj.size = s) (hbytes : (es.length + news.length) * tj.bytes ≤ 140737488355328) (h63 : es.length + news.length ≤ 140737488355328) {v u : Value} (hv : R w C c v) (hu : R w C d u) :
    ∃ v' w' C' cap, (Builtin.append_ #[t, t] ty #[v, u]).run P w = .ok v' w' ∧ Goes F (fun _ => True) w C w' C' ∧ Inv Γ F w' C' (σ1.push (.cells (vec s (es ++ news) cap))) ∧ R w' C' (.arr (.l σ.n) s 0 (es ++ news).length cap) v' ∧ (es ++ news).length ≤ cap := by
  obtain ⟨i0, dd, z, g1, g2, g3, g4, g5, g6, g7, g8⟩ := hj.ex
  have hzl : z.cells.size = tj.size := by have := hj.len; rw [← g6] at this; simpa using this
  have hpos := hj.pos
  obtain ⟨hnl, b, capn, nv, rfl, hnvl, hnr, hheld, _⟩ := hsrc.held hu
  obtain ⟨ad, rfl, hh2⟩ := hheld.resolve_left hne
  have hm0 : 0 < news.length := List.length_pos_iff.2 hne
  have hnv1 : ∀ x ∈ nv, x.oneCell' = true := RV.one hnr
  have hnvl' : nv.length = news.length * i0.size := by rw [hnvl, g3, hs]
  have hone := hj.one
  rw [← g6] at hone
  -- a new row
  have newrow : ∀ (σ1 : St) (hi1 : Inv Γ F w C σ1) (hn1 : σ1.n = σ.n) (xs : List Value) (capk : Nat), RV w C es.flatten xs → (es ++ news).length ≤ capk → ∀ zc : Array Value, zc = Builtin.zeroCells z.cells (capk - (es ++ news).length) →
      ∃ C', Goes F (fun _ => True) w C (w.drew.alloc (.cells (xs.toArray ++ nv.toArray ++ zc) e)) C' ∧ Inv Γ F (w.drew.alloc (.cells (xs.toArray ++ nv.toArray ++ zc) e)) C' (σ1.push (.cells (vec s (es ++ news) capk))) ∧
        R (w.drew.alloc (.cells (xs.toArray ++ nv.toArray ++ zc) e)) C' (.arr (.l σ.n) s 0 (es ++ news).length capk) (.slice (some ⟨w.heap.size, 0, none⟩) (es ++ news).length capk) := by
    intro σ1 hi1 hn1 xs capk hxr hck zc hzc
    obtain ⟨he0, hid⟩ := hi1.drew
    have hz1 : ∀ x ∈ zc.toList, x.oneCell' = true := by rw [hzc]; exact zeroCells_one hone (by rw [hzl]; exact hpos) _
    have hzn : zc.toList.length = (capk - (es ++ news).length) * s := by rw [Array.length_toList, hzc, size_zeroCells, hzl, hs]
    have hr : RV w.drew C (vec s (es ++ news) capk) (xs ++ nv ++ zc.toList) := by
      rw [vec, List.flatten_append, ← hzn]
      exact ((hxr.append hnr).ext he0).append (RV.anys _ hz1)
    obtain ⟨C', he, hno, hnp, hin, hok, hblk⟩ := hid.newObj hr e
    have heq : (xs ++ nv ++ zc.toList).toArray = xs.toArray ++ nv.toArray ++ zc := by apply Array.ext'; simp
    rw [heq] at he hin
    refine ⟨C', ⟨(Stp.drew F w).trans (Stp.alloc (w := w.drew) hi.base _ _), he0.trans he, by rw [hno]; exact Nat.le_refl _, hnp⟩, hin, ⟨by rw [← hn1]; exact hok, ?_, hck⟩⟩
    rw [← hn1, hblk, Nat.zero_mul]; rfl
  cases hb with
  | nil =>
    simp only [R] at hv
    obtain ⟨rfl, _⟩ := hv
    have hr := run_append_nil (P := P) w t ty e i0 z hsl g1 g5 ad news.length capn nv hnvl' hh2 hm0 (by simp at h63; omega) (by rw [g4]; simp at hbytes; omega)
    have hge := grownCap_ge w news.length 0 e
    obtain ⟨C', k1, k2, k3⟩ := newrow σ hi rfl [] (grownCap w news.length 0 e) (by simp [RV]) (by simpa using hge) _ rfl
    refine ⟨_, _, C', _, hr, ?_, ?_, ?_, by simpa using hge⟩
    · simpa using k1
    · simpa using k2
    · simpa using k3
  | own _ _ _ i h hel hnc =>
    simp only [R, Nat.zero_mul] at hv
    obtain ⟨hok, rfl, _⟩ := hv
    obtain ⟨xs, T, o1, o2, o3, o4⟩ := (hi.obj i _ h).2
    have hkill := hi.kill h
    have hxl := RV.length o3
    have hfl := flat_len hel
    have hle : es.length * s ≤ xs.length := by rw [hxl, vec, List.length_append, hfl]; omega
    have hxe : RV w C es.flatten (xs.take (es.length * s)) := by
      have := o3.take (es.length * s)
      rwa [vec, List.take_append_of_le_length (by omega), List.take_of_length_le (by omega)] at this
    have hall : ∀ x ∈ es ++ news, x.length = s := fun x hx => (List.mem_append.1 hx).elim (hel x) (hnl x)
    by_cases hroom : es.length + news.length ≤ cap0
    · have hxs : xs.length = cap0 * s := by rw [hxl, vec_len hel hnc]
      have hfit : es.length * i0.size + nv.length ≤ xs.toArray.size := by
        rw [g3, hs, hnvl, ← Nat.add_mul]
        simp only [List.size_toArray, hxs]
        exact Nat.mul_le_mul_right _ hroom
      have hr := appendRoom (P := P) (w := w) t ty e T i0 hsl g1 (C.blk i) es.length cap0 xs.toArray o1 ad news.length capn nv hnvl' hh2 hnv1 hroom hfit
      rw [g3, hs] at hr hfit
      simp only [List.toList_toArray] at hr
      have hrv := vec_put hel hnc hxe hnr hnvl o3
      have hgh := setRow_heap' w (C.blk i) xs.toArray (xs.take (es.length * s) ++ nv ++ xs.drop (es.length * s + nv.length)).toArray T o1
      have hne2 : ∀ j p g, (σ.set i .dead).get j = some p → p.block C j = some g → g ≠ C.blk i := fun j p g hp hbk e => by
        by_cases e' : i = j
        · subst e'; rw [St.get_set_same] at hp; cases hp; simp [AObj.block] at hbk
        · rw [St.get_set_ne σ e'] at hp
          exact e' (hi.inj i j _ p g h hp (by rw [e]; rfl) hbk)
      have he : Ext w C (w.setRow (C.blk i) (xs.take (es.length * s) ++ nv ++ xs.drop (es.length * s + nv.length)).toArray) (C.more (C.blk i) none) :=
        ⟨fun a ha => World.cell?_of_block (setRow_other w _ _ _ fun e' => o4 a e' ha), fun a ha => ha, fun j _ ho => Ctx.more_old C _ _ ho⟩
      have hsz : (w.setRow (C.blk i) (xs.take (es.length * s) ++ nv ++ xs.drop (es.length * s + nv.length)).toArray).heap.size = w.heap.size := by simp
      have hnw := Ctx.more_new C (C.blk i) none (n := (σ.set i .dead).n) (by rw [← hkill.next])
      have hadd : Inv Γ F (w.setRow (C.blk i) (xs.take (es.length * s) ++ nv ++ xs.drop (es.length * s + nv.length)).toArray) (C.more (C.blk i) none) ((σ.set i .dead).push (.cells (vec s (es ++ news) cap0))) := by
        refine hkill.addObj (o := .cells (vec s (es ++ news) cap0)) (d := .l (σ.set i .dead).n) (St.get_push _ _) he ?_ ?_ ?_ ?_ ?_ hnw.1 ?_ ?_
        · show C.nl + 1 = (σ.set i .dead).n + 1
          rw [hkill.next]
        · intro k hk; rw [hsz]; exact hi.base k hk
        · intro a ha; rw [hsz]; exact hi.prot a ha
        · intro j p hp g x hbk hx
          rw [setRow_other w _ g _ (hne2 j p g hp hbk)]; exact hx
        · exact fun _ _ _ _ _ _ ha => ha
        · exact ⟨_, T, by rw [hnw.2.1]; exact hgh, by rw [hnw.2.1]; exact o2, hrv.ext he, fun a ha hp => o4 a (by rw [ha, hnw.2.1]) hp⟩
        · intro j p g hp hbk hb2
          simp only [AObj.block, Option.some.injEq] at hb2
          exact hne2 j p g hp hbk (by rw [← hb2, hnw.2.1])
      have hgo : Goes F (fun _ => True) w C (w.setRow (C.blk i) (xs.take (es.length * s) ++ nv ++ xs.drop (es.length * s + nv.length)).toArray) (C.more (C.blk i) none) := by
        refine ⟨⟨rfl, rfl, rfl, Nat.le_of_eq hsz.symm, fun k hk => setRow_other w _ k _ (by rintro rfl; exact o2 hk), fun a _ => ?_⟩, he, Nat.le_refl _, fun a ha => .inl ha⟩
        by_cases e' : a.block = C.blk i
        · simp only [World.frozen?, e', hgh, o1]
        · exact World.frozen?_of_block (setRow_other w _ a.block _ e')
      have hn2 : (σ.set i .dead).n = σ.n := St.n_set ..
      rw [hn2] at hnw
      refine ⟨_, _, C.more (C.blk i) none, cap0, hr, hgo, hadd, ?_, by rw [List.length_append]; exact hroom⟩
      simp only [R]
      exact ⟨hnw.1, by rw [hnw.2.1, Nat.zero_mul, List.length_append], by rw [List.length_append]; exact hroom⟩
    · clear hkill
      have hkill := hi.kill h
      have hheld2 : Held w (xs.take (es.length * s)) ⟨C.blk i, 0, none⟩ := fun j v hj => by
        have h2 : j < es.length * s := by have := (List.getElem?_eq_some_iff.1 hj).1; simp at this; omega
        rw [List.getElem?_take_of_lt h2] at hj
        rw [Addr.add_none rfl, cell_of_row _ _ _ _ _ _ o1]
        simpa using hj
      have hr := run_append_grow (P := P) w t ty e i0 z hsl g1 g5 ⟨C.blk i, 0, none⟩ es.length cap0 (xs.take (es.length * s)) (by simp [g3, hs]; omega) hheld2 ad news.length capn nv hnvl' hh2 (by omega) (by omega) (growslice_fits (by omega) (by rw [g4]; exact hbytes))
      have hge := grownCap_ge w (es.length + news.length) cap0 e
      obtain ⟨C', k1, k2, k3⟩ := newrow _ hkill (St.n_set ..) (xs.take (es.length * s)) (grownCap w (es.length + news.length) cap0 e) hxe (by simpa using hge) _ rfl
      refine ⟨_, _, C', _, ?_, k1, k2, k3, by simpa using hge⟩
      simpa using hr
end
/-- An append to an array that is written in place, as a step: how much room there is then is not known. -/
theorem AOps.appOwn {E : Env} {ops : Array Oper} {rest : List Oper} {K : Cont} {o : Oper} {fr : Fr} {σ σ1 : St} {dd : Nat} {t : TypeId} {ti tj : TI} {x y : Operand} {c d : AC} {s cap0 : Nat} {es news : List (List AC)} (hT : TabOk E.P E.T) (hgd : o.guard = none) (hdst : o.dst = some dd) (hdd : Nat.ble (dd + 1) E.N = true)
    (ho : o.op = .call { callee := .builtin .append, args := #[x, y], argTypes := #[t, t] }) (ht : Tab.get t E.T = some ti) (hk : Nat.beq ti.kind 2 = true) (hj : Tab.get ti.elem E.T = some tj) (hx : aEval E.Γ fr x = some (.one c)) (hy : aEval E.Γ fr y = some (.one d)) (hb : BaseO σ c s es cap0 σ1) (hsrc : Src d s news) (hne : news ≠ [])
    (hs : Nat.beq tj.size s = true) (hbytes : (es.length + news.length) * tj.bytes ≤ 140737488355328) (h63 : es.length + news.length ≤ 140737488355328)
    (h : ∀ cap, (es ++ news).length ≤ cap → AOps E ops rest K ((dd, .one (.arr (.l σ.n) s 0 (es ++ news).length cap)) :: fr) (σ1.push (.cells (vec s (es ++ news) cap)))) : AOps E ops (o :: rest) K fr σ := by
  intro F w0 C0 w C tmps hg hi hf
  refine wpList_plain hgd fun N' hN => ?_
  have h1 := aEval_ok (a := ⟨tmps, []⟩) hi hf hx
  have h2 := aEval_ok (a := ⟨tmps, []⟩) hi hf hy
  simp only [RF] at h1 h2
  obtain ⟨v', w', C', cap, hrun, hgo, hi', hr, hle⟩ := hi.appendOwn (ty := o.type) ((hT t ti ht).slice (Nat.eq_of_beq_eq_true hk)) (hT _ _ hj) hb hsrc hne (Nat.eq_of_beq_eq_true hs) hbytes h63 h1 h2
  have hex : (execOp (Act.eval ⟨tmps, []⟩) o).run E.P w = .ok (.value v') w' := by
    unfold execOp
    simp only [ho, resolve, invoke, builtin, Sem.run_bind, Sem.run_pure, Result.andThen_ok, List.map_toArray, List.map_cons, List.map_nil, hrun]
  unfold Oper.wp
  rw [hex, Oper.upon_value]
  refine hN _ _ ?_
  rw [put_eta, hdst]
  exact h cap hle F w0 C0 w' C' _ (hg.trans hgo.toO) hi' (putFr_ok (dst := some dd) (hf.ext hgo.chg) hdd hr)
end Go.Abs
